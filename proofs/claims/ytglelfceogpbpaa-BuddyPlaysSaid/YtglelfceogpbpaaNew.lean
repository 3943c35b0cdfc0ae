/- buddy.New -/
import Derived.Test.YtglelfceogpbpaaFree
import Derived.Test.YtglelfceogpbpaaPure3
namespace Go.Proofs.Ytglelfceogpbpaa
open Go.RowKit Go.Shelf

section
variable {z w : World} {F : List Chunk} {M : Mem}

theorem new_nil (hs : Sat z w F) (r : Int) :
    Calls Try.prog 18 #[.pointer none, .int .i64 r] w fun e w' => e = .returned (.tuple #[.pointer none, .int .i64 1]) ∧ Sat z w' F := by
  go_enter Try.func18, Try.ntmps18
  go_wp2
  go_ret2
  exact ⟨rfl, hs⟩

theorem new_bad (hs : Sat z w (M.hp :: F)) (r : Int) (h : r < 0 ∨ M.n < r) :
    Calls Try.prog 18 #[.pointer (some ⟨M.p, 0, none⟩), .int .i64 r] w fun e w' => e = .returned (.tuple #[.pointer none, .int .i64 1]) ∧ Sat z w' (M.hp :: F) := by
  rcases h with h | h
  · go_enter Try.func18, Try.ntmps18
    go_wp2
    go_ret2
    exact ⟨rfl, hs⟩
  · have h' : ¬ r < 0 := by omega
    go_enter Try.func18, Try.ntmps18
    go_wp2_with (go_at_call 14; refine (mem_frames hs).mono ?_; rintro e w' ⟨rfl, rfl⟩)
    go_ret2
    exact ⟨rfl, hs⟩

def Bd.fresh (p mp hb : Nat) : Bd := ⟨p, mp, hb, List.replicate 9 IRow.empty, [], 0⟩

set_option maxRecDepth 100000 in
theorem new_ok (hs : Sat z w (M.hp :: F)) (hM : M.ok) (r : Nat) (hr : r ≤ M.n) :
    Calls Try.prog 18 #[.pointer (some ⟨M.p, 0, none⟩), .int .i64 r] w fun e w' => ∃ B : Bd, e = .returned (.tuple #[.pointer (some ⟨B.p, 0, none⟩), .int .i64 0]) ∧ B.ok ∧ B.mp = M.p ∧ B.ents = [] ∧ NI B.L r M.n M.n ∧
      Sat z w' (B.hp :: M.hp :: F) := by
  have h0 : ¬ (r : Int) < 0 := by omega
  have h1 : ¬ M.n < r := by omega
  have hmm := @run_makeMap Try.prog
  go_enter Try.func18, Try.ntmps18
  go_wp2_with (go_at_call 14; refine (mem_frames hs).mono ?_; rintro e w' ⟨rfl, rfl⟩)
  have hbase : Sat z ((w.alloc (.map #[] 0)).alloc (.cells (Bd.fresh (w.heap.size + 1) M.p w.heap.size).cells.toArray 66)) (Bd.hp (Bd.fresh (w.heap.size + 1) M.p w.heap.size) :: M.hp :: F) := by
    have h1 := ((hs.allocd (.map #[] 0)).allocd (.cells (Bd.fresh (w.heap.size + 1) M.p w.heap.size).cells.toArray 66))
    have h2 := h1.join
    have e : (w.alloc (.map #[] 0)).heap.size = w.heap.size + 1 := by simp
    rw [e] at h2
    exact h2
  change Sat z ((w.alloc (.map #[] 0)).alloc (.cells #[Value.pointer (some ⟨M.p, 0, none⟩), .slice none 0 0, .slice none 0 0, .slice none 0 0, .slice none 0 0, .slice none 0 0, .slice none 0 0, .slice none 0 0, .slice none 0 0, .slice none 0 0, .map (some w.heap.size)] 66)) _ at hbase
  generalize w.heap.size = hb at *
  generalize (w.alloc (.map #[] 0)).alloc (.cells #[Value.pointer (some ⟨M.p, 0, none⟩), .slice none 0 0, .slice none 0 0, .slice none 0 0, .slice none 0 0, .slice none 0 0, .slice none 0 0, .slice none 0 0, .slice none 0 0, .slice none 0 0, .map (some hb)] 66) = w1 at *
  have hfresh : (Bd.fresh (hb + 1) M.p hb).ok := ⟨by simp [Bd.fresh], fun r hr => by simp [Bd.fresh] at hr; subst hr; exact IRow.empty_ok⟩
  have hfL : ∀ k, (Bd.fresh (hb + 1) M.p hb).L k = [] := fun k => by
    simp only [Bd.L, Bd.fresh, List.getD_eq_getElem?_getD, List.getElem?_replicate]
    split <;> rfl
  have Hb := Lib.hid hbase
  have n0 := hM.n0
  have n1 := hM.n1
  clear hbase hmm h0 h1
  go_loopg [7, 8] (M.n - r) (fun k a _ wr => ∃ (t : Nat) (B : Bd), a = .int .i64 t ∧ r ≤ t ∧ t ≤ M.n ∧ k = M.n - t ∧ B.p = hb + 1 ∧ B.ok ∧ B.mp = M.p ∧ B.ents = [] ∧ NI B.L r t M.n ∧ Sat z wr (B.hp :: M.hp :: F))
  case atStart =>
    refine ⟨r, Bd.fresh (hb + 1) M.p hb, rfl, Nat.le_refl _, hr, rfl, rfl, hfresh, rfl, rfl, ⟨fun k _ => by rw [hfL]; simp [Rising], fun k x hx => by rw [hfL] at hx; simp at hx, ⟨fun k q hq => by rw [hfL] at hq; simp at hq, fun i => ⟨fun h => by omega, fun ⟨k, hk⟩ => by rw [hfL] at hk; simp at hk⟩, fun i k k' h => by rw [hfL] at h; simp at h⟩, hr⟩, Hb.out⟩
  case round =>
    obtain ⟨t, B, rfl, ht1, ht2, rfl, hBp, hBok, hBm, hBe, hNI, hBs⟩ := hrel
    have Hs := Lib.hid hBs
    clear hBs
    by_cases hlt : t < M.n
    · go_wp2_with (go_at_call 14; refine (mem_frames Hs.out.swap).mono ?_; rintro e w' ⟨rfl, rfl⟩)
      go_loopg [8] 8 (fun k o wv => ∃ m : Nat, o = .int .i64 m ∧ k + m = 8 ∧ Hid (gord M.n t k m = gord M.n t 8 0) ∧ Hid (t % 2 ^ m = 0 ∧ t + 2 ^ m ≤ M.n) ∧ Sat z wv (B.hp :: M.hp :: F))
      case atStart => exact ⟨0, rfl, rfl, rfl, ⟨by simp [Nat.mod_one], by simp; omega⟩, Hs.out⟩
      case round =>
        obtain ⟨m, rfl, hkm, Hgk, Hal, hvs⟩ := hrel
        have Hv := Lib.hid hvs.drew
        clear hvs Hs
        have hm8 : m ≤ 8 := by omega
        cases gk with
        | zero =>
          have hme : m = 8 := by omega
          have hnl : ¬ (m : Int) < 8 := by omega
          have Hgm : Hid (m = gord M.n t 8 0) := Lib.hid (by rw [← Hgk.out, hme]; rfl)
          clear hme hkm Hgk
          go_wp2_with fail
          refine wp_region_plan (fun _ => True) [(0, false), (1, false), (2, false), (3, false), (4, false), (5, false), (6, false), (7, false), (8, false), (9, false), (10, false), (11, false), (12, false), (13, false), (14, false), (15, false), (16, false), (17, false)] (by kernel_rfl) (by kernel_rfl) trivial ?_
          refine wpPlan_q (v := ?_) rfl rfl ?_ ?_; rotate_left 1; · (intro wS hS; go_simp; try with_reducible rfl)
          simp only [Act.put, List.setIfInBounds_toArray, List.set_cons_zero, List.set_cons_succ]
          refine wpPlan_q (v := .bool false) rfl rfl ?_ ?_; · (intro wS hS; go_simp <;> simp [hnl])
          simp only [Act.put, List.setIfInBounds_toArray, List.set_cons_zero, List.set_cons_succ]
          refine wpPlan_q (v := ?_) rfl rfl ?_ ?_; rotate_left 1; · (intro wS hS; go_simp; try with_reducible rfl)
          simp only [Act.put, List.setIfInBounds_toArray, List.set_cons_zero, List.set_cons_succ]
          refine wpPlan_n rfl rfl ?_
          simp only [Act.put, List.setIfInBounds_toArray, List.set_cons_zero, List.set_cons_succ]
          refine wpPlan_n rfl rfl ?_
          simp only [Act.put, List.setIfInBounds_toArray, List.set_cons_zero, List.set_cons_succ]
          refine wpPlan_n rfl rfl ?_
          simp only [Act.put, List.setIfInBounds_toArray, List.set_cons_zero, List.set_cons_succ]
          refine wpPlan_n rfl rfl ?_
          simp only [Act.put, List.setIfInBounds_toArray, List.set_cons_zero, List.set_cons_succ]
          refine wpPlan_n rfl rfl ?_
          simp only [Act.put, List.setIfInBounds_toArray, List.set_cons_zero, List.set_cons_succ]
          refine wpPlan_q (v := ?_) rfl rfl ?_ ?_; rotate_left 1; · (intro wS hS; go_simp; try with_reducible rfl)
          simp only [Act.put, List.setIfInBounds_toArray, List.set_cons_zero, List.set_cons_succ]
          refine wpPlan_q (v := ?_) rfl rfl ?_ ?_; rotate_left 1; · (intro wS hS; go_simp; try with_reducible rfl)
          simp only [Act.put, List.setIfInBounds_toArray, List.set_cons_zero, List.set_cons_succ]
          refine wpPlan_n rfl rfl ?_
          simp only [Act.put, List.setIfInBounds_toArray, List.set_cons_zero, List.set_cons_succ]
          refine wpPlan_n rfl rfl ?_
          simp only [Act.put, List.setIfInBounds_toArray, List.set_cons_zero, List.set_cons_succ]
          refine wpPlan_n rfl rfl ?_
          simp only [Act.put, List.setIfInBounds_toArray, List.set_cons_zero, List.set_cons_succ]
          refine wpPlan_n rfl rfl ?_
          simp only [Act.put, List.setIfInBounds_toArray, List.set_cons_zero, List.set_cons_succ]
          refine wpPlan_n rfl rfl ?_
          simp only [Act.put, List.setIfInBounds_toArray, List.set_cons_zero, List.set_cons_succ]
          refine wpPlan_n rfl rfl ?_
          simp only [Act.put, List.setIfInBounds_toArray, List.set_cons_zero, List.set_cons_succ]
          refine wpPlan_n rfl rfl ?_
          simp only [Act.put, List.setIfInBounds_toArray, List.set_cons_zero, List.set_cons_succ]
          refine wpPlan_q (v := ?_) rfl rfl ?_ ?_; rotate_left 1; · (intro wS hS; go_simp; try with_reducible rfl)
          simp only [Act.put, List.setIfInBounds_toArray, List.set_cons_zero, List.set_cons_succ]
          refine wpPlan_nil (NoPanic.normal ?_)
          have hpt : Nat.pow 2 m = 2 ^ m := rfl
          have hput := put_ok Hv.out hBok t m hm8 (hNI.len hM.n1 m hm8) (hNI.rise m hm8).le
          rw [hBp] at hput
          have Hp := Lib.hid hput
          have hgs := gord_spec M.n t 8 0 rfl (by simp [Nat.mod_one]) (by simp; omega)
          rw [← Hgm.out] at hgs
          have hstep := hNI.step ht1 hlt m Hgm.out
          have hle : t + 2 ^ m ≤ M.n := hgs.2.2.1
          have hpos := Nat.two_pow_pos m
          have Hgs := Lib.hid hgs
          have Hst := Lib.hid hstep
          obtain ⟨X, hX⟩ : ∃ X : Nat, X = 2 ^ m := ⟨_, rfl⟩
          have HX := Lib.hid hX
          clear hput hgs hstep hpt
          rw [← hX] at hpos hle
          clear hX
          go_wp2_with (first | (go_at_call 34; refine Hp.out.mono ?_; rintro e w6 ⟨r', rfl, hr1', hr2', h7⟩) | (refine wpList_val (o := ⟨some 57, _, _, _, _, _⟩) (v := .int .i64 (X : Int)) rfl (exec_shl 3 3 (.const (.int .i64 1)) (.tmp 56) rfl 0 m (by omega) (by omega) 1 (X : Int) (by simp) (by rw [HX.out]; simp) rfl (by simp [Act.eval])) ?_))
          have H7 := Lib.hid h7
          clear h7
          go_roundg (M.n - (t + X))
          case measure => omega
          case rel =>
            refine ⟨t + X, B.setRow m r', by rw [Int.natCast_add], by omega, by omega, rfl, hBp, hr1', hBm, hBe, ?_, H7.out⟩
            have e : (B.setRow m r').L = fun i => if i = m then ins (t : Int) (B.L i) else B.L i := by
              funext i
              rw [Bd.L_setRow B m r' (by rw [hBok.nine]; omega)]
              by_cases e : i = m
              · subst e; rw [if_pos rfl, if_pos rfl, hr2']
              · rw [if_neg e, if_neg e]
            rw [e, HX.out]
            exact Hst.out
        | succ k =>
          have hml : (m : Int) < 8 := by omega
          have hm9 : m < 8 := by omega
          have hY0 := Nat.two_pow_pos (m + 1)
          obtain ⟨Y, hY⟩ : ∃ Y : Nat, Y = 2 ^ (m + 1) := ⟨_, rfl⟩
          have Hg1 : Hid (gord M.n t (k + 1) m = if t % Y = 0 ∧ t + Y ≤ M.n then gord M.n t k (m + 1) else m) := Lib.hid (by rw [hY]; rfl)
          have HY := Lib.hid hY
          rw [← hY] at hY0
          have hYl : Y ≤ 256 := by
            rw [hY]
            exact Nat.pow_le_pow_right (n := 2) (i := m + 1) (j := 8) (by omega) (by omega)
          clear hY
          have hs35 : ∀ t' : Nat, (2 : Int) ^ (1 + m) = (Y : Int) := fun _ => by rw [HY.out, Nat.add_comm]; simp
          have Hs35 := Lib.hid hs35
          clear hs35
          by_cases hb : t % Y = 0
          · by_cases hc : t + Y ≤ M.n
            · have hgl : gord M.n t k (m + 1) = gord M.n t 8 0 := by rw [← Hgk.out, Hg1.out, if_pos ⟨hb, hc⟩]
              have Hgl := Lib.hid hgl
              have Hb := Lib.hid hb
              have hc' : (t : Int) + (Y : Int) ≤ (M.n : Int) := by omega
              have hw43 : IntKind.i64.wrap ((t : Int) + (Y : Int)) = (t : Int) + (Y : Int) := by rw [IntKind.wrap_i64]; omega
              have Hw43 := Lib.hid hw43
              have Hkm := Lib.hid hkm
              clear hgl hb hw43 hkm
              go_wp2_with fail
              refine wp_region_plan (fun w' => Sat z w' (B.hp :: M.hp :: F)) [(0, false), (1, false), (2, false), (3, false), (4, false), (5, false), (6, false), (7, false), (8, false), (9, false), (10, false), (11, false), (12, false), (13, false), (14, false), (15, true), (16, false), (17, false)] (by kernel_rfl) (by kernel_rfl) Hv.out ?_
              refine wpPlan_q (v := ?_) rfl rfl ?_ ?_; rotate_left 1; · (intro wS hS; go_simp; try with_reducible rfl)
              simp only [Act.put, List.setIfInBounds_toArray, List.set_cons_zero, List.set_cons_succ]
              refine wpPlan_q (v := .bool true) rfl rfl ?_ ?_; · (intro wS hS; go_simp <;> simp [hml])
              simp only [Act.put, List.setIfInBounds_toArray, List.set_cons_zero, List.set_cons_succ]
              refine wpPlan_q (v := ?_) rfl rfl ?_ ?_; rotate_left 1; · (intro wS hS; go_simp; try with_reducible rfl)
              simp only [Act.put, List.setIfInBounds_toArray, List.set_cons_zero, List.set_cons_succ]
              refine wpPlan_g (v := ?_) rfl rfl ?_ ?_; rotate_left 1; · (intro wS hS; go_simp; try with_reducible rfl)
              simp only [Act.put, List.setIfInBounds_toArray, List.set_cons_zero, List.set_cons_succ]
              refine wpPlan_g (v := ?_) rfl rfl ?_ ?_; rotate_left 1; · (intro wS hS; go_simp; try with_reducible rfl)
              simp only [Act.put, List.setIfInBounds_toArray, List.set_cons_zero, List.set_cons_succ]
              refine wpPlan_g (v := vi (Y : Int)) rfl rfl (fun wS hS => exec_shl 3 3 (.const (.int .i64 2)) (.tmp 34) rfl 1 m (by omega) (by omega) 2 (Y : Int) (by simp) (Hs35.out 0) rfl (by simp [Act.eval])) ?_
              simp only [Act.put, List.setIfInBounds_toArray, List.set_cons_zero, List.set_cons_succ]
              refine wpPlan_g (v := vi ((0 : Nat) : Int)) rfl rfl (fun wS hS => exec_rem 3 3 (.tmp 33) (.tmp 35) rfl t Y 0 hY0 Hb.out (by simp [Act.eval]) (by simp [Act.eval])) ?_
              simp only [Act.put, List.setIfInBounds_toArray, List.set_cons_zero, List.set_cons_succ]
              refine wpPlan_g (v := ?_) rfl rfl ?_ ?_; rotate_left 1; · (intro wS hS; go_simp; try with_reducible rfl)
              simp only [Act.put, List.setIfInBounds_toArray, List.set_cons_zero, List.set_cons_succ]
              refine wpPlan_q (v := ?_) rfl rfl ?_ ?_; rotate_left 1; · (intro wS hS; go_simp; try with_reducible rfl)
              simp only [Act.put, List.setIfInBounds_toArray, List.set_cons_zero, List.set_cons_succ]
              refine wpPlan_q (v := ?_) rfl rfl ?_ ?_; rotate_left 1; · (intro wS hS; go_simp; try with_reducible rfl)
              simp only [Act.put, List.setIfInBounds_toArray, List.set_cons_zero, List.set_cons_succ]
              refine wpPlan_g (v := ?_) rfl rfl ?_ ?_; rotate_left 1; · (intro wS hS; go_simp; try with_reducible rfl)
              simp only [Act.put, List.setIfInBounds_toArray, List.set_cons_zero, List.set_cons_succ]
              refine wpPlan_g (v := ?_) rfl rfl ?_ ?_; rotate_left 1; · (intro wS hS; go_simp; try with_reducible rfl)
              simp only [Act.put, List.setIfInBounds_toArray, List.set_cons_zero, List.set_cons_succ]
              refine wpPlan_g (v := vi (Y : Int)) rfl rfl (fun wS hS => exec_shl 3 3 (.const (.int .i64 2)) (.tmp 41) rfl 1 m (by omega) (by omega) 2 (Y : Int) (by simp) (Hs35.out 0) rfl (by simp [Act.eval])) ?_
              simp only [Act.put, List.setIfInBounds_toArray, List.set_cons_zero, List.set_cons_succ]
              refine wpPlan_g (v := vi ((t : Int) + (Y : Int))) rfl rfl ?_ ?_; · (intro wS hS; go_simp <;> first | exact Hw43.out | simp [Hw43.out])
              simp only [Act.put, List.setIfInBounds_toArray, List.set_cons_zero, List.set_cons_succ]
              refine wpPlan_g (v := ?_) rfl rfl ?_ ?_; rotate_left 1; · (intro wS hS; go_simp; try with_reducible rfl)
              simp only [Act.put, List.setIfInBounds_toArray, List.set_cons_zero, List.set_cons_succ]
              refine wpPlan_eg rfl (fun K hK => ?_)
              rw [if_pos (by rfl)]
              go_wp2_with (go_at_call 14; refine (mem_frames Hv.out.swap).mono ?_; rintro e w6 ⟨rfl, rfl⟩)
              refine hK _ _ Hv.out ?_
              clear hK K
              refine wpPlan_g (v := .bool true) rfl rfl ?_ ?_; · (intro wS hS; go_simp <;> first | exact hc' | simp [hc'])
              simp only [Act.put, List.setIfInBounds_toArray, List.set_cons_zero, List.set_cons_succ]
              refine wpPlan_q (v := ?_) rfl rfl ?_ ?_; rotate_left 1; · (intro wS hS; go_simp; try with_reducible rfl)
              simp only [Act.put, List.setIfInBounds_toArray, List.set_cons_zero, List.set_cons_succ]
              refine wpPlan_nil (NoPanic.normal ?_)
              go_wp2
              go_roundg k
              case measure => omega
              case rel =>
                refine ⟨m + 1, by simp, by have := Hkm.out; omega, Hgl, Lib.hid ⟨by rw [← HY.out]; exact Hb.out, by rw [← HY.out]; exact hc⟩, Hv.out⟩
            · have Hgm : Hid (m = gord M.n t 8 0) := Lib.hid (by rw [← Hgk.out, Hg1.out, if_neg (fun h => hc h.2)])
              have Hb := Lib.hid hb
              have hc' : ¬ (t : Int) + (Y : Int) ≤ (M.n : Int) := by omega
              have hw43 : IntKind.i64.wrap ((t : Int) + (Y : Int)) = (t : Int) + (Y : Int) := by rw [IntKind.wrap_i64]; omega
              have Hw43 := Lib.hid hw43
              clear hb hw43 hkm Hgk Hg1
              go_wp2_with fail
              refine wp_region_plan (fun w' => Sat z w' (B.hp :: M.hp :: F)) [(0, false), (1, false), (2, false), (3, false), (4, false), (5, false), (6, false), (7, false), (8, false), (9, false), (10, false), (11, false), (12, false), (13, false), (14, false), (15, true), (16, false), (17, false)] (by kernel_rfl) (by kernel_rfl) Hv.out ?_
              refine wpPlan_q (v := ?_) rfl rfl ?_ ?_; rotate_left 1; · (intro wS hS; go_simp; try with_reducible rfl)
              simp only [Act.put, List.setIfInBounds_toArray, List.set_cons_zero, List.set_cons_succ]
              refine wpPlan_q (v := .bool true) rfl rfl ?_ ?_; · (intro wS hS; go_simp <;> simp [hml])
              simp only [Act.put, List.setIfInBounds_toArray, List.set_cons_zero, List.set_cons_succ]
              refine wpPlan_q (v := ?_) rfl rfl ?_ ?_; rotate_left 1; · (intro wS hS; go_simp; try with_reducible rfl)
              simp only [Act.put, List.setIfInBounds_toArray, List.set_cons_zero, List.set_cons_succ]
              refine wpPlan_g (v := ?_) rfl rfl ?_ ?_; rotate_left 1; · (intro wS hS; go_simp; try with_reducible rfl)
              simp only [Act.put, List.setIfInBounds_toArray, List.set_cons_zero, List.set_cons_succ]
              refine wpPlan_g (v := ?_) rfl rfl ?_ ?_; rotate_left 1; · (intro wS hS; go_simp; try with_reducible rfl)
              simp only [Act.put, List.setIfInBounds_toArray, List.set_cons_zero, List.set_cons_succ]
              refine wpPlan_g (v := vi (Y : Int)) rfl rfl (fun wS hS => exec_shl 3 3 (.const (.int .i64 2)) (.tmp 34) rfl 1 m (by omega) (by omega) 2 (Y : Int) (by simp) (Hs35.out 0) rfl (by simp [Act.eval])) ?_
              simp only [Act.put, List.setIfInBounds_toArray, List.set_cons_zero, List.set_cons_succ]
              refine wpPlan_g (v := vi ((0 : Nat) : Int)) rfl rfl (fun wS hS => exec_rem 3 3 (.tmp 33) (.tmp 35) rfl t Y 0 hY0 Hb.out (by simp [Act.eval]) (by simp [Act.eval])) ?_
              simp only [Act.put, List.setIfInBounds_toArray, List.set_cons_zero, List.set_cons_succ]
              refine wpPlan_g (v := ?_) rfl rfl ?_ ?_; rotate_left 1; · (intro wS hS; go_simp; try with_reducible rfl)
              simp only [Act.put, List.setIfInBounds_toArray, List.set_cons_zero, List.set_cons_succ]
              refine wpPlan_q (v := ?_) rfl rfl ?_ ?_; rotate_left 1; · (intro wS hS; go_simp; try with_reducible rfl)
              simp only [Act.put, List.setIfInBounds_toArray, List.set_cons_zero, List.set_cons_succ]
              refine wpPlan_q (v := ?_) rfl rfl ?_ ?_; rotate_left 1; · (intro wS hS; go_simp; try with_reducible rfl)
              simp only [Act.put, List.setIfInBounds_toArray, List.set_cons_zero, List.set_cons_succ]
              refine wpPlan_g (v := ?_) rfl rfl ?_ ?_; rotate_left 1; · (intro wS hS; go_simp; try with_reducible rfl)
              simp only [Act.put, List.setIfInBounds_toArray, List.set_cons_zero, List.set_cons_succ]
              refine wpPlan_g (v := ?_) rfl rfl ?_ ?_; rotate_left 1; · (intro wS hS; go_simp; try with_reducible rfl)
              simp only [Act.put, List.setIfInBounds_toArray, List.set_cons_zero, List.set_cons_succ]
              refine wpPlan_g (v := vi (Y : Int)) rfl rfl (fun wS hS => exec_shl 3 3 (.const (.int .i64 2)) (.tmp 41) rfl 1 m (by omega) (by omega) 2 (Y : Int) (by simp) (Hs35.out 0) rfl (by simp [Act.eval])) ?_
              simp only [Act.put, List.setIfInBounds_toArray, List.set_cons_zero, List.set_cons_succ]
              refine wpPlan_g (v := vi ((t : Int) + (Y : Int))) rfl rfl ?_ ?_; · (intro wS hS; go_simp <;> first | exact Hw43.out | simp [Hw43.out])
              simp only [Act.put, List.setIfInBounds_toArray, List.set_cons_zero, List.set_cons_succ]
              refine wpPlan_g (v := ?_) rfl rfl ?_ ?_; rotate_left 1; · (intro wS hS; go_simp; try with_reducible rfl)
              simp only [Act.put, List.setIfInBounds_toArray, List.set_cons_zero, List.set_cons_succ]
              refine wpPlan_eg rfl (fun K hK => ?_)
              rw [if_pos (by rfl)]
              go_wp2_with (go_at_call 14; refine (mem_frames Hv.out.swap).mono ?_; rintro e w6 ⟨rfl, rfl⟩)
              refine hK _ _ Hv.out ?_
              clear hK K
              refine wpPlan_g (v := .bool false) rfl rfl ?_ ?_; · (intro wS hS; go_simp <;> first | exact hc' | simp [hc'])
              simp only [Act.put, List.setIfInBounds_toArray, List.set_cons_zero, List.set_cons_succ]
              refine wpPlan_q (v := ?_) rfl rfl ?_ ?_; rotate_left 1; · (intro wS hS; go_simp; try with_reducible rfl)
              simp only [Act.put, List.setIfInBounds_toArray, List.set_cons_zero, List.set_cons_succ]
              refine wpPlan_nil (NoPanic.normal ?_)
              have hpt : Nat.pow 2 m = 2 ^ m := rfl
              have hput := put_ok Hv.out hBok t m hm8 (hNI.len hM.n1 m hm8) (hNI.rise m hm8).le
              rw [hBp] at hput
              have Hp := Lib.hid hput
              have hgs := gord_spec M.n t 8 0 rfl (by simp [Nat.mod_one]) (by simp; omega)
              rw [← Hgm.out] at hgs
              have hstep := hNI.step ht1 hlt m Hgm.out
              have hle : t + 2 ^ m ≤ M.n := hgs.2.2.1
              have hpos := Nat.two_pow_pos m
              have Hgs := Lib.hid hgs
              have Hst := Lib.hid hstep
              obtain ⟨X, hX⟩ : ∃ X : Nat, X = 2 ^ m := ⟨_, rfl⟩
              have HX := Lib.hid hX
              clear hput hgs hstep hpt
              rw [← hX] at hpos hle
              clear hX
              go_wp2_with (first | (go_at_call 34; refine Hp.out.mono ?_; rintro e w6 ⟨r', rfl, hr1', hr2', h7⟩) | (refine wpList_val (o := ⟨some 57, _, _, _, _, _⟩) (v := .int .i64 (X : Int)) rfl (exec_shl 3 3 (.const (.int .i64 1)) (.tmp 56) rfl 0 m (by omega) (by omega) 1 (X : Int) (by simp) (by rw [HX.out]; simp) rfl (by simp [Act.eval])) ?_))
              have H7 := Lib.hid h7
              clear h7
              go_roundg (M.n - (t + X))
              case measure => omega
              case rel =>
                refine ⟨t + X, B.setRow m r', by rw [Int.natCast_add], by omega, by omega, rfl, hBp, hr1', hBm, hBe, ?_, H7.out⟩
                have e : (B.setRow m r').L = fun i => if i = m then ins (t : Int) (B.L i) else B.L i := by
                  funext i
                  rw [Bd.L_setRow B m r' (by rw [hBok.nine]; omega)]
                  by_cases e : i = m
                  · subst e; rw [if_pos rfl, if_pos rfl, hr2']
                  · rw [if_neg e, if_neg e]
                rw [e, HX.out]
                exact Hst.out
          · have Hgm : Hid (m = gord M.n t 8 0) := Lib.hid (by rw [← Hgk.out, Hg1.out, if_neg (fun h => hb h.1)])
            obtain ⟨R, hR⟩ : ∃ R : Nat, t % Y = R := ⟨_, rfl⟩
            have hR0 : ¬ R = 0 := by omega
            have HR := Lib.hid hR
            clear hkm Hgk Hg1 hR hb
            go_wp2_with fail
            refine wp_region_plan (fun _ => True) [(0, false), (1, false), (2, false), (3, false), (4, false), (5, false), (6, false), (7, false), (8, false), (9, false), (10, false), (11, false), (12, false), (13, false), (14, false), (15, false), (16, false), (17, false)] (by kernel_rfl) (by kernel_rfl) trivial ?_
            refine wpPlan_q (v := ?_) rfl rfl ?_ ?_; rotate_left 1; · (intro wS hS; go_simp; try with_reducible rfl)
            simp only [Act.put, List.setIfInBounds_toArray, List.set_cons_zero, List.set_cons_succ]
            refine wpPlan_q (v := .bool true) rfl rfl ?_ ?_; · (intro wS hS; go_simp <;> simp [hml])
            simp only [Act.put, List.setIfInBounds_toArray, List.set_cons_zero, List.set_cons_succ]
            refine wpPlan_q (v := ?_) rfl rfl ?_ ?_; rotate_left 1; · (intro wS hS; go_simp; try with_reducible rfl)
            simp only [Act.put, List.setIfInBounds_toArray, List.set_cons_zero, List.set_cons_succ]
            refine wpPlan_g (v := ?_) rfl rfl ?_ ?_; rotate_left 1; · (intro wS hS; go_simp; try with_reducible rfl)
            simp only [Act.put, List.setIfInBounds_toArray, List.set_cons_zero, List.set_cons_succ]
            refine wpPlan_g (v := ?_) rfl rfl ?_ ?_; rotate_left 1; · (intro wS hS; go_simp; try with_reducible rfl)
            simp only [Act.put, List.setIfInBounds_toArray, List.set_cons_zero, List.set_cons_succ]
            refine wpPlan_g (v := vi (Y : Int)) rfl rfl (fun wS hS => exec_shl 3 3 (.const (.int .i64 2)) (.tmp 34) rfl 1 m (by omega) (by omega) 2 (Y : Int) (by simp) (Hs35.out 0) rfl (by simp [Act.eval])) ?_
            simp only [Act.put, List.setIfInBounds_toArray, List.set_cons_zero, List.set_cons_succ]
            refine wpPlan_g (v := vi (R : Int)) rfl rfl (fun wS hS => exec_rem 3 3 (.tmp 33) (.tmp 35) rfl t Y R hY0 HR.out (by simp [Act.eval]) (by simp [Act.eval])) ?_
            simp only [Act.put, List.setIfInBounds_toArray, List.set_cons_zero, List.set_cons_succ]
            refine wpPlan_g (v := .bool false) rfl rfl ?_ ?_; · (intro wS hS; go_simp <;> first | exact hR0 | simp [hR0])
            simp only [Act.put, List.setIfInBounds_toArray, List.set_cons_zero, List.set_cons_succ]
            refine wpPlan_q (v := ?_) rfl rfl ?_ ?_; rotate_left 1; · (intro wS hS; go_simp; try with_reducible rfl)
            simp only [Act.put, List.setIfInBounds_toArray, List.set_cons_zero, List.set_cons_succ]
            refine wpPlan_q (v := ?_) rfl rfl ?_ ?_; rotate_left 1; · (intro wS hS; go_simp; try with_reducible rfl)
            simp only [Act.put, List.setIfInBounds_toArray, List.set_cons_zero, List.set_cons_succ]
            refine wpPlan_n rfl rfl ?_
            simp only [Act.put, List.setIfInBounds_toArray, List.set_cons_zero, List.set_cons_succ]
            refine wpPlan_n rfl rfl ?_
            simp only [Act.put, List.setIfInBounds_toArray, List.set_cons_zero, List.set_cons_succ]
            refine wpPlan_n rfl rfl ?_
            simp only [Act.put, List.setIfInBounds_toArray, List.set_cons_zero, List.set_cons_succ]
            refine wpPlan_n rfl rfl ?_
            simp only [Act.put, List.setIfInBounds_toArray, List.set_cons_zero, List.set_cons_succ]
            refine wpPlan_n rfl rfl ?_
            simp only [Act.put, List.setIfInBounds_toArray, List.set_cons_zero, List.set_cons_succ]
            refine wpPlan_n rfl rfl ?_
            simp only [Act.put, List.setIfInBounds_toArray, List.set_cons_zero, List.set_cons_succ]
            refine wpPlan_n rfl rfl ?_
            simp only [Act.put, List.setIfInBounds_toArray, List.set_cons_zero, List.set_cons_succ]
            refine wpPlan_q (v := ?_) rfl rfl ?_ ?_; rotate_left 1; · (intro wS hS; go_simp; try with_reducible rfl)
            simp only [Act.put, List.setIfInBounds_toArray, List.set_cons_zero, List.set_cons_succ]
            refine wpPlan_nil (NoPanic.normal ?_)
            have hpt : Nat.pow 2 m = 2 ^ m := rfl
            have hput := put_ok Hv.out hBok t m hm8 (hNI.len hM.n1 m hm8) (hNI.rise m hm8).le
            rw [hBp] at hput
            have Hp := Lib.hid hput
            have hgs := gord_spec M.n t 8 0 rfl (by simp [Nat.mod_one]) (by simp; omega)
            rw [← Hgm.out] at hgs
            have hstep := hNI.step ht1 hlt m Hgm.out
            have hle : t + 2 ^ m ≤ M.n := hgs.2.2.1
            have hpos := Nat.two_pow_pos m
            have Hgs := Lib.hid hgs
            have Hst := Lib.hid hstep
            obtain ⟨X, hX⟩ : ∃ X : Nat, X = 2 ^ m := ⟨_, rfl⟩
            have HX := Lib.hid hX
            clear hput hgs hstep hpt
            rw [← hX] at hpos hle
            clear hX
            go_wp2_with (first | (go_at_call 34; refine Hp.out.mono ?_; rintro e w6 ⟨r', rfl, hr1', hr2', h7⟩) | (refine wpList_val (o := ⟨some 57, _, _, _, _, _⟩) (v := .int .i64 (X : Int)) rfl (exec_shl 3 3 (.const (.int .i64 1)) (.tmp 56) rfl 0 m (by omega) (by omega) 1 (X : Int) (by simp) (by rw [HX.out]; simp) rfl (by simp [Act.eval])) ?_))
            have H7 := Lib.hid h7
            clear h7
            go_roundg (M.n - (t + X))
            case measure => omega
            case rel =>
              refine ⟨t + X, B.setRow m r', by rw [Int.natCast_add], by omega, by omega, rfl, hBp, hr1', hBm, hBe, ?_, H7.out⟩
              have e : (B.setRow m r').L = fun i => if i = m then ins (t : Int) (B.L i) else B.L i := by
                funext i
                rw [Bd.L_setRow B m r' (by rw [hBok.nine]; omega)]
                by_cases e : i = m
                · subst e; rw [if_pos rfl, if_pos rfl, hr2']
                · rw [if_neg e, if_neg e]
              rw [e, HX.out]
              exact Hst.out
    · go_wp2_with (go_at_call 14; refine (mem_frames Hs.out.swap).mono ?_; rintro e w' ⟨rfl, rfl⟩)
      go_ret2
      have : t = M.n := by omega
      subst this
      exact ⟨B, by rw [hBp]; rfl, hBok, hBm, hBe, hNI, Hs.out⟩
end
end Go.Proofs.Ytglelfceogpbpaa
