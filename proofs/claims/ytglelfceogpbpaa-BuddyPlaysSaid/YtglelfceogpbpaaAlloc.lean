/- buddy.Alloc -/
import Derived.Test.YtglelfceogpbpaaMap
import Derived.Test.YtglelfceogpbpaaPure
import Derived.Deep.LoopGhost
namespace Go.Proofs.Ytglelfceogpbpaa
open Go.RowKit Go.Shelf

/-- all but the lists is as it was -/
structure Bd.Same (B B' : Bd) : Prop where
  p : B'.p = B.p
  mp : B'.mp = B.mp
  hb : B'.hb = B.hb
  ents : B'.ents = B.ents
  clock : B'.clock = B.clock
theorem Bd.Same.refl (B : Bd) : B.Same B := ⟨rfl, rfl, rfl, rfl, rfl⟩
theorem Bd.Same.set {B B' : Bd} (h : B.Same B') (o : Nat) (r : IRow) : B.Same (B'.setRow o r) := ⟨h.p, h.mp, h.hb, h.ents, h.clock⟩

theorem Bd.L_setRow (B : Bd) (o : Nat) (r : IRow) (h : o < B.rows.length) (k : Nat) : (B.setRow o r).L k = if k = o then r.l else B.L k := by
  unfold Bd.L Bd.setRow
  simp only [List.getD_eq_getElem?_getD]
  by_cases e : k = o
  · subst e
    simp [h]
  · rw [if_neg e, List.getElem?_set_ne (Ne.symm e)]

def Bd.rowsHp (B : Bd) : Chunk := (B.rows.map (IRow.hp 3)).flatten
section
variable {z w : World} {F : List Chunk} {B : Bd}
theorem Bd.opens_map (hs : Sat z w (B.hp :: F)) : Sat z w ([(B.hb, B.mapObj)] :: B.main :: B.rowsHp :: F) := by
  have h1 : Sat z w (B.main :: [(B.hb, B.mapObj)] :: B.rowsHp :: F) := hs.perm (by simp [Bd.hp, Bd.rowsHp])
  exact h1.swap
theorem Bd.shuts_map (hs : Sat z w ([(B.hb, B.mapObj)] :: B.main :: B.rowsHp :: F)) : Sat z w (B.hp :: F) :=
  hs.swap.perm (by simp [Bd.hp, Bd.rowsHp])
theorem Bd.c_map (hs : Sat z w (B.main :: F)) (h9 : B.rows.length = 9) : w.cell? ⟨B.p, 10, none⟩ = some (.map (some B.hb)) := by
  rw [hs.cell (b := B.p) (i := 10) (c := B.cells.toArray) (e := 66) (fr := (0, 0)) (by simp [Bd.main])]
  simp [Bd.cells, h9]
theorem Bd.c_mem (hs : Sat z w (B.main :: F)) : w.cell? ⟨B.p, 0, none⟩ = some (.pointer (some ⟨B.mp, 0, none⟩)) := by
  rw [hs.cell (b := B.p) (i := 0) (c := B.cells.toArray) (e := 66) (fr := (0, 0)) (by simp [Bd.main])]
  simp [Bd.cells]
theorem Bd.h_map (hs : Sat z w ([(B.hb, B.mapObj)] :: F)) : w.heap[B.hb]? = some B.mapObj := hs.block (by simp)

theorem alloc_bad (hs : Sat z w (B.hp :: F)) (o : Int) (h : o < 0 ∨ 8 < o) :
    Calls Try.prog 10 #[.pointer (some ⟨B.p, 0, none⟩), .int .i64 o] w fun e w' => e = .returned (.tuple #[.int .i64 0, .int .i64 1]) ∧ Sat z w' (B.hp :: F) := by
  rcases h with h | h
  · go_enter Try.func10, Try.ntmps10
    go_wp2
    go_step3
    go_wp2
    rw [Exit.noGoto_ret]
    go_ret2
    exact ⟨rfl, hs⟩
  · have h' : ¬ o < 0 := by omega
    go_enter Try.func10, Try.ntmps10
    go_wp2
    go_step3
    go_wp2
    rw [Exit.noGoto_ret]
    go_ret2
    exact ⟨rfl, hs⟩

set_option maxRecDepth 100000 in
set_option maxHeartbeats 1000000 in
theorem alloc_ok (hs : Sat z w (B.hp :: F)) (hok : B.ok) (o : Nat) (ho : o ≤ 8) (hr : ∀ k, k ≤ 8 → Rising (B.L k)) (hl : ∀ k, k ≤ 8 → (B.L k).length ≤ 1000000)
    (hx : ∀ k x, x ∈ B.L k → 0 ≤ x ∧ x ≤ 1000) (hfree : ∀ k x, x ∈ B.L k → B.ents.any (hit x o) = false) :
    Calls Try.prog 10 #[.pointer (some ⟨B.p, 0, none⟩), .int .i64 o] w fun e w' =>
      ((∀ i, o ≤ i → i ≤ 8 → B.L i = []) ∧ e = .returned (.tuple #[.int .i64 0, .int .i64 6]) ∧ Sat z w' (B.hp :: F)) ∨
      (∃ (j : Nat) (x : Int) (B' : Bd), o ≤ j ∧ j ≤ 8 ∧ (∀ i, o ≤ i → i < j → B.L i = []) ∧ (B.L j).head? = some x ∧ e = .returned (.tuple #[.int .i64 x, .int .i64 0]) ∧
        B'.ok ∧ B'.p = B.p ∧ B'.mp = B.mp ∧ B'.ents = B.ents ++ [⟨x, o, B.clock⟩] ∧ B'.clock = B.clock + 1 ∧ (∀ i, i ≤ 8 → B'.L i = taken B.L o j x i) ∧ Sat z w' (B'.hp :: F)) := by
  have h1 := hs.allocd (.cells #[vi 0, vi 0] 34)
  have h9 := hok.nine
  go_enter Try.func10, Try.ntmps10
  have o1 : ¬ (o : Int) < 0 := by omega
  have o2 : ¬ 8 < (o : Int) := by omega
  go_wp2
  go_step3
  go_wp2
  go_step3
  go_wp2
  generalize hbx : w.heap.size = bx at *
  generalize w.alloc (.cells #[.int .i64 0, .int .i64 0] 34) = w1 at *
  have H1 := Lib.hid h1
  clear h1
  go_loop [7] (fun c => ∃ j : Nat, o ≤ j ∧ j ≤ 9 ∧ c = .int .i64 j ∧ Hid (∀ i, o ≤ i → i < j → B.L i = [])) (fun c => 9 - (intOf c).toNat)
  case atStart => exact ⟨o, by omega, by omega, rfl, fun i h1 h2 => by omega⟩
  case round =>
    obtain ⟨j, hj1, hj2, rfl, hem⟩ := hrel
    by_cases hj9 : j = 9
    · subst hj9
      go_wp2
      go_ret2
      exact .inl ⟨fun i h1 h2 => hem.out i h1 (by omega), rfl, H1.out.drop⟩
    have hj8 : j ≤ 8 := by omega
    have hj8' : ¬ 8 < (j : Int) := by omega
    obtain ⟨r, hrr⟩ : ∃ r, B.rows[j]? = some r := ⟨_, List.getElem?_eq_getElem (by omega)⟩
    have hrok := hok.rows r (List.mem_of_getElem? hrr)
    have hL : B.L j = r.l := by simp [Bd.L, List.getD_eq_getElem?_getD, hrr]
    obtain ⟨a, cp, hv⟩ := IRow.val_len r hrok.nil
    have c1 := Bd.c_row (F := F) (Sat.sel [_, _, _] 3 [1] (Bd.opens hrr H1.out.drop) rfl (by decide)) hrr
    rw [hv] at c1
    have hj9' : (j : Int) < 9 := by omega
    cases hl0 : r.l with
    | nil =>
      rw [hl0] at c1
      go_wp2
      go_round
      case rel => exact ⟨j + 1, by omega, by omega, by go_num, fun i h1 h2 => by
        by_cases e : i = j
        · subst e; rw [hL, hl0]
        · exact hem.out i h1 (by omega)⟩
      case measure => simp [intOf]; omega
    | cons x tl =>
      obtain ⟨b, hb⟩ : ∃ b, r.b = some b := by
        cases hb : r.b with
        | none => rw [(hrok.nil hb).1] at hl0; cases hl0
        | some b => exact ⟨b, rfl⟩
      have hv2 : r.val = .slice (some ⟨b, 0, none⟩) (tl.length + 1) (tl.length + 1 + r.sp.length) := by
        simp [IRow.val, hb, hl0]
      rw [← hv, hv2] at c1
      have h2 := Bd.opens hrr H1.out.swap
      have cb := h2.cell (b := b) (i := 0) (c := r.cells.toArray) (e := 3) (fr := (0, 0)) (by simp [IRow.hp, hb])
      have cb' : w1.cell? ⟨b, 0, none⟩ = some (vi x) := by rw [cb]; simp [IRow.cells, hl0]
      have hB := H1.out
      have d0 := hB.cell (b := bx) (i := 0) (c := #[vi 0, vi 0]) (e := 34) (fr := (0, 0)) (by simp)
      have d1 := hB.cell (b := bx) (i := 1) (c := #[vi 0, vi 0]) (e := 34) (fr := (0, 0)) (by simp)
      have f0 := hB.frozen (b := bx) (i := 0) (c := #[vi 0, vi 0]) (e := 34) (by simp)
      have f1 := hB.frozen (b := bx) (i := 1) (c := #[vi 0, vi 0]) (e := 34) (by simp)
      have h3 := (hB.setCell (i := 0) (vi x)).setCell (i := 1) (vi j)
      have H3 := Lib.hid h3
      clear cb h2 hB h3 hL
      go_wp2_with fail
      have hmem : x ∈ B.L j := by simp [Bd.L, List.getD_eq_getElem?_getD, hrr, hl0]
      have hcon : (B.L j).contains x = true := by simpa using hmem
      have htk := take_ok H3.out.swap hok x j hj8 (hl j hj8) (hr j hj8)
      rw [hcon] at htk
      have Ht := Lib.hid htk
      clear d0 d1 f0 f1 cb' c1 htk
      generalize (w1.setCell ⟨bx, 0, none⟩ (vi x)).setCell ⟨bx, 1, none⟩ (vi j) = w2 at *
      refine Ht.out.mono ?_
      rintro e w3 ⟨rfl, (⟨h0, _⟩ | ⟨_, r1, hr1, hr2, h4⟩)⟩
      · cases h0
      change Sat z w3 ((B.setRow j r1).hp :: [(bx, .cells #[vi x, vi j] 34 (0, 0))] :: F) at h4
      have H4 := Lib.hid h4
      clear h4 Ht H3
      go_wp2_with fail
      have hjl : j < B.rows.length := by omega
      go_loopg [43] (j - o) (fun k _ wr => o + k ≤ j ∧ ∃ Bk : Bd, B.Same Bk ∧ Bk.ok ∧ (∀ i, i ≤ 8 → Bk.L i = if i = j then del x (B.L j) else if o + k ≤ i ∧ i < j then ins (x + 2 ^ i) (B.L i) else B.L i) ∧
        Sat z wr (Bk.hp :: [(bx, .cells #[vi x, vi ((o + k : Nat) : Int)] 34 (0, 0))] :: F))
      case atStart =>
        refine ⟨by omega, B.setRow j r1, (Bd.Same.refl B).set j r1, hr1, fun i hi => ?_, by rw [show o + (j - o) = j by omega]; exact H4.out⟩
        rw [Bd.L_setRow B j r1 hjl]
        by_cases e : i = j
        · subst e; simp [hr2]
        · rw [if_neg e, if_neg e, if_neg (by omega)]
      case round =>
        obtain ⟨hk1, Bk, hsame, hkok, hkL, hks⟩ := hrel
        have d0 := hks.swap.cell (b := bx) (i := 0) (c := #[vi x, vi ((o + gk : Nat) : Int)]) (e := 34) (fr := (0, 0)) (by simp)
        have d1 := hks.swap.cell (b := bx) (i := 1) (c := #[vi x, vi ((o + gk : Nat) : Int)]) (e := 34) (fr := (0, 0)) (by simp)
        have f0 := hks.swap.frozen (b := bx) (i := 1) (c := #[vi x, vi ((o + gk : Nat) : Int)]) (e := 34) (by simp)
        have hm := hkL
        have Hk := Lib.hid hkL
        have Hs := Lib.hid hks
        clear hkL hks hm
        cases gk with
        | zero =>
          simp only [Nat.add_zero] at d0 d1
          have d0' : wr.cell? ⟨bx, 0, none⟩ = some (vi x) := by simpa using d0
          have d1' : wr.cell? ⟨bx, 1, none⟩ = some (vi o) := by simpa using d1
          have hop := Bd.opens_map Hs.out
          have cm := Bd.c_map (Sat.sel [_, _, _, _] 4 [1] hop rfl (by decide)) hkok.nine
          rw [hsame.p] at cm
          have hmap := Bd.h_map hop.drew
          have hnot : Bk.ents.any (hit x o) = false := by rw [hsame.ents]; exact hfree j x hmem
          obtain ⟨w5, hupd, hset⟩ : ∃ w5, (Instr.mapUpdate 64 (.map (some Bk.hb)) (vb x o) (.bool true)).run Try.prog wr.drew = .ok () w5 ∧
              Sat z w5 ([(Bk.hb, .map ((Bk.ents ++ [(⟨x, o, Bk.clock⟩ : Ent)]).map ent).toArray (Bk.clock + 1))] :: Bk.main :: Bk.rowsHp :: [(bx, .cells #[vi x, vi o] 34 (0, 0))] :: F) :=
            ⟨_, run_update_block x o Bk.ents Bk.clock Bk.hb hmap hnot, (hop.drew).setObj⟩
          have Hset := Lib.hid hset
          clear d0 d1 hop hmap hnot hset f0
          go_wp2_with fail
          refine wp_region_plan (fun w' => w'.cell? ⟨bx, 0, none⟩ = some (vi x) ∧ w'.cell? ⟨bx, 1, none⟩ = some (vi o) ∧ w'.cell? ⟨B.p, 10, none⟩ = some (.map (some Bk.hb))) [(0, false), (1, false), (2, false), (3, false), (4, false), (5, true)] (by kernel_rfl) (by kernel_rfl) ?_ ?_
          · exact ⟨by simpa using d0', by simpa using d1', by simpa using cm⟩
          refine wpPlan_q (v := ?_) rfl rfl ?_ ?_; rotate_left 1; · (intro wS hS; go_simp; try with_reducible rfl)
          simp only [Act.put, List.setIfInBounds_toArray, List.set_cons_zero, List.set_cons_succ]
          refine wpPlan_q (v := ?_) rfl rfl ?_ ?_; rotate_left 1; · (intro wS hS; go_simp; try with_reducible rfl)
          simp only [Act.put, List.setIfInBounds_toArray, List.set_cons_zero, List.set_cons_succ]
          refine wpPlan_q (v := ?_) rfl rfl ?_ ?_; rotate_left 1; · (intro wS hS; go_simp; try with_reducible rfl)
          simp only [Act.put, List.setIfInBounds_toArray, List.set_cons_zero, List.set_cons_succ]
          refine wpPlan_q (v := ?_) rfl rfl ?_ ?_; rotate_left 1; · (intro wS hS; go_simp; try with_reducible rfl)
          simp only [Act.put, List.setIfInBounds_toArray, List.set_cons_zero, List.set_cons_succ]
          refine wpPlan_q (v := ?_) rfl rfl ?_ ?_; rotate_left 1; · (intro wS hS; go_simp; try with_reducible rfl)
          simp only [Act.put, List.setIfInBounds_toArray, List.set_cons_zero, List.set_cons_succ]
          refine wpPlan_e rfl rfl (fun K hK => ?_)
          go_wp2_with fail
          have e0 := (Sat.sel [_, _, _, _] 4 [3] Hset.out rfl (by decide)).cell (b := bx) (i := 0) (c := #[vi x, vi o]) (e := 34) (fr := (0, 0)) (by simp)
          have e1 := (Sat.sel [_, _, _, _] 4 [3] Hset.out rfl (by decide)).cell (b := bx) (i := 1) (c := #[vi x, vi o]) (e := 34) (fr := (0, 0)) (by simp)
          have e2 := Bd.c_map (Sat.sel [_, _, _, _] 4 [1] Hset.out rfl (by decide)) hkok.nine
          rw [hsame.p] at e2
          have e0' : w5.cell? ⟨bx, 0, none⟩ = some (vi x) := by simpa using e0
          have e1' : w5.cell? ⟨bx, 1, none⟩ = some (vi o) := by simpa using e1
          clear e0 e1
          refine hK _ _ ⟨e0', e1', e2⟩ ?_
          refine wpPlan_nil (NoPanic.normal ?_)
          clear hupd cm d0' d1' hK K
          go_wp2
          rw [Exit.noGoto_ret]
          go_ret2
          refine .inr ⟨j, x, { Bk with ents := Bk.ents ++ [⟨x, o, Bk.clock⟩], clock := Bk.clock + 1 }, hj1, hj8, hem.out, ?_, rfl, ⟨hkok.nine, hkok.rows⟩, hsame.p, hsame.mp, ?_, congrArg (· + 1) hsame.clock, fun i hi => ?_, ?_⟩
          · simp [Bd.L, List.getD_eq_getElem?_getD, hrr, hl0]
          · show Bk.ents ++ [_] = _
            rw [hsame.ents, hsame.clock]
          · have := Hk.out i hi
            simp only [Nat.add_zero] at this
            exact this
          · exact Bd.shuts_map (B := { Bk with ents := Bk.ents ++ [⟨x, o, Bk.clock⟩], clock := Bk.clock + 1 }) (Sat.sel [_, _, _, _] 4 [0, 1, 2] Hset.out rfl (by decide))
        | succ k =>
          obtain ⟨m, hm⟩ : ∃ m, m = o + k := ⟨_, rfl⟩
          have hx0 := hx j x hmem
          have hmo : (o : Int) < (m : Int) + 1 := by omega
          have hm7 : m ≤ 7 := by omega
          have d0' : wr.cell? ⟨bx, 0, none⟩ = some (vi x) := by simpa using d0
          have d1' : wr.cell? ⟨bx, 1, none⟩ = some (vi ((m : Int) + 1)) := by
            have e : ((o + (k + 1) : Nat) : Int) = (m : Int) + 1 := by omega
            rw [e] at d1
            simpa using d1
          have hsub : IntKind.i64.wrap ((m : Int) + 1 - 1) = (m : Int) := by rw [IntKind.wrap_i64]; omega
          have hst := Hs.out.swap.setCell (i := 1) (vi (m : Int))
          have hbk : Bk.p = B.p := hsame.p
          have hmj : m + 1 ≤ j := by omega
          have hom : o ≤ m := by omega
          have hkm : Bk.L m = B.L m := by
            have := Hk.out m (by omega)
            rw [this, if_neg (by omega), if_neg (by omega)]
          have Hst := Lib.hid hst
          have Hm := Lib.hid hm
          clear d0 d1 hst hm
          go_wp2_with fail
          generalize wr.setCell ⟨bx, 1, none⟩ (vi (m : Int)) = w2 at *
          have g0 := Hst.out.cell (b := bx) (i := 0) (c := #[vi x, vi (m : Int)]) (e := 34) (fr := (0, 0)) (by simp)
          have g1 := Hst.out.cell (b := bx) (i := 1) (c := #[vi x, vi (m : Int)]) (e := 34) (fr := (0, 0)) (by simp)
          have g0' : w2.cell? ⟨bx, 0, none⟩ = some (vi x) := by simpa using g0
          have g1' : w2.cell? ⟨bx, 1, none⟩ = some (vi m) := by simpa using g1
          have hpw : (0 : Int) ≤ 2 ^ m ∧ (2 : Int) ^ m ≤ 128 := by
            have : (2 : Nat) ^ m ≤ 2 ^ 7 := Nat.pow_le_pow_right (by omega) hm7
            exact ⟨Int.le_of_lt (Int.pow_pos (by omega)), by exact_mod_cast this⟩
          have hadd : IntKind.i64.wrap (x + 2 ^ m) = x + 2 ^ m := by
            rw [IntKind.wrap_i64]
            generalize (2 : Int) ^ m = X at *
            omega
          have hput := put_ok Hst.out.swap.drew hkok (x + 2 ^ m) m (by omega) (by rw [hkm]; exact hl m (by omega)) (by rw [hkm]; exact (hr m (by omega)).le)
          rw [hbk, hkm] at hput
          have Hp := Lib.hid hput
          clear g0 g1 d0' d1' hput f0
          refine wp_region_plan (fun w' => w'.cell? ⟨bx, 0, none⟩ = some (vi x) ∧ w'.cell? ⟨bx, 1, none⟩ = some (vi m)) [(0, false), (1, false), (2, false), (3, false), (4, false), (5, false), (6, false), (7, false), (8, false), (9, false), (10, true)] (by kernel_rfl) (by kernel_rfl) ⟨by simpa using g0', by simpa using g1'⟩ ?_
          refine wpPlan_q (v := ?_) rfl rfl ?_ ?_; rotate_left 1; · (intro wS hS; go_simp; try with_reducible rfl)
          simp only [Act.put, List.setIfInBounds_toArray, List.set_cons_zero, List.set_cons_succ]
          refine wpPlan_q (v := ?_) rfl rfl ?_ ?_; rotate_left 1; · (intro wS hS; go_simp; try with_reducible rfl)
          simp only [Act.put, List.setIfInBounds_toArray, List.set_cons_zero, List.set_cons_succ]
          refine wpPlan_q (v := ?_) rfl rfl ?_ ?_; rotate_left 1; · (intro wS hS; go_simp; try with_reducible rfl)
          simp only [Act.put, List.setIfInBounds_toArray, List.set_cons_zero, List.set_cons_succ]
          refine wpPlan_q (v := ?_) rfl rfl ?_ ?_; rotate_left 1; · (intro wS hS; go_simp; try with_reducible rfl)
          simp only [Act.put, List.setIfInBounds_toArray, List.set_cons_zero, List.set_cons_succ]
          refine wpPlan_q (v := ?_) rfl rfl ?_ ?_; rotate_left 1; · (intro wS hS; go_simp; try with_reducible rfl)
          simp only [Act.put, List.setIfInBounds_toArray, List.set_cons_zero, List.set_cons_succ]
          refine wpPlan_q (v := vi (2 ^ m)) rfl rfl (fun wS hS => exec_shl 3 3 (.const (.int .i64 1)) (.tmp 54) rfl 0 m (by omega) (by omega) 1 (2 ^ m) (by simp) (by simp) rfl (by simp [Act.eval])) ?_
          simp only [Act.put, List.setIfInBounds_toArray, List.set_cons_zero, List.set_cons_succ]
          refine wpPlan_q (v := ?_) rfl rfl ?_ ?_; rotate_left 1; · (intro wS hS; go_simp; try with_reducible rfl)
          simp only [Act.put, List.setIfInBounds_toArray, List.set_cons_zero, List.set_cons_succ]
          refine wpPlan_q (v := ?_) rfl rfl ?_ ?_; rotate_left 1; · (intro wS hS; go_simp; try with_reducible rfl)
          simp only [Act.put, List.setIfInBounds_toArray, List.set_cons_zero, List.set_cons_succ]
          refine wpPlan_q (v := ?_) rfl rfl ?_ ?_; rotate_left 1; · (intro wS hS; go_simp; try with_reducible rfl)
          simp only [Act.put, List.setIfInBounds_toArray, List.set_cons_zero, List.set_cons_succ]
          refine wpPlan_q (v := ?_) rfl rfl ?_ ?_; rotate_left 1; · (intro wS hS; go_simp; try with_reducible rfl)
          simp only [Act.put, List.setIfInBounds_toArray, List.set_cons_zero, List.set_cons_succ]
          refine wpPlan_e rfl rfl (fun K hK => ?_)
          go_wp2_with (go_at_call 34; refine Hp.out.mono ?_; rintro e w6 ⟨r', rfl, hr1', hr2', h7⟩)
          have e0 := h7.swap.cell (b := bx) (i := 0) (c := #[vi x, vi (m : Int)]) (e := 34) (fr := (0, 0)) (by simp)
          have e1 := h7.swap.cell (b := bx) (i := 1) (c := #[vi x, vi (m : Int)]) (e := 34) (fr := (0, 0)) (by simp)
          refine hK _ _ ⟨by simpa using e0, by simpa using e1⟩ ?_
          refine wpPlan_nil (NoPanic.normal ?_)
          have H7 := Lib.hid h7
          clear hK K e0 e1 h7
          go_wp2
          go_roundg k
          case measure => omega
          case rel =>
            have hm := Hm.out
            refine ⟨by omega, Bk.setRow m r', hsame.set m r', hr1', fun i hi => ?_, by rw [← hm]; exact H7.out⟩
            rw [Bd.L_setRow Bk m r' (by rw [hkok.nine]; omega), Hk.out i hi, ← hm]
            by_cases e1 : i = m
            · subst e1
              rw [if_pos rfl, if_neg (by omega), if_pos (by omega), hr2']
            · rw [if_neg e1]
              by_cases e2 : i = j
              · rw [if_pos e2, if_pos e2]
              · rw [if_neg e2, if_neg e2]
                by_cases e3 : o + (k + 1) ≤ i ∧ i < j
                · rw [if_pos e3, if_pos (by omega)]
                · rw [if_neg e3, if_neg (by omega)]
end
end Go.Proofs.Ytglelfceogpbpaa
