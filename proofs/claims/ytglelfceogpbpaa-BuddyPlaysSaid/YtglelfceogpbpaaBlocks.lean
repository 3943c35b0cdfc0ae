/- buddy.Left, Blocks, Held. -/
import Derived.Test.YtglelfceogpbpaaSort
import Derived.Test.YtglelfceogpbpaaPure3
import Derived.Test.YtglelfceogpbpaaFree
namespace Go.Proofs.Ytglelfceogpbpaa
open Go.RowKit Go.Shelf

/-- 'a[i]' of an array by value, of elements of one cell -/
theorem exec_index_cells {P : Program} {a : Act} {w : World} {o : Oper} (ty : TypeId) (x i : Operand) (ho : o.op = .index ty x i) (n : Nat) (E : TypeId) (hu : P.underlying ty = some (.array n E)) (hagg : ∀ w, (isAgg E).run P w = .ok false w) (hsz : ∀ w, (Go.sizeOf E).run P w = .ok 1 w)
    (cs : Array Value) (hx : a.eval x = .agg cs) (k : Nat) (hi : a.eval i = .int .i64 (k : Int)) (hk : k < n) (v : Value) (hv : cs[k]? = some v) : (execOp a.eval o).run P w = .ok (.value v) w := by
  have h0 : (0 : Int) ≤ (k : Int) ∧ (k : Int) < (n : Int) := ⟨by omega, by omega⟩
  unfold execOp
  simp only [ho, hx, hi, Instr.index, asIntOf, Sem.run_bind, Sem.run_pure, Result.andThen_ok, run_underlying hu, h0, and_self, if_true, hsz, part, hagg, Nat.mul_one, Int.toNat_natCast]
  simp [hv]

section
variable {z w : World} {F : List Chunk} {B : Bd}

theorem Sat.nil (hs : Sat z w F) : Sat z w ([] :: F) := hs.perm (by simp)

theorem infoB : ∃ i zv, Try.prog.info? 34 = some i ∧ i.zero = some zv ∧ i.size = 2 ∧ i.bytes = 16 ∧ zv.cells.size = 2 := by
  have h : (Try.prog.info? 34).map (fun i => (i.zero.map Value.cells, i.size, i.bytes)) = some (some (Array.replicate 2 (vi 0)), 2, 16) := by kernel_rfl
  obtain ⟨i, hi, hz⟩ := Option.map_eq_some_iff.1 h
  simp only [Prod.mk.injEq] at hz
  obtain ⟨h1, h2, h3⟩ := hz
  obtain ⟨zv, e1, e2⟩ := Option.map_eq_some_iff.1 h1
  exact ⟨i, zv, hi, e1, h2, h3, by rw [e2]; simp⟩

theorem Bd.range (hs : Sat z w (B.hp :: F)) : w.rangeAt B.p 1 (B.rows.map IRow.val) := by
  intro j v hj
  rw [hs.cell (b := B.p) (i := 1 + j) (c := B.cells.toArray) (e := 66) (fr := (0, 0)) (by simp [Bd.hp, Bd.main])]
  have hlt : j < (B.rows.map IRow.val).length := by
    rcases Nat.lt_or_ge j (B.rows.map IRow.val).length with h | h
    · exact h
    · rw [List.getElem?_eq_none h] at hj; cases hj
  simp only [Bd.cells, Nat.add_comm 1 j, List.getElem?_toArray, List.getElem?_cons_succ]
  rw [List.getElem?_append_left hlt]
  exact hj


def sumTo (B : Bd) (k : Nat) : Nat := (List.range k).foldl (fun n k => n + (B.L k).length * 2 ^ k) 0
theorem sumTo_succ (B : Bd) (k : Nat) : sumTo B (k + 1) = sumTo B k + (B.L k).length * 2 ^ k := by simp [sumTo, List.range_succ]

set_option maxRecDepth 100000 in
theorem left_ok (hs : Sat z w (B.hp :: F)) (hok : B.ok) (hl : ∀ k, k < 9 → (B.L k).length ≤ 300) :
    Calls Try.prog 13 #[.pointer (some ⟨B.p, 0, none⟩)] w fun e w' => e = .returned (vi (sumTo B 9 : Nat)) ∧ Sat z w' (B.hp :: F) := by
  have h9 := hok.nine
  have Hr := Lib.hid (Bd.range hs)
  go_enter Try.func13, Try.ntmps13
  go_wp2_with (refine wpList_val (o := ⟨some 9, _, _, _, _, _⟩) rfl (exec_load_mid 63 (.tmp 8) rfl B.p 1 rfl (B.rows.map IRow.val) _ Hr.out Try.underlying63 rfl ?_) ?_)
  case refine_1 => rw [List.length_map, h9]; kernel_rfl
  go_loopg [3, 10] 9 (fun k n i wr => ∃ m : Nat, n = vi (sumTo B m : Nat) ∧ i = vi m ∧ k + m = 9 ∧ sumTo B m ≤ m * 76800 ∧ Sat z wr (B.hp :: F))
  case atStart => exact ⟨0, rfl, rfl, rfl, by simp [sumTo], hs⟩
  case round =>
    obtain ⟨m, rfl, rfl, hkm, hsm, hws⟩ := hrel
    cases gk with
    | zero =>
      have hm : ¬ m < 9 := by omega
      obtain rfl : m = 9 := by omega
      go_wp2_with fail
      go_ret
      exact ⟨rfl, hws⟩
    | succ k =>
      have hm : m < 9 := by omega
      obtain ⟨r, hr⟩ : ∃ r, B.rows[m]? = some r := ⟨_, List.getElem?_eq_getElem (by omega)⟩
      have hL : B.L m = r.l := by simp [Bd.L, List.getD_eq_getElem?_getD, hr]
      have hrow : (B.rows.map IRow.val).toArray[m]? = some r.val := by simp [hr]
      have hlen := hl m hm
      have hrok := hok.rows r (List.mem_of_getElem? hr)
      obtain ⟨sa, sk, hv⟩ := r.val_len hrok.nil
      rw [hv] at hrow
      have Hrow := Lib.hid hrow
      have Hkm := Lib.hid hkm
      clear hrow hkm hv hr
      go_wp2_with (refine wpList_val (o := ⟨some 13, _, _, _, _, _⟩) rfl (exec_index_cells 63 (.tmp 9) (.tmp 10) rfl 9 62 Try.underlying63 Try.isAgg62 Try.sizeOf62 _ rfl m rfl hm _ Hrow.out) ?_)
      have hp8 : 2 ^ m ≤ 256 := Nat.pow_le_pow_right (n := 2) (i := m) (j := 8) (by omega) (by omega)
      have hmul : r.l.length * 2 ^ m ≤ 300 * 256 := Nat.mul_le_mul (by rw [← hL]; exact hlen) hp8
      have e1 : (r.l.length : Int) * 2 ^ m = ((r.l.length * 2 ^ m : Nat) : Int) := by norm_cast
      have hss := sumTo_succ B m
      rw [hL] at hss
      go_roundg k
      case measure => omega
      case rel =>
        refine ⟨m + 1, ?_, by simp, by have := Hkm.out; omega, by omega, hws⟩
        rw [e1, hss]
        generalize r.l.length * 2 ^ m = X at *
        have h1 : wrap64 ((X : Nat) : Int) = (X : Int) := by unfold wrap64; omega
        rw [h1]
        have h2 : wrap64 ((sumTo B m : Int) + (X : Int)) = ((sumTo B m + X : Nat) : Int) := by unfold wrap64; omega
        rw [h2]

/-- the free blocks: frame and order, as far as they are gathered -/
def gath (B : Bd) (m j : Nat) : List (Int × Int) := ((List.range m).flatMap fun k => (B.L k).map fun x => (x, (k : Int))) ++ ((B.L m).take j).map fun x => (x, (m : Int))
def allB (B : Bd) : List (Int × Int) := (List.range 9).flatMap fun k => (B.L k).map fun x => (x, (k : Int))
theorem gath_next (B : Bd) (m : Nat) : gath B m (B.L m).length = gath B (m + 1) 0 := by simp [gath, List.range_succ]
theorem gath_step (B : Bd) (m j : Nat) (x : Int) (h : (B.L m)[j]? = some x) : gath B m (j + 1) = gath B m j ++ [(x, (m : Int))] := by
  unfold gath
  rw [List.take_add_one, h]
  simp
theorem gath_all (B : Bd) : gath B 9 0 = allB B := by simp [gath, allB]
set_option maxRecDepth 100000 in
theorem gath_len (B : Bd) (hl : ∀ k, k < 9 → (B.L k).length ≤ 300) : ∀ m j, m ≤ 9 → (m = 9 → j = 0) → (gath B m j).length ≤ m * 300 + 300 := by
  have h : ∀ m, m ≤ 9 → ((List.range m).flatMap fun k => (B.L k).map fun x => (x, (k : Int))).length ≤ m * 300 := by
    intro m
    induction m with
    | zero => intro _; simp
    | succ m ih =>
      intro hm
      rw [List.range_succ, List.flatMap_append, List.length_append]
      have := ih (by omega)
      have := hl m (by omega)
      simp only [List.flatMap_cons, List.flatMap_nil, List.append_nil, List.length_map]
      omega
  intro m j hm h9
  unfold gath
  rw [List.length_append, List.length_map]
  have := h m hm
  by_cases h8 : m < 9
  · have := hl m h8
    rw [List.length_take]
    omega
  · have : j = 0 := h9 (by omega)
    subst this
    simp only [List.take_zero, List.length_nil]
    omega

set_option maxRecDepth 100000 in
theorem blocks_ok (hs : Sat z w (B.hp :: F)) (hok : B.ok) (hl : ∀ k, k < 9 → (B.L k).length ≤ 300) :
    Calls Try.prog 11 #[.pointer (some ⟨B.p, 0, none⟩)] w fun e w' => ∃ (R : CRow) (S : List (Int × Int)), e = .returned R.val ∧ R.ok 2 ∧ R.n = S.length ∧ R.xs = S.flatMap encB ∧ S.Perm (allB B) ∧ S.Pairwise (fun x y => x.1 ≤ y.1) ∧
      Sat z w' (R.hp 34 :: B.hp :: F) := by
  have h9 := hok.nine
  have Hr := Lib.hid (Bd.range hs)
  go_enter Try.func11, Try.ntmps11
  go_wp2_with (refine wpList_val (o := ⟨some 11, _, _, _, _, _⟩) rfl (exec_load_mid 63 (.tmp 10) rfl B.p 1 rfl (B.rows.map IRow.val) _ Hr.out Try.underlying63 rfl ?_) ?_)
  case refine_1 => rw [List.length_map, h9]; kernel_rfl
  go_loopg [3, 12] 9 (fun k o i wr => ∃ (m : Nat) (R : CRow), o = R.val ∧ i = vi m ∧ k + m = 9 ∧ R.ok 2 ∧ R.n = (gath B m 0).length ∧ R.xs = (gath B m 0).flatMap encB ∧ Sat z wr (R.hp 34 :: B.hp :: F))
  case atStart => exact ⟨0, CRow.empty, rfl, rfl, rfl, CRow.empty_ok 2, by simp [gath, CRow.empty], by simp [gath, CRow.empty], hs.nil⟩
  case round =>
    obtain ⟨m, R, rfl, rfl, hkm, hRok, hRn, hRx, hws⟩ := hrel
    cases gk with
    | zero =>
      have hm : ¬ m < 9 := by omega
      obtain rfl : m = 9 := by omega
      have hgl := gath_len B hl 9 0 (by omega) (fun _ => rfl)
      go_wp2_with (go_at_call 29; refine (sortB hws hRok (gath B 9 0) hRx hRn (by omega)).mono ?_; rintro e w6 ⟨rfl, S, hp, hso, h7⟩)
      go_ret
      have hl2 : S.length = R.n := by rw [hRn, hp.length_eq]
      refine ⟨{ R with xs := S.flatMap encB }, S, rfl, ⟨hRok.nil, by rw [encB_len, hl2], hRok.le, hRok.big, ?_⟩, hl2.symm, rfl, by rw [← gath_all]; exact hp, hso, h7⟩
      have := hRok.all
      rw [hRok.len] at this
      show (S.flatMap encB).length + R.sp.length = R.cap * 2
      rw [encB_len, hl2]
      exact this
    | succ k =>
      have hm : m < 9 := by omega
      obtain ⟨r, hr⟩ : ∃ r, B.rows[m]? = some r := ⟨_, List.getElem?_eq_getElem (by omega)⟩
      have hL : B.L m = r.l := by simp [Bd.L, List.getD_eq_getElem?_getD, hr]
      have hrow : (B.rows.map IRow.val).toArray[m]? = some r.val := by simp [hr]
      have hlen := hl m hm
      have hrok := hok.rows r (List.mem_of_getElem? hr)
      obtain ⟨sa, sk, hv⟩ := r.val_len hrok.nil
      have hsa : 0 < r.l.length → ∃ b, sa = some ⟨b, 0, none⟩ ∧ r.hp 3 = [(b, .cells r.cells.toArray 3 (0, 0))] := by
        intro h0
        cases hb : r.b with
        | none => have := (hrok.nil hb).1; rw [this] at h0; simp at h0
        | some b =>
          simp only [IRow.val, hb, Value.slice.injEq] at hv
          exact ⟨b, hv.1.symm, by simp [IRow.hp, hb]⟩
      rw [hv] at hrow
      have Hrow := Lib.hid hrow
      have Hkm := Lib.hid hkm
      have HR := Lib.hid (And.intro hRn hRx)
      have Hrr := Lib.hid hr
      have Hll := Lib.hid hL
      clear hrow hkm hv hRn hRx hr hL
      go_wp2_with (refine wpList_val (o := ⟨some 15, _, _, _, _, _⟩) rfl (exec_index_cells 63 (.tmp 11) (.tmp 12) rfl 9 62 Try.underlying63 Try.isAgg62 Try.sizeOf62 _ rfl m rfl hm _ Hrow.out) ?_)
      go_loopg [3, 18] r.l.length (fun k o i wv => ∃ (j : Nat) (R : CRow), o = R.val ∧ i = vi j ∧ k + j = r.l.length ∧ R.ok 2 ∧ Hid (R.n = (gath B m j).length ∧ R.xs = (gath B m j).flatMap encB) ∧ Sat z wv (R.hp 34 :: B.hp :: F))
      case atStart => exact ⟨0, R, rfl, rfl, rfl, hRok, HR, hws⟩
      case round =>
        obtain ⟨j, R, rfl, rfl, hkj, hRok, HR, hvs⟩ := hrel
        cases gk with
        | zero =>
          have hj : ¬ j < r.l.length := by omega
          have Hj : Hid (j = r.l.length) := Lib.hid (by omega)
          clear hkj
          go_wp2_with fail
          go_roundg k
          case measure => omega
          case rel =>
            have e : gath B m j = gath B (m + 1) 0 := by rw [Hj.out, ← Hll.out, gath_next]
            exact ⟨m + 1, R, rfl, by simp, by have := Hkm.out; omega, hRok, by rw [HR.out.1, e], by rw [HR.out.2, e], hvs⟩
        | succ k =>
          have hj : j < r.l.length := by omega
          obtain ⟨b, rfl, hhp⟩ := hsa (by omega)
          obtain ⟨x, hx⟩ : ∃ x, r.l[j]? = some x := ⟨_, List.getElem?_eq_getElem hj⟩
          have hop := Bd.opens Hrr.out hvs.swap
          rw [hhp] at hop
          have hc : wr.cell? ⟨b, j, none⟩ = some (vi x) := by
            rw [hop.cell (b := b) (i := j) (c := r.cells.toArray) (e := 3) (fr := (0, 0)) (by simp)]
            rw [List.getElem?_toArray, IRow.cells, List.getElem?_append_left (by simpa using hj), List.getElem?_map, hx]
            rfl
          have Hx := Lib.hid hx
          have Hkj := Lib.hid hkj
          have hA := hvs.alloc (.cells #[vi x, vi m] 34)
          have hgl : R.n ≤ 4000 := by
            have := gath_len B hl m j (by omega) (by omega)
            rw [HR.out.1]; omega
          obtain ⟨bi, bz, b1, b2, b3, b4, b5⟩ := infoB
          have HA := Lib.hid hA
          have Hnw := Lib.hid (World.news_of_block (heap_alloc_new wr (.cells #[vi x, vi m] 34)))
          have Hoc : ∀ u ∈ [vi x, vi m], u.oneCell' = true := by simp; exact ⟨rfl, rfl⟩
          have Hb1 : R.n + 1 ≤ maxLen := by simp only [maxLen]; omega
          have Hb2 : (R.n + 1) * 16 ≤ 140737488355328 := by omega
          clear hop hx hkj hA hhp
          go_wp2_with (at_builtin; refine CRow.wpList_append (o := ⟨some 27, _, _, _, _, _⟩) (size := 2) HA.out hRok (.tmp 22) (.tmp 26) 28 rfl rfl bi bz 16 Try.underlying28 b1 b2 b3 b4 b5 (by decide) rfl ⟨wr.heap.size, 0, none⟩ 1 1 [vi x, vi m] rfl rfl Hnw.out Hoc (by decide) Hb1 Hb2 ?_; intro R' w6 hok' hn' hx' h7)
          go_roundg k
          case measure => omega
          case rel =>
            have e : gath B m (j + 1) = gath B m j ++ [(x, (m : Int))] := gath_step B m j x (by rw [Hll.out]; exact Hx.out)
            have hw : wrap64 ((j : Int) + 1) = ((j + 1 : Nat) : Int) := by
              have h4 : r.l.length ≤ 300 := by rw [← Hll.out]; exact hlen
              unfold wrap64
              omega
            have hk2 : k + (j + 1) = r.l.length := by rw [Nat.add_comm j 1, ← Nat.add_assoc]; exact Hkj.out
            have hR2 : Hid (R'.n = (gath B m (j + 1)).length ∧ R'.xs = (gath B m (j + 1)).flatMap encB) := Lib.hid ⟨by rw [hn', HR.out.1, e]; simp, by rw [hx', HR.out.2, e]; simp⟩
            refine ⟨j + 1, R', ?_, ?_, ?_, hok', hR2, h7⟩
            · rfl
            · exact congrArg (Value.int .i64) hw
            · exact hk2
end
end Go.Proofs.Ytglelfceogpbpaa
