/- Small laws on operations. -/
import Derived.WalkKit
import Derived.ChangeKeysEq
import Derived.Deep.MidRow
namespace Go.Proofs.Ytglelfceogpbpaa
open Go.RowKit

theorem madeCells_rep (m n : Nat) (v : Value) (hm : 0 < m ∨ n = 0) : madeCells (Array.replicate m v) n = (List.replicate n v).toArray := by
  apply Array.toList_inj.1
  apply List.ext_getElem
  · simp [madeCells]
  · intro i h1 h2
    have hi : i < n := by simpa using h2
    have h : 0 < m := by omega
    simp [madeCells, Nat.mod_lt _ h]

theorem run_make_rep {P : Program} (t e : TypeId) (v : Value) (m bytes : Nat) (ht : P.underlying t = some (.slice e))
    (hinfo : (P.info? e).map (fun i => (i.zero.map Value.cells, i.size, i.bytes)) = some (some (Array.replicate m v), m, bytes)) (hm : 0 < m) (n : Nat) (hb : bytes * n ≤ 281474976710656) (h63 : n ≤ 9223372036854775807) (w : World) :
    (Instr.makeSlice t (.int .i64 (n : Int)) (.int .i64 (n : Int))).run P w = .ok (.slice (some ⟨w.heap.size, 0, none⟩) n n) (w.alloc (.cells (List.replicate (n * m) v).toArray e)) := by
  obtain ⟨i, hi, hzz⟩ := Option.map_eq_some_iff.1 hinfo
  simp only [Prod.mk.injEq] at hzz
  obtain ⟨hz, hs, hbb⟩ := hzz
  obtain ⟨zv, hzv, hzc⟩ := Option.map_eq_some_iff.1 hz
  have hb' : (i.bytes : Int) * (n : Int) ≤ 281474976710656 := by
    have h : ((bytes * n : Nat) : Int) ≤ 281474976710656 := by omega
    rw [hbb]
    rwa [Int.natCast_mul] at h
  have hr := run_make (P := P) w t e i zv ht hi hzv .i64 .i64 n n (by omega) (Int.le_refl _) hb' (by omega)
  simp only [Int.toNat_natCast, hs, hzc, madeCells_rep m (n * m) v (.inl hm)] at hr
  exact hr

theorem run_eqItems_int {P : Program} (w : World) (d : Nat) {e : TypeId} {k : IntKind} (he : P.underlying e = some (.int k)) (xs ys : List Int) :
    ∀ (is : List Nat), (∀ i ∈ is, i < xs.length ∧ i < ys.length) →
      (Op.eqItems (d + 1) e 1 (xs.map (Value.int k)).toArray (ys.map (Value.int k)).toArray is).run P w = .ok (is.all fun i => xs.getD i 0 == ys.getD i 0) w := by
  intro is
  induction is with
  | nil => intro _; simp [Op.eqItems]
  | cons j is ih =>
    intro h
    have hj := h j (by simp)
    have hx : ∀ (zs : List Int), j < zs.length → (part e (zs.map (Value.int k)).toArray (j * 1)).run P w = .ok (.int k (zs.getD j 0)) w := by
      intro zs hz
      simp [part, isAgg, run_underlying he, hz]
    have ih' := ih (fun i hi => h i (by simp [hi]))
    simp only [Op.eqItems, Sem.run_bind, hx xs hj.1, hx ys hj.2, Result.andThen_ok, run_equalIn_int w d e k k (xs.getD j 0) (ys.getD j 0) he]
    cases hb : (xs.getD j 0 == ys.getD j 0)
    · simp only [Bool.not_false, if_true, Sem.run_pure, List.all_cons, hb, Bool.false_and]
    · simp only [Bool.not_true, Bool.false_eq_true, if_false, ih', List.all_cons, hb, Bool.true_and]

/-- '==' of two arrays of integers -/
theorem run_eql_ints {P : Program} (w : World) {t e : TypeId} {n : Nat} {k : IntKind} {i : TypeInfo} (hu : P.underlying t = some (.array n e)) (he : P.underlying e = some (.int k)) (hi : P.info? e = some i) (hs : P.cellsOf e = 1)
    (xs ys : List Int) (hx : xs.length = n) (hy : ys.length = n) :
    (binOp .eql t (.agg (xs.map (Value.int k)).toArray) (.agg (ys.map (Value.int k)).toArray)).run P w = .ok (.bool (xs == ys)) w := by
  rw [run_eql_struct, run_equalIn_array w 9999 _ _ hu hi, hs, run_eqItems_int w 9998 he xs ys (List.range n) (fun i hi => by simp at hi; omega)]
  simp only [Result.andThen_ok]
  congr 2
  rw [Bool.eq_iff_iff, List.all_eq_true, beq_iff_eq]
  constructor
  · intro h
    apply List.ext_getElem (by omega)
    intro j h1 h2
    have := h j (by simp; omega)
    simpa [h1, h2] using this
  · rintro rfl
    simp

section
variable {P : Program} {ops : Array Oper} {Q : Exit → Act → World → Prop} {a : Act} {w : World} {rest : List Oper} {o : Oper}
/-- an operation of which it is known what it yields -/
theorem wpList_val {v : Value} (hw : Region.wanted o (yielded ops a.tmps) = true) (hr : (execOp a.eval o).run P w = .ok (.value v) w) (h : wpList P ops Q rest (a.put o.dst v) w) : wpList P ops Q (o :: rest) a w := by
  refine wpList_step fun K hK => ?_
  rw [if_pos hw]
  unfold Oper.wp
  rw [hr]
  exact hK _ _ h
theorem exec_load_mid (ty : TypeId) (x : Operand) (ho : o.op = .load ty x) (b off : Nat) (hx : a.eval x = .pointer (some ⟨b, off, none⟩)) (cs : List Value) (d : TypeDesc) (hc : w.rangeAt b off cs)
    (hu : P.underlying ty = some d) (hd : d.isRow = true) (hi : (P.info? ty).map (·.size) = some cs.length) :
    (execOp a.eval o).run P w = .ok (.value (.agg cs.toArray)) w := by
  unfold execOp
  simp only [ho, hx, Instr.loadAt, Instr.sureAddr, Sem.run_bind, Sem.run_pure, Result.andThen_ok, run_loadVar_mid w b off ty cs d hc hu hd hi]
theorem exec_eql_ints (t e : TypeId) (x y : Operand) (t' : TypeId) (ho : o.op = .binOp .eql t x y t') {n : Nat} {k : IntKind} {i : TypeInfo} (hm : P.eqGuardType P.depth t = false) (hu : P.underlying t = some (.array n e)) (he : P.underlying e = some (.int k)) (hi : P.info? e = some i) (hs : P.cellsOf e = 1)
    (xs ys : List Int) (hx : a.eval x = .agg (xs.map (Value.int k)).toArray) (hy : a.eval y = .agg (ys.map (Value.int k)).toArray) (hxl : xs.length = n) (hyl : ys.length = n) :
    (execOp a.eval o).run P w = .ok (.value (.bool (xs == ys))) w := by
  unfold execOp
  simp only [ho, hx, hy, Sem.run_bind, run_eqGuard_agg w .eql t x y _ _ hm, Result.andThen_ok, run_eql_ints w hu he hi hs xs ys hxl hyl, Sem.run_pure]
/-- '1 << n' and '2 << n' -/
theorem exec_shl (t t' : TypeId) (x y : Operand) (ho : o.op = .binOp .shl t x y t') (b : Nat) (n : Nat) (hb : b ≤ 1) (hn : n ≤ 20) (bv res : Int) (hbv : bv = 2 ^ b) (hres : (2 : Int) ^ (b + n) = res) (hx : a.eval x = .int .i64 bv) (hy : a.eval y = .int .i64 (n : Int)) :
    (execOp a.eval o).run P w = .ok (.value (.int .i64 res)) w := by
  subst hbv; subst hres
  have hm : min ((n : Int).toNat) IntKind.i64.bits = n := by simp [IntKind.bits]; omega
  have hle : (2 : Int) ^ (b + n) ≤ 2 ^ 21 := by
    have : (2 : Nat) ^ (b + n) ≤ 2 ^ 21 := Nat.pow_le_pow_right (by omega) (by omega)
    exact_mod_cast this
  have h0 : (0 : Int) ≤ 2 ^ (b + n) := Int.le_of_lt (Int.pow_pos (by omega))
  have hw : IntKind.i64.wrap ((2 : Int) ^ b * 2 ^ n) = 2 ^ (b + n) := by
    rw [← Int.pow_add, IntKind.wrap_i64]
    generalize (2 : Int) ^ (b + n) = X at *
    omega
  have hn0 : (0 : Int) ≤ (n : Int) := by omega
  have hb1 : ∀ w : World, (binOp .shl t (.int .i64 (2 ^ b)) (.int .i64 (n : Int))).run P w = .ok (.int .i64 (2 ^ (b + n))) w := by
    intro w
    simp only [binOp]
    rw [shift_shl_any _ _ _ _ hn0, hm, hw]
    rfl
  have hg : ∀ w : World, (eqGuard .shl t x y (.int .i64 (2 ^ b)) (.int .i64 (n : Int))).run P w = .ok () w := by
    intro w
    simp [eqGuard]
  unfold execOp
  simp only [ho, hx, hy, Sem.run_bind, hg, Result.andThen_ok, hb1, Sem.run_pure]
/-- '%' of numbers that are not below 0 -/
theorem exec_rem (t t' : TypeId) (x y : Operand) (ho : o.op = .binOp .rem t x y t') (n m r : Nat) (hm : 0 < m) (hr : n % m = r) (hx : a.eval x = .int .i64 (n : Int)) (hy : a.eval y = .int .i64 (m : Int)) :
    (execOp a.eval o).run P w = .ok (.value (.int .i64 (r : Int))) w := by
  subst hr
  have hb1 : ∀ w : World, (binOp .rem t (.int .i64 (n : Int)) (.int .i64 (m : Int))).run P w = .ok (.int .i64 ((n % m : Nat) : Int)) w := by
    intro w
    have h2 : (n : Int).tmod (m : Int) = ((n % m : Nat) : Int) := by
      rw [Int.tmod_eq_emod_of_nonneg (by omega)]
      norm_cast
    have h3 : ¬ m = 0 := by omega
    rw [← h2]
    simp [binOp, h3, go_sem]
  have hg : ∀ w : World, (eqGuard .rem t x y (.int .i64 (n : Int)) (.int .i64 (m : Int))).run P w = .ok () w := by
    intro w
    simp [eqGuard]
  unfold execOp
  simp only [ho, hx, hy, Sem.run_bind, hg, Result.andThen_ok, hb1, Sem.run_pure]
end
end Go.Proofs.Ytglelfceogpbpaa
