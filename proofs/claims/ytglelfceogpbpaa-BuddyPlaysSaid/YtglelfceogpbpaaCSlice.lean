/- s[:j] and s[j:] of a slice of one's own. -/
import Derived.Test.YtglelfceogpbpaaCRow2
import Derived.Test.YtglelfceogpbpaaOps
namespace Go.Proofs.Ytglelfceogpbpaa
open Go.RowKit

theorem add_zero' (a : Addr) : a.add 0 = a := by unfold Addr.add; simp

section
variable {P : Program} {a : Act} {w : World} {o : Oper}
theorem exec_slice_to (t E : TypeId) (x hi : Operand) (ho : o.op = .slice t x none (some hi) none) (ht : P.underlying t = some (.slice E)) (size : Nat) (hsz : ∀ w, (Go.sizeOf E).run P w = .ok size w)
    (base : Option Addr) (n cap j : Nat) (hx : a.eval x = .slice base n cap) (hh : a.eval hi = .int .i64 (j : Int)) (h : j ≤ cap) :
    (execOp a.eval o).run P w = .ok (.value (.slice base j cap)) w := by
  have h0 : (0 : Int) ≤ (j : Int) ∧ (j : Int) ≤ (cap : Int) := ⟨by omega, by omega⟩
  have hb : (if cap = 0 then base else base.map (·.add (0 * size))) = base := by
    split
    · rfl
    · cases base with
      | none => rfl
      | some b => simp [add_zero']
  unfold execOp
  simp only [ho, hx, hh, Option.map_some, Option.map_none, Instr.sliceAt, Instr.slice, Instr.sliceBounds, Instr.sliceBound, asIntOf, Sem.run_bind, Sem.run_pure, Result.andThen_ok, run_underlying ht, h0, and_self, if_true, hsz, Int.toNat_natCast, hb, Nat.sub_zero]

theorem exec_slice_from (t E : TypeId) (x lo : Operand) (ho : o.op = .slice t x (some lo) none none) (ht : P.underlying t = some (.slice E)) (size : Nat) (hsz : ∀ w, (Go.sizeOf E).run P w = .ok size w)
    (base : Option Addr) (n cap j : Nat) (hx : a.eval x = .slice base n cap) (hl : a.eval lo = .int .i64 (j : Int)) (h : j ≤ n) :
    (execOp a.eval o).run P w = .ok (.value (.slice (if cap = j then base else base.map (·.add (j * size))) (n - j) (cap - j))) w := by
  have h0 : (0 : Int) ≤ (j : Int) ∧ (j : Int) ≤ (n : Int) := ⟨by omega, by omega⟩
  unfold execOp
  simp only [ho, hx, hl, Option.map_some, Option.map_none, Option.isSome_none, Instr.sliceAt, Instr.slice, Instr.sliceBounds, Instr.sliceBound, asIntOf, Sem.run_bind, Sem.run_pure, Result.andThen_ok, run_underlying ht, h0, and_self, if_true, hsz, Int.toNat_natCast]
end

section
variable {z w : World} {F : List Chunk} {R : CRow} {E : TypeId} {size : Nat}

def CRow.base (R : CRow) : Option Addr := R.b.map fun b => ⟨b, 0, none⟩
theorem CRow.val_base (hok : R.ok size) : ∃ cap, R.val = .slice R.base R.n cap ∧ R.n ≤ cap ∧ (R.b ≠ none → cap = R.cap) := by
  cases hb : R.b with
  | none => exact ⟨0, by simp [CRow.val, CRow.base, hb, hok.nil hb], by rw [hok.nil hb]; exact Nat.le_refl _, fun h => absurd rfl h⟩
  | some b => exact ⟨R.cap, by simp [CRow.val, CRow.base, hb], hok.le, fun _ => rfl⟩

theorem CRow.news_to (hs : Sat z w (R.hp E :: F)) (hok : R.ok size) (j : Nat) (hj : j ≤ R.n) :
    (R.xs.take (j * size)).length = j * size ∧ (∀ ad, R.base = some ad → ∀ k u, (R.xs.take (j * size))[k]? = some u → w.cell? (ad.add k) = some u) ∧ (R.base = none → j = 0) := by
  refine ⟨?_, ?_, ?_⟩
  · have := Nat.mul_le_mul_right size hj
    rw [List.length_take, hok.len]; omega
  · intro ad had k u hu
    simp only [CRow.base, Option.map_eq_some_iff] at had
    obtain ⟨b, hb, rfl⟩ := had
    rw [Addr.add_lit, Nat.zero_add, hs.cell (b := b) (i := k) (c := (R.xs ++ R.sp).toArray) (e := E) (fr := (0, 0)) (by simp [CRow.hp, hb]), List.getElem?_toArray]
    rw [List.getElem?_take] at hu
    split at hu
    · rw [List.getElem?_append_left (List.getElem?_eq_some_iff.1 hu).1]; exact hu
    · cases hu
  · intro h
    simp only [CRow.base, Option.map_eq_none_iff] at h
    have := hok.nil h
    omega

theorem CRow.news_from (hs : Sat z w (R.hp E :: F)) (hok : R.ok size) (j cap : Nat) (hj : j ≤ R.n) (hcap : R.n ≤ cap) :
    (R.xs.drop (j * size)).length = (R.n - j) * size ∧ (∀ ad, (if cap = j then R.base else R.base.map (·.add (j * size))) = some ad → ∀ k u, (R.xs.drop (j * size))[k]? = some u → w.cell? (ad.add k) = some u) ∧
      ((if cap = j then R.base else R.base.map (·.add (j * size))) = none → R.n - j = 0) := by
  have hl : (R.xs.drop (j * size)).length = (R.n - j) * size := by rw [List.length_drop, hok.len, Nat.sub_mul]
  refine ⟨hl, ?_, ?_⟩
  · intro ad had k u hu
    have hk := (List.getElem?_eq_some_iff.1 hu).1
    split at had
    · exfalso
      have : R.n - j = 0 := by omega
      rw [hl, this] at hk
      omega
    · simp only [CRow.base, Option.map_map, Option.map_eq_some_iff, Function.comp] at had
      obtain ⟨b, hb, rfl⟩ := had
      rw [Addr.add_lit, Nat.zero_add, Addr.add_lit, hs.cell (b := b) (i := j * size + k) (c := (R.xs ++ R.sp).toArray) (e := E) (fr := (0, 0)) (by simp [CRow.hp, hb]), List.getElem?_toArray]
      rw [List.getElem?_drop] at hu
      rw [List.getElem?_append_left (List.getElem?_eq_some_iff.1 hu).1]; exact hu
  · intro h
    have hb : R.b = none := by
      split at h
      · simpa [CRow.base] using h
      · simpa [CRow.base] using h
    have := hok.nil hb
    omega
end
end Go.Proofs.Ytglelfceogpbpaa
