/- Slices of structs of two numbers. -/
import Derived.Test.YtglelfceogpbpaaCRow2
import Derived.Test.YtglelfceogpbpaaOps
namespace Go.Proofs.Ytglelfceogpbpaa
open Go.RowKit

abbrev encB (x : Int × Int) : List Value := [vi x.1, vi x.2]

theorem encB_len (S : List (Int × Int)) : (S.flatMap encB).length = S.length * 2 := by
  induction S with
  | nil => simp
  | cons x S ih =>
    simp only [List.flatMap_cons, List.length_append, ih, List.length_cons, encB, List.length_nil]
    omega

theorem flatMap_encB {S : List (Int × Int)} : ∀ {j : Nat} {y : Int × Int}, S[j]? = some y → (S.flatMap encB)[j * 2]? = some (vi y.1) ∧ (S.flatMap encB)[j * 2 + 1]? = some (vi y.2) := by
  induction S with
  | nil => intro j y h; simp at h
  | cons x S ih =>
    intro j y h
    cases j with
    | zero => simp at h; subst h; simp [encB]
    | succ j =>
      have := ih (j := j) (y := y) (by simpa using h)
      rw [show (j + 1) * 2 = j * 2 + 2 by omega]
      simpa [encB] using this

section
variable {z w : World} {F : List Chunk} {R : CRow}
theorem CRow.cellB {E : TypeId} (hs : Sat z w (R.hp E :: F)) {b : Nat} (hb : R.b = some b) {S : List (Int × Int)} (hx : R.xs = S.flatMap encB) {j : Nat} {y : Int × Int} (hy : S[j]? = some y) :
    w.cell? ⟨b, j * 2, none⟩ = some (vi y.1) ∧ w.cell? ⟨b, j * 2 + 1, none⟩ = some (vi y.2) := by
  obtain ⟨h1, h2⟩ := flatMap_encB hy
  have hc : ∀ i, w.cell? ⟨b, i, none⟩ = (R.xs ++ R.sp).toArray[i]? := fun i => hs.cell (e := E) (fr := (0, 0)) (by simp [CRow.hp, hb])
  rw [hc, hc, hx]
  rw [List.getElem?_toArray, List.getElem?_toArray, List.getElem?_append_left (List.getElem?_eq_some_iff.1 h1).1, List.getElem?_append_left (List.getElem?_eq_some_iff.1 h2).1]
  exact ⟨h1, h2⟩
theorem CRow.rangeB {E : TypeId} (hs : Sat z w (R.hp E :: F)) {b : Nat} (hb : R.b = some b) {S : List (Int × Int)} (hx : R.xs = S.flatMap encB) {j : Nat} {y : Int × Int} (hy : S[j]? = some y) :
    w.rangeAt b (j * 2) [vi y.1, vi y.2] := by
  obtain ⟨h1, h2⟩ := CRow.cellB hs hb hx hy
  intro i v hv
  match i with
  | 0 => simp at hv; subst hv; exact h1
  | 1 => simp at hv; subst hv; exact h2
  | i + 2 => simp at hv
end

end Go.Proofs.Ytglelfceogpbpaa
