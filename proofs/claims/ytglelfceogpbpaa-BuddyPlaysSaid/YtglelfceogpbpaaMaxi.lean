/- What the free blocks tell. -/
import Derived.Test.YtglelfceogpbpaaInv
namespace Go.Proofs.Ytglelfceogpbpaa
open Go.RowKit

section
variable {B : Bd} {M : Mem} {Fr : Nat → Prop}
theorem mem_allB {y : Int × Int} : y ∈ allB B ↔ ∃ k : Nat, k < 9 ∧ y.2 = (k : Int) ∧ y.1 ∈ B.L k := by
  simp only [allB, List.mem_flatMap, List.mem_range, List.mem_map]
  constructor
  · rintro ⟨k, hk, x, hx, rfl⟩; exact ⟨k, hk, rfl, hx⟩
  · rintro ⟨k, hk, h1, h2⟩; exact ⟨k, hk, y.1, h2, by rw [← h1]⟩

theorem allB_nodup (I : Inv B M Fr) : (allB B).Nodup := by
  unfold allB List.Nodup
  rw [List.pairwise_flatMap]
  constructor
  · intro k hk
    rw [List.pairwise_map]
    have := I.bi.rise k (by simp at hk; omega)
    refine this.imp ?_
    intro a b hab e
    simp at e
    omega
  · refine List.Pairwise.imp ?_ List.nodup_range
    intro a b hab x hx y hy e
    obtain ⟨x1, _, rfl⟩ := List.mem_map.1 hx
    obtain ⟨y1, _, rfl⟩ := List.mem_map.1 hy
    simp only [Prod.mk.injEq] at e
    omega

theorem block_form (I : Inv B M Fr) {y : Int × Int} (h : y ∈ allB B) : ∃ q o : Nat, y = (((q * 2 ^ o : Nat) : Int), (o : Int)) ∧ o ≤ 8 ∧ ((q * 2 ^ o : Nat) : Int) ∈ B.L o ∧ (q + 1) * 2 ^ o ≤ M.n ∧ (∀ i, i / 2 ^ o = q → Fr i) := by
  obtain ⟨k, hk, h1, h2⟩ := mem_allB.1 h
  obtain ⟨q, hq, h3, h4, h5⟩ := I.mem h2
  exact ⟨q, k, Prod.ext hq h1, h3, by rw [← hq]; exact h2, h5, h4⟩

/-- of two that are listed and alike in order not both halves of one -/
theorem no_two (I : Inv B M Fr) {S : List (Int × Int)} (hp : S.Perm (allB B)) {j k q o q' : Nat} (hjk : j ≠ k) (hj : S[j]? = some (((q * 2 ^ o : Nat) : Int), (o : Int))) (hk : S[k]? = some (((q' * 2 ^ o : Nat) : Int), (o : Int))) (ho : o < 8) :
    q / 2 ≠ q' / 2 := by
  intro e
  have hnd : S.Nodup := hp.nodup_iff.2 (allB_nodup I)
  have m1 := mem_allB.1 (hp.mem_iff.1 (List.mem_of_getElem? hj))
  have m2 := mem_allB.1 (hp.mem_iff.1 (List.mem_of_getElem? hk))
  obtain ⟨a, _, e1, h1⟩ := m1
  obtain ⟨b, _, e2, h2⟩ := m2
  simp only at e1 e2 h1 h2
  obtain rfl : o = a := by omega
  obtain rfl : o = b := by omega
  have := I.bi.maxi o q q' h1 h2 ho e
  subst this
  obtain ⟨l1, g1⟩ := List.getElem?_eq_some_iff.1 hj
  obtain ⟨l2, g2⟩ := List.getElem?_eq_some_iff.1 hk
  have := List.pairwise_iff_getElem.1 hnd
  rcases Nat.lt_or_ge j k with h | h
  · exact this j k l1 l2 h (by rw [g1, g2])
  · exact this k j l2 l1 (by omega) (by rw [g1, g2])
end
end Go.Proofs.Ytglelfceogpbpaa
