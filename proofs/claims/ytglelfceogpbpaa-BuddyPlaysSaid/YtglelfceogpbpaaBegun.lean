/- law 04's begun. -/
import Derived.Test.YtglelfceogpbpaaInv
namespace Go.Proofs.Ytglelfceogpbpaa
open Go.RowKit

section
variable {z w : World} {F : List Chunk}

theorem NI.inv {B : Bd} {M : Mem} {r : Nat} (hok : B.ok) (hM : M.ok) (hmp : B.mp = M.p) (he : B.ents = []) (h : NI B.L r M.n M.n) : Inv B M (fun i => r ≤ i ∧ i < M.n) :=
  ⟨hok, hM, hmp, ⟨by simp [he], by simp [he]⟩, h.done, fun _ hi => hi.2, by simp [he], by simp [he]⟩

/-- buddy.New, whatever comes in -/
theorem new_inv {M : Mem} (hs : Sat z w (M.hp :: F)) (hM : M.ok) (r : Int) :
    Calls Try.prog 18 #[.pointer (some ⟨M.p, 0, none⟩), vi r] w fun e w' =>
      (¬ (0 ≤ r ∧ r ≤ M.n) ∧ e = .returned (.tuple #[.pointer none, vi 1]) ∧ Sat z w' (M.hp :: F)) ∨
      (∃ B : Bd, 0 ≤ r ∧ r ≤ M.n ∧ e = .returned (.tuple #[.pointer (some ⟨B.p, 0, none⟩), vi 0]) ∧ B.ents = [] ∧ Inv B M (fun i => r.toNat ≤ i ∧ i < M.n) ∧ Sat z w' (B.hp :: M.hp :: F)) := by
  by_cases h : 0 ≤ r ∧ r ≤ M.n
  · obtain ⟨k, rfl⟩ := Int.eq_ofNat_of_zero_le h.1
    refine (new_ok hs hM k (by omega)).mono ?_
    rintro e w' ⟨B, rfl, h1, h2, h3, h4, h5⟩
    exact .inr ⟨B, h.1, h.2, rfl, h3, NI.inv h1 hM h2 h3 h4, h5⟩
  · refine (new_bad hs r (by omega)).mono ?_
    rintro e w' ⟨rfl, h5⟩
    exact .inl ⟨h, rfl, h5⟩

theorem begun_ok (hs : Sat z w F) (n r : Int) :
    Calls Try.prog 7 #[vi n, vi r] w fun e w' =>
      (¬ (1 ≤ n ∧ n ≤ 256 ∧ 0 ≤ r ∧ r ≤ n) ∧ e = .returned (.tuple #[.pointer none, .pointer none]) ∧ Sat z w' F) ∨
      (∃ (B : Bd) (M : Mem), 1 ≤ n ∧ n ≤ 256 ∧ 0 ≤ r ∧ r ≤ n ∧ e = .returned (.tuple #[.pointer (some ⟨M.p, 0, none⟩), .pointer (some ⟨B.p, 0, none⟩)]) ∧ M.n = n.toNat ∧ M.W = List.replicate (16 * n.toNat) 0 ∧ B.ents = [] ∧ Inv B M (fun i => r.toNat ≤ i ∧ i < M.n) ∧ Sat z w' (B.hp :: M.hp :: F)) := by
  by_cases h : 1 ≤ n ∧ n ≤ 256
  · have hmn := mem_new n hs h.1 h.2
    go_enter Try.func7, Try.ntmps7
    go_wp2_with (first
      | (go_at_call 16; refine hmn.mono ?_; rintro e w' ⟨M, rfl, hM, hMn, hMW, h1⟩; have hnw := new_inv h1 hM r)
      | (go_at_call 18; refine hnw.mono ?_; rintro e w6 (⟨h3, rfl, h7⟩ | ⟨B, h3, h4, rfl, h5, h6, h7⟩)))
    · go_ret2
      exact .inl ⟨by omega, rfl, h7.drop⟩
    · go_ret2
      exact .inr ⟨B, M, h.1, h.2, h3, by omega, rfl, hMn, hMW, h5, h6, h7⟩
  · have hmn := mem_new_bad n hs h
    go_enter Try.func7, Try.ntmps7
    go_wp2_with (first
      | (go_at_call 16; refine hmn.mono ?_; rintro e w' ⟨rfl, h1⟩; have hnw := new_nil h1 r)
      | (go_at_call 18; refine hnw.mono ?_; rintro e w6 ⟨rfl, h7⟩))
    go_ret2
    exact .inl ⟨by omega, rfl, h7⟩
end
end Go.Proofs.Ytglelfceogpbpaa
