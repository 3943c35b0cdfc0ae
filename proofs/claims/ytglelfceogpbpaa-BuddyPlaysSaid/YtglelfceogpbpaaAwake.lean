/- law 04's awake. -/
import Derived.Test.YtglelfceogpbpaaBegun
namespace Go.Proofs.Ytglelfceogpbpaa
open Go.RowKit

theorem rising_one {l : List Int} (h : Rising l) (a : Int) (hm : ∀ x, x ∈ l ↔ x = a) : l = [a] := by
  cases l with
  | nil => have := (hm a).2 rfl; simp at this
  | cons x l =>
    have hx := (hm x).1 (by simp)
    subst hx
    cases l with
    | nil => rfl
    | cons y l =>
      have hy := (hm y).1 (by simp)
      have h1 := (List.pairwise_cons.1 h).1 y (by simp)
      omega

theorem bi_mem {L : Nat → List Int} {F : Nat → Prop} (h : Bi L F) (k : Nat) (x : Int) : x ∈ L k ↔ ∃ q : Nat, x = ((q * 2 ^ k : Nat) : Int) ∧ Dy.MaxFree F k q := by
  constructor
  · intro hx
    obtain ⟨_, q, rfl⟩ := h.form k x hx
    exact ⟨q, rfl, (h.part.is_max h.maxi k q).1 hx⟩
  · rintro ⟨q, rfl, hq⟩
    exact (h.part.is_max h.maxi k q).2 hq

def F8 (i : Nat) : Prop := 1 ≤ i ∧ i < 8
theorem max8 (k q : Nat) : Dy.MaxFree F8 k q ↔ k ≤ 2 ∧ q = 1 := by
  unfold Dy.MaxFree F8
  constructor
  · rintro ⟨h1, h2, h3⟩
    have hp := Nat.two_pow_pos k
    have hl := h2 (q * 2 ^ k + (2 ^ k - 1)) (by rw [Nat.div_eq_iff hp]; omega)
    have hf := h2 (q * 2 ^ k) (Dy.first_of q k)
    have hk : k ≤ 2 := by
      rcases Nat.lt_or_ge 2 k with h | h
      · exfalso
        have h8 : 2 ^ 3 ≤ 2 ^ k := Nat.pow_le_pow_right (by omega) (by omega)
        have hq : 1 ≤ q := by
          rcases Nat.eq_zero_or_pos q with e | e
          · subst e; simp at hf
          · exact e
        have := Nat.mul_le_mul hq h8
        omega
      · exact h
    refine ⟨hk, ?_⟩
    rcases (show k = 0 ∨ k = 1 ∨ k = 2 by omega) with rfl | rfl | rfl
    · by_cases e : q = 1
      · exact e
      · exfalso
        refine h3 (by omega) fun i hi => ?_
        simp at hf hl hi
        omega
    · by_cases e : q = 1
      · exact e
      · exfalso
        refine h3 (by omega) fun i hi => ?_
        simp at hf hl hi
        omega
    · simp at hf hl
      omega
  · rintro ⟨h1, rfl⟩
    rcases (show k = 0 ∨ k = 1 ∨ k = 2 by omega) with rfl | rfl | rfl
    · exact ⟨by omega, fun i hi => by simp at hi; omega, fun _ h => by have := h 0 (by simp); omega⟩
    · exact ⟨by omega, fun i hi => by simp at hi; omega, fun _ h => by have := h 0 (by simp); omega⟩
    · exact ⟨by omega, fun i hi => by simp at hi; omega, fun _ h => by have := h 0 (by simp); omega⟩

theorem lists8 {L : Nat → List Int} (h : Bi L F8) : L 0 = [1] ∧ L 1 = [2] ∧ L 2 = [4] ∧ ∀ k, 3 ≤ k → L k = [] := by
  refine ⟨rising_one (h.rise 0 (by omega)) 1 fun x => ?_, rising_one (h.rise 1 (by omega)) 2 fun x => ?_, rising_one (h.rise 2 (by omega)) 4 fun x => ?_, fun k hk => ?_⟩
  · rw [bi_mem h]; simp only [max8]; constructor
    · rintro ⟨q, rfl, _, rfl⟩; rfl
    · rintro rfl; exact ⟨1, rfl, by omega, rfl⟩
  · rw [bi_mem h]; simp only [max8]; constructor
    · rintro ⟨q, rfl, _, rfl⟩; rfl
    · rintro rfl; exact ⟨1, rfl, by omega, rfl⟩
  · rw [bi_mem h]; simp only [max8]; constructor
    · rintro ⟨q, rfl, _, rfl⟩; rfl
    · rintro rfl; exact ⟨1, rfl, by omega, rfl⟩
  · rw [List.eq_nil_iff_forall_not_mem]
    intro x hx
    obtain ⟨q, _, hq⟩ := (bi_mem h k x).1 hx
    have := (max8 k q).1 hq
    omega

section
variable {B : Bd} {M : Mem}
theorem first8 (hn : M.n = 8) (I : Inv B M (fun i => (1 : Int).toNat ≤ i ∧ i < M.n)) : (allB B).length = 3 := by
  obtain ⟨h0, h1, h2, h3⟩ := lists8 (I.bi.congr (fun _ _ => rfl) (fun k hk => B.L_out I.ok k hk) (F' := F8) (fun i => by unfold F8; rw [hn]; exact Iff.rfl))
  have h3' : ∀ k, 3 ≤ k → B.L k = [] := h3
  simp [allB, List.range_succ, h0, h1, h2, h3' 3, h3' 4, h3' 5, h3' 6, h3' 7, h3' 8]

theorem alloc8a (hn : M.n = 8) (I : Inv B M (fun i => (1 : Int).toNat ≤ i ∧ i < M.n)) {B' : Bd} {Fr' : Nat → Prop} {x c : Int} (h : Allocs B M (fun i => (1 : Int).toNat ≤ i ∧ i < M.n) 1 B' Fr' x c) :
    x = 2 ∧ c = 0 ∧ B'.L 0 = [1] ∧ B'.L 1 = [] ∧ B'.L 2 = [4] ∧ ∀ k, 3 ≤ k → k ≤ 8 → B'.L k = [] := by
  obtain ⟨h0, h1, h2, h3⟩ := lists8 (I.bi.congr (fun _ _ => rfl) (fun k hk => B.L_out I.ok k hk) (F' := F8) (fun i => by unfold F8; rw [hn]; exact Iff.rfl))
  cases h with
  | bad h => omega
  | full k e _ hk =>
    obtain rfl : k = 1 := by omega
    have := hk 1 (by omega) (by omega)
    rw [h1] at this; simp at this
  | ok k j q _ e hkj hj8 he hx hq hents hL =>
    obtain rfl : k = 1 := by omega
    obtain rfl : j = 1 := by
      rcases Nat.lt_or_ge 1 j with h | h
      · have := he 1 (by omega) h; rw [h1] at this; simp at this
      · omega
    rw [h1] at hx
    simp only [List.head?_cons, Option.some.injEq] at hx
    refine ⟨hx.symm, rfl, ?_, ?_, ?_, ?_⟩
    · rw [hL 0 (by omega)]; simp [taken, h0]
    · rw [hL 1 (by omega)]; simp only [taken, if_true]; rw [← hx, h1]; rfl
    · rw [hL 2 (by omega)]; simp [taken, h2]
    · intro k h3k hk8
      rw [hL k hk8]
      unfold taken
      rw [if_neg (by omega), if_neg (by omega)]
      exact h3 k h3k

theorem alloc8b {Fr : Nat → Prop} (h0 : B.L 0 = [1]) (h1 : B.L 1 = []) (h2 : B.L 2 = [4]) (h3 : ∀ k, 3 ≤ k → k ≤ 8 → B.L k = []) {B' : Bd} {Fr' : Nat → Prop} {x c : Int} (h : Allocs B M Fr 1 B' Fr' x c) :
    x = 4 ∧ c = 0 ∧ sumTo B' 9 = 3 := by
  cases h with
  | bad h => omega
  | full k e _ hk =>
    obtain rfl : k = 1 := by omega
    have := hk 2 (by omega) (by omega)
    rw [h2] at this; simp at this
  | ok k j q _ e hkj hj8 he hx hq hents hL =>
    obtain rfl : k = 1 := by omega
    obtain rfl : j = 2 := by
      rcases Nat.lt_trichotomy j 2 with h | h | h
      · obtain rfl : j = 1 := by omega
        rw [h1] at hx; simp at hx
      · exact h
      · have := he 2 (by omega) h; rw [h2] at this; simp at this
    rw [h2] at hx
    simp only [List.head?_cons, Option.some.injEq] at hx
    refine ⟨hx.symm, rfl, ?_⟩
    have g0 : B'.L 0 = [1] := by rw [hL 0 (by omega)]; simp [taken, h0]
    have g1 : B'.L 1 = [6] := by rw [hL 1 (by omega)]; simp only [taken]; rw [← hx, h1]; rfl
    have g2 : B'.L 2 = [] := by rw [hL 2 (by omega)]; simp only [taken, if_true]; rw [← hx, h2]; rfl
    have g3 : ∀ k, 3 ≤ k → k ≤ 8 → B'.L k = [] := by
      intro k h3k hk8
      rw [hL k hk8]
      unfold taken
      rw [if_neg (by omega), if_neg (by omega)]
      exact h3 k h3k hk8
    simp [sumTo, List.range_succ, g0, g1, g2, g3 3, g3 4, g3 5, g3 6, g3 7, g3 8]
end

section
variable {z w : World} {F : List Chunk}
set_option maxRecDepth 100000 in
theorem awake_ok (hs : Sat z w F) : Calls Try.prog 6 #[] w fun e w' => e = .returned (.bool true) ∧ Sat z w' F := by
  have hb := begun_ok hs 8 1
  go_enter Try.func6, Try.ntmps6
  go_wp2_with (first
    | (go_at_call 7
       refine hb.mono ?_
       rintro e w1 (⟨hno, rfl, h1⟩ | ⟨B, M, _, _, _, _, rfl, hn, _, he, I, h1⟩)
       · exact absurd ⟨by decide, by decide, by decide, by decide⟩ hno
       have H1 := Lib.hid h1
       have Hn := Lib.hid hn
       clear h1 hn hb he)
    | (go_at_call 11
       refine (blocks_ok H1.out I.ok I.len300).mono ?_
       rintro e w2 ⟨R, S, rfl, hR, hRn, hRx, hp, hso, h2⟩
       have hR3 : R.n = 3 := by rw [hRn, hp.length_eq]; exact first8 Hn.out I
       obtain ⟨ra, rk, hv⟩ := CRow.val_len R hR
       rw [hv, hR3]
       have Hp := Lib.hid hp
       have H2 := Lib.hid h2.swap
       clear hRn hRx hp hso h2 hv hR3)
    | (go_at_call 10
       refine (alloc_inv H2.out I 1).mono ?_
       rintro e w3 ⟨B1, Fr1, x1, c1, rfl, hA1, I1, hp1, h3⟩
       obtain ⟨rfl, rfl, l0, l1, l2, l3⟩ := alloc8a Hn.out I hA1
       have hA2 := alloc_inv h3 I1 1
       rw [hp1] at hA2
       have HA2 := Lib.hid hA2
       have Hl := Lib.hid (And.intro l0 (And.intro l1 (And.intro l2 l3)))
       have Hp1 := Lib.hid hp1
       clear H2 hA1 h3 l0 l1 l2 l3 hA2 hp1)
    | (go_at_call 10
       refine HA2.out.mono ?_
       rintro e w4 ⟨B2, Fr2, x2, c2, rfl, hA3, I2, hp2, h4⟩
       obtain ⟨rfl, rfl, hs3⟩ := alloc8b Hl.out.1 Hl.out.2.1 Hl.out.2.2.1 Hl.out.2.2.2 hA3
       have Hp2 := Lib.hid hp2
       have H4 := Lib.hid h4
       have Hs3 := Lib.hid hs3
       clear HA2 hA3 h4 hp2 hs3)
    | (go_at_call 18; refine (new_nil H4.out 0).mono ?_; rintro e w5 ⟨rfl, h5⟩
       have hlf := left_ok h5 I2.ok I2.len300
       rw [Hp2.out, Hs3.out] at hlf
       have HL := Lib.hid hlf
       clear hlf h5 H4)
    | (go_at_call 13; refine HL.out.mono ?_; rintro e w6 ⟨rfl, h6⟩))
  go_ret
  exact ⟨rfl, h6.drop.drop.drop⟩
end
end Go.Proofs.Ytglelfceogpbpaa
