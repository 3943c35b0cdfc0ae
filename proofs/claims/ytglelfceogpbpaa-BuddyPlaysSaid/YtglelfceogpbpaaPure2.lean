/- What Alloc and Free make of lists that hold just the greatest free blocks. -/
import Derived.Test.YtglelfceogpbpaaPure
namespace Go.Proofs.Ytglelfceogpbpaa
open Dy

theorem cut_part {S : Nat → Nat → Prop} {F : Nat → Prop} (h : Part S F) {o j q : Nat} (hs : S j q) (he : ∀ k, o ≤ k → k < j → ∀ p, ¬ S k p) :
    ∀ d, o + d ≤ j → Part (fun k p => (S k p ∧ ¬ (k = j ∧ p = q)) ∨ (j - d ≤ k ∧ k < j ∧ p = q * 2 ^ (j - k) + 1) ∨ (k = j - d ∧ p = q * 2 ^ d)) F := by
  intro d
  induction d with
  | zero =>
    intro _
    refine h.congr (fun k p => ?_) (fun _ => Iff.rfl)
    constructor
    · rintro (⟨h1, _⟩ | ⟨h1, h2, _⟩ | ⟨h1, h2⟩)
      · exact h1
      · omega
      · have e1 : k = j := by omega
        have e2 : p = q := by simpa using h2
        rw [e1, e2]; exact hs
    · intro h1
      by_cases e : k = j ∧ p = q
      · exact .inr (.inr ⟨by omega, by simpa using e.2⟩)
      · exact .inl ⟨h1, e⟩
  | succ d ih =>
    intro hd
    obtain ⟨m, hm⟩ : ∃ m, j - d = m + 1 := ⟨j - d - 1, by omega⟩
    have hi := ih (by omega)
    have hsp := hi.split (k := m) (q := q * 2 ^ d) (.inr (.inr ⟨hm.symm, rfl⟩))
    refine hsp.congr (fun k p => ?_) (fun _ => Iff.rfl)
    have hm' : j - (d + 1) = m := by omega
    rw [hm']
    have e2 : ∀ p, p / 2 = q * 2 ^ d ↔ p = q * 2 ^ (d + 1) ∨ p = q * 2 ^ (d + 1) + 1 := by
      intro p
      rw [Nat.pow_succ, ← Nat.mul_assoc]
      omega
    constructor
    · rintro (⟨h1, h2⟩ | ⟨h1, h2, h3⟩ | ⟨h1, h2⟩)
      · left
        refine ⟨.inl ⟨h1, h2⟩, ?_⟩
        rintro ⟨rfl, rfl⟩
        by_cases hd0 : d = 0
        · subst hd0
          exact h2 ⟨by omega, by simp⟩
        · exact he (m + 1) (by omega) (by omega) _ h1
      · by_cases e : k = m
        · right
          subst e
          have : j - k = d + 1 := by omega
          rw [this] at h3
          exact ⟨rfl, (e2 p).2 (.inr h3)⟩
        · left
          refine ⟨.inr (.inl ⟨by omega, h2, h3⟩), ?_⟩
          rintro ⟨rfl, h4⟩
          have : j - (m + 1) = d := by omega
          rw [this] at h3
          omega
      · right
        exact ⟨h1, (e2 p).2 (.inl h2)⟩
    · rintro (⟨h1, h2⟩ | ⟨h1, h2⟩)
      · rcases h1 with h1 | ⟨h3, h4, h5⟩ | ⟨h3, h4⟩
        · exact .inl h1
        · exact .inr (.inl ⟨by omega, h4, h5⟩)
        · exact (h2 ⟨by omega, h4⟩).elim
      · subst h1
        rcases (e2 p).1 h2 with h3 | h3
        · exact .inr (.inr ⟨rfl, h3⟩)
        · refine .inr (.inl ⟨Nat.le_refl _, by omega, ?_⟩)
          have : j - k = d + 1 := by omega
          rw [this]; exact h3

theorem pow_split {k j : Nat} (h : k ≤ j) : 2 ^ j = 2 ^ (j - k) * 2 ^ k := by
  rw [← Nat.pow_add]; congr 1; omega

theorem ins_nil (x : Int) : ins x [] = [x] := rfl

theorem Bi.alloc {L : Nat → List Int} {F : Nat → Prop} (h : Bi L F) {o j : Nat} {x : Int} (hoj : o ≤ j) (hj : j ≤ 8) (he : ∀ k, o ≤ k → k < j → L k = []) (hx : (L j).head? = some x) :
    ∃ q : Nat, x = ((q * 2 ^ o : Nat) : Int) ∧ (∀ i, i / 2 ^ o = q → F i) ∧ Bi (taken L o j x) (fun i => F i ∧ i / 2 ^ o ≠ q) := by
  have hmem : x ∈ L j := by
    cases hl : L j with
    | nil => rw [hl] at hx; cases hx
    | cons a l => rw [hl] at hx; simp at hx; simp [hx]
  obtain ⟨_, q, rfl⟩ := h.form j x hmem
  have hpw := pow_split hoj
  have hcut := cut_part h.part (o := o) (j := j) (q := q) hmem (fun k h1 h2 p hp => by rw [he k h1 h2] at hp; simp at hp) (j - o) (by omega)
  have hless := hcut.less (k := o) (q := q * 2 ^ (j - o)) (.inr (.inr ⟨by omega, rfl⟩))
  have hxe : ∀ k, o ≤ k → k < j → (((q * 2 ^ j : Nat) : Int) + 2 ^ k) = (((q * 2 ^ (j - k) + 1) * 2 ^ k : Nat) : Int) := by
    intro k h1 h2
    have : q * 2 ^ j + 2 ^ k = (q * 2 ^ (j - k) + 1) * 2 ^ k := by
      rw [Nat.add_mul, Nat.one_mul, Nat.mul_assoc, ← pow_split (by omega)]
    exact_mod_cast this
  have htk : ∀ k, taken L o j ((q * 2 ^ j : Nat) : Int) k = if k = j then del ((q * 2 ^ j : Nat) : Int) (L j) else if o ≤ k ∧ k < j then [(((q * 2 ^ (j - k) + 1) * 2 ^ k : Nat) : Int)] else L k := by
    intro k
    unfold taken
    by_cases e : k = j
    · rw [if_pos e, if_pos e]
    · rw [if_neg e, if_neg e]
      by_cases e2 : o ≤ k ∧ k < j
      · rw [if_pos e2, if_pos e2, he k e2.1 e2.2, hxe k e2.1 e2.2, ins_nil]
      · rw [if_neg e2, if_neg e2]
  have hdel := del_spec (h.rise j hj) hmem
  have hS : ∀ k p, ((p * 2 ^ k : Nat) : Int) ∈ taken L o j ((q * 2 ^ j : Nat) : Int) k ↔
      (((p * 2 ^ k : Nat) : Int) ∈ L k ∧ ¬ (k = j ∧ p = q)) ∨ (o ≤ k ∧ k < j ∧ p = q * 2 ^ (j - k) + 1) := by
    intro k p
    rw [htk]
    by_cases e : k = j
    · subst e
      rw [if_pos rfl, hdel.2.1]
      constructor
      · rintro ⟨h1, h2⟩
        exact .inl ⟨h1, fun ⟨_, e⟩ => h2 (by rw [e])⟩
      · rintro (⟨h1, h2⟩ | ⟨_, h2, _⟩)
        · exact ⟨h1, fun e => h2 ⟨rfl, cast_mul_inj e⟩⟩
        · omega
    · rw [if_neg e]
      by_cases e2 : o ≤ k ∧ k < j
      · rw [if_pos e2, he k e2.1 e2.2]
        simp only [List.mem_singleton, List.not_mem_nil, false_and, false_or]
        constructor
        · intro h1; exact ⟨e2.1, e2.2, cast_mul_inj h1⟩
        · rintro ⟨_, _, rfl⟩; rfl
      · rw [if_neg e2]
        constructor
        · intro h1; exact .inl ⟨h1, fun h2 => e h2.1⟩
        · rintro (⟨h1, _⟩ | ⟨h1, h2, _⟩)
          · exact h1
          · exact (e2 ⟨h1, h2⟩).elim
  refine ⟨q * 2 ^ (j - o), by rw [hpw, Nat.mul_assoc], fun i hi => ?_, ?_⟩
  · refine h.part.full hmem ?_
    have : i / 2 ^ j = i / 2 ^ o / 2 ^ (j - o) := by
      rw [hpw, Nat.mul_comm, Nat.div_div_eq_div_mul]
    rw [this, hi]
    exact first_of q (j - o)
  · refine ⟨fun k hk => ?_, fun k y hy => ?_, ?_, ?_⟩
    · rw [htk]
      split
      · exact hdel.1
      · split
        · simp [Rising]
        · exact h.rise k hk
    · rw [htk] at hy
      split at hy
      · rename_i e
        subst e
        exact h.form k y ((hdel.2.1 y).1 hy).1
      · split at hy
        · rename_i e2
          simp only [List.mem_singleton] at hy
          exact ⟨by omega, _, hy⟩
        · exact h.form k y hy
    · refine hless.congr (fun k p => ?_) (fun i => Iff.rfl)
      rw [hS]
      have e1 : j - (j - o) = o := by omega
      rw [e1]
      constructor
      · rintro (h1 | h1)
        · refine ⟨.inl h1, ?_⟩
          rintro ⟨rfl, rfl⟩
          by_cases e : k = j
          · subst e; exact h1.2 ⟨rfl, by simp⟩
          · have := h1.1
            rw [he k (Nat.le_refl _) (by omega)] at this
            simp at this
        · refine ⟨.inr (.inl h1), ?_⟩
          rintro ⟨rfl, h2⟩
          have := h1.2.2
          omega
      · rintro ⟨h1 | h1 | h1, h2⟩
        · exact .inl h1
        · exact .inr h1
        · exact (h2 h1).elim
    · intro k p p' h1 h2 hk hp
      rcases (hS k p).1 h1 with h1 | h1 <;> rcases (hS k p').1 h2 with h2 | h2
      · exact h.maxi k p p' h1.1 h2.1 hk hp
      · have := h1.1
        rw [he k h2.1 h2.2.1] at this
        simp at this
      · have := h2.1
        rw [he k h1.1 h1.2.1] at this
        simp at this
      · rw [h1.2.2, h2.2.2]
end Go.Proofs.Ytglelfceogpbpaa
