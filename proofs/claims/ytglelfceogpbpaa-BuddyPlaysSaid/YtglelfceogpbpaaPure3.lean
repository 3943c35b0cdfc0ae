/- What Free makes of lists that hold just the greatest free blocks. -/
import Derived.Test.YtglelfceogpbpaaPure2
namespace Go.Proofs.Ytglelfceogpbpaa
open Dy

def sib (p : Nat) : Nat := if p % 2 = 0 then p + 1 else p - 1
theorem sib_half (p : Nat) : sib p / 2 = p / 2 ∧ sib p ≠ p := by unfold sib; split <;> omega
theorem half_or (p x : Nat) : x / 2 = p / 2 ↔ x = p ∨ x = sib p := by unfold sib; split <;> omega
theorem bud_at (p m : Nat) : bud (p * 2 ^ m) m = sib p * 2 ^ m := by
  unfold bud sib
  rw [first_of]
  split
  · rw [Nat.add_mul, Nat.one_mul]
  · rw [Nat.sub_mul, Nat.one_mul]
theorem par_at (p m : Nat) : par (p * 2 ^ m) m = p / 2 * 2 ^ (m + 1) := by
  unfold par
  rw [first_of, ← Nat.sub_mul, Nat.pow_succ, Nat.mul_comm (2 ^ m) 2, ← Nat.mul_assoc]
  congr 1
  omega

theorem merge_bi {F : Nat → Prop} : ∀ (n m : Nat) (L : Nat → List Int) (p : Nat), n + m = 8 →
    (∀ k, k ≤ 8 → Rising (L k)) → (∀ k x, x ∈ L k → k ≤ 8 ∧ ∃ q : Nat, x = ((q * 2 ^ k : Nat) : Int)) →
    ((p * 2 ^ m : Nat) : Int) ∉ L m → Maxi (fun k q => ((q * 2 ^ k : Nat) : Int) ∈ L k) → Part (fun k q => ((q * 2 ^ k : Nat) : Int) ∈ L k ∨ (k = m ∧ q = p)) F →
    Bi (fun i => if i = (merge n L (p * 2 ^ m)).2.2 then ins (((merge n L (p * 2 ^ m)).2.1 : Nat) : Int) ((merge n L (p * 2 ^ m)).1 i) else (merge n L (p * 2 ^ m)).1 i) F := by
  have stop : ∀ (m : Nat) (L : Nat → List Int) (p : Nat), m ≤ 8 → (∀ k, k ≤ 8 → Rising (L k)) → (∀ k x, x ∈ L k → k ≤ 8 ∧ ∃ q : Nat, x = ((q * 2 ^ k : Nat) : Int)) →
      ((p * 2 ^ m : Nat) : Int) ∉ L m → Maxi (fun k q => ((q * 2 ^ k : Nat) : Int) ∈ L k) → Part (fun k q => ((q * 2 ^ k : Nat) : Int) ∈ L k ∨ (k = m ∧ q = p)) F →
      (m < 8 → ((sib p * 2 ^ m : Nat) : Int) ∉ L m) → Bi (fun i => if i = m then ins ((p * 2 ^ m : Nat) : Int) (L i) else L i) F := by
    intro m L p hm hr hf hn hx hp hs
    have hS : ∀ k q, ((q * 2 ^ k : Nat) : Int) ∈ (if k = m then ins ((p * 2 ^ m : Nat) : Int) (L k) else L k) ↔ ((q * 2 ^ k : Nat) : Int) ∈ L k ∨ (k = m ∧ q = p) := by
      intro k q
      by_cases e : k = m
      · subst e
        rw [if_pos rfl, mem_ins]
        constructor
        · rintro (h | h)
          · exact .inr ⟨rfl, cast_mul_inj h⟩
          · exact .inl h
        · rintro (h | ⟨_, rfl⟩)
          · exact .inr h
          · exact .inl rfl
      · rw [if_neg e]
        simp [e]
    refine ⟨fun k hk => ?_, fun k x hxk => ?_, hp.congr hS (fun _ => Iff.rfl), ?_⟩
    · show Rising (if k = m then _ else _)
      split
      · rename_i e; subst e; exact ins_rising (hr _ hk) hn
      · exact hr k hk
    · by_cases e : k = m
      · subst e
        simp only [if_true] at hxk
        rcases mem_ins.1 hxk with rfl | h
        · exact ⟨hm, _, rfl⟩
        · exact hf k x h
      · simp only [if_neg e] at hxk
        exact hf k x hxk
    · intro k q q' h1 h2 hk hq
      rcases (hS k q).1 h1 with a1 | ⟨e1, e2⟩ <;> rcases (hS k q').1 h2 with a2 | ⟨e3, e4⟩
      · exact hx k q q' a1 a2 hk hq
      · subst e3; subst e4
        rcases (half_or q' q).1 hq with e | e
        · exact e
        · subst e; exact (hs hk a1).elim
      · subst e1; subst e2
        rcases (half_or q q').1 hq.symm with e | e
        · exact e.symm
        · subst e; exact (hs hk a2).elim
      · rw [e2, e4]
  intro n
  induction n with
  | zero =>
    intro m L p hm hr hf hn hx hp
    obtain rfl : m = 8 := by omega
    have e : merge 0 L (p * 2 ^ 8) = (L, p * 2 ^ 8, 8) := rfl
    rw [e]
    exact stop 8 L p (Nat.le_refl 8) hr hf hn hx hp (fun h => absurd h (Nat.lt_irrefl 8))
  | succ n ih =>
    intro m L p hm hr hf hn hx hp
    have em : 7 - n = m := by omega
    have hmg : merge (n + 1) L (p * 2 ^ m) = if (L m).contains ((sib p * 2 ^ m : Nat) : Int) then merge n (fun i => if i = m then del ((sib p * 2 ^ m : Nat) : Int) (L i) else L i) (p / 2 * 2 ^ (m + 1)) else (L, p * 2 ^ m, m) := by
      rw [merge, em, bud_at, par_at]
    rw [hmg]
    by_cases hc : (L m).contains ((sib p * 2 ^ m : Nat) : Int) = true
    · rw [if_pos hc]
      have hmem : ((sib p * 2 ^ m : Nat) : Int) ∈ L m := by simpa using hc
      have hd := del_spec (hr m (by omega)) hmem
      have hL : ∀ k x, x ∈ (if k = m then del ((sib p * 2 ^ m : Nat) : Int) (L k) else L k) ↔ x ∈ L k ∧ ¬ (k = m ∧ x = ((sib p * 2 ^ m : Nat) : Int)) := by
        intro k x
        by_cases e : k = m
        · subst e; rw [if_pos rfl, hd.2.1]; simp
        · rw [if_neg e]; simp [e]
      have hmerge := hp.merge (k := m) (q := p / 2) (by omega)
        (by
          rcases (half_or p (2 * (p / 2))).1 (by omega) with e | e
          · exact .inr ⟨rfl, e⟩
          · rw [e]; exact .inl hmem)
        (by
          rcases (half_or p (2 * (p / 2) + 1)).1 (by omega) with e | e
          · exact .inr ⟨rfl, e⟩
          · rw [e]; exact .inl hmem)
      refine ih (m + 1) (fun i => if i = m then del ((sib p * 2 ^ m : Nat) : Int) (L i) else L i) (p / 2) (by omega) (fun k hk => ?_) (fun k x hxk => ?_) ?_ ?_ ?_
      · show Rising (if k = m then _ else _)
        split
        · rename_i e; subst e; exact hd.1
        · exact hr k hk
      · exact hf k x ((hL k x).1 hxk).1
      · intro h1
        have h1' := ((hL _ _).1 h1).1
        have := hp.dis (sib p * 2 ^ m) m (m + 1) (by rw [first_of]; exact .inl hmem) (by
          left
          have : sib p * 2 ^ m / 2 ^ (m + 1) = p / 2 := by rw [half, first_of]; exact (sib_half p).1
          rw [this]; exact h1')
        omega
      · intro k q q' h1 h2 hk hq
        exact hx k q q' ((hL _ _).1 h1).1 ((hL _ _).1 h2).1 hk hq
      · refine hmerge.congr (fun k q => ?_) (fun _ => Iff.rfl)
        rw [hL]
        constructor
        · rintro (⟨h1, h2⟩ | h1)
          · left
            refine ⟨.inl h1, ?_⟩
            rintro ⟨rfl, h3⟩
            rcases (half_or p q).1 h3 with e | e
            · subst e; exact hn h1
            · subst e; exact h2 ⟨rfl, rfl⟩
          · exact .inr h1
        · rintro (⟨h1, h2⟩ | h1)
          · rcases h1 with h1 | ⟨rfl, rfl⟩
            · left
              refine ⟨h1, ?_⟩
              rintro ⟨rfl, h3⟩
              have := cast_mul_inj h3
              subst this
              exact h2 ⟨rfl, (sib_half p).1⟩
            · exact (h2 ⟨rfl, rfl⟩).elim
          · exact .inr h1
    · rw [if_neg hc]
      exact stop m L p (by omega) hr hf hn hx hp (fun _ => by simpa using hc)

theorem Bi.free {L : Nat → List Int} {F : Nat → Prop} (h : Bi L F) {o p : Nat} (ho : o ≤ 8) (hn : ∀ i, i / 2 ^ o = p → ¬ F i) :
    Bi (freed L (p * 2 ^ o) o) (fun i => F i ∨ i / 2 ^ o = p) := by
  have hnot : ((p * 2 ^ o : Nat) : Int) ∉ L o := fun hm => hn (p * 2 ^ o) (first_of p o) (h.part.full hm (first_of p o))
  exact merge_bi (8 - o) o L p (by omega) h.rise h.form hnot h.maxi (h.part.more ho hn)
end Go.Proofs.Ytglelfceogpbpaa
