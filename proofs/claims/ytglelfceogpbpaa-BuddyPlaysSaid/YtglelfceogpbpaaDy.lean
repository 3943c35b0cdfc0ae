namespace Go.Proofs.Ytglelfceogpbpaa
namespace Dy
/-- S k q: the block of order k with the number q is listed; its frames are those i with i / 2^k = q -/
structure Part (S : Nat → Nat → Prop) (F : Nat → Prop) : Prop where
  ord : ∀ k q, S k q → k ≤ 8
  cov : ∀ i, F i ↔ ∃ k, S k (i / 2 ^ k)
  dis : ∀ i k k', S k (i / 2 ^ k) → S k' (i / 2 ^ k') → k = k'

def Maxi (S : Nat → Nat → Prop) : Prop := ∀ k q q', S k q → S k q' → k < 8 → q / 2 = q' / 2 → q = q'

theorem half (i k : Nat) : i / 2 ^ (k + 1) = i / 2 ^ k / 2 := by rw [Nat.pow_succ, Nat.div_div_eq_div_mul]
theorem shift (i k d : Nat) : i / 2 ^ (k + d) = i / 2 ^ k / 2 ^ d := by rw [Nat.pow_add, Nat.div_div_eq_div_mul]
theorem first_of (q k : Nat) : q * 2 ^ k / 2 ^ k = q := Nat.mul_div_cancel _ (Nat.pos_of_ne_zero (by simp))

variable {S : Nat → Nat → Prop} {F : Nat → Prop}

theorem Part.full (h : Part S F) {k q : Nat} (hs : S k q) {i : Nat} (hi : i / 2 ^ k = q) : F i := (h.cov i).2 ⟨k, by rw [hi]; exact hs⟩

theorem Part.congr (h : Part S F) {S' : Nat → Nat → Prop} {F' : Nat → Prop} (hs : ∀ k q, S' k q ↔ S k q) (hf : ∀ i, F' i ↔ F i) : Part S' F' where
  ord k q hq := h.ord k q ((hs k q).1 hq)
  cov i := by
    rw [hf, h.cov]
    constructor
    · rintro ⟨k, hk⟩; exact ⟨k, (hs _ _).2 hk⟩
    · rintro ⟨k, hk⟩; exact ⟨k, (hs _ _).1 hk⟩
  dis i k k' h1 h2 := h.dis i k k' ((hs _ _).1 h1) ((hs _ _).1 h2)

theorem Part.inside (h : Part S F) (hm : Maxi S) : ∀ k q, k ≤ 8 → (∀ i, i / 2 ^ k = q → F i) → ∃ d, S (k + d) (q / 2 ^ d) := by
  intro k
  induction k with
  | zero =>
    intro q _ hf
    obtain ⟨j, hj⟩ := (h.cov q).1 (hf q (by simp))
    exact ⟨j, by simpa using hj⟩
  | succ k ih =>
    intro q hk hf
    obtain ⟨d, hd⟩ := ih (2 * q) (by omega) (fun i hi => hf i (by rw [half, hi]; omega))
    obtain ⟨e, he⟩ := ih (2 * q + 1) (by omega) (fun i hi => hf i (by rw [half, hi]; omega))
    have key : ∀ p d, p / 2 = q → S (k + (d + 1)) (p / 2 ^ (d + 1)) → ∃ d, S (k + 1 + d) (q / 2 ^ d) := by
      intro p d hp hd
      refine ⟨d, ?_⟩
      have : p / 2 ^ (d + 1) = q / 2 ^ d := by rw [Nat.add_comm d 1, shift]; simp [hp]
      rw [this] at hd
      have e2 : k + (d + 1) = k + 1 + d := by omega
      rwa [e2] at hd
    cases d with
    | succ d => exact key (2 * q) d (by omega) hd
    | zero =>
      cases e with
      | succ e => exact key (2 * q + 1) e (by omega) he
      | zero =>
        have := hm k (2 * q) (2 * q + 1) (by simpa using hd) (by simpa using he) (by omega) (by omega)
        omega

def MaxFree (F : Nat → Prop) (k q : Nat) : Prop := k ≤ 8 ∧ (∀ i, i / 2 ^ k = q → F i) ∧ (k < 8 → ¬ ∀ i, i / 2 ^ (k + 1) = q / 2 → F i)

theorem Part.is_max (h : Part S F) (hm : Maxi S) (k q : Nat) : S k q ↔ MaxFree F k q := by
  constructor
  · intro hs
    refine ⟨h.ord k q hs, fun i hi => h.full hs hi, fun hk hp => ?_⟩
    obtain ⟨d, hd⟩ := h.inside hm (k + 1) (q / 2) (by omega) hp
    have e1 : q * 2 ^ k / 2 ^ (k + 1 + d) = q / 2 / 2 ^ d := by rw [shift, half, first_of]
    have := h.dis (q * 2 ^ k) k (k + 1 + d) (by rw [first_of]; exact hs) (by rw [e1]; exact hd)
    omega
  · rintro ⟨hk, hf, hp⟩
    obtain ⟨d, hd⟩ := h.inside hm k q hk hf
    cases d with
    | zero => simpa using hd
    | succ d =>
      exfalso
      have h8 := h.ord _ _ hd
      refine hp (by omega) fun i hi => h.full hd ?_
      rw [show k + (d + 1) = k + 1 + d by omega, shift, hi, Nat.add_comm d 1, shift]

/-- a block is cut in two -/
theorem Part.split (h : Part S F) {k q : Nat} (hs : S (k + 1) q) :
    Part (fun j p => (S j p ∧ ¬ (j = k + 1 ∧ p = q)) ∨ (j = k ∧ p / 2 = q)) F where
  ord j p hj := by
    rcases hj with ⟨hj, _⟩ | ⟨rfl, _⟩
    · exact h.ord _ _ hj
    · have := h.ord _ _ hs; omega
  cov i := by
    constructor
    · intro hi
      obtain ⟨j, hj⟩ := (h.cov i).1 hi
      by_cases e : j = k + 1 ∧ i / 2 ^ j = q
      · exact ⟨k, .inr ⟨rfl, by rw [← half]; obtain ⟨rfl, e⟩ := e; exact e⟩⟩
      · exact ⟨j, .inl ⟨hj, e⟩⟩
    · rintro ⟨j, ⟨hj, _⟩ | ⟨rfl, hj⟩⟩
      · exact (h.cov i).2 ⟨j, hj⟩
      · exact (h.cov i).2 ⟨j + 1, by rw [half, hj]; exact hs⟩
  dis i j j' hj hj' := by
    have two : ∀ a, S a (i / 2 ^ a) → ¬ (a = k + 1 ∧ i / 2 ^ a = q) → i / 2 ^ k / 2 = q → False := by
      intro a ha hn e
      rw [← half] at e
      have := h.dis i a (k + 1) ha (by rw [e]; exact hs)
      subst this
      exact hn ⟨rfl, e⟩
    rcases hj with ⟨hj, n⟩ | ⟨rfl, e⟩ <;> rcases hj' with ⟨hj', n'⟩ | ⟨rfl, e'⟩
    · exact h.dis i j j' hj hj'
    · exact (two j hj n e').elim
    · exact (two j' hj' n' e).elim
    · rfl

/-- two halves become one -/
theorem Part.merge (h : Part S F) {k q : Nat} (hk : k < 8) (h0 : S k (2 * q)) (h1 : S k (2 * q + 1)) :
    Part (fun j p => (S j p ∧ ¬ (j = k ∧ p / 2 = q)) ∨ (j = k + 1 ∧ p = q)) F where
  ord j p hj := by
    rcases hj with ⟨hj, _⟩ | ⟨rfl, _⟩
    · exact h.ord _ _ hj
    · omega
  cov i := by
    constructor
    · intro hi
      obtain ⟨j, hj⟩ := (h.cov i).1 hi
      by_cases e : j = k ∧ i / 2 ^ j / 2 = q
      · obtain ⟨rfl, e⟩ := e
        exact ⟨j + 1, .inr ⟨rfl, by rw [half]; exact e⟩⟩
      · exact ⟨j, .inl ⟨hj, e⟩⟩
    · rintro ⟨j, ⟨hj, _⟩ | ⟨rfl, hj⟩⟩
      · exact (h.cov i).2 ⟨j, hj⟩
      · rw [half] at hj
        refine (h.cov i).2 ⟨k, ?_⟩
        rcases Nat.mod_two_eq_zero_or_one (i / 2 ^ k) with e | e
        · rw [show i / 2 ^ k = 2 * q by omega]; exact h0
        · rw [show i / 2 ^ k = 2 * q + 1 by omega]; exact h1
  dis i j j' hj hj' := by
    have two : ∀ a, S a (i / 2 ^ a) → ¬ (a = k ∧ i / 2 ^ a / 2 = q) → i / 2 ^ (k + 1) = q → False := by
      intro a ha hn e
      rw [half] at e
      have hk' : S k (i / 2 ^ k) := by
        rcases Nat.mod_two_eq_zero_or_one (i / 2 ^ k) with e' | e'
        · rw [show i / 2 ^ k = 2 * q by omega]; exact h0
        · rw [show i / 2 ^ k = 2 * q + 1 by omega]; exact h1
      have := h.dis i a k ha hk'
      subst this
      exact hn ⟨rfl, e⟩
    rcases hj with ⟨hj, n⟩ | ⟨rfl, e⟩ <;> rcases hj' with ⟨hj', n'⟩ | ⟨rfl, e'⟩
    · exact h.dis i j j' hj hj'
    · exact (two j hj n e').elim
    · exact (two j' hj' n' e).elim
    · rfl

/-- a block goes, with its frames -/
theorem Part.less (h : Part S F) {k q : Nat} (hs : S k q) :
    Part (fun j p => S j p ∧ ¬ (j = k ∧ p = q)) (fun i => F i ∧ i / 2 ^ k ≠ q) where
  ord j p hj := h.ord _ _ hj.1
  cov i := by
    constructor
    · rintro ⟨hi, hn⟩
      obtain ⟨j, hj⟩ := (h.cov i).1 hi
      exact ⟨j, hj, fun ⟨e, e'⟩ => hn (by subst e; exact e')⟩
    · rintro ⟨j, hj, hn⟩
      refine ⟨(h.cov i).2 ⟨j, hj⟩, fun e => hn ?_⟩
      have := h.dis i j k hj (by rw [e]; exact hs)
      subst this
      exact ⟨rfl, e⟩
  dis i j j' hj hj' := h.dis i j j' hj.1 hj'.1

/-- a block comes, with its frames -/
theorem Part.more (h : Part S F) {k q : Nat} (hk : k ≤ 8) (hn : ∀ i, i / 2 ^ k = q → ¬ F i) :
    Part (fun j p => S j p ∨ (j = k ∧ p = q)) (fun i => F i ∨ i / 2 ^ k = q) where
  ord j p hj := by
    rcases hj with hj | ⟨rfl, _⟩
    · exact h.ord _ _ hj
    · exact hk
  cov i := by
    constructor
    · rintro (hi | hi)
      · obtain ⟨j, hj⟩ := (h.cov i).1 hi
        exact ⟨j, .inl hj⟩
      · exact ⟨k, .inr ⟨rfl, hi⟩⟩
    · rintro ⟨j, hj | ⟨rfl, e⟩⟩
      · exact .inl ((h.cov i).2 ⟨j, hj⟩)
      · exact .inr e
  dis i j j' hj hj' := by
    rcases hj with hj | ⟨rfl, e⟩ <;> rcases hj' with hj' | ⟨rfl, e'⟩
    · exact h.dis i j j' hj hj'
    · exact (hn i e' ((h.cov i).2 ⟨j, hj⟩)).elim
    · exact (hn i e ((h.cov i).2 ⟨j', hj'⟩)).elim
    · rfl
end Dy
end Go.Proofs.Ytglelfceogpbpaa
