/- The lists behind Alloc and Free, as functions of lists. -/
import Derived.Test.YtglelfceogpbpaaList
import Derived.Test.YtglelfceogpbpaaDy
namespace Go.Proofs.Ytglelfceogpbpaa

def bud (f n : Nat) : Nat := if f / 2 ^ n % 2 = 0 then f + 2 ^ n else f - 2 ^ n
def par (f n : Nat) : Nat := f - f / 2 ^ n % 2 * 2 ^ n

/-- the lists behind an Alloc that takes a block of order j, whose first frame is x, for one of order o -/
def taken (L : Nat → List Int) (o j : Nat) (x : Int) (i : Nat) : List Int := if i = j then del x (L j) else if o ≤ i ∧ i < j then ins (x + 2 ^ i) (L i) else L i

/-- the halves that are free become one with it, as far as it goes: n orders above it are left -/
def merge : Nat → (Nat → List Int) → Nat → (Nat → List Int) × Nat × Nat
  | 0, L, f => (L, f, 8)
  | n + 1, L, f => if (L (7 - n)).contains ((bud f (7 - n) : Nat) : Int) then merge n (fun i => if i = 7 - n then del ((bud f (7 - n) : Nat) : Int) (L i) else L i) (par f (7 - n)) else (L, f, 7 - n)

def freed (L : Nat → List Int) (f o : Nat) (i : Nat) : List Int :=
  if i = (merge (8 - o) L f).2.2 then ins ((merge (8 - o) L f).2.1 : Nat) ((merge (8 - o) L f).1 i) else (merge (8 - o) L f).1 i

theorem par_le (f n : Nat) : par f n ≤ f := by unfold par; omega
theorem del_len (x : Int) (l : List Int) : (del x l).length ≤ l.length := by
  unfold del
  rw [List.length_eraseIdx]
  split <;> omega


/-- the order of the block that is laid at a frame: the greatest one that fits -/
def gord (n at_ : Nat) : Nat → Nat → Nat
  | 0, k => k
  | m + 1, k => if at_ % 2 ^ (k + 1) = 0 ∧ at_ + 2 ^ (k + 1) ≤ n then gord n at_ m (k + 1) else k

/-- what holds of the lists that are laid from r on, up to a frame -/
structure NI (L : Nat → List Int) (r at_ n : Nat) : Prop where
  rise : ∀ k, k ≤ 8 → Rising (L k)
  form : ∀ k x, x ∈ L k → k ≤ 8 ∧ ∃ q : Nat, x = ((q * 2 ^ k : Nat) : Int) ∧ (q + 1) * 2 ^ k ≤ at_ ∧ (k < 8 → q % 2 = 1 ∨ n < (q + 2) * 2 ^ k)
  part : Dy.Part (fun k q => ((q * 2 ^ k : Nat) : Int) ∈ L k) (fun i => r ≤ i ∧ i < at_)
  le : at_ ≤ n

theorem gord_spec (n at_ : Nat) : ∀ (m k : Nat), m + k = 8 → at_ % 2 ^ k = 0 → at_ + 2 ^ k ≤ n →
    gord n at_ m k ≤ 8 ∧ at_ % 2 ^ gord n at_ m k = 0 ∧ at_ + 2 ^ gord n at_ m k ≤ n ∧ (gord n at_ m k < 8 → ¬ (at_ % 2 ^ (gord n at_ m k + 1) = 0 ∧ at_ + 2 ^ (gord n at_ m k + 1) ≤ n)) := by
  intro m
  induction m with
  | zero => intro k hk h1 h2; exact ⟨by simp [gord]; omega, h1, h2, fun h => by simp [gord] at h; omega⟩
  | succ m ih =>
    intro k hk h1 h2
    by_cases h : at_ % 2 ^ (k + 1) = 0 ∧ at_ + 2 ^ (k + 1) ≤ n
    · rw [gord, if_pos h]
      exact ih (k + 1) (by omega) h.1 h.2
    · rw [gord, if_neg h]
      exact ⟨by omega, h1, h2, fun _ => h⟩

theorem NI.step {L : Nat → List Int} {r at_ n : Nat} (h : NI L r at_ n) (hr : r ≤ at_) (hlt : at_ < n) (k : Nat) (hk : k = gord n at_ 8 0) :
    NI (fun i => if i = k then ins (at_ : Int) (L i) else L i) r (at_ + 2 ^ k) n := by
  obtain ⟨g1, g2, g3, g4⟩ := gord_spec n at_ 8 0 rfl (by simp [Nat.mod_one]) (by simp; omega)
  rw [← hk] at g1 g2 g3 g4
  have hp : 0 < 2 ^ k := Nat.pos_of_ne_zero (by simp)
  obtain ⟨q, hq⟩ : ∃ q, at_ = q * 2 ^ k := ⟨at_ / 2 ^ k, by have := Nat.div_add_mod at_ (2 ^ k); rw [g2] at this; rw [Nat.mul_comm]; omega⟩
  have hnot : ((at_ : Nat) : Int) ∉ L k := by
    intro hm
    obtain ⟨_, q', e, h2, _⟩ := h.form k _ hm
    have e' : at_ = q' * 2 ^ k := by exact_mod_cast e
    rw [Nat.add_mul] at h2
    omega
  have hblock : ∀ i, i / 2 ^ k = q ↔ at_ ≤ i ∧ i < at_ + 2 ^ k := by
    intro i
    rw [Nat.div_eq_iff hp, hq]
    omega
  refine ⟨fun i hi => ?_, fun i x hx => ?_, ?_, g3⟩
  · show Rising (if i = k then _ else _)
    split
    · rename_i e; subst e; exact ins_rising (h.rise _ hi) hnot
    · exact h.rise i hi
  · by_cases e : i = k
    · subst e
      simp only [if_true] at hx
      rcases mem_ins.1 hx with rfl | hx
      · refine ⟨g1, q, by rw [hq], by rw [Nat.add_mul]; omega, fun h8 => ?_⟩
        have := g4 h8
        by_cases hodd : q % 2 = 1
        · exact .inl hodd
        · right
          have h2 : at_ % 2 ^ (i + 1) = 0 := by
            rw [hq, Nat.pow_succ]
            generalize 2 ^ i = X
            obtain ⟨p, rfl⟩ : ∃ p, q = 2 * p := ⟨q / 2, by omega⟩
            rw [show 2 * p * X = X * 2 * p by rw [Nat.mul_comm X 2, Nat.mul_assoc, Nat.mul_comm p X, Nat.mul_assoc]]
            exact Nat.mul_mod_right _ _
          have : ¬ at_ + 2 ^ (i + 1) ≤ n := fun h3 => this ⟨h2, h3⟩
          rw [Nat.add_mul, ← hq]
          rw [Nat.pow_succ] at this
          omega
      · obtain ⟨h1, q', e1, h2, h3⟩ := h.form i x hx
        exact ⟨h1, q', e1, by omega, h3⟩
    · simp only [if_neg e] at hx
      obtain ⟨h1, q', e1, h2, h3⟩ := h.form i x hx
      exact ⟨h1, q', e1, by omega, h3⟩
  · have hm := h.part.more (k := k) (q := q) g1 (fun i hi hF => by have := (hblock i).1 hi; omega)
    refine hm.congr (fun j p => ?_) (fun i => ?_)
    · by_cases e : j = k
      · subst e
        simp only [if_true, mem_ins, true_and]
        constructor
        · rintro (h1 | h1)
          · right
            have h1' : p * 2 ^ j = at_ := by exact_mod_cast h1
            rw [hq] at h1'
            exact Nat.eq_of_mul_eq_mul_right hp h1'
          · exact .inl h1
        · rintro (h1 | rfl)
          · exact .inr h1
          · left; rw [hq]
      · simp [e]
    · rw [hblock]
      omega

theorem NI.len {L : Nat → List Int} {r at_ n : Nat} (h : NI L r at_ n) (hn : n ≤ 256) (k : Nat) (hk : k ≤ 8) : (L k).length ≤ 1000000 := by
  have := rising_len (L k) 0 n (h.rise k hk) (fun x hx => by
    obtain ⟨_, q, rfl, h2, _⟩ := h.form k x hx
    have := h.le
    rw [Nat.add_mul] at h2
    have := Nat.two_pow_pos k
    omega)
  omega

/-- what holds of the buddy's lists, if just these frames are free -/
structure Bi (L : Nat → List Int) (F : Nat → Prop) : Prop where
  rise : ∀ k, k ≤ 8 → Rising (L k)
  form : ∀ k x, x ∈ L k → k ≤ 8 ∧ ∃ q : Nat, x = ((q * 2 ^ k : Nat) : Int)
  part : Dy.Part (fun k q => ((q * 2 ^ k : Nat) : Int) ∈ L k) F
  maxi : Dy.Maxi (fun k q => ((q * 2 ^ k : Nat) : Int) ∈ L k)

theorem cast_mul_inj {k p q : Nat} (h : ((p * 2 ^ k : Nat) : Int) = ((q * 2 ^ k : Nat) : Int)) : p = q :=
  Nat.eq_of_mul_eq_mul_right (Nat.two_pow_pos k) (by exact_mod_cast h)

theorem NI.done {L : Nat → List Int} {r n : Nat} (h : NI L r n n) : Bi L (fun i => r ≤ i ∧ i < n) := by
  refine ⟨h.rise, fun k x hx => ?_, h.part, ?_⟩
  · obtain ⟨h1, q, h2, _⟩ := h.form k x hx
    exact ⟨h1, q, h2⟩
  · have key : ∀ k q q', ((q * 2 ^ k : Nat) : Int) ∈ L k → ((q' * 2 ^ k : Nat) : Int) ∈ L k → k < 8 → q / 2 = q' / 2 → q < q' → False := by
      intro k q q' h1 h2 hk hp hlt
      obtain ⟨_, p, e1, _, e3⟩ := h.form k _ h1
      obtain ⟨_, p', e1', e2', _⟩ := h.form k _ h2
      have := cast_mul_inj e1
      have := cast_mul_inj e1'
      subst p; subst p'
      rcases e3 hk with e | e
      · omega
      · have : q' + 1 = q + 2 := by omega
        rw [this] at e2'
        omega
    intro k q q' h1 h2 hk hp
    rcases Nat.lt_trichotomy q q' with h' | h' | h'
    · exact (key k q q' h1 h2 hk hp h').elim
    · exact h'
    · exact (key k q' q h2 h1 hk hp.symm h').elim
end Go.Proofs.Ytglelfceogpbpaa
