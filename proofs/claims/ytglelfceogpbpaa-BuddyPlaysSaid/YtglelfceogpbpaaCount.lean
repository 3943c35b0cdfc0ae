/- How many frames the free blocks hold; what the free frames say of the lists. -/
import Derived.Test.YtglelfceogpbpaaPure
namespace Go.Proofs.Ytglelfceogpbpaa
open Dy

theorem countP_or {α : Type} (p q : α → Bool) : ∀ l : List α, (∀ x ∈ l, ¬ (p x = true ∧ q x = true)) → l.countP (fun x => p x || q x) = l.countP p + l.countP q := by
  intro l
  induction l with
  | nil => intro _; simp
  | cons x l ih =>
    intro h
    have h1 := ih (fun y hy => h y (by simp [hy]))
    have h2 := h x (by simp)
    simp only [List.countP_cons, h1]
    cases hp : p x <;> cases hq : q x <;> simp_all <;> omega

theorem countP_between (a b : Nat) (h : a ≤ b) : ∀ n, b ≤ n → (List.range n).countP (fun i => decide (a ≤ i) && decide (i < b)) = b - a := by
  have low : ∀ n, n ≤ b → (List.range n).countP (fun i => decide (a ≤ i) && decide (i < b)) = n - a := by
    intro n
    induction n with
    | zero => intro _; simp
    | succ n ih =>
      intro hn
      rw [List.range_succ, List.countP_append, ih (by omega)]
      by_cases h1 : a ≤ n
      · simp [h1, show n < b by omega]; omega
      · simp [h1]; omega
  intro n
  induction n with
  | zero => intro hn; rw [low 0 (by omega)]; omega
  | succ n ih =>
    intro hn
    by_cases e : b = n + 1
    · rw [low (n + 1) (by omega)]; omega
    · rw [List.range_succ, List.countP_append, ih (by omega)]
      simp [show ¬ n < b by omega]

theorem count_list (k n : Nat) : ∀ l : List Int, Rising l → (∀ x ∈ l, ∃ q : Nat, x = ((q * 2 ^ k : Nat) : Int) ∧ (q + 1) * 2 ^ k ≤ n) →
    (List.range n).countP (fun i => l.contains ((i / 2 ^ k * 2 ^ k : Nat) : Int)) = l.length * 2 ^ k := by
  intro l
  induction l with
  | nil => intro _ _; simp
  | cons x l ih =>
    intro hr h
    obtain ⟨q, hx, hq⟩ := h x (by simp)
    have hp := List.pairwise_cons.1 hr
    have h1 := ih hp.2 (fun y hy => h y (by simp [hy]))
    have e : (fun i : Nat => (x :: l).contains ((i / 2 ^ k * 2 ^ k : Nat) : Int)) = fun i : Nat => (decide (q * 2 ^ k ≤ i) && decide (i < (q + 1) * 2 ^ k)) || l.contains ((i / 2 ^ k * 2 ^ k : Nat) : Int) := by
      funext i
      rw [List.contains_cons]
      congr 1
      rw [Bool.eq_iff_iff]
      simp only [beq_iff_eq, Bool.and_eq_true, decide_eq_true_eq, hx]
      have hpw := Nat.two_pow_pos k
      constructor
      · intro e
        have := cast_mul_inj e
        have := (Nat.div_eq_iff hpw).1 this
        rw [Nat.add_mul]; omega
      · intro e
        have : i / 2 ^ k = q := (Nat.div_eq_iff hpw).2 (by rw [Nat.add_mul] at e; omega)
        rw [this]
    rw [e, countP_or, h1, countP_between _ _ (by rw [Nat.add_mul]; omega) _ hq]
    · rw [List.length_cons, Nat.add_mul, Nat.add_mul]; omega
    · intro i _ ⟨h2, h3⟩
      simp only [Bool.and_eq_true, decide_eq_true_eq] at h2
      have hpw := Nat.two_pow_pos k
      have : i / 2 ^ k = q := (Nat.div_eq_iff hpw).2 (by rw [Nat.add_mul] at h2; omega)
      rw [this, ← hx] at h3
      have := hp.1 x (by simpa using h3)
      omega

theorem count_upto {L : Nat → List Int} {f : Nat → Bool} (h : Bi L (fun i => f i = true)) (n : Nat) (hn : ∀ i, f i = true → i < n) : ∀ m, m ≤ 9 →
    (List.range n).countP (fun i => (List.range m).any fun k => (L k).contains ((i / 2 ^ k * 2 ^ k : Nat) : Int)) = ((List.range m).map fun k => (L k).length * 2 ^ k).sum := by
  intro m
  induction m with
  | zero => intro _; simp
  | succ m ih =>
    intro hm
    have h1 := ih (by omega)
    have e : (fun i : Nat => (List.range (m + 1)).any fun k => (L k).contains ((i / 2 ^ k * 2 ^ k : Nat) : Int)) = fun i : Nat => ((List.range m).any fun k => (L k).contains ((i / 2 ^ k * 2 ^ k : Nat) : Int)) || (L m).contains ((i / 2 ^ m * 2 ^ m : Nat) : Int) := by
      funext i
      rw [List.range_succ, List.any_append]
      simp
    rw [e, countP_or, h1, count_list m n (L m) (h.rise m (by omega))]
    · rw [List.range_succ]; simp
    · intro x hx
      obtain ⟨_, q, rfl⟩ := h.form m x hx
      refine ⟨q, rfl, ?_⟩
      have hp := Nat.two_pow_pos m
      have := hn _ (h.part.full (k := m) (q := q) hx (i := q * 2 ^ m + (2 ^ m - 1)) (by rw [Nat.div_eq_iff hp]; omega))
      rw [Nat.add_mul]; omega
    · intro i _ ⟨h2, h3⟩
      obtain ⟨k, hk, h4⟩ := List.any_eq_true.1 h2
      have := h.part.dis i k m (by simpa using h4) (by simpa using h3)
      simp at hk
      omega

/-- the frames of all free blocks: how many are free -/
theorem count_all {L : Nat → List Int} {f : Nat → Bool} (h : Bi L (fun i => f i = true)) (n : Nat) (hn : ∀ i, f i = true → i < n) :
    ((List.range 9).map fun k => (L k).length * 2 ^ k).sum = (List.range n).countP f := by
  rw [← count_upto h n hn 9 (by omega)]
  congr 1
  funext i
  rw [Bool.eq_iff_iff, List.any_eq_true]
  constructor
  · rintro ⟨k, hk, h1⟩
    exact (h.part.cov i).2 ⟨k, by simpa using h1⟩
  · intro hi
    obtain ⟨k, hk⟩ := (h.part.cov i).1 hi
    exact ⟨k, by have := h.part.ord _ _ hk; simp; omega, by simpa using hk⟩

theorem rising_ext : ∀ {l l' : List Int}, Rising l → Rising l' → (∀ x, x ∈ l ↔ x ∈ l') → l = l' := by
  intro l
  induction l with
  | nil =>
    intro l' _ _ h
    cases l' with
    | nil => rfl
    | cons x l' => have := (h x).2 (by simp); simp at this
  | cons x l ih =>
    intro l' hr hr' h
    cases l' with
    | nil => have := (h x).1 (by simp); simp at this
    | cons y l' =>
      have hp := List.pairwise_cons.1 hr
      have hp' := List.pairwise_cons.1 hr'
      have hxy : x = y := by
        rcases List.mem_cons.1 ((h x).1 (by simp)) with e | hx
        · exact e
        · rcases List.mem_cons.1 ((h y).2 (by simp)) with e | hy
          · exact e.symm
          · have := hp'.1 x hx
            have := hp.1 y hy
            omega
      subst hxy
      refine congrArg _ (ih hp.2 hp'.2 fun u => ⟨fun hu => ?_, fun hu => ?_⟩)
      · rcases List.mem_cons.1 ((h u).1 (by simp [hu])) with e | h'
        · have := hp.1 u hu; omega
        · exact h'
      · rcases List.mem_cons.1 ((h u).2 (by simp [hu])) with e | h'
        · have := hp'.1 u hu; omega
        · exact h'

/-- the free frames say what is listed -/
theorem Bi.ext {L L' : Nat → List Int} {F F' : Nat → Prop} (h : Bi L F) (h' : Bi L' F') (hf : ∀ i, F i ↔ F' i) (k : Nat) (hk : k ≤ 8) : L k = L' k := by
  refine rising_ext (h.rise k hk) (h'.rise k hk) fun x => ?_
  have hmf : ∀ q, MaxFree F k q ↔ MaxFree F' k q := by
    intro q
    have : F = F' := funext fun i => propext (hf i)
    rw [this]
  constructor
  · intro hx
    obtain ⟨_, q, rfl⟩ := h.form k x hx
    exact (h'.part.is_max h'.maxi k q).2 ((hmf q).1 ((h.part.is_max h.maxi k q).1 hx))
  · intro hx
    obtain ⟨_, q, rfl⟩ := h'.form k x hx
    exact (h.part.is_max h.maxi k q).2 ((hmf q).2 ((h'.part.is_max h'.maxi k q).1 hx))

/-- two rows that are one when their order is let be, and that rise: they are one -/
theorem sorted_ext {α : Type} (key : α → Int) : ∀ {l l' : List α}, l.Perm l' → l.Pairwise (fun x y => key x ≤ key y) → l'.Pairwise (fun x y => key x ≤ key y) → (l.map key).Nodup → l = l' := by
  intro l
  induction l with
  | nil => intro l' hp _ _ _; exact hp.nil_eq
  | cons x l ih =>
    intro l' hp h h' hn
    cases l' with
    | nil => exact absurd hp.length_eq (by simp)
    | cons y l' =>
      have hc := List.pairwise_cons.1 h
      have hc' := List.pairwise_cons.1 h'
      have hxy : x = y := by
        rcases List.mem_cons.1 (hp.mem_iff.1 (show x ∈ x :: l by simp)) with e | hx
        · exact e
        · rcases List.mem_cons.1 (hp.mem_iff.2 (show y ∈ y :: l' by simp)) with e | hy
          · exact e.symm
          · have e : key x = key y := by
              have := hc'.1 x hx
              have := hc.1 y hy
              omega
            simp only [List.map_cons, List.nodup_cons] at hn
            exact (hn.1 (by rw [e]; exact List.mem_map.2 ⟨y, hy, rfl⟩)).elim
      subst hxy
      simp only [List.map_cons, List.nodup_cons] at hn
      exact congrArg _ (ih (List.perm_cons _ |>.1 hp) hc.2 hc'.2 hn.2)
end Go.Proofs.Ytglelfceogpbpaa
