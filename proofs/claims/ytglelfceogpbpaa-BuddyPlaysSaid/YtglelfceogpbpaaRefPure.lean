/- The free blocks as the document reckons them: from each frame on the greatest one. -/
import Derived.Test.YtglelfceogpbpaaCount
namespace Go.Proofs.Ytglelfceogpbpaa
open Dy

/-- are so many frames from one on free? -/
def frees (f : List Bool) (a m : Nat) : Bool := decide (a + m ≤ f.length) && (List.range m).all fun i => f.getD (a + i) false

/-- the greatest order that fits at a frame, of those below m; -1: none -/
def bestO (f : List Bool) (a : Nat) : Nat → Int
  | 0 => -1
  | m + 1 => if a % 2 ^ m = 0 ∧ frees f a (2 ^ m) = true then (m : Int) else bestO f a m

theorem frees_iff (f : List Bool) (q k : Nat) : frees f (q * 2 ^ k) (2 ^ k) = true ↔ ∀ i, i / 2 ^ k = q → f[i]? = some true := by
  have hp := Nat.two_pow_pos k
  unfold frees
  rw [Bool.and_eq_true, decide_eq_true_eq, List.all_eq_true]
  constructor
  · rintro ⟨h1, h2⟩ i hi
    have := (Nat.div_eq_iff hp).1 hi
    have h3 := h2 (i - q * 2 ^ k) (by simp; omega)
    rw [show q * 2 ^ k + (i - q * 2 ^ k) = i by omega, List.getD_eq_getElem?_getD] at h3
    rw [List.getElem?_eq_getElem (by omega)] at h3 ⊢
    simpa using h3
  · intro h
    have hl := h (q * 2 ^ k + (2 ^ k - 1)) (by rw [Nat.div_eq_iff hp]; omega)
    have := (List.getElem?_eq_some_iff.1 hl).1
    refine ⟨by omega, fun j hj => ?_⟩
    simp at hj
    rw [List.getD_eq_getElem?_getD, h _ (by rw [Nat.div_eq_iff hp]; omega)]
    rfl

theorem bestO_spec (f : List Bool) (a : Nat) : ∀ m, (bestO f a m = -1 ∧ ∀ k, k < m → ¬ (a % 2 ^ k = 0 ∧ frees f a (2 ^ k) = true)) ∨
    ∃ k : Nat, k < m ∧ bestO f a m = k ∧ a % 2 ^ k = 0 ∧ frees f a (2 ^ k) = true ∧ ∀ j, k < j → j < m → ¬ (a % 2 ^ j = 0 ∧ frees f a (2 ^ j) = true) := by
  intro m
  induction m with
  | zero => exact .inl ⟨rfl, fun k hk => by omega⟩
  | succ m ih =>
    by_cases h : a % 2 ^ m = 0 ∧ frees f a (2 ^ m) = true
    · exact .inr ⟨m, by omega, by rw [bestO, if_pos h], h.1, h.2, fun j h1 h2 => by omega⟩
    · rw [bestO, if_neg h]
      rcases ih with ⟨h1, h2⟩ | ⟨k, h1, h2, h3, h4, h5⟩
      · refine .inl ⟨h1, fun k hk => ?_⟩
        by_cases e : k = m
        · subst e; exact h
        · exact h2 k (by omega)
      · refine .inr ⟨k, by omega, h2, h3, h4, fun j hj1 hj2 => ?_⟩
        by_cases e : j = m
        · subst e; exact h
        · exact h5 j hj1 (by omega)

def allL (L : Nat → List Int) : List (Int × Int) := (List.range 9).flatMap fun k => (L k).map fun x => (x, (k : Int))
theorem mem_allL {L : Nat → List Int} {y : Int × Int} : y ∈ allL L ↔ ∃ k : Nat, k < 9 ∧ y.2 = (k : Int) ∧ y.1 ∈ L k := by
  simp only [allL, List.mem_flatMap, List.mem_range, List.mem_map]
  constructor
  · rintro ⟨k, hk, x, hx, rfl⟩; exact ⟨k, hk, rfl, hx⟩
  · rintro ⟨k, hk, h1, h2⟩; exact ⟨k, hk, y.1, h2, by rw [← h1]⟩

theorem allL_nodup {L : Nat → List Int} {F : Nat → Prop} (I : Bi L F) : (allL L).Nodup := by
  unfold allL List.Nodup
  rw [List.pairwise_flatMap]
  constructor
  · intro k hk
    rw [List.pairwise_map]
    have := I.rise k (by simp at hk; omega)
    refine this.imp ?_
    intro a b hab e
    simp at e
    omega
  · refine List.Pairwise.imp ?_ List.nodup_range
    intro a b hab x hx y hy e
    obtain ⟨x1, _, rfl⟩ := List.mem_map.1 hx
    obtain ⟨y1, _, rfl⟩ := List.mem_map.1 hy
    simp only [Prod.mk.injEq] at e
    omega

/-- how far the document's blocks are gathered: those that begin ahead of a frame; none goes over it -/
structure Sofar (L : Nat → List Int) (a : Nat) (S : List (Int × Int)) : Prop where
  rise : S.Pairwise (fun x y => x.1 < y.1)
  mem : ∀ y, y ∈ S ↔ y ∈ allL L ∧ y.1 < a
  cut : ∀ k q : Nat, ((q * 2 ^ k : Nat) : Int) ∈ L k → q * 2 ^ k < a → (q + 1) * 2 ^ k ≤ a

section
variable {L : Nat → List Int} {f : List Bool}

theorem Sofar.start (h : Bi L (fun i => f[i]? = some true)) : Sofar L 0 [] := by
  refine ⟨by simp, fun y => ⟨fun h => by simp at h, fun ⟨h1, h2⟩ => ?_⟩, fun k q _ hlt => by omega⟩
  obtain ⟨k, _, _, h3⟩ := mem_allL.1 h1
  obtain ⟨_, q, e⟩ := h.form k _ h3
  omega

theorem Sofar.no (h : Bi L (fun i => f[i]? = some true)) {a : Nat} {S : List (Int × Int)} (s : Sofar L a S) (hb : bestO f a 9 = -1) : Sofar L (a + 1) S := by
  have hno : ∀ k q : Nat, ((q * 2 ^ k : Nat) : Int) ∈ L k → q * 2 ^ k ≠ a := by
    intro k q hq e
    obtain ⟨hk, _⟩ := h.form k _ hq
    rcases bestO_spec f a 9 with ⟨_, h2⟩ | ⟨k', _, h2, _⟩
    · refine h2 k (by omega) ⟨by rw [← e]; exact Nat.mul_mod_left _ _, ?_⟩
      rw [← e, frees_iff]
      intro i hi
      exact h.part.full hq hi
    · omega
  refine ⟨s.rise, fun y => ?_, fun k q hq hlt => ?_⟩
  · rw [s.mem]
    constructor
    · rintro ⟨h1, h2⟩; exact ⟨h1, by omega⟩
    · rintro ⟨h1, h2⟩
      refine ⟨h1, ?_⟩
      obtain ⟨k, _, _, h3⟩ := mem_allL.1 h1
      obtain ⟨_, q, e⟩ := h.form k _ h3
      have := hno k q (by rw [← e]; exact h3)
      omega
  · have := hno k q hq
    have := s.cut k q hq (by omega)
    omega

theorem Sofar.yes (h : Bi L (fun i => f[i]? = some true)) {a : Nat} {S : List (Int × Int)} (s : Sofar L a S) {k : Nat} (hb : bestO f a 9 = k) : k ≤ 8 ∧ a < f.length ∧ Sofar L (a + 2 ^ k) (S ++ [((a : Int), (k : Int))]) := by
  rcases bestO_spec f a 9 with ⟨h1, _⟩ | ⟨k', h1, h2, h3, h4, h5⟩
  · omega
  obtain rfl : k = k' := by omega
  have hp := Nat.two_pow_pos k
  obtain ⟨q, hq⟩ : ∃ q, a = q * 2 ^ k := ⟨a / 2 ^ k, by have := Nat.div_add_mod a (2 ^ k); rw [h3] at this; rw [Nat.mul_comm]; omega⟩
  rw [hq] at h4
  have hfree := (frees_iff f q k).1 h4
  have hal : a < f.length := (List.getElem?_eq_some_iff.1 (hfree a (by rw [hq]; exact first_of q k))).1
  have hin : ((q * 2 ^ k : Nat) : Int) ∈ L k := by
    obtain ⟨d, hd⟩ := h.part.inside h.maxi k q (by omega) hfree
    cases d with
    | zero => simpa using hd
    | succ d =>
      exfalso
      have h8 := h.part.ord _ _ hd
      have hpd := Nat.two_pow_pos (k + (d + 1))
      by_cases e : q / 2 ^ (d + 1) * 2 ^ (k + (d + 1)) < a
      · have hc := s.cut (k + (d + 1)) _ hd e
        have : a / 2 ^ (k + (d + 1)) = q / 2 ^ (d + 1) := by rw [hq, shift, first_of]
        have := (Nat.div_eq_iff hpd).1 this
        rw [Nat.add_mul] at hc
        omega
      · have hle : q / 2 ^ (d + 1) * 2 ^ (k + (d + 1)) ≤ a := by
          rw [hq, show 2 ^ (k + (d + 1)) = 2 ^ (d + 1) * 2 ^ k by rw [Nat.pow_add, Nat.mul_comm], ← Nat.mul_assoc]
          exact Nat.mul_le_mul_right _ (Nat.div_mul_le_self _ _)
        have e2 : q / 2 ^ (d + 1) * 2 ^ (k + (d + 1)) = a := by omega
        refine h5 (k + (d + 1)) (by omega) (by omega) ⟨by rw [← e2]; exact Nat.mul_mod_left _ _, ?_⟩
        rw [← e2, frees_iff]
        intro i hi
        exact h.part.full hd hi
  have hmem : ((a : Int), (k : Int)) ∈ allL L := mem_allL.2 ⟨k, by omega, rfl, by rw [hq]; exact hin⟩
  refine ⟨by omega, hal, ?_, fun y => ?_, fun j p hj hlt => ?_⟩
  · rw [List.pairwise_append]
    refine ⟨s.rise, by simp, fun x hx y hy => ?_⟩
    rw [List.mem_singleton.1 hy]
    exact ((s.mem x).1 hx).2
  · rw [List.mem_append, s.mem]
    constructor
    · rintro (⟨h1, h2⟩ | h1)
      · exact ⟨h1, by omega⟩
      · rw [List.mem_singleton.1 h1]
        exact ⟨hmem, by simp only; omega⟩
    · rintro ⟨h1, h2⟩
      by_cases hlt : y.1 < a
      · exact .inl ⟨h1, hlt⟩
      · right
        obtain ⟨j, hj, e1, h3⟩ := mem_allL.1 h1
        obtain ⟨_, p, e⟩ := h.form j _ h3
        rw [e] at h3
        have hd := h.part.dis (p * 2 ^ j) j k (by rw [first_of]; exact h3) (by
          have : p * 2 ^ j / 2 ^ k = q := by rw [Nat.div_eq_iff hp]; omega
          rw [this]; exact hin)
        subst hd
        have : p * 2 ^ j / 2 ^ j = q := by rw [Nat.div_eq_iff hp]; omega
        rw [first_of] at this
        rw [List.mem_singleton]
        refine Prod.ext ?_ e1
        rw [e, this, hq]
  · by_cases e : p * 2 ^ j < a
    · have := s.cut j p hj e; omega
    · have hd := h.part.dis (p * 2 ^ j) j k (by rw [first_of]; exact hj) (by
        have : p * 2 ^ j / 2 ^ k = q := by rw [Nat.div_eq_iff hp]; omega
        rw [this]; exact hin)
      subst hd
      have : p * 2 ^ j / 2 ^ j = q := by rw [Nat.div_eq_iff hp]; omega
      rw [first_of] at this
      rw [this, Nat.add_mul, hq]
      omega

theorem Sofar.done (h : Bi L (fun i => f[i]? = some true)) {a : Nat} {S : List (Int × Int)} (s : Sofar L a S) (ha : f.length ≤ a) : S.Perm (allL L) := by
  refine (List.perm_ext_iff_of_nodup ?_ (allL_nodup h)).2 fun y => ?_
  · exact s.rise.imp (fun {x y} hxy e => by rw [e] at hxy; omega)
  · rw [s.mem]
    constructor
    · exact fun h => h.1
    · intro h1
      refine ⟨h1, ?_⟩
      obtain ⟨k, _, _, h3⟩ := mem_allL.1 h1
      obtain ⟨_, q, e⟩ := h.form k _ h3
      rw [e] at h3
      have hf : f[q * 2 ^ k]? = some true := h.part.full h3 (first_of q k)
      have := (List.getElem?_eq_some_iff.1 hf).1
      omega
end
end Go.Proofs.Ytglelfceogpbpaa
