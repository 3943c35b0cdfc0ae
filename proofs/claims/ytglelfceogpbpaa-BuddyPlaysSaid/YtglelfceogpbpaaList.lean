/- Rising lists of numbers: one put in, one taken out. -/
namespace Go.Proofs.Ytglelfceogpbpaa

def ins (x : Int) (l : List Int) : List Int := l.take (l.countP (· < x)) ++ x :: l.drop (l.countP (· < x))
def del (x : Int) (l : List Int) : List Int := l.eraseIdx (l.countP (· < x))

abbrev Rising (l : List Int) : Prop := l.Pairwise (· < ·)

theorem Rising.le {l : List Int} (h : Rising l) : l.Pairwise (· ≤ ·) := h.imp (fun h => Int.le_of_lt h)

theorem ins_cons_lt {x y : Int} {l : List Int} (h : y < x) : ins x (y :: l) = y :: ins x l := by
  simp [ins, h]
theorem countP_zero {x : Int} {l : List Int} (h : ∀ y ∈ l, ¬ y < x) : l.countP (· < x) = 0 := by
  rw [List.countP_eq_zero]
  intro y hy
  simpa using h y hy
theorem ins_cons_ge {x y : Int} {l : List Int} (hl : Rising (y :: l)) (h : ¬ y < x) : ins x (y :: l) = x :: y :: l := by
  have : (y :: l).countP (· < x) = 0 := countP_zero (fun u hu => by
    rcases List.mem_cons.1 hu with rfl | hu
    · exact h
    · have := (List.pairwise_cons.1 hl).1 u hu
      omega)
  simp [ins, this]

theorem mem_ins {x y : Int} {l : List Int} : y ∈ ins x l ↔ y = x ∨ y ∈ l := by
  unfold ins
  rw [List.mem_append, List.mem_cons]
  constructor
  · rintro (h | h | h)
    · exact .inr (List.mem_of_mem_take h)
    · exact .inl h
    · exact .inr (List.mem_of_mem_drop h)
  · rintro (h | h)
    · exact .inr (.inl h)
    · rw [← List.take_append_drop (l.countP (· < x)) l, List.mem_append] at h
      rcases h with h | h
      · exact .inl h
      · exact .inr (.inr h)

theorem ins_len (x : Int) (l : List Int) : (ins x l).length = l.length + 1 := by
  have := List.countP_le_length (p := fun y => decide (y < x)) (l := l)
  simp [ins]
  omega

theorem ins_rising {x : Int} {l : List Int} (hl : Rising l) (hx : x ∉ l) : Rising (ins x l) := by
  induction l with
  | nil => simp [ins, Rising]
  | cons y l ih =>
    have hx' : x ≠ y ∧ x ∉ l := ⟨fun e => hx (by simp [e]), fun e => hx (by simp [e])⟩
    by_cases h : y < x
    · rw [ins_cons_lt h]
      refine List.pairwise_cons.2 ⟨fun u hu => ?_, ih (List.pairwise_cons.1 hl).2 hx'.2⟩
      rcases mem_ins.1 hu with rfl | hu
      · exact h
      · exact (List.pairwise_cons.1 hl).1 u hu
    · rw [ins_cons_ge hl h]
      refine List.pairwise_cons.2 ⟨fun u hu => ?_, hl⟩
      rcases List.mem_cons.1 hu with rfl | hu
      · omega
      · have := (List.pairwise_cons.1 hl).1 u hu
        omega

theorem del_cons_lt {x y : Int} {l : List Int} (h : y < x) : del x (y :: l) = y :: del x l := by
  simp [del, h]
theorem del_cons_ge {x y : Int} {l : List Int} (hl : Rising (y :: l)) (h : ¬ y < x) : del x (y :: l) = l := by
  have : (y :: l).countP (· < x) = 0 := countP_zero (fun u hu => by
    rcases List.mem_cons.1 hu with rfl | hu
    · exact h
    · have := (List.pairwise_cons.1 hl).1 u hu
      omega)
  simp [del, this]

theorem del_spec {x : Int} {l : List Int} (hl : Rising l) (hx : x ∈ l) : Rising (del x l) ∧ (∀ y, y ∈ del x l ↔ y ∈ l ∧ y ≠ x) ∧ l.countP (· < x) < l.length := by
  induction l with
  | nil => simp at hx
  | cons y l ih =>
    have hp := List.pairwise_cons.1 hl
    by_cases h : y < x
    · have hx' : x ∈ l := by
        rcases List.mem_cons.1 hx with rfl | hx
        · omega
        · exact hx
      obtain ⟨i1, i2, i3⟩ := ih hp.2 hx'
      refine ⟨?_, ?_, by simp [h]; exact i3⟩
      · rw [del_cons_lt h]
        exact List.pairwise_cons.2 ⟨fun u hu => hp.1 u ((i2 u).1 hu).1, i1⟩
      · intro u
        rw [del_cons_lt h, List.mem_cons, List.mem_cons, i2]
        constructor
        · rintro (rfl | ⟨h1, h2⟩)
          · exact ⟨.inl rfl, by omega⟩
          · exact ⟨.inr h1, h2⟩
        · rintro ⟨rfl | h1, h2⟩
          · exact .inl rfl
          · exact .inr ⟨h1, h2⟩
    · have hxy : x = y := by
        rcases List.mem_cons.1 hx with rfl | hx
        · rfl
        · have := hp.1 x hx
          omega
      subst hxy
      have hc : (x :: l).countP (· < x) = 0 := countP_zero (fun u hu => by
        rcases List.mem_cons.1 hu with rfl | hu
        · omega
        · have := hp.1 u hu
          omega)
      refine ⟨?_, ?_, by rw [hc]; simp⟩
      · rw [del_cons_ge hl h]; exact hp.2
      · intro u
        rw [del_cons_ge hl h, List.mem_cons]
        constructor
        · intro hu
          have := hp.1 u hu
          exact ⟨.inr hu, by omega⟩
        · rintro ⟨rfl | h1, h2⟩
          · exact (h2 rfl).elim
          · exact h1

theorem rising_len : ∀ (l : List Int) (a b : Int), Rising l → (∀ x ∈ l, a ≤ x ∧ x < b) → l.length ≤ (b - a).toNat := by
  intro l
  induction l with
  | nil => intro a b _ _; simp
  | cons x l ih =>
    intro a b hr h
    have hp := List.pairwise_cons.1 hr
    have := ih (x + 1) b hp.2 (fun y hy => ⟨by have := hp.1 y hy; omega, (h y (by simp [hy])).2⟩)
    have := h x (by simp)
    simp only [List.length_cons]
    omega
end Go.Proofs.Ytglelfceogpbpaa
