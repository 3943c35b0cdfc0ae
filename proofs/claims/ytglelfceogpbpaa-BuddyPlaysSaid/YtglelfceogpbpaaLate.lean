/- As XPlan, where the last operation writes a cell that the region has read: behind it nothing is asked of the world. -/
import Derived.Test.YtglelfceogpbpaaPlan
namespace Go.Proofs.Ytglelfceogpbpaa
open Go.RowKit

section
variable {P : Program} {ops : Array Oper} {Q : Exit → Act → World → Prop} {md : Region.Mode} {S : World → Prop} {late : Nat}

/-- whatever order is picked; S holds behind each that is carried out but the late one -/
def wpLate (P : Program) (md : Region.Mode) (ops : Array Oper) (Q : Exit → Act → World → Prop) (S : World → Prop) (late : Nat) : Nat → Array Bool → Act → World → Prop
  | 0, listed, a, w => Region.ready md ops listed = [] ∧ Q .normal a w
  | n + 1, listed, a, w => (Region.ready md ops listed = [] → Q .normal a w) ∧
    ∀ i ∈ Region.ready md ops listed, wpOp P ops Q i (fun a' w' => (i = late ∨ S w') ∧ wpLate P md ops Q S late n (listed.setIfInBounds i true) a' w') a w

theorem wpLate_any : ∀ (n : Nat) (listed : Array Bool) (a : Act) (w : World), wpLate P md ops Q S late n listed a w → wpAny P md ops Q n listed a w := by
  intro n
  induction n with
  | zero => intro _ _ _ h; exact h
  | succ n ih => intro listed a w h; exact ⟨h.1, fun i hi => wpOp_mono (fun a' w' h' => ih _ a' w' h'.2) (h.2 i hi)⟩

/-- the late one waits for number i -/
def waitsFor (md : Region.Mode) (ops : Array Oper) (late i : Nat) : Bool := match ops[late]? with
  | some o => o.after.any fun e => Region.binds md e && e.on == i
  | none => true

theorem wpLate_first {i : Nat} {oi : Oper} {v : Value} (hi : ops[i]? = some oi) (hs : Region.noSelect ops = true) (hw : waitsFor md ops late i = true)
    (hQ : ∀ c a w, Q (.panic c) (a.put oi.dst v) w → Q (.panic c) a w) :
    ∀ (n : Nat) (listed : Array Bool) (a : Act) (w : World),
      (∀ j oj, ops[j]? = some oj → j ≠ i → listed.getD j true = false → (∀ e ∈ oj.after, Region.binds md e = true → e.on ≠ i) → oi.apart ops oj = true) →
      i ∈ Region.ready md ops listed → YieldsIf P ops S oi v a → S w → wpLate P md ops Q S late n (listed.setIfInBounds i true) (a.put oi.dst v) w → wpLate P md ops Q S late (n + 1) listed a w := by
  have hsel := Region.noSelect_spec hs
  intro n
  induction n with
  | zero =>
    intro listed a w _ hr hy hS hN
    refine ⟨fun h0 => (by rw [h0] at hr; cases hr), fun j hj => ?_⟩
    by_cases e : j = i
    · subst e; exact hy.wpOp hi hS ⟨.inr hS, hN⟩
    · have hm := ready_mono hj e
      rw [hN.1] at hm
      cases hm
  | succ n ih =>
    intro listed a w hap hr hy hS hN
    refine ⟨fun h0 => (by rw [h0] at hr; cases hr), fun j hj => ?_⟩
    by_cases e : j = i
    · subst e; exact hy.wpOp hi hS ⟨.inr hS, hN⟩
    · have hstep := hN.2 j (ready_mono hj e)
      obtain ⟨hun, oj, hoj, hafter⟩ := mem_ready.1 hj
      have hno : ∀ x ∈ oj.after, Region.binds md x = true → x.on ≠ i := fun x hx hb he => by
        have q1 := hafter x hx hb
        have q0 := (mem_ready.1 hr).1
        rw [he] at q1
        rcases Nat.lt_or_ge i listed.size with hl | hl
        · simp [hl] at q0 q1; rw [q0] at q1; cases q1
        · simp [Array.getElem?_eq_none hl] at q1
      have hnl : j ≠ late := by
        intro hl
        subst hl
        simp only [waitsFor, hoj] at hw
        obtain ⟨k, hk, hk2⟩ := Array.any_eq_true.1 hw
        simp only [Bool.and_eq_true, beq_iff_eq] at hk2
        exact hno _ (Array.getElem_mem hk) hk2.1 hk2.2
      have h2 := wpOp_putIf hoj (hap j oj hoj e hun hno) (fun cs b => hsel i oi cs b hi) (fun cs b => hsel j oj cs b hoj) hQ hy hstep
      have hap' : ∀ k ok, ops[k]? = some ok → k ≠ i → (listed.setIfInBounds j true).getD k true = false →
          (∀ x ∈ ok.after, Region.binds md x = true → x.on ≠ i) → oi.apart ops ok = true := fun k ok hk hki hu hn => by
        refine hap k ok hk hki ?_ hn
        by_cases hjk : j = k
        · subst hjk; exact hun
        · rw [getD_set_ne true hjk] at hu; exact hu
      refine wpOp_mono (fun a' w' h3 => ?_) h2
      have hS' : S w' := h3.2.1.resolve_left hnl
      refine ⟨.inr hS', ih (listed.setIfInBounds j true) a' w' hap' (ready_mono hr (Ne.symm e)) h3.1 hS' ?_⟩
      rw [Array.setIfInBounds_comm _ _ e]
      exact h3.2.2

/-- (i, 0): reads alone, the late one waits for it; (i, 1): all that may come up -/
def planLate (md : Region.Mode) (ops : Array Oper) (late : Nat) : List (Nat × Bool) → Array Bool → Bool
  | [], listed => (Region.ready md ops listed).isEmpty
  | (i, true) :: l, listed => (Region.ready md ops listed == [i]) && planLate md ops late l (listed.setIfInBounds i true)
  | (i, false) :: l, listed => (Region.ready md ops listed).contains i && Region.free md ops listed i && waitsFor md ops late i && planLate md ops late l (listed.setIfInBounds i true)

def wpPlanL (P : Program) (ops : Array Oper) (Q : Exit → Act → World → Prop) (S : World → Prop) (late : Nat) : List (Nat × Bool) → Act → World → Prop
  | [], a, w => Q .normal a w
  | (i, false) :: l, a, w => S w ∧ ∃ o v, ops[i]? = some o ∧ YieldsIf P ops S o v a ∧ wpPlanL P ops Q S late l (a.put o.dst v) w
  | (i, true) :: l, a, w => wpOp P ops Q i (fun a' w' => (i = late ∨ S w') ∧ wpPlanL P ops Q S late l a' w') a w

theorem wpLate_plan (hs : Region.noSelect ops = true) (hQ : ∀ c a w d v, Q (.panic c) (a.put d v) w → Q (.panic c) a w) :
    ∀ (l : List (Nat × Bool)) (listed : Array Bool) (a : Act) (w : World), planLate md ops late l listed = true → wpPlanL P ops Q S late l a w → wpLate P md ops Q S late l.length listed a w := by
  intro l
  induction l with
  | nil =>
    intro listed a w hB h
    exact ⟨by simpa [planLate] using hB, h⟩
  | cons x l ih =>
    intro listed a w hB h
    obtain ⟨i, e⟩ := x
    cases e with
    | false =>
      obtain ⟨hS, o, v, ho, hy, h⟩ := h
      simp only [planLate, Bool.and_eq_true] at hB
      exact wpLate_first ho hs hB.1.2 (fun c a w => hQ c a w o.dst v) _ listed a w (Region.free_spec ho hB.1.1.2) (by simpa using hB.1.1.1) hy hS (ih _ _ _ hB.2 h)
    | true =>
      simp only [planLate, Bool.and_eq_true, beq_iff_eq] at hB
      refine ⟨fun h0 => (by rw [hB.1] at h0; cases h0), fun j hj => ?_⟩
      rw [hB.1] at hj
      obtain rfl : j = i := by simpa using hj
      exact wpOp_mono (fun a' w' h' => ⟨h'.1, ih _ a' w' hB.2 h'.2⟩) h

theorem wp_region_late {id : Nat} {l : List Oper} {a : Act} {w : World} (S : World → Prop) (late : Nat) (plan : List (Nat × Bool)) (hm : P.follows .mixedOrders = true)
    (hB : (Region.noSelect l.toArray && planLate .any l.toArray late plan (Array.replicate l.toArray.size false) && (plan.length == l.toArray.size)) = true)
    (h : wpPlanL P l.toArray (NoPanic Q) S late plan a w.drew) : (Code.region id l.toArray true).wp P Q a w := by
  simp only [Bool.and_eq_true, beq_iff_eq] at hB
  refine wp_region_noPanic (wp_region_any hm (wpLate_any (S := S) (late := late) _ _ _ _ ?_))
  have := wpLate_plan (Q := NoPanic Q) hB.1.1 (fun _ _ _ _ _ h => h) plan _ a w.drew hB.1.2 h
  rw [hB.2] at this
  exact this

variable {lo : List Oper}
theorem wpPlanL_nil {a : Act} {w : World} (h : Q .normal a w) : wpPlanL P ops Q S late [] a w := h
theorem wpPlanL_q {i : Nat} {o : Oper} {v : Value} {l : List (Nat × Bool)} {a : Act} {w : World} (hS : S w) (ho : lo[i]? = some o) (hg : Region.wanted o (yielded lo.toArray a.tmps) = true)
    (hy : ∀ w, S w → (execOp a.eval o).run P w = .ok (.value v) w) (h : wpPlanL P lo.toArray Q S late l (a.put o.dst v) w) : wpPlanL P lo.toArray Q S late ((i, false) :: l) a w :=
  ⟨hS, o, v, by simpa using ho, .inl ⟨hg, hy⟩, h⟩
theorem wpPlanL_e {i : Nat} {o : Oper} {l : List (Nat × Bool)} {a : Act} {w : World} (ho : lo[i]? = some o) (hg : Region.wanted o (yielded lo.toArray a.tmps) = true)
    (h : ∀ K : Act → World → Prop, (∀ a w, (i = late ∨ S w) → wpPlanL P lo.toArray Q S late l a w → K a w) → Oper.wp P o a w K Q) :
    wpPlanL P lo.toArray Q S late ((i, true) :: l) a w :=
  wpOp_step (by simpa using ho) (fun K hK => by rw [if_pos hg]; exact h K (fun a w hS hW => hK a w ⟨hS, hW⟩))
end
end Go.Proofs.Ytglelfceogpbpaa
