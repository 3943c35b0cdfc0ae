/- A region that draws its order, walked in one order that is given: what reads alone is taken first, what writes stands in a row. -/
import Derived.WalkKit
import Derived.OrdersHeld
import Derived.Deep.RegionHeld3
namespace Go.Proofs.Ytglelfceogpbpaa
open Go.RowKit

section
variable {P : Program} {ops : Array Oper} {Q : Exit → Act → World → Prop} {md : Region.Mode} {S : World → Prop}

/-- the plan is one: (i, false): number i reads alone, is ready, and is apart from all that may come up; (i, true): number i is all that may come up -/
def planB (md : Region.Mode) (ops : Array Oper) : List (Nat × Bool) → Array Bool → Bool
  | [], listed => (Region.ready md ops listed).isEmpty
  | (i, true) :: l, listed => (Region.ready md ops listed == [i]) && planB md ops l (listed.setIfInBounds i true)
  | (i, false) :: l, listed => (Region.ready md ops listed).contains i && Region.free md ops listed i && planB md ops l (listed.setIfInBounds i true)

def wpPlan (P : Program) (ops : Array Oper) (Q : Exit → Act → World → Prop) (S : World → Prop) : List (Nat × Bool) → Act → World → Prop
  | [], a, w => Q .normal a w
  | (i, false) :: l, a, w => ∃ o v, ops[i]? = some o ∧ YieldsIf P ops S o v a ∧ wpPlan P ops Q S l (a.put o.dst v) w
  | (i, true) :: l, a, w => wpOp P ops Q i (fun a' w' => S w' ∧ wpPlan P ops Q S l a' w') a w

theorem wpAnyH_plan (hs : Region.noSelect ops = true) (hQ : ∀ c a w d v, Q (.panic c) (a.put d v) w → Q (.panic c) a w) :
    ∀ (l : List (Nat × Bool)) (listed : Array Bool) (a : Act) (w : World), planB md ops l listed = true → S w → wpPlan P ops Q S l a w → wpAnyH P md ops Q S l.length listed a w := by
  intro l
  induction l with
  | nil =>
    intro listed a w hB _ h
    exact ⟨by simpa [planB] using hB, h⟩
  | cons x l ih =>
    intro listed a w hB hS h
    obtain ⟨i, e⟩ := x
    cases e with
    | false =>
      obtain ⟨o, v, ho, hy, h⟩ := h
      simp only [planB, Bool.and_eq_true] at hB
      exact wpAnyH_take ho hs hB.1.2 hB.1.1 (fun c a w => hQ c a w o.dst v) hy hS (ih _ _ _ hB.2 hS h)
    | true =>
      simp only [planB, Bool.and_eq_true, beq_iff_eq] at hB
      refine wpAnyH_all hB.1 (by simp) fun j hj => ?_
      obtain rfl : j = i := by simpa using hj
      exact wpOp_mono (fun a' w' h' => ⟨h'.1, ih _ a' w' hB.2 h'.1 h'.2⟩) h

theorem wp_region_plan {id : Nat} {l : List Oper} {a : Act} {w : World} (S : World → Prop) (plan : List (Nat × Bool)) (hm : P.follows .mixedOrders = true)
    (hB : (Region.noSelect l.toArray && planB .any l.toArray plan (Array.replicate l.toArray.size false) && (plan.length == l.toArray.size)) = true)
    (hS : S w.drew) (h : wpPlan P l.toArray (NoPanic Q) S plan a w.drew) : (Code.region id l.toArray true).wp P Q a w := by
  simp only [Bool.and_eq_true, beq_iff_eq] at hB
  refine wp_region_noPanic (wp_region_held (S := S) hm ?_)
  have := wpAnyH_plan (Q := NoPanic Q) hB.1.1 (fun _ _ _ _ _ h => h) plan _ a w.drew hB.1.2 hS h
  rw [hB.2] at this
  exact this

theorem wpPlan_nil {a : Act} {w : World} (h : Q .normal a w) : wpPlan P ops Q S [] a w := h

/-- the operation number i of a list that is written out -/
def opAt (l : List Oper) (i : Nat) (o : Oper) : Prop := l[i]? = some o
theorem opAt_zero (o : Oper) (l : List Oper) : opAt (o :: l) 0 o := rfl
theorem opAt_succ {o x : Oper} {l : List Oper} {i : Nat} (h : opAt l i o) : opAt (x :: l) (i + 1) o := h

variable {lo : List Oper}
theorem wpPlan_q {i : Nat} {o : Oper} {v : Value} {l : List (Nat × Bool)} {a : Act} {w : World} (ho : lo[i]? = some o) (hg : o.guard = none)
    (hy : ∀ w, S w → (execOp a.eval o).run P w = .ok (.value v) w) (h : wpPlan P lo.toArray Q S l (a.put o.dst v) w) : wpPlan P lo.toArray Q S ((i, false) :: l) a w :=
  ⟨o, v, by simpa using ho, .inl ⟨by simp [Region.wanted, hg], hy⟩, h⟩
/-- a guarded operation whose guard is met -/
theorem wpPlan_g {i : Nat} {o : Oper} {v : Value} {l : List (Nat × Bool)} {a : Act} {w : World} (ho : lo[i]? = some o) (hg : Region.wanted o (yielded lo.toArray a.tmps) = true)
    (hy : ∀ w, S w → (execOp a.eval o).run P w = .ok (.value v) w) (h : wpPlan P lo.toArray Q S l (a.put o.dst v) w) : wpPlan P lo.toArray Q S ((i, false) :: l) a w :=
  ⟨o, v, by simpa using ho, .inl ⟨hg, hy⟩, h⟩
theorem wpPlan_n {i : Nat} {o : Oper} {l : List (Nat × Bool)} {a : Act} {w : World} (ho : lo[i]? = some o) (hg : Region.wanted o (yielded lo.toArray a.tmps) = false)
    (h : wpPlan P lo.toArray Q S l (a.put o.dst undef) w) : wpPlan P lo.toArray Q S ((i, false) :: l) a w :=
  ⟨o, undef, by simpa using ho, .inr ⟨hg, rfl⟩, h⟩
theorem wpPlan_eg {i : Nat} {o : Oper} {l : List (Nat × Bool)} {a : Act} {w : World} (ho : lo[i]? = some o)
    (h : ∀ K : Act → World → Prop, (∀ a w, S w → wpPlan P lo.toArray Q S l a w → K a w) → if Region.wanted o (yielded lo.toArray a.tmps) = true then Oper.wp P o a w K Q else K (a.put o.dst undef) w) :
    wpPlan P lo.toArray Q S ((i, true) :: l) a w :=
  wpOp_step (by simpa using ho) (fun K hK => h K (fun a w hS hW => hK a w ⟨hS, hW⟩))
/-- what writes, without a guard -/
theorem wpPlan_e {i : Nat} {o : Oper} {l : List (Nat × Bool)} {a : Act} {w : World} (ho : lo[i]? = some o) (hg : o.guard = none)
    (h : ∀ K : Act → World → Prop, (∀ a w, S w → wpPlan P lo.toArray Q S l a w → K a w) → Oper.wp P o a w K Q) :
    wpPlan P lo.toArray Q S ((i, true) :: l) a w :=
  wpPlan_eg ho (fun K hK => by rw [if_pos (by simp [Region.wanted, hg])]; exact h K hK)
end
end Go.Proofs.Ytglelfceogpbpaa
