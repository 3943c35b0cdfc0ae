/- As XPlan, where two that write may be ready at once: each of the two ways is walked. -/
import Derived.Test.YtglelfceogpbpaaPlan
namespace Go.Proofs.Ytglelfceogpbpaa
open Go.RowKit

inductive PT
  | done
  | q (i : Nat) (p : PT)
  | e (i : Nat) (p : PT)
  | fork (i : Nat) (p : PT) (j : Nat) (p' : PT)

def PT.size : PT → Nat
  | .done => 0
  | .q _ p => p.size + 1
  | .e _ p => p.size + 1
  | .fork _ p _ _ => p.size + 1

section
variable {P : Program} {ops : Array Oper} {Q : Exit → Act → World → Prop} {md : Region.Mode} {S : World → Prop}

def planT (md : Region.Mode) (ops : Array Oper) : PT → Array Bool → Bool
  | .done, listed => (Region.ready md ops listed).isEmpty
  | .q i p, listed => (Region.ready md ops listed).contains i && Region.free md ops listed i && planT md ops p (listed.setIfInBounds i true)
  | .e i p, listed => (Region.ready md ops listed == [i]) && planT md ops p (listed.setIfInBounds i true)
  | .fork i p j p', listed => (Region.ready md ops listed == [i, j]) && planT md ops p (listed.setIfInBounds i true) && planT md ops p' (listed.setIfInBounds j true) && (p.size == p'.size)

def wpT (P : Program) (ops : Array Oper) (Q : Exit → Act → World → Prop) (S : World → Prop) : PT → Act → World → Prop
  | .done, a, w => Q .normal a w
  | .q i p, a, w => ∃ o v, ops[i]? = some o ∧ YieldsIf P ops S o v a ∧ wpT P ops Q S p (a.put o.dst v) w
  | .e i p, a, w => wpOp P ops Q i (fun a' w' => S w' ∧ wpT P ops Q S p a' w') a w
  | .fork i p j p', a, w => wpOp P ops Q i (fun a' w' => S w' ∧ wpT P ops Q S p a' w') a w ∧ wpOp P ops Q j (fun a' w' => S w' ∧ wpT P ops Q S p' a' w') a w

theorem wpAnyH_tree (hs : Region.noSelect ops = true) (hQ : ∀ c a w d v, Q (.panic c) (a.put d v) w → Q (.panic c) a w) :
    ∀ (p : PT) (listed : Array Bool) (a : Act) (w : World), planT md ops p listed = true → S w → wpT P ops Q S p a w → wpAnyH P md ops Q S p.size listed a w := by
  intro p
  induction p with
  | done =>
    intro listed a w hB _ h
    exact ⟨by simpa [planT] using hB, h⟩
  | q i p ih =>
    intro listed a w hB hS h
    obtain ⟨o, v, ho, hy, h⟩ := h
    simp only [planT, Bool.and_eq_true] at hB
    exact wpAnyH_take ho hs hB.1.2 hB.1.1 (fun c a w => hQ c a w o.dst v) hy hS (ih _ _ _ hB.2 hS h)
  | e i p ih =>
    intro listed a w hB hS h
    simp only [planT, Bool.and_eq_true, beq_iff_eq] at hB
    refine wpAnyH_all hB.1 (by simp) fun j hj => ?_
    obtain rfl : j = i := by simpa using hj
    exact wpOp_mono (fun a' w' h' => ⟨h'.1, ih _ a' w' hB.2 h'.1 h'.2⟩) h
  | fork i p j p' ih ih' =>
    intro listed a w hB hS h
    simp only [planT, Bool.and_eq_true, beq_iff_eq] at hB
    obtain ⟨⟨⟨h1, h2⟩, h3⟩, h4⟩ := hB
    refine wpAnyH_all h1 (by simp) fun k hk => ?_
    rcases List.mem_cons.1 hk with e | e
    · subst e
      exact wpOp_mono (fun a' w' h' => ⟨h'.1, ih _ a' w' h2 h'.1 h'.2⟩) h.1
    · obtain rfl : k = j := by simpa using e
      show wpOp P ops Q k (fun a' w' => S w' ∧ wpAnyH P md ops Q S p.size _ a' w') a w
      rw [h4]
      exact wpOp_mono (fun a' w' h' => ⟨h'.1, ih' _ a' w' h3 h'.1 h'.2⟩) h.2

theorem wp_region_tree {id : Nat} {l : List Oper} {a : Act} {w : World} (S : World → Prop) (p : PT) (hm : P.follows .mixedOrders = true)
    (hB : (Region.noSelect l.toArray && planT .any l.toArray p (Array.replicate l.toArray.size false) && (p.size == l.toArray.size)) = true)
    (hS : S w.drew) (h : wpT P l.toArray (NoPanic Q) S p a w.drew) : (Code.region id l.toArray true).wp P Q a w := by
  simp only [Bool.and_eq_true, beq_iff_eq] at hB
  refine wp_region_noPanic (wp_region_held (S := S) hm ?_)
  have := wpAnyH_tree (Q := NoPanic Q) hB.1.1 (fun _ _ _ _ _ h => h) p _ a w.drew hB.1.2 hS h
  rw [hB.2] at this
  exact this

theorem wpT_nil {a : Act} {w : World} (h : Q .normal a w) : wpT P ops Q S .done a w := h

variable {lo : List Oper}
theorem wpT_q {i : Nat} {o : Oper} {v : Value} {p : PT} {a : Act} {w : World} (ho : lo[i]? = some o) (hg : Region.wanted o (yielded lo.toArray a.tmps) = true)
    (hy : ∀ w, S w → (execOp a.eval o).run P w = .ok (.value v) w) (h : wpT P lo.toArray Q S p (a.put o.dst v) w) : wpT P lo.toArray Q S (.q i p) a w :=
  ⟨o, v, by simpa using ho, .inl ⟨hg, hy⟩, h⟩
theorem wpT_n {i : Nat} {o : Oper} {p : PT} {a : Act} {w : World} (ho : lo[i]? = some o) (hg : Region.wanted o (yielded lo.toArray a.tmps) = false)
    (h : wpT P lo.toArray Q S p (a.put o.dst undef) w) : wpT P lo.toArray Q S (.q i p) a w :=
  ⟨o, undef, by simpa using ho, .inr ⟨hg, rfl⟩, h⟩
theorem wpT_e {i : Nat} {o : Oper} {p : PT} {a : Act} {w : World} (ho : lo[i]? = some o)
    (hg : Region.wanted o (yielded lo.toArray a.tmps) = true)
    (h : ∀ K : Act → World → Prop, (∀ a w, S w → wpT P lo.toArray Q S p a w → K a w) → Oper.wp P o a w K Q) :
    wpT P lo.toArray Q S (.e i p) a w :=
  wpOp_step (by simpa using ho) (fun K hK => by rw [if_pos hg]; exact h K (fun a w hS hW => hK a w ⟨hS, hW⟩))
theorem wpT_fork {i j : Nat} {o o' : Oper} {p p' : PT} {a : Act} {w : World} (ho : lo[i]? = some o) (ho' : lo[j]? = some o')
    (hg : Region.wanted o (yielded lo.toArray a.tmps) = true) (hg' : Region.wanted o' (yielded lo.toArray a.tmps) = true)
    (h : ∀ K : Act → World → Prop, (∀ a w, S w → wpT P lo.toArray Q S p a w → K a w) → Oper.wp P o a w K Q)
    (h' : ∀ K : Act → World → Prop, (∀ a w, S w → wpT P lo.toArray Q S p' a w → K a w) → Oper.wp P o' a w K Q) :
    wpT P lo.toArray Q S (.fork i p j p') a w :=
  ⟨wpOp_step (by simpa using ho) (fun K hK => by rw [if_pos hg]; exact h K (fun a w hS hW => hK a w ⟨hS, hW⟩)),
   wpOp_step (by simpa using ho') (fun K hK => by rw [if_pos hg']; exact h' K (fun a w hS hW => hK a w ⟨hS, hW⟩))⟩
end
end Go.Proofs.Ytglelfceogpbpaa
