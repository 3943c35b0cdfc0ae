/- The heap as a list of blocks that are known whole: what a call may touch stands first, the rest is carried along. -/
import Derived.WalkKit
import Derived.Deep.QuietTactic
namespace Go.Proofs.Ytglelfceogpbpaa
open Go.RowKit

abbrev Chunk := List (Nat × Obj)

theorem nodup_fst {l : Chunk} (h : (l.map Prod.fst).Nodup) {b : Nat} {o o' : Obj} (h1 : (b, o) ∈ l) (h2 : (b, o') ∈ l) : o = o' := by
  induction l with
  | nil => simp at h1
  | cons x l ih =>
    simp only [List.map_cons, List.nodup_cons] at h
    rcases List.mem_cons.1 h1 with e1 | m1 <;> rcases List.mem_cons.1 h2 with e2 | m2
    · rw [← e1] at e2; simpa using e2.symm
    · exact (h.1 (by rw [← e1]; exact List.mem_map.2 ⟨_, m2, rfl⟩)).elim
    · exact (h.1 (by rw [← e2]; exact List.mem_map.2 ⟨_, m1, rfl⟩)).elim
    · exact ih h.2 m1 m2

structure Sat (z w : World) (cs : List Chunk) : Prop where
  os : w.os = z.os
  tape : w.tape = z.tape
  output : w.output = z.output
  size : z.heap.size ≤ w.heap.size
  nd : (cs.flatten.map Prod.fst).Nodup
  sat : ∀ b o, (b, o) ∈ cs.flatten → w.heap[b]? = some o

namespace Sat
variable {z w : World} {cs : List Chunk}

theorem block (h : Sat z w cs) {b : Nat} {o : Obj} (hm : (b, o) ∈ cs.flatten) : w.heap[b]? = some o := h.sat b o hm
theorem lt (h : Sat z w cs) {b : Nat} {o : Obj} (hm : (b, o) ∈ cs.flatten) : b < w.heap.size := by
  have := h.sat b o hm
  rcases Nat.lt_or_ge b w.heap.size with hl | hl
  · exact hl
  · simp [Array.getElem?_eq_none hl] at this
theorem cell (h : Sat z w cs) {b i : Nat} {c : Array Value} {e : TypeId} {fr : Nat × Nat} (hm : (b, .cells c e fr) ∈ cs.flatten) : w.cell? ⟨b, i, none⟩ = c[i]? := by
  simp [World.cell?, h.sat b _ hm]
theorem frozen (h : Sat z w cs) {b i : Nat} {c : Array Value} {e : TypeId} (hm : (b, .cells c e (0, 0)) ∈ cs.flatten) : w.frozen? ⟨b, i, none⟩ = false := by
  simp [World.frozen?, h.sat b _ hm]
theorem shape (h : Sat z w cs) {b : Nat} {c : Array Value} {e : TypeId} {fr : Nat × Nat} (hm : (b, .cells c e fr) ∈ cs.flatten) : w.shape? b = some (e, c.size) := by
  simp [World.shape?, h.sat b _ hm]

theorem perm (h : Sat z w cs) {ds : List Chunk} (hp : cs.flatten.Perm ds.flatten) : Sat z w ds :=
  ⟨h.os, h.tape, h.output, h.size, (hp.map _).nodup_iff.1 h.nd, fun b o hm => h.sat b o (hp.mem_iff.2 hm)⟩

theorem sub (h : Sat z w cs) {ds : List Chunk} (hp : ds.flatten.Sublist cs.flatten) : Sat z w ds :=
  ⟨h.os, h.tape, h.output, h.size, (hp.map _).nodup h.nd, fun b o hm => h.sat b o (hp.subset hm)⟩

theorem drop {c : Chunk} (h : Sat z w (c :: cs)) : Sat z w cs := h.sub (by simp)
theorem swap {c d : Chunk} (h : Sat z w (c :: d :: cs)) : Sat z w (d :: c :: cs) :=
  h.perm (by simp only [List.flatten_cons, ← List.append_assoc]; exact (List.perm_append_comm).append_right _)
/-- the third comes first -/
theorem third {c d e : Chunk} (h : Sat z w (c :: d :: e :: cs)) : Sat z w (e :: c :: d :: cs) :=
  h.perm (by
    simp only [List.flatten_cons]
    rw [← List.append_assoc d e, ← List.append_assoc c, ← List.append_assoc c d, ← List.append_assoc c d cs.flatten, ← List.append_assoc e]
    exact (List.perm_append_comm).append_right _)
theorem join {c d : Chunk} (h : Sat z w (c :: d :: cs)) : Sat z w ((c ++ d) :: cs) := h.perm (by simp)
theorem part {c d : Chunk} (h : Sat z w ((c ++ d) :: cs)) : Sat z w (c :: d :: cs) := h.perm (by simp)

theorem pick_perm : ∀ (l : List Chunk) (i : Nat) (c : Chunk), l[i]? = some c → l.flatten.Perm (c :: l.eraseIdx i).flatten := by
  intro l
  induction l with
  | nil => intro i c h; simp at h
  | cons x l ih =>
    intro i c h
    cases i with
    | zero => simp at h; subst h; simp
    | succ i =>
      have := ih i c (by simpa using h)
      simp only [List.flatten_cons, List.eraseIdx_cons_succ] at this ⊢
      refine (this.append_left x).trans ?_
      rw [← List.append_assoc, ← List.append_assoc]
      exact (List.perm_append_comm).append_right _

/-- chunk i comes first -/
theorem pick (h : Sat z w cs) (i : Nat) {c : Chunk} (hi : cs[i]? = some c) : Sat z w (c :: cs.eraseIdx i) := h.perm (pick_perm cs i c hi)

theorem arr (h : Sat z w cs) {ds : List Chunk} (hp : cs.Perm ds) : Sat z w ds := h.perm hp.flatten
/-- those of the first chunks that are named, in the order in which they are named; the others of the first are let go -/
theorem sel (pre : List Chunk) (n : Nat) (idx : List Nat) {F : List Chunk} (h : Sat z w (pre ++ F)) (hl : pre.length = n)
    (hi : (idx ++ (List.range n).filter (fun i => !idx.contains i)).Perm (List.range n)) : Sat z w (idx.map (fun i => pre.getD i []) ++ F) := by
  subst hl
  have h1 := hi.map (fun i => pre.getD i [])
  have e : (List.range pre.length).map (fun i => pre.getD i []) = pre := by
    apply List.ext_getElem
    · simp
    · intro i h1 h2
      simp at h1
      simp [h1]
  rw [e, List.map_append] at h1
  have h2 := h.arr ((h1.symm).append_right F)
  refine h2.sub ?_
  rw [List.append_assoc, List.flatten_append, List.flatten_append, List.flatten_append]
  exact (List.sublist_append_right _ _).append_left _

theorem drew (h : Sat z w cs) : Sat z w.drew cs := ⟨h.os, h.tape, h.output, h.size, h.nd, h.sat⟩
theorem drewN (h : Sat z w cs) (n : Nat) : Sat z (w.drewN n) cs := ⟨h.os, h.tape, h.output, h.size, h.nd, h.sat⟩
theorem drawn (h : Sat z w cs) (n : Nat) : Sat z { w with drawn := n } cs := ⟨h.os, h.tape, h.output, h.size, h.nd, h.sat⟩

theorem alloc (h : Sat z w cs) (o : Obj) : Sat z (w.alloc o) cs := by
  refine ⟨h.os, h.tape, h.output, by have := h.size; simp; omega, h.nd, fun b o' hm => ?_⟩
  rw [Below.heap_alloc _ _ _ (h.lt hm)]
  exact h.sat b o' hm
theorem allocd (h : Sat z w cs) (o : Obj) : Sat z (w.alloc o) ([(w.heap.size, o)] :: cs) := by
  have h' := h.alloc o
  refine ⟨h'.os, h'.tape, h'.output, h'.size, ?_, ?_⟩
  · simp only [List.flatten_cons, List.cons_append, List.nil_append, List.map_cons, List.nodup_cons]
    refine ⟨fun hm => ?_, h.nd⟩
    obtain ⟨⟨b, o'⟩, hm, rfl⟩ := List.mem_map.1 hm
    have := h.lt hm
    simp at this
  · intro b o' hm
    simp only [List.flatten_cons, List.cons_append, List.nil_append, List.mem_cons] at hm
    rcases hm with hm | hm
    · simp only [Prod.mk.injEq] at hm
      obtain ⟨rfl, rfl⟩ := hm
      show (w.heap.push o')[w.heap.size]? = some o'
      simp
    · exact h'.sat b o' hm

theorem set_block {b : Nat} {o o' : Obj} {ch : Chunk} {w' : World} (h : Sat z w (((b, o) :: ch) :: cs)) (hos : w'.os = w.os) (ht : w'.tape = w.tape) (ho : w'.output = w.output)
    (hsz : w'.heap.size = w.heap.size) (hb : w'.heap[b]? = some o') (hr : ∀ k, k ≠ b → w'.heap[k]? = w.heap[k]?) : Sat z w' (((b, o') :: ch) :: cs) := by
  refine ⟨hos.trans h.os, ht.trans h.tape, ho.trans h.output, by rw [hsz]; exact h.size, ?_, ?_⟩
  · have := h.nd
    simpa using this
  · intro k u hm
    have hnd := h.nd
    simp only [List.flatten_cons, List.cons_append, List.mem_cons, List.map_cons, List.nodup_cons] at hm hnd
    rcases hm with hm | hm
    · simp only [Prod.mk.injEq] at hm
      obtain ⟨rfl, rfl⟩ := hm
      exact hb
    · have hkb : k ≠ b := fun e => hnd.1 (by rw [← e]; exact List.mem_map.2 ⟨_, hm, rfl⟩)
      rw [hr k hkb]
      exact h.sat k u (by simp only [List.flatten_cons, List.cons_append, List.mem_cons]; exact .inr hm)

theorem setCell {b i : Nat} {c : Array Value} {e : TypeId} {fr : Nat × Nat} {ch : Chunk} (h : Sat z w (((b, .cells c e fr) :: ch) :: cs)) (v : Value) :
    Sat z (w.setCell ⟨b, i, none⟩ v) (((b, .cells (c.setIfInBounds i v) e fr) :: ch) :: cs) := by
  have hb := h.sat b (.cells c e fr) (by simp)
  refine h.set_block rfl rfl rfl (by simp [World.setCell]) ?_ (fun k hk => Below.heap_setCell _ _ _ _ hk)
  simp [World.setCell, Array.getElem?_modify, hb]

theorem setObj {b : Nat} {o o' : Obj} {ch : Chunk} (h : Sat z w (((b, o) :: ch) :: cs)) : Sat z { w with heap := w.heap.setIfInBounds b o' } (((b, o') :: ch) :: cs) := by
  have hb := h.lt (b := b) (o := o) (by simp)
  refine h.set_block rfl rfl rfl (by simp) ?_ (fun k hk => ?_)
  · simp [hb]
  · simp [Ne.symm hk]

theorem ne {b b' : Nat} {o o' : Obj} {c : Chunk} (h : Sat z w (c :: cs)) (h1 : (b, o) ∈ c) (h2 : (b', o') ∈ cs.flatten) : b ≠ b' := by
  intro e
  have := h.nd
  simp only [List.flatten_cons, List.map_append, List.nodup_append] at this
  exact this.2.2 b (List.mem_map.2 ⟨_, h1, rfl⟩) b' (List.mem_map.2 ⟨_, h2, rfl⟩) e
end Sat

/-- the whole heap of a world, as a chunk -/
def whole (w : World) : Chunk := (List.range w.heap.size).map fun b => (b, w.heap.getD b default)

theorem whole_fst (w : World) : (whole w).map Prod.fst = List.range w.heap.size := by
  simp [whole, List.map_map, Function.comp_def]

theorem Sat.start (w : World) : Sat w w [whole w] := by
  refine ⟨rfl, rfl, rfl, Nat.le_refl _, ?_, ?_⟩
  · simp only [List.flatten_cons, List.flatten_nil, List.append_nil, whole_fst]
    exact List.nodup_range
  · intro b o hm
    simp only [whole, List.flatten_cons, List.flatten_nil, List.append_nil, List.mem_map, List.mem_range, Prod.mk.injEq] at hm
    obtain ⟨a, ha, rfl, rfl⟩ := hm
    simp [Array.getElem?_eq_getElem ha]

theorem Sat.below {z w : World} {cs : List Chunk} (h : Sat z w cs) (hm : whole z ∈ cs) : Below z.heap.size z w := by
  refine ⟨h.os, h.tape, h.output, h.size, fun k hk => ?_⟩
  have := h.sat k (z.heap.getD k default) (List.mem_flatten.2 ⟨_, hm, List.mem_map.2 ⟨k, by simpa using hk, rfl⟩⟩)
  rw [this]
  simp [Array.getElem?_eq_getElem hk]
end Go.Proofs.Ytglelfceogpbpaa
