/- An argument that is a slice of Ops, opened to its cells. -/
import Derived.Test.YtglelfceogpbpaaOpsAt
import Derived.Deep.Slices
import Derived.Deep.Fields
import Derived.ChangeSame
import Derived.ProofKit
import Derived.OpenShut
namespace Go.Proofs.Ytglelfceogpbpaa
open Go.ChangeShapes Go.WideShapes Go.Deep Go.RowKit

section
variable {H : Type} {enc : TypeId × Value → H} {P : Program} {w : World} {base : Nat} {spare : Nat → Bool} {held : Bool}
theorem open_slice_fields {t e : TypeId} {fs : Array Field} {fuel : Nat} {cs : List Value} {x : DataW H × List MemPlace} (ht : P.underlying t = some (.slice e)) (he : P.underlying e = some (.struct fs))
    (hone : oneCellFields P fs = true) (hC : P.cellsOf e = fs.size) (h : DataW.trod enc P w base spare held fuel t cs = some x) :
    (cs = [.slice none 0 0] ∧ x = (.nil, [])) ∨
    ∃ (a : Addr) (len cap m : Nat) (D : Nat → DataW H) (Pl : Nat → List MemPlace), cs = [.slice (some a) len cap] ∧ base ≤ a.block ∧ len ≤ cap ∧ cap ≤ maxLen ∧ m = (if spare a.block then cap else len) ∧
      x = (.slice ((List.range len).map D) ((List.range (m - len)).map fun j => D (len + j)), MemPlace.row a (m * fs.size) ++ (List.range m).flatMap Pl) ∧
      ∀ i, i < m → ∃ (ys : List (DataW H × List MemPlace)) (n : Nat), D i = .agg (ys.map (·.1)) ∧ Pl i = ys.flatMap (·.2) ∧ ys.length = fs.size ∧
        ∀ (j : Nat) (f : Field), fs[j]? = some f → ∃ (v : Value) (y : DataW H × List MemPlace), w.cell? (a.add (i * fs.size + j)) = some v ∧ ys[j]? = some y ∧ DataW.trod enc P w base spare held n f.type [v] = some y := by
  rcases open_slice ht h with h0 | ⟨a, len, cap, m, n, D, Pl, hcs, hb, hl, hm, hmm, hx, hi⟩
  · exact .inl h0
  · refine .inr ⟨a, len, cap, m, D, Pl, hcs, hb, hl, hm, hmm, by rw [hC] at hx; exact hx, fun i him => ?_⟩
    obtain ⟨cs', hc, ht'⟩ := hi i him
    rw [hC] at hc
    obtain ⟨ys, n', hn', hy, hlen, hyl, hf⟩ := DataW.trod_struct he ht'
    obtain ⟨_, hcl, hat⟩ := World.cells?_some hc
    simp only [Prod.mk.injEq] at hy
    refine ⟨ys, n', hy.1, hy.2, hyl, fun j f hj => ?_⟩
    obtain ⟨ho, hk⟩ := hone_of hone j f hj
    have hjl : j < fs.size := (Array.getElem?_eq_some_iff.1 hj).1
    have hcell := hat j hjl
    have hv : cs'[j]? = some (cs'[j]'(by omega)) := List.getElem?_eq_getElem (by omega)
    have h1 := hf j f hj
    rw [ho, hk] at h1
    have hone' : (cs'.drop j).take 1 = [cs'[j]'(by omega)] := by
      rw [List.drop_eq_getElem_cons (by omega)]
      rfl
    rw [hone'] at h1
    have hys : ys[j]? = some (ys[j]'(by omega)) := List.getElem?_eq_getElem (by omega)
    refine ⟨_, _, ?_, hys, h1.trans hys⟩
    rw [← Go.Deep.add_add, hcell, hv]

theorem int_cell {n : Nat} {t : TypeId} {k : IntKind} (ht : P.underlying t = some (.int k)) {v : Value} {y : DataW H × List MemPlace} (h : DataW.trod enc P w base spare held n t [v] = some y) : ∃ i, v = .int k i := by
  cases n with
  | zero => simp [DataW.trod] at h
  | succ n =>
    simp only [DataW.trod, ht] at h
    cases v <;> simp_all
end

theorem four_of {arr : Array Field} {a b c d : TypeId} (h : arr.toList.map (·.type) = [a, b, c, d]) :
    arr.size = 4 ∧ (∃ f, arr[0]? = some f ∧ f.type = a) ∧ (∃ f, arr[1]? = some f ∧ f.type = b) ∧ (∃ f, arr[2]? = some f ∧ f.type = c) ∧ (∃ f, arr[3]? = some f ∧ f.type = d) := by
  obtain ⟨l⟩ := arr
  match l, h with
  | [f0, f1, f2, f3], h =>
    simp only [List.map_cons, List.map_nil, List.cons.injEq, and_true] at h
    exact ⟨rfl, ⟨f0, rfl, h.1⟩, ⟨f1, rfl, h.2.1⟩, ⟨f2, rfl, h.2.2.1⟩, ⟨f3, rfl, h.2.2.2⟩⟩

theorem opFields : Try.prog.underlying 32 = some (.struct (Try.prog.fieldsOf 32)) := by kernel_rfl
theorem opTypes : (Try.prog.fieldsOf 32).toList.map (·.type) = [3, 3, 3, 30] := by kernel_rfl

theorem ops_open {H : Type} {enc : TypeId × Value → H} {w : World} {base : Nat} {spare : Nat → Bool} {held : Bool} {fuel : Nat} {v : Value} {x : DataW H × List MemPlace}
    (h : DataW.trod enc Try.prog w base spare held fuel 22 [v] = some x) : ∃ l, OpsAt w v l := by
  have e1 := opFields
  obtain ⟨e2, ⟨f0, g0, t0⟩, ⟨f1, g1, t1⟩, ⟨f2, g2, t2⟩, ⟨f3, g3, t3⟩⟩ := four_of opTypes
  rcases open_slice_fields Try.underlying22 e1 (by kernel_rfl) (by rw [e2]; kernel_rfl) h with ⟨hc, _⟩ | ⟨a, len, cap, m, D, Pl, hc, _, hl, hm, hmm, _, hf⟩
  · simp only [List.cons.injEq, and_true] at hc
    exact ⟨[], .inl ⟨hc, rfl⟩⟩
  · simp only [List.cons.injEq, and_true] at hc
    subst hc
    have key : ∀ i, i < len → ∃ x : OpR, w.cell? (a.add (i * 4)) = some (vi x.d) ∧ w.cell? (a.add (i * 4 + 1)) = some (vi x.n) ∧ w.cell? (a.add (i * 4 + 2)) = some (vi x.o) ∧ w.cell? (a.add (i * 4 + 3)) = some (vu x.w) := by
      intro i hi
      have him : i < m := by
        rw [hmm]
        split <;> omega
      obtain ⟨ys, n, _, _, _, hj⟩ := hf i him
      rw [e2] at hj
      obtain ⟨v0, _, c0, _, r0⟩ := hj 0 f0 g0
      obtain ⟨v1, _, c1, _, r1⟩ := hj 1 f1 g1
      obtain ⟨v2, _, c2, _, r2⟩ := hj 2 f2 g2
      obtain ⟨v3, _, c3, _, r3⟩ := hj 3 f3 g3
      rw [t0] at r0; rw [t1] at r1; rw [t2] at r2; rw [t3] at r3
      obtain ⟨i0, rfl⟩ := int_cell Try.underlying3 r0
      obtain ⟨i1, rfl⟩ := int_cell Try.underlying3 r1
      obtain ⟨i2, rfl⟩ := int_cell Try.underlying3 r2
      obtain ⟨i3, rfl⟩ := int_cell Try.underlying30 r3
      exact ⟨⟨i0, i1, i2, i3⟩, c0, c1, c2, c3⟩
    have hx : ∃ l : List OpR, l.length = len ∧ ∀ i x, l[i]? = some x → w.cell? (a.add (i * 4)) = some (vi x.d) ∧ w.cell? (a.add (i * 4 + 1)) = some (vi x.n) ∧ w.cell? (a.add (i * 4 + 2)) = some (vi x.o) ∧ w.cell? (a.add (i * 4 + 3)) = some (vu x.w) := by
      rename_i hx0
      clear hf hl hmm hm hx0 h
      induction len with
      | zero => exact ⟨[], rfl, fun i x h => by simp at h⟩
      | succ len ih =>
        obtain ⟨l, h1, h2⟩ := ih (fun i hi => key i (by omega))
        obtain ⟨x, hx⟩ := key len (by omega)
        refine ⟨l ++ [x], by simp [h1], fun i y hy => ?_⟩
        by_cases e : i < l.length
        · rw [List.getElem?_append_left e] at hy
          exact h2 i y hy
        · rw [List.getElem?_append_right (by omega)] at hy
          have : i = len := by
            have := (List.getElem?_eq_some_iff.1 hy).1
            simp at this
            omega
          subst this
          rw [h1] at hy
          simp at hy
          rw [← hy]
          exact hx
    obtain ⟨l, h1, h2⟩ := hx
    exact ⟨l, .inr ⟨a, cap, by rw [h1], h2⟩⟩
end Go.Proofs.Ytglelfceogpbpaa
