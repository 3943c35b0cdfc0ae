/- Slices of ints whose array is the slice's own: what slices.BinarySearch, Insert and Delete make of one. -/
import Derived.Test.YtglelfceogpbpaaSat
import Derived.Shelf.Slices.SearchI
import Derived.Shelf.Slices.Delete
import Derived.Shelf.Slices.Empties
import Derived.Shelf.Slices.Cells
import Derived.Shelf.Spec.SlicesInsert
import Derived.Shelf.Spec.SlicesInsertGrow
namespace Go.Proofs.Ytglelfceogpbpaa
open Go.RowKit Go.Shelf

abbrev vi (n : Int) : Value := .int .i64 n

/-- a list, written over from a place on -/
def setAll : List Value → Nat → List Value → List Value
  | c, _, [] => c
  | c, o, v :: r => setAll (c.set o v) (o + 1) r

theorem setAll_mid : ∀ (vs p m s : List Value), vs.length = m.length → setAll (p ++ m ++ s) p.length vs = p ++ vs ++ s := by
  intro vs
  induction vs with
  | nil =>
    intro p m s h
    have : m = [] := by simpa using h.symm
    simp [setAll, this]
  | cons v vs ih =>
    intro p m s h
    cases m with
    | nil => simp at h
    | cons x m =>
      have h' : vs.length = m.length := by simpa using h
      have := ih (p ++ [v]) m s h'
      simp only [List.length_append, List.length_cons, List.length_nil, Nat.zero_add] at this
      simp only [setAll]
      rw [show (p ++ x :: m ++ s).set p.length v = p ++ [v] ++ m ++ s by simp]
      rw [this]
      simp

theorem Sat.setCells {z : World} {cs : List Chunk} {b : Nat} {e : TypeId} {fr : Nat × Nat} {ch : Chunk} : ∀ (vs : List Value) (c : List Value) (o : Nat) (w : World),
    Sat z w (((b, .cells c.toArray e fr) :: ch) :: cs) → Sat z (w.setCells b o vs) (((b, .cells (setAll c o vs).toArray e fr) :: ch) :: cs) := by
  intro vs
  induction vs with
  | nil => intro c o w h; exact h
  | cons v vs ih =>
    intro c o w h
    have := ih (c.set o v) (o + 1) (w.setCell ⟨b, o, none⟩ v) (by simpa using h.setCell (i := o) v)
    exact this

structure IRow where
  b : Option Nat
  l : List Int
  sp : List Value

namespace IRow
def cells (r : IRow) : List Value := r.l.map vi ++ r.sp
def val (r : IRow) : Value := match r.b with
  | none => .slice none 0 0
  | some b => .slice (some ⟨b, 0, none⟩) r.l.length (r.l.length + r.sp.length)
def hp (E : TypeId) (r : IRow) : Chunk := match r.b with
  | none => []
  | some b => [(b, .cells r.cells.toArray E (0, 0))]
structure ok (r : IRow) : Prop where
  nil : r.b = none → r.l = [] ∧ r.sp = []
  big : r.l.length + r.sp.length ≤ 9223372036854775807
theorem val_slice (r : IRow) : ∃ a n k, r.val = .slice a n k := by
  unfold val
  split
  · exact ⟨_, _, _, rfl⟩
  · exact ⟨_, _, _, rfl⟩
theorem val_len (r : IRow) (hok : (r.b = none → r.l = [] ∧ r.sp = [])) : ∃ a k, r.val = .slice a r.l.length k := by
  unfold val
  split
  · rename_i h
    exact ⟨_, _, by rw [(hok h).1]; rfl⟩
  · exact ⟨_, _, rfl⟩
def empty : IRow := ⟨none, [], []⟩
theorem empty_ok : empty.ok := ⟨fun _ => ⟨rfl, rfl⟩, by simp [empty]⟩
end IRow

section
variable {P : Program} {ρ : Ren} {z w : World} {F : List Chunk}

theorem irow_search (L : Lays2.n25 P ρ) (E : TypeId) (r : IRow) (x : Int) (hok : r.ok) (hn : r.l.length < 4611686018427387904) (hso : r.l.Pairwise (· ≤ ·)) (hs : Sat z w (r.hp E :: F)) :
    Calls P (ρ.f 25) #[r.val, vi x] w fun e w' => e = .returned (.tuple #[vi ((r.l.countP (· < x) : Nat) : Int), .bool (r.l.contains x)]) ∧ ∃ q, w' = w.drewN q := by
  obtain ⟨b, l, sp⟩ := r
  cases b with
  | none =>
    obtain ⟨h1, h2⟩ := hok.nil rfl
    simp only at h1 h2
    subst h1; subst h2
    refine (Any.slices_BinarySearch_int_empty L none 0 x w).mono ?_
    rintro e w' ⟨rfl, rfl⟩
    exact ⟨rfl, 0, rfl⟩
  | some b =>
    have hc : ∀ j, j < l.length → w.cell? ⟨b, 0 + j, none⟩ = some (vi (l.getD j 0)) := fun j hj => by
      rw [Nat.zero_add, hs.cell (b := b) (i := j) (c := (IRow.cells ⟨some b, l, sp⟩).toArray) (e := E) (fr := (0, 0)) (by simp [IRow.hp])]
      simp [IRow.cells, List.getElem?_append_left, hj]
    have := Any.slices_BinarySearch_int L b 0 l.length (l.length + sp.length) l x w (Nat.le_refl _) hn hc (by simpa using hso)
    simp only [List.take_length] at this
    exact this

theorem irow_delete (L : Lays2.n23 P ρ) (E : TypeId) (r : IRow) (i : Nat) (hok : r.ok) (hi : i < r.l.length) (hs : Sat z w (r.hp E :: F)) :
    Calls P (ρ.f 23) #[r.val, vi i, vi ((i : Int) + 1)] w fun e w' => ∃ r' : IRow, e = .returned r'.val ∧ r'.ok ∧ r'.l = r.l.eraseIdx i ∧ r'.b = r.b ∧ Sat z w' (r'.hp E :: F) := by
  obtain ⟨b, l, sp⟩ := r
  cases b with
  | none =>
    have := (hok.nil rfl).1
    simp only at this hi
    simp [this] at hi
  | some b =>
    simp only at hi
    have hbig := hok.big
    simp only at hbig
    have hc : ∀ j, j < l.length → w.cell? ⟨b, 0 + j, none⟩ = some (vi (l.getD j 0)) := fun j hj => by
      rw [Nat.zero_add, hs.cell (b := b) (i := j) (c := (IRow.cells ⟨some b, l, sp⟩).toArray) (e := E) (fr := (0, 0)) (by simp [IRow.hp])]
      simp [IRow.cells, List.getElem?_append_left, hj]
    have hf : ∀ j, j < l.length → w.frozen? ⟨b, 0 + j, none⟩ = false := fun j _ => hs.frozen (c := (IRow.cells ⟨some b, l, sp⟩).toArray) (e := E) (by simp [IRow.hp])
    have := Any.slices_Delete_int_cells L b 0 l.length (l.length + sp.length) i (i + 1) l w (Nat.le_refl _) (by omega) (by omega) (by omega) (by omega) hc hf
    refine this.mono ?_
    rintro e w' ⟨rfl, q, rfl⟩
    have hl : (l.take i ++ l.drop (i + 1)).length = l.length - 1 := by simp; omega
    refine ⟨⟨some b, l.take i ++ l.drop (i + 1), vi 0 :: sp⟩, ?_, ⟨by simp, by simp; omega⟩, (List.eraseIdx_eq_take_drop_succ l i).symm, rfl, ?_⟩
    · simp only [IRow.val, hl, List.length_cons, show l.length - (i + 1 - i) = l.length - 1 by omega, show l.length - 1 + (sp.length + 1) = l.length + sp.length by omega]
    · have h1 := Sat.setCells (((l.take l.length).take i ++ (l.take l.length).drop (i + 1) ++ List.replicate (i + 1 - i) 0).map vi) (l.map vi ++ sp) 0 (w.drewN q) (b := b) (e := E) (fr := (0, 0)) (ch := []) (cs := F) (hs.drewN q)
      have h2 := setAll_mid (((l.take l.length).take i ++ (l.take l.length).drop (i + 1) ++ List.replicate (i + 1 - i) 0).map vi) [] (l.map vi) sp (by
        have : i + 1 - i = 1 := by omega
        simp [this]; omega)
      simp only [List.nil_append, List.length_nil] at h2
      rw [h2] at h1
      have e1 : i + 1 - i = 1 := by omega
      simpa [IRow.hp, IRow.cells, e1] using h1

theorem zeroCells_list (n : Nat) : ∃ Z : List Value, Builtin.zeroCells (Value.int .i64 0).cells n = Z.toArray ∧ Z.length = n :=
  ⟨(Builtin.zeroCells (Value.int .i64 0).cells n).toList, by simp, by simp [Builtin.zeroCells, Value.cells]⟩

theorem oneCell_map (l : List Int) : ∀ v ∈ l.map vi, v.oneCell' = true := by
  intro v hv
  obtain ⟨x, _, rfl⟩ := List.mem_map.1 hv
  rfl

theorem irow_insert (L : Lays2.n21 P ρ) (r : IRow) (i : Nat) (x : Int) (vb : Nat) (hok : r.ok) (hi : i ≤ r.l.length) (hn : r.l.length ≤ 1000000)
    (hs : Sat z w (r.hp (ρ.t 3) :: [(vb, .cells #[vi x] (ρ.t 3) (0, 0))] :: F)) :
    Calls P (ρ.f 21) #[r.val, vi i, .slice (some ⟨vb, 0, none⟩) 1 1] w fun e w' => ∃ r' : IRow, e = .returned r'.val ∧ r'.ok ∧ r'.l = r.l.take i ++ x :: r.l.drop i ∧ Sat z w' (r'.hp (ρ.t 3) :: F) := by
  obtain ⟨b, l, sp⟩ := r
  simp only at hi hn
  have hbig := hok.big
  simp only at hbig
  have hvs : ∀ j v, [vi x][j]? = some v → w.cell? ⟨vb, 0 + j, none⟩ = some v := fun j v hj => by
    rw [Nat.zero_add, hs.cell (b := vb) (i := j) (c := #[vi x]) (e := ρ.t 3) (fr := (0, 0)) (by simp)]
    simpa using hj
  have h1v : ∀ v ∈ [vi x], v.oneCell' = true := by intro v hv; simp at hv; subst hv; rfl
  have hF : Sat z w (IRow.hp (ρ.t 3) ⟨b, l, sp⟩ :: F) := (hs.swap).drop
  -- a new array at the end
  have grow_end : ∀ (base : Option Addr), (∀ a, base = some a → ∀ j v, (l.map vi)[j]? = some v → w.cell? (a.add j) = some v) → (base = none → l.length = 0) → sp = [] →
      Calls P (ρ.f 21) #[.slice base l.length l.length, vi l.length, .slice (some ⟨vb, 0, none⟩) 1 1] w fun e w' => ∃ r' : IRow, e = .returned r'.val ∧ r'.ok ∧ r'.l = l ++ [x] ∧ Sat z w' (r'.hp (ρ.t 3) :: F) := by
    intro base hcs hnil _
    have := Any2.slices_Insert_int_end_grow L base l.length l.length vb 0 1 1 (l.map vi) [vi x] w (by omega) (by omega) (by omega) (by omega) (by simp) rfl hnil hcs hvs h1v
    refine this.mono ?_
    rintro e w' ⟨rfl, rfl⟩
    have hge := grownCap_ge w (l.length + 1) l.length (ρ.t 3)
    have hle := grownCap_le_maxLen w (l.length + 1) l.length (ρ.t 3) (by unfold maxLen; omega)
    unfold maxLen at hle
    generalize grownCap w (l.length + 1) l.length (ρ.t 3) = C at hge hle
    obtain ⟨Z, hZ, hZl⟩ := zeroCells_list (C - (l.length + 1))
    rw [hZ]
    refine ⟨⟨some w.heap.size, l ++ [x], Z⟩, ?_, ⟨by simp, ?_⟩, rfl, ?_⟩
    · have e1 : (l ++ [x]).length = l.length + 1 := by simp
      have e2 : C = l.length + 1 + Z.length := by omega
      show Ending.returned (.slice (some ⟨w.heap.size, 0, none⟩) (l.length + 1) C) = Ending.returned (.slice (some ⟨w.heap.size, 0, none⟩) (l ++ [x]).length ((l ++ [x]).length + Z.length))
      rw [e1, ← e2]
    · simp only [hZl, List.length_append, List.length_cons, List.length_nil]
      omega
    · have : Sat z (w.drew.alloc (.cells ((l.map vi ++ [vi x]).toArray ++ Z.toArray) (ρ.t 3))) ([(w.heap.size, .cells ((l.map vi ++ [vi x]).toArray ++ Z.toArray) (ρ.t 3))] :: F) :=
        (hF.drop.drew).allocd _
      simpa [IRow.hp, IRow.cells] using this
  cases b with
  | none =>
    obtain ⟨h1, h2⟩ := hok.nil rfl
    simp only at h1 h2
    subst h1; subst h2
    have hi0 : i = 0 := by simpa using hi
    subst hi0
    exact grow_end none (fun a h => by cases h) (fun _ => rfl) rfl
  | some b =>
    have hc : ∀ j v, (l.map vi ++ sp)[j]? = some v → w.cell? ⟨b, 0 + j, none⟩ = some v := fun j v hj => by
      rw [Nat.zero_add, hs.cell (b := b) (i := j) (c := (l.map vi ++ sp).toArray) (e := ρ.t 3) (fr := (0, 0)) (by simp [IRow.hp, IRow.cells])]
      simpa using hj
    have hcs : ∀ j v, (l.map vi)[j]? = some v → w.cell? ⟨b, 0 + j, none⟩ = some v := fun j v hj => hc j v (by
      have hlt := (List.getElem?_eq_some_iff.1 hj).1
      rw [List.getElem?_append_left hlt]; exact hj)
    have hfz : ∀ j, w.frozen? ⟨b, j, none⟩ = false := fun j => hs.frozen (c := (l.map vi ++ sp).toArray) (e := ρ.t 3) (by simp [IRow.hp, IRow.cells])
    have hsome : ∀ j, j < l.length + sp.length → (w.cell? ⟨b, j, none⟩).isSome = true := fun j hj => by
      have hj' : j < (l.map vi ++ sp).length := by simpa using hj
      have := hc j _ (List.getElem?_eq_getElem hj')
      rw [Nat.zero_add] at this
      rw [this]; rfl
    have hne : vb ≠ b := (hs.ne (b := b) (o := .cells (l.map vi ++ sp).toArray (ρ.t 3) (0, 0)) (by simp [IRow.hp, IRow.cells]) (b' := vb) (o' := .cells #[vi x] (ρ.t 3) (0, 0)) (by simp)).symm
    by_cases hroom : l.length + 1 ≤ l.length + sp.length
    · obtain ⟨s0, sp', rfl⟩ : ∃ s0 sp', sp = s0 :: sp' := by
        cases sp with
        | nil => simp only [List.length_nil] at hroom; omega
        | cons a r => exact ⟨a, r, rfl⟩
      by_cases hin : i < l.length
      · have := Any2.slices_Insert_int_shift L b 0 l.length (l.length + (s0 :: sp').length) i vb 0 1 1 (l.map vi) [vi x] w hin (by omega) (by simp) (by simpa using hbig) hne (by simp) rfl
          hcs (fun j hj => by rw [Nat.zero_add]; exact hsome j (by simp at hj ⊢; omega)) (fun j _ => hfz _) hvs (oneCell_map l) h1v (ρ.t 3) (ρ.t 3) 1 (l.map vi ++ s0 :: sp').length
          (by rw [hs.shape (b := vb) (c := #[vi x]) (e := ρ.t 3) (fr := (0, 0)) (by simp)]; rfl)
          (by rw [hs.shape (b := b) (c := (l.map vi ++ s0 :: sp').toArray) (e := ρ.t 3) (fr := (0, 0)) (by simp [IRow.hp, IRow.cells])]; simp) (by simp)
          (hs.frozen (c := #[vi x]) (e := ρ.t 3) (by simp)) (hs.frozen (c := #[vi x]) (e := ρ.t 3) (by simp))
        refine this.mono ?_
        rintro e w' ⟨rfl, rfl⟩
        refine ⟨⟨some b, l.take i ++ x :: l.drop i, sp'⟩, ?_, ⟨by simp, ?_⟩, rfl, ?_⟩
        · simp only [IRow.val, List.length_append, List.length_take, List.length_cons, List.length_drop]
          congr 2 <;> omega
        · simp only [List.length_append, List.length_take, List.length_cons, List.length_drop] at hbig ⊢
          omega
        · obtain ⟨q0, q', hq⟩ : ∃ q0 q', l.drop i = q0 :: q' := by
            cases hd : l.drop i with
            | nil =>
              have := congrArg List.length hd
              simp at this
              omega
            | cons a r => exact ⟨a, r, rfl⟩
          have hl : l = l.take i ++ q0 :: q' := by rw [← hq, List.take_append_drop]
          have h1 := Sat.setCells ((l.map vi).drop i) (l.map vi ++ s0 :: sp') (0 + (i + 1)) w.drew (b := b) (e := ρ.t 3) (fr := (0, 0)) (ch := []) (cs := F) (hF.drew)
          have h2 := Sat.setCells [vi x] _ (0 + i) _ h1
          have hti : (l.take i).length = i := by simp; omega
          have e1 : (l.map vi).drop i = vi q0 :: q'.map vi := by rw [← List.map_drop, hq]; rfl
          have e2 : l.map vi ++ s0 :: sp' = ((l.take i).map vi ++ [vi q0]) ++ (q'.map vi ++ [s0]) ++ sp' := by
            conv => lhs; rw [hl]
            simp
          have e3 := setAll_mid (vi q0 :: q'.map vi) ((l.take i).map vi ++ [vi q0]) (q'.map vi ++ [s0]) sp' (by simp)
          rw [show ((l.take i).map vi ++ [vi q0]).length = i + 1 by simp only [List.length_append, List.length_map, hti, List.length_cons, List.length_nil]] at e3
          have e4 := setAll_mid [vi x] ((l.take i).map vi) [vi q0] (vi q0 :: q'.map vi ++ sp') rfl
          rw [show ((l.take i).map vi).length = i by simp only [List.length_map, hti]] at e4
          rw [e1, e2, Nat.zero_add, Nat.zero_add, e3, show ((l.take i).map vi ++ [vi q0]) ++ (vi q0 :: q'.map vi) ++ sp' = (l.take i).map vi ++ [vi q0] ++ (vi q0 :: q'.map vi ++ sp') by simp, e4] at h2
          simpa [IRow.hp, IRow.cells, hq, e1] using h2
      · have hieq : i = l.length := by omega
        subst hieq
        have := Any2.slices_Insert_int_end_room L b 0 l.length (l.length + (s0 :: sp').length) vb 0 1 1 [vi x] w (by omega) (by simp) (by simpa using hbig) rfl
          (fun j hj => by rw [Nat.zero_add]; exact hsome _ (by simp; omega)) (fun j _ => hfz _) hvs h1v
        refine this.mono ?_
        rintro e w' ⟨rfl, rfl⟩
        refine ⟨⟨some b, l ++ [x], sp'⟩, ?_, ⟨by simp, ?_⟩, by simp, ?_⟩
        · simp only [IRow.val, List.length_append, List.length_cons, List.length_nil]
          congr 2
          omega
        · simp only [List.length_append, List.length_cons, List.length_nil] at hbig ⊢
          omega
        · have h1 := Sat.setCells [vi x] (l.map vi ++ s0 :: sp') (0 + l.length) w (b := b) (e := ρ.t 3) (fr := (0, 0)) (ch := []) (cs := F) hF
          have e4 := setAll_mid [vi x] (l.map vi) [s0] sp' rfl
          rw [show (l.map vi).length = l.length by simp] at e4
          rw [Nat.zero_add, show l.map vi ++ s0 :: sp' = l.map vi ++ [s0] ++ sp' by simp, e4] at h1
          simpa [IRow.hp, IRow.cells] using h1
    · have hsp : sp = [] := by
        cases sp with
        | nil => rfl
        | cons a r => simp at hroom
      subst hsp
      by_cases hin : i < l.length
      · have := Any2.slices_Insert_int_grow L b 0 l.length l.length i vb 0 1 1 (l.map vi) [vi x] w hin (by omega) (by omega) (by omega) (by omega) (by simp) rfl hcs hvs (oneCell_map l) h1v
        refine this.mono ?_
        rintro e w' ⟨rfl, rfl⟩
        have hge := grownCap_ge w (l.length + 1) l.length (ρ.t 3)
        have hle := grownCap_le_maxLen w (l.length + 1) l.length (ρ.t 3) (by unfold maxLen; omega)
        unfold maxLen at hle
        generalize grownCap w (l.length + 1) l.length (ρ.t 3) = C at hge hle
        obtain ⟨Z, hZ, hZl⟩ := zeroCells_list (C - (l.length + 1))
        obtain ⟨Y, hY, hYl⟩ := zeroCells_list (l.length + 1 - i)
        rw [hZ, hY]
        refine ⟨⟨some w.heap.size, l.take i ++ x :: l.drop i, Z⟩, ?_, ⟨by simp, ?_⟩, rfl, ?_⟩
        · simp only [IRow.val, hZl, List.length_append, List.length_take, List.length_cons, List.length_drop]
          congr 2 <;> omega
        · simp only [hZl, List.length_append, List.length_take, List.length_cons, List.length_drop]
          omega
        · have h0 := (hF.drop).allocd (.cells (((l.map vi).take i).toArray ++ Y.toArray ++ Z.toArray) (ρ.t 3))
          generalize w.alloc (.cells (((l.map vi).take i).toArray ++ Y.toArray ++ Z.toArray) (ρ.t 3)) = W at h0 ⊢
          obtain ⟨z0, zs, rfl⟩ : ∃ z0 zs, Y = z0 :: zs := by
            cases Y with
            | nil => simp at hYl; omega
            | cons a r => exact ⟨a, r, rfl⟩
          have hzl : zs.length = l.length - i := by simp at hYl; omega
          have ea : ((l.map vi).take i).toArray ++ (z0 :: zs).toArray ++ Z.toArray = (((l.take i).map vi) ++ [z0] ++ (zs ++ Z)).toArray := by simp
          rw [ea] at h0
          have hti : (l.take i).length = i := by simp; omega
          have h1 := Sat.setCells [vi x] _ i _ (h0.drew)
          have e4 := setAll_mid [vi x] ((l.take i).map vi) [z0] (zs ++ Z) rfl
          rw [show ((l.take i).map vi).length = i by simp only [List.length_map, hti]] at e4
          rw [e4] at h1
          have h2 := Sat.setCells ((l.map vi).drop i) _ (i + 1) _ h1.drew
          have e5 := setAll_mid ((l.map vi).drop i) ((l.take i).map vi ++ [vi x]) zs Z (by simp [hzl])
          rw [show ((l.take i).map vi ++ [vi x]).length = i + 1 by simp only [List.length_append, List.length_map, hti, List.length_cons, List.length_nil]] at e5
          rw [show (l.take i).map vi ++ [vi x] ++ (zs ++ Z) = (l.take i).map vi ++ [vi x] ++ zs ++ Z by simp, e5] at h2
          simpa [IRow.hp, IRow.cells] using h2
      · have hieq : i = l.length := by omega
        subst hieq
        have := grow_end (some ⟨b, 0, none⟩) (fun a ha j v hj => by
          obtain rfl : a = ⟨b, 0, none⟩ := by simpa using ha.symm
          rw [Addr.add_lit]; exact hcs j v hj) (fun h => by cases h) rfl
        simpa [IRow.val] using this
end
end Go.Proofs.Ytglelfceogpbpaa
