/- The buddy's lists: put and take. -/
import Derived.Test.YtglelfceogpbpaaScrub
import Derived.Test.YtglelfceogpbpaaShelf
import Derived.Test.YtglelfceogpbpaaList
namespace Go.Proofs.Ytglelfceogpbpaa
open Go.RowKit Go.Shelf

/-- what is held: a frame, an order, when it was laid in -/
structure Ent where
  f : Int
  o : Int
  born : Nat

structure Bd where
  p : Nat
  mp : Nat
  hb : Nat
  rows : List IRow
  ents : List Ent
  clock : Nat

abbrev vb (f o : Int) : Value := .agg #[vi f, vi o]

namespace Bd
def cells (B : Bd) : List Value := .pointer (some ⟨B.mp, 0, none⟩) :: (B.rows.map IRow.val ++ [.map (some B.hb)])
def mapObj (B : Bd) : Obj := .map (B.ents.map fun x => (⟨vb x.f x.o, .bool true, x.born⟩ : MapEntry)).toArray B.clock
def main (B : Bd) : Chunk := [(B.p, .cells B.cells.toArray 66 (0, 0))]
def frame (B : Bd) (o : Nat) : Chunk := (B.hb, B.mapObj) :: (((B.rows.take o).map (IRow.hp 3)).flatten ++ ((B.rows.drop (o + 1)).map (IRow.hp 3)).flatten)
def hp (B : Bd) : Chunk := B.main ++ (B.hb, B.mapObj) :: (B.rows.map (IRow.hp 3)).flatten
structure ok (B : Bd) : Prop where
  nine : B.rows.length = 9
  rows : ∀ r ∈ B.rows, r.ok
def L (B : Bd) (k : Nat) : List Int := (B.rows.getD k IRow.empty).l
end Bd

section
variable {z w : World} {F : List Chunk} {B : Bd}

theorem Bd.perm_open (B : Bd) (o : Nat) (r : IRow) (h : B.rows[o]? = some r) : B.hp.Perm (r.hp 3 ++ (B.main ++ B.frame o)) := by
  obtain ⟨hlt, hr⟩ := List.getElem?_eq_some_iff.1 h
  have e : B.rows = B.rows.take o ++ r :: B.rows.drop (o + 1) := by
    rw [← hr, List.getElem_cons_drop, List.take_append_drop]
  have e2 : (B.rows.map (IRow.hp 3)).flatten = ((B.rows.take o).map (IRow.hp 3)).flatten ++ (r.hp 3 ++ ((B.rows.drop (o + 1)).map (IRow.hp 3)).flatten) := by
    conv => lhs; rw [e]
    simp
  unfold Bd.hp Bd.frame
  rw [e2]
  generalize ((B.rows.take o).map (IRow.hp 3)).flatten = x
  generalize ((B.rows.drop (o + 1)).map (IRow.hp 3)).flatten = y
  generalize r.hp 3 = u
  generalize B.main = m
  have h1 : ((B.hb, B.mapObj) :: (x ++ (u ++ y))).Perm (u ++ (B.hb, B.mapObj) :: (x ++ y)) := by
    have : (x ++ (u ++ y)).Perm (u ++ (x ++ y)) := by
      rw [← List.append_assoc, ← List.append_assoc]
      exact List.perm_append_comm.append_right _
    exact (this.cons _).trans (List.perm_middle.symm)
  have h2 : (m ++ (B.hb, B.mapObj) :: (x ++ (u ++ y))).Perm (m ++ (u ++ (B.hb, B.mapObj) :: (x ++ y))) := h1.append_left m
  refine h2.trans ?_
  rw [← List.append_assoc, ← List.append_assoc]
  exact List.perm_append_comm.append_right _

theorem Bd.opens {o : Nat} {r : IRow} (h : B.rows[o]? = some r) (hs : Sat z w (B.hp :: F)) : Sat z w (r.hp 3 :: B.main :: B.frame o :: F) :=
  hs.perm (by
    simp only [List.flatten_cons]
    have := (B.perm_open o r h).append_right F.flatten
    simpa using this)
theorem Bd.shuts {o : Nat} {r : IRow} (h : B.rows[o]? = some r) (hs : Sat z w (r.hp 3 :: B.main :: B.frame o :: F)) : Sat z w (B.hp :: F) :=
  hs.perm (by
    simp only [List.flatten_cons]
    have := ((B.perm_open o r h).append_right F.flatten).symm
    simpa using this)

def Bd.setRow (B : Bd) (o : Nat) (r : IRow) : Bd := { B with rows := B.rows.set o r }

theorem Bd.frame_setRow (B : Bd) (o : Nat) (r : IRow) : (B.setRow o r).frame o = B.frame o := by
  unfold Bd.frame Bd.setRow Bd.mapObj
  simp only [List.take_set, List.drop_set]
  rw [if_pos (by omega)]
  congr 3
  rw [List.set_eq_of_length_le (by simp; omega)]

theorem Bd.cells_setRow (B : Bd) (o : Nat) (r : IRow) (h : o < B.rows.length) : B.cells.toArray.setIfInBounds (1 + o) r.val = (B.setRow o r).cells.toArray := by
  apply Array.toList_inj.1
  simp only [Bd.cells, Bd.setRow, List.setIfInBounds_toArray]
  rw [Nat.add_comm, List.set_cons_succ, List.set_append_left _ _ (by simpa using h), List.map_set]

theorem Bd.c_row (hs : Sat z w (B.main :: F)) {o : Nat} {r : IRow} (h : B.rows[o]? = some r) : w.cell? ⟨B.p, 1 + o, none⟩ = some r.val := by
  rw [hs.cell (b := B.p) (i := 1 + o) (c := B.cells.toArray) (e := 66) (fr := (0, 0)) (by simp [Bd.main])]
  obtain ⟨hlt, hr⟩ := List.getElem?_eq_some_iff.1 h
  simp [Bd.cells, Nat.add_comm 1 o, List.getElem?_append_left, hlt, hr]
theorem Bd.c_fz (hs : Sat z w (B.main :: F)) (i : Nat) : w.frozen? ⟨B.p, i, none⟩ = false := hs.frozen (c := B.cells.toArray) (e := 66) (by simp [Bd.main])
theorem Bd.setRow_ok (hok : B.ok) (o : Nat) (r : IRow) (hr : r.ok) : (B.setRow o r).ok :=
  ⟨by simpa [Bd.setRow] using hok.nine, fun x hx => by
    rcases List.mem_or_eq_of_mem_set hx with h | rfl
    · exact hok.rows x h
    · exact hr⟩

set_option maxRecDepth 100000 in
theorem put_ok (hs : Sat z w (B.hp :: F)) (hok : B.ok) (f : Int) (o : Nat) (ho : o ≤ 8) (hn : (B.L o).length ≤ 1000000) (hso : (B.L o).Pairwise (· ≤ ·)) :
    Calls Try.prog 34 #[.pointer (some ⟨B.p, 0, none⟩), vb f o] w fun e w' => ∃ r : IRow, e = .returned (.tuple #[]) ∧ (B.setRow o r).ok ∧ r.l = ins f (B.L o) ∧ Sat z w' ((B.setRow o r).hp :: F) := by
  have h9 := hok.nine
  obtain ⟨r, hr⟩ : ∃ r, B.rows[o]? = some r := ⟨_, List.getElem?_eq_getElem (by omega)⟩
  have hrok := hok.rows r (List.mem_of_getElem? hr)
  have hL : B.L o = r.l := by simp [Bd.L, List.getD_eq_getElem?_getD, hr]
  have ho9 : (o : Int) < 9 := by omega
  rw [hL] at hn hso ⊢
  have h1 := Bd.opens hr hs
  have h2 := (h1.allocd (.cells #[vi f, vi o] 34))
  have h3 := Sat.sel [_, _, _, _] 4 [1, 2, 0, 3] h2 rfl (by decide)
  change Sat z _ (r.hp 3 :: B.main :: [(w.heap.size, .cells #[vi f, vi o] 34 (0, 0))] :: B.frame o :: F) at h3
  go_enter Try.func34, Try.ntmps34
  go_wp2_with fail
  generalize hbx : w.heap.size = bx at *
  generalize w.alloc (.cells #[vi f, vi o] 34) = w1 at *
  have c1 := Bd.c_row (F := F) (Sat.sel [_, _, _, _] 4 [1] h3 rfl (by decide)) hr
  have b0 := (Sat.sel [_, _, _, _] 4 [2] h3 rfl (by decide)).cell (b := bx) (i := 0) (c := #[vi f, vi o]) (e := 34) (fr := (0, 0)) (by simp)
  have b1 := (Sat.sel [_, _, _, _] 4 [2] h3 rfl (by decide)).cell (b := bx) (i := 1) (c := #[vi f, vi o]) (e := 34) (fr := (0, 0)) (by simp)
  have hsearch := fun W q => irow_search (ρ := Try.laysSearch_ren) (w := W) Try.laysSearch 3 r f hrok (by omega) hso (q : Sat z W (r.hp 3 :: B.main :: [(bx, .cells #[vi f, vi o] 34 (0, 0))] :: B.frame o :: F))
  have Hs := Lib.hid hsearch
  have H3 := Lib.hid h3
  clear h1 h2 h3 hsearch hso
  generalize hrv : r.val = rv at *
  go_quiet (fail)
  go_wp2_with (go_at_call 44; refine (Hs.out _ (H3.out.drewN _)).mono ?_; rintro e w2 ⟨rfl, q, rfl⟩)
  have h4 := H3.out.drewN (nq + q)
  have hci : r.l.countP (· < f) ≤ r.l.length := List.countP_le_length
  generalize w1.drewN (nq + q) = w3 at *
  have d0 := (Sat.sel [_, _, _, _] 4 [2] h4 rfl (by decide)).cell (b := bx) (i := 0) (c := #[vi f, vi o]) (e := 34) (fr := (0, 0)) (by simp)
  have d1 := (Sat.sel [_, _, _, _] 4 [2] h4 rfl (by decide)).cell (b := bx) (i := 1) (c := #[vi f, vi o]) (e := 34) (fr := (0, 0)) (by simp)
  have H4 := Lib.hid h4
  clear b0 b1 c1 h4
  refine wp_region_plan (fun w' => w'.cell? ⟨bx, 0, none⟩ = some (vi f) ∧ w'.cell? ⟨bx, 1, none⟩ = some (vi o)) [(0, false), (1, false), (2, false), (3, false), (4, false), (5, false), (6, false), (9, false), (10, false), (7, true), (8, true), (11, false), (12, true)] (by kernel_rfl) (by kernel_rfl) ⟨by simpa using d0, by simpa using d1⟩ ?_
  refine wpPlan_q (v := ?_) rfl rfl ?_ ?_; rotate_left 1; · (intro wS hS; go_simp; try with_reducible rfl)
  simp only [Act.put, List.setIfInBounds_toArray, List.set_cons_zero, List.set_cons_succ]
  refine wpPlan_q (v := ?_) rfl rfl ?_ ?_; rotate_left 1; · (intro wS hS; go_simp; try with_reducible rfl)
  simp only [Act.put, List.setIfInBounds_toArray, List.set_cons_zero, List.set_cons_succ]
  refine wpPlan_q (v := ?_) rfl rfl ?_ ?_; rotate_left 1; · (intro wS hS; go_simp; try with_reducible rfl)
  simp only [Act.put, List.setIfInBounds_toArray, List.set_cons_zero, List.set_cons_succ]
  refine wpPlan_q (v := ?_) rfl rfl ?_ ?_; rotate_left 1; · (intro wS hS; go_simp; try with_reducible rfl)
  simp only [Act.put, List.setIfInBounds_toArray, List.set_cons_zero, List.set_cons_succ]
  refine wpPlan_q (v := ?_) rfl rfl ?_ ?_; rotate_left 1; · (intro wS hS; go_simp; try with_reducible rfl)
  simp only [Act.put, List.setIfInBounds_toArray, List.set_cons_zero, List.set_cons_succ]
  refine wpPlan_q (v := ?_) rfl rfl ?_ ?_; rotate_left 1; · (intro wS hS; go_simp; try with_reducible rfl)
  simp only [Act.put, List.setIfInBounds_toArray, List.set_cons_zero, List.set_cons_succ]
  refine wpPlan_q (v := ?_) rfl rfl ?_ ?_; rotate_left 1; · (intro wS hS; go_simp; try with_reducible rfl)
  simp only [Act.put, List.setIfInBounds_toArray, List.set_cons_zero, List.set_cons_succ]
  refine wpPlan_q (v := ?_) rfl rfl ?_ ?_; rotate_left 1; · (intro wS hS; go_simp; try with_reducible rfl)
  simp only [Act.put, List.setIfInBounds_toArray, List.set_cons_zero, List.set_cons_succ]
  refine wpPlan_q (v := ?_) rfl rfl ?_ ?_; rotate_left 1; · (intro wS hS; go_simp; try with_reducible rfl)
  simp only [Act.put, List.setIfInBounds_toArray, List.set_cons_zero, List.set_cons_succ]
  refine wpPlan_e rfl rfl (fun K hK => ?_)
  go_wp2_with fail
  have h5 := (H4.out.allocd (.cells #[vi f] 3)).drew
  generalize (w3.alloc (.cells #[vi f] 3)).drew = w5 at *
  have h6 := Sat.sel [_, _, _, _, _] 5 [1, 0, 3, 2, 4] h5 rfl (by decide)
  change Sat z w5 (r.hp 3 :: [(w3.heap.size, .cells #[vi f] 3 (0, 0))] :: [(bx, .cells #[vi f, vi o] 34 (0, 0))] :: B.main :: B.frame o :: F) at h6
  have e0 := (Sat.sel [_, _, _, _, _] 5 [2] h6 rfl (by decide)).cell (b := bx) (i := 0) (c := #[vi f, vi o]) (e := 34) (fr := (0, 0)) (by simp)
  have e1 := (Sat.sel [_, _, _, _, _] 5 [2] h6 rfl (by decide)).cell (b := bx) (i := 1) (c := #[vi f, vi o]) (e := 34) (fr := (0, 0)) (by simp)
  refine hK _ _ ⟨by simpa using e0, by simpa using e1⟩ ?_
  have hins := irow_insert (ρ := Try.laysIns_ren) Try.laysIns r (r.l.countP (· < f)) f w3.heap.size hrok hci hn h6
  rw [hrv] at hins
  have Hi := Lib.hid hins
  clear d0 d1 h5 h6 hins e0 e1 hK K
  refine wpPlan_e rfl rfl (fun K hK => ?_)
  go_wp2_with (go_at_call 46; refine Hi.out.mono ?_; rintro e w6 ⟨r', rfl, hr1, hr2, h7⟩)
  have hlt : o < B.rows.length := by omega
  have e0 := (Sat.sel [_, _, _, _] 4 [1] h7 rfl (by decide)).cell (b := bx) (i := 0) (c := #[vi f, vi o]) (e := 34) (fr := (0, 0)) (by simp)
  have e1 := (Sat.sel [_, _, _, _] 4 [1] h7 rfl (by decide)).cell (b := bx) (i := 1) (c := #[vi f, vi o]) (e := 34) (fr := (0, 0)) (by simp)
  refine hK _ _ ⟨by simpa using e0, by simpa using e1⟩ ?_
  have h8 := Sat.sel [_, _, _, _] 4 [2, 1, 0, 3] h7 rfl (by decide)
  change Sat z w6 (B.main :: [(bx, .cells #[vi f, vi o] 34 (0, 0))] :: r'.hp 3 :: B.frame o :: F) at h8
  have c2 := Bd.c_row h8 hr
  have c3 := Bd.c_fz h8 (1 + o)
  have h9 := h8.setCell (i := 1 + o) r'.val
  rw [Bd.cells_setRow B o r' hlt] at h9
  obtain ⟨a', n', k', hv⟩ := IRow.val_slice r'
  rw [hv] at h9 ⊢
  have H9 := Lib.hid h9
  clear e0 e1 h7 h8 h9 hK K Hi hv
  refine wpPlan_q (v := ?_) rfl rfl ?_ ?_; rotate_left 1; · (intro wS hS; go_simp; try with_reducible rfl)
  simp only [Act.put, List.setIfInBounds_toArray, List.set_cons_zero, List.set_cons_succ]
  refine wpPlan_e rfl rfl (fun K hK => ?_)
  go_wp2_with fail
  refine hK _ _ ?_ ?_
  · have q0 := (Sat.sel [_, _, _, _] 4 [1] H9.out rfl (by decide)).cell (b := bx) (i := 0) (c := #[vi f, vi o]) (e := 34) (fr := (0, 0)) (by simp)
    have q1 := (Sat.sel [_, _, _, _] 4 [1] H9.out rfl (by decide)).cell (b := bx) (i := 1) (c := #[vi f, vi o]) (e := 34) (fr := (0, 0)) (by simp)
    exact ⟨by simpa using q0, by simpa using q1⟩
  refine wpPlan_nil (NoPanic.normal ?_)
  go_wp2
  go_end0
  refine ⟨r', rfl, Bd.setRow_ok hok o r' hr1, hr2, Bd.shuts (B := B.setRow o r') (o := o) (r := r') (by simp [Bd.setRow, hlt]) ?_⟩
  rw [Bd.frame_setRow]
  exact Sat.sel [_, _, _, _] 4 [2, 0, 3] H9.out rfl (by decide)

set_option maxRecDepth 100000 in
theorem take_ok (hs : Sat z w (B.hp :: F)) (hok : B.ok) (f : Int) (o : Nat) (ho : o ≤ 8) (hn : (B.L o).length ≤ 1000000) (hso : Rising (B.L o)) :
    Calls Try.prog 33 #[.pointer (some ⟨B.p, 0, none⟩), vb f o] w fun e w' => e = .returned (.bool ((B.L o).contains f)) ∧
      ((B.L o).contains f = false ∧ Sat z w' (B.hp :: F) ∨ (B.L o).contains f = true ∧ ∃ r : IRow, (B.setRow o r).ok ∧ r.l = del f (B.L o) ∧ Sat z w' ((B.setRow o r).hp :: F)) := by
  have h9 := hok.nine
  obtain ⟨r, hr⟩ : ∃ r, B.rows[o]? = some r := ⟨_, List.getElem?_eq_getElem (by omega)⟩
  have hrok := hok.rows r (List.mem_of_getElem? hr)
  have hL : B.L o = r.l := by simp [Bd.L, List.getD_eq_getElem?_getD, hr]
  have ho9 : (o : Int) < 9 := by omega
  rw [hL] at hn hso ⊢
  have h1 := Bd.opens hr hs
  have h2 := (h1.allocd (.cells #[vi f, vi o] 34))
  have h3 := Sat.sel [_, _, _, _] 4 [1, 2, 0, 3] h2 rfl (by decide)
  change Sat z _ (r.hp 3 :: B.main :: [(w.heap.size, .cells #[vi f, vi o] 34 (0, 0))] :: B.frame o :: F) at h3
  have hsearch := fun W q => irow_search (ρ := Try.laysSearch_ren) (w := W) Try.laysSearch 3 r f hrok (by omega) hso.le (q : Sat z W (r.hp 3 :: B.main :: [(w.heap.size, .cells #[vi f, vi o] 34 (0, 0))] :: B.frame o :: F))
  generalize hcon : r.l.contains f = con at *
  generalize hcnt : r.l.countP (· < f) = cnt at *
  cases con with
  | false =>
    go_enter Try.func33, Try.ntmps33
    go_wp2_with fail
    generalize hbx : w.heap.size = bx at *
    generalize w.alloc (.cells #[vi f, vi o] 34) = w1 at *
    have c1 := Bd.c_row (F := F) (Sat.sel [_, _, _, _] 4 [1] h3 rfl (by decide)) hr
    have b0 := (Sat.sel [_, _, _, _] 4 [2] h3 rfl (by decide)).cell (b := bx) (i := 0) (c := #[vi f, vi o]) (e := 34) (fr := (0, 0)) (by simp)
    have b1 := (Sat.sel [_, _, _, _] 4 [2] h3 rfl (by decide)).cell (b := bx) (i := 1) (c := #[vi f, vi o]) (e := 34) (fr := (0, 0)) (by simp)
    have Hs := Lib.hid hsearch
    have H3 := Lib.hid h3
    clear h1 h2 h3 hsearch hso
    generalize hrv : r.val = rv at *
    go_quiet (fail)
    go_wp2_with (go_at_call 44; refine (Hs.out _ (H3.out.drewN _)).mono ?_; rintro e w2 ⟨rfl, q, rfl⟩)
    go_ret
    exact ⟨rfl, .inl ⟨trivial, Bd.shuts hr (Sat.sel [_, _, _, _] 4 [0, 1, 3] (H3.out.drewN _) rfl (by decide))⟩⟩
  | true =>
    have hmem : f ∈ r.l := by simpa using hcon
    have hlt := (del_spec hso hmem).2.2
    rw [hcnt] at hlt
    have hw1 : IntKind.i64.wrap ((cnt : Int) + 1) = (cnt : Int) + 1 := by rw [IntKind.wrap_i64]; omega
    have hp1 : (0 : Int) ≤ (cnt : Int) + 1 := by omega
    have hdel : del f r.l = r.l.eraseIdx cnt := by rw [del, hcnt]
    rw [hdel]
    go_enter Try.func33, Try.ntmps33
    go_wp2_with fail
    generalize hbx : w.heap.size = bx at *
    generalize w.alloc (.cells #[vi f, vi o] 34) = w1 at *
    have c1 := Bd.c_row (F := F) (Sat.sel [_, _, _, _] 4 [1] h3 rfl (by decide)) hr
    have b0 := (Sat.sel [_, _, _, _] 4 [2] h3 rfl (by decide)).cell (b := bx) (i := 0) (c := #[vi f, vi o]) (e := 34) (fr := (0, 0)) (by simp)
    have b1 := (Sat.sel [_, _, _, _] 4 [2] h3 rfl (by decide)).cell (b := bx) (i := 1) (c := #[vi f, vi o]) (e := 34) (fr := (0, 0)) (by simp)
    have Hs := Lib.hid hsearch
    have H3 := Lib.hid h3
    have Hd := Lib.hid hdel
    have Hc := Lib.hid hcnt
    clear h1 h2 h3 hsearch hso hdel hcnt
    generalize hrv : r.val = rv at *
    go_quiet (fail)
    go_wp2_with (go_at_call 44; refine (Hs.out _ (H3.out.drewN _)).mono ?_; rintro e w2 ⟨rfl, q, rfl⟩)
    have h4 := H3.out.drewN (nq + q)
    generalize w1.drewN (nq + q) = w3 at *
    have d1 := (Sat.sel [_, _, _, _] 4 [2] h4 rfl (by decide)).cell (b := bx) (i := 1) (c := #[vi f, vi o]) (e := 34) (fr := (0, 0)) (by simp)
    have hdl := irow_delete (ρ := Try.laysDel_ren) Try.laysDel 3 r cnt hrok hlt h4.drew
    rw [hrv] at hdl
    have H4 := Lib.hid h4
    have Hi := Lib.hid hdl
    clear b0 b1 c1 h4 hdl
    refine wp_region_plan (fun w' => w'.cell? ⟨bx, 1, none⟩ = some (vi o)) [(0, false), (1, false), (2, false), (3, false), (4, false), (5, false), (6, false), (8, false), (9, false), (7, true), (10, false), (11, true)] (by kernel_rfl) (by kernel_rfl) (by simpa using d1) ?_
    refine wpPlan_q (v := ?_) rfl rfl ?_ ?_; rotate_left 1; · (intro wS hS; go_simp; try with_reducible rfl)
    simp only [Act.put, List.setIfInBounds_toArray, List.set_cons_zero, List.set_cons_succ]
    refine wpPlan_q (v := ?_) rfl rfl ?_ ?_; rotate_left 1; · (intro wS hS; go_simp; try with_reducible rfl)
    simp only [Act.put, List.setIfInBounds_toArray, List.set_cons_zero, List.set_cons_succ]
    refine wpPlan_q (v := ?_) rfl rfl ?_ ?_; rotate_left 1; · (intro wS hS; go_simp; try with_reducible rfl)
    simp only [Act.put, List.setIfInBounds_toArray, List.set_cons_zero, List.set_cons_succ]
    refine wpPlan_q (v := ?_) rfl rfl ?_ ?_; rotate_left 1; · (intro wS hS; go_simp; try with_reducible rfl)
    simp only [Act.put, List.setIfInBounds_toArray, List.set_cons_zero, List.set_cons_succ]
    refine wpPlan_q (v := ?_) rfl rfl ?_ ?_; rotate_left 1; · (intro wS hS; go_simp; try with_reducible rfl)
    simp only [Act.put, List.setIfInBounds_toArray, List.set_cons_zero, List.set_cons_succ]
    refine wpPlan_q (v := ?_) rfl rfl ?_ ?_; rotate_left 1; · (intro wS hS; go_simp; try with_reducible rfl)
    simp only [Act.put, List.setIfInBounds_toArray, List.set_cons_zero, List.set_cons_succ]
    refine wpPlan_q (v := ?_) rfl rfl ?_ ?_; rotate_left 1; · (intro wS hS; go_simp; try with_reducible rfl)
    simp only [Act.put, List.setIfInBounds_toArray, List.set_cons_zero, List.set_cons_succ]
    refine wpPlan_q (v := ?_) rfl rfl ?_ ?_; rotate_left 1; · (intro wS hS; go_simp; try with_reducible rfl)
    simp only [Act.put, List.setIfInBounds_toArray, List.set_cons_zero, List.set_cons_succ]
    refine wpPlan_q (v := ?_) rfl rfl ?_ ?_; rotate_left 1; · (intro wS hS; go_simp; try with_reducible rfl)
    simp only [Act.put, List.setIfInBounds_toArray, List.set_cons_zero, List.set_cons_succ]
    refine wpPlan_e rfl rfl (fun K hK => ?_)
    go_wp2_with (go_at_call 45; refine Hi.out.mono ?_; rintro e w6 ⟨r', rfl, hr1, hr2, hr3, h7⟩)
    have hlo : o < B.rows.length := by omega
    have e1 := (Sat.sel [_, _, _, _] 4 [2] h7 rfl (by decide)).cell (b := bx) (i := 1) (c := #[vi f, vi o]) (e := 34) (fr := (0, 0)) (by simp)
    refine hK _ _ (by simpa using e1) ?_
    have h8 := Sat.sel [_, _, _, _] 4 [1, 2, 0, 3] h7 rfl (by decide)
    change Sat z w6 (B.main :: [(bx, .cells #[vi f, vi o] 34 (0, 0))] :: r'.hp 3 :: B.frame o :: F) at h8
    have c2 := Bd.c_row h8 hr
    have c3 := Bd.c_fz h8 (1 + o)
    have h9 := h8.setCell (i := 1 + o) r'.val
    rw [Bd.cells_setRow B o r' hlo] at h9
    obtain ⟨a', n', k', hv⟩ := IRow.val_slice r'
    rw [hv] at h9 ⊢
    have H9 := Lib.hid h9
    clear e1 h7 h8 h9 hK K Hi hv
    refine wpPlan_q (v := ?_) rfl rfl ?_ ?_; rotate_left 1; · (intro wS hS; go_simp; try with_reducible rfl)
    simp only [Act.put, List.setIfInBounds_toArray, List.set_cons_zero, List.set_cons_succ]
    refine wpPlan_e rfl rfl (fun K hK => ?_)
    go_wp2_with fail
    refine hK _ _ ?_ ?_
    · have q1 := (Sat.sel [_, _, _, _] 4 [1] H9.out rfl (by decide)).cell (b := bx) (i := 1) (c := #[vi f, vi o]) (e := 34) (fr := (0, 0)) (by simp)
      simpa using q1
    refine wpPlan_nil (NoPanic.normal ?_)
    go_wp2
    go_ret
    refine ⟨rfl, .inr ⟨trivial, r', Bd.setRow_ok hok o r' hr1, hr2, Bd.shuts (B := B.setRow o r') (o := o) (r := r') (by simp [Bd.setRow, hlo]) ?_⟩⟩
    rw [Bd.frame_setRow]
    exact Sat.sel [_, _, _, _] 4 [2, 0, 3] H9.out rfl (by decide)
end
end Go.Proofs.Ytglelfceogpbpaa
