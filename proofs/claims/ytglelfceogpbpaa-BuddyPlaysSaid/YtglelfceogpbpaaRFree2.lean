/- The reference's Free, whole. -/
import Derived.Test.YtglelfceogpbpaaRFree
namespace Go.Proofs.Ytglelfceogpbpaa
open Go.RowKit

section
variable {z w : World} {F : List Chunk} {B : RB} {M : RMem}


set_option maxRecDepth 100000 in
theorem rfree_none (hs : Sat z w (B.hp :: F)) (hok : B.ok) (f o : Int) (hno : ∀ y ∈ B.gv, y ≠ (f, o)) :
    Calls Try.prog 21 #[.pointer (some ⟨B.p, 0, none⟩), vi f, vi o] w fun e w' => e = .returned (vi 2) ∧ Sat z w' (B.hp :: F) := by
  obtain ⟨gcap, hgv, _, _⟩ := CRow.val_base hok.gok
  have hcs : ∀ {w : World} {cs : List Chunk}, Sat z w (B.hp :: cs) → w.cell? ⟨B.p, 2, none⟩ = some (.slice B.g.base B.g.n gcap) := fun hs => by rw [RB.cm (RB.opens hs), ← hgv]; rfl
  have Hcs : Hid (∀ {w : World} {cs : List Chunk}, Sat z w (B.hp :: cs) → w.cell? ⟨B.p, 2, none⟩ = some (.slice B.g.base B.g.n gcap)) := Lib.hid hcs
  have hg9 : B.g.n ≤ 1000 := by rw [hok.gn]; exact hok.gl
  have Hgv := Lib.hid hgv
  have HS := Lib.hid hs
  have Hno := Lib.hid hno
  clear hs hcs hgv hno
  go_enter Try.func21, Try.ntmps21
  go_wp2_with fail
  go_loopg [7] B.g.n (fun g i wr => ∃ m : Nat, i = vi m ∧ g + m = B.g.n ∧ Hid (Sat z wr (B.hp :: F)))
  case atStart => exact ⟨0, rfl, rfl, HS⟩
  case round =>
    clear HS
    obtain ⟨m, rfl, hgm, H1⟩ := hrel
    have c2 := Hcs.out H1.out
    cases gk with
    | zero =>
      have hm : ¬ m < B.g.n := by omega
      clear hgm
      go_wp2_with fail
      go_ret
      exact ⟨rfl, H1.out⟩
    | succ g =>
      have hm : m < B.g.n := by omega
      obtain ⟨y, hy⟩ : ∃ y, B.gv[m]? = some y := ⟨_, List.getElem?_eq_getElem (by rw [← hok.gn]; exact hm)⟩
      obtain ⟨gb, hgb, hgv2, hcs2⟩ := RB.gave (z := z) hok hy
      obtain ⟨_, r2⟩ := hcs2 H1.out
      have hbase : B.g.base = some ⟨gb, 0, none⟩ := by simp [CRow.base, hgb]
      rw [hbase] at c2
      have Hr2 := Lib.hid r2
      have Hgm := Lib.hid hgm
      have Hy := Lib.hid hy
      have Hbase := Lib.hid hbase
      clear hgm hy hgb hgv2 hcs2 r2 hbase
      have hne : (y.1 == f && y.2 == o) = false := by
        have := Hno.out y (List.mem_of_getElem? Hy.out)
        rw [Bool.eq_false_iff]
        intro h
        simp only [Bool.and_eq_true, beq_iff_eq] at h
        exact this (Prod.ext h.1 h.2)
      have Hne := Lib.hid hne
      clear hne
      go_wp2_with (first
        | (refine wpList_val (o := ⟨some 24, _, _, _, _, _⟩) (v := .agg #[vi y.1, vi y.2]) rfl (exec_load_mid 57 (.tmp 23) rfl gb (m * 2) rfl [vi y.1, vi y.2] _ Hr2.out Try.underlying57 rfl (by kernel_rfl)) ?_)
        | (refine wpList_val (o := ⟨some 28, _, _, _, _, _⟩) (v := .bool false) rfl (exec_eqRB (.tmp 24) (.tmp 27) 57 rfl y (f, o) rfl rfl false Hne.out) ?_))
      go_roundg g
      case measure => omega
      case rel => exact ⟨m + 1, by simp, by have := Hgm.out; omega, H1⟩

def RFreed (z : World) (F : List Chunk) (B : RB) (M : RMem) (xn k : Nat) (e : Ending) (w' : World) : Prop := ∃ (i : Nat) (B' : RB), B.gv[i]? = some ((xn : Int), (k : Int)) ∧ (∀ j y, j < i → B.gv[j]? = some y → y ≠ ((xn : Int), (k : Int))) ∧ e = .returned (vi 0) ∧ B'.ok ∧ B'.p = B.p ∧ B'.mp = B.mp ∧
      B'.f = setR B.f xn (2 ^ k) true ∧ B'.gv = B.gv.eraseIdx i ∧ Sat z w' (B'.hp :: RMem.hp { M with W := wipe M.W (16 * xn) (16 * 2 ^ k) } :: F)

set_option maxRecDepth 100000 in
set_option maxHeartbeats 1000000 in
theorem rfree_some (hs : Sat z w (B.hp :: M.hp :: F)) (hok : B.ok) (hM : M.ok) (hmp : B.mp = M.p) (hn : B.f.length = M.n) (xn k : Nat) (hk : k ≤ 8) (hfit : xn + 2 ^ k ≤ B.f.length) (hin : ((xn : Int), (k : Int)) ∈ B.gv) :
    Calls Try.prog 21 #[.pointer (some ⟨B.p, 0, none⟩), vi xn, vi k] w (RFreed z F B M xn k) := by
  obtain ⟨gcap, hgv, _, _⟩ := CRow.val_base hok.gok
  have hcs : ∀ {w : World} {cs : List Chunk}, Sat z w (B.hp :: cs) → w.cell? ⟨B.p, 2, none⟩ = some (.slice B.g.base B.g.n gcap) := fun hs => by rw [RB.cm (RB.opens hs), ← hgv]; rfl
  have Hcs : Hid (∀ {w : World} {cs : List Chunk}, Sat z w (B.hp :: cs) → w.cell? ⟨B.p, 2, none⟩ = some (.slice B.g.base B.g.n gcap)) := Lib.hid hcs
  have hg9 : B.g.n ≤ 1000 := by rw [hok.gn]; exact hok.gl
  have Hgv := Lib.hid hgv
  have HS := Lib.hid hs
  have Hin := Lib.hid hin
  have Hmp := Lib.hid hmp
  have Hn := Lib.hid hn
  have Hfit := Lib.hid hfit
  obtain ⟨f, hf⟩ : ∃ f : Int, f = (xn : Int) := ⟨_, rfl⟩
  obtain ⟨o, ho⟩ : ∃ o : Int, o = (k : Int) := ⟨_, rfl⟩
  have Hf := Lib.hid hf
  have Ho := Lib.hid ho
  clear hs hcs hgv hin hmp hn hfit hf ho
  go_enter Try.func21, Try.ntmps21
  go_wp2_with fail
  go_loopg [7] B.g.n (fun g i wr => ∃ m : Nat, i = vi m ∧ g + m = B.g.n ∧ Hid (∀ j y, j < m → B.gv[j]? = some y → y ≠ ((xn : Int), (k : Int))) ∧ Hid (Sat z wr (B.hp :: M.hp :: F)))
  case atStart => exact ⟨0, rfl, rfl, Lib.hid (fun j y h => by omega), HS⟩
  case round =>
    clear HS
    obtain ⟨m, rfl, hgm, Hlow, H1⟩ := hrel
    have c2 := Hcs.out H1.out
    cases gk with
    | zero =>
      exfalso
      obtain ⟨j, hj, e⟩ := List.mem_iff_getElem.1 Hin.out
      exact Hlow.out j _ (by rw [← hok.gn] at hj; omega) (List.getElem?_eq_getElem hj) e
    | succ g =>
      have hm : m < B.g.n := by omega
      obtain ⟨y, hy⟩ : ∃ y, B.gv[m]? = some y := ⟨_, List.getElem?_eq_getElem (by rw [← hok.gn]; exact hm)⟩
      obtain ⟨gb, hgb, hgv2, hcs2⟩ := RB.gave (z := z) hok hy
      obtain ⟨_, r2⟩ := hcs2 H1.out
      have hbase : B.g.base = some ⟨gb, 0, none⟩ := by simp [CRow.base, hgb]
      rw [hbase] at c2
      have Hr2 := Lib.hid r2
      have Hgm := Lib.hid hgm
      have Hy := Lib.hid hy
      have Hbase := Lib.hid hbase
      clear hgm hy hgb hgv2 hcs2 r2 hbase
      by_cases hye : y = ((xn : Int), (k : Int))
      · have hne : (y.1 == (xn : Int) && y.2 == (k : Int)) = true := by rw [hye]; simp
        have Hne := Lib.hid hne
        have Hye := Lib.hid hye
        clear hne hye
        go_wp2_with (first
          | (refine wpList_val (o := ⟨some 24, _, _, _, _, _⟩) (v := .agg #[vi y.1, vi y.2]) rfl (exec_load_mid 57 (.tmp 23) rfl gb (m * 2) rfl [vi y.1, vi y.2] _ Hr2.out Try.underlying57 rfl (by kernel_rfl)) ?_)
          | (refine wpList_val (o := ⟨some 28, _, _, _, _, _⟩) (v := .bool true) rfl (exec_eqRB (.tmp 24) (.tmp 27) 57 rfl y ((xn : Int), (k : Int)) rfl rfl true Hne.out) ?_))
        refine rfree_r5 hok (by rw [← hok.gn]; exact hm) _ _ H1.out _ _ _ _ _ _ _ _ _ _ _ _ _ _ _ _ _ _ _ _ _ _ _ _ _ _ _ _ _ _ _ _ _ _ _ _ _ _ _ _ _ _ _ _ _ _ _ _ _ _ _ _ _ _ _ _ _ _ _ _ _ _ _ _ _ _ _ _ _ ?_
        intro u29 u30 u31 u32 u33 u34 u35 u36 u37 u38 u39 u40 u41 u42 u43 u44 u45 u46 u47 w3 R hok3 h3
        have d0 : w3.drew.cell? ⟨B.p, 0, none⟩ = some (.pointer (some ⟨M.p, 0, none⟩)) := by
          have := RB.cm (RB.opens h3.drew) 0
          rw [this, ← Hmp.out]; rfl
        have hpk := Nat.two_pow_pos k
        have hsc := rmem_scrub h3.swap.drew hM xn (2 ^ k) (by omega) (by have := Hfit.out; have := Hn.out; omega)
        have hpw := power_ok k hk w3.drew
        have Hsc := Lib.hid hsc
        have Hpw := Lib.hid hpw
        clear h3 c2 hsc hpw
        go_wp2_with fail
        refine wp_region_plan (fun w' => w'.cell? ⟨B.p, 0, none⟩ = some (.pointer (some ⟨M.p, 0, none⟩))) [(0, false), (1, false), (2, false), (3, false), (4, false), (5, false), (6, true), (7, true)] (by kernel_rfl) (by kernel_rfl) d0 ?_
        refine wpPlan_q (v := ?_) rfl rfl ?_ ?_; rotate_left 1; · (intro wS hS; go_simp; try with_reducible rfl)
        simp only [Act.put, List.setIfInBounds_toArray, List.set_cons_zero, List.set_cons_succ]
        refine wpPlan_q (v := ?_) rfl rfl ?_ ?_; rotate_left 1; · (intro wS hS; go_simp; try with_reducible rfl)
        simp only [Act.put, List.setIfInBounds_toArray, List.set_cons_zero, List.set_cons_succ]
        refine wpPlan_q (v := ?_) rfl rfl ?_ ?_; rotate_left 1; · (intro wS hS; go_simp; try with_reducible rfl)
        simp only [Act.put, List.setIfInBounds_toArray, List.set_cons_zero, List.set_cons_succ]
        refine wpPlan_q (v := ?_) rfl rfl ?_ ?_; rotate_left 1; · (intro wS hS; go_simp; try with_reducible rfl)
        simp only [Act.put, List.setIfInBounds_toArray, List.set_cons_zero, List.set_cons_succ]
        refine wpPlan_q (v := ?_) rfl rfl ?_ ?_; rotate_left 1; · (intro wS hS; go_simp; try with_reducible rfl)
        simp only [Act.put, List.setIfInBounds_toArray, List.set_cons_zero, List.set_cons_succ]
        refine wpPlan_q (v := ?_) rfl rfl ?_ ?_; rotate_left 1; · (intro wS hS; go_simp; try with_reducible rfl)
        simp only [Act.put, List.setIfInBounds_toArray, List.set_cons_zero, List.set_cons_succ]
        refine wpPlan_e rfl rfl (fun K hK => ?_)
        go_wp2_with (go_at_call 38; refine Hpw.out.mono ?_; rintro e w' ⟨rfl, rfl⟩)
        refine hK _ _ d0 ?_
        clear hK K
        refine wpPlan_e rfl rfl (fun K hK => ?_)
        go_wp2_with (go_at_call 39; refine Hsc.out.mono ?_; rintro e w5 ⟨rfl, h5⟩)
        have d5 : w5.cell? ⟨B.p, 0, none⟩ = some (.pointer (some ⟨M.p, 0, none⟩)) := by
          have := RB.cm (RB.opens h5.swap) 0
          rw [this, ← Hmp.out]; rfl
        refine hK _ _ d5 ?_
        clear hK K
        have H5 := Lib.hid h5.swap
        clear h5 d0 d5
        refine wpPlan_nil (NoPanic.normal ?_)
        go_wp2_with fail
        refine rfree_l2 hok3 hk Hfit.out _ _ H5.out _ _ _ _ _ _ _ _ _ _ _ _ _ _ _ _ _ _ _ _ _ _ _ _ _ _ _ _ _ _ _ _ _ _ _ _ _ _ _ _ _ _ _ _ _ _ _ _ _ _ _ _ _ _ _ _ _ _ _ _ _ _ _ _ _ _ _ ?_
        intro u8 u57 u58 u59 u60 u61 u62 u63 u64 u65 u66 u67 u68 u69 u70 w6 h6
        have H6 := Lib.hid h6
        clear h6
        go_wp2_with fail
        go_ret
        unfold RFreed
        exact ⟨m, _, by rw [Hy.out, Hye.out], Hlow.out, rfl, RB.withF_ok hok3 _ (setR_len _ _ _ _), rfl, rfl, rfl, rfl, H6.out⟩
      · have hne : (y.1 == (xn : Int) && y.2 == (k : Int)) = false := by
          rw [Bool.eq_false_iff]
          intro h
          simp only [Bool.and_eq_true, beq_iff_eq] at h
          exact hye (Prod.ext h.1 h.2)
        have Hne := Lib.hid hne
        clear hne
        go_wp2_with (first
          | (refine wpList_val (o := ⟨some 24, _, _, _, _, _⟩) (v := .agg #[vi y.1, vi y.2]) rfl (exec_load_mid 57 (.tmp 23) rfl gb (m * 2) rfl [vi y.1, vi y.2] _ Hr2.out Try.underlying57 rfl (by kernel_rfl)) ?_)
          | (refine wpList_val (o := ⟨some 28, _, _, _, _, _⟩) (v := .bool false) rfl (exec_eqRB (.tmp 24) (.tmp 27) 57 rfl y ((xn : Int), (k : Int)) rfl rfl false Hne.out) ?_))
        go_roundg g
        case measure => omega
        case rel => exact ⟨m + 1, by simp, by have := Hgm.out; omega, Lib.hid (fun j y' h1 h2 => by
          by_cases e : j = m
          · subst e; rw [Hy.out] at h2; simp only [Option.some.injEq] at h2; rw [← h2]; exact hye
          · exact Hlow.out j y' (by omega) h2), H1⟩
end
end Go.Proofs.Ytglelfceogpbpaa
