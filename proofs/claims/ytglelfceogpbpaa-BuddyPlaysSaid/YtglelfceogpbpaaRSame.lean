/- law 04's same. -/
import Derived.Test.YtglelfceogpbpaaRBlocks
import Derived.Test.YtglelfceogpbpaaPlan
namespace Go.Proofs.Ytglelfceogpbpaa
open Go.RowKit

section
variable {z w : World} {F : List Chunk}
set_option maxRecDepth 100000 in
theorem same_ok {R R' : CRow} {S : List (Int × Int)} (hR : R.ok 2) (hR' : R'.ok 2) (hn : R.n = S.length) (hx : R.xs = S.flatMap encB) (hn' : R'.n = S.length) (hx' : R'.xs = S.flatMap encB) (hbig : S.length ≤ 4000)
    (hs : Sat z w (R.hp 34 :: R'.hp 57 :: F)) :
    Calls Try.prog 23 #[R.val, R'.val] w fun e w' => e = .returned (.bool true) ∧ Sat z w' (R.hp 34 :: R'.hp 57 :: F) := by
  obtain ⟨ra, rk, hv⟩ := CRow.val_len R hR
  obtain ⟨ra', rk', hv'⟩ := CRow.val_len R' hR'
  have hnn : R'.n = R.n := by rw [hn, hn']
  rw [hv, hv', hnn]
  have HS := Lib.hid hs
  have HR := Lib.hid (And.intro hn (And.intro hx (And.intro hn' hx')))
  have Hv := Lib.hid hv
  have Hv' := Lib.hid hv'
  have hb : R.n ≤ 4000 := by rw [hn]; exact hbig
  clear hs hn hx hn' hx' hv hv' hnn
  go_enter Try.func23, Try.ntmps23
  go_wp2_with fail
  go_loopg [5] R.n (fun k iv wr => ∃ i : Nat, iv = vi i ∧ k + i = R.n ∧ Hid (Sat z wr (R.hp 34 :: R'.hp 57 :: F)))
  case atStart => exact ⟨0, rfl, rfl, HS⟩
  case round =>
    clear HS
    obtain ⟨i, rfl, hki, H1⟩ := hrel
    cases gk with
    | zero =>
      have hi : ¬ i < R.n := by omega
      clear hki
      go_wp2_with fail
      go_ret
      exact ⟨rfl, H1.out⟩
    | succ k =>
      have hi : i < R.n := by omega
      have Hki := Lib.hid hki
      have hnn := HR.out.1.trans HR.out.2.2.1.symm
      obtain ⟨b, hb1, rfl⟩ := CRow.ofLen2 hR Hv.out (by omega)
      obtain ⟨b', hb', rfl⟩ := CRow.ofLen2 hR' Hv'.out (by omega)
      obtain ⟨y, hy⟩ : ∃ y, S[i]? = some y := ⟨_, List.getElem?_eq_getElem (by rw [← HR.out.1]; exact hi)⟩
      obtain ⟨p0, p1⟩ := CRow.cellB H1.out.drew hb1 HR.out.2.1 hy
      obtain ⟨q0, q1⟩ := CRow.cellB H1.out.swap.drew hb' HR.out.2.2.2 hy
      clear hki hb1 hb' hy hnn
      go_wp2_with fail
      refine wp_region_plan (fun w' => w'.cell? ⟨b, i * 2, none⟩ = some (vi y.1) ∧ w'.cell? ⟨b, i * 2 + 1, none⟩ = some (vi y.2) ∧ w'.cell? ⟨b', i * 2, none⟩ = some (vi y.1) ∧ w'.cell? ⟨b', i * 2 + 1, none⟩ = some (vi y.2)) [(0, false), (1, false), (2, false), (3, false), (4, false), (5, false), (6, false), (7, false), (8, false), (9, false), (10, false), (11, false), (12, false), (13, false), (14, false), (15, false), (16, false), (17, false), (18, false), (19, false), (20, false), (21, false), (22, false), (23, false)] (by kernel_rfl) (by kernel_rfl) ⟨p0, p1, q0, q1⟩ ?_
      refine wpPlan_q (v := ?_) rfl rfl ?_ ?_; rotate_left 1; · (intro wS hS; go_simp; try with_reducible rfl)
      simp only [Act.put, List.setIfInBounds_toArray, List.set_cons_zero, List.set_cons_succ]
      refine wpPlan_q (v := ?_) rfl rfl ?_ ?_; rotate_left 1; · (intro wS hS; go_simp; try with_reducible rfl)
      simp only [Act.put, List.setIfInBounds_toArray, List.set_cons_zero, List.set_cons_succ]
      refine wpPlan_q (v := ?_) rfl rfl ?_ ?_; rotate_left 1; · (intro wS hS; go_simp; try with_reducible rfl)
      simp only [Act.put, List.setIfInBounds_toArray, List.set_cons_zero, List.set_cons_succ]
      refine wpPlan_q (v := ?_) rfl rfl ?_ ?_; rotate_left 1; · (intro wS hS; go_simp; try with_reducible rfl)
      simp only [Act.put, List.setIfInBounds_toArray, List.set_cons_zero, List.set_cons_succ]
      refine wpPlan_q (v := ?_) rfl rfl ?_ ?_; rotate_left 1; · (intro wS hS; go_simp; try with_reducible rfl)
      simp only [Act.put, List.setIfInBounds_toArray, List.set_cons_zero, List.set_cons_succ]
      refine wpPlan_q (v := ?_) rfl rfl ?_ ?_; rotate_left 1; · (intro wS hS; go_simp; try with_reducible rfl)
      simp only [Act.put, List.setIfInBounds_toArray, List.set_cons_zero, List.set_cons_succ]
      refine wpPlan_q (v := ?_) rfl rfl ?_ ?_; rotate_left 1; · (intro wS hS; go_simp; try with_reducible rfl)
      simp only [Act.put, List.setIfInBounds_toArray, List.set_cons_zero, List.set_cons_succ]
      refine wpPlan_q (v := ?_) rfl rfl ?_ ?_; rotate_left 1; · (intro wS hS; go_simp; try with_reducible rfl)
      simp only [Act.put, List.setIfInBounds_toArray, List.set_cons_zero, List.set_cons_succ]
      refine wpPlan_q (v := ?_) rfl rfl ?_ ?_; rotate_left 1; · (intro wS hS; go_simp; try with_reducible rfl)
      simp only [Act.put, List.setIfInBounds_toArray, List.set_cons_zero, List.set_cons_succ]
      refine wpPlan_q (v := ?_) rfl rfl ?_ ?_; rotate_left 1; · (intro wS hS; go_simp; try with_reducible rfl)
      simp only [Act.put, List.setIfInBounds_toArray, List.set_cons_zero, List.set_cons_succ]
      refine wpPlan_q (v := .bool false) rfl rfl ?_ ?_; · (intro wS hS; go_simp; try simp)
      simp only [Act.put, List.setIfInBounds_toArray, List.set_cons_zero, List.set_cons_succ]
      refine wpPlan_q (v := ?_) rfl rfl ?_ ?_; rotate_left 1; · (intro wS hS; go_simp; try with_reducible rfl)
      simp only [Act.put, List.setIfInBounds_toArray, List.set_cons_zero, List.set_cons_succ]
      refine wpPlan_g (v := ?_) rfl rfl ?_ ?_; rotate_left 1; · (intro wS hS; go_simp; try with_reducible rfl)
      simp only [Act.put, List.setIfInBounds_toArray, List.set_cons_zero, List.set_cons_succ]
      refine wpPlan_g (v := ?_) rfl rfl ?_ ?_; rotate_left 1; · (intro wS hS; go_simp; try with_reducible rfl)
      simp only [Act.put, List.setIfInBounds_toArray, List.set_cons_zero, List.set_cons_succ]
      refine wpPlan_g (v := ?_) rfl rfl ?_ ?_; rotate_left 1; · (intro wS hS; go_simp; try with_reducible rfl)
      simp only [Act.put, List.setIfInBounds_toArray, List.set_cons_zero, List.set_cons_succ]
      refine wpPlan_g (v := ?_) rfl rfl ?_ ?_; rotate_left 1; · (intro wS hS; go_simp; try with_reducible rfl)
      simp only [Act.put, List.setIfInBounds_toArray, List.set_cons_zero, List.set_cons_succ]
      refine wpPlan_g (v := ?_) rfl rfl ?_ ?_; rotate_left 1; · (intro wS hS; go_simp; try with_reducible rfl)
      simp only [Act.put, List.setIfInBounds_toArray, List.set_cons_zero, List.set_cons_succ]
      refine wpPlan_g (v := ?_) rfl rfl ?_ ?_; rotate_left 1; · (intro wS hS; go_simp; try with_reducible rfl)
      simp only [Act.put, List.setIfInBounds_toArray, List.set_cons_zero, List.set_cons_succ]
      refine wpPlan_g (v := ?_) rfl rfl ?_ ?_; rotate_left 1; · (intro wS hS; go_simp; try with_reducible rfl)
      simp only [Act.put, List.setIfInBounds_toArray, List.set_cons_zero, List.set_cons_succ]
      refine wpPlan_g (v := ?_) rfl rfl ?_ ?_; rotate_left 1; · (intro wS hS; go_simp; try with_reducible rfl)
      simp only [Act.put, List.setIfInBounds_toArray, List.set_cons_zero, List.set_cons_succ]
      refine wpPlan_g (v := ?_) rfl rfl ?_ ?_; rotate_left 1; · (intro wS hS; go_simp; try with_reducible rfl)
      simp only [Act.put, List.setIfInBounds_toArray, List.set_cons_zero, List.set_cons_succ]
      refine wpPlan_g (v := ?_) rfl rfl ?_ ?_; rotate_left 1; · (intro wS hS; go_simp; try with_reducible rfl)
      simp only [Act.put, List.setIfInBounds_toArray, List.set_cons_zero, List.set_cons_succ]
      refine wpPlan_g (v := .bool false) rfl rfl ?_ ?_; · (intro wS hS; go_simp; try simp)
      simp only [Act.put, List.setIfInBounds_toArray, List.set_cons_zero, List.set_cons_succ]
      refine wpPlan_q (v := ?_) rfl rfl ?_ ?_; rotate_left 1; · (intro wS hS; go_simp; try with_reducible rfl)
      simp only [Act.put, List.setIfInBounds_toArray, List.set_cons_zero, List.set_cons_succ]
      refine wpPlan_nil (NoPanic.normal ?_)
      go_wp2
      go_roundg k
      case measure => omega
      case rel => exact ⟨i + 1, by simp, by have := Hki.out; omega, Lib.hid H1.out.drew⟩
end
end Go.Proofs.Ytglelfceogpbpaa
