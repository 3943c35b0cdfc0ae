/- law 04's BuddyFrees: the two loops that look at the free blocks. -/
import Derived.Test.YtglelfceogpbpaaAwake
import Derived.Test.YtglelfceogpbpaaOpsAt
import Derived.Test.YtglelfceogpbpaaCut
namespace Go.Proofs.Ytglelfceogpbpaa
open Go.RowKit

section
variable {z : World}
set_option maxRecDepth 100000 in
set_option maxHeartbeats 2000000 in
theorem frees_check {B2 : Bd} {M2 : Mem} {Fr2 : Nat → Prop} (I2 : Inv B2 M2 Fr2) {R2 : CRow} {S2 : List (Int × Int)} (hR2 : R2.ok 2) (hRn : R2.n = S2.length) (hRx : R2.xs = S2.flatMap encB) (hp : S2.Perm (allB B2))
    {ra2 : Option Addr} {rk2 : Nat} (hv2 : R2.val = .slice ra2 R2.n rk2) (Q : Exit → Act → World → Prop) (w : World) (hs : Sat z w [R2.hp 34, B2.hp, M2.hp, whole z])
    (t0 t1 t2 t3 t4 t5 t6 t7 t8 t9 t10 t11 t12 t15 t16 t17 t18 t19 t20 t21 t22 t23 t24 t25 t26 t27 t28 t29 t30 t31 t32 t33 t34 t35 t36 t37 t38 t39 t40 t41 t42 t43 t44 t45 t46 t47 t48 t49 t50 t51 t52 t53 t54 t55 t56 t57 t58 t59 t60 t61 t62 t63 t64 t65 t66 t67 t68 t69 t70 t71 t72 t73 t74 t75 t76 t77 t78 t79 t80 t81 t82 t83 t84 t85 t86 t87 t88 t89 t90 t91 t92 t93 t94 t95 t96 t97 t98 t99 t100 t101 t102 t103 t104 t105 t106 t107 t108 t109 t110 t111 t112 t113 t114 t115 t116 t117 t118 t119 t120 t121 t122 t123 t124 t125 t126 t127 t128 t129 t130 t131 t132 t133 t134 t135 t136 t137 t138 t139 t140 t141 t142 t143 t144 t145 t146 t147 t148 t149 t150 t151 t152 t153 t154 t155 : Value)
    (h : ∀ (u6 u14 u15 u16 u17 u18 u98 u99 u100 u101 u102 u103 u104 u105 u106 u107 u108 u109 u110 u111 u112 u113 u114 u115 u116 u117 u118 u119 u120 u121 u122 u123 u124 u125 u126 u127 u128 u129 u130 u131 u132 u133 u134 u135 u136 u137 u138 u139 u140 u141 u142 u143 u144 u145 u146 u147 u148 u149 u150 u151 u152 u153 u154 : Value) (w' : World), Sat z w' [R2.hp 34, B2.hp, M2.hp, whole z] → Q (.exit 2) ⟨List.toArray (t0 :: t1 :: t2 :: t3 :: t4 :: t5 :: u6 :: t7 :: t8 :: t9 :: t10 :: t11 :: t12 :: .slice ra2 R2.n rk2 :: u14 :: u15 :: u16 :: u17 :: u18 :: t19 :: t20 :: t21 :: t22 :: t23 :: t24 :: t25 :: t26 :: t27 :: t28 :: t29 :: t30 :: t31 :: t32 :: t33 :: t34 :: t35 :: t36 :: t37 :: t38 :: t39 :: t40 :: t41 :: t42 :: t43 :: t44 :: t45 :: t46 :: t47 :: t48 :: t49 :: t50 :: t51 :: t52 :: t53 :: t54 :: t55 :: t56 :: t57 :: t58 :: t59 :: t60 :: t61 :: t62 :: t63 :: t64 :: t65 :: t66 :: t67 :: t68 :: t69 :: t70 :: t71 :: t72 :: t73 :: t74 :: t75 :: t76 :: t77 :: t78 :: t79 :: t80 :: t81 :: t82 :: t83 :: t84 :: t85 :: t86 :: t87 :: t88 :: t89 :: t90 :: t91 :: t92 :: t93 :: t94 :: t95 :: t96 :: t97 :: u98 :: u99 :: u100 :: u101 :: u102 :: u103 :: u104 :: u105 :: u106 :: u107 :: u108 :: u109 :: u110 :: u111 :: u112 :: u113 :: u114 :: u115 :: u116 :: u117 :: u118 :: u119 :: u120 :: u121 :: u122 :: u123 :: u124 :: u125 :: u126 :: u127 :: u128 :: u129 :: u130 :: u131 :: u132 :: u133 :: u134 :: u135 :: u136 :: u137 :: u138 :: u139 :: u140 :: u141 :: u142 :: u143 :: u144 :: u145 :: u146 :: u147 :: u148 :: u149 :: u150 :: u151 :: u152 :: u153 :: u154 :: t155 :: []), []⟩ w') :
    Code.wp Try.prog (loopOf Try.f3 2) Q ⟨List.toArray (t0 :: t1 :: t2 :: t3 :: t4 :: t5 :: t6 :: t7 :: t8 :: t9 :: t10 :: t11 :: t12 :: .slice ra2 R2.n rk2 :: vi 0 :: t15 :: t16 :: t17 :: t18 :: t19 :: t20 :: t21 :: t22 :: t23 :: t24 :: t25 :: t26 :: t27 :: t28 :: t29 :: t30 :: t31 :: t32 :: t33 :: t34 :: t35 :: t36 :: t37 :: t38 :: t39 :: t40 :: t41 :: t42 :: t43 :: t44 :: t45 :: t46 :: t47 :: t48 :: t49 :: t50 :: t51 :: t52 :: t53 :: t54 :: t55 :: t56 :: t57 :: t58 :: t59 :: t60 :: t61 :: t62 :: t63 :: t64 :: t65 :: t66 :: t67 :: t68 :: t69 :: t70 :: t71 :: t72 :: t73 :: t74 :: t75 :: t76 :: t77 :: t78 :: t79 :: t80 :: t81 :: t82 :: t83 :: t84 :: t85 :: t86 :: t87 :: t88 :: t89 :: t90 :: t91 :: t92 :: t93 :: t94 :: t95 :: t96 :: t97 :: t98 :: t99 :: t100 :: t101 :: t102 :: t103 :: t104 :: t105 :: t106 :: t107 :: t108 :: t109 :: t110 :: t111 :: t112 :: t113 :: t114 :: t115 :: t116 :: t117 :: t118 :: t119 :: t120 :: t121 :: t122 :: t123 :: t124 :: t125 :: t126 :: t127 :: t128 :: t129 :: t130 :: t131 :: t132 :: t133 :: t134 :: t135 :: t136 :: t137 :: t138 :: t139 :: t140 :: t141 :: t142 :: t143 :: t144 :: t145 :: t146 :: t147 :: t148 :: t149 :: t150 :: t151 :: t152 :: t153 :: t154 :: t155 :: []), []⟩ w := by
  conv => arg 2; whnf
  have H := Lib.hid h
  have HS := Lib.hid hs
  have HR2 := Lib.hid (And.intro hRn (And.intro hRx hp))
  have Hv2 := Lib.hid hv2
  have hR2n : R2.n ≤ 3000 := by
    have := gath_len B2 I2.len300 9 0 (by omega) (fun _ => rfl)
    rw [gath_all] at this
    rw [hRn, hp.length_eq]
    omega
  clear h hs hRn hRx hp hv2
  go_loopg [14] R2.n (fun k iv wr => ∃ i : Nat, iv = vi i ∧ k + i = R2.n ∧ Hid (Sat z wr [R2.hp 34, B2.hp, M2.hp, whole z]))
  case atStart => exact ⟨0, rfl, rfl, HS⟩
  case round =>
    obtain ⟨i, rfl, hki, H6⟩ := hrel
    clear HS
    cases gk with
    | zero =>
      have hi : ¬ i < R2.n := by omega
      clear hki
      go_wp2_with fail
      apply H.out
      exact H6.out
    | succ k2 =>
      have hi : i < R2.n := by omega
      have Hki := Lib.hid hki
      obtain ⟨b2, hb2, rfl⟩ := CRow.ofLen hR2 Hv2.out (by omega)
      obtain ⟨y, hy⟩ : ∃ y, S2[i]? = some y := ⟨_, List.getElem?_eq_getElem (by rw [← HR2.out.1]; exact hi)⟩
      obtain ⟨q, o, rfl, ho8, _, hqn, _⟩ := block_form I2 (HR2.out.2.2.mem_iff.1 (List.mem_of_getElem? hy))
      have Hb2 := Lib.hid hb2
      have Hy := Lib.hid hy
      clear hki hb2 hy
      go_wp2_with fail
      go_loopg [15] i (fun k jv wr => ∃ j : Nat, jv = vi j ∧ k + j = i ∧ Hid (Sat z wr [R2.hp 34, B2.hp, M2.hp, whole z]))
      case atStart => exact ⟨0, rfl, rfl, H6⟩
      case round =>
        obtain ⟨j, rfl, hkj, H7⟩ := hrel
        clear H6
        cases gk with
        | zero =>
          have hj : ¬ j < i := by omega
          clear hkj
          go_wp2_with fail
          go_roundg k2
          case measure => omega
          case rel => exact ⟨i + 1, by simp, by have := Hki.out; omega, H7⟩
        | succ k3 =>
          have hj : j < i := by omega
          have Hkj := Lib.hid hkj
          obtain ⟨y', hy'⟩ : ∃ y', S2[j]? = some y' := ⟨_, List.getElem?_eq_getElem (by rw [← HR2.out.1]; omega)⟩
          obtain ⟨q', o', rfl, ho8', _, hqn', _⟩ := block_form I2 (HR2.out.2.2.mem_iff.1 (List.mem_of_getElem? hy'))
          obtain ⟨ci0, ci1⟩ := CRow.cellB H7.out Hb2.out HR2.out.2.1 Hy.out
          obtain ⟨cj0, cj1⟩ := CRow.cellB H7.out Hb2.out HR2.out.2.1 hy'
          have hno := fun (e : o' = o) (h8 : o < 8) => no_two I2 HR2.out.2.2 (j := j) (k := i) (q := q') (q' := q) (o := o) (by omega) (by rw [← e]; exact hy') Hy.out h8
          obtain ⟨X, hX⟩ : ∃ X : Nat, X = 2 ^ o := ⟨_, rfl⟩
          have hX1 : 1 ≤ X := by rw [hX]; exact Nat.two_pow_pos o
          have hX2 : X ≤ 256 := by
            rw [hX]
            exact Nat.pow_le_pow_right (n := 2) (i := o) (j := 8) (by omega) (by omega)
          have hq1 : ((q * 2 ^ o : Nat) : Int).tdiv (2 * (X : Int)) = ((q / 2 : Nat) : Int) := by
            rw [hX, Int.tdiv_eq_ediv_of_nonneg (by omega)]
            have : q * 2 ^ o / (2 * 2 ^ o) = q / 2 := Nat.mul_div_mul_right q 2 (Nat.two_pow_pos o)
            exact_mod_cast this
          have hqb : q ≤ 256 := by
            have := I2.mok.n1
            have := Nat.le_mul_of_pos_right (q + 1) (Nat.two_pow_pos o)
            omega
          obtain ⟨T, hT, hTb⟩ : ∃ T : Nat, ((q' * 2 ^ o' : Nat) : Int).tdiv (2 * (X : Int)) = (T : Int) ∧ T ≤ 256 := ⟨(q' * 2 ^ o') / (2 * X), by
            rw [Int.tdiv_eq_ediv_of_nonneg (by omega)]
            norm_cast, by
            have h1 := I2.mok.n1
            have h2 := Nat.div_le_self (q' * 2 ^ o') (2 * X)
            rw [Nat.add_mul] at hqn'
            omega⟩
          have hne : o' = o → o < 8 → T ≠ q / 2 := by
            intro e h8 hh
            refine hno e h8 ?_
            have hT' := hT
            rw [e, hX, Int.tdiv_eq_ediv_of_nonneg (by omega)] at hT'
            have h2 : q' * 2 ^ o / (2 * 2 ^ o) = q' / 2 := Nat.mul_div_mul_right q' 2 (Nat.two_pow_pos o)
            have h3 : ((q' * 2 ^ o / (2 * 2 ^ o) : Nat) : Int) = (T : Int) := by exact_mod_cast hT'
            have h4 : q' * 2 ^ o / (2 * 2 ^ o) = T := by exact_mod_cast h3
            rw [← h2, h4, hh]
          generalize ((q * 2 ^ o : Nat) : Int) = A1 at *
          generalize ((q' * 2 ^ o' : Nat) : Int) = A2 at *
          have Hne := Lib.hid hne
          have HX := Lib.hid hX
          have Hq1 := Lib.hid hq1
          have HT := Lib.hid hT
          clear hkj hy' hno hX hq1 hT hne
          go_wp2_with (first
            | (refine wpList_val (o := ⟨some 114, _, _, _, _, _⟩) (v := vi (X : Int)) rfl (exec_shl 3 3 (.const (.int .i64 1)) (.tmp 113) rfl 0 o (by omega) (by omega) 1 (X : Int) (by simp) (by rw [HX.out]; simp) rfl (by simp [Act.eval])) ?_))
          rw [Hq1.out, HT.out]
          have H8 : Hid (Sat z wr.drew [R2.hp 34, B2.hp, M2.hp, whole z]) := Lib.hid H7.out.drew
          have hjn : j < R2.n := by omega
          clear H7 ci0 cj0
          by_cases he : o' = o
          · subst he
            by_cases h8 : o' < 8
            · have hT2 : ¬ q / 2 = T := fun h => Hne.out rfl h8 h.symm
              refine wp_region_plan (fun w' => w'.cell? ⟨b2, j * 2 + 1, none⟩ = some (vi o') ∧ w'.cell? ⟨b2, i * 2 + 1, none⟩ = some (vi o')) [(0, false), (1, false), (2, false), (3, false), (4, false), (5, false), (6, false), (7, false), (8, false), (9, false), (10, false), (11, false), (12, false), (13, false), (14, false), (15, false), (16, false), (17, false), (18, false), (19, false), (20, false), (21, false), (22, false), (23, false)] (by kernel_rfl) (by kernel_rfl) ⟨cj1, ci1⟩ ?_
              refine wpPlan_q (v := ?_) rfl rfl ?_ ?_; rotate_left 1; · (intro wS hS; go_simp; try with_reducible rfl)
              simp only [Act.put, List.setIfInBounds_toArray, List.set_cons_zero, List.set_cons_succ]
              refine wpPlan_q (v := ?_) rfl rfl ?_ ?_; rotate_left 1; · (intro wS hS; go_simp; try with_reducible rfl)
              simp only [Act.put, List.setIfInBounds_toArray, List.set_cons_zero, List.set_cons_succ]
              refine wpPlan_q (v := ?_) rfl rfl ?_ ?_; rotate_left 1; · (intro wS hS; go_simp; try with_reducible rfl)
              simp only [Act.put, List.setIfInBounds_toArray, List.set_cons_zero, List.set_cons_succ]
              refine wpPlan_q (v := ?_) rfl rfl ?_ ?_; rotate_left 1; · (intro wS hS; go_simp; try with_reducible rfl)
              simp only [Act.put, List.setIfInBounds_toArray, List.set_cons_zero, List.set_cons_succ]
              refine wpPlan_q (v := ?_) rfl rfl ?_ ?_; rotate_left 1; · (intro wS hS; go_simp; try with_reducible rfl)
              simp only [Act.put, List.setIfInBounds_toArray, List.set_cons_zero, List.set_cons_succ]
              refine wpPlan_q (v := ?_) rfl rfl ?_ ?_; rotate_left 1; · (intro wS hS; go_simp; try with_reducible rfl)
              simp only [Act.put, List.setIfInBounds_toArray, List.set_cons_zero, List.set_cons_succ]
              refine wpPlan_q (v := ?_) rfl rfl ?_ ?_; rotate_left 1; · (intro wS hS; go_simp; try with_reducible rfl)
              simp only [Act.put, List.setIfInBounds_toArray, List.set_cons_zero, List.set_cons_succ]
              refine wpPlan_q (v := ?_) rfl rfl ?_ ?_; rotate_left 1; · (intro wS hS; go_simp; try with_reducible rfl)
              simp only [Act.put, List.setIfInBounds_toArray, List.set_cons_zero, List.set_cons_succ]
              refine wpPlan_q (v := ?_) rfl rfl ?_ ?_; rotate_left 1; · (intro wS hS; go_simp; try with_reducible rfl)
              simp only [Act.put, List.setIfInBounds_toArray, List.set_cons_zero, List.set_cons_succ]
              refine wpPlan_q (v := ?_) rfl rfl ?_ ?_; rotate_left 1; · (intro wS hS; go_simp; try with_reducible rfl)
              simp only [Act.put, List.setIfInBounds_toArray, List.set_cons_zero, List.set_cons_succ]
              refine wpPlan_q (v := .bool true) rfl rfl ?_ ?_; · (intro wS hS; go_simp; try omega)
              simp only [Act.put, List.setIfInBounds_toArray, List.set_cons_zero, List.set_cons_succ]
              refine wpPlan_q (v := ?_) rfl rfl ?_ ?_; rotate_left 1; · (intro wS hS; go_simp; try with_reducible rfl)
              simp only [Act.put, List.setIfInBounds_toArray, List.set_cons_zero, List.set_cons_succ]
              refine wpPlan_g (v := ?_) rfl rfl ?_ ?_; rotate_left 1; · (intro wS hS; go_simp; try with_reducible rfl)
              simp only [Act.put, List.setIfInBounds_toArray, List.set_cons_zero, List.set_cons_succ]
              refine wpPlan_g (v := ?_) rfl rfl ?_ ?_; rotate_left 1; · (intro wS hS; go_simp; try with_reducible rfl)
              simp only [Act.put, List.setIfInBounds_toArray, List.set_cons_zero, List.set_cons_succ]
              refine wpPlan_g (v := ?_) rfl rfl ?_ ?_; rotate_left 1; · (intro wS hS; go_simp; try with_reducible rfl)
              simp only [Act.put, List.setIfInBounds_toArray, List.set_cons_zero, List.set_cons_succ]
              refine wpPlan_g (v := ?_) rfl rfl ?_ ?_; rotate_left 1; · (intro wS hS; go_simp; try with_reducible rfl)
              simp only [Act.put, List.setIfInBounds_toArray, List.set_cons_zero, List.set_cons_succ]
              refine wpPlan_g (v := ?_) rfl rfl ?_ ?_; rotate_left 1; · (intro wS hS; go_simp; try with_reducible rfl)
              simp only [Act.put, List.setIfInBounds_toArray, List.set_cons_zero, List.set_cons_succ]
              refine wpPlan_g (v := .bool true) rfl rfl ?_ ?_; · (intro wS hS; go_simp; try omega)
              simp only [Act.put, List.setIfInBounds_toArray, List.set_cons_zero, List.set_cons_succ]
              refine wpPlan_q (v := ?_) rfl rfl ?_ ?_; rotate_left 1; · (intro wS hS; go_simp; try with_reducible rfl)
              simp only [Act.put, List.setIfInBounds_toArray, List.set_cons_zero, List.set_cons_succ]
              refine wpPlan_q (v := ?_) rfl rfl ?_ ?_; rotate_left 1; · (intro wS hS; go_simp; try with_reducible rfl)
              simp only [Act.put, List.setIfInBounds_toArray, List.set_cons_zero, List.set_cons_succ]
              refine wpPlan_g (v := ?_) rfl rfl ?_ ?_; rotate_left 1; · (intro wS hS; go_simp; try with_reducible rfl)
              simp only [Act.put, List.setIfInBounds_toArray, List.set_cons_zero, List.set_cons_succ]
              refine wpPlan_g (v := ?_) rfl rfl ?_ ?_; rotate_left 1; · (intro wS hS; go_simp; try with_reducible rfl)
              simp only [Act.put, List.setIfInBounds_toArray, List.set_cons_zero, List.set_cons_succ]
              refine wpPlan_g (v := .bool false) rfl rfl ?_ ?_; · (intro wS hS; go_simp; unfold wrap64; omega)
              simp only [Act.put, List.setIfInBounds_toArray, List.set_cons_zero, List.set_cons_succ]
              refine wpPlan_q (v := ?_) rfl rfl ?_ ?_; rotate_left 1; · (intro wS hS; go_simp; try with_reducible rfl)
              simp only [Act.put, List.setIfInBounds_toArray, List.set_cons_zero, List.set_cons_succ]
              refine wpPlan_nil (NoPanic.normal ?_)
              go_wp2
              go_roundg k3
              case measure => omega
              case rel => exact ⟨j + 1, by simp, by have := Hkj.out; omega, H8⟩
            · refine wp_region_plan (fun w' => w'.cell? ⟨b2, j * 2 + 1, none⟩ = some (vi o') ∧ w'.cell? ⟨b2, i * 2 + 1, none⟩ = some (vi o')) [(0, false), (1, false), (2, false), (3, false), (4, false), (5, false), (6, false), (7, false), (8, false), (9, false), (10, false), (11, false), (12, false), (13, false), (14, false), (15, false), (16, false), (17, false), (18, false), (19, false), (20, false), (21, false), (22, false), (23, false)] (by kernel_rfl) (by kernel_rfl) ⟨cj1, ci1⟩ ?_
              refine wpPlan_q (v := ?_) rfl rfl ?_ ?_; rotate_left 1; · (intro wS hS; go_simp; try with_reducible rfl)
              simp only [Act.put, List.setIfInBounds_toArray, List.set_cons_zero, List.set_cons_succ]
              refine wpPlan_q (v := ?_) rfl rfl ?_ ?_; rotate_left 1; · (intro wS hS; go_simp; try with_reducible rfl)
              simp only [Act.put, List.setIfInBounds_toArray, List.set_cons_zero, List.set_cons_succ]
              refine wpPlan_q (v := ?_) rfl rfl ?_ ?_; rotate_left 1; · (intro wS hS; go_simp; try with_reducible rfl)
              simp only [Act.put, List.setIfInBounds_toArray, List.set_cons_zero, List.set_cons_succ]
              refine wpPlan_q (v := ?_) rfl rfl ?_ ?_; rotate_left 1; · (intro wS hS; go_simp; try with_reducible rfl)
              simp only [Act.put, List.setIfInBounds_toArray, List.set_cons_zero, List.set_cons_succ]
              refine wpPlan_q (v := ?_) rfl rfl ?_ ?_; rotate_left 1; · (intro wS hS; go_simp; try with_reducible rfl)
              simp only [Act.put, List.setIfInBounds_toArray, List.set_cons_zero, List.set_cons_succ]
              refine wpPlan_q (v := ?_) rfl rfl ?_ ?_; rotate_left 1; · (intro wS hS; go_simp; try with_reducible rfl)
              simp only [Act.put, List.setIfInBounds_toArray, List.set_cons_zero, List.set_cons_succ]
              refine wpPlan_q (v := ?_) rfl rfl ?_ ?_; rotate_left 1; · (intro wS hS; go_simp; try with_reducible rfl)
              simp only [Act.put, List.setIfInBounds_toArray, List.set_cons_zero, List.set_cons_succ]
              refine wpPlan_q (v := ?_) rfl rfl ?_ ?_; rotate_left 1; · (intro wS hS; go_simp; try with_reducible rfl)
              simp only [Act.put, List.setIfInBounds_toArray, List.set_cons_zero, List.set_cons_succ]
              refine wpPlan_q (v := ?_) rfl rfl ?_ ?_; rotate_left 1; · (intro wS hS; go_simp; try with_reducible rfl)
              simp only [Act.put, List.setIfInBounds_toArray, List.set_cons_zero, List.set_cons_succ]
              refine wpPlan_q (v := ?_) rfl rfl ?_ ?_; rotate_left 1; · (intro wS hS; go_simp; try with_reducible rfl)
              simp only [Act.put, List.setIfInBounds_toArray, List.set_cons_zero, List.set_cons_succ]
              refine wpPlan_q (v := .bool true) rfl rfl ?_ ?_; · (intro wS hS; go_simp; try omega)
              simp only [Act.put, List.setIfInBounds_toArray, List.set_cons_zero, List.set_cons_succ]
              refine wpPlan_q (v := ?_) rfl rfl ?_ ?_; rotate_left 1; · (intro wS hS; go_simp; try with_reducible rfl)
              simp only [Act.put, List.setIfInBounds_toArray, List.set_cons_zero, List.set_cons_succ]
              refine wpPlan_g (v := ?_) rfl rfl ?_ ?_; rotate_left 1; · (intro wS hS; go_simp; try with_reducible rfl)
              simp only [Act.put, List.setIfInBounds_toArray, List.set_cons_zero, List.set_cons_succ]
              refine wpPlan_g (v := ?_) rfl rfl ?_ ?_; rotate_left 1; · (intro wS hS; go_simp; try with_reducible rfl)
              simp only [Act.put, List.setIfInBounds_toArray, List.set_cons_zero, List.set_cons_succ]
              refine wpPlan_g (v := ?_) rfl rfl ?_ ?_; rotate_left 1; · (intro wS hS; go_simp; try with_reducible rfl)
              simp only [Act.put, List.setIfInBounds_toArray, List.set_cons_zero, List.set_cons_succ]
              refine wpPlan_g (v := ?_) rfl rfl ?_ ?_; rotate_left 1; · (intro wS hS; go_simp; try with_reducible rfl)
              simp only [Act.put, List.setIfInBounds_toArray, List.set_cons_zero, List.set_cons_succ]
              refine wpPlan_g (v := ?_) rfl rfl ?_ ?_; rotate_left 1; · (intro wS hS; go_simp; try with_reducible rfl)
              simp only [Act.put, List.setIfInBounds_toArray, List.set_cons_zero, List.set_cons_succ]
              refine wpPlan_g (v := .bool false) rfl rfl ?_ ?_; · (intro wS hS; go_simp; try omega)
              simp only [Act.put, List.setIfInBounds_toArray, List.set_cons_zero, List.set_cons_succ]
              refine wpPlan_q (v := ?_) rfl rfl ?_ ?_; rotate_left 1; · (intro wS hS; go_simp; try with_reducible rfl)
              simp only [Act.put, List.setIfInBounds_toArray, List.set_cons_zero, List.set_cons_succ]
              refine wpPlan_q (v := ?_) rfl rfl ?_ ?_; rotate_left 1; · (intro wS hS; go_simp; try with_reducible rfl)
              simp only [Act.put, List.setIfInBounds_toArray, List.set_cons_zero, List.set_cons_succ]
              refine wpPlan_n rfl rfl ?_
              simp only [Act.put, List.setIfInBounds_toArray, List.set_cons_zero, List.set_cons_succ]
              refine wpPlan_n rfl rfl ?_
              simp only [Act.put, List.setIfInBounds_toArray, List.set_cons_zero, List.set_cons_succ]
              refine wpPlan_n rfl rfl ?_
              simp only [Act.put, List.setIfInBounds_toArray, List.set_cons_zero, List.set_cons_succ]
              refine wpPlan_q (v := ?_) rfl rfl ?_ ?_; rotate_left 1; · (intro wS hS; go_simp; try with_reducible rfl)
              simp only [Act.put, List.setIfInBounds_toArray, List.set_cons_zero, List.set_cons_succ]
              refine wpPlan_nil (NoPanic.normal ?_)
              go_wp2
              go_roundg k3
              case measure => omega
              case rel => exact ⟨j + 1, by simp, by have := Hkj.out; omega, H8⟩
          · refine wp_region_plan (fun w' => w'.cell? ⟨b2, j * 2 + 1, none⟩ = some (vi o') ∧ w'.cell? ⟨b2, i * 2 + 1, none⟩ = some (vi o)) [(0, false), (1, false), (2, false), (3, false), (4, false), (5, false), (6, false), (7, false), (8, false), (9, false), (10, false), (11, false), (12, false), (13, false), (14, false), (15, false), (16, false), (17, false), (18, false), (19, false), (20, false), (21, false), (22, false), (23, false)] (by kernel_rfl) (by kernel_rfl) ⟨cj1, ci1⟩ ?_
            refine wpPlan_q (v := ?_) rfl rfl ?_ ?_; rotate_left 1; · (intro wS hS; go_simp; try with_reducible rfl)
            simp only [Act.put, List.setIfInBounds_toArray, List.set_cons_zero, List.set_cons_succ]
            refine wpPlan_q (v := ?_) rfl rfl ?_ ?_; rotate_left 1; · (intro wS hS; go_simp; try with_reducible rfl)
            simp only [Act.put, List.setIfInBounds_toArray, List.set_cons_zero, List.set_cons_succ]
            refine wpPlan_q (v := ?_) rfl rfl ?_ ?_; rotate_left 1; · (intro wS hS; go_simp; try with_reducible rfl)
            simp only [Act.put, List.setIfInBounds_toArray, List.set_cons_zero, List.set_cons_succ]
            refine wpPlan_q (v := ?_) rfl rfl ?_ ?_; rotate_left 1; · (intro wS hS; go_simp; try with_reducible rfl)
            simp only [Act.put, List.setIfInBounds_toArray, List.set_cons_zero, List.set_cons_succ]
            refine wpPlan_q (v := ?_) rfl rfl ?_ ?_; rotate_left 1; · (intro wS hS; go_simp; try with_reducible rfl)
            simp only [Act.put, List.setIfInBounds_toArray, List.set_cons_zero, List.set_cons_succ]
            refine wpPlan_q (v := ?_) rfl rfl ?_ ?_; rotate_left 1; · (intro wS hS; go_simp; try with_reducible rfl)
            simp only [Act.put, List.setIfInBounds_toArray, List.set_cons_zero, List.set_cons_succ]
            refine wpPlan_q (v := ?_) rfl rfl ?_ ?_; rotate_left 1; · (intro wS hS; go_simp; try with_reducible rfl)
            simp only [Act.put, List.setIfInBounds_toArray, List.set_cons_zero, List.set_cons_succ]
            refine wpPlan_q (v := ?_) rfl rfl ?_ ?_; rotate_left 1; · (intro wS hS; go_simp; try with_reducible rfl)
            simp only [Act.put, List.setIfInBounds_toArray, List.set_cons_zero, List.set_cons_succ]
            refine wpPlan_q (v := ?_) rfl rfl ?_ ?_; rotate_left 1; · (intro wS hS; go_simp; try with_reducible rfl)
            simp only [Act.put, List.setIfInBounds_toArray, List.set_cons_zero, List.set_cons_succ]
            refine wpPlan_q (v := ?_) rfl rfl ?_ ?_; rotate_left 1; · (intro wS hS; go_simp; try with_reducible rfl)
            simp only [Act.put, List.setIfInBounds_toArray, List.set_cons_zero, List.set_cons_succ]
            refine wpPlan_q (v := .bool false) rfl rfl ?_ ?_; · (intro wS hS; go_simp; try omega)
            simp only [Act.put, List.setIfInBounds_toArray, List.set_cons_zero, List.set_cons_succ]
            refine wpPlan_q (v := ?_) rfl rfl ?_ ?_; rotate_left 1; · (intro wS hS; go_simp; try with_reducible rfl)
            simp only [Act.put, List.setIfInBounds_toArray, List.set_cons_zero, List.set_cons_succ]
            refine wpPlan_n rfl rfl ?_
            simp only [Act.put, List.setIfInBounds_toArray, List.set_cons_zero, List.set_cons_succ]
            refine wpPlan_n rfl rfl ?_
            simp only [Act.put, List.setIfInBounds_toArray, List.set_cons_zero, List.set_cons_succ]
            refine wpPlan_n rfl rfl ?_
            simp only [Act.put, List.setIfInBounds_toArray, List.set_cons_zero, List.set_cons_succ]
            refine wpPlan_n rfl rfl ?_
            simp only [Act.put, List.setIfInBounds_toArray, List.set_cons_zero, List.set_cons_succ]
            refine wpPlan_n rfl rfl ?_
            simp only [Act.put, List.setIfInBounds_toArray, List.set_cons_zero, List.set_cons_succ]
            refine wpPlan_n rfl rfl ?_
            simp only [Act.put, List.setIfInBounds_toArray, List.set_cons_zero, List.set_cons_succ]
            refine wpPlan_q (v := ?_) rfl rfl ?_ ?_; rotate_left 1; · (intro wS hS; go_simp; try with_reducible rfl)
            simp only [Act.put, List.setIfInBounds_toArray, List.set_cons_zero, List.set_cons_succ]
            refine wpPlan_q (v := ?_) rfl rfl ?_ ?_; rotate_left 1; · (intro wS hS; go_simp; try with_reducible rfl)
            simp only [Act.put, List.setIfInBounds_toArray, List.set_cons_zero, List.set_cons_succ]
            refine wpPlan_n rfl rfl ?_
            simp only [Act.put, List.setIfInBounds_toArray, List.set_cons_zero, List.set_cons_succ]
            refine wpPlan_n rfl rfl ?_
            simp only [Act.put, List.setIfInBounds_toArray, List.set_cons_zero, List.set_cons_succ]
            refine wpPlan_n rfl rfl ?_
            simp only [Act.put, List.setIfInBounds_toArray, List.set_cons_zero, List.set_cons_succ]
            refine wpPlan_q (v := ?_) rfl rfl ?_ ?_; rotate_left 1; · (intro wS hS; go_simp; try with_reducible rfl)
            simp only [Act.put, List.setIfInBounds_toArray, List.set_cons_zero, List.set_cons_succ]
            refine wpPlan_nil (NoPanic.normal ?_)
            go_wp2
            go_roundg k3
            case measure => omega
            case rel => exact ⟨j + 1, by simp, by have := Hkj.out; omega, H8⟩
end
end Go.Proofs.Ytglelfceogpbpaa
