/- law 04's BuddyWhole: the loop that gives all back. -/
import Derived.Test.YtglelfceogpbpaaWholeA
namespace Go.Proofs.Ytglelfceogpbpaa
open Go.RowKit

section
variable {z : World}
set_option maxRecDepth 100000 in
set_option maxHeartbeats 2000000 in
theorem whole_r19 {B : Bd} {M : Mem} {Fr : Nat → Prop} {r : Nat} (I : Inv B M Fr) (A0 : All B M Fr r) {F : List Chunk} {R : CRow} {S : List (Int × Int)} {b rk j m bp : Nat} (hbp : B.p = bp) (hb : R.b = some b) (hRn : R.n = S.length) (hRx : R.xs = S.flatMap encB) (hpp : S.Perm (B.ents.map fo)) (hj : j < R.n) (hm : m < 60)
    (Q : Exit → Act → World → Prop) (w : World) (hs : Sat z w (B.hp :: M.hp :: R.hp 34 :: F))
    (t0 t1 t2 t3 t4 t5 t6 t7 t8 t10 t11 t12 t13 t17 t18 t19 t20 t21 t22 t23 t24 t25 t26 t27 t28 t29 t30 t31 t32 t33 t34 t35 t36 t37 t38 t39 t40 t41 t42 t43 t44 t45 t46 t47 t48 t49 t50 t51 t52 t53 t54 t55 t56 t57 t58 t59 t60 t61 t62 t63 t64 t65 t66 t67 t68 t69 t70 t71 t72 t73 t74 t75 t76 t77 t78 t79 t80 t81 t82 t83 t84 t85 t86 t87 t88 t89 t90 t91 t92 t93 t94 t95 t96 t97 t98 t99 t100 t101 t102 t103 t104 t105 t106 t107 t108 t109 t110 t111 t112 t113 t114 t115 t116 t117 t118 t119 t120 t121 t122 t123 t124 t125 t126 t127 t128 t129 t130 t131 t132 t133 t134 t135 t136 t137 t138 t139 t140 t141 t142 t143 t144 t145 t146 t147 t148 t149 t150 t151 t152 t153 t154 t155 t156 t157 t158 t159 t160 t161 t162 t163 t164 t165 t166 t167 t168 t169 t170 t171 t172 t173 t174 t175 t176 t177 t178 t179 t180 t181 t182 t183 t184 t185 t186 t187 : Value)
    (h : ∀ (u113 u114 u115 u116 u117 u118 u119 u120 u121 u122 u123 u124 u125 u126 u127 u128 u129 u130 u131 u132 u133 u134 u135 u136 u137 u138 u139 u140 u141 u142 u143 : Value) (w' : World) (B' : Bd) (M' : Mem) (Fr' : Nat → Prop), B'.p = bp → M'.p = M.p → M'.n = M.n → B'.ents.length + 1 = B.ents.length → Inv B' M' Fr' → All B' M' Fr' r → Sat z w' (B'.hp :: M'.hp :: R.hp 34 :: F) →
      Q .normal ⟨List.toArray (t0 :: t1 :: t2 :: t3 :: t4 :: t5 :: t6 :: t7 :: t8 :: .pointer (some ⟨bp, 0, none⟩) :: t10 :: t11 :: t12 :: t13 :: vi m :: .slice (some ⟨b, 0, none⟩) R.n rk :: vi j :: t17 :: t18 :: t19 :: t20 :: t21 :: t22 :: t23 :: t24 :: t25 :: t26 :: t27 :: t28 :: t29 :: t30 :: t31 :: t32 :: t33 :: t34 :: t35 :: t36 :: t37 :: t38 :: t39 :: t40 :: t41 :: t42 :: t43 :: t44 :: t45 :: t46 :: t47 :: t48 :: t49 :: t50 :: t51 :: t52 :: t53 :: t54 :: t55 :: t56 :: t57 :: t58 :: t59 :: t60 :: t61 :: t62 :: t63 :: t64 :: t65 :: t66 :: t67 :: t68 :: t69 :: t70 :: t71 :: t72 :: t73 :: t74 :: t75 :: t76 :: t77 :: t78 :: t79 :: t80 :: t81 :: t82 :: t83 :: t84 :: t85 :: t86 :: t87 :: t88 :: t89 :: t90 :: t91 :: t92 :: t93 :: t94 :: t95 :: t96 :: t97 :: t98 :: t99 :: t100 :: t101 :: t102 :: t103 :: t104 :: t105 :: t106 :: t107 :: t108 :: t109 :: t110 :: t111 :: t112 :: u113 :: u114 :: u115 :: u116 :: u117 :: u118 :: u119 :: u120 :: u121 :: u122 :: u123 :: u124 :: u125 :: u126 :: u127 :: u128 :: u129 :: u130 :: u131 :: u132 :: u133 :: u134 :: u135 :: u136 :: u137 :: u138 :: u139 :: u140 :: u141 :: u142 :: u143 :: .bool false :: t145 :: t146 :: t147 :: t148 :: t149 :: t150 :: t151 :: t152 :: t153 :: t154 :: t155 :: t156 :: t157 :: t158 :: t159 :: t160 :: t161 :: t162 :: t163 :: t164 :: t165 :: t166 :: t167 :: t168 :: t169 :: t170 :: t171 :: t172 :: t173 :: t174 :: t175 :: t176 :: t177 :: t178 :: t179 :: t180 :: t181 :: t182 :: t183 :: t184 :: t185 :: t186 :: t187 :: []), []⟩ w') :
    Code.wp Try.prog (regOf Try.f4 19) Q ⟨List.toArray (t0 :: t1 :: t2 :: t3 :: t4 :: t5 :: t6 :: t7 :: t8 :: .pointer (some ⟨bp, 0, none⟩) :: t10 :: t11 :: t12 :: t13 :: vi m :: .slice (some ⟨b, 0, none⟩) R.n rk :: vi j :: t17 :: t18 :: t19 :: t20 :: t21 :: t22 :: t23 :: t24 :: t25 :: t26 :: t27 :: t28 :: t29 :: t30 :: t31 :: t32 :: t33 :: t34 :: t35 :: t36 :: t37 :: t38 :: t39 :: t40 :: t41 :: t42 :: t43 :: t44 :: t45 :: t46 :: t47 :: t48 :: t49 :: t50 :: t51 :: t52 :: t53 :: t54 :: t55 :: t56 :: t57 :: t58 :: t59 :: t60 :: t61 :: t62 :: t63 :: t64 :: t65 :: t66 :: t67 :: t68 :: t69 :: t70 :: t71 :: t72 :: t73 :: t74 :: t75 :: t76 :: t77 :: t78 :: t79 :: t80 :: t81 :: t82 :: t83 :: t84 :: t85 :: t86 :: t87 :: t88 :: t89 :: t90 :: t91 :: t92 :: t93 :: t94 :: t95 :: t96 :: t97 :: t98 :: t99 :: t100 :: t101 :: t102 :: t103 :: t104 :: t105 :: t106 :: t107 :: t108 :: t109 :: t110 :: t111 :: t112 :: t113 :: t114 :: t115 :: t116 :: t117 :: t118 :: t119 :: t120 :: t121 :: t122 :: t123 :: t124 :: t125 :: t126 :: t127 :: t128 :: t129 :: t130 :: t131 :: t132 :: t133 :: t134 :: t135 :: t136 :: t137 :: t138 :: t139 :: t140 :: t141 :: t142 :: t143 :: t144 :: t145 :: t146 :: t147 :: t148 :: t149 :: t150 :: t151 :: t152 :: t153 :: t154 :: t155 :: t156 :: t157 :: t158 :: t159 :: t160 :: t161 :: t162 :: t163 :: t164 :: t165 :: t166 :: t167 :: t168 :: t169 :: t170 :: t171 :: t172 :: t173 :: t174 :: t175 :: t176 :: t177 :: t178 :: t179 :: t180 :: t181 :: t182 :: t183 :: t184 :: t185 :: t186 :: t187 :: []), []⟩ w := by
  conv => arg 2; whnf
  obtain ⟨y, hy⟩ : ∃ y, S[j]? = some y := ⟨_, List.getElem?_eq_getElem (by rw [← hRn]; exact hj)⟩
  have hmem := hpp.mem_iff.1 (List.mem_of_getElem? hy)
  have hcell : ∀ {w : World} {cs : List Chunk}, Sat z w (R.hp 34 :: cs) → w.cell? ⟨b, j * 2, none⟩ = some (vi y.1) ∧ w.cell? ⟨b, j * 2 + 1, none⟩ = some (vi y.2) := fun hw => CRow.cellB hw hb hRx hy
  obtain ⟨c0, c1⟩ := hcell (Sat.sel [_, _, _] 3 [2, 0, 1] hs.drew rfl (by decide))
  have Hc : Hid (∀ {w : World} {cs : List Chunk}, Sat z w (R.hp 34 :: cs) → w.cell? ⟨b, j * 2, none⟩ = some (vi y.1) ∧ w.cell? ⟨b, j * 2 + 1, none⟩ = some (vi y.2)) := Lib.hid hcell
  have hfi := free_inv hs.drew I y.1 y.2
  rw [hbp] at hfi
  have Hfi := Lib.hid hfi
  have H := Lib.hid h
  clear hs h hcell hy hRx hpp hRn hfi hbp
  refine wp_region_plan (fun w' => w'.cell? ⟨b, j * 2, none⟩ = some (vi y.1) ∧ w'.cell? ⟨b, j * 2 + 1, none⟩ = some (vi y.2)) [(0, false), (1, false), (2, false), (3, false), (4, false), (5, false), (6, false), (7, false), (8, false), (9, false), (10, false), (11, true), (12, false), (13, false), (14, false), (15, false), (16, false), (17, false), (18, false), (19, false), (20, false), (21, false), (22, false), (23, false), (24, false), (25, true), (26, false), (27, false), (28, false), (29, false), (30, false), (31, false)] (by kernel_rfl) (by kernel_rfl) ⟨c0, c1⟩ ?_
  clear c0 c1
  refine wpPlan_q (v := ?_) rfl rfl ?_ ?_; rotate_left 1; · (intro wS hS; go_simp; try with_reducible rfl)
  simp only [Act.put, List.setIfInBounds_toArray, List.set_cons_zero, List.set_cons_succ]
  refine wpPlan_q (v := ?_) rfl rfl ?_ ?_; rotate_left 1; · (intro wS hS; go_simp; try with_reducible rfl)
  simp only [Act.put, List.setIfInBounds_toArray, List.set_cons_zero, List.set_cons_succ]
  refine wpPlan_q (v := ?_) rfl rfl ?_ ?_; rotate_left 1; · (intro wS hS; go_simp; try with_reducible rfl)
  simp only [Act.put, List.setIfInBounds_toArray, List.set_cons_zero, List.set_cons_succ]
  refine wpPlan_q (v := ?_) rfl rfl ?_ ?_; rotate_left 1; · (intro wS hS; go_simp; try with_reducible rfl)
  simp only [Act.put, List.setIfInBounds_toArray, List.set_cons_zero, List.set_cons_succ]
  refine wpPlan_q (v := ?_) rfl rfl ?_ ?_; rotate_left 1; · (intro wS hS; go_simp; try with_reducible rfl)
  simp only [Act.put, List.setIfInBounds_toArray, List.set_cons_zero, List.set_cons_succ]
  refine wpPlan_q (v := ?_) rfl rfl ?_ ?_; rotate_left 1; · (intro wS hS; go_simp; try with_reducible rfl)
  simp only [Act.put, List.setIfInBounds_toArray, List.set_cons_zero, List.set_cons_succ]
  refine wpPlan_q (v := ?_) rfl rfl ?_ ?_; rotate_left 1; · (intro wS hS; go_simp; try with_reducible rfl)
  simp only [Act.put, List.setIfInBounds_toArray, List.set_cons_zero, List.set_cons_succ]
  refine wpPlan_q (v := ?_) rfl rfl ?_ ?_; rotate_left 1; · (intro wS hS; go_simp; try with_reducible rfl)
  simp only [Act.put, List.setIfInBounds_toArray, List.set_cons_zero, List.set_cons_succ]
  refine wpPlan_q (v := ?_) rfl rfl ?_ ?_; rotate_left 1; · (intro wS hS; go_simp; try with_reducible rfl)
  simp only [Act.put, List.setIfInBounds_toArray, List.set_cons_zero, List.set_cons_succ]
  refine wpPlan_q (v := ?_) rfl rfl ?_ ?_; rotate_left 1; · (intro wS hS; go_simp; try with_reducible rfl)
  simp only [Act.put, List.setIfInBounds_toArray, List.set_cons_zero, List.set_cons_succ]
  refine wpPlan_q (v := ?_) rfl rfl ?_ ?_; rotate_left 1; · (intro wS hS; go_simp; try with_reducible rfl)
  simp only [Act.put, List.setIfInBounds_toArray, List.set_cons_zero, List.set_cons_succ]
  refine wpPlan_e rfl rfl (fun K hK => ?_)
  go_wp2_with (go_at_call 9; refine Hfi.out.mono ?_; rintro e w4 ⟨B2, M2, Fr2, c2, rfl, hF, I2, p1, p2, p3, h4⟩)
  obtain ⟨rfl, hlen⟩ := hF.given hmem
  have A2 := A0.free I hF
  have hfi2 := free_inv h4 I2 y.1 y.2
  rw [p1] at hfi2
  have Hfi2 := Lib.hid hfi2
  refine hK _ _ (Hc.out (Sat.sel [_, _, _] 3 [2, 0, 1] h4 rfl (by decide))) ?_
  have HF := Lib.hid hF
  have HP := Lib.hid (And.intro p1 (And.intro p2 (And.intro p3 hlen)))
  clear hK K hF p1 p2 p3 hlen h4 Hfi hfi2
  refine wpPlan_q (v := ?_) rfl rfl ?_ ?_; rotate_left 1; · (intro wS hS; go_simp; try with_reducible rfl)
  simp only [Act.put, List.setIfInBounds_toArray, List.set_cons_zero, List.set_cons_succ]
  refine wpPlan_q (v := ?_) rfl rfl ?_ ?_; rotate_left 1; · (intro wS hS; go_simp; try with_reducible rfl)
  simp only [Act.put, List.setIfInBounds_toArray, List.set_cons_zero, List.set_cons_succ]
  refine wpPlan_g (v := ?_) rfl rfl ?_ ?_; rotate_left 1; · (intro wS hS; go_simp; try with_reducible rfl)
  simp only [Act.put, List.setIfInBounds_toArray, List.set_cons_zero, List.set_cons_succ]
  refine wpPlan_g (v := ?_) rfl rfl ?_ ?_; rotate_left 1; · (intro wS hS; go_simp; try with_reducible rfl)
  simp only [Act.put, List.setIfInBounds_toArray, List.set_cons_zero, List.set_cons_succ]
  refine wpPlan_g (v := ?_) rfl rfl ?_ ?_; rotate_left 1; · (intro wS hS; go_simp; try with_reducible rfl)
  simp only [Act.put, List.setIfInBounds_toArray, List.set_cons_zero, List.set_cons_succ]
  refine wpPlan_g (v := ?_) rfl rfl ?_ ?_; rotate_left 1; · (intro wS hS; go_simp; try with_reducible rfl)
  simp only [Act.put, List.setIfInBounds_toArray, List.set_cons_zero, List.set_cons_succ]
  refine wpPlan_g (v := ?_) rfl rfl ?_ ?_; rotate_left 1; · (intro wS hS; go_simp; try with_reducible rfl)
  simp only [Act.put, List.setIfInBounds_toArray, List.set_cons_zero, List.set_cons_succ]
  refine wpPlan_g (v := ?_) rfl rfl ?_ ?_; rotate_left 1; · (intro wS hS; go_simp; try with_reducible rfl)
  simp only [Act.put, List.setIfInBounds_toArray, List.set_cons_zero, List.set_cons_succ]
  refine wpPlan_g (v := ?_) rfl rfl ?_ ?_; rotate_left 1; · (intro wS hS; go_simp; try with_reducible rfl)
  simp only [Act.put, List.setIfInBounds_toArray, List.set_cons_zero, List.set_cons_succ]
  refine wpPlan_g (v := ?_) rfl rfl ?_ ?_; rotate_left 1; · (intro wS hS; go_simp; try with_reducible rfl)
  simp only [Act.put, List.setIfInBounds_toArray, List.set_cons_zero, List.set_cons_succ]
  refine wpPlan_g (v := ?_) rfl rfl ?_ ?_; rotate_left 1; · (intro wS hS; go_simp; try with_reducible rfl)
  simp only [Act.put, List.setIfInBounds_toArray, List.set_cons_zero, List.set_cons_succ]
  refine wpPlan_g (v := ?_) rfl rfl ?_ ?_; rotate_left 1; · (intro wS hS; go_simp; try with_reducible rfl)
  simp only [Act.put, List.setIfInBounds_toArray, List.set_cons_zero, List.set_cons_succ]
  refine wpPlan_g (v := ?_) rfl rfl ?_ ?_; rotate_left 1; · (intro wS hS; go_simp; try with_reducible rfl)
  simp only [Act.put, List.setIfInBounds_toArray, List.set_cons_zero, List.set_cons_succ]
  refine wpPlan_eg rfl (fun K hK => ?_)
  rw [if_pos (by rfl)]
  go_wp2_with (go_at_call 9; refine Hfi2.out.mono ?_; rintro e w5 ⟨B3, M3, Fr3, c3, rfl, hF3, I3, p1, p2, p3, h5⟩)
  obtain ⟨rfl, rfl, rfl⟩ := HF.out.again I hF3
  refine hK _ _ (Hc.out (Sat.sel [_, _, _] 3 [2, 0, 1] h5 rfl (by decide))) ?_
  have H5 := Lib.hid h5
  clear hK K hF3 p1 p2 p3 h5 Hfi2 I3
  refine wpPlan_g (v := ?_) rfl rfl ?_ ?_; rotate_left 1; · (intro wS hS; go_simp; try with_reducible rfl)
  simp only [Act.put, List.setIfInBounds_toArray, List.set_cons_zero, List.set_cons_succ]
  refine wpPlan_q (v := ?_) rfl rfl ?_ ?_; rotate_left 1; · (intro wS hS; go_simp; try with_reducible rfl)
  simp only [Act.put, List.setIfInBounds_toArray, List.set_cons_zero, List.set_cons_succ]
  refine wpPlan_q (v := ?_) rfl rfl ?_ ?_; rotate_left 1; · (intro wS hS; go_simp; try with_reducible rfl)
  simp only [Act.put, List.setIfInBounds_toArray, List.set_cons_zero, List.set_cons_succ]
  refine wpPlan_g (v := ?_) rfl rfl ?_ ?_; rotate_left 1; · (intro wS hS; go_simp; try with_reducible rfl)
  simp only [Act.put, List.setIfInBounds_toArray, List.set_cons_zero, List.set_cons_succ]
  refine wpPlan_g (v := ?_) rfl rfl ?_ ?_; rotate_left 1; · (intro wS hS; go_simp; try with_reducible rfl)
  simp only [Act.put, List.setIfInBounds_toArray, List.set_cons_zero, List.set_cons_succ]
  refine wpPlan_q (v := ?_) rfl rfl ?_ ?_; rotate_left 1; · (intro wS hS; go_simp; try with_reducible rfl)
  simp only [Act.put, List.setIfInBounds_toArray, List.set_cons_zero, List.set_cons_succ]
  refine wpPlan_nil (NoPanic.normal ?_)
  rw [show (decide ((300 : Int) < (m : Int))) = false by simp; omega]
  exact H.out _ _ _ _ _ _ _ _ _ _ _ _ _ _ _ _ _ _ _ _ _ _ _ _ _ _ _ _ _ _ _ _ _ _ _ HP.out.1 HP.out.2.1 HP.out.2.2.1 HP.out.2.2.2 I2 A2 H5.out

set_option maxRecDepth 100000 in
set_option maxHeartbeats 4000000 in
theorem whole_b {B : Bd} {M : Mem} {Fr : Nat → Prop} {r : Nat} (I : Inv B M Fr) (A0 : All B M Fr r) (he : B.ents.length ≤ 60) {X : Chunk} {A : Option Addr} {C : Nat} {l : List OpR} (hv : OpsAt z (.slice A l.length C) l) (h60 : l.length ≤ 60)
    (Q : Exit → Act → World → Prop) (w : World) (hs : Sat z w [B.hp, M.hp, X, whole z])
    (t0 t1 t3 t4 t5 t6 t7 t8 t10 t11 t12 t13 t15 t16 t17 t18 t19 t20 t21 t22 t23 t24 t25 t26 t27 t28 t29 t30 t31 t32 t33 t34 t35 t36 t37 t38 t39 t40 t41 t42 t43 t44 t45 t46 t47 t48 t49 t50 t51 t52 t53 t54 t55 t56 t57 t58 t59 t60 t61 t62 t63 t64 t65 t66 t67 t68 t69 t70 t71 t72 t73 t74 t75 t76 t77 t78 t79 t80 t81 t82 t83 t84 t85 t86 t87 t88 t89 t90 t91 t92 t93 t94 t95 t96 t97 t98 t99 t100 t101 t102 t103 t104 t105 t106 t107 t108 t109 t110 t111 t112 t113 t114 t115 t116 t117 t118 t119 t120 t121 t122 t123 t124 t125 t126 t127 t128 t129 t130 t131 t132 t133 t134 t135 t136 t137 t138 t139 t140 t141 t142 t143 t144 t145 t146 t147 t148 t149 t150 t151 t152 t153 t154 t155 t156 t157 t158 t159 t160 t161 t162 t163 t164 t165 t166 t167 t168 t169 t170 t171 t172 t173 t174 t175 t176 t177 t178 t179 t180 t181 t182 t183 t184 t185 t186 t187 : Value)
    (h : ∀ (u6 u14 u15 u16 u85 u86 u87 u88 u89 u90 u91 u92 u93 u94 u95 u96 u97 u98 u99 u100 u101 u102 u103 u104 u105 u106 u107 u108 u109 u110 u111 u112 u113 u114 u115 u116 u117 u118 u119 u120 u121 u122 u123 u124 u125 u126 u127 u128 u129 u130 u131 u132 u133 u134 u135 u136 u137 u138 u139 u140 u141 u142 u143 u144 : Value) (w' : World) (B' : Bd) (M' : Mem) (Fr' : Nat → Prop), B'.p = B.p → M'.p = M.p → M'.n = M.n → B'.ents = [] → Inv B' M' Fr' → All B' M' Fr' r → Sat z w' [B'.hp, M'.hp, X, whole z] →
      Q (.exit 2) ⟨List.toArray (t0 :: t1 :: .slice A l.length C :: t3 :: t4 :: t5 :: u6 :: t7 :: t8 :: .pointer (some ⟨B.p, 0, none⟩) :: t10 :: t11 :: t12 :: t13 :: u14 :: u15 :: u16 :: t17 :: t18 :: t19 :: t20 :: t21 :: t22 :: t23 :: t24 :: t25 :: t26 :: t27 :: t28 :: t29 :: t30 :: t31 :: t32 :: t33 :: t34 :: t35 :: t36 :: t37 :: t38 :: t39 :: t40 :: t41 :: t42 :: t43 :: t44 :: t45 :: t46 :: t47 :: t48 :: t49 :: t50 :: t51 :: t52 :: t53 :: t54 :: t55 :: t56 :: t57 :: t58 :: t59 :: t60 :: t61 :: t62 :: t63 :: t64 :: t65 :: t66 :: t67 :: t68 :: t69 :: t70 :: t71 :: t72 :: t73 :: t74 :: t75 :: t76 :: t77 :: t78 :: t79 :: t80 :: t81 :: t82 :: t83 :: t84 :: u85 :: u86 :: u87 :: u88 :: u89 :: u90 :: u91 :: u92 :: u93 :: u94 :: u95 :: u96 :: u97 :: u98 :: u99 :: u100 :: u101 :: u102 :: u103 :: u104 :: u105 :: u106 :: u107 :: u108 :: u109 :: u110 :: u111 :: u112 :: u113 :: u114 :: u115 :: u116 :: u117 :: u118 :: u119 :: u120 :: u121 :: u122 :: u123 :: u124 :: u125 :: u126 :: u127 :: u128 :: u129 :: u130 :: u131 :: u132 :: u133 :: u134 :: u135 :: u136 :: u137 :: u138 :: u139 :: u140 :: u141 :: u142 :: u143 :: u144 :: t145 :: t146 :: t147 :: t148 :: t149 :: t150 :: t151 :: t152 :: t153 :: t154 :: t155 :: t156 :: t157 :: t158 :: t159 :: t160 :: t161 :: t162 :: t163 :: t164 :: t165 :: t166 :: t167 :: t168 :: t169 :: t170 :: t171 :: t172 :: t173 :: t174 :: t175 :: t176 :: t177 :: t178 :: t179 :: t180 :: t181 :: t182 :: t183 :: t184 :: t185 :: t186 :: t187 :: []), []⟩ w') :
    Code.wp Try.prog (loopOf Try.f4 2) Q ⟨List.toArray (t0 :: t1 :: .slice A l.length C :: t3 :: t4 :: t5 :: t6 :: t7 :: t8 :: .pointer (some ⟨B.p, 0, none⟩) :: t10 :: t11 :: t12 :: t13 :: vi 0 :: t15 :: t16 :: t17 :: t18 :: t19 :: t20 :: t21 :: t22 :: t23 :: t24 :: t25 :: t26 :: t27 :: t28 :: t29 :: t30 :: t31 :: t32 :: t33 :: t34 :: t35 :: t36 :: t37 :: t38 :: t39 :: t40 :: t41 :: t42 :: t43 :: t44 :: t45 :: t46 :: t47 :: t48 :: t49 :: t50 :: t51 :: t52 :: t53 :: t54 :: t55 :: t56 :: t57 :: t58 :: t59 :: t60 :: t61 :: t62 :: t63 :: t64 :: t65 :: t66 :: t67 :: t68 :: t69 :: t70 :: t71 :: t72 :: t73 :: t74 :: t75 :: t76 :: t77 :: t78 :: t79 :: t80 :: t81 :: t82 :: t83 :: t84 :: t85 :: t86 :: t87 :: t88 :: t89 :: t90 :: t91 :: t92 :: t93 :: t94 :: t95 :: t96 :: t97 :: t98 :: t99 :: t100 :: t101 :: t102 :: t103 :: t104 :: t105 :: t106 :: t107 :: t108 :: t109 :: t110 :: t111 :: t112 :: t113 :: t114 :: t115 :: t116 :: t117 :: t118 :: t119 :: t120 :: t121 :: t122 :: t123 :: t124 :: t125 :: t126 :: t127 :: t128 :: t129 :: t130 :: t131 :: t132 :: t133 :: t134 :: t135 :: t136 :: t137 :: t138 :: t139 :: t140 :: t141 :: t142 :: t143 :: t144 :: t145 :: t146 :: t147 :: t148 :: t149 :: t150 :: t151 :: t152 :: t153 :: t154 :: t155 :: t156 :: t157 :: t158 :: t159 :: t160 :: t161 :: t162 :: t163 :: t164 :: t165 :: t166 :: t167 :: t168 :: t169 :: t170 :: t171 :: t172 :: t173 :: t174 :: t175 :: t176 :: t177 :: t178 :: t179 :: t180 :: t181 :: t182 :: t183 :: t184 :: t185 :: t186 :: t187 :: []), []⟩ w := by
  conv => arg 2; whnf
  have H := Lib.hid h
  have HS := Lib.hid hs
  have He := Lib.hid he
  clear h hs he
  go_loopg [14] B.ents.length (fun k i wr => ∃ (m : Nat) (B' : Bd) (M' : Mem) (Fr' : Nat → Prop), i = vi m ∧ Hid (k = B'.ents.length) ∧ k + m ≤ 60 ∧ B'.p = B.p ∧ M'.p = M.p ∧ Hid (M'.n = M.n) ∧ Inv B' M' Fr' ∧ All B' M' Fr' r ∧
    Hid (Sat z wr [B'.hp, M'.hp, X, whole z]))
  case atStart => exact ⟨0, B, M, Fr, rfl, Lib.hid rfl, by have := He.out; omega, rfl, rfl, Lib.hid rfl, I, A0, HS⟩
  case round =>
    clear HS I A0
    obtain ⟨m, B', M', Fr', rfl, Hk, hkm, hBp, hMp, Hn, I, A1, H1⟩ := hrel
    have hmp := hMp
    have hheld := held_ok H1.out I.ok I.st (by have := Hk.out; omega)
    rw [hBp] at hheld
    have Hh := Lib.hid hheld
    clear hheld
    cases gk with
    | zero =>
      have HBp := Lib.hid hBp
      have HMp := Lib.hid hMp
      clear hBp hMp hmp
      go_wp2_with (go_at_call 8
                   refine Hh.out.mono ?_
                   rintro e w3 ⟨R, S, rfl, hR, hRn, hRx, hp, hso, h3⟩
                   obtain ⟨ra, rk, hvv⟩ := CRow.val_len R hR
                   have hR0 : R.n = 0 := by rw [hRn, hp.length_eq, List.length_map]; exact Hk.out.symm
                   rw [hvv, hR0]
                   have H3 := Lib.hid h3
                   clear Hh H1 hRn hRx hp hso h3 hvv hR0)
      exact H.out _ _ _ _ _ _ _ _ _ _ _ _ _ _ _ _ _ _ _ _ _ _ _ _ _ _ _ _ _ _ _ _ _ _ _ _ _ _ _ _ _ _ _ _ _ _ _ _ _ _ _ _ _ _ _ _ _ _ _ _ _ _ _ _ _ B' M' Fr' HBp.out HMp.out Hn.out (List.length_eq_zero_iff.1 Hk.out.symm) I A1 H3.out.drop
    | succ k =>
      have HBp := Lib.hid hBp
      have HMp := Lib.hid hMp
      have Hkm := Lib.hid hkm
      have hm60 : m < 60 := by omega
      clear hMp hkm
      by_cases hml : m < l.length
      · obtain ⟨a, x, rfl, hx, hcs⟩ := ops_cells hv hml
        have Hcs : Hid (∀ {w : World} {cs : List Chunk}, Sat z w cs → whole z ∈ cs → w.cell? (a.add (m * 4)) = some (vi x.d) ∧ w.cell? ⟨(a.add (m * 4)).block, (a.add (m * 4)).off + 1, none⟩ = some (vi x.n) ∧
          w.cell? ⟨(a.add (m * 4)).block, (a.add (m * 4)).off + 2, none⟩ = some (vi x.o) ∧ w.cell? ⟨(a.add (m * 4)).block, (a.add (m * 4)).off + 3, none⟩ = some (vu x.w)) := Lib.hid hcs
        clear hx hcs hv
        by_cases hn0 : 0 ≤ x.n
        · go_wp2_with (first
          | (go_at_call 8
             refine Hh.out.mono ?_
             rintro e w3 ⟨R1, S1, rfl, hR1, hRn1, _, hp1, _, h3⟩
             obtain ⟨ra1, rk1, hvv1⟩ := CRow.val_len R1 hR1
             have hpos1 : 0 < R1.n := by rw [hRn1, hp1.length_eq, List.length_map]; have := Hk.out; omega
             rw [hvv1]
             have hh2 := held_ok h3.drop I.ok I.st (by have := Hk.out; have := Hkm.out; omega)
             rw [hBp] at hh2
             have Hh2 := Lib.hid hh2
             clear Hh H1 hRn1 hp1 h3 hvv1 hh2)
          | (go_at_call 8
             refine Hh2.out.mono ?_
             rintro e w5 ⟨R, S, rfl, hR, hRn, hRx, hp, _, h5⟩
             obtain ⟨ra, rk, hvv⟩ := CRow.val_len R hR
             have hpos : 0 < R.n := by rw [hRn, hp.length_eq, List.length_map]; have := Hk.out; omega
             obtain ⟨b, hb, rfl⟩ := CRow.ofLen hR hvv hpos
             rw [hvv]
             have H5 := Lib.hid h5
             have HR := Lib.hid (And.intro hb (And.intro hRn (And.intro hRx hp)))
             have c1 := (Hcs.out h5 (by simp)).2.1
             clear Hh2 hRn hRx hp h5 hvv hb)
          | (refine wpList_val (o := ⟨some 112, _, _, _, _, _⟩) (v := vi ((x.n.toNat % R.n : Nat) : Int)) rfl (exec_remI 3 3 (.tmp 109) (.tmp 111) rfl x.n R.n hpos (by omega) rfl rfl) ?_
             have hjlt : x.n.toNat % R.n < R.n := Nat.mod_lt _ hpos
             generalize x.n.toNat % R.n = jj at *))
          refine whole_r19 I A1 HBp.out HR.out.1 HR.out.2.1 HR.out.2.2.1 HR.out.2.2.2 (j := jj) (m := m) (rk := rk) (F := [X, whole z]) hjlt hm60 _ _ (Sat.sel [_, _, _] 3 [1, 2, 0] H5.out rfl (by decide)) _ _ _ _ _ _ _ _ _ _ _ _ _ _ _ _ _ _ _ _ _ _ _ _ _ _ _ _ _ _ _ _ _ _ _ _ _ _ _ _ _ _ _ _ _ _ _ _ _ _ _ _ _ _ _ _ _ _ _ _ _ _ _ _ _ _ _ _ _ _ _ _ _ _ _ _ _ _ _ _ _ _ _ _ _ _ _ _ _ _ _ _ _ _ _ _ _ _ _ _ _ _ _ _ _ _ _ _ _ _ _ _ _ _ _ _ _ _ _ _ _ _ _ _ _ _ _ _ _ _ _ _ _ _ _ _ _ _ _ _ _ _ _ _ _ _ _ _ _ _ _ _ _ _ _ _ _ _ _ _ _ _ _ _ _ _ _ _ _ _ _ _ _ _ _ _ _ _ _ _ _ _ _ _ ?_
          intro u113 u114 u115 u116 u117 u118 u119 u120 u121 u122 u123 u124 u125 u126 u127 u128 u129 u130 u131 u132 u133 u134 u135 u136 u137 u138 u139 u140 u141 u142 u143 w6 B2 M2 Fr2 q1 q2 q3 q4 I2 A2 h6
          have H6 := Lib.hid (Sat.sel [_, _, _] 3 [0, 1] h6 rfl (by decide))
          have HP := Lib.hid (And.intro q1 (And.intro q2 (And.intro q3 q4)))
          clear h6 q1 q2 q3 q4
          go_wp2_with fail
          go_roundg B2.ents.length
          case measure => have := HP.out.2.2.2; have := Hk.out; omega
          case rel => exact ⟨m + 1, B2, M2, Fr2, by simp, Lib.hid rfl, by have := HP.out.2.2.2; have := Hk.out; have := Hkm.out; omega, HP.out.1, HP.out.2.1.trans HMp.out, Lib.hid (HP.out.2.2.1.trans Hn.out), I2, A2, H6⟩
        · have hn1 : ¬ 0 ≤ x.n := hn0
          go_wp2_with (first
          | (go_at_call 8
             refine Hh.out.mono ?_
             rintro e w3 ⟨R1, S1, rfl, hR1, hRn1, _, hp1, _, h3⟩
             obtain ⟨ra1, rk1, hvv1⟩ := CRow.val_len R1 hR1
             have hpos1 : 0 < R1.n := by rw [hRn1, hp1.length_eq, List.length_map]; have := Hk.out; omega
             rw [hvv1]
             have hh2 := held_ok h3.drop I.ok I.st (by have := Hk.out; have := Hkm.out; omega)
             rw [hBp] at hh2
             have Hh2 := Lib.hid hh2
             clear Hh H1 hRn1 hp1 h3 hvv1 hh2)
          | (go_at_call 8
             refine Hh2.out.mono ?_
             rintro e w5 ⟨R, S, rfl, hR, hRn, hRx, hp, _, h5⟩
             obtain ⟨ra, rk, hvv⟩ := CRow.val_len R hR
             have hpos : 0 < R.n := by rw [hRn, hp.length_eq, List.length_map]; have := Hk.out; omega
             obtain ⟨b, hb, rfl⟩ := CRow.ofLen hR hvv hpos
             rw [hvv]
             have H5 := Lib.hid h5
             have HR := Lib.hid (And.intro hb (And.intro hRn (And.intro hRx hp)))
             have c1 := (Hcs.out h5 (by simp)).2.1
             clear Hh2 hRn hRx hp h5 hvv hb))
          refine whole_r19 I A1 HBp.out HR.out.1 HR.out.2.1 HR.out.2.2.1 HR.out.2.2.2 (j := 0) (m := m) (rk := rk) (F := [X, whole z]) hpos hm60 _ _ (Sat.sel [_, _, _] 3 [1, 2, 0] H5.out rfl (by decide)) _ _ _ _ _ _ _ _ _ _ _ _ _ _ _ _ _ _ _ _ _ _ _ _ _ _ _ _ _ _ _ _ _ _ _ _ _ _ _ _ _ _ _ _ _ _ _ _ _ _ _ _ _ _ _ _ _ _ _ _ _ _ _ _ _ _ _ _ _ _ _ _ _ _ _ _ _ _ _ _ _ _ _ _ _ _ _ _ _ _ _ _ _ _ _ _ _ _ _ _ _ _ _ _ _ _ _ _ _ _ _ _ _ _ _ _ _ _ _ _ _ _ _ _ _ _ _ _ _ _ _ _ _ _ _ _ _ _ _ _ _ _ _ _ _ _ _ _ _ _ _ _ _ _ _ _ _ _ _ _ _ _ _ _ _ _ _ _ _ _ _ _ _ _ _ _ _ _ _ _ _ _ _ _ ?_
          intro u113 u114 u115 u116 u117 u118 u119 u120 u121 u122 u123 u124 u125 u126 u127 u128 u129 u130 u131 u132 u133 u134 u135 u136 u137 u138 u139 u140 u141 u142 u143 w6 B2 M2 Fr2 q1 q2 q3 q4 I2 A2 h6
          have H6 := Lib.hid (Sat.sel [_, _, _] 3 [0, 1] h6 rfl (by decide))
          have HP := Lib.hid (And.intro q1 (And.intro q2 (And.intro q3 q4)))
          clear h6 q1 q2 q3 q4
          go_wp2_with fail
          go_roundg B2.ents.length
          case measure => have := HP.out.2.2.2; have := Hk.out; omega
          case rel => exact ⟨m + 1, B2, M2, Fr2, by simp, Lib.hid rfl, by have := HP.out.2.2.2; have := Hk.out; have := Hkm.out; omega, HP.out.1, HP.out.2.1.trans HMp.out, Lib.hid (HP.out.2.2.1.trans Hn.out), I2, A2, H6⟩
      · go_wp2_with (first
        | (go_at_call 8
           refine Hh.out.mono ?_
           rintro e w3 ⟨R1, S1, rfl, hR1, hRn1, _, hp1, _, h3⟩
           obtain ⟨ra1, rk1, hvv1⟩ := CRow.val_len R1 hR1
           have hpos1 : 0 < R1.n := by rw [hRn1, hp1.length_eq, List.length_map]; have := Hk.out; omega
           rw [hvv1]
           have hh2 := held_ok h3.drop I.ok I.st (by have := Hk.out; have := Hkm.out; omega)
           rw [hBp] at hh2
           have Hh2 := Lib.hid hh2
           clear Hh H1 hRn1 hp1 h3 hvv1 hh2)
        | (go_at_call 8
           refine Hh2.out.mono ?_
           rintro e w5 ⟨R, S, rfl, hR, hRn, hRx, hp, _, h5⟩
           obtain ⟨ra, rk, hvv⟩ := CRow.val_len R hR
           have hpos : 0 < R.n := by rw [hRn, hp.length_eq, List.length_map]; have := Hk.out; omega
           obtain ⟨b, hb, rfl⟩ := CRow.ofLen hR hvv hpos
           rw [hvv]
           have H5 := Lib.hid h5
           have HR := Lib.hid (And.intro hb (And.intro hRn (And.intro hRx hp)))
           
           clear Hh2 hRn hRx hp h5 hvv hb))
        refine whole_r19 I A1 HBp.out HR.out.1 HR.out.2.1 HR.out.2.2.1 HR.out.2.2.2 (j := 0) (m := m) (rk := rk) (F := [X, whole z]) hpos hm60 _ _ (Sat.sel [_, _, _] 3 [1, 2, 0] H5.out rfl (by decide)) _ _ _ _ _ _ _ _ _ _ _ _ _ _ _ _ _ _ _ _ _ _ _ _ _ _ _ _ _ _ _ _ _ _ _ _ _ _ _ _ _ _ _ _ _ _ _ _ _ _ _ _ _ _ _ _ _ _ _ _ _ _ _ _ _ _ _ _ _ _ _ _ _ _ _ _ _ _ _ _ _ _ _ _ _ _ _ _ _ _ _ _ _ _ _ _ _ _ _ _ _ _ _ _ _ _ _ _ _ _ _ _ _ _ _ _ _ _ _ _ _ _ _ _ _ _ _ _ _ _ _ _ _ _ _ _ _ _ _ _ _ _ _ _ _ _ _ _ _ _ _ _ _ _ _ _ _ _ _ _ _ _ _ _ _ _ _ _ _ _ _ _ _ _ _ _ _ _ _ _ _ _ _ _ ?_
        intro u113 u114 u115 u116 u117 u118 u119 u120 u121 u122 u123 u124 u125 u126 u127 u128 u129 u130 u131 u132 u133 u134 u135 u136 u137 u138 u139 u140 u141 u142 u143 w6 B2 M2 Fr2 q1 q2 q3 q4 I2 A2 h6
        have H6 := Lib.hid (Sat.sel [_, _, _] 3 [0, 1] h6 rfl (by decide))
        have HP := Lib.hid (And.intro q1 (And.intro q2 (And.intro q3 q4)))
        clear h6 q1 q2 q3 q4
        go_wp2_with fail
        go_roundg B2.ents.length
        case measure => have := HP.out.2.2.2; have := Hk.out; omega
        case rel => exact ⟨m + 1, B2, M2, Fr2, by simp, Lib.hid rfl, by have := HP.out.2.2.2; have := Hk.out; have := Hkm.out; omega, HP.out.1, HP.out.2.1.trans HMp.out, Lib.hid (HP.out.2.2.1.trans Hn.out), I2, A2, H6⟩
end
end Go.Proofs.Ytglelfceogpbpaa
