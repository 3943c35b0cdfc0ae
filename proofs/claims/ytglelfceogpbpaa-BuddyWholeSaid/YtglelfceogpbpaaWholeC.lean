/- law 04's BuddyWhole: the loops that compare. -/
import Derived.Test.YtglelfceogpbpaaWholeB
namespace Go.Proofs.Ytglelfceogpbpaa
open Go.RowKit

section
variable {z : World}
set_option maxRecDepth 100000 in
set_option maxHeartbeats 2000000 in
theorem whole_c {F : List Chunk} {R R' : CRow} {S : List (Int × Int)} (hR : R.ok 2) (hR' : R'.ok 2) (hn : R.n = S.length) (hx : R.xs = S.flatMap encB) (hn' : R'.n = S.length) (hx' : R'.xs = S.flatMap encB) {ra ra' : Option Addr} {rk rk' : Nat} (hv : R.val = .slice ra R.n rk) (hv' : R'.val = .slice ra' R'.n rk') (hbig : S.length ≤ 4000)
    (Q : Exit → Act → World → Prop) (w : World) (hs : Sat z w (R.hp 34 :: R'.hp 34 :: F))
    (t0 t1 t2 t3 t4 t5 t6 t7 t8 t9 t11 t12 t13 t14 t15 t16 t19 t20 t21 t22 t23 t24 t25 t26 t27 t28 t29 t30 t31 t32 t33 t34 t35 t36 t37 t38 t39 t40 t41 t42 t43 t44 t45 t46 t47 t48 t49 t50 t51 t52 t53 t54 t55 t56 t57 t58 t59 t60 t61 t62 t63 t64 t65 t66 t67 t68 t69 t70 t71 t72 t73 t74 t75 t76 t77 t78 t79 t80 t81 t82 t83 t84 t85 t86 t87 t88 t89 t90 t91 t92 t93 t94 t95 t96 t97 t98 t99 t100 t101 t102 t103 t104 t105 t106 t107 t108 t109 t110 t111 t112 t113 t114 t115 t116 t117 t118 t119 t120 t121 t122 t123 t124 t125 t126 t127 t128 t129 t130 t131 t132 t133 t134 t135 t136 t137 t138 t139 t140 t141 t142 t143 t144 t145 t146 t147 t148 t149 t150 t151 t152 t153 t154 t155 t156 t157 t158 t159 t160 t161 t162 t163 t164 t165 t166 t167 t168 t169 t170 t171 t172 t173 t174 t175 t176 t177 t178 t179 t180 t181 t182 t183 t184 t185 t186 t187 : Value)
    (h : ∀ (u6 u18 u161 u162 u163 u164 u165 u166 u167 u168 u169 u170 u171 u172 u173 u174 u175 : Value) (w' : World), Sat z w' (R.hp 34 :: R'.hp 34 :: F) →
      Q (.exit 4) ⟨List.toArray (t0 :: t1 :: t2 :: t3 :: t4 :: t5 :: u6 :: t7 :: t8 :: t9 :: .slice ra R.n rk :: t11 :: t12 :: t13 :: t14 :: t15 :: t16 :: .slice ra' R.n rk' :: u18 :: t19 :: t20 :: t21 :: t22 :: t23 :: t24 :: t25 :: t26 :: t27 :: t28 :: t29 :: t30 :: t31 :: t32 :: t33 :: t34 :: t35 :: t36 :: t37 :: t38 :: t39 :: t40 :: t41 :: t42 :: t43 :: t44 :: t45 :: t46 :: t47 :: t48 :: t49 :: t50 :: t51 :: t52 :: t53 :: t54 :: t55 :: t56 :: t57 :: t58 :: t59 :: t60 :: t61 :: t62 :: t63 :: t64 :: t65 :: t66 :: t67 :: t68 :: t69 :: t70 :: t71 :: t72 :: t73 :: t74 :: t75 :: t76 :: t77 :: t78 :: t79 :: t80 :: t81 :: t82 :: t83 :: t84 :: t85 :: t86 :: t87 :: t88 :: t89 :: t90 :: t91 :: t92 :: t93 :: t94 :: t95 :: t96 :: t97 :: t98 :: t99 :: t100 :: t101 :: t102 :: t103 :: t104 :: t105 :: t106 :: t107 :: t108 :: t109 :: t110 :: t111 :: t112 :: t113 :: t114 :: t115 :: t116 :: t117 :: t118 :: t119 :: t120 :: t121 :: t122 :: t123 :: t124 :: t125 :: t126 :: t127 :: t128 :: t129 :: t130 :: t131 :: t132 :: t133 :: t134 :: t135 :: t136 :: t137 :: t138 :: t139 :: t140 :: t141 :: t142 :: t143 :: t144 :: t145 :: t146 :: t147 :: t148 :: t149 :: t150 :: t151 :: t152 :: t153 :: t154 :: t155 :: t156 :: t157 :: t158 :: t159 :: t160 :: u161 :: u162 :: u163 :: u164 :: u165 :: u166 :: u167 :: u168 :: u169 :: u170 :: u171 :: u172 :: u173 :: u174 :: u175 :: t176 :: t177 :: t178 :: t179 :: t180 :: t181 :: t182 :: t183 :: t184 :: t185 :: t186 :: t187 :: []), []⟩ w') :
    Code.wp Try.prog (loopOf Try.f4 4) Q ⟨List.toArray (t0 :: t1 :: t2 :: t3 :: t4 :: t5 :: t6 :: t7 :: t8 :: t9 :: .slice ra R.n rk :: t11 :: t12 :: t13 :: t14 :: t15 :: t16 :: .slice ra' R.n rk' :: vi 0 :: t19 :: t20 :: t21 :: t22 :: t23 :: t24 :: t25 :: t26 :: t27 :: t28 :: t29 :: t30 :: t31 :: t32 :: t33 :: t34 :: t35 :: t36 :: t37 :: t38 :: t39 :: t40 :: t41 :: t42 :: t43 :: t44 :: t45 :: t46 :: t47 :: t48 :: t49 :: t50 :: t51 :: t52 :: t53 :: t54 :: t55 :: t56 :: t57 :: t58 :: t59 :: t60 :: t61 :: t62 :: t63 :: t64 :: t65 :: t66 :: t67 :: t68 :: t69 :: t70 :: t71 :: t72 :: t73 :: t74 :: t75 :: t76 :: t77 :: t78 :: t79 :: t80 :: t81 :: t82 :: t83 :: t84 :: t85 :: t86 :: t87 :: t88 :: t89 :: t90 :: t91 :: t92 :: t93 :: t94 :: t95 :: t96 :: t97 :: t98 :: t99 :: t100 :: t101 :: t102 :: t103 :: t104 :: t105 :: t106 :: t107 :: t108 :: t109 :: t110 :: t111 :: t112 :: t113 :: t114 :: t115 :: t116 :: t117 :: t118 :: t119 :: t120 :: t121 :: t122 :: t123 :: t124 :: t125 :: t126 :: t127 :: t128 :: t129 :: t130 :: t131 :: t132 :: t133 :: t134 :: t135 :: t136 :: t137 :: t138 :: t139 :: t140 :: t141 :: t142 :: t143 :: t144 :: t145 :: t146 :: t147 :: t148 :: t149 :: t150 :: t151 :: t152 :: t153 :: t154 :: t155 :: t156 :: t157 :: t158 :: t159 :: t160 :: t161 :: t162 :: t163 :: t164 :: t165 :: t166 :: t167 :: t168 :: t169 :: t170 :: t171 :: t172 :: t173 :: t174 :: t175 :: t176 :: t177 :: t178 :: t179 :: t180 :: t181 :: t182 :: t183 :: t184 :: t185 :: t186 :: t187 :: []), []⟩ w := by
  conv => arg 2; whnf
  have H := Lib.hid h
  have HS := Lib.hid hs
  have HR := Lib.hid (And.intro hn (And.intro hx (And.intro hn' hx')))
  have Hv := Lib.hid hv
  have Hv' := Lib.hid hv'
  clear h hs hn hx hn' hx' hv hv'
  go_loopg [18] R.n (fun k iv wr => ∃ i : Nat, iv = vi i ∧ k + i = R.n ∧ Hid (Sat z wr (R.hp 34 :: R'.hp 34 :: F)))
  case atStart => exact ⟨0, rfl, rfl, HS⟩
  case round =>
    clear HS
    obtain ⟨i, rfl, hki, H1⟩ := hrel
    cases gk with
    | zero =>
      have hi : ¬ i < R.n := by omega
      clear hki
      go_wp2_with fail
      exact H.out _ _ _ _ _ _ _ _ _ _ _ _ _ _ _ _ _ _ H1.out
    | succ k =>
      have hi : i < R.n := by omega
      have Hki := Lib.hid hki
      have hnn := HR.out.1.trans HR.out.2.2.1.symm
      have hi' : i < R'.n := by omega
      obtain ⟨b, hb, rfl⟩ := CRow.ofLen hR Hv.out (by omega)
      obtain ⟨b', hb', rfl⟩ := CRow.ofLen hR' Hv'.out (by omega)
      obtain ⟨y, hy⟩ : ∃ y, S[i]? = some y := ⟨_, List.getElem?_eq_getElem (by rw [← HR.out.1]; exact hi)⟩
      have r1 := CRow.rangeB H1.out.drew hb HR.out.2.1 hy
      have r2 := CRow.rangeB H1.out.swap.drew hb' HR.out.2.2.2 hy
      have h1 : R.n ≤ 4000 := by rw [HR.out.1]; exact hbig
      clear hki hb hb' hy hnn
      go_wp2_with fail
      refine wp_region_plan (fun w' => w'.rangeAt b (i * 2) [vi y.1, vi y.2] ∧ w'.rangeAt b' (i * 2) [vi y.1, vi y.2]) [(0, false), (1, false), (2, false), (3, false), (4, false), (5, false), (6, false), (7, false), (8, false)] (by kernel_rfl) (by kernel_rfl) ⟨r1, r2⟩ ?_
      refine wpPlan_q (v := ?_) rfl rfl ?_ ?_; rotate_left 1; · (intro wS hS; go_simp; try with_reducible rfl)
      simp only [Act.put, List.setIfInBounds_toArray, List.set_cons_zero, List.set_cons_succ]
      refine wpPlan_q (v := ?_) rfl rfl ?_ ?_; rotate_left 1; · (intro wS hS; go_simp; try with_reducible rfl)
      simp only [Act.put, List.setIfInBounds_toArray, List.set_cons_zero, List.set_cons_succ]
      refine wpPlan_q (v := ?_) rfl rfl ?_ ?_; rotate_left 1; · (intro wS hS; go_simp; try with_reducible rfl)
      simp only [Act.put, List.setIfInBounds_toArray, List.set_cons_zero, List.set_cons_succ]
      refine wpPlan_q (v := vb y.1 y.2) rfl rfl (fun wS hS => exec_load_mid 34 (.tmp 169) rfl b (i * 2) rfl [vi y.1, vi y.2] _ hS.1 Try.underlying34 rfl (by kernel_rfl)) ?_
      simp only [Act.put, List.setIfInBounds_toArray, List.set_cons_zero, List.set_cons_succ]
      refine wpPlan_q (v := ?_) rfl rfl ?_ ?_; rotate_left 1; · (intro wS hS; go_simp; try with_reducible rfl)
      simp only [Act.put, List.setIfInBounds_toArray, List.set_cons_zero, List.set_cons_succ]
      refine wpPlan_q (v := ?_) rfl rfl ?_ ?_; rotate_left 1; · (intro wS hS; go_simp; try with_reducible rfl)
      simp only [Act.put, List.setIfInBounds_toArray, List.set_cons_zero, List.set_cons_succ]
      refine wpPlan_q (v := ?_) rfl rfl ?_ ?_; rotate_left 1; · (intro wS hS; go_simp; try with_reducible rfl)
      simp only [Act.put, List.setIfInBounds_toArray, List.set_cons_zero, List.set_cons_succ]
      refine wpPlan_q (v := vb y.1 y.2) rfl rfl (fun wS hS => exec_load_mid 34 (.tmp 173) rfl b' (i * 2) rfl [vi y.1, vi y.2] _ hS.2 Try.underlying34 rfl (by kernel_rfl)) ?_
      simp only [Act.put, List.setIfInBounds_toArray, List.set_cons_zero, List.set_cons_succ]
      refine wpPlan_q (v := .bool false) rfl rfl (fun wS hS => exec_neqBlock (.tmp 170) (.tmp 174) 34 rfl y y rfl rfl rfl) ?_
      simp only [Act.put, List.setIfInBounds_toArray, List.set_cons_zero, List.set_cons_succ]
      refine wpPlan_nil (NoPanic.normal ?_)
      go_wp2
      go_roundg k
      case measure => omega
      case rel => exact ⟨i + 1, by simp, by have := Hki.out; omega, Lib.hid H1.out.drew⟩

set_option maxRecDepth 100000 in
set_option maxHeartbeats 2000000 in
theorem whole_d {B : Bd} {M : Mem} {Fr : Nat → Prop} {r : Nat} {F : List Chunk} (I : Inv B M Fr) (A : All B M Fr r) (he : B.ents = []) (hr : r ≤ M.n) {mp : Nat} (hmp : M.p = mp)
    (Q : Exit → Act → World → Prop) (w : World) (hs : Sat z w (M.hp :: F))
    (t0 t1 t2 t3 t4 t5 t6 t7 t9 t10 t11 t12 t13 t14 t15 t16 t17 t18 t20 t21 t22 t23 t24 t25 t26 t27 t28 t29 t30 t31 t32 t33 t34 t35 t36 t37 t38 t39 t40 t41 t42 t43 t44 t45 t46 t47 t48 t49 t50 t51 t52 t53 t54 t55 t56 t57 t58 t59 t60 t61 t62 t63 t64 t65 t66 t67 t68 t69 t70 t71 t72 t73 t74 t75 t76 t77 t78 t79 t80 t81 t82 t83 t84 t85 t86 t87 t88 t89 t90 t91 t92 t93 t94 t95 t96 t97 t98 t99 t100 t101 t102 t103 t104 t105 t106 t107 t108 t109 t110 t111 t112 t113 t114 t115 t116 t117 t118 t119 t120 t121 t122 t123 t124 t125 t126 t127 t128 t129 t130 t131 t132 t133 t134 t135 t136 t137 t138 t139 t140 t141 t142 t143 t144 t145 t146 t147 t148 t149 t150 t151 t152 t153 t154 t155 t156 t157 t158 t159 t160 t161 t162 t163 t164 t165 t166 t167 t168 t169 t170 t171 t172 t173 t174 t175 t176 t177 t178 t179 t180 t181 t182 t183 t184 t185 t186 t187 : Value)
    (h : ∀ (u6 u19 u177 u178 u179 u180 u181 u182 u183 u184 u185 u186 : Value), Q (.exit 6) ⟨List.toArray (t0 :: t1 :: t2 :: t3 :: t4 :: t5 :: u6 :: t7 :: .pointer (some ⟨mp, 0, none⟩) :: t9 :: t10 :: t11 :: t12 :: t13 :: t14 :: t15 :: t16 :: t17 :: t18 :: u19 :: t20 :: t21 :: t22 :: t23 :: t24 :: t25 :: t26 :: t27 :: t28 :: t29 :: t30 :: t31 :: t32 :: t33 :: t34 :: t35 :: t36 :: t37 :: t38 :: t39 :: t40 :: t41 :: t42 :: t43 :: t44 :: t45 :: t46 :: t47 :: t48 :: t49 :: t50 :: t51 :: t52 :: t53 :: t54 :: t55 :: t56 :: t57 :: t58 :: t59 :: t60 :: t61 :: t62 :: t63 :: t64 :: t65 :: t66 :: t67 :: t68 :: t69 :: t70 :: t71 :: t72 :: t73 :: t74 :: t75 :: t76 :: t77 :: t78 :: t79 :: t80 :: t81 :: t82 :: t83 :: t84 :: t85 :: t86 :: t87 :: t88 :: t89 :: t90 :: t91 :: t92 :: t93 :: t94 :: t95 :: t96 :: t97 :: t98 :: t99 :: t100 :: t101 :: t102 :: t103 :: t104 :: t105 :: t106 :: t107 :: t108 :: t109 :: t110 :: t111 :: t112 :: t113 :: t114 :: t115 :: t116 :: t117 :: t118 :: t119 :: t120 :: t121 :: t122 :: t123 :: t124 :: t125 :: t126 :: t127 :: t128 :: t129 :: t130 :: t131 :: t132 :: t133 :: t134 :: t135 :: t136 :: t137 :: t138 :: t139 :: t140 :: t141 :: t142 :: t143 :: t144 :: t145 :: t146 :: t147 :: t148 :: t149 :: t150 :: t151 :: t152 :: t153 :: t154 :: t155 :: t156 :: t157 :: t158 :: t159 :: t160 :: t161 :: t162 :: t163 :: t164 :: t165 :: t166 :: t167 :: t168 :: t169 :: t170 :: t171 :: t172 :: t173 :: t174 :: t175 :: t176 :: u177 :: u178 :: u179 :: u180 :: u181 :: u182 :: u183 :: u184 :: u185 :: u186 :: t187 :: []), []⟩ w) :
    Code.wp Try.prog (loopOf Try.f4 6) Q ⟨List.toArray (t0 :: t1 :: t2 :: t3 :: t4 :: t5 :: t6 :: t7 :: .pointer (some ⟨mp, 0, none⟩) :: t9 :: t10 :: t11 :: t12 :: t13 :: t14 :: t15 :: t16 :: t17 :: t18 :: vi r :: t20 :: t21 :: t22 :: t23 :: t24 :: t25 :: t26 :: t27 :: t28 :: t29 :: t30 :: t31 :: t32 :: t33 :: t34 :: t35 :: t36 :: t37 :: t38 :: t39 :: t40 :: t41 :: t42 :: t43 :: t44 :: t45 :: t46 :: t47 :: t48 :: t49 :: t50 :: t51 :: t52 :: t53 :: t54 :: t55 :: t56 :: t57 :: t58 :: t59 :: t60 :: t61 :: t62 :: t63 :: t64 :: t65 :: t66 :: t67 :: t68 :: t69 :: t70 :: t71 :: t72 :: t73 :: t74 :: t75 :: t76 :: t77 :: t78 :: t79 :: t80 :: t81 :: t82 :: t83 :: t84 :: t85 :: t86 :: t87 :: t88 :: t89 :: t90 :: t91 :: t92 :: t93 :: t94 :: t95 :: t96 :: t97 :: t98 :: t99 :: t100 :: t101 :: t102 :: t103 :: t104 :: t105 :: t106 :: t107 :: t108 :: t109 :: t110 :: t111 :: t112 :: t113 :: t114 :: t115 :: t116 :: t117 :: t118 :: t119 :: t120 :: t121 :: t122 :: t123 :: t124 :: t125 :: t126 :: t127 :: t128 :: t129 :: t130 :: t131 :: t132 :: t133 :: t134 :: t135 :: t136 :: t137 :: t138 :: t139 :: t140 :: t141 :: t142 :: t143 :: t144 :: t145 :: t146 :: t147 :: t148 :: t149 :: t150 :: t151 :: t152 :: t153 :: t154 :: t155 :: t156 :: t157 :: t158 :: t159 :: t160 :: t161 :: t162 :: t163 :: t164 :: t165 :: t166 :: t167 :: t168 :: t169 :: t170 :: t171 :: t172 :: t173 :: t174 :: t175 :: t176 :: t177 :: t178 :: t179 :: t180 :: t181 :: t182 :: t183 :: t184 :: t185 :: t186 :: t187 :: []), []⟩ w := by
  conv => arg 2; whnf
  have hn := I.mok.n1
  have hfm := mem_frames hs
  have hzm := fun k : Nat => mem_zero hs I.mok (k : Int)
  rw [hmp] at hfm hzm
  have hfree : ∀ i, r ≤ i → i < M.n → M.zero i = true := fun i h1 h2 => A.zero I.mok i h2 (by
    rcases (A.all i).1 ⟨h1, h2⟩ with h | ⟨x, hx, _⟩
    · exact h
    · rw [he] at hx; simp at hx)
  have H := Lib.hid h
  have Hfm := Lib.hid hfm
  have Hzm := Lib.hid hzm
  have Hfree := Lib.hid hfree
  clear h hfm hzm hfree hs he hmp
  go_loop [19] (fun i => ∃ k : Nat, r ≤ k ∧ k ≤ M.n ∧ i = vi k) (fun i => M.n - (intOf i).toNat)
  case atStart => exact ⟨r, Nat.le_refl _, hr, rfl⟩
  case round =>
    obtain ⟨k, h1, h2, rfl⟩ := hrel
    by_cases hk : k < M.n
    · have hz := Hzm.out k
      rw [Hfree.out k h1 hk] at hz
      have Hz := Lib.hid hz
      clear hz
      go_wp2_with (first
        | (go_at_call 14; refine Hfm.out.mono ?_; rintro e w' ⟨rfl, rfl⟩)
        | (go_at_call 15; refine Hz.out.mono ?_; rintro e w' ⟨rfl, rfl⟩))
      go_round
      case rel => exact ⟨k + 1, by omega, by omega, by go_num⟩
      case measure => simp [intOf]; omega
    · go_wp2_with (first
        | (go_at_call 14; refine Hfm.out.mono ?_; rintro e w' ⟨rfl, rfl⟩))
      exact H.out _ _ _ _ _ _ _ _ _ _ _ _
end
end Go.Proofs.Ytglelfceogpbpaa
