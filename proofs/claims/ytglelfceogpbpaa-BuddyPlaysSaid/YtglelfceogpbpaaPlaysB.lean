/- law 04's BuddyPlays: the call that gives back one of those that were given. -/
import Derived.Test.YtglelfceogpbpaaPlaysA
namespace Go.Proofs.Ytglelfceogpbpaa
open Go.RowKit


section
variable {z : World}
set_option maxRecDepth 100000 in
set_option maxHeartbeats 2000000 in
theorem plays_gave {B : Bd} {M : Mem} {Fr : Nat → Prop} {R : RB} {N : RMem} (b : Both B M Fr R N) (_hgl : B.ents.length ≤ 100) {F : List Chunk} {bp mp rp np ob : Nat} (e1 : B.p = bp) (e2 : M.p = mp) (e3 : R.p = rp) (e4 : N.p = np) (x : OpR) (dd : Int) (Q : Exit → Act → World → Prop) (w : World) (hs : Sat z w (B.hp :: M.hp :: R.hp :: N.hp :: opChunk ob x :: F)) (t0 t1 t2 t3 t4 t5 t6 t7 t9 t11 t13 t15 t16 t19 t20 t21 t22 t23 t24 t25 t26 t27 t28 t29 t30 t31 t32 t33 t34 t35 t36 t37 t38 t39 t40 t41 t42 t43 t44 t45 t46 t47 t48 t49 t50 t51 t52 t53 t54 t55 t56 t57 t58 t59 t60 t61 t62 t63 t64 t65 t66 t67 t68 t69 t70 t71 t72 t73 t74 t75 t76 t77 t78 t79 t80 t81 t82 t83 t84 t85 t86 t87 t88 t89 t90 t91 t92 t93 t94 t95 t96 t97 t98 t99 t100 t101 t102 t104 t105 t106 t107 t108 t109 t110 t111 t112 t113 t114 t115 t116 t117 t118 t119 t120 t121 t122 t123 t124 t125 t126 t127 t128 t129 t130 t131 t132 t133 t134 t135 t136 t137 t138 t139 t140 t141 t142 t143 t144 t145 t146 t147 t148 t149 t150 t151 t152 t153 t154 t155 t156 t157 t158 t159 t160 t161 t162 t163 t164 t165 t166 t167 t168 t169 t170 t171 t172 t173 t174 t175 t176 t177 t178 t179 t180 t181 t182 t183 t184 t185 t186 t187 t188 t189 t190 t191 t192 t193 t194 t195 t196 t197 t198 t199 t200 t201 t202 t203 t204 t205 t206 t207 t208 t209 t210 t211 t212 t213 t214 t215 t216 t217 t218 t219 t220 t221 t222 t223 t224 t225 t226 t227 t228 t229 t230 t231 t232 t233 t234 t235 t236 t237 t238 t239 t240 t241 t242 t243 : Value) (h : ∀ (u19 u20 u21 u22 u23 u104 u105 u106 u107 u108 u109 u110 u111 u112 u113 u114 u115 u116 u117 u118 u119 u120 u121 u122 u123 u124 u125 u126 u127 u128 u129 u130 u131 u132 u133 u134 u135 u136 u137 u138 u139 u140 u141 u142 u143 u144 u145 u146 u147 u148 u149 u150 u151 u152 u153 u154 u155 u156 u157 u158 u159 u160 u161 u162 u163 u164 u165 u166 u167 u168 u169 u170 u171 u172 u173 u174 u175 u176 u177 u178 u179 u180 u181 u182 u183 u184 u185 u186 u187 u188 u189 u190 u191 u192 u193 u194 u195 u196 : Value) (w' : World) (B' : Bd) (M' : Mem) (Fr' : Nat → Prop) (R' : RB) (N' : RMem), B'.p = bp → M'.p = mp → R'.p = rp → N'.p = np → B'.ents.length ≤ B.ents.length + 1 → Both B' M' Fr' R' N' → Sat z w' (B'.hp :: M'.hp :: R'.hp :: N'.hp :: opChunk ob x :: F) → Q .normal ⟨List.toArray (t0 :: t1 :: t2 :: t3 :: t4 :: t5 :: t6 :: t7 :: .pointer (some ⟨mp, 0, none⟩) :: t9 :: .pointer (some ⟨np, 0, none⟩) :: t11 :: .pointer (some ⟨bp, 0, none⟩) :: t13 :: .pointer (some ⟨rp, 0, none⟩) :: t15 :: t16 :: .pointer (some ⟨ob, 0, none⟩) :: .bool true :: u19 :: u20 :: u21 :: u22 :: u23 :: t24 :: t25 :: t26 :: t27 :: t28 :: t29 :: t30 :: t31 :: t32 :: t33 :: t34 :: t35 :: t36 :: t37 :: t38 :: t39 :: t40 :: t41 :: t42 :: t43 :: t44 :: t45 :: t46 :: t47 :: t48 :: t49 :: t50 :: t51 :: t52 :: t53 :: t54 :: t55 :: t56 :: t57 :: t58 :: t59 :: t60 :: t61 :: t62 :: t63 :: t64 :: t65 :: t66 :: t67 :: t68 :: t69 :: t70 :: t71 :: t72 :: t73 :: t74 :: t75 :: t76 :: t77 :: t78 :: t79 :: t80 :: t81 :: t82 :: t83 :: t84 :: t85 :: t86 :: t87 :: t88 :: t89 :: t90 :: t91 :: t92 :: t93 :: t94 :: t95 :: t96 :: t97 :: t98 :: t99 :: t100 :: t101 :: t102 :: vi dd :: u104 :: u105 :: u106 :: u107 :: u108 :: u109 :: u110 :: u111 :: u112 :: u113 :: u114 :: u115 :: u116 :: u117 :: u118 :: u119 :: u120 :: u121 :: u122 :: u123 :: u124 :: u125 :: u126 :: u127 :: u128 :: u129 :: u130 :: u131 :: u132 :: u133 :: u134 :: u135 :: u136 :: u137 :: u138 :: u139 :: u140 :: u141 :: u142 :: u143 :: u144 :: u145 :: u146 :: u147 :: u148 :: u149 :: u150 :: u151 :: u152 :: u153 :: u154 :: u155 :: u156 :: u157 :: u158 :: u159 :: u160 :: u161 :: u162 :: u163 :: u164 :: u165 :: u166 :: u167 :: u168 :: u169 :: u170 :: u171 :: u172 :: u173 :: u174 :: u175 :: u176 :: u177 :: u178 :: u179 :: u180 :: u181 :: u182 :: u183 :: u184 :: u185 :: u186 :: u187 :: u188 :: u189 :: u190 :: u191 :: u192 :: u193 :: u194 :: u195 :: u196 :: t197 :: t198 :: t199 :: t200 :: t201 :: t202 :: t203 :: t204 :: t205 :: t206 :: t207 :: t208 :: t209 :: t210 :: t211 :: t212 :: t213 :: t214 :: t215 :: t216 :: t217 :: t218 :: t219 :: t220 :: t221 :: t222 :: t223 :: t224 :: t225 :: t226 :: t227 :: t228 :: t229 :: t230 :: t231 :: t232 :: t233 :: t234 :: t235 :: t236 :: t237 :: t238 :: t239 :: t240 :: t241 :: t242 :: t243 :: []), []⟩ w') (hd : dd = 2) : Code.wp Try.prog (Code.block 2 (loopOf Try.f5 2)) Q ⟨List.toArray (t0 :: t1 :: t2 :: t3 :: t4 :: t5 :: t6 :: t7 :: .pointer (some ⟨mp, 0, none⟩) :: t9 :: .pointer (some ⟨np, 0, none⟩) :: t11 :: .pointer (some ⟨bp, 0, none⟩) :: t13 :: .pointer (some ⟨rp, 0, none⟩) :: t15 :: t16 :: .pointer (some ⟨ob, 0, none⟩) :: .bool true :: t19 :: t20 :: t21 :: t22 :: t23 :: t24 :: t25 :: t26 :: t27 :: t28 :: t29 :: t30 :: t31 :: t32 :: t33 :: t34 :: t35 :: t36 :: t37 :: t38 :: t39 :: t40 :: t41 :: t42 :: t43 :: t44 :: t45 :: t46 :: t47 :: t48 :: t49 :: t50 :: t51 :: t52 :: t53 :: t54 :: t55 :: t56 :: t57 :: t58 :: t59 :: t60 :: t61 :: t62 :: t63 :: t64 :: t65 :: t66 :: t67 :: t68 :: t69 :: t70 :: t71 :: t72 :: t73 :: t74 :: t75 :: t76 :: t77 :: t78 :: t79 :: t80 :: t81 :: t82 :: t83 :: t84 :: t85 :: t86 :: t87 :: t88 :: t89 :: t90 :: t91 :: t92 :: t93 :: t94 :: t95 :: t96 :: t97 :: t98 :: t99 :: t100 :: t101 :: t102 :: vi dd :: t104 :: t105 :: t106 :: t107 :: t108 :: t109 :: t110 :: t111 :: t112 :: t113 :: t114 :: t115 :: t116 :: t117 :: t118 :: t119 :: t120 :: t121 :: t122 :: t123 :: t124 :: t125 :: t126 :: t127 :: t128 :: t129 :: t130 :: t131 :: t132 :: t133 :: t134 :: t135 :: t136 :: t137 :: t138 :: t139 :: t140 :: t141 :: t142 :: t143 :: t144 :: t145 :: t146 :: t147 :: t148 :: t149 :: t150 :: t151 :: t152 :: t153 :: t154 :: t155 :: t156 :: t157 :: t158 :: t159 :: t160 :: t161 :: t162 :: t163 :: t164 :: t165 :: t166 :: t167 :: t168 :: t169 :: t170 :: t171 :: t172 :: t173 :: t174 :: t175 :: t176 :: t177 :: t178 :: t179 :: t180 :: t181 :: t182 :: t183 :: t184 :: t185 :: t186 :: t187 :: t188 :: t189 :: t190 :: t191 :: t192 :: t193 :: t194 :: t195 :: t196 :: t197 :: t198 :: t199 :: t200 :: t201 :: t202 :: t203 :: t204 :: t205 :: t206 :: t207 :: t208 :: t209 :: t210 :: t211 :: t212 :: t213 :: t214 :: t215 :: t216 :: t217 :: t218 :: t219 :: t220 :: t221 :: t222 :: t223 :: t224 :: t225 :: t226 :: t227 :: t228 :: t229 :: t230 :: t231 :: t232 :: t233 :: t234 :: t235 :: t236 :: t237 :: t238 :: t239 :: t240 :: t241 :: t242 :: t243 :: []), []⟩ w := by
  conv => arg 2; arg 2; whnf
  subst hd
  obtain ⟨c0, c1, c2, c3⟩ := op_cells (ob := ob) (x := x) hs (by simp)
  obtain ⟨gcap, hgv, _, _⟩ := CRow.val_base b.rok.gok
  have hcs : ∀ {w : World} {cs : List Chunk}, Sat z w (R.hp :: cs) → w.cell? ⟨rp, 2, none⟩ = some (.slice R.g.base R.g.n gcap) := fun hs => by rw [← e3, RB.cm (RB.opens hs), ← hgv]; rfl
  have g2 := hcs (Sat.sel [_, _, _, _] 4 [2, 0, 1, 3] hs rfl (by decide))
  have H := Lib.hid h
  have HE := Lib.hid (And.intro e1 (And.intro e2 (And.intro e3 e4)))
  have HS := Lib.hid hs
  have hg9 : R.g.n ≤ 1000 := by rw [b.rok.gn]; exact b.rok.gl
  clear h hs c0 c2 c3 e1 e2 e3 e4 hgv
  by_cases hgn : 0 < R.g.n
  · by_cases hn0 : 0 ≤ x.n
    · have hjlt : x.n.toNat % R.g.n < R.g.n := Nat.mod_lt _ hgn
      obtain ⟨j, hj⟩ : ∃ j, j = x.n.toNat % R.g.n := ⟨_, rfl⟩
      rw [← hj] at hjlt
      obtain ⟨y, hy⟩ : ∃ y, R.gv[j]? = some y := ⟨_, List.getElem?_eq_getElem (by rw [← b.rok.gn]; exact hjlt)⟩
      obtain ⟨gb, _, _, hcs2⟩ := RB.gave (z := z) b.rok hy
      rw [HE.out.2.2.1] at hcs2
      have hS : ∀ {w : World} {cs : List Chunk}, Sat z w cs → opChunk ob x ∈ cs → Sat z w (R.hp :: cs) → w.cell? ⟨ob, 1, none⟩ = some (vi x.n) ∧ w.cell? ⟨rp, 2, none⟩ = some (.slice (some ⟨gb, 0, none⟩) R.g.n R.g.cap) ∧ w.rangeAt gb (j * 2) [vi y.1, vi y.2] := fun h1 h2 h3 => ⟨(op_cells h1 h2).2.1, hcs2 h3⟩
      have Hj := Lib.hid hj
      have Hy := Lib.hid hy
      clear hj hy hS
      go_wp2_with fail
      have s1 := HS.out.drew
      obtain ⟨r1, r2⟩ := hcs2 (Sat.sel [_, _, _, _] 4 [2, 0, 1, 3] s1 rfl (by decide))
      obtain ⟨_, d1, _, _⟩ := op_cells (ob := ob) (x := x) s1 (by simp)
      refine wp_region_plan (fun w' => w'.cell? ⟨ob, 1, none⟩ = some (vi x.n) ∧ w'.cell? ⟨rp, 2, none⟩ = some (.slice (some ⟨gb, 0, none⟩) R.g.n R.g.cap) ∧ w'.rangeAt gb (j * 2) [vi y.1, vi y.2]) [(0, false), (1, false), (2, false), (3, false), (4, false), (5, false), (6, false), (7, false), (8, false), (9, false), (10, false), (11, false), (12, false), (13, false), (14, true), (15, true)] (by kernel_rfl) (by kernel_rfl) ⟨d1, r1, r2⟩ ?_
      clear r1 r2 d1 g2
      refine wpPlan_q (v := ?_) rfl rfl ?_ ?_; rotate_left 1; · (intro wS hS; go_simp; try with_reducible rfl)
      simp only [Act.put, List.setIfInBounds_toArray, List.set_cons_zero, List.set_cons_succ]
      refine wpPlan_q (v := ?_) rfl rfl ?_ ?_; rotate_left 1; · (intro wS hS; go_simp; try with_reducible rfl)
      simp only [Act.put, List.setIfInBounds_toArray, List.set_cons_zero, List.set_cons_succ]
      refine wpPlan_q (v := ?_) rfl rfl ?_ ?_; rotate_left 1; · (intro wS hS; go_simp; try with_reducible rfl)
      simp only [Act.put, List.setIfInBounds_toArray, List.set_cons_zero, List.set_cons_succ]
      refine wpPlan_q (v := .slice (some ⟨gb, 0, none⟩) R.g.n R.g.cap) rfl rfl ?_ ?_; · (intro wS hS; have r1 := hS.2.1; go_simp)
      simp only [Act.put, List.setIfInBounds_toArray, List.set_cons_zero, List.set_cons_succ]
      refine wpPlan_q (v := ?_) rfl rfl ?_ ?_; rotate_left 1; · (intro wS hS; go_simp; try with_reducible rfl)
      simp only [Act.put, List.setIfInBounds_toArray, List.set_cons_zero, List.set_cons_succ]
      refine wpPlan_q (v := ?_) rfl rfl ?_ ?_; rotate_left 1; · (intro wS hS; go_simp; try with_reducible rfl)
      simp only [Act.put, List.setIfInBounds_toArray, List.set_cons_zero, List.set_cons_succ]
      refine wpPlan_q (v := ?_) rfl rfl ?_ ?_; rotate_left 1; · (intro wS hS; go_simp; try with_reducible rfl)
      simp only [Act.put, List.setIfInBounds_toArray, List.set_cons_zero, List.set_cons_succ]
      refine wpPlan_q (v := ?_) rfl rfl ?_ ?_; rotate_left 1; · (intro wS hS; go_simp; try with_reducible rfl)
      simp only [Act.put, List.setIfInBounds_toArray, List.set_cons_zero, List.set_cons_succ]
      refine wpPlan_q (v := ?_) rfl rfl ?_ ?_; rotate_left 1; · (intro wS hS; go_simp; try with_reducible rfl)
      simp only [Act.put, List.setIfInBounds_toArray, List.set_cons_zero, List.set_cons_succ]
      refine wpPlan_q (v := .slice (some ⟨gb, 0, none⟩) R.g.n R.g.cap) rfl rfl ?_ ?_; · (intro wS hS; have r1 := hS.2.1; go_simp)
      simp only [Act.put, List.setIfInBounds_toArray, List.set_cons_zero, List.set_cons_succ]
      refine wpPlan_q (v := ?_) rfl rfl ?_ ?_; rotate_left 1; · (intro wS hS; go_simp; try with_reducible rfl)
      simp only [Act.put, List.setIfInBounds_toArray, List.set_cons_zero, List.set_cons_succ]
      refine wpPlan_q (v := vi (j : Int)) rfl rfl (fun wS hS => (exec_remI 3 3 (.tmp 160) (.tmp 165) rfl x.n R.g.n hgn hn0 rfl rfl).trans (by rw [Hj.out])) ?_
      simp only [Act.put, List.setIfInBounds_toArray, List.set_cons_zero, List.set_cons_succ]
      refine wpPlan_q (v := ?_) rfl rfl ?_ ?_; rotate_left 1; · (intro wS hS; go_simp; try with_reducible rfl)
      simp only [Act.put, List.setIfInBounds_toArray, List.set_cons_zero, List.set_cons_succ]
      refine wpPlan_q (v := .agg #[vi y.1, vi y.2]) rfl rfl (fun wS hS => exec_load_mid 57 (.tmp 167) rfl gb (j * 2) rfl [vi y.1, vi y.2] _ hS.2.2 Try.underlying57 rfl (by kernel_rfl)) ?_
      simp only [Act.put, List.setIfInBounds_toArray, List.set_cons_zero, List.set_cons_succ]
      refine wpPlan_e rfl rfl (fun K hK => ?_)
      go_wp2_with fail
      have s2 := (HS.out.allocd (.cells #[vi 0, vi 0] 57)).drew
      obtain ⟨r1, r2⟩ := hcs2 (Sat.sel [_, _, _, _, _] 5 [3, 0, 1, 2, 4] s2 rfl (by decide))
      obtain ⟨_, d1, _, _⟩ := op_cells (ob := ob) (x := x) s2 (by simp)
      refine hK _ _ ⟨d1, r1, r2⟩ ?_
      clear hK K s1
      generalize (w.alloc (.cells #[vi 0, vi 0] 57)).drew = w1 at *
      obtain ⟨xb, hxb⟩ : ∃ xb, xb = w.heap.size := ⟨_, rfl⟩
      rw [← hxb] at s2
      rw [← hxb]
      have x0 := s2.cell (b := xb) (i := 0) (c := #[vi 0, vi 0]) (e := 57) (fr := (0, 0)) (by simp)
      have x1 := s2.cell (b := xb) (i := 1) (c := #[vi 0, vi 0]) (e := 57) (fr := (0, 0)) (by simp)
      have f0 := s2.frozen (b := xb) (i := 0) (c := #[vi 0, vi 0]) (e := 57) (by simp)
      have f1 := s2.frozen (b := xb) (i := 1) (c := #[vi 0, vi 0]) (e := 57) (by simp)
      have s3 : Sat z ((w1.setCell ⟨xb, 0, none⟩ (vi y.1)).setCell ⟨xb, 1, none⟩ (vi y.2)) ([(xb, .cells #[vi y.1, vi y.2] 57 (0, 0))] :: B.hp :: M.hp :: R.hp :: N.hp :: opChunk ob x :: F) := (s2.setCell (i := 0) (vi y.1)).setCell (i := 1) (vi y.2)
      have H3 := Lib.hid s3
      clear s2 s3 hxb r1 r2 d1
      refine wpPlan_e rfl rfl (fun K hK => ?_)
      go_wp2_with fail
      obtain ⟨r1, r2⟩ := hcs2 (Sat.sel [_, _, _, _, _] 5 [3, 0, 1, 2, 4] H3.out rfl (by decide))
      obtain ⟨_, d1, _, _⟩ := op_cells (ob := ob) (x := x) H3.out (by simp)
      refine hK _ _ ⟨d1, r1, r2⟩ ?_
      clear hK K x0 x1 f0 f1 d1 r1 r2 hcs2 hcs
      generalize (w1.setCell ⟨xb, 0, none⟩ (vi y.1)).setCell ⟨xb, 1, none⟩ (vi y.2) = w2 at *
      refine wpPlan_nil (NoPanic.normal ?_)
      go_wp2_with fail
      have s4 := H3.out.drew
      have x0 := s4.cell (b := xb) (i := 0) (c := #[vi y.1, vi y.2]) (e := 57) (fr := (0, 0)) (by simp)
      have x1 := s4.cell (b := xb) (i := 1) (c := #[vi y.1, vi y.2]) (e := 57) (fr := (0, 0)) (by simp)
      have x0' : w2.drew.cell? ⟨xb, 0, none⟩ = some (vi y.1) := by simpa using x0
      have x1' : w2.drew.cell? ⟨xb, 1, none⟩ = some (vi y.2) := by simpa using x1
      have hf1 := free_inv (Sat.sel [_, _, _] 3 [1, 2, 0] s4 rfl (by decide)) b.inv y.1 y.2
      rw [HE.out.1] at hf1
      have Hf1 := Lib.hid hf1
      refine wp_region_plan (fun w' => w'.cell? ⟨xb, 0, none⟩ = some (vi y.1) ∧ w'.cell? ⟨xb, 1, none⟩ = some (vi y.2)) [(0, false), (1, false), (2, false), (3, false), (4, false), (6, false), (7, false), (8, false), (9, false), (10, false), (5, true), (11, true), (12, false), (13, false)] (by kernel_rfl) (by kernel_rfl) ⟨x0', x1'⟩ ?_
      clear x0 x1 x0' x1' s4 hf1 H3
      refine wpPlan_q (v := ?_) rfl rfl ?_ ?_; rotate_left 1; · (intro wS hS; go_simp; try with_reducible rfl)
      simp only [Act.put, List.setIfInBounds_toArray, List.set_cons_zero, List.set_cons_succ]
      refine wpPlan_q (v := ?_) rfl rfl ?_ ?_; rotate_left 1; · (intro wS hS; go_simp; try with_reducible rfl)
      simp only [Act.put, List.setIfInBounds_toArray, List.set_cons_zero, List.set_cons_succ]
      refine wpPlan_q (v := ?_) rfl rfl ?_ ?_; rotate_left 1; · (intro wS hS; go_simp; try with_reducible rfl)
      simp only [Act.put, List.setIfInBounds_toArray, List.set_cons_zero, List.set_cons_succ]
      refine wpPlan_q (v := ?_) rfl rfl ?_ ?_; rotate_left 1; · (intro wS hS; go_simp; try with_reducible rfl)
      simp only [Act.put, List.setIfInBounds_toArray, List.set_cons_zero, List.set_cons_succ]
      refine wpPlan_q (v := ?_) rfl rfl ?_ ?_; rotate_left 1; · (intro wS hS; go_simp; try with_reducible rfl)
      simp only [Act.put, List.setIfInBounds_toArray, List.set_cons_zero, List.set_cons_succ]
      refine wpPlan_q (v := ?_) rfl rfl ?_ ?_; rotate_left 1; · (intro wS hS; go_simp; try with_reducible rfl)
      simp only [Act.put, List.setIfInBounds_toArray, List.set_cons_zero, List.set_cons_succ]
      refine wpPlan_q (v := ?_) rfl rfl ?_ ?_; rotate_left 1; · (intro wS hS; go_simp; try with_reducible rfl)
      simp only [Act.put, List.setIfInBounds_toArray, List.set_cons_zero, List.set_cons_succ]
      refine wpPlan_q (v := ?_) rfl rfl ?_ ?_; rotate_left 1; · (intro wS hS; go_simp; try with_reducible rfl)
      simp only [Act.put, List.setIfInBounds_toArray, List.set_cons_zero, List.set_cons_succ]
      refine wpPlan_q (v := ?_) rfl rfl ?_ ?_; rotate_left 1; · (intro wS hS; go_simp; try with_reducible rfl)
      simp only [Act.put, List.setIfInBounds_toArray, List.set_cons_zero, List.set_cons_succ]
      refine wpPlan_q (v := ?_) rfl rfl ?_ ?_; rotate_left 1; · (intro wS hS; go_simp; try with_reducible rfl)
      simp only [Act.put, List.setIfInBounds_toArray, List.set_cons_zero, List.set_cons_succ]
      refine wpPlan_e rfl rfl (fun K hK => ?_)
      go_wp2_with (go_at_call 9; refine Hf1.out.mono ?_; rintro e w3 ⟨B', M', Fr', c, rfl, hF, I', p1, p2, p3, h1⟩)
      have h1' : Sat z w3 (B'.hp :: M'.hp :: [(xb, .cells #[vi y.1, vi y.2] 57 (0, 0))] :: R.hp :: N.hp :: opChunk ob x :: F) := h1
      have x0 : w3.cell? ⟨xb, 0, none⟩ = some (vi y.1) := by simpa using h1'.cell (b := xb) (i := 0) (c := #[vi y.1, vi y.2]) (e := 57) (fr := (0, 0)) (by simp)
      have x1 : w3.cell? ⟨xb, 1, none⟩ = some (vi y.2) := by simpa using h1'.cell (b := xb) (i := 1) (c := #[vi y.1, vi y.2]) (e := 57) (fr := (0, 0)) (by simp)
      refine hK _ _ ⟨x0, x1⟩ ?_
      clear hK K
      have hf2 := rfree_both (Sat.sel [_, _, _, _, _] 5 [3, 4, 0, 1, 2] h1' rfl (by decide)) b y.1 y.2
      rw [HE.out.2.2.1] at hf2
      have Hf2 := Lib.hid hf2
      have HF := Lib.hid (And.intro hF (And.intro I' (And.intro p1 (p2.trans HE.out.2.1))))
      clear Hf1 h1 h1' x0 x1 hf2 hF I' p1 p2 p3
      refine wpPlan_e rfl rfl (fun K hK => ?_)
      go_wp2_with (go_at_call 21; refine Hf2.out.mono ?_; rintro e w4 ⟨R', N', c', rfl, hF', h2⟩)
      have h2' : Sat z w4 (R'.hp :: N'.hp :: B'.hp :: M'.hp :: [(xb, .cells #[vi y.1, vi y.2] 57 (0, 0))] :: opChunk ob x :: F) := h2
      have x0 : w4.cell? ⟨xb, 0, none⟩ = some (vi y.1) := by simpa using h2'.cell (b := xb) (i := 0) (c := #[vi y.1, vi y.2]) (e := 57) (fr := (0, 0)) (by simp)
      have x1 : w4.cell? ⟨xb, 1, none⟩ = some (vi y.2) := by simpa using h2'.cell (b := xb) (i := 1) (c := #[vi y.1, vi y.2]) (e := 57) (fr := (0, 0)) (by simp)
      refine hK _ _ ⟨x0, x1⟩ ?_
      clear hK K
      obtain ⟨rfl, b', q1, q2⟩ := b.free HF.out.1 HF.out.2.1 hF'
      have hl : B'.ents.length ≤ B.ents.length + 1 := by
        cases HF.out.1 with
        | none _ => omega
        | ok _ _ j _ _ _ _ _ _ he => rw [he]; have := List.length_eraseIdx_le B.ents j; omega
      have Hl := Lib.hid hl
      have Hb' := Lib.hid b'
      have HQ := Lib.hid (And.intro (q1.trans HE.out.2.2.1) (q2.trans HE.out.2.2.2))
      have H2 := Lib.hid (Sat.sel [_, _, _, _, _] 5 [2, 3, 0, 1] h2' rfl (by decide))
      clear Hf2 h2 h2' x0 x1 hF' b' q1 q2 hl
      refine wpPlan_q (v := .bool true) rfl rfl ?_ ?_; · (intro wS hS; go_simp; try simp)
      simp only [Act.put, List.setIfInBounds_toArray, List.set_cons_zero, List.set_cons_succ]
      refine wpPlan_q (v := ?_) rfl rfl ?_ ?_; rotate_left 1; · (intro wS hS; go_simp; try with_reducible rfl)
      simp only [Act.put, List.setIfInBounds_toArray, List.set_cons_zero, List.set_cons_succ]
      refine wpPlan_nil (NoPanic.normal ?_)
      go_wp2
      exact H.out _ _ _ _ _ _ _ _ _ _ _ _ _ _ _ _ _ _ _ _ _ _ _ _ _ _ _ _ _ _ _ _ _ _ _ _ _ _ _ _ _ _ _ _ _ _ _ _ _ _ _ _ _ _ _ _ _ _ _ _ _ _ _ _ _ _ _ _ _ _ _ _ _ _ _ _ _ _ _ _ _ _ _ _ _ _ _ _ _ _ _ _ _ _ _ _ _ _ _ B' M' Fr' R' N' HF.out.2.2.1 HF.out.2.2.2 HQ.out.1 HQ.out.2 Hl.out Hb'.out H2.out
    · go_wp2_with fail
      exact H.out _ _ _ _ _ _ _ _ _ _ _ _ _ _ _ _ _ _ _ _ _ _ _ _ _ _ _ _ _ _ _ _ _ _ _ _ _ _ _ _ _ _ _ _ _ _ _ _ _ _ _ _ _ _ _ _ _ _ _ _ _ _ _ _ _ _ _ _ _ _ _ _ _ _ _ _ _ _ _ _ _ _ _ _ _ _ _ _ _ _ _ _ _ _ _ _ _ _ _ B M Fr R N HE.out.1 HE.out.2.1 HE.out.2.2.1 HE.out.2.2.2 (by omega) b HS.out
  · have hgz : R.g.n = 0 := by omega
    rw [hgz] at g2
    clear hgn hgz
    go_wp2_with fail
    exact H.out _ _ _ _ _ _ _ _ _ _ _ _ _ _ _ _ _ _ _ _ _ _ _ _ _ _ _ _ _ _ _ _ _ _ _ _ _ _ _ _ _ _ _ _ _ _ _ _ _ _ _ _ _ _ _ _ _ _ _ _ _ _ _ _ _ _ _ _ _ _ _ _ _ _ _ _ _ _ _ _ _ _ _ _ _ _ _ _ _ _ _ _ _ _ _ _ _ _ _ B M Fr R N HE.out.1 HE.out.2.1 HE.out.2.2.1 HE.out.2.2.2 (by omega) b HS.out

theorem plays_any {B : Bd} {M : Mem} {Fr : Nat → Prop} {R : RB} {N : RMem} (b : Both B M Fr R N) (_hgl : B.ents.length ≤ 100) {F : List Chunk} {bp mp rp np ob : Nat} (e1 : B.p = bp) (e2 : M.p = mp) (e3 : R.p = rp) (e4 : N.p = np) (x : OpR) (dd : Int) (Q : Exit → Act → World → Prop) (w : World) (hs : Sat z w (B.hp :: M.hp :: R.hp :: N.hp :: opChunk ob x :: F)) (t0 t1 t2 t3 t4 t5 t6 t7 t9 t11 t13 t15 t16 t19 t20 t21 t22 t23 t24 t25 t26 t27 t28 t29 t30 t31 t32 t33 t34 t35 t36 t37 t38 t39 t40 t41 t42 t43 t44 t45 t46 t47 t48 t49 t50 t51 t52 t53 t54 t55 t56 t57 t58 t59 t60 t61 t62 t63 t64 t65 t66 t67 t68 t69 t70 t71 t72 t73 t74 t75 t76 t77 t78 t79 t80 t81 t82 t83 t84 t85 t86 t87 t88 t89 t90 t91 t92 t93 t94 t95 t96 t97 t98 t99 t100 t101 t102 t104 t105 t106 t107 t108 t109 t110 t111 t112 t113 t114 t115 t116 t117 t118 t119 t120 t121 t122 t123 t124 t125 t126 t127 t128 t129 t130 t131 t132 t133 t134 t135 t136 t137 t138 t139 t140 t141 t142 t143 t144 t145 t146 t147 t148 t149 t150 t151 t152 t153 t154 t155 t156 t157 t158 t159 t160 t161 t162 t163 t164 t165 t166 t167 t168 t169 t170 t171 t172 t173 t174 t175 t176 t177 t178 t179 t180 t181 t182 t183 t184 t185 t186 t187 t188 t189 t190 t191 t192 t193 t194 t195 t196 t197 t198 t199 t200 t201 t202 t203 t204 t205 t206 t207 t208 t209 t210 t211 t212 t213 t214 t215 t216 t217 t218 t219 t220 t221 t222 t223 t224 t225 t226 t227 t228 t229 t230 t231 t232 t233 t234 t235 t236 t237 t238 t239 t240 t241 t242 t243 : Value) (h : ∀ (u19 u20 u21 u22 u23 u104 u105 u106 u107 u108 u109 u110 u111 u112 u113 u114 u115 u116 u117 u118 u119 u120 u121 u122 u123 u124 u125 u126 u127 u128 u129 u130 u131 u132 u133 u134 u135 u136 u137 u138 u139 u140 u141 u142 u143 u144 u145 u146 u147 u148 u149 u150 u151 u152 u153 u154 u155 u156 u157 u158 u159 u160 u161 u162 u163 u164 u165 u166 u167 u168 u169 u170 u171 u172 u173 u174 u175 u176 u177 u178 u179 u180 u181 u182 u183 u184 u185 u186 u187 u188 u189 u190 u191 u192 u193 u194 u195 u196 : Value) (w' : World) (B' : Bd) (M' : Mem) (Fr' : Nat → Prop) (R' : RB) (N' : RMem), B'.p = bp → M'.p = mp → R'.p = rp → N'.p = np → B'.ents.length ≤ B.ents.length + 1 → Both B' M' Fr' R' N' → Sat z w' (B'.hp :: M'.hp :: R'.hp :: N'.hp :: opChunk ob x :: F) → Q .normal ⟨List.toArray (t0 :: t1 :: t2 :: t3 :: t4 :: t5 :: t6 :: t7 :: .pointer (some ⟨mp, 0, none⟩) :: t9 :: .pointer (some ⟨np, 0, none⟩) :: t11 :: .pointer (some ⟨bp, 0, none⟩) :: t13 :: .pointer (some ⟨rp, 0, none⟩) :: t15 :: t16 :: .pointer (some ⟨ob, 0, none⟩) :: .bool true :: u19 :: u20 :: u21 :: u22 :: u23 :: t24 :: t25 :: t26 :: t27 :: t28 :: t29 :: t30 :: t31 :: t32 :: t33 :: t34 :: t35 :: t36 :: t37 :: t38 :: t39 :: t40 :: t41 :: t42 :: t43 :: t44 :: t45 :: t46 :: t47 :: t48 :: t49 :: t50 :: t51 :: t52 :: t53 :: t54 :: t55 :: t56 :: t57 :: t58 :: t59 :: t60 :: t61 :: t62 :: t63 :: t64 :: t65 :: t66 :: t67 :: t68 :: t69 :: t70 :: t71 :: t72 :: t73 :: t74 :: t75 :: t76 :: t77 :: t78 :: t79 :: t80 :: t81 :: t82 :: t83 :: t84 :: t85 :: t86 :: t87 :: t88 :: t89 :: t90 :: t91 :: t92 :: t93 :: t94 :: t95 :: t96 :: t97 :: t98 :: t99 :: t100 :: t101 :: t102 :: vi dd :: u104 :: u105 :: u106 :: u107 :: u108 :: u109 :: u110 :: u111 :: u112 :: u113 :: u114 :: u115 :: u116 :: u117 :: u118 :: u119 :: u120 :: u121 :: u122 :: u123 :: u124 :: u125 :: u126 :: u127 :: u128 :: u129 :: u130 :: u131 :: u132 :: u133 :: u134 :: u135 :: u136 :: u137 :: u138 :: u139 :: u140 :: u141 :: u142 :: u143 :: u144 :: u145 :: u146 :: u147 :: u148 :: u149 :: u150 :: u151 :: u152 :: u153 :: u154 :: u155 :: u156 :: u157 :: u158 :: u159 :: u160 :: u161 :: u162 :: u163 :: u164 :: u165 :: u166 :: u167 :: u168 :: u169 :: u170 :: u171 :: u172 :: u173 :: u174 :: u175 :: u176 :: u177 :: u178 :: u179 :: u180 :: u181 :: u182 :: u183 :: u184 :: u185 :: u186 :: u187 :: u188 :: u189 :: u190 :: u191 :: u192 :: u193 :: u194 :: u195 :: u196 :: t197 :: t198 :: t199 :: t200 :: t201 :: t202 :: t203 :: t204 :: t205 :: t206 :: t207 :: t208 :: t209 :: t210 :: t211 :: t212 :: t213 :: t214 :: t215 :: t216 :: t217 :: t218 :: t219 :: t220 :: t221 :: t222 :: t223 :: t224 :: t225 :: t226 :: t227 :: t228 :: t229 :: t230 :: t231 :: t232 :: t233 :: t234 :: t235 :: t236 :: t237 :: t238 :: t239 :: t240 :: t241 :: t242 :: t243 :: []), []⟩ w') : Code.wp Try.prog (Code.block 2 (loopOf Try.f5 2)) Q ⟨List.toArray (t0 :: t1 :: t2 :: t3 :: t4 :: t5 :: t6 :: t7 :: .pointer (some ⟨mp, 0, none⟩) :: t9 :: .pointer (some ⟨np, 0, none⟩) :: t11 :: .pointer (some ⟨bp, 0, none⟩) :: t13 :: .pointer (some ⟨rp, 0, none⟩) :: t15 :: t16 :: .pointer (some ⟨ob, 0, none⟩) :: .bool true :: t19 :: t20 :: t21 :: t22 :: t23 :: t24 :: t25 :: t26 :: t27 :: t28 :: t29 :: t30 :: t31 :: t32 :: t33 :: t34 :: t35 :: t36 :: t37 :: t38 :: t39 :: t40 :: t41 :: t42 :: t43 :: t44 :: t45 :: t46 :: t47 :: t48 :: t49 :: t50 :: t51 :: t52 :: t53 :: t54 :: t55 :: t56 :: t57 :: t58 :: t59 :: t60 :: t61 :: t62 :: t63 :: t64 :: t65 :: t66 :: t67 :: t68 :: t69 :: t70 :: t71 :: t72 :: t73 :: t74 :: t75 :: t76 :: t77 :: t78 :: t79 :: t80 :: t81 :: t82 :: t83 :: t84 :: t85 :: t86 :: t87 :: t88 :: t89 :: t90 :: t91 :: t92 :: t93 :: t94 :: t95 :: t96 :: t97 :: t98 :: t99 :: t100 :: t101 :: t102 :: vi dd :: t104 :: t105 :: t106 :: t107 :: t108 :: t109 :: t110 :: t111 :: t112 :: t113 :: t114 :: t115 :: t116 :: t117 :: t118 :: t119 :: t120 :: t121 :: t122 :: t123 :: t124 :: t125 :: t126 :: t127 :: t128 :: t129 :: t130 :: t131 :: t132 :: t133 :: t134 :: t135 :: t136 :: t137 :: t138 :: t139 :: t140 :: t141 :: t142 :: t143 :: t144 :: t145 :: t146 :: t147 :: t148 :: t149 :: t150 :: t151 :: t152 :: t153 :: t154 :: t155 :: t156 :: t157 :: t158 :: t159 :: t160 :: t161 :: t162 :: t163 :: t164 :: t165 :: t166 :: t167 :: t168 :: t169 :: t170 :: t171 :: t172 :: t173 :: t174 :: t175 :: t176 :: t177 :: t178 :: t179 :: t180 :: t181 :: t182 :: t183 :: t184 :: t185 :: t186 :: t187 :: t188 :: t189 :: t190 :: t191 :: t192 :: t193 :: t194 :: t195 :: t196 :: t197 :: t198 :: t199 :: t200 :: t201 :: t202 :: t203 :: t204 :: t205 :: t206 :: t207 :: t208 :: t209 :: t210 :: t211 :: t212 :: t213 :: t214 :: t215 :: t216 :: t217 :: t218 :: t219 :: t220 :: t221 :: t222 :: t223 :: t224 :: t225 :: t226 :: t227 :: t228 :: t229 :: t230 :: t231 :: t232 :: t233 :: t234 :: t235 :: t236 :: t237 :: t238 :: t239 :: t240 :: t241 :: t242 :: t243 :: []), []⟩ w := by
  by_cases h0 : dd = 0 ∨ dd = 1
  · exact plays_alloc b _hgl e1 e2 e3 e4 x dd Q w hs _ _ _ _ _ _ _ _ _ _ _ _ _ _ _ _ _ _ _ _ _ _ _ _ _ _ _ _ _ _ _ _ _ _ _ _ _ _ _ _ _ _ _ _ _ _ _ _ _ _ _ _ _ _ _ _ _ _ _ _ _ _ _ _ _ _ _ _ _ _ _ _ _ _ _ _ _ _ _ _ _ _ _ _ _ _ _ _ _ _ _ _ _ _ _ _ _ _ _ _ _ _ _ _ _ _ _ _ _ _ _ _ _ _ _ _ _ _ _ _ _ _ _ _ _ _ _ _ _ _ _ _ _ _ _ _ _ _ _ _ _ _ _ _ _ _ _ _ _ _ _ _ _ _ _ _ _ _ _ _ _ _ _ _ _ _ _ _ _ _ _ _ _ _ _ _ _ _ _ _ _ _ _ _ _ _ _ _ _ _ _ _ _ _ _ _ _ _ _ _ _ _ _ _ _ _ _ _ _ _ _ _ _ _ _ _ _ _ _ _ _ _ _ _ _ _ _ _ _ _ _ _ _ _ _ _ _ h h0
  · by_cases h2 : dd = 2
    · exact plays_gave b _hgl e1 e2 e3 e4 x dd Q w hs _ _ _ _ _ _ _ _ _ _ _ _ _ _ _ _ _ _ _ _ _ _ _ _ _ _ _ _ _ _ _ _ _ _ _ _ _ _ _ _ _ _ _ _ _ _ _ _ _ _ _ _ _ _ _ _ _ _ _ _ _ _ _ _ _ _ _ _ _ _ _ _ _ _ _ _ _ _ _ _ _ _ _ _ _ _ _ _ _ _ _ _ _ _ _ _ _ _ _ _ _ _ _ _ _ _ _ _ _ _ _ _ _ _ _ _ _ _ _ _ _ _ _ _ _ _ _ _ _ _ _ _ _ _ _ _ _ _ _ _ _ _ _ _ _ _ _ _ _ _ _ _ _ _ _ _ _ _ _ _ _ _ _ _ _ _ _ _ _ _ _ _ _ _ _ _ _ _ _ _ _ _ _ _ _ _ _ _ _ _ _ _ _ _ _ _ _ _ _ _ _ _ _ _ _ _ _ _ _ _ _ _ _ _ _ _ _ _ _ _ _ _ _ _ _ _ _ _ _ _ _ _ _ _ _ _ _ h h2
    · by_cases h3 : dd = 3
      · exact plays_free3 b _hgl e1 e2 e3 e4 x dd Q w hs _ _ _ _ _ _ _ _ _ _ _ _ _ _ _ _ _ _ _ _ _ _ _ _ _ _ _ _ _ _ _ _ _ _ _ _ _ _ _ _ _ _ _ _ _ _ _ _ _ _ _ _ _ _ _ _ _ _ _ _ _ _ _ _ _ _ _ _ _ _ _ _ _ _ _ _ _ _ _ _ _ _ _ _ _ _ _ _ _ _ _ _ _ _ _ _ _ _ _ _ _ _ _ _ _ _ _ _ _ _ _ _ _ _ _ _ _ _ _ _ _ _ _ _ _ _ _ _ _ _ _ _ _ _ _ _ _ _ _ _ _ _ _ _ _ _ _ _ _ _ _ _ _ _ _ _ _ _ _ _ _ _ _ _ _ _ _ _ _ _ _ _ _ _ _ _ _ _ _ _ _ _ _ _ _ _ _ _ _ _ _ _ _ _ _ _ _ _ _ _ _ _ _ _ _ _ _ _ _ _ _ _ _ _ _ _ _ _ _ _ _ _ _ _ _ _ _ _ _ _ _ _ _ _ _ _ _ h h3
      · exact plays_write b _hgl e1 e2 e3 e4 x dd Q w hs _ _ _ _ _ _ _ _ _ _ _ _ _ _ _ _ _ _ _ _ _ _ _ _ _ _ _ _ _ _ _ _ _ _ _ _ _ _ _ _ _ _ _ _ _ _ _ _ _ _ _ _ _ _ _ _ _ _ _ _ _ _ _ _ _ _ _ _ _ _ _ _ _ _ _ _ _ _ _ _ _ _ _ _ _ _ _ _ _ _ _ _ _ _ _ _ _ _ _ _ _ _ _ _ _ _ _ _ _ _ _ _ _ _ _ _ _ _ _ _ _ _ _ _ _ _ _ _ _ _ _ _ _ _ _ _ _ _ _ _ _ _ _ _ _ _ _ _ _ _ _ _ _ _ _ _ _ _ _ _ _ _ _ _ _ _ _ _ _ _ _ _ _ _ _ _ _ _ _ _ _ _ _ _ _ _ _ _ _ _ _ _ _ _ _ _ _ _ _ _ _ _ _ _ _ _ _ _ _ _ _ _ _ _ _ _ _ _ _ _ _ _ _ _ _ _ _ _ _ _ _ _ _ _ _ _ _ h (fun h => h0 (.inl h)) (fun h => h0 (.inr h)) h2 h3
end
end Go.Proofs.Ytglelfceogpbpaa
