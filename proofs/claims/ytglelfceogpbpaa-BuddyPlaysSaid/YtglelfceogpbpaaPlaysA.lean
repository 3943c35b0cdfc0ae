/- law 04's BuddyPlays: what is done with one of the calls. -/
import Derived.Test.YtglelfceogpbpaaBoth
import Derived.Test.YtglelfceogpbpaaAwake
import Derived.Test.YtglelfceogpbpaaOpsAt
import Derived.Deep.CutBlock
namespace Go.Proofs.Ytglelfceogpbpaa
open Go.RowKit

/-- the chunk of a copy of a call -/
def opChunk (ob : Nat) (x : OpR) : Chunk := [(ob, .cells #[vi x.d, vi x.n, vi x.o, vu x.w] 32 (0, 0))]


theorem op_cells {z w : World} {cs : List Chunk} {ob : Nat} {x : OpR} (hs : Sat z w cs) (hm : opChunk ob x ∈ cs) : w.cell? ⟨ob, 0, none⟩ = some (vi x.d) ∧ w.cell? ⟨ob, 1, none⟩ = some (vi x.n) ∧ w.cell? ⟨ob, 2, none⟩ = some (vi x.o) ∧ w.cell? ⟨ob, 3, none⟩ = some (vu x.w) := by
  have hb := hs.block (b := ob) (o := .cells #[vi x.d, vi x.n, vi x.o, vu x.w] 32 (0, 0)) (List.mem_flatten.2 ⟨_, hm, by simp [opChunk]⟩)
  refine ⟨?_, ?_, ?_, ?_⟩ <;> simp [World.cell?, hb]

section
variable {z : World}
set_option maxRecDepth 100000 in
set_option maxHeartbeats 1000000 in
theorem plays_alloc {B : Bd} {M : Mem} {Fr : Nat → Prop} {R : RB} {N : RMem} (b : Both B M Fr R N) (_hgl : B.ents.length ≤ 100) {F : List Chunk} {bp mp rp np ob : Nat} (e1 : B.p = bp) (e2 : M.p = mp) (e3 : R.p = rp) (e4 : N.p = np) (x : OpR) (dd : Int) (Q : Exit → Act → World → Prop) (w : World) (hs : Sat z w (B.hp :: M.hp :: R.hp :: N.hp :: opChunk ob x :: F)) (t0 t1 t2 t3 t4 t5 t6 t7 t9 t11 t13 t15 t16 t19 t20 t21 t22 t23 t24 t25 t26 t27 t28 t29 t30 t31 t32 t33 t34 t35 t36 t37 t38 t39 t40 t41 t42 t43 t44 t45 t46 t47 t48 t49 t50 t51 t52 t53 t54 t55 t56 t57 t58 t59 t60 t61 t62 t63 t64 t65 t66 t67 t68 t69 t70 t71 t72 t73 t74 t75 t76 t77 t78 t79 t80 t81 t82 t83 t84 t85 t86 t87 t88 t89 t90 t91 t92 t93 t94 t95 t96 t97 t98 t99 t100 t101 t102 t104 t105 t106 t107 t108 t109 t110 t111 t112 t113 t114 t115 t116 t117 t118 t119 t120 t121 t122 t123 t124 t125 t126 t127 t128 t129 t130 t131 t132 t133 t134 t135 t136 t137 t138 t139 t140 t141 t142 t143 t144 t145 t146 t147 t148 t149 t150 t151 t152 t153 t154 t155 t156 t157 t158 t159 t160 t161 t162 t163 t164 t165 t166 t167 t168 t169 t170 t171 t172 t173 t174 t175 t176 t177 t178 t179 t180 t181 t182 t183 t184 t185 t186 t187 t188 t189 t190 t191 t192 t193 t194 t195 t196 t197 t198 t199 t200 t201 t202 t203 t204 t205 t206 t207 t208 t209 t210 t211 t212 t213 t214 t215 t216 t217 t218 t219 t220 t221 t222 t223 t224 t225 t226 t227 t228 t229 t230 t231 t232 t233 t234 t235 t236 t237 t238 t239 t240 t241 t242 t243 : Value) (h : ∀ (u19 u20 u21 u22 u23 u104 u105 u106 u107 u108 u109 u110 u111 u112 u113 u114 u115 u116 u117 u118 u119 u120 u121 u122 u123 u124 u125 u126 u127 u128 u129 u130 u131 u132 u133 u134 u135 u136 u137 u138 u139 u140 u141 u142 u143 u144 u145 u146 u147 u148 u149 u150 u151 u152 u153 u154 u155 u156 u157 u158 u159 u160 u161 u162 u163 u164 u165 u166 u167 u168 u169 u170 u171 u172 u173 u174 u175 u176 u177 u178 u179 u180 u181 u182 u183 u184 u185 u186 u187 u188 u189 u190 u191 u192 u193 u194 u195 u196 : Value) (w' : World) (B' : Bd) (M' : Mem) (Fr' : Nat → Prop) (R' : RB) (N' : RMem), B'.p = bp → M'.p = mp → R'.p = rp → N'.p = np → B'.ents.length ≤ B.ents.length + 1 → Both B' M' Fr' R' N' → Sat z w' (B'.hp :: M'.hp :: R'.hp :: N'.hp :: opChunk ob x :: F) → Q .normal ⟨List.toArray (t0 :: t1 :: t2 :: t3 :: t4 :: t5 :: t6 :: t7 :: .pointer (some ⟨mp, 0, none⟩) :: t9 :: .pointer (some ⟨np, 0, none⟩) :: t11 :: .pointer (some ⟨bp, 0, none⟩) :: t13 :: .pointer (some ⟨rp, 0, none⟩) :: t15 :: t16 :: .pointer (some ⟨ob, 0, none⟩) :: .bool true :: u19 :: u20 :: u21 :: u22 :: u23 :: t24 :: t25 :: t26 :: t27 :: t28 :: t29 :: t30 :: t31 :: t32 :: t33 :: t34 :: t35 :: t36 :: t37 :: t38 :: t39 :: t40 :: t41 :: t42 :: t43 :: t44 :: t45 :: t46 :: t47 :: t48 :: t49 :: t50 :: t51 :: t52 :: t53 :: t54 :: t55 :: t56 :: t57 :: t58 :: t59 :: t60 :: t61 :: t62 :: t63 :: t64 :: t65 :: t66 :: t67 :: t68 :: t69 :: t70 :: t71 :: t72 :: t73 :: t74 :: t75 :: t76 :: t77 :: t78 :: t79 :: t80 :: t81 :: t82 :: t83 :: t84 :: t85 :: t86 :: t87 :: t88 :: t89 :: t90 :: t91 :: t92 :: t93 :: t94 :: t95 :: t96 :: t97 :: t98 :: t99 :: t100 :: t101 :: t102 :: vi dd :: u104 :: u105 :: u106 :: u107 :: u108 :: u109 :: u110 :: u111 :: u112 :: u113 :: u114 :: u115 :: u116 :: u117 :: u118 :: u119 :: u120 :: u121 :: u122 :: u123 :: u124 :: u125 :: u126 :: u127 :: u128 :: u129 :: u130 :: u131 :: u132 :: u133 :: u134 :: u135 :: u136 :: u137 :: u138 :: u139 :: u140 :: u141 :: u142 :: u143 :: u144 :: u145 :: u146 :: u147 :: u148 :: u149 :: u150 :: u151 :: u152 :: u153 :: u154 :: u155 :: u156 :: u157 :: u158 :: u159 :: u160 :: u161 :: u162 :: u163 :: u164 :: u165 :: u166 :: u167 :: u168 :: u169 :: u170 :: u171 :: u172 :: u173 :: u174 :: u175 :: u176 :: u177 :: u178 :: u179 :: u180 :: u181 :: u182 :: u183 :: u184 :: u185 :: u186 :: u187 :: u188 :: u189 :: u190 :: u191 :: u192 :: u193 :: u194 :: u195 :: u196 :: t197 :: t198 :: t199 :: t200 :: t201 :: t202 :: t203 :: t204 :: t205 :: t206 :: t207 :: t208 :: t209 :: t210 :: t211 :: t212 :: t213 :: t214 :: t215 :: t216 :: t217 :: t218 :: t219 :: t220 :: t221 :: t222 :: t223 :: t224 :: t225 :: t226 :: t227 :: t228 :: t229 :: t230 :: t231 :: t232 :: t233 :: t234 :: t235 :: t236 :: t237 :: t238 :: t239 :: t240 :: t241 :: t242 :: t243 :: []), []⟩ w') (hd : dd = 0 ∨ dd = 1) : Code.wp Try.prog (Code.block 2 (loopOf Try.f5 2)) Q ⟨List.toArray (t0 :: t1 :: t2 :: t3 :: t4 :: t5 :: t6 :: t7 :: .pointer (some ⟨mp, 0, none⟩) :: t9 :: .pointer (some ⟨np, 0, none⟩) :: t11 :: .pointer (some ⟨bp, 0, none⟩) :: t13 :: .pointer (some ⟨rp, 0, none⟩) :: t15 :: t16 :: .pointer (some ⟨ob, 0, none⟩) :: .bool true :: t19 :: t20 :: t21 :: t22 :: t23 :: t24 :: t25 :: t26 :: t27 :: t28 :: t29 :: t30 :: t31 :: t32 :: t33 :: t34 :: t35 :: t36 :: t37 :: t38 :: t39 :: t40 :: t41 :: t42 :: t43 :: t44 :: t45 :: t46 :: t47 :: t48 :: t49 :: t50 :: t51 :: t52 :: t53 :: t54 :: t55 :: t56 :: t57 :: t58 :: t59 :: t60 :: t61 :: t62 :: t63 :: t64 :: t65 :: t66 :: t67 :: t68 :: t69 :: t70 :: t71 :: t72 :: t73 :: t74 :: t75 :: t76 :: t77 :: t78 :: t79 :: t80 :: t81 :: t82 :: t83 :: t84 :: t85 :: t86 :: t87 :: t88 :: t89 :: t90 :: t91 :: t92 :: t93 :: t94 :: t95 :: t96 :: t97 :: t98 :: t99 :: t100 :: t101 :: t102 :: vi dd :: t104 :: t105 :: t106 :: t107 :: t108 :: t109 :: t110 :: t111 :: t112 :: t113 :: t114 :: t115 :: t116 :: t117 :: t118 :: t119 :: t120 :: t121 :: t122 :: t123 :: t124 :: t125 :: t126 :: t127 :: t128 :: t129 :: t130 :: t131 :: t132 :: t133 :: t134 :: t135 :: t136 :: t137 :: t138 :: t139 :: t140 :: t141 :: t142 :: t143 :: t144 :: t145 :: t146 :: t147 :: t148 :: t149 :: t150 :: t151 :: t152 :: t153 :: t154 :: t155 :: t156 :: t157 :: t158 :: t159 :: t160 :: t161 :: t162 :: t163 :: t164 :: t165 :: t166 :: t167 :: t168 :: t169 :: t170 :: t171 :: t172 :: t173 :: t174 :: t175 :: t176 :: t177 :: t178 :: t179 :: t180 :: t181 :: t182 :: t183 :: t184 :: t185 :: t186 :: t187 :: t188 :: t189 :: t190 :: t191 :: t192 :: t193 :: t194 :: t195 :: t196 :: t197 :: t198 :: t199 :: t200 :: t201 :: t202 :: t203 :: t204 :: t205 :: t206 :: t207 :: t208 :: t209 :: t210 :: t211 :: t212 :: t213 :: t214 :: t215 :: t216 :: t217 :: t218 :: t219 :: t220 :: t221 :: t222 :: t223 :: t224 :: t225 :: t226 :: t227 :: t228 :: t229 :: t230 :: t231 :: t232 :: t233 :: t234 :: t235 :: t236 :: t237 :: t238 :: t239 :: t240 :: t241 :: t242 :: t243 :: []), []⟩ w := by
  conv => arg 2; arg 2; whnf
  obtain ⟨c0, c1, c2, c3⟩ := op_cells (ob := ob) (x := x) hs (by simp)
  have hai := alloc_inv hs b.inv x.o
  rw [e1] at hai
  have Hai := Lib.hid hai
  have H := Lib.hid h
  have HE := Lib.hid (And.intro e1 (And.intro e2 (And.intro e3 e4)))
  clear h hs hai c0 c1 c3 e1 e2 e3 e4
  rcases hd with rfl | rfl
  all_goals
    go_wp2_with (first
      | (go_at_call 10
         refine Hai.out.mono ?_
         rintro e w1 ⟨B', Fr', y, c, rfl, hA, I', hp, h1⟩
         obtain ⟨_, _, d2, _⟩ := op_cells (ob := ob) (x := x) h1 (by simp)
         have hra := ralloc_both (Sat.sel [_, _, _, _] 4 [2, 0, 1, 3] h1 rfl (by decide)) b (by rw [b.gv, List.length_map]; omega) x.o
         rw [HE.out.2.2.1] at hra
         have Hra := Lib.hid hra
         have HA := Lib.hid (And.intro hA (And.intro I' hp))
         clear Hai h1 hA I' hp hra c2)
      | (go_at_call 20
         refine Hra.out.mono ?_
         rintro e w2 ⟨R', y', c', rfl, hA', h2⟩
         obtain ⟨rfl, rfl, b', hp'⟩ := b.alloc HA.out.1 HA.out.2.1 hA'
         have hl : B'.ents.length ≤ B.ents.length + 1 := by
           cases HA.out.1 with
           | bad _ => omega
           | full _ _ _ _ => omega
           | ok _ _ _ _ _ _ _ _ _ _ he _ => rw [he]; simp
         have Hl := Lib.hid hl
         have H2 := Lib.hid (Sat.sel [_, _, _, _] 4 [1, 2, 0, 3] h2 rfl (by decide))
         have Hb' := Lib.hid b'
         have Hp' := Lib.hid (hp'.trans HE.out.2.2.1)
         clear Hra h2 hA' hp' b' hl d2))
    exact H.out _ _ _ _ _ _ _ _ _ _ _ _ _ _ _ _ _ _ _ _ _ _ _ _ _ _ _ _ _ _ _ _ _ _ _ _ _ _ _ _ _ _ _ _ _ _ _ _ _ _ _ _ _ _ _ _ _ _ _ _ _ _ _ _ _ _ _ _ _ _ _ _ _ _ _ _ _ _ _ _ _ _ _ _ _ _ _ _ _ _ _ _ _ _ _ _ _ _ _ B' M Fr' R' N HA.out.2.2 HE.out.2.1 Hp'.out HE.out.2.2.2 Hl.out Hb'.out H2.out

set_option maxRecDepth 100000 in
set_option maxHeartbeats 1000000 in
theorem plays_write {B : Bd} {M : Mem} {Fr : Nat → Prop} {R : RB} {N : RMem} (b : Both B M Fr R N) (_hgl : B.ents.length ≤ 100) {F : List Chunk} {bp mp rp np ob : Nat} (e1 : B.p = bp) (e2 : M.p = mp) (e3 : R.p = rp) (e4 : N.p = np) (x : OpR) (dd : Int) (Q : Exit → Act → World → Prop) (w : World) (hs : Sat z w (B.hp :: M.hp :: R.hp :: N.hp :: opChunk ob x :: F)) (t0 t1 t2 t3 t4 t5 t6 t7 t9 t11 t13 t15 t16 t19 t20 t21 t22 t23 t24 t25 t26 t27 t28 t29 t30 t31 t32 t33 t34 t35 t36 t37 t38 t39 t40 t41 t42 t43 t44 t45 t46 t47 t48 t49 t50 t51 t52 t53 t54 t55 t56 t57 t58 t59 t60 t61 t62 t63 t64 t65 t66 t67 t68 t69 t70 t71 t72 t73 t74 t75 t76 t77 t78 t79 t80 t81 t82 t83 t84 t85 t86 t87 t88 t89 t90 t91 t92 t93 t94 t95 t96 t97 t98 t99 t100 t101 t102 t104 t105 t106 t107 t108 t109 t110 t111 t112 t113 t114 t115 t116 t117 t118 t119 t120 t121 t122 t123 t124 t125 t126 t127 t128 t129 t130 t131 t132 t133 t134 t135 t136 t137 t138 t139 t140 t141 t142 t143 t144 t145 t146 t147 t148 t149 t150 t151 t152 t153 t154 t155 t156 t157 t158 t159 t160 t161 t162 t163 t164 t165 t166 t167 t168 t169 t170 t171 t172 t173 t174 t175 t176 t177 t178 t179 t180 t181 t182 t183 t184 t185 t186 t187 t188 t189 t190 t191 t192 t193 t194 t195 t196 t197 t198 t199 t200 t201 t202 t203 t204 t205 t206 t207 t208 t209 t210 t211 t212 t213 t214 t215 t216 t217 t218 t219 t220 t221 t222 t223 t224 t225 t226 t227 t228 t229 t230 t231 t232 t233 t234 t235 t236 t237 t238 t239 t240 t241 t242 t243 : Value) (h : ∀ (u19 u20 u21 u22 u23 u104 u105 u106 u107 u108 u109 u110 u111 u112 u113 u114 u115 u116 u117 u118 u119 u120 u121 u122 u123 u124 u125 u126 u127 u128 u129 u130 u131 u132 u133 u134 u135 u136 u137 u138 u139 u140 u141 u142 u143 u144 u145 u146 u147 u148 u149 u150 u151 u152 u153 u154 u155 u156 u157 u158 u159 u160 u161 u162 u163 u164 u165 u166 u167 u168 u169 u170 u171 u172 u173 u174 u175 u176 u177 u178 u179 u180 u181 u182 u183 u184 u185 u186 u187 u188 u189 u190 u191 u192 u193 u194 u195 u196 : Value) (w' : World) (B' : Bd) (M' : Mem) (Fr' : Nat → Prop) (R' : RB) (N' : RMem), B'.p = bp → M'.p = mp → R'.p = rp → N'.p = np → B'.ents.length ≤ B.ents.length + 1 → Both B' M' Fr' R' N' → Sat z w' (B'.hp :: M'.hp :: R'.hp :: N'.hp :: opChunk ob x :: F) → Q .normal ⟨List.toArray (t0 :: t1 :: t2 :: t3 :: t4 :: t5 :: t6 :: t7 :: .pointer (some ⟨mp, 0, none⟩) :: t9 :: .pointer (some ⟨np, 0, none⟩) :: t11 :: .pointer (some ⟨bp, 0, none⟩) :: t13 :: .pointer (some ⟨rp, 0, none⟩) :: t15 :: t16 :: .pointer (some ⟨ob, 0, none⟩) :: .bool true :: u19 :: u20 :: u21 :: u22 :: u23 :: t24 :: t25 :: t26 :: t27 :: t28 :: t29 :: t30 :: t31 :: t32 :: t33 :: t34 :: t35 :: t36 :: t37 :: t38 :: t39 :: t40 :: t41 :: t42 :: t43 :: t44 :: t45 :: t46 :: t47 :: t48 :: t49 :: t50 :: t51 :: t52 :: t53 :: t54 :: t55 :: t56 :: t57 :: t58 :: t59 :: t60 :: t61 :: t62 :: t63 :: t64 :: t65 :: t66 :: t67 :: t68 :: t69 :: t70 :: t71 :: t72 :: t73 :: t74 :: t75 :: t76 :: t77 :: t78 :: t79 :: t80 :: t81 :: t82 :: t83 :: t84 :: t85 :: t86 :: t87 :: t88 :: t89 :: t90 :: t91 :: t92 :: t93 :: t94 :: t95 :: t96 :: t97 :: t98 :: t99 :: t100 :: t101 :: t102 :: vi dd :: u104 :: u105 :: u106 :: u107 :: u108 :: u109 :: u110 :: u111 :: u112 :: u113 :: u114 :: u115 :: u116 :: u117 :: u118 :: u119 :: u120 :: u121 :: u122 :: u123 :: u124 :: u125 :: u126 :: u127 :: u128 :: u129 :: u130 :: u131 :: u132 :: u133 :: u134 :: u135 :: u136 :: u137 :: u138 :: u139 :: u140 :: u141 :: u142 :: u143 :: u144 :: u145 :: u146 :: u147 :: u148 :: u149 :: u150 :: u151 :: u152 :: u153 :: u154 :: u155 :: u156 :: u157 :: u158 :: u159 :: u160 :: u161 :: u162 :: u163 :: u164 :: u165 :: u166 :: u167 :: u168 :: u169 :: u170 :: u171 :: u172 :: u173 :: u174 :: u175 :: u176 :: u177 :: u178 :: u179 :: u180 :: u181 :: u182 :: u183 :: u184 :: u185 :: u186 :: u187 :: u188 :: u189 :: u190 :: u191 :: u192 :: u193 :: u194 :: u195 :: u196 :: t197 :: t198 :: t199 :: t200 :: t201 :: t202 :: t203 :: t204 :: t205 :: t206 :: t207 :: t208 :: t209 :: t210 :: t211 :: t212 :: t213 :: t214 :: t215 :: t216 :: t217 :: t218 :: t219 :: t220 :: t221 :: t222 :: t223 :: t224 :: t225 :: t226 :: t227 :: t228 :: t229 :: t230 :: t231 :: t232 :: t233 :: t234 :: t235 :: t236 :: t237 :: t238 :: t239 :: t240 :: t241 :: t242 :: t243 :: []), []⟩ w') (hd0 : ¬ dd = 0) (hd1 : ¬ dd = 1) (hd2 : ¬ dd = 2) (hd3 : ¬ dd = 3) : Code.wp Try.prog (Code.block 2 (loopOf Try.f5 2)) Q ⟨List.toArray (t0 :: t1 :: t2 :: t3 :: t4 :: t5 :: t6 :: t7 :: .pointer (some ⟨mp, 0, none⟩) :: t9 :: .pointer (some ⟨np, 0, none⟩) :: t11 :: .pointer (some ⟨bp, 0, none⟩) :: t13 :: .pointer (some ⟨rp, 0, none⟩) :: t15 :: t16 :: .pointer (some ⟨ob, 0, none⟩) :: .bool true :: t19 :: t20 :: t21 :: t22 :: t23 :: t24 :: t25 :: t26 :: t27 :: t28 :: t29 :: t30 :: t31 :: t32 :: t33 :: t34 :: t35 :: t36 :: t37 :: t38 :: t39 :: t40 :: t41 :: t42 :: t43 :: t44 :: t45 :: t46 :: t47 :: t48 :: t49 :: t50 :: t51 :: t52 :: t53 :: t54 :: t55 :: t56 :: t57 :: t58 :: t59 :: t60 :: t61 :: t62 :: t63 :: t64 :: t65 :: t66 :: t67 :: t68 :: t69 :: t70 :: t71 :: t72 :: t73 :: t74 :: t75 :: t76 :: t77 :: t78 :: t79 :: t80 :: t81 :: t82 :: t83 :: t84 :: t85 :: t86 :: t87 :: t88 :: t89 :: t90 :: t91 :: t92 :: t93 :: t94 :: t95 :: t96 :: t97 :: t98 :: t99 :: t100 :: t101 :: t102 :: vi dd :: t104 :: t105 :: t106 :: t107 :: t108 :: t109 :: t110 :: t111 :: t112 :: t113 :: t114 :: t115 :: t116 :: t117 :: t118 :: t119 :: t120 :: t121 :: t122 :: t123 :: t124 :: t125 :: t126 :: t127 :: t128 :: t129 :: t130 :: t131 :: t132 :: t133 :: t134 :: t135 :: t136 :: t137 :: t138 :: t139 :: t140 :: t141 :: t142 :: t143 :: t144 :: t145 :: t146 :: t147 :: t148 :: t149 :: t150 :: t151 :: t152 :: t153 :: t154 :: t155 :: t156 :: t157 :: t158 :: t159 :: t160 :: t161 :: t162 :: t163 :: t164 :: t165 :: t166 :: t167 :: t168 :: t169 :: t170 :: t171 :: t172 :: t173 :: t174 :: t175 :: t176 :: t177 :: t178 :: t179 :: t180 :: t181 :: t182 :: t183 :: t184 :: t185 :: t186 :: t187 :: t188 :: t189 :: t190 :: t191 :: t192 :: t193 :: t194 :: t195 :: t196 :: t197 :: t198 :: t199 :: t200 :: t201 :: t202 :: t203 :: t204 :: t205 :: t206 :: t207 :: t208 :: t209 :: t210 :: t211 :: t212 :: t213 :: t214 :: t215 :: t216 :: t217 :: t218 :: t219 :: t220 :: t221 :: t222 :: t223 :: t224 :: t225 :: t226 :: t227 :: t228 :: t229 :: t230 :: t231 :: t232 :: t233 :: t234 :: t235 :: t236 :: t237 :: t238 :: t239 :: t240 :: t241 :: t242 :: t243 :: []), []⟩ w := by
  conv => arg 2; arg 2; whnf
  obtain ⟨c0, c1, c2, c3⟩ := op_cells (ob := ob) (x := x) hs.drew (by simp)
  obtain ⟨b', hins, hnp⟩ := b.write x.n x.w
  have hw1 := mem_write (M := M) (Sat.sel [_, _, _, _] 4 [1, 0, 2, 3] hs.drew rfl (by decide)) b.inv.mok x.n x.w
  rw [e2] at hw1
  generalize hcw : (if M.inside x.n = true then (0 : Int) else 1) = cw at *
  have Hw1 := Lib.hid hw1
  have H := Lib.hid h
  have HE := Lib.hid (And.intro e1 (And.intro e2 (And.intro e3 (And.intro e4 (And.intro hins (And.intro hnp hcw))))))
  clear h hs hw1 c0 c2 e1 e2 e3 e4 hins hnp hcw
  go_wp2_with fail
  refine wp_region_plan (fun w' => w'.cell? ⟨ob, 1, none⟩ = some (vi x.n) ∧ w'.cell? ⟨ob, 3, none⟩ = some (vu x.w)) [(0, false), (1, false), (2, false), (3, false), (4, false), (6, false), (7, false), (8, false), (9, false), (10, false), (5, true), (11, true), (12, false), (13, false)] (by kernel_rfl) (by kernel_rfl) ⟨c1, c3⟩ ?_
  refine wpPlan_q (v := ?_) rfl rfl ?_ ?_; rotate_left 1; · (intro wS hS; go_simp; try with_reducible rfl)
  simp only [Act.put, List.setIfInBounds_toArray, List.set_cons_zero, List.set_cons_succ]
  refine wpPlan_q (v := ?_) rfl rfl ?_ ?_; rotate_left 1; · (intro wS hS; go_simp; try with_reducible rfl)
  simp only [Act.put, List.setIfInBounds_toArray, List.set_cons_zero, List.set_cons_succ]
  refine wpPlan_q (v := ?_) rfl rfl ?_ ?_; rotate_left 1; · (intro wS hS; go_simp; try with_reducible rfl)
  simp only [Act.put, List.setIfInBounds_toArray, List.set_cons_zero, List.set_cons_succ]
  refine wpPlan_q (v := ?_) rfl rfl ?_ ?_; rotate_left 1; · (intro wS hS; go_simp; try with_reducible rfl)
  simp only [Act.put, List.setIfInBounds_toArray, List.set_cons_zero, List.set_cons_succ]
  refine wpPlan_q (v := ?_) rfl rfl ?_ ?_; rotate_left 1; · (intro wS hS; go_simp; try with_reducible rfl)
  simp only [Act.put, List.setIfInBounds_toArray, List.set_cons_zero, List.set_cons_succ]
  refine wpPlan_q (v := ?_) rfl rfl ?_ ?_; rotate_left 1; · (intro wS hS; go_simp; try with_reducible rfl)
  simp only [Act.put, List.setIfInBounds_toArray, List.set_cons_zero, List.set_cons_succ]
  refine wpPlan_q (v := ?_) rfl rfl ?_ ?_; rotate_left 1; · (intro wS hS; go_simp; try with_reducible rfl)
  simp only [Act.put, List.setIfInBounds_toArray, List.set_cons_zero, List.set_cons_succ]
  refine wpPlan_q (v := ?_) rfl rfl ?_ ?_; rotate_left 1; · (intro wS hS; go_simp; try with_reducible rfl)
  simp only [Act.put, List.setIfInBounds_toArray, List.set_cons_zero, List.set_cons_succ]
  refine wpPlan_q (v := ?_) rfl rfl ?_ ?_; rotate_left 1; · (intro wS hS; go_simp; try with_reducible rfl)
  simp only [Act.put, List.setIfInBounds_toArray, List.set_cons_zero, List.set_cons_succ]
  refine wpPlan_q (v := ?_) rfl rfl ?_ ?_; rotate_left 1; · (intro wS hS; go_simp; try with_reducible rfl)
  simp only [Act.put, List.setIfInBounds_toArray, List.set_cons_zero, List.set_cons_succ]
  refine wpPlan_e rfl rfl (fun K hK => ?_)
  go_wp2_with (go_at_call 12; refine Hw1.out.mono ?_; rintro e w1 ⟨rfl, h1⟩)
  obtain ⟨_, d1, _, d3⟩ := op_cells (ob := ob) (x := x) h1 (by simp)
  refine hK _ _ ⟨d1, d3⟩ ?_
  clear hK K
  have hw2 := rmem_write (M := N) (Sat.sel [_, _, _, _] 4 [3, 0, 1, 2] h1 rfl (by decide)) b.nok x.n x.w
  rw [← HE.out.2.2.2.2.1, HE.out.2.2.2.2.2.2, HE.out.2.2.2.1] at hw2
  have Hw2 := Lib.hid hw2
  clear Hw1 h1 d1 d3 hw2
  refine wpPlan_e rfl rfl (fun K hK => ?_)
  go_wp2_with (go_at_call 22; refine Hw2.out.mono ?_; rintro e w2 ⟨rfl, h2⟩)
  obtain ⟨_, d1, _, d3⟩ := op_cells (ob := ob) (x := x) h2 (by simp)
  refine hK _ _ ⟨d1, d3⟩ ?_
  clear hK K
  have H2 := Lib.hid (Sat.sel [_, _, _, _] 4 [2, 1, 3, 0] h2 rfl (by decide))
  clear Hw2 h2 d1 d3
  refine wpPlan_q (v := .bool true) rfl rfl ?_ ?_; · (intro wS hS; go_simp; try simp)
  simp only [Act.put, List.setIfInBounds_toArray, List.set_cons_zero, List.set_cons_succ]
  refine wpPlan_q (v := ?_) rfl rfl ?_ ?_; rotate_left 1; · (intro wS hS; go_simp; try with_reducible rfl)
  simp only [Act.put, List.setIfInBounds_toArray, List.set_cons_zero, List.set_cons_succ]
  refine wpPlan_nil (NoPanic.normal ?_)
  go_wp2
  exact H.out _ _ _ _ _ _ _ _ _ _ _ _ _ _ _ _ _ _ _ _ _ _ _ _ _ _ _ _ _ _ _ _ _ _ _ _ _ _ _ _ _ _ _ _ _ _ _ _ _ _ _ _ _ _ _ _ _ _ _ _ _ _ _ _ _ _ _ _ _ _ _ _ _ _ _ _ _ _ _ _ _ _ _ _ _ _ _ _ _ _ _ _ _ _ _ _ _ _ _ B _ Fr R _ HE.out.1 ((M.put_n x.n x.w).2.trans HE.out.2.1) HE.out.2.2.1 (HE.out.2.2.2.2.2.1.trans HE.out.2.2.2.1) (by omega) b' H2.out

set_option maxRecDepth 100000 in
set_option maxHeartbeats 1000000 in
theorem plays_free3 {B : Bd} {M : Mem} {Fr : Nat → Prop} {R : RB} {N : RMem} (b : Both B M Fr R N) (_hgl : B.ents.length ≤ 100) {F : List Chunk} {bp mp rp np ob : Nat} (e1 : B.p = bp) (e2 : M.p = mp) (e3 : R.p = rp) (e4 : N.p = np) (x : OpR) (dd : Int) (Q : Exit → Act → World → Prop) (w : World) (hs : Sat z w (B.hp :: M.hp :: R.hp :: N.hp :: opChunk ob x :: F)) (t0 t1 t2 t3 t4 t5 t6 t7 t9 t11 t13 t15 t16 t19 t20 t21 t22 t23 t24 t25 t26 t27 t28 t29 t30 t31 t32 t33 t34 t35 t36 t37 t38 t39 t40 t41 t42 t43 t44 t45 t46 t47 t48 t49 t50 t51 t52 t53 t54 t55 t56 t57 t58 t59 t60 t61 t62 t63 t64 t65 t66 t67 t68 t69 t70 t71 t72 t73 t74 t75 t76 t77 t78 t79 t80 t81 t82 t83 t84 t85 t86 t87 t88 t89 t90 t91 t92 t93 t94 t95 t96 t97 t98 t99 t100 t101 t102 t104 t105 t106 t107 t108 t109 t110 t111 t112 t113 t114 t115 t116 t117 t118 t119 t120 t121 t122 t123 t124 t125 t126 t127 t128 t129 t130 t131 t132 t133 t134 t135 t136 t137 t138 t139 t140 t141 t142 t143 t144 t145 t146 t147 t148 t149 t150 t151 t152 t153 t154 t155 t156 t157 t158 t159 t160 t161 t162 t163 t164 t165 t166 t167 t168 t169 t170 t171 t172 t173 t174 t175 t176 t177 t178 t179 t180 t181 t182 t183 t184 t185 t186 t187 t188 t189 t190 t191 t192 t193 t194 t195 t196 t197 t198 t199 t200 t201 t202 t203 t204 t205 t206 t207 t208 t209 t210 t211 t212 t213 t214 t215 t216 t217 t218 t219 t220 t221 t222 t223 t224 t225 t226 t227 t228 t229 t230 t231 t232 t233 t234 t235 t236 t237 t238 t239 t240 t241 t242 t243 : Value) (h : ∀ (u19 u20 u21 u22 u23 u104 u105 u106 u107 u108 u109 u110 u111 u112 u113 u114 u115 u116 u117 u118 u119 u120 u121 u122 u123 u124 u125 u126 u127 u128 u129 u130 u131 u132 u133 u134 u135 u136 u137 u138 u139 u140 u141 u142 u143 u144 u145 u146 u147 u148 u149 u150 u151 u152 u153 u154 u155 u156 u157 u158 u159 u160 u161 u162 u163 u164 u165 u166 u167 u168 u169 u170 u171 u172 u173 u174 u175 u176 u177 u178 u179 u180 u181 u182 u183 u184 u185 u186 u187 u188 u189 u190 u191 u192 u193 u194 u195 u196 : Value) (w' : World) (B' : Bd) (M' : Mem) (Fr' : Nat → Prop) (R' : RB) (N' : RMem), B'.p = bp → M'.p = mp → R'.p = rp → N'.p = np → B'.ents.length ≤ B.ents.length + 1 → Both B' M' Fr' R' N' → Sat z w' (B'.hp :: M'.hp :: R'.hp :: N'.hp :: opChunk ob x :: F) → Q .normal ⟨List.toArray (t0 :: t1 :: t2 :: t3 :: t4 :: t5 :: t6 :: t7 :: .pointer (some ⟨mp, 0, none⟩) :: t9 :: .pointer (some ⟨np, 0, none⟩) :: t11 :: .pointer (some ⟨bp, 0, none⟩) :: t13 :: .pointer (some ⟨rp, 0, none⟩) :: t15 :: t16 :: .pointer (some ⟨ob, 0, none⟩) :: .bool true :: u19 :: u20 :: u21 :: u22 :: u23 :: t24 :: t25 :: t26 :: t27 :: t28 :: t29 :: t30 :: t31 :: t32 :: t33 :: t34 :: t35 :: t36 :: t37 :: t38 :: t39 :: t40 :: t41 :: t42 :: t43 :: t44 :: t45 :: t46 :: t47 :: t48 :: t49 :: t50 :: t51 :: t52 :: t53 :: t54 :: t55 :: t56 :: t57 :: t58 :: t59 :: t60 :: t61 :: t62 :: t63 :: t64 :: t65 :: t66 :: t67 :: t68 :: t69 :: t70 :: t71 :: t72 :: t73 :: t74 :: t75 :: t76 :: t77 :: t78 :: t79 :: t80 :: t81 :: t82 :: t83 :: t84 :: t85 :: t86 :: t87 :: t88 :: t89 :: t90 :: t91 :: t92 :: t93 :: t94 :: t95 :: t96 :: t97 :: t98 :: t99 :: t100 :: t101 :: t102 :: vi dd :: u104 :: u105 :: u106 :: u107 :: u108 :: u109 :: u110 :: u111 :: u112 :: u113 :: u114 :: u115 :: u116 :: u117 :: u118 :: u119 :: u120 :: u121 :: u122 :: u123 :: u124 :: u125 :: u126 :: u127 :: u128 :: u129 :: u130 :: u131 :: u132 :: u133 :: u134 :: u135 :: u136 :: u137 :: u138 :: u139 :: u140 :: u141 :: u142 :: u143 :: u144 :: u145 :: u146 :: u147 :: u148 :: u149 :: u150 :: u151 :: u152 :: u153 :: u154 :: u155 :: u156 :: u157 :: u158 :: u159 :: u160 :: u161 :: u162 :: u163 :: u164 :: u165 :: u166 :: u167 :: u168 :: u169 :: u170 :: u171 :: u172 :: u173 :: u174 :: u175 :: u176 :: u177 :: u178 :: u179 :: u180 :: u181 :: u182 :: u183 :: u184 :: u185 :: u186 :: u187 :: u188 :: u189 :: u190 :: u191 :: u192 :: u193 :: u194 :: u195 :: u196 :: t197 :: t198 :: t199 :: t200 :: t201 :: t202 :: t203 :: t204 :: t205 :: t206 :: t207 :: t208 :: t209 :: t210 :: t211 :: t212 :: t213 :: t214 :: t215 :: t216 :: t217 :: t218 :: t219 :: t220 :: t221 :: t222 :: t223 :: t224 :: t225 :: t226 :: t227 :: t228 :: t229 :: t230 :: t231 :: t232 :: t233 :: t234 :: t235 :: t236 :: t237 :: t238 :: t239 :: t240 :: t241 :: t242 :: t243 :: []), []⟩ w') (hd : dd = 3) : Code.wp Try.prog (Code.block 2 (loopOf Try.f5 2)) Q ⟨List.toArray (t0 :: t1 :: t2 :: t3 :: t4 :: t5 :: t6 :: t7 :: .pointer (some ⟨mp, 0, none⟩) :: t9 :: .pointer (some ⟨np, 0, none⟩) :: t11 :: .pointer (some ⟨bp, 0, none⟩) :: t13 :: .pointer (some ⟨rp, 0, none⟩) :: t15 :: t16 :: .pointer (some ⟨ob, 0, none⟩) :: .bool true :: t19 :: t20 :: t21 :: t22 :: t23 :: t24 :: t25 :: t26 :: t27 :: t28 :: t29 :: t30 :: t31 :: t32 :: t33 :: t34 :: t35 :: t36 :: t37 :: t38 :: t39 :: t40 :: t41 :: t42 :: t43 :: t44 :: t45 :: t46 :: t47 :: t48 :: t49 :: t50 :: t51 :: t52 :: t53 :: t54 :: t55 :: t56 :: t57 :: t58 :: t59 :: t60 :: t61 :: t62 :: t63 :: t64 :: t65 :: t66 :: t67 :: t68 :: t69 :: t70 :: t71 :: t72 :: t73 :: t74 :: t75 :: t76 :: t77 :: t78 :: t79 :: t80 :: t81 :: t82 :: t83 :: t84 :: t85 :: t86 :: t87 :: t88 :: t89 :: t90 :: t91 :: t92 :: t93 :: t94 :: t95 :: t96 :: t97 :: t98 :: t99 :: t100 :: t101 :: t102 :: vi dd :: t104 :: t105 :: t106 :: t107 :: t108 :: t109 :: t110 :: t111 :: t112 :: t113 :: t114 :: t115 :: t116 :: t117 :: t118 :: t119 :: t120 :: t121 :: t122 :: t123 :: t124 :: t125 :: t126 :: t127 :: t128 :: t129 :: t130 :: t131 :: t132 :: t133 :: t134 :: t135 :: t136 :: t137 :: t138 :: t139 :: t140 :: t141 :: t142 :: t143 :: t144 :: t145 :: t146 :: t147 :: t148 :: t149 :: t150 :: t151 :: t152 :: t153 :: t154 :: t155 :: t156 :: t157 :: t158 :: t159 :: t160 :: t161 :: t162 :: t163 :: t164 :: t165 :: t166 :: t167 :: t168 :: t169 :: t170 :: t171 :: t172 :: t173 :: t174 :: t175 :: t176 :: t177 :: t178 :: t179 :: t180 :: t181 :: t182 :: t183 :: t184 :: t185 :: t186 :: t187 :: t188 :: t189 :: t190 :: t191 :: t192 :: t193 :: t194 :: t195 :: t196 :: t197 :: t198 :: t199 :: t200 :: t201 :: t202 :: t203 :: t204 :: t205 :: t206 :: t207 :: t208 :: t209 :: t210 :: t211 :: t212 :: t213 :: t214 :: t215 :: t216 :: t217 :: t218 :: t219 :: t220 :: t221 :: t222 :: t223 :: t224 :: t225 :: t226 :: t227 :: t228 :: t229 :: t230 :: t231 :: t232 :: t233 :: t234 :: t235 :: t236 :: t237 :: t238 :: t239 :: t240 :: t241 :: t242 :: t243 :: []), []⟩ w := by
  conv => arg 2; arg 2; whnf
  subst hd
  obtain ⟨c0, c1, c2, c3⟩ := op_cells (ob := ob) (x := x) hs.drew (by simp)
  have hf1 := free_inv hs.drew b.inv x.n x.o
  rw [e1] at hf1
  have Hf1 := Lib.hid hf1
  have H := Lib.hid h
  have HE := Lib.hid (And.intro e1 (And.intro e2 (And.intro e3 e4)))
  clear h hs hf1 c0 c3 e1 e2 e3 e4
  go_wp2_with fail
  refine wp_region_plan (fun w' => w'.cell? ⟨ob, 1, none⟩ = some (vi x.n) ∧ w'.cell? ⟨ob, 2, none⟩ = some (vi x.o)) [(0, false), (1, false), (2, false), (3, false), (4, false), (6, false), (7, false), (8, false), (9, false), (10, false), (5, true), (11, true), (12, false), (13, false)] (by kernel_rfl) (by kernel_rfl) ⟨c1, c2⟩ ?_
  refine wpPlan_q (v := ?_) rfl rfl ?_ ?_; rotate_left 1; · (intro wS hS; go_simp; try with_reducible rfl)
  simp only [Act.put, List.setIfInBounds_toArray, List.set_cons_zero, List.set_cons_succ]
  refine wpPlan_q (v := ?_) rfl rfl ?_ ?_; rotate_left 1; · (intro wS hS; go_simp; try with_reducible rfl)
  simp only [Act.put, List.setIfInBounds_toArray, List.set_cons_zero, List.set_cons_succ]
  refine wpPlan_q (v := ?_) rfl rfl ?_ ?_; rotate_left 1; · (intro wS hS; go_simp; try with_reducible rfl)
  simp only [Act.put, List.setIfInBounds_toArray, List.set_cons_zero, List.set_cons_succ]
  refine wpPlan_q (v := ?_) rfl rfl ?_ ?_; rotate_left 1; · (intro wS hS; go_simp; try with_reducible rfl)
  simp only [Act.put, List.setIfInBounds_toArray, List.set_cons_zero, List.set_cons_succ]
  refine wpPlan_q (v := ?_) rfl rfl ?_ ?_; rotate_left 1; · (intro wS hS; go_simp; try with_reducible rfl)
  simp only [Act.put, List.setIfInBounds_toArray, List.set_cons_zero, List.set_cons_succ]
  refine wpPlan_q (v := ?_) rfl rfl ?_ ?_; rotate_left 1; · (intro wS hS; go_simp; try with_reducible rfl)
  simp only [Act.put, List.setIfInBounds_toArray, List.set_cons_zero, List.set_cons_succ]
  refine wpPlan_q (v := ?_) rfl rfl ?_ ?_; rotate_left 1; · (intro wS hS; go_simp; try with_reducible rfl)
  simp only [Act.put, List.setIfInBounds_toArray, List.set_cons_zero, List.set_cons_succ]
  refine wpPlan_q (v := ?_) rfl rfl ?_ ?_; rotate_left 1; · (intro wS hS; go_simp; try with_reducible rfl)
  simp only [Act.put, List.setIfInBounds_toArray, List.set_cons_zero, List.set_cons_succ]
  refine wpPlan_q (v := ?_) rfl rfl ?_ ?_; rotate_left 1; · (intro wS hS; go_simp; try with_reducible rfl)
  simp only [Act.put, List.setIfInBounds_toArray, List.set_cons_zero, List.set_cons_succ]
  refine wpPlan_q (v := ?_) rfl rfl ?_ ?_; rotate_left 1; · (intro wS hS; go_simp; try with_reducible rfl)
  simp only [Act.put, List.setIfInBounds_toArray, List.set_cons_zero, List.set_cons_succ]
  refine wpPlan_e rfl rfl (fun K hK => ?_)
  go_wp2_with (go_at_call 9; refine Hf1.out.mono ?_; rintro e w1 ⟨B', M', Fr', c, rfl, hF, I', p1, p2, p3, h1⟩)
  obtain ⟨_, d1, d2, _⟩ := op_cells (ob := ob) (x := x) h1 (by simp)
  refine hK _ _ ⟨d1, d2⟩ ?_
  clear hK K
  have hf2 := rfree_both (Sat.sel [_, _, _, _] 4 [2, 3, 0, 1] h1 rfl (by decide)) b x.n x.o
  rw [HE.out.2.2.1] at hf2
  have Hf2 := Lib.hid hf2
  have HF := Lib.hid (And.intro hF (And.intro I' (And.intro p1 (p2.trans HE.out.2.1))))
  clear Hf1 h1 d1 d2 hf2 hF I' p1 p2 p3
  refine wpPlan_e rfl rfl (fun K hK => ?_)
  go_wp2_with (go_at_call 21; refine Hf2.out.mono ?_; rintro e w2 ⟨R', N', c', rfl, hF', h2⟩)
  obtain ⟨_, d1, d2, _⟩ := op_cells (ob := ob) (x := x) h2 (by simp)
  refine hK _ _ ⟨d1, d2⟩ ?_
  clear hK K
  obtain ⟨rfl, b', q1, q2⟩ := b.free HF.out.1 HF.out.2.1 hF'
  have hl : B'.ents.length ≤ B.ents.length + 1 := by
    cases HF.out.1 with
    | none _ => omega
    | ok _ _ j _ _ _ _ _ _ he => rw [he]; have := List.length_eraseIdx_le B.ents j; omega
  have Hl := Lib.hid hl
  have Hb' := Lib.hid b'
  have HQ := Lib.hid (And.intro (q1.trans HE.out.2.2.1) (q2.trans HE.out.2.2.2))
  have H2 := Lib.hid (Sat.sel [_, _, _, _] 4 [2, 3, 0, 1] h2 rfl (by decide))
  clear Hf2 h2 d1 d2 hF' b' q1 q2 hl
  refine wpPlan_q (v := .bool true) rfl rfl ?_ ?_; · (intro wS hS; go_simp; try simp)
  simp only [Act.put, List.setIfInBounds_toArray, List.set_cons_zero, List.set_cons_succ]
  refine wpPlan_q (v := ?_) rfl rfl ?_ ?_; rotate_left 1; · (intro wS hS; go_simp; try with_reducible rfl)
  simp only [Act.put, List.setIfInBounds_toArray, List.set_cons_zero, List.set_cons_succ]
  refine wpPlan_nil (NoPanic.normal ?_)
  go_wp2
  exact H.out _ _ _ _ _ _ _ _ _ _ _ _ _ _ _ _ _ _ _ _ _ _ _ _ _ _ _ _ _ _ _ _ _ _ _ _ _ _ _ _ _ _ _ _ _ _ _ _ _ _ _ _ _ _ _ _ _ _ _ _ _ _ _ _ _ _ _ _ _ _ _ _ _ _ _ _ _ _ _ _ _ _ _ _ _ _ _ _ _ _ _ _ _ _ _ _ _ _ _ B' M' Fr' R' N' HF.out.2.2.1 HF.out.2.2.2 HQ.out.1 HQ.out.2 Hl.out Hb'.out H2.out
end
end Go.Proofs.Ytglelfceogpbpaa
