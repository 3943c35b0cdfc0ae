/- law 04's BuddyPlays: the loop. -/
import Derived.Test.YtglelfceogpbpaaPlaysB
import Derived.Test.YtglelfceogpbpaaRSame
namespace Go.Proofs.Ytglelfceogpbpaa
open Go.RowKit

section
variable {z : World}
theorem op_at {A : Option Addr} {C : Nat} {l : List OpR} (hv : OpsAt z (.slice A l.length C) l) {m : Nat} (hm : m < l.length) : ∃ b off x, A = some ⟨b, off, none⟩ ∧ l[m]? = some x ∧
    ∀ {w : World} {cs : List Chunk}, Sat z w cs → whole z ∈ cs → w.rangeAt b (off + m * 4) [vi x.d, vi x.n, vi x.o, vu x.w] := by
  rcases hv with ⟨_, rfl⟩ | ⟨a, c, e, h⟩
  · simp at hm
  · simp only [Value.slice.injEq] at e
    obtain ⟨k0, _⟩ := h 0 _ (List.getElem?_eq_getElem (by omega))
    obtain ⟨b, off, spot⟩ := a
    have hspot : spot = none := by simpa [Addr.add] using World.cell?_spot k0
    subst hspot
    obtain ⟨k0, k1, k2, k3⟩ := h m _ (List.getElem?_eq_getElem hm)
    refine ⟨b, off, l[m], e.1, List.getElem?_eq_getElem hm, fun hs hw => ?_⟩
    intro i v hi
    match i with
    | 0 => simp at hi; subst hi; have := hs.old hw k0; rwa [Addr.add_lit] at this
    | 1 => simp at hi; subst hi; have := hs.old hw k1; rwa [Addr.add_lit, ← Nat.add_assoc] at this
    | 2 => simp at hi; subst hi; have := hs.old hw k2; rwa [Addr.add_lit, ← Nat.add_assoc] at this
    | 3 => simp at hi; subst hi; have := hs.old hw k3; rwa [Addr.add_lit, ← Nat.add_assoc] at this
    | i + 4 => simp at hi

set_option maxRecDepth 100000 in
set_option maxHeartbeats 4000000 in
theorem plays_loop {B : Bd} {M : Mem} {Fr : Nat → Prop} {R : RB} {N : RMem} (b : Both B M Fr R N) (he : B.ents.length ≤ 0) {A : Option Addr} {C : Nat} {l : List OpR} (hv : OpsAt z (.slice A l.length C) l)
    {bp mp rp np : Nat} (e1 : B.p = bp) (e2 : M.p = mp) (e3 : R.p = rp) (e4 : N.p = np)
    (Q : Exit → Act → World → Prop) (w : World) (hs : Sat z w [B.hp, M.hp, R.hp, N.hp, whole z])
    (t0 t1 t3 t4 t5 t6 t7 t9 t11 t13 t15 t17 t18 t19 t20 t21 t22 t23 t24 t25 t26 t27 t28 t29 t30 t31 t32 t33 t34 t35 t36 t37 t38 t39 t40 t41 t42 t43 t44 t45 t46 t47 t48 t49 t50 t51 t52 t53 t54 t55 t56 t57 t58 t59 t60 t61 t62 t63 t64 t65 t66 t67 t68 t69 t70 t71 t72 t73 t74 t75 t76 t77 t78 t79 t80 t81 t82 t83 t84 t85 t86 t87 t88 t89 t90 t91 t92 t93 t94 t95 t96 t97 t98 t99 t100 t101 t102 t103 t104 t105 t106 t107 t108 t109 t110 t111 t112 t113 t114 t115 t116 t117 t118 t119 t120 t121 t122 t123 t124 t125 t126 t127 t128 t129 t130 t131 t132 t133 t134 t135 t136 t137 t138 t139 t140 t141 t142 t143 t144 t145 t146 t147 t148 t149 t150 t151 t152 t153 t154 t155 t156 t157 t158 t159 t160 t161 t162 t163 t164 t165 t166 t167 t168 t169 t170 t171 t172 t173 t174 t175 t176 t177 t178 t179 t180 t181 t182 t183 t184 t185 t186 t187 t188 t189 t190 t191 t192 t193 t194 t195 t196 t197 t198 t199 t200 t201 t202 t203 t204 t205 t206 t207 t208 t209 t210 t211 t212 t213 t214 t215 t216 t217 t218 t219 t220 t221 t222 t223 t224 t225 t226 t227 t228 t229 t230 t231 t232 t233 t234 t235 t236 t237 t238 t239 t240 t241 t242 t243 : Value)
    (h : ∀ (u6 u16 u17 u18 u19 u20 u21 u22 u23 u24 u25 u26 u27 u28 u29 u84 u85 u86 u87 u88 u89 u90 u91 u92 u93 u94 u95 u96 u97 u98 u99 u100 u101 u102 u103 u104 u105 u106 u107 u108 u109 u110 u111 u112 u113 u114 u115 u116 u117 u118 u119 u120 u121 u122 u123 u124 u125 u126 u127 u128 u129 u130 u131 u132 u133 u134 u135 u136 u137 u138 u139 u140 u141 u142 u143 u144 u145 u146 u147 u148 u149 u150 u151 u152 u153 u154 u155 u156 u157 u158 u159 u160 u161 u162 u163 u164 u165 u166 u167 u168 u169 u170 u171 u172 u173 u174 u175 u176 u177 u178 u179 u180 u181 u182 u183 u184 u185 u186 u187 u188 u189 u190 u191 u192 u193 u194 u195 u196 u197 u198 u199 u200 u201 u202 u203 u204 u205 u206 u207 u208 u209 u210 u211 u212 u213 u214 u215 u216 u217 u218 u219 u220 u221 u222 u223 u224 u225 u226 u227 u228 u229 u230 u231 u232 u233 u234 u235 u236 u237 u238 u239 u240 u241 u242 : Value) (w' : World), Sat z w' [whole z] →
      Q (.exit 0) ⟨List.toArray (t0 :: t1 :: .slice A l.length C :: t3 :: t4 :: t5 :: u6 :: t7 :: .pointer (some ⟨mp, 0, none⟩) :: t9 :: .pointer (some ⟨np, 0, none⟩) :: t11 :: .pointer (some ⟨bp, 0, none⟩) :: t13 :: .pointer (some ⟨rp, 0, none⟩) :: t15 :: u16 :: u17 :: u18 :: u19 :: u20 :: u21 :: u22 :: u23 :: u24 :: u25 :: u26 :: u27 :: u28 :: u29 :: t30 :: t31 :: t32 :: t33 :: t34 :: t35 :: t36 :: t37 :: t38 :: t39 :: t40 :: t41 :: t42 :: t43 :: t44 :: t45 :: t46 :: t47 :: t48 :: t49 :: t50 :: t51 :: t52 :: t53 :: t54 :: t55 :: t56 :: t57 :: t58 :: t59 :: t60 :: t61 :: t62 :: t63 :: t64 :: t65 :: t66 :: t67 :: t68 :: t69 :: t70 :: t71 :: t72 :: t73 :: t74 :: t75 :: t76 :: t77 :: t78 :: t79 :: t80 :: t81 :: t82 :: t83 :: u84 :: u85 :: u86 :: u87 :: u88 :: u89 :: u90 :: u91 :: u92 :: u93 :: u94 :: u95 :: u96 :: u97 :: u98 :: u99 :: u100 :: u101 :: u102 :: u103 :: u104 :: u105 :: u106 :: u107 :: u108 :: u109 :: u110 :: u111 :: u112 :: u113 :: u114 :: u115 :: u116 :: u117 :: u118 :: u119 :: u120 :: u121 :: u122 :: u123 :: u124 :: u125 :: u126 :: u127 :: u128 :: u129 :: u130 :: u131 :: u132 :: u133 :: u134 :: u135 :: u136 :: u137 :: u138 :: u139 :: u140 :: u141 :: u142 :: u143 :: u144 :: u145 :: u146 :: u147 :: u148 :: u149 :: u150 :: u151 :: u152 :: u153 :: u154 :: u155 :: u156 :: u157 :: u158 :: u159 :: u160 :: u161 :: u162 :: u163 :: u164 :: u165 :: u166 :: u167 :: u168 :: u169 :: u170 :: u171 :: u172 :: u173 :: u174 :: u175 :: u176 :: u177 :: u178 :: u179 :: u180 :: u181 :: u182 :: u183 :: u184 :: u185 :: u186 :: u187 :: u188 :: u189 :: u190 :: u191 :: u192 :: u193 :: u194 :: u195 :: u196 :: u197 :: u198 :: u199 :: u200 :: u201 :: u202 :: u203 :: u204 :: u205 :: u206 :: u207 :: u208 :: u209 :: u210 :: u211 :: u212 :: u213 :: u214 :: u215 :: u216 :: u217 :: u218 :: u219 :: u220 :: u221 :: u222 :: u223 :: u224 :: u225 :: u226 :: u227 :: u228 :: u229 :: u230 :: u231 :: u232 :: u233 :: u234 :: u235 :: u236 :: u237 :: u238 :: u239 :: u240 :: u241 :: u242 :: t243 :: []), []⟩ w') :
    Code.wp Try.prog (loopOf Try.f5 0) Q ⟨List.toArray (t0 :: t1 :: .slice A l.length C :: t3 :: t4 :: t5 :: t6 :: t7 :: .pointer (some ⟨mp, 0, none⟩) :: t9 :: .pointer (some ⟨np, 0, none⟩) :: t11 :: .pointer (some ⟨bp, 0, none⟩) :: t13 :: .pointer (some ⟨rp, 0, none⟩) :: t15 :: vi 0 :: t17 :: t18 :: t19 :: t20 :: t21 :: t22 :: t23 :: t24 :: t25 :: t26 :: t27 :: t28 :: t29 :: t30 :: t31 :: t32 :: t33 :: t34 :: t35 :: t36 :: t37 :: t38 :: t39 :: t40 :: t41 :: t42 :: t43 :: t44 :: t45 :: t46 :: t47 :: t48 :: t49 :: t50 :: t51 :: t52 :: t53 :: t54 :: t55 :: t56 :: t57 :: t58 :: t59 :: t60 :: t61 :: t62 :: t63 :: t64 :: t65 :: t66 :: t67 :: t68 :: t69 :: t70 :: t71 :: t72 :: t73 :: t74 :: t75 :: t76 :: t77 :: t78 :: t79 :: t80 :: t81 :: t82 :: t83 :: t84 :: t85 :: t86 :: t87 :: t88 :: t89 :: t90 :: t91 :: t92 :: t93 :: t94 :: t95 :: t96 :: t97 :: t98 :: t99 :: t100 :: t101 :: t102 :: t103 :: t104 :: t105 :: t106 :: t107 :: t108 :: t109 :: t110 :: t111 :: t112 :: t113 :: t114 :: t115 :: t116 :: t117 :: t118 :: t119 :: t120 :: t121 :: t122 :: t123 :: t124 :: t125 :: t126 :: t127 :: t128 :: t129 :: t130 :: t131 :: t132 :: t133 :: t134 :: t135 :: t136 :: t137 :: t138 :: t139 :: t140 :: t141 :: t142 :: t143 :: t144 :: t145 :: t146 :: t147 :: t148 :: t149 :: t150 :: t151 :: t152 :: t153 :: t154 :: t155 :: t156 :: t157 :: t158 :: t159 :: t160 :: t161 :: t162 :: t163 :: t164 :: t165 :: t166 :: t167 :: t168 :: t169 :: t170 :: t171 :: t172 :: t173 :: t174 :: t175 :: t176 :: t177 :: t178 :: t179 :: t180 :: t181 :: t182 :: t183 :: t184 :: t185 :: t186 :: t187 :: t188 :: t189 :: t190 :: t191 :: t192 :: t193 :: t194 :: t195 :: t196 :: t197 :: t198 :: t199 :: t200 :: t201 :: t202 :: t203 :: t204 :: t205 :: t206 :: t207 :: t208 :: t209 :: t210 :: t211 :: t212 :: t213 :: t214 :: t215 :: t216 :: t217 :: t218 :: t219 :: t220 :: t221 :: t222 :: t223 :: t224 :: t225 :: t226 :: t227 :: t228 :: t229 :: t230 :: t231 :: t232 :: t233 :: t234 :: t235 :: t236 :: t237 :: t238 :: t239 :: t240 :: t241 :: t242 :: t243 :: []), []⟩ w := by
  conv => arg 2; whnf
  have H := Lib.hid h
  have HS := Lib.hid hs
  have Hz := Lib.hid (And.intro he (And.intro e1 (And.intro e2 (And.intro e3 e4))))
  clear h hs he e1 e2 e3 e4
  go_loopg [16] l.length (fun g i wr => ∃ (m : Nat) (B : Bd) (M : Mem) (Fr : Nat → Prop) (R : RB) (N : RMem), i = vi m ∧ g + m = l.length ∧ m ≤ 60 ∧ Hid (B.ents.length ≤ m ∧ B.p = bp ∧ M.p = mp ∧ R.p = rp ∧ N.p = np) ∧ Both B M Fr R N ∧ Hid (Sat z wr [B.hp, M.hp, R.hp, N.hp, whole z]))
  case atStart => exact ⟨0, B, M, Fr, R, N, rfl, rfl, by omega, Hz, b, HS⟩
  case round =>
    clear HS b Hz
    obtain ⟨m, B, M, Fr, R, N, rfl, hgm, hm60, Hz, b, H1⟩ := hrel
    cases gk with
    | zero =>
      have hm : ¬ m < l.length := by omega
      clear hgm
      go_wp2_with fail
      exact H.out _ _ _ _ _ _ _ _ _ _ _ _ _ _ _ _ _ _ _ _ _ _ _ _ _ _ _ _ _ _ _ _ _ _ _ _ _ _ _ _ _ _ _ _ _ _ _ _ _ _ _ _ _ _ _ _ _ _ _ _ _ _ _ _ _ _ _ _ _ _ _ _ _ _ _ _ _ _ _ _ _ _ _ _ _ _ _ _ _ _ _ _ _ _ _ _ _ _ _ _ _ _ _ _ _ _ _ _ _ _ _ _ _ _ _ _ _ _ _ _ _ _ _ _ _ _ _ _ _ _ _ _ _ _ _ _ _ _ _ _ _ _ _ _ _ _ _ _ _ _ _ _ _ _ _ _ _ _ _ _ _ _ _ _ _ _ _ _ _ _ _ _ _ _ _ (Sat.sel [_, _, _, _] 4 [] H1.out rfl (by decide))
    | succ g =>
      have hm : m < l.length := by omega
      by_cases hm6 : m < 60
      · obtain ⟨ab, off, x, rfl, hx, hcs⟩ := op_at hv hm
        have hr := hcs H1.out (by simp)
        have Hr := Lib.hid hr
        have Hgm := Lib.hid hgm
        clear hr hcs hx hgm hv
        go_upto_block 2 with (refine wpList_val (o := ⟨some 101, _, _, _, _, _⟩) (v := .agg #[vi x.d, vi x.n, vi x.o, vu x.w]) rfl (exec_load_mid 32 (.tmp 100) rfl ab (off + m * 4) rfl [vi x.d, vi x.n, vi x.o, vu x.w] _ Hr.out Try.underlying32 rfl (by kernel_rfl)) ?_)
        have s1 : Sat z (wr.alloc (.cells #[vi x.d, vi x.n, vi x.o, vu x.w] 32)) (opChunk wr.heap.size x :: [B.hp, M.hp, R.hp, N.hp, whole z]) := H1.out.allocd _
        have s2 := Sat.sel [_, _, _, _, _] 5 [1, 2, 3, 4, 0] s1 rfl (by decide)
        refine plays_any b (by have := Hz.out.1; omega) Hz.out.2.1 Hz.out.2.2.1 Hz.out.2.2.2.1 Hz.out.2.2.2.2 x x.d _ _ s2 _ _ _ _ _ _ _ _ _ _ _ _ _ _ _ _ _ _ _ _ _ _ _ _ _ _ _ _ _ _ _ _ _ _ _ _ _ _ _ _ _ _ _ _ _ _ _ _ _ _ _ _ _ _ _ _ _ _ _ _ _ _ _ _ _ _ _ _ _ _ _ _ _ _ _ _ _ _ _ _ _ _ _ _ _ _ _ _ _ _ _ _ _ _ _ _ _ _ _ _ _ _ _ _ _ _ _ _ _ _ _ _ _ _ _ _ _ _ _ _ _ _ _ _ _ _ _ _ _ _ _ _ _ _ _ _ _ _ _ _ _ _ _ _ _ _ _ _ _ _ _ _ _ _ _ _ _ _ _ _ _ _ _ _ _ _ _ _ _ _ _ _ _ _ _ _ _ _ _ _ _ _ _ _ _ _ _ _ _ _ _ _ _ _ _ _ _ _ _ _ _ _ _ _ _ _ _ _ _ _ _ _ _ _ _ _ _ _ _ _ _ _ _ _ _ _ _ _ _ _ _ _ _ _ _ _ _ ?_
        clear s1 s2 Hr H1
        intro u19 u20 u21 u22 u23 u104 u105 u106 u107 u108 u109 u110 u111 u112 u113 u114 u115 u116 u117 u118 u119 u120 u121 u122 u123 u124 u125 u126 u127 u128 u129 u130 u131 u132 u133 u134 u135 u136 u137 u138 u139 u140 u141 u142 u143 u144 u145 u146 u147 u148 u149 u150 u151 u152 u153 u154 u155 u156 u157 u158 u159 u160 u161 u162 u163 u164 u165 u166 u167 u168 u169 u170 u171 u172 u173 u174 u175 u176 u177 u178 u179 u180 u181 u182 u183 u184 u185 u186 u187 u188 u189 u190 u191 u192 u193 u194 u195 u196 w2 B2 M2 Fr2 R2 N2 q1 q2 q3 q4 q5 b2 h2
        have Hz2 := Lib.hid (show B2.ents.length ≤ m + 1 ∧ B2.p = bp ∧ M2.p = mp ∧ R2.p = rp ∧ N2.p = np from ⟨by have := Hz.out.1; omega, q1, q2, q3, q4⟩)
        have hbl := blocks_ok h2 b2.inv.ok b2.inv.len300
        rw [q1] at hbl
        have Hbl := Lib.hid hbl
        clear hbl h2 q1 q2 q3 q4 q5 Hz b
        go_wp2_with (first
          | (go_at_call 11
             refine Hbl.out.mono ?_
             rintro e w3 ⟨Ra, S, rfl, hRa, hRan, hRax, hpa, hsa, h3⟩
             have hrb := rblocks_ok (Sat.sel [_, _, _, _] 4 [3, 0, 1, 2] h3 rfl (by decide)) b2.rok b2.bi
             rw [Hz2.out.2.2.2.1] at hrb
             have Hrb := Lib.hid hrb
             have Ha := Lib.hid (And.intro hRan (And.intro hRax (And.intro hpa hsa)))
             clear Hbl h3 hrb hRan hRax hpa hsa)
          | (go_at_call 24
             refine Hrb.out.mono ?_
             rintro e w4 ⟨Rb, S', rfl, hRb, hRbn, hRbx, hpb, hsb, hlb, h4⟩
             have hSS : S = S' := b2.blocks Ha.out.2.2.1 Ha.out.2.2.2 hpb hsb
             have hsame := same_ok hRa hRb Ha.out.1 Ha.out.2.1 (by rw [hRbn, hSS]) (by rw [hRbx, hSS]) (by rw [hSS]; omega) (Sat.sel [_, _, _, _] 4 [2, 0, 3, 1] h4 rfl (by decide))
             have Hsame := Lib.hid hsame
             clear Hrb h4 hRbn hRbx hpb hsb hlb hSS hsame Ha)
          | (go_at_call 23
             refine Hsame.out.mono ?_
             rintro e w5 ⟨rfl, h5⟩
             have hh := held_ok (Sat.sel [_, _, _, _] 4 [2, 3] h5 rfl (by decide)) b2.inv.ok b2.inv.st (by have := Hz2.out.1; omega)
             rw [Hz2.out.2.1] at hh
             have Hh := Lib.hid hh
             clear Hsame h5 hh)
          | (go_at_call 8
             refine Hh.out.mono ?_
             rintro e w6 ⟨Rc, T, rfl, hRc, hRcn, hRcx, hpc, hsc, h6⟩
             have hrh := rheld_ok (Sat.sel [_, _, _] 3 [2, 0, 1] h6 rfl (by decide)) b2.rok
             rw [Hz2.out.2.2.2.1] at hrh
             have Hrh := Lib.hid hrh
             have Hc := Lib.hid (And.intro hRcn (And.intro hRcx (And.intro hpc hsc)))
             clear Hh h6 hrh hRcn hRcx hpc hsc)
          | (go_at_call 25
             refine Hrh.out.mono ?_
             rintro e w7 ⟨Rd, T', rfl, hRd, hRdn, hRdx, hpd, hsd, h7⟩
             have hTT : T = T' := b2.held Hc.out.2.2.1 Hc.out.2.2.2 hpd hsd
             have hlT : T'.length ≤ 4000 := by
               rw [hpd.length_eq]
               have := b2.rok.gl
               omega
             have hsame := same_ok hRc hRd Hc.out.1 Hc.out.2.1 (by rw [hRdn, hTT]) (by rw [hRdx, hTT]) (by rw [hTT]; exact hlT) (Sat.sel [_, _, _, _] 4 [2, 0, 3, 1] h7 rfl (by decide))
             have Hsame2 := Lib.hid hsame
             clear Hrh h7 hRdn hRdx hpd hsd hTT hsame Hc hlT)
          | (go_at_call 23
             refine Hsame2.out.mono ?_
             rintro e w8 ⟨rfl, h8⟩
             have hs8 := Sat.sel [_, _, _, _, _, _] 6 [2, 3, 4, 5] h8 rfl (by decide)
             obtain ⟨_, o1, _, _⟩ := op_cells (ob := wr.heap.size) (x := x) hs8 (by simp)
             have hr1 := mem_read (Sat.sel [_, _, _, _] 4 [2, 0, 1, 3] hs8 rfl (by decide)) b2.inv.mok x.n
             have hr2 := rmem_read (Sat.sel [_, _, _, _] 4 [3, 0, 1, 2] hs8 rfl (by decide)) b2.nok x.n
             have hl1 := left_ok hs8 b2.inv.ok b2.inv.len300
             rw [Hz2.out.2.2.1] at hr1
             rw [Hz2.out.2.2.2.2, ← b2.read x.n] at hr2
             rw [Hz2.out.2.1] at hl1
             generalize M2.read x.n = rd at *
             have Hr1 := Lib.hid hr1
             have Hr2 := Lib.hid hr2
             have Hl1 := Lib.hid hl1
             clear Hsame2 h8 hs8 hr1 hr2 hl1)
          | (go_at_call 26; refine Hr1.out.mono ?_; rintro e w' ⟨rfl, rfl⟩)
          | (go_at_call 27; refine Hr2.out.mono ?_; rintro e w' ⟨rfl, rfl⟩)
          | (go_at_call 13
             refine Hl1.out.mono ?_
             rintro e w9 ⟨rfl, h9⟩
             have hl2 := rleft_ok h9.swap b2.rok
             rw [Hz2.out.2.2.2.1, ← b2.left] at hl2
             generalize sumTo B2 9 = cl at *
             have Hl2 := Lib.hid hl2
             have H9 := Lib.hid (Sat.sel [_, _, _, _, _] 5 [0, 2, 1, 3] h9 rfl (by decide))
             clear Hl1 h9 hl2 o1)
          | (go_at_call 28; refine Hl2.out.mono ?_; rintro e w' ⟨rfl, rfl⟩))
        go_roundg g
        case measure => omega
        case rel => exact ⟨m + 1, B2, M2, Fr2, R2, N2, by simp, by have := Hgm.out; omega, by omega, Hz2, b2, H9⟩
      · have hm61 : ¬ m < 60 := hm6
        clear hgm
        go_wp2_with fail
        exact H.out _ _ _ _ _ _ _ _ _ _ _ _ _ _ _ _ _ _ _ _ _ _ _ _ _ _ _ _ _ _ _ _ _ _ _ _ _ _ _ _ _ _ _ _ _ _ _ _ _ _ _ _ _ _ _ _ _ _ _ _ _ _ _ _ _ _ _ _ _ _ _ _ _ _ _ _ _ _ _ _ _ _ _ _ _ _ _ _ _ _ _ _ _ _ _ _ _ _ _ _ _ _ _ _ _ _ _ _ _ _ _ _ _ _ _ _ _ _ _ _ _ _ _ _ _ _ _ _ _ _ _ _ _ _ _ _ _ _ _ _ _ _ _ _ _ _ _ _ _ _ _ _ _ _ _ _ _ _ _ _ _ _ _ _ _ _ _ _ _ _ _ _ _ _ _ (Sat.sel [_, _, _, _] 4 [] H1.out rfl (by decide))
end
end Go.Proofs.Ytglelfceogpbpaa
