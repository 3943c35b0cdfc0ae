/- law 04's BuddyWhole: the loop that takes blocks and writes into them. -/
import Derived.Test.YtglelfceogpbpaaAwake
import Derived.Test.YtglelfceogpbpaaAll
import Derived.Test.YtglelfceogpbpaaOpsAt
import Derived.Test.YtglelfceogpbpaaCut
namespace Go.Proofs.Ytglelfceogpbpaa
open Go.RowKit

def and15 (n : Int) : Int := IntKind.i64.wrap ((BitVec.ofInt 64 n &&& BitVec.ofInt 64 15).toNat)
theorem and15_bd (n : Int) : 0 ≤ and15 n ∧ and15 n ≤ 15 := by
  unfold and15
  have h : (BitVec.ofInt 64 n &&& BitVec.ofInt 64 15).toNat ≤ 15 := by
    rw [BitVec.toNat_and]
    exact Nat.and_le_right
  rw [IntKind.wrap_i64]
  omega
theorem exec_and15 {P : Program} {a : Act} {w : World} {o : Oper} (t t' : TypeId) (x y : Operand) (ho : o.op = .binOp .and t x y t') (n : Int) (hx : a.eval x = .int .i64 n) (hy : a.eval y = .int .i64 15) :
    (execOp a.eval o).run P w = .ok (.value (.int .i64 (and15 n))) w := by
  have hb1 : ∀ w : World, (binOp .and t (.int .i64 n) (.int .i64 15)).run P w = .ok (.int .i64 (and15 n)) w := by
    intro w
    simp only [binOp, Op.intBits, and15]
    rfl
  have hg : ∀ w : World, (eqGuard .and t x y (.int .i64 n) (.int .i64 15)).run P w = .ok () w := by
    intro w
    simp [eqGuard]
  unfold execOp
  simp only [ho, hx, hy, Sem.run_bind, hg, Result.andThen_ok, hb1, Sem.run_pure]

theorem exec_neqBlock {a : Act} {w : World} {o : Oper} (x y : Operand) (t' : TypeId) (ho : o.op = .binOp .neq 34 x y t') (p q : Int × Int) (hx : a.eval x = vb p.1 p.2) (hy : a.eval y = vb q.1 q.2) (h : p = q) :
    (execOp a.eval o).run Try.prog w = .ok (.value (.bool false)) w := by
  subst h
  have hb1 : ∀ w : World, (binOp .neq 34 (vb p.1 p.2) (vb p.1 p.2)).run Try.prog w = .ok (.bool false) w := by
    intro w
    simp only [binOp, Sem.run_bind, run_eqBlock, Result.andThen_ok]
    simp
  have hg : ∀ w : World, (eqGuard .neq 34 x y (vb p.1 p.2) (vb p.1 p.2)).run Try.prog w = .ok () w := by
    intro w
    exact run_eqGuard_agg w .neq 34 x y _ _ (by kernel_rfl)
  unfold execOp
  simp only [ho, hx, hy, Sem.run_bind, hg, Result.andThen_ok, hb1, Sem.run_pure]

section
variable {z : World}

theorem ops_cells {A : Option Addr} {C : Nat} {l : List OpR} (hv : OpsAt z (.slice A l.length C) l) {m : Nat} (hm : m < l.length) : ∃ a x, A = some a ∧ l[m]? = some x ∧
    ∀ {w : World} {cs : List Chunk}, Sat z w cs → whole z ∈ cs → w.cell? (a.add (m * 4)) = some (vi x.d) ∧ w.cell? ⟨(a.add (m * 4)).block, (a.add (m * 4)).off + 1, none⟩ = some (vi x.n) ∧
      w.cell? ⟨(a.add (m * 4)).block, (a.add (m * 4)).off + 2, none⟩ = some (vi x.o) ∧ w.cell? ⟨(a.add (m * 4)).block, (a.add (m * 4)).off + 3, none⟩ = some (vu x.w) := by
  rcases hv with ⟨_, rfl⟩ | ⟨a, c, e, h⟩
  · simp at hm
  · simp only [Value.slice.injEq] at e
    obtain ⟨k0, k1, k2, k3⟩ := h m _ (List.getElem?_eq_getElem hm)
    refine ⟨a, l[m], e.1, List.getElem?_eq_getElem hm, fun hs hw => ⟨hs.old hw k0, ?_, ?_, ?_⟩⟩
    · rw [add_at _ _ _ (by omega)]; exact hs.old hw k1
    · rw [add_at _ _ _ (by omega)]; exact hs.old hw k2
    · rw [add_at _ _ _ (by omega)]; exact hs.old hw k3

set_option maxRecDepth 100000 in
set_option maxHeartbeats 2000000 in
theorem whole_a {B : Bd} {M : Mem} {Fr : Nat → Prop} {r : Nat} (I : Inv B M Fr) (A0 : All B M Fr r) (he : B.ents.length ≤ 0) {X : Chunk} {A : Option Addr} {C : Nat} {l : List OpR} (hv : OpsAt z (.slice A l.length C) l) (h60 : l.length ≤ 60)
    (Q : Exit → Act → World → Prop) (w : World) (hs : Sat z w [B.hp, M.hp, X, whole z])
    (t0 t1 t3 t4 t5 t6 t7 t10 t12 t13 t14 t15 t16 t17 t18 t19 t20 t21 t22 t23 t24 t25 t26 t27 t28 t29 t30 t31 t32 t33 t34 t35 t36 t37 t38 t39 t40 t41 t42 t43 t44 t45 t46 t47 t48 t49 t50 t51 t52 t53 t54 t55 t56 t57 t58 t59 t60 t61 t62 t63 t64 t65 t66 t67 t68 t69 t70 t71 t72 t73 t74 t75 t76 t77 t78 t79 t80 t81 t82 t83 t84 t85 t86 t87 t88 t89 t90 t91 t92 t93 t94 t95 t96 t97 t98 t99 t100 t101 t102 t103 t104 t105 t106 t107 t108 t109 t110 t111 t112 t113 t114 t115 t116 t117 t118 t119 t120 t121 t122 t123 t124 t125 t126 t127 t128 t129 t130 t131 t132 t133 t134 t135 t136 t137 t138 t139 t140 t141 t142 t143 t144 t145 t146 t147 t148 t149 t150 t151 t152 t153 t154 t155 t156 t157 t158 t159 t160 t161 t162 t163 t164 t165 t166 t167 t168 t169 t170 t171 t172 t173 t174 t175 t176 t177 t178 t179 t180 t181 t182 t183 t184 t185 t186 t187 : Value)
    (h : ∀ (u6 u11 u12 u13 u48 u49 u50 u51 u52 u53 u54 u55 u56 u57 u58 u59 u60 u61 u62 u63 u64 u65 u66 u67 u68 u69 u70 u71 u72 u73 u74 u75 u76 u77 u78 u79 u80 u81 u82 u83 u84 : Value) (w' : World) (B' : Bd) (M' : Mem) (Fr' : Nat → Prop), B'.p = B.p → M'.p = M.p → M'.n = M.n → B'.ents.length ≤ l.length → Inv B' M' Fr' → All B' M' Fr' r → Sat z w' [B'.hp, M'.hp, X, whole z] →
      Q (.exit 0) ⟨List.toArray (t0 :: t1 :: .slice A l.length C :: t3 :: t4 :: t5 :: u6 :: t7 :: .pointer (some ⟨M.p, 0, none⟩) :: .pointer (some ⟨B.p, 0, none⟩) :: t10 :: u11 :: u12 :: u13 :: t14 :: t15 :: t16 :: t17 :: t18 :: t19 :: t20 :: t21 :: t22 :: t23 :: t24 :: t25 :: t26 :: t27 :: t28 :: t29 :: t30 :: t31 :: t32 :: t33 :: t34 :: t35 :: t36 :: t37 :: t38 :: t39 :: t40 :: t41 :: t42 :: t43 :: t44 :: t45 :: t46 :: t47 :: u48 :: u49 :: u50 :: u51 :: u52 :: u53 :: u54 :: u55 :: u56 :: u57 :: u58 :: u59 :: u60 :: u61 :: u62 :: u63 :: u64 :: u65 :: u66 :: u67 :: u68 :: u69 :: u70 :: u71 :: u72 :: u73 :: u74 :: u75 :: u76 :: u77 :: u78 :: u79 :: u80 :: u81 :: u82 :: u83 :: u84 :: t85 :: t86 :: t87 :: t88 :: t89 :: t90 :: t91 :: t92 :: t93 :: t94 :: t95 :: t96 :: t97 :: t98 :: t99 :: t100 :: t101 :: t102 :: t103 :: t104 :: t105 :: t106 :: t107 :: t108 :: t109 :: t110 :: t111 :: t112 :: t113 :: t114 :: t115 :: t116 :: t117 :: t118 :: t119 :: t120 :: t121 :: t122 :: t123 :: t124 :: t125 :: t126 :: t127 :: t128 :: t129 :: t130 :: t131 :: t132 :: t133 :: t134 :: t135 :: t136 :: t137 :: t138 :: t139 :: t140 :: t141 :: t142 :: t143 :: t144 :: t145 :: t146 :: t147 :: t148 :: t149 :: t150 :: t151 :: t152 :: t153 :: t154 :: t155 :: t156 :: t157 :: t158 :: t159 :: t160 :: t161 :: t162 :: t163 :: t164 :: t165 :: t166 :: t167 :: t168 :: t169 :: t170 :: t171 :: t172 :: t173 :: t174 :: t175 :: t176 :: t177 :: t178 :: t179 :: t180 :: t181 :: t182 :: t183 :: t184 :: t185 :: t186 :: t187 :: []), []⟩ w') :
    Code.wp Try.prog (loopOf Try.f4 0) Q ⟨List.toArray (t0 :: t1 :: .slice A l.length C :: t3 :: t4 :: t5 :: t6 :: t7 :: .pointer (some ⟨M.p, 0, none⟩) :: .pointer (some ⟨B.p, 0, none⟩) :: t10 :: vi 0 :: t12 :: t13 :: t14 :: t15 :: t16 :: t17 :: t18 :: t19 :: t20 :: t21 :: t22 :: t23 :: t24 :: t25 :: t26 :: t27 :: t28 :: t29 :: t30 :: t31 :: t32 :: t33 :: t34 :: t35 :: t36 :: t37 :: t38 :: t39 :: t40 :: t41 :: t42 :: t43 :: t44 :: t45 :: t46 :: t47 :: t48 :: t49 :: t50 :: t51 :: t52 :: t53 :: t54 :: t55 :: t56 :: t57 :: t58 :: t59 :: t60 :: t61 :: t62 :: t63 :: t64 :: t65 :: t66 :: t67 :: t68 :: t69 :: t70 :: t71 :: t72 :: t73 :: t74 :: t75 :: t76 :: t77 :: t78 :: t79 :: t80 :: t81 :: t82 :: t83 :: t84 :: t85 :: t86 :: t87 :: t88 :: t89 :: t90 :: t91 :: t92 :: t93 :: t94 :: t95 :: t96 :: t97 :: t98 :: t99 :: t100 :: t101 :: t102 :: t103 :: t104 :: t105 :: t106 :: t107 :: t108 :: t109 :: t110 :: t111 :: t112 :: t113 :: t114 :: t115 :: t116 :: t117 :: t118 :: t119 :: t120 :: t121 :: t122 :: t123 :: t124 :: t125 :: t126 :: t127 :: t128 :: t129 :: t130 :: t131 :: t132 :: t133 :: t134 :: t135 :: t136 :: t137 :: t138 :: t139 :: t140 :: t141 :: t142 :: t143 :: t144 :: t145 :: t146 :: t147 :: t148 :: t149 :: t150 :: t151 :: t152 :: t153 :: t154 :: t155 :: t156 :: t157 :: t158 :: t159 :: t160 :: t161 :: t162 :: t163 :: t164 :: t165 :: t166 :: t167 :: t168 :: t169 :: t170 :: t171 :: t172 :: t173 :: t174 :: t175 :: t176 :: t177 :: t178 :: t179 :: t180 :: t181 :: t182 :: t183 :: t184 :: t185 :: t186 :: t187 :: []), []⟩ w := by
  conv => arg 2; whnf
  have H := Lib.hid h
  have HS := Lib.hid hs
  have He := Lib.hid he
  clear h hs he
  go_loopg [11] l.length (fun k i wr => ∃ (m : Nat) (B' : Bd) (M' : Mem) (Fr' : Nat → Prop), i = vi m ∧ k + m = l.length ∧ B'.p = B.p ∧ M'.p = M.p ∧ Hid (M'.n = M.n ∧ B'.ents.length ≤ m) ∧ Inv B' M' Fr' ∧ All B' M' Fr' r ∧
    Hid (Sat z wr [B'.hp, M'.hp, X, whole z]))
  case atStart => exact ⟨0, B, M, Fr, rfl, rfl, rfl, rfl, Lib.hid ⟨rfl, He.out⟩, I, A0, HS⟩
  case round =>
    clear HS I A0
    obtain ⟨m, B', M', Fr', rfl, hkm, hBp, hMp, Hel, I, A1, H1⟩ := hrel
    cases gk with
    | zero =>
      have hm : ¬ m < l.length := by omega
      have Hm : Hid (m = l.length) := Lib.hid (by omega)
      have HBp := Lib.hid hBp
      have HMp := Lib.hid hMp
      clear hkm hBp hMp
      go_wp2_with fail
      exact H.out _ _ _ _ _ _ _ _ _ _ _ _ _ _ _ _ _ _ _ _ _ _ _ _ _ _ _ _ _ _ _ _ _ _ _ _ _ _ _ _ _ _ B' M' Fr' HBp.out HMp.out Hel.out.1 (by have := Hel.out.2; have := Hm.out; omega) I A1 H1.out
    | succ k =>
      have hm : m < l.length := by omega
      obtain ⟨a, x, rfl, hx, hcs⟩ := ops_cells hv hm
      obtain ⟨k0, k1, k2, k3⟩ := hcs H1.out (by simp)
      have Hcs : Hid (∀ {w : World} {cs : List Chunk}, Sat z w cs → whole z ∈ cs → w.cell? (a.add (m * 4)) = some (vi x.d) ∧ w.cell? ⟨(a.add (m * 4)).block, (a.add (m * 4)).off + 1, none⟩ = some (vi x.n) ∧
        w.cell? ⟨(a.add (m * 4)).block, (a.add (m * 4)).off + 2, none⟩ = some (vi x.o) ∧ w.cell? ⟨(a.add (m * 4)).block, (a.add (m * 4)).off + 3, none⟩ = some (vu x.w)) := Lib.hid hcs
      have Hkm := Lib.hid hkm
      have hai := alloc_inv H1.out I x.o
      rw [hBp] at hai
      have Hai := Lib.hid hai
      clear hkm hx hcs hai k0 k1 k3 hv
      go_wp2_with (go_at_call 10; refine Hai.out.mono ?_; rintro e w4 ⟨B2, Fr2, x2, c2, rfl, hF, I2, p1, h4⟩)
      have H4 := Lib.hid h4
      have A2 := A1.alloc hF
      have HBp : Hid (B2.p = B.p) := Lib.hid p1
      have HMp := Lib.hid hMp
      have hMp' := hMp
      clear Hai h4 k2 p1 hBp hMp H1
      cases hF with
      | bad hb =>
        have hl2 : B'.ents.length ≤ m + 1 := by have := Hel.out.2; omega
        have Hl2 := Lib.hid (And.intro Hel.out.1 hl2)
        clear hl2
        refine wp_region_plan (fun _ => True) [(0, false), (1, false), (2, false), (3, false), (4, false), (5, false), (6, false), (7, false), (8, false), (9, false), (10, false), (11, false), (12, false), (13, false), (14, false), (15, false), (16, false), (17, false), (18, false), (19, false), (20, false)] (by kernel_rfl) (by kernel_rfl) trivial ?_
        refine wpPlan_q (v := ?_) rfl rfl ?_ ?_; rotate_left 1; · (intro wS hS; go_simp; try with_reducible rfl)
        simp only [Act.put, List.setIfInBounds_toArray, List.set_cons_zero, List.set_cons_succ]
        refine wpPlan_q (v := ?_) rfl rfl ?_ ?_; rotate_left 1; · (intro wS hS; go_simp; try with_reducible rfl)
        simp only [Act.put, List.setIfInBounds_toArray, List.set_cons_zero, List.set_cons_succ]
        refine wpPlan_q (v := ?_) rfl rfl ?_ ?_; rotate_left 1; · (intro wS hS; go_simp; try with_reducible rfl)
        simp only [Act.put, List.setIfInBounds_toArray, List.set_cons_zero, List.set_cons_succ]
        refine wpPlan_n rfl rfl ?_
        simp only [Act.put, List.setIfInBounds_toArray, List.set_cons_zero, List.set_cons_succ]
        refine wpPlan_n rfl rfl ?_
        simp only [Act.put, List.setIfInBounds_toArray, List.set_cons_zero, List.set_cons_succ]
        refine wpPlan_n rfl rfl ?_
        simp only [Act.put, List.setIfInBounds_toArray, List.set_cons_zero, List.set_cons_succ]
        refine wpPlan_n rfl rfl ?_
        simp only [Act.put, List.setIfInBounds_toArray, List.set_cons_zero, List.set_cons_succ]
        refine wpPlan_n rfl rfl ?_
        simp only [Act.put, List.setIfInBounds_toArray, List.set_cons_zero, List.set_cons_succ]
        refine wpPlan_n rfl rfl ?_
        simp only [Act.put, List.setIfInBounds_toArray, List.set_cons_zero, List.set_cons_succ]
        refine wpPlan_n rfl rfl ?_
        simp only [Act.put, List.setIfInBounds_toArray, List.set_cons_zero, List.set_cons_succ]
        refine wpPlan_n rfl rfl ?_
        simp only [Act.put, List.setIfInBounds_toArray, List.set_cons_zero, List.set_cons_succ]
        refine wpPlan_n rfl rfl ?_
        simp only [Act.put, List.setIfInBounds_toArray, List.set_cons_zero, List.set_cons_succ]
        refine wpPlan_n rfl rfl ?_
        simp only [Act.put, List.setIfInBounds_toArray, List.set_cons_zero, List.set_cons_succ]
        refine wpPlan_n rfl rfl ?_
        simp only [Act.put, List.setIfInBounds_toArray, List.set_cons_zero, List.set_cons_succ]
        refine wpPlan_n rfl rfl ?_
        simp only [Act.put, List.setIfInBounds_toArray, List.set_cons_zero, List.set_cons_succ]
        refine wpPlan_n rfl rfl ?_
        simp only [Act.put, List.setIfInBounds_toArray, List.set_cons_zero, List.set_cons_succ]
        refine wpPlan_n rfl rfl ?_
        simp only [Act.put, List.setIfInBounds_toArray, List.set_cons_zero, List.set_cons_succ]
        refine wpPlan_n rfl rfl ?_
        simp only [Act.put, List.setIfInBounds_toArray, List.set_cons_zero, List.set_cons_succ]
        refine wpPlan_n rfl rfl ?_
        simp only [Act.put, List.setIfInBounds_toArray, List.set_cons_zero, List.set_cons_succ]
        refine wpPlan_n rfl rfl ?_
        simp only [Act.put, List.setIfInBounds_toArray, List.set_cons_zero, List.set_cons_succ]
        refine wpPlan_q (v := ?_) rfl rfl ?_ ?_; rotate_left 1; · (intro wS hS; go_simp; try with_reducible rfl)
        simp only [Act.put, List.setIfInBounds_toArray, List.set_cons_zero, List.set_cons_succ]
        refine wpPlan_nil (NoPanic.normal ?_)
        go_wp2
        go_roundg k
        case measure => omega
        case rel => exact ⟨m + 1, B', M', _, by simp, by have := Hkm.out; omega, HBp.out, HMp.out, Hl2, I2, A2, Lib.hid H4.out.drew⟩
      | full q e1 e2 e3 =>
        have hl2 : B'.ents.length ≤ m + 1 := by have := Hel.out.2; omega
        have Hl2 := Lib.hid (And.intro Hel.out.1 hl2)
        clear hl2
        refine wp_region_plan (fun _ => True) [(0, false), (1, false), (2, false), (3, false), (4, false), (5, false), (6, false), (7, false), (8, false), (9, false), (10, false), (11, false), (12, false), (13, false), (14, false), (15, false), (16, false), (17, false), (18, false), (19, false), (20, false)] (by kernel_rfl) (by kernel_rfl) trivial ?_
        refine wpPlan_q (v := ?_) rfl rfl ?_ ?_; rotate_left 1; · (intro wS hS; go_simp; try with_reducible rfl)
        simp only [Act.put, List.setIfInBounds_toArray, List.set_cons_zero, List.set_cons_succ]
        refine wpPlan_q (v := ?_) rfl rfl ?_ ?_; rotate_left 1; · (intro wS hS; go_simp; try with_reducible rfl)
        simp only [Act.put, List.setIfInBounds_toArray, List.set_cons_zero, List.set_cons_succ]
        refine wpPlan_q (v := ?_) rfl rfl ?_ ?_; rotate_left 1; · (intro wS hS; go_simp; try with_reducible rfl)
        simp only [Act.put, List.setIfInBounds_toArray, List.set_cons_zero, List.set_cons_succ]
        refine wpPlan_n rfl rfl ?_
        simp only [Act.put, List.setIfInBounds_toArray, List.set_cons_zero, List.set_cons_succ]
        refine wpPlan_n rfl rfl ?_
        simp only [Act.put, List.setIfInBounds_toArray, List.set_cons_zero, List.set_cons_succ]
        refine wpPlan_n rfl rfl ?_
        simp only [Act.put, List.setIfInBounds_toArray, List.set_cons_zero, List.set_cons_succ]
        refine wpPlan_n rfl rfl ?_
        simp only [Act.put, List.setIfInBounds_toArray, List.set_cons_zero, List.set_cons_succ]
        refine wpPlan_n rfl rfl ?_
        simp only [Act.put, List.setIfInBounds_toArray, List.set_cons_zero, List.set_cons_succ]
        refine wpPlan_n rfl rfl ?_
        simp only [Act.put, List.setIfInBounds_toArray, List.set_cons_zero, List.set_cons_succ]
        refine wpPlan_n rfl rfl ?_
        simp only [Act.put, List.setIfInBounds_toArray, List.set_cons_zero, List.set_cons_succ]
        refine wpPlan_n rfl rfl ?_
        simp only [Act.put, List.setIfInBounds_toArray, List.set_cons_zero, List.set_cons_succ]
        refine wpPlan_n rfl rfl ?_
        simp only [Act.put, List.setIfInBounds_toArray, List.set_cons_zero, List.set_cons_succ]
        refine wpPlan_n rfl rfl ?_
        simp only [Act.put, List.setIfInBounds_toArray, List.set_cons_zero, List.set_cons_succ]
        refine wpPlan_n rfl rfl ?_
        simp only [Act.put, List.setIfInBounds_toArray, List.set_cons_zero, List.set_cons_succ]
        refine wpPlan_n rfl rfl ?_
        simp only [Act.put, List.setIfInBounds_toArray, List.set_cons_zero, List.set_cons_succ]
        refine wpPlan_n rfl rfl ?_
        simp only [Act.put, List.setIfInBounds_toArray, List.set_cons_zero, List.set_cons_succ]
        refine wpPlan_n rfl rfl ?_
        simp only [Act.put, List.setIfInBounds_toArray, List.set_cons_zero, List.set_cons_succ]
        refine wpPlan_n rfl rfl ?_
        simp only [Act.put, List.setIfInBounds_toArray, List.set_cons_zero, List.set_cons_succ]
        refine wpPlan_n rfl rfl ?_
        simp only [Act.put, List.setIfInBounds_toArray, List.set_cons_zero, List.set_cons_succ]
        refine wpPlan_n rfl rfl ?_
        simp only [Act.put, List.setIfInBounds_toArray, List.set_cons_zero, List.set_cons_succ]
        refine wpPlan_q (v := ?_) rfl rfl ?_ ?_; rotate_left 1; · (intro wS hS; go_simp; try with_reducible rfl)
        simp only [Act.put, List.setIfInBounds_toArray, List.set_cons_zero, List.set_cons_succ]
        refine wpPlan_nil (NoPanic.normal ?_)
        go_wp2
        go_roundg k
        case measure => omega
        case rel => exact ⟨m + 1, B', M', _, by simp, by have := Hkm.out; omega, HBp.out, HMp.out, Hl2, I2, A2, Lib.hid H4.out.drew⟩
      | ok q j q' _ e1 e2 e3 e4 e5 e6 e7 e8 =>
        have hl2 : B2.ents.length ≤ m + 1 := by have := Hel.out.2; rw [e7]; simp; omega
        have hp := Nat.two_pow_pos q
        have hfr : ¬ (fun i => Fr' i ∧ i / 2 ^ q ≠ q') (q' * 2 ^ q) := fun h => h.2 (Dy.first_of q' q)
        have hin : q' * 2 ^ q < M'.n := I.fr _ (e6 _ (Dy.first_of q' q))
        have hmn := I.mok.n1
        clear e1 e2 e3 e4 e5 e6 e7 e8
        obtain ⟨X1, hX1⟩ : ∃ X1, X1 = q' * 2 ^ q := ⟨_, rfl⟩
        rw [← hX1] at hfr hin
        rw [← hX1]
        have hy := and15_bd x.n
        obtain ⟨Y, hY⟩ := Int.eq_ofNat_of_zero_le hy.1
        rw [hY] at hy
        have HY := Lib.hid hY
        have hw1 : IntKind.i64.wrap (16 * (X1 : Int)) = 16 * (X1 : Int) := by rw [IntKind.wrap_i64]; omega
        have hw2 : IntKind.i64.wrap (16 * (X1 : Int) + (Y : Int)) = 16 * (X1 : Int) + (Y : Int) := by rw [IntKind.wrap_i64]; omega
        have hcast : 16 * (X1 : Int) + (Y : Int) = ((16 * X1 + Y : Nat) : Int) := by omega
        have hwr := mem_write (M := M') (Sat.sel [_, _] 2 [1, 0] H4.out.drew rfl (by decide)) I2.mok (16 * (X1 : Int) + (Y : Int)) x.w
        have hins : M'.inside (16 * (X1 : Int) + (Y : Int)) = true := by
          simp only [Mem.inside, Bool.and_eq_true, decide_eq_true_eq]; omega
        rw [hins, if_pos rfl, hMp'] at hwr
        have A3 := A2.put (16 * X1 + Y) x.w (by rw [show (16 * X1 + Y) / 16 = X1 by omega]; exact hfr)
        have I3 := I2.put ((16 * X1 + Y : Nat) : Int) x.w
        rw [← hcast] at A3 I3
        have HM := Lib.hid (show (M'.put (16 * (X1 : Int) + (Y : Int)) x.w).n = M.n ∧ (M'.put (16 * (X1 : Int) + (Y : Int)) x.w).p = M.p from ⟨((M'.put_n _ _).1).trans Hel.out.1, ((M'.put_n _ _).2).trans HMp.out⟩)
        have Hl2 := Lib.hid (And.intro HM.out.1 hl2)
        have Hwr := Lib.hid hwr
        obtain ⟨_, d1, _, d3⟩ := Hcs.out H4.out.drew (by simp)
        clear hl2 hfr hY hcast hwr hins hX1
        refine wp_region_plan (fun w' => w'.cell? ⟨(a.add (m * 4)).block, (a.add (m * 4)).off + 1, none⟩ = some (vi x.n) ∧ w'.cell? ⟨(a.add (m * 4)).block, (a.add (m * 4)).off + 3, none⟩ = some (vu x.w)) [(0, false), (1, false), (2, false), (3, false), (4, false), (5, false), (6, false), (7, false), (8, false), (9, false), (10, false), (11, false), (12, false), (13, false), (14, false), (15, false), (16, false), (17, false), (18, true), (19, false), (20, false)] (by kernel_rfl) (by kernel_rfl) ⟨d1, d3⟩ ?_
        refine wpPlan_q (v := ?_) rfl rfl ?_ ?_; rotate_left 1; · (intro wS hS; go_simp; try with_reducible rfl)
        simp only [Act.put, List.setIfInBounds_toArray, List.set_cons_zero, List.set_cons_succ]
        refine wpPlan_q (v := ?_) rfl rfl ?_ ?_; rotate_left 1; · (intro wS hS; go_simp; try with_reducible rfl)
        simp only [Act.put, List.setIfInBounds_toArray, List.set_cons_zero, List.set_cons_succ]
        refine wpPlan_q (v := ?_) rfl rfl ?_ ?_; rotate_left 1; · (intro wS hS; go_simp; try with_reducible rfl)
        simp only [Act.put, List.setIfInBounds_toArray, List.set_cons_zero, List.set_cons_succ]
        refine wpPlan_g (v := ?_) rfl rfl ?_ ?_; rotate_left 1; · (intro wS hS; go_simp; try with_reducible rfl)
        simp only [Act.put, List.setIfInBounds_toArray, List.set_cons_zero, List.set_cons_succ]
        refine wpPlan_g (v := ?_) rfl rfl ?_ ?_; rotate_left 1; · (intro wS hS; go_simp; try with_reducible rfl)
        simp only [Act.put, List.setIfInBounds_toArray, List.set_cons_zero, List.set_cons_succ]
        refine wpPlan_g (v := ?_) rfl rfl ?_ ?_; rotate_left 1; · (intro wS hS; go_simp; try with_reducible rfl)
        simp only [Act.put, List.setIfInBounds_toArray, List.set_cons_zero, List.set_cons_succ]
        refine wpPlan_g (v := ?_) rfl rfl ?_ ?_; rotate_left 1; · (intro wS hS; go_simp; try with_reducible rfl)
        simp only [Act.put, List.setIfInBounds_toArray, List.set_cons_zero, List.set_cons_succ]
        refine wpPlan_g (v := ?_) rfl rfl ?_ ?_; rotate_left 1; · (intro wS hS; go_simp; try with_reducible rfl)
        simp only [Act.put, List.setIfInBounds_toArray, List.set_cons_zero, List.set_cons_succ]
        refine wpPlan_g (v := ?_) rfl rfl ?_ ?_; rotate_left 1; · (intro wS hS; go_simp; try with_reducible rfl)
        simp only [Act.put, List.setIfInBounds_toArray, List.set_cons_zero, List.set_cons_succ]
        refine wpPlan_g (v := ?_) rfl rfl ?_ ?_; rotate_left 1; · (intro wS hS; go_simp; try with_reducible rfl)
        simp only [Act.put, List.setIfInBounds_toArray, List.set_cons_zero, List.set_cons_succ]
        refine wpPlan_g (v := ?_) rfl rfl ?_ ?_; rotate_left 1; · (intro wS hS; go_simp; try with_reducible rfl)
        simp only [Act.put, List.setIfInBounds_toArray, List.set_cons_zero, List.set_cons_succ]
        refine wpPlan_g (v := vi (Y : Int)) rfl rfl (fun wS hS => (exec_and15 3 3 (.tmp 74) (.const (.int .i64 15)) rfl x.n rfl rfl).trans (by rw [HY.out])) ?_
        simp only [Act.put, List.setIfInBounds_toArray, List.set_cons_zero, List.set_cons_succ]
        refine wpPlan_g (v := ?_) rfl rfl ?_ ?_; rotate_left 1; · (intro wS hS; go_simp; try with_reducible rfl)
        simp only [Act.put, List.setIfInBounds_toArray, List.set_cons_zero, List.set_cons_succ]
        refine wpPlan_g (v := ?_) rfl rfl ?_ ?_; rotate_left 1; · (intro wS hS; go_simp; try with_reducible rfl)
        simp only [Act.put, List.setIfInBounds_toArray, List.set_cons_zero, List.set_cons_succ]
        refine wpPlan_g (v := ?_) rfl rfl ?_ ?_; rotate_left 1; · (intro wS hS; go_simp; try with_reducible rfl)
        simp only [Act.put, List.setIfInBounds_toArray, List.set_cons_zero, List.set_cons_succ]
        refine wpPlan_g (v := ?_) rfl rfl ?_ ?_; rotate_left 1; · (intro wS hS; go_simp; try with_reducible rfl)
        simp only [Act.put, List.setIfInBounds_toArray, List.set_cons_zero, List.set_cons_succ]
        refine wpPlan_g (v := ?_) rfl rfl ?_ ?_; rotate_left 1; · (intro wS hS; go_simp; try with_reducible rfl)
        simp only [Act.put, List.setIfInBounds_toArray, List.set_cons_zero, List.set_cons_succ]
        refine wpPlan_g (v := ?_) rfl rfl ?_ ?_; rotate_left 1; · (intro wS hS; go_simp; try with_reducible rfl)
        simp only [Act.put, List.setIfInBounds_toArray, List.set_cons_zero, List.set_cons_succ]
        refine wpPlan_eg rfl (fun K hK => ?_)
        rw [if_pos (by rfl)]
        go_wp2_with (go_at_call 12; refine Hwr.out.mono ?_; rintro e w6 ⟨rfl, h6⟩)
        have h6' : Sat z w6 [B2.hp, (M'.put (16 * (X1 : Int) + (Y : Int)) x.w).hp, X, whole z] := Sat.sel [_, _] 2 [1, 0] h6 rfl (by decide)
        obtain ⟨_, d1, _, d3⟩ := Hcs.out h6' (by simp)
        refine hK _ _ ⟨d1, d3⟩ ?_
        have H6 := Lib.hid h6'
        clear h6 h6' hK K
        refine wpPlan_g (v := ?_) rfl rfl ?_ ?_; rotate_left 1; · (intro wS hS; go_simp; try with_reducible rfl)
        simp only [Act.put, List.setIfInBounds_toArray, List.set_cons_zero, List.set_cons_succ]
        refine wpPlan_q (v := ?_) rfl rfl ?_ ?_; rotate_left 1; · (intro wS hS; go_simp; try with_reducible rfl)
        simp only [Act.put, List.setIfInBounds_toArray, List.set_cons_zero, List.set_cons_succ]
        refine wpPlan_nil (NoPanic.normal ?_)
        go_wp2
        go_roundg k
        case measure => omega
        case rel => exact ⟨m + 1, B2, _, _, by simp, by have := Hkm.out; omega, HBp.out, HM.out.2, Hl2, I3, A3, H6⟩
end
end Go.Proofs.Ytglelfceogpbpaa
