/- The reference's Free. -/
import Derived.Test.YtglelfceogpbpaaRAlloc2
import Derived.Test.YtglelfceogpbpaaLate
namespace Go.Proofs.Ytglelfceogpbpaa
open Go.RowKit

section
variable (w : World)
theorem run_eqRB (a b c d : Int) : (Op.equal 57 (.agg #[vi a, vi b]) (.agg #[vi c, vi d])).run Try.prog w = .ok (a == c && b == d) w := by
  simp only [Op.equal, Op.maxDepth]
  rw [run_equalIn_struct w 9999 57 #[vi a, vi b] #[vi c, vi d] (by kernel_rfl) (by kernel_rfl)]
  have e : (Try.prog.fieldsOf 57).toList = [{ name := "Frame", type := 3, offset := 0, embedded := false, tag := "", pkgPath := "", byteOffset := 0 }, { name := "Order", type := 3, offset := 1, embedded := false, tag := "", pkgPath := "", byteOffset := 8 }] := by kernel_rfl
  rw [e]
  have p0 : ∀ x y : Int, (part 3 #[vi x, vi y] 0).run Try.prog w = .ok (vi x) w := fun x y => by
    simp [part, isAgg, run_underlying Try.underlying3]
  have p1 : ∀ x y : Int, (part 3 #[vi x, vi y] 1).run Try.prog w = .ok (vi y) w := fun x y => by
    simp [part, isAgg, run_underlying Try.underlying3]
  have q : ∀ x y : Int, (Op.equalIn 9999 3 (vi x) (vi y)).run Try.prog w = .ok (x == y) w := fun x y => run_equalIn_int w 9998 3 .i64 .i64 x y Try.underlying3
  cases h1 : a == c <;> cases h2 : b == d <;> simp [p0, p1, q, h1, h2, Op.eqFields]
end

theorem exec_eqRB {a : Act} {w : World} {o : Oper} (x y : Operand) (t' : TypeId) (ho : o.op = .binOp .eql 57 x y t') (p q : Int × Int) (hx : a.eval x = .agg #[vi p.1, vi p.2]) (hy : a.eval y = .agg #[vi q.1, vi q.2]) (r : Bool) (hr : (p.1 == q.1 && p.2 == q.2) = r) :
    (execOp a.eval o).run Try.prog w = .ok (.value (.bool r)) w := by
  subst hr
  have hb1 : ∀ w : World, (binOp .eql 57 (.agg #[vi p.1, vi p.2]) (.agg #[vi q.1, vi q.2])).run Try.prog w = .ok (.bool (p.1 == q.1 && p.2 == q.2)) w := by
    intro w
    simp only [binOp, Sem.run_bind, run_eqRB, Result.andThen_ok]
    rfl
  have hg : ∀ w : World, (eqGuard .eql 57 x y (.agg #[vi p.1, vi p.2]) (.agg #[vi q.1, vi q.2])).run Try.prog w = .ok () w := by
    intro w
    exact run_eqGuard_agg w .eql 57 x y _ _ (by kernel_rfl)
  unfold execOp
  simp only [ho, hx, hy, Sem.run_bind, hg, Result.andThen_ok, hb1, Sem.run_pure]

section
variable {z w : World} {F : List Chunk} {B : RB} {M : RMem}

set_option maxRecDepth 100000 in
theorem rfree_l2 (hok : B.ok) {xn k : Nat} (hk : k ≤ 8) (hfit : xn + 2 ^ k ≤ B.f.length) (Q : Exit → Act → World → Prop) (w : World) (hs : Sat z w (B.hp :: F))
    (t3 t4 t5 t6 t7 t9 t10 t11 t12 t13 t14 t15 t16 t17 t18 t19 t20 t21 t22 t23 t24 t25 t26 t27 t28 t29 t30 t31 t32 t33 t34 t35 t36 t37 t38 t39 t40 t41 t42 t43 t44 t45 t46 t47 t48 t49 t50 t51 t52 t53 t54 t55 t56 t57 t58 t59 t60 t61 t62 t63 t64 t65 t66 t67 t68 t69 t70 : Value)
    (h : ∀ (u8 u57 u58 u59 u60 u61 u62 u63 u64 u65 u66 u67 u68 u69 u70 : Value) (w' : World), Sat z w' ((B.withF (setR B.f xn (2 ^ k) true)).hp :: F) →
      Q (.exit 2) ⟨List.toArray (.pointer (some ⟨B.p, 0, none⟩) :: vi xn :: vi k :: t3 :: t4 :: t5 :: t6 :: t7 :: u8 :: t9 :: t10 :: t11 :: t12 :: t13 :: t14 :: t15 :: t16 :: t17 :: t18 :: t19 :: t20 :: t21 :: t22 :: t23 :: t24 :: t25 :: t26 :: t27 :: t28 :: t29 :: t30 :: t31 :: t32 :: t33 :: t34 :: t35 :: t36 :: t37 :: t38 :: t39 :: t40 :: t41 :: t42 :: t43 :: t44 :: t45 :: t46 :: t47 :: t48 :: t49 :: t50 :: t51 :: t52 :: t53 :: t54 :: t55 :: t56 :: u57 :: u58 :: u59 :: u60 :: u61 :: u62 :: u63 :: u64 :: u65 :: u66 :: u67 :: u68 :: u69 :: u70 :: []), []⟩ w') :
    Code.wp Try.prog (loopOf Try.f21 2) Q ⟨List.toArray (.pointer (some ⟨B.p, 0, none⟩) :: vi xn :: vi k :: t3 :: t4 :: t5 :: t6 :: t7 :: vi xn :: t9 :: t10 :: t11 :: t12 :: t13 :: t14 :: t15 :: t16 :: t17 :: t18 :: t19 :: t20 :: t21 :: t22 :: t23 :: t24 :: t25 :: t26 :: t27 :: t28 :: t29 :: t30 :: t31 :: t32 :: t33 :: t34 :: t35 :: t36 :: t37 :: t38 :: t39 :: t40 :: t41 :: t42 :: t43 :: t44 :: t45 :: t46 :: t47 :: t48 :: t49 :: t50 :: t51 :: t52 :: t53 :: t54 :: t55 :: t56 :: t57 :: t58 :: t59 :: t60 :: t61 :: t62 :: t63 :: t64 :: t65 :: t66 :: t67 :: t68 :: t69 :: t70 :: []), []⟩ w := by
  conv => arg 2; whnf
  have hn := hok.n1
  have hpw := fun W => power_ok k hk W
  have H := Lib.hid h
  have HS : Hid (Sat z w ((B.withF (setR B.f xn 0 true)).hp :: F)) := Lib.hid (by rw [setR_zero]; exact hs)
  generalize 2 ^ k = X at *
  have Hpw := Lib.hid hpw
  clear h hs hpw
  go_loopg [8] X (fun g i wr => ∃ m : Nat, i = vi ((xn + m : Nat) : Int) ∧ g + m = X ∧ Hid (Sat z wr ((B.withF (setR B.f xn m true)).hp :: F)))
  case atStart => exact ⟨0, by simp, by omega, HS⟩
  case round =>
    clear HS
    obtain ⟨m, rfl, hgm, H1⟩ := hrel
    cases gk with
    | zero =>
      have hlt : ¬ ((xn + m : Nat) : Int) < (xn : Int) + (X : Int) := by omega
      have hm : m = X := by omega
      have Hm := Lib.hid hm
      clear hgm hm
      go_wp2_with (go_at_call 38; refine (Hpw.out _).mono ?_; rintro e w' ⟨rfl, rfl⟩)
      exact H.out _ _ _ _ _ _ _ _ _ _ _ _ _ _ _ _ (by rw [← Hm.out]; exact H1.out)
    | succ g =>
      have hlt : ((xn + m : Nat) : Int) < (xn : Int) + (X : Int) := by omega
      have hin : xn + m < B.f.length := by omega
      have Hgm := Lib.hid hgm
      have c1 := RB.c1 H1.out
      simp only [RB.withF, setR_len] at c1
      have cf := RB.c_f H1.out (xn + m)
      obtain ⟨old, hold⟩ : ∃ old, (B.withF (setR B.f xn m true)).f[xn + m]? = some old := ⟨_, List.getElem?_eq_getElem (by simp only [RB.withF, setR_len]; exact hin)⟩
      rw [hold] at cf
      simp only [Option.map_some, RB.withF] at cf
      have fz : wr.frozen? ⟨B.fb, xn + m, none⟩ = false := Sat.frozen (c := ((setR B.f xn m true).map Value.bool).toArray) (e := 4) (RB.opens H1.out) (by simp [RB.fr, RB.withF])
      have fin := RB.set_f H1.out (xn + m) true
      simp only [RB.withF, setR_set] at fin
      have Hf : Hid (Sat z (wr.setCell ⟨B.fb, xn + m, none⟩ (.bool true)) ((B.withF (setR B.f xn (m + 1) true)).hp :: F)) := Lib.hid fin
      clear fin hgm hold
      go_wp2_with (go_at_call 38; refine (Hpw.out _).mono ?_; rintro e w' ⟨rfl, rfl⟩)
      go_roundg g
      case measure => omega
      case rel => exact ⟨m + 1, by simp; omega, by have := Hgm.out; omega, Hf⟩

set_option maxRecDepth 100000 in
set_option maxHeartbeats 1000000 in
/-- the statement that takes a block out of those that were given -/
theorem rfree_r5 (hok : B.ok) {i : Nat} (hi : i < B.gv.length) (Q : Exit → Act → World → Prop) (w : World) (hs : Sat z w (B.hp :: F))
    (t1 t2 t3 t4 t5 t6 t8 t9 t10 t11 t12 t13 t14 t15 t16 t17 t18 t19 t20 t21 t22 t23 t24 t25 t26 t27 t28 t29 t30 t31 t32 t33 t34 t35 t36 t37 t38 t39 t40 t41 t42 t43 t44 t45 t46 t47 t48 t49 t50 t51 t52 t53 t54 t55 t56 t57 t58 t59 t60 t61 t62 t63 t64 t65 t66 t67 t68 t69 t70 : Value)
    (h : ∀ (u29 u30 u31 u32 u33 u34 u35 u36 u37 u38 u39 u40 u41 u42 u43 u44 u45 u46 u47 : Value) (w' : World) (R : CRow), RB.ok { B with g := R, gv := B.gv.eraseIdx i } → Sat z w' (RB.hp { B with g := R, gv := B.gv.eraseIdx i } :: F) →
      Q .normal ⟨List.toArray (.pointer (some ⟨B.p, 0, none⟩) :: t1 :: t2 :: t3 :: t4 :: t5 :: t6 :: vi i :: t8 :: t9 :: t10 :: t11 :: t12 :: t13 :: t14 :: t15 :: t16 :: t17 :: t18 :: t19 :: t20 :: t21 :: t22 :: t23 :: t24 :: t25 :: t26 :: t27 :: t28 :: u29 :: u30 :: u31 :: u32 :: u33 :: u34 :: u35 :: u36 :: u37 :: u38 :: u39 :: u40 :: u41 :: u42 :: u43 :: u44 :: u45 :: u46 :: u47 :: t48 :: t49 :: t50 :: t51 :: t52 :: t53 :: t54 :: t55 :: t56 :: t57 :: t58 :: t59 :: t60 :: t61 :: t62 :: t63 :: t64 :: t65 :: t66 :: t67 :: t68 :: t69 :: t70 :: []), []⟩ w') :
    Code.wp Try.prog (regOf Try.f21 5) Q ⟨List.toArray (.pointer (some ⟨B.p, 0, none⟩) :: t1 :: t2 :: t3 :: t4 :: t5 :: t6 :: vi i :: t8 :: t9 :: t10 :: t11 :: t12 :: t13 :: t14 :: t15 :: t16 :: t17 :: t18 :: t19 :: t20 :: t21 :: t22 :: t23 :: t24 :: t25 :: t26 :: t27 :: t28 :: t29 :: t30 :: t31 :: t32 :: t33 :: t34 :: t35 :: t36 :: t37 :: t38 :: t39 :: t40 :: t41 :: t42 :: t43 :: t44 :: t45 :: t46 :: t47 :: t48 :: t49 :: t50 :: t51 :: t52 :: t53 :: t54 :: t55 :: t56 :: t57 :: t58 :: t59 :: t60 :: t61 :: t62 :: t63 :: t64 :: t65 :: t66 :: t67 :: t68 :: t69 :: t70 :: []), []⟩ w := by
  conv => arg 2; whnf
  obtain ⟨gcap, hgv, hgc, _⟩ := CRow.val_base hok.gok
  have hcs : ∀ {w : World} {cs : List Chunk}, Sat z w (B.hp :: cs) → w.cell? ⟨B.p, 2, none⟩ = some (.slice B.g.base B.g.n gcap) := fun hs => by rw [RB.cm (RB.opens hs), ← hgv]; rfl
  have hsz : ∀ w, (Go.sizeOf 57).run Try.prog w = .ok 2 w := fun w => by kernel_rfl
  have hin : i < B.g.n := by rw [hok.gn]; exact hi
  have hg9 : B.g.n ≤ 1000 := by rw [hok.gn]; exact hok.gl
  have hone : ∀ u ∈ B.g.xs, u.oneCell' = true := by rw [hok.gx]; exact flat_one _
  obtain ⟨A2, hA2⟩ : ∃ A2, A2 = (if gcap = i + 1 then B.g.base else B.g.base.map (·.add ((i + 1) * 2))) := ⟨_, rfl⟩
  obtain ⟨bi, bz, b1, b2, b3, b4, b5⟩ := infoRB
  have hw1 : IntKind.i64.wrap ((i : Int) + 1) = ((i + 1 : Nat) : Int) := by rw [IntKind.wrap_i64]; omega
  have H := Lib.hid h
  have HS := Lib.hid hs
  have HA := Lib.hid hA2
  have Ho := Lib.hid hone
  have Hw1 := Lib.hid hw1
  clear h hs hA2 hone hgv hw1
  refine wp_region_late (fun w' => w'.cell? ⟨B.p, 2, none⟩ = some (.slice B.g.base B.g.n gcap)) 19 [(0, false), (2, false), (3, false), (4, false), (5, false), (6, false), (7, false), (9, false), (10, false), (11, false), (12, false), (13, false), (14, false), (15, false), (1, true), (8, true), (16, true), (17, true), (18, true), (19, true)] (by kernel_rfl) (by kernel_rfl) ?_
  have S0 := hcs HS.out.drew
  refine wpPlanL_q (v := ?_) S0 rfl rfl ?_ ?_; rotate_left 1; · (intro wS hS; go_simp; try with_reducible rfl)
  simp only [Act.put, List.setIfInBounds_toArray, List.set_cons_zero, List.set_cons_succ]
  refine wpPlanL_q (v := ?_) S0 rfl rfl ?_ ?_; rotate_left 1; · (intro wS hS; go_simp; try with_reducible rfl)
  simp only [Act.put, List.setIfInBounds_toArray, List.set_cons_zero, List.set_cons_succ]
  refine wpPlanL_q (v := ?_) S0 rfl rfl ?_ ?_; rotate_left 1; · (intro wS hS; go_simp; try with_reducible rfl)
  simp only [Act.put, List.setIfInBounds_toArray, List.set_cons_zero, List.set_cons_succ]
  refine wpPlanL_q (v := ?_) S0 rfl rfl ?_ ?_; rotate_left 1; · (intro wS hS; go_simp; try with_reducible rfl)
  simp only [Act.put, List.setIfInBounds_toArray, List.set_cons_zero, List.set_cons_succ]
  refine wpPlanL_q (v := .slice B.g.base B.g.n gcap) S0 rfl rfl ?_ ?_; · (intro wS hS; go_simp)
  simp only [Act.put, List.setIfInBounds_toArray, List.set_cons_zero, List.set_cons_succ]
  refine wpPlanL_q (v := ?_) S0 rfl rfl ?_ ?_; rotate_left 1; · (intro wS hS; go_simp; try with_reducible rfl)
  simp only [Act.put, List.setIfInBounds_toArray, List.set_cons_zero, List.set_cons_succ]
  refine wpPlanL_q (v := .slice B.g.base i gcap) S0 rfl rfl (fun wS hS => exec_slice_to 54 57 (.tmp 34) (.tmp 35) rfl Try.underlying54 2 hsz B.g.base B.g.n gcap i rfl rfl (by omega)) ?_
  simp only [Act.put, List.setIfInBounds_toArray, List.set_cons_zero, List.set_cons_succ]
  refine wpPlanL_q (v := ?_) S0 rfl rfl ?_ ?_; rotate_left 1; · (intro wS hS; go_simp; try with_reducible rfl)
  simp only [Act.put, List.setIfInBounds_toArray, List.set_cons_zero, List.set_cons_succ]
  refine wpPlanL_q (v := ?_) S0 rfl rfl ?_ ?_; rotate_left 1; · (intro wS hS; go_simp; try with_reducible rfl)
  simp only [Act.put, List.setIfInBounds_toArray, List.set_cons_zero, List.set_cons_succ]
  refine wpPlanL_q (v := ?_) S0 rfl rfl ?_ ?_; rotate_left 1; · (intro wS hS; go_simp; try with_reducible rfl)
  simp only [Act.put, List.setIfInBounds_toArray, List.set_cons_zero, List.set_cons_succ]
  refine wpPlanL_q (v := .slice B.g.base B.g.n gcap) S0 rfl rfl ?_ ?_; · (intro wS hS; go_simp)
  simp only [Act.put, List.setIfInBounds_toArray, List.set_cons_zero, List.set_cons_succ]
  refine wpPlanL_q (v := ?_) S0 rfl rfl ?_ ?_; rotate_left 1; · (intro wS hS; go_simp; try with_reducible rfl)
  simp only [Act.put, List.setIfInBounds_toArray, List.set_cons_zero, List.set_cons_succ]
  refine wpPlanL_q (v := vi ((i + 1 : Nat) : Int)) S0 rfl rfl ?_ ?_; · (intro wS hS; go_simp; exact Hw1.out)
  simp only [Act.put, List.setIfInBounds_toArray, List.set_cons_zero, List.set_cons_succ]
  refine wpPlanL_q (v := .slice A2 (B.g.n - (i + 1)) (gcap - (i + 1))) S0 rfl rfl (fun wS hS => (exec_slice_from 54 57 (.tmp 41) (.tmp 43) rfl Try.underlying54 2 hsz B.g.base B.g.n gcap (i + 1) rfl rfl hin).trans (by rw [HA.out])) ?_
  simp only [Act.put, List.setIfInBounds_toArray, List.set_cons_zero, List.set_cons_succ]
  clear S0
  refine wpPlanL_e rfl rfl (fun K hK => ?_)
  go_wp2_with fail
  have s1 : Sat z ((w.alloc (.cells #[] 57)).drew) ((CRow.fresh w.heap.size).hp 57 :: B.hp :: F) := (HS.out.allocd _).drew
  refine hK _ _ (.inr (hcs s1.swap)) ?_
  clear hK K
  refine wpPlanL_e rfl rfl (fun K hK => ?_)
  obtain ⟨n1, n2, n3⟩ := CRow.news_to (R := B.g) (E := 57) (size := 2) (Sat.pick (RB.opens s1.swap) 2 rfl) hok.gok i (by omega)
  refine CRow.wp_append_src s1 (CRow.fresh_ok _ 2) (.tmp 30) (.tmp 36) 54 rfl bi bz 16 Try.underlying54 b1 b2 b3 b4 b5 (by decide) rfl B.g.base i gcap (B.g.xs.take (i * 2)) rfl n1 n2 n3 (fun u hu => Ho.out u (List.mem_of_mem_take hu)) (by simp only [CRow.fresh, maxLen]; omega) (by simp only [CRow.fresh]; omega) ?_
  intro R1 w2 o1 o2 o3 s2
  have o2 : R1.n = i := by rw [o2]; simp [CRow.fresh]
  have o3 : R1.xs = B.g.xs.take (i * 2) := by rw [o3]; simp [CRow.fresh]
  refine hK _ _ (.inr (hcs s2.swap)) ?_
  clear hK K
  refine wpPlanL_e rfl rfl (fun K hK => ?_)
  obtain ⟨m1, m2, m3⟩ := CRow.news_from (R := B.g) (E := 57) (size := 2) (Sat.pick (RB.opens s2.swap) 2 rfl) hok.gok (i + 1) gcap hin hgc
  rw [← HA.out] at m2 m3
  refine CRow.wp_append_src s2 o1 (.tmp 37) (.tmp 44) 54 rfl bi bz 16 Try.underlying54 b1 b2 b3 b4 b5 (by decide) rfl A2 (B.g.n - (i + 1)) (gcap - (i + 1)) (B.g.xs.drop ((i + 1) * 2)) rfl m1 m2 m3 (fun u hu => Ho.out u (List.mem_of_mem_drop hu)) (by rw [o2]; simp only [maxLen]; omega) (by rw [o2]; omega) ?_
  intro R2 w3 p1 p2 p3 s3
  refine hK _ _ (.inr (hcs s3.swap)) ?_
  clear hK K
  have d2 := hcs s3.swap
  have f2 : w3.frozen? ⟨B.p, 2, none⟩ = false := Sat.frozen (b := B.p) (i := 2) (c := #[.pointer (some ⟨B.mp, 0, none⟩), .slice (some ⟨B.fb, 0, none⟩) B.f.length B.f.length, B.g.val]) (e := 56) (RB.opens s3.swap) (by simp [RB.main])
  have fin := RB.set_g s3 (B.gv.eraseIdx i)
  obtain ⟨a2, q2, k2, hv2⟩ := CRow.val_slice R2
  rw [hv2] at fin ⊢
  have Hfin := Lib.hid fin
  have Hp := Lib.hid (And.intro o2 (And.intro o3 (And.intro p1 (And.intro p2 p3))))
  clear s1 s2 fin hv2 o2 o3 p1 p2 p3 n1 n2 n3 m1 m2 m3
  have Hs3 := Lib.hid s3
  clear s3
  refine wpPlanL_e rfl rfl (fun K hK => ?_)
  go_wp2_with fail
  refine hK _ _ (.inr d2) ?_
  clear hK K
  refine wpPlanL_e rfl rfl (fun K hK => ?_)
  go_wp2_with fail
  refine hK _ _ (.inr d2) ?_
  clear hK K
  refine wpPlanL_e rfl rfl (fun K hK => ?_)
  go_wp2_with fail
  refine hK _ _ (.inl trivial) ?_
  clear hK K
  refine wpPlanL_nil (NoPanic.normal ?_)
  obtain ⟨o2, o3, p1, p2, p3⟩ := Hp.out
  have hel : (B.gv.eraseIdx i).length = B.gv.length - 1 := List.length_eraseIdx_of_lt hi
  refine H.out _ _ _ _ _ _ _ _ _ _ _ _ _ _ _ _ _ _ _ _ R2 ⟨hok.n0, hok.n1, p1, ?_, ?_, ?_⟩ Hfin.out.swap.drop
  · show R2.n = (B.gv.eraseIdx i).length
    rw [p2, o2, hel, hok.gn]; omega
  · show R2.xs = (B.gv.eraseIdx i).flatMap encB
    rw [p3, o3, hok.gx, flat_take, flat_drop, List.eraseIdx_eq_take_drop_succ, List.flatMap_append]
  · show (B.gv.eraseIdx i).length ≤ 1000
    have := hok.gl
    omega
end
end Go.Proofs.Ytglelfceogpbpaa
