/- The reference's Held. -/
import Derived.Test.YtglelfceogpbpaaRBlocks
import Derived.Test.YtglelfceogpbpaaCSlice
import Derived.Test.YtglelfceogpbpaaPlan
import Derived.Test.YtglelfceogpbpaaTree
import Derived.Test.YtglelfceogpbpaaCut
namespace Go.Proofs.Ytglelfceogpbpaa
open Go.RowKit

section
variable {z w : World} {F : List Chunk} {B : RB}

theorem RB.gave (hok : B.ok) {m : Nat} {x : Int × Int} (hx : B.gv[m]? = some x) : ∃ gb, B.g.b = some gb ∧ B.g.val = .slice (some ⟨gb, 0, none⟩) B.g.n B.g.cap ∧
    ∀ {w : World} {cs : List Chunk}, Sat z w (B.hp :: cs) → w.cell? ⟨B.p, 2, none⟩ = some (.slice (some ⟨gb, 0, none⟩) B.g.n B.g.cap) ∧ w.rangeAt gb (m * 2) [vi x.1, vi x.2] := by
  have hlt := (List.getElem?_eq_some_iff.1 hx).1
  cases hb : B.g.b with
  | none => have := hok.gok.nil hb; rw [hok.gn] at this; omega
  | some gb =>
    have hv : B.g.val = .slice (some ⟨gb, 0, none⟩) B.g.n B.g.cap := by simp [CRow.val, hb]
    refine ⟨gb, rfl, hv, fun hs => ⟨?_, ?_⟩⟩
    · rw [RB.cm (RB.opens hs), ← hv]; rfl
    · exact CRow.rangeB (Sat.pick (RB.opens hs) 2 rfl) hb hok.gx hx

set_option maxRecDepth 100000 in
set_option maxHeartbeats 1000000 in
theorem rheld_r8 (hok : B.ok) {R : CRow} (hR : R.ok 2) {x : Int × Int} {m : Nat} (hx : B.gv[m]? = some x) {j : Nat} (hj : j ≤ R.n) (hRn : R.n ≤ 2000) (hone : ∀ u ∈ R.xs, u.oneCell' = true) {rcap : Nat} (hcap : R.n ≤ rcap) {ba : Option Addr} (hba : R.base = ba) (Q : Exit → Act → World → Prop) (w : World) (hs : Sat z w (R.hp 57 :: B.hp :: F))
    (t1 t2 t6 t7 t8 t9 t10 t11 t12 t13 t14 t15 t16 t17 t18 t19 t20 t21 t22 t23 t24 t25 t26 t27 t28 t29 t30 t31 t32 t33 t34 t35 t36 t37 t38 t39 t40 t41 t42 t43 t44 t45 t46 t47 t48 t49 t50 t51 t52 t53 t54 t55 : Value)
    (h : ∀ (u37 u38 u39 u40 u41 u42 u43 u44 u45 u46 u47 u48 u49 u50 u51 u52 u53 u54 : Value) (w' : World) (R' : CRow), R'.ok 2 → R'.n = R.n + 1 → R'.xs = R.xs.take (j * 2) ++ [vi x.1, vi x.2] ++ R.xs.drop (j * 2) → Sat z w' (R'.hp 57 :: B.hp :: F) →
      Q .normal ⟨List.toArray (.pointer (some ⟨B.p, 0, none⟩) :: t1 :: t2 :: R'.val :: vi m :: vi j :: t6 :: t7 :: t8 :: t9 :: t10 :: t11 :: t12 :: t13 :: t14 :: t15 :: t16 :: t17 :: t18 :: t19 :: t20 :: t21 :: t22 :: t23 :: t24 :: t25 :: t26 :: t27 :: t28 :: t29 :: t30 :: t31 :: t32 :: t33 :: t34 :: t35 :: t36 :: u37 :: u38 :: u39 :: u40 :: u41 :: u42 :: u43 :: u44 :: u45 :: u46 :: u47 :: u48 :: u49 :: u50 :: u51 :: u52 :: u53 :: u54 :: t55 :: []), []⟩ w') :
    Code.wp Try.prog (regOf Try.f25 8) Q ⟨List.toArray (.pointer (some ⟨B.p, 0, none⟩) :: t1 :: t2 :: .slice ba R.n rcap :: vi m :: vi j :: t6 :: t7 :: t8 :: t9 :: t10 :: t11 :: t12 :: t13 :: t14 :: t15 :: t16 :: t17 :: t18 :: t19 :: t20 :: t21 :: t22 :: t23 :: t24 :: t25 :: t26 :: t27 :: t28 :: t29 :: t30 :: t31 :: t32 :: t33 :: t34 :: t35 :: t36 :: t37 :: t38 :: t39 :: t40 :: t41 :: t42 :: t43 :: t44 :: t45 :: t46 :: t47 :: t48 :: t49 :: t50 :: t51 :: t52 :: t53 :: t54 :: t55 :: []), []⟩ w := by
  subst hba
  conv => arg 2; whnf
  have hmn : m < B.g.n := by rw [hok.gn]; exact (List.getElem?_eq_some_iff.1 hx).1
  obtain ⟨gb, hgb, hgv, hcs⟩ := RB.gave (z := z) hok hx
  obtain ⟨A2, hA2⟩ : ∃ A2, A2 = (if rcap = j then R.base else R.base.map (·.add (j * 2))) := ⟨_, rfl⟩
  have hsz : ∀ w, (Go.sizeOf 57).run Try.prog w = .ok 2 w := fun w => by kernel_rfl
  have H := Lib.hid h
  have HS := Lib.hid hs
  have HA := Lib.hid hA2
  obtain ⟨bi, bz, b1, b2, b3, b4, b5⟩ := infoRB
  clear h hs hA2
  refine wp_region_tree (fun w' => w'.cell? ⟨B.p, 2, none⟩ = some (.slice (some ⟨gb, 0, none⟩) B.g.n B.g.cap) ∧ w'.rangeAt gb (m * 2) [vi x.1, vi x.2]) (.q 1 (.q 2 (.q 3 (.q 5 (.q 6 (.q 7 (.q 8 (.q 9 (.q 10 (.q 11 (.q 14 (.q 15 (.q 16 (.fork 0 (.fork 4 (.e 12 (.e 13 (.e 17 (.q 18 .done)))) 12 (.e 4 (.e 13 (.e 17 (.q 18 .done))))) 12 (.e 0 (.e 4 (.e 13 (.e 17 (.q 18 .done))))))))))))))))))) (by kernel_rfl) (by kernel_rfl) (hcs HS.out.swap.drew) ?_
  refine wpT_q (v := ?_) rfl rfl ?_ ?_; rotate_left 1; · (intro wS hS; go_simp; try with_reducible rfl)
  simp only [Act.put, List.setIfInBounds_toArray, List.set_cons_zero, List.set_cons_succ]
  refine wpT_q (v := ?_) rfl rfl ?_ ?_; rotate_left 1; · (intro wS hS; go_simp; try with_reducible rfl)
  simp only [Act.put, List.setIfInBounds_toArray, List.set_cons_zero, List.set_cons_succ]
  refine wpT_q (v := .slice R.base j rcap) rfl rfl (fun wS hS => exec_slice_to 54 57 (.tmp 38) (.tmp 39) rfl Try.underlying54 2 hsz R.base R.n rcap j rfl rfl (by omega)) ?_
  simp only [Act.put, List.setIfInBounds_toArray, List.set_cons_zero, List.set_cons_succ]
  refine wpT_q (v := ?_) rfl rfl ?_ ?_; rotate_left 1; · (intro wS hS; go_simp; try with_reducible rfl)
  simp only [Act.put, List.setIfInBounds_toArray, List.set_cons_zero, List.set_cons_succ]
  refine wpT_q (v := ?_) rfl rfl ?_ ?_; rotate_left 1; · (intro wS hS; go_simp; try with_reducible rfl)
  simp only [Act.put, List.setIfInBounds_toArray, List.set_cons_zero, List.set_cons_succ]
  refine wpT_q (v := ?_) rfl rfl ?_ ?_; rotate_left 1; · (intro wS hS; go_simp; try with_reducible rfl)
  simp only [Act.put, List.setIfInBounds_toArray, List.set_cons_zero, List.set_cons_succ]
  refine wpT_q (v := .slice (some ⟨gb, 0, none⟩) B.g.n B.g.cap) rfl rfl ?_ ?_; · (intro wS hS; have c2 := hS.1; go_simp)
  simp only [Act.put, List.setIfInBounds_toArray, List.set_cons_zero, List.set_cons_succ]
  refine wpT_q (v := ?_) rfl rfl ?_ ?_; rotate_left 1; · (intro wS hS; go_simp; try with_reducible rfl)
  simp only [Act.put, List.setIfInBounds_toArray, List.set_cons_zero, List.set_cons_succ]
  refine wpT_q (v := ?_) rfl rfl ?_ ?_; rotate_left 1; · (intro wS hS; go_simp; try with_reducible rfl)
  simp only [Act.put, List.setIfInBounds_toArray, List.set_cons_zero, List.set_cons_succ]
  refine wpT_q (v := .agg #[vi x.1, vi x.2]) rfl rfl (fun wS hS => exec_load_mid 57 (.tmp 47) rfl gb (m * 2) rfl [vi x.1, vi x.2] _ hS.2 Try.underlying57 rfl (by kernel_rfl)) ?_
  simp only [Act.put, List.setIfInBounds_toArray, List.set_cons_zero, List.set_cons_succ]
  refine wpT_q (v := ?_) rfl rfl ?_ ?_; rotate_left 1; · (intro wS hS; go_simp; try with_reducible rfl)
  simp only [Act.put, List.setIfInBounds_toArray, List.set_cons_zero, List.set_cons_succ]
  refine wpT_q (v := ?_) rfl rfl ?_ ?_; rotate_left 1; · (intro wS hS; go_simp; try with_reducible rfl)
  simp only [Act.put, List.setIfInBounds_toArray, List.set_cons_zero, List.set_cons_succ]
  refine wpT_q (v := .slice A2 (R.n - j) (rcap - j)) rfl rfl (fun wS hS => (exec_slice_from 54 57 (.tmp 51) (.tmp 52) rfl Try.underlying54 2 hsz R.base R.n rcap j rfl rfl hj).trans (by rw [HA.out])) ?_
  simp only [Act.put, List.setIfInBounds_toArray, List.set_cons_zero, List.set_cons_succ]
  refine wpT_fork rfl rfl rfl rfl (fun K hK => ?_) (fun K hK => ?_)
  · go_wp2_with fail
    have s1 : Sat z ((w.alloc (.cells #[] 57)).drew) ((CRow.fresh w.heap.size).hp 57 :: R.hp 57 :: B.hp :: F) := (HS.out.allocd _).drew
    have S0 := hcs (Sat.sel [_, _, _] 3 [2] s1 rfl (by decide)); refine hK _ _ S0 ?_; clear S0 hK K
    refine wpT_fork rfl rfl rfl rfl (fun K hK => ?_) (fun K hK => ?_)
    · obtain ⟨n1, n2, n3⟩ := CRow.news_to (Sat.sel [_, _, _] 3 [1] s1 rfl (by decide)) hR j hj
      refine CRow.wp_append_src s1 (CRow.fresh_ok _ 2) (.tmp 37) (.tmp 40) 54 rfl bi bz 16 Try.underlying54 b1 b2 b3 b4 b5 (by decide) rfl R.base j rcap (R.xs.take (j * 2)) rfl n1 n2 n3 (fun u hu => hone u (List.mem_of_mem_take hu)) (by simp only [CRow.fresh, maxLen]; omega) (by simp only [CRow.fresh]; omega) ?_
      intro R1 w1 o1 o2 o3 s2
      have o2 : R1.n = j := by rw [o2]; simp [CRow.fresh]
      have o3 : R1.xs = R.xs.take (j * 2) := by rw [o3]; simp [CRow.fresh]
      have S0 := hcs (Sat.sel [_, _, _] 3 [2] s2 rfl (by decide)); refine hK _ _ S0 ?_; clear S0 hK K
      refine wpT_e rfl rfl (fun K hK => ?_)
      go_wp2_with fail
      have s3 := s2.allocd (.cells #[vi x.1, vi x.2] 57)
      obtain ⟨nb, hnb⟩ : ∃ nb, nb = w1.heap.size := ⟨_, rfl⟩
      rw [← hnb] at s3
      rw [← hnb]
      have S0 := hcs (Sat.sel [_, _, _, _] 4 [3] s3 rfl (by decide)); refine hK _ _ S0 ?_; clear S0 hK K
      refine wpT_e rfl rfl (fun K hK => ?_)
      refine CRow.wp_append_src s3.swap o1 (.tmp 41) (.tmp 49) 54 rfl bi bz 16 Try.underlying54 b1 b2 b3 b4 b5 (by decide) rfl (some ⟨nb, 0, none⟩) 1 1 [vi x.1, vi x.2] rfl rfl (by intro ad had k u hu; simp only [Option.some.injEq] at had; subst had; rw [Addr.add_lit, Nat.zero_add, s3.cell (b := nb) (i := k) (c := #[vi x.1, vi x.2]) (e := 57) (fr := (0, 0)) (by simp)]; simpa using hu) (by simp) (by simp; exact ⟨rfl, rfl⟩) (by rw [o2]; simp only [maxLen]; omega) (by rw [o2]; omega) ?_
      intro R2 w4 p1 p2 p3 s4
      have S0 := hcs (Sat.sel [_, _, _, _] 4 [3] s4 rfl (by decide)); refine hK _ _ S0 ?_; clear S0 hK K
      refine wpT_e rfl rfl (fun K hK => ?_)
      obtain ⟨m1, m2, m3⟩ := CRow.news_from (Sat.sel [_, _, _, _] 4 [2] s4 rfl (by decide)) hR j rcap hj hcap
      rw [← HA.out] at m2 m3
      refine CRow.wp_append_src s4 p1 (.tmp 50) (.tmp 53) 54 rfl bi bz 16 Try.underlying54 b1 b2 b3 b4 b5 (by decide) rfl A2 (R.n - j) (rcap - j) (R.xs.drop (j * 2)) rfl m1 m2 m3 (fun u hu => hone u (List.mem_of_mem_drop hu)) (by rw [p2, o2]; simp only [maxLen]; omega) (by rw [p2, o2]; omega) ?_
      intro R3 w5 r1 r2 r3 s5
      have S0 := hcs (Sat.sel [_, _, _, _] 4 [3] s5 rfl (by decide)); refine hK _ _ S0 ?_; clear S0 hK K
      refine wpT_q (v := R3.val) rfl rfl (fun wS hS => by rfl) ?_
      simp only [Act.put, List.setIfInBounds_toArray, List.set_cons_zero, List.set_cons_succ]
      refine wpT_nil (NoPanic.normal ?_)
      exact H.out _ _ _ _ _ _ _ _ _ _ _ _ _ _ _ _ _ _ _ R3 r1 (by rw [r2, p2, o2]; omega) (by rw [r3, p3, o3]) (Sat.sel [_, _, _, _] 4 [0, 3] s5 rfl (by decide))
    · generalize (w.alloc (.cells #[] 57)).drew = w1 at *
      generalize w.heap.size = fb at *
      go_wp2_with fail
      have s2 := s1.allocd (.cells #[vi x.1, vi x.2] 57)
      obtain ⟨nb, hnb⟩ : ∃ nb, nb = w1.heap.size := ⟨_, rfl⟩
      rw [← hnb] at s2
      rw [← hnb]
      have S0 := hcs (Sat.sel [_, _, _, _] 4 [3] s2 rfl (by decide)); refine hK _ _ S0 ?_; clear S0 hK K
      refine wpT_e rfl rfl (fun K hK => ?_)
      obtain ⟨n1, n2, n3⟩ := CRow.news_to (Sat.sel [_, _, _, _] 4 [2] s2 rfl (by decide)) hR j hj
      refine CRow.wp_append_src s2.swap (CRow.fresh_ok _ 2) (.tmp 37) (.tmp 40) 54 rfl bi bz 16 Try.underlying54 b1 b2 b3 b4 b5 (by decide) rfl R.base j rcap (R.xs.take (j * 2)) rfl n1 n2 n3 (fun u hu => hone u (List.mem_of_mem_take hu)) (by simp only [CRow.fresh, maxLen]; omega) (by simp only [CRow.fresh]; omega) ?_
      intro R1 w3 o1 o2 o3 s3
      have o2 : R1.n = j := by rw [o2]; simp [CRow.fresh]
      have o3 : R1.xs = R.xs.take (j * 2) := by rw [o3]; simp [CRow.fresh]
      have s3 := s3.swap
      have S0 := hcs (Sat.sel [_, _, _, _] 4 [3] s3 rfl (by decide)); refine hK _ _ S0 ?_; clear S0 hK K
      refine wpT_e rfl rfl (fun K hK => ?_)
      refine CRow.wp_append_src s3.swap o1 (.tmp 41) (.tmp 49) 54 rfl bi bz 16 Try.underlying54 b1 b2 b3 b4 b5 (by decide) rfl (some ⟨nb, 0, none⟩) 1 1 [vi x.1, vi x.2] rfl rfl (by intro ad had k u hu; simp only [Option.some.injEq] at had; subst had; rw [Addr.add_lit, Nat.zero_add, s3.cell (b := nb) (i := k) (c := #[vi x.1, vi x.2]) (e := 57) (fr := (0, 0)) (by simp)]; simpa using hu) (by simp) (by simp; exact ⟨rfl, rfl⟩) (by rw [o2]; simp only [maxLen]; omega) (by rw [o2]; omega) ?_
      intro R2 w4 p1 p2 p3 s4
      have S0 := hcs (Sat.sel [_, _, _, _] 4 [3] s4 rfl (by decide)); refine hK _ _ S0 ?_; clear S0 hK K
      refine wpT_e rfl rfl (fun K hK => ?_)
      obtain ⟨m1, m2, m3⟩ := CRow.news_from (Sat.sel [_, _, _, _] 4 [2] s4 rfl (by decide)) hR j rcap hj hcap
      rw [← HA.out] at m2 m3
      refine CRow.wp_append_src s4 p1 (.tmp 50) (.tmp 53) 54 rfl bi bz 16 Try.underlying54 b1 b2 b3 b4 b5 (by decide) rfl A2 (R.n - j) (rcap - j) (R.xs.drop (j * 2)) rfl m1 m2 m3 (fun u hu => hone u (List.mem_of_mem_drop hu)) (by rw [p2, o2]; simp only [maxLen]; omega) (by rw [p2, o2]; omega) ?_
      intro R3 w5 r1 r2 r3 s5
      have S0 := hcs (Sat.sel [_, _, _, _] 4 [3] s5 rfl (by decide)); refine hK _ _ S0 ?_; clear S0 hK K
      refine wpT_q (v := R3.val) rfl rfl (fun wS hS => by rfl) ?_
      simp only [Act.put, List.setIfInBounds_toArray, List.set_cons_zero, List.set_cons_succ]
      refine wpT_nil (NoPanic.normal ?_)
      exact H.out _ _ _ _ _ _ _ _ _ _ _ _ _ _ _ _ _ _ _ R3 r1 (by rw [r2, p2, o2]; omega) (by rw [r3, p3, o3]) (Sat.sel [_, _, _, _] 4 [0, 3] s5 rfl (by decide))
  · go_wp2_with fail
    have s1 := (HS.out.allocd (.cells #[vi x.1, vi x.2] 57)).drew
    have S0 := hcs (Sat.sel [_, _, _] 3 [2] s1 rfl (by decide)); refine hK _ _ S0 ?_; clear S0 hK K
    generalize (w.alloc (.cells #[vi x.1, vi x.2] 57)).drew = w1 at *
    obtain ⟨nb, hnb⟩ : ∃ nb, nb = w.heap.size := ⟨_, rfl⟩
    rw [← hnb] at s1
    rw [← hnb]
    refine wpT_e rfl rfl (fun K hK => ?_)
    go_wp2_with fail
    have s2 : Sat z (w1.alloc (.cells #[] 57)) ((CRow.fresh w1.heap.size).hp 57 :: [(nb, .cells #[vi x.1, vi x.2] 57 (0, 0))] :: R.hp 57 :: B.hp :: F) := s1.allocd _
    have S0 := hcs (Sat.sel [_, _, _, _] 4 [3] s2 rfl (by decide)); refine hK _ _ S0 ?_; clear S0 hK K
    refine wpT_e rfl rfl (fun K hK => ?_)
    · obtain ⟨n1, n2, n3⟩ := CRow.news_to (Sat.sel [_, _, _, _] 4 [2] s2 rfl (by decide)) hR j hj
      refine CRow.wp_append_src s2 (CRow.fresh_ok _ 2) (.tmp 37) (.tmp 40) 54 rfl bi bz 16 Try.underlying54 b1 b2 b3 b4 b5 (by decide) rfl R.base j rcap (R.xs.take (j * 2)) rfl n1 n2 n3 (fun u hu => hone u (List.mem_of_mem_take hu)) (by simp only [CRow.fresh, maxLen]; omega) (by simp only [CRow.fresh]; omega) ?_
      intro R1 w3 o1 o2 o3 s3
      have o2 : R1.n = j := by rw [o2]; simp [CRow.fresh]
      have o3 : R1.xs = R.xs.take (j * 2) := by rw [o3]; simp [CRow.fresh]
      have s3 := s3.swap
      have S0 := hcs (Sat.sel [_, _, _, _] 4 [3] s3 rfl (by decide)); refine hK _ _ S0 ?_; clear S0 hK K
      refine wpT_e rfl rfl (fun K hK => ?_)
      refine CRow.wp_append_src s3.swap o1 (.tmp 41) (.tmp 49) 54 rfl bi bz 16 Try.underlying54 b1 b2 b3 b4 b5 (by decide) rfl (some ⟨nb, 0, none⟩) 1 1 [vi x.1, vi x.2] rfl rfl (by intro ad had k u hu; simp only [Option.some.injEq] at had; subst had; rw [Addr.add_lit, Nat.zero_add, s3.cell (b := nb) (i := k) (c := #[vi x.1, vi x.2]) (e := 57) (fr := (0, 0)) (by simp)]; simpa using hu) (by simp) (by simp; exact ⟨rfl, rfl⟩) (by rw [o2]; simp only [maxLen]; omega) (by rw [o2]; omega) ?_
      intro R2 w4 p1 p2 p3 s4
      have S0 := hcs (Sat.sel [_, _, _, _] 4 [3] s4 rfl (by decide)); refine hK _ _ S0 ?_; clear S0 hK K
      refine wpT_e rfl rfl (fun K hK => ?_)
      obtain ⟨m1, m2, m3⟩ := CRow.news_from (Sat.sel [_, _, _, _] 4 [2] s4 rfl (by decide)) hR j rcap hj hcap
      rw [← HA.out] at m2 m3
      refine CRow.wp_append_src s4 p1 (.tmp 50) (.tmp 53) 54 rfl bi bz 16 Try.underlying54 b1 b2 b3 b4 b5 (by decide) rfl A2 (R.n - j) (rcap - j) (R.xs.drop (j * 2)) rfl m1 m2 m3 (fun u hu => hone u (List.mem_of_mem_drop hu)) (by rw [p2, o2]; simp only [maxLen]; omega) (by rw [p2, o2]; omega) ?_
      intro R3 w5 r1 r2 r3 s5
      have S0 := hcs (Sat.sel [_, _, _, _] 4 [3] s5 rfl (by decide)); refine hK _ _ S0 ?_; clear S0 hK K
      refine wpT_q (v := R3.val) rfl rfl (fun wS hS => by rfl) ?_
      simp only [Act.put, List.setIfInBounds_toArray, List.set_cons_zero, List.set_cons_succ]
      refine wpT_nil (NoPanic.normal ?_)
      exact H.out _ _ _ _ _ _ _ _ _ _ _ _ _ _ _ _ _ _ _ R3 r1 (by rw [r2, p2, o2]; omega) (by rw [r3, p3, o3]) (Sat.sel [_, _, _, _] 4 [0, 3] s5 rfl (by decide))

theorem flat_take : ∀ (S : List (Int × Int)) (j : Nat), (S.flatMap encB).take (j * 2) = (S.take j).flatMap encB := by
  intro S
  induction S with
  | nil => intro j; simp
  | cons x S ih =>
    intro j
    cases j with
    | zero => simp
    | succ j =>
      rw [show (j + 1) * 2 = j * 2 + 2 by omega]
      simp [encB, ih]
theorem flat_drop : ∀ (S : List (Int × Int)) (j : Nat), (S.flatMap encB).drop (j * 2) = (S.drop j).flatMap encB := by
  intro S
  induction S with
  | nil => intro j; simp
  | cons x S ih =>
    intro j
    cases j with
    | zero => simp
    | succ j =>
      rw [show (j + 1) * 2 = j * 2 + 2 by omega]
      simp [encB, ih]
theorem flat_one (S : List (Int × Int)) : ∀ u ∈ S.flatMap encB, u.oneCell' = true := by
  intro u hu
  obtain ⟨y, _, h⟩ := List.mem_flatMap.1 hu
  simp only [encB, List.mem_cons, List.not_mem_nil, or_false] at h
  rcases h with rfl | rfl <;> rfl

abbrev ByFrame (S : List (Int × Int)) : Prop := S.Pairwise (fun x y => x.1 ≤ y.1)
theorem ins_sorted {S : List (Int × Int)} (h : ByFrame S) {x : Int × Int} {j : Nat} (_hj : j ≤ S.length) (h1 : ∀ i y, i < j → S[i]? = some y → y.1 < x.1) (h2 : ∀ y, S[j]? = some y → x.1 ≤ y.1) : ByFrame (S.take j ++ [x] ++ S.drop j) := by
  have hlow : ∀ y ∈ S.take j, y.1 < x.1 := by
    intro y hy
    obtain ⟨i, hi, e⟩ := List.mem_iff_getElem.1 hy
    simp only [List.length_take] at hi
    exact h1 i y (by omega) (by rw [List.getElem?_eq_getElem (by omega)]; rw [← e]; simp)
  have hhigh : ∀ y ∈ S.drop j, x.1 ≤ y.1 := by
    intro y hy
    cases hd : S.drop j with
    | nil => rw [hd] at hy; simp at hy
    | cons a r =>
      have ha : S[j]? = some a := by
        have := List.getElem?_drop (xs := S) (i := j) (j := 0)
        rw [hd] at this
        simpa using this.symm
      have hx := h2 a ha
      have hp : ByFrame (S.drop j) := h.sublist (List.drop_sublist _ _)
      rw [hd] at hy hp
      rcases List.mem_cons.1 hy with e | hy
      · rw [e]; exact hx
      · have := (List.pairwise_cons.1 hp).1 y hy
        omega
  rw [List.append_assoc, ByFrame, List.pairwise_append]
  refine ⟨h.sublist (List.take_sublist _ _), ?_, ?_⟩
  · rw [List.singleton_append, List.pairwise_cons]
    exact ⟨hhigh, h.sublist (List.drop_sublist _ _)⟩
  · intro a ha b hb
    have h3 := hlow a ha
    rcases List.mem_cons.1 (by simpa using hb) with e | hb
    · rw [e]; omega
    · have := hhigh b hb; omega
theorem ins_perm (S : List (Int × Int)) (x : Int × Int) (j : Nat) : (S.take j ++ [x] ++ S.drop j).Perm (x :: S) := by
  have h1 : (S.take j ++ [x] ++ S.drop j).Perm ([x] ++ (S.take j ++ S.drop j)) := by
    rw [← List.append_assoc]
    exact (List.perm_append_comm).append_right _
  rw [List.take_append_drop] at h1
  exact h1

set_option maxRecDepth 100000 in
set_option maxHeartbeats 1000000 in
theorem rheld_ok (hs : Sat z w (B.hp :: F)) (hok : B.ok) :
    Calls Try.prog 25 #[.pointer (some ⟨B.p, 0, none⟩)] w fun e w' => ∃ (R : CRow) (S : List (Int × Int)), e = .returned R.val ∧ R.ok 2 ∧ R.n = S.length ∧ R.xs = S.flatMap encB ∧ S.Perm B.gv ∧ ByFrame S ∧
      Sat z w' (R.hp 57 :: B.hp :: F) := by
  obtain ⟨ga, gk0, hgv⟩ := CRow.val_len B.g hok.gok
  have hc2 : ∀ {w : World} {cs : List Chunk}, Sat z w (B.hp :: cs) → w.cell? ⟨B.p, 2, none⟩ = some (.slice ga B.g.n gk0) := fun hs => by rw [RB.cm (RB.opens hs), ← hgv]; rfl
  have Hc2 : Hid (∀ {w : World} {cs : List Chunk}, Sat z w (B.hp :: cs) → w.cell? ⟨B.p, 2, none⟩ = some (.slice ga B.g.n gk0)) := Lib.hid hc2
  have Hgv := Lib.hid hgv
  have hgn : B.g.n ≤ 1000 := by rw [hok.gn]; exact hok.gl
  have HS := Lib.hid hs
  clear hs hc2 hgv
  go_enter Try.func25, Try.ntmps25
  go_wp2_with fail
  go_loopg [3, 4] B.g.n (fun g o i wr => ∃ (m : Nat) (R : CRow) (S : List (Int × Int)), o = R.val ∧ i = vi m ∧ g + m = B.g.n ∧ R.ok 2 ∧ Hid (R.n = S.length ∧ R.xs = S.flatMap encB ∧ S.Perm (B.gv.take m) ∧ ByFrame S) ∧ Hid (Sat z wr (R.hp 57 :: B.hp :: F)))
  case atStart => exact ⟨0, CRow.empty, [], rfl, rfl, rfl, CRow.empty_ok 2, Lib.hid ⟨rfl, rfl, by simp, by simp⟩, Lib.hid HS.out.nil'⟩
  case round =>
    clear HS
    obtain ⟨m, R, S, rfl, rfl, hgm, hR, HR, H1⟩ := hrel
    have c2 := Hc2.out H1.out.swap
    cases gk with
    | zero =>
      have hm : ¬ m < B.g.n := by omega
      have hm' : B.gv.take m = B.gv := List.take_of_length_le (by rw [← hok.gn]; omega)
      have Hm := Lib.hid hm'
      clear hgm hm'
      go_wp2_with fail
      go_ret
      exact ⟨R, S, rfl, hR, HR.out.1, HR.out.2.1, by rw [← Hm.out]; exact HR.out.2.2.1, HR.out.2.2.2, H1.out⟩
    | succ g =>
      have hm : m < B.g.n := by omega
      obtain ⟨x, hx⟩ : ∃ x, B.gv[m]? = some x := ⟨_, List.getElem?_eq_getElem (by rw [← hok.gn]; exact hm)⟩
      obtain ⟨gb, hgb, hgv2, hcs⟩ := RB.gave (z := z) hok hx
      have Hcs : Hid (∀ {w : World} {cs : List Chunk}, Sat z w (B.hp :: cs) → w.cell? ⟨B.p, 2, none⟩ = some (.slice (some ⟨gb, 0, none⟩) B.g.n B.g.cap) ∧ w.rangeAt gb (m * 2) [vi x.1, vi x.2]) := Lib.hid hcs
      have Hgm := Lib.hid hgm
      have Hx := Lib.hid hx
      have hRn : R.n ≤ 1000 := by
        have := HR.out.2.2.1.length_eq
        rw [HR.out.1, this, List.length_take]; omega
      obtain ⟨rcap, hrv, hrc, _⟩ := CRow.val_base hR
      rw [hrv] at *
      have Hrv := Lib.hid hrv
      clear hgm hx hcs hgb hgv2 hrv
      go_wp2_with fail
      clear c2
      go_loopg [5] R.n (fun g2 a wv => ∃ j : Nat, a = vi j ∧ g2 + j = R.n ∧ Hid (∀ i y, i < j → S[i]? = some y → y.1 < x.1) ∧ Hid (Sat z wv (R.hp 57 :: B.hp :: F)))
      case atStart => exact ⟨0, rfl, rfl, Lib.hid (fun i y h => by omega), H1⟩
      case round =>
        clear H1
        obtain ⟨j, rfl, hgj, Hlow, H2⟩ := hrel
        obtain ⟨c2, r2⟩ := Hcs.out H2.out.swap.drew
        have x0 := r2 0 (vi x.1) rfl
        rw [Nat.add_zero] at x0
        have x1 := r2 1 (vi x.2) rfl
        clear r2
        cases gk with
        | zero =>
          have hj : ¬ j < R.n := by omega
          have hjn : S.length ≤ j := by rw [← HR.out.1]; omega
          have Hjn := Lib.hid hjn
          have Hgj := Lib.hid hgj
          clear hjn hgj
          go_wp2_with fail
          refine wp_region_plan (fun _ => True) [(0, false), (1, false), (2, false), (3, false), (4, false), (5, false), (6, false), (7, false), (8, false), (9, false), (10, false), (11, false), (12, false), (13, false), (14, false), (15, false), (16, false), (17, false), (18, false), (19, false)] (by kernel_rfl) (by kernel_rfl) trivial ?_
          refine wpPlan_q (v := ?_) rfl rfl ?_ ?_; rotate_left 1; · (intro wS hS; go_simp; try with_reducible rfl)
          simp only [Act.put, List.setIfInBounds_toArray, List.set_cons_zero, List.set_cons_succ]
          refine wpPlan_q (v := ?_) rfl rfl ?_ ?_; rotate_left 1; · (intro wS hS; go_simp; try with_reducible rfl)
          simp only [Act.put, List.setIfInBounds_toArray, List.set_cons_zero, List.set_cons_succ]
          refine wpPlan_q (v := ?_) rfl rfl ?_ ?_; rotate_left 1; · (intro wS hS; go_simp; try with_reducible rfl)
          simp only [Act.put, List.setIfInBounds_toArray, List.set_cons_zero, List.set_cons_succ]
          refine wpPlan_q (v := ?_) rfl rfl ?_ ?_; rotate_left 1; · (intro wS hS; go_simp; try with_reducible rfl)
          simp only [Act.put, List.setIfInBounds_toArray, List.set_cons_zero, List.set_cons_succ]
          refine wpPlan_q (v := ?_) rfl rfl ?_ ?_; rotate_left 1; · (intro wS hS; go_simp; try with_reducible rfl)
          simp only [Act.put, List.setIfInBounds_toArray, List.set_cons_zero, List.set_cons_succ]
          refine wpPlan_n rfl rfl ?_
          simp only [Act.put, List.setIfInBounds_toArray, List.set_cons_zero, List.set_cons_succ]
          refine wpPlan_n rfl rfl ?_
          simp only [Act.put, List.setIfInBounds_toArray, List.set_cons_zero, List.set_cons_succ]
          refine wpPlan_n rfl rfl ?_
          simp only [Act.put, List.setIfInBounds_toArray, List.set_cons_zero, List.set_cons_succ]
          refine wpPlan_n rfl rfl ?_
          simp only [Act.put, List.setIfInBounds_toArray, List.set_cons_zero, List.set_cons_succ]
          refine wpPlan_n rfl rfl ?_
          simp only [Act.put, List.setIfInBounds_toArray, List.set_cons_zero, List.set_cons_succ]
          refine wpPlan_n rfl rfl ?_
          simp only [Act.put, List.setIfInBounds_toArray, List.set_cons_zero, List.set_cons_succ]
          refine wpPlan_n rfl rfl ?_
          simp only [Act.put, List.setIfInBounds_toArray, List.set_cons_zero, List.set_cons_succ]
          refine wpPlan_n rfl rfl ?_
          simp only [Act.put, List.setIfInBounds_toArray, List.set_cons_zero, List.set_cons_succ]
          refine wpPlan_n rfl rfl ?_
          simp only [Act.put, List.setIfInBounds_toArray, List.set_cons_zero, List.set_cons_succ]
          refine wpPlan_n rfl rfl ?_
          simp only [Act.put, List.setIfInBounds_toArray, List.set_cons_zero, List.set_cons_succ]
          refine wpPlan_n rfl rfl ?_
          simp only [Act.put, List.setIfInBounds_toArray, List.set_cons_zero, List.set_cons_succ]
          refine wpPlan_n rfl rfl ?_
          simp only [Act.put, List.setIfInBounds_toArray, List.set_cons_zero, List.set_cons_succ]
          refine wpPlan_n rfl rfl ?_
          simp only [Act.put, List.setIfInBounds_toArray, List.set_cons_zero, List.set_cons_succ]
          refine wpPlan_n rfl rfl ?_
          simp only [Act.put, List.setIfInBounds_toArray, List.set_cons_zero, List.set_cons_succ]
          refine wpPlan_q (v := ?_) rfl rfl ?_ ?_; rotate_left 1; · (intro wS hS; go_simp; try with_reducible rfl)
          simp only [Act.put, List.setIfInBounds_toArray, List.set_cons_zero, List.set_cons_succ]
          refine wpPlan_nil (NoPanic.normal ?_)
          go_wp2
          have hj9 : j ≤ R.n := by have := Hgj.out; omega
          refine rheld_r8 hok hR Hx.out (j := j) (by omega) (by omega) (by rw [HR.out.2.1]; exact flat_one S) hrc rfl _ _ H2.out.drew _ _ _ _ _ _ _ _ _ _ _ _ _ _ _ _ _ _ _ _ _ _ _ _ _ _ _ _ _ _ _ _ _ _ _ _ _ _ _ _ _ _ _ _ _ _ _ _ _ _ _ _ ?_
          intro u37 u38 u39 u40 u41 u42 u43 u44 u45 u46 u47 u48 u49 u50 u51 u52 u53 u54 w9 R9 q1 q2 q3 h9
          have H9 := Lib.hid h9
          have hS9 := ins_sorted HR.out.2.2.2 (x := x) (j := j) (by rw [← HR.out.1]; omega) Hlow.out (fun y hy => by rw [List.getElem?_eq_none Hjn.out] at hy; cases hy)
          have HR9 : Hid (R9.n = (S.take j ++ [x] ++ S.drop j).length ∧ R9.xs = (S.take j ++ [x] ++ S.drop j).flatMap encB ∧ (S.take j ++ [x] ++ S.drop j).Perm (B.gv.take (m + 1)) ∧ ByFrame (S.take j ++ [x] ++ S.drop j)) := Lib.hid ⟨by rw [q2, HR.out.1, (ins_perm S x j).length_eq]; rfl, by rw [q3, HR.out.2.1, flat_take, flat_drop]; simp [encB], by rw [List.take_add_one, Hx.out]; exact (ins_perm S x j).trans ((List.Perm.cons x HR.out.2.2.1).trans (by simpa using (List.perm_append_comm (l₁ := [x]) (l₂ := B.gv.take m)))), hS9⟩
          clear h9 q2 q3 hS9
          go_wp2_with fail
          go_roundg g
          case measure => omega
          case rel => exact ⟨m + 1, R9, _, rfl, by simp, by have := Hgm.out; omega, q1, HR9, H9⟩
        | succ g2 =>
          have hj : j < R.n := by omega
          obtain ⟨b, hb⟩ : ∃ b, R.b = some b := by
            cases hb : R.b with
            | none => have := hR.nil hb; omega
            | some b => exact ⟨b, rfl⟩
          obtain ⟨y, hy⟩ : ∃ y, S[j]? = some y := ⟨_, List.getElem?_eq_getElem (by rw [← HR.out.1]; exact hj)⟩
          obtain ⟨y0, y1⟩ := CRow.cellB H2.out.drew hb HR.out.2.1 hy
          have hbase : R.base = some ⟨b, 0, none⟩ := by simp [CRow.base, hb]
          have Hy := Lib.hid hy
          have Hgj := Lib.hid hgj
          have Hbase := Lib.hid hbase
          clear hy hb hgj hbase
          by_cases hlt : y.1 < x.1
          · rw [Hbase.out]
            go_wp2_with fail
            refine wp_region_plan (fun w' => w'.cell? ⟨b, j * 2, none⟩ = some (vi y.1) ∧ w'.cell? ⟨B.p, 2, none⟩ = some (.slice (some ⟨gb, 0, none⟩) B.g.n B.g.cap) ∧ w'.cell? ⟨gb, m * 2, none⟩ = some (vi x.1)) [(0, false), (1, false), (2, false), (3, false), (4, false), (5, false), (6, false), (7, false), (8, false), (9, false), (10, false), (11, false), (12, false), (13, false), (14, false), (15, false), (16, false), (17, false), (18, false), (19, false)] (by kernel_rfl) (by kernel_rfl) ⟨y0, c2, x0⟩ ?_
            clear y0 c2 x0 y1 x1
            refine wpPlan_q (v := ?_) rfl rfl ?_ ?_; rotate_left 1; · (intro wS hS; go_simp; try with_reducible rfl)
            simp only [Act.put, List.setIfInBounds_toArray, List.set_cons_zero, List.set_cons_succ]
            refine wpPlan_q (v := ?_) rfl rfl ?_ ?_; rotate_left 1; · (intro wS hS; go_simp; try with_reducible rfl)
            simp only [Act.put, List.setIfInBounds_toArray, List.set_cons_zero, List.set_cons_succ]
            refine wpPlan_q (v := ?_) rfl rfl ?_ ?_; rotate_left 1; · (intro wS hS; go_simp; try with_reducible rfl)
            simp only [Act.put, List.setIfInBounds_toArray, List.set_cons_zero, List.set_cons_succ]
            refine wpPlan_q (v := ?_) rfl rfl ?_ ?_; rotate_left 1; · (intro wS hS; go_simp; try with_reducible rfl)
            simp only [Act.put, List.setIfInBounds_toArray, List.set_cons_zero, List.set_cons_succ]
            refine wpPlan_q (v := ?_) rfl rfl ?_ ?_; rotate_left 1; · (intro wS hS; go_simp; try with_reducible rfl)
            simp only [Act.put, List.setIfInBounds_toArray, List.set_cons_zero, List.set_cons_succ]
            refine wpPlan_g (v := ?_) rfl rfl ?_ ?_; rotate_left 1; · (intro wS hS; go_simp; try with_reducible rfl)
            simp only [Act.put, List.setIfInBounds_toArray, List.set_cons_zero, List.set_cons_succ]
            refine wpPlan_g (v := ?_) rfl rfl ?_ ?_; rotate_left 1; · (intro wS hS; go_simp; try with_reducible rfl)
            simp only [Act.put, List.setIfInBounds_toArray, List.set_cons_zero, List.set_cons_succ]
            refine wpPlan_g (v := ?_) rfl rfl ?_ ?_; rotate_left 1; · (intro wS hS; go_simp; try with_reducible rfl)
            simp only [Act.put, List.setIfInBounds_toArray, List.set_cons_zero, List.set_cons_succ]
            refine wpPlan_g (v := ?_) rfl rfl ?_ ?_; rotate_left 1; · (intro wS hS; go_simp; try with_reducible rfl)
            simp only [Act.put, List.setIfInBounds_toArray, List.set_cons_zero, List.set_cons_succ]
            refine wpPlan_g (v := ?_) rfl rfl ?_ ?_; rotate_left 1; · (intro wS hS; go_simp; try with_reducible rfl)
            simp only [Act.put, List.setIfInBounds_toArray, List.set_cons_zero, List.set_cons_succ]
            refine wpPlan_g (v := ?_) rfl rfl ?_ ?_; rotate_left 1; · (intro wS hS; go_simp; try with_reducible rfl)
            simp only [Act.put, List.setIfInBounds_toArray, List.set_cons_zero, List.set_cons_succ]
            refine wpPlan_g (v := ?_) rfl rfl ?_ ?_; rotate_left 1; · (intro wS hS; go_simp; try with_reducible rfl)
            simp only [Act.put, List.setIfInBounds_toArray, List.set_cons_zero, List.set_cons_succ]
            refine wpPlan_g (v := ?_) rfl rfl ?_ ?_; rotate_left 1; · (intro wS hS; go_simp; try with_reducible rfl)
            simp only [Act.put, List.setIfInBounds_toArray, List.set_cons_zero, List.set_cons_succ]
            refine wpPlan_g (v := ?_) rfl rfl ?_ ?_; rotate_left 1; · (intro wS hS; go_simp; try with_reducible rfl)
            simp only [Act.put, List.setIfInBounds_toArray, List.set_cons_zero, List.set_cons_succ]
            refine wpPlan_g (v := ?_) rfl rfl ?_ ?_; rotate_left 1; · (intro wS hS; go_simp; try with_reducible rfl)
            simp only [Act.put, List.setIfInBounds_toArray, List.set_cons_zero, List.set_cons_succ]
            refine wpPlan_g (v := ?_) rfl rfl ?_ ?_; rotate_left 1; · (intro wS hS; go_simp; try with_reducible rfl)
            simp only [Act.put, List.setIfInBounds_toArray, List.set_cons_zero, List.set_cons_succ]
            refine wpPlan_g (v := ?_) rfl rfl ?_ ?_; rotate_left 1; · (intro wS hS; go_simp; try with_reducible rfl)
            simp only [Act.put, List.setIfInBounds_toArray, List.set_cons_zero, List.set_cons_succ]
            refine wpPlan_g (v := ?_) rfl rfl ?_ ?_; rotate_left 1; · (intro wS hS; go_simp; try with_reducible rfl)
            simp only [Act.put, List.setIfInBounds_toArray, List.set_cons_zero, List.set_cons_succ]
            refine wpPlan_g (v := .bool true) rfl rfl ?_ ?_; · (intro wS hS; go_simp; try omega)
            simp only [Act.put, List.setIfInBounds_toArray, List.set_cons_zero, List.set_cons_succ]
            refine wpPlan_q (v := ?_) rfl rfl ?_ ?_; rotate_left 1; · (intro wS hS; go_simp; try with_reducible rfl)
            simp only [Act.put, List.setIfInBounds_toArray, List.set_cons_zero, List.set_cons_succ]
            refine wpPlan_nil (NoPanic.normal ?_)
            go_wp2
            rw [← Hbase.out]
            go_roundg g2
            case measure => omega
            case rel => exact ⟨j + 1, by simp, by have := Hgj.out; omega, Lib.hid (fun i y' h1 h2 => by
              by_cases e : i = j
              · subst e; rw [Hy.out] at h2; simp only [Option.some.injEq] at h2; rw [← h2]; exact hlt
              · exact Hlow.out i y' (by omega) h2), Lib.hid H2.out.drew⟩
          · rw [Hbase.out]
            go_wp2_with fail
            refine wp_region_plan (fun w' => w'.cell? ⟨b, j * 2, none⟩ = some (vi y.1) ∧ w'.cell? ⟨B.p, 2, none⟩ = some (.slice (some ⟨gb, 0, none⟩) B.g.n B.g.cap) ∧ w'.cell? ⟨gb, m * 2, none⟩ = some (vi x.1)) [(0, false), (1, false), (2, false), (3, false), (4, false), (5, false), (6, false), (7, false), (8, false), (9, false), (10, false), (11, false), (12, false), (13, false), (14, false), (15, false), (16, false), (17, false), (18, false), (19, false)] (by kernel_rfl) (by kernel_rfl) ⟨y0, c2, x0⟩ ?_
            clear y0 c2 x0 y1 x1
            refine wpPlan_q (v := ?_) rfl rfl ?_ ?_; rotate_left 1; · (intro wS hS; go_simp; try with_reducible rfl)
            simp only [Act.put, List.setIfInBounds_toArray, List.set_cons_zero, List.set_cons_succ]
            refine wpPlan_q (v := ?_) rfl rfl ?_ ?_; rotate_left 1; · (intro wS hS; go_simp; try with_reducible rfl)
            simp only [Act.put, List.setIfInBounds_toArray, List.set_cons_zero, List.set_cons_succ]
            refine wpPlan_q (v := ?_) rfl rfl ?_ ?_; rotate_left 1; · (intro wS hS; go_simp; try with_reducible rfl)
            simp only [Act.put, List.setIfInBounds_toArray, List.set_cons_zero, List.set_cons_succ]
            refine wpPlan_q (v := ?_) rfl rfl ?_ ?_; rotate_left 1; · (intro wS hS; go_simp; try with_reducible rfl)
            simp only [Act.put, List.setIfInBounds_toArray, List.set_cons_zero, List.set_cons_succ]
            refine wpPlan_q (v := ?_) rfl rfl ?_ ?_; rotate_left 1; · (intro wS hS; go_simp; try with_reducible rfl)
            simp only [Act.put, List.setIfInBounds_toArray, List.set_cons_zero, List.set_cons_succ]
            refine wpPlan_g (v := ?_) rfl rfl ?_ ?_; rotate_left 1; · (intro wS hS; go_simp; try with_reducible rfl)
            simp only [Act.put, List.setIfInBounds_toArray, List.set_cons_zero, List.set_cons_succ]
            refine wpPlan_g (v := ?_) rfl rfl ?_ ?_; rotate_left 1; · (intro wS hS; go_simp; try with_reducible rfl)
            simp only [Act.put, List.setIfInBounds_toArray, List.set_cons_zero, List.set_cons_succ]
            refine wpPlan_g (v := ?_) rfl rfl ?_ ?_; rotate_left 1; · (intro wS hS; go_simp; try with_reducible rfl)
            simp only [Act.put, List.setIfInBounds_toArray, List.set_cons_zero, List.set_cons_succ]
            refine wpPlan_g (v := ?_) rfl rfl ?_ ?_; rotate_left 1; · (intro wS hS; go_simp; try with_reducible rfl)
            simp only [Act.put, List.setIfInBounds_toArray, List.set_cons_zero, List.set_cons_succ]
            refine wpPlan_g (v := ?_) rfl rfl ?_ ?_; rotate_left 1; · (intro wS hS; go_simp; try with_reducible rfl)
            simp only [Act.put, List.setIfInBounds_toArray, List.set_cons_zero, List.set_cons_succ]
            refine wpPlan_g (v := ?_) rfl rfl ?_ ?_; rotate_left 1; · (intro wS hS; go_simp; try with_reducible rfl)
            simp only [Act.put, List.setIfInBounds_toArray, List.set_cons_zero, List.set_cons_succ]
            refine wpPlan_g (v := ?_) rfl rfl ?_ ?_; rotate_left 1; · (intro wS hS; go_simp; try with_reducible rfl)
            simp only [Act.put, List.setIfInBounds_toArray, List.set_cons_zero, List.set_cons_succ]
            refine wpPlan_g (v := ?_) rfl rfl ?_ ?_; rotate_left 1; · (intro wS hS; go_simp; try with_reducible rfl)
            simp only [Act.put, List.setIfInBounds_toArray, List.set_cons_zero, List.set_cons_succ]
            refine wpPlan_g (v := ?_) rfl rfl ?_ ?_; rotate_left 1; · (intro wS hS; go_simp; try with_reducible rfl)
            simp only [Act.put, List.setIfInBounds_toArray, List.set_cons_zero, List.set_cons_succ]
            refine wpPlan_g (v := ?_) rfl rfl ?_ ?_; rotate_left 1; · (intro wS hS; go_simp; try with_reducible rfl)
            simp only [Act.put, List.setIfInBounds_toArray, List.set_cons_zero, List.set_cons_succ]
            refine wpPlan_g (v := ?_) rfl rfl ?_ ?_; rotate_left 1; · (intro wS hS; go_simp; try with_reducible rfl)
            simp only [Act.put, List.setIfInBounds_toArray, List.set_cons_zero, List.set_cons_succ]
            refine wpPlan_g (v := ?_) rfl rfl ?_ ?_; rotate_left 1; · (intro wS hS; go_simp; try with_reducible rfl)
            simp only [Act.put, List.setIfInBounds_toArray, List.set_cons_zero, List.set_cons_succ]
            refine wpPlan_g (v := ?_) rfl rfl ?_ ?_; rotate_left 1; · (intro wS hS; go_simp; try with_reducible rfl)
            simp only [Act.put, List.setIfInBounds_toArray, List.set_cons_zero, List.set_cons_succ]
            refine wpPlan_g (v := .bool false) rfl rfl ?_ ?_; · (intro wS hS; go_simp; try omega)
            simp only [Act.put, List.setIfInBounds_toArray, List.set_cons_zero, List.set_cons_succ]
            refine wpPlan_q (v := ?_) rfl rfl ?_ ?_; rotate_left 1; · (intro wS hS; go_simp; try with_reducible rfl)
            simp only [Act.put, List.setIfInBounds_toArray, List.set_cons_zero, List.set_cons_succ]
            refine wpPlan_nil (NoPanic.normal ?_)
            go_wp2
            refine rheld_r8 hok hR Hx.out (j := j) (by omega) (by omega) (by rw [HR.out.2.1]; exact flat_one S) hrc Hbase.out _ _ H2.out.drew _ _ _ _ _ _ _ _ _ _ _ _ _ _ _ _ _ _ _ _ _ _ _ _ _ _ _ _ _ _ _ _ _ _ _ _ _ _ _ _ _ _ _ _ _ _ _ _ _ _ _ _ ?_
            intro u37 u38 u39 u40 u41 u42 u43 u44 u45 u46 u47 u48 u49 u50 u51 u52 u53 u54 w9 R9 q1 q2 q3 h9
            have H9 := Lib.hid h9
            have hS9 := ins_sorted HR.out.2.2.2 (x := x) (j := j) (by rw [← HR.out.1]; omega) Hlow.out (fun y' hy' => by rw [Hy.out] at hy'; simp only [Option.some.injEq] at hy'; rw [← hy']; omega)
            have HR9 : Hid (R9.n = (S.take j ++ [x] ++ S.drop j).length ∧ R9.xs = (S.take j ++ [x] ++ S.drop j).flatMap encB ∧ (S.take j ++ [x] ++ S.drop j).Perm (B.gv.take (m + 1)) ∧ ByFrame (S.take j ++ [x] ++ S.drop j)) := Lib.hid ⟨by rw [q2, HR.out.1, (ins_perm S x j).length_eq]; rfl, by rw [q3, HR.out.2.1, flat_take, flat_drop]; simp [encB], by rw [List.take_add_one, Hx.out]; exact (ins_perm S x j).trans ((List.Perm.cons x HR.out.2.2.1).trans (by simpa using (List.perm_append_comm (l₁ := [x]) (l₂ := B.gv.take m)))), hS9⟩
            clear h9 q2 q3 hS9
            go_wp2_with fail
            go_roundg g
            case measure => omega
            case rel => exact ⟨m + 1, R9, _, rfl, by simp, by have := Hgm.out; omega, q1, HR9, H9⟩
end
end Go.Proofs.Ytglelfceogpbpaa
