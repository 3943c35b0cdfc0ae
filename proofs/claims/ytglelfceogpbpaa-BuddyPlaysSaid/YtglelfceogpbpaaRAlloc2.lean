/- The reference's Alloc, whole. -/
import Derived.Test.YtglelfceogpbpaaRAlloc
namespace Go.Proofs.Ytglelfceogpbpaa
open Go.RowKit

section
variable {z w : World} {F : List Chunk} {B : RB}

def RB.withF (B : RB) (f : List Bool) : RB := { B with f := f }
theorem RB.withF_ok (hok : B.ok) (f : List Bool) (h : f.length = B.f.length) : (B.withF f).ok := ⟨by rw [show (B.withF f).f = f from rfl, h]; exact hok.n0, by rw [show (B.withF f).f = f from rfl, h]; exact hok.n1, hok.gok, hok.gn, hok.gx, hok.gl⟩

set_option maxRecDepth 100000 in
theorem ralloc_l2 (hok : B.ok) {xn k : Nat} (hk : k ≤ 8) (hfit : xn + 2 ^ k ≤ B.f.length) (Q : Exit → Act → World → Prop) (w : World) (hs : Sat z w (B.hp :: F))
    (t2 t3 t4 t5 t6 t7 t8 t11 t12 t13 t14 t15 t16 t17 t18 t19 t20 t21 t22 t23 t24 t25 t26 t27 t28 t29 t30 t31 t32 t33 t34 t35 t36 t37 t38 t39 t40 t41 t42 t43 t44 t45 t46 t47 t48 t49 t50 t51 t52 t53 t54 t55 t56 t57 t58 t59 t60 t61 t62 t63 t64 t65 t66 t67 t68 t69 t70 t71 t72 t73 t74 t75 t76 t77 t78 t79 t80 t81 t82 t83 t84 t85 t86 : Value)
    (h : ∀ (u10 u58 u59 u60 u61 u62 u63 u64 u65 u66 u67 u68 u69 u70 u71 : Value) (w' : World), Sat z w' ((B.withF (setR B.f xn (2 ^ k) false)).hp :: F) →
      Q (.exit 2) ⟨List.toArray (.pointer (some ⟨B.p, 0, none⟩) :: vi k :: t2 :: t3 :: t4 :: t5 :: t6 :: t7 :: t8 :: vi xn :: u10 :: t11 :: t12 :: t13 :: t14 :: t15 :: t16 :: t17 :: t18 :: t19 :: t20 :: t21 :: t22 :: t23 :: t24 :: t25 :: t26 :: t27 :: t28 :: t29 :: t30 :: t31 :: t32 :: t33 :: t34 :: t35 :: t36 :: t37 :: t38 :: t39 :: t40 :: t41 :: t42 :: t43 :: t44 :: t45 :: t46 :: t47 :: t48 :: t49 :: t50 :: t51 :: t52 :: t53 :: t54 :: t55 :: t56 :: t57 :: u58 :: u59 :: u60 :: u61 :: u62 :: u63 :: u64 :: u65 :: u66 :: u67 :: u68 :: u69 :: u70 :: u71 :: t72 :: t73 :: t74 :: t75 :: t76 :: t77 :: t78 :: t79 :: t80 :: t81 :: t82 :: t83 :: t84 :: t85 :: t86 :: []), []⟩ w') :
    Code.wp Try.prog (loopOf Try.f20 2) Q ⟨List.toArray (.pointer (some ⟨B.p, 0, none⟩) :: vi k :: t2 :: t3 :: t4 :: t5 :: t6 :: t7 :: t8 :: vi xn :: vi xn :: t11 :: t12 :: t13 :: t14 :: t15 :: t16 :: t17 :: t18 :: t19 :: t20 :: t21 :: t22 :: t23 :: t24 :: t25 :: t26 :: t27 :: t28 :: t29 :: t30 :: t31 :: t32 :: t33 :: t34 :: t35 :: t36 :: t37 :: t38 :: t39 :: t40 :: t41 :: t42 :: t43 :: t44 :: t45 :: t46 :: t47 :: t48 :: t49 :: t50 :: t51 :: t52 :: t53 :: t54 :: t55 :: t56 :: t57 :: t58 :: t59 :: t60 :: t61 :: t62 :: t63 :: t64 :: t65 :: t66 :: t67 :: t68 :: t69 :: t70 :: t71 :: t72 :: t73 :: t74 :: t75 :: t76 :: t77 :: t78 :: t79 :: t80 :: t81 :: t82 :: t83 :: t84 :: t85 :: t86 :: []), []⟩ w := by
  conv => arg 2; whnf
  have hn := hok.n1
  have hpw := fun W => power_ok k hk W
  have H := Lib.hid h
  have HS : Hid (Sat z w ((B.withF (setR B.f xn 0 false)).hp :: F)) := Lib.hid (by rw [setR_zero]; exact hs)
  generalize 2 ^ k = X at *
  have Hpw := Lib.hid hpw
  clear h hs hpw
  go_loopg [10] X (fun g i wr => ∃ m : Nat, i = vi ((xn + m : Nat) : Int) ∧ g + m = X ∧ Hid (Sat z wr ((B.withF (setR B.f xn m false)).hp :: F)))
  case atStart => exact ⟨0, by simp, by omega, HS⟩
  case round =>
    clear HS
    obtain ⟨m, rfl, hgm, H1⟩ := hrel
    cases gk with
    | zero =>
      have hlt : ¬ ((xn + m : Nat) : Int) < (xn : Int) + (X : Int) := by omega
      have hm : m = X := by omega
      have Hm := Lib.hid hm
      clear hgm hm
      go_wp2_with (go_at_call 38; refine (Hpw.out _).mono ?_; rintro e w' ⟨rfl, rfl⟩)
      exact H.out _ _ _ _ _ _ _ _ _ _ _ _ _ _ _ _ (by rw [← Hm.out]; exact H1.out)
    | succ g =>
      have hlt : ((xn + m : Nat) : Int) < (xn : Int) + (X : Int) := by omega
      have hin : xn + m < B.f.length := by omega
      have Hgm := Lib.hid hgm
      have c1 := RB.c1 H1.out
      simp only [RB.withF, setR_len] at c1
      have cf := RB.c_f H1.out (xn + m)
      obtain ⟨old, hold⟩ : ∃ old, (B.withF (setR B.f xn m false)).f[xn + m]? = some old := ⟨_, List.getElem?_eq_getElem (by simp only [RB.withF, setR_len]; exact hin)⟩
      rw [hold] at cf
      simp only [Option.map_some, RB.withF] at cf
      have fz : wr.frozen? ⟨B.fb, xn + m, none⟩ = false := Sat.frozen (c := ((setR B.f xn m false).map Value.bool).toArray) (e := 4) (RB.opens H1.out) (by simp [RB.fr, RB.withF])
      have fin := RB.set_f H1.out (xn + m) false
      simp only [RB.withF, setR_set] at fin
      have Hf : Hid (Sat z (wr.setCell ⟨B.fb, xn + m, none⟩ (.bool false)) ((B.withF (setR B.f xn (m + 1) false)).hp :: F)) := Lib.hid fin
      clear fin hgm hold
      go_wp2_with (go_at_call 38; refine (Hpw.out _).mono ?_; rintro e w' ⟨rfl, rfl⟩)
      go_roundg g
      case measure => omega
      case rel => exact ⟨m + 1, by simp; omega, by have := Hgm.out; omega, Hf⟩

theorem RB.set_g {R : CRow} {cs : List Chunk} (hs : Sat z w (R.hp 57 :: B.hp :: cs)) (gv : List (Int × Int)) : Sat z (w.setCell ⟨B.p, 2, none⟩ R.val) (RB.hp { B with g := R, gv := gv } :: B.g.hp 57 :: cs) := by
  have h1 : Sat z w (B.main :: (B.fr ++ R.hp 57 ++ B.g.hp 57) :: cs) := by
    refine hs.perm ?_
    simp only [RB.hp, List.flatten_cons, ← List.append_assoc]
    refine List.Perm.append_right _ (List.Perm.append_right _ ?_)
    simp only [List.append_assoc]
    exact (List.perm_append_comm).trans (by simp)
  have h2 := Sat.setCell (b := B.p) (c := #[.pointer (some ⟨B.mp, 0, none⟩), .slice (some ⟨B.fb, 0, none⟩) B.f.length B.f.length, B.g.val]) (e := 56) (fr := (0, 0)) (ch := []) h1 (i := 2) R.val
  refine h2.perm ?_
  simp [RB.hp, RB.main, RB.fr]

theorem getD_some {S : List (Int × Int)} {i : Nat} (h : i < S.length) : S[i]? = some (S.getD i (0, 0)) := by
  rw [List.getD_eq_getElem?_getD, List.getElem?_eq_getElem h]; rfl

set_option maxRecDepth 100000 in
set_option maxHeartbeats 1000000 in
theorem ralloc_ok (hs : Sat z w (B.hp :: F)) (hok : B.ok) (hgl : B.gv.length ≤ 900) {L : Nat → List Int} (hL : Bi L (fun i => B.f[i]? = some true)) (k : Nat) (hk : k ≤ 8) :
    Calls Try.prog 20 #[.pointer (some ⟨B.p, 0, none⟩), vi k] w fun e w' =>
      ((∀ y ∈ allL L, y.2 < k) ∧ e = .returned (.tuple #[vi 0, vi 6]) ∧ Sat z w' (B.hp :: F)) ∨
      (∃ (x : Nat) (j : Int) (B' : RB), ((x : Int), j) ∈ allL L ∧ (k : Int) ≤ j ∧ (∀ y ∈ allL L, (k : Int) ≤ y.2 → j ≤ y.2 ∧ (y.2 = j → (x : Int) ≤ y.1)) ∧ e = .returned (.tuple #[vi x, vi 0]) ∧ B'.ok ∧ B'.p = B.p ∧ B'.mp = B.mp ∧
        B'.f = setR B.f x (2 ^ k) false ∧ B'.gv = B.gv ++ [((x : Int), (k : Int))] ∧ Sat z w' (B'.hp :: F)) := by
  have hbl := rblocks_ok hs hok hL
  have Hbl := Lib.hid hbl
  have HL := Lib.hid hL
  have k1 : ¬ (k : Int) < 0 := by omega
  have k2 : ¬ 8 < (k : Int) := by omega
  clear hbl hs hL
  go_enter Try.func20, Try.ntmps20
  go_wp2_with (go_at_call 24
               refine Hbl.out.mono ?_
               rintro e w1 ⟨R, S, rfl, hR, hRn, hRx, hp, hri, hlen, h1⟩
               obtain ⟨ra, rk, hv⟩ := CRow.val_len R hR
               rw [hv]
               have HR := Lib.hid (And.intro hRn (And.intro hRx (And.intro hp (And.intro hri (And.intro hv hlen)))))
               have H1 := Lib.hid h1
               clear hRn hRx hp hri hlen hv h1 Hbl)
  refine ralloc_l0 hR HR.out.1 HR.out.2.1 HR.out.2.2.2.2.2 HR.out.2.2.2.2.1 k _ _ H1.out _ _ _ _ _ _ _ _ _ _ _ _ _ _ _ _ _ _ _ _ _ _ _ _ _ _ _ _ _ _ _ _ _ _ _ _ _ _ _ _ _ _ _ _ _ _ _ _ _ _ _ _ _ _ _ _ _ _ _ _ _ _ _ _ _ _ _ _ _ _ _ _ _ _ _ _ _ _ _ _ _ _ _ ?_
  intro u8 u19 u20 u21 u22 u23 u24 u25 u26 u27 u28 u29 u30 u31 u32 u33 u34 u35 u36 u37 u38 u39 u40 u41 u42 u43 u44 u45 u46 u47 u48 u49 w2 h2
  obtain ⟨hRn, hRx, hp, hri, hv, _⟩ := HR.out
  have hmem : ∀ y, y ∈ allL L ↔ ∃ i, i < S.length ∧ S.getD i (0, 0) = y := fun y => by
    rw [← hp.mem_iff]
    constructor
    · intro hy
      obtain ⟨i, hi, e⟩ := List.mem_iff_getElem.1 hy
      exact ⟨i, hi, by rw [List.getD_eq_getElem?_getD, List.getElem?_eq_getElem hi]; exact e⟩
    · rintro ⟨i, hi, rfl⟩
      exact List.mem_of_getElem? (getD_some hi)
  have Hm := Lib.hid hmem
  have H2 := Lib.hid h2
  rcases bestI_spec S k S.length with ⟨b1, b2⟩ | ⟨b, b1, b2, b3, b4⟩
  · have Hb2 := Lib.hid b2
    rw [b1]
    clear hRn hRx hp hri h2 hmem hv b1 b2
    go_wp2_with fail
    go_ret2
    refine .inl ⟨fun y hy => ?_, rfl, H2.out.drop⟩
    obtain ⟨i, hi, rfl⟩ := (Hm.out y).1 hy
    exact Hb2.out i hi
  · have hbn : b < R.n := by rw [hRn]; exact b1
    obtain ⟨rb, hrb, rfl⟩ := CRow.ofLen2 hR hv (by omega)
    have hy := getD_some b1
    obtain ⟨y0, _⟩ := CRow.cellB h2 hrb hRx hy
    have hin : S.getD b (0, 0) ∈ allL L := (hmem _).2 ⟨b, b1, rfl⟩
    have hmin : ∀ y ∈ allL L, (k : Int) ≤ y.2 → (S.getD b (0, 0)).2 ≤ y.2 ∧ (y.2 = (S.getD b (0, 0)).2 → (S.getD b (0, 0)).1 ≤ y.1) := by
      intro y hy hky
      obtain ⟨i, hi, rfl⟩ := (hmem y).1 hy
      obtain ⟨h5, h6⟩ := b4 i hi hky
      refine ⟨h5, fun e => ?_⟩
      rcases Nat.lt_trichotomy i b with h7 | h7 | h7
      · have := h6 h7; omega
      · subst h7; omega
      · have := List.pairwise_iff_getElem.1 hri b i b1 hi h7
        simp only [List.getD_eq_getElem?_getD, List.getElem?_eq_getElem b1, List.getElem?_eq_getElem hi, Option.getD_some]
        omega
    rw [b2]
    generalize S.getD b (0, 0) = y at *
    obtain ⟨x, j⟩ := y
    obtain ⟨jn, hj9, hje, hxL⟩ := mem_allL.1 hin
    obtain ⟨_, q, hq⟩ := HL.out.form jn x hxL
    simp only at hje hxL hq b3
    obtain ⟨xn, hxn⟩ : ∃ xn : Nat, xn = q * 2 ^ jn := ⟨_, rfl⟩
    rw [← hxn] at hq
    subst hq
    have hfit : xn + 2 ^ k ≤ B.f.length := by
      have hpj := Nat.two_pow_pos jn
      have hfull : B.f[xn + (2 ^ jn - 1)]? = some true := HL.out.part.full (k := jn) (q := q) (by rw [← hxn]; exact hxL) (by rw [Nat.div_eq_iff hpj]; omega)
      have := (List.getElem?_eq_some_iff.1 hfull).1
      have : 2 ^ k ≤ 2 ^ jn := Nat.pow_le_pow_right (by omega) (by omega)
      omega
    have hn1 := hok.n1
    have hpk := Nat.two_pow_pos k
    have Hfit := Lib.hid hfit
    have Hin := Lib.hid (And.intro hin (And.intro b3 hmin))
    have hx256 : xn ≤ 256 := by omega
    clear hRn hRx hp hri h2 hmem hv b1 b2 b3 b4 hy hin hmin hje hxL hxn hfit hrb
    go_wp2_with fail
    refine ralloc_l2 hok hk Hfit.out _ _ H2.out.drop _ _ _ _ _ _ _ _ _ _ _ _ _ _ _ _ _ _ _ _ _ _ _ _ _ _ _ _ _ _ _ _ _ _ _ _ _ _ _ _ _ _ _ _ _ _ _ _ _ _ _ _ _ _ _ _ _ _ _ _ _ _ _ _ _ _ _ _ _ _ _ _ _ _ _ _ _ _ _ _ _ _ _ ?_
    intro u10 u58 u59 u60 u61 u62 u63 u64 u65 u66 u67 u68 u69 u70 u71 w3 h3
    have hok1 := RB.withF_ok hok (setR B.f xn (2 ^ k) false) (setR_len _ _ _ _)
    obtain ⟨gcap, hgv, hgc, _⟩ := CRow.val_base hok.gok
    have hgn := hok.gn
    have s1 : Sat z (w3.alloc (.cells #[] 57)) ((CRow.fresh w3.heap.size).hp 57 :: (B.withF (setR B.f xn (2 ^ k) false)).hp :: F) := h3.allocd _
    have c2 : (w3.alloc (.cells #[] 57)).cell? ⟨B.p, 2, none⟩ = some (.slice B.g.base B.g.n gcap) := by
      have := RB.cm (RB.opens s1.swap) 2
      simp only [RB.withF] at this
      rw [this, ← hgv]; rfl
    obtain ⟨n1, n2, n3⟩ := CRow.news_to (R := B.g) (E := 57) (size := 2) (Sat.pick (RB.opens s1.swap) 2 rfl) hok.gok B.g.n (Nat.le_refl _)
    have ht : B.g.xs.take (B.g.n * 2) = B.g.xs := List.take_of_length_le (by rw [hok.gok.len]; exact Nat.le_refl _)
    rw [ht] at n1 n2
    obtain ⟨bi, bz, b1, b2, b3, b4, b5⟩ := infoRB
    have hg9 : B.g.n ≤ 900 := by rw [hok.gn]; exact hgl
    have hone : ∀ u ∈ B.g.xs, u.oneCell' = true := by rw [hok.gx]; exact flat_one _
    have HS := Lib.hid s1
    have Hn2 := Lib.hid n2
    have Hok := Lib.hid (And.intro hok hok1)
    have Ho := Lib.hid hone
    have Hn1 := Lib.hid n1
    have Hn3 := Lib.hid n3
    clear h3 s1 n1 n2 n3 hgv hgn hok1 hok hone ht H2
    go_wp2_with (first
      | (at_builtin
         refine CRow.wpList_append_src (o := ⟨some 78, _, _, _, _, _⟩) (size := 2) HS.out (CRow.fresh_ok _ 2) (.tmp 73) (.tmp 77) 54 rfl rfl bi bz 16 Try.underlying54 b1 b2 b3 b4 b5 (by decide) rfl B.g.base B.g.n gcap B.g.xs rfl Hn1.out Hn2.out Hn3.out Ho.out (by simp only [CRow.fresh, maxLen]; omega) (by simp only [CRow.fresh]; omega) ?_
         intro R1 w4 o1 o2 o3 s2
         have o2 : R1.n = B.g.n := by rw [o2]; simp [CRow.fresh]
         have o3 : R1.xs = B.g.xs := by rw [o3]; simp [CRow.fresh]
         have s3 := s2.allocd (.cells #[vi xn, vi k] 57)
         have H3 := Lib.hid s3
         have Ho2 := Lib.hid (And.intro o2 o3)
         clear c2 s2 s3 o2 o3)
      | (at_builtin
         refine CRow.wpList_append (o := ⟨some 83, _, _, _, _, _⟩) (size := 2) H3.out.swap o1 (.tmp 78) (.tmp 82) 54 rfl rfl bi bz 16 Try.underlying54 b1 b2 b3 b4 b5 (by decide) rfl ⟨w4.heap.size, 0, none⟩ 1 1 [vi xn, vi k] rfl rfl (by intro k' u hu; rw [Addr.add_lit, Nat.zero_add, H3.out.cell (b := w4.heap.size) (i := k') (c := #[vi xn, vi k]) (e := 57) (fr := (0, 0)) (by simp)]; simpa using hu) (by simp; exact ⟨rfl, rfl⟩) (by decide) (by rw [Ho2.out.1]; simp only [maxLen]; omega) (by rw [Ho2.out.1]; omega) ?_
         intro R2 w5 p1 p2 p3 s4
         have s5 := Sat.sel [_, _, _] 3 [0, 2] s4 rfl (by decide)
         have d2 : w5.cell? ⟨B.p, 2, none⟩ = some B.g.val := by
           have := RB.cm (RB.opens s5.swap) 2
           simp only [RB.withF] at this
           rw [this]; rfl
         have f2 : w5.frozen? ⟨B.p, 2, none⟩ = false := Sat.frozen (b := B.p) (i := 2) (c := #[.pointer (some ⟨B.mp, 0, none⟩), .slice (some ⟨B.fb, 0, none⟩) (setR B.f xn (2 ^ k) false).length (setR B.f xn (2 ^ k) false).length, B.g.val]) (e := 56) (RB.opens s5.swap) (by simp [RB.main, RB.withF])
         have fin : Sat z (w5.setCell ⟨B.p, 2, none⟩ R2.val) _ := RB.set_g s5 (B.gv ++ [((xn : Int), (k : Int))])
         obtain ⟨a2, m2, k2, hv2⟩ := CRow.val_slice R2
         rw [hv2] at fin ⊢
         have Hfin := Lib.hid fin
         have Hp := Lib.hid (And.intro p1 (And.intro p2 p3))
         clear H3 s4 s5 fin hv2 p1 p2 p3))
    go_ret2
    refine .inr ⟨xn, j, { (B.withF (setR B.f xn (2 ^ k) false)) with g := R2, gv := B.gv ++ [((xn : Int), (k : Int))] }, Hin.out.1, Hin.out.2.1, Hin.out.2.2, rfl, ⟨Hok.out.2.n0, Hok.out.2.n1, Hp.out.1, ?_, ?_, by simp; omega⟩, rfl, rfl, rfl, rfl, Hfin.out.swap.drop⟩
    · show R2.n = (B.gv ++ [_]).length
      rw [Hp.out.2.1, Ho2.out.1, Hok.out.1.gn]; simp
    · show R2.xs = (B.gv ++ [_]).flatMap encB
      rw [Hp.out.2.2, Ho2.out.2, Hok.out.1.gx]; simp [encB]
end
end Go.Proofs.Ytglelfceogpbpaa
