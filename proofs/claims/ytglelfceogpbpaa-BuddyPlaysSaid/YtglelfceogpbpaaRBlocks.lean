/- The reference's Blocks. -/
import Derived.Test.YtglelfceogpbpaaRBuddy
namespace Go.Proofs.Ytglelfceogpbpaa
open Go.RowKit

theorem CRow.ofLen2 {R : CRow} {ra : Option Addr} {rk : Nat} (hR : R.ok 2) (hv : R.val = .slice ra R.n rk) (h : 0 < R.n) : ∃ b, R.b = some b ∧ ra = some ⟨b, 0, none⟩ := by
  cases hb : R.b with
  | none => have := hR.nil hb; omega
  | some b =>
    simp only [CRow.val, hb, Value.slice.injEq] at hv
    exact ⟨b, rfl, hv.1.symm⟩

section
variable {z w : World} {F : List Chunk} {B : RB}

theorem infoRB : ∃ i zv, Try.prog.info? 57 = some i ∧ i.zero = some zv ∧ i.size = 2 ∧ i.bytes = 16 ∧ zv.cells.size = 2 := by
  have h : (Try.prog.info? 57).map (fun i => (i.zero.map Value.cells, i.size, i.bytes)) = some (some (Array.replicate 2 (vi 0)), 2, 16) := by kernel_rfl
  obtain ⟨i, hi, hz⟩ := Option.map_eq_some_iff.1 h
  simp only [Prod.mk.injEq] at hz
  obtain ⟨h1, h2, h3⟩ := hz
  obtain ⟨zv, e1, e2⟩ := Option.map_eq_some_iff.1 h1
  exact ⟨i, zv, hi, e1, h2, h3, by rw [e2]; simp⟩

theorem Sat.nil' (hs : Sat z w F) : Sat z w ([] :: F) := hs.perm (by simp)

theorem sofar_len {L : Nat → List Int} {a : Nat} {S : List (Int × Int)} (h : Sofar L a S) {f : List Bool} (hL : Bi L (fun i => f[i]? = some true)) : S.length ≤ a := by
  have h1 : Rising (S.map Prod.fst) := by rw [Rising, List.pairwise_map]; exact h.rise
  have := rising_len (S.map Prod.fst) 0 a h1 (fun x hx => by
    obtain ⟨y, hy, rfl⟩ := List.mem_map.1 hx
    obtain ⟨h2, h3⟩ := (h.mem y).1 hy
    obtain ⟨k, _, _, h4⟩ := mem_allL.1 h2
    obtain ⟨_, q, e⟩ := hL.form k _ h4
    omega)
  simp at this
  omega

theorem bestO_fits (f : List Bool) (a k : Nat) (h : bestO f a 9 = k) : a + 2 ^ k ≤ f.length := by
  rcases bestO_spec f a 9 with ⟨h1, _⟩ | ⟨k', h1, h2, h3, h4, h5⟩
  · omega
  · obtain rfl : k = k' := by omega
    simp only [frees, Bool.and_eq_true, decide_eq_true_eq] at h4
    exact h4.1

set_option maxRecDepth 100000 in
theorem rblocks_ok (hs : Sat z w (B.hp :: F)) (hok : B.ok) {L : Nat → List Int} (hL : Bi L (fun i => B.f[i]? = some true)) :
    Calls Try.prog 24 #[.pointer (some ⟨B.p, 0, none⟩)] w fun e w' => ∃ (R : CRow) (S : List (Int × Int)), e = .returned R.val ∧ R.ok 2 ∧ R.n = S.length ∧ R.xs = S.flatMap encB ∧ S.Perm (allL L) ∧ S.Pairwise (fun x y => x.1 < y.1) ∧ S.length ≤ 256 ∧
      Sat z w' (R.hp 57 :: B.hp :: F) := by
  have hn := hok.n1
  have HL := Lib.hid hL
  clear hL
  go_enter Try.func24, Try.ntmps24
  go_wp2_with fail
  go_loopg [3, 4] B.f.length (fun g o i wr => ∃ (a : Nat) (R : CRow) (S : List (Int × Int)), o = R.val ∧ i = vi a ∧ g + a = B.f.length ∧ R.ok 2 ∧ Hid (R.n = S.length ∧ R.xs = S.flatMap encB ∧ Sofar L a S) ∧ Hid (Sat z wr (R.hp 57 :: B.hp :: F)))
  case atStart => exact ⟨0, CRow.empty, [], rfl, rfl, rfl, CRow.empty_ok 2, Lib.hid ⟨rfl, rfl, Sofar.start HL.out⟩, Lib.hid hs.nil'⟩
  case round =>
    obtain ⟨a, R, S, rfl, rfl, hga, hR, HR, Hs⟩ := hrel
    clear hs
    have c1 := RB.c1 Hs.out.swap
    have hsl : R.n ≤ 256 := by
      have := sofar_len HR.out.2.2 HL.out
      rw [HR.out.1]; omega
    cases gk with
    | zero =>
      have ha : ¬ a < B.f.length := by omega
      have Ha : Hid (B.f.length ≤ a) := Lib.hid (by omega)
      clear hga
      go_wp2_with fail
      go_ret
      exact ⟨R, S, rfl, hR, HR.out.1, HR.out.2.1, HR.out.2.2.done HL.out Ha.out, HR.out.2.2.rise, by rw [← HR.out.1]; exact hsl, Hs.out⟩
    | succ g =>
      have ha : a < B.f.length := by omega
      have Hga := Lib.hid hga
      clear hga
      go_wp2_with fail
      clear c1
      go_loopg [5, 6] 9 (fun g2 b k wv => ∃ m : Nat, b = vi (bestO B.f a m) ∧ k = vi m ∧ g2 + m = 9 ∧ Hid (Sat z wv (R.hp 57 :: B.hp :: F)))
      case atStart => exact ⟨0, rfl, rfl, rfl, Hs⟩
      case round =>
        clear Hs
        obtain ⟨m, rfl, rfl, hgm, Hs⟩ := hrel
        cases gk with
        | zero =>
          obtain rfl : m = 9 := by omega
          clear hgm
          rcases bestO_spec B.f a 9 with ⟨h1, h2⟩ | ⟨k, h1, h2, h3, h4, h5⟩
          · have Hno := Lib.hid (HR.out.2.2.no HL.out h1)
            clear h2
            generalize bestO B.f a 9 = b9 at *
            subst h1
            go_wp2_with fail
            go_roundg g
            case measure => omega
            case rel => exact ⟨a + 1, R, S, rfl, by simp, by have := Hga.out; omega, hR, Lib.hid ⟨HR.out.1, HR.out.2.1, Hno.out⟩, Hs⟩
          · have Hy := Lib.hid (HR.out.2.2.yes HL.out h2)
            have hfit := bestO_fits B.f a k h2
            clear h3 h4 h5
            generalize bestO B.f a 9 = b9 at *
            subst h2
            have hk8 : k ≤ 8 := by omega
            have hX1 : 1 ≤ 2 ^ k := Nat.two_pow_pos k
            have hpw := fun W => power_ok k hk8 W
            obtain ⟨X, hX⟩ : ∃ X, X = 2 ^ k := ⟨_, rfl⟩
            rw [← hX] at hfit hpw hX1
            have HX := Lib.hid hX
            have Hpw := Lib.hid hpw
            clear hpw hX
            have hA := Hs.out.alloc (.cells #[vi a, vi k] 57)
            have HA := Lib.hid hA
            obtain ⟨bi, bz, b1, b2, b3, b4, b5⟩ := infoRB
            have Hnw := Lib.hid (World.news_of_block (heap_alloc_new wr (.cells #[vi a, vi k] 57)))
            have Hoc : ∀ u ∈ [vi a, vi k], u.oneCell' = true := by simp; exact ⟨rfl, rfl⟩
            have Hb1 : R.n + 1 ≤ maxLen := by simp only [maxLen]; omega
            have Hb2 : (R.n + 1) * 16 ≤ 140737488355328 := by omega
            clear hA
            go_wp2_with (first
              | (at_builtin; refine CRow.wpList_append (o := ⟨some 40, _, _, _, _, _⟩) (size := 2) HA.out hR (.tmp 35) (.tmp 39) 54 rfl rfl bi bz 16 Try.underlying54 b1 b2 b3 b4 b5 (by decide) rfl ⟨wr.heap.size, 0, none⟩ 1 1 [vi a, vi k] rfl rfl Hnw.out Hoc (by decide) Hb1 Hb2 ?_; intro R' w6 hok' hn' hx' h7)
              | (go_at_call 38; refine (Hpw.out _).mono ?_; rintro e w' ⟨rfl, rfl⟩))
            go_roundg (B.f.length - (a + X))
            case measure => have := Hga.out; omega
            case rel =>
              refine ⟨a + X, R', S ++ [((a : Int), (k : Int))], rfl, by simp, by omega, hok', Lib.hid ⟨by rw [hn', HR.out.1]; simp, by rw [hx', HR.out.2.1]; simp, ?_⟩, Lib.hid h7⟩
              rw [HX.out]
              exact Hy.out.2.2
        | succ g2 =>
          have hm : m ≤ 8 := by omega
          have Hgm := Lib.hid hgm
          have hX1 : 1 ≤ 2 ^ m := Nat.two_pow_pos m
          have hX2 : 2 ^ m ≤ 2 ^ 8 := Nat.pow_le_pow_right (by omega) hm
          have hpw := fun W => power_ok m hm W
          have hfr := free_any Hs.out.swap hok a (2 ^ m) (by omega) (by omega)
          have hbs : bestO B.f a (m + 1) = if a % 2 ^ m = 0 ∧ frees B.f a (2 ^ m) = true then (m : Int) else bestO B.f a m := rfl
          generalize 2 ^ m = X at *
          obtain ⟨r, hr⟩ : ∃ r, r = a % X := ⟨_, rfl⟩
          rw [← hr] at hbs
          have Hr := Lib.hid hr
          have Hbs := Lib.hid hbs
          have Hfr := Lib.hid hfr
          have Hpw := Lib.hid hpw
          generalize bestO B.f a m = b0 at *
          clear hgm hr hbs hfr hpw
          by_cases hr0 : r = 0
          · subst hr0
            have Hfr2 := Hfr.out
            cases hf : frees B.f a X
            all_goals
              rw [hf] at Hfr2
              have Hfr3 := Lib.hid Hfr2
              have Hf := Lib.hid hf
              clear Hfr2 hf
              go_wp2_with (first
                | (refine wpList_val (o := ⟨some 21, _, _, _, _, _⟩) (v := vi ((0 : Nat) : Int)) rfl (exec_rem 3 3 (.tmp 18) (.tmp 20) rfl a X 0 (by omega) Hr.out.symm rfl rfl) ?_)
                | (go_at_call 38; refine (Hpw.out _).mono ?_; rintro e w' ⟨rfl, rfl⟩)
                | (go_at_call 40; refine Hfr3.out.mono ?_; rintro e w' ⟨rfl, rfl⟩))
              go_roundg g2
              case measure => omega
              case rel => exact ⟨m + 1, by rw [Hbs.out, Hf.out]; simp, by simp, by have := Hgm.out; omega, Hs⟩
          · have hr1 : ((r : Int) == 0) = false := by simp; omega
            go_wp2_with (first
                | (refine wpList_val (o := ⟨some 21, _, _, _, _, _⟩) (v := vi (r : Int)) rfl (exec_rem 3 3 (.tmp 18) (.tmp 20) rfl a X r (by omega) Hr.out.symm rfl rfl) ?_)
                | (go_at_call 38; refine (Hpw.out _).mono ?_; rintro e w' ⟨rfl, rfl⟩))
            go_roundg g2
            case measure => omega
            case rel => exact ⟨m + 1, by rw [Hbs.out]; simp [hr0], by simp, by have := Hgm.out; omega, Hs⟩
end
end Go.Proofs.Ytglelfceogpbpaa
