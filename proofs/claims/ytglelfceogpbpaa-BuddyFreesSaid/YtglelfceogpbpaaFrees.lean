/- law 04's BuddyFrees. -/
import Derived.Test.YtglelfceogpbpaaAwake
import Derived.Test.YtglelfceogpbpaaFreesA
namespace Go.Proofs.Ytglelfceogpbpaa
open Go.RowKit

section
variable {z : World}
set_option maxRecDepth 100000 in
set_option maxHeartbeats 4000000 in
theorem frees_ok (fr re : Int) (v : Value) (l : List OpR) (hv : OpsAt z v l) :
    Calls Try.prog 3 #[vi fr, vi re, v] z fun e w' => e = .returned (.bool true) ∧ Sat z w' [whole z] := by
  have ha := awake_ok (Sat.start z)
  obtain ⟨A, C, hvs⟩ : ∃ A C, v = .slice A l.length C := by
    rcases hv with ⟨rfl, rfl⟩ | ⟨a, c, rfl, _⟩
    · exact ⟨none, 0, rfl⟩
    · exact ⟨some a, c, rfl⟩
  subst hvs
  by_cases h60 : l.length ≤ 60
  · go_enter Try.func3, Try.ntmps3
    go_wp2_with (first
      | (go_at_call 6; refine ha.mono ?_; rintro e w1 ⟨rfl, h1⟩; have hb := begun_ok h1 fr re; clear ha)
      | (go_at_call 7; refine hb.mono ?_; rintro e w2 (⟨hno, rfl, h2⟩ | ⟨B, M, _, _, _, _, rfl, hn, _, he, I, h2⟩)))
    · go_ret
      exact ⟨rfl, h2⟩
    clear hb hn h1
    go_loopg [10] l.length (fun k i wr => ∃ (m : Nat) (B' : Bd) (M' : Mem) (Fr' : Nat → Prop), i = vi m ∧ k + m = l.length ∧ B'.p = B.p ∧ M'.p = M.p ∧ Hid (B'.ents.length ≤ m) ∧ Inv B' M' Fr' ∧ Sat z wr [B'.hp, M'.hp, whole z])
    case atStart => exact ⟨0, B, M, _, rfl, rfl, rfl, rfl, Lib.hid (by rw [he]; simp), I, h2⟩
    case round =>
      clear I h2 he
      obtain ⟨m, B', M', Fr', rfl, hkm, hBp, hMp, Hel, I, hws⟩ := hrel
      have Hw := Lib.hid hws
      clear hws
      cases gk with
      | zero =>
        have hm : ¬ m < l.length := by omega
        clear hkm
        go_wp2_with fail
        go_ret
        exact ⟨rfl, Hw.out.drop.drop⟩
      | succ k =>
        have hm : m < l.length := by omega
        have hm60 : m ≤ 60 := by omega
        obtain ⟨x, hx⟩ : ∃ x, l[m]? = some x := ⟨_, List.getElem?_eq_getElem hm⟩
        obtain ⟨a, rfl, hcs⟩ : ∃ a, A = some a ∧ ∀ i x, l[i]? = some x →
            z.cell? (a.add (i * 4)) = some (vi x.d) ∧ z.cell? (a.add (i * 4 + 1)) = some (vi x.n) ∧ z.cell? (a.add (i * 4 + 2)) = some (vi x.o) ∧ z.cell? (a.add (i * 4 + 3)) = some (vu x.w) := by
          rcases hv with ⟨_, rfl⟩ | ⟨a, c, e, h⟩
          · simp at hm
          · simp only [Value.slice.injEq] at e
            exact ⟨a, e.1, h⟩
        obtain ⟨k0, k1, k2, _⟩ := hcs m x hx
        have Hkm := Lib.hid hkm
        have hheld := held_ok Hw.out I.ok I.st (by have := Hel.out; omega)
        rw [hBp] at hheld
        have Hh := Lib.hid hheld
        have Hcs := Lib.hid hcs
        have Hx := Lib.hid hx
        clear hkm hx hcs hv hheld
        go_wp2_with (first
                   | (refine wpList_val (o := ⟨some 80, _, _, _, _, _⟩) (v := vi ((x.n.toNat % R.n : Nat) : Int)) rfl (exec_remI 3 3 (.tmp 77) (.tmp 79) rfl x.n R.n (by omega) (by omega) rfl rfl) ?_
                      have hpos : 0 < R.n := by omega
                      obtain ⟨b, hb, rfl⟩ := CRow.ofLen hR Hvv.out hpos
                      have hj : x.n.toNat % R.n < R.n := Nat.mod_lt _ hpos
                      obtain ⟨y, hy⟩ : ∃ y, S[x.n.toNat % R.n]? = some y := ⟨_, List.getElem?_eq_getElem (by rw [← HR.out.1]; exact hj)⟩
                      have Hy := Lib.hid (CRow.rangeB H3.out hb HR.out.2.1 hy)
                      generalize x.n.toNat % R.n = j at *
                      have hfi := free_inv (Sat.sel [_, _, _] 3 [1, 2, 0] (H3.out.alloc (.cells #[vi y.1, vi y.2] 34)) rfl (by decide)) I y.1 y.2
                      rw [hBp] at hfi
                      have Hfi := Lib.hid hfi
                      clear hfi hy hb)
                   | (refine wpList_val (o := ⟨some 82, _, _, _, _, _⟩) rfl (exec_load_mid 34 (.tmp 81) rfl b (j * 2) rfl [vi y.1, vi y.2] _ Hy.out Try.underlying34 rfl (by kernel_rfl)) ?_)
                   | (go_at_call 9
                      refine Hfi.out.mono ?_
                      rintro e w4 ⟨B2, M2, Fr2, c2, rfl, hF, I2, p1, p2, p3, h4⟩
                      have hl2 : B2.ents.length ≤ m + 1 := by
                        have := Hel.out
                        cases hF with
                        | none _ => omega
                        | ok k' p' j' _ _ _ _ _ _ he => rw [he]; have := List.length_eraseIdx_le B'.ents j'; omega
                      have Hl2 := Lib.hid hl2
                      have H4 : Hid (Sat z w4 [B2.hp, M2.hp, R.hp 34, whole z]) := Lib.hid h4
                      have hbl := blocks_ok H4.out I2.ok I2.len300
                      rw [p1] at hbl
                      have Hbl := Lib.hid hbl
                      have Hp1 := Lib.hid p1
                      have Hp2 := Lib.hid (p2.trans hMp)
                      clear Hfi hF hl2 h4 H3 hbl p1 p2 p3)
                   | (go_at_call 10
                      have hai := alloc_inv H3.out.swap I x.o
                      rw [hBp] at hai
                      refine hai.mono ?_
                      clear hai
                      rintro e w4 ⟨B2, Fr2, x2, c2, rfl, hF, I2, p1, h4⟩
                      have hl2 : B2.ents.length ≤ m + 1 := by
                        have := Hel.out
                        cases hF with
                        | bad _ => omega
                        | full _ _ _ _ => omega
                        | ok k' j' q' _ _ _ _ _ _ _ he _ => rw [he]; simp; exact this
                      have Hl2 := Lib.hid hl2
                      obtain ⟨M2, hM2⟩ : ∃ M2, M2 = M' := ⟨_, rfl⟩
                      rw [← hM2] at I2 h4 hMp
                      have H4 : Hid (Sat z w4 [B2.hp, M2.hp, R.hp 34, whole z]) := Lib.hid (Sat.sel [_, _, _] 3 [0, 2, 1] h4 rfl (by decide))
                      have hbl := blocks_ok H4.out I2.ok I2.len300
                      rw [p1] at hbl
                      have Hbl := Lib.hid hbl
                      have Hp1 := Lib.hid p1
                      have Hp2 := Lib.hid hMp
                      clear hF hl2 h4 H3 hbl p1 hM2)
                   | (go_at_call 11
                      refine Hbl.out.mono ?_
                      rintro e w5 ⟨R2, S2, rfl, hR2, hRn2, hRx2, hpp2, hso2, h5⟩
                      obtain ⟨ra2, rk2, hvv2⟩ := CRow.val_len R2 hR2
                      rw [hvv2]
                      have H5 : Hid (Sat z w5 [R2.hp 34, B2.hp, M2.hp, whole z]) := Lib.hid (Sat.sel [_, _, _, _] 4 [0, 1, 2] h5 rfl (by decide))
                      have Hv2 := Lib.hid hvv2
                      have HR2 := Lib.hid (And.intro hRn2 (And.intro hRx2 hpp2))
                      clear Hbl H4 hRn2 hRx2 hpp2 hso2 hvv2 h5)
                   | (go_at_call 8
                      refine Hh.out.mono ?_
                      rintro e w3 ⟨R, S, rfl, hR, hRn, hRx, hp, hso, h3⟩
                      obtain ⟨ra, rk, hvv⟩ := CRow.val_len R hR
                      rw [hvv]
                      have K0 : w3.cell? (a.add (m * 4)) = some (vi x.d) := h3.old (by simp) k0
                      have K1 : w3.cell? ⟨(a.add (m * 4)).block, (a.add (m * 4)).off + 1, none⟩ = some (vi x.n) := by rw [add_at _ _ _ (by omega)]; exact h3.old (by simp) k1
                      have K2 : w3.cell? ⟨(a.add (m * 4)).block, (a.add (m * 4)).off + 2, none⟩ = some (vi x.o) := by rw [add_at _ _ _ (by omega)]; exact h3.old (by simp) k2
                      have H3 := Lib.hid h3
                      have Hvv := Lib.hid hvv
                      have HR := Lib.hid (And.intro hRn (And.intro hRx hp))
                      clear Hh Hw h3 hvv hRn hRx hp hso k0 k1 k2))
        all_goals
          refine frees_check I2 hR2 HR2.out.1 HR2.out.2.1 HR2.out.2.2 Hv2.out _ _ H5.out _ _ _ _ _ _ _ _ _ _ _ _ _ _ _ _ _ _ _ _ _ _ _ _ _ _ _ _ _ _ _ _ _ _ _ _ _ _ _ _ _ _ _ _ _ _ _ _ _ _ _ _ _ _ _ _ _ _ _ _ _ _ _ _ _ _ _ _ _ _ _ _ _ _ _ _ _ _ _ _ _ _ _ _ _ _ _ _ _ _ _ _ _ _ _ _ _ _ _ _ _ _ _ _ _ _ _ _ _ _ _ _ _ _ _ _ _ _ _ _ _ _ _ _ _ _ _ _ _ _ _ _ _ _ _ _ _ _ _ _ _ _ _ _ _ _ _ _ _ _ _ _ _ _ ?_
          intro u6 u14 u15 u16 u17 u18 u98 u99 u100 u101 u102 u103 u104 u105 u106 u107 u108 u109 u110 u111 u112 u113 u114 u115 u116 u117 u118 u119 u120 u121 u122 u123 u124 u125 u126 u127 u128 u129 u130 u131 u132 u133 u134 u135 u136 u137 u138 u139 u140 u141 u142 u143 u144 u145 u146 u147 u148 u149 u150 u151 u152 u153 u154 w6 h6
          have H6 := Lib.hid h6
          clear h6 H5
          go_wp2_with fail
          go_roundg k
          case measure => omega
          case rel => exact ⟨m + 1, B2, M2, Fr2, by simp, by have := Hkm.out; omega, Hp1.out, Hp2.out, Hl2, I2, H6.out.drop⟩
  · have h60' : ¬ l.length ≤ 60 := h60
    go_enter Try.func3, Try.ntmps3
    go_wp2_with (first
      | (go_at_call 6; refine ha.mono ?_; rintro e w1 ⟨rfl, h1⟩; have hb := begun_ok h1 fr re; clear ha)
      | (go_at_call 7; refine hb.mono ?_; rintro e w2 (⟨hno, rfl, h2⟩ | ⟨B, M, _, _, _, _, rfl, hn, _, he, I, h2⟩)))
    · go_ret
      exact ⟨rfl, h2⟩
    · go_ret
      exact ⟨rfl, h2.drop.drop⟩
end
end Go.Proofs.Ytglelfceogpbpaa
