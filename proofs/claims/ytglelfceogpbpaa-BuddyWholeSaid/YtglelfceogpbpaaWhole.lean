/- law 04's BuddyWhole. -/
import Derived.Test.YtglelfceogpbpaaWholeC
namespace Go.Proofs.Ytglelfceogpbpaa
open Go.RowKit

section
variable {z : World}
set_option maxRecDepth 100000 in
set_option maxHeartbeats 4000000 in
theorem whole_ok (fr re : Int) (v : Value) (l : List OpR) (hv : OpsAt z v l) :
    Calls Try.prog 4 #[vi fr, vi re, v] z fun e w' => e = .returned (.bool true) ∧ Sat z w' [whole z] := by
  have ha := awake_ok (Sat.start z)
  obtain ⟨A, C, hvs⟩ : ∃ A C, v = .slice A l.length C := by
    rcases hv with ⟨rfl, rfl⟩ | ⟨a, c, rfl, _⟩
    · exact ⟨none, 0, rfl⟩
    · exact ⟨some a, c, rfl⟩
  subst hvs
  by_cases h60 : l.length ≤ 60
  · by_cases hre : 0 ≤ re
    · obtain ⟨r, rfl⟩ := Int.eq_ofNat_of_zero_le hre
      go_enter Try.func4, Try.ntmps4
      go_wp2_with (first
        | (go_at_call 6; refine ha.mono ?_; rintro e w1 ⟨rfl, h1⟩; have hb := begun_ok h1 fr r; clear ha)
        | (go_at_call 7; refine hb.mono ?_; rintro e w2 (⟨hno, rfl, h2⟩ | ⟨B, M, hn1, hn2, _, hr2, rfl, hn, hW, he, I0, h2⟩))
        | (go_at_call 11
           refine (blocks_ok h2 I0.ok I0.len300).mono ?_
           rintro e w3 ⟨R0, S0, rfl, hR0, hRn0, hRx0, hp0, hso0, h3⟩
           obtain ⟨ra0, rk0, hvv0⟩ := CRow.val_len R0 hR0
           rw [hvv0]
           have H3 : Hid (Sat z w3 [B.hp, M.hp, R0.hp 34, whole z]) := Lib.hid (Sat.sel [_, _, _] 3 [1, 2, 0] h3 rfl (by decide))
           have Hv0 := Lib.hid hvv0
           have HR0 := Lib.hid (And.intro hRn0 (And.intro hRx0 (And.intro hp0 hso0)))
           have I : Inv B M (fun i => r ≤ i ∧ i < M.n) := by simpa using I0
           have A0 : All B M (fun i => r ≤ i ∧ i < M.n) r := All.start I.mok he (by rw [hW, hn])
           have hrn : r ≤ M.n := by rw [hn]; omega
           have Hel0 := Lib.hid (show B.ents.length ≤ 0 by rw [he]; simp)
           have hmn := I.mok.n1
           clear hvv0 hRn0 hRx0 hp0 hso0 h3 h2 hW he hn I0 hn1 hn2 hr2))
      · go_ret
        exact ⟨rfl, h2⟩
      clear hb h1
      refine whole_a I A0 Hel0.out hv h60 _ _ H3.out _ _ _ _ _ _ _ _ _ _ _ _ _ _ _ _ _ _ _ _ _ _ _ _ _ _ _ _ _ _ _ _ _ _ _ _ _ _ _ _ _ _ _ _ _ _ _ _ _ _ _ _ _ _ _ _ _ _ _ _ _ _ _ _ _ _ _ _ _ _ _ _ _ _ _ _ _ _ _ _ _ _ _ _ _ _ _ _ _ _ _ _ _ _ _ _ _ _ _ _ _ _ _ _ _ _ _ _ _ _ _ _ _ _ _ _ _ _ _ _ _ _ _ _ _ _ _ _ _ _ _ _ _ _ _ _ _ _ _ _ _ _ _ _ _ _ _ _ _ _ _ _ _ _ _ _ _ _ _ _ _ _ _ _ _ _ _ _ _ _ _ _ _ _ _ _ _ _ _ _ _ _ _ _ ?_
      intro u6 u11 u12 u13 u48 u49 u50 u51 u52 u53 u54 u55 u56 u57 u58 u59 u60 u61 u62 u63 u64 u65 u66 u67 u68 u69 u70 u71 u72 u73 u74 u75 u76 u77 u78 u79 u80 u81 u82 u83 u84 w4 B4 M4 Fr4 hp4 hm4 hn4 hl4 I4 A4 h4
      have H4 := Lib.hid h4
      have HP4 := Lib.hid (And.intro hp4 (And.intro hm4 (And.intro hn4 hl4)))
      clear h4 hp4 hm4 hn4 hl4 H3 A0
      go_wp2_with fail
      rw [← HP4.out.1]
      refine whole_b I4 A4 (by have := HP4.out.2.2.2; omega) hv h60 _ _ H4.out _ _ _ _ _ _ _ _ _ _ _ _ _ _ _ _ _ _ _ _ _ _ _ _ _ _ _ _ _ _ _ _ _ _ _ _ _ _ _ _ _ _ _ _ _ _ _ _ _ _ _ _ _ _ _ _ _ _ _ _ _ _ _ _ _ _ _ _ _ _ _ _ _ _ _ _ _ _ _ _ _ _ _ _ _ _ _ _ _ _ _ _ _ _ _ _ _ _ _ _ _ _ _ _ _ _ _ _ _ _ _ _ _ _ _ _ _ _ _ _ _ _ _ _ _ _ _ _ _ _ _ _ _ _ _ _ _ _ _ _ _ _ _ _ _ _ _ _ _ _ _ _ _ _ _ _ _ _ _ _ _ _ _ _ _ _ _ _ _ _ _ _ _ _ _ _ _ _ _ _ _ _ _ _ _ ?_
      intro u6 u14 u15 u16 u85 u86 u87 u88 u89 u90 u91 u92 u93 u94 u95 u96 u97 u98 u99 u100 u101 u102 u103 u104 u105 u106 u107 u108 u109 u110 u111 u112 u113 u114 u115 u116 u117 u118 u119 u120 u121 u122 u123 u124 u125 u126 u127 u128 u129 u130 u131 u132 u133 u134 u135 u136 u137 u138 u139 u140 u141 u142 u143 u144 w5 B5 M5 Fr5 hp5 hm5 hn5 he5 I5 A5 h5
      have Fr5h : ∀ i, (r ≤ i ∧ i < M.n) ↔ Fr5 i := fun i => by
        have := A5.all i
        rw [hn5.trans HP4.out.2.2.1, he5] at this
        simpa using this
      have HF5 := Lib.hid Fr5h
      have hb5 := blocks_ok h5 I5.ok I5.len300
      rw [hp5] at hb5
      have Hb5 := Lib.hid hb5
      have hM5 : M5.n ≤ 256 := I5.mok.n1
      have hr5 : r ≤ M5.n := by rw [hn5, HP4.out.2.2.1]; exact hrn
      have hsum : ((sumTo B5 9 : Nat) : Int) = (M5.n : Int) - (r : Int) := by
        rw [left_all I5 (fun i => by rw [hn5, HP4.out.2.2.1]; exact (Fr5h i).symm) hr5]
        omega
      have Hsum := Lib.hid hsum
      have HP5 := Lib.hid (And.intro hp5 (And.intro (hm5.trans HP4.out.2.1) he5))
      clear h5 hp5 hm5 hn5 he5 hb5 H4 A4 Fr5h hsum
      go_wp2_with (first
        | (go_at_call 11
           refine Hb5.out.mono ?_
           rintro e w6 ⟨R6, S6, rfl, hR6, hRn6, hRx6, hp6, hso6, h6⟩
           obtain ⟨ra6, rk6, hvv6⟩ := CRow.val_len R6 hR6
           have hSS : S6 = S0 := (blocks_same I I5 HF5.out HR0.out.2.2.1 hp6 HR0.out.2.2.2 hso6).symm
           have hnn : R6.n = R0.n := by rw [hRn6, hSS, HR0.out.1]
           rw [hvv6, hnn]
           have hl6 := left_ok h6.swap I5.ok I5.len300
           rw [HP5.out.1, Hsum.out] at hl6
           have Hl6 := Lib.hid hl6
           have H6 := Lib.hid h6
           have Hv6 := Lib.hid hvv6
           rw [hSS] at hRn6 hRx6
           have HR6 := Lib.hid (And.intro hRn6 hRx6)
           clear Hb5 hvv6 hRn6 hRx6 hp6 hso6 h6 hSS hnn hl6)
        | (go_at_call 13
           refine Hl6.out.mono ?_
           rintro e w7 ⟨rfl, h7⟩
           have hfm := mem_frames (Sat.sel [_, _, _] 3 [2, 0, 1] h7 rfl (by decide))
           rw [HP5.out.2.1] at hfm
           have Hfm := Lib.hid hfm
           have H7 := Lib.hid h7
           clear Hl6 H6 h7 hfm)
        | (go_at_call 14; refine Hfm.out.mono ?_; rintro e w' ⟨rfl, rfl⟩))
      have hS0 : S0.length ≤ 4000 := by
        rw [HR0.out.2.2.1.length_eq, ← gath_all]
        have := gath_len B I.len300 9 0 (by omega) (fun _ => rfl)
        omega
      refine whole_c hR0 hR6 HR0.out.1 HR0.out.2.1 HR6.out.1 HR6.out.2 Hv0.out Hv6.out hS0 _ _ (Sat.sel [_, _, _, _] 4 [3, 1, 0, 2] H7.out rfl (by decide)) _ _ _ _ _ _ _ _ _ _ _ _ _ _ _ _ _ _ _ _ _ _ _ _ _ _ _ _ _ _ _ _ _ _ _ _ _ _ _ _ _ _ _ _ _ _ _ _ _ _ _ _ _ _ _ _ _ _ _ _ _ _ _ _ _ _ _ _ _ _ _ _ _ _ _ _ _ _ _ _ _ _ _ _ _ _ _ _ _ _ _ _ _ _ _ _ _ _ _ _ _ _ _ _ _ _ _ _ _ _ _ _ _ _ _ _ _ _ _ _ _ _ _ _ _ _ _ _ _ _ _ _ _ _ _ _ _ _ _ _ _ _ _ _ _ _ _ _ _ _ _ _ _ _ _ _ _ _ _ _ _ _ _ _ _ _ _ _ _ _ _ _ _ _ _ _ _ _ _ _ _ _ _ _ _ ?_
      intro u6 u18 u161 u162 u163 u164 u165 u166 u167 u168 u169 u170 u171 u172 u173 u174 u175 w8 h8
      have h8' := Sat.sel [_, _, _, _] 4 [3] h8 rfl (by decide)
      have H8 := Lib.hid h8
      have H8' := Lib.hid h8'
      clear h8 h8' H7 Hfm
      go_wp2_with fail
      refine whole_d I5 A5 HP5.out.2.2 hr5 HP5.out.2.1 _ _ H8'.out _ _ _ _ _ _ _ _ _ _ _ _ _ _ _ _ _ _ _ _ _ _ _ _ _ _ _ _ _ _ _ _ _ _ _ _ _ _ _ _ _ _ _ _ _ _ _ _ _ _ _ _ _ _ _ _ _ _ _ _ _ _ _ _ _ _ _ _ _ _ _ _ _ _ _ _ _ _ _ _ _ _ _ _ _ _ _ _ _ _ _ _ _ _ _ _ _ _ _ _ _ _ _ _ _ _ _ _ _ _ _ _ _ _ _ _ _ _ _ _ _ _ _ _ _ _ _ _ _ _ _ _ _ _ _ _ _ _ _ _ _ _ _ _ _ _ _ _ _ _ _ _ _ _ _ _ _ _ _ _ _ _ _ _ _ _ _ _ _ _ _ _ _ _ _ _ _ _ _ _ _ _ _ _ _ _ ?_
      intro u6 u19 u177 u178 u179 u180 u181 u182 u183 u184 u185 u186
      go_wp2_with fail
      go_ret
      exact ⟨rfl, Sat.sel [_, _, _, _] 4 [] H8.out rfl (by decide)⟩
    · go_enter Try.func4, Try.ntmps4
      go_wp2_with (first
        | (go_at_call 6; refine ha.mono ?_; rintro e w1 ⟨rfl, h1⟩; have hb := begun_ok h1 fr re; clear ha)
        | (go_at_call 7; refine hb.mono ?_; rintro e w2 (⟨hno, rfl, h2⟩ | ⟨B, M, _, _, hr1, _, rfl, hn, _, he, I, h2⟩)))
      go_ret
      exact ⟨rfl, h2⟩
  · have h60' : ¬ l.length ≤ 60 := h60
    go_enter Try.func4, Try.ntmps4
    go_wp2_with (first
      | (go_at_call 6; refine ha.mono ?_; rintro e w1 ⟨rfl, h1⟩; have hb := begun_ok h1 fr re; clear ha)
      | (go_at_call 7; refine hb.mono ?_; rintro e w2 (⟨hno, rfl, h2⟩ | ⟨B, M, _, _, _, _, rfl, hn, _, he, I, h2⟩)))
    · go_ret
      exact ⟨rfl, h2⟩
    · go_ret
      exact ⟨rfl, h2.drop.drop⟩
end
end Go.Proofs.Ytglelfceogpbpaa
