/- law 04's BuddyPlays. -/
import Derived.Test.YtglelfceogpbpaaPlaysC
import Derived.Test.YtglelfceogpbpaaBegun
namespace Go.Proofs.Ytglelfceogpbpaa
open Go.RowKit

section
variable {z : World}
theorem both_start {B : Bd} {M : Mem} {R : RB} {N : RMem} {r : Nat} (I : Inv B M (fun i => r ≤ i ∧ i < M.n)) (he : B.ents = []) (hR : R.ok) (hN : N.ok) (hmp : R.mp = N.p) (hn : N.n = M.n) (hW : N.W = M.W) (hf : R.f = upf N.n r (N.n - r)) (hr : r ≤ M.n) (hg : R.gv = []) :
    Both B M (fun i => r ≤ i ∧ i < M.n) R N := by
  refine ⟨I, hR, hN, hmp, hn, by rw [hf, upf_len]; exact hn, hW, fun i => ?_, by rw [hg, he]; rfl⟩
  rw [hf, hn]
  by_cases h : i < M.n
  · rw [upf_get _ _ _ _ h]
    simp
    omega
  · rw [List.getElem?_eq_none (by rw [upf_len]; omega)]
    simp
    omega

set_option maxRecDepth 100000 in
set_option maxHeartbeats 4000000 in
theorem plays_ok (fr re : Int) (v : Value) (l : List OpR) (hv : OpsAt z v l) :
    Calls Try.prog 5 #[vi fr, vi re, v] z fun e w' => e = .returned (.bool true) ∧ Sat z w' [whole z] := by
  have ha := awake_ok (Sat.start z)
  obtain ⟨A, C, hvs⟩ : ∃ A C, v = .slice A l.length C := by
    rcases hv with ⟨rfl, rfl⟩ | ⟨a, c, rfl, _⟩
    · exact ⟨none, 0, rfl⟩
    · exact ⟨some a, c, rfl⟩
  subst hvs
  by_cases hfr : 1 ≤ fr ∧ fr ≤ 256
  · by_cases hre : 0 ≤ re ∧ re ≤ fr
    · obtain ⟨r, rfl⟩ := Int.eq_ofNat_of_zero_le hre.1
      go_enter Try.func5, Try.ntmps5
      go_wp2_with (first
        | (go_at_call 6; refine ha.mono ?_; rintro e w1 ⟨rfl, h1⟩; have hm := mem_new fr h1 hfr.1 hfr.2; clear ha)
        | (go_at_call 16; refine hm.mono ?_; rintro e w2 ⟨M, rfl, hM, hMn, hMW, h2⟩; have hn := rmem_new fr h2 hfr.1 hfr.2; clear hm)
        | (go_at_call 17
           refine hn.mono ?_
           rintro e w3 ⟨N, rfl, hN, hNn, hNW, h3⟩
           have hrn : r ≤ M.n := by omega
           have hnb := new_inv h3.swap hM r
           have HM := Lib.hid (And.intro hMn (And.intro hMW (And.intro hNn hNW)))
           have Hnb := Lib.hid hnb
           clear hn hMn hMW hNn hNW hnb h1 h2)
        | (go_at_call 18
           refine Hnb.out.mono ?_
           rintro e w4 (⟨hno, rfl, h4⟩ | ⟨B, _, _, rfl, he, I, h4⟩)
           · exact absurd ⟨by omega, by omega⟩ hno
           have hnn : r ≤ N.n := by have := HM.out; omega
           have hrb := rnew_ok (M := N) (Sat.sel [_, _, _] 3 [2, 0, 1] h4 rfl (by decide)) hN r hnn
           have Hrb := Lib.hid hrb
           have He := Lib.hid he
           clear Hnb h4 hrb he)
        | (go_at_call 19
           refine Hrb.out.mono ?_
           rintro e w5 ⟨R, rfl, hR, hRm, hRf, hRg, h5⟩
           have b : Both B M (fun i => r ≤ i ∧ i < M.n) R N := both_start (by simpa using I) He.out hR hN hRm (by rw [HM.out.1, HM.out.2.2.1]) (by rw [HM.out.2.1, HM.out.2.2.2]) hRf hrn hRg
           have Hb := Lib.hid b
           have H5 := Lib.hid (Sat.sel [_, _, _, _] 4 [2, 3, 0, 1] h5 rfl (by decide))
           clear Hrb h5 hRm hRf hRg b I))
      refine plays_loop Hb.out (by rw [He.out]; simp) hv rfl rfl rfl rfl _ _ H5.out _ _ _ _ _ _ _ _ _ _ _ _ _ _ _ _ _ _ _ _ _ _ _ _ _ _ _ _ _ _ _ _ _ _ _ _ _ _ _ _ _ _ _ _ _ _ _ _ _ _ _ _ _ _ _ _ _ _ _ _ _ _ _ _ _ _ _ _ _ _ _ _ _ _ _ _ _ _ _ _ _ _ _ _ _ _ _ _ _ _ _ _ _ _ _ _ _ _ _ _ _ _ _ _ _ _ _ _ _ _ _ _ _ _ _ _ _ _ _ _ _ _ _ _ _ _ _ _ _ _ _ _ _ _ _ _ _ _ _ _ _ _ _ _ _ _ _ _ _ _ _ _ _ _ _ _ _ _ _ _ _ _ _ _ _ _ _ _ _ _ _ _ _ _ _ _ _ _ _ _ _ _ _ _ _ _ _ _ _ _ _ _ _ _ _ _ _ _ _ _ _ _ _ _ _ _ _ _ _ _ _ _ _ _ _ _ _ _ _ _ _ _ _ _ _ _ _ _ _ _ _ _ _ _ _ _ _ _ ?_
      intro u6 u16 u17 u18 u19 u20 u21 u22 u23 u24 u25 u26 u27 u28 u29 u84 u85 u86 u87 u88 u89 u90 u91 u92 u93 u94 u95 u96 u97 u98 u99 u100 u101 u102 u103 u104 u105 u106 u107 u108 u109 u110 u111 u112 u113 u114 u115 u116 u117 u118 u119 u120 u121 u122 u123 u124 u125 u126 u127 u128 u129 u130 u131 u132 u133 u134 u135 u136 u137 u138 u139 u140 u141 u142 u143 u144 u145 u146 u147 u148 u149 u150 u151 u152 u153 u154 u155 u156 u157 u158 u159 u160 u161 u162 u163 u164 u165 u166 u167 u168 u169 u170 u171 u172 u173 u174 u175 u176 u177 u178 u179 u180 u181 u182 u183 u184 u185 u186 u187 u188 u189 u190 u191 u192 u193 u194 u195 u196 u197 u198 u199 u200 u201 u202 u203 u204 u205 u206 u207 u208 u209 u210 u211 u212 u213 u214 u215 u216 u217 u218 u219 u220 u221 u222 u223 u224 u225 u226 u227 u228 u229 u230 u231 u232 u233 u234 u235 u236 u237 u238 u239 u240 u241 u242 w6 h6
      have H6 := Lib.hid h6
      clear h6
      go_wp2_with fail
      go_ret
      exact ⟨rfl, H6.out⟩
    · go_enter Try.func5, Try.ntmps5
      go_wp2_with (first
        | (go_at_call 6; refine ha.mono ?_; rintro e w1 ⟨rfl, h1⟩; have hm := mem_new fr h1 hfr.1 hfr.2; clear ha)
        | (go_at_call 16; refine hm.mono ?_; rintro e w2 ⟨M, rfl, hM, hMn, hMW, h2⟩; have hn := rmem_new fr h2 hfr.1 hfr.2; clear hm)
        | (go_at_call 17
           refine hn.mono ?_
           rintro e w3 ⟨N, rfl, hN, hNn, hNW, h3⟩
           have hnb := new_inv h3.swap hM re
           have hno1 : ¬ (0 ≤ re ∧ re ≤ M.n) := fun h => hre ⟨h.1, by omega⟩
           have hno2 : ¬ (0 ≤ re ∧ re ≤ N.n) := fun h => hre ⟨h.1, by omega⟩
           have Hno := Lib.hid (And.intro hno1 hno2)
           have Hnb := Lib.hid hnb
           clear hn hMn hMW hNn hNW hnb h1 h2 hno1 hno2)
        | (go_at_call 18
           refine Hnb.out.mono ?_
           rintro e w4 (⟨_, rfl, h4⟩ | ⟨B, g1, g2, rfl, he, I, h4⟩)
           rotate_left
           · exact absurd ⟨g1, g2⟩ Hno.out.1
           have hrb := rnew_bad (M := N) (Sat.sel [_, _] 2 [1, 0] h4 rfl (by decide)) hN re Hno.out.2
           have Hrb := Lib.hid hrb
           clear Hnb h4 hrb)
        | (go_at_call 19
           refine Hrb.out.mono ?_
           rintro e w5 ⟨rfl, h5⟩
           have H5 := Lib.hid (Sat.sel [_, _] 2 [] h5 rfl (by decide))
           clear Hrb h5))
      clear hfr hre
      go_loopg [16] 0 (fun g i wr => i = vi 0 ∧ Hid (Sat z wr [whole z]))
      case atStart => exact ⟨rfl, H5⟩
      case round =>
        clear H5
        obtain ⟨rfl, H6⟩ := hrel
        by_cases hl : 0 < l.length
        · go_wp2_with fail
          go_ret
          exact ⟨rfl, H6.out⟩
        · have hl0 : ¬ 0 < l.length := hl
          go_wp2_with fail
          go_ret
          exact ⟨rfl, H6.out⟩
  · go_enter Try.func5, Try.ntmps5
    go_wp2_with (first
      | (go_at_call 6; refine ha.mono ?_; rintro e w1 ⟨rfl, h1⟩; have hm := mem_new_bad fr h1 hfr; clear ha)
      | (go_at_call 16; refine hm.mono ?_; rintro e w2 ⟨rfl, h2⟩; have hn := rmem_new_bad fr h2 hfr; clear hm)
      | (go_at_call 17; refine hn.mono ?_; rintro e w3 ⟨rfl, h3⟩))
    go_ret
    exact ⟨rfl, h3⟩
end
end Go.Proofs.Ytglelfceogpbpaa
