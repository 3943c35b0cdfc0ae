/- The reference's New. -/
import Derived.Test.YtglelfceogpbpaaRBuddy
namespace Go.Proofs.Ytglelfceogpbpaa
open Go.RowKit

/-- those from r on, as far as k of them -/
def upf (n r k : Nat) : List Bool := (List.range n).map fun i => decide (r ≤ i) && decide (i < r + k)
theorem upf_len (n r k : Nat) : (upf n r k).length = n := by simp [upf]
theorem upf_get (n r k i : Nat) (h : i < n) : (upf n r k)[i]? = some (decide (r ≤ i) && decide (i < r + k)) := by simp [upf, h]
theorem upf_zero (n r : Nat) : upf n r 0 = List.replicate n false := by
  apply List.ext_getElem?
  intro i
  by_cases h : i < n
  · rw [upf_get _ _ _ _ h, List.getElem?_replicate, if_pos h]
    congr 1
    rw [Bool.eq_false_iff]
    simp only [ne_eq, Bool.and_eq_true, decide_eq_true_eq]
    omega
  · rw [List.getElem?_eq_none (by rw [upf_len]; omega), List.getElem?_eq_none (by simp; omega)]
theorem upf_set (n r k : Nat) : (upf n r k).set (r + k) true = upf n r (k + 1) := by
  apply List.ext_getElem?
  intro i
  rw [List.getElem?_set, upf_len]
  by_cases h : i < n
  · rw [upf_get _ _ _ _ h, upf_get _ _ _ _ h]
    by_cases e : r + k = i
    · rw [if_pos e, if_pos (by omega)]
      simp; omega
    · rw [if_neg e]
      congr 1
      rw [Bool.eq_iff_iff]
      simp; omega
  · rw [List.getElem?_eq_none (show (upf n r (k + 1)).length ≤ i by rw [upf_len]; omega)]
    split
    · rw [if_neg (by omega)]
    · rw [List.getElem?_eq_none (by rw [upf_len]; omega)]

section
variable {z w : World} {F : List Chunk} {M : RMem}

theorem RB.set_f {B : RB} (hs : Sat z w (B.hp :: F)) (i : Nat) (v : Bool) : Sat z (w.setCell ⟨B.fb, i, none⟩ (.bool v)) (RB.hp { B with f := B.f.set i v } :: F) := by
  have h1 : Sat z w (B.fr :: B.main :: B.g.hp 57 :: F) := (RB.opens hs).swap
  have h2 := Sat.setCell (b := B.fb) (c := (B.f.map Value.bool).toArray) (e := 4) (fr := (0, 0)) (ch := []) h1 (i := i) (.bool v)
  have e : ((B.f.map Value.bool).toArray.setIfInBounds i (.bool v)) = ((B.f.set i v).map Value.bool).toArray := by
    apply Array.toList_inj.1
    simp [List.map_set]
  rw [e] at h2
  have e2 : RB.main { B with f := B.f.set i v } = B.main := by simp [RB.main]
  refine RB.shuts (B := { B with f := B.f.set i v }) ?_
  rw [e2]
  exact h2.swap

theorem rnew_bad (hs : Sat z w (M.hp :: F)) (hM : M.ok) (r : Int) (h : ¬ (0 ≤ r ∧ r ≤ M.n)) :
    Calls Try.prog 19 #[.pointer (some ⟨M.p, 0, none⟩), vi r] w fun e w' => e = .returned (.tuple #[.pointer none, vi 1]) ∧ Sat z w' (M.hp :: F) := by
  have c0 := RMem.c0 hs
  have hn := hM.n1
  by_cases h0 : r < 0
  · go_enter Try.func19, Try.ntmps19
    go_wp2
    go_ret2
    exact ⟨rfl, hs⟩
  · have h1 : ((16 * M.n : Nat) : Int) / 16 < r := by omega
    go_enter Try.func19, Try.ntmps19
    go_wp2
    go_ret2
    exact ⟨rfl, hs⟩

set_option maxRecDepth 100000 in
theorem rnew_ok (hs : Sat z w (M.hp :: F)) (hM : M.ok) (r : Nat) (hr : r ≤ M.n) :
    Calls Try.prog 19 #[.pointer (some ⟨M.p, 0, none⟩), vi r] w fun e w' => ∃ B : RB, e = .returned (.tuple #[.pointer (some ⟨B.p, 0, none⟩), vi 0]) ∧ B.ok ∧ B.mp = M.p ∧ B.f = upf M.n r (M.n - r) ∧ B.gv = [] ∧ Sat z w' (B.hp :: M.hp :: F) := by
  have c0 := RMem.c0 hs
  have hn := hM.n1
  have hn0 := hM.n0
  have h1 : ¬ ((16 * M.n : Nat) : Int) / 16 < (r : Int) := by omega
  have hmk := fun W => run_make_rep (P := Try.prog) 53 4 (.bool false) 1 1 Try.underlying53 (by kernel_rfl) (by omega) M.n (by omega) (by omega) W
  simp only [Nat.mul_one] at hmk
  have hd : ((16 * M.n : Nat) : Int) / 16 = (M.n : Int) := by omega
  obtain ⟨B0, hB0⟩ : ∃ B0 : RB, B0 = ⟨w.heap.size + 1, M.p, w.heap.size, upf M.n r 0, CRow.empty, []⟩ := ⟨_, rfl⟩
  have fin := ((hs.allocd (.cells (List.replicate M.n (.bool false)).toArray 4)).allocd (.cells #[.pointer (some ⟨M.p, 0, none⟩), .slice (some ⟨w.heap.size, 0, none⟩) M.n M.n, .slice none 0 0] 56))
  have fin2 := fin.perm (ds := B0.hp :: M.hp :: F) (by
    rw [hB0]
    simp [RB.hp, RB.main, RB.fr, CRow.empty, CRow.hp, CRow.val, upf_zero])
  have HF := Lib.hid fin2
  have HB := Lib.hid hB0
  clear fin fin2 hB0
  go_enter Try.func19, Try.ntmps19
  go_wp2
  have h0 := HF.out
  rw [HB.out] at h0
  simp only [List.toArray_replicate] at h0
  have H0 := Lib.hid h0
  clear HF HB h0 hmk c0 hs hd h1
  generalize (w.alloc (.cells (Array.replicate M.n (.bool false)) 4)).alloc (.cells #[.pointer (some ⟨M.p, 0, none⟩), .slice (some ⟨w.heap.size, 0, none⟩) M.n M.n, .slice none 0 0] 56) = w1 at *
  generalize w.heap.size = s0 at *
  go_loopg [7] (M.n - r) (fun g i wr => ∃ k : Nat, i = vi ((r + k : Nat) : Int) ∧ g + k = M.n - r ∧ Hid (Sat z wr (RB.hp ⟨s0 + 1, M.p, s0, upf M.n r k, CRow.empty, []⟩ :: M.hp :: F)))
  case atStart => exact ⟨0, by simp, by omega, H0⟩
  case round =>
    clear H0
    obtain ⟨k, rfl, hgk, H1⟩ := hrel
    have c1 := RB.c1 H1.out
    simp only [upf_len] at c1
    cases gk with
    | zero =>
      have hlt : ¬ r + k < M.n := by omega
      have hk : k = M.n - r := by omega
      have Hk := Lib.hid hk
      clear hgk hk
      go_wp2
      go_ret2
      exact ⟨⟨s0 + 1, M.p, s0, upf M.n r k, CRow.empty, []⟩, rfl, ⟨by simp [upf_len]; omega, by simp [upf_len]; omega, CRow.empty_ok 2, rfl, rfl, by simp⟩, rfl, by rw [← Hk.out], rfl, H1.out⟩
    | succ g =>
      have hlt : r + k < M.n := by omega
      have Hgk := Lib.hid hgk
      have cf := RB.c_f H1.out (r + k)
      rw [upf_get _ _ _ _ hlt] at cf
      simp only [Option.map_some] at cf
      have fz : wr.frozen? ⟨s0, r + k, none⟩ = false := Sat.frozen (c := ((upf M.n r k).map Value.bool).toArray) (e := 4) (RB.opens H1.out) (by simp [RB.fr])
      have fin := RB.set_f H1.out (r + k) true
      simp only [upf_set] at fin
      have Hf := Lib.hid fin
      clear fin hgk
      generalize Value.bool (decide (r ≤ r + k) && decide (r + k < r + k)) = old at *
      go_wp2
      go_roundg g
      case measure => omega
      case rel => exact ⟨k + 1, by simp; omega, by have := Hgk.out; omega, Hf⟩
end
end Go.Proofs.Ytglelfceogpbpaa
