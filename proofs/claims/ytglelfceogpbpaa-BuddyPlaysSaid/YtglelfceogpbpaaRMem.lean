/- The reference's memory: a row of words. -/
import Derived.Test.YtglelfceogpbpaaMem
namespace Go.Proofs.Ytglelfceogpbpaa
open Go.RowKit

/-- the struct's block, the array's block, the words -/
structure RMem where
  p : Nat
  wb : Nat
  n : Nat
  W : List Int

namespace RMem
def hp (M : RMem) : Chunk := [(M.p, .cells #[.slice (some ⟨M.wb, 0, none⟩) (16 * M.n) (16 * M.n)] 80 (0, 0)), (M.wb, .cells (M.W.map vu).toArray 30 (0, 0))]
structure ok (M : RMem) : Prop where
  n0 : 1 ≤ M.n
  n1 : M.n ≤ 256
  len : M.W.length = 16 * M.n
def put (M : RMem) (a : Int) (v : Int) : RMem := if 0 ≤ a ∧ a < 16 * M.n then { M with W := M.W.set a.toNat v } else M
end RMem

section
variable {z w : World} {F : List Chunk} {M : RMem}

theorem RMem.c0 (hs : Sat z w (M.hp :: F)) : w.cell? ⟨M.p, 0, none⟩ = some (.slice (some ⟨M.wb, 0, none⟩) (16 * M.n) (16 * M.n)) := by
  rw [hs.cell (b := M.p) (i := 0) (c := #[.slice (some ⟨M.wb, 0, none⟩) (16 * M.n) (16 * M.n)]) (e := 80) (fr := (0, 0)) (by simp [RMem.hp])]
  rfl
theorem RMem.cw (hs : Sat z w (M.hp :: F)) (i : Nat) : w.cell? ⟨M.wb, i, none⟩ = (M.W[i]?).map vu := by
  rw [hs.cell (b := M.wb) (i := i) (c := (M.W.map vu).toArray) (e := 30) (fr := (0, 0)) (by simp [RMem.hp])]
  simp
theorem RMem.fz (hs : Sat z w (M.hp :: F)) (i : Nat) : w.frozen? ⟨M.wb, i, none⟩ = false := hs.frozen (c := (M.W.map vu).toArray) (e := 30) (by simp [RMem.hp])
theorem RMem.set_cells (hs : Sat z w (M.hp :: F)) (i : Nat) (v : Int) : Sat z (w.setCell ⟨M.wb, i, none⟩ (vu v)) (RMem.hp { M with W := M.W.set i v } :: F) := by
  have h1 : Sat z w ([(M.wb, .cells (M.W.map vu).toArray 30 (0, 0)), (M.p, .cells #[.slice (some ⟨M.wb, 0, none⟩) (16 * M.n) (16 * M.n)] 80 (0, 0))] :: F) :=
    hs.perm (by simpa [RMem.hp] using List.Perm.swap _ _ _)
  have h2 := h1.setCell (i := i) (vu v)
  refine h2.perm ?_
  have e : ((M.W.map vu).toArray.setIfInBounds i (vu v)) = ((M.W.set i v).map vu).toArray := by
    apply Array.toList_inj.1
    simp [List.map_set]
  rw [e]
  simpa [RMem.hp] using List.Perm.swap _ _ _
theorem RMem.set_ok (hok : M.ok) (i : Nat) (v : Int) : RMem.ok { M with W := M.W.set i v } := ⟨hok.n0, hok.n1, by simpa using hok.len⟩

theorem rmem_new_bad (n : Int) (hs : Sat z w F) (h : ¬ (1 ≤ n ∧ n ≤ 256)) :
    Calls Try.prog 17 #[.int .i64 n] w fun e w' => e = .returned (.tuple #[.pointer none, .int .i64 1]) ∧ Sat z w' F := by
  by_cases h1 : n < 1
  · go_enter Try.func17, Try.ntmps17
    go_wp2
    go_ret2
    exact ⟨rfl, hs⟩
  · have h2 : 256 < n := by omega
    go_enter Try.func17, Try.ntmps17
    go_wp2
    go_ret2
    exact ⟨rfl, hs⟩

theorem rmem_new (n : Int) (hs : Sat z w F) (h1 : 1 ≤ n) (h2 : n ≤ 256) :
    Calls Try.prog 17 #[.int .i64 n] w fun e w' => ∃ M : RMem, e = .returned (.tuple #[.pointer (some ⟨M.p, 0, none⟩), .int .i64 0]) ∧ M.ok ∧ M.n = n.toNat ∧ M.W = List.replicate (16 * n.toNat) 0 ∧ Sat z w' (M.hp :: F) := by
  obtain ⟨k, rfl⟩ := Int.eq_ofNat_of_zero_le (show 0 ≤ n by omega)
  have h3 : ¬ (k : Int) < 1 := by omega
  have h4 : ¬ 256 < (k : Int) := by omega
  have hmk : ∀ W, (Instr.makeSlice 78 (.int .i64 (16 * (k : Int))) (.int .i64 (16 * (k : Int)))).run Try.prog W = .ok (.slice (some ⟨W.heap.size, 0, none⟩) (16 * k) (16 * k)) (W.alloc (.cells (List.replicate (16 * k) (vu 0)).toArray 30)) := fun W => by
    have := run_make_rep (P := Try.prog) 78 30 (vu 0) 1 8 Try.underlying78 (by kernel_rfl) (by omega) (16 * k) (by omega) (by omega) W
    have e : ((16 * k : Nat) : Int) = 16 * (k : Int) := by omega
    rw [e, Nat.mul_one] at this
    exact this
  have fin := ((hs.allocd (.cells (List.replicate (16 * k) (vu 0)).toArray 30)).allocd (.cells #[.slice (some ⟨w.heap.size, 0, none⟩) (16 * k) (16 * k)] 80)).join
  go_enter Try.func17, Try.ntmps17
  go_wp2
  go_ret2
  refine ⟨⟨w.heap.size + 1, w.heap.size, k, List.replicate (16 * k) 0⟩, rfl, ⟨by simp; omega, by simp; omega, by simp⟩, by simp, by simp, ?_⟩
  simpa [RMem.hp] using fin

/-- what Read tells -/
def RMem.read (M : RMem) (a : Int) : Int × Int := if 0 ≤ a ∧ a < 16 * M.n then (M.W.getD a.toNat 0, 0) else (0, 1)
def RMem.inside (M : RMem) (a : Int) : Bool := decide (0 ≤ a) && decide (a < 16 * M.n)

theorem rmem_read (hs : Sat z w (M.hp :: F)) (hok : M.ok) (a : Int) :
    Calls Try.prog 27 #[.pointer (some ⟨M.p, 0, none⟩), .int .i64 a] w fun e w' => e = .returned (.tuple #[vu (M.read a).1, .int .i64 (M.read a).2]) ∧ w = w' := by
  have c0 := RMem.c0 hs
  have hn := hok.n1
  by_cases h : 0 ≤ a ∧ a < 16 * M.n
  · obtain ⟨k, rfl⟩ := Int.eq_ofNat_of_zero_le h.1
    have cw := RMem.cw hs k
    have hl := hok.len
    have hk : k < 16 * M.n := by omega
    rw [List.getElem?_eq_getElem (by omega)] at cw
    simp only [Option.map_some] at cw
    have e1 : M.read k = (M.W[k]'(by omega), 0) := by
      unfold RMem.read
      rw [if_pos h, List.getD_eq_getElem?_getD, Int.toNat_natCast, List.getElem?_eq_getElem (by omega)]
      rfl
    rw [e1]
    generalize M.W[k]'(by omega) = v at *
    have hk2 : ¬ ((16 * M.n : Nat) : Int) ≤ (k : Int) := by omega
    clear e1 hl
    go_enter Try.func27, Try.ntmps27
    go_wp2
    go_ret2
    exact ⟨rfl, rfl⟩
  · have e1 : M.read a = (0, 1) := by unfold RMem.read; rw [if_neg h]
    rw [e1]
    clear e1
    by_cases hn : a < 0
    · go_enter Try.func27, Try.ntmps27
      go_wp2
      go_ret2
      exact ⟨rfl, rfl⟩
    · have hlt : ((16 * M.n : Nat) : Int) ≤ a := by omega
      go_enter Try.func27, Try.ntmps27
      go_wp2
      go_ret2
      exact ⟨rfl, rfl⟩

theorem rmem_write (hs : Sat z w (M.hp :: F)) (hok : M.ok) (a v : Int) :
    Calls Try.prog 22 #[.pointer (some ⟨M.p, 0, none⟩), .int .i64 a, vu v] w fun e w' => e = .returned (.int .i64 (if M.inside a then 0 else 1)) ∧ Sat z w' ((M.put a v).hp :: F) := by
  have c0 := RMem.c0 hs
  have hn := hok.n1
  by_cases h : 0 ≤ a ∧ a < 16 * M.n
  · obtain ⟨k, rfl⟩ := Int.eq_ofNat_of_zero_le h.1
    have e1 : M.inside k = true := by simp [RMem.inside, h.1, h.2]
    have e2 : M.put k v = { M with W := M.W.set k v } := by unfold RMem.put; rw [if_pos h]; simp
    rw [e1, e2]
    have cw := RMem.cw hs k
    have hl := hok.len
    have hk : k < 16 * M.n := by omega
    rw [List.getElem?_eq_getElem (by omega)] at cw
    simp only [Option.map_some] at cw
    have fz := RMem.fz hs k
    have fin := RMem.set_cells hs k v
    have hk2 : ¬ ((16 * M.n : Nat) : Int) ≤ (k : Int) := by omega
    generalize M.W[k]'(by omega) = old at cw
    clear e1 e2 hl
    go_enter Try.func22, Try.ntmps22
    go_wp2
    go_ret
    exact ⟨rfl, fin⟩
  · have e1 : M.inside a = false := by rw [Bool.eq_false_iff]; simp [RMem.inside]; omega
    have e2 : M.put a v = M := by unfold RMem.put; rw [if_neg h]
    rw [e1, e2]
    clear e1 e2
    by_cases hn : a < 0
    · go_enter Try.func22, Try.ntmps22
      go_wp2
      go_ret
      exact ⟨rfl, hs⟩
    · have hlt : ((16 * M.n : Nat) : Int) ≤ a := by omega
      go_enter Try.func22, Try.ntmps22
      go_wp2
      go_ret
      exact ⟨rfl, hs⟩

theorem rmem_has (hs : Sat z w (M.hp :: F)) (hok : M.ok) (f : Int) (h0 : 0 ≤ f) (h : f < M.n) :
    Calls Try.prog 47 #[.pointer (some ⟨M.p, 0, none⟩), .int .i64 f] w fun e w' => e = .returned (.bool true) ∧ w = w' := by
  have c0 := RMem.c0 hs
  have hn := hok.n1
  have hlt : f < ((16 * M.n : Nat) : Int) / 16 := by omega
  go_enter Try.func47, Try.ntmps47
  go_wp2
  go_ret
  exact ⟨rfl, rfl⟩

set_option maxRecDepth 100000 in
theorem rmem_scrub (hs : Sat z w (M.hp :: F)) (hok : M.ok) (f k : Nat) (hk : 1 ≤ k) (h : f + k ≤ M.n) :
    Calls Try.prog 39 #[.pointer (some ⟨M.p, 0, none⟩), vi f, vi k] w fun e w' => e = .returned (.int .i64 0) ∧ Sat z w' (RMem.hp { M with W := wipe M.W (16 * f) (16 * k) } :: F) := by
  have hn := hok.n1
  have k1 : ¬ (k : Int) < 1 := by omega
  have k2 : ¬ 256 < (k : Int) := by omega
  have hl := Lib.hid hok.len
  have hw : wrap64 ((f : Int) + (k : Int)) = (f : Int) + k := by unfold wrap64; omega
  go_enter Try.func39, Try.ntmps39
  go_wp2_with (go_at_call 47; refine (rmem_has hs hok _ (by omega) (by omega)).mono ?_; rintro e w' ⟨rfl, rfl⟩)
  go_loopg [7] (16 * k) (fun g i wr => ∃ m : Nat, i = vi ((16 * f + m : Nat) : Int) ∧ g + m = 16 * k ∧ Hid (Sat z wr (RMem.hp { M with W := wipe M.W (16 * f) m } :: F)))
  case atStart => exact ⟨0, by simp, by omega, by rw [wipe_zero]; exact Lib.hid hs⟩
  case round =>
    obtain ⟨m, rfl, hgm, Hs⟩ := hrel
    clear hs
    have hok' : RMem.ok { M with W := wipe M.W (16 * f) m } := ⟨hok.n0, hok.n1, by
      show (wipe M.W (16 * f) m).length = _
      rw [wipe_len _ _ _ (by rw [hl.out]; omega), hl.out]⟩
    cases gk with
    | zero =>
      have hm : ¬ ((16 * f + m : Nat) : Int) < 16 * ((f : Int) + (k : Int)) := by omega
      have hmk : m = 16 * k := by omega
      have Hm := Lib.hid hmk
      clear hmk hgm
      go_wp2
      go_ret
      exact ⟨rfl, by rw [← Hm.out]; exact Hs.out⟩
    | succ g =>
      have hm : ((16 * f + m : Nat) : Int) < 16 * ((f : Int) + (k : Int)) := by omega
      have c0 := RMem.c0 Hs.out
      have hi : 16 * f + m < (wipe M.W (16 * f) m).length := by rw [wipe_len _ _ _ (by rw [hl.out]; omega), hl.out]; omega
      have cw := RMem.cw Hs.out (16 * f + m)
      rw [List.getElem?_eq_getElem hi] at cw
      have fz := RMem.fz Hs.out (16 * f + m)
      have fin := RMem.set_cells Hs.out (16 * f + m) 0
      have he : (wipe M.W (16 * f) m).set (16 * f + m) 0 = wipe M.W (16 * f) (m + 1) := by
        apply List.ext_getElem?
        intro i
        rw [List.getElem?_set, wipe_get _ _ _ _ (by rw [hl.out]; omega), wipe_get _ _ _ _ (by rw [hl.out]; omega), wipe_len _ _ _ (by rw [hl.out]; omega), hl.out]
        by_cases e : 16 * f + m = i
        · rw [if_pos e, if_pos (by omega), if_pos (by omega)]
        · rw [if_neg e]
          by_cases e2 : 16 * f ≤ i ∧ i < 16 * f + m
          · rw [if_pos e2, if_pos (by omega)]
          · rw [if_neg e2, if_neg (by omega)]
      simp only [he] at fin
      simp only [Option.map_some] at cw
      have Hf := Lib.hid fin
      have Hg := Lib.hid hgm
      generalize (wipe M.W (16 * f) m)[16 * f + m] = old at *
      have hlt : ¬ 16 * M.n ≤ 16 * f + m := by omega
      clear fin he hgm
      go_wp2
      go_roundg g
      case measure => omega
      case rel => exact ⟨m + 1, by simp; omega, by have := Hg.out; omega, Hf⟩
end
end Go.Proofs.Ytglelfceogpbpaa
