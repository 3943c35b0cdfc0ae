/- What the program's memory does, as lists of words. -/
import Derived.Test.YtglelfceogpbpaaChecked
import Derived.Test.YtglelfceogpbpaaSat
import Derived.Test.YtglelfceogpbpaaPlan
import Derived.Test.YtglelfceogpbpaaOps
import Derived.Test.YtglelfceogpbpaaRow
import Derived.WalkLawsBesides
import Derived.WalkSpells
import Derived.Lib.Hide
import Derived.BigQuiet
namespace Go.Proofs.Ytglelfceogpbpaa
open Go.RowKit

/-- the program's memory: the struct's block, the array's block, the frames, the words -/
structure Mem where
  p : Nat
  fb : Nat
  n : Nat
  W : List Int

abbrev vu (n : Int) : Value := .int .u64 n

namespace Mem
def hp (M : Mem) : Chunk := [(M.p, .cells #[.slice (some ⟨M.fb, 0, none⟩) M.n M.n] 75 (0, 0)), (M.fb, .cells (M.W.map vu).toArray 77 (0, 0))]
structure ok (M : Mem) : Prop where
  n0 : 1 ≤ M.n
  n1 : M.n ≤ 256
  len : M.W.length = 16 * M.n
def has (M : Mem) (f k : Int) : Bool := decide (1 ≤ k) && decide (k ≤ M.n) && decide (0 ≤ f) && decide (f ≤ M.n - k)
end Mem

theorem ret_bool {a b : Bool} (h : a = b) : Ending.returned (.bool a) = Ending.returned (.bool b) := by rw [h]

section
variable {z w : World} {F : List Chunk} {M : Mem}

theorem Mem.c0 (hs : Sat z w (M.hp :: F)) : w.cell? ⟨M.p, 0, none⟩ = some (.slice (some ⟨M.fb, 0, none⟩) M.n M.n) := by
  rw [hs.cell (b := M.p) (i := 0) (c := #[.slice (some ⟨M.fb, 0, none⟩) M.n M.n]) (e := 75) (fr := (0, 0)) (by simp [Mem.hp])]
  rfl
theorem Mem.cw (hs : Sat z w (M.hp :: F)) (i : Nat) : w.cell? ⟨M.fb, i, none⟩ = (M.W[i]?).map vu := by
  rw [hs.cell (b := M.fb) (i := i) (c := (M.W.map vu).toArray) (e := 77) (fr := (0, 0)) (by simp [Mem.hp])]
  simp
theorem Mem.fz (hs : Sat z w (M.hp :: F)) (i : Nat) : w.frozen? ⟨M.fb, i, none⟩ = false := hs.frozen (c := (M.W.map vu).toArray) (e := 77) (by simp [Mem.hp])

theorem mem_frames (hs : Sat z w (M.hp :: F)) :
    Calls Try.prog 14 #[.pointer (some ⟨M.p, 0, none⟩)] w fun e w' => e = .returned (.int .i64 M.n) ∧ w = w' := by
  have c0 := Mem.c0 hs
  go_enter Try.func14, Try.ntmps14
  go_wp2
  go_ret
  exact ⟨rfl, rfl⟩

theorem mem_has (hs : Sat z w (M.hp :: F)) (hok : M.ok) (f k : Int) (h : k ≤ 1000000) :
    Calls Try.prog 37 #[.pointer (some ⟨M.p, 0, none⟩), .int .i64 f, .int .i64 k] w fun e w' => e = .returned (.bool (M.has f k)) ∧ w = w' := by
  have c0 := Mem.c0 hs
  have h0 := hok.n0
  have h1 := hok.n1
  go_enter Try.func37, Try.ntmps37
  go_wp2
  all_goals (go_ret; exact ⟨ret_bool (by rw [Bool.eq_iff_iff]; simp [Mem.has]; omega), rfl⟩)

theorem mem_at_in (hs : Sat z w (M.hp :: F)) (hok : M.ok) (a : Int) (h0 : 0 ≤ a) (h1 : a < 16 * M.n) :
    Calls Try.prog 36 #[.pointer (some ⟨M.p, 0, none⟩), .int .i64 a] w fun e w' => e = .returned (.pointer (some ⟨M.fb, a.toNat, none⟩)) ∧ w = w' := by
  have c0 := Mem.c0 hs
  have h2 := hok.n0
  have h3 := hok.n1
  have hlt : ¬ (M.n : Int) * 16 ≤ a := by omega
  go_enter Try.func36, Try.ntmps36
  go_wp2
  go_ret
  refine ⟨?_, rfl⟩
  have e : (a / 16).toNat * 16 + (a % 16).toNat = a.toNat := by omega
  simp [e]

theorem mem_at_out (hs : Sat z w (M.hp :: F)) (hok : M.ok) (a : Int) (h : ¬ (0 ≤ a ∧ a < 16 * M.n)) :
    Calls Try.prog 36 #[.pointer (some ⟨M.p, 0, none⟩), .int .i64 a] w fun e w' => e = .returned (.pointer none) ∧ w = w' := by
  have c0 := Mem.c0 hs
  have h2 := hok.n0
  have h3 := hok.n1
  by_cases hn : a < 0
  · go_enter Try.func36, Try.ntmps36
    go_wp2
    go_ret
    exact ⟨rfl, rfl⟩
  · have hlt : (M.n : Int) * 16 ≤ a := by omega
    go_enter Try.func36, Try.ntmps36
    go_wp2
    go_ret
    exact ⟨rfl, rfl⟩

/-- what Read tells -/
def Mem.read (M : Mem) (a : Int) : Int × Int := if 0 ≤ a ∧ a < 16 * M.n then (M.W.getD a.toNat 0, 0) else (0, 1)
def Mem.inside (M : Mem) (a : Int) : Bool := decide (0 ≤ a) && decide (a < 16 * M.n)
def Mem.put (M : Mem) (a : Int) (v : Int) : Mem := if 0 ≤ a ∧ a < 16 * M.n then { M with W := M.W.set a.toNat v } else M

theorem mem_read (hs : Sat z w (M.hp :: F)) (hok : M.ok) (a : Int) :
    Calls Try.prog 26 #[.pointer (some ⟨M.p, 0, none⟩), .int .i64 a] w fun e w' => e = .returned (.tuple #[vu (M.read a).1, .int .i64 (M.read a).2]) ∧ w = w' := by
  by_cases h : 0 ≤ a ∧ a < 16 * M.n
  · have cw := Mem.cw hs a.toNat
    have hl := hok.len
    rw [List.getElem?_eq_getElem (by omega)] at cw
    simp only [Option.map_some] at cw
    have e1 : M.read a = (M.W[a.toNat]'(by omega), 0) := by
      unfold Mem.read
      rw [if_pos h, List.getD_eq_getElem?_getD, List.getElem?_eq_getElem (by omega)]
      rfl
    rw [e1]
    generalize M.W[a.toNat]'(by omega) = v at *
    clear e1
    go_enter Try.func26, Try.ntmps26
    go_wp2_with (go_at_call 36; refine (mem_at_in hs hok a h.1 h.2).mono ?_; rintro e w' ⟨rfl, rfl⟩)
    go_ret2
    exact ⟨rfl, rfl⟩
  · have e1 : M.read a = (0, 1) := by unfold Mem.read; rw [if_neg h]
    rw [e1]
    go_enter Try.func26, Try.ntmps26
    go_wp2_with (go_at_call 36; refine (mem_at_out hs hok a h).mono ?_; rintro e w' ⟨rfl, rfl⟩)
    go_ret2
    exact ⟨rfl, rfl⟩

theorem Mem.set_cells (hs : Sat z w (M.hp :: F)) (i : Nat) (v : Int) : Sat z (w.setCell ⟨M.fb, i, none⟩ (vu v)) (Mem.hp { M with W := M.W.set i v } :: F) := by
  have h1 : Sat z w ([(M.fb, .cells (M.W.map vu).toArray 77 (0, 0)), (M.p, .cells #[.slice (some ⟨M.fb, 0, none⟩) M.n M.n] 75 (0, 0))] :: F) :=
    hs.perm (by simpa [Mem.hp] using List.Perm.swap _ _ _)
  have h2 := h1.setCell (i := i) (vu v)
  refine h2.perm ?_
  have e : ((M.W.map vu).toArray.setIfInBounds i (vu v)) = ((M.W.set i v).map vu).toArray := by
    apply Array.toList_inj.1
    simp [List.map_set]
  rw [e]
  simpa [Mem.hp] using List.Perm.swap _ _ _

theorem mem_write (hs : Sat z w (M.hp :: F)) (hok : M.ok) (a v : Int) :
    Calls Try.prog 12 #[.pointer (some ⟨M.p, 0, none⟩), .int .i64 a, vu v] w fun e w' => e = .returned (.int .i64 (if M.inside a then 0 else 1)) ∧ Sat z w' ((M.put a v).hp :: F) := by
  by_cases h : 0 ≤ a ∧ a < 16 * M.n
  · have e1 : M.inside a = true := by simp [Mem.inside, h.1, h.2]
    have e2 : M.put a v = { M with W := M.W.set a.toNat v } := by unfold Mem.put; rw [if_pos h]
    rw [e1, e2]
    have cw := Mem.cw hs a.toNat
    have hl := hok.len
    rw [List.getElem?_eq_getElem (by omega)] at cw
    simp only [Option.map_some] at cw
    have fz := Mem.fz hs a.toNat
    have fin := Mem.set_cells hs a.toNat v
    clear e1 e2
    go_enter Try.func12, Try.ntmps12
    go_wp2_with (go_at_call 36; refine (mem_at_in hs hok a h.1 h.2).mono ?_; rintro e w' ⟨rfl, rfl⟩)
    go_ret
    exact ⟨rfl, fin⟩
  · have e1 : M.inside a = false := by rw [Bool.eq_false_iff]; simp [Mem.inside]; omega
    have e2 : M.put a v = M := by unfold Mem.put; rw [if_neg h]
    rw [e1, e2]
    clear e1 e2
    go_enter Try.func12, Try.ntmps12
    go_wp2_with (go_at_call 36; refine (mem_at_out hs hok a h).mono ?_; rintro e w' ⟨rfl, rfl⟩)
    go_ret
    exact ⟨rfl, hs⟩

theorem Mem.put_ok (hok : M.ok) (a v : Int) : (M.put a v).ok := by
  unfold Mem.put
  split
  · exact ⟨hok.n0, hok.n1, by simpa using hok.len⟩
  · exact hok

theorem mem_new_bad (n : Int) (hs : Sat z w F) (h : ¬ (1 ≤ n ∧ n ≤ 256)) :
    Calls Try.prog 16 #[.int .i64 n] w fun e w' => e = .returned (.tuple #[.pointer none, .int .i64 1]) ∧ Sat z w' F := by
  by_cases h1 : n < 1
  · go_enter Try.func16, Try.ntmps16
    go_wp2
    go_ret2
    exact ⟨rfl, hs⟩
  · have h2 : 256 < n := by omega
    go_enter Try.func16, Try.ntmps16
    go_wp2
    go_ret2
    exact ⟨rfl, hs⟩

theorem mem_new (n : Int) (hs : Sat z w F) (h1 : 1 ≤ n) (h2 : n ≤ 256) :
    Calls Try.prog 16 #[.int .i64 n] w fun e w' => ∃ M : Mem, e = .returned (.tuple #[.pointer (some ⟨M.p, 0, none⟩), .int .i64 0]) ∧ M.ok ∧ M.n = n.toNat ∧ M.W = List.replicate (16 * n.toNat) 0 ∧ Sat z w' (M.hp :: F) := by
  obtain ⟨k, rfl⟩ := Int.eq_ofNat_of_zero_le (show 0 ≤ n by omega)
  have h3 : ¬ (k : Int) < 1 := by omega
  have h4 : ¬ 256 < (k : Int) := by omega
  have hmk := fun W => run_make_rep (P := Try.prog) 73 77 (vu 0) 16 128 Try.underlying73 (by kernel_rfl) (by omega) k (by omega) (by omega) W
  have fin := ((hs.allocd (.cells (List.replicate (k * 16) (vu 0)).toArray 77)).allocd (.cells #[.slice (some ⟨w.heap.size, 0, none⟩) k k] 75)).join
  go_enter Try.func16, Try.ntmps16
  go_wp2
  go_ret2
  refine ⟨⟨w.heap.size + 1, w.heap.size, k, List.replicate (16 * k) 0⟩, rfl, ⟨by simp; omega, by simp; omega, by simp⟩, by simp, by simp, ?_⟩
  simpa [Mem.hp, Nat.mul_comm] using fin

/-- all words of a frame noughts -/
def Mem.zero (M : Mem) (f : Int) : Bool := M.has f 1 && ((M.W.drop (16 * f.toNat)).take 16).all (· == 0)

theorem Mem.range (hs : Sat z w (M.hp :: F)) (i n : Nat) : w.rangeAt M.fb i (((M.W.drop i).take n).map vu) := by
  intro j v hj
  rw [Mem.cw hs (i + j)]
  simp only [List.getElem?_map, List.getElem?_take] at hj
  split at hj
  · simpa using hj
  · simp at hj

set_option maxRecDepth 100000 in
theorem mem_zero (hs : Sat z w (M.hp :: F)) (hok : M.ok) (f : Int) :
    Calls Try.prog 15 #[.pointer (some ⟨M.p, 0, none⟩), .int .i64 f] w fun e w' => e = .returned (.bool (M.zero f)) ∧ w = w' := by
  cases hh : M.has f 1 with
  | false =>
    have e1 : M.zero f = false := by simp [Mem.zero, hh]
    rw [e1]
    go_enter Try.func15, Try.ntmps15
    go_wp2_with (go_at_call 37; refine (mem_has hs hok f 1 (by omega)).mono ?_; rw [hh]; rintro e w' ⟨rfl, rfl⟩)
    go_ret
    exact ⟨rfl, rfl⟩
  | true =>
    have hb : 0 ≤ f ∧ f < M.n := by
      have := hh
      simp only [Mem.has, Bool.and_eq_true, decide_eq_true_eq] at this
      omega
    obtain ⟨k, rfl⟩ := Int.eq_ofNat_of_zero_le hb.1
    have hk : k < M.n := by omega
    have c0 := Mem.c0 hs
    have hl := hok.len
    have hr := Mem.range hs (k * 16) 16
    have e1 : M.zero k = ((M.W.drop (k * 16)).take 16 == List.replicate 16 0) := by
      have hlen : ((M.W.drop (k * 16)).take 16).length = 16 := by simp; omega
      rw [Mem.zero, hh, Bool.true_and, Int.toNat_natCast, Nat.mul_comm 16 k, Bool.eq_iff_iff, List.all_eq_true, beq_iff_eq, List.eq_replicate_iff]
      simp [hlen]
    have hx16 : ((M.W.drop (k * 16)).take 16).length = 16 := by simp; omega
    rw [e1]
    have Hl := Lib.hid hl
    have Hx := Lib.hid hx16
    have Hr := Lib.hid hr
    obtain ⟨iu, hiu0⟩ := Option.isSome_iff_exists.1 (show (Try.prog.info? 30).isSome = true by kernel_rfl)
    have hiu := Lib.hid hiu0
    clear e1 hl hx16 hr hiu0
    generalize hX : (M.W.drop (k * 16)).take 16 = X at *
    clear hX
    go_enter Try.func15, Try.ntmps15
    go_wp2_with (first
      | (go_at_call 37; refine (mem_has hs hok k 1 (by omega)).mono ?_; rw [hh]; rintro e w' ⟨rfl, rfl⟩)
      | (refine wpList_val (o := ⟨some 15, _, _, _, _, _⟩) rfl (exec_load_mid 77 (.tmp 14) rfl M.fb (k * 16) rfl (X.map vu) _ Hr.out Try.underlying77 rfl ?_) ?_)
      | (refine wpList_val (o := ⟨some 16, _, _, _, _, _⟩) (v := .agg ((List.replicate 16 0).map vu).toArray) rfl (by kernel_rfl) ?_)
      | (refine wpList_val (o := ⟨some 17, _, _, _, _, _⟩) rfl (exec_eql_ints 77 30 (.tmp 15) (.tmp 16) _ rfl (by kernel_rfl) Try.underlying77 Try.underlying30 hiu.out (by kernel_rfl) X (List.replicate 16 0) rfl rfl Hx.out rfl) ?_))
    · rw [List.length_map, Hx.out]; kernel_rfl
    · go_ret
      exact ⟨rfl, rfl⟩

/-- noughts from a word on -/
def wipe (W : List Int) (o n : Nat) : List Int := W.take o ++ List.replicate n 0 ++ W.drop (o + n)
theorem wipe_len (W : List Int) (o n : Nat) (h : o + n ≤ W.length) : (wipe W o n).length = W.length := by
  simp [wipe]; omega
theorem wipe_zero (W : List Int) (o : Nat) : wipe W o 0 = W := by simp [wipe]
theorem wipe_get (W : List Int) (o n i : Nat) (h : o + n ≤ W.length) : (wipe W o n)[i]? = if o ≤ i ∧ i < o + n then some 0 else W[i]? := by
  unfold wipe
  by_cases h1 : i < o
  · rw [if_neg (by omega), List.append_assoc, List.getElem?_append_left (by simp; omega), List.getElem?_take_of_lt h1]
  · by_cases h2 : i < o + n
    · have hl : (W.take o).length = o := by simp; omega
      rw [if_pos (by omega), List.append_assoc, List.getElem?_append_right (by omega), hl, List.getElem?_append_left (by simp; omega), List.getElem?_replicate, if_pos (by omega)]
    · rw [if_neg (by omega), List.getElem?_append_right (by simp; omega), List.getElem?_drop]
      congr 1
      simp; omega
theorem wipe_snoc (W : List Int) (o k : Nat) (h : o + (k + 1) * 16 ≤ W.length) : wipe (wipe W o (k * 16)) (o + k * 16) 16 = wipe W o ((k + 1) * 16) := by
  apply List.ext_getElem?
  intro i
  rw [wipe_get _ _ _ _ (by rw [wipe_len _ _ _ (by omega)]; omega), wipe_get _ _ _ _ (by omega), wipe_get _ _ _ _ (by omega)]
  by_cases h1 : o + k * 16 ≤ i ∧ i < o + k * 16 + 16
  · rw [if_pos h1, if_pos (by omega)]
  · rw [if_neg h1]
    by_cases h2 : o ≤ i ∧ i < o + k * 16
    · rw [if_pos h2, if_pos (by omega)]
    · rw [if_neg h2, if_neg (by omega)]

def Mem.scrub (M : Mem) (f k : Int) : Mem := if M.has f k then { M with W := wipe M.W (16 * f.toNat) (16 * k.toNat) } else M

theorem setAll_wipe (W : List Int) (o n : Nat) (h : o + n ≤ W.length) : setAll (W.map vu) o ((List.replicate n 0).map vu) = (wipe W o n).map vu := by
  have e : W.map vu = (W.take o).map vu ++ ((W.drop o).take n).map vu ++ (W.drop (o + n)).map vu := by
    rw [← List.map_append, ← List.map_append]
    congr 1
    rw [List.append_assoc, ← List.drop_drop, List.take_append_drop, List.take_append_drop]
  have := setAll_mid ((List.replicate n 0).map vu) ((W.take o).map vu) (((W.drop o).take n).map vu) ((W.drop (o + n)).map vu) (by simp; omega)
  rw [e]
  rw [show ((W.take o).map vu).length = o by simp; omega] at this
  rw [this]
  simp [wipe]
end
end Go.Proofs.Ytglelfceogpbpaa
