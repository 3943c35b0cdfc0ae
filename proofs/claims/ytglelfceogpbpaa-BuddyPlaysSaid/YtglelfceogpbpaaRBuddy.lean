/- The reference's buddy: which frames are free, what was given. -/
import Derived.Test.YtglelfceogpbpaaRMem
import Derived.Test.YtglelfceogpbpaaEnc
import Derived.Test.YtglelfceogpbpaaRefPure
namespace Go.Proofs.Ytglelfceogpbpaa
open Go.RowKit

structure RB where
  p : Nat
  mp : Nat
  fb : Nat
  f : List Bool
  g : CRow
  gv : List (Int × Int)

namespace RB
def main (B : RB) : Chunk := [(B.p, .cells #[.pointer (some ⟨B.mp, 0, none⟩), .slice (some ⟨B.fb, 0, none⟩) B.f.length B.f.length, B.g.val] 56 (0, 0))]
def fr (B : RB) : Chunk := [(B.fb, .cells (B.f.map Value.bool).toArray 4 (0, 0))]
def hp (B : RB) : Chunk := B.main ++ (B.fr ++ B.g.hp 57)
structure ok (B : RB) : Prop where
  n0 : 1 ≤ B.f.length
  n1 : B.f.length ≤ 256
  gok : B.g.ok 2
  gn : B.g.n = B.gv.length
  gx : B.g.xs = B.gv.flatMap encB
  gl : B.gv.length ≤ 1000
end RB

section
variable {z w : World} {F : List Chunk} {B : RB}

theorem RB.opens (hs : Sat z w (B.hp :: F)) : Sat z w (B.main :: B.fr :: B.g.hp 57 :: F) := hs.perm (by simp [RB.hp])
theorem RB.shuts (hs : Sat z w (B.main :: B.fr :: B.g.hp 57 :: F)) : Sat z w (B.hp :: F) := hs.perm (by simp [RB.hp])
theorem RB.cm (hs : Sat z w (B.main :: F)) (i : Nat) : w.cell? ⟨B.p, i, none⟩ = #[.pointer (some ⟨B.mp, 0, none⟩), .slice (some ⟨B.fb, 0, none⟩) B.f.length B.f.length, B.g.val][i]? :=
  hs.cell (e := 56) (fr := (0, 0)) (by simp [RB.main])
theorem RB.c1 (hs : Sat z w (B.hp :: F)) : w.cell? ⟨B.p, 1, none⟩ = some (.slice (some ⟨B.fb, 0, none⟩) B.f.length B.f.length) := by rw [RB.cm (RB.opens hs)]; rfl
theorem RB.cf (hs : Sat z w (B.fr :: F)) (i : Nat) : w.cell? ⟨B.fb, i, none⟩ = (B.f[i]?).map Value.bool := by
  rw [hs.cell (b := B.fb) (i := i) (c := (B.f.map Value.bool).toArray) (e := 4) (fr := (0, 0)) (by simp [RB.fr])]
  simp
theorem RB.c_f (hs : Sat z w (B.hp :: F)) (i : Nat) : w.cell? ⟨B.fb, i, none⟩ = (B.f[i]?).map Value.bool := RB.cf (F := B.main :: B.g.hp 57 :: F) (RB.opens hs).swap i

theorem power_ok (n : Nat) (hn : n ≤ 8) (w : World) : Calls Try.prog 38 #[vi n] w fun e w' => e = .returned (vi ((2 ^ n : Nat) : Int)) ∧ w = w' := by
  go_enter Try.func38, Try.ntmps38
  go_wp2
  go_loop [3, 4] (fun x i => ∃ m : Nat, m ≤ n ∧ i = vi m ∧ x = vi ((2 ^ m : Nat) : Int)) (fun _ i => n - (intOf i).toNat)
  case atStart => exact ⟨0, Nat.zero_le _, rfl, rfl⟩
  case round =>
    obtain ⟨m, hm, rfl, rfl⟩ := hrel
    by_cases hlt : m < n
    · have h1 : 2 ^ m ≤ 2 ^ 8 := Nat.pow_le_pow_right (by omega) (by omega)
      have h2 : ((2 ^ (m + 1) : Nat) : Int) = ((2 ^ m : Nat) : Int) * 2 := by rw [Nat.pow_succ]; omega
      have H2 := Lib.hid h2
      clear h2
      generalize 2 ^ m = X at *
      go_wp2
      go_round
      case rel => exact ⟨m + 1, by omega, by go_num, by rw [H2.out]⟩
      case measure => simp [intOf]; omega
    · obtain rfl : m = n := by omega
      clear hm
      go_wp2
      go_ret
      exact ⟨rfl, rfl⟩

theorem free_any (hs : Sat z w (B.hp :: F)) (hok : B.ok) (a m : Nat) (ha : a ≤ 1000) (hm : m ≤ 1000) :
    Calls Try.prog 40 #[.pointer (some ⟨B.p, 0, none⟩), vi a, vi m] w fun e w' => e = .returned (.bool (frees B.f a m)) ∧ w = w' := by
  have c1 := RB.c1 hs
  have hn := hok.n1
  by_cases hin : a + m ≤ B.f.length
  · have hin' : ¬ (B.f.length : Int) < (a : Int) + m := by omega
    go_enter Try.func40, Try.ntmps40
    go_wp2
    go_loop [7] (fun i => ∃ k : Nat, k ≤ m ∧ i = vi ((a + k : Nat) : Int) ∧ Hid (∀ j, j < k → B.f.getD (a + j) false = true)) (fun i => a + m - (intOf i).toNat)
    case atStart => exact ⟨0, Nat.zero_le _, rfl, Lib.hid (fun j hj => by omega)⟩
    case round =>
      obtain ⟨k, hk, rfl, Hf⟩ := hrel
      by_cases hlt : k < m
      · have hlt' : ((a + k : Nat) : Int) < (a : Int) + m := by omega
        have cf := RB.c_f hs (a + k)
        have hi : a + k < B.f.length := by omega
        rw [List.getElem?_eq_getElem hi] at cf
        simp only [Option.map_some] at cf
        have hgd : B.f.getD (a + k) false = B.f[a + k] := by rw [List.getD_eq_getElem?_getD, List.getElem?_eq_getElem hi]; rfl
        cases hv : B.f[a + k] with
        | true =>
          rw [hv] at cf hgd
          have Hg := Lib.hid hgd
          clear hv hgd
          go_wp2
          go_round
          case rel => exact ⟨k + 1, by omega, by go_num, Lib.hid (fun j hj => by
            by_cases e : j = k
            · subst e; exact Hg.out
            · exact Hf.out j (by omega))⟩
          case measure => simp [intOf]; omega
        | false =>
          rw [hv] at cf hgd
          have hno : frees B.f a m = false := by
            rw [Bool.eq_false_iff]
            intro h
            simp only [frees, Bool.and_eq_true, List.all_eq_true, List.mem_range] at h
            have := h.2 k hlt
            rw [hgd] at this
            cases this
          have Hno := Lib.hid hno
          clear hv hgd hno
          go_wp2
          go_ret
          exact ⟨by rw [Hno.out]; rfl, rfl⟩
      · have hlt' : ¬ ((a + k : Nat) : Int) < (a : Int) + m := by omega
        have hyes : frees B.f a m = true := by
          simp only [frees, Bool.and_eq_true, List.all_eq_true, List.mem_range, decide_eq_true_eq]
          exact ⟨hin, fun j hj => Hf.out j (by omega)⟩
        have Hyes := Lib.hid hyes
        clear hyes
        go_wp2
        go_ret
        exact ⟨by rw [Hyes.out]; rfl, rfl⟩
  · have hin' : (B.f.length : Int) < (a : Int) + m := by omega
    have hno : frees B.f a m = false := by simp [frees, hin]
    rw [hno]
    clear hno
    go_enter Try.func40, Try.ntmps40
    go_wp2
    go_ret
    exact ⟨rfl, rfl⟩

/-- how many are free -/
def cnt (f : List Bool) (m : Nat) : Nat := (List.range m).countP fun i => f.getD i false
theorem cnt_succ (f : List Bool) (m : Nat) : cnt f (m + 1) = cnt f m + (if f.getD m false then 1 else 0) := by
  unfold cnt
  rw [List.range_succ, List.countP_append]
  simp [List.countP_cons]
theorem cnt_le (f : List Bool) (m : Nat) : cnt f m ≤ m := by
  unfold cnt
  have := List.countP_le_length (p := fun i => f.getD i false) (l := List.range m)
  simpa using this

theorem rleft_ok (hs : Sat z w (B.hp :: F)) (hok : B.ok) :
    Calls Try.prog 28 #[.pointer (some ⟨B.p, 0, none⟩)] w fun e w' => e = .returned (vi (cnt B.f B.f.length : Nat)) ∧ w = w' := by
  have c1 := RB.c1 hs
  have hn := hok.n1
  go_enter Try.func28, Try.ntmps28
  go_wp2
  go_loop [3, 4] (fun n i => ∃ k : Nat, k ≤ B.f.length ∧ i = vi k ∧ n = vi (cnt B.f k : Nat)) (fun _ i => B.f.length - (intOf i).toNat)
  case atStart => exact ⟨0, Nat.zero_le _, rfl, rfl⟩
  case round =>
    obtain ⟨k, hk, rfl, rfl⟩ := hrel
    have hcl := cnt_le B.f k
    by_cases hi : k < B.f.length
    · have cf := RB.c_f hs k
      rw [List.getElem?_eq_getElem hi] at cf
      simp only [Option.map_some] at cf
      have hgd : B.f.getD k false = B.f[k] := by rw [List.getD_eq_getElem?_getD, List.getElem?_eq_getElem hi]; rfl
      have hsc := cnt_succ B.f k
      rw [hgd] at hsc
      cases hv : B.f[k] with
      | true =>
        rw [hv] at cf hsc
        have Hs := Lib.hid hsc
        clear hv hgd hsc
        go_wp2
        go_round
        case rel => exact ⟨k + 1, by omega, by go_num, by rw [Hs.out]; simp⟩
        case measure => simp [intOf]; omega
      | false =>
        rw [hv] at cf hsc
        have Hs := Lib.hid hsc
        clear hv hgd hsc
        go_wp2
        go_round
        case rel => exact ⟨k + 1, by omega, by go_num, by rw [Hs.out]; simp⟩
        case measure => simp [intOf]; omega
    · obtain rfl : k = B.f.length := by omega
      clear hk
      go_wp2
      go_ret
      exact ⟨rfl, rfl⟩
end
end Go.Proofs.Ytglelfceogpbpaa
