/- The other half of a block, and the block of both: as Go reckons them by bits. -/
import Derived.Test.YtglelfceogpbpaaOps
import Derived.Test.YtglelfceogpbpaaPure
namespace Go.Proofs.Ytglelfceogpbpaa
open Go.RowKit

def xorB (f n : Nat) : Int := IntKind.i64.wrap ((BitVec.ofInt 64 (f : Int) ^^^ BitVec.ofInt 64 ((2 ^ n : Nat) : Int)).toNat)
def andNotB (f n : Nat) : Int := IntKind.i64.wrap ((BitVec.ofInt 64 (f : Int) &&& ~~~ BitVec.ofInt 64 ((2 ^ n : Nat) : Int)).toNat)

def bitsRight : Bool := (List.range 9).all fun n => (List.range 512).all fun f => decide (xorB f n = (bud f n : Nat)) && decide (andNotB f n = (par f n : Nat))
theorem bits_right : bitsRight = true := by decide +kernel

theorem bits_at (f n : Nat) (hf : f < 512) (hn : n < 9) : xorB f n = (bud f n : Nat) ∧ andNotB f n = (par f n : Nat) := by
  have h := bits_right
  simp only [bitsRight, List.all_eq_true, List.mem_range, Bool.and_eq_true, decide_eq_true_eq] at h
  exact h n hn f hf

section
variable {P : Program} {a : Act} {w : World} {o : Oper}
theorem exec_xor (t t' : TypeId) (x y : Operand) (ho : o.op = .binOp .xor t x y t') (f n : Nat) (hf : f < 512) (hn : n < 9) (hx : a.eval x = .int .i64 (f : Int)) (hy : a.eval y = .int .i64 (2 ^ n)) :
    (execOp a.eval o).run P w = .ok (.value (.int .i64 (bud f n : Nat))) w := by
  have hb1 : ∀ w : World, (binOp .xor t (.int .i64 (f : Int)) (.int .i64 (2 ^ n))).run P w = .ok (.int .i64 (bud f n : Nat)) w := by
    intro w
    have := (bits_at f n hf hn).1
    rw [← this]
    simp only [binOp_xor, Op.intBits, xorB]
    have e : ((2 ^ n : Nat) : Int) = 2 ^ n := by norm_cast
    rw [e]
    rfl
  have hg : ∀ w : World, (eqGuard .xor t x y (.int .i64 (f : Int)) (.int .i64 (2 ^ n))).run P w = .ok () w := by
    intro w
    simp [eqGuard]
  unfold execOp
  simp only [ho, hx, hy, Sem.run_bind, hg, Result.andThen_ok, hb1, Sem.run_pure]
theorem exec_andNot (t t' : TypeId) (x y : Operand) (ho : o.op = .binOp .andNot t x y t') (f n : Nat) (hf : f < 512) (hn : n < 9) (hx : a.eval x = .int .i64 (f : Int)) (hy : a.eval y = .int .i64 (2 ^ n)) :
    (execOp a.eval o).run P w = .ok (.value (.int .i64 (par f n : Nat))) w := by
  have hb1 : ∀ w : World, (binOp .andNot t (.int .i64 (f : Int)) (.int .i64 (2 ^ n))).run P w = .ok (.int .i64 (par f n : Nat)) w := by
    intro w
    have := (bits_at f n hf hn).2
    rw [← this]
    have e : ((2 ^ n : Nat) : Int) = 2 ^ n := by norm_cast
    simp only [binOp, Op.intBits, andNotB]
    rw [e]
    rfl
  have hg : ∀ w : World, (eqGuard .andNot t x y (.int .i64 (f : Int)) (.int .i64 (2 ^ n))).run P w = .ok () w := by
    intro w
    simp [eqGuard]
  unfold execOp
  simp only [ho, hx, hy, Sem.run_bind, hg, Result.andThen_ok, hb1, Sem.run_pure]
end
end Go.Proofs.Ytglelfceogpbpaa
