/- A slice of Ops as it came in. -/
import Derived.Test.YtglelfceogpbpaaMaxi
namespace Go.Proofs.Ytglelfceogpbpaa
open Go.RowKit

structure OpR where
  d : Int
  n : Int
  o : Int
  w : Int

/-- a slice of Ops as it came in -/
def OpsAt (z : World) (v : Value) (l : List OpR) : Prop :=
  (v = .slice none 0 0 ∧ l = []) ∨ ∃ a cap, v = .slice (some a) l.length cap ∧ ∀ i x, l[i]? = some x →
    z.cell? (a.add (i * 4)) = some (vi x.d) ∧ z.cell? (a.add (i * 4 + 1)) = some (vi x.n) ∧ z.cell? (a.add (i * 4 + 2)) = some (vi x.o) ∧ z.cell? (a.add (i * 4 + 3)) = some (vu x.w)

theorem Sat.old {z w : World} {cs : List Chunk} (h : Sat z w cs) (hm : whole z ∈ cs) {a : Addr} {v : Value} (hc : z.cell? a = some v) : w.cell? a = some v := by
  have hb := h.below hm
  have hlt := World.block_lt_of_cell? z a hc
  rw [World.cell?_of_block (hb.block a.block hlt)]
  exact hc

theorem add_at (a : Addr) (k j : Nat) (hj : 0 < j) : (⟨(a.add k).block, (a.add k).off + j, none⟩ : Addr) = a.add (k + j) := by
  unfold Addr.add
  by_cases h : k = 0
  · subst h
    simp [show j ≠ 0 by omega]
  · simp [h, Nat.add_assoc]

theorem exec_remI {P : Program} {a : Act} {w : World} {o : Oper} (t t' : TypeId) (x y : Operand) (ho : o.op = .binOp .rem t x y t') (n : Int) (m : Nat) (hm : 0 < m) (hn : 0 ≤ n) (hx : a.eval x = .int .i64 n) (hy : a.eval y = .int .i64 (m : Int)) :
    (execOp a.eval o).run P w = .ok (.value (.int .i64 ((n.toNat % m : Nat) : Int))) w := by
  obtain ⟨k, rfl⟩ := Int.eq_ofNat_of_zero_le hn
  exact exec_rem t t' x y ho k m _ hm rfl hx hy

theorem CRow.ofLen {R : CRow} {ra : Option Addr} {rk : Nat} (hR : R.ok 2) (hv : R.val = .slice ra R.n rk) (h : 0 < R.n) : ∃ b, R.b = some b ∧ ra = some ⟨b, 0, none⟩ := by
  cases hb : R.b with
  | none => have := hR.nil hb; omega
  | some b =>
    simp only [CRow.val, hb, Value.slice.injEq] at hv
    exact ⟨b, rfl, hv.1.symm⟩

end Go.Proofs.Ytglelfceogpbpaa
