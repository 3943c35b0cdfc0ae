/- append to a slice of one's own, of any source: none, of length 0, or with elements. -/
import Derived.Test.YtglelfceogpbpaaCRow
namespace Go.Proofs.Ytglelfceogpbpaa
open Go.RowKit

section
variable {z w w' : World} {F : List Chunk} {R : CRow} {E : TypeId} {size : Nat}

theorem CRow.run_append_src {P : Program} (hs : Sat z w (R.hp E :: F)) (hok : R.ok size) (t ty : TypeId) (i : TypeInfo) (zv : Value) (bytes : Nat) (ht : P.underlying t = some (.slice E)) (hi : P.info? E = some i) (hz : i.zero = some zv)
    (hsize : i.size = size) (hby : i.bytes = bytes) (hzs : zv.cells.size = size) (hsz : 0 < size)
    (A : Option Addr) (m c : Nat) (news : List Value) (hl : news.length = m * size) (hnews : ∀ ad, A = some ad → ∀ j u, news[j]? = some u → w.cell? (ad.add j) = some u) (hnil : A = none → m = 0) (h1 : ∀ u ∈ news, u.oneCell' = true)
    (h63 : R.n + m ≤ maxLen) (hbytes : (R.n + m) * bytes ≤ 140737488355328) :
    ∃ (R' : CRow) (w' : World), (Builtin.append_ #[t, t] ty #[R.val, .slice A m c]).run P w = .ok R'.val w' ∧ R'.ok size ∧ R'.n = R.n + m ∧ R'.xs = R.xs ++ news ∧ Sat z w' (R'.hp E :: F) := by
  rcases Nat.eq_zero_or_pos m with h0 | h0
  · subst h0
    have hn : news = [] := List.eq_nil_of_length_eq_zero (by simpa using hl)
    subst hn
    refine ⟨R, w, ?_, hok, rfl, by simp, hs⟩
    have hle := hok.le
    have hnn := hok.nil
    unfold CRow.val
    split
    · rename_i hb
      cases A <;> simp [Builtin.append_, run_underlying ht, sizeOf, typeInfo, hi, Builtin.lenOf, Builtin.firstCells, loadCells, loadCellsFrom]
    · cases A <;> simp [Builtin.append_, run_underlying ht, sizeOf, typeInfo, hi, Builtin.lenOf, Builtin.firstCells, hle, storeCells, loadCells, loadCellsFrom]
  · cases A with
    | none => have := hnil rfl; omega
    | some ad => exact CRow.run_append hs hok t ty i zv bytes ht hi hz hsize hby hzs hsz ad m c news hl (hnews ad rfl) h1 h0 h63 hbytes

theorem CRow.wp_append_src {P : Program} {o : Oper} {a : Act} {K : Act → World → Prop} {Q : Exit → Act → World → Prop} (hs : Sat z w (R.hp E :: F)) (hok : R.ok size) (s x : Operand) (t : TypeId)
    (ho : o.op = .call { callee := .builtin .append, args := #[s, x], argTypes := #[t, t] })
    (i : TypeInfo) (zv : Value) (bytes : Nat) (ht : P.underlying t = some (.slice E)) (hi : P.info? E = some i) (hz : i.zero = some zv)
    (hsize : i.size = size) (hby : i.bytes = bytes) (hzs : zv.cells.size = size) (hsz : 0 < size) (hv : a.eval s = R.val)
    (A : Option Addr) (m c : Nat) (news : List Value) (hx : a.eval x = .slice A m c) (hl : news.length = m * size) (hnews : ∀ ad, A = some ad → ∀ j u, news[j]? = some u → w.cell? (ad.add j) = some u) (hnil : A = none → m = 0) (h1 : ∀ u ∈ news, u.oneCell' = true)
    (h63 : R.n + m ≤ maxLen) (hbytes : (R.n + m) * bytes ≤ 140737488355328)
    (h : ∀ (R' : CRow) w', R'.ok size → R'.n = R.n + m → R'.xs = R.xs ++ news → Sat z w' (R'.hp E :: F) → K (a.put o.dst R'.val) w') : o.wp P a w K Q := by
  obtain ⟨R', w', hr, e2, e3, e4, e5⟩ := CRow.run_append_src (P := P) hs hok t o.type i zv bytes ht hi hz hsize hby hzs hsz A m c news hl hnews hnil h1 h63 hbytes
  unfold Oper.wp execOp
  simp only [ho, resolve, invoke, builtin, Sem.run_bind, Sem.run_pure, Result.andThen_ok, List.map_toArray, List.map_cons, List.map_nil, hv, hx, hr]
  exact h R' w' e2 e3 e4 e5

theorem CRow.wpList_append_src {P : Program} {ops : Array Oper} {rest : List Oper} {o : Oper} {a : Act} {Q : Exit → Act → World → Prop} (hs : Sat z w (R.hp E :: F)) (hok : R.ok size) (s x : Operand) (t : TypeId) (hgd : o.guard = none)
    (ho : o.op = .call { callee := .builtin .append, args := #[s, x], argTypes := #[t, t] })
    (i : TypeInfo) (zv : Value) (bytes : Nat) (ht : P.underlying t = some (.slice E)) (hi : P.info? E = some i) (hz : i.zero = some zv)
    (hsize : i.size = size) (hby : i.bytes = bytes) (hzs : zv.cells.size = size) (hsz : 0 < size) (hv : a.eval s = R.val)
    (A : Option Addr) (m c : Nat) (news : List Value) (hx : a.eval x = .slice A m c) (hl : news.length = m * size) (hnews : ∀ ad, A = some ad → ∀ j u, news[j]? = some u → w.cell? (ad.add j) = some u) (hnil : A = none → m = 0) (h1 : ∀ u ∈ news, u.oneCell' = true)
    (h63 : R.n + m ≤ maxLen) (hbytes : (R.n + m) * bytes ≤ 140737488355328)
    (h : ∀ (R' : CRow) w', R'.ok size → R'.n = R.n + m → R'.xs = R.xs ++ news → Sat z w' (R'.hp E :: F) → wpList P ops Q rest (a.put o.dst R'.val) w') : wpList P ops Q (o :: rest) a w :=
  wpList_plain hgd fun _ hK => CRow.wp_append_src hs hok s x t ho i zv bytes ht hi hz hsize hby hzs hsz hv A m c news hx hl hnews hnil h1 h63 hbytes fun R' w' a1 a2 a3 a4 => hK _ _ (h R' w' a1 a2 a3 a4)

/-- a new row of one's own, without elements -/
def CRow.fresh (b : Nat) : CRow := ⟨some b, 0, 0, [], []⟩
theorem CRow.fresh_ok (b size : Nat) : (CRow.fresh b).ok size := ⟨fun h => by simp [CRow.fresh] at h, by simp [CRow.fresh], Nat.le_refl _, by simp [CRow.fresh, maxLen], by simp [CRow.fresh]⟩
end
end Go.Proofs.Ytglelfceogpbpaa
