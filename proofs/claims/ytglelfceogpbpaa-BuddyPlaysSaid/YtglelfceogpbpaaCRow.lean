/- Slices of one's own, of elements of some cells, and append to them. -/
import Derived.Test.YtglelfceogpbpaaRow
import Derived.Deep.AppendLies
namespace Go.Proofs.Ytglelfceogpbpaa
open Go.RowKit

structure CRow where
  b : Option Nat
  n : Nat
  cap : Nat
  xs : List Value
  sp : List Value

namespace CRow
def val (r : CRow) : Value := match r.b with
  | none => .slice none 0 0
  | some b => .slice (some ⟨b, 0, none⟩) r.n r.cap
def hp (E : TypeId) (r : CRow) : Chunk := match r.b with
  | none => []
  | some b => [(b, .cells (r.xs ++ r.sp).toArray E (0, 0))]
structure ok (r : CRow) (size : Nat) : Prop where
  nil : r.b = none → r.n = 0
  len : r.xs.length = r.n * size
  le : r.n ≤ r.cap
  big : r.cap ≤ maxLen
  all : r.xs.length + r.sp.length = r.cap * size
def empty : CRow := ⟨none, 0, 0, [], []⟩
theorem empty_ok (size : Nat) : empty.ok size := ⟨fun _ => rfl, by simp [empty], Nat.le_refl _, by simp [empty, maxLen], by simp [empty]⟩
theorem val_len (r : CRow) {size : Nat} (hok : r.ok size) : ∃ a k, r.val = .slice a r.n k := by
  unfold val
  split
  · rename_i h
    exact ⟨_, _, by rw [hok.nil h]⟩
  · exact ⟨_, _, rfl⟩
theorem val_slice (r : CRow) : ∃ a n k, r.val = .slice a n k := by
  unfold val
  split
  · exact ⟨_, _, _, rfl⟩
  · exact ⟨_, _, _, rfl⟩
end CRow

section
variable {z w w' : World} {F : List Chunk} {R : CRow} {E : TypeId} {size : Nat}
theorem CRow.owns (hs : Sat z w (R.hp E :: F)) (hok : R.ok size) : w.ownsRow 0 E size R.val R.n R.xs := by
  refine ⟨hok.len, ?_⟩
  cases hb : R.b with
  | none => exact .inl ⟨by simp [CRow.val, hb], hok.nil hb⟩
  | some b =>
    refine .inr ⟨b, R.cap, (R.xs ++ R.sp).toArray, by simp [CRow.val, hb], Nat.zero_le _, hs.block (by simp [CRow.hp, hb]), hok.le, hok.big, by simpa using hok.all, ?_⟩
    rw [← hok.len]
    simp

theorem CRow.grown {n : Nat} {g cap : Nat} {xs : List Value} (hs : Sat z w (R.hp E :: F)) (hn : 0 < n) (h1 : w'.ownsRow 0 E size (.slice (some ⟨g, 0, none⟩) n cap) n xs) (h2 : w.grownBy w' R.val.ownBlock)
    (h3 : R.val.ownBlock = some g ∨ g = w.heap.size) : ∃ R' : CRow, R'.val = .slice (some ⟨g, 0, none⟩) n cap ∧ R'.ok size ∧ R'.n = n ∧ R'.xs = xs ∧ Sat z w' (R'.hp E :: F) := by
  obtain ⟨hl, h | ⟨g', cap', cur, hv, _, hg, hle, hbig, hsz, htake⟩⟩ := h1
  · omega
  simp only [Value.slice.injEq, Option.some.injEq, Addr.mk.injEq, and_true, true_and] at hv
  obtain ⟨rfl, rfl⟩ := hv
  have hob : R.val.ownBlock = R.b := by
    unfold CRow.val
    cases R.b <;> rfl
  rw [hob] at h2 h3
  refine ⟨⟨some g, n, cap, xs, cur.toList.drop (n * size)⟩, rfl, ⟨by simp, hl, hle, hbig, ?_⟩, rfl, rfl, ?_⟩
  · rw [← htake, ← List.length_append, List.take_append_drop]
    simpa using hsz
  · have e : (xs ++ cur.toList.drop (n * size)).toArray = cur := by
      rw [← htake, List.take_append_drop]
    have hgF : ∀ o, (g, o) ∉ F.flatten := by
      intro o hm
      rcases h3 with h3 | rfl
      · have := hs.ne (b := g) (o := .cells (R.xs ++ R.sp).toArray E (0, 0)) (by simp [CRow.hp, h3]) hm
        exact this rfl
      · have := hs.drop.lt hm
        omega
    refine ⟨h2.os.trans hs.os, h2.tape.trans hs.tape, h2.output.trans hs.output, Nat.le_trans hs.size h2.size, ?_, ?_⟩
    · simp only [CRow.hp, List.flatten_cons, List.cons_append, List.nil_append, List.map_cons, List.nodup_cons]
      refine ⟨fun hm => ?_, hs.drop.nd⟩
      obtain ⟨⟨b, o⟩, hm', rfl⟩ := List.mem_map.1 hm
      exact hgF o hm'
    · intro b o hm
      simp only [CRow.hp, List.flatten_cons, List.cons_append, List.nil_append, List.mem_cons] at hm
      rcases hm with hm | hm
      · simp only [Prod.mk.injEq] at hm
        obtain ⟨rfl, rfl⟩ := hm
        rw [e]
        exact hg
      · rw [h2.block b (hs.drop.lt hm) ?_]
        · exact hs.drop.block hm
        · intro e
          have := hs.ne (b := b) (o := .cells (R.xs ++ R.sp).toArray E (0, 0)) (by simp [CRow.hp, ← e]) hm
          exact this rfl

theorem CRow.run_append {P : Program} (hs : Sat z w (R.hp E :: F)) (hok : R.ok size) (t ty : TypeId) (i : TypeInfo) (zv : Value) (bytes : Nat) (ht : P.underlying t = some (.slice E)) (hi : P.info? E = some i) (hz : i.zero = some zv)
    (hsize : i.size = size) (hby : i.bytes = bytes) (hzs : zv.cells.size = size) (hsz : 0 < size)
    (ad : Addr) (m c : Nat) (news : List Value) (hl : news.length = m * size) (hnews : ∀ j u, news[j]? = some u → w.cell? (ad.add j) = some u) (h1 : ∀ u ∈ news, u.oneCell' = true)
    (hm : 0 < m) (h63 : R.n + m ≤ maxLen) (hbytes : (R.n + m) * bytes ≤ 140737488355328) :
    ∃ (R' : CRow) (w' : World), (Builtin.append_ #[t, t] ty #[R.val, .slice (some ad) m c]).run P w = .ok R'.val w' ∧ R'.ok size ∧ R'.n = R.n + m ∧ R'.xs = R.xs ++ news ∧ Sat z w' (R'.hp E :: F) := by
  obtain ⟨g, cap, w', hr, ho, hg, hat, _⟩ := run_append_lies (P := P) w t ty 0 E i zv size bytes ht hi hz hsize hby hzs hsz R.val R.n R.xs (R.owns hs hok) ad m c news hl hnews h1 hm h63 hbytes (Nat.zero_le _) _ rfl
  obtain ⟨R', e1, e2, e3, e4, e5⟩ := CRow.grown hs (by omega) ho hg hat
  exact ⟨R', w', by rw [hr, e1], e2, e3, e4, e5⟩

/-- append to a row of one's own, at the operation -/
theorem CRow.wp_append {P : Program} {o : Oper} {a : Act} {K : Act → World → Prop} {Q : Exit → Act → World → Prop} (hs : Sat z w (R.hp E :: F)) (hok : R.ok size) (s x : Operand) (t : TypeId)
    (ho : o.op = .call { callee := .builtin .append, args := #[s, x], argTypes := #[t, t] })
    (i : TypeInfo) (zv : Value) (bytes : Nat) (ht : P.underlying t = some (.slice E)) (hi : P.info? E = some i) (hz : i.zero = some zv)
    (hsize : i.size = size) (hby : i.bytes = bytes) (hzs : zv.cells.size = size) (hsz : 0 < size) (hv : a.eval s = R.val)
    (ad : Addr) (m c : Nat) (news : List Value) (hx : a.eval x = .slice (some ad) m c) (hl : news.length = m * size) (hnews : ∀ j u, news[j]? = some u → w.cell? (ad.add j) = some u) (h1 : ∀ u ∈ news, u.oneCell' = true)
    (hm : 0 < m) (h63 : R.n + m ≤ maxLen) (hbytes : (R.n + m) * bytes ≤ 140737488355328)
    (h : ∀ (R' : CRow) w', R'.ok size → R'.n = R.n + m → R'.xs = R.xs ++ news → Sat z w' (R'.hp E :: F) → K (a.put o.dst R'.val) w') : o.wp P a w K Q := by
  obtain ⟨R', w', hr, e2, e3, e4, e5⟩ := CRow.run_append (P := P) hs hok t o.type i zv bytes ht hi hz hsize hby hzs hsz ad m c news hl hnews h1 hm h63 hbytes
  unfold Oper.wp execOp
  simp only [ho, resolve, invoke, builtin, Sem.run_bind, Sem.run_pure, Result.andThen_ok, List.map_toArray, List.map_cons, List.map_nil, hv, hx, hr]
  exact h R' w' e2 e3 e4 e5

/-- append to a row of one's own, in a plain region -/
theorem CRow.wpList_append {P : Program} {ops : Array Oper} {rest : List Oper} {o : Oper} {a : Act} {Q : Exit → Act → World → Prop} (hs : Sat z w (R.hp E :: F)) (hok : R.ok size) (s x : Operand) (t : TypeId) (hgd : o.guard = none)
    (ho : o.op = .call { callee := .builtin .append, args := #[s, x], argTypes := #[t, t] })
    (i : TypeInfo) (zv : Value) (bytes : Nat) (ht : P.underlying t = some (.slice E)) (hi : P.info? E = some i) (hz : i.zero = some zv)
    (hsize : i.size = size) (hby : i.bytes = bytes) (hzs : zv.cells.size = size) (hsz : 0 < size) (hv : a.eval s = R.val)
    (ad : Addr) (m c : Nat) (news : List Value) (hx : a.eval x = .slice (some ad) m c) (hl : news.length = m * size) (hnews : ∀ j u, news[j]? = some u → w.cell? (ad.add j) = some u) (h1 : ∀ u ∈ news, u.oneCell' = true)
    (hm : 0 < m) (h63 : R.n + m ≤ maxLen) (hbytes : (R.n + m) * bytes ≤ 140737488355328)
    (h : ∀ (R' : CRow) w', R'.ok size → R'.n = R.n + m → R'.xs = R.xs ++ news → Sat z w' (R'.hp E :: F) → wpList P ops Q rest (a.put o.dst R'.val) w') : wpList P ops Q (o :: rest) a w :=
  wpList_plain hgd fun _ hK => CRow.wp_append hs hok s x t ho i zv bytes ht hi hz hsize hby hzs hsz hv ad m c news hx hl hnews h1 hm h63 hbytes fun R' w' a1 a2 a3 a4 => hK _ _ (h R' w' a1 a2 a3 a4)
end
end Go.Proofs.Ytglelfceogpbpaa
