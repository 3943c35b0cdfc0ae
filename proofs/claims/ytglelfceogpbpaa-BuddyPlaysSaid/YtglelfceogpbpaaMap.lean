/- The map whose keys are blocks: found, laid in, taken out. -/
import Derived.Test.YtglelfceogpbpaaBuddy
namespace Go.Proofs.Ytglelfceogpbpaa
open Go.RowKit

section
variable (w : World)

theorem run_eqBlock (a b c d : Int) : (Op.equal 34 (vb a b) (vb c d)).run Try.prog w = .ok (a == c && b == d) w := by
  simp only [Op.equal, Op.maxDepth]
  rw [run_equalIn_struct w 9999 34 #[vi a, vi b] #[vi c, vi d] (by kernel_rfl) (by kernel_rfl)]
  have e : (Try.prog.fieldsOf 34).toList = [{ name := "Frame", type := 3, offset := 0, embedded := false, tag := "", pkgPath := "", byteOffset := 0 }, { name := "Order", type := 3, offset := 1, embedded := false, tag := "", pkgPath := "", byteOffset := 8 }] := by kernel_rfl
  rw [e]
  have p0 : ∀ x y : Int, (part 3 #[vi x, vi y] 0).run Try.prog w = .ok (vi x) w := fun x y => by
    simp [part, isAgg, run_underlying Try.underlying3]
  have p1 : ∀ x y : Int, (part 3 #[vi x, vi y] 1).run Try.prog w = .ok (vi y) w := fun x y => by
    simp [part, isAgg, run_underlying Try.underlying3]
  have q : ∀ x y : Int, (Op.equalIn 9999 3 (vi x) (vi y)).run Try.prog w = .ok (x == y) w := fun x y => run_equalIn_int w 9998 3 .i64 .i64 x y Try.underlying3
  cases h1 : a == c <;> cases h2 : b == d <;> simp [p0, p1, q, h1, h2, Op.eqFields]

theorem run_checkBlock (em : Bool) (a b : Int) : (Instr.checkKey em 10000 34 (vb a b)).run Try.prog w = .ok () w := by
  have hu : Try.prog.underlying 34 = some (.struct (Try.prog.fieldsOf 34)) := by kernel_rfl
  have e : (Try.prog.fieldsOf 34) = #[{ name := "Frame", type := 3, offset := 0, embedded := false, tag := "", pkgPath := "", byteOffset := 0 }, { name := "Order", type := 3, offset := 1, embedded := false, tag := "", pkgPath := "", byteOffset := 8 }] := by kernel_rfl
  rw [e] at hu
  have p0 : (part 3 #[vi a, vi b] 0).run Try.prog w = .ok (vi a) w := by
    simp [part, isAgg, run_underlying Try.underlying3]
  have p1 : (part 3 #[vi a, vi b] 1).run Try.prog w = .ok (vi b) w := by
    simp [part, isAgg, run_underlying Try.underlying3]
  have c0 : ∀ (n : Nat) (x : Int), (Instr.checkKey em (n + 1) 3 (vi x)).run Try.prog w = .ok () w := fun n x => by
    rw [Instr.checkKey]
    simp only [Sem.run_bind, run_underlying Try.underlying3, Result.andThen_ok, Sem.run_pure]
  have c : ∀ x : Int, (Instr.checkKey em 9999 3 (vi x)).run Try.prog w = .ok () w := fun x => c0 9998 x
  unfold Instr.checkKey
  simp only [Sem.run_bind, run_underlying hu, Result.andThen_ok]
  simp [p0, p1, c]

def ent (x : Ent) : MapEntry := ⟨vb x.f x.o, .bool true, x.born⟩
def hit (f o : Int) (x : Ent) : Bool := f == x.f && o == x.o

theorem run_findAsking (f o : Int) : ∀ (l : List Ent) (i : Nat),
    (Instr.findAsking 34 (vb f o) (l.map ent) i).run Try.prog w = .ok ((l.findIdx? (hit f o)).map fun j => (i + j, Value.bool true)) w := by
  intro l
  induction l with
  | nil => intro i; simp [Instr.findAsking]
  | cons x l ih =>
    intro i
    simp only [List.map_cons, Instr.findAsking, Sem.run_bind, ent, run_eqBlock, Result.andThen_ok, List.findIdx?_cons]
    rw [show (f == x.f && o == x.o) = hit f o x from rfl]
    by_cases h : hit f o x = true
    · rw [if_pos h, if_pos h]
      simp
    · have := ih (i + 1)
      rw [if_neg h, if_neg h, this]
      congr 1
      simp only [Option.map_map]
      congr 1
      funext j
      simp only [Function.comp]
      rw [Nat.add_assoc, Nat.add_comm 1 j]

theorem findNow_none (f o : Int) (k : TypeDesc) (hk : ∀ ik, k ≠ .int ik) (hs : k ≠ .string) (hb : k ≠ .bool) (x : Ent) (l : List Ent) : Instr.findNow k (vb f o) ((x :: l).map ent) 0 = none := by
  simp only [List.map_cons, Instr.findNow, ent]
  have : Instr.sameNow k (vb f o) (vb x.f x.o) = none := by
    cases k <;> simp_all [Instr.sameNow]
  rw [this]

theorem run_findBlock (f o : Int) (l : List Ent) : (Instr.findKey 34 (vb f o) (l.map ent)).run Try.prog w = .ok ((l.findIdx? (hit f o)).map fun j => (j, Value.bool true)) w := by
  have hu : Try.prog.underlying 34 = some (.struct (Try.prog.fieldsOf 34)) := by kernel_rfl
  simp only [Instr.findKey, Sem.run_bind, run_underlying hu, Result.andThen_ok]
  cases l with
  | nil => simp [Instr.findNow]
  | cons x l =>
    rw [findNow_none f o _ (by intro ik; simp) (by simp) (by simp)]
    have := run_findAsking w f o (x :: l) 0
    simp only [Nat.zero_add] at this
    exact this

variable {w}
theorem run_getMap {hb clock : Nat} {es : Array MapEntry} (h : w.heap[hb]? = some (.map es clock)) : (getObj hb).run Try.prog w = .ok (.map es clock) w := by
  simp [getObj, Sem.run, h]
theorem run_setMap {hb clock clock' : Nat} {es es' : Array MapEntry} (h : w.heap[hb]? = some (.map es clock)) : (setObj hb (.map es' clock')).run Try.prog w = .ok () { w with heap := w.heap.setIfInBounds hb (.map es' clock') } := by
  simp [setObj, Sem.run, h]
theorem run_lookup_block (f o : Int) (l : List Ent) (clock hb : Nat) (h : w.heap[hb]? = some (.map (l.map ent).toArray clock)) :
    (Instr.lookup 64 (.map (some hb)) (vb f o) false).run Try.prog w = .ok (.bool (l.any (hit f o))) w := by
  cases e : l.findIdx? (hit f o) with
  | none =>
    have : l.any (hit f o) = false := by
      rw [List.findIdx?_eq_none_iff] at e
      rw [List.any_eq_false]
      intro x hx
      simpa using e x hx
    simp [Instr.lookup, run_underlying Try.underlying64, run_getMap h, run_checkBlock, run_findBlock, e, this]
  | some j =>
    have : l.any (hit f o) = true := by
      have := List.findIdx?_isSome (xs := l) (p := hit f o)
      rw [e] at this
      simpa using this.symm
    simp [Instr.lookup, run_underlying Try.underlying64, run_getMap h, run_checkBlock, run_findBlock, e, this]

theorem run_update_block (f o : Int) (l : List Ent) (clock hb : Nat) (h : w.heap[hb]? = some (.map (l.map ent).toArray clock)) (hn : l.any (hit f o) = false) :
    (Instr.mapUpdate 64 (.map (some hb)) (vb f o) (.bool true)).run Try.prog w = .ok () { w with heap := w.heap.setIfInBounds hb (.map ((l ++ [(⟨f, o, clock⟩ : Ent)]).map ent).toArray (clock + 1)) } := by
  have e : l.findIdx? (hit f o) = none := by
    rw [List.findIdx?_eq_none_iff]
    rw [List.any_eq_false] at hn
    intro x hx
    simpa using hn x hx
  simp only [Instr.mapUpdate, Sem.run_bind, run_underlying Try.underlying64, Result.andThen_ok, run_getMap h, run_checkBlock, run_findBlock, e, Option.map_none]
  rw [run_setMap h]
  simp [ent]

theorem run_delete_block (f o : Int) (l : List Ent) (clock hb : Nat) (h : w.heap[hb]? = some (.map (l.map ent).toArray clock)) (j : Nat) (hj : l.findIdx? (hit f o) = some j) (ty : TypeId) :
    (Builtin.delete_ #[64, 34] ty #[.map (some hb), vb f o]).run Try.prog w = .ok (.tuple #[]) { w with heap := w.heap.setIfInBounds hb (.map ((l.eraseIdx j).map ent).toArray clock) } := by
  have hlt : j < l.length := (List.findIdx?_eq_some_iff_getElem.1 hj).1
  have he : (l.map ent).toArray.eraseIdxIfInBounds j = ((l.eraseIdx j).map ent).toArray := by
    apply Array.toList_inj.1
    simp [List.eraseIdx_eq_take_drop_succ]
  simp only [Builtin.delete_, List.getElem?_toArray, List.getElem?_cons_zero, List.getElem?_cons_succ, Sem.run_bind, run_underlying Try.underlying64, Result.andThen_ok, run_getMap h, run_checkBlock, run_findBlock, hj, Option.map_some]
  rw [run_setMap h, he]
  rfl

theorem exec_lookup_block {a : Act} {o : Oper} (x y : Operand) (ho : o.op = .lookup 64 x y false) (f k : Int) (l : List Ent) (clock hb : Nat) (h : w.heap[hb]? = some (.map (l.map ent).toArray clock)) (hx : a.eval x = .map (some hb)) (hy : a.eval y = vb f k) :
    (execOp a.eval o).run Try.prog w = .ok (.value (.bool (l.any (hit f k)))) w := by
  unfold execOp
  simp only [ho, hx, hy, Sem.run_bind, run_lookup_block f k l clock hb h, Result.andThen_ok, Sem.run_pure]
end
end Go.Proofs.Ytglelfceogpbpaa
