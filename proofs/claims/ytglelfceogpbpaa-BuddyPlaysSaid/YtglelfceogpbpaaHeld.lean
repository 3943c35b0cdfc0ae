/- buddy.Held: a loop over the map. -/
import Derived.Test.YtglelfceogpbpaaBlocks
import Derived.Test.YtglelfceogpbpaaMap
import Derived.Laws.IdiomRangeMap
namespace Go.Proofs.Ytglelfceogpbpaa
open Go.RowKit Go.Shelf

section
variable {P : Program} {w : World}
/-- a step of a loop over a map that stands as it stood when the loop began -/
theorem run_next_any {it bm since c0 : Nat} {seen : Array Nat} {es : Array MapEntry} {clock : Nat} (hi : w.heap[it]? = some (.mapIter (some bm) since seen c0)) (hb : w.heap[bm]? = some (.map es clock)) (hold : ∀ x ∈ es.toList, x.born < since) (hsc : since ≤ c0) :
    ((leftOf es seen).size = 0 ∧ ∀ ty, (Instr.next (.pointer (some ⟨it, 0, none⟩)) false ty).run P w = .ok (.tuple #[.bool false]) w) ∨
    ∃ e ∈ (leftOf es seen).toList, ∃ w1 : World, (w1 = w ∨ w1 = w.drew) ∧ ∀ ty, (Instr.next (.pointer (some ⟨it, 0, none⟩)) false ty).run P w = .ok (.tuple #[.bool true, e.key, e.val]) { w1 with heap := w1.heap.setIfInBounds it (.mapIter (some bm) since (seen.push e.born) clock) } := by
  have hgm : ∀ (b : Nat) es c, w.heap[b]? = some (.map es c) → (getObj b).run P w = .ok (.map es c) w := fun b _ _ h => by simp [getObj, Sem.run, h]
  have hgi : ∀ (b : Nat) a c d e, w.heap[b]? = some (.mapIter a c d e) → (getObj b).run P w = .ok (.mapIter a c d e) w := fun b _ _ _ _ h => by simp [getObj, Sem.run, h]
  simp only [Instr.next, Sem.run_bind, hgi _ _ _ _ _ hi, hgm _ _ _ hb, Result.andThen_ok, next_test_false seen es since c0 hold hsc, Bool.false_eq_true, if_false]
  unfold leftOf
  have hmem : ∀ x ∈ (Array.filter (fun e => !seen.contains e.born) es).toList, x.born < since := fun x hx => hold x (by simp at hx ⊢; exact hx.1)
  generalize Array.filter (fun e => !seen.contains e.born) es = L at hmem ⊢
  have e1 : L.filter (fun x => decide (x.born < since)) = L := Array.filter_eq_self.2 (fun x hx => by simpa using hmem x (by simpa using hx))
  have e2 : L.filter (fun x => decide (x.born ≥ since)) = #[] := by
    rw [Array.filter_eq_empty_iff]
    intro x hx
    have := hmem x (by simpa using hx)
    simp
    omega
  simp only [e1, e2, Array.append_empty]
  by_cases h0 : L.size = 0
  · left
    have : L = #[] := Array.eq_empty_of_size_eq_zero h0
    subst this
    refine ⟨rfl, ?_⟩
    simp [choose, Sem.run, Question.forced]
  · right
    have hne : L.isEmpty = false := by simp [Array.isEmpty, h0]
    simp only [hne, Bool.false_eq_true, if_false, Array.empty_append, Array.size_map]
    have hch : ∃ (j : Nat) (w1 : World), j < L.size ∧ (w1 = w ∨ w1 = w.drew) ∧ (choose (Question.mapNext L.size)).run P w = .ok j w1 := by
      by_cases hf : L.size ≤ 1
      · exact ⟨0, w, by omega, .inl rfl, by simp [choose, Sem.run, Question.forced, hf]⟩
      · exact ⟨_, w.drew, Nat.mod_lt _ (by omega), .inr rfl, by
          simp only [choose, Sem.run, Question.forced, decide_eq_true_eq, hf, if_false, Question.cut]
          rfl⟩
    obtain ⟨j, w1, hj, hal, hrun⟩ := hch
    refine ⟨L[j], by simp, w1, hal, ?_⟩
    have hi1 : w1.heap[it]? = some (.mapIter (some bm) since seen c0) := by
      rcases hal with rfl | rfl
      · exact hi
      · exact hi
    have hset : ∀ (o' : Obj), (setObj it o').run P w1 = .ok () { w1 with heap := w1.heap.setIfInBounds it o' } := fun o' => by
      simp only [setObj, Sem.run, hi1]
    intro ty
    simp only [hrun, Array.getElem?_map, Array.getElem?_eq_getElem hj, Option.map_some, Sem.run_bind, hset, Result.andThen_ok]
    rfl

theorem run_entry_any {it bm since : Nat} {seen : Array Nat} {es : Array MapEntry} {clock : Nat} {e : MapEntry} (hi : w.heap[it]? = some (.mapIter (some bm) since (seen.push e.born) clock)) (hb : w.heap[bm]? = some (.map es clock)) (he : e ∈ es.toList) (hn : (es.toList.map (·.born)).Nodup) :
    (Instr.entry (.pointer (some ⟨it, 0, none⟩))).run P w = .ok (.tuple #[e.key, e.val]) w := by
  have hgm : ∀ (b : Nat) es c, w.heap[b]? = some (.map es c) → (getObj b).run P w = .ok (.map es c) w := fun b _ _ h => by simp [getObj, Sem.run, h]
  have hgi : ∀ (b : Nat) a c d e, w.heap[b]? = some (.mapIter a c d e) → (getObj b).run P w = .ok (.mapIter a c d e) w := fun b _ _ _ _ h => by simp [getObj, Sem.run, h]
  have hf : es.find? (·.born == e.born) = some e := by rw [← Array.find?_toList]; exact find_born e es.toList hn he
  simp only [Instr.entry, Sem.run_bind, hgi _ _ _ _ _ hi, hgm _ _ _ hb, Result.andThen_ok, Array.back?_push, bne_self_eq_false, Bool.false_eq_true, if_false, hf]
  rfl
end

structure Bd.stamped (B : Bd) : Prop where
  lt : ∀ x ∈ B.ents, x.born < B.clock
  nd : (B.ents.map (·.born)).Nodup

def Bd.es (B : Bd) : Array MapEntry := (B.ents.map ent).toArray
theorem Bd.es_nd {B : Bd} (h : B.stamped) : (B.es.toList.map (·.born)).Nodup := by
  have : B.es.toList.map (·.born) = B.ents.map (·.born) := by simp [Bd.es, ent, Function.comp_def]
  rw [this]; exact h.nd
theorem Bd.es_lt {B : Bd} (h : B.stamped) : ∀ x ∈ B.es.toList, x.born < B.clock := by
  intro x hx
  simp only [Bd.es, List.mem_map] at hx
  obtain ⟨y, hy, rfl⟩ := hx
  exact h.lt y hy
theorem born_ent {l : List Ent} (hn : (l.map (·.born)).Nodup) {x e : Ent} (hx : x ∈ l) (he : e ∈ l) (h : x.born = e.born) : x = e := by
  induction l with
  | nil => simp at hx
  | cons y l ih =>
    simp only [List.map_cons, List.nodup_cons] at hn
    rcases List.mem_cons.1 hx with e1 | hx
    · rcases List.mem_cons.1 he with e2 | he
      · rw [e1, e2]
      · exact (hn.1 (List.mem_map.2 ⟨e, he, by rw [← h, e1]⟩)).elim
    · rcases List.mem_cons.1 he with e2 | he
      · exact (hn.1 (List.mem_map.2 ⟨x, hx, by rw [h, e2]⟩)).elim
      · exact ih hn.2 hx he

theorem nodup_of_map {α β : Type} {f : α → β} {l : List α} (h : (l.map f).Nodup) : l.Nodup := by
  refine (List.pairwise_map.1 h).imp ?_
  intro a b hab e
  exact hab (by rw [e])
theorem nat_sub_len : ∀ (T l : List Nat), T.Nodup → (∀ x ∈ T, x ∈ l) → T.length ≤ l.length := by
  intro T
  induction T with
  | nil => intro l _ _; simp
  | cons a T ih =>
    intro l h1 h2
    obtain ⟨n1, n2⟩ := List.nodup_cons.1 h1
    have ha := h2 a (by simp)
    have := ih (l.erase a) n2 (fun x hx => by
      have hne : x ≠ a := fun e => n1 (by rw [← e]; exact hx)
      exact (List.mem_erase_of_ne hne).2 (h2 x (by simp [hx])))
    rw [List.length_erase_of_mem ha] at this
    have := List.length_pos_of_mem ha
    simp only [List.length_cons]
    omega
theorem nodup_sub_len {T l : List Ent} (h1 : (T.map (·.born)).Nodup) (h2 : ∀ x ∈ T, x ∈ l) : T.length ≤ l.length := by
  have := nat_sub_len (T.map (·.born)) (l.map (·.born)) h1 (fun x hx => by
    obtain ⟨y, hy, rfl⟩ := List.mem_map.1 hx
    exact List.mem_map.2 ⟨y, h2 y hy, rfl⟩)
  simpa using this

abbrev fo (x : Ent) : Int × Int := (x.f, x.o)

section
variable {z w : World} {F : List Chunk} {B : Bd}
set_option maxRecDepth 100000 in
theorem held_ok (hs : Sat z w (B.hp :: F)) (hok : B.ok) (hst : B.stamped) (hle : B.ents.length ≤ 300) :
    Calls Try.prog 8 #[.pointer (some ⟨B.p, 0, none⟩)] w fun e w' => ∃ (R : CRow) (S : List (Int × Int)), e = .returned R.val ∧ R.ok 2 ∧ R.n = S.length ∧ R.xs = S.flatMap encB ∧ S.Perm (B.ents.map fo) ∧ S.Pairwise (fun x y => x.1 ≤ y.1) ∧
      Sat z w' (R.hp 34 :: B.hp :: F) := by
  have h9 := hok.nine
  have cm : w.cell? ⟨B.p, 10, none⟩ = some (.map (some B.hb)) := by
    rw [hs.cell (b := B.p) (i := 10) (c := B.cells.toArray) (e := 66) (fr := (0, 0)) (by simp [Bd.hp, Bd.main])]
    simp [Bd.cells, h9]
  have hmap : w.heap[B.hb]? = some (.map B.es B.clock) := hs.block (o := B.mapObj) (by simp [Bd.hp])
  have hrg := run_range_map (P := Try.prog) w 64 34 4 B.hb B.es B.clock Try.underlying64 hmap
  have hA := hs.allocd (.mapIter (some B.hb) B.clock #[] B.clock)
  go_enter Try.func8, Try.ntmps8
  go_wp2_with fail
  generalize w.heap.size = it at *
  generalize w.alloc (.mapIter (some B.hb) B.clock #[] B.clock) = w1 at *
  have HA := Lib.hid hA
  clear hA hrg hmap cm
  go_loopg [3] B.ents.length (fun k o wr => ∃ (seen : Array Nat) (R : CRow) (T : List Ent), o = R.val ∧ (leftOf B.es seen).size ≤ k ∧ R.ok 2 ∧ Hid (R.n = T.length ∧ R.xs = (T.map fo).flatMap encB ∧ (∀ x ∈ T, x ∈ B.ents) ∧ T.map (·.born) = seen.toList ∧ (T.map (·.born)).Nodup) ∧
    Sat z wr (R.hp 34 :: [(it, .mapIter (some B.hb) B.clock seen B.clock)] :: B.hp :: F))
  case atStart =>
    refine ⟨#[], CRow.empty, [], rfl, ?_, CRow.empty_ok 2, ⟨rfl, rfl, by simp, by simp, by simp⟩, HA.out.nil⟩
    have := Array.size_filter_le (p := fun e : MapEntry => !(#[] : Array Nat).contains e.born) (xs := B.es)
    unfold leftOf
    simpa [Bd.es] using this
  case round =>
    obtain ⟨seen, R, T, rfl, hkl, hRok, HR, hws⟩ := hrel
    have hmap : wr.heap[B.hb]? = some (.map B.es B.clock) := hws.block (o := B.mapObj) (by simp [Bd.hp])
    have hit : wr.heap[it]? = some (.mapIter (some B.hb) B.clock seen B.clock) := hws.block (by simp)
    have law := run_next_any (P := Try.prog) hit hmap (Bd.es_lt hst) (Nat.le_refl _)
    have Hws := Lib.hid hws
    clear hws hmap hit
    rcases law with ⟨h0, hnx⟩ | ⟨e, he, w2, hw2, hnx⟩
    · have H0 := Lib.hid h0
      have hTl : T.length ≤ 300 := by
        have := nodup_sub_len HR.out.2.2.2.2 HR.out.2.2.1
        omega
      have hcon := sortH Hws.out hRok (T.map fo) HR.out.2.1 (by rw [List.length_map]; exact HR.out.1) (by rw [List.length_map]; omega)
      have Hcon := Lib.hid hcon
      clear hkl h0 hcon
      go_wp2_with (go_at_call 29; refine Hcon.out.mono ?_; rintro e w6 ⟨rfl, S, hp, hso, h7⟩)
      go_ret
      have hl2 : S.length = R.n := by rw [HR.out.1, hp.length_eq, List.length_map]
      refine ⟨{ R with xs := S.flatMap encB }, S, rfl, ⟨hRok.nil, by rw [encB_len, hl2], hRok.le, hRok.big, ?_⟩, hl2.symm, rfl, ?_, hso, Sat.sel [_, _, _] 3 [0, 2] h7 rfl (by decide)⟩
      · have := hRok.all
        rw [hRok.len] at this
        show (S.flatMap encB).length + R.sp.length = R.cap * 2
        rw [encB_len, hl2]
        exact this
      · refine hp.trans (List.Perm.map _ ?_)
        refine (List.perm_ext_iff_of_nodup (nodup_of_map HR.out.2.2.2.2) (nodup_of_map hst.nd)).2 fun x => ⟨HR.out.2.2.1 x, fun hx => ?_⟩
        have hsn := all_seen B.es seen H0.out (ent x) (by simp only [Bd.es]; exact List.mem_map.2 ⟨x, hx, rfl⟩)
        have hsn' : x.born ∈ seen.toList := by simpa [ent] using hsn
        rw [← HR.out.2.2.2.1] at hsn'
        obtain ⟨y, hy, e⟩ := List.mem_map.1 hsn'
        have := born_ent hst.nd (HR.out.2.2.1 y hy) hx e
        rwa [← this]
    · obtain ⟨hm1, hm2⟩ := mem_left he
      obtain ⟨x, hx, rfl⟩ : ∃ x ∈ B.ents, ent x = e := by simpa [Bd.es] using hm1
      have hsh := left_shrinks B.es seen (ent x) he
      have hs2 : Sat z { w2 with heap := w2.heap.setIfInBounds it (.mapIter (some B.hb) B.clock (seen.push x.born) B.clock) } ([(it, .mapIter (some B.hb) B.clock (seen.push x.born) B.clock)] :: R.hp 34 :: B.hp :: F) := by
        rcases hw2 with rfl | rfl
        · exact Hws.out.swap.setObj
        · exact Hws.out.swap.drew.setObj
      have hen := run_entry_any (P := Try.prog) (e := ent x) (hs2.block (o := .mapIter (some B.hb) B.clock (seen.push x.born) B.clock) (b := it) (by simp)) (hs2.block (o := B.mapObj) (b := B.hb) (by simp [Bd.hp])) hm1 (Bd.es_nd hst)
      change ∀ ty, (Instr.next (.pointer (some ⟨it, 0, none⟩)) false ty).run Try.prog wr = .ok (.tuple #[.bool true, vb x.f x.o, .bool true]) { w2 with heap := w2.heap.setIfInBounds it (.mapIter (some B.hb) B.clock (seen.push x.born) B.clock) } at hnx
      change _ = Result.ok (Value.tuple #[vb x.f x.o, .bool true]) _ at hen
      generalize ({ w2 with heap := w2.heap.setIfInBounds it (.mapIter (some B.hb) B.clock (seen.push x.born) B.clock) } : World) = w3 at *
      have hA3 := hs2.allocd (.cells #[vi x.f, vi x.o] 34)
      have hA4 : Sat z _ (R.hp 34 :: [(it, .mapIter (some B.hb) B.clock (seen.push x.born) B.clock)] :: B.hp :: F) := Sat.sel [_, _, _] 3 [2, 1] (hA3.alloc (.cells #[vi x.f, vi x.o] 34)) rfl (by decide)
      have Hkl := Lib.hid hkl
      have He := Lib.hid he
      have Hm2 := Lib.hid hm2
      have Hx := Lib.hid hx
      have Hsh := Lib.hid hsh
      have HA4 := Lib.hid hA4
      clear hkl he hm1 hm2 hx hsh hA3 hA4 hs2 hw2
      have hTl : T.length ≤ 300 := by
        have := nodup_sub_len HR.out.2.2.2.2 HR.out.2.2.1
        omega
      obtain ⟨bi, bz, b1, b2, b3, b4, b5⟩ := infoB
      have Hnw := Lib.hid (World.news_of_block (heap_alloc_new (w3.alloc (.cells #[vi x.f, vi x.o] 34)) (.cells #[vi x.f, vi x.o] 34)))
      have Hoc : ∀ u ∈ [vi x.f, vi x.o], u.oneCell' = true := by simp; exact ⟨rfl, rfl⟩
      have Hb1 : R.n + 1 ≤ maxLen := by rw [HR.out.1]; simp only [maxLen]; omega
      have Hb2 : (R.n + 1) * 16 ≤ 140737488355328 := by rw [HR.out.1]; omega
      have Hse := Lib.hid (show (w3.alloc (.cells #[vi x.f, vi x.o] 34)).heap.size = w3.heap.size + 1 by simp)
      rw [Hse.out] at Hnw
      go_wp2_with (at_builtin; go_loud (refine CRow.wpList_append (o := ⟨some 17, _, _, _, _, _⟩) (size := 2) HA4.out hRok (.tmp 14) (.tmp 16) 28 rfl rfl bi bz 16 Try.underlying28 b1 b2 b3 b4 b5 (by decide) rfl ⟨w3.heap.size + 1, 0, none⟩ 1 1 [vi x.f, vi x.o] rfl rfl Hnw.out Hoc (by decide) Hb1 Hb2 ?_); intro R' w6 hok' hn' hx' h7)
      go_roundg (leftOf B.es (seen.push x.born)).size
      case measure => have h1 := Hsh.out; have h2 := Hkl.out; exact Nat.lt_of_lt_of_le h1 h2
      case rel =>
        obtain ⟨q1, q2, q3, q4, q5⟩ := HR.out
        refine ⟨seen.push x.born, R', T ++ [x], rfl, Nat.le_refl _, hok', Lib.hid ⟨by rw [hn', q1]; simp, by rw [hx', q2]; simp, ?_, by simp [q4], ?_⟩, h7⟩
        · intro y hy
          rcases List.mem_append.1 hy with h | h
          · exact q3 y h
          · rw [List.mem_singleton.1 h]; exact Hx.out
        · have hnot : x.born ∉ T.map (·.born) := by
            rw [q4]
            have : seen.contains x.born = false := Hm2.out
            simpa using this
          rw [List.map_append, List.nodup_append]
          refine ⟨q5, by simp, ?_⟩
          intro a ha b hb e
          simp only [List.map_cons, List.map_nil, List.mem_singleton] at hb
          exact hnot (by rw [← hb, ← e]; exact ha)
end
end Go.Proofs.Ytglelfceogpbpaa
