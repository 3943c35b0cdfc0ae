/- slices.SortFunc of blocks, by their frames. -/
import Derived.Test.YtglelfceogpbpaaEnc
import Derived.Test.YtglelfceogpbpaaShelf
import Derived.Test.YtglelfceogpbpaaBuddy
namespace Go.Proofs.Ytglelfceogpbpaa
open Go.RowKit Go.Shelf Go.Lib Go.Sort

theorem Sat.mapBlock {z w : World} {F : List Chunk} {ch : Chunk} {b : Nat} {c : Array Value} {e : TypeId} {fr : Nat × Nat} (h : Sat z w (((b, .cells c e fr) :: ch) :: F)) (f : Array Value → Array Value) :
    Sat z (mapBlock w b f) (((b, .cells (f c) e fr) :: ch) :: F) := by
  have hb := h.sat b (.cells c e fr) (by simp)
  refine h.set_block rfl rfl rfl (by simp [Go.Sort.mapBlock]) ?_ (fun k hk => ?_)
  · simp [Go.Sort.mapBlock, Array.getElem?_modify, hb, onCells]
  · simp [Go.Sort.mapBlock, Array.getElem?_modify, Ne.symm hk]

theorem Sat.grow {z w : World} {F : List Chunk} (h : Sat z w F) (os : Array Obj) : Sat z (Go.Sort.grow w os) F := by
  refine ⟨h.os, h.tape, h.output, by have := h.size; simp [Go.Sort.grow]; omega, h.nd, fun b o hm => ?_⟩
  have hlt := h.lt hm
  have := h.sat b o hm
  simp only [Go.Sort.grow]
  rw [Array.getElem?_append_left hlt]
  exact this

section
variable {α : Type} [Inhabited α] {enc : α → List Value} {k : Nat}
theorem flatMap_get (hk : ∀ x, (enc x).length = k) (k0 : 0 < k) : ∀ (S : List α) (t : Nat), t < S.length * k → (S.flatMap enc)[t]! = (enc S[t / k]!)[t % k]! := by
  intro S
  induction S with
  | nil => intro t h; simp at h
  | cons x S ih =>
    intro t h
    rw [List.flatMap_cons]
    by_cases ht : t < k
    · rw [Nat.div_eq_of_lt ht, Nat.mod_eq_of_lt ht]
      simp [List.getElem?_append_left (show t < (enc x).length by rw [hk]; exact ht)]
    · obtain ⟨u, rfl⟩ : ∃ u, t = u + k := ⟨t - k, by omega⟩
      have hu : u < S.length * k := by simp only [List.length_cons, Nat.add_mul] at h; omega
      have := ih u hu
      rw [Nat.add_div_right _ k0, Nat.add_mod_right]
      simp only [List.getElem!_cons_succ]
      rw [← this]
      simp [List.getElem?_append_right (show (enc x).length ≤ u + k by rw [hk]; omega), hk]

theorem flatK_list (hk : ∀ x, (enc x).length = k) (k0 : 0 < k) (S : List α) : flatK enc k S.toArray = (S.flatMap enc).toArray := by
  have hl : (S.flatMap enc).length = S.length * k := by
    induction S with
    | nil => simp
    | cons x S ih => rw [List.flatMap_cons, List.length_append, ih, hk, List.length_cons, Nat.add_mul]; omega
  refine ext_get! (by simp [hl]) fun t ht => ?_
  have ht' : t < S.length * k := by simpa using ht
  rw [get_flatK _ _ _ _ (by simpa using ht')]
  have := flatMap_get hk k0 S t ht'
  simp only [List.getElem!_toArray]
  exact this.symm

theorem putCells_list (xs sp ys : List Value) (h : xs.length = ys.length) : putCells id 0 ys.toArray (xs ++ sp).toArray = (ys ++ sp).toArray := by
  apply Array.toList_inj.1
  apply List.ext_getElem
  · simp [putCells, h]
  · intro i h1 h2
    simp only [putCells, Nat.zero_le, true_and, Nat.zero_add, List.size_toArray, Nat.sub_zero, Array.toList_mapIdx, List.getElem_mapIdx]
    by_cases hi : i < ys.length
    · rw [if_pos hi]
      simp [hi]
    · rw [if_neg hi]
      simp [List.getElem_append_right (show ys.length ≤ i by omega), List.getElem_append_right (show xs.length ≤ i by omega), h]
end

theorem ltF (x y : Int × Int) : ltOf (fun x y : Int × Int => Lib.compareInt x.1 y.1) x y = decide (x.1 < y.1) := by
  unfold ltOf Lib.compareInt
  by_cases h1 : x.1 < y.1
  · simp [h1]
  · by_cases h2 : y.1 < x.1 <;> simp [h1, h2]

theorem swoF : SWO (ltOf fun x y : Int × Int => Lib.compareInt x.1 y.1) where
  irrefl x := by rw [ltF]; simp
  trans x y z h1 h2 := by rw [ltF] at *; simp at *; omega
  ntrans x y z h1 h2 := by rw [ltF] at *; simp at *; omega

theorem isNaN_ok (x : Int) (w : World) : Calls Try.prog 58 #[vi x] w fun e w' => e = .returned (.bool false) ∧ w' = w := by
  go_enter Try.func58, Try.ntmps58
  go_wp2
  go_ret
  exact ⟨by simp, rfl⟩

theorem cmp_ok (x y : Int) (w : World) : Calls Try.prog 43 #[vi x, vi y] w fun e w' => e = .returned (vi (Lib.compareInt x y)) ∧ w' = w := by
  go_enter Try.func43, Try.ntmps43
  go_wp2_with (go_at_call 58; refine (isNaN_ok _ _).mono ?_; rintro e w' ⟨rfl, rfl⟩)
  all_goals (go_ret; refine ⟨?_, rfl⟩; unfold Lib.compareInt; (repeat' split) <;> first | rfl | (exfalso; omega))

theorem by_ok (x y : Int × Int) (W : World) : Calls Try.prog 31 #[.agg #[vi x.1, vi x.2], .agg #[vi y.1, vi y.2]] W fun e w' => e = .returned (vi (Lib.compareInt x.1 y.1)) ∧ ∃ os', w' = Go.Sort.grow W os' := by
  have hc := fun w => cmp_ok x.1 y.1 w
  generalize Lib.compareInt x.1 y.1 = r at hc ⊢
  go_enter Try.func31, Try.ntmps31
  go_wp2_with (go_at_call 43; refine (hc _).mono ?_; rintro e w' ⟨rfl, rfl⟩)
  go_ret
  exact ⟨rfl, _, by rw [alloc_eq_grow, alloc_eq_grow, grow_grow]⟩

theorem cloH_ok (x y : Int × Int) (W : World) : Calls Try.prog 30 #[.agg #[vi x.1, vi x.2], .agg #[vi y.1, vi y.2]] W fun e w' => e = .returned (vi (Lib.compareInt x.1 y.1)) ∧ ∃ q os', w' = Go.Sort.grow (W.drewN q) os' := by
  have hc := fun w => by_ok x y w
  generalize Lib.compareInt x.1 y.1 = r at hc ⊢
  go_enter Try.func30, Try.ntmps30
  go_wp2_with (go_at_call 31; refine (hc _).mono ?_; rintro e w' ⟨rfl, os, rfl⟩)
  go_ret
  exact ⟨rfl, 0, _, by rw [alloc_eq_grow, alloc_eq_grow, grow_grow, grow_grow]; rfl⟩

theorem cloB_ok (x y : Int × Int) (W : World) : Calls Try.prog 35 #[.agg #[vi x.1, vi x.2], .agg #[vi y.1, vi y.2]] W fun e w' => e = .returned (vi (Lib.compareInt x.1 y.1)) ∧ ∃ q os', w' = Go.Sort.grow (W.drewN q) os' := by
  have hc := fun w => by_ok x y w
  generalize Lib.compareInt x.1 y.1 = r at hc ⊢
  go_enter Try.func35, Try.ntmps35
  go_wp2_with (go_at_call 31; refine (hc _).mono ?_; rintro e w' ⟨rfl, os, rfl⟩)
  go_ret
  exact ⟨rfl, 0, _, by rw [alloc_eq_grow, alloc_eq_grow, grow_grow, grow_grow]; rfl⟩

section
variable {z w : World} {F : List Chunk} {R : CRow}
/-- what the sort leaves -/
theorem sort_ok (hs : Sat z w (R.hp 34 :: F)) (hok : R.ok 2) (S : List (Int × Int)) (hS : R.xs = S.flatMap encB) (hn : R.n = S.length) (hlt : S.length ≤ 1000000) (g : Nat)
    (eg : ∀ args w, (callFunc g args).run Try.prog w = .ok (.enter g args) w)
    (hg : ∀ (x y : Int × Int) (W : World), Calls Try.prog g #[.agg #[vi x.1, vi x.2], .agg #[vi y.1, vi y.2]] W fun e w' => e = .returned (vi (Lib.compareInt x.1 y.1)) ∧ ∃ q os', w' = Go.Sort.grow (W.drewN q) os') :
    Calls Try.prog 29 #[R.val, .func (.func g) #[] #[]] w fun e w' => e = .returned (.tuple #[]) ∧ ∃ S' : List (Int × Int), S'.Perm S ∧ S'.Pairwise (fun x y => x.1 ≤ y.1) ∧
      Sat z w' (CRow.hp 34 { R with xs := S'.flatMap encB } :: F) := by
  obtain hb | ⟨b, hb⟩ : R.b = none ∨ ∃ b, R.b = some b := by cases R.b <;> simp
  · skip
    have h0 := hok.nil hb
    have hS0 : S = [] := List.length_eq_zero_iff.1 (by omega)
    have hv : R.val = .slice none 0 0 := by simp [CRow.val, hb]
    rw [hv]
    refine (AnyF.slices_SortFunc_none Try.laysSort none 0 (.func (.func g) #[] #[]) w).mono ?_
    rintro e w' ⟨rfl, rfl⟩
    refine ⟨rfl, [], by rw [hS0], List.Pairwise.nil, ?_⟩
    have : (CRow.hp 34 { R with xs := ([] : List (Int × Int)).flatMap encB }) = R.hp 34 := by simp [CRow.hp, hb]
    rw [this]
    exact hs
  · skip
    have hv : R.val = .slice (some ⟨b, 0, none⟩) S.toArray.size R.cap := by simp [CRow.val, hb, hn]
    have hhp : R.hp 34 = [(b, .cells (R.xs ++ R.sp).toArray 34 (0, 0))] := by simp [CRow.hp, hb]
    have hfl := fun S : List (Int × Int) => flatK_list (enc := encB) (k := 2) (fun _ => rfl) (by omega) S
    rw [hhp] at hs
    have hH : HoldsK encB 2 w b 0 S.toArray := by
      intro j hj
      rw [hfl, ← hS] at hj ⊢
      have hj' : j < R.xs.length := by simpa using hj
      refine ⟨?_, hs.frozen (c := (R.xs ++ R.sp).toArray) (e := 34) (by simp)⟩
      rw [hs.cell (b := b) (i := 0 + j) (c := (R.xs ++ R.sp).toArray) (e := 34) (fr := (0, 0)) (by simp)]
      simp [List.getElem?_append_left hj', hj']
    have hcon := AnyQ.slices_SortFunc Try.laysSort 2 Try.isAgg34 Try.sizeOf34 encB (fun _ => rfl) (fun x v hv => by simp [encB] at hv; rcases hv with rfl | rfl <;> rfl) (fun x y => Lib.compareInt x.1 y.1) swoF g #[] b 0 R.cap S.toArray w eg
      (fun _ _ _ _ x y => hg x y _) hH (hs.lt (o := .cells (R.xs ++ R.sp).toArray 34 (0, 0)) (by simp)) (by simp; omega)
    rw [hv]
    refine Calls.mono hcon ?_
    rintro e w' ⟨rfl, d', n, os, hp, hso, rfl⟩
    have hperm : d'.toList.Perm S := by
      have h2 := hp.2.2
      have h1 : d'.size = S.length := by simpa using hp.1
      have e1 : (d'.extract 0 S.toArray.size).toList = d'.toList := by
        rw [show S.toArray.size = d'.size by simp [h1]]
        simp
      have e2 : (S.toArray.extract 0 S.toArray.size).toList = S := by simp
      rwa [e1, e2] at h2
    refine ⟨rfl, d'.toList, hperm, ?_, ?_⟩
    · rw [List.pairwise_iff_getElem]
      intro i j hi hj hij
      have := hso i j (Nat.zero_le _) hij (by rw [← hp.1]; simpa using hj)
      rw [ltF] at this
      simp only [decide_eq_false_iff_not, Int.not_lt] at this
      have hi' : i < d'.size := by simpa using hi
      have hj' : j < d'.size := by simpa using hj
      rw [getElem!_pos d' i hi', getElem!_pos d' j hj'] at this
      simpa using this
    · have e1 : (CRow.hp 34 { R with xs := d'.toList.flatMap encB }) = [(b, .cells (d'.toList.flatMap encB ++ R.sp).toArray 34 (0, 0))] := by simp [CRow.hp, hb]
      rw [e1]
      unfold sortWorldK putRowK putRow
      refine Sat.grow ?_ os
      have hd : flatK encB 2 d' = (d'.toList.flatMap encB).toArray := by
        have := hfl d'.toList
        simpa using this
      have h1 := Sat.mapBlock (b := b) (ch := []) (c := (R.xs ++ R.sp).toArray) (e := 34) (fr := (0, 0)) (w := Go.Sort.ahead w n) (hs.drewN n) (putCells id 0 (flatK encB 2 d'))
      rw [hd, putCells_list _ _ _ (by
        rw [hS, encB_len, encB_len, hperm.length_eq])] at h1
      rw [hd]
      exact h1

theorem sortB (hs : Sat z w (R.hp 34 :: F)) (hok : R.ok 2) (S : List (Int × Int)) (hS : R.xs = S.flatMap encB) (hn : R.n = S.length) (hlt : S.length ≤ 1000000) :
    Calls Try.prog 29 #[R.val, .func (.func 35) #[] #[]] w fun e w' => e = .returned (.tuple #[]) ∧ ∃ S' : List (Int × Int), S'.Perm S ∧ S'.Pairwise (fun x y => x.1 ≤ y.1) ∧
      Sat z w' (CRow.hp 34 { R with xs := S'.flatMap encB } :: F) :=
  sort_ok hs hok S hS hn hlt _ (enters_of Try.func35 (by kernel_rfl) rfl) cloB_ok
theorem sortH (hs : Sat z w (R.hp 34 :: F)) (hok : R.ok 2) (S : List (Int × Int)) (hS : R.xs = S.flatMap encB) (hn : R.n = S.length) (hlt : S.length ≤ 1000000) :
    Calls Try.prog 29 #[R.val, .func (.func 30) #[] #[]] w fun e w' => e = .returned (.tuple #[]) ∧ ∃ S' : List (Int × Int), S'.Perm S ∧ S'.Pairwise (fun x y => x.1 ≤ y.1) ∧
      Sat z w' (CRow.hp 34 { R with xs := S'.flatMap encB } :: F) :=
  sort_ok hs hok S hS hn hlt _ (enters_of Try.func30 (by kernel_rfl) rfl) cloH_ok
end
end Go.Proofs.Ytglelfceogpbpaa
