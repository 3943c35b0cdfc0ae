/- buddy.Free -/
import Derived.Test.YtglelfceogpbpaaAlloc
import Derived.Test.YtglelfceogpbpaaBits
namespace Go.Proofs.Ytglelfceogpbpaa
open Go.RowKit Go.Shelf

section
variable {z w : World} {F : List Chunk} {B : Bd} {M : Mem}

set_option maxRecDepth 100000 in
theorem free_none (hs : Sat z w (B.hp :: F)) (hok : B.ok) (f o : Int) (hn : B.ents.any (hit f o) = false) :
    Calls Try.prog 9 #[.pointer (some ⟨B.p, 0, none⟩), .int .i64 f, .int .i64 o] w fun e w' => e = .returned (.int .i64 2) ∧ Sat z w' (B.hp :: F) := by
  have h1 := hs.allocd (.cells #[vi f, vi o] 34)
  have H1 := Lib.hid h1
  clear h1
  go_enter Try.func9, Try.ntmps9
  go_wp2_with fail
  generalize hbx : w.heap.size = bx at *
  generalize w.alloc (.cells #[.int .i64 f, .int .i64 o] 34) = w1 at *
  have d0 := H1.out.drew.cell (b := bx) (i := 0) (c := #[vi f, vi o]) (e := 34) (fr := (0, 0)) (by simp)
  have d1 := H1.out.drew.cell (b := bx) (i := 1) (c := #[vi f, vi o]) (e := 34) (fr := (0, 0)) (by simp)
  have hop := Bd.opens_map H1.out.drew.swap
  have cm := Bd.c_map (Sat.sel [_, _, _, _] 4 [1] hop rfl (by decide)) hok.nine
  have hmap := Bd.h_map hop
  refine wp_region_plan (fun w' => w'.cell? ⟨bx, 0, none⟩ = some (vi f) ∧ w'.cell? ⟨bx, 1, none⟩ = some (vi o) ∧ w'.cell? ⟨B.p, 10, none⟩ = some (.map (some B.hb)) ∧ w'.heap[B.hb]? = some B.mapObj) [(0, false), (1, false), (2, false), (3, false), (4, false), (5, false), (6, false)] (by kernel_rfl) (by kernel_rfl) ⟨by simpa using d0, by simpa using d1, cm, hmap⟩ ?_
  clear d0 d1 hop cm hmap
  refine wpPlan_q (v := ?_) rfl rfl ?_ ?_; rotate_left 1; · (intro wS hS; go_simp; try with_reducible rfl)
  simp only [Act.put, List.setIfInBounds_toArray, List.set_cons_zero, List.set_cons_succ]
  refine wpPlan_q (v := ?_) rfl rfl ?_ ?_; rotate_left 1; · (intro wS hS; go_simp; try with_reducible rfl)
  simp only [Act.put, List.setIfInBounds_toArray, List.set_cons_zero, List.set_cons_succ]
  refine wpPlan_q (v := ?_) rfl rfl ?_ ?_; rotate_left 1; · (intro wS hS; go_simp; try with_reducible rfl)
  simp only [Act.put, List.setIfInBounds_toArray, List.set_cons_zero, List.set_cons_succ]
  refine wpPlan_q (v := ?_) rfl rfl ?_ ?_; rotate_left 1; · (intro wS hS; go_simp; try with_reducible rfl)
  simp only [Act.put, List.setIfInBounds_toArray, List.set_cons_zero, List.set_cons_succ]
  refine wpPlan_q (v := ?_) rfl rfl ?_ ?_; rotate_left 1; · (intro wS hS; go_simp; try with_reducible rfl)
  simp only [Act.put, List.setIfInBounds_toArray, List.set_cons_zero, List.set_cons_succ]
  refine wpPlan_q (v := .bool false) rfl rfl (fun wS hS => (exec_lookup_block (.tmp 15) (.tmp 16) rfl f o B.ents B.clock B.hb hS.2.2.2 rfl rfl).trans (by rw [hn])) ?_
  simp only [Act.put, List.setIfInBounds_toArray, List.set_cons_zero, List.set_cons_succ]
  refine wpPlan_q (v := ?_) rfl rfl ?_ ?_; rotate_left 1; · (intro wS hS; go_simp; try with_reducible rfl)
  simp only [Act.put, List.setIfInBounds_toArray, List.set_cons_zero, List.set_cons_succ]
  refine wpPlan_nil (NoPanic.normal ?_)
  go_wp2
  go_ret
  exact ⟨rfl, H1.out.drop.drew⟩

theorem wp_delete_run (w : World) {o : Oper} {a : Act} {K : Act → World → Prop} {Q : Exit → Act → World → Prop} (d s : Operand) (t t' : TypeId)
    (ho : o.op = .call { callee := .builtin .delete, args := #[d, s], argTypes := #[t, t'] }) (v u : Value) (hd : a.eval d = v) (hs : a.eval s = u) {v' : Value} {w' : World}
    (hr : (Builtin.delete_ #[t, t'] o.type #[v, u]).run Try.prog w = .ok v' w') (h : K (a.put o.dst v') w') : Oper.wp Try.prog o a w K Q := by
  unfold Oper.wp execOp
  simp only [ho, resolve, invoke, builtin, Sem.run_bind, Sem.run_pure, Result.andThen_ok, List.map_toArray, List.map_cons, List.map_nil, hd, hs, hr]
  exact h

set_option maxRecDepth 100000 in
theorem free_ok (hs : Sat z w (B.hp :: M.hp :: F)) (hok : B.ok) (hM : M.ok) (hmp : B.mp = M.p) (f o : Nat) (ho : o ≤ 8) (hf : f < 512) (j : Nat) (hj : B.ents.findIdx? (hit f o) = some j) (hhas : M.has f ((2 ^ o : Nat) : Int) = true)
    (hr : ∀ k, k ≤ 8 → Rising (B.L k)) (hl : ∀ k, k ≤ 8 → (B.L k).length ≤ 1000000) :
    Calls Try.prog 9 #[.pointer (some ⟨B.p, 0, none⟩), .int .i64 f, .int .i64 o] w fun e w' => ∃ B' : Bd, e = .returned (.int .i64 0) ∧ B'.ok ∧ B'.p = B.p ∧ B'.mp = B.mp ∧ B'.ents = B.ents.eraseIdx j ∧ B'.clock = B.clock ∧
      (∀ i, B'.L i = freed B.L f o i) ∧ Sat z w' (B'.hp :: (M.scrub f ((2 ^ o : Nat) : Int)).hp :: F) := by
  have hany : B.ents.any (hit f o) = true := by
    have := List.findIdx?_isSome (xs := B.ents) (p := hit f o)
    rw [hj] at this
    simpa using this.symm
  have h1 := hs.allocd (.cells #[vi f, vi o] 34)
  have H1 := Lib.hid h1
  have Hj := Lib.hid hj
  clear h1 hj
  go_enter Try.func9, Try.ntmps9
  go_wp2_with fail
  generalize hbx : w.heap.size = bx at *
  generalize w.alloc (.cells #[.int .i64 (f : Int), .int .i64 (o : Int)] 34) = w1 at *
  have d0 := H1.out.drew.cell (b := bx) (i := 0) (c := #[vi f, vi o]) (e := 34) (fr := (0, 0)) (by simp)
  have d1 := H1.out.drew.cell (b := bx) (i := 1) (c := #[vi f, vi o]) (e := 34) (fr := (0, 0)) (by simp)
  have hop := Bd.opens_map H1.out.drew.swap
  have cm := Bd.c_map (Sat.sel [_, _, _, _, _] 5 [1] hop rfl (by decide)) hok.nine
  have hmap := Bd.h_map hop
  refine wp_region_plan (fun w' => w'.cell? ⟨bx, 0, none⟩ = some (vi f) ∧ w'.cell? ⟨bx, 1, none⟩ = some (vi o) ∧ w'.cell? ⟨B.p, 10, none⟩ = some (.map (some B.hb)) ∧ w'.heap[B.hb]? = some B.mapObj) [(0, false), (1, false), (2, false), (3, false), (4, false), (5, false), (6, false)] (by kernel_rfl) (by kernel_rfl) ⟨by simpa using d0, by simpa using d1, cm, hmap⟩ ?_
  have d0' : w1.drew.cell? ⟨bx, 0, none⟩ = some (vi f) := by simpa using d0
  have d1' : w1.drew.cell? ⟨bx, 1, none⟩ = some (vi o) := by simpa using d1
  clear d0 d1 hop
  refine wpPlan_q (v := ?_) rfl rfl ?_ ?_; rotate_left 1; · (intro wS hS; go_simp; try with_reducible rfl)
  simp only [Act.put, List.setIfInBounds_toArray, List.set_cons_zero, List.set_cons_succ]
  refine wpPlan_q (v := ?_) rfl rfl ?_ ?_; rotate_left 1; · (intro wS hS; go_simp; try with_reducible rfl)
  simp only [Act.put, List.setIfInBounds_toArray, List.set_cons_zero, List.set_cons_succ]
  refine wpPlan_q (v := ?_) rfl rfl ?_ ?_; rotate_left 1; · (intro wS hS; go_simp; try with_reducible rfl)
  simp only [Act.put, List.setIfInBounds_toArray, List.set_cons_zero, List.set_cons_succ]
  refine wpPlan_q (v := ?_) rfl rfl ?_ ?_; rotate_left 1; · (intro wS hS; go_simp; try with_reducible rfl)
  simp only [Act.put, List.setIfInBounds_toArray, List.set_cons_zero, List.set_cons_succ]
  refine wpPlan_q (v := ?_) rfl rfl ?_ ?_; rotate_left 1; · (intro wS hS; go_simp; try with_reducible rfl)
  simp only [Act.put, List.setIfInBounds_toArray, List.set_cons_zero, List.set_cons_succ]
  refine wpPlan_q (v := .bool true) rfl rfl (fun wS hS => (exec_lookup_block (.tmp 15) (.tmp 16) rfl f o B.ents B.clock B.hb hS.2.2.2 rfl rfl).trans (by rw [hany])) ?_
  simp only [Act.put, List.setIfInBounds_toArray, List.set_cons_zero, List.set_cons_succ]
  refine wpPlan_q (v := ?_) rfl rfl ?_ ?_; rotate_left 1; · (intro wS hS; go_simp; try with_reducible rfl)
  simp only [Act.put, List.setIfInBounds_toArray, List.set_cons_zero, List.set_cons_succ]
  refine wpPlan_nil (NoPanic.normal ?_)
  go_wp2_with fail
  have H2 := Lib.hid H1.out.drew
  clear H1
  generalize w1.drew = w2 at *
  obtain ⟨w3, hdel, hset⟩ : ∃ w3, (∀ ty, (Builtin.delete_ #[64, 34] ty #[.map (some B.hb), vb f o]).run Try.prog w2.drew = .ok (.tuple #[]) w3) ∧
      Sat z w3 ([(B.hb, .map ((B.ents.eraseIdx j).map ent).toArray B.clock)] :: B.main :: B.rowsHp :: [(bx, .cells #[vi f, vi o] 34 (0, 0))] :: M.hp :: F) :=
    ⟨_, fun ty => run_delete_block f o B.ents B.clock B.hb (Bd.h_map (Bd.opens_map H2.out.swap.drew)) j Hj.out ty, (Bd.opens_map H2.out.swap.drew).setObj⟩
  have hB1 : Sat z w3 (Bd.hp { B with ents := B.ents.eraseIdx j } :: [(bx, .cells #[vi f, vi o] 34 (0, 0))] :: M.hp :: F) := Bd.shuts_map (B := { B with ents := B.ents.eraseIdx j }) hset
  have e0 := hB1.swap.cell (b := bx) (i := 0) (c := #[vi f, vi o]) (e := 34) (fr := (0, 0)) (by simp)
  have e1 := hB1.swap.cell (b := bx) (i := 1) (c := #[vi f, vi o]) (e := 34) (fr := (0, 0)) (by simp)
  have e2 := Bd.c_mem (Sat.sel [_, _, _, _, _] 5 [1] hset rfl (by decide))
  have e3 := Bd.c_map (Sat.sel [_, _, _, _, _] 5 [1] hset rfl (by decide)) hok.nine
  have e0' : w3.cell? ⟨bx, 0, none⟩ = some (vi f) := by simpa using e0
  have e1' : w3.cell? ⟨bx, 1, none⟩ = some (vi o) := by simpa using e1
  have H3 := Lib.hid hB1
  have Hdel := Lib.hid hdel
  clear hset hB1 e0 e1 hdel hmap
  refine wp_region_plan (fun w' => w'.cell? ⟨bx, 0, none⟩ = some (vi f) ∧ w'.cell? ⟨bx, 1, none⟩ = some (vi o) ∧ w'.cell? ⟨B.p, 10, none⟩ = some (.map (some B.hb))) [(0, false), (1, false), (2, false), (3, false), (4, false), (5, true)] (by kernel_rfl) (by kernel_rfl) ⟨by simpa using d0', by simpa using d1', by simpa using cm⟩ ?_
  clear d0' d1' cm
  refine wpPlan_q (v := ?_) rfl rfl ?_ ?_; rotate_left 1; · (intro wS hS; go_simp; try with_reducible rfl)
  simp only [Act.put, List.setIfInBounds_toArray, List.set_cons_zero, List.set_cons_succ]
  refine wpPlan_q (v := ?_) rfl rfl ?_ ?_; rotate_left 1; · (intro wS hS; go_simp; try with_reducible rfl)
  simp only [Act.put, List.setIfInBounds_toArray, List.set_cons_zero, List.set_cons_succ]
  refine wpPlan_q (v := ?_) rfl rfl ?_ ?_; rotate_left 1; · (intro wS hS; go_simp; try with_reducible rfl)
  simp only [Act.put, List.setIfInBounds_toArray, List.set_cons_zero, List.set_cons_succ]
  refine wpPlan_q (v := ?_) rfl rfl ?_ ?_; rotate_left 1; · (intro wS hS; go_simp; try with_reducible rfl)
  simp only [Act.put, List.setIfInBounds_toArray, List.set_cons_zero, List.set_cons_succ]
  refine wpPlan_q (v := ?_) rfl rfl ?_ ?_; rotate_left 1; · (intro wS hS; go_simp; try with_reducible rfl)
  simp only [Act.put, List.setIfInBounds_toArray, List.set_cons_zero, List.set_cons_succ]
  refine wpPlan_e rfl rfl (fun K hK => ?_)
  refine wp_delete_run _ _ _ _ _ rfl _ _ rfl rfl (Hdel.out _) ?_
  refine hK _ _ ⟨e0', e1', e3⟩ ?_
  refine wpPlan_nil (NoPanic.normal ?_)
  clear hK K e3
  have hf0 : B.p = B.p := rfl
  rw [hmp] at e2
  have hsc := mem_scrub (M := M) (Sat.sel [_, _, _] 3 [2, 0, 1] H3.out.drew rfl (by decide)) hM f ((2 ^ o : Nat) : Int) (by
    have : (2 : Nat) ^ o ≤ 2 ^ 8 := Nat.pow_le_pow_right (by omega) ho
    omega)
  rw [hhas] at hsc
  have hpc : ((2 ^ o : Nat) : Int) = 2 ^ o := by norm_cast
  rw [hpc] at hsc
  have Hsc := Lib.hid hsc
  clear hsc
  go_wp2_with fail
  refine wp_region_plan (fun w' => w'.cell? ⟨bx, 0, none⟩ = some (vi f) ∧ w'.cell? ⟨bx, 1, none⟩ = some (vi o) ∧ w'.cell? ⟨B.p, 0, none⟩ = some (.pointer (some ⟨M.p, 0, none⟩))) [(0, false), (1, false), (2, false), (3, false), (4, false), (5, false), (6, false), (7, true), (8, false)] (by kernel_rfl) (by kernel_rfl) ⟨by simpa using e0', by simpa using e1', by simpa using e2⟩ ?_
  refine wpPlan_q (v := ?_) rfl rfl ?_ ?_; rotate_left 1; · (intro wS hS; go_simp; try with_reducible rfl)
  simp only [Act.put, List.setIfInBounds_toArray, List.set_cons_zero, List.set_cons_succ]
  refine wpPlan_q (v := ?_) rfl rfl ?_ ?_; rotate_left 1; · (intro wS hS; go_simp; try with_reducible rfl)
  simp only [Act.put, List.setIfInBounds_toArray, List.set_cons_zero, List.set_cons_succ]
  refine wpPlan_q (v := ?_) rfl rfl ?_ ?_; rotate_left 1; · (intro wS hS; go_simp; try with_reducible rfl)
  simp only [Act.put, List.setIfInBounds_toArray, List.set_cons_zero, List.set_cons_succ]
  refine wpPlan_q (v := ?_) rfl rfl ?_ ?_; rotate_left 1; · (intro wS hS; go_simp; try with_reducible rfl)
  simp only [Act.put, List.setIfInBounds_toArray, List.set_cons_zero, List.set_cons_succ]
  refine wpPlan_q (v := ?_) rfl rfl ?_ ?_; rotate_left 1; · (intro wS hS; go_simp; try with_reducible rfl)
  simp only [Act.put, List.setIfInBounds_toArray, List.set_cons_zero, List.set_cons_succ]
  refine wpPlan_q (v := ?_) rfl rfl ?_ ?_; rotate_left 1; · (intro wS hS; go_simp; try with_reducible rfl)
  simp only [Act.put, List.setIfInBounds_toArray, List.set_cons_zero, List.set_cons_succ]
  refine wpPlan_q (v := vi (2 ^ o)) rfl rfl (fun wS hS => exec_shl 3 3 (.const (.int .i64 1)) (.tmp 29) rfl 0 o (by omega) (by omega) 1 (2 ^ o) (by simp) (by simp) rfl (by simp [Act.eval])) ?_
  simp only [Act.put, List.setIfInBounds_toArray, List.set_cons_zero, List.set_cons_succ]
  refine wpPlan_e rfl rfl (fun K hK => ?_)
  go_wp2_with (go_at_call 32; refine Hsc.out.mono ?_; rintro e w4 ⟨rfl, h4⟩)
  have H4 := Lib.hid (Sat.sel [_, _, _] 3 [1, 2, 0] h4 rfl (by decide))
  change Hid (Sat z w4 (Bd.hp { B with ents := B.ents.eraseIdx j } :: [(bx, .cells #[vi f, vi o] 34 (0, 0))] :: (M.scrub f (2 ^ o)).hp :: F)) at H4
  have g0 := H4.out.swap.cell (b := bx) (i := 0) (c := #[vi f, vi o]) (e := 34) (fr := (0, 0)) (by simp)
  have g1 := H4.out.swap.cell (b := bx) (i := 1) (c := #[vi f, vi o]) (e := 34) (fr := (0, 0)) (by simp)
  have g2 := Bd.c_mem (Sat.sel [_, _, _, _, _] 5 [1] (Bd.opens_map H4.out) rfl (by decide))
  change w4.cell? ⟨B.p, 0, none⟩ = some (.pointer (some ⟨B.mp, 0, none⟩)) at g2
  rw [hmp] at g2
  refine hK _ _ ⟨by simpa using g0, by simpa using g1, g2⟩ ?_
  clear g0 g1 g2 h4 hK K e0' e1' e2
  refine wpPlan_q (v := ?_) rfl rfl ?_ ?_; rotate_left 1; · (intro wS hS; go_simp; try with_reducible rfl)
  simp only [Act.put, List.setIfInBounds_toArray, List.set_cons_zero, List.set_cons_succ]
  refine wpPlan_nil (NoPanic.normal ?_)
  go_wp2_with fail
  generalize hMs : M.scrub f (2 ^ o) = M2 at *
  go_loopg [50] (8 - o) (fun k _ wr => k ≤ 8 ∧ ∃ (Bk : Bd) (f' : Nat), f' < 512 ∧ Bd.Same { B with ents := B.ents.eraseIdx j } Bk ∧ Bk.ok ∧ (∀ i, i ≤ 8 → Rising (Bk.L i)) ∧ (∀ i, i ≤ 8 → (Bk.L i).length ≤ 1000000) ∧
    merge k Bk.L f' = merge (8 - o) B.L f ∧ Sat z wr (Bk.hp :: [(bx, .cells #[vi f', vi ((8 - k : Nat) : Int)] 34 (0, 0))] :: M2.hp :: F))
  case atStart =>
    exact ⟨by omega, { B with ents := B.ents.eraseIdx j }, f, hf, Bd.Same.refl _, ⟨hok.nine, hok.rows⟩, hr, hl, rfl, by rw [show 8 - (8 - o) = o by omega]; exact H4.out⟩
  case round =>
    obtain ⟨hk8, Bk, f', hf', hsame, hkok, hkr, hkl, hmg, hks⟩ := hrel
    have hbp : Bk.p = B.p := hsame.p
    cases gk with
    | zero =>
      have d0 := hks.swap.drew.cell (b := bx) (i := 0) (c := #[vi f', vi ((8 - 0 : Nat) : Int)]) (e := 34) (fr := (0, 0)) (by simp)
      have d1 := hks.swap.drew.cell (b := bx) (i := 1) (c := #[vi f', vi ((8 - 0 : Nat) : Int)]) (e := 34) (fr := (0, 0)) (by simp)
      have d0' : wr.drew.cell? ⟨bx, 0, none⟩ = some (vi f') := by simpa using d0
      have d1' : wr.drew.cell? ⟨bx, 1, none⟩ = some (vi 8) := by simpa using d1
      have hput := put_ok hks.drew hkok f' 8 (by omega) (hkl 8 (by omega)) (hkr 8 (by omega)).le
      rw [hbp] at hput
      have Hp := Lib.hid hput
      have Hg := Lib.hid hmg
      clear d0 d1 hput hmg
      go_wp2_with fail
      refine wp_region_plan (fun w' => w'.cell? ⟨bx, 0, none⟩ = some (vi f') ∧ w'.cell? ⟨bx, 1, none⟩ = some (vi 8)) [(0, false), (1, false), (2, false), (3, false), (4, false), (5, false), (6, false), (7, false), (8, false), (9, false), (10, false), (11, false), (12, false), (13, false), (14, false), (15, false)] (by kernel_rfl) (by kernel_rfl) ⟨d0', d1'⟩ ?_
      refine wpPlan_q (v := ?_) rfl rfl ?_ ?_; rotate_left 1; · (intro wS hS; go_simp; try with_reducible rfl)
      simp only [Act.put, List.setIfInBounds_toArray, List.set_cons_zero, List.set_cons_succ]
      refine wpPlan_q (v := ?_) rfl rfl ?_ ?_; rotate_left 1; · (intro wS hS; go_simp; try with_reducible rfl)
      simp only [Act.put, List.setIfInBounds_toArray, List.set_cons_zero, List.set_cons_succ]
      refine wpPlan_q (v := ?_) rfl rfl ?_ ?_; rotate_left 1; · (intro wS hS; go_simp; try with_reducible rfl)
      simp only [Act.put, List.setIfInBounds_toArray, List.set_cons_zero, List.set_cons_succ]
      refine wpPlan_q (v := ?_) rfl rfl ?_ ?_; rotate_left 1; · (intro wS hS; go_simp; try with_reducible rfl)
      simp only [Act.put, List.setIfInBounds_toArray, List.set_cons_zero, List.set_cons_succ]
      refine wpPlan_n rfl rfl ?_
      simp only [Act.put, List.setIfInBounds_toArray, List.set_cons_zero, List.set_cons_succ]
      refine wpPlan_n rfl rfl ?_
      simp only [Act.put, List.setIfInBounds_toArray, List.set_cons_zero, List.set_cons_succ]
      refine wpPlan_n rfl rfl ?_
      simp only [Act.put, List.setIfInBounds_toArray, List.set_cons_zero, List.set_cons_succ]
      refine wpPlan_n rfl rfl ?_
      simp only [Act.put, List.setIfInBounds_toArray, List.set_cons_zero, List.set_cons_succ]
      refine wpPlan_n rfl rfl ?_
      simp only [Act.put, List.setIfInBounds_toArray, List.set_cons_zero, List.set_cons_succ]
      refine wpPlan_n rfl rfl ?_
      simp only [Act.put, List.setIfInBounds_toArray, List.set_cons_zero, List.set_cons_succ]
      refine wpPlan_n rfl rfl ?_
      simp only [Act.put, List.setIfInBounds_toArray, List.set_cons_zero, List.set_cons_succ]
      refine wpPlan_n rfl rfl ?_
      simp only [Act.put, List.setIfInBounds_toArray, List.set_cons_zero, List.set_cons_succ]
      refine wpPlan_n rfl rfl ?_
      simp only [Act.put, List.setIfInBounds_toArray, List.set_cons_zero, List.set_cons_succ]
      refine wpPlan_n rfl rfl ?_
      simp only [Act.put, List.setIfInBounds_toArray, List.set_cons_zero, List.set_cons_succ]
      refine wpPlan_n rfl rfl ?_
      simp only [Act.put, List.setIfInBounds_toArray, List.set_cons_zero, List.set_cons_succ]
      refine wpPlan_q (v := ?_) rfl rfl ?_ ?_; rotate_left 1; · (intro wS hS; go_simp; try with_reducible rfl)
      simp only [Act.put, List.setIfInBounds_toArray, List.set_cons_zero, List.set_cons_succ]
      refine wpPlan_nil (NoPanic.normal ?_)
      go_wp2_with (go_at_call 34; refine Hp.out.mono ?_; rintro e w6 ⟨r', rfl, hr1', hr2', h7⟩)
      go_ret
      refine ⟨Bk.setRow 8 r', rfl, hr1', hbp, hsame.mp, hsame.ents, hsame.clock, fun i => ?_, ?_⟩
      · rw [Bd.L_setRow Bk 8 r' (by rw [hkok.nine]; omega)]
        have := Hg.out
        simp only [merge] at this
        unfold freed
        rw [← this]
        by_cases e : i = 8
        · subst e; simp [hr2']
        · rw [if_neg e, if_neg e]
      · rw [hpc, hMs]
        exact Sat.sel [_, _, _] 3 [0, 2] h7 rfl (by decide)
    | succ n =>
      obtain ⟨m, hm⟩ : ∃ m, m = 7 - n := ⟨_, rfl⟩
      have hm7 : m ≤ 7 := by omega
      have hnm : n = 7 - m := by omega
      have hm8 : (m : Int) < 8 := by omega
      have he8 : ((8 - (n + 1) : Nat) : Int) = (m : Int) := by omega
      rw [he8] at hks
      have hw1 : IntKind.i64.wrap ((m : Int) + 1) = (m : Int) + 1 := by rw [IntKind.wrap_i64]; omega
      have d0 := hks.swap.drew.cell (b := bx) (i := 0) (c := #[vi f', vi m]) (e := 34) (fr := (0, 0)) (by simp)
      have d1 := hks.swap.drew.cell (b := bx) (i := 1) (c := #[vi f', vi m]) (e := 34) (fr := (0, 0)) (by simp)
      have d0' : wr.drew.cell? ⟨bx, 0, none⟩ = some (vi f') := by simpa using d0
      have d1' : wr.drew.cell? ⟨bx, 1, none⟩ = some (vi m) := by simpa using d1
      have htk := take_ok hks.drew hkok (bud f' m) m (by omega) (hkl m (by omega)) (hkr m (by omega))
      rw [hbp] at htk
      have hmg2 : merge (n + 1) Bk.L f' = if (Bk.L m).contains ((bud f' m : Nat) : Int) then merge n (fun i => if i = m then del ((bud f' m : Nat) : Int) (Bk.L i) else Bk.L i) (par f' m) else (Bk.L, f', m) := by
        rw [merge, ← hm]
      rw [hmg] at hmg2
      have Hg := Lib.hid hmg2
      have Ht := Lib.hid htk
      have Hn := Lib.hid hnm
      have hme : m ≤ 8 := by omega
      clear d0 d1 htk hmg hmg2 hnm hm he8 hk8
      go_wp2_with fail
      refine wp_region_plan (fun w' => w'.cell? ⟨bx, 0, none⟩ = some (vi f') ∧ w'.cell? ⟨bx, 1, none⟩ = some (vi m)) [(0, false), (1, false), (2, false), (3, false), (4, false), (5, false), (6, false), (7, false), (8, false), (9, false), (10, false), (11, false), (12, false), (13, false), (14, true), (15, false)] (by kernel_rfl) (by kernel_rfl) ⟨d0', d1'⟩ ?_
      refine wpPlan_q (v := ?_) rfl rfl ?_ ?_; rotate_left 1; · (intro wS hS; go_simp; try with_reducible rfl)
      simp only [Act.put, List.setIfInBounds_toArray, List.set_cons_zero, List.set_cons_succ]
      refine wpPlan_q (v := ?_) rfl rfl ?_ ?_; rotate_left 1; · (intro wS hS; go_simp; try with_reducible rfl)
      simp only [Act.put, List.setIfInBounds_toArray, List.set_cons_zero, List.set_cons_succ]
      refine wpPlan_q (v := ?_) rfl rfl ?_ ?_; rotate_left 1; · (intro wS hS; go_simp; try with_reducible rfl)
      simp only [Act.put, List.setIfInBounds_toArray, List.set_cons_zero, List.set_cons_succ]
      refine wpPlan_q (v := ?_) rfl rfl ?_ ?_; rotate_left 1; · (intro wS hS; go_simp; try with_reducible rfl)
      simp only [Act.put, List.setIfInBounds_toArray, List.set_cons_zero, List.set_cons_succ]
      refine wpPlan_g (v := ?_) rfl rfl ?_ ?_; rotate_left 1; · (intro wS hS; go_simp; try with_reducible rfl)
      simp only [Act.put, List.setIfInBounds_toArray, List.set_cons_zero, List.set_cons_succ]
      refine wpPlan_g (v := ?_) rfl rfl ?_ ?_; rotate_left 1; · (intro wS hS; go_simp; try with_reducible rfl)
      simp only [Act.put, List.setIfInBounds_toArray, List.set_cons_zero, List.set_cons_succ]
      refine wpPlan_g (v := ?_) rfl rfl ?_ ?_; rotate_left 1; · (intro wS hS; go_simp; try with_reducible rfl)
      simp only [Act.put, List.setIfInBounds_toArray, List.set_cons_zero, List.set_cons_succ]
      refine wpPlan_g (v := ?_) rfl rfl ?_ ?_; rotate_left 1; · (intro wS hS; go_simp; try with_reducible rfl)
      simp only [Act.put, List.setIfInBounds_toArray, List.set_cons_zero, List.set_cons_succ]
      refine wpPlan_g (v := ?_) rfl rfl ?_ ?_; rotate_left 1; · (intro wS hS; go_simp; try with_reducible rfl)
      simp only [Act.put, List.setIfInBounds_toArray, List.set_cons_zero, List.set_cons_succ]
      refine wpPlan_g (v := vi (2 ^ m)) rfl rfl (fun wS hS => exec_shl 3 3 (.const (.int .i64 1)) (.tmp 43) rfl 0 m (by omega) (by omega) 1 (2 ^ m) (by simp) (by simp) rfl (by simp [Act.eval])) ?_
      simp only [Act.put, List.setIfInBounds_toArray, List.set_cons_zero, List.set_cons_succ]
      refine wpPlan_g (v := vi (bud f' m : Nat)) rfl rfl (fun wS hS => exec_xor 3 3 (.tmp 41) (.tmp 44) rfl f' m hf' (by omega) (by simp [Act.eval]) (by simp [Act.eval])) ?_
      simp only [Act.put, List.setIfInBounds_toArray, List.set_cons_zero, List.set_cons_succ]
      refine wpPlan_g (v := ?_) rfl rfl ?_ ?_; rotate_left 1; · (intro wS hS; go_simp; try with_reducible rfl)
      simp only [Act.put, List.setIfInBounds_toArray, List.set_cons_zero, List.set_cons_succ]
      refine wpPlan_g (v := ?_) rfl rfl ?_ ?_; rotate_left 1; · (intro wS hS; go_simp; try with_reducible rfl)
      simp only [Act.put, List.setIfInBounds_toArray, List.set_cons_zero, List.set_cons_succ]
      refine wpPlan_g (v := ?_) rfl rfl ?_ ?_; rotate_left 1; · (intro wS hS; go_simp; try with_reducible rfl)
      simp only [Act.put, List.setIfInBounds_toArray, List.set_cons_zero, List.set_cons_succ]
      refine wpPlan_eg rfl (fun K hK => ?_)
      rw [if_pos (by rfl)]
      generalize hcon : (Bk.L m).contains ((bud f' m : Nat) : Int) = con at *
      cases con with
      | false =>
        go_wp2_with (go_at_call 33; refine Ht.out.mono ?_; rintro e w6 ⟨rfl, (⟨_, h7⟩ | ⟨h0, _⟩)⟩)
        rotate_left
        · cases h0
        have g0 := h7.swap.cell (b := bx) (i := 0) (c := #[vi f', vi m]) (e := 34) (fr := (0, 0)) (by simp)
        have g1 := h7.swap.cell (b := bx) (i := 1) (c := #[vi f', vi m]) (e := 34) (fr := (0, 0)) (by simp)
        have g0' : w6.cell? ⟨bx, 0, none⟩ = some (vi f') := by simpa using g0
        have g1' : w6.cell? ⟨bx, 1, none⟩ = some (vi m) := by simpa using g1
        refine hK _ _ ⟨g0', g1'⟩ ?_
        have hput := put_ok h7 hkok f' m (by omega) (hkl m (by omega)) (hkr m (by omega)).le
        rw [hbp] at hput
        have Hp := Lib.hid hput
        clear g0 g1 hput hK K Ht d0' d1' h7
        refine wpPlan_q (v := ?_) rfl rfl ?_ ?_; rotate_left 1; · (intro wS hS; go_simp; try with_reducible rfl)
        simp only [Act.put, List.setIfInBounds_toArray, List.set_cons_zero, List.set_cons_succ]
        refine wpPlan_nil (NoPanic.normal ?_)
        go_wp2_with (go_at_call 34; refine Hp.out.mono ?_; rintro e w7 ⟨r', rfl, hr1', hr2', h7⟩)
        go_ret
        refine ⟨Bk.setRow m r', rfl, hr1', hbp, hsame.mp, hsame.ents, hsame.clock, fun i => ?_, ?_⟩
        · rw [Bd.L_setRow Bk m r' (by rw [hkok.nine]; omega)]
          have := Hg.out
          simp only [Bool.false_eq_true, if_false] at this
          unfold freed
          rw [this]
          by_cases e : i = m
          · subst e; simp [hr2']
          · rw [if_neg e, if_neg e]
        · rw [hpc, hMs]
          exact Sat.sel [_, _, _] 3 [0, 2] h7 rfl (by decide)
      | true =>
        go_wp2_with (go_at_call 33; refine Ht.out.mono ?_; rintro e w6 ⟨rfl, (⟨h0, _⟩ | ⟨_, r1, hr1, hr2, h7⟩)⟩)
        · cases h0
        have g0 := h7.swap.cell (b := bx) (i := 0) (c := #[vi f', vi m]) (e := 34) (fr := (0, 0)) (by simp)
        have g1 := h7.swap.cell (b := bx) (i := 1) (c := #[vi f', vi m]) (e := 34) (fr := (0, 0)) (by simp)
        have g0' : w6.cell? ⟨bx, 0, none⟩ = some (vi f') := by simpa using g0
        have g1' : w6.cell? ⟨bx, 1, none⟩ = some (vi m) := by simpa using g1
        have fz0 := h7.swap.drew.frozen (b := bx) (i := 0) (c := #[vi f', vi m]) (e := 34) (by simp)
        have fz1 := h7.swap.drew.frozen (b := bx) (i := 1) (c := #[vi f', vi m]) (e := 34) (by simp)
        refine hK _ _ ⟨g0', g1'⟩ ?_
        have hst := (h7.swap.setCell (i := 0) (vi (par f' m : Nat))).drew
        have k0 := hst.cell (b := bx) (i := 0) (c := #[vi (par f' m : Nat), vi m]) (e := 34) (fr := (0, 0)) (by simp)
        have k1 := hst.cell (b := bx) (i := 1) (c := #[vi (par f' m : Nat), vi m]) (e := 34) (fr := (0, 0)) (by simp)
        have k0' : ((w6.setCell ⟨bx, 0, none⟩ (vi (par f' m : Nat))).drew).cell? ⟨bx, 0, none⟩ = some (vi (par f' m : Nat)) := by rw [k0]; rfl
        have k1' : ((w6.setCell ⟨bx, 0, none⟩ (vi (par f' m : Nat))).drew).cell? ⟨bx, 1, none⟩ = some (vi m) := by rw [k1]; rfl
        have hst2 := hst.setCell (i := 1) (vi ((m : Int) + 1))
        have K0 := Lib.hid k0'
        have K1 := Lib.hid k1'
        have H7 := Lib.hid hst2
        have H6 := Lib.hid hst
        clear g0 g1 hst hst2 k0 k1 k0' k1' hK K Ht d0' d1' h7
        refine wpPlan_q (v := ?_) rfl rfl ?_ ?_; rotate_left 1; · (intro wS hS; go_simp; try with_reducible rfl)
        simp only [Act.put, List.setIfInBounds_toArray, List.set_cons_zero, List.set_cons_succ]
        refine wpPlan_nil (NoPanic.normal ?_)
        go_wp2_with fail
        refine wp_region_plan (fun w' => w'.cell? ⟨bx, 1, none⟩ = some (vi m) ∧ (w'.cell? ⟨bx, 0, none⟩).isSome = true) [(0, false), (2, false), (3, false), (4, false), (1, true), (5, false), (6, false), (7, true)] (by kernel_rfl) (by kernel_rfl) ⟨g1', by rw [show w6.drew.cell? ⟨bx, 0, none⟩ = some (vi f') from g0']; rfl⟩ ?_
        refine wpPlan_q (v := ?_) rfl rfl ?_ ?_; rotate_left 1; · (intro wS hS; go_simp; try with_reducible rfl)
        simp only [Act.put, List.setIfInBounds_toArray, List.set_cons_zero, List.set_cons_succ]
        refine wpPlan_q (v := ?_) rfl rfl ?_ ?_; rotate_left 1; · (intro wS hS; go_simp; try with_reducible rfl)
        simp only [Act.put, List.setIfInBounds_toArray, List.set_cons_zero, List.set_cons_succ]
        refine wpPlan_q (v := ?_) rfl rfl ?_ ?_; rotate_left 1; · (intro wS hS; go_simp; try with_reducible rfl)
        simp only [Act.put, List.setIfInBounds_toArray, List.set_cons_zero, List.set_cons_succ]
        refine wpPlan_q (v := vi (2 ^ m)) rfl rfl (fun wS hS => exec_shl 3 3 (.const (.int .i64 1)) (.tmp 54) rfl 0 m (by omega) (by omega) 1 (2 ^ m) (by simp) (by simp) rfl (by simp [Act.eval])) ?_
        simp only [Act.put, List.setIfInBounds_toArray, List.set_cons_zero, List.set_cons_succ]
        refine wpPlan_e rfl rfl (fun K hK => ?_)
        go_wp2_with fail
        refine hK _ _ ⟨g1', by rw [show w6.drew.cell? ⟨bx, 0, none⟩ = some (vi f') from g0']; rfl⟩ ?_
        clear hK K
        refine wpPlan_q (v := vi (par f' m : Nat)) rfl rfl (fun wS hS => exec_andNot 3 3 (.tmp 52) (.tmp 55) rfl f' m hf' (by omega) (by simp [Act.eval]) (by simp [Act.eval])) ?_
        simp only [Act.put, List.setIfInBounds_toArray, List.set_cons_zero, List.set_cons_succ]
        refine wpPlan_q (v := ?_) rfl rfl ?_ ?_; rotate_left 1; · (intro wS hS; go_simp; try with_reducible rfl)
        simp only [Act.put, List.setIfInBounds_toArray, List.set_cons_zero, List.set_cons_succ]
        refine wpPlan_e rfl rfl (fun K hK => ?_)
        go_wp2_with fail
        refine hK _ _ ?_ ?_
        · exact ⟨K1.out, by rw [K0.out]; rfl⟩
        refine wpPlan_nil (NoPanic.normal ?_)
        have k1 := K1.out
        have kf := H6.out.frozen (b := bx) (i := 1) (c := #[vi (par f' m : Nat), vi m]) (e := 34) (by simp)
        clear hK K g0' g1' fz0 fz1
        generalize (w6.setCell ⟨bx, 0, none⟩ (vi (par f' m : Nat))).drew = w8 at *
        go_wp2
        go_roundg n
        case measure => omega
        case rel =>
          have hnm := Hn.out
          have hrw : m < Bk.rows.length := by rw [hkok.nine]; omega
          have hLs : ∀ i, (Bk.setRow m r1).L i = if i = m then del ((bud f' m : Nat) : Int) (Bk.L i) else Bk.L i := fun i => by
            rw [Bd.L_setRow Bk m r1 hrw]
            by_cases e : i = m
            · subst e; rw [if_pos rfl, if_pos rfl, hr2]
            · rw [if_neg e, if_neg e]
          have hmem : ((bud f' m : Nat) : Int) ∈ Bk.L m := by simpa using hcon
          refine ⟨by omega, Bk.setRow m r1, par f' m, by have := par_le f' m; omega, hsame.set m r1, hr1, fun i hi => ?_, fun i hi => ?_, ?_, ?_⟩
          · rw [hLs]
            split
            · rename_i e; subst e; exact (del_spec (hkr _ hi) hmem).1
            · exact hkr i hi
          · rw [hLs]
            split
            · have := del_len ((bud f' m : Nat) : Int) (Bk.L i); have := hkl i hi; omega
            · exact hkl i hi
          · have h := Hg.out
            simp only [if_true] at h
            rw [h]
            congr 1
            funext i
            exact hLs i
          · have e8 : ((8 - n : Nat) : Int) = (m : Int) + 1 := by omega
            rw [e8]
            exact H7.out.swap
end
end Go.Proofs.Ytglelfceogpbpaa
