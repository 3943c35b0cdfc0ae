/- memory.Scrub: frames from one on become noughts. -/
import Derived.Test.YtglelfceogpbpaaMem
import Derived.StillTailTactics
import Derived.Shelf.Spec.SlicesInsert
namespace Go.Proofs.Ytglelfceogpbpaa
open Go.RowKit

theorem Mem.scrub_ok {M : Mem} (hok : M.ok) (f k : Int) : (M.scrub f k).ok := by
  unfold Mem.scrub
  split
  · rename_i h
    simp only [Mem.has, Bool.and_eq_true, decide_eq_true_eq] at h
    exact ⟨hok.n0, hok.n1, by
      have := hok.len
      show (wipe M.W _ _).length = _
      rw [wipe_len _ _ _ (by omega)]
      exact this⟩
  · exact hok

theorem oneCell_vu (l : List Int) : ∀ v ∈ l.map vu, v.oneCell' = true := by
  intro v hv
  obtain ⟨x, _, rfl⟩ := List.mem_map.1 hv
  rfl

theorem Mem.set_row {z w : World} {F : List Chunk} {M : Mem} (hs : Sat z w (M.hp :: F)) (o n : Nat) (h : o + n ≤ M.W.length) :
    Sat z (w.setCells M.fb o ((List.replicate n 0).map vu)) (Mem.hp { M with W := wipe M.W o n } :: F) := by
  have h1 : Sat z w ([(M.fb, .cells (M.W.map vu).toArray 77 (0, 0)), (M.p, .cells #[.slice (some ⟨M.fb, 0, none⟩) M.n M.n] 75 (0, 0))] :: F) :=
    hs.perm (by simpa [Mem.hp] using List.Perm.swap _ _ _)
  have h2 := Sat.setCells ((List.replicate n 0).map vu) (M.W.map vu) o w h1
  refine h2.perm ?_
  rw [setAll_wipe _ _ _ h]
  simpa [Mem.hp] using List.Perm.swap _ _ _

set_option maxRecDepth 100000 in
theorem mem_scrub {z w : World} {F : List Chunk} {M : Mem} (hs : Sat z w (M.hp :: F)) (hok : M.ok) (f k : Int) (hk : k ≤ 1000000) :
    Calls Try.prog 32 #[.pointer (some ⟨M.p, 0, none⟩), .int .i64 f, .int .i64 k] w fun e w' => e = .returned (.int .i64 (if M.has f k then 0 else 1)) ∧ Sat z w' ((M.scrub f k).hp :: F) := by
  cases hh : M.has f k with
  | false =>
    have e1 : M.scrub f k = M := by simp [Mem.scrub, hh]
    rw [e1]
    go_enter Try.func32, Try.ntmps32
    go_wp2_with (go_at_call 37; refine (mem_has hs hok f k hk).mono ?_; rw [hh]; rintro e w' ⟨rfl, rfl⟩)
    go_ret
    exact ⟨rfl, hs⟩
  | true =>
    have hb : 1 ≤ k ∧ k ≤ M.n ∧ 0 ≤ f ∧ f ≤ M.n - k := by
      have := hh
      simp only [Mem.has, Bool.and_eq_true, decide_eq_true_eq] at this
      omega
    obtain ⟨a, rfl⟩ := Int.eq_ofNat_of_zero_le hb.2.2.1
    obtain ⟨n, rfl⟩ := Int.eq_ofNat_of_zero_le (show 0 ≤ k by omega)
    have e1 : M.scrub a n = { M with W := wipe M.W (16 * a) (16 * n) } := by simp [Mem.scrub, hh]
    have h1 := hok.n1
    have hl := Lib.hid hok.len
    rw [e1]
    clear e1
    have hs1 := (hs.allocd (.cells (List.replicate 16 (vu 0)).toArray 77)).swap
    go_enter Try.func32, Try.ntmps32
    go_wp2_with (go_at_call 37; refine (mem_has hs hok a n hk).mono ?_; rw [hh]; rintro e w' ⟨rfl, rfl⟩)
    generalize hnb : w.heap.size = nb at *
    go_loopw [8, 15] (fun _ c wr => ∃ j : Nat, j ≤ n ∧ c = .int .i64 j ∧ Sat z wr (Mem.hp { M with W := wipe M.W (16 * a) (j * 16) } :: [(nb, .cells (List.replicate 16 (vu 0)).toArray 77 (0, 0))] :: F)) (fun _ c _ => n - (intOf c).toNat)
    case atStart => exact ⟨0, by omega, rfl, by rw [Nat.zero_mul, wipe_zero]; exact hs1⟩
    case round =>
      obtain ⟨j, hj, rfl, hsj⟩ := hrel
      have c0 := Mem.c0 hsj
      by_cases hlt : j < n
      · have b1 : (0 : Int) ≤ (a : Int) + (j : Int) := by omega
        have b2 : (a : Int) + (j : Int) < (M.n : Int) := by omega
        have b3 : IntKind.i64.wrap ((a : Int) + (j : Int)) = (a : Int) + (j : Int) := by rw [IntKind.wrap_i64]; omega
        have b4 : ((a : Int) + (j : Int)).toNat = a + j := by omega
        go_wp2
        refine wp_region_plan (fun w' => w'.cell? ⟨M.p, 0, none⟩ = some (.slice (some ⟨M.fb, 0, none⟩) M.n M.n)) [(0, false), (1, false), (2, false), (3, false), (4, false), (5, false), (6, false), (7, false), (8, false), (9, false), (10, true)] (by kernel_rfl) (by kernel_rfl) (by simpa using c0) ?_
        refine wpPlan_q (v := ?_) rfl rfl ?_ ?_; rotate_left 1; · (intro wS hS; go_simp; try with_reducible rfl)
        simp only [Act.put, List.setIfInBounds_toArray, List.set_cons_zero, List.set_cons_succ]
        refine wpPlan_q (v := ?_) rfl rfl ?_ ?_; rotate_left 1; · (intro wS hS; go_simp; try with_reducible rfl)
        simp only [Act.put, List.setIfInBounds_toArray, List.set_cons_zero, List.set_cons_succ]
        refine wpPlan_q (v := ?_) rfl rfl ?_ ?_; rotate_left 1; · (intro wS hS; go_simp; try with_reducible rfl)
        simp only [Act.put, List.setIfInBounds_toArray, List.set_cons_zero, List.set_cons_succ]
        refine wpPlan_q (v := ?_) rfl rfl ?_ ?_; rotate_left 1; · (intro wS hS; go_simp; try with_reducible rfl)
        simp only [Act.put, List.setIfInBounds_toArray, List.set_cons_zero, List.set_cons_succ]
        refine wpPlan_q (v := ?_) rfl rfl ?_ ?_; rotate_left 1; · (intro wS hS; go_simp; try with_reducible rfl)
        simp only [Act.put, List.setIfInBounds_toArray, List.set_cons_zero, List.set_cons_succ]
        refine wpPlan_q (v := ?_) rfl rfl ?_ ?_; rotate_left 1; · (intro wS hS; go_simp; try with_reducible rfl)
        simp only [Act.put, List.setIfInBounds_toArray, List.set_cons_zero, List.set_cons_succ]
        refine wpPlan_q (v := ?_) rfl rfl ?_ ?_; rotate_left 1; · (intro wS hS; go_simp; try with_reducible rfl)
        simp only [Act.put, List.setIfInBounds_toArray, List.set_cons_zero, List.set_cons_succ]
        refine wpPlan_q (v := ?_) rfl rfl ?_ ?_; rotate_left 1; · (intro wS hS; go_simp; try with_reducible rfl)
        simp only [Act.put, List.setIfInBounds_toArray, List.set_cons_zero, List.set_cons_succ]
        refine wpPlan_q (v := ?_) rfl rfl ?_ ?_; rotate_left 1; · (intro wS hS; go_simp; try with_reducible rfl)
        simp only [Act.put, List.setIfInBounds_toArray, List.set_cons_zero, List.set_cons_succ]
        refine wpPlan_q (v := ?_) rfl rfl ?_ ?_; rotate_left 1; · (intro wS hS; go_simp; try with_reducible rfl)
        simp only [Act.put, List.setIfInBounds_toArray, List.set_cons_zero, List.set_cons_succ]
        refine wpPlan_e rfl rfl (fun K hK => ?_)
        have hlen : (wipe M.W (16 * a) (j * 16)).length = 16 * M.n := by rw [wipe_len _ _ _ (by rw [hl.out]; omega), hl.out]
        have hr := run_copy_cells (P := Try.prog) wr.drew 78 78 3 30 M.fb ((a + j) * 16) 16 16 ⟨nb, 0, none⟩ 16 16 ((List.replicate 16 0).map vu) Try.underlying78 (by kernel_rfl) (by simp)
          (fun i v hi => by
            rw [Addr.add_lit, Nat.zero_add]
            have := (hsj.swap).cell (b := nb) (i := i) (c := (List.replicate 16 (vu 0)).toArray) (e := 77) (fr := (0, 0)) (by simp)
            refine Eq.trans this ?_
            simpa using hi)
          (fun i hi => by
            have hi' : i < 16 := by simpa using hi
            have := Mem.cw hsj ((a + j) * 16 + i)
            show (wr.cell? _).isSome = true
            rw [this]
            simp [hlen]
            omega)
          (fun i _ => Mem.fz hsj _) (oneCell_vu _)
        refine wp_copy_runI _ _ _ _ _ rfl _ _ rfl rfl hr ?_
        have hsn : Sat z (wr.drew.setCells M.fb ((a + j) * 16) ((List.replicate 16 0).map vu)) (Mem.hp { M with W := wipe M.W (16 * a) ((j + 1) * 16) } :: [(nb, .cells (List.replicate 16 (vu 0)).toArray 77 (0, 0))] :: F) := by
          have h2 := Mem.set_row hsj.drew ((a + j) * 16) 16 (by show _ ≤ (wipe M.W _ _).length; rw [hlen]; omega)
          have e2 : wipe (wipe M.W (16 * a) (j * 16)) ((a + j) * 16) 16 = wipe M.W (16 * a) ((j + 1) * 16) := by
            rw [show (a + j) * 16 = 16 * a + j * 16 by omega]
            exact wipe_snoc _ _ _ (by rw [hl.out]; omega)
          simpa [e2] using h2
        have c1 := Mem.c0 hsn
        have Hn := Lib.hid hsn
        clear hsn hr
        generalize wr.drew.setCells M.fb ((a + j) * 16) ((List.replicate 16 0).map vu) = wn at *
        refine hK _ _ c1 ?_
        refine wpPlan_nil (NoPanic.normal ?_)
        go_wp2
        go_roundw
        case rel => exact ⟨j + 1, by omega, by go_num, Hn.out⟩
        case measure => simp [intOf]; omega
      · go_wp2
        go_ret
        have : j = n := by omega
        subst this
        exact ⟨rfl, by rw [Nat.mul_comm 16 j]; exact hsj.swap.drop⟩
end Go.Proofs.Ytglelfceogpbpaa
