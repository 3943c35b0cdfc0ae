/- The buddy's state, and its calls in terms of it. -/
import Derived.Test.YtglelfceogpbpaaHeld
import Derived.Test.YtglelfceogpbpaaNew
namespace Go.Proofs.Ytglelfceogpbpaa
open Go.RowKit

/-- the frames of what was given -/
structure Given (n : Nat) (Fr : Nat → Prop) (x : Ent) : Prop where
  ex : ∃ o p : Nat, x.f = ((p * 2 ^ o : Nat) : Int) ∧ x.o = (o : Int) ∧ o ≤ 8 ∧ (∀ i, i / 2 ^ o = p → i < n ∧ ¬ Fr i)
def Ent.has (x : Ent) (i : Nat) : Prop := x.f ≤ i ∧ (i : Int) < x.f + 2 ^ x.o.toNat

theorem in_block (o p i : Nat) : i / 2 ^ o = p ↔ ((p * 2 ^ o : Nat) : Int) ≤ i ∧ (i : Int) < ((p * 2 ^ o : Nat) : Int) + 2 ^ o := by
  have hp := Nat.two_pow_pos o
  rw [Nat.div_eq_iff hp]
  have e : ((2 : Int) ^ o) = ((2 ^ o : Nat) : Int) := by norm_cast
  rw [e]
  generalize p * 2 ^ o = A
  generalize 2 ^ o = X at *
  omega
theorem has_block {x : Ent} {o p : Nat} (h1 : x.f = ((p * 2 ^ o : Nat) : Int)) (h2 : x.o = (o : Int)) (i : Nat) : x.has i ↔ i / 2 ^ o = p := by
  unfold Ent.has
  rw [in_block, h1, h2, Int.toNat_natCast]

structure Inv (B : Bd) (M : Mem) (Fr : Nat → Prop) : Prop where
  ok : B.ok
  mok : M.ok
  mp : B.mp = M.p
  st : B.stamped
  bi : Bi B.L Fr
  fr : ∀ i, Fr i → i < M.n
  held : ∀ x ∈ B.ents, Given M.n Fr x
  dis : B.ents.Pairwise fun x y => ∀ i, ¬ (x.has i ∧ y.has i)

theorem Bi.congr {L L' : Nat → List Int} {F F' : Nat → Prop} (h : Bi L F) (hl : ∀ k, k ≤ 8 → L' k = L k) (h9 : ∀ k, 8 < k → L' k = []) (hf : ∀ i, F' i ↔ F i) : Bi L' F' := by
  have hm : ∀ k x, x ∈ L' k ↔ x ∈ L k := by
    intro k x
    by_cases hk : k ≤ 8
    · rw [hl k hk]
    · rw [h9 k (by omega)]
      constructor
      · intro h; simp at h
      · intro hx; exact absurd (h.form k x hx).1 hk
  refine ⟨fun k hk => by rw [hl k hk]; exact h.rise k hk, fun k x hx => h.form k x ((hm k x).1 hx), h.part.congr (fun k q => hm k _) hf, ?_⟩
  intro k q q' h1 h2
  exact h.maxi k q q' ((hm _ _).1 h1) ((hm _ _).1 h2)

theorem Bd.L_out (B : Bd) (hok : B.ok) (k : Nat) (hk : 8 < k) : B.L k = [] := by
  have := hok.nine
  simp [Bd.L, List.getD_eq_getElem?_getD, List.getElem?_eq_none (show B.rows.length ≤ k by omega), IRow.empty]

section
variable {B : Bd} {M : Mem} {Fr : Nat → Prop}
theorem Inv.mem (I : Inv B M Fr) {k : Nat} {x : Int} (h : x ∈ B.L k) : ∃ q : Nat, x = ((q * 2 ^ k : Nat) : Int) ∧ k ≤ 8 ∧ (∀ i, i / 2 ^ k = q → Fr i) ∧ (q + 1) * 2 ^ k ≤ M.n := by
  obtain ⟨hk, q, rfl⟩ := I.bi.form k x h
  have hf : ∀ i, i / 2 ^ k = q → Fr i := fun i hi => I.bi.part.full h hi
  refine ⟨q, rfl, hk, hf, ?_⟩
  have hp := Nat.two_pow_pos k
  have := I.fr _ (hf (q * 2 ^ k + (2 ^ k - 1)) (by rw [Nat.div_eq_iff hp]; omega))
  rw [Nat.add_mul]
  omega
theorem Inv.small (I : Inv B M Fr) {k : Nat} {x : Int} (h : x ∈ B.L k) : 0 ≤ x ∧ x < M.n := by
  obtain ⟨q, rfl, _, _, h2⟩ := I.mem h
  have hp := Nat.two_pow_pos k
  rw [Nat.add_mul] at h2
  omega
theorem Inv.len (I : Inv B M Fr) (k : Nat) (hk : k ≤ 8) : (B.L k).length ≤ M.n := by
  have := rising_len (B.L k) 0 M.n (I.bi.rise k hk) (fun x hx => I.small hx)
  omega
theorem Inv.len300 (I : Inv B M Fr) : ∀ k, k < 9 → (B.L k).length ≤ 300 := fun k hk => by
  have := I.len k (by omega)
  have := I.mok.n1
  omega
theorem Inv.hit_spec (_I : Inv B M Fr) {x : Ent} (_hx : x ∈ B.ents) {f o : Int} (h : hit f o x = true) : x.f = f ∧ x.o = o := by
  simp only [hit, Bool.and_eq_true, beq_iff_eq] at h
  exact ⟨h.1.symm, h.2.symm⟩

/-- what was given is not free -/
theorem Inv.not_free (I : Inv B M Fr) (o : Nat) (k : Nat) (x : Int) (hx : x ∈ B.L k) : B.ents.any (hit x o) = false := by
  rw [Bool.eq_false_iff]
  intro ha
  obtain ⟨y, hy, hh⟩ := List.any_eq_true.1 ha
  obtain ⟨e1, e2⟩ := I.hit_spec hy hh
  obtain ⟨o', p, f1, f2, f3, f4⟩ := (I.held y hy).ex
  obtain ⟨q, hq, _, hf, _⟩ := I.mem hx
  have h1 := f4 (p * 2 ^ o') (Dy.first_of p o')
  have e : p * 2 ^ o' = q * 2 ^ k := by
    have : ((p * 2 ^ o' : Nat) : Int) = ((q * 2 ^ k : Nat) : Int) := by rw [← f1, e1, hq]
    exact_mod_cast this
  rw [e] at h1
  exact h1.2 (hf _ (Dy.first_of q k))
end

section
variable {z w : World} {F : List Chunk} {B : Bd} {M : Mem} {Fr : Nat → Prop}

/-- what Alloc answers, and what it leaves -/
inductive Allocs (B : Bd) (M : Mem) (Fr : Nat → Prop) (o : Int) : Bd → (Nat → Prop) → Int → Int → Prop
  | bad : (o < 0 ∨ 8 < o) → Allocs B M Fr o B Fr 0 1
  | full (k : Nat) : o = k → k ≤ 8 → (∀ i, k ≤ i → i ≤ 8 → B.L i = []) → Allocs B M Fr o B Fr 0 6
  | ok (k j q : Nat) (B' : Bd) : o = k → k ≤ j → j ≤ 8 → (∀ i, k ≤ i → i < j → B.L i = []) → (B.L j).head? = some ((q * 2 ^ k : Nat) : Int) → (∀ i, i / 2 ^ k = q → Fr i) →
      B'.ents = B.ents ++ [⟨((q * 2 ^ k : Nat) : Int), k, B.clock⟩] → (∀ i, i ≤ 8 → B'.L i = taken B.L k j ((q * 2 ^ k : Nat) : Int) i) → Allocs B M Fr o B' (fun i => Fr i ∧ i / 2 ^ k ≠ q) ((q * 2 ^ k : Nat) : Int) 0

theorem alloc_inv (hs : Sat z w (B.hp :: F)) (I : Inv B M Fr) (o : Int) :
    Calls Try.prog 10 #[.pointer (some ⟨B.p, 0, none⟩), .int .i64 o] w fun e w' => ∃ B' Fr' x c, e = .returned (.tuple #[vi x, vi c]) ∧ Allocs B M Fr o B' Fr' x c ∧ Inv B' M Fr' ∧ B'.p = B.p ∧ Sat z w' (B'.hp :: F) := by
  by_cases hb : o < 0 ∨ 8 < o
  · refine (alloc_bad hs o hb).mono ?_
    rintro e w' ⟨rfl, h⟩
    exact ⟨B, Fr, 0, 1, rfl, .bad hb, I, rfl, h⟩
  · obtain ⟨k, rfl⟩ : ∃ k : Nat, o = k := ⟨o.toNat, by omega⟩
    have hk8 : k ≤ 8 := by omega
    refine (alloc_ok hs I.ok k hk8 I.bi.rise (fun i hi => by have := I.len i hi; have := I.mok.n1; omega) (fun i x hx => by have := I.small hx; have := I.mok.n1; omega) (fun i x hx => I.not_free k i x hx)).mono ?_
    rintro e w' (⟨h1, rfl, h⟩ | ⟨j, x, B', h1, h2, h3, h4, rfl, h5, h6, h7, h8, h9, h10, h⟩)
    · exact ⟨B, Fr, 0, 6, rfl, .full k rfl hk8 h1, I, rfl, h⟩
    · obtain ⟨q, rfl, hq, hbi⟩ := I.bi.alloc h1 h2 h3 h4
      refine ⟨B', _, _, 0, rfl, .ok k j q B' rfl h1 h2 h3 h4 hq h8 h10, ⟨h5, I.mok, h7.trans I.mp, ⟨?_, ?_⟩, hbi.congr h10 (fun i hi => ?_) (fun _ => Iff.rfl), fun i hi => I.fr i hi.1, ?_, ?_⟩, h6, h⟩
      · intro y hy
        rw [h8] at hy
        rw [h9]
        rcases List.mem_append.1 hy with hy | hy
        · have := I.st.lt y hy; omega
        · rw [List.mem_singleton.1 hy]; simp
      · rw [h8, List.map_append, List.nodup_append]
        refine ⟨I.st.nd, by simp, ?_⟩
        intro a ha b hb e
        obtain ⟨y, hy, rfl⟩ := List.mem_map.1 ha
        simp only [List.map_cons, List.map_nil, List.mem_singleton] at hb
        have := I.st.lt y hy
        rw [e, hb] at this
        omega
      · exact B'.L_out h5 i hi
      · intro y hy
        rw [h8] at hy
        rcases List.mem_append.1 hy with hy | hy
        · obtain ⟨o', p, f1, f2, f3, f4⟩ := (I.held y hy).ex
          exact ⟨o', p, f1, f2, f3, fun i hi => ⟨(f4 i hi).1, fun hf => (f4 i hi).2 hf.1⟩⟩
        · rw [List.mem_singleton.1 hy]
          exact ⟨k, q, rfl, rfl, hk8, fun i hi => ⟨I.fr i (hq i hi), fun hf => hf.2 hi⟩⟩
      · rw [h8, List.pairwise_append]
        refine ⟨I.dis, by simp, ?_⟩
        intro y hy b hb i hi
        rw [List.mem_singleton.1 hb] at hi
        obtain ⟨o', p, f1, f2, f3, f4⟩ := (I.held y hy).ex
        have h2' := (has_block (x := ⟨((q * 2 ^ k : Nat) : Int), k, B.clock⟩) (o := k) (p := q) rfl rfl i).1 hi.2
        exact (f4 i ((has_block f1 f2 i).1 hi.1)).2 (hq i h2')

/-- what Free answers, and what it leaves -/
inductive Frees (B : Bd) (M : Mem) (Fr : Nat → Prop) (f o : Int) : Bd → Mem → (Nat → Prop) → Int → Prop
  | none : B.ents.any (hit f o) = false → Frees B M Fr f o B M Fr 2
  | ok (k p j : Nat) (B' : Bd) : f = ((p * 2 ^ k : Nat) : Int) → o = k → k ≤ 8 → B.ents.findIdx? (hit f o) = some j → (∀ i, i / 2 ^ k = p → i < M.n ∧ ¬ Fr i) → B'.ents = B.ents.eraseIdx j →
      Frees B M Fr f o B' (M.scrub ((p * 2 ^ k : Nat) : Int) ((2 ^ k : Nat) : Int)) (fun i => Fr i ∨ i / 2 ^ k = p) 0

theorem free_inv (hs : Sat z w (B.hp :: M.hp :: F)) (I : Inv B M Fr) (f o : Int) :
    Calls Try.prog 9 #[.pointer (some ⟨B.p, 0, none⟩), .int .i64 f, .int .i64 o] w fun e w' => ∃ B' M' Fr' c, e = .returned (vi c) ∧ Frees B M Fr f o B' M' Fr' c ∧ Inv B' M' Fr' ∧ B'.p = B.p ∧ M'.p = M.p ∧ M'.n = M.n ∧ Sat z w' (B'.hp :: M'.hp :: F) := by
  cases hj : B.ents.findIdx? (hit f o) with
  | none =>
    have ha : B.ents.any (hit f o) = false := by
      rw [List.findIdx?_eq_none_iff] at hj
      rw [Bool.eq_false_iff]
      intro h
      obtain ⟨y, hy, hh⟩ := List.any_eq_true.1 h
      rw [hj y hy] at hh
      cases hh
    refine (free_none hs I.ok f o ha).mono ?_
    rintro e w' ⟨rfl, h⟩
    exact ⟨B, M, Fr, 2, rfl, .none ha, I, rfl, rfl, rfl, h⟩
  | some j =>
    obtain ⟨hjl, hjh, _⟩ := List.findIdx?_eq_some_iff_getElem.1 hj
    have hym : B.ents[j] ∈ B.ents := List.getElem_mem hjl
    obtain ⟨e1, e2⟩ := I.hit_spec hym hjh
    obtain ⟨k, p, f1, f2, f3, f4⟩ := (I.held _ hym).ex
    obtain rfl : f = ((p * 2 ^ k : Nat) : Int) := by rw [← e1, f1]
    obtain rfl : o = (k : Int) := by rw [← e2, f2]
    have hp := Nat.two_pow_pos k
    have hlast := (f4 (p * 2 ^ k + (2 ^ k - 1)) (by rw [Nat.div_eq_iff hp]; omega)).1
    have hn1 := I.mok.n1
    have hhas : M.has ((p * 2 ^ k : Nat) : Int) ((2 ^ k : Nat) : Int) = true := by
      simp only [Mem.has, Bool.and_eq_true, decide_eq_true_eq]
      generalize p * 2 ^ k = A at *
      generalize 2 ^ k = X at *
      omega
    have hf512 : p * 2 ^ k < 512 := by
      generalize p * 2 ^ k = A at *
      omega
    refine (free_ok hs I.ok I.mok I.mp (p * 2 ^ k) k f3 hf512 j hj hhas I.bi.rise (fun i hi => by have := I.len i hi; omega)).mono ?_
    rintro e w' ⟨B', rfl, h1, h2, h3, h4, h5, h6, h⟩
    have hs1 : M.scrub ((p * 2 ^ k : Nat) : Int) ((2 ^ k : Nat) : Int) = { M with W := wipe M.W (16 * (p * 2 ^ k)) (16 * 2 ^ k) } := by
      unfold Mem.scrub
      rw [if_pos hhas]
      simp only [Int.toNat_natCast]
    have hbi := I.bi.free f3 (fun i hi => (f4 i hi).2)
    have hne : ∀ y ∈ B.ents.eraseIdx j, ∀ i, ¬ (y.has i ∧ i / 2 ^ k = p) := by
      intro y hy i ⟨hi1, hi2⟩
      obtain ⟨a, ha, rfl⟩ := List.mem_iff_getElem.1 hy
      rw [List.getElem_eraseIdx] at hi1
      have hd := List.pairwise_iff_getElem.1 I.dis
      have hx : B.ents[j].has i := (has_block f1 f2 i).2 hi2
      have hla : a < B.ents.length - 1 := by rw [List.length_eraseIdx_of_lt hjl] at ha; exact ha
      split at hi1
      · rename_i hlt
        exact hd a j (by omega) hjl hlt i ⟨hi1, hx⟩
      · exact hd j (a + 1) hjl (by omega) (by omega) i ⟨hx, hi1⟩
    refine ⟨B', M.scrub ((p * 2 ^ k : Nat) : Int) ((2 ^ k : Nat) : Int), fun i => Fr i ∨ i / 2 ^ k = p, 0, rfl, .ok k p j B' rfl rfl f3 hj f4 h4, ⟨h1, ?_, ?_, ⟨?_, ?_⟩, hbi.congr (fun i _ => h6 i) (fun i hi => B'.L_out h1 i hi) (fun _ => Iff.rfl), ?_, ?_, ?_⟩, h2, by rw [hs1], by rw [hs1], h⟩
    · rw [hs1]
      exact ⟨I.mok.n0, I.mok.n1, by rw [← I.mok.len]; exact wipe_len _ _ _ (by rw [I.mok.len]; generalize p * 2 ^ k = A at *; generalize 2 ^ k = X at *; omega)⟩
    · rw [h3, I.mp, hs1]
    · intro y hy
      rw [h4] at hy
      rw [h5]
      exact I.st.lt y (List.mem_of_mem_eraseIdx hy)
    · rw [h4]
      exact I.st.nd.sublist ((List.eraseIdx_sublist _ _).map _)
    · intro i hi
      rw [hs1]
      rcases hi with hi | hi
      · exact I.fr i hi
      · exact (f4 i hi).1
    · intro y hy
      rw [h4] at hy
      obtain ⟨o', p', g1, g2, g3, g4⟩ := (I.held y (List.mem_of_mem_eraseIdx hy)).ex
      rw [hs1]
      refine ⟨o', p', g1, g2, g3, fun i hi => ⟨(g4 i hi).1, ?_⟩⟩
      rintro (hf | hf)
      · exact (g4 i hi).2 hf
      · exact hne y hy i ⟨(has_block g1 g2 i).2 hi, hf⟩
    · rw [h4]
      exact I.dis.sublist (List.eraseIdx_sublist _ _)
end
end Go.Proofs.Ytglelfceogpbpaa
