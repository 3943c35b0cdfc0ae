/- All frames that are not reserved are free or given; the free ones are noughts; the free blocks are told by the free frames alone. -/
import Derived.Test.YtglelfceogpbpaaMaxi
import Derived.Test.YtglelfceogpbpaaCount
namespace Go.Proofs.Ytglelfceogpbpaa
open Go.RowKit

structure All (B : Bd) (M : Mem) (Fr : Nat → Prop) (r : Nat) : Prop where
  all : ∀ i, (r ≤ i ∧ i < M.n) ↔ (Fr i ∨ ∃ x ∈ B.ents, x.has i)
  nil : ∀ i, Fr i → ∀ j, j < 16 → M.W[16 * i + j]? = some 0

section
variable {B : Bd} {M : Mem} {Fr : Nat → Prop} {r : Nat}

theorem All.start (hM : M.ok) (he : B.ents = []) (hW : M.W = List.replicate (16 * M.n) 0) : All B M (fun i => r ≤ i ∧ i < M.n) r := by
  refine ⟨fun i => by simp [he], fun i hi j hj => ?_⟩
  rw [hW, List.getElem?_replicate, if_pos (by omega)]

theorem All.alloc (A : All B M Fr r) {o x c : Int} {B' : Bd} {Fr' : Nat → Prop} (h : Allocs B M Fr o B' Fr' x c) : All B' M Fr' r := by
  cases h with
  | bad _ => exact A
  | full _ _ _ _ => exact A
  | ok k j q _ e hkj hj8 he hx hq hents hL =>
    refine ⟨fun i => ?_, fun i hi => A.nil i hi.1⟩
    have hb : Ent.has ⟨((q * 2 ^ k : Nat) : Int), k, B.clock⟩ i ↔ i / 2 ^ k = q := has_block rfl rfl i
    rw [A.all i, hents]
    constructor
    · rintro (h | ⟨y, hy, h⟩)
      · by_cases e : i / 2 ^ k = q
        · exact .inr ⟨_, List.mem_append_right _ (List.mem_singleton.2 rfl), hb.2 e⟩
        · exact .inl ⟨h, e⟩
      · exact .inr ⟨y, List.mem_append_left _ hy, h⟩
    · rintro (h | ⟨y, hy, h⟩)
      · exact .inl h.1
      · rcases List.mem_append.1 hy with hy | hy
        · exact .inr ⟨y, hy, h⟩
        · rw [List.mem_singleton.1 hy] at h
          exact .inl (hq i (hb.1 h))

theorem mem_erase_or {α : Type} {l : List α} {j : Nat} (hj : j < l.length) {x : α} (h : x ∈ l) : x ∈ l.eraseIdx j ∨ x = l[j] := by
  obtain ⟨a, ha, rfl⟩ := List.mem_iff_getElem.1 h
  rcases Nat.lt_trichotomy a j with h1 | h1 | h1
  · exact .inl (List.mem_iff_getElem.2 ⟨a, by rw [List.length_eraseIdx_of_lt hj]; omega, by rw [List.getElem_eraseIdx_of_lt]; exact h1⟩)
  · subst h1; exact .inr rfl
  · refine .inl (List.mem_iff_getElem.2 ⟨a - 1, by rw [List.length_eraseIdx_of_lt hj]; omega, ?_⟩)
    rw [List.getElem_eraseIdx_of_ge (h' := by omega)]
    congr 1
    omega

theorem All.free (I : Inv B M Fr) (A : All B M Fr r) {f o c : Int} {B' : Bd} {M' : Mem} {Fr' : Nat → Prop} (h : Frees B M Fr f o B' M' Fr' c) : All B' M' Fr' r := by
  cases h with
  | none _ => exact A
  | ok k p j _ hf ho hk hj hb he =>
    obtain ⟨hjl, hjh, _⟩ := List.findIdx?_eq_some_iff_getElem.1 hj
    obtain ⟨e1, e2⟩ := I.hit_spec (List.getElem_mem hjl) hjh
    have hx : ∀ i, B.ents[j].has i ↔ i / 2 ^ k = p := has_block (by rw [e1, hf]) (by rw [e2, ho])
    have hp := Nat.two_pow_pos k
    have hlast := (hb (p * 2 ^ k + (2 ^ k - 1)) (by rw [Nat.div_eq_iff hp]; omega)).1
    have hn1 := I.mok.n1
    have hhas : M.has ((p * 2 ^ k : Nat) : Int) ((2 ^ k : Nat) : Int) = true := by
      simp only [Mem.has, Bool.and_eq_true, decide_eq_true_eq]
      generalize p * 2 ^ k = A at *
      generalize 2 ^ k = X at *
      omega
    have hs1 : M.scrub ((p * 2 ^ k : Nat) : Int) ((2 ^ k : Nat) : Int) = { M with W := wipe M.W (16 * (p * 2 ^ k)) (16 * 2 ^ k) } := by
      unfold Mem.scrub
      rw [if_pos hhas]
      simp only [Int.toNat_natCast]
    rw [hs1]
    refine ⟨fun i => ?_, fun i hi => ?_⟩
    · show _ ↔ _
      rw [show ({ M with W := wipe M.W (16 * (p * 2 ^ k)) (16 * 2 ^ k) } : Mem).n = M.n from rfl, A.all i, he]
      constructor
      · rintro (h | ⟨y, hy, h⟩)
        · exact .inl (.inl h)
        · rcases mem_erase_or hjl hy with hy | hy
          · exact .inr ⟨y, hy, h⟩
          · rw [hy] at h; exact .inl (.inr ((hx i).1 h))
      · rintro ((h | h) | ⟨y, hy, h⟩)
        · exact .inl h
        · exact .inr ⟨_, List.getElem_mem hjl, (hx i).2 h⟩
        · exact .inr ⟨y, List.mem_of_mem_eraseIdx hy, h⟩
    · intro jj hjj
      show (wipe M.W (16 * (p * 2 ^ k)) (16 * 2 ^ k))[16 * i + jj]? = some 0
      have hlen := I.mok.len
      rw [wipe_get _ _ _ _ (by rw [hlen]; generalize p * 2 ^ k = A at *; generalize 2 ^ k = X at *; omega)]
      by_cases hin : 16 * (p * 2 ^ k) ≤ 16 * i + jj ∧ 16 * i + jj < 16 * (p * 2 ^ k) + 16 * 2 ^ k
      · rw [if_pos hin]
      · rw [if_neg hin]
        rcases hi with hi | hi
        · exact A.nil i hi jj hjj
        · exfalso
          have h2 := (Nat.div_eq_iff hp).1 hi
          apply hin
          generalize p * 2 ^ k = A at *
          generalize 2 ^ k = X at *
          omega

theorem Inv.put (I : Inv B M Fr) (a v : Int) : Inv B (M.put a v) Fr := by
  have hn : (M.put a v).n = M.n := by unfold Mem.put; split <;> rfl
  have hp : (M.put a v).p = M.p := by unfold Mem.put; split <;> rfl
  exact ⟨I.ok, Mem.put_ok I.mok a v, I.mp.trans hp.symm, I.st, I.bi, fun i hi => by rw [hn]; exact I.fr i hi, by rw [hn]; exact I.held, I.dis⟩
theorem Mem.put_n (M : Mem) (a v : Int) : (M.put a v).n = M.n ∧ (M.put a v).p = M.p := by unfold Mem.put; split <;> exact ⟨rfl, rfl⟩

theorem All.put (A : All B M Fr r) (a : Nat) (v : Int) (h : ¬ Fr (a / 16)) : All B (M.put a v) Fr r := by
  refine ⟨fun i => by rw [(M.put_n a v).1]; exact A.all i, fun i hi j hj => ?_⟩
  unfold Mem.put
  split
  · show (M.W.set (a : Int).toNat v)[16 * i + j]? = some 0
    rw [List.getElem?_set, if_neg]
    · exact A.nil i hi j hj
    · intro e
      refine h ?_
      have : a / 16 = i := by simp at e; omega
      rw [this]; exact hi
  · exact A.nil i hi j hj

/-- what was taken back is not given: it is not taken back again -/
theorem Frees.again (I : Inv B M Fr) {f o : Int} {B' B2 : Bd} {M' M2 : Mem} {Fr' Fr2 : Nat → Prop} {c2 : Int} (h : Frees B M Fr f o B' M' Fr' 0) (h2 : Frees B' M' Fr' f o B2 M2 Fr2 c2) : c2 = 2 ∧ B2 = B' ∧ M2 = M' := by
  cases h2 with
  | none _ => exact ⟨rfl, rfl, rfl⟩
  | ok k p j _ hf ho hk hj hb he =>
    exfalso
    cases h with
    | ok k' p' j' _ hf' ho' hk' hj' hb' he' =>
      obtain rfl : k = k' := by omega
      have := cast_mul_inj (hf.symm.trans hf')
      subst this
      exact (hb (p * 2 ^ k) (Dy.first_of p k)).2 (.inr (Dy.first_of p k))

theorem Frees.given {f o : Int} {B' : Bd} {M' : Mem} {Fr' : Nat → Prop} {c : Int} (h : Frees B M Fr f o B' M' Fr' c) (hm : (f, o) ∈ B.ents.map fo) : c = 0 ∧ B'.ents.length + 1 = B.ents.length := by
  obtain ⟨y, hy, e⟩ := List.mem_map.1 hm
  have ha : B.ents.any (hit f o) = true := by
    rw [List.any_eq_true]
    simp only [fo, Prod.mk.injEq] at e
    exact ⟨y, hy, by simp [hit, e.1, e.2]⟩
  cases h with
  | none h => rw [h] at ha; cases ha
  | ok k p j _ hf ho hk hj hb he =>
    have hjl := (List.findIdx?_eq_some_iff_getElem.1 hj).1
    refine ⟨rfl, ?_⟩
    rw [he, List.length_eraseIdx_of_lt hjl]
    omega

theorem allB_fst (I : Inv B M Fr) : ((allB B).map Prod.fst).Nodup := by
  unfold List.Nodup
  rw [List.pairwise_map]
  have key : ∀ {l : List (Int × Int)}, l.Nodup → (∀ x ∈ l, x ∈ allB B) → l.Pairwise (fun a b => a.1 ≠ b.1) := by
    intro l hn hm
    refine List.Pairwise.imp_of_mem ?_ hn
    intro a b ha hb hab e
    obtain ⟨q, o, rfl, _, h1, _, _⟩ := block_form I (hm a ha)
    obtain ⟨q', o', rfl, _, h1', _, _⟩ := block_form I (hm b hb)
    simp only at e
    have e' : q * 2 ^ o = q' * 2 ^ o' := by exact_mod_cast e
    have := I.bi.part.dis (q * 2 ^ o) o o' (by rw [Dy.first_of]; exact h1) (by rw [e', Dy.first_of]; exact h1')
    subst this
    exact hab (by rw [e])
  exact key (allB_nodup I) (fun _ h => h)

theorem allB_same {B' : Bd} {M' : Mem} {Fr' : Nat → Prop} (I : Inv B M Fr) (I' : Inv B' M' Fr') (h : ∀ i, Fr i ↔ Fr' i) : allB B = allB B' := by
  unfold allB
  rw [List.flatMap_def, List.flatMap_def]
  congr 1
  refine List.map_congr_left fun k hk => ?_
  rw [I.bi.ext I'.bi h k (by simp at hk; omega)]

theorem blocks_same {B' : Bd} {M' : Mem} {Fr' : Nat → Prop} (I : Inv B M Fr) (I' : Inv B' M' Fr') (h : ∀ i, Fr i ↔ Fr' i) {S S' : List (Int × Int)} (p : S.Perm (allB B)) (p' : S'.Perm (allB B'))
    (s : S.Pairwise (fun x y => x.1 ≤ y.1)) (s' : S'.Pairwise (fun x y => x.1 ≤ y.1)) : S = S' :=
  sorted_ext Prod.fst (p.trans ((allB_same I I' h) ▸ p'.symm)) s s' ((p.map _).nodup_iff.2 (allB_fst I))

theorem sumTo_sum (B : Bd) : ∀ m, sumTo B m = ((List.range m).map fun k => (B.L k).length * 2 ^ k).sum := by
  intro m
  induction m with
  | zero => rfl
  | succ m ih => rw [sumTo_succ, ih, List.range_succ]; simp

theorem left_count {f : Nat → Bool} (I : Inv B M (fun i => f i = true)) : sumTo B 9 = (List.range M.n).countP f := by
  rw [sumTo_sum, count_all I.bi M.n (fun i hi => I.fr i hi)]

theorem left_all (I : Inv B M Fr) (hf : ∀ i, Fr i ↔ (r ≤ i ∧ i < M.n)) (hr : r ≤ M.n) : sumTo B 9 = M.n - r := by
  have I' : Inv B M (fun i => (decide (r ≤ i) && decide (i < M.n)) = true) := by
    have : Fr = fun i => (decide (r ≤ i) && decide (i < M.n)) = true := funext fun i => propext (by rw [hf i]; simp)
    rw [← this]; exact I
  rw [left_count I', countP_between r M.n hr M.n (Nat.le_refl _)]

theorem All.zero (A : All B M Fr r) (hM : M.ok) (i : Nat) (hi : i < M.n) (hf : Fr i) : M.zero i = true := by
  have hn := hM.n1
  have hh : M.has i 1 = true := by
    simp only [Mem.has, Bool.and_eq_true, decide_eq_true_eq]
    omega
  rw [Mem.zero, hh, Bool.true_and, List.all_eq_true]
  intro v hv
  obtain ⟨j, hj, rfl⟩ := List.mem_iff_getElem.1 hv
  have hj' := hj
  simp only [List.length_take] at hj'
  have := A.nil i hf j (by omega)
  have e : ((M.W.drop (16 * (i : Int).toNat)).take 16)[j]? = some 0 := by
    rw [List.getElem?_take_of_lt (by omega), List.getElem?_drop]
    simpa using this
  rw [List.getElem?_eq_getElem hj, Option.some.injEq] at e
  rw [beq_iff_eq]
  exact e
end
end Go.Proofs.Ytglelfceogpbpaa
