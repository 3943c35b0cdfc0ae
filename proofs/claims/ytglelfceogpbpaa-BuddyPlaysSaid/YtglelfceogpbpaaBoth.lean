/- The program's buddy and the reference's, side by side. -/
import Derived.Test.YtglelfceogpbpaaRFree2
import Derived.Test.YtglelfceogpbpaaAll
namespace Go.Proofs.Ytglelfceogpbpaa
open Go.RowKit

structure Both (B : Bd) (M : Mem) (Fr : Nat → Prop) (R : RB) (N : RMem) : Prop where
  inv : Inv B M Fr
  rok : R.ok
  nok : N.ok
  rmp : R.mp = N.p
  n : N.n = M.n
  fl : R.f.length = M.n
  W : N.W = M.W
  f : ∀ i, R.f[i]? = some true ↔ Fr i
  gv : R.gv = B.ents.map fo

section
variable {B : Bd} {M : Mem} {Fr : Nat → Prop} {R : RB} {N : RMem}

theorem Both.bi (b : Both B M Fr R N) : Bi B.L (fun i => R.f[i]? = some true) :=
  b.inv.bi.congr (fun _ _ => rfl) (fun k hk => B.L_out b.inv.ok k hk) b.f

theorem allB_allL (B : Bd) : allB B = allL B.L := rfl

/-- what the reference's Alloc answers, and what it leaves -/
inductive RAllocs (B : Bd) (R : RB) (o : Int) : RB → Int → Int → Prop
  | bad : (o < 0 ∨ 8 < o) → RAllocs B R o R 0 1
  | full (k : Nat) : o = k → k ≤ 8 → (∀ y ∈ allL B.L, y.2 < k) → RAllocs B R o R 0 6
  | ok (k x : Nat) (j : Int) (R' : RB) : o = k → k ≤ 8 → ((x : Int), j) ∈ allL B.L → (k : Int) ≤ j → (∀ y ∈ allL B.L, (k : Int) ≤ y.2 → j ≤ y.2 ∧ (y.2 = j → (x : Int) ≤ y.1)) → R'.ok → R'.p = R.p → R'.mp = R.mp →
      R'.f = setR R.f x (2 ^ k) false → R'.gv = R.gv ++ [((x : Int), (k : Int))] → RAllocs B R o R' x 0

theorem Both.alloc (b : Both B M Fr R N) {o : Int} {B' : Bd} {Fr' : Nat → Prop} {x c : Int} (h : Allocs B M Fr o B' Fr' x c) (I' : Inv B' M Fr') {R' : RB} {x' c' : Int} (h' : RAllocs B R o R' x' c') :
    x = x' ∧ c = c' ∧ Both B' M Fr' R' N ∧ R'.p = R.p := by
  cases h with
  | bad hb =>
    cases h' with
    | bad _ => exact ⟨rfl, rfl, b, rfl⟩
    | full k e hk _ => omega
    | ok k x j R' e hk _ _ _ _ _ _ _ _ => omega
  | full k e hk hempty =>
    cases h' with
    | bad hb => omega
    | full _ _ _ _ => exact ⟨rfl, rfl, b, rfl⟩
    | ok k' x j R' e' hk' hin hkj _ _ _ _ _ _ =>
      exfalso
      obtain ⟨jn, hj9, hj, hx⟩ := mem_allL.1 hin
      simp only at hj hx
      rw [hempty jn (by omega) (by omega)] at hx
      simp at hx
  | ok k j q _ e hkj hj8 he hx hq hents hL =>
    have hhead : ((q * 2 ^ k : Nat) : Int) ∈ B.L j := by
      cases hl : B.L j with
      | nil => rw [hl] at hx; simp at hx
      | cons a l => rw [hl] at hx; simp at hx; simp [hx]
    have hmem : (((q * 2 ^ k : Nat) : Int), (j : Int)) ∈ allL B.L := mem_allL.2 ⟨j, by omega, rfl, hhead⟩
    cases h' with
    | bad hb => omega
    | full k' e' hk' hall => have := hall _ hmem; simp only at this; omega
    | ok k' x' j' R' e' hk' hin hkj' hmin rok rp rmp rf rgv =>
      obtain rfl : k = k' := by omega
      obtain ⟨jn, hj9, hj, hx'⟩ := mem_allL.1 hin
      simp only at hj hx'
      have h1 := hmin _ hmem (by simp only; omega)
      obtain ⟨h1a, h1b⟩ : j' ≤ (j : Int) ∧ ((j : Int) = j' → (x' : Int) ≤ ((q * 2 ^ k : Nat) : Int)) := h1
      have hjj : jn = j := by
        rcases Nat.lt_trichotomy jn j with h | h | h
        · rw [he jn (by omega) h] at hx'; simp at hx'
        · exact h
        · omega
      subst hjj
      have hle := h1b hj.symm
      have hge : ((q * 2 ^ k : Nat) : Int) ≤ x' := by
        have hr := b.inv.bi.rise jn hj8
        cases hl : B.L jn with
        | nil => rw [hl] at hx; simp at hx
        | cons a l =>
          rw [hl] at hx hx' hr
          simp only [List.head?_cons, Option.some.injEq] at hx
          rcases List.mem_cons.1 hx' with e | h
          · omega
          · have := (List.pairwise_cons.1 hr).1 _ h; omega
      have hxx : x' = q * 2 ^ k := by omega
      subst hxx
      refine ⟨rfl, rfl, ⟨I', rok, b.nok, rmp.trans b.rmp, b.n, by rw [rf, setR_len]; exact b.fl, b.W, fun i => ?_, ?_⟩, rp⟩
      · rw [rf, setR_get]
        have hp := Nat.two_pow_pos k
        by_cases hin : q * 2 ^ k ≤ i ∧ i < q * 2 ^ k + 2 ^ k
        · have : i / 2 ^ k = q := (Nat.div_eq_iff hp).2 (by omega)
          constructor
          · intro h
            cases hf : R.f[i]? with
            | none => rw [hf] at h; simp at h
            | some v => rw [hf, Option.map_some, if_pos hin] at h; simp at h
          · intro h; exact absurd this h.2
        · have hne : i / 2 ^ k ≠ q := fun h => hin (by have := (Nat.div_eq_iff hp).1 h; omega)
          have : (R.f[i]?).map (fun b => if q * 2 ^ k ≤ i ∧ i < q * 2 ^ k + 2 ^ k then false else b) = R.f[i]? := by
            cases R.f[i]? with
            | none => rfl
            | some v => rw [Option.map_some, if_neg hin]
          rw [this, b.f]
          exact ⟨fun h => ⟨h, hne⟩, fun h => h.1⟩
      · rw [rgv, hents, b.gv]; simp

theorem Both.write (b : Both B M Fr R N) (a v : Int) : Both B (M.put a v) Fr R (N.put a v) ∧ M.inside a = N.inside a ∧ (N.put a v).p = N.p := by
  have hp : (N.put a v).p = N.p ∧ (N.put a v).n = N.n := by unfold RMem.put; split <;> exact ⟨rfl, rfl⟩
  refine ⟨⟨b.inv.put a v, b.rok, ?_, b.rmp.trans hp.1.symm, by rw [hp.2, (M.put_n a v).1]; exact b.n, by rw [(M.put_n a v).1]; exact b.fl, ?_, b.f, b.gv⟩, ?_, hp.1⟩
  · unfold RMem.put
    split
    · exact RMem.set_ok b.nok _ _
    · exact b.nok
  · unfold RMem.put Mem.put
    rw [b.n]
    split
    · show N.W.set _ _ = M.W.set _ _
      rw [b.W]
    · exact b.W
  · unfold Mem.inside RMem.inside
    rw [b.n]

theorem Both.read (b : Both B M Fr R N) (a : Int) : M.read a = N.read a := by
  unfold Mem.read RMem.read
  rw [b.n, b.W]

theorem Both.left (b : Both B M Fr R N) : sumTo B 9 = cnt R.f R.f.length := by
  have I : Inv B M (fun i => R.f.getD i false = true) := by
    have : Fr = fun i => R.f.getD i false = true := funext fun i => propext (by
      rw [← b.f, List.getD_eq_getElem?_getD]
      cases R.f[i]? with
      | none => simp
      | some v => simp)
    rw [← this]; exact b.inv
  rw [left_count I, b.fl]
  rfl

/-- a block that was given lies in the memory -/
theorem Both.fits (b : Both B M Fr R N) {f o : Int} (h : (f, o) ∈ R.gv) : ∃ xn k : Nat, f = xn ∧ o = k ∧ k ≤ 8 ∧ xn + 2 ^ k ≤ R.f.length := by
  rw [b.gv] at h
  obtain ⟨y, hy, e⟩ := List.mem_map.1 h
  simp only [fo, Prod.mk.injEq] at e
  obtain ⟨k, p, f1, f2, f3, f4⟩ := (b.inv.held y hy).ex
  have hp := Nat.two_pow_pos k
  have := (f4 (p * 2 ^ k + (2 ^ k - 1)) (by rw [Nat.div_eq_iff hp]; omega)).1
  exact ⟨p * 2 ^ k, k, by rw [← e.1, f1], by rw [← e.2, f2], f3, by rw [b.fl]; omega⟩

theorem erase_map {α β : Type} (g : α → β) (l : List α) (j : Nat) : (l.eraseIdx j).map g = (l.map g).eraseIdx j := by
  simp [List.eraseIdx_eq_take_drop_succ]

/-- what the reference's Free answers, and what it leaves -/
inductive RFrees (R : RB) (N : RMem) (f o : Int) : RB → RMem → Int → Prop
  | none : (∀ y ∈ R.gv, y ≠ (f, o)) → RFrees R N f o R N 2
  | ok (xn k i : Nat) (R' : RB) : f = xn → o = k → k ≤ 8 → R.gv[i]? = some (f, o) → (∀ j y, j < i → R.gv[j]? = some y → y ≠ (f, o)) → R'.ok → R'.p = R.p → R'.mp = R.mp → R'.f = setR R.f xn (2 ^ k) true → R'.gv = R.gv.eraseIdx i →
      RFrees R N f o R' { N with W := wipe N.W (16 * xn) (16 * 2 ^ k) } 0

theorem Both.free (b : Both B M Fr R N) {f o c : Int} {B' : Bd} {M' : Mem} {Fr' : Nat → Prop} (h : Frees B M Fr f o B' M' Fr' c) (I' : Inv B' M' Fr') {R' : RB} {N' : RMem} {c' : Int} (h' : RFrees R N f o R' N' c') :
    c = c' ∧ Both B' M' Fr' R' N' ∧ R'.p = R.p ∧ N'.p = N.p := by
  cases h with
  | none hn =>
    cases h' with
    | none _ => exact ⟨rfl, b, rfl, rfl⟩
    | ok xn k i _ hf ho hk hi _ _ _ _ _ _ =>
      exfalso
      have hm := List.mem_of_getElem? hi
      rw [b.gv] at hm
      obtain ⟨y, hy, e⟩ := List.mem_map.1 hm
      simp only [fo, Prod.mk.injEq] at e
      rw [List.any_eq_false] at hn
      exact hn y hy (by simp [hit, e.1, e.2])
  | ok k p j _ hf ho hk hj hb he =>
    obtain ⟨hjl, hjh, hjlow⟩ := List.findIdx?_eq_some_iff_getElem.1 hj
    obtain ⟨e1, e2⟩ := b.inv.hit_spec (List.getElem_mem hjl) hjh
    have hgj : R.gv[j]? = some (f, o) := by
      rw [b.gv, List.getElem?_map, List.getElem?_eq_getElem hjl]
      simp [fo, e1, e2]
    cases h' with
    | none hn => exact absurd rfl (hn _ (List.mem_of_getElem? hgj))
    | ok xn k' i _ hf' ho' hk' hi hlow rok rp rmp rf rgv =>
      obtain rfl : k = k' := by omega
      have hxn : xn = p * 2 ^ k := by omega
      subst hxn
      have hij : i = j := by
        rcases Nat.lt_trichotomy i j with h | h | h
        · exfalso
          have hil : i < B.ents.length := by omega
          have := hjlow i h
          rw [b.gv, List.getElem?_map, List.getElem?_eq_getElem hil] at hi
          simp only [Option.map_some, Option.some.injEq, fo, Prod.mk.injEq] at hi
          exact this (by simp [hit, hi.1, hi.2])
        · exact h
        · exact absurd rfl (hlow j _ h hgj)
      subst hij
      have hp := Nat.two_pow_pos k
      have hlast := (hb (p * 2 ^ k + (2 ^ k - 1)) (by rw [Nat.div_eq_iff hp]; omega)).1
      have hn1 := b.inv.mok.n1
      have hhas : M.has ((p * 2 ^ k : Nat) : Int) ((2 ^ k : Nat) : Int) = true := by
        simp only [Mem.has, Bool.and_eq_true, decide_eq_true_eq]
        generalize p * 2 ^ k = A at *
        generalize 2 ^ k = X at *
        omega
      have hs1 : M.scrub ((p * 2 ^ k : Nat) : Int) ((2 ^ k : Nat) : Int) = { M with W := wipe M.W (16 * (p * 2 ^ k)) (16 * 2 ^ k) } := by
        unfold Mem.scrub
        rw [if_pos hhas]
        simp only [Int.toNat_natCast]
      rw [hs1] at I' ⊢
      refine ⟨rfl, ⟨I', rok, ⟨b.nok.n0, b.nok.n1, ?_⟩, rmp.trans b.rmp, b.n, by rw [rf, setR_len]; exact b.fl, ?_, fun i' => ?_, ?_⟩, rp, rfl⟩
      · show (wipe N.W _ _).length = _
        rw [wipe_len, b.nok.len]
        rw [b.nok.len, b.n]
        generalize p * 2 ^ k = A at *
        generalize 2 ^ k = X at *
        omega
      · show wipe N.W _ _ = wipe M.W _ _
        rw [b.W]
      · rw [rf, setR_get]
        by_cases hin : p * 2 ^ k ≤ i' ∧ i' < p * 2 ^ k + 2 ^ k
        · have hdiv : i' / 2 ^ k = p := (Nat.div_eq_iff hp).2 (by omega)
          have hlt : i' < R.f.length := by rw [b.fl]; omega
          rw [List.getElem?_eq_getElem hlt, Option.map_some, if_pos hin]
          exact ⟨fun _ => .inr hdiv, fun _ => rfl⟩
        · have hne : i' / 2 ^ k ≠ p := fun h => hin (by have := (Nat.div_eq_iff hp).1 h; omega)
          have : (R.f[i']?).map (fun b => if p * 2 ^ k ≤ i' ∧ i' < p * 2 ^ k + 2 ^ k then true else b) = R.f[i']? := by
            cases R.f[i']? with
            | none => rfl
            | some v => rw [Option.map_some, if_neg hin]
          rw [this, b.f]
          exact ⟨fun h => .inl h, fun h => h.resolve_right hne⟩
      · rw [rgv, he, b.gv, erase_map]

theorem held_fst (I : Inv B M Fr) : ((B.ents.map fo).map Prod.fst).Nodup := by
  rw [List.map_map]
  unfold List.Nodup
  rw [List.pairwise_map]
  refine List.Pairwise.imp_of_mem ?_ I.dis
  intro a b' ha hb hab e
  obtain ⟨k, p, f1, f2, f3, f4⟩ := (I.held a ha).ex
  obtain ⟨k', p', g1, g2, g3, g4⟩ := (I.held b' hb).ex
  simp only [Function.comp] at e
  have h1 := (has_block f1 f2 (p * 2 ^ k)).2 (Dy.first_of p k)
  have e' : p * 2 ^ k = p' * 2 ^ k' := by
    have : ((p * 2 ^ k : Nat) : Int) = ((p' * 2 ^ k' : Nat) : Int) := by rw [← f1, ← g1, e]
    exact_mod_cast this
  have h2 := (has_block g1 g2 (p * 2 ^ k)).2 (by rw [e']; exact Dy.first_of p' k')
  exact hab _ ⟨h1, h2⟩

theorem Both.held (b : Both B M Fr R N) {S S' : List (Int × Int)} (p : S.Perm (B.ents.map fo)) (s : ByFrame S) (p' : S'.Perm R.gv) (s' : ByFrame S') : S = S' :=
  sorted_ext Prod.fst (p.trans (b.gv ▸ p'.symm)) s s' ((p.map _).nodup_iff.2 (held_fst b.inv))

theorem Both.blocks (b : Both B M Fr R N) {S S' : List (Int × Int)} (p : S.Perm (allB B)) (s : ByFrame S) (p' : S'.Perm (allL B.L)) (s' : S'.Pairwise (fun x y => x.1 < y.1)) : S = S' :=
  sorted_ext Prod.fst (p.trans p'.symm) s (s'.imp (fun h => Int.le_of_lt h)) ((p.map _).nodup_iff.2 (allB_fst b.inv))
end

section
variable {z w : World} {F : List Chunk} {B : Bd} {M : Mem} {Fr : Nat → Prop} {R : RB} {N : RMem}
theorem ralloc_both (hs : Sat z w (R.hp :: F)) (b : Both B M Fr R N) (hgl : R.gv.length ≤ 900) (o : Int) :
    Calls Try.prog 20 #[.pointer (some ⟨R.p, 0, none⟩), vi o] w fun e w' => ∃ R' x c, e = .returned (.tuple #[vi x, vi c]) ∧ RAllocs B R o R' x c ∧ Sat z w' (R'.hp :: F) := by
  by_cases hb : o < 0 ∨ 8 < o
  · refine (ralloc_bad hs o hb).mono ?_
    rintro e w' ⟨rfl, h⟩
    exact ⟨R, 0, 1, rfl, .bad hb, h⟩
  · obtain ⟨k, rfl⟩ : ∃ k : Nat, o = k := ⟨o.toNat, by omega⟩
    refine (ralloc_ok hs b.rok hgl b.bi k (by omega)).mono ?_
    rintro e w' (⟨h1, rfl, h⟩ | ⟨x, j, R', h1, h2, h3, rfl, h4, h5, h6, h7, h8, h⟩)
    · exact ⟨R, 0, 6, rfl, .full k rfl (by omega) h1, h⟩
    · exact ⟨R', x, 0, rfl, .ok k x j R' rfl (by omega) h1 h2 h3 h4 h5 h6 h7 h8, h⟩

theorem rfree_both (hs : Sat z w (R.hp :: N.hp :: F)) (b : Both B M Fr R N) (f o : Int) :
    Calls Try.prog 21 #[.pointer (some ⟨R.p, 0, none⟩), vi f, vi o] w fun e w' => ∃ R' N' c, e = .returned (vi c) ∧ RFrees R N f o R' N' c ∧ Sat z w' (R'.hp :: N'.hp :: F) := by
  by_cases hin : (f, o) ∈ R.gv
  · obtain ⟨xn, k, rfl, rfl, hk, hfit⟩ := b.fits hin
    refine (rfree_some hs b.rok b.nok b.rmp (by rw [b.fl, b.n]) xn k hk hfit hin).mono ?_
    rintro e w' h
    obtain ⟨i, R', h1, h2, rfl, h3, h4, h5, h6, h7, h8⟩ := h
    exact ⟨R', _, 0, rfl, .ok xn k i R' rfl rfl hk h1 h2 h3 h4 h5 h6 h7, h8⟩
  · have hno : ∀ y ∈ R.gv, y ≠ (f, o) := fun y hy e => hin (e ▸ hy)
    refine (rfree_none hs b.rok f o hno).mono ?_
    rintro e w' ⟨rfl, h⟩
    exact ⟨R, N, 2, rfl, .none hno, h⟩
end
end Go.Proofs.Ytglelfceogpbpaa
