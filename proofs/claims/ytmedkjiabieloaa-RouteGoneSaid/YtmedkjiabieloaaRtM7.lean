/- Plain laws: the order of prefixes; places in a rising row. Plain laws: masks twice; good rows; what is found. What the calls of a table answer, as functions; both tables' contracts. awake: the document's examples. (Texts of this session, put together by wip/tools/merge.py.) -/
import Derived.Test.YtmedkjiabieloaaRtM6
namespace Go.Proofs.Ytmedkjiabieloaa.Rt
open Go.RowKit Go.Proofs.YtmedkjiabieloaaW.PrintWords Go.Proofs.YtmedkjiabieloaaW.PrintLast Go.Proofs.YtmedkjiabieloaaW.PrintMore Go.Proofs.Ytmedkjiabieloaa.QRd
open Go.Proofs.Ytmedkjiabieloaa
set_option linter.unusedVariables false
set_option linter.unusedSimpArgs false
theorem bl_irr : ∀ a : List UInt8, Op.bytesLess a a = false
  | [] => rfl
  | a :: x => by
    have h : ¬ (a < a) := fun k => by have := UInt8.lt_iff_toNat_lt.mp k; omega
    simp [Op.bytesLess, h, bl_irr x]
theorem bl_trans : ∀ a b c : List UInt8, Op.bytesLess a b = true → Op.bytesLess b c = true → Op.bytesLess a c = true
  | _, [], _, h, _ => by simp [Op.bytesLess] at h
  | _, _ :: _, [], _, h => by simp [Op.bytesLess] at h
  | [], _ :: _, _ :: _, _, _ => rfl
  | a :: x, b :: y, c :: z, h1, h2 => by
    simp only [Op.bytesLess, Bool.or_eq_true, Bool.and_eq_true, decide_eq_true_eq, beq_iff_eq] at h1 h2 ⊢
    rw [UInt8.lt_iff_toNat_lt] at h1 h2 ⊢
    rcases h1 with h1 | ⟨rfl, h1⟩
    · rcases h2 with h2 | ⟨rfl, h2⟩
      · exact .inl (by omega)
      · exact .inl h1
    · rcases h2 with h2 | ⟨rfl, h2⟩
      · exact .inl h2
      · exact .inr ⟨rfl, bl_trans x y z h1 h2⟩
theorem bl_tot (a b : List UInt8) (h1 : Op.bytesLess a b = false) (h2 : Op.bytesLess b a = false) : a = b := by
  have h := less_tri a b
  rw [h1, h2] at h
  simpa using h
/-- One prefix stands ahead of another. -/
def rlt (x y : S26) : Prop := x.f0.size < y.f0.size ∨ (x.f0.size = y.f0.size ∧ (Op.bytesLess x.f0.toList y.f0.toList = true ∨ (x.f0 = y.f0 ∧ x.f1 < y.f1)))
theorem toList_ext {a b : ByteArray} (h : a.toList = b.toList) : a = b := by
  have h1 := bytes_dec a b
  rw [h] at h1
  simpa using h1.symm
theorem rise_cases (x y : S26) : (riseE x y < 0 ∧ rlt x y ∧ x ≠ y) ∨ (riseE x y = 0 ∧ x = y ∧ ¬ rlt x y) ∨ (0 < riseE x y ∧ ¬ rlt x y ∧ rlt y x ∧ x ≠ y) := by
  obtain ⟨a, i⟩ := x
  obtain ⟨b, j⟩ := y
  rcases Nat.lt_trichotomy a.size b.size with h | h | h
  · have hv : riseE ⟨a, i⟩ ⟨b, j⟩ = -1 := by
      have e : cmpI a.size b.size = -1 := if_pos (by omega)
      simp [riseE, cmpA, e, orI]
    rw [hv]
    refine .inl ⟨by decide, .inl h, fun he => ?_⟩
    injection he with he
    rw [he] at h
    omega
  · have e : cmpI a.size b.size = 0 := by unfold cmpI; rw [if_neg (by omega), if_neg (by omega)]
    cases h1 : Op.bytesLess a.toList b.toList with
    | true =>
      have hv : riseE ⟨a, i⟩ ⟨b, j⟩ = -1 := by simp [riseE, cmpA, e, orI, cmpS, h1]
      rw [hv]
      refine .inl ⟨by decide, .inr ⟨h, .inl h1⟩, fun he => ?_⟩
      injection he with he
      rw [he, bl_irr] at h1
      cases h1
    | false =>
      cases h2 : Op.bytesLess b.toList a.toList with
      | true =>
        have hv : riseE ⟨a, i⟩ ⟨b, j⟩ = 1 := by simp [riseE, cmpA, e, orI, cmpS, h1, h2]
        rw [hv]
        have hne : a ≠ b := fun he => by rw [he, bl_irr] at h2; cases h2
        refine .inr (.inr ⟨by decide, ?_, .inr ⟨h.symm, .inl h2⟩, fun he => ?_⟩)
        · rintro (h' | ⟨_, h' | ⟨h', _⟩⟩)
          · simp only at h'; omega
          · rw [h1] at h'; cases h'
          · exact hne h'
        · injection he with he
          exact hne he
      | false =>
        have hab : a = b := toList_ext (bl_tot _ _ h1 h2)
        subst hab
        have hv : riseE ⟨a, i⟩ ⟨a, j⟩ = cmpI i j := by simp [riseE, cmpA, e, orI, cmpS, h1]
        rw [hv]
        unfold cmpI
        rcases Int.lt_trichotomy i j with h3 | h3 | h3
        · rw [if_pos h3]
          refine .inl ⟨by decide, .inr ⟨rfl, .inr ⟨rfl, h3⟩⟩, fun he => ?_⟩
          injection he with _ he
          omega
        · subst h3
          rw [if_neg (by omega)]
          refine .inr (.inl ⟨by simp, rfl, ?_⟩)
          rintro (h' | ⟨_, h' | ⟨_, h'⟩⟩)
          · simp only at h'; omega
          · rw [h1] at h'; cases h'
          · simp only at h'; omega
        · rw [if_neg (by omega), if_pos h3]
          refine .inr (.inr ⟨by decide, ?_, .inr ⟨rfl, .inr ⟨rfl, h3⟩⟩, fun he => ?_⟩)
          · rintro (h' | ⟨_, h' | ⟨_, h'⟩⟩)
            · simp only at h'; omega
            · rw [h1] at h'; cases h'
            · simp only at h'; omega
          · injection he with _ he
            omega
  · have hv : riseE ⟨a, i⟩ ⟨b, j⟩ = 1 := by
      have e : cmpI a.size b.size = 1 := by unfold cmpI; rw [if_neg (by omega), if_pos (by omega)]
      simp [riseE, cmpA, e, orI]
    rw [hv]
    refine .inr (.inr ⟨by decide, ?_, .inl h, fun he => ?_⟩)
    · rintro (h' | ⟨h', _⟩)
      · simp only at h'; omega
      · simp only at h'; omega
    · injection he with he
      rw [he] at h
      omega
theorem rise_neg (x y : S26) : riseE x y < 0 ↔ rlt x y := by
  rcases rise_cases x y with h | h | h
  · exact ⟨fun _ => h.2.1, fun _ => h.1⟩
  · exact ⟨fun h' => by omega, fun h' => absurd h' h.2.2⟩
  · exact ⟨fun h' => by omega, fun h' => absurd h' h.2.1⟩
theorem rise_zero (x y : S26) : riseE x y = 0 ↔ x = y := by
  rcases rise_cases x y with h | h | h
  · exact ⟨fun h' => by omega, fun h' => absurd h' h.2.2⟩
  · exact ⟨fun _ => h.2.1, fun _ => h.1⟩
  · exact ⟨fun h' => by omega, fun h' => absurd h' h.2.2.2⟩
theorem rlt_irr (x : S26) : ¬ rlt x x := by
  rintro (h | ⟨_, h | ⟨_, h⟩⟩)
  · omega
  · rw [bl_irr] at h; cases h
  · omega
theorem rlt_tot (x y : S26) (h1 : ¬ rlt x y) (h2 : ¬ rlt y x) : x = y := by
  rcases rise_cases x y with h | h | h
  · exact absurd h.2.1 h1
  · exact h.2.1
  · exact absurd h.2.2.1 h2
theorem rlt_trans {x y z : S26} (h1 : rlt x y) (h2 : rlt y z) : rlt x z := by
  rcases h1 with h1 | ⟨e1, h1⟩
  · rcases h2 with h2 | ⟨e2, h2⟩
    · exact .inl (by omega)
    · exact .inl (by omega)
  · rcases h2 with h2 | ⟨e2, h2⟩
    · exact .inl (by omega)
    · refine .inr ⟨by omega, ?_⟩
      rcases h1 with h1 | ⟨f1, h1⟩
      · rcases h2 with h2 | ⟨f2, h2⟩
        · exact .inl (bl_trans _ _ _ h1 h2)
        · exact .inl (by rw [← f2]; exact h1)
      · rcases h2 with h2 | ⟨f2, h2⟩
        · exact .inl (by rw [f1]; exact h2)
        · exact .inr ⟨f1.trans f2, by omega⟩
theorem rlt_asymm {x y : S26} (h1 : rlt x y) (h2 : rlt y x) : False := rlt_irr x (rlt_trans h1 h2)
/-- A row that rises. -/
def Sorted (l : List S28) : Prop := List.Pairwise (fun a b => rlt a.f0 b.f0) l
theorem sorted_lt {l : List S28} (h : Sorted l) (i j : Nat) (hij : i < j) (hj : j < l.length) : rlt (l.getD i z28).f0 (l.getD j z28).f0 := by
  have h1 := List.pairwise_iff_getElem.1 h i j (by omega) hj hij
  rw [List.getD_eq_getElem?_getD, List.getD_eq_getElem?_getD, List.getElem?_eq_getElem (by omega), List.getElem?_eq_getElem hj]
  exact h1
/-- The place of a prefix. -/
def Pos (l : List S28) (p : S26) (i : Nat) : Prop := i ≤ l.length ∧ (∀ j, j < i → rlt (l.getD j z28).f0 p) ∧ ∀ j, i ≤ j → j < l.length → ¬ rlt (l.getD j z28).f0 p
theorem Pos.uniq {l : List S28} {p : S26} {i i' : Nat} (h : Pos l p i) (h' : Pos l p i') : i = i' := by
  rcases Nat.lt_trichotomy i i' with h1 | h1 | h1
  · exact absurd (h'.2.1 i h1) (h.2.2 i (Nat.le_refl _) (by have := h'.1; omega))
  · exact h1
  · exact absurd (h.2.1 i' h1) (h'.2.2 i' (Nat.le_refl _) (by have := h.1; omega))
theorem pos_of {l : List S28} {p : S26} {i : Nat} (hs : Sorted l) (h1 : i ≤ l.length) (h2 : ∀ j, j < i → rlt (l.getD j z28).f0 p) (h3 : i = l.length ∨ ¬ rlt (l.getD i z28).f0 p) : Pos l p i := by
  refine ⟨h1, h2, fun j hj hl h => ?_⟩
  rcases h3 with h3 | h3
  · omega
  · rcases Nat.eq_or_lt_of_le hj with e | e
    · rw [← e] at h
      exact h3 h
    · exact h3 (rlt_trans (sorted_lt hs i j e hl) h)
/-- Is a prefix there? -/
def isAt (l : List S28) (p : S26) (i : Nat) : Bool := decide (i < l.length) && (decide ((l.getD i z28).f0.f0 = p.f0) && decide ((l.getD i z28).f0.f1 = p.f1))
theorem isAt_iff (l : List S28) (p : S26) (i : Nat) : isAt l p i = true ↔ i < l.length ∧ (l.getD i z28).f0 = p := by
  unfold isAt
  simp only [Bool.and_eq_true, decide_eq_true_eq]
  constructor
  · rintro ⟨h, h1, h2⟩
    refine ⟨h, ?_⟩
    obtain ⟨a, b⟩ := p
    generalize l.getD i z28 = x at h1 h2 ⊢
    obtain ⟨⟨xa, xb⟩, xv, xp⟩ := x
    simp only at h1 h2 ⊢
    rw [h1, h2]
  · rintro ⟨h, h1⟩
    rw [h1]
    exact ⟨h, rfl, rfl⟩
theorem bs_pos {l : List S28} {p : S26} {i : Nat} {b : Bool} (hs : Sorted l) (h : BsP l p i b) : Pos l p i ∧ b = isAt l p i := by
  obtain ⟨h1, h2, h3, h4⟩ := h
  constructor
  · refine pos_of hs h1 (fun j hj => ?_) ?_
    · rcases h2 with h2 | h2
      · omega
      · have h2 := (rise_neg _ _).1 h2
        rcases Nat.eq_or_lt_of_le (show j ≤ i - 1 by omega) with e | e
        · rw [e]; exact h2
        · exact rlt_trans (sorted_lt hs j (i - 1) e (by omega)) h2
    · rcases h3 with h3 | h3
      · exact .inl h3
      · exact .inr (fun h => by have := (rise_neg _ _).2 h; omega)
  · rw [h4, Bool.eq_iff_iff, isAt_iff, decide_eq_true_iff, rise_zero]
theorem place_pos {l : List S28} {p : S26} {i : Nat} {b : Bool} (hs : Sorted l) (h : PlaceP l p i b) : Pos l p i ∧ b = isAt l p i := by
  obtain ⟨h1, h2, h3, h4⟩ := h
  refine ⟨pos_of hs h1 (fun j hj => (rise_neg _ _).1 (h2 j hj)) ?_, h4⟩
  rcases h3 with h3 | h3
  · exact .inl h3
  · exact .inr (fun h => h3 ((rise_neg _ _).2 h))
theorem bs_place {l : List S28} {p : S26} {i i' : Nat} {b b' : Bool} (hs : Sorted l) (h : BsP l p i b) (h' : PlaceP l p i' b') : i = i' ∧ b = b' := by
  obtain ⟨h1, h2⟩ := bs_pos hs h
  obtain ⟨h3, h4⟩ := place_pos hs h'
  have e := h1.uniq h3
  subst e
  exact ⟨rfl, by rw [h2, h4]⟩
theorem place_uniq {l : List S28} {p : S26} {i i' : Nat} {b b' : Bool} (hs : Sorted l) (h : BsP l p i b) (h' : BsP l p i' b') : i = i' ∧ b = b' := by
  obtain ⟨h1, h2⟩ := bs_pos hs h
  obtain ⟨h3, h4⟩ := bs_pos hs h'
  have e := h1.uniq h3
  subst e
  exact ⟨rfl, by rw [h2, h4]⟩
/-- Both answer alike. -/
theorem add_same {l l1 l2 : List S28} {r : S28} {e1 e2 : Int} (hs : Sorted l) (h1 : AddP l r e1 l1) (h2 : RAddP l r e2 l2) : e1 = e2 ∧ l1 = l2 := by
  rcases h1 with ⟨b1, rfl, rfl⟩ | ⟨b1, i, b, hb, h1⟩
  · rcases h2 with ⟨_, rfl, rfl⟩ | ⟨b2, _⟩
    · exact ⟨rfl, rfl⟩
    · exact absurd b1 b2
  · rcases h2 with ⟨b2, _⟩ | ⟨_, i', b', hb', h2⟩
    · exact absurd b2 b1
    · obtain ⟨rfl, rfl⟩ := bs_place hs hb hb'
      rcases h1 with ⟨rfl, rfl, rfl⟩ | ⟨rfl, g1, rfl, rfl⟩ | ⟨rfl, g1, rfl, rfl⟩
      · rcases h2 with ⟨_, rfl, rfl⟩ | ⟨h, _⟩ | ⟨h, _⟩
        · exact ⟨rfl, rfl⟩
        · cases h
        · cases h
      · rcases h2 with ⟨h, _⟩ | ⟨_, g2, rfl, rfl⟩ | ⟨_, g2, rfl, rfl⟩
        · cases h
        · exact ⟨rfl, rfl⟩
        · omega
      · rcases h2 with ⟨h, _⟩ | ⟨_, g2, rfl, rfl⟩ | ⟨_, g2, rfl, rfl⟩
        · cases h
        · omega
        · exact ⟨rfl, rfl⟩
theorem rem_same {l l1 l2 : List S28} {p : S26} {e1 e2 : Int} (hs : Sorted l) (h1 : RemP l p e1 l1) (h2 : RRemP l p e2 l2) : e1 = e2 ∧ l1 = l2 := by
  rcases h1 with ⟨b1, rfl, rfl⟩ | ⟨b1, i, b, hb, h1⟩
  · rcases h2 with ⟨_, rfl, rfl⟩ | ⟨b2, _⟩
    · exact ⟨rfl, rfl⟩
    · exact absurd b2 b1
  · rcases h2 with ⟨b2, _⟩ | ⟨_, i', b', hb', h2⟩
    · exact absurd b1 b2
    · obtain ⟨rfl, rfl⟩ := bs_place hs hb hb'
      rcases h1 with ⟨rfl, rfl, rfl⟩ | ⟨rfl, rfl, rfl⟩
      · rcases h2 with ⟨_, rfl, rfl⟩ | ⟨h, _⟩
        · exact ⟨rfl, List.eraseIdx_eq_take_drop_succ _ _⟩
        · cases h
      · rcases h2 with ⟨h, _⟩ | ⟨_, rfl, rfl⟩
        · cases h
        · exact ⟨rfl, rfl⟩
end Go.Proofs.Ytmedkjiabieloaa.Rt
namespace Go.Proofs.Ytmedkjiabieloaa.Rt
open Go.RowKit Go.Proofs.YtmedkjiabieloaaW.PrintWords Go.Proofs.YtmedkjiabieloaaW.PrintLast Go.Proofs.YtmedkjiabieloaaW.PrintMore Go.Proofs.Ytmedkjiabieloaa.QRd
open Go.Proofs.Ytmedkjiabieloaa
set_option linter.unusedVariables false
set_option linter.unusedSimpArgs false
theorem bytes_str (l : List Int) (h : ∀ x ∈ l, 0 ≤ x ∧ x ≤ 255) : bytesOf (strOfNums l) = l := by
  unfold bytesOf
  rw [strOfNums_data, List.map_map]
  conv => rhs; rw [← List.map_id l]
  refine List.map_congr_left fun x hx => ?_
  obtain ⟨h1, h2⟩ := h x hx
  show ((UInt8.ofNat x.toNat).toNat : Int) = x
  rw [UInt8.toNat_ofNat']
  omega
theorem pow2_pos (k : Nat) : (0 : Int) < 2 ^ k := Int.pow_pos (by decide)
theorem mb_idem (bits : Int) (j : Nat) (x : Int) : mb bits j (mb bits j x) = mb bits j x := by
  unfold mb mb.bits_and
  generalize (8 - (max (min (bits - 8 * (j : Int)) 8) 0)).toNat = m
  rw [Int.mul_ediv_cancel _ (Int.ne_of_gt (pow2_pos m))]
theorem mb_range (bits : Int) (j : Nat) (x : Int) (h : 0 ≤ x ∧ x ≤ 255) : 0 ≤ mb bits j x ∧ mb bits j x ≤ 255 := by
  unfold mb mb.bits_and
  generalize (8 - (max (min (bits - 8 * (j : Int)) 8) 0)).toNat = m
  have h1 := pow2_pos m
  have h2 : 0 ≤ x / 2 ^ m := Int.ediv_nonneg h.1 (Int.le_of_lt h1)
  have h3 := Int.ediv_mul_le x (Int.ne_of_gt h1)
  exact ⟨Int.mul_nonneg h2 (Int.le_of_lt h1), Int.le_trans h3 h.2⟩
theorem mkTo_idem (bits : Int) (n : Nat) (xs : List Int) (h : xs.length = n) : mkTo bits n (mkTo bits n xs) = mkTo bits n xs := by
  refine ext_getD (by rw [mkTo_len]) (fun j hj => ?_)
  rw [mkTo_len, mkTo_len] at hj
  rw [mkTo_getD _ _ _ _ (by rw [mkTo_len]; exact hj), mkTo_getD _ _ _ _ hj, if_pos (by omega), if_pos (by omega), mb_idem]
theorem mkTo_bytes (bits : Int) (n : Nat) (s : ByteArray) : ∀ x ∈ mkTo bits n (bytesOf s), 0 ≤ x ∧ x ≤ 255 := by
  intro x hx
  obtain ⟨j, hj, rfl⟩ := List.mem_iff_getElem.1 hx
  rw [mkTo_len] at hj
  have e := mkTo_getD bits n j (bytesOf s) hj
  rw [List.getD_eq_getElem?_getD, List.getElem?_eq_getElem (by rw [mkTo_len]; exact hj), Option.getD_some] at e
  rw [e]
  split
  · exact mb_range _ _ _ (byte_of s j hj)
  · exact byte_of s j hj
theorem mask_ok (a : ByteArray) (nb : Int) : (maskE a nb).2 = 0 ↔ ¬ maskBad a nb := by
  unfold maskE
  by_cases h : maskBad a nb
  · rw [if_pos h]; simp [h]
  · rw [if_neg h]; simp [h]
theorem mask_size (a : ByteArray) (nb : Int) (h : (maskE a nb).2 = 0) : (maskE a nb).1.size = a.size := by
  unfold maskE
  rw [if_neg ((mask_ok a nb).1 h)]
  show (strOfNums _).size = _
  rw [strOfNums_size, mkTo_len, bytesOf_length]
theorem mask_idem (a : ByteArray) (nb : Int) (h : (maskE a nb).2 = 0) : maskE (maskE a nb).1 nb = ((maskE a nb).1, 0) := by
  have hs := mask_size a nb h
  have hb := (mask_ok a nb).1 h
  have hb' : ¬ maskBad (maskE a nb).1 nb := by
    unfold maskBad at hb ⊢
    rw [hs]
    exact hb
  have e : (maskE a nb).1 = strOfNums (mkTo nb a.size (bytesOf a)) := by unfold maskE; rw [if_neg hb]
  rw [show maskE (maskE a nb).1 nb = (strOfNums (mkTo nb (maskE a nb).1.size (bytesOf (maskE a nb).1)), 0) from if_neg hb', hs, e, bytes_str _ (mkTo_bytes _ _ _), mkTo_idem _ _ _ (bytesOf_length a)]
/-- What a table holds. -/
structure Good (l : List S28) : Prop where
  srt : Sorted l
  nrm : ∀ x ∈ l, maskE x.f0.f0 x.f0.f1 = (x.f0.f0, 0)
  len : l.length ≤ 64
theorem good_nil : Good [] := ⟨List.Pairwise.nil, (fun x h => by cases h), by decide⟩
theorem getD_mem {l : List S28} {i : Nat} (h : i < l.length) : l.getD i z28 ∈ l := by
  rw [List.getD_eq_getElem?_getD, List.getElem?_eq_getElem h]
  exact List.getElem_mem h
theorem mem_getD {l : List S28} {x : S28} (h : x ∈ l) : ∃ i, i < l.length ∧ l.getD i z28 = x := by
  obtain ⟨i, hi, rfl⟩ := List.mem_iff_getElem.1 h
  exact ⟨i, hi, by rw [List.getD_eq_getElem?_getD, List.getElem?_eq_getElem hi]; rfl⟩
theorem sorted_map (l : List S28) : Sorted l ↔ List.Pairwise rlt (l.map (·.f0)) := by
  unfold Sorted
  rw [List.pairwise_map]
theorem sorted_set {l : List S28} (h : Sorted l) (i : Nat) (x : S28) (hi : i < l.length) (hx : (l.getD i z28).f0 = x.f0) : Sorted (l.set i x) := by
  rw [sorted_map] at h ⊢
  have e : (l.set i x).map (·.f0) = l.map (·.f0) := by
    rw [List.map_set]
    refine List.ext_getElem (by simp) (fun j h1 h2 => ?_)
    rw [List.getElem_set]
    split
    · rename_i hij
      subst hij
      rw [List.getElem_map, ← hx, List.getD_eq_getElem?_getD, List.getElem?_eq_getElem hi]
      rfl
    · rfl
  rw [e]
  exact h
theorem sorted_ins {l : List S28} (h : Sorted l) (i : Nat) (x : S28) (hp : Pos l x.f0 i) (hn : isAt l x.f0 i = false) : Sorted (l.take i ++ x :: l.drop i) := by
  have h0 : Sorted (l.take i ++ l.drop i) := by rw [List.take_append_drop]; exact h
  unfold Sorted at h0 ⊢
  rw [List.pairwise_append] at h0 ⊢
  obtain ⟨h1, h2, h3⟩ := h0
  have hb : ∀ y ∈ l.drop i, rlt x.f0 y.f0 := by
    intro y hy
    obtain ⟨j, hj, rfl⟩ := List.mem_iff_getElem.1 hy
    rw [List.length_drop] at hj
    have e : (l.drop i)[j]'(by rw [List.length_drop]; exact hj) = l.getD (i + j) z28 := by
      rw [List.getElem_drop, List.getD_eq_getElem?_getD, List.getElem?_eq_getElem (by omega)]
      rfl
    rw [e]
    have h4 := hp.2.2 (i + j) (by omega) (by omega)
    rcases rise_cases (l.getD (i + j) z28).f0 x.f0 with c | c | c
    · exact absurd c.2.1 h4
    · exfalso
      rcases Nat.eq_zero_or_pos j with e0 | e0
      · subst e0
        have := (isAt_iff l x.f0 i).2 ⟨by omega, c.2.1⟩
        rw [hn] at this
        cases this
      · have h5 := sorted_lt h i (i + j) (by omega) (by omega)
        rw [c.2.1] at h5
        exact hp.2.2 i (Nat.le_refl _) (by omega) h5
    · exact c.2.2.1
  have ha : ∀ y ∈ l.take i, rlt y.f0 x.f0 := by
    intro y hy
    obtain ⟨j, hj, rfl⟩ := List.mem_iff_getElem.1 hy
    rw [List.length_take] at hj
    have e : (l.take i)[j]'(by rw [List.length_take]; exact hj) = l.getD j z28 := by
      rw [List.getElem_take, List.getD_eq_getElem?_getD, List.getElem?_eq_getElem (by omega)]
      rfl
    rw [e]
    exact hp.2.1 j (by omega)
  refine ⟨h1, List.pairwise_cons.2 ⟨hb, h2⟩, fun a ha' b hb' => ?_⟩
  rcases List.mem_cons.1 hb' with rfl | hb'
  · exact ha a ha'
  · exact h3 a ha' b hb'
theorem norm_nrm {r : S28} (h : ¬ badR r) : maskE (normR r).f0.f0 (normR r).f0.f1 = ((normR r).f0.f0, 0) := by
  unfold badR at h
  simp only [not_or, Decidable.not_not] at h
  exact mask_idem r.f0.f0 r.f0.f1 h.1
theorem good_add {l l' : List S28} {r : S28} {er : Int} (hg : Good l) (h : AddP l r er l') : Good l' := by
  rcases h with ⟨_, _, rfl⟩ | ⟨hb, i, b, hbs, h⟩
  · exact hg
  · obtain ⟨hp, hat⟩ := bs_pos hg.srt hbs
    rcases h with ⟨rfl, _, rfl⟩ | ⟨_, _, _, rfl⟩ | ⟨rfl, hlt, _, rfl⟩
    · obtain ⟨hi, he⟩ := (isAt_iff _ _ _).1 hat.symm
      refine ⟨sorted_set hg.srt i _ hi he, fun x hx => ?_, by rw [List.length_set]; exact hg.len⟩
      rcases List.mem_or_eq_of_mem_set hx with hx | rfl
      · exact hg.nrm x hx
      · exact norm_nrm hb
    · exact hg
    · refine ⟨sorted_ins hg.srt i _ hp hat.symm, fun x hx => ?_, ?_⟩
      · rw [List.mem_append, List.mem_cons] at hx
        rcases hx with hx | rfl | hx
        · exact hg.nrm x (List.mem_of_mem_take hx)
        · exact norm_nrm hb
        · exact hg.nrm x (List.mem_of_mem_drop hx)
      · rw [List.length_append, List.length_cons, List.length_take, List.length_drop]
        have := hp.1
        omega
theorem good_rem {l l' : List S28} {p : S26} {er : Int} (hg : Good l) (h : RemP l p er l') : Good l' := by
  rcases h with ⟨_, _, rfl⟩ | ⟨hb, i, b, hbs, h⟩
  · exact hg
  · rcases h with ⟨_, _, rfl⟩ | ⟨_, _, rfl⟩
    · exact ⟨hg.srt.sublist (List.eraseIdx_sublist _ _), fun x hx => hg.nrm x (List.mem_of_mem_eraseIdx hx), Nat.le_trans (List.length_eraseIdx_le _ _) hg.len⟩
    · exact hg
theorem f0_inj {l : List S28} (hs : Sorted l) {x y : S28} (hx : x ∈ l) (hy : y ∈ l) (h : x.f0 = y.f0) : x = y := by
  obtain ⟨i, hi, rfl⟩ := mem_getD hx
  obtain ⟨j, hj, rfl⟩ := mem_getD hy
  rcases Nat.lt_trichotomy i j with e | e | e
  · have := sorted_lt hs i j e hj
    rw [h] at this
    exact absurd this (rlt_irr _)
  · rw [e]
  · have := sorted_lt hs j i e hi
    rw [h] at this
    exact absurd this (rlt_irr _)
theorem mem_isAt {l : List S28} (hs : Sorted l) {x : S28} {p : S26} {i : Nat} (hx : x ∈ l) (hp : x.f0 = p) (h : Pos l p i) : isAt l p i = true := by
  obtain ⟨k, hk, rfl⟩ := mem_getD hx
  rcases Nat.lt_trichotomy k i with e | e | e
  · have := h.2.1 k e
    rw [hp] at this
    exact absurd this (rlt_irr _)
  · exact (isAt_iff _ _ _).2 ⟨by omega, by rw [← e]; exact hp⟩
  · have h1 := sorted_lt hs i k e hk
    rw [hp] at h1
    exact absurd h1 (h.2.2 i (Nat.le_refl _) (by omega))
theorem miss_no {l : List S28} (hs : Sorted l) {d : ByteArray} {b : Int} (h : Miss l d b) (x : S28) (hx : x ∈ l) : x.f0 ≠ ⟨(maskE d b).1, b⟩ := by
  obtain ⟨i, hi⟩ := h
  obtain ⟨hp, hat⟩ := bs_pos hs hi
  intro he
  have := mem_isAt hs hx he hp
  rw [← hat] at this
  cases this
/-- Is a route for an address? -/
theorem in_iff {d : ByteArray} (hd : d.size = 4 ∨ d.size = 16) {x : S28} (hn : maskE x.f0.f0 x.f0.f1 = (x.f0.f0, 0)) : inR d x.f0.f0 x.f0.f1 = true ↔ 0 ≤ x.f0.f1 ∧ x.f0.f1 ≤ 8 * d.size ∧ x.f0 = ⟨(maskE d x.f0.f1).1, x.f0.f1⟩ := by
  unfold inR
  rw [hn]
  simp only [Bool.and_eq_true, decide_eq_true_eq]
  constructor
  · rintro ⟨⟨⟨h1, _⟩, h2⟩, h3⟩
    have hb := (mask_ok _ _).1 h1
    unfold maskBad at hb
    refine ⟨by omega, by omega, ?_⟩
    obtain ⟨⟨xa, xb⟩, xv, xp⟩ := x
    simp only at h3 ⊢
    rw [h3]
  · rintro ⟨h1, h2, h3⟩
    have hm : (maskE d x.f0.f1).2 = 0 := (mask_ok _ _).2 (by unfold maskBad; omega)
    have e : x.f0.f0 = (maskE d x.f0.f1).1 := congrArg S26.f0 h3
    refine ⟨⟨⟨hm, trivial⟩, ?_⟩, e.symm⟩
    rw [e, mask_size _ _ hm]
theorem best_inv (d : ByteArray) : ∀ (xs : List S28) (b : S28 × Bool), ((xs.foldl (bestS d) b).2 = false → b.2 = false ∧ ∀ x ∈ xs, inR d x.f0.f0 x.f0.f1 = false) ∧
    ((xs.foldl (bestS d) b).2 = true → ((xs.foldl (bestS d) b) = b ∨ ((xs.foldl (bestS d) b).1 ∈ xs ∧ inR d (xs.foldl (bestS d) b).1.f0.f0 (xs.foldl (bestS d) b).1.f0.f1 = true)) ∧ (∀ x ∈ xs, inR d x.f0.f0 x.f0.f1 = true → x.f0.f1 ≤ (xs.foldl (bestS d) b).1.f0.f1) ∧ (b.2 = true → b.1.f0.f1 ≤ (xs.foldl (bestS d) b).1.f0.f1)) := by
  intro xs
  induction xs with
  | nil => exact fun b => ⟨fun h => ⟨h, (fun x hx => by cases hx)⟩, fun h => ⟨.inl rfl, (fun x hx => by cases hx), fun _ => Int.le_refl _⟩⟩
  | cons x xs ih =>
    intro b
    rw [List.foldl_cons]
    obtain ⟨i1, i2⟩ := ih (bestS d b x)
    by_cases hc : inR d x.f0.f0 x.f0.f1 = true ∧ (b.2 = false ∨ b.1.f0.f1 < x.f0.f1)
    · have e : bestS d b x = (x, true) := by unfold bestS; rw [if_pos hc]
      rw [e] at i1 i2 ⊢
      refine ⟨(fun h => by have := (i1 h).1; cases this), fun h => ?_⟩
      obtain ⟨j1, j2, j3⟩ := i2 h
      have j3 := j3 rfl
      refine ⟨.inr ?_, fun y hy hy' => ?_, fun hb => ?_⟩
      · rcases j1 with j1 | j1
        · rw [j1]; exact ⟨List.mem_cons_self, hc.1⟩
        · exact ⟨List.mem_cons_of_mem _ j1.1, j1.2⟩
      · rcases List.mem_cons.1 hy with rfl | hy
        · exact j3
        · exact j2 y hy hy'
      · rcases hc.2 with h' | h'
        · rw [hb] at h'; cases h'
        · simp only at j3; omega
    · have e : bestS d b x = b := by unfold bestS; rw [if_neg hc]
      rw [e] at i1 i2 ⊢
      refine ⟨fun h => ?_, fun h => ?_⟩
      · obtain ⟨h1, h2⟩ := i1 h
        refine ⟨h1, fun y hy => ?_⟩
        rcases List.mem_cons.1 hy with rfl | hy
        · cases hi : inR d y.f0.f0 y.f0.f1 with
          | false => rfl
          | true => exact absurd ⟨hi, .inl h1⟩ hc
        · exact h2 y hy
      · obtain ⟨j1, j2, j3⟩ := i2 h
        refine ⟨?_, fun y hy hy' => ?_, j3⟩
        · rcases j1 with j1 | j1
          · exact .inl j1
          · exact .inr ⟨List.mem_cons_of_mem _ j1.1, j1.2⟩
        · rcases List.mem_cons.1 hy with rfl | hy
          · cases hb : b.2 with
            | false => exact absurd ⟨hy', .inl hb⟩ hc
            | true =>
              have h3 := j3 hb
              have h4 : ¬ b.1.f0.f1 < y.f0.f1 := fun h => hc ⟨hy', .inr h⟩
              omega
          · exact j2 y hy hy'
theorem find_same {l : List S28} (hg : Good l) {d : ByteArray} (hd : d.size = 4 ∨ d.size = 16) {r : S28} {er : Int} (h : FindP l d r er) : r = (bestTo l d l.length).1 ∧ er = errB (bestTo l d l.length).2 := by
  obtain ⟨i1, i2⟩ := best_inv d l (z28, false)
  have hb : bestTo l d l.length = l.foldl (bestS d) (z28, false) := by unfold bestTo; rw [List.take_length]
  rw [← hb] at i1 i2
  have hn := bestTo_none l d l.length
  rcases h with ⟨h1, h2, _⟩ | ⟨_, ⟨b, i, hb0, hb1, hbs, rfl, rfl, hm⟩ | ⟨rfl, rfl, hm⟩⟩
  · omega
  · obtain ⟨hp, hat⟩ := bs_pos hg.srt hbs
    obtain ⟨hi, he⟩ := (isAt_iff _ _ _).1 hat.symm
    have hx := getD_mem hi
    have hin : inR d (l.getD i z28).f0.f0 (l.getD i z28).f0.f1 = true := (in_iff hd (hg.nrm _ hx)).2 (by rw [he]; exact ⟨hb0, hb1, rfl⟩)
    cases hf : (bestTo l d l.length).2 with
    | false =>
      have := (i1 hf).2 _ hx
      rw [hin] at this
      cases this
    | true =>
      obtain ⟨j1, j2, _⟩ := i2 hf
      have j3 := j2 _ hx hin
      rcases j1 with j1 | ⟨j1, j4⟩
      · rw [j1] at hf; cases hf
      · obtain ⟨k1, k2, k3⟩ := (in_iff hd (hg.nrm _ j1)).1 j4
        have hbits : (bestTo l d l.length).1.f0.f1 = b := by
          rcases Int.lt_or_eq_of_le (show b ≤ (bestTo l d l.length).1.f0.f1 by rw [he] at j3; exact j3) with e | e
          · exact absurd k3 (miss_no hg.srt (hm _ e k2) _ j1)
          · exact e.symm
        rw [hbits] at k3
        exact ⟨f0_inj hg.srt hx j1 (by rw [he, k3]), rfl⟩
  · cases hf : (bestTo l d l.length).2 with
    | false => exact ⟨(hn hf).symm, rfl⟩
    | true =>
      obtain ⟨j1, _, _⟩ := i2 hf
      rcases j1 with j1 | ⟨j1, j4⟩
      · rw [j1] at hf; cases hf
      · obtain ⟨k1, k2, k3⟩ := (in_iff hd (hg.nrm _ j1)).1 j4
        exact absurd k3 (miss_no hg.srt (hm _ k1 k2) _ j1)
end Go.Proofs.Ytmedkjiabieloaa.Rt
namespace Go.Proofs.Ytmedkjiabieloaa.Rt
open Go.RowKit Go.Proofs.YtmedkjiabieloaaW.PrintWords Go.Proofs.YtmedkjiabieloaaW.PrintLast Go.Proofs.YtmedkjiabieloaaW.PrintMore Go.Proofs.Ytmedkjiabieloaa.QRd
open Go.Proofs.Ytmedkjiabieloaa
set_option linter.unusedVariables false
set_option linter.unusedSimpArgs false
def posF (l : List S28) (p : S26) : Nat := (l.takeWhile fun x => decide (riseE x.f0 p < 0)).length
theorem tw_lt {α : Type} (f : α → Bool) : ∀ (l : List α) (j : Nat) (h : j < (l.takeWhile f).length) (h' : j < l.length), f l[j] = true
  | [], j, h, h' => by simp at h'
  | x :: l, j, h, h' => by
    rw [List.takeWhile_cons] at h
    split at h
    · rename_i hx
      cases j with
      | zero => exact hx
      | succ j => exact tw_lt f l j (by simpa using h) (by simpa using h')
    · simp at h
theorem tw_at {α : Type} (f : α → Bool) : ∀ (l : List α) (h' : (l.takeWhile f).length < l.length), f l[(l.takeWhile f).length] = false
  | [], h' => by simp at h'
  | x :: l, h' => by
    by_cases hx : f x = true
    · have e : (x :: l).takeWhile f = x :: l.takeWhile f := by rw [List.takeWhile_cons, if_pos hx]
      have := tw_at f l (by rw [e] at h'; simpa using h')
      simp only [e, List.length_cons, List.getElem_cons_succ]
      exact this
    · have e : (x :: l).takeWhile f = [] := by rw [List.takeWhile_cons, if_neg hx]
      simp only [e, List.length_nil, List.getElem_cons_zero]
      simpa using hx
theorem tw_len {α : Type} (f : α → Bool) : ∀ l : List α, (l.takeWhile f).length ≤ l.length
  | [] => Nat.le_refl _
  | x :: l => by
    rw [List.takeWhile_cons]
    split
    · simpa using tw_len f l
    · exact Nat.zero_le _
theorem getD_at {l : List S28} {i : Nat} (h : i < l.length) : l.getD i z28 = l[i] := by
  rw [List.getD_eq_getElem?_getD, List.getElem?_eq_getElem h]
  rfl
theorem posF_pos {l : List S28} (hs : Sorted l) (p : S26) : Pos l p (posF l p) := by
  have hle := tw_len (fun x : S28 => decide (riseE x.f0 p < 0)) l
  refine pos_of hs hle (fun j hj => ?_) ?_
  · have h := tw_lt _ l j hj (Nat.lt_of_lt_of_le hj hle)
    rw [getD_at (Nat.lt_of_lt_of_le hj hle)]
    exact (rise_neg _ _).1 (of_decide_eq_true h)
  · rcases Nat.eq_or_lt_of_le hle with e | e
    · exact .inl e
    · refine .inr (fun h => ?_)
      have h1 := tw_at _ l e
      have h2 := (rise_neg _ _).2 h
      unfold posF at h2
      rw [getD_at e] at h2
      rw [decide_eq_true h2] at h1
      cases h1
/-- Add. -/
def addF (l : List S28) (r : S28) : List S28 × Int :=
  if badR r then (l, 1) else if isAt l (normR r).f0 (posF l (normR r).f0) = true then (l.set (posF l (normR r).f0) (normR r), 0) else if 64 ≤ l.length then (l, 7) else (l.take (posF l (normR r).f0) ++ normR r :: l.drop (posF l (normR r).f0), 0)
def remF (l : List S28) (p : S26) : List S28 × Int :=
  if (maskE p.f0 p.f1).2 ≠ 0 then (l, 6) else if isAt l ⟨(maskE p.f0 p.f1).1, p.f1⟩ (posF l ⟨(maskE p.f0 p.f1).1, p.f1⟩) = true then (l.eraseIdx (posF l ⟨(maskE p.f0 p.f1).1, p.f1⟩), 0) else (l, 6)
def findF (l : List S28) (d : ByteArray) : S28 × Int := if d.size = 4 ∨ d.size = 16 then ((bestTo l d l.length).1, errB (bestTo l d l.length).2) else (z28, 1)
theorem addF_eq {l l' : List S28} {r : S28} {er : Int} (hg : Good l) (h : AddP l r er l') : addF l r = (l', er) := by
  unfold addF
  rcases h with ⟨hb, rfl, rfl⟩ | ⟨hb, i, b, hbs, h⟩
  · rw [if_pos hb]
  · obtain ⟨hp, hat⟩ := bs_pos hg.srt hbs
    have e := hp.uniq (posF_pos hg.srt _)
    rw [if_neg hb, ← e, ← hat]
    rcases h with ⟨rfl, rfl, rfl⟩ | ⟨rfl, h1, rfl, rfl⟩ | ⟨rfl, h1, rfl, rfl⟩
    · rw [if_pos rfl]
    · rw [if_neg (by decide), if_pos h1]
    · rw [if_neg (by decide), if_neg (by omega)]
theorem remF_eq {l l' : List S28} {p : S26} {er : Int} (hg : Good l) (h : RemP l p er l') : remF l p = (l', er) := by
  unfold remF
  rcases h with ⟨hb, rfl, rfl⟩ | ⟨hb, i, b, hbs, h⟩
  · rw [if_pos hb]
  · obtain ⟨hp, hat⟩ := bs_pos hg.srt hbs
    have e := hp.uniq (posF_pos hg.srt _)
    rw [if_neg (fun h => h hb), ← e, ← hat]
    rcases h with ⟨rfl, rfl, rfl⟩ | ⟨rfl, rfl, rfl⟩
    · rw [if_pos rfl]
    · rw [if_neg (by decide)]
theorem radd_eq {l l' : List S28} {r : S28} {er : Int} (hg : Good l) (h : RAddP l r er l') : addF l r = (l', er) := by
  unfold addF
  rcases h with ⟨hb, rfl, rfl⟩ | ⟨hb, i, b, hbs, h⟩
  · rw [if_pos hb]
  · obtain ⟨hp, hat⟩ := place_pos hg.srt hbs
    have e := hp.uniq (posF_pos hg.srt _)
    rw [if_neg hb, ← e, ← hat]
    rcases h with ⟨rfl, rfl, rfl⟩ | ⟨rfl, h1, rfl, rfl⟩ | ⟨rfl, h1, rfl, rfl⟩
    · rw [if_pos rfl]
    · rw [if_neg (by decide), if_pos h1]
    · rw [if_neg (by decide), if_neg (by omega)]
theorem rrem_eq {l l' : List S28} {p : S26} {er : Int} (hg : Good l) (h : RRemP l p er l') : remF l p = (l', er) := by
  unfold remF
  rcases h with ⟨hb, rfl, rfl⟩ | ⟨hb, i, b, hbs, h⟩
  · rw [if_pos hb]
  · obtain ⟨hp, hat⟩ := place_pos hg.srt hbs
    have e := hp.uniq (posF_pos hg.srt _)
    rw [if_neg (fun h => h hb), ← e, ← hat]
    rcases h with ⟨rfl, rfl, rfl⟩ | ⟨rfl, rfl, rfl⟩
    · rw [if_pos rfl, List.eraseIdx_eq_take_drop_succ]
    · rw [if_neg (by decide)]
theorem findF_eq {l : List S28} {d : ByteArray} {r : S28} {er : Int} (hg : Good l) (h : FindP l d r er) : findF l d = (r, er) := by
  unfold findF
  by_cases hd : d.size = 4 ∨ d.size = 16
  · obtain ⟨rfl, rfl⟩ := find_same hg hd h
    rw [if_pos hd]
  · rw [if_neg hd]
    rcases h with ⟨_, _, rfl, rfl⟩ | ⟨h, _⟩
    · rfl
    · exact absurd h hd
theorem good_addF {l : List S28} (hg : Good l) (r : S28) : Good (addF l r).1 := by
  unfold addF
  by_cases hb : badR r
  · rw [if_pos hb]; exact hg
  · rw [if_neg hb]
    have hp := posF_pos hg.srt (normR r).f0
    cases hat : isAt l (normR r).f0 (posF l (normR r).f0) with
    | true =>
      rw [if_pos rfl]
      obtain ⟨hi, he⟩ := (isAt_iff _ _ _).1 hat
      refine ⟨sorted_set hg.srt _ _ hi he, fun x hx => ?_, by simp only [List.length_set]; exact hg.len⟩
      rcases List.mem_or_eq_of_mem_set hx with hx | rfl
      · exact hg.nrm x hx
      · exact norm_nrm hb
    | false =>
      rw [if_neg (by decide)]
      by_cases h64 : 64 ≤ l.length
      · rw [if_pos h64]; exact hg
      · rw [if_neg h64]
        refine ⟨sorted_ins hg.srt _ _ hp hat, fun x hx => ?_, ?_⟩
        · rw [List.mem_append, List.mem_cons] at hx
          rcases hx with hx | rfl | hx
          · exact hg.nrm x (List.mem_of_mem_take hx)
          · exact norm_nrm hb
          · exact hg.nrm x (List.mem_of_mem_drop hx)
        · simp only [List.length_append, List.length_cons, List.length_take, List.length_drop]
          have := hp.1
          omega
theorem good_remF {l : List S28} (hg : Good l) (p : S26) : Good (remF l p).1 := by
  unfold remF
  by_cases hb : (maskE p.f0 p.f1).2 ≠ 0
  · rw [if_pos hb]; exact hg
  · rw [if_neg hb]
    split
    · exact ⟨hg.srt.sublist (List.eraseIdx_sublist _ _), fun x hx => hg.nrm x (List.mem_of_mem_eraseIdx hx), Nat.le_trans (List.length_eraseIdx_le _ _) hg.len⟩
    · exact hg
theorem good_sz {l : List S28} (hg : Good l) (i : Nat) (hi : i < l.length) : (l.getD i z28).f0.f0.size ≤ 16 := by
  have h := hg.nrm _ (getD_mem hi)
  have hb := (mask_ok _ _).1 (congrArg Prod.snd h)
  unfold maskBad at hb
  omega
/-- The calls. -/
def TabCall (F : List S28 × Int) (w : World) (base q : Nat) (v : Value) (e : Ending) (w' : World) : Prop := ∃ v', e = .returned (.int .i64 F.2) ∧ TabO w' base q v' F.1 ∧ Turn w w' q v v'
def RTabCall (F : List S28 × Int) (w : World) (base q : Nat) (v : Value) (e : Ending) (w' : World) : Prop := ∃ v', e = .returned (.int .i64 F.2) ∧ TabX w' base q v' F.1 ∧ Turn w w' q v v'
theorem add_call {w : World} {base q : Nat} {v : Value} {l : List S28} (h : TabO w base q v l) (hg : Good l) (r : S28) (ha : r.f0.f0.size ≤ 140737488351232) : Calls Try.prog 10 #[.pointer (some ⟨q, 0, none⟩), v28 r] w (TabCall (addF l r) w base q v) :=
  (add_walk base q v l r w h (by have := hg.len; omega) ha).mono fun e w' ⟨er, v', l', he, hp, ht, hu⟩ => ⟨v', by rw [addF_eq hg hp]; exact he, by rw [addF_eq hg hp]; exact ht, hu⟩
theorem rem_call {w : World} {base q : Nat} {v : Value} {l : List S28} (h : TabO w base q v l) (hg : Good l) (p : S26) (ha : p.f0.size ≤ 140737488351232) : Calls Try.prog 19 #[.pointer (some ⟨q, 0, none⟩), .agg #[.string p.f0, .int .i64 p.f1]] w (TabCall (remF l p) w base q v) :=
  (remove_walk base q v l p w h (by have := hg.len; omega) ha).mono fun e w' ⟨er, v', l', he, hp, ht, hu⟩ => ⟨v', by rw [remF_eq hg hp]; exact he, by rw [remF_eq hg hp]; exact ht, hu⟩
theorem radd_call {w : World} {base q : Nat} {v : Value} {l : List S28} (h : TabX w base q v l) (hg : Good l) (r : S28) (ha : r.f0.f0.size ≤ 140737488351232) : Calls Try.prog 18 #[.pointer (some ⟨q, 0, none⟩), v28 r] w (RTabCall (addF l r) w base q v) :=
  (radd_walk base q v l r w h (by have := hg.len; omega) ha).mono fun e w' ⟨er, v', l', he, hp, ht, hu⟩ => ⟨v', by rw [radd_eq hg hp]; exact he, by rw [radd_eq hg hp]; exact ht, hu⟩
theorem rrem_call {w : World} {base q : Nat} {v : Value} {l : List S28} (h : TabX w base q v l) (hg : Good l) (p : S26) (ha : p.f0.size ≤ 140737488351232) : Calls Try.prog 20 #[.pointer (some ⟨q, 0, none⟩), .agg #[.string p.f0, .int .i64 p.f1]] w (RTabCall (remF l p) w base q v) :=
  (rremove_walk base q v l p w h (by have := hg.len; omega) ha).mono fun e w' ⟨er, v', l', he, hp, ht, hu⟩ => ⟨v', by rw [rrem_eq hg hp]; exact he, by rw [rrem_eq hg hp]; exact ht, hu⟩
theorem find_call {w : World} {base q : Nat} {v : Value} {l : List S28} (h : TabO w base q v l) (hg : Good l) (d : ByteArray) : Calls Try.prog 15 #[.pointer (some ⟨q, 0, none⟩), .string d] w fun e w' => e = .returned (.tuple #[v28 (findF l d).1, .int .i64 (findF l d).2]) ∧ Below w.heap.size w w' := by
  obtain ⟨A, c, rfl, _, _⟩ := own_slice' h.own
  exact (find_walk q A c l d w h.read (by have := hg.len; omega)).mono fun e w' ⟨⟨r, er, he, hp⟩, hb⟩ => ⟨by rw [findF_eq hg hp]; exact he, hb⟩
theorem rfind_call {w : World} {base q : Nat} {v : Value} {l : List S28} (h : TabX w base q v l) (hg : Good l) (d : ByteArray) : Calls Try.prog 21 #[.pointer (some ⟨q, 0, none⟩), .string d] w fun e w' => e = .returned (.tuple #[v28 (findF l d).1, .int .i64 (findF l d).2]) ∧ Below w.heap.size w w' := by
  obtain ⟨A, c, rfl, _, _⟩ := own_slice' h.own
  unfold findF
  by_cases hd : d.size = 4 ∨ d.size = 16
  · rw [if_pos hd]
    exact rfind_walk q A c l d w h.read (by have := hg.len; omega) hd (fun i hi => by have := good_sz hg i hi; omega)
  · rw [if_neg hd]
    exact rfind_bad q d w hd
theorem list_call {w : World} {base q : Nat} {v : Value} {l : List S28} (h : TabO w base q v l) (hg : Good l) : Calls Try.prog 11 #[.pointer (some ⟨q, 0, none⟩)] w fun e w' => (∃ v', e = .returned v' ∧ k28.R 28 w' w.heap.size (fun _ => True) v' l) ∧ Below w.heap.size w w' := by
  obtain ⟨A, c, rfl, _, _⟩ := own_slice' h.own
  exact list_walk q A c l w h.read (by have := hg.len; omega)
theorem new_call (w : World) : Calls Try.prog 8 #[] w fun e w' => (∃ q, e = .returned (.pointer (some ⟨q, 0, none⟩)) ∧ w.heap.size ≤ q ∧ TabO w' w.heap.size q (.slice none 0 0) []) ∧ Below w.heap.size w w' :=
  (new_walk w).mono fun e w' ⟨⟨q, he, hq, hb⟩, hw⟩ => ⟨⟨q, he, by omega, hb, ⟨rfl, .inl ⟨rfl, rfl⟩⟩, by omega⟩, hw⟩
/-- What stays beside a call that turns a table. -/
theorem Turn.below {w0 w w' : World} {q : Nat} {v v' : Value} (hb : Below w0.heap.size w0 w) (h : Turn w w' q v v') (hq : w0.heap.size ≤ q) (hv : ∀ k, v.ownBlock = some k → w0.heap.size ≤ k) : Below w0.heap.size w0 w' :=
  ⟨h.os.trans hb.os, h.tape.trans hb.tape, h.output.trans hb.output, Nat.le_trans hb.size h.size, fun k hk => (h.block k (Nat.lt_of_lt_of_le hk hb.size) (by omega) (fun e => by have := hv k e.symm; omega)).trans (hb.block k hk)⟩
theorem TabO.base {w : World} {base q : Nat} {v : Value} {l : List S28} (h : TabO w base q v l) : ∀ k, v.ownBlock = some k → base ≤ k := fun k hk => own_base h.own k hk
theorem TabX.base {w : World} {base q : Nat} {v : Value} {l : List S28} (h : TabX w base q v l) : ∀ k, v.ownBlock = some k → base ≤ k := fun k hk => own_base h.own k hk
end Go.Proofs.Ytmedkjiabieloaa.Rt
namespace Go.Proofs.Ytmedkjiabieloaa.Rt
open Go.RowKit Go.Proofs.YtmedkjiabieloaaW.PrintWords Go.Proofs.YtmedkjiabieloaaW.PrintLast Go.Proofs.YtmedkjiabieloaaW.PrintMore Go.Proofs.Ytmedkjiabieloaa.QRd
open Go.Proofs.Ytmedkjiabieloaa
set_option linter.unusedVariables false
set_option linter.unusedSimpArgs false
def r1 : S28 := ⟨⟨⟨#[10, 0, 0, 0]⟩, 8⟩, ByteArray.empty, 1⟩
def r2 : S28 := ⟨⟨⟨#[10, 1, 0, 0]⟩, 16⟩, ByteArray.empty, 2⟩
theorem aw1 : (addF [] r1).1 = [r1] := by kernel_rfl
theorem aw2 : (addF [r1] r2).1 = [r1, r2] := by kernel_rfl
theorem aw3 : findF [r1, r2] ⟨#[10, 1, 2, 3]⟩ = (r2, 0) := by kernel_rfl
theorem aw4 : findF [r1, r2] ⟨#[10, 2, 0, 1]⟩ = (r1, 0) := by kernel_rfl
theorem aw5 : findF [r1, r2] ⟨#[11, 0, 0, 1]⟩ = (z28, 182) := by kernel_rfl
theorem good1 : Good [r1] := aw1 ▸ good_addF good_nil r1
theorem good2 : Good [r1, r2] := aw2 ▸ good_addF good1 r2
set_option maxHeartbeats 1600000 in
set_option maxRecDepth 100000 in
theorem awake_walk (w : World) : Calls Try.prog 13 #[] w fun e w' => e = .returned (.bool true) ∧ Below w.heap.size w w' := by
  go_enter Try.func13, Try.ntmps13
  go_wp2_with (fail)
  refine (new_call _).mono ?_
  rintro e w1 ⟨⟨q, rfl, hq, ht⟩, hb⟩
  have HQ := Aside0.mk hq
  have HT1 := Aside0.mk ht
  have HB1 := Aside0.mk hb
  clear hq ht hb
  go_wp2_with (fail)
  refine (add_call HT1.out good_nil r1 (by decide)).mono ?_
  rintro e w2 ⟨v2, rfl, ht, hu⟩
  have HB2 := Aside0.mk (hu.below HB1.out HQ.out HT1.out.base)
  rw [aw1] at ht
  have HT2 := Aside0.mk ht
  clear ht hu
  go_wp2_with (fail)
  refine (add_call HT2.out good1 r2 (by decide)).mono ?_
  rintro e w3 ⟨v3, rfl, ht, hu⟩
  have HB3 := Aside0.mk (hu.below HB2.out HQ.out HT2.out.base)
  rw [aw2] at ht
  have HT3 := Aside0.mk ht
  clear ht hu
  go_wp2_with (fail)
  refine (find_call HT3.out good2 ⟨#[10, 1, 2, 3]⟩).mono ?_
  rintro e w4 ⟨he, hb⟩
  rw [aw3] at he
  have he : e = .returned (.tuple #[.agg #[.string ⟨#[10, 1, 0, 0]⟩, .int .i64 16, .string ByteArray.empty, .int .i64 2], .int .i64 0]) := he
  subst he
  have HB4 := Aside0.mk (HB3.out.trans (hb.mono HB3.out.size))
  have HT4 := Aside0.mk (HT3.out.below hb)
  clear hb
  go_wp2_with (first | ((with_reducible refine gate_dst (N := 2) rfl ?_); refine box_event ?hg (N := 2) ?hd (cs := #[.string ByteArray.empty, .int .i64 0, .string ByteArray.empty, .int .i64 0]) (t := 28) ?hr ?_; (case hd => rfl); (case hg => rfl); (case hr => first | (go_simp; done) | (go_simp; rfl)); intro q2 hq w5 hbox hb; have BKq2 := Aside0.mk hbox; have HQq2 := Aside0.mk (show w.heap.size ≤ q2 from by rw [hq]; exact HB4.out.size); have HB5 := Aside0.mk (HB4.out.trans (hb.mono HB4.out.size)); have HL := Aside0.mk (show Below w4.heap.size w4 w5 from hb); have HQL := Aside0.mk (show w4.heap.size ≤ q2 from Nat.le_of_eq hq.symm); clear hbox hb hq) | ((with_reducible refine gate_store (t := 28) (p := 2) rfl ?_); have ca0 : w5.cell? ⟨q2, 0, none⟩ = some (.string ByteArray.empty) := (blk_cell BKq2.out 0).trans rfl; have ca1 : w5.cell? ⟨q2, 1, none⟩ = some (.int .i64 0) := (blk_cell BKq2.out 1).trans rfl; have ca2 : w5.cell? ⟨q2, 2, none⟩ = some (.string ByteArray.empty) := (blk_cell BKq2.out 2).trans rfl; have ca3 : w5.cell? ⟨q2, 3, none⟩ = some (.int .i64 0) := (blk_cell BKq2.out 3).trans rfl; have fa0 : w5.frozen? ⟨q2, 0, none⟩ = false := blk_frozen BKq2.out 0; have fa1 : w5.frozen? ⟨q2, 1, none⟩ = false := blk_frozen BKq2.out 1; have fa2 : w5.frozen? ⟨q2, 2, none⟩ = false := blk_frozen BKq2.out 2; have fa3 : w5.frozen? ⟨q2, 3, none⟩ = false := blk_frozen BKq2.out 3; refine store_event (t := 28) (p := 2) (v := ?vo2_6_1_n1) (w1 := Cells.setAll w5 q2 0 [.string ⟨#[10, 1, 0, 0]⟩, .int .i64 16, .string ByteArray.empty, .int .i64 2]) ?hg ?ho ?hn ?hr ?_; (case ho => rfl); (case hg => rfl); (case hn => rfl); (case hr => first | (go_simp; done) | (go_simp; rfl)); intro w6 hw; have HB6 := Aside0.mk (show Below w.heap.size w w6 from by rw [hw]; exact Cells.setAll_below HQq2.out _ _ _ HB5.out); have BKq2 := Aside0.mk (show w6.heap[q2]? = some (.cells #[.string ⟨#[10, 1, 0, 0]⟩, .int .i64 16, .string ByteArray.empty, .int .i64 2] 28 (0, 0)) from by rw [hw]; exact Cells.stored4 BKq2.out); clear ca0 ca1 ca2 ca3 fa0 fa1 fa2 fa3; have HT6 := Aside0.mk (HT4.out.below (show Below w4.heap.size w4 w6 from by rw [hw]; exact Cells.setAll_below HQL.out _ _ _ HL.out)); clear HL HQL; clear hw))
  refine (find_call HT6.out good2 ⟨#[10, 2, 0, 1]⟩).mono ?_
  rintro e w7 ⟨he, hb⟩
  rw [aw4] at he
  have he : e = .returned (.tuple #[.agg #[.string ⟨#[10, 0, 0, 0]⟩, .int .i64 8, .string ByteArray.empty, .int .i64 1], .int .i64 0]) := he
  subst he
  have HB7 := Aside0.mk (HB6.out.trans (hb.mono HB6.out.size))
  have HT7 := Aside0.mk (HT6.out.below hb)
  have BKq2 := Aside0.mk (blk_below BKq2.out hb)
  clear hb
  go_wp2_with (first | ((with_reducible refine gate_dst (N := 4) rfl ?_); refine box_event ?hg (N := 4) ?hd (cs := #[.string ByteArray.empty, .int .i64 0, .string ByteArray.empty, .int .i64 0]) (t := 28) ?hr ?_; (case hd => rfl); (case hg => rfl); (case hr => first | (go_simp; done) | (go_simp; rfl)); intro q4 hq w8 hbox hb; have HNq2q4 := Aside0.mk (show q2 ≠ q4 from by have := blk_lt BKq2.out; omega); have BKq2 := Aside0.mk (blk_below BKq2.out hb); have BKq4 := Aside0.mk hbox; have HQq4 := Aside0.mk (show w.heap.size ≤ q4 from by rw [hq]; exact HB7.out.size); have HB8 := Aside0.mk (HB7.out.trans (hb.mono HB7.out.size)); have HL := Aside0.mk (show Below w7.heap.size w7 w8 from hb); have HQL := Aside0.mk (show w7.heap.size ≤ q4 from Nat.le_of_eq hq.symm); clear hbox hb hq) | ((with_reducible refine gate_store (t := 28) (p := 4) rfl ?_); have ca0 : w8.cell? ⟨q4, 0, none⟩ = some (.string ByteArray.empty) := (blk_cell BKq4.out 0).trans rfl; have ca1 : w8.cell? ⟨q4, 1, none⟩ = some (.int .i64 0) := (blk_cell BKq4.out 1).trans rfl; have ca2 : w8.cell? ⟨q4, 2, none⟩ = some (.string ByteArray.empty) := (blk_cell BKq4.out 2).trans rfl; have ca3 : w8.cell? ⟨q4, 3, none⟩ = some (.int .i64 0) := (blk_cell BKq4.out 3).trans rfl; have fa0 : w8.frozen? ⟨q4, 0, none⟩ = false := blk_frozen BKq4.out 0; have fa1 : w8.frozen? ⟨q4, 1, none⟩ = false := blk_frozen BKq4.out 1; have fa2 : w8.frozen? ⟨q4, 2, none⟩ = false := blk_frozen BKq4.out 2; have fa3 : w8.frozen? ⟨q4, 3, none⟩ = false := blk_frozen BKq4.out 3; refine store_event (t := 28) (p := 4) (v := ?vo4_9_2_n2) (w1 := Cells.setAll w8 q4 0 [.string ⟨#[10, 0, 0, 0]⟩, .int .i64 8, .string ByteArray.empty, .int .i64 1]) ?hg ?ho ?hn ?hr ?_; (case ho => rfl); (case hg => rfl); (case hn => rfl); (case hr => first | (go_simp; done) | (go_simp; rfl)); intro w9 hw; have BKq2 := Aside0.mk (show w9.heap[q2]? = _ from (congrArg (fun W : World => W.heap[q2]?) hw).trans ((Cells.setAll_far HNq2q4.out _ _ _).trans BKq2.out)); have HB9 := Aside0.mk (show Below w.heap.size w w9 from by rw [hw]; exact Cells.setAll_below HQq4.out _ _ _ HB8.out); have BKq4 := Aside0.mk (show w9.heap[q4]? = some (.cells #[.string ⟨#[10, 0, 0, 0]⟩, .int .i64 8, .string ByteArray.empty, .int .i64 1] 28 (0, 0)) from by rw [hw]; exact Cells.stored4 BKq4.out); clear ca0 ca1 ca2 ca3 fa0 fa1 fa2 fa3; have HT9 := Aside0.mk (HT7.out.below (show Below w7.heap.size w7 w9 from by rw [hw]; exact Cells.setAll_below HQL.out _ _ _ HL.out)); clear HL HQL; clear hw))
  refine (find_call HT9.out good2 ⟨#[11, 0, 0, 1]⟩).mono ?_
  rintro e w10 ⟨he, hb⟩
  rw [aw5] at he
  have he : e = .returned (.tuple #[.agg #[.string ByteArray.empty, .int .i64 0, .string ByteArray.empty, .int .i64 0], .int .i64 182]) := he
  subst he
  have HB10 := Aside0.mk (HB9.out.trans (hb.mono HB9.out.size))
  have HT10 := Aside0.mk (HT9.out.below hb)
  have BKq2 := Aside0.mk (blk_below BKq2.out hb)
  have BKq4 := Aside0.mk (blk_below BKq4.out hb)
  clear hb
  go_wp2_with (first | ((with_reducible refine gate_dst (N := 6) rfl ?_); refine box_event ?hg (N := 6) ?hd (cs := #[.string ByteArray.empty, .int .i64 0, .string ByteArray.empty, .int .i64 0]) (t := 28) ?hr ?_; (case hd => rfl); (case hg => rfl); (case hr => first | (go_simp; done) | (go_simp; rfl)); intro q6 hq w11 hbox hb; have HNq2q6 := Aside0.mk (show q2 ≠ q6 from by have := blk_lt BKq2.out; omega); have HNq4q6 := Aside0.mk (show q4 ≠ q6 from by have := blk_lt BKq4.out; omega); have BKq2 := Aside0.mk (blk_below BKq2.out hb); have BKq4 := Aside0.mk (blk_below BKq4.out hb); have BKq6 := Aside0.mk hbox; have HQq6 := Aside0.mk (show w.heap.size ≤ q6 from by rw [hq]; exact HB10.out.size); have HB11 := Aside0.mk (HB10.out.trans (hb.mono HB10.out.size)); have HL := Aside0.mk (show Below w10.heap.size w10 w11 from hb); have HQL := Aside0.mk (show w10.heap.size ≤ q6 from Nat.le_of_eq hq.symm); clear hbox hb hq) | ((with_reducible refine gate_store (t := 28) (p := 6) rfl ?_); have ca0 : w11.cell? ⟨q6, 0, none⟩ = some (.string ByteArray.empty) := (blk_cell BKq6.out 0).trans rfl; have ca1 : w11.cell? ⟨q6, 1, none⟩ = some (.int .i64 0) := (blk_cell BKq6.out 1).trans rfl; have ca2 : w11.cell? ⟨q6, 2, none⟩ = some (.string ByteArray.empty) := (blk_cell BKq6.out 2).trans rfl; have ca3 : w11.cell? ⟨q6, 3, none⟩ = some (.int .i64 0) := (blk_cell BKq6.out 3).trans rfl; have fa0 : w11.frozen? ⟨q6, 0, none⟩ = false := blk_frozen BKq6.out 0; have fa1 : w11.frozen? ⟨q6, 1, none⟩ = false := blk_frozen BKq6.out 1; have fa2 : w11.frozen? ⟨q6, 2, none⟩ = false := blk_frozen BKq6.out 2; have fa3 : w11.frozen? ⟨q6, 3, none⟩ = false := blk_frozen BKq6.out 3; refine store_event (t := 28) (p := 6) (v := ?vo6_12_3_n3) (w1 := Cells.setAll w11 q6 0 [.string ByteArray.empty, .int .i64 0, .string ByteArray.empty, .int .i64 0]) ?hg ?ho ?hn ?hr ?_; (case ho => rfl); (case hg => rfl); (case hn => rfl); (case hr => first | (go_simp; done) | (go_simp; rfl)); intro w12 hw; have BKq2 := Aside0.mk (show w12.heap[q2]? = _ from (congrArg (fun W : World => W.heap[q2]?) hw).trans ((Cells.setAll_far HNq2q6.out _ _ _).trans BKq2.out)); have BKq4 := Aside0.mk (show w12.heap[q4]? = _ from (congrArg (fun W : World => W.heap[q4]?) hw).trans ((Cells.setAll_far HNq4q6.out _ _ _).trans BKq4.out)); have HB12 := Aside0.mk (show Below w.heap.size w w12 from by rw [hw]; exact Cells.setAll_below HQq6.out _ _ _ HB11.out); have BKq6 := Aside0.mk (show w12.heap[q6]? = some (.cells #[.string ByteArray.empty, .int .i64 0, .string ByteArray.empty, .int .i64 0] 28 (0, 0)) from by rw [hw]; exact Cells.stored4 BKq6.out); clear ca0 ca1 ca2 ca3 fa0 fa1 fa2 fa3; have HT12 := Aside0.mk (HT10.out.below (show Below w10.heap.size w10 w12 from by rw [hw]; exact Cells.setAll_below HQL.out _ _ _ HL.out)); clear HL HQL; clear hw; have u3 : w12.cell? ⟨q2, 3, none⟩ = some (.int .i64 2) := (blk_cell BKq2.out 3).trans rfl; have v3 : w12.cell? ⟨q4, 3, none⟩ = some (.int .i64 1) := (blk_cell BKq4.out 3).trans rfl))
  go_ret
  exact ⟨rfl, HB12.out⟩
end Go.Proofs.Ytmedkjiabieloaa.Rt
