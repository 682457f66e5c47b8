/- Plain laws: a route that is added and removed. -/
import Derived.Test.YtmedkjiabieloaaRtOne
namespace Go.Proofs.Ytmedkjiabieloaa.Rt
open Go.RowKit Go.Proofs.YtmedkjiabieloaaW.PrintWords Go.Proofs.YtmedkjiabieloaaW.PrintLast Go.Proofs.YtmedkjiabieloaaW.PrintMore Go.Proofs.Ytmedkjiabieloaa.QRd
open Go.Proofs.Ytmedkjiabieloaa
set_option linter.unusedVariables false
set_option linter.unusedSimpArgs false
theorem ins_getD (L : List S28) (x : S28) (i j : Nat) (hi : i ≤ L.length) : (L.take i ++ x :: L.drop i).getD j z28 = if j < i then L.getD j z28 else if j = i then x else L.getD (j - 1) z28 := by
  have hl : (L.take i).length = i := by rw [List.length_take]; omega
  simp only [List.getD_eq_getElem?_getD]
  by_cases h1 : j < i
  · rw [if_pos h1, List.getElem?_append_left (by omega), List.getElem?_take, if_pos h1]
  · rw [if_neg h1, List.getElem?_append_right (by omega), hl]
    by_cases h2 : j = i
    · rw [if_pos h2, h2, Nat.sub_self]
      rfl
    · rw [if_neg h2]
      obtain ⟨k, rfl⟩ : ∃ k, j = i + k + 1 := ⟨j - i - 1, by omega⟩
      rw [show i + k + 1 - i = k + 1 by omega, List.getElem?_cons_succ, List.getElem?_drop, show i + k + 1 - 1 = i + k by omega]
theorem pos_ins {L : List S28} (hs : Sorted L) (x : S28) (i : Nat) (hp : Pos L x.f0 i) : Pos (L.take i ++ x :: L.drop i) x.f0 i := by
  have hi := hp.1
  have hlen : (L.take i ++ x :: L.drop i).length = L.length + 1 := by simp only [List.length_append, List.length_take, List.length_cons, List.length_drop]; omega
  refine ⟨by omega, fun j hj => ?_, fun j hj hl => ?_⟩
  · rw [ins_getD _ _ _ _ hi, if_pos hj]
    exact hp.2.1 j hj
  · rw [ins_getD _ _ _ _ hi, if_neg (by omega)]
    by_cases h : j = i
    · rw [if_pos h]
      exact rlt_irr _
    · rw [if_neg h]
      exact hp.2.2 (j - 1) (by omega) (by omega)
theorem erase_ins (L : List S28) (x : S28) (i : Nat) (hi : i ≤ L.length) : (L.take i ++ x :: L.drop i).eraseIdx i = L := by
  rw [List.eraseIdx_eq_take_drop_succ]
  have hl : (L.take i).length = i := by rw [List.length_take]; omega
  rw [show (L.take i ++ x :: L.drop i).take i = L.take i from List.take_left' hl, show i + 1 = (L.take i ++ [x]).length by rw [List.length_append, hl]; rfl, show L.take i ++ x :: L.drop i = (L.take i ++ [x]) ++ L.drop i by simp, List.drop_left, List.take_append_drop]
theorem add_rem {L : List S28} (hg : Good L) (r : S28) (hb : ¬ badR r) (hn : isAt L (normR r).f0 (posF L (normR r).f0) = false) (hl : L.length < 64) :
    addF L r = (L.take (posF L (normR r).f0) ++ normR r :: L.drop (posF L (normR r).f0), 0) ∧ remF (addF L r).1 r.f0 = (L, 0) := by
  have h1 : addF L r = (L.take (posF L (normR r).f0) ++ normR r :: L.drop (posF L (normR r).f0), 0) := by
    unfold addF
    rw [if_neg hb, hn, if_neg (by decide), if_neg (by omega)]
  refine ⟨h1, ?_⟩
  have hm : (maskE r.f0.f0 r.f0.f1).2 = 0 := by
    unfold badR at hb
    simp only [not_or, Decidable.not_not] at hb
    exact hb.1
  have hp := posF_pos hg.srt (normR r).f0
  have hp1 := pos_ins hg.srt (normR r) _ hp
  have hg1 := good_addF hg r
  rw [h1] at hg1 ⊢
  have e := hp1.uniq (posF_pos hg1.srt (normR r).f0)
  have hlen : (L.take (posF L (normR r).f0) ++ normR r :: L.drop (posF L (normR r).f0)).length = L.length + 1 := by
    have := hp.1
    simp only [List.length_append, List.length_take, List.length_cons, List.length_drop]; omega
  have hat : isAt (L.take (posF L (normR r).f0) ++ normR r :: L.drop (posF L (normR r).f0)) (normR r).f0 (posF L (normR r).f0) = true := (isAt_iff _ _ _).2 ⟨by have := hp.1; omega, by rw [ins_getD _ _ _ _ hp.1, if_neg (by omega), if_pos rfl]⟩
  unfold remF
  simp only
  rw [if_neg (fun h => h hm)]
  show (if isAt _ (normR r).f0 (posF _ (normR r).f0) = true then _ else _) = _
  rw [← e, hat, if_pos rfl]
  show ((L.take (posF L (normR r).f0) ++ normR r :: L.drop (posF L (normR r).f0)).eraseIdx (posF _ (normR r).f0), (0 : Int)) = _
  rw [← e, erase_ins _ _ _ hp.1]
theorem addF_len' {l : List S28} (hg : Good l) (r : S28) : (addF l r).1.length ≤ l.length + 1 := by
  unfold addF
  have hp := (posF_pos hg.srt (normR r).f0).1
  split
  · exact Nat.le_succ _
  · split
    · simp
    · split
      · exact Nat.le_succ _
      · simp only [List.length_append, List.length_cons, List.length_take, List.length_drop]
        omega
theorem gone_r {L : List S28} (hg : Good L) (r : S28) (h : (remF L r.f0).2 ≠ 0) :
    (remF L r.f0).1 = L ∧ (remF (addF L r).1 r.f0).1 = L ∧ ((addF L r).2 = (remF (addF L r).1 r.f0).2 ∨ (addF L r).2 ≠ 0) := by
  have h0 : remF L r.f0 = (L, 6) := by
    unfold remF at h ⊢
    by_cases hm : (maskE r.f0.f0 r.f0.f1).2 ≠ 0
    · rw [if_pos hm]
    · rw [if_neg hm] at h ⊢
      split
      · rename_i hat
        rw [if_pos hat] at h
        exact absurd rfl h
      · rfl
  refine ⟨by rw [h0], ?_⟩
  by_cases hb : badR r
  · have h1 : addF L r = (L, 1) := by unfold addF; rw [if_pos hb]
    rw [h1]
    exact ⟨by rw [h0], .inr (show (1 : Int) ≠ 0 by decide)⟩
  · have hm : (maskE r.f0.f0 r.f0.f1).2 = 0 := by
      unfold badR at hb
      simp only [not_or, Decidable.not_not] at hb
      exact hb.1
    have hat : isAt L (normR r).f0 (posF L (normR r).f0) = false := by
      cases ha : isAt L (normR r).f0 (posF L (normR r).f0) with
      | false => rfl
      | true =>
        have h1 : (remF L r.f0).2 = 0 := by
          unfold remF
          rw [if_neg (fun h => h hm)]
          show (if isAt L (normR r).f0 (posF L (normR r).f0) = true then _ else _ : List S28 × Int).2 = 0
          rw [ha, if_pos rfl]
        exact absurd h1 h
    by_cases hl : 64 ≤ L.length
    · have h1 : addF L r = (L, 7) := by unfold addF; rw [if_neg hb, hat, if_neg (by decide), if_pos hl]
      rw [h1]
      exact ⟨by rw [h0], .inr (show (7 : Int) ≠ 0 by decide)⟩
    · obtain ⟨h1, h2⟩ := add_rem hg r hb hat (by omega)
      rw [h2]
      exact ⟨rfl, .inl (by rw [h1])⟩
theorem gone_all {L : List S28} (hg : Good L) (d : ByteArray) (h : (findF L d).2 = 182) (hl : L.length < 64) :
    (addF L ⟨⟨d, 0⟩, ByteArray.empty, 77⟩).2 = 0 ∧ (findF (addF L ⟨⟨d, 0⟩, ByteArray.empty, 77⟩).1 d).2 = 0 ∧ (findF (addF L ⟨⟨d, 0⟩, ByteArray.empty, 77⟩).1 d).1.f2 = 77 ∧ remF (addF L ⟨⟨d, 0⟩, ByteArray.empty, 77⟩).1 ⟨d, 0⟩ = (L, 0) := by
  have hd : d.size = 4 ∨ d.size = 16 := by
    unfold findF at h
    by_cases hd : d.size = 4 ∨ d.size = 16
    · exact hd
    · rw [if_neg hd] at h
      cases h
  have hm : (maskE d 0).2 = 0 := (mask_ok _ _).2 (by unfold maskBad; omega)
  have hb : ¬ badR ⟨⟨d, 0⟩, ByteArray.empty, 77⟩ := by
    unfold badR
    rintro (h | ⟨h, _⟩ | h)
    · exact h hm
    · exact h (show ByteArray.empty.toList = [] by decide +kernel)
    · simp only at h; omega
  have hno : ∀ x ∈ L, inR d x.f0.f0 x.f0.f1 = false := by
    unfold findF at h
    rw [if_pos hd] at h
    obtain ⟨i1, _⟩ := best_inv d L (z28, false)
    have hbt : bestTo L d L.length = L.foldl (bestS d) (z28, false) := by unfold bestTo; rw [List.take_length]
    rw [← hbt] at i1
    cases hf : (bestTo L d L.length).2 with
    | false => exact (i1 hf).2
    | true => rw [hf] at h; cases h
  have hN : (normR ⟨⟨d, 0⟩, ByteArray.empty, 77⟩).f0 = ⟨(maskE d 0).1, 0⟩ := rfl
  have hat : isAt L (normR ⟨⟨d, 0⟩, ByteArray.empty, 77⟩).f0 (posF L (normR ⟨⟨d, 0⟩, ByteArray.empty, 77⟩).f0) = false := by
    cases ha : isAt L (normR ⟨⟨d, 0⟩, ByteArray.empty, 77⟩).f0 (posF L (normR ⟨⟨d, 0⟩, ByteArray.empty, 77⟩).f0) with
    | false => rfl
    | true =>
      obtain ⟨hi, he⟩ := (isAt_iff _ _ _).1 ha
      have hx := getD_mem hi
      have := hno _ hx
      rw [(in_iff hd (hg.nrm _ hx)).2 ⟨by rw [he, hN]; exact Int.le_refl _, by rw [he, hN]; simp only; omega, by rw [he, hN]⟩] at this
      cases this
  obtain ⟨h1, h2⟩ := add_rem hg _ hb hat hl
  refine ⟨by rw [h1], ?_⟩
  have hg1 := good_addF hg ⟨⟨d, 0⟩, ByteArray.empty, 77⟩
  have hmem : normR ⟨⟨d, 0⟩, ByteArray.empty, 77⟩ ∈ (addF L ⟨⟨d, 0⟩, ByteArray.empty, 77⟩).1 := by rw [h1]; simp
  have hin : inR d (normR ⟨⟨d, 0⟩, ByteArray.empty, 77⟩).f0.f0 (normR ⟨⟨d, 0⟩, ByteArray.empty, 77⟩).f0.f1 = true := (in_iff hd (norm_nrm hb)).2 ⟨Int.le_refl _, by show (0 : Int) ≤ _; omega, rfl⟩
  have hone : ∀ y ∈ (addF L ⟨⟨d, 0⟩, ByteArray.empty, 77⟩).1, inR d y.f0.f0 y.f0.f1 = true → y = normR ⟨⟨d, 0⟩, ByteArray.empty, 77⟩ := by
    intro y hy hy'
    rw [h1] at hy
    simp only [List.mem_append, List.mem_cons] at hy
    rcases hy with hy | hy | hy
    · rw [hno y (List.mem_of_mem_take hy)] at hy'; cases hy'
    · exact hy
    · rw [hno y (List.mem_of_mem_drop hy)] at hy'; cases hy'
  obtain ⟨i1, i2⟩ := best_inv d (addF L ⟨⟨d, 0⟩, ByteArray.empty, 77⟩).1 (z28, false)
  have hbt : bestTo (addF L ⟨⟨d, 0⟩, ByteArray.empty, 77⟩).1 d (addF L ⟨⟨d, 0⟩, ByteArray.empty, 77⟩).1.length = (addF L ⟨⟨d, 0⟩, ByteArray.empty, 77⟩).1.foldl (bestS d) (z28, false) := by unfold bestTo; rw [List.take_length]
  rw [← hbt] at i1 i2
  unfold findF
  rw [if_pos hd]
  generalize hB : bestTo (addF L ⟨⟨d, 0⟩, ByteArray.empty, 77⟩).1 d (addF L ⟨⟨d, 0⟩, ByteArray.empty, 77⟩).1.length = B at i1 i2 ⊢
  cases hf : B.2 with
  | false =>
    have := (i1 hf).2 _ hmem
    rw [hin] at this
    cases this
  | true =>
    obtain ⟨j1, _, _⟩ := i2 hf
    rcases j1 with j1 | ⟨j1, j4⟩
    · rw [j1] at hf; cases hf
    · have e := hone _ j1 j4
      exact ⟨rfl, by show B.1.f2 = 77; rw [e]; rfl, h2⟩
end Go.Proofs.Ytmedkjiabieloaa.Rt
