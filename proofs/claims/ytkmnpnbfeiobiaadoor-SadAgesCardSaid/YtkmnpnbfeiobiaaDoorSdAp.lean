/- The law SadAges: what the calls do to a list of associations, plainly. -/
import Derived.Test.YtkmnpnbfeiobiaaDoorSdO
namespace Go.Proofs.YtkmnpnbfeiobiaaDoor.Sd
open Go.RowKit Go.Proofs.YtkmnpnbfeiobiaaDoorW.PrintWords Go.Proofs.YtkmnpnbfeiobiaaDoorW.PrintLast Go.Proofs.YtkmnpnbfeiobiaaDoorW.PrintMore Go.Proofs.YtkmnpnbfeiobiaaDoor.QSa
open Go.Proofs.YtkmnpnbfeiobiaaDoor
set_option linter.unusedVariables false
set_option linter.unusedSimpArgs false
/-- What an association is found by. -/
def keyE (e : En) : Int × Bool := (e.life.f0.f0, e.life.f2)
theorem hitB_key {spi : Int} {out : Bool} {e : En} : hitB spi out e = true ↔ keyE e = (spi, out) := by
  unfold hitB keyE
  rw [Bool.and_eq_true, beq_iff_eq, beq_iff_eq, Prod.mk.injEq]
/-- A list that has grown: no entry is another one, no counter fell. -/
structure Grow (es es' : List En) : Prop where
  le : es.length ≤ es'.length
  same : ∀ i, i < es.length → (es'.getD i en0).life = (es.getD i en0).life ∧ (es'.getD i en0).born = (es.getD i en0).born ∧ (es.getD i en0).bytes ≤ (es'.getD i en0).bytes
theorem Grow.refl (es : List En) : Grow es es := ⟨Nat.le_refl _, fun i hi => ⟨rfl, rfl, Int.le_refl _⟩⟩
theorem Grow.snoc (es : List En) (x : En) : Grow es (es ++ [x]) := ⟨by simp, fun i hi => by
  have : (es ++ [x]).getD i en0 = es.getD i en0 := by
    rw [List.getD_eq_getElem?_getD, List.getD_eq_getElem?_getD, List.getElem?_append_left hi]
  rw [this]
  exact ⟨rfl, rfl, Int.le_refl _⟩⟩
theorem getD_put {es : List En} {i j : Nat} {e : En} (hj : j < es.length) : (es.set i e).getD j en0 = if i = j then e else es.getD j en0 := by
  rw [List.getD_eq_getElem?_getD, List.getD_eq_getElem?_getD, List.getElem?_set]
  by_cases h : i = j
  · subst h
    rw [if_pos rfl, if_pos hj, if_pos rfl]
    rfl
  · rw [if_neg h, if_neg h]
theorem Grow.put {es : List En} {i : Nat} {e : En} (h1 : e.life = (es.getD i en0).life) (h2 : e.born = (es.getD i en0).born) (h3 : (es.getD i en0).bytes ≤ e.bytes) : Grow es (es.set i e) := ⟨by simp, fun j hj => by
  rw [getD_put hj]
  by_cases h : i = j
  · subst h
    rw [if_pos rfl]
    exact ⟨h1, h2, h3⟩
  · rw [if_neg h]
    exact ⟨rfl, rfl, Int.le_refl _⟩⟩
theorem find_is {es : List En} {spi : Int} {out : Bool} {i : Nat} (hi : i < es.length) (h : hitB spi out (es.getD i en0) = true) (hj : ∀ j, j < i → hitB spi out (es.getD j en0) = false) : findI es spi out = i := by
  unfold findI
  rw [List.findIdx_eq hi]
  refine ⟨?_, fun j hj' => ?_⟩
  · rwa [List.getD_eq_getElem?_getD, List.getElem?_eq_getElem hi] at h
  · have := hj j hj'
    rwa [List.getD_eq_getElem?_getD, List.getElem?_eq_getElem (by omega)] at this
theorem find_hit {es : List En} {spi : Int} {out : Bool} (h : findI es spi out < es.length) : hitB spi out (es.getD (findI es spi out) en0) = true := by
  rw [List.getD_eq_getElem?_getD, List.getElem?_eq_getElem h]
  exact List.findIdx_getElem (w := h)
theorem find_low {es : List En} {spi : Int} {out : Bool} (h : findI es spi out < es.length) {j : Nat} (hj : j < findI es spi out) : hitB spi out (es.getD j en0) = false := by
  rw [List.getD_eq_getElem?_getD, List.getElem?_eq_getElem (by omega)]
  have := List.not_of_lt_findIdx (p := hitB spi out) (xs := es) hj
  simpa using this
theorem hit_same {spi : Int} {out : Bool} {a b : En} (h : a.life = b.life) : hitB spi out a = hitB spi out b := by
  unfold hitB
  rw [h]
theorem find_grow {es es' : List En} {spi : Int} {out : Bool} (h : Grow es es') (hf : findI es spi out < es.length) : findI es' spi out = findI es spi out := by
  refine find_is (Nat.lt_of_lt_of_le hf h.le) ?_ fun j hj => ?_
  · rw [hit_same (h.same _ hf).1]
    exact find_hit hf
  · rw [hit_same (h.same j (by omega)).1]
    exact find_low hf hj
theorem reach_mono {a b l : Int} (h : a ≤ b) (ha : reachB a l = true) : reachB b l = true := by
  unfold reachB at ha ⊢
  simp only [Bool.and_eq_true, decide_eq_true_eq] at ha ⊢
  omega
theorem ageE_mono {e e' : En} {now : Int} (h1 : e'.life = e.life) (h2 : e'.born = e.born) (h3 : e.bytes ≤ e'.bytes) : ageE e now ≤ ageE e' now := by
  unfold ageE
  rw [h1, h2]
  have r4 := reach_mono (l := e.life.f4) h3
  have r3 := reach_mono (l := e.life.f3) h3
  revert r4 r3
  generalize reachB e.bytes e.life.f4 = a
  generalize reachB e'.bytes e.life.f4 = a'
  generalize reachB e.bytes e.life.f3 = c
  generalize reachB e'.bytes e.life.f3 = c'
  generalize reachB (now - e.born) e.life.f6 = b
  generalize reachB (now - e.born) e.life.f5 = d
  revert a a' b c c' d
  decide
theorem age_grow {es es' : List En} {now spi : Int} {out : Bool} {a : Int} (h : Grow es es') (ha : ageF es now spi out = (a, 0)) : ∃ b, ageF es' now spi out = (b, 0) ∧ a ≤ b := by
  by_cases hf : findI es spi out < es.length
  · unfold ageF at ha ⊢
    rw [if_pos hf] at ha
    rw [find_grow h hf, if_pos (Nat.lt_of_lt_of_le hf h.le)]
    have hs := h.same _ hf
    have := ageE_mono (now := now) hs.1 hs.2.1 hs.2.2
    injection ha with ha _
    exact ⟨_, rfl, by rw [← ha]; exact this⟩
  · unfold ageF at ha
    rw [if_neg hf] at ha
    injection ha with _ ha
    exact absurd ha (by decide)
theorem age_cases (es : List En) (now spi : Int) (out : Bool) : (∃ a, ageF es now spi out = (a, 0)) ∨ ageF es now spi out = (0, 6) := by
  unfold ageF
  split
  · exact .inl ⟨_, rfl⟩
  · exact .inr rfl
/-- What the law's list is. -/
structure Lst (j : Nat) (es : List En) : Prop where
  good : ∀ e ∈ es, Good j e
  len : es.length ≤ 32
  keys : (es.map keyE).Nodup
theorem Lst.mono {j : Nat} {es : List En} (h : Lst j es) : Lst (j + 1) es := ⟨fun e he => (h.good e he).mono (Nat.le_succ _), h.len, h.keys⟩
theorem Lst.put {j i : Nat} {es : List En} {e : En} (h : Lst j es) (hi : i < es.length) (hk : e.life = (es.getD i en0).life) (hg : Good (j + 1) e) : Lst (j + 1) (es.set i e) := by
  refine ⟨fun x hx => ?_, by rw [List.length_set]; exact h.len, ?_⟩
  · rcases List.mem_or_eq_of_mem_set hx with hx | rfl
    · exact (h.good x hx).mono (Nat.le_succ _)
    · exact hg
  · have hkk : keyE e = (es.map keyE)[i]'(by simpa using hi) := by
      rw [List.getElem_map]
      unfold keyE
      rw [hk, List.getD_eq_getElem?_getD, List.getElem?_eq_getElem hi]
      rfl
    rw [List.map_set, hkk, List.set_getElem_self]
    exact h.keys
theorem Lst.snoc {j : Nat} {es : List En} {e : En} (h : Lst j es) (hl : es.length < 32) (hg : Good (j + 1) e) (hn : keyE e ∉ es.map keyE) : Lst (j + 1) (es ++ [e]) := by
  refine ⟨fun x hx => ?_, by rw [List.length_append, List.length_singleton]; omega, ?_⟩
  · rcases List.mem_append.1 hx with hx | hx
    · exact (h.good x hx).mono (Nat.le_succ _)
    · rw [List.mem_singleton.1 hx]; exact hg
  · rw [List.map_append]
    refine List.nodup_append.2 ⟨h.keys, by simp, fun a ha b hb => ?_⟩
    rw [List.map_singleton, List.mem_singleton] at hb
    rw [hb]
    exact fun e => hn (e ▸ ha)
theorem find_none {es : List En} {spi : Int} {out : Bool} (h : ¬ findI es spi out < es.length) : (spi, out) ∉ es.map keyE := by
  intro hm
  obtain ⟨e, he, hk⟩ := List.mem_map.1 hm
  exact h (List.findIdx_lt_length_of_exists ⟨e, he, hitB_key.2 hk⟩)
theorem Lst.add {j : Nat} {es : List En} (h : Lst j es) {now : Int} (h0 : 0 ≤ now) (h1 : now ≤ 1000000000) (x : S27) : Lst (j + 1) (addF es now x).1 ∧ Grow es (addF es now x).1 := by
  unfold addF
  by_cases hm : mayL x = true ∧ 0 ≤ now
  · rw [if_pos hm]
    by_cases hf : findI es x.f0.f0 x.f2 < es.length
    · rw [if_pos hf]; exact ⟨h.mono, .refl _⟩
    · rw [if_neg hf]
      by_cases h32 : 32 ≤ es.length
      · rw [if_pos h32]; exact ⟨h.mono, .refl _⟩
      · rw [if_neg h32]
        exact ⟨h.snoc (by omega) (newE_good x now _ hm.1 h0 h1) (find_none hf), .snoc _ _⟩
  · rw [if_neg hm]; exact ⟨h.mono, .refl _⟩
theorem Lst.send {j : Nat} {es : List En} (h : Lst j es) (now spi : Int) {n : Int} (hn : n ≤ 1000000000) : Lst (j + 1) (sendF es now spi n).1 ∧ Grow es (sendF es now spi n).1 := by
  unfold sendF
  by_cases h0 : n < 0
  · rw [if_pos h0]; exact ⟨h.mono, .refl _⟩
  · rw [if_neg h0]
    by_cases hf : findI es spi true < es.length
    · rw [if_pos hf]
      by_cases ha : ageE (es.getD (findI es spi true) en0) now = 2
      · rw [if_pos ha]; exact ⟨h.mono, .refl _⟩
      · rw [if_neg ha]
        by_cases hb : fullB (es.getD (findI es spi true) en0) = true
        · rw [if_pos hb]; exact ⟨h.mono, .refl _⟩
        · rw [if_neg hb]
          refine ⟨h.put hf rfl ((h.good _ (getD_mem hf)).send (by omega) hn (Bool.eq_false_iff.2 hb)), .put rfl rfl ?_⟩
          show _ ≤ (es.getD (findI es spi true) en0).bytes + n
          omega
    · rw [if_neg hf]; exact ⟨h.mono, .refl _⟩
theorem Lst.take {j : Nat} {es : List En} (h : Lst j es) (now spi : Int) {seq : Nat} (hs : seq < 18446744073709551616) {n : Int} (hn : n ≤ 1000000000) : Lst (j + 1) (takeF es now spi seq n).1 ∧ Grow es (takeF es now spi seq n).1 := by
  unfold takeF
  by_cases h0 : n < 0
  · rw [if_pos h0]; exact ⟨h.mono, .refl _⟩
  · rw [if_neg h0]
    by_cases hf : findI es spi false < es.length
    · rw [if_pos hf]
      by_cases ha : ageE (es.getD (findI es spi false) en0) now = 2
      · rw [if_pos ha]; exact ⟨h.mono, .refl _⟩
      · rw [if_neg ha]
        by_cases hb : Win.chk (es.getD (findI es spi false) en0).life.f0.f4 (es.getD (findI es spi false) en0).st seq = 0
        · rw [if_pos hb]
          refine ⟨h.put hf rfl ((h.good _ (getD_mem hf)).take (by omega) hn hs hb), .put rfl rfl ?_⟩
          show _ ≤ (es.getD (findI es spi false) en0).bytes + n
          omega
        · rw [if_neg hb]; exact ⟨h.mono, .refl _⟩
    · rw [if_neg hf]; exact ⟨h.mono, .refl _⟩
theorem age_two {es : List En} {now spi : Int} {out : Bool} (h : ageF es now spi out = (2, 0)) : findI es spi out < es.length ∧ ageE (es.getD (findI es spi out) en0) now = 2 := by
  unfold ageF at h
  by_cases hf : findI es spi out < es.length
  · rw [if_pos hf] at h
    injection h with h _
    exact ⟨hf, h⟩
  · rw [if_neg hf] at h
    injection h with h _
    exact absurd h (by decide)
theorem send_hard {es : List En} {now spi : Int} (h : ageF es now spi true = (2, 0)) (n : Int) : (sendF es now spi n).2.2.2 ≠ 0 := by
  obtain ⟨hf, ha⟩ := age_two h
  unfold sendF
  by_cases h0 : n < 0
  · rw [if_pos h0]; show (1 : Int) ≠ 0; decide
  · rw [if_neg h0, if_pos hf, if_pos ha]; show (171 : Int) ≠ 0; decide
theorem take_hard {es : List En} {now spi : Int} (h : ageF es now spi false = (2, 0)) (seq : Nat) (n : Int) : (takeF es now spi seq n).2 ≠ 0 := by
  obtain ⟨hf, ha⟩ := age_two h
  unfold takeF
  by_cases h0 : n < 0
  · rw [if_pos h0]; show (1 : Int) ≠ 0; decide
  · rw [if_neg h0, if_pos hf, if_pos ha]; show (171 : Int) ≠ 0; decide
theorem look_hard {es : List En} {now spi : Int} (h : ageF es now spi false = (2, 0)) (low : Int) : (lookF es now spi low).2.2 = 171 := by
  obtain ⟨hf, ha⟩ := age_two h
  unfold lookF
  rw [if_pos hf, if_pos ha]
theorem nodup_inj {α β : Type} {f : α → β} : ∀ {l : List α}, (l.map f).Nodup → ∀ {x y : α}, x ∈ l → y ∈ l → f x = f y → x = y
  | [], _, _, _, h, _, _ => absurd h (by simp)
  | a :: l, hn, x, y, hx, hy, e => by
    rw [List.map_cons, List.nodup_cons] at hn
    rcases List.mem_cons.1 hx with h1 | h1
    · rcases List.mem_cons.1 hy with h2 | h2
      · rw [h1, h2]
      · exact absurd (List.mem_map.2 ⟨y, h2, by rw [← e, h1]⟩) hn.1
    · rcases List.mem_cons.1 hy with h2 | h2
      · exact absurd (List.mem_map.2 ⟨x, h1, by rw [e, h2]⟩) hn.1
      · exact nodup_inj hn.2 h1 h2 e
theorem Lst.age {j : Nat} {es : List En} (h : Lst j es) {e : En} (he : e ∈ es) {spi : Int} {out : Bool} (hk : keyE e = (spi, out)) (now : Int) : ageF es now spi out = (ageE e now, 0) := by
  have hf : findI es spi out < es.length := List.findIdx_lt_length_of_exists ⟨e, he, hitB_key.2 hk⟩
  have := nodup_inj h.keys (getD_mem hf) he ((hitB_key.1 (find_hit hf)).trans hk.symm)
  unfold ageF
  rw [if_pos hf, this]
/-- Picked: one that sends, and is not hard. -/
def Picked (es : List En) (now s : Int) : Prop := ∃ e ∈ es, keyE e = (s, true) ∧ ageE e now ≤ 1
theorem pickL_ok (es : List En) (now rule : Int) : ∀ (l : List En) (o : Option Int), (∀ e ∈ l, e ∈ es) → (∀ s, o = some s → Picked es now s) → (pickL now rule l o).2 = 161 ∨ ((pickL now rule l o).2 = 0 ∧ Picked es now (pickL now rule l o).1)
  | [], none, _, _ => .inl rfl
  | [], some s, _, h => .inr ⟨rfl, h s rfl⟩
  | e :: l, o, hl, h => by
    have hl' : ∀ e ∈ l, e ∈ es := fun e he => hl e (List.mem_cons_of_mem _ he)
    have hno := pickL_ok es now rule l o hl' h
    unfold pickL
    by_cases h1 : e.life.f2 = true
    · rw [if_pos h1]
      by_cases h2 : e.life.f1 = rule
      · rw [if_pos h2]
        by_cases h3 : ageE e now = 0
        · rw [if_pos h3]
          exact .inr ⟨rfl, e, hl e (List.mem_cons_self ..), by unfold keyE; rw [h1], by omega⟩
        · rw [if_neg h3]
          by_cases h4 : ageE e now = 1
          · rw [if_pos h4]
            refine pickL_ok es now rule l _ hl' fun s hs => ?_
            injection hs with hs
            subst hs
            exact ⟨e, hl e (List.mem_cons_self ..), by unfold keyE; rw [h1], by omega⟩
          · rw [if_neg h4]; exact hno
      · rw [if_neg h2]; exact hno
    · rw [if_neg h1]; exact hno
theorem Lst.pick {j : Nat} {es : List En} (h : Lst j es) (now rule : Int) : (pickF es now rule).2 = 161 ∨ ((pickF es now rule).2 = 0 ∧ ∃ c, ageF es now (pickF es now rule).1 true = (c, 0) ∧ c ≤ 1) := by
  rcases pickL_ok es now rule es none (fun _ h => h) (fun s hs => by cases hs) with h1 | ⟨h1, e, he, hk, ha⟩
  · exact .inl h1
  · exact .inr ⟨h1, _, h.age he hk now, ha⟩
end Go.Proofs.YtkmnpnbfeiobiaaDoor.Sd
