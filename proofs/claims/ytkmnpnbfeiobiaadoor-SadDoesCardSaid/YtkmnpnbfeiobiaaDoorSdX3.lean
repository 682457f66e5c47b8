/- The law SadAges: what the calls do to a list of associations, plainly. The law SadFollows. Slices of structs that came in: their reading as a list (for the walks). The document's associations: Find. The document's associations: Age. The document's associations: Pick. The document's associations: List. The document's associations: Take. The document's associations: Take, where it takes. The document's May of a life. The document's associations: Send, where it refuses. The document's associations: Look. (Texts of this session, put together by wip/tools/merge.py.) -/
import Derived.Test.YtkmnpnbfeiobiaaDoorSdX2
import Derived.SizedLaws
import Derived.ChangeSlices
import Derived.Carry
import Derived.Deep.Slices
import Derived.Test.YtkmnpnbfeiobiaaDoorWMore
import Derived.Test.YtkmnpnbfeiobiaaDoorReads
import Derived.Test.YtkmnpnbfeiobiaaDoorQSax36
namespace Go.Proofs.YtkmnpnbfeiobiaaDoor.Sd
open Go.RowKit Go.Proofs.YtkmnpnbfeiobiaaDoorW.PrintWords Go.Proofs.YtkmnpnbfeiobiaaDoorW.PrintLast Go.Proofs.YtkmnpnbfeiobiaaDoorW.PrintMore Go.Proofs.YtkmnpnbfeiobiaaDoor.QSa
open Go.Proofs.YtkmnpnbfeiobiaaDoor
set_option linter.unusedVariables false
set_option linter.unusedSimpArgs false
/-- What an association is found by. -/
def keyE (e : En) : Int × Bool := (e.life.f0.f0, e.life.f2)
theorem hitB_key {spi : Int} {out : Bool} {e : En} : hitB spi out e = true ↔ keyE e = (spi, out) := by
  unfold hitB keyE
  rw [Bool.and_eq_true, beq_iff_eq, beq_iff_eq, Prod.mk.injEq]
/-- A list that has grown: no entry is another one, no counter fell. -/
structure Grow (es es' : List En) : Prop where
  le : es.length ≤ es'.length
  same : ∀ i, i < es.length → (es'.getD i en0).life = (es.getD i en0).life ∧ (es'.getD i en0).born = (es.getD i en0).born ∧ (es.getD i en0).bytes ≤ (es'.getD i en0).bytes
theorem Grow.refl (es : List En) : Grow es es := ⟨Nat.le_refl _, fun i hi => ⟨rfl, rfl, Int.le_refl _⟩⟩
theorem Grow.snoc (es : List En) (x : En) : Grow es (es ++ [x]) := ⟨by simp, fun i hi => by
  have : (es ++ [x]).getD i en0 = es.getD i en0 := by
    rw [List.getD_eq_getElem?_getD, List.getD_eq_getElem?_getD, List.getElem?_append_left hi]
  rw [this]
  exact ⟨rfl, rfl, Int.le_refl _⟩⟩
theorem getD_put {es : List En} {i j : Nat} {e : En} (hj : j < es.length) : (es.set i e).getD j en0 = if i = j then e else es.getD j en0 := by
  rw [List.getD_eq_getElem?_getD, List.getD_eq_getElem?_getD, List.getElem?_set]
  by_cases h : i = j
  · subst h
    rw [if_pos rfl, if_pos hj, if_pos rfl]
    rfl
  · rw [if_neg h, if_neg h]
theorem Grow.put {es : List En} {i : Nat} {e : En} (h1 : e.life = (es.getD i en0).life) (h2 : e.born = (es.getD i en0).born) (h3 : (es.getD i en0).bytes ≤ e.bytes) : Grow es (es.set i e) := ⟨by simp, fun j hj => by
  rw [getD_put hj]
  by_cases h : i = j
  · subst h
    rw [if_pos rfl]
    exact ⟨h1, h2, h3⟩
  · rw [if_neg h]
    exact ⟨rfl, rfl, Int.le_refl _⟩⟩
theorem find_is {es : List En} {spi : Int} {out : Bool} {i : Nat} (hi : i < es.length) (h : hitB spi out (es.getD i en0) = true) (hj : ∀ j, j < i → hitB spi out (es.getD j en0) = false) : findI es spi out = i := by
  unfold findI
  rw [List.findIdx_eq hi]
  refine ⟨?_, fun j hj' => ?_⟩
  · rwa [List.getD_eq_getElem?_getD, List.getElem?_eq_getElem hi] at h
  · have := hj j hj'
    rwa [List.getD_eq_getElem?_getD, List.getElem?_eq_getElem (by omega)] at this
theorem find_hit {es : List En} {spi : Int} {out : Bool} (h : findI es spi out < es.length) : hitB spi out (es.getD (findI es spi out) en0) = true := by
  rw [List.getD_eq_getElem?_getD, List.getElem?_eq_getElem h]
  exact List.findIdx_getElem (w := h)
theorem find_low {es : List En} {spi : Int} {out : Bool} (h : findI es spi out < es.length) {j : Nat} (hj : j < findI es spi out) : hitB spi out (es.getD j en0) = false := by
  rw [List.getD_eq_getElem?_getD, List.getElem?_eq_getElem (by omega)]
  have := List.not_of_lt_findIdx (p := hitB spi out) (xs := es) hj
  simpa using this
theorem hit_same {spi : Int} {out : Bool} {a b : En} (h : a.life = b.life) : hitB spi out a = hitB spi out b := by
  unfold hitB
  rw [h]
theorem find_grow {es es' : List En} {spi : Int} {out : Bool} (h : Grow es es') (hf : findI es spi out < es.length) : findI es' spi out = findI es spi out := by
  refine find_is (Nat.lt_of_lt_of_le hf h.le) ?_ fun j hj => ?_
  · rw [hit_same (h.same _ hf).1]
    exact find_hit hf
  · rw [hit_same (h.same j (by omega)).1]
    exact find_low hf hj
theorem reach_mono {a b l : Int} (h : a ≤ b) (ha : reachB a l = true) : reachB b l = true := by
  unfold reachB at ha ⊢
  simp only [Bool.and_eq_true, decide_eq_true_eq] at ha ⊢
  omega
theorem ageE_mono {e e' : En} {now : Int} (h1 : e'.life = e.life) (h2 : e'.born = e.born) (h3 : e.bytes ≤ e'.bytes) : ageE e now ≤ ageE e' now := by
  unfold ageE
  rw [h1, h2]
  have r4 := reach_mono (l := e.life.f4) h3
  have r3 := reach_mono (l := e.life.f3) h3
  revert r4 r3
  generalize reachB e.bytes e.life.f4 = a
  generalize reachB e'.bytes e.life.f4 = a'
  generalize reachB e.bytes e.life.f3 = c
  generalize reachB e'.bytes e.life.f3 = c'
  generalize reachB (now - e.born) e.life.f6 = b
  generalize reachB (now - e.born) e.life.f5 = d
  revert a a' b c c' d
  decide
theorem age_grow {es es' : List En} {now spi : Int} {out : Bool} {a : Int} (h : Grow es es') (ha : ageF es now spi out = (a, 0)) : ∃ b, ageF es' now spi out = (b, 0) ∧ a ≤ b := by
  by_cases hf : findI es spi out < es.length
  · unfold ageF at ha ⊢
    rw [if_pos hf] at ha
    rw [find_grow h hf, if_pos (Nat.lt_of_lt_of_le hf h.le)]
    have hs := h.same _ hf
    have := ageE_mono (now := now) hs.1 hs.2.1 hs.2.2
    injection ha with ha _
    exact ⟨_, rfl, by rw [← ha]; exact this⟩
  · unfold ageF at ha
    rw [if_neg hf] at ha
    injection ha with _ ha
    exact absurd ha (by decide)
theorem age_cases (es : List En) (now spi : Int) (out : Bool) : (∃ a, ageF es now spi out = (a, 0)) ∨ ageF es now spi out = (0, 6) := by
  unfold ageF
  split
  · exact .inl ⟨_, rfl⟩
  · exact .inr rfl
/-- What the law's list is. -/
structure Lst (j : Nat) (es : List En) : Prop where
  good : ∀ e ∈ es, Good j e
  len : es.length ≤ 32
  keys : (es.map keyE).Nodup
theorem Lst.mono {j : Nat} {es : List En} (h : Lst j es) : Lst (j + 1) es := ⟨fun e he => (h.good e he).mono (Nat.le_succ _), h.len, h.keys⟩
theorem Lst.put {j i : Nat} {es : List En} {e : En} (h : Lst j es) (hi : i < es.length) (hk : e.life = (es.getD i en0).life) (hg : Good (j + 1) e) : Lst (j + 1) (es.set i e) := by
  refine ⟨fun x hx => ?_, by rw [List.length_set]; exact h.len, ?_⟩
  · rcases List.mem_or_eq_of_mem_set hx with hx | rfl
    · exact (h.good x hx).mono (Nat.le_succ _)
    · exact hg
  · have hkk : keyE e = (es.map keyE)[i]'(by simpa using hi) := by
      rw [List.getElem_map]
      unfold keyE
      rw [hk, List.getD_eq_getElem?_getD, List.getElem?_eq_getElem hi]
      rfl
    rw [List.map_set, hkk, List.set_getElem_self]
    exact h.keys
theorem Lst.snoc {j : Nat} {es : List En} {e : En} (h : Lst j es) (hl : es.length < 32) (hg : Good (j + 1) e) (hn : keyE e ∉ es.map keyE) : Lst (j + 1) (es ++ [e]) := by
  refine ⟨fun x hx => ?_, by rw [List.length_append, List.length_singleton]; omega, ?_⟩
  · rcases List.mem_append.1 hx with hx | hx
    · exact (h.good x hx).mono (Nat.le_succ _)
    · rw [List.mem_singleton.1 hx]; exact hg
  · rw [List.map_append]
    refine List.nodup_append.2 ⟨h.keys, by simp, fun a ha b hb => ?_⟩
    rw [List.map_singleton, List.mem_singleton] at hb
    rw [hb]
    exact fun e => hn (e ▸ ha)
theorem find_none {es : List En} {spi : Int} {out : Bool} (h : ¬ findI es spi out < es.length) : (spi, out) ∉ es.map keyE := by
  intro hm
  obtain ⟨e, he, hk⟩ := List.mem_map.1 hm
  exact h (List.findIdx_lt_length_of_exists ⟨e, he, hitB_key.2 hk⟩)
theorem Lst.add {j : Nat} {es : List En} (h : Lst j es) {now : Int} (h0 : 0 ≤ now) (h1 : now ≤ 1000000000) (x : S27) : Lst (j + 1) (addF es now x).1 ∧ Grow es (addF es now x).1 := by
  unfold addF
  by_cases hm : mayL x = true ∧ 0 ≤ now
  · rw [if_pos hm]
    by_cases hf : findI es x.f0.f0 x.f2 < es.length
    · rw [if_pos hf]; exact ⟨h.mono, .refl _⟩
    · rw [if_neg hf]
      by_cases h32 : 32 ≤ es.length
      · rw [if_pos h32]; exact ⟨h.mono, .refl _⟩
      · rw [if_neg h32]
        exact ⟨h.snoc (by omega) (newE_good x now _ hm.1 h0 h1) (find_none hf), .snoc _ _⟩
  · rw [if_neg hm]; exact ⟨h.mono, .refl _⟩
theorem Lst.send {j : Nat} {es : List En} (h : Lst j es) (now spi : Int) {n : Int} (hn : n ≤ 1000000000) : Lst (j + 1) (sendF es now spi n).1 ∧ Grow es (sendF es now spi n).1 := by
  unfold sendF
  by_cases h0 : n < 0
  · rw [if_pos h0]; exact ⟨h.mono, .refl _⟩
  · rw [if_neg h0]
    by_cases hf : findI es spi true < es.length
    · rw [if_pos hf]
      by_cases ha : ageE (es.getD (findI es spi true) en0) now = 2
      · rw [if_pos ha]; exact ⟨h.mono, .refl _⟩
      · rw [if_neg ha]
        by_cases hb : fullB (es.getD (findI es spi true) en0) = true
        · rw [if_pos hb]; exact ⟨h.mono, .refl _⟩
        · rw [if_neg hb]
          refine ⟨h.put hf rfl ((h.good _ (getD_mem hf)).send (by omega) hn (Bool.eq_false_iff.2 hb)), .put rfl rfl ?_⟩
          show _ ≤ (es.getD (findI es spi true) en0).bytes + n
          omega
    · rw [if_neg hf]; exact ⟨h.mono, .refl _⟩
theorem Lst.take {j : Nat} {es : List En} (h : Lst j es) (now spi : Int) {seq : Nat} (hs : seq < 18446744073709551616) {n : Int} (hn : n ≤ 1000000000) : Lst (j + 1) (takeF es now spi seq n).1 ∧ Grow es (takeF es now spi seq n).1 := by
  unfold takeF
  by_cases h0 : n < 0
  · rw [if_pos h0]; exact ⟨h.mono, .refl _⟩
  · rw [if_neg h0]
    by_cases hf : findI es spi false < es.length
    · rw [if_pos hf]
      by_cases ha : ageE (es.getD (findI es spi false) en0) now = 2
      · rw [if_pos ha]; exact ⟨h.mono, .refl _⟩
      · rw [if_neg ha]
        by_cases hb : Win.chk (es.getD (findI es spi false) en0).life.f0.f4 (es.getD (findI es spi false) en0).st seq = 0
        · rw [if_pos hb]
          refine ⟨h.put hf rfl ((h.good _ (getD_mem hf)).take (by omega) hn hs hb), .put rfl rfl ?_⟩
          show _ ≤ (es.getD (findI es spi false) en0).bytes + n
          omega
        · rw [if_neg hb]; exact ⟨h.mono, .refl _⟩
    · rw [if_neg hf]; exact ⟨h.mono, .refl _⟩
theorem age_two {es : List En} {now spi : Int} {out : Bool} (h : ageF es now spi out = (2, 0)) : findI es spi out < es.length ∧ ageE (es.getD (findI es spi out) en0) now = 2 := by
  unfold ageF at h
  by_cases hf : findI es spi out < es.length
  · rw [if_pos hf] at h
    injection h with h _
    exact ⟨hf, h⟩
  · rw [if_neg hf] at h
    injection h with h _
    exact absurd h (by decide)
theorem send_hard {es : List En} {now spi : Int} (h : ageF es now spi true = (2, 0)) (n : Int) : (sendF es now spi n).2.2.2 ≠ 0 := by
  obtain ⟨hf, ha⟩ := age_two h
  unfold sendF
  by_cases h0 : n < 0
  · rw [if_pos h0]; show (1 : Int) ≠ 0; decide
  · rw [if_neg h0, if_pos hf, if_pos ha]; show (171 : Int) ≠ 0; decide
theorem take_hard {es : List En} {now spi : Int} (h : ageF es now spi false = (2, 0)) (seq : Nat) (n : Int) : (takeF es now spi seq n).2 ≠ 0 := by
  obtain ⟨hf, ha⟩ := age_two h
  unfold takeF
  by_cases h0 : n < 0
  · rw [if_pos h0]; show (1 : Int) ≠ 0; decide
  · rw [if_neg h0, if_pos hf, if_pos ha]; show (171 : Int) ≠ 0; decide
theorem look_hard {es : List En} {now spi : Int} (h : ageF es now spi false = (2, 0)) (low : Int) : (lookF es now spi low).2.2 = 171 := by
  obtain ⟨hf, ha⟩ := age_two h
  unfold lookF
  rw [if_pos hf, if_pos ha]
theorem nodup_inj {α β : Type} {f : α → β} : ∀ {l : List α}, (l.map f).Nodup → ∀ {x y : α}, x ∈ l → y ∈ l → f x = f y → x = y
  | [], _, _, _, h, _, _ => absurd h (by simp)
  | a :: l, hn, x, y, hx, hy, e => by
    rw [List.map_cons, List.nodup_cons] at hn
    rcases List.mem_cons.1 hx with h1 | h1
    · rcases List.mem_cons.1 hy with h2 | h2
      · rw [h1, h2]
      · exact absurd (List.mem_map.2 ⟨y, h2, by rw [← e, h1]⟩) hn.1
    · rcases List.mem_cons.1 hy with h2 | h2
      · exact absurd (List.mem_map.2 ⟨x, h1, by rw [e, h2]⟩) hn.1
      · exact nodup_inj hn.2 h1 h2 e
theorem Lst.age {j : Nat} {es : List En} (h : Lst j es) {e : En} (he : e ∈ es) {spi : Int} {out : Bool} (hk : keyE e = (spi, out)) (now : Int) : ageF es now spi out = (ageE e now, 0) := by
  have hf : findI es spi out < es.length := List.findIdx_lt_length_of_exists ⟨e, he, hitB_key.2 hk⟩
  have := nodup_inj h.keys (getD_mem hf) he ((hitB_key.1 (find_hit hf)).trans hk.symm)
  unfold ageF
  rw [if_pos hf, this]
/-- Picked: one that sends, and is not hard. -/
def Picked (es : List En) (now s : Int) : Prop := ∃ e ∈ es, keyE e = (s, true) ∧ ageE e now ≤ 1
theorem pickL_ok (es : List En) (now rule : Int) : ∀ (l : List En) (o : Option Int), (∀ e ∈ l, e ∈ es) → (∀ s, o = some s → Picked es now s) → (pickL now rule l o).2 = 161 ∨ ((pickL now rule l o).2 = 0 ∧ Picked es now (pickL now rule l o).1)
  | [], none, _, _ => .inl rfl
  | [], some s, _, h => .inr ⟨rfl, h s rfl⟩
  | e :: l, o, hl, h => by
    have hl' : ∀ e ∈ l, e ∈ es := fun e he => hl e (List.mem_cons_of_mem _ he)
    have hno := pickL_ok es now rule l o hl' h
    unfold pickL
    by_cases h1 : e.life.f2 = true
    · rw [if_pos h1]
      by_cases h2 : e.life.f1 = rule
      · rw [if_pos h2]
        by_cases h3 : ageE e now = 0
        · rw [if_pos h3]
          exact .inr ⟨rfl, e, hl e (List.mem_cons_self ..), by unfold keyE; rw [h1], by omega⟩
        · rw [if_neg h3]
          by_cases h4 : ageE e now = 1
          · rw [if_pos h4]
            refine pickL_ok es now rule l _ hl' fun s hs => ?_
            injection hs with hs
            subst hs
            exact ⟨e, hl e (List.mem_cons_self ..), by unfold keyE; rw [h1], by omega⟩
          · rw [if_neg h4]; exact hno
      · rw [if_neg h2]; exact hno
    · rw [if_neg h1]; exact hno
theorem Lst.pick {j : Nat} {es : List En} (h : Lst j es) (now rule : Int) : (pickF es now rule).2 = 161 ∨ ((pickF es now rule).2 = 0 ∧ ∃ c, ageF es now (pickF es now rule).1 true = (c, 0) ∧ c ≤ 1) := by
  rcases pickL_ok es now rule es none (fun _ h => h) (fun s hs => by cases hs) with h1 | ⟨h1, e, he, hk, ha⟩
  · exact .inl h1
  · exact .inr ⟨h1, _, h.age he hk now, ha⟩
end Go.Proofs.YtkmnpnbfeiobiaaDoor.Sd
namespace Go.Proofs.YtkmnpnbfeiobiaaDoor.Sd
open Go.RowKit Go.Proofs.YtkmnpnbfeiobiaaDoorW.PrintWords Go.Proofs.YtkmnpnbfeiobiaaDoorW.PrintLast Go.Proofs.YtkmnpnbfeiobiaaDoorW.PrintMore Go.Proofs.YtkmnpnbfeiobiaaDoor.QSa
open Go.Proofs.YtkmnpnbfeiobiaaDoor
set_option linter.unusedVariables false
set_option linter.unusedSimpArgs false
theorem Turn.keep {T : Ty} {base k : Nat} {w w' : World} {cs : Array Value} {t : TypeId} (h : Turn T base w w') (hk : w.heap[k]? = some (.cells cs t (0, 0))) (ht : ¬ T.has t) : w'.heap[k]? = some (.cells cs t (0, 0)) :=
  (h.block k (blk_lt hk) (.inr fun cs' t' hc => by
    rw [hk] at hc
    injection hc with hc
    injection hc with _ e _
    rw [← e]
    exact ht)).trans hk
/-- The two lives of the law. -/
def fo (n soft most : Int) : S27 := ⟨(lf n).f0, 1, true, 0, 0, soft, most⟩
theorem fo_may {n soft most : Int} (hn : n = 300 ∨ n = 301) (h0 : 0 ≤ soft) (h1 : 0 ≤ most) : mayL (fo n soft most) = true := by
  have hp : mayP (fo n soft most).f0 = true := by rcases hn with rfl | rfl <;> kernel_rfl
  simp only [mayL, Bool.and_eq_true, decide_eq_true_eq]
  exact ⟨⟨⟨⟨⟨hp, by show (0 : Int) ≤ 1; decide⟩, by show (0 : Int) ≤ 0; decide⟩, by show (0 : Int) ≤ 0; decide⟩, h0⟩, h1⟩
theorem fo_add1 {soft most : Int} (h0 : 0 ≤ soft) (h1 : 0 ≤ most) : addF [] 0 (fo 300 soft most) = ([newE (fo 300 soft most) 0], 0) := by
  unfold addF
  rw [if_pos ⟨fo_may (.inl rfl) h0 h1, by decide⟩]
  rfl
theorem fo_add2 {soft most later : Int} (h0 : 0 ≤ soft) (h1 : 0 ≤ most) (hl : 0 ≤ later) : addF [newE (fo 300 soft most) 0] later (fo 301 soft most) = ([newE (fo 300 soft most) 0, newE (fo 301 soft most) later], 0) := by
  unfold addF
  rw [if_pos ⟨fo_may (.inr rfl) h0 h1, hl⟩]
  rfl
theorem fo_age (n soft most born now : Int) (h0 : 0 < soft) (h1 : 0 < most) : ageE (newE (fo n soft most) born) now = if most ≤ now - born then 2 else if soft ≤ now - born then 1 else 0 := by
  have e : ageE (newE (fo n soft most) born) now = ageB (reachB 0 0) (reachB (now - born) most) (reachB 0 0) (reachB (now - born) soft) := rfl
  have z : reachB 0 0 = false := by decide
  rw [e, z]
  have a1 : reachB (now - born) most = decide (most ≤ now - born) := by unfold reachB; rw [decide_eq_true h1]; rfl
  have a2 : reachB (now - born) soft = decide (soft ≤ now - born) := by unfold reachB; rw [decide_eq_true h0]; rfl
  rw [a1, a2]
  unfold ageB
  simp only [decide_eq_true_eq, Bool.false_eq_true, if_false]
theorem fo_pick {soft most later now : Int} (h0 : 0 < soft) (h1 : soft < most) (hl : 0 ≤ later) (hn : 0 ≤ now) : pickF [newE (fo 300 soft most) 0, newE (fo 301 soft most) later] now 1 = if now < soft then (300, 0) else if now - later < most then (301, 0) else if now < most then (300, 0) else (0, 161) := by
  have s0 : (newE (fo 300 soft most) 0).life.f0.f0 = 300 := rfl
  have s1 : (newE (fo 301 soft most) later).life.f0.f0 = 301 := rfl
  have r0 : (newE (fo 300 soft most) 0).life.f1 = 1 := rfl
  have r1 : (newE (fo 301 soft most) later).life.f1 = 1 := rfl
  have o0 : (newE (fo 300 soft most) 0).life.f2 = true := rfl
  have o1 : (newE (fo 301 soft most) later).life.f2 = true := rfl
  unfold pickF
  simp only [pickL, s0, s1, r0, r1, o0, o1, if_true, fo_age _ _ _ _ _ h0 (show 0 < most by omega)]
  repeat' split
  all_goals first | rfl | (exfalso; omega)
set_option maxHeartbeats 3200000 in
set_option maxRecDepth 100000 in
theorem follows_out {w : World} (soft most later now : Int) (h : soft < 1 ∨ most ≤ soft ∨ 1000000 < most ∨ later < 0 ∨ 1000000 < later ∨ now < 0 ∨ 3000000 < now) :
    Calls Tryd.prog 3 #[.int .i64 soft, .int .i64 most, .int .i64 later, .int .i64 now] w fun e w' => e = .returned (.bool true) ∧ Below w.heap.size w w' := by
  have HB := Aside0.mk (Below.refl w.heap.size w)
  by_cases c0 : soft < 1
  · have d0 : decide (soft < 1) = true := decide_eq_true c0
    clear h c0
    go_enter Tryd.func3, Tryd.ntmps3
    go_wp2_with (fail)
    go_ret
    exact ⟨rfl, HB.out⟩
  have d0 : decide (soft < 1) = false := decide_eq_false c0
  by_cases c1 : most ≤ soft
  · have d1 : decide (most ≤ soft) = true := decide_eq_true c1
    clear h c0 c1
    go_enter Tryd.func3, Tryd.ntmps3
    go_wp2_with (fail)
    go_ret
    exact ⟨rfl, HB.out⟩
  have d1 : decide (most ≤ soft) = false := decide_eq_false c1
  by_cases c2 : 1000000 < most
  · have d2 : decide (1000000 < most) = true := decide_eq_true c2
    clear h c0 c1 c2
    go_enter Tryd.func3, Tryd.ntmps3
    go_wp2_with (fail)
    go_ret
    exact ⟨rfl, HB.out⟩
  have d2 : decide (1000000 < most) = false := decide_eq_false c2
  by_cases c3 : later < 0
  · have d3 : decide (later < 0) = true := decide_eq_true c3
    clear h c0 c1 c2 c3
    go_enter Tryd.func3, Tryd.ntmps3
    go_wp2_with (fail)
    go_ret
    exact ⟨rfl, HB.out⟩
  have d3 : decide (later < 0) = false := decide_eq_false c3
  by_cases c4 : 1000000 < later
  · have d4 : decide (1000000 < later) = true := decide_eq_true c4
    clear h c0 c1 c2 c3 c4
    go_enter Tryd.func3, Tryd.ntmps3
    go_wp2_with (fail)
    go_ret
    exact ⟨rfl, HB.out⟩
  have d4 : decide (1000000 < later) = false := decide_eq_false c4
  by_cases c5 : now < 0
  · have d5 : decide (now < 0) = true := decide_eq_true c5
    clear h c0 c1 c2 c3 c4 c5
    go_enter Tryd.func3, Tryd.ntmps3
    go_wp2_with (fail)
    go_ret
    exact ⟨rfl, HB.out⟩
  have d5 : decide (now < 0) = false := decide_eq_false c5
  by_cases c6 : 3000000 < now
  · have d6 : decide (3000000 < now) = true := decide_eq_true c6
    clear h c0 c1 c2 c3 c4 c5 c6
    go_enter Tryd.func3, Tryd.ntmps3
    go_wp2_with (fail)
    go_ret
    exact ⟨rfl, HB.out⟩
  have d6 : decide (3000000 < now) = false := decide_eq_false c6
  omega
set_option maxHeartbeats 3200000 in
set_option maxRecDepth 100000 in
theorem follows_main {w : World} (hL : Laid w) (soft most later now : Int) (h1 : 1 ≤ soft) (h2 : soft < most) (h3 : most ≤ 1000000) (h4 : 0 ≤ later) (h5 : later ≤ 1000000) (h6 : 0 ≤ now) (h7 : now ≤ 3000000) :
    Calls Tryd.prog 3 #[.int .i64 soft, .int .i64 most, .int .i64 later, .int .i64 now] w fun e w' => e = .returned (.bool true) ∧ Below w.heap.size w w' := by
  have N0 := Aside0.mk (one_new hL (Below.refl _ _))
  have LW := Aside0.mk life_walk
  have A1 := Aside0.mk (fo_add1 (soft := soft) (most := most) (by omega) (by omega))
  have A2 := Aside0.mk (fo_add2 (soft := soft) (most := most) (later := later) (by omega) (by omega) h4)
  have PK := Aside0.mk (fo_pick (soft := soft) (most := most) (later := later) (now := now) (by omega) h2 h4 h6)
  have TM := Aside0.mk (show ∀ e ∈ [newE (fo 300 soft most) 0, newE (fo 301 soft most) later], Timed e now from fun e he => by
    rcases List.mem_cons.1 he with rfl | he
    · show -4611686018427387904 ≤ now - 0 ∧ now - 0 ≤ 4611686018427387904
      omega
    · rw [List.mem_singleton.1 he]
      show -4611686018427387904 ≤ now - later ∧ now - later ≤ 4611686018427387904
      omega)
  have d1 : decide (soft < 1) = false := decide_eq_false (by omega)
  have d2 : decide (most ≤ soft) = false := decide_eq_false (by omega)
  have d3 : decide (1000000 < most) = false := decide_eq_false (by omega)
  have d4 : decide (later < 0) = false := decide_eq_false (by omega)
  have d5 : decide (1000000 < later) = false := decide_eq_false (by omega)
  have d6 : decide (now < 0) = false := decide_eq_false (by omega)
  have d7 : decide (3000000 < now) = false := decide_eq_false (by omega)
  have hsub : IntKind.i64.wrap (now - later) = now - later := IntWalk.i64_in _ (by omega)
  have HSUB := Aside0.mk hsub
  clear hsub
  clear hL
  go_enter Tryd.func3, Tryd.ntmps3
  go_wp2_with (fail)
  refine N0.out.mono ?_
  rintro e w1 ⟨q, rfl, _, _, h⟩
  have O1 := Aside0.mk h
  clear h
  go_wp2_with (fail)
  refine (LW.out 300 w1).mono ?_
  rintro e w2 ⟨he, hb⟩
  change e = .returned (.agg #[.int .i64 300, .string ⟨#[48, 49, 50, 51, 52, 53, 54, 55, 56, 57, 97, 98, 99, 100, 101, 102]⟩, .string ⟨#[115, 97, 108, 116]⟩, .string ⟨#[48, 49, 50, 51, 52, 53, 54, 55, 56, 57, 97, 98, 99, 100, 101, 102, 48, 49, 50, 51, 52, 53, 54, 55, 56, 57, 97, 98, 99, 100, 101, 102]⟩, .bool false, .int .i64 64, .int .i64 1, .bool true, .int .i64 10, .int .i64 0, .int .i64 0, .int .i64 0]) at he
  subst he
  have O2 := Aside0.mk (O1.out.step hb)
  clear hb
  go_wp2_with (fail)
  have hb4 : Below w2.heap.size w2 ((w2.alloc (.cells #[.int .i64 300, .string ⟨#[48, 49, 50, 51, 52, 53, 54, 55, 56, 57, 97, 98, 99, 100, 101, 102]⟩, .string ⟨#[115, 97, 108, 116]⟩, .string ⟨#[48, 49, 50, 51, 52, 53, 54, 55, 56, 57, 97, 98, 99, 100, 101, 102, 48, 49, 50, 51, 52, 53, 54, 55, 56, 57, 97, 98, 99, 100, 101, 102]⟩, .bool false, .int .i64 64, .int .i64 1, .bool true, .int .i64 0, .int .i64 0, .int .i64 soft, .int .i64 most] 27)).alloc (.cells #[.int .i64 301, .string ⟨#[48, 49, 50, 51, 52, 53, 54, 55, 56, 57, 97, 98, 99, 100, 101, 102]⟩, .string ⟨#[115, 97, 108, 116]⟩, .string ⟨#[48, 49, 50, 51, 52, 53, 54, 55, 56, 57, 97, 98, 99, 100, 101, 102, 48, 49, 50, 51, 52, 53, 54, 55, 56, 57, 97, 98, 99, 100, 101, 102]⟩, .bool false, .int .i64 64, .int .i64 1, .bool true, .int .i64 0, .int .i64 0, .int .i64 soft, .int .i64 most] 27)) := below_alloc (below_alloc (Below.refl _ _) _) _
  have hy4 : ((w2.alloc (.cells #[.int .i64 300, .string ⟨#[48, 49, 50, 51, 52, 53, 54, 55, 56, 57, 97, 98, 99, 100, 101, 102]⟩, .string ⟨#[115, 97, 108, 116]⟩, .string ⟨#[48, 49, 50, 51, 52, 53, 54, 55, 56, 57, 97, 98, 99, 100, 101, 102, 48, 49, 50, 51, 52, 53, 54, 55, 56, 57, 97, 98, 99, 100, 101, 102]⟩, .bool false, .int .i64 64, .int .i64 1, .bool true, .int .i64 0, .int .i64 0, .int .i64 soft, .int .i64 most] 27)).alloc (.cells #[.int .i64 301, .string ⟨#[48, 49, 50, 51, 52, 53, 54, 55, 56, 57, 97, 98, 99, 100, 101, 102]⟩, .string ⟨#[115, 97, 108, 116]⟩, .string ⟨#[48, 49, 50, 51, 52, 53, 54, 55, 56, 57, 97, 98, 99, 100, 101, 102, 48, 49, 50, 51, 52, 53, 54, 55, 56, 57, 97, 98, 99, 100, 101, 102]⟩, .bool false, .int .i64 64, .int .i64 1, .bool true, .int .i64 0, .int .i64 0, .int .i64 soft, .int .i64 most] 27)).heap[w2.heap.size + 1]? = some (.cells #[.int .i64 301, .string ⟨#[48, 49, 50, 51, 52, 53, 54, 55, 56, 57, 97, 98, 99, 100, 101, 102]⟩, .string ⟨#[115, 97, 108, 116]⟩, .string ⟨#[48, 49, 50, 51, 52, 53, 54, 55, 56, 57, 97, 98, 99, 100, 101, 102, 48, 49, 50, 51, 52, 53, 54, 55, 56, 57, 97, 98, 99, 100, 101, 102]⟩, .bool false, .int .i64 64, .int .i64 1, .bool true, .int .i64 0, .int .i64 0, .int .i64 soft, .int .i64 most] 27 (0, 0)) := by simpa using blk_new (w2.alloc (.cells #[.int .i64 300, .string ⟨#[48, 49, 50, 51, 52, 53, 54, 55, 56, 57, 97, 98, 99, 100, 101, 102]⟩, .string ⟨#[115, 97, 108, 116]⟩, .string ⟨#[48, 49, 50, 51, 52, 53, 54, 55, 56, 57, 97, 98, 99, 100, 101, 102, 48, 49, 50, 51, 52, 53, 54, 55, 56, 57, 97, 98, 99, 100, 101, 102]⟩, .bool false, .int .i64 64, .int .i64 1, .bool true, .int .i64 0, .int .i64 0, .int .i64 soft, .int .i64 most] 27)) (.cells #[.int .i64 301, .string ⟨#[48, 49, 50, 51, 52, 53, 54, 55, 56, 57, 97, 98, 99, 100, 101, 102]⟩, .string ⟨#[115, 97, 108, 116]⟩, .string ⟨#[48, 49, 50, 51, 52, 53, 54, 55, 56, 57, 97, 98, 99, 100, 101, 102, 48, 49, 50, 51, 52, 53, 54, 55, 56, 57, 97, 98, 99, 100, 101, 102]⟩, .bool false, .int .i64 64, .int .i64 1, .bool true, .int .i64 0, .int .i64 0, .int .i64 soft, .int .i64 most] 27)
  obtain ⟨w4, hw4⟩ : ∃ W, (w2.alloc (.cells #[.int .i64 300, .string ⟨#[48, 49, 50, 51, 52, 53, 54, 55, 56, 57, 97, 98, 99, 100, 101, 102]⟩, .string ⟨#[115, 97, 108, 116]⟩, .string ⟨#[48, 49, 50, 51, 52, 53, 54, 55, 56, 57, 97, 98, 99, 100, 101, 102, 48, 49, 50, 51, 52, 53, 54, 55, 56, 57, 97, 98, 99, 100, 101, 102]⟩, .bool false, .int .i64 64, .int .i64 1, .bool true, .int .i64 0, .int .i64 0, .int .i64 soft, .int .i64 most] 27)).alloc (.cells #[.int .i64 301, .string ⟨#[48, 49, 50, 51, 52, 53, 54, 55, 56, 57, 97, 98, 99, 100, 101, 102]⟩, .string ⟨#[115, 97, 108, 116]⟩, .string ⟨#[48, 49, 50, 51, 52, 53, 54, 55, 56, 57, 97, 98, 99, 100, 101, 102, 48, 49, 50, 51, 52, 53, 54, 55, 56, 57, 97, 98, 99, 100, 101, 102]⟩, .bool false, .int .i64 64, .int .i64 1, .bool true, .int .i64 0, .int .i64 0, .int .i64 soft, .int .i64 most] 27) = W := ⟨_, rfl⟩
  rw [hw4] at hb4 hy4 ⊢
  have O4 := Aside0.mk (O2.out.step hb4)
  have BY := Aside0.mk hy4
  clear hb4 hy4 hw4
  obtain ⟨qy, hqy⟩ : ∃ k, w2.heap.size + 1 = k := ⟨_, rfl⟩
  rw [hqy] at BY ⊢
  clear hqy
  refine (add_call O4.out.sad (by decide) 0 (fo 300 soft most)).mono ?_
  rintro e w5 h
  rw [A1.out] at h
  have BY5 := Aside0.mk (h.2.2.keep BY.out (by unfold Ty.has; decide))
  obtain ⟨rfl, h'⟩ := O4.out.turn h
  have O5 := Aside0.mk h'
  clear h h'
  have LD := Aside0.mk (show (loadVar 27 ⟨qy, 0, none⟩).run Tryd.prog w5 = .ok (.agg #[.int .i64 301, .string ⟨#[48, 49, 50, 51, 52, 53, 54, 55, 56, 57, 97, 98, 99, 100, 101, 102]⟩, .string ⟨#[115, 97, 108, 116]⟩, .string ⟨#[48, 49, 50, 51, 52, 53, 54, 55, 56, 57, 97, 98, 99, 100, 101, 102, 48, 49, 50, 51, 52, 53, 54, 55, 56, 57, 97, 98, 99, 100, 101, 102]⟩, .bool false, .int .i64 64, .int .i64 1, .bool true, .int .i64 0, .int .i64 0, .int .i64 soft, .int .i64 most]) w5 from load27b (x := fo 301 soft most) BY5.out)
  go_wp2_with (first | ((with_reducible refine gate_dst (N := 60) rfl ?_); (try (refine gate_guard (by rfl) ?_; dsimp only)); refine Kd.event_run (v := .agg #[.int .i64 301, .string ⟨#[48, 49, 50, 51, 52, 53, 54, 55, 56, 57, 97, 98, 99, 100, 101, 102]⟩, .string ⟨#[115, 97, 108, 116]⟩, .string ⟨#[48, 49, 50, 51, 52, 53, 54, 55, 56, 57, 97, 98, 99, 100, 101, 102, 48, 49, 50, 51, 52, 53, 54, 55, 56, 57, 97, 98, 99, 100, 101, 102]⟩, .bool false, .int .i64 64, .int .i64 1, .bool true, .int .i64 0, .int .i64 0, .int .i64 soft, .int .i64 most]) (w1 := w5) ?hg (load_runA 27 (.tmp 11) ⟨qy, 0, none⟩ #[.int .i64 301, .string ⟨#[48, 49, 50, 51, 52, 53, 54, 55, 56, 57, 97, 98, 99, 100, 101, 102]⟩, .string ⟨#[115, 97, 108, 116]⟩, .string ⟨#[48, 49, 50, 51, 52, 53, 54, 55, 56, 57, 97, 98, 99, 100, 101, 102, 48, 49, 50, 51, 52, 53, 54, 55, 56, 57, 97, 98, 99, 100, 101, 102]⟩, .bool false, .int .i64 64, .int .i64 1, .bool true, .int .i64 0, .int .i64 0, .int .i64 soft, .int .i64 most] ?ho ?hx LD.out) ?_; (case hg => rfl); (case ho => rfl); (case hx => rfl)))
  refine (add_call O5.out.sad (by simp) later (fo 301 soft most)).mono ?_
  rintro e w6 h
  rw [A2.out] at h
  obtain ⟨rfl, h'⟩ := O5.out.turn h
  have O6 := Aside0.mk h'
  clear h h'
  go_wp2_with (fail)
  refine (pick_call O6.out.sad (by simp) now 1 TM.out).mono ?_
  rintro e w7 h
  rw [PK.out] at h
  obtain ⟨he, h'⟩ := O6.out.turn h
  have O7 := Aside0.mk h'
  clear h h'
  have AW := Aside0.mk (awake_walk O7.out.laid)
  have HSB := HSUB.out
  obtain ⟨dt, hdt⟩ : ∃ d, now - later = d := ⟨_, rfl⟩
  have hsub : IntKind.i64.wrap (now - later) = dt := HSB.trans hdt
  rw [hdt] at he
  clear HSB
  have HDT := Aside0.mk hdt
  clear hdt
  by_cases c1 : now < soft
  · rw [if_pos c1] at he
    subst he
    have d8 : decide (now < soft) = true := decide_eq_true c1
    clear c1
    go_wp2_with (fail)
    refine AW.out.mono ?_
    rintro e w8 ⟨rfl, hb⟩
    have HB8 := Aside0.mk (O7.out.step hb).below
    clear hb
    go_wp2_with (fail)
    go_ret
    exact ⟨rfl, HB8.out⟩
  have d8 : decide (now < soft) = false := decide_eq_false c1
  rw [if_neg c1] at he
  by_cases c2 : dt < most
  · rw [if_pos c2] at he
    subst he
    have d9 : decide (dt < most) = true := decide_eq_true c2
    clear c1 c2
    go_wp2_with (fail)
    refine AW.out.mono ?_
    rintro e w8 ⟨rfl, hb⟩
    have HB8 := Aside0.mk (O7.out.step hb).below
    clear hb
    go_wp2_with (fail)
    go_ret
    exact ⟨rfl, HB8.out⟩
  have d9 : decide (dt < most) = false := decide_eq_false c2
  rw [if_neg c2] at he
  have c3 : ¬ now < most := by have := HDT.out; omega
  rw [if_neg c3] at he
  subst he
  have d10 : decide (now < most) = false := decide_eq_false c3
  have d11 : decide (most ≤ now) = true := decide_eq_true (by omega)
  clear c1 c2 c3
  go_wp2_with (fail)
  refine AW.out.mono ?_
  rintro e w8 ⟨rfl, hb⟩
  have HB8 := Aside0.mk (O7.out.step hb).below
  clear hb
  go_wp2_with (fail)
  go_ret
  exact ⟨rfl, HB8.out⟩
theorem follows_law (soft most later now : Int) (w : World) (hL : Laid w) (h1 : (Lit.int .i64 soft).wf = true) (h2 : (Lit.int .i64 most).wf = true) (h3 : (Lit.int .i64 later).wf = true) (h4 : (Lit.int .i64 now).wf = true) :
    Calls Tryd.prog 3 #[.int .i64 soft, .int .i64 most, .int .i64 later, .int .i64 now] w fun e w' => e = .returned (.bool true) ∧ Below w.heap.size w w' := by
  by_cases h : soft < 1 ∨ most ≤ soft ∨ 1000000 < most ∨ later < 0 ∨ 1000000 < later ∨ now < 0 ∨ 3000000 < now
  · exact follows_out soft most later now h
  · exact follows_main hL soft most later now (by omega) (by omega) (by omega) (by omega) (by omega) (by omega) (by omega)
end Go.Proofs.YtkmnpnbfeiobiaaDoor.Sd
set_option linter.unusedVariables false
set_option linter.unusedSimpArgs false
namespace Go.Proofs.YtkmnpnbfeiobiaaDoor.CameRows
open Go.Deep Go.RowKit Go.ChangeShapes Go.WideShapes Go.Proofs.YtkmnpnbfeiobiaaDoorW.PrintWords Go.Proofs.YtkmnpnbfeiobiaaDoorW.PrintLast Go.Proofs.YtkmnpnbfeiobiaaDoorW.PrintMore
theorem weightsAll_mem {H : Type} {P : Program} {e : TypeId} {n : Nat} {d : DataW H} : ∀ {l : List (DataW H)}, d ∈ l → n ∈ d.weights P e → n ∈ DataW.weightsAll P e l
  | [], h, _ => by simp at h
  | x :: l, h, hn => by
    unfold DataW.weightsAll
    rcases List.mem_cons.mp h with rfl | h
    · exact List.mem_append.mpr (Or.inl hn)
    · exact List.mem_append.mpr (Or.inr (weightsAll_mem h hn))
theorem rows {H α : Type} {enc : TypeId × Value → H} {P : Program} {W : World} {t e : TypeId} {A : Option Addr} {len cap : Nat} {d : DataW H} {ps : List MemPlace} (k : Kd α) (z : α) {B : Nat}
    (ht : P.underlying t = some (.slice e)) (hc : P.cellsOf e = k.sz) (Q : α → Prop)
    (hrd : ∀ (cs : List Value) (d' : DataW H) (ps' : List MemPlace) (m : Nat), DataW.trod enc P W 0 (fun _ => true) true m e cs = some (d', ps') → (∀ n ∈ d'.weights P e, n ≤ B) → ∃ x, k.K W x cs ∧ Q x)
    (h : DataW.Trod enc P W 0 (fun _ => true) true t (.slice A len cap) d ps) (wt : ∀ n ∈ d.weights P t, n ≤ B) :
    ∃ l : List α, len = l.length ∧ l.length ≤ cap ∧ k.C W A l.length l ∧ l.length ≤ maxLen ∧ ∀ x ∈ l, Q x := by
  obtain ⟨fuel, hf⟩ := h
  rcases open_slice ht hf with ⟨hcs, _⟩ | ⟨a, n, c, m, kk, D, Pl, hcs, _, hl, hm, hmm, hx, hel⟩
  · simp [Value.cells] at hcs
    obtain ⟨rfl, rfl, rfl⟩ := hcs
    exact ⟨[], rfl, Nat.le_refl _, Kd.C_nil k W, Nat.zero_le _, by simp⟩
  · simp [Value.cells] at hcs
    obtain ⟨rfl, rfl, rfl⟩ := hcs
    rw [hc] at hel
    have hd : d = DataW.slice ((List.range len).map D) ((List.range (m - len)).map fun j => D (len + j)) := congrArg Prod.fst hx
    haveI : Inhabited α := ⟨z⟩
    obtain ⟨f, hF⟩ := choose_lt (α := α) (n := len) (p := fun i x => (∃ cs, cs.length = k.sz ∧ k.K W x cs ∧ ∀ j u, cs[j]? = some u → W.cell? (a.add (i * k.sz + j)) = some u) ∧ Q x) (fun i hi => by
      obtain ⟨cs', h1, h2⟩ := hel i (by rw [hmm]; simp; omega)
      obtain ⟨_, hlen, hcell⟩ := World.cells?_some h1
      obtain ⟨x, hK, hQ⟩ := hrd cs' _ _ _ h2 (fun n hn => wt n (by
        rw [hd]
        unfold DataW.weights
        rw [ht]
        refine List.mem_cons.mpr (Or.inr (List.mem_append.mpr (Or.inl (weightsAll_mem (d := D i) ?_ hn))))
        exact List.mem_map.mpr ⟨i, List.mem_range.mpr hi, rfl⟩))
      refine ⟨x, ⟨cs', hlen, hK, fun j u hj => ?_⟩, hQ⟩
      have hjl := (List.getElem?_eq_some_iff.1 hj).1
      rw [← Deep.add_add, hcell j (by omega)]
      exact hj)
    have hlm : ((List.range len).map f).length = len := by simp
    refine ⟨(List.range len).map f, hlm.symm, by rw [hlm]; exact hl, ⟨rfl, by rw [hlm]; unfold maxLen at hm; omega, fun hp => ⟨a, rfl, fun j p hj => ?_⟩⟩, by rw [hlm]; omega, fun x hx => ?_⟩
    · rw [List.getElem?_map] at hj
      obtain ⟨i, hi, rfl⟩ := Option.map_eq_some_iff.1 hj
      have hil : j < len := by
        have := (List.getElem?_eq_some_iff.1 hi).1
        simpa using this
      rw [List.getElem?_range hil] at hi
      injection hi with hi
      subst hi
      exact (hF j hil).1
    · obtain ⟨i, hi, rfl⟩ := List.mem_map.mp hx
      exact (hF i (List.mem_range.mp hi)).2
end Go.Proofs.YtkmnpnbfeiobiaaDoor.CameRows
namespace Go.Proofs.YtkmnpnbfeiobiaaDoor.Sd
open Go.RowKit Go.Proofs.YtkmnpnbfeiobiaaDoorW.PrintWords Go.Proofs.YtkmnpnbfeiobiaaDoorW.PrintLast Go.Proofs.YtkmnpnbfeiobiaaDoorW.PrintMore Go.Proofs.YtkmnpnbfeiobiaaDoor.QSa
open Go.Proofs.YtkmnpnbfeiobiaaDoor
/-- A script that came in. -/
theorem came40 {H : Type} {enc : TypeId × Value → H} {W : World} {A : Option Addr} {len cap : Nat} {d : DataW H} {ps : List MemPlace}
    (h : DataW.Trod enc Tryd.prog W 0 (fun _ => true) true 35 (.slice A len cap) d ps) (wt : ∀ n ∈ d.weights Tryd.prog 35, n ≤ 140737488351232) :
    ∃ l : List S40, len = l.length ∧ l.length ≤ cap ∧ k40.C W A l.length l ∧ l.length ≤ maxLen ∧ (∀ i, i < l.length → Sized40 (l.getD i z40)) ∧ ∀ i, i < l.length → ∃ m : Nat, (l.getD i z40).f7 = (m : Int) ∧ m < 18446744073709551616 := by
  obtain ⟨l, h1, h2, h3, h4, h5⟩ := CameRows.rows k40 z40 (B := 140737488351232) Tryd.underlying35 (by kernel_rfl) (fun x => Sized40 x ∧ ∃ m : Nat, x.f7 = (m : Int) ∧ m < 18446744073709551616) (fun cs d' ps' m h wt => by
    obtain ⟨x0, x1, x2, x3, x4, x5, x6, x7, x8, x9, x10, x11, x12, x13, x14, x15, x16, x17, x18, x19, rfl, _, _, _, _, _, _, h7, _, _, _, _, _, _, _, g⟩ := Reads.rd40 h
    refine ⟨⟨x0, x1, x2, x3, x4, x5, x6, x7, ⟨⟨x8, x9, x10, x11, x12, x13⟩, x14, x15, x16, x17, x18, x19⟩⟩, k40_mk _ _, g _ wt, ?_⟩
    have h7' : 0 ≤ x7 ∧ x7 < 18446744073709551616 := by
      have : 0 ≤ x7 ∧ x7 ≤ 18446744073709551615 := by simpa [Lit.wf, IntKind.min, IntKind.max, IntKind.signed, IntKind.bits] using h7
      omega
    exact ⟨x7.toNat, by show x7 = _; omega, by omega⟩) h wt
  have hm : ∀ i, i < l.length → l.getD i z40 ∈ l := fun i hi => by
    rw [List.getD_eq_getElem?_getD, List.getElem?_eq_getElem hi]
    exact List.getElem_mem hi
  exact ⟨l, h1, h2, h3, h4, fun i hi => (h5 _ (hm i hi)).1, fun i hi => (h5 _ (hm i hi)).2⟩
end Go.Proofs.YtkmnpnbfeiobiaaDoor.Sd
namespace Go.Proofs.YtkmnpnbfeiobiaaDoor.Sd
open Go.RowKit Go.Proofs.YtkmnpnbfeiobiaaDoorW.PrintWords Go.Proofs.YtkmnpnbfeiobiaaDoorW.PrintLast Go.Proofs.YtkmnpnbfeiobiaaDoorW.PrintMore Go.Proofs.YtkmnpnbfeiobiaaDoor.QSa
open Go.Proofs.YtkmnpnbfeiobiaaDoor
set_option linter.unusedVariables false
set_option linter.unusedSimpArgs false
/-- The document's associations in memory. -/
def RefT (w : World) (base q : Nat) (v : Value) (ps : List Pl) (es : List En) : Prop := Tab TR (WnRf base) w base q v ps es
theorem RefT.below {w w' : World} {base q : Nat} {v : Value} {ps : List Pl} {es : List En} (h : RefT w base q v ps es) (hb : Below w.heap.size w w') : RefT w' base q v ps es := Tab.below h (WnRf_ok base) hb
theorem RefT.ptrs {w : World} {base q c : Nat} {A : Option Addr} {ps : List Pl} {es : List En} (h : RefT w base q (.slice A es.length c) ps es) : PtrAt w A es.length fun i => (ps.getD i pl0).p := fun i hi => by
  obtain ⟨b, c', hv, hc⟩ := h.cell i hi
  injection hv with hv _ _
  exact ⟨b, hv, hc⟩
def fptr (ps : List Pl) (es : List En) (spi : Int) (out : Bool) : Value := if findI es spi out < es.length then .pointer (some ⟨(ps.getD (findI es spi out) pl0).p, 0, none⟩) else .pointer none
theorem find_out {es : List En} {spi : Int} {out : Bool} (h : ∀ j, j < es.length → hitB spi out (es.getD j en0) = false) : ¬ findI es spi out < es.length := fun hf => by
  have := h _ hf
  rw [find_hit hf] at this
  exact absurd this (by decide)
set_option maxHeartbeats 1600000 in
set_option maxRecDepth 100000 in
theorem rfind_call {w : World} {base q : Nat} {v : Value} {ps : List Pl} {es : List En} (h : RefT w base q v ps es) (hl : es.length ≤ 1000) (spi : Int) (out : Bool) :
    Calls Tryd.prog 48 #[.pointer (some ⟨q, 0, none⟩), .int .i64 spi, .bool out] w fun e w' => e = .returned (fptr ps es spi out) ∧ w' = w := by
  obtain ⟨A, c, rfl, hlc⟩ := h.slice
  have HT := Aside0.mk h.ptrs
  have HA := Aside0.mk fun (i : Nat) (hi : i < es.length) => h.at i hi
  have c0 : w.cell? ⟨q, 0, none⟩ = some (.slice A es.length c) := (blk_cell h.blk 0).trans rfl
  have FI := Aside0.mk fun (i : Nat) (hi : i < es.length) (h1 : hitB spi out (es.getD i en0) = true) (h2 : ∀ j, j < i → hitB spi out (es.getD j en0) = false) => (show fptr ps es spi out = .pointer (some ⟨(ps.getD i pl0).p, 0, none⟩) from by
    have e := find_is hi h1 h2
    unfold fptr
    rw [e, if_pos hi])
  have FO := Aside0.mk fun (h1 : ∀ j, j < es.length → hitB spi out (es.getD j en0) = false) => (show fptr ps es spi out = .pointer none from by
    unfold fptr
    rw [if_neg (find_out h1)])
  obtain ⟨rv, hrv⟩ : ∃ r, fptr ps es spi out = r := ⟨_, rfl⟩
  rw [hrv] at FI FO ⊢
  obtain ⟨n, hn⟩ : ∃ n, es.length = n := ⟨_, rfl⟩
  rw [hn] at hl hlc HT HA c0 FI FO
  clear h hrv hn
  go_enter Tryd.func48, Tryd.ntmps48
  go_wp2_with (fail)
  go_loopw [7] (fun iv wr => ∃ i : Nat, i ≤ n ∧ iv = .int .i64 i ∧ wr = w ∧ Aside0 (∀ j, j < i → hitB spi out (es.getD j en0) = false)) (fun iv _ => n - (intOf iv).toNat)
  case atStart => exact ⟨0, by omega, rfl, rfl, ⟨fun j hj => absurd hj (by omega)⟩⟩
  case round =>
    obtain ⟨i, hin, rfl, rfl, HL⟩ := hrel
    by_cases hlt : i < n
    · have hltI : (i : Int) < (n : Int) := by omega
      have hltN : decide (i < n) = true := decide_eq_true hlt
      obtain ⟨b, hA, hc⟩ := HT.out i hlt
      subst hA
      dsimp only at hc
      have EN := HA.out i hlt
      have HM := Aside0.mk fun (hm : hitB spi out (es.getD i en0) = false) (j : Nat) (hj : j < i + 1) => (show hitB spi out (es.getD j en0) = false from by
        rcases Nat.lt_or_ge j i with h1 | h1
        · exact HL.out j h1
        · rw [show j = i by omega]; exact hm)
      have HI := Aside0.mk fun (h1 : hitB spi out (es.getD i en0) = true) => FI.out i hlt h1 HL.out
      obtain ⟨e, he⟩ : ∃ e, es.getD i en0 = e := ⟨_, rfl⟩
      obtain ⟨x, hx⟩ : ∃ x, ps.getD i pl0 = x := ⟨_, rfl⟩
      rw [he, hx] at EN
      rw [he] at HM HI
      rw [hx] at HI hc
      have k0 : wr.cell? ⟨x.p, 0, none⟩ = some (.int .i64 e.life.f0.f0) := (blk_cell EN.blk 0).trans rfl
      have k7 : wr.cell? ⟨x.p, 7, none⟩ = some (.bool e.life.f2) := (blk_cell EN.blk 7).trans rfl
      obtain ⟨P, hP⟩ : ∃ P, x.p = P := ⟨_, rfl⟩
      rw [hP] at k0 k7 hc HI
      obtain ⟨s0, hs0⟩ : ∃ s, e.life.f0.f0 = s := ⟨_, rfl⟩
      obtain ⟨o0, ho0⟩ : ∃ s, e.life.f2 = s := ⟨_, rfl⟩
      rw [hs0] at k0
      rw [ho0] at k7
      have HH := Aside0.mk (show hitB spi out e = (s0 == spi && o0 == out) from by unfold hitB; rw [hs0, ho0])
      have hi1 : IntKind.i64.wrap ((i : Int) + 1) = ((i + 1 : Nat) : Int) := by rw [IntWalk.i64_in _ (by omega)]; omega
      clear EN he hx hP hs0 ho0
      by_cases h1 : s0 = spi
      · have h1b : (s0 == spi) = true := by rw [beq_iff_eq]; exact h1
        by_cases h2 : o0 = out
        · have h2b : (o0 == out) = true := by rw [beq_iff_eq]; exact h2
          have HR := Aside0.mk (HI.out (by rw [HH.out, h1b, h2b]; rfl))
          clear h1 h2
          go_wp2_with (fail)
          go_ret
          exact ⟨by rw [HR.out]; rfl, rfl⟩
        · have h2b : (o0 == out) = false := by rw [beq_eq_false_iff_ne]; exact h2
          have HN := Aside0.mk (HM.out (by rw [HH.out, h1b, h2b]; rfl))
          clear h1 h2
          go_wp2_with (fail)
          go_roundw
          case rel => exact ⟨i + 1, by omega, by go_num, trivial, HN⟩
          case measure => simp [intOf]; omega
      · have h1b : (s0 == spi) = false := by rw [beq_eq_false_iff_ne]; exact h1
        have HN := Aside0.mk (HM.out (by rw [HH.out, h1b]; rfl))
        clear h1
        go_wp2_with (fail)
        go_roundw
        case rel => exact ⟨i + 1, by omega, by go_num, trivial, HN⟩
        case measure => simp [intOf]; omega
    · have hltI : ¬ (i : Int) < (n : Int) := by omega
      have hltN : decide (i < n) = false := decide_eq_false hlt
      obtain rfl : n = i := by omega
      have HR := Aside0.mk (FO.out HL.out)
      go_wp2_with (fail)
      go_ret
      exact ⟨by rw [HR.out]; rfl, rfl⟩
end Go.Proofs.YtkmnpnbfeiobiaaDoor.Sd
namespace Go.Proofs.YtkmnpnbfeiobiaaDoor.Sd
open Go.RowKit Go.Proofs.YtkmnpnbfeiobiaaDoorW.PrintWords Go.Proofs.YtkmnpnbfeiobiaaDoorW.PrintLast Go.Proofs.YtkmnpnbfeiobiaaDoorW.PrintMore Go.Proofs.YtkmnpnbfeiobiaaDoor.QSa
open Go.Proofs.YtkmnpnbfeiobiaaDoor
set_option linter.unusedVariables false
set_option linter.unusedSimpArgs false
theorem reachB_eq (n l : Int) : reachB n l = (decide (0 < l) && decide (l ≤ n)) := rfl
set_option maxHeartbeats 1600000 in
theorem over_same (a b c d : Int) (w : World) : Calls Tryd.prog 58 #[.int .i64 a, .int .i64 b, .int .i64 c, .int .i64 d] w fun e w' => e = .returned (.bool (reachB a b || reachB c d)) ∧ w' = w := by
  rw [reachB_eq, reachB_eq]
  obtain ⟨p, hp⟩ : ∃ p, decide (0 < b) = p := ⟨_, rfl⟩
  obtain ⟨q, hq⟩ : ∃ p, decide (b ≤ a) = p := ⟨_, rfl⟩
  obtain ⟨r, hr⟩ : ∃ p, decide (0 < d) = p := ⟨_, rfl⟩
  obtain ⟨s, hs⟩ : ∃ p, decide (d ≤ c) = p := ⟨_, rfl⟩
  rw [hp, hq, hr, hs]
  cases p <;> cases q <;> cases r <;> cases s
  all_goals (
    go_enter Tryd.func58, Tryd.ntmps58
    go_wp2
    go_ret
    exact ⟨rfl, rfl⟩)
theorem ageB_or (a b c d : Bool) : ageB a b c d = if (a || b) = true then 2 else if (c || d) = true then 1 else 0 := by revert a b c d; decide
set_option maxHeartbeats 1600000 in
set_option maxRecDepth 100000 in
theorem eage_walk {w : World} {p g : Nat} {e : En} {t : TypeId} (h : w.heap[p]? = some (.cells (encE e g).toArray t (0, 0))) (now : Int) (ht : Timed e now) :
    Calls Tryd.prog 49 #[.pointer (some ⟨p, 0, none⟩), .int .i64 now] w fun e' w' => e' = .returned (.int .i64 (ageE e now)) ∧ Below w.heap.size w w' := by
  have k8 : w.cell? ⟨p, 8, none⟩ = some (.int .i64 e.life.f3) := (blk_cell h 8).trans rfl
  have k9 : w.cell? ⟨p, 9, none⟩ = some (.int .i64 e.life.f4) := (blk_cell h 9).trans rfl
  have k10 : w.cell? ⟨p, 10, none⟩ = some (.int .i64 e.life.f5) := (blk_cell h 10).trans rfl
  have k11 : w.cell? ⟨p, 11, none⟩ = some (.int .i64 e.life.f6) := (blk_cell h 11).trans rfl
  have k12 : w.cell? ⟨p, 12, none⟩ = some (.int .i64 e.born) := (blk_cell h 12).trans rfl
  have k13 : w.cell? ⟨p, 13, none⟩ = some (.int .i64 e.bytes) := (blk_cell h 13).trans rfl
  have hsub0 : IntKind.i64.wrap (now - e.born) = now - e.born := IntWalk.i64_in _ (by unfold Timed at ht; omega)
  unfold ageE
  obtain ⟨T, hT⟩ : ∃ T, now - e.born = T := ⟨_, rfl⟩
  have hsub : IntKind.i64.wrap (now - e.born) = T := hsub0.trans hT
  rw [hT]
  have O1 := Aside0.mk (over_same e.bytes e.life.f4 T e.life.f6)
  have O2 := Aside0.mk (over_same e.bytes e.life.f3 T e.life.f5)
  obtain ⟨r1, hr1⟩ : ∃ b, reachB e.bytes e.life.f4 = b := ⟨_, rfl⟩
  obtain ⟨r2, hr2⟩ : ∃ b, reachB T e.life.f6 = b := ⟨_, rfl⟩
  obtain ⟨r3, hr3⟩ : ∃ b, reachB e.bytes e.life.f3 = b := ⟨_, rfl⟩
  obtain ⟨r4, hr4⟩ : ∃ b, reachB T e.life.f5 = b := ⟨_, rfl⟩
  rw [hr1, hr2] at O1
  rw [hr3, hr4] at O2
  rw [hr1, hr2, hr3, hr4]
  obtain ⟨b1, hb1⟩ : ∃ b, (r1 || r2) = b := ⟨_, rfl⟩
  obtain ⟨b2, hb2⟩ : ∃ b, (r3 || r4) = b := ⟨_, rfl⟩
  rw [hb1] at O1
  rw [hb2] at O2
  have HG : Aside0 (ageB r1 r2 r3 r4 = if b1 = true then 2 else if b2 = true then 1 else 0) := ⟨by rw [ageB_or, hb1, hb2]⟩
  obtain ⟨G, hG⟩ : ∃ G, ageB r1 r2 r3 r4 = G := ⟨_, rfl⟩
  rw [hG] at HG ⊢
  have K := Aside0.mk fun (m : Nat) => (show (w.drewN m).cell? ⟨p, 8, none⟩ = some (.int .i64 e.life.f3) ∧ (w.drewN m).cell? ⟨p, 10, none⟩ = some (.int .i64 e.life.f5) ∧ (w.drewN m).cell? ⟨p, 12, none⟩ = some (.int .i64 e.born) ∧ (w.drewN m).cell? ⟨p, 13, none⟩ = some (.int .i64 e.bytes) from ⟨k8, k10, k12, k13⟩)
  clear h ht hT hsub0 hr1 hr2 hr3 hr4 hb1 hb2 hG
  cases b1
  · cases b2
    · have HG0 := Aside0.mk (show G = 0 from HG.out)
      clear HG
      go_enter Tryd.func49, Tryd.ntmps49
      go_wp2
      go_quiet (first | (go_at_call 58; exact Calls.quiet_of_same (O1.out _)))
      go_wp2
      go_quiet (first | (go_at_call 58; exact quiet_add_same (O2.out _)))
      go_wp2
      go_ret
      exact ⟨by rw [HG0.out]; rfl, by first | exact pw_below_drewN (Below.refl _ _) _ | exact pw_below_drewN (pw_below_drewN (Below.refl _ _) _) _⟩
    · have HG0 := Aside0.mk (show G = 1 from HG.out)
      clear HG
      go_enter Tryd.func49, Tryd.ntmps49
      go_wp2
      go_quiet (first | (go_at_call 58; exact Calls.quiet_of_same (O1.out _)))
      go_wp2
      go_quiet (first | (go_at_call 58; exact quiet_add_same (O2.out _)))
      go_wp2
      go_ret
      exact ⟨by rw [HG0.out]; rfl, by first | exact pw_below_drewN (Below.refl _ _) _ | exact pw_below_drewN (pw_below_drewN (Below.refl _ _) _) _⟩
  · have HG0 := Aside0.mk (show G = 2 from HG.out)
    clear HG
    go_enter Tryd.func49, Tryd.ntmps49
    go_wp2
    go_quiet (first | (go_at_call 58; exact Calls.quiet_of_same (O1.out _)))
    go_wp2
    go_ret
    exact ⟨by rw [HG0.out]; rfl, by first | exact pw_below_drewN (Below.refl _ _) _ | exact pw_below_drewN (pw_below_drewN (Below.refl _ _) _) _⟩
/-- The document's associations in memory. -/
def RefX (w : World) (base q : Nat) (es : List En) : Prop := ∃ v ps, RefT w base q v ps es
theorem RefX.below {w w' : World} {base q : Nat} {es : List En} (h : RefX w base q es) (hb : Below w.heap.size w w') : RefX w' base q es := by
  obtain ⟨v, ps, h⟩ := h
  exact ⟨v, ps, h.below hb⟩
theorem RefX.other {w w' : World} {base b' q : Nat} {es : List En} (h : RefX w base q es) (ht : Turn TP b' w w') : RefX w' base q es := by
  obtain ⟨v, ps, h⟩ := h
  exact ⟨v, ps, Tab.other h (WnRf_ok base) ht TR_TP⟩
theorem RefX.base_le {w : World} {base q : Nat} {es : List En} (h : RefX w base q es) : base ≤ w.heap.size := by
  obtain ⟨v, ps, h⟩ := h
  exact Tab.base_le h
/-- What a call of the document leaves. -/
def RfQ (base q : Nat) (es' : List En) (r : Value) (w : World) (e : Ending) (w' : World) : Prop := e = .returned r ∧ RefX w' base q es' ∧ Turn TR base w w'
set_option maxHeartbeats 1600000 in
set_option maxRecDepth 100000 in
theorem rage_call {w : World} {base q : Nat} {es : List En} (h : RefX w base q es) (hl : es.length ≤ 1000) (now spi : Int) (out : Bool) (ht : ∀ e ∈ es, Timed e now) :
    Calls Tryd.prog 36 #[.pointer (some ⟨q, 0, none⟩), .int .i64 now, .int .i64 spi, .bool out] w (RfQ base q es (.tuple #[.int .i64 (ageF es now spi out).1, .int .i64 (ageF es now spi out).2]) w) := by
  obtain ⟨v, ps, hp⟩ := h
  have HP := Aside0.mk fun (W : World) (hb : Below w.heap.size w W) => hp.below hb
  have FY := Aside0.mk (rfind_call hp hl spi out)
  by_cases hf : findI es spi out < es.length
  · have AG := Aside0.mk (eage_walk (hp.at _ hf).blk now (ht _ (getD_mem hf)))
    unfold fptr at FY
    rw [if_pos hf] at FY
    unfold ageF
    rw [if_pos hf]
    obtain ⟨P, hP⟩ : ∃ P, (ps.getD (findI es spi out) pl0).p = P := ⟨_, rfl⟩
    obtain ⟨a, ha⟩ : ∃ a, ageE (es.getD (findI es spi out) en0) now = a := ⟨_, rfl⟩
    rw [hP] at FY AG
    rw [ha] at AG ⊢
    clear hp hf ht hP ha
    go_enter Tryd.func36, Tryd.ntmps36
    go_wp2_with (fail)
    refine FY.out.mono ?_
    rintro e w1 ⟨rfl, rfl⟩
    go_wp2_with (fail)
    refine AG.out.mono ?_
    rintro e w2 ⟨rfl, hb⟩
    have HB2 := Aside0.mk hb
    clear hb
    go_wp2_with (fail)
    go_ret2
    exact ⟨rfl, ⟨_, _, HP.out _ HB2.out⟩, .of_below HB2.out⟩
  · unfold fptr at FY
    rw [if_neg hf] at FY
    unfold ageF
    rw [if_neg hf]
    clear hp hf ht
    go_enter Tryd.func36, Tryd.ntmps36
    go_wp2_with (fail)
    refine FY.out.mono ?_
    rintro e w1 ⟨rfl, rfl⟩
    go_wp2_with (fail)
    go_ret2
    exact ⟨rfl, ⟨_, _, HP.out _ (Below.refl _ _)⟩, .refl⟩
end Go.Proofs.YtkmnpnbfeiobiaaDoor.Sd
namespace Go.Proofs.YtkmnpnbfeiobiaaDoor.Sd
open Go.RowKit Go.Proofs.YtkmnpnbfeiobiaaDoorW.PrintWords Go.Proofs.YtkmnpnbfeiobiaaDoorW.PrintLast Go.Proofs.YtkmnpnbfeiobiaaDoorW.PrintMore Go.Proofs.YtkmnpnbfeiobiaaDoor.QSa
open Go.Proofs.YtkmnpnbfeiobiaaDoor
set_option linter.unusedVariables false
set_option linter.unusedSimpArgs false
/-- The old one, as the document keeps it. -/
def oldV : Option Int → Int
  | none => -1
  | some s => s
def OldOk (o : Option Int) : Prop := ∀ s, o = some s → 256 ≤ s
theorem pickL_end (now rule : Int) (o : Option Int) (h : OldOk o) : pickL now rule [] o = if oldV o < 0 then (0, 161) else (oldV o, 0) := by
  cases o with
  | none => rfl
  | some s =>
    have := h s rfl
    show (s, (0 : Int)) = if s < 0 then (0, 161) else (s, 0)
    rw [if_neg (by omega)]
set_option maxHeartbeats 3200000 in
set_option maxRecDepth 100000 in
theorem rpick_call {w : World} {base q : Nat} {es : List En} (h : RefX w base q es) (hl : es.length ≤ 1000) (now rule : Int) (ht : ∀ e ∈ es, Timed e now) (hs : ∀ e ∈ es, 256 ≤ e.life.f0.f0) :
    Calls Tryd.prog 37 #[.pointer (some ⟨q, 0, none⟩), .int .i64 now, .int .i64 rule] w (RfQ base q es (.tuple #[.int .i64 (pickF es now rule).1, .int .i64 (pickF es now rule).2]) w) := by
  obtain ⟨v, ps, hp⟩ := h
  obtain ⟨A, c, rfl, hlc⟩ := hp.slice
  have HP := Aside0.mk fun (W : World) (hb : Below w.heap.size w W) => hp.below hb
  have HA := Aside0.mk fun (i : Nat) (hi : i < es.length) (W : World) (hb : Below w.heap.size w W) => (hp.below hb).at i hi
  have AG := Aside0.mk fun (i : Nat) (hi : i < es.length) (W : World) (hb : Below w.heap.size w W) => eage_walk ((hp.below hb).at i hi).blk now (ht _ (getD_mem hi))
  have HT := Aside0.mk fun (W : World) (hb : Below w.heap.size w W) => (hp.below hb).ptrs
  have HC0 := Aside0.mk fun (W : World) (hb : Below w.heap.size w W) => (show W.cell? ⟨q, 0, none⟩ = some (.slice A es.length c) from (blk_cell (hp.below hb).blk 0).trans rfl)
  have HB0 := Aside0.mk (Below.refl w.heap.size w)
  have HD := Aside0.mk (fun (i : Nat) (hi : i < es.length) => (List.drop_eq_getElem_cons hi).trans (by rw [show es[i] = es.getD i en0 from by rw [List.getD_eq_getElem?_getD, List.getElem?_eq_getElem hi]; rfl]))
  have HE := Aside0.mk (List.drop_length (l := es))
  have HS := Aside0.mk (fun (i : Nat) (hi : i < es.length) => hs _ (getD_mem (i := i) hi))
  obtain ⟨ra, hra⟩ : ∃ r, pickF es now rule = r := ⟨_, rfl⟩
  have HR0 := Aside0.mk (show pickL now rule (es.drop 0) none = ra from hra)
  rw [hra]
  obtain ⟨n, hn⟩ : ∃ n, es.length = n := ⟨_, rfl⟩
  rw [hn] at hl hlc HA AG HT HD HE HC0 HS
  have c0 := HC0.out w (Below.refl _ _)
  have HOK0 := Aside0.mk (show OldOk none from fun s hs => by cases hs)
  clear hp ht hra hn hs
  go_enter Tryd.func37, Tryd.ntmps37
  go_wp2_with (fail)
  go_loopw [9, 8] (fun iv uv wr => ∃ (i : Nat) (o : Option Int), i ≤ n ∧ iv = .int .i64 i ∧ uv = .int .i64 (oldV o) ∧ Aside0 (OldOk o) ∧ Aside0 (pickL now rule (es.drop i) o = ra) ∧ Aside0 (Below w.heap.size w wr)) (fun iv _ _ => n - (intOf iv).toNat)
  case atStart => exact ⟨0, none, by omega, rfl, rfl, HOK0, HR0, HB0⟩
  case round =>
    clear HB0 HR0 c0 HOK0
    obtain ⟨i, o, hin, rfl, rfl, HO, HR, HB⟩ := hrel
    have c0 := HC0.out _ HB.out
    by_cases hlt : i < n
    · have hltI : (i : Int) < (n : Int) := by omega
      have hltN : decide (i < n) = true := decide_eq_true hlt
      obtain ⟨b, hA, hc⟩ := HT.out _ HB.out i hlt
      subst hA
      dsimp only at hc
      have hd := HD.out i hlt
      have EN := HA.out i hlt _ HB.out
      have AGi := Aside0.mk (AG.out i hlt)
      have hsi := HS.out i hlt
      obtain ⟨e, he⟩ : ∃ e, es.getD i en0 = e := ⟨_, rfl⟩
      obtain ⟨x, hx⟩ : ∃ x, ps.getD i pl0 = x := ⟨_, rfl⟩
      have HRr := HR.out
      rw [hd, he] at HRr
      rw [he, hx] at EN
      rw [he, hx] at AGi
      rw [he] at hsi
      rw [hx] at hc
      have k0 : wr.cell? ⟨x.p, 0, none⟩ = some (.int .i64 e.life.f0.f0) := (blk_cell EN.blk 0).trans rfl
      have k6 : wr.cell? ⟨x.p, 6, none⟩ = some (.int .i64 e.life.f1) := (blk_cell EN.blk 6).trans rfl
      have k7 : wr.cell? ⟨x.p, 7, none⟩ = some (.bool e.life.f2) := (blk_cell EN.blk 7).trans rfl
      obtain ⟨P, hP⟩ : ∃ P, x.p = P := ⟨_, rfl⟩
      have HEN := Aside0.mk fun (W : World) (hb : Below wr.heap.size wr W) => (blk_cell (blk_below EN.blk hb) 0).trans rfl
      rw [hP] at k0 k6 k7 hc AGi HEN
      obtain ⟨a, ha⟩ : ∃ a, ageE e now = a := ⟨_, rfl⟩
      rw [ha] at AGi
      obtain ⟨s0, hs0⟩ : ∃ s, e.life.f0.f0 = s := ⟨_, rfl⟩
      obtain ⟨r0, hr0⟩ : ∃ s, e.life.f1 = s := ⟨_, rfl⟩
      obtain ⟨o0, ho0⟩ : ∃ s, e.life.f2 = s := ⟨_, rfl⟩
      have HEN2 := Aside0.mk fun (W : World) (hb : Below wr.heap.size wr W) => (show W.cell? ⟨P, 0, none⟩ = some (.int .i64 s0) from by rw [← hs0, ← hP]; exact (blk_cell (blk_below EN.blk hb) 0).trans rfl)
      rw [hs0] at k0 hsi
      rw [hr0] at k6
      rw [ho0] at k7
      simp only [pickL] at HRr
      rw [ha, hs0, hr0, ho0] at HRr
      have HRR := Aside0.mk HRr
      have HSI := Aside0.mk (show OldOk (some s0) from fun s hs => by injection hs with hs; rw [← hs]; exact hsi)
      clear EN hd he hx hP ha hs0 hr0 ho0 HRr HEN hsi
      have hi1 : IntKind.i64.wrap ((i : Int) + 1) = ((i + 1 : Nat) : Int) := by rw [IntWalk.i64_in _ (by omega)]; omega
      cases o0
      · have HN := Aside0.mk (show pickL now rule (es.drop (i + 1)) o = ra from by have := HRR.out; rwa [if_neg (by simp)] at this)
        go_wp2_with (fail)
        go_roundw
        case rel => exact ⟨i + 1, o, by omega, by go_num, rfl, HO, HN, HB⟩
        case measure => simp [intOf]; omega
      by_cases hru : r0 = rule
      · subst hru
        by_cases ha0 : a = 0
        · subst ha0
          have HN := Aside0.mk (show (s0, (0 : Int)) = ra from by have := HRR.out; rwa [if_pos rfl, if_pos rfl, if_pos rfl] at this)
          go_wp2_with (fail)
          refine (AGi.out wr HB.out).mono ?_
          rintro e' w2 ⟨rfl, hb⟩
          have HB2 := Aside0.mk (HB.out.trans (hb.mono HB.out.size))
          have k0' := HEN2.out w2 hb
          clear hb
          go_wp2_with (fail)
          go_ret2
          refine ⟨?_, ⟨_, _, HP.out _ HB2.out⟩, .of_below HB2.out⟩
          rw [← HN.out]
          rfl
        · have ha0b : (a == 0) = false := by rw [beq_eq_false_iff_ne]; exact ha0
          by_cases ha1 : a = 1
          · subst ha1
            have HN := Aside0.mk (show pickL now r0 (es.drop (i + 1)) (some s0) = ra from by have := HRR.out; rwa [if_pos rfl, if_pos rfl, if_neg (by decide), if_pos rfl] at this)
            clear ha0 ha0b
            go_wp2_with (fail)
            refine (AGi.out wr HB.out).mono ?_
            rintro e' w2 ⟨rfl, hb⟩
            have HB2 := Aside0.mk (HB.out.trans (hb.mono HB.out.size))
            have HB12 := Aside0.mk hb
            clear hb
            go_wp2_with (fail)
            refine (AGi.out w2 HB2.out).mono ?_
            rintro e' w3 ⟨rfl, hb⟩
            have HB3 := Aside0.mk (HB2.out.trans (hb.mono HB2.out.size))
            have k0' := HEN2.out w3 (HB12.out.trans (hb.mono HB12.out.size))
            clear hb
            go_wp2_with (fail)
            go_roundw
            case rel => exact ⟨i + 1, _, by omega, by go_num, by first | rfl | trivial, HSI, HN, HB3⟩
            case measure => simp [intOf]; omega
          · have ha1b : (a == 1) = false := by rw [beq_eq_false_iff_ne]; exact ha1
            have HN := Aside0.mk (show pickL now r0 (es.drop (i + 1)) o = ra from by have := HRR.out; rwa [if_pos rfl, if_pos rfl, if_neg ha0, if_neg ha1] at this)
            clear ha0 ha1
            go_wp2_with (fail)
            refine (AGi.out wr HB.out).mono ?_
            rintro e' w2 ⟨rfl, hb⟩
            have HB2 := Aside0.mk (HB.out.trans (hb.mono HB.out.size))
            clear hb
            go_wp2_with (fail)
            refine (AGi.out w2 HB2.out).mono ?_
            rintro e' w3 ⟨rfl, hb⟩
            have HB3 := Aside0.mk (HB2.out.trans (hb.mono HB2.out.size))
            clear hb
            go_wp2_with (fail)
            go_roundw
            case rel => exact ⟨i + 1, o, by omega, by go_num, rfl, HO, HN, HB3⟩
            case measure => simp [intOf]; omega
      · have hrub : (r0 != rule) = true := by rw [bne_iff_ne]; exact hru
        have HN := Aside0.mk (show pickL now rule (es.drop (i + 1)) o = ra from by have := HRR.out; rwa [if_pos rfl, if_neg hru] at this)
        clear hru
        go_wp2_with (fail)
        go_roundw
        case rel => exact ⟨i + 1, o, by omega, by go_num, rfl, HO, HN, HB⟩
        case measure => simp [intOf]; omega
    · have hltI : ¬ (i : Int) < (n : Int) := by omega
      have hltN : decide (i < n) = false := decide_eq_false hlt
      obtain rfl : n = i := by omega
      have HRr := HR.out
      rw [HE.out, pickL_end _ _ _ HO.out] at HRr
      obtain ⟨u, hu⟩ : ∃ u, oldV o = u := ⟨_, rfl⟩
      rw [hu] at HRr ⊢
      clear hu
      by_cases hneg : u < 0
      · rw [if_pos hneg] at HRr
        have hnegb : decide (u < 0) = true := decide_eq_true hneg
        have HN := Aside0.mk HRr
        clear HRr hneg
        go_wp2_with (fail)
        go_ret2
        refine ⟨?_, ⟨_, _, HP.out _ HB.out⟩, .of_below HB.out⟩
        rw [← HN.out]
        rfl
      · rw [if_neg hneg] at HRr
        have hnegb : decide (u < 0) = false := decide_eq_false hneg
        have HN := Aside0.mk HRr
        clear HRr hneg
        go_wp2_with (fail)
        go_ret2
        refine ⟨?_, ⟨_, _, HP.out _ HB.out⟩, .of_below HB.out⟩
        rw [← HN.out]
        rfl
end Go.Proofs.YtkmnpnbfeiobiaaDoor.Sd
namespace Go.Proofs.YtkmnpnbfeiobiaaDoor.Sd
open Go.RowKit Go.Proofs.YtkmnpnbfeiobiaaDoorW.PrintWords Go.Proofs.YtkmnpnbfeiobiaaDoorW.PrintLast Go.Proofs.YtkmnpnbfeiobiaaDoorW.PrintMore Go.Proofs.YtkmnpnbfeiobiaaDoor.QSa
open Go.Proofs.YtkmnpnbfeiobiaaDoor
set_option linter.unusedVariables false
set_option linter.unusedSimpArgs false
set_option maxHeartbeats 3200000 in
set_option maxRecDepth 100000 in
theorem rlist_call {w : World} {base q : Nat} {es : List En} (h : RefX w base q es) (hl : es.length ≤ 1000) :
    Calls Tryd.prog 22 #[.pointer (some ⟨q, 0, none⟩)] w (ListQ (lives es) w) := by
  obtain ⟨v, ps, hp⟩ := h
  obtain ⟨A, c, rfl, hlc⟩ := hp.slice
  have HA := Aside0.mk fun (i : Nat) (hi : i < es.length) (W : World) (hb : Below w.heap.size w W) => (hp.below hb).at i hi
  have HT := Aside0.mk fun (W : World) (hb : Below w.heap.size w W) => (hp.below hb).ptrs
  have HB0 := Aside0.mk (Below.refl w.heap.size w)
  have HC0 := Aside0.mk fun (W : World) (hb : Below w.heap.size w W) => (show W.cell? ⟨q, 0, none⟩ = some (.slice A es.length c) from (blk_cell (hp.below hb).blk 0).trans rfl)
  have c0 : w.cell? ⟨q, 0, none⟩ = some (.slice A es.length c) := (blk_cell hp.blk 0).trans rfl
  have HS := Aside0.mk (fun i hi => @lives_snoc es i hi)
  have HE := Aside0.mk (List.take_length (l := es))
  have HLT := Aside0.mk (List.length_take_le (l := es))
  obtain ⟨n, hn⟩ : ∃ n, es.length = n := ⟨_, rfl⟩
  rw [hn] at hl hlc HA HT HS HE HC0 c0
  clear hp hn
  go_enter Tryd.func22, Tryd.ntmps22
  go_wp2_with (fail)
  have U0 := Aside0.mk (show LivesAt w w.heap.size (.slice none 0 0) (lives (es.take 0)) from Kd.R_nil _ _ _ _ _)
  go_loopw [4, 3] (fun iv uv wr => ∃ (i : Nat) (u : Value), i ≤ n ∧ iv = .int .i64 i ∧ u = uv ∧ Aside0 (LivesAt wr w.heap.size u (lives (es.take i))) ∧ Aside0 (Below w.heap.size w wr)) (fun iv _ _ => n - (intOf iv).toNat)
  case atStart => exact ⟨0, _, by omega, rfl, rfl, U0, HB0⟩
  case round =>
    clear HB0 U0 c0
    obtain ⟨i, uv, hin, rfl, rfl, U, HB⟩ := hrel
    have c0 := HC0.out _ HB.out
    by_cases hlt : i < n
    · have hltI : (i : Int) < (n : Int) := by omega
      have hltN : decide (i < n) = true := decide_eq_true hlt
      obtain ⟨b, hA, hc⟩ := HT.out _ HB.out i hlt
      subst hA
      dsimp only at hc
      have hs := HS.out i hlt
      have LD0 := load27 (HA.out i hlt _ HB.out).blk
      obtain ⟨x, hx⟩ : ∃ x, (es.getD i en0).life = x := ⟨_, rfl⟩
      rw [hx] at LD0 hs
      obtain ⟨P, hP⟩ : ∃ P, (ps.getD i pl0).p = P := ⟨_, rfl⟩
      rw [hP] at hc LD0
      have LD := Aside0.mk (show (loadVar 27 ⟨P, 0, none⟩).run Tryd.prog wr = .ok (.agg #[.int .i64 x.f0.f0, .string x.f0.f1, .string x.f0.f2, .string x.f0.f3, .bool x.f0.f4, .int .i64 x.f0.f5, .int .i64 x.f1, .bool x.f2, .int .i64 x.f3, .int .i64 x.f4, .int .i64 x.f5, .int .i64 x.f6]) wr from LD0)
      have HS1 := Aside0.mk hs
      have HLN := Aside0.mk (show (lives (es.take i)).length ≤ i from by unfold lives; rw [List.length_map]; exact List.length_take_le _ _)
      clear hs LD0 hx hP
      have hi1 : IntKind.i64.wrap ((i : Int) + 1) = ((i + 1 : Nat) : Int) := by rw [IntWalk.i64_in _ (by omega)]; omega
      obtain ⟨XS, hXS⟩ : ∃ XS, lives (es.take i) = XS := ⟨_, rfl⟩
      rw [hXS] at U HS1 HLN
      clear hXS
      go_wp2_with (first | ((with_reducible refine gate_dst (N := 24) rfl ?_); refine Kd.event_run (v := .agg #[.int .i64 x.f0.f0, .string x.f0.f1, .string x.f0.f2, .string x.f0.f3, .bool x.f0.f4, .int .i64 x.f0.f5, .int .i64 x.f1, .bool x.f2, .int .i64 x.f3, .int .i64 x.f4, .int .i64 x.f5, .int .i64 x.f6]) (w1 := wr) ?hg (load_runA 27 (.tmp 23) ⟨P, 0, none⟩ #[.int .i64 x.f0.f0, .string x.f0.f1, .string x.f0.f2, .string x.f0.f3, .bool x.f0.f4, .int .i64 x.f0.f5, .int .i64 x.f1, .bool x.f2, .int .i64 x.f3, .int .i64 x.f4, .int .i64 x.f5, .int .i64 x.f6] ?ho ?hx LD.out) ?_; (case hg => rfl); (case ho => rfl); (case hx => rfl)) | ((with_reducible refine gate_builtin (b := .append) (xs := #[.tmp 14, .tmp 25]) rfl ?_); at_builtin; refine Kd.R_append k27 (w0 := w) w.heap.size rfl (.tmp 14) (.tmp 25) 55 27 (.agg #[.int .i64 0, .string ByteArray.empty, .string ByteArray.empty, .string ByteArray.empty, .bool false, .int .i64 0, .int .i64 0, .bool false, .int .i64 0, .int .i64 0, .int .i64 0, .int .i64 0]) 120 rfl Tryd.underlying55 info27 rfl (by decide) (by omega) uv XS x [.int .i64 x.f0.f0, .string x.f0.f1, .string x.f0.f2, .string x.f0.f3, .bool x.f0.f4, .int .i64 x.f0.f5, .int .i64 x.f1, .bool x.f2, .int .i64 x.f3, .int .i64 x.f4, .int .i64 x.f5, .int .i64 x.f6] (fun _ => True) (fun _ => False) rfl rfl ?aP (fun _ hk => hk.elim) ?aF ?aO ?aB ?aS ?aL ?_; (case aP => exact k27_mkM _ _ _ x); (case aB => exact HB.out); (case aF => exact (fun k hk => trivial)); (case aO => exact U.out); (case aS => exact HB.out.size); (case aL => have := HLN.out; omega); intro u6 w6 ho hb1 hg hat; have HO2 := Aside0.mk (show LivesAt w6 w.heap.size u6 _ from ho); have HB2 := Aside0.mk hb1; clear ho hb1 hg hat))
      go_roundw
      case rel => exact ⟨i + 1, _, by omega, by go_num, rfl, ⟨by rw [HS1.out]; exact HO2.out⟩, HB2⟩
      case measure => simp [intOf]; omega
    · have hltI : ¬ (i : Int) < (n : Int) := by omega
      have hltN : decide (i < n) = false := decide_eq_false hlt
      obtain rfl : n = i := by omega
      rw [HE.out] at U
      go_wp2_with (fail)
      go_ret
      exact ⟨⟨_, rfl, U.out⟩, HB.out⟩
end Go.Proofs.YtkmnpnbfeiobiaaDoor.Sd
namespace Go.Proofs.YtkmnpnbfeiobiaaDoor.Sd
open Go.RowKit Go.Proofs.YtkmnpnbfeiobiaaDoorW.PrintWords Go.Proofs.YtkmnpnbfeiobiaaDoorW.PrintLast Go.Proofs.YtkmnpnbfeiobiaaDoorW.PrintMore Go.Proofs.YtkmnpnbfeiobiaaDoor.QSa
open Go.Proofs.YtkmnpnbfeiobiaaDoor
set_option linter.unusedVariables false
set_option linter.unusedSimpArgs false
theorem ref_ok {base : Nat} {w : World} {h L : Nat} {ok ok' : Nat → Prop} {wide : Bool} {A : Option Addr} {c : Nat} {ns : List Nat} (r : Win.Ref base w h ok L wide A c ns) (h' : ∀ k, (Value.slice A ns.length c).ownBlock = some k → ok' k) : Win.Ref base w h ok' L wide A c ns := by
  refine ⟨r.hs, ?_⟩
  obtain ⟨h0, inner, ho, hr⟩ := r.row
  exact ⟨fun k hk => ⟨(h0 k hk).1, h' k hk⟩, inner, ho, hr⟩
set_option maxHeartbeats 1600000 in
set_option maxRecDepth 100000 in
theorem rtake_neg {w : World} {p : Value} {q : Nat} (now spi : Int) (seq : Nat) (n : Int) (hn : n < 0) (FY : Aside0 (Calls Tryd.prog 48 #[.pointer (some ⟨q, 0, none⟩), .int .i64 spi, .bool false] w fun e w' => e = .returned p ∧ w' = w)) :
    Calls Tryd.prog 40 #[.pointer (some ⟨q, 0, none⟩), .int .i64 now, .int .i64 spi, .int .u64 (seq : Int), .int .i64 n] w fun e w' => e = .returned (.int .i64 1) ∧ Below w.heap.size w w' := by
  have hn1 : decide (n < 0) = true := decide_eq_true hn
  clear hn
  go_enter Tryd.func40, Tryd.ntmps40
  go_wp2_with (fail)
  refine FY.out.mono ?_
  rintro e w1 ⟨rfl, rfl⟩
  go_wp2_with (fail)
  go_ret
  exact ⟨rfl, Below.refl _ _⟩
set_option maxHeartbeats 1600000 in
set_option maxRecDepth 100000 in
theorem rtake_none {w : World} {q : Nat} (now spi : Int) (seq : Nat) (n : Int) (hn : ¬ n < 0) (FY : Aside0 (Calls Tryd.prog 48 #[.pointer (some ⟨q, 0, none⟩), .int .i64 spi, .bool false] w fun e w' => e = .returned (.pointer none) ∧ w' = w)) :
    Calls Tryd.prog 40 #[.pointer (some ⟨q, 0, none⟩), .int .i64 now, .int .i64 spi, .int .u64 (seq : Int), .int .i64 n] w fun e w' => e = .returned (.int .i64 6) ∧ Below w.heap.size w w' := by
  have hn1 : decide (n < 0) = false := decide_eq_false hn
  clear hn
  go_enter Tryd.func40, Tryd.ntmps40
  go_wp2_with (fail)
  refine FY.out.mono ?_
  rintro e w1 ⟨rfl, rfl⟩
  go_wp2_with (fail)
  go_ret
  exact ⟨rfl, Below.refl _ _⟩
set_option maxHeartbeats 1600000 in
set_option maxRecDepth 100000 in
theorem rtake_hard {w : World} {q P : Nat} (now spi : Int) (seq : Nat) (n : Int) (hn : ¬ n < 0) (FY : Aside0 (Calls Tryd.prog 48 #[.pointer (some ⟨q, 0, none⟩), .int .i64 spi, .bool false] w fun e w' => e = .returned (.pointer (some ⟨P, 0, none⟩)) ∧ w' = w))
    (AG : Aside0 (Calls Tryd.prog 49 #[.pointer (some ⟨P, 0, none⟩), .int .i64 now] w fun e' w' => e' = .returned (.int .i64 2) ∧ Below w.heap.size w w')) :
    Calls Tryd.prog 40 #[.pointer (some ⟨q, 0, none⟩), .int .i64 now, .int .i64 spi, .int .u64 (seq : Int), .int .i64 n] w fun e w' => e = .returned (.int .i64 171) ∧ Below w.heap.size w w' := by
  have hn1 : decide (n < 0) = false := decide_eq_false hn
  clear hn
  go_enter Tryd.func40, Tryd.ntmps40
  go_wp2_with (fail)
  refine FY.out.mono ?_
  rintro e w1 ⟨rfl, rfl⟩
  go_wp2_with (fail)
  refine AG.out.mono ?_
  rintro e w2 ⟨rfl, hb⟩
  have HB2 := Aside0.mk hb
  clear hb
  go_wp2_with (fail)
  go_ret
  exact ⟨rfl, HB2.out⟩
set_option maxHeartbeats 1600000 in
set_option maxRecDepth 100000 in
theorem rtake_no {w : World} {q P h : Nat} {a cc : Int} (now spi : Int) (seq : Nat) (n : Int) (hn : ¬ n < 0) (ha : a ≠ 2) (hcc : cc ≠ 0) (FY : Aside0 (Calls Tryd.prog 48 #[.pointer (some ⟨q, 0, none⟩), .int .i64 spi, .bool false] w fun e w' => e = .returned (.pointer (some ⟨P, 0, none⟩)) ∧ w' = w))
    (AG : Aside0 (Calls Tryd.prog 49 #[.pointer (some ⟨P, 0, none⟩), .int .i64 now] w fun e' w' => e' = .returned (.int .i64 a) ∧ Below w.heap.size w w'))
    (K : Aside0 (∀ W, Below w.heap.size w W → W.cell? ⟨P, 15, none⟩ = some (.pointer (some ⟨h, 0, none⟩))))
    (AC : Aside0 (∀ W, Below w.heap.size w W → Calls Tryd.prog 52 #[.pointer (some ⟨h, 0, none⟩), .int .u64 (seq : Int)] W fun e w' => e = .returned (.int .i64 cc) ∧ ∃ m, w' = W.drewN m)) :
    Calls Tryd.prog 40 #[.pointer (some ⟨q, 0, none⟩), .int .i64 now, .int .i64 spi, .int .u64 (seq : Int), .int .i64 n] w fun e w' => e = .returned (.int .i64 cc) ∧ Below w.heap.size w w' := by
  have hn1 : decide (n < 0) = false := decide_eq_false hn
  have ha1 : (a == 2) = false := by rw [beq_eq_false_iff_ne]; exact ha
  have hc1 : (cc == 0) = false := by rw [beq_eq_false_iff_ne]; exact hcc
  clear hn ha hcc
  go_enter Tryd.func40, Tryd.ntmps40
  go_wp2_with (fail)
  refine FY.out.mono ?_
  rintro e w1 ⟨rfl, rfl⟩
  go_wp2_with (fail)
  refine AG.out.mono ?_
  rintro e w2 ⟨rfl, hb⟩
  have HB2 := Aside0.mk hb
  have k15 := K.out w2 hb
  clear hb
  go_wp2_with (fail)
  refine (AC.out w2 HB2.out).mono ?_
  rintro e w3 ⟨rfl, m, rfl⟩
  go_wp2_with (fail)
  go_ret
  exact ⟨rfl, pw_below_drewN HB2.out m⟩
/-- A window of the document has taken a number. -/
theorem racc_tab {w w' : World} {base q : Nat} {v : Value} {ps : List Pl} {es : List En} (hp : RefT w base q v ps es) (i : Nat) (hi : i < es.length) (e' : En) (hl : e'.life = (es.getD i en0).life) (he : encE e' (ps.getD i pl0).g = encE (es.getD i en0) (ps.getD i pl0).g) {A' : Option Addr} {c' : Nat}
    (hw : Win.Ref base w' (ps.getD i pl0).g (fun k => (ps.getD i pl0).u.ownBlock = some k ∨ w.heap.size ≤ k) e'.life.f0.f5.toNat e'.life.f0.f4 A' c' e'.ns) (hb : Below base w w') (hk : ∀ k, k < w.heap.size → ¬ (k = (ps.getD i pl0).g ∨ (ps.getD i pl0).u.ownBlock = some k ∨ w.heap.size ≤ k) → w'.heap[k]? = w.heap[k]?) :
    ∃ ps', RefT w' base q v ps' (es.set i e') ∧ Turn TR base w w' ∧ (ps'.getD i pl0).p = (ps.getD i pl0).p := by
  obtain ⟨h1, h2, h3, h4, h5⟩ := hp.at i hi
  obtain ⟨cg, hg⟩ := (WnRf_ok base).blkg h2
  have hp' : w'.heap[(ps.getD i pl0).p]? = some (.cells (encE e' (ps.getD i pl0).g).toArray 82 (0, 0)) := by
    rw [he]
    refine (hk _ (blk_lt h1) ?_).trans h1
    rintro (e | e | e)
    · exact blk_ne h1 hg (by decide) e
    · obtain ⟨ca, ha⟩ := (WnRf_ok base).blku h2 e
      exact blk_ne h1 ha (by decide) rfl
    · exact absurd (blk_lt h1) (by omega)
  obtain ⟨h6, h7⟩ := Tab.upd hp TR_ok (WnRf_ok base) i hi (.slice A' e'.ns.length c') e'
    ⟨hp', ⟨A', c', rfl, ref_ok hw fun _ _ => trivial⟩, h3, h4, fun k hk' => by
      obtain ⟨h0, inner, ho, hr⟩ := hw.row
      rw [Win.natl_length] at ho
      rcases (h0 k hk').2 with e | e
      · exact h5 k e
      · exact Nat.le_trans (Tab.base_le hp) e⟩ (fun k hk' => by
      obtain ⟨h0, inner, ho, hr⟩ := hw.row
      exact (h0 k hk').2) hb.os hb.tape hb.output hb.size
    (fun k hk' n1 n2 n3 => hk k hk' (by
      rintro (e | e | e)
      · exact n2 e
      · exact n3 e
      · omega))
  exact ⟨_, h6, h7, by rw [Sd.getD_set _ _ _ _ _ (by rw [hp.len]; exact hi), if_pos rfl]⟩
/-- A store into an association of the document. -/
theorem rset_tab {w : World} {base q : Nat} {v : Value} {ps : List Pl} {es : List En} (hp : RefT w base q v ps es) (i : Nat) (hi : i < es.length) (j : Nat) (u : Value) (e' : En) (hn : e'.ns = (es.getD i en0).ns) (hw : e'.life = (es.getD i en0).life)
    (he : (encE (es.getD i en0) (ps.getD i pl0).g).toArray.setIfInBounds j u = (encE e' (ps.getD i pl0).g).toArray) :
    ∃ ps', RefT (w.setCell ⟨(ps.getD i pl0).p, j, none⟩ u) base q v ps' (es.set i e') ∧ Turn TR base w (w.setCell ⟨(ps.getD i pl0).p, j, none⟩ u) ∧ (ps'.getD i pl0).p = (ps.getD i pl0).p := by
  obtain ⟨h1, h2, h3, h4, h5⟩ := hp.at i hi
  have far : ∀ k, k ≠ (ps.getD i pl0).p → (w.setCell ⟨(ps.getD i pl0).p, j, none⟩ u).heap[k]? = w.heap[k]? := fun k hk => Below.heap_setCell w _ _ k hk
  have hsz : (w.setCell ⟨(ps.getD i pl0).p, j, none⟩ u).heap.size = w.heap.size := by simp [World.setCell]
  obtain ⟨cg, hg⟩ := (WnRf_ok base).blkg h2
  obtain ⟨h6, h7⟩ := Tab.upd hp TR_ok (WnRf_ok base) i hi (ps.getD i pl0).u e' (w' := w.setCell ⟨(ps.getD i pl0).p, j, none⟩ u)
    ⟨blk_put h1 j u he, (by
      have h2' := (WnRf_ok base).move h2 (far _ (blk_ne hg h1 (by decide))) (fun k hk => by
        obtain ⟨ca, ha⟩ := (WnRf_ok base).blku h2 hk
        exact far k (blk_ne ha h1 (by decide)))
      unfold WnRf at h2' ⊢
      rw [hn, hw]
      exact h2'), h3, h4, h5⟩ (fun k hk => .inl hk) rfl rfl rfl (Nat.le_of_eq hsz.symm)
    (fun k hk n1 n2 n3 => far k n1)
  refine ⟨_, h6, h7, ?_⟩
  rw [Sd.getD_set _ _ _ _ _ (by rw [hp.len]; exact hi), if_pos rfl]
end Go.Proofs.YtkmnpnbfeiobiaaDoor.Sd
namespace Go.Proofs.YtkmnpnbfeiobiaaDoor.Sd
open Go.RowKit Go.Proofs.YtkmnpnbfeiobiaaDoorW.PrintWords Go.Proofs.YtkmnpnbfeiobiaaDoorW.PrintLast Go.Proofs.YtkmnpnbfeiobiaaDoorW.PrintMore Go.Proofs.YtkmnpnbfeiobiaaDoor.QSa
open Go.Proofs.YtkmnpnbfeiobiaaDoor
set_option linter.unusedVariables false
set_option linter.unusedSimpArgs false
/-- The document's window takes a number. -/
theorem racc_call {w : World} {base q k : Nat} {v : Value} {ps : List Pl} {es : List En} (hp : RefT w base q v ps es) (i : Nat) (hi : i < es.length) (seq : Nat) (hk : k ≤ 200) (hg : Good k (es.getD i en0)) (hc : Win.chk (es.getD i en0).life.f0.f4 (es.getD i en0).st seq = 0) :
    Calls Tryd.prog 52 #[.pointer (some ⟨(ps.getD i pl0).g, 0, none⟩), .int .u64 (seq : Int)] w fun e w' => e = .returned (.int .i64 0) ∧ ∃ ps', RefT w' base q v ps' (es.set i { es.getD i en0 with st := Win.acc (es.getD i en0).life.f0.f4 (es.getD i en0).st seq, ns := (es.getD i en0).ns ++ [seq] }) ∧ Turn TR base w w' ∧ (ps'.getD i pl0).p = (ps.getD i pl0).p := by
  obtain ⟨h1, h2, h3, h4, h5⟩ := hp.at i hi
  obtain ⟨A, c, hu, r⟩ := h2
  have r' := ref_ok (ok' := fun k => (ps.getD i pl0).u.ownBlock = some k ∨ w.heap.size ≤ k) r (fun k hk => .inl (by rw [hu]; exact hk))
  have hlo := hg.lo
  have hhi := hg.hi
  have hns := hg.ns
  have htop : Win.tops (es.getD i en0).ns < 18446744073709551616 := by rw [hg.inv.tops]; exact hg.top
  have hck := Win.ref_check r' (by omega) (by omega) seq htop
  rw [hg.inv.ref (by omega), hc] at hck
  refine (Win.ref_accept_yes (w0 := w) r' (by omega) (Below.refl base w) (Tab.base_le hp) h4 (fun k hk => .inr hk) seq hck).mono ?_
  rintro e w' ⟨rfl, ⟨A', c', hr⟩, hb, hkp⟩
  refine ⟨rfl, ?_⟩
  exact racc_tab hp i hi _ rfl rfl hr hb (fun k hk hnk => hkp.2 k hk hnk)
set_option maxHeartbeats 1600000 in
set_option maxRecDepth 100000 in
theorem rtake_ok {w : World} {base q k : Nat} {v : Value} {ps : List Pl} {es : List En} (hp : RefT w base q v ps es) (hl : es.length ≤ 1000) (now spi : Int) (seq : Nat) (n : Int) (hn : 0 ≤ n) (hn9 : n ≤ 1000000000) (hk : k ≤ 200) (hf : findI es spi false < es.length) (hg : Good k (es.getD (findI es spi false) en0)) (ht : Timed (es.getD (findI es spi false) en0) now)
    (ha : ageE (es.getD (findI es spi false) en0) now ≠ 2) (hc : Win.chk (es.getD (findI es spi false) en0).life.f0.f4 (es.getD (findI es spi false) en0).st seq = 0) :
    Calls Tryd.prog 40 #[.pointer (some ⟨q, 0, none⟩), .int .i64 now, .int .i64 spi, .int .u64 (seq : Int), .int .i64 n] w (RfQ base q (es.set (findI es spi false) (takeE (es.getD (findI es spi false) en0) n seq)) (.int .i64 0) w) := by
  have FY := Aside0.mk (rfind_call hp hl spi false)
  unfold fptr at FY
  rw [if_pos hf] at FY
  obtain ⟨i, hi⟩ : ∃ i, findI es spi false = i := ⟨_, rfl⟩
  rw [hi] at hf hg ht ha hc FY ⊢
  have AG := Aside0.mk (eage_walk (hp.at i hf).blk now ht)
  have AC := Aside0.mk fun (W : World) (hb : Below w.heap.size w W) => racc_call (hp.below hb) i hf seq hk hg hc
  have K := Aside0.mk fun (W : World) (hb : Below w.heap.size w W) => (show W.cell? ⟨(ps.getD i pl0).p, 15, none⟩ = some (.pointer (some ⟨(ps.getD i pl0).g, 0, none⟩)) from (blk_cell (blk_below (hp.at i hf).blk hb) 15).trans rfl)
  obtain ⟨em, hem⟩ : ∃ em : En, { es.getD i en0 with st := Win.acc (es.getD i en0).life.f0.f4 (es.getD i en0).st seq, ns := (es.getD i en0).ns ++ [seq] } = em := ⟨_, rfl⟩
  rw [hem] at AC
  have hby : em.bytes = (es.getD i en0).bytes := by rw [← hem]
  have hte : takeE (es.getD i en0) n seq = { em with bytes := em.bytes + n } := by rw [← hem]; rfl
  rw [hte]
  have hsum : IntKind.i64.wrap (em.bytes + n) = em.bytes + n := IntWalk.i64_in _ (by have := hg.bytes; rw [hby]; omega)
  have STT := Aside0.mk fun (W : World) (ps' : List Pl) (h : RefT W base q v ps' (es.set i em)) => rset_tab h i (by rw [List.length_set]; exact hf) 13 (.int .i64 (em.bytes + n)) { em with bytes := em.bytes + n } (by rw [getD_set _ _ _ _ _ hf, if_pos rfl]) (by rw [getD_set _ _ _ _ _ hf, if_pos rfl]) (by rw [getD_set _ _ _ _ _ hf, if_pos rfl]; rfl)
  have HSS := Aside0.mk (show (es.set i em).set i { em with bytes := em.bytes + n } = es.set i { em with bytes := em.bytes + n } from by rw [List.set_set])
  have HEM := Aside0.mk fun (W : World) (ps' : List Pl) (h : RefT W base q v ps' (es.set i em)) => (show W.cell? ⟨(ps'.getD i pl0).p, 13, none⟩ = some (.int .i64 em.bytes) ∧ W.frozen? ⟨(ps'.getD i pl0).p, 13, none⟩ = false from by
    have hb := (h.at i (by rw [List.length_set]; exact hf)).blk
    rw [getD_set _ _ _ _ _ hf, if_pos rfl] at hb
    exact ⟨(blk_cell hb 13).trans rfl, blk_frozen hb 13⟩)
  obtain ⟨a, hae⟩ : ∃ a, ageE (es.getD i en0) now = a := ⟨_, rfl⟩
  rw [hae] at AG ha
  obtain ⟨P, hP⟩ : ∃ P, (ps.getD i pl0).p = P := ⟨_, rfl⟩
  obtain ⟨G, hG⟩ : ∃ G, (ps.getD i pl0).g = G := ⟨_, rfl⟩
  rw [hP] at FY AG AC K
  rw [hG] at AC K
  have hn1 : decide (n < 0) = false := decide_eq_false (by omega)
  have ha1 : (a == 2) = false := by rw [beq_eq_false_iff_ne]; exact ha
  clear hp hf hg ht ha hc hG hP hi hn hte hby hem hn9 hk hae
  go_enter Tryd.func40, Tryd.ntmps40
  go_wp2_with (fail)
  refine FY.out.mono ?_
  rintro e w1 ⟨rfl, rfl⟩
  go_wp2_with (fail)
  refine AG.out.mono ?_
  rintro e w2 ⟨rfl, hb⟩
  have HB2 := Aside0.mk hb
  have k15 := K.out w2 hb
  clear hb
  go_wp2_with (fail)
  refine (AC.out w2 HB2.out).mono ?_
  rintro e w3 ⟨rfl, ps', h6, h7, h8⟩
  have H7 := Aside0.mk ((Turn.of_below HB2.out).trans h7)
  obtain ⟨k13, f13⟩ := HEM.out w3 ps' h6
  have ST := Aside0.mk (STT.out w3 ps' h6)
  rw [h8] at k13 f13 ST
  obtain ⟨bs, hbs⟩ : ∃ b, em.bytes + n = b := ⟨_, rfl⟩
  have hsum : IntKind.i64.wrap (em.bytes + n) = bs := hsum.trans hbs
  obtain ⟨b0, hb0⟩ : ∃ b, em.bytes = b := ⟨_, rfl⟩
  rw [hbs] at ST HSS
  have HBS := Aside0.mk hbs
  rw [hb0] at hsum k13
  clear h6 h7 h8 hbs hb0 k15
  go_wp2_with (fail)
  go_ret
  obtain ⟨ps2, h9, h10, _⟩ := ST.out
  rw [HSS.out] at h9
  obtain rfl := HBS.out
  exact ⟨rfl, ⟨_, _, h9⟩, H7.out.trans h10⟩
theorem rtake_call {w : World} {base q k : Nat} {es : List En} (h : RefX w base q es) (hl : es.length ≤ 1000) (now spi : Int) (seq : Nat) (n : Int) (hn9 : n ≤ 1000000000) (hk : k ≤ 200) (hg : ∀ e ∈ es, Good k e) (h0 : -1000000000 ≤ now) (h1 : now ≤ 4000000000) :
    Calls Tryd.prog 40 #[.pointer (some ⟨q, 0, none⟩), .int .i64 now, .int .i64 spi, .int .u64 (seq : Int), .int .i64 n] w (RfQ base q (takeF es now spi seq n).1 (.int .i64 (takeF es now spi seq n).2) w) := by
  obtain ⟨v, ps, hp⟩ := h
  have ht : ∀ e ∈ es, Timed e now := fun e he => (hg e he).timed h0 h1
  have FY := rfind_call hp hl spi false
  have OUT : ∀ (c : Int) (e : Ending) (w' : World), (e = .returned (.int .i64 c) ∧ Below w.heap.size w w') → RfQ base q es (.int .i64 c) w e w' := fun c e w' hq => ⟨hq.1, ⟨_, _, hp.below hq.2⟩, .of_below hq.2⟩
  unfold takeF
  by_cases hn : n < 0
  · rw [if_pos hn]
    exact (rtake_neg now spi seq n hn ⟨FY⟩).mono (OUT 1)
  · rw [if_neg hn]
    by_cases hf : findI es spi false < es.length
    · rw [if_pos hf]
      have FY' := FY
      unfold fptr at FY'
      rw [if_pos hf] at FY'
      have AG := eage_walk (hp.at _ hf).blk now (ht _ (getD_mem hf))
      have G := hg _ (getD_mem hf)
      by_cases ha : ageE (es.getD (findI es spi false) en0) now = 2
      · rw [if_pos ha]
        rw [ha] at AG
        exact (rtake_hard now spi seq n hn ⟨FY'⟩ ⟨AG⟩).mono (OUT 171)
      · rw [if_neg ha]
        by_cases hc : Win.chk (es.getD (findI es spi false) en0).life.f0.f4 (es.getD (findI es spi false) en0).st seq = 0
        · rw [if_pos hc]
          exact rtake_ok hp hl now spi seq n (by omega) hn9 hk hf G (ht _ (getD_mem hf)) ha hc
        · rw [if_neg hc]
          refine (rtake_no (h := (ps.getD (findI es spi false) pl0).g) now spi seq n hn ha hc ⟨FY'⟩ ⟨AG⟩ ⟨fun W hb => (blk_cell (blk_below (hp.at _ hf).blk hb) 15).trans rfl⟩ ⟨fun W hb => ?_⟩).mono (OUT _)
          obtain ⟨A, c, hu, r⟩ := ((hp.below hb).at _ hf).win
          have hlo := G.lo
          have hhi := G.hi
          have hns := G.ns
          have hck := Win.ref_check r (by omega) (by omega) seq (by rw [G.inv.tops]; exact G.top)
          rw [G.inv.ref (by omega)] at hck
          exact Win.ref_accept_no _ _ _ hc hck
    · rw [if_neg hf]
      unfold fptr at FY
      rw [if_neg hf] at FY
      exact (rtake_none now spi seq n hn ⟨FY⟩).mono (OUT 6)
end Go.Proofs.YtkmnpnbfeiobiaaDoor.Sd
namespace Go.Proofs.YtkmnpnbfeiobiaaDoor.Sd
open Go.RowKit Go.Proofs.YtkmnpnbfeiobiaaDoorW.PrintWords Go.Proofs.YtkmnpnbfeiobiaaDoor.QSa
open Go.Proofs.YtkmnpnbfeiobiaaDoor
set_option linter.unusedVariables false
theorem may17_f (x : S27) : redoubtref17_May.f x.f0.f0 x.f0.f1 x.f0.f2 x.f0.f3 x.f0.f4 x.f0.f5 x.f1 x.f2 x.f3 x.f4 x.f5 x.f6 = some (mayL x) := by
  unfold redoubtref17_May.f
  rw [may14_f]
  unfold mayL
  cases mayP x.f0
  · rfl
  · rw [Option.bind_some, if_pos rfl]
    by_cases h1 : 0 ≤ x.f1 <;> by_cases h3 : 0 ≤ x.f3 <;> by_cases h4 : 0 ≤ x.f4 <;> by_cases h5 : 0 ≤ x.f5 <;> by_cases h6 : 0 ≤ x.f6 <;> simp [h1, h3, h4, h5, h6]
theorem rmay_walk (x : S27) (w : World) : Calls Tryd.prog 47 #[.agg #[.int .i64 x.f0.f0, .string x.f0.f1, .string x.f0.f2, .string x.f0.f3, .bool x.f0.f4, .int .i64 x.f0.f5, .int .i64 x.f1, .bool x.f2, .int .i64 x.f3, .int .i64 x.f4, .int .i64 x.f5, .int .i64 x.f6]] w fun e w' => e = .returned (.bool (mayL x)) ∧ Below w.heap.size w w' :=
  redoubtref17_May.calls _ _ _ _ _ _ _ _ _ _ _ _ _ w (may17_f x)
end Go.Proofs.YtkmnpnbfeiobiaaDoor.Sd
namespace Go.Proofs.YtkmnpnbfeiobiaaDoor.Sd
open Go.RowKit Go.Proofs.YtkmnpnbfeiobiaaDoorW.PrintWords Go.Proofs.YtkmnpnbfeiobiaaDoorW.PrintLast Go.Proofs.YtkmnpnbfeiobiaaDoorW.PrintMore Go.Proofs.YtkmnpnbfeiobiaaDoor.QSa
open Go.Proofs.YtkmnpnbfeiobiaaDoor
set_option linter.unusedVariables false
set_option linter.unusedSimpArgs false
set_option maxHeartbeats 1600000 in
set_option maxRecDepth 100000 in
theorem rsend_neg {w : World} {q : Nat} {p : Value} (now spi n : Int) (hn : n < 0) (FY : Aside0 (∀ W, Below w.heap.size w W → Calls Tryd.prog 48 #[.pointer (some ⟨q, 0, none⟩), .int .i64 spi, .bool true] W fun e w' => e = .returned p ∧ w' = W)) :
    Calls Tryd.prog 38 #[.pointer (some ⟨q, 0, none⟩), .int .i64 now, .int .i64 spi, .int .i64 n] w fun e w' => e = .returned (.tuple #[v25 z25, .int .u64 0, .int .i64 1]) ∧ Below w.heap.size w w' := by
  have hn1 : decide (n < 0) = true := decide_eq_true hn
  clear hn
  go_enter Tryd.func38, Tryd.ntmps38
  go_wp2_with (first | ((with_reducible refine gate_dst (N := 8) rfl ?_); refine box_event ?hg (N := 8) ?hd (cs := #[.int .i64 0, .string ByteArray.empty, .string ByteArray.empty, .string ByteArray.empty, .bool false, .int .i64 0]) (t := 25) ?hr ?_; (case hd => rfl); (case hg => rfl); (case hr => first | (go_simp; done) | (go_simp; rfl)); intro q8 hq w1 hbox hb; have BKq8 := Aside0.mk hbox; have HQq8 := Aside0.mk (show w.heap.size ≤ q8 from by rw [hq]; exact Nat.le_refl _); have HB1 := Aside0.mk hb; clear hbox hb hq))
  refine (FY.out w1 HB1.out).mono ?_
  rintro e w2 ⟨rfl, rfl⟩
  have HB2 := HB1
  go_wp2_with (first | ((with_reducible refine gate_store (t := 25) (p := 8) rfl ?_); refine store_rowE ?hg 25 (.tmp 8) (.tmp 17) ?ho ?hN q8 (#[.int .i64 0, .string ByteArray.empty, .string ByteArray.empty, .string ByteArray.empty, .bool false, .int .i64 0]) ?hx ?hy 25 _ BKq8.out ?hi ?hold ?h1 ?_; (case hg => rfl); (case ho => rfl); (case hN => rfl); (case hx => rfl); (case hy => rfl); (case hi => exact isz25); (case hold => rfl); (case h1 => first | rfl | exact one25 _ | simp [Value.oneCell']); intro w3 hw; have HB3 := Aside0.mk (show Below w.heap.size w w3 from by rw [hw]; exact below_setRow HB2.out HQq8.out _); have BKq8 := Aside0.mk (show w3.heap[q8]? = some (.cells (#[.int .i64 0, .string ByteArray.empty, .string ByteArray.empty, .string ByteArray.empty, .bool false, .int .i64 0]) 25 (0, 0)) from by rw [hw]; exact setRow_heap _ _ _ _ _ _ BKq8.out); clear hw))
  (try simp only [Exit.inBlock, Exit.then])
  refine bodyPost_ret (results_c3 Tryd.results38 _ _ q8 25 _ (0, 0) _ rfl BKq8.out Tryd.underlying25 rfl isz25) rfl ?_
  exact ⟨rfl, HB3.out⟩
set_option maxHeartbeats 1600000 in
set_option maxRecDepth 100000 in
theorem rsend_none {w : World} {q : Nat}  (now spi n : Int) (hn : ¬ n < 0) (FY : Aside0 (∀ W, Below w.heap.size w W → Calls Tryd.prog 48 #[.pointer (some ⟨q, 0, none⟩), .int .i64 spi, .bool true] W fun e w' => e = .returned (.pointer none) ∧ w' = W)) :
    Calls Tryd.prog 38 #[.pointer (some ⟨q, 0, none⟩), .int .i64 now, .int .i64 spi, .int .i64 n] w fun e w' => e = .returned (.tuple #[v25 z25, .int .u64 0, .int .i64 6]) ∧ Below w.heap.size w w' := by
  have hn1 : decide (n < 0) = false := decide_eq_false hn
  clear hn
  go_enter Tryd.func38, Tryd.ntmps38
  go_wp2_with (first | ((with_reducible refine gate_dst (N := 8) rfl ?_); refine box_event ?hg (N := 8) ?hd (cs := #[.int .i64 0, .string ByteArray.empty, .string ByteArray.empty, .string ByteArray.empty, .bool false, .int .i64 0]) (t := 25) ?hr ?_; (case hd => rfl); (case hg => rfl); (case hr => first | (go_simp; done) | (go_simp; rfl)); intro q8 hq w1 hbox hb; have BKq8 := Aside0.mk hbox; have HQq8 := Aside0.mk (show w.heap.size ≤ q8 from by rw [hq]; exact Nat.le_refl _); have HB1 := Aside0.mk hb; clear hbox hb hq))
  refine (FY.out w1 HB1.out).mono ?_
  rintro e w2 ⟨rfl, rfl⟩
  have HB2 := HB1
  go_wp2_with (first | ((with_reducible refine gate_store (t := 25) (p := 8) rfl ?_); refine store_rowE ?hg 25 (.tmp 8) (.tmp 20) ?ho ?hN q8 (#[.int .i64 0, .string ByteArray.empty, .string ByteArray.empty, .string ByteArray.empty, .bool false, .int .i64 0]) ?hx ?hy 25 _ BKq8.out ?hi ?hold ?h1 ?_; (case hg => rfl); (case ho => rfl); (case hN => rfl); (case hx => rfl); (case hy => rfl); (case hi => exact isz25); (case hold => rfl); (case h1 => first | rfl | exact one25 _ | simp [Value.oneCell']); intro w3 hw; have HB3 := Aside0.mk (show Below w.heap.size w w3 from by rw [hw]; exact below_setRow HB2.out HQq8.out _); have BKq8 := Aside0.mk (show w3.heap[q8]? = some (.cells (#[.int .i64 0, .string ByteArray.empty, .string ByteArray.empty, .string ByteArray.empty, .bool false, .int .i64 0]) 25 (0, 0)) from by rw [hw]; exact setRow_heap _ _ _ _ _ _ BKq8.out); clear hw))
  (try simp only [Exit.inBlock, Exit.then])
  refine bodyPost_ret (results_c3 Tryd.results38 _ _ q8 25 _ (0, 0) _ rfl BKq8.out Tryd.underlying25 rfl isz25) rfl ?_
  exact ⟨rfl, HB3.out⟩
set_option maxHeartbeats 1600000 in
set_option maxRecDepth 100000 in
theorem rsend_hard {w : World} {q : Nat} {P : Nat} (now spi n : Int) (hn : ¬ n < 0) (FY : Aside0 (∀ W, Below w.heap.size w W → Calls Tryd.prog 48 #[.pointer (some ⟨q, 0, none⟩), .int .i64 spi, .bool true] W fun e w' => e = .returned (.pointer (some ⟨P, 0, none⟩)) ∧ w' = W))
    (AG : Aside0 (∀ W, Below w.heap.size w W → Calls Tryd.prog 49 #[.pointer (some ⟨P, 0, none⟩), .int .i64 now] W fun e' w' => e' = .returned (.int .i64 2) ∧ Below W.heap.size W w')) :
    Calls Tryd.prog 38 #[.pointer (some ⟨q, 0, none⟩), .int .i64 now, .int .i64 spi, .int .i64 n] w fun e w' => e = .returned (.tuple #[v25 z25, .int .u64 0, .int .i64 171]) ∧ Below w.heap.size w w' := by
  have hn1 : decide (n < 0) = false := decide_eq_false hn
  clear hn
  go_enter Tryd.func38, Tryd.ntmps38
  go_wp2_with (first | ((with_reducible refine gate_dst (N := 8) rfl ?_); refine box_event ?hg (N := 8) ?hd (cs := #[.int .i64 0, .string ByteArray.empty, .string ByteArray.empty, .string ByteArray.empty, .bool false, .int .i64 0]) (t := 25) ?hr ?_; (case hd => rfl); (case hg => rfl); (case hr => first | (go_simp; done) | (go_simp; rfl)); intro q8 hq w1 hbox hb; have BKq8 := Aside0.mk hbox; have HQq8 := Aside0.mk (show w.heap.size ≤ q8 from by rw [hq]; exact Nat.le_refl _); have HB1 := Aside0.mk hb; clear hbox hb hq))
  refine (FY.out w1 HB1.out).mono ?_
  rintro e w2 ⟨rfl, rfl⟩
  have HB2 := HB1
  go_wp2_with (fail)
  refine (AG.out w2 HB2.out).mono ?_
  rintro e w4 ⟨rfl, hb⟩
  have HB2 := Aside0.mk (HB1.out.trans (hb.mono HB1.out.size))
  have BKq8 := Aside0.mk (blk_below BKq8.out hb)
  clear hb
  go_wp2_with (first | ((with_reducible refine gate_store (t := 25) (p := 8) rfl ?_); refine store_rowE ?hg 25 (.tmp 8) (.tmp 25) ?ho ?hN q8 (#[.int .i64 0, .string ByteArray.empty, .string ByteArray.empty, .string ByteArray.empty, .bool false, .int .i64 0]) ?hx ?hy 25 _ BKq8.out ?hi ?hold ?h1 ?_; (case hg => rfl); (case ho => rfl); (case hN => rfl); (case hx => rfl); (case hy => rfl); (case hi => exact isz25); (case hold => rfl); (case h1 => first | rfl | exact one25 _ | simp [Value.oneCell']); intro w3 hw; have HB3 := Aside0.mk (show Below w.heap.size w w3 from by rw [hw]; exact below_setRow HB2.out HQq8.out _); have BKq8 := Aside0.mk (show w3.heap[q8]? = some (.cells (#[.int .i64 0, .string ByteArray.empty, .string ByteArray.empty, .string ByteArray.empty, .bool false, .int .i64 0]) 25 (0, 0)) from by rw [hw]; exact setRow_heap _ _ _ _ _ _ BKq8.out); clear hw))
  (try simp only [Exit.inBlock, Exit.then])
  refine bodyPost_ret (results_c3 Tryd.results38 _ _ q8 25 _ (0, 0) _ rfl BKq8.out Tryd.underlying25 rfl isz25) rfl ?_
  exact ⟨rfl, HB3.out⟩
end Go.Proofs.YtkmnpnbfeiobiaaDoor.Sd
namespace Go.Proofs.YtkmnpnbfeiobiaaDoor.Sd
open Go.RowKit Go.Proofs.YtkmnpnbfeiobiaaDoorW.PrintWords Go.Proofs.YtkmnpnbfeiobiaaDoorW.PrintLast Go.Proofs.YtkmnpnbfeiobiaaDoorW.PrintMore Go.Proofs.YtkmnpnbfeiobiaaDoor.QSa
open Go.Proofs.YtkmnpnbfeiobiaaDoor
set_option linter.unusedVariables false
set_option linter.unusedSimpArgs false
set_option maxHeartbeats 1600000 in
set_option maxRecDepth 100000 in
theorem rlook_none {w : World} {q : Nat} (now spi low : Int) (FY : Aside0 (∀ W, Below w.heap.size w W → Calls Tryd.prog 48 #[.pointer (some ⟨q, 0, none⟩), .int .i64 spi, .bool false] W fun e w' => e = .returned (.pointer none) ∧ w' = W)) :
    Calls Tryd.prog 39 #[.pointer (some ⟨q, 0, none⟩), .int .i64 now, .int .i64 spi, .int .i64 low] w fun e w' => e = .returned (.tuple #[v27 z27, .int .u64 0, .int .i64 6]) ∧ Below w.heap.size w w' := by
  go_enter Tryd.func39, Tryd.ntmps39
  go_wp2_with (first | ((with_reducible refine gate_dst (N := 8) rfl ?_); refine box_event ?hg (N := 8) ?hd (cs := #[.int .i64 0, .string ByteArray.empty, .string ByteArray.empty, .string ByteArray.empty, .bool false, .int .i64 0, .int .i64 0, .bool false, .int .i64 0, .int .i64 0, .int .i64 0, .int .i64 0]) (t := 27) ?hr ?_; (case hd => rfl); (case hg => rfl); (case hr => first | (go_simp; done) | (go_simp; rfl)); intro q8 hq w1 hbox hb; have BKq8 := Aside0.mk hbox; have HQq8 := Aside0.mk (show w.heap.size ≤ q8 from by rw [hq]; exact Nat.le_refl _); have HB1 := Aside0.mk hb; clear hbox hb hq))
  refine (FY.out w1 HB1.out).mono ?_
  rintro e w2 ⟨rfl, rfl⟩
  have HB2 := HB1
  have HB3 := HB2
  go_wp2_with (first | ((with_reducible refine gate_store (t := 27) (p := 8) rfl ?_); refine store_rowE ?hg 27 (.tmp 8) (.tmp 19) ?ho ?hN q8 (#[.int .i64 0, .string ByteArray.empty, .string ByteArray.empty, .string ByteArray.empty, .bool false, .int .i64 0, .int .i64 0, .bool false, .int .i64 0, .int .i64 0, .int .i64 0, .int .i64 0]) ?hx ?hy 27 _ BKq8.out ?hi ?hold ?h1 ?_; (case hg => rfl); (case ho => rfl); (case hN => rfl); (case hx => rfl); (case hy => rfl); (case hi => exact isz27); (case hold => rfl); (case h1 => first | rfl | exact one27 _ | simp [Value.oneCell']); intro w4 hw; have HB4 := Aside0.mk (show Below w.heap.size w w4 from by rw [hw]; exact below_setRow HB3.out HQq8.out _); have BKq8 := Aside0.mk (show w4.heap[q8]? = some (.cells (#[.int .i64 0, .string ByteArray.empty, .string ByteArray.empty, .string ByteArray.empty, .bool false, .int .i64 0, .int .i64 0, .bool false, .int .i64 0, .int .i64 0, .int .i64 0, .int .i64 0]) 27 (0, 0)) from by rw [hw]; exact setRow_heap _ _ _ _ _ _ BKq8.out); clear hw))
  (try simp only [Exit.inBlock, Exit.then])
  refine bodyPost_ret (results_c3 Tryd.results39 _ _ q8 27 _ (0, 0) _ rfl BKq8.out Tryd.underlying27 rfl isz27) rfl ?_
  exact ⟨rfl, HB4.out⟩
set_option maxHeartbeats 1600000 in
set_option maxRecDepth 100000 in
theorem rlook_hard {w : World} {q P : Nat} (now spi low : Int) (FY : Aside0 (∀ W, Below w.heap.size w W → Calls Tryd.prog 48 #[.pointer (some ⟨q, 0, none⟩), .int .i64 spi, .bool false] W fun e w' => e = .returned (.pointer (some ⟨P, 0, none⟩)) ∧ w' = W))
    (AG : Aside0 (∀ W, Below w.heap.size w W → Calls Tryd.prog 49 #[.pointer (some ⟨P, 0, none⟩), .int .i64 now] W fun e' w' => e' = .returned (.int .i64 2) ∧ Below W.heap.size W w')) :
    Calls Tryd.prog 39 #[.pointer (some ⟨q, 0, none⟩), .int .i64 now, .int .i64 spi, .int .i64 low] w fun e w' => e = .returned (.tuple #[v27 z27, .int .u64 0, .int .i64 171]) ∧ Below w.heap.size w w' := by
  go_enter Tryd.func39, Tryd.ntmps39
  go_wp2_with (first | ((with_reducible refine gate_dst (N := 8) rfl ?_); refine box_event ?hg (N := 8) ?hd (cs := #[.int .i64 0, .string ByteArray.empty, .string ByteArray.empty, .string ByteArray.empty, .bool false, .int .i64 0, .int .i64 0, .bool false, .int .i64 0, .int .i64 0, .int .i64 0, .int .i64 0]) (t := 27) ?hr ?_; (case hd => rfl); (case hg => rfl); (case hr => first | (go_simp; done) | (go_simp; rfl)); intro q8 hq w1 hbox hb; have BKq8 := Aside0.mk hbox; have HQq8 := Aside0.mk (show w.heap.size ≤ q8 from by rw [hq]; exact Nat.le_refl _); have HB1 := Aside0.mk hb; clear hbox hb hq))
  refine (FY.out w1 HB1.out).mono ?_
  rintro e w2 ⟨rfl, rfl⟩
  have HB2 := HB1
  go_wp2_with (fail)
  refine (AG.out w2 HB2.out).mono ?_
  rintro e w3 ⟨rfl, hb⟩
  have HB3 := Aside0.mk (HB2.out.trans (hb.mono HB2.out.size))
  have BKq8 := Aside0.mk (blk_below BKq8.out hb)
  clear hb
  go_wp2_with (first | ((with_reducible refine gate_store (t := 27) (p := 8) rfl ?_); refine store_rowE ?hg 27 (.tmp 8) (.tmp 24) ?ho ?hN q8 (#[.int .i64 0, .string ByteArray.empty, .string ByteArray.empty, .string ByteArray.empty, .bool false, .int .i64 0, .int .i64 0, .bool false, .int .i64 0, .int .i64 0, .int .i64 0, .int .i64 0]) ?hx ?hy 27 _ BKq8.out ?hi ?hold ?h1 ?_; (case hg => rfl); (case ho => rfl); (case hN => rfl); (case hx => rfl); (case hy => rfl); (case hi => exact isz27); (case hold => rfl); (case h1 => first | rfl | exact one27 _ | simp [Value.oneCell']); intro w4 hw; have HB4 := Aside0.mk (show Below w.heap.size w w4 from by rw [hw]; exact below_setRow HB3.out HQq8.out _); have BKq8 := Aside0.mk (show w4.heap[q8]? = some (.cells (#[.int .i64 0, .string ByteArray.empty, .string ByteArray.empty, .string ByteArray.empty, .bool false, .int .i64 0, .int .i64 0, .bool false, .int .i64 0, .int .i64 0, .int .i64 0, .int .i64 0]) 27 (0, 0)) from by rw [hw]; exact setRow_heap _ _ _ _ _ _ BKq8.out); clear hw))
  (try simp only [Exit.inBlock, Exit.then])
  refine bodyPost_ret (results_c3 Tryd.results39 _ _ q8 27 _ (0, 0) _ rfl BKq8.out Tryd.underlying27 rfl isz27) rfl ?_
  exact ⟨rfl, HB4.out⟩
set_option maxHeartbeats 3200000 in
set_option maxRecDepth 100000 in
theorem rlook_yes {w : World} {base q k : Nat} {v : Value} {ps : List Pl} {es : List En} (hp : RefT w base q v ps es) (hl : es.length ≤ 1000) (hk : k ≤ 200) (now spi low : Int) (hf : findI es spi false < es.length) (hg : Good k (es.getD (findI es spi false) en0)) (ht : Timed (es.getD (findI es spi false) en0) now)
    (ha : ageE (es.getD (findI es spi false) en0) now ≠ 2) :
    Calls Tryd.prog 39 #[.pointer (some ⟨q, 0, none⟩), .int .i64 now, .int .i64 spi, .int .i64 low] w fun e w' => e = .returned (.tuple #[v27 (lookF es now spi low).1, .int .u64 (lookF es now spi low).2.1, .int .i64 (lookF es now spi low).2.2]) ∧ Below w.heap.size w w' := by
  have FY := Aside0.mk fun (W : World) (hb : Below w.heap.size w W) => rfind_call (hp.below hb) hl spi false
  unfold fptr at FY
  rw [if_pos hf] at FY
  unfold lookF
  rw [if_pos hf, if_neg ha]
  obtain ⟨i, hi⟩ : ∃ i, findI es spi false = i := ⟨_, rfl⟩
  rw [hi] at hf hg ht ha FY ⊢
  have AG := Aside0.mk fun (W : World) (hb : Below w.heap.size w W) => eage_walk ((hp.below hb).at i hf).blk now ht
  have HP := hp.at i hf
  obtain ⟨e, he⟩ : ∃ e, es.getD i en0 = e := ⟨_, rfl⟩
  obtain ⟨pl, hpl⟩ : ∃ p, ps.getD i pl0 = p := ⟨_, rfl⟩
  rw [he] at hg ha ⊢
  rw [hpl] at FY
  rw [he, hpl] at HP AG
  obtain ⟨h1, ⟨A, c0, hu, hwa⟩, _, _, _⟩ := HP
  have hlo := hg.lo
  have hhi := hg.hi
  have hns := hg.ns
  have hLn : ((e.life.f0.f5.toNat : Nat) : Int) = e.st.2.length := by have := hg.inv.len; omega
  have htop : Win.tops e.ns < 18446744073709551616 := by rw [hg.inv.tops]; exact hg.top
  have RB := Aside0.mk fun (W : World) (hb : Below w.heap.size w W) => (show Win.Ref base W pl.g (fun _ => True) e.life.f0.f5.toNat e.life.f0.f4 A c0 e.ns from by
    obtain ⟨_, ⟨A', c', hu', r⟩, _, _, _⟩ := (hp.below hb).at i hf
    rw [hpl, hu] at hu'
    rw [he, hpl] at r
    rw [he] at hu'
    injection hu' with e1 _ e3
    rw [e1, e3]
    exact r)
  have IW := Aside0.mk fun (W : World) (hb : Below w.heap.size w W) => Win.ref_infer (RB.out W hb) (by omega) (by omega) low htop
  have CW := Aside0.mk fun (W : World) (n : Nat) (hb : Below w.heap.size w W) => Win.ref_check (RB.out W hb) (by omega) (by omega) n htop
  have LD0 := Aside0.mk fun (W : World) (hb : Below w.heap.size w W) => load27 (blk_below h1 hb)
  have CG := Aside0.mk fun (W : World) (hb : Below w.heap.size w W) => (blk_cell (blk_below h1 hb) 15).trans (rfl : (encE e pl.g).toArray[15]? = some (.pointer (some ⟨pl.g, 0, none⟩)))
  obtain ⟨m, hm⟩ := inferE_nat e.life.f0.f4 e.st.1 e.st.2.length low (by omega)
  obtain ⟨f, hff⟩ : ∃ f, (lookW e low).2 = f := ⟨_, rfl⟩
  have hm2 : (lookW e low).1 = (m : Int) := hm
  rw [hff, hm2, Int.toNat_natCast]
  have IWE := Aside0.mk fun (W : World) (hb : Below w.heap.size w W) => (show Calls Tryd.prog 50 #[.pointer (some ⟨pl.g, 0, none⟩), .int .i64 low] W fun e' w' => e' = .returned (.tuple #[.int .u64 (m : Int), .int .i64 f]) ∧ ∃ m, w' = W.drewN m from by
    have := IW.out W hb
    rw [hg.inv.tops, hLn, show Win.inferE e.life.f0.f4 e.st.1 e.st.2.length low = ((m : Int), f) from Prod.ext hm hff] at this
    exact this)
  obtain ⟨c, hc⟩ : ∃ c, Win.chk e.life.f0.f4 e.st m = c := ⟨_, rfl⟩
  have CWE := Aside0.mk fun (W : World) (hb : Below w.heap.size w W) => (show Calls Tryd.prog 51 #[.pointer (some ⟨pl.g, 0, none⟩), .int .u64 (m : Int)] W fun e' w' => e' = .returned (.int .i64 c) ∧ ∃ m, w' = W.drewN m from by
    have := CW.out W m hb
    rw [hg.inv.ref (by omega), hc] at this
    exact this)
  rw [hc]
  obtain ⟨x, hx⟩ : ∃ x, e.life = x := ⟨_, rfl⟩
  rw [hx] at LD0 ⊢
  obtain ⟨P, hP⟩ : ∃ P, pl.p = P := ⟨_, rfl⟩
  obtain ⟨G, hG⟩ : ∃ G, pl.g = G := ⟨_, rfl⟩
  rw [hP] at FY AG LD0 CG
  rw [hG] at CG IWE CWE
  obtain ⟨av, hav⟩ : ∃ a, ageE e now = a := ⟨_, rfl⟩
  rw [hav] at AG ha
  have ha1 : (av == 2) = false := by rw [beq_eq_false_iff_ne]; exact ha
  clear hp hf hg ht ha h1 hu hwa hlo hhi hns hLn htop RB IW CW hm hff hm2 hc hx hP hG hi he hpl hav
  by_cases hf0 : f = 0
  · subst hf0
    rw [if_pos rfl]
    by_cases hc0 : c = 0
    · subst hc0
      rw [if_pos rfl]
      go_enter Tryd.func39, Tryd.ntmps39
      go_wp2_with (first | ((with_reducible refine gate_dst (N := 8) rfl ?_); refine box_event ?hg (N := 8) ?hd (cs := #[.int .i64 0, .string ByteArray.empty, .string ByteArray.empty, .string ByteArray.empty, .bool false, .int .i64 0, .int .i64 0, .bool false, .int .i64 0, .int .i64 0, .int .i64 0, .int .i64 0]) (t := 27) ?hr ?_; (case hd => rfl); (case hg => rfl); (case hr => first | (go_simp; done) | (go_simp; rfl)); intro q8 hq w1 hbox hb; have BKq8 := Aside0.mk hbox; have HQq8 := Aside0.mk (show w.heap.size ≤ q8 from by rw [hq]; exact Nat.le_refl _); have HB1 := Aside0.mk hb; clear hbox hb hq))
      refine (FY.out w1 HB1.out).mono ?_
      rintro e w2 ⟨rfl, rfl⟩
      go_wp2_with (fail)
      refine (AG.out w2 HB1.out).mono ?_
      rintro e w2' ⟨rfl, hb⟩
      have HB2 := Aside0.mk (HB1.out.trans (hb.mono HB1.out.size))
      have BKq8 := Aside0.mk (blk_below BKq8.out hb)
      have c15 : w2'.cell? ⟨P, 15, none⟩ = some (.pointer (some ⟨G, 0, none⟩)) := CG.out w2' HB2.out
      clear hb
      go_wp2_with (fail)
      refine (IWE.out w2' HB2.out).mono ?_
      rintro e w3 ⟨rfl, m3, rfl⟩
      have HB3 := Aside0.mk (pw_below_drewN HB2.out m3)
      have BKq8 := Aside0.mk (blk_drewN BKq8.out m3)
      clear c15
      have c15 : (w2'.drewN m3).cell? ⟨P, 15, none⟩ = some (.pointer (some ⟨G, 0, none⟩)) := CG.out _ HB3.out
      obtain ⟨w3, hw3⟩ : ∃ W, w2'.drewN m3 = W := ⟨_, rfl⟩
      rw [hw3] at HB3 BKq8 c15 ⊢
      clear hw3
      go_wp2_with (fail)
      refine (CWE.out w3 HB3.out).mono ?_
      rintro e w4 ⟨rfl, m4, rfl⟩
      have HB4 := Aside0.mk (pw_below_drewN HB3.out m4)
      have BKq8 := Aside0.mk (blk_drewN BKq8.out m4)
      have LD := Aside0.mk (show (loadVar 27 ⟨P, 0, none⟩).run Tryd.prog (w3.drewN m4) = .ok (.agg #[.int .i64 x.f0.f0, .string x.f0.f1, .string x.f0.f2, .string x.f0.f3, .bool x.f0.f4, .int .i64 x.f0.f5, .int .i64 x.f1, .bool x.f2, .int .i64 x.f3, .int .i64 x.f4, .int .i64 x.f5, .int .i64 x.f6]) (w3.drewN m4) from LD0.out _ HB4.out)
      obtain ⟨w4, hw4⟩ : ∃ W, w3.drewN m4 = W := ⟨_, rfl⟩
      rw [hw4] at HB4 BKq8 LD ⊢
      clear hw4
      go_wp2_with (first | ((with_reducible refine gate_dst (N := 49) rfl ?_); refine Kd.event_run (v := .agg #[.int .i64 x.f0.f0, .string x.f0.f1, .string x.f0.f2, .string x.f0.f3, .bool x.f0.f4, .int .i64 x.f0.f5, .int .i64 x.f1, .bool x.f2, .int .i64 x.f3, .int .i64 x.f4, .int .i64 x.f5, .int .i64 x.f6]) (w1 := w4) ?hg (load_runA 27 (.tmp 48) ⟨P, 0, none⟩ #[.int .i64 x.f0.f0, .string x.f0.f1, .string x.f0.f2, .string x.f0.f3, .bool x.f0.f4, .int .i64 x.f0.f5, .int .i64 x.f1, .bool x.f2, .int .i64 x.f3, .int .i64 x.f4, .int .i64 x.f5, .int .i64 x.f6] ?ho ?hx LD.out) ?_; (case hg => rfl); (case ho => rfl); (case hx => rfl)) | ((with_reducible refine gate_store (t := 27) (p := 8) rfl ?_); refine store_rowE ?hg 27 (.tmp 8) (.tmp 49) ?ho ?hN q8 (#[.int .i64 x.f0.f0, .string x.f0.f1, .string x.f0.f2, .string x.f0.f3, .bool x.f0.f4, .int .i64 x.f0.f5, .int .i64 x.f1, .bool x.f2, .int .i64 x.f3, .int .i64 x.f4, .int .i64 x.f5, .int .i64 x.f6]) ?hx ?hy 27 _ BKq8.out ?hi ?hold ?h1 ?_; (case hg => rfl); (case ho => rfl); (case hN => rfl); (case hx => rfl); (case hy => rfl); (case hi => exact isz27); (case hold => rfl); (case h1 => first | rfl | exact one27 _ | simp [Value.oneCell']); intro w5 hw; have HB5 := Aside0.mk (show Below w.heap.size w w5 from by rw [hw]; exact below_setRow HB4.out HQq8.out _); have BKq8 := Aside0.mk (show w5.heap[q8]? = some (.cells (#[.int .i64 x.f0.f0, .string x.f0.f1, .string x.f0.f2, .string x.f0.f3, .bool x.f0.f4, .int .i64 x.f0.f5, .int .i64 x.f1, .bool x.f2, .int .i64 x.f3, .int .i64 x.f4, .int .i64 x.f5, .int .i64 x.f6]) 27 (0, 0)) from by rw [hw]; exact setRow_heap _ _ _ _ _ _ BKq8.out); clear hw))
      (try simp only [Exit.inBlock, Exit.then])
      refine bodyPost_ret (results_c3 Tryd.results39 _ _ q8 27 _ (0, 0) _ rfl BKq8.out Tryd.underlying27 rfl isz27) rfl ?_
      exact ⟨rfl, HB5.out⟩
    · rw [if_neg hc0]
      have hcb : (c == 0) = false := by rw [beq_eq_false_iff_ne]; exact hc0
      have hcb2 : (c != 0) = true := by rw [bne_iff_ne]; exact hc0
      clear hc0
      go_enter Tryd.func39, Tryd.ntmps39
      go_wp2_with (first | ((with_reducible refine gate_dst (N := 8) rfl ?_); refine box_event ?hg (N := 8) ?hd (cs := #[.int .i64 0, .string ByteArray.empty, .string ByteArray.empty, .string ByteArray.empty, .bool false, .int .i64 0, .int .i64 0, .bool false, .int .i64 0, .int .i64 0, .int .i64 0, .int .i64 0]) (t := 27) ?hr ?_; (case hd => rfl); (case hg => rfl); (case hr => first | (go_simp; done) | (go_simp; rfl)); intro q8 hq w1 hbox hb; have BKq8 := Aside0.mk hbox; have HQq8 := Aside0.mk (show w.heap.size ≤ q8 from by rw [hq]; exact Nat.le_refl _); have HB1 := Aside0.mk hb; clear hbox hb hq))
      refine (FY.out w1 HB1.out).mono ?_
      rintro e w2 ⟨rfl, rfl⟩
      go_wp2_with (fail)
      refine (AG.out w2 HB1.out).mono ?_
      rintro e w2' ⟨rfl, hb⟩
      have HB2 := Aside0.mk (HB1.out.trans (hb.mono HB1.out.size))
      have BKq8 := Aside0.mk (blk_below BKq8.out hb)
      have c15 : w2'.cell? ⟨P, 15, none⟩ = some (.pointer (some ⟨G, 0, none⟩)) := CG.out w2' HB2.out
      clear hb
      go_wp2_with (fail)
      refine (IWE.out w2' HB2.out).mono ?_
      rintro e w3 ⟨rfl, m3, rfl⟩
      have HB3 := Aside0.mk (pw_below_drewN HB2.out m3)
      have BKq8 := Aside0.mk (blk_drewN BKq8.out m3)
      clear c15
      have c15 : (w2'.drewN m3).cell? ⟨P, 15, none⟩ = some (.pointer (some ⟨G, 0, none⟩)) := CG.out _ HB3.out
      obtain ⟨w3, hw3⟩ : ∃ W, w2'.drewN m3 = W := ⟨_, rfl⟩
      rw [hw3] at HB3 BKq8 c15 ⊢
      clear hw3
      go_wp2_with (fail)
      refine (CWE.out w3 HB3.out).mono ?_
      rintro e w4 ⟨rfl, m4, rfl⟩
      have HB4 := Aside0.mk (pw_below_drewN HB3.out m4)
      have BKq8 := Aside0.mk (blk_drewN BKq8.out m4)
      obtain ⟨w4, hw4⟩ : ∃ W, w3.drewN m4 = W := ⟨_, rfl⟩
      rw [hw4] at HB4 BKq8 ⊢
      clear hw4
      go_wp2_with (first | ((with_reducible refine gate_store (t := 27) (p := 8) rfl ?_); refine store_rowE ?hg 27 (.tmp 8) (.tmp 44) ?ho ?hN q8 (#[.int .i64 0, .string ByteArray.empty, .string ByteArray.empty, .string ByteArray.empty, .bool false, .int .i64 0, .int .i64 0, .bool false, .int .i64 0, .int .i64 0, .int .i64 0, .int .i64 0]) ?hx ?hy 27 _ BKq8.out ?hi ?hold ?h1 ?_; (case hg => rfl); (case ho => rfl); (case hN => rfl); (case hx => rfl); (case hy => rfl); (case hi => exact isz27); (case hold => rfl); (case h1 => first | rfl | exact one27 _ | simp [Value.oneCell']); intro w5 hw; have HB5 := Aside0.mk (show Below w.heap.size w w5 from by rw [hw]; exact below_setRow HB4.out HQq8.out _); have BKq8 := Aside0.mk (show w5.heap[q8]? = some (.cells (#[.int .i64 0, .string ByteArray.empty, .string ByteArray.empty, .string ByteArray.empty, .bool false, .int .i64 0, .int .i64 0, .bool false, .int .i64 0, .int .i64 0, .int .i64 0, .int .i64 0]) 27 (0, 0)) from by rw [hw]; exact setRow_heap _ _ _ _ _ _ BKq8.out); clear hw))
      (try simp only [Exit.inBlock, Exit.then])
      refine bodyPost_ret (results_c3 Tryd.results39 _ _ q8 27 _ (0, 0) _ rfl BKq8.out Tryd.underlying27 rfl isz27) rfl ?_
      exact ⟨rfl, HB5.out⟩
  · rw [if_neg hf0]
    have hcb : (f == 0) = false := by rw [beq_eq_false_iff_ne]; exact hf0
    have hcb2 : (f != 0) = true := by rw [bne_iff_ne]; exact hf0
    clear hf0
    go_enter Tryd.func39, Tryd.ntmps39
    go_wp2_with (first | ((with_reducible refine gate_dst (N := 8) rfl ?_); refine box_event ?hg (N := 8) ?hd (cs := #[.int .i64 0, .string ByteArray.empty, .string ByteArray.empty, .string ByteArray.empty, .bool false, .int .i64 0, .int .i64 0, .bool false, .int .i64 0, .int .i64 0, .int .i64 0, .int .i64 0]) (t := 27) ?hr ?_; (case hd => rfl); (case hg => rfl); (case hr => first | (go_simp; done) | (go_simp; rfl)); intro q8 hq w1 hbox hb; have BKq8 := Aside0.mk hbox; have HQq8 := Aside0.mk (show w.heap.size ≤ q8 from by rw [hq]; exact Nat.le_refl _); have HB1 := Aside0.mk hb; clear hbox hb hq))
    refine (FY.out w1 HB1.out).mono ?_
    rintro e w2 ⟨rfl, rfl⟩
    go_wp2_with (fail)
    refine (AG.out w2 HB1.out).mono ?_
    rintro e w2' ⟨rfl, hb⟩
    have HB2 := Aside0.mk (HB1.out.trans (hb.mono HB1.out.size))
    have BKq8 := Aside0.mk (blk_below BKq8.out hb)
    have c15 : w2'.cell? ⟨P, 15, none⟩ = some (.pointer (some ⟨G, 0, none⟩)) := CG.out w2' HB2.out
    clear hb
    go_wp2_with (fail)
    refine (IWE.out w2' HB2.out).mono ?_
    rintro e w3 ⟨rfl, m3, rfl⟩
    have HB3 := Aside0.mk (pw_below_drewN HB2.out m3)
    have BKq8 := Aside0.mk (blk_drewN BKq8.out m3)
    clear c15
    have c15 : (w2'.drewN m3).cell? ⟨P, 15, none⟩ = some (.pointer (some ⟨G, 0, none⟩)) := CG.out _ HB3.out
    obtain ⟨w3, hw3⟩ : ∃ W, w2'.drewN m3 = W := ⟨_, rfl⟩
    rw [hw3] at HB3 BKq8 c15 ⊢
    clear hw3
    go_wp2_with (first | ((with_reducible refine gate_store (t := 27) (p := 8) rfl ?_); refine store_rowE ?hg 27 (.tmp 8) (.tmp 44) ?ho ?hN q8 (#[.int .i64 0, .string ByteArray.empty, .string ByteArray.empty, .string ByteArray.empty, .bool false, .int .i64 0, .int .i64 0, .bool false, .int .i64 0, .int .i64 0, .int .i64 0, .int .i64 0]) ?hx ?hy 27 _ BKq8.out ?hi ?hold ?h1 ?_; (case hg => rfl); (case ho => rfl); (case hN => rfl); (case hx => rfl); (case hy => rfl); (case hi => exact isz27); (case hold => rfl); (case h1 => first | rfl | exact one27 _ | simp [Value.oneCell']); intro w4 hw; have HB4 := Aside0.mk (show Below w.heap.size w w4 from by rw [hw]; exact below_setRow HB3.out HQq8.out _); have BKq8 := Aside0.mk (show w4.heap[q8]? = some (.cells (#[.int .i64 0, .string ByteArray.empty, .string ByteArray.empty, .string ByteArray.empty, .bool false, .int .i64 0, .int .i64 0, .bool false, .int .i64 0, .int .i64 0, .int .i64 0, .int .i64 0]) 27 (0, 0)) from by rw [hw]; exact setRow_heap _ _ _ _ _ _ BKq8.out); clear hw))
    (try simp only [Exit.inBlock, Exit.then])
    refine bodyPost_ret (results_c3 Tryd.results39 _ _ q8 27 _ (0, 0) _ rfl BKq8.out Tryd.underlying27 rfl isz27) rfl ?_
    exact ⟨rfl, HB4.out⟩
theorem rlook_call {w : World} {base q k : Nat} {es : List En} (h : RefX w base q es) (hl : es.length ≤ 1000) (hk : k ≤ 200) (now spi low : Int) (hg : ∀ e ∈ es, Good k e) (h0 : -1000000000 ≤ now) (h1 : now ≤ 4000000000) :
    Calls Tryd.prog 39 #[.pointer (some ⟨q, 0, none⟩), .int .i64 now, .int .i64 spi, .int .i64 low] w (RfQ base q es (.tuple #[v27 (lookF es now spi low).1, .int .u64 (lookF es now spi low).2.1, .int .i64 (lookF es now spi low).2.2]) w) := by
  obtain ⟨v, ps, hp⟩ := h
  have ht : ∀ e ∈ es, Timed e now := fun e he => (hg e he).timed h0 h1
  by_cases hf : findI es spi false < es.length
  · by_cases ha : ageE (es.getD (findI es spi false) en0) now = 2
    · unfold lookF
      rw [if_pos hf, if_pos ha]
      refine (rlook_hard (P := (ps.getD (findI es spi false) pl0).p) now spi low ⟨fun W hb => ?_⟩ ⟨fun W hb => ?_⟩).mono fun e w' ⟨he, hb⟩ => ⟨he, ⟨_, _, hp.below hb⟩, .of_below hb⟩
      · have := rfind_call (hp.below hb) hl spi false
        unfold fptr at this
        rw [if_pos hf] at this
        exact this
      · have := eage_walk ((hp.below hb).at _ hf).blk now (ht _ (getD_mem hf))
        rw [ha] at this
        exact this
    · exact (rlook_yes hp hl hk now spi low hf (hg _ (getD_mem hf)) (ht _ (getD_mem hf)) ha).mono fun e w' ⟨he, hb⟩ => ⟨he, ⟨_, _, hp.below hb⟩, .of_below hb⟩
  · unfold lookF
    rw [if_neg hf]
    refine (rlook_none now spi low ⟨fun W hb => ?_⟩).mono fun e w' ⟨he, hb⟩ => ⟨he, ⟨_, _, hp.below hb⟩, .of_below hb⟩
    have := rfind_call (hp.below hb) hl spi false
    unfold fptr at this
    rw [if_neg hf] at this
    exact this
end Go.Proofs.YtkmnpnbfeiobiaaDoor.Sd
