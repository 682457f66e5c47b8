/- The program's associations: New, Age, Pick, List. -/
import Derived.Test.YtkmnpnbfeiobiaaDoorSdG
namespace Go.Proofs.YtkmnpnbfeiobiaaDoor.Sd
open Go.RowKit Go.Proofs.YtkmnpnbfeiobiaaDoorW.PrintWords Go.Proofs.YtkmnpnbfeiobiaaDoorW.PrintLast Go.Proofs.YtkmnpnbfeiobiaaDoorW.PrintMore Go.Proofs.YtkmnpnbfeiobiaaDoor.QSa
open Go.Proofs.YtkmnpnbfeiobiaaDoor
set_option linter.unusedVariables false
set_option linter.unusedSimpArgs false
/-- The program's associations in memory. -/
def SadX (w : World) (base q : Nat) (es : List En) : Prop := ∃ v ps, SadP w base q v ps es
theorem SadX.below {w w' : World} {base q : Nat} {es : List En} (h : SadX w base q es) (hb : Below w.heap.size w w') : SadX w' base q es := by
  obtain ⟨v, ps, h⟩ := h
  exact ⟨v, ps, h.below hb⟩
theorem SadX.other {w w' : World} {base b' q : Nat} {es : List En} (h : SadX w base q es) (ht : Turn TR b' w w') : SadX w' base q es := by
  obtain ⟨v, ps, h⟩ := h
  exact ⟨v, ps, Tab.other h WnPg_ok ht TP_TR⟩
theorem SadX.base_le {w : World} {base q : Nat} {es : List En} (h : SadX w base q es) : base ≤ w.heap.size := by
  obtain ⟨v, ps, h⟩ := h
  exact h.base_le
/-- What a call leaves: its answer, the associations, what may have turned. -/
def PgQ (base q : Nat) (es' : List En) (r : Value) (w : World) (e : Ending) (w' : World) : Prop := e = .returned r ∧ SadX w' base q es' ∧ Turn TP base w w'
theorem getD_mem {es : List En} {i : Nat} (h : i < es.length) : es.getD i en0 ∈ es := by
  rw [List.getD_eq_getElem?_getD, List.getElem?_eq_getElem h]
  exact List.getElem_mem h
set_option maxHeartbeats 1600000 in
theorem new_call (w : World) (base : Nat) (hb : base ≤ w.heap.size) : Calls Tryd.prog 8 #[] w fun e w' => (∃ q, e = .returned (.pointer (some ⟨q, 0, none⟩)) ∧ w.heap.size ≤ q ∧ SadX w' base q []) ∧ Below w.heap.size w w' := by
  go_enter Tryd.func8, Tryd.ntmps8
  go_wp2
  go_ret
  exact ⟨⟨_, rfl, Nat.le_refl _, _, [], Tab.empty (blk_new w _) hb⟩, below_alloc (Below.refl _ _) _⟩
/-- The calls' answers. -/
def ageF (es : List En) (now spi : Int) (out : Bool) : Int × Int := if findI es spi out < es.length then (ageE (es.getD (findI es spi out) en0) now, 0) else (0, 6)
set_option maxHeartbeats 1600000 in
set_option maxRecDepth 100000 in
theorem age_nil (w : World) (hL : Laid w) (now spi : Int) (out : Bool) : Calls Tryd.prog 17 #[.pointer none, .int .i64 now, .int .i64 spi, .bool out] w fun e w' => e = .returned (.tuple #[.int .i64 0, .int .i64 3]) ∧ Below w.heap.size w w' := by
  have FN := Aside0.mk (find_nil w spi out)
  have HL := Aside0.mk fun (W : World) (hb : Below w.heap.size w W) => hL.below hL.pos hb
  clear hL
  go_enter Tryd.func17, Tryd.ntmps17
  go_wp2_with (fail)
  refine FN.out.mono ?_
  rintro e w1 ⟨⟨v, rfl, hv⟩, hb⟩
  have NW := Aside0.mk (number_walk (HL.out w1 hb) hv)
  obtain ⟨k, s, rfl, _⟩ := hv
  have HB := Aside0.mk hb
  clear hb
  go_wp2_with (fail)
  refine NW.out.mono ?_
  rintro e w2 ⟨rfl, hb⟩
  have HB2 := Aside0.mk (HB.out.trans (hb.mono HB.out.size))
  clear hb
  go_wp2_with (fail)
  go_ret2
  exact ⟨rfl, HB2.out⟩
set_option maxHeartbeats 1600000 in
set_option maxRecDepth 100000 in
theorem age_call {w : World} {base q : Nat} {es : List En} (h : SadX w base q es) (hL : Laid w) (hl : es.length ≤ 1000) (now spi : Int) (out : Bool) (ht : ∀ e ∈ es, Timed e now) :
    Calls Tryd.prog 17 #[.pointer (some ⟨q, 0, none⟩), .int .i64 now, .int .i64 spi, .bool out] w (PgQ base q es (.tuple #[.int .i64 (ageF es now spi out).1, .int .i64 (ageF es now spi out).2]) w) := by
  obtain ⟨v, ps, hp⟩ := h
  have HP := Aside0.mk fun (W : World) (hb : Below w.heap.size w W) => hp.below hb
  have HL := Aside0.mk fun (W : World) (hb : Below w.heap.size w W) => hL.below hL.pos hb
  by_cases hf : findI es spi out < es.length
  · have FY := Aside0.mk (find_yes hp hl spi out hf)
    have AG := Aside0.mk fun (W : World) (hb : Below w.heap.size w W) => age_walk (blk_below (hp.at _ hf).blk hb) now (ht _ (getD_mem hf))
    unfold ageF
    rw [if_pos hf]
    obtain ⟨P, hP⟩ : ∃ P, (ps.getD (findI es spi out) pl0).p = P := ⟨_, rfl⟩
    obtain ⟨a, ha⟩ : ∃ a, ageE (es.getD (findI es spi out) en0) now = a := ⟨_, rfl⟩
    rw [hP] at FY AG
    rw [ha] at AG ⊢
    clear hp hL hf ht hP ha
    go_enter Tryd.func17, Tryd.ntmps17
    go_wp2_with (fail)
    refine FY.out.mono ?_
    rintro e w1 ⟨rfl, hb⟩
    have HB := Aside0.mk hb
    clear hb
    go_wp2_with (fail)
    refine (AG.out w1 HB.out).mono ?_
    rintro e w2 ⟨rfl, hb⟩
    have HB2 := Aside0.mk (HB.out.trans (hb.mono HB.out.size))
    clear hb
    go_wp2_with (fail)
    go_ret2
    exact ⟨rfl, ⟨_, _, HP.out _ HB2.out⟩, .of_below HB2.out⟩
  · have FN := Aside0.mk (find_no hp hl spi out hf)
    unfold ageF
    rw [if_neg hf]
    clear hp hL hf ht
    go_enter Tryd.func17, Tryd.ntmps17
    go_wp2_with (fail)
    refine FN.out.mono ?_
    rintro e w1 ⟨⟨v, rfl, hv⟩, hb⟩
    have NW := Aside0.mk (number_walk (HL.out w1 hb) hv)
    obtain ⟨k, s, rfl, _⟩ := hv
    have HB := Aside0.mk hb
    clear hb
    go_wp2_with (fail)
    refine NW.out.mono ?_
    rintro e w2 ⟨rfl, hb⟩
    have HB2 := Aside0.mk (HB.out.trans (hb.mono HB.out.size))
    clear hb
    go_wp2_with (fail)
    go_ret2
    exact ⟨rfl, ⟨_, _, HP.out _ HB2.out⟩, .of_below HB2.out⟩
/-- Which one sends by a rule; o: the last one that is old. -/
def pickL (now rule : Int) : List En → Option Int → Int × Int
  | [], none => (0, 161)
  | [], some s => (s, 0)
  | e :: l, o => if e.life.f2 = true then (if e.life.f1 = rule then (if ageE e now = 0 then (e.life.f0.f0, 0) else if ageE e now = 1 then pickL now rule l (some e.life.f0.f0) else pickL now rule l o) else pickL now rule l o) else pickL now rule l o
def pickF (es : List En) (now rule : Int) : Int × Int := pickL now rule es none
set_option maxHeartbeats 1600000 in
theorem pick_nil (w : World) (now rule : Int) : Calls Tryd.prog 11 #[.pointer none, .int .i64 now, .int .i64 rule] w fun e w' => e = .returned (.tuple #[.int .i64 0, .int .i64 3]) ∧ Below w.heap.size w w' := by
  go_enter Tryd.func11, Tryd.ntmps11
  go_wp2
  go_ret2
  exact ⟨rfl, Below.refl _ _⟩
/-- The old one, as the program keeps it. -/
def OldP (ps : List Pl) (es : List En) (n : Nat) (u : Value) (o : Option Int) : Prop := (u = .pointer none ∧ o = none) ∨ ∃ k, k < n ∧ u = .pointer (some ⟨(ps.getD k pl0).p, 0, none⟩) ∧ o = some (es.getD k en0).life.f0.f0
set_option maxHeartbeats 3200000 in
set_option maxRecDepth 100000 in
theorem pick_call {w : World} {base q : Nat} {es : List En} (h : SadX w base q es) (hl : es.length ≤ 1000) (now rule : Int) (ht : ∀ e ∈ es, Timed e now) :
    Calls Tryd.prog 11 #[.pointer (some ⟨q, 0, none⟩), .int .i64 now, .int .i64 rule] w (PgQ base q es (.tuple #[.int .i64 (pickF es now rule).1, .int .i64 (pickF es now rule).2]) w) := by
  obtain ⟨v, ps, hp⟩ := h
  obtain ⟨A, c, rfl, hlc⟩ := hp.slice
  have HP := Aside0.mk fun (W : World) (hb : Below w.heap.size w W) => hp.below hb
  have HA := Aside0.mk fun (i : Nat) (hi : i < es.length) (W : World) (hb : Below w.heap.size w W) => (hp.below hb).at i hi
  have AG := Aside0.mk fun (i : Nat) (hi : i < es.length) (W : World) (hb : Below w.heap.size w W) => age_walk (blk_below (hp.at i hi).blk hb) now (ht _ (getD_mem hi))
  have HT := Aside0.mk fun (W : World) (hb : Below w.heap.size w W) => (hp.below hb).ptrs
  have HB0 := Aside0.mk (Below.refl w.heap.size w)
  have c0 : w.cell? ⟨q, 0, none⟩ = some (.slice A es.length c) := (blk_cell hp.blk 0).trans rfl
  have HD := Aside0.mk (fun (i : Nat) (hi : i < es.length) => (List.drop_eq_getElem_cons hi).trans (by rw [show es[i] = es.getD i en0 from by rw [List.getD_eq_getElem?_getD, List.getElem?_eq_getElem hi]; rfl]))
  have HE := Aside0.mk (List.drop_length (l := es))
  obtain ⟨ra, hra⟩ : ∃ r, pickF es now rule = r := ⟨_, rfl⟩
  have HR0 := Aside0.mk (show pickL now rule (es.drop 0) none = ra from hra)
  rw [hra]
  obtain ⟨n, hn⟩ : ∃ n, es.length = n := ⟨_, rfl⟩
  rw [hn] at hl hlc HA AG HT HD HE c0
  clear hp ht hra hn
  go_enter Tryd.func11, Tryd.ntmps11
  go_wp2_with (fail)
  go_loopw [18, 8] (fun iv uv wr => ∃ (i : Nat) (u : Value) (o : Option Int), i ≤ n ∧ iv = .int .i64 i ∧ u = uv ∧ Aside0 (OldP ps es n u o) ∧ Aside0 (pickL now rule (es.drop i) o = ra) ∧ Aside0 (Below w.heap.size w wr)) (fun iv _ _ => n - (intOf iv).toNat)
  case atStart => exact ⟨0, .pointer none, none, by omega, rfl, rfl, ⟨.inl ⟨rfl, rfl⟩⟩, HR0, HB0⟩
  case round =>
    clear HB0 HR0
    obtain ⟨i, uv, o, hin, rfl, rfl, HO, HR, HB⟩ := hrel
    by_cases hlt : i < n
    · have hltI : (i : Int) < (n : Int) := by omega
      have hltN : decide (i < n) = true := decide_eq_true hlt
      obtain ⟨b, hA, hc⟩ := HT.out _ HB.out i hlt
      subst hA
      dsimp only at hc
      have hd := HD.out i hlt
      have EN := HA.out i hlt _ HB.out
      have AGi := Aside0.mk (AG.out i hlt)
      have HPI := Aside0.mk (show OldP ps es n (.pointer (some ⟨(ps.getD i pl0).p, 0, none⟩)) (some (es.getD i en0).life.f0.f0) from .inr ⟨i, hlt, rfl, rfl⟩)
      obtain ⟨e, he⟩ : ∃ e, es.getD i en0 = e := ⟨_, rfl⟩
      obtain ⟨x, hx⟩ : ∃ x, ps.getD i pl0 = x := ⟨_, rfl⟩
      have HRr := HR.out
      rw [hd, he] at HRr
      rw [he, hx] at EN
      rw [he, hx] at AGi HPI
      rw [hx] at hc
      have k0 : wr.cell? ⟨x.p, 0, none⟩ = some (.int .i64 e.life.f0.f0) := (blk_cell EN.blk 0).trans rfl
      have k6 : wr.cell? ⟨x.p, 6, none⟩ = some (.int .i64 e.life.f1) := (blk_cell EN.blk 6).trans rfl
      have k7 : wr.cell? ⟨x.p, 7, none⟩ = some (.bool e.life.f2) := (blk_cell EN.blk 7).trans rfl
      obtain ⟨P, hP⟩ : ∃ P, x.p = P := ⟨_, rfl⟩
      have HEN := Aside0.mk fun (W : World) (hb : Below wr.heap.size wr W) => blk_below EN.blk hb
      rw [hP] at k0 k6 k7 hc AGi HPI HEN
      obtain ⟨a, ha⟩ : ∃ a, ageE e now = a := ⟨_, rfl⟩
      rw [ha] at AGi
      obtain ⟨s0, hs0⟩ : ∃ s, e.life.f0.f0 = s := ⟨_, rfl⟩
      obtain ⟨r0, hr0⟩ : ∃ s, e.life.f1 = s := ⟨_, rfl⟩
      obtain ⟨o0, ho0⟩ : ∃ s, e.life.f2 = s := ⟨_, rfl⟩
      rw [hs0] at k0 HPI
      rw [hr0] at k6
      rw [ho0] at k7
      simp only [pickL] at HRr
      rw [ha, hs0, hr0, ho0] at HRr
      have HRR := Aside0.mk HRr
      have HS0 := Aside0.mk hs0
      clear EN hd he hx hP ha hs0 hr0 ho0 HRr
      have hi1 : IntKind.i64.wrap ((i : Int) + 1) = ((i + 1 : Nat) : Int) := by rw [IntWalk.i64_in _ (by omega)]; omega
      cases o0
      · have HN := Aside0.mk (show pickL now rule (es.drop (i + 1)) o = ra from by have := HRR.out; rwa [if_neg (by simp)] at this)
        go_wp2_with (fail)
        go_roundw
        case rel => exact ⟨i + 1, _, o, by omega, by go_num, rfl, HO, HN, HB⟩
        case measure => simp [intOf]; omega
      by_cases hru : r0 = rule
      · subst hru
        by_cases ha0 : a = 0
        · subst ha0
          have HN := Aside0.mk (show (s0, (0 : Int)) = ra from by have := HRR.out; rwa [if_pos rfl, if_pos rfl, if_pos rfl] at this)
          go_wp2_with (fail)
          refine (AGi.out wr HB.out).mono ?_
          rintro e' w2 ⟨rfl, hb⟩
          have HB2 := Aside0.mk (HB.out.trans (hb.mono HB.out.size))
          have k0' : w2.cell? ⟨P, 0, none⟩ = some (.int .i64 e.life.f0.f0) := (blk_cell (HEN.out w2 hb) 0).trans rfl
          rw [HS0.out] at k0'
          clear hb
          go_wp2_with (fail)
          go_ret2
          refine ⟨?_, ⟨_, _, HP.out _ HB2.out⟩, .of_below HB2.out⟩
          rw [← HN.out]
          rfl
        · have ha0b : (a == 0) = false := by rw [beq_eq_false_iff_ne]; exact ha0
          by_cases ha1 : a = 1
          · subst ha1
            have HN := Aside0.mk (show pickL now r0 (es.drop (i + 1)) (some s0) = ra from by have := HRR.out; rwa [if_pos rfl, if_pos rfl, if_neg (by decide), if_pos rfl] at this)
            clear ha0 ha0b
            go_wp2_with (fail)
            refine (AGi.out wr HB.out).mono ?_
            rintro e' w2 ⟨rfl, hb⟩
            have HB2 := Aside0.mk (HB.out.trans (hb.mono HB.out.size))
            clear hb
            go_wp2_with (fail)
            go_roundw
            case rel => exact ⟨i + 1, _, _, by omega, by go_num, rfl, HPI, HN, HB2⟩
            case measure => simp [intOf]; omega
          · have ha1b : (a == 1) = false := by rw [beq_eq_false_iff_ne]; exact ha1
            have HN := Aside0.mk (show pickL now r0 (es.drop (i + 1)) o = ra from by have := HRR.out; rwa [if_pos rfl, if_pos rfl, if_neg ha0, if_neg ha1] at this)
            clear ha0 ha1
            go_wp2_with (fail)
            refine (AGi.out wr HB.out).mono ?_
            rintro e' w2 ⟨rfl, hb⟩
            have HB2 := Aside0.mk (HB.out.trans (hb.mono HB.out.size))
            clear hb
            go_wp2_with (fail)
            go_roundw
            case rel => exact ⟨i + 1, _, o, by omega, by go_num, rfl, HO, HN, HB2⟩
            case measure => simp [intOf]; omega
      · have hrub : (r0 != rule) = true := by rw [bne_iff_ne]; exact hru
        have HN := Aside0.mk (show pickL now rule (es.drop (i + 1)) o = ra from by have := HRR.out; rwa [if_pos rfl, if_neg hru] at this)
        clear hru
        go_wp2_with (fail)
        go_roundw
        case rel => exact ⟨i + 1, _, o, by omega, by go_num, rfl, HO, HN, HB⟩
        case measure => simp [intOf]; omega
    · have hltI : ¬ (i : Int) < (n : Int) := by omega
      have hltN : decide (i < n) = false := decide_eq_false hlt
      obtain rfl : n = i := by omega
      have HRr := HR.out
      rw [HE.out] at HRr
      rcases HO.out with ⟨rfl, rfl⟩ | ⟨k, hk, rfl, rfl⟩
      · have HN := Aside0.mk (show ((0 : Int), (161 : Int)) = ra from HRr)
        clear HRr
        go_wp2_with (fail)
        go_ret2
        refine ⟨?_, ⟨_, _, HP.out _ HB.out⟩, .of_below HB.out⟩
        rw [← HN.out]
        rfl
      · have k0 : wr.cell? ⟨(ps.getD k pl0).p, 0, none⟩ = some (.int .i64 (es.getD k en0).life.f0.f0) := (blk_cell (HA.out k hk _ HB.out).blk 0).trans rfl
        have HN := Aside0.mk (show ((es.getD k en0).life.f0.f0, (0 : Int)) = ra from HRr)
        obtain ⟨P, hP⟩ : ∃ P, (ps.getD k pl0).p = P := ⟨_, rfl⟩
        obtain ⟨s0, hs0⟩ : ∃ s, (es.getD k en0).life.f0.f0 = s := ⟨_, rfl⟩
        rw [hP, hs0] at k0
        rw [hs0] at HN
        rw [hP]
        clear HRr hP hs0 HO
        go_wp2_with (fail)
        go_ret2
        refine ⟨?_, ⟨_, _, HP.out _ HB.out⟩, .of_below HB.out⟩
        rw [← HN.out]
        rfl
end Go.Proofs.YtkmnpnbfeiobiaaDoor.Sd
