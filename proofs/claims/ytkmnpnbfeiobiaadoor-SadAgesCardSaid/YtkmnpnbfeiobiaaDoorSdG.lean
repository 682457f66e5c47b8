/- The closures of find and Remove; slices.IndexFunc; find; live. -/
import Derived.Test.YtkmnpnbfeiobiaaDoorSdF
import Derived.Deep.Slices
import Derived.LaidEqlPtr
namespace Go.Proofs.YtkmnpnbfeiobiaaDoor.Sd
open Go.RowKit Go.Proofs.YtkmnpnbfeiobiaaDoorW.PrintWords Go.Proofs.YtkmnpnbfeiobiaaDoorW.PrintLast Go.Proofs.YtkmnpnbfeiobiaaDoorW.PrintMore Go.Proofs.YtkmnpnbfeiobiaaDoor.QSa
open Go.Proofs.YtkmnpnbfeiobiaaDoor
set_option linter.unusedVariables false
set_option linter.unusedSimpArgs false
/-- Is an association one of that number and direction? -/
def hitB (spi : Int) (out : Bool) (e : En) : Bool := e.life.f0.f0 == spi && e.life.f2 == out
set_option maxHeartbeats 1600000 in
set_option maxRecDepth 100000 in
theorem hit_aux {w : World} {p b4 b5 : Nat} {CS : Array Value} {s0 spi : Int} {o0 out : Bool} (h : w.heap[p]? = some (.cells CS 71 (0, 0))) (h0 : CS[0]? = some (.int .i64 s0)) (h7 : CS[7]? = some (.bool o0)) (h4 : w.heap[b4]? = some (.cells #[.int .i64 spi] 3 (0, 0))) (h5 : w.heap[b5]? = some (.cells #[.bool out] 4 (0, 0))) :
    Calls Tryd.prog 42 #[.pointer (some ⟨p, 0, none⟩), .pointer (some ⟨b4, 0, none⟩), .pointer (some ⟨b5, 0, none⟩)] w fun e w' => e = .returned (.bool (s0 == spi && o0 == out)) ∧ ∃ m, w' = w.drewN m := by
  have k0 : w.cell? ⟨p, 0, none⟩ = some (.int .i64 s0) := (blk_cell h 0).trans h0
  have k7 : w.cell? ⟨p, 7, none⟩ = some (.bool o0) := (blk_cell h 7).trans h7
  have c4 : w.cell? ⟨b4, 0, none⟩ = some (.int .i64 spi) := (blk_cell h4 0).trans rfl
  have c5 : w.cell? ⟨b5, 0, none⟩ = some (.bool out) := (blk_cell h5 0).trans rfl
  clear h h0 h7 h4 h5
  cases hs : (s0 == spi)
  · go_enter Tryd.func42, Tryd.ntmps42
    go_wp2_with (fail)
    go_quiet (fail)
    go_wp2_with (fail)
    go_ret
    exact ⟨rfl, _, rfl⟩
  · go_enter Tryd.func42, Tryd.ntmps42
    go_wp2_with (fail)
    go_quiet (fail)
    go_wp2_with (fail)
    go_ret
    exact ⟨by simp, _, rfl⟩
theorem hit_walk {w : World} {p g b4 b5 : Nat} {e : En} {spi : Int} {out : Bool} (h : w.heap[p]? = some (.cells (encE e g).toArray 71 (0, 0))) (h4 : w.heap[b4]? = some (.cells #[.int .i64 spi] 3 (0, 0))) (h5 : w.heap[b5]? = some (.cells #[.bool out] 4 (0, 0))) :
    Calls Tryd.prog 42 #[.pointer (some ⟨p, 0, none⟩), .pointer (some ⟨b4, 0, none⟩), .pointer (some ⟨b5, 0, none⟩)] w fun e' w' => e' = .returned (.bool (hitB spi out e)) ∧ ∃ m, w' = w.drewN m :=
  hit_aux h rfl rfl h4 h5
theorem isz71 : (Tryd.prog.info? 71).map (·.size) = some 16 := by kernel_rfl
theorem eql_ptrs {W : World} {p x : Nat} {cp cx : Array Value} {tp tx : TypeId} (hp : W.heap[p]? = some (.cells cp tp (0, 0))) (hx : W.heap[x]? = some (.cells cx tx (0, 0))) :
    (binOp .eql 61 (.pointer (some ⟨p, 0, none⟩)) (.pointer (some ⟨x, 0, none⟩))).run Tryd.prog W = .ok (.bool (p == x)) W := by
  obtain ⟨j, hj, hjs⟩ := Option.map_eq_some_iff.1 isz71
  by_cases h : p = x
  · subst h
    simpa using run_eql_ptr_same (P := Tryd.prog) W ⟨p, 0, none⟩ Tryd.underlying61 hj
  · rw [beq_eq_false_iff_ne.2 h]
    exact run_eql_ptr_other (P := Tryd.prog) W Tryd.underlying61 hj (by rw [hjs]; decide) (fun e => h (by injection e)) hp hx
set_option maxHeartbeats 1600000 in
set_option maxRecDepth 100000 in
theorem same_walk {w : World} {p x b : Nat} {cp cx : Array Value} {tp tx : TypeId} (hp : w.heap[p]? = some (.cells cp tp (0, 0))) (hx : w.heap[x]? = some (.cells cx tx (0, 0))) (h : w.heap[b]? = some (.cells #[.pointer (some ⟨x, 0, none⟩)] 61 (0, 0))) :
    Calls Tryd.prog 30 #[.pointer (some ⟨p, 0, none⟩), .pointer (some ⟨b, 0, none⟩)] w fun e' w' => e' = .returned (.bool (p == x)) ∧ ∃ m, w' = w.drewN m := by
  have c : w.cell? ⟨b, 0, none⟩ = some (.pointer (some ⟨x, 0, none⟩)) := (blk_cell h 0).trans rfl
  have hq := eql_ptrs hp hx
  obtain ⟨r, hr⟩ : ∃ r, (p == x) = r := ⟨_, rfl⟩
  rw [hr] at hq ⊢
  clear h hp hx hr
  go_enter Tryd.func30, Tryd.ntmps30
  go_wp2_with (fail)
  go_ret
  exact ⟨rfl, 0, rfl⟩
/-- The first one of n that is hit, or -1. -/
def IdxOf (n : Nat) (hit : Nat → Bool) (r : Int) : Prop := (r = -1 ∧ ∀ j, j < n → hit j = false) ∨ ∃ i : Nat, i < n ∧ r = (i : Int) ∧ hit i = true ∧ ∀ j, j < i → hit j = false
def IdxQ (n : Nat) (hit : Nat → Bool) (w : World) (e : Ending) (w' : World) : Prop := (∃ r, e = .returned (.int .i64 r) ∧ IdxOf n hit r) ∧ Below w.heap.size w w'
/-- The pointers of a row, in memory. -/
def PtrAt (w : World) (A : Option Addr) (n : Nat) (p : Nat → Nat) : Prop := ∀ i, i < n → ∃ b, A = some ⟨b, 0, none⟩ ∧ w.cell? ⟨b, i, none⟩ = some (.pointer (some ⟨p i, 0, none⟩))
set_option maxHeartbeats 1600000 in
set_option maxRecDepth 100000 in
theorem index42 {w : World} {A : Option Addr} {n c : Nat} {p : Nat → Nat} {hit : Nat → Bool} {b4 b5 : Nat} (hn : n ≤ 1000) (hp : ∀ W, Below w.heap.size w W → PtrAt W A n p) (hh : ∀ i W, i < n → Below w.heap.size w W → Calls Tryd.prog 42 #[.pointer (some ⟨p i, 0, none⟩), .pointer (some ⟨b4, 0, none⟩), .pointer (some ⟨b5, 0, none⟩)] W fun e W' => e = .returned (.bool (hit i)) ∧ ∃ m, W' = W.drewN m) :
    Calls Tryd.prog 41 #[.slice A n c, .func (.func 42) #[] #[.pointer (some ⟨b4, 0, none⟩), .pointer (some ⟨b5, 0, none⟩)]] w (IdxQ n hit w) := by
  have HP := Aside0.mk hp
  have HH := Aside0.mk hh
  have HB := Aside0.mk (Below.refl w.heap.size w)
  clear hp hh
  go_enter Tryd.func41, Tryd.ntmps41
  go_wp2_with (fail)
  go_loopw [8] (fun iv wr => ∃ i : Nat, i ≤ n ∧ iv = .int .i64 i ∧ Aside0 (∀ j, j < i → hit j = false) ∧ Aside0 (Below w.heap.size w wr)) (fun iv _ => n - (intOf iv).toNat)
  case atStart => exact ⟨0, by omega, rfl, ⟨fun j hj => by omega⟩, HB⟩
  case round =>
    clear HB
    obtain ⟨i, hin, rfl, HI, HB⟩ := hrel
    by_cases hlt : i < n
    · have hd : decide ((i : Int) < (n : Int)) = true := decide_eq_true (by omega)
      have hd' : decide (i < n) = true := decide_eq_true hlt
      obtain ⟨b, hA, hc⟩ := HP.out _ HB.out i hlt
      subst hA
      obtain ⟨x, hx⟩ : ∃ x, p i = x := ⟨_, rfl⟩
      have HX := Aside0.mk fun W hb => HH.out i W hlt hb
      rw [hx] at hc HX
      clear hx
      cases hhb : hit i
      · rw [hhb] at HX
        have HHB := Aside0.mk hhb
        clear hhb
        have hi1 : IntKind.i64.wrap ((i : Int) + 1) = ((i + 1 : Nat) : Int) := by rw [IntWalk.i64_in _ (by omega)]; omega
        go_wp2_with (fail)
        refine (HX.out wr HB.out).mono ?_
        rintro e w2 ⟨rfl, m, rfl⟩
        go_wp2_with (fail)
        go_roundw
        case rel =>
          refine ⟨i + 1, by omega, by go_num, ⟨fun j hj => ?_⟩, ⟨pw_below_drewN HB.out m⟩⟩
          rcases Nat.lt_succ_iff_lt_or_eq.1 hj with h | rfl
          · exact HI.out j h
          · exact HHB.out
        case measure => simp [intOf]; omega
      · rw [hhb] at HX
        have HHB := Aside0.mk hhb
        clear hhb
        go_wp2_with (fail)
        refine (HX.out wr HB.out).mono ?_
        rintro e w2 ⟨rfl, m, rfl⟩
        go_wp2_with (fail)
        go_ret
        exact ⟨⟨_, rfl, .inr ⟨i, hlt, rfl, HHB.out, HI.out⟩⟩, pw_below_drewN HB.out m⟩
    · have hd : decide ((i : Int) < (n : Int)) = false := decide_eq_false (by omega)
      have hd' : decide (i < n) = false := decide_eq_false hlt
      go_wp2_with (fail)
      go_ret
      exact ⟨⟨_, rfl, .inl ⟨rfl, fun j hj => HI.out j (by omega)⟩⟩, HB.out⟩
set_option maxHeartbeats 1600000 in
set_option maxRecDepth 100000 in
theorem index30 {w : World} {A : Option Addr} {n c : Nat} {p : Nat → Nat} {hit : Nat → Bool} {b4 : Nat} (hn : n ≤ 1000) (hp : ∀ W, Below w.heap.size w W → PtrAt W A n p) (hh : ∀ i W, i < n → Below w.heap.size w W → Calls Tryd.prog 30 #[.pointer (some ⟨p i, 0, none⟩), .pointer (some ⟨b4, 0, none⟩)] W fun e W' => e = .returned (.bool (hit i)) ∧ ∃ m, W' = W.drewN m) :
    Calls Tryd.prog 41 #[.slice A n c, .func (.func 30) #[] #[.pointer (some ⟨b4, 0, none⟩)]] w (IdxQ n hit w) := by
  have HP := Aside0.mk hp
  have HH := Aside0.mk hh
  have HB := Aside0.mk (Below.refl w.heap.size w)
  clear hp hh
  go_enter Tryd.func41, Tryd.ntmps41
  go_wp2_with (fail)
  go_loopw [8] (fun iv wr => ∃ i : Nat, i ≤ n ∧ iv = .int .i64 i ∧ Aside0 (∀ j, j < i → hit j = false) ∧ Aside0 (Below w.heap.size w wr)) (fun iv _ => n - (intOf iv).toNat)
  case atStart => exact ⟨0, by omega, rfl, ⟨fun j hj => by omega⟩, HB⟩
  case round =>
    clear HB
    obtain ⟨i, hin, rfl, HI, HB⟩ := hrel
    by_cases hlt : i < n
    · have hd : decide ((i : Int) < (n : Int)) = true := decide_eq_true (by omega)
      have hd' : decide (i < n) = true := decide_eq_true hlt
      obtain ⟨b, hA, hc⟩ := HP.out _ HB.out i hlt
      subst hA
      obtain ⟨x, hx⟩ : ∃ x, p i = x := ⟨_, rfl⟩
      have HX := Aside0.mk fun W hb => HH.out i W hlt hb
      rw [hx] at hc HX
      clear hx
      cases hhb : hit i
      · rw [hhb] at HX
        have HHB := Aside0.mk hhb
        clear hhb
        have hi1 : IntKind.i64.wrap ((i : Int) + 1) = ((i + 1 : Nat) : Int) := by rw [IntWalk.i64_in _ (by omega)]; omega
        go_wp2_with (fail)
        refine (HX.out wr HB.out).mono ?_
        rintro e w2 ⟨rfl, m, rfl⟩
        go_wp2_with (fail)
        go_roundw
        case rel =>
          refine ⟨i + 1, by omega, by go_num, ⟨fun j hj => ?_⟩, ⟨pw_below_drewN HB.out m⟩⟩
          rcases Nat.lt_succ_iff_lt_or_eq.1 hj with h | rfl
          · exact HI.out j h
          · exact HHB.out
        case measure => simp [intOf]; omega
      · rw [hhb] at HX
        have HHB := Aside0.mk hhb
        clear hhb
        go_wp2_with (fail)
        refine (HX.out wr HB.out).mono ?_
        rintro e w2 ⟨rfl, m, rfl⟩
        go_wp2_with (fail)
        go_ret
        exact ⟨⟨_, rfl, .inr ⟨i, hlt, rfl, HHB.out, HI.out⟩⟩, pw_below_drewN HB.out m⟩
    · have hd : decide ((i : Int) < (n : Int)) = false := decide_eq_false (by omega)
      have hd' : decide (i < n) = false := decide_eq_false hlt
      go_wp2_with (fail)
      go_ret
      exact ⟨⟨_, rfl, .inl ⟨rfl, fun j hj => HI.out j (by omega)⟩⟩, HB.out⟩
/-- Where an association of that number and direction lies in the list. -/
def findI (es : List En) (spi : Int) (out : Bool) : Nat := es.findIdx (hitB spi out)
theorem findI_of {es : List En} {spi : Int} {out : Bool} {r : Int} (h : IdxOf es.length (fun i => hitB spi out (es.getD i en0)) r) : (r = -1 ∧ ¬ findI es spi out < es.length) ∨ (r = (findI es spi out : Int) ∧ findI es spi out < es.length) := by
  rcases h with ⟨rfl, h⟩ | ⟨i, hi, rfl, h1, h2⟩
  · refine .inl ⟨rfl, fun hlt => ?_⟩
    have h3 := List.findIdx_getElem (p := hitB spi out) (w := hlt)
    have h4 : hitB spi out (es.getD (findI es spi out) en0) = false := h _ hlt
    rw [List.getD_eq_getElem?_getD, List.getElem?_eq_getElem hlt] at h4
    simp only [Option.getD_some, findI] at h4
    cases h4.symm.trans h3
  · have e : findI es spi out = i := by
      unfold findI
      rw [List.findIdx_eq hi]
      refine ⟨?_, fun j hj => ?_⟩
      · have h1 : hitB spi out (es.getD i en0) = true := h1
        rw [List.getD_eq_getElem?_getD, List.getElem?_eq_getElem hi] at h1
        exact h1
      · have h3 : hitB spi out (es.getD j en0) = false := h2 j hj
        rw [List.getD_eq_getElem?_getD, List.getElem?_eq_getElem (Nat.lt_trans hj hi)] at h3
        exact h3
    rw [e]
    exact .inr ⟨rfl, hi⟩
def SadP (w : World) (base q : Nat) (v : Value) (ps : List Pl) (es : List En) : Prop := Tab TP WnPg w base q v ps es
theorem SadP.below {w w' : World} {base q : Nat} {v : Value} {ps : List Pl} {es : List En} (h : SadP w base q v ps es) (hb : Below w.heap.size w w') : SadP w' base q v ps es := Tab.below h WnPg_ok hb
theorem SadP.ptrs {w : World} {base q c : Nat} {A : Option Addr} {ps : List Pl} {es : List En} (h : SadP w base q (.slice A es.length c) ps es) : PtrAt w A es.length fun i => (ps.getD i pl0).p := fun i hi => by
  obtain ⟨b, c', hv, hc⟩ := h.cell i hi
  injection hv with hv _ _
  exact ⟨b, hv, hc⟩
/-- What find leaves: the association, or an error. -/
def FindYes (p : Nat) (w : World) (e : Ending) (w' : World) : Prop := e = .returned (.tuple #[.pointer (some ⟨p, 0, none⟩), .nilIface]) ∧ Below w.heap.size w w'
def FindNo (c : Int) (w : World) (e : Ending) (w' : World) : Prop := (∃ v, e = .returned (.tuple #[.pointer none, v]) ∧ LostAt w' v c) ∧ Below w.heap.size w w'
set_option maxHeartbeats 1600000 in
set_option maxRecDepth 100000 in
theorem find_yes {w : World} {base q : Nat} {v : Value} {ps : List Pl} {es : List En} (h : SadP w base q v ps es) (hl : es.length ≤ 1000) (spi : Int) (out : Bool) (hf : findI es spi out < es.length) :
    Calls Tryd.prog 23 #[.pointer (some ⟨q, 0, none⟩), .int .i64 spi, .bool out] w (FindYes (ps.getD (findI es spi out) pl0).p w) := by
  obtain ⟨A, c, rfl, hlc⟩ := h.slice
  have HT := Aside0.mk fun (W : World) (hb : Below w.heap.size w W) => h.below hb
  have HF := Aside0.mk fun r => @findI_of es spi out r
  have IX := Aside0.mk fun (W : World) (b4 b5 : Nat) (hb : Below w.heap.size w W) (h4 : W.heap[b4]? = some (.cells #[.int .i64 spi] 3 (0, 0))) (h5 : W.heap[b5]? = some (.cells #[.bool out] 4 (0, 0))) =>
    index42 (w := W) (A := A) (n := es.length) (c := c) (p := fun i => (ps.getD i pl0).p) (hit := fun i => hitB spi out (es.getD i en0)) (b4 := b4) (b5 := b5) hl (fun W2 hb2 => ((h.below hb).below hb2).ptrs) (fun i W2 hi hb2 => hit_walk (((h.below hb).below hb2).at i hi).blk (blk_below h4 hb2) (blk_below h5 hb2))
  have PT := Aside0.mk fun (W : World) (hb : Below w.heap.size w W) => (h.below hb).ptrs
  obtain ⟨F, hF⟩ : ∃ F, findI es spi out = F := ⟨_, rfl⟩
  obtain ⟨n, hn⟩ : ∃ n, es.length = n := ⟨_, rfl⟩
  rw [hF, hn] at HF hf
  (try rw [hF])
  rw [hn] at HT IX PT hl hlc
  obtain ⟨P, hP⟩ : ∃ P, (ps.getD F pl0).p = P := ⟨_, rfl⟩
  rw [hP]
  have HPP := Aside0.mk hP
  clear h hF hn hP
  go_enter Tryd.func23, Tryd.ntmps23
  go_wp2_with (first | ((with_reducible refine gate_dst (N := 4) rfl ?_); refine box_event ?hg (N := 4) ?hd (cs := #[.int .i64 spi]) (t := 3) ?hr ?_; (case hd => rfl); (case hg => rfl); (case hr => first | (go_simp; done) | (go_simp; rfl)); intro q4 hq w1 hbox hb; have BKq4 := Aside0.mk hbox; have HQq4 := Aside0.mk (show w.heap.size ≤ q4 from by rw [hq]; exact Nat.le_refl _); have HB1 := Aside0.mk hb; clear hbox hb hq) | ((with_reducible refine gate_dst (N := 5) rfl ?_); refine box_event ?hg (N := 5) ?hd (cs := #[.bool out]) (t := 4) ?hr ?_; (case hd => rfl); (case hg => rfl); (case hr => first | (go_simp; done) | (go_simp; rfl)); intro q5 hq w2 hbox hb; have HNq4q5 := Aside0.mk (show q4 ≠ q5 from by have := blk_lt BKq4.out; omega); have BKq4 := Aside0.mk (blk_below BKq4.out hb); have BKq5 := Aside0.mk hbox; have HQq5 := Aside0.mk (show w.heap.size ≤ q5 from by rw [hq]; exact HB1.out.size); have HB2 := Aside0.mk (HB1.out.trans (hb.mono HB1.out.size)); clear hbox hb hq; have c0 : w2.cell? ⟨q, 0, none⟩ = some (.slice A n c) := (blk_cell (HT.out w2 HB2.out).blk 0).trans rfl))
  refine (IX.out w2 q4 q5 HB2.out BKq4.out BKq5.out).mono ?_
  rintro e w3 ⟨⟨r, rfl, hr⟩, hb⟩
  have HB3 := Aside0.mk (HB2.out.trans (hb.mono HB2.out.size))
  have BKq4 := Aside0.mk (blk_below BKq4.out hb)
  have hr2 := HF.out r hr
  clear hr hb
  obtain rfl : r = (F : Int) := by rcases hr2 with ⟨_, h⟩ | ⟨h, _⟩; exact absurd hf h; exact h
  clear hr2
  have hltI : (F : Int) < (n : Int) := by omega
  have h0 : decide ((F : Int) < 0) = false := decide_eq_false (by omega)
  have h0N : decide (F < 0) = false := decide_eq_false (by omega)
  obtain ⟨b, hA, hc⟩ := PT.out w3 HB3.out F hf
  subst hA
  dsimp only at hc
  rw [HPP.out] at hc
  have c0 : w3.cell? ⟨q, 0, none⟩ = some (.slice (some ⟨b, 0, none⟩) n c) := (blk_cell (HT.out w3 HB3.out).blk 0).trans rfl
  clear hf
  go_wp2_with (fail)
  go_ret2
  exact ⟨rfl, HB3.out⟩
set_option maxHeartbeats 1600000 in
set_option maxRecDepth 100000 in
theorem find_no {w : World} {base q : Nat} {v : Value} {ps : List Pl} {es : List En} (h : SadP w base q v ps es) (hl : es.length ≤ 1000) (spi : Int) (out : Bool) (hf : ¬ findI es spi out < es.length) :
    Calls Tryd.prog 23 #[.pointer (some ⟨q, 0, none⟩), .int .i64 spi, .bool out] w (FindNo 6 w) := by
  obtain ⟨A, c, rfl, hlc⟩ := h.slice
  have HT := Aside0.mk fun (W : World) (hb : Below w.heap.size w W) => h.below hb
  have HF := Aside0.mk fun r => @findI_of es spi out r
  have IX := Aside0.mk fun (W : World) (b4 b5 : Nat) (hb : Below w.heap.size w W) (h4 : W.heap[b4]? = some (.cells #[.int .i64 spi] 3 (0, 0))) (h5 : W.heap[b5]? = some (.cells #[.bool out] 4 (0, 0))) =>
    index42 (w := W) (A := A) (n := es.length) (c := c) (p := fun i => (ps.getD i pl0).p) (hit := fun i => hitB spi out (es.getD i en0)) (b4 := b4) (b5 := b5) hl (fun W2 hb2 => ((h.below hb).below hb2).ptrs) (fun i W2 hi hb2 => hit_walk (((h.below hb).below hb2).at i hi).blk (blk_below h4 hb2) (blk_below h5 hb2))
  have PT := Aside0.mk fun (W : World) (hb : Below w.heap.size w W) => (h.below hb).ptrs
  obtain ⟨F, hF⟩ : ∃ F, findI es spi out = F := ⟨_, rfl⟩
  obtain ⟨n, hn⟩ : ∃ n, es.length = n := ⟨_, rfl⟩
  rw [hF, hn] at HF hf
  (try rw [hF])
  rw [hn] at HT IX PT hl hlc
  clear h hF hn
  go_enter Tryd.func23, Tryd.ntmps23
  go_wp2_with (first | ((with_reducible refine gate_dst (N := 4) rfl ?_); refine box_event ?hg (N := 4) ?hd (cs := #[.int .i64 spi]) (t := 3) ?hr ?_; (case hd => rfl); (case hg => rfl); (case hr => first | (go_simp; done) | (go_simp; rfl)); intro q4 hq w1 hbox hb; have BKq4 := Aside0.mk hbox; have HQq4 := Aside0.mk (show w.heap.size ≤ q4 from by rw [hq]; exact Nat.le_refl _); have HB1 := Aside0.mk hb; clear hbox hb hq) | ((with_reducible refine gate_dst (N := 5) rfl ?_); refine box_event ?hg (N := 5) ?hd (cs := #[.bool out]) (t := 4) ?hr ?_; (case hd => rfl); (case hg => rfl); (case hr => first | (go_simp; done) | (go_simp; rfl)); intro q5 hq w2 hbox hb; have HNq4q5 := Aside0.mk (show q4 ≠ q5 from by have := blk_lt BKq4.out; omega); have BKq4 := Aside0.mk (blk_below BKq4.out hb); have BKq5 := Aside0.mk hbox; have HQq5 := Aside0.mk (show w.heap.size ≤ q5 from by rw [hq]; exact HB1.out.size); have HB2 := Aside0.mk (HB1.out.trans (hb.mono HB1.out.size)); clear hbox hb hq; have c0 : w2.cell? ⟨q, 0, none⟩ = some (.slice A n c) := (blk_cell (HT.out w2 HB2.out).blk 0).trans rfl))
  refine (IX.out w2 q4 q5 HB2.out BKq4.out BKq5.out).mono ?_
  rintro e w3 ⟨⟨r, rfl, hr⟩, hb⟩
  have HB3 := Aside0.mk (HB2.out.trans (hb.mono HB2.out.size))
  have BKq4 := Aside0.mk (blk_below BKq4.out hb)
  have hr2 := HF.out r hr
  clear hr hb
  obtain rfl : r = -1 := by rcases hr2 with ⟨h, _⟩ | ⟨_, h⟩; exact h; exact absurd h hf
  clear hr2 hf
  go_wp2_with (fail)
  refine start_ (n := 6) (S := fun W => Below w3.heap.size w3 W) (ds := []) #[false, false, false, false, false, false] (by kernel_rfl) rfl rfl (below_drew (Below.refl w3.heap.size w3)) (fun hHeld => ?_)
  refine take_ (i := 0) (N := some 23) (v := ?_) (a' := ?_) #[true, false, false, false, false, false] rfl rfl (by kernel_rfl) (fun _ _ _ h => h) (Or.inl ⟨by rfl, ?_⟩) hHeld ?_ ?_
  rotate_left
  · intro w' s0
    have x0 : w'.cell? ⟨q4, 0, none⟩ = some (.int .i64 spi) := (blk_cell (blk_below BKq4.out s0) 0).trans rfl
    go_simp
    with_reducible rfl
  rotate_left
  · simp only [Act.put, List.setIfInBounds_toArray, List.set_cons_zero, List.set_cons_succ]
    rfl
  refine pure_ (i := 1) (N := some 24) (v := ?_) (a' := ?_) #[true, true, false, false, false, false] rfl rfl (by kernel_rfl) (fun _ _ _ h => h) (Or.inl ⟨by rfl, ?_⟩) ?_ ?_
  rotate_left
  · intro w'
    go_simp
    with_reducible rfl
  rotate_left
  · simp only [Act.put, List.setIfInBounds_toArray, List.set_cons_zero, List.set_cons_succ]
    rfl
  refine pure_ (i := 4) (N := some 6) (v := ?_) (a' := ?_) #[true, true, false, false, true, false] rfl rfl (by kernel_rfl) (fun _ _ _ h => h) (Or.inl ⟨by rfl, ?_⟩) ?_ ?_
  rotate_left
  · intro w'
    go_simp
    with_reducible rfl
  rotate_left
  · simp only [Act.put, List.setIfInBounds_toArray, List.set_cons_zero, List.set_cons_succ]
    rfl
  refine one_ (i := 2) (N := some 25) #[true, true, true, false, true, false] rfl rfl (by kernel_rfl) (by decide) (fun K hK => ?_)
  refine value_ (v := .pointer (some ⟨w3.heap.size, 0, none⟩)) (w1 := w3.drew.alloc (.cells #[.int .i64 spi, .int .i64 6] 86 (0, 0))) (by rfl) rfl ?_ ?_
  · first | (go_simp; done) | (go_simp; rfl)
  refine hK.out _ _ (below_alloc hHeld _) (fun hHeld => ?_)
  have BKn := Aside0.mk (show (w3.drew.alloc (.cells #[.int .i64 spi, .int .i64 6] 86 (0, 0))).heap[w3.heap.size]? = some (.cells #[.int .i64 spi, .int .i64 6] 86 (0, 0)) from blk_new w3.drew _)
  clear hK K
  refine norm_ (a' := ?_) ?_ ?_
  rotate_left
  · show Act.put _ (some 25) _ = _
    simp only [Act.put, List.setIfInBounds_toArray, List.set_cons_zero, List.set_cons_succ]
    rfl
  refine pure_ (i := 3) (N := some 26) (v := ?_) (a' := ?_) #[true, true, true, true, true, false] rfl rfl (by kernel_rfl) (fun _ _ _ h => h) (Or.inl ⟨by rfl, ?_⟩) ?_ ?_
  rotate_left
  · intro w'
    go_simp
    with_reducible rfl
  rotate_left
  · simp only [Act.put, List.setIfInBounds_toArray, List.set_cons_zero, List.set_cons_succ]
    rfl
  refine pure_ (i := 5) (N := some 7) (v := ?_) (a' := ?_) #[true, true, true, true, true, true] rfl rfl (by kernel_rfl) (fun _ _ _ h => h) (Or.inl ⟨by rfl, ?_⟩) ?_ ?_
  rotate_left
  · intro w'
    go_simp
    with_reducible rfl
  rotate_left
  · simp only [Act.put, List.setIfInBounds_toArray, List.set_cons_zero, List.set_cons_succ]
    rfl
  refine done_ (by kernel_rfl) ?_
  have HB5 := Aside0.mk (HB3.out.trans (hHeld.mono HB3.out.size))
  clear hHeld
  (try simp only [Exit.inBlock, Exit.then])
  go_wp2_with (fail)
  go_ret2
  exact ⟨⟨_, rfl, _, _, rfl, BKn.out⟩, HB5.out⟩
set_option maxHeartbeats 1600000 in
set_option maxRecDepth 100000 in
theorem find_nil (w : World) (spi : Int) (out : Bool) : Calls Tryd.prog 23 #[.pointer none, .int .i64 spi, .bool out] w (FindNo 3 w) := by
  go_enter Tryd.func23, Tryd.ntmps23
  go_wp2_with (first | ((with_reducible refine gate_dst (N := 4) rfl ?_); refine box_event ?hg (N := 4) ?hd (cs := #[.int .i64 spi]) (t := 3) ?hr ?_; (case hd => rfl); (case hg => rfl); (case hr => first | (go_simp; done) | (go_simp; rfl)); intro q4 hq w1 hbox hb; have BKq4 := Aside0.mk hbox; have HQq4 := Aside0.mk (show w.heap.size ≤ q4 from by rw [hq]; exact Nat.le_refl _); have HB1 := Aside0.mk hb; clear hbox hb hq) | ((with_reducible refine gate_dst (N := 5) rfl ?_); refine box_event ?hg (N := 5) ?hd (cs := #[.bool out]) (t := 4) ?hr ?_; (case hd => rfl); (case hg => rfl); (case hr => first | (go_simp; done) | (go_simp; rfl)); intro q5 hq w2 hbox hb; have HNq4q5 := Aside0.mk (show q4 ≠ q5 from by have := blk_lt BKq4.out; omega); have BKq4 := Aside0.mk (blk_below BKq4.out hb); have BKq5 := Aside0.mk hbox; have HQq5 := Aside0.mk (show w.heap.size ≤ q5 from by rw [hq]; exact HB1.out.size); have HB2 := Aside0.mk (HB1.out.trans (hb.mono HB1.out.size)); clear hbox hb hq))
  refine start_ (n := 6) (S := fun W => Below w2.heap.size w2 W) (ds := []) #[false, false, false, false, false, false] (by kernel_rfl) rfl rfl (below_drew (Below.refl w2.heap.size w2)) (fun hHeld => ?_)
  refine take_ (i := 0) (N := some 11) (v := ?_) (a' := ?_) #[true, false, false, false, false, false] rfl rfl (by kernel_rfl) (fun _ _ _ h => h) (Or.inl ⟨by rfl, ?_⟩) hHeld ?_ ?_
  rotate_left
  · intro w' s0
    have x0 : w'.cell? ⟨q4, 0, none⟩ = some (.int .i64 spi) := (blk_cell (blk_below BKq4.out s0) 0).trans rfl
    go_simp
    with_reducible rfl
  rotate_left
  · simp only [Act.put, List.setIfInBounds_toArray, List.set_cons_zero, List.set_cons_succ]
    rfl
  refine pure_ (i := 1) (N := some 12) (v := ?_) (a' := ?_) #[true, true, false, false, false, false] rfl rfl (by kernel_rfl) (fun _ _ _ h => h) (Or.inl ⟨by rfl, ?_⟩) ?_ ?_
  rotate_left
  · intro w'
    go_simp
    with_reducible rfl
  rotate_left
  · simp only [Act.put, List.setIfInBounds_toArray, List.set_cons_zero, List.set_cons_succ]
    rfl
  refine pure_ (i := 4) (N := some 6) (v := ?_) (a' := ?_) #[true, true, false, false, true, false] rfl rfl (by kernel_rfl) (fun _ _ _ h => h) (Or.inl ⟨by rfl, ?_⟩) ?_ ?_
  rotate_left
  · intro w'
    go_simp
    with_reducible rfl
  rotate_left
  · simp only [Act.put, List.setIfInBounds_toArray, List.set_cons_zero, List.set_cons_succ]
    rfl
  refine one_ (i := 2) (N := some 13) #[true, true, true, false, true, false] rfl rfl (by kernel_rfl) (by decide) (fun K hK => ?_)
  refine value_ (v := .pointer (some ⟨w2.heap.size, 0, none⟩)) (w1 := w2.drew.alloc (.cells #[.int .i64 spi, .int .i64 3] 86 (0, 0))) (by rfl) rfl ?_ ?_
  · first | (go_simp; done) | (go_simp; rfl)
  refine hK.out _ _ (below_alloc hHeld _) (fun hHeld => ?_)
  have BKn := Aside0.mk (show (w2.drew.alloc (.cells #[.int .i64 spi, .int .i64 3] 86 (0, 0))).heap[w2.heap.size]? = some (.cells #[.int .i64 spi, .int .i64 3] 86 (0, 0)) from blk_new w2.drew _)
  clear hK K
  refine norm_ (a' := ?_) ?_ ?_
  rotate_left
  · show Act.put _ (some 13) _ = _
    simp only [Act.put, List.setIfInBounds_toArray, List.set_cons_zero, List.set_cons_succ]
    rfl
  refine pure_ (i := 3) (N := some 14) (v := ?_) (a' := ?_) #[true, true, true, true, true, false] rfl rfl (by kernel_rfl) (fun _ _ _ h => h) (Or.inl ⟨by rfl, ?_⟩) ?_ ?_
  rotate_left
  · intro w'
    go_simp
    with_reducible rfl
  rotate_left
  · simp only [Act.put, List.setIfInBounds_toArray, List.set_cons_zero, List.set_cons_succ]
    rfl
  refine pure_ (i := 5) (N := some 7) (v := ?_) (a' := ?_) #[true, true, true, true, true, true] rfl rfl (by kernel_rfl) (fun _ _ _ h => h) (Or.inl ⟨by rfl, ?_⟩) ?_ ?_
  rotate_left
  · intro w'
    go_simp
    with_reducible rfl
  rotate_left
  · simp only [Act.put, List.setIfInBounds_toArray, List.set_cons_zero, List.set_cons_succ]
    rfl
  refine done_ (by kernel_rfl) ?_
  have HB5 := Aside0.mk (HB2.out.trans (hHeld.mono HB2.out.size))
  clear hHeld
  (try simp only [Exit.inBlock, Exit.then])
  go_wp2_with (fail)
  go_ret2
  exact ⟨⟨_, rfl, _, _, rfl, BKn.out⟩, HB5.out⟩
/-- An association whose time can be told. -/
def Timed (e : En) (now : Int) : Prop := -4611686018427387904 ≤ now - e.born ∧ now - e.born ≤ 4611686018427387904
set_option maxHeartbeats 1600000 in
set_option maxRecDepth 100000 in
theorem live_no {w : World} {p : Option Addr} {c : Int} (now spi : Int) (out : Bool) (hf : Calls Tryd.prog 23 #[.pointer p, .int .i64 spi, .bool out] w (FindNo c w)) :
    Calls Tryd.prog 27 #[.pointer p, .int .i64 now, .int .i64 spi, .bool out] w (FindNo c w) := by
  have HF := Aside0.mk hf
  clear hf
  go_enter Tryd.func27, Tryd.ntmps27
  go_wp2_with (fail)
  refine HF.out.mono ?_
  rintro e w1 ⟨⟨v, rfl, k, s, rfl, hk⟩, hb⟩
  have HK := Aside0.mk hk
  have HB := Aside0.mk hb
  clear hk hb
  go_wp2_with (fail)
  go_ret2
  exact ⟨⟨_, rfl, _, _, rfl, HK.out⟩, HB.out⟩
set_option maxHeartbeats 1600000 in
set_option maxRecDepth 100000 in
theorem live_yes {w : World} {q p g : Nat} {e : En} (now spi : Int) (out : Bool) (hf : Calls Tryd.prog 23 #[.pointer (some ⟨q, 0, none⟩), .int .i64 spi, .bool out] w (FindYes p w)) (he : w.heap[p]? = some (.cells (encE e g).toArray 71 (0, 0))) (hn : Timed e now) (ha : ageE e now ≠ 2) :
    Calls Tryd.prog 27 #[.pointer (some ⟨q, 0, none⟩), .int .i64 now, .int .i64 spi, .bool out] w (FindYes p w) := by
  have HF := Aside0.mk hf
  have AG := Aside0.mk fun (W : World) (hb : Below w.heap.size w W) => age_walk (blk_below he hb) now hn
  obtain ⟨a, hae⟩ : ∃ a, ageE e now = a := ⟨_, rfl⟩
  rw [hae] at AG ha
  have ha2 : (a == 2) = false := by rw [beq_eq_false_iff_ne]; exact ha
  clear hf he hn ha hae
  go_enter Tryd.func27, Tryd.ntmps27
  go_wp2_with (fail)
  refine HF.out.mono ?_
  rintro e w1 ⟨rfl, hb⟩
  have HB := Aside0.mk hb
  clear hb
  go_wp2_with (fail)
  refine (AG.out w1 HB.out).mono ?_
  rintro e w2 ⟨rfl, hb⟩
  have HB2 := Aside0.mk (HB.out.trans (hb.mono HB.out.size))
  clear hb
  go_wp2_with (fail)
  go_ret2
  exact ⟨rfl, HB2.out⟩
set_option maxHeartbeats 1600000 in
set_option maxRecDepth 100000 in
theorem live_hard {w : World} {q p g : Nat} {e : En} (now spi : Int) (out : Bool) (hf : Calls Tryd.prog 23 #[.pointer (some ⟨q, 0, none⟩), .int .i64 spi, .bool out] w (FindYes p w)) (he : w.heap[p]? = some (.cells (encE e g).toArray 71 (0, 0))) (hn : Timed e now) (ha : ageE e now = 2) :
    Calls Tryd.prog 27 #[.pointer (some ⟨q, 0, none⟩), .int .i64 now, .int .i64 spi, .bool out] w (FindNo 171 w) := by
  have HF := Aside0.mk hf
  have AG := Aside0.mk fun (W : World) (hb : Below w.heap.size w W) => age_walk (blk_below he hb) now hn
  rw [ha] at AG
  clear hf he hn ha
  go_enter Tryd.func27, Tryd.ntmps27
  go_wp2_with (fail)
  refine HF.out.mono ?_
  rintro e w1 ⟨rfl, hb⟩
  have HB := Aside0.mk hb
  clear hb
  go_wp2_with (fail)
  refine (AG.out w1 HB.out).mono ?_
  rintro e w2 ⟨rfl, hb⟩
  have HB2 := Aside0.mk (HB.out.trans (hb.mono HB.out.size))
  clear hb
  go_wp2_with (first | ((with_reducible refine gate_dst (N := 29) rfl ?_); refine box_event ?hg (N := 29) ?hd (cs := #[.int .i64 spi, .int .i64 171]) (t := 86) ?hr ?_; (case hd => rfl); (case hg => rfl); (case hr => first | (go_simp; done) | (go_simp; rfl)); intro qn hq w3 hbox hb; have BKqn := Aside0.mk hbox; have HQqn := Aside0.mk (show w.heap.size ≤ qn from by rw [hq]; exact HB2.out.size); have HB3 := Aside0.mk (HB2.out.trans (hb.mono HB2.out.size)); clear hbox hb hq))
  go_ret2
  exact ⟨⟨_, rfl, _, _, rfl, BKqn.out⟩, HB3.out⟩
end Go.Proofs.YtkmnpnbfeiobiaaDoor.Sd
