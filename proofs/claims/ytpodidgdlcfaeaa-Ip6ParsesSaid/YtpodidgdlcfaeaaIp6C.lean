/- ip6.measure and Check. -/
import Derived.Test.YtpodidgdlcfaeaaIp6B
namespace Go.Proofs.Ytpodidgdlcfaeaa.Ip6
open Go.RowKit Go.Proofs.YtpodidgdlcfaeaaW.PrintWords Go.Proofs.YtpodidgdlcfaeaaW.PrintLast Go.Proofs.YtpodidgdlcfaeaaW.PrintMore Go.Proofs.Ytpodidgdlcfaeaa.PIp6Lays
set_option linter.unusedVariables false
set_option linter.unusedSimpArgs false
structure Pk where
  cls : Int
  lab : Int
  hop : Int
  src : ByteArray
  dst : ByteArray
  ex : List S43
  nxt : Int
  dat : List Int
/-- A packet's value, its two rows lying where they lie. -/
abbrev Pk.cells (p : Pk) (A5 : Option Addr) (c5 : Nat) (A7 : Option Addr) (c7 : Nat) : Array Value :=
  #[.int .i64 p.cls, .int .i64 p.lab, .int .i64 p.hop, .string p.src, .string p.dst, .slice A5 p.ex.length c5, .int .i64 p.nxt, .slice A7 p.dat.length c7]
structure PkR (w : World) (p : Pk) (A5 : Option Addr) (c5 : Nat) (A7 : Option Addr) (c7 : Nat) : Prop where
  r5 : Kd.C k43 w A5 p.ex.length p.ex
  h5 : p.ex.length ≤ c5
  r7 : Kd.C (Kd.int .u8) w A7 p.dat.length p.dat
  h7 : p.dat.length ≤ c7
theorem PkR.below {w w' : World} {p : Pk} {A5 A7 : Option Addr} {c5 c7 : Nat} (h : PkR w p A5 c5 A7 c7) (hb : Below w.heap.size w w') : PkR w' p A5 c5 A7 c7 :=
  ⟨Kd.C_below h.r5 hb, h.h5, Kd.C_below h.r7 hb, h.h7⟩
structure Small (p : Pk) : Prop where
  ex : p.ex.length ≤ 1000
  each : ∀ x ∈ p.ex, x.f1.size ≤ 4000
  dat : p.dat.length ≤ 100000
  src : p.src.size ≤ 1000
  dst : p.dst.size ≤ 1000
  cls : (Lit.int .i64 p.cls).wf = true
  lab : (Lit.int .i64 p.lab).wf = true
  hop : (Lit.int .i64 p.hop).wf = true
  nxt : (Lit.int .i64 p.nxt).wf = true
  byte : ∀ x ∈ p.dat, 0 ≤ x ∧ x ≤ 255
theorem or_zero {a b : Int} (ha : -9223372036854775808 ≤ a ∧ a ≤ 9223372036854775807) (hb : -9223372036854775808 ≤ b ∧ b ≤ 9223372036854775807) : bits .or .i64 a b = 0 ↔ a = 0 ∧ b = 0 := by
  have hx : ∀ x : Int, -9223372036854775808 ≤ x ∧ x ≤ 9223372036854775807 → (BitVec.ofInt 64 x = 0#64 ↔ x = 0) := by
    intro x hx
    constructor
    · intro h
      have h2 := congrArg BitVec.toNat h
      rw [BitVec.toNat_ofInt] at h2
      simp at h2
      omega
    · rintro rfl
      rfl
  have hw : ∀ v : BitVec 64, IntKind.i64.wrap (v.toNat : Int) = 0 ↔ v = 0#64 := by
    intro v
    have hv := v.isLt
    rw [IntKind.wrap_i64]
    constructor
    · intro h
      apply BitVec.eq_of_toNat_eq
      simp
      omega
    · rintro rfl
      decide
  have e : bits .or .i64 a b = IntKind.i64.wrap ((BitVec.ofInt 64 a ||| BitVec.ofInt 64 b).toNat : Int) := rfl
  rw [e, hw, ← hx a ha, ← hx b hb]
  constructor
  · intro h
    have h1 : ∀ i, (BitVec.ofInt 64 a).getLsbD i = false ∧ (BitVec.ofInt 64 b).getLsbD i = false := by
      intro i
      have := congrArg (fun v => BitVec.getLsbD v i) h
      simpa [BitVec.getLsbD_or] using this
    constructor
    · apply BitVec.eq_of_getLsbD_eq
      intro i _
      rw [(h1 i).1]
      simp
    · apply BitVec.eq_of_getLsbD_eq
      intro i _
      rw [(h1 i).2]
      simp
  · rintro ⟨h1, h2⟩
    rw [h1, h2]
    rfl
theorem or_range (a b : Int) : -9223372036854775808 ≤ bits .or .i64 a b ∧ bits .or .i64 a b ≤ 9223372036854775807 := by
  have e : bits .or .i64 a b = IntKind.i64.wrap ((BitVec.ofInt 64 a ||| BitVec.ofInt 64 b).toNat : Int) := rfl
  rw [e, IntKind.wrap_i64]
  omega
/-- Do a head's numbers fit? -/
def inR (cls lab hop nxt : Int) : Prop := (0 ≤ cls ∧ cls ≤ 255) ∧ (0 ≤ hop ∧ hop ≤ 255) ∧ (0 ≤ nxt ∧ nxt ≤ 255) ∧ (0 ≤ lab ∧ lab ≤ 1048575)
theorem wf64 {n : Int} (h : (Lit.int .i64 n).wf = true) : -9223372036854775808 ≤ n ∧ n ≤ 9223372036854775807 := by
  simpa [Lit.wf, IntKind.min, IntKind.max, IntKind.signed, IntKind.bits] using h
theorem ors_zero {cls lab hop nxt : Int} (h1 : (Lit.int .i64 cls).wf = true) (h2 : (Lit.int .i64 lab).wf = true) (h3 : (Lit.int .i64 hop).wf = true) (h4 : (Lit.int .i64 nxt).wf = true) :
    bits .or .i64 (bits .or .i64 (bits .or .i64 (cls / 256) (hop / 256)) (nxt / 256)) (lab / 1048576) = 0 ↔ inR cls lab hop nxt := by
  have h1 := wf64 h1
  have h2 := wf64 h2
  have h3 := wf64 h3
  have h4 := wf64 h4
  rw [or_zero (or_range _ _) (by omega), or_zero (or_range _ _) (by omega), or_zero (by omega) (by omega)]
  unfold inR
  omega
def headOk (p : Pk) : Prop := inR p.cls p.lab p.hop p.nxt ∧ p.src.size = 16 ∧ p.dst.size = 16 ∧ btw p.nxt = false
open Classical in
noncomputable def checkE (p : Pk) : Int := if headOk p ∧ wok 0 p.ex = true then (if 65535 < sumx p.ex + p.dat.length then 2 else 0) else 1
def MeasP (p : Pk) (n : Int) (v : Value) : Prop := (checkE p = 0 ∧ n = ((sumx p.ex + p.dat.length : Nat) : Int) ∧ v = .nilIface) ∨ (checkE p ≠ 0 ∧ ErrV (checkE p) v)
set_option maxHeartbeats 8000000 in
set_option maxRecDepth 100000 in
theorem measure_walk (p : Pk) (A5 A7 : Option Addr) (c5 c7 : Nat) (hp : Small p) (w : World) (hr : PkR w p A5 c5 A7 c7) :
    Calls Try.prog 24 #[.agg (p.cells A5 c5 A7 c7)] w fun e w' => (∃ (n : Int) (v : Value), e = .returned (.tuple #[.int .i64 n, v]) ∧ MeasP p n v) ∧ Below w.heap.size w w' := by
  obtain ⟨cls, lab, hop, src, dst, ex, nxt, dat⟩ := p
  show Calls Try.prog 24 #[.agg #[.int .i64 cls, .int .i64 lab, .int .i64 hop, .string src, .string dst, .slice A5 ex.length c5, .int .i64 nxt, .slice A7 dat.length c7]] w _
  have WH := Aside0.mk fun (W : World) (hb : Below w.heap.size w W) => whole_walk A5 c5 ex hp.ex hp.each W (Kd.C_below hr.r5 hb)
  have BT := Aside0.mk fun (W : World) => btw_walk nxt W
  have hO := ors_zero hp.cls hp.lab hp.hop hp.nxt
  simp only at hO
  have HT := Aside0.mk (show sumx ex ≤ 4002000 ∧ dat.length ≤ 100000 from ⟨by have h1 := sumx_le ex hp.each ex.length; rw [List.take_length] at h1; have h2 : ex.length ≤ 1000 := hp.ex; omega, hp.dat⟩)
  have es : (src.size : Int) = ((src.size : Nat) : Int) := rfl
  obtain ⟨O, hOO⟩ : ∃ O, bits .or .i64 (bits .or .i64 (bits .or .i64 (cls / 256) (hop / 256)) (nxt / 256)) (lab / 1048576) = O := ⟨_, rfl⟩
  rw [hOO] at hO
  clear hp hr es
  by_cases hin : inR cls lab hop nxt
  · have o1 : (O != 0) = false := bne_eq_false_iff_eq.mpr (hO.mpr hin)
    by_cases h16 : src.size = 16
    · have s1 : ((src.size : Int) != 16) = false := by rw [h16]; rfl
      by_cases g16 : dst.size = 16
      · have s2 : ((dst.size : Int) != 16) = false := by rw [g16]; rfl
        cases hbt : btw nxt with
        | true =>
          rw [hbt] at BT
          have CK := Aside0.mk (show checkE ⟨cls, lab, hop, src, dst, ex, nxt, dat⟩ = 1 from by unfold checkE; rw [if_neg (by rintro ⟨⟨_, _, _, h⟩, _⟩; have h : btw nxt = false := h; rw [hbt] at h; cases h)])
          clear hO hin hbt h16 g16
          go_enter Try.func24, Try.ntmps24
          go_wp2_with (first | ((with_reducible refine gate_dst (N := 1) rfl ?_); refine box_event ?hg (N := 1) ?hd (cs := #[.int .i64 cls, .int .i64 lab, .int .i64 hop, .string src, .string dst, .slice A5 ex.length c5, .int .i64 nxt, .slice A7 dat.length c7]) (t := 26) ?hr ?_; (case hd => rfl); (case hg => rfl); (case hr => first | (go_simp; done) | (go_simp; rfl)); intro q hq w3 hbox hb3; have BK := Aside0.mk hbox; have HB3 := Aside0.mk hb3; clear hbox hb3 hq; have hq0 : w3.cell? ⟨q, 0, none⟩ = some (.int .i64 cls) := (blk_cell BK.out 0).trans rfl; have hq1 : w3.cell? ⟨q, 1, none⟩ = some (.int .i64 lab) := (blk_cell BK.out 1).trans rfl; have hq2 : w3.cell? ⟨q, 2, none⟩ = some (.int .i64 hop) := (blk_cell BK.out 2).trans rfl; have hq3 : w3.cell? ⟨q, 3, none⟩ = some (.string src) := (blk_cell BK.out 3).trans rfl; have hq4 : w3.cell? ⟨q, 4, none⟩ = some (.string dst) := (blk_cell BK.out 4).trans rfl; have hq6 : w3.cell? ⟨q, 6, none⟩ = some (.int .i64 nxt) := (blk_cell BK.out 6).trans rfl) | (go_at_call 17; refine (BT.out _).mono ?_; rintro e w5 ⟨rfl, m1, rfl⟩; have HB5 := Aside0.mk (pw_below_drewN HB3.out m1); have hr5 : (w3.drewN m1).cell? ⟨q, 5, none⟩ = some (.slice A5 ex.length c5) := (blk_cell (blk_drewN BK.out m1) 5).trans rfl))
          go_ret2
          exact ⟨⟨_, _, rfl, Or.inr ⟨by rw [CK.out]; decide, by rw [CK.out]; exact Or.inr ⟨by decide, _, rfl⟩⟩⟩, HB5.out⟩
        | false =>
          rw [hbt] at BT
          have HOK := Aside0.mk (show headOk ⟨cls, lab, hop, src, dst, ex, nxt, dat⟩ from ⟨hin, h16, g16, hbt⟩)
          clear hO hin hbt h16 g16
          go_enter Try.func24, Try.ntmps24
          go_wp2_with (first | ((with_reducible refine gate_dst (N := 1) rfl ?_); refine box_event ?hg (N := 1) ?hd (cs := #[.int .i64 cls, .int .i64 lab, .int .i64 hop, .string src, .string dst, .slice A5 ex.length c5, .int .i64 nxt, .slice A7 dat.length c7]) (t := 26) ?hr ?_; (case hd => rfl); (case hg => rfl); (case hr => first | (go_simp; done) | (go_simp; rfl)); intro q hq w3 hbox hb3; have BK := Aside0.mk hbox; have HB3 := Aside0.mk hb3; clear hbox hb3 hq; have hq0 : w3.cell? ⟨q, 0, none⟩ = some (.int .i64 cls) := (blk_cell BK.out 0).trans rfl; have hq1 : w3.cell? ⟨q, 1, none⟩ = some (.int .i64 lab) := (blk_cell BK.out 1).trans rfl; have hq2 : w3.cell? ⟨q, 2, none⟩ = some (.int .i64 hop) := (blk_cell BK.out 2).trans rfl; have hq3 : w3.cell? ⟨q, 3, none⟩ = some (.string src) := (blk_cell BK.out 3).trans rfl; have hq4 : w3.cell? ⟨q, 4, none⟩ = some (.string dst) := (blk_cell BK.out 4).trans rfl; have hq6 : w3.cell? ⟨q, 6, none⟩ = some (.int .i64 nxt) := (blk_cell BK.out 6).trans rfl) | (go_at_call 17; refine (BT.out _).mono ?_; rintro e w5 ⟨rfl, m1, rfl⟩; have HB5 := Aside0.mk (pw_below_drewN HB3.out m1); have hr5 : (w3.drewN m1).cell? ⟨q, 5, none⟩ = some (.slice A5 ex.length c5) := (blk_cell (blk_drewN BK.out m1) 5).trans rfl))
          refine (WH.out _ HB5.out).mono ?_
          rintro e w6 ⟨⟨n, v, rfl, hw⟩, hb⟩
          have HB6 := Aside0.mk (HB5.out.trans (hb.mono HB5.out.size))
          have hs7 : w6.cell? ⟨q, 7, none⟩ = some (.slice A7 dat.length c7) := (blk_cell (blk_below (blk_drewN BK.out m1) hb) 7).trans rfl
          clear hb
          rcases hw with ⟨hwok, rfl, rfl⟩ | ⟨hwok, he, rfl⟩
          · have HSUM := HT.out
            obtain ⟨T, hTT⟩ : ∃ T, sumx ex = T := ⟨_, rfl⟩
            obtain ⟨D, hDD⟩ : ∃ D, dat.length = D := ⟨_, rfl⟩
            obtain ⟨M, hM⟩ : ∃ M, T + D = M := ⟨_, rfl⟩
            have E1 := Aside0.mk (wr_add (a := T) (b := D) (c := M) hM (by omega))
            have HTD := Aside0.mk (And.intro hTT (And.intro hDD hM))
            have HWOK := Aside0.mk hwok
            rw [hDD] at hs7
            rw [hTT]
            by_cases hbig : 65535 < M
            · have d1 : decide ((65535 : Int) < (M : Int)) = true := decide_eq_true (by omega)
              have CK := Aside0.mk (show checkE ⟨cls, lab, hop, src, dst, ex, nxt, dat⟩ = 2 from by unfold checkE; rw [if_pos ⟨HOK.out, hwok⟩]; simp only; rw [hTT, hDD, hM, if_pos hbig])
              clear hbig HSUM hTT hDD hM hwok
              have e1 := E1.out
              go_wp2_with (fail)
              go_ret2
              exact ⟨⟨_, _, rfl, Or.inr ⟨by rw [CK.out]; decide, by rw [CK.out]; exact Or.inr ⟨by decide, _, rfl⟩⟩⟩, HB6.out⟩
            · have d1 : decide ((65535 : Int) < (M : Int)) = false := decide_eq_false (by omega)
              have CK := Aside0.mk (show checkE ⟨cls, lab, hop, src, dst, ex, nxt, dat⟩ = 0 from by unfold checkE; rw [if_pos ⟨HOK.out, hwok⟩]; simp only; rw [hTT, hDD, hM, if_neg hbig])
              clear hbig HSUM hTT hDD hM hwok
              have e1 := E1.out
              go_wp2_with (fail)
              go_ret2
              exact ⟨⟨_, _, rfl, Or.inl ⟨CK.out, by simp only; rw [HTD.out.1, HTD.out.2.1, HTD.out.2.2]; exact E1.out, rfl⟩⟩, HB6.out⟩
          · have CK := Aside0.mk (show checkE ⟨cls, lab, hop, src, dst, ex, nxt, dat⟩ = 1 from by unfold checkE; rw [if_neg (by rintro ⟨_, h⟩; have h : wok 0 ex = true := h; rw [hwok] at h; cases h)])
            rcases he with ⟨h, _⟩ | ⟨_, s, rfl⟩
            · exact absurd h (by decide)
            · clear hwok
              go_wp2_with (fail)
              go_ret2
              exact ⟨⟨_, _, rfl, Or.inr ⟨by rw [CK.out]; decide, by rw [CK.out]; exact Or.inr ⟨by decide, _, rfl⟩⟩⟩, HB6.out⟩
      · have s2 : ((dst.size : Int) != 16) = true := bne_iff_ne.mpr (by omega)
        have CK := Aside0.mk (show checkE ⟨cls, lab, hop, src, dst, ex, nxt, dat⟩ = 1 from by unfold checkE; rw [if_neg (by rintro ⟨⟨_, _, h, _⟩, _⟩; exact g16 h)])
        clear hO hin h16 g16
        go_enter Try.func24, Try.ntmps24
        go_wp2_with (first | ((with_reducible refine gate_dst (N := 1) rfl ?_); refine box_event ?hg (N := 1) ?hd (cs := #[.int .i64 cls, .int .i64 lab, .int .i64 hop, .string src, .string dst, .slice A5 ex.length c5, .int .i64 nxt, .slice A7 dat.length c7]) (t := 26) ?hr ?_; (case hd => rfl); (case hg => rfl); (case hr => first | (go_simp; done) | (go_simp; rfl)); intro q hq w3 hbox hb3; have BK := Aside0.mk hbox; have HB3 := Aside0.mk hb3; clear hbox hb3 hq; have hq0 : w3.cell? ⟨q, 0, none⟩ = some (.int .i64 cls) := (blk_cell BK.out 0).trans rfl; have hq1 : w3.cell? ⟨q, 1, none⟩ = some (.int .i64 lab) := (blk_cell BK.out 1).trans rfl; have hq2 : w3.cell? ⟨q, 2, none⟩ = some (.int .i64 hop) := (blk_cell BK.out 2).trans rfl; have hq3 : w3.cell? ⟨q, 3, none⟩ = some (.string src) := (blk_cell BK.out 3).trans rfl; have hq4 : w3.cell? ⟨q, 4, none⟩ = some (.string dst) := (blk_cell BK.out 4).trans rfl; have hq6 : w3.cell? ⟨q, 6, none⟩ = some (.int .i64 nxt) := (blk_cell BK.out 6).trans rfl) | (go_at_call 17; refine (BT.out _).mono ?_; rintro e w5 ⟨rfl, m1, rfl⟩; have HB5 := Aside0.mk (pw_below_drewN HB3.out m1); have hr5 : (w3.drewN m1).cell? ⟨q, 5, none⟩ = some (.slice A5 ex.length c5) := (blk_cell (blk_drewN BK.out m1) 5).trans rfl))
        go_ret2
        exact ⟨⟨_, _, rfl, Or.inr ⟨by rw [CK.out]; decide, by rw [CK.out]; exact Or.inr ⟨by decide, _, rfl⟩⟩⟩, HB3.out⟩
    · have s1 : ((src.size : Int) != 16) = true := bne_iff_ne.mpr (by omega)
      have CK := Aside0.mk (show checkE ⟨cls, lab, hop, src, dst, ex, nxt, dat⟩ = 1 from by unfold checkE; rw [if_neg (by rintro ⟨⟨_, h, _, _⟩, _⟩; exact h16 h)])
      clear hO hin h16
      go_enter Try.func24, Try.ntmps24
      go_wp2_with (first | ((with_reducible refine gate_dst (N := 1) rfl ?_); refine box_event ?hg (N := 1) ?hd (cs := #[.int .i64 cls, .int .i64 lab, .int .i64 hop, .string src, .string dst, .slice A5 ex.length c5, .int .i64 nxt, .slice A7 dat.length c7]) (t := 26) ?hr ?_; (case hd => rfl); (case hg => rfl); (case hr => first | (go_simp; done) | (go_simp; rfl)); intro q hq w3 hbox hb3; have BK := Aside0.mk hbox; have HB3 := Aside0.mk hb3; clear hbox hb3 hq; have hq0 : w3.cell? ⟨q, 0, none⟩ = some (.int .i64 cls) := (blk_cell BK.out 0).trans rfl; have hq1 : w3.cell? ⟨q, 1, none⟩ = some (.int .i64 lab) := (blk_cell BK.out 1).trans rfl; have hq2 : w3.cell? ⟨q, 2, none⟩ = some (.int .i64 hop) := (blk_cell BK.out 2).trans rfl; have hq3 : w3.cell? ⟨q, 3, none⟩ = some (.string src) := (blk_cell BK.out 3).trans rfl; have hq4 : w3.cell? ⟨q, 4, none⟩ = some (.string dst) := (blk_cell BK.out 4).trans rfl; have hq6 : w3.cell? ⟨q, 6, none⟩ = some (.int .i64 nxt) := (blk_cell BK.out 6).trans rfl) | (go_at_call 17; refine (BT.out _).mono ?_; rintro e w5 ⟨rfl, m1, rfl⟩; have HB5 := Aside0.mk (pw_below_drewN HB3.out m1); have hr5 : (w3.drewN m1).cell? ⟨q, 5, none⟩ = some (.slice A5 ex.length c5) := (blk_cell (blk_drewN BK.out m1) 5).trans rfl))
      go_ret2
      exact ⟨⟨_, _, rfl, Or.inr ⟨by rw [CK.out]; decide, by rw [CK.out]; exact Or.inr ⟨by decide, _, rfl⟩⟩⟩, HB3.out⟩
  · have o1 : (O != 0) = true := bne_iff_ne.mpr (fun h => hin (hO.mp h))
    have CK := Aside0.mk (show checkE ⟨cls, lab, hop, src, dst, ex, nxt, dat⟩ = 1 from by unfold checkE; rw [if_neg (by rintro ⟨⟨h, _, _, _⟩, _⟩; exact hin h)])
    clear hO hin
    go_enter Try.func24, Try.ntmps24
    go_wp2_with (first | ((with_reducible refine gate_dst (N := 1) rfl ?_); refine box_event ?hg (N := 1) ?hd (cs := #[.int .i64 cls, .int .i64 lab, .int .i64 hop, .string src, .string dst, .slice A5 ex.length c5, .int .i64 nxt, .slice A7 dat.length c7]) (t := 26) ?hr ?_; (case hd => rfl); (case hg => rfl); (case hr => first | (go_simp; done) | (go_simp; rfl)); intro q hq w3 hbox hb3; have BK := Aside0.mk hbox; have HB3 := Aside0.mk hb3; clear hbox hb3 hq; have hq0 : w3.cell? ⟨q, 0, none⟩ = some (.int .i64 cls) := (blk_cell BK.out 0).trans rfl; have hq1 : w3.cell? ⟨q, 1, none⟩ = some (.int .i64 lab) := (blk_cell BK.out 1).trans rfl; have hq2 : w3.cell? ⟨q, 2, none⟩ = some (.int .i64 hop) := (blk_cell BK.out 2).trans rfl; have hq3 : w3.cell? ⟨q, 3, none⟩ = some (.string src) := (blk_cell BK.out 3).trans rfl; have hq4 : w3.cell? ⟨q, 4, none⟩ = some (.string dst) := (blk_cell BK.out 4).trans rfl; have hq6 : w3.cell? ⟨q, 6, none⟩ = some (.int .i64 nxt) := (blk_cell BK.out 6).trans rfl) | (go_at_call 17; refine (BT.out _).mono ?_; rintro e w5 ⟨rfl, m1, rfl⟩; have HB5 := Aside0.mk (pw_below_drewN HB3.out m1); have hr5 : (w3.drewN m1).cell? ⟨q, 5, none⟩ = some (.slice A5 ex.length c5) := (blk_cell (blk_drewN BK.out m1) 5).trans rfl))
    go_ret2
    exact ⟨⟨_, _, rfl, Or.inr ⟨by rw [CK.out]; decide, by rw [CK.out]; exact Or.inr ⟨by decide, _, rfl⟩⟩⟩, HB3.out⟩
/-- number over an error value. -/
theorem number_err {c : Int} {v : Value} (h : ErrV c v) (hc : c = 0 ∨ c = 1 ∨ c = 2) (q : Nat) (w : World) (hq : w.heap[q]? = some (.cells #[.int .i64 1, .int .i64 2] 27 (0, 0))) :
    Calls Try.prog 21 #[v, .slice (some ⟨q, 0, none⟩) 2 2] w fun e w' => e = .returned (.int .i64 c) ∧ Below w.heap.size w w' := by
  rcases h with ⟨rfl, rfl⟩ | ⟨hn, s, rfl⟩
  · exact number_walk .nilIface (fun _ => false) (fun c W => (is_nil c W).mono fun _ _ h => ⟨h.1, by rw [h.2]; exact Below.refl _ _⟩) q [1, 2] (by simp) w hq
  · have hw := number_walk (.iface 61 (.agg #[.string s, .int .i64 c])) (fun c' => decide (c = c')) (fun c' W => is_walk s c c' W) q [1, 2] (by simp) w hq
    have e : numL (fun c' => decide (c = c')) [1, 2] = c := by
      rcases hc with rfl | rfl | rfl
      · exact absurd rfl hn
      · rfl
      · rfl
    rw [e] at hw
    exact hw
theorem checkE_is (p : Pk) : checkE p = 0 ∨ checkE p = 1 ∨ checkE p = 2 := by
  unfold checkE
  split
  · split <;> simp
  · simp
theorem MeasP.err {p : Pk} {n : Int} {v : Value} (h : MeasP p n v) : ErrV (checkE p) v := by
  rcases h with ⟨h, _, rfl⟩ | ⟨_, h⟩
  · exact Or.inl ⟨h, rfl⟩
  · exact h
set_option maxHeartbeats 8000000 in
set_option maxRecDepth 100000 in
theorem check_walk (p : Pk) (A5 A7 : Option Addr) (c5 c7 : Nat) (hp : Small p) (w : World) (hr : PkR w p A5 c5 A7 c7) :
    Calls Try.prog 16 #[.agg (p.cells A5 c5 A7 c7)] w fun e w' => e = .returned (.int .i64 (checkE p)) ∧ Below w.heap.size w w' := by
  have MS := Aside0.mk fun (W : World) (hb : Below w.heap.size w W) => measure_walk p A5 A7 c5 c7 hp W (hr.below hb)
  obtain ⟨cls, lab, hop, src, dst, ex, nxt, dat⟩ := p
  show Calls Try.prog 16 #[.agg #[.int .i64 cls, .int .i64 lab, .int .i64 hop, .string src, .string dst, .slice A5 ex.length c5, .int .i64 nxt, .slice A7 dat.length c7]] w _
  have CI := Aside0.mk (checkE_is ⟨cls, lab, hop, src, dst, ex, nxt, dat⟩)
  clear hp hr
  go_enter Try.func16, Try.ntmps16
  go_wp2_with (first | ((with_reducible refine gate_dst (N := 1) rfl ?_); refine box_event ?hg (N := 1) ?hd (cs := #[.int .i64 cls, .int .i64 lab, .int .i64 hop, .string src, .string dst, .slice A5 ex.length c5, .int .i64 nxt, .slice A7 dat.length c7]) (t := 26) ?hr ?_; (case hd => rfl); (case hg => rfl); (case hr => first | (go_simp; done) | (go_simp; rfl)); intro q hq w3 hbox hb3; have BK := Aside0.mk hbox; have HB3 := Aside0.mk hb3; clear hbox hb3 hq; have hq0 : w3.cell? ⟨q, 0, none⟩ = some (.int .i64 cls) := (blk_cell BK.out 0).trans rfl; have hq1 : w3.cell? ⟨q, 1, none⟩ = some (.int .i64 lab) := (blk_cell BK.out 1).trans rfl; have hq2 : w3.cell? ⟨q, 2, none⟩ = some (.int .i64 hop) := (blk_cell BK.out 2).trans rfl; have hq3 : w3.cell? ⟨q, 3, none⟩ = some (.string src) := (blk_cell BK.out 3).trans rfl; have hq4 : w3.cell? ⟨q, 4, none⟩ = some (.string dst) := (blk_cell BK.out 4).trans rfl; have hq5 : w3.cell? ⟨q, 5, none⟩ = some (.slice A5 ex.length c5) := (blk_cell BK.out 5).trans rfl; have hq6 : w3.cell? ⟨q, 6, none⟩ = some (.int .i64 nxt) := (blk_cell BK.out 6).trans rfl; have hq7 : w3.cell? ⟨q, 7, none⟩ = some (.slice A7 dat.length c7) := (blk_cell BK.out 7).trans rfl))
  refine (MS.out _ HB3.out).mono ?_
  rintro e w4 ⟨⟨n, v, rfl, hm⟩, hb⟩
  have NM := Aside0.mk (number_err hm.err CI.out w4.heap.size (w4.alloc (.cells #[.int .i64 1, .int .i64 2] 27)) (blk_new _ _))
  have HB4 := Aside0.mk (HB3.out.trans (hb.mono HB3.out.size))
  clear hm hb
  go_wp2_with (fail)
  refine NM.out.mono ?_
  rintro e w5 ⟨rfl, hb⟩
  have HB5 := Aside0.mk ((below_alloc HB4.out _).trans (hb.mono (below_alloc HB4.out _).size))
  clear hb
  go_wp2_with (fail)
  go_ret
  exact ⟨rfl, HB5.out⟩
end Go.Proofs.Ytpodidgdlcfaeaa.Ip6
