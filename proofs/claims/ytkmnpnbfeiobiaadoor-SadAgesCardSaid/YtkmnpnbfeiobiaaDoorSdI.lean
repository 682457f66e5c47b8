/- List of the program: a row of lives. -/
import Derived.Test.YtkmnpnbfeiobiaaDoorSdH
namespace Go.Proofs.YtkmnpnbfeiobiaaDoor.Sd
open Go.RowKit Go.Proofs.YtkmnpnbfeiobiaaDoorW.PrintWords Go.Proofs.YtkmnpnbfeiobiaaDoorW.PrintLast Go.Proofs.YtkmnpnbfeiobiaaDoorW.PrintMore Go.Proofs.YtkmnpnbfeiobiaaDoor.QSa
open Go.Proofs.YtkmnpnbfeiobiaaDoor
set_option linter.unusedVariables false
set_option linter.unusedSimpArgs false
theorem info27 : (Tryd.prog.info? 27).map (fun i => (i.zero, i.size, i.bytes)) = some (some (.agg #[.int .i64 0, .string ByteArray.empty, .string ByteArray.empty, .string ByteArray.empty, .bool false, .int .i64 0, .int .i64 0, .bool false, .int .i64 0, .int .i64 0, .int .i64 0, .int .i64 0]), 12, 120) := by kernel_rfl
/-- A row of lives. -/
def LivesAt (w : World) (base : Nat) (u : Value) (l : List S27) : Prop := k27.R 27 w base (fun _ => True) u l
def lives (es : List En) : List S27 := es.map (·.life)
theorem lives_snoc {es : List En} {i : Nat} (hi : i < es.length) : lives (es.take (i + 1)) = lives (es.take i) ++ [(es.getD i en0).life] := by
  unfold lives
  rw [List.take_succ_eq_append_getElem hi, List.map_append, List.getD_eq_getElem?_getD, List.getElem?_eq_getElem hi]
  rfl
def ListQ (l : List S27) (w : World) (e : Ending) (w' : World) : Prop := (∃ u, e = .returned u ∧ LivesAt w' w.heap.size u l) ∧ Below w.heap.size w w'
set_option maxHeartbeats 1600000 in
theorem list_nil (w : World) : Calls Tryd.prog 21 #[.pointer none] w fun e w' => e = .returned (.slice none 0 0) ∧ Below w.heap.size w w' := by
  go_enter Tryd.func21, Tryd.ntmps21
  go_wp2
  go_ret
  exact ⟨rfl, Below.refl _ _⟩
set_option maxHeartbeats 3200000 in
set_option maxRecDepth 100000 in
theorem list_call {w : World} {base q : Nat} {es : List En} (h : SadX w base q es) (hl : es.length ≤ 1000) :
    Calls Tryd.prog 21 #[.pointer (some ⟨q, 0, none⟩)] w (ListQ (lives es) w) := by
  obtain ⟨v, ps, hp⟩ := h
  obtain ⟨A, c, rfl, hlc⟩ := hp.slice
  have HA := Aside0.mk fun (i : Nat) (hi : i < es.length) (W : World) (hb : Below w.heap.size w W) => (hp.below hb).at i hi
  have HT := Aside0.mk fun (W : World) (hb : Below w.heap.size w W) => (hp.below hb).ptrs
  have HB0 := Aside0.mk (Below.refl w.heap.size w)
  have c0 : w.cell? ⟨q, 0, none⟩ = some (.slice A es.length c) := (blk_cell hp.blk 0).trans rfl
  have HS := Aside0.mk (fun i hi => @lives_snoc es i hi)
  have HE := Aside0.mk (List.take_length (l := es))
  have HLT := Aside0.mk (List.length_take_le (l := es))
  obtain ⟨n, hn⟩ : ∃ n, es.length = n := ⟨_, rfl⟩
  rw [hn] at hl hlc HA HT HS HE c0
  clear hp hn
  go_enter Tryd.func21, Tryd.ntmps21
  go_wp2_with (fail)
  have U0 := Aside0.mk (show LivesAt w w.heap.size (.slice none 0 0) (lives (es.take 0)) from Kd.R_nil _ _ _ _ _)
  go_loopw [13, 3] (fun iv uv wr => ∃ (i : Nat) (u : Value), i ≤ n ∧ iv = .int .i64 i ∧ u = uv ∧ Aside0 (LivesAt wr w.heap.size u (lives (es.take i))) ∧ Aside0 (Below w.heap.size w wr)) (fun iv _ _ => n - (intOf iv).toNat)
  case atStart => exact ⟨0, _, by omega, rfl, rfl, U0, HB0⟩
  case round =>
    clear HB0 U0
    obtain ⟨i, uv, hin, rfl, rfl, U, HB⟩ := hrel
    by_cases hlt : i < n
    · have hltI : (i : Int) < (n : Int) := by omega
      have hltN : decide (i < n) = true := decide_eq_true hlt
      obtain ⟨b, hA, hc⟩ := HT.out _ HB.out i hlt
      subst hA
      dsimp only at hc
      have hs := HS.out i hlt
      have LD0 := load27 (HA.out i hlt _ HB.out).blk
      obtain ⟨x, hx⟩ : ∃ x, (es.getD i en0).life = x := ⟨_, rfl⟩
      rw [hx] at LD0 hs
      obtain ⟨P, hP⟩ : ∃ P, (ps.getD i pl0).p = P := ⟨_, rfl⟩
      rw [hP] at hc LD0
      have LD := Aside0.mk (show (loadVar 27 ⟨P, 0, none⟩).run Tryd.prog wr = .ok (.agg #[.int .i64 x.f0.f0, .string x.f0.f1, .string x.f0.f2, .string x.f0.f3, .bool x.f0.f4, .int .i64 x.f0.f5, .int .i64 x.f1, .bool x.f2, .int .i64 x.f3, .int .i64 x.f4, .int .i64 x.f5, .int .i64 x.f6]) wr from LD0)
      have HS1 := Aside0.mk hs
      have HLN := Aside0.mk (show (lives (es.take i)).length ≤ i from by unfold lives; rw [List.length_map]; exact List.length_take_le _ _)
      clear hs LD0 hx hP
      have hi1 : IntKind.i64.wrap ((i : Int) + 1) = ((i + 1 : Nat) : Int) := by rw [IntWalk.i64_in _ (by omega)]; omega
      obtain ⟨XS, hXS⟩ : ∃ XS, lives (es.take i) = XS := ⟨_, rfl⟩
      rw [hXS] at U HS1 HLN
      clear hXS
      go_wp2_with (first | ((with_reducible refine gate_dst (N := 21) rfl ?_); refine Kd.event_run (v := .agg #[.int .i64 x.f0.f0, .string x.f0.f1, .string x.f0.f2, .string x.f0.f3, .bool x.f0.f4, .int .i64 x.f0.f5, .int .i64 x.f1, .bool x.f2, .int .i64 x.f3, .int .i64 x.f4, .int .i64 x.f5, .int .i64 x.f6]) (w1 := wr) ?hg (load_runA 27 (.tmp 20) ⟨P, 0, none⟩ #[.int .i64 x.f0.f0, .string x.f0.f1, .string x.f0.f2, .string x.f0.f3, .bool x.f0.f4, .int .i64 x.f0.f5, .int .i64 x.f1, .bool x.f2, .int .i64 x.f3, .int .i64 x.f4, .int .i64 x.f5, .int .i64 x.f6] ?ho ?hx LD.out) ?_; (case hg => rfl); (case ho => rfl); (case hx => rfl)) | ((with_reducible refine gate_builtin (b := .append) (xs := #[.tmp 17, .tmp 22]) rfl ?_); at_builtin; refine Kd.R_append k27 (w0 := w) w.heap.size rfl (.tmp 17) (.tmp 22) 55 27 (.agg #[.int .i64 0, .string ByteArray.empty, .string ByteArray.empty, .string ByteArray.empty, .bool false, .int .i64 0, .int .i64 0, .bool false, .int .i64 0, .int .i64 0, .int .i64 0, .int .i64 0]) 120 rfl Tryd.underlying55 info27 rfl (by decide) (by omega) uv XS x [.int .i64 x.f0.f0, .string x.f0.f1, .string x.f0.f2, .string x.f0.f3, .bool x.f0.f4, .int .i64 x.f0.f5, .int .i64 x.f1, .bool x.f2, .int .i64 x.f3, .int .i64 x.f4, .int .i64 x.f5, .int .i64 x.f6] (fun _ => True) (fun _ => False) rfl rfl ?aP (fun _ hk => hk.elim) ?aF ?aO ?aB ?aS ?aL ?_; (case aP => exact k27_mkM _ _ _ x); (case aB => exact HB.out); (case aF => exact (fun k hk => trivial)); (case aO => exact U.out); (case aS => exact HB.out.size); (case aL => have := HLN.out; omega); intro u6 w6 ho hb1 hg hat; have HO2 := Aside0.mk (show LivesAt w6 w.heap.size u6 _ from ho); have HB2 := Aside0.mk hb1; clear ho hb1 hg hat))
      go_roundw
      case rel => exact ⟨i + 1, _, by omega, by go_num, rfl, ⟨by rw [HS1.out]; exact HO2.out⟩, HB2⟩
      case measure => simp [intOf]; omega
    · have hltI : ¬ (i : Int) < (n : Int) := by omega
      have hltN : decide (i < n) = false := decide_eq_false hlt
      obtain rfl : n = i := by omega
      rw [HE.out] at U
      go_wp2_with (fail)
      go_ret
      exact ⟨⟨_, rfl, U.out⟩, HB.out⟩
end Go.Proofs.YtkmnpnbfeiobiaaDoor.Sd
