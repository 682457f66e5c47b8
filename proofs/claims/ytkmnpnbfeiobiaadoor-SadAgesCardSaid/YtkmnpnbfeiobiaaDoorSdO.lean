/- A call in a row of calls; few; the program's state beside a law; the document's example. -/
import Derived.Test.YtkmnpnbfeiobiaaDoorSdN
namespace Go.Proofs.YtkmnpnbfeiobiaaDoor.Sd
open Go.RowKit Go.Proofs.YtkmnpnbfeiobiaaDoorW.PrintWords Go.Proofs.YtkmnpnbfeiobiaaDoorW.PrintLast Go.Proofs.YtkmnpnbfeiobiaaDoorW.PrintMore Go.Proofs.YtkmnpnbfeiobiaaDoor.QSa
open Go.Proofs.YtkmnpnbfeiobiaaDoor
set_option linter.unusedVariables false
set_option linter.unusedSimpArgs false
def enc40 (x : S40) : List Value := [.int .i64 x.f0, .int .i64 x.f1, .int .i64 x.f2, .int .i64 x.f3, .int .i64 x.f4, .int .i64 x.f5, .bool x.f6, .int .u64 x.f7, .int .i64 x.f8.f0.f0, .string x.f8.f0.f1, .string x.f8.f0.f2, .string x.f8.f0.f3, .bool x.f8.f0.f4, .int .i64 x.f8.f0.f5, .int .i64 x.f8.f1, .bool x.f8.f2, .int .i64 x.f8.f3, .int .i64 x.f8.f4, .int .i64 x.f8.f5, .int .i64 x.f8.f6]
theorem isz40 : (Tryd.prog.info? 40).map (·.size) = some 20 := by kernel_rfl
theorem one40 (x : S40) : (enc40 x).toArray.all (·.oneCell') = true := by
  unfold enc40
  simp [Value.oneCell']
/-- A call in a row, read whole. -/
theorem row40 {W : World} {A : Option Addr} {n : Nat} {xs : List S40} (h : Kd.C k40 W A n xs) (i : Nat) (hi : i < n) :
    ∃ ad, A = some ad ∧ (loadVar 40 (ad.add (i * 20))).run Tryd.prog W = .ok (.agg (enc40 (xs.getD i z40)).toArray) W := by
  obtain ⟨ad, c, e, _, hK, hc0⟩ := Kd.C_get h z40 (i : Int) (by omega) (by omega)
  rw [Int.toNat_natCast] at hK hc0
  have hc : ∀ j u, c[j]? = some u → W.cell? (ad.add (i * 20 + j)) = some u := hc0
  obtain rfl : c = enc40 (xs.getD i z40) := k40_open hK
  refine ⟨ad, e, ?_⟩
  have hl := run_loadCells_list (P := Tryd.prog) W (ad.add (i * 20)) (enc40 (xs.getD i z40)) (fun j v hv => by rw [Deep.add_add]; exact hc j v hv)
  have hs : (enc40 (xs.getD i z40)).length = 20 := rfl
  rw [hs] at hl
  have hi40 := isz40
  cases hq : Tryd.prog.info? 40 with
  | none => rw [hq] at hi40; cases hi40
  | some inf =>
    have hs : inf.size = 20 := by rw [hq] at hi40; simpa using hi40
    have hagg : (isAgg 40).run Tryd.prog W = .ok true W := by
      unfold isAgg
      rw [Sem.run_bind, run_underlying Tryd.underlying40 W]
      rfl
    simp only [loadVar, Sem.run_bind, hagg, sizeOf, typeInfo, hq, hs, hl, Result.andThen_ok, if_true, Sem.run_pure]
    simp [hq, hs, hl]
/-- The script is looked at. -/
def FewOk (l : List S40) : Prop := l.length ≤ 150 ∧ ∀ i, i < l.length → (l.getD i z40).f4 ≤ 1000000000 ∧ -1 ≤ (l.getD i z40).f1 ∧ (l.getD i z40).f1 ≤ 1000000000
def Sized40 (x : S40) : Prop := x.f8.f0.f1.size ≤ 140737488351232 ∧ x.f8.f0.f2.size ≤ 140737488351232 ∧ x.f8.f0.f3.size ≤ 140737488351232
def FewQ (l : List S40) (w : World) (e : Ending) (w' : World) : Prop := (∃ b, e = .returned (.bool b) ∧ (b = true → FewOk l)) ∧ Below w.heap.size w w'
theorem setRow_new (w : World) (c c' : Array Value) (t : TypeId) : (w.alloc (.cells c t)).setRow w.heap.size c' = w.alloc (.cells c' t) := World.setRow_alloc_new w c c' t
set_option maxHeartbeats 3200000 in
set_option maxRecDepth 100000 in
theorem few_walk (A : Option Addr) (c : Nat) (l : List S40) (w : World) (hr : Kd.C k40 w A l.length l) (hl : l.length ≤ maxLen) (hz : ∀ i, i < l.length → Sized40 (l.getD i z40)) :
    Calls Tryd.prog 13 #[.slice A l.length c] w (FewQ l w) := by
  have HR := Aside0.mk fun (W : World) (hb : Below w.heap.size w W) => Kd.C_below hr hb
  have HZ := Aside0.mk hz
  have HB := Aside0.mk (Below.refl w.heap.size w)
  obtain ⟨n, hn⟩ : ∃ n, l.length = n := ⟨_, rfl⟩
  have HN := Aside0.mk hn
  rw [hn] at hl HR HZ ⊢
  clear hr hn hz
  unfold maxLen at hl
  by_cases h150 : 150 < n
  · have d1 : decide ((150 : Int) < (n : Int)) = true := decide_eq_true (by omega)
    have d2 : decide (150 < n) = true := decide_eq_true h150
    clear h150
    go_enter Tryd.func13, Tryd.ntmps13
    go_wp2_with (fail)
    go_ret
    exact ⟨⟨_, rfl, fun h => by cases h⟩, HB.out⟩
  have d1 : decide ((150 : Int) < (n : Int)) = false := decide_eq_false (by omega)
  have d2 : decide (150 < n) = false := decide_eq_false h150
  go_enter Tryd.func13, Tryd.ntmps13
  go_wp2_with (fail)
  clear d1 d2
  go_loopw [3] (fun iv wr => ∃ i : Nat, i ≤ n ∧ iv = .int .i64 i ∧ Aside0 (∀ j, j < i → (l.getD j z40).f4 ≤ 1000000000 ∧ -1 ≤ (l.getD j z40).f1 ∧ (l.getD j z40).f1 ≤ 1000000000) ∧ Aside0 (Below w.heap.size w wr)) (fun iv _ => n - (intOf iv).toNat)
  case atStart => exact ⟨0, by omega, rfl, ⟨fun j hj => by omega⟩, HB⟩
  case round =>
    clear HB
    obtain ⟨i, hin, rfl, HI, HB⟩ := hrel
    by_cases hlt : i < n
    · have hd : decide ((i : Int) < (n : Int)) = true := decide_eq_true (by omega)
      have hd' : decide (i < n) = true := decide_eq_true hlt
      have hltI : (i : Int) < (n : Int) := by omega
      obtain ⟨ad, hA, LD⟩ := row40 (HR.out _ HB.out) i hlt
      subst hA
      have hsz := HZ.out i hlt
      obtain ⟨x, hx⟩ : ∃ x, l.getD i z40 = x := ⟨_, rfl⟩
      have HX := Aside0.mk hx
      rw [hx] at LD hsz
      obtain ⟨CS, hCS⟩ : ∃ CS, (enc40 x).toArray = CS := ⟨_, rfl⟩
      have H1 := Aside0.mk (show CS.all (·.oneCell') = true from by rw [← hCS]; exact one40 x)
      have HSZ := Aside0.mk (show CS.size = 20 from by rw [← hCS]; rfl)
      have HCS := Aside0.mk hCS
      rw [hCS] at LD
      obtain ⟨s1, hs1⟩ : ∃ n, x.f8.f0.f1.size = n := ⟨_, rfl⟩
      obtain ⟨s2, hs2⟩ : ∃ n, x.f8.f0.f2.size = n := ⟨_, rfl⟩
      obtain ⟨s3, hs3⟩ : ∃ n, x.f8.f0.f3.size = n := ⟨_, rfl⟩
      unfold Sized40 at hsz
      rw [hs1, hs2, hs3] at hsz
      obtain ⟨hz1, hz2, hz3⟩ := hsz
      have e1 : (x.f8.f0.f1.size : Int) = (s1 : Int) := by rw [hs1]
      have e2 : (x.f8.f0.f2.size : Int) = (s2 : Int) := by rw [hs2]
      have e3 : (x.f8.f0.f3.size : Int) = (s3 : Int) := by rw [hs3]
      obtain ⟨s12, hs12⟩ : ∃ s, s1 + s2 = s := ⟨_, rfl⟩
      obtain ⟨s, hs⟩ : ∃ s, s12 + s3 = s := ⟨_, rfl⟩
      have a12 : IntKind.i64.wrap ((s1 : Int) + (s2 : Int)) = (s12 : Int) := by rw [IntWalk.i64_in _ (by omega)]; omega
      have a123 : IntKind.i64.wrap ((s12 : Int) + (s3 : Int)) = (s : Int) := by rw [IntWalk.i64_in _ (by omega)]; omega
      have hi1 : IntKind.i64.wrap ((i : Int) + 1) = ((i + 1 : Nat) : Int) := by rw [IntWalk.i64_in _ (by omega)]; omega
      clear hx hCS hs1 hs2 hs3 hz1 hz2 hz3 hs12 hs
      go_upto_region 7 with (first | ((with_reducible refine gate_dst (N := 17) rfl ?_); refine Kd.event_run (v := .agg CS) (w1 := wr) ?hg (load_runA 40 (.tmp 16) (ad.add (i * 20)) CS ?ho ?hx LD) ?_; (case hg => rfl); (case ho => rfl); (case hx => rfl); clear LD) | ((with_reducible refine gate_dst (N := 4) rfl ?_); refine box_event ?hg (N := 4) ?hd (cs := #[.int .i64 0, .int .i64 0, .int .i64 0, .int .i64 0, .int .i64 0, .int .i64 0, .bool false, .int .u64 0, .int .i64 0, .string ByteArray.empty, .string ByteArray.empty, .string ByteArray.empty, .bool false, .int .i64 0, .int .i64 0, .bool false, .int .i64 0, .int .i64 0, .int .i64 0, .int .i64 0]) (t := 40) ?hr ?_; (case hd => rfl); (case hg => rfl); (case hr => first | (go_simp; done) | (go_simp; rfl)); intro q4 hq w1 hbox hb; have BKq4 := Aside0.mk hbox; have HQq4 := Aside0.mk (show w.heap.size ≤ q4 from by rw [hq]; exact HB.out.size); have HB1 := Aside0.mk (HB.out.trans (hb.mono HB.out.size)); clear hbox hb hq) | ((with_reducible refine gate_store (t := 40) (p := 4) rfl ?_); refine store_rowE ?hg 40 (.tmp 4) (.tmp 17) ?ho ?hN q4 CS ?hx ?hy 40 _ BKq4.out ?hi ?hold H1.out ?_; (case hg => rfl); (case ho => rfl); (case hN => rfl); (case hx => rfl); (case hy => rfl); (case hi => rw [HSZ.out]; exact isz40); (case hold => rw [HSZ.out]; rfl); intro w2 hw; have HB2 := Aside0.mk (show Below w.heap.size w w2 from by rw [hw]; exact below_setRow HB1.out HQq4.out _); have BKq4 := Aside0.mk (show w2.heap[q4]? = some (.cells CS 40 (0, 0)) from by rw [hw]; exact setRow_heap _ _ _ _ _ _ BKq4.out); clear hw))
      have z1 : w2.cell? ⟨q4, 1, none⟩ = some (.int .i64 x.f1) := (blk_cell BKq4.out 1).trans (by rw [← HCS.out]; rfl)
      have z4 : w2.cell? ⟨q4, 4, none⟩ = some (.int .i64 x.f4) := (blk_cell BKq4.out 4).trans (by rw [← HCS.out]; rfl)
      have z9 : w2.cell? ⟨q4, 9, none⟩ = some (.string x.f8.f0.f1) := (blk_cell BKq4.out 9).trans (by rw [← HCS.out]; rfl)
      have z10 : w2.cell? ⟨q4, 10, none⟩ = some (.string x.f8.f0.f2) := (blk_cell BKq4.out 10).trans (by rw [← HCS.out]; rfl)
      have z11 : w2.cell? ⟨q4, 11, none⟩ = some (.string x.f8.f0.f3) := (blk_cell BKq4.out 11).trans (by rw [← HCS.out]; rfl)
      by_cases hA : 300 < s
      · have d1 : decide ((300 : Int) < (s : Int)) = true := decide_eq_true (by omega)
        have d1N : decide (300 < s) = true := decide_eq_true hA
        clear hA
        go_wp2_with (fail)
        go_ret
        exact ⟨⟨_, rfl, fun h => by cases h⟩, HB2.out⟩
      have d1 : decide ((300 : Int) < (s : Int)) = false := decide_eq_false (by omega)
      have d1N : decide (300 < s) = false := decide_eq_false hA
      clear hA
      by_cases hB : 1000000000 < x.f4
      · have d2 : decide (1000000000 < x.f4) = true := decide_eq_true hB
        clear hB
        go_wp2_with (fail)
        go_ret
        exact ⟨⟨_, rfl, fun h => by cases h⟩, HB2.out⟩
      have d2 : decide (1000000000 < x.f4) = false := decide_eq_false hB
      by_cases hC : x.f1 < -1
      · have d3 : decide (x.f1 < -1) = true := decide_eq_true hC
        clear hC hB
        go_wp2_with (fail)
        go_ret
        exact ⟨⟨_, rfl, fun h => by cases h⟩, HB2.out⟩
      have d3 : decide (x.f1 < -1) = false := decide_eq_false hC
      by_cases hD : 1000000000 < x.f1
      · have d4 : decide (1000000000 < x.f1) = true := decide_eq_true hD
        clear hD hC hB
        go_wp2_with (fail)
        go_ret
        exact ⟨⟨_, rfl, fun h => by cases h⟩, HB2.out⟩
      have d4 : decide (1000000000 < x.f1) = false := decide_eq_false hD
      have HN2 := Aside0.mk (show ∀ j, j < i + 1 → (l.getD j z40).f4 ≤ 1000000000 ∧ -1 ≤ (l.getD j z40).f1 ∧ (l.getD j z40).f1 ≤ 1000000000 from fun j hj => by
        rcases Nat.lt_succ_iff_lt_or_eq.1 hj with h | rfl
        · exact HI.out j h
        · rw [HX.out]; omega)
      clear hB hC hD
      go_wp2_with (fail)
      go_roundw
      case rel => exact ⟨i + 1, by omega, by go_num, HN2, HB2⟩
      case measure => simp [intOf]; omega
    · have hd : decide ((i : Int) < (n : Int)) = false := decide_eq_false (by omega)
      have hd' : decide (i < n) = false := decide_eq_false hlt
      go_wp2_with (fail)
      go_ret
      exact ⟨⟨_, rfl, fun _ => ⟨by rw [HN.out]; omega, fun j hj => HI.out j (by rw [HN.out] at hj; omega)⟩⟩, HB.out⟩
/-- The example's life. -/
def lf (n : Int) : S27 := ⟨⟨n, ⟨#[48, 49, 50, 51, 52, 53, 54, 55, 56, 57, 97, 98, 99, 100, 101, 102]⟩, ⟨#[115, 97, 108, 116]⟩, ⟨#[48, 49, 50, 51, 52, 53, 54, 55, 56, 57, 97, 98, 99, 100, 101, 102, 48, 49, 50, 51, 52, 53, 54, 55, 56, 57, 97, 98, 99, 100, 101, 102]⟩, false, 64⟩, 1, true, 10, 0, 0, 0⟩
theorem life_walk (n : Int) (w : World) : Calls Tryd.prog 9 #[.int .i64 n] w fun e w' => e = .returned (v27 (lf n)) ∧ Below w.heap.size w w' := redoubtlaw17_life.calls n _ _ _ _ _ _ _ _ _ _ _ _ w (by rfl)
/-- The program's associations beside a law. -/
structure One (w0 w : World) (q : Nat) (es : List En) : Prop where
  sad : SadX w w0.heap.size q es
  below : Below w0.heap.size w0 w
  laid0 : Laid w0
theorem One.laid {w0 w : World} {q : Nat} {es : List En} (h : One w0 w q es) : Laid w := h.laid0.below h.laid0.pos h.below
theorem One.step {w0 w w' : World} {q : Nat} {es : List En} (h : One w0 w q es) (hb : Below w.heap.size w w') : One w0 w' q es := ⟨h.sad.below hb, h.below.trans (hb.mono h.below.size), h.laid0⟩
theorem One.turn {w0 w w' : World} {q : Nat} {es es' : List En} {r : Value} {e : Ending} (h : One w0 w q es) (ht : PgQ w0.heap.size q es' r w e w') : e = .returned r ∧ One w0 w' q es' := ⟨ht.1, ht.2.1, ht.2.2.below h.below h.below.size, h.laid0⟩
theorem one_new {w0 w : World} (hL : Laid w0) (hb : Below w0.heap.size w0 w) : Calls Tryd.prog 8 #[] w fun e w' => ∃ q, e = .returned (.pointer (some ⟨q, 0, none⟩)) ∧ w.heap.size ≤ q ∧ Below w.heap.size w w' ∧ One w0 w' q [] :=
  (new_call w w0.heap.size hb.size).mono fun e w' ⟨⟨q, h1, h2, h3⟩, h4⟩ => ⟨q, h1, h2, h4, h3, hb.trans (h4.mono hb.size), hL⟩
def aw1 : En := newE (lf 256) 0
def aw2 : En := sendE aw1 10
def aw3 : En := newE (lf 257) 0
theorem awa : addF [] 0 (lf 256) = ([aw1], 0) := by kernel_rfl
theorem awb : sendF [aw1] 0 256 10 = ([aw2], (lf 256).f0, 1, 0) := by kernel_rfl
theorem awc : pickF [aw2] 0 1 = (256, 0) := by kernel_rfl
theorem awd : addF [aw2] 0 (lf 257) = ([aw2, aw3], 0) := by kernel_rfl
theorem awe : pickF [aw2, aw3] 0 1 = (257, 0) := by kernel_rfl
theorem awg1 : Good 0 aw1 := newE_good _ _ _ (by kernel_rfl) (by decide) (by decide)
theorem awg2 : Good 1 aw2 := awg1.send (by decide) (by decide) (by kernel_rfl)
theorem awg3 : Good 1 aw3 := newE_good _ _ _ (by kernel_rfl) (by decide) (by decide)
set_option maxHeartbeats 1600000 in
set_option maxRecDepth 100000 in
theorem awake_walk {w : World} (hL : Laid w) : Calls Tryd.prog 12 #[] w fun e w' => e = .returned (.bool true) ∧ Below w.heap.size w w' := by
  have N0 := Aside0.mk (one_new hL (Below.refl _ _))
  have LW := Aside0.mk life_walk
  clear hL
  go_enter Tryd.func12, Tryd.ntmps12
  go_wp2_with (fail)
  refine N0.out.mono ?_
  rintro e w1 ⟨q, rfl, _, _, h⟩
  have O1 := Aside0.mk h
  clear h
  go_wp2_with (fail)
  refine (LW.out 256 w1).mono ?_
  rintro e w2 ⟨rfl, hb⟩
  have O2 := Aside0.mk (O1.out.step hb)
  clear hb
  go_wp2_with (fail)
  refine (add_call O2.out.sad (by decide) 0 (lf 256)).mono ?_
  rintro e w3 h
  rw [awa] at h
  obtain ⟨rfl, h'⟩ := O2.out.turn h
  have O3 := Aside0.mk h'
  clear h h'
  go_wp2_with (fail)
  refine (send_call (k := 0) O3.out.sad O3.out.laid (by decide) 0 256 10 (by decide) (by decide) (fun e he => by rw [List.mem_singleton.1 he]; exact awg1) (by decide) (by decide)).mono ?_
  rintro e w4 h
  rw [awb] at h
  obtain ⟨he, h'⟩ := O3.out.turn h
  change e = .returned (.tuple #[.agg #[.int .i64 256, .string ⟨#[48, 49, 50, 51, 52, 53, 54, 55, 56, 57, 97, 98, 99, 100, 101, 102]⟩, .string ⟨#[115, 97, 108, 116]⟩, .string ⟨#[48, 49, 50, 51, 52, 53, 54, 55, 56, 57, 97, 98, 99, 100, 101, 102, 48, 49, 50, 51, 52, 53, 54, 55, 56, 57, 97, 98, 99, 100, 101, 102]⟩, .bool false, .int .i64 64], .int .u64 1, .int .i64 0]) at he
  subst he
  have O4 := Aside0.mk h'
  clear h h'
  go_wp2_with (first | ((with_reducible refine gate_dst (N := 3) rfl ?_); refine box_event ?hg (N := 3) ?hd (cs := #[.int .i64 0, .string ByteArray.empty, .string ByteArray.empty, .string ByteArray.empty, .bool false, .int .i64 0]) (t := 25) ?hr ?_; (case hd => rfl); (case hg => rfl); (case hr => first | (go_simp; done) | (go_simp; rfl)); intro q3 hq wb hbox hb; have BK3 := Aside0.mk hbox; have HQ3 := Aside0.mk (show w4.heap.size ≤ q3 from by rw [hq]; exact Nat.le_refl _); have HB4 := Aside0.mk hb; clear hbox hb hq) | ((with_reducible refine gate_store (t := 25) (p := 3) rfl ?_); refine store_rowE ?hg 25 (.tmp 3) (.tmp 20) ?ho ?hN q3 ((enc25 (lf 256).f0).toArray) ?hx ?hy 25 _ BK3.out ?hi ?hold ?h1 ?_; (case hg => rfl); (case ho => rfl); (case hN => rfl); (case hx => rfl); (case hy => rfl); (case hi => exact isz25); (case hold => rfl); (case h1 => exact one25 _); intro w5 hw; have HB5 := Aside0.mk (show Below w4.heap.size w4 w5 from by rw [hw]; exact below_setRow HB4.out HQ3.out _); clear hw))
  have O5 := Aside0.mk (O4.out.step HB5.out)
  refine (pick_call O5.out.sad (by decide) 0 1 (fun e he => by rw [List.mem_singleton.1 he]; exact awg2.timed (by decide) (by decide))).mono ?_
  rintro e w6 h
  rw [awc] at h
  obtain ⟨rfl, h'⟩ := O5.out.turn h
  have O6 := Aside0.mk h'
  clear h h'
  go_wp2_with (fail)
  refine (LW.out 257 w6).mono ?_
  rintro e w7 ⟨rfl, hb⟩
  have O7 := Aside0.mk (O6.out.step hb)
  clear hb
  go_wp2_with (fail)
  refine (add_call O7.out.sad (by decide) 0 (lf 257)).mono ?_
  rintro e w8 h
  rw [awd] at h
  obtain ⟨rfl, h'⟩ := O7.out.turn h
  have O8 := Aside0.mk h'
  clear h h'
  go_wp2_with (fail)
  refine (pick_call O8.out.sad (by decide) 0 1 (fun e he => by rcases List.mem_cons.1 he with rfl | he; exact awg2.timed (by decide) (by decide); rw [List.mem_singleton.1 he]; exact awg3.timed (by decide) (by decide))).mono ?_
  rintro e w9 h
  rw [awe] at h
  obtain ⟨rfl, h'⟩ := O8.out.turn h
  have O9 := Aside0.mk h'
  clear h h'
  go_wp2_with (fail)
  go_ret
  exact ⟨rfl, O9.out.below⟩
end Go.Proofs.YtkmnpnbfeiobiaaDoor.Sd
