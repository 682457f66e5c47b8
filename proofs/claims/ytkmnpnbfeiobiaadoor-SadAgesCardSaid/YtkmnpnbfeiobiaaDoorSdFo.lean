/- The law SadFollows. -/
import Derived.Test.YtkmnpnbfeiobiaaDoorSdO
namespace Go.Proofs.YtkmnpnbfeiobiaaDoor.Sd
open Go.RowKit Go.Proofs.YtkmnpnbfeiobiaaDoorW.PrintWords Go.Proofs.YtkmnpnbfeiobiaaDoorW.PrintLast Go.Proofs.YtkmnpnbfeiobiaaDoorW.PrintMore Go.Proofs.YtkmnpnbfeiobiaaDoor.QSa
open Go.Proofs.YtkmnpnbfeiobiaaDoor
set_option linter.unusedVariables false
set_option linter.unusedSimpArgs false
theorem Turn.keep {T : Ty} {base k : Nat} {w w' : World} {cs : Array Value} {t : TypeId} (h : Turn T base w w') (hk : w.heap[k]? = some (.cells cs t (0, 0))) (ht : ¬ T.has t) : w'.heap[k]? = some (.cells cs t (0, 0)) :=
  (h.block k (blk_lt hk) (.inr fun cs' t' hc => by
    rw [hk] at hc
    injection hc with hc
    injection hc with _ e _
    rw [← e]
    exact ht)).trans hk
/-- The two lives of the law. -/
def fo (n soft most : Int) : S27 := ⟨(lf n).f0, 1, true, 0, 0, soft, most⟩
theorem fo_may {n soft most : Int} (hn : n = 300 ∨ n = 301) (h0 : 0 ≤ soft) (h1 : 0 ≤ most) : mayL (fo n soft most) = true := by
  have hp : mayP (fo n soft most).f0 = true := by rcases hn with rfl | rfl <;> kernel_rfl
  simp only [mayL, Bool.and_eq_true, decide_eq_true_eq]
  exact ⟨⟨⟨⟨⟨hp, by show (0 : Int) ≤ 1; decide⟩, by show (0 : Int) ≤ 0; decide⟩, by show (0 : Int) ≤ 0; decide⟩, h0⟩, h1⟩
theorem fo_add1 {soft most : Int} (h0 : 0 ≤ soft) (h1 : 0 ≤ most) : addF [] 0 (fo 300 soft most) = ([newE (fo 300 soft most) 0], 0) := by
  unfold addF
  rw [if_pos ⟨fo_may (.inl rfl) h0 h1, by decide⟩]
  rfl
theorem fo_add2 {soft most later : Int} (h0 : 0 ≤ soft) (h1 : 0 ≤ most) (hl : 0 ≤ later) : addF [newE (fo 300 soft most) 0] later (fo 301 soft most) = ([newE (fo 300 soft most) 0, newE (fo 301 soft most) later], 0) := by
  unfold addF
  rw [if_pos ⟨fo_may (.inr rfl) h0 h1, hl⟩]
  rfl
theorem fo_age (n soft most born now : Int) (h0 : 0 < soft) (h1 : 0 < most) : ageE (newE (fo n soft most) born) now = if most ≤ now - born then 2 else if soft ≤ now - born then 1 else 0 := by
  have e : ageE (newE (fo n soft most) born) now = ageB (reachB 0 0) (reachB (now - born) most) (reachB 0 0) (reachB (now - born) soft) := rfl
  have z : reachB 0 0 = false := by decide
  rw [e, z]
  have a1 : reachB (now - born) most = decide (most ≤ now - born) := by unfold reachB; rw [decide_eq_true h1]; rfl
  have a2 : reachB (now - born) soft = decide (soft ≤ now - born) := by unfold reachB; rw [decide_eq_true h0]; rfl
  rw [a1, a2]
  unfold ageB
  simp only [decide_eq_true_eq, Bool.false_eq_true, if_false]
theorem fo_pick {soft most later now : Int} (h0 : 0 < soft) (h1 : soft < most) (hl : 0 ≤ later) (hn : 0 ≤ now) : pickF [newE (fo 300 soft most) 0, newE (fo 301 soft most) later] now 1 = if now < soft then (300, 0) else if now - later < most then (301, 0) else if now < most then (300, 0) else (0, 161) := by
  have s0 : (newE (fo 300 soft most) 0).life.f0.f0 = 300 := rfl
  have s1 : (newE (fo 301 soft most) later).life.f0.f0 = 301 := rfl
  have r0 : (newE (fo 300 soft most) 0).life.f1 = 1 := rfl
  have r1 : (newE (fo 301 soft most) later).life.f1 = 1 := rfl
  have o0 : (newE (fo 300 soft most) 0).life.f2 = true := rfl
  have o1 : (newE (fo 301 soft most) later).life.f2 = true := rfl
  unfold pickF
  simp only [pickL, s0, s1, r0, r1, o0, o1, if_true, fo_age _ _ _ _ _ h0 (show 0 < most by omega)]
  repeat' split
  all_goals first | rfl | (exfalso; omega)
set_option maxHeartbeats 3200000 in
set_option maxRecDepth 100000 in
theorem follows_out {w : World} (soft most later now : Int) (h : soft < 1 ∨ most ≤ soft ∨ 1000000 < most ∨ later < 0 ∨ 1000000 < later ∨ now < 0 ∨ 3000000 < now) :
    Calls Tryd.prog 3 #[.int .i64 soft, .int .i64 most, .int .i64 later, .int .i64 now] w fun e w' => e = .returned (.bool true) ∧ Below w.heap.size w w' := by
  have HB := Aside0.mk (Below.refl w.heap.size w)
  by_cases c0 : soft < 1
  · have d0 : decide (soft < 1) = true := decide_eq_true c0
    clear h c0
    go_enter Tryd.func3, Tryd.ntmps3
    go_wp2_with (fail)
    go_ret
    exact ⟨rfl, HB.out⟩
  have d0 : decide (soft < 1) = false := decide_eq_false c0
  by_cases c1 : most ≤ soft
  · have d1 : decide (most ≤ soft) = true := decide_eq_true c1
    clear h c0 c1
    go_enter Tryd.func3, Tryd.ntmps3
    go_wp2_with (fail)
    go_ret
    exact ⟨rfl, HB.out⟩
  have d1 : decide (most ≤ soft) = false := decide_eq_false c1
  by_cases c2 : 1000000 < most
  · have d2 : decide (1000000 < most) = true := decide_eq_true c2
    clear h c0 c1 c2
    go_enter Tryd.func3, Tryd.ntmps3
    go_wp2_with (fail)
    go_ret
    exact ⟨rfl, HB.out⟩
  have d2 : decide (1000000 < most) = false := decide_eq_false c2
  by_cases c3 : later < 0
  · have d3 : decide (later < 0) = true := decide_eq_true c3
    clear h c0 c1 c2 c3
    go_enter Tryd.func3, Tryd.ntmps3
    go_wp2_with (fail)
    go_ret
    exact ⟨rfl, HB.out⟩
  have d3 : decide (later < 0) = false := decide_eq_false c3
  by_cases c4 : 1000000 < later
  · have d4 : decide (1000000 < later) = true := decide_eq_true c4
    clear h c0 c1 c2 c3 c4
    go_enter Tryd.func3, Tryd.ntmps3
    go_wp2_with (fail)
    go_ret
    exact ⟨rfl, HB.out⟩
  have d4 : decide (1000000 < later) = false := decide_eq_false c4
  by_cases c5 : now < 0
  · have d5 : decide (now < 0) = true := decide_eq_true c5
    clear h c0 c1 c2 c3 c4 c5
    go_enter Tryd.func3, Tryd.ntmps3
    go_wp2_with (fail)
    go_ret
    exact ⟨rfl, HB.out⟩
  have d5 : decide (now < 0) = false := decide_eq_false c5
  by_cases c6 : 3000000 < now
  · have d6 : decide (3000000 < now) = true := decide_eq_true c6
    clear h c0 c1 c2 c3 c4 c5 c6
    go_enter Tryd.func3, Tryd.ntmps3
    go_wp2_with (fail)
    go_ret
    exact ⟨rfl, HB.out⟩
  have d6 : decide (3000000 < now) = false := decide_eq_false c6
  omega
set_option maxHeartbeats 3200000 in
set_option maxRecDepth 100000 in
theorem follows_main {w : World} (hL : Laid w) (soft most later now : Int) (h1 : 1 ≤ soft) (h2 : soft < most) (h3 : most ≤ 1000000) (h4 : 0 ≤ later) (h5 : later ≤ 1000000) (h6 : 0 ≤ now) (h7 : now ≤ 3000000) :
    Calls Tryd.prog 3 #[.int .i64 soft, .int .i64 most, .int .i64 later, .int .i64 now] w fun e w' => e = .returned (.bool true) ∧ Below w.heap.size w w' := by
  have N0 := Aside0.mk (one_new hL (Below.refl _ _))
  have LW := Aside0.mk life_walk
  have A1 := Aside0.mk (fo_add1 (soft := soft) (most := most) (by omega) (by omega))
  have A2 := Aside0.mk (fo_add2 (soft := soft) (most := most) (later := later) (by omega) (by omega) h4)
  have PK := Aside0.mk (fo_pick (soft := soft) (most := most) (later := later) (now := now) (by omega) h2 h4 h6)
  have TM := Aside0.mk (show ∀ e ∈ [newE (fo 300 soft most) 0, newE (fo 301 soft most) later], Timed e now from fun e he => by
    rcases List.mem_cons.1 he with rfl | he
    · show -4611686018427387904 ≤ now - 0 ∧ now - 0 ≤ 4611686018427387904
      omega
    · rw [List.mem_singleton.1 he]
      show -4611686018427387904 ≤ now - later ∧ now - later ≤ 4611686018427387904
      omega)
  have d1 : decide (soft < 1) = false := decide_eq_false (by omega)
  have d2 : decide (most ≤ soft) = false := decide_eq_false (by omega)
  have d3 : decide (1000000 < most) = false := decide_eq_false (by omega)
  have d4 : decide (later < 0) = false := decide_eq_false (by omega)
  have d5 : decide (1000000 < later) = false := decide_eq_false (by omega)
  have d6 : decide (now < 0) = false := decide_eq_false (by omega)
  have d7 : decide (3000000 < now) = false := decide_eq_false (by omega)
  have hsub : IntKind.i64.wrap (now - later) = now - later := IntWalk.i64_in _ (by omega)
  have HSUB := Aside0.mk hsub
  clear hsub
  clear hL
  go_enter Tryd.func3, Tryd.ntmps3
  go_wp2_with (fail)
  refine N0.out.mono ?_
  rintro e w1 ⟨q, rfl, _, _, h⟩
  have O1 := Aside0.mk h
  clear h
  go_wp2_with (fail)
  refine (LW.out 300 w1).mono ?_
  rintro e w2 ⟨he, hb⟩
  change e = .returned (.agg #[.int .i64 300, .string ⟨#[48, 49, 50, 51, 52, 53, 54, 55, 56, 57, 97, 98, 99, 100, 101, 102]⟩, .string ⟨#[115, 97, 108, 116]⟩, .string ⟨#[48, 49, 50, 51, 52, 53, 54, 55, 56, 57, 97, 98, 99, 100, 101, 102, 48, 49, 50, 51, 52, 53, 54, 55, 56, 57, 97, 98, 99, 100, 101, 102]⟩, .bool false, .int .i64 64, .int .i64 1, .bool true, .int .i64 10, .int .i64 0, .int .i64 0, .int .i64 0]) at he
  subst he
  have O2 := Aside0.mk (O1.out.step hb)
  clear hb
  go_wp2_with (fail)
  have hb4 : Below w2.heap.size w2 ((w2.alloc (.cells #[.int .i64 300, .string ⟨#[48, 49, 50, 51, 52, 53, 54, 55, 56, 57, 97, 98, 99, 100, 101, 102]⟩, .string ⟨#[115, 97, 108, 116]⟩, .string ⟨#[48, 49, 50, 51, 52, 53, 54, 55, 56, 57, 97, 98, 99, 100, 101, 102, 48, 49, 50, 51, 52, 53, 54, 55, 56, 57, 97, 98, 99, 100, 101, 102]⟩, .bool false, .int .i64 64, .int .i64 1, .bool true, .int .i64 0, .int .i64 0, .int .i64 soft, .int .i64 most] 27)).alloc (.cells #[.int .i64 301, .string ⟨#[48, 49, 50, 51, 52, 53, 54, 55, 56, 57, 97, 98, 99, 100, 101, 102]⟩, .string ⟨#[115, 97, 108, 116]⟩, .string ⟨#[48, 49, 50, 51, 52, 53, 54, 55, 56, 57, 97, 98, 99, 100, 101, 102, 48, 49, 50, 51, 52, 53, 54, 55, 56, 57, 97, 98, 99, 100, 101, 102]⟩, .bool false, .int .i64 64, .int .i64 1, .bool true, .int .i64 0, .int .i64 0, .int .i64 soft, .int .i64 most] 27)) := below_alloc (below_alloc (Below.refl _ _) _) _
  have hy4 : ((w2.alloc (.cells #[.int .i64 300, .string ⟨#[48, 49, 50, 51, 52, 53, 54, 55, 56, 57, 97, 98, 99, 100, 101, 102]⟩, .string ⟨#[115, 97, 108, 116]⟩, .string ⟨#[48, 49, 50, 51, 52, 53, 54, 55, 56, 57, 97, 98, 99, 100, 101, 102, 48, 49, 50, 51, 52, 53, 54, 55, 56, 57, 97, 98, 99, 100, 101, 102]⟩, .bool false, .int .i64 64, .int .i64 1, .bool true, .int .i64 0, .int .i64 0, .int .i64 soft, .int .i64 most] 27)).alloc (.cells #[.int .i64 301, .string ⟨#[48, 49, 50, 51, 52, 53, 54, 55, 56, 57, 97, 98, 99, 100, 101, 102]⟩, .string ⟨#[115, 97, 108, 116]⟩, .string ⟨#[48, 49, 50, 51, 52, 53, 54, 55, 56, 57, 97, 98, 99, 100, 101, 102, 48, 49, 50, 51, 52, 53, 54, 55, 56, 57, 97, 98, 99, 100, 101, 102]⟩, .bool false, .int .i64 64, .int .i64 1, .bool true, .int .i64 0, .int .i64 0, .int .i64 soft, .int .i64 most] 27)).heap[w2.heap.size + 1]? = some (.cells #[.int .i64 301, .string ⟨#[48, 49, 50, 51, 52, 53, 54, 55, 56, 57, 97, 98, 99, 100, 101, 102]⟩, .string ⟨#[115, 97, 108, 116]⟩, .string ⟨#[48, 49, 50, 51, 52, 53, 54, 55, 56, 57, 97, 98, 99, 100, 101, 102, 48, 49, 50, 51, 52, 53, 54, 55, 56, 57, 97, 98, 99, 100, 101, 102]⟩, .bool false, .int .i64 64, .int .i64 1, .bool true, .int .i64 0, .int .i64 0, .int .i64 soft, .int .i64 most] 27 (0, 0)) := by simpa using blk_new (w2.alloc (.cells #[.int .i64 300, .string ⟨#[48, 49, 50, 51, 52, 53, 54, 55, 56, 57, 97, 98, 99, 100, 101, 102]⟩, .string ⟨#[115, 97, 108, 116]⟩, .string ⟨#[48, 49, 50, 51, 52, 53, 54, 55, 56, 57, 97, 98, 99, 100, 101, 102, 48, 49, 50, 51, 52, 53, 54, 55, 56, 57, 97, 98, 99, 100, 101, 102]⟩, .bool false, .int .i64 64, .int .i64 1, .bool true, .int .i64 0, .int .i64 0, .int .i64 soft, .int .i64 most] 27)) (.cells #[.int .i64 301, .string ⟨#[48, 49, 50, 51, 52, 53, 54, 55, 56, 57, 97, 98, 99, 100, 101, 102]⟩, .string ⟨#[115, 97, 108, 116]⟩, .string ⟨#[48, 49, 50, 51, 52, 53, 54, 55, 56, 57, 97, 98, 99, 100, 101, 102, 48, 49, 50, 51, 52, 53, 54, 55, 56, 57, 97, 98, 99, 100, 101, 102]⟩, .bool false, .int .i64 64, .int .i64 1, .bool true, .int .i64 0, .int .i64 0, .int .i64 soft, .int .i64 most] 27)
  obtain ⟨w4, hw4⟩ : ∃ W, (w2.alloc (.cells #[.int .i64 300, .string ⟨#[48, 49, 50, 51, 52, 53, 54, 55, 56, 57, 97, 98, 99, 100, 101, 102]⟩, .string ⟨#[115, 97, 108, 116]⟩, .string ⟨#[48, 49, 50, 51, 52, 53, 54, 55, 56, 57, 97, 98, 99, 100, 101, 102, 48, 49, 50, 51, 52, 53, 54, 55, 56, 57, 97, 98, 99, 100, 101, 102]⟩, .bool false, .int .i64 64, .int .i64 1, .bool true, .int .i64 0, .int .i64 0, .int .i64 soft, .int .i64 most] 27)).alloc (.cells #[.int .i64 301, .string ⟨#[48, 49, 50, 51, 52, 53, 54, 55, 56, 57, 97, 98, 99, 100, 101, 102]⟩, .string ⟨#[115, 97, 108, 116]⟩, .string ⟨#[48, 49, 50, 51, 52, 53, 54, 55, 56, 57, 97, 98, 99, 100, 101, 102, 48, 49, 50, 51, 52, 53, 54, 55, 56, 57, 97, 98, 99, 100, 101, 102]⟩, .bool false, .int .i64 64, .int .i64 1, .bool true, .int .i64 0, .int .i64 0, .int .i64 soft, .int .i64 most] 27) = W := ⟨_, rfl⟩
  rw [hw4] at hb4 hy4 ⊢
  have O4 := Aside0.mk (O2.out.step hb4)
  have BY := Aside0.mk hy4
  clear hb4 hy4 hw4
  obtain ⟨qy, hqy⟩ : ∃ k, w2.heap.size + 1 = k := ⟨_, rfl⟩
  rw [hqy] at BY ⊢
  clear hqy
  refine (add_call O4.out.sad (by decide) 0 (fo 300 soft most)).mono ?_
  rintro e w5 h
  rw [A1.out] at h
  have BY5 := Aside0.mk (h.2.2.keep BY.out (by unfold Ty.has; decide))
  obtain ⟨rfl, h'⟩ := O4.out.turn h
  have O5 := Aside0.mk h'
  clear h h'
  have LD := Aside0.mk (show (loadVar 27 ⟨qy, 0, none⟩).run Tryd.prog w5 = .ok (.agg #[.int .i64 301, .string ⟨#[48, 49, 50, 51, 52, 53, 54, 55, 56, 57, 97, 98, 99, 100, 101, 102]⟩, .string ⟨#[115, 97, 108, 116]⟩, .string ⟨#[48, 49, 50, 51, 52, 53, 54, 55, 56, 57, 97, 98, 99, 100, 101, 102, 48, 49, 50, 51, 52, 53, 54, 55, 56, 57, 97, 98, 99, 100, 101, 102]⟩, .bool false, .int .i64 64, .int .i64 1, .bool true, .int .i64 0, .int .i64 0, .int .i64 soft, .int .i64 most]) w5 from load27b (x := fo 301 soft most) BY5.out)
  go_wp2_with (first | ((with_reducible refine gate_dst (N := 60) rfl ?_); (try (refine gate_guard (by rfl) ?_; dsimp only)); refine Kd.event_run (v := .agg #[.int .i64 301, .string ⟨#[48, 49, 50, 51, 52, 53, 54, 55, 56, 57, 97, 98, 99, 100, 101, 102]⟩, .string ⟨#[115, 97, 108, 116]⟩, .string ⟨#[48, 49, 50, 51, 52, 53, 54, 55, 56, 57, 97, 98, 99, 100, 101, 102, 48, 49, 50, 51, 52, 53, 54, 55, 56, 57, 97, 98, 99, 100, 101, 102]⟩, .bool false, .int .i64 64, .int .i64 1, .bool true, .int .i64 0, .int .i64 0, .int .i64 soft, .int .i64 most]) (w1 := w5) ?hg (load_runA 27 (.tmp 11) ⟨qy, 0, none⟩ #[.int .i64 301, .string ⟨#[48, 49, 50, 51, 52, 53, 54, 55, 56, 57, 97, 98, 99, 100, 101, 102]⟩, .string ⟨#[115, 97, 108, 116]⟩, .string ⟨#[48, 49, 50, 51, 52, 53, 54, 55, 56, 57, 97, 98, 99, 100, 101, 102, 48, 49, 50, 51, 52, 53, 54, 55, 56, 57, 97, 98, 99, 100, 101, 102]⟩, .bool false, .int .i64 64, .int .i64 1, .bool true, .int .i64 0, .int .i64 0, .int .i64 soft, .int .i64 most] ?ho ?hx LD.out) ?_; (case hg => rfl); (case ho => rfl); (case hx => rfl)))
  refine (add_call O5.out.sad (by simp) later (fo 301 soft most)).mono ?_
  rintro e w6 h
  rw [A2.out] at h
  obtain ⟨rfl, h'⟩ := O5.out.turn h
  have O6 := Aside0.mk h'
  clear h h'
  go_wp2_with (fail)
  refine (pick_call O6.out.sad (by simp) now 1 TM.out).mono ?_
  rintro e w7 h
  rw [PK.out] at h
  obtain ⟨he, h'⟩ := O6.out.turn h
  have O7 := Aside0.mk h'
  clear h h'
  have AW := Aside0.mk (awake_walk O7.out.laid)
  have HSB := HSUB.out
  obtain ⟨dt, hdt⟩ : ∃ d, now - later = d := ⟨_, rfl⟩
  have hsub : IntKind.i64.wrap (now - later) = dt := HSB.trans hdt
  rw [hdt] at he
  clear HSB
  have HDT := Aside0.mk hdt
  clear hdt
  by_cases c1 : now < soft
  · rw [if_pos c1] at he
    subst he
    have d8 : decide (now < soft) = true := decide_eq_true c1
    clear c1
    go_wp2_with (fail)
    refine AW.out.mono ?_
    rintro e w8 ⟨rfl, hb⟩
    have HB8 := Aside0.mk (O7.out.step hb).below
    clear hb
    go_wp2_with (fail)
    go_ret
    exact ⟨rfl, HB8.out⟩
  have d8 : decide (now < soft) = false := decide_eq_false c1
  rw [if_neg c1] at he
  by_cases c2 : dt < most
  · rw [if_pos c2] at he
    subst he
    have d9 : decide (dt < most) = true := decide_eq_true c2
    clear c1 c2
    go_wp2_with (fail)
    refine AW.out.mono ?_
    rintro e w8 ⟨rfl, hb⟩
    have HB8 := Aside0.mk (O7.out.step hb).below
    clear hb
    go_wp2_with (fail)
    go_ret
    exact ⟨rfl, HB8.out⟩
  have d9 : decide (dt < most) = false := decide_eq_false c2
  rw [if_neg c2] at he
  have c3 : ¬ now < most := by have := HDT.out; omega
  rw [if_neg c3] at he
  subst he
  have d10 : decide (now < most) = false := decide_eq_false c3
  have d11 : decide (most ≤ now) = true := decide_eq_true (by omega)
  clear c1 c2 c3
  go_wp2_with (fail)
  refine AW.out.mono ?_
  rintro e w8 ⟨rfl, hb⟩
  have HB8 := Aside0.mk (O7.out.step hb).below
  clear hb
  go_wp2_with (fail)
  go_ret
  exact ⟨rfl, HB8.out⟩
theorem follows_law (soft most later now : Int) (w : World) (hL : Laid w) (h1 : (Lit.int .i64 soft).wf = true) (h2 : (Lit.int .i64 most).wf = true) (h3 : (Lit.int .i64 later).wf = true) (h4 : (Lit.int .i64 now).wf = true) :
    Calls Tryd.prog 3 #[.int .i64 soft, .int .i64 most, .int .i64 later, .int .i64 now] w fun e w' => e = .returned (.bool true) ∧ Below w.heap.size w w' := by
  by_cases h : soft < 1 ∨ most ≤ soft ∨ 1000000 < most ∨ later < 0 ∨ 1000000 < later ∨ now < 0 ∨ 3000000 < now
  · exact follows_out soft most later now h
  · exact follows_main hL soft most later now (by omega) (by omega) (by omega) (by omega) (by omega) (by omega) (by omega)
end Go.Proofs.YtkmnpnbfeiobiaaDoor.Sd
