/- The walks of the laws WindowNil and WindowInfers: for every input they answer true. -/
import Derived.Test.YtddkcepofoifdaaWinD
namespace Go.Proofs.Ytddkcepofoifdaa.Win
open Go.RowKit Go.Proofs.YtddkcepofoifdaaW.PrintWords Go.Proofs.YtddkcepofoifdaaW.PrintLast Go.Proofs.YtddkcepofoifdaaW.PrintMore
set_option linter.unusedVariables false
set_option linter.unusedSimpArgs false
theorem u64_nat {n : Int} (h : (Lit.int .u64 n).wf = true) : ∃ m : Nat, n = (m : Int) ∧ m < 18446744073709551616 := by
  have : 0 ≤ n ∧ n ≤ 18446744073709551615 := by
    simpa [Lit.wf, IntKind.min, IntKind.max, IntKind.signed, IntKind.bits] using h
  exact ⟨n.toNat, by omega, by omega⟩
set_option maxHeartbeats 4000000 in
theorem nil_walk (n low : Int) (w : World) (hn : (Lit.int .u64 n).wf = true) (_hl : (Lit.int .i64 low).wf = true) :
    Calls Try.prog 10 #[.int .u64 n, .int .i64 low] w fun e w' => e = .returned (.bool true) ∧ Below w.heap.size w w' := by
  obtain ⟨m, rfl, hm⟩ := u64_nat hn
  have AW := Aside0.mk awake_walk
  clear hn _hl
  go_enter Try.func10, Try.ntmps10
  go_wp2_with (first | (go_at_call 22; refine (AW.out _).mono ?_; rintro e w1 ⟨rfl, hb⟩; have HB := Aside0.mk hb; clear hb) | (go_at_call 23; refine (infer_nil _ _).mono ?_; rintro e w1 ⟨rfl, rfl⟩) | (go_at_call 28; refine (top_nil _).mono ?_; rintro e w1 ⟨rfl, rfl⟩) | (go_at_call 25; refine (check_nil _ m).mono ?_; rintro e w1 ⟨rfl, rfl⟩) | (go_at_call 21; refine (accept_nil m).mono ?_; rintro e w1 ⟨rfl, k, rfl⟩))
  go_ret
  exact ⟨rfl, pw_below_drewN HB.out _⟩
theorem good_new (L : Nat) : Good L (0, List.replicate L false) := ⟨by simp, by simp⟩
theorem infer_law (L T n : Nat) (h0 : 64 ≤ L) (h1 : L ≤ 1024) (hT : T < 18446744073709551616) (hn : n < 18446744073709551616) (hlow : ¬ (L ≤ T ∧ n ≤ T - L)) (hhigh : ¬ (T ≤ n ∧ 4294967296 - L ≤ n - T)) :
    inferE true T L ((n % 4294967296 : Nat) : Int) = ((n : Int), 0) := by
  have hm : n % 4294967296 < 4294967296 := Nat.mod_lt _ (by decide)
  unfold inferE
  rw [if_neg (by omega), if_neg (by simp)]
  have hH : inferH T L ((n % 4294967296 : Nat) : Int) = (n : Int) / 4294967296 := by
    unfold inferH
    by_cases hA : 0 ≤ (T : Int) % 4294967296 - (L : Int) + 1 ∧ ((n % 4294967296 : Nat) : Int) < (T : Int) % 4294967296 - (L : Int) + 1
    · rw [if_pos hA]; omega
    · rw [if_neg hA]
      by_cases hB : (T : Int) % 4294967296 - (L : Int) + 1 < 0 ∧ (T : Int) % 4294967296 - (L : Int) + 1 + 4294967296 ≤ ((n % 4294967296 : Nat) : Int)
      · rw [if_pos hB]; omega
      · rw [if_neg hB]; omega
  rw [hH, if_neg (by omega)]
  congr 1
  omega
theorem wf_i64 {n : Int} (h : (Lit.int .i64 n).wf = true) : -9223372036854775808 ≤ n ∧ n ≤ 9223372036854775807 := by
  simpa [Lit.wf, IntKind.min, IntKind.max, IntKind.signed, IntKind.bits] using h
set_option maxHeartbeats 4000000 in
theorem infers_bad (size T n : Int) (w : World) (hs : size < 64 ∨ 1024 < size) :
    Calls Try.prog 7 #[.int .i64 size, .int .u64 T, .int .u64 n] w fun e w' => e = .returned (.bool true) ∧ Below w.heap.size w w' := by
  have AW := Aside0.mk awake_walk
  have NB := Aside0.mk (new_bad size hs true w)
  clear hs
  go_enter Try.func7, Try.ntmps7
  go_wp2_with (first | (go_at_call 22; refine (AW.out _).mono ?_; rintro e w1 ⟨rfl, hb⟩; have HB := Aside0.mk hb; clear hb) | (go_at_call 20; refine NB.out.mono ?_; rintro e w1 ⟨rfl, rfl⟩))
  go_ret
  exact ⟨rfl, HB.out⟩
theorem Win.aw {base L g a : Nat} {w0 w w' : World} {wide : Bool} {st : Nat × List Bool} (h : Win base L w0 w g a wide st) (hb : Below w.heap.size w w') : Below base w0 w' := h.below.trans (hb.mono h.lt)
set_option maxHeartbeats 4000000 in
theorem infers_no (L : Nat) (h0 : 64 ≤ L) (h1 : L ≤ 1024) (n : Int) (w : World) :
    Calls Try.prog 7 #[.int .i64 (L : Int), .int .u64 0, .int .u64 n] w fun e w' => e = .returned (.bool true) ∧ Below w.heap.size w w' := by
  have AW := Aside0.mk awake_walk
  have NB := Aside0.mk (Win.new (base := w.heap.size) (w0 := w) L h0 h1 true (Below.refl _ _) (Nat.le_refl _))
  have AC := Aside0.mk fun (W : World) (g a : Nat) (h : Win w.heap.size L w W g a true (0, List.replicate L false)) => h.accept 0 (by decide)
  rw [show chk true (0, List.replicate L false) 0 = 120 from rfl] at AC
  clear h0 h1
  go_enter Try.func7, Try.ntmps7
  go_wp2_with (first | (go_at_call 22; refine (AW.out _).mono ?_; rintro e w1 ⟨rfl, hb⟩; have HB := Aside0.mk hb; clear hb) | (go_at_call 20; refine NB.out.mono ?_; rintro e w1 ⟨g, a, rfl, hw⟩; have HW := Aside0.mk hw; clear hw) | (go_at_call 21; refine (AC.out _ g a HW.out).mono ?_; rintro e w1 ⟨rfl, hw⟩; have HV := Aside0.mk hw; clear hw))
  go_ret
  exact ⟨rfl, HV.out.aw HB.out⟩
set_option maxHeartbeats 4000000 in
theorem infers_ok (L T n : Nat) (h0 : 64 ≤ L) (h1 : L ≤ 1024) (hT0 : T ≠ 0) (hT : T < 18446744073709551616) (hn : n < 18446744073709551616) (w : World) :
    Calls Try.prog 7 #[.int .i64 (L : Int), .int .u64 (T : Int), .int .u64 (n : Int)] w fun e w' => e = .returned (.bool true) ∧ Below w.heap.size w w' := by
  have AW := Aside0.mk awake_walk
  have NB := Aside0.mk (Win.new (base := w.heap.size) (w0 := w) L h0 h1 true (Below.refl _ _) (Nat.le_refl _))
  have AC := Aside0.mk fun (W : World) (g a : Nat) (h : Win w.heap.size L w W g a true (0, List.replicate L false)) => h.accept T hT
  have e0 : chk true (0, List.replicate L false) T = 0 := by
    unfold chk checkE
    rw [if_neg (by simp), if_pos (by simp only; omega)]
  have e1 : (acc true (0, List.replicate L false) T).1 = T := by
    unfold acc
    unfold chk at e0
    rw [if_pos e0]
    simp
  rw [e0] at AC
  have IN := Aside0.mk fun (W : World) (g a : Nat) (h : Win w.heap.size L w W g a true (acc true (0, List.replicate L false) T)) => h.infer ((n % 4294967296 : Nat) : Int)
  rw [e1] at IN
  have LAW := Aside0.mk (infer_law L T n h0 h1 hT hn)
  have es : IntKind.u64.wrap (L : Int) = (L : Int) := by rw [IntKind.wrap_u64]; omega
  have t0 : Int.tmod (n : Int) 4294967296 = ((n % 4294967296 : Nat) : Int) := (Int.ofNat_tmod n 4294967296).symm
  have hx : n % 4294967296 < 4294967296 := Nat.mod_lt _ (by decide)
  obtain ⟨x, hX⟩ : ∃ x, n % 4294967296 = x := ⟨_, rfl⟩
  rw [hX] at t0 hx LAW IN
  have t1 : IntKind.i64.wrap (x : Int) = (x : Int) := IntWalk.i64_in _ (by omega)
  have t2 : IntKind.u64.wrap (x : Int) = (x : Int) := by rw [IntKind.wrap_u64]; omega
  clear e0 e1 hX
  have HT0 := Aside0.mk hT0
  clear hT0
  by_cases d1 : L ≤ T
  · have f1 : decide ((L : Int) ≤ (T : Int)) = true := by simp; omega
    have g1 : IntKind.u64.wrap ((T : Int) - (L : Int)) = ((T - L : Nat) : Int) := by rw [IntKind.wrap_u64]; omega
    go_enter Try.func7, Try.ntmps7
    go_wp2_with (first | (go_at_call 22; refine (AW.out _).mono ?_; rintro e w1 ⟨rfl, hb⟩; have HB := Aside0.mk hb; clear hb) | (go_at_call 20; refine NB.out.mono ?_; rintro e w1 ⟨g, a, rfl, hw⟩; have HW := Aside0.mk hw; clear hw) | (go_at_call 21; refine (AC.out _ g a HW.out).mono ?_; rintro e w1 ⟨rfl, hw⟩; have HV := Aside0.mk hw; clear hw) | (go_at_call 23; refine (IN.out _ g a HV.out).mono ?_; rintro e w1 ⟨rfl, hw⟩; rw [LAW.out (by omega) (by omega)]; have HZ := Aside0.mk hw; clear hw))
    all_goals (
      go_ret
      first
      | exact ⟨rfl, HZ.out.aw HB.out⟩
      | exact ⟨rfl, HV.out.aw HB.out⟩)
  · have f1 : decide ((L : Int) ≤ (T : Int)) = false := by simp; omega
    go_enter Try.func7, Try.ntmps7
    go_wp2_with (first | (go_at_call 22; refine (AW.out _).mono ?_; rintro e w1 ⟨rfl, hb⟩; have HB := Aside0.mk hb; clear hb) | (go_at_call 20; refine NB.out.mono ?_; rintro e w1 ⟨g, a, rfl, hw⟩; have HW := Aside0.mk hw; clear hw) | (go_at_call 21; refine (AC.out _ g a HW.out).mono ?_; rintro e w1 ⟨rfl, hw⟩; have HV := Aside0.mk hw; clear hw) | (go_at_call 23; refine (IN.out _ g a HV.out).mono ?_; rintro e w1 ⟨rfl, hw⟩; rw [LAW.out (by omega) (by omega)]; have HZ := Aside0.mk hw; clear hw))
    all_goals (
      go_ret
      first
      | exact ⟨rfl, HZ.out.aw HB.out⟩
      | exact ⟨rfl, HV.out.aw HB.out⟩)
theorem infers_walk (size T n : Int) (w : World) (h1 : (Lit.int .i64 size).wf = true) (h2 : (Lit.int .u64 T).wf = true) (h3 : (Lit.int .u64 n).wf = true) :
    Calls Try.prog 7 #[.int .i64 size, .int .u64 T, .int .u64 n] w fun e w' => e = .returned (.bool true) ∧ Below w.heap.size w w' := by
  obtain ⟨n, rfl, hn⟩ := u64_nat h3
  obtain ⟨T, rfl, hT⟩ := u64_nat h2
  by_cases hs : size < 64 ∨ 1024 < size
  · exact infers_bad size _ _ w hs
  · obtain ⟨L, rfl⟩ : ∃ L : Nat, size = (L : Int) := ⟨size.toNat, by omega⟩
    by_cases h0 : T = 0
    · subst h0; exact infers_no L (by omega) (by omega) _ w
    · exact infers_ok L T n (by omega) (by omega) h0 hT hn w
end Go.Proofs.Ytddkcepofoifdaa.Win
