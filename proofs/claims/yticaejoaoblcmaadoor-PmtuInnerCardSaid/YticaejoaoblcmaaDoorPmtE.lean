/- The walk of the law PmtuInner: for every input it answers true. -/
import Derived.Test.YticaejoaoblcmaaDoorPmtD
namespace Go.Proofs.YticaejoaoblcmaaDoor.Pmt
open Go.RowKit Go.Maps Go.Proofs.YticaejoaoblcmaaDoorW.PrintWords Go.Proofs.YticaejoaoblcmaaDoorW.PrintLast Go.Proofs.YticaejoaoblcmaaDoorW.PrintMore Go.Proofs.YticaejoaoblcmaaDoor.PPmtuInner
set_option linter.unusedVariables false
set_option linter.unusedSimpArgs false
attribute [local go_sem] max2_int min2_int max_two min_two max_three min_three max_four min_four
/-- The plain law: the greatest that goes through. -/
theorem inner_zero {mtu : Int} {wide tunnel : Bool} (h0 : 0 ≤ mtu) : innerE mtu wide tunnel = 0 ↔ mtu < outerE 0 wide := by
  unfold innerE outerE lenE hdE
  cases wide <;> cases tunnel <;> simp only [if_true, if_false, Bool.false_eq_true] <;> split <;> omega
theorem inner_law {mtu : Int} {wide tunnel : Bool} (h0 : 0 ≤ mtu) (h1 : ¬ mtu < outerE 0 wide) (h2 : mtu ≤ 100000) :
    ∃ n, innerE mtu wide tunnel - (if tunnel then 0 else hdE wide) = n ∧ 0 ≤ n ∧ n ≤ 200000 ∧ hdE wide + lenE n ≤ mtu ∧ mtu < hdE wide + lenE (n + 1) := by
  unfold innerE
  rw [if_neg h1]
  refine ⟨(mtu - outerE 0 wide) / 4 * 4 + 2, by omega, ?_⟩
  unfold outerE lenE hdE at *
  cases wide <;> simp only [if_true, if_false, Bool.false_eq_true] at * <;> omega
set_option maxHeartbeats 4000000 in
theorem innerlaw_out (mtu : Int) (hm : mtu < 0 ∨ 100000 < mtu) (wide tunnel : Bool) (w : World) (h : Heads w) : Calls Tryd.prog 4 #[.int .i64 mtu, .bool wide, .bool tunnel] w fun e w' => e = .returned (.bool true) ∧ Below w.heap.size w w' := by
  have AW := Aside0.mk (awake_walk w h)
  clear h
  by_cases h1 : 100000 < mtu
  · have c1 : decide (100000 < mtu) = true := decide_eq_true h1
    clear hm h1
    go_enter Tryd.func4, Tryd.ntmps4
    go_wp2_with (first | (go_at_call 11; refine AW.out.mono ?_; rintro e w1 ⟨rfl, hb⟩; have HB := Aside0.mk hb; clear hb))
    go_ret
    exact ⟨rfl, HB.out⟩
  · have c1 : decide (100000 < mtu) = false := decide_eq_false h1
    have c2 : decide (mtu < 0) = true := decide_eq_true (by omega)
    clear hm h1
    go_enter Tryd.func4, Tryd.ntmps4
    go_wp2_with (first | (go_at_call 11; refine AW.out.mono ?_; rintro e w1 ⟨rfl, hb⟩; have HB := Aside0.mk hb; clear hb))
    go_ret
    exact ⟨rfl, HB.out⟩
set_option maxHeartbeats 4000000 in
theorem innerlaw_zero (mtu : Int) (h0 : 0 ≤ mtu) (h1 : mtu ≤ 100000) (wide tunnel : Bool) (hz : mtu < outerE 0 wide) (w : World) (h : Heads w) : Calls Tryd.prog 4 #[.int .i64 mtu, .bool wide, .bool tunnel] w fun e w' => e = .returned (.bool true) ∧ Below w.heap.size w w' := by
  have AW := Aside0.mk fun (m : Nat) => awake_walk (w.drewN m) (h.drewN m)
  have IN := Aside0.mk (inner_walk mtu h0 h1 wide tunnel w h)
  rw [(inner_zero h0).mpr hz] at IN
  have OU := Aside0.mk fun (W : World) (hb : Below w.heap.size w W) => outer_walk 0 (by decide) (by decide) wide tunnel W (h.below hb)
  have L0 := Aside0.mk fun (W : World) => len_walk 0 (by decide) (by decide) W
  have el : lenE 0 = 36 := rfl
  have eo : outerE 0 wide = hdE wide + 36 := rfl
  rw [eo] at OU hz
  rw [el] at L0
  clear el eo h
  have c1 : decide (100000 < mtu) = false := decide_eq_false (by omega)
  have c2 : decide (mtu < 0) = false := decide_eq_false (by omega)
  cases wide
  · have c3 : decide (mtu < 56) = true := decide_eq_true (by simpa [hdE] using hz)
    rw [show hdE false + 36 = 56 from rfl] at OU
    clear hz
    go_enter Tryd.func4, Tryd.ntmps4
    go_wp2_with (first | (go_at_call 12; refine IN.out.mono ?_; rintro e w1 ⟨rfl, m, rfl⟩) | (go_at_call 11; refine (AW.out _).mono ?_; rintro e w1 ⟨rfl, hb⟩; have HB := Aside0.mk ((pw_below_drewN (Below.refl w.heap.size w) m).trans hb); clear hb) | (go_at_call 13; refine (OU.out _ HB.out).mono ?_; rintro e w1 ⟨rfl, m1, rfl⟩) | (go_at_call 14; refine (L0.out _).mono ?_; rintro e w1 ⟨rfl, m2, rfl⟩))
    go_ret
    exact ⟨rfl, pw_below_drewN HB.out _⟩
  · have c3 : decide (mtu < 76) = true := decide_eq_true (by simpa [hdE] using hz)
    rw [show hdE true + 36 = 76 from rfl] at OU
    clear hz
    go_enter Tryd.func4, Tryd.ntmps4
    go_wp2_with (first | (go_at_call 12; refine IN.out.mono ?_; rintro e w1 ⟨rfl, m, rfl⟩) | (go_at_call 11; refine (AW.out _).mono ?_; rintro e w1 ⟨rfl, hb⟩; have HB := Aside0.mk ((pw_below_drewN (Below.refl w.heap.size w) m).trans hb); clear hb) | (go_at_call 13; refine (OU.out _ HB.out).mono ?_; rintro e w1 ⟨rfl, m1, rfl⟩) | (go_at_call 14; refine (L0.out _).mono ?_; rintro e w1 ⟨rfl, m2, rfl⟩))
    go_ret
    exact ⟨rfl, pw_below_drewN HB.out _⟩
set_option maxHeartbeats 4000000 in
theorem innerlaw_more (mtu : Int) (h0 : 0 ≤ mtu) (h1 : mtu ≤ 100000) (wide tunnel : Bool) (hz : ¬ mtu < outerE 0 wide) (w : World) (h : Heads w) : Calls Tryd.prog 4 #[.int .i64 mtu, .bool wide, .bool tunnel] w fun e w' => e = .returned (.bool true) ∧ Below w.heap.size w w' := by
  have AW := Aside0.mk fun (m : Nat) => awake_walk (w.drewN m) (h.drewN m)
  have IN := Aside0.mk (inner_walk mtu h0 h1 wide tunnel w h)
  have hb := inner_bounds mtu h0 h1 wide tunnel
  have hnz : innerE mtu wide tunnel ≠ 0 := fun e => hz ((inner_zero h0).mp e)
  obtain ⟨n, hn, n0, n1, n2, n3⟩ := inner_law (tunnel := tunnel) h0 hz h1
  have OU := Aside0.mk fun (W : World) (hb : Below w.heap.size w W) => outer_walk n n0 (by omega) wide tunnel W (h.below hb)
  have LN := Aside0.mk fun (W : World) => len_walk n n0 (by omega) W
  have LN1 := Aside0.mk fun (W : World) => len_walk (n + 1) (by omega) (by omega) W
  have eo : outerE n wide = hdE wide + lenE n := rfl
  rw [eo] at OU
  have c1 : decide (100000 < mtu) = false := decide_eq_false (by omega)
  have c2 : decide (mtu < 0) = false := decide_eq_false (by omega)
  obtain ⟨i, hi⟩ : ∃ i, innerE mtu wide tunnel = i := ⟨_, rfl⟩
  rw [hi] at IN hb hnz hn
  obtain ⟨l, hl⟩ : ∃ i, lenE n = i := ⟨_, rfl⟩
  obtain ⟨k, hk⟩ : ∃ i, lenE (n + 1) = i := ⟨_, rfl⟩
  have hl0 : 0 ≤ l ∧ l ≤ 1000000 := by rw [← hl]; unfold lenE; omega
  have hk0 : 0 ≤ k ∧ k ≤ 1000000 := by rw [← hk]; unfold lenE; omega
  rw [hl] at OU LN n2
  rw [hk] at LN1 n3
  have c3 : ((i : Int) == 0) = false := by simpa using hnz
  have e1 : wrap64 (n + 1) = n + 1 := IntWalk.wrap64_in _ (by omega)
  have c4 : decide (0 ≤ n) = true := decide_eq_true n0
  cases wide
  · have e2 : wrap64 (20 + l) = 20 + l := IntWalk.wrap64_in _ (by omega)
    have e3 : wrap64 (20 + k) = 20 + k := IntWalk.wrap64_in _ (by omega)
    rw [show hdE false = 20 from rfl] at OU n2 n3 hn
    have c5 : decide (20 + l ≤ mtu) = true := decide_eq_true n2
    have c6 : decide (mtu < 20 + k) = true := decide_eq_true n3
    cases tunnel
    · have e4 : wrap64 (i - 20) = n := by rw [IntWalk.wrap64_in _ (by omega)]; simpa using hn
      clear h0 h1 hz hb hnz hn n0 n1 n2 n3 eo hi hl hk hl0 hk0 h
      go_enter Tryd.func4, Tryd.ntmps4
      go_wp2_with (first | (go_at_call 12; refine IN.out.mono ?_; rintro e w1 ⟨rfl, m, rfl⟩) | (go_at_call 11; refine (AW.out _).mono ?_; rintro e w1 ⟨rfl, hb⟩; have HB := Aside0.mk ((pw_below_drewN (Below.refl w.heap.size w) m).trans hb); clear hb))
      refine (LN.out _).mono ?_
      rintro e w2 ⟨rfl, m1, rfl⟩
      go_wp2_with (fail)
      refine (LN1.out _).mono ?_
      rintro e w2 ⟨rfl, m2, rfl⟩
      go_wp2_with (fail)
      refine (OU.out _ (pw_below_drewN HB.out _)).mono ?_
      rintro e w2 ⟨rfl, m3, rfl⟩
      go_wp2_with (fail)
      refine (LN.out _).mono ?_
      rintro e w2 ⟨rfl, m4, rfl⟩
      go_wp2_with (fail)
      go_ret
      exact ⟨rfl, pw_below_drewN HB.out _⟩
    · have e4 : i = n := by simpa using hn
      subst e4
      clear h0 h1 hz hb hnz hn n0 n1 n2 n3 eo hi hl hk hl0 hk0 h
      go_enter Tryd.func4, Tryd.ntmps4
      go_wp2_with (first | (go_at_call 12; refine IN.out.mono ?_; rintro e w1 ⟨rfl, m, rfl⟩) | (go_at_call 11; refine (AW.out _).mono ?_; rintro e w1 ⟨rfl, hb⟩; have HB := Aside0.mk ((pw_below_drewN (Below.refl w.heap.size w) m).trans hb); clear hb))
      refine (LN.out _).mono ?_
      rintro e w2 ⟨rfl, m1, rfl⟩
      go_wp2_with (fail)
      refine (LN1.out _).mono ?_
      rintro e w2 ⟨rfl, m2, rfl⟩
      go_wp2_with (fail)
      refine (OU.out _ (pw_below_drewN HB.out _)).mono ?_
      rintro e w2 ⟨rfl, m3, rfl⟩
      go_wp2_with (fail)
      refine (LN.out _).mono ?_
      rintro e w2 ⟨rfl, m4, rfl⟩
      go_wp2_with (fail)
      go_ret
      exact ⟨rfl, pw_below_drewN HB.out _⟩
  · have e2 : wrap64 (40 + l) = 40 + l := IntWalk.wrap64_in _ (by omega)
    have e3 : wrap64 (40 + k) = 40 + k := IntWalk.wrap64_in _ (by omega)
    rw [show hdE true = 40 from rfl] at OU n2 n3 hn
    have c5 : decide (40 + l ≤ mtu) = true := decide_eq_true n2
    have c6 : decide (mtu < 40 + k) = true := decide_eq_true n3
    cases tunnel
    · have e4 : wrap64 (i - 40) = n := by rw [IntWalk.wrap64_in _ (by omega)]; simpa using hn
      clear h0 h1 hz hb hnz hn n0 n1 n2 n3 eo hi hl hk hl0 hk0 h
      go_enter Tryd.func4, Tryd.ntmps4
      go_wp2_with (first | (go_at_call 12; refine IN.out.mono ?_; rintro e w1 ⟨rfl, m, rfl⟩) | (go_at_call 11; refine (AW.out _).mono ?_; rintro e w1 ⟨rfl, hb⟩; have HB := Aside0.mk ((pw_below_drewN (Below.refl w.heap.size w) m).trans hb); clear hb))
      refine (LN.out _).mono ?_
      rintro e w2 ⟨rfl, m1, rfl⟩
      go_wp2_with (fail)
      refine (LN1.out _).mono ?_
      rintro e w2 ⟨rfl, m2, rfl⟩
      go_wp2_with (fail)
      refine (OU.out _ (pw_below_drewN HB.out _)).mono ?_
      rintro e w2 ⟨rfl, m3, rfl⟩
      go_wp2_with (fail)
      refine (LN.out _).mono ?_
      rintro e w2 ⟨rfl, m4, rfl⟩
      go_wp2_with (fail)
      go_ret
      exact ⟨rfl, pw_below_drewN HB.out _⟩
    · have e4 : i = n := by simpa using hn
      subst e4
      clear h0 h1 hz hb hnz hn n0 n1 n2 n3 eo hi hl hk hl0 hk0 h
      go_enter Tryd.func4, Tryd.ntmps4
      go_wp2_with (first | (go_at_call 12; refine IN.out.mono ?_; rintro e w1 ⟨rfl, m, rfl⟩) | (go_at_call 11; refine (AW.out _).mono ?_; rintro e w1 ⟨rfl, hb⟩; have HB := Aside0.mk ((pw_below_drewN (Below.refl w.heap.size w) m).trans hb); clear hb))
      refine (LN.out _).mono ?_
      rintro e w2 ⟨rfl, m1, rfl⟩
      go_wp2_with (fail)
      refine (LN1.out _).mono ?_
      rintro e w2 ⟨rfl, m2, rfl⟩
      go_wp2_with (fail)
      refine (OU.out _ (pw_below_drewN HB.out _)).mono ?_
      rintro e w2 ⟨rfl, m3, rfl⟩
      go_wp2_with (fail)
      refine (LN.out _).mono ?_
      rintro e w2 ⟨rfl, m4, rfl⟩
      go_wp2_with (fail)
      go_ret
      exact ⟨rfl, pw_below_drewN HB.out _⟩
theorem innerlaw_walk (mtu : Int) (wide tunnel : Bool) (w : World) (h : Heads w) (_hm : (Lit.int .i64 mtu).wf = true) : Calls Tryd.prog 4 #[.int .i64 mtu, .bool wide, .bool tunnel] w fun e w' => e = .returned (.bool true) ∧ Below w.heap.size w w' := by
  by_cases hm : mtu < 0 ∨ 100000 < mtu
  · exact innerlaw_out mtu hm wide tunnel w h
  · by_cases hz : mtu < outerE 0 wide
    · exact innerlaw_zero mtu (by omega) (by omega) wide tunnel hz w h
    · exact innerlaw_more mtu (by omega) (by omega) wide tunnel hz w h
end Go.Proofs.YticaejoaoblcmaaDoor.Pmt
