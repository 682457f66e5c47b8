-- PRINTED BY print.sh 35421559b90ae4d0a3588c463048766b98c2df88dd9212a6774a882060cdf62d: not written by this session
import Derived.Test.YticaejoaoblcmaaDoorPPmtuInnerx0
namespace Go.Proofs.YticaejoaoblcmaaDoor.PPmtuInner
open Go.RowKit Go.Proofs.YticaejoaoblcmaaDoorW.PrintWords Go.Proofs.YticaejoaoblcmaaDoorW.PrintLast Go.Proofs.YticaejoaoblcmaaDoorW.PrintMore
attribute [local go_sem] max2_int min2_int max_two min_two max_three min_three max_four min_four   -- for this text's walks alone
set_option linter.unusedVariables false
set_option linter.unusedSimpArgs false

-- NOT PRINTED: function 8 (pmtu_New)

/-! ### pmtu_least: function 18 -/
def pmtu_least.f (a0 : ByteArray) : Option (Int × Int) := if (a0.size : Int) = 4 then (some (576, 0)) else (if (a0.size : Int) = 16 then (some (1280, 0)) else (some (0, 1)))
set_option maxHeartbeats 8000000 in
set_option maxRecDepth 100000 in
theorem pmtu_least.calls (a0 : ByteArray) (r1 : Int) (r2 : Int) (w : World) (h : pmtu_least.f a0 = some (r1, r2)) :
    Calls Tryd.prog 18 #[.string a0] w fun e w' => e = .returned (.tuple #[.int .i64 r1, .int .i64 r2]) ∧ Drawn0 w w' := by
  have H : (if (a0.size : Int) = 4 then (some (576, 0)) else (if (a0.size : Int) = 16 then (some (1280, 0)) else (some (0, 1)))) = some (r1, r2) := h
  clear h
  by_cases c2 : (a0.size : Int) = 4
  · rw [if_pos c2] at H
    have c2b0 : ((a0.size : Int) == 4) = true := beq_iff_eq.mpr c2
    have c2b1 : ((a0.size : Int) != 4) = false := bne_eq_false_iff_eq.mpr c2
    clear c2
    simp only [Option.some.injEq, Prod.mk.injEq] at H
    obtain ⟨rfl, rfl⟩ := H
    go_enter Tryd.func18, Tryd.ntmps18
    go_wp2
    go_ret2
    exact ⟨by first | rfl | (simp; done) | (simp [*]; done), by repeat (first | exact Drawn0.refl _ | apply Drawn0.step)⟩
  · rw [if_neg c2] at H
    have c2b0 : ((a0.size : Int) == 4) = false := beq_eq_false_iff_ne.mpr c2
    have c2b1 : ((a0.size : Int) != 4) = true := bne_iff_ne.mpr c2
    by_cases c3 : (a0.size : Int) = 16
    · rw [if_pos c3] at H
      have c3b0 : ((a0.size : Int) == 16) = true := beq_iff_eq.mpr c3
      have c3b1 : ((a0.size : Int) != 16) = false := bne_eq_false_iff_eq.mpr c3
      clear c3
      simp only [Option.some.injEq, Prod.mk.injEq] at H
      obtain ⟨rfl, rfl⟩ := H
      go_enter Tryd.func18, Tryd.ntmps18
      go_wp2
      go_ret2
      exact ⟨by first | rfl | (simp; done) | (simp [*]; done), by repeat (first | exact Drawn0.refl _ | apply Drawn0.step)⟩
    · rw [if_neg c3] at H
      have c3b0 : ((a0.size : Int) == 16) = false := beq_eq_false_iff_ne.mpr c3
      have c3b1 : ((a0.size : Int) != 16) = true := bne_iff_ne.mpr c3
      simp only [Option.some.injEq, Prod.mk.injEq] at H
      obtain ⟨rfl, rfl⟩ := H
      go_enter Tryd.func18, Tryd.ntmps18
      go_wp2
      go_ret2
      exact ⟨by first | rfl | (simp; done) | (simp [*]; done), by repeat (first | exact Drawn0.refl _ | apply Drawn0.step)⟩

/-! ### pmtu_kept_fresh: function 19 -/
def pmtu_kept_fresh.f (a0_0 : Int) (a0_1 : Int) (a1 : Int) : Option (Bool) := some (decide ((wrap64 (a1 - a0_1)) < 600))
set_option maxHeartbeats 8000000 in
set_option maxRecDepth 100000 in
theorem pmtu_kept_fresh.calls (a0_0 : Int) (a0_1 : Int) (a1 : Int) (r : Bool) (w : World) (h : pmtu_kept_fresh.f a0_0 a0_1 a1 = some r) :
    Calls Tryd.prog 19 #[.agg #[.int .i64 a0_0, .int .i64 a0_1], .int .i64 a1] w fun e w' => e = .returned (.bool r) ∧ Below w.heap.size w w' := by
  have hu46 := Tryd.underlying46
  have HB := Aside0.mk (Below.refl w.heap.size w)
  have H : (some (decide ((wrap64 (a1 - a0_1)) < 600))) = some r := h
  clear h
  obtain rfl := Option.some.inj H
  go_enter Tryd.func19, Tryd.ntmps19
  go_wp2_with (first | ((with_reducible refine gate_dst (N := 2) rfl ?_); refine box_event ?hg (N := 2) ?hd (cs := #[.int .i64 a0_0, .int .i64 a0_1]) (t := 46) ?hr ?_; (case hd => rfl); (case hg => rfl); (case hr => first | (go_simp; done) | (go_simp; rfl)); intro gb101 hg w3 hbox hb; have n0_ := Aside0.mk (below_step (by repeat (first | (with_reducible first | exact HB.out | apply below_alloc | apply pw_below_drewN | apply below_drew1) | exact HB.out)) hb); have n1_ := Aside0.mk (hbox); have n2_ := Aside0.mk ((by rw [hg]; exact (below_size (by repeat (first | (with_reducible first | exact HB.out | apply below_alloc | apply pw_below_drewN | apply below_drew1) | exact HB.out))) : w.heap.size ≤ gb101)); have n3_ := Aside0.mk ((by rw [hg]; exact (below_size (by repeat (first | (with_reducible first | exact HB.out | apply below_alloc | apply pw_below_drewN | apply below_drew1) | exact HB.out))) : w.heap.size ≤ gb101)); clear HB; have HB := n0_; have BK101 := n1_; have GW101 := n2_; have GE101 := n3_; clear n0_ n1_ n2_ n3_; clear hb hbox hg; have hcz4_0 : w3.cell? ⟨gb101, 0, none⟩ = some (.int .i64 a0_0) := (blk_cell BK101.out 0).trans rfl; have hcz4_1 : w3.cell? ⟨gb101, 1, none⟩ = some (.int .i64 a0_1) := (blk_cell BK101.out 1).trans rfl; have hfz4_0 := blk_frozen BK101.out 0; have hfz4_1 := blk_frozen BK101.out 1))
  go_ret
  exact ⟨by first | rfl | (simp [errW_none, errW_some] <;> rfl) | (simp [*, errW_none, errW_some] <;> rfl), by repeat (first | (with_reducible first | exact HB.out | apply below_alloc | apply pw_below_drewN | apply below_drew1 | refine below_set ?_ GE101.out) | exact HB.out)⟩

-- NOT PRINTED: function 9 (pmtu_Cache_Get)

-- NOT PRINTED: function 10 (pmtu_Cache_Tell)

/-! ### pad_Length: function 21 -/
def pad_Length.f (a0 : Int) : Option (Int) := if a0 < 0 then (some 0) else (some (wrap64 ((wrap64 (Int.tdiv (wrap64 ((wrap64 ((wrap64 (a0 + 2)) + 4)) - 1)) 4)) * 4)))
set_option maxHeartbeats 8000000 in
set_option maxRecDepth 100000 in
theorem pad_Length.calls (a0 : Int) (r : Int) (w : World) (h : pad_Length.f a0 = some r) :
    Calls Tryd.prog 21 #[.int .i64 a0] w fun e w' => e = .returned (.int .i64 r) ∧ Drawn0 w w' := by
  have H : (if a0 < 0 then (some 0) else (some (wrap64 ((wrap64 (Int.tdiv (wrap64 ((wrap64 ((wrap64 (a0 + 2)) + 4)) - 1)) 4)) * 4)))) = some r := h
  clear h
  by_cases c2 : a0 < 0
  · rw [if_pos c2] at H
    have c2b0 : decide (a0 < 0) = true := decide_eq_true c2
    clear c2
    obtain rfl := Option.some.inj H
    go_enter Tryd.func21, Tryd.ntmps21
    go_wp2
    go_ret
    exact ⟨by first | rfl | (simp; done) | (simp [*]; done), by repeat (first | exact Drawn0.refl _ | apply Drawn0.step)⟩
  · rw [if_neg c2] at H
    have c2b0 : decide (a0 < 0) = false := decide_eq_false c2
    clear c2
    obtain rfl := Option.some.inj H
    go_enter Tryd.func21, Tryd.ntmps21
    go_wp2
    go_ret
    exact ⟨by first | rfl | (simp; done) | (simp [*]; done), by repeat (first | exact Drawn0.refl _ | apply Drawn0.step)⟩

/-! ### esp_Length: function 14 -/
def esp_Length.f (a0 : Int) : Option (Int) := if a0 < 0 then (some 0) else ((pad_Length.f a0).bind fun t102 => (some (wrap64 ((wrap64 (16 + t102)) + 16))))
set_option maxHeartbeats 8000000 in
set_option maxRecDepth 100000 in
theorem esp_Length.calls (a0 : Int) (r : Int) (w : World) (h : esp_Length.f a0 = some r) :
    Calls Tryd.prog 14 #[.int .i64 a0] w fun e w' => e = .returned (.int .i64 r) ∧ Drawn0 w w' := by
  have H : (if a0 < 0 then (some 0) else ((pad_Length.f a0).bind fun t102 => (some (wrap64 ((wrap64 (16 + t102)) + 16))))) = some r := h
  clear h
  by_cases c2 : a0 < 0
  · rw [if_pos c2] at H
    have c2b0 : decide (a0 < 0) = true := decide_eq_true c2
    clear c2
    obtain rfl := Option.some.inj H
    go_enter Tryd.func14, Tryd.ntmps14
    go_wp2
    go_ret
    exact ⟨by first | rfl | (simp; done) | (simp [*]; done), by repeat (first | exact Drawn0.refl _ | apply Drawn0.step)⟩
  · rw [if_neg c2] at H
    have c2b0 : decide (a0 < 0) = false := decide_eq_false c2
    clear c2
    replace H := Option.bind_eq_some_iff.mp H
    obtain ⟨t102, A30, H⟩ := H
    replace H : (some (wrap64 ((wrap64 (16 + t102)) + 16))) = some r := H
    have A3 := Aside0.mk A30
    clear A30
    obtain rfl := Option.some.inj H
    go_enter Tryd.func14, Tryd.ntmps14
    go_wp2_with (first | ((with_reducible refine gate_callee (f := 21) rfl ?_); refine goesL_ (some 6) rfl rfl Tryd.func21 (by kernel_rfl) rfl #[.int .i64 a0] rfl (by (try simp only [List.map_toArray, List.map_cons, List.map_nil]); first | done | rfl | (simp only [List.length_drop, List.length_take]; rfl)) ?_; (with_reducible refine (pad_Length.calls a0 t102 _ A3.out).mono ?_); rintro e w' ⟨rfl, ⟨nd, rfl⟩⟩; refine ⟨_, rfl, ?_⟩))
    go_ret
    exact ⟨by first | rfl | (simp; done) | (simp [*]; done), by repeat (first | exact Drawn0.refl _ | apply Drawn0.step)⟩

-- NOT PRINTED: function 20 (pmtu_head)

-- NOT PRINTED: function 13 (pmtu_Outer)

-- NOT PRINTED: function 12 (pmtu_Inner)

-- NOT PRINTED: function 11 (redoubtlaw21_awake)

-- NOT PRINTED: function 4 (redoubtlaw21_PmtuInner)

end Go.Proofs.YticaejoaoblcmaaDoor.PPmtuInner
