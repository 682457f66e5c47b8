-- PRINTED BY print.sh 35421559b90ae4d0a3588c463048766b98c2df88dd9212a6774a882060cdf62d: not written by this session
import Derived.Test.YtpodidgdlcfaeaaPIp6Laysx0
import Derived.Test.YtpodidgdlcfaeaaPIp6Laysx3
namespace Go.Proofs.Ytpodidgdlcfaeaa.PIp6Lays
open Go.RowKit Go.Proofs.YtpodidgdlcfaeaaW.PrintWords Go.Proofs.YtpodidgdlcfaeaaW.PrintLast Go.Proofs.YtpodidgdlcfaeaaW.PrintMore
attribute [local go_sem] max2_int min2_int max_two min_two max_three min_three max_four min_four   -- for this text's walks alone
set_option linter.unusedVariables false
set_option linter.unusedSimpArgs false

/-! ### redoubtref04_ext: function 26 -/
def redoubtref04_ext.j0 : Nat → Bool → Int → ByteArray → Option (Bool)
  | 0, _, _, _ => none
  | k + 1, x17, x146000, x146001 => if x17 = true then (some false) else (if x146000 = 44 then (some ((x146001.size : Int) == 7)) else (if ((x146001.size : Int) % 8) = 6 then (some (decide ((x146001.size : Int) ≤ 2046))) else (some false)))
def redoubtref04_ext.f (k : Nat) (a0_0 : Int) (a0_1 : ByteArray) (a1 : Int) : Option (Bool) := (redoubtref04_Between.f a0_0).bind fun t146 => (if t146 = true then (if a0_0 = 0 then (redoubtref04_ext.j0 k (decide (a1 > 0)) a0_0 a0_1) else (redoubtref04_ext.j0 k false a0_0 a0_1)) else (redoubtref04_ext.j0 k true a0_0 a0_1))
theorem redoubtref04_ext.mono_l : ∀ k, (∀ y0 y1 y2, LeO (redoubtref04_ext.j0 k y0 y1 y2) (redoubtref04_ext.j0 (k + 1) y0 y1 y2))
  | 0 => fun _ _ _ r h => by simp [redoubtref04_ext.j0] at h
  | k + 1 => by
    have ih0 := redoubtref04_ext.mono_l k
    · intro y0 y1 y2
      unfold redoubtref04_ext.j0
      repeat' first
      | (with_reducible exact ih0 _ _ _)
      | (with_reducible exact LeO.refl _)
      | (with_reducible exact LeO.none _)
      | (with_reducible refine LeO.ite ?_ ?_)
      | (with_reducible refine LeO.bind ?_ (fun _ => ?_))
      | exact ih0 _ _ _
      | exact LeO.none _
      | refine LeO.ite ?_ ?_
      | refine LeO.bind ?_ (fun _ => ?_)
theorem redoubtref04_ext.mono : ∀ a0 a1 a2 k, LeO (redoubtref04_ext.f k a0 a1 a2) (redoubtref04_ext.f (k + 1) a0 a1 a2) := by
  intro a0 a1 a2 k
  have ih0 := redoubtref04_ext.mono_l k
  unfold redoubtref04_ext.f
  repeat' first
      | (with_reducible exact ih0 _ _ _)
      | (with_reducible exact LeO.refl _)
      | (with_reducible exact LeO.none _)
      | (with_reducible refine LeO.ite ?_ ?_)
      | (with_reducible refine LeO.bind ?_ (fun _ => ?_))
      | exact ih0 _ _ _
      | exact LeO.none _
      | refine LeO.ite ?_ ?_
      | refine LeO.bind ?_ (fun _ => ?_)
set_option maxHeartbeats 8000000 in
set_option maxRecDepth 100000 in
theorem redoubtref04_ext.calls (k : Nat) (a0_0 : Int) (a0_1 : ByteArray) (a1 : Int) (r : Bool) (w : World) (h : redoubtref04_ext.f k a0_0 a0_1 a1 = some r) :
    Calls Try.prog 26 #[.agg #[.int .i64 a0_0, .string a0_1], .int .i64 a1] w fun e w' => e = .returned (.bool r) ∧ Below w.heap.size w w' := by
  have hu43 := Try.underlying43
  have HB := Aside0.mk (Below.refl w.heap.size w)
  have H : ((redoubtref04_Between.f a0_0).bind fun t146 => (if t146 = true then (if a0_0 = 0 then (redoubtref04_ext.j0 k (decide (a1 > 0)) a0_0 a0_1) else (redoubtref04_ext.j0 k false a0_0 a0_1)) else (redoubtref04_ext.j0 k true a0_0 a0_1))) = some r := h
  clear h
  have HC3 := Aside0.mk H
  clear H
  go_enter Try.func26, Try.ntmps26
  go_upto_region 1 with (first | ((with_reducible refine gate_dst (N := 2) rfl ?_); (try (refine gate_guard (by rfl) ?_; dsimp only)); refine box_event ?hg (N := 2) ?hd (cs := #[.int .i64 a0_0, .string a0_1]) (t := 43) ?hr ?_; (case hd => rfl); (case hg => rfl); (case hr => first | (go_simp; done) | (go_simp; rfl)); intro gb145 hg w4 hbox hb; have n0_ := Aside0.mk (below_step (by repeat (first | (with_reducible first | exact HB.out | apply below_alloc | apply pw_below_drewN | apply below_drew1) | exact HB.out)) hb); have n1_ := Aside0.mk (hbox); have n2_ := Aside0.mk ((by rw [hg]; exact (below_size (by repeat (first | (with_reducible first | exact HB.out | apply below_alloc | apply pw_below_drewN | apply below_drew1) | exact HB.out))) : w.heap.size ≤ gb145)); have n3_ := Aside0.mk ((by rw [hg]; exact (below_size (by repeat (first | (with_reducible first | exact HB.out | apply below_alloc | apply pw_below_drewN | apply below_drew1) | exact HB.out))) : w.heap.size ≤ gb145)); clear HB; have HB := n0_; have BK145 := n1_; have GW145 := n2_; have GE145 := n3_; clear n0_ n1_ n2_ n3_; clear hb hbox hg))
  (try simp only [Act.put, List.setIfInBounds_toArray, List.set_cons_zero, List.set_cons_succ])
  go_cut [17] (fun v17 wc => ∃ (kq : Nat) (x17_2 : Bool), v17 = .bool x17_2 ∧ Aside0 (redoubtref04_ext.j0 kq x17_2 a0_0 a0_1 = some r) ∧ Aside0 (kq ≤ k) ∧ Aside0 (wc.heap[gb145]? = some (.cells #[.int .i64 a0_0, .string a0_1] 43 (0, 0))) ∧ Aside0 (Below w.heap.size w wc))
  case first =>
    have H := HC3.out
    clear HC3
    replace H := Option.bind_eq_some_iff.mp H
    obtain ⟨t146, A50, H⟩ := H
    replace H : (if t146 = true then (if a0_0 = 0 then (redoubtref04_ext.j0 k (decide (a1 > 0)) a0_0 a0_1) else (redoubtref04_ext.j0 k false a0_0 a0_1)) else (redoubtref04_ext.j0 k true a0_0 a0_1)) = some r := H
    have A5 := Aside0.mk A50
    clear A50
    by_cases c6 : t146 = true
    · subst c6
      have H1 : (if a0_0 = 0 then (redoubtref04_ext.j0 k (decide (a1 > 0)) a0_0 a0_1) else (redoubtref04_ext.j0 k false a0_0 a0_1)) = some r := by rw [if_pos rfl] at H; exact H
      clear H
      have H := H1
      clear H1
      by_cases c7 : a0_0 = 0
      · rw [if_pos c7] at H
        have c7b0 : (a0_0 == 0) = true := beq_iff_eq.mpr c7
        have c7b1 : (a0_0 != 0) = false := bne_eq_false_iff_eq.mpr c7
        clear c7
        (first | rw [c7b0] | (simp only [i64_w, i32_w]; rw [c7b0]) | skip)
        have H' := Aside0.mk H
        clear H
        have hcz8_0 : w4.cell? ⟨gb145, 0, none⟩ = some (.int .i64 a0_0) := (blk_cell BK145.out 0).trans rfl
        have hcz8_1 : w4.cell? ⟨gb145, 1, none⟩ = some (.string a0_1) := (blk_cell BK145.out 1).trans rfl
        have hfz8_0 := blk_frozen BK145.out 0
        have hfz8_1 := blk_frozen BK145.out 1
        go_wp2_with (first | ((with_reducible refine gate_callee (f := 18) rfl ?_); refine goesL_ (some 7) rfl rfl Try.func18 (by kernel_rfl) rfl #[.int .i64 a0_0] rfl (by (try simp only [List.map_toArray, List.map_cons, List.map_nil]); first | done | rfl | (simp only [List.length_drop, List.length_take]; rfl)) ?_; (with_reducible refine (redoubtref04_Between.calls a0_0 true _ A5.out).mono ?_); rintro e w' ⟨rfl, ⟨nd, rfl⟩⟩; refine ⟨_, rfl, ?_⟩))
        go_meet
        case rel => exact ⟨_, (decide (a1 > 0)), (by first | rfl | (simp; done) | (simp [*]; done)), H', ⟨by first | omega | exact Nat.le_refl _⟩, ⟨by (with_reducible repeat (first | refine blk_drewN ?_ _ | refine blk_drew ?_ | refine blk_alloc ?_ _)); exact BK145.out⟩, ⟨by repeat (first | (with_reducible first | exact HB.out | apply below_alloc | apply pw_below_drewN | apply below_drew1 | refine below_set ?_ GE145.out) | exact HB.out)⟩⟩
      · rw [if_neg c7] at H
        have c7b0 : (a0_0 == 0) = false := beq_eq_false_iff_ne.mpr c7
        have c7b1 : (a0_0 != 0) = true := bne_iff_ne.mpr c7
        (first | rw [c7b0] | (simp only [i64_w, i32_w]; rw [c7b0]) | skip)
        have H' := Aside0.mk H
        clear H
        have hcz9_0 : w4.cell? ⟨gb145, 0, none⟩ = some (.int .i64 a0_0) := (blk_cell BK145.out 0).trans rfl
        have hcz9_1 : w4.cell? ⟨gb145, 1, none⟩ = some (.string a0_1) := (blk_cell BK145.out 1).trans rfl
        have hfz9_0 := blk_frozen BK145.out 0
        have hfz9_1 := blk_frozen BK145.out 1
        go_wp2_with (first | ((with_reducible refine gate_callee (f := 18) rfl ?_); refine goesL_ (some 7) rfl rfl Try.func18 (by kernel_rfl) rfl #[.int .i64 a0_0] rfl (by (try simp only [List.map_toArray, List.map_cons, List.map_nil]); first | done | rfl | (simp only [List.length_drop, List.length_take]; rfl)) ?_; (with_reducible refine (redoubtref04_Between.calls a0_0 true _ A5.out).mono ?_); rintro e w' ⟨rfl, ⟨nd, rfl⟩⟩; refine ⟨_, rfl, ?_⟩))
        go_meet
        case rel => exact ⟨_, (false), (by first | rfl | (simp; done) | (simp [*]; done)), H', ⟨by first | omega | exact Nat.le_refl _⟩, ⟨by (with_reducible repeat (first | refine blk_drewN ?_ _ | refine blk_drew ?_ | refine blk_alloc ?_ _)); exact BK145.out⟩, ⟨by repeat (first | (with_reducible first | exact HB.out | apply below_alloc | apply pw_below_drewN | apply below_drew1 | refine below_set ?_ GE145.out) | exact HB.out)⟩⟩
    · replace c6 := Bool.eq_false_iff.mpr c6
      subst c6
      have H1 : (redoubtref04_ext.j0 k true a0_0 a0_1) = some r := by rw [if_neg (show ¬ (false = true) by decide)] at H; exact H
      clear H
      have H := H1
      clear H1
      have H' := Aside0.mk H
      clear H
      have hcz10_0 : w4.cell? ⟨gb145, 0, none⟩ = some (.int .i64 a0_0) := (blk_cell BK145.out 0).trans rfl
      have hcz10_1 : w4.cell? ⟨gb145, 1, none⟩ = some (.string a0_1) := (blk_cell BK145.out 1).trans rfl
      have hfz10_0 := blk_frozen BK145.out 0
      have hfz10_1 := blk_frozen BK145.out 1
      go_wp2_with (first | ((with_reducible refine gate_callee (f := 18) rfl ?_); refine goesL_ (some 7) rfl rfl Try.func18 (by kernel_rfl) rfl #[.int .i64 a0_0] rfl (by (try simp only [List.map_toArray, List.map_cons, List.map_nil]); first | done | rfl | (simp only [List.length_drop, List.length_take]; rfl)) ?_; (with_reducible refine (redoubtref04_Between.calls a0_0 false _ A5.out).mono ?_); rintro e w' ⟨rfl, ⟨nd, rfl⟩⟩; refine ⟨_, rfl, ?_⟩))
      go_meet
      case rel => exact ⟨_, (true), (by first | rfl | (simp; done) | (simp [*]; done)), H', ⟨by first | omega | exact Nat.le_refl _⟩, ⟨by (with_reducible repeat (first | refine blk_drewN ?_ _ | refine blk_drew ?_ | refine blk_alloc ?_ _)); exact BK145.out⟩, ⟨by repeat (first | (with_reducible first | exact HB.out | apply below_alloc | apply pw_below_drewN | apply below_drew1 | refine below_set ?_ GE145.out) | exact HB.out)⟩⟩
  case rest =>
    clear HC3
    try clear c1
    try clear c2
    try clear p2
    try clear c6
    try clear c7
    try clear c7b0
    try clear c7b1
    try clear hcz10_0
    try clear hcz10_1
    try clear hcz8_0
    try clear hcz8_1
    try clear hcz9_0
    try clear hcz9_1
    try clear hfz10_0
    try clear hfz10_1
    try clear hfz8_0
    try clear hfz8_1
    try clear hfz9_0
    try clear hfz9_1
    obtain ⟨kq, x17_2, rfl, HA, HJ2, BK145, HB⟩ := hcut
    cases kq with
    | zero => exact absurd HA.out (by simp [redoubtref04_ext.j0])
    | succ kj2 =>
      have H := HA.out
      clear HA
      simp only [redoubtref04_ext.j0] at H
      by_cases c11 : x17_2 = true
      · subst c11
        have H1 : (some false) = some r := by rw [if_pos rfl] at H; exact H
        clear H
        have H := H1
        clear H1
        obtain rfl := Option.some.inj H
        go_wp2
        go_ret
        exact ⟨by first | rfl | (simp [errW_none, errW_some] <;> rfl) | (simp [*, errW_none, errW_some] <;> rfl), by repeat (first | (with_reducible first | exact HB.out | apply below_alloc | apply pw_below_drewN | apply below_drew1 | refine below_set ?_ GE145.out) | exact HB.out)⟩
      · replace c11 := Bool.eq_false_iff.mpr c11
        subst c11
        have H1 : (if a0_0 = 44 then (some ((a0_1.size : Int) == 7)) else (if ((a0_1.size : Int) % 8) = 6 then (some (decide ((a0_1.size : Int) ≤ 2046))) else (some false))) = some r := by rw [if_neg (show ¬ (false = true) by decide)] at H; exact H
        clear H
        have H := H1
        clear H1
        by_cases c12 : a0_0 = 44
        · rw [if_pos c12] at H
          have c12b0 : (a0_0 == 44) = true := beq_iff_eq.mpr c12
          have c12b1 : (a0_0 != 44) = false := bne_eq_false_iff_eq.mpr c12
          clear c12
          obtain rfl := Option.some.inj H
          have hcz13_0 : wc.cell? ⟨gb145, 0, none⟩ = some (.int .i64 a0_0) := (blk_cell BK145.out 0).trans rfl
          have hcz13_1 : wc.cell? ⟨gb145, 1, none⟩ = some (.string a0_1) := (blk_cell BK145.out 1).trans rfl
          have hfz13_0 := blk_frozen BK145.out 0
          have hfz13_1 := blk_frozen BK145.out 1
          go_wp2
          go_ret
          exact ⟨by first | rfl | (simp [errW_none, errW_some] <;> rfl) | (simp [*, errW_none, errW_some] <;> rfl), by repeat (first | (with_reducible first | exact HB.out | apply below_alloc | apply pw_below_drewN | apply below_drew1 | refine below_set ?_ GE145.out) | exact HB.out)⟩
        · rw [if_neg c12] at H
          have c12b0 : (a0_0 == 44) = false := beq_eq_false_iff_ne.mpr c12
          have c12b1 : (a0_0 != 44) = true := bne_iff_ne.mpr c12
          by_cases c14 : ((a0_1.size : Int) % 8) = 6
          · rw [if_pos c14] at H
            have c14b0 : (((a0_1.size : Int) % 8) == 6) = true := beq_iff_eq.mpr c14
            have c14b1 : (((a0_1.size : Int) % 8) != 6) = false := bne_eq_false_iff_eq.mpr c14
            clear c14
            obtain rfl := Option.some.inj H
            have hcz15_0 : wc.cell? ⟨gb145, 0, none⟩ = some (.int .i64 a0_0) := (blk_cell BK145.out 0).trans rfl
            have hcz15_1 : wc.cell? ⟨gb145, 1, none⟩ = some (.string a0_1) := (blk_cell BK145.out 1).trans rfl
            have hfz15_0 := blk_frozen BK145.out 0
            have hfz15_1 := blk_frozen BK145.out 1
            go_wp2
            go_ret
            exact ⟨by first | rfl | (simp [errW_none, errW_some] <;> rfl) | (simp [*, errW_none, errW_some] <;> rfl), by repeat (first | (with_reducible first | exact HB.out | apply below_alloc | apply pw_below_drewN | apply below_drew1 | refine below_set ?_ GE145.out) | exact HB.out)⟩
          · rw [if_neg c14] at H
            have c14b0 : (((a0_1.size : Int) % 8) == 6) = false := beq_eq_false_iff_ne.mpr c14
            have c14b1 : (((a0_1.size : Int) % 8) != 6) = true := bne_iff_ne.mpr c14
            obtain rfl := Option.some.inj H
            have hcz16_0 : wc.cell? ⟨gb145, 0, none⟩ = some (.int .i64 a0_0) := (blk_cell BK145.out 0).trans rfl
            have hcz16_1 : wc.cell? ⟨gb145, 1, none⟩ = some (.string a0_1) := (blk_cell BK145.out 1).trans rfl
            have hfz16_0 := blk_frozen BK145.out 0
            have hfz16_1 := blk_frozen BK145.out 1
            go_wp2
            go_ret
            exact ⟨by first | rfl | (simp [errW_none, errW_some] <;> rfl) | (simp [*, errW_none, errW_some] <;> rfl), by repeat (first | (with_reducible first | exact HB.out | apply below_alloc | apply pw_below_drewN | apply below_drew1 | refine below_set ?_ GE145.out) | exact HB.out)⟩

/-! ### redoubtref04_size: function 27 -/
def redoubtref04_size.l0 : Nat → Int → Int → Int → Int → Int → ByteArray → ByteArray → List (S43) → Int → List Int → Option (Int)
  | 0, _, _, _, _, _, _, _, _, _, _ => none
  | k + 1, x3, x4, x148000, x148001, x148002, x148003, x148004, x148005, x148006, x148007 => if x4 < (x148005.length : Int) then (if 0 ≤ x4 then (if ((rd_T43 x148005 x4).f0) = 44 then (redoubtref04_size.l0 k (wrap64 ((wrap64 ((wrap64 (x3 + (((rd_T43 x148005 x4).f1).size : Int))) + 2)) - 1)) (wrap64 (x4 + 1)) x148000 x148001 x148002 x148003 x148004 x148005 x148006 x148007) else (redoubtref04_size.l0 k (wrap64 ((wrap64 (x3 + (((rd_T43 x148005 x4).f1).size : Int))) + 2)) (wrap64 (x4 + 1)) x148000 x148001 x148002 x148003 x148004 x148005 x148006 x148007)) else (none)) else (some x3)
def redoubtref04_size.f (k : Nat) (a0_0 : Int) (a0_1 : Int) (a0_2 : Int) (a0_3 : ByteArray) (a0_4 : ByteArray) (l0_5 : List (S43)) (a0_6 : Int) (l0_7 : List Int) : Option (Int) := redoubtref04_size.l0 k (l0_7.length : Int) 0 a0_0 a0_1 a0_2 a0_3 a0_4 l0_5 a0_6 l0_7
theorem redoubtref04_size.mono_l : ∀ k, (∀ y0 y1 y2 y3 y4 y5 y6 y7 y8 y9, LeO (redoubtref04_size.l0 k y0 y1 y2 y3 y4 y5 y6 y7 y8 y9) (redoubtref04_size.l0 (k + 1) y0 y1 y2 y3 y4 y5 y6 y7 y8 y9))
  | 0 => fun _ _ _ _ _ _ _ _ _ _ r h => by simp [redoubtref04_size.l0] at h
  | k + 1 => by
    have ih0 := redoubtref04_size.mono_l k
    · intro y0 y1 y2 y3 y4 y5 y6 y7 y8 y9
      unfold redoubtref04_size.l0
      repeat' first
      | (with_reducible exact ih0 _ _ _ _ _ _ _ _ _ _)
      | (with_reducible exact LeO.refl _)
      | (with_reducible exact LeO.none _)
      | (with_reducible refine LeO.ite ?_ ?_)
      | (with_reducible refine LeO.bind ?_ (fun _ => ?_))
      | exact ih0 _ _ _ _ _ _ _ _ _ _
      | exact LeO.none _
      | refine LeO.ite ?_ ?_
      | refine LeO.bind ?_ (fun _ => ?_)
theorem redoubtref04_size.mono : ∀ a0 a1 a2 a3 a4 a5 a6 a7 k, LeO (redoubtref04_size.f k a0 a1 a2 a3 a4 a5 a6 a7) (redoubtref04_size.f (k + 1) a0 a1 a2 a3 a4 a5 a6 a7) := by
  intro a0 a1 a2 a3 a4 a5 a6 a7 k
  have ih0 := redoubtref04_size.mono_l k
  unfold redoubtref04_size.f
  repeat' first
      | (with_reducible exact ih0 _ _ _ _ _ _ _ _ _ _)
      | (with_reducible exact LeO.refl _)
      | (with_reducible exact LeO.none _)
      | (with_reducible refine LeO.ite ?_ ?_)
      | (with_reducible refine LeO.bind ?_ (fun _ => ?_))
      | exact ih0 _ _ _ _ _ _ _ _ _ _
      | exact LeO.none _
      | refine LeO.ite ?_ ?_
      | refine LeO.bind ?_ (fun _ => ?_)
set_option maxHeartbeats 8000000 in
set_option maxRecDepth 100000 in
theorem redoubtref04_size.calls (k : Nat) (a0_0 : Int) (a0_1 : Int) (a0_2 : Int) (a0_3 : ByteArray) (a0_4 : ByteArray) (A0_5 : Option Addr) (c0_5 : Nat) (l0_5 : List (S43)) (a0_6 : Int) (A0_7 : Option Addr) (c0_7 : Nat) (l0_7 : List Int) (r : Int) (w : World) (hr0_5 : Kd.C k43 w A0_5 l0_5.length l0_5) (hc0_5 : l0_5.length ≤ c0_5) (hr0_7 : Kd.C (Kd.int .u8) w A0_7 l0_7.length l0_7) (hc0_7 : l0_7.length ≤ c0_7) (h : redoubtref04_size.f k a0_0 a0_1 a0_2 a0_3 a0_4 l0_5 a0_6 l0_7 = some r) :
    Calls Try.prog 27 #[.agg #[.int .i64 a0_0, .int .i64 a0_1, .int .i64 a0_2, .string a0_3, .string a0_4, .slice A0_5 l0_5.length c0_5, .int .i64 a0_6, .slice A0_7 l0_7.length c0_7]] w fun e w' => e = .returned (.int .i64 r) ∧ Below w.heap.size w w' := by
  have hu26 := Try.underlying26
  have HR0_5 := Aside0.mk hr0_5
  have HC0_5 := Aside0.mk hc0_5
  clear hr0_5 hc0_5
  have HR0_7 := Aside0.mk hr0_7
  have HC0_7 := Aside0.mk hc0_7
  clear hr0_7 hc0_7
  have HB := Aside0.mk (Below.refl w.heap.size w)
  have H : (redoubtref04_size.l0 k (l0_7.length : Int) 0 a0_0 a0_1 a0_2 a0_3 a0_4 l0_5 a0_6 l0_7) = some r := h
  clear h
  have H' := Aside0.mk H
  clear H
  go_enter Try.func27, Try.ntmps27
  go_wp2_with (first | ((with_reducible refine gate_dst (N := 1) rfl ?_); refine box_event ?hg (N := 1) ?hd (cs := #[.int .i64 a0_0, .int .i64 a0_1, .int .i64 a0_2, .string a0_3, .string a0_4, .slice A0_5 l0_5.length c0_5, .int .i64 a0_6, .slice A0_7 l0_7.length c0_7]) (t := 26) ?hr ?_; (case hd => rfl); (case hg => rfl); (case hr => first | (go_simp; done) | (go_simp; rfl)); intro gb147 hg w2 hbox hb; have n0_ := Aside0.mk (below_step (by repeat (first | (with_reducible first | exact HB.out | apply below_alloc | apply pw_below_drewN | apply below_drew1) | exact HB.out)) hb); have n1_ := Aside0.mk (hbox); have n2_ := Aside0.mk ((by rw [hg]; exact (below_size (by repeat (first | (with_reducible first | exact HB.out | apply below_alloc | apply pw_below_drewN | apply below_drew1) | exact HB.out))) : w.heap.size ≤ gb147)); have n3_ := Aside0.mk ((by rw [hg]; exact (below_size (by repeat (first | (with_reducible first | exact HB.out | apply below_alloc | apply pw_below_drewN | apply below_drew1) | exact HB.out))) : w.heap.size ≤ gb147)); clear HB; have HB := n0_; have BK147 := n1_; have GW147 := n2_; have GE147 := n3_; clear n0_ n1_ n2_ n3_; clear hb hbox hg; have hcz3_0 : w2.cell? ⟨gb147, 0, none⟩ = some (.int .i64 a0_0) := (blk_cell BK147.out 0).trans rfl; have hcz3_1 : w2.cell? ⟨gb147, 1, none⟩ = some (.int .i64 a0_1) := (blk_cell BK147.out 1).trans rfl; have hcz3_2 : w2.cell? ⟨gb147, 2, none⟩ = some (.int .i64 a0_2) := (blk_cell BK147.out 2).trans rfl; have hcz3_3 : w2.cell? ⟨gb147, 3, none⟩ = some (.string a0_3) := (blk_cell BK147.out 3).trans rfl; have hcz3_4 : w2.cell? ⟨gb147, 4, none⟩ = some (.string a0_4) := (blk_cell BK147.out 4).trans rfl; have hcz3_5 : w2.cell? ⟨gb147, 5, none⟩ = some (.slice A0_5 l0_5.length c0_5) := (blk_cell BK147.out 5).trans rfl; have hcz3_6 : w2.cell? ⟨gb147, 6, none⟩ = some (.int .i64 a0_6) := (blk_cell BK147.out 6).trans rfl; have hcz3_7 : w2.cell? ⟨gb147, 7, none⟩ = some (.slice A0_7 l0_7.length c0_7) := (blk_cell BK147.out 7).trans rfl; have hfz3_0 := blk_frozen BK147.out 0; have hfz3_1 := blk_frozen BK147.out 1; have hfz3_2 := blk_frozen BK147.out 2; have hfz3_3 := blk_frozen BK147.out 3; have hfz3_4 := blk_frozen BK147.out 4; have hfz3_5 := blk_frozen BK147.out 5; have hfz3_6 := blk_frozen BK147.out 6; have hfz3_7 := blk_frozen BK147.out 7))
  go_loopg [3, 4] k (fun kq v3 v4 w' => ∃ (x3_1 : Int) (x4_1 : Int), v3 = .int .i64 x3_1 ∧ v4 = .int .i64 x4_1 ∧ Aside0 (redoubtref04_size.l0 kq x3_1 x4_1 a0_0 a0_1 a0_2 a0_3 a0_4 l0_5 a0_6 l0_7 = some r) ∧ Aside0 (kq ≤ k) ∧ Aside0 (w'.heap[gb147]? = some (.cells #[.int .i64 a0_0, .int .i64 a0_1, .int .i64 a0_2, .string a0_3, .string a0_4, (.slice A0_5 l0_5.length c0_5), .int .i64 a0_6, (.slice A0_7 l0_7.length c0_7)] 26 (0, 0))) ∧ Aside0 (Below w.heap.size w w'))
  case atStart => exact ⟨((l0_7.length : Int)), (0), (by first | rfl | (simp; done) | (simp [*]; done)), (by first | rfl | (simp; done) | (simp [*]; done)), H', ⟨Nat.le_refl _⟩, ⟨by (with_reducible repeat (first | refine blk_drewN ?_ _ | refine blk_drew ?_ | refine blk_alloc ?_ _)); exact BK147.out⟩, ⟨by repeat (first | (with_reducible first | exact HB.out | apply below_alloc | apply pw_below_drewN | apply below_drew1 | refine below_set ?_ GE147.out) | exact HB.out)⟩⟩
  case round =>
    clear H'
    try clear c2
    try clear p2
    try clear hcz3_0
    try clear hcz3_1
    try clear hcz3_2
    try clear hcz3_3
    try clear hcz3_4
    try clear hcz3_5
    try clear hcz3_6
    try clear hcz3_7
    try clear hfz3_0
    try clear hfz3_1
    try clear hfz3_2
    try clear hfz3_3
    try clear hfz3_4
    try clear hfz3_5
    try clear hfz3_6
    try clear hfz3_7
    obtain ⟨x3_1, x4_1, rfl, rfl, HA, HK1, BK147, HB⟩ := hrel
    cases gk with
    | zero => exact absurd HA.out (by simp [redoubtref04_size.l0])
    | succ k1 =>
      have H := HA.out
      clear HA
      simp only [redoubtref04_size.l0] at H
      by_cases c4 : x4_1 < (l0_5.length : Int)
      · rw [if_pos c4] at H
        have c4b0 : decide (x4_1 < (l0_5.length : Int)) = true := decide_eq_true c4
        clear c4
        by_cases c5 : 0 ≤ x4_1
        · rw [if_pos c5] at H
          have c5b0 : decide (0 ≤ x4_1) = true := decide_eq_true c5
          clear c5
          by_cases c6 : ((rd_T43 l0_5 x4_1).f0) = 44
          · rw [if_pos c6] at H
            have c6b0 : (((rd_T43 l0_5 x4_1).f0) == 44) = true := beq_iff_eq.mpr c6
            have c6b1 : (((rd_T43 l0_5 x4_1).f0) != 44) = false := bne_eq_false_iff_eq.mpr c6
            clear c6
            have H' := Aside0.mk H
            clear H
            have hcz7_0 : wr.cell? ⟨gb147, 0, none⟩ = some (.int .i64 a0_0) := (blk_cell BK147.out 0).trans rfl
            have hcz7_1 : wr.cell? ⟨gb147, 1, none⟩ = some (.int .i64 a0_1) := (blk_cell BK147.out 1).trans rfl
            have hcz7_2 : wr.cell? ⟨gb147, 2, none⟩ = some (.int .i64 a0_2) := (blk_cell BK147.out 2).trans rfl
            have hcz7_3 : wr.cell? ⟨gb147, 3, none⟩ = some (.string a0_3) := (blk_cell BK147.out 3).trans rfl
            have hcz7_4 : wr.cell? ⟨gb147, 4, none⟩ = some (.string a0_4) := (blk_cell BK147.out 4).trans rfl
            have hcz7_5 : wr.cell? ⟨gb147, 5, none⟩ = some (.slice A0_5 l0_5.length c0_5) := (blk_cell BK147.out 5).trans rfl
            have hcz7_6 : wr.cell? ⟨gb147, 6, none⟩ = some (.int .i64 a0_6) := (blk_cell BK147.out 6).trans rfl
            have hcz7_7 : wr.cell? ⟨gb147, 7, none⟩ = some (.slice A0_7 l0_7.length c0_7) := (blk_cell BK147.out 7).trans rfl
            have hfz7_0 := blk_frozen BK147.out 0
            have hfz7_1 := blk_frozen BK147.out 1
            have hfz7_2 := blk_frozen BK147.out 2
            have hfz7_3 := blk_frozen BK147.out 3
            have hfz7_4 := blk_frozen BK147.out 4
            have hfz7_5 := blk_frozen BK147.out 5
            have hfz7_6 := blk_frozen BK147.out 6
            have hfz7_7 := blk_frozen BK147.out 7
            have p148 : 0 ≤ (x4_1 : Int) := of_decide_eq_true (by first | (with_reducible assumption) | assumption)
            have q148 : x4_1 < (l0_5.length : Int) := of_decide_eq_true (by first | (with_reducible assumption) | assumption)
            obtain ⟨ad148, e148, hx148_0, hx148_1⟩ := at_T43 HR0_5.out x4_1 p148 q148
            cases e148
            replace hx148_0 := (HB.out.cell (World.block_lt_of_cell? w _ hx148_0)).trans hx148_0
            replace hx148_1 := (HB.out.cell (World.block_lt_of_cell? w _ hx148_1)).trans hx148_1
            replace p148 := eq_true p148
            replace q148 := eq_true q148
            have p149 : 0 ≤ (x4_1 : Int) := of_decide_eq_true (by first | (with_reducible assumption) | assumption)
            have q149 : x4_1 < (l0_5.length : Int) := of_decide_eq_true (by first | (with_reducible assumption) | assumption)
            obtain ⟨ad149, e149, hx149_0, hx149_1⟩ := at_T43 HR0_5.out x4_1 p149 q149
            obtain rfl : ad148 = ad149 := (by injection e149)
            replace hx149_0 := (HB.out.cell (World.block_lt_of_cell? w _ hx149_0)).trans hx149_0
            replace hx149_1 := (HB.out.cell (World.block_lt_of_cell? w _ hx149_1)).trans hx149_1
            replace p149 := eq_true p149
            replace q149 := eq_true q149
            go_wp2
            go_roundg k1
            case measure => have := HK1.out; omega
            case rel => exact ⟨(wrap64 ((wrap64 ((wrap64 (x3_1 + (((rd_T43 l0_5 x4_1).f1).size : Int))) + 2)) - 1)), (wrap64 (x4_1 + 1)), (by first | rfl | (simp; done) | (simp [*]; done)), (by first | rfl | (simp; done) | (simp [*]; done)), H', ⟨by have := HK1.out; omega⟩, ⟨by (with_reducible repeat (first | refine blk_drewN ?_ _ | refine blk_drew ?_ | refine blk_alloc ?_ _)); exact BK147.out⟩, ⟨by repeat (first | (with_reducible first | exact HB.out | apply below_alloc | apply pw_below_drewN | apply below_drew1 | refine below_set ?_ GE147.out) | exact HB.out)⟩⟩
          · rw [if_neg c6] at H
            have c6b0 : (((rd_T43 l0_5 x4_1).f0) == 44) = false := beq_eq_false_iff_ne.mpr c6
            have c6b1 : (((rd_T43 l0_5 x4_1).f0) != 44) = true := bne_iff_ne.mpr c6
            have H' := Aside0.mk H
            clear H
            have hcz8_0 : wr.cell? ⟨gb147, 0, none⟩ = some (.int .i64 a0_0) := (blk_cell BK147.out 0).trans rfl
            have hcz8_1 : wr.cell? ⟨gb147, 1, none⟩ = some (.int .i64 a0_1) := (blk_cell BK147.out 1).trans rfl
            have hcz8_2 : wr.cell? ⟨gb147, 2, none⟩ = some (.int .i64 a0_2) := (blk_cell BK147.out 2).trans rfl
            have hcz8_3 : wr.cell? ⟨gb147, 3, none⟩ = some (.string a0_3) := (blk_cell BK147.out 3).trans rfl
            have hcz8_4 : wr.cell? ⟨gb147, 4, none⟩ = some (.string a0_4) := (blk_cell BK147.out 4).trans rfl
            have hcz8_5 : wr.cell? ⟨gb147, 5, none⟩ = some (.slice A0_5 l0_5.length c0_5) := (blk_cell BK147.out 5).trans rfl
            have hcz8_6 : wr.cell? ⟨gb147, 6, none⟩ = some (.int .i64 a0_6) := (blk_cell BK147.out 6).trans rfl
            have hcz8_7 : wr.cell? ⟨gb147, 7, none⟩ = some (.slice A0_7 l0_7.length c0_7) := (blk_cell BK147.out 7).trans rfl
            have hfz8_0 := blk_frozen BK147.out 0
            have hfz8_1 := blk_frozen BK147.out 1
            have hfz8_2 := blk_frozen BK147.out 2
            have hfz8_3 := blk_frozen BK147.out 3
            have hfz8_4 := blk_frozen BK147.out 4
            have hfz8_5 := blk_frozen BK147.out 5
            have hfz8_6 := blk_frozen BK147.out 6
            have hfz8_7 := blk_frozen BK147.out 7
            have p148 : 0 ≤ (x4_1 : Int) := of_decide_eq_true (by first | (with_reducible assumption) | assumption)
            have q148 : x4_1 < (l0_5.length : Int) := of_decide_eq_true (by first | (with_reducible assumption) | assumption)
            obtain ⟨ad148, e148, hx148_0, hx148_1⟩ := at_T43 HR0_5.out x4_1 p148 q148
            cases e148
            replace hx148_0 := (HB.out.cell (World.block_lt_of_cell? w _ hx148_0)).trans hx148_0
            replace hx148_1 := (HB.out.cell (World.block_lt_of_cell? w _ hx148_1)).trans hx148_1
            replace p148 := eq_true p148
            replace q148 := eq_true q148
            have p149 : 0 ≤ (x4_1 : Int) := of_decide_eq_true (by first | (with_reducible assumption) | assumption)
            have q149 : x4_1 < (l0_5.length : Int) := of_decide_eq_true (by first | (with_reducible assumption) | assumption)
            obtain ⟨ad149, e149, hx149_0, hx149_1⟩ := at_T43 HR0_5.out x4_1 p149 q149
            obtain rfl : ad148 = ad149 := (by injection e149)
            replace hx149_0 := (HB.out.cell (World.block_lt_of_cell? w _ hx149_0)).trans hx149_0
            replace hx149_1 := (HB.out.cell (World.block_lt_of_cell? w _ hx149_1)).trans hx149_1
            replace p149 := eq_true p149
            replace q149 := eq_true q149
            go_wp2
            go_roundg k1
            case measure => have := HK1.out; omega
            case rel => exact ⟨(wrap64 ((wrap64 (x3_1 + (((rd_T43 l0_5 x4_1).f1).size : Int))) + 2)), (wrap64 (x4_1 + 1)), (by first | rfl | (simp; done) | (simp [*]; done)), (by first | rfl | (simp; done) | (simp [*]; done)), H', ⟨by have := HK1.out; omega⟩, ⟨by (with_reducible repeat (first | refine blk_drewN ?_ _ | refine blk_drew ?_ | refine blk_alloc ?_ _)); exact BK147.out⟩, ⟨by repeat (first | (with_reducible first | exact HB.out | apply below_alloc | apply pw_below_drewN | apply below_drew1 | refine below_set ?_ GE147.out) | exact HB.out)⟩⟩
        · rw [if_neg c5] at H
          exact absurd H (by simp)
      · rw [if_neg c4] at H
        have c4b0 : decide (x4_1 < (l0_5.length : Int)) = false := decide_eq_false c4
        clear c4
        obtain rfl := Option.some.inj H
        have hcz9_0 : wr.cell? ⟨gb147, 0, none⟩ = some (.int .i64 a0_0) := (blk_cell BK147.out 0).trans rfl
        have hcz9_1 : wr.cell? ⟨gb147, 1, none⟩ = some (.int .i64 a0_1) := (blk_cell BK147.out 1).trans rfl
        have hcz9_2 : wr.cell? ⟨gb147, 2, none⟩ = some (.int .i64 a0_2) := (blk_cell BK147.out 2).trans rfl
        have hcz9_3 : wr.cell? ⟨gb147, 3, none⟩ = some (.string a0_3) := (blk_cell BK147.out 3).trans rfl
        have hcz9_4 : wr.cell? ⟨gb147, 4, none⟩ = some (.string a0_4) := (blk_cell BK147.out 4).trans rfl
        have hcz9_5 : wr.cell? ⟨gb147, 5, none⟩ = some (.slice A0_5 l0_5.length c0_5) := (blk_cell BK147.out 5).trans rfl
        have hcz9_6 : wr.cell? ⟨gb147, 6, none⟩ = some (.int .i64 a0_6) := (blk_cell BK147.out 6).trans rfl
        have hcz9_7 : wr.cell? ⟨gb147, 7, none⟩ = some (.slice A0_7 l0_7.length c0_7) := (blk_cell BK147.out 7).trans rfl
        have hfz9_0 := blk_frozen BK147.out 0
        have hfz9_1 := blk_frozen BK147.out 1
        have hfz9_2 := blk_frozen BK147.out 2
        have hfz9_3 := blk_frozen BK147.out 3
        have hfz9_4 := blk_frozen BK147.out 4
        have hfz9_5 := blk_frozen BK147.out 5
        have hfz9_6 := blk_frozen BK147.out 6
        have hfz9_7 := blk_frozen BK147.out 7
        go_wp2
        go_ret
        exact ⟨by first | rfl | (simp [errW_none, errW_some] <;> rfl) | (simp [*, errW_none, errW_some] <;> rfl), by repeat (first | (with_reducible first | exact HB.out | apply below_alloc | apply pw_below_drewN | apply below_drew1 | refine below_set ?_ GE147.out) | exact HB.out)⟩

end Go.Proofs.Ytpodidgdlcfaeaa.PIp6Lays
