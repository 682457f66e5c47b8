-- Written by a program of this session (wip/tools/pp.py) out of what the kit's print.py prints over this seat's translation. Not trusted: Lean checks it.
import Derived.Test.YtcohcbfodmoblaaQPkx0
import Derived.Test.YtcohcbfodmoblaaQPkx1
import Derived.Test.YtcohcbfodmoblaaQPkx3
import Derived.Test.YtcohcbfodmoblaaQPkx4
import Derived.Test.YtcohcbfodmoblaaQPkx18
import Derived.Test.YtcohcbfodmoblaaQPkx20
import Derived.Test.YtcohcbfodmoblaaQPkx21
namespace Go.Proofs.Ytcohcbfodmoblaa.QPk
open Go.RowKit Go.Proofs.YtcohcbfodmoblaaW.PrintWords Go.Proofs.YtcohcbfodmoblaaW.PrintLast Go.Proofs.YtcohcbfodmoblaaW.PrintMore
attribute [local go_sem] max2_int min2_int max_two min_two max_three min_three max_four min_four   -- for this text's walks alone
set_option linter.unusedVariables false
set_option linter.unusedSimpArgs false

attribute [local go_sem high] eqA24
/-! ### redoubtlaw15_PickTurned: function 4 -/
def redoubtlaw15_PickTurned.j0 : Nat → ByteArray → ByteArray → Int → Int → Int → Bool → ByteArray → ByteArray → ByteArray → ByteArray → Int → Int → Int → Int → Int → Option (Bool)
  | 0, _, _, _, _, _, _, _, _, _, _, _, _, _, _, _ => none
  | k + 1, x0, x1, x2, x3, x4, x47, x213000, x213001, x213002, x213003, x213004, x213005, x213006, x213007, x213008 => if x47 = true then (some true) else ((pick_Of.f k x0 x1 x2 (([(wrap64 (Int.tdiv x3 256)) % 256, (Int.tmod x3 256) % 256, (wrap64 (Int.tdiv x4 256)) % 256, (Int.tmod x4 256) % 256] : List Int)) false).bind fun bt220 => ((pick_Of.f k x1 x0 x2 (([(wrap64 (Int.tdiv x4 256)) % 256, (Int.tmod x4 256) % 256, (wrap64 (Int.tdiv x3 256)) % 256, (Int.tmod x3 256) % 256] : List Int)) true).bind fun bt227 => ((redoubtlaw15_awake.f k).bind fun t235 => (if t235 = true then (if (bt220.1.toList == bt227.1.toList && (bt220.2.1.toList == bt227.2.1.toList && (bt220.2.2.1 == bt227.2.2.1 && (bt220.2.2.2.1 == bt227.2.2.2.1 && (bt220.2.2.2.2.1 == bt227.2.2.2.2.1))))) = true then (if bt220.2.2.2.2.2 = bt227.2.2.2.2.2 then ((pick_Turned.f bt220.1 bt220.2.1 bt220.2.2.1 bt220.2.2.2.1 bt220.2.2.2.2.1).bind fun bt236 => ((pick_Turned.f bt236.1 bt236.2.1 bt236.2.2.1 bt236.2.2.2.1 bt236.2.2.2.2).bind fun bt241 => (if (bt241.1.toList == bt220.1.toList && (bt241.2.1.toList == bt220.2.1.toList && (bt241.2.2.1 == bt220.2.2.1 && (bt241.2.2.2.1 == bt220.2.2.2.1 && (bt241.2.2.2.2 == bt220.2.2.2.2.1))))) = true then ((pick_Matches.f k x213000 x213001 x213002 x213003 x213004 x213005 x213006 x213007 x213008 bt220.1 bt220.2.1 bt220.2.2.1 bt220.2.2.2.1 bt220.2.2.2.2.1).bind fun t246 => ((pick_Turned.f bt220.1 bt220.2.1 bt220.2.2.1 bt220.2.2.2.1 bt220.2.2.2.2.1).bind fun bt247 => ((pick_Matches.f k x213002 x213003 x213000 x213001 x213004 x213007 x213008 x213005 x213006 bt247.1 bt247.2.1 bt247.2.2.1 bt247.2.2.2.1 bt247.2.2.2.2).bind fun t252 => (some (t246 == t252))))) else (some false)))) else (some false)) else (some false)) else (some false)))))
def redoubtlaw15_PickTurned.f (k : Nat) (a0 : ByteArray) (a1 : ByteArray) (a2 : Int) (a3 : Int) (a4 : Int) (a5_0 : ByteArray) (a5_1 : ByteArray) (a5_2 : ByteArray) (a5_3 : ByteArray) (a5_4 : Int) (a5_5 : Int) (a5_6 : Int) (a5_7 : Int) (a5_8 : Int) : Option (Bool) := if (wrap64 ((a0.size : Int) + (a1.size : Int))) > 300 then (redoubtlaw15_PickTurned.j0 k a0 a1 a2 a3 a4 true a5_0 a5_1 a5_2 a5_3 a5_4 a5_5 a5_6 a5_7 a5_8) else (if a3 < 0 then (redoubtlaw15_PickTurned.j0 k a0 a1 a2 a3 a4 true a5_0 a5_1 a5_2 a5_3 a5_4 a5_5 a5_6 a5_7 a5_8) else (if a3 > 65535 then (redoubtlaw15_PickTurned.j0 k a0 a1 a2 a3 a4 true a5_0 a5_1 a5_2 a5_3 a5_4 a5_5 a5_6 a5_7 a5_8) else (if a4 < 0 then (redoubtlaw15_PickTurned.j0 k a0 a1 a2 a3 a4 true a5_0 a5_1 a5_2 a5_3 a5_4 a5_5 a5_6 a5_7 a5_8) else (if a4 > 65535 then (redoubtlaw15_PickTurned.j0 k a0 a1 a2 a3 a4 true a5_0 a5_1 a5_2 a5_3 a5_4 a5_5 a5_6 a5_7 a5_8) else ((redoubtlaw15_few.f a5_0 a5_1 a5_2 a5_3 a5_4 a5_5 a5_6 a5_7 a5_8 (⟨#[]⟩ : ByteArray) (⟨#[]⟩ : ByteArray) 0 0 0).bind fun t213 => (redoubtlaw15_PickTurned.j0 k a0 a1 a2 a3 a4 (!t213) a5_0 a5_1 a5_2 a5_3 a5_4 a5_5 a5_6 a5_7 a5_8))))))
theorem redoubtlaw15_PickTurned.mono_l : ∀ k, (∀ y0 y1 y2 y3 y4 y5 y6 y7 y8 y9 y10 y11 y12 y13 y14, LeO (redoubtlaw15_PickTurned.j0 k y0 y1 y2 y3 y4 y5 y6 y7 y8 y9 y10 y11 y12 y13 y14) (redoubtlaw15_PickTurned.j0 (k + 1) y0 y1 y2 y3 y4 y5 y6 y7 y8 y9 y10 y11 y12 y13 y14))
  | 0 => fun _ _ _ _ _ _ _ _ _ _ _ _ _ _ _ r h => by simp [redoubtlaw15_PickTurned.j0] at h
  | k + 1 => by
    have ih0 := redoubtlaw15_PickTurned.mono_l k
    · intro y0 y1 y2 y3 y4 y5 y6 y7 y8 y9 y10 y11 y12 y13 y14
      unfold redoubtlaw15_PickTurned.j0
      repeat' first
      | (with_reducible exact ih0 _ _ _ _ _ _ _ _ _ _ _ _ _ _ _)
      | (with_reducible exact pick_Matches.mono _ _ _ _ _ _ _ _ _ _ _ _ _ _ _)
      | (with_reducible exact pick_Of.mono _ _ _ _ _ _)
      | (with_reducible exact redoubtlaw15_awake.mono _)
      | (with_reducible exact LeO.refl _)
      | (with_reducible exact LeO.none _)
      | (with_reducible refine LeO.ite ?_ ?_)
      | (with_reducible refine LeO.bind ?_ (fun _ => ?_))
      | exact ih0 _ _ _ _ _ _ _ _ _ _ _ _ _ _ _
      | exact pick_Matches.mono _ _ _ _ _ _ _ _ _ _ _ _ _ _ _
      | exact pick_Of.mono _ _ _ _ _ _
      | exact redoubtlaw15_awake.mono _
      | exact LeO.none _
      | refine LeO.ite ?_ ?_
      | refine LeO.bind ?_ (fun _ => ?_)
theorem redoubtlaw15_PickTurned.mono : ∀ a0 a1 a2 a3 a4 a5 a6 a7 a8 a9 a10 a11 a12 a13 k, LeO (redoubtlaw15_PickTurned.f k a0 a1 a2 a3 a4 a5 a6 a7 a8 a9 a10 a11 a12 a13) (redoubtlaw15_PickTurned.f (k + 1) a0 a1 a2 a3 a4 a5 a6 a7 a8 a9 a10 a11 a12 a13) := by
  intro a0 a1 a2 a3 a4 a5 a6 a7 a8 a9 a10 a11 a12 a13 k
  have ih0 := redoubtlaw15_PickTurned.mono_l k
  unfold redoubtlaw15_PickTurned.f
  repeat' first
      | (with_reducible exact ih0 _ _ _ _ _ _ _ _ _ _ _ _ _ _ _)
      | (with_reducible exact pick_Matches.mono _ _ _ _ _ _ _ _ _ _ _ _ _ _ _)
      | (with_reducible exact pick_Of.mono _ _ _ _ _ _)
      | (with_reducible exact redoubtlaw15_awake.mono _)
      | (with_reducible exact LeO.refl _)
      | (with_reducible exact LeO.none _)
      | (with_reducible refine LeO.ite ?_ ?_)
      | (with_reducible refine LeO.bind ?_ (fun _ => ?_))
      | exact ih0 _ _ _ _ _ _ _ _ _ _ _ _ _ _ _
      | exact pick_Matches.mono _ _ _ _ _ _ _ _ _ _ _ _ _ _ _
      | exact pick_Of.mono _ _ _ _ _ _
      | exact redoubtlaw15_awake.mono _
      | exact LeO.none _
      | refine LeO.ite ?_ ?_
      | refine LeO.bind ?_ (fun _ => ?_)
def redoubtlaw15_PickTurned.T8 : Bool × List (List Nat × List Nat) := (true, [([], []), ([0, 0], [0]), ([1], [1]), ([1], [1]), ([2, 3, 1], [1, 2, 3]), ([1, 4], [1, 4]), ([5, 1], [5]), ([6], [6]), ([6], [6]), ([7, 8, 6], [6, 7, 8]), ([6, 9], [6, 9]), ([10, 6], [10]), ([11], [11]), ([12, 11, 11], [11, 12]), ([13, 13, 11], [11, 13]), ([11], [11]), ([14, 15, 11], [11, 14, 15]), ([11, 16], [11, 16]), ([17, 14], [17]), ([18], [18]), ([18], [18]), ([19, 20, 18, 18], [18, 19, 20]), ([18], [18]), ([18], [18]), ([23, 21, 18], [18, 23]), ([22, 24, 24, 18], [18, 22, 24]), ([21, 25, 18], [18, 21, 25]), ([18, 26], [18, 26]), ([27, 25, 0, 1, 2, 3, 4, 5, 6, 7, 8, 9, 10, 11, 12, 13, 14, 15, 16, 17, 18, 19, 20, 21, 22, 23, 24, 25, 26, 27], [27])])
def redoubtlaw15_PickTurned.B8 : List Nat := [0, 1, 3, 3, 15, 31, 63, 127, 127, 511, 1023, 2047, 4095, 8191, 16383, 4095, 65535, 131071, 262143, 524287, 524287, 2097151, 524287, 524287, 12582911, 33554431, 67108863, 134217727, 268435455]
theorem redoubtlaw15_PickTurned.tab8 : rtab .any (opsOf Try.f4 8) = redoubtlaw15_PickTurned.T8 := by kernel_rfl
theorem redoubtlaw15_PickTurned.bits8 : waitsOk redoubtlaw15_PickTurned.T8.2 redoubtlaw15_PickTurned.B8 = true := by kernel_rfl
set_option maxHeartbeats 8000000 in
set_option maxRecDepth 100000 in
theorem redoubtlaw15_PickTurned.calls (k : Nat) (a0 : ByteArray) (a1 : ByteArray) (a2 : Int) (a3 : Int) (a4 : Int) (a5_0 : ByteArray) (a5_1 : ByteArray) (a5_2 : ByteArray) (a5_3 : ByteArray) (a5_4 : Int) (a5_5 : Int) (a5_6 : Int) (a5_7 : Int) (a5_8 : Int) (r : Bool) (w : World) (h : redoubtlaw15_PickTurned.f k a0 a1 a2 a3 a4 a5_0 a5_1 a5_2 a5_3 a5_4 a5_5 a5_6 a5_7 a5_8 = some r) (hr_ : r = true) :
    Calls Try.prog 4 #[.string a0, .string a1, .int .i64 a2, .int .i64 a3, .int .i64 a4, .agg #[.string a5_0, .string a5_1, .string a5_2, .string a5_3, .int .i64 a5_4, .int .i64 a5_5, .int .i64 a5_6, .int .i64 a5_7, .int .i64 a5_8]] w fun e w' => e = .returned (.bool r) ∧ Below w.heap.size w w' := by
  have HRT := Aside0.mk hr_
  clear hr_
  have hu37 := Try.underlying37
  have hu24 := Try.underlying24
  have hu33 := Try.underlying33
  have hu35 := Try.underlying35
  have HB := Aside0.mk (Below.refl w.heap.size w)
  have H : (if (wrap64 ((a0.size : Int) + (a1.size : Int))) > 300 then (redoubtlaw15_PickTurned.j0 k a0 a1 a2 a3 a4 true a5_0 a5_1 a5_2 a5_3 a5_4 a5_5 a5_6 a5_7 a5_8) else (if a3 < 0 then (redoubtlaw15_PickTurned.j0 k a0 a1 a2 a3 a4 true a5_0 a5_1 a5_2 a5_3 a5_4 a5_5 a5_6 a5_7 a5_8) else (if a3 > 65535 then (redoubtlaw15_PickTurned.j0 k a0 a1 a2 a3 a4 true a5_0 a5_1 a5_2 a5_3 a5_4 a5_5 a5_6 a5_7 a5_8) else (if a4 < 0 then (redoubtlaw15_PickTurned.j0 k a0 a1 a2 a3 a4 true a5_0 a5_1 a5_2 a5_3 a5_4 a5_5 a5_6 a5_7 a5_8) else (if a4 > 65535 then (redoubtlaw15_PickTurned.j0 k a0 a1 a2 a3 a4 true a5_0 a5_1 a5_2 a5_3 a5_4 a5_5 a5_6 a5_7 a5_8) else ((redoubtlaw15_few.f a5_0 a5_1 a5_2 a5_3 a5_4 a5_5 a5_6 a5_7 a5_8 (⟨#[]⟩ : ByteArray) (⟨#[]⟩ : ByteArray) 0 0 0).bind fun t213 => (redoubtlaw15_PickTurned.j0 k a0 a1 a2 a3 a4 (!t213) a5_0 a5_1 a5_2 a5_3 a5_4 a5_5 a5_6 a5_7 a5_8))))))) = some r := h
  clear h
  have HC7 := Aside0.mk H
  clear H
  go_enter Try.func4, Try.ntmps4
  go_upto_region 1 with (first | ((with_reducible refine gate_dst (N := 11) rfl ?_); refine box_event ?hg (N := 11) ?hd (cs := #[.string a5_0, .string a5_1, .string a5_2, .string a5_3, .int .i64 a5_4, .int .i64 a5_5, .int .i64 a5_6, .int .i64 a5_7, .int .i64 a5_8]) (t := 37) ?hr ?_; (case hd => rfl); (case hg => rfl); (case hr => first | (go_simp; done) | (go_simp; rfl)); intro gb212 hg w8 hbox hb; have n0_ := Aside0.mk (below_step (by repeat (first | (with_reducible first | exact HB.out | apply below_alloc | apply pw_below_drewN | apply below_drew1) | exact HB.out)) hb); have n1_ := Aside0.mk (hbox); have n2_ := Aside0.mk ((by rw [hg]; exact (below_size (by repeat (first | (with_reducible first | exact HB.out | apply below_alloc | apply pw_below_drewN | apply below_drew1) | exact HB.out))) : w.heap.size ≤ gb212)); have n3_ := Aside0.mk ((by rw [hg]; exact (below_size (by repeat (first | (with_reducible first | exact HB.out | apply below_alloc | apply pw_below_drewN | apply below_drew1) | exact HB.out))) : w.heap.size ≤ gb212)); clear HB; have HB := n0_; have BK212 := n1_; have GW212 := n2_; have GE212 := n3_; clear n0_ n1_ n2_ n3_; clear hb hbox hg))
  (try simp only [Act.put, List.setIfInBounds_toArray, List.set_cons_zero, List.set_cons_succ])
  go_cut [47] (fun v47 wc => ∃ (kq : Nat) (x47_6 : Bool), v47 = .bool x47_6 ∧ Aside0 (redoubtlaw15_PickTurned.j0 kq a0 a1 a2 a3 a4 x47_6 a5_0 a5_1 a5_2 a5_3 a5_4 a5_5 a5_6 a5_7 a5_8 = some r) ∧ Aside0 (kq ≤ k) ∧ Aside0 (wc.heap[gb212]? = some (.cells #[.string a5_0, .string a5_1, .string a5_2, .string a5_3, .int .i64 a5_4, .int .i64 a5_5, .int .i64 a5_6, .int .i64 a5_7, .int .i64 a5_8] 37 (0, 0))) ∧ Aside0 (Below w.heap.size w wc))
  case first =>
    have H := HC7.out
    clear HC7
    by_cases c9 : (wrap64 ((a0.size : Int) + (a1.size : Int))) > 300
    · rw [if_pos c9] at H
      have c9b0 : decide (300 < (wrap64 ((a0.size : Int) + (a1.size : Int)))) = true := decide_eq_true c9
      clear c9
      (first | rw [c9b0] | (simp only [i64_w, i32_w]; rw [c9b0]) | skip)
      have H' := Aside0.mk H
      clear H
      go_wp2
      go_meet
      case rel => exact ⟨_, (true), (by first | rfl | (simp; done) | (simp [*]; done)), H', ⟨by first | omega | exact Nat.le_refl _⟩, ⟨by (with_reducible repeat (first | refine blk_drewN ?_ _ | refine blk_drew ?_ | refine blk_alloc ?_ _)); exact BK212.out⟩, ⟨by repeat (first | (with_reducible first | exact HB.out | apply below_alloc | apply pw_below_drewN | apply below_drew1 | refine below_set ?_ GE212.out) | exact HB.out)⟩⟩
    · rw [if_neg c9] at H
      have c9b0 : decide (300 < (wrap64 ((a0.size : Int) + (a1.size : Int)))) = false := decide_eq_false c9
      clear c9
      (first | rw [c9b0] | (simp only [i64_w, i32_w]; rw [c9b0]) | skip)
      by_cases c10 : a3 < 0
      · rw [if_pos c10] at H
        have c10b0 : decide (a3 < 0) = true := decide_eq_true c10
        clear c10
        have H' := Aside0.mk H
        clear H
        go_wp2
        go_meet
        case rel => exact ⟨_, (true), (by first | rfl | (simp; done) | (simp [*]; done)), H', ⟨by first | omega | exact Nat.le_refl _⟩, ⟨by (with_reducible repeat (first | refine blk_drewN ?_ _ | refine blk_drew ?_ | refine blk_alloc ?_ _)); exact BK212.out⟩, ⟨by repeat (first | (with_reducible first | exact HB.out | apply below_alloc | apply pw_below_drewN | apply below_drew1 | refine below_set ?_ GE212.out) | exact HB.out)⟩⟩
      · rw [if_neg c10] at H
        have c10b0 : decide (a3 < 0) = false := decide_eq_false c10
        clear c10
        by_cases c11 : a3 > 65535
        · rw [if_pos c11] at H
          have c11b0 : decide (65535 < a3) = true := decide_eq_true c11
          clear c11
          have H' := Aside0.mk H
          clear H
          go_wp2
          go_meet
          case rel => exact ⟨_, (true), (by first | rfl | (simp; done) | (simp [*]; done)), H', ⟨by first | omega | exact Nat.le_refl _⟩, ⟨by (with_reducible repeat (first | refine blk_drewN ?_ _ | refine blk_drew ?_ | refine blk_alloc ?_ _)); exact BK212.out⟩, ⟨by repeat (first | (with_reducible first | exact HB.out | apply below_alloc | apply pw_below_drewN | apply below_drew1 | refine below_set ?_ GE212.out) | exact HB.out)⟩⟩
        · rw [if_neg c11] at H
          have c11b0 : decide (65535 < a3) = false := decide_eq_false c11
          clear c11
          by_cases c12 : a4 < 0
          · rw [if_pos c12] at H
            have c12b0 : decide (a4 < 0) = true := decide_eq_true c12
            clear c12
            have H' := Aside0.mk H
            clear H
            go_wp2
            go_meet
            case rel => exact ⟨_, (true), (by first | rfl | (simp; done) | (simp [*]; done)), H', ⟨by first | omega | exact Nat.le_refl _⟩, ⟨by (with_reducible repeat (first | refine blk_drewN ?_ _ | refine blk_drew ?_ | refine blk_alloc ?_ _)); exact BK212.out⟩, ⟨by repeat (first | (with_reducible first | exact HB.out | apply below_alloc | apply pw_below_drewN | apply below_drew1 | refine below_set ?_ GE212.out) | exact HB.out)⟩⟩
          · rw [if_neg c12] at H
            have c12b0 : decide (a4 < 0) = false := decide_eq_false c12
            clear c12
            by_cases c13 : a4 > 65535
            · rw [if_pos c13] at H
              have c13b0 : decide (65535 < a4) = true := decide_eq_true c13
              clear c13
              have H' := Aside0.mk H
              clear H
              go_wp2
              go_meet
              case rel => exact ⟨_, (true), (by first | rfl | (simp; done) | (simp [*]; done)), H', ⟨by first | omega | exact Nat.le_refl _⟩, ⟨by (with_reducible repeat (first | refine blk_drewN ?_ _ | refine blk_drew ?_ | refine blk_alloc ?_ _)); exact BK212.out⟩, ⟨by repeat (first | (with_reducible first | exact HB.out | apply below_alloc | apply pw_below_drewN | apply below_drew1 | refine below_set ?_ GE212.out) | exact HB.out)⟩⟩
            · rw [if_neg c13] at H
              have c13b0 : decide (65535 < a4) = false := decide_eq_false c13
              clear c13
              replace H := Option.bind_eq_some_iff.mp H
              obtain ⟨t213, A140, H⟩ := H
              replace H : (redoubtlaw15_PickTurned.j0 k a0 a1 a2 a3 a4 (!t213) a5_0 a5_1 a5_2 a5_3 a5_4 a5_5 a5_6 a5_7 a5_8) = some r := H
              have A14 := Aside0.mk A140
              clear A140
              have H' := Aside0.mk H
              clear H
              have hcz15_0 : w8.cell? ⟨gb212, 0, none⟩ = some (.string a5_0) := (blk_cell BK212.out 0).trans rfl
              have hcz15_1 : w8.cell? ⟨gb212, 1, none⟩ = some (.string a5_1) := (blk_cell BK212.out 1).trans rfl
              have hcz15_2 : w8.cell? ⟨gb212, 2, none⟩ = some (.string a5_2) := (blk_cell BK212.out 2).trans rfl
              have hcz15_3 : w8.cell? ⟨gb212, 3, none⟩ = some (.string a5_3) := (blk_cell BK212.out 3).trans rfl
              have hcz15_4 : w8.cell? ⟨gb212, 4, none⟩ = some (.int .i64 a5_4) := (blk_cell BK212.out 4).trans rfl
              have hcz15_5 : w8.cell? ⟨gb212, 5, none⟩ = some (.int .i64 a5_5) := (blk_cell BK212.out 5).trans rfl
              have hcz15_6 : w8.cell? ⟨gb212, 6, none⟩ = some (.int .i64 a5_6) := (blk_cell BK212.out 6).trans rfl
              have hcz15_7 : w8.cell? ⟨gb212, 7, none⟩ = some (.int .i64 a5_7) := (blk_cell BK212.out 7).trans rfl
              have hcz15_8 : w8.cell? ⟨gb212, 8, none⟩ = some (.int .i64 a5_8) := (blk_cell BK212.out 8).trans rfl
              have hfz15_0 := blk_frozen BK212.out 0
              have hfz15_1 := blk_frozen BK212.out 1
              have hfz15_2 := blk_frozen BK212.out 2
              have hfz15_3 := blk_frozen BK212.out 3
              have hfz15_4 := blk_frozen BK212.out 4
              have hfz15_5 := blk_frozen BK212.out 5
              have hfz15_6 := blk_frozen BK212.out 6
              have hfz15_7 := blk_frozen BK212.out 7
              have hfz15_8 := blk_frozen BK212.out 8
              go_wp2_with (first | (go_at_call 13; (with_reducible refine (redoubtlaw15_few.calls a5_0 a5_1 a5_2 a5_3 a5_4 a5_5 a5_6 a5_7 a5_8 (⟨#[]⟩ : ByteArray) (⟨#[]⟩ : ByteArray) 0 0 0 t213 _ A14.out).mono ?_); rintro e w16 ⟨rfl, hb⟩; have n0_ := Aside0.mk (blk_below (g := gb212) (o := .cells #[.string a5_0, .string a5_1, .string a5_2, .string a5_3, .int .i64 a5_4, .int .i64 a5_5, .int .i64 a5_6, .int .i64 a5_7, .int .i64 a5_8] 37 (0, 0)) (by (with_reducible repeat (first | refine blk_drewN ?_ _ | refine blk_drew ?_ | refine blk_alloc ?_ _)); exact BK212.out) hb); have n1_ := Aside0.mk (below_step (by repeat (first | (with_reducible first | exact HB.out | apply below_alloc | apply pw_below_drewN | apply below_drew1 | refine below_set ?_ GE212.out) | exact HB.out)) hb); clear BK212; clear HB; have BK212 := n0_; have HB := n1_; clear n0_ n1_; (try clear hb); (try clear hb2); (try clear hk); (try clear hi)))
              go_meet
              case rel => exact ⟨_, (!t213), (by first | rfl | (simp; done) | (simp [*]; done)), H', ⟨by first | omega | exact Nat.le_refl _⟩, ⟨by (with_reducible repeat (first | refine blk_drewN ?_ _ | refine blk_drew ?_ | refine blk_alloc ?_ _)); exact BK212.out⟩, ⟨by repeat (first | (with_reducible first | exact HB.out | apply below_alloc | apply pw_below_drewN | apply below_drew1 | refine below_set ?_ GE212.out) | exact HB.out)⟩⟩
  case rest =>
    clear HC7
    try clear c1
    try clear p2
    try clear c4
    try clear p6
    try clear c9
    try clear c9b0
    try clear c10
    try clear c10b0
    try clear c11
    try clear c11b0
    try clear c12
    try clear c12b0
    try clear c13
    try clear c13b0
    try clear hcz15_0
    try clear hcz15_1
    try clear hcz15_2
    try clear hcz15_3
    try clear hcz15_4
    try clear hcz15_5
    try clear hcz15_6
    try clear hcz15_7
    try clear hcz15_8
    try clear hfz15_0
    try clear hfz15_1
    try clear hfz15_2
    try clear hfz15_3
    try clear hfz15_4
    try clear hfz15_5
    try clear hfz15_6
    try clear hfz15_7
    try clear hfz15_8
    obtain ⟨kq, x47_6, rfl, HA, HJ6, BK212, HB⟩ := hcut
    cases kq with
    | zero => exact absurd HA.out (by simp [redoubtlaw15_PickTurned.j0])
    | succ kj6 =>
      have H := HA.out
      clear HA
      simp only [redoubtlaw15_PickTurned.j0] at H
      by_cases c17 : x47_6 = true
      · subst c17
        have H1 : (some true) = some r := by rw [if_pos rfl] at H; exact H
        clear H
        have H := H1
        clear H1
        obtain rfl := Option.some.inj H
        go_wp2
        go_ret
        exact ⟨by first | rfl | (simp [errW_none, errW_some] <;> rfl) | (simp [*, errW_none, errW_some] <;> rfl), by repeat (first | (with_reducible first | exact HB.out | apply below_alloc | apply pw_below_drewN | apply below_drew1 | refine below_set ?_ GE212.out) | exact HB.out)⟩
      · replace c17 := Bool.eq_false_iff.mpr c17
        subst c17
        have H1 : ((pick_Of.f kj6 a0 a1 a2 (([(wrap64 (Int.tdiv a3 256)) % 256, (Int.tmod a3 256) % 256, (wrap64 (Int.tdiv a4 256)) % 256, (Int.tmod a4 256) % 256] : List Int)) false).bind fun bt220 => ((pick_Of.f kj6 a1 a0 a2 (([(wrap64 (Int.tdiv a4 256)) % 256, (Int.tmod a4 256) % 256, (wrap64 (Int.tdiv a3 256)) % 256, (Int.tmod a3 256) % 256] : List Int)) true).bind fun bt227 => ((redoubtlaw15_awake.f kj6).bind fun t235 => (if t235 = true then (if (bt220.1.toList == bt227.1.toList && (bt220.2.1.toList == bt227.2.1.toList && (bt220.2.2.1 == bt227.2.2.1 && (bt220.2.2.2.1 == bt227.2.2.2.1 && (bt220.2.2.2.2.1 == bt227.2.2.2.2.1))))) = true then (if bt220.2.2.2.2.2 = bt227.2.2.2.2.2 then ((pick_Turned.f bt220.1 bt220.2.1 bt220.2.2.1 bt220.2.2.2.1 bt220.2.2.2.2.1).bind fun bt236 => ((pick_Turned.f bt236.1 bt236.2.1 bt236.2.2.1 bt236.2.2.2.1 bt236.2.2.2.2).bind fun bt241 => (if (bt241.1.toList == bt220.1.toList && (bt241.2.1.toList == bt220.2.1.toList && (bt241.2.2.1 == bt220.2.2.1 && (bt241.2.2.2.1 == bt220.2.2.2.1 && (bt241.2.2.2.2 == bt220.2.2.2.2.1))))) = true then ((pick_Matches.f kj6 a5_0 a5_1 a5_2 a5_3 a5_4 a5_5 a5_6 a5_7 a5_8 bt220.1 bt220.2.1 bt220.2.2.1 bt220.2.2.2.1 bt220.2.2.2.2.1).bind fun t246 => ((pick_Turned.f bt220.1 bt220.2.1 bt220.2.2.1 bt220.2.2.2.1 bt220.2.2.2.2.1).bind fun bt247 => ((pick_Matches.f kj6 a5_2 a5_3 a5_0 a5_1 a5_4 a5_7 a5_8 a5_5 a5_6 bt247.1 bt247.2.1 bt247.2.2.1 bt247.2.2.2.1 bt247.2.2.2.2).bind fun t252 => (some (t246 == t252))))) else (some false)))) else (some false)) else (some false)) else (some false))))) = some r := by rw [if_neg (show ¬ (false = true) by decide)] at H; exact H
        clear H
        have H := H1
        clear H1
        obtain ⟨y214, hy214⟩ : ∃ y_ : List Int, y_ = (([(wrap64 (Int.tdiv a3 256)) % 256, (Int.tmod a3 256) % 256, (wrap64 (Int.tdiv a4 256)) % 256, (Int.tmod a4 256) % 256] : List Int)) := ⟨_, rfl⟩
        replace H : ((pick_Of.f kj6 a0 a1 a2 y214 false).bind fun bt220 => ((pick_Of.f kj6 a1 a0 a2 (([(wrap64 (Int.tdiv a4 256)) % 256, (Int.tmod a4 256) % 256, (wrap64 (Int.tdiv a3 256)) % 256, (Int.tmod a3 256) % 256] : List Int)) true).bind fun bt227 => ((redoubtlaw15_awake.f kj6).bind fun t235 => (if t235 = true then (if (bt220.1.toList == bt227.1.toList && (bt220.2.1.toList == bt227.2.1.toList && (bt220.2.2.1 == bt227.2.2.1 && (bt220.2.2.2.1 == bt227.2.2.2.1 && (bt220.2.2.2.2.1 == bt227.2.2.2.2.1))))) = true then (if bt220.2.2.2.2.2 = bt227.2.2.2.2.2 then ((pick_Turned.f bt220.1 bt220.2.1 bt220.2.2.1 bt220.2.2.2.1 bt220.2.2.2.2.1).bind fun bt236 => ((pick_Turned.f bt236.1 bt236.2.1 bt236.2.2.1 bt236.2.2.2.1 bt236.2.2.2.2).bind fun bt241 => (if (bt241.1.toList == bt220.1.toList && (bt241.2.1.toList == bt220.2.1.toList && (bt241.2.2.1 == bt220.2.2.1 && (bt241.2.2.2.1 == bt220.2.2.2.1 && (bt241.2.2.2.2 == bt220.2.2.2.2.1))))) = true then ((pick_Matches.f kj6 a5_0 a5_1 a5_2 a5_3 a5_4 a5_5 a5_6 a5_7 a5_8 bt220.1 bt220.2.1 bt220.2.2.1 bt220.2.2.2.1 bt220.2.2.2.2.1).bind fun t246 => ((pick_Turned.f bt220.1 bt220.2.1 bt220.2.2.1 bt220.2.2.2.1 bt220.2.2.2.2.1).bind fun bt247 => ((pick_Matches.f kj6 a5_2 a5_3 a5_0 a5_1 a5_4 a5_7 a5_8 a5_5 a5_6 bt247.1 bt247.2.1 bt247.2.2.1 bt247.2.2.2.1 bt247.2.2.2.2).bind fun t252 => (some (t246 == t252))))) else (some false)))) else (some false)) else (some false)) else (some false))))) = some r := by first | (rw [hy214]; with_reducible exact H) | (have H2_ := (Option.bind_some _ _).symm.trans H; rw [hy214]; with_reducible exact H2_) | (have H2_ := (Option.bind_some _ _).symm.trans H; with_reducible exact H2_) | with_reducible exact H | (rw [hy214]; exact H) | exact H
        have Ny214 := Aside0.mk hy214
        clear hy214
        obtain ⟨y217, hy217⟩ : ∃ y_ : List Int, y_ = (([(wrap64 (Int.tdiv a4 256)) % 256, (Int.tmod a4 256) % 256, (wrap64 (Int.tdiv a3 256)) % 256, (Int.tmod a3 256) % 256] : List Int)) := ⟨_, rfl⟩
        replace H : ((pick_Of.f kj6 a0 a1 a2 y214 false).bind fun bt220 => ((pick_Of.f kj6 a1 a0 a2 y217 true).bind fun bt227 => ((redoubtlaw15_awake.f kj6).bind fun t235 => (if t235 = true then (if (bt220.1.toList == bt227.1.toList && (bt220.2.1.toList == bt227.2.1.toList && (bt220.2.2.1 == bt227.2.2.1 && (bt220.2.2.2.1 == bt227.2.2.2.1 && (bt220.2.2.2.2.1 == bt227.2.2.2.2.1))))) = true then (if bt220.2.2.2.2.2 = bt227.2.2.2.2.2 then ((pick_Turned.f bt220.1 bt220.2.1 bt220.2.2.1 bt220.2.2.2.1 bt220.2.2.2.2.1).bind fun bt236 => ((pick_Turned.f bt236.1 bt236.2.1 bt236.2.2.1 bt236.2.2.2.1 bt236.2.2.2.2).bind fun bt241 => (if (bt241.1.toList == bt220.1.toList && (bt241.2.1.toList == bt220.2.1.toList && (bt241.2.2.1 == bt220.2.2.1 && (bt241.2.2.2.1 == bt220.2.2.2.1 && (bt241.2.2.2.2 == bt220.2.2.2.2.1))))) = true then ((pick_Matches.f kj6 a5_0 a5_1 a5_2 a5_3 a5_4 a5_5 a5_6 a5_7 a5_8 bt220.1 bt220.2.1 bt220.2.2.1 bt220.2.2.2.1 bt220.2.2.2.2.1).bind fun t246 => ((pick_Turned.f bt220.1 bt220.2.1 bt220.2.2.1 bt220.2.2.2.1 bt220.2.2.2.2.1).bind fun bt247 => ((pick_Matches.f kj6 a5_2 a5_3 a5_0 a5_1 a5_4 a5_7 a5_8 a5_5 a5_6 bt247.1 bt247.2.1 bt247.2.2.1 bt247.2.2.2.1 bt247.2.2.2.2).bind fun t252 => (some (t246 == t252))))) else (some false)))) else (some false)) else (some false)) else (some false))))) = some r := by first | (rw [hy217]; with_reducible exact H) | (have H2_ := (Option.bind_some _ _).symm.trans H; rw [hy217]; with_reducible exact H2_) | (have H2_ := (Option.bind_some _ _).symm.trans H; with_reducible exact H2_) | with_reducible exact H | (rw [hy217]; exact H) | exact H
        have Ny217 := Aside0.mk hy217
        clear hy217
        replace H := Option.bind_eq_some_iff.mp H
        obtain ⟨⟨t220, t221, t222, t223, t224, t225⟩, A180, H⟩ := H
        replace H : ((pick_Of.f kj6 a1 a0 a2 y217 true).bind fun bt227 => ((redoubtlaw15_awake.f kj6).bind fun t235 => (if t235 = true then (if (t220.toList == bt227.1.toList && (t221.toList == bt227.2.1.toList && (t222 == bt227.2.2.1 && (t223 == bt227.2.2.2.1 && (t224 == bt227.2.2.2.2.1))))) = true then (if t225 = bt227.2.2.2.2.2 then ((pick_Turned.f t220 t221 t222 t223 t224).bind fun bt236 => ((pick_Turned.f bt236.1 bt236.2.1 bt236.2.2.1 bt236.2.2.2.1 bt236.2.2.2.2).bind fun bt241 => (if (bt241.1.toList == t220.toList && (bt241.2.1.toList == t221.toList && (bt241.2.2.1 == t222 && (bt241.2.2.2.1 == t223 && (bt241.2.2.2.2 == t224))))) = true then ((pick_Matches.f kj6 a5_0 a5_1 a5_2 a5_3 a5_4 a5_5 a5_6 a5_7 a5_8 t220 t221 t222 t223 t224).bind fun t246 => ((pick_Turned.f t220 t221 t222 t223 t224).bind fun bt247 => ((pick_Matches.f kj6 a5_2 a5_3 a5_0 a5_1 a5_4 a5_7 a5_8 a5_5 a5_6 bt247.1 bt247.2.1 bt247.2.2.1 bt247.2.2.2.1 bt247.2.2.2.2).bind fun t252 => (some (t246 == t252))))) else (some false)))) else (some false)) else (some false)) else (some false)))) = some r := H
        have A18 := Aside0.mk A180
        clear A180
        replace H := Option.bind_eq_some_iff.mp H
        obtain ⟨⟨t227, t228, t229, t230, t231, t232⟩, A190, H⟩ := H
        replace H : ((redoubtlaw15_awake.f kj6).bind fun t235 => (if t235 = true then (if (t220.toList == t227.toList && (t221.toList == t228.toList && (t222 == t229 && (t223 == t230 && (t224 == t231))))) = true then (if t225 = t232 then ((pick_Turned.f t220 t221 t222 t223 t224).bind fun bt236 => ((pick_Turned.f bt236.1 bt236.2.1 bt236.2.2.1 bt236.2.2.2.1 bt236.2.2.2.2).bind fun bt241 => (if (bt241.1.toList == t220.toList && (bt241.2.1.toList == t221.toList && (bt241.2.2.1 == t222 && (bt241.2.2.2.1 == t223 && (bt241.2.2.2.2 == t224))))) = true then ((pick_Matches.f kj6 a5_0 a5_1 a5_2 a5_3 a5_4 a5_5 a5_6 a5_7 a5_8 t220 t221 t222 t223 t224).bind fun t246 => ((pick_Turned.f t220 t221 t222 t223 t224).bind fun bt247 => ((pick_Matches.f kj6 a5_2 a5_3 a5_0 a5_1 a5_4 a5_7 a5_8 a5_5 a5_6 bt247.1 bt247.2.1 bt247.2.2.1 bt247.2.2.2.1 bt247.2.2.2.2).bind fun t252 => (some (t246 == t252))))) else (some false)))) else (some false)) else (some false)) else (some false))) = some r := H
        have A19 := Aside0.mk A190
        clear A190
        replace H := Option.bind_eq_some_iff.mp H
        obtain ⟨t235, A200, H⟩ := H
        replace H : (if t235 = true then (if (t220.toList == t227.toList && (t221.toList == t228.toList && (t222 == t229 && (t223 == t230 && (t224 == t231))))) = true then (if t225 = t232 then ((pick_Turned.f t220 t221 t222 t223 t224).bind fun bt236 => ((pick_Turned.f bt236.1 bt236.2.1 bt236.2.2.1 bt236.2.2.2.1 bt236.2.2.2.2).bind fun bt241 => (if (bt241.1.toList == t220.toList && (bt241.2.1.toList == t221.toList && (bt241.2.2.1 == t222 && (bt241.2.2.2.1 == t223 && (bt241.2.2.2.2 == t224))))) = true then ((pick_Matches.f kj6 a5_0 a5_1 a5_2 a5_3 a5_4 a5_5 a5_6 a5_7 a5_8 t220 t221 t222 t223 t224).bind fun t246 => ((pick_Turned.f t220 t221 t222 t223 t224).bind fun bt247 => ((pick_Matches.f kj6 a5_2 a5_3 a5_0 a5_1 a5_4 a5_7 a5_8 a5_5 a5_6 bt247.1 bt247.2.1 bt247.2.2.1 bt247.2.2.2.1 bt247.2.2.2.2).bind fun t252 => (some (t246 == t252))))) else (some false)))) else (some false)) else (some false)) else (some false)) = some r := H
        have A20 := Aside0.mk A200
        clear A200
        by_cases c21 : t235 = true
        · subst c21
          have H1 : (if (t220.toList == t227.toList && (t221.toList == t228.toList && (t222 == t229 && (t223 == t230 && (t224 == t231))))) = true then (if t225 = t232 then ((pick_Turned.f t220 t221 t222 t223 t224).bind fun bt236 => ((pick_Turned.f bt236.1 bt236.2.1 bt236.2.2.1 bt236.2.2.2.1 bt236.2.2.2.2).bind fun bt241 => (if (bt241.1.toList == t220.toList && (bt241.2.1.toList == t221.toList && (bt241.2.2.1 == t222 && (bt241.2.2.2.1 == t223 && (bt241.2.2.2.2 == t224))))) = true then ((pick_Matches.f kj6 a5_0 a5_1 a5_2 a5_3 a5_4 a5_5 a5_6 a5_7 a5_8 t220 t221 t222 t223 t224).bind fun t246 => ((pick_Turned.f t220 t221 t222 t223 t224).bind fun bt247 => ((pick_Matches.f kj6 a5_2 a5_3 a5_0 a5_1 a5_4 a5_7 a5_8 a5_5 a5_6 bt247.1 bt247.2.1 bt247.2.2.1 bt247.2.2.2.1 bt247.2.2.2.2).bind fun t252 => (some (t246 == t252))))) else (some false)))) else (some false)) else (some false)) = some r := by rw [if_pos rfl] at H; exact H
          clear H
          have H := H1
          clear H1
          by_cases c22 : (t220.toList == t227.toList && (t221.toList == t228.toList && (t222 == t229 && (t223 == t230 && (t224 == t231))))) = true
          · rw [if_pos c22] at H
            have c22b0 : (t220.toList == t227.toList && (t221.toList == t228.toList && (t222 == t229 && (t223 == t230 && (t224 == t231))))) = true := c22
            (try (have c22b1 : decide (t220.toList = t227.toList && (t221.toList == t228.toList && (t222 == t229 && (t223 == t230 && (t224 == t231))))) = true := by simpa using c22))
            (try (have c22b2 : (t220.toList == t227.toList && (t221.toList == t228.toList && (t222 == t229 && (t223 == t230 && (t224 == t231))))) = true := by simpa using c22))
            clear c22
            by_cases c23 : t225 = t232
            · rw [if_pos c23] at H
              have c23b0 : (t225 == t232) = true := beq_iff_eq.mpr c23
              have c23b1 : (t225 != t232) = false := bne_eq_false_iff_eq.mpr c23
              clear c23
              replace H := Option.bind_eq_some_iff.mp H
              obtain ⟨⟨t236, t237, t238, t239, t240⟩, A240, H⟩ := H
              replace H : ((pick_Turned.f t236 t237 t238 t239 t240).bind fun bt241 => (if (bt241.1.toList == t220.toList && (bt241.2.1.toList == t221.toList && (bt241.2.2.1 == t222 && (bt241.2.2.2.1 == t223 && (bt241.2.2.2.2 == t224))))) = true then ((pick_Matches.f kj6 a5_0 a5_1 a5_2 a5_3 a5_4 a5_5 a5_6 a5_7 a5_8 t220 t221 t222 t223 t224).bind fun t246 => ((pick_Turned.f t220 t221 t222 t223 t224).bind fun bt247 => ((pick_Matches.f kj6 a5_2 a5_3 a5_0 a5_1 a5_4 a5_7 a5_8 a5_5 a5_6 bt247.1 bt247.2.1 bt247.2.2.1 bt247.2.2.2.1 bt247.2.2.2.2).bind fun t252 => (some (t246 == t252))))) else (some false))) = some r := H
              have A24 := Aside0.mk A240
              clear A240
              replace H := Option.bind_eq_some_iff.mp H
              obtain ⟨⟨t241, t242, t243, t244, t245⟩, A250, H⟩ := H
              replace H : (if (t241.toList == t220.toList && (t242.toList == t221.toList && (t243 == t222 && (t244 == t223 && (t245 == t224))))) = true then ((pick_Matches.f kj6 a5_0 a5_1 a5_2 a5_3 a5_4 a5_5 a5_6 a5_7 a5_8 t220 t221 t222 t223 t224).bind fun t246 => ((pick_Turned.f t220 t221 t222 t223 t224).bind fun bt247 => ((pick_Matches.f kj6 a5_2 a5_3 a5_0 a5_1 a5_4 a5_7 a5_8 a5_5 a5_6 bt247.1 bt247.2.1 bt247.2.2.1 bt247.2.2.2.1 bt247.2.2.2.2).bind fun t252 => (some (t246 == t252))))) else (some false)) = some r := H
              have A25 := Aside0.mk A250
              clear A250
              by_cases c26 : (t241.toList == t220.toList && (t242.toList == t221.toList && (t243 == t222 && (t244 == t223 && (t245 == t224))))) = true
              · rw [if_pos c26] at H
                have c26b0 : (t241.toList == t220.toList && (t242.toList == t221.toList && (t243 == t222 && (t244 == t223 && (t245 == t224))))) = true := c26
                (try (have c26b1 : decide (t241.toList = t220.toList && (t242.toList == t221.toList && (t243 == t222 && (t244 == t223 && (t245 == t224))))) = true := by simpa using c26))
                (try (have c26b2 : (t241.toList == t220.toList && (t242.toList == t221.toList && (t243 == t222 && (t244 == t223 && (t245 == t224))))) = true := by simpa using c26))
                clear c26
                replace H := Option.bind_eq_some_iff.mp H
                obtain ⟨t246, A270, H⟩ := H
                replace H : ((pick_Turned.f t220 t221 t222 t223 t224).bind fun bt247 => ((pick_Matches.f kj6 a5_2 a5_3 a5_0 a5_1 a5_4 a5_7 a5_8 a5_5 a5_6 bt247.1 bt247.2.1 bt247.2.2.1 bt247.2.2.2.1 bt247.2.2.2.2).bind fun t252 => (some (t246 == t252)))) = some r := H
                have A27 := Aside0.mk A270
                clear A270
                replace H := Option.bind_eq_some_iff.mp H
                obtain ⟨⟨t247, t248, t249, t250, t251⟩, A280, H⟩ := H
                replace H : ((pick_Matches.f kj6 a5_2 a5_3 a5_0 a5_1 a5_4 a5_7 a5_8 a5_5 a5_6 t247 t248 t249 t250 t251).bind fun t252 => (some (t246 == t252))) = some r := H
                have A28 := Aside0.mk A280
                clear A280
                replace H := Option.bind_eq_some_iff.mp H
                obtain ⟨t252, A290, H⟩ := H
                replace H : (some (t246 == t252)) = some r := H
                have A29 := Aside0.mk A290
                clear A290
                obtain rfl := Option.some.inj H
                try go_wp2_with (first | ((with_reducible refine gate_dst (N := 60) rfl ?_); refine Kd.R_lit (Kd.int .u8) _ 5 ?hg (N := 60) ?hd (xs := ([(wrap64 (Int.tdiv a3 256)) % 256, (Int.tmod a3 256) % 256, (wrap64 (Int.tdiv a4 256)) % 256, (Int.tmod a4 256) % 256] : List Int)) (inner := [.int .u8 ((wrap64 (Int.tdiv a3 256)) % 256), .int .u8 ((Int.tmod a3 256) % 256), .int .u8 ((wrap64 (Int.tdiv a4 256)) % 256), .int .u8 ((Int.tmod a4 256) % 256)]) (ok := fun _ => True) (okp := fun _ => True) ?hr ?hp (fun _ hk => hk) trivial (Below.refl _ _) (Nat.le_refl _) (by simp) ?_; (case hd => rfl); (case hg => rfl); (case hr => first | (go_simp; done) | (go_simp; rfl)); (case hp => exact (Reps.one (show Kd.M (Kd.int .u8) _ _ _ ((wrap64 (Int.tdiv a3 256)) % 256) [.int .u8 ((wrap64 (Int.tdiv a3 256)) % 256)] from rfl) (Reps.one (show Kd.M (Kd.int .u8) _ _ _ ((Int.tmod a3 256) % 256) [.int .u8 ((Int.tmod a3 256) % 256)] from rfl) (Reps.one (show Kd.M (Kd.int .u8) _ _ _ ((wrap64 (Int.tdiv a4 256)) % 256) [.int .u8 ((wrap64 (Int.tdiv a4 256)) % 256)] from rfl) (Reps.one (show Kd.M (Kd.int .u8) _ _ _ ((Int.tmod a4 256) % 256) [.int .u8 ((Int.tmod a4 256) % 256)] from rfl) (Reps.none _ _)))))); intro v215 w30 ho31 hb hg_ hnew_; clear hg_ hnew_; (first | rw [← Ny214.out] at ho31 | (simp only [Int.reduceToNat] at ho31; rw [← Ny214.out] at ho31)); have n0_ := Aside0.mk (Kd.R_lower ho31 (below_size (by repeat (first | (with_reducible first | exact HB.out | apply below_alloc | apply pw_below_drewN | apply below_drew1 | refine below_set ?_ GE212.out) | exact HB.out)))); have n1_ := Aside0.mk (blk_below (g := gb212) (o := .cells #[.string a5_0, .string a5_1, .string a5_2, .string a5_3, .int .i64 a5_4, .int .i64 a5_5, .int .i64 a5_6, .int .i64 a5_7, .int .i64 a5_8] 37 (0, 0)) (by (with_reducible repeat (first | refine blk_drewN ?_ _ | refine blk_drew ?_ | refine blk_alloc ?_ _)); exact BK212.out) hb); have n2_ := Aside0.mk (below_step (by repeat (first | (with_reducible first | exact HB.out | apply below_alloc | apply pw_below_drewN | apply below_drew1 | refine below_set ?_ GE212.out) | exact HB.out)) hb); clear BK212; clear HB; have HO216 := n0_; have BK212 := n1_; have HB := n2_; clear n0_ n1_ n2_; clear hb ho31) | ((with_reducible refine gate_dst (N := 73) rfl ?_); refine Kd.R_lit (Kd.int .u8) _ 5 ?hg (N := 73) ?hd (xs := ([(wrap64 (Int.tdiv a4 256)) % 256, (Int.tmod a4 256) % 256, (wrap64 (Int.tdiv a3 256)) % 256, (Int.tmod a3 256) % 256] : List Int)) (inner := [.int .u8 ((wrap64 (Int.tdiv a4 256)) % 256), .int .u8 ((Int.tmod a4 256) % 256), .int .u8 ((wrap64 (Int.tdiv a3 256)) % 256), .int .u8 ((Int.tmod a3 256) % 256)]) (ok := fun _ => True) (okp := fun _ => True) ?hr ?hp (fun _ hk => hk) trivial (Below.refl _ _) (Nat.le_refl _) (by simp) ?_; (case hd => rfl); (case hg => rfl); (case hr => first | (go_simp; done) | (go_simp; rfl)); (case hp => exact (Reps.one (show Kd.M (Kd.int .u8) _ _ _ ((wrap64 (Int.tdiv a4 256)) % 256) [.int .u8 ((wrap64 (Int.tdiv a4 256)) % 256)] from rfl) (Reps.one (show Kd.M (Kd.int .u8) _ _ _ ((Int.tmod a4 256) % 256) [.int .u8 ((Int.tmod a4 256) % 256)] from rfl) (Reps.one (show Kd.M (Kd.int .u8) _ _ _ ((wrap64 (Int.tdiv a3 256)) % 256) [.int .u8 ((wrap64 (Int.tdiv a3 256)) % 256)] from rfl) (Reps.one (show Kd.M (Kd.int .u8) _ _ _ ((Int.tmod a3 256) % 256) [.int .u8 ((Int.tmod a3 256) % 256)] from rfl) (Reps.none _ _)))))); intro v218 w32 ho33 hb hg_ hnew_; clear hg_ hnew_; (first | rw [← Ny217.out] at ho33 | (simp only [Int.reduceToNat] at ho33; rw [← Ny217.out] at ho33)); have n0_ := Aside0.mk (Kd.R_elder' (by (with_reducible repeat (first | apply Kd.R_alloc | apply Kd.R_drewN | apply Kd.R_drew)); exact HO216.out) (Kd.R_base ho33) hb); have n1_ := Aside0.mk (Kd.R_lower (Kd.R_new' ho33 (Kd.R_lt (by (with_reducible repeat (first | apply Kd.R_alloc | apply Kd.R_drewN | apply Kd.R_drew)); exact HO216.out))) (below_size (by repeat (first | (with_reducible first | exact HB.out | apply below_alloc | apply pw_below_drewN | apply below_drew1 | refine below_set ?_ GE212.out) | exact HB.out)))); have n2_ := Aside0.mk (blk_below (g := gb212) (o := .cells #[.string a5_0, .string a5_1, .string a5_2, .string a5_3, .int .i64 a5_4, .int .i64 a5_5, .int .i64 a5_6, .int .i64 a5_7, .int .i64 a5_8] 37 (0, 0)) (by (with_reducible repeat (first | refine blk_drewN ?_ _ | refine blk_drew ?_ | refine blk_alloc ?_ _)); exact BK212.out) hb); have n3_ := Aside0.mk (below_step (by repeat (first | (with_reducible first | exact HB.out | apply below_alloc | apply pw_below_drewN | apply below_drew1 | refine below_set ?_ GE212.out) | exact HB.out)) hb); clear HO216; clear BK212; clear HB; have HO216 := n0_; have HO219 := n1_; have BK212 := n2_; have HB := n3_; clear n0_ n1_ n2_ n3_; clear hb ho33; obtain ⟨Ao34, co34, eo34⟩ := Kd.R_slice HO216.out; subst eo34) | ((with_reducible refine gate_callee (f := 8) rfl ?_); refine goesL_ (some 79) rfl rfl Try.func8 (by kernel_rfl) rfl #[.string a0, .string a1, .int .i64 a2, .slice Ao34 y214.length co34, .bool false] rfl (by (try simp only [List.map_toArray, List.map_cons, List.map_nil]); first | done | rfl | (simp only [List.length_drop, List.length_take]; rfl)) ?_; (with_reducible refine (pick_Of.calls kj6 a0 a1 a2 _ _ y214 false t220 t221 t222 t223 t224 t225 _ ?side1 ?side2 A18.out).mono ?_); (case side1 => repeat (first | exact (Kd.R_reads' HO216.out).2.2 | (with_reducible refine Kd.C_alloc ?_ _) | (with_reducible refine Kd.C_drewN ?_ _) | (with_reducible refine Kd.C_drew ?_))); (case side2 => exact (Kd.R_reads' HO216.out).2.1); rintro e w35 ⟨rfl, hb⟩; refine ⟨_, rfl, ?_⟩; have n0_ := Aside0.mk (Kd.R_below (by (with_reducible repeat (first | apply Kd.R_alloc | apply Kd.R_drewN | apply Kd.R_drew)); exact HO216.out) hb); have n1_ := Aside0.mk (Kd.R_below (by (with_reducible repeat (first | apply Kd.R_alloc | apply Kd.R_drewN | apply Kd.R_drew)); exact HO219.out) hb); have n2_ := Aside0.mk (blk_below (g := gb212) (o := .cells #[.string a5_0, .string a5_1, .string a5_2, .string a5_3, .int .i64 a5_4, .int .i64 a5_5, .int .i64 a5_6, .int .i64 a5_7, .int .i64 a5_8] 37 (0, 0)) (by (with_reducible repeat (first | refine blk_drewN ?_ _ | refine blk_drew ?_ | refine blk_alloc ?_ _)); exact BK212.out) hb); have n3_ := Aside0.mk (below_step (by repeat (first | (with_reducible first | exact HB.out | apply below_alloc | apply pw_below_drewN | apply below_drew1 | refine below_set ?_ GE212.out) | exact HB.out)) hb); clear HO216; clear HO219; clear BK212; clear HB; have HO216 := n0_; have HO219 := n1_; have BK212 := n2_; have HB := n3_; clear n0_ n1_ n2_ n3_; (try clear hb); (try clear hb2); (try clear hk); (try clear hi)) | ((with_reducible refine gate_dst (N := 15) rfl ?_); refine box_event ?hg (N := 15) ?hd (cs := #[.string (⟨#[]⟩ : ByteArray), .string (⟨#[]⟩ : ByteArray), .int .i64 0, .int .i64 0, .int .i64 0]) (t := 24) ?hr ?_; (case hd => rfl); (case hg => rfl); (case hr => first | (go_simp; done) | (go_simp; rfl)); intro gb226 hg w36 hbox hb; have n0_ := Aside0.mk (Kd.R_below (by (with_reducible repeat (first | apply Kd.R_alloc | apply Kd.R_drewN | apply Kd.R_drew)); exact HO216.out) hb); have n1_ := Aside0.mk (Kd.R_below (by (with_reducible repeat (first | apply Kd.R_alloc | apply Kd.R_drewN | apply Kd.R_drew)); exact HO219.out) hb); have n2_ := Aside0.mk (blk_below (g := gb212) (o := .cells #[.string a5_0, .string a5_1, .string a5_2, .string a5_3, .int .i64 a5_4, .int .i64 a5_5, .int .i64 a5_6, .int .i64 a5_7, .int .i64 a5_8] 37 (0, 0)) (by (with_reducible repeat (first | refine blk_drewN ?_ _ | refine blk_drew ?_ | refine blk_alloc ?_ _)); exact BK212.out) hb); have n3_ := Aside0.mk (below_step (by repeat (first | (with_reducible first | exact HB.out | apply below_alloc | apply pw_below_drewN | apply below_drew1 | refine below_set ?_ GE212.out) | exact HB.out)) hb); have n4_ := Aside0.mk (hbox); have n5_ := Aside0.mk ((by rw [hg]; exact (below_size (by repeat (first | (with_reducible first | exact HB.out | apply below_alloc | apply pw_below_drewN | apply below_drew1 | refine below_set ?_ GE212.out) | exact HB.out))) : w.heap.size ≤ gb226)); have n6_ := Aside0.mk ((by rw [hg]; exact (below_size (by repeat (first | (with_reducible first | exact HB.out | apply below_alloc | apply pw_below_drewN | apply below_drew1 | refine below_set ?_ GE212.out) | exact HB.out))) : w.heap.size ≤ gb226)); have n7_ := Aside0.mk ((by rw [hg]; exact Nat.ne_of_lt (blk_lt (g := gb212) (o := .cells #[.string a5_0, .string a5_1, .string a5_2, .string a5_3, .int .i64 a5_4, .int .i64 a5_5, .int .i64 a5_6, .int .i64 a5_7, .int .i64 a5_8] 37 (0, 0)) (by (with_reducible repeat (first | refine blk_drewN ?_ _ | refine blk_drew ?_ | refine blk_alloc ?_ _)); exact BK212.out)) : gb212 ≠ gb226)); have n8_ := Aside0.mk ((by rw [hg]; exact Nat.ne_of_gt (blk_lt (g := gb212) (o := .cells #[.string a5_0, .string a5_1, .string a5_2, .string a5_3, .int .i64 a5_4, .int .i64 a5_5, .int .i64 a5_6, .int .i64 a5_7, .int .i64 a5_8] 37 (0, 0)) (by (with_reducible repeat (first | refine blk_drewN ?_ _ | refine blk_drew ?_ | refine blk_alloc ?_ _)); exact BK212.out)) : gb226 ≠ gb212)); clear HO216; clear HO219; clear BK212; clear HB; have HO216 := n0_; have HO219 := n1_; have BK212 := n2_; have HB := n3_; have BK226 := n4_; have GW226 := n5_; have GE226 := n6_; have NB212_226 := n7_; have NB226_212 := n8_; clear n0_ n1_ n2_ n3_ n4_ n5_ n6_ n7_ n8_; clear hb hbox hg; have hnb37 := NB226_212.out; have hnc37 := NB212_226.out; have hcz38_0 : w36.cell? ⟨gb226, 0, none⟩ = some (.string (⟨#[]⟩ : ByteArray)) := (blk_cell BK226.out 0).trans rfl; have hcz38_1 : w36.cell? ⟨gb226, 1, none⟩ = some (.string (⟨#[]⟩ : ByteArray)) := (blk_cell BK226.out 1).trans rfl; have hcz38_2 : w36.cell? ⟨gb226, 2, none⟩ = some (.int .i64 0) := (blk_cell BK226.out 2).trans rfl; have hcz38_3 : w36.cell? ⟨gb226, 3, none⟩ = some (.int .i64 0) := (blk_cell BK226.out 3).trans rfl; have hcz38_4 : w36.cell? ⟨gb226, 4, none⟩ = some (.int .i64 0) := (blk_cell BK226.out 4).trans rfl; have hfz38_0 := blk_frozen BK226.out 0; have hfz38_1 := blk_frozen BK226.out 1; have hfz38_2 := blk_frozen BK226.out 2; have hfz38_3 := blk_frozen BK226.out 3; have hfz38_4 := blk_frozen BK226.out 4; obtain ⟨Ao39, co39, eo39⟩ := Kd.R_slice HO219.out; subst eo39) | ((with_reducible refine gate_callee (f := 8) rfl ?_); refine goesL_ (some 87) rfl rfl Try.func8 (by kernel_rfl) rfl #[.string a1, .string a0, .int .i64 a2, .slice Ao39 y217.length co39, .bool true] rfl (by (try simp only [List.map_toArray, List.map_cons, List.map_nil]); first | done | rfl | (simp only [List.length_drop, List.length_take]; rfl)) ?_; (with_reducible refine (pick_Of.calls kj6 a1 a0 a2 _ _ y217 true t227 t228 t229 t230 t231 t232 _ ?side1 ?side2 A19.out).mono ?_); (case side1 => refine (Kd.R_reads' (e := 5) (base := w.heap.size) (ok := fun k_ => (True ∧ some k_ ≠ (.slice Ao34 y214.length co34 : Value).ownBlock)) (n := y217.length) (c := co39) ?_).2.2; exact (by (with_reducible repeat (first | apply Kd.R_alloc | apply Kd.R_drewN | apply Kd.R_drew)); exact (Kd.R_mono (Kd.R_far (p := ⟨gb226, 4, none⟩) (Kd.R_far (p := ⟨gb226, 3, none⟩) (Kd.R_far (p := ⟨gb226, 2, none⟩) (Kd.R_far (p := ⟨gb226, 1, none⟩) (Kd.R_far (p := ⟨gb226, 0, none⟩) (Kd.R_types HO219.out BK226.out (by decide)) (fun _ hk => hk.2) (.string t220)) (fun _ hk => hk.2) (.string t221)) (fun _ hk => hk.2) (.int .i64 t222)) (fun _ hk => hk.2) (.int .i64 t223)) (fun _ hk => hk.2) (.int .i64 t224)) (fun _ h_ => h_.1)))); (case side2 => exact (Kd.R_reads' HO219.out).2.1); rintro e w40 ⟨rfl, hb⟩; refine ⟨_, rfl, ?_⟩; have n0_ := Aside0.mk (Kd.R_below (by (with_reducible repeat (first | apply Kd.R_alloc | apply Kd.R_drewN | apply Kd.R_drew)); exact (Kd.R_mono (Kd.R_far (p := ⟨gb226, 4, none⟩) (Kd.R_far (p := ⟨gb226, 3, none⟩) (Kd.R_far (p := ⟨gb226, 2, none⟩) (Kd.R_far (p := ⟨gb226, 1, none⟩) (Kd.R_far (p := ⟨gb226, 0, none⟩) (Kd.R_types HO216.out BK226.out (by decide)) (fun _ hk => hk.2) (.string t220)) (fun _ hk => hk.2) (.string t221)) (fun _ hk => hk.2) (.int .i64 t222)) (fun _ hk => hk.2) (.int .i64 t223)) (fun _ hk => hk.2) (.int .i64 t224)) (fun _ h_ => h_.1))) hb); have n1_ := Aside0.mk (Kd.R_below (by (with_reducible repeat (first | apply Kd.R_alloc | apply Kd.R_drewN | apply Kd.R_drew)); exact (Kd.R_mono (Kd.R_far (p := ⟨gb226, 4, none⟩) (Kd.R_far (p := ⟨gb226, 3, none⟩) (Kd.R_far (p := ⟨gb226, 2, none⟩) (Kd.R_far (p := ⟨gb226, 1, none⟩) (Kd.R_far (p := ⟨gb226, 0, none⟩) (Kd.R_types HO219.out BK226.out (by decide)) (fun _ hk => hk.2) (.string t220)) (fun _ hk => hk.2) (.string t221)) (fun _ hk => hk.2) (.int .i64 t222)) (fun _ hk => hk.2) (.int .i64 t223)) (fun _ hk => hk.2) (.int .i64 t224)) (fun _ h_ => h_.1))) hb); have n2_ := Aside0.mk (blk_below (g := gb212) (o := .cells #[.string a5_0, .string a5_1, .string a5_2, .string a5_3, .int .i64 a5_4, .int .i64 a5_5, .int .i64 a5_6, .int .i64 a5_7, .int .i64 a5_8] 37 (0, 0)) (by (with_reducible repeat (first | refine blk_drewN ?_ _ | refine blk_drew ?_ | refine blk_alloc ?_ _)); refine blk_far ?_ NB212_226.out _; (with_reducible repeat (first | refine blk_drewN ?_ _ | refine blk_drew ?_ | refine blk_alloc ?_ _)); refine blk_far ?_ NB212_226.out _; (with_reducible repeat (first | refine blk_drewN ?_ _ | refine blk_drew ?_ | refine blk_alloc ?_ _)); refine blk_far ?_ NB212_226.out _; (with_reducible repeat (first | refine blk_drewN ?_ _ | refine blk_drew ?_ | refine blk_alloc ?_ _)); refine blk_far ?_ NB212_226.out _; (with_reducible repeat (first | refine blk_drewN ?_ _ | refine blk_drew ?_ | refine blk_alloc ?_ _)); refine blk_far ?_ NB212_226.out _; (with_reducible repeat (first | refine blk_drewN ?_ _ | refine blk_drew ?_ | refine blk_alloc ?_ _)); exact BK212.out) hb); have n3_ := Aside0.mk (blk_below (g := gb226) (o := .cells #[.string t220, .string t221, .int .i64 t222, .int .i64 t223, .int .i64 t224] 24 (0, 0)) (by (with_reducible repeat (first | refine blk_drewN ?_ _ | refine blk_drew ?_ | refine blk_alloc ?_ _)); refine blk_put (cs := #[.string t220, .string t221, .int .i64 t222, .int .i64 t223, .int .i64 0]) ?_ 4 _ rfl; (with_reducible repeat (first | refine blk_drewN ?_ _ | refine blk_drew ?_ | refine blk_alloc ?_ _)); refine blk_put (cs := #[.string t220, .string t221, .int .i64 t222, .int .i64 0, .int .i64 0]) ?_ 3 _ rfl; (with_reducible repeat (first | refine blk_drewN ?_ _ | refine blk_drew ?_ | refine blk_alloc ?_ _)); refine blk_put (cs := #[.string t220, .string t221, .int .i64 0, .int .i64 0, .int .i64 0]) ?_ 2 _ rfl; (with_reducible repeat (first | refine blk_drewN ?_ _ | refine blk_drew ?_ | refine blk_alloc ?_ _)); refine blk_put (cs := #[.string t220, .string (⟨#[]⟩ : ByteArray), .int .i64 0, .int .i64 0, .int .i64 0]) ?_ 1 _ rfl; (with_reducible repeat (first | refine blk_drewN ?_ _ | refine blk_drew ?_ | refine blk_alloc ?_ _)); refine blk_put (cs := #[.string (⟨#[]⟩ : ByteArray), .string (⟨#[]⟩ : ByteArray), .int .i64 0, .int .i64 0, .int .i64 0]) ?_ 0 _ rfl; (with_reducible repeat (first | refine blk_drewN ?_ _ | refine blk_drew ?_ | refine blk_alloc ?_ _)); exact BK226.out) hb); have n4_ := Aside0.mk (below_step (by repeat (first | (with_reducible first | exact HB.out | apply below_alloc | apply pw_below_drewN | apply below_drew1 | refine below_set ?_ GE212.out | refine below_set ?_ GE226.out) | exact HB.out)) hb); clear HO216; clear HO219; clear BK212; clear BK226; clear HB; have HO216 := n0_; have HO219 := n1_; have BK212 := n2_; have BK226 := n3_; have HB := n4_; clear n0_ n1_ n2_ n3_ n4_; (try clear hb); (try clear hb2); (try clear hk); (try clear hi)) | ((with_reducible refine gate_dst (N := 17) rfl ?_); refine box_event ?hg (N := 17) ?hd (cs := #[.string (⟨#[]⟩ : ByteArray), .string (⟨#[]⟩ : ByteArray), .int .i64 0, .int .i64 0, .int .i64 0]) (t := 24) ?hr ?_; (case hd => rfl); (case hg => rfl); (case hr => first | (go_simp; done) | (go_simp; rfl)); intro gb233 hg w41 hbox hb; have n0_ := Aside0.mk (Kd.R_below (by (with_reducible repeat (first | apply Kd.R_alloc | apply Kd.R_drewN | apply Kd.R_drew)); exact HO216.out) hb); have n1_ := Aside0.mk (Kd.R_below (by (with_reducible repeat (first | apply Kd.R_alloc | apply Kd.R_drewN | apply Kd.R_drew)); exact HO219.out) hb); have n2_ := Aside0.mk (blk_below (g := gb212) (o := .cells #[.string a5_0, .string a5_1, .string a5_2, .string a5_3, .int .i64 a5_4, .int .i64 a5_5, .int .i64 a5_6, .int .i64 a5_7, .int .i64 a5_8] 37 (0, 0)) (by (with_reducible repeat (first | refine blk_drewN ?_ _ | refine blk_drew ?_ | refine blk_alloc ?_ _)); exact BK212.out) hb); have n3_ := Aside0.mk (blk_below (g := gb226) (o := .cells #[.string t220, .string t221, .int .i64 t222, .int .i64 t223, .int .i64 t224] 24 (0, 0)) (by (with_reducible repeat (first | refine blk_drewN ?_ _ | refine blk_drew ?_ | refine blk_alloc ?_ _)); exact BK226.out) hb); have n4_ := Aside0.mk (below_step (by repeat (first | (with_reducible first | exact HB.out | apply below_alloc | apply pw_below_drewN | apply below_drew1 | refine below_set ?_ GE212.out | refine below_set ?_ GE226.out) | exact HB.out)) hb); have n5_ := Aside0.mk (hbox); have n6_ := Aside0.mk ((by rw [hg]; exact (below_size (by repeat (first | (with_reducible first | exact HB.out | apply below_alloc | apply pw_below_drewN | apply below_drew1 | refine below_set ?_ GE212.out | refine below_set ?_ GE226.out) | exact HB.out))) : w.heap.size ≤ gb233)); have n7_ := Aside0.mk ((by rw [hg]; exact (below_size (by repeat (first | (with_reducible first | exact HB.out | apply below_alloc | apply pw_below_drewN | apply below_drew1 | refine below_set ?_ GE212.out | refine below_set ?_ GE226.out) | exact HB.out))) : w.heap.size ≤ gb233)); have n8_ := Aside0.mk ((by rw [hg]; exact Nat.ne_of_lt (blk_lt (g := gb212) (o := .cells #[.string a5_0, .string a5_1, .string a5_2, .string a5_3, .int .i64 a5_4, .int .i64 a5_5, .int .i64 a5_6, .int .i64 a5_7, .int .i64 a5_8] 37 (0, 0)) (by (with_reducible repeat (first | refine blk_drewN ?_ _ | refine blk_drew ?_ | refine blk_alloc ?_ _)); exact BK212.out)) : gb212 ≠ gb233)); have n9_ := Aside0.mk ((by rw [hg]; exact Nat.ne_of_gt (blk_lt (g := gb212) (o := .cells #[.string a5_0, .string a5_1, .string a5_2, .string a5_3, .int .i64 a5_4, .int .i64 a5_5, .int .i64 a5_6, .int .i64 a5_7, .int .i64 a5_8] 37 (0, 0)) (by (with_reducible repeat (first | refine blk_drewN ?_ _ | refine blk_drew ?_ | refine blk_alloc ?_ _)); exact BK212.out)) : gb233 ≠ gb212)); have n10_ := Aside0.mk ((by rw [hg]; exact Nat.ne_of_lt (blk_lt (g := gb226) (o := .cells #[.string t220, .string t221, .int .i64 t222, .int .i64 t223, .int .i64 t224] 24 (0, 0)) (by (with_reducible repeat (first | refine blk_drewN ?_ _ | refine blk_drew ?_ | refine blk_alloc ?_ _)); exact BK226.out)) : gb226 ≠ gb233)); have n11_ := Aside0.mk ((by rw [hg]; exact Nat.ne_of_gt (blk_lt (g := gb226) (o := .cells #[.string t220, .string t221, .int .i64 t222, .int .i64 t223, .int .i64 t224] 24 (0, 0)) (by (with_reducible repeat (first | refine blk_drewN ?_ _ | refine blk_drew ?_ | refine blk_alloc ?_ _)); exact BK226.out)) : gb233 ≠ gb226)); clear HO216; clear HO219; clear BK212; clear BK226; clear HB; have HO216 := n0_; have HO219 := n1_; have BK212 := n2_; have BK226 := n3_; have HB := n4_; have BK233 := n5_; have GW233 := n6_; have GE233 := n7_; have NB212_233 := n8_; have NB233_212 := n9_; have NB226_233 := n10_; have NB233_226 := n11_; clear n0_ n1_ n2_ n3_ n4_ n5_ n6_ n7_ n8_ n9_ n10_ n11_; clear hb hbox hg; have hnb42 := NB233_212.out; have hnc42 := NB212_233.out; have hnb43 := NB233_226.out; have hnc43 := NB226_233.out; have hcz44_0 : w41.cell? ⟨gb233, 0, none⟩ = some (.string (⟨#[]⟩ : ByteArray)) := (blk_cell BK233.out 0).trans rfl; have hcz44_1 : w41.cell? ⟨gb233, 1, none⟩ = some (.string (⟨#[]⟩ : ByteArray)) := (blk_cell BK233.out 1).trans rfl; have hcz44_2 : w41.cell? ⟨gb233, 2, none⟩ = some (.int .i64 0) := (blk_cell BK233.out 2).trans rfl; have hcz44_3 : w41.cell? ⟨gb233, 3, none⟩ = some (.int .i64 0) := (blk_cell BK233.out 3).trans rfl; have hcz44_4 : w41.cell? ⟨gb233, 4, none⟩ = some (.int .i64 0) := (blk_cell BK233.out 4).trans rfl; have hfz44_0 := blk_frozen BK233.out 0; have hfz44_1 := blk_frozen BK233.out 1; have hfz44_2 := blk_frozen BK233.out 2; have hfz44_3 := blk_frozen BK233.out 3; have hfz44_4 := blk_frozen BK233.out 4; have hcz45_0 : w41.cell? ⟨gb212, 0, none⟩ = some (.string a5_0) := (blk_cell BK212.out 0).trans rfl; have hcz45_1 : w41.cell? ⟨gb212, 1, none⟩ = some (.string a5_1) := (blk_cell BK212.out 1).trans rfl; have hcz45_2 : w41.cell? ⟨gb212, 2, none⟩ = some (.string a5_2) := (blk_cell BK212.out 2).trans rfl; have hcz45_3 : w41.cell? ⟨gb212, 3, none⟩ = some (.string a5_3) := (blk_cell BK212.out 3).trans rfl; have hcz45_4 : w41.cell? ⟨gb212, 4, none⟩ = some (.int .i64 a5_4) := (blk_cell BK212.out 4).trans rfl; have hcz45_5 : w41.cell? ⟨gb212, 5, none⟩ = some (.int .i64 a5_5) := (blk_cell BK212.out 5).trans rfl; have hcz45_6 : w41.cell? ⟨gb212, 6, none⟩ = some (.int .i64 a5_6) := (blk_cell BK212.out 6).trans rfl; have hcz45_7 : w41.cell? ⟨gb212, 7, none⟩ = some (.int .i64 a5_7) := (blk_cell BK212.out 7).trans rfl; have hcz45_8 : w41.cell? ⟨gb212, 8, none⟩ = some (.int .i64 a5_8) := (blk_cell BK212.out 8).trans rfl; have hfz45_0 := blk_frozen BK212.out 0; have hfz45_1 := blk_frozen BK212.out 1; have hfz45_2 := blk_frozen BK212.out 2; have hfz45_3 := blk_frozen BK212.out 3; have hfz45_4 := blk_frozen BK212.out 4; have hfz45_5 := blk_frozen BK212.out 5; have hfz45_6 := blk_frozen BK212.out 6; have hfz45_7 := blk_frozen BK212.out 7; have hfz45_8 := blk_frozen BK212.out 8) | ((with_reducible refine gate_dst (N := 19) rfl ?_); refine box_event ?hg (N := 19) ?hd (cs := #[.string (⟨#[]⟩ : ByteArray), .string (⟨#[]⟩ : ByteArray), .string (⟨#[]⟩ : ByteArray), .string (⟨#[]⟩ : ByteArray), .int .i64 0, .int .i64 0, .int .i64 0, .int .i64 0, .int .i64 0]) (t := 37) ?hr ?_; (case hd => rfl); (case hg => rfl); (case hr => first | (go_simp; done) | (go_simp; rfl)); intro gb234 hg w46 hbox hb; have n0_ := Aside0.mk (Kd.R_below (by (with_reducible repeat (first | apply Kd.R_alloc | apply Kd.R_drewN | apply Kd.R_drew)); exact (Kd.R_mono (Kd.R_far (p := ⟨gb233, 4, none⟩) (Kd.R_far (p := ⟨gb233, 3, none⟩) (Kd.R_far (p := ⟨gb233, 2, none⟩) (Kd.R_far (p := ⟨gb233, 1, none⟩) (Kd.R_far (p := ⟨gb233, 0, none⟩) (Kd.R_types HO216.out BK233.out (by decide)) (fun _ hk => hk.2) (.string t227)) (fun _ hk => hk.2) (.string t228)) (fun _ hk => hk.2) (.int .i64 t229)) (fun _ hk => hk.2) (.int .i64 t230)) (fun _ hk => hk.2) (.int .i64 t231)) (fun _ h_ => h_.1))) hb); have n1_ := Aside0.mk (Kd.R_below (by (with_reducible repeat (first | apply Kd.R_alloc | apply Kd.R_drewN | apply Kd.R_drew)); exact (Kd.R_mono (Kd.R_far (p := ⟨gb233, 4, none⟩) (Kd.R_far (p := ⟨gb233, 3, none⟩) (Kd.R_far (p := ⟨gb233, 2, none⟩) (Kd.R_far (p := ⟨gb233, 1, none⟩) (Kd.R_far (p := ⟨gb233, 0, none⟩) (Kd.R_types HO219.out BK233.out (by decide)) (fun _ hk => hk.2) (.string t227)) (fun _ hk => hk.2) (.string t228)) (fun _ hk => hk.2) (.int .i64 t229)) (fun _ hk => hk.2) (.int .i64 t230)) (fun _ hk => hk.2) (.int .i64 t231)) (fun _ h_ => h_.1))) hb); have n2_ := Aside0.mk (blk_below (g := gb212) (o := .cells #[.string a5_0, .string a5_1, .string a5_2, .string a5_3, .int .i64 a5_4, .int .i64 a5_5, .int .i64 a5_6, .int .i64 a5_7, .int .i64 a5_8] 37 (0, 0)) (by (with_reducible repeat (first | refine blk_drewN ?_ _ | refine blk_drew ?_ | refine blk_alloc ?_ _)); refine blk_far ?_ NB212_233.out _; (with_reducible repeat (first | refine blk_drewN ?_ _ | refine blk_drew ?_ | refine blk_alloc ?_ _)); refine blk_far ?_ NB212_233.out _; (with_reducible repeat (first | refine blk_drewN ?_ _ | refine blk_drew ?_ | refine blk_alloc ?_ _)); refine blk_far ?_ NB212_233.out _; (with_reducible repeat (first | refine blk_drewN ?_ _ | refine blk_drew ?_ | refine blk_alloc ?_ _)); refine blk_far ?_ NB212_233.out _; (with_reducible repeat (first | refine blk_drewN ?_ _ | refine blk_drew ?_ | refine blk_alloc ?_ _)); refine blk_far ?_ NB212_233.out _; (with_reducible repeat (first | refine blk_drewN ?_ _ | refine blk_drew ?_ | refine blk_alloc ?_ _)); exact BK212.out) hb); have n3_ := Aside0.mk (blk_below (g := gb226) (o := .cells #[.string t220, .string t221, .int .i64 t222, .int .i64 t223, .int .i64 t224] 24 (0, 0)) (by (with_reducible repeat (first | refine blk_drewN ?_ _ | refine blk_drew ?_ | refine blk_alloc ?_ _)); refine blk_far ?_ NB226_233.out _; (with_reducible repeat (first | refine blk_drewN ?_ _ | refine blk_drew ?_ | refine blk_alloc ?_ _)); refine blk_far ?_ NB226_233.out _; (with_reducible repeat (first | refine blk_drewN ?_ _ | refine blk_drew ?_ | refine blk_alloc ?_ _)); refine blk_far ?_ NB226_233.out _; (with_reducible repeat (first | refine blk_drewN ?_ _ | refine blk_drew ?_ | refine blk_alloc ?_ _)); refine blk_far ?_ NB226_233.out _; (with_reducible repeat (first | refine blk_drewN ?_ _ | refine blk_drew ?_ | refine blk_alloc ?_ _)); refine blk_far ?_ NB226_233.out _; (with_reducible repeat (first | refine blk_drewN ?_ _ | refine blk_drew ?_ | refine blk_alloc ?_ _)); exact BK226.out) hb); have n4_ := Aside0.mk (blk_below (g := gb233) (o := .cells #[.string t227, .string t228, .int .i64 t229, .int .i64 t230, .int .i64 t231] 24 (0, 0)) (by (with_reducible repeat (first | refine blk_drewN ?_ _ | refine blk_drew ?_ | refine blk_alloc ?_ _)); refine blk_put (cs := #[.string t227, .string t228, .int .i64 t229, .int .i64 t230, .int .i64 0]) ?_ 4 _ rfl; (with_reducible repeat (first | refine blk_drewN ?_ _ | refine blk_drew ?_ | refine blk_alloc ?_ _)); refine blk_put (cs := #[.string t227, .string t228, .int .i64 t229, .int .i64 0, .int .i64 0]) ?_ 3 _ rfl; (with_reducible repeat (first | refine blk_drewN ?_ _ | refine blk_drew ?_ | refine blk_alloc ?_ _)); refine blk_put (cs := #[.string t227, .string t228, .int .i64 0, .int .i64 0, .int .i64 0]) ?_ 2 _ rfl; (with_reducible repeat (first | refine blk_drewN ?_ _ | refine blk_drew ?_ | refine blk_alloc ?_ _)); refine blk_put (cs := #[.string t227, .string (⟨#[]⟩ : ByteArray), .int .i64 0, .int .i64 0, .int .i64 0]) ?_ 1 _ rfl; (with_reducible repeat (first | refine blk_drewN ?_ _ | refine blk_drew ?_ | refine blk_alloc ?_ _)); refine blk_put (cs := #[.string (⟨#[]⟩ : ByteArray), .string (⟨#[]⟩ : ByteArray), .int .i64 0, .int .i64 0, .int .i64 0]) ?_ 0 _ rfl; (with_reducible repeat (first | refine blk_drewN ?_ _ | refine blk_drew ?_ | refine blk_alloc ?_ _)); exact BK233.out) hb); have n5_ := Aside0.mk (below_step (by repeat (first | (with_reducible first | exact HB.out | apply below_alloc | apply pw_below_drewN | apply below_drew1 | refine below_set ?_ GE212.out | refine below_set ?_ GE226.out | refine below_set ?_ GE233.out) | exact HB.out)) hb); have n6_ := Aside0.mk (hbox); have n7_ := Aside0.mk ((by rw [hg]; exact (below_size (by repeat (first | (with_reducible first | exact HB.out | apply below_alloc | apply pw_below_drewN | apply below_drew1 | refine below_set ?_ GE212.out | refine below_set ?_ GE226.out | refine below_set ?_ GE233.out) | exact HB.out))) : w.heap.size ≤ gb234)); have n8_ := Aside0.mk ((by rw [hg]; exact (below_size (by repeat (first | (with_reducible first | exact HB.out | apply below_alloc | apply pw_below_drewN | apply below_drew1 | refine below_set ?_ GE212.out | refine below_set ?_ GE226.out | refine below_set ?_ GE233.out) | exact HB.out))) : w.heap.size ≤ gb234)); have n9_ := Aside0.mk ((by rw [hg]; exact Nat.ne_of_lt (blk_lt (g := gb212) (o := .cells #[.string a5_0, .string a5_1, .string a5_2, .string a5_3, .int .i64 a5_4, .int .i64 a5_5, .int .i64 a5_6, .int .i64 a5_7, .int .i64 a5_8] 37 (0, 0)) (by (with_reducible repeat (first | refine blk_drewN ?_ _ | refine blk_drew ?_ | refine blk_alloc ?_ _)); refine blk_far ?_ NB212_233.out _; (with_reducible repeat (first | refine blk_drewN ?_ _ | refine blk_drew ?_ | refine blk_alloc ?_ _)); refine blk_far ?_ NB212_233.out _; (with_reducible repeat (first | refine blk_drewN ?_ _ | refine blk_drew ?_ | refine blk_alloc ?_ _)); refine blk_far ?_ NB212_233.out _; (with_reducible repeat (first | refine blk_drewN ?_ _ | refine blk_drew ?_ | refine blk_alloc ?_ _)); refine blk_far ?_ NB212_233.out _; (with_reducible repeat (first | refine blk_drewN ?_ _ | refine blk_drew ?_ | refine blk_alloc ?_ _)); refine blk_far ?_ NB212_233.out _; (with_reducible repeat (first | refine blk_drewN ?_ _ | refine blk_drew ?_ | refine blk_alloc ?_ _)); exact BK212.out)) : gb212 ≠ gb234)); have n10_ := Aside0.mk ((by rw [hg]; exact Nat.ne_of_gt (blk_lt (g := gb212) (o := .cells #[.string a5_0, .string a5_1, .string a5_2, .string a5_3, .int .i64 a5_4, .int .i64 a5_5, .int .i64 a5_6, .int .i64 a5_7, .int .i64 a5_8] 37 (0, 0)) (by (with_reducible repeat (first | refine blk_drewN ?_ _ | refine blk_drew ?_ | refine blk_alloc ?_ _)); refine blk_far ?_ NB212_233.out _; (with_reducible repeat (first | refine blk_drewN ?_ _ | refine blk_drew ?_ | refine blk_alloc ?_ _)); refine blk_far ?_ NB212_233.out _; (with_reducible repeat (first | refine blk_drewN ?_ _ | refine blk_drew ?_ | refine blk_alloc ?_ _)); refine blk_far ?_ NB212_233.out _; (with_reducible repeat (first | refine blk_drewN ?_ _ | refine blk_drew ?_ | refine blk_alloc ?_ _)); refine blk_far ?_ NB212_233.out _; (with_reducible repeat (first | refine blk_drewN ?_ _ | refine blk_drew ?_ | refine blk_alloc ?_ _)); refine blk_far ?_ NB212_233.out _; (with_reducible repeat (first | refine blk_drewN ?_ _ | refine blk_drew ?_ | refine blk_alloc ?_ _)); exact BK212.out)) : gb234 ≠ gb212)); have n11_ := Aside0.mk ((by rw [hg]; exact Nat.ne_of_lt (blk_lt (g := gb226) (o := .cells #[.string t220, .string t221, .int .i64 t222, .int .i64 t223, .int .i64 t224] 24 (0, 0)) (by (with_reducible repeat (first | refine blk_drewN ?_ _ | refine blk_drew ?_ | refine blk_alloc ?_ _)); refine blk_far ?_ NB226_233.out _; (with_reducible repeat (first | refine blk_drewN ?_ _ | refine blk_drew ?_ | refine blk_alloc ?_ _)); refine blk_far ?_ NB226_233.out _; (with_reducible repeat (first | refine blk_drewN ?_ _ | refine blk_drew ?_ | refine blk_alloc ?_ _)); refine blk_far ?_ NB226_233.out _; (with_reducible repeat (first | refine blk_drewN ?_ _ | refine blk_drew ?_ | refine blk_alloc ?_ _)); refine blk_far ?_ NB226_233.out _; (with_reducible repeat (first | refine blk_drewN ?_ _ | refine blk_drew ?_ | refine blk_alloc ?_ _)); refine blk_far ?_ NB226_233.out _; (with_reducible repeat (first | refine blk_drewN ?_ _ | refine blk_drew ?_ | refine blk_alloc ?_ _)); exact BK226.out)) : gb226 ≠ gb234)); have n12_ := Aside0.mk ((by rw [hg]; exact Nat.ne_of_gt (blk_lt (g := gb226) (o := .cells #[.string t220, .string t221, .int .i64 t222, .int .i64 t223, .int .i64 t224] 24 (0, 0)) (by (with_reducible repeat (first | refine blk_drewN ?_ _ | refine blk_drew ?_ | refine blk_alloc ?_ _)); refine blk_far ?_ NB226_233.out _; (with_reducible repeat (first | refine blk_drewN ?_ _ | refine blk_drew ?_ | refine blk_alloc ?_ _)); refine blk_far ?_ NB226_233.out _; (with_reducible repeat (first | refine blk_drewN ?_ _ | refine blk_drew ?_ | refine blk_alloc ?_ _)); refine blk_far ?_ NB226_233.out _; (with_reducible repeat (first | refine blk_drewN ?_ _ | refine blk_drew ?_ | refine blk_alloc ?_ _)); refine blk_far ?_ NB226_233.out _; (with_reducible repeat (first | refine blk_drewN ?_ _ | refine blk_drew ?_ | refine blk_alloc ?_ _)); refine blk_far ?_ NB226_233.out _; (with_reducible repeat (first | refine blk_drewN ?_ _ | refine blk_drew ?_ | refine blk_alloc ?_ _)); exact BK226.out)) : gb234 ≠ gb226)); have n13_ := Aside0.mk ((by rw [hg]; exact Nat.ne_of_lt (blk_lt (g := gb233) (o := .cells #[.string t227, .string t228, .int .i64 t229, .int .i64 t230, .int .i64 t231] 24 (0, 0)) (by (with_reducible repeat (first | refine blk_drewN ?_ _ | refine blk_drew ?_ | refine blk_alloc ?_ _)); refine blk_put (cs := #[.string t227, .string t228, .int .i64 t229, .int .i64 t230, .int .i64 0]) ?_ 4 _ rfl; (with_reducible repeat (first | refine blk_drewN ?_ _ | refine blk_drew ?_ | refine blk_alloc ?_ _)); refine blk_put (cs := #[.string t227, .string t228, .int .i64 t229, .int .i64 0, .int .i64 0]) ?_ 3 _ rfl; (with_reducible repeat (first | refine blk_drewN ?_ _ | refine blk_drew ?_ | refine blk_alloc ?_ _)); refine blk_put (cs := #[.string t227, .string t228, .int .i64 0, .int .i64 0, .int .i64 0]) ?_ 2 _ rfl; (with_reducible repeat (first | refine blk_drewN ?_ _ | refine blk_drew ?_ | refine blk_alloc ?_ _)); refine blk_put (cs := #[.string t227, .string (⟨#[]⟩ : ByteArray), .int .i64 0, .int .i64 0, .int .i64 0]) ?_ 1 _ rfl; (with_reducible repeat (first | refine blk_drewN ?_ _ | refine blk_drew ?_ | refine blk_alloc ?_ _)); refine blk_put (cs := #[.string (⟨#[]⟩ : ByteArray), .string (⟨#[]⟩ : ByteArray), .int .i64 0, .int .i64 0, .int .i64 0]) ?_ 0 _ rfl; (with_reducible repeat (first | refine blk_drewN ?_ _ | refine blk_drew ?_ | refine blk_alloc ?_ _)); exact BK233.out)) : gb233 ≠ gb234)); have n14_ := Aside0.mk ((by rw [hg]; exact Nat.ne_of_gt (blk_lt (g := gb233) (o := .cells #[.string t227, .string t228, .int .i64 t229, .int .i64 t230, .int .i64 t231] 24 (0, 0)) (by (with_reducible repeat (first | refine blk_drewN ?_ _ | refine blk_drew ?_ | refine blk_alloc ?_ _)); refine blk_put (cs := #[.string t227, .string t228, .int .i64 t229, .int .i64 t230, .int .i64 0]) ?_ 4 _ rfl; (with_reducible repeat (first | refine blk_drewN ?_ _ | refine blk_drew ?_ | refine blk_alloc ?_ _)); refine blk_put (cs := #[.string t227, .string t228, .int .i64 t229, .int .i64 0, .int .i64 0]) ?_ 3 _ rfl; (with_reducible repeat (first | refine blk_drewN ?_ _ | refine blk_drew ?_ | refine blk_alloc ?_ _)); refine blk_put (cs := #[.string t227, .string t228, .int .i64 0, .int .i64 0, .int .i64 0]) ?_ 2 _ rfl; (with_reducible repeat (first | refine blk_drewN ?_ _ | refine blk_drew ?_ | refine blk_alloc ?_ _)); refine blk_put (cs := #[.string t227, .string (⟨#[]⟩ : ByteArray), .int .i64 0, .int .i64 0, .int .i64 0]) ?_ 1 _ rfl; (with_reducible repeat (first | refine blk_drewN ?_ _ | refine blk_drew ?_ | refine blk_alloc ?_ _)); refine blk_put (cs := #[.string (⟨#[]⟩ : ByteArray), .string (⟨#[]⟩ : ByteArray), .int .i64 0, .int .i64 0, .int .i64 0]) ?_ 0 _ rfl; (with_reducible repeat (first | refine blk_drewN ?_ _ | refine blk_drew ?_ | refine blk_alloc ?_ _)); exact BK233.out)) : gb234 ≠ gb233)); clear HO216; clear HO219; clear BK212; clear BK226; clear BK233; clear HB; have HO216 := n0_; have HO219 := n1_; have BK212 := n2_; have BK226 := n3_; have BK233 := n4_; have HB := n5_; have BK234 := n6_; have GW234 := n7_; have GE234 := n8_; have NB212_234 := n9_; have NB234_212 := n10_; have NB226_234 := n11_; have NB234_226 := n12_; have NB233_234 := n13_; have NB234_233 := n14_; clear n0_ n1_ n2_ n3_ n4_ n5_ n6_ n7_ n8_ n9_ n10_ n11_ n12_ n13_ n14_; clear hb hbox hg; have hnb47 := NB234_212.out; have hnc47 := NB212_234.out; have hnb48 := NB234_226.out; have hnc48 := NB226_234.out; have hnb49 := NB234_233.out; have hnc49 := NB233_234.out; have hcz50_0 : w46.cell? ⟨gb234, 0, none⟩ = some (.string (⟨#[]⟩ : ByteArray)) := (blk_cell BK234.out 0).trans rfl; have hcz50_1 : w46.cell? ⟨gb234, 1, none⟩ = some (.string (⟨#[]⟩ : ByteArray)) := (blk_cell BK234.out 1).trans rfl; have hcz50_2 : w46.cell? ⟨gb234, 2, none⟩ = some (.string (⟨#[]⟩ : ByteArray)) := (blk_cell BK234.out 2).trans rfl; have hcz50_3 : w46.cell? ⟨gb234, 3, none⟩ = some (.string (⟨#[]⟩ : ByteArray)) := (blk_cell BK234.out 3).trans rfl; have hcz50_4 : w46.cell? ⟨gb234, 4, none⟩ = some (.int .i64 0) := (blk_cell BK234.out 4).trans rfl; have hcz50_5 : w46.cell? ⟨gb234, 5, none⟩ = some (.int .i64 0) := (blk_cell BK234.out 5).trans rfl; have hcz50_6 : w46.cell? ⟨gb234, 6, none⟩ = some (.int .i64 0) := (blk_cell BK234.out 6).trans rfl; have hcz50_7 : w46.cell? ⟨gb234, 7, none⟩ = some (.int .i64 0) := (blk_cell BK234.out 7).trans rfl; have hcz50_8 : w46.cell? ⟨gb234, 8, none⟩ = some (.int .i64 0) := (blk_cell BK234.out 8).trans rfl; have hfz50_0 := blk_frozen BK234.out 0; have hfz50_1 := blk_frozen BK234.out 1; have hfz50_2 := blk_frozen BK234.out 2; have hfz50_3 := blk_frozen BK234.out 3; have hfz50_4 := blk_frozen BK234.out 4; have hfz50_5 := blk_frozen BK234.out 5; have hfz50_6 := blk_frozen BK234.out 6; have hfz50_7 := blk_frozen BK234.out 7; have hfz50_8 := blk_frozen BK234.out 8))
                have n0_ : Aside0 (Kd.R (Kd.int .u8) 5 (((((((((w46.setCell ⟨gb234, 0, none⟩ (.string a5_2)).setCell ⟨gb234, 1, none⟩ (.string a5_3)).setCell ⟨gb234, 2, none⟩ (.string a5_0)).setCell ⟨gb234, 3, none⟩ (.string a5_1)).setCell ⟨gb234, 4, none⟩ (.int .i64 a5_4)).setCell ⟨gb234, 5, none⟩ (.int .i64 a5_7)).setCell ⟨gb234, 6, none⟩ (.int .i64 a5_8)).setCell ⟨gb234, 7, none⟩ (.int .i64 a5_5)).setCell ⟨gb234, 8, none⟩ (.int .i64 a5_6)) w.heap.size (fun k_ => some k_ ≠ (.slice Ao39 y217.length co39 : Value).ownBlock) (.slice Ao34 y214.length co34) y214) := ⟨by (with_reducible repeat (first | apply Kd.R_alloc | apply Kd.R_drewN | apply Kd.R_drew)); exact Kd.R_mono (Kd.R_far (p := ⟨gb234, 8, none⟩) (Kd.R_far (p := ⟨gb234, 7, none⟩) (Kd.R_far (p := ⟨gb234, 6, none⟩) (Kd.R_far (p := ⟨gb234, 5, none⟩) (Kd.R_far (p := ⟨gb234, 4, none⟩) (Kd.R_far (p := ⟨gb234, 3, none⟩) (Kd.R_far (p := ⟨gb234, 2, none⟩) (Kd.R_far (p := ⟨gb234, 1, none⟩) (Kd.R_far (p := ⟨gb234, 0, none⟩) (Kd.R_types HO216.out BK234.out (by decide)) (fun _ hk => hk.2) (.string a5_2)) (fun _ hk => hk.2) (.string a5_3)) (fun _ hk => hk.2) (.string a5_0)) (fun _ hk => hk.2) (.string a5_1)) (fun _ hk => hk.2) (.int .i64 a5_4)) (fun _ hk => hk.2) (.int .i64 a5_7)) (fun _ hk => hk.2) (.int .i64 a5_8)) (fun _ hk => hk.2) (.int .i64 a5_5)) (fun _ hk => hk.2) (.int .i64 a5_6)) (fun _ hk => hk.1.2)⟩
                have n1_ : Aside0 (Kd.R (Kd.int .u8) 5 (((((((((w46.setCell ⟨gb234, 0, none⟩ (.string a5_2)).setCell ⟨gb234, 1, none⟩ (.string a5_3)).setCell ⟨gb234, 2, none⟩ (.string a5_0)).setCell ⟨gb234, 3, none⟩ (.string a5_1)).setCell ⟨gb234, 4, none⟩ (.int .i64 a5_4)).setCell ⟨gb234, 5, none⟩ (.int .i64 a5_7)).setCell ⟨gb234, 6, none⟩ (.int .i64 a5_8)).setCell ⟨gb234, 7, none⟩ (.int .i64 a5_5)).setCell ⟨gb234, 8, none⟩ (.int .i64 a5_6)) w.heap.size (fun k_ => some k_ ≠ (.slice Ao34 y214.length co34 : Value).ownBlock) (.slice Ao39 y217.length co39) y217) := ⟨by (with_reducible repeat (first | apply Kd.R_alloc | apply Kd.R_drewN | apply Kd.R_drew)); exact Kd.R_mono (Kd.R_far (p := ⟨gb234, 8, none⟩) (Kd.R_far (p := ⟨gb234, 7, none⟩) (Kd.R_far (p := ⟨gb234, 6, none⟩) (Kd.R_far (p := ⟨gb234, 5, none⟩) (Kd.R_far (p := ⟨gb234, 4, none⟩) (Kd.R_far (p := ⟨gb234, 3, none⟩) (Kd.R_far (p := ⟨gb234, 2, none⟩) (Kd.R_far (p := ⟨gb234, 1, none⟩) (Kd.R_far (p := ⟨gb234, 0, none⟩) (Kd.R_types HO219.out BK234.out (by decide)) (fun _ hk => hk.2) (.string a5_2)) (fun _ hk => hk.2) (.string a5_3)) (fun _ hk => hk.2) (.string a5_0)) (fun _ hk => hk.2) (.string a5_1)) (fun _ hk => hk.2) (.int .i64 a5_4)) (fun _ hk => hk.2) (.int .i64 a5_7)) (fun _ hk => hk.2) (.int .i64 a5_8)) (fun _ hk => hk.2) (.int .i64 a5_5)) (fun _ hk => hk.2) (.int .i64 a5_6)) (fun _ hk => hk.1.2)⟩
                have n2_ : Aside0 ((((((((((w46.setCell ⟨gb234, 0, none⟩ (.string a5_2)).setCell ⟨gb234, 1, none⟩ (.string a5_3)).setCell ⟨gb234, 2, none⟩ (.string a5_0)).setCell ⟨gb234, 3, none⟩ (.string a5_1)).setCell ⟨gb234, 4, none⟩ (.int .i64 a5_4)).setCell ⟨gb234, 5, none⟩ (.int .i64 a5_7)).setCell ⟨gb234, 6, none⟩ (.int .i64 a5_8)).setCell ⟨gb234, 7, none⟩ (.int .i64 a5_5)).setCell ⟨gb234, 8, none⟩ (.int .i64 a5_6)).heap[gb212]? = some (.cells #[.string a5_0, .string a5_1, .string a5_2, .string a5_3, .int .i64 a5_4, .int .i64 a5_5, .int .i64 a5_6, .int .i64 a5_7, .int .i64 a5_8] 37 (0, 0))) := ⟨by (with_reducible repeat (first | refine blk_drewN ?_ _ | refine blk_drew ?_ | refine blk_alloc ?_ _)); refine blk_far ?_ NB212_234.out _; (with_reducible repeat (first | refine blk_drewN ?_ _ | refine blk_drew ?_ | refine blk_alloc ?_ _)); refine blk_far ?_ NB212_234.out _; (with_reducible repeat (first | refine blk_drewN ?_ _ | refine blk_drew ?_ | refine blk_alloc ?_ _)); refine blk_far ?_ NB212_234.out _; (with_reducible repeat (first | refine blk_drewN ?_ _ | refine blk_drew ?_ | refine blk_alloc ?_ _)); refine blk_far ?_ NB212_234.out _; (with_reducible repeat (first | refine blk_drewN ?_ _ | refine blk_drew ?_ | refine blk_alloc ?_ _)); refine blk_far ?_ NB212_234.out _; (with_reducible repeat (first | refine blk_drewN ?_ _ | refine blk_drew ?_ | refine blk_alloc ?_ _)); refine blk_far ?_ NB212_234.out _; (with_reducible repeat (first | refine blk_drewN ?_ _ | refine blk_drew ?_ | refine blk_alloc ?_ _)); refine blk_far ?_ NB212_234.out _; (with_reducible repeat (first | refine blk_drewN ?_ _ | refine blk_drew ?_ | refine blk_alloc ?_ _)); refine blk_far ?_ NB212_234.out _; (with_reducible repeat (first | refine blk_drewN ?_ _ | refine blk_drew ?_ | refine blk_alloc ?_ _)); refine blk_far ?_ NB212_234.out _; (with_reducible repeat (first | refine blk_drewN ?_ _ | refine blk_drew ?_ | refine blk_alloc ?_ _)); exact BK212.out⟩
                have n3_ : Aside0 ((((((((((w46.setCell ⟨gb234, 0, none⟩ (.string a5_2)).setCell ⟨gb234, 1, none⟩ (.string a5_3)).setCell ⟨gb234, 2, none⟩ (.string a5_0)).setCell ⟨gb234, 3, none⟩ (.string a5_1)).setCell ⟨gb234, 4, none⟩ (.int .i64 a5_4)).setCell ⟨gb234, 5, none⟩ (.int .i64 a5_7)).setCell ⟨gb234, 6, none⟩ (.int .i64 a5_8)).setCell ⟨gb234, 7, none⟩ (.int .i64 a5_5)).setCell ⟨gb234, 8, none⟩ (.int .i64 a5_6)).heap[gb226]? = some (.cells #[.string t220, .string t221, .int .i64 t222, .int .i64 t223, .int .i64 t224] 24 (0, 0))) := ⟨by (with_reducible repeat (first | refine blk_drewN ?_ _ | refine blk_drew ?_ | refine blk_alloc ?_ _)); refine blk_far ?_ NB226_234.out _; (with_reducible repeat (first | refine blk_drewN ?_ _ | refine blk_drew ?_ | refine blk_alloc ?_ _)); refine blk_far ?_ NB226_234.out _; (with_reducible repeat (first | refine blk_drewN ?_ _ | refine blk_drew ?_ | refine blk_alloc ?_ _)); refine blk_far ?_ NB226_234.out _; (with_reducible repeat (first | refine blk_drewN ?_ _ | refine blk_drew ?_ | refine blk_alloc ?_ _)); refine blk_far ?_ NB226_234.out _; (with_reducible repeat (first | refine blk_drewN ?_ _ | refine blk_drew ?_ | refine blk_alloc ?_ _)); refine blk_far ?_ NB226_234.out _; (with_reducible repeat (first | refine blk_drewN ?_ _ | refine blk_drew ?_ | refine blk_alloc ?_ _)); refine blk_far ?_ NB226_234.out _; (with_reducible repeat (first | refine blk_drewN ?_ _ | refine blk_drew ?_ | refine blk_alloc ?_ _)); refine blk_far ?_ NB226_234.out _; (with_reducible repeat (first | refine blk_drewN ?_ _ | refine blk_drew ?_ | refine blk_alloc ?_ _)); refine blk_far ?_ NB226_234.out _; (with_reducible repeat (first | refine blk_drewN ?_ _ | refine blk_drew ?_ | refine blk_alloc ?_ _)); refine blk_far ?_ NB226_234.out _; (with_reducible repeat (first | refine blk_drewN ?_ _ | refine blk_drew ?_ | refine blk_alloc ?_ _)); exact BK226.out⟩
                have n4_ : Aside0 ((((((((((w46.setCell ⟨gb234, 0, none⟩ (.string a5_2)).setCell ⟨gb234, 1, none⟩ (.string a5_3)).setCell ⟨gb234, 2, none⟩ (.string a5_0)).setCell ⟨gb234, 3, none⟩ (.string a5_1)).setCell ⟨gb234, 4, none⟩ (.int .i64 a5_4)).setCell ⟨gb234, 5, none⟩ (.int .i64 a5_7)).setCell ⟨gb234, 6, none⟩ (.int .i64 a5_8)).setCell ⟨gb234, 7, none⟩ (.int .i64 a5_5)).setCell ⟨gb234, 8, none⟩ (.int .i64 a5_6)).heap[gb233]? = some (.cells #[.string t227, .string t228, .int .i64 t229, .int .i64 t230, .int .i64 t231] 24 (0, 0))) := ⟨by (with_reducible repeat (first | refine blk_drewN ?_ _ | refine blk_drew ?_ | refine blk_alloc ?_ _)); refine blk_far ?_ NB233_234.out _; (with_reducible repeat (first | refine blk_drewN ?_ _ | refine blk_drew ?_ | refine blk_alloc ?_ _)); refine blk_far ?_ NB233_234.out _; (with_reducible repeat (first | refine blk_drewN ?_ _ | refine blk_drew ?_ | refine blk_alloc ?_ _)); refine blk_far ?_ NB233_234.out _; (with_reducible repeat (first | refine blk_drewN ?_ _ | refine blk_drew ?_ | refine blk_alloc ?_ _)); refine blk_far ?_ NB233_234.out _; (with_reducible repeat (first | refine blk_drewN ?_ _ | refine blk_drew ?_ | refine blk_alloc ?_ _)); refine blk_far ?_ NB233_234.out _; (with_reducible repeat (first | refine blk_drewN ?_ _ | refine blk_drew ?_ | refine blk_alloc ?_ _)); refine blk_far ?_ NB233_234.out _; (with_reducible repeat (first | refine blk_drewN ?_ _ | refine blk_drew ?_ | refine blk_alloc ?_ _)); refine blk_far ?_ NB233_234.out _; (with_reducible repeat (first | refine blk_drewN ?_ _ | refine blk_drew ?_ | refine blk_alloc ?_ _)); refine blk_far ?_ NB233_234.out _; (with_reducible repeat (first | refine blk_drewN ?_ _ | refine blk_drew ?_ | refine blk_alloc ?_ _)); refine blk_far ?_ NB233_234.out _; (with_reducible repeat (first | refine blk_drewN ?_ _ | refine blk_drew ?_ | refine blk_alloc ?_ _)); exact BK233.out⟩
                have n5_ : Aside0 ((((((((((w46.setCell ⟨gb234, 0, none⟩ (.string a5_2)).setCell ⟨gb234, 1, none⟩ (.string a5_3)).setCell ⟨gb234, 2, none⟩ (.string a5_0)).setCell ⟨gb234, 3, none⟩ (.string a5_1)).setCell ⟨gb234, 4, none⟩ (.int .i64 a5_4)).setCell ⟨gb234, 5, none⟩ (.int .i64 a5_7)).setCell ⟨gb234, 6, none⟩ (.int .i64 a5_8)).setCell ⟨gb234, 7, none⟩ (.int .i64 a5_5)).setCell ⟨gb234, 8, none⟩ (.int .i64 a5_6)).heap[gb234]? = some (.cells #[.string a5_2, .string a5_3, .string a5_0, .string a5_1, .int .i64 a5_4, .int .i64 a5_7, .int .i64 a5_8, .int .i64 a5_5, .int .i64 a5_6] 37 (0, 0))) := ⟨by (with_reducible repeat (first | refine blk_drewN ?_ _ | refine blk_drew ?_ | refine blk_alloc ?_ _)); refine blk_put (cs := #[.string a5_2, .string a5_3, .string a5_0, .string a5_1, .int .i64 a5_4, .int .i64 a5_7, .int .i64 a5_8, .int .i64 a5_5, .int .i64 0]) ?_ 8 _ rfl; (with_reducible repeat (first | refine blk_drewN ?_ _ | refine blk_drew ?_ | refine blk_alloc ?_ _)); refine blk_put (cs := #[.string a5_2, .string a5_3, .string a5_0, .string a5_1, .int .i64 a5_4, .int .i64 a5_7, .int .i64 a5_8, .int .i64 0, .int .i64 0]) ?_ 7 _ rfl; (with_reducible repeat (first | refine blk_drewN ?_ _ | refine blk_drew ?_ | refine blk_alloc ?_ _)); refine blk_put (cs := #[.string a5_2, .string a5_3, .string a5_0, .string a5_1, .int .i64 a5_4, .int .i64 a5_7, .int .i64 0, .int .i64 0, .int .i64 0]) ?_ 6 _ rfl; (with_reducible repeat (first | refine blk_drewN ?_ _ | refine blk_drew ?_ | refine blk_alloc ?_ _)); refine blk_put (cs := #[.string a5_2, .string a5_3, .string a5_0, .string a5_1, .int .i64 a5_4, .int .i64 0, .int .i64 0, .int .i64 0, .int .i64 0]) ?_ 5 _ rfl; (with_reducible repeat (first | refine blk_drewN ?_ _ | refine blk_drew ?_ | refine blk_alloc ?_ _)); refine blk_put (cs := #[.string a5_2, .string a5_3, .string a5_0, .string a5_1, .int .i64 0, .int .i64 0, .int .i64 0, .int .i64 0, .int .i64 0]) ?_ 4 _ rfl; (with_reducible repeat (first | refine blk_drewN ?_ _ | refine blk_drew ?_ | refine blk_alloc ?_ _)); refine blk_put (cs := #[.string a5_2, .string a5_3, .string a5_0, .string (⟨#[]⟩ : ByteArray), .int .i64 0, .int .i64 0, .int .i64 0, .int .i64 0, .int .i64 0]) ?_ 3 _ rfl; (with_reducible repeat (first | refine blk_drewN ?_ _ | refine blk_drew ?_ | refine blk_alloc ?_ _)); refine blk_put (cs := #[.string a5_2, .string a5_3, .string (⟨#[]⟩ : ByteArray), .string (⟨#[]⟩ : ByteArray), .int .i64 0, .int .i64 0, .int .i64 0, .int .i64 0, .int .i64 0]) ?_ 2 _ rfl; (with_reducible repeat (first | refine blk_drewN ?_ _ | refine blk_drew ?_ | refine blk_alloc ?_ _)); refine blk_put (cs := #[.string a5_2, .string (⟨#[]⟩ : ByteArray), .string (⟨#[]⟩ : ByteArray), .string (⟨#[]⟩ : ByteArray), .int .i64 0, .int .i64 0, .int .i64 0, .int .i64 0, .int .i64 0]) ?_ 1 _ rfl; (with_reducible repeat (first | refine blk_drewN ?_ _ | refine blk_drew ?_ | refine blk_alloc ?_ _)); refine blk_put (cs := #[.string (⟨#[]⟩ : ByteArray), .string (⟨#[]⟩ : ByteArray), .string (⟨#[]⟩ : ByteArray), .string (⟨#[]⟩ : ByteArray), .int .i64 0, .int .i64 0, .int .i64 0, .int .i64 0, .int .i64 0]) ?_ 0 _ rfl; (with_reducible repeat (first | refine blk_drewN ?_ _ | refine blk_drew ?_ | refine blk_alloc ?_ _)); exact BK234.out⟩
                have n6_ : Aside0 (Below w.heap.size w (((((((((w46.setCell ⟨gb234, 0, none⟩ (.string a5_2)).setCell ⟨gb234, 1, none⟩ (.string a5_3)).setCell ⟨gb234, 2, none⟩ (.string a5_0)).setCell ⟨gb234, 3, none⟩ (.string a5_1)).setCell ⟨gb234, 4, none⟩ (.int .i64 a5_4)).setCell ⟨gb234, 5, none⟩ (.int .i64 a5_7)).setCell ⟨gb234, 6, none⟩ (.int .i64 a5_8)).setCell ⟨gb234, 7, none⟩ (.int .i64 a5_5)).setCell ⟨gb234, 8, none⟩ (.int .i64 a5_6))) := ⟨by repeat (first | (with_reducible first | exact HB.out | apply below_alloc | apply pw_below_drewN | apply below_drew1 | refine below_set ?_ GE212.out | refine below_set ?_ GE226.out | refine below_set ?_ GE233.out | refine below_set ?_ GE234.out) | exact HB.out)⟩
                (try clear HO216)
                (try clear HO219)
                (try clear BK212)
                (try clear BK226)
                (try clear BK233)
                (try clear BK234)
                (try clear HB)
                generalize (((((((((w46.setCell ⟨gb234, 0, none⟩ (.string a5_2)).setCell ⟨gb234, 1, none⟩ (.string a5_3)).setCell ⟨gb234, 2, none⟩ (.string a5_0)).setCell ⟨gb234, 3, none⟩ (.string a5_1)).setCell ⟨gb234, 4, none⟩ (.int .i64 a5_4)).setCell ⟨gb234, 5, none⟩ (.int .i64 a5_7)).setCell ⟨gb234, 6, none⟩ (.int .i64 a5_8)).setCell ⟨gb234, 7, none⟩ (.int .i64 a5_5)).setCell ⟨gb234, 8, none⟩ (.int .i64 a5_6)) = w51 at n0_ n1_ n2_ n3_ n4_ n5_ n6_ ⊢
                have HO216 := n0_
                have HO219 := n1_
                have BK212 := n2_
                have BK226 := n3_
                have BK233 := n4_
                have BK234 := n5_
                have HB := n6_
                clear n0_ n1_ n2_ n3_ n4_ n5_ n6_
                have n0_ := Aside0.mk (Kd.R_drew HO216.out)
                have n1_ := Aside0.mk (Kd.R_drew HO219.out)
                have n2_ := Aside0.mk (blk_drew BK212.out)
                have n3_ := Aside0.mk (blk_drew BK226.out)
                have n4_ := Aside0.mk (blk_drew BK233.out)
                have n5_ := Aside0.mk (blk_drew BK234.out)
                have n6_ := Aside0.mk (below_drew1 HB.out)
                clear HO216
                clear HO219
                clear BK212
                clear BK226
                clear BK233
                clear BK234
                clear HB
                have HO216 := n0_
                have HO219 := n1_
                have BK212 := n2_
                have BK226 := n3_
                have BK233 := n4_
                have BK234 := n5_
                have HB := n6_
                clear n0_ n1_ n2_ n3_ n4_ n5_ n6_
                refine start_ (n := 29) (S := fun w' => w'.cell? ⟨gb226, 0, none⟩ = some (.string t220) ∧ w'.cell? ⟨gb226, 1, none⟩ = some (.string t221) ∧ w'.cell? ⟨gb226, 2, none⟩ = some (.int .i64 t222) ∧ w'.cell? ⟨gb226, 3, none⟩ = some (.int .i64 t223) ∧ w'.cell? ⟨gb226, 4, none⟩ = some (.int .i64 t224) ∧ w'.cell? ⟨gb233, 0, none⟩ = some (.string t227) ∧ w'.cell? ⟨gb233, 1, none⟩ = some (.string t228) ∧ w'.cell? ⟨gb233, 2, none⟩ = some (.int .i64 t229) ∧ w'.cell? ⟨gb233, 3, none⟩ = some (.int .i64 t230) ∧ w'.cell? ⟨gb233, 4, none⟩ = some (.int .i64 t231) ∧ w'.cell? ⟨gb212, 0, none⟩ = some (.string a5_0) ∧ w'.cell? ⟨gb212, 1, none⟩ = some (.string a5_1) ∧ w'.cell? ⟨gb212, 2, none⟩ = some (.string a5_2) ∧ w'.cell? ⟨gb212, 3, none⟩ = some (.string a5_3) ∧ w'.cell? ⟨gb212, 4, none⟩ = some (.int .i64 a5_4) ∧ w'.cell? ⟨gb212, 5, none⟩ = some (.int .i64 a5_5) ∧ w'.cell? ⟨gb212, 6, none⟩ = some (.int .i64 a5_6) ∧ w'.cell? ⟨gb212, 7, none⟩ = some (.int .i64 a5_7) ∧ w'.cell? ⟨gb212, 8, none⟩ = some (.int .i64 a5_8) ∧ w'.cell? ⟨gb234, 0, none⟩ = some (.string a5_2) ∧ w'.cell? ⟨gb234, 1, none⟩ = some (.string a5_3) ∧ w'.cell? ⟨gb234, 2, none⟩ = some (.string a5_0) ∧ w'.cell? ⟨gb234, 3, none⟩ = some (.string a5_1) ∧ w'.cell? ⟨gb234, 4, none⟩ = some (.int .i64 a5_4) ∧ w'.cell? ⟨gb234, 5, none⟩ = some (.int .i64 a5_7) ∧ w'.cell? ⟨gb234, 6, none⟩ = some (.int .i64 a5_8) ∧ w'.cell? ⟨gb234, 7, none⟩ = some (.int .i64 a5_5) ∧ w'.cell? ⟨gb234, 8, none⟩ = some (.int .i64 a5_6)) (ds := []) #[false, false, false, false, false, false, false, false, false, false, false, false, false, false, false, false, false, false, false, false, false, false, false, false, false, false, false, false, false] (by kernel_rfl) rfl rfl ⟨(blk_cell BK226.out 0).trans rfl, (blk_cell BK226.out 1).trans rfl, (blk_cell BK226.out 2).trans rfl, (blk_cell BK226.out 3).trans rfl, (blk_cell BK226.out 4).trans rfl, (blk_cell BK233.out 0).trans rfl, (blk_cell BK233.out 1).trans rfl, (blk_cell BK233.out 2).trans rfl, (blk_cell BK233.out 3).trans rfl, (blk_cell BK233.out 4).trans rfl, (blk_cell BK212.out 0).trans rfl, (blk_cell BK212.out 1).trans rfl, (blk_cell BK212.out 2).trans rfl, (blk_cell BK212.out 3).trans rfl, (blk_cell BK212.out 4).trans rfl, (blk_cell BK212.out 5).trans rfl, (blk_cell BK212.out 6).trans rfl, (blk_cell BK212.out 7).trans rfl, (blk_cell BK212.out 8).trans rfl, (blk_cell BK234.out 0).trans rfl, (blk_cell BK234.out 1).trans rfl, (blk_cell BK234.out 2).trans rfl, (blk_cell BK234.out 3).trans rfl, (blk_cell BK234.out 4).trans rfl, (blk_cell BK234.out 5).trans rfl, (blk_cell BK234.out 6).trans rfl, (blk_cell BK234.out 7).trans rfl, (blk_cell BK234.out 8).trans rfl⟩ (fun hHeld => ?_); refine with_tabW redoubtlaw15_PickTurned.tab8 redoubtlaw15_PickTurned.bits8 (fun HT_ HW_ => ?_)
                generalize w51.drew = w52 at HO216 HO219 BK212 BK226 BK233 BK234 HB hHeld ⊢
                refine one_ (i := 0) (N := some 101) #[true, false, false, false, false, false, false, false, false, false, false, false, false, false, false, false, false, false, false, false, false, false, false, false, false, false, false, false, false] rfl rfl (one_of HT_.out (by kernel_rfl)) (by decide) (fun K hK => ?_)
                refine goes_ Try.func10 (by kernel_rfl) rfl #[] (by rfl) rfl rfl (by (try simp only [List.map_toArray, List.map_cons, List.map_nil]); first | done | rfl | (simp only [List.length_drop, List.length_take]; rfl)) ?_
                with_reducible refine (redoubtlaw15_awake.calls kj6  true _ A20.out (by first | rfl | exact HRT.out)).mono ?_
                rintro e w53 ⟨rfl, hb⟩
                refine ⟨_, rfl, ?_⟩
                have n0_ := Aside0.mk (Kd.R_below (by (with_reducible repeat (first | apply Kd.R_alloc | apply Kd.R_drewN | apply Kd.R_drew)); exact HO216.out) hb)
                have n1_ := Aside0.mk (Kd.R_below (by (with_reducible repeat (first | apply Kd.R_alloc | apply Kd.R_drewN | apply Kd.R_drew)); exact HO219.out) hb)
                have n2_ := Aside0.mk (blk_below (g := gb212) (o := .cells #[.string a5_0, .string a5_1, .string a5_2, .string a5_3, .int .i64 a5_4, .int .i64 a5_5, .int .i64 a5_6, .int .i64 a5_7, .int .i64 a5_8] 37 (0, 0)) (by (with_reducible repeat (first | refine blk_drewN ?_ _ | refine blk_drew ?_ | refine blk_alloc ?_ _)); exact BK212.out) hb)
                have n3_ := Aside0.mk (blk_below (g := gb226) (o := .cells #[.string t220, .string t221, .int .i64 t222, .int .i64 t223, .int .i64 t224] 24 (0, 0)) (by (with_reducible repeat (first | refine blk_drewN ?_ _ | refine blk_drew ?_ | refine blk_alloc ?_ _)); exact BK226.out) hb)
                have n4_ := Aside0.mk (blk_below (g := gb233) (o := .cells #[.string t227, .string t228, .int .i64 t229, .int .i64 t230, .int .i64 t231] 24 (0, 0)) (by (with_reducible repeat (first | refine blk_drewN ?_ _ | refine blk_drew ?_ | refine blk_alloc ?_ _)); exact BK233.out) hb)
                have n5_ := Aside0.mk (blk_below (g := gb234) (o := .cells #[.string a5_2, .string a5_3, .string a5_0, .string a5_1, .int .i64 a5_4, .int .i64 a5_7, .int .i64 a5_8, .int .i64 a5_5, .int .i64 a5_6] 37 (0, 0)) (by (with_reducible repeat (first | refine blk_drewN ?_ _ | refine blk_drew ?_ | refine blk_alloc ?_ _)); exact BK234.out) hb)
                have n6_ := Aside0.mk (below_step (by repeat (first | (with_reducible first | exact HB.out | apply below_alloc | apply pw_below_drewN | apply below_drew1 | refine below_set ?_ GE212.out | refine below_set ?_ GE226.out | refine below_set ?_ GE233.out | refine below_set ?_ GE234.out) | exact HB.out)) hb)
                clear HO216
                clear HO219
                clear BK212
                clear BK226
                clear BK233
                clear BK234
                clear HB
                have HO216 := n0_
                have HO219 := n1_
                have BK212 := n2_
                have BK226 := n3_
                have BK233 := n4_
                have BK234 := n5_
                have HB := n6_
                clear n0_ n1_ n2_ n3_ n4_ n5_ n6_
                (try clear hb)
                (try clear hb2)
                (try clear hk)
                (try clear hi)
                refine hK.out _ _ ⟨(blk_cell BK226.out 0).trans rfl, (blk_cell BK226.out 1).trans rfl, (blk_cell BK226.out 2).trans rfl, (blk_cell BK226.out 3).trans rfl, (blk_cell BK226.out 4).trans rfl, (blk_cell BK233.out 0).trans rfl, (blk_cell BK233.out 1).trans rfl, (blk_cell BK233.out 2).trans rfl, (blk_cell BK233.out 3).trans rfl, (blk_cell BK233.out 4).trans rfl, (blk_cell BK212.out 0).trans rfl, (blk_cell BK212.out 1).trans rfl, (blk_cell BK212.out 2).trans rfl, (blk_cell BK212.out 3).trans rfl, (blk_cell BK212.out 4).trans rfl, (blk_cell BK212.out 5).trans rfl, (blk_cell BK212.out 6).trans rfl, (blk_cell BK212.out 7).trans rfl, (blk_cell BK212.out 8).trans rfl, (blk_cell BK234.out 0).trans rfl, (blk_cell BK234.out 1).trans rfl, (blk_cell BK234.out 2).trans rfl, (blk_cell BK234.out 3).trans rfl, (blk_cell BK234.out 4).trans rfl, (blk_cell BK234.out 5).trans rfl, (blk_cell BK234.out 6).trans rfl, (blk_cell BK234.out 7).trans rfl, (blk_cell BK234.out 8).trans rfl⟩ (fun hHeld => ?_)
                clear hK K
                refine norm_ (a' := ?_) ?_ ?_
                rotate_left
                · show Act.put _ (some 101) _ = _
                  simp only [Act.put, List.setIfInBounds_toArray, List.set_cons_zero, List.set_cons_succ, i64_w, i32_w]
                  rfl
                refine pure_ (i := 1) (N := some 102) (v := ?_) (a' := ?_) #[true, true, false, false, false, false, false, false, false, false, false, false, false, false, false, false, false, false, false, false, false, false, false, false, false, false, false, false, false] rfl rfl (any_of HT_.out (by kernel_rfl)) (fun _ _ _ h => h) (Or.inl ⟨by rfl, ?_⟩) ?_ ?_
                rotate_left
                · intro w'
                  go_simp
                  with_reducible rfl
                rotate_left
                · simp only [Act.put, List.setIfInBounds_toArray, List.set_cons_zero, List.set_cons_succ, i64_w, i32_w]
                  rfl
                refine take_ (i := 2) (N := some 103) (v := ?_) (a' := ?_) #[true, true, true, false, false, false, false, false, false, false, false, false, false, false, false, false, false, false, false, false, false, false, false, false, false, false, false, false, false] rfl rfl (take_ofW HT_.out HW_.out (by kernel_rfl)) (fun _ _ _ h => h) (Or.inl ⟨by rfl, ?_⟩) hHeld ?_ ?_
                rotate_left
                · rintro w' ⟨s0, s1, s2, s3, s4, s5, s6, s7, s8, s9, s10, s11, s12, s13, s14, s15, s16, s17, s18, s19, s20, s21, s22, s23, s24, s25, s26, s27⟩
                  go_simp
                  with_reducible rfl
                rotate_left
                · simp only [Act.put, List.setIfInBounds_toArray, List.set_cons_zero, List.set_cons_succ, i64_w, i32_w]
                  rfl
                refine take_ (i := 3) (N := some 104) (v := ?_) (a' := ?_) #[true, true, true, true, false, false, false, false, false, false, false, false, false, false, false, false, false, false, false, false, false, false, false, false, false, false, false, false, false] rfl rfl (take_ofW HT_.out HW_.out (by kernel_rfl)) (fun _ _ _ h => h) (Or.inl ⟨by rfl, ?_⟩) hHeld ?_ ?_
                rotate_left
                · rintro w' ⟨s0, s1, s2, s3, s4, s5, s6, s7, s8, s9, s10, s11, s12, s13, s14, s15, s16, s17, s18, s19, s20, s21, s22, s23, s24, s25, s26, s27⟩
                  go_simp
                  with_reducible rfl
                rotate_left
                · simp only [Act.put, List.setIfInBounds_toArray, List.set_cons_zero, List.set_cons_succ, i64_w, i32_w]
                  rfl
                refine pure_ (i := 4) (N := some 105) (v := ?_) (a' := ?_) #[true, true, true, true, true, false, false, false, false, false, false, false, false, false, false, false, false, false, false, false, false, false, false, false, false, false, false, false, false] rfl rfl (any_of HT_.out (by kernel_rfl)) (fun _ _ _ h => h) (Or.inl ⟨by rfl, ?_⟩) ?_ ?_
                rotate_left
                · intro w'
                  go_simp
                  with_reducible rfl
                rotate_left
                · simp only [Act.put, List.setIfInBounds_toArray, List.set_cons_zero, List.set_cons_succ, i64_w, i32_w]
                  rfl
                refine pure_ (i := 5) (N := some 106) (v := ?_) (a' := ?_) #[true, true, true, true, true, true, false, false, false, false, false, false, false, false, false, false, false, false, false, false, false, false, false, false, false, false, false, false, false] rfl rfl (any_of HT_.out (by kernel_rfl)) (fun _ _ _ h => h) (Or.inl ⟨by rfl, ?_⟩) ?_ ?_
                rotate_left
                · intro w'
                  go_simp
                  with_reducible rfl
                rotate_left
                · simp only [Act.put, List.setIfInBounds_toArray, List.set_cons_zero, List.set_cons_succ, i64_w, i32_w]
                  rfl
                refine pure_ (i := 6) (N := some 107) (v := ?_) (a' := ?_) #[true, true, true, true, true, true, true, false, false, false, false, false, false, false, false, false, false, false, false, false, false, false, false, false, false, false, false, false, false] rfl rfl (any_of HT_.out (by kernel_rfl)) (fun _ _ _ h => h) (Or.inl ⟨by rfl, ?_⟩) ?_ ?_
                rotate_left
                · intro w'
                  go_simp
                  with_reducible rfl
                rotate_left
                · simp only [Act.put, List.setIfInBounds_toArray, List.set_cons_zero, List.set_cons_succ, i64_w, i32_w]
                  rfl
                refine pure_ (i := 7) (N := some 108) (v := ?_) (a' := ?_) #[true, true, true, true, true, true, true, true, false, false, false, false, false, false, false, false, false, false, false, false, false, false, false, false, false, false, false, false, false] rfl rfl (any_of HT_.out (by kernel_rfl)) (fun _ _ _ h => h) (Or.inl ⟨by rfl, ?_⟩) ?_ ?_
                rotate_left
                · intro w'
                  go_simp
                  with_reducible rfl
                rotate_left
                · simp only [Act.put, List.setIfInBounds_toArray, List.set_cons_zero, List.set_cons_succ, i64_w, i32_w]
                  rfl
                refine pure_ (i := 8) (N := some 109) (v := ?_) (a' := ?_) #[true, true, true, true, true, true, true, true, true, false, false, false, false, false, false, false, false, false, false, false, false, false, false, false, false, false, false, false, false] rfl rfl (any_of HT_.out (by kernel_rfl)) (fun _ _ _ h => h) (Or.inl ⟨by rfl, ?_⟩) ?_ ?_
                rotate_left
                · intro w'
                  go_simp
                  with_reducible rfl
                rotate_left
                · simp only [Act.put, List.setIfInBounds_toArray, List.set_cons_zero, List.set_cons_succ, i64_w, i32_w]
                  rfl
                refine pure_ (i := 9) (N := some 110) (v := ?_) (a' := ?_) #[true, true, true, true, true, true, true, true, true, true, false, false, false, false, false, false, false, false, false, false, false, false, false, false, false, false, false, false, false] rfl rfl (any_of HT_.out (by kernel_rfl)) (fun _ _ _ h => h) (Or.inl ⟨by rfl, ?_⟩) ?_ ?_
                rotate_left
                · intro w'
                  go_simp
                  with_reducible rfl
                rotate_left
                · simp only [Act.put, List.setIfInBounds_toArray, List.set_cons_zero, List.set_cons_succ, i64_w, i32_w]
                  rfl
                refine pure_ (i := 10) (N := some 111) (v := ?_) (a' := ?_) #[true, true, true, true, true, true, true, true, true, true, true, false, false, false, false, false, false, false, false, false, false, false, false, false, false, false, false, false, false] rfl rfl (any_of HT_.out (by kernel_rfl)) (fun _ _ _ h => h) (Or.inl ⟨by rfl, ?_⟩) ?_ ?_
                rotate_left
                · intro w'
                  go_simp
                  with_reducible rfl
                rotate_left
                · simp only [Act.put, List.setIfInBounds_toArray, List.set_cons_zero, List.set_cons_succ, i64_w, i32_w]
                  rfl
                refine pure_ (i := 11) (N := some 112) (v := ?_) (a' := ?_) #[true, true, true, true, true, true, true, true, true, true, true, true, false, false, false, false, false, false, false, false, false, false, false, false, false, false, false, false, false] rfl rfl (any_of HT_.out (by kernel_rfl)) (fun _ _ _ h => h) (Or.inl ⟨by rfl, ?_⟩) ?_ ?_
                rotate_left
                · intro w'
                  go_simp
                  with_reducible rfl
                rotate_left
                · simp only [Act.put, List.setIfInBounds_toArray, List.set_cons_zero, List.set_cons_succ, i64_w, i32_w]
                  rfl
                refine take_ (i := 12) (N := some 113) (v := ?_) (a' := ?_) #[true, true, true, true, true, true, true, true, true, true, true, true, true, false, false, false, false, false, false, false, false, false, false, false, false, false, false, false, false] rfl rfl (take_ofW HT_.out HW_.out (by kernel_rfl)) (fun _ _ _ h => h) (Or.inl ⟨by rfl, ?_⟩) hHeld ?_ ?_
                rotate_left
                · rintro w' ⟨s0, s1, s2, s3, s4, s5, s6, s7, s8, s9, s10, s11, s12, s13, s14, s15, s16, s17, s18, s19, s20, s21, s22, s23, s24, s25, s26, s27⟩
                  go_simp
                  with_reducible rfl
                rotate_left
                · simp only [Act.put, List.setIfInBounds_toArray, List.set_cons_zero, List.set_cons_succ, i64_w, i32_w]
                  rfl
                refine take_ (i := 15) (N := some 116) (v := ?_) (a' := ?_) #[true, true, true, true, true, true, true, true, true, true, true, true, true, false, false, true, false, false, false, false, false, false, false, false, false, false, false, false, false] rfl rfl (take_ofW HT_.out HW_.out (by kernel_rfl)) (fun _ _ _ h => h) (Or.inl ⟨by rfl, ?_⟩) hHeld ?_ ?_
                rotate_left
                · rintro w' ⟨s0, s1, s2, s3, s4, s5, s6, s7, s8, s9, s10, s11, s12, s13, s14, s15, s16, s17, s18, s19, s20, s21, s22, s23, s24, s25, s26, s27⟩
                  go_simp
                  with_reducible rfl
                rotate_left
                · simp only [Act.put, List.setIfInBounds_toArray, List.set_cons_zero, List.set_cons_succ, i64_w, i32_w]
                  rfl
                refine one_ (i := 13) (N := some 114) #[true, true, true, true, true, true, true, true, true, true, true, true, true, true, false, true, false, false, false, false, false, false, false, false, false, false, false, false, false] rfl rfl (one_of HT_.out (by kernel_rfl)) (by decide) (fun K hK => ?_)
                refine goes_ Try.func11 (by kernel_rfl) rfl #[.agg #[.string t220, .string t221, .int .i64 t222, .int .i64 t223, .int .i64 t224]] (by rfl) rfl rfl (by (try simp only [List.map_toArray, List.map_cons, List.map_nil]); first | done | rfl | (simp only [List.length_drop, List.length_take]; rfl)) ?_
                with_reducible refine (pick_Turned.calls t220 t221 t222 t223 t224 t236 t237 t238 t239 t240 _ A24.out).mono ?_
                rintro e w54 ⟨rfl, hb⟩
                refine ⟨_, rfl, ?_⟩
                have n0_ := Aside0.mk (Kd.R_below (by (with_reducible repeat (first | apply Kd.R_alloc | apply Kd.R_drewN | apply Kd.R_drew)); exact HO216.out) hb)
                have n1_ := Aside0.mk (Kd.R_below (by (with_reducible repeat (first | apply Kd.R_alloc | apply Kd.R_drewN | apply Kd.R_drew)); exact HO219.out) hb)
                have n2_ := Aside0.mk (blk_below (g := gb212) (o := .cells #[.string a5_0, .string a5_1, .string a5_2, .string a5_3, .int .i64 a5_4, .int .i64 a5_5, .int .i64 a5_6, .int .i64 a5_7, .int .i64 a5_8] 37 (0, 0)) (by (with_reducible repeat (first | refine blk_drewN ?_ _ | refine blk_drew ?_ | refine blk_alloc ?_ _)); exact BK212.out) hb)
                have n3_ := Aside0.mk (blk_below (g := gb226) (o := .cells #[.string t220, .string t221, .int .i64 t222, .int .i64 t223, .int .i64 t224] 24 (0, 0)) (by (with_reducible repeat (first | refine blk_drewN ?_ _ | refine blk_drew ?_ | refine blk_alloc ?_ _)); exact BK226.out) hb)
                have n4_ := Aside0.mk (blk_below (g := gb233) (o := .cells #[.string t227, .string t228, .int .i64 t229, .int .i64 t230, .int .i64 t231] 24 (0, 0)) (by (with_reducible repeat (first | refine blk_drewN ?_ _ | refine blk_drew ?_ | refine blk_alloc ?_ _)); exact BK233.out) hb)
                have n5_ := Aside0.mk (blk_below (g := gb234) (o := .cells #[.string a5_2, .string a5_3, .string a5_0, .string a5_1, .int .i64 a5_4, .int .i64 a5_7, .int .i64 a5_8, .int .i64 a5_5, .int .i64 a5_6] 37 (0, 0)) (by (with_reducible repeat (first | refine blk_drewN ?_ _ | refine blk_drew ?_ | refine blk_alloc ?_ _)); exact BK234.out) hb)
                have n6_ := Aside0.mk (below_step (by repeat (first | (with_reducible first | exact HB.out | apply below_alloc | apply pw_below_drewN | apply below_drew1 | refine below_set ?_ GE212.out | refine below_set ?_ GE226.out | refine below_set ?_ GE233.out | refine below_set ?_ GE234.out) | exact HB.out)) hb)
                clear HO216
                clear HO219
                clear BK212
                clear BK226
                clear BK233
                clear BK234
                clear HB
                have HO216 := n0_
                have HO219 := n1_
                have BK212 := n2_
                have BK226 := n3_
                have BK233 := n4_
                have BK234 := n5_
                have HB := n6_
                clear n0_ n1_ n2_ n3_ n4_ n5_ n6_
                (try clear hb)
                (try clear hb2)
                (try clear hk)
                (try clear hi)
                refine hK.out _ _ ⟨(blk_cell BK226.out 0).trans rfl, (blk_cell BK226.out 1).trans rfl, (blk_cell BK226.out 2).trans rfl, (blk_cell BK226.out 3).trans rfl, (blk_cell BK226.out 4).trans rfl, (blk_cell BK233.out 0).trans rfl, (blk_cell BK233.out 1).trans rfl, (blk_cell BK233.out 2).trans rfl, (blk_cell BK233.out 3).trans rfl, (blk_cell BK233.out 4).trans rfl, (blk_cell BK212.out 0).trans rfl, (blk_cell BK212.out 1).trans rfl, (blk_cell BK212.out 2).trans rfl, (blk_cell BK212.out 3).trans rfl, (blk_cell BK212.out 4).trans rfl, (blk_cell BK212.out 5).trans rfl, (blk_cell BK212.out 6).trans rfl, (blk_cell BK212.out 7).trans rfl, (blk_cell BK212.out 8).trans rfl, (blk_cell BK234.out 0).trans rfl, (blk_cell BK234.out 1).trans rfl, (blk_cell BK234.out 2).trans rfl, (blk_cell BK234.out 3).trans rfl, (blk_cell BK234.out 4).trans rfl, (blk_cell BK234.out 5).trans rfl, (blk_cell BK234.out 6).trans rfl, (blk_cell BK234.out 7).trans rfl, (blk_cell BK234.out 8).trans rfl⟩ (fun hHeld => ?_)
                clear hK K
                refine norm_ (a' := ?_) ?_ ?_
                rotate_left
                · show Act.put _ (some 114) _ = _
                  simp only [Act.put, List.setIfInBounds_toArray, List.set_cons_zero, List.set_cons_succ, i64_w, i32_w]
                  rfl
                refine one_ (i := 14) (N := some 115) #[true, true, true, true, true, true, true, true, true, true, true, true, true, true, true, true, false, false, false, false, false, false, false, false, false, false, false, false, false] rfl rfl (one_of HT_.out (by kernel_rfl)) (by decide) (fun K hK => ?_)
                refine goes_ Try.func11 (by kernel_rfl) rfl #[.agg #[.string t236, .string t237, .int .i64 t238, .int .i64 t239, .int .i64 t240]] (by rfl) rfl rfl (by (try simp only [List.map_toArray, List.map_cons, List.map_nil]); first | done | rfl | (simp only [List.length_drop, List.length_take]; rfl)) ?_
                with_reducible refine (pick_Turned.calls t236 t237 t238 t239 t240 t241 t242 t243 t244 t245 _ A25.out).mono ?_
                rintro e w55 ⟨rfl, hb⟩
                refine ⟨_, rfl, ?_⟩
                have n0_ := Aside0.mk (Kd.R_below (by (with_reducible repeat (first | apply Kd.R_alloc | apply Kd.R_drewN | apply Kd.R_drew)); exact HO216.out) hb)
                have n1_ := Aside0.mk (Kd.R_below (by (with_reducible repeat (first | apply Kd.R_alloc | apply Kd.R_drewN | apply Kd.R_drew)); exact HO219.out) hb)
                have n2_ := Aside0.mk (blk_below (g := gb212) (o := .cells #[.string a5_0, .string a5_1, .string a5_2, .string a5_3, .int .i64 a5_4, .int .i64 a5_5, .int .i64 a5_6, .int .i64 a5_7, .int .i64 a5_8] 37 (0, 0)) (by (with_reducible repeat (first | refine blk_drewN ?_ _ | refine blk_drew ?_ | refine blk_alloc ?_ _)); exact BK212.out) hb)
                have n3_ := Aside0.mk (blk_below (g := gb226) (o := .cells #[.string t220, .string t221, .int .i64 t222, .int .i64 t223, .int .i64 t224] 24 (0, 0)) (by (with_reducible repeat (first | refine blk_drewN ?_ _ | refine blk_drew ?_ | refine blk_alloc ?_ _)); exact BK226.out) hb)
                have n4_ := Aside0.mk (blk_below (g := gb233) (o := .cells #[.string t227, .string t228, .int .i64 t229, .int .i64 t230, .int .i64 t231] 24 (0, 0)) (by (with_reducible repeat (first | refine blk_drewN ?_ _ | refine blk_drew ?_ | refine blk_alloc ?_ _)); exact BK233.out) hb)
                have n5_ := Aside0.mk (blk_below (g := gb234) (o := .cells #[.string a5_2, .string a5_3, .string a5_0, .string a5_1, .int .i64 a5_4, .int .i64 a5_7, .int .i64 a5_8, .int .i64 a5_5, .int .i64 a5_6] 37 (0, 0)) (by (with_reducible repeat (first | refine blk_drewN ?_ _ | refine blk_drew ?_ | refine blk_alloc ?_ _)); exact BK234.out) hb)
                have n6_ := Aside0.mk (below_step (by repeat (first | (with_reducible first | exact HB.out | apply below_alloc | apply pw_below_drewN | apply below_drew1 | refine below_set ?_ GE212.out | refine below_set ?_ GE226.out | refine below_set ?_ GE233.out | refine below_set ?_ GE234.out) | exact HB.out)) hb)
                clear HO216
                clear HO219
                clear BK212
                clear BK226
                clear BK233
                clear BK234
                clear HB
                have HO216 := n0_
                have HO219 := n1_
                have BK212 := n2_
                have BK226 := n3_
                have BK233 := n4_
                have BK234 := n5_
                have HB := n6_
                clear n0_ n1_ n2_ n3_ n4_ n5_ n6_
                (try clear hb)
                (try clear hb2)
                (try clear hk)
                (try clear hi)
                refine hK.out _ _ ⟨(blk_cell BK226.out 0).trans rfl, (blk_cell BK226.out 1).trans rfl, (blk_cell BK226.out 2).trans rfl, (blk_cell BK226.out 3).trans rfl, (blk_cell BK226.out 4).trans rfl, (blk_cell BK233.out 0).trans rfl, (blk_cell BK233.out 1).trans rfl, (blk_cell BK233.out 2).trans rfl, (blk_cell BK233.out 3).trans rfl, (blk_cell BK233.out 4).trans rfl, (blk_cell BK212.out 0).trans rfl, (blk_cell BK212.out 1).trans rfl, (blk_cell BK212.out 2).trans rfl, (blk_cell BK212.out 3).trans rfl, (blk_cell BK212.out 4).trans rfl, (blk_cell BK212.out 5).trans rfl, (blk_cell BK212.out 6).trans rfl, (blk_cell BK212.out 7).trans rfl, (blk_cell BK212.out 8).trans rfl, (blk_cell BK234.out 0).trans rfl, (blk_cell BK234.out 1).trans rfl, (blk_cell BK234.out 2).trans rfl, (blk_cell BK234.out 3).trans rfl, (blk_cell BK234.out 4).trans rfl, (blk_cell BK234.out 5).trans rfl, (blk_cell BK234.out 6).trans rfl, (blk_cell BK234.out 7).trans rfl, (blk_cell BK234.out 8).trans rfl⟩ (fun hHeld => ?_)
                clear hK K
                refine norm_ (a' := ?_) ?_ ?_
                rotate_left
                · show Act.put _ (some 115) _ = _
                  simp only [Act.put, List.setIfInBounds_toArray, List.set_cons_zero, List.set_cons_succ, i64_w, i32_w]
                  rfl
                refine pure_ (i := 16) (N := some 117) (v := ?_) (a' := ?_) #[true, true, true, true, true, true, true, true, true, true, true, true, true, true, true, true, true, false, false, false, false, false, false, false, false, false, false, false, false] rfl rfl (any_of HT_.out (by kernel_rfl)) (fun _ _ _ h => h) (Or.inl ⟨by rfl, ?_⟩) ?_ ?_
                rotate_left
                · intro w'
                  go_simp
                  with_reducible rfl
                rotate_left
                · simp only [Act.put, List.setIfInBounds_toArray, List.set_cons_zero, List.set_cons_succ, i64_w, i32_w]
                  rfl
                refine pure_ (i := 17) (N := some 118) (v := ?_) (a' := ?_) #[true, true, true, true, true, true, true, true, true, true, true, true, true, true, true, true, true, true, false, false, false, false, false, false, false, false, false, false, false] rfl rfl (any_of HT_.out (by kernel_rfl)) (fun _ _ _ h => h) (Or.inl ⟨by rfl, ?_⟩) ?_ ?_
                rotate_left
                · intro w'
                  go_simp
                  with_reducible rfl
                rotate_left
                · simp only [Act.put, List.setIfInBounds_toArray, List.set_cons_zero, List.set_cons_succ, i64_w, i32_w]
                  rfl
                refine pure_ (i := 18) (N := some 119) (v := ?_) (a' := ?_) #[true, true, true, true, true, true, true, true, true, true, true, true, true, true, true, true, true, true, true, false, false, false, false, false, false, false, false, false, false] rfl rfl (any_of HT_.out (by kernel_rfl)) (fun _ _ _ h => h) (Or.inl ⟨by rfl, ?_⟩) ?_ ?_
                rotate_left
                · intro w'
                  go_simp
                  with_reducible rfl
                rotate_left
                · simp only [Act.put, List.setIfInBounds_toArray, List.set_cons_zero, List.set_cons_succ, i64_w, i32_w]
                  rfl
                refine take_ (i := 19) (N := some 120) (v := ?_) (a' := ?_) #[true, true, true, true, true, true, true, true, true, true, true, true, true, true, true, true, true, true, true, true, false, false, false, false, false, false, false, false, false] rfl rfl (take_ofW HT_.out HW_.out (by kernel_rfl)) (fun _ _ _ h => h) (Or.inl ⟨by rfl, ?_⟩) hHeld ?_ ?_
                rotate_left
                · rintro w' ⟨s0, s1, s2, s3, s4, s5, s6, s7, s8, s9, s10, s11, s12, s13, s14, s15, s16, s17, s18, s19, s20, s21, s22, s23, s24, s25, s26, s27⟩
                  go_simp
                  with_reducible rfl
                rotate_left
                · simp only [Act.put, List.setIfInBounds_toArray, List.set_cons_zero, List.set_cons_succ, i64_w, i32_w]
                  rfl
                refine take_ (i := 20) (N := some 121) (v := ?_) (a' := ?_) #[true, true, true, true, true, true, true, true, true, true, true, true, true, true, true, true, true, true, true, true, true, false, false, false, false, false, false, false, false] rfl rfl (take_ofW HT_.out HW_.out (by kernel_rfl)) (fun _ _ _ h => h) (Or.inl ⟨by rfl, ?_⟩) hHeld ?_ ?_
                rotate_left
                · rintro w' ⟨s0, s1, s2, s3, s4, s5, s6, s7, s8, s9, s10, s11, s12, s13, s14, s15, s16, s17, s18, s19, s20, s21, s22, s23, s24, s25, s26, s27⟩
                  go_simp
                  with_reducible rfl
                rotate_left
                · simp only [Act.put, List.setIfInBounds_toArray, List.set_cons_zero, List.set_cons_succ, i64_w, i32_w]
                  rfl
                refine take_ (i := 22) (N := some 123) (v := ?_) (a' := ?_) #[true, true, true, true, true, true, true, true, true, true, true, true, true, true, true, true, true, true, true, true, true, false, true, false, false, false, false, false, false] rfl rfl (take_ofW HT_.out HW_.out (by kernel_rfl)) (fun _ _ _ h => h) (Or.inl ⟨by rfl, ?_⟩) hHeld ?_ ?_
                rotate_left
                · rintro w' ⟨s0, s1, s2, s3, s4, s5, s6, s7, s8, s9, s10, s11, s12, s13, s14, s15, s16, s17, s18, s19, s20, s21, s22, s23, s24, s25, s26, s27⟩
                  go_simp
                  with_reducible rfl
                rotate_left
                · simp only [Act.put, List.setIfInBounds_toArray, List.set_cons_zero, List.set_cons_succ, i64_w, i32_w]
                  rfl
                refine take_ (i := 23) (N := some 124) (v := ?_) (a' := ?_) #[true, true, true, true, true, true, true, true, true, true, true, true, true, true, true, true, true, true, true, true, true, false, true, true, false, false, false, false, false] rfl rfl (take_ofW HT_.out HW_.out (by kernel_rfl)) (fun _ _ _ h => h) (Or.inl ⟨by rfl, ?_⟩) hHeld ?_ ?_
                rotate_left
                · rintro w' ⟨s0, s1, s2, s3, s4, s5, s6, s7, s8, s9, s10, s11, s12, s13, s14, s15, s16, s17, s18, s19, s20, s21, s22, s23, s24, s25, s26, s27⟩
                  go_simp
                  with_reducible rfl
                rotate_left
                · simp only [Act.put, List.setIfInBounds_toArray, List.set_cons_zero, List.set_cons_succ, i64_w, i32_w]
                  rfl
                refine one_ (i := 21) (N := some 122) #[true, true, true, true, true, true, true, true, true, true, true, true, true, true, true, true, true, true, true, true, true, true, true, true, false, false, false, false, false] rfl rfl (one_of HT_.out (by kernel_rfl)) (by decide) (fun K hK => ?_)
                refine goes_ Try.func14 (by kernel_rfl) rfl #[.agg #[.string a5_0, .string a5_1, .string a5_2, .string a5_3, .int .i64 a5_4, .int .i64 a5_5, .int .i64 a5_6, .int .i64 a5_7, .int .i64 a5_8], .agg #[.string t220, .string t221, .int .i64 t222, .int .i64 t223, .int .i64 t224]] (by rfl) rfl rfl (by (try simp only [List.map_toArray, List.map_cons, List.map_nil]); first | done | rfl | (simp only [List.length_drop, List.length_take]; rfl)) ?_
                with_reducible refine (pick_Matches.calls kj6 a5_0 a5_1 a5_2 a5_3 a5_4 a5_5 a5_6 a5_7 a5_8 t220 t221 t222 t223 t224 t246 _ A27.out).mono ?_
                rintro e w56 ⟨rfl, hb⟩
                refine ⟨_, rfl, ?_⟩
                have n0_ := Aside0.mk (Kd.R_below (by (with_reducible repeat (first | apply Kd.R_alloc | apply Kd.R_drewN | apply Kd.R_drew)); exact HO216.out) hb)
                have n1_ := Aside0.mk (Kd.R_below (by (with_reducible repeat (first | apply Kd.R_alloc | apply Kd.R_drewN | apply Kd.R_drew)); exact HO219.out) hb)
                have n2_ := Aside0.mk (blk_below (g := gb212) (o := .cells #[.string a5_0, .string a5_1, .string a5_2, .string a5_3, .int .i64 a5_4, .int .i64 a5_5, .int .i64 a5_6, .int .i64 a5_7, .int .i64 a5_8] 37 (0, 0)) (by (with_reducible repeat (first | refine blk_drewN ?_ _ | refine blk_drew ?_ | refine blk_alloc ?_ _)); exact BK212.out) hb)
                have n3_ := Aside0.mk (blk_below (g := gb226) (o := .cells #[.string t220, .string t221, .int .i64 t222, .int .i64 t223, .int .i64 t224] 24 (0, 0)) (by (with_reducible repeat (first | refine blk_drewN ?_ _ | refine blk_drew ?_ | refine blk_alloc ?_ _)); exact BK226.out) hb)
                have n4_ := Aside0.mk (blk_below (g := gb233) (o := .cells #[.string t227, .string t228, .int .i64 t229, .int .i64 t230, .int .i64 t231] 24 (0, 0)) (by (with_reducible repeat (first | refine blk_drewN ?_ _ | refine blk_drew ?_ | refine blk_alloc ?_ _)); exact BK233.out) hb)
                have n5_ := Aside0.mk (blk_below (g := gb234) (o := .cells #[.string a5_2, .string a5_3, .string a5_0, .string a5_1, .int .i64 a5_4, .int .i64 a5_7, .int .i64 a5_8, .int .i64 a5_5, .int .i64 a5_6] 37 (0, 0)) (by (with_reducible repeat (first | refine blk_drewN ?_ _ | refine blk_drew ?_ | refine blk_alloc ?_ _)); exact BK234.out) hb)
                have n6_ := Aside0.mk (below_step (by repeat (first | (with_reducible first | exact HB.out | apply below_alloc | apply pw_below_drewN | apply below_drew1 | refine below_set ?_ GE212.out | refine below_set ?_ GE226.out | refine below_set ?_ GE233.out | refine below_set ?_ GE234.out) | exact HB.out)) hb)
                clear HO216
                clear HO219
                clear BK212
                clear BK226
                clear BK233
                clear BK234
                clear HB
                have HO216 := n0_
                have HO219 := n1_
                have BK212 := n2_
                have BK226 := n3_
                have BK233 := n4_
                have BK234 := n5_
                have HB := n6_
                clear n0_ n1_ n2_ n3_ n4_ n5_ n6_
                (try clear hb)
                (try clear hb2)
                (try clear hk)
                (try clear hi)
                refine hK.out _ _ ⟨(blk_cell BK226.out 0).trans rfl, (blk_cell BK226.out 1).trans rfl, (blk_cell BK226.out 2).trans rfl, (blk_cell BK226.out 3).trans rfl, (blk_cell BK226.out 4).trans rfl, (blk_cell BK233.out 0).trans rfl, (blk_cell BK233.out 1).trans rfl, (blk_cell BK233.out 2).trans rfl, (blk_cell BK233.out 3).trans rfl, (blk_cell BK233.out 4).trans rfl, (blk_cell BK212.out 0).trans rfl, (blk_cell BK212.out 1).trans rfl, (blk_cell BK212.out 2).trans rfl, (blk_cell BK212.out 3).trans rfl, (blk_cell BK212.out 4).trans rfl, (blk_cell BK212.out 5).trans rfl, (blk_cell BK212.out 6).trans rfl, (blk_cell BK212.out 7).trans rfl, (blk_cell BK212.out 8).trans rfl, (blk_cell BK234.out 0).trans rfl, (blk_cell BK234.out 1).trans rfl, (blk_cell BK234.out 2).trans rfl, (blk_cell BK234.out 3).trans rfl, (blk_cell BK234.out 4).trans rfl, (blk_cell BK234.out 5).trans rfl, (blk_cell BK234.out 6).trans rfl, (blk_cell BK234.out 7).trans rfl, (blk_cell BK234.out 8).trans rfl⟩ (fun hHeld => ?_)
                clear hK K
                refine norm_ (a' := ?_) ?_ ?_
                rotate_left
                · show Act.put _ (some 122) _ = _
                  simp only [Act.put, List.setIfInBounds_toArray, List.set_cons_zero, List.set_cons_succ, i64_w, i32_w]
                  rfl
                refine one_ (i := 24) (N := some 125) #[true, true, true, true, true, true, true, true, true, true, true, true, true, true, true, true, true, true, true, true, true, true, true, true, true, false, false, false, false] rfl rfl (one_of HT_.out (by kernel_rfl)) (by decide) (fun K hK => ?_)
                refine goes_ Try.func11 (by kernel_rfl) rfl #[.agg #[.string t220, .string t221, .int .i64 t222, .int .i64 t223, .int .i64 t224]] (by rfl) rfl rfl (by (try simp only [List.map_toArray, List.map_cons, List.map_nil]); first | done | rfl | (simp only [List.length_drop, List.length_take]; rfl)) ?_
                with_reducible refine (pick_Turned.calls t220 t221 t222 t223 t224 t247 t248 t249 t250 t251 _ A28.out).mono ?_
                rintro e w57 ⟨rfl, hb⟩
                refine ⟨_, rfl, ?_⟩
                have n0_ := Aside0.mk (Kd.R_below (by (with_reducible repeat (first | apply Kd.R_alloc | apply Kd.R_drewN | apply Kd.R_drew)); exact HO216.out) hb)
                have n1_ := Aside0.mk (Kd.R_below (by (with_reducible repeat (first | apply Kd.R_alloc | apply Kd.R_drewN | apply Kd.R_drew)); exact HO219.out) hb)
                have n2_ := Aside0.mk (blk_below (g := gb212) (o := .cells #[.string a5_0, .string a5_1, .string a5_2, .string a5_3, .int .i64 a5_4, .int .i64 a5_5, .int .i64 a5_6, .int .i64 a5_7, .int .i64 a5_8] 37 (0, 0)) (by (with_reducible repeat (first | refine blk_drewN ?_ _ | refine blk_drew ?_ | refine blk_alloc ?_ _)); exact BK212.out) hb)
                have n3_ := Aside0.mk (blk_below (g := gb226) (o := .cells #[.string t220, .string t221, .int .i64 t222, .int .i64 t223, .int .i64 t224] 24 (0, 0)) (by (with_reducible repeat (first | refine blk_drewN ?_ _ | refine blk_drew ?_ | refine blk_alloc ?_ _)); exact BK226.out) hb)
                have n4_ := Aside0.mk (blk_below (g := gb233) (o := .cells #[.string t227, .string t228, .int .i64 t229, .int .i64 t230, .int .i64 t231] 24 (0, 0)) (by (with_reducible repeat (first | refine blk_drewN ?_ _ | refine blk_drew ?_ | refine blk_alloc ?_ _)); exact BK233.out) hb)
                have n5_ := Aside0.mk (blk_below (g := gb234) (o := .cells #[.string a5_2, .string a5_3, .string a5_0, .string a5_1, .int .i64 a5_4, .int .i64 a5_7, .int .i64 a5_8, .int .i64 a5_5, .int .i64 a5_6] 37 (0, 0)) (by (with_reducible repeat (first | refine blk_drewN ?_ _ | refine blk_drew ?_ | refine blk_alloc ?_ _)); exact BK234.out) hb)
                have n6_ := Aside0.mk (below_step (by repeat (first | (with_reducible first | exact HB.out | apply below_alloc | apply pw_below_drewN | apply below_drew1 | refine below_set ?_ GE212.out | refine below_set ?_ GE226.out | refine below_set ?_ GE233.out | refine below_set ?_ GE234.out) | exact HB.out)) hb)
                clear HO216
                clear HO219
                clear BK212
                clear BK226
                clear BK233
                clear BK234
                clear HB
                have HO216 := n0_
                have HO219 := n1_
                have BK212 := n2_
                have BK226 := n3_
                have BK233 := n4_
                have BK234 := n5_
                have HB := n6_
                clear n0_ n1_ n2_ n3_ n4_ n5_ n6_
                (try clear hb)
                (try clear hb2)
                (try clear hk)
                (try clear hi)
                refine hK.out _ _ ⟨(blk_cell BK226.out 0).trans rfl, (blk_cell BK226.out 1).trans rfl, (blk_cell BK226.out 2).trans rfl, (blk_cell BK226.out 3).trans rfl, (blk_cell BK226.out 4).trans rfl, (blk_cell BK233.out 0).trans rfl, (blk_cell BK233.out 1).trans rfl, (blk_cell BK233.out 2).trans rfl, (blk_cell BK233.out 3).trans rfl, (blk_cell BK233.out 4).trans rfl, (blk_cell BK212.out 0).trans rfl, (blk_cell BK212.out 1).trans rfl, (blk_cell BK212.out 2).trans rfl, (blk_cell BK212.out 3).trans rfl, (blk_cell BK212.out 4).trans rfl, (blk_cell BK212.out 5).trans rfl, (blk_cell BK212.out 6).trans rfl, (blk_cell BK212.out 7).trans rfl, (blk_cell BK212.out 8).trans rfl, (blk_cell BK234.out 0).trans rfl, (blk_cell BK234.out 1).trans rfl, (blk_cell BK234.out 2).trans rfl, (blk_cell BK234.out 3).trans rfl, (blk_cell BK234.out 4).trans rfl, (blk_cell BK234.out 5).trans rfl, (blk_cell BK234.out 6).trans rfl, (blk_cell BK234.out 7).trans rfl, (blk_cell BK234.out 8).trans rfl⟩ (fun hHeld => ?_)
                clear hK K
                refine norm_ (a' := ?_) ?_ ?_
                rotate_left
                · show Act.put _ (some 125) _ = _
                  simp only [Act.put, List.setIfInBounds_toArray, List.set_cons_zero, List.set_cons_succ, i64_w, i32_w]
                  rfl
                refine one_ (i := 25) (N := some 126) #[true, true, true, true, true, true, true, true, true, true, true, true, true, true, true, true, true, true, true, true, true, true, true, true, true, true, false, false, false] rfl rfl (one_of HT_.out (by kernel_rfl)) (by decide) (fun K hK => ?_)
                refine goes_ Try.func14 (by kernel_rfl) rfl #[.agg #[.string a5_2, .string a5_3, .string a5_0, .string a5_1, .int .i64 a5_4, .int .i64 a5_7, .int .i64 a5_8, .int .i64 a5_5, .int .i64 a5_6], .agg #[.string t247, .string t248, .int .i64 t249, .int .i64 t250, .int .i64 t251]] (by rfl) rfl rfl (by (try simp only [List.map_toArray, List.map_cons, List.map_nil]); first | done | rfl | (simp only [List.length_drop, List.length_take]; rfl)) ?_
                with_reducible refine (pick_Matches.calls kj6 a5_2 a5_3 a5_0 a5_1 a5_4 a5_7 a5_8 a5_5 a5_6 t247 t248 t249 t250 t251 t252 _ A29.out).mono ?_
                rintro e w58 ⟨rfl, hb⟩
                refine ⟨_, rfl, ?_⟩
                have n0_ := Aside0.mk (Kd.R_below (by (with_reducible repeat (first | apply Kd.R_alloc | apply Kd.R_drewN | apply Kd.R_drew)); exact HO216.out) hb)
                have n1_ := Aside0.mk (Kd.R_below (by (with_reducible repeat (first | apply Kd.R_alloc | apply Kd.R_drewN | apply Kd.R_drew)); exact HO219.out) hb)
                have n2_ := Aside0.mk (blk_below (g := gb212) (o := .cells #[.string a5_0, .string a5_1, .string a5_2, .string a5_3, .int .i64 a5_4, .int .i64 a5_5, .int .i64 a5_6, .int .i64 a5_7, .int .i64 a5_8] 37 (0, 0)) (by (with_reducible repeat (first | refine blk_drewN ?_ _ | refine blk_drew ?_ | refine blk_alloc ?_ _)); exact BK212.out) hb)
                have n3_ := Aside0.mk (blk_below (g := gb226) (o := .cells #[.string t220, .string t221, .int .i64 t222, .int .i64 t223, .int .i64 t224] 24 (0, 0)) (by (with_reducible repeat (first | refine blk_drewN ?_ _ | refine blk_drew ?_ | refine blk_alloc ?_ _)); exact BK226.out) hb)
                have n4_ := Aside0.mk (blk_below (g := gb233) (o := .cells #[.string t227, .string t228, .int .i64 t229, .int .i64 t230, .int .i64 t231] 24 (0, 0)) (by (with_reducible repeat (first | refine blk_drewN ?_ _ | refine blk_drew ?_ | refine blk_alloc ?_ _)); exact BK233.out) hb)
                have n5_ := Aside0.mk (blk_below (g := gb234) (o := .cells #[.string a5_2, .string a5_3, .string a5_0, .string a5_1, .int .i64 a5_4, .int .i64 a5_7, .int .i64 a5_8, .int .i64 a5_5, .int .i64 a5_6] 37 (0, 0)) (by (with_reducible repeat (first | refine blk_drewN ?_ _ | refine blk_drew ?_ | refine blk_alloc ?_ _)); exact BK234.out) hb)
                have n6_ := Aside0.mk (below_step (by repeat (first | (with_reducible first | exact HB.out | apply below_alloc | apply pw_below_drewN | apply below_drew1 | refine below_set ?_ GE212.out | refine below_set ?_ GE226.out | refine below_set ?_ GE233.out | refine below_set ?_ GE234.out) | exact HB.out)) hb)
                clear HO216
                clear HO219
                clear BK212
                clear BK226
                clear BK233
                clear BK234
                clear HB
                have HO216 := n0_
                have HO219 := n1_
                have BK212 := n2_
                have BK226 := n3_
                have BK233 := n4_
                have BK234 := n5_
                have HB := n6_
                clear n0_ n1_ n2_ n3_ n4_ n5_ n6_
                (try clear hb)
                (try clear hb2)
                (try clear hk)
                (try clear hi)
                refine hK.out _ _ ⟨(blk_cell BK226.out 0).trans rfl, (blk_cell BK226.out 1).trans rfl, (blk_cell BK226.out 2).trans rfl, (blk_cell BK226.out 3).trans rfl, (blk_cell BK226.out 4).trans rfl, (blk_cell BK233.out 0).trans rfl, (blk_cell BK233.out 1).trans rfl, (blk_cell BK233.out 2).trans rfl, (blk_cell BK233.out 3).trans rfl, (blk_cell BK233.out 4).trans rfl, (blk_cell BK212.out 0).trans rfl, (blk_cell BK212.out 1).trans rfl, (blk_cell BK212.out 2).trans rfl, (blk_cell BK212.out 3).trans rfl, (blk_cell BK212.out 4).trans rfl, (blk_cell BK212.out 5).trans rfl, (blk_cell BK212.out 6).trans rfl, (blk_cell BK212.out 7).trans rfl, (blk_cell BK212.out 8).trans rfl, (blk_cell BK234.out 0).trans rfl, (blk_cell BK234.out 1).trans rfl, (blk_cell BK234.out 2).trans rfl, (blk_cell BK234.out 3).trans rfl, (blk_cell BK234.out 4).trans rfl, (blk_cell BK234.out 5).trans rfl, (blk_cell BK234.out 6).trans rfl, (blk_cell BK234.out 7).trans rfl, (blk_cell BK234.out 8).trans rfl⟩ (fun hHeld => ?_)
                clear hK K
                refine norm_ (a' := ?_) ?_ ?_
                rotate_left
                · show Act.put _ (some 126) _ = _
                  simp only [Act.put, List.setIfInBounds_toArray, List.set_cons_zero, List.set_cons_succ, i64_w, i32_w]
                  rfl
                refine pure_ (i := 26) (N := some 127) (v := ?_) (a' := ?_) #[true, true, true, true, true, true, true, true, true, true, true, true, true, true, true, true, true, true, true, true, true, true, true, true, true, true, true, false, false] rfl rfl (any_of HT_.out (by kernel_rfl)) (fun _ _ _ h => h) (Or.inl ⟨by rfl, ?_⟩) ?_ ?_
                rotate_left
                · intro w'
                  go_simp
                  with_reducible rfl
                rotate_left
                · simp only [Act.put, List.setIfInBounds_toArray, List.set_cons_zero, List.set_cons_succ, i64_w, i32_w]
                  rfl
                refine pure_ (i := 27) (N := some 128) (v := ?_) (a' := ?_) #[true, true, true, true, true, true, true, true, true, true, true, true, true, true, true, true, true, true, true, true, true, true, true, true, true, true, true, true, false] rfl rfl (any_of HT_.out (by kernel_rfl)) (fun _ _ _ h => h) (Or.inl ⟨by rfl, ?_⟩) ?_ ?_
                rotate_left
                · intro w'
                  go_simp
                  with_reducible rfl
                rotate_left
                · simp only [Act.put, List.setIfInBounds_toArray, List.set_cons_zero, List.set_cons_succ, i64_w, i32_w]
                  rfl
                refine pure_ (i := 28) (N := some 12) (v := ?_) (a' := ?_) #[true, true, true, true, true, true, true, true, true, true, true, true, true, true, true, true, true, true, true, true, true, true, true, true, true, true, true, true, true] rfl rfl (any_of HT_.out (by kernel_rfl)) (fun _ _ _ h => h) (Or.inl ⟨by rfl, ?_⟩) ?_ ?_
                rotate_left
                · intro w'
                  go_simp
                  with_reducible rfl
                rotate_left
                · simp only [Act.put, List.setIfInBounds_toArray, List.set_cons_zero, List.set_cons_succ, i64_w, i32_w]
                  rfl
                refine done_ (done_of HT_.out (by kernel_rfl)) ?_
                try go_wp2
                go_ret
                exact ⟨by first | rfl | (simp [errW_none, errW_some] <;> rfl) | (simp [*, errW_none, errW_some] <;> rfl), by repeat (first | (with_reducible first | exact HB.out | apply below_alloc | apply pw_below_drewN | apply below_drew1 | refine below_set ?_ GE212.out | refine below_set ?_ GE226.out | refine below_set ?_ GE233.out | refine below_set ?_ GE234.out) | exact HB.out)⟩
              · rw [if_neg c26] at H
                have c26b0 : (t241.toList == t220.toList && (t242.toList == t221.toList && (t243 == t222 && (t244 == t223 && (t245 == t224))))) = false := by simpa using c26
                (try (have c26b1 : decide (t241.toList = t220.toList && (t242.toList == t221.toList && (t243 == t222 && (t244 == t223 && (t245 == t224))))) = false := by simpa using c26))
                (try (have c26b2 : (t241.toList == t220.toList && (t242.toList == t221.toList && (t243 == t222 && (t244 == t223 && (t245 == t224))))) = false := by simpa using c26))
                (try (have c26b3 : ¬ (t241.toList = t220.toList && (t242.toList == t221.toList && (t243 == t222 && (t244 == t223 && (t245 == t224))))) := by simpa using c26))
                clear c26
                exact absurd (HRT.out.symm.trans (Option.some.inj H).symm) (by decide)
            · rw [if_neg c23] at H
              have c23b0 : (t225 == t232) = false := beq_eq_false_iff_ne.mpr c23
              have c23b1 : (t225 != t232) = true := bne_iff_ne.mpr c23
              exact absurd (HRT.out.symm.trans (Option.some.inj H).symm) (by decide)
          · rw [if_neg c22] at H
            have c22b0 : (t220.toList == t227.toList && (t221.toList == t228.toList && (t222 == t229 && (t223 == t230 && (t224 == t231))))) = false := by simpa using c22
            (try (have c22b1 : decide (t220.toList = t227.toList && (t221.toList == t228.toList && (t222 == t229 && (t223 == t230 && (t224 == t231))))) = false := by simpa using c22))
            (try (have c22b2 : (t220.toList == t227.toList && (t221.toList == t228.toList && (t222 == t229 && (t223 == t230 && (t224 == t231))))) = false := by simpa using c22))
            (try (have c22b3 : ¬ (t220.toList = t227.toList && (t221.toList == t228.toList && (t222 == t229 && (t223 == t230 && (t224 == t231))))) := by simpa using c22))
            clear c22
            exact absurd (HRT.out.symm.trans (Option.some.inj H).symm) (by decide)
        · replace c21 := Bool.eq_false_iff.mpr c21
          subst c21
          have H1 : (some false) = some r := by rw [if_neg (show ¬ (false = true) by decide)] at H; exact H
          clear H
          have H := H1
          clear H1
          exact absurd (HRT.out.symm.trans (Option.some.inj H).symm) (by decide)
end Go.Proofs.Ytcohcbfodmoblaa.QPk
