-- Written by a program of this session (wip/tools/pp.py) out of what the kit's print.py prints over this seat's translation. Not trusted: Lean checks it.
import Derived.Test.YtcohcbfodmoblaaCame
import Derived.Test.YtcohcbfodmoblaaQFlx0
import Derived.Test.YtcohcbfodmoblaaQFlx1
import Derived.Test.YtcohcbfodmoblaaQFlx3
import Derived.Test.YtcohcbfodmoblaaQFlx4
import Derived.Test.YtcohcbfodmoblaaQFlx5
import Derived.Test.YtcohcbfodmoblaaQFlx6
import Derived.Test.YtcohcbfodmoblaaQFlx8
import Derived.Test.YtcohcbfodmoblaaQFlx24
namespace Go.Proofs.Ytcohcbfodmoblaa.QFl
open Go.RowKit Go.Proofs.YtcohcbfodmoblaaW.PrintWords Go.Proofs.YtcohcbfodmoblaaW.PrintLast Go.Proofs.YtcohcbfodmoblaaW.PrintMore
attribute [local go_sem] max2_int min2_int max_two min_two max_three min_three max_four min_four   -- for this text's walks alone
set_option linter.unusedVariables false
set_option linter.unusedSimpArgs false

attribute [local go_sem high] eqA24
/-! ### redoubtlaw15_PickFlows: function 3 -/
def redoubtlaw15_PickFlows.j0 : Nat → ByteArray → ByteArray → Int → List Int → Bool → Bool → ByteArray → ByteArray → Int → Int → Int → Option (Bool)
  | 0, _, _, _, _, _, _, _, _, _, _, _ => none
  | k + 1, x0, x1, x2, x3, x4, x36, x222000, x222001, x222002, x222003, x222004 => if x36 = true then (some true) else ((redoubtref01_Both.f k (([x3] : List (List Int)))).bind fun t225 => ((pick_Of.f k x0 x1 x2 t225 x4).bind fun bt228 => ((redoubtref15_Of.f k x0 x1 x2 x3 x4).bind fun bt235 => ((redoubtlaw15_awake.f k).bind fun t242 => (if t242 = true then (if (strOfNums t225).toList = (strOfNums x3).toList then (if (bt228.1.toList == bt235.1.toList && (bt228.2.1.toList == bt235.2.1.toList && (bt228.2.2.1 == bt235.2.2.1 && (bt228.2.2.2.1 == bt235.2.2.2.1 && (bt228.2.2.2.2.1 == bt235.2.2.2.2.1))))) = true then (if bt228.2.2.2.2.2 = bt235.2.2.2.2.2 then ((pick_Turned.f x222000 x222001 x222002 x222003 x222004).bind fun bt243 => ((redoubtref15_Turned.f x222000 x222001 x222002 x222003 x222004).bind fun bt248 => (some (bt243.1.toList == bt248.1.toList && (bt243.2.1.toList == bt248.2.1.toList && (bt243.2.2.1 == bt248.2.2.1 && (bt243.2.2.2.1 == bt248.2.2.2.1 && (bt243.2.2.2.2 == bt248.2.2.2.2)))))))) else (some false)) else (some false)) else (some false)) else (some false))))))
def redoubtlaw15_PickFlows.f (k : Nat) (a0 : ByteArray) (a1 : ByteArray) (a2 : Int) (l3 : List Int) (a4 : Bool) (a5_0 : ByteArray) (a5_1 : ByteArray) (a5_2 : Int) (a5_3 : Int) (a5_4 : Int) : Option (Bool) := if (wrap64 ((wrap64 ((wrap64 ((a0.size : Int) + (a1.size : Int))) + (a5_0.size : Int))) + (a5_1.size : Int))) > 600 then (redoubtlaw15_PickFlows.j0 k a0 a1 a2 l3 a4 true a5_0 a5_1 a5_2 a5_3 a5_4) else (redoubtlaw15_PickFlows.j0 k a0 a1 a2 l3 a4 (decide ((l3.length : Int) > 1000)) a5_0 a5_1 a5_2 a5_3 a5_4)
theorem redoubtlaw15_PickFlows.mono_l : ∀ k, (∀ y0 y1 y2 y3 y4 y5 y6 y7 y8 y9 y10, LeO (redoubtlaw15_PickFlows.j0 k y0 y1 y2 y3 y4 y5 y6 y7 y8 y9 y10) (redoubtlaw15_PickFlows.j0 (k + 1) y0 y1 y2 y3 y4 y5 y6 y7 y8 y9 y10))
  | 0 => fun _ _ _ _ _ _ _ _ _ _ _ r h => by simp [redoubtlaw15_PickFlows.j0] at h
  | k + 1 => by
    have ih0 := redoubtlaw15_PickFlows.mono_l k
    · intro y0 y1 y2 y3 y4 y5 y6 y7 y8 y9 y10
      unfold redoubtlaw15_PickFlows.j0
      repeat' first
      | (with_reducible exact ih0 _ _ _ _ _ _ _ _ _ _ _)
      | (with_reducible exact pick_Of.mono _ _ _ _ _ _)
      | (with_reducible exact redoubtlaw15_awake.mono _)
      | (with_reducible exact redoubtref01_Both.mono _ _)
      | (with_reducible exact redoubtref15_Of.mono _ _ _ _ _ _)
      | (with_reducible exact LeO.refl _)
      | (with_reducible exact LeO.none _)
      | (with_reducible refine LeO.ite ?_ ?_)
      | (with_reducible refine LeO.bind ?_ (fun _ => ?_))
      | exact ih0 _ _ _ _ _ _ _ _ _ _ _
      | exact pick_Of.mono _ _ _ _ _ _
      | exact redoubtlaw15_awake.mono _
      | exact redoubtref01_Both.mono _ _
      | exact redoubtref15_Of.mono _ _ _ _ _ _
      | exact LeO.none _
      | refine LeO.ite ?_ ?_
      | refine LeO.bind ?_ (fun _ => ?_)
theorem redoubtlaw15_PickFlows.mono : ∀ a0 a1 a2 a3 a4 a5 a6 a7 a8 a9 k, LeO (redoubtlaw15_PickFlows.f k a0 a1 a2 a3 a4 a5 a6 a7 a8 a9) (redoubtlaw15_PickFlows.f (k + 1) a0 a1 a2 a3 a4 a5 a6 a7 a8 a9) := by
  intro a0 a1 a2 a3 a4 a5 a6 a7 a8 a9 k
  have ih0 := redoubtlaw15_PickFlows.mono_l k
  unfold redoubtlaw15_PickFlows.f
  repeat' first
      | (with_reducible exact ih0 _ _ _ _ _ _ _ _ _ _ _)
      | (with_reducible exact pick_Of.mono _ _ _ _ _ _)
      | (with_reducible exact redoubtlaw15_awake.mono _)
      | (with_reducible exact redoubtref01_Both.mono _ _)
      | (with_reducible exact redoubtref15_Of.mono _ _ _ _ _ _)
      | (with_reducible exact LeO.refl _)
      | (with_reducible exact LeO.none _)
      | (with_reducible refine LeO.ite ?_ ?_)
      | (with_reducible refine LeO.bind ?_ (fun _ => ?_))
      | exact ih0 _ _ _ _ _ _ _ _ _ _ _
      | exact pick_Of.mono _ _ _ _ _ _
      | exact redoubtlaw15_awake.mono _
      | exact redoubtref01_Both.mono _ _
      | exact redoubtref15_Of.mono _ _ _ _ _ _
      | exact LeO.none _
      | refine LeO.ite ?_ ?_
      | refine LeO.bind ?_ (fun _ => ?_)
def redoubtlaw15_PickFlows.T6 : Bool × List (List Nat × List Nat) := (true, [([], []), ([0, 0], [0]), ([1], [1]), ([2, 1], [1, 2]), ([1], [1]), ([4, 1], [1, 4]), ([3, 5, 1], [1, 3, 5]), ([1, 6], [1, 6]), ([7, 1], [7]), ([8], [8]), ([8], [8]), ([9, 10, 8], [8, 9, 10]), ([8, 11], [8, 11]), ([12, 8], [12]), ([13], [13]), ([13], [13]), ([14, 15, 13], [13, 14, 15]), ([13, 16], [13, 16]), ([17, 13], [17]), ([18], [18]), ([19, 18, 18], [18, 19]), ([18], [18]), ([21, 20, 18], [18, 21]), ([20, 22, 18], [18, 20, 22]), ([18, 23], [18, 23]), ([24, 22, 0, 1, 2, 3, 4, 5, 6, 7, 8, 9, 10, 11, 12, 13, 14, 15, 16, 17, 18, 19, 20, 21, 22, 23, 24], [24])])
def redoubtlaw15_PickFlows.B6 : List Nat := [0, 1, 3, 7, 3, 19, 63, 127, 255, 511, 511, 2047, 4095, 8191, 16383, 16383, 65535, 131071, 262143, 524287, 1048575, 524287, 4194303, 8388607, 16777215, 33554431]
theorem redoubtlaw15_PickFlows.tab6 : rtab .any (opsOf Try.f3 6) = redoubtlaw15_PickFlows.T6 := by kernel_rfl
theorem redoubtlaw15_PickFlows.bits6 : waitsOk redoubtlaw15_PickFlows.T6.2 redoubtlaw15_PickFlows.B6 = true := by kernel_rfl
set_option maxHeartbeats 8000000 in
set_option maxRecDepth 100000 in
theorem redoubtlaw15_PickFlows.calls (k : Nat) (a0 : ByteArray) (a1 : ByteArray) (a2 : Int) (P3_ : Nat → Prop) (A3 : Option Addr) (c3 : Nat) (l3 : List Int) (a4 : Bool) (a5_0 : ByteArray) (a5_1 : ByteArray) (a5_2 : Int) (a5_3 : Int) (a5_4 : Int) (r : Bool) (w : World) (hs3 : Kd.V (Kd.int .u8) 5 w w.heap.size (fun k_ => P3_ k_) (.slice A3 l3.length c3) l3) (h : redoubtlaw15_PickFlows.f k a0 a1 a2 l3 a4 a5_0 a5_1 a5_2 a5_3 a5_4 = some r) (hr_ : r = true) :
    Calls Try.prog 3 #[.string a0, .string a1, .int .i64 a2, .slice A3 l3.length c3, .bool a4, .agg #[.string a5_0, .string a5_1, .int .i64 a5_2, .int .i64 a5_3, .int .i64 a5_4]] w fun e w' => e = .returned (.bool r) ∧ Below w.heap.size w w' := by
  have HRT := Aside0.mk hr_
  clear hr_
  have hu24 := Try.underlying24
  have HO3 := Aside0.mk (show Kd.V (Kd.int .u8) 5 w w.heap.size (fun k_ => (P3_ k_ ∨ w.heap.size ≤ k_)) (.slice A3 l3.length c3) l3 from Kd.V_mono hs3 (fun k_ hk => .inl hk))
  have HB := Aside0.mk (Below.refl w.heap.size w)
  have H : (if (wrap64 ((wrap64 ((wrap64 ((a0.size : Int) + (a1.size : Int))) + (a5_0.size : Int))) + (a5_1.size : Int))) > 600 then (redoubtlaw15_PickFlows.j0 k a0 a1 a2 l3 a4 true a5_0 a5_1 a5_2 a5_3 a5_4) else (redoubtlaw15_PickFlows.j0 k a0 a1 a2 l3 a4 (decide ((l3.length : Int) > 1000)) a5_0 a5_1 a5_2 a5_3 a5_4)) = some r := h
  clear h
  have HC7 := Aside0.mk H
  clear H
  go_enter Try.func3, Try.ntmps3
  go_upto_region 1 with (first | ((with_reducible refine gate_dst (N := 11) rfl ?_); (try (refine gate_guard (by rfl) ?_; dsimp only)); refine box_event ?hg (N := 11) ?hd (cs := #[.string a5_0, .string a5_1, .int .i64 a5_2, .int .i64 a5_3, .int .i64 a5_4]) (t := 24) ?hr ?_; (case hd => rfl); (case hg => rfl); (case hr => first | (go_simp; done) | (go_simp; rfl)); intro gb221 hg w8 hbox hb; have n0_ := Aside0.mk (Kd.V_below (Kd.V_elderB (by (with_reducible repeat (first | apply Kd.V_alloc | apply Kd.V_drewN | apply Kd.V_drew)); exact HO3.out) gb221 (Nat.le_of_eq hg.symm)) hb); have n1_ := Aside0.mk (below_step (by repeat (first | (with_reducible first | exact HB.out | apply below_alloc | apply pw_below_drewN | apply below_drew1) | exact HB.out)) hb); have n2_ := Aside0.mk (hbox); have n3_ := Aside0.mk ((by rw [hg]; exact (below_size (by repeat (first | (with_reducible first | exact HB.out | apply below_alloc | apply pw_below_drewN | apply below_drew1) | exact HB.out))) : w.heap.size ≤ gb221)); have n4_ := Aside0.mk ((by rw [hg]; exact (below_size (by repeat (first | (with_reducible first | exact HB.out | apply below_alloc | apply pw_below_drewN | apply below_drew1) | exact HB.out))) : w.heap.size ≤ gb221)); clear HO3; clear HB; have HO3 := n0_; have HB := n1_; have BK221 := n2_; have GW221 := n3_; have GE221 := n4_; clear n0_ n1_ n2_ n3_ n4_; clear hb hbox hg))
  (try simp only [Act.put, List.setIfInBounds_toArray, List.set_cons_zero, List.set_cons_succ])
  go_cut [36] (fun v36 wc => ∃ (kq : Nat) (x36_6 : Bool), v36 = .bool x36_6 ∧ Aside0 (redoubtlaw15_PickFlows.j0 kq a0 a1 a2 l3 a4 x36_6 a5_0 a5_1 a5_2 a5_3 a5_4 = some r) ∧ Aside0 (kq ≤ k) ∧ Aside0 (Kd.V (Kd.int .u8) 5 wc w.heap.size (fun k_ => (P3_ k_ ∨ w.heap.size ≤ k_) ∧ k_ ≠ gb221) (.slice A3 l3.length c3) l3) ∧ Aside0 (wc.heap[gb221]? = some (.cells #[.string a5_0, .string a5_1, .int .i64 a5_2, .int .i64 a5_3, .int .i64 a5_4] 24 (0, 0))) ∧ Aside0 (Below w.heap.size w wc))
  case first =>
    have H := HC7.out
    clear HC7
    by_cases c9 : (wrap64 ((wrap64 ((wrap64 ((a0.size : Int) + (a1.size : Int))) + (a5_0.size : Int))) + (a5_1.size : Int))) > 600
    · rw [if_pos c9] at H
      have c9b0 : decide (600 < (wrap64 ((wrap64 ((wrap64 ((a0.size : Int) + (a1.size : Int))) + (a5_0.size : Int))) + (a5_1.size : Int)))) = true := decide_eq_true c9
      clear c9
      (first | rw [c9b0] | (simp only [i64_w, i32_w]; rw [c9b0]) | skip)
      have H' := Aside0.mk H
      clear H
      have hcz10_0 : w8.cell? ⟨gb221, 0, none⟩ = some (.string a5_0) := (blk_cell BK221.out 0).trans rfl
      have hcz10_1 : w8.cell? ⟨gb221, 1, none⟩ = some (.string a5_1) := (blk_cell BK221.out 1).trans rfl
      have hcz10_2 : w8.cell? ⟨gb221, 2, none⟩ = some (.int .i64 a5_2) := (blk_cell BK221.out 2).trans rfl
      have hcz10_3 : w8.cell? ⟨gb221, 3, none⟩ = some (.int .i64 a5_3) := (blk_cell BK221.out 3).trans rfl
      have hcz10_4 : w8.cell? ⟨gb221, 4, none⟩ = some (.int .i64 a5_4) := (blk_cell BK221.out 4).trans rfl
      have hfz10_0 := blk_frozen BK221.out 0
      have hfz10_1 := blk_frozen BK221.out 1
      have hfz10_2 := blk_frozen BK221.out 2
      have hfz10_3 := blk_frozen BK221.out 3
      have hfz10_4 := blk_frozen BK221.out 4
      go_wp2
      go_meet
      case rel => exact ⟨_, (true), (by first | rfl | (simp; done) | (simp [*]; done)), H', ⟨by first | omega | exact Nat.le_refl _⟩, ⟨by (with_reducible repeat (first | apply Kd.V_alloc | apply Kd.V_drewN | apply Kd.V_drew)); exact HO3.out⟩, ⟨by (with_reducible repeat (first | refine blk_drewN ?_ _ | refine blk_drew ?_ | refine blk_alloc ?_ _)); exact BK221.out⟩, ⟨by repeat (first | (with_reducible first | exact HB.out | apply below_alloc | apply pw_below_drewN | apply below_drew1 | refine below_set ?_ GE221.out) | exact HB.out)⟩⟩
    · rw [if_neg c9] at H
      have c9b0 : decide (600 < (wrap64 ((wrap64 ((wrap64 ((a0.size : Int) + (a1.size : Int))) + (a5_0.size : Int))) + (a5_1.size : Int)))) = false := decide_eq_false c9
      clear c9
      (first | rw [c9b0] | (simp only [i64_w, i32_w]; rw [c9b0]) | skip)
      have H' := Aside0.mk H
      clear H
      have hcz11_0 : w8.cell? ⟨gb221, 0, none⟩ = some (.string a5_0) := (blk_cell BK221.out 0).trans rfl
      have hcz11_1 : w8.cell? ⟨gb221, 1, none⟩ = some (.string a5_1) := (blk_cell BK221.out 1).trans rfl
      have hcz11_2 : w8.cell? ⟨gb221, 2, none⟩ = some (.int .i64 a5_2) := (blk_cell BK221.out 2).trans rfl
      have hcz11_3 : w8.cell? ⟨gb221, 3, none⟩ = some (.int .i64 a5_3) := (blk_cell BK221.out 3).trans rfl
      have hcz11_4 : w8.cell? ⟨gb221, 4, none⟩ = some (.int .i64 a5_4) := (blk_cell BK221.out 4).trans rfl
      have hfz11_0 := blk_frozen BK221.out 0
      have hfz11_1 := blk_frozen BK221.out 1
      have hfz11_2 := blk_frozen BK221.out 2
      have hfz11_3 := blk_frozen BK221.out 3
      have hfz11_4 := blk_frozen BK221.out 4
      go_wp2
      go_meet
      case rel => exact ⟨_, (decide ((l3.length : Int) > 1000)), (by first | rfl | (simp; done) | (simp [*]; done)), H', ⟨by first | omega | exact Nat.le_refl _⟩, ⟨by (with_reducible repeat (first | apply Kd.V_alloc | apply Kd.V_drewN | apply Kd.V_drew)); exact HO3.out⟩, ⟨by (with_reducible repeat (first | refine blk_drewN ?_ _ | refine blk_drew ?_ | refine blk_alloc ?_ _)); exact BK221.out⟩, ⟨by repeat (first | (with_reducible first | exact HB.out | apply below_alloc | apply pw_below_drewN | apply below_drew1 | refine below_set ?_ GE221.out) | exact HB.out)⟩⟩
  case rest =>
    clear HC7
    try clear p2
    try clear c3
    try clear p6
    try clear c9
    try clear c9b0
    try clear hcz10_0
    try clear hcz10_1
    try clear hcz10_2
    try clear hcz10_3
    try clear hcz10_4
    try clear hcz11_0
    try clear hcz11_1
    try clear hcz11_2
    try clear hcz11_3
    try clear hcz11_4
    try clear hfz10_0
    try clear hfz10_1
    try clear hfz10_2
    try clear hfz10_3
    try clear hfz10_4
    try clear hfz11_0
    try clear hfz11_1
    try clear hfz11_2
    try clear hfz11_3
    try clear hfz11_4
    obtain ⟨kq, x36_6, rfl, HA, HJ6, HO_3, BK221, HB⟩ := hcut
    cases kq with
    | zero => exact absurd HA.out (by simp [redoubtlaw15_PickFlows.j0])
    | succ kj6 =>
      have H := HA.out
      clear HA
      simp only [redoubtlaw15_PickFlows.j0] at H
      by_cases c12 : x36_6 = true
      · subst c12
        have H1 : (some true) = some r := by rw [if_pos rfl] at H; exact H
        clear H
        have H := H1
        clear H1
        obtain rfl := Option.some.inj H
        go_wp2
        go_ret
        exact ⟨by first | rfl | (simp [errW_none, errW_some] <;> rfl) | (simp [*, errW_none, errW_some] <;> rfl), by repeat (first | (with_reducible first | exact HB.out | apply below_alloc | apply pw_below_drewN | apply below_drew1 | refine below_set ?_ GE221.out) | exact HB.out)⟩
      · replace c12 := Bool.eq_false_iff.mpr c12
        subst c12
        have H1 : ((redoubtref01_Both.f kj6 (([l3] : List (List Int)))).bind fun t225 => ((pick_Of.f kj6 a0 a1 a2 t225 a4).bind fun bt228 => ((redoubtref15_Of.f kj6 a0 a1 a2 l3 a4).bind fun bt235 => ((redoubtlaw15_awake.f kj6).bind fun t242 => (if t242 = true then (if (strOfNums t225).toList = (strOfNums l3).toList then (if (bt228.1.toList == bt235.1.toList && (bt228.2.1.toList == bt235.2.1.toList && (bt228.2.2.1 == bt235.2.2.1 && (bt228.2.2.2.1 == bt235.2.2.2.1 && (bt228.2.2.2.2.1 == bt235.2.2.2.2.1))))) = true then (if bt228.2.2.2.2.2 = bt235.2.2.2.2.2 then ((pick_Turned.f a5_0 a5_1 a5_2 a5_3 a5_4).bind fun bt243 => ((redoubtref15_Turned.f a5_0 a5_1 a5_2 a5_3 a5_4).bind fun bt248 => (some (bt243.1.toList == bt248.1.toList && (bt243.2.1.toList == bt248.2.1.toList && (bt243.2.2.1 == bt248.2.2.1 && (bt243.2.2.2.1 == bt248.2.2.2.1 && (bt243.2.2.2.2 == bt248.2.2.2.2)))))))) else (some false)) else (some false)) else (some false)) else (some false)))))) = some r := by rw [if_neg (show ¬ (false = true) by decide)] at H; exact H
        clear H
        have H := H1
        clear H1
        obtain ⟨y222, hy222⟩ : ∃ y_ : List (List Int), y_ = (([l3] : List (List Int))) := ⟨_, rfl⟩
        replace H : ((redoubtref01_Both.f kj6 y222).bind fun t225 => ((pick_Of.f kj6 a0 a1 a2 t225 a4).bind fun bt228 => ((redoubtref15_Of.f kj6 a0 a1 a2 l3 a4).bind fun bt235 => ((redoubtlaw15_awake.f kj6).bind fun t242 => (if t242 = true then (if (strOfNums t225).toList = (strOfNums l3).toList then (if (bt228.1.toList == bt235.1.toList && (bt228.2.1.toList == bt235.2.1.toList && (bt228.2.2.1 == bt235.2.2.1 && (bt228.2.2.2.1 == bt235.2.2.2.1 && (bt228.2.2.2.2.1 == bt235.2.2.2.2.1))))) = true then (if bt228.2.2.2.2.2 = bt235.2.2.2.2.2 then ((pick_Turned.f a5_0 a5_1 a5_2 a5_3 a5_4).bind fun bt243 => ((redoubtref15_Turned.f a5_0 a5_1 a5_2 a5_3 a5_4).bind fun bt248 => (some (bt243.1.toList == bt248.1.toList && (bt243.2.1.toList == bt248.2.1.toList && (bt243.2.2.1 == bt248.2.2.1 && (bt243.2.2.2.1 == bt248.2.2.2.1 && (bt243.2.2.2.2 == bt248.2.2.2.2)))))))) else (some false)) else (some false)) else (some false)) else (some false)))))) = some r := by first | (rw [hy222]; with_reducible exact H) | (have H2_ := (Option.bind_some _ _).symm.trans H; rw [hy222]; with_reducible exact H2_) | (have H2_ := (Option.bind_some _ _).symm.trans H; with_reducible exact H2_) | with_reducible exact H | (rw [hy222]; exact H) | exact H
        have Ny222 := Aside0.mk hy222
        clear hy222
        replace H := Option.bind_eq_some_iff.mp H
        obtain ⟨t225, A130, H⟩ := H
        replace H : ((pick_Of.f kj6 a0 a1 a2 t225 a4).bind fun bt228 => ((redoubtref15_Of.f kj6 a0 a1 a2 l3 a4).bind fun bt235 => ((redoubtlaw15_awake.f kj6).bind fun t242 => (if t242 = true then (if (strOfNums t225).toList = (strOfNums l3).toList then (if (bt228.1.toList == bt235.1.toList && (bt228.2.1.toList == bt235.2.1.toList && (bt228.2.2.1 == bt235.2.2.1 && (bt228.2.2.2.1 == bt235.2.2.2.1 && (bt228.2.2.2.2.1 == bt235.2.2.2.2.1))))) = true then (if bt228.2.2.2.2.2 = bt235.2.2.2.2.2 then ((pick_Turned.f a5_0 a5_1 a5_2 a5_3 a5_4).bind fun bt243 => ((redoubtref15_Turned.f a5_0 a5_1 a5_2 a5_3 a5_4).bind fun bt248 => (some (bt243.1.toList == bt248.1.toList && (bt243.2.1.toList == bt248.2.1.toList && (bt243.2.2.1 == bt248.2.2.1 && (bt243.2.2.2.1 == bt248.2.2.2.1 && (bt243.2.2.2.2 == bt248.2.2.2.2)))))))) else (some false)) else (some false)) else (some false)) else (some false))))) = some r := H
        have A13 := Aside0.mk A130
        clear A130
        replace H := Option.bind_eq_some_iff.mp H
        obtain ⟨⟨t228, t229, t230, t231, t232, t233⟩, A140, H⟩ := H
        replace H : ((redoubtref15_Of.f kj6 a0 a1 a2 l3 a4).bind fun bt235 => ((redoubtlaw15_awake.f kj6).bind fun t242 => (if t242 = true then (if (strOfNums t225).toList = (strOfNums l3).toList then (if (t228.toList == bt235.1.toList && (t229.toList == bt235.2.1.toList && (t230 == bt235.2.2.1 && (t231 == bt235.2.2.2.1 && (t232 == bt235.2.2.2.2.1))))) = true then (if t233 = bt235.2.2.2.2.2 then ((pick_Turned.f a5_0 a5_1 a5_2 a5_3 a5_4).bind fun bt243 => ((redoubtref15_Turned.f a5_0 a5_1 a5_2 a5_3 a5_4).bind fun bt248 => (some (bt243.1.toList == bt248.1.toList && (bt243.2.1.toList == bt248.2.1.toList && (bt243.2.2.1 == bt248.2.2.1 && (bt243.2.2.2.1 == bt248.2.2.2.1 && (bt243.2.2.2.2 == bt248.2.2.2.2)))))))) else (some false)) else (some false)) else (some false)) else (some false)))) = some r := H
        have A14 := Aside0.mk A140
        clear A140
        replace H := Option.bind_eq_some_iff.mp H
        obtain ⟨⟨t235, t236, t237, t238, t239, t240⟩, A150, H⟩ := H
        replace H : ((redoubtlaw15_awake.f kj6).bind fun t242 => (if t242 = true then (if (strOfNums t225).toList = (strOfNums l3).toList then (if (t228.toList == t235.toList && (t229.toList == t236.toList && (t230 == t237 && (t231 == t238 && (t232 == t239))))) = true then (if t233 = t240 then ((pick_Turned.f a5_0 a5_1 a5_2 a5_3 a5_4).bind fun bt243 => ((redoubtref15_Turned.f a5_0 a5_1 a5_2 a5_3 a5_4).bind fun bt248 => (some (bt243.1.toList == bt248.1.toList && (bt243.2.1.toList == bt248.2.1.toList && (bt243.2.2.1 == bt248.2.2.1 && (bt243.2.2.2.1 == bt248.2.2.2.1 && (bt243.2.2.2.2 == bt248.2.2.2.2)))))))) else (some false)) else (some false)) else (some false)) else (some false))) = some r := H
        have A15 := Aside0.mk A150
        clear A150
        replace H := Option.bind_eq_some_iff.mp H
        obtain ⟨t242, A160, H⟩ := H
        replace H : (if t242 = true then (if (strOfNums t225).toList = (strOfNums l3).toList then (if (t228.toList == t235.toList && (t229.toList == t236.toList && (t230 == t237 && (t231 == t238 && (t232 == t239))))) = true then (if t233 = t240 then ((pick_Turned.f a5_0 a5_1 a5_2 a5_3 a5_4).bind fun bt243 => ((redoubtref15_Turned.f a5_0 a5_1 a5_2 a5_3 a5_4).bind fun bt248 => (some (bt243.1.toList == bt248.1.toList && (bt243.2.1.toList == bt248.2.1.toList && (bt243.2.2.1 == bt248.2.2.1 && (bt243.2.2.2.1 == bt248.2.2.2.1 && (bt243.2.2.2.2 == bt248.2.2.2.2)))))))) else (some false)) else (some false)) else (some false)) else (some false)) = some r := H
        have A16 := Aside0.mk A160
        clear A160
        by_cases c17 : t242 = true
        · subst c17
          have H1 : (if (strOfNums t225).toList = (strOfNums l3).toList then (if (t228.toList == t235.toList && (t229.toList == t236.toList && (t230 == t237 && (t231 == t238 && (t232 == t239))))) = true then (if t233 = t240 then ((pick_Turned.f a5_0 a5_1 a5_2 a5_3 a5_4).bind fun bt243 => ((redoubtref15_Turned.f a5_0 a5_1 a5_2 a5_3 a5_4).bind fun bt248 => (some (bt243.1.toList == bt248.1.toList && (bt243.2.1.toList == bt248.2.1.toList && (bt243.2.2.1 == bt248.2.2.1 && (bt243.2.2.2.1 == bt248.2.2.2.1 && (bt243.2.2.2.2 == bt248.2.2.2.2)))))))) else (some false)) else (some false)) else (some false)) = some r := by rw [if_pos rfl] at H; exact H
          clear H
          have H := H1
          clear H1
          by_cases c18 : (strOfNums t225).toList = (strOfNums l3).toList
          · rw [if_pos c18] at H
            have c18b0 : ((strOfNums t225).toList == (strOfNums l3).toList) = true := beq_iff_eq.mpr c18
            have c18b1 : ((strOfNums t225).toList != (strOfNums l3).toList) = false := bne_eq_false_iff_eq.mpr c18
            clear c18
            by_cases c19 : (t228.toList == t235.toList && (t229.toList == t236.toList && (t230 == t237 && (t231 == t238 && (t232 == t239))))) = true
            · rw [if_pos c19] at H
              have c19b0 : (t228.toList == t235.toList && (t229.toList == t236.toList && (t230 == t237 && (t231 == t238 && (t232 == t239))))) = true := c19
              (try (have c19b1 : decide (t228.toList = t235.toList && (t229.toList == t236.toList && (t230 == t237 && (t231 == t238 && (t232 == t239))))) = true := by simpa using c19))
              (try (have c19b2 : (t228.toList == t235.toList && (t229.toList == t236.toList && (t230 == t237 && (t231 == t238 && (t232 == t239))))) = true := by simpa using c19))
              clear c19
              by_cases c20 : t233 = t240
              · rw [if_pos c20] at H
                have c20b0 : (t233 == t240) = true := beq_iff_eq.mpr c20
                have c20b1 : (t233 != t240) = false := bne_eq_false_iff_eq.mpr c20
                clear c20
                replace H := Option.bind_eq_some_iff.mp H
                obtain ⟨⟨t243, t244, t245, t246, t247⟩, A210, H⟩ := H
                replace H : ((redoubtref15_Turned.f a5_0 a5_1 a5_2 a5_3 a5_4).bind fun bt248 => (some (t243.toList == bt248.1.toList && (t244.toList == bt248.2.1.toList && (t245 == bt248.2.2.1 && (t246 == bt248.2.2.2.1 && (t247 == bt248.2.2.2.2))))))) = some r := H
                have A21 := Aside0.mk A210
                clear A210
                replace H := Option.bind_eq_some_iff.mp H
                obtain ⟨⟨t248, t249, t250, t251, t252⟩, A220, H⟩ := H
                replace H : (some (t243.toList == t248.toList && (t244.toList == t249.toList && (t245 == t250 && (t246 == t251 && (t247 == t252)))))) = some r := H
                have A22 := Aside0.mk A220
                clear A220
                obtain rfl := Option.some.inj H
                try go_wp2_with (first | ((with_reducible refine gate_dst (N := 38) rfl ?_); (try (refine gate_guard (by rfl) ?_; dsimp only)); refine Kd.N_lit (Kd.slice 5 (Kd.int .u8)) _ 22 ?hg (N' := 38) ?hd (xs := ([l3] : List (List Int))) (inner := [.slice A3 l3.length c3]) (ok := (fun k_ => (P3_ k_ ∨ w.heap.size ≤ k_) ∧ k_ ≠ gb221)) (okp := (fun k_ => (P3_ k_ ∨ w.heap.size ≤ k_) ∧ k_ ≠ gb221)) ?hr ?hp (fun _ hk => hk) ((show ∀ k_, wc.heap.size ≤ k_ → (fun k_ => (P3_ k_ ∨ w.heap.size ≤ k_) ∧ k_ ≠ gb221) k_ from fun k_ hk => ⟨(.inr (Nat.le_trans (below_size (by repeat (first | (with_reducible first | exact HB.out | apply below_alloc | apply pw_below_drewN | apply below_drew1 | refine below_set ?_ GE221.out) | exact HB.out))) hk)), Kd.freshB (g := gb221) (o := .cells #[.string a5_0, .string a5_1, .int .i64 a5_2, .int .i64 a5_3, .int .i64 a5_4] 24 (0, 0)) (by (with_reducible repeat (first | refine blk_drewN ?_ _ | refine blk_drew ?_ | refine blk_alloc ?_ _)); exact BK221.out) k_ hk⟩) _ (Nat.le_refl _)) (Below.refl _ _) (Nat.le_refl _) (by simp) ?_; (case hd => rfl); (case hg => rfl); (case hr => first | (go_simp; done) | (go_simp; rfl)); (case hp => exact (Reps.one (show Kd.FK (Kd.slice 5 (Kd.int .u8)) _ _ l3 [.slice A3 l3.length c3] from (Kd.FK_slice_mk (Kd.V_reads' (Kd.V_mono (ok' := (fun k_ => (P3_ k_ ∨ w.heap.size ≤ k_) ∧ k_ ≠ gb221)) (HO_3.out) (fun k_ hk => ⟨hk.1, hk.2⟩))).2.1 (Kd.V_F (Kd.V_mono (ok' := (fun k_ => (P3_ k_ ∨ w.heap.size ≤ k_) ∧ k_ ≠ gb221)) (HO_3.out) (fun k_ hk => ⟨hk.1, hk.2⟩))))) (Reps.none _ _))); intro v223 w23 ho24 hb hg_ hnew_; clear hg_ hnew_; (first | rw [← Ny222.out] at ho24 | (simp only [Int.reduceToNat] at ho24; rw [← Ny222.out] at ho24)); have n0_ := Aside0.mk (Kd.V_elder' (by (with_reducible repeat (first | apply Kd.V_alloc | apply Kd.V_drewN | apply Kd.V_drew)); exact HO_3.out) (Kd.N_base ho24) hb); have n1_ := Aside0.mk (Kd.N_lower ho24 (below_size (by repeat (first | (with_reducible first | exact HB.out | apply below_alloc | apply pw_below_drewN | apply below_drew1 | refine below_set ?_ GE221.out) | exact HB.out)))); have n2_ := Aside0.mk (blk_below (g := gb221) (o := .cells #[.string a5_0, .string a5_1, .int .i64 a5_2, .int .i64 a5_3, .int .i64 a5_4] 24 (0, 0)) (by (with_reducible repeat (first | refine blk_drewN ?_ _ | refine blk_drew ?_ | refine blk_alloc ?_ _)); exact BK221.out) hb); have n3_ := Aside0.mk (below_step (by repeat (first | (with_reducible first | exact HB.out | apply below_alloc | apply pw_below_drewN | apply below_drew1 | refine below_set ?_ GE221.out) | exact HB.out)) hb); clear HO_3; clear BK221; clear HB; have HO_3 := n0_; have HO224 := n1_; have BK221 := n2_; have HB := n3_; clear n0_ n1_ n2_ n3_; clear hb ho24; obtain ⟨Ao25, co25, eo25⟩ := Kd.N_slice HO224.out; subst eo25) | ((with_reducible refine gate_callee (f := 7) rfl ?_); refine goesL_ (some 39) rfl rfl Try.func7 (by kernel_rfl) rfl #[.slice Ao25 y222.length co25] rfl (by (try simp only [List.map_toArray, List.map_cons, List.map_nil]); first | done | rfl | (simp only [List.length_drop, List.length_take]; rfl)) ?_; (with_reducible refine (redoubtref01_Both.calls kj6 _ _ y222 t225 _ ?side1 ?side2 A13.out).mono ?_); (case side1 => repeat (first | exact (Kd.N_reads' HO224.out).2.2 | (with_reducible refine Kd.C_alloc ?_ _) | (with_reducible refine Kd.C_drewN ?_ _) | (with_reducible refine Kd.C_drew ?_))); (case side2 => exact (Kd.N_reads' HO224.out).2.1); rintro e w26 ⟨v226, rfl, ho0, hb⟩; refine ⟨_, rfl, ?_⟩; have n0_ := Aside0.mk (Kd.V_elder' (by (with_reducible repeat (first | apply Kd.V_alloc | apply Kd.V_drewN | apply Kd.V_drew)); exact HO_3.out) (Kd.R_base ho0) hb); have n1_ := Aside0.mk (Kd.N_elder' (by (with_reducible repeat (first | apply Kd.N_alloc | apply Kd.N_drewN | apply Kd.N_drew)); exact HO224.out) (Kd.R_base ho0) hb); have n2_ := Aside0.mk (Kd.R_lower (Kd.R_newM (M := fun k_ => (w.heap.size ≤ k_)) ho0 (below_size (by repeat (first | (with_reducible first | exact HB.out | apply below_alloc | apply pw_below_drewN | apply below_drew1 | refine below_set ?_ GE221.out) | exact HB.out))) (fun k_ h_ => h_)) (below_size (by repeat (first | (with_reducible first | exact HB.out | apply below_alloc | apply pw_below_drewN | apply below_drew1 | refine below_set ?_ GE221.out) | exact HB.out)))); have n3_ := Aside0.mk (blk_below (g := gb221) (o := .cells #[.string a5_0, .string a5_1, .int .i64 a5_2, .int .i64 a5_3, .int .i64 a5_4] 24 (0, 0)) (by (with_reducible repeat (first | refine blk_drewN ?_ _ | refine blk_drew ?_ | refine blk_alloc ?_ _)); exact BK221.out) hb); have n4_ := Aside0.mk (below_step (by repeat (first | (with_reducible first | exact HB.out | apply below_alloc | apply pw_below_drewN | apply below_drew1 | refine below_set ?_ GE221.out) | exact HB.out)) hb); clear HO_3; clear HO224; clear BK221; clear HB; have HO_3 := n0_; have HO224 := n1_; have HO227 := n2_; have BK221 := n3_; have HB := n4_; clear n0_ n1_ n2_ n3_ n4_; (try clear hb); (try clear hb2); (try clear hk); (try clear hi); (try clear ho0); obtain ⟨Ao27, co27, eo27⟩ := Kd.R_slice HO227.out; subst eo27) | ((with_reducible refine gate_callee (f := 8) rfl ?_); refine goesL_ (some 46) rfl rfl Try.func8 (by kernel_rfl) rfl #[.string a0, .string a1, .int .i64 a2, .slice Ao27 t225.length co27, .bool a4] rfl (by (try simp only [List.map_toArray, List.map_cons, List.map_nil]); first | done | rfl | (simp only [List.length_drop, List.length_take]; rfl)) ?_; (with_reducible refine (pick_Of.calls kj6 a0 a1 a2 _ _ t225 a4 t228 t229 t230 t231 t232 t233 _ ?side1 ?side2 A14.out).mono ?_); (case side1 => repeat (first | exact (Kd.R_reads' HO227.out).2.2 | (with_reducible refine Kd.C_alloc ?_ _) | (with_reducible refine Kd.C_drewN ?_ _) | (with_reducible refine Kd.C_drew ?_))); (case side2 => exact (Kd.R_reads' HO227.out).2.1); rintro e w28 ⟨rfl, hb⟩; refine ⟨_, rfl, ?_⟩; have n0_ := Aside0.mk (Kd.V_below (by (with_reducible repeat (first | apply Kd.V_alloc | apply Kd.V_drewN | apply Kd.V_drew)); exact HO_3.out) hb); have n1_ := Aside0.mk (Kd.N_below (by (with_reducible repeat (first | apply Kd.N_alloc | apply Kd.N_drewN | apply Kd.N_drew)); exact HO224.out) hb); have n2_ := Aside0.mk (Kd.R_below (by (with_reducible repeat (first | apply Kd.R_alloc | apply Kd.R_drewN | apply Kd.R_drew)); exact HO227.out) hb); have n3_ := Aside0.mk (blk_below (g := gb221) (o := .cells #[.string a5_0, .string a5_1, .int .i64 a5_2, .int .i64 a5_3, .int .i64 a5_4] 24 (0, 0)) (by (with_reducible repeat (first | refine blk_drewN ?_ _ | refine blk_drew ?_ | refine blk_alloc ?_ _)); exact BK221.out) hb); have n4_ := Aside0.mk (below_step (by repeat (first | (with_reducible first | exact HB.out | apply below_alloc | apply pw_below_drewN | apply below_drew1 | refine below_set ?_ GE221.out) | exact HB.out)) hb); clear HO_3; clear HO224; clear HO227; clear BK221; clear HB; have HO_3 := n0_; have HO224 := n1_; have HO227 := n2_; have BK221 := n3_; have HB := n4_; clear n0_ n1_ n2_ n3_ n4_; (try clear hb); (try clear hb2); (try clear hk); (try clear hi)) | ((with_reducible refine gate_dst (N := 14) rfl ?_); (try (refine gate_guard (by rfl) ?_; dsimp only)); refine box_event ?hg (N := 14) ?hd (cs := #[.string (⟨#[]⟩ : ByteArray), .string (⟨#[]⟩ : ByteArray), .int .i64 0, .int .i64 0, .int .i64 0]) (t := 24) ?hr ?_; (case hd => rfl); (case hg => rfl); (case hr => first | (go_simp; done) | (go_simp; rfl)); intro gb234 hg w29 hbox hb; have n0_ := Aside0.mk (Kd.V_below (Kd.V_elderB (by (with_reducible repeat (first | apply Kd.V_alloc | apply Kd.V_drewN | apply Kd.V_drew)); exact HO_3.out) gb234 (Nat.le_of_eq hg.symm)) hb); have n1_ := Aside0.mk (Kd.N_below (Kd.N_elderB (by (with_reducible repeat (first | apply Kd.N_alloc | apply Kd.N_drewN | apply Kd.N_drew)); exact HO224.out) gb234 (Nat.le_of_eq hg.symm)) hb); have n2_ := Aside0.mk (Kd.R_below (by (with_reducible repeat (first | apply Kd.R_alloc | apply Kd.R_drewN | apply Kd.R_drew)); exact HO227.out) hb); have n3_ := Aside0.mk (blk_below (g := gb221) (o := .cells #[.string a5_0, .string a5_1, .int .i64 a5_2, .int .i64 a5_3, .int .i64 a5_4] 24 (0, 0)) (by (with_reducible repeat (first | refine blk_drewN ?_ _ | refine blk_drew ?_ | refine blk_alloc ?_ _)); exact BK221.out) hb); have n4_ := Aside0.mk (below_step (by repeat (first | (with_reducible first | exact HB.out | apply below_alloc | apply pw_below_drewN | apply below_drew1 | refine below_set ?_ GE221.out) | exact HB.out)) hb); have n5_ := Aside0.mk (hbox); have n6_ := Aside0.mk ((by rw [hg]; exact (below_size (by repeat (first | (with_reducible first | exact HB.out | apply below_alloc | apply pw_below_drewN | apply below_drew1 | refine below_set ?_ GE221.out) | exact HB.out))) : w.heap.size ≤ gb234)); have n7_ := Aside0.mk ((by rw [hg]; exact (below_size (by repeat (first | (with_reducible first | exact HB.out | apply below_alloc | apply pw_below_drewN | apply below_drew1 | refine below_set ?_ GE221.out) | exact HB.out))) : w.heap.size ≤ gb234)); have n8_ := Aside0.mk ((by rw [hg]; exact Nat.ne_of_lt (blk_lt (g := gb221) (o := .cells #[.string a5_0, .string a5_1, .int .i64 a5_2, .int .i64 a5_3, .int .i64 a5_4] 24 (0, 0)) (by (with_reducible repeat (first | refine blk_drewN ?_ _ | refine blk_drew ?_ | refine blk_alloc ?_ _)); exact BK221.out)) : gb221 ≠ gb234)); have n9_ := Aside0.mk ((by rw [hg]; exact Nat.ne_of_gt (blk_lt (g := gb221) (o := .cells #[.string a5_0, .string a5_1, .int .i64 a5_2, .int .i64 a5_3, .int .i64 a5_4] 24 (0, 0)) (by (with_reducible repeat (first | refine blk_drewN ?_ _ | refine blk_drew ?_ | refine blk_alloc ?_ _)); exact BK221.out)) : gb234 ≠ gb221)); clear HO_3; clear HO224; clear HO227; clear BK221; clear HB; have HO_3 := n0_; have HO224 := n1_; have HO227 := n2_; have BK221 := n3_; have HB := n4_; have BK234 := n5_; have GW234 := n6_; have GE234 := n7_; have NB221_234 := n8_; have NB234_221 := n9_; clear n0_ n1_ n2_ n3_ n4_ n5_ n6_ n7_ n8_ n9_; clear hb hbox hg; have hnb30 := NB234_221.out; have hnc30 := NB221_234.out; have hcz31_0 : w29.cell? ⟨gb234, 0, none⟩ = some (.string (⟨#[]⟩ : ByteArray)) := (blk_cell BK234.out 0).trans rfl; have hcz31_1 : w29.cell? ⟨gb234, 1, none⟩ = some (.string (⟨#[]⟩ : ByteArray)) := (blk_cell BK234.out 1).trans rfl; have hcz31_2 : w29.cell? ⟨gb234, 2, none⟩ = some (.int .i64 0) := (blk_cell BK234.out 2).trans rfl; have hcz31_3 : w29.cell? ⟨gb234, 3, none⟩ = some (.int .i64 0) := (blk_cell BK234.out 3).trans rfl; have hcz31_4 : w29.cell? ⟨gb234, 4, none⟩ = some (.int .i64 0) := (blk_cell BK234.out 4).trans rfl; have hfz31_0 := blk_frozen BK234.out 0; have hfz31_1 := blk_frozen BK234.out 1; have hfz31_2 := blk_frozen BK234.out 2; have hfz31_3 := blk_frozen BK234.out 3; have hfz31_4 := blk_frozen BK234.out 4) | ((with_reducible refine gate_callee (f := 9) rfl ?_); refine goesL_ (some 55) rfl rfl Try.func9 (by kernel_rfl) rfl #[.string a0, .string a1, .int .i64 a2, .slice A3 l3.length c3, .bool a4] rfl (by (try simp only [List.map_toArray, List.map_cons, List.map_nil]); first | done | rfl | (simp only [List.length_drop, List.length_take]; rfl)) ?_; (with_reducible refine (redoubtref15_Of.calls kj6 a0 a1 a2 _ _ l3 a4 t235 t236 t237 t238 t239 t240 _ ?side1 ?side2 A15.out).mono ?_); (case side1 => refine (Kd.V_reads' (e := 5) (base := w.heap.size) (ok := fun k_ => (((((P3_ k_ ∨ w.heap.size ≤ k_) ∧ k_ ≠ gb221) ∧ some k_ ≠ (.slice Ao25 y222.length co25 : Value).ownBlock) ∧ some k_ ≠ (.slice Ao27 t225.length co27 : Value).ownBlock) ∧ k_ ≠ gb234)) (n := l3.length) (c := c3) ?_).2.2; exact (by (with_reducible repeat (first | apply Kd.V_alloc | apply Kd.V_drewN | apply Kd.V_drew)); exact (Kd.V_mono (Kd.V_far (p := ⟨gb234, 4, none⟩) (Kd.V_far (p := ⟨gb234, 3, none⟩) (Kd.V_far (p := ⟨gb234, 2, none⟩) (Kd.V_far (p := ⟨gb234, 1, none⟩) (Kd.V_far (p := ⟨gb234, 0, none⟩) (Kd.V_mono HO_3.out (fun k_ hk => (⟨hk, hk.2⟩ : _ ∧ k_ ≠ gb234))) (fun _ hk => hk.2) (.string t228)) (fun _ hk => hk.2) (.string t229)) (fun _ hk => hk.2) (.int .i64 t230)) (fun _ hk => hk.2) (.int .i64 t231)) (fun _ hk => hk.2) (.int .i64 t232)) (fun _ h_ => h_.1)))); (case side2 => exact (Kd.V_reads' HO_3.out).2.1); rintro e w32 ⟨rfl, hb⟩; refine ⟨_, rfl, ?_⟩; have n0_ := Aside0.mk (Kd.V_below (by (with_reducible repeat (first | apply Kd.V_alloc | apply Kd.V_drewN | apply Kd.V_drew)); exact (Kd.V_mono (Kd.V_far (p := ⟨gb234, 4, none⟩) (Kd.V_far (p := ⟨gb234, 3, none⟩) (Kd.V_far (p := ⟨gb234, 2, none⟩) (Kd.V_far (p := ⟨gb234, 1, none⟩) (Kd.V_far (p := ⟨gb234, 0, none⟩) (Kd.V_mono HO_3.out (fun k_ hk => (⟨hk, hk.2⟩ : _ ∧ k_ ≠ gb234))) (fun _ hk => hk.2) (.string t228)) (fun _ hk => hk.2) (.string t229)) (fun _ hk => hk.2) (.int .i64 t230)) (fun _ hk => hk.2) (.int .i64 t231)) (fun _ hk => hk.2) (.int .i64 t232)) (fun _ h_ => h_.1))) hb); have n1_ := Aside0.mk (Kd.N_below (by (with_reducible repeat (first | apply Kd.N_alloc | apply Kd.N_drewN | apply Kd.N_drew)); exact (Kd.N_mono (Kd.N_far (p := ⟨gb234, 4, none⟩) (Kd.N_far (p := ⟨gb234, 3, none⟩) (Kd.N_far (p := ⟨gb234, 2, none⟩) (Kd.N_far (p := ⟨gb234, 1, none⟩) (Kd.N_far (p := ⟨gb234, 0, none⟩) (Kd.N_mono HO224.out (fun k_ hk => (⟨hk, hk.2⟩ : _ ∧ k_ ≠ gb234))) (fun _ hk => hk.2) (.string t228)) (fun _ hk => hk.2) (.string t229)) (fun _ hk => hk.2) (.int .i64 t230)) (fun _ hk => hk.2) (.int .i64 t231)) (fun _ hk => hk.2) (.int .i64 t232)) (fun _ h_ => h_.1))) hb); have n2_ := Aside0.mk (Kd.R_below (by (with_reducible repeat (first | apply Kd.R_alloc | apply Kd.R_drewN | apply Kd.R_drew)); exact (Kd.R_mono (Kd.R_far (p := ⟨gb234, 4, none⟩) (Kd.R_far (p := ⟨gb234, 3, none⟩) (Kd.R_far (p := ⟨gb234, 2, none⟩) (Kd.R_far (p := ⟨gb234, 1, none⟩) (Kd.R_far (p := ⟨gb234, 0, none⟩) (Kd.R_types HO227.out BK234.out (by decide)) (fun _ hk => hk.2) (.string t228)) (fun _ hk => hk.2) (.string t229)) (fun _ hk => hk.2) (.int .i64 t230)) (fun _ hk => hk.2) (.int .i64 t231)) (fun _ hk => hk.2) (.int .i64 t232)) (fun _ h_ => h_.1))) hb); have n3_ := Aside0.mk (blk_below (g := gb221) (o := .cells #[.string a5_0, .string a5_1, .int .i64 a5_2, .int .i64 a5_3, .int .i64 a5_4] 24 (0, 0)) (by (with_reducible repeat (first | refine blk_drewN ?_ _ | refine blk_drew ?_ | refine blk_alloc ?_ _)); refine blk_far ?_ NB221_234.out _; (with_reducible repeat (first | refine blk_drewN ?_ _ | refine blk_drew ?_ | refine blk_alloc ?_ _)); refine blk_far ?_ NB221_234.out _; (with_reducible repeat (first | refine blk_drewN ?_ _ | refine blk_drew ?_ | refine blk_alloc ?_ _)); refine blk_far ?_ NB221_234.out _; (with_reducible repeat (first | refine blk_drewN ?_ _ | refine blk_drew ?_ | refine blk_alloc ?_ _)); refine blk_far ?_ NB221_234.out _; (with_reducible repeat (first | refine blk_drewN ?_ _ | refine blk_drew ?_ | refine blk_alloc ?_ _)); refine blk_far ?_ NB221_234.out _; (with_reducible repeat (first | refine blk_drewN ?_ _ | refine blk_drew ?_ | refine blk_alloc ?_ _)); exact BK221.out) hb); have n4_ := Aside0.mk (blk_below (g := gb234) (o := .cells #[.string t228, .string t229, .int .i64 t230, .int .i64 t231, .int .i64 t232] 24 (0, 0)) (by (with_reducible repeat (first | refine blk_drewN ?_ _ | refine blk_drew ?_ | refine blk_alloc ?_ _)); refine blk_put (cs := #[.string t228, .string t229, .int .i64 t230, .int .i64 t231, .int .i64 0]) ?_ 4 _ rfl; (with_reducible repeat (first | refine blk_drewN ?_ _ | refine blk_drew ?_ | refine blk_alloc ?_ _)); refine blk_put (cs := #[.string t228, .string t229, .int .i64 t230, .int .i64 0, .int .i64 0]) ?_ 3 _ rfl; (with_reducible repeat (first | refine blk_drewN ?_ _ | refine blk_drew ?_ | refine blk_alloc ?_ _)); refine blk_put (cs := #[.string t228, .string t229, .int .i64 0, .int .i64 0, .int .i64 0]) ?_ 2 _ rfl; (with_reducible repeat (first | refine blk_drewN ?_ _ | refine blk_drew ?_ | refine blk_alloc ?_ _)); refine blk_put (cs := #[.string t228, .string (⟨#[]⟩ : ByteArray), .int .i64 0, .int .i64 0, .int .i64 0]) ?_ 1 _ rfl; (with_reducible repeat (first | refine blk_drewN ?_ _ | refine blk_drew ?_ | refine blk_alloc ?_ _)); refine blk_put (cs := #[.string (⟨#[]⟩ : ByteArray), .string (⟨#[]⟩ : ByteArray), .int .i64 0, .int .i64 0, .int .i64 0]) ?_ 0 _ rfl; (with_reducible repeat (first | refine blk_drewN ?_ _ | refine blk_drew ?_ | refine blk_alloc ?_ _)); exact BK234.out) hb); have n5_ := Aside0.mk (below_step (by repeat (first | (with_reducible first | exact HB.out | apply below_alloc | apply pw_below_drewN | apply below_drew1 | refine below_set ?_ GE221.out | refine below_set ?_ GE234.out) | exact HB.out)) hb); clear HO_3; clear HO224; clear HO227; clear BK221; clear BK234; clear HB; have HO_3 := n0_; have HO224 := n1_; have HO227 := n2_; have BK221 := n3_; have BK234 := n4_; have HB := n5_; clear n0_ n1_ n2_ n3_ n4_ n5_; (try clear hb); (try clear hb2); (try clear hk); (try clear hi)) | ((with_reducible refine gate_dst (N := 16) rfl ?_); (try (refine gate_guard (by rfl) ?_; dsimp only)); refine box_event ?hg (N := 16) ?hd (cs := #[.string (⟨#[]⟩ : ByteArray), .string (⟨#[]⟩ : ByteArray), .int .i64 0, .int .i64 0, .int .i64 0]) (t := 24) ?hr ?_; (case hd => rfl); (case hg => rfl); (case hr => first | (go_simp; done) | (go_simp; rfl)); intro gb241 hg w33 hbox hb; have n0_ := Aside0.mk (Kd.V_below (Kd.V_elderB (by (with_reducible repeat (first | apply Kd.V_alloc | apply Kd.V_drewN | apply Kd.V_drew)); exact HO_3.out) gb241 (Nat.le_of_eq hg.symm)) hb); have n1_ := Aside0.mk (Kd.N_below (Kd.N_elderB (by (with_reducible repeat (first | apply Kd.N_alloc | apply Kd.N_drewN | apply Kd.N_drew)); exact HO224.out) gb241 (Nat.le_of_eq hg.symm)) hb); have n2_ := Aside0.mk (Kd.R_below (by (with_reducible repeat (first | apply Kd.R_alloc | apply Kd.R_drewN | apply Kd.R_drew)); exact HO227.out) hb); have n3_ := Aside0.mk (blk_below (g := gb221) (o := .cells #[.string a5_0, .string a5_1, .int .i64 a5_2, .int .i64 a5_3, .int .i64 a5_4] 24 (0, 0)) (by (with_reducible repeat (first | refine blk_drewN ?_ _ | refine blk_drew ?_ | refine blk_alloc ?_ _)); exact BK221.out) hb); have n4_ := Aside0.mk (blk_below (g := gb234) (o := .cells #[.string t228, .string t229, .int .i64 t230, .int .i64 t231, .int .i64 t232] 24 (0, 0)) (by (with_reducible repeat (first | refine blk_drewN ?_ _ | refine blk_drew ?_ | refine blk_alloc ?_ _)); exact BK234.out) hb); have n5_ := Aside0.mk (below_step (by repeat (first | (with_reducible first | exact HB.out | apply below_alloc | apply pw_below_drewN | apply below_drew1 | refine below_set ?_ GE221.out | refine below_set ?_ GE234.out) | exact HB.out)) hb); have n6_ := Aside0.mk (hbox); have n7_ := Aside0.mk ((by rw [hg]; exact (below_size (by repeat (first | (with_reducible first | exact HB.out | apply below_alloc | apply pw_below_drewN | apply below_drew1 | refine below_set ?_ GE221.out | refine below_set ?_ GE234.out) | exact HB.out))) : w.heap.size ≤ gb241)); have n8_ := Aside0.mk ((by rw [hg]; exact (below_size (by repeat (first | (with_reducible first | exact HB.out | apply below_alloc | apply pw_below_drewN | apply below_drew1 | refine below_set ?_ GE221.out | refine below_set ?_ GE234.out) | exact HB.out))) : w.heap.size ≤ gb241)); have n9_ := Aside0.mk ((by rw [hg]; exact Nat.ne_of_lt (blk_lt (g := gb221) (o := .cells #[.string a5_0, .string a5_1, .int .i64 a5_2, .int .i64 a5_3, .int .i64 a5_4] 24 (0, 0)) (by (with_reducible repeat (first | refine blk_drewN ?_ _ | refine blk_drew ?_ | refine blk_alloc ?_ _)); exact BK221.out)) : gb221 ≠ gb241)); have n10_ := Aside0.mk ((by rw [hg]; exact Nat.ne_of_gt (blk_lt (g := gb221) (o := .cells #[.string a5_0, .string a5_1, .int .i64 a5_2, .int .i64 a5_3, .int .i64 a5_4] 24 (0, 0)) (by (with_reducible repeat (first | refine blk_drewN ?_ _ | refine blk_drew ?_ | refine blk_alloc ?_ _)); exact BK221.out)) : gb241 ≠ gb221)); have n11_ := Aside0.mk ((by rw [hg]; exact Nat.ne_of_lt (blk_lt (g := gb234) (o := .cells #[.string t228, .string t229, .int .i64 t230, .int .i64 t231, .int .i64 t232] 24 (0, 0)) (by (with_reducible repeat (first | refine blk_drewN ?_ _ | refine blk_drew ?_ | refine blk_alloc ?_ _)); exact BK234.out)) : gb234 ≠ gb241)); have n12_ := Aside0.mk ((by rw [hg]; exact Nat.ne_of_gt (blk_lt (g := gb234) (o := .cells #[.string t228, .string t229, .int .i64 t230, .int .i64 t231, .int .i64 t232] 24 (0, 0)) (by (with_reducible repeat (first | refine blk_drewN ?_ _ | refine blk_drew ?_ | refine blk_alloc ?_ _)); exact BK234.out)) : gb241 ≠ gb234)); clear HO_3; clear HO224; clear HO227; clear BK221; clear BK234; clear HB; have HO_3 := n0_; have HO224 := n1_; have HO227 := n2_; have BK221 := n3_; have BK234 := n4_; have HB := n5_; have BK241 := n6_; have GW241 := n7_; have GE241 := n8_; have NB221_241 := n9_; have NB241_221 := n10_; have NB234_241 := n11_; have NB241_234 := n12_; clear n0_ n1_ n2_ n3_ n4_ n5_ n6_ n7_ n8_ n9_ n10_ n11_ n12_; clear hb hbox hg; have hnb34 := NB241_221.out; have hnc34 := NB221_241.out; have hnb35 := NB241_234.out; have hnc35 := NB234_241.out; have hcz36_0 : w33.cell? ⟨gb241, 0, none⟩ = some (.string (⟨#[]⟩ : ByteArray)) := (blk_cell BK241.out 0).trans rfl; have hcz36_1 : w33.cell? ⟨gb241, 1, none⟩ = some (.string (⟨#[]⟩ : ByteArray)) := (blk_cell BK241.out 1).trans rfl; have hcz36_2 : w33.cell? ⟨gb241, 2, none⟩ = some (.int .i64 0) := (blk_cell BK241.out 2).trans rfl; have hcz36_3 : w33.cell? ⟨gb241, 3, none⟩ = some (.int .i64 0) := (blk_cell BK241.out 3).trans rfl; have hcz36_4 : w33.cell? ⟨gb241, 4, none⟩ = some (.int .i64 0) := (blk_cell BK241.out 4).trans rfl; have hfz36_0 := blk_frozen BK241.out 0; have hfz36_1 := blk_frozen BK241.out 1; have hfz36_2 := blk_frozen BK241.out 2; have hfz36_3 := blk_frozen BK241.out 3; have hfz36_4 := blk_frozen BK241.out 4))
                have n0_ : Aside0 (Kd.V (Kd.int .u8) 5 (((((w33.setCell ⟨gb241, 0, none⟩ (.string t235)).setCell ⟨gb241, 1, none⟩ (.string t236)).setCell ⟨gb241, 2, none⟩ (.int .i64 t237)).setCell ⟨gb241, 3, none⟩ (.int .i64 t238)).setCell ⟨gb241, 4, none⟩ (.int .i64 t239)) w.heap.size (fun k_ => (P3_ k_ ∨ w.heap.size ≤ k_) ∧ some k_ ≠ (.slice Ao25 y222.length co25 : Value).ownBlock ∧ some k_ ≠ (.slice Ao27 t225.length co27 : Value).ownBlock ∧ k_ ≠ gb221 ∧ k_ ≠ gb234 ∧ k_ ≠ gb241) (.slice A3 l3.length c3) l3) := ⟨by (with_reducible repeat (first | apply Kd.V_alloc | apply Kd.V_drewN | apply Kd.V_drew)); exact Kd.V_mono (Kd.V_far (p := ⟨gb241, 4, none⟩) (Kd.V_far (p := ⟨gb241, 3, none⟩) (Kd.V_far (p := ⟨gb241, 2, none⟩) (Kd.V_far (p := ⟨gb241, 1, none⟩) (Kd.V_far (p := ⟨gb241, 0, none⟩) (Kd.V_mono HO_3.out (fun k_ hk => (⟨hk, hk.2⟩ : _ ∧ k_ ≠ gb241))) (fun _ hk => hk.2) (.string t235)) (fun _ hk => hk.2) (.string t236)) (fun _ hk => hk.2) (.int .i64 t237)) (fun _ hk => hk.2) (.int .i64 t238)) (fun _ hk => hk.2) (.int .i64 t239)) (fun _ hk => ⟨hk.1.1.1.1.1.1, ⟨hk.1.1.1.1.2, ⟨hk.1.1.1.2, ⟨hk.1.1.1.1.1.2, ⟨hk.1.1.2, hk.1.2⟩⟩⟩⟩⟩)⟩
                have n1_ : Aside0 (Kd.N (Kd.slice 5 (Kd.int .u8)) 22 (((((w33.setCell ⟨gb241, 0, none⟩ (.string t235)).setCell ⟨gb241, 1, none⟩ (.string t236)).setCell ⟨gb241, 2, none⟩ (.int .i64 t237)).setCell ⟨gb241, 3, none⟩ (.int .i64 t238)).setCell ⟨gb241, 4, none⟩ (.int .i64 t239)) w.heap.size (fun k_ => (P3_ k_ ∨ w.heap.size ≤ k_) ∧ some k_ ≠ (.slice Ao27 t225.length co27 : Value).ownBlock ∧ k_ ≠ gb221 ∧ k_ ≠ gb234 ∧ k_ ≠ gb241) (.slice Ao25 y222.length co25) y222) := ⟨by (with_reducible repeat (first | apply Kd.N_alloc | apply Kd.N_drewN | apply Kd.N_drew)); exact Kd.N_mono (Kd.N_far (p := ⟨gb241, 4, none⟩) (Kd.N_far (p := ⟨gb241, 3, none⟩) (Kd.N_far (p := ⟨gb241, 2, none⟩) (Kd.N_far (p := ⟨gb241, 1, none⟩) (Kd.N_far (p := ⟨gb241, 0, none⟩) (Kd.N_mono HO224.out (fun k_ hk => (⟨hk, hk.2⟩ : _ ∧ k_ ≠ gb241))) (fun _ hk => hk.2) (.string t235)) (fun _ hk => hk.2) (.string t236)) (fun _ hk => hk.2) (.int .i64 t237)) (fun _ hk => hk.2) (.int .i64 t238)) (fun _ hk => hk.2) (.int .i64 t239)) (fun _ hk => ⟨hk.1.1.1.1.1, ⟨hk.1.1.1.2, ⟨hk.1.1.1.1.2, ⟨hk.1.1.2, hk.1.2⟩⟩⟩⟩)⟩
                have n2_ : Aside0 (Kd.R (Kd.int .u8) 5 (((((w33.setCell ⟨gb241, 0, none⟩ (.string t235)).setCell ⟨gb241, 1, none⟩ (.string t236)).setCell ⟨gb241, 2, none⟩ (.int .i64 t237)).setCell ⟨gb241, 3, none⟩ (.int .i64 t238)).setCell ⟨gb241, 4, none⟩ (.int .i64 t239)) w.heap.size (fun k_ => (w.heap.size ≤ k_)) (.slice Ao27 t225.length co27) t225) := ⟨by (with_reducible repeat (first | apply Kd.R_alloc | apply Kd.R_drewN | apply Kd.R_drew)); exact Kd.R_mono (Kd.R_far (p := ⟨gb241, 4, none⟩) (Kd.R_far (p := ⟨gb241, 3, none⟩) (Kd.R_far (p := ⟨gb241, 2, none⟩) (Kd.R_far (p := ⟨gb241, 1, none⟩) (Kd.R_far (p := ⟨gb241, 0, none⟩) (Kd.R_types HO227.out BK241.out (by decide)) (fun _ hk => hk.2) (.string t235)) (fun _ hk => hk.2) (.string t236)) (fun _ hk => hk.2) (.int .i64 t237)) (fun _ hk => hk.2) (.int .i64 t238)) (fun _ hk => hk.2) (.int .i64 t239)) (fun _ hk => hk.1.1)⟩
                have n3_ : Aside0 ((((((w33.setCell ⟨gb241, 0, none⟩ (.string t235)).setCell ⟨gb241, 1, none⟩ (.string t236)).setCell ⟨gb241, 2, none⟩ (.int .i64 t237)).setCell ⟨gb241, 3, none⟩ (.int .i64 t238)).setCell ⟨gb241, 4, none⟩ (.int .i64 t239)).heap[gb221]? = some (.cells #[.string a5_0, .string a5_1, .int .i64 a5_2, .int .i64 a5_3, .int .i64 a5_4] 24 (0, 0))) := ⟨by (with_reducible repeat (first | refine blk_drewN ?_ _ | refine blk_drew ?_ | refine blk_alloc ?_ _)); refine blk_far ?_ NB221_241.out _; (with_reducible repeat (first | refine blk_drewN ?_ _ | refine blk_drew ?_ | refine blk_alloc ?_ _)); refine blk_far ?_ NB221_241.out _; (with_reducible repeat (first | refine blk_drewN ?_ _ | refine blk_drew ?_ | refine blk_alloc ?_ _)); refine blk_far ?_ NB221_241.out _; (with_reducible repeat (first | refine blk_drewN ?_ _ | refine blk_drew ?_ | refine blk_alloc ?_ _)); refine blk_far ?_ NB221_241.out _; (with_reducible repeat (first | refine blk_drewN ?_ _ | refine blk_drew ?_ | refine blk_alloc ?_ _)); refine blk_far ?_ NB221_241.out _; (with_reducible repeat (first | refine blk_drewN ?_ _ | refine blk_drew ?_ | refine blk_alloc ?_ _)); exact BK221.out⟩
                have n4_ : Aside0 ((((((w33.setCell ⟨gb241, 0, none⟩ (.string t235)).setCell ⟨gb241, 1, none⟩ (.string t236)).setCell ⟨gb241, 2, none⟩ (.int .i64 t237)).setCell ⟨gb241, 3, none⟩ (.int .i64 t238)).setCell ⟨gb241, 4, none⟩ (.int .i64 t239)).heap[gb234]? = some (.cells #[.string t228, .string t229, .int .i64 t230, .int .i64 t231, .int .i64 t232] 24 (0, 0))) := ⟨by (with_reducible repeat (first | refine blk_drewN ?_ _ | refine blk_drew ?_ | refine blk_alloc ?_ _)); refine blk_far ?_ NB234_241.out _; (with_reducible repeat (first | refine blk_drewN ?_ _ | refine blk_drew ?_ | refine blk_alloc ?_ _)); refine blk_far ?_ NB234_241.out _; (with_reducible repeat (first | refine blk_drewN ?_ _ | refine blk_drew ?_ | refine blk_alloc ?_ _)); refine blk_far ?_ NB234_241.out _; (with_reducible repeat (first | refine blk_drewN ?_ _ | refine blk_drew ?_ | refine blk_alloc ?_ _)); refine blk_far ?_ NB234_241.out _; (with_reducible repeat (first | refine blk_drewN ?_ _ | refine blk_drew ?_ | refine blk_alloc ?_ _)); refine blk_far ?_ NB234_241.out _; (with_reducible repeat (first | refine blk_drewN ?_ _ | refine blk_drew ?_ | refine blk_alloc ?_ _)); exact BK234.out⟩
                have n5_ : Aside0 ((((((w33.setCell ⟨gb241, 0, none⟩ (.string t235)).setCell ⟨gb241, 1, none⟩ (.string t236)).setCell ⟨gb241, 2, none⟩ (.int .i64 t237)).setCell ⟨gb241, 3, none⟩ (.int .i64 t238)).setCell ⟨gb241, 4, none⟩ (.int .i64 t239)).heap[gb241]? = some (.cells #[.string t235, .string t236, .int .i64 t237, .int .i64 t238, .int .i64 t239] 24 (0, 0))) := ⟨by (with_reducible repeat (first | refine blk_drewN ?_ _ | refine blk_drew ?_ | refine blk_alloc ?_ _)); refine blk_put (cs := #[.string t235, .string t236, .int .i64 t237, .int .i64 t238, .int .i64 0]) ?_ 4 _ rfl; (with_reducible repeat (first | refine blk_drewN ?_ _ | refine blk_drew ?_ | refine blk_alloc ?_ _)); refine blk_put (cs := #[.string t235, .string t236, .int .i64 t237, .int .i64 0, .int .i64 0]) ?_ 3 _ rfl; (with_reducible repeat (first | refine blk_drewN ?_ _ | refine blk_drew ?_ | refine blk_alloc ?_ _)); refine blk_put (cs := #[.string t235, .string t236, .int .i64 0, .int .i64 0, .int .i64 0]) ?_ 2 _ rfl; (with_reducible repeat (first | refine blk_drewN ?_ _ | refine blk_drew ?_ | refine blk_alloc ?_ _)); refine blk_put (cs := #[.string t235, .string (⟨#[]⟩ : ByteArray), .int .i64 0, .int .i64 0, .int .i64 0]) ?_ 1 _ rfl; (with_reducible repeat (first | refine blk_drewN ?_ _ | refine blk_drew ?_ | refine blk_alloc ?_ _)); refine blk_put (cs := #[.string (⟨#[]⟩ : ByteArray), .string (⟨#[]⟩ : ByteArray), .int .i64 0, .int .i64 0, .int .i64 0]) ?_ 0 _ rfl; (with_reducible repeat (first | refine blk_drewN ?_ _ | refine blk_drew ?_ | refine blk_alloc ?_ _)); exact BK241.out⟩
                have n6_ : Aside0 (Below w.heap.size w (((((w33.setCell ⟨gb241, 0, none⟩ (.string t235)).setCell ⟨gb241, 1, none⟩ (.string t236)).setCell ⟨gb241, 2, none⟩ (.int .i64 t237)).setCell ⟨gb241, 3, none⟩ (.int .i64 t238)).setCell ⟨gb241, 4, none⟩ (.int .i64 t239))) := ⟨by repeat (first | (with_reducible first | exact HB.out | apply below_alloc | apply pw_below_drewN | apply below_drew1 | refine below_set ?_ GE221.out | refine below_set ?_ GE234.out | refine below_set ?_ GE241.out) | exact HB.out)⟩
                (try clear HO_3)
                (try clear HO224)
                (try clear HO227)
                (try clear BK221)
                (try clear BK234)
                (try clear BK241)
                (try clear HB)
                generalize (((((w33.setCell ⟨gb241, 0, none⟩ (.string t235)).setCell ⟨gb241, 1, none⟩ (.string t236)).setCell ⟨gb241, 2, none⟩ (.int .i64 t237)).setCell ⟨gb241, 3, none⟩ (.int .i64 t238)).setCell ⟨gb241, 4, none⟩ (.int .i64 t239)) = w37 at n0_ n1_ n2_ n3_ n4_ n5_ n6_ ⊢
                have HO_3 := n0_
                have HO224 := n1_
                have HO227 := n2_
                have BK221 := n3_
                have BK234 := n4_
                have BK241 := n5_
                have HB := n6_
                clear n0_ n1_ n2_ n3_ n4_ n5_ n6_
                have n0_ := Aside0.mk (Kd.V_drew HO_3.out)
                have n1_ := Aside0.mk (Kd.N_drew HO224.out)
                have n2_ := Aside0.mk (Kd.R_drew HO227.out)
                have n3_ := Aside0.mk (blk_drew BK221.out)
                have n4_ := Aside0.mk (blk_drew BK234.out)
                have n5_ := Aside0.mk (blk_drew BK241.out)
                have n6_ := Aside0.mk (below_drew1 HB.out)
                clear HO_3
                clear HO224
                clear HO227
                clear BK221
                clear BK234
                clear BK241
                clear HB
                have HO_3 := n0_
                have HO224 := n1_
                have HO227 := n2_
                have BK221 := n3_
                have BK234 := n4_
                have BK241 := n5_
                have HB := n6_
                clear n0_ n1_ n2_ n3_ n4_ n5_ n6_
                refine start_ (n := 26) (S := fun w' => w'.cell? ⟨gb234, 0, none⟩ = some (.string t228) ∧ w'.cell? ⟨gb234, 1, none⟩ = some (.string t229) ∧ w'.cell? ⟨gb234, 2, none⟩ = some (.int .i64 t230) ∧ w'.cell? ⟨gb234, 3, none⟩ = some (.int .i64 t231) ∧ w'.cell? ⟨gb234, 4, none⟩ = some (.int .i64 t232) ∧ w'.cell? ⟨gb241, 0, none⟩ = some (.string t235) ∧ w'.cell? ⟨gb241, 1, none⟩ = some (.string t236) ∧ w'.cell? ⟨gb241, 2, none⟩ = some (.int .i64 t237) ∧ w'.cell? ⟨gb241, 3, none⟩ = some (.int .i64 t238) ∧ w'.cell? ⟨gb241, 4, none⟩ = some (.int .i64 t239) ∧ w'.cell? ⟨gb221, 0, none⟩ = some (.string a5_0) ∧ w'.cell? ⟨gb221, 1, none⟩ = some (.string a5_1) ∧ w'.cell? ⟨gb221, 2, none⟩ = some (.int .i64 a5_2) ∧ w'.cell? ⟨gb221, 3, none⟩ = some (.int .i64 a5_3) ∧ w'.cell? ⟨gb221, 4, none⟩ = some (.int .i64 a5_4) ∧ (convert 22 9 (.slice Ao27 t225.length co27)).run Try.prog w' = .ok (.string (strOfNums t225)) w' ∧ (convert 22 9 (.slice A3 l3.length c3)).run Try.prog w' = .ok (.string (strOfNums l3)) w') (ds := []) #[false, false, false, false, false, false, false, false, false, false, false, false, false, false, false, false, false, false, false, false, false, false, false, false, false, false] (by kernel_rfl) rfl rfl ⟨(blk_cell BK234.out 0).trans rfl, (blk_cell BK234.out 1).trans rfl, (blk_cell BK234.out 2).trans rfl, (blk_cell BK234.out 3).trans rfl, (blk_cell BK234.out 4).trans rfl, (blk_cell BK241.out 0).trans rfl, (blk_cell BK241.out 1).trans rfl, (blk_cell BK241.out 2).trans rfl, (blk_cell BK241.out 3).trans rfl, (blk_cell BK241.out 4).trans rfl, (blk_cell BK221.out 0).trans rfl, (blk_cell BK221.out 1).trans rfl, (blk_cell BK221.out 2).trans rfl, (blk_cell BK221.out 3).trans rfl, (blk_cell BK221.out 4).trans rfl, own_string (P := Try.prog) Try.underlying22 Try.underlying5 Try.underlying9 (Kd.own_of_R (Kd.R_drew HO227.out)), Came.V_string (P := Try.prog) Try.underlying22 Try.underlying5 Try.underlying9 (q := 5) (base := w.heap.size) (Kd.V_drew HO_3.out)⟩ (fun hHeld => ?_); refine with_tabW redoubtlaw15_PickFlows.tab6 redoubtlaw15_PickFlows.bits6 (fun HT_ HW_ => ?_)
                generalize w37.drew = w38 at HO_3 HO224 HO227 BK221 BK234 BK241 HB hHeld ⊢
                refine one_ (i := 0) (N := some 58) #[true, false, false, false, false, false, false, false, false, false, false, false, false, false, false, false, false, false, false, false, false, false, false, false, false, false] rfl rfl (one_of HT_.out (by kernel_rfl)) (by decide) (fun K hK => ?_)
                refine goes_ Try.func10 (by kernel_rfl) rfl #[] (by rfl) rfl rfl (by (try simp only [List.map_toArray, List.map_cons, List.map_nil]); first | done | rfl | (simp only [List.length_drop, List.length_take]; rfl)) ?_
                with_reducible refine (redoubtlaw15_awake.calls kj6  true _ A16.out (by first | rfl | exact HRT.out)).mono ?_
                rintro e w39 ⟨rfl, hb⟩
                refine ⟨_, rfl, ?_⟩
                have n0_ := Aside0.mk (Kd.V_below (by (with_reducible repeat (first | apply Kd.V_alloc | apply Kd.V_drewN | apply Kd.V_drew)); exact HO_3.out) hb)
                have n1_ := Aside0.mk (Kd.N_below (by (with_reducible repeat (first | apply Kd.N_alloc | apply Kd.N_drewN | apply Kd.N_drew)); exact HO224.out) hb)
                have n2_ := Aside0.mk (Kd.R_below (by (with_reducible repeat (first | apply Kd.R_alloc | apply Kd.R_drewN | apply Kd.R_drew)); exact HO227.out) hb)
                have n3_ := Aside0.mk (blk_below (g := gb221) (o := .cells #[.string a5_0, .string a5_1, .int .i64 a5_2, .int .i64 a5_3, .int .i64 a5_4] 24 (0, 0)) (by (with_reducible repeat (first | refine blk_drewN ?_ _ | refine blk_drew ?_ | refine blk_alloc ?_ _)); exact BK221.out) hb)
                have n4_ := Aside0.mk (blk_below (g := gb234) (o := .cells #[.string t228, .string t229, .int .i64 t230, .int .i64 t231, .int .i64 t232] 24 (0, 0)) (by (with_reducible repeat (first | refine blk_drewN ?_ _ | refine blk_drew ?_ | refine blk_alloc ?_ _)); exact BK234.out) hb)
                have n5_ := Aside0.mk (blk_below (g := gb241) (o := .cells #[.string t235, .string t236, .int .i64 t237, .int .i64 t238, .int .i64 t239] 24 (0, 0)) (by (with_reducible repeat (first | refine blk_drewN ?_ _ | refine blk_drew ?_ | refine blk_alloc ?_ _)); exact BK241.out) hb)
                have n6_ := Aside0.mk (below_step (by repeat (first | (with_reducible first | exact HB.out | apply below_alloc | apply pw_below_drewN | apply below_drew1 | refine below_set ?_ GE221.out | refine below_set ?_ GE234.out | refine below_set ?_ GE241.out) | exact HB.out)) hb)
                clear HO_3
                clear HO224
                clear HO227
                clear BK221
                clear BK234
                clear BK241
                clear HB
                have HO_3 := n0_
                have HO224 := n1_
                have HO227 := n2_
                have BK221 := n3_
                have BK234 := n4_
                have BK241 := n5_
                have HB := n6_
                clear n0_ n1_ n2_ n3_ n4_ n5_ n6_
                (try clear hb)
                (try clear hb2)
                (try clear hk)
                (try clear hi)
                refine hK.out _ _ ⟨(blk_cell BK234.out 0).trans rfl, (blk_cell BK234.out 1).trans rfl, (blk_cell BK234.out 2).trans rfl, (blk_cell BK234.out 3).trans rfl, (blk_cell BK234.out 4).trans rfl, (blk_cell BK241.out 0).trans rfl, (blk_cell BK241.out 1).trans rfl, (blk_cell BK241.out 2).trans rfl, (blk_cell BK241.out 3).trans rfl, (blk_cell BK241.out 4).trans rfl, (blk_cell BK221.out 0).trans rfl, (blk_cell BK221.out 1).trans rfl, (blk_cell BK221.out 2).trans rfl, (blk_cell BK221.out 3).trans rfl, (blk_cell BK221.out 4).trans rfl, own_string (P := Try.prog) Try.underlying22 Try.underlying5 Try.underlying9 (Kd.own_of_R HO227.out), Came.V_string (P := Try.prog) Try.underlying22 Try.underlying5 Try.underlying9 (q := 5) (base := w.heap.size) HO_3.out⟩ (fun hHeld => ?_)
                clear hK K
                refine norm_ (a' := ?_) ?_ ?_
                rotate_left
                · show Act.put _ (some 58) _ = _
                  simp only [Act.put, List.setIfInBounds_toArray, List.set_cons_zero, List.set_cons_succ, i64_w, i32_w]
                  rfl
                refine pure_ (i := 1) (N := some 59) (v := ?_) (a' := ?_) #[true, true, false, false, false, false, false, false, false, false, false, false, false, false, false, false, false, false, false, false, false, false, false, false, false, false] rfl rfl (any_of HT_.out (by kernel_rfl)) (fun _ _ _ h => h) (Or.inl ⟨by rfl, ?_⟩) ?_ ?_
                rotate_left
                · intro w'
                  go_simp
                  with_reducible rfl
                rotate_left
                · simp only [Act.put, List.setIfInBounds_toArray, List.set_cons_zero, List.set_cons_succ, i64_w, i32_w]
                  rfl
                refine pure_ (i := 2) (N := some 60) (v := ?_) (a' := ?_) #[true, true, true, false, false, false, false, false, false, false, false, false, false, false, false, false, false, false, false, false, false, false, false, false, false, false] rfl rfl (any_of HT_.out (by kernel_rfl)) (fun _ _ _ h => h) (Or.inl ⟨by rfl, ?_⟩) ?_ ?_
                rotate_left
                · intro w'
                  go_simp
                  with_reducible rfl
                rotate_left
                · simp only [Act.put, List.setIfInBounds_toArray, List.set_cons_zero, List.set_cons_succ, i64_w, i32_w]
                  rfl
                refine take_ (i := 3) (N := some 61) (v := ?_) (a' := ?_) #[true, true, true, true, false, false, false, false, false, false, false, false, false, false, false, false, false, false, false, false, false, false, false, false, false, false] rfl rfl (take_ofW HT_.out HW_.out (by kernel_rfl)) (fun _ _ _ h => h) (Or.inl ⟨by rfl, ?_⟩) hHeld ?_ ?_
                rotate_left
                · rintro w' ⟨s0, s1, s2, s3, s4, s5, s6, s7, s8, s9, s10, s11, s12, s13, s14, s15, s16⟩
                  go_simp
                  with_reducible rfl
                rotate_left
                · simp only [Act.put, List.setIfInBounds_toArray, List.set_cons_zero, List.set_cons_succ, i64_w, i32_w]
                  rfl
                refine pure_ (i := 4) (N := some 62) (v := ?_) (a' := ?_) #[true, true, true, true, true, false, false, false, false, false, false, false, false, false, false, false, false, false, false, false, false, false, false, false, false, false] rfl rfl (any_of HT_.out (by kernel_rfl)) (fun _ _ _ h => h) (Or.inl ⟨by rfl, ?_⟩) ?_ ?_
                rotate_left
                · intro w'
                  go_simp
                  with_reducible rfl
                rotate_left
                · simp only [Act.put, List.setIfInBounds_toArray, List.set_cons_zero, List.set_cons_succ, i64_w, i32_w]
                  rfl
                refine take_ (i := 5) (N := some 63) (v := ?_) (a' := ?_) #[true, true, true, true, true, true, false, false, false, false, false, false, false, false, false, false, false, false, false, false, false, false, false, false, false, false] rfl rfl (take_ofW HT_.out HW_.out (by kernel_rfl)) (fun _ _ _ h => h) (Or.inl ⟨by rfl, ?_⟩) hHeld ?_ ?_
                rotate_left
                · rintro w' ⟨s0, s1, s2, s3, s4, s5, s6, s7, s8, s9, s10, s11, s12, s13, s14, s15, s16⟩
                  go_simp
                  with_reducible rfl
                rotate_left
                · simp only [Act.put, List.setIfInBounds_toArray, List.set_cons_zero, List.set_cons_succ, i64_w, i32_w]
                  rfl
                refine pure_ (i := 6) (N := some 64) (v := ?_) (a' := ?_) #[true, true, true, true, true, true, true, false, false, false, false, false, false, false, false, false, false, false, false, false, false, false, false, false, false, false] rfl rfl (any_of HT_.out (by kernel_rfl)) (fun _ _ _ h => h) (Or.inl ⟨by rfl, ?_⟩) ?_ ?_
                rotate_left
                · intro w'
                  go_simp
                  with_reducible rfl
                rotate_left
                · simp only [Act.put, List.setIfInBounds_toArray, List.set_cons_zero, List.set_cons_succ, i64_w, i32_w]
                  rfl
                refine pure_ (i := 7) (N := some 65) (v := ?_) (a' := ?_) #[true, true, true, true, true, true, true, true, false, false, false, false, false, false, false, false, false, false, false, false, false, false, false, false, false, false] rfl rfl (any_of HT_.out (by kernel_rfl)) (fun _ _ _ h => h) (Or.inl ⟨by rfl, ?_⟩) ?_ ?_
                rotate_left
                · intro w'
                  go_simp
                  with_reducible rfl
                rotate_left
                · simp only [Act.put, List.setIfInBounds_toArray, List.set_cons_zero, List.set_cons_succ, i64_w, i32_w]
                  rfl
                refine pure_ (i := 8) (N := some 66) (v := ?_) (a' := ?_) #[true, true, true, true, true, true, true, true, true, false, false, false, false, false, false, false, false, false, false, false, false, false, false, false, false, false] rfl rfl (any_of HT_.out (by kernel_rfl)) (fun _ _ _ h => h) (Or.inl ⟨by rfl, ?_⟩) ?_ ?_
                rotate_left
                · intro w'
                  go_simp
                  with_reducible rfl
                rotate_left
                · simp only [Act.put, List.setIfInBounds_toArray, List.set_cons_zero, List.set_cons_succ, i64_w, i32_w]
                  rfl
                refine take_ (i := 9) (N := some 67) (v := ?_) (a' := ?_) #[true, true, true, true, true, true, true, true, true, true, false, false, false, false, false, false, false, false, false, false, false, false, false, false, false, false] rfl rfl (take_ofW HT_.out HW_.out (by kernel_rfl)) (fun _ _ _ h => h) (Or.inl ⟨by rfl, ?_⟩) hHeld ?_ ?_
                rotate_left
                · rintro w' ⟨s0, s1, s2, s3, s4, s5, s6, s7, s8, s9, s10, s11, s12, s13, s14, s15, s16⟩
                  go_simp
                  with_reducible rfl
                rotate_left
                · simp only [Act.put, List.setIfInBounds_toArray, List.set_cons_zero, List.set_cons_succ, i64_w, i32_w]
                  rfl
                refine take_ (i := 10) (N := some 68) (v := ?_) (a' := ?_) #[true, true, true, true, true, true, true, true, true, true, true, false, false, false, false, false, false, false, false, false, false, false, false, false, false, false] rfl rfl (take_ofW HT_.out HW_.out (by kernel_rfl)) (fun _ _ _ h => h) (Or.inl ⟨by rfl, ?_⟩) hHeld ?_ ?_
                rotate_left
                · rintro w' ⟨s0, s1, s2, s3, s4, s5, s6, s7, s8, s9, s10, s11, s12, s13, s14, s15, s16⟩
                  go_simp
                  with_reducible rfl
                rotate_left
                · simp only [Act.put, List.setIfInBounds_toArray, List.set_cons_zero, List.set_cons_succ, i64_w, i32_w]
                  rfl
                refine pure_ (i := 11) (N := some 69) (v := ?_) (a' := ?_) #[true, true, true, true, true, true, true, true, true, true, true, true, false, false, false, false, false, false, false, false, false, false, false, false, false, false] rfl rfl (any_of HT_.out (by kernel_rfl)) (fun _ _ _ h => h) (Or.inl ⟨by rfl, ?_⟩) ?_ ?_
                rotate_left
                · intro w'
                  go_simp
                  with_reducible rfl
                rotate_left
                · simp only [Act.put, List.setIfInBounds_toArray, List.set_cons_zero, List.set_cons_succ, i64_w, i32_w]
                  rfl
                refine pure_ (i := 12) (N := some 70) (v := ?_) (a' := ?_) #[true, true, true, true, true, true, true, true, true, true, true, true, true, false, false, false, false, false, false, false, false, false, false, false, false, false] rfl rfl (any_of HT_.out (by kernel_rfl)) (fun _ _ _ h => h) (Or.inl ⟨by rfl, ?_⟩) ?_ ?_
                rotate_left
                · intro w'
                  go_simp
                  with_reducible rfl
                rotate_left
                · simp only [Act.put, List.setIfInBounds_toArray, List.set_cons_zero, List.set_cons_succ, i64_w, i32_w]
                  rfl
                refine pure_ (i := 13) (N := some 71) (v := ?_) (a' := ?_) #[true, true, true, true, true, true, true, true, true, true, true, true, true, true, false, false, false, false, false, false, false, false, false, false, false, false] rfl rfl (any_of HT_.out (by kernel_rfl)) (fun _ _ _ h => h) (Or.inl ⟨by rfl, ?_⟩) ?_ ?_
                rotate_left
                · intro w'
                  go_simp
                  with_reducible rfl
                rotate_left
                · simp only [Act.put, List.setIfInBounds_toArray, List.set_cons_zero, List.set_cons_succ, i64_w, i32_w]
                  rfl
                refine pure_ (i := 14) (N := some 72) (v := ?_) (a' := ?_) #[true, true, true, true, true, true, true, true, true, true, true, true, true, true, true, false, false, false, false, false, false, false, false, false, false, false] rfl rfl (any_of HT_.out (by kernel_rfl)) (fun _ _ _ h => h) (Or.inl ⟨by rfl, ?_⟩) ?_ ?_
                rotate_left
                · intro w'
                  go_simp
                  with_reducible rfl
                rotate_left
                · simp only [Act.put, List.setIfInBounds_toArray, List.set_cons_zero, List.set_cons_succ, i64_w, i32_w]
                  rfl
                refine pure_ (i := 15) (N := some 73) (v := ?_) (a' := ?_) #[true, true, true, true, true, true, true, true, true, true, true, true, true, true, true, true, false, false, false, false, false, false, false, false, false, false] rfl rfl (any_of HT_.out (by kernel_rfl)) (fun _ _ _ h => h) (Or.inl ⟨by rfl, ?_⟩) ?_ ?_
                rotate_left
                · intro w'
                  go_simp
                  with_reducible rfl
                rotate_left
                · simp only [Act.put, List.setIfInBounds_toArray, List.set_cons_zero, List.set_cons_succ, i64_w, i32_w]
                  rfl
                refine pure_ (i := 16) (N := some 74) (v := ?_) (a' := ?_) #[true, true, true, true, true, true, true, true, true, true, true, true, true, true, true, true, true, false, false, false, false, false, false, false, false, false] rfl rfl (any_of HT_.out (by kernel_rfl)) (fun _ _ _ h => h) (Or.inl ⟨by rfl, ?_⟩) ?_ ?_
                rotate_left
                · intro w'
                  go_simp
                  with_reducible rfl
                rotate_left
                · simp only [Act.put, List.setIfInBounds_toArray, List.set_cons_zero, List.set_cons_succ, i64_w, i32_w]
                  rfl
                refine pure_ (i := 17) (N := some 75) (v := ?_) (a' := ?_) #[true, true, true, true, true, true, true, true, true, true, true, true, true, true, true, true, true, true, false, false, false, false, false, false, false, false] rfl rfl (any_of HT_.out (by kernel_rfl)) (fun _ _ _ h => h) (Or.inl ⟨by rfl, ?_⟩) ?_ ?_
                rotate_left
                · intro w'
                  go_simp
                  with_reducible rfl
                rotate_left
                · simp only [Act.put, List.setIfInBounds_toArray, List.set_cons_zero, List.set_cons_succ, i64_w, i32_w]
                  rfl
                refine pure_ (i := 18) (N := some 76) (v := ?_) (a' := ?_) #[true, true, true, true, true, true, true, true, true, true, true, true, true, true, true, true, true, true, true, false, false, false, false, false, false, false] rfl rfl (any_of HT_.out (by kernel_rfl)) (fun _ _ _ h => h) (Or.inl ⟨by rfl, ?_⟩) ?_ ?_
                rotate_left
                · intro w'
                  go_simp
                  with_reducible rfl
                rotate_left
                · simp only [Act.put, List.setIfInBounds_toArray, List.set_cons_zero, List.set_cons_succ, i64_w, i32_w]
                  rfl
                refine take_ (i := 19) (N := some 77) (v := ?_) (a' := ?_) #[true, true, true, true, true, true, true, true, true, true, true, true, true, true, true, true, true, true, true, true, false, false, false, false, false, false] rfl rfl (take_ofW HT_.out HW_.out (by kernel_rfl)) (fun _ _ _ h => h) (Or.inl ⟨by rfl, ?_⟩) hHeld ?_ ?_
                rotate_left
                · rintro w' ⟨s0, s1, s2, s3, s4, s5, s6, s7, s8, s9, s10, s11, s12, s13, s14, s15, s16⟩
                  go_simp
                  with_reducible rfl
                rotate_left
                · simp only [Act.put, List.setIfInBounds_toArray, List.set_cons_zero, List.set_cons_succ, i64_w, i32_w]
                  rfl
                refine take_ (i := 21) (N := some 79) (v := ?_) (a' := ?_) #[true, true, true, true, true, true, true, true, true, true, true, true, true, true, true, true, true, true, true, true, false, true, false, false, false, false] rfl rfl (take_ofW HT_.out HW_.out (by kernel_rfl)) (fun _ _ _ h => h) (Or.inl ⟨by rfl, ?_⟩) hHeld ?_ ?_
                rotate_left
                · rintro w' ⟨s0, s1, s2, s3, s4, s5, s6, s7, s8, s9, s10, s11, s12, s13, s14, s15, s16⟩
                  go_simp
                  with_reducible rfl
                rotate_left
                · simp only [Act.put, List.setIfInBounds_toArray, List.set_cons_zero, List.set_cons_succ, i64_w, i32_w]
                  rfl
                refine one_ (i := 20) (N := some 78) #[true, true, true, true, true, true, true, true, true, true, true, true, true, true, true, true, true, true, true, true, true, true, false, false, false, false] rfl rfl (one_of HT_.out (by kernel_rfl)) (by decide) (fun K hK => ?_)
                refine goes_ Try.func11 (by kernel_rfl) rfl #[.agg #[.string a5_0, .string a5_1, .int .i64 a5_2, .int .i64 a5_3, .int .i64 a5_4]] (by rfl) rfl rfl (by (try simp only [List.map_toArray, List.map_cons, List.map_nil]); first | done | rfl | (simp only [List.length_drop, List.length_take]; rfl)) ?_
                with_reducible refine (pick_Turned.calls a5_0 a5_1 a5_2 a5_3 a5_4 t243 t244 t245 t246 t247 _ A21.out).mono ?_
                rintro e w43 ⟨rfl, hb⟩
                refine ⟨_, rfl, ?_⟩
                have n0_ := Aside0.mk (Kd.V_below (by (with_reducible repeat (first | apply Kd.V_alloc | apply Kd.V_drewN | apply Kd.V_drew)); exact HO_3.out) hb)
                have n1_ := Aside0.mk (Kd.N_below (by (with_reducible repeat (first | apply Kd.N_alloc | apply Kd.N_drewN | apply Kd.N_drew)); exact HO224.out) hb)
                have n2_ := Aside0.mk (Kd.R_below (by (with_reducible repeat (first | apply Kd.R_alloc | apply Kd.R_drewN | apply Kd.R_drew)); exact HO227.out) hb)
                have n3_ := Aside0.mk (blk_below (g := gb221) (o := .cells #[.string a5_0, .string a5_1, .int .i64 a5_2, .int .i64 a5_3, .int .i64 a5_4] 24 (0, 0)) (by (with_reducible repeat (first | refine blk_drewN ?_ _ | refine blk_drew ?_ | refine blk_alloc ?_ _)); exact BK221.out) hb)
                have n4_ := Aside0.mk (blk_below (g := gb234) (o := .cells #[.string t228, .string t229, .int .i64 t230, .int .i64 t231, .int .i64 t232] 24 (0, 0)) (by (with_reducible repeat (first | refine blk_drewN ?_ _ | refine blk_drew ?_ | refine blk_alloc ?_ _)); exact BK234.out) hb)
                have n5_ := Aside0.mk (blk_below (g := gb241) (o := .cells #[.string t235, .string t236, .int .i64 t237, .int .i64 t238, .int .i64 t239] 24 (0, 0)) (by (with_reducible repeat (first | refine blk_drewN ?_ _ | refine blk_drew ?_ | refine blk_alloc ?_ _)); exact BK241.out) hb)
                have n6_ := Aside0.mk (below_step (by repeat (first | (with_reducible first | exact HB.out | apply below_alloc | apply pw_below_drewN | apply below_drew1 | refine below_set ?_ GE221.out | refine below_set ?_ GE234.out | refine below_set ?_ GE241.out) | exact HB.out)) hb)
                clear HO_3
                clear HO224
                clear HO227
                clear BK221
                clear BK234
                clear BK241
                clear HB
                have HO_3 := n0_
                have HO224 := n1_
                have HO227 := n2_
                have BK221 := n3_
                have BK234 := n4_
                have BK241 := n5_
                have HB := n6_
                clear n0_ n1_ n2_ n3_ n4_ n5_ n6_
                (try clear hb)
                (try clear hb2)
                (try clear hk)
                (try clear hi)
                refine hK.out _ _ ⟨(blk_cell BK234.out 0).trans rfl, (blk_cell BK234.out 1).trans rfl, (blk_cell BK234.out 2).trans rfl, (blk_cell BK234.out 3).trans rfl, (blk_cell BK234.out 4).trans rfl, (blk_cell BK241.out 0).trans rfl, (blk_cell BK241.out 1).trans rfl, (blk_cell BK241.out 2).trans rfl, (blk_cell BK241.out 3).trans rfl, (blk_cell BK241.out 4).trans rfl, (blk_cell BK221.out 0).trans rfl, (blk_cell BK221.out 1).trans rfl, (blk_cell BK221.out 2).trans rfl, (blk_cell BK221.out 3).trans rfl, (blk_cell BK221.out 4).trans rfl, own_string (P := Try.prog) Try.underlying22 Try.underlying5 Try.underlying9 (Kd.own_of_R HO227.out), Came.V_string (P := Try.prog) Try.underlying22 Try.underlying5 Try.underlying9 (q := 5) (base := w.heap.size) HO_3.out⟩ (fun hHeld => ?_)
                clear hK K
                refine norm_ (a' := ?_) ?_ ?_
                rotate_left
                · show Act.put _ (some 78) _ = _
                  simp only [Act.put, List.setIfInBounds_toArray, List.set_cons_zero, List.set_cons_succ, i64_w, i32_w]
                  rfl
                refine one_ (i := 22) (N := some 80) #[true, true, true, true, true, true, true, true, true, true, true, true, true, true, true, true, true, true, true, true, true, true, true, false, false, false] rfl rfl (one_of HT_.out (by kernel_rfl)) (by decide) (fun K hK => ?_)
                refine goes_ Try.func12 (by kernel_rfl) rfl #[.agg #[.string a5_0, .string a5_1, .int .i64 a5_2, .int .i64 a5_3, .int .i64 a5_4]] (by rfl) rfl rfl (by (try simp only [List.map_toArray, List.map_cons, List.map_nil]); first | done | rfl | (simp only [List.length_drop, List.length_take]; rfl)) ?_
                with_reducible refine (redoubtref15_Turned.calls a5_0 a5_1 a5_2 a5_3 a5_4 t248 t249 t250 t251 t252 _ A22.out).mono ?_
                rintro e w44 ⟨rfl, hb⟩
                refine ⟨_, rfl, ?_⟩
                have n0_ := Aside0.mk (Kd.V_below (by (with_reducible repeat (first | apply Kd.V_alloc | apply Kd.V_drewN | apply Kd.V_drew)); exact HO_3.out) hb)
                have n1_ := Aside0.mk (Kd.N_below (by (with_reducible repeat (first | apply Kd.N_alloc | apply Kd.N_drewN | apply Kd.N_drew)); exact HO224.out) hb)
                have n2_ := Aside0.mk (Kd.R_below (by (with_reducible repeat (first | apply Kd.R_alloc | apply Kd.R_drewN | apply Kd.R_drew)); exact HO227.out) hb)
                have n3_ := Aside0.mk (blk_below (g := gb221) (o := .cells #[.string a5_0, .string a5_1, .int .i64 a5_2, .int .i64 a5_3, .int .i64 a5_4] 24 (0, 0)) (by (with_reducible repeat (first | refine blk_drewN ?_ _ | refine blk_drew ?_ | refine blk_alloc ?_ _)); exact BK221.out) hb)
                have n4_ := Aside0.mk (blk_below (g := gb234) (o := .cells #[.string t228, .string t229, .int .i64 t230, .int .i64 t231, .int .i64 t232] 24 (0, 0)) (by (with_reducible repeat (first | refine blk_drewN ?_ _ | refine blk_drew ?_ | refine blk_alloc ?_ _)); exact BK234.out) hb)
                have n5_ := Aside0.mk (blk_below (g := gb241) (o := .cells #[.string t235, .string t236, .int .i64 t237, .int .i64 t238, .int .i64 t239] 24 (0, 0)) (by (with_reducible repeat (first | refine blk_drewN ?_ _ | refine blk_drew ?_ | refine blk_alloc ?_ _)); exact BK241.out) hb)
                have n6_ := Aside0.mk (below_step (by repeat (first | (with_reducible first | exact HB.out | apply below_alloc | apply pw_below_drewN | apply below_drew1 | refine below_set ?_ GE221.out | refine below_set ?_ GE234.out | refine below_set ?_ GE241.out) | exact HB.out)) hb)
                clear HO_3
                clear HO224
                clear HO227
                clear BK221
                clear BK234
                clear BK241
                clear HB
                have HO_3 := n0_
                have HO224 := n1_
                have HO227 := n2_
                have BK221 := n3_
                have BK234 := n4_
                have BK241 := n5_
                have HB := n6_
                clear n0_ n1_ n2_ n3_ n4_ n5_ n6_
                (try clear hb)
                (try clear hb2)
                (try clear hk)
                (try clear hi)
                refine hK.out _ _ ⟨(blk_cell BK234.out 0).trans rfl, (blk_cell BK234.out 1).trans rfl, (blk_cell BK234.out 2).trans rfl, (blk_cell BK234.out 3).trans rfl, (blk_cell BK234.out 4).trans rfl, (blk_cell BK241.out 0).trans rfl, (blk_cell BK241.out 1).trans rfl, (blk_cell BK241.out 2).trans rfl, (blk_cell BK241.out 3).trans rfl, (blk_cell BK241.out 4).trans rfl, (blk_cell BK221.out 0).trans rfl, (blk_cell BK221.out 1).trans rfl, (blk_cell BK221.out 2).trans rfl, (blk_cell BK221.out 3).trans rfl, (blk_cell BK221.out 4).trans rfl, own_string (P := Try.prog) Try.underlying22 Try.underlying5 Try.underlying9 (Kd.own_of_R HO227.out), Came.V_string (P := Try.prog) Try.underlying22 Try.underlying5 Try.underlying9 (q := 5) (base := w.heap.size) HO_3.out⟩ (fun hHeld => ?_)
                clear hK K
                refine norm_ (a' := ?_) ?_ ?_
                rotate_left
                · show Act.put _ (some 80) _ = _
                  simp only [Act.put, List.setIfInBounds_toArray, List.set_cons_zero, List.set_cons_succ, i64_w, i32_w]
                  rfl
                refine pure_ (i := 23) (N := some 81) (v := ?_) (a' := ?_) #[true, true, true, true, true, true, true, true, true, true, true, true, true, true, true, true, true, true, true, true, true, true, true, true, false, false] rfl rfl (any_of HT_.out (by kernel_rfl)) (fun _ _ _ h => h) (Or.inl ⟨by rfl, ?_⟩) ?_ ?_
                rotate_left
                · intro w'
                  go_simp
                  with_reducible rfl
                rotate_left
                · simp only [Act.put, List.setIfInBounds_toArray, List.set_cons_zero, List.set_cons_succ, i64_w, i32_w]
                  rfl
                refine pure_ (i := 24) (N := some 82) (v := ?_) (a' := ?_) #[true, true, true, true, true, true, true, true, true, true, true, true, true, true, true, true, true, true, true, true, true, true, true, true, true, false] rfl rfl (any_of HT_.out (by kernel_rfl)) (fun _ _ _ h => h) (Or.inl ⟨by rfl, ?_⟩) ?_ ?_
                rotate_left
                · intro w'
                  go_simp
                  with_reducible rfl
                rotate_left
                · simp only [Act.put, List.setIfInBounds_toArray, List.set_cons_zero, List.set_cons_succ, i64_w, i32_w]
                  rfl
                refine pure_ (i := 25) (N := some 12) (v := ?_) (a' := ?_) #[true, true, true, true, true, true, true, true, true, true, true, true, true, true, true, true, true, true, true, true, true, true, true, true, true, true] rfl rfl (any_of HT_.out (by kernel_rfl)) (fun _ _ _ h => h) (Or.inl ⟨by rfl, ?_⟩) ?_ ?_
                rotate_left
                · intro w'
                  go_simp
                  with_reducible rfl
                rotate_left
                · simp only [Act.put, List.setIfInBounds_toArray, List.set_cons_zero, List.set_cons_succ, i64_w, i32_w]
                  rfl
                refine done_ (done_of HT_.out (by kernel_rfl)) ?_
                try go_wp2
                go_ret
                exact ⟨by first | rfl | (simp [errW_none, errW_some] <;> rfl) | (simp [*, errW_none, errW_some] <;> rfl), by repeat (first | (with_reducible first | exact HB.out | apply below_alloc | apply pw_below_drewN | apply below_drew1 | refine below_set ?_ GE221.out | refine below_set ?_ GE234.out | refine below_set ?_ GE241.out) | exact HB.out)⟩
              · rw [if_neg c20] at H
                have c20b0 : (t233 == t240) = false := beq_eq_false_iff_ne.mpr c20
                have c20b1 : (t233 != t240) = true := bne_iff_ne.mpr c20
                exact absurd (HRT.out.symm.trans (Option.some.inj H).symm) (by decide)
            · rw [if_neg c19] at H
              have c19b0 : (t228.toList == t235.toList && (t229.toList == t236.toList && (t230 == t237 && (t231 == t238 && (t232 == t239))))) = false := by simpa using c19
              (try (have c19b1 : decide (t228.toList = t235.toList && (t229.toList == t236.toList && (t230 == t237 && (t231 == t238 && (t232 == t239))))) = false := by simpa using c19))
              (try (have c19b2 : (t228.toList == t235.toList && (t229.toList == t236.toList && (t230 == t237 && (t231 == t238 && (t232 == t239))))) = false := by simpa using c19))
              (try (have c19b3 : ¬ (t228.toList = t235.toList && (t229.toList == t236.toList && (t230 == t237 && (t231 == t238 && (t232 == t239))))) := by simpa using c19))
              clear c19
              exact absurd (HRT.out.symm.trans (Option.some.inj H).symm) (by decide)
          · rw [if_neg c18] at H
            have c18b0 : ((strOfNums t225).toList == (strOfNums l3).toList) = false := beq_eq_false_iff_ne.mpr c18
            have c18b1 : ((strOfNums t225).toList != (strOfNums l3).toList) = true := bne_iff_ne.mpr c18
            exact absurd (HRT.out.symm.trans (Option.some.inj H).symm) (by decide)
        · replace c17 := Bool.eq_false_iff.mpr c17
          subst c17
          have H1 : (some false) = some r := by rw [if_neg (show ¬ (false = true) by decide)] at H; exact H
          clear H
          have H := H1
          clear H1
          exact absurd (HRT.out.symm.trans (Option.some.inj H).symm) (by decide)
end Go.Proofs.Ytcohcbfodmoblaa.QFl
