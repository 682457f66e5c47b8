-- PRINTED BY print.sh 35421559b90ae4d0a3588c463048766b98c2df88dd9212a6774a882060cdf62d: not written by this session
import Derived.Test.YtpodidgdlcfaeaaPIp6Laysx0
namespace Go.Proofs.Ytpodidgdlcfaeaa.PIp6Lays
open Go.RowKit Go.Proofs.YtpodidgdlcfaeaaW.PrintWords Go.Proofs.YtpodidgdlcfaeaaW.PrintLast Go.Proofs.YtpodidgdlcfaeaaW.PrintMore
attribute [local go_sem] max2_int min2_int max_two min_two max_three min_three max_four min_four   -- for this text's walks alone
set_option linter.unusedVariables false
set_option linter.unusedSimpArgs false

/-! ### redoubtlaw04_few: function 12 -/
mutual
def redoubtlaw04_few.j0 : Nat → Bool → Int → Int → Int → ByteArray → ByteArray → List (S43) → Int → List Int → Option (Bool)
  | 0, _, _, _, _, _, _, _, _, _ => none
  | k + 1, x35, x125000, x125001, x125002, x125003, x125004, x125005, x125006, x125007 => if x35 = true then (some false) else (redoubtlaw04_few.l0 k 0 x125000 x125001 x125002 x125003 x125004 x125005 x125006 x125007)
def redoubtlaw04_few.l0 : Nat → Int → Int → Int → Int → ByteArray → ByteArray → List (S43) → Int → List Int → Option (Bool)
  | 0, _, _, _, _, _, _, _, _, _ => none
  | k + 1, x3, x125000, x125001, x125002, x125003, x125004, x125005, x125006, x125007 => if x3 < (x125005.length : Int) then (if 0 ≤ x3 then (if (((rd_T43 x125005 x3).f1).size : Int) > 2100 then (some false) else (redoubtlaw04_few.l0 k (wrap64 (x3 + 1)) x125000 x125001 x125002 x125003 x125004 x125005 x125006 x125007)) else (none)) else (some true)
end
def redoubtlaw04_few.f (k : Nat) (a0_0 : Int) (a0_1 : Int) (a0_2 : Int) (a0_3 : ByteArray) (a0_4 : ByteArray) (l0_5 : List (S43)) (a0_6 : Int) (l0_7 : List Int) : Option (Bool) := if (wrap64 ((a0_3.size : Int) + (a0_4.size : Int))) > 300 then (redoubtlaw04_few.j0 k true a0_0 a0_1 a0_2 a0_3 a0_4 l0_5 a0_6 l0_7) else (if (l0_5.length : Int) > 40 then (redoubtlaw04_few.j0 k true a0_0 a0_1 a0_2 a0_3 a0_4 l0_5 a0_6 l0_7) else (if (l0_7.length : Int) > 2000 then (if (l0_7.length : Int) < 63000 then (redoubtlaw04_few.j0 k true a0_0 a0_1 a0_2 a0_3 a0_4 l0_5 a0_6 l0_7) else (redoubtlaw04_few.j0 k (decide ((l0_7.length : Int) > 66000)) a0_0 a0_1 a0_2 a0_3 a0_4 l0_5 a0_6 l0_7)) else (redoubtlaw04_few.j0 k (decide ((l0_7.length : Int) > 66000)) a0_0 a0_1 a0_2 a0_3 a0_4 l0_5 a0_6 l0_7)))
theorem redoubtlaw04_few.mono_l : ∀ k, (∀ y0 y1 y2 y3 y4 y5 y6 y7 y8, LeO (redoubtlaw04_few.j0 k y0 y1 y2 y3 y4 y5 y6 y7 y8) (redoubtlaw04_few.j0 (k + 1) y0 y1 y2 y3 y4 y5 y6 y7 y8)) ∧ (∀ y0 y1 y2 y3 y4 y5 y6 y7 y8, LeO (redoubtlaw04_few.l0 k y0 y1 y2 y3 y4 y5 y6 y7 y8) (redoubtlaw04_few.l0 (k + 1) y0 y1 y2 y3 y4 y5 y6 y7 y8))
  | 0 => ⟨fun _ _ _ _ _ _ _ _ _ r h => by simp [redoubtlaw04_few.j0] at h, fun _ _ _ _ _ _ _ _ _ r h => by simp [redoubtlaw04_few.l0] at h⟩
  | k + 1 => by
    obtain ⟨ih0, ih1⟩ := redoubtlaw04_few.mono_l k
    refine ⟨?_, ?_⟩
    · intro y0 y1 y2 y3 y4 y5 y6 y7 y8
      unfold redoubtlaw04_few.j0
      repeat' first
      | (with_reducible exact ih0 _ _ _ _ _ _ _ _ _)
      | (with_reducible exact ih1 _ _ _ _ _ _ _ _ _)
      | (with_reducible exact LeO.refl _)
      | (with_reducible exact LeO.none _)
      | (with_reducible refine LeO.ite ?_ ?_)
      | (with_reducible refine LeO.bind ?_ (fun _ => ?_))
      | exact ih0 _ _ _ _ _ _ _ _ _
      | exact ih1 _ _ _ _ _ _ _ _ _
      | exact LeO.none _
      | refine LeO.ite ?_ ?_
      | refine LeO.bind ?_ (fun _ => ?_)
    · intro y0 y1 y2 y3 y4 y5 y6 y7 y8
      unfold redoubtlaw04_few.l0
      repeat' first
      | (with_reducible exact ih0 _ _ _ _ _ _ _ _ _)
      | (with_reducible exact ih1 _ _ _ _ _ _ _ _ _)
      | (with_reducible exact LeO.refl _)
      | (with_reducible exact LeO.none _)
      | (with_reducible refine LeO.ite ?_ ?_)
      | (with_reducible refine LeO.bind ?_ (fun _ => ?_))
      | exact ih0 _ _ _ _ _ _ _ _ _
      | exact ih1 _ _ _ _ _ _ _ _ _
      | exact LeO.none _
      | refine LeO.ite ?_ ?_
      | refine LeO.bind ?_ (fun _ => ?_)
theorem redoubtlaw04_few.mono : ∀ a0 a1 a2 a3 a4 a5 a6 a7 k, LeO (redoubtlaw04_few.f k a0 a1 a2 a3 a4 a5 a6 a7) (redoubtlaw04_few.f (k + 1) a0 a1 a2 a3 a4 a5 a6 a7) := by
  intro a0 a1 a2 a3 a4 a5 a6 a7 k
  obtain ⟨ih0, ih1⟩ := redoubtlaw04_few.mono_l k
  unfold redoubtlaw04_few.f
  repeat' first
      | (with_reducible exact ih0 _ _ _ _ _ _ _ _ _)
      | (with_reducible exact ih1 _ _ _ _ _ _ _ _ _)
      | (with_reducible exact LeO.refl _)
      | (with_reducible exact LeO.none _)
      | (with_reducible refine LeO.ite ?_ ?_)
      | (with_reducible refine LeO.bind ?_ (fun _ => ?_))
      | exact ih0 _ _ _ _ _ _ _ _ _
      | exact ih1 _ _ _ _ _ _ _ _ _
      | exact LeO.none _
      | refine LeO.ite ?_ ?_
      | refine LeO.bind ?_ (fun _ => ?_)
set_option maxHeartbeats 8000000 in
set_option maxRecDepth 100000 in
theorem redoubtlaw04_few.calls (k : Nat) (a0_0 : Int) (a0_1 : Int) (a0_2 : Int) (a0_3 : ByteArray) (a0_4 : ByteArray) (A0_5 : Option Addr) (c0_5 : Nat) (l0_5 : List (S43)) (a0_6 : Int) (A0_7 : Option Addr) (c0_7 : Nat) (l0_7 : List Int) (r : Bool) (w : World) (hr0_5 : Kd.C k43 w A0_5 l0_5.length l0_5) (hc0_5 : l0_5.length ≤ c0_5) (hr0_7 : Kd.C (Kd.int .u8) w A0_7 l0_7.length l0_7) (hc0_7 : l0_7.length ≤ c0_7) (h : redoubtlaw04_few.f k a0_0 a0_1 a0_2 a0_3 a0_4 l0_5 a0_6 l0_7 = some r) :
    Calls Try.prog 12 #[.agg #[.int .i64 a0_0, .int .i64 a0_1, .int .i64 a0_2, .string a0_3, .string a0_4, .slice A0_5 l0_5.length c0_5, .int .i64 a0_6, .slice A0_7 l0_7.length c0_7]] w fun e w' => e = .returned (.bool r) ∧ Below w.heap.size w w' := by
  have hu26 := Try.underlying26
  have HR0_5 := Aside0.mk hr0_5
  have HC0_5 := Aside0.mk hc0_5
  clear hr0_5 hc0_5
  have HR0_7 := Aside0.mk hr0_7
  have HC0_7 := Aside0.mk hc0_7
  clear hr0_7 hc0_7
  have HB := Aside0.mk (Below.refl w.heap.size w)
  have H : (if (wrap64 ((a0_3.size : Int) + (a0_4.size : Int))) > 300 then (redoubtlaw04_few.j0 k true a0_0 a0_1 a0_2 a0_3 a0_4 l0_5 a0_6 l0_7) else (if (l0_5.length : Int) > 40 then (redoubtlaw04_few.j0 k true a0_0 a0_1 a0_2 a0_3 a0_4 l0_5 a0_6 l0_7) else (if (l0_7.length : Int) > 2000 then (if (l0_7.length : Int) < 63000 then (redoubtlaw04_few.j0 k true a0_0 a0_1 a0_2 a0_3 a0_4 l0_5 a0_6 l0_7) else (redoubtlaw04_few.j0 k (decide ((l0_7.length : Int) > 66000)) a0_0 a0_1 a0_2 a0_3 a0_4 l0_5 a0_6 l0_7)) else (redoubtlaw04_few.j0 k (decide ((l0_7.length : Int) > 66000)) a0_0 a0_1 a0_2 a0_3 a0_4 l0_5 a0_6 l0_7)))) = some r := h
  clear h
  have HC2 := Aside0.mk H
  clear H
  go_enter Try.func12, Try.ntmps12
  go_upto_region 1 with (first | ((with_reducible refine gate_dst (N := 1) rfl ?_); (try (refine gate_guard (by rfl) ?_; dsimp only)); refine box_event ?hg (N := 1) ?hd (cs := #[.int .i64 a0_0, .int .i64 a0_1, .int .i64 a0_2, .string a0_3, .string a0_4, .slice A0_5 l0_5.length c0_5, .int .i64 a0_6, .slice A0_7 l0_7.length c0_7]) (t := 26) ?hr ?_; (case hd => rfl); (case hg => rfl); (case hr => first | (go_simp; done) | (go_simp; rfl)); intro gb124 hg w3 hbox hb; have n0_ := Aside0.mk (below_step (by repeat (first | (with_reducible first | exact HB.out | apply below_alloc | apply pw_below_drewN | apply below_drew1) | exact HB.out)) hb); have n1_ := Aside0.mk (hbox); have n2_ := Aside0.mk ((by rw [hg]; exact (below_size (by repeat (first | (with_reducible first | exact HB.out | apply below_alloc | apply pw_below_drewN | apply below_drew1) | exact HB.out))) : w.heap.size ≤ gb124)); have n3_ := Aside0.mk ((by rw [hg]; exact (below_size (by repeat (first | (with_reducible first | exact HB.out | apply below_alloc | apply pw_below_drewN | apply below_drew1) | exact HB.out))) : w.heap.size ≤ gb124)); clear HB; have HB := n0_; have BK124 := n1_; have GW124 := n2_; have GE124 := n3_; clear n0_ n1_ n2_ n3_; clear hb hbox hg))
  (try simp only [Act.put, List.setIfInBounds_toArray, List.set_cons_zero, List.set_cons_succ])
  go_cut [35] (fun v35 wc => ∃ (kq : Nat) (x35_1 : Bool), v35 = .bool x35_1 ∧ Aside0 (redoubtlaw04_few.j0 kq x35_1 a0_0 a0_1 a0_2 a0_3 a0_4 l0_5 a0_6 l0_7 = some r) ∧ Aside0 (kq ≤ k) ∧ Aside0 (wc.heap[gb124]? = some (.cells #[.int .i64 a0_0, .int .i64 a0_1, .int .i64 a0_2, .string a0_3, .string a0_4, (.slice A0_5 l0_5.length c0_5), .int .i64 a0_6, (.slice A0_7 l0_7.length c0_7)] 26 (0, 0))) ∧ Aside0 (Below w.heap.size w wc))
  case first =>
    have H := HC2.out
    clear HC2
    by_cases c4 : (wrap64 ((a0_3.size : Int) + (a0_4.size : Int))) > 300
    · rw [if_pos c4] at H
      have c4b0 : decide (300 < (wrap64 ((a0_3.size : Int) + (a0_4.size : Int)))) = true := decide_eq_true c4
      clear c4
      (first | rw [c4b0] | (simp only [i64_w, i32_w]; rw [c4b0]) | skip)
      have H' := Aside0.mk H
      clear H
      have hcz5_0 : w3.cell? ⟨gb124, 0, none⟩ = some (.int .i64 a0_0) := (blk_cell BK124.out 0).trans rfl
      have hcz5_1 : w3.cell? ⟨gb124, 1, none⟩ = some (.int .i64 a0_1) := (blk_cell BK124.out 1).trans rfl
      have hcz5_2 : w3.cell? ⟨gb124, 2, none⟩ = some (.int .i64 a0_2) := (blk_cell BK124.out 2).trans rfl
      have hcz5_3 : w3.cell? ⟨gb124, 3, none⟩ = some (.string a0_3) := (blk_cell BK124.out 3).trans rfl
      have hcz5_4 : w3.cell? ⟨gb124, 4, none⟩ = some (.string a0_4) := (blk_cell BK124.out 4).trans rfl
      have hcz5_5 : w3.cell? ⟨gb124, 5, none⟩ = some (.slice A0_5 l0_5.length c0_5) := (blk_cell BK124.out 5).trans rfl
      have hcz5_6 : w3.cell? ⟨gb124, 6, none⟩ = some (.int .i64 a0_6) := (blk_cell BK124.out 6).trans rfl
      have hcz5_7 : w3.cell? ⟨gb124, 7, none⟩ = some (.slice A0_7 l0_7.length c0_7) := (blk_cell BK124.out 7).trans rfl
      have hfz5_0 := blk_frozen BK124.out 0
      have hfz5_1 := blk_frozen BK124.out 1
      have hfz5_2 := blk_frozen BK124.out 2
      have hfz5_3 := blk_frozen BK124.out 3
      have hfz5_4 := blk_frozen BK124.out 4
      have hfz5_5 := blk_frozen BK124.out 5
      have hfz5_6 := blk_frozen BK124.out 6
      have hfz5_7 := blk_frozen BK124.out 7
      go_wp2
      go_meet
      case rel => exact ⟨_, (true), (by first | rfl | (simp; done) | (simp [*]; done)), H', ⟨by first | omega | exact Nat.le_refl _⟩, ⟨by (with_reducible repeat (first | refine blk_drewN ?_ _ | refine blk_drew ?_ | refine blk_alloc ?_ _)); exact BK124.out⟩, ⟨by repeat (first | (with_reducible first | exact HB.out | apply below_alloc | apply pw_below_drewN | apply below_drew1 | refine below_set ?_ GE124.out) | exact HB.out)⟩⟩
    · rw [if_neg c4] at H
      have c4b0 : decide (300 < (wrap64 ((a0_3.size : Int) + (a0_4.size : Int)))) = false := decide_eq_false c4
      clear c4
      (first | rw [c4b0] | (simp only [i64_w, i32_w]; rw [c4b0]) | skip)
      by_cases c6 : (l0_5.length : Int) > 40
      · rw [if_pos c6] at H
        have c6b0 : decide (40 < (l0_5.length : Int)) = true := decide_eq_true c6
        have c6b1 : decide (40 < l0_5.length) = true := decide_eq_true (by omega)
        clear c6
        have H' := Aside0.mk H
        clear H
        have hcz7_0 : w3.cell? ⟨gb124, 0, none⟩ = some (.int .i64 a0_0) := (blk_cell BK124.out 0).trans rfl
        have hcz7_1 : w3.cell? ⟨gb124, 1, none⟩ = some (.int .i64 a0_1) := (blk_cell BK124.out 1).trans rfl
        have hcz7_2 : w3.cell? ⟨gb124, 2, none⟩ = some (.int .i64 a0_2) := (blk_cell BK124.out 2).trans rfl
        have hcz7_3 : w3.cell? ⟨gb124, 3, none⟩ = some (.string a0_3) := (blk_cell BK124.out 3).trans rfl
        have hcz7_4 : w3.cell? ⟨gb124, 4, none⟩ = some (.string a0_4) := (blk_cell BK124.out 4).trans rfl
        have hcz7_5 : w3.cell? ⟨gb124, 5, none⟩ = some (.slice A0_5 l0_5.length c0_5) := (blk_cell BK124.out 5).trans rfl
        have hcz7_6 : w3.cell? ⟨gb124, 6, none⟩ = some (.int .i64 a0_6) := (blk_cell BK124.out 6).trans rfl
        have hcz7_7 : w3.cell? ⟨gb124, 7, none⟩ = some (.slice A0_7 l0_7.length c0_7) := (blk_cell BK124.out 7).trans rfl
        have hfz7_0 := blk_frozen BK124.out 0
        have hfz7_1 := blk_frozen BK124.out 1
        have hfz7_2 := blk_frozen BK124.out 2
        have hfz7_3 := blk_frozen BK124.out 3
        have hfz7_4 := blk_frozen BK124.out 4
        have hfz7_5 := blk_frozen BK124.out 5
        have hfz7_6 := blk_frozen BK124.out 6
        have hfz7_7 := blk_frozen BK124.out 7
        go_wp2
        go_meet
        case rel => exact ⟨_, (true), (by first | rfl | (simp; done) | (simp [*]; done)), H', ⟨by first | omega | exact Nat.le_refl _⟩, ⟨by (with_reducible repeat (first | refine blk_drewN ?_ _ | refine blk_drew ?_ | refine blk_alloc ?_ _)); exact BK124.out⟩, ⟨by repeat (first | (with_reducible first | exact HB.out | apply below_alloc | apply pw_below_drewN | apply below_drew1 | refine below_set ?_ GE124.out) | exact HB.out)⟩⟩
      · rw [if_neg c6] at H
        have c6b0 : decide (40 < (l0_5.length : Int)) = false := decide_eq_false c6
        have c6b1 : decide (40 < l0_5.length) = false := decide_eq_false (by omega)
        clear c6
        by_cases c8 : (l0_7.length : Int) > 2000
        · rw [if_pos c8] at H
          have c8b0 : decide (2000 < (l0_7.length : Int)) = true := decide_eq_true c8
          have c8b1 : decide (2000 < l0_7.length) = true := decide_eq_true (by omega)
          clear c8
          by_cases c9 : (l0_7.length : Int) < 63000
          · rw [if_pos c9] at H
            have c9b0 : decide ((l0_7.length : Int) < 63000) = true := decide_eq_true c9
            have c9b1 : decide (l0_7.length < 63000) = true := decide_eq_true (by omega)
            clear c9
            have H' := Aside0.mk H
            clear H
            have hcz10_0 : w3.cell? ⟨gb124, 0, none⟩ = some (.int .i64 a0_0) := (blk_cell BK124.out 0).trans rfl
            have hcz10_1 : w3.cell? ⟨gb124, 1, none⟩ = some (.int .i64 a0_1) := (blk_cell BK124.out 1).trans rfl
            have hcz10_2 : w3.cell? ⟨gb124, 2, none⟩ = some (.int .i64 a0_2) := (blk_cell BK124.out 2).trans rfl
            have hcz10_3 : w3.cell? ⟨gb124, 3, none⟩ = some (.string a0_3) := (blk_cell BK124.out 3).trans rfl
            have hcz10_4 : w3.cell? ⟨gb124, 4, none⟩ = some (.string a0_4) := (blk_cell BK124.out 4).trans rfl
            have hcz10_5 : w3.cell? ⟨gb124, 5, none⟩ = some (.slice A0_5 l0_5.length c0_5) := (blk_cell BK124.out 5).trans rfl
            have hcz10_6 : w3.cell? ⟨gb124, 6, none⟩ = some (.int .i64 a0_6) := (blk_cell BK124.out 6).trans rfl
            have hcz10_7 : w3.cell? ⟨gb124, 7, none⟩ = some (.slice A0_7 l0_7.length c0_7) := (blk_cell BK124.out 7).trans rfl
            have hfz10_0 := blk_frozen BK124.out 0
            have hfz10_1 := blk_frozen BK124.out 1
            have hfz10_2 := blk_frozen BK124.out 2
            have hfz10_3 := blk_frozen BK124.out 3
            have hfz10_4 := blk_frozen BK124.out 4
            have hfz10_5 := blk_frozen BK124.out 5
            have hfz10_6 := blk_frozen BK124.out 6
            have hfz10_7 := blk_frozen BK124.out 7
            go_wp2
            go_meet
            case rel => exact ⟨_, (true), (by first | rfl | (simp; done) | (simp [*]; done)), H', ⟨by first | omega | exact Nat.le_refl _⟩, ⟨by (with_reducible repeat (first | refine blk_drewN ?_ _ | refine blk_drew ?_ | refine blk_alloc ?_ _)); exact BK124.out⟩, ⟨by repeat (first | (with_reducible first | exact HB.out | apply below_alloc | apply pw_below_drewN | apply below_drew1 | refine below_set ?_ GE124.out) | exact HB.out)⟩⟩
          · rw [if_neg c9] at H
            have c9b0 : decide ((l0_7.length : Int) < 63000) = false := decide_eq_false c9
            have c9b1 : decide (l0_7.length < 63000) = false := decide_eq_false (by omega)
            clear c9
            have H' := Aside0.mk H
            clear H
            have hcz11_0 : w3.cell? ⟨gb124, 0, none⟩ = some (.int .i64 a0_0) := (blk_cell BK124.out 0).trans rfl
            have hcz11_1 : w3.cell? ⟨gb124, 1, none⟩ = some (.int .i64 a0_1) := (blk_cell BK124.out 1).trans rfl
            have hcz11_2 : w3.cell? ⟨gb124, 2, none⟩ = some (.int .i64 a0_2) := (blk_cell BK124.out 2).trans rfl
            have hcz11_3 : w3.cell? ⟨gb124, 3, none⟩ = some (.string a0_3) := (blk_cell BK124.out 3).trans rfl
            have hcz11_4 : w3.cell? ⟨gb124, 4, none⟩ = some (.string a0_4) := (blk_cell BK124.out 4).trans rfl
            have hcz11_5 : w3.cell? ⟨gb124, 5, none⟩ = some (.slice A0_5 l0_5.length c0_5) := (blk_cell BK124.out 5).trans rfl
            have hcz11_6 : w3.cell? ⟨gb124, 6, none⟩ = some (.int .i64 a0_6) := (blk_cell BK124.out 6).trans rfl
            have hcz11_7 : w3.cell? ⟨gb124, 7, none⟩ = some (.slice A0_7 l0_7.length c0_7) := (blk_cell BK124.out 7).trans rfl
            have hfz11_0 := blk_frozen BK124.out 0
            have hfz11_1 := blk_frozen BK124.out 1
            have hfz11_2 := blk_frozen BK124.out 2
            have hfz11_3 := blk_frozen BK124.out 3
            have hfz11_4 := blk_frozen BK124.out 4
            have hfz11_5 := blk_frozen BK124.out 5
            have hfz11_6 := blk_frozen BK124.out 6
            have hfz11_7 := blk_frozen BK124.out 7
            go_wp2
            go_meet
            case rel => exact ⟨_, (decide ((l0_7.length : Int) > 66000)), (by first | rfl | (simp; done) | (simp [*]; done)), H', ⟨by first | omega | exact Nat.le_refl _⟩, ⟨by (with_reducible repeat (first | refine blk_drewN ?_ _ | refine blk_drew ?_ | refine blk_alloc ?_ _)); exact BK124.out⟩, ⟨by repeat (first | (with_reducible first | exact HB.out | apply below_alloc | apply pw_below_drewN | apply below_drew1 | refine below_set ?_ GE124.out) | exact HB.out)⟩⟩
        · rw [if_neg c8] at H
          have c8b0 : decide (2000 < (l0_7.length : Int)) = false := decide_eq_false c8
          have c8b1 : decide (2000 < l0_7.length) = false := decide_eq_false (by omega)
          clear c8
          have H' := Aside0.mk H
          clear H
          have hcz12_0 : w3.cell? ⟨gb124, 0, none⟩ = some (.int .i64 a0_0) := (blk_cell BK124.out 0).trans rfl
          have hcz12_1 : w3.cell? ⟨gb124, 1, none⟩ = some (.int .i64 a0_1) := (blk_cell BK124.out 1).trans rfl
          have hcz12_2 : w3.cell? ⟨gb124, 2, none⟩ = some (.int .i64 a0_2) := (blk_cell BK124.out 2).trans rfl
          have hcz12_3 : w3.cell? ⟨gb124, 3, none⟩ = some (.string a0_3) := (blk_cell BK124.out 3).trans rfl
          have hcz12_4 : w3.cell? ⟨gb124, 4, none⟩ = some (.string a0_4) := (blk_cell BK124.out 4).trans rfl
          have hcz12_5 : w3.cell? ⟨gb124, 5, none⟩ = some (.slice A0_5 l0_5.length c0_5) := (blk_cell BK124.out 5).trans rfl
          have hcz12_6 : w3.cell? ⟨gb124, 6, none⟩ = some (.int .i64 a0_6) := (blk_cell BK124.out 6).trans rfl
          have hcz12_7 : w3.cell? ⟨gb124, 7, none⟩ = some (.slice A0_7 l0_7.length c0_7) := (blk_cell BK124.out 7).trans rfl
          have hfz12_0 := blk_frozen BK124.out 0
          have hfz12_1 := blk_frozen BK124.out 1
          have hfz12_2 := blk_frozen BK124.out 2
          have hfz12_3 := blk_frozen BK124.out 3
          have hfz12_4 := blk_frozen BK124.out 4
          have hfz12_5 := blk_frozen BK124.out 5
          have hfz12_6 := blk_frozen BK124.out 6
          have hfz12_7 := blk_frozen BK124.out 7
          go_wp2
          go_meet
          case rel => exact ⟨_, (decide ((l0_7.length : Int) > 66000)), (by first | rfl | (simp; done) | (simp [*]; done)), H', ⟨by first | omega | exact Nat.le_refl _⟩, ⟨by (with_reducible repeat (first | refine blk_drewN ?_ _ | refine blk_drew ?_ | refine blk_alloc ?_ _)); exact BK124.out⟩, ⟨by repeat (first | (with_reducible first | exact HB.out | apply below_alloc | apply pw_below_drewN | apply below_drew1 | refine below_set ?_ GE124.out) | exact HB.out)⟩⟩
  case rest =>
    clear HC2
    try clear c1
    try clear p2
    try clear c4
    try clear c4b0
    try clear c6
    try clear c6b0
    try clear c6b1
    try clear p6
    try clear c8
    try clear c8b0
    try clear c8b1
    try clear c9
    try clear c9b0
    try clear c9b1
    try clear c12
    try clear hcz10_0
    try clear hcz10_1
    try clear hcz10_2
    try clear hcz10_3
    try clear hcz10_4
    try clear hcz10_5
    try clear hcz10_6
    try clear hcz10_7
    try clear hcz11_0
    try clear hcz11_1
    try clear hcz11_2
    try clear hcz11_3
    try clear hcz11_4
    try clear hcz11_5
    try clear hcz11_6
    try clear hcz11_7
    try clear hcz12_0
    try clear hcz12_1
    try clear hcz12_2
    try clear hcz12_3
    try clear hcz12_4
    try clear hcz12_5
    try clear hcz12_6
    try clear hcz12_7
    try clear hcz5_0
    try clear hcz5_1
    try clear hcz5_2
    try clear hcz5_3
    try clear hcz5_4
    try clear hcz5_5
    try clear hcz5_6
    try clear hcz5_7
    try clear hcz7_0
    try clear hcz7_1
    try clear hcz7_2
    try clear hcz7_3
    try clear hcz7_4
    try clear hcz7_5
    try clear hcz7_6
    try clear hcz7_7
    try clear hfz10_0
    try clear hfz10_1
    try clear hfz10_2
    try clear hfz10_3
    try clear hfz10_4
    try clear hfz10_5
    try clear hfz10_6
    try clear hfz10_7
    try clear hfz11_0
    try clear hfz11_1
    try clear hfz11_2
    try clear hfz11_3
    try clear hfz11_4
    try clear hfz11_5
    try clear hfz11_6
    try clear hfz11_7
    try clear hfz12_0
    try clear hfz12_1
    try clear hfz12_2
    try clear hfz12_3
    try clear hfz12_4
    try clear hfz12_5
    try clear hfz12_6
    try clear hfz12_7
    try clear hfz5_0
    try clear hfz5_1
    try clear hfz5_2
    try clear hfz5_3
    try clear hfz5_4
    try clear hfz5_5
    try clear hfz5_6
    try clear hfz5_7
    try clear hfz7_0
    try clear hfz7_1
    try clear hfz7_2
    try clear hfz7_3
    try clear hfz7_4
    try clear hfz7_5
    try clear hfz7_6
    try clear hfz7_7
    obtain ⟨kq, x35_1, rfl, HA, HJ1, BK124, HB⟩ := hcut
    cases kq with
    | zero => exact absurd HA.out (by simp [redoubtlaw04_few.j0])
    | succ kj1 =>
      have H := HA.out
      clear HA
      simp only [redoubtlaw04_few.j0] at H
      by_cases c13 : x35_1 = true
      · subst c13
        have H1 : (some false) = some r := by rw [if_pos rfl] at H; exact H
        clear H
        have H := H1
        clear H1
        obtain rfl := Option.some.inj H
        go_wp2
        go_ret
        exact ⟨by first | rfl | (simp [errW_none, errW_some] <;> rfl) | (simp [*, errW_none, errW_some] <;> rfl), by repeat (first | (with_reducible first | exact HB.out | apply below_alloc | apply pw_below_drewN | apply below_drew1 | refine below_set ?_ GE124.out) | exact HB.out)⟩
      · replace c13 := Bool.eq_false_iff.mpr c13
        subst c13
        have H1 : (redoubtlaw04_few.l0 kj1 0 a0_0 a0_1 a0_2 a0_3 a0_4 l0_5 a0_6 l0_7) = some r := by rw [if_neg (show ¬ (false = true) by decide)] at H; exact H
        clear H
        have H := H1
        clear H1
        have H' := Aside0.mk H
        clear H
        go_wp2
        go_loopg [3] kj1 (fun kq v3 w' => ∃ (x3_2 : Int), v3 = .int .i64 x3_2 ∧ Aside0 (redoubtlaw04_few.l0 kq x3_2 a0_0 a0_1 a0_2 a0_3 a0_4 l0_5 a0_6 l0_7 = some r) ∧ Aside0 (kq ≤ kj1) ∧ Aside0 (w'.heap[gb124]? = some (.cells #[.int .i64 a0_0, .int .i64 a0_1, .int .i64 a0_2, .string a0_3, .string a0_4, (.slice A0_5 l0_5.length c0_5), .int .i64 a0_6, (.slice A0_7 l0_7.length c0_7)] 26 (0, 0))) ∧ Aside0 (Below w.heap.size w w'))
        case atStart => exact ⟨(0), (by first | rfl | (simp; done) | (simp [*]; done)), H', ⟨Nat.le_refl _⟩, ⟨by (with_reducible repeat (first | refine blk_drewN ?_ _ | refine blk_drew ?_ | refine blk_alloc ?_ _)); exact BK124.out⟩, ⟨by repeat (first | (with_reducible first | exact HB.out | apply below_alloc | apply pw_below_drewN | apply below_drew1 | refine below_set ?_ GE124.out) | exact HB.out)⟩⟩
        case round =>
          clear H'
          try clear c1
          try clear p2
          try clear c4
          try clear c4b0
          try clear c6
          try clear c6b0
          try clear c6b1
          try clear p6
          try clear c8
          try clear c8b0
          try clear c8b1
          try clear c9
          try clear c9b0
          try clear c9b1
          try clear c12
          try clear c13
          try clear hcz10_0
          try clear hcz10_1
          try clear hcz10_2
          try clear hcz10_3
          try clear hcz10_4
          try clear hcz10_5
          try clear hcz10_6
          try clear hcz10_7
          try clear hcz11_0
          try clear hcz11_1
          try clear hcz11_2
          try clear hcz11_3
          try clear hcz11_4
          try clear hcz11_5
          try clear hcz11_6
          try clear hcz11_7
          try clear hcz12_0
          try clear hcz12_1
          try clear hcz12_2
          try clear hcz12_3
          try clear hcz12_4
          try clear hcz12_5
          try clear hcz12_6
          try clear hcz12_7
          try clear hcz5_0
          try clear hcz5_1
          try clear hcz5_2
          try clear hcz5_3
          try clear hcz5_4
          try clear hcz5_5
          try clear hcz5_6
          try clear hcz5_7
          try clear hcz7_0
          try clear hcz7_1
          try clear hcz7_2
          try clear hcz7_3
          try clear hcz7_4
          try clear hcz7_5
          try clear hcz7_6
          try clear hcz7_7
          try clear hfz10_0
          try clear hfz10_1
          try clear hfz10_2
          try clear hfz10_3
          try clear hfz10_4
          try clear hfz10_5
          try clear hfz10_6
          try clear hfz10_7
          try clear hfz11_0
          try clear hfz11_1
          try clear hfz11_2
          try clear hfz11_3
          try clear hfz11_4
          try clear hfz11_5
          try clear hfz11_6
          try clear hfz11_7
          try clear hfz12_0
          try clear hfz12_1
          try clear hfz12_2
          try clear hfz12_3
          try clear hfz12_4
          try clear hfz12_5
          try clear hfz12_6
          try clear hfz12_7
          try clear hfz5_0
          try clear hfz5_1
          try clear hfz5_2
          try clear hfz5_3
          try clear hfz5_4
          try clear hfz5_5
          try clear hfz5_6
          try clear hfz5_7
          try clear hfz7_0
          try clear hfz7_1
          try clear hfz7_2
          try clear hfz7_3
          try clear hfz7_4
          try clear hfz7_5
          try clear hfz7_6
          try clear hfz7_7
          try clear p2
          try clear p6
          obtain ⟨x3_2, rfl, HA, HK2, BK124, HB⟩ := hrel
          cases gk with
          | zero => exact absurd HA.out (by simp [redoubtlaw04_few.l0])
          | succ k2 =>
            have H := HA.out
            clear HA
            simp only [redoubtlaw04_few.l0] at H
            by_cases c14 : x3_2 < (l0_5.length : Int)
            · rw [if_pos c14] at H
              have c14b0 : decide (x3_2 < (l0_5.length : Int)) = true := decide_eq_true c14
              clear c14
              by_cases c15 : 0 ≤ x3_2
              · rw [if_pos c15] at H
                have c15b0 : decide (0 ≤ x3_2) = true := decide_eq_true c15
                clear c15
                by_cases c16 : (((rd_T43 l0_5 x3_2).f1).size : Int) > 2100
                · rw [if_pos c16] at H
                  have c16b0 : decide (2100 < (((rd_T43 l0_5 x3_2).f1).size : Int)) = true := decide_eq_true c16
                  have c16b1 : decide (2100 < ((rd_T43 l0_5 x3_2).f1).size) = true := decide_eq_true (by omega)
                  clear c16
                  obtain rfl := Option.some.inj H
                  have hcz17_0 : wr.cell? ⟨gb124, 0, none⟩ = some (.int .i64 a0_0) := (blk_cell BK124.out 0).trans rfl
                  have hcz17_1 : wr.cell? ⟨gb124, 1, none⟩ = some (.int .i64 a0_1) := (blk_cell BK124.out 1).trans rfl
                  have hcz17_2 : wr.cell? ⟨gb124, 2, none⟩ = some (.int .i64 a0_2) := (blk_cell BK124.out 2).trans rfl
                  have hcz17_3 : wr.cell? ⟨gb124, 3, none⟩ = some (.string a0_3) := (blk_cell BK124.out 3).trans rfl
                  have hcz17_4 : wr.cell? ⟨gb124, 4, none⟩ = some (.string a0_4) := (blk_cell BK124.out 4).trans rfl
                  have hcz17_5 : wr.cell? ⟨gb124, 5, none⟩ = some (.slice A0_5 l0_5.length c0_5) := (blk_cell BK124.out 5).trans rfl
                  have hcz17_6 : wr.cell? ⟨gb124, 6, none⟩ = some (.int .i64 a0_6) := (blk_cell BK124.out 6).trans rfl
                  have hcz17_7 : wr.cell? ⟨gb124, 7, none⟩ = some (.slice A0_7 l0_7.length c0_7) := (blk_cell BK124.out 7).trans rfl
                  have hfz17_0 := blk_frozen BK124.out 0
                  have hfz17_1 := blk_frozen BK124.out 1
                  have hfz17_2 := blk_frozen BK124.out 2
                  have hfz17_3 := blk_frozen BK124.out 3
                  have hfz17_4 := blk_frozen BK124.out 4
                  have hfz17_5 := blk_frozen BK124.out 5
                  have hfz17_6 := blk_frozen BK124.out 6
                  have hfz17_7 := blk_frozen BK124.out 7
                  have p125 : 0 ≤ (x3_2 : Int) := of_decide_eq_true (by first | (with_reducible assumption) | assumption)
                  have q125 : x3_2 < (l0_5.length : Int) := of_decide_eq_true (by first | (with_reducible assumption) | assumption)
                  obtain ⟨ad125, e125, hx125_0, hx125_1⟩ := at_T43 HR0_5.out x3_2 p125 q125
                  cases e125
                  replace hx125_0 := (HB.out.cell (World.block_lt_of_cell? w _ hx125_0)).trans hx125_0
                  replace hx125_1 := (HB.out.cell (World.block_lt_of_cell? w _ hx125_1)).trans hx125_1
                  replace p125 := eq_true p125
                  replace q125 := eq_true q125
                  go_wp2
                  go_ret
                  exact ⟨by first | rfl | (simp [errW_none, errW_some] <;> rfl) | (simp [*, errW_none, errW_some] <;> rfl), by repeat (first | (with_reducible first | exact HB.out | apply below_alloc | apply pw_below_drewN | apply below_drew1 | refine below_set ?_ GE124.out) | exact HB.out)⟩
                · rw [if_neg c16] at H
                  have c16b0 : decide (2100 < (((rd_T43 l0_5 x3_2).f1).size : Int)) = false := decide_eq_false c16
                  have c16b1 : decide (2100 < ((rd_T43 l0_5 x3_2).f1).size) = false := decide_eq_false (by omega)
                  clear c16
                  have H' := Aside0.mk H
                  clear H
                  have hcz18_0 : wr.cell? ⟨gb124, 0, none⟩ = some (.int .i64 a0_0) := (blk_cell BK124.out 0).trans rfl
                  have hcz18_1 : wr.cell? ⟨gb124, 1, none⟩ = some (.int .i64 a0_1) := (blk_cell BK124.out 1).trans rfl
                  have hcz18_2 : wr.cell? ⟨gb124, 2, none⟩ = some (.int .i64 a0_2) := (blk_cell BK124.out 2).trans rfl
                  have hcz18_3 : wr.cell? ⟨gb124, 3, none⟩ = some (.string a0_3) := (blk_cell BK124.out 3).trans rfl
                  have hcz18_4 : wr.cell? ⟨gb124, 4, none⟩ = some (.string a0_4) := (blk_cell BK124.out 4).trans rfl
                  have hcz18_5 : wr.cell? ⟨gb124, 5, none⟩ = some (.slice A0_5 l0_5.length c0_5) := (blk_cell BK124.out 5).trans rfl
                  have hcz18_6 : wr.cell? ⟨gb124, 6, none⟩ = some (.int .i64 a0_6) := (blk_cell BK124.out 6).trans rfl
                  have hcz18_7 : wr.cell? ⟨gb124, 7, none⟩ = some (.slice A0_7 l0_7.length c0_7) := (blk_cell BK124.out 7).trans rfl
                  have hfz18_0 := blk_frozen BK124.out 0
                  have hfz18_1 := blk_frozen BK124.out 1
                  have hfz18_2 := blk_frozen BK124.out 2
                  have hfz18_3 := blk_frozen BK124.out 3
                  have hfz18_4 := blk_frozen BK124.out 4
                  have hfz18_5 := blk_frozen BK124.out 5
                  have hfz18_6 := blk_frozen BK124.out 6
                  have hfz18_7 := blk_frozen BK124.out 7
                  have p125 : 0 ≤ (x3_2 : Int) := of_decide_eq_true (by first | (with_reducible assumption) | assumption)
                  have q125 : x3_2 < (l0_5.length : Int) := of_decide_eq_true (by first | (with_reducible assumption) | assumption)
                  obtain ⟨ad125, e125, hx125_0, hx125_1⟩ := at_T43 HR0_5.out x3_2 p125 q125
                  cases e125
                  replace hx125_0 := (HB.out.cell (World.block_lt_of_cell? w _ hx125_0)).trans hx125_0
                  replace hx125_1 := (HB.out.cell (World.block_lt_of_cell? w _ hx125_1)).trans hx125_1
                  replace p125 := eq_true p125
                  replace q125 := eq_true q125
                  go_wp2
                  go_roundg k2
                  case measure => have := HJ1.out; have := HK2.out; omega
                  case rel => exact ⟨(wrap64 (x3_2 + 1)), (by first | rfl | (simp; done) | (simp [*]; done)), H', ⟨by have := HJ1.out; have := HK2.out; omega⟩, ⟨by (with_reducible repeat (first | refine blk_drewN ?_ _ | refine blk_drew ?_ | refine blk_alloc ?_ _)); exact BK124.out⟩, ⟨by repeat (first | (with_reducible first | exact HB.out | apply below_alloc | apply pw_below_drewN | apply below_drew1 | refine below_set ?_ GE124.out) | exact HB.out)⟩⟩
              · rw [if_neg c15] at H
                exact absurd H (by simp)
            · rw [if_neg c14] at H
              have c14b0 : decide (x3_2 < (l0_5.length : Int)) = false := decide_eq_false c14
              clear c14
              obtain rfl := Option.some.inj H
              have hcz19_0 : wr.cell? ⟨gb124, 0, none⟩ = some (.int .i64 a0_0) := (blk_cell BK124.out 0).trans rfl
              have hcz19_1 : wr.cell? ⟨gb124, 1, none⟩ = some (.int .i64 a0_1) := (blk_cell BK124.out 1).trans rfl
              have hcz19_2 : wr.cell? ⟨gb124, 2, none⟩ = some (.int .i64 a0_2) := (blk_cell BK124.out 2).trans rfl
              have hcz19_3 : wr.cell? ⟨gb124, 3, none⟩ = some (.string a0_3) := (blk_cell BK124.out 3).trans rfl
              have hcz19_4 : wr.cell? ⟨gb124, 4, none⟩ = some (.string a0_4) := (blk_cell BK124.out 4).trans rfl
              have hcz19_5 : wr.cell? ⟨gb124, 5, none⟩ = some (.slice A0_5 l0_5.length c0_5) := (blk_cell BK124.out 5).trans rfl
              have hcz19_6 : wr.cell? ⟨gb124, 6, none⟩ = some (.int .i64 a0_6) := (blk_cell BK124.out 6).trans rfl
              have hcz19_7 : wr.cell? ⟨gb124, 7, none⟩ = some (.slice A0_7 l0_7.length c0_7) := (blk_cell BK124.out 7).trans rfl
              have hfz19_0 := blk_frozen BK124.out 0
              have hfz19_1 := blk_frozen BK124.out 1
              have hfz19_2 := blk_frozen BK124.out 2
              have hfz19_3 := blk_frozen BK124.out 3
              have hfz19_4 := blk_frozen BK124.out 4
              have hfz19_5 := blk_frozen BK124.out 5
              have hfz19_6 := blk_frozen BK124.out 6
              have hfz19_7 := blk_frozen BK124.out 7
              go_wp2
              go_ret
              exact ⟨by first | rfl | (simp [errW_none, errW_some] <;> rfl) | (simp [*, errW_none, errW_some] <;> rfl), by repeat (first | (with_reducible first | exact HB.out | apply below_alloc | apply pw_below_drewN | apply below_drew1 | refine below_set ?_ GE124.out) | exact HB.out)⟩

/-! ### redoubtref01_Both: function 7 -/
def redoubtref01_Both.l0 : Nat → List (List Int) → List Int → Int → Option (List Int)
  | 0, _, _, _ => none
  | k + 1, x0, x3, x4 => if x4 < (x0.length : Int) then (if 0 ≤ x4 then (if x3.length + (rd_L4 x0 x4).length < 140737488355328 then (redoubtref01_Both.l0 k x0 (x3 ++ (rd_L4 x0 x4)) (wrap64 (x4 + 1))) else (none)) else (none)) else (some x3)
def redoubtref01_Both.f (k : Nat) (l0 : List (List Int)) : Option (List Int) := redoubtref01_Both.l0 k l0 ([] : List Int) 0
theorem redoubtref01_Both.mono_l : ∀ k, (∀ y0 y1 y2, LeO (redoubtref01_Both.l0 k y0 y1 y2) (redoubtref01_Both.l0 (k + 1) y0 y1 y2))
  | 0 => fun _ _ _ r h => by simp [redoubtref01_Both.l0] at h
  | k + 1 => by
    have ih0 := redoubtref01_Both.mono_l k
    · intro y0 y1 y2
      unfold redoubtref01_Both.l0
      repeat' first
      | (with_reducible exact ih0 _ _ _)
      | (with_reducible exact LeO.refl _)
      | (with_reducible exact LeO.none _)
      | (with_reducible refine LeO.ite ?_ ?_)
      | (with_reducible refine LeO.bind ?_ (fun _ => ?_))
      | exact ih0 _ _ _
      | exact LeO.none _
      | refine LeO.ite ?_ ?_
      | refine LeO.bind ?_ (fun _ => ?_)
theorem redoubtref01_Both.mono : ∀ a0 k, LeO (redoubtref01_Both.f k a0) (redoubtref01_Both.f (k + 1) a0) := by
  intro a0 k
  have ih0 := redoubtref01_Both.mono_l k
  unfold redoubtref01_Both.f
  repeat' first
      | (with_reducible exact ih0 _ _ _)
      | (with_reducible exact LeO.refl _)
      | (with_reducible exact LeO.none _)
      | (with_reducible refine LeO.ite ?_ ?_)
      | (with_reducible refine LeO.bind ?_ (fun _ => ?_))
      | exact ih0 _ _ _
      | exact LeO.none _
      | refine LeO.ite ?_ ?_
      | refine LeO.bind ?_ (fun _ => ?_)
set_option maxHeartbeats 8000000 in
set_option maxRecDepth 100000 in
theorem redoubtref01_Both.calls (k : Nat) (A0 : Option Addr) (c0 : Nat) (l0 : List (List Int)) (r : List Int) (w : World) (hr0 : Kd.C (Kd.slice 5 (Kd.int .u8)) w A0 l0.length l0) (hc0 : l0.length ≤ c0) (h : redoubtref01_Both.f k l0 = some r) :
    Calls Try.prog 7 #[.slice A0 l0.length c0] w fun e w' => ∃ v0_ : Value, e = .returned (v0_) ∧ Kd.R (Kd.int .u8) 5 w' w.heap.size (fun _ => True) v0_ r ∧ Below w.heap.size w w' := by
  have HR0 := Aside0.mk hr0
  have HC0 := Aside0.mk hc0
  clear hr0 hc0
  have HB := Aside0.mk (Below.refl w.heap.size w)
  have H : (redoubtref01_Both.l0 k l0 ([] : List Int) 0) = some r := h
  clear h
  have H' := Aside0.mk H
  clear H
  go_enter Try.func7, Try.ntmps7
  go_wp2
  go_loopg [3, 4] k (fun kq v3 v4 w' => ∃ (x3_1 : List Int) (x4_1 : Int), v4 = .int .i64 x4_1 ∧ Aside0 (redoubtref01_Both.l0 kq l0 x3_1 x4_1 = some r) ∧ Aside0 (kq ≤ k) ∧ Aside0 (Kd.R (Kd.int .u8) 5 w' w.heap.size (fun _ => True) v3 x3_1) ∧ Aside0 (Below w.heap.size w w'))
  case atStart => exact ⟨(([] : List Int)), (0), (by first | rfl | (simp; done) | (simp [*]; done)), H', ⟨Nat.le_refl _⟩, ⟨by first | exact Kd.R_nil _ _ _ _ _ | exact Kd.N_nil _ _ _ _ _ | exact Kd.V_nil _ _ _ _ _ | exact Kd.Q_nil _ _ _ _ _ | exact Kd.S_nil _ _ _ _ _⟩, ⟨by repeat (first | (with_reducible first | exact HB.out | apply below_alloc | apply pw_below_drewN | apply below_drew1) | exact HB.out)⟩⟩
  case round =>
    clear H'
    obtain ⟨x3_1, x4_1, rfl, HA, HK1, HO_3, HB⟩ := hrel
    cases gk with
    | zero => exact absurd HA.out (by simp [redoubtref01_Both.l0])
    | succ k1 =>
      have H := HA.out
      clear HA
      simp only [redoubtref01_Both.l0] at H
      by_cases c2 : x4_1 < (l0.length : Int)
      · rw [if_pos c2] at H
        have c2b0 : decide (x4_1 < (l0.length : Int)) = true := decide_eq_true c2
        clear c2
        by_cases c3 : 0 ≤ x4_1
        · rw [if_pos c3] at H
          have c3b0 : decide (0 ≤ x4_1) = true := decide_eq_true c3
          clear c3
          by_cases c4 : x3_1.length + (rd_L4 l0 x4_1).length < 140737488355328
          · rw [if_pos c4] at H
            have LMc4 := Aside0.mk c4
            clear c4
            obtain ⟨y127, hy127⟩ : ∃ y_ : List Int, y_ = (x3_1 ++ (rd_L4 l0 x4_1)) := ⟨_, rfl⟩
            replace H : (redoubtref01_Both.l0 k1 l0 y127 (wrap64 (x4_1 + 1))) = some r := by first | (rw [hy127]; with_reducible exact H) | (have H2_ := (Option.bind_some _ _).symm.trans H; rw [hy127]; with_reducible exact H2_) | (have H2_ := (Option.bind_some _ _).symm.trans H; with_reducible exact H2_) | with_reducible exact H | (rw [hy127]; exact H) | exact H
            have Ny127 := Aside0.mk hy127
            clear hy127
            have H' := Aside0.mk H
            clear H
            have p126 : 0 ≤ (x4_1 : Int) := of_decide_eq_true (by first | (with_reducible assumption) | assumption)
            have q126 : x4_1 < (l0.length : Int) := of_decide_eq_true (by first | (with_reducible assumption) | assumption)
            obtain ⟨ad126, A126_0, c126_0, e126, hx126_0, hl126_0, hi126_0⟩ := at_L4 HR0.out x4_1 p126 q126
            cases e126
            replace hx126_0 := (HB.out.cell (World.block_lt_of_cell? w _ hx126_0)).trans hx126_0
            have HR126_0 := Aside0.mk hi126_0
            have HC126_0 := Aside0.mk hl126_0
            clear hi126_0 hl126_0
            replace p126 := eq_true p126
            replace q126 := eq_true q126
            go_wp2_with (first | ((with_reducible refine gate_builtin (b := .append) (xs := #[.tmp 11, .tmp 15]) rfl ?_); at_builtin; refine Kd.R_append_rows (Kd.int .u8) (w0 := w) w.heap.size rfl (.tmp 11) (.tmp 15) 22 5 (.int .u8 0) 1 rfl Try.underlying22 info5 rfl (by decide) (by omega) u3 x3_1 (rd_L4 l0 x4_1) _ _ _ (fun _ => True) (fun _ => False) rfl rfl ?aO ?aR (fun _ _ h => h) (fun _ h => h.elim) ?aF ?aB ?aS ?aL ?_; (case aR => repeat (first | exact (Kd.C_below HR126_0.out HB.out) | (with_reducible refine Kd.C_alloc ?_ _) | (with_reducible refine Kd.C_drewN ?_ _) | (with_reducible refine Kd.C_drew ?_))); (case aB => exact (by repeat (first | (with_reducible first | exact HB.out | apply below_alloc | apply pw_below_drewN | apply below_drew1) | exact HB.out))); (case aF => exact (fun _ _ => trivial)); (case aO => exact (by (with_reducible repeat (first | apply Kd.R_alloc | apply Kd.R_drewN | apply Kd.R_drew)); exact HO_3.out)); (case aS => exact (below_size (by repeat (first | (with_reducible first | exact HB.out | apply below_alloc | apply pw_below_drewN | apply below_drew1) | exact HB.out)))); (case aL => have := LMc4.out; omega); intro v128 w5 ho hb hg hat; rw [← Ny127.out] at ho; have n0_ := Aside0.mk (hb); have n1_ := Aside0.mk (ho); clear HB; clear HO_3; have HB := n0_; have HO129 := n1_; clear n0_ n1_; clear ho hb hg hat))
            go_roundg k1
            case measure => have := HK1.out; omega
            case rel => exact ⟨(y127), (wrap64 (x4_1 + 1)), (by first | rfl | (simp; done) | (simp [*]; done)), H', ⟨by have := HK1.out; omega⟩, ⟨by (with_reducible repeat (first | apply Kd.R_alloc | apply Kd.R_drewN | apply Kd.R_drew)); exact HO129.out⟩, ⟨by repeat (first | (with_reducible first | exact HB.out | apply below_alloc | apply pw_below_drewN | apply below_drew1) | exact HB.out)⟩⟩
          · rw [if_neg c4] at H
            exact absurd H (by simp)
        · rw [if_neg c3] at H
          exact absurd H (by simp)
      · rw [if_neg c2] at H
        have c2b0 : decide (x4_1 < (l0.length : Int)) = false := decide_eq_false c2
        clear c2
        obtain rfl := Option.some.inj H
        go_wp2
        go_ret
        exact ⟨_, by first | rfl | (simp [errW_none, errW_some] <;> rfl) | (simp [*, errW_none, errW_some] <;> rfl), by (with_reducible repeat (first | apply Kd.R_alloc | apply Kd.R_drewN | apply Kd.R_drew)); exact HO_3.out, by repeat (first | (with_reducible first | exact HB.out | apply below_alloc | apply pw_below_drewN | apply below_drew1) | exact HB.out)⟩

-- NOT PRINTED: function 14 (redoubtlaw04_own)

/-! ### redoubtref04_Between: function 18 -/
def redoubtref04_Between.f (a0 : Int) : Option (Bool) := if a0 = 0 then (some true) else (if a0 = 43 then (some true) else (if a0 = 44 then (some true) else (some (a0 == 60))))
set_option maxHeartbeats 8000000 in
set_option maxRecDepth 100000 in
theorem redoubtref04_Between.calls (a0 : Int) (r : Bool) (w : World) (h : redoubtref04_Between.f a0 = some r) :
    Calls Try.prog 18 #[.int .i64 a0] w fun e w' => e = .returned (.bool r) ∧ Drawn0 w w' := by
  have H : (if a0 = 0 then (some true) else (if a0 = 43 then (some true) else (if a0 = 44 then (some true) else (some (a0 == 60))))) = some r := h
  clear h
  by_cases c2 : a0 = 0
  · rw [if_pos c2] at H
    have c2b0 : (a0 == 0) = true := beq_iff_eq.mpr c2
    have c2b1 : (a0 != 0) = false := bne_eq_false_iff_eq.mpr c2
    clear c2
    obtain rfl := Option.some.inj H
    go_enter Try.func18, Try.ntmps18
    go_wp2
    go_ret
    exact ⟨by first | rfl | (simp; done) | (simp [*]; done), by repeat (first | exact Drawn0.refl _ | apply Drawn0.step)⟩
  · rw [if_neg c2] at H
    have c2b0 : (a0 == 0) = false := beq_eq_false_iff_ne.mpr c2
    have c2b1 : (a0 != 0) = true := bne_iff_ne.mpr c2
    by_cases c3 : a0 = 43
    · rw [if_pos c3] at H
      have c3b0 : (a0 == 43) = true := beq_iff_eq.mpr c3
      have c3b1 : (a0 != 43) = false := bne_eq_false_iff_eq.mpr c3
      clear c3
      obtain rfl := Option.some.inj H
      go_enter Try.func18, Try.ntmps18
      go_wp2
      go_ret
      exact ⟨by first | rfl | (simp; done) | (simp [*]; done), by repeat (first | exact Drawn0.refl _ | apply Drawn0.step)⟩
    · rw [if_neg c3] at H
      have c3b0 : (a0 == 43) = false := beq_eq_false_iff_ne.mpr c3
      have c3b1 : (a0 != 43) = true := bne_iff_ne.mpr c3
      by_cases c4 : a0 = 44
      · rw [if_pos c4] at H
        have c4b0 : (a0 == 44) = true := beq_iff_eq.mpr c4
        have c4b1 : (a0 != 44) = false := bne_eq_false_iff_eq.mpr c4
        clear c4
        obtain rfl := Option.some.inj H
        go_enter Try.func18, Try.ntmps18
        go_wp2
        go_ret
        exact ⟨by first | rfl | (simp; done) | (simp [*]; done), by repeat (first | exact Drawn0.refl _ | apply Drawn0.step)⟩
      · rw [if_neg c4] at H
        have c4b0 : (a0 == 44) = false := beq_eq_false_iff_ne.mpr c4
        have c4b1 : (a0 != 44) = true := bne_iff_ne.mpr c4
        obtain rfl := Option.some.inj H
        go_enter Try.func18, Try.ntmps18
        go_wp2
        go_ret
        exact ⟨by first | rfl | (simp; done) | (simp [*]; done), by repeat (first | exact Drawn0.refl _ | apply Drawn0.step)⟩

/-! ### redoubtref04_in: function 25 -/
def redoubtref04_in.f (a0 : Int) (a1 : Int) : Option (Bool) := if a0 ≥ 0 then (some (decide (a0 ≤ a1))) else (some false)
set_option maxHeartbeats 8000000 in
set_option maxRecDepth 100000 in
theorem redoubtref04_in.calls (a0 : Int) (a1 : Int) (r : Bool) (w : World) (h : redoubtref04_in.f a0 a1 = some r) :
    Calls Try.prog 25 #[.int .i64 a0, .int .i64 a1] w fun e w' => e = .returned (.bool r) ∧ Drawn0 w w' := by
  have H : (if a0 ≥ 0 then (some (decide (a0 ≤ a1))) else (some false)) = some r := h
  clear h
  by_cases c3 : a0 ≥ 0
  · rw [if_pos c3] at H
    have c3b0 : decide (0 ≤ a0) = true := decide_eq_true c3
    clear c3
    obtain rfl := Option.some.inj H
    go_enter Try.func25, Try.ntmps25
    go_wp2
    go_ret
    exact ⟨by first | rfl | (simp; done) | (simp [*]; done), by repeat (first | exact Drawn0.refl _ | apply Drawn0.step)⟩
  · rw [if_neg c3] at H
    have c3b0 : decide (0 ≤ a0) = false := decide_eq_false c3
    clear c3
    obtain rfl := Option.some.inj H
    go_enter Try.func25, Try.ntmps25
    go_wp2
    go_ret
    exact ⟨by first | rfl | (simp; done) | (simp [*]; done), by repeat (first | exact Drawn0.refl _ | apply Drawn0.step)⟩

end Go.Proofs.Ytpodidgdlcfaeaa.PIp6Lays
