-- Written by a program of this session (wip/tools/pp.py) out of what the kit's print.py prints over this seat's translation. Not trusted: Lean checks it.
import Derived.Test.YtddkcepofoifdaaQPdx0
import Derived.Test.YtddkcepofoifdaaQPdx2
import Derived.Test.YtddkcepofoifdaaQPdx4
import Derived.Test.YtddkcepofoifdaaQPdx6
import Derived.Test.YtddkcepofoifdaaQPdx8
namespace Go.Proofs.Ytddkcepofoifdaa.QPd
open Go.RowKit Go.Proofs.YtddkcepofoifdaaW.PrintWords Go.Proofs.YtddkcepofoifdaaW.PrintLast Go.Proofs.YtddkcepofoifdaaW.PrintMore
attribute [local go_sem] max2_int min2_int max_two min_two max_three min_three max_four min_four   -- for this text's walks alone
set_option linter.unusedVariables false
set_option linter.unusedSimpArgs false

/-! ### redoubtlaw12_PadRow: function 6 -/
def redoubtlaw12_PadRow.j0 : Nat → List Int → Int → Int → Bool → Option (Bool)
  | 0, _, _, _, _ => none
  | k + 1, x0, x1, x2, x35 => if x35 = true then (some true) else ((pad_Seal.f k x0 x1).bind fun bt253 => ((pad_Seal.f k bt253.1 x2).bind fun bt257 => ((pad_Open.f k bt257.1).bind fun bt261 => ((pad_Open.f k bt261.1).bind fun bt266 => ((redoubtlaw12_awake.f k).bind fun t271 => (if t271 = true then (if bt253.2 = 0 then (if bt257.2 = bt253.2 then (if bt261.2.2 = bt253.2 then (if bt266.2.2 = bt253.2 then (if bt261.2.1 = x2 then (if bt266.2.1 = x1 then (if (strOfNums bt261.1).toList = (strOfNums bt253.1).toList then (if (strOfNums bt266.1).toList = (strOfNums x0).toList then ((pad_Length.f (wrap64 ((x0.length : Int) + 4))).bind fun t272 => ((pad_Length.f (x0.length : Int)).bind fun t273 => (some (t272 == (wrap64 (t273 + 4)))))) else (some false)) else (some false)) else (some false)) else (some false)) else (some false)) else (some false)) else (some false)) else (some false)) else (some false)))))))
def redoubtlaw12_PadRow.f (k : Nat) (l0 : List Int) (a1 : Int) (a2 : Int) : Option (Bool) := if (l0.length : Int) > 2000 then (redoubtlaw12_PadRow.j0 k l0 a1 a2 true) else (if a1 < 0 then (redoubtlaw12_PadRow.j0 k l0 a1 a2 true) else (if a1 > 255 then (redoubtlaw12_PadRow.j0 k l0 a1 a2 true) else (if a2 < 0 then (redoubtlaw12_PadRow.j0 k l0 a1 a2 true) else (redoubtlaw12_PadRow.j0 k l0 a1 a2 (decide (a2 > 255))))))
theorem redoubtlaw12_PadRow.mono_l : ∀ k, (∀ y0 y1 y2 y3, LeO (redoubtlaw12_PadRow.j0 k y0 y1 y2 y3) (redoubtlaw12_PadRow.j0 (k + 1) y0 y1 y2 y3))
  | 0 => fun _ _ _ _ r h => by simp [redoubtlaw12_PadRow.j0] at h
  | k + 1 => by
    have ih0 := redoubtlaw12_PadRow.mono_l k
    · intro y0 y1 y2 y3
      unfold redoubtlaw12_PadRow.j0
      repeat' first
      | (with_reducible exact ih0 _ _ _ _)
      | (with_reducible exact pad_Open.mono _ _)
      | (with_reducible exact pad_Seal.mono _ _ _)
      | (with_reducible exact redoubtlaw12_awake.mono _)
      | (with_reducible exact LeO.refl _)
      | (with_reducible exact LeO.none _)
      | (with_reducible refine LeO.ite ?_ ?_)
      | (with_reducible refine LeO.bind ?_ (fun _ => ?_))
      | exact ih0 _ _ _ _
      | exact pad_Open.mono _ _
      | exact pad_Seal.mono _ _ _
      | exact redoubtlaw12_awake.mono _
      | exact LeO.none _
      | refine LeO.ite ?_ ?_
      | refine LeO.bind ?_ (fun _ => ?_)
theorem redoubtlaw12_PadRow.mono : ∀ a0 a1 a2 k, LeO (redoubtlaw12_PadRow.f k a0 a1 a2) (redoubtlaw12_PadRow.f (k + 1) a0 a1 a2) := by
  intro a0 a1 a2 k
  have ih0 := redoubtlaw12_PadRow.mono_l k
  unfold redoubtlaw12_PadRow.f
  repeat' first
      | (with_reducible exact ih0 _ _ _ _)
      | (with_reducible exact pad_Open.mono _ _)
      | (with_reducible exact pad_Seal.mono _ _ _)
      | (with_reducible exact redoubtlaw12_awake.mono _)
      | (with_reducible exact LeO.refl _)
      | (with_reducible exact LeO.none _)
      | (with_reducible refine LeO.ite ?_ ?_)
      | (with_reducible refine LeO.bind ?_ (fun _ => ?_))
      | exact ih0 _ _ _ _
      | exact pad_Open.mono _ _
      | exact pad_Seal.mono _ _ _
      | exact redoubtlaw12_awake.mono _
      | exact LeO.none _
      | refine LeO.ite ?_ ?_
      | refine LeO.bind ?_ (fun _ => ?_)
set_option maxHeartbeats 8000000 in
set_option maxRecDepth 100000 in
theorem redoubtlaw12_PadRow.calls (k : Nat) (A0 : Option Addr) (c0 : Nat) (l0 : List Int) (a1 : Int) (a2 : Int) (r : Bool) (w : World) (hr0 : Kd.C (Kd.int .u8) w A0 l0.length l0) (hc0 : l0.length ≤ c0) (h : redoubtlaw12_PadRow.f k l0 a1 a2 = some r) (hr_ : r = true) :
    Calls Try.prog 6 #[.slice A0 l0.length c0, .int .i64 a1, .int .i64 a2] w fun e w' => e = .returned (.bool r) ∧ Below w.heap.size w w' := by
  have HRT := Aside0.mk hr_
  clear hr_
  have HR0 := Aside0.mk hr0
  have HC0 := Aside0.mk hc0
  clear hr0 hc0
  have HB := Aside0.mk (Below.refl w.heap.size w)
  have H : (if (l0.length : Int) > 2000 then (redoubtlaw12_PadRow.j0 k l0 a1 a2 true) else (if a1 < 0 then (redoubtlaw12_PadRow.j0 k l0 a1 a2 true) else (if a1 > 255 then (redoubtlaw12_PadRow.j0 k l0 a1 a2 true) else (if a2 < 0 then (redoubtlaw12_PadRow.j0 k l0 a1 a2 true) else (redoubtlaw12_PadRow.j0 k l0 a1 a2 (decide (a2 > 255))))))) = some r := h
  clear h
  have HC4 := Aside0.mk H
  clear H
  go_enter Try.func6, Try.ntmps6
  go_upto_region 1 with (fail)
  go_cut [35] (fun v35 wc => ∃ (kq : Nat) (x35_3 : Bool), v35 = .bool x35_3 ∧ Aside0 (redoubtlaw12_PadRow.j0 kq l0 a1 a2 x35_3 = some r) ∧ Aside0 (kq ≤ k) ∧ Aside0 (Below w.heap.size w wc))
  case first =>
    have H := HC4.out
    clear HC4
    by_cases c5 : (l0.length : Int) > 2000
    · rw [if_pos c5] at H
      have c5b0 : decide (2000 < (l0.length : Int)) = true := decide_eq_true c5
      have c5b1 : decide (2000 < l0.length) = true := decide_eq_true (by omega)
      clear c5
      (first | rw [c5b0] | (simp only [i64_w, i32_w]; rw [c5b0]) | skip)
      have H' := Aside0.mk H
      clear H
      go_wp2
      go_meet
      case rel => exact ⟨_, (true), (by first | rfl | (simp; done) | (simp [*]; done)), H', ⟨by first | omega | exact Nat.le_refl _⟩, ⟨by repeat (first | (with_reducible first | exact HB.out | apply below_alloc | apply pw_below_drewN | apply below_drew1) | exact HB.out)⟩⟩
    · rw [if_neg c5] at H
      have c5b0 : decide (2000 < (l0.length : Int)) = false := decide_eq_false c5
      have c5b1 : decide (2000 < l0.length) = false := decide_eq_false (by omega)
      clear c5
      (first | rw [c5b0] | (simp only [i64_w, i32_w]; rw [c5b0]) | skip)
      by_cases c6 : a1 < 0
      · rw [if_pos c6] at H
        have c6b0 : decide (a1 < 0) = true := decide_eq_true c6
        clear c6
        have H' := Aside0.mk H
        clear H
        go_wp2
        go_meet
        case rel => exact ⟨_, (true), (by first | rfl | (simp; done) | (simp [*]; done)), H', ⟨by first | omega | exact Nat.le_refl _⟩, ⟨by repeat (first | (with_reducible first | exact HB.out | apply below_alloc | apply pw_below_drewN | apply below_drew1) | exact HB.out)⟩⟩
      · rw [if_neg c6] at H
        have c6b0 : decide (a1 < 0) = false := decide_eq_false c6
        clear c6
        by_cases c7 : a1 > 255
        · rw [if_pos c7] at H
          have c7b0 : decide (255 < a1) = true := decide_eq_true c7
          clear c7
          have H' := Aside0.mk H
          clear H
          go_wp2
          go_meet
          case rel => exact ⟨_, (true), (by first | rfl | (simp; done) | (simp [*]; done)), H', ⟨by first | omega | exact Nat.le_refl _⟩, ⟨by repeat (first | (with_reducible first | exact HB.out | apply below_alloc | apply pw_below_drewN | apply below_drew1) | exact HB.out)⟩⟩
        · rw [if_neg c7] at H
          have c7b0 : decide (255 < a1) = false := decide_eq_false c7
          clear c7
          by_cases c8 : a2 < 0
          · rw [if_pos c8] at H
            have c8b0 : decide (a2 < 0) = true := decide_eq_true c8
            clear c8
            have H' := Aside0.mk H
            clear H
            go_wp2
            go_meet
            case rel => exact ⟨_, (true), (by first | rfl | (simp; done) | (simp [*]; done)), H', ⟨by first | omega | exact Nat.le_refl _⟩, ⟨by repeat (first | (with_reducible first | exact HB.out | apply below_alloc | apply pw_below_drewN | apply below_drew1) | exact HB.out)⟩⟩
          · rw [if_neg c8] at H
            have c8b0 : decide (a2 < 0) = false := decide_eq_false c8
            clear c8
            have H' := Aside0.mk H
            clear H
            go_wp2
            go_meet
            case rel => exact ⟨_, (decide (a2 > 255)), (by first | rfl | (simp; done) | (simp [*]; done)), H', ⟨by first | omega | exact Nat.le_refl _⟩, ⟨by repeat (first | (with_reducible first | exact HB.out | apply below_alloc | apply pw_below_drewN | apply below_drew1) | exact HB.out)⟩⟩
  case rest =>
    clear HC4
    try clear p2
    try clear c5
    try clear c5b0
    try clear c5b1
    try clear c6
    try clear c6b0
    try clear c7
    try clear c7b0
    try clear c8
    try clear c8b0
    obtain ⟨kq, x35_3, rfl, HA, HJ3, HB⟩ := hcut
    cases kq with
    | zero => exact absurd HA.out (by simp [redoubtlaw12_PadRow.j0])
    | succ kj3 =>
      have H := HA.out
      clear HA
      simp only [redoubtlaw12_PadRow.j0] at H
      by_cases c9 : x35_3 = true
      · subst c9
        have H1 : (some true) = some r := by rw [if_pos rfl] at H; exact H
        clear H
        have H := H1
        clear H1
        obtain rfl := Option.some.inj H
        go_wp2
        go_ret
        exact ⟨by first | rfl | (simp [errW_none, errW_some] <;> rfl) | (simp [*, errW_none, errW_some] <;> rfl), by repeat (first | (with_reducible first | exact HB.out | apply below_alloc | apply pw_below_drewN | apply below_drew1) | exact HB.out)⟩
      · replace c9 := Bool.eq_false_iff.mpr c9
        subst c9
        have H1 : ((pad_Seal.f kj3 l0 a1).bind fun bt253 => ((pad_Seal.f kj3 bt253.1 a2).bind fun bt257 => ((pad_Open.f kj3 bt257.1).bind fun bt261 => ((pad_Open.f kj3 bt261.1).bind fun bt266 => ((redoubtlaw12_awake.f kj3).bind fun t271 => (if t271 = true then (if bt253.2 = 0 then (if bt257.2 = bt253.2 then (if bt261.2.2 = bt253.2 then (if bt266.2.2 = bt253.2 then (if bt261.2.1 = a2 then (if bt266.2.1 = a1 then (if (strOfNums bt261.1).toList = (strOfNums bt253.1).toList then (if (strOfNums bt266.1).toList = (strOfNums l0).toList then ((pad_Length.f (wrap64 ((l0.length : Int) + 4))).bind fun t272 => ((pad_Length.f (l0.length : Int)).bind fun t273 => (some (t272 == (wrap64 (t273 + 4)))))) else (some false)) else (some false)) else (some false)) else (some false)) else (some false)) else (some false)) else (some false)) else (some false)) else (some false))))))) = some r := by rw [if_neg (show ¬ (false = true) by decide)] at H; exact H
        clear H
        have H := H1
        clear H1
        replace H := Option.bind_eq_some_iff.mp H
        obtain ⟨⟨t253, t254⟩, A100, H⟩ := H
        replace H : ((pad_Seal.f kj3 t253 a2).bind fun bt257 => ((pad_Open.f kj3 bt257.1).bind fun bt261 => ((pad_Open.f kj3 bt261.1).bind fun bt266 => ((redoubtlaw12_awake.f kj3).bind fun t271 => (if t271 = true then (if t254 = 0 then (if bt257.2 = t254 then (if bt261.2.2 = t254 then (if bt266.2.2 = t254 then (if bt261.2.1 = a2 then (if bt266.2.1 = a1 then (if (strOfNums bt261.1).toList = (strOfNums t253).toList then (if (strOfNums bt266.1).toList = (strOfNums l0).toList then ((pad_Length.f (wrap64 ((l0.length : Int) + 4))).bind fun t272 => ((pad_Length.f (l0.length : Int)).bind fun t273 => (some (t272 == (wrap64 (t273 + 4)))))) else (some false)) else (some false)) else (some false)) else (some false)) else (some false)) else (some false)) else (some false)) else (some false)) else (some false)))))) = some r := H
        have A10 := Aside0.mk A100
        clear A100
        replace H := Option.bind_eq_some_iff.mp H
        obtain ⟨⟨t257, t258⟩, A110, H⟩ := H
        replace H : ((pad_Open.f kj3 t257).bind fun bt261 => ((pad_Open.f kj3 bt261.1).bind fun bt266 => ((redoubtlaw12_awake.f kj3).bind fun t271 => (if t271 = true then (if t254 = 0 then (if t258 = t254 then (if bt261.2.2 = t254 then (if bt266.2.2 = t254 then (if bt261.2.1 = a2 then (if bt266.2.1 = a1 then (if (strOfNums bt261.1).toList = (strOfNums t253).toList then (if (strOfNums bt266.1).toList = (strOfNums l0).toList then ((pad_Length.f (wrap64 ((l0.length : Int) + 4))).bind fun t272 => ((pad_Length.f (l0.length : Int)).bind fun t273 => (some (t272 == (wrap64 (t273 + 4)))))) else (some false)) else (some false)) else (some false)) else (some false)) else (some false)) else (some false)) else (some false)) else (some false)) else (some false))))) = some r := H
        have A11 := Aside0.mk A110
        clear A110
        replace H := Option.bind_eq_some_iff.mp H
        obtain ⟨⟨t261, t264, t265⟩, A120, H⟩ := H
        replace H : ((pad_Open.f kj3 t261).bind fun bt266 => ((redoubtlaw12_awake.f kj3).bind fun t271 => (if t271 = true then (if t254 = 0 then (if t258 = t254 then (if t265 = t254 then (if bt266.2.2 = t254 then (if t264 = a2 then (if bt266.2.1 = a1 then (if (strOfNums t261).toList = (strOfNums t253).toList then (if (strOfNums bt266.1).toList = (strOfNums l0).toList then ((pad_Length.f (wrap64 ((l0.length : Int) + 4))).bind fun t272 => ((pad_Length.f (l0.length : Int)).bind fun t273 => (some (t272 == (wrap64 (t273 + 4)))))) else (some false)) else (some false)) else (some false)) else (some false)) else (some false)) else (some false)) else (some false)) else (some false)) else (some false)))) = some r := H
        have A12 := Aside0.mk A120
        clear A120
        replace H := Option.bind_eq_some_iff.mp H
        obtain ⟨⟨t266, t269, t270⟩, A130, H⟩ := H
        replace H : ((redoubtlaw12_awake.f kj3).bind fun t271 => (if t271 = true then (if t254 = 0 then (if t258 = t254 then (if t265 = t254 then (if t270 = t254 then (if t264 = a2 then (if t269 = a1 then (if (strOfNums t261).toList = (strOfNums t253).toList then (if (strOfNums t266).toList = (strOfNums l0).toList then ((pad_Length.f (wrap64 ((l0.length : Int) + 4))).bind fun t272 => ((pad_Length.f (l0.length : Int)).bind fun t273 => (some (t272 == (wrap64 (t273 + 4)))))) else (some false)) else (some false)) else (some false)) else (some false)) else (some false)) else (some false)) else (some false)) else (some false)) else (some false))) = some r := H
        have A13 := Aside0.mk A130
        clear A130
        replace H := Option.bind_eq_some_iff.mp H
        obtain ⟨t271, A140, H⟩ := H
        replace H : (if t271 = true then (if t254 = 0 then (if t258 = t254 then (if t265 = t254 then (if t270 = t254 then (if t264 = a2 then (if t269 = a1 then (if (strOfNums t261).toList = (strOfNums t253).toList then (if (strOfNums t266).toList = (strOfNums l0).toList then ((pad_Length.f (wrap64 ((l0.length : Int) + 4))).bind fun t272 => ((pad_Length.f (l0.length : Int)).bind fun t273 => (some (t272 == (wrap64 (t273 + 4)))))) else (some false)) else (some false)) else (some false)) else (some false)) else (some false)) else (some false)) else (some false)) else (some false)) else (some false)) = some r := H
        have A14 := Aside0.mk A140
        clear A140
        by_cases c15 : t271 = true
        · subst c15
          have H1 : (if t254 = 0 then (if t258 = t254 then (if t265 = t254 then (if t270 = t254 then (if t264 = a2 then (if t269 = a1 then (if (strOfNums t261).toList = (strOfNums t253).toList then (if (strOfNums t266).toList = (strOfNums l0).toList then ((pad_Length.f (wrap64 ((l0.length : Int) + 4))).bind fun t272 => ((pad_Length.f (l0.length : Int)).bind fun t273 => (some (t272 == (wrap64 (t273 + 4)))))) else (some false)) else (some false)) else (some false)) else (some false)) else (some false)) else (some false)) else (some false)) else (some false)) = some r := by rw [if_pos rfl] at H; exact H
          clear H
          have H := H1
          clear H1
          by_cases c16 : t254 = 0
          · rw [if_pos c16] at H
            have c16b0 : (t254 == 0) = true := beq_iff_eq.mpr c16
            have c16b1 : (t254 != 0) = false := bne_eq_false_iff_eq.mpr c16
            clear c16
            by_cases c17 : t258 = t254
            · rw [if_pos c17] at H
              have c17b0 : (t258 == t254) = true := beq_iff_eq.mpr c17
              have c17b1 : (t258 != t254) = false := bne_eq_false_iff_eq.mpr c17
              clear c17
              by_cases c18 : t265 = t254
              · rw [if_pos c18] at H
                have c18b0 : (t265 == t254) = true := beq_iff_eq.mpr c18
                have c18b1 : (t265 != t254) = false := bne_eq_false_iff_eq.mpr c18
                clear c18
                by_cases c19 : t270 = t254
                · rw [if_pos c19] at H
                  have c19b0 : (t270 == t254) = true := beq_iff_eq.mpr c19
                  have c19b1 : (t270 != t254) = false := bne_eq_false_iff_eq.mpr c19
                  clear c19
                  by_cases c20 : t264 = a2
                  · rw [if_pos c20] at H
                    have c20b0 : (t264 == a2) = true := beq_iff_eq.mpr c20
                    have c20b1 : (t264 != a2) = false := bne_eq_false_iff_eq.mpr c20
                    clear c20
                    by_cases c21 : t269 = a1
                    · rw [if_pos c21] at H
                      have c21b0 : (t269 == a1) = true := beq_iff_eq.mpr c21
                      have c21b1 : (t269 != a1) = false := bne_eq_false_iff_eq.mpr c21
                      clear c21
                      by_cases c22 : (strOfNums t261).toList = (strOfNums t253).toList
                      · rw [if_pos c22] at H
                        have c22b0 : ((strOfNums t261).toList == (strOfNums t253).toList) = true := beq_iff_eq.mpr c22
                        have c22b1 : ((strOfNums t261).toList != (strOfNums t253).toList) = false := bne_eq_false_iff_eq.mpr c22
                        clear c22
                        by_cases c23 : (strOfNums t266).toList = (strOfNums l0).toList
                        · rw [if_pos c23] at H
                          have c23b0 : ((strOfNums t266).toList == (strOfNums l0).toList) = true := beq_iff_eq.mpr c23
                          have c23b1 : ((strOfNums t266).toList != (strOfNums l0).toList) = false := bne_eq_false_iff_eq.mpr c23
                          clear c23
                          replace H := Option.bind_eq_some_iff.mp H
                          obtain ⟨t272, A240, H⟩ := H
                          replace H : ((pad_Length.f (l0.length : Int)).bind fun t273 => (some (t272 == (wrap64 (t273 + 4))))) = some r := H
                          have A24 := Aside0.mk A240
                          clear A240
                          replace H := Option.bind_eq_some_iff.mp H
                          obtain ⟨t273, A250, H⟩ := H
                          replace H : (some (t272 == (wrap64 (t273 + 4)))) = some r := H
                          have A25 := Aside0.mk A250
                          clear A250
                          obtain rfl := Option.some.inj H
                          go_wp2_with (first | ((with_reducible refine gate_callee (f := 13) rfl ?_); refine goesL_ (some 39) rfl rfl Try.func13 (by kernel_rfl) rfl #[.slice A0 l0.length c0, .int .i64 a1] rfl (by (try simp only [List.map_toArray, List.map_cons, List.map_nil]); first | done | rfl | (simp only [List.length_drop, List.length_take]; rfl)) ?_; (with_reducible refine (pad_Seal.calls kj3 _ _ l0 a1 t253 t254 _ ?side1 ?side2 A10.out).mono ?_); (case side1 => repeat (first | exact (Kd.C_below HR0.out HB.out) | (with_reducible refine Kd.C_alloc ?_ _) | (with_reducible refine Kd.C_drewN ?_ _) | (with_reducible refine Kd.C_drew ?_))); (case side2 => exact HC0.out); rintro e w26 ⟨v255, rfl, ho0, hb⟩; refine ⟨_, rfl, ?_⟩; have n0_ := Aside0.mk (Kd.R_lower ho0 (below_size (by repeat (first | (with_reducible first | exact HB.out | apply below_alloc | apply pw_below_drewN | apply below_drew1) | exact HB.out)))); have n1_ := Aside0.mk (below_step (by repeat (first | (with_reducible first | exact HB.out | apply below_alloc | apply pw_below_drewN | apply below_drew1) | exact HB.out)) hb); clear HB; have HO256 := n0_; have HB := n1_; clear n0_ n1_; (try clear hb); (try clear hb2); (try clear hk); (try clear hi); (try clear ho0); obtain ⟨Ao27, co27, eo27⟩ := Kd.R_slice HO256.out; subst eo27) | ((with_reducible refine gate_callee (f := 13) rfl ?_); refine goesL_ (some 45) rfl rfl Try.func13 (by kernel_rfl) rfl #[.slice Ao27 t253.length co27, .int .i64 a2] rfl (by (try simp only [List.map_toArray, List.map_cons, List.map_nil]); first | done | rfl | (simp only [List.length_drop, List.length_take]; rfl)) ?_; (with_reducible refine (pad_Seal.calls kj3 _ _ t253 a2 t257 t258 _ ?side1 ?side2 A11.out).mono ?_); (case side1 => repeat (first | exact (Kd.R_reads' HO256.out).2.2 | (with_reducible refine Kd.C_alloc ?_ _) | (with_reducible refine Kd.C_drewN ?_ _) | (with_reducible refine Kd.C_drew ?_))); (case side2 => exact (Kd.R_reads' HO256.out).2.1); rintro e w28 ⟨v259, rfl, ho0, hb⟩; refine ⟨_, rfl, ?_⟩; have n0_ := Aside0.mk (Kd.R_elder' (by (with_reducible repeat (first | apply Kd.R_alloc | apply Kd.R_drewN | apply Kd.R_drew)); exact HO256.out) (Kd.R_base ho0) hb); have n1_ := Aside0.mk (Kd.R_lower (Kd.R_new' ho0 (Kd.R_lt (by (with_reducible repeat (first | apply Kd.R_alloc | apply Kd.R_drewN | apply Kd.R_drew)); exact HO256.out))) (below_size (by repeat (first | (with_reducible first | exact HB.out | apply below_alloc | apply pw_below_drewN | apply below_drew1) | exact HB.out)))); have n2_ := Aside0.mk (below_step (by repeat (first | (with_reducible first | exact HB.out | apply below_alloc | apply pw_below_drewN | apply below_drew1) | exact HB.out)) hb); clear HO256; clear HB; have HO256 := n0_; have HO260 := n1_; have HB := n2_; clear n0_ n1_ n2_; (try clear hb); (try clear hb2); (try clear hk); (try clear hi); (try clear ho0); obtain ⟨Ao29, co29, eo29⟩ := Kd.R_slice HO260.out; subst eo29) | ((with_reducible refine gate_callee (f := 15) rfl ?_); refine goesL_ (some 50) rfl rfl Try.func15 (by kernel_rfl) rfl #[.slice Ao29 t257.length co29] rfl (by (try simp only [List.map_toArray, List.map_cons, List.map_nil]); first | done | rfl | (simp only [List.length_drop, List.length_take]; rfl)) ?_; (with_reducible refine (pad_Open.calls kj3 (fun k_ => some k_ = (.slice Ao29 t257.length co29 : Value).ownBlock) _ _ t257 t261 t264 t265 _ ?side1 A12.out).mono ?_); (case side1 => exact Kd.R_V (Kd.R_tight rfl (HO260.out))); rintro e w30 ⟨v262, rfl, ho0, hb⟩; refine ⟨_, rfl, ?_⟩; have n0_ := Aside0.mk (Kd.R_elder' (by (with_reducible repeat (first | apply Kd.R_alloc | apply Kd.R_drewN | apply Kd.R_drew)); exact HO256.out) (Kd.R_base ho0) hb); have n1_ := Aside0.mk (Kd.R_elder' (by (with_reducible repeat (first | apply Kd.R_alloc | apply Kd.R_drewN | apply Kd.R_drew)); exact HO260.out) (Kd.R_base ho0) hb); have n2_ := Aside0.mk (Kd.R_lower (Kd.R_new' (Kd.R_new' (Kd.R_mono (ok' := fun k_ => True) ho0 (fun _ hk_ => trivial)) (Kd.R_lt (by (with_reducible repeat (first | apply Kd.R_alloc | apply Kd.R_drewN | apply Kd.R_drew)); exact HO256.out))) (Kd.R_lt (by (with_reducible repeat (first | apply Kd.R_alloc | apply Kd.R_drewN | apply Kd.R_drew)); exact HO260.out))) (below_size (by repeat (first | (with_reducible first | exact HB.out | apply below_alloc | apply pw_below_drewN | apply below_drew1) | exact HB.out)))); have n3_ := Aside0.mk (below_step (by repeat (first | (with_reducible first | exact HB.out | apply below_alloc | apply pw_below_drewN | apply below_drew1) | exact HB.out)) hb); clear HO256; clear HO260; clear HB; have HO256 := n0_; have HO260 := n1_; have HO263 := n2_; have HB := n3_; clear n0_ n1_ n2_ n3_; (try clear hb); (try clear hb2); (try clear hk); (try clear hi); (try clear ho0); obtain ⟨Ao31, co31, eo31⟩ := Kd.R_slice HO263.out; subst eo31) | ((with_reducible refine gate_callee (f := 15) rfl ?_); refine goesL_ (some 56) rfl rfl Try.func15 (by kernel_rfl) rfl #[.slice Ao31 t261.length co31] rfl (by (try simp only [List.map_toArray, List.map_cons, List.map_nil]); first | done | rfl | (simp only [List.length_drop, List.length_take]; rfl)) ?_; (with_reducible refine (pad_Open.calls kj3 (fun k_ => some k_ = (.slice Ao31 t261.length co31 : Value).ownBlock) _ _ t261 t266 t269 t270 _ ?side1 A13.out).mono ?_); (case side1 => exact Kd.R_V (Kd.R_tight rfl (HO263.out))); rintro e w32 ⟨v267, rfl, ho0, hb⟩; refine ⟨_, rfl, ?_⟩; have n0_ := Aside0.mk (Kd.R_elder' (by (with_reducible repeat (first | apply Kd.R_alloc | apply Kd.R_drewN | apply Kd.R_drew)); exact HO256.out) (Kd.R_base ho0) hb); have n1_ := Aside0.mk (Kd.R_elder' (by (with_reducible repeat (first | apply Kd.R_alloc | apply Kd.R_drewN | apply Kd.R_drew)); exact HO260.out) (Kd.R_base ho0) hb); have n2_ := Aside0.mk (Kd.R_elder' (by (with_reducible repeat (first | apply Kd.R_alloc | apply Kd.R_drewN | apply Kd.R_drew)); exact HO263.out) (Kd.R_base ho0) hb); have n3_ := Aside0.mk (Kd.R_lower (Kd.R_new' (Kd.R_new' (Kd.R_new' (Kd.R_mono (ok' := fun k_ => True) ho0 (fun _ hk_ => trivial)) (Kd.R_lt (by (with_reducible repeat (first | apply Kd.R_alloc | apply Kd.R_drewN | apply Kd.R_drew)); exact HO256.out))) (Kd.R_lt (by (with_reducible repeat (first | apply Kd.R_alloc | apply Kd.R_drewN | apply Kd.R_drew)); exact HO260.out))) (Kd.R_lt (by (with_reducible repeat (first | apply Kd.R_alloc | apply Kd.R_drewN | apply Kd.R_drew)); exact HO263.out))) (below_size (by repeat (first | (with_reducible first | exact HB.out | apply below_alloc | apply pw_below_drewN | apply below_drew1) | exact HB.out)))); have n4_ := Aside0.mk (below_step (by repeat (first | (with_reducible first | exact HB.out | apply below_alloc | apply pw_below_drewN | apply below_drew1) | exact HB.out)) hb); clear HO256; clear HO260; clear HO263; clear HB; have HO256 := n0_; have HO260 := n1_; have HO263 := n2_; have HO268 := n3_; have HB := n4_; clear n0_ n1_ n2_ n3_ n4_; (try clear hb); (try clear hb2); (try clear hk); (try clear hi); (try clear ho0)) | ((with_reducible refine gate_callee (f := 17) rfl ?_); refine goesL_ (some 60) rfl rfl Try.func17 (by kernel_rfl) rfl #[] rfl (by (try simp only [List.map_toArray, List.map_cons, List.map_nil]); first | done | rfl | (simp only [List.length_drop, List.length_take]; rfl)) ?_; (with_reducible refine (redoubtlaw12_awake.calls kj3  true _ A14.out (by first | rfl | exact HRT.out)).mono ?_); rintro e w33 ⟨rfl, hb⟩; refine ⟨_, rfl, ?_⟩; have n0_ := Aside0.mk (Kd.R_below (by (with_reducible repeat (first | apply Kd.R_alloc | apply Kd.R_drewN | apply Kd.R_drew)); exact HO256.out) hb); have n1_ := Aside0.mk (Kd.R_below (by (with_reducible repeat (first | apply Kd.R_alloc | apply Kd.R_drewN | apply Kd.R_drew)); exact HO260.out) hb); have n2_ := Aside0.mk (Kd.R_below (by (with_reducible repeat (first | apply Kd.R_alloc | apply Kd.R_drewN | apply Kd.R_drew)); exact HO263.out) hb); have n3_ := Aside0.mk (Kd.R_below (by (with_reducible repeat (first | apply Kd.R_alloc | apply Kd.R_drewN | apply Kd.R_drew)); exact HO268.out) hb); have n4_ := Aside0.mk (below_step (by repeat (first | (with_reducible first | exact HB.out | apply below_alloc | apply pw_below_drewN | apply below_drew1) | exact HB.out)) hb); clear HO256; clear HO260; clear HO263; clear HO268; clear HB; have HO256 := n0_; have HO260 := n1_; have HO263 := n2_; have HO268 := n3_; have HB := n4_; clear n0_ n1_ n2_ n3_ n4_; (try clear hb); (try clear hb2); (try clear hk); (try clear hi); have hcv34 := own_string (P := Try.prog) Try.underlying22 Try.underlying5 Try.underlying9 (Kd.own_of_R HO263.out); have hcv35 := own_string (P := Try.prog) Try.underlying22 Try.underlying5 Try.underlying9 (Kd.own_of_R HO256.out); have hcv36 := own_string (P := Try.prog) Try.underlying22 Try.underlying5 Try.underlying9 (Kd.own_of_R HO268.out); have hcv37 := Kd.C_string (P := Try.prog) (A := A0) (c := c0) Try.underlying22 Try.underlying5 Try.underlying9 (Kd.C_below HR0.out HB.out)) | (go_at_call 18; (with_reducible refine (pad_Length.calls (wrap64 ((l0.length : Int) + 4)) t272 _ A24.out).mono ?_); rintro e w' ⟨rfl, ⟨nd, rfl⟩⟩) | (go_at_call 18; (with_reducible refine (pad_Length.calls (l0.length : Int) t273 _ A25.out).mono ?_); rintro e w' ⟨rfl, ⟨nd, rfl⟩⟩))
                          go_ret
                          exact ⟨by first | rfl | (simp [errW_none, errW_some] <;> rfl) | (simp [*, errW_none, errW_some] <;> rfl), by repeat (first | (with_reducible first | exact HB.out | apply below_alloc | apply pw_below_drewN | apply below_drew1) | exact HB.out)⟩
                        · rw [if_neg c23] at H
                          have c23b0 : ((strOfNums t266).toList == (strOfNums l0).toList) = false := beq_eq_false_iff_ne.mpr c23
                          have c23b1 : ((strOfNums t266).toList != (strOfNums l0).toList) = true := bne_iff_ne.mpr c23
                          exact absurd (HRT.out.symm.trans (Option.some.inj H).symm) (by decide)
                      · rw [if_neg c22] at H
                        have c22b0 : ((strOfNums t261).toList == (strOfNums t253).toList) = false := beq_eq_false_iff_ne.mpr c22
                        have c22b1 : ((strOfNums t261).toList != (strOfNums t253).toList) = true := bne_iff_ne.mpr c22
                        exact absurd (HRT.out.symm.trans (Option.some.inj H).symm) (by decide)
                    · rw [if_neg c21] at H
                      have c21b0 : (t269 == a1) = false := beq_eq_false_iff_ne.mpr c21
                      have c21b1 : (t269 != a1) = true := bne_iff_ne.mpr c21
                      exact absurd (HRT.out.symm.trans (Option.some.inj H).symm) (by decide)
                  · rw [if_neg c20] at H
                    have c20b0 : (t264 == a2) = false := beq_eq_false_iff_ne.mpr c20
                    have c20b1 : (t264 != a2) = true := bne_iff_ne.mpr c20
                    exact absurd (HRT.out.symm.trans (Option.some.inj H).symm) (by decide)
                · rw [if_neg c19] at H
                  have c19b0 : (t270 == t254) = false := beq_eq_false_iff_ne.mpr c19
                  have c19b1 : (t270 != t254) = true := bne_iff_ne.mpr c19
                  exact absurd (HRT.out.symm.trans (Option.some.inj H).symm) (by decide)
              · rw [if_neg c18] at H
                have c18b0 : (t265 == t254) = false := beq_eq_false_iff_ne.mpr c18
                have c18b1 : (t265 != t254) = true := bne_iff_ne.mpr c18
                exact absurd (HRT.out.symm.trans (Option.some.inj H).symm) (by decide)
            · rw [if_neg c17] at H
              have c17b0 : (t258 == t254) = false := beq_eq_false_iff_ne.mpr c17
              have c17b1 : (t258 != t254) = true := bne_iff_ne.mpr c17
              exact absurd (HRT.out.symm.trans (Option.some.inj H).symm) (by decide)
          · rw [if_neg c16] at H
            have c16b0 : (t254 == 0) = false := beq_eq_false_iff_ne.mpr c16
            have c16b1 : (t254 != 0) = true := bne_iff_ne.mpr c16
            exact absurd (HRT.out.symm.trans (Option.some.inj H).symm) (by decide)
        · replace c15 := Bool.eq_false_iff.mpr c15
          subst c15
          have H1 : (some false) = some r := by rw [if_neg (show ¬ (false = true) by decide)] at H; exact H
          clear H
          have H := H1
          clear H1
          exact absurd (HRT.out.symm.trans (Option.some.inj H).symm) (by decide)
end Go.Proofs.Ytddkcepofoifdaa.QPd
