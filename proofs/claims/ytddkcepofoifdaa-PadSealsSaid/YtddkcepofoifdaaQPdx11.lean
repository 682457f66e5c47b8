-- Written by a program of this session (wip/tools/pp.py) out of what the kit's print.py prints over this seat's translation. Not trusted: Lean checks it.
import Derived.Test.YtddkcepofoifdaaQPdx0
import Derived.Test.YtddkcepofoifdaaQPdx2
import Derived.Test.YtddkcepofoifdaaQPdx4
import Derived.Test.YtddkcepofoifdaaQPdx6
import Derived.Test.YtddkcepofoifdaaQPdx8
namespace Go.Proofs.Ytddkcepofoifdaa.QPd
open Go.RowKit Go.Proofs.YtddkcepofoifdaaW.PrintWords Go.Proofs.YtddkcepofoifdaaW.PrintLast Go.Proofs.YtddkcepofoifdaaW.PrintMore
attribute [local go_sem] max2_int min2_int max_two min_two max_three min_three max_four min_four   -- for this text's walks alone
set_option linter.unusedVariables false
set_option linter.unusedSimpArgs false

/-! ### redoubtlaw12_PadBack: function 4 -/
def redoubtlaw12_PadBack.f (k : Nat) (l0 : List Int) (a1 : Int) : Option (Bool) := if (l0.length : Int) > 3000 then (some true) else ((pad_Seal.f k l0 a1).bind fun bt212 => (if bt212.2 = 0 then ((pad_Open.f k bt212.1).bind fun bt216 => ((redoubtlaw12_awake.f k).bind fun t221 => (if t221 = true then (if bt216.2.2 = 0 then (if (strOfNums bt216.1).toList = (strOfNums l0).toList then (if bt216.2.1 = a1 then ((pad_Length.f (l0.length : Int)).bind fun t222 => (if (bt212.1.length : Int) = t222 then (if ((bt212.1.length : Int) % 4) = 0 then (if (wrap64 ((bt212.1.length : Int) - (l0.length : Int))) ≥ 2 then (some (decide ((wrap64 ((bt212.1.length : Int) - (l0.length : Int))) ≤ 5))) else (some false)) else (some false)) else (some false))) else (some false)) else (some false)) else (some false)) else (some false)))) else ((redoubtlaw12_awake.f k).bind fun t223 => (if t223 = true then (if bt212.2 = 1 then (if a1 < 0 then (some ((bt212.1.length : Int) == 0)) else (if a1 > 255 then (some ((bt212.1.length : Int) == 0)) else (some false))) else (some false)) else (some false)))))
theorem redoubtlaw12_PadBack.mono : ∀ a0 a1 k, LeO (redoubtlaw12_PadBack.f k a0 a1) (redoubtlaw12_PadBack.f (k + 1) a0 a1) := by
  intro a0 a1 k
  unfold redoubtlaw12_PadBack.f
  repeat' first
      | (with_reducible exact pad_Open.mono _ _)
      | (with_reducible exact pad_Seal.mono _ _ _)
      | (with_reducible exact redoubtlaw12_awake.mono _)
      | (with_reducible exact LeO.refl _)
      | (with_reducible exact LeO.none _)
      | (with_reducible refine LeO.ite ?_ ?_)
      | (with_reducible refine LeO.bind ?_ (fun _ => ?_))
      | exact pad_Open.mono _ _
      | exact pad_Seal.mono _ _ _
      | exact redoubtlaw12_awake.mono _
      | exact LeO.none _
      | refine LeO.ite ?_ ?_
      | refine LeO.bind ?_ (fun _ => ?_)
set_option maxHeartbeats 8000000 in
set_option maxRecDepth 100000 in
theorem redoubtlaw12_PadBack.calls (k : Nat) (A0 : Option Addr) (c0 : Nat) (l0 : List Int) (a1 : Int) (r : Bool) (w : World) (hr0 : Kd.C (Kd.int .u8) w A0 l0.length l0) (hc0 : l0.length ≤ c0) (h : redoubtlaw12_PadBack.f k l0 a1 = some r) (hr_ : r = true) :
    Calls Try.prog 4 #[.slice A0 l0.length c0, .int .i64 a1] w fun e w' => e = .returned (.bool r) ∧ Below w.heap.size w w' := by
  have HRT := Aside0.mk hr_
  clear hr_
  have HR0 := Aside0.mk hr0
  have HC0 := Aside0.mk hc0
  clear hr0 hc0
  have HB := Aside0.mk (Below.refl w.heap.size w)
  have H : (if (l0.length : Int) > 3000 then (some true) else ((pad_Seal.f k l0 a1).bind fun bt212 => (if bt212.2 = 0 then ((pad_Open.f k bt212.1).bind fun bt216 => ((redoubtlaw12_awake.f k).bind fun t221 => (if t221 = true then (if bt216.2.2 = 0 then (if (strOfNums bt216.1).toList = (strOfNums l0).toList then (if bt216.2.1 = a1 then ((pad_Length.f (l0.length : Int)).bind fun t222 => (if (bt212.1.length : Int) = t222 then (if ((bt212.1.length : Int) % 4) = 0 then (if (wrap64 ((bt212.1.length : Int) - (l0.length : Int))) ≥ 2 then (some (decide ((wrap64 ((bt212.1.length : Int) - (l0.length : Int))) ≤ 5))) else (some false)) else (some false)) else (some false))) else (some false)) else (some false)) else (some false)) else (some false)))) else ((redoubtlaw12_awake.f k).bind fun t223 => (if t223 = true then (if bt212.2 = 1 then (if a1 < 0 then (some ((bt212.1.length : Int) == 0)) else (if a1 > 255 then (some ((bt212.1.length : Int) == 0)) else (some false))) else (some false)) else (some false)))))) = some r := h
  clear h
  by_cases c3 : (l0.length : Int) > 3000
  · rw [if_pos c3] at H
    have c3b0 : decide (3000 < (l0.length : Int)) = true := decide_eq_true c3
    have c3b1 : decide (3000 < l0.length) = true := decide_eq_true (by omega)
    clear c3
    obtain rfl := Option.some.inj H
    go_enter Try.func4, Try.ntmps4
    go_wp2
    go_ret
    exact ⟨by first | rfl | (simp [errW_none, errW_some] <;> rfl) | (simp [*, errW_none, errW_some] <;> rfl), by repeat (first | (with_reducible first | exact HB.out | apply below_alloc | apply pw_below_drewN | apply below_drew1) | exact HB.out)⟩
  · rw [if_neg c3] at H
    have c3b0 : decide (3000 < (l0.length : Int)) = false := decide_eq_false c3
    have c3b1 : decide (3000 < l0.length) = false := decide_eq_false (by omega)
    clear c3
    replace H := Option.bind_eq_some_iff.mp H
    obtain ⟨⟨t212, t213⟩, A40, H⟩ := H
    replace H : (if t213 = 0 then ((pad_Open.f k t212).bind fun bt216 => ((redoubtlaw12_awake.f k).bind fun t221 => (if t221 = true then (if bt216.2.2 = 0 then (if (strOfNums bt216.1).toList = (strOfNums l0).toList then (if bt216.2.1 = a1 then ((pad_Length.f (l0.length : Int)).bind fun t222 => (if (t212.length : Int) = t222 then (if ((t212.length : Int) % 4) = 0 then (if (wrap64 ((t212.length : Int) - (l0.length : Int))) ≥ 2 then (some (decide ((wrap64 ((t212.length : Int) - (l0.length : Int))) ≤ 5))) else (some false)) else (some false)) else (some false))) else (some false)) else (some false)) else (some false)) else (some false)))) else ((redoubtlaw12_awake.f k).bind fun t223 => (if t223 = true then (if t213 = 1 then (if a1 < 0 then (some ((t212.length : Int) == 0)) else (if a1 > 255 then (some ((t212.length : Int) == 0)) else (some false))) else (some false)) else (some false)))) = some r := H
    have A4 := Aside0.mk A40
    clear A40
    by_cases c5 : t213 = 0
    · rw [if_pos c5] at H
      have c5b0 : (t213 == 0) = true := beq_iff_eq.mpr c5
      have c5b1 : (t213 != 0) = false := bne_eq_false_iff_eq.mpr c5
      clear c5
      replace H := Option.bind_eq_some_iff.mp H
      obtain ⟨⟨t216, t219, t220⟩, A60, H⟩ := H
      replace H : ((redoubtlaw12_awake.f k).bind fun t221 => (if t221 = true then (if t220 = 0 then (if (strOfNums t216).toList = (strOfNums l0).toList then (if t219 = a1 then ((pad_Length.f (l0.length : Int)).bind fun t222 => (if (t212.length : Int) = t222 then (if ((t212.length : Int) % 4) = 0 then (if (wrap64 ((t212.length : Int) - (l0.length : Int))) ≥ 2 then (some (decide ((wrap64 ((t212.length : Int) - (l0.length : Int))) ≤ 5))) else (some false)) else (some false)) else (some false))) else (some false)) else (some false)) else (some false)) else (some false))) = some r := H
      have A6 := Aside0.mk A60
      clear A60
      replace H := Option.bind_eq_some_iff.mp H
      obtain ⟨t221, A70, H⟩ := H
      replace H : (if t221 = true then (if t220 = 0 then (if (strOfNums t216).toList = (strOfNums l0).toList then (if t219 = a1 then ((pad_Length.f (l0.length : Int)).bind fun t222 => (if (t212.length : Int) = t222 then (if ((t212.length : Int) % 4) = 0 then (if (wrap64 ((t212.length : Int) - (l0.length : Int))) ≥ 2 then (some (decide ((wrap64 ((t212.length : Int) - (l0.length : Int))) ≤ 5))) else (some false)) else (some false)) else (some false))) else (some false)) else (some false)) else (some false)) else (some false)) = some r := H
      have A7 := Aside0.mk A70
      clear A70
      by_cases c8 : t221 = true
      · subst c8
        have H1 : (if t220 = 0 then (if (strOfNums t216).toList = (strOfNums l0).toList then (if t219 = a1 then ((pad_Length.f (l0.length : Int)).bind fun t222 => (if (t212.length : Int) = t222 then (if ((t212.length : Int) % 4) = 0 then (if (wrap64 ((t212.length : Int) - (l0.length : Int))) ≥ 2 then (some (decide ((wrap64 ((t212.length : Int) - (l0.length : Int))) ≤ 5))) else (some false)) else (some false)) else (some false))) else (some false)) else (some false)) else (some false)) = some r := by rw [if_pos rfl] at H; exact H
        clear H
        have H := H1
        clear H1
        by_cases c9 : t220 = 0
        · rw [if_pos c9] at H
          have c9b0 : (t220 == 0) = true := beq_iff_eq.mpr c9
          have c9b1 : (t220 != 0) = false := bne_eq_false_iff_eq.mpr c9
          clear c9
          by_cases c10 : (strOfNums t216).toList = (strOfNums l0).toList
          · rw [if_pos c10] at H
            have c10b0 : ((strOfNums t216).toList == (strOfNums l0).toList) = true := beq_iff_eq.mpr c10
            have c10b1 : ((strOfNums t216).toList != (strOfNums l0).toList) = false := bne_eq_false_iff_eq.mpr c10
            clear c10
            by_cases c11 : t219 = a1
            · rw [if_pos c11] at H
              have c11b0 : (t219 == a1) = true := beq_iff_eq.mpr c11
              have c11b1 : (t219 != a1) = false := bne_eq_false_iff_eq.mpr c11
              clear c11
              replace H := Option.bind_eq_some_iff.mp H
              obtain ⟨t222, A120, H⟩ := H
              replace H : (if (t212.length : Int) = t222 then (if ((t212.length : Int) % 4) = 0 then (if (wrap64 ((t212.length : Int) - (l0.length : Int))) ≥ 2 then (some (decide ((wrap64 ((t212.length : Int) - (l0.length : Int))) ≤ 5))) else (some false)) else (some false)) else (some false)) = some r := H
              have A12 := Aside0.mk A120
              clear A120
              by_cases c13 : (t212.length : Int) = t222
              · rw [if_pos c13] at H
                have c13b0 : ((t212.length : Int) == t222) = true := beq_iff_eq.mpr c13
                have c13b1 : ((t212.length : Int) != t222) = false := bne_eq_false_iff_eq.mpr c13
                clear c13
                by_cases c14 : ((t212.length : Int) % 4) = 0
                · rw [if_pos c14] at H
                  have c14b0 : (((t212.length : Int) % 4) == 0) = true := beq_iff_eq.mpr c14
                  have c14b1 : (((t212.length : Int) % 4) != 0) = false := bne_eq_false_iff_eq.mpr c14
                  clear c14
                  by_cases c15 : (wrap64 ((t212.length : Int) - (l0.length : Int))) ≥ 2
                  · rw [if_pos c15] at H
                    have c15b0 : decide (2 ≤ (wrap64 ((t212.length : Int) - (l0.length : Int)))) = true := decide_eq_true c15
                    clear c15
                    obtain rfl := Option.some.inj H
                    go_enter Try.func4, Try.ntmps4
                    go_wp2_with (first | ((with_reducible refine gate_callee (f := 13) rfl ?_); refine goesL_ (some 16) rfl rfl Try.func13 (by kernel_rfl) rfl #[.slice A0 l0.length c0, .int .i64 a1] rfl (by (try simp only [List.map_toArray, List.map_cons, List.map_nil]); first | done | rfl | (simp only [List.length_drop, List.length_take]; rfl)) ?_; (with_reducible refine (pad_Seal.calls k _ _ l0 a1 t212 t213 _ ?side1 ?side2 A4.out).mono ?_); (case side1 => repeat (first | exact HR0.out | (with_reducible refine Kd.C_alloc ?_ _) | (with_reducible refine Kd.C_drewN ?_ _) | (with_reducible refine Kd.C_drew ?_))); (case side2 => exact HC0.out); rintro e w16 ⟨v214, rfl, ho0, hb⟩; refine ⟨_, rfl, ?_⟩; have n0_ := Aside0.mk (Kd.R_lower ho0 (below_size (by repeat (first | (with_reducible first | exact HB.out | apply below_alloc | apply pw_below_drewN | apply below_drew1) | exact HB.out)))); have n1_ := Aside0.mk (below_step (by repeat (first | (with_reducible first | exact HB.out | apply below_alloc | apply pw_below_drewN | apply below_drew1) | exact HB.out)) hb); clear HB; have HO215 := n0_; have HB := n1_; clear n0_ n1_; (try clear hb); (try clear hb2); (try clear hk); (try clear hi); (try clear ho0); obtain ⟨Ao17, co17, eo17⟩ := Kd.R_slice HO215.out; subst eo17) | ((with_reducible refine gate_callee (f := 15) rfl ?_); refine goesL_ (some 41) rfl rfl Try.func15 (by kernel_rfl) rfl #[.slice Ao17 t212.length co17] rfl (by (try simp only [List.map_toArray, List.map_cons, List.map_nil]); first | done | rfl | (simp only [List.length_drop, List.length_take]; rfl)) ?_; (with_reducible refine (pad_Open.calls k (fun k_ => some k_ = (.slice Ao17 t212.length co17 : Value).ownBlock) _ _ t212 t216 t219 t220 _ ?side1 A6.out).mono ?_); (case side1 => exact Kd.R_V (Kd.R_tight rfl (HO215.out))); rintro e w18 ⟨v217, rfl, ho0, hb⟩; refine ⟨_, rfl, ?_⟩; have n0_ := Aside0.mk (Kd.R_elder' (by (with_reducible repeat (first | apply Kd.R_alloc | apply Kd.R_drewN | apply Kd.R_drew)); exact HO215.out) (Kd.R_base ho0) hb); have n1_ := Aside0.mk (Kd.R_lower (Kd.R_new' (Kd.R_mono (ok' := fun k_ => True) ho0 (fun _ hk_ => trivial)) (Kd.R_lt (by (with_reducible repeat (first | apply Kd.R_alloc | apply Kd.R_drewN | apply Kd.R_drew)); exact HO215.out))) (below_size (by repeat (first | (with_reducible first | exact HB.out | apply below_alloc | apply pw_below_drewN | apply below_drew1) | exact HB.out)))); have n2_ := Aside0.mk (below_step (by repeat (first | (with_reducible first | exact HB.out | apply below_alloc | apply pw_below_drewN | apply below_drew1) | exact HB.out)) hb); clear HO215; clear HB; have HO215 := n0_; have HO218 := n1_; have HB := n2_; clear n0_ n1_ n2_; (try clear hb); (try clear hb2); (try clear hk); (try clear hi); (try clear ho0)) | ((with_reducible refine gate_callee (f := 17) rfl ?_); refine goesL_ (some 45) rfl rfl Try.func17 (by kernel_rfl) rfl #[] rfl (by (try simp only [List.map_toArray, List.map_cons, List.map_nil]); first | done | rfl | (simp only [List.length_drop, List.length_take]; rfl)) ?_; (with_reducible refine (redoubtlaw12_awake.calls k  true _ A7.out (by first | rfl | exact HRT.out)).mono ?_); rintro e w19 ⟨rfl, hb⟩; refine ⟨_, rfl, ?_⟩; have n0_ := Aside0.mk (Kd.R_below (by (with_reducible repeat (first | apply Kd.R_alloc | apply Kd.R_drewN | apply Kd.R_drew)); exact HO215.out) hb); have n1_ := Aside0.mk (Kd.R_below (by (with_reducible repeat (first | apply Kd.R_alloc | apply Kd.R_drewN | apply Kd.R_drew)); exact HO218.out) hb); have n2_ := Aside0.mk (below_step (by repeat (first | (with_reducible first | exact HB.out | apply below_alloc | apply pw_below_drewN | apply below_drew1) | exact HB.out)) hb); clear HO215; clear HO218; clear HB; have HO215 := n0_; have HO218 := n1_; have HB := n2_; clear n0_ n1_ n2_; (try clear hb); (try clear hb2); (try clear hk); (try clear hi); have hcv20 := own_string (P := Try.prog) Try.underlying22 Try.underlying5 Try.underlying9 (Kd.own_of_R HO218.out); have hcv21 := Kd.C_string (P := Try.prog) (A := A0) (c := c0) Try.underlying22 Try.underlying5 Try.underlying9 (Kd.C_below HR0.out HB.out)) | (go_at_call 18; (with_reducible refine (pad_Length.calls (l0.length : Int) t222 _ A12.out).mono ?_); rintro e w' ⟨rfl, ⟨nd, rfl⟩⟩))
                    go_ret
                    exact ⟨by first | rfl | (simp [errW_none, errW_some] <;> rfl) | (simp [*, errW_none, errW_some] <;> rfl), by repeat (first | (with_reducible first | exact HB.out | apply below_alloc | apply pw_below_drewN | apply below_drew1) | exact HB.out)⟩
                  · rw [if_neg c15] at H
                    have c15b0 : decide (2 ≤ (wrap64 ((t212.length : Int) - (l0.length : Int)))) = false := decide_eq_false c15
                    clear c15
                    exact absurd (HRT.out.symm.trans (Option.some.inj H).symm) (by decide)
                · rw [if_neg c14] at H
                  have c14b0 : (((t212.length : Int) % 4) == 0) = false := beq_eq_false_iff_ne.mpr c14
                  have c14b1 : (((t212.length : Int) % 4) != 0) = true := bne_iff_ne.mpr c14
                  exact absurd (HRT.out.symm.trans (Option.some.inj H).symm) (by decide)
              · rw [if_neg c13] at H
                have c13b0 : ((t212.length : Int) == t222) = false := beq_eq_false_iff_ne.mpr c13
                have c13b1 : ((t212.length : Int) != t222) = true := bne_iff_ne.mpr c13
                exact absurd (HRT.out.symm.trans (Option.some.inj H).symm) (by decide)
            · rw [if_neg c11] at H
              have c11b0 : (t219 == a1) = false := beq_eq_false_iff_ne.mpr c11
              have c11b1 : (t219 != a1) = true := bne_iff_ne.mpr c11
              exact absurd (HRT.out.symm.trans (Option.some.inj H).symm) (by decide)
          · rw [if_neg c10] at H
            have c10b0 : ((strOfNums t216).toList == (strOfNums l0).toList) = false := beq_eq_false_iff_ne.mpr c10
            have c10b1 : ((strOfNums t216).toList != (strOfNums l0).toList) = true := bne_iff_ne.mpr c10
            exact absurd (HRT.out.symm.trans (Option.some.inj H).symm) (by decide)
        · rw [if_neg c9] at H
          have c9b0 : (t220 == 0) = false := beq_eq_false_iff_ne.mpr c9
          have c9b1 : (t220 != 0) = true := bne_iff_ne.mpr c9
          exact absurd (HRT.out.symm.trans (Option.some.inj H).symm) (by decide)
      · replace c8 := Bool.eq_false_iff.mpr c8
        subst c8
        have H1 : (some false) = some r := by rw [if_neg (show ¬ (false = true) by decide)] at H; exact H
        clear H
        have H := H1
        clear H1
        exact absurd (HRT.out.symm.trans (Option.some.inj H).symm) (by decide)
    · rw [if_neg c5] at H
      have c5b0 : (t213 == 0) = false := beq_eq_false_iff_ne.mpr c5
      have c5b1 : (t213 != 0) = true := bne_iff_ne.mpr c5
      replace H := Option.bind_eq_some_iff.mp H
      obtain ⟨t223, A600, H⟩ := H
      replace H : (if t223 = true then (if t213 = 1 then (if a1 < 0 then (some ((t212.length : Int) == 0)) else (if a1 > 255 then (some ((t212.length : Int) == 0)) else (some false))) else (some false)) else (some false)) = some r := H
      have A60 := Aside0.mk A600
      clear A600
      by_cases c61 : t223 = true
      · subst c61
        have H1 : (if t213 = 1 then (if a1 < 0 then (some ((t212.length : Int) == 0)) else (if a1 > 255 then (some ((t212.length : Int) == 0)) else (some false))) else (some false)) = some r := by rw [if_pos rfl] at H; exact H
        clear H
        have H := H1
        clear H1
        by_cases c62 : t213 = 1
        · rw [if_pos c62] at H
          have c62b0 : (t213 == 1) = true := beq_iff_eq.mpr c62
          have c62b1 : (t213 != 1) = false := bne_eq_false_iff_eq.mpr c62
          clear c62
          by_cases c63 : a1 < 0
          · rw [if_pos c63] at H
            have c63b0 : decide (a1 < 0) = true := decide_eq_true c63
            clear c63
            obtain rfl := Option.some.inj H
            go_enter Try.func4, Try.ntmps4
            go_wp2_with (first | ((with_reducible refine gate_callee (f := 13) rfl ?_); refine goesL_ (some 16) rfl rfl Try.func13 (by kernel_rfl) rfl #[.slice A0 l0.length c0, .int .i64 a1] rfl (by (try simp only [List.map_toArray, List.map_cons, List.map_nil]); first | done | rfl | (simp only [List.length_drop, List.length_take]; rfl)) ?_; (with_reducible refine (pad_Seal.calls k _ _ l0 a1 t212 t213 _ ?side1 ?side2 A4.out).mono ?_); (case side1 => repeat (first | exact HR0.out | (with_reducible refine Kd.C_alloc ?_ _) | (with_reducible refine Kd.C_drewN ?_ _) | (with_reducible refine Kd.C_drew ?_))); (case side2 => exact HC0.out); rintro e w64 ⟨v214, rfl, ho0, hb⟩; refine ⟨_, rfl, ?_⟩; have n0_ := Aside0.mk (Kd.R_lower ho0 (below_size (by repeat (first | (with_reducible first | exact HB.out | apply below_alloc | apply pw_below_drewN | apply below_drew1) | exact HB.out)))); have n1_ := Aside0.mk (below_step (by repeat (first | (with_reducible first | exact HB.out | apply below_alloc | apply pw_below_drewN | apply below_drew1) | exact HB.out)) hb); clear HB; have HO215 := n0_; have HB := n1_; clear n0_ n1_; (try clear hb); (try clear hb2); (try clear hk); (try clear hi); (try clear ho0)) | ((with_reducible refine gate_callee (f := 17) rfl ?_); refine goesL_ (some 21) rfl rfl Try.func17 (by kernel_rfl) rfl #[] rfl (by (try simp only [List.map_toArray, List.map_cons, List.map_nil]); first | done | rfl | (simp only [List.length_drop, List.length_take]; rfl)) ?_; (with_reducible refine (redoubtlaw12_awake.calls k  true _ A60.out (by first | rfl | exact HRT.out)).mono ?_); rintro e w65 ⟨rfl, hb⟩; refine ⟨_, rfl, ?_⟩; have n0_ := Aside0.mk (Kd.R_below (by (with_reducible repeat (first | apply Kd.R_alloc | apply Kd.R_drewN | apply Kd.R_drew)); exact HO215.out) hb); have n1_ := Aside0.mk (below_step (by repeat (first | (with_reducible first | exact HB.out | apply below_alloc | apply pw_below_drewN | apply below_drew1) | exact HB.out)) hb); clear HO215; clear HB; have HO215 := n0_; have HB := n1_; clear n0_ n1_; (try clear hb); (try clear hb2); (try clear hk); (try clear hi); obtain ⟨Ao66, co66, eo66⟩ := Kd.R_slice HO215.out; subst eo66))
            go_ret
            exact ⟨by first | rfl | (simp [errW_none, errW_some] <;> rfl) | (simp [*, errW_none, errW_some] <;> rfl), by repeat (first | (with_reducible first | exact HB.out | apply below_alloc | apply pw_below_drewN | apply below_drew1) | exact HB.out)⟩
          · rw [if_neg c63] at H
            have c63b0 : decide (a1 < 0) = false := decide_eq_false c63
            clear c63
            by_cases c67 : a1 > 255
            · rw [if_pos c67] at H
              have c67b0 : decide (255 < a1) = true := decide_eq_true c67
              clear c67
              obtain rfl := Option.some.inj H
              go_enter Try.func4, Try.ntmps4
              go_wp2_with (first | ((with_reducible refine gate_callee (f := 13) rfl ?_); refine goesL_ (some 16) rfl rfl Try.func13 (by kernel_rfl) rfl #[.slice A0 l0.length c0, .int .i64 a1] rfl (by (try simp only [List.map_toArray, List.map_cons, List.map_nil]); first | done | rfl | (simp only [List.length_drop, List.length_take]; rfl)) ?_; (with_reducible refine (pad_Seal.calls k _ _ l0 a1 t212 t213 _ ?side1 ?side2 A4.out).mono ?_); (case side1 => repeat (first | exact HR0.out | (with_reducible refine Kd.C_alloc ?_ _) | (with_reducible refine Kd.C_drewN ?_ _) | (with_reducible refine Kd.C_drew ?_))); (case side2 => exact HC0.out); rintro e w68 ⟨v214, rfl, ho0, hb⟩; refine ⟨_, rfl, ?_⟩; have n0_ := Aside0.mk (Kd.R_lower ho0 (below_size (by repeat (first | (with_reducible first | exact HB.out | apply below_alloc | apply pw_below_drewN | apply below_drew1) | exact HB.out)))); have n1_ := Aside0.mk (below_step (by repeat (first | (with_reducible first | exact HB.out | apply below_alloc | apply pw_below_drewN | apply below_drew1) | exact HB.out)) hb); clear HB; have HO215 := n0_; have HB := n1_; clear n0_ n1_; (try clear hb); (try clear hb2); (try clear hk); (try clear hi); (try clear ho0)) | ((with_reducible refine gate_callee (f := 17) rfl ?_); refine goesL_ (some 21) rfl rfl Try.func17 (by kernel_rfl) rfl #[] rfl (by (try simp only [List.map_toArray, List.map_cons, List.map_nil]); first | done | rfl | (simp only [List.length_drop, List.length_take]; rfl)) ?_; (with_reducible refine (redoubtlaw12_awake.calls k  true _ A60.out (by first | rfl | exact HRT.out)).mono ?_); rintro e w69 ⟨rfl, hb⟩; refine ⟨_, rfl, ?_⟩; have n0_ := Aside0.mk (Kd.R_below (by (with_reducible repeat (first | apply Kd.R_alloc | apply Kd.R_drewN | apply Kd.R_drew)); exact HO215.out) hb); have n1_ := Aside0.mk (below_step (by repeat (first | (with_reducible first | exact HB.out | apply below_alloc | apply pw_below_drewN | apply below_drew1) | exact HB.out)) hb); clear HO215; clear HB; have HO215 := n0_; have HB := n1_; clear n0_ n1_; (try clear hb); (try clear hb2); (try clear hk); (try clear hi); obtain ⟨Ao70, co70, eo70⟩ := Kd.R_slice HO215.out; subst eo70))
              go_ret
              exact ⟨by first | rfl | (simp [errW_none, errW_some] <;> rfl) | (simp [*, errW_none, errW_some] <;> rfl), by repeat (first | (with_reducible first | exact HB.out | apply below_alloc | apply pw_below_drewN | apply below_drew1) | exact HB.out)⟩
            · rw [if_neg c67] at H
              have c67b0 : decide (255 < a1) = false := decide_eq_false c67
              clear c67
              exact absurd (HRT.out.symm.trans (Option.some.inj H).symm) (by decide)
        · rw [if_neg c62] at H
          have c62b0 : (t213 == 1) = false := beq_eq_false_iff_ne.mpr c62
          have c62b1 : (t213 != 1) = true := bne_iff_ne.mpr c62
          exact absurd (HRT.out.symm.trans (Option.some.inj H).symm) (by decide)
      · replace c61 := Bool.eq_false_iff.mpr c61
        subst c61
        have H1 : (some false) = some r := by rw [if_neg (show ¬ (false = true) by decide)] at H; exact H
        clear H
        have H := H1
        clear H1
        exact absurd (HRT.out.symm.trans (Option.some.inj H).symm) (by decide)
end Go.Proofs.Ytddkcepofoifdaa.QPd
