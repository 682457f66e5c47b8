-- Written by a program of this session (wip/tools/pp.py) out of what the kit's print.py prints over this seat's translation. Not trusted: Lean checks it.
import Derived.Test.YtddkcepofoifdaaCame
import Derived.Test.YtddkcepofoifdaaQPdx0
import Derived.Test.YtddkcepofoifdaaQPdx1
import Derived.Test.YtddkcepofoifdaaQPdx2
import Derived.Test.YtddkcepofoifdaaQPdx4
import Derived.Test.YtddkcepofoifdaaQPdx5
import Derived.Test.YtddkcepofoifdaaQPdx6
import Derived.Test.YtddkcepofoifdaaQPdx7
import Derived.Test.YtddkcepofoifdaaQPdx8
import Derived.Test.YtddkcepofoifdaaQPdx9
namespace Go.Proofs.Ytddkcepofoifdaa.QPd
open Go.RowKit Go.Proofs.YtddkcepofoifdaaW.PrintWords Go.Proofs.YtddkcepofoifdaaW.PrintLast Go.Proofs.YtddkcepofoifdaaW.PrintMore
attribute [local go_sem] max2_int min2_int max_two min_two max_three min_three max_four min_four   -- for this text's walks alone
set_option linter.unusedVariables false
set_option linter.unusedSimpArgs false

/-! ### redoubtlaw12_PadSeals: function 3 -/
def redoubtlaw12_PadSeals.j0 : Nat → List Int → Int → Int → Bool → Option (Bool)
  | 0, _, _, _, _ => none
  | k + 1, x0, x1, x2, x34 => if x34 = true then (some true) else ((redoubtref01_Both.f k (([x0] : List (List Int)))).bind fun t188 => ((pad_Seal.f k t188 x1).bind fun bt191 => ((redoubtref12_Seal.f k x0 x1).bind fun bt195 => ((pad_Open.f k t188).bind fun bt199 => ((redoubtref12_Open.f k x0).bind fun bt204 => ((redoubtlaw12_awake.f k).bind fun t209 => (if t209 = true then (if (strOfNums t188).toList = (strOfNums x0).toList then (if (strOfNums bt191.1).toList = (strOfNums bt195.1).toList then (if bt191.2 = bt195.2 then (if (strOfNums bt199.1).toList = (strOfNums bt204.1).toList then (if bt199.2.1 = bt204.2.1 then (if bt199.2.2 = bt204.2.2 then ((pad_Length.f x2).bind fun t210 => ((redoubtref12_Length.f k x2).bind fun t211 => (some (t210 == t211)))) else (some false)) else (some false)) else (some false)) else (some false)) else (some false)) else (some false)) else (some false))))))))
def redoubtlaw12_PadSeals.f (k : Nat) (l0 : List Int) (a1 : Int) (a2 : Int) : Option (Bool) := if (l0.length : Int) > 3000 then (if (l0.length : Int) < 65000 then (redoubtlaw12_PadSeals.j0 k l0 a1 a2 true) else (if (l0.length : Int) > 66000 then (redoubtlaw12_PadSeals.j0 k l0 a1 a2 true) else (redoubtlaw12_PadSeals.j0 k l0 a1 a2 (decide (a2 > 1000000))))) else (if (l0.length : Int) > 66000 then (redoubtlaw12_PadSeals.j0 k l0 a1 a2 true) else (redoubtlaw12_PadSeals.j0 k l0 a1 a2 (decide (a2 > 1000000))))
theorem redoubtlaw12_PadSeals.mono_l : ∀ k, (∀ y0 y1 y2 y3, LeO (redoubtlaw12_PadSeals.j0 k y0 y1 y2 y3) (redoubtlaw12_PadSeals.j0 (k + 1) y0 y1 y2 y3))
  | 0 => fun _ _ _ _ r h => by simp [redoubtlaw12_PadSeals.j0] at h
  | k + 1 => by
    have ih0 := redoubtlaw12_PadSeals.mono_l k
    · intro y0 y1 y2 y3
      unfold redoubtlaw12_PadSeals.j0
      repeat' first
      | (with_reducible exact ih0 _ _ _ _)
      | (with_reducible exact pad_Open.mono _ _)
      | (with_reducible exact pad_Seal.mono _ _ _)
      | (with_reducible exact redoubtlaw12_awake.mono _)
      | (with_reducible exact redoubtref01_Both.mono _ _)
      | (with_reducible exact redoubtref12_Length.mono _ _)
      | (with_reducible exact redoubtref12_Open.mono _ _)
      | (with_reducible exact redoubtref12_Seal.mono _ _ _)
      | (with_reducible exact LeO.refl _)
      | (with_reducible exact LeO.none _)
      | (with_reducible refine LeO.ite ?_ ?_)
      | (with_reducible refine LeO.bind ?_ (fun _ => ?_))
      | exact ih0 _ _ _ _
      | exact pad_Open.mono _ _
      | exact pad_Seal.mono _ _ _
      | exact redoubtlaw12_awake.mono _
      | exact redoubtref01_Both.mono _ _
      | exact redoubtref12_Length.mono _ _
      | exact redoubtref12_Open.mono _ _
      | exact redoubtref12_Seal.mono _ _ _
      | exact LeO.none _
      | refine LeO.ite ?_ ?_
      | refine LeO.bind ?_ (fun _ => ?_)
theorem redoubtlaw12_PadSeals.mono : ∀ a0 a1 a2 k, LeO (redoubtlaw12_PadSeals.f k a0 a1 a2) (redoubtlaw12_PadSeals.f (k + 1) a0 a1 a2) := by
  intro a0 a1 a2 k
  have ih0 := redoubtlaw12_PadSeals.mono_l k
  unfold redoubtlaw12_PadSeals.f
  repeat' first
      | (with_reducible exact ih0 _ _ _ _)
      | (with_reducible exact pad_Open.mono _ _)
      | (with_reducible exact pad_Seal.mono _ _ _)
      | (with_reducible exact redoubtlaw12_awake.mono _)
      | (with_reducible exact redoubtref01_Both.mono _ _)
      | (with_reducible exact redoubtref12_Length.mono _ _)
      | (with_reducible exact redoubtref12_Open.mono _ _)
      | (with_reducible exact redoubtref12_Seal.mono _ _ _)
      | (with_reducible exact LeO.refl _)
      | (with_reducible exact LeO.none _)
      | (with_reducible refine LeO.ite ?_ ?_)
      | (with_reducible refine LeO.bind ?_ (fun _ => ?_))
      | exact ih0 _ _ _ _
      | exact pad_Open.mono _ _
      | exact pad_Seal.mono _ _ _
      | exact redoubtlaw12_awake.mono _
      | exact redoubtref01_Both.mono _ _
      | exact redoubtref12_Length.mono _ _
      | exact redoubtref12_Open.mono _ _
      | exact redoubtref12_Seal.mono _ _ _
      | exact LeO.none _
      | refine LeO.ite ?_ ?_
      | refine LeO.bind ?_ (fun _ => ?_)
set_option maxHeartbeats 8000000 in
set_option maxRecDepth 100000 in
theorem redoubtlaw12_PadSeals.calls (k : Nat) (P0_ : Nat → Prop) (A0 : Option Addr) (c0 : Nat) (l0 : List Int) (a1 : Int) (a2 : Int) (r : Bool) (w : World) (hs0 : Kd.V (Kd.int .u8) 5 w w.heap.size (fun k_ => P0_ k_) (.slice A0 l0.length c0) l0) (h : redoubtlaw12_PadSeals.f k l0 a1 a2 = some r) (hr_ : r = true) :
    Calls Try.prog 3 #[.slice A0 l0.length c0, .int .i64 a1, .int .i64 a2] w fun e w' => e = .returned (.bool r) ∧ Below w.heap.size w w' := by
  have HRT := Aside0.mk hr_
  clear hr_
  have HO0 := Aside0.mk (show Kd.V (Kd.int .u8) 5 w w.heap.size (fun k_ => (P0_ k_ ∨ w.heap.size ≤ k_)) (.slice A0 l0.length c0) l0 from Kd.V_mono hs0 (fun k_ hk => .inl hk))
  have HB := Aside0.mk (Below.refl w.heap.size w)
  have H : (if (l0.length : Int) > 3000 then (if (l0.length : Int) < 65000 then (redoubtlaw12_PadSeals.j0 k l0 a1 a2 true) else (if (l0.length : Int) > 66000 then (redoubtlaw12_PadSeals.j0 k l0 a1 a2 true) else (redoubtlaw12_PadSeals.j0 k l0 a1 a2 (decide (a2 > 1000000))))) else (if (l0.length : Int) > 66000 then (redoubtlaw12_PadSeals.j0 k l0 a1 a2 true) else (redoubtlaw12_PadSeals.j0 k l0 a1 a2 (decide (a2 > 1000000))))) = some r := h
  clear h
  have HC4 := Aside0.mk H
  clear H
  go_enter Try.func3, Try.ntmps3
  go_upto_region 1 with (fail)
  go_cut [34] (fun v34 wc => ∃ (kq : Nat) (x34_3 : Bool), v34 = .bool x34_3 ∧ Aside0 (redoubtlaw12_PadSeals.j0 kq l0 a1 a2 x34_3 = some r) ∧ Aside0 (kq ≤ k) ∧ Aside0 (Kd.V (Kd.int .u8) 5 wc w.heap.size (fun k_ => (P0_ k_ ∨ w.heap.size ≤ k_)) (.slice A0 l0.length c0) l0) ∧ Aside0 (Below w.heap.size w wc))
  case first =>
    have H := HC4.out
    clear HC4
    by_cases c5 : (l0.length : Int) > 3000
    · rw [if_pos c5] at H
      have c5b0 : decide (3000 < (l0.length : Int)) = true := decide_eq_true c5
      have c5b1 : decide (3000 < l0.length) = true := decide_eq_true (by omega)
      clear c5
      (first | rw [c5b0] | (simp only [i64_w, i32_w]; rw [c5b0]) | skip)
      by_cases c6 : (l0.length : Int) < 65000
      · rw [if_pos c6] at H
        have c6b0 : decide ((l0.length : Int) < 65000) = true := decide_eq_true c6
        have c6b1 : decide (l0.length < 65000) = true := decide_eq_true (by omega)
        clear c6
        have H' := Aside0.mk H
        clear H
        go_wp2
        go_meet
        case rel => exact ⟨_, (true), (by first | rfl | (simp; done) | (simp [*]; done)), H', ⟨by first | omega | exact Nat.le_refl _⟩, ⟨by (with_reducible repeat (first | apply Kd.V_alloc | apply Kd.V_drewN | apply Kd.V_drew)); exact HO0.out⟩, ⟨by repeat (first | (with_reducible first | exact HB.out | apply below_alloc | apply pw_below_drewN | apply below_drew1) | exact HB.out)⟩⟩
      · rw [if_neg c6] at H
        have c6b0 : decide ((l0.length : Int) < 65000) = false := decide_eq_false c6
        have c6b1 : decide (l0.length < 65000) = false := decide_eq_false (by omega)
        clear c6
        by_cases c7 : (l0.length : Int) > 66000
        · rw [if_pos c7] at H
          have c7b0 : decide (66000 < (l0.length : Int)) = true := decide_eq_true c7
          have c7b1 : decide (66000 < l0.length) = true := decide_eq_true (by omega)
          clear c7
          have H' := Aside0.mk H
          clear H
          go_wp2
          go_meet
          case rel => exact ⟨_, (true), (by first | rfl | (simp; done) | (simp [*]; done)), H', ⟨by first | omega | exact Nat.le_refl _⟩, ⟨by (with_reducible repeat (first | apply Kd.V_alloc | apply Kd.V_drewN | apply Kd.V_drew)); exact HO0.out⟩, ⟨by repeat (first | (with_reducible first | exact HB.out | apply below_alloc | apply pw_below_drewN | apply below_drew1) | exact HB.out)⟩⟩
        · rw [if_neg c7] at H
          have c7b0 : decide (66000 < (l0.length : Int)) = false := decide_eq_false c7
          have c7b1 : decide (66000 < l0.length) = false := decide_eq_false (by omega)
          clear c7
          have H' := Aside0.mk H
          clear H
          go_wp2
          go_meet
          case rel => exact ⟨_, (decide (a2 > 1000000)), (by first | rfl | (simp; done) | (simp [*]; done)), H', ⟨by first | omega | exact Nat.le_refl _⟩, ⟨by (with_reducible repeat (first | apply Kd.V_alloc | apply Kd.V_drewN | apply Kd.V_drew)); exact HO0.out⟩, ⟨by repeat (first | (with_reducible first | exact HB.out | apply below_alloc | apply pw_below_drewN | apply below_drew1) | exact HB.out)⟩⟩
    · rw [if_neg c5] at H
      have c5b0 : decide (3000 < (l0.length : Int)) = false := decide_eq_false c5
      have c5b1 : decide (3000 < l0.length) = false := decide_eq_false (by omega)
      clear c5
      (first | rw [c5b0] | (simp only [i64_w, i32_w]; rw [c5b0]) | skip)
      by_cases c8 : (l0.length : Int) > 66000
      · rw [if_pos c8] at H
        have c8b0 : decide (66000 < (l0.length : Int)) = true := decide_eq_true c8
        have c8b1 : decide (66000 < l0.length) = true := decide_eq_true (by omega)
        clear c8
        have H' := Aside0.mk H
        clear H
        go_wp2
        go_meet
        case rel => exact ⟨_, (true), (by first | rfl | (simp; done) | (simp [*]; done)), H', ⟨by first | omega | exact Nat.le_refl _⟩, ⟨by (with_reducible repeat (first | apply Kd.V_alloc | apply Kd.V_drewN | apply Kd.V_drew)); exact HO0.out⟩, ⟨by repeat (first | (with_reducible first | exact HB.out | apply below_alloc | apply pw_below_drewN | apply below_drew1) | exact HB.out)⟩⟩
      · rw [if_neg c8] at H
        have c8b0 : decide (66000 < (l0.length : Int)) = false := decide_eq_false c8
        have c8b1 : decide (66000 < l0.length) = false := decide_eq_false (by omega)
        clear c8
        have H' := Aside0.mk H
        clear H
        go_wp2
        go_meet
        case rel => exact ⟨_, (decide (a2 > 1000000)), (by first | rfl | (simp; done) | (simp [*]; done)), H', ⟨by first | omega | exact Nat.le_refl _⟩, ⟨by (with_reducible repeat (first | apply Kd.V_alloc | apply Kd.V_drewN | apply Kd.V_drew)); exact HO0.out⟩, ⟨by repeat (first | (with_reducible first | exact HB.out | apply below_alloc | apply pw_below_drewN | apply below_drew1) | exact HB.out)⟩⟩
  case rest =>
    clear HC4
    try clear p2
    try clear c3
    try clear c5
    try clear c5b0
    try clear c5b1
    try clear c6
    try clear c6b0
    try clear c6b1
    try clear c7
    try clear c7b0
    try clear c7b1
    try clear c8
    try clear c8b0
    try clear c8b1
    obtain ⟨kq, x34_3, rfl, HA, HJ3, HO_0, HB⟩ := hcut
    cases kq with
    | zero => exact absurd HA.out (by simp [redoubtlaw12_PadSeals.j0])
    | succ kj3 =>
      have H := HA.out
      clear HA
      simp only [redoubtlaw12_PadSeals.j0] at H
      by_cases c9 : x34_3 = true
      · subst c9
        have H1 : (some true) = some r := by rw [if_pos rfl] at H; exact H
        clear H
        have H := H1
        clear H1
        obtain rfl := Option.some.inj H
        go_wp2
        go_ret
        exact ⟨by first | rfl | (simp [errW_none, errW_some] <;> rfl) | (simp [*, errW_none, errW_some] <;> rfl), by repeat (first | (with_reducible first | exact HB.out | apply below_alloc | apply pw_below_drewN | apply below_drew1) | exact HB.out)⟩
      · replace c9 := Bool.eq_false_iff.mpr c9
        subst c9
        have H1 : ((redoubtref01_Both.f kj3 (([l0] : List (List Int)))).bind fun t188 => ((pad_Seal.f kj3 t188 a1).bind fun bt191 => ((redoubtref12_Seal.f kj3 l0 a1).bind fun bt195 => ((pad_Open.f kj3 t188).bind fun bt199 => ((redoubtref12_Open.f kj3 l0).bind fun bt204 => ((redoubtlaw12_awake.f kj3).bind fun t209 => (if t209 = true then (if (strOfNums t188).toList = (strOfNums l0).toList then (if (strOfNums bt191.1).toList = (strOfNums bt195.1).toList then (if bt191.2 = bt195.2 then (if (strOfNums bt199.1).toList = (strOfNums bt204.1).toList then (if bt199.2.1 = bt204.2.1 then (if bt199.2.2 = bt204.2.2 then ((pad_Length.f a2).bind fun t210 => ((redoubtref12_Length.f kj3 a2).bind fun t211 => (some (t210 == t211)))) else (some false)) else (some false)) else (some false)) else (some false)) else (some false)) else (some false)) else (some false)))))))) = some r := by rw [if_neg (show ¬ (false = true) by decide)] at H; exact H
        clear H
        have H := H1
        clear H1
        obtain ⟨y185, hy185⟩ : ∃ y_ : List (List Int), y_ = (([l0] : List (List Int))) := ⟨_, rfl⟩
        replace H : ((redoubtref01_Both.f kj3 y185).bind fun t188 => ((pad_Seal.f kj3 t188 a1).bind fun bt191 => ((redoubtref12_Seal.f kj3 l0 a1).bind fun bt195 => ((pad_Open.f kj3 t188).bind fun bt199 => ((redoubtref12_Open.f kj3 l0).bind fun bt204 => ((redoubtlaw12_awake.f kj3).bind fun t209 => (if t209 = true then (if (strOfNums t188).toList = (strOfNums l0).toList then (if (strOfNums bt191.1).toList = (strOfNums bt195.1).toList then (if bt191.2 = bt195.2 then (if (strOfNums bt199.1).toList = (strOfNums bt204.1).toList then (if bt199.2.1 = bt204.2.1 then (if bt199.2.2 = bt204.2.2 then ((pad_Length.f a2).bind fun t210 => ((redoubtref12_Length.f kj3 a2).bind fun t211 => (some (t210 == t211)))) else (some false)) else (some false)) else (some false)) else (some false)) else (some false)) else (some false)) else (some false)))))))) = some r := by first | (rw [hy185]; with_reducible exact H) | (have H2_ := (Option.bind_some _ _).symm.trans H; rw [hy185]; with_reducible exact H2_) | (have H2_ := (Option.bind_some _ _).symm.trans H; with_reducible exact H2_) | with_reducible exact H | (rw [hy185]; exact H) | exact H
        have Ny185 := Aside0.mk hy185
        clear hy185
        replace H := Option.bind_eq_some_iff.mp H
        obtain ⟨t188, A100, H⟩ := H
        replace H : ((pad_Seal.f kj3 t188 a1).bind fun bt191 => ((redoubtref12_Seal.f kj3 l0 a1).bind fun bt195 => ((pad_Open.f kj3 t188).bind fun bt199 => ((redoubtref12_Open.f kj3 l0).bind fun bt204 => ((redoubtlaw12_awake.f kj3).bind fun t209 => (if t209 = true then (if (strOfNums t188).toList = (strOfNums l0).toList then (if (strOfNums bt191.1).toList = (strOfNums bt195.1).toList then (if bt191.2 = bt195.2 then (if (strOfNums bt199.1).toList = (strOfNums bt204.1).toList then (if bt199.2.1 = bt204.2.1 then (if bt199.2.2 = bt204.2.2 then ((pad_Length.f a2).bind fun t210 => ((redoubtref12_Length.f kj3 a2).bind fun t211 => (some (t210 == t211)))) else (some false)) else (some false)) else (some false)) else (some false)) else (some false)) else (some false)) else (some false))))))) = some r := H
        have A10 := Aside0.mk A100
        clear A100
        replace H := Option.bind_eq_some_iff.mp H
        obtain ⟨⟨t191, t192⟩, A110, H⟩ := H
        replace H : ((redoubtref12_Seal.f kj3 l0 a1).bind fun bt195 => ((pad_Open.f kj3 t188).bind fun bt199 => ((redoubtref12_Open.f kj3 l0).bind fun bt204 => ((redoubtlaw12_awake.f kj3).bind fun t209 => (if t209 = true then (if (strOfNums t188).toList = (strOfNums l0).toList then (if (strOfNums t191).toList = (strOfNums bt195.1).toList then (if t192 = bt195.2 then (if (strOfNums bt199.1).toList = (strOfNums bt204.1).toList then (if bt199.2.1 = bt204.2.1 then (if bt199.2.2 = bt204.2.2 then ((pad_Length.f a2).bind fun t210 => ((redoubtref12_Length.f kj3 a2).bind fun t211 => (some (t210 == t211)))) else (some false)) else (some false)) else (some false)) else (some false)) else (some false)) else (some false)) else (some false)))))) = some r := H
        have A11 := Aside0.mk A110
        clear A110
        replace H := Option.bind_eq_some_iff.mp H
        obtain ⟨⟨t195, t198⟩, A120, H⟩ := H
        replace H : ((pad_Open.f kj3 t188).bind fun bt199 => ((redoubtref12_Open.f kj3 l0).bind fun bt204 => ((redoubtlaw12_awake.f kj3).bind fun t209 => (if t209 = true then (if (strOfNums t188).toList = (strOfNums l0).toList then (if (strOfNums t191).toList = (strOfNums t195).toList then (if t192 = t198 then (if (strOfNums bt199.1).toList = (strOfNums bt204.1).toList then (if bt199.2.1 = bt204.2.1 then (if bt199.2.2 = bt204.2.2 then ((pad_Length.f a2).bind fun t210 => ((redoubtref12_Length.f kj3 a2).bind fun t211 => (some (t210 == t211)))) else (some false)) else (some false)) else (some false)) else (some false)) else (some false)) else (some false)) else (some false))))) = some r := H
        have A12 := Aside0.mk A120
        clear A120
        replace H := Option.bind_eq_some_iff.mp H
        obtain ⟨⟨t199, t202, t203⟩, A130, H⟩ := H
        replace H : ((redoubtref12_Open.f kj3 l0).bind fun bt204 => ((redoubtlaw12_awake.f kj3).bind fun t209 => (if t209 = true then (if (strOfNums t188).toList = (strOfNums l0).toList then (if (strOfNums t191).toList = (strOfNums t195).toList then (if t192 = t198 then (if (strOfNums t199).toList = (strOfNums bt204.1).toList then (if t202 = bt204.2.1 then (if t203 = bt204.2.2 then ((pad_Length.f a2).bind fun t210 => ((redoubtref12_Length.f kj3 a2).bind fun t211 => (some (t210 == t211)))) else (some false)) else (some false)) else (some false)) else (some false)) else (some false)) else (some false)) else (some false)))) = some r := H
        have A13 := Aside0.mk A130
        clear A130
        replace H := Option.bind_eq_some_iff.mp H
        obtain ⟨⟨t204, t207, t208⟩, A140, H⟩ := H
        replace H : ((redoubtlaw12_awake.f kj3).bind fun t209 => (if t209 = true then (if (strOfNums t188).toList = (strOfNums l0).toList then (if (strOfNums t191).toList = (strOfNums t195).toList then (if t192 = t198 then (if (strOfNums t199).toList = (strOfNums t204).toList then (if t202 = t207 then (if t203 = t208 then ((pad_Length.f a2).bind fun t210 => ((redoubtref12_Length.f kj3 a2).bind fun t211 => (some (t210 == t211)))) else (some false)) else (some false)) else (some false)) else (some false)) else (some false)) else (some false)) else (some false))) = some r := H
        have A14 := Aside0.mk A140
        clear A140
        replace H := Option.bind_eq_some_iff.mp H
        obtain ⟨t209, A150, H⟩ := H
        replace H : (if t209 = true then (if (strOfNums t188).toList = (strOfNums l0).toList then (if (strOfNums t191).toList = (strOfNums t195).toList then (if t192 = t198 then (if (strOfNums t199).toList = (strOfNums t204).toList then (if t202 = t207 then (if t203 = t208 then ((pad_Length.f a2).bind fun t210 => ((redoubtref12_Length.f kj3 a2).bind fun t211 => (some (t210 == t211)))) else (some false)) else (some false)) else (some false)) else (some false)) else (some false)) else (some false)) else (some false)) = some r := H
        have A15 := Aside0.mk A150
        clear A150
        by_cases c16 : t209 = true
        · subst c16
          have H1 : (if (strOfNums t188).toList = (strOfNums l0).toList then (if (strOfNums t191).toList = (strOfNums t195).toList then (if t192 = t198 then (if (strOfNums t199).toList = (strOfNums t204).toList then (if t202 = t207 then (if t203 = t208 then ((pad_Length.f a2).bind fun t210 => ((redoubtref12_Length.f kj3 a2).bind fun t211 => (some (t210 == t211)))) else (some false)) else (some false)) else (some false)) else (some false)) else (some false)) else (some false)) = some r := by rw [if_pos rfl] at H; exact H
          clear H
          have H := H1
          clear H1
          by_cases c17 : (strOfNums t188).toList = (strOfNums l0).toList
          · rw [if_pos c17] at H
            have c17b0 : ((strOfNums t188).toList == (strOfNums l0).toList) = true := beq_iff_eq.mpr c17
            have c17b1 : ((strOfNums t188).toList != (strOfNums l0).toList) = false := bne_eq_false_iff_eq.mpr c17
            clear c17
            by_cases c18 : (strOfNums t191).toList = (strOfNums t195).toList
            · rw [if_pos c18] at H
              have c18b0 : ((strOfNums t191).toList == (strOfNums t195).toList) = true := beq_iff_eq.mpr c18
              have c18b1 : ((strOfNums t191).toList != (strOfNums t195).toList) = false := bne_eq_false_iff_eq.mpr c18
              clear c18
              by_cases c19 : t192 = t198
              · rw [if_pos c19] at H
                have c19b0 : (t192 == t198) = true := beq_iff_eq.mpr c19
                have c19b1 : (t192 != t198) = false := bne_eq_false_iff_eq.mpr c19
                clear c19
                by_cases c20 : (strOfNums t199).toList = (strOfNums t204).toList
                · rw [if_pos c20] at H
                  have c20b0 : ((strOfNums t199).toList == (strOfNums t204).toList) = true := beq_iff_eq.mpr c20
                  have c20b1 : ((strOfNums t199).toList != (strOfNums t204).toList) = false := bne_eq_false_iff_eq.mpr c20
                  clear c20
                  by_cases c21 : t202 = t207
                  · rw [if_pos c21] at H
                    have c21b0 : (t202 == t207) = true := beq_iff_eq.mpr c21
                    have c21b1 : (t202 != t207) = false := bne_eq_false_iff_eq.mpr c21
                    clear c21
                    by_cases c22 : t203 = t208
                    · rw [if_pos c22] at H
                      have c22b0 : (t203 == t208) = true := beq_iff_eq.mpr c22
                      have c22b1 : (t203 != t208) = false := bne_eq_false_iff_eq.mpr c22
                      clear c22
                      replace H := Option.bind_eq_some_iff.mp H
                      obtain ⟨t210, A230, H⟩ := H
                      replace H : ((redoubtref12_Length.f kj3 a2).bind fun t211 => (some (t210 == t211))) = some r := H
                      have A23 := Aside0.mk A230
                      clear A230
                      replace H := Option.bind_eq_some_iff.mp H
                      obtain ⟨t211, A240, H⟩ := H
                      replace H : (some (t210 == t211)) = some r := H
                      have A24 := Aside0.mk A240
                      clear A240
                      obtain rfl := Option.some.inj H
                      go_wp2_with (first | ((with_reducible refine gate_dst (N := 36) rfl ?_); (try (refine gate_guard (by rfl) ?_; dsimp only)); refine Kd.N_lit (Kd.slice 5 (Kd.int .u8)) _ 22 ?hg (N' := 36) ?hd (xs := ([l0] : List (List Int))) (inner := [.slice A0 l0.length c0]) (ok := (fun k_ => (P0_ k_ ∨ w.heap.size ≤ k_))) (okp := (fun k_ => (P0_ k_ ∨ w.heap.size ≤ k_))) ?hr ?hp (fun _ hk => hk) ((show ∀ k_, wc.heap.size ≤ k_ → (fun k_ => (P0_ k_ ∨ w.heap.size ≤ k_)) k_ from fun k_ hk => (.inr (Nat.le_trans (below_size (by repeat (first | (with_reducible first | exact HB.out | apply below_alloc | apply pw_below_drewN | apply below_drew1) | exact HB.out))) hk))) _ (Nat.le_refl _)) (Below.refl _ _) (Nat.le_refl _) (by simp) ?_; (case hd => rfl); (case hg => rfl); (case hr => first | (go_simp; done) | (go_simp; rfl)); (case hp => exact (Reps.one (show Kd.FK (Kd.slice 5 (Kd.int .u8)) _ _ l0 [.slice A0 l0.length c0] from (Kd.FK_slice_mk (Kd.V_reads' (Kd.V_mono (ok' := (fun k_ => (P0_ k_ ∨ w.heap.size ≤ k_))) (HO_0.out) (fun k_ hk => hk))).2.1 (Kd.V_F (Kd.V_mono (ok' := (fun k_ => (P0_ k_ ∨ w.heap.size ≤ k_))) (HO_0.out) (fun k_ hk => hk))))) (Reps.none _ _))); intro v186 w25 ho26 hb hg_ hnew_; clear hg_ hnew_; (first | rw [← Ny185.out] at ho26 | (simp only [Int.reduceToNat] at ho26; rw [← Ny185.out] at ho26)); have n0_ := Aside0.mk (Kd.V_elder' (by (with_reducible repeat (first | apply Kd.V_alloc | apply Kd.V_drewN | apply Kd.V_drew)); exact HO_0.out) (Kd.N_base ho26) hb); have n1_ := Aside0.mk (Kd.N_lower ho26 (below_size (by repeat (first | (with_reducible first | exact HB.out | apply below_alloc | apply pw_below_drewN | apply below_drew1) | exact HB.out)))); have n2_ := Aside0.mk (below_step (by repeat (first | (with_reducible first | exact HB.out | apply below_alloc | apply pw_below_drewN | apply below_drew1) | exact HB.out)) hb); clear HO_0; clear HB; have HO_0 := n0_; have HO187 := n1_; have HB := n2_; clear n0_ n1_ n2_; clear hb ho26; obtain ⟨Ao27, co27, eo27⟩ := Kd.N_slice HO187.out; subst eo27) | ((with_reducible refine gate_callee (f := 12) rfl ?_); refine goesL_ (some 37) rfl rfl Try.func12 (by kernel_rfl) rfl #[.slice Ao27 y185.length co27] rfl (by (try simp only [List.map_toArray, List.map_cons, List.map_nil]); first | done | rfl | (simp only [List.length_drop, List.length_take]; rfl)) ?_; (with_reducible refine (redoubtref01_Both.calls kj3 _ _ y185 t188 _ ?side1 ?side2 A10.out).mono ?_); (case side1 => repeat (first | exact (Kd.N_reads' HO187.out).2.2 | (with_reducible refine Kd.C_alloc ?_ _) | (with_reducible refine Kd.C_drewN ?_ _) | (with_reducible refine Kd.C_drew ?_))); (case side2 => exact (Kd.N_reads' HO187.out).2.1); rintro e w28 ⟨v189, rfl, ho0, hb⟩; refine ⟨_, rfl, ?_⟩; have n0_ := Aside0.mk (Kd.V_elder' (by (with_reducible repeat (first | apply Kd.V_alloc | apply Kd.V_drewN | apply Kd.V_drew)); exact HO_0.out) (Kd.R_base ho0) hb); have n1_ := Aside0.mk (Kd.N_elder' (by (with_reducible repeat (first | apply Kd.N_alloc | apply Kd.N_drewN | apply Kd.N_drew)); exact HO187.out) (Kd.R_base ho0) hb); have n2_ := Aside0.mk (Kd.R_lower (Kd.R_newM (M := fun k_ => (w.heap.size ≤ k_)) ho0 (below_size (by repeat (first | (with_reducible first | exact HB.out | apply below_alloc | apply pw_below_drewN | apply below_drew1) | exact HB.out))) (fun k_ h_ => h_)) (below_size (by repeat (first | (with_reducible first | exact HB.out | apply below_alloc | apply pw_below_drewN | apply below_drew1) | exact HB.out)))); have n3_ := Aside0.mk (below_step (by repeat (first | (with_reducible first | exact HB.out | apply below_alloc | apply pw_below_drewN | apply below_drew1) | exact HB.out)) hb); clear HO_0; clear HO187; clear HB; have HO_0 := n0_; have HO187 := n1_; have HO190 := n2_; have HB := n3_; clear n0_ n1_ n2_ n3_; (try clear hb); (try clear hb2); (try clear hk); (try clear hi); (try clear ho0); obtain ⟨Ao29, co29, eo29⟩ := Kd.R_slice HO190.out; subst eo29) | ((with_reducible refine gate_callee (f := 13) rfl ?_); refine goesL_ (some 41) rfl rfl Try.func13 (by kernel_rfl) rfl #[.slice Ao29 t188.length co29, .int .i64 a1] rfl (by (try simp only [List.map_toArray, List.map_cons, List.map_nil]); first | done | rfl | (simp only [List.length_drop, List.length_take]; rfl)) ?_; (with_reducible refine (pad_Seal.calls kj3 _ _ t188 a1 t191 t192 _ ?side1 ?side2 A11.out).mono ?_); (case side1 => repeat (first | exact (Kd.R_reads' HO190.out).2.2 | (with_reducible refine Kd.C_alloc ?_ _) | (with_reducible refine Kd.C_drewN ?_ _) | (with_reducible refine Kd.C_drew ?_))); (case side2 => exact (Kd.R_reads' HO190.out).2.1); rintro e w30 ⟨v193, rfl, ho0, hb⟩; refine ⟨_, rfl, ?_⟩; have n0_ := Aside0.mk (Kd.V_elder' (by (with_reducible repeat (first | apply Kd.V_alloc | apply Kd.V_drewN | apply Kd.V_drew)); exact HO_0.out) (Kd.R_base ho0) hb); have n1_ := Aside0.mk (Kd.N_elder' (by (with_reducible repeat (first | apply Kd.N_alloc | apply Kd.N_drewN | apply Kd.N_drew)); exact HO187.out) (Kd.R_base ho0) hb); have n2_ := Aside0.mk (Kd.R_elder' (by (with_reducible repeat (first | apply Kd.R_alloc | apply Kd.R_drewN | apply Kd.R_drew)); exact HO190.out) (Kd.R_base ho0) hb); have n3_ := Aside0.mk (Kd.R_lower (Kd.R_new' (Kd.R_newM (M := fun k_ => (w.heap.size ≤ k_)) ho0 (below_size (by repeat (first | (with_reducible first | exact HB.out | apply below_alloc | apply pw_below_drewN | apply below_drew1) | exact HB.out))) (fun k_ h_ => h_)) (Kd.R_lt (by (with_reducible repeat (first | apply Kd.R_alloc | apply Kd.R_drewN | apply Kd.R_drew)); exact HO190.out))) (below_size (by repeat (first | (with_reducible first | exact HB.out | apply below_alloc | apply pw_below_drewN | apply below_drew1) | exact HB.out)))); have n4_ := Aside0.mk (below_step (by repeat (first | (with_reducible first | exact HB.out | apply below_alloc | apply pw_below_drewN | apply below_drew1) | exact HB.out)) hb); clear HO_0; clear HO187; clear HO190; clear HB; have HO_0 := n0_; have HO187 := n1_; have HO190 := n2_; have HO194 := n3_; have HB := n4_; clear n0_ n1_ n2_ n3_ n4_; (try clear hb); (try clear hb2); (try clear hk); (try clear hi); (try clear ho0)) | ((with_reducible refine gate_callee (f := 14) rfl ?_); refine goesL_ (some 47) rfl rfl Try.func14 (by kernel_rfl) rfl #[.slice A0 l0.length c0, .int .i64 a1] rfl (by (try simp only [List.map_toArray, List.map_cons, List.map_nil]); first | done | rfl | (simp only [List.length_drop, List.length_take]; rfl)) ?_; (with_reducible refine (redoubtref12_Seal.calls kj3 (fun k_ => ((((P0_ k_ ∨ w.heap.size ≤ k_) ∧ some k_ ≠ (.slice Ao27 y185.length co27 : Value).ownBlock) ∧ some k_ ≠ (.slice Ao29 t188.length co29 : Value).ownBlock) ∧ some k_ ≠ (v193 : Value).ownBlock)) _ _ l0 a1 t195 t198 _ ?side1 A12.out).mono ?_); (case side1 => exact HO_0.out); rintro e w31 ⟨v196, rfl, ho0, hb⟩; refine ⟨_, rfl, ?_⟩; have n0_ := Aside0.mk (Kd.V_elder' (by (with_reducible repeat (first | apply Kd.V_alloc | apply Kd.V_drewN | apply Kd.V_drew)); exact HO_0.out) (Kd.R_base ho0) hb); have n1_ := Aside0.mk (Kd.N_elder' (by (with_reducible repeat (first | apply Kd.N_alloc | apply Kd.N_drewN | apply Kd.N_drew)); exact HO187.out) (Kd.R_base ho0) hb); have n2_ := Aside0.mk (Kd.R_elder' (by (with_reducible repeat (first | apply Kd.R_alloc | apply Kd.R_drewN | apply Kd.R_drew)); exact HO190.out) (Kd.R_base ho0) hb); have n3_ := Aside0.mk (Kd.R_elder' (by (with_reducible repeat (first | apply Kd.R_alloc | apply Kd.R_drewN | apply Kd.R_drew)); exact HO194.out) (Kd.R_base ho0) hb); have n4_ := Aside0.mk (Kd.R_lower (Kd.R_new' (Kd.R_new' (Kd.R_newM (M := fun k_ => (w.heap.size ≤ k_)) (Kd.R_mono (ok' := fun k_ => True) ho0 (fun _ hk_ => trivial)) (below_size (by repeat (first | (with_reducible first | exact HB.out | apply below_alloc | apply pw_below_drewN | apply below_drew1) | exact HB.out))) (fun k_ h_ => h_)) (Kd.R_lt (by (with_reducible repeat (first | apply Kd.R_alloc | apply Kd.R_drewN | apply Kd.R_drew)); exact HO190.out))) (Kd.R_lt (by (with_reducible repeat (first | apply Kd.R_alloc | apply Kd.R_drewN | apply Kd.R_drew)); exact HO194.out))) (below_size (by repeat (first | (with_reducible first | exact HB.out | apply below_alloc | apply pw_below_drewN | apply below_drew1) | exact HB.out)))); have n5_ := Aside0.mk (below_step (by repeat (first | (with_reducible first | exact HB.out | apply below_alloc | apply pw_below_drewN | apply below_drew1) | exact HB.out)) hb); clear HO_0; clear HO187; clear HO190; clear HO194; clear HB; have HO_0 := n0_; have HO187 := n1_; have HO190 := n2_; have HO194 := n3_; have HO197 := n4_; have HB := n5_; clear n0_ n1_ n2_ n3_ n4_ n5_; (try clear hb); (try clear hb2); (try clear hk); (try clear hi); (try clear ho0)) | ((with_reducible refine gate_callee (f := 15) rfl ?_); refine goesL_ (some 52) rfl rfl Try.func15 (by kernel_rfl) rfl #[.slice Ao29 t188.length co29] rfl (by (try simp only [List.map_toArray, List.map_cons, List.map_nil]); first | done | rfl | (simp only [List.length_drop, List.length_take]; rfl)) ?_; (with_reducible refine (pad_Open.calls kj3 (fun k_ => some k_ = (.slice Ao29 t188.length co29 : Value).ownBlock) _ _ t188 t199 t202 t203 _ ?side1 A13.out).mono ?_); (case side1 => exact Kd.R_V (Kd.R_tight rfl (Kd.R_apart' (HO190.out) (Kd.N_typed HO187.out) (by decide)))); rintro e w32 ⟨v200, rfl, ho0, hb⟩; refine ⟨_, rfl, ?_⟩; have n0_ := Aside0.mk (Kd.V_elder' (by (with_reducible repeat (first | apply Kd.V_alloc | apply Kd.V_drewN | apply Kd.V_drew)); exact HO_0.out) (Kd.R_base ho0) hb); have n1_ := Aside0.mk (Kd.N_elder' (by (with_reducible repeat (first | apply Kd.N_alloc | apply Kd.N_drewN | apply Kd.N_drew)); exact HO187.out) (Kd.R_base ho0) hb); have n2_ := Aside0.mk (Kd.R_elder' (by (with_reducible repeat (first | apply Kd.R_alloc | apply Kd.R_drewN | apply Kd.R_drew)); exact HO190.out) (Kd.R_base ho0) hb); have n3_ := Aside0.mk (Kd.R_elder' (by (with_reducible repeat (first | apply Kd.R_alloc | apply Kd.R_drewN | apply Kd.R_drew)); exact HO194.out) (Kd.R_base ho0) hb); have n4_ := Aside0.mk (Kd.R_elder' (by (with_reducible repeat (first | apply Kd.R_alloc | apply Kd.R_drewN | apply Kd.R_drew)); exact HO197.out) (Kd.R_base ho0) hb); have n5_ := Aside0.mk (Kd.R_lower (Kd.R_new' (Kd.R_new' (Kd.R_new' (Kd.R_newM (M := fun k_ => (w.heap.size ≤ k_)) (Kd.R_mono (ok' := fun k_ => True) ho0 (fun _ hk_ => trivial)) (below_size (by repeat (first | (with_reducible first | exact HB.out | apply below_alloc | apply pw_below_drewN | apply below_drew1) | exact HB.out))) (fun k_ h_ => h_)) (Kd.R_lt (by (with_reducible repeat (first | apply Kd.R_alloc | apply Kd.R_drewN | apply Kd.R_drew)); exact HO190.out))) (Kd.R_lt (by (with_reducible repeat (first | apply Kd.R_alloc | apply Kd.R_drewN | apply Kd.R_drew)); exact HO194.out))) (Kd.R_lt (by (with_reducible repeat (first | apply Kd.R_alloc | apply Kd.R_drewN | apply Kd.R_drew)); exact HO197.out))) (below_size (by repeat (first | (with_reducible first | exact HB.out | apply below_alloc | apply pw_below_drewN | apply below_drew1) | exact HB.out)))); have n6_ := Aside0.mk (below_step (by repeat (first | (with_reducible first | exact HB.out | apply below_alloc | apply pw_below_drewN | apply below_drew1) | exact HB.out)) hb); clear HO_0; clear HO187; clear HO190; clear HO194; clear HO197; clear HB; have HO_0 := n0_; have HO187 := n1_; have HO190 := n2_; have HO194 := n3_; have HO197 := n4_; have HO201 := n5_; have HB := n6_; clear n0_ n1_ n2_ n3_ n4_ n5_ n6_; (try clear hb); (try clear hb2); (try clear hk); (try clear hi); (try clear ho0)) | ((with_reducible refine gate_callee (f := 16) rfl ?_); refine goesL_ (some 58) rfl rfl Try.func16 (by kernel_rfl) rfl #[.slice A0 l0.length c0] rfl (by (try simp only [List.map_toArray, List.map_cons, List.map_nil]); first | done | rfl | (simp only [List.length_drop, List.length_take]; rfl)) ?_; (with_reducible refine (redoubtref12_Open.calls kj3 (fun k_ => ((((((P0_ k_ ∨ w.heap.size ≤ k_) ∧ some k_ ≠ (.slice Ao27 y185.length co27 : Value).ownBlock) ∧ some k_ ≠ (.slice Ao29 t188.length co29 : Value).ownBlock) ∧ some k_ ≠ (v193 : Value).ownBlock) ∧ some k_ ≠ (v196 : Value).ownBlock) ∧ some k_ ≠ (v200 : Value).ownBlock)) _ _ l0 t204 t207 t208 _ ?side1 A14.out).mono ?_); (case side1 => exact HO_0.out); rintro e w33 ⟨v205, rfl, ho0, hb⟩; refine ⟨_, rfl, ?_⟩; have n0_ := Aside0.mk (Kd.V_elder' (by (with_reducible repeat (first | apply Kd.V_alloc | apply Kd.V_drewN | apply Kd.V_drew)); exact HO_0.out) (Kd.R_base ho0) hb); have n1_ := Aside0.mk (Kd.N_elder' (by (with_reducible repeat (first | apply Kd.N_alloc | apply Kd.N_drewN | apply Kd.N_drew)); exact HO187.out) (Kd.R_base ho0) hb); have n2_ := Aside0.mk (Kd.R_elder' (by (with_reducible repeat (first | apply Kd.R_alloc | apply Kd.R_drewN | apply Kd.R_drew)); exact HO190.out) (Kd.R_base ho0) hb); have n3_ := Aside0.mk (Kd.R_elder' (by (with_reducible repeat (first | apply Kd.R_alloc | apply Kd.R_drewN | apply Kd.R_drew)); exact HO194.out) (Kd.R_base ho0) hb); have n4_ := Aside0.mk (Kd.R_elder' (by (with_reducible repeat (first | apply Kd.R_alloc | apply Kd.R_drewN | apply Kd.R_drew)); exact HO197.out) (Kd.R_base ho0) hb); have n5_ := Aside0.mk (Kd.R_elder' (by (with_reducible repeat (first | apply Kd.R_alloc | apply Kd.R_drewN | apply Kd.R_drew)); exact HO201.out) (Kd.R_base ho0) hb); have n6_ := Aside0.mk (Kd.R_lower (Kd.R_new' (Kd.R_new' (Kd.R_new' (Kd.R_new' (Kd.R_newM (M := fun k_ => (w.heap.size ≤ k_)) (Kd.R_mono (ok' := fun k_ => True) ho0 (fun _ hk_ => trivial)) (below_size (by repeat (first | (with_reducible first | exact HB.out | apply below_alloc | apply pw_below_drewN | apply below_drew1) | exact HB.out))) (fun k_ h_ => h_)) (Kd.R_lt (by (with_reducible repeat (first | apply Kd.R_alloc | apply Kd.R_drewN | apply Kd.R_drew)); exact HO190.out))) (Kd.R_lt (by (with_reducible repeat (first | apply Kd.R_alloc | apply Kd.R_drewN | apply Kd.R_drew)); exact HO194.out))) (Kd.R_lt (by (with_reducible repeat (first | apply Kd.R_alloc | apply Kd.R_drewN | apply Kd.R_drew)); exact HO197.out))) (Kd.R_lt (by (with_reducible repeat (first | apply Kd.R_alloc | apply Kd.R_drewN | apply Kd.R_drew)); exact HO201.out))) (below_size (by repeat (first | (with_reducible first | exact HB.out | apply below_alloc | apply pw_below_drewN | apply below_drew1) | exact HB.out)))); have n7_ := Aside0.mk (below_step (by repeat (first | (with_reducible first | exact HB.out | apply below_alloc | apply pw_below_drewN | apply below_drew1) | exact HB.out)) hb); clear HO_0; clear HO187; clear HO190; clear HO194; clear HO197; clear HO201; clear HB; have HO_0 := n0_; have HO187 := n1_; have HO190 := n2_; have HO194 := n3_; have HO197 := n4_; have HO201 := n5_; have HO206 := n6_; have HB := n7_; clear n0_ n1_ n2_ n3_ n4_ n5_ n6_ n7_; (try clear hb); (try clear hb2); (try clear hk); (try clear hi); (try clear ho0)) | ((with_reducible refine gate_callee (f := 17) rfl ?_); refine goesL_ (some 62) rfl rfl Try.func17 (by kernel_rfl) rfl #[] rfl (by (try simp only [List.map_toArray, List.map_cons, List.map_nil]); first | done | rfl | (simp only [List.length_drop, List.length_take]; rfl)) ?_; (with_reducible refine (redoubtlaw12_awake.calls kj3  true _ A15.out (by first | rfl | exact HRT.out)).mono ?_); rintro e w34 ⟨rfl, hb⟩; refine ⟨_, rfl, ?_⟩; have n0_ := Aside0.mk (Kd.V_below (by (with_reducible repeat (first | apply Kd.V_alloc | apply Kd.V_drewN | apply Kd.V_drew)); exact HO_0.out) hb); have n1_ := Aside0.mk (Kd.N_below (by (with_reducible repeat (first | apply Kd.N_alloc | apply Kd.N_drewN | apply Kd.N_drew)); exact HO187.out) hb); have n2_ := Aside0.mk (Kd.R_below (by (with_reducible repeat (first | apply Kd.R_alloc | apply Kd.R_drewN | apply Kd.R_drew)); exact HO190.out) hb); have n3_ := Aside0.mk (Kd.R_below (by (with_reducible repeat (first | apply Kd.R_alloc | apply Kd.R_drewN | apply Kd.R_drew)); exact HO194.out) hb); have n4_ := Aside0.mk (Kd.R_below (by (with_reducible repeat (first | apply Kd.R_alloc | apply Kd.R_drewN | apply Kd.R_drew)); exact HO197.out) hb); have n5_ := Aside0.mk (Kd.R_below (by (with_reducible repeat (first | apply Kd.R_alloc | apply Kd.R_drewN | apply Kd.R_drew)); exact HO201.out) hb); have n6_ := Aside0.mk (Kd.R_below (by (with_reducible repeat (first | apply Kd.R_alloc | apply Kd.R_drewN | apply Kd.R_drew)); exact HO206.out) hb); have n7_ := Aside0.mk (below_step (by repeat (first | (with_reducible first | exact HB.out | apply below_alloc | apply pw_below_drewN | apply below_drew1) | exact HB.out)) hb); clear HO_0; clear HO187; clear HO190; clear HO194; clear HO197; clear HO201; clear HO206; clear HB; have HO_0 := n0_; have HO187 := n1_; have HO190 := n2_; have HO194 := n3_; have HO197 := n4_; have HO201 := n5_; have HO206 := n6_; have HB := n7_; clear n0_ n1_ n2_ n3_ n4_ n5_ n6_ n7_; (try clear hb); (try clear hb2); (try clear hk); (try clear hi); have hcv35 := own_string (P := Try.prog) Try.underlying22 Try.underlying5 Try.underlying9 (Kd.own_of_R HO190.out); have hcv36 := Came.V_string (P := Try.prog) Try.underlying22 Try.underlying5 Try.underlying9 HO_0.out; have hcv37 := own_string (P := Try.prog) Try.underlying22 Try.underlying5 Try.underlying9 (Kd.own_of_R HO194.out); have hcv38 := own_string (P := Try.prog) Try.underlying22 Try.underlying5 Try.underlying9 (Kd.own_of_R HO197.out); have hcv39 := own_string (P := Try.prog) Try.underlying22 Try.underlying5 Try.underlying9 (Kd.own_of_R HO201.out); have hcv40 := own_string (P := Try.prog) Try.underlying22 Try.underlying5 Try.underlying9 (Kd.own_of_R HO206.out)) | (go_at_call 18; (with_reducible refine (pad_Length.calls a2 t210 _ A23.out).mono ?_); rintro e w' ⟨rfl, ⟨nd, rfl⟩⟩) | (go_at_call 19; (with_reducible refine (redoubtref12_Length.calls kj3 a2 t211 _ A24.out).mono ?_); rintro e w' ⟨rfl, ⟨nd, rfl⟩⟩))
                      go_ret
                      exact ⟨by first | rfl | (simp [errW_none, errW_some] <;> rfl) | (simp [*, errW_none, errW_some] <;> rfl), by repeat (first | (with_reducible first | exact HB.out | apply below_alloc | apply pw_below_drewN | apply below_drew1) | exact HB.out)⟩
                    · rw [if_neg c22] at H
                      have c22b0 : (t203 == t208) = false := beq_eq_false_iff_ne.mpr c22
                      have c22b1 : (t203 != t208) = true := bne_iff_ne.mpr c22
                      exact absurd (HRT.out.symm.trans (Option.some.inj H).symm) (by decide)
                  · rw [if_neg c21] at H
                    have c21b0 : (t202 == t207) = false := beq_eq_false_iff_ne.mpr c21
                    have c21b1 : (t202 != t207) = true := bne_iff_ne.mpr c21
                    exact absurd (HRT.out.symm.trans (Option.some.inj H).symm) (by decide)
                · rw [if_neg c20] at H
                  have c20b0 : ((strOfNums t199).toList == (strOfNums t204).toList) = false := beq_eq_false_iff_ne.mpr c20
                  have c20b1 : ((strOfNums t199).toList != (strOfNums t204).toList) = true := bne_iff_ne.mpr c20
                  exact absurd (HRT.out.symm.trans (Option.some.inj H).symm) (by decide)
              · rw [if_neg c19] at H
                have c19b0 : (t192 == t198) = false := beq_eq_false_iff_ne.mpr c19
                have c19b1 : (t192 != t198) = true := bne_iff_ne.mpr c19
                exact absurd (HRT.out.symm.trans (Option.some.inj H).symm) (by decide)
            · rw [if_neg c18] at H
              have c18b0 : ((strOfNums t191).toList == (strOfNums t195).toList) = false := beq_eq_false_iff_ne.mpr c18
              have c18b1 : ((strOfNums t191).toList != (strOfNums t195).toList) = true := bne_iff_ne.mpr c18
              exact absurd (HRT.out.symm.trans (Option.some.inj H).symm) (by decide)
          · rw [if_neg c17] at H
            have c17b0 : ((strOfNums t188).toList == (strOfNums l0).toList) = false := beq_eq_false_iff_ne.mpr c17
            have c17b1 : ((strOfNums t188).toList != (strOfNums l0).toList) = true := bne_iff_ne.mpr c17
            exact absurd (HRT.out.symm.trans (Option.some.inj H).symm) (by decide)
        · replace c16 := Bool.eq_false_iff.mpr c16
          subst c16
          have H1 : (some false) = some r := by rw [if_neg (show ¬ (false = true) by decide)] at H; exact H
          clear H
          have H := H1
          clear H1
          exact absurd (HRT.out.symm.trans (Option.some.inj H).symm) (by decide)
end Go.Proofs.Ytddkcepofoifdaa.QPd
