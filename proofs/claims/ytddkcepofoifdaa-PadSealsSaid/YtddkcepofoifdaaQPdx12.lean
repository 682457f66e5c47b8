-- Written by a program of this session (wip/tools/pp.py) out of what the kit's print.py prints over this seat's translation. Not trusted: Lean checks it.
import Derived.Test.YtddkcepofoifdaaCame
import Derived.Test.YtddkcepofoifdaaQPdx0
import Derived.Test.YtddkcepofoifdaaQPdx1
import Derived.Test.YtddkcepofoifdaaQPdx6
import Derived.Test.YtddkcepofoifdaaQPdx8
namespace Go.Proofs.Ytddkcepofoifdaa.QPd
open Go.RowKit Go.Proofs.YtddkcepofoifdaaW.PrintWords Go.Proofs.YtddkcepofoifdaaW.PrintLast Go.Proofs.YtddkcepofoifdaaW.PrintMore
attribute [local go_sem] max2_int min2_int max_two min_two max_three min_three max_four min_four   -- for this text's walks alone
set_option linter.unusedVariables false
set_option linter.unusedSimpArgs false

/-! ### redoubtlaw12_PadLong: function 5 -/
mutual
def redoubtlaw12_PadLong.j0 : Nat → List Int → Int → Int → Int → Int → Bool → Option (Bool)
  | 0, _, _, _, _, _, _ => none
  | k + 1, x0, x1, x2, x3, x4, x37 => if x37 = true then (some true) else ((redoubtref01_Both.f k (([x0] : List (List Int)))).bind fun t227 => (redoubtlaw12_PadLong.l0 k x0 x1 x2 x3 x4 t227 1))
def redoubtlaw12_PadLong.l0 : Nat → List Int → Int → Int → Int → Int → List Int → Int → Option (Bool)
  | 0, _, _, _, _, _, _, _ => none
  | k + 1, x0, x1, x2, x3, x4, x11, x12 => if x12 ≤ x1 then (if x11.length < 140737488355328 then (redoubtlaw12_PadLong.l0 k x0 x1 x2 x3 x4 (x11 ++ [(x12) % 256]) (wrap64 (x12 + 1))) else (none)) else ((some (([(x1) % 256, (x2) % 256] : List Int) : List Int)).bind fun y233 => (if x11.length + y233.length < 140737488355328 then ((some (x11 ++ y233 : List Int)).bind fun y236 => ((pad_Open.f k y236).bind fun bt239 => (if bt239.2.2 = 0 then (if (strOfNums bt239.1).toList = (strOfNums x0).toList then (redoubtlaw12_PadLong.j2 k x0 x1 x3 x4 y236 (bt239.2.1 != x2)) else (redoubtlaw12_PadLong.j2 k x0 x1 x3 x4 y236 true)) else (redoubtlaw12_PadLong.j2 k x0 x1 x3 x4 y236 true)))) else (none)))
def redoubtlaw12_PadLong.j2 : Nat → List Int → Int → Int → Int → List Int → Bool → Option (Bool)
  | 0, _, _, _, _, _, _ => none
  | k + 1, x0, x1, x3, x4, x11, x77 => if x77 = true then (some false) else (if x3 < 0 then (redoubtlaw12_PadLong.j3 k x0 x3 x4 x11 true) else (if x3 ≥ x1 then (redoubtlaw12_PadLong.j3 k x0 x3 x4 x11 true) else (if 0 ≤ (wrap64 ((x0.length : Int) + x3)) then (if (wrap64 ((x0.length : Int) + x3)) < (x11.length : Int) then (redoubtlaw12_PadLong.j3 k x0 x3 x4 x11 ((rd x11 (wrap64 ((x0.length : Int) + x3))) == x4)) else (none)) else (none))))
def redoubtlaw12_PadLong.j3 : Nat → List Int → Int → Int → List Int → Bool → Option (Bool)
  | 0, _, _, _, _, _ => none
  | k + 1, x0, x3, x4, x11, x95 => if x95 = true then ((redoubtlaw12_awake.f k).bind fun t245 => (some t245)) else (if 0 ≤ (wrap64 ((x0.length : Int) + x3)) then (if (wrap64 ((x0.length : Int) + x3)) < (x11.length : Int) then ((pad_Open.f k (x11.set ((wrap64 ((x0.length : Int) + x3)) : Int).toNat x4)).bind fun bt247 => ((redoubtlaw12_awake.f k).bind fun t252 => (if t252 = true then (if bt247.2.2 = 130 then (if (bt247.1.length : Int) = 0 then (some (bt247.2.1 == 0)) else (some false)) else (some false)) else (some false)))) else (none)) else (none))
end
def redoubtlaw12_PadLong.f (k : Nat) (l0 : List Int) (a1 : Int) (a2 : Int) (a3 : Int) (a4 : Int) : Option (Bool) := if (l0.length : Int) > 3000 then (redoubtlaw12_PadLong.j0 k l0 a1 a2 a3 a4 true) else (if a1 < 0 then (redoubtlaw12_PadLong.j0 k l0 a1 a2 a3 a4 true) else (if a1 > 255 then (redoubtlaw12_PadLong.j0 k l0 a1 a2 a3 a4 true) else (if a2 < 0 then (redoubtlaw12_PadLong.j0 k l0 a1 a2 a3 a4 true) else (redoubtlaw12_PadLong.j0 k l0 a1 a2 a3 a4 (decide (a2 > 255))))))
theorem redoubtlaw12_PadLong.mono_l : ∀ k, (∀ y0 y1 y2 y3 y4 y5, LeO (redoubtlaw12_PadLong.j0 k y0 y1 y2 y3 y4 y5) (redoubtlaw12_PadLong.j0 (k + 1) y0 y1 y2 y3 y4 y5)) ∧ (∀ y0 y1 y2 y3 y4 y5 y6, LeO (redoubtlaw12_PadLong.l0 k y0 y1 y2 y3 y4 y5 y6) (redoubtlaw12_PadLong.l0 (k + 1) y0 y1 y2 y3 y4 y5 y6)) ∧ (∀ y0 y1 y2 y3 y4 y5, LeO (redoubtlaw12_PadLong.j2 k y0 y1 y2 y3 y4 y5) (redoubtlaw12_PadLong.j2 (k + 1) y0 y1 y2 y3 y4 y5)) ∧ (∀ y0 y1 y2 y3 y4, LeO (redoubtlaw12_PadLong.j3 k y0 y1 y2 y3 y4) (redoubtlaw12_PadLong.j3 (k + 1) y0 y1 y2 y3 y4))
  | 0 => ⟨fun _ _ _ _ _ _ r h => by simp [redoubtlaw12_PadLong.j0] at h, fun _ _ _ _ _ _ _ r h => by simp [redoubtlaw12_PadLong.l0] at h, fun _ _ _ _ _ _ r h => by simp [redoubtlaw12_PadLong.j2] at h, fun _ _ _ _ _ r h => by simp [redoubtlaw12_PadLong.j3] at h⟩
  | k + 1 => by
    obtain ⟨ih0, ih1, ih2, ih3⟩ := redoubtlaw12_PadLong.mono_l k
    refine ⟨?_, ?_, ?_, ?_⟩
    · intro y0 y1 y2 y3 y4 y5
      unfold redoubtlaw12_PadLong.j0
      repeat' first
      | (with_reducible exact ih0 _ _ _ _ _ _)
      | (with_reducible exact ih1 _ _ _ _ _ _ _)
      | (with_reducible exact ih2 _ _ _ _ _ _)
      | (with_reducible exact ih3 _ _ _ _ _)
      | (with_reducible exact pad_Open.mono _ _)
      | (with_reducible exact redoubtlaw12_awake.mono _)
      | (with_reducible exact redoubtref01_Both.mono _ _)
      | (with_reducible exact LeO.refl _)
      | (with_reducible exact LeO.none _)
      | (with_reducible refine LeO.ite ?_ ?_)
      | (with_reducible refine LeO.bind ?_ (fun _ => ?_))
      | exact ih0 _ _ _ _ _ _
      | exact ih1 _ _ _ _ _ _ _
      | exact ih2 _ _ _ _ _ _
      | exact ih3 _ _ _ _ _
      | exact pad_Open.mono _ _
      | exact redoubtlaw12_awake.mono _
      | exact redoubtref01_Both.mono _ _
      | exact LeO.none _
      | refine LeO.ite ?_ ?_
      | refine LeO.bind ?_ (fun _ => ?_)
    · intro y0 y1 y2 y3 y4 y5 y6
      unfold redoubtlaw12_PadLong.l0
      repeat' first
      | (with_reducible exact ih0 _ _ _ _ _ _)
      | (with_reducible exact ih1 _ _ _ _ _ _ _)
      | (with_reducible exact ih2 _ _ _ _ _ _)
      | (with_reducible exact ih3 _ _ _ _ _)
      | (with_reducible exact pad_Open.mono _ _)
      | (with_reducible exact redoubtlaw12_awake.mono _)
      | (with_reducible exact redoubtref01_Both.mono _ _)
      | (with_reducible exact LeO.refl _)
      | (with_reducible exact LeO.none _)
      | (with_reducible refine LeO.ite ?_ ?_)
      | (with_reducible refine LeO.bind ?_ (fun _ => ?_))
      | exact ih0 _ _ _ _ _ _
      | exact ih1 _ _ _ _ _ _ _
      | exact ih2 _ _ _ _ _ _
      | exact ih3 _ _ _ _ _
      | exact pad_Open.mono _ _
      | exact redoubtlaw12_awake.mono _
      | exact redoubtref01_Both.mono _ _
      | exact LeO.none _
      | refine LeO.ite ?_ ?_
      | refine LeO.bind ?_ (fun _ => ?_)
    · intro y0 y1 y2 y3 y4 y5
      unfold redoubtlaw12_PadLong.j2
      repeat' first
      | (with_reducible exact ih0 _ _ _ _ _ _)
      | (with_reducible exact ih1 _ _ _ _ _ _ _)
      | (with_reducible exact ih2 _ _ _ _ _ _)
      | (with_reducible exact ih3 _ _ _ _ _)
      | (with_reducible exact pad_Open.mono _ _)
      | (with_reducible exact redoubtlaw12_awake.mono _)
      | (with_reducible exact redoubtref01_Both.mono _ _)
      | (with_reducible exact LeO.refl _)
      | (with_reducible exact LeO.none _)
      | (with_reducible refine LeO.ite ?_ ?_)
      | (with_reducible refine LeO.bind ?_ (fun _ => ?_))
      | exact ih0 _ _ _ _ _ _
      | exact ih1 _ _ _ _ _ _ _
      | exact ih2 _ _ _ _ _ _
      | exact ih3 _ _ _ _ _
      | exact pad_Open.mono _ _
      | exact redoubtlaw12_awake.mono _
      | exact redoubtref01_Both.mono _ _
      | exact LeO.none _
      | refine LeO.ite ?_ ?_
      | refine LeO.bind ?_ (fun _ => ?_)
    · intro y0 y1 y2 y3 y4
      unfold redoubtlaw12_PadLong.j3
      repeat' first
      | (with_reducible exact ih0 _ _ _ _ _ _)
      | (with_reducible exact ih1 _ _ _ _ _ _ _)
      | (with_reducible exact ih2 _ _ _ _ _ _)
      | (with_reducible exact ih3 _ _ _ _ _)
      | (with_reducible exact pad_Open.mono _ _)
      | (with_reducible exact redoubtlaw12_awake.mono _)
      | (with_reducible exact redoubtref01_Both.mono _ _)
      | (with_reducible exact LeO.refl _)
      | (with_reducible exact LeO.none _)
      | (with_reducible refine LeO.ite ?_ ?_)
      | (with_reducible refine LeO.bind ?_ (fun _ => ?_))
      | exact ih0 _ _ _ _ _ _
      | exact ih1 _ _ _ _ _ _ _
      | exact ih2 _ _ _ _ _ _
      | exact ih3 _ _ _ _ _
      | exact pad_Open.mono _ _
      | exact redoubtlaw12_awake.mono _
      | exact redoubtref01_Both.mono _ _
      | exact LeO.none _
      | refine LeO.ite ?_ ?_
      | refine LeO.bind ?_ (fun _ => ?_)
theorem redoubtlaw12_PadLong.mono : ∀ a0 a1 a2 a3 a4 k, LeO (redoubtlaw12_PadLong.f k a0 a1 a2 a3 a4) (redoubtlaw12_PadLong.f (k + 1) a0 a1 a2 a3 a4) := by
  intro a0 a1 a2 a3 a4 k
  obtain ⟨ih0, ih1, ih2, ih3⟩ := redoubtlaw12_PadLong.mono_l k
  unfold redoubtlaw12_PadLong.f
  repeat' first
      | (with_reducible exact ih0 _ _ _ _ _ _)
      | (with_reducible exact ih1 _ _ _ _ _ _ _)
      | (with_reducible exact ih2 _ _ _ _ _ _)
      | (with_reducible exact ih3 _ _ _ _ _)
      | (with_reducible exact pad_Open.mono _ _)
      | (with_reducible exact redoubtlaw12_awake.mono _)
      | (with_reducible exact redoubtref01_Both.mono _ _)
      | (with_reducible exact LeO.refl _)
      | (with_reducible exact LeO.none _)
      | (with_reducible refine LeO.ite ?_ ?_)
      | (with_reducible refine LeO.bind ?_ (fun _ => ?_))
      | exact ih0 _ _ _ _ _ _
      | exact ih1 _ _ _ _ _ _ _
      | exact ih2 _ _ _ _ _ _
      | exact ih3 _ _ _ _ _
      | exact pad_Open.mono _ _
      | exact redoubtlaw12_awake.mono _
      | exact redoubtref01_Both.mono _ _
      | exact LeO.none _
      | refine LeO.ite ?_ ?_
      | refine LeO.bind ?_ (fun _ => ?_)
set_option maxHeartbeats 8000000 in
set_option maxRecDepth 100000 in
theorem redoubtlaw12_PadLong.calls (k : Nat) (P0_ : Nat → Prop) (A0 : Option Addr) (c0 : Nat) (l0 : List Int) (a1 : Int) (a2 : Int) (a3 : Int) (a4 : Int) (r : Bool) (w : World) (hs0 : Kd.V (Kd.int .u8) 5 w w.heap.size (fun k_ => P0_ k_) (.slice A0 l0.length c0) l0) (h : redoubtlaw12_PadLong.f k l0 a1 a2 a3 a4 = some r) (hr_ : r = true) :
    Calls Try.prog 5 #[.slice A0 l0.length c0, .int .i64 a1, .int .i64 a2, .int .i64 a3, .int .u8 a4] w fun e w' => e = .returned (.bool r) ∧ Below w.heap.size w w' := by
  have HRT := Aside0.mk hr_
  clear hr_
  have HO0 := Aside0.mk (show Kd.V (Kd.int .u8) 5 w w.heap.size (fun k_ => (P0_ k_ ∨ w.heap.size ≤ k_)) (.slice A0 l0.length c0) l0 from Kd.V_mono hs0 (fun k_ hk => .inl hk))
  have HB := Aside0.mk (Below.refl w.heap.size w)
  have H : (if (l0.length : Int) > 3000 then (redoubtlaw12_PadLong.j0 k l0 a1 a2 a3 a4 true) else (if a1 < 0 then (redoubtlaw12_PadLong.j0 k l0 a1 a2 a3 a4 true) else (if a1 > 255 then (redoubtlaw12_PadLong.j0 k l0 a1 a2 a3 a4 true) else (if a2 < 0 then (redoubtlaw12_PadLong.j0 k l0 a1 a2 a3 a4 true) else (redoubtlaw12_PadLong.j0 k l0 a1 a2 a3 a4 (decide (a2 > 255))))))) = some r := h
  clear h
  have HC6 := Aside0.mk H
  clear H
  go_enter Try.func5, Try.ntmps5
  go_upto_region 1 with (fail)
  go_cut [37] (fun v37 wc => ∃ (kq : Nat) (x37_5 : Bool), v37 = .bool x37_5 ∧ Aside0 (redoubtlaw12_PadLong.j0 kq l0 a1 a2 a3 a4 x37_5 = some r) ∧ Aside0 (kq ≤ k) ∧ Aside0 (Kd.V (Kd.int .u8) 5 wc w.heap.size (fun k_ => (P0_ k_ ∨ w.heap.size ≤ k_)) (.slice A0 l0.length c0) l0) ∧ Aside0 (Below w.heap.size w wc))
  case first =>
    have H := HC6.out
    clear HC6
    by_cases c7 : (l0.length : Int) > 3000
    · rw [if_pos c7] at H
      have c7b0 : decide (3000 < (l0.length : Int)) = true := decide_eq_true c7
      have c7b1 : decide (3000 < l0.length) = true := decide_eq_true (by omega)
      clear c7
      (first | rw [c7b0] | (simp only [i64_w, i32_w]; rw [c7b0]) | skip)
      have H' := Aside0.mk H
      clear H
      go_wp2
      go_meet
      case rel => exact ⟨_, (true), (by first | rfl | (simp; done) | (simp [*]; done)), H', ⟨by first | omega | exact Nat.le_refl _⟩, ⟨by (with_reducible repeat (first | apply Kd.V_alloc | apply Kd.V_drewN | apply Kd.V_drew)); exact HO0.out⟩, ⟨by repeat (first | (with_reducible first | exact HB.out | apply below_alloc | apply pw_below_drewN | apply below_drew1) | exact HB.out)⟩⟩
    · rw [if_neg c7] at H
      have c7b0 : decide (3000 < (l0.length : Int)) = false := decide_eq_false c7
      have c7b1 : decide (3000 < l0.length) = false := decide_eq_false (by omega)
      clear c7
      (first | rw [c7b0] | (simp only [i64_w, i32_w]; rw [c7b0]) | skip)
      by_cases c8 : a1 < 0
      · rw [if_pos c8] at H
        have c8b0 : decide (a1 < 0) = true := decide_eq_true c8
        clear c8
        have H' := Aside0.mk H
        clear H
        go_wp2
        go_meet
        case rel => exact ⟨_, (true), (by first | rfl | (simp; done) | (simp [*]; done)), H', ⟨by first | omega | exact Nat.le_refl _⟩, ⟨by (with_reducible repeat (first | apply Kd.V_alloc | apply Kd.V_drewN | apply Kd.V_drew)); exact HO0.out⟩, ⟨by repeat (first | (with_reducible first | exact HB.out | apply below_alloc | apply pw_below_drewN | apply below_drew1) | exact HB.out)⟩⟩
      · rw [if_neg c8] at H
        have c8b0 : decide (a1 < 0) = false := decide_eq_false c8
        clear c8
        by_cases c9 : a1 > 255
        · rw [if_pos c9] at H
          have c9b0 : decide (255 < a1) = true := decide_eq_true c9
          clear c9
          have H' := Aside0.mk H
          clear H
          go_wp2
          go_meet
          case rel => exact ⟨_, (true), (by first | rfl | (simp; done) | (simp [*]; done)), H', ⟨by first | omega | exact Nat.le_refl _⟩, ⟨by (with_reducible repeat (first | apply Kd.V_alloc | apply Kd.V_drewN | apply Kd.V_drew)); exact HO0.out⟩, ⟨by repeat (first | (with_reducible first | exact HB.out | apply below_alloc | apply pw_below_drewN | apply below_drew1) | exact HB.out)⟩⟩
        · rw [if_neg c9] at H
          have c9b0 : decide (255 < a1) = false := decide_eq_false c9
          clear c9
          by_cases c10 : a2 < 0
          · rw [if_pos c10] at H
            have c10b0 : decide (a2 < 0) = true := decide_eq_true c10
            clear c10
            have H' := Aside0.mk H
            clear H
            go_wp2
            go_meet
            case rel => exact ⟨_, (true), (by first | rfl | (simp; done) | (simp [*]; done)), H', ⟨by first | omega | exact Nat.le_refl _⟩, ⟨by (with_reducible repeat (first | apply Kd.V_alloc | apply Kd.V_drewN | apply Kd.V_drew)); exact HO0.out⟩, ⟨by repeat (first | (with_reducible first | exact HB.out | apply below_alloc | apply pw_below_drewN | apply below_drew1) | exact HB.out)⟩⟩
          · rw [if_neg c10] at H
            have c10b0 : decide (a2 < 0) = false := decide_eq_false c10
            clear c10
            have H' := Aside0.mk H
            clear H
            go_wp2
            go_meet
            case rel => exact ⟨_, (decide (a2 > 255)), (by first | rfl | (simp; done) | (simp [*]; done)), H', ⟨by first | omega | exact Nat.le_refl _⟩, ⟨by (with_reducible repeat (first | apply Kd.V_alloc | apply Kd.V_drewN | apply Kd.V_drew)); exact HO0.out⟩, ⟨by repeat (first | (with_reducible first | exact HB.out | apply below_alloc | apply pw_below_drewN | apply below_drew1) | exact HB.out)⟩⟩
  case rest =>
    clear HC6
    try clear c1
    try clear p2
    try clear c5
    try clear c7
    try clear c7b0
    try clear c7b1
    try clear c8
    try clear c8b0
    try clear c9
    try clear c9b0
    try clear c10
    try clear c10b0
    obtain ⟨kq, x37_5, rfl, HA, HJ5, HO_0, HB⟩ := hcut
    cases kq with
    | zero => exact absurd HA.out (by simp [redoubtlaw12_PadLong.j0])
    | succ kj5 =>
      have H := HA.out
      clear HA
      simp only [redoubtlaw12_PadLong.j0] at H
      by_cases c11 : x37_5 = true
      · subst c11
        have H1 : (some true) = some r := by rw [if_pos rfl] at H; exact H
        clear H
        have H := H1
        clear H1
        obtain rfl := Option.some.inj H
        go_wp2
        go_ret
        exact ⟨by first | rfl | (simp [errW_none, errW_some] <;> rfl) | (simp [*, errW_none, errW_some] <;> rfl), by repeat (first | (with_reducible first | exact HB.out | apply below_alloc | apply pw_below_drewN | apply below_drew1) | exact HB.out)⟩
      · replace c11 := Bool.eq_false_iff.mpr c11
        subst c11
        have H1 : ((redoubtref01_Both.f kj5 (([l0] : List (List Int)))).bind fun t227 => (redoubtlaw12_PadLong.l0 kj5 l0 a1 a2 a3 a4 t227 1)) = some r := by rw [if_neg (show ¬ (false = true) by decide)] at H; exact H
        clear H
        have H := H1
        clear H1
        obtain ⟨y224, hy224⟩ : ∃ y_ : List (List Int), y_ = (([l0] : List (List Int))) := ⟨_, rfl⟩
        replace H : ((redoubtref01_Both.f kj5 y224).bind fun t227 => (redoubtlaw12_PadLong.l0 kj5 l0 a1 a2 a3 a4 t227 1)) = some r := by first | (rw [hy224]; with_reducible exact H) | (have H2_ := (Option.bind_some _ _).symm.trans H; rw [hy224]; with_reducible exact H2_) | (have H2_ := (Option.bind_some _ _).symm.trans H; with_reducible exact H2_) | with_reducible exact H | (rw [hy224]; exact H) | exact H
        have Ny224 := Aside0.mk hy224
        clear hy224
        replace H := Option.bind_eq_some_iff.mp H
        obtain ⟨t227, A120, H⟩ := H
        replace H : (redoubtlaw12_PadLong.l0 kj5 l0 a1 a2 a3 a4 t227 1) = some r := H
        have A12 := Aside0.mk A120
        clear A120
        have H' := Aside0.mk H
        clear H
        go_wp2_with (first | ((with_reducible refine gate_dst (N := 39) rfl ?_); (try (refine gate_guard (by rfl) ?_; dsimp only)); refine Kd.N_lit (Kd.slice 5 (Kd.int .u8)) _ 22 ?hg (N' := 39) ?hd (xs := ([l0] : List (List Int))) (inner := [.slice A0 l0.length c0]) (ok := (fun k_ => (P0_ k_ ∨ w.heap.size ≤ k_))) (okp := (fun k_ => (P0_ k_ ∨ w.heap.size ≤ k_))) ?hr ?hp (fun _ hk => hk) ((show ∀ k_, wc.heap.size ≤ k_ → (fun k_ => (P0_ k_ ∨ w.heap.size ≤ k_)) k_ from fun k_ hk => (.inr (Nat.le_trans (below_size (by repeat (first | (with_reducible first | exact HB.out | apply below_alloc | apply pw_below_drewN | apply below_drew1) | exact HB.out))) hk))) _ (Nat.le_refl _)) (Below.refl _ _) (Nat.le_refl _) (by simp) ?_; (case hd => rfl); (case hg => rfl); (case hr => first | (go_simp; done) | (go_simp; rfl)); (case hp => exact (Reps.one (show Kd.FK (Kd.slice 5 (Kd.int .u8)) _ _ l0 [.slice A0 l0.length c0] from (Kd.FK_slice_mk (Kd.V_reads' (Kd.V_mono (ok' := (fun k_ => (P0_ k_ ∨ w.heap.size ≤ k_))) (HO_0.out) (fun k_ hk => hk))).2.1 (Kd.V_F (Kd.V_mono (ok' := (fun k_ => (P0_ k_ ∨ w.heap.size ≤ k_))) (HO_0.out) (fun k_ hk => hk))))) (Reps.none _ _))); intro v225 w13 ho14 hb hg_ hnew_; clear hg_ hnew_; (first | rw [← Ny224.out] at ho14 | (simp only [Int.reduceToNat] at ho14; rw [← Ny224.out] at ho14)); have n0_ := Aside0.mk (Kd.V_elder' (by (with_reducible repeat (first | apply Kd.V_alloc | apply Kd.V_drewN | apply Kd.V_drew)); exact HO_0.out) (Kd.N_base ho14) hb); have n1_ := Aside0.mk (Kd.N_lower ho14 (below_size (by repeat (first | (with_reducible first | exact HB.out | apply below_alloc | apply pw_below_drewN | apply below_drew1) | exact HB.out)))); have n2_ := Aside0.mk (below_step (by repeat (first | (with_reducible first | exact HB.out | apply below_alloc | apply pw_below_drewN | apply below_drew1) | exact HB.out)) hb); clear HO_0; clear HB; have HO_0 := n0_; have HO226 := n1_; have HB := n2_; clear n0_ n1_ n2_; clear hb ho14; obtain ⟨Ao15, co15, eo15⟩ := Kd.N_slice HO226.out; subst eo15) | ((with_reducible refine gate_callee (f := 12) rfl ?_); refine goesL_ (some 40) rfl rfl Try.func12 (by kernel_rfl) rfl #[.slice Ao15 y224.length co15] rfl (by (try simp only [List.map_toArray, List.map_cons, List.map_nil]); first | done | rfl | (simp only [List.length_drop, List.length_take]; rfl)) ?_; (with_reducible refine (redoubtref01_Both.calls kj5 _ _ y224 t227 _ ?side1 ?side2 A12.out).mono ?_); (case side1 => repeat (first | exact (Kd.N_reads' HO226.out).2.2 | (with_reducible refine Kd.C_alloc ?_ _) | (with_reducible refine Kd.C_drewN ?_ _) | (with_reducible refine Kd.C_drew ?_))); (case side2 => exact (Kd.N_reads' HO226.out).2.1); rintro e w16 ⟨v228, rfl, ho0, hb⟩; refine ⟨_, rfl, ?_⟩; have n0_ := Aside0.mk (Kd.V_elder' (by (with_reducible repeat (first | apply Kd.V_alloc | apply Kd.V_drewN | apply Kd.V_drew)); exact HO_0.out) (Kd.R_base ho0) hb); have n1_ := Aside0.mk (Kd.N_elder' (by (with_reducible repeat (first | apply Kd.N_alloc | apply Kd.N_drewN | apply Kd.N_drew)); exact HO226.out) (Kd.R_base ho0) hb); have n2_ := Aside0.mk (Kd.R_lower (Kd.R_newM (M := fun k_ => (w.heap.size ≤ k_)) ho0 (below_size (by repeat (first | (with_reducible first | exact HB.out | apply below_alloc | apply pw_below_drewN | apply below_drew1) | exact HB.out))) (fun k_ h_ => h_)) (below_size (by repeat (first | (with_reducible first | exact HB.out | apply below_alloc | apply pw_below_drewN | apply below_drew1) | exact HB.out)))); have n3_ := Aside0.mk (below_step (by repeat (first | (with_reducible first | exact HB.out | apply below_alloc | apply pw_below_drewN | apply below_drew1) | exact HB.out)) hb); clear HO_0; clear HO226; clear HB; have HO_0 := n0_; have HO226 := n1_; have HO229 := n2_; have HB := n3_; clear n0_ n1_ n2_ n3_; (try clear hb); (try clear hb2); (try clear hk); (try clear hi); (try clear ho0)))
        go_loopg [11, 12] kj5 (fun kq v11 v12 w' => ∃ (x11_2 : List Int) (x12_2 : Int), v12 = .int .i64 x12_2 ∧ Aside0 (redoubtlaw12_PadLong.l0 kq l0 a1 a2 a3 a4 x11_2 x12_2 = some r) ∧ Aside0 (kq ≤ kj5) ∧ Aside0 (Kd.V (Kd.int .u8) 5 w' w.heap.size (fun k_ => (P0_ k_ ∨ w.heap.size ≤ k_) ∧ some k_ ≠ (v11 : Value).ownBlock) (.slice A0 l0.length c0) l0) ∧ Aside0 (Kd.R (Kd.int .u8) 5 w' w.heap.size (fun k_ => (w.heap.size ≤ k_)) v11 x11_2) ∧ Aside0 (Below w.heap.size w w'))
        case atStart => exact ⟨(t227), (1), (by first | rfl | (simp; done) | (simp [*]; done)), H', ⟨Nat.le_refl _⟩, ⟨by (with_reducible repeat (first | apply Kd.V_alloc | apply Kd.V_drewN | apply Kd.V_drew)); exact Kd.V_mono HO_0.out (fun _ hk => ⟨hk.1.1, hk.2⟩)⟩, ⟨by (with_reducible repeat (first | apply Kd.R_alloc | apply Kd.R_drewN | apply Kd.R_drew)); exact Kd.R_mono HO229.out (fun _ hk => hk.1)⟩, ⟨by repeat (first | (with_reducible first | exact HB.out | apply below_alloc | apply pw_below_drewN | apply below_drew1) | exact HB.out)⟩⟩
        case round =>
          clear H'
          try clear c1
          try clear p2
          try clear c5
          try clear c7
          try clear c7b0
          try clear c7b1
          try clear c8
          try clear c8b0
          try clear c9
          try clear c9b0
          try clear c10
          try clear c10b0
          try clear c11
          try clear c12
          try clear p2
          obtain ⟨x11_2, x12_2, rfl, HA, HK2, HO_0, HO_11, HB⟩ := hrel
          cases gk with
          | zero => exact absurd HA.out (by simp [redoubtlaw12_PadLong.l0])
          | succ k2 =>
            have H := HA.out
            clear HA
            simp only [redoubtlaw12_PadLong.l0] at H
            by_cases c17 : x12_2 ≤ a1
            · rw [if_pos c17] at H
              have c17b0 : decide (x12_2 ≤ a1) = true := decide_eq_true c17
              clear c17
              by_cases c18 : x11_2.length < 140737488355328
              · rw [if_pos c18] at H
                have LMc18 := Aside0.mk c18
                clear c18
                obtain ⟨y230, hy230⟩ : ∃ y_ : List Int, y_ = (x11_2 ++ [(x12_2) % 256]) := ⟨_, rfl⟩
                replace H : (redoubtlaw12_PadLong.l0 k2 l0 a1 a2 a3 a4 y230 (wrap64 (x12_2 + 1))) = some r := by first | (rw [hy230]; with_reducible exact H) | (have H2_ := (Option.bind_some _ _).symm.trans H; rw [hy230]; with_reducible exact H2_) | (have H2_ := (Option.bind_some _ _).symm.trans H; with_reducible exact H2_) | with_reducible exact H | (rw [hy230]; exact H) | exact H
                have Ny230 := Aside0.mk hy230
                clear hy230
                have H' := Aside0.mk H
                clear H
                go_wp2_with (first | ((with_reducible refine gate_builtin (b := .append) (xs := #[.tmp 46, .tmp 49]) rfl ?_); (try (refine gate_guard (by rfl) ?_; dsimp only)); at_builtin; refine Kd.R_append (Kd.int .u8) (w0 := w) w.heap.size rfl (.tmp 46) (.tmp 49) 22 5 (.int .u8 0) 1 rfl Try.underlying22 info5 rfl (by decide) (by omega) u11 x11_2 ((x12_2) % 256) [.int .u8 ((x12_2) % 256)] (fun k_ => (w.heap.size ≤ k_)) (fun _ => False) rfl rfl ?aP (fun _ hk => hk.elim) ?aF ?aO ?aB ?aS ?aL ?_; (case aP => exact rfl); (case aB => exact (by repeat (first | (with_reducible first | exact HB.out | apply below_alloc | apply pw_below_drewN | apply below_drew1) | exact HB.out))); (case aF => exact (fun k_ hk => (Nat.le_trans (below_size (by repeat (first | (with_reducible first | exact HB.out | apply below_alloc | apply pw_below_drewN | apply below_drew1) | exact HB.out))) hk))); (case aO => exact (by (with_reducible repeat (first | apply Kd.R_alloc | apply Kd.R_drewN | apply Kd.R_drew)); exact HO_11.out)); (case aS => exact (below_size (by repeat (first | (with_reducible first | exact HB.out | apply below_alloc | apply pw_below_drewN | apply below_drew1) | exact HB.out)))); (case aL => have := LMc18.out; omega); intro v231 w19 ho hb hg hat; rw [← Ny230.out] at ho; have n0_ := Aside0.mk (Kd.V_afterv (ok := (fun k_ => (P0_ k_ ∨ w.heap.size ≤ k_))) (by (with_reducible repeat (first | apply Kd.V_alloc | apply Kd.V_drewN | apply Kd.V_drew)); exact HO_0.out) hg hat); have n1_ := Aside0.mk (hb); have n2_ := Aside0.mk (ho); clear HO_0; clear HB; clear HO_11; have HO_0 := n0_; have HB := n1_; have HO232 := n2_; clear n0_ n1_ n2_; clear ho hb hg hat))
                go_roundg k2
                case measure => have := HJ5.out; have := HK2.out; omega
                case rel => exact ⟨(y230), (wrap64 (x12_2 + 1)), (by first | rfl | (simp; done) | (simp [*]; done)), H', ⟨by have := HJ5.out; have := HK2.out; omega⟩, ⟨by (with_reducible repeat (first | apply Kd.V_alloc | apply Kd.V_drewN | apply Kd.V_drew)); exact HO_0.out⟩, ⟨by (with_reducible repeat (first | apply Kd.R_alloc | apply Kd.R_drewN | apply Kd.R_drew)); exact HO232.out⟩, ⟨by repeat (first | (with_reducible first | exact HB.out | apply below_alloc | apply pw_below_drewN | apply below_drew1) | exact HB.out)⟩⟩
              · rw [if_neg c18] at H
                exact absurd H (by simp)
            · rw [if_neg c17] at H
              have c17b0 : decide (x12_2 ≤ a1) = false := decide_eq_false c17
              clear c17
              obtain ⟨y233, hy233⟩ : ∃ y_ : List Int, y_ = (([(a1) % 256, (a2) % 256] : List Int)) := ⟨_, rfl⟩
              replace H : (if x11_2.length + y233.length < 140737488355328 then ((some (x11_2 ++ y233 : List Int)).bind fun y236 => ((pad_Open.f k2 y236).bind fun bt239 => (if bt239.2.2 = 0 then (if (strOfNums bt239.1).toList = (strOfNums l0).toList then (redoubtlaw12_PadLong.j2 k2 l0 a1 a3 a4 y236 (bt239.2.1 != a2)) else (redoubtlaw12_PadLong.j2 k2 l0 a1 a3 a4 y236 true)) else (redoubtlaw12_PadLong.j2 k2 l0 a1 a3 a4 y236 true)))) else (none)) = some r := by first | (rw [hy233]; with_reducible exact H) | (have H2_ := (Option.bind_some _ _).symm.trans H; rw [hy233]; with_reducible exact H2_) | (have H2_ := (Option.bind_some _ _).symm.trans H; with_reducible exact H2_) | with_reducible exact H | (rw [hy233]; exact H) | exact H
              have Ny233 := Aside0.mk hy233
              clear hy233
              by_cases c20 : x11_2.length + y233.length < 140737488355328
              · rw [if_pos c20] at H
                have LMc20 := Aside0.mk c20
                clear c20
                obtain ⟨y236, hy236⟩ : ∃ y_ : List Int, y_ = (x11_2 ++ y233) := ⟨_, rfl⟩
                replace H : ((pad_Open.f k2 y236).bind fun bt239 => (if bt239.2.2 = 0 then (if (strOfNums bt239.1).toList = (strOfNums l0).toList then (redoubtlaw12_PadLong.j2 k2 l0 a1 a3 a4 y236 (bt239.2.1 != a2)) else (redoubtlaw12_PadLong.j2 k2 l0 a1 a3 a4 y236 true)) else (redoubtlaw12_PadLong.j2 k2 l0 a1 a3 a4 y236 true))) = some r := by first | (rw [hy236]; with_reducible exact H) | (have H2_ := (Option.bind_some _ _).symm.trans H; rw [hy236]; with_reducible exact H2_) | (have H2_ := (Option.bind_some _ _).symm.trans H; with_reducible exact H2_) | with_reducible exact H | (rw [hy236]; exact H) | exact H
                have Ny236 := Aside0.mk hy236
                clear hy236
                replace H := Option.bind_eq_some_iff.mp H
                obtain ⟨⟨t239, t242, t243⟩, A210, H⟩ := H
                replace H : (if t243 = 0 then (if (strOfNums t239).toList = (strOfNums l0).toList then (redoubtlaw12_PadLong.j2 k2 l0 a1 a3 a4 y236 (t242 != a2)) else (redoubtlaw12_PadLong.j2 k2 l0 a1 a3 a4 y236 true)) else (redoubtlaw12_PadLong.j2 k2 l0 a1 a3 a4 y236 true)) = some r := H
                have A21 := Aside0.mk A210
                clear A210
                have HC22 := Aside0.mk H
                clear H
                go_upto_region 10 with (first | ((with_reducible refine gate_dst (N := 56) rfl ?_); (try (refine gate_guard (by rfl) ?_; dsimp only)); refine Kd.R_lit (Kd.int .u8) _ 5 ?hg (N := 56) ?hd (xs := ([(a1) % 256, (a2) % 256] : List Int)) (inner := [.int .u8 ((a1) % 256), .int .u8 ((a2) % 256)]) (ok := fun _ => True) (okp := fun _ => True) ?hr ?hp (fun _ hk => hk) trivial (Below.refl _ _) (Nat.le_refl _) (by simp) ?_; (case hd => rfl); (case hg => rfl); (case hr => first | (go_simp; done) | (go_simp; rfl)); (case hp => exact (Reps.one (show Kd.M (Kd.int .u8) _ _ _ ((a1) % 256) [.int .u8 ((a1) % 256)] from rfl) (Reps.one (show Kd.M (Kd.int .u8) _ _ _ ((a2) % 256) [.int .u8 ((a2) % 256)] from rfl) (Reps.none _ _)))); intro v234 w23 ho24 hb hg_ hnew_; clear hg_ hnew_; (first | rw [← Ny233.out] at ho24 | (simp only [Int.reduceToNat] at ho24; rw [← Ny233.out] at ho24)); have n0_ := Aside0.mk (Kd.V_elder' (by (with_reducible repeat (first | apply Kd.V_alloc | apply Kd.V_drewN | apply Kd.V_drew)); exact HO_0.out) (Kd.R_base ho24) hb); have n1_ := Aside0.mk (Kd.R_elder' (by (with_reducible repeat (first | apply Kd.R_alloc | apply Kd.R_drewN | apply Kd.R_drew)); exact HO_11.out) (Kd.R_base ho24) hb); have n2_ := Aside0.mk (Kd.R_lower (Kd.R_new' (Kd.R_newM (M := fun k_ => (w.heap.size ≤ k_)) ho24 (below_size (by repeat (first | (with_reducible first | exact HB.out | apply below_alloc | apply pw_below_drewN | apply below_drew1) | exact HB.out))) (fun k_ h_ => h_)) (Kd.R_lt (by (with_reducible repeat (first | apply Kd.R_alloc | apply Kd.R_drewN | apply Kd.R_drew)); exact HO_11.out))) (below_size (by repeat (first | (with_reducible first | exact HB.out | apply below_alloc | apply pw_below_drewN | apply below_drew1) | exact HB.out)))); have n3_ := Aside0.mk (below_step (by repeat (first | (with_reducible first | exact HB.out | apply below_alloc | apply pw_below_drewN | apply below_drew1) | exact HB.out)) hb); clear HO_0; clear HO_11; clear HB; have HO_0 := n0_; have HO_11 := n1_; have HO235 := n2_; have HB := n3_; clear n0_ n1_ n2_ n3_; clear hb ho24; obtain ⟨Ao26, co26, eo26⟩ := Kd.R_slice HO235.out; subst eo26) | ((with_reducible refine gate_builtin (b := .append) (xs := #[.tmp 51, .tmp 56]) rfl ?_); (try (refine gate_guard (by rfl) ?_; dsimp only)); at_builtin; refine Kd.R_append_rows (Kd.int .u8) (w0 := w) w.heap.size rfl (.tmp 51) (.tmp 56) 22 5 (.int .u8 0) 1 rfl Try.underlying22 info5 rfl (by decide) (by omega) u11 x11_2 y233 _ _ _ (fun k_ => (w.heap.size ≤ k_) ∧ some k_ ≠ (.slice Ao26 y233.length co26 : Value).ownBlock) (fun _ => False) rfl rfl ?aO ?aR (fun _ _ h => h) (fun _ h => h.elim) ?aF ?aB ?aS ?aL ?_; (case aR => repeat (first | exact (Kd.R_reads' HO235.out).2.2 | (with_reducible refine Kd.C_alloc ?_ _) | (with_reducible refine Kd.C_drewN ?_ _) | (with_reducible refine Kd.C_drew ?_))); (case aB => exact (by repeat (first | (with_reducible first | exact HB.out | apply below_alloc | apply pw_below_drewN | apply below_drew1) | exact HB.out))); (case aF => exact (fun k_ hk => ⟨(Nat.le_trans (below_size (by repeat (first | (with_reducible first | exact HB.out | apply below_alloc | apply pw_below_drewN | apply below_drew1) | exact HB.out))) hk), Kd.fresh' (Kd.R_lt (by (with_reducible repeat (first | apply Kd.R_alloc | apply Kd.R_drewN | apply Kd.R_drew)); exact HO235.out)) k_ hk⟩)); (case aO => exact (by (with_reducible repeat (first | apply Kd.R_alloc | apply Kd.R_drewN | apply Kd.R_drew)); exact HO_11.out)); (case aS => exact (below_size (by repeat (first | (with_reducible first | exact HB.out | apply below_alloc | apply pw_below_drewN | apply below_drew1) | exact HB.out)))); (case aL => have := LMc20.out; omega); intro v237 w25 ho hb hg hat; rw [← Ny236.out] at ho; have n0_ := Aside0.mk (Kd.V_afterv (ok := (fun k_ => (P0_ k_ ∨ w.heap.size ≤ k_) ∧ some k_ ≠ (.slice Ao26 y233.length co26 : Value).ownBlock)) (by (with_reducible repeat (first | apply Kd.V_alloc | apply Kd.V_drewN | apply Kd.V_drew)); exact Kd.V_mono HO_0.out (fun _ hk => ⟨⟨hk.1.1, hk.2⟩, hk.1.2⟩)) hg hat); have n1_ := Aside0.mk (Kd.R_after (ok := (fun k_ => (w.heap.size ≤ k_))) (by (with_reducible repeat (first | apply Kd.R_alloc | apply Kd.R_drewN | apply Kd.R_drew)); exact Kd.R_mono HO235.out (fun _ hk => ⟨hk.1.1, hk.2⟩)) hg hat); have n2_ := Aside0.mk (hb); have n3_ := Aside0.mk (ho); clear HO_0; clear HO235; clear HB; clear HO_11; have HO_0 := n0_; have HO235 := n1_; have HB := n2_; have HO238 := n3_; clear n0_ n1_ n2_ n3_; clear ho hb hg hat; obtain ⟨Ao27, co27, eo27⟩ := Kd.R_slice HO238.out; subst eo27) | ((with_reducible refine gate_callee (f := 15) rfl ?_); refine goesL_ (some 60) rfl rfl Try.func15 (by kernel_rfl) rfl #[.slice Ao27 y236.length co27] rfl (by (try simp only [List.map_toArray, List.map_cons, List.map_nil]); first | done | rfl | (simp only [List.length_drop, List.length_take]; rfl)) ?_; (with_reducible refine (pad_Open.calls k2 (fun k_ => some k_ = (.slice Ao27 y236.length co27 : Value).ownBlock) _ _ y236 t239 t242 t243 _ ?side1 A21.out).mono ?_); (case side1 => exact Kd.R_V (Kd.R_tight rfl (HO238.out))); rintro e w28 ⟨v240, rfl, ho0, hb⟩; refine ⟨_, rfl, ?_⟩; have n0_ := Aside0.mk (Kd.V_elder' (by (with_reducible repeat (first | apply Kd.V_alloc | apply Kd.V_drewN | apply Kd.V_drew)); exact HO_0.out) (Kd.R_base ho0) hb); have n1_ := Aside0.mk (Kd.R_elder' (by (with_reducible repeat (first | apply Kd.R_alloc | apply Kd.R_drewN | apply Kd.R_drew)); exact HO235.out) (Kd.R_base ho0) hb); have n2_ := Aside0.mk (Kd.R_elder' (by (with_reducible repeat (first | apply Kd.R_alloc | apply Kd.R_drewN | apply Kd.R_drew)); exact HO238.out) (Kd.R_base ho0) hb); have n3_ := Aside0.mk (Kd.R_lower (Kd.R_new' (Kd.R_new' (Kd.R_newM (M := fun k_ => (w.heap.size ≤ k_)) (Kd.R_mono (ok' := fun k_ => True) ho0 (fun _ hk_ => trivial)) (below_size (by repeat (first | (with_reducible first | exact HB.out | apply below_alloc | apply pw_below_drewN | apply below_drew1) | exact HB.out))) (fun k_ h_ => h_)) (Kd.R_lt (by (with_reducible repeat (first | apply Kd.R_alloc | apply Kd.R_drewN | apply Kd.R_drew)); exact HO235.out))) (Kd.R_lt (by (with_reducible repeat (first | apply Kd.R_alloc | apply Kd.R_drewN | apply Kd.R_drew)); exact HO238.out))) (below_size (by repeat (first | (with_reducible first | exact HB.out | apply below_alloc | apply pw_below_drewN | apply below_drew1) | exact HB.out)))); have n4_ := Aside0.mk (below_step (by repeat (first | (with_reducible first | exact HB.out | apply below_alloc | apply pw_below_drewN | apply below_drew1) | exact HB.out)) hb); clear HO_0; clear HO235; clear HO238; clear HB; have HO_0 := n0_; have HO235 := n1_; have HO238 := n2_; have HO241 := n3_; have HB := n4_; clear n0_ n1_ n2_ n3_ n4_; (try clear hb); (try clear hb2); (try clear hk); (try clear hi); (try clear ho0)))
                (try simp only [Act.put, List.setIfInBounds_toArray, List.set_cons_zero, List.set_cons_succ])
                go_cut [77] (fun v77 wc => ∃ (kq : Nat) (x77_21 : Bool), v77 = .bool x77_21 ∧ Aside0 (redoubtlaw12_PadLong.j2 kq l0 a1 a3 a4 y236 x77_21 = some r) ∧ Aside0 (kq ≤ k2) ∧ Aside0 (Kd.V (Kd.int .u8) 5 wc w.heap.size (fun k_ => (P0_ k_ ∨ w.heap.size ≤ k_) ∧ some k_ ≠ ((.slice Ao27 y236.length co27) : Value).ownBlock) (.slice A0 l0.length c0) l0) ∧ Aside0 (Kd.R (Kd.int .u8) 5 wc w.heap.size (fun k_ => (w.heap.size ≤ k_)) (.slice Ao27 y236.length co27) y236) ∧ Aside0 (Below w.heap.size w wc))
                case first =>
                  have H := HC22.out
                  clear HC22
                  by_cases c29 : t243 = 0
                  · rw [if_pos c29] at H
                    have c29b0 : (t243 == 0) = true := beq_iff_eq.mpr c29
                    have c29b1 : (t243 != 0) = false := bne_eq_false_iff_eq.mpr c29
                    clear c29
                    (first | rw [c29b0] | (simp only [i64_w, i32_w]; rw [c29b0]) | skip)
                    by_cases c30 : (strOfNums t239).toList = (strOfNums l0).toList
                    · rw [if_pos c30] at H
                      have c30b0 : ((strOfNums t239).toList == (strOfNums l0).toList) = true := beq_iff_eq.mpr c30
                      have c30b1 : ((strOfNums t239).toList != (strOfNums l0).toList) = false := bne_eq_false_iff_eq.mpr c30
                      clear c30
                      have H' := Aside0.mk H
                      clear H
                      have hcv31 := own_string (P := Try.prog) Try.underlying22 Try.underlying5 Try.underlying9 (Kd.own_of_R HO241.out)
                      have hcv32 := Came.V_string (P := Try.prog) Try.underlying22 Try.underlying5 Try.underlying9 HO_0.out
                      go_wp2
                      go_meet
                      case rel => exact ⟨_, ((t242 != a2)), (by first | rfl | (simp; done) | (simp [*]; done)), H', ⟨by have := HJ5.out; have := HK2.out; first | omega | exact Nat.le_refl _⟩, ⟨by (with_reducible repeat (first | apply Kd.V_alloc | apply Kd.V_drewN | apply Kd.V_drew)); exact Kd.V_mono HO_0.out (fun _ hk => ⟨hk.1.1.1, hk.1.2⟩)⟩, ⟨by (with_reducible repeat (first | apply Kd.R_alloc | apply Kd.R_drewN | apply Kd.R_drew)); exact Kd.R_mono HO238.out (fun _ hk => hk.1.1)⟩, ⟨by repeat (first | (with_reducible first | exact HB.out | apply below_alloc | apply pw_below_drewN | apply below_drew1) | exact HB.out)⟩⟩
                    · rw [if_neg c30] at H
                      have c30b0 : ((strOfNums t239).toList == (strOfNums l0).toList) = false := beq_eq_false_iff_ne.mpr c30
                      have c30b1 : ((strOfNums t239).toList != (strOfNums l0).toList) = true := bne_iff_ne.mpr c30
                      have H' := Aside0.mk H
                      clear H
                      have hcv33 := own_string (P := Try.prog) Try.underlying22 Try.underlying5 Try.underlying9 (Kd.own_of_R HO241.out)
                      have hcv34 := Came.V_string (P := Try.prog) Try.underlying22 Try.underlying5 Try.underlying9 HO_0.out
                      go_wp2
                      go_meet
                      case rel => exact ⟨_, (true), (by first | rfl | (simp; done) | (simp [*]; done)), H', ⟨by have := HJ5.out; have := HK2.out; first | omega | exact Nat.le_refl _⟩, ⟨by (with_reducible repeat (first | apply Kd.V_alloc | apply Kd.V_drewN | apply Kd.V_drew)); exact Kd.V_mono HO_0.out (fun _ hk => ⟨hk.1.1.1, hk.1.2⟩)⟩, ⟨by (with_reducible repeat (first | apply Kd.R_alloc | apply Kd.R_drewN | apply Kd.R_drew)); exact Kd.R_mono HO238.out (fun _ hk => hk.1.1)⟩, ⟨by repeat (first | (with_reducible first | exact HB.out | apply below_alloc | apply pw_below_drewN | apply below_drew1) | exact HB.out)⟩⟩
                  · rw [if_neg c29] at H
                    have c29b0 : (t243 == 0) = false := beq_eq_false_iff_ne.mpr c29
                    have c29b1 : (t243 != 0) = true := bne_iff_ne.mpr c29
                    (first | rw [c29b0] | (simp only [i64_w, i32_w]; rw [c29b0]) | skip)
                    have H' := Aside0.mk H
                    clear H
                    go_wp2
                    go_meet
                    case rel => exact ⟨_, (true), (by first | rfl | (simp; done) | (simp [*]; done)), H', ⟨by have := HJ5.out; have := HK2.out; first | omega | exact Nat.le_refl _⟩, ⟨by (with_reducible repeat (first | apply Kd.V_alloc | apply Kd.V_drewN | apply Kd.V_drew)); exact Kd.V_mono HO_0.out (fun _ hk => ⟨hk.1.1.1, hk.1.2⟩)⟩, ⟨by (with_reducible repeat (first | apply Kd.R_alloc | apply Kd.R_drewN | apply Kd.R_drew)); exact Kd.R_mono HO238.out (fun _ hk => hk.1.1)⟩, ⟨by repeat (first | (with_reducible first | exact HB.out | apply below_alloc | apply pw_below_drewN | apply below_drew1) | exact HB.out)⟩⟩
                case rest =>
                  clear HC22
                  try clear c1
                  try clear c2
                  try clear p2
                  try clear c3
                  try clear hcv3
                  try clear c5
                  try clear p6
                  try clear c7
                  try clear c7b0
                  try clear c7b1
                  try clear c8
                  try clear c8b0
                  try clear c9
                  try clear c9b0
                  try clear c10
                  try clear c10b0
                  try clear c11
                  try clear c12
                  try clear c15
                  try clear c17
                  try clear c17b0
                  try clear c18
                  try clear c20
                  try clear c29
                  try clear c29b0
                  try clear c29b1
                  try clear c30
                  try clear c30b0
                  try clear c30b1
                  try clear hcv31
                  try clear hcv32
                  try clear hcv33
                  try clear hcv34
                  try clear p2
                  obtain ⟨kq, x77_21, rfl, HA, HJ21, HO_0, HO_11, HB⟩ := hcut
                  cases kq with
                  | zero => exact absurd HA.out (by simp [redoubtlaw12_PadLong.j2])
                  | succ kj21 =>
                    have H := HA.out
                    clear HA
                    simp only [redoubtlaw12_PadLong.j2] at H
                    by_cases c35 : x77_21 = true
                    · subst c35
                      have H1 : (some false) = some r := by rw [if_pos rfl] at H; exact H
                      clear H
                      have H := H1
                      clear H1
                      exact absurd (HRT.out.symm.trans (Option.some.inj H).symm) (by decide)
                    · replace c35 := Bool.eq_false_iff.mpr c35
                      subst c35
                      have H1 : (if a3 < 0 then (redoubtlaw12_PadLong.j3 kj21 l0 a3 a4 y236 true) else (if a3 ≥ a1 then (redoubtlaw12_PadLong.j3 kj21 l0 a3 a4 y236 true) else (if 0 ≤ (wrap64 ((l0.length : Int) + a3)) then (if (wrap64 ((l0.length : Int) + a3)) < (y236.length : Int) then (redoubtlaw12_PadLong.j3 kj21 l0 a3 a4 y236 ((rd y236 (wrap64 ((l0.length : Int) + a3))) == a4)) else (none)) else (none)))) = some r := by rw [if_neg (show ¬ (false = true) by decide)] at H; exact H
                      clear H
                      have H := H1
                      clear H1
                      have HC36 := Aside0.mk H
                      clear H
                      go_upto_region 12 with (fail)
                      go_cut [95] (fun v95 wc => ∃ (kq : Nat) (x95_35 : Bool), v95 = .bool x95_35 ∧ Aside0 (redoubtlaw12_PadLong.j3 kq l0 a3 a4 y236 x95_35 = some r) ∧ Aside0 (kq ≤ kj21) ∧ Aside0 (Kd.V (Kd.int .u8) 5 wc w.heap.size (fun k_ => (P0_ k_ ∨ w.heap.size ≤ k_) ∧ some k_ ≠ ((.slice Ao27 y236.length co27) : Value).ownBlock) (.slice A0 l0.length c0) l0) ∧ Aside0 (Kd.R (Kd.int .u8) 5 wc w.heap.size (fun k_ => (w.heap.size ≤ k_)) (.slice Ao27 y236.length co27) y236) ∧ Aside0 (Below w.heap.size w wc))
                      case first =>
                        have H := HC36.out
                        clear HC36
                        by_cases c37 : a3 < 0
                        · rw [if_pos c37] at H
                          have c37b0 : decide (a3 < 0) = true := decide_eq_true c37
                          clear c37
                          (first | rw [c37b0] | (simp only [i64_w, i32_w]; rw [c37b0]) | skip)
                          have H' := Aside0.mk H
                          clear H
                          go_wp2
                          go_meet
                          case rel => exact ⟨_, (true), (by first | rfl | (simp; done) | (simp [*]; done)), H', ⟨by have := HJ5.out; have := HK2.out; have := HJ21.out; first | omega | exact Nat.le_refl _⟩, ⟨by (with_reducible repeat (first | apply Kd.V_alloc | apply Kd.V_drewN | apply Kd.V_drew)); exact HO_0.out⟩, ⟨by (with_reducible repeat (first | apply Kd.R_alloc | apply Kd.R_drewN | apply Kd.R_drew)); exact HO_11.out⟩, ⟨by repeat (first | (with_reducible first | exact HB.out | apply below_alloc | apply pw_below_drewN | apply below_drew1) | exact HB.out)⟩⟩
                        · rw [if_neg c37] at H
                          have c37b0 : decide (a3 < 0) = false := decide_eq_false c37
                          clear c37
                          (first | rw [c37b0] | (simp only [i64_w, i32_w]; rw [c37b0]) | skip)
                          by_cases c38 : a3 ≥ a1
                          · rw [if_pos c38] at H
                            have c38b0 : decide (a1 ≤ a3) = true := decide_eq_true c38
                            clear c38
                            have H' := Aside0.mk H
                            clear H
                            go_wp2
                            go_meet
                            case rel => exact ⟨_, (true), (by first | rfl | (simp; done) | (simp [*]; done)), H', ⟨by have := HJ5.out; have := HK2.out; have := HJ21.out; first | omega | exact Nat.le_refl _⟩, ⟨by (with_reducible repeat (first | apply Kd.V_alloc | apply Kd.V_drewN | apply Kd.V_drew)); exact HO_0.out⟩, ⟨by (with_reducible repeat (first | apply Kd.R_alloc | apply Kd.R_drewN | apply Kd.R_drew)); exact HO_11.out⟩, ⟨by repeat (first | (with_reducible first | exact HB.out | apply below_alloc | apply pw_below_drewN | apply below_drew1) | exact HB.out)⟩⟩
                          · rw [if_neg c38] at H
                            have c38b0 : decide (a1 ≤ a3) = false := decide_eq_false c38
                            clear c38
                            obtain ⟨ji39, hji39⟩ : ∃ j_ : Int, (wrap64 ((l0.length : Int) + a3)) = j_ := ⟨_, rfl⟩
                            replace H : (if 0 ≤ (ji39) then (if (ji39) < (y236.length : Int) then (redoubtlaw12_PadLong.j3 kj21 l0 a3 a4 y236 ((rd y236 (ji39)) == a4)) else (none)) else (none)) = some r := by first | (rw [hji39] at H; exact H) | (simp only [hji39] at H ⊢; exact H)
                            have hji39w : (IntKind.i64.wrap ((l0.length : Int) + a3)) = ji39 := (i64_w _).trans hji39
                            by_cases c40 : 0 ≤ (ji39)
                            · rw [if_pos c40] at H
                              have c40b0 : decide (0 ≤ (ji39)) = true := decide_eq_true c40
                              clear c40
                              by_cases c41 : (ji39) < (y236.length : Int)
                              · rw [if_pos c41] at H
                                have c41b0 : decide ((ji39) < (y236.length : Int)) = true := decide_eq_true c41
                                clear c41
                                have H' := Aside0.mk H
                                clear H
                                have p244 : 0 ≤ ((ji39) : Int) := of_decide_eq_true (by first | (with_reducible assumption) | assumption)
                                have q244 : (ji39) < (y236.length : Int) := of_decide_eq_true (by first | (with_reducible assumption) | assumption)
                                obtain ⟨ad244, e244, hx244_0⟩ := Kd.at_int (Kd.R_reads' HO_11.out).2.2 (ji39) p244 q244
                                cases e244
                                replace p244 := eq_true p244
                                replace q244 := eq_true q244
                                go_wp2
                                go_meet
                                case rel => exact ⟨_, (((rd y236 (ji39)) == a4)), (by first | rfl | (simp; done) | (simp only [← hji39] <;> (first | rfl | simp)) | (simp [*]; done)), H', ⟨by have := HJ5.out; have := HK2.out; have := HJ21.out; first | omega | exact Nat.le_refl _⟩, ⟨by (with_reducible repeat (first | apply Kd.V_alloc | apply Kd.V_drewN | apply Kd.V_drew)); exact HO_0.out⟩, ⟨by (with_reducible repeat (first | apply Kd.R_alloc | apply Kd.R_drewN | apply Kd.R_drew)); exact HO_11.out⟩, ⟨by repeat (first | (with_reducible first | exact HB.out | apply below_alloc | apply pw_below_drewN | apply below_drew1) | exact HB.out)⟩⟩
                              · rw [if_neg c41] at H
                                exact absurd H (by simp)
                            · rw [if_neg c40] at H
                              exact absurd H (by simp)
                      case rest =>
                        clear HC36
                        try clear c1
                        try clear c2
                        try clear p2
                        try clear q2
                        try clear hx2
                        try clear c3
                        try clear hcv3
                        try clear c4
                        try clear c5
                        try clear p6
                        try clear c7
                        try clear c7b0
                        try clear c7b1
                        try clear c8
                        try clear c8b0
                        try clear c9
                        try clear c9b0
                        try clear c10
                        try clear c10b0
                        try clear c11
                        try clear c12
                        try clear c15
                        try clear c17
                        try clear c17b0
                        try clear c18
                        try clear c20
                        try clear p24
                        try clear q24
                        try clear hx24
                        try clear c29
                        try clear c29b0
                        try clear c29b1
                        try clear c30
                        try clear c30b0
                        try clear c30b1
                        try clear hcv31
                        try clear hcv32
                        try clear hcv33
                        try clear hcv34
                        try clear c35
                        try clear c37
                        try clear c37b0
                        try clear c38
                        try clear c38b0
                        try clear c40
                        try clear c40b0
                        try clear c41
                        try clear c41b0
                        try clear hx244_0
                        try clear p2
                        try clear p244
                        try clear p6
                        try clear q244
                        obtain ⟨kq, x95_35, rfl, HA, HJ35, HO_0, HO_11, HB⟩ := hcut
                        cases kq with
                        | zero => exact absurd HA.out (by simp [redoubtlaw12_PadLong.j3])
                        | succ kj35 =>
                          have H := HA.out
                          clear HA
                          simp only [redoubtlaw12_PadLong.j3] at H
                          by_cases c42 : x95_35 = true
                          · subst c42
                            have H1 : ((redoubtlaw12_awake.f kj35).bind fun t245 => (some t245)) = some r := by rw [if_pos rfl] at H; exact H
                            clear H
                            have H := H1
                            clear H1
                            replace H := Option.bind_eq_some_iff.mp H
                            obtain ⟨t245, A430, H⟩ := H
                            replace H : (some t245) = some r := H
                            have A43 := Aside0.mk A430
                            clear A430
                            obtain rfl := Option.some.inj H
                            go_wp2_with (first | ((with_reducible refine gate_callee (f := 17) rfl ?_); refine goesL_ (some 96) rfl rfl Try.func17 (by kernel_rfl) rfl #[] rfl (by (try simp only [List.map_toArray, List.map_cons, List.map_nil]); first | done | rfl | (simp only [List.length_drop, List.length_take]; rfl)) ?_; (with_reducible refine (redoubtlaw12_awake.calls kj35  t245 _ A43.out (by first | rfl | exact HRT.out)).mono ?_); rintro e w44 ⟨rfl, hb⟩; refine ⟨_, rfl, ?_⟩; have n0_ := Aside0.mk (Kd.V_below (by (with_reducible repeat (first | apply Kd.V_alloc | apply Kd.V_drewN | apply Kd.V_drew)); exact HO_0.out) hb); have n1_ := Aside0.mk (Kd.R_below (by (with_reducible repeat (first | apply Kd.R_alloc | apply Kd.R_drewN | apply Kd.R_drew)); exact HO_11.out) hb); have n2_ := Aside0.mk (below_step (by repeat (first | (with_reducible first | exact HB.out | apply below_alloc | apply pw_below_drewN | apply below_drew1) | exact HB.out)) hb); clear HO_0; clear HO_11; clear HB; have HO_0 := n0_; have HO_11 := n1_; have HB := n2_; clear n0_ n1_ n2_; (try clear hb); (try clear hb2); (try clear hk); (try clear hi)))
                            go_ret
                            exact ⟨by first | rfl | (simp [errW_none, errW_some] <;> rfl) | (simp [*, errW_none, errW_some] <;> rfl), by repeat (first | (with_reducible first | exact HB.out | apply below_alloc | apply pw_below_drewN | apply below_drew1) | exact HB.out)⟩
                          · replace c42 := Bool.eq_false_iff.mpr c42
                            subst c42
                            have H1 : (if 0 ≤ (wrap64 ((l0.length : Int) + a3)) then (if (wrap64 ((l0.length : Int) + a3)) < (y236.length : Int) then ((pad_Open.f kj35 (y236.set ((wrap64 ((l0.length : Int) + a3)) : Int).toNat a4)).bind fun bt247 => ((redoubtlaw12_awake.f kj35).bind fun t252 => (if t252 = true then (if bt247.2.2 = 130 then (if (bt247.1.length : Int) = 0 then (some (bt247.2.1 == 0)) else (some false)) else (some false)) else (some false)))) else (none)) else (none)) = some r := by rw [if_neg (show ¬ (false = true) by decide)] at H; exact H
                            clear H
                            have H := H1
                            clear H1
                            obtain ⟨ji45, hji45⟩ : ∃ j_ : Int, (wrap64 ((l0.length : Int) + a3)) = j_ := ⟨_, rfl⟩
                            replace H : (if 0 ≤ (ji45) then (if (ji45) < (y236.length : Int) then ((pad_Open.f kj35 (y236.set ((ji45) : Int).toNat a4)).bind fun bt247 => ((redoubtlaw12_awake.f kj35).bind fun t252 => (if t252 = true then (if bt247.2.2 = 130 then (if (bt247.1.length : Int) = 0 then (some (bt247.2.1 == 0)) else (some false)) else (some false)) else (some false)))) else (none)) else (none)) = some r := by first | (rw [hji45] at H; exact H) | (simp only [hji45] at H ⊢; exact H)
                            have hji45w : (IntKind.i64.wrap ((l0.length : Int) + a3)) = ji45 := (i64_w _).trans hji45
                            by_cases c46 : 0 ≤ (ji45)
                            · rw [if_pos c46] at H
                              have c46b0 : decide (0 ≤ (ji45)) = true := decide_eq_true c46
                              clear c46
                              by_cases c47 : (ji45) < (y236.length : Int)
                              · rw [if_pos c47] at H
                                have c47b0 : decide ((ji45) < (y236.length : Int)) = true := decide_eq_true c47
                                clear c47
                                obtain ⟨y246, hy246⟩ : ∃ y_ : List Int, y_ = (y236.set ((ji45) : Int).toNat a4) := ⟨_, rfl⟩
                                replace H : ((pad_Open.f kj35 y246).bind fun bt247 => ((redoubtlaw12_awake.f kj35).bind fun t252 => (if t252 = true then (if bt247.2.2 = 130 then (if (bt247.1.length : Int) = 0 then (some (bt247.2.1 == 0)) else (some false)) else (some false)) else (some false)))) = some r := by first | (rw [hy246]; with_reducible exact H) | (have H2_ := (Option.bind_some _ _).symm.trans H; rw [hy246]; with_reducible exact H2_) | (have H2_ := (Option.bind_some _ _).symm.trans H; with_reducible exact H2_) | with_reducible exact H | (rw [hy246]; exact H) | exact H
                                have Ny246 := Aside0.mk hy246
                                clear hy246
                                replace H := Option.bind_eq_some_iff.mp H
                                obtain ⟨⟨t247, t250, t251⟩, A490, H⟩ := H
                                replace H : ((redoubtlaw12_awake.f kj35).bind fun t252 => (if t252 = true then (if t251 = 130 then (if (t247.length : Int) = 0 then (some (t250 == 0)) else (some false)) else (some false)) else (some false))) = some r := H
                                have A49 := Aside0.mk A490
                                clear A490
                                replace H := Option.bind_eq_some_iff.mp H
                                obtain ⟨t252, A500, H⟩ := H
                                replace H : (if t252 = true then (if t251 = 130 then (if (t247.length : Int) = 0 then (some (t250 == 0)) else (some false)) else (some false)) else (some false)) = some r := H
                                have A50 := Aside0.mk A500
                                clear A500
                                by_cases c51 : t252 = true
                                · subst c51
                                  have H1 : (if t251 = 130 then (if (t247.length : Int) = 0 then (some (t250 == 0)) else (some false)) else (some false)) = some r := by rw [if_pos rfl] at H; exact H
                                  clear H
                                  have H := H1
                                  clear H1
                                  by_cases c52 : t251 = 130
                                  · rw [if_pos c52] at H
                                    have c52b0 : (t251 == 130) = true := beq_iff_eq.mpr c52
                                    have c52b1 : (t251 != 130) = false := bne_eq_false_iff_eq.mpr c52
                                    clear c52
                                    by_cases c53 : (t247.length : Int) = 0
                                    · rw [if_pos c53] at H
                                      have c53b0 : ((t247.length : Int) == 0) = true := beq_iff_eq.mpr c53
                                      have c53b1 : ((t247.length : Int) != 0) = false := bne_eq_false_iff_eq.mpr c53
                                      clear c53
                                      obtain rfl := Option.some.inj H
                                      have p48 : 0 ≤ ((ji45) : Int) := of_decide_eq_true (by first | (with_reducible assumption) | assumption)
                                      have q48 : ((ji45) : Int) < ((y236.length : Int) : Int) := of_decide_eq_true (by first | (with_reducible assumption) | assumption)
                                      obtain ⟨go48, co48, eo48, gb48, gl48, cl48, HG48⟩ := Kd.R_form HO_11.out (by omega)
                                      (first | cases eo48 | (injection eo48 with ea_ en_ ec_; (first | subst ea_ | (injection ea_ with ea_; subst ea_)); subst ec_; clear en_))
                                      have GB48 := Aside0.mk gb48
                                      have GG48 := Aside0.mk HG48
                                      clear gb48 gl48 HG48
                                      obtain ⟨hx48_0, hf48_0⟩ := Kd.R_celln 0 HO_11.out ((ji45) : Int) p48 q48
                                      replace p48 := eq_true p48
                                      replace q48 := eq_true q48
                                      have HP54 := Kd.R_putg HO_11.out ((ji45) : Int) a4
                                      go_wp2_with (first | ((with_reducible refine gate_store (t := 5) (p := 103) rfl ?_); refine store_event (t := 5) (p := 103) (v := ?vo_w55) (w1 := (wc.setCell ⟨go48, ((ji45) : Int).toNat, none⟩ (.int .u8 a4))) ?hg ?ho ?hn ?hr ?_; (case ho => rfl); (case hg => rfl); (case hn => rfl); (case hr => first | (go_simp; done) | (go_simp; rfl)); intro w55 hw; have hg : wc.grownBy w55 (some go48) := (by rw [hw]; exact HP54.2); have hp_ : Kd.R (Kd.int .u8) 5 w55 w.heap.size (fun k_ => (w.heap.size ≤ k_)) (.slice (some ⟨go48, 0, none⟩) y236.length co27) y246 := (by rw [hw, Ny246.out]; exact HP54.1); clear HP54; have n0_ := Aside0.mk (Kd.V_afterv (v := (.slice (some ⟨go48, 0, none⟩) y236.length co27)) (v1 := (.slice (some ⟨go48, 0, none⟩) y236.length co27)) (ok := (fun k_ => (P0_ k_ ∨ w.heap.size ≤ k_))) (by (with_reducible repeat (first | apply Kd.V_alloc | apply Kd.V_drewN | apply Kd.V_drew)); exact HO_0.out) hg (.inl rfl)); have n1_ := Aside0.mk (hp_); have n2_ := Aside0.mk ((by rw [hw]; exact below_set (HB.out) GB48.out : Below w.heap.size w w55)); clear HO_0; clear HO_11; clear HB; have HO_0 := n0_; have HO_11 := n1_; have HB := n2_; clear n0_ n1_ n2_; clear hg hw hp_) | ((with_reducible refine gate_callee (f := 15) rfl ?_); refine goesL_ (some 106) rfl rfl Try.func15 (by kernel_rfl) rfl #[.slice (some ⟨go48, 0, none⟩) y246.length co27] rfl (by (try simp only [List.map_toArray, List.map_cons, List.map_nil]); first | done | (rw [show y246.length = y236.length from (Kd.R_reads' HO_11.out).1.symm] <;> rfl) | rfl | (simp only [List.length_drop, List.length_take]; rfl)) ?_; (with_reducible refine (pad_Open.calls kj35 (fun k_ => some k_ = (.slice (some ⟨go48, 0, none⟩) y236.length co27 : Value).ownBlock) _ _ y246 t247 t250 t251 _ ?side1 A49.out).mono ?_); (case side1 => rw [show y246.length = y236.length from (Kd.R_reads' HO_11.out).1.symm]; exact Kd.R_V (Kd.R_tight rfl (HO_11.out))); rintro e w56 ⟨v248, rfl, ho0, hb⟩; refine ⟨_, rfl, ?_⟩; have n0_ := Aside0.mk (Kd.V_elder' (by (with_reducible repeat (first | apply Kd.V_alloc | apply Kd.V_drewN | apply Kd.V_drew)); exact HO_0.out) (Kd.R_base ho0) hb); have n1_ := Aside0.mk (Kd.R_elder' (by (with_reducible repeat (first | apply Kd.R_alloc | apply Kd.R_drewN | apply Kd.R_drew)); exact HO_11.out) (Kd.R_base ho0) hb); have n2_ := Aside0.mk (Kd.R_lower (Kd.R_new' (Kd.R_newM (M := fun k_ => (w.heap.size ≤ k_)) (Kd.R_mono (ok' := fun k_ => True) ho0 (fun _ hk_ => trivial)) (below_size (by repeat (first | (with_reducible first | exact HB.out | apply below_alloc | apply pw_below_drewN | apply below_drew1) | exact HB.out))) (fun k_ h_ => h_)) (Kd.R_lt (by (with_reducible repeat (first | apply Kd.R_alloc | apply Kd.R_drewN | apply Kd.R_drew)); exact HO_11.out))) (below_size (by repeat (first | (with_reducible first | exact HB.out | apply below_alloc | apply pw_below_drewN | apply below_drew1) | exact HB.out)))); have n3_ := Aside0.mk (below_step (by repeat (first | (with_reducible first | exact HB.out | apply below_alloc | apply pw_below_drewN | apply below_drew1) | exact HB.out)) hb); clear HO_0; clear HO_11; clear HB; have HO_0 := n0_; have HO_11 := n1_; have HO249 := n2_; have HB := n3_; clear n0_ n1_ n2_ n3_; (try clear hb); (try clear hb2); (try clear hk); (try clear hi); (try clear ho0)) | ((with_reducible refine gate_callee (f := 17) rfl ?_); refine goesL_ (some 110) rfl rfl Try.func17 (by kernel_rfl) rfl #[] rfl (by (try simp only [List.map_toArray, List.map_cons, List.map_nil]); first | done | rfl | (simp only [List.length_drop, List.length_take]; rfl)) ?_; (with_reducible refine (redoubtlaw12_awake.calls kj35  true _ A50.out (by first | rfl | exact HRT.out)).mono ?_); rintro e w57 ⟨rfl, hb⟩; refine ⟨_, rfl, ?_⟩; have n0_ := Aside0.mk (Kd.V_below (by (with_reducible repeat (first | apply Kd.V_alloc | apply Kd.V_drewN | apply Kd.V_drew)); exact HO_0.out) hb); have n1_ := Aside0.mk (Kd.R_below (by (with_reducible repeat (first | apply Kd.R_alloc | apply Kd.R_drewN | apply Kd.R_drew)); exact HO_11.out) hb); have n2_ := Aside0.mk (Kd.R_below (by (with_reducible repeat (first | apply Kd.R_alloc | apply Kd.R_drewN | apply Kd.R_drew)); exact HO249.out) hb); have n3_ := Aside0.mk (below_step (by repeat (first | (with_reducible first | exact HB.out | apply below_alloc | apply pw_below_drewN | apply below_drew1) | exact HB.out)) hb); clear HO_0; clear HO_11; clear HO249; clear HB; have HO_0 := n0_; have HO_11 := n1_; have HO249 := n2_; have HB := n3_; clear n0_ n1_ n2_ n3_; (try clear hb); (try clear hb2); (try clear hk); (try clear hi); obtain ⟨Ao58, co58, eo58⟩ := Kd.R_slice HO249.out; subst eo58))
                                      go_ret
                                      exact ⟨by first | rfl | (simp [errW_none, errW_some] <;> rfl) | (simp only [← hji45]; first | rfl | (simp [errW_none, errW_some] <;> rfl)) | (simp [*, errW_none, errW_some] <;> rfl), by repeat (first | (with_reducible first | exact HB.out | apply below_alloc | apply pw_below_drewN | apply below_drew1) | exact HB.out)⟩
                                    · rw [if_neg c53] at H
                                      have c53b0 : ((t247.length : Int) == 0) = false := beq_eq_false_iff_ne.mpr c53
                                      have c53b1 : ((t247.length : Int) != 0) = true := bne_iff_ne.mpr c53
                                      have c53b2 : ¬ (t247 = []) := fun h_ => c53 (by rw [h_]; rfl)
                                      exact absurd (HRT.out.symm.trans (Option.some.inj H).symm) (by decide)
                                  · rw [if_neg c52] at H
                                    have c52b0 : (t251 == 130) = false := beq_eq_false_iff_ne.mpr c52
                                    have c52b1 : (t251 != 130) = true := bne_iff_ne.mpr c52
                                    exact absurd (HRT.out.symm.trans (Option.some.inj H).symm) (by decide)
                                · replace c51 := Bool.eq_false_iff.mpr c51
                                  subst c51
                                  have H1 : (some false) = some r := by rw [if_neg (show ¬ (false = true) by decide)] at H; exact H
                                  clear H
                                  have H := H1
                                  clear H1
                                  exact absurd (HRT.out.symm.trans (Option.some.inj H).symm) (by decide)
                              · rw [if_neg c47] at H
                                exact absurd H (by simp)
                            · rw [if_neg c46] at H
                              exact absurd H (by simp)
              · rw [if_neg c20] at H
                exact absurd H (by simp)

end Go.Proofs.Ytddkcepofoifdaa.QPd
