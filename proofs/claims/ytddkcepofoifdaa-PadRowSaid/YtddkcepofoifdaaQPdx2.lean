-- Written by a program of this session (wip/tools/pp.py) out of what the kit's print.py prints over this seat's translation. Not trusted: Lean checks it.
import Derived.Test.YtddkcepofoifdaaQPdx0
namespace Go.Proofs.Ytddkcepofoifdaa.QPd
open Go.RowKit Go.Proofs.YtddkcepofoifdaaW.PrintWords Go.Proofs.YtddkcepofoifdaaW.PrintLast Go.Proofs.YtddkcepofoifdaaW.PrintMore
attribute [local go_sem] max2_int min2_int max_two min_two max_three min_three max_four min_four   -- for this text's walks alone
set_option linter.unusedVariables false
set_option linter.unusedSimpArgs false

/-! ### pad_Length: function 18 -/
def pad_Length.f (a0 : Int) : Option (Int) := if a0 < 0 then (some 0) else (some (wrap64 ((wrap64 (Int.tdiv (wrap64 ((wrap64 ((wrap64 (a0 + 2)) + 4)) - 1)) 4)) * 4)))
set_option maxHeartbeats 8000000 in
set_option maxRecDepth 100000 in
theorem pad_Length.calls (a0 : Int) (r : Int) (w : World) (h : pad_Length.f a0 = some r) :
    Calls Try.prog 18 #[.int .i64 a0] w fun e w' => e = .returned (.int .i64 r) ∧ Drawn0 w w' := by
  have H : (if a0 < 0 then (some 0) else (some (wrap64 ((wrap64 (Int.tdiv (wrap64 ((wrap64 ((wrap64 (a0 + 2)) + 4)) - 1)) 4)) * 4)))) = some r := h
  clear h
  by_cases c2 : a0 < 0
  · rw [if_pos c2] at H
    have c2b0 : decide (a0 < 0) = true := decide_eq_true c2
    clear c2
    obtain rfl := Option.some.inj H
    go_enter Try.func18, Try.ntmps18
    go_wp2
    go_ret
    exact ⟨by first | rfl | (simp; done) | (simp [*]; done), by repeat (first | exact Drawn0.refl _ | apply Drawn0.step)⟩
  · rw [if_neg c2] at H
    have c2b0 : decide (a0 < 0) = false := decide_eq_false c2
    clear c2
    obtain rfl := Option.some.inj H
    go_enter Try.func18, Try.ntmps18
    go_wp2
    go_ret
    exact ⟨by first | rfl | (simp; done) | (simp [*]; done), by repeat (first | exact Drawn0.refl _ | apply Drawn0.step)⟩

end Go.Proofs.Ytddkcepofoifdaa.QPd
