-- Written by a program of this session (wip/tools/pp.py) out of what the kit's print.py prints over this seat's translation. Not trusted: Lean checks it.
import Derived.Test.YtmedkjiabieloaaQRdx0
namespace Go.Proofs.Ytmedkjiabieloaa.QRd
open Go.RowKit Go.Proofs.YtmedkjiabieloaaW.PrintWords Go.Proofs.YtmedkjiabieloaaW.PrintLast Go.Proofs.YtmedkjiabieloaaW.PrintMore
attribute [local go_sem] max2_int min2_int max_two min_two max_three min_three max_four min_four   -- for this text's walks alone
set_option linter.unusedVariables false
set_option linter.unusedSimpArgs false

/-! ### redoubtref02_Is: function 33 -/
def redoubtref02_Is.f (a0 : ByteArray) : Option (Bool) := if (a0.size : Int) = 4 then (some true) else (some ((a0.size : Int) == 16))
set_option maxHeartbeats 8000000 in
set_option maxRecDepth 100000 in
theorem redoubtref02_Is.calls (a0 : ByteArray) (r : Bool) (w : World) (h : redoubtref02_Is.f a0 = some r) :
    Calls Try.prog 33 #[.string a0] w fun e w' => e = .returned (.bool r) ∧ Drawn0 w w' := by
  have H : (if (a0.size : Int) = 4 then (some true) else (some ((a0.size : Int) == 16))) = some r := h
  clear h
  by_cases c2 : (a0.size : Int) = 4
  · rw [if_pos c2] at H
    have c2b0 : ((a0.size : Int) == 4) = true := beq_iff_eq.mpr c2
    have c2b1 : ((a0.size : Int) != 4) = false := bne_eq_false_iff_eq.mpr c2
    clear c2
    obtain rfl := Option.some.inj H
    go_enter Try.func33, Try.ntmps33
    go_wp2
    go_ret
    exact ⟨by first | rfl | (simp; done) | (simp [*]; done), by repeat (first | exact Drawn0.refl _ | apply Drawn0.step)⟩
  · rw [if_neg c2] at H
    have c2b0 : ((a0.size : Int) == 4) = false := beq_eq_false_iff_ne.mpr c2
    have c2b1 : ((a0.size : Int) != 4) = true := bne_iff_ne.mpr c2
    obtain rfl := Option.some.inj H
    go_enter Try.func33, Try.ntmps33
    go_wp2
    go_ret
    exact ⟨by first | rfl | (simp; done) | (simp [*]; done), by repeat (first | exact Drawn0.refl _ | apply Drawn0.step)⟩

end Go.Proofs.Ytmedkjiabieloaa.QRd
