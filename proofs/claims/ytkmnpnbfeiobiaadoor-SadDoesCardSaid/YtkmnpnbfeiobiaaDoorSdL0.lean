/- What the listed variable gives the walks, and that the door's own heap meets the condition (after the kit's worked example of errors.As). -/
import Derived.Test.YtkmnpnbfeiobiaaDoorRows
import Derived.Test.YtkmnpnbfeiobiaaDoorSdE
import Derived.ProofKit
import Derived.LaidMore
import Derived.LaidHandle
import Derived.OpenShut
import Derived.Stop.Joined
namespace Go.Proofs.YtkmnpnbfeiobiaaDoor.Sd
open Go.ChangeShapes Go.WideShapes Go.ChangeAt Go.RowKit
theorem laid_et : Tryd.prog.globalNamed "errors.errorType" = some 0 := by kernel_rfl
theorem laid_rt : (Tryd.prog.cutTypes.find? (·.1 == "internal/reflectlite.rtype")).map (·.2) = some 116 := by kernel_rfl
theorem laid_size : Tryd.prog.types.size = 159 := by kernel_rfl
theorem laid_oneRow : ((List.range 159).filter fun t => Tryd.prog.rowNamed t [101, 114, 114, 111, 114]) = [63] := by kernel_rfl
abbrev laidL {H : Type} : List (String × DataW H) := [("errors.errorType", Rows.laid_errors_errorType)]
theorem door_met (os : Os) (args : Array Value) : laidMetH Tryd.prog (laidL (H := Unit)) ((World.doorLaid Tryd.prog 400 os).forCall (fun _ _ => 0) ⟨#[], args, []⟩).memory :=
  laidMetH_of_parts3 (fuel := 8) (laidMet_nil _ _) (by kernel_rfl) (by kernel_rfl)
theorem laid_of {W : World} (h : laidMetH Tryd.prog (laidL (H := Unit)) W) : Laid W := by
  have h' : laidMet Tryd.prog [] W ∧ handlesMet Tryd.prog (laidL (H := Unit)) W := h
  obtain ⟨name, u, ty, e1, e2, e3, e4, e5⟩ := h'.2 _ (List.mem_singleton.2 rfl)
  have en : name = [101, 114, 114, 111, 114] := (Option.some.inj e1).symm
  subst en
  obtain rfl := Option.some.inj (laid_rt.symm.trans e2)
  have hm : ty ∈ (List.range 159).filter fun t => Tryd.prog.rowNamed t [101, 114, 114, 111, 114] := List.mem_filter.2 ⟨List.mem_range.2 (by rw [← laid_size]; exact e3), e4⟩
  rw [laid_oneRow] at hm
  obtain rfl := List.mem_singleton.1 hm
  have hh : typeHandle Tryd.prog 63 = .pointer (some ⟨1, 63, none⟩) := by kernel_rfl
  rw [hh] at e5
  show W.cell? ⟨0, 0, none⟩ = _
  simpa using World.var?_cell laid_et e5 0
end Go.Proofs.YtkmnpnbfeiobiaaDoor.Sd
