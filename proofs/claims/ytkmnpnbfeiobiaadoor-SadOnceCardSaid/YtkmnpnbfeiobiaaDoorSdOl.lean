/- The law SadOnce: its input. -/
import Derived.Test.YtkmnpnbfeiobiaaDoorSdOn
import Derived.Test.YtkmnpnbfeiobiaaDoorSdCm
namespace Go.Proofs.YtkmnpnbfeiobiaaDoor.Sd
open Go.RowKit Go.Proofs.YtkmnpnbfeiobiaaDoorW.PrintWords Go.Proofs.YtkmnpnbfeiobiaaDoor.QSa
open Go.Proofs.YtkmnpnbfeiobiaaDoor
theorem once_law {H : Type} {enc : TypeId × Value → H} {d : DataW H} {ps : List MemPlace} (A : Option Addr) (len c : Nat) (w : World) (hL : Laid w)
    (k : DataW.Trod enc Tryd.prog w 0 (fun _ => true) true 35 (.slice A len c) d ps) (wt : ∀ n ∈ d.weights Tryd.prog 35, n ≤ 140737488351232) :
    Calls Tryd.prog 4 #[.slice A len c] w fun e w' => e = .returned (.bool true) ∧ Below w.heap.size w w' := by
  obtain ⟨l, rfl, hc, hr, hm, hz, hs⟩ := came40 k wt
  exact once_main hL A l c hr hm hz hs
end Go.Proofs.YtkmnpnbfeiobiaaDoor.Sd
