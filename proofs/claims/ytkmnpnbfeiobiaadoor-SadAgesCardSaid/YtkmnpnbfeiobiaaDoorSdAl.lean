/- The law SadAges: its input. -/
import Derived.Test.YtkmnpnbfeiobiaaDoorSdAg
import Derived.Test.YtkmnpnbfeiobiaaDoorSdCm
namespace Go.Proofs.YtkmnpnbfeiobiaaDoor.Sd
open Go.RowKit Go.Proofs.YtkmnpnbfeiobiaaDoorW.PrintWords Go.Proofs.YtkmnpnbfeiobiaaDoor.QSa
open Go.Proofs.YtkmnpnbfeiobiaaDoor
theorem ages_law {H : Type} {enc : TypeId × Value → H} {d : DataW H} {ps : List MemPlace} (A : Option Addr) (len c : Nat) (rule : Int) (w : World) (hL : Laid w)
    (k : DataW.Trod enc Tryd.prog w 0 (fun _ => true) true 35 (.slice A len c) d ps) (wt : ∀ n ∈ d.weights Tryd.prog 35, n ≤ 140737488351232) (_h1 : (Lit.int .i64 rule).wf = true) :
    Calls Tryd.prog 5 #[.slice A len c, .int .i64 rule] w fun e w' => e = .returned (.bool true) ∧ Below w.heap.size w w' := by
  obtain ⟨l, rfl, hc, hr, hm, hz, hs⟩ := came40 k wt
  exact ages_main hL A l c rule hr hm hz hs
end Go.Proofs.YtkmnpnbfeiobiaaDoor.Sd
