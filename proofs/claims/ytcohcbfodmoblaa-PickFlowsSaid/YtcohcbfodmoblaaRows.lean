/-
  No cell of these rows narrows 'for every input' (looked for: loops, veiled, ifaces, maps, wideKeys, modest, calm, conditions, laid).
  DERIVED. THE GIVEN ROWS OF THIS SEAT. 4 by the template 'for every input the law returns true; each argument reads behind the call as it read before'; 0 by the template 'total and deterministic' (their statements: YtcohcbfodmoblaaTotals.lean).
  GIVEN WITH THE SEED: the statements are not yours to turn. If you find one false, say at which input.
  Laid BY PROGRAM, IN A SANDBOX (cutbox-rows.mjs): the forced cells as the released guide's own fill.sh prints them over the translation 028a97bc7454baa9… (all of the seat's roots in one cut). By AI agents, Wed Nov 11 2026. No macro, syntax, notation, axiom, sorry.
-/
import Derived.Test.YtcohcbfodmoblaaChecked
import GoSem.Claim
import GoSem.ClaimJoined
import GoSem.ClaimMapViews
import Derived.JoinedTies
import Derived.KernelRfl
namespace Go.Proofs.Ytcohcbfodmoblaa
/- THE CELL 'sum', in the pinned program and in every row, IS THE sha256 OF THE DUMP (.gsa) THAT YtcohcbfodmoblaaProg.lean LOADS. Nothing in Lean hashes anything: it is a label: what it is worth is what the hold of that sum in a sandbox is worth. -/
noncomputable def Try.pinned : Pinned := { name := "ytcohcbfodmoblaa", sum := "028a97bc7454baa92dc184ba0b5fa1ce5e69995132a005bc689331b5c2e9b4a4", checked := Try.checked }
namespace Rows
def none {H : Type} : Left H := { results := [], args := [] }

/-- 'redoubtlaw15.PickFlows': WHATEVER THE INPUT: true; the input reads as it did. -/
def pickFlowsSpec : ChangeSpec := { name := "pickFlows", fn := fun _ => fun
  | [d1, d2, d3, d4, d5, d6] => { results := [.lit (.bool true)], args := [d1, d2, d3, d4, d5, d6] }
  | _ => none }
def pickFlowsRow : OpenClaim := { program := "ytcohcbfodmoblaa", sum := "028a97bc7454baa92dc184ba0b5fa1ce5e69995132a005bc689331b5c2e9b4a4", func := "redoubt/redoubtlaw15.PickFlows", spec := "pickFlows", apart := false }
def PickFlowsSaid : Prop := pickFlowsRow.holds Try.pinned (OpenSpec.ofChange pickFlowsSpec)

/-- ITS FALSE NEIGHBOUR: 'it returns false'. Refute it at one input. -/
def pickFlowsWrong : ChangeSpec := { name := "pickFlows", fn := fun _ => fun
  | [d1, d2, d3, d4, d5, d6] => { results := [.lit (.bool false)], args := [d1, d2, d3, d4, d5, d6] }
  | _ => none }
def PickFlowsWrongFalsely : Prop := pickFlowsRow.holds Try.pinned (OpenSpec.ofChange pickFlowsWrong)

/-- 'redoubtlaw15.PickTurned': WHATEVER THE INPUT: true; the input reads as it did. -/
def pickTurnedSpec : ChangeSpec := { name := "pickTurned", fn := fun _ => fun
  | [d1, d2, d3, d4, d5, d6] => { results := [.lit (.bool true)], args := [d1, d2, d3, d4, d5, d6] }
  | _ => none }
def pickTurnedRow : OpenClaim := { program := "ytcohcbfodmoblaa", sum := "028a97bc7454baa92dc184ba0b5fa1ce5e69995132a005bc689331b5c2e9b4a4", func := "redoubt/redoubtlaw15.PickTurned", spec := "pickTurned", apart := false }
def PickTurnedSaid : Prop := pickTurnedRow.holds Try.pinned (OpenSpec.ofChange pickTurnedSpec)

/-- ITS FALSE NEIGHBOUR: 'it returns false'. Refute it at one input. -/
def pickTurnedWrong : ChangeSpec := { name := "pickTurned", fn := fun _ => fun
  | [d1, d2, d3, d4, d5, d6] => { results := [.lit (.bool false)], args := [d1, d2, d3, d4, d5, d6] }
  | _ => none }
def PickTurnedWrongFalsely : Prop := pickTurnedRow.holds Try.pinned (OpenSpec.ofChange pickTurnedWrong)

/-- 'redoubtlaw15.PickWider': WHATEVER THE INPUT: true; the input reads as it did. -/
def pickWiderSpec : ChangeSpec := { name := "pickWider", fn := fun _ => fun
  | [d1, d2, d3, d4, d5, d6, d7] => { results := [.lit (.bool true)], args := [d1, d2, d3, d4, d5, d6, d7] }
  | _ => none }
def pickWiderRow : OpenClaim := { program := "ytcohcbfodmoblaa", sum := "028a97bc7454baa92dc184ba0b5fa1ce5e69995132a005bc689331b5c2e9b4a4", func := "redoubt/redoubtlaw15.PickWider", spec := "pickWider", apart := false }
def PickWiderSaid : Prop := pickWiderRow.holds Try.pinned (OpenSpec.ofChange pickWiderSpec)

/-- ITS FALSE NEIGHBOUR: 'it returns false'. Refute it at one input. -/
def pickWiderWrong : ChangeSpec := { name := "pickWider", fn := fun _ => fun
  | [d1, d2, d3, d4, d5, d6, d7] => { results := [.lit (.bool false)], args := [d1, d2, d3, d4, d5, d6, d7] }
  | _ => none }
def PickWiderWrongFalsely : Prop := pickWiderRow.holds Try.pinned (OpenSpec.ofChange pickWiderWrong)

/-- 'redoubtlaw15.PickNone': WHATEVER THE INPUT: true; the input reads as it did. -/
def pickNoneSpec : ChangeSpec := { name := "pickNone", fn := fun _ => fun
  | [d1, d2] => { results := [.lit (.bool true)], args := [d1, d2] }
  | _ => none }
def pickNoneRow : OpenClaim := { program := "ytcohcbfodmoblaa", sum := "028a97bc7454baa92dc184ba0b5fa1ce5e69995132a005bc689331b5c2e9b4a4", func := "redoubt/redoubtlaw15.PickNone", spec := "pickNone", apart := false }
def PickNoneSaid : Prop := pickNoneRow.holds Try.pinned (OpenSpec.ofChange pickNoneSpec)

/-- ITS FALSE NEIGHBOUR: 'it returns false'. Refute it at one input. -/
def pickNoneWrong : ChangeSpec := { name := "pickNone", fn := fun _ => fun
  | [d1, d2] => { results := [.lit (.bool false)], args := [d1, d2] }
  | _ => none }
def PickNoneWrongFalsely : Prop := pickNoneRow.holds Try.pinned (OpenSpec.ofChange pickNoneWrong)

/- THE SECOND FORM. 'bulk': how many values and letters a reading holds, each counted each time it is reached (what is shared counts as often as it is met; a slice's spare places count too). A statement '..UptoSaid' is the law's where the arguments, and the package variables that the reading takes, are together of bulk at most 1048576: NARROWER than '..Said'. Prove '..Said' where nothing that the law and all that it calls make is longer than what came in: it says more and counts as full. Else prove '..UptoSaid'. A law counts once. -/
mutual
def uptoBulk {H : Type} : DataW H → Nat
  | .lit (.string bytes) => bytes.length + 1
  | .lit _ => 1
  | .nil => 1
  | .ptr d => uptoBulk d + 1
  | .slice elems spare => uptoBulkAll elems + uptoBulkAll spare + 1
  | .agg parts => uptoBulkAll parts + 1
  | .iface _ d => uptoBulk d + 1
  | .map entries => uptoBulkEntries entries + 1
  | .held _ => 1
def uptoBulkAll {H : Type} : List (DataW H) → Nat
  | [] => 0
  | d :: r => uptoBulk d + uptoBulkAll r
def uptoBulkEntries {H : Type} : List (Lit × DataW H) → Nat
  | [] => 0
  | x :: r => uptoBulkEntry x + uptoBulkEntries r
def uptoBulkEntry {H : Type} : Lit × DataW H → Nat
  | (.string bytes, d) => bytes.length + uptoBulk d + 1
  | (_, d) => uptoBulk d + 1
 end
def uptoSmall : (H : Type) → List (DataW H) → Bool := fun _ ds => decide (uptoBulkAll ds ≤ 1048576)
def OpenSpec.upto (s : _root_.Go.ChangeSpec) : _root_.Go.OpenSpec := { _root_.Go.OpenSpec.ofChange s with cond := some uptoSmall }

/-- 'redoubtlaw15.PickFlows', WHERE WHAT IT READS IS OF BULK AT MOST 1048576: true; the input reads as it did. -/
def pickFlowsUptoRow : OpenClaim := { program := "ytcohcbfodmoblaa", sum := "028a97bc7454baa92dc184ba0b5fa1ce5e69995132a005bc689331b5c2e9b4a4", func := "redoubt/redoubtlaw15.PickFlows", spec := "pickFlows", apart := false, narrowed := true }
def PickFlowsUptoSaid : Prop := pickFlowsUptoRow.holds Try.pinned (OpenSpec.upto pickFlowsSpec)

/-- 'redoubtlaw15.PickTurned', WHERE WHAT IT READS IS OF BULK AT MOST 1048576: true; the input reads as it did. -/
def pickTurnedUptoRow : OpenClaim := { program := "ytcohcbfodmoblaa", sum := "028a97bc7454baa92dc184ba0b5fa1ce5e69995132a005bc689331b5c2e9b4a4", func := "redoubt/redoubtlaw15.PickTurned", spec := "pickTurned", apart := false, narrowed := true }
def PickTurnedUptoSaid : Prop := pickTurnedUptoRow.holds Try.pinned (OpenSpec.upto pickTurnedSpec)

/-- 'redoubtlaw15.PickWider', WHERE WHAT IT READS IS OF BULK AT MOST 1048576: true; the input reads as it did. -/
def pickWiderUptoRow : OpenClaim := { program := "ytcohcbfodmoblaa", sum := "028a97bc7454baa92dc184ba0b5fa1ce5e69995132a005bc689331b5c2e9b4a4", func := "redoubt/redoubtlaw15.PickWider", spec := "pickWider", apart := false, narrowed := true }
def PickWiderUptoSaid : Prop := pickWiderUptoRow.holds Try.pinned (OpenSpec.upto pickWiderSpec)

/-- 'redoubtlaw15.PickNone', WHERE WHAT IT READS IS OF BULK AT MOST 1048576: true; the input reads as it did. -/
def pickNoneUptoRow : OpenClaim := { program := "ytcohcbfodmoblaa", sum := "028a97bc7454baa92dc184ba0b5fa1ce5e69995132a005bc689331b5c2e9b4a4", func := "redoubt/redoubtlaw15.PickNone", spec := "pickNone", apart := false, narrowed := true }
def PickNoneUptoSaid : Prop := pickNoneUptoRow.holds Try.pinned (OpenSpec.upto pickNoneSpec)

end Rows
end Go.Proofs.Ytcohcbfodmoblaa
