/-
  NARROWER THAN 'FOR EVERY INPUT', by the rows' own cells (each row's printed sentence says how): SadFollows: laid · SadOnce: laid · SadAges: laid · SadDoes: laid · SadNil: laid.
  DERIVED. THE GIVEN ROWS OF THIS SEAT. 5 by the template 'for every input the law returns true; each argument reads behind the call as it read before'; 0 by the template 'total and deterministic' (their statements: YtkmnpnbfeiobiaaDoorTotals.lean).
  GIVEN WITH THE SEED: the statements are not yours to turn. If you find one false, say at which input.
  Laid BY PROGRAM, IN A SANDBOX (cutbox-rows.mjs): the forced cells as the released guide's own fill.sh prints them over the translation 813553cc5f07d00d… (all of the seat's roots in one cut). By AI agents, Wed Nov 11 2026. No macro, syntax, notation, axiom, sorry.
-/
import Derived.Test.YtkmnpnbfeiobiaaDoorChecked
import GoSem.Claim
import GoSem.ClaimJoined
import GoSem.ClaimMapViews
import Derived.JoinedTies
import Derived.KernelRfl
namespace Go.Proofs.YtkmnpnbfeiobiaaDoor
/- THE CELL 'sum', in the pinned program and in every row, IS THE sha256 OF THE DUMP (.gsa) THAT YtkmnpnbfeiobiaaDoorProg.lean LOADS. Nothing in Lean hashes anything: it is a label: what it is worth is what the hold of that sum in a sandbox is worth. -/
noncomputable def Tryd.pinned : Pinned := { name := "ytkmnpnbfeiobiaadoor", sum := "813553cc5f07d00db286123b0b289ab6105f89e066d5c77b6e8117c535b0c173", checked := Tryd.checked }
namespace Rows
def none {H : Type} : Left H := { results := [], args := [] }

/- WHAT THE LISTED PACKAGE-LEVEL VARIABLES READ AS WHEN THE CALL BEGINS. Each datum BY PROGRAM (the guide's laid-datum.mjs) off the statement by which the dump's own 'gosem.cut.vars' lays the variable. In a bare row this is a premise. The card (YtkmnpnbfeiobiaaDoorCards.lean) ties it to the program's text. -/
def laid_errors_errorType {H : Type} : DataW H := .iface "internal/reflectlite.rtype" (.agg [.ptr (.lit (.string [101, 114, 114, 111, 114]))])

/-- 'redoubtlaw17.SadFollows': WHATEVER THE INPUT: true; the input reads as it did. -/
def sadFollowsSpec : ChangeSpec := { name := "sadFollows", fn := fun _ => fun
  | [d1, d2, d3, d4] => { results := [.lit (.bool true)], args := [d1, d2, d3, d4] }
  | _ => none }
def sadFollowsRow : OpenClaim := { program := "ytkmnpnbfeiobiaadoor", sum := "813553cc5f07d00db286123b0b289ab6105f89e066d5c77b6e8117c535b0c173", func := "redoubt/redoubtlaw17.SadFollows", spec := "sadFollows", inPlace := ["internal/reflectlite.ValueOf", "(internal/reflectlite.Value).Type", "(internal/reflectlite.Value).IsNil", "internal/reflectlite.TypeOf", "(internal/reflectlite.Value).Elem", "(internal/reflectlite.Value).Set"], unfollowed := true, recurses := true, named := ["errors.errorType"], apart := false, laid := [("errors.errorType", laid_errors_errorType)] }
def SadFollowsSaid : Prop := sadFollowsRow.holds Tryd.pinned (OpenSpec.ofChange sadFollowsSpec)

/-- ITS FALSE NEIGHBOUR: 'it returns false'. Refute it at one input. -/
def sadFollowsWrong : ChangeSpec := { name := "sadFollows", fn := fun _ => fun
  | [d1, d2, d3, d4] => { results := [.lit (.bool false)], args := [d1, d2, d3, d4] }
  | _ => none }
def SadFollowsWrongFalsely : Prop := sadFollowsRow.holds Tryd.pinned (OpenSpec.ofChange sadFollowsWrong)

/-- 'redoubtlaw17.SadOnce': WHATEVER THE INPUT: true; the input reads as it did. -/
def sadOnceSpec : ChangeSpec := { name := "sadOnce", fn := fun _ => fun
  | [d] => { results := [.lit (.bool true)], args := [d] }
  | _ => none }
def sadOnceRow : OpenClaim := { program := "ytkmnpnbfeiobiaadoor", sum := "813553cc5f07d00db286123b0b289ab6105f89e066d5c77b6e8117c535b0c173", func := "redoubt/redoubtlaw17.SadOnce", spec := "sadOnce", inPlace := ["internal/reflectlite.ValueOf", "(internal/reflectlite.Value).Type", "(internal/reflectlite.Value).IsNil", "internal/reflectlite.TypeOf", "(internal/reflectlite.Value).Elem", "(internal/reflectlite.Value).Set"], unfollowed := true, recurses := true, named := ["errors.errorType"], apart := false, laid := [("errors.errorType", laid_errors_errorType)] }
def SadOnceSaid : Prop := sadOnceRow.holds Tryd.pinned (OpenSpec.ofChange sadOnceSpec)

/-- ITS FALSE NEIGHBOUR: 'it returns false'. Refute it at one input. -/
def sadOnceWrong : ChangeSpec := { name := "sadOnce", fn := fun _ => fun
  | [d] => { results := [.lit (.bool false)], args := [d] }
  | _ => none }
def SadOnceWrongFalsely : Prop := sadOnceRow.holds Tryd.pinned (OpenSpec.ofChange sadOnceWrong)

/-- 'redoubtlaw17.SadAges': WHATEVER THE INPUT: true; the input reads as it did. -/
def sadAgesSpec : ChangeSpec := { name := "sadAges", fn := fun _ => fun
  | [d1, d2] => { results := [.lit (.bool true)], args := [d1, d2] }
  | _ => none }
def sadAgesRow : OpenClaim := { program := "ytkmnpnbfeiobiaadoor", sum := "813553cc5f07d00db286123b0b289ab6105f89e066d5c77b6e8117c535b0c173", func := "redoubt/redoubtlaw17.SadAges", spec := "sadAges", inPlace := ["internal/reflectlite.ValueOf", "(internal/reflectlite.Value).Type", "(internal/reflectlite.Value).IsNil", "internal/reflectlite.TypeOf", "(internal/reflectlite.Value).Elem", "(internal/reflectlite.Value).Set"], unfollowed := true, recurses := true, named := ["errors.errorType"], apart := false, laid := [("errors.errorType", laid_errors_errorType)] }
def SadAgesSaid : Prop := sadAgesRow.holds Tryd.pinned (OpenSpec.ofChange sadAgesSpec)

/-- ITS FALSE NEIGHBOUR: 'it returns false'. Refute it at one input. -/
def sadAgesWrong : ChangeSpec := { name := "sadAges", fn := fun _ => fun
  | [d1, d2] => { results := [.lit (.bool false)], args := [d1, d2] }
  | _ => none }
def SadAgesWrongFalsely : Prop := sadAgesRow.holds Tryd.pinned (OpenSpec.ofChange sadAgesWrong)

/-- 'redoubtlaw17.SadDoes': WHATEVER THE INPUT: true; the input reads as it did. -/
def sadDoesSpec : ChangeSpec := { name := "sadDoes", fn := fun _ => fun
  | [d] => { results := [.lit (.bool true)], args := [d] }
  | _ => none }
def sadDoesRow : OpenClaim := { program := "ytkmnpnbfeiobiaadoor", sum := "813553cc5f07d00db286123b0b289ab6105f89e066d5c77b6e8117c535b0c173", func := "redoubt/redoubtlaw17.SadDoes", spec := "sadDoes", inPlace := ["internal/reflectlite.ValueOf", "(internal/reflectlite.Value).Type", "(internal/reflectlite.Value).IsNil", "internal/reflectlite.TypeOf", "(internal/reflectlite.Value).Elem", "(internal/reflectlite.Value).Set"], unfollowed := true, recurses := true, named := ["errors.errorType"], apart := false, laid := [("errors.errorType", laid_errors_errorType)] }
def SadDoesSaid : Prop := sadDoesRow.holds Tryd.pinned (OpenSpec.ofChange sadDoesSpec)

/-- ITS FALSE NEIGHBOUR: 'it returns false'. Refute it at one input. -/
def sadDoesWrong : ChangeSpec := { name := "sadDoes", fn := fun _ => fun
  | [d] => { results := [.lit (.bool false)], args := [d] }
  | _ => none }
def SadDoesWrongFalsely : Prop := sadDoesRow.holds Tryd.pinned (OpenSpec.ofChange sadDoesWrong)

/-- 'redoubtlaw17.SadNil': WHATEVER THE INPUT: true; the input reads as it did. -/
def sadNilSpec : ChangeSpec := { name := "sadNil", fn := fun _ => fun
  | [d1, d2, d3] => { results := [.lit (.bool true)], args := [d1, d2, d3] }
  | _ => none }
def sadNilRow : OpenClaim := { program := "ytkmnpnbfeiobiaadoor", sum := "813553cc5f07d00db286123b0b289ab6105f89e066d5c77b6e8117c535b0c173", func := "redoubt/redoubtlaw17.SadNil", spec := "sadNil", inPlace := ["internal/reflectlite.ValueOf", "(internal/reflectlite.Value).Type", "(internal/reflectlite.Value).IsNil", "internal/reflectlite.TypeOf", "(internal/reflectlite.Value).Elem", "(internal/reflectlite.Value).Set"], unfollowed := true, recurses := true, named := ["errors.errorType"], apart := false, laid := [("errors.errorType", laid_errors_errorType)] }
def SadNilSaid : Prop := sadNilRow.holds Tryd.pinned (OpenSpec.ofChange sadNilSpec)

/-- ITS FALSE NEIGHBOUR: 'it returns false'. Refute it at one input. -/
def sadNilWrong : ChangeSpec := { name := "sadNil", fn := fun _ => fun
  | [d1, d2, d3] => { results := [.lit (.bool false)], args := [d1, d2, d3] }
  | _ => none }
def SadNilWrongFalsely : Prop := sadNilRow.holds Tryd.pinned (OpenSpec.ofChange sadNilWrong)

/- THE SECOND FORM. 'bulk': how many values and letters a reading holds, each counted each time it is reached (what is shared counts as often as it is met; a slice's spare places count too). A statement '..UptoSaid' is the law's where the arguments, and the package variables that the reading takes, are together of bulk at most 1048576: NARROWER than '..Said'. Prove '..Said' where nothing that the law and all that it calls make is longer than what came in: it says more and counts as full. Else prove '..UptoSaid'. A law counts once. -/
mutual
def uptoBulk {H : Type} : DataW H → Nat
  | .lit (.string bytes) => bytes.length + 1
  | .lit _ => 1
  | .nil => 1
  | .ptr d => uptoBulk d + 1
  | .slice elems spare => uptoBulkAll elems + uptoBulkAll spare + 1
  | .agg parts => uptoBulkAll parts + 1
  | .iface _ d => uptoBulk d + 1
  | .map entries => uptoBulkEntries entries + 1
  | .held _ => 1
def uptoBulkAll {H : Type} : List (DataW H) → Nat
  | [] => 0
  | d :: r => uptoBulk d + uptoBulkAll r
def uptoBulkEntries {H : Type} : List (Lit × DataW H) → Nat
  | [] => 0
  | x :: r => uptoBulkEntry x + uptoBulkEntries r
def uptoBulkEntry {H : Type} : Lit × DataW H → Nat
  | (.string bytes, d) => bytes.length + uptoBulk d + 1
  | (_, d) => uptoBulk d + 1
 end
def uptoSmall : (H : Type) → List (DataW H) → Bool := fun _ ds => decide (uptoBulkAll ds ≤ 1048576)
def OpenSpec.upto (s : _root_.Go.ChangeSpec) : _root_.Go.OpenSpec := { _root_.Go.OpenSpec.ofChange s with cond := some uptoSmall }

/-- 'redoubtlaw17.SadFollows', WHERE WHAT IT READS IS OF BULK AT MOST 1048576: true; the input reads as it did. -/
def sadFollowsUptoRow : OpenClaim := { program := "ytkmnpnbfeiobiaadoor", sum := "813553cc5f07d00db286123b0b289ab6105f89e066d5c77b6e8117c535b0c173", func := "redoubt/redoubtlaw17.SadFollows", spec := "sadFollows", inPlace := ["internal/reflectlite.ValueOf", "(internal/reflectlite.Value).Type", "(internal/reflectlite.Value).IsNil", "internal/reflectlite.TypeOf", "(internal/reflectlite.Value).Elem", "(internal/reflectlite.Value).Set"], unfollowed := true, recurses := true, named := ["errors.errorType"], apart := false, laid := [("errors.errorType", laid_errors_errorType)], narrowed := true }
def SadFollowsUptoSaid : Prop := sadFollowsUptoRow.holds Tryd.pinned (OpenSpec.upto sadFollowsSpec)

/-- 'redoubtlaw17.SadOnce', WHERE WHAT IT READS IS OF BULK AT MOST 1048576: true; the input reads as it did. -/
def sadOnceUptoRow : OpenClaim := { program := "ytkmnpnbfeiobiaadoor", sum := "813553cc5f07d00db286123b0b289ab6105f89e066d5c77b6e8117c535b0c173", func := "redoubt/redoubtlaw17.SadOnce", spec := "sadOnce", inPlace := ["internal/reflectlite.ValueOf", "(internal/reflectlite.Value).Type", "(internal/reflectlite.Value).IsNil", "internal/reflectlite.TypeOf", "(internal/reflectlite.Value).Elem", "(internal/reflectlite.Value).Set"], unfollowed := true, recurses := true, named := ["errors.errorType"], apart := false, laid := [("errors.errorType", laid_errors_errorType)], narrowed := true }
def SadOnceUptoSaid : Prop := sadOnceUptoRow.holds Tryd.pinned (OpenSpec.upto sadOnceSpec)

/-- 'redoubtlaw17.SadAges', WHERE WHAT IT READS IS OF BULK AT MOST 1048576: true; the input reads as it did. -/
def sadAgesUptoRow : OpenClaim := { program := "ytkmnpnbfeiobiaadoor", sum := "813553cc5f07d00db286123b0b289ab6105f89e066d5c77b6e8117c535b0c173", func := "redoubt/redoubtlaw17.SadAges", spec := "sadAges", inPlace := ["internal/reflectlite.ValueOf", "(internal/reflectlite.Value).Type", "(internal/reflectlite.Value).IsNil", "internal/reflectlite.TypeOf", "(internal/reflectlite.Value).Elem", "(internal/reflectlite.Value).Set"], unfollowed := true, recurses := true, named := ["errors.errorType"], apart := false, laid := [("errors.errorType", laid_errors_errorType)], narrowed := true }
def SadAgesUptoSaid : Prop := sadAgesUptoRow.holds Tryd.pinned (OpenSpec.upto sadAgesSpec)

/-- 'redoubtlaw17.SadDoes', WHERE WHAT IT READS IS OF BULK AT MOST 1048576: true; the input reads as it did. -/
def sadDoesUptoRow : OpenClaim := { program := "ytkmnpnbfeiobiaadoor", sum := "813553cc5f07d00db286123b0b289ab6105f89e066d5c77b6e8117c535b0c173", func := "redoubt/redoubtlaw17.SadDoes", spec := "sadDoes", inPlace := ["internal/reflectlite.ValueOf", "(internal/reflectlite.Value).Type", "(internal/reflectlite.Value).IsNil", "internal/reflectlite.TypeOf", "(internal/reflectlite.Value).Elem", "(internal/reflectlite.Value).Set"], unfollowed := true, recurses := true, named := ["errors.errorType"], apart := false, laid := [("errors.errorType", laid_errors_errorType)], narrowed := true }
def SadDoesUptoSaid : Prop := sadDoesUptoRow.holds Tryd.pinned (OpenSpec.upto sadDoesSpec)

/-- 'redoubtlaw17.SadNil', WHERE WHAT IT READS IS OF BULK AT MOST 1048576: true; the input reads as it did. -/
def sadNilUptoRow : OpenClaim := { program := "ytkmnpnbfeiobiaadoor", sum := "813553cc5f07d00db286123b0b289ab6105f89e066d5c77b6e8117c535b0c173", func := "redoubt/redoubtlaw17.SadNil", spec := "sadNil", inPlace := ["internal/reflectlite.ValueOf", "(internal/reflectlite.Value).Type", "(internal/reflectlite.Value).IsNil", "internal/reflectlite.TypeOf", "(internal/reflectlite.Value).Elem", "(internal/reflectlite.Value).Set"], unfollowed := true, recurses := true, named := ["errors.errorType"], apart := false, laid := [("errors.errorType", laid_errors_errorType)], narrowed := true }
def SadNilUptoSaid : Prop := sadNilUptoRow.holds Tryd.pinned (OpenSpec.upto sadNilSpec)

end Rows
end Go.Proofs.YtkmnpnbfeiobiaaDoor
