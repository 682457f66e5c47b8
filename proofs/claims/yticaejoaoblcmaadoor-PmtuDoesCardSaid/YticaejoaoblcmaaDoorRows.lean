/-
  NARROWER THAN 'FOR EVERY INPUT', by the rows' own cells (each row's printed sentence says how): PmtuFloor: laid · PmtuInner: laid · PmtuApart: laid · PmtuDoes: laid.
  DERIVED. THE GIVEN ROWS OF THIS SEAT. 4 by the template 'for every input the law returns true; each argument reads behind the call as it read before'; 0 by the template 'total and deterministic' (their statements: YticaejoaoblcmaaDoorTotals.lean).
  GIVEN WITH THE SEED: the statements are not yours to turn. If you find one false, say at which input.
  Laid BY PROGRAM, IN A SANDBOX (cutbox-rows.mjs): the forced cells as the released guide's own fill.sh prints them over the translation dae9c0abc1b414d8… (all of the seat's roots in one cut). By AI agents, Wed Nov 11 2026. No macro, syntax, notation, axiom, sorry.
-/
import Derived.Test.YticaejoaoblcmaaDoorChecked
import GoSem.Claim
import GoSem.ClaimJoined
import GoSem.ClaimMapViews
import Derived.JoinedTies
import Derived.KernelRfl
namespace Go.Proofs.YticaejoaoblcmaaDoor
/- THE CELL 'sum', in the pinned program and in every row, IS THE sha256 OF THE DUMP (.gsa) THAT YticaejoaoblcmaaDoorProg.lean LOADS. Nothing in Lean hashes anything: it is a label: what it is worth is what the hold of that sum in a sandbox is worth. -/
noncomputable def Tryd.pinned : Pinned := { name := "yticaejoaoblcmaadoor", sum := "dae9c0abc1b414d84ba25c5737f9696ebd9f07a9b0d3df48a1be6c3edcf3887d", checked := Tryd.checked }
namespace Rows
def none {H : Type} : Left H := { results := [], args := [] }

/- WHAT THE LISTED PACKAGE-LEVEL VARIABLES READ AS WHEN THE CALL BEGINS. Each datum BY PROGRAM (the guide's laid-datum.mjs) off the statement by which the dump's own 'gosem.cut.vars' lays the variable. In a bare row this is a premise. The card (YticaejoaoblcmaaDoorCards.lean) ties it to the program's text. -/
def laid_redoubt_pmtu_heads {H : Type} : DataW H := .agg [.lit (.int .i64 20), .lit (.int .i64 40)]

/-- 'redoubtlaw21.PmtuFloor': WHATEVER THE INPUT: true; the input reads as it did. -/
def pmtuFloorSpec : ChangeSpec := { name := "pmtuFloor", fn := fun _ => fun
  | [d] => { results := [.lit (.bool true)], args := [d] }
  | _ => none }
def pmtuFloorRow : OpenClaim := { program := "yticaejoaoblcmaadoor", sum := "dae9c0abc1b414d84ba25c5737f9696ebd9f07a9b0d3df48a1be6c3edcf3887d", func := "redoubt/redoubtlaw21.PmtuFloor", spec := "pmtuFloor", named := ["redoubt/pmtu.heads"], apart := false, laid := [("redoubt/pmtu.heads", laid_redoubt_pmtu_heads)] }
def PmtuFloorSaid : Prop := pmtuFloorRow.holds Tryd.pinned (OpenSpec.ofChange pmtuFloorSpec)

/-- ITS FALSE NEIGHBOUR: 'it returns false'. Refute it at one input. -/
def pmtuFloorWrong : ChangeSpec := { name := "pmtuFloor", fn := fun _ => fun
  | [d] => { results := [.lit (.bool false)], args := [d] }
  | _ => none }
def PmtuFloorWrongFalsely : Prop := pmtuFloorRow.holds Tryd.pinned (OpenSpec.ofChange pmtuFloorWrong)

/-- 'redoubtlaw21.PmtuInner': WHATEVER THE INPUT: true; the input reads as it did. -/
def pmtuInnerSpec : ChangeSpec := { name := "pmtuInner", fn := fun _ => fun
  | [d1, d2, d3] => { results := [.lit (.bool true)], args := [d1, d2, d3] }
  | _ => none }
def pmtuInnerRow : OpenClaim := { program := "yticaejoaoblcmaadoor", sum := "dae9c0abc1b414d84ba25c5737f9696ebd9f07a9b0d3df48a1be6c3edcf3887d", func := "redoubt/redoubtlaw21.PmtuInner", spec := "pmtuInner", named := ["redoubt/pmtu.heads"], apart := false, laid := [("redoubt/pmtu.heads", laid_redoubt_pmtu_heads)] }
def PmtuInnerSaid : Prop := pmtuInnerRow.holds Tryd.pinned (OpenSpec.ofChange pmtuInnerSpec)

/-- ITS FALSE NEIGHBOUR: 'it returns false'. Refute it at one input. -/
def pmtuInnerWrong : ChangeSpec := { name := "pmtuInner", fn := fun _ => fun
  | [d1, d2, d3] => { results := [.lit (.bool false)], args := [d1, d2, d3] }
  | _ => none }
def PmtuInnerWrongFalsely : Prop := pmtuInnerRow.holds Tryd.pinned (OpenSpec.ofChange pmtuInnerWrong)

/-- 'redoubtlaw21.PmtuApart': WHATEVER THE INPUT: true; the input reads as it did. -/
def pmtuApartSpec : ChangeSpec := { name := "pmtuApart", fn := fun _ => fun
  | [d1, d2, d3, d4, d5] => { results := [.lit (.bool true)], args := [d1, d2, d3, d4, d5] }
  | _ => none }
def pmtuApartRow : OpenClaim := { program := "yticaejoaoblcmaadoor", sum := "dae9c0abc1b414d84ba25c5737f9696ebd9f07a9b0d3df48a1be6c3edcf3887d", func := "redoubt/redoubtlaw21.PmtuApart", spec := "pmtuApart", named := ["redoubt/pmtu.heads"], apart := false, laid := [("redoubt/pmtu.heads", laid_redoubt_pmtu_heads)] }
def PmtuApartSaid : Prop := pmtuApartRow.holds Tryd.pinned (OpenSpec.ofChange pmtuApartSpec)

/-- ITS FALSE NEIGHBOUR: 'it returns false'. Refute it at one input. -/
def pmtuApartWrong : ChangeSpec := { name := "pmtuApart", fn := fun _ => fun
  | [d1, d2, d3, d4, d5] => { results := [.lit (.bool false)], args := [d1, d2, d3, d4, d5] }
  | _ => none }
def PmtuApartWrongFalsely : Prop := pmtuApartRow.holds Tryd.pinned (OpenSpec.ofChange pmtuApartWrong)

/-- 'redoubtlaw21.PmtuDoes': WHATEVER THE INPUT: true; the input reads as it did. -/
def pmtuDoesSpec : ChangeSpec := { name := "pmtuDoes", fn := fun _ => fun
  | [d] => { results := [.lit (.bool true)], args := [d] }
  | _ => none }
def pmtuDoesRow : OpenClaim := { program := "yticaejoaoblcmaadoor", sum := "dae9c0abc1b414d84ba25c5737f9696ebd9f07a9b0d3df48a1be6c3edcf3887d", func := "redoubt/redoubtlaw21.PmtuDoes", spec := "pmtuDoes", named := ["redoubt/pmtu.heads"], apart := false, laid := [("redoubt/pmtu.heads", laid_redoubt_pmtu_heads)] }
def PmtuDoesSaid : Prop := pmtuDoesRow.holds Tryd.pinned (OpenSpec.ofChange pmtuDoesSpec)

/-- ITS FALSE NEIGHBOUR: 'it returns false'. Refute it at one input. -/
def pmtuDoesWrong : ChangeSpec := { name := "pmtuDoes", fn := fun _ => fun
  | [d] => { results := [.lit (.bool false)], args := [d] }
  | _ => none }
def PmtuDoesWrongFalsely : Prop := pmtuDoesRow.holds Tryd.pinned (OpenSpec.ofChange pmtuDoesWrong)

/- THE SECOND FORM. 'bulk': how many values and letters a reading holds, each counted each time it is reached (what is shared counts as often as it is met; a slice's spare places count too). A statement '..UptoSaid' is the law's where the arguments, and the package variables that the reading takes, are together of bulk at most 1048576: NARROWER than '..Said'. Prove '..Said' where nothing that the law and all that it calls make is longer than what came in: it says more and counts as full. Else prove '..UptoSaid'. A law counts once. -/
mutual
def uptoBulk {H : Type} : DataW H → Nat
  | .lit (.string bytes) => bytes.length + 1
  | .lit _ => 1
  | .nil => 1
  | .ptr d => uptoBulk d + 1
  | .slice elems spare => uptoBulkAll elems + uptoBulkAll spare + 1
  | .agg parts => uptoBulkAll parts + 1
  | .iface _ d => uptoBulk d + 1
  | .map entries => uptoBulkEntries entries + 1
  | .held _ => 1
def uptoBulkAll {H : Type} : List (DataW H) → Nat
  | [] => 0
  | d :: r => uptoBulk d + uptoBulkAll r
def uptoBulkEntries {H : Type} : List (Lit × DataW H) → Nat
  | [] => 0
  | x :: r => uptoBulkEntry x + uptoBulkEntries r
def uptoBulkEntry {H : Type} : Lit × DataW H → Nat
  | (.string bytes, d) => bytes.length + uptoBulk d + 1
  | (_, d) => uptoBulk d + 1
 end
def uptoSmall : (H : Type) → List (DataW H) → Bool := fun _ ds => decide (uptoBulkAll ds ≤ 1048576)
def OpenSpec.upto (s : _root_.Go.ChangeSpec) : _root_.Go.OpenSpec := { _root_.Go.OpenSpec.ofChange s with cond := some uptoSmall }

/-- 'redoubtlaw21.PmtuFloor', WHERE WHAT IT READS IS OF BULK AT MOST 1048576: true; the input reads as it did. -/
def pmtuFloorUptoRow : OpenClaim := { program := "yticaejoaoblcmaadoor", sum := "dae9c0abc1b414d84ba25c5737f9696ebd9f07a9b0d3df48a1be6c3edcf3887d", func := "redoubt/redoubtlaw21.PmtuFloor", spec := "pmtuFloor", named := ["redoubt/pmtu.heads"], apart := false, laid := [("redoubt/pmtu.heads", laid_redoubt_pmtu_heads)], narrowed := true }
def PmtuFloorUptoSaid : Prop := pmtuFloorUptoRow.holds Tryd.pinned (OpenSpec.upto pmtuFloorSpec)

/-- 'redoubtlaw21.PmtuInner', WHERE WHAT IT READS IS OF BULK AT MOST 1048576: true; the input reads as it did. -/
def pmtuInnerUptoRow : OpenClaim := { program := "yticaejoaoblcmaadoor", sum := "dae9c0abc1b414d84ba25c5737f9696ebd9f07a9b0d3df48a1be6c3edcf3887d", func := "redoubt/redoubtlaw21.PmtuInner", spec := "pmtuInner", named := ["redoubt/pmtu.heads"], apart := false, laid := [("redoubt/pmtu.heads", laid_redoubt_pmtu_heads)], narrowed := true }
def PmtuInnerUptoSaid : Prop := pmtuInnerUptoRow.holds Tryd.pinned (OpenSpec.upto pmtuInnerSpec)

/-- 'redoubtlaw21.PmtuApart', WHERE WHAT IT READS IS OF BULK AT MOST 1048576: true; the input reads as it did. -/
def pmtuApartUptoRow : OpenClaim := { program := "yticaejoaoblcmaadoor", sum := "dae9c0abc1b414d84ba25c5737f9696ebd9f07a9b0d3df48a1be6c3edcf3887d", func := "redoubt/redoubtlaw21.PmtuApart", spec := "pmtuApart", named := ["redoubt/pmtu.heads"], apart := false, laid := [("redoubt/pmtu.heads", laid_redoubt_pmtu_heads)], narrowed := true }
def PmtuApartUptoSaid : Prop := pmtuApartUptoRow.holds Tryd.pinned (OpenSpec.upto pmtuApartSpec)

/-- 'redoubtlaw21.PmtuDoes', WHERE WHAT IT READS IS OF BULK AT MOST 1048576: true; the input reads as it did. -/
def pmtuDoesUptoRow : OpenClaim := { program := "yticaejoaoblcmaadoor", sum := "dae9c0abc1b414d84ba25c5737f9696ebd9f07a9b0d3df48a1be6c3edcf3887d", func := "redoubt/redoubtlaw21.PmtuDoes", spec := "pmtuDoes", named := ["redoubt/pmtu.heads"], apart := false, laid := [("redoubt/pmtu.heads", laid_redoubt_pmtu_heads)], narrowed := true }
def PmtuDoesUptoSaid : Prop := pmtuDoesUptoRow.holds Tryd.pinned (OpenSpec.upto pmtuDoesSpec)

end Rows
end Go.Proofs.YticaejoaoblcmaaDoor
