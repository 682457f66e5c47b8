/-
  No cell of these rows narrows 'for every input' (looked for: loops, veiled, ifaces, maps, wideKeys, modest, calm, conditions, laid).
  DERIVED. THE GIVEN ROWS OF THIS SEAT. 4 by the template 'for every input the law returns true; each argument reads behind the call as it read before'; 0 by the template 'total and deterministic' (their statements: YtpodidgdlcfaeaaTotals.lean).
  GIVEN WITH THE SEED: the statements are not yours to turn. If you find one false, say at which input.
  Laid BY PROGRAM, IN A SANDBOX (cutbox-rows.mjs): the forced cells as the released guide's own fill.sh prints them over the translation 44a85920cbfdd826… (all of the seat's roots in one cut). By AI agents, Wed Nov 11 2026. No macro, syntax, notation, axiom, sorry.
-/
import Derived.Test.YtpodidgdlcfaeaaChecked
import GoSem.Claim
import GoSem.ClaimJoined
import GoSem.ClaimMapViews
import Derived.JoinedTies
import Derived.KernelRfl
namespace Go.Proofs.Ytpodidgdlcfaeaa
/- THE CELL 'sum', in the pinned program and in every row, IS THE sha256 OF THE DUMP (.gsa) THAT YtpodidgdlcfaeaaProg.lean LOADS. Nothing in Lean hashes anything: it is a label: what it is worth is what the hold of that sum in a sandbox is worth. -/
noncomputable def Try.pinned : Pinned := { name := "ytpodidgdlcfaeaa", sum := "44a85920cbfdd826c3518ef829de77059e526bdf73d709c3dc204b74cfd337e8", checked := Try.checked }
namespace Rows
def none {H : Type} : Left H := { results := [], args := [] }

/-- 'redoubtlaw04.Ip6Parses': WHATEVER THE INPUT: true; the input reads as it did. -/
def ip6ParsesSpec : ChangeSpec := { name := "ip6Parses", fn := fun _ => fun
  | [d] => { results := [.lit (.bool true)], args := [d] }
  | _ => none }
def ip6ParsesRow : OpenClaim := { program := "ytpodidgdlcfaeaa", sum := "44a85920cbfdd826c3518ef829de77059e526bdf73d709c3dc204b74cfd337e8", func := "redoubt/redoubtlaw04.Ip6Parses", spec := "ip6Parses", inPlace := ["internal/reflectlite.TypeOf"], unfollowed := true, recurses := true, apart := false }
def Ip6ParsesSaid : Prop := ip6ParsesRow.holds Try.pinned (OpenSpec.ofChange ip6ParsesSpec)

/-- ITS FALSE NEIGHBOUR: 'it returns false'. Refute it at one input. -/
def ip6ParsesWrong : ChangeSpec := { name := "ip6Parses", fn := fun _ => fun
  | [d] => { results := [.lit (.bool false)], args := [d] }
  | _ => none }
def Ip6ParsesWrongFalsely : Prop := ip6ParsesRow.holds Try.pinned (OpenSpec.ofChange ip6ParsesWrong)

/-- 'redoubtlaw04.Ip6Back': WHATEVER THE INPUT: true; the input reads as it did. -/
def ip6BackSpec : ChangeSpec := { name := "ip6Back", fn := fun _ => fun
  | [d1, d2] => { results := [.lit (.bool true)], args := [d1, d2] }
  | _ => none }
def ip6BackRow : OpenClaim := { program := "ytpodidgdlcfaeaa", sum := "44a85920cbfdd826c3518ef829de77059e526bdf73d709c3dc204b74cfd337e8", func := "redoubt/redoubtlaw04.Ip6Back", spec := "ip6Back", inPlace := ["internal/reflectlite.TypeOf"], unfollowed := true, recurses := true, apart := false }
def Ip6BackSaid : Prop := ip6BackRow.holds Try.pinned (OpenSpec.ofChange ip6BackSpec)

/-- ITS FALSE NEIGHBOUR: 'it returns false'. Refute it at one input. -/
def ip6BackWrong : ChangeSpec := { name := "ip6Back", fn := fun _ => fun
  | [d1, d2] => { results := [.lit (.bool false)], args := [d1, d2] }
  | _ => none }
def Ip6BackWrongFalsely : Prop := ip6BackRow.holds Try.pinned (OpenSpec.ofChange ip6BackWrong)

/-- 'redoubtlaw04.Ip6Lays': WHATEVER THE INPUT: true; the input reads as it did. -/
def ip6LaysSpec : ChangeSpec := { name := "ip6Lays", fn := fun _ => fun
  | [d1, d2] => { results := [.lit (.bool true)], args := [d1, d2] }
  | _ => none }
def ip6LaysRow : OpenClaim := { program := "ytpodidgdlcfaeaa", sum := "44a85920cbfdd826c3518ef829de77059e526bdf73d709c3dc204b74cfd337e8", func := "redoubt/redoubtlaw04.Ip6Lays", spec := "ip6Lays", inPlace := ["internal/reflectlite.TypeOf"], unfollowed := true, recurses := true, apart := false }
def Ip6LaysSaid : Prop := ip6LaysRow.holds Try.pinned (OpenSpec.ofChange ip6LaysSpec)

/-- ITS FALSE NEIGHBOUR: 'it returns false'. Refute it at one input. -/
def ip6LaysWrong : ChangeSpec := { name := "ip6Lays", fn := fun _ => fun
  | [d1, d2] => { results := [.lit (.bool false)], args := [d1, d2] }
  | _ => none }
def Ip6LaysWrongFalsely : Prop := ip6LaysRow.holds Try.pinned (OpenSpec.ofChange ip6LaysWrong)

/-- 'redoubtlaw04.Ip6Fields': WHATEVER THE INPUT: true; the input reads as it did. -/
def ip6FieldsSpec : ChangeSpec := { name := "ip6Fields", fn := fun _ => fun
  | [d] => { results := [.lit (.bool true)], args := [d] }
  | _ => none }
def ip6FieldsRow : OpenClaim := { program := "ytpodidgdlcfaeaa", sum := "44a85920cbfdd826c3518ef829de77059e526bdf73d709c3dc204b74cfd337e8", func := "redoubt/redoubtlaw04.Ip6Fields", spec := "ip6Fields", inPlace := ["internal/reflectlite.TypeOf"], unfollowed := true, recurses := true, apart := false }
def Ip6FieldsSaid : Prop := ip6FieldsRow.holds Try.pinned (OpenSpec.ofChange ip6FieldsSpec)

/-- ITS FALSE NEIGHBOUR: 'it returns false'. Refute it at one input. -/
def ip6FieldsWrong : ChangeSpec := { name := "ip6Fields", fn := fun _ => fun
  | [d] => { results := [.lit (.bool false)], args := [d] }
  | _ => none }
def Ip6FieldsWrongFalsely : Prop := ip6FieldsRow.holds Try.pinned (OpenSpec.ofChange ip6FieldsWrong)

/- THE SECOND FORM. 'bulk': how many values and letters a reading holds, each counted each time it is reached (what is shared counts as often as it is met; a slice's spare places count too). A statement '..UptoSaid' is the law's where the arguments, and the package variables that the reading takes, are together of bulk at most 1048576: NARROWER than '..Said'. Prove '..Said' where nothing that the law and all that it calls make is longer than what came in: it says more and counts as full. Else prove '..UptoSaid'. A law counts once. -/
mutual
def uptoBulk {H : Type} : DataW H → Nat
  | .lit (.string bytes) => bytes.length + 1
  | .lit _ => 1
  | .nil => 1
  | .ptr d => uptoBulk d + 1
  | .slice elems spare => uptoBulkAll elems + uptoBulkAll spare + 1
  | .agg parts => uptoBulkAll parts + 1
  | .iface _ d => uptoBulk d + 1
  | .map entries => uptoBulkEntries entries + 1
  | .held _ => 1
def uptoBulkAll {H : Type} : List (DataW H) → Nat
  | [] => 0
  | d :: r => uptoBulk d + uptoBulkAll r
def uptoBulkEntries {H : Type} : List (Lit × DataW H) → Nat
  | [] => 0
  | x :: r => uptoBulkEntry x + uptoBulkEntries r
def uptoBulkEntry {H : Type} : Lit × DataW H → Nat
  | (.string bytes, d) => bytes.length + uptoBulk d + 1
  | (_, d) => uptoBulk d + 1
 end
def uptoSmall : (H : Type) → List (DataW H) → Bool := fun _ ds => decide (uptoBulkAll ds ≤ 1048576)
def OpenSpec.upto (s : _root_.Go.ChangeSpec) : _root_.Go.OpenSpec := { _root_.Go.OpenSpec.ofChange s with cond := some uptoSmall }

/-- 'redoubtlaw04.Ip6Parses', WHERE WHAT IT READS IS OF BULK AT MOST 1048576: true; the input reads as it did. -/
def ip6ParsesUptoRow : OpenClaim := { program := "ytpodidgdlcfaeaa", sum := "44a85920cbfdd826c3518ef829de77059e526bdf73d709c3dc204b74cfd337e8", func := "redoubt/redoubtlaw04.Ip6Parses", spec := "ip6Parses", inPlace := ["internal/reflectlite.TypeOf"], unfollowed := true, recurses := true, apart := false, narrowed := true }
def Ip6ParsesUptoSaid : Prop := ip6ParsesUptoRow.holds Try.pinned (OpenSpec.upto ip6ParsesSpec)

/-- 'redoubtlaw04.Ip6Back', WHERE WHAT IT READS IS OF BULK AT MOST 1048576: true; the input reads as it did. -/
def ip6BackUptoRow : OpenClaim := { program := "ytpodidgdlcfaeaa", sum := "44a85920cbfdd826c3518ef829de77059e526bdf73d709c3dc204b74cfd337e8", func := "redoubt/redoubtlaw04.Ip6Back", spec := "ip6Back", inPlace := ["internal/reflectlite.TypeOf"], unfollowed := true, recurses := true, apart := false, narrowed := true }
def Ip6BackUptoSaid : Prop := ip6BackUptoRow.holds Try.pinned (OpenSpec.upto ip6BackSpec)

/-- 'redoubtlaw04.Ip6Lays', WHERE WHAT IT READS IS OF BULK AT MOST 1048576: true; the input reads as it did. -/
def ip6LaysUptoRow : OpenClaim := { program := "ytpodidgdlcfaeaa", sum := "44a85920cbfdd826c3518ef829de77059e526bdf73d709c3dc204b74cfd337e8", func := "redoubt/redoubtlaw04.Ip6Lays", spec := "ip6Lays", inPlace := ["internal/reflectlite.TypeOf"], unfollowed := true, recurses := true, apart := false, narrowed := true }
def Ip6LaysUptoSaid : Prop := ip6LaysUptoRow.holds Try.pinned (OpenSpec.upto ip6LaysSpec)

/-- 'redoubtlaw04.Ip6Fields', WHERE WHAT IT READS IS OF BULK AT MOST 1048576: true; the input reads as it did. -/
def ip6FieldsUptoRow : OpenClaim := { program := "ytpodidgdlcfaeaa", sum := "44a85920cbfdd826c3518ef829de77059e526bdf73d709c3dc204b74cfd337e8", func := "redoubt/redoubtlaw04.Ip6Fields", spec := "ip6Fields", inPlace := ["internal/reflectlite.TypeOf"], unfollowed := true, recurses := true, apart := false, narrowed := true }
def Ip6FieldsUptoSaid : Prop := ip6FieldsUptoRow.holds Try.pinned (OpenSpec.upto ip6FieldsSpec)

end Rows
end Go.Proofs.Ytpodidgdlcfaeaa
