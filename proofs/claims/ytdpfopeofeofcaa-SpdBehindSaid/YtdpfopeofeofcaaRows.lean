/-
  No cell of these rows narrows 'for every input' (looked for: loops, veiled, ifaces, maps, wideKeys, modest, calm, conditions, laid).
  DERIVED. THE GIVEN ROWS OF THIS SEAT. 4 by the template 'for every input the law returns true; each argument reads behind the call as it read before'; 0 by the template 'total and deterministic' (their statements: YtdpfopeofeofcaaTotals.lean).
  GIVEN WITH THE SEED: the statements are not yours to turn. If you find one false, say at which input.
  Laid BY PROGRAM, IN A SANDBOX (cutbox-rows.mjs): the forced cells as the released guide's own fill.sh prints them over the translation 1fc69030c2df1d00… (all of the seat's roots in one cut). By AI agents, Wed Nov 11 2026. No macro, syntax, notation, axiom, sorry.
-/
import Derived.Test.YtdpfopeofeofcaaChecked
import GoSem.Claim
import GoSem.ClaimJoined
import GoSem.ClaimMapViews
import Derived.JoinedTies
import Derived.KernelRfl
namespace Go.Proofs.Ytdpfopeofeofcaa
/- THE CELL 'sum', in the pinned program and in every row, IS THE sha256 OF THE DUMP (.gsa) THAT YtdpfopeofeofcaaProg.lean LOADS. Nothing in Lean hashes anything: it is a label: what it is worth is what the hold of that sum in a sandbox is worth. -/
noncomputable def Try.pinned : Pinned := { name := "ytdpfopeofeofcaa", sum := "1fc69030c2df1d0048fbcb006e56852e7a33f8a72c3a13e3f2d3526e782648f3", checked := Try.checked }
namespace Rows
def none {H : Type} : Left H := { results := [], args := [] }

/-- 'redoubtlaw16.SpdFirst': WHATEVER THE INPUT: true; the input reads as it did. -/
def spdFirstSpec : ChangeSpec := { name := "spdFirst", fn := fun _ => fun
  | [d1, d2, d3] => { results := [.lit (.bool true)], args := [d1, d2, d3] }
  | _ => none }
def spdFirstRow : OpenClaim := { program := "ytdpfopeofeofcaa", sum := "1fc69030c2df1d0048fbcb006e56852e7a33f8a72c3a13e3f2d3526e782648f3", func := "redoubt/redoubtlaw16.SpdFirst", spec := "spdFirst", inPlace := ["slices.overlaps[redoubt/api.Rule]"], unfollowed := true, recurses := true, plainKeys := false, apart := false }
def SpdFirstSaid : Prop := spdFirstRow.holds Try.pinned (OpenSpec.ofChange spdFirstSpec)

/-- ITS FALSE NEIGHBOUR: 'it returns false'. Refute it at one input. -/
def spdFirstWrong : ChangeSpec := { name := "spdFirst", fn := fun _ => fun
  | [d1, d2, d3] => { results := [.lit (.bool false)], args := [d1, d2, d3] }
  | _ => none }
def SpdFirstWrongFalsely : Prop := spdFirstRow.holds Try.pinned (OpenSpec.ofChange spdFirstWrong)

/-- 'redoubtlaw16.SpdBehind': WHATEVER THE INPUT: true; the input reads as it did. -/
def spdBehindSpec : ChangeSpec := { name := "spdBehind", fn := fun _ => fun
  | [d1, d2, d3] => { results := [.lit (.bool true)], args := [d1, d2, d3] }
  | _ => none }
def spdBehindRow : OpenClaim := { program := "ytdpfopeofeofcaa", sum := "1fc69030c2df1d0048fbcb006e56852e7a33f8a72c3a13e3f2d3526e782648f3", func := "redoubt/redoubtlaw16.SpdBehind", spec := "spdBehind", inPlace := ["slices.overlaps[redoubt/api.Rule]"], unfollowed := true, recurses := true, plainKeys := false, apart := false }
def SpdBehindSaid : Prop := spdBehindRow.holds Try.pinned (OpenSpec.ofChange spdBehindSpec)

/-- ITS FALSE NEIGHBOUR: 'it returns false'. Refute it at one input. -/
def spdBehindWrong : ChangeSpec := { name := "spdBehind", fn := fun _ => fun
  | [d1, d2, d3] => { results := [.lit (.bool false)], args := [d1, d2, d3] }
  | _ => none }
def SpdBehindWrongFalsely : Prop := spdBehindRow.holds Try.pinned (OpenSpec.ofChange spdBehindWrong)

/-- 'redoubtlaw16.SpdNil': WHATEVER THE INPUT: true; the input reads as it did. -/
def spdNilSpec : ChangeSpec := { name := "spdNil", fn := fun _ => fun
  | [d1, d2, d3] => { results := [.lit (.bool true)], args := [d1, d2, d3] }
  | _ => none }
def spdNilRow : OpenClaim := { program := "ytdpfopeofeofcaa", sum := "1fc69030c2df1d0048fbcb006e56852e7a33f8a72c3a13e3f2d3526e782648f3", func := "redoubt/redoubtlaw16.SpdNil", spec := "spdNil", inPlace := ["slices.overlaps[redoubt/api.Rule]"], unfollowed := true, recurses := true, plainKeys := false, apart := false }
def SpdNilSaid : Prop := spdNilRow.holds Try.pinned (OpenSpec.ofChange spdNilSpec)

/-- ITS FALSE NEIGHBOUR: 'it returns false'. Refute it at one input. -/
def spdNilWrong : ChangeSpec := { name := "spdNil", fn := fun _ => fun
  | [d1, d2, d3] => { results := [.lit (.bool false)], args := [d1, d2, d3] }
  | _ => none }
def SpdNilWrongFalsely : Prop := spdNilRow.holds Try.pinned (OpenSpec.ofChange spdNilWrong)

/-- 'redoubtlaw16.SpdPlaces': WHATEVER THE INPUT: true; the input reads as it did. -/
def spdPlacesSpec : ChangeSpec := { name := "spdPlaces", fn := fun _ => fun
  | [d1, d2, d3] => { results := [.lit (.bool true)], args := [d1, d2, d3] }
  | _ => none }
def spdPlacesRow : OpenClaim := { program := "ytdpfopeofeofcaa", sum := "1fc69030c2df1d0048fbcb006e56852e7a33f8a72c3a13e3f2d3526e782648f3", func := "redoubt/redoubtlaw16.SpdPlaces", spec := "spdPlaces", inPlace := ["slices.overlaps[redoubt/api.Rule]"], unfollowed := true, recurses := true, plainKeys := false, apart := false }
def SpdPlacesSaid : Prop := spdPlacesRow.holds Try.pinned (OpenSpec.ofChange spdPlacesSpec)

/-- ITS FALSE NEIGHBOUR: 'it returns false'. Refute it at one input. -/
def spdPlacesWrong : ChangeSpec := { name := "spdPlaces", fn := fun _ => fun
  | [d1, d2, d3] => { results := [.lit (.bool false)], args := [d1, d2, d3] }
  | _ => none }
def SpdPlacesWrongFalsely : Prop := spdPlacesRow.holds Try.pinned (OpenSpec.ofChange spdPlacesWrong)

/- THE SECOND FORM. 'bulk': how many values and letters a reading holds, each counted each time it is reached (what is shared counts as often as it is met; a slice's spare places count too). A statement '..UptoSaid' is the law's where the arguments, and the package variables that the reading takes, are together of bulk at most 1048576: NARROWER than '..Said'. Prove '..Said' where nothing that the law and all that it calls make is longer than what came in: it says more and counts as full. Else prove '..UptoSaid'. A law counts once. -/
mutual
def uptoBulk {H : Type} : DataW H → Nat
  | .lit (.string bytes) => bytes.length + 1
  | .lit _ => 1
  | .nil => 1
  | .ptr d => uptoBulk d + 1
  | .slice elems spare => uptoBulkAll elems + uptoBulkAll spare + 1
  | .agg parts => uptoBulkAll parts + 1
  | .iface _ d => uptoBulk d + 1
  | .map entries => uptoBulkEntries entries + 1
  | .held _ => 1
def uptoBulkAll {H : Type} : List (DataW H) → Nat
  | [] => 0
  | d :: r => uptoBulk d + uptoBulkAll r
def uptoBulkEntries {H : Type} : List (Lit × DataW H) → Nat
  | [] => 0
  | x :: r => uptoBulkEntry x + uptoBulkEntries r
def uptoBulkEntry {H : Type} : Lit × DataW H → Nat
  | (.string bytes, d) => bytes.length + uptoBulk d + 1
  | (_, d) => uptoBulk d + 1
 end
def uptoSmall : (H : Type) → List (DataW H) → Bool := fun _ ds => decide (uptoBulkAll ds ≤ 1048576)
def OpenSpec.upto (s : _root_.Go.ChangeSpec) : _root_.Go.OpenSpec := { _root_.Go.OpenSpec.ofChange s with cond := some uptoSmall }

/-- 'redoubtlaw16.SpdFirst', WHERE WHAT IT READS IS OF BULK AT MOST 1048576: true; the input reads as it did. -/
def spdFirstUptoRow : OpenClaim := { program := "ytdpfopeofeofcaa", sum := "1fc69030c2df1d0048fbcb006e56852e7a33f8a72c3a13e3f2d3526e782648f3", func := "redoubt/redoubtlaw16.SpdFirst", spec := "spdFirst", inPlace := ["slices.overlaps[redoubt/api.Rule]"], unfollowed := true, recurses := true, plainKeys := false, apart := false, narrowed := true }
def SpdFirstUptoSaid : Prop := spdFirstUptoRow.holds Try.pinned (OpenSpec.upto spdFirstSpec)

/-- 'redoubtlaw16.SpdBehind', WHERE WHAT IT READS IS OF BULK AT MOST 1048576: true; the input reads as it did. -/
def spdBehindUptoRow : OpenClaim := { program := "ytdpfopeofeofcaa", sum := "1fc69030c2df1d0048fbcb006e56852e7a33f8a72c3a13e3f2d3526e782648f3", func := "redoubt/redoubtlaw16.SpdBehind", spec := "spdBehind", inPlace := ["slices.overlaps[redoubt/api.Rule]"], unfollowed := true, recurses := true, plainKeys := false, apart := false, narrowed := true }
def SpdBehindUptoSaid : Prop := spdBehindUptoRow.holds Try.pinned (OpenSpec.upto spdBehindSpec)

/-- 'redoubtlaw16.SpdNil', WHERE WHAT IT READS IS OF BULK AT MOST 1048576: true; the input reads as it did. -/
def spdNilUptoRow : OpenClaim := { program := "ytdpfopeofeofcaa", sum := "1fc69030c2df1d0048fbcb006e56852e7a33f8a72c3a13e3f2d3526e782648f3", func := "redoubt/redoubtlaw16.SpdNil", spec := "spdNil", inPlace := ["slices.overlaps[redoubt/api.Rule]"], unfollowed := true, recurses := true, plainKeys := false, apart := false, narrowed := true }
def SpdNilUptoSaid : Prop := spdNilUptoRow.holds Try.pinned (OpenSpec.upto spdNilSpec)

/-- 'redoubtlaw16.SpdPlaces', WHERE WHAT IT READS IS OF BULK AT MOST 1048576: true; the input reads as it did. -/
def spdPlacesUptoRow : OpenClaim := { program := "ytdpfopeofeofcaa", sum := "1fc69030c2df1d0048fbcb006e56852e7a33f8a72c3a13e3f2d3526e782648f3", func := "redoubt/redoubtlaw16.SpdPlaces", spec := "spdPlaces", inPlace := ["slices.overlaps[redoubt/api.Rule]"], unfollowed := true, recurses := true, plainKeys := false, apart := false, narrowed := true }
def SpdPlacesUptoSaid : Prop := spdPlacesUptoRow.holds Try.pinned (OpenSpec.upto spdPlacesSpec)

end Rows
end Go.Proofs.Ytdpfopeofeofcaa
