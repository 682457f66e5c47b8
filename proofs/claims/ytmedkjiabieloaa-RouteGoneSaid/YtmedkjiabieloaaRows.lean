/-
  No cell of these rows narrows 'for every input' (looked for: loops, veiled, ifaces, maps, wideKeys, modest, calm, conditions, laid).
  DERIVED. THE GIVEN ROWS OF THIS SEAT. 5 by the template 'for every input the law returns true; each argument reads behind the call as it read before'; 0 by the template 'total and deterministic' (their statements: YtmedkjiabieloaaTotals.lean).
  GIVEN WITH THE SEED: the statements are not yours to turn. If you find one false, say at which input.
  Laid BY PROGRAM, IN A SANDBOX (cutbox-rows.mjs): the forced cells as the released guide's own fill.sh prints them over the translation 61f3a83a65d1609c… (all of the seat's roots in one cut). By AI agents, Wed Nov 11 2026. No macro, syntax, notation, axiom, sorry.
-/
import Derived.Test.YtmedkjiabieloaaChecked
import GoSem.Claim
import GoSem.ClaimJoined
import GoSem.ClaimMapViews
import Derived.JoinedTies
import Derived.KernelRfl
namespace Go.Proofs.Ytmedkjiabieloaa
/- THE CELL 'sum', in the pinned program and in every row, IS THE sha256 OF THE DUMP (.gsa) THAT YtmedkjiabieloaaProg.lean LOADS. Nothing in Lean hashes anything: it is a label: what it is worth is what the hold of that sum in a sandbox is worth. -/
noncomputable def Try.pinned : Pinned := { name := "ytmedkjiabieloaa", sum := "61f3a83a65d1609cdd82c6b2fec84a7a1ebe146bc96fb23b38a618e70eb100d8", checked := Try.checked }
namespace Rows
def none {H : Type} : Left H := { results := [], args := [] }

/-- 'redoubtlaw18.RouteOrder': WHATEVER THE INPUT: true; the input reads as it did. -/
def routeOrderSpec : ChangeSpec := { name := "routeOrder", fn := fun _ => fun
  | [d1, d2] => { results := [.lit (.bool true)], args := [d1, d2] }
  | _ => none }
def routeOrderRow : OpenClaim := { program := "ytmedkjiabieloaa", sum := "61f3a83a65d1609cdd82c6b2fec84a7a1ebe146bc96fb23b38a618e70eb100d8", func := "redoubt/redoubtlaw18.RouteOrder", spec := "routeOrder", inPlace := ["slices.overlaps[redoubt/api.Route]"], unfollowed := true, recurses := true, apart := false }
def RouteOrderSaid : Prop := routeOrderRow.holds Try.pinned (OpenSpec.ofChange routeOrderSpec)

/-- ITS FALSE NEIGHBOUR: 'it returns false'. Refute it at one input. -/
def routeOrderWrong : ChangeSpec := { name := "routeOrder", fn := fun _ => fun
  | [d1, d2] => { results := [.lit (.bool false)], args := [d1, d2] }
  | _ => none }
def RouteOrderWrongFalsely : Prop := routeOrderRow.holds Try.pinned (OpenSpec.ofChange routeOrderWrong)

/-- 'redoubtlaw18.RouteLongest': WHATEVER THE INPUT: true; the input reads as it did. -/
def routeLongestSpec : ChangeSpec := { name := "routeLongest", fn := fun _ => fun
  | [d1, d2] => { results := [.lit (.bool true)], args := [d1, d2] }
  | _ => none }
def routeLongestRow : OpenClaim := { program := "ytmedkjiabieloaa", sum := "61f3a83a65d1609cdd82c6b2fec84a7a1ebe146bc96fb23b38a618e70eb100d8", func := "redoubt/redoubtlaw18.RouteLongest", spec := "routeLongest", inPlace := ["slices.overlaps[redoubt/api.Route]"], unfollowed := true, recurses := true, apart := false }
def RouteLongestSaid : Prop := routeLongestRow.holds Try.pinned (OpenSpec.ofChange routeLongestSpec)

/-- ITS FALSE NEIGHBOUR: 'it returns false'. Refute it at one input. -/
def routeLongestWrong : ChangeSpec := { name := "routeLongest", fn := fun _ => fun
  | [d1, d2] => { results := [.lit (.bool false)], args := [d1, d2] }
  | _ => none }
def RouteLongestWrongFalsely : Prop := routeLongestRow.holds Try.pinned (OpenSpec.ofChange routeLongestWrong)

/-- 'redoubtlaw18.RouteDoes': WHATEVER THE INPUT: true; the input reads as it did. -/
def routeDoesSpec : ChangeSpec := { name := "routeDoes", fn := fun _ => fun
  | [d] => { results := [.lit (.bool true)], args := [d] }
  | _ => none }
def routeDoesRow : OpenClaim := { program := "ytmedkjiabieloaa", sum := "61f3a83a65d1609cdd82c6b2fec84a7a1ebe146bc96fb23b38a618e70eb100d8", func := "redoubt/redoubtlaw18.RouteDoes", spec := "routeDoes", inPlace := ["slices.overlaps[redoubt/api.Route]"], unfollowed := true, recurses := true, apart := false }
def RouteDoesSaid : Prop := routeDoesRow.holds Try.pinned (OpenSpec.ofChange routeDoesSpec)

/-- ITS FALSE NEIGHBOUR: 'it returns false'. Refute it at one input. -/
def routeDoesWrong : ChangeSpec := { name := "routeDoes", fn := fun _ => fun
  | [d] => { results := [.lit (.bool false)], args := [d] }
  | _ => none }
def RouteDoesWrongFalsely : Prop := routeDoesRow.holds Try.pinned (OpenSpec.ofChange routeDoesWrong)

/-- 'redoubtlaw18.RouteNil': WHATEVER THE INPUT: true; the input reads as it did. -/
def routeNilSpec : ChangeSpec := { name := "routeNil", fn := fun _ => fun
  | [d1, d2] => { results := [.lit (.bool true)], args := [d1, d2] }
  | _ => none }
def routeNilRow : OpenClaim := { program := "ytmedkjiabieloaa", sum := "61f3a83a65d1609cdd82c6b2fec84a7a1ebe146bc96fb23b38a618e70eb100d8", func := "redoubt/redoubtlaw18.RouteNil", spec := "routeNil", inPlace := ["slices.overlaps[redoubt/api.Route]"], unfollowed := true, recurses := true, apart := false }
def RouteNilSaid : Prop := routeNilRow.holds Try.pinned (OpenSpec.ofChange routeNilSpec)

/-- ITS FALSE NEIGHBOUR: 'it returns false'. Refute it at one input. -/
def routeNilWrong : ChangeSpec := { name := "routeNil", fn := fun _ => fun
  | [d1, d2] => { results := [.lit (.bool false)], args := [d1, d2] }
  | _ => none }
def RouteNilWrongFalsely : Prop := routeNilRow.holds Try.pinned (OpenSpec.ofChange routeNilWrong)

/-- 'redoubtlaw18.RouteGone': WHATEVER THE INPUT: true; the input reads as it did. -/
def routeGoneSpec : ChangeSpec := { name := "routeGone", fn := fun _ => fun
  | [d1, d2, d3] => { results := [.lit (.bool true)], args := [d1, d2, d3] }
  | _ => none }
def routeGoneRow : OpenClaim := { program := "ytmedkjiabieloaa", sum := "61f3a83a65d1609cdd82c6b2fec84a7a1ebe146bc96fb23b38a618e70eb100d8", func := "redoubt/redoubtlaw18.RouteGone", spec := "routeGone", inPlace := ["slices.overlaps[redoubt/api.Route]"], unfollowed := true, recurses := true, apart := false }
def RouteGoneSaid : Prop := routeGoneRow.holds Try.pinned (OpenSpec.ofChange routeGoneSpec)

/-- ITS FALSE NEIGHBOUR: 'it returns false'. Refute it at one input. -/
def routeGoneWrong : ChangeSpec := { name := "routeGone", fn := fun _ => fun
  | [d1, d2, d3] => { results := [.lit (.bool false)], args := [d1, d2, d3] }
  | _ => none }
def RouteGoneWrongFalsely : Prop := routeGoneRow.holds Try.pinned (OpenSpec.ofChange routeGoneWrong)

/- THE SECOND FORM. 'bulk': how many values and letters a reading holds, each counted each time it is reached (what is shared counts as often as it is met; a slice's spare places count too). A statement '..UptoSaid' is the law's where the arguments, and the package variables that the reading takes, are together of bulk at most 1048576: NARROWER than '..Said'. Prove '..Said' where nothing that the law and all that it calls make is longer than what came in: it says more and counts as full. Else prove '..UptoSaid'. A law counts once. -/
mutual
def uptoBulk {H : Type} : DataW H → Nat
  | .lit (.string bytes) => bytes.length + 1
  | .lit _ => 1
  | .nil => 1
  | .ptr d => uptoBulk d + 1
  | .slice elems spare => uptoBulkAll elems + uptoBulkAll spare + 1
  | .agg parts => uptoBulkAll parts + 1
  | .iface _ d => uptoBulk d + 1
  | .map entries => uptoBulkEntries entries + 1
  | .held _ => 1
def uptoBulkAll {H : Type} : List (DataW H) → Nat
  | [] => 0
  | d :: r => uptoBulk d + uptoBulkAll r
def uptoBulkEntries {H : Type} : List (Lit × DataW H) → Nat
  | [] => 0
  | x :: r => uptoBulkEntry x + uptoBulkEntries r
def uptoBulkEntry {H : Type} : Lit × DataW H → Nat
  | (.string bytes, d) => bytes.length + uptoBulk d + 1
  | (_, d) => uptoBulk d + 1
 end
def uptoSmall : (H : Type) → List (DataW H) → Bool := fun _ ds => decide (uptoBulkAll ds ≤ 1048576)
def OpenSpec.upto (s : _root_.Go.ChangeSpec) : _root_.Go.OpenSpec := { _root_.Go.OpenSpec.ofChange s with cond := some uptoSmall }

/-- 'redoubtlaw18.RouteOrder', WHERE WHAT IT READS IS OF BULK AT MOST 1048576: true; the input reads as it did. -/
def routeOrderUptoRow : OpenClaim := { program := "ytmedkjiabieloaa", sum := "61f3a83a65d1609cdd82c6b2fec84a7a1ebe146bc96fb23b38a618e70eb100d8", func := "redoubt/redoubtlaw18.RouteOrder", spec := "routeOrder", inPlace := ["slices.overlaps[redoubt/api.Route]"], unfollowed := true, recurses := true, apart := false, narrowed := true }
def RouteOrderUptoSaid : Prop := routeOrderUptoRow.holds Try.pinned (OpenSpec.upto routeOrderSpec)

/-- 'redoubtlaw18.RouteLongest', WHERE WHAT IT READS IS OF BULK AT MOST 1048576: true; the input reads as it did. -/
def routeLongestUptoRow : OpenClaim := { program := "ytmedkjiabieloaa", sum := "61f3a83a65d1609cdd82c6b2fec84a7a1ebe146bc96fb23b38a618e70eb100d8", func := "redoubt/redoubtlaw18.RouteLongest", spec := "routeLongest", inPlace := ["slices.overlaps[redoubt/api.Route]"], unfollowed := true, recurses := true, apart := false, narrowed := true }
def RouteLongestUptoSaid : Prop := routeLongestUptoRow.holds Try.pinned (OpenSpec.upto routeLongestSpec)

/-- 'redoubtlaw18.RouteDoes', WHERE WHAT IT READS IS OF BULK AT MOST 1048576: true; the input reads as it did. -/
def routeDoesUptoRow : OpenClaim := { program := "ytmedkjiabieloaa", sum := "61f3a83a65d1609cdd82c6b2fec84a7a1ebe146bc96fb23b38a618e70eb100d8", func := "redoubt/redoubtlaw18.RouteDoes", spec := "routeDoes", inPlace := ["slices.overlaps[redoubt/api.Route]"], unfollowed := true, recurses := true, apart := false, narrowed := true }
def RouteDoesUptoSaid : Prop := routeDoesUptoRow.holds Try.pinned (OpenSpec.upto routeDoesSpec)

/-- 'redoubtlaw18.RouteNil', WHERE WHAT IT READS IS OF BULK AT MOST 1048576: true; the input reads as it did. -/
def routeNilUptoRow : OpenClaim := { program := "ytmedkjiabieloaa", sum := "61f3a83a65d1609cdd82c6b2fec84a7a1ebe146bc96fb23b38a618e70eb100d8", func := "redoubt/redoubtlaw18.RouteNil", spec := "routeNil", inPlace := ["slices.overlaps[redoubt/api.Route]"], unfollowed := true, recurses := true, apart := false, narrowed := true }
def RouteNilUptoSaid : Prop := routeNilUptoRow.holds Try.pinned (OpenSpec.upto routeNilSpec)

/-- 'redoubtlaw18.RouteGone', WHERE WHAT IT READS IS OF BULK AT MOST 1048576: true; the input reads as it did. -/
def routeGoneUptoRow : OpenClaim := { program := "ytmedkjiabieloaa", sum := "61f3a83a65d1609cdd82c6b2fec84a7a1ebe146bc96fb23b38a618e70eb100d8", func := "redoubt/redoubtlaw18.RouteGone", spec := "routeGone", inPlace := ["slices.overlaps[redoubt/api.Route]"], unfollowed := true, recurses := true, apart := false, narrowed := true }
def RouteGoneUptoSaid : Prop := routeGoneUptoRow.holds Try.pinned (OpenSpec.upto routeGoneSpec)

end Rows
end Go.Proofs.Ytmedkjiabieloaa
