/-
  No cell of these rows narrows 'for every input' (looked for: loops, veiled, ifaces, maps, wideKeys, modest, calm, conditions, laid).
  DERIVED. THE GIVEN ROWS OF THIS SEAT. 9 by the template 'for every input the law returns true; each argument reads behind the call as it read before'; 0 by the template 'total and deterministic' (their statements: YtddkcepofoifdaaTotals.lean).
  GIVEN WITH THE SEED: the statements are not yours to turn. If you find one false, say at which input.
  Laid BY PROGRAM, IN A SANDBOX (cutbox-rows.mjs): the forced cells as the released guide's own fill.sh prints them over the translation 42c32447eb995373… (all of the seat's roots in one cut). By AI agents, Wed Nov 11 2026. No macro, syntax, notation, axiom, sorry.
-/
import Derived.Test.YtddkcepofoifdaaChecked
import GoSem.Claim
import GoSem.ClaimJoined
import GoSem.ClaimMapViews
import Derived.JoinedTies
import Derived.KernelRfl
namespace Go.Proofs.Ytddkcepofoifdaa
/- THE CELL 'sum', in the pinned program and in every row, IS THE sha256 OF THE DUMP (.gsa) THAT YtddkcepofoifdaaProg.lean LOADS. Nothing in Lean hashes anything: it is a label: what it is worth is what the hold of that sum in a sandbox is worth. -/
noncomputable def Try.pinned : Pinned := { name := "ytddkcepofoifdaa", sum := "42c32447eb9953730a544a81debc57633b35993df64d220ebd35a399fe00a574", checked := Try.checked }
namespace Rows
def none {H : Type} : Left H := { results := [], args := [] }

/-- 'redoubtlaw12.PadSeals': WHATEVER THE INPUT: true; the input reads as it did. -/
def padSealsSpec : ChangeSpec := { name := "padSeals", fn := fun _ => fun
  | [d1, d2, d3] => { results := [.lit (.bool true)], args := [d1, d2, d3] }
  | _ => none }
def padSealsRow : OpenClaim := { program := "ytddkcepofoifdaa", sum := "42c32447eb9953730a544a81debc57633b35993df64d220ebd35a399fe00a574", func := "redoubt/redoubtlaw12.PadSeals", spec := "padSeals", apart := false }
def PadSealsSaid : Prop := padSealsRow.holds Try.pinned (OpenSpec.ofChange padSealsSpec)

/-- ITS FALSE NEIGHBOUR: 'it returns false'. Refute it at one input. -/
def padSealsWrong : ChangeSpec := { name := "padSeals", fn := fun _ => fun
  | [d1, d2, d3] => { results := [.lit (.bool false)], args := [d1, d2, d3] }
  | _ => none }
def PadSealsWrongFalsely : Prop := padSealsRow.holds Try.pinned (OpenSpec.ofChange padSealsWrong)

/-- 'redoubtlaw12.PadBack': WHATEVER THE INPUT: true; the input reads as it did. -/
def padBackSpec : ChangeSpec := { name := "padBack", fn := fun _ => fun
  | [d1, d2] => { results := [.lit (.bool true)], args := [d1, d2] }
  | _ => none }
def padBackRow : OpenClaim := { program := "ytddkcepofoifdaa", sum := "42c32447eb9953730a544a81debc57633b35993df64d220ebd35a399fe00a574", func := "redoubt/redoubtlaw12.PadBack", spec := "padBack", apart := false }
def PadBackSaid : Prop := padBackRow.holds Try.pinned (OpenSpec.ofChange padBackSpec)

/-- ITS FALSE NEIGHBOUR: 'it returns false'. Refute it at one input. -/
def padBackWrong : ChangeSpec := { name := "padBack", fn := fun _ => fun
  | [d1, d2] => { results := [.lit (.bool false)], args := [d1, d2] }
  | _ => none }
def PadBackWrongFalsely : Prop := padBackRow.holds Try.pinned (OpenSpec.ofChange padBackWrong)

/-- 'redoubtlaw12.PadLong': WHATEVER THE INPUT: true; the input reads as it did. -/
def padLongSpec : ChangeSpec := { name := "padLong", fn := fun _ => fun
  | [d1, d2, d3, d4, d5] => { results := [.lit (.bool true)], args := [d1, d2, d3, d4, d5] }
  | _ => none }
def padLongRow : OpenClaim := { program := "ytddkcepofoifdaa", sum := "42c32447eb9953730a544a81debc57633b35993df64d220ebd35a399fe00a574", func := "redoubt/redoubtlaw12.PadLong", spec := "padLong", apart := false }
def PadLongSaid : Prop := padLongRow.holds Try.pinned (OpenSpec.ofChange padLongSpec)

/-- ITS FALSE NEIGHBOUR: 'it returns false'. Refute it at one input. -/
def padLongWrong : ChangeSpec := { name := "padLong", fn := fun _ => fun
  | [d1, d2, d3, d4, d5] => { results := [.lit (.bool false)], args := [d1, d2, d3, d4, d5] }
  | _ => none }
def PadLongWrongFalsely : Prop := padLongRow.holds Try.pinned (OpenSpec.ofChange padLongWrong)

/-- 'redoubtlaw12.PadRow': WHATEVER THE INPUT: true; the input reads as it did. -/
def padRowSpec : ChangeSpec := { name := "padRow", fn := fun _ => fun
  | [d1, d2, d3] => { results := [.lit (.bool true)], args := [d1, d2, d3] }
  | _ => none }
def padRowRow : OpenClaim := { program := "ytddkcepofoifdaa", sum := "42c32447eb9953730a544a81debc57633b35993df64d220ebd35a399fe00a574", func := "redoubt/redoubtlaw12.PadRow", spec := "padRow", apart := false }
def PadRowSaid : Prop := padRowRow.holds Try.pinned (OpenSpec.ofChange padRowSpec)

/-- ITS FALSE NEIGHBOUR: 'it returns false'. Refute it at one input. -/
def padRowWrong : ChangeSpec := { name := "padRow", fn := fun _ => fun
  | [d1, d2, d3] => { results := [.lit (.bool false)], args := [d1, d2, d3] }
  | _ => none }
def PadRowWrongFalsely : Prop := padRowRow.holds Try.pinned (OpenSpec.ofChange padRowWrong)

/-- 'redoubtlaw13.WindowInfers': WHATEVER THE INPUT: true; the input reads as it did. -/
def windowInfersSpec : ChangeSpec := { name := "windowInfers", fn := fun _ => fun
  | [d1, d2, d3] => { results := [.lit (.bool true)], args := [d1, d2, d3] }
  | _ => none }
def windowInfersRow : OpenClaim := { program := "ytddkcepofoifdaa", sum := "42c32447eb9953730a544a81debc57633b35993df64d220ebd35a399fe00a574", func := "redoubt/redoubtlaw13.WindowInfers", spec := "windowInfers", apart := false }
def WindowInfersSaid : Prop := windowInfersRow.holds Try.pinned (OpenSpec.ofChange windowInfersSpec)

/-- ITS FALSE NEIGHBOUR: 'it returns false'. Refute it at one input. -/
def windowInfersWrong : ChangeSpec := { name := "windowInfers", fn := fun _ => fun
  | [d1, d2, d3] => { results := [.lit (.bool false)], args := [d1, d2, d3] }
  | _ => none }
def WindowInfersWrongFalsely : Prop := windowInfersRow.holds Try.pinned (OpenSpec.ofChange windowInfersWrong)

/-- 'redoubtlaw13.WindowDoes': WHATEVER THE INPUT: true; the input reads as it did. -/
def windowDoesSpec : ChangeSpec := { name := "windowDoes", fn := fun _ => fun
  | [d1, d2, d3] => { results := [.lit (.bool true)], args := [d1, d2, d3] }
  | _ => none }
def windowDoesRow : OpenClaim := { program := "ytddkcepofoifdaa", sum := "42c32447eb9953730a544a81debc57633b35993df64d220ebd35a399fe00a574", func := "redoubt/redoubtlaw13.WindowDoes", spec := "windowDoes", apart := false }
def WindowDoesSaid : Prop := windowDoesRow.holds Try.pinned (OpenSpec.ofChange windowDoesSpec)

/-- ITS FALSE NEIGHBOUR: 'it returns false'. Refute it at one input. -/
def windowDoesWrong : ChangeSpec := { name := "windowDoes", fn := fun _ => fun
  | [d1, d2, d3] => { results := [.lit (.bool false)], args := [d1, d2, d3] }
  | _ => none }
def WindowDoesWrongFalsely : Prop := windowDoesRow.holds Try.pinned (OpenSpec.ofChange windowDoesWrong)

/-- 'redoubtlaw13.WindowOnce': WHATEVER THE INPUT: true; the input reads as it did. -/
def windowOnceSpec : ChangeSpec := { name := "windowOnce", fn := fun _ => fun
  | [d1, d2, d3] => { results := [.lit (.bool true)], args := [d1, d2, d3] }
  | _ => none }
def windowOnceRow : OpenClaim := { program := "ytddkcepofoifdaa", sum := "42c32447eb9953730a544a81debc57633b35993df64d220ebd35a399fe00a574", func := "redoubt/redoubtlaw13.WindowOnce", spec := "windowOnce", apart := false }
def WindowOnceSaid : Prop := windowOnceRow.holds Try.pinned (OpenSpec.ofChange windowOnceSpec)

/-- ITS FALSE NEIGHBOUR: 'it returns false'. Refute it at one input. -/
def windowOnceWrong : ChangeSpec := { name := "windowOnce", fn := fun _ => fun
  | [d1, d2, d3] => { results := [.lit (.bool false)], args := [d1, d2, d3] }
  | _ => none }
def WindowOnceWrongFalsely : Prop := windowOnceRow.holds Try.pinned (OpenSpec.ofChange windowOnceWrong)

/-- 'redoubtlaw13.WindowNil': WHATEVER THE INPUT: true; the input reads as it did. -/
def windowNilSpec : ChangeSpec := { name := "windowNil", fn := fun _ => fun
  | [d1, d2] => { results := [.lit (.bool true)], args := [d1, d2] }
  | _ => none }
def windowNilRow : OpenClaim := { program := "ytddkcepofoifdaa", sum := "42c32447eb9953730a544a81debc57633b35993df64d220ebd35a399fe00a574", func := "redoubt/redoubtlaw13.WindowNil", spec := "windowNil", apart := false }
def WindowNilSaid : Prop := windowNilRow.holds Try.pinned (OpenSpec.ofChange windowNilSpec)

/-- ITS FALSE NEIGHBOUR: 'it returns false'. Refute it at one input. -/
def windowNilWrong : ChangeSpec := { name := "windowNil", fn := fun _ => fun
  | [d1, d2] => { results := [.lit (.bool false)], args := [d1, d2] }
  | _ => none }
def WindowNilWrongFalsely : Prop := windowNilRow.holds Try.pinned (OpenSpec.ofChange windowNilWrong)

/-- 'redoubtlaw13.WindowSlides': WHATEVER THE INPUT: true; the input reads as it did. -/
def windowSlidesSpec : ChangeSpec := { name := "windowSlides", fn := fun _ => fun
  | [d1, d2, d3] => { results := [.lit (.bool true)], args := [d1, d2, d3] }
  | _ => none }
def windowSlidesRow : OpenClaim := { program := "ytddkcepofoifdaa", sum := "42c32447eb9953730a544a81debc57633b35993df64d220ebd35a399fe00a574", func := "redoubt/redoubtlaw13.WindowSlides", spec := "windowSlides", apart := false }
def WindowSlidesSaid : Prop := windowSlidesRow.holds Try.pinned (OpenSpec.ofChange windowSlidesSpec)

/-- ITS FALSE NEIGHBOUR: 'it returns false'. Refute it at one input. -/
def windowSlidesWrong : ChangeSpec := { name := "windowSlides", fn := fun _ => fun
  | [d1, d2, d3] => { results := [.lit (.bool false)], args := [d1, d2, d3] }
  | _ => none }
def WindowSlidesWrongFalsely : Prop := windowSlidesRow.holds Try.pinned (OpenSpec.ofChange windowSlidesWrong)

/- THE SECOND FORM. 'bulk': how many values and letters a reading holds, each counted each time it is reached (what is shared counts as often as it is met; a slice's spare places count too). A statement '..UptoSaid' is the law's where the arguments, and the package variables that the reading takes, are together of bulk at most 1048576: NARROWER than '..Said'. Prove '..Said' where nothing that the law and all that it calls make is longer than what came in: it says more and counts as full. Else prove '..UptoSaid'. A law counts once. -/
mutual
def uptoBulk {H : Type} : DataW H → Nat
  | .lit (.string bytes) => bytes.length + 1
  | .lit _ => 1
  | .nil => 1
  | .ptr d => uptoBulk d + 1
  | .slice elems spare => uptoBulkAll elems + uptoBulkAll spare + 1
  | .agg parts => uptoBulkAll parts + 1
  | .iface _ d => uptoBulk d + 1
  | .map entries => uptoBulkEntries entries + 1
  | .held _ => 1
def uptoBulkAll {H : Type} : List (DataW H) → Nat
  | [] => 0
  | d :: r => uptoBulk d + uptoBulkAll r
def uptoBulkEntries {H : Type} : List (Lit × DataW H) → Nat
  | [] => 0
  | x :: r => uptoBulkEntry x + uptoBulkEntries r
def uptoBulkEntry {H : Type} : Lit × DataW H → Nat
  | (.string bytes, d) => bytes.length + uptoBulk d + 1
  | (_, d) => uptoBulk d + 1
 end
def uptoSmall : (H : Type) → List (DataW H) → Bool := fun _ ds => decide (uptoBulkAll ds ≤ 1048576)
def OpenSpec.upto (s : _root_.Go.ChangeSpec) : _root_.Go.OpenSpec := { _root_.Go.OpenSpec.ofChange s with cond := some uptoSmall }

/-- 'redoubtlaw12.PadSeals', WHERE WHAT IT READS IS OF BULK AT MOST 1048576: true; the input reads as it did. -/
def padSealsUptoRow : OpenClaim := { program := "ytddkcepofoifdaa", sum := "42c32447eb9953730a544a81debc57633b35993df64d220ebd35a399fe00a574", func := "redoubt/redoubtlaw12.PadSeals", spec := "padSeals", apart := false, narrowed := true }
def PadSealsUptoSaid : Prop := padSealsUptoRow.holds Try.pinned (OpenSpec.upto padSealsSpec)

/-- 'redoubtlaw12.PadBack', WHERE WHAT IT READS IS OF BULK AT MOST 1048576: true; the input reads as it did. -/
def padBackUptoRow : OpenClaim := { program := "ytddkcepofoifdaa", sum := "42c32447eb9953730a544a81debc57633b35993df64d220ebd35a399fe00a574", func := "redoubt/redoubtlaw12.PadBack", spec := "padBack", apart := false, narrowed := true }
def PadBackUptoSaid : Prop := padBackUptoRow.holds Try.pinned (OpenSpec.upto padBackSpec)

/-- 'redoubtlaw12.PadLong', WHERE WHAT IT READS IS OF BULK AT MOST 1048576: true; the input reads as it did. -/
def padLongUptoRow : OpenClaim := { program := "ytddkcepofoifdaa", sum := "42c32447eb9953730a544a81debc57633b35993df64d220ebd35a399fe00a574", func := "redoubt/redoubtlaw12.PadLong", spec := "padLong", apart := false, narrowed := true }
def PadLongUptoSaid : Prop := padLongUptoRow.holds Try.pinned (OpenSpec.upto padLongSpec)

/-- 'redoubtlaw12.PadRow', WHERE WHAT IT READS IS OF BULK AT MOST 1048576: true; the input reads as it did. -/
def padRowUptoRow : OpenClaim := { program := "ytddkcepofoifdaa", sum := "42c32447eb9953730a544a81debc57633b35993df64d220ebd35a399fe00a574", func := "redoubt/redoubtlaw12.PadRow", spec := "padRow", apart := false, narrowed := true }
def PadRowUptoSaid : Prop := padRowUptoRow.holds Try.pinned (OpenSpec.upto padRowSpec)

/-- 'redoubtlaw13.WindowInfers', WHERE WHAT IT READS IS OF BULK AT MOST 1048576: true; the input reads as it did. -/
def windowInfersUptoRow : OpenClaim := { program := "ytddkcepofoifdaa", sum := "42c32447eb9953730a544a81debc57633b35993df64d220ebd35a399fe00a574", func := "redoubt/redoubtlaw13.WindowInfers", spec := "windowInfers", apart := false, narrowed := true }
def WindowInfersUptoSaid : Prop := windowInfersUptoRow.holds Try.pinned (OpenSpec.upto windowInfersSpec)

/-- 'redoubtlaw13.WindowDoes', WHERE WHAT IT READS IS OF BULK AT MOST 1048576: true; the input reads as it did. -/
def windowDoesUptoRow : OpenClaim := { program := "ytddkcepofoifdaa", sum := "42c32447eb9953730a544a81debc57633b35993df64d220ebd35a399fe00a574", func := "redoubt/redoubtlaw13.WindowDoes", spec := "windowDoes", apart := false, narrowed := true }
def WindowDoesUptoSaid : Prop := windowDoesUptoRow.holds Try.pinned (OpenSpec.upto windowDoesSpec)

/-- 'redoubtlaw13.WindowOnce', WHERE WHAT IT READS IS OF BULK AT MOST 1048576: true; the input reads as it did. -/
def windowOnceUptoRow : OpenClaim := { program := "ytddkcepofoifdaa", sum := "42c32447eb9953730a544a81debc57633b35993df64d220ebd35a399fe00a574", func := "redoubt/redoubtlaw13.WindowOnce", spec := "windowOnce", apart := false, narrowed := true }
def WindowOnceUptoSaid : Prop := windowOnceUptoRow.holds Try.pinned (OpenSpec.upto windowOnceSpec)

/-- 'redoubtlaw13.WindowNil', WHERE WHAT IT READS IS OF BULK AT MOST 1048576: true; the input reads as it did. -/
def windowNilUptoRow : OpenClaim := { program := "ytddkcepofoifdaa", sum := "42c32447eb9953730a544a81debc57633b35993df64d220ebd35a399fe00a574", func := "redoubt/redoubtlaw13.WindowNil", spec := "windowNil", apart := false, narrowed := true }
def WindowNilUptoSaid : Prop := windowNilUptoRow.holds Try.pinned (OpenSpec.upto windowNilSpec)

/-- 'redoubtlaw13.WindowSlides', WHERE WHAT IT READS IS OF BULK AT MOST 1048576: true; the input reads as it did. -/
def windowSlidesUptoRow : OpenClaim := { program := "ytddkcepofoifdaa", sum := "42c32447eb9953730a544a81debc57633b35993df64d220ebd35a399fe00a574", func := "redoubt/redoubtlaw13.WindowSlides", spec := "windowSlides", apart := false, narrowed := true }
def WindowSlidesUptoSaid : Prop := windowSlidesUptoRow.holds Try.pinned (OpenSpec.upto windowSlidesSpec)

end Rows
end Go.Proofs.Ytddkcepofoifdaa
