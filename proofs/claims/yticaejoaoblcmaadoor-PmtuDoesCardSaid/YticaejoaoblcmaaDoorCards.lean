/-
  DERIVED. GIVEN WITH THE SEED: THE CARDS: each row of YticaejoaoblcmaaDoorRows.lean that lists a variable, with what it lists TIED to the program's text (the seventh form; the later family's looks); each row that meets fmt, with fmt's text TOLD by the authors' own Lean function (tested against real Go, not proved from fmt's source: count such statements apart). THE CARD IS WHAT COUNTS. Prove the row's statement (the work); the ties are given (YticaejoaoblcmaaDoorTie.lean); close each card by the builder's one call (the guide's Derived/Test/ToyasCard.lean, 'card_holds'). Laid BY PROGRAM, IN A SANDBOX (cutbox-door.mjs). By AI agents, Wed Nov 11 2026. No macro, syntax, notation, axiom, sorry.
-/
import Derived.Test.YticaejoaoblcmaaDoorRows
import GoSem.ClaimSeven
namespace Go.Proofs.YticaejoaoblcmaaDoor
namespace Rows

/-- THE TIED CARD OF 'redoubtlaw21.PmtuFloor'. -/
def pmtuFloorCard : Claim7 := { stood := { row := pmtuFloorRow, standIns := [], harness := (true, "93698599fd6357c610b309e72ca2724cf3085c6dd912504f3125b1a6e979a4fd"), looks := false }, kinds := [], alts := [], laidByText := true, laidKinds := [.data], laidTests := true, laidLooks := .later }
def PmtuFloorCardSaid : Prop := Claim7.holds Tryd.pinned (.plain (OpenSpec.ofChange pmtuFloorSpec)) pmtuFloorCard

/-- THE TIED CARD OF 'redoubtlaw21.PmtuInner'. -/
def pmtuInnerCard : Claim7 := { stood := { row := pmtuInnerRow, standIns := [], harness := (true, "93698599fd6357c610b309e72ca2724cf3085c6dd912504f3125b1a6e979a4fd"), looks := false }, kinds := [], alts := [], laidByText := true, laidKinds := [.data], laidTests := true, laidLooks := .later }
def PmtuInnerCardSaid : Prop := Claim7.holds Tryd.pinned (.plain (OpenSpec.ofChange pmtuInnerSpec)) pmtuInnerCard

/-- THE TIED CARD OF 'redoubtlaw21.PmtuApart'. -/
def pmtuApartCard : Claim7 := { stood := { row := pmtuApartRow, standIns := [], harness := (true, "93698599fd6357c610b309e72ca2724cf3085c6dd912504f3125b1a6e979a4fd"), looks := false }, kinds := [], alts := [], laidByText := true, laidKinds := [.data], laidTests := true, laidLooks := .later }
def PmtuApartCardSaid : Prop := Claim7.holds Tryd.pinned (.plain (OpenSpec.ofChange pmtuApartSpec)) pmtuApartCard

/-- THE TIED CARD OF 'redoubtlaw21.PmtuDoes'. -/
def pmtuDoesCard : Claim7 := { stood := { row := pmtuDoesRow, standIns := [], harness := (true, "93698599fd6357c610b309e72ca2724cf3085c6dd912504f3125b1a6e979a4fd"), looks := false }, kinds := [], alts := [], laidByText := true, laidKinds := [.data], laidTests := true, laidLooks := .later }
def PmtuDoesCardSaid : Prop := Claim7.holds Tryd.pinned (.plain (OpenSpec.ofChange pmtuDoesSpec)) pmtuDoesCard

/-- THE SECOND FORM's CARD OF 'redoubtlaw21.PmtuFloor'. -/
def pmtuFloorUptoCard : Claim7 := { stood := { row := pmtuFloorUptoRow, standIns := [], harness := (true, "93698599fd6357c610b309e72ca2724cf3085c6dd912504f3125b1a6e979a4fd"), looks := false }, kinds := [], alts := [], laidByText := true, laidKinds := [.data], laidTests := true, laidLooks := .later }
def PmtuFloorUptoCardSaid : Prop := Claim7.holds Tryd.pinned (.plain (OpenSpec.upto pmtuFloorSpec)) pmtuFloorUptoCard

/-- THE SECOND FORM's CARD OF 'redoubtlaw21.PmtuInner'. -/
def pmtuInnerUptoCard : Claim7 := { stood := { row := pmtuInnerUptoRow, standIns := [], harness := (true, "93698599fd6357c610b309e72ca2724cf3085c6dd912504f3125b1a6e979a4fd"), looks := false }, kinds := [], alts := [], laidByText := true, laidKinds := [.data], laidTests := true, laidLooks := .later }
def PmtuInnerUptoCardSaid : Prop := Claim7.holds Tryd.pinned (.plain (OpenSpec.upto pmtuInnerSpec)) pmtuInnerUptoCard

/-- THE SECOND FORM's CARD OF 'redoubtlaw21.PmtuApart'. -/
def pmtuApartUptoCard : Claim7 := { stood := { row := pmtuApartUptoRow, standIns := [], harness := (true, "93698599fd6357c610b309e72ca2724cf3085c6dd912504f3125b1a6e979a4fd"), looks := false }, kinds := [], alts := [], laidByText := true, laidKinds := [.data], laidTests := true, laidLooks := .later }
def PmtuApartUptoCardSaid : Prop := Claim7.holds Tryd.pinned (.plain (OpenSpec.upto pmtuApartSpec)) pmtuApartUptoCard

/-- THE SECOND FORM's CARD OF 'redoubtlaw21.PmtuDoes'. -/
def pmtuDoesUptoCard : Claim7 := { stood := { row := pmtuDoesUptoRow, standIns := [], harness := (true, "93698599fd6357c610b309e72ca2724cf3085c6dd912504f3125b1a6e979a4fd"), looks := false }, kinds := [], alts := [], laidByText := true, laidKinds := [.data], laidTests := true, laidLooks := .later }
def PmtuDoesUptoCardSaid : Prop := Claim7.holds Tryd.pinned (.plain (OpenSpec.upto pmtuDoesSpec)) pmtuDoesUptoCard
end Rows
end Go.Proofs.YticaejoaoblcmaaDoor
