/-
  DERIVED. GIVEN WITH THE SEED: THE CARDS: each row of YtkmnpnbfeiobiaaDoorRows.lean that lists a variable, with what it lists TIED to the program's text (the seventh form; the later family's looks); each row that meets fmt, with fmt's text TOLD by the authors' own Lean function (tested against real Go, not proved from fmt's source: count such statements apart). THE CARD IS WHAT COUNTS. Prove the row's statement (the work); the ties are given (YtkmnpnbfeiobiaaDoorTie.lean); close each card by the builder's one call (the guide's Derived/Test/ToyasCard.lean, 'card_holds'). Laid BY PROGRAM, IN A SANDBOX (cutbox-door.mjs). By AI agents, Wed Nov 11 2026. No macro, syntax, notation, axiom, sorry.
-/
import Derived.Test.YtkmnpnbfeiobiaaDoorRows
import GoSem.ClaimSeven
namespace Go.Proofs.YtkmnpnbfeiobiaaDoor
namespace Rows

/-- THE TIED CARD OF 'redoubtlaw17.SadFollows'. -/
def sadFollowsCard : Claim7 := { stood := { row := sadFollowsRow, standIns := [], harness := (true, "24fe9ea054b125e779c78f14b040d0c74660837b36a8267acc60bba3218d645c"), looks := true }, kinds := [], alts := [], laidByText := true, laidKinds := [.handle], laidTests := true, laidLooks := .later }
def SadFollowsCardSaid : Prop := Claim7.holds Tryd.pinned (.plain (OpenSpec.ofChange sadFollowsSpec)) sadFollowsCard

/-- THE TIED CARD OF 'redoubtlaw17.SadOnce'. -/
def sadOnceCard : Claim7 := { stood := { row := sadOnceRow, standIns := [], harness := (true, "24fe9ea054b125e779c78f14b040d0c74660837b36a8267acc60bba3218d645c"), looks := true }, kinds := [], alts := [], laidByText := true, laidKinds := [.handle], laidTests := true, laidLooks := .later }
def SadOnceCardSaid : Prop := Claim7.holds Tryd.pinned (.plain (OpenSpec.ofChange sadOnceSpec)) sadOnceCard

/-- THE TIED CARD OF 'redoubtlaw17.SadAges'. -/
def sadAgesCard : Claim7 := { stood := { row := sadAgesRow, standIns := [], harness := (true, "24fe9ea054b125e779c78f14b040d0c74660837b36a8267acc60bba3218d645c"), looks := true }, kinds := [], alts := [], laidByText := true, laidKinds := [.handle], laidTests := true, laidLooks := .later }
def SadAgesCardSaid : Prop := Claim7.holds Tryd.pinned (.plain (OpenSpec.ofChange sadAgesSpec)) sadAgesCard

/-- THE TIED CARD OF 'redoubtlaw17.SadDoes'. -/
def sadDoesCard : Claim7 := { stood := { row := sadDoesRow, standIns := [], harness := (true, "24fe9ea054b125e779c78f14b040d0c74660837b36a8267acc60bba3218d645c"), looks := true }, kinds := [], alts := [], laidByText := true, laidKinds := [.handle], laidTests := true, laidLooks := .later }
def SadDoesCardSaid : Prop := Claim7.holds Tryd.pinned (.plain (OpenSpec.ofChange sadDoesSpec)) sadDoesCard

/-- THE TIED CARD OF 'redoubtlaw17.SadNil'. -/
def sadNilCard : Claim7 := { stood := { row := sadNilRow, standIns := [], harness := (true, "24fe9ea054b125e779c78f14b040d0c74660837b36a8267acc60bba3218d645c"), looks := true }, kinds := [], alts := [], laidByText := true, laidKinds := [.handle], laidTests := true, laidLooks := .later }
def SadNilCardSaid : Prop := Claim7.holds Tryd.pinned (.plain (OpenSpec.ofChange sadNilSpec)) sadNilCard

/-- THE SECOND FORM's CARD OF 'redoubtlaw17.SadFollows'. -/
def sadFollowsUptoCard : Claim7 := { stood := { row := sadFollowsUptoRow, standIns := [], harness := (true, "24fe9ea054b125e779c78f14b040d0c74660837b36a8267acc60bba3218d645c"), looks := true }, kinds := [], alts := [], laidByText := true, laidKinds := [.handle], laidTests := true, laidLooks := .later }
def SadFollowsUptoCardSaid : Prop := Claim7.holds Tryd.pinned (.plain (OpenSpec.upto sadFollowsSpec)) sadFollowsUptoCard

/-- THE SECOND FORM's CARD OF 'redoubtlaw17.SadOnce'. -/
def sadOnceUptoCard : Claim7 := { stood := { row := sadOnceUptoRow, standIns := [], harness := (true, "24fe9ea054b125e779c78f14b040d0c74660837b36a8267acc60bba3218d645c"), looks := true }, kinds := [], alts := [], laidByText := true, laidKinds := [.handle], laidTests := true, laidLooks := .later }
def SadOnceUptoCardSaid : Prop := Claim7.holds Tryd.pinned (.plain (OpenSpec.upto sadOnceSpec)) sadOnceUptoCard

/-- THE SECOND FORM's CARD OF 'redoubtlaw17.SadAges'. -/
def sadAgesUptoCard : Claim7 := { stood := { row := sadAgesUptoRow, standIns := [], harness := (true, "24fe9ea054b125e779c78f14b040d0c74660837b36a8267acc60bba3218d645c"), looks := true }, kinds := [], alts := [], laidByText := true, laidKinds := [.handle], laidTests := true, laidLooks := .later }
def SadAgesUptoCardSaid : Prop := Claim7.holds Tryd.pinned (.plain (OpenSpec.upto sadAgesSpec)) sadAgesUptoCard

/-- THE SECOND FORM's CARD OF 'redoubtlaw17.SadDoes'. -/
def sadDoesUptoCard : Claim7 := { stood := { row := sadDoesUptoRow, standIns := [], harness := (true, "24fe9ea054b125e779c78f14b040d0c74660837b36a8267acc60bba3218d645c"), looks := true }, kinds := [], alts := [], laidByText := true, laidKinds := [.handle], laidTests := true, laidLooks := .later }
def SadDoesUptoCardSaid : Prop := Claim7.holds Tryd.pinned (.plain (OpenSpec.upto sadDoesSpec)) sadDoesUptoCard

/-- THE SECOND FORM's CARD OF 'redoubtlaw17.SadNil'. -/
def sadNilUptoCard : Claim7 := { stood := { row := sadNilUptoRow, standIns := [], harness := (true, "24fe9ea054b125e779c78f14b040d0c74660837b36a8267acc60bba3218d645c"), looks := true }, kinds := [], alts := [], laidByText := true, laidKinds := [.handle], laidTests := true, laidLooks := .later }
def SadNilUptoCardSaid : Prop := Claim7.holds Tryd.pinned (.plain (OpenSpec.upto sadNilSpec)) sadNilUptoCard
end Rows
end Go.Proofs.YtkmnpnbfeiobiaaDoor
