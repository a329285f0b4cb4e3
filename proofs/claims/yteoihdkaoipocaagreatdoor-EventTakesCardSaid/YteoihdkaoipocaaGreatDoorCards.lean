/-
  DERIVED. GIVEN WITH THE SEED: THE CARDS: each row of YteoihdkaoipocaaGreatDoorRows.lean that lists a variable, with what it lists TIED to the program's text (the seventh form; the later family's looks); each row that meets fmt, with fmt's text TOLD by the authors' own Lean function (tested against real Go, not proved from fmt's source: count such statements apart). THE CARD IS WHAT COUNTS. Prove the row's statement (the work); the ties are given (YteoihdkaoipocaaGreatDoorTie.lean); close each card by the builder's one call (the guide's Derived/Test/ToyasCard.lean, 'card_holds'). Laid BY PROGRAM, IN A SANDBOX (cutbox-door.mjs). By AI agents, Wed Nov 11 2026. No macro, syntax, notation, axiom, sorry.
-/
import Derived.Test.YteoihdkaoipocaaGreatDoorRows
import GoSem.ClaimSeven
namespace Go.Proofs.YteoihdkaoipocaaGreatDoor
namespace Rows

/-- THE TIED CARD OF 'corveelaw08.SpecSuits'. -/
def specSuitsCard : Claim7 := { stood := { row := specSuitsRow, standIns := [], harness := (true, "a8c09d38ae34f031165ba41639bffd1201e1848b2ee5c077e12c68de6cfd4722"), looks := false }, kinds := [], alts := [], laidByText := true, laidKinds := [.data, .data, .data, .data, .pinned], laidTests := true, laidLooks := .later }
def SpecSuitsCardSaid : Prop := Claim7.holds Tryz.pinned (.plain (OpenSpec.ofChange specSuitsSpec)) specSuitsCard

/-- THE TIED CARD OF 'corveelaw13.EventPuts'. -/
def eventPutsCard : Claim7 := { stood := { row := eventPutsRow, standIns := [], harness := (true, "a8c09d38ae34f031165ba41639bffd1201e1848b2ee5c077e12c68de6cfd4722"), looks := false }, kinds := [], alts := [], laidByText := true, laidKinds := [.data, .data, .data, .data, .pinned], laidTests := true, laidLooks := .later }
def EventPutsCardSaid : Prop := Claim7.holds Tryz.pinned (.plain (OpenSpec.ofChange eventPutsSpec)) eventPutsCard

/-- THE TIED CARD OF 'corveelaw13.EventTakes'. -/
def eventTakesCard : Claim7 := { stood := { row := eventTakesRow, standIns := [], harness := (true, "a8c09d38ae34f031165ba41639bffd1201e1848b2ee5c077e12c68de6cfd4722"), looks := false }, kinds := [], alts := [], laidByText := true, laidKinds := [.data, .data, .data, .data, .pinned], laidTests := true, laidLooks := .later }
def EventTakesCardSaid : Prop := Claim7.holds Tryz.pinned (.plain (OpenSpec.ofChange eventTakesSpec)) eventTakesCard

/-- THE SECOND FORM's CARD OF 'corveelaw08.SpecSuits'. -/
def specSuitsUptoCard : Claim7 := { stood := { row := specSuitsUptoRow, standIns := [], harness := (true, "a8c09d38ae34f031165ba41639bffd1201e1848b2ee5c077e12c68de6cfd4722"), looks := false }, kinds := [], alts := [], laidByText := true, laidKinds := [.data, .data, .data, .data, .pinned], laidTests := true, laidLooks := .later }
def SpecSuitsUptoCardSaid : Prop := Claim7.holds Tryz.pinned (.plain (OpenSpec.upto specSuitsSpec)) specSuitsUptoCard

/-- THE SECOND FORM's CARD OF 'corveelaw13.EventPuts'. -/
def eventPutsUptoCard : Claim7 := { stood := { row := eventPutsUptoRow, standIns := [], harness := (true, "a8c09d38ae34f031165ba41639bffd1201e1848b2ee5c077e12c68de6cfd4722"), looks := false }, kinds := [], alts := [], laidByText := true, laidKinds := [.data, .data, .data, .data, .pinned], laidTests := true, laidLooks := .later }
def EventPutsUptoCardSaid : Prop := Claim7.holds Tryz.pinned (.plain (OpenSpec.upto eventPutsSpec)) eventPutsUptoCard

/-- THE SECOND FORM's CARD OF 'corveelaw13.EventTakes'. -/
def eventTakesUptoCard : Claim7 := { stood := { row := eventTakesUptoRow, standIns := [], harness := (true, "a8c09d38ae34f031165ba41639bffd1201e1848b2ee5c077e12c68de6cfd4722"), looks := false }, kinds := [], alts := [], laidByText := true, laidKinds := [.data, .data, .data, .data, .pinned], laidTests := true, laidLooks := .later }
def EventTakesUptoCardSaid : Prop := Claim7.holds Tryz.pinned (.plain (OpenSpec.upto eventTakesSpec)) eventTakesUptoCard
end Rows
end Go.Proofs.YteoihdkaoipocaaGreatDoor
