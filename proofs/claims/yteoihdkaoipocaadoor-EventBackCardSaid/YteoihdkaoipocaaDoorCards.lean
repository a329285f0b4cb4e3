/-
  DERIVED. GIVEN WITH THE SEED: THE CARDS: each row of YteoihdkaoipocaaDoorRows.lean that lists a variable, with what it lists TIED to the program's text (the seventh form; the later family's looks); each row that meets fmt, with fmt's text TOLD by the authors' own Lean function (tested against real Go, not proved from fmt's source: count such statements apart). THE CARD IS WHAT COUNTS. Prove the row's statement (the work); the ties are given (YteoihdkaoipocaaDoorTie.lean); close each card by the builder's one call (the guide's Derived/Test/ToyasCard.lean, 'card_holds'). Laid BY PROGRAM, IN A SANDBOX (cutbox-door.mjs). By AI agents, Wed Nov 11 2026. No macro, syntax, notation, axiom, sorry.
-/
import Derived.Test.YteoihdkaoipocaaDoorRows
import GoSem.ClaimSeven
namespace Go.Proofs.YteoihdkaoipocaaDoor
namespace Rows

/-- THE TIED CARD OF 'corveelaw05.FleetNames'. -/
def fleetNamesCard : Claim7 := { stood := { row := fleetNamesRow, standIns := [], harness := (true, "d7ca3db8da485ca0b11e68421f68137e81c97920c528271bb1d28dc3225d4cd7"), looks := false }, kinds := [], alts := [], laidByText := true, laidKinds := [.data, .pinned], laidTests := true, laidLooks := .later }
def FleetNamesCardSaid : Prop := Claim7.holds Tryd.pinned (.plain (OpenSpec.ofChange fleetNamesSpec)) fleetNamesCard

/-- THE TIED CARD OF 'corveelaw08.SpecParses'. -/
def specParsesCard : Claim7 := { stood := { row := specParsesRow, standIns := [], harness := (true, "d7ca3db8da485ca0b11e68421f68137e81c97920c528271bb1d28dc3225d4cd7"), looks := false }, kinds := [], alts := [], laidByText := true, laidKinds := [.data, .data, .data, .data, .pinned], laidTests := true, laidLooks := .later }
def SpecParsesCardSaid : Prop := Claim7.holds Tryd.pinned (.plain (OpenSpec.ofChange specParsesSpec)) specParsesCard

/-- THE TIED CARD OF 'corveelaw08.SpecTexts'. -/
def specTextsCard : Claim7 := { stood := { row := specTextsRow, standIns := [], harness := (true, "d7ca3db8da485ca0b11e68421f68137e81c97920c528271bb1d28dc3225d4cd7"), looks := false }, kinds := [], alts := [], laidByText := true, laidKinds := [.data, .data, .data, .data, .pinned], laidTests := true, laidLooks := .later }
def SpecTextsCardSaid : Prop := Claim7.holds Tryd.pinned (.plain (OpenSpec.ofChange specTextsSpec)) specTextsCard

/-- THE TIED CARD OF 'corveelaw08.SpecBack'. -/
def specBackCard : Claim7 := { stood := { row := specBackRow, standIns := [], harness := (true, "d7ca3db8da485ca0b11e68421f68137e81c97920c528271bb1d28dc3225d4cd7"), looks := false }, kinds := [], alts := [], laidByText := true, laidKinds := [.data, .data, .data, .data, .pinned], laidTests := true, laidLooks := .later }
def SpecBackCardSaid : Prop := Claim7.holds Tryd.pinned (.plain (OpenSpec.ofChange specBackSpec)) specBackCard

/-- THE TIED CARD OF 'corveelaw08.SpecStops'. -/
def specStopsCard : Claim7 := { stood := { row := specStopsRow, standIns := [], harness := (true, "d7ca3db8da485ca0b11e68421f68137e81c97920c528271bb1d28dc3225d4cd7"), looks := false }, kinds := [], alts := [], laidByText := true, laidKinds := [.data, .data, .data, .data, .pinned], laidTests := true, laidLooks := .later }
def SpecStopsCardSaid : Prop := Claim7.holds Tryd.pinned (.plain (OpenSpec.ofChange specStopsSpec)) specStopsCard

/-- THE TIED CARD OF 'corveelaw05.FleetReads'. -/
def fleetReadsCard : Claim7 := { stood := { row := fleetReadsRow, standIns := [], harness := (true, "d7ca3db8da485ca0b11e68421f68137e81c97920c528271bb1d28dc3225d4cd7"), looks := false }, kinds := [], alts := [], laidByText := true, laidKinds := [.data, .pinned], laidTests := true, laidLooks := .later }
def FleetReadsCardSaid : Prop := Claim7.holds Tryd.pinned (.plain (OpenSpec.ofChange fleetReadsSpec)) fleetReadsCard

/-- THE TIED CARD OF 'corveelaw05.FleetMakes'. -/
def fleetMakesCard : Claim7 := { stood := { row := fleetMakesRow, standIns := [], harness := (true, "d7ca3db8da485ca0b11e68421f68137e81c97920c528271bb1d28dc3225d4cd7"), looks := false }, kinds := [], alts := [], laidByText := true, laidKinds := [.data, .pinned], laidTests := true, laidLooks := .later }
def FleetMakesCardSaid : Prop := Claim7.holds Tryd.pinned (.plain (OpenSpec.ofChange fleetMakesSpec)) fleetMakesCard

/-- THE TIED CARD OF 'corveelaw08.SpecExpands'. -/
def specExpandsCard : Claim7 := { stood := { row := specExpandsRow, standIns := [], harness := (true, "d7ca3db8da485ca0b11e68421f68137e81c97920c528271bb1d28dc3225d4cd7"), looks := false }, kinds := [], alts := [], laidByText := true, laidKinds := [.data, .data, .data, .data, .pinned], laidTests := true, laidLooks := .later }
def SpecExpandsCardSaid : Prop := Claim7.holds Tryd.pinned (.plain (OpenSpec.ofChange specExpandsSpec)) specExpandsCard

/-- THE TIED CARD OF 'corveelaw08.SpecSmaller'. -/
def specSmallerCard : Claim7 := { stood := { row := specSmallerRow, standIns := [], harness := (true, "d7ca3db8da485ca0b11e68421f68137e81c97920c528271bb1d28dc3225d4cd7"), looks := false }, kinds := [], alts := [], laidByText := true, laidKinds := [.data, .data, .data, .data, .pinned], laidTests := true, laidLooks := .later }
def SpecSmallerCardSaid : Prop := Claim7.holds Tryd.pinned (.plain (OpenSpec.ofChange specSmallerSpec)) specSmallerCard

/-- THE TIED CARD OF 'corveelaw13.EventBack'. -/
def eventBackCard : Claim7 := { stood := { row := eventBackRow, standIns := [], harness := (true, "d7ca3db8da485ca0b11e68421f68137e81c97920c528271bb1d28dc3225d4cd7"), looks := false }, kinds := [], alts := [], laidByText := true, laidKinds := [.data, .data, .data, .data, .pinned], laidTests := true, laidLooks := .later }
def EventBackCardSaid : Prop := Claim7.holds Tryd.pinned (.plain (OpenSpec.ofChange eventBackSpec)) eventBackCard

/-- THE TIED CARD OF 'corveelaw13.EventOne'. -/
def eventOneCard : Claim7 := { stood := { row := eventOneRow, standIns := [], harness := (true, "d7ca3db8da485ca0b11e68421f68137e81c97920c528271bb1d28dc3225d4cd7"), looks := false }, kinds := [], alts := [], laidByText := true, laidKinds := [.data, .data, .data, .data, .pinned], laidTests := true, laidLooks := .later }
def EventOneCardSaid : Prop := Claim7.holds Tryd.pinned (.plain (OpenSpec.ofChange eventOneSpec)) eventOneCard

/-- THE TIED CARD OF 'corveelaw13.EventCut'. -/
def eventCutCard : Claim7 := { stood := { row := eventCutRow, standIns := [], harness := (true, "d7ca3db8da485ca0b11e68421f68137e81c97920c528271bb1d28dc3225d4cd7"), looks := false }, kinds := [], alts := [], laidByText := true, laidKinds := [.data, .data, .data, .data, .pinned], laidTests := true, laidLooks := .later }
def EventCutCardSaid : Prop := Claim7.holds Tryd.pinned (.plain (OpenSpec.ofChange eventCutSpec)) eventCutCard

/-- THE TIED CARD OF 'corveelaw05.FleetTexts'. -/
def fleetTextsCard : Claim7 := { stood := { row := fleetTextsRow, standIns := [], harness := (true, "d7ca3db8da485ca0b11e68421f68137e81c97920c528271bb1d28dc3225d4cd7"), looks := false }, kinds := [], alts := [], laidByText := true, laidKinds := [.data, .data, .data, .data, .pinned], laidTests := true, laidLooks := .later }
def FleetTextsCardSaid : Prop := Claim7.holds Tryd.pinned (.plain (OpenSpec.ofChange fleetTextsSpec)) fleetTextsCard

/-- THE TIED CARD OF 'corveelaw05.FleetBack'. -/
def fleetBackCard : Claim7 := { stood := { row := fleetBackRow, standIns := [], harness := (true, "d7ca3db8da485ca0b11e68421f68137e81c97920c528271bb1d28dc3225d4cd7"), looks := false }, kinds := [], alts := [], laidByText := true, laidKinds := [.data, .data, .data, .data, .pinned], laidTests := true, laidLooks := .later }
def FleetBackCardSaid : Prop := Claim7.holds Tryd.pinned (.plain (OpenSpec.ofChange fleetBackSpec)) fleetBackCard

/-- THE TIED CARD OF 'corveelaw05.FleetOwn'. -/
def fleetOwnCard : Claim7 := { stood := { row := fleetOwnRow, standIns := [], harness := (true, "d7ca3db8da485ca0b11e68421f68137e81c97920c528271bb1d28dc3225d4cd7"), looks := false }, kinds := [], alts := [], laidByText := true, laidKinds := [.data, .data, .data, .data, .pinned], laidTests := true, laidLooks := .later }
def FleetOwnCardSaid : Prop := Claim7.holds Tryd.pinned (.plain (OpenSpec.ofChange fleetOwnSpec)) fleetOwnCard

/-- THE SECOND FORM's CARD OF 'corveelaw05.FleetNames'. -/
def fleetNamesUptoCard : Claim7 := { stood := { row := fleetNamesUptoRow, standIns := [], harness := (true, "d7ca3db8da485ca0b11e68421f68137e81c97920c528271bb1d28dc3225d4cd7"), looks := false }, kinds := [], alts := [], laidByText := true, laidKinds := [.data, .pinned], laidTests := true, laidLooks := .later }
def FleetNamesUptoCardSaid : Prop := Claim7.holds Tryd.pinned (.plain (OpenSpec.upto fleetNamesSpec)) fleetNamesUptoCard

/-- THE SECOND FORM's CARD OF 'corveelaw08.SpecParses'. -/
def specParsesUptoCard : Claim7 := { stood := { row := specParsesUptoRow, standIns := [], harness := (true, "d7ca3db8da485ca0b11e68421f68137e81c97920c528271bb1d28dc3225d4cd7"), looks := false }, kinds := [], alts := [], laidByText := true, laidKinds := [.data, .data, .data, .data, .pinned], laidTests := true, laidLooks := .later }
def SpecParsesUptoCardSaid : Prop := Claim7.holds Tryd.pinned (.plain (OpenSpec.upto specParsesSpec)) specParsesUptoCard

/-- THE SECOND FORM's CARD OF 'corveelaw08.SpecTexts'. -/
def specTextsUptoCard : Claim7 := { stood := { row := specTextsUptoRow, standIns := [], harness := (true, "d7ca3db8da485ca0b11e68421f68137e81c97920c528271bb1d28dc3225d4cd7"), looks := false }, kinds := [], alts := [], laidByText := true, laidKinds := [.data, .data, .data, .data, .pinned], laidTests := true, laidLooks := .later }
def SpecTextsUptoCardSaid : Prop := Claim7.holds Tryd.pinned (.plain (OpenSpec.upto specTextsSpec)) specTextsUptoCard

/-- THE SECOND FORM's CARD OF 'corveelaw08.SpecBack'. -/
def specBackUptoCard : Claim7 := { stood := { row := specBackUptoRow, standIns := [], harness := (true, "d7ca3db8da485ca0b11e68421f68137e81c97920c528271bb1d28dc3225d4cd7"), looks := false }, kinds := [], alts := [], laidByText := true, laidKinds := [.data, .data, .data, .data, .pinned], laidTests := true, laidLooks := .later }
def SpecBackUptoCardSaid : Prop := Claim7.holds Tryd.pinned (.plain (OpenSpec.upto specBackSpec)) specBackUptoCard

/-- THE SECOND FORM's CARD OF 'corveelaw08.SpecStops'. -/
def specStopsUptoCard : Claim7 := { stood := { row := specStopsUptoRow, standIns := [], harness := (true, "d7ca3db8da485ca0b11e68421f68137e81c97920c528271bb1d28dc3225d4cd7"), looks := false }, kinds := [], alts := [], laidByText := true, laidKinds := [.data, .data, .data, .data, .pinned], laidTests := true, laidLooks := .later }
def SpecStopsUptoCardSaid : Prop := Claim7.holds Tryd.pinned (.plain (OpenSpec.upto specStopsSpec)) specStopsUptoCard

/-- THE SECOND FORM's CARD OF 'corveelaw05.FleetReads'. -/
def fleetReadsUptoCard : Claim7 := { stood := { row := fleetReadsUptoRow, standIns := [], harness := (true, "d7ca3db8da485ca0b11e68421f68137e81c97920c528271bb1d28dc3225d4cd7"), looks := false }, kinds := [], alts := [], laidByText := true, laidKinds := [.data, .pinned], laidTests := true, laidLooks := .later }
def FleetReadsUptoCardSaid : Prop := Claim7.holds Tryd.pinned (.plain (OpenSpec.upto fleetReadsSpec)) fleetReadsUptoCard

/-- THE SECOND FORM's CARD OF 'corveelaw05.FleetMakes'. -/
def fleetMakesUptoCard : Claim7 := { stood := { row := fleetMakesUptoRow, standIns := [], harness := (true, "d7ca3db8da485ca0b11e68421f68137e81c97920c528271bb1d28dc3225d4cd7"), looks := false }, kinds := [], alts := [], laidByText := true, laidKinds := [.data, .pinned], laidTests := true, laidLooks := .later }
def FleetMakesUptoCardSaid : Prop := Claim7.holds Tryd.pinned (.plain (OpenSpec.upto fleetMakesSpec)) fleetMakesUptoCard

/-- THE SECOND FORM's CARD OF 'corveelaw08.SpecExpands'. -/
def specExpandsUptoCard : Claim7 := { stood := { row := specExpandsUptoRow, standIns := [], harness := (true, "d7ca3db8da485ca0b11e68421f68137e81c97920c528271bb1d28dc3225d4cd7"), looks := false }, kinds := [], alts := [], laidByText := true, laidKinds := [.data, .data, .data, .data, .pinned], laidTests := true, laidLooks := .later }
def SpecExpandsUptoCardSaid : Prop := Claim7.holds Tryd.pinned (.plain (OpenSpec.upto specExpandsSpec)) specExpandsUptoCard

/-- THE SECOND FORM's CARD OF 'corveelaw08.SpecSmaller'. -/
def specSmallerUptoCard : Claim7 := { stood := { row := specSmallerUptoRow, standIns := [], harness := (true, "d7ca3db8da485ca0b11e68421f68137e81c97920c528271bb1d28dc3225d4cd7"), looks := false }, kinds := [], alts := [], laidByText := true, laidKinds := [.data, .data, .data, .data, .pinned], laidTests := true, laidLooks := .later }
def SpecSmallerUptoCardSaid : Prop := Claim7.holds Tryd.pinned (.plain (OpenSpec.upto specSmallerSpec)) specSmallerUptoCard

/-- THE SECOND FORM's CARD OF 'corveelaw13.EventBack'. -/
def eventBackUptoCard : Claim7 := { stood := { row := eventBackUptoRow, standIns := [], harness := (true, "d7ca3db8da485ca0b11e68421f68137e81c97920c528271bb1d28dc3225d4cd7"), looks := false }, kinds := [], alts := [], laidByText := true, laidKinds := [.data, .data, .data, .data, .pinned], laidTests := true, laidLooks := .later }
def EventBackUptoCardSaid : Prop := Claim7.holds Tryd.pinned (.plain (OpenSpec.upto eventBackSpec)) eventBackUptoCard

/-- THE SECOND FORM's CARD OF 'corveelaw13.EventOne'. -/
def eventOneUptoCard : Claim7 := { stood := { row := eventOneUptoRow, standIns := [], harness := (true, "d7ca3db8da485ca0b11e68421f68137e81c97920c528271bb1d28dc3225d4cd7"), looks := false }, kinds := [], alts := [], laidByText := true, laidKinds := [.data, .data, .data, .data, .pinned], laidTests := true, laidLooks := .later }
def EventOneUptoCardSaid : Prop := Claim7.holds Tryd.pinned (.plain (OpenSpec.upto eventOneSpec)) eventOneUptoCard

/-- THE SECOND FORM's CARD OF 'corveelaw13.EventCut'. -/
def eventCutUptoCard : Claim7 := { stood := { row := eventCutUptoRow, standIns := [], harness := (true, "d7ca3db8da485ca0b11e68421f68137e81c97920c528271bb1d28dc3225d4cd7"), looks := false }, kinds := [], alts := [], laidByText := true, laidKinds := [.data, .data, .data, .data, .pinned], laidTests := true, laidLooks := .later }
def EventCutUptoCardSaid : Prop := Claim7.holds Tryd.pinned (.plain (OpenSpec.upto eventCutSpec)) eventCutUptoCard

/-- THE SECOND FORM's CARD OF 'corveelaw05.FleetTexts'. -/
def fleetTextsUptoCard : Claim7 := { stood := { row := fleetTextsUptoRow, standIns := [], harness := (true, "d7ca3db8da485ca0b11e68421f68137e81c97920c528271bb1d28dc3225d4cd7"), looks := false }, kinds := [], alts := [], laidByText := true, laidKinds := [.data, .data, .data, .data, .pinned], laidTests := true, laidLooks := .later }
def FleetTextsUptoCardSaid : Prop := Claim7.holds Tryd.pinned (.plain (OpenSpec.upto fleetTextsSpec)) fleetTextsUptoCard

/-- THE SECOND FORM's CARD OF 'corveelaw05.FleetBack'. -/
def fleetBackUptoCard : Claim7 := { stood := { row := fleetBackUptoRow, standIns := [], harness := (true, "d7ca3db8da485ca0b11e68421f68137e81c97920c528271bb1d28dc3225d4cd7"), looks := false }, kinds := [], alts := [], laidByText := true, laidKinds := [.data, .data, .data, .data, .pinned], laidTests := true, laidLooks := .later }
def FleetBackUptoCardSaid : Prop := Claim7.holds Tryd.pinned (.plain (OpenSpec.upto fleetBackSpec)) fleetBackUptoCard

/-- THE SECOND FORM's CARD OF 'corveelaw05.FleetOwn'. -/
def fleetOwnUptoCard : Claim7 := { stood := { row := fleetOwnUptoRow, standIns := [], harness := (true, "d7ca3db8da485ca0b11e68421f68137e81c97920c528271bb1d28dc3225d4cd7"), looks := false }, kinds := [], alts := [], laidByText := true, laidKinds := [.data, .data, .data, .data, .pinned], laidTests := true, laidLooks := .later }
def FleetOwnUptoCardSaid : Prop := Claim7.holds Tryd.pinned (.plain (OpenSpec.upto fleetOwnSpec)) fleetOwnUptoCard
end Rows
end Go.Proofs.YteoihdkaoipocaaDoor
