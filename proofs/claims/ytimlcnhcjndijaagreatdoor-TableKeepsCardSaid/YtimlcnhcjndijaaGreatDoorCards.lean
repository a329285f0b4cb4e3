/-
  DERIVED. GIVEN WITH THE SEED: THE CARDS: each row of YtimlcnhcjndijaaGreatDoorRows.lean that lists a variable, with what it lists TIED to the program's text (the seventh form; the later family's looks); each row that meets fmt, with fmt's text TOLD by the authors' own Lean function (tested against real Go, not proved from fmt's source: count such statements apart). THE CARD IS WHAT COUNTS. Prove the row's statement (the work); the ties are given (YtimlcnhcjndijaaGreatDoorTie.lean); close each card by the builder's one call (the guide's Derived/Test/ToyasCard.lean, 'card_holds'). Laid BY PROGRAM, IN A SANDBOX (cutbox-door.mjs). By AI agents, Wed Nov 11 2026. No macro, syntax, notation, axiom, sorry.
-/
import Derived.Test.YtimlcnhcjndijaaGreatDoorRows
import GoSem.ClaimSeven
namespace Go.Proofs.YtimlcnhcjndijaaGreatDoor
namespace Rows

/-- THE TIED CARD OF 'corveelaw14.TableWaits'. -/
def tableWaitsCard : Claim7 := { stood := { row := tableWaitsRow, standIns := [], harness := (true, "f00d3a3b54b311500f09fe0e11769c241cf9ea7bcfb4d4ab9fd4905181bcc704"), looks := false }, kinds := [], alts := [], laidByText := true, laidKinds := [.data, .pinned], laidTests := true, laidLooks := .later }
def TableWaitsCardSaid : Prop := Claim7.holds Tryz.pinned (.plain (OpenSpec.ofChange tableWaitsSpec)) tableWaitsCard

/-- THE TIED CARD OF 'corveelaw14.TableFits'. -/
def tableFitsCard : Claim7 := { stood := { row := tableFitsRow, standIns := [], harness := (true, "f00d3a3b54b311500f09fe0e11769c241cf9ea7bcfb4d4ab9fd4905181bcc704"), looks := false }, kinds := [], alts := [], laidByText := true, laidKinds := [.data, .pinned], laidTests := true, laidLooks := .later }
def TableFitsCardSaid : Prop := Claim7.holds Tryz.pinned (.plain (OpenSpec.ofChange tableFitsSpec)) tableFitsCard

/-- THE TIED CARD OF 'corveelaw14.TableLives'. -/
def tableLivesCard : Claim7 := { stood := { row := tableLivesRow, standIns := [], harness := (true, "f00d3a3b54b311500f09fe0e11769c241cf9ea7bcfb4d4ab9fd4905181bcc704"), looks := false }, kinds := [], alts := [], laidByText := true, laidKinds := [.data, .pinned], laidTests := true, laidLooks := .later }
def TableLivesCardSaid : Prop := Claim7.holds Tryz.pinned (.plain (OpenSpec.ofChange tableLivesSpec)) tableLivesCard

/-- THE TIED CARD OF 'corveelaw14.TableKeeps'. -/
def tableKeepsCard : Claim7 := { stood := { row := tableKeepsRow, standIns := [], harness := (true, "f00d3a3b54b311500f09fe0e11769c241cf9ea7bcfb4d4ab9fd4905181bcc704"), looks := false }, kinds := [], alts := [], laidByText := true, laidKinds := [.data, .pinned], laidTests := true, laidLooks := .later }
def TableKeepsCardSaid : Prop := Claim7.holds Tryz.pinned (.plain (OpenSpec.ofChange tableKeepsSpec)) tableKeepsCard

/-- THE TIED CARD OF 'corveelaw14.TableRefuses'. -/
def tableRefusesCard : Claim7 := { stood := { row := tableRefusesRow, standIns := [], harness := (true, "f00d3a3b54b311500f09fe0e11769c241cf9ea7bcfb4d4ab9fd4905181bcc704"), looks := false }, kinds := [], alts := [], laidByText := true, laidKinds := [.data, .data, .data, .data, .pinned], laidTests := true, laidLooks := .later }
def TableRefusesCardSaid : Prop := Claim7.holds Tryz.pinned (.plain (OpenSpec.ofChange tableRefusesSpec)) tableRefusesCard

/-- THE TIED CARD OF 'corveelaw14.TableFull'. -/
def tableFullCard : Claim7 := { stood := { row := tableFullRow, standIns := [], harness := (true, "f00d3a3b54b311500f09fe0e11769c241cf9ea7bcfb4d4ab9fd4905181bcc704"), looks := false }, kinds := [], alts := [], laidByText := true, laidKinds := [.data, .data, .data, .data, .pinned], laidTests := true, laidLooks := .later }
def TableFullCardSaid : Prop := Claim7.holds Tryz.pinned (.plain (OpenSpec.ofChange tableFullSpec)) tableFullCard

/-- THE TIED CARD OF 'corveelaw14.TableBack'. -/
def tableBackCard : Claim7 := { stood := { row := tableBackRow, standIns := [], harness := (true, "f00d3a3b54b311500f09fe0e11769c241cf9ea7bcfb4d4ab9fd4905181bcc704"), looks := false }, kinds := [], alts := [], laidByText := true, laidKinds := [.data, .data, .data, .data, .pinned], laidTests := true, laidLooks := .later }
def TableBackCardSaid : Prop := Claim7.holds Tryz.pinned (.plain (OpenSpec.ofChange tableBackSpec)) tableBackCard

/-- THE TIED CARD OF 'corveelaw14.TableTakes'. -/
def tableTakesCard : Claim7 := { stood := { row := tableTakesRow, standIns := [], harness := (true, "f00d3a3b54b311500f09fe0e11769c241cf9ea7bcfb4d4ab9fd4905181bcc704"), looks := false }, kinds := [], alts := [], laidByText := true, laidKinds := [.data, .data, .data, .data, .pinned], laidTests := true, laidLooks := .later }
def TableTakesCardSaid : Prop := Claim7.holds Tryz.pinned (.plain (OpenSpec.ofChange tableTakesSpec)) tableTakesCard

/-- THE TIED CARD OF 'corveelaw14.TableNone'. -/
def tableNoneCard : Claim7 := { stood := { row := tableNoneRow, standIns := [], harness := (true, "f00d3a3b54b311500f09fe0e11769c241cf9ea7bcfb4d4ab9fd4905181bcc704"), looks := false }, kinds := [], alts := [], laidByText := true, laidKinds := [.data, .data, .data, .data, .pinned], laidTests := true, laidLooks := .later }
def TableNoneCardSaid : Prop := Claim7.holds Tryz.pinned (.plain (OpenSpec.ofChange tableNoneSpec)) tableNoneCard

/-- THE SECOND FORM's CARD OF 'corveelaw14.TableWaits'. -/
def tableWaitsUptoCard : Claim7 := { stood := { row := tableWaitsUptoRow, standIns := [], harness := (true, "f00d3a3b54b311500f09fe0e11769c241cf9ea7bcfb4d4ab9fd4905181bcc704"), looks := false }, kinds := [], alts := [], laidByText := true, laidKinds := [.data, .pinned], laidTests := true, laidLooks := .later }
def TableWaitsUptoCardSaid : Prop := Claim7.holds Tryz.pinned (.plain (OpenSpec.upto tableWaitsSpec)) tableWaitsUptoCard

/-- THE SECOND FORM's CARD OF 'corveelaw14.TableFits'. -/
def tableFitsUptoCard : Claim7 := { stood := { row := tableFitsUptoRow, standIns := [], harness := (true, "f00d3a3b54b311500f09fe0e11769c241cf9ea7bcfb4d4ab9fd4905181bcc704"), looks := false }, kinds := [], alts := [], laidByText := true, laidKinds := [.data, .pinned], laidTests := true, laidLooks := .later }
def TableFitsUptoCardSaid : Prop := Claim7.holds Tryz.pinned (.plain (OpenSpec.upto tableFitsSpec)) tableFitsUptoCard

/-- THE SECOND FORM's CARD OF 'corveelaw14.TableLives'. -/
def tableLivesUptoCard : Claim7 := { stood := { row := tableLivesUptoRow, standIns := [], harness := (true, "f00d3a3b54b311500f09fe0e11769c241cf9ea7bcfb4d4ab9fd4905181bcc704"), looks := false }, kinds := [], alts := [], laidByText := true, laidKinds := [.data, .pinned], laidTests := true, laidLooks := .later }
def TableLivesUptoCardSaid : Prop := Claim7.holds Tryz.pinned (.plain (OpenSpec.upto tableLivesSpec)) tableLivesUptoCard

/-- THE SECOND FORM's CARD OF 'corveelaw14.TableKeeps'. -/
def tableKeepsUptoCard : Claim7 := { stood := { row := tableKeepsUptoRow, standIns := [], harness := (true, "f00d3a3b54b311500f09fe0e11769c241cf9ea7bcfb4d4ab9fd4905181bcc704"), looks := false }, kinds := [], alts := [], laidByText := true, laidKinds := [.data, .pinned], laidTests := true, laidLooks := .later }
def TableKeepsUptoCardSaid : Prop := Claim7.holds Tryz.pinned (.plain (OpenSpec.upto tableKeepsSpec)) tableKeepsUptoCard

/-- THE SECOND FORM's CARD OF 'corveelaw14.TableRefuses'. -/
def tableRefusesUptoCard : Claim7 := { stood := { row := tableRefusesUptoRow, standIns := [], harness := (true, "f00d3a3b54b311500f09fe0e11769c241cf9ea7bcfb4d4ab9fd4905181bcc704"), looks := false }, kinds := [], alts := [], laidByText := true, laidKinds := [.data, .data, .data, .data, .pinned], laidTests := true, laidLooks := .later }
def TableRefusesUptoCardSaid : Prop := Claim7.holds Tryz.pinned (.plain (OpenSpec.upto tableRefusesSpec)) tableRefusesUptoCard

/-- THE SECOND FORM's CARD OF 'corveelaw14.TableFull'. -/
def tableFullUptoCard : Claim7 := { stood := { row := tableFullUptoRow, standIns := [], harness := (true, "f00d3a3b54b311500f09fe0e11769c241cf9ea7bcfb4d4ab9fd4905181bcc704"), looks := false }, kinds := [], alts := [], laidByText := true, laidKinds := [.data, .data, .data, .data, .pinned], laidTests := true, laidLooks := .later }
def TableFullUptoCardSaid : Prop := Claim7.holds Tryz.pinned (.plain (OpenSpec.upto tableFullSpec)) tableFullUptoCard

/-- THE SECOND FORM's CARD OF 'corveelaw14.TableBack'. -/
def tableBackUptoCard : Claim7 := { stood := { row := tableBackUptoRow, standIns := [], harness := (true, "f00d3a3b54b311500f09fe0e11769c241cf9ea7bcfb4d4ab9fd4905181bcc704"), looks := false }, kinds := [], alts := [], laidByText := true, laidKinds := [.data, .data, .data, .data, .pinned], laidTests := true, laidLooks := .later }
def TableBackUptoCardSaid : Prop := Claim7.holds Tryz.pinned (.plain (OpenSpec.upto tableBackSpec)) tableBackUptoCard

/-- THE SECOND FORM's CARD OF 'corveelaw14.TableTakes'. -/
def tableTakesUptoCard : Claim7 := { stood := { row := tableTakesUptoRow, standIns := [], harness := (true, "f00d3a3b54b311500f09fe0e11769c241cf9ea7bcfb4d4ab9fd4905181bcc704"), looks := false }, kinds := [], alts := [], laidByText := true, laidKinds := [.data, .data, .data, .data, .pinned], laidTests := true, laidLooks := .later }
def TableTakesUptoCardSaid : Prop := Claim7.holds Tryz.pinned (.plain (OpenSpec.upto tableTakesSpec)) tableTakesUptoCard

/-- THE SECOND FORM's CARD OF 'corveelaw14.TableNone'. -/
def tableNoneUptoCard : Claim7 := { stood := { row := tableNoneUptoRow, standIns := [], harness := (true, "f00d3a3b54b311500f09fe0e11769c241cf9ea7bcfb4d4ab9fd4905181bcc704"), looks := false }, kinds := [], alts := [], laidByText := true, laidKinds := [.data, .data, .data, .data, .pinned], laidTests := true, laidLooks := .later }
def TableNoneUptoCardSaid : Prop := Claim7.holds Tryz.pinned (.plain (OpenSpec.upto tableNoneSpec)) tableNoneUptoCard
end Rows
end Go.Proofs.YtimlcnhcjndijaaGreatDoor
