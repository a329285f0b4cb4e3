/-
  No cell of these rows narrows 'for every input' (looked for: loops, veiled, ifaces, maps, wideKeys, modest, calm, conditions, laid).
  DERIVED. THE GIVEN ROWS OF THIS SEAT. 16 by the template 'for every input the law returns true; each argument reads behind the call as it read before'; 0 by the template 'total and deterministic' (their statements: YtpjajiambbobhaaTotals.lean).
  GIVEN WITH THE SEED: the statements are not yours to turn. If you find one false, say at which input.
  Laid BY PROGRAM, IN A SANDBOX (cutbox-rows.mjs): the forced cells as the released guide's own fill.sh prints them over the translation 42fa28f7d57a6e38… (all of the seat's roots in one cut). By AI agents, Wed Nov 11 2026. No macro, syntax, notation, axiom, sorry.
-/
import Derived.Test.YtpjajiambbobhaaChecked
import GoSem.Claim
import GoSem.ClaimJoined
import GoSem.ClaimMapViews
import Derived.JoinedTies
import Derived.KernelRfl
namespace Go.Proofs.Ytpjajiambbobhaa
/- THE CELL 'sum', in the pinned program and in every row, IS THE sha256 OF THE DUMP (.gsa) THAT YtpjajiambbobhaaProg.lean LOADS. Nothing in Lean hashes anything: it is a label: what it is worth is what the hold of that sum in a sandbox is worth. -/
noncomputable def Try.pinned : Pinned := { name := "ytpjajiambbobhaa", sum := "42fa28f7d57a6e38d6ef503b7a4662de851a6a1b925434f54f772bcb576fb54d", checked := Try.checked }
namespace Rows
def none {H : Type} : Left H := { results := [], args := [] }

/-- 'corveelaw06.ProfileBack': WHATEVER THE INPUT: true; the input reads as it did. -/
def profileBackSpec : ChangeSpec := { name := "profileBack", fn := fun _ => fun
  | [d1, d2, d3] => { results := [.lit (.bool true)], args := [d1, d2, d3] }
  | _ => none }
def profileBackRow : OpenClaim := { program := "ytpjajiambbobhaa", sum := "42fa28f7d57a6e38d6ef503b7a4662de851a6a1b925434f54f772bcb576fb54d", func := "corvee/corveelaw06.ProfileBack", spec := "profileBack", unfollowed := true, recurses := true, apart := false }
def ProfileBackSaid : Prop := profileBackRow.holds Try.pinned (OpenSpec.ofChange profileBackSpec)

/-- ITS FALSE NEIGHBOUR: 'it returns false'. Refute it at one input. -/
def profileBackWrong : ChangeSpec := { name := "profileBack", fn := fun _ => fun
  | [d1, d2, d3] => { results := [.lit (.bool false)], args := [d1, d2, d3] }
  | _ => none }
def ProfileBackWrongFalsely : Prop := profileBackRow.holds Try.pinned (OpenSpec.ofChange profileBackWrong)

/-- 'corveelaw06.ProfileEarliest': WHATEVER THE INPUT: true; the input reads as it did. -/
def profileEarliestSpec : ChangeSpec := { name := "profileEarliest", fn := fun _ => fun
  | [d1, d2, d3] => { results := [.lit (.bool true)], args := [d1, d2, d3] }
  | _ => none }
def profileEarliestRow : OpenClaim := { program := "ytpjajiambbobhaa", sum := "42fa28f7d57a6e38d6ef503b7a4662de851a6a1b925434f54f772bcb576fb54d", func := "corvee/corveelaw06.ProfileEarliest", spec := "profileEarliest", unfollowed := true, recurses := true, apart := false }
def ProfileEarliestSaid : Prop := profileEarliestRow.holds Try.pinned (OpenSpec.ofChange profileEarliestSpec)

/-- ITS FALSE NEIGHBOUR: 'it returns false'. Refute it at one input. -/
def profileEarliestWrong : ChangeSpec := { name := "profileEarliest", fn := fun _ => fun
  | [d1, d2, d3] => { results := [.lit (.bool false)], args := [d1, d2, d3] }
  | _ => none }
def ProfileEarliestWrongFalsely : Prop := profileEarliestRow.holds Try.pinned (OpenSpec.ofChange profileEarliestWrong)

/-- 'corveelaw06.ProfileGives': WHATEVER THE INPUT: true; the input reads as it did. -/
def profileGivesSpec : ChangeSpec := { name := "profileGives", fn := fun _ => fun
  | [d1, d2, d3] => { results := [.lit (.bool true)], args := [d1, d2, d3] }
  | _ => none }
def profileGivesRow : OpenClaim := { program := "ytpjajiambbobhaa", sum := "42fa28f7d57a6e38d6ef503b7a4662de851a6a1b925434f54f772bcb576fb54d", func := "corvee/corveelaw06.ProfileGives", spec := "profileGives", unfollowed := true, recurses := true, apart := false }
def ProfileGivesSaid : Prop := profileGivesRow.holds Try.pinned (OpenSpec.ofChange profileGivesSpec)

/-- ITS FALSE NEIGHBOUR: 'it returns false'. Refute it at one input. -/
def profileGivesWrong : ChangeSpec := { name := "profileGives", fn := fun _ => fun
  | [d1, d2, d3] => { results := [.lit (.bool false)], args := [d1, d2, d3] }
  | _ => none }
def ProfileGivesWrongFalsely : Prop := profileGivesRow.holds Try.pinned (OpenSpec.ofChange profileGivesWrong)

/-- 'corveelaw06.ProfileNone': WHATEVER THE INPUT: true; the input reads as it did. -/
def profileNoneSpec : ChangeSpec := { name := "profileNone", fn := fun _ => fun
  | [d1, d2, d3] => { results := [.lit (.bool true)], args := [d1, d2, d3] }
  | _ => none }
def profileNoneRow : OpenClaim := { program := "ytpjajiambbobhaa", sum := "42fa28f7d57a6e38d6ef503b7a4662de851a6a1b925434f54f772bcb576fb54d", func := "corvee/corveelaw06.ProfileNone", spec := "profileNone", unfollowed := true, recurses := true, apart := false }
def ProfileNoneSaid : Prop := profileNoneRow.holds Try.pinned (OpenSpec.ofChange profileNoneSpec)

/-- ITS FALSE NEIGHBOUR: 'it returns false'. Refute it at one input. -/
def profileNoneWrong : ChangeSpec := { name := "profileNone", fn := fun _ => fun
  | [d1, d2, d3] => { results := [.lit (.bool false)], args := [d1, d2, d3] }
  | _ => none }
def ProfileNoneWrongFalsely : Prop := profileNoneRow.holds Try.pinned (OpenSpec.ofChange profileNoneWrong)

/-- 'corveelaw07.GangOne': WHATEVER THE INPUT: true; the input reads as it did. -/
def gangOneSpec : ChangeSpec := { name := "gangOne", fn := fun _ => fun
  | [d1, d2, d3] => { results := [.lit (.bool true)], args := [d1, d2, d3] }
  | _ => none }
def gangOneRow : OpenClaim := { program := "ytpjajiambbobhaa", sum := "42fa28f7d57a6e38d6ef503b7a4662de851a6a1b925434f54f772bcb576fb54d", func := "corvee/corveelaw07.GangOne", spec := "gangOne", unfollowed := true, recurses := true, apart := false }
def GangOneSaid : Prop := gangOneRow.holds Try.pinned (OpenSpec.ofChange gangOneSpec)

/-- ITS FALSE NEIGHBOUR: 'it returns false'. Refute it at one input. -/
def gangOneWrong : ChangeSpec := { name := "gangOne", fn := fun _ => fun
  | [d1, d2, d3] => { results := [.lit (.bool false)], args := [d1, d2, d3] }
  | _ => none }
def GangOneWrongFalsely : Prop := gangOneRow.holds Try.pinned (OpenSpec.ofChange gangOneWrong)

/-- 'corveelaw07.GangMore': WHATEVER THE INPUT: true; the input reads as it did. -/
def gangMoreSpec : ChangeSpec := { name := "gangMore", fn := fun _ => fun
  | [d1, d2, d3] => { results := [.lit (.bool true)], args := [d1, d2, d3] }
  | _ => none }
def gangMoreRow : OpenClaim := { program := "ytpjajiambbobhaa", sum := "42fa28f7d57a6e38d6ef503b7a4662de851a6a1b925434f54f772bcb576fb54d", func := "corvee/corveelaw07.GangMore", spec := "gangMore", unfollowed := true, recurses := true, apart := false }
def GangMoreSaid : Prop := gangMoreRow.holds Try.pinned (OpenSpec.ofChange gangMoreSpec)

/-- ITS FALSE NEIGHBOUR: 'it returns false'. Refute it at one input. -/
def gangMoreWrong : ChangeSpec := { name := "gangMore", fn := fun _ => fun
  | [d1, d2, d3] => { results := [.lit (.bool false)], args := [d1, d2, d3] }
  | _ => none }
def GangMoreWrongFalsely : Prop := gangMoreRow.holds Try.pinned (OpenSpec.ofChange gangMoreWrong)

/-- 'corveelaw07.GangTakes': WHATEVER THE INPUT: true; the input reads as it did. -/
def gangTakesSpec : ChangeSpec := { name := "gangTakes", fn := fun _ => fun
  | [d1, d2, d3] => { results := [.lit (.bool true)], args := [d1, d2, d3] }
  | _ => none }
def gangTakesRow : OpenClaim := { program := "ytpjajiambbobhaa", sum := "42fa28f7d57a6e38d6ef503b7a4662de851a6a1b925434f54f772bcb576fb54d", func := "corvee/corveelaw07.GangTakes", spec := "gangTakes", unfollowed := true, recurses := true, apart := false }
def GangTakesSaid : Prop := gangTakesRow.holds Try.pinned (OpenSpec.ofChange gangTakesSpec)

/-- ITS FALSE NEIGHBOUR: 'it returns false'. Refute it at one input. -/
def gangTakesWrong : ChangeSpec := { name := "gangTakes", fn := fun _ => fun
  | [d1, d2, d3] => { results := [.lit (.bool false)], args := [d1, d2, d3] }
  | _ => none }
def GangTakesWrongFalsely : Prop := gangTakesRow.holds Try.pinned (OpenSpec.ofChange gangTakesWrong)

/-- 'corveelaw07.GangFirst': WHATEVER THE INPUT: true; the input reads as it did. -/
def gangFirstSpec : ChangeSpec := { name := "gangFirst", fn := fun _ => fun
  | [d1, d2, d3] => { results := [.lit (.bool true)], args := [d1, d2, d3] }
  | _ => none }
def gangFirstRow : OpenClaim := { program := "ytpjajiambbobhaa", sum := "42fa28f7d57a6e38d6ef503b7a4662de851a6a1b925434f54f772bcb576fb54d", func := "corvee/corveelaw07.GangFirst", spec := "gangFirst", unfollowed := true, recurses := true, apart := false }
def GangFirstSaid : Prop := gangFirstRow.holds Try.pinned (OpenSpec.ofChange gangFirstSpec)

/-- ITS FALSE NEIGHBOUR: 'it returns false'. Refute it at one input. -/
def gangFirstWrong : ChangeSpec := { name := "gangFirst", fn := fun _ => fun
  | [d1, d2, d3] => { results := [.lit (.bool false)], args := [d1, d2, d3] }
  | _ => none }
def GangFirstWrongFalsely : Prop := gangFirstRow.holds Try.pinned (OpenSpec.ofChange gangFirstWrong)

/-- 'corveelaw07.GangPlays': WHATEVER THE INPUT: true; the input reads as it did. -/
def gangPlaysSpec : ChangeSpec := { name := "gangPlays", fn := fun _ => fun
  | [d1, d2] => { results := [.lit (.bool true)], args := [d1, d2] }
  | _ => none }
def gangPlaysRow : OpenClaim := { program := "ytpjajiambbobhaa", sum := "42fa28f7d57a6e38d6ef503b7a4662de851a6a1b925434f54f772bcb576fb54d", func := "corvee/corveelaw07.GangPlays", spec := "gangPlays", unfollowed := true, recurses := true, apart := false }
def GangPlaysSaid : Prop := gangPlaysRow.holds Try.pinned (OpenSpec.ofChange gangPlaysSpec)

/-- ITS FALSE NEIGHBOUR: 'it returns false'. Refute it at one input. -/
def gangPlaysWrong : ChangeSpec := { name := "gangPlays", fn := fun _ => fun
  | [d1, d2] => { results := [.lit (.bool false)], args := [d1, d2] }
  | _ => none }
def GangPlaysWrongFalsely : Prop := gangPlaysRow.holds Try.pinned (OpenSpec.ofChange gangPlaysWrong)

/-- 'corveelaw07.GangNone': WHATEVER THE INPUT: true; the input reads as it did. -/
def gangNoneSpec : ChangeSpec := { name := "gangNone", fn := fun _ => fun
  | [d] => { results := [.lit (.bool true)], args := [d] }
  | _ => none }
def gangNoneRow : OpenClaim := { program := "ytpjajiambbobhaa", sum := "42fa28f7d57a6e38d6ef503b7a4662de851a6a1b925434f54f772bcb576fb54d", func := "corvee/corveelaw07.GangNone", spec := "gangNone", unfollowed := true, recurses := true, apart := false }
def GangNoneSaid : Prop := gangNoneRow.holds Try.pinned (OpenSpec.ofChange gangNoneSpec)

/-- ITS FALSE NEIGHBOUR: 'it returns false'. Refute it at one input. -/
def gangNoneWrong : ChangeSpec := { name := "gangNone", fn := fun _ => fun
  | [d] => { results := [.lit (.bool false)], args := [d] }
  | _ => none }
def GangNoneWrongFalsely : Prop := gangNoneRow.holds Try.pinned (OpenSpec.ofChange gangNoneWrong)

/-- 'corveelaw12.PlanPasses': WHATEVER THE INPUT: true; the input reads as it did. -/
def planPassesSpec : ChangeSpec := { name := "planPasses", fn := fun _ => fun
  | [d] => { results := [.lit (.bool true)], args := [d] }
  | _ => none }
def planPassesRow : OpenClaim := { program := "ytpjajiambbobhaa", sum := "42fa28f7d57a6e38d6ef503b7a4662de851a6a1b925434f54f772bcb576fb54d", func := "corvee/corveelaw12.PlanPasses", spec := "planPasses", unfollowed := true, recurses := true, apart := false }
def PlanPassesSaid : Prop := planPassesRow.holds Try.pinned (OpenSpec.ofChange planPassesSpec)

/-- ITS FALSE NEIGHBOUR: 'it returns false'. Refute it at one input. -/
def planPassesWrong : ChangeSpec := { name := "planPasses", fn := fun _ => fun
  | [d] => { results := [.lit (.bool false)], args := [d] }
  | _ => none }
def PlanPassesWrongFalsely : Prop := planPassesRow.holds Try.pinned (OpenSpec.ofChange planPassesWrong)

/-- 'corveelaw12.PlanKeeps': WHATEVER THE INPUT: true; the input reads as it did. -/
def planKeepsSpec : ChangeSpec := { name := "planKeeps", fn := fun _ => fun
  | [d1, d2] => { results := [.lit (.bool true)], args := [d1, d2] }
  | _ => none }
def planKeepsRow : OpenClaim := { program := "ytpjajiambbobhaa", sum := "42fa28f7d57a6e38d6ef503b7a4662de851a6a1b925434f54f772bcb576fb54d", func := "corvee/corveelaw12.PlanKeeps", spec := "planKeeps", unfollowed := true, recurses := true, apart := false }
def PlanKeepsSaid : Prop := planKeepsRow.holds Try.pinned (OpenSpec.ofChange planKeepsSpec)

/-- ITS FALSE NEIGHBOUR: 'it returns false'. Refute it at one input. -/
def planKeepsWrong : ChangeSpec := { name := "planKeeps", fn := fun _ => fun
  | [d1, d2] => { results := [.lit (.bool false)], args := [d1, d2] }
  | _ => none }
def PlanKeepsWrongFalsely : Prop := planKeepsRow.holds Try.pinned (OpenSpec.ofChange planKeepsWrong)

/-- 'corveelaw12.PlanEarly': WHATEVER THE INPUT: true; the input reads as it did. -/
def planEarlySpec : ChangeSpec := { name := "planEarly", fn := fun _ => fun
  | [d] => { results := [.lit (.bool true)], args := [d] }
  | _ => none }
def planEarlyRow : OpenClaim := { program := "ytpjajiambbobhaa", sum := "42fa28f7d57a6e38d6ef503b7a4662de851a6a1b925434f54f772bcb576fb54d", func := "corvee/corveelaw12.PlanEarly", spec := "planEarly", unfollowed := true, recurses := true, apart := false }
def PlanEarlySaid : Prop := planEarlyRow.holds Try.pinned (OpenSpec.ofChange planEarlySpec)

/-- ITS FALSE NEIGHBOUR: 'it returns false'. Refute it at one input. -/
def planEarlyWrong : ChangeSpec := { name := "planEarly", fn := fun _ => fun
  | [d] => { results := [.lit (.bool false)], args := [d] }
  | _ => none }
def PlanEarlyWrongFalsely : Prop := planEarlyRow.holds Try.pinned (OpenSpec.ofChange planEarlyWrong)

/-- 'corveelaw12.PlanDown': WHATEVER THE INPUT: true; the input reads as it did. -/
def planDownSpec : ChangeSpec := { name := "planDown", fn := fun _ => fun
  | [d1, d2] => { results := [.lit (.bool true)], args := [d1, d2] }
  | _ => none }
def planDownRow : OpenClaim := { program := "ytpjajiambbobhaa", sum := "42fa28f7d57a6e38d6ef503b7a4662de851a6a1b925434f54f772bcb576fb54d", func := "corvee/corveelaw12.PlanDown", spec := "planDown", unfollowed := true, recurses := true, apart := false }
def PlanDownSaid : Prop := planDownRow.holds Try.pinned (OpenSpec.ofChange planDownSpec)

/-- ITS FALSE NEIGHBOUR: 'it returns false'. Refute it at one input. -/
def planDownWrong : ChangeSpec := { name := "planDown", fn := fun _ => fun
  | [d1, d2] => { results := [.lit (.bool false)], args := [d1, d2] }
  | _ => none }
def PlanDownWrongFalsely : Prop := planDownRow.holds Try.pinned (OpenSpec.ofChange planDownWrong)

/-- 'corveelaw12.PlanMay': WHATEVER THE INPUT: true; the input reads as it did. -/
def planMaySpec : ChangeSpec := { name := "planMay", fn := fun _ => fun
  | [d1, d2] => { results := [.lit (.bool true)], args := [d1, d2] }
  | _ => none }
def planMayRow : OpenClaim := { program := "ytpjajiambbobhaa", sum := "42fa28f7d57a6e38d6ef503b7a4662de851a6a1b925434f54f772bcb576fb54d", func := "corvee/corveelaw12.PlanMay", spec := "planMay", unfollowed := true, recurses := true, apart := false }
def PlanMaySaid : Prop := planMayRow.holds Try.pinned (OpenSpec.ofChange planMaySpec)

/-- ITS FALSE NEIGHBOUR: 'it returns false'. Refute it at one input. -/
def planMayWrong : ChangeSpec := { name := "planMay", fn := fun _ => fun
  | [d1, d2] => { results := [.lit (.bool false)], args := [d1, d2] }
  | _ => none }
def PlanMayWrongFalsely : Prop := planMayRow.holds Try.pinned (OpenSpec.ofChange planMayWrong)

/-- 'corveelaw12.PlanFits': WHATEVER THE INPUT: true; the input reads as it did. -/
def planFitsSpec : ChangeSpec := { name := "planFits", fn := fun _ => fun
  | [d] => { results := [.lit (.bool true)], args := [d] }
  | _ => none }
def planFitsRow : OpenClaim := { program := "ytpjajiambbobhaa", sum := "42fa28f7d57a6e38d6ef503b7a4662de851a6a1b925434f54f772bcb576fb54d", func := "corvee/corveelaw12.PlanFits", spec := "planFits", unfollowed := true, recurses := true, apart := false }
def PlanFitsSaid : Prop := planFitsRow.holds Try.pinned (OpenSpec.ofChange planFitsSpec)

/-- ITS FALSE NEIGHBOUR: 'it returns false'. Refute it at one input. -/
def planFitsWrong : ChangeSpec := { name := "planFits", fn := fun _ => fun
  | [d] => { results := [.lit (.bool false)], args := [d] }
  | _ => none }
def PlanFitsWrongFalsely : Prop := planFitsRow.holds Try.pinned (OpenSpec.ofChange planFitsWrong)

/- THE SECOND FORM. 'bulk': how many values and letters a reading holds, each counted each time it is reached (what is shared counts as often as it is met; a slice's spare places count too). A statement '..UptoSaid' is the law's where the arguments, and the package variables that the reading takes, are together of bulk at most 1048576: NARROWER than '..Said'. Prove '..Said' where nothing that the law and all that it calls make is longer than what came in: it says more and counts as full. Else prove '..UptoSaid'. A law counts once. -/
mutual
def uptoBulk {H : Type} : DataW H → Nat
  | .lit (.string bytes) => bytes.length + 1
  | .lit _ => 1
  | .nil => 1
  | .ptr d => uptoBulk d + 1
  | .slice elems spare => uptoBulkAll elems + uptoBulkAll spare + 1
  | .agg parts => uptoBulkAll parts + 1
  | .iface _ d => uptoBulk d + 1
  | .map entries => uptoBulkEntries entries + 1
  | .held _ => 1
def uptoBulkAll {H : Type} : List (DataW H) → Nat
  | [] => 0
  | d :: r => uptoBulk d + uptoBulkAll r
def uptoBulkEntries {H : Type} : List (Lit × DataW H) → Nat
  | [] => 0
  | x :: r => uptoBulkEntry x + uptoBulkEntries r
def uptoBulkEntry {H : Type} : Lit × DataW H → Nat
  | (.string bytes, d) => bytes.length + uptoBulk d + 1
  | (_, d) => uptoBulk d + 1
 end
def uptoSmall : (H : Type) → List (DataW H) → Bool := fun _ ds => decide (uptoBulkAll ds ≤ 1048576)
def OpenSpec.upto (s : _root_.Go.ChangeSpec) : _root_.Go.OpenSpec := { _root_.Go.OpenSpec.ofChange s with cond := some uptoSmall }

/-- 'corveelaw06.ProfileBack', WHERE WHAT IT READS IS OF BULK AT MOST 1048576: true; the input reads as it did. -/
def profileBackUptoRow : OpenClaim := { program := "ytpjajiambbobhaa", sum := "42fa28f7d57a6e38d6ef503b7a4662de851a6a1b925434f54f772bcb576fb54d", func := "corvee/corveelaw06.ProfileBack", spec := "profileBack", unfollowed := true, recurses := true, apart := false, narrowed := true }
def ProfileBackUptoSaid : Prop := profileBackUptoRow.holds Try.pinned (OpenSpec.upto profileBackSpec)

/-- 'corveelaw06.ProfileEarliest', WHERE WHAT IT READS IS OF BULK AT MOST 1048576: true; the input reads as it did. -/
def profileEarliestUptoRow : OpenClaim := { program := "ytpjajiambbobhaa", sum := "42fa28f7d57a6e38d6ef503b7a4662de851a6a1b925434f54f772bcb576fb54d", func := "corvee/corveelaw06.ProfileEarliest", spec := "profileEarliest", unfollowed := true, recurses := true, apart := false, narrowed := true }
def ProfileEarliestUptoSaid : Prop := profileEarliestUptoRow.holds Try.pinned (OpenSpec.upto profileEarliestSpec)

/-- 'corveelaw06.ProfileGives', WHERE WHAT IT READS IS OF BULK AT MOST 1048576: true; the input reads as it did. -/
def profileGivesUptoRow : OpenClaim := { program := "ytpjajiambbobhaa", sum := "42fa28f7d57a6e38d6ef503b7a4662de851a6a1b925434f54f772bcb576fb54d", func := "corvee/corveelaw06.ProfileGives", spec := "profileGives", unfollowed := true, recurses := true, apart := false, narrowed := true }
def ProfileGivesUptoSaid : Prop := profileGivesUptoRow.holds Try.pinned (OpenSpec.upto profileGivesSpec)

/-- 'corveelaw06.ProfileNone', WHERE WHAT IT READS IS OF BULK AT MOST 1048576: true; the input reads as it did. -/
def profileNoneUptoRow : OpenClaim := { program := "ytpjajiambbobhaa", sum := "42fa28f7d57a6e38d6ef503b7a4662de851a6a1b925434f54f772bcb576fb54d", func := "corvee/corveelaw06.ProfileNone", spec := "profileNone", unfollowed := true, recurses := true, apart := false, narrowed := true }
def ProfileNoneUptoSaid : Prop := profileNoneUptoRow.holds Try.pinned (OpenSpec.upto profileNoneSpec)

/-- 'corveelaw07.GangOne', WHERE WHAT IT READS IS OF BULK AT MOST 1048576: true; the input reads as it did. -/
def gangOneUptoRow : OpenClaim := { program := "ytpjajiambbobhaa", sum := "42fa28f7d57a6e38d6ef503b7a4662de851a6a1b925434f54f772bcb576fb54d", func := "corvee/corveelaw07.GangOne", spec := "gangOne", unfollowed := true, recurses := true, apart := false, narrowed := true }
def GangOneUptoSaid : Prop := gangOneUptoRow.holds Try.pinned (OpenSpec.upto gangOneSpec)

/-- 'corveelaw07.GangMore', WHERE WHAT IT READS IS OF BULK AT MOST 1048576: true; the input reads as it did. -/
def gangMoreUptoRow : OpenClaim := { program := "ytpjajiambbobhaa", sum := "42fa28f7d57a6e38d6ef503b7a4662de851a6a1b925434f54f772bcb576fb54d", func := "corvee/corveelaw07.GangMore", spec := "gangMore", unfollowed := true, recurses := true, apart := false, narrowed := true }
def GangMoreUptoSaid : Prop := gangMoreUptoRow.holds Try.pinned (OpenSpec.upto gangMoreSpec)

/-- 'corveelaw07.GangTakes', WHERE WHAT IT READS IS OF BULK AT MOST 1048576: true; the input reads as it did. -/
def gangTakesUptoRow : OpenClaim := { program := "ytpjajiambbobhaa", sum := "42fa28f7d57a6e38d6ef503b7a4662de851a6a1b925434f54f772bcb576fb54d", func := "corvee/corveelaw07.GangTakes", spec := "gangTakes", unfollowed := true, recurses := true, apart := false, narrowed := true }
def GangTakesUptoSaid : Prop := gangTakesUptoRow.holds Try.pinned (OpenSpec.upto gangTakesSpec)

/-- 'corveelaw07.GangFirst', WHERE WHAT IT READS IS OF BULK AT MOST 1048576: true; the input reads as it did. -/
def gangFirstUptoRow : OpenClaim := { program := "ytpjajiambbobhaa", sum := "42fa28f7d57a6e38d6ef503b7a4662de851a6a1b925434f54f772bcb576fb54d", func := "corvee/corveelaw07.GangFirst", spec := "gangFirst", unfollowed := true, recurses := true, apart := false, narrowed := true }
def GangFirstUptoSaid : Prop := gangFirstUptoRow.holds Try.pinned (OpenSpec.upto gangFirstSpec)

/-- 'corveelaw07.GangPlays', WHERE WHAT IT READS IS OF BULK AT MOST 1048576: true; the input reads as it did. -/
def gangPlaysUptoRow : OpenClaim := { program := "ytpjajiambbobhaa", sum := "42fa28f7d57a6e38d6ef503b7a4662de851a6a1b925434f54f772bcb576fb54d", func := "corvee/corveelaw07.GangPlays", spec := "gangPlays", unfollowed := true, recurses := true, apart := false, narrowed := true }
def GangPlaysUptoSaid : Prop := gangPlaysUptoRow.holds Try.pinned (OpenSpec.upto gangPlaysSpec)

/-- 'corveelaw07.GangNone', WHERE WHAT IT READS IS OF BULK AT MOST 1048576: true; the input reads as it did. -/
def gangNoneUptoRow : OpenClaim := { program := "ytpjajiambbobhaa", sum := "42fa28f7d57a6e38d6ef503b7a4662de851a6a1b925434f54f772bcb576fb54d", func := "corvee/corveelaw07.GangNone", spec := "gangNone", unfollowed := true, recurses := true, apart := false, narrowed := true }
def GangNoneUptoSaid : Prop := gangNoneUptoRow.holds Try.pinned (OpenSpec.upto gangNoneSpec)

/-- 'corveelaw12.PlanPasses', WHERE WHAT IT READS IS OF BULK AT MOST 1048576: true; the input reads as it did. -/
def planPassesUptoRow : OpenClaim := { program := "ytpjajiambbobhaa", sum := "42fa28f7d57a6e38d6ef503b7a4662de851a6a1b925434f54f772bcb576fb54d", func := "corvee/corveelaw12.PlanPasses", spec := "planPasses", unfollowed := true, recurses := true, apart := false, narrowed := true }
def PlanPassesUptoSaid : Prop := planPassesUptoRow.holds Try.pinned (OpenSpec.upto planPassesSpec)

/-- 'corveelaw12.PlanKeeps', WHERE WHAT IT READS IS OF BULK AT MOST 1048576: true; the input reads as it did. -/
def planKeepsUptoRow : OpenClaim := { program := "ytpjajiambbobhaa", sum := "42fa28f7d57a6e38d6ef503b7a4662de851a6a1b925434f54f772bcb576fb54d", func := "corvee/corveelaw12.PlanKeeps", spec := "planKeeps", unfollowed := true, recurses := true, apart := false, narrowed := true }
def PlanKeepsUptoSaid : Prop := planKeepsUptoRow.holds Try.pinned (OpenSpec.upto planKeepsSpec)

/-- 'corveelaw12.PlanEarly', WHERE WHAT IT READS IS OF BULK AT MOST 1048576: true; the input reads as it did. -/
def planEarlyUptoRow : OpenClaim := { program := "ytpjajiambbobhaa", sum := "42fa28f7d57a6e38d6ef503b7a4662de851a6a1b925434f54f772bcb576fb54d", func := "corvee/corveelaw12.PlanEarly", spec := "planEarly", unfollowed := true, recurses := true, apart := false, narrowed := true }
def PlanEarlyUptoSaid : Prop := planEarlyUptoRow.holds Try.pinned (OpenSpec.upto planEarlySpec)

/-- 'corveelaw12.PlanDown', WHERE WHAT IT READS IS OF BULK AT MOST 1048576: true; the input reads as it did. -/
def planDownUptoRow : OpenClaim := { program := "ytpjajiambbobhaa", sum := "42fa28f7d57a6e38d6ef503b7a4662de851a6a1b925434f54f772bcb576fb54d", func := "corvee/corveelaw12.PlanDown", spec := "planDown", unfollowed := true, recurses := true, apart := false, narrowed := true }
def PlanDownUptoSaid : Prop := planDownUptoRow.holds Try.pinned (OpenSpec.upto planDownSpec)

/-- 'corveelaw12.PlanMay', WHERE WHAT IT READS IS OF BULK AT MOST 1048576: true; the input reads as it did. -/
def planMayUptoRow : OpenClaim := { program := "ytpjajiambbobhaa", sum := "42fa28f7d57a6e38d6ef503b7a4662de851a6a1b925434f54f772bcb576fb54d", func := "corvee/corveelaw12.PlanMay", spec := "planMay", unfollowed := true, recurses := true, apart := false, narrowed := true }
def PlanMayUptoSaid : Prop := planMayUptoRow.holds Try.pinned (OpenSpec.upto planMaySpec)

/-- 'corveelaw12.PlanFits', WHERE WHAT IT READS IS OF BULK AT MOST 1048576: true; the input reads as it did. -/
def planFitsUptoRow : OpenClaim := { program := "ytpjajiambbobhaa", sum := "42fa28f7d57a6e38d6ef503b7a4662de851a6a1b925434f54f772bcb576fb54d", func := "corvee/corveelaw12.PlanFits", spec := "planFits", unfollowed := true, recurses := true, apart := false, narrowed := true }
def PlanFitsUptoSaid : Prop := planFitsUptoRow.holds Try.pinned (OpenSpec.upto planFitsSpec)

end Rows
end Go.Proofs.Ytpjajiambbobhaa
