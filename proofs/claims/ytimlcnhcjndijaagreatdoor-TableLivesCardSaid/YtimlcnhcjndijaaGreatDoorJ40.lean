/- Parts of a proof. No condition. -/
import Derived.Test.YtimlcnhcjndijaaGreatDoorJ13
set_option linter.all false
set_option maxRecDepth 100000
set_option maxHeartbeats 1600000
namespace Go.Proofs.YtimlcnhcjndijaaGreatDoor
open Option renaming some->O,none->I
open Go.Proofs.Tryz
section
open Go.ChangeShapes Go.WideShapes Go.ChangeAt Go.RowKit Go.ChangeMaps
def A20:Rows.tableLivesRow.wf (OpenSpec.ofChange Rows.tableLivesSpec)=true:=by kernel_rfl
def A21:f5.params.all (Tryz.pinned.checked.prog.readableRec ·)=true:=by kernel_rfl
def A22:namedTie Tryz.pinned.checked.prog Rows.tableLivesRow.named Rows.tableLivesSpec.vars=true:=by kernel_rfl
def A23:(Rows.tableLivesRow.stops == [])=true:=by kernel_rfl
def A24:(Rows.tableLivesRow.knobs == [])=true:=by kernel_rfl
def A25:(Rows.tableLivesRow.inPlace == Tryz.pinned.checked.prog.inPlace 5)=true:=by kernel_rfl
def A26:(Rows.tableLivesRow.unfollowed == Tryz.pinned.checked.prog.unfollowed 5)=true:=by kernel_rfl
def A27:(Rows.tableLivesRow.recurses == Tryz.pinned.checked.prog.recurses 5)=true:=by kernel_rfl
def A28:(Rows.tableLivesRow.named == Tryz.pinned.checked.prog.varsNamed 5)=true:=by kernel_rfl
def A29:(Rows.tableLivesRow.maps == (f5.params.toList++Rows.tableLivesSpec.plain.varTypes Tryz.pinned.checked.prog).any (Tryz.pinned.checked.prog.mapsRec ·))=true:=by kernel_rfl
def A3a:(Rows.tableLivesRow.ifaces == (f5.params.toList++Rows.tableLivesSpec.plain.varTypes Tryz.pinned.checked.prog).any (Tryz.pinned.checked.prog.ifacesRec ·))=true:=by kernel_rfl
def A3b:(Rows.tableLivesRow.mapsOut == Tryz.pinned.checked.prog.mapsAmong f5.resultTypes.toList)=true:=by kernel_rfl
def A3c:(Rows.tableLivesRow.loops == (f5.params.toList++Rows.tableLivesSpec.plain.varTypes Tryz.pinned.checked.prog).any (Tryz.pinned.checked.prog.loopsFrom ·))=true:=by kernel_rfl
def A3d:(Rows.tableLivesRow.wideKeys == (f5.params.toList++Rows.tableLivesSpec.plain.varTypes Tryz.pinned.checked.prog++f5.resultTypes.toList).any (Tryz.pinned.checked.prog.wideKeysFrom ·))=true:=by kernel_rfl
def A3e:Rows.tableLivesSpec.vars.all (Tryz.pinned.checked.prog.varReadable ·)=true:=by kernel_rfl
def A3f:f5.resultTypes.all (λt=>Tryz.pinned.checked.prog.readableRec t && decide (t<Tryz.pinned.checked.prog.types.size))=true:=by kernel_rfl
def A3g:(Rows.tableLivesRow.ifacesOut == f5.resultTypes.toList.any (Tryz.pinned.checked.prog.ifacesRec ·))=true:=by kernel_rfl
def A3h:(Rows.tableLivesRow.loopsOut == f5.resultTypes.toList.any (Tryz.pinned.checked.prog.loopsFrom ·))=true:=by kernel_rfl
def A3i:(Rows.tableLivesRow.plainKeys == Tryz.pinned.checked.prog.plainKeys)=true:=by kernel_rfl
def A3j:Rows.tableLivesRow.shortTexts.isNone=true:=by kernel_rfl
def A3k:(Rows.tableLivesRow.lifted == Tryz.pinned.checked.prog.liftsFinal)=true:=by kernel_rfl
def A3l:(Tryz.pinned.checked.prog.make == O Rows.tableLivesRow.make)=true:=by kernel_rfl
def A3m:(Rows.tableLivesRow.kinds == (if Rows.tableLivesRow.domain.isEmpty then[]else f5.params.toList.map λt=>match Tryz.pinned.checked.prog.underlying t with|some (.int k)=>O k|_=>I))=true:=by kernel_rfl
def A3n:(Rows.tableLivesRow.pinned == Rows.tableLivesRow.pinnedBy)=true:=by kernel_rfl
def A3o:(Rows.tableLivesRow.veiled == (f5.params.toList++Rows.tableLivesSpec.plain.varTypes Tryz.pinned.checked.prog++f5.resultTypes.toList).any (Tryz.pinned.checked.prog.veiledRec ·))=true:=by kernel_rfl
def A3p:Rows.tableLivesRow.veiledFits Tryz.pinned.checked.prog f5.params.toList (f5.params.toList++Rows.tableLivesSpec.plain.varTypes Tryz.pinned.checked.prog++f5.resultTypes.toList)=true:=by kernel_rfl
def A3q:joinedFacts Tryz.pinned.checked.prog 5 f5 Rows.tableLivesSpec Rows.tableLivesRow=true:=by
 unfold joinedFacts;exact(Ba (Ba (Ba (Ba (Ba (Ba (Ba (Ba (Ba (Ba (Ba (Ba (Ba (Ba (Ba (Ba (Ba (Ba (Ba (Ba (Ba (Ba (Ba (Ba (Ba (Ba (Ba (Ba (Ba (Ba (Ba A20 Anv) Anw) A21) A22) A23) Anx) A24) Anz) A25) A26) A27) A28) A29) A3a) A3b) A3c) A3d) A3e) A3f) A3g) A3h) A3i) A3j) An0) An1) A3k) A3l) A3m) A3n) A3o) A3p)
