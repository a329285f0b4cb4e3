/- Parts of a proof. No condition. -/
import Derived.Test.YtimlcnhcjndijaaGreatDoorJ13
set_option linter.all false
set_option maxRecDepth 100000
set_option maxHeartbeats 1600000
namespace Go.Proofs.YtimlcnhcjndijaaGreatDoor
open Option renaming some->O,none->I
open Go.Proofs.Tryz
section
open Go.ChangeShapes Go.WideShapes Go.ChangeAt Go.RowKit Go.ChangeMaps
def A5g:Rows.tableKeepsRow.wf (OpenSpec.ofChange Rows.tableKeepsSpec)=true:=by kernel_rfl
def A5h:f6.params.all (Tryz.pinned.checked.prog.readableRec ·)=true:=by kernel_rfl
def A5i:namedTie Tryz.pinned.checked.prog Rows.tableKeepsRow.named Rows.tableKeepsSpec.vars=true:=by kernel_rfl
def A5j:(Rows.tableKeepsRow.stops == [])=true:=by kernel_rfl
def A5k:(Rows.tableKeepsRow.knobs == [])=true:=by kernel_rfl
def A5l:(Rows.tableKeepsRow.inPlace == Tryz.pinned.checked.prog.inPlace 6)=true:=by kernel_rfl
def A5m:(Rows.tableKeepsRow.unfollowed == Tryz.pinned.checked.prog.unfollowed 6)=true:=by kernel_rfl
def A5n:(Rows.tableKeepsRow.recurses == Tryz.pinned.checked.prog.recurses 6)=true:=by kernel_rfl
def A5o:(Rows.tableKeepsRow.named == Tryz.pinned.checked.prog.varsNamed 6)=true:=by kernel_rfl
def A5p:(Rows.tableKeepsRow.maps == (f6.params.toList++Rows.tableKeepsSpec.plain.varTypes Tryz.pinned.checked.prog).any (Tryz.pinned.checked.prog.mapsRec ·))=true:=by kernel_rfl
def A5q:(Rows.tableKeepsRow.ifaces == (f6.params.toList++Rows.tableKeepsSpec.plain.varTypes Tryz.pinned.checked.prog).any (Tryz.pinned.checked.prog.ifacesRec ·))=true:=by kernel_rfl
def A5r:(Rows.tableKeepsRow.mapsOut == Tryz.pinned.checked.prog.mapsAmong f6.resultTypes.toList)=true:=by kernel_rfl
def A5s:(Rows.tableKeepsRow.loops == (f6.params.toList++Rows.tableKeepsSpec.plain.varTypes Tryz.pinned.checked.prog).any (Tryz.pinned.checked.prog.loopsFrom ·))=true:=by kernel_rfl
def A5t:(Rows.tableKeepsRow.wideKeys == (f6.params.toList++Rows.tableKeepsSpec.plain.varTypes Tryz.pinned.checked.prog++f6.resultTypes.toList).any (Tryz.pinned.checked.prog.wideKeysFrom ·))=true:=by kernel_rfl
def A5u:Rows.tableKeepsSpec.vars.all (Tryz.pinned.checked.prog.varReadable ·)=true:=by kernel_rfl
def A5v:f6.resultTypes.all (λt=>Tryz.pinned.checked.prog.readableRec t && decide (t<Tryz.pinned.checked.prog.types.size))=true:=by kernel_rfl
def A5w:(Rows.tableKeepsRow.ifacesOut == f6.resultTypes.toList.any (Tryz.pinned.checked.prog.ifacesRec ·))=true:=by kernel_rfl
def A5x:(Rows.tableKeepsRow.loopsOut == f6.resultTypes.toList.any (Tryz.pinned.checked.prog.loopsFrom ·))=true:=by kernel_rfl
def A5y:(Rows.tableKeepsRow.plainKeys == Tryz.pinned.checked.prog.plainKeys)=true:=by kernel_rfl
def A5z:Rows.tableKeepsRow.shortTexts.isNone=true:=by kernel_rfl
def A50:(Rows.tableKeepsRow.lifted == Tryz.pinned.checked.prog.liftsFinal)=true:=by kernel_rfl
def A51:(Tryz.pinned.checked.prog.make == O Rows.tableKeepsRow.make)=true:=by kernel_rfl
def A52:(Rows.tableKeepsRow.kinds == (if Rows.tableKeepsRow.domain.isEmpty then[]else f6.params.toList.map λt=>match Tryz.pinned.checked.prog.underlying t with|some (.int k)=>O k|_=>I))=true:=by kernel_rfl
def A53:(Rows.tableKeepsRow.pinned == Rows.tableKeepsRow.pinnedBy)=true:=by kernel_rfl
def A54:(Rows.tableKeepsRow.veiled == (f6.params.toList++Rows.tableKeepsSpec.plain.varTypes Tryz.pinned.checked.prog++f6.resultTypes.toList).any (Tryz.pinned.checked.prog.veiledRec ·))=true:=by kernel_rfl
def A55:Rows.tableKeepsRow.veiledFits Tryz.pinned.checked.prog f6.params.toList (f6.params.toList++Rows.tableKeepsSpec.plain.varTypes Tryz.pinned.checked.prog++f6.resultTypes.toList)=true:=by kernel_rfl
def A56:joinedFacts Tryz.pinned.checked.prog 6 f6 Rows.tableKeepsSpec Rows.tableKeepsRow=true:=by
 unfold joinedFacts;exact(Ba (Ba (Ba (Ba (Ba (Ba (Ba (Ba (Ba (Ba (Ba (Ba (Ba (Ba (Ba (Ba (Ba (Ba (Ba (Ba (Ba (Ba (Ba (Ba (Ba (Ba (Ba (Ba (Ba (Ba (Ba A5g Anv) Anw) A5h) A5i) A5j) Anx) A5k) Anz) A5l) A5m) A5n) A5o) A5p) A5q) A5r) A5s) A5t) A5u) A5v) A5w) A5x) A5y) A5z) An0) An1) A50) A51) A52) A53) A54) A55)
