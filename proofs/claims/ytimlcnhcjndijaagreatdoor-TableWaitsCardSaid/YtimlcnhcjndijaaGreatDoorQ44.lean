/- The closed facts of the row of TableWaits, one by one. Plain theorems: no condition. -/
import Derived.Test.YtimlcnhcjndijaaGreatDoorQ15
set_option linter.all false
set_option maxRecDepth 100000
set_option maxHeartbeats 1600000
namespace Go.Proofs.YtimlcnhcjndijaaGreatDoor
open Go.ChangeShapes Go.WideShapes Go.ChangeAt Go.RowKit Go.ChangeMaps
def Axu:Rows.tableWaitsRow.wf (OpenSpec.ofChange Rows.tableWaitsSpec)=true:=by kernel_rfl
def Axv:Tryz.f3.params.all (Tryz.pinned.checked.prog.readableRec ·)=true:=by kernel_rfl
def Axw:namedTie Tryz.pinned.checked.prog Rows.tableWaitsRow.named Rows.tableWaitsSpec.vars=true:=by kernel_rfl
def Axx:(Rows.tableWaitsRow.stops == [])=true:=by kernel_rfl
def Axy:(Rows.tableWaitsRow.knobs == [])=true:=by kernel_rfl
def Axz:(Rows.tableWaitsRow.inPlace == Tryz.pinned.checked.prog.inPlace 3)=true:=by kernel_rfl
def Ax0:(Rows.tableWaitsRow.unfollowed == Tryz.pinned.checked.prog.unfollowed 3)=true:=by kernel_rfl
def Ax1:(Rows.tableWaitsRow.recurses == Tryz.pinned.checked.prog.recurses 3)=true:=by kernel_rfl
def Ax2:(Rows.tableWaitsRow.named == Tryz.pinned.checked.prog.varsNamed 3)=true:=by kernel_rfl
def Ax3:(Rows.tableWaitsRow.maps == (Tryz.f3.params.toList++Rows.tableWaitsSpec.plain.varTypes Tryz.pinned.checked.prog).any (Tryz.pinned.checked.prog.mapsRec ·))=true:=by kernel_rfl
def Ax4:(Rows.tableWaitsRow.ifaces == (Tryz.f3.params.toList++Rows.tableWaitsSpec.plain.varTypes Tryz.pinned.checked.prog).any (Tryz.pinned.checked.prog.ifacesRec ·))=true:=by kernel_rfl
def Ax5:(Rows.tableWaitsRow.mapsOut == Tryz.pinned.checked.prog.mapsAmong Tryz.f3.resultTypes.toList)=true:=by kernel_rfl
def Ax6:(Rows.tableWaitsRow.loops == (Tryz.f3.params.toList++Rows.tableWaitsSpec.plain.varTypes Tryz.pinned.checked.prog).any (Tryz.pinned.checked.prog.loopsFrom ·))=true:=by kernel_rfl
def Ax7:(Rows.tableWaitsRow.wideKeys == (Tryz.f3.params.toList++Rows.tableWaitsSpec.plain.varTypes Tryz.pinned.checked.prog++Tryz.f3.resultTypes.toList).any (Tryz.pinned.checked.prog.wideKeysFrom ·))=true:=by kernel_rfl
def Ax8:Rows.tableWaitsSpec.vars.all (Tryz.pinned.checked.prog.varReadable ·)=true:=by kernel_rfl
def Ax9:Tryz.f3.resultTypes.all (fun t=>Tryz.pinned.checked.prog.readableRec t && decide (t<Tryz.pinned.checked.prog.types.size))=true:=by kernel_rfl
def Aya:(Rows.tableWaitsRow.ifacesOut == Tryz.f3.resultTypes.toList.any (Tryz.pinned.checked.prog.ifacesRec ·))=true:=by kernel_rfl
def Ayb:(Rows.tableWaitsRow.loopsOut == Tryz.f3.resultTypes.toList.any (Tryz.pinned.checked.prog.loopsFrom ·))=true:=by kernel_rfl
def Ayc:(Rows.tableWaitsRow.plainKeys == Tryz.pinned.checked.prog.plainKeys)=true:=by kernel_rfl
def Ayd:Rows.tableWaitsRow.shortTexts.isNone=true:=by kernel_rfl
def Aye:(Rows.tableWaitsRow.lifted == Tryz.pinned.checked.prog.liftsFinal)=true:=by kernel_rfl
def Ayf:(Tryz.pinned.checked.prog.make == some Rows.tableWaitsRow.make)=true:=by kernel_rfl
def Ayg:(Rows.tableWaitsRow.kinds == (if Rows.tableWaitsRow.domain.isEmpty then [] else Tryz.f3.params.toList.map fun t=>match Tryz.pinned.checked.prog.underlying t with | some (.int k)=>some k | _=>none))=true:=by kernel_rfl
def Ayh:(Rows.tableWaitsRow.pinned == Rows.tableWaitsRow.pinnedBy)=true:=by kernel_rfl
def Ayi:(Rows.tableWaitsRow.veiled == (Tryz.f3.params.toList++Rows.tableWaitsSpec.plain.varTypes Tryz.pinned.checked.prog++Tryz.f3.resultTypes.toList).any (Tryz.pinned.checked.prog.veiledRec ·))=true:=by kernel_rfl
def Ayj:Rows.tableWaitsRow.veiledFits Tryz.pinned.checked.prog Tryz.f3.params.toList (Tryz.f3.params.toList++Rows.tableWaitsSpec.plain.varTypes Tryz.pinned.checked.prog++Tryz.f3.resultTypes.toList)=true:=by kernel_rfl
def Ayk:joinedFacts Tryz.pinned.checked.prog 3 Tryz.f3 Rows.tableWaitsSpec Rows.tableWaitsRow=true:=by
 unfold joinedFacts;exact (A4 (A4 (A4 (A4 (A4 (A4 (A4 (A4 (A4 (A4 (A4 (A4 (A4 (A4 (A4 (A4 (A4 (A4 (A4 (A4 (A4 (A4 (A4 (A4 (A4 (A4 (A4 (A4 (A4 (A4 (A4 Axu Aiu) Aiv) Axv) Axw) Axx) Aiw) Axy) Aix) Axz) Ax0) Ax1) Ax2) Ax3) Ax4) Ax5) Ax6) Ax7) Ax8) Ax9) Aya) Ayb) Ayc) Ayd) Aiy) Aiz) Aye) Ayf) Ayg) Ayh) Ayi) Ayj)
end Go.Proofs.YtimlcnhcjndijaaGreatDoor
