/- The closed facts of the row of TableNone, one by one. Plain theorems: no condition. -/
import Derived.Test.YtimlcnhcjndijaaGreatDoorQ15
set_option linter.all false
set_option maxRecDepth 100000
set_option maxHeartbeats 1600000
namespace Go.Proofs.YtimlcnhcjndijaaGreatDoor
open Go.ChangeShapes Go.WideShapes Go.ChangeAt Go.RowKit Go.ChangeMaps
def Azf:Rows.tableNoneRow.wf (OpenSpec.ofChange Rows.tableNoneSpec)=true:=by kernel_rfl
def Azg:Tryz.f11.params.all (Tryz.pinned.checked.prog.readableRec ·)=true:=by kernel_rfl
def Azh:namedTie Tryz.pinned.checked.prog Rows.tableNoneRow.named Rows.tableNoneSpec.vars=true:=by kernel_rfl
def Azi:(Rows.tableNoneRow.stops == [])=true:=by kernel_rfl
def Azj:(Rows.tableNoneRow.knobs == [])=true:=by kernel_rfl
def Azk:(Rows.tableNoneRow.inPlace == Tryz.pinned.checked.prog.inPlace 11)=true:=by kernel_rfl
def Azl:(Rows.tableNoneRow.unfollowed == Tryz.pinned.checked.prog.unfollowed 11)=true:=by kernel_rfl
def Azm:(Rows.tableNoneRow.recurses == Tryz.pinned.checked.prog.recurses 11)=true:=by kernel_rfl
def Azn:(Rows.tableNoneRow.named == Tryz.pinned.checked.prog.varsNamed 11)=true:=by kernel_rfl
def Azo:(Rows.tableNoneRow.maps == (Tryz.f11.params.toList++Rows.tableNoneSpec.plain.varTypes Tryz.pinned.checked.prog).any (Tryz.pinned.checked.prog.mapsRec ·))=true:=by kernel_rfl
def Azp:(Rows.tableNoneRow.ifaces == (Tryz.f11.params.toList++Rows.tableNoneSpec.plain.varTypes Tryz.pinned.checked.prog).any (Tryz.pinned.checked.prog.ifacesRec ·))=true:=by kernel_rfl
def Azq:(Rows.tableNoneRow.mapsOut == Tryz.pinned.checked.prog.mapsAmong Tryz.f11.resultTypes.toList)=true:=by kernel_rfl
def Azr:(Rows.tableNoneRow.loops == (Tryz.f11.params.toList++Rows.tableNoneSpec.plain.varTypes Tryz.pinned.checked.prog).any (Tryz.pinned.checked.prog.loopsFrom ·))=true:=by kernel_rfl
def Azs:(Rows.tableNoneRow.wideKeys == (Tryz.f11.params.toList++Rows.tableNoneSpec.plain.varTypes Tryz.pinned.checked.prog++Tryz.f11.resultTypes.toList).any (Tryz.pinned.checked.prog.wideKeysFrom ·))=true:=by kernel_rfl
def Azt:Rows.tableNoneSpec.vars.all (Tryz.pinned.checked.prog.varReadable ·)=true:=by kernel_rfl
def Azu:Tryz.f11.resultTypes.all (fun t=>Tryz.pinned.checked.prog.readableRec t && decide (t<Tryz.pinned.checked.prog.types.size))=true:=by kernel_rfl
def Azv:(Rows.tableNoneRow.ifacesOut == Tryz.f11.resultTypes.toList.any (Tryz.pinned.checked.prog.ifacesRec ·))=true:=by kernel_rfl
def Azw:(Rows.tableNoneRow.loopsOut == Tryz.f11.resultTypes.toList.any (Tryz.pinned.checked.prog.loopsFrom ·))=true:=by kernel_rfl
def Azx:(Rows.tableNoneRow.plainKeys == Tryz.pinned.checked.prog.plainKeys)=true:=by kernel_rfl
def Azy:Rows.tableNoneRow.shortTexts.isNone=true:=by kernel_rfl
def Azz:(Rows.tableNoneRow.lifted == Tryz.pinned.checked.prog.liftsFinal)=true:=by kernel_rfl
def Az0:(Tryz.pinned.checked.prog.make == some Rows.tableNoneRow.make)=true:=by kernel_rfl
def Az1:(Rows.tableNoneRow.kinds == (if Rows.tableNoneRow.domain.isEmpty then [] else Tryz.f11.params.toList.map fun t=>match Tryz.pinned.checked.prog.underlying t with | some (.int k)=>some k | _=>none))=true:=by kernel_rfl
def Az2:(Rows.tableNoneRow.pinned == Rows.tableNoneRow.pinnedBy)=true:=by kernel_rfl
def Az3:(Rows.tableNoneRow.veiled == (Tryz.f11.params.toList++Rows.tableNoneSpec.plain.varTypes Tryz.pinned.checked.prog++Tryz.f11.resultTypes.toList).any (Tryz.pinned.checked.prog.veiledRec ·))=true:=by kernel_rfl
def Az4:Rows.tableNoneRow.veiledFits Tryz.pinned.checked.prog Tryz.f11.params.toList (Tryz.f11.params.toList++Rows.tableNoneSpec.plain.varTypes Tryz.pinned.checked.prog++Tryz.f11.resultTypes.toList)=true:=by kernel_rfl
def Az5:joinedFacts Tryz.pinned.checked.prog 11 Tryz.f11 Rows.tableNoneSpec Rows.tableNoneRow=true:=by
 unfold joinedFacts;exact (A4 (A4 (A4 (A4 (A4 (A4 (A4 (A4 (A4 (A4 (A4 (A4 (A4 (A4 (A4 (A4 (A4 (A4 (A4 (A4 (A4 (A4 (A4 (A4 (A4 (A4 (A4 (A4 (A4 (A4 (A4 Azf Aiu) Aiv) Azg) Azh) Azi) Aiw) Azj) Aix) Azk) Azl) Azm) Azn) Azo) Azp) Azq) Azr) Azs) Azt) Azu) Azv) Azw) Azx) Azy) Aiy) Aiz) Azz) Az0) Az1) Az2) Az3) Az4)
end Go.Proofs.YtimlcnhcjndijaaGreatDoor
