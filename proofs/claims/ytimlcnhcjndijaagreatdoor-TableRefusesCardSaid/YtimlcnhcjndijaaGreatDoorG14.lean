/- Parts of a proof. No condition. -/
import Derived.Test.YtimlcnhcjndijaaGreatDoorG04
import Derived.Test.YtimlcnhcjndijaaGreatDoorRows
import Derived.Test.YtimlcnhcjndijaaGreatDoorTie
import Derived.Test.YtimlcnhcjndijaaGreatDoorCards
import Derived.ProofKit
import Derived.OpenShut
import Derived.LaidMore
import Derived.Lay
import Derived.SevenTiedAt
set_option linter.all false
set_option maxRecDepth 100000
set_option maxHeartbeats 1600000
namespace Go.Proofs.YtimlcnhcjndijaaGreatDoor
open Option renaming none->I,some->Z
open IntKind renaming i64->O
open Value renaming int->G
open Ending renaming returned->K
open Go renaming World->WD,Value->VL
open Go.Proofs.Tryz
section
open Go.ChangeShapes Go.WideShapes Go.ChangeAt Go.RowKit
def own:ownKnob prog.godebug=I:=by kernel_rfl
def Aqg {W:WD} (h:W.ShapedOpen prog):Mx W:=
 cell_of_shapedOpen_int (g:=0) (t:=3) (zero:=#[G O 0]) h (Io (by kernel_rfl)) (by kernel_rfl) rfl (by kernel_rfl) (by kernel_rfl) D5
variable {H:Type} {enc:TypeId×VL->H}
def Aqh {a:Assume} {C:Checked} {os:Os} {f:FuncId} {fn:Func} {s:ChangeSpec} {l:List PathCond} {b m g k:Bool} {X:WD->Array VL->Prop}
  (hX:∀(w w':WD) (args:Array VL),w.heap=w'.heap->X w args->X w' args)
  (own:ownKnob C.prog.godebug=I) (n:os.Started) (p:C.prog.inits.idxOf? f=I) (ac:C.prog.funcs[f]?=Z fn)
  (o:∃(w:WD) (c:Tape) (i:Input),w.os=os/\(w.forCall c i).Shaped C.prog/\i.vars=[]/\Input.okWide C.prog (w.forCall c i) .any w.heap.size f i /\
    ((s.pre enc C.prog fn l b (w.forCall c i).memory i.args/\X (w.forCall c i).memory i.args)/\sizedMet enc C.prog fn (OpenSpec.ofChange s) b (w.forCall c i).memory i.args)/\a.holds C.prog (lone (Frame.enter C.prog f i.args .normal) [] (w.forCall c i)))
  (h:∀(W:WD) (base:Nat) (args:Array VL) (x y:List (DataW H)) (d:List MemPlace),
    (∀(j:Nat) t v,fn.params[j]?=Z t->args[j]?=Z v->Value.okWide C.prog W .any base t v) ->
    DataW.Whole enc C.prog fn.params.toList s.vars b W args.toList x y d ->
    (DataW.weightsEach C.prog (fn.params.toList++s.plain.varTypes C.prog) (x++y)).all (·<=reachBytes)=true->X W args->W.ShapedOpen C.prog ->
    Calls C.prog f args W λe W'=>∃v,e=K v/\s.post enc C.prog fn b m g k W args v W') :
  ReturnsInHanded a C os f .any (λw args=>(s.pre enc C.prog fn l b w args/\X w args)/\sizedMet enc C.prog fn (OpenSpec.ofChange s) b w args) (s.post enc C.prog fn b m g k):=by
 refine returnsInHanded_of_calls own n p o ?_;intro w c i _ af _ ad r z;obtain⟨_,_,_,am,q,_,_,_,_,u⟩:=ad;have e:=K5 (q.symm.trans ac);subst e;obtain⟨⟨⟨x,y,d,hw,hc⟩,hx⟩,hz⟩:=r;have al:=DataW.Whole.of_heap (w':=w.forCall c i) (by rfl) hw;refine(h (w.forCall c i) w.heap.size i.args x y d u al (hz.weights hw) (hX _ _ _ (by rfl) hx) af).mono λe W' ⟨v,he,hp⟩=>?_;subst he;exact ChangeSpec.post_blind hp
def Aqi:laidOutB prog=true:=by kernel_rfl
def Agv {W f:WD} (g:Below W.heap.size W f):∀(ts:List TypeId) (vs:List VL) (a:List (DataW H)) (c:List MemPlace),
  DataW.TrodAll enc prog W 0 (λ_=>true) true ts vs a c->(∀x∈c,x.block<W.heap.size)->(∀t∈ts,prog.readableRec t=true/\t<prog.types.size) ->
  DataW.TrodAll enc prog f 0 (λb=>decide (b<W.heap.size)) true ts vs a c
 | [],[],[],_,h,_,_=>h
 | [],_ :: _,_,_,h,_,_=>h.elim
 | [],[],_ :: _,_,h,_,_=>h.elim
 | _ :: _,[],_,_,h,_,_=>h.elim
 | _ :: _,_ :: _,[],_,h,_,_=>h.elim
 | t :: ts,v :: vs,d :: a,c,h,hlt,hr=>by
  obtain⟨p,q,h1,i,rfl⟩:=h;obtain⟨k,l⟩:=hr t as9;exact⟨p,q,Below.trod Aqi k l h1 g (λx e=>hlt x (by simp[e])),Agv g ts vs a q i (λx e=>hlt x (by simp[e])) (λu j=>hr u (by simp[j])),rfl⟩
def Aqj {f:Func} {s:ChangeSpec} {a e c:Bool} {W l:WD} {args:Array VL} {v:VL} {i k:List (DataW H)} {d:List MemPlace}
  (m:DataW.Whole enc prog f.params.toList s.vars a W args.toList i k d) (y:s.vars=[])
  (j:∀(b:Nat) (sp:Nat->Bool) (hd:Bool),DataW.TrodAll enc prog l b sp hd f.resultTypes.toList (v.resultList f.resultTypes.size) (s.fn H (i++k)).results [])
  (g:(s.fn H (i++k)).args=i) (hv:(s.fn H (i++k)).vars=[]) (u:Below W.heap.size W l)
  (hr:∀t∈f.params.toList,prog.readableRec t=true/\t<prog.types.size) :
  s.post enc prog f a e c false W args v l:=by
 have o:=m.lt;have n:=m;obtain⟨p,q,z,r,rfl,ac,ad⟩:=m;rw[y]at r;obtain⟨rfl,rfl⟩:=trodVars_none r;refine⟨i,[],p++[],[],p,[],n,j _ _ _,?_,?_,u.frame _,λh=>by simp at h⟩
 .rw [g];exact Agv u _ _ _ _ z (λx hx=>by simpa using o x (by simp[hx])) hr
 .rw [hv,y];rfl
end
section
open Go.ChangeShapes Go.WideShapes Go.ChangeAt Go.RowKit Go.ChangeMaps
def Dk {a b:Bool} (c:a=true) (d:b=true):(a && b)=true:=by rw[c,d];rfl
def A22:laidOutB Tryz.pinned.checked.prog=true:=by kernel_rfl
def A23:mapsRowed Tryz.pinned.checked.prog=true:=by kernel_rfl
def A24:(Tryz.pinned.checked.prog.stops == [])=true:=by kernel_rfl
def A25:(Tryz.pinned.checked.prog.stopKnobs == [])=true:=by kernel_rfl
def A26:Tryz.pinned.checked.prog.stopsHeard=true:=by kernel_rfl
def A27:Tryz.pinned.checked.prog.mayEnter=true:=by kernel_rfl
def A28:Rows.tableRefusesRow.wf (OpenSpec.ofChange Rows.tableRefusesSpec)=true:=by kernel_rfl
def A29:f7.params.all (Tryz.pinned.checked.prog.readableRec ·)=true:=by kernel_rfl
def A3a:namedTie Tryz.pinned.checked.prog Rows.tableRefusesRow.named Rows.tableRefusesSpec.vars=true:=by kernel_rfl
def A3b:(Rows.tableRefusesRow.stops == [])=true:=by kernel_rfl
def A3c:(Rows.tableRefusesRow.knobs == [])=true:=by kernel_rfl
def A3d:(Rows.tableRefusesRow.inPlace == Tryz.pinned.checked.prog.inPlace 7)=true:=by kernel_rfl
def A3e:(Rows.tableRefusesRow.unfollowed == Tryz.pinned.checked.prog.unfollowed 7)=true:=by kernel_rfl
def A3f:(Rows.tableRefusesRow.recurses == Tryz.pinned.checked.prog.recurses 7)=true:=by kernel_rfl
def A3g:(Rows.tableRefusesRow.named == Tryz.pinned.checked.prog.varsNamed 7)=true:=by kernel_rfl
def A3h:(Rows.tableRefusesRow.maps == (f7.params.toList++Rows.tableRefusesSpec.plain.varTypes Tryz.pinned.checked.prog).any (Tryz.pinned.checked.prog.mapsRec ·))=true:=by kernel_rfl
def A3i:(Rows.tableRefusesRow.ifaces == (f7.params.toList++Rows.tableRefusesSpec.plain.varTypes Tryz.pinned.checked.prog).any (Tryz.pinned.checked.prog.ifacesRec ·))=true:=by kernel_rfl
def A3j:(Rows.tableRefusesRow.mapsOut == Tryz.pinned.checked.prog.mapsAmong f7.resultTypes.toList)=true:=by kernel_rfl
def A3k:(Rows.tableRefusesRow.loops == (f7.params.toList++Rows.tableRefusesSpec.plain.varTypes Tryz.pinned.checked.prog).any (Tryz.pinned.checked.prog.loopsFrom ·))=true:=by kernel_rfl
def A3l:(Rows.tableRefusesRow.wideKeys == (f7.params.toList++Rows.tableRefusesSpec.plain.varTypes Tryz.pinned.checked.prog++f7.resultTypes.toList).any (Tryz.pinned.checked.prog.wideKeysFrom ·))=true:=by kernel_rfl
def A3m:Rows.tableRefusesSpec.vars.all (Tryz.pinned.checked.prog.varReadable ·)=true:=by kernel_rfl
def A3n:f7.resultTypes.all (λt=>Tryz.pinned.checked.prog.readableRec t && decide (t<Tryz.pinned.checked.prog.types.size))=true:=by kernel_rfl
def A3o:(Rows.tableRefusesRow.ifacesOut == f7.resultTypes.toList.any (Tryz.pinned.checked.prog.ifacesRec ·))=true:=by kernel_rfl
def A3p:(Rows.tableRefusesRow.loopsOut == f7.resultTypes.toList.any (Tryz.pinned.checked.prog.loopsFrom ·))=true:=by kernel_rfl
def A3q:(Rows.tableRefusesRow.plainKeys == Tryz.pinned.checked.prog.plainKeys)=true:=by kernel_rfl
def A3r:Rows.tableRefusesRow.shortTexts.isNone=true:=by kernel_rfl
def A3s:(Rows.tableRefusesRow.lifted == Tryz.pinned.checked.prog.liftsFinal)=true:=by kernel_rfl
def A3t:(Tryz.pinned.checked.prog.make == Z Rows.tableRefusesRow.make)=true:=by kernel_rfl
def A3u:(Rows.tableRefusesRow.kinds == (if Rows.tableRefusesRow.domain.isEmpty then[]else f7.params.toList.map λt=>match Tryz.pinned.checked.prog.underlying t with|some (.int k)=>Z k|_=>I))=true:=by kernel_rfl
def A3v:(Rows.tableRefusesRow.pinned == Rows.tableRefusesRow.pinnedBy)=true:=by kernel_rfl
def A3w:(Rows.tableRefusesRow.veiled == (f7.params.toList++Rows.tableRefusesSpec.plain.varTypes Tryz.pinned.checked.prog++f7.resultTypes.toList).any (Tryz.pinned.checked.prog.veiledRec ·))=true:=by kernel_rfl
def A3x:Rows.tableRefusesRow.veiledFits Tryz.pinned.checked.prog f7.params.toList (f7.params.toList++Rows.tableRefusesSpec.plain.varTypes Tryz.pinned.checked.prog++f7.resultTypes.toList)=true:=by kernel_rfl
def A3y:joinedFacts Tryz.pinned.checked.prog 7 f7 Rows.tableRefusesSpec Rows.tableRefusesRow=true:=by
 unfold joinedFacts;exact(Dk (Dk (Dk (Dk (Dk (Dk (Dk (Dk (Dk (Dk (Dk (Dk (Dk (Dk (Dk (Dk (Dk (Dk (Dk (Dk (Dk (Dk (Dk (Dk (Dk (Dk (Dk (Dk (Dk (Dk (Dk A28 A22) A23) A29) A3a) A3b) A24) A3c) A25) A3d) A3e) A3f) A3g) A3h) A3i) A3j) A3k) A3l) A3m) A3n) A3o) A3p) A3q) A3r) A26) A27) A3s) A3t) A3u) A3v) A3w) A3x)
