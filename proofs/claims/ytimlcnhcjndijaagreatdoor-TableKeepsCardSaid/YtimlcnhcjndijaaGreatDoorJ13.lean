/- Parts of a proof. No condition. -/
import Derived.Test.YtimlcnhcjndijaaGreatDoorJ04
import Derived.Test.YtimlcnhcjndijaaGreatDoorRows
import Derived.Test.YtimlcnhcjndijaaGreatDoorTie
import Derived.Test.YtimlcnhcjndijaaGreatDoorCards
import Derived.ProofKit
import Derived.OpenShut
import Derived.LaidMore
import Derived.Lay
import Derived.SevenTiedAt
set_option linter.all false
set_option maxRecDepth 100000
set_option maxHeartbeats 1600000
namespace Go.Proofs.YtimlcnhcjndijaaGreatDoor
open Option renaming none->I,some->O
open IntKind renaming i64->G
open Value renaming int->Z
open Ending renaming returned->Y
open Go renaming World->WD,Value->VL
open Go.Proofs.Tryz
section
open Go.ChangeShapes Go.WideShapes Go.ChangeAt Go.RowKit
def own:ownKnob prog.godebug=I:=by kernel_rfl
def Agz {W:WD} (h:W.ShapedOpen prog):Mx W:=
 cell_of_shapedOpen_int (g:=0) (t:=3) (zero:=#[Z G 0]) h (Kk (by kernel_rfl)) (by kernel_rfl) rfl (by kernel_rfl) (by kernel_rfl) Ed
variable {H:Type} {enc:TypeId×VL->H}
def Ag0 {a:Assume} {C:Checked} {os:Os} {f:FuncId} {fn:Func} {s:ChangeSpec} {l:List PathCond} {b m g k:Bool} {X:WD->Array VL->Prop}
  (hX:∀(w w':WD) (args:Array VL),w.heap=w'.heap->X w args->X w' args)
  (own:ownKnob C.prog.godebug=I) (n:os.Started) (p:C.prog.inits.idxOf? f=I) (ac:C.prog.funcs[f]?=O fn)
  (o:∃(w:WD) (c:Tape) (i:Input),w.os=os/\(w.forCall c i).Shaped C.prog/\i.vars=[]/\Input.okWide C.prog (w.forCall c i) .any w.heap.size f i /\
    ((s.pre enc C.prog fn l b (w.forCall c i).memory i.args/\X (w.forCall c i).memory i.args)/\sizedMet enc C.prog fn (OpenSpec.ofChange s) b (w.forCall c i).memory i.args)/\a.holds C.prog (lone (Frame.enter C.prog f i.args .normal) [] (w.forCall c i)))
  (h:∀(W:WD) (base:Nat) (args:Array VL) (x y:List (DataW H)) (d:List MemPlace),
    (∀(j:Nat) t v,fn.params[j]?=O t->args[j]?=O v->Value.okWide C.prog W .any base t v) ->
    DataW.Whole enc C.prog fn.params.toList s.vars b W args.toList x y d ->
    (DataW.weightsEach C.prog (fn.params.toList++s.plain.varTypes C.prog) (x++y)).all (·<=reachBytes)=true->X W args->W.ShapedOpen C.prog ->
    Calls C.prog f args W λe W'=>∃v,e=Y v/\s.post enc C.prog fn b m g k W args v W') :
  ReturnsInHanded a C os f .any (λw args=>(s.pre enc C.prog fn l b w args/\X w args)/\sizedMet enc C.prog fn (OpenSpec.ofChange s) b w args) (s.post enc C.prog fn b m g k):=by
 refine returnsInHanded_of_calls own n p o ?_;intro w c i _ al _ ad r z;obtain⟨_,_,_,an,q,_,_,_,_,u⟩:=ad;have e:=Kn (q.symm.trans ac);subst e;obtain⟨⟨⟨x,y,d,hw,hc⟩,hx⟩,hz⟩:=r;have am:=DataW.Whole.of_heap (w':=w.forCall c i) (by rfl) hw;refine(h (w.forCall c i) w.heap.size i.args x y d u am (hz.weights hw) (hX _ _ _ (by rfl) hx) al).mono λe W' ⟨v,he,hp⟩=>?_;subst he;exact ChangeSpec.post_blind hp
def Are:laidOutB prog=true:=by kernel_rfl
def Ag1 {W f:WD} (g:Below W.heap.size W f):∀(ts:List TypeId) (vs:List VL) (a:List (DataW H)) (c:List MemPlace),
  DataW.TrodAll enc prog W 0 (λ_=>true) true ts vs a c->(∀x∈c,x.block<W.heap.size)->(∀t∈ts,prog.readableRec t=true/\t<prog.types.size) ->
  DataW.TrodAll enc prog f 0 (λb=>decide (b<W.heap.size)) true ts vs a c
 | [],[],[],_,h,_,_=>h
 | [],_ :: _,_,_,h,_,_=>h.elim
 | [],[],_ :: _,_,h,_,_=>h.elim
 | _ :: _,[],_,_,h,_,_=>h.elim
 | _ :: _,_ :: _,[],_,h,_,_=>h.elim
 | t :: ts,v :: vs,d :: a,c,h,hlt,hr=>by
  obtain⟨p,q,h1,i,rfl⟩:=h;obtain⟨k,l⟩:=hr t as9;exact⟨p,q,Below.trod Are k l h1 g (λx e=>hlt x (by simp[e])),Ag1 g ts vs a q i (λx e=>hlt x (by simp[e])) (λu j=>hr u (by simp[j])),rfl⟩
def Ag2 {f:Func} {s:ChangeSpec} {a e c:Bool} {W l:WD} {args:Array VL} {v:VL} {i k:List (DataW H)} {d:List MemPlace}
  (m:DataW.Whole enc prog f.params.toList s.vars a W args.toList i k d) (y:s.vars=[])
  (j:∀(b:Nat) (sp:Nat->Bool) (hd:Bool),DataW.TrodAll enc prog l b sp hd f.resultTypes.toList (v.resultList f.resultTypes.size) (s.fn H (i++k)).results [])
  (g:(s.fn H (i++k)).args=i) (hv:(s.fn H (i++k)).vars=[]) (u:Below W.heap.size W l)
  (hr:∀t∈f.params.toList,prog.readableRec t=true/\t<prog.types.size) :
  s.post enc prog f a e c false W args v l:=by
 have o:=m.lt;have n:=m;obtain⟨p,q,z,r,rfl,ac,ad⟩:=m;rw[y]at r;obtain⟨rfl,rfl⟩:=trodVars_none r;refine⟨i,[],p++[],[],p,[],n,j _ _ _,?_,?_,u.frame _,λh=>by simp at h⟩
 .rw [g];exact Ag1 u _ _ _ _ z (λx hx=>by simpa using o x (by simp[hx])) hr
 .rw [hv,y];rfl
end
section
open Go.ChangeShapes Go.WideShapes Go.ChangeAt Go.RowKit Go.ChangeMaps
def Ba {a b:Bool} (c:a=true) (d:b=true):(a && b)=true:=by rw[c,d];rfl
def Anv:laidOutB Tryz.pinned.checked.prog=true:=by kernel_rfl
def Anw:mapsRowed Tryz.pinned.checked.prog=true:=by kernel_rfl
def Anx:(Tryz.pinned.checked.prog.stops == [])=true:=by kernel_rfl
def Anz:(Tryz.pinned.checked.prog.stopKnobs == [])=true:=by kernel_rfl
def An0:Tryz.pinned.checked.prog.stopsHeard=true:=by kernel_rfl
def An1:Tryz.pinned.checked.prog.mayEnter=true:=by kernel_rfl
