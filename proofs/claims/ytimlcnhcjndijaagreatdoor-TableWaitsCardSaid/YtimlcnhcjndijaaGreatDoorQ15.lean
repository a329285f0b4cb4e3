/- Parts Rwb, Rk0. Plain theorems: no condition. -/
import Derived.Test.YtimlcnhcjndijaaGreatDoorQ04
import Derived.Test.YtimlcnhcjndijaaGreatDoorRows
import Derived.Test.YtimlcnhcjndijaaGreatDoorTie
import Derived.Test.YtimlcnhcjndijaaGreatDoorCards
import Derived.ProofKit
import Derived.OpenShut
import Derived.LaidMore
import Derived.Lay
import Derived.SevenTiedAt
set_option linter.all false
set_option maxRecDepth 100000
set_option maxHeartbeats 1600000
namespace Go.Proofs.YtimlcnhcjndijaaGreatDoor
open Go.ChangeShapes Go.WideShapes Go.ChangeAt Go.RowKit
def own:ownKnob Tryz.prog.godebug=none:=by kernel_rfl
def Ab6 {W:World} (h:W.ShapedOpen Tryz.prog):Mx W:=
 cell_of_shapedOpen_int (g:=0) (t:=3) (zero:=#[.int .i64 0]) h (I9 (by kernel_rfl)) (by kernel_rfl) rfl (by kernel_rfl) (by kernel_rfl) Da
variable {H:Type} {enc:TypeId×Value->H}
def Ab7 {a:Assume} {C:Checked} {os:Os} {f:FuncId} {fn:Func} {s:ChangeSpec} {k:List PathCond} {b l g m:Bool} {X:World->Array Value->Prop}
  (hX:∀ (w w':World) (args:Array Value),w.heap=w'.heap->X w args->X w' args)
  (own:ownKnob C.prog.godebug=none) (n:os.Started) (p:C.prog.inits.idxOf? f=none) (ac:C.prog.funcs[f]?=some fn)
  (o:∃ (w:World) (c:Tape) (i:Input),w.os=os/\(w.forCall c i).Shaped C.prog/\i.vars=[]/\Input.okWide C.prog (w.forCall c i) .any w.heap.size f i /\
    ((s.pre enc C.prog fn k b (w.forCall c i).memory i.args/\X (w.forCall c i).memory i.args)/\sizedMet enc C.prog fn (OpenSpec.ofChange s) b (w.forCall c i).memory i.args)/\a.holds C.prog (lone (Frame.enter C.prog f i.args .normal) [] (w.forCall c i)))
  (h:∀ (W:World) (base:Nat) (args:Array Value) (x y:List (DataW H)) (d:List MemPlace),
    (∀ (j:Nat) t v,fn.params[j]?=some t->args[j]?=some v->Value.okWide C.prog W .any base t v) ->
    DataW.Whole enc C.prog fn.params.toList s.vars b W args.toList x y d ->
    (DataW.weightsEach C.prog (fn.params.toList++s.plain.varTypes C.prog) (x++y)).all (·<=reachBytes)=true->X W args->W.ShapedOpen C.prog ->
    Calls C.prog f args W fun e W'=>∃ v,e=.returned v/\s.post enc C.prog fn b l g m W args v W') :
  ReturnsInHanded a C os f .any (fun w args=>(s.pre enc C.prog fn k b w args/\X w args)/\sizedMet enc C.prog fn (OpenSpec.ofChange s) b w args) (s.post enc C.prog fn b l g m):=by
 refine returnsInHanded_of_calls own n p o ?_;intro w c i _ ad _ al q z;obtain ⟨_,_,_,an,r,_,_,_,_,u⟩:=al;have e:=J0 (r.symm.trans ac);subst e;obtain ⟨⟨⟨x,y,d,hw,hc⟩,hx⟩,hz⟩:=q;have am:=DataW.Whole.of_heap (w':=w.forCall c i) (by rfl) hw;refine (h (w.forCall c i) w.heap.size i.args x y d u am (hz.weights hw) (hX _ _ _ (by rfl) hx) ad).mono fun e W' ⟨v,he,hp⟩=>?_;subst he;exact ChangeSpec.post_blind hp
def Alb:laidOutB Tryz.prog=true:=by kernel_rfl
def Ab8 {W f:World} (g:Below W.heap.size W f):∀ (ts:List TypeId) (vs:List Value) (a:List (DataW H)) (c:List MemPlace),
  DataW.TrodAll enc Tryz.prog W 0 (fun _=>true) true ts vs a c->(∀ x∈c,x.block<W.heap.size)->(∀ t∈ts,Tryz.prog.readableRec t=true/\t<Tryz.prog.types.size) ->
  DataW.TrodAll enc Tryz.prog f 0 (fun b=>decide (b<W.heap.size)) true ts vs a c
 | [],[],[],_,h,_,_=>h
 | [],_ :: _,_,_,h,_,_=>h.elim
 | [],[],_ :: _,_,h,_,_=>h.elim
 | _ :: _,[],_,_,h,_,_=>h.elim
 | _ :: _,_ :: _,[],_,h,_,_=>h.elim
 | t :: ts,v :: vs,d :: a,c,h,hlt,hr=>by
  obtain ⟨p,q,h1,i,rfl⟩:=h;obtain ⟨j,k⟩:=hr t (by simp);exact ⟨p,q,Below.trod Alb j k h1 g (fun x e=>hlt x (by simp [e])),Ab8 g ts vs a q i (fun x e=>hlt x (by simp [e])) (fun u l=>hr u (by simp [l])),rfl⟩
def Ab9 {f:Func} {s:ChangeSpec} {a e c:Bool} {W l:World} {args:Array Value} {v:Value} {i k:List (DataW H)} {d:List MemPlace}
  (m:DataW.Whole enc Tryz.prog f.params.toList s.vars a W args.toList i k d) (r:s.vars=[])
  (j:∀ (b:Nat) (z:Nat->Bool) (hd:Bool),DataW.TrodAll enc Tryz.prog l b z hd f.resultTypes.toList (v.resultList f.resultTypes.size) (s.fn H (i++k)).results [])
  (g:(s.fn H (i++k)).args=i) (hv:(s.fn H (i++k)).vars=[]) (u:Below W.heap.size W l)
  (hr:∀ t∈f.params.toList,Tryz.prog.readableRec t=true/\t<Tryz.prog.types.size) :
  s.post enc Tryz.prog f a e c false W args v l:=by
 have n:=m.lt;have o:=m;obtain ⟨p,q,hA,y,rfl,ac,ad⟩:=m;rw [r] at y;obtain ⟨rfl,rfl⟩:=trodVars_none y;refine ⟨i,[],p++[],[],p,[],o,j _ _ _,?_,?_,u.frame _,fun h=>by simp at h⟩
 .rw [g];exact Ab8 u _ _ _ _ hA (fun x hx=>by simpa using n x (by simp [hx])) hr
 .rw [hv,r];rfl
end Go.Proofs.YtimlcnhcjndijaaGreatDoor
namespace Go.Proofs.YtimlcnhcjndijaaGreatDoor
open Go.ChangeShapes Go.WideShapes Go.ChangeAt Go.RowKit Go.ChangeMaps
def A4 {a b:Bool} (c:a=true) (d:b=true):(a && b)=true:=by rw [c,d];rfl
def Aiu:laidOutB Tryz.pinned.checked.prog=true:=by kernel_rfl
def Aiv:mapsRowed Tryz.pinned.checked.prog=true:=by kernel_rfl
def Aiw:(Tryz.pinned.checked.prog.stops == [])=true:=by kernel_rfl
def Aix:(Tryz.pinned.checked.prog.stopKnobs == [])=true:=by kernel_rfl
def Aiy:Tryz.pinned.checked.prog.stopsHeard=true:=by kernel_rfl
def Aiz:Tryz.pinned.checked.prog.mayEnter=true:=by kernel_rfl
end Go.Proofs.YtimlcnhcjndijaaGreatDoor
