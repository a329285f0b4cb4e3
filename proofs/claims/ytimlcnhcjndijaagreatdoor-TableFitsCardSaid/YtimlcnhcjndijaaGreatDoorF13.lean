/- Parts of a proof. No condition. -/
import Derived.Test.YtimlcnhcjndijaaGreatDoorF04
import Derived.Test.YtimlcnhcjndijaaGreatDoorRows
import Derived.Test.YtimlcnhcjndijaaGreatDoorTie
import Derived.Test.YtimlcnhcjndijaaGreatDoorCards
import Derived.ProofKit
import Derived.OpenShut
import Derived.LaidMore
import Derived.Lay
import Derived.SevenTiedAt
set_option linter.all false
set_option maxRecDepth 100000
set_option maxHeartbeats 1600000
namespace Go.Proofs.YtimlcnhcjndijaaGreatDoor
open Go renaming World->WD,Value->VL
open Go.Proofs.Tryz
section
open Go.ChangeShapes Go.WideShapes Go.ChangeAt Go.RowKit
def own:ownKnob prog.godebug=none:=by kernel_rfl
def Anz {W:WD} (h:W.ShapedOpen prog):Mx W:=
 cell_of_shapedOpen_int (g:=0) (t:=3) (zero:=#[.int .i64 0]) h (Kx (by kernel_rfl)) (by kernel_rfl) rfl (by kernel_rfl) (by kernel_rfl) D2
variable {H:Type} {enc:TypeId×VL->H}
def An0 {a:Assume} {C:Checked} {os:Os} {f:FuncId} {fn:Func} {s:ChangeSpec} {l:List PathCond} {b m g k:Bool} {X:WD->Array VL->Prop}
  (hX:∀ (w w':WD) (args:Array VL),w.heap=w'.heap->X w args->X w' args)
  (own:ownKnob C.prog.godebug=none) (n:os.Started) (p:C.prog.inits.idxOf? f=none) (ac:C.prog.funcs[f]?=some fn)
  (o:∃ (w:WD) (c:Tape) (i:Input),w.os=os/\(w.forCall c i).Shaped C.prog/\i.vars=[]/\Input.okWide C.prog (w.forCall c i) .any w.heap.size f i /\
    ((s.pre enc C.prog fn l b (w.forCall c i).memory i.args/\X (w.forCall c i).memory i.args)/\sizedMet enc C.prog fn (OpenSpec.ofChange s) b (w.forCall c i).memory i.args)/\a.holds C.prog (lone (Frame.enter C.prog f i.args .normal) [] (w.forCall c i)))
  (h:∀ (W:WD) (base:Nat) (args:Array VL) (x y:List (DataW H)) (d:List MemPlace),
    (∀ (j:Nat) t v,fn.params[j]?=some t->args[j]?=some v->Value.okWide C.prog W .any base t v) ->
    DataW.Whole enc C.prog fn.params.toList s.vars b W args.toList x y d ->
    (DataW.weightsEach C.prog (fn.params.toList++s.plain.varTypes C.prog) (x++y)).all (·<=reachBytes)=true->X W args->W.ShapedOpen C.prog ->
    Calls C.prog f args W fun e W'=>∃ v,e=.returned v/\s.post enc C.prog fn b m g k W args v W') :
  ReturnsInHanded a C os f .any (fun w args=>(s.pre enc C.prog fn l b w args/\X w args)/\sizedMet enc C.prog fn (OpenSpec.ofChange s) b w args) (s.post enc C.prog fn b m g k):=by
 refine returnsInHanded_of_calls own n p o ?_;intro w c i _ al _ ad r z;obtain ⟨_,_,_,an,q,_,_,_,_,u⟩:=ad;have e:=Lx (q.symm.trans ac);subst e;obtain ⟨⟨⟨x,y,d,hw,hc⟩,hx⟩,hz⟩:=r;have am:=DataW.Whole.of_heap (w':=w.forCall c i) (by rfl) hw;refine (h (w.forCall c i) w.heap.size i.args x y d u am (hz.weights hw) (hX _ _ _ (by rfl) hx) al).mono fun e W' ⟨v,he,hp⟩=>?_;subst he;exact ChangeSpec.post_blind hp
def An1:laidOutB prog=true:=by kernel_rfl
def Ael {W f:WD} (g:Below W.heap.size W f):∀ (ts:List TypeId) (vs:List VL) (a:List (DataW H)) (c:List MemPlace),
  DataW.TrodAll enc prog W 0 (fun _=>true) true ts vs a c->(∀ x∈c,x.block<W.heap.size)->(∀ t∈ts,prog.readableRec t=true/\t<prog.types.size) ->
  DataW.TrodAll enc prog f 0 (fun b=>decide (b<W.heap.size)) true ts vs a c
 | [],[],[],_,h,_,_=>h
 | [],_ :: _,_,_,h,_,_=>h.elim
 | [],[],_ :: _,_,h,_,_=>h.elim
 | _ :: _,[],_,_,h,_,_=>h.elim
 | _ :: _,_ :: _,[],_,h,_,_=>h.elim
 | t :: ts,v :: vs,d :: a,c,h,hlt,hr=>by
  obtain ⟨p,q,h1,i,rfl⟩:=h;obtain ⟨k,l⟩:=hr t (by simp);exact ⟨p,q,Below.trod An1 k l h1 g (fun x e=>hlt x (by simp [e])),Ael g ts vs a q i (fun x e=>hlt x (by simp [e])) (fun u j=>hr u (by simp [j])),rfl⟩
def An2 {f:Func} {s:ChangeSpec} {a e c:Bool} {W l:WD} {args:Array VL} {v:VL} {i k:List (DataW H)} {d:List MemPlace}
  (m:DataW.Whole enc prog f.params.toList s.vars a W args.toList i k d) (y:s.vars=[])
  (j:∀ (b:Nat) (sp:Nat->Bool) (hd:Bool),DataW.TrodAll enc prog l b sp hd f.resultTypes.toList (v.resultList f.resultTypes.size) (s.fn H (i++k)).results [])
  (g:(s.fn H (i++k)).args=i) (hv:(s.fn H (i++k)).vars=[]) (u:Below W.heap.size W l)
  (hr:∀ t∈f.params.toList,prog.readableRec t=true/\t<prog.types.size) :
  s.post enc prog f a e c false W args v l:=by
 have o:=m.lt;have n:=m;obtain ⟨p,q,z,r,rfl,ac,ad⟩:=m;rw [y] at r;obtain ⟨rfl,rfl⟩:=trodVars_none r;refine ⟨i,[],p++[],[],p,[],n,j _ _ _,?_,?_,u.frame _,fun h=>by simp at h⟩
 .rw [g];exact Ael u _ _ _ _ z (fun x hx=>by simpa using o x (by simp [hx])) hr
 .rw [hv,y];rfl
end
section
open Go.ChangeShapes Go.WideShapes Go.ChangeAt Go.RowKit Go.ChangeMaps
def Df {a b:Bool} (c:a=true) (d:b=true):(a && b)=true:=by rw [c,d];rfl
def A0e:laidOutB Tryz.pinned.checked.prog=true:=by kernel_rfl
def A0f:mapsRowed Tryz.pinned.checked.prog=true:=by kernel_rfl
def A0g:(Tryz.pinned.checked.prog.stops == [])=true:=by kernel_rfl
def A0h:(Tryz.pinned.checked.prog.stopKnobs == [])=true:=by kernel_rfl
def A0i:Tryz.pinned.checked.prog.stopsHeard=true:=by kernel_rfl
def A0j:Tryz.pinned.checked.prog.mayEnter=true:=by kernel_rfl
def A0k:Rows.tableFitsRow.wf (OpenSpec.ofChange Rows.tableFitsSpec)=true:=by kernel_rfl
def A0l:f4.params.all (Tryz.pinned.checked.prog.readableRec ·)=true:=by kernel_rfl
def A0m:namedTie Tryz.pinned.checked.prog Rows.tableFitsRow.named Rows.tableFitsSpec.vars=true:=by kernel_rfl
def A0n:(Rows.tableFitsRow.stops == [])=true:=by kernel_rfl
def A0o:(Rows.tableFitsRow.knobs == [])=true:=by kernel_rfl
def A0p:(Rows.tableFitsRow.inPlace == Tryz.pinned.checked.prog.inPlace 4)=true:=by kernel_rfl
def A0q:(Rows.tableFitsRow.unfollowed == Tryz.pinned.checked.prog.unfollowed 4)=true:=by kernel_rfl
def A0r:(Rows.tableFitsRow.recurses == Tryz.pinned.checked.prog.recurses 4)=true:=by kernel_rfl
def A0s:(Rows.tableFitsRow.named == Tryz.pinned.checked.prog.varsNamed 4)=true:=by kernel_rfl
def A0t:(Rows.tableFitsRow.maps == (f4.params.toList++Rows.tableFitsSpec.plain.varTypes Tryz.pinned.checked.prog).any (Tryz.pinned.checked.prog.mapsRec ·))=true:=by kernel_rfl
def A0u:(Rows.tableFitsRow.ifaces == (f4.params.toList++Rows.tableFitsSpec.plain.varTypes Tryz.pinned.checked.prog).any (Tryz.pinned.checked.prog.ifacesRec ·))=true:=by kernel_rfl
def A0v:(Rows.tableFitsRow.mapsOut == Tryz.pinned.checked.prog.mapsAmong f4.resultTypes.toList)=true:=by kernel_rfl
def A0w:(Rows.tableFitsRow.loops == (f4.params.toList++Rows.tableFitsSpec.plain.varTypes Tryz.pinned.checked.prog).any (Tryz.pinned.checked.prog.loopsFrom ·))=true:=by kernel_rfl
def A0x:(Rows.tableFitsRow.wideKeys == (f4.params.toList++Rows.tableFitsSpec.plain.varTypes Tryz.pinned.checked.prog++f4.resultTypes.toList).any (Tryz.pinned.checked.prog.wideKeysFrom ·))=true:=by kernel_rfl
def A0y:Rows.tableFitsSpec.vars.all (Tryz.pinned.checked.prog.varReadable ·)=true:=by kernel_rfl
def A0z:f4.resultTypes.all (fun t=>Tryz.pinned.checked.prog.readableRec t && decide (t<Tryz.pinned.checked.prog.types.size))=true:=by kernel_rfl
def A00:(Rows.tableFitsRow.ifacesOut == f4.resultTypes.toList.any (Tryz.pinned.checked.prog.ifacesRec ·))=true:=by kernel_rfl
def A01:(Rows.tableFitsRow.loopsOut == f4.resultTypes.toList.any (Tryz.pinned.checked.prog.loopsFrom ·))=true:=by kernel_rfl
def A02:(Rows.tableFitsRow.plainKeys == Tryz.pinned.checked.prog.plainKeys)=true:=by kernel_rfl
def A03:Rows.tableFitsRow.shortTexts.isNone=true:=by kernel_rfl
def A04:(Rows.tableFitsRow.lifted == Tryz.pinned.checked.prog.liftsFinal)=true:=by kernel_rfl
def A05:(Tryz.pinned.checked.prog.make == some Rows.tableFitsRow.make)=true:=by kernel_rfl
def A06:(Rows.tableFitsRow.kinds == (if Rows.tableFitsRow.domain.isEmpty then [] else f4.params.toList.map fun t=>match Tryz.pinned.checked.prog.underlying t with | some (.int k)=>some k | _=>none))=true:=by kernel_rfl
def A07:(Rows.tableFitsRow.pinned == Rows.tableFitsRow.pinnedBy)=true:=by kernel_rfl
def A08:(Rows.tableFitsRow.veiled == (f4.params.toList++Rows.tableFitsSpec.plain.varTypes Tryz.pinned.checked.prog++f4.resultTypes.toList).any (Tryz.pinned.checked.prog.veiledRec ·))=true:=by kernel_rfl
def A09:Rows.tableFitsRow.veiledFits Tryz.pinned.checked.prog f4.params.toList (f4.params.toList++Rows.tableFitsSpec.plain.varTypes Tryz.pinned.checked.prog++f4.resultTypes.toList)=true:=by kernel_rfl
def A1a:joinedFacts Tryz.pinned.checked.prog 4 f4 Rows.tableFitsSpec Rows.tableFitsRow=true:=by
 unfold joinedFacts;exact (Df (Df (Df (Df (Df (Df (Df (Df (Df (Df (Df (Df (Df (Df (Df (Df (Df (Df (Df (Df (Df (Df (Df (Df (Df (Df (Df (Df (Df (Df (Df A0k A0e) A0f) A0l) A0m) A0n) A0g) A0o) A0h) A0p) A0q) A0r) A0s) A0t) A0u) A0v) A0w) A0x) A0y) A0z) A00) A01) A02) A03) A0i) A0j) A04) A05) A06) A07) A08) A09)
