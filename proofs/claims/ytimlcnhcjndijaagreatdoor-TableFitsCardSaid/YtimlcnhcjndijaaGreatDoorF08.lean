/- Parts of a proof. No condition. -/
import Derived.RangeFuncWrites
import Derived.Test.YtimlcnhcjndijaaGreatDoorF01
set_option linter.all false
set_option maxRecDepth 100000
set_option maxHeartbeats 1600000
namespace Go.Proofs.YtimlcnhcjndijaaGreatDoor
open Go renaming World->WD
section
open Go.RowKit Go.Maps Go.Lib
def Wc {β:Type} (b:Nat) (J:β->WD->Prop):Prop:=∀ s W W',J s W->W.grownBy W' (some b)->J s W'
def Adt {α:Type} (F:Fence) (n:Nat) (P:Program) (g:Nat) (lb:Array Value) (encs:α->Array Value) (b:Nat) (xs:List α) (w0:WD):Prop:=
 ∀ (l:Nat) (J Jx:List α->WD->Prop) (W:WD),Below w0.heap.size w0 W->Wc b J->Wc b Jx ->
  (∀ pre x W1,J pre W1->(pre++[x]) <+: xs->YieldAt F (n-1) P l (encs x) W1 fun e W'=>
    (e=.returned (.bool true)/\J (pre++[x]) W'/\W'.heap[b]?=W1.heap[b]?/\W'.heap[0]?=W1.heap[0]?)\/(e=.returned (.bool false)/\Jx (pre++[x]) W')) ->
  J [] W ->
  CallsIn F n P g (#[.func (.yield l) #[] #[]]++lb) W fun e W'=>(∃ v,e=.returned v)/\(J xs W'\/(∃ pre x,(pre++[x]) <+: xs/\Jx (pre++[x]) W'))
variable {F:Fence} {n:Nat} {P:Program}
def Amg {α:Type} {g:Operand} {ps:Array Tmp} {assign body:Code} {Q:Exit->Act->WD->Prop} {a:Act} {w:WD}
  (aV:F.round=none) (h1:1<=n) {gf:Nat} {lb:Array Value} (hg:a.eval g=.func (.func gf) #[] lb) (aJ:F.fn gf) (eg:∀ args w,(callFunc gf args).run P w=.ok (.enter gf args) w)
  {ac:α->Array Value} {b:Nat} {xs:List α} {w0:WD} (aI:Adt F (n-1) P gf lb ac b xs w0) (aX:b<w.heap.size) (aZ:0<w.heap.size)
  (aE:Below w0.heap.size w0 w) (aU:∀ x,(ac x).size=ps.size)
  (I:List α->WD->Prop) (Ix:Code->List α->WD->Prop) (hI:OwnFrom w.heap.size I) (ao:∀ c,OwnFrom w.heap.size (Ix c)) (aL:Wc b I) (aB:∀ c,Wc b (Ix c)) (h0:I [] w) (a₁:α->Act)
  (am:∀ (l:Nat) (x:α) (W:WD) (K:Act->WD->Prop),K (a₁ x) W ->
    assign.wpIn (F.inRound l) (n-1-1) P (Exit.then K (fun _ _ _=>False)) { tmps:=(ps.zip (ac x)).foldl (fun t (p,v)=>t.setIfInBounds p v) a.tmps,defers:=[] } W)
  (ap:∀ (l:Nat) (j:List α) (x:α) (W:WD),I j W->(j++[x]) <+: xs->body.wpIn (F.inRound l) (n-1-1) P (ownPostG w.heap.size (fun W W'=>W'.heap[b]?=W.heap[b]?/\W'.heap[0]?=W.heap[0]?) I Ix (j++[x]) W) (a₁ x) W)
  (av:∀ (D:Nat) (W:WD),w.heap.size<=D->I xs W->W.heap[D]?=some (.deferred (some []))->Q .normal { a with defers:={ target:=.collected D,args:=#[] } :: a.defers } W)
  (aA:∀ (D:Nat) (c:Code) (j:List α) (x:α) (W:WD),w.heap.size<=D->(j++[x]) <+: xs->Ix c (j++[x]) W->W.heap[D]?=some (.deferred (some []))->c.wpIn F n P Q { a with defers:={ target:=.collected D,args:=#[] } :: a.defers } W) :
  (Code.rangeFunc g ps assign body).wpIn F n P Q a w:=by
 have aD:∀ {A B C:WD},(B.heap[b]?=A.heap[b]?/\B.heap[0]?=A.heap[0]?)->(C.heap[b]?=B.heap[b]?/\C.heap[0]?=B.heap[0]?)->(C.heap[b]?=A.heap[b]?/\C.heap[0]?=A.heap[0]?):=fun h k=>⟨k.1.trans h.1,k.2.trans h.2⟩;have aC:∀ (W:WD) (l:Nat) (o':Obj),w.heap.size<=l->((W.putObj l o').heap[b]?=W.heap[b]?/\(W.putObj l o').heap[0]?=W.heap[0]?):=fun W l o' hl=>⟨World.putObj_heap_other (by omega),World.putObj_heap_other (by omega)⟩;refine wpIn_rangeFunc ?_;intro fn aQ;rw [aV];obtain ⟨f,i⟩:∃ f:LoopState->Option Code->Loop,f=fun st pe=>{ state:=st,pending:=pe,fn,tmps:=a.tmps,params:=ps,assign,body,defers:=w.heap.size }:=⟨_,rfl⟩;obtain ⟨W1,al⟩:∃ W1,(w.alloc (.deferred (some []))).alloc (.loop (f .ready none))=W1:=⟨_,rfl⟩;have aN:W1.heap[w.heap.size+1]?=some (.loop (f .ready none)):=by rw [<- al];have:=World.alloc_heap_new (w.alloc (.deferred (some []))) (.loop (f .ready none));rwa [I2] at this
 have aM:W1.heap[w.heap.size]?=some (.deferred (some [])):=by rw [<- al];exact (Gz _ _ _ (by simp)).trans (World.alloc_heap_new w _)
 have aK:I [] W1:=by rw [<- al];exact hI.alloc _ (hI.alloc _ h0)
 have aP:Below w0.heap.size w0 W1:=by rw [<- al];exact aE.trans ((((Below.refl _ w).alloc Ln _).alloc (by simp) _).mono aE.size)
 have ad:∀ {A B:WD} {k:Nat} {o:Obj},A.heap[k]?=some o->A.grownBy B (some b)->w.heap.size<=k->B.heap[k]?=some o:=fun hk r aY=>
  (r.block _ (Q7.1 hk).1 (fun e=>by cases e;omega)).trans hk
 refine ⟨w.heap.size+1,[{ target:=.collected w.heap.size,args:=#[] }],W1,{ target:=.fn (.func gf) lb,args:=#[.func (.yield (w.heap.size+1)) #[] #[]] },W1,gf,
  #[.func (.yield (w.heap.size+1)) #[] #[]]++lb,W1,?_,?_,?_,?_,fun _=>h1,?_⟩
 .rw [<- al,i];exact run_enterLoop_outer _ _ _ _ _
 .simp only [resolve,hg];simp [go_sem]
 .intro f' aF;simp [Target.leads] at aF;subst aF;exact aJ
 .simp [invoke,go_sem,eg]
 .refine (aI (w.heap.size+1)
   (fun j W=>I j W/\W.heap[w.heap.size+1]?=some (.loop (f .ready none))/\W.heap[w.heap.size]?=some (.deferred (some [])))
   (fun j W=>∃ c,Ix c j W/\W.heap[w.heap.size+1]?=some (.loop (f .done (some c)))/\W.heap[w.heap.size]?=some (.deferred (some [])))
   W1 aP
   (fun s A B hs r=>⟨aL s A B hs.1 r,ad hs.2.1 r (by omega),ad hs.2.2 r Ln⟩)
   (fun s A B hs r=>by
     obtain ⟨c,hc,hl,hk⟩:=hs
     exact ⟨c,aB c s A B hc r,ad hl r (by omega),ad hk r Ln⟩)
   ?_ ⟨aK,aN,aM⟩).mono ?_
  .rintro j x W ⟨hi,hl,hk⟩ aH;have aT:=(Q7.1 hl).1;have hy:=run_yield (P:=P) (args:=ac x) hl (by rw [i];exact aU x);rw [i] at hy;refine ⟨fn,_,assign,body,hy,roundIn_of_wpIn aQ (am _ x W _ ⟨_,run_beginRound hl (by rw [i]),?_⟩)⟩;have aS:(W.putObj (w.heap.size+1) (.loop { f .ready none with state:=.busy })).heap[w.heap.size+1]?=some (.loop { f .ready none with state:=.busy }):=World.putObj_heap_same aT;have aR:(W.putObj (w.heap.size+1) (.loop { f .ready none with state:=.busy })).heap[w.heap.size]?=some (.deferred (some [])):=(World.putObj_heap_other (by omega)).trans hk;have aW:=aC W (w.heap.size+1) (.loop { f .ready none with state:=.busy }) (by omega);refine wpIn_mono (ap _ j x _ (hI.putObj _ hi (by omega) hl rfl) aH) ?_;have an:∀ (d:Option Code) (W3:WD),KeepsFrom w.heap.size (W.putObj (w.heap.size+1) (.loop { f .ready none with state:=.busy })) W3 ->
     (Instr.endRound (w.heap.size+1) d).run P W3=.ok (.bool d.isNone) (W3.putObj (w.heap.size+1) (.loop (f (if d.isNone then .ready else .done) d))) /\
     W3.heap[w.heap.size+1]?=some (.loop { f .ready none with state:=.busy }) /\
     (W3.putObj (w.heap.size+1) (.loop (f (if d.isNone then .ready else .done) d))).heap[w.heap.size+1]?=some (.loop (f (if d.isNone then .ready else .done) d)) /\
     (W3.putObj (w.heap.size+1) (.loop (f (if d.isNone then .ready else .done) d))).heap[w.heap.size]?=some (.deferred (some [])):=fun d W3 q=>by
    have m:=q.same _ _ (by omega) aS rfl;have:=run_endRound (P:=P) d m;rw [i] at this ⊢;exact ⟨this,by rw [i] at m;exact m,World.putObj_heap_same (Q7.1 m).1,(World.putObj_heap_other (by omega)).trans (q.same _ _ Ln aR rfl)⟩
   rintro e a3 W3 hp
   cases e with
   | normal=>
    obtain ⟨q,aG,u⟩:=hp;obtain ⟨hr,m,z,y⟩:=an none W3 q;exact ⟨_,_,hr,.inl ⟨rfl,⟨hI.putObj _ u (by omega) m rfl,z,y⟩,aD (aD aW aG) (aC _ _ _ (by omega))⟩⟩
   | ret=>
    obtain ⟨q,u⟩:=hp;obtain ⟨hr,m,z,y⟩:=an (some .ret) W3 q;exact ⟨_,_,hr,.inr ⟨rfl,.ret,(ao _).putObj _ u (by omega) m rfl,z,y⟩⟩
   | exit id=>
    obtain ⟨q,u⟩:=hp;obtain ⟨hr,m,z,y⟩:=an (some (.exit id)) W3 q;exact ⟨_,_,hr,.inr ⟨rfl,.exit id,(ao _).putObj _ u (by omega) m rfl,z,y⟩⟩
   | goto t=>
    obtain ⟨q,u⟩:=hp;obtain ⟨hr,m,z,y⟩:=an (some (.goto t)) W3 q;exact ⟨_,_,hr,.inr ⟨rfl,.goto t,(ao _).putObj _ u (by omega) m rfl,z,y⟩⟩
   | panic ch=>exact hp.elim
   | outgrown=>exact hp.elim
  .rintro e W2 ⟨⟨v,rfl⟩,(⟨hi,hl,hk⟩ | ⟨j,x,aO,c,hi,hl,hk⟩)⟩
   .exact ⟨none,_,by have:=run_endLoop (P:=P) hl (by rw [i];simp);rw [i] at this;exact this,av _ _ Ln (hI.putObj _ hi (by omega) hl rfl) ((World.putObj_heap_other (by omega)).trans hk)⟩
   .exact ⟨some c,_,by have:=run_endLoop (P:=P) hl (by rw [i];simp);rw [i] at this;exact this,aA _ c j x _ Ln aO ((ao c).putObj _ hi (by omega) hl rfl) ((World.putObj_heap_other (by omega)).trans hk)⟩
