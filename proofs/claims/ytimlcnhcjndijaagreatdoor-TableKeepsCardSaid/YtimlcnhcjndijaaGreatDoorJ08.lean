/- Parts of a proof. No condition. -/
import Derived.RangeFuncWrites
import Derived.Test.YtimlcnhcjndijaaGreatDoorJ01
set_option linter.all false
set_option maxRecDepth 100000
set_option maxHeartbeats 1600000
namespace Go.Proofs.YtimlcnhcjndijaaGreatDoor
open Option renaming some->O,none->I
open Ending renaming returned->Y
open Value renaming bool->Q
open Go renaming World->WD
section
open Go.RowKit Go.Maps Go.Lib
def Xz {β:Type} (b:Nat) (J9q:β->WD->Prop):Prop:=∀s W W',J9q s W->W.grownBy W' (O b)->J9q s W'
def Af6 {α:Type} (F:Fence) (n:Nat) (P:Program) (g:Nat) (lb:Array Value) (encs:α->Array Value) (b:Nat) (xs:List α) (w0:WD):Prop:=
 ∀(l:Nat) (J9q Jx:List α->WD->Prop) (W:WD),Below w0.heap.size w0 W->Xz b J9q->Xz b Jx ->
  (∀pre x W1,J9q pre W1->(pre++[x]) <+: xs->YieldAt F (n-1) P l (encs x) W1 λe W'=>
    (e=Y (Q true)/\J9q (pre++[x]) W'/\W'.heap[b]?=W1.heap[b]?/\W'.heap[0]?=W1.heap[0]?)\/(e=Y (Q false)/\Jx (pre++[x]) W')) ->
  J9q [] W ->
  CallsIn F n P g (#[.func (.yield l) #[] #[]]++lb) W λe W'=>(∃v,e=Y v)/\(J9q xs W'\/(∃pre x,(pre++[x]) <+: xs/\Jx (pre++[x]) W'))
variable {F:Fence} {n:Nat} {P:Program}
def Apz {α:Type} {g:Operand} {ps:Array Tmp} {assign body:Code} {Q9q:Exit->Act->WD->Prop} {a:Act} {w:WD}
  (aV:F.round=I) (h1:1<=n) {gf:Nat} {lb:Array Value} (hg:a.eval g=.func (.func gf) #[] lb) (aJ:F.fn gf) (eg:∀args w,(callFunc gf args).run P w=.ok (.enter gf args) w)
  {ac:α->Array Value} {b:Nat} {xs:List α} {w0:WD} (aI:Af6 F (n-1) P gf lb ac b xs w0) (aX:b<w.heap.size) (aZ:0<w.heap.size)
  (aE:Below w0.heap.size w0 w) (aU:∀x,(ac x).size=ps.size)
  (I9q:List α->WD->Prop) (Ix:Code->List α->WD->Prop) (hI:OwnFrom w.heap.size I9q) (ao:∀c,OwnFrom w.heap.size (Ix c)) (aL:Xz b I9q) (aB:∀c,Xz b (Ix c)) (h0:I9q [] w) (a₁:α->Act)
  (am:∀(l:Nat) (x:α) (W:WD) (K9q:Act->WD->Prop),K9q (a₁ x) W ->
    assign.wpIn (F.inRound l) (n-1-1) P (Exit.then K9q (λ_ _ _=>False)) { tmps:=(ps.zip (ac x)).foldl (λt (p,v)=>t.setIfInBounds p v) a.tmps,defers:=[] } W)
  (ap:∀(l:Nat) (j:List α) (x:α) (W:WD),I9q j W->(j++[x]) <+: xs->body.wpIn (F.inRound l) (n-1-1) P (ownPostG w.heap.size (λW W'=>W'.heap[b]?=W.heap[b]?/\W'.heap[0]?=W.heap[0]?) I9q Ix (j++[x]) W) (a₁ x) W)
  (av:∀(D0:Nat) (W:WD),w.heap.size<=D0->I9q xs W->W.heap[D0]?=O (.deferred (O []))->Q9q .normal { a with defers:={ target:=.collected D0,args:=#[] } :: a.defers } W)
  (aA:∀(D0:Nat) (c:Code) (j:List α) (x:α) (W:WD),w.heap.size<=D0->(j++[x]) <+: xs->Ix c (j++[x]) W->W.heap[D0]?=O (.deferred (O []))->c.wpIn F n P Q9q { a with defers:={ target:=.collected D0,args:=#[] } :: a.defers } W) :
  (Code.rangeFunc g ps assign body).wpIn F n P Q9q a w:=by
 have aD:∀ {A B C:WD},(B.heap[b]?=A.heap[b]?/\B.heap[0]?=A.heap[0]?)->(C.heap[b]?=B.heap[b]?/\C.heap[0]?=B.heap[0]?)->(C.heap[b]?=A.heap[b]?/\C.heap[0]?=A.heap[0]?):=λh k=>⟨k.1.trans h.1,k.2.trans h.2⟩;have aC:∀(W:WD) (l:Nat) (o':Obj),w.heap.size<=l->((W.putObj l o').heap[b]?=W.heap[b]?/\(W.putObj l o').heap[0]?=W.heap[0]?):=λW l o' hl=>⟨World.putObj_heap_other ao9,World.putObj_heap_other ao9⟩;refine wpIn_rangeFunc ?_;intro fn aQ;rw[aV];obtain⟨f,i⟩:∃f:LoopState->Option Code->Loop,f=λst pe=>{ state:=st,pending:=pe,fn,tmps:=a.tmps,params:=ps,assign,body,defers:=w.heap.size }:=⟨_,rfl⟩;obtain⟨W1,al⟩:∃W1,(w.alloc (.deferred (O []))).alloc (.loop (f .ready I))=W1:=⟨_,rfl⟩;have aN:W1.heap[w.heap.size+1]?=O (.loop (f .ready I)):=by rw[<-al];have:=World.alloc_heap_new (w.alloc (.deferred (O []))) (.loop (f .ready I));rwa [J0]at this
 have aM:W1.heap[w.heap.size]?=O (.deferred (O [])):=by rw[<-al];exact(Iv _ _ _ as9).trans (World.alloc_heap_new w _)
 have aK:I9q [] W1:=by rw[<-al];exact hI.alloc _ (hI.alloc _ h0)
 have aP:Below w0.heap.size w0 W1:=by rw[<-al];exact aE.trans ((((Below.refl _ w).alloc Ln _).alloc as9 _).mono aE.size)
 have ad:∀ {A B:WD} {k:Nat} {o:Obj},A.heap[k]?=O o->A.grownBy B (O b)->w.heap.size<=k->B.heap[k]?=O o:=λhk r aY=>
  (r.block _ (R4.1 hk).1 (λe=>by cases e;omega)).trans hk
 refine⟨w.heap.size+1,[{ target:=.collected w.heap.size,args:=#[] }],W1,{ target:=.fn (.func gf) lb,args:=#[.func (.yield (w.heap.size+1)) #[] #[]] },W1,gf,
  #[.func (.yield (w.heap.size+1)) #[] #[]]++lb,W1,?_,?_,?_,?_,λ_=>h1,?_⟩
 .rw [<-al,i];exact run_enterLoop_outer _ _ _ _ _
 .simp only[resolve,hg];simp[go_sem]
 .intro f' aF;simp[Target.leads]at aF;subst aF;exact aJ
 .simp [invoke,go_sem,eg]
 .refine (aI (w.heap.size+1)
   (λj W=>I9q j W/\W.heap[w.heap.size+1]?=O (.loop (f .ready I))/\W.heap[w.heap.size]?=O (.deferred (O [])))
   (λj W=>∃c,Ix c j W/\W.heap[w.heap.size+1]?=O (.loop (f .done (O c)))/\W.heap[w.heap.size]?=O (.deferred (O [])))
   W1 aP
   (λs A B hs r=>⟨aL s A B hs.1 r,ad hs.2.1 r ao9,ad hs.2.2 r Ln⟩)
   (λs A B hs r=>by
     obtain⟨c,hc,hl,hk⟩:=hs
     exact⟨c,aB c s A B hc r,ad hl r ao9,ad hk r Ln⟩)
   ?_ ⟨aK,aN,aM⟩).mono ?_
  .rintro j x W ⟨hi,hl,hk⟩ aH;have aT:=(R4.1 hl).1;have hy:=run_yield (P:=P) (args:=ac x) hl (by rw[i];exact aU x);rw[i]at hy;refine⟨fn,_,assign,body,hy,roundIn_of_wpIn aQ (am _ x W _ ⟨_,run_beginRound hl (by rw[i]),?_⟩)⟩;have aS:(W.putObj (w.heap.size+1) (.loop { f .ready I with state:=.busy })).heap[w.heap.size+1]?=O (.loop { f .ready I with state:=.busy }):=World.putObj_heap_same aT;have aR:(W.putObj (w.heap.size+1) (.loop { f .ready I with state:=.busy })).heap[w.heap.size]?=O (.deferred (O [])):=(World.putObj_heap_other ao9).trans hk;have aW:=aC W (w.heap.size+1) (.loop { f .ready I with state:=.busy }) ao9;refine wpIn_mono (ap _ j x _ (hI.putObj _ hi ao9 hl rfl) aH) ?_;have an:∀(d:Option Code) (W3:WD),KeepsFrom w.heap.size (W.putObj (w.heap.size+1) (.loop { f .ready I with state:=.busy })) W3 ->
     (Instr.endRound (w.heap.size+1) d).run P W3=.ok (Q d.isNone) (W3.putObj (w.heap.size+1) (.loop (f (if d.isNone then .ready else .done) d))) /\
     W3.heap[w.heap.size+1]?=O (.loop { f .ready I with state:=.busy }) /\
     (W3.putObj (w.heap.size+1) (.loop (f (if d.isNone then .ready else .done) d))).heap[w.heap.size+1]?=O (.loop (f (if d.isNone then .ready else .done) d)) /\
     (W3.putObj (w.heap.size+1) (.loop (f (if d.isNone then .ready else .done) d))).heap[w.heap.size]?=O (.deferred (O [])):=λd W3 q=>by
    have m:=q.same _ _ ao9 aS rfl;have:=run_endRound (P:=P) d m;rw[i]at this ⊢;exact⟨this,by rw[i]at m;exact m,World.putObj_heap_same (R4.1 m).1,(World.putObj_heap_other ao9).trans (q.same _ _ Ln aR rfl)⟩
   rintro e a3 W3 hp
   cases e with
   | normal=>
    obtain⟨q,aG,u⟩:=hp;obtain⟨hr,m,z,y⟩:=an I W3 q;exact⟨_,_,hr,.inl ⟨rfl,⟨hI.putObj _ u ao9 m rfl,z,y⟩,aD (aD aW aG) (aC _ _ _ ao9)⟩⟩
   | ret=>
    obtain⟨q,u⟩:=hp;obtain⟨hr,m,z,y⟩:=an (O .ret) W3 q;exact⟨_,_,hr,.inr ⟨rfl,.ret,(ao _).putObj _ u ao9 m rfl,z,y⟩⟩
   | exit id=>
    obtain⟨q,u⟩:=hp;obtain⟨hr,m,z,y⟩:=an (O (.exit id)) W3 q;exact⟨_,_,hr,.inr ⟨rfl,.exit id,(ao _).putObj _ u ao9 m rfl,z,y⟩⟩
   | goto t=>
    obtain⟨q,u⟩:=hp;obtain⟨hr,m,z,y⟩:=an (O (.goto t)) W3 q;exact⟨_,_,hr,.inr ⟨rfl,.goto t,(ao _).putObj _ u ao9 m rfl,z,y⟩⟩
   | panic ch=>exact hp.elim
   | outgrown=>exact hp.elim
  .rintro e W2 ⟨⟨v,rfl⟩,(⟨hi,hl,hk⟩|⟨j,x,aO,c,hi,hl,hk⟩)⟩
   .exact ⟨I,_,by have:=run_endLoop (P:=P) hl (by rw[i];simp);rw[i]at this;exact this,av _ _ Ln (hI.putObj _ hi ao9 hl rfl) ((World.putObj_heap_other ao9).trans hk)⟩
   .exact ⟨O c,_,by have:=run_endLoop (P:=P) hl (by rw[i];simp);rw[i]at this;exact this,aA _ c j x _ Ln aO ((ao c).putObj _ hi ao9 hl rfl) ((World.putObj_heap_other ao9).trans hk)⟩
