/- Parts of a proof. No condition. -/
import Derived.Test.YtimlcnhcjndijaaGreatDoorH06
import Derived.Deep.RegionHeld3
set_option linter.all false
set_option maxRecDepth 100000
set_option maxHeartbeats 6400000
namespace Go.Proofs.YtimlcnhcjndijaaGreatDoor
open Option renaming some->O,none->I
open Obj renaming cells->J
open IntKind renaming i64->G
open Value renaming int->Z,bool->Y,string->E,tuple->D,slice->V,pointer->K
open Ending renaming returned->Q
open Go renaming World->WD,Value->VL
open Go.RowKit renaming Below->BW
open Go.Proofs.Tryz
section
open Go.RowKit Go.Maps Go.Lib
variable{b base n size:Nat}{P:Program}{T:TypeId}{v:VL}{w:WD}
instance A3s:DecidableEq ByteArray:=λa b=>decidable_of_iff (a.data.toList=b.data.toList) ⟨O1,λh=>by rw[h]⟩
def Jm (ns:List ByteArray) (s:ByteArray):Bool:=ns.any λn=>decide (n=s)
def T3 {a:List ByteArray} {s:ByteArray}:Jm a s=true↔s∈a:=by
 unfold Jm;rw[Ku];exact⟨λ⟨x,h1,h2⟩=>by rw[<-G9 h2];exact h1,λh=>⟨s,h,Bs rfl⟩⟩
def P9:List ByteArray->Bool
 | []=>false
 | p :: ps=>Jm ps p || P9 ps
def Ea (ns:List ByteArray) (m:Nat) (name:ByteArray) (parts:List ByteArray):Int:=
 if Jm ns name=true then 51 else if P9 parts=true then 51 else if 16<=m\/8<parts.length then 2 else 0
structure Jn (fb mb base lo:Nat) (w w':WD):Prop where
 low:BW lo w w'
 same:∀(k:Nat) (o:Obj),w.heap[k]?=O o->k≠mb->k≠fb->(k<base\/∀c fr,o≠J c 69 fr)->w'.heap[k]?=O o
def Am0 (w:WD):(zeroValue 3).run prog w=.ok (Z G 0) w:=by kernel_rfl
def Am1  {b a base:Nat} {g:VL} {xs:List aw} (h:jm w b a base g xs) (s:ByteArray) (f:s.size<=maxLen) :
  ∃c,(Instr.lookup 99 (.map (O a)) (E s) true).run prog w=.ok (D #[Z G c,Y (has (K2 (xs.map aw.name)) (Bw s))]) w/\(K2 (xs.map aw.name)).atKey (Bw s) (.lit (.int G 0))=.lit (.int G c):=by
 obtain⟨v,i,h1,d⟩:=h.map.look_ok (string_keyed Fu) underlying99 (Am0 w) (plainElem_int Kr ad9) (Vp Fu f);obtain⟨c,rfl,e,_⟩:=plainElem_int_inv Kr d;exact⟨c,h1,Ca Prod.fst e⟩
def Xe  {t e:TypeId} {i:TypeInfo} (d:P.underlying t=O (.slice e)) (f:P.info? e=O i) (b:Addr) (a cap n:Nat) (x:Int) (j:x=n) (g:n<=cap) (w:WD) :
  (Instr.slice t (V (O b) a cap) I (O (Z G x)) I).run P w=.ok (V (O b) n cap) w:=by
 subst j
 have h1:∀(y:Nat) (_:n<=y) c,(Instr.sliceBound (Z G (n:Int)) y c).run P w=.ok n w:=λy h c=>by
  simp[Instr.sliceBound,asIntOf,h]
 simp[Instr.slice,Instr.sliceBounds,My d,h1 cap g,sizeOf,typeInfo,f,Addr.add]
def Aag (l:List ByteArray) (k:Nat):Prop:=∃i j s,j<i/\i<k/\l[i]?=O s/\l[j]?=O s
def Aef (l:List ByteArray):P9 l=true↔Aag l l.length:=by
 induction l with
 | nil=>exact⟨λh=>(by cases h),λ⟨i,j,s,h1,b,_⟩=>absurd b (P3 _)⟩
 | cons p ps ih=>
  unfold P9;rw[Bool.or_eq_true,ih,T3];constructor
  .rintro (h|⟨i,j,s,h1,b,c,a⟩)
   .obtain ⟨i,d,e⟩:=List.getElem_of_mem h;exact⟨i+1,0,p,ao9,by simp;omega,by simp[Az d,e],as9⟩
   .exact ⟨i+1,j+1,s,ao9,by simp;omega,by simpa using c,by simpa using a⟩
  .rintro ⟨i,j,s,h1,b,c,a⟩
   cases i with
   | zero=>omega
   | succ i=>
    simp at b c
    cases j with
    | zero=>simp at a;subst a;exact .inl (Ai c)
    | succ j=>simp at a;exact .inr ⟨i,j,s,ao9,b,c,a⟩
def Am2:0<6:=Iw _
def Am3:(prog.info? 69).map (λi=>(i.zero,i.size,i.bytes))=O (O (.agg #[E ByteArray.empty,Z G 0,Z G 0,Z G 0,Z G 0,V I 0 0]),6,72):=by kernel_rfl
def Am4 (x:aw):∀u∈x.cells.toList,u.oneCell'=true:=by simp[Value.oneCell']
def Xf  {f d base k:Nat} {i:VL} {xs:List aw} {c:Array VL}  {fr:Nat×Nat} (h:jm w f d base i xs) (b:w.heap[k]?=O (J c T fr)):k≠d:=λe=>by
 obtain⟨j,a,g,_⟩:=h.map;rw[e,g]at b;cases b
def Am5 (w:WD) (x:aw):∀j u,x.cells.toList[j]?=O u->(w.alloc (J x.cells 69 (0,0))).cell? ((⟨w.heap.size,0,I⟩:Addr).add j)=O u:=by
 intro j u a;rw[Tq,Dm,Aa (Ah w _) j];simpa using a
def Aeg  {base size n g:Nat} {e:TypeId}  {xs:List VL} (h:w.ownsRow base e size v n xs) (b:v.ownBlock=O g):∃a,w.heap[g]?=O (J a e (0,0)):=by
 rcases h.2 with⟨c,_⟩|⟨d,cap,a,c,_,f,_⟩
 .rw [c]at b;simp[Value.ownBlock]at b
 .rw [c]at b;have e':d=g:=by simpa[Value.ownBlock]using b
  subst e';exact⟨a,f⟩
def Jn.kr {c e base b:Nat} {w w':WD} (h:BW w.heap.size w w') (d:b<=w.heap.size):Jn c e base b w w':=
 ⟨h.mono d,λ_ _ a _ _ _=>Ae h a (Ac a)⟩
structure zm (base fb:Nat) (w5:WD) (X:aw) (nv:VL) (n:Nat) (xs:List aw) (wx:WD):Prop where
 ex:∃v1 w9,w9.ownsRow base 69 6 v1 (n+1) (Aq aw.cells xs++X.cells.toList)/\((w5.alloc (J X.cells 69 (0,0))).drew).grownBy w9 nv.ownBlock/\wx=w9.setCell ⟨fb,0,I⟩ v1
def T5  {q:Array Oper} {o:Oper} {a:Act}  {K9q:Act->WD->Prop} {Q9q:Exit->Act->WD->Prop} {E9q:Prop} (af:o.guard=I) (s x:Operand) (t:TypeId)
  (ho:o.op=.call { callee:=.builtin .append,args:=#[s,x],argTypes:=#[t,t] })
  (base:Nat) (e:TypeId) (i:TypeInfo) (z:VL) (size d:Nat) (ht:P.underlying t=O (.slice e)) (hi:P.info? e=O i) (hz:i.zero=O z)
  (m:i.size=size) (ac:i.bytes=d) (am:z.cells.size=size) (al:0<size)
  (v:VL) (n:Nat) (xs:List VL) (hs:a.eval s=v) (p:w.ownsRow base e size v n xs)
  (r:Addr) (c:Nat) (b:List VL) (hx:a.eval x=V (O r) 1 c) (hl:b.length=1*size) (l:∀j u,b[j]?=O u->w.cell? (r.add j)=O u) (h1:∀u∈b,u.oneCell'=true)
  (y:n+1<=maxLen) (f:(n+1)*d<=140737488355328) (k:base<=w.heap.size)
  (h:∀g cap w',w'.ownsRow base e size (V (O ⟨g,0,I⟩) (n+1) cap) (n+1) (xs++b)->w.grownBy w' v.ownBlock->K9q (a.put o.dst (V (O ⟨g,0,I⟩) (n+1) cap)) w') :
  if Region.wanted o (yielded q a.tmps)=true then Oper.wp P o a w K9q Q9q else E9q:=by
 have hw:Region.wanted o (yielded q a.tmps)=true:=by simp[Region.wanted,af]
 rw[Ad hw]
 exact wp_append_own w s x t ho base e i z size d ht hi hz m ac am al v n xs hs p r 1 c b hx hl l h1 y f k λv' w' h2 h3 _=>by
  obtain⟨g,cap,rfl⟩:=Joins.ownsRow_form h2 (Iw _);exact h g cap w' h2 h3
structure zt (W2:WD) (tb:Bool) (tv:VL) (wx:WD):Prop where
 tv:tv=Y tb
 wx:wx=W2
structure zk (W1:WD) (c:Int) (b:Bool) (cv bv:VL) (wx:WD):Prop where
 cv:cv=Z G c
 bv:bv=Y b
 wx:wx=W1.drew
def Am6   {e T:TypeId}  {xs:List VL} {o:Array VL} (h:w.ownsRow base e size v n xs) (l:w.heap[b]?=O (J o T (0,0))) (k:T≠e) (i:Nat) (u:VL):(w.setCell ⟨b,i,I⟩ u).ownsRow base e size v n xs:=by
 obtain⟨h1,j⟩:=h;refine⟨h1,?_⟩;rcases j with h|⟨g,cap,d,q,m,a,p⟩
 .exact .inl h
 .have f:g≠b:=λc=>by rw[c,l]at a;simp at a;exact k a.2
  exact .inr ⟨g,cap,d,q,m,Dg f _ a,p⟩
def Am7 {w wc m g:WD} {d q base lo n:Nat} {nv i:VL} {xs:List aw} {x:aw} (hF:jm wc d q base nv xs) (hn:n=xs.length) (al:lo<=d) (am:lo<=q) (ac:lo<=base) (z:wc.drew.grownBy m (O q))
  (ap:m.ownsMap prog 9 (plainElem (H:=Unit) prog 3) q (n+1) ((K2 (xs.map aw.name)).put (Bw x.name) (.lit (.int G (n:Int)))))
  (p:((m.alloc (J x.cells 69 (0,0))).drew).grownBy g nv.ownBlock) (aA:g.ownsRow base 69 6 i (n+1) (Aq aw.cells xs++x.cells.toList)) (h9:g.heap[d]?=O (J #[nv,.map (O q)] 101 (0,0)))
  (hx:x.ok wc) (hp:R2 wc x) (ad:base<=w.heap.size) (j:BW w.heap.size w wc) :
  jm (g.setCell ⟨d,0,I⟩ i) d q base i (xs++[x])/\Jn d q base lo w (g.setCell ⟨d,0,I⟩ i):=by
 have aB:wc.heap.size<=m.heap.size:=z.size;have aE:m.heap.size+1<=g.heap.size:=by have:=p.size;rw[show((m.alloc (J x.cells 69 (0,0))).drew).heap.size=m.heap.size+1 from Kt _ _]at this;exact this
 have s:∀k,nv.ownBlock=O k->base<=k/\∃u,wc.heap[k]?=O (J u 69 (0,0)):=λk e=>⟨(hF.row.lt k e).1,Aeg hF.row e⟩
 have t:∀(k:Nat) (o:Obj),wc.heap[k]?=O o->k≠q->k≠d->(k<base\/∀c fr,o≠J c 69 fr)->(g.setCell ⟨d,0,I⟩ i).heap[k]?=O o:=λk o hk h1 v h3=>by
  have ao:=Ac hk;refine Dg v _ ?_;refine(p.block k (by show k<(m.alloc _).heap.size;rw[Kt];omega) (λe=>?_)).trans (Ak _ ((z.block k ao (λe=>h1 (by cases e;rfl))).trans hk));obtain⟨e1,u,e2⟩:=s k e.symm;rcases h3 with h3|h3
  .omega
  .rw [hk]at e2;exact h3 _ _ (N4 e2)
 have aC:wc.heap.size<=(g.setCell ⟨d,0,I⟩ i).heap.size:=by
  have:(g.setCell ⟨d,0,I⟩ i).heap.size=g.heap.size:=by simp[World.setCell]
  omega
 have l:∀y:aw,y.ok wc->R2 wc y->y.ok (g.setCell ⟨d,0,I⟩ i)/\R2 (g.setCell ⟨d,0,I⟩ i) y:=λy hy aD=>by
  have af:∀b f,y.po=O ⟨b,f,I⟩->∃c,wc.heap[b]?=O (J c 9 (0,0))/\(g.setCell ⟨d,0,I⟩ i).heap[b]?=O (J c 9 (0,0)):=λb f e=>by
   obtain⟨c,hc⟩:=aD b f e;refine⟨c,hc,t b _ hc (Xf hF hc) (λe=>?_) (.inr λc' fr e=>by injection e with e1 e2 e3;exact absurd e2 ad9)⟩;rw[e,hF.head]at hc;simp at hc
  refine⟨⟨Xd hy.parts aC λb f e _=>?_,hy.nu⟩,λb f e=>?_⟩
  .obtain ⟨c,h1,v⟩:=af b f e;rw[h1,v]
  .obtain ⟨c,_,v⟩:=af b f e;exact⟨c,v⟩
 refine⟨⟨by rw[Am h9];rfl,?_,?_,λy hy=>?_⟩,?_,λk o hk h1 v h3=>t k o (Ae j hk (Ac hk)) h1 v h3⟩
 .have:=Am6 aA h9 ad9 0 i;rw[O2,R1,Av,<-hn];exact this
 .rw [Dw,Av,<-hn]
  have av:=((ap.alloc (J x.cells 69 (0,0))).drew.kept p (λe=>by
   obtain⟨_,u,e2⟩:=s q e.symm
   exact Xf hF e2 rfl)).setCell (a:=⟨d,0,I⟩) (λe=>Xf hF hF.head e.symm) i
  rw[show List.map aw.name [x]=[x.name]from rfl,Aae,As,<-hn];exact av
 .rcases C7.1 hy with h|h
  .exact l y (hF.ok y h).1 (hF.ok y h).2
  .have:y=x:=by simpa using h
   subst this;exact l y hx hp
 .have an:=Aw ad j.size;have r:=Aw ac an;have b1:=(j.mono (Aw ac ad)).drew;have b2:=b1.grown z r (λk e=>by cases e;exact am);have b3:BW lo w ((m.alloc (J x.cells 69 (0,0))).drew):=(b2.alloc (Aw r aB) _).drew
  have b4:=b3.grown p (by
   show lo<=(m.alloc (J x.cells 69 (0,0))).heap.size
   rw[Kt];omega) (λk e=>Aw ac (hF.row.lt k e).1)
  exact b4.setCell al _
def Am8 (w:WD) (fb mb base lo:Nat) (nv:VL) (xs:List aw) (x:aw) (hF:jm w fb mb base nv xs) (hx:x.ok w) (hp:R2 w x) (hn:x.name.size<=maxLen) (bH:x.pn<=4294967296) (bb:lo<=fb) (bc:lo<=mb) (aK:lo<=base) (aI:base<=w.heap.size) :
  Calls prog 42 #[K (O ⟨fb,0,I⟩),x.val] w λe w'=>∃bl,e=Q (Z G (Ea (xs.map aw.name) xs.length x.name x.parts))/\jm w' fb mb base bl (if Ea (xs.map aw.name) xs.length x.name x.parts=0 then xs++[x]else xs)/\Jn fb mb base lo w w':=by
 obtain⟨i9,bf,bJ,bw,bx⟩:=B6 Xa;obtain⟨r,cp,po,pn,pc,o⟩:=x;obtain⟨W1,aS⟩:=Ex (w.alloc (J (⟨r,cp,po,pn,pc,o⟩:aw).cells 69 (0,0)));have aD:BW w.heap.size w W1:=by rw[aS];exact Bn
 have aG:=hF.below aD;have aP:W1.heap[w.heap.size]?=O (J (⟨r,cp,po,pn,pc,o⟩:aw).cells 69 (0,0)):=by rw[aS];exact Ah _ _
 have al:=aG.below ((Below.refl _ _).drew);obtain⟨c,a8,a5⟩:=Am1 al r hn;obtain⟨b,hb⟩:=Ex (has (K2 (xs.map aw.name)) (Bw r));rw[<-hb]at a8;have f0:=Aa aG.head 0;have f1:=Aa aG.head 1;have y0:=Aa aP 0;have y5:=Aa aP 5;simp at f0 f1 y0 y5;replace⟨hF,hx,hp,aD,aG,aP,al,a5⟩:=H8 hF hx hp aD aG aP al a5;replace hb:=Hh hb;have a4:=Hh aS;clear aS;go_enter func42,ntmps42;go_wp2_with fail;rw[<-a4.out];go_step3;go_upto_region 1 with fail;go_cut [5,6] (λcv bv wx=>zk W1 c b cv bv wx)
 case first=>
  go_region_with (fail)
  all_goals
   go_wp2_with fail;go_meet;exact⟨rfl,rfl,rfl⟩
 case rest=>
  obtain⟨rfl,rfl,rfl⟩:=hcut
  cases b with
  | true=>
   have y:Ea (xs.map aw.name) xs.length r o=51:=(by unfold Ea;rw[Ad (by rw[T3];exact(Aee _ _).1 hb.symm)]);have f:=aD.drew;have t:=aI;replace⟨y,f,t⟩:=H3 y f t;go_wp2
   try rw[Lu]
   go_ret;exact⟨nv,by rw[y.out];rfl,by rw[y.out];exact al.out,Jn.kr f.out (Aw aK t.out)⟩
  | false=>
   have aE:¬Jm (xs.map aw.name) r=true:=λh=>by
    have:=(Aee _ _).2 (T3.1 h);rw[<-hb.out]at this;cases this
   obtain⟨W2,ap⟩:=Ex (W1.drew);have m:jm W2 fb mb base nv xs:=(by rw[ap];exact al.out);have aQ:W2.heap[w.heap.size]?=O (J (⟨r,cp,po,pn,pc,o⟩:aw).cells 69 (0,0)):=(by rw[ap];exact aP.out);have an:Fz W2 po pn o:=(by rw[ap];exact(hx.low (aD.drew)).parts);clear f0 f1 y0 y5 a8;have f0:=Aa m.head 0;have f1:=Aa m.head 1;have y0:=Aa aQ 0;have y5:=Aa aQ 5;simp at f0 f1 y0 y5;obtain⟨tb,ao⟩:=Ex (P9 o);have aF:=an.len;have bs:pn<=pc:=hx.nu;rw[<-ap];replace⟨aE,m,aQ,an,ap,ao,aF⟩:=H7 aE m aQ an ap ao aF;go_upto_block 0 with fail;go_step3;go_upto_block 0 with fail;go_cut [7,8,9,11]from 26 to 44 (λtv _ _ _ wx=>zt W2 tb tv wx)
   case first=>
    go_wp2;go_loopw [7,8,9,11,26] (λtv _ _ _ i wr=>∃k:Nat,tv=Y false/\i=Z G k/\k<=pn/\wr=W2/\Hid (¬Aag o k)) (λ_ _ _ _ i _=>pn-(intOf i).toNat)
    case atStart=>exact⟨0,rfl,rfl,Ar _,rfl,λ⟨i,j,s,h1,h2,_⟩=>absurd h2 (P3 _)⟩
    case round=>
     obtain⟨k,rfl,rfl,hk,rfl,hD⟩:=hrel;by_cases a7:k<pn
     .have bd:(k:Int)<pn:=ao9;have bG:(0:Int)<=(k:Int):=ao9;obtain⟨p,aO⟩:=an.get a7;obtain⟨b',ba,rfl,bB,bD⟩:=an.cell k p aO;have bI:=λw=>Xe Vm bf ⟨b',ba,I⟩ pn pc k k rfl ao9 w;replace aO:=Hh aO;go_wp2;go_loopw [7,11,36] (λtv _ i wq=>∃j:Nat,tv=Y false/\i=Z G j/\j<=k/\wq=wr/\Hid (∀j',j'<j->o[j']?≠O p)) (λ_ _ i _=>k-(intOf i).toNat)
      case atStart=>exact⟨0,rfl,rfl,Ar _,rfl,λj' h=>absurd h (P3 _)⟩
      case round=>
       obtain⟨j,rfl,rfl,hj,rfl,hN⟩:=hrel;by_cases bg:j<k
       .have be:(j:Int)<k:=ao9;have bF:(0:Int)<=(j:Int):=ao9;obtain⟨q,aC⟩:=an.get (i:=j) ao9;obtain⟨b2,bA,e2,bC,bE⟩:=an.cell j q aC;cases e2;by_cases am:p=q
        .have d:(p.toList == q.toList)=true:=(by rw[am];simp);have ht:tb=true:=(by rw[ao.out,Aef];exact⟨k,j,p,bg,by rw[aF.out];exact a7,aO.out,by rw[am];exact aC⟩);replace⟨aC,am,ht⟩:=H3 aC am ht;go_wp2;go_meet
         case rel=>exact⟨by rw[ht.out],rfl⟩
        .have d:(p.toList == q.toList)=false:=by simp only[Bh];intro e;rw[Lib.toList_data,Lib.toList_data]at e;exact am (O1 e)
         have aX:∀j',j'<j+1->o[j']?≠O p:=λj' h e=>by
          by_cases c:j'=j
          .subst c;rw[aC]at e;exact am (N4 e).symm
          .exact hN.out j' ao9 e
         replace⟨aC,am,aX⟩:=H3 aC am aX;go_wp2;go_roundw
         case rel=>exact⟨j+1,rfl,by go_num,ao9,trivial,aX.out⟩
         case measure=>simp[intOf];omega
       .have be:¬(j:Int)<k:=ao9
        have aU:¬Aag o (k+1):=λ⟨i,j',s,h1,h2,h3,h4⟩=>by
         by_cases c:i=k
         .subst c;rw[aO.out]at h3;exact hN.out j' ao9 (by rw[h4,<-h3])
         .exact hD.out ⟨i,j',s,h1,ao9,h3,h4⟩
        replace aU:=Hh aU;go_wp2;go_roundw
        case rel=>exact⟨k+1,rfl,by go_num,ao9,trivial,aU.out⟩
        case measure=>simp[intOf];omega
     .have bd:¬(k:Int)<pn:=ao9;have aZ:k=pn:=ao9;have ht:tb=false:=(by rw[ao.out,Jl];intro c;exact hD.out (by rw[aZ,<-aF.out];exact(Aef o).1 c));replace⟨ht,aZ⟩:=H2 ht aZ;go_wp2;go_meet
      case rel=>exact⟨by rw[ht.out],rfl⟩
   case rest=>
    obtain⟨rfl,rfl⟩:=hcut;have f:BW w.heap.size w wc:=(by rw[ap.out];exact aD.drew);have t:=aI
    cases tb with
    | true=>
     have y:Ea (xs.map aw.name) xs.length r o=51:=(by unfold Ea;rw[Ab aE.out,Ad ao.symm]);replace⟨y,f,t⟩:=H3 y f t;go_wp2
     try rw[Lu]
     go_ret;exact⟨nv,by rw[y.out];rfl,by rw[y.out];exact m.out,Jn.kr f.out (Aw aK t.out)⟩
    | false=>
     have bi:∀ty w,(Builtin.len_ #[52] ty #[nv]).run prog w=.ok (Z G (xs.length:Int)) w:=λty w=>by
      rcases Joins.ownsRow_forms m.row with⟨rfl,h0⟩|⟨g,cap,rfl⟩
      .rw [h0];simp[go_sem,Tl]
      .simp [go_sem,Tl]
     obtain⟨n,z⟩:=Ex (xs.length);rw[<-z]at bi;replace⟨z,f,t⟩:=H3 z f t;by_cases q1:16<=n
     .have d1:decide ((16:Int)<=n)=true:=Bs ao9;have y:Ea (xs.map aw.name) xs.length r o=2:=(by unfold Ea;rw[Ab aE.out,Ab (by rw[<-ao.out];simp),Ad (.inl (by rw[<-z.out];exact q1))]);replace y:=Hh y;go_wp2
      try rw[Lu]
      go_ret;exact⟨nv,by rw[y.out];rfl,by rw[y.out];exact m.out,Jn.kr f.out (Aw aK t.out)⟩
     have d1:decide ((16:Int)<=n)=false:=Bz ao9;by_cases q2:8<pn
     .have d2:decide ((8:Int)<pn)=true:=Bs ao9;have y:Ea (xs.map aw.name) xs.length r o=2:=(by unfold Ea;rw[Ab aE.out,Ab (by rw[<-ao.out];simp),Ad (.inr (by rw[aF.out];exact q2))]);replace y:=Hh y;go_wp2
      try rw[Lu]
      go_ret;exact⟨nv,by rw[y.out];rfl,by rw[y.out];exact m.out,Jn.kr f.out (Aw aK t.out)⟩
     have d2:decide ((8:Int)<pn)=false:=Bz ao9;have y:Ea (xs.map aw.name) xs.length r o=0:=(by unfold Ea;rw[Ab aE.out,Ab (by rw[<-ao.out];simp),Ab (by rw[<-z.out,aF.out];omega)]);replace y:=Hh y;have aN:wc.drew.ownsMap prog 9 (plainElem (H:=Unit) prog 3) mb n (K2 (xs.map aw.name)):=(by rw[z.out];exact m.map);have aL:n<maxLen:=(by have:maxLen=9223372036854775807:=rfl;omega);have aJ:keyOf prog 9 (.string r)=O (Bw r):=Vp Fu hn;have a0:(Lit.int G (n:Int)).wf=true:=WalkArith.wf_i64 ao9;replace⟨aN,aL,aJ,a0⟩:=H4 aN aL aJ a0;go_upto_region 19 with fail;go_still_tail 11,(by kernel_rfl);change wpList _ _ _ _ _ wc.drew;go_upto_region 20 with(at_mapUpdate;refine Zl _ rfl _ _ _ 99 rfl 9 3 (string_keyed Fu) underlying99 _ mb n _ rfl aN.out aL.out _ _ (Bw r) rfl rfl aJ.out _ [] (plainElem_int Kr a0.out) ?_;intro w5 aA v;replace⟨aA,v⟩:=H2 aA v)
     have k5:∀(k:Nat) (c:Array VL) (T:TypeId) (fr:Nat×Nat),wc.heap[k]?=O (J c T fr)->w5.heap[k]?=O (J c T fr):=λk c T fr h=>
      (v.block k (Ac h) (λe=>Xf m.out h (by cases e;rfl))).trans h
     have h5:=k5 _ _ _ _ m.head;have af:=k5 _ _ _ _ aQ.out
     have ad:w5.ownsRow base 69 6 nv n (Aq aw.cells xs):=by
      refine⟨by rw[z.out];exact m.row.1,?_⟩;rcases m.row.2 with⟨e1,e2⟩|⟨g,cap,a3,hv,hg,hh,hr⟩
      .exact .inl ⟨e1,by rw[z.out];exact e2⟩
      .exact .inr ⟨g,cap,a3,by rw[z.out];exact hv,hg,k5 _ _ _ _ hh,by rw[z.out];exact hr⟩
     clear f0 f1 y0 y5;have f0:=Aa h5 0;have y0:=Aa af 0;have y1:=Aa af 1;have y2:=Aa af 2;have y3:=Aa af 3;have y4:=Aa af 4;have y5:=Aa af 5;simp at f0 y0 y1 y2 y3 y4 y5;have bK:=Ac h5;have bL:=Ac af;obtain⟨bk,a6,a9,a1,a2⟩:=B6 Am3;have aB:((w5.alloc (J (⟨r,cp,po,pn,pc,o⟩:aw).cells 69 (0,0))).drew).ownsRow base 69 6 nv n (Aq aw.cells xs):=ad.alloc (J (⟨r,cp,po,pn,pc,o⟩:aw).cells 69 (0,0));have av:∀j u,(⟨r,cp,po,pn,pc,o⟩:aw).cells.toList[j]?=O u->((w5.alloc (J (⟨r,cp,po,pn,pc,o⟩:aw).cells 69 (0,0))).drew).cell? ((⟨w5.heap.size,0,I⟩:Addr).add j)=O u:=Am5 w5 (⟨r,cp,po,pn,pc,o⟩:aw);have aM:=Am4 (⟨r,cp,po,pn,pc,o⟩:aw);have aT:=Gh (n:=n) ao9;have aY:(n+1)*72<=140737488355328:=ao9;have aH:base<=((w5.alloc (J (⟨r,cp,po,pn,pc,o⟩:aw).cells 69 (0,0))).drew).heap.size:=by have:=t.out;have:=f.size;have:wc.drew.heap.size=wc.heap.size:=rfl;show base<=(w5.alloc (J (⟨r,cp,po,pn,pc,o⟩:aw).cells 69 (0,0))).heap.size;rw[Kt];omega
     have ac:∀w9:WD,((w5.alloc (J (⟨r,cp,po,pn,pc,o⟩:aw).cells 69 (0,0))).drew).grownBy w9 nv.ownBlock->w9.heap[fb]?=O (J #[nv,.map (O mb)] 101 (0,0)):=λw9 hg=>by
      refine(hg.block fb (by have:=Ac h5;show fb<(w5.alloc (J (⟨r,cp,po,pn,pc,o⟩:aw).cells 69 (0,0))).heap.size;rw[Kt];omega) (λe=>?_)).trans (Ak (J (⟨r,cp,po,pn,pc,o⟩:aw).cells 69 (0,0)) h5);obtain⟨a3,hc⟩:=Aeg ad e.symm;rw[h5]at hc;simp at hc
     replace⟨h5,af,ad,aB,av,aM,aT,aY⟩:=H8 h5 af ad aB av aM aT aY;replace⟨aH,ac,k5⟩:=H3 aH ac k5;simp only[Act.put];go_cut [] (λwx=>zm base fb w5 (⟨r,cp,po,pn,pc,o⟩:aw) nv n xs wx)
     case first=>
      go_region_law
       (first
         | (refine T5 (by rfl) _ _ _ (by rfl) base 69 bk _ 6 72 Tl a6 a9 a1 a2 rfl Am2 nv n _ (by rfl) aB.out ⟨w5.heap.size,0,I⟩ 1 (⟨r,cp,po,pn,pc,o⟩:aw).cells.toList (by rfl) (by rfl) av.out aM.out aT.out aY.out aH.out ?_;intro g9 bo w9 l a;have q9:=ac w9 a;have f9:=Aa q9 0;have z9:=Ag q9 0;simp at f9
            replace⟨q9,l,a⟩:=H3 q9 l a))
      all_goals
       go_wp2_with fail;go_meet;exact⟨_,w9,l.out,a.out,rfl⟩
     case rest=>
      obtain⟨v1,w9,l,a,rfl⟩:=hcut.ex;clear hcut
      have aR:=Am7 m.out z.out bb bc aK v.out aA.out a l (ac w9 a) (show aw.ok wc ⟨r,cp,po,pn,pc,o⟩from⟨an.out,hx.nu⟩) (λb bn e=>by
       obtain⟨c,hc⟩:=hp b bn e
       exact⟨c,Ae f.out hc (Ac hc)⟩) t.out f.out
      have aV:=aR.1;have aW:=aR.2;replace⟨aV,aW,l,a,aR⟩:=H5 aV aW l a aR;go_wp2
      try rw[Lu]
      go_ret
      all_goals first
       | exact⟨rfl,⟨v1,aV.out⟩,aW.out⟩
       | exact absurd y.out (by assumption)
def An1  {c d base:Nat} {a:VL} {xs:List aw} (h:jm w c d base a xs):∀b w,(Builtin.len_ #[52] b #[a]).run prog w=.ok (Z G (xs.length:Int)) w:=λb w=>by
 rcases Joins.ownsRow_forms h.row with⟨rfl,h0⟩|⟨g,cap,rfl⟩
 .rw [h0];simp[go_sem,Tl]
 .simp [go_sem,Tl]
def Aam (w:WD) (a d base:Nat) (f:VL) (xs:List aw) (hF:jm w a d base f xs):Calls prog 43 #[K (O ⟨a,0,I⟩)] w λe w'=>e=Q (Z G (xs.length:Int))/\w'=w:=by
 have c:=An1 hF;have b:=Aa hF.head 0;simp at b;go_enter func43,ntmps43;go_wp2;go_ret;exact⟨rfl,rfl⟩
