/- Parts of a proof. No condition. -/
import Derived.Test.YtimlcnhcjndijaaGreatDoorJ06
import Derived.Deep.RegionHeld3
set_option linter.all false
set_option maxRecDepth 100000
set_option maxHeartbeats 6400000
namespace Go.Proofs.YtimlcnhcjndijaaGreatDoor
open Option renaming some->O,none->I
open Obj renaming cells->J
open IntKind renaming i64->G
open Value renaming int->Z,bool->Q,string->D,tuple->E,slice->V,pointer->K
open Ending renaming returned->Y
open Go renaming World->WD,Value->VL
open Go.RowKit renaming Below->BW
open Go.Proofs.Tryz
section
open Go.RowKit Go.Maps Go.Lib
variable{b base n size:Nat}{P:Program}{T:TypeId}{v:VL}{w:WD}
instance A66:DecidableEq ByteArray:=λa b=>decidable_of_iff (a.data.toList=b.data.toList) ⟨Py,λh=>by rw[h]⟩
def Gx (ns:List ByteArray) (s:ByteArray):Bool:=ns.any λn=>decide (n=s)
def Oz {a:List ByteArray} {s:ByteArray}:Gx a s=true↔s∈a:=by
 unfold Gx;rw[Kl];exact⟨λ⟨x,h1,h2⟩=>by rw[<-Kk h2];exact h1,λh=>⟨s,h,Az rfl⟩⟩
def Mz:List ByteArray->Bool
 | []=>false
 | p :: ps=>Gx ps p || Mz ps
def Dv (ns:List ByteArray) (m:Nat) (name:ByteArray) (parts:List ByteArray):Int:=
 if Gx ns name=true then 51 else if Mz parts=true then 51 else if 16<=m\/8<parts.length then 2 else 0
structure Kq (fb mb base lo:Nat) (w w':WD):Prop where
 low:BW lo w w'
 same:∀(k:Nat) (o:Obj),w.heap[k]?=O o->k≠mb->k≠fb->(k<base\/∀c fr,o≠J c 69 fr)->w'.heap[k]?=O o
def Apv (w:WD):(zeroValue 3).run prog w=.ok (Z G 0) w:=by kernel_rfl
def Apw  {b a base:Nat} {g:VL} {xs:List aq} (h:lh w b a base g xs) (s:ByteArray) (f:s.size<=maxLen) :
  ∃c,(Instr.lookup 99 (.map (O a)) (D s) true).run prog w=.ok (E #[Z G c,Q (has (L5 (xs.map aq.name)) (Cb s))]) w/\(L5 (xs.map aq.name)).atKey (Cb s) (.lit (.int G 0))=.lit (.int G c):=by
 obtain⟨v,i,h1,d⟩:=h.map.look_ok (string_keyed Ev) underlying99 (Apv w) (plainElem_int Ed ad9) (Wg Ev f);obtain⟨c,rfl,e,_⟩:=plainElem_int_inv Ed d;exact⟨c,h1,Cv Prod.fst e⟩
def Xw  {t e:TypeId} {i:TypeInfo} (d:P.underlying t=O (.slice e)) (f:P.info? e=O i) (b:Addr) (a cap n:Nat) (x:Int) (j:x=n) (g:n<=cap) (w:WD) :
  (Instr.slice t (V (O b) a cap) I (O (Z G x)) I).run P w=.ok (V (O b) n cap) w:=by
 subst j
 have h1:∀(y:Nat) (_:n<=y) c,(Instr.sliceBound (Z G (n:Int)) y c).run P w=.ok n w:=λy h c=>by
  simp[Instr.sliceBound,asIntOf,h]
 simp[Instr.slice,Instr.sliceBounds,Nw d,h1 cap g,sizeOf,typeInfo,f,Addr.add]
def Un (l:List ByteArray) (k:Nat):Prop:=∃i j s,j<i/\i<k/\l[i]?=O s/\l[j]?=O s
def Xx (l:List ByteArray):Mz l=true↔Un l l.length:=by
 induction l with
 | nil=>exact⟨λh=>(by cases h),λ⟨i,j,s,h1,b,_⟩=>absurd b (Nu _)⟩
 | cons p ps ih=>
  unfold Mz;rw[Aa6,ih,Oz];constructor
  .rintro (h|⟨i,j,s,h1,b,c,a⟩)
   .obtain ⟨i,d,e⟩:=Aaq h;exact⟨i+1,0,p,ao9,by simp;omega,by simp[A3 d,e],as9⟩
   .exact ⟨i+1,j+1,s,ao9,by simp;omega,by simpa using c,by simpa using a⟩
  .rintro ⟨i,j,s,h1,b,c,a⟩
   cases i with
   | zero=>omega
   | succ i=>
    simp at b c
    cases j with
    | zero=>simp at a;subst a;exact .inl (Ai c)
    | succ j=>simp at a;exact .inr ⟨i,j,s,ao9,b,c,a⟩
def Af1:0<6:=Iy _
def Af2:(prog.info? 69).map (λi=>(i.zero,i.size,i.bytes))=O (O (.agg #[D ByteArray.empty,Z G 0,Z G 0,Z G 0,Z G 0,V I 0 0]),6,72):=by kernel_rfl
def Af3 (x:aq):∀u∈x.cells.toList,u.oneCell'=true:=by simp[Value.oneCell']
def Xy  {f d base k:Nat} {i:VL} {xs:List aq} {c:Array VL}  {fr:Nat×Nat} (h:lh w f d base i xs) (b:w.heap[k]?=O (J c T fr)):k≠d:=λe=>by
 obtain⟨j,a,g,_⟩:=h.map;rw[e,g]at b;cases b
def Af4 (w:WD) (x:aq):∀j u,x.cells.toList[j]?=O u->(w.alloc (J x.cells 69 (0,0))).cell? ((⟨w.heap.size,0,I⟩:Addr).add j)=O u:=by
 intro j u a;rw[Xh,Db,Aa (Ah w _) j];simpa using a
def Abi  {base size n g:Nat} {e:TypeId}  {xs:List VL} (h:w.ownsRow base e size v n xs) (b:v.ownBlock=O g):∃a,w.heap[g]?=O (J a e (0,0)):=by
 rcases h.2 with⟨c,_⟩|⟨f,cap,a,c,_,i,_⟩
 .rw [c]at b;simp[Value.ownBlock]at b
 .rw [c]at b;have d:f=g:=by simpa[Value.ownBlock]using b
  subst d;exact⟨a,i⟩
def Kq.mi {c e base b:Nat} {w w':WD} (h:BW w.heap.size w w') (d:b<=w.heap.size):Kq c e base b w w':=
 ⟨h.mono d,λ_ _ a _ _ _=>Ae h a (Ab a)⟩
structure zu (base fb:Nat) (w5:WD) (X:aq) (nv:VL) (n:Nat) (xs:List aq) (wx:WD):Prop where
 ex:∃v1 w9,w9.ownsRow base 69 6 v1 (n+1) (Aw aq.cells xs++X.cells.toList)/\((w5.alloc (J X.cells 69 (0,0))).drew).grownBy w9 nv.ownBlock/\wx=w9.setCell ⟨fb,0,I⟩ v1
def Uo  {q:Array Oper} {o:Oper} {a:Act}  {K9q:Act->WD->Prop} {Q9q:Exit->Act->WD->Prop} {E9q:Prop} (al:o.guard=I) (s x:Operand) (t:TypeId)
  (ho:o.op=.call { callee:=.builtin .append,args:=#[s,x],argTypes:=#[t,t] })
  (base:Nat) (e:TypeId) (i:TypeInfo) (z:VL) (size d:Nat) (ht:P.underlying t=O (.slice e)) (hi:P.info? e=O i) (hz:i.zero=O z)
  (m:i.size=size) (ac:i.bytes=d) (an:z.cells.size=size) (am:0<size)
  (v:VL) (n:Nat) (xs:List VL) (hs:a.eval s=v) (p:w.ownsRow base e size v n xs)
  (r:Addr) (c:Nat) (b:List VL) (hx:a.eval x=V (O r) 1 c) (hl:b.length=1*size) (l:∀j u,b[j]?=O u->w.cell? (r.add j)=O u) (h1:∀u∈b,u.oneCell'=true)
  (y:n+1<=maxLen) (f:(n+1)*d<=140737488355328) (k:base<=w.heap.size)
  (h:∀g cap w',w'.ownsRow base e size (V (O ⟨g,0,I⟩) (n+1) cap) (n+1) (xs++b)->w.grownBy w' v.ownBlock->K9q (a.put o.dst (V (O ⟨g,0,I⟩) (n+1) cap)) w') :
  if Region.wanted o (yielded q a.tmps)=true then Oper.wp P o a w K9q Q9q else E9q:=by
 have hw:Region.wanted o (yielded q a.tmps)=true:=by simp[Region.wanted,al]
 rw[Ad hw]
 exact wp_append_own w s x t ho base e i z size d ht hi hz m ac an am v n xs hs p r 1 c b hx hl l h1 y f k λv' w' h2 h3 _=>by
  obtain⟨g,cap,rfl⟩:=Joins.ownsRow_form h2 (Iy _);exact h g cap w' h2 h3
structure zx (W2:WD) (tb:Bool) (tv:VL) (wx:WD):Prop where
 tv:tv=Q tb
 wx:wx=W2
structure zo (W1:WD) (c:Int) (b:Bool) (cv bv:VL) (wx:WD):Prop where
 cv:cv=Z G c
 bv:bv=Q b
 wx:wx=W1.drew
def Af5   {e T:TypeId}  {xs:List VL} {o:Array VL} (h:w.ownsRow base e size v n xs) (l:w.heap[b]?=O (J o T (0,0))) (k:T≠e) (i:Nat) (u:VL):(w.setCell ⟨b,i,I⟩ u).ownsRow base e size v n xs:=by
 obtain⟨h1,j⟩:=h;refine⟨h1,?_⟩;rcases j with h|⟨g,cap,d,q,m,a,p⟩
 .exact .inl h
 .have f:g≠b:=λc=>by rw[c,l]at a;simp at a;exact k a.2
  exact .inr ⟨g,cap,d,q,m,Dn f _ a,p⟩
def Apx {w wc m g:WD} {d q base lo n:Nat} {nv i:VL} {xs:List aq} {x:aq} (hF:lh wc d q base nv xs) (hn:n=xs.length) (am:lo<=d) (an:lo<=q) (ac:lo<=base) (z:wc.drew.grownBy m (O q))
  (av:m.ownsMap prog 9 (plainElem (H:=Unit) prog 3) q (n+1) ((L5 (xs.map aq.name)).put (Cb x.name) (.lit (.int G (n:Int)))))
  (p:((m.alloc (J x.cells 69 (0,0))).drew).grownBy g nv.ownBlock) (aB:g.ownsRow base 69 6 i (n+1) (Aw aq.cells xs++x.cells.toList)) (h9:g.heap[d]?=O (J #[nv,.map (O q)] 101 (0,0)))
  (hx:x.ok wc) (hp:L6 wc x) (ad:base<=w.heap.size) (j:BW w.heap.size w wc) :
  lh (g.setCell ⟨d,0,I⟩ i) d q base i (xs++[x])/\Kq d q base lo w (g.setCell ⟨d,0,I⟩ i):=by
 have aC:wc.heap.size<=m.heap.size:=z.size;have aF:m.heap.size+1<=g.heap.size:=by have:=p.size;rw[show((m.alloc (J x.cells 69 (0,0))).drew).heap.size=m.heap.size+1 from J0 _ _]at this;exact this
 have s:∀k,nv.ownBlock=O k->base<=k/\∃u,wc.heap[k]?=O (J u 69 (0,0)):=λk e=>⟨(hF.row.lt k e).1,Abi hF.row e⟩
 have t:∀(k:Nat) (o:Obj),wc.heap[k]?=O o->k≠q->k≠d->(k<base\/∀c fr,o≠J c 69 fr)->(g.setCell ⟨d,0,I⟩ i).heap[k]?=O o:=λk o hk h1 v h3=>by
  have ap:=Ab hk;refine Dn v _ ?_;refine(p.block k (by show k<(m.alloc _).heap.size;rw[J0];omega) (λe=>?_)).trans (Aj _ ((z.block k ap (λe=>h1 (by cases e;rfl))).trans hk));obtain⟨e1,u,e2⟩:=s k e.symm;rcases h3 with h3|h3
  .omega
  .rw [hk]at e2;exact h3 _ _ (Kn e2)
 have aD:wc.heap.size<=(g.setCell ⟨d,0,I⟩ i).heap.size:=by
  have:(g.setCell ⟨d,0,I⟩ i).heap.size=g.heap.size:=by simp[World.setCell]
  omega
 have l:∀y:aq,y.ok wc->L6 wc y->y.ok (g.setCell ⟨d,0,I⟩ i)/\L6 (g.setCell ⟨d,0,I⟩ i) y:=λy hy aE=>by
  have al:∀b f,y.po=O ⟨b,f,I⟩->∃c,wc.heap[b]?=O (J c 9 (0,0))/\(g.setCell ⟨d,0,I⟩ i).heap[b]?=O (J c 9 (0,0)):=λb f e=>by
   obtain⟨c,hc⟩:=aE b f e;refine⟨c,hc,t b _ hc (Xy hF hc) (λe=>?_) (.inr λc' fr e=>by injection e with e1 e2 e3;exact absurd e2 ad9)⟩;rw[e,hF.head]at hc;simp at hc
  refine⟨⟨Oy hy.parts aD λb f e _=>?_,hy.lr⟩,λb f e=>?_⟩
  .obtain ⟨c,h1,v⟩:=al b f e;rw[h1,v]
  .obtain ⟨c,_,v⟩:=al b f e;exact⟨c,v⟩
 refine⟨⟨by rw[Ap h9];rfl,?_,?_,λy hy=>?_⟩,?_,λk o hk h1 v h3=>t k o (Ae j hk (Ab hk)) h1 v h3⟩
 .have:=Af5 aB h9 ad9 0 i;rw[Ox,Q3,Cn,<-hn];exact this
 .rw [Dk,Cn,<-hn]
  have aA:=((av.alloc (J x.cells 69 (0,0))).drew.kept p (λe=>by
   obtain⟨_,u,e2⟩:=s q e.symm
   exact Xy hF e2 rfl)).setCell (a:=⟨d,0,I⟩) (λe=>Xy hF hF.head e.symm) i
  rw[show List.map aq.name [x]=[x.name]from rfl,Abg,Ar,<-hn];exact aA
 .rcases Dl.1 hy with h|h
  .exact l y (hF.ok y h).1 (hF.ok y h).2
  .have:y=x:=by simpa using h
   subst this;exact l y hx hp
 .have ao:=A8 ad j.size;have r:=A8 ac ao;have b1:=(j.mono (A8 ac ad)).drew;have b2:=b1.grown z r (λk e=>by cases e;exact an);have b3:BW lo w ((m.alloc (J x.cells 69 (0,0))).drew):=(b2.alloc (A8 r aC) _).drew
  have b4:=b3.grown p (by
   show lo<=(m.alloc (J x.cells 69 (0,0))).heap.size
   rw[J0];omega) (λk e=>A8 ac (hF.row.lt k e).1)
  exact b4.setCell am _
def Apy (w:WD) (fb mb base lo:Nat) (nv:VL) (xs:List aq) (x:aq) (hF:lh w fb mb base nv xs) (hx:x.ok w) (hp:L6 w x) (hn:x.name.size<=maxLen) (bG:x.pn<=4294967296) (bc:lo<=fb) (bd:lo<=mb) (aL:lo<=base) (aJ:base<=w.heap.size) :
  Calls prog 42 #[K (O ⟨fb,0,I⟩),x.val] w λe w'=>∃bl,e=Y (Z G (Dv (xs.map aq.name) xs.length x.name x.parts))/\lh w' fb mb base bl (if Dv (xs.map aq.name) xs.length x.name x.parts=0 then xs++[x]else xs)/\Kq fb mb base lo w w':=by
 obtain⟨i9,bg,bI,bs,bw⟩:=Cf Xr;obtain⟨r,cp,po,pn,pc,o⟩:=x;obtain⟨W1,aT⟩:=Ex (w.alloc (J (⟨r,cp,po,pn,pc,o⟩:aq).cells 69 (0,0)));have aE:BW w.heap.size w W1:=by rw[aT];exact Bn
 have aH:=hF.below aE;have aQ:W1.heap[w.heap.size]?=O (J (⟨r,cp,po,pn,pc,o⟩:aq).cells 69 (0,0)):=by rw[aT];exact Ah _ _
 have am:=aH.below ((Below.refl _ _).drew);obtain⟨c,a9,a6⟩:=Apw am r hn;obtain⟨b,hb⟩:=Ex (has (L5 (xs.map aq.name)) (Cb r));rw[<-hb]at a9;have f0:=Aa aH.head 0;have f1:=Aa aH.head 1;have y0:=Aa aQ 0;have y5:=Aa aQ 5;simp at f0 f1 y0 y5;replace⟨hF,hx,hp,aE,aH,aQ,am,a6⟩:=H8 hF hx hp aE aH aQ am a6;replace hb:=Hh hb;have a5:=Hh aT;clear aT;go_enter func42,ntmps42;go_wp2_with fail;rw[<-a5.out];go_step3;go_upto_region 1 with fail;go_cut [5,6] (λcv bv wx=>zo W1 c b cv bv wx)
 case first=>
  go_region_with (fail)
  all_goals
   go_wp2_with fail;go_meet;exact⟨rfl,rfl,rfl⟩
 case rest=>
  obtain⟨rfl,rfl,rfl⟩:=hcut
  cases b with
  | true=>
   have y:Dv (xs.map aq.name) xs.length r o=51:=(by unfold Dv;rw[Ad (by rw[Oz];exact(Af0 _ _).1 hb.symm)]);have f:=aE.drew;have t:=aJ;replace⟨y,f,t⟩:=H3 y f t;go_wp2
   try rw[Jm]
   go_ret;exact⟨nv,by rw[y.out];rfl,by rw[y.out];exact am.out,Kq.mi f.out (A8 aL t.out)⟩
  | false=>
   have aF:¬Gx (xs.map aq.name) r=true:=λh=>by
    have:=(Af0 _ _).2 (Oz.1 h);rw[<-hb.out]at this;cases this
   obtain⟨W2,av⟩:=Ex (W1.drew);have m:lh W2 fb mb base nv xs:=(by rw[av];exact am.out);have aR:W2.heap[w.heap.size]?=O (J (⟨r,cp,po,pn,pc,o⟩:aq).cells 69 (0,0)):=(by rw[av];exact aQ.out);have ao:Ej W2 po pn o:=(by rw[av];exact(hx.low (aE.drew)).parts);clear f0 f1 y0 y5 a9;have f0:=Aa m.head 0;have f1:=Aa m.head 1;have y0:=Aa aR 0;have y5:=Aa aR 5;simp at f0 f1 y0 y5;obtain⟨tb,ap⟩:=Ex (Mz o);have aG:=ao.len;have bp:pn<=pc:=hx.lr;rw[<-av];replace⟨aF,m,aR,ao,av,ap,aG⟩:=H7 aF m aR ao av ap aG;go_upto_block 0 with fail;go_step3;go_upto_block 0 with fail;go_cut [7,8,9,11]from 26 to 44 (λtv _ _ _ wx=>zx W2 tb tv wx)
   case first=>
    go_wp2;go_loopw [7,8,9,11,26] (λtv _ _ _ i wr=>∃k:Nat,tv=Q false/\i=Z G k/\k<=pn/\wr=W2/\Hid (¬Un o k)) (λ_ _ _ _ i _=>pn-(intOf i).toNat)
    case atStart=>exact⟨0,rfl,rfl,As _,rfl,λ⟨i,j,s,h1,h2,_⟩=>absurd h2 (Nu _)⟩
    case round=>
     obtain⟨k,rfl,rfl,hk,rfl,hD⟩:=hrel;by_cases a8:k<pn
     .have be:(k:Int)<pn:=ao9;have bF:(0:Int)<=(k:Int):=ao9;obtain⟨p,aP⟩:=ao.get a8;obtain⟨b',bb,rfl,bA,bC⟩:=ao.cell k p aP;have bH:=λw=>Xw Tz bg ⟨b',bb,I⟩ pn pc k k rfl ao9 w;replace aP:=Hh aP;go_wp2;go_loopw [7,11,36] (λtv _ i wq=>∃j:Nat,tv=Q false/\i=Z G j/\j<=k/\wq=wr/\Hid (∀j',j'<j->o[j']?≠O p)) (λ_ _ i _=>k-(intOf i).toNat)
      case atStart=>exact⟨0,rfl,rfl,As _,rfl,λj' h=>absurd h (Nu _)⟩
      case round=>
       obtain⟨j,rfl,rfl,hj,rfl,hN⟩:=hrel;by_cases bi:j<k
       .have bf:(j:Int)<k:=ao9;have bE:(0:Int)<=(j:Int):=ao9;obtain⟨q,aD⟩:=ao.get (i:=j) ao9;obtain⟨b2,bx,e2,bB,bD⟩:=ao.cell j q aD;cases e2;by_cases an:p=q
        .have d:(p.toList == q.toList)=true:=(by rw[an];simp);have ht:tb=true:=(by rw[ap.out,Xx];exact⟨k,j,p,bi,by rw[aG.out];exact a8,aP.out,by rw[an];exact aD⟩);replace⟨aD,an,ht⟩:=H3 aD an ht;go_wp2;go_meet
         case rel=>exact⟨by rw[ht.out],rfl⟩
        .have d:(p.toList == q.toList)=false:=by simp only[Br];intro e;rw[Lib.toList_data,Lib.toList_data]at e;exact an (Py e)
         have aY:∀j',j'<j+1->o[j']?≠O p:=λj' h e=>by
          by_cases c:j'=j
          .subst c;rw[aD]at e;exact an (Kn e).symm
          .exact hN.out j' ao9 e
         replace⟨aD,an,aY⟩:=H3 aD an aY;go_wp2;go_roundw
         case rel=>exact⟨j+1,rfl,by go_num,ao9,trivial,aY.out⟩
         case measure=>simp[intOf];omega
       .have bf:¬(j:Int)<k:=ao9
        have aV:¬Un o (k+1):=λ⟨i,j',s,h1,h2,h3,h4⟩=>by
         by_cases c:i=k
         .subst c;rw[aP.out]at h3;exact hN.out j' ao9 (by rw[h4,<-h3])
         .exact hD.out ⟨i,j',s,h1,ao9,h3,h4⟩
        replace aV:=Hh aV;go_wp2;go_roundw
        case rel=>exact⟨k+1,rfl,by go_num,ao9,trivial,aV.out⟩
        case measure=>simp[intOf];omega
     .have be:¬(k:Int)<pn:=ao9;have a0:k=pn:=ao9;have ht:tb=false:=(by rw[ap.out,Iu];intro c;exact hD.out (by rw[a0,<-aG.out];exact(Xx o).1 c));replace⟨ht,a0⟩:=H2 ht a0;go_wp2;go_meet
      case rel=>exact⟨by rw[ht.out],rfl⟩
   case rest=>
    obtain⟨rfl,rfl⟩:=hcut;have f:BW w.heap.size w wc:=(by rw[av.out];exact aE.drew);have t:=aJ
    cases tb with
    | true=>
     have y:Dv (xs.map aq.name) xs.length r o=51:=(by unfold Dv;rw[Ac aF.out,Ad ap.symm]);replace⟨y,f,t⟩:=H3 y f t;go_wp2
     try rw[Jm]
     go_ret;exact⟨nv,by rw[y.out];rfl,by rw[y.out];exact m.out,Kq.mi f.out (A8 aL t.out)⟩
    | false=>
     have bj:∀ty w,(Builtin.len_ #[52] ty #[nv]).run prog w=.ok (Z G (xs.length:Int)) w:=λty w=>by
      rcases Joins.ownsRow_forms m.row with⟨rfl,h0⟩|⟨g,cap,rfl⟩
      .rw [h0];simp[go_sem,Ps]
      .simp [go_sem,Ps]
     obtain⟨n,z⟩:=Ex (xs.length);rw[<-z]at bj;replace⟨z,f,t⟩:=H3 z f t;by_cases q1:16<=n
     .have d1:decide ((16:Int)<=n)=true:=Az ao9;have y:Dv (xs.map aq.name) xs.length r o=2:=(by unfold Dv;rw[Ac aF.out,Ac (by rw[<-ap.out];simp),Ad (.inl (by rw[<-z.out];exact q1))]);replace y:=Hh y;go_wp2
      try rw[Jm]
      go_ret;exact⟨nv,by rw[y.out];rfl,by rw[y.out];exact m.out,Kq.mi f.out (A8 aL t.out)⟩
     have d1:decide ((16:Int)<=n)=false:=A2 ao9;by_cases q2:8<pn
     .have d2:decide ((8:Int)<pn)=true:=Az ao9;have y:Dv (xs.map aq.name) xs.length r o=2:=(by unfold Dv;rw[Ac aF.out,Ac (by rw[<-ap.out];simp),Ad (.inr (by rw[aG.out];exact q2))]);replace y:=Hh y;go_wp2
      try rw[Jm]
      go_ret;exact⟨nv,by rw[y.out];rfl,by rw[y.out];exact m.out,Kq.mi f.out (A8 aL t.out)⟩
     have d2:decide ((8:Int)<pn)=false:=A2 ao9;have y:Dv (xs.map aq.name) xs.length r o=0:=(by unfold Dv;rw[Ac aF.out,Ac (by rw[<-ap.out];simp),Ac (by rw[<-z.out,aG.out];omega)]);replace y:=Hh y;have aO:wc.drew.ownsMap prog 9 (plainElem (H:=Unit) prog 3) mb n (L5 (xs.map aq.name)):=(by rw[z.out];exact m.map);have aM:n<maxLen:=(by have:maxLen=9223372036854775807:=rfl;omega);have aK:keyOf prog 9 (.string r)=O (Cb r):=Wg Ev hn;have a1:(Lit.int G (n:Int)).wf=true:=WalkArith.wf_i64 ao9;replace⟨aO,aM,aK,a1⟩:=H4 aO aM aK a1;go_upto_region 19 with fail;go_still_tail 11,(by kernel_rfl);change wpList _ _ _ _ _ wc.drew;go_upto_region 20 with(at_mapUpdate;refine Aan _ rfl _ _ _ 99 rfl 9 3 (string_keyed Ev) underlying99 _ mb n _ rfl aO.out aM.out _ _ (Cb r) rfl rfl aK.out _ [] (plainElem_int Ed a1.out) ?_;intro w5 aB v;replace⟨aB,v⟩:=H2 aB v)
     have k5:∀(k:Nat) (c:Array VL) (T:TypeId) (fr:Nat×Nat),wc.heap[k]?=O (J c T fr)->w5.heap[k]?=O (J c T fr):=λk c T fr h=>
      (v.block k (Ab h) (λe=>Xy m.out h (by cases e;rfl))).trans h
     have h5:=k5 _ _ _ _ m.head;have al:=k5 _ _ _ _ aR.out
     have ad:w5.ownsRow base 69 6 nv n (Aw aq.cells xs):=by
      refine⟨by rw[z.out];exact m.row.1,?_⟩;rcases m.row.2 with⟨e1,e2⟩|⟨g,cap,a4,hv,hg,hh,hr⟩
      .exact .inl ⟨e1,by rw[z.out];exact e2⟩
      .exact .inr ⟨g,cap,a4,by rw[z.out];exact hv,hg,k5 _ _ _ _ hh,by rw[z.out];exact hr⟩
     clear f0 f1 y0 y5;have f0:=Aa h5 0;have y0:=Aa al 0;have y1:=Aa al 1;have y2:=Aa al 2;have y3:=Aa al 3;have y4:=Aa al 4;have y5:=Aa al 5;simp at f0 y0 y1 y2 y3 y4 y5;have bJ:=Ab h5;have bK:=Ab al;obtain⟨bk,a7,ba,a2,a3⟩:=Cf Af2;have aC:((w5.alloc (J (⟨r,cp,po,pn,pc,o⟩:aq).cells 69 (0,0))).drew).ownsRow base 69 6 nv n (Aw aq.cells xs):=ad.alloc (J (⟨r,cp,po,pn,pc,o⟩:aq).cells 69 (0,0));have aA:∀j u,(⟨r,cp,po,pn,pc,o⟩:aq).cells.toList[j]?=O u->((w5.alloc (J (⟨r,cp,po,pn,pc,o⟩:aq).cells 69 (0,0))).drew).cell? ((⟨w5.heap.size,0,I⟩:Addr).add j)=O u:=Af4 w5 (⟨r,cp,po,pn,pc,o⟩:aq);have aN:=Af3 (⟨r,cp,po,pn,pc,o⟩:aq);have aU:=If (n:=n) ao9;have aZ:(n+1)*72<=140737488355328:=ao9;have aI:base<=((w5.alloc (J (⟨r,cp,po,pn,pc,o⟩:aq).cells 69 (0,0))).drew).heap.size:=by have:=t.out;have:=f.size;have:wc.drew.heap.size=wc.heap.size:=rfl;show base<=(w5.alloc (J (⟨r,cp,po,pn,pc,o⟩:aq).cells 69 (0,0))).heap.size;rw[J0];omega
     have ac:∀w9:WD,((w5.alloc (J (⟨r,cp,po,pn,pc,o⟩:aq).cells 69 (0,0))).drew).grownBy w9 nv.ownBlock->w9.heap[fb]?=O (J #[nv,.map (O mb)] 101 (0,0)):=λw9 hg=>by
      refine(hg.block fb (by have:=Ab h5;show fb<(w5.alloc (J (⟨r,cp,po,pn,pc,o⟩:aq).cells 69 (0,0))).heap.size;rw[J0];omega) (λe=>?_)).trans (Aj (J (⟨r,cp,po,pn,pc,o⟩:aq).cells 69 (0,0)) h5);obtain⟨a4,hc⟩:=Abi ad e.symm;rw[h5]at hc;simp at hc
     replace⟨h5,al,ad,aC,aA,aN,aU,aZ⟩:=H8 h5 al ad aC aA aN aU aZ;replace⟨aI,ac,k5⟩:=H3 aI ac k5;simp only[Act.put];go_cut [] (λwx=>zu base fb w5 (⟨r,cp,po,pn,pc,o⟩:aq) nv n xs wx)
     case first=>
      go_region_law
       (first
         | (refine Uo (by rfl) _ _ _ (by rfl) base 69 bk _ 6 72 Ps a7 ba a2 a3 rfl Af1 nv n _ (by rfl) aC.out ⟨w5.heap.size,0,I⟩ 1 (⟨r,cp,po,pn,pc,o⟩:aq).cells.toList (by rfl) (by rfl) aA.out aN.out aU.out aZ.out aI.out ?_;intro g9 bo w9 l a;have q9:=ac w9 a;have f9:=Aa q9 0;have z9:=Ag q9 0;simp at f9
            replace⟨q9,l,a⟩:=H3 q9 l a))
      all_goals
       go_wp2_with fail;go_meet;exact⟨_,w9,l.out,a.out,rfl⟩
     case rest=>
      obtain⟨v1,w9,l,a,rfl⟩:=hcut.ex;clear hcut
      have aS:=Apx m.out z.out bc bd aL v.out aB.out a l (ac w9 a) (show aq.ok wc ⟨r,cp,po,pn,pc,o⟩from⟨ao.out,hx.lr⟩) (λb bn e=>by
       obtain⟨c,hc⟩:=hp b bn e
       exact⟨c,Ae f.out hc (Ab hc)⟩) t.out f.out
      have aW:=aS.1;have aX:=aS.2;replace⟨aW,aX,l,a,aS⟩:=H5 aW aX l a aS;go_wp2
      try rw[Jm]
      go_ret
      all_goals first
       | exact⟨rfl,⟨v1,aW.out⟩,aX.out⟩
       | exact absurd y.out (by assumption)
def Aqh  {c d base:Nat} {a:VL} {xs:List aq} (h:lh w c d base a xs):∀b w,(Builtin.len_ #[52] b #[a]).run prog w=.ok (Z G (xs.length:Int)) w:=λb w=>by
 rcases Joins.ownsRow_forms h.row with⟨rfl,h0⟩|⟨g,cap,rfl⟩
 .rw [h0];simp[go_sem,Ps]
 .simp [go_sem,Ps]
def Abn (w:WD) (a d base:Nat) (f:VL) (xs:List aq) (hF:lh w a d base f xs):Calls prog 43 #[K (O ⟨a,0,I⟩)] w λe w'=>e=Y (Z G (xs.length:Int))/\w'=w:=by
 have c:=Aqh hF;have b:=Aa hF.head 0;simp at b;go_enter func43,ntmps43;go_wp2;go_ret;exact⟨rfl,rfl⟩
