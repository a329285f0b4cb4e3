/- Parts of a proof. No condition. -/
import Derived.Test.YtimlcnhcjndijaaGreatDoorJ21
set_option linter.all false
set_option maxRecDepth 100000
set_option maxHeartbeats 3200000
namespace Go.Proofs.YtimlcnhcjndijaaGreatDoor
open Option renaming some->O,none->I
open IntKind renaming i64->G
open Value renaming int->Z,slice->V,pointer->K,bool->Q,tuple->E
open Ending renaming returned->Y
open Obj renaming cells->J
open Go renaming World->WD,Value->VL,Calls->CS
open Go.RowKit renaming Below->BW
open Go.Proofs.Tryz
namespace Pl
open Go.RowKit
variable{zs:List Int}{xs:List Nat}{l:List St}{B L base cap gb gs:Nat}{po:Option Addr}{v whole:V4}{w w' wr:WD}
def Xw {P:Program} {t e:TypeId} {i:TypeInfo} (d:P.underlying t=O (.slice e)) (f:P.info? e=O i) (b:Addr) (a cap n:Nat) (x:Int) (j:x=n) (g:n<=cap) (w:WD) :
  (Instr.slice t (V (O b) a cap) I (O (Z G x)) I).run P w=.ok (V (O b) n cap) w:=by
 subst j
 have h1:∀(y:Nat) (_:n<=y) c,(Instr.sliceBound (Z G (n:Int)) y c).run P w=.ok n w:=λy h c=>by
  simp[Instr.sliceBound,asIntOf,h]
 simp[Instr.slice,Instr.sliceBounds,Nw d,h1 cap g,sizeOf,typeInfo,f,Addr.add]
def Ta (R:V4->List St->Int->List St->Prop) (F:FuncId) (f1 f2 f3:Nat) (C:WD->Prop):Prop:=
 ∀pb sb cap whole l w1,Cx w1 pb sb cap whole l->Inv whole l->C w1 ->
  CS prog F #[K (O ⟨pb,0,I⟩),K (O ⟨f1,0,I⟩),K (O ⟨f2,0,I⟩),K (O ⟨f3,0,I⟩)] w1 (Acl pb sb whole (λr l'=>R whole l r l'/\Inv whole l') w1)
structure je (w:WD) (ps q:List Nd):Prop where
 len:q.length=ps.length
 pb:∀i,i<ps.length->(nd q i).pb=(nd ps i).pb
 whole:∀i,i<ps.length->(nd q i).whole=(nd ps i).whole
 sb:∀i,i<ps.length->(nd q i).sb=(nd ps i).sb\/w.heap.size<=(nd q i).sb
def je.refl (w:WD) (a:List Nd):je w a a:=⟨rfl,λ_ _=>rfl,λ_ _=>rfl,λ_ _=>.inl rfl⟩
def je.gi  {c q:List Nd} (h:je w c q) {b:Nat} (d:Bm q b):Bm c b\/w.heap.size<=b:=by
 obtain⟨i,a,e⟩:=d;rw[h.len]at a;rcases e with e|e
 .exact .inl ⟨i,a,.inl (e.trans (h.pb i a))⟩
 .rcases h.sb i a with h1|h1
  .exact .inl ⟨i,a,.inr (e.trans h1)⟩
  .exact .inr ao9
def Ajf {w wr n:WD} {o p cap:Nat}  {h q:List Nd} {i f g:Nat} {k:List St} (d:je w h q) (u:Cc wr o p po cap q) (r:Mod (Bm h) w wr) (x:i<h.length)
  (z:Cx n (nd q i).pb f g (nd q i).whole k) (y:Inv (nd q i).whole k) (t:f=(nd q i).sb\/wr.heap.size<=f) (s:Mod (λb=>b=(nd q i).pb\/b=(nd q i).sb) wr n) :
  ∃m,Cc n o p po cap m/\je w h m/\Mod (Bm h) w n/\(nd m i).l=k/\∀j,j≠i->(nd m j).l=(nd q j).l:=by
 have a:i<q.length:=by rw[d.len];exact x
 refine⟨q.set i ⟨(nd q i).pb,f,g,(nd q i).whole,k⟩,u.fy a z y t s,⟨by rw[Dy];exact d.len,?_,?_,?_⟩,?_,?_,?_⟩
 .intro j c;rw[Ng _ a];split
  .rename_i e;subst e;exact d.pb j c
  .exact d.pb j c
 .intro j c;rw[Ng _ a];split
  .rename_i e;subst e;exact d.whole j c
  .exact d.whole j c
 .intro j c;rw[Ng _ a];split
  .rename_i e;subst e;rcases t with e|e
   .rw [e];exact d.sb j c
   .exact .inr (A8 r.size e)
  .exact d.sb j c
 .refine r.trans (s.mono λb _ v=>?_);exact d.gi ⟨i,a,v⟩
 .rw [Ng _ a,Ad rfl]
 .intro j c;rw[Ng _ a,Ac c]
def Bx (zs:List Int) (k i:Nat):Prop:=∃j,j<k/\zi zs j=(i:Int)
def Acu (R U:V4->List St->Int->List St->Prop) (ps:List Nd) (zs:List Int) (r:Int) (ps':List Nd):Prop:=
 (¬Cy ps.length zs/\r=1/\ps'=ps) \/
 (Cy ps.length zs/\r=0/\∀i,i<ps.length->(Bx zs zs.length i->R (nd ps i).whole (nd ps i).l 0 (nd ps' i).l)/\(¬Bx zs zs.length i->(nd ps' i).l=(nd ps i).l)) \/
 (Cy ps.length zs/\r≠0/\∃k c:Nat,k<zs.length/\zi zs k=(c:Int)/\c<ps.length/\R (nd ps c).whole (nd ps c).l r (nd ps' c).l /\
   ∀i,i<ps.length->(Bx zs k i->∃m r2,R (nd ps i).whole (nd ps i).l 0 m/\Inv (nd ps i).whole m/\U (nd ps i).whole m r2 (nd ps' i).l)/\(¬Bx zs k i->i≠c->(nd ps' i).l=(nd ps i).l))
def Avg (R U:V4->List St->Int->List St->Prop) (gb gs cap:Nat) (po:Option Addr) (ps:List Nd) (zs:List Int) (w:WD) (e:Ending) (w':WD):Prop:=
 ∃r ps',e=Y (Z G r)/\Acu R U ps zs r ps'/\Cc w' gb gs po cap ps'/\je w ps ps'/\Mod (Bm ps) w w'
def O7  {k i:Nat}:Bx zs (k+1) i↔Bx zs k i\/zi zs k=(i:Int):=by
 constructor
 .rintro ⟨j,a,e⟩;by_cases h:j=k
  .subst h;exact .inr e
  .exact .inl ⟨j,ao9,e⟩
 .rintro (⟨j,a,e⟩|e)
  .exact ⟨j,ao9,e⟩
  .exact ⟨k,ao9,e⟩
def Ajg {n:Nat}  (h:Cy n zs) {i j:Nat} (a:i<j) (b:j<zs.length):zi zs i<zi zs j:=by
 induction j with
 | zero=>omega
 | succ m ih=>
  have:=h.aw m b;by_cases e:i=m
  .subst e;exact this
  .exact Xl (ih ao9 ao9) this
def Acv {n:Nat}  (h:Cy n zs) {k i:Nat} (b:k<zs.length) (e:zi zs k=(i:Int)):¬Bx zs k i:=by
 rintro⟨j,a,c⟩;have:=Ajg h a b;omega
def Ajh (R U:V4->List St->Int->List St->Prop) (F G9q:FuncId) (f1 f2 f3:Nat) (C:WD->Prop) (gb gs cap:Nat) (po:Option Addr) (f:List Nd) (ao:Option Addr) (m c:Nat) (zs:List Int) (w:WD)
  (hp:Cc w gb gs po cap f) (hz:∀w',Mod (Bm f) w w'->At w' ao m zs) (bn:m<=c) (hC:∀w',Mod (Bm f) w w'->C w')
  (hF:∀args w,(callFunc F args).run prog w=.ok (.enter F args) w) (hG:∀args w,(callFunc G9q args).run prog w=.ok (.enter G9q args) w) (HR:Ta R F f1 f2 f3 C) (HU:Ta U G9q f1 f2 f3 C) :
  CS prog 244 #[K (O ⟨gb,0,I⟩),V ao m c,.func (.func F) #[] #[K (O ⟨f1,0,I⟩),K (O ⟨f2,0,I⟩),K (O ⟨f3,0,I⟩)],
   .func (.func G9q) #[] #[K (O ⟨f1,0,I⟩),K (O ⟨f2,0,I⟩),K (O ⟨f3,0,I⟩)]] w (Avg R U gb gs cap po f zs w):=by
 obtain⟨i3,a7,_,_,_⟩:=Cf M0;have aE:=hz w (Mod.refl _ _);have aK:=aE.len;have be:=aE.max;obtain⟨n,hn⟩:=Ex (f.length);have y:=Avf gb gs cap po f ao m c zs w hp aE;replace⟨y,hp,hz,aE,hC,HR,HU,aK⟩:=H8 y hp hz aE hC HR HU aK;replace hn:=Hh hn;go_enter func244,ntmps244;go_wp2_with fail;refine y.mono ?_;rintro e w1 ⟨b,rfl,hb,an⟩;replace an:=Hh an;cases b
 .have aW:¬Cy f.length zs:=λh=>by have:=hb.2 h;simp at this
  replace⟨aW,hb⟩:=H2 aW hb;go_wp2;go_ret;exact⟨1,f,rfl,.inl ⟨aW.out,rfl,rfl⟩,hp.below an.out,je.refl _ _,Mod.af an.out⟩
 have x:=hb.1 rfl;have aV:0<f.length:=by have h1:=x.low 0 x.pos;have h2:=x.high 0 x.pos;omega
 have a9:=hp.addr aV;subst a9;replace⟨x,hb,aV⟩:=H3 x hb aV;go_wp2
 go_loopw [9,10,11,20] (λ_ _ _ i wr=>∃(k:Nat) (q:List Nd),i=Z G k/\k<=m/\Hid (Cc wr gb gs (O ⟨gs,0,I⟩) cap q)/\Hid (je w f q)/\Hid (Mod (Bm f) w wr) /\
  Hid (∀i,i<f.length->(Bx zs k i->R (nd f i).whole (nd f i).l 0 (nd q i).l)/\(¬Bx zs k i->(nd q i).l=(nd f i).l))) (λ_ _ _ i _=>m-(intOf i).toNat)
 case atStart=>exact⟨0,f,rfl,As _,hp.below an.out,je.refl _ _,Mod.af an.out,λi z=>⟨λh=>by obtain⟨j,hj,_⟩:=h;omega,λ_=>rfl⟩⟩
 case round=>
  obtain⟨k,q,rfl,hk,hP,hK,hM,hD⟩:=hrel;by_cases hc:k<m
  .have a6:(k:Int)<m:=ao9;have bl:(0:Int)<=(k:Int):=ao9;have s:k<zs.length:=(by rw[aK.out];exact hc);obtain⟨b,ba,aP,bd,b0⟩:=(hz wr hM.out).cell k hc;subst aP;obtain⟨u,p⟩:∃u:Nat,zi zs k=(u:Int):=⟨(zi zs k).toNat,by have:=x.low k s;omega⟩;have a3:u<n:=(by have:=x.high k s;rw[hn.out];omega);have a:u<f.length:=(by rw[<-hn.out];exact a3);rw[p]at b0;have bi:(u:Int)<n:=ao9;have bg:(0:Int)<=(u:Int):=ao9;have hh:=hP.head;rw[hK.len,<-hn.out]at hh;have c0:=Aa hh 0;simp at c0;have p0:=hP.ptr u (by rw[hK.len];exact a);have al:=hP.gj u (by rw[hK.len];exact a);have aB:=hP.inv u (by rw[hK.len];exact a);have hd:=HR _ _ _ _ _ _ al aB (hC wr hM.out);replace⟨hd,hh,al,aB,p,s,a⟩:=H7 hd hh al aB p s a;go_wp2_with fail
   (with_reducible refine hd.out.mono ?_)
   rintro e w2 ⟨r,bv,bb,l',rfl,⟨hR,hI⟩,aX,aZ,aT⟩;obtain⟨q2,av,o,aH,e1,e2⟩:=Ajf hK.out hP.out hM.out a.out aX hI aZ aT;have t:=((hD u a.out).2 (Acv x.out s.out p.out));have aD:=hK.whole u a.out;rw[t,aD]at hR;rw[<-e1]at hR;clear e1 t aD c0 p0 b0;replace⟨hR,hI,aX,aZ,aT,av,o,aH⟩:=H8 hR hI aX aZ aT av o aH;replace e2:=Hh e2;by_cases hr:r=0
   .subst hr;go_wp2;go_roundw
    case rel=>
     refine⟨k+1,q2,by go_num,ao9,av.out,o.out,aH.out,λi z=>⟨λh=>?_,λh=>?_⟩⟩
     .by_cases e:i=u
      .subst e;exact hR.out
      .rw [e2 i e];rcases O7.1 h with h|h
       .exact (hD i z).1 h
       .rw [p.out]at h;exact absurd ao9 e
     .have ad:i≠u:=λe=>h (O7.2 (.inr (by rw[e];exact p.out)));rw[e2 i ad];exact(hD i z).2 λh2=>h (O7.2 (.inl h2))
    case measure=>simp[intOf];omega
   .have dr:(r == 0)=false:=(by simpa using hr);have bo:=λw=>Xw (P:=prog) Ns a7 ⟨b,ba,I⟩ m c k (k:Int) rfl ao9 w;replace hr:=Hh hr;go_wp2
    go_loopw [13,40] (λ_ i wx=>∃(j:Nat) (q3:List Nd),i=Z G j/\j<=k/\Hid (Cc wx gb gs (O ⟨gs,0,I⟩) cap q3)/\Hid (je w f q3)/\Hid (Mod (Bm f) w wx) /\
     Hid (∀i,i<f.length->(Bx zs j i->∃r2,U (nd q2 i).whole (nd q2 i).l r2 (nd q3 i).l)/\(¬Bx zs j i->(nd q3 i).l=(nd q2 i).l))) (λ_ i _=>k-(intOf i).toNat)
    case atStart=>exact⟨0,q2,rfl,As _,av.out,o.out,aH.out,λi z=>⟨λh=>by obtain⟨j,hj,_⟩:=h;omega,λ_=>rfl⟩⟩
    case round=>
     obtain⟨j,q3,rfl,hj,am,v,aI,aF⟩:=hrel;by_cases bk:j<k
     .have a8:(j:Int)<k:=ao9;have bj:(0:Int)<=(j:Int):=ao9;have aC:j<zs.length:=(by have:=s.out;omega);obtain⟨b',bf,aP,a5,b0⟩:=(hz wr aI.out).cell j ao9;cases aP;obtain⟨jx,ap⟩:∃jx:Nat,zi zs j=(jx:Int):=⟨(zi zs j).toNat,by have:=x.low j aC;omega⟩;have a4:jx<n:=(by have:=x.high j aC;rw[hn.out];omega);have d:jx<f.length:=(by rw[<-hn.out];exact a4);rw[ap]at b0;have bs:(jx:Int)<n:=ao9;have bp:(0:Int)<=(jx:Int):=ao9;have aJ:=am.head;rw[v.len,<-hn.out]at aJ;have c0:=Aa aJ 0;simp at c0;have p0:=am.ptr jx (by rw[v.len];exact d);have g:=am.gj jx (by rw[v.len];exact d);have ac:=am.inv jx (by rw[v.len];exact d);have aQ:=HU _ _ _ _ _ _ g ac (hC wr aI.out);replace⟨aQ,aJ,g,ac,ap,aC,d⟩:=H7 aQ aJ g ac ap aC d;go_wp2_with fail
      (with_reducible refine aQ.out.mono ?_)
      rintro e w4 ⟨r4,bw,bc,l4,rfl,⟨aA,aL⟩,aY,a0,aU⟩;obtain⟨q4,aO,aM,aN,e3,e4⟩:=Ajf v.out am.out aI.out d.out aY aL a0 aU;have t:=((aF jx d.out).2 (Acv x.out aC.out ap.out));have aD:=(v.whole jx d.out).trans (o.whole jx d.out).symm;rw[t,aD]at aA;rw[<-e3]at aA;clear e3 t aD c0 p0 b0;replace⟨aA,aL,aY,a0,aU,aO,aM,aN⟩:=H8 aA aL aY a0 aU aO aM aN;replace e4:=Hh e4;go_wp2;go_roundw
      case rel=>
       refine⟨j+1,q4,by go_num,ao9,aO.out,aM.out,aN.out,λi z=>⟨λh=>?_,λh=>?_⟩⟩
       .by_cases e:i=jx
        .subst e;exact⟨r4,aA.out⟩
        .rw [e4 i e];rcases O7.1 h with h|h
         .exact (aF i z).1 h
         .rw [ap.out]at h;exact absurd ao9 e
       .have ad:i≠jx:=λe=>h (O7.2 (.inr (by rw[e];exact ap.out)));rw[e4 i ad];exact(aF i z).2 λh2=>h (O7.2 (.inl h2))
      case measure=>simp[intOf];omega
     .have a8:¬(j:Int)<k:=ao9;have aR:j=k:=ao9;replace aR:=Hh aR;go_wp2;go_ret;have aG:=aF.out;rw[aR.out]at aG;have a2:=Acv x.out s.out p.out;refine⟨r,q3,rfl,.inr (.inr ⟨x.out,hr.out,k,u,s.out,p.out,a.out,?_,λi z=>⟨λh=>?_,λh ad=>?_⟩⟩),am.out,v.out,aI.out⟩
      .rw [(aG u a.out).2 a2];exact hR.out
      .have ad:i≠u:=λe=>a2 (e▸h);obtain⟨r2,hu⟩:=(aG i z).1 h;rw[o.whole i z]at hu;refine⟨(nd q2 i).l,r2,?_,?_,hu⟩
       .rw [e2 i ad];exact(hD i z).1 h
       .have:=av.inv i (by rw[o.len];exact z);rw[o.whole i z]at this;exact this
      .rw [(aG i z).2 h,e2 i ad];exact(hD i z).2 h
  .have a6:¬(k:Int)<m:=ao9;have aS:k=zs.length:=(by rw[aK.out];omega);replace aS:=Hh aS;go_wp2;go_ret;have a1:=hD.out;rw[aS.out]at a1;exact⟨0,q,rfl,.inr (.inl ⟨x.out,rfl,a1⟩),hP.out,hK.out,hM.out⟩
def bits (f:Nat->Bool):Array VL:=#[Q (f 0),Q (f 1),Q (f 2),Q (f 3),Q (f 4),Q (f 5),Q (f 6),Q (f 7),Q (f 8),Q (f 9),Q (f 10),Q (f 11),Q (f 12),Q (f 13),Q (f 14),Q (f 15)]
def Aji {i:Nat} (h:i<16):i=0\/i=1\/i=2\/i=3\/i=4\/i=5\/i=6\/i=7\/i=8\/i=9\/i=10\/i=11\/i=12\/i=13\/i=14\/i=15:=ao9
def Ajj (f:Nat->Bool) {i:Nat} (h:i<16):(bits f)[i]?=O (Q (f i)):=by
 rcases Aji h with rfl|rfl|rfl|rfl|rfl|rfl|rfl|rfl|rfl|rfl|rfl|rfl|rfl|rfl|rfl|rfl<;>rfl
def Avh (f:Nat->Bool) {i:Nat} (h:i<16):(bits f).setIfInBounds i (Q true)=bits λj=>if j=i then true else f j:=by
 rcases Aji h with rfl|rfl|rfl|rfl|rfl|rfl|rfl|rfl|rfl|rfl|rfl|rfl|rfl|rfl|rfl|rfl<;>rfl
def U6:(prog.info? 364).map (·.size)=O 16:=by kernel_rfl
def Avi (f:Nat->Bool) (k:Nat) (a:k<16) (w:WD):(Instr.index 364 (.agg (bits f)) (Z G (k:Int))).run prog w=.ok (Q (f k)) w:=by
 have h1:(0:Int)<=(k:Int)/\(k:Int)<16:=ao9
 simp[Instr.index,asIntOf,Nw Wo,part,h1,a,Ajj f a]
def Ajk {B b:Nat} {a w:WD} (h:BW B a w) (d:B<=b) (cs:Array VL):BW B a (w.setRow b cs):=
 ⟨h.os,h.tape,h.output,by simpa using h.size,λk c=>(Ug w b k cs ao9).trans (h.block k c)⟩
def Avj (n:Nat) (zs:List Int) (w:WD) (e:Ending) (w':WD):Prop:=
 ∃f:Nat->Bool,e=Y (.agg (bits f))/\(∀i,f i=true↔i<n/\Bx zs zs.length i)/\BW w.heap.size w w'
def Acw:(#[Q false,Q false,Q false,Q false,Q false,Q false,Q false,Q false,Q false,Q false,Q false,Q false,Q false,Q false,Q false,Q false]:Array VL)=bits λ_=>false:=rfl
def Avk (gb gs cap:Nat) (po:Option Addr) (ps:List Nd) (ao:Option Addr) (m c:Nat) (zs:List Int) (w:WD) (hp:Cc w gb gs po cap ps) (hz:At w ao m zs) :
  CS prog 285 #[K (O ⟨gb,0,I⟩),V ao m c] w (Avj ps.length zs w):=by
 obtain⟨n,hn⟩:=Ex (ps.length);have hh:=hp.head;have ad:=hp.j8;rw[<-hn]at hh ad;have c0:=Aa hh 0;simp at c0;have ap:=Ab hh;rw[<-hn];clear hp hh hn;have s:=hz.len;have aA:=hz.max;replace⟨hz,s⟩:=H2 hz s;go_enter func285,ntmps285;go_wp2;go_loopw [7,10] (λ_ i wr=>∃(k:Nat) (f:Nat->Bool),i=Z G k/\k<=m/\Hid (∀i,f i=true↔i<n/\Bx zs k i)/\Hid (wr.heap[w.heap.size+1]?=O (J (bits f) 364 (0,0)))/\Hid (wr.heap[w.heap.size]?=O (J (bits λ_=>false) 364 (0,0)))/\Hid (BW w.heap.size w wr)) (λ_ i _=>m-(intOf i).toNat)
 case atStart=>
  refine⟨0,λ_=>false,rfl,As _,λi=>⟨λh=>by simp at h,λh=>by obtain⟨_,j,hj,_⟩:=h;omega⟩,?_,?_,Bn.alloc as9 _⟩
  .rw [<-Acw];exact A6 _ _ as9
  .rw [<-Acw];exact Aj _ (Ah _ _)
 case round=>
  obtain⟨k,f,rfl,hk,hf,p,q,l⟩:=hrel;have g0:=(Af (o:=0) l.out ap).trans c0;by_cases hc:k<m
  .have an:(k:Int)<m:=ao9;have aC:(0:Int)<=(k:Int):=ao9;obtain⟨b,aD,rfl,hb,a0⟩:=hz.cell k hc;have b0:=(Af l.out hb).trans a0;clear a0;obtain⟨x,hx⟩:=Ex (zi zs k);rw[<-hx]at b0;replace hx:=Hh hx;by_cases y:0<=x;rotate_left
   .have d1:decide (0<=x)=false:=by simpa using y
    have a:∀i,f i=true↔i<n/\Bx zs (k+1) i:=λi=>by
     rw[hf i,O7,<-hx.out];constructor
     .exact λh=>⟨h.1,.inl h.2⟩
     .rintro ⟨h1,u|u⟩
      .exact ⟨h1,u⟩
      .omega
    replace⟨y,a⟩:=H2 y a;go_wp2;go_roundw
    case rel=>exact⟨k+1,f,by go_num,ao9,a.out,p.out,q.out,l.out⟩
    case measure=>simp[intOf];omega
   have d1:decide (0<=x)=true:=(by simpa using y);by_cases q2:x<n;rotate_left
   .have d2:decide (x<(n:Int))=false:=by simpa using q2
    have a:∀i,f i=true↔i<n/\Bx zs (k+1) i:=λi=>by
     rw[hf i,O7,<-hx.out];constructor
     .exact λh=>⟨h.1,.inl h.2⟩
     .rintro ⟨h1,u|u⟩
      .exact ⟨h1,u⟩
      .omega
    replace⟨y,q2,a⟩:=H3 y q2 a;go_wp2;go_roundw
    case rel=>exact⟨k+1,f,by go_num,ao9,a.out,p.out,q.out,l.out⟩
    case measure=>simp[intOf];omega
   obtain⟨t,rfl⟩:∃t:Nat,x=(t:Int):=⟨x.toNat,ao9⟩;have d2:decide ((t:Int)<(n:Int))=true:=(by simpa using q2);have aB:=q2;have av:(t:Int)<16:=ao9;have al:t<16:=ao9;have cc:=Aa p.out t;rw[Ajj f al]at cc;have ff:=Ag p.out t
   have d:∀i,(λj=>if j=t then true else f j) i=true↔i<n/\Bx zs (k+1) i:=λi=>by
    simp only;rw[O7,<-hx.out];by_cases e:i=t
    .subst e;rw[Ad rfl];exact⟨λ_=>⟨ao9,.inr rfl⟩,λ_=>rfl⟩
    .rw [Ac e,hf i];constructor
     .exact λh=>⟨h.1,.inl h.2⟩
     .rintro ⟨h1,u|u⟩
      .exact ⟨h1,u⟩
      .omega
   replace⟨y,q2,d⟩:=H3 y q2 d;go_wp2;go_roundw
   case rel=>
    refine⟨k+1,_,by go_num,ao9,d.out,?_,Dn ao9 _ q.out,l.setCell as9 _⟩;show _=_;rw[Ap p.out,Avh f al]
   case measure=>simp[intOf];omega
  .have an:¬(k:Int)<m:=ao9;have ac:k=zs.length:=(by rw[s.out];omega);have am:(bits f).all (·.oneCell')=true:=(by simp[bits,Value.oneCell']);have r:=La wr w.heap.size _ (bits f) 364 (0,0) q.out;have z:=Ajk l.out Ln (bits f);have g:=hf.out;rw[ac]at g;replace⟨ac,g,r,z⟩:=H4 ac g r z;go_wp2_with (first|(refine Wu rfl 364 _ rfl (w.heap.size+1) rfl 364 (bits f) (0,0) _ p.out Wo rfl U6 ?_)|(refine L2 rfl 364 _ _ rfl w.heap.size (bits f) rfl rfl 364 _ q.out U6 rfl am ?_));refine Al (v:=.agg (bits f)) ?_ rfl ?_
   .exact results_cell_row rfl _ _ w.heap.size 364 (bits f) (0,0) _ rfl r.out Wo rfl U6
   .exact ⟨f,rfl,g.out,z.out⟩
def Avl  {l m f:List St} {fr g r:Int}  (d:Inv whole l) (b:Inv whole f) (q:Rj l fr g v 0 m) (p:Rk whole m fr g v r f):f=l:=by
 rcases q with⟨_,h,_⟩|⟨_,_,h,_⟩|⟨j,i,_,k⟩
 .exact absurd h ad9
 .exact absurd h ad9
 obtain⟨s,t,x,y⟩:=Nc j
 have a:∀u,fr<=u->u<g->Aq (val m u) v=val l u:=λu h1 c=>by
  rw[k u ao9 ao9,Ad ⟨h1,c⟩];simp only[Aq,N9,Int.sub_add_cancel]
 rcases p with⟨h,_⟩|⟨_,h,_⟩|⟨_,_,_,e⟩
 .rw [j]at h;cases h
 .exact absurd (λu h1 c=>by rw[a u h1 c];exact Mf.1 (d.free u ao9 ao9).2) h
 .refine Acp b.loose d.loose b.iy d.iy λu n o=>?_;rw[e u n o];split
  .rename_i h;exact a u h.1 h.2
  .rename_i h;rw[k u n o,Ac h]
def Avm  {l m g:List St} {fr i r:Int}  (d:Inv whole l) (b:Inv whole g) (p:Rk whole l fr i v 0 m) (q:Rj m fr i v r g):g=l:=by
 rcases p with⟨_,h,_⟩|⟨_,_,h,_⟩|⟨k,j,_,e⟩
 .exact absurd h ad9
 .exact absurd h ad9
 obtain⟨s,t,x,y⟩:=Nc k
 have a:∀u,fr<=u->u<i->N9 (val m u) v=val l u:=λu h1 c=>by
  rw[e u ao9 ao9,Ad ⟨h1,c⟩];simp only[Aq,N9,Int.add_sub_cancel]
 rcases q with⟨h,_⟩|⟨_,h,_⟩|⟨_,_,_,f⟩
 .rw [k]at h;cases h
 .refine absurd (λu h1 c=>?_) h;rw[e u ao9 ao9,Ad ⟨h1,c⟩];have:=F9.1 (d.free u ao9 ao9).1
  refine⟨?_,?_,?_,?_⟩<;>simp only[Aq]<;>omega
 .refine Acp b.loose d.loose b.iy d.iy λu n o=>?_;rw[f u n o];split
  .rename_i h;exact a u h.1 h.2
  .rename_i h;rw[e u n o,Ac h]
def O8 (ps ps':List Nd):Prop:=∀i,i<ps.length->(nd ps' i).l=(nd ps i).l
def Kw (ps:List Nd) (zs:List Int) (fr tt:Int) (v:V4) (r:Int) (ps':List Nd):Prop:=
 (¬(Cy ps.length zs/\Bb fr tt v=true)/\r=1/\O8 ps ps') \/
 (Cy ps.length zs/\Bb fr tt v=true/\¬(∀i,i<ps.length->Bx zs zs.length i->∀u,fr<=u->u<tt->v.leq (val (nd ps i).l u))/\r=60/\O8 ps ps') \/
 (Cy ps.length zs/\Bb fr tt v=true/\(∀i,i<ps.length->Bx zs zs.length i->∀u,fr<=u->u<tt->v.leq (val (nd ps i).l u))/\r=0 /\
   ∀i,i<ps.length->(Bx zs zs.length i->∀u,0<=u->u<1099511627776->val (nd ps' i).l u=if fr<=u/\u<tt then N9 (val (nd ps i).l u) v else val (nd ps i).l u)/\(¬Bx zs zs.length i->(nd ps' i).l=(nd ps i).l))
def Y2 (ps:List Nd) (zs:List Int) (fr tt:Int) (v:V4) (r:Int) (ps':List Nd):Prop:=
 (¬(Cy ps.length zs/\Bb fr tt v=true)/\r=1/\O8 ps ps') \/
 (Cy ps.length zs/\Bb fr tt v=true/\¬(∀i,i<ps.length->Bx zs zs.length i->∀u,fr<=u->u<tt->(Aq (val (nd ps i).l u) v).leq (nd ps i).whole)/\r=61/\O8 ps ps') \/
 (Cy ps.length zs/\Bb fr tt v=true/\(∀i,i<ps.length->Bx zs zs.length i->∀u,fr<=u->u<tt->(Aq (val (nd ps i).l u) v).leq (nd ps i).whole)/\r=0 /\
   ∀i,i<ps.length->(Bx zs zs.length i->∀u,0<=u->u<1099511627776->val (nd ps' i).l u=if fr<=u/\u<tt then Aq (val (nd ps i).l u) v else val (nd ps i).l u)/\(¬Bx zs zs.length i->(nd ps' i).l=(nd ps i).l))
def Ajl {n:Nat}  (h:Cy n zs):∃i,i<n/\Bx zs zs.length i:=
 ⟨(zi zs 0).toNat,by have:=h.low 0 h.pos;have:=h.high 0 h.pos;omega,0,h.pos,by have:=h.low 0 h.pos;omega⟩
def Avn    {d b:List Nd}  {fr o r:Int}  (q:∀i,i<d.length->Inv (nd d i).whole (nd d i).l)
  (hP:Cc w' gb gs po cap b) (ad:b.length=d.length) (ac:∀i,i<d.length->(nd b i).whole=(nd d i).whole)
  (h:Acu (λ_ l r l'=>Rj l fr o v r l') (λwhole l r l'=>Rk whole l fr o v r l') d zs r b):Kw d zs fr o v r b:=by
 rcases h with⟨n,rfl,rfl⟩|⟨n,rfl,a⟩|⟨n,hr,k,c,hk,hc,x,hR,a⟩
 .exact .inl ⟨λh=>n h.1,rfl,λ_ _=>rfl⟩
 .obtain ⟨i0,h0,h1⟩:=Ajl n
  have ok:∀i,i<d.length->Bx zs zs.length i->Bb fr o v=true/\(∀u,fr<=u->u<o->v.leq (val (nd d i).l u))/\∀u,0<=u->u<1099511627776->val (nd b i).l u=if fr<=u/\u<o then N9 (val (nd d i).l u) v else val (nd d i).l u:=λi f j=>by
   rcases(a i f).1 j with⟨_,h,_⟩|⟨_,_,h,_⟩|⟨s,y,_,hv⟩
   .exact absurd h ad9
   .exact absurd h ad9
   .exact ⟨s,y,hv⟩
  exact .inr (.inr ⟨n,(ok i0 h0 h1).1,λi f j=>(ok i f j).2.1,rfl,λi f=>⟨λj=>(ok i f j).2.2,(a i f).2⟩⟩)
 .have g:(nd b c).l=(nd d c).l->O8 d b:=λt i f=>by
   by_cases e:i=c
   .subst e;exact t
   .by_cases j:Bx zs k i
    .obtain ⟨m,r2,ht,hm,hu⟩:=(a i f).1 j;have p:=hP.inv i ao9;rw[ac i f]at p;exact Avl (q i f) p ht hu
    .exact (a i f).2 j e
  rcases hR with⟨s,rfl,z⟩|⟨s,y,rfl,z⟩|⟨_,_,h,_⟩
  .exact .inl ⟨λh=>by rw[s]at h;exact absurd h.2 as9,rfl,g z⟩
  .exact .inr (.inl ⟨n,s,λh=>y (h c x ⟨k,hk,hc⟩),rfl,g z⟩)
  .exact absurd h hr
def Avo    {d b:List Nd}  {fr o r:Int}  (q:∀i,i<d.length->Inv (nd d i).whole (nd d i).l)
  (hP:Cc w' gb gs po cap b) (ad:b.length=d.length) (ac:∀i,i<d.length->(nd b i).whole=(nd d i).whole)
  (h:Acu (λwhole l r l'=>Rk whole l fr o v r l') (λ_ l r l'=>Rj l fr o v r l') d zs r b):Y2 d zs fr o v r b:=by
 rcases h with⟨n,rfl,rfl⟩|⟨n,rfl,a⟩|⟨n,hr,k,c,hk,hc,x,hR,a⟩
 .exact .inl ⟨λh=>n h.1,rfl,λ_ _=>rfl⟩
 .obtain ⟨i0,h0,h1⟩:=Ajl n
  have ok:∀i,i<d.length->Bx zs zs.length i->Bb fr o v=true/\(∀u,fr<=u->u<o->(Aq (val (nd d i).l u) v).leq (nd d i).whole)/\∀u,0<=u->u<1099511627776->val (nd b i).l u=if fr<=u/\u<o then Aq (val (nd d i).l u) v else val (nd d i).l u:=λi f j=>by
   rcases(a i f).1 j with⟨_,h,_⟩|⟨_,_,h,_⟩|⟨s,y,_,hv⟩
   .exact absurd h ad9
   .exact absurd h ad9
   .exact ⟨s,y,hv⟩
  exact .inr (.inr ⟨n,(ok i0 h0 h1).1,λi f j=>(ok i f j).2.1,rfl,λi f=>⟨λj=>(ok i f j).2.2,(a i f).2⟩⟩)
 .have g:(nd b c).l=(nd d c).l->O8 d b:=λt i f=>by
   by_cases e:i=c
   .subst e;exact t
   .by_cases j:Bx zs k i
    .obtain ⟨m,r2,ht,hm,hu⟩:=(a i f).1 j;have p:=hP.inv i ao9;rw[ac i f]at p;exact Avm (q i f) p ht hu
    .exact (a i f).2 j e
  rcases hR with⟨s,rfl,z⟩|⟨s,y,rfl,z⟩|⟨_,_,h,_⟩
  .exact .inl ⟨λh=>by rw[s]at h;exact absurd h.2 as9,rfl,g z⟩
  .exact .inr (.inl ⟨n,s,λh=>y (h c x ⟨k,hk,hc⟩),rfl,g z⟩)
  .exact absurd h hr
def Cp (f1 f2 f3:Nat) (fr tt:Int) (v:V4) (w:WD):Prop:=
 w.heap[f1]?=O (J #[Z G fr] 3 (0,0))/\w.heap[f2]?=O (J #[Z G tt] 3 (0,0))/\w.heap[f3]?=O (J v.cells 30 (0,0))
def Avp:∀args w,(callFunc 274 args).run prog w=.ok (.enter 274 args) w:=J2 func274 ad9 (by simp[f274])
def Avq:∀args w,(callFunc 275 args).run prog w=.ok (.enter 275 args) w:=J2 func275 ad9 (by simp[f275])
def Avr:∀args w,(callFunc 240 args).run prog w=.ok (.enter 240 args) w:=J2 func240 ad9 (by simp[f240])
def Avs:∀args w,(callFunc 242 args).run prog w=.ok (.enter 242 args) w:=J2 func242 ad9 (by simp[f242])
def Avt (p q s:Nat) (fr o:Int) (v:V4):Ta (λ_ l r m=>Rj l fr o v r m) 274 p q s (Cp p q s fr o v):=by
 intro pb sb cap whole l w j g hc;obtain⟨h1,t,f⟩:=hc;have x:=Aa h1 0;have y:=Aa t 0;have z:=Aa f 0;have c1:=Aa f 1;have c2:=Aa f 2;have c3:=Aa f 3;simp at x y z c1 c2 c3;clear h1 t f;have k:=Aiu pb sb cap whole l fr o v w j g.loose;replace⟨k,j,g⟩:=H3 k j g;go_enter func274,ntmps274;go_wp2_with fail;refine k.mono ?_;rintro e w2 ⟨r,n,d,m,rfl,u,b,c,a⟩;obtain⟨h,i⟩:=Ajd g.out u;clear u;replace⟨h,i,b,c,a⟩:=H5 h i b c a;go_wp2;go_ret;exact⟨r,n,d,m,rfl,⟨i.out,h.out⟩,b.out,c.out,a.out⟩
def Avu (p q s:Nat) (fr o:Int) (v:V4):Ta (λwhole l r m=>Rk whole l fr o v r m) 275 p q s (Cp p q s fr o v):=by
 intro pb sb cap whole l w j g hc;obtain⟨h1,t,f⟩:=hc;have x:=Aa h1 0;have y:=Aa t 0;have z:=Aa f 0;have c1:=Aa f 1;have c2:=Aa f 2;have c3:=Aa f 3;simp at x y z c1 c2 c3;clear h1 t f;have k:=Aiz pb sb cap whole l fr o v w j g.loose;replace⟨k,j,g⟩:=H3 k j g;go_enter func275,ntmps275;go_wp2_with fail;refine k.mono ?_;rintro e w2 ⟨r,n,d,m,rfl,u,b,c,a⟩;obtain⟨h,i⟩:=Aje g.out u;clear u;replace⟨h,i,b,c,a⟩:=H5 h i b c a;go_wp2;go_ret;exact⟨r,n,d,m,rfl,⟨i.out,h.out⟩,b.out,c.out,a.out⟩
def Avv (p q s:Nat) (fr o:Int) (v:V4):Ta (λ_ l r m=>Rj l fr o v r m) 240 p q s (Cp p q s fr o v):=by
 intro pb sb cap whole l w j g hc;obtain⟨h1,t,f⟩:=hc;have x:=Aa h1 0;have y:=Aa t 0;have z:=Aa f 0;have c1:=Aa f 1;have c2:=Aa f 2;have c3:=Aa f 3;simp at x y z c1 c2 c3;clear h1 t f;have k:=Aiu pb sb cap whole l fr o v w j g.loose;replace⟨k,j,g⟩:=H3 k j g;go_enter func240,ntmps240;go_wp2_with fail;refine k.mono ?_;rintro e w2 ⟨r,n,d,m,rfl,u,b,c,a⟩;obtain⟨h,i⟩:=Ajd g.out u;clear u;replace⟨h,i,b,c,a⟩:=H5 h i b c a;go_wp2;go_ret;exact⟨r,n,d,m,rfl,⟨i.out,h.out⟩,b.out,c.out,a.out⟩
def Avw (p q s:Nat) (fr o:Int) (v:V4):Ta (λwhole l r m=>Rk whole l fr o v r m) 242 p q s (Cp p q s fr o v):=by
 intro pb sb cap whole l w j g hc;obtain⟨h1,t,f⟩:=hc;have x:=Aa h1 0;have y:=Aa t 0;have z:=Aa f 0;have c1:=Aa f 1;have c2:=Aa f 2;have c3:=Aa f 3;simp at x y z c1 c2 c3;clear h1 t f;have k:=Aiz pb sb cap whole l fr o v w j g.loose;replace⟨k,j,g⟩:=H3 k j g;go_enter func242,ntmps242;go_wp2_with fail;refine k.mono ?_;rintro e w2 ⟨r,n,d,m,rfl,u,b,c,a⟩;obtain⟨h,i⟩:=Aje g.out u;clear u;replace⟨h,i,b,c,a⟩:=H5 h i b c a;go_wp2;go_ret;exact⟨r,n,d,m,rfl,⟨i.out,h.out⟩,b.out,c.out,a.out⟩
def Acx (R:Int->List Nd->Prop) (gb gs cap:Nat) (po:Option Addr) (ps:List Nd) (w:WD) (e:Ending) (w':WD):Prop:=
 ∃r ps',e=Y (Z G r)/\R r ps'/\Cc w' gb gs po cap ps'/\je w ps ps'/\Mod (Bm ps) w w'
def je.back {w b:WD} {a q:List Nd} (h:je b a q) (d:w.heap.size<=b.heap.size):je w a q:=
 ⟨h.len,h.pb,h.whole,λi c=>by rcases h.sb i c with e|e;exact .inl e;exact .inr (A8 d e)⟩
def Acy (x z cap:Nat) (po:Option Addr) (n:List Nd) (u:Option Addr) (m c:Nat) (zs:List Int) (fr i:Int) (v:V4) (w:WD)
  (s:Cc w x z po cap n) (hz:At w u m zs) (ho:0<m->vw u (Bm n)) (ac:m<=c) :
  CS prog 236 #[K (O ⟨x,0,I⟩),V u m c,Z G fr,Z G i,v.val] w (Acx (Kw n zs fr i v) x z cap po n w):=by
 obtain⟨W,p⟩:=Ex (((w.alloc (J #[Z G fr] 3 (0,0))).alloc (J #[Z G i] 3 (0,0))).alloc (J v.cells 30 (0,0)));have o:BW w.heap.size w W:=by rw[p];exact(Bn.alloc as9 _).alloc (by simp;omega) _
 have l:=s.below o;have t:=hz.below o Ln;have a:Cp w.heap.size (w.heap.size+1) (w.heap.size+2) fr i v W:=by rw[p];exact⟨Aj _ (Aj _ (Ah _ _)),Aj _ (A6 _ _ as9),A6 _ _ as9⟩
 have g:∀b,w.heap.size<=b->¬Bm n b:=λb hb k=>by have:=s.l9 k;omega
 have q:∀w',Mod (Bm n) W w'->Cp w.heap.size (w.heap.size+1) (w.heap.size+2) fr i v w':=λw' k=>
  ⟨(k.block _ (Ab a.1) (g _ Ln)).trans a.1,(k.block _ (Ab a.2.1) (g _ ao9)).trans a.2.1,(k.block _ (Ab a.2.2) (g _ ao9)).trans a.2.2⟩
 have y:=Ajh _ _ 274 275 w.heap.size (w.heap.size+1) (w.heap.size+2) (Cp w.heap.size (w.heap.size+1) (w.heap.size+2) fr i v) x z cap po n u m c zs W l (λw' k=>t.mod k ho) ac q Avp Avq (Avt _ _ _ fr i v) (Avu _ _ _ fr i v);rw[p]at y;have ad:=o.size;clear q a g t;replace⟨y,p,o,s,hz,l,ho⟩:=H7 y p o s hz l ho;go_enter func236,ntmps236;go_wp2_with fail;refine y.mono ?_;rintro e w2 ⟨r,al,rfl,hR,f,d,j⟩;have hT:=Avn s.inv f d.len d.whole hR;rw[<-p.out]at d j;have hK:=d.back ad;have hM:=(Mod.af o.out).trans (j.mono λ_ _ h=>.inl h);clear hR d j;replace⟨f,hT,hK,hM⟩:=H4 f hT hK hM;go_wp2;go_ret;exact⟨r,al,rfl,hT.out,f.out,hK.out,hM.out⟩
def Avx (x z cap:Nat) (po:Option Addr) (n:List Nd) (u:Option Addr) (m c:Nat) (zs:List Int) (fr i:Int) (v:V4) (w:WD)
  (s:Cc w x z po cap n) (hz:At w u m zs) (ho:0<m->vw u (Bm n)) (ac:m<=c) :
  CS prog 187 #[K (O ⟨x,0,I⟩),V u m c,Z G fr,Z G i,v.val] w (Acx (Y2 n zs fr i v) x z cap po n w):=by
 obtain⟨W,p⟩:=Ex (((w.alloc (J #[Z G fr] 3 (0,0))).alloc (J #[Z G i] 3 (0,0))).alloc (J v.cells 30 (0,0)));have o:BW w.heap.size w W:=by rw[p];exact(Bn.alloc as9 _).alloc (by simp;omega) _
 have l:=s.below o;have t:=hz.below o Ln;have a:Cp w.heap.size (w.heap.size+1) (w.heap.size+2) fr i v W:=by rw[p];exact⟨Aj _ (Aj _ (Ah _ _)),Aj _ (A6 _ _ as9),A6 _ _ as9⟩
 have g:∀b,w.heap.size<=b->¬Bm n b:=λb hb k=>by have:=s.l9 k;omega
 have q:∀w',Mod (Bm n) W w'->Cp w.heap.size (w.heap.size+1) (w.heap.size+2) fr i v w':=λw' k=>
  ⟨(k.block _ (Ab a.1) (g _ Ln)).trans a.1,(k.block _ (Ab a.2.1) (g _ ao9)).trans a.2.1,(k.block _ (Ab a.2.2) (g _ ao9)).trans a.2.2⟩
 have y:=Ajh _ _ 242 240 w.heap.size (w.heap.size+1) (w.heap.size+2) (Cp w.heap.size (w.heap.size+1) (w.heap.size+2) fr i v) x z cap po n u m c zs W l (λw' k=>t.mod k ho) ac q Avs Avr (Avw _ _ _ fr i v) (Avv _ _ _ fr i v);rw[p]at y;have ad:=o.size;clear q a g t;replace⟨y,p,o,s,hz,l,ho⟩:=H7 y p o s hz l ho;go_enter func187,ntmps187;go_wp2_with fail;refine y.mono ?_;rintro e w2 ⟨r,al,rfl,hR,f,d,j⟩;have hT:=Avo s.inv f d.len d.whole hR;rw[<-p.out]at d j;have hK:=d.back ad;have hM:=(Mod.af o.out).trans (j.mono λ_ _ h=>.inl h);clear hR d j;replace⟨f,hT,hK,hM⟩:=H4 f hT hK hM;go_wp2;go_ret;exact⟨r,al,rfl,hT.out,f.out,hK.out,hM.out⟩
def mq (l:List St) (aa:Int) (v:V4) (u:Int):Prop:=Ll l aa v u/\u+aa<=1099511627776
instance (l:List St) (aa:Int) (v:V4) (u:Int):Decidable (Ll l aa v u):=by unfold Ll;infer_instance
instance (l:List St) (aa:Int) (v:V4) (u:Int):Decidable (mq l aa v u):=by unfold mq;infer_instance
instance (zs:List Int) (k i:Nat):Decidable (Bx zs k i):=by unfold Bx;infer_instance
def Acz (l:List St) (aa:Int) (v:V4) (T x:Int):Prop:=
 T<=x/\x<=1099511627776/\(x<1099511627776->mq l aa v x)/\∀u,T<=u->u<x->¬mq l aa v u
def Avy  {e T t:Int}  {is:Bool} (h:Ju l T e v t is) (h0:0<=T) (h1:T<1099511627776) (i:1<=e) (j:v.right=true) :
  Acz l e v T (if is=true then t else 1099511627776):=by
 unfold Ju at h;rw[Ad ⟨i,j,h1⟩,show max T 0=T by omega]at h;rcases h with⟨rfl,a,b,c,d⟩|⟨rfl,_,d⟩
 .rw [Ad rfl];exact⟨a,ao9,λ_=>⟨c,b⟩,λu f g h=>d u f g h.1⟩
 .rw [Ac as9];exact⟨ao9,ao9,λh=>by omega,λu f g h=>d u f h.2 h.1⟩
def Avz (l:List St) (aa:Int) (v:V4) (T:Int) (w:WD) (e:Ending) (w':WD):Prop:=
 ∃x,e=Y (Z G x)/\Acz l aa v T x/\BW w.heap.size w w'
def Av0 (gb gs cap:Nat) (po:Option Addr) (u:List Nd) (k1 k2 k3:Nat) (o:Int) (v:V4) (i:Nat) (T:Int) (w:WD) (r:Cc w gb gs po cap u)
  (h1:w.heap[k1]?=O (J #[K (O ⟨gb,0,I⟩)] 268 (0,0))) (h2:w.heap[k2]?=O (J #[Z G o] 3 (0,0))) (z:w.heap[k3]?=O (J v.cells 30 (0,0)))
  (hi:i<u.length) (p:0<=T) (q:T<1099511627776) (ht:1<=o) (hv:v.right=true) :
  CS prog 286 #[Z G i,Z G T,K (O ⟨k1,0,I⟩),K (O ⟨k2,0,I⟩),K (O ⟨k3,0,I⟩)] w (Avz (nd u i).l o v T w):=by
 have al:=r.addr ao9;subst al;have hh:=r.head;have ac:=r.j8;have f:=r.gj i hi;have m:=r.inv i hi;have c0:=Aa hh 0;have p0:=r.ptr i hi;have x:=Aa h1 0;have y:=Aa h2 0;have d0:=Aa z 0;have d1:=Aa z 1;have d2:=Aa z 2;have d3:=Aa z 3;simp at c0 x y d0 d1 d2 d3;have ao:=Ab hh;have ap:=T3 w _ p0;have l1:=Ab h1;have l2:=Ab h2;have l3:=Ab z;have s:Hid (∀t is,Ju (nd u i).l T o v t is->Acz (nd u i).l o v T (if is=true then t else 1099511627776)):=λt is h=>Avy h p q ht hv;have he:=Aur _ _ _ _ _ T o v w.drew f.drew m.loose ao9;obtain⟨n,hn⟩:=Ex (u.length);have an:(i:Int)<n:=ao9
 have am:(0:Int)<=(i:Int):=ao9
 rw[<-hn]at c0 ac;obtain⟨pb,ad⟩:=Ex ((nd u i).pb);rw[<-ad]at p0 he;clear r h1 h2 z hh f m hn ad hi;replace⟨he,p,q,ht,hv⟩:=H5 he p q ht hv;go_enter func286,ntmps286;go_wp2_with fail
 go_region_held3 (λw'=>w'.cell? ⟨k1,0,I⟩=O (K (O ⟨gb,0,I⟩))/\w'.cell? ⟨gb,0,I⟩=O (V (O ⟨gs,0,I⟩) n cap)/\w'.cell? ⟨gs,i,I⟩=O (K (O ⟨pb,0,I⟩)) /\
   w'.cell? ⟨k2,0,I⟩=O (Z G o)/\w'.cell? ⟨k3,0,I⟩=O (Z G v.a)/\w'.cell? ⟨k3,1,I⟩=O (Z G v.b)/\w'.cell? ⟨k3,2,I⟩=O (Z G v.c)/\w'.cell? ⟨k3,3,I⟩=O (Z G v.d))
  (first
    | (go_keep;done)
    | (go_split_ands;refine⟨?_,?_,?_,?_,?_,?_,?_,?_⟩<;>(rw[Af j.out (by simpa using ‹_›)];assumption)))
  (first
    | (go_at_call 287;refine he.mono ?_;rintro e w2 ⟨t,is,rfl,hR,j⟩
       replace⟨hR,j⟩:=H2 hR j))
 have g:BW w.heap.size w w2:=I7 j.out;replace g:=Hh g;have k:=s t is hR.out;cases is
 .rw [Ac as9]at k;replace k:=Hh k;go_wp2;go_ret;exact⟨_,rfl,k.out,g.out⟩
 .rw [Ad rfl]at k;replace k:=Hh k;go_wp2;go_ret;exact⟨_,rfl,k.out,g.out⟩
def pick (ps:List Nd) (zs:List Int) (aa:Int) (v:V4) (u:Int) (j:Nat):Bool:=decide (j<ps.length) && decide (Bx zs zs.length j) && decide (mq (nd ps j).l aa v u)
def I8 (ps:List Nd) (zs:List Int) (aa:Int) (v:V4) (u:Int) (k:Nat):List Nat:=(List.range k).filter (pick ps zs aa v u)
def ga (ps:List Nd) (zs:List Int) (aa:Int) (v:V4) (u:Int):List Nat:=I8 ps zs aa v u 16
def Bl (l:List Nat):List Int:=l.map λ(n:Nat)=>(n:Int)
def Tb (b:List Nd) (zs:List Int) (a:Int) (v:V4) (u:Int) (k:Nat):I8 b zs a v u (k+1)=if pick b zs a v u k=true then I8 b zs a v u k++[k]else I8 b zs a v u k:=by
 unfold I8;rw[Wv,Nt];by_cases h:pick b zs a v u k=true
 .rw [Ad h];simp[h]
 .rw [Ac h];simp[h]
def Av1 (c:List Nd) (zs:List Int) (a:Int) (v:V4) (u:Int) (k:Nat) (h:k<=16):∃r,ga c zs a v u=I8 c zs a v u k++r:=by
 unfold ga;obtain⟨d,b⟩:∃d,16=k+d:=⟨16-k,ao9⟩;rw[b];clear h b
 induction d with
 | zero=>exact⟨[],as9⟩
 | succ d ih=>
  obtain⟨r,e⟩:=ih;rw[show k+(d+1)=(k+d)+1 by omega,Tb,e];split
  .exact ⟨r++[k+d],as9⟩
  .exact ⟨r,rfl⟩
def Av2 {b:List Nd}  {a:Int}  {u T:Int} (h:∀j,pick b zs a v u j=true->pick b zs a v T j=true):(ga b zs a v u).length<=(ga b zs a v T).length:=by
 unfold ga I8;rw[<-List.countP_eq_length_filter,<-List.countP_eq_length_filter];exact List.countP_mono_left λj _=>h j
def Fx (ps:List Nd) (zs:List Int) (many:Int) (v:V4) (aa after t:Int) (xs:List Nat) (is:Bool):Prop:=
 if 1<=many/\1<=aa/\v.right=true then
  (is=true/\max after 0<=t/\t<1099511627776/\(xs.length:Int)=many/\(∃r,ga ps zs aa v t=xs++r)/\∀u,max after 0<=u->u<t->((ga ps zs aa v u).length:Int)<many) \/
  (is=false/\t=0/\xs=[]/\∀u,max after 0<=u->u<1099511627776->((ga ps zs aa v u).length:Int)<many)
 else t=0/\xs=[]/\is=false
def Ajm (ps:List Nd) (zs:List Int) (many:Int) (v:V4) (aa after:Int) (w:WD) (e:Ending) (w':WD):Prop:=
 ∃t so n c xs is,e=Y (E #[Z G t,V so n c,Q is])/\Fx ps zs many v aa after t xs is/\At w' so n (Bl xs)/\n<=c/\(∀b off,so=O ⟨b,off,I⟩->w.heap.size<=b)/\BW w.heap.size w w'
def U7 (w:WD):At w I 0 (Bl []):=⟨rfl,ao9,λi a=>by omega⟩
def Am (w:WD) (base:Nat) (sv:VL) (L:Nat) (xs:List Nat):Prop:=L=xs.length/\w.ownsRow base 3 1 sv L ((Bl xs).map (.int G))
def Am.nil (w:WD) (base:Nat):Am w base (V I 0 0) 0 []:=⟨rfl,Mr _ _ _ _⟩
def Am.below   {c:VL}  (h:Am w base c L xs) (f:BW w.heap.size w w'):Am w' base c L xs:=by
 obtain⟨h1,d,e⟩:=h;refine⟨h1,d,?_⟩;rcases e with h|⟨g,cap,a,k,i,b,j⟩
 .exact .inl h
 .exact .inr ⟨g,cap,a,k,i,Ae f b (Ab b),j⟩
def Am.at  {base g cap L:Nat}  (h:Am w base (V (O ⟨g,0,I⟩) L cap) L xs) (e:L<=9223372036854775807):At w (O ⟨g,0,I⟩) L (Bl xs)/\L<=cap/\base<=g:=by
 obtain⟨h1,b⟩:=h;have d:=b;obtain⟨_,h|⟨m,a,c,l,f,k,j,o,p,q⟩⟩:=b
 .cases h.1
 .cases l;refine⟨⟨by simp[Bl,h1],e,λi n=>⟨g,0,rfl,Ab k,?_⟩⟩,j,f⟩;rw[Db,d.cellAt i ao9];simp[Bl,zi,List.getD,show i<xs.length by omega]
structure FW (w:WD) (gb gs cap:Nat) (po:Option Addr) (ps:List Nd) (B3:Nat) (f:Nat->Bool) (aa:Int) (v:V4) (wr:WD):Prop where
 dx:Cc wr gb gs po cap ps
 k1:wr.heap[w.heap.size]?=O (J #[K (O ⟨gb,0,I⟩)] 268 (0,0))
 k2:wr.heap[w.heap.size+1]?=O (J v.cells 30 (0,0))
 k3:wr.heap[w.heap.size+1+1]?=O (J #[Z G aa] 3 (0,0))
 met:wr.heap[B3]?=O (J (bits f) 364 (0,0))
 low:BW w.heap.size w wr
def FW.below  {d e cap:Nat}  {g:List Nd} {b:Nat} {f:Nat->Bool} {c:Int}   (h:FW w d e cap po g b f c v wr) (a:BW wr.heap.size wr w'):FW w d e cap po g b f c v w':=
 ⟨h.dx.below a,Ae a h.k1 (Ab h.k1),Ae a h.k2 (Ab h.k2),Ae a h.k3 (Ab h.k3),Ae a h.met (Ab h.met),h.low.trans (a.mono h.low.size)⟩
def Av3 (gb gs cap:Nat) (po:Option Addr) (ps:List Nd) (ao:Option Addr) (m c:Nat) (zs:List Int) (d:Int) (v:V4) (s after:Int) (w:WD) (hp:Cc w gb gs po cap ps) (hz:At w ao m zs) :
  CS prog 245 #[K (O ⟨gb,0,I⟩),V ao m c,Z G d,v.val,Z G s,Z G after] w (Ajm ps zs d v s after w):=by
 obtain⟨i3,bl,bp,a3,a4⟩:=Cf M0;obtain⟨W,hW⟩:=Ex (((w.alloc (J #[K (O ⟨gb,0,I⟩)] 268 (0,0))).alloc (J v.cells 30 (0,0))).alloc (J #[Z G s] 3 (0,0)));have hB:BW w.heap.size w W:=by rw[hW];exact(Bn.alloc as9 _).alloc (by simp;omega) _
 have w1:W.heap[w.heap.size]?=O (J #[K (O ⟨gb,0,I⟩)] 268 (0,0)):=by rw[hW];exact Aj _ (Aj _ (Ah _ _))
 have w2:W.heap[w.heap.size+1]?=O (J v.cells 30 (0,0)):=by rw[hW];exact Aj _ (A6 _ _ as9)
 have w3:W.heap[w.heap.size+1+1]?=O (J #[Z G s] 3 (0,0)):=by rw[hW];exact A6 _ _ as9
 have ba:=hp.below hB;have bc:=hz.below hB Ln;replace⟨hp,hz,ba,bc,w1,w2,w3⟩:=H7 hp hz ba bc w1 w2 w3
 have aK:¬(1<=d/\1<=s/\v.right=true)->∀w',BW w.heap.size w w'->Ajm ps zs d v s after w (Y (E #[Z G 0,V I 0 0,Q false])) w':=λh w' hb=>
  ⟨0,I,0,0,[],false,rfl,by unfold Fx;rw[Ac h];exact⟨rfl,rfl,rfl⟩,U7 _,Nat.le_refl _,λb bs h=>by simp at h,hb⟩
 replace aK:=Hh aK;by_cases q1:d<1
 .have d1:decide (d<1)=true:=by simpa using q1
  have n:=aK ao9 W hB;rw[hW]at n;replace⟨q1,n,hW,hB⟩:=H4 q1 n hW hB;go_enter func245,ntmps245;go_wp2;go_step3;go_wp2;rw[Jm];go_ret3;exact n.out
 have d1:decide (d<1)=false:=by simpa using q1
 by_cases q2:s<1
 .have d2:decide (s<1)=true:=by simpa using q2
  have n:=aK ao9 W hB;rw[hW]at n;replace⟨q1,q2,n,hW,hB⟩:=H5 q1 q2 n hW hB;go_enter func245,ntmps245;go_wp2;go_step3;go_wp2;rw[Jm];go_ret3;exact n.out
 have d2:decide (s<1)=false:=by simpa using q2
 have a0:=J3 v W;rw[hW]at a0;replace⟨q1,q2,a0,hW,hB⟩:=H5 q1 q2 a0 hW hB;go_enter func245,ntmps245;go_wp2_with fail;go_step3;go_wp2_with fail;refine a0.mono ?_;rintro e w4 ⟨rfl,al⟩;rw[<-hW.out]at al;have aM:=hB.trans (al.mono hB.size);have aZ:=ba.below al;have bb:=bc.below al Ln;have k1:=Ae al w1.out (Ab w1.out);have k2:=Ae al w2.out (Ab w2.out);have k3:=Ae al w3.out (Ab w3.out);have x1:=Aa k1 0;simp at x1;replace⟨k1,k2,k3,al,aM,aZ,bb⟩:=H7 k1 k2 k3 al aM aZ bb;by_cases q3:v.right=true;rotate_left
 .have bd:v.right=false:=by simpa using q3
  rw[bd];have n:=aK (λh=>q3 h.2.2) w4 aM.out;replace⟨q3,bd,n⟩:=H3 q3 bd n;go_wp2;rw[Jm];go_ret3;exact n.out
 rw[q3];replace q3:=Hh q3;go_wp2_with fail;refine(Avk gb gs cap po ps ao m c zs w4 aZ.out bb.out).mono ?_;rintro e w5 ⟨f,rfl,hf,aV⟩;have s4:=aM.size;have s5:=aV.size;have bo:(bits f).all (·.oneCell')=true:=by simp[bits,Value.oneCell']
 obtain⟨A,hA⟩:=Ex (max after 0);have bH:(if after<0 then 0 else after)=A:=by rw[hA];omega
 have bD:0<=A:=ao9
 have aO:FW w gb gs cap po ps w5.heap.size f s v ((w5.alloc (J (bits λ_=>false) 364 (0,0))).setRow w5.heap.size (bits f)):=by have bw:BW w5.heap.size w5 ((w5.alloc (J (bits λ_=>false) 364 (0,0))).setRow w5.heap.size (bits f)):=Ajk Bn Ln _;have hb:=aV.trans (bw.mono s5);exact⟨aZ.below hb,Ae hb k1.out (Ab k1.out),Ae hb k2.out (Ab k2.out),Ae hb k3.out (Ab k3.out),La _ _ _ _ 364 (0,0) (Ah _ _),aM.trans (hb.mono s4)⟩
 replace⟨aO,hf,aV,hA⟩:=H4 aO hf aV hA;go_wp2_with (first|(refine L2 rfl 364 _ _ rfl w5.heap.size (bits f) rfl rfl 364 (bits λ_=>false) (by rw[<-Acw];exact Ah _ _) U6 rfl bo ?_));go_step3;go_wp2;go_loopw [17,18,19,20,21,22] (λt _ _ _ _ _ wr=>∃T:Int,t=Z G T/\A<=T/\Hid (FW w gb gs cap po ps w5.heap.size f s v wr)/\Hid (∀u,A<=u->u<T->((ga ps zs s v u).length:Int)<d)) (λt _ _ _ _ _ _=>(1099511627776-intOf t).toNat)
 case atStart=>exact⟨A,rfl,Dc _,aO.out,λu h1 h2=>by omega⟩
 case round=>
  obtain⟨T,rfl,bv,a5,a9⟩:=hrel;by_cases hT:T<1099511627776;rotate_left
  .have ac:Fx ps zs d v s after 0 [] false:=(by unfold Fx;rw[Ad ⟨by have:=q1.out;omega,by have:=q2.out;omega,q3.out⟩];exact .inr ⟨rfl,rfl,rfl,λu u1 u2=>a9.out u (by rw[hA.out];exact u1) ao9⟩);replace ac:=Hh ac;go_wp2;go_ret3;exact⟨0,I,0,0,[],false,rfl,ac.out,U7 _,Nat.le_refl _,(λb bs h=>by simp at h),a5.low⟩
  have d3:decide (T<1099511627776)=true:=by simpa using hT
  obtain⟨w0,a1⟩:=Ex (wr);have aU:=a5;rw[<-a1]at aU;have aP:=a5.met;replace⟨aP,a1⟩:=H2 aP a1;go_wp2_with (first|(refine Wu rfl 364 _ rfl w5.heap.size rfl 364 (bits f) (0,0) _ aP.out Wo rfl U6 ?_))
  go_loopw [18,19,20,21,22,47] (λnx sv _ _ _ i wx=>∃(k:Nat) (N:Int) (L:Nat) (xs:List Nat),i=Z G k/\nx=Z G N/\k<=16/\T<N/\N<=1099511627776/\(L:Int)<d/\L<=k/\Hid (BW w0.heap.size w0 wx)/\Hid (Am wx w0.heap.size sv L xs) /\
   Hid (xs=I8 ps zs s v T k)/\Hid (∀j,j<k->f j=true->¬mq (nd ps j).l s v T->∀u,T<=u->u<N->¬mq (nd ps j).l s v u)) (λ_ _ _ _ _ i _=>16-(intOf i).toNat)
  case atStart=>
   refine⟨0,1099511627776,0,[],rfl,rfl,ao9,hT,Dc _,by have:=q1.out;omega,Nat.le_refl _,?_,Am.nil _ _,rfl,λj hj=>by omega⟩;rw[a1.out];exact Below.refl _ _
  case round=>
   obtain⟨k,N,L,xs,rfl,rfl,hk,bj,bg,be,bE,aL,aR,aJ,aG⟩:=hrel;by_cases bn:k<16
   .have bx:(k:Int)<16:=ao9;have bF:(0:Int)<=(k:Int):=ao9;have a2:=Avi f k bn;cases am:f k
    .replace aJ:Hid (xs=I8 ps zs s v T (k+1)):=(by show xs=_;rw[Tb,Ac,aJ.out];intro h;simp only[pick,Da,F2]at h;have:=(hf k).2 h.1;rw[am]at this;cases this);simp only[am]at a2
     have a:∀j,j<k+1->f j=true->¬mq (nd ps j).l s v T->∀u,T<=u->u<N->¬mq (nd ps j).l s v u:=λj hj aB=>by
      by_cases e:j=k
      .subst e;rw[am]at aB;cases aB
      .exact aG.out j ao9 aB
     replace⟨a,am⟩:=H2 a am;go_wp2;go_roundw
     case rel=>exact⟨k+1,N,L,xs,by go_num,rfl,ao9,bj,bg,be,ao9,aL.out,aR.out,aJ.out,a.out⟩
     case measure=>simp[intOf];omega
    .have aF:=(hf k).1 am;have z:=aU.below aL.out;simp only[am]at a2;have aD:=Av0 gb gs cap po ps _ _ _ s v k T wr z.dx z.k1 z.k3 z.k2 aF.1 ao9 hT (by have:=q2.out;omega) q3.out;replace⟨aD,z,aF,am⟩:=H4 aD z aF am;go_wp2_with fail
     (with_reducible refine aD.out.mono ?_)
     rintro e w6 ⟨x,rfl,hx,aH⟩;have aA:=aL.trans (aH.mono aL.size);have p:=aR.below aH;have s6:=aA.size;by_cases aI:T<x
     .have d4:decide (T<x)=true:=(by simpa using aI);obtain⟨N2,a6⟩:=Ex (min N x);have bG:(if x<N then x else N)=N2:=(by rw[a6];omega);have aQ:=hx.2.2.2 T (Dc _) aI;have y:xs=I8 ps zs s v T (k+1):=by rw[Tb,Ac,aJ.out];intro h;simp only[pick,Da,F2]at h;exact aQ h.2
      have a:∀j,j<k+1->f j=true->¬mq (nd ps j).l s v T->∀u,T<=u->u<N2->¬mq (nd ps j).l s v u:=λj hj aB h3 u u1 u2=>by
       by_cases e:j=k
       .subst e;exact hx.2.2.2 u u1 ao9
       .exact aG.out j ao9 aB h3 u u1 ao9
      have bk:T<N2:=ao9;have bi:N2<=1099511627776:=ao9;replace⟨hx,aH,aA,p,aI,a6,aQ,y⟩:=H8 hx aH aA p aI a6 aQ y;replace a:=Hh a;go_wp2;go_roundw
      case rel=>exact⟨k+1,N2,L,xs,by go_num,rfl,ao9,bk,bi,be,ao9,aA.out,p.out,y.out,a.out⟩
      case measure=>simp[intOf];omega
     .have bB:x=T:=(by have:=hx.1;omega);subst bB;have d4:decide (x<x)=false:=as9;have aY:=hx.2.2.1 hT;have y:xs++[k]=I8 ps zs s v x (k+1):=by rw[Tb,Ad,aJ.out];simp only[pick,Da,F2];exact⟨aF.out,aY⟩
      have a:∀j,j<k+1->f j=true->¬mq (nd ps j).l s v x->∀u,x<=u->u<N->¬mq (nd ps j).l s v u:=λj hj aB h3 u u1 u2=>by
       by_cases e:j=k
       .subst e;exact absurd aY h3
       .exact aG.out j ao9 aB h3 u u1 ao9
      have av:=p.2.alloc (J #[Z G (k:Int)] 3 (0,0))
      have an:∀j u,([Z G (k:Int)]:List VL)[j]?=O u->(w6.alloc (J #[Z G (k:Int)] 3 (0,0))).cell? ((⟨w6.heap.size,0,I⟩:Addr).add j)=O u:=by
       intro j u hu
       match j,hu with
       | 0,hu=>
        have:=Aa (Ah w6 (J #[Z G (k:Int)] 3 (0,0))) 0;simp at hu;subst hu;exact this
       | j+1,hu=>simp at hu
      have ap:∀u∈([Z G (k:Int)]:List VL),u.oneCell'=true:=by simp[Value.oneCell']
      have aT:L+1<=maxLen:=by
       have:maxLen=9223372036854775807:=by kernel_rfl
       omega
      have aW:(L+1)*8<=140737488355328:=ao9;have ad:w0.heap.size<=(w6.alloc (J #[Z G (k:Int)] 3 (0,0))).heap.size:=(by simp;omega);have aX:=p.2.lt;have aS:=p.1;replace⟨hx,aH,aA,p,aI,y,a,aY⟩:=H8 hx aH aA p aI y a aY;replace⟨av,an,ap,aT,aW,ad,aX,aS⟩:=H8 av an ap aT aW ad aX aS;by_cases r:(L:Int)+1=d
      .have d5:((L:Int)+1 == d)=true:=(by simpa using r);have ac:Fx ps zs d v s after x (xs++[k]) true:=(by unfold Fx;rw[Ad ⟨by have:=q1.out;omega,by have:=q2.out;omega,q3.out⟩];refine .inl ⟨rfl,by rw[<-hA.out];exact bv,hT,by rw[Cn,<-aS.out];simpa using r,?_,λu u1 u2=>a9.out u (by rw[hA.out];exact u1) u2⟩;rw[y.out];exact Av1 _ _ _ _ _ _ ao9);replace⟨ac,r⟩:=H2 ac r;go_wp2_with (at_builtin;refine Ms _ rfl _ _ 31 rfl w0.heap.size 3 i3 _ 1 8 Ns bl bp a3 a4 rfl ad9 _ L _ rfl av.out ⟨w6.heap.size,0,I⟩ 1 1 [Z G (k:Int)] rfl rfl an.out ap.out aT.out aW.out ad.out ?_;intro v1 w7 o q _;obtain⟨g,aE,rfl⟩:=Joins.ownsRow_form o ao9;replace⟨o,q⟩:=H2 o q);go_ret3;have hO:Am w7 w0.heap.size (V (O ⟨g,0,I⟩) (L+1) aE) (L+1) (xs++[k]):=⟨by rw[Cn,<-aS.out];rfl,by simpa[Bl]using o.out⟩;obtain⟨o1,o2,o3⟩:=hO.at ao9;have aN:=(aA.alloc s6 _).grown q.out ad.out (λk hk=>(aX k hk).1);have a8:=aU.low;exact⟨x,O ⟨g,0,I⟩,L+1,aE,xs++[k],true,rfl,ac.out,o1,o2,(λb bs e=>by cases e;exact A8 a8.size o3),a8.trans (aN.mono a8.size)⟩
      .have d5:((L:Int)+1 == d)=false:=(by simpa using r);have bf:(L:Int)+1<d:=ao9;replace r:=Hh r;go_wp2_with (at_builtin;refine Ms _ rfl _ _ 31 rfl w0.heap.size 3 i3 _ 1 8 Ns bl bp a3 a4 rfl ad9 _ L _ rfl av.out ⟨w6.heap.size,0,I⟩ 1 1 [Z G (k:Int)] rfl rfl an.out ap.out aT.out aW.out ad.out ?_;intro v1 w7 o q _;obtain⟨g,aE,rfl⟩:=Joins.ownsRow_form o ao9;replace⟨o,q⟩:=H2 o q);have hO:Am w7 w0.heap.size (V (O ⟨g,0,I⟩) (L+1) aE) (L+1) (xs++[k]):=⟨by rw[Cn,<-aS.out];rfl,by simpa[Bl]using o.out⟩;have aN:=(aA.alloc s6 _).grown q.out ad.out (λk hk=>(aX k hk).1);replace⟨hO,aN⟩:=H2 hO aN;go_roundw
       case rel=>exact⟨k+1,N,L+1,xs++[k],by go_num,rfl,ao9,bj,bg,by simpa using bf,ao9,aN.out,hO.out,y.out,a.out⟩
       case measure=>simp[intOf];omega
   .have bx:¬(k:Int)<16:=ao9;have a7:k=16:=ao9;have d6:(N == T)=false:=(by rw[Br];omega);have z:=aU.below aL.out;have bC:=z.dx.j8
    have aC:=λu u1 u2=>by
     by_cases hu:u<T
     .exact a9.out u u1 hu
     .have bA:=Av2 λj hj=>by
       simp only[pick,Da,F2]at hj ⊢;refine⟨hj.1,Gv λhc=>?_⟩;exact aG.out j (by have:=hj.1.1;omega) ((hf j).2 hj.1) hc u ao9 u2 hj.2
      have:ga ps zs s v T=xs:=by rw[aJ.out,a7];rfl
      rw[this,<-aR.1]at bA;omega
    replace⟨a7,z,aC⟩:=H3 a7 z aC;go_wp2;go_roundw
    case rel=>exact⟨N,rfl,ao9,z.out,aC.out⟩
    case measure=>simp[intOf];omega
def Av4  {S:Nat->Prop} {w w1 b:WD} (h:BW B w w1) (a:Mod S w1 b) (d:∀k,S k->B<=k) (e:B<=w1.heap.size):BW B w b:=
 h.trans ⟨a.os,a.tape,a.output,a.size,λk f=>a.block k ao9 (λc=>by have:=d k c;omega)⟩
end Pl
namespace Pl
def Av5 {l:List St} (b:Ct l) {i j:Nat} (h:i<=j) (a:j<l.length):(nth l i).t<=(nth l j).t:=by
 by_cases e:i=j
 .subst e;exact Dc _
 .exact Int.le_of_lt (b.aw i j ao9 a)
def Ajn {l:List St} (c:Ct l) {v:V4} {u d:Int} (h0:0<=u) (h1:1<=d):Ll l d v u↔∀x,u<=x->x<u+d->v.leq (val l x):=by
 constructor
 .intro h x s n;obtain⟨k,a⟩:=U5 c (u:=x) ao9;rw[Nf c.aw a];exact Mf.1 (h k a.1 (by have:=a.2.1;omega) (λe=>by have:=a.2.2 (k+1) ao9 e;omega))
 .intro h k a r g
  have f:Lj l (max u (nth l k).t) k:=⟨a,ao9,λj m b=>by
   have o:=c.aw k j m b;have p:=Av5 c (i:=k+1) (j:=j) ao9 b;have q:=g ao9
   omega⟩
  have:=h (max u (nth l k).t) ao9 ao9;rw[Nf c.aw f]at this;exact Mf.2 this
end Pl
namespace Pl
open Go.RowKit
variable{a after e t:Int}{zs:List Int}{xs:List Nat}{j:Nat}{v:V4}
def Ajo  {x:Int}:x∈zs↔∃j,j<zs.length/\zi zs j=x:=by
 constructor
 .intro h;obtain⟨i,a,e⟩:=Ol.1 h;exact⟨i,a,by simp[zi,List.getD,a,e]⟩
 .rintro ⟨j,b,e⟩;rw[<-e];simp[zi,List.getD,b]
def Av6 (zs:List Int) (x:Int) (w:WD) (e:Ending) (w':WD):Prop:=∃b:Bool,e=Y (Q b)/\(b=true↔x∈zs)/\w'=w
def Ajp {b:List Nd}  {c u:Int}   (h:j∈ga b zs c v u):j<b.length/\Bx zs zs.length j/\mq (nd b j).l c v u:=by
 unfold ga I8 at h;obtain⟨_,a⟩:=F3.1 h;simp only[pick,Da,F2]at a;exact⟨a.1.1,a.1.2,a.2⟩
def Av7 (b:List Nd) (zs:List Int) (a u:Int) (v:V4):(ga b zs a v u).Pairwise (·<·):=by
 unfold ga I8;exact List.Pairwise.filter _ List.pairwise_lt_range
structure Nh (ps:List Nd) (zs:List Int) (many:Int) (v:V4) (aa after t:Int) (xs:List Nat):Prop where
 many1:1<=many
 mm:1<=aa
 right:v.right=true
 ge:max after 0<=t
 lt:t<1099511627776
 fin:t+aa<=1099511627776
 len:(xs.length:Int)=many
 pre:∃r,ga ps zs aa v t=xs++r
 first:∀u,max after 0<=u->u<t->((ga ps zs aa v u).length:Int)<many
def Fx.found {f:List Nd}    {b after t:Int}  (h:Fx f zs a v b after t xs true):Nh f zs a v b after t xs:=by
 unfold Fx at h;by_cases c:1<=a/\1<=b/\v.right=true
 .rw [Ad c]at h;rcases h with⟨_,h1,g,d,⟨r,e⟩,i⟩|⟨h,_⟩
  .refine ⟨c.1,c.2.1,c.2.2,h1,g,?_,d,⟨r,e⟩,i⟩
   cases xs with
   | nil=>simp at d;omega
   | cons x xs=>exact(Ajp (j:=x) (by rw[e];simp)).2.2.2
  .cases h
 .rw [Ac c]at h;cases h.2.2
def Fx.none {g:List Nd}    {f after t:Int}  (h:Fx g zs e v f after t xs false):t=0/\xs=[] /\
  (1<=e->1<=f->v.right=true->∀u,max after 0<=u->u<1099511627776->((ga g zs f v u).length:Int)<e):=by
 unfold Fx at h;by_cases c:1<=e/\1<=f/\v.right=true
 .rw [Ad c]at h;rcases h with⟨h,_⟩|⟨_,h1,i,j⟩
  .cases h
  .exact ⟨h1,i,λ_ _ _=>j⟩
 .rw [Ac c]at h;exact⟨h.1,h.2.1,λa b d=>absurd ⟨a,b,d⟩ c⟩
def Fx.same {ps x:List Nd}    {c after t t':Int} {xs y:List Nat} {b z:Bool} (h:Fx ps zs a v c after t xs b) (h':Fx x zs a v c after t' y z)
  (j:∀u,ga x zs c v u=ga ps zs c v u):t'=t/\y=xs/\z=b:=by
 have p:∀ {q:List Nd} {k:List Nd} {s l:Int} {ys g:List Nat},Nh q zs a v c after s ys->Nh k zs a v c after l g->(∀u,ga k zs c v u=ga q zs c v u)->s<=l:=fun {q k s l ys g} f i j=>by
  apply Gv;intro hc
  have h1:=f.first l i.ge ao9
  obtain⟨r,m⟩:=i.pre;rw[j]at m;rw[m,Cn]at h1;have:=i.len;omega
 have d:∀ {q:List Nd} {k:List Nd} {s l:Int} {ys g:List Nat},Nh q zs a v c after s ys->Fx k zs a v c after l g false->(∀u,ga k zs c v u=ga q zs c v u)->False:=fun {q k s l ys g} f i j=>by
  have h1:=i.none.2.2 f.many1 f.mm f.right s f.ge f.lt;obtain⟨r,m⟩:=f.pre;rw[j,m,Cn]at h1;have:=f.len;omega
 cases b with
 | true=>
  cases z with
  | true=>
   have f:=h.found;have i:=h'.found;have e:t'=t:=(by have:=p f i j;have:=p i f (λu=>(j u).symm);omega);subst e;refine⟨rfl,?_,rfl⟩;obtain⟨r,m⟩:=f.pre;obtain⟨r',o⟩:=i.pre;rw[j,m]at o;have l1:=f.len;have l2:=i.len;exact(List.append_inj o ao9).1.symm
  | false=>exact(d h.found h' j).elim
 | false=>
  cases z with
  | true=>exact(d h'.found h (λu=>(j u).symm)).elim
  | false=>
   have n:=h.none;have n':=h'.none;exact⟨by rw[n.1,n'.1],by rw[n.2.1,n'.2.1],rfl⟩
def Nh.ah {c:List Nd}  {d:Int}    (h:Nh c zs d v e after t xs):Cy c.length (Bl xs)/\(∀j,j∈xs->j<c.length/\Bx zs zs.length j/\mq (nd c j).l e v t)/\xs.Pairwise (·<·):=by
 obtain⟨r,m⟩:=h.pre;have g:∀j,j∈xs->j<c.length/\Bx zs zs.length j/\mq (nd c j).l e v t:=λj n=>Ajp (by rw[m];exact List.mem_append_left _ n);have k:xs.Pairwise (·<·):=by have:=Av7 c zs e t v;rw[m]at this;exact(T7.1 this).1
 have h1:=h.many1;have o:=h.len
 have f:∀i (a:i<xs.length),zi (Bl xs) i=((xs[i]:Nat):Int):=λi a=>by simp[zi,Bl,List.getD,a]
 have b:(Bl xs).length=xs.length:=by simp[Bl]
 refine⟨⟨by rw[b];omega,λi a=>?_,λi a=>?_,λi a=>?_⟩,g,k⟩
 .rw [b]at a;rw[f i a];omega
 .rw [b]at a;rw[f i a];have:=(g _ (J1 a)).1;omega
 .rw [b]at a;rw[f i ao9,f (i+1) a];have:=L1.1 k i (i+1) ao9 a ao9;omega
def U8:Bx (Bl xs) (Bl xs).length j↔j∈xs:=by
 unfold Bx;have b:(Bl xs).length=xs.length:=by simp[Bl]
 have f:∀i (a:i<xs.length),zi (Bl xs) i=((xs[i]:Nat):Int):=λi a=>by simp[zi,Bl,List.getD,a]
 constructor
 .rintro ⟨c,d,e⟩;rw[b]at d;rw[f c d]at e
  have:xs[c]=j:=ao9
  rw[<-this];exact J1 d
 .intro h;obtain⟨i,a,e⟩:=Ol.1 h;exact⟨i,by rw[b];exact a,by rw[f i a,e]⟩
end Pl
namespace Pl
variable{zs:List Int}{xs:List Nat}{v:V4}
def Nh.span {c:List Nd}  {a:Int}  {b after t:Int}  (h:Nh c zs a v b after t xs):Bb t (t+b) v=true:=by
 have:=h.ge;have:=h.fin;have:=h.mm;simp[Bb,h.right];omega
def Nh.take {d e:List Nd}  {f:Int}  {g after t r:Int}  (h:Nh d zs f v g after t xs) (o:∀i,i<d.length->Ct (nd d i).l)
  (p:Kw d (Bl xs) t (t+g) v r e):r=0/\∀i,i<d.length->(i∈xs->∀u,0<=u->u<1099511627776->val (nd e i).l u=if t<=u/\u<t+g then N9 (val (nd d i).l u) v else val (nd d i).l u)/\(¬i∈xs->(nd e i).l=(nd d i).l):=by
 obtain⟨k,m,x⟩:=h.ah;have h0:0<=t:=by have:=h.ge;omega
 rcases p with⟨a,_⟩|⟨_,_,a,_⟩|⟨_,_,_,rfl,a⟩
 .exact absurd ⟨k,h.span⟩ a
 .refine absurd (λi b n u q s=>?_) a;exact(Ajn (o i b) h0 h.mm).1 (m i (U8.1 n)).2.2.1 u q s
 .exact ⟨rfl,λi b=>⟨λj=>(a i b).1 (U8.2 j),λj=>(a i b).2 (λc=>j (U8.1 c))⟩⟩
end Pl
namespace Pl
open Go.RowKit
variable{q:List Nd}{vs:List V4}{n:Nat}{w w' wr:WD}
def vv (vs:List V4) (i:Nat):V4:=vs.getD i V4.zero
structure O9 (w:WD) (ao:Option Addr) (n:Nat) (vs:List V4):Prop where
 len:vs.length=n
 max:n<=9223372036854775807
 cell:∀i,i<n->∃b off,ao=O ⟨b,off,I⟩/\b<w.heap.size/\w.cell? ⟨b,off+i*4,I⟩=O (Z G (vv vs i).a)/\w.cell? ⟨b,off+i*4+1,I⟩=O (Z G (vv vs i).b) /\
  w.cell? ⟨b,off+i*4+2,I⟩=O (Z G (vv vs i).c)/\w.cell? ⟨b,off+i*4+3,I⟩=O (Z G (vv vs i).d)
def O9.below  {f:Option Addr}   (h:O9 w f n vs) {B:Nat} (a:BW B w w') (k:w.heap.size<=B):O9 w' f n vs:=
 ⟨h.len,h.max,λi j=>by
  obtain⟨b,d,e,c,g,a1,a2,a3⟩:=h.cell i j
  exact⟨b,d,e,Bq c a.size,(Af a ao9).trans g,(Af a ao9).trans a1,(Af a ao9).trans a2,(Af a ao9).trans a3⟩⟩
def Ab3:(prog.info? 321).map (λi=>(i.zero,i.size,i.bytes))=O (O (K I),1,8):=by kernel_rfl
def Ac0 (p:Nd):VL:=K (O ⟨p.pb,0,I⟩)
structure NI (w:WD) (vs:List V4) (k:Nat) (q:List Nd) (sv:VL) (wr:WD):Prop where
 len:q.length=k
 head:wr.heap[w.heap.size]?=O (J #[sv] 354 (0,0))
 row:wr.ownsRow (w.heap.size+1) 321 1 sv k (q.map Ac0)
 node:∀i,i<k->Cx wr (nd q i).pb (nd q i).sb (nd q i).cap (nd q i).whole (nd q i).l/\(nd q i).whole=vv vs i/\(nd q i).l=[⟨0,vv vs i⟩]/\(vv vs i).right=true/\w.heap.size<(nd q i).pb/\w.heap.size<(nd q i).sb
 apart:∀i j,i<k->j<k->i≠j->(nd q i).pb≠(nd q j).pb/\(nd q i).pb≠(nd q j).sb/\(nd q i).sb≠(nd q j).sb
 off:∀i,i<k->∀g,sv.ownBlock=O g->(nd q i).pb≠g/\(nd q i).sb≠g
 low:BW w.heap.size w wr
def Av8 (q:List Nd) (x:Nd) (i:Nat) (h:i<=q.length):nd (q++[x]) i=if i=q.length then x else nd q i:=by
 unfold nd;by_cases e:i=q.length
 .subst e;simp
 .rw [Ac e];simp[List.getD,Fb (show i<q.length by omega)]
def Ac1  {base size n:Nat} {e:TypeId} {v:VL} {xs:List VL} (h:w.ownsRow base e size v n xs) (d:∀g,v.ownBlock=O g->w'.heap[g]?=w.heap[g]?):w'.ownsRow base e size v n xs:=by
 obtain⟨h1,c⟩:=h;refine⟨h1,?_⟩;rcases c with h|⟨g,cap,a,b,f,i,j⟩
 .exact .inl h
 .exact .inr ⟨g,cap,a,b,f,(d g (by rw[b];rfl)).trans i,j⟩
def NI.step {w wr o w3:WD}  {k:Nat}  {sv x:VL} {X:Obj} {u v:Nat} (h:NI w vs k q sv wr) (y:BW wr.heap.size wr o)
  (hp:Cx o u v 1 (vv vs k) [⟨0,vv vs k⟩]) (hr:(vv vs k).right=true) (h1:wr.heap.size<=u) (h2:wr.heap.size<=v)
  (t:w3.ownsRow (w.heap.size+1) 321 1 x (k+1) (q.map Ac0++[K (O ⟨u,0,I⟩)])) (a:(o.alloc X).grownBy w3 sv.ownBlock)
  (ad:x.ownBlock=sv.ownBlock\/x.ownBlock=O (o.alloc X).heap.size) :
  NI w vs (k+1) (q++[⟨u,v,1,vv vs k,[⟨0,vv vs k⟩]⟩]) x (w3.setCell ⟨w.heap.size,0,I⟩ x):=by
 have s:=h.len;have hl:=Ab h.head;have hs:=y.size;have am:=h.row.lt
 have p:∀b,b<o.heap.size->(∀g,sv.ownBlock=O g->b≠g)->b≠w.heap.size->(w3.setCell ⟨w.heap.size,0,I⟩ x).heap[b]?=o.heap[b]?:=λb b1 b2 b3=>by
  rw[C1 _ _ _ _ b3];exact(a.block b (by simp;omega) (λc=>b2 b c.symm rfl)).trans (Iv o X b b1)
 have l:=λi r=>(h.node i r).1.lt;have ac:=hp.lt
 have n:∀g,sv.ownBlock=O g->g<wr.heap.size/\w.heap.size<g:=λg a=>by have:=am g a;omega
 have f:∀i,i<k+1->nd (q++[⟨u,v,1,vv vs k,[⟨0,vv vs k⟩]⟩]) i=if i=k then⟨u,v,1,vv vs k,[⟨0,vv vs k⟩]⟩else nd q i:=λi r=>by rw[Av8 _ _ _ ao9,s]
 refine⟨by simp[s],?_,?_,?_,?_,?_,?_⟩
 .rw [Ap ((a.block w.heap.size (by simp;omega) (λc=>by have:=n _ c.symm;omega)).trans ((Iv o X _ ao9).trans (Ae y h.head hl)))];simp
 .rw [Dk];refine Ac1 t λg d=>C1 _ _ _ _ ?_;have:=t.lt g d;show g≠w.heap.size;omega
 .intro i r;rw[f i r];by_cases e:i=k
  .subst e;rw[Ad rfl];refine⟨⟨?_,hp.row.of_block ?_,hp.ne⟩,rfl,rfl,hr,by simp only;omega,by simp only;omega⟩
   .exact (p u ac.1 (λg a=>by have:=n g a;omega) ao9).trans hp.head
   .exact p v ac.2 (λg a=>by have:=n g a;omega) ao9
  .rw [Ac e];obtain⟨n1,n2,n3,n4,n5,n6⟩:=h.node i ao9;have z:=l i ao9;have hf:=h.off i ao9;refine⟨⟨?_,n1.row.of_block ?_,n1.ne⟩,n2,n3,n4,n5,n6⟩
   .exact (p _ ao9 (λg a=>(hf g a).1) ao9).trans (Ae y n1.head z.1)
   .exact (p _ ao9 (λg a=>(hf g a).2) ao9).trans (y.block _ z.2)
 .intro i j r hj al;rw[f i r,f j hj];by_cases e1:i=k
  .have e2:j≠k:=ao9;rw[Ad e1,Ac e2];have z:=l j ao9
   refine⟨?_,?_,?_⟩<;>simp only<;>omega
  .rw [Ac e1];have z:=l i ao9;by_cases e2:j=k
   .rw [Ad e2]
    refine⟨?_,?_,?_⟩<;>simp only<;>omega
   .rw [Ac e2];exact h.apart i j ao9 ao9 al
 .intro i r g d;rw[f i r];have an:(o.alloc X).heap.size=o.heap.size+1:=as9
  rcases ad with m|m
  .rw [m]at d;by_cases e:i=k
   .rw [Ad e];have:=n g d
    refine⟨?_,?_⟩<;>simp only<;>omega
   .rw [Ac e];exact h.off i ao9 g d
  .rw [m,an]at d;simp at d;by_cases e:i=k
   .rw [Ad e]
    refine⟨?_,?_⟩<;>simp only<;>omega
   .rw [Ac e];have z:=l i ao9;omega
 .have m:=h.low.trans (y.mono h.low.size);exact((m.alloc ao9 X).grown a (by simp;omega) (λg a=>by have:=n g a;omega)).setCell Ln _
def NI.dx     {m:VL} (h:NI w vs n q m wr) (u:n<=16):∃o d cap,m=V d n cap/\Cc wr w.heap.size o d cap q:=by
 have b:=h.len;rcases Joins.ownsRow_forms h.row with⟨rfl,h0⟩|⟨g,cap,rfl⟩
 .refine ⟨0,I,0,by rw[h0],?_⟩;exact⟨by rw[b,h0];exact h.head,λc=>by omega,λi a=>by omega,λi a=>by omega,λi a=>by omega,λi j a=>by omega,λi a=>by omega,ao9⟩
 .refine ⟨g,O ⟨g,0,I⟩,cap,rfl,?_⟩;refine⟨by rw[b];exact h.head,λ_=>rfl,λi a=>?_,λi a=>(h.node i ao9).1,λi a=>?_,λi j a t=>h.apart i j ao9 ao9,λi a=>?_,ao9⟩
  .rw [h.row.cellAt i ao9];simp[Ac0,nd,List.getD,a]
  .obtain ⟨p,f,k,l,r,s⟩:=h.node i ao9;rw[f,k];exact Avd l
  .obtain ⟨p,f,k,l,r,s⟩:=h.node i ao9;have e:=h.off i ao9 g rfl;exact⟨ao9,ao9,e.1,e.2⟩
def Av9 (vs:List V4) (n:Nat) (w:WD) (e:Ending) (w':WD):Prop:=
 (¬(n<=16/\∀i,i<n->(vv vs i).right=true)/\e=Y (K I)/\BW w.heap.size w w') \/
 (n<=16/\(∀i,i<n->(vv vs i).right=true)/\∃gb gs ao cap ps,e=Y (K (O ⟨gb,0,I⟩))/\w.heap.size<=gb/\Cc w' gb gs ao cap ps/\ps.length=n /\
   (∀i,i<n->(nd ps i).whole=vv vs i/\(nd ps i).l=[⟨0,vv vs i⟩])/\(∀b,Bm ps b->w.heap.size<=b)/\BW w.heap.size w w')
def Awa (ao:Option Addr) (n c:Nat) (vs:List V4) (w:WD) (hz:O9 w ao n vs):CS prog 235 #[V ao n c] w (Av9 vs n w):=by
 obtain⟨aL,aD,aG,aB,aC⟩:=Cf Ab3;have aN:=hz.max;replace hz:=Hh hz;by_cases q1:16<n
 .have d1:decide (16<(n:Int))=true:=by simp;omega
  go_enter func235,ntmps235;go_wp2;go_ret;exact .inl ⟨λh=>by omega,rfl,Below.refl _ _⟩
 have d1:decide (16<(n:Int))=false:=by simp;omega
 replace q1:=Hh q1;go_enter func235,ntmps235;go_wp2;go_loopw [5,6,14] (λ_ _ i wr=>∃(k:Nat) (q:List Nd) (sv:VL),i=Z G k/\k<=n/\Hid (NI w vs k q sv wr)) (λ_ _ i _=>n-(intOf i).toNat)
 case atStart=>exact⟨0,[],V I 0 0,rfl,As _,⟨rfl,Ah _ _,Mr _ _ _ _,λi z=>by omega,λi j z=>by omega,λi z=>by omega,Bn⟩⟩
 case round=>
  obtain⟨k,q,sv,rfl,hk,hN⟩:=hrel;by_cases hc:k<n
  .have aJ:(k:Int)<n:=ao9;have aO:(0:Int)<=(k:Int):=ao9;obtain⟨b,aP,rfl,t,a0,a1,a2,a3⟩:=hz.cell k hc;have l:=hN.low;have b0:=(Af l t).trans a0;have b1:=(Af l t).trans a1;have b2:=(Af l t).trans a2;have b3:=(Af l t).trans a3;clear a0 a1 a2 a3;have s1:=l.size;have aK:=Ab hN.head;obtain⟨x,hx⟩:=Ex (vv vs k);rw[<-hx]at b0 b1 b2 b3;replace⟨hx,l⟩:=H2 hx l;go_wp2_with fail;refine(Acs x _).mono ?_;rintro e w2 (⟨hw,rfl,m⟩|⟨hw,pb,sb,rfl,hp,av,aA,m⟩)
   .have am:=(l.alloc s1 _).trans (m.mono (by simp;omega));replace⟨am,m,hw⟩:=H3 am m hw;go_wp2;go_ret;refine .inl ⟨λh=>?_,rfl,am.out⟩;have:=h.2 k hc;rw[<-hx.out,hw.out]at this;cases this
   .have t:=Bn.trans (m.mono as9);have aE:wr.heap.size<=pb:=(by simp at av;omega);have aF:wr.heap.size<=sb:=(by simp at aA;omega);have hh:=Ae t hN.head aK;have c0:=Aa hh 0;simp at c0;have s2:=t.size;have ac:=hN.row.lt;have s:=Ac1 hN.row λg hg=>t.block g (ac g hg).2;have r:=s.alloc (J #[K (O ⟨pb,0,I⟩)] 321 (0,0))
    have o:∀j u,([K (O ⟨pb,0,I⟩)]:List VL)[j]?=O u->(w2.alloc (J #[K (O ⟨pb,0,I⟩)] 321 (0,0))).cell? ((⟨w2.heap.size,0,I⟩:Addr).add j)=O u:=by
     intro j u hu
     match j,hu with
     | 0,hu=>
      have:=Aa (Ah w2 (J #[K (O ⟨pb,0,I⟩)] 321 (0,0))) 0;simp at hu;subst hu;exact this
     | j+1,hu=>simp at hu
    have p:∀u∈([K (O ⟨pb,0,I⟩)]:List VL),u.oneCell'=true:=by simp[Value.oneCell']
    have al:k+1<=maxLen:=by
     have:maxLen=9223372036854775807:=by kernel_rfl
     have:=q1.out;omega
    have an:(k+1)*8<=140737488355328:=(by have:=q1.out;omega);have v:w.heap.size+1<=(w2.alloc (J #[K (O ⟨pb,0,I⟩)] 321 (0,0))).heap.size:=(by simp;omega);have aH:=Ab hh;replace⟨hh,t,m,hp,hw,ac,s,r⟩:=H8 hh t m hp hw ac s r;replace⟨o,p,al,an,v,av,aA⟩:=H7 o p al an v av aA;go_wp2_with (at_builtin;refine R6 _ rfl _ _ 352 rfl (w.heap.size+1) 321 aL _ 1 8 underlying352 aD aG aB aC rfl ad9 sv k _ rfl r.out ⟨w2.heap.size,0,I⟩ 1 1 [K (O ⟨pb,0,I⟩)] rfl rfl o.out p.out al.out an.out v.out ?_;intro v1 w3 f d _ y;obtain⟨g,aM,rfl⟩:=Joins.ownsRow_form f ao9;have ad:=(d.block w.heap.size (by simp;omega) (λc=>by have:=ac _ c.symm;omega)).trans ((Iv w2 _ _ aH).trans hh.out);have g3:=Aa ad 0;have f3:=Ag ad 0;simp at g3;replace⟨f,d,y,ad⟩:=H4 f d y ad);go_roundw
    case rel=>
     refine⟨k+1,_,_,by go_num,ao9,NI.step hN.out t.out (by rw[<-hx.out];exact hp.out) (by rw[<-hx.out];exact hw.out) aE aF f.out d.out y.out⟩
    case measure=>simp[intOf];omega
  .have aJ:¬(k:Int)<n:=ao9;have ap:k=n:=ao9;replace ap:=Hh ap;go_wp2;go_ret;have a:=hN.out;rw[ap.out]at a;have hq:=q1.out;obtain⟨gs,aI,cap,_,hP⟩:=a.dx ao9;refine .inr ⟨ao9,λi z=>(a.node i z).2.2.2.1,w.heap.size,gs,aI,cap,q,rfl,Nat.le_refl _,hP,a.len,λi z=>⟨(a.node i z).2.1,(a.node i z).2.2.1⟩,?_,a.low⟩;rintro b ⟨i,z,h|h⟩
   .have:=(a.node i (by rw[<-a.len];exact z)).2.2.2.2.1;omega
   .have:=(a.node i (by rw[<-a.len];exact z)).2.2.2.2.2;omega
