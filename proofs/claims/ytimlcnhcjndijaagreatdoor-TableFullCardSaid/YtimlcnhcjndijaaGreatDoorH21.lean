/- Parts of a proof. No condition. -/
import Derived.Test.YtimlcnhcjndijaaGreatDoorH20
set_option linter.all false
set_option maxRecDepth 100000
set_option maxHeartbeats 3200000
namespace Go.Proofs.YtimlcnhcjndijaaGreatDoor
open Option renaming some->O,none->I
open IntKind renaming i64->G
open Value renaming int->Z,slice->V,pointer->K,bool->Y,tuple->D
open Ending renaming returned->Q
open Obj renaming cells->J
open Go renaming World->WD,Value->VL,Calls->CS
open Go.RowKit renaming Below->BW
open Go.Proofs.Tryz
namespace Pl
open Go.RowKit
variable{zs:List Int}{xs:List Nat}{l:List St}{B L base cap gb gs:Nat}{po:Option Addr}{v whole:V4}{w w' wr:WD}
def Xe {P:Program} {t e:TypeId} {i:TypeInfo} (d:P.underlying t=O (.slice e)) (f:P.info? e=O i) (b:Addr) (a cap n:Nat) (x:Int) (j:x=n) (g:n<=cap) (w:WD) :
  (Instr.slice t (V (O b) a cap) I (O (Z G x)) I).run P w=.ok (V (O b) n cap) w:=by
 subst j
 have h1:∀(y:Nat) (_:n<=y) c,(Instr.sliceBound (Z G (n:Int)) y c).run P w=.ok n w:=λy h c=>by
  simp[Instr.sliceBound,asIntOf,h]
 simp[Instr.slice,Instr.sliceBounds,My d,h1 cap g,sizeOf,typeInfo,f,Addr.add]
def Ss (R:V4->List St->Int->List St->Prop) (F:FuncId) (f1 f2 f3:Nat) (C:WD->Prop):Prop:=
 ∀pb sb cap whole l w1,Ce w1 pb sb cap whole l->Inv whole l->C w1 ->
  CS prog F #[K (O ⟨pb,0,I⟩),K (O ⟨f1,0,I⟩),K (O ⟨f2,0,I⟩),K (O ⟨f3,0,I⟩)] w1 (Abm pb sb whole (λr l'=>R whole l r l'/\Inv whole l') w1)
structure ia (w:WD) (ps q:List Nd):Prop where
 len:q.length=ps.length
 pb:∀i,i<ps.length->(nd q i).pb=(nd ps i).pb
 whole:∀i,i<ps.length->(nd q i).whole=(nd ps i).whole
 sb:∀i,i<ps.length->(nd q i).sb=(nd ps i).sb\/w.heap.size<=(nd q i).sb
def ia.refl (w:WD) (a:List Nd):ia w a a:=⟨rfl,λ_ _=>rfl,λ_ _=>rfl,λ_ _=>.inl rfl⟩
def ia.fk  {c q:List Nd} (h:ia w c q) {b:Nat} (d:Bc q b):Bc c b\/w.heap.size<=b:=by
 obtain⟨i,a,e⟩:=d;rw[h.len]at a;rcases e with e|e
 .exact .inl ⟨i,a,.inl (e.trans (h.pb i a))⟩
 .rcases h.sb i a with h1|h1
  .exact .inl ⟨i,a,.inr (e.trans h1)⟩
  .exact .inr ao9
def Ahz {w wr n:WD} {o p cap:Nat}  {h q:List Nd} {i f g:Nat} {k:List St} (d:ia w h q) (u:By wr o p po cap q) (r:Mod (Bc h) w wr) (x:i<h.length)
  (z:Ce n (nd q i).pb f g (nd q i).whole k) (y:Inv (nd q i).whole k) (t:f=(nd q i).sb\/wr.heap.size<=f) (s:Mod (λb=>b=(nd q i).pb\/b=(nd q i).sb) wr n) :
  ∃m,By n o p po cap m/\ia w h m/\Mod (Bc h) w n/\(nd m i).l=k/\∀j,j≠i->(nd m j).l=(nd q j).l:=by
 have a:i<q.length:=by rw[d.len];exact x
 refine⟨q.set i ⟨(nd q i).pb,f,g,(nd q i).whole,k⟩,u.ml a z y t s,⟨by rw[Dl];exact d.len,?_,?_,?_⟩,?_,?_,?_⟩
 .intro j c;rw[Mh _ a];split
  .rename_i e;subst e;exact d.pb j c
  .exact d.pb j c
 .intro j c;rw[Mh _ a];split
  .rename_i e;subst e;exact d.whole j c
  .exact d.whole j c
 .intro j c;rw[Mh _ a];split
  .rename_i e;subst e;rcases t with e|e
   .rw [e];exact d.sb j c
   .exact .inr (Aw r.size e)
  .exact d.sb j c
 .refine r.trans (s.mono λb _ v=>?_);exact d.fk ⟨i,a,v⟩
 .rw [Mh _ a,Ad rfl]
 .intro j c;rw[Mh _ a,Ab c]
def Bu (zs:List Int) (k i:Nat):Prop:=∃j,j<k/\zi zs j=(i:Int)
def Abu (R U:V4->List St->Int->List St->Prop) (ps:List Nd) (zs:List Int) (r:Int) (ps':List Nd):Prop:=
 (¬D5 ps.length zs/\r=1/\ps'=ps) \/
 (D5 ps.length zs/\r=0/\∀i,i<ps.length->(Bu zs zs.length i->R (nd ps i).whole (nd ps i).l 0 (nd ps' i).l)/\(¬Bu zs zs.length i->(nd ps' i).l=(nd ps i).l)) \/
 (D5 ps.length zs/\r≠0/\∃k c:Nat,k<zs.length/\zi zs k=(c:Int)/\c<ps.length/\R (nd ps c).whole (nd ps c).l r (nd ps' c).l /\
   ∀i,i<ps.length->(Bu zs k i->∃m r2,R (nd ps i).whole (nd ps i).l 0 m/\Inv (nd ps i).whole m/\U (nd ps i).whole m r2 (nd ps' i).l)/\(¬Bu zs k i->i≠c->(nd ps' i).l=(nd ps i).l))
def As2 (R U:V4->List St->Int->List St->Prop) (gb gs cap:Nat) (po:Option Addr) (ps:List Nd) (zs:List Int) (w:WD) (e:Ending) (w':WD):Prop:=
 ∃r ps',e=Q (Z G r)/\Abu R U ps zs r ps'/\By w' gb gs po cap ps'/\ia w ps ps'/\Mod (Bc ps) w w'
def Of  {k i:Nat}:Bu zs (k+1) i↔Bu zs k i\/zi zs k=(i:Int):=by
 constructor
 .rintro ⟨j,a,e⟩;by_cases h:j=k
  .subst h;exact .inr e
  .exact .inl ⟨j,ao9,e⟩
 .rintro (⟨j,a,e⟩|e)
  .exact ⟨j,ao9,e⟩
  .exact ⟨k,ao9,e⟩
def As3 {n:Nat}  (h:D5 n zs) {i j:Nat} (a:i<j) (b:j<zs.length):zi zs i<zi zs j:=by
 induction j with
 | zero=>omega
 | succ m ih=>
  have:=h.bj m b;by_cases e:i=m
  .subst e;exact this
  .exact Int.lt_trans (ih ao9 ao9) this
def Abv {n:Nat}  (h:D5 n zs) {k i:Nat} (b:k<zs.length) (e:zi zs k=(i:Int)):¬Bu zs k i:=by
 rintro⟨j,a,c⟩;have:=As3 h a b;omega
def Ah0 (R U:V4->List St->Int->List St->Prop) (F G9q:FuncId) (f1 f2 f3:Nat) (C:WD->Prop) (gb gs cap:Nat) (po:Option Addr) (f:List Nd) (ao:Option Addr) (m c:Nat) (zs:List Int) (w:WD)
  (hp:By w gb gs po cap f) (hz:∀w',Mod (Bc f) w w'->Ao w' ao m zs) (bn:m<=c) (hC:∀w',Mod (Bc f) w w'->C w')
  (hF:∀args w,(callFunc F args).run prog w=.ok (.enter F args) w) (hG:∀args w,(callFunc G9q args).run prog w=.ok (.enter G9q args) w) (HR:Ss R F f1 f2 f3 C) (HU:Ss U G9q f1 f2 f3 C) :
  CS prog 244 #[K (O ⟨gb,0,I⟩),V ao m c,.func (.func F) #[] #[K (O ⟨f1,0,I⟩),K (O ⟨f2,0,I⟩),K (O ⟨f3,0,I⟩)],
   .func (.func G9q) #[] #[K (O ⟨f1,0,I⟩),K (O ⟨f2,0,I⟩),K (O ⟨f3,0,I⟩)]] w (As2 R U gb gs cap po f zs w):=by
 obtain⟨i3,a6,_,_,_⟩:=B6 Lx;have aD:=hz w (Mod.refl _ _);have aJ:=aD.len;have bd:=aD.max;obtain⟨n,hn⟩:=Ex (f.length);have y:=As1 gb gs cap po f ao m c zs w hp aD;replace⟨y,hp,hz,aD,hC,HR,HU,aJ⟩:=H8 y hp hz aD hC HR HU aJ;replace hn:=Hh hn;go_enter func244,ntmps244;go_wp2_with fail;refine y.mono ?_;rintro e w1 ⟨b,rfl,hb,am⟩;replace am:=Hh am;cases b
 .have aV:¬D5 f.length zs:=λh=>by have:=hb.2 h;simp at this
  replace⟨aV,hb⟩:=H2 aV hb;go_wp2;go_ret;exact⟨1,f,rfl,.inl ⟨aV.out,rfl,rfl⟩,hp.below am.out,ia.refl _ _,Mod.ag am.out⟩
 have x:=hb.1 rfl;have aU:0<f.length:=by have h1:=x.low 0 x.pos;have h2:=x.high 0 x.pos;omega
 have a8:=hp.addr aU;subst a8;replace⟨x,hb,aU⟩:=H3 x hb aU;go_wp2
 go_loopw [9,10,11,20] (λ_ _ _ i wr=>∃(k:Nat) (q:List Nd),i=Z G k/\k<=m/\Hid (By wr gb gs (O ⟨gs,0,I⟩) cap q)/\Hid (ia w f q)/\Hid (Mod (Bc f) w wr) /\
  Hid (∀i,i<f.length->(Bu zs k i->R (nd f i).whole (nd f i).l 0 (nd q i).l)/\(¬Bu zs k i->(nd q i).l=(nd f i).l))) (λ_ _ _ i _=>m-(intOf i).toNat)
 case atStart=>exact⟨0,f,rfl,Ar _,hp.below am.out,ia.refl _ _,Mod.ag am.out,λi z=>⟨λh=>by obtain⟨j,hj,_⟩:=h;omega,λ_=>rfl⟩⟩
 case round=>
  obtain⟨k,q,rfl,hk,hP,hK,hM,hD⟩:=hrel;by_cases hc:k<m
  .have a5:(k:Int)<m:=ao9;have bl:(0:Int)<=(k:Int):=ao9;have s:k<zs.length:=(by rw[aJ.out];exact hc);obtain⟨b,a9,aO,bc,b0⟩:=(hz wr hM.out).cell k hc;subst aO;obtain⟨u,p⟩:∃u:Nat,zi zs k=(u:Int):=⟨(zi zs k).toNat,by have:=x.low k s;omega⟩;have a2:u<n:=(by have:=x.high k s;rw[hn.out];omega);have a:u<f.length:=(by rw[<-hn.out];exact a2);rw[p]at b0;have bg:(u:Int)<n:=ao9;have bf:(0:Int)<=(u:Int):=ao9;have hh:=hP.head;rw[hK.len,<-hn.out]at hh;have c0:=Aa hh 0;simp at c0;have p0:=hP.ptr u (by rw[hK.len];exact a);have af:=hP.fp u (by rw[hK.len];exact a);have aA:=hP.inv u (by rw[hK.len];exact a);have hd:=HR _ _ _ _ _ _ af aA (hC wr hM.out);replace⟨hd,hh,af,aA,p,s,a⟩:=H7 hd hh af aA p s a;go_wp2_with fail
   (with_reducible refine hd.out.mono ?_)
   rintro e w2 ⟨r,bw,ba,l',rfl,⟨hR,hI⟩,aW,aY,aS⟩;obtain⟨q2,ap,o,aG,e1,e2⟩:=Ahz hK.out hP.out hM.out a.out aW hI aY aS;have t:=((hD u a.out).2 (Abv x.out s.out p.out));have aC:=hK.whole u a.out;rw[t,aC]at hR;rw[<-e1]at hR;clear e1 t aC c0 p0 b0;replace⟨hR,hI,aW,aY,aS,ap,o,aG⟩:=H8 hR hI aW aY aS ap o aG;replace e2:=Hh e2;by_cases hr:r=0
   .subst hr;go_wp2;go_roundw
    case rel=>
     refine⟨k+1,q2,by go_num,ao9,ap.out,o.out,aG.out,λi z=>⟨λh=>?_,λh=>?_⟩⟩
     .by_cases e:i=u
      .subst e;exact hR.out
      .rw [e2 i e];rcases Of.1 h with h|h
       .exact (hD i z).1 h
       .rw [p.out]at h;exact absurd ao9 e
     .have ad:i≠u:=λe=>h (Of.2 (.inr (by rw[e];exact p.out)));rw[e2 i ad];exact(hD i z).2 λh2=>h (Of.2 (.inl h2))
    case measure=>simp[intOf];omega
   .have dr:(r == 0)=false:=(by simpa using hr);have bo:=λw=>Xe (P:=prog) Nx a6 ⟨b,a9,I⟩ m c k (k:Int) rfl ao9 w;replace hr:=Hh hr;go_wp2
    go_loopw [13,40] (λ_ i wx=>∃(j:Nat) (q3:List Nd),i=Z G j/\j<=k/\Hid (By wx gb gs (O ⟨gs,0,I⟩) cap q3)/\Hid (ia w f q3)/\Hid (Mod (Bc f) w wx) /\
     Hid (∀i,i<f.length->(Bu zs j i->∃r2,U (nd q2 i).whole (nd q2 i).l r2 (nd q3 i).l)/\(¬Bu zs j i->(nd q3 i).l=(nd q2 i).l))) (λ_ i _=>k-(intOf i).toNat)
    case atStart=>exact⟨0,q2,rfl,Ar _,ap.out,o.out,aG.out,λi z=>⟨λh=>by obtain⟨j,hj,_⟩:=h;omega,λ_=>rfl⟩⟩
    case round=>
     obtain⟨j,q3,rfl,hj,al,v,aH,aE⟩:=hrel;by_cases bk:j<k
     .have a7:(j:Int)<k:=ao9;have bi:(0:Int)<=(j:Int):=ao9;have aB:j<zs.length:=(by have:=s.out;omega);obtain⟨b',be,aO,a4,b0⟩:=(hz wr aH.out).cell j ao9;cases aO;obtain⟨jx,an⟩:∃jx:Nat,zi zs j=(jx:Int):=⟨(zi zs j).toNat,by have:=x.low j aB;omega⟩;have a3:jx<n:=(by have:=x.high j aB;rw[hn.out];omega);have d:jx<f.length:=(by rw[<-hn.out];exact a3);rw[an]at b0;have bv:(jx:Int)<n:=ao9;have bs:(0:Int)<=(jx:Int):=ao9;have aI:=al.head;rw[v.len,<-hn.out]at aI;have c0:=Aa aI 0;simp at c0;have p0:=al.ptr jx (by rw[v.len];exact d);have g:=al.fp jx (by rw[v.len];exact d);have ac:=al.inv jx (by rw[v.len];exact d);have aP:=HU _ _ _ _ _ _ g ac (hC wr aH.out);replace⟨aP,aI,g,ac,an,aB,d⟩:=H7 aP aI g ac an aB d;go_wp2_with fail
      (with_reducible refine aP.out.mono ?_)
      rintro e w4 ⟨r4,bx,bb,l4,rfl,⟨av,aK⟩,aX,aZ,aT⟩;obtain⟨q4,aN,aL,aM,e3,e4⟩:=Ahz v.out al.out aH.out d.out aX aK aZ aT;have t:=((aE jx d.out).2 (Abv x.out aB.out an.out));have aC:=(v.whole jx d.out).trans (o.whole jx d.out).symm;rw[t,aC]at av;rw[<-e3]at av;clear e3 t aC c0 p0 b0;replace⟨av,aK,aX,aZ,aT,aN,aL,aM⟩:=H8 av aK aX aZ aT aN aL aM;replace e4:=Hh e4;go_wp2;go_roundw
      case rel=>
       refine⟨j+1,q4,by go_num,ao9,aN.out,aL.out,aM.out,λi z=>⟨λh=>?_,λh=>?_⟩⟩
       .by_cases e:i=jx
        .subst e;exact⟨r4,av.out⟩
        .rw [e4 i e];rcases Of.1 h with h|h
         .exact (aE i z).1 h
         .rw [an.out]at h;exact absurd ao9 e
       .have ad:i≠jx:=λe=>h (Of.2 (.inr (by rw[e];exact an.out)));rw[e4 i ad];exact(aE i z).2 λh2=>h (Of.2 (.inl h2))
      case measure=>simp[intOf];omega
     .have a7:¬(j:Int)<k:=ao9;have aQ:j=k:=ao9;replace aQ:=Hh aQ;go_wp2;go_ret;have aF:=aE.out;rw[aQ.out]at aF;have a1:=Abv x.out s.out p.out;refine⟨r,q3,rfl,.inr (.inr ⟨x.out,hr.out,k,u,s.out,p.out,a.out,?_,λi z=>⟨λh=>?_,λh ad=>?_⟩⟩),al.out,v.out,aH.out⟩
      .rw [(aF u a.out).2 a1];exact hR.out
      .have ad:i≠u:=λe=>a1 (e▸h);obtain⟨r2,hu⟩:=(aF i z).1 h;rw[o.whole i z]at hu;refine⟨(nd q2 i).l,r2,?_,?_,hu⟩
       .rw [e2 i ad];exact(hD i z).1 h
       .have:=ap.inv i (by rw[o.len];exact z);rw[o.whole i z]at this;exact this
      .rw [(aF i z).2 h,e2 i ad];exact(hD i z).2 h
  .have a5:¬(k:Int)<m:=ao9;have aR:k=zs.length:=(by rw[aJ.out];omega);replace aR:=Hh aR;go_wp2;go_ret;have a0:=hD.out;rw[aR.out]at a0;exact⟨0,q,rfl,.inr (.inl ⟨x.out,rfl,a0⟩),hP.out,hK.out,hM.out⟩
def bits (f:Nat->Bool):Array VL:=#[Y (f 0),Y (f 1),Y (f 2),Y (f 3),Y (f 4),Y (f 5),Y (f 6),Y (f 7),Y (f 8),Y (f 9),Y (f 10),Y (f 11),Y (f 12),Y (f 13),Y (f 14),Y (f 15)]
def Ah1 {i:Nat} (h:i<16):i=0\/i=1\/i=2\/i=3\/i=4\/i=5\/i=6\/i=7\/i=8\/i=9\/i=10\/i=11\/i=12\/i=13\/i=14\/i=15:=ao9
def Ah2 (f:Nat->Bool) {i:Nat} (h:i<16):(bits f)[i]?=O (Y (f i)):=by
 rcases Ah1 h with rfl|rfl|rfl|rfl|rfl|rfl|rfl|rfl|rfl|rfl|rfl|rfl|rfl|rfl|rfl|rfl<;>rfl
def As4 (f:Nat->Bool) {i:Nat} (h:i<16):(bits f).setIfInBounds i (Y true)=bits λj=>if j=i then true else f j:=by
 rcases Ah1 h with rfl|rfl|rfl|rfl|rfl|rfl|rfl|rfl|rfl|rfl|rfl|rfl|rfl|rfl|rfl|rfl<;>rfl
def Up:(prog.info? 364).map (·.size)=O 16:=by kernel_rfl
def As5 (f:Nat->Bool) (k:Nat) (a:k<16) (w:WD):(Instr.index 364 (.agg (bits f)) (Z G (k:Int))).run prog w=.ok (Y (f k)) w:=by
 have h1:(0:Int)<=(k:Int)/\(k:Int)<16:=ao9
 simp[Instr.index,asIntOf,My V9,part,h1,a,Ah2 f a]
def Ah3 {B b:Nat} {a w:WD} (h:BW B a w) (d:B<=b) (cs:Array VL):BW B a (w.setRow b cs):=
 ⟨h.os,h.tape,h.output,by simpa using h.size,λk c=>(Tr w b k cs ao9).trans (h.block k c)⟩
def As6 (n:Nat) (zs:List Int) (w:WD) (e:Ending) (w':WD):Prop:=
 ∃f:Nat->Bool,e=Q (.agg (bits f))/\(∀i,f i=true↔i<n/\Bu zs zs.length i)/\BW w.heap.size w w'
def Abw:(#[Y false,Y false,Y false,Y false,Y false,Y false,Y false,Y false,Y false,Y false,Y false,Y false,Y false,Y false,Y false,Y false]:Array VL)=bits λ_=>false:=rfl
def As7 (gb gs cap:Nat) (po:Option Addr) (ps:List Nd) (ao:Option Addr) (m c:Nat) (zs:List Int) (w:WD) (hp:By w gb gs po cap ps) (hz:Ao w ao m zs) :
  CS prog 285 #[K (O ⟨gb,0,I⟩),V ao m c] w (As6 ps.length zs w):=by
 obtain⟨n,hn⟩:=Ex (ps.length);have hh:=hp.head;have ad:=hp.gg;rw[<-hn]at hh ad;have c0:=Aa hh 0;simp at c0;have an:=Ac hh;rw[<-hn];clear hp hh hn;have s:=hz.len;have av:=hz.max;replace⟨hz,s⟩:=H2 hz s;go_enter func285,ntmps285;go_wp2;go_loopw [7,10] (λ_ i wr=>∃(k:Nat) (f:Nat->Bool),i=Z G k/\k<=m/\Hid (∀i,f i=true↔i<n/\Bu zs k i)/\Hid (wr.heap[w.heap.size+1]?=O (J (bits f) 364 (0,0)))/\Hid (wr.heap[w.heap.size]?=O (J (bits λ_=>false) 364 (0,0)))/\Hid (BW w.heap.size w wr)) (λ_ i _=>m-(intOf i).toNat)
 case atStart=>
  refine⟨0,λ_=>false,rfl,Ar _,λi=>⟨λh=>by simp at h,λh=>by obtain⟨_,j,hj,_⟩:=h;omega⟩,?_,?_,Bn.alloc as9 _⟩
  .rw [<-Abw];exact A2 _ _ as9
  .rw [<-Abw];exact Ak _ (Ah _ _)
 case round=>
  obtain⟨k,f,rfl,hk,hf,p,q,l⟩:=hrel;have g0:=(Af (o:=0) l.out an).trans c0;by_cases hc:k<m
  .have am:(k:Int)<m:=ao9;have aB:(0:Int)<=(k:Int):=ao9;obtain⟨b,aC,rfl,hb,a0⟩:=hz.cell k hc;have b0:=(Af l.out hb).trans a0;clear a0;obtain⟨x,hx⟩:=Ex (zi zs k);rw[<-hx]at b0;replace hx:=Hh hx;by_cases y:0<=x;rotate_left
   .have d1:decide (0<=x)=false:=by simpa using y
    have a:∀i,f i=true↔i<n/\Bu zs (k+1) i:=λi=>by
     rw[hf i,Of,<-hx.out];constructor
     .exact λh=>⟨h.1,.inl h.2⟩
     .rintro ⟨h1,u|u⟩
      .exact ⟨h1,u⟩
      .omega
    replace⟨y,a⟩:=H2 y a;go_wp2;go_roundw
    case rel=>exact⟨k+1,f,by go_num,ao9,a.out,p.out,q.out,l.out⟩
    case measure=>simp[intOf];omega
   have d1:decide (0<=x)=true:=(by simpa using y);by_cases q2:x<n;rotate_left
   .have d2:decide (x<(n:Int))=false:=by simpa using q2
    have a:∀i,f i=true↔i<n/\Bu zs (k+1) i:=λi=>by
     rw[hf i,Of,<-hx.out];constructor
     .exact λh=>⟨h.1,.inl h.2⟩
     .rintro ⟨h1,u|u⟩
      .exact ⟨h1,u⟩
      .omega
    replace⟨y,q2,a⟩:=H3 y q2 a;go_wp2;go_roundw
    case rel=>exact⟨k+1,f,by go_num,ao9,a.out,p.out,q.out,l.out⟩
    case measure=>simp[intOf];omega
   obtain⟨t,rfl⟩:∃t:Nat,x=(t:Int):=⟨x.toNat,ao9⟩;have d2:decide ((t:Int)<(n:Int))=true:=(by simpa using q2);have aA:=q2;have ap:(t:Int)<16:=ao9;have af:t<16:=ao9;have cc:=Aa p.out t;rw[Ah2 f af]at cc;have ff:=Ag p.out t
   have d:∀i,(λj=>if j=t then true else f j) i=true↔i<n/\Bu zs (k+1) i:=λi=>by
    simp only;rw[Of,<-hx.out];by_cases e:i=t
    .subst e;rw[Ad rfl];exact⟨λ_=>⟨ao9,.inr rfl⟩,λ_=>rfl⟩
    .rw [Ab e,hf i];constructor
     .exact λh=>⟨h.1,.inl h.2⟩
     .rintro ⟨h1,u|u⟩
      .exact ⟨h1,u⟩
      .omega
   replace⟨y,q2,d⟩:=H3 y q2 d;go_wp2;go_roundw
   case rel=>
    refine⟨k+1,_,by go_num,ao9,d.out,?_,Dg ao9 _ q.out,l.setCell as9 _⟩;show _=_;rw[Am p.out,As4 f af]
   case measure=>simp[intOf];omega
  .have am:¬(k:Int)<m:=ao9;have ac:k=zs.length:=(by rw[s.out];omega);have al:(bits f).all (·.oneCell')=true:=(by simp[bits,Value.oneCell']);have r:=Lv wr w.heap.size _ (bits f) 364 (0,0) q.out;have z:=Ah3 l.out Ln (bits f);have g:=hf.out;rw[ac]at g;replace⟨ac,g,r,z⟩:=H4 ac g r z;go_wp2_with (first|(refine Wf rfl 364 _ rfl (w.heap.size+1) rfl 364 (bits f) (0,0) _ p.out V9 rfl Up ?_)|(refine Mv rfl 364 _ _ rfl w.heap.size (bits f) rfl rfl 364 _ q.out Up rfl al ?_));refine An (v:=.agg (bits f)) ?_ rfl ?_
   .exact results_cell_row rfl _ _ w.heap.size 364 (bits f) (0,0) _ rfl r.out V9 rfl Up
   .exact ⟨f,rfl,g.out,z.out⟩
def As8  {l m f:List St} {fr g r:Int}  (d:Inv whole l) (b:Inv whole f) (q:Qu l fr g v 0 m) (p:Qv whole m fr g v r f):f=l:=by
 rcases q with⟨_,h,_⟩|⟨_,_,h,_⟩|⟨j,i,_,k⟩
 .exact absurd h ad9
 .exact absurd h ad9
 obtain⟨s,t,x,y⟩:=Mf j
 have a:∀u,fr<=u->u<g->A3 (val m u) v=val l u:=λu h1 c=>by
  rw[k u ao9 ao9,Ad ⟨h1,c⟩];simp only[A3,Nm,Int.sub_add_cancel]
 rcases p with⟨h,_⟩|⟨_,h,_⟩|⟨_,_,_,e⟩
 .rw [j]at h;cases h
 .exact absurd (λu h1 c=>by rw[a u h1 c];exact Le.1 (d.free u ao9 ao9).2) h
 .refine Abq b.loose d.loose b.gy d.gy λu n o=>?_;rw[e u n o];split
  .rename_i h;exact a u h.1 h.2
  .rename_i h;rw[k u n o,Ab h]
def As9  {l m g:List St} {fr i r:Int}  (d:Inv whole l) (b:Inv whole g) (p:Qv whole l fr i v 0 m) (q:Qu m fr i v r g):g=l:=by
 rcases p with⟨_,h,_⟩|⟨_,_,h,_⟩|⟨k,j,_,e⟩
 .exact absurd h ad9
 .exact absurd h ad9
 obtain⟨s,t,x,y⟩:=Mf k
 have a:∀u,fr<=u->u<i->Nm (val m u) v=val l u:=λu h1 c=>by
  rw[e u ao9 ao9,Ad ⟨h1,c⟩];simp only[A3,Nm,Int.add_sub_cancel]
 rcases q with⟨h,_⟩|⟨_,h,_⟩|⟨_,_,_,f⟩
 .rw [k]at h;cases h
 .refine absurd (λu h1 c=>?_) h;rw[e u ao9 ao9,Ad ⟨h1,c⟩];have:=E6.1 (d.free u ao9 ao9).1
  refine⟨?_,?_,?_,?_⟩<;>simp only[A3]<;>omega
 .refine Abq b.loose d.loose b.gy d.gy λu n o=>?_;rw[f u n o];split
  .rename_i h;exact a u h.1 h.2
  .rename_i h;rw[e u n o,Ab h]
def Og (ps ps':List Nd):Prop:=∀i,i<ps.length->(nd ps' i).l=(nd ps i).l
def Lg (ps:List Nd) (zs:List Int) (fr tt:Int) (v:V4) (r:Int) (ps':List Nd):Prop:=
 (¬(D5 ps.length zs/\Bf fr tt v=true)/\r=1/\Og ps ps') \/
 (D5 ps.length zs/\Bf fr tt v=true/\¬(∀i,i<ps.length->Bu zs zs.length i->∀u,fr<=u->u<tt->v.leq (val (nd ps i).l u))/\r=60/\Og ps ps') \/
 (D5 ps.length zs/\Bf fr tt v=true/\(∀i,i<ps.length->Bu zs zs.length i->∀u,fr<=u->u<tt->v.leq (val (nd ps i).l u))/\r=0 /\
   ∀i,i<ps.length->(Bu zs zs.length i->∀u,0<=u->u<1099511627776->val (nd ps' i).l u=if fr<=u/\u<tt then Nm (val (nd ps i).l u) v else val (nd ps i).l u)/\(¬Bu zs zs.length i->(nd ps' i).l=(nd ps i).l))
def Yd (ps:List Nd) (zs:List Int) (fr tt:Int) (v:V4) (r:Int) (ps':List Nd):Prop:=
 (¬(D5 ps.length zs/\Bf fr tt v=true)/\r=1/\Og ps ps') \/
 (D5 ps.length zs/\Bf fr tt v=true/\¬(∀i,i<ps.length->Bu zs zs.length i->∀u,fr<=u->u<tt->(A3 (val (nd ps i).l u) v).leq (nd ps i).whole)/\r=61/\Og ps ps') \/
 (D5 ps.length zs/\Bf fr tt v=true/\(∀i,i<ps.length->Bu zs zs.length i->∀u,fr<=u->u<tt->(A3 (val (nd ps i).l u) v).leq (nd ps i).whole)/\r=0 /\
   ∀i,i<ps.length->(Bu zs zs.length i->∀u,0<=u->u<1099511627776->val (nd ps' i).l u=if fr<=u/\u<tt then A3 (val (nd ps i).l u) v else val (nd ps i).l u)/\(¬Bu zs zs.length i->(nd ps' i).l=(nd ps i).l))
def Ah4 {n:Nat}  (h:D5 n zs):∃i,i<n/\Bu zs zs.length i:=
 ⟨(zi zs 0).toNat,by have:=h.low 0 h.pos;have:=h.high 0 h.pos;omega,0,h.pos,by have:=h.low 0 h.pos;omega⟩
def Ata    {d b:List Nd}  {fr o r:Int}  (q:∀i,i<d.length->Inv (nd d i).whole (nd d i).l)
  (hP:By w' gb gs po cap b) (ad:b.length=d.length) (ac:∀i,i<d.length->(nd b i).whole=(nd d i).whole)
  (h:Abu (λ_ l r l'=>Qu l fr o v r l') (λwhole l r l'=>Qv whole l fr o v r l') d zs r b):Lg d zs fr o v r b:=by
 rcases h with⟨n,rfl,rfl⟩|⟨n,rfl,a⟩|⟨n,hr,k,c,hk,hc,x,hR,a⟩
 .exact .inl ⟨λh=>n h.1,rfl,λ_ _=>rfl⟩
 .obtain ⟨i0,h0,h1⟩:=Ah4 n
  have ok:∀i,i<d.length->Bu zs zs.length i->Bf fr o v=true/\(∀u,fr<=u->u<o->v.leq (val (nd d i).l u))/\∀u,0<=u->u<1099511627776->val (nd b i).l u=if fr<=u/\u<o then Nm (val (nd d i).l u) v else val (nd d i).l u:=λi f j=>by
   rcases(a i f).1 j with⟨_,h,_⟩|⟨_,_,h,_⟩|⟨s,y,_,hv⟩
   .exact absurd h ad9
   .exact absurd h ad9
   .exact ⟨s,y,hv⟩
  exact .inr (.inr ⟨n,(ok i0 h0 h1).1,λi f j=>(ok i f j).2.1,rfl,λi f=>⟨λj=>(ok i f j).2.2,(a i f).2⟩⟩)
 .have g:(nd b c).l=(nd d c).l->Og d b:=λt i f=>by
   by_cases e:i=c
   .subst e;exact t
   .by_cases j:Bu zs k i
    .obtain ⟨m,r2,ht,hm,hu⟩:=(a i f).1 j;have p:=hP.inv i ao9;rw[ac i f]at p;exact As8 (q i f) p ht hu
    .exact (a i f).2 j e
  rcases hR with⟨s,rfl,z⟩|⟨s,y,rfl,z⟩|⟨_,_,h,_⟩
  .exact .inl ⟨λh=>by rw[s]at h;exact absurd h.2 as9,rfl,g z⟩
  .exact .inr (.inl ⟨n,s,λh=>y (h c x ⟨k,hk,hc⟩),rfl,g z⟩)
  .exact absurd h hr
def Atb    {d b:List Nd}  {fr o r:Int}  (q:∀i,i<d.length->Inv (nd d i).whole (nd d i).l)
  (hP:By w' gb gs po cap b) (ad:b.length=d.length) (ac:∀i,i<d.length->(nd b i).whole=(nd d i).whole)
  (h:Abu (λwhole l r l'=>Qv whole l fr o v r l') (λ_ l r l'=>Qu l fr o v r l') d zs r b):Yd d zs fr o v r b:=by
 rcases h with⟨n,rfl,rfl⟩|⟨n,rfl,a⟩|⟨n,hr,k,c,hk,hc,x,hR,a⟩
 .exact .inl ⟨λh=>n h.1,rfl,λ_ _=>rfl⟩
 .obtain ⟨i0,h0,h1⟩:=Ah4 n
  have ok:∀i,i<d.length->Bu zs zs.length i->Bf fr o v=true/\(∀u,fr<=u->u<o->(A3 (val (nd d i).l u) v).leq (nd d i).whole)/\∀u,0<=u->u<1099511627776->val (nd b i).l u=if fr<=u/\u<o then A3 (val (nd d i).l u) v else val (nd d i).l u:=λi f j=>by
   rcases(a i f).1 j with⟨_,h,_⟩|⟨_,_,h,_⟩|⟨s,y,_,hv⟩
   .exact absurd h ad9
   .exact absurd h ad9
   .exact ⟨s,y,hv⟩
  exact .inr (.inr ⟨n,(ok i0 h0 h1).1,λi f j=>(ok i f j).2.1,rfl,λi f=>⟨λj=>(ok i f j).2.2,(a i f).2⟩⟩)
 .have g:(nd b c).l=(nd d c).l->Og d b:=λt i f=>by
   by_cases e:i=c
   .subst e;exact t
   .by_cases j:Bu zs k i
    .obtain ⟨m,r2,ht,hm,hu⟩:=(a i f).1 j;have p:=hP.inv i ao9;rw[ac i f]at p;exact As9 (q i f) p ht hu
    .exact (a i f).2 j e
  rcases hR with⟨s,rfl,z⟩|⟨s,y,rfl,z⟩|⟨_,_,h,_⟩
  .exact .inl ⟨λh=>by rw[s]at h;exact absurd h.2 as9,rfl,g z⟩
  .exact .inr (.inl ⟨n,s,λh=>y (h c x ⟨k,hk,hc⟩),rfl,g z⟩)
  .exact absurd h hr
def Cp (f1 f2 f3:Nat) (fr tt:Int) (v:V4) (w:WD):Prop:=
 w.heap[f1]?=O (J #[Z G fr] 3 (0,0))/\w.heap[f2]?=O (J #[Z G tt] 3 (0,0))/\w.heap[f3]?=O (J v.cells 30 (0,0))
def Atc:∀args w,(callFunc 274 args).run prog w=.ok (.enter 274 args) w:=Iy func274 ad9 (by simp[f274])
def Atd:∀args w,(callFunc 275 args).run prog w=.ok (.enter 275 args) w:=Iy func275 ad9 (by simp[f275])
def Ate:∀args w,(callFunc 240 args).run prog w=.ok (.enter 240 args) w:=Iy func240 ad9 (by simp[f240])
def Atf:∀args w,(callFunc 242 args).run prog w=.ok (.enter 242 args) w:=Iy func242 ad9 (by simp[f242])
def Atg (p q s:Nat) (fr o:Int) (v:V4):Ss (λ_ l r m=>Qu l fr o v r m) 274 p q s (Cp p q s fr o v):=by
 intro pb sb cap whole l w j g hc;obtain⟨h1,t,f⟩:=hc;have x:=Aa h1 0;have y:=Aa t 0;have z:=Aa f 0;have c1:=Aa f 1;have c2:=Aa f 2;have c3:=Aa f 3;simp at x y z c1 c2 c3;clear h1 t f;have k:=Ahe pb sb cap whole l fr o v w j g.loose;replace⟨k,j,g⟩:=H3 k j g;go_enter func274,ntmps274;go_wp2_with fail;refine k.mono ?_;rintro e w2 ⟨r,n,d,m,rfl,u,b,c,a⟩;obtain⟨h,i⟩:=Ahx g.out u;clear u;replace⟨h,i,b,c,a⟩:=H5 h i b c a;go_wp2;go_ret;exact⟨r,n,d,m,rfl,⟨i.out,h.out⟩,b.out,c.out,a.out⟩
def Ath (p q s:Nat) (fr o:Int) (v:V4):Ss (λwhole l r m=>Qv whole l fr o v r m) 275 p q s (Cp p q s fr o v):=by
 intro pb sb cap whole l w j g hc;obtain⟨h1,t,f⟩:=hc;have x:=Aa h1 0;have y:=Aa t 0;have z:=Aa f 0;have c1:=Aa f 1;have c2:=Aa f 2;have c3:=Aa f 3;simp at x y z c1 c2 c3;clear h1 t f;have k:=Ahj pb sb cap whole l fr o v w j g.loose;replace⟨k,j,g⟩:=H3 k j g;go_enter func275,ntmps275;go_wp2_with fail;refine k.mono ?_;rintro e w2 ⟨r,n,d,m,rfl,u,b,c,a⟩;obtain⟨h,i⟩:=Ahy g.out u;clear u;replace⟨h,i,b,c,a⟩:=H5 h i b c a;go_wp2;go_ret;exact⟨r,n,d,m,rfl,⟨i.out,h.out⟩,b.out,c.out,a.out⟩
def Ati (p q s:Nat) (fr o:Int) (v:V4):Ss (λ_ l r m=>Qu l fr o v r m) 240 p q s (Cp p q s fr o v):=by
 intro pb sb cap whole l w j g hc;obtain⟨h1,t,f⟩:=hc;have x:=Aa h1 0;have y:=Aa t 0;have z:=Aa f 0;have c1:=Aa f 1;have c2:=Aa f 2;have c3:=Aa f 3;simp at x y z c1 c2 c3;clear h1 t f;have k:=Ahe pb sb cap whole l fr o v w j g.loose;replace⟨k,j,g⟩:=H3 k j g;go_enter func240,ntmps240;go_wp2_with fail;refine k.mono ?_;rintro e w2 ⟨r,n,d,m,rfl,u,b,c,a⟩;obtain⟨h,i⟩:=Ahx g.out u;clear u;replace⟨h,i,b,c,a⟩:=H5 h i b c a;go_wp2;go_ret;exact⟨r,n,d,m,rfl,⟨i.out,h.out⟩,b.out,c.out,a.out⟩
def Atj (p q s:Nat) (fr o:Int) (v:V4):Ss (λwhole l r m=>Qv whole l fr o v r m) 242 p q s (Cp p q s fr o v):=by
 intro pb sb cap whole l w j g hc;obtain⟨h1,t,f⟩:=hc;have x:=Aa h1 0;have y:=Aa t 0;have z:=Aa f 0;have c1:=Aa f 1;have c2:=Aa f 2;have c3:=Aa f 3;simp at x y z c1 c2 c3;clear h1 t f;have k:=Ahj pb sb cap whole l fr o v w j g.loose;replace⟨k,j,g⟩:=H3 k j g;go_enter func242,ntmps242;go_wp2_with fail;refine k.mono ?_;rintro e w2 ⟨r,n,d,m,rfl,u,b,c,a⟩;obtain⟨h,i⟩:=Ahy g.out u;clear u;replace⟨h,i,b,c,a⟩:=H5 h i b c a;go_wp2;go_ret;exact⟨r,n,d,m,rfl,⟨i.out,h.out⟩,b.out,c.out,a.out⟩
def Abx (R:Int->List Nd->Prop) (gb gs cap:Nat) (po:Option Addr) (ps:List Nd) (w:WD) (e:Ending) (w':WD):Prop:=
 ∃r ps',e=Q (Z G r)/\R r ps'/\By w' gb gs po cap ps'/\ia w ps ps'/\Mod (Bc ps) w w'
def ia.back {w b:WD} {a q:List Nd} (h:ia b a q) (d:w.heap.size<=b.heap.size):ia w a q:=
 ⟨h.len,h.pb,h.whole,λi c=>by rcases h.sb i c with e|e;exact .inl e;exact .inr (Aw d e)⟩
def Aby (x z cap:Nat) (po:Option Addr) (n:List Nd) (u:Option Addr) (m c:Nat) (zs:List Int) (fr i:Int) (v:V4) (w:WD)
  (s:By w x z po cap n) (hz:Ao w u m zs) (ho:0<m->vf u (Bc n)) (ac:m<=c) :
  CS prog 236 #[K (O ⟨x,0,I⟩),V u m c,Z G fr,Z G i,v.val] w (Abx (Lg n zs fr i v) x z cap po n w):=by
 obtain⟨W,p⟩:=Ex (((w.alloc (J #[Z G fr] 3 (0,0))).alloc (J #[Z G i] 3 (0,0))).alloc (J v.cells 30 (0,0)));have o:BW w.heap.size w W:=by rw[p];exact(Bn.alloc as9 _).alloc (by simp;omega) _
 have l:=s.below o;have t:=hz.below o Ln;have a:Cp w.heap.size (w.heap.size+1) (w.heap.size+2) fr i v W:=by rw[p];exact⟨Ak _ (Ak _ (Ah _ _)),Ak _ (A2 _ _ as9),A2 _ _ as9⟩
 have g:∀b,w.heap.size<=b->¬Bc n b:=λb hb k=>by have:=s.ki k;omega
 have q:∀w',Mod (Bc n) W w'->Cp w.heap.size (w.heap.size+1) (w.heap.size+2) fr i v w':=λw' k=>
  ⟨(k.block _ (Ac a.1) (g _ Ln)).trans a.1,(k.block _ (Ac a.2.1) (g _ ao9)).trans a.2.1,(k.block _ (Ac a.2.2) (g _ ao9)).trans a.2.2⟩
 have y:=Ah0 _ _ 274 275 w.heap.size (w.heap.size+1) (w.heap.size+2) (Cp w.heap.size (w.heap.size+1) (w.heap.size+2) fr i v) x z cap po n u m c zs W l (λw' k=>t.mod k ho) ac q Atc Atd (Atg _ _ _ fr i v) (Ath _ _ _ fr i v);rw[p]at y;have ad:=o.size;clear q a g t;replace⟨y,p,o,s,hz,l,ho⟩:=H7 y p o s hz l ho;go_enter func236,ntmps236;go_wp2_with fail;refine y.mono ?_;rintro e w2 ⟨r,af,rfl,hR,f,d,j⟩;have hT:=Ata s.inv f d.len d.whole hR;rw[<-p.out]at d j;have hK:=d.back ad;have hM:=(Mod.ag o.out).trans (j.mono λ_ _ h=>.inl h);clear hR d j;replace⟨f,hT,hK,hM⟩:=H4 f hT hK hM;go_wp2;go_ret;exact⟨r,af,rfl,hT.out,f.out,hK.out,hM.out⟩
def Atk (x z cap:Nat) (po:Option Addr) (n:List Nd) (u:Option Addr) (m c:Nat) (zs:List Int) (fr i:Int) (v:V4) (w:WD)
  (s:By w x z po cap n) (hz:Ao w u m zs) (ho:0<m->vf u (Bc n)) (ac:m<=c) :
  CS prog 187 #[K (O ⟨x,0,I⟩),V u m c,Z G fr,Z G i,v.val] w (Abx (Yd n zs fr i v) x z cap po n w):=by
 obtain⟨W,p⟩:=Ex (((w.alloc (J #[Z G fr] 3 (0,0))).alloc (J #[Z G i] 3 (0,0))).alloc (J v.cells 30 (0,0)));have o:BW w.heap.size w W:=by rw[p];exact(Bn.alloc as9 _).alloc (by simp;omega) _
 have l:=s.below o;have t:=hz.below o Ln;have a:Cp w.heap.size (w.heap.size+1) (w.heap.size+2) fr i v W:=by rw[p];exact⟨Ak _ (Ak _ (Ah _ _)),Ak _ (A2 _ _ as9),A2 _ _ as9⟩
 have g:∀b,w.heap.size<=b->¬Bc n b:=λb hb k=>by have:=s.ki k;omega
 have q:∀w',Mod (Bc n) W w'->Cp w.heap.size (w.heap.size+1) (w.heap.size+2) fr i v w':=λw' k=>
  ⟨(k.block _ (Ac a.1) (g _ Ln)).trans a.1,(k.block _ (Ac a.2.1) (g _ ao9)).trans a.2.1,(k.block _ (Ac a.2.2) (g _ ao9)).trans a.2.2⟩
 have y:=Ah0 _ _ 242 240 w.heap.size (w.heap.size+1) (w.heap.size+2) (Cp w.heap.size (w.heap.size+1) (w.heap.size+2) fr i v) x z cap po n u m c zs W l (λw' k=>t.mod k ho) ac q Atf Ate (Atj _ _ _ fr i v) (Ati _ _ _ fr i v);rw[p]at y;have ad:=o.size;clear q a g t;replace⟨y,p,o,s,hz,l,ho⟩:=H7 y p o s hz l ho;go_enter func187,ntmps187;go_wp2_with fail;refine y.mono ?_;rintro e w2 ⟨r,af,rfl,hR,f,d,j⟩;have hT:=Atb s.inv f d.len d.whole hR;rw[<-p.out]at d j;have hK:=d.back ad;have hM:=(Mod.ag o.out).trans (j.mono λ_ _ h=>.inl h);clear hR d j;replace⟨f,hT,hK,hM⟩:=H4 f hT hK hM;go_wp2;go_ret;exact⟨r,af,rfl,hT.out,f.out,hK.out,hM.out⟩
def lj (l:List St) (aa:Int) (v:V4) (u:Int):Prop:=Km l aa v u/\u+aa<=1099511627776
instance (l:List St) (aa:Int) (v:V4) (u:Int):Decidable (Km l aa v u):=by unfold Km;infer_instance
instance (l:List St) (aa:Int) (v:V4) (u:Int):Decidable (lj l aa v u):=by unfold lj;infer_instance
instance (zs:List Int) (k i:Nat):Decidable (Bu zs k i):=by unfold Bu;infer_instance
def Abz (l:List St) (aa:Int) (v:V4) (T x:Int):Prop:=
 T<=x/\x<=1099511627776/\(x<1099511627776->lj l aa v x)/\∀u,T<=u->u<x->¬lj l aa v u
def Atl  {e T t:Int}  {is:Bool} (h:Ij l T e v t is) (h0:0<=T) (h1:T<1099511627776) (i:1<=e) (j:v.right=true) :
  Abz l e v T (if is=true then t else 1099511627776):=by
 unfold Ij at h;rw[Ad ⟨i,j,h1⟩,show max T 0=T by omega]at h;rcases h with⟨rfl,a,b,c,d⟩|⟨rfl,_,d⟩
 .rw [Ad rfl];exact⟨a,ao9,λ_=>⟨c,b⟩,λu f g h=>d u f g h.1⟩
 .rw [Ab as9];exact⟨ao9,ao9,λh=>by omega,λu f g h=>d u f h.2 h.1⟩
def Atm (l:List St) (aa:Int) (v:V4) (T:Int) (w:WD) (e:Ending) (w':WD):Prop:=
 ∃x,e=Q (Z G x)/\Abz l aa v T x/\BW w.heap.size w w'
def Atn (gb gs cap:Nat) (po:Option Addr) (u:List Nd) (k1 k2 k3:Nat) (o:Int) (v:V4) (i:Nat) (T:Int) (w:WD) (r:By w gb gs po cap u)
  (h1:w.heap[k1]?=O (J #[K (O ⟨gb,0,I⟩)] 268 (0,0))) (h2:w.heap[k2]?=O (J #[Z G o] 3 (0,0))) (z:w.heap[k3]?=O (J v.cells 30 (0,0)))
  (hi:i<u.length) (p:0<=T) (q:T<1099511627776) (ht:1<=o) (hv:v.right=true) :
  CS prog 286 #[Z G i,Z G T,K (O ⟨k1,0,I⟩),K (O ⟨k2,0,I⟩),K (O ⟨k3,0,I⟩)] w (Atm (nd u i).l o v T w):=by
 have af:=r.addr ao9;subst af;have hh:=r.head;have ac:=r.gg;have f:=r.fp i hi;have m:=r.inv i hi;have c0:=Aa hh 0;have p0:=r.ptr i hi;have x:=Aa h1 0;have y:=Aa h2 0;have d0:=Aa z 0;have d1:=Aa z 1;have d2:=Aa z 2;have d3:=Aa z 3;simp at c0 x y d0 d1 d2 d3;have an:=Ac hh;have ao:=Vq w _ p0;have l1:=Ac h1;have l2:=Ac h2;have l3:=Ac z;have s:Hid (∀t is,Ij (nd u i).l T o v t is->Abz (nd u i).l o v T (if is=true then t else 1099511627776)):=λt is h=>Atl h p q ht hv;have he:=Asc _ _ _ _ _ T o v w.drew f.drew m.loose ao9;obtain⟨n,hn⟩:=Ex (u.length);have am:(i:Int)<n:=ao9
 have al:(0:Int)<=(i:Int):=ao9
 rw[<-hn]at c0 ac;obtain⟨pb,ad⟩:=Ex ((nd u i).pb);rw[<-ad]at p0 he;clear r h1 h2 z hh f m hn ad hi;replace⟨he,p,q,ht,hv⟩:=H5 he p q ht hv;go_enter func286,ntmps286;go_wp2_with fail
 go_region_held3 (λw'=>w'.cell? ⟨k1,0,I⟩=O (K (O ⟨gb,0,I⟩))/\w'.cell? ⟨gb,0,I⟩=O (V (O ⟨gs,0,I⟩) n cap)/\w'.cell? ⟨gs,i,I⟩=O (K (O ⟨pb,0,I⟩)) /\
   w'.cell? ⟨k2,0,I⟩=O (Z G o)/\w'.cell? ⟨k3,0,I⟩=O (Z G v.a)/\w'.cell? ⟨k3,1,I⟩=O (Z G v.b)/\w'.cell? ⟨k3,2,I⟩=O (Z G v.c)/\w'.cell? ⟨k3,3,I⟩=O (Z G v.d))
  (first
    | (go_keep;done)
    | (go_split_ands;refine⟨?_,?_,?_,?_,?_,?_,?_,?_⟩<;>(rw[Af j.out (by simpa using ‹_›)];assumption)))
  (first
    | (go_at_call 287;refine he.mono ?_;rintro e w2 ⟨t,is,rfl,hR,j⟩
       replace⟨hR,j⟩:=H2 hR j))
 have g:BW w.heap.size w w2:=G2 j.out;replace g:=Hh g;have k:=s t is hR.out;cases is
 .rw [Ab as9]at k;replace k:=Hh k;go_wp2;go_ret;exact⟨_,rfl,k.out,g.out⟩
 .rw [Ad rfl]at k;replace k:=Hh k;go_wp2;go_ret;exact⟨_,rfl,k.out,g.out⟩
def Ik (ps:List Nd) (zs:List Int) (aa:Int) (v:V4) (u:Int) (j:Nat):Bool:=decide (j<ps.length) && decide (Bu zs zs.length j) && decide (lj (nd ps j).l aa v u)
def Il (ps:List Nd) (zs:List Int) (aa:Int) (v:V4) (u:Int) (k:Nat):List Nat:=(List.range k).filter (Ik ps zs aa v u)
def fy (ps:List Nd) (zs:List Int) (aa:Int) (v:V4) (u:Int):List Nat:=Il ps zs aa v u 16
def Bg (l:List Nat):List Int:=l.map λ(n:Nat)=>(n:Int)
def Su (b:List Nd) (zs:List Int) (a:Int) (v:V4) (u:Int) (k:Nat):Il b zs a v u (k+1)=if Ik b zs a v u k=true then Il b zs a v u k++[k]else Il b zs a v u k:=by
 unfold Il;rw[Wg,Ow];by_cases h:Ik b zs a v u k=true
 .rw [Ad h];simp[h]
 .rw [Ab h];simp[h]
def Ato (c:List Nd) (zs:List Int) (a:Int) (v:V4) (u:Int) (k:Nat) (h:k<=16):∃r,fy c zs a v u=Il c zs a v u k++r:=by
 unfold fy;obtain⟨d,b⟩:∃d,16=k+d:=⟨16-k,ao9⟩;rw[b];clear h b
 induction d with
 | zero=>exact⟨[],as9⟩
 | succ d ih=>
  obtain⟨r,e⟩:=ih;rw[show k+(d+1)=(k+d)+1 by omega,Su,e];split
  .exact ⟨r++[k+d],as9⟩
  .exact ⟨r,rfl⟩
def Atp {b:List Nd}  {a:Int}  {u T:Int} (h:∀j,Ik b zs a v u j=true->Ik b zs a v T j=true):(fy b zs a v u).length<=(fy b zs a v T).length:=by
 unfold fy Il;rw[<-List.countP_eq_length_filter,<-List.countP_eq_length_filter];exact List.countP_mono_left λj _=>h j
def Fq (ps:List Nd) (zs:List Int) (many:Int) (v:V4) (aa after t:Int) (xs:List Nat) (is:Bool):Prop:=
 if 1<=many/\1<=aa/\v.right=true then
  (is=true/\max after 0<=t/\t<1099511627776/\(xs.length:Int)=many/\(∃r,fy ps zs aa v t=xs++r)/\∀u,max after 0<=u->u<t->((fy ps zs aa v u).length:Int)<many) \/
  (is=false/\t=0/\xs=[]/\∀u,max after 0<=u->u<1099511627776->((fy ps zs aa v u).length:Int)<many)
 else t=0/\xs=[]/\is=false
def Ah5 (ps:List Nd) (zs:List Int) (many:Int) (v:V4) (aa after:Int) (w:WD) (e:Ending) (w':WD):Prop:=
 ∃t so n c xs is,e=Q (D #[Z G t,V so n c,Y is])/\Fq ps zs many v aa after t xs is/\Ao w' so n (Bg xs)/\n<=c/\(∀b off,so=O ⟨b,off,I⟩->w.heap.size<=b)/\BW w.heap.size w w'
def Uq (w:WD):Ao w I 0 (Bg []):=⟨rfl,ao9,λi a=>by omega⟩
def Aj (w:WD) (base:Nat) (sv:VL) (L:Nat) (xs:List Nat):Prop:=L=xs.length/\w.ownsRow base 3 1 sv L ((Bg xs).map (.int G))
def Aj.nil (w:WD) (base:Nat):Aj w base (V I 0 0) 0 []:=⟨rfl,Mu _ _ _ _⟩
def Aj.below   {c:VL}  (h:Aj w base c L xs) (f:BW w.heap.size w w'):Aj w' base c L xs:=by
 obtain⟨h1,d,e⟩:=h;refine⟨h1,d,?_⟩;rcases e with h|⟨g,cap,a,k,i,b,j⟩
 .exact .inl h
 .exact .inr ⟨g,cap,a,k,i,Ae f b (Ac b),j⟩
def Aj.at  {base g cap L:Nat}  (h:Aj w base (V (O ⟨g,0,I⟩) L cap) L xs) (e:L<=9223372036854775807):Ao w (O ⟨g,0,I⟩) L (Bg xs)/\L<=cap/\base<=g:=by
 obtain⟨h1,b⟩:=h;have d:=b;obtain⟨_,h|⟨m,a,c,l,f,k,j,o,p,q⟩⟩:=b
 .cases h.1
 .cases l;refine⟨⟨by simp[Bg,h1],e,λi n=>⟨g,0,rfl,Ac k,?_⟩⟩,j,f⟩;rw[Dm,d.cellAt i ao9];simp[Bg,zi,List.getD,show i<xs.length by omega]
structure FW (w:WD) (gb gs cap:Nat) (po:Option Addr) (ps:List Nd) (B3:Nat) (f:Nat->Bool) (aa:Int) (v:V4) (wr:WD):Prop where
 dq:By wr gb gs po cap ps
 k1:wr.heap[w.heap.size]?=O (J #[K (O ⟨gb,0,I⟩)] 268 (0,0))
 k2:wr.heap[w.heap.size+1]?=O (J v.cells 30 (0,0))
 k3:wr.heap[w.heap.size+1+1]?=O (J #[Z G aa] 3 (0,0))
 met:wr.heap[B3]?=O (J (bits f) 364 (0,0))
 low:BW w.heap.size w wr
def FW.below  {d e cap:Nat}  {g:List Nd} {b:Nat} {f:Nat->Bool} {c:Int}   (h:FW w d e cap po g b f c v wr) (a:BW wr.heap.size wr w'):FW w d e cap po g b f c v w':=
 ⟨h.dq.below a,Ae a h.k1 (Ac h.k1),Ae a h.k2 (Ac h.k2),Ae a h.k3 (Ac h.k3),Ae a h.met (Ac h.met),h.low.trans (a.mono h.low.size)⟩
def Atq (gb gs cap:Nat) (po:Option Addr) (ps:List Nd) (ao:Option Addr) (m c:Nat) (zs:List Int) (d:Int) (v:V4) (s after:Int) (w:WD) (hp:By w gb gs po cap ps) (hz:Ao w ao m zs) :
  CS prog 245 #[K (O ⟨gb,0,I⟩),V ao m c,Z G d,v.val,Z G s,Z G after] w (Ah5 ps zs d v s after w):=by
 obtain⟨i3,bl,bs,a2,a3⟩:=B6 Lx;obtain⟨W,hW⟩:=Ex (((w.alloc (J #[K (O ⟨gb,0,I⟩)] 268 (0,0))).alloc (J v.cells 30 (0,0))).alloc (J #[Z G s] 3 (0,0)));have hB:BW w.heap.size w W:=by rw[hW];exact(Bn.alloc as9 _).alloc (by simp;omega) _
 have w1:W.heap[w.heap.size]?=O (J #[K (O ⟨gb,0,I⟩)] 268 (0,0)):=by rw[hW];exact Ak _ (Ak _ (Ah _ _))
 have w2:W.heap[w.heap.size+1]?=O (J v.cells 30 (0,0)):=by rw[hW];exact Ak _ (A2 _ _ as9)
 have w3:W.heap[w.heap.size+1+1]?=O (J #[Z G s] 3 (0,0)):=by rw[hW];exact A2 _ _ as9
 have a9:=hp.below hB;have bb:=hz.below hB Ln;replace⟨hp,hz,a9,bb,w1,w2,w3⟩:=H7 hp hz a9 bb w1 w2 w3
 have aJ:¬(1<=d/\1<=s/\v.right=true)->∀w',BW w.heap.size w w'->Ah5 ps zs d v s after w (Q (D #[Z G 0,V I 0 0,Y false])) w':=λh w' hb=>
  ⟨0,I,0,0,[],false,rfl,by unfold Fq;rw[Ab h];exact⟨rfl,rfl,rfl⟩,Uq _,Nat.le_refl _,λb bv h=>by simp at h,hb⟩
 replace aJ:=Hh aJ;by_cases q1:d<1
 .have d1:decide (d<1)=true:=by simpa using q1
  have n:=aJ ao9 W hB;rw[hW]at n;replace⟨q1,n,hW,hB⟩:=H4 q1 n hW hB;go_enter func245,ntmps245;go_wp2;go_step3;go_wp2;rw[Lu];go_ret3;exact n.out
 have d1:decide (d<1)=false:=by simpa using q1
 by_cases q2:s<1
 .have d2:decide (s<1)=true:=by simpa using q2
  have n:=aJ ao9 W hB;rw[hW]at n;replace⟨q1,q2,n,hW,hB⟩:=H5 q1 q2 n hW hB;go_enter func245,ntmps245;go_wp2;go_step3;go_wp2;rw[Lu];go_ret3;exact n.out
 have d2:decide (s<1)=false:=by simpa using q2
 have aZ:=Iz v W;rw[hW]at aZ;replace⟨q1,q2,aZ,hW,hB⟩:=H5 q1 q2 aZ hW hB;go_enter func245,ntmps245;go_wp2_with fail;go_step3;go_wp2_with fail;refine aZ.mono ?_;rintro e w4 ⟨rfl,af⟩;rw[<-hW.out]at af;have aL:=hB.trans (af.mono hB.size);have aY:=a9.below af;have ba:=bb.below af Ln;have k1:=Ae af w1.out (Ac w1.out);have k2:=Ae af w2.out (Ac w2.out);have k3:=Ae af w3.out (Ac w3.out);have x1:=Aa k1 0;simp at x1;replace⟨k1,k2,k3,af,aL,aY,ba⟩:=H7 k1 k2 k3 af aL aY ba;by_cases q3:v.right=true;rotate_left
 .have bc:v.right=false:=by simpa using q3
  rw[bc];have n:=aJ (λh=>q3 h.2.2) w4 aL.out;replace⟨q3,bc,n⟩:=H3 q3 bc n;go_wp2;rw[Lu];go_ret3;exact n.out
 rw[q3];replace q3:=Hh q3;go_wp2_with fail;refine(As7 gb gs cap po ps ao m c zs w4 aY.out ba.out).mono ?_;rintro e w5 ⟨f,rfl,hf,aU⟩;have s4:=aL.size;have s5:=aU.size;have bo:(bits f).all (·.oneCell')=true:=by simp[bits,Value.oneCell']
 obtain⟨A,hA⟩:=Ex (max after 0);have bI:(if after<0 then 0 else after)=A:=by rw[hA];omega
 have bE:0<=A:=ao9
 have aN:FW w gb gs cap po ps w5.heap.size f s v ((w5.alloc (J (bits λ_=>false) 364 (0,0))).setRow w5.heap.size (bits f)):=by have bx:BW w5.heap.size w5 ((w5.alloc (J (bits λ_=>false) 364 (0,0))).setRow w5.heap.size (bits f)):=Ah3 Bn Ln _;have hb:=aU.trans (bx.mono s5);exact⟨aY.below hb,Ae hb k1.out (Ac k1.out),Ae hb k2.out (Ac k2.out),Ae hb k3.out (Ac k3.out),Lv _ _ _ _ 364 (0,0) (Ah _ _),aL.trans (hb.mono s4)⟩
 replace⟨aN,hf,aU,hA⟩:=H4 aN hf aU hA;go_wp2_with (first|(refine Mv rfl 364 _ _ rfl w5.heap.size (bits f) rfl rfl 364 (bits λ_=>false) (by rw[<-Abw];exact Ah _ _) Up rfl bo ?_));go_step3;go_wp2;go_loopw [17,18,19,20,21,22] (λt _ _ _ _ _ wr=>∃T:Int,t=Z G T/\A<=T/\Hid (FW w gb gs cap po ps w5.heap.size f s v wr)/\Hid (∀u,A<=u->u<T->((fy ps zs s v u).length:Int)<d)) (λt _ _ _ _ _ _=>(1099511627776-intOf t).toNat)
 case atStart=>exact⟨A,rfl,Df _,aN.out,λu h1 h2=>by omega⟩
 case round=>
  obtain⟨T,rfl,bw,a4,a8⟩:=hrel;by_cases hT:T<1099511627776;rotate_left
  .have ac:Fq ps zs d v s after 0 [] false:=(by unfold Fq;rw[Ad ⟨by have:=q1.out;omega,by have:=q2.out;omega,q3.out⟩];exact .inr ⟨rfl,rfl,rfl,λu u1 u2=>a8.out u (by rw[hA.out];exact u1) ao9⟩);replace ac:=Hh ac;go_wp2;go_ret3;exact⟨0,I,0,0,[],false,rfl,ac.out,Uq _,Nat.le_refl _,(λb bv h=>by simp at h),a4.low⟩
  have d3:decide (T<1099511627776)=true:=by simpa using hT
  obtain⟨w0,a0⟩:=Ex (wr);have aT:=a4;rw[<-a0]at aT;have aO:=a4.met;replace⟨aO,a0⟩:=H2 aO a0;go_wp2_with (first|(refine Wf rfl 364 _ rfl w5.heap.size rfl 364 (bits f) (0,0) _ aO.out V9 rfl Up ?_))
  go_loopw [18,19,20,21,22,47] (λnx sv _ _ _ i wx=>∃(k:Nat) (N:Int) (L:Nat) (xs:List Nat),i=Z G k/\nx=Z G N/\k<=16/\T<N/\N<=1099511627776/\(L:Int)<d/\L<=k/\Hid (BW w0.heap.size w0 wx)/\Hid (Aj wx w0.heap.size sv L xs) /\
   Hid (xs=Il ps zs s v T k)/\Hid (∀j,j<k->f j=true->¬lj (nd ps j).l s v T->∀u,T<=u->u<N->¬lj (nd ps j).l s v u)) (λ_ _ _ _ _ i _=>16-(intOf i).toNat)
  case atStart=>
   refine⟨0,1099511627776,0,[],rfl,rfl,ao9,hT,Df _,by have:=q1.out;omega,Nat.le_refl _,?_,Aj.nil _ _,rfl,λj hj=>by omega⟩;rw[a0.out];exact Below.refl _ _
  case round=>
   obtain⟨k,N,L,xs,rfl,rfl,hk,bi,bf,bd,bF,aK,aQ,aI,aF⟩:=hrel;by_cases bn:k<16
   .have bA:(k:Int)<16:=ao9;have bG:(0:Int)<=(k:Int):=ao9;have a1:=As5 f k bn;cases al:f k
    .replace aI:Hid (xs=Il ps zs s v T (k+1)):=(by show xs=_;rw[Su,Ab,aI.out];intro h;simp only[Ik,D7,Iu]at h;have:=(hf k).2 h.1;rw[al]at this;cases this);simp only[al]at a1
     have a:∀j,j<k+1->f j=true->¬lj (nd ps j).l s v T->∀u,T<=u->u<N->¬lj (nd ps j).l s v u:=λj hj aA=>by
      by_cases e:j=k
      .subst e;rw[al]at aA;cases aA
      .exact aF.out j ao9 aA
     replace⟨a,al⟩:=H2 a al;go_wp2;go_roundw
     case rel=>exact⟨k+1,N,L,xs,by go_num,rfl,ao9,bi,bf,bd,ao9,aK.out,aQ.out,aI.out,a.out⟩
     case measure=>simp[intOf];omega
    .have aE:=(hf k).1 al;have z:=aT.below aK.out;simp only[al]at a1;have aC:=Atn gb gs cap po ps _ _ _ s v k T wr z.dq z.k1 z.k3 z.k2 aE.1 ao9 hT (by have:=q2.out;omega) q3.out;replace⟨aC,z,aE,al⟩:=H4 aC z aE al;go_wp2_with fail
     (with_reducible refine aC.out.mono ?_)
     rintro e w6 ⟨x,rfl,hx,aG⟩;have av:=aK.trans (aG.mono aK.size);have p:=aQ.below aG;have s6:=av.size;by_cases aH:T<x
     .have d4:decide (T<x)=true:=(by simpa using aH);obtain⟨N2,a5⟩:=Ex (min N x);have bH:(if x<N then x else N)=N2:=(by rw[a5];omega);have aP:=hx.2.2.2 T (Df _) aH;have y:xs=Il ps zs s v T (k+1):=by rw[Su,Ab,aI.out];intro h;simp only[Ik,D7,Iu]at h;exact aP h.2
      have a:∀j,j<k+1->f j=true->¬lj (nd ps j).l s v T->∀u,T<=u->u<N2->¬lj (nd ps j).l s v u:=λj hj aA h3 u u1 u2=>by
       by_cases e:j=k
       .subst e;exact hx.2.2.2 u u1 ao9
       .exact aF.out j ao9 aA h3 u u1 ao9
      have bk:T<N2:=ao9;have bg:N2<=1099511627776:=ao9;replace⟨hx,aG,av,p,aH,a5,aP,y⟩:=H8 hx aG av p aH a5 aP y;replace a:=Hh a;go_wp2;go_roundw
      case rel=>exact⟨k+1,N2,L,xs,by go_num,rfl,ao9,bk,bg,bd,ao9,av.out,p.out,y.out,a.out⟩
      case measure=>simp[intOf];omega
     .have bC:x=T:=(by have:=hx.1;omega);subst bC;have d4:decide (x<x)=false:=as9;have aX:=hx.2.2.1 hT;have y:xs++[k]=Il ps zs s v x (k+1):=by rw[Su,Ad,aI.out];simp only[Ik,D7,Iu];exact⟨aE.out,aX⟩
      have a:∀j,j<k+1->f j=true->¬lj (nd ps j).l s v x->∀u,x<=u->u<N->¬lj (nd ps j).l s v u:=λj hj aA h3 u u1 u2=>by
       by_cases e:j=k
       .subst e;exact absurd aX h3
       .exact aF.out j ao9 aA h3 u u1 ao9
      have ap:=p.2.alloc (J #[Z G (k:Int)] 3 (0,0))
      have am:∀j u,([Z G (k:Int)]:List VL)[j]?=O u->(w6.alloc (J #[Z G (k:Int)] 3 (0,0))).cell? ((⟨w6.heap.size,0,I⟩:Addr).add j)=O u:=by
       intro j u hu
       match j,hu with
       | 0,hu=>
        have:=Aa (Ah w6 (J #[Z G (k:Int)] 3 (0,0))) 0;simp at hu;subst hu;exact this
       | j+1,hu=>simp at hu
      have an:∀u∈([Z G (k:Int)]:List VL),u.oneCell'=true:=by simp[Value.oneCell']
      have aS:L+1<=maxLen:=by
       have:maxLen=9223372036854775807:=by kernel_rfl
       omega
      have aV:(L+1)*8<=140737488355328:=ao9;have ad:w0.heap.size<=(w6.alloc (J #[Z G (k:Int)] 3 (0,0))).heap.size:=(by simp;omega);have aW:=p.2.lt;have aR:=p.1;replace⟨hx,aG,av,p,aH,y,a,aX⟩:=H8 hx aG av p aH y a aX;replace⟨ap,am,an,aS,aV,ad,aW,aR⟩:=H8 ap am an aS aV ad aW aR;by_cases r:(L:Int)+1=d
      .have d5:((L:Int)+1 == d)=true:=(by simpa using r);have ac:Fq ps zs d v s after x (xs++[k]) true:=(by unfold Fq;rw[Ad ⟨by have:=q1.out;omega,by have:=q2.out;omega,q3.out⟩];refine .inl ⟨rfl,by rw[<-hA.out];exact bw,hT,by rw[Av,<-aR.out];simpa using r,?_,λu u1 u2=>a8.out u (by rw[hA.out];exact u1) u2⟩;rw[y.out];exact Ato _ _ _ _ _ _ ao9);replace⟨ac,r⟩:=H2 ac r;go_wp2_with (at_builtin;refine J6 _ rfl _ _ 31 rfl w0.heap.size 3 i3 _ 1 8 Nx bl bs a2 a3 rfl ad9 _ L _ rfl ap.out ⟨w6.heap.size,0,I⟩ 1 1 [Z G (k:Int)] rfl rfl am.out an.out aS.out aV.out ad.out ?_;intro v1 w7 o q _;obtain⟨g,aD,rfl⟩:=Joins.ownsRow_form o ao9;replace⟨o,q⟩:=H2 o q);go_ret3;have hO:Aj w7 w0.heap.size (V (O ⟨g,0,I⟩) (L+1) aD) (L+1) (xs++[k]):=⟨by rw[Av,<-aR.out];rfl,by simpa[Bg]using o.out⟩;obtain⟨o1,o2,o3⟩:=hO.at ao9;have aM:=(av.alloc s6 _).grown q.out ad.out (λk hk=>(aW k hk).1);have a7:=aT.low;exact⟨x,O ⟨g,0,I⟩,L+1,aD,xs++[k],true,rfl,ac.out,o1,o2,(λb bv e=>by cases e;exact Aw a7.size o3),a7.trans (aM.mono a7.size)⟩
      .have d5:((L:Int)+1 == d)=false:=(by simpa using r);have be:(L:Int)+1<d:=ao9;replace r:=Hh r;go_wp2_with (at_builtin;refine J6 _ rfl _ _ 31 rfl w0.heap.size 3 i3 _ 1 8 Nx bl bs a2 a3 rfl ad9 _ L _ rfl ap.out ⟨w6.heap.size,0,I⟩ 1 1 [Z G (k:Int)] rfl rfl am.out an.out aS.out aV.out ad.out ?_;intro v1 w7 o q _;obtain⟨g,aD,rfl⟩:=Joins.ownsRow_form o ao9;replace⟨o,q⟩:=H2 o q);have hO:Aj w7 w0.heap.size (V (O ⟨g,0,I⟩) (L+1) aD) (L+1) (xs++[k]):=⟨by rw[Av,<-aR.out];rfl,by simpa[Bg]using o.out⟩;have aM:=(av.alloc s6 _).grown q.out ad.out (λk hk=>(aW k hk).1);replace⟨hO,aM⟩:=H2 hO aM;go_roundw
       case rel=>exact⟨k+1,N,L+1,xs++[k],by go_num,rfl,ao9,bi,bf,by simpa using be,ao9,aM.out,hO.out,y.out,a.out⟩
       case measure=>simp[intOf];omega
   .have bA:¬(k:Int)<16:=ao9;have a6:k=16:=ao9;have d6:(N == T)=false:=(by rw[Bh];omega);have z:=aT.below aK.out;have bD:=z.dq.gg
    have aB:=λu u1 u2=>by
     by_cases hu:u<T
     .exact a8.out u u1 hu
     .have bB:=Atp λj hj=>by
       simp only[Ik,D7,Iu]at hj ⊢;refine⟨hj.1,Is λhc=>?_⟩;exact aF.out j (by have:=hj.1.1;omega) ((hf j).2 hj.1) hc u ao9 u2 hj.2
      have:fy ps zs s v T=xs:=by rw[aI.out,a6];rfl
      rw[this,<-aQ.1]at bB;omega
    replace⟨a6,z,aB⟩:=H3 a6 z aB;go_wp2;go_roundw
    case rel=>exact⟨N,rfl,ao9,z.out,aB.out⟩
    case measure=>simp[intOf];omega
def Atr  {S:Nat->Prop} {w w1 b:WD} (h:BW B w w1) (a:Mod S w1 b) (d:∀k,S k->B<=k) (e:B<=w1.heap.size):BW B w b:=
 h.trans ⟨a.os,a.tape,a.output,a.size,λk f=>a.block k ao9 (λc=>by have:=d k c;omega)⟩
end Pl
namespace Pl
def Ats {l:List St} (b:B9 l) {i j:Nat} (h:i<=j) (a:j<l.length):(nth l i).t<=(nth l j).t:=by
 by_cases e:i=j
 .subst e;exact Df _
 .exact Int.le_of_lt (b.bj i j ao9 a)
def Ah6 {l:List St} (c:B9 l) {v:V4} {u d:Int} (h0:0<=u) (h1:1<=d):Km l d v u↔∀x,u<=x->x<u+d->v.leq (val l x):=by
 constructor
 .intro h x s n;obtain⟨k,a⟩:=Uo c (u:=x) ao9;rw[Mg c.bj a];exact Le.1 (h k a.1 (by have:=a.2.1;omega) (λe=>by have:=a.2.2 (k+1) ao9 e;omega))
 .intro h k a r g
  have f:Kk l (max u (nth l k).t) k:=⟨a,ao9,λj m b=>by
   have o:=c.bj k j m b;have p:=Ats c (i:=k+1) (j:=j) ao9 b;have q:=g ao9
   omega⟩
  have:=h (max u (nth l k).t) ao9 ao9;rw[Mg c.bj f]at this;exact Le.2 this
end Pl
namespace Pl
open Go.RowKit
variable{a after e t:Int}{zs:List Int}{xs:List Nat}{j:Nat}{v:V4}
def Ah7  {x:Int}:x∈zs↔∃j,j<zs.length/\zi zs j=x:=by
 constructor
 .intro h;obtain⟨i,a,e⟩:=Pw.1 h;exact⟨i,a,by simp[zi,List.getD,a,e]⟩
 .rintro ⟨j,b,e⟩;rw[<-e];simp[zi,List.getD,b]
def Att (zs:List Int) (x:Int) (w:WD) (e:Ending) (w':WD):Prop:=∃b:Bool,e=Q (Y b)/\(b=true↔x∈zs)/\w'=w
def Ah8 {b:List Nd}  {c u:Int}   (h:j∈fy b zs c v u):j<b.length/\Bu zs zs.length j/\lj (nd b j).l c v u:=by
 unfold fy Il at h;obtain⟨_,a⟩:=N5.1 h;simp only[Ik,D7,Iu]at a;exact⟨a.1.1,a.1.2,a.2⟩
def Atu (b:List Nd) (zs:List Int) (a u:Int) (v:V4):(fy b zs a v u).Pairwise (·<·):=by
 unfold fy Il;exact List.Pairwise.filter _ List.pairwise_lt_range
structure Mi (ps:List Nd) (zs:List Int) (many:Int) (v:V4) (aa after t:Int) (xs:List Nat):Prop where
 many1:1<=many
 ld:1<=aa
 right:v.right=true
 ge:max after 0<=t
 lt:t<1099511627776
 fin:t+aa<=1099511627776
 len:(xs.length:Int)=many
 pre:∃r,fy ps zs aa v t=xs++r
 first:∀u,max after 0<=u->u<t->((fy ps zs aa v u).length:Int)<many
def Fq.found {f:List Nd}    {b after t:Int}  (h:Fq f zs a v b after t xs true):Mi f zs a v b after t xs:=by
 unfold Fq at h;by_cases c:1<=a/\1<=b/\v.right=true
 .rw [Ad c]at h;rcases h with⟨_,h1,g,d,⟨r,e⟩,i⟩|⟨h,_⟩
  .refine ⟨c.1,c.2.1,c.2.2,h1,g,?_,d,⟨r,e⟩,i⟩
   cases xs with
   | nil=>simp at d;omega
   | cons x xs=>exact(Ah8 (j:=x) (by rw[e];simp)).2.2.2
  .cases h
 .rw [Ab c]at h;cases h.2.2
def Fq.none {g:List Nd}    {f after t:Int}  (h:Fq g zs e v f after t xs false):t=0/\xs=[] /\
  (1<=e->1<=f->v.right=true->∀u,max after 0<=u->u<1099511627776->((fy g zs f v u).length:Int)<e):=by
 unfold Fq at h;by_cases c:1<=e/\1<=f/\v.right=true
 .rw [Ad c]at h;rcases h with⟨h,_⟩|⟨_,h1,i,j⟩
  .cases h
  .exact ⟨h1,i,λ_ _ _=>j⟩
 .rw [Ab c]at h;exact⟨h.1,h.2.1,λa b d=>absurd ⟨a,b,d⟩ c⟩
def Fq.same {ps x:List Nd}    {c after t t':Int} {xs y:List Nat} {b z:Bool} (h:Fq ps zs a v c after t xs b) (h':Fq x zs a v c after t' y z)
  (j:∀u,fy x zs c v u=fy ps zs c v u):t'=t/\y=xs/\z=b:=by
 have p:∀ {q:List Nd} {k:List Nd} {s l:Int} {ys g:List Nat},Mi q zs a v c after s ys->Mi k zs a v c after l g->(∀u,fy k zs c v u=fy q zs c v u)->s<=l:=fun {q k s l ys g} f i j=>by
  apply Is;intro hc
  have h1:=f.first l i.ge ao9
  obtain⟨r,m⟩:=i.pre;rw[j]at m;rw[m,Av]at h1;have:=i.len;omega
 have d:∀ {q:List Nd} {k:List Nd} {s l:Int} {ys g:List Nat},Mi q zs a v c after s ys->Fq k zs a v c after l g false->(∀u,fy k zs c v u=fy q zs c v u)->False:=fun {q k s l ys g} f i j=>by
  have h1:=i.none.2.2 f.many1 f.ld f.right s f.ge f.lt;obtain⟨r,m⟩:=f.pre;rw[j,m,Av]at h1;have:=f.len;omega
 cases b with
 | true=>
  cases z with
  | true=>
   have f:=h.found;have i:=h'.found;have e:t'=t:=(by have:=p f i j;have:=p i f (λu=>(j u).symm);omega);subst e;refine⟨rfl,?_,rfl⟩;obtain⟨r,m⟩:=f.pre;obtain⟨r',o⟩:=i.pre;rw[j,m]at o;have l1:=f.len;have l2:=i.len;exact(List.append_inj o ao9).1.symm
  | false=>exact(d h.found h' j).elim
 | false=>
  cases z with
  | true=>exact(d h'.found h (λu=>(j u).symm)).elim
  | false=>
   have n:=h.none;have n':=h'.none;exact⟨by rw[n.1,n'.1],by rw[n.2.1,n'.2.1],rfl⟩
def Mi.aj {c:List Nd}  {d:Int}    (h:Mi c zs d v e after t xs):D5 c.length (Bg xs)/\(∀j,j∈xs->j<c.length/\Bu zs zs.length j/\lj (nd c j).l e v t)/\xs.Pairwise (·<·):=by
 obtain⟨r,m⟩:=h.pre;have g:∀j,j∈xs->j<c.length/\Bu zs zs.length j/\lj (nd c j).l e v t:=λj n=>Ah8 (by rw[m];exact List.mem_append_left _ n);have k:xs.Pairwise (·<·):=by have:=Atu c zs e t v;rw[m]at this;exact(Tj.1 this).1
 have h1:=h.many1;have o:=h.len
 have f:∀i (a:i<xs.length),zi (Bg xs) i=((xs[i]:Nat):Int):=λi a=>by simp[zi,Bg,List.getD,a]
 have b:(Bg xs).length=xs.length:=by simp[Bg]
 refine⟨⟨by rw[b];omega,λi a=>?_,λi a=>?_,λi a=>?_⟩,g,k⟩
 .rw [b]at a;rw[f i a];omega
 .rw [b]at a;rw[f i a];have:=(g _ (Kv a)).1;omega
 .rw [b]at a;rw[f i ao9,f (i+1) a];have:=Ot.1 k i (i+1) ao9 a ao9;omega
def Ye:Bu (Bg xs) (Bg xs).length j↔j∈xs:=by
 unfold Bu;have b:(Bg xs).length=xs.length:=by simp[Bg]
 have f:∀i (a:i<xs.length),zi (Bg xs) i=((xs[i]:Nat):Int):=λi a=>by simp[zi,Bg,List.getD,a]
 constructor
 .rintro ⟨c,d,e⟩;rw[b]at d;rw[f c d]at e
  have:xs[c]=j:=ao9
  rw[<-this];exact Kv d
 .intro h;obtain⟨i,a,e⟩:=Pw.1 h;exact⟨i,by rw[b];exact a,by rw[f i a,e]⟩
end Pl
namespace Pl
variable{zs:List Int}{xs:List Nat}{v:V4}
def Mi.span {c:List Nd}  {a:Int}  {b after t:Int}  (h:Mi c zs a v b after t xs):Bf t (t+b) v=true:=by
 have:=h.ge;have:=h.fin;have:=h.ld;simp[Bf,h.right];omega
def Mi.take {d e:List Nd}  {f:Int}  {g after t r:Int}  (h:Mi d zs f v g after t xs) (o:∀i,i<d.length->B9 (nd d i).l)
  (p:Lg d (Bg xs) t (t+g) v r e):r=0/\∀i,i<d.length->(i∈xs->∀u,0<=u->u<1099511627776->val (nd e i).l u=if t<=u/\u<t+g then Nm (val (nd d i).l u) v else val (nd d i).l u)/\(¬i∈xs->(nd e i).l=(nd d i).l):=by
 obtain⟨k,m,x⟩:=h.aj;have h0:0<=t:=by have:=h.ge;omega
 rcases p with⟨a,_⟩|⟨_,_,a,_⟩|⟨_,_,_,rfl,a⟩
 .exact absurd ⟨k,h.span⟩ a
 .refine absurd (λi b n u q s=>?_) a;exact(Ah6 (o i b) h0 h.ld).1 (m i (Ye.1 n)).2.2.1 u q s
 .exact ⟨rfl,λi b=>⟨λj=>(a i b).1 (Ye.2 j),λj=>(a i b).2 (λc=>j (Ye.1 c))⟩⟩
end Pl
namespace Pl
open Go.RowKit
variable{q:List Nd}{vs:List V4}{n:Nat}{w w' wr:WD}
def vv (vs:List V4) (i:Nat):V4:=vs.getD i V4.zero
structure Oh (w:WD) (ao:Option Addr) (n:Nat) (vs:List V4):Prop where
 len:vs.length=n
 max:n<=9223372036854775807
 cell:∀i,i<n->∃b off,ao=O ⟨b,off,I⟩/\b<w.heap.size/\w.cell? ⟨b,off+i*4,I⟩=O (Z G (vv vs i).a)/\w.cell? ⟨b,off+i*4+1,I⟩=O (Z G (vv vs i).b) /\
  w.cell? ⟨b,off+i*4+2,I⟩=O (Z G (vv vs i).c)/\w.cell? ⟨b,off+i*4+3,I⟩=O (Z G (vv vs i).d)
def Oh.below  {f:Option Addr}   (h:Oh w f n vs) {B:Nat} (a:BW B w w') (k:w.heap.size<=B):Oh w' f n vs:=
 ⟨h.len,h.max,λi j=>by
  obtain⟨b,d,e,c,g,a1,a2,a3⟩:=h.cell i j
  exact⟨b,d,e,B4 c a.size,(Af a ao9).trans g,(Af a ao9).trans a1,(Af a ao9).trans a2,(Af a ao9).trans a3⟩⟩
def Aa3:(prog.info? 321).map (λi=>(i.zero,i.size,i.bytes))=O (O (K I),1,8):=by kernel_rfl
def Ab0 (p:Nd):VL:=K (O ⟨p.pb,0,I⟩)
structure NI (w:WD) (vs:List V4) (k:Nat) (q:List Nd) (sv:VL) (wr:WD):Prop where
 len:q.length=k
 head:wr.heap[w.heap.size]?=O (J #[sv] 354 (0,0))
 row:wr.ownsRow (w.heap.size+1) 321 1 sv k (q.map Ab0)
 node:∀i,i<k->Ce wr (nd q i).pb (nd q i).sb (nd q i).cap (nd q i).whole (nd q i).l/\(nd q i).whole=vv vs i/\(nd q i).l=[⟨0,vv vs i⟩]/\(vv vs i).right=true/\w.heap.size<(nd q i).pb/\w.heap.size<(nd q i).sb
 apart:∀i j,i<k->j<k->i≠j->(nd q i).pb≠(nd q j).pb/\(nd q i).pb≠(nd q j).sb/\(nd q i).sb≠(nd q j).sb
 off:∀i,i<k->∀g,sv.ownBlock=O g->(nd q i).pb≠g/\(nd q i).sb≠g
 low:BW w.heap.size w wr
def Atv (q:List Nd) (x:Nd) (i:Nat) (h:i<=q.length):nd (q++[x]) i=if i=q.length then x else nd q i:=by
 unfold nd;by_cases e:i=q.length
 .subst e;simp
 .rw [Ab e];simp[List.getD,Es (show i<q.length by omega)]
def Ab1  {base size n:Nat} {e:TypeId} {v:VL} {xs:List VL} (h:w.ownsRow base e size v n xs) (d:∀g,v.ownBlock=O g->w'.heap[g]?=w.heap[g]?):w'.ownsRow base e size v n xs:=by
 obtain⟨h1,c⟩:=h;refine⟨h1,?_⟩;rcases c with h|⟨g,cap,a,b,f,i,j⟩
 .exact .inl h
 .exact .inr ⟨g,cap,a,b,f,(d g (by rw[b];rfl)).trans i,j⟩
def NI.step {w wr o w3:WD}  {k:Nat}  {sv x:VL} {X:Obj} {u v:Nat} (h:NI w vs k q sv wr) (y:BW wr.heap.size wr o)
  (hp:Ce o u v 1 (vv vs k) [⟨0,vv vs k⟩]) (hr:(vv vs k).right=true) (h1:wr.heap.size<=u) (h2:wr.heap.size<=v)
  (t:w3.ownsRow (w.heap.size+1) 321 1 x (k+1) (q.map Ab0++[K (O ⟨u,0,I⟩)])) (a:(o.alloc X).grownBy w3 sv.ownBlock)
  (ad:x.ownBlock=sv.ownBlock\/x.ownBlock=O (o.alloc X).heap.size) :
  NI w vs (k+1) (q++[⟨u,v,1,vv vs k,[⟨0,vv vs k⟩]⟩]) x (w3.setCell ⟨w.heap.size,0,I⟩ x):=by
 have s:=h.len;have hl:=Ac h.head;have hs:=y.size;have al:=h.row.lt
 have p:∀b,b<o.heap.size->(∀g,sv.ownBlock=O g->b≠g)->b≠w.heap.size->(w3.setCell ⟨w.heap.size,0,I⟩ x).heap[b]?=o.heap[b]?:=λb b1 b2 b3=>by
  rw[Ci _ _ _ _ b3];exact(a.block b (by simp;omega) (λc=>b2 b c.symm rfl)).trans (Gd o X b b1)
 have l:=λi r=>(h.node i r).1.lt;have ac:=hp.lt
 have n:∀g,sv.ownBlock=O g->g<wr.heap.size/\w.heap.size<g:=λg a=>by have:=al g a;omega
 have f:∀i,i<k+1->nd (q++[⟨u,v,1,vv vs k,[⟨0,vv vs k⟩]⟩]) i=if i=k then⟨u,v,1,vv vs k,[⟨0,vv vs k⟩]⟩else nd q i:=λi r=>by rw[Atv _ _ _ ao9,s]
 refine⟨by simp[s],?_,?_,?_,?_,?_,?_⟩
 .rw [Am ((a.block w.heap.size (by simp;omega) (λc=>by have:=n _ c.symm;omega)).trans ((Gd o X _ ao9).trans (Ae y h.head hl)))];simp
 .rw [Dw];refine Ab1 t λg d=>Ci _ _ _ _ ?_;have:=t.lt g d;show g≠w.heap.size;omega
 .intro i r;rw[f i r];by_cases e:i=k
  .subst e;rw[Ad rfl];refine⟨⟨?_,hp.row.of_block ?_,hp.ne⟩,rfl,rfl,hr,by simp only;omega,by simp only;omega⟩
   .exact (p u ac.1 (λg a=>by have:=n g a;omega) ao9).trans hp.head
   .exact p v ac.2 (λg a=>by have:=n g a;omega) ao9
  .rw [Ab e];obtain⟨n1,n2,n3,n4,n5,n6⟩:=h.node i ao9;have z:=l i ao9;have hf:=h.off i ao9;refine⟨⟨?_,n1.row.of_block ?_,n1.ne⟩,n2,n3,n4,n5,n6⟩
   .exact (p _ ao9 (λg a=>(hf g a).1) ao9).trans (Ae y n1.head z.1)
   .exact (p _ ao9 (λg a=>(hf g a).2) ao9).trans (y.block _ z.2)
 .intro i j r hj af;rw[f i r,f j hj];by_cases e1:i=k
  .have e2:j≠k:=ao9;rw[Ad e1,Ab e2];have z:=l j ao9
   refine⟨?_,?_,?_⟩<;>simp only<;>omega
  .rw [Ab e1];have z:=l i ao9;by_cases e2:j=k
   .rw [Ad e2]
    refine⟨?_,?_,?_⟩<;>simp only<;>omega
   .rw [Ab e2];exact h.apart i j ao9 ao9 af
 .intro i r g d;rw[f i r];have am:(o.alloc X).heap.size=o.heap.size+1:=as9
  rcases ad with m|m
  .rw [m]at d;by_cases e:i=k
   .rw [Ad e];have:=n g d
    refine⟨?_,?_⟩<;>simp only<;>omega
   .rw [Ab e];exact h.off i ao9 g d
  .rw [m,am]at d;simp at d;by_cases e:i=k
   .rw [Ad e]
    refine⟨?_,?_⟩<;>simp only<;>omega
   .rw [Ab e];have z:=l i ao9;omega
 .have m:=h.low.trans (y.mono h.low.size);exact((m.alloc ao9 X).grown a (by simp;omega) (λg a=>by have:=n g a;omega)).setCell Ln _
def NI.dq     {m:VL} (h:NI w vs n q m wr) (u:n<=16):∃o d cap,m=V d n cap/\By wr w.heap.size o d cap q:=by
 have b:=h.len;rcases Joins.ownsRow_forms h.row with⟨rfl,h0⟩|⟨g,cap,rfl⟩
 .refine ⟨0,I,0,by rw[h0],?_⟩;exact⟨by rw[b,h0];exact h.head,λc=>by omega,λi a=>by omega,λi a=>by omega,λi a=>by omega,λi j a=>by omega,λi a=>by omega,ao9⟩
 .refine ⟨g,O ⟨g,0,I⟩,cap,rfl,?_⟩;refine⟨by rw[b];exact h.head,λ_=>rfl,λi a=>?_,λi a=>(h.node i ao9).1,λi a=>?_,λi j a t=>h.apart i j ao9 ao9,λi a=>?_,ao9⟩
  .rw [h.row.cellAt i ao9];simp[Ab0,nd,List.getD,a]
  .obtain ⟨p,f,k,l,r,s⟩:=h.node i ao9;rw[f,k];exact Asz l
  .obtain ⟨p,f,k,l,r,s⟩:=h.node i ao9;have e:=h.off i ao9 g rfl;exact⟨ao9,ao9,e.1,e.2⟩
def Atw (vs:List V4) (n:Nat) (w:WD) (e:Ending) (w':WD):Prop:=
 (¬(n<=16/\∀i,i<n->(vv vs i).right=true)/\e=Q (K I)/\BW w.heap.size w w') \/
 (n<=16/\(∀i,i<n->(vv vs i).right=true)/\∃gb gs ao cap ps,e=Q (K (O ⟨gb,0,I⟩))/\w.heap.size<=gb/\By w' gb gs ao cap ps/\ps.length=n /\
   (∀i,i<n->(nd ps i).whole=vv vs i/\(nd ps i).l=[⟨0,vv vs i⟩])/\(∀b,Bc ps b->w.heap.size<=b)/\BW w.heap.size w w')
def Atx (ao:Option Addr) (n c:Nat) (vs:List V4) (w:WD) (hz:Oh w ao n vs):CS prog 235 #[V ao n c] w (Atw vs n w):=by
 obtain⟨aK,aC,aF,aA,aB⟩:=B6 Aa3;have aM:=hz.max;replace hz:=Hh hz;by_cases q1:16<n
 .have d1:decide (16<(n:Int))=true:=by simp;omega
  go_enter func235,ntmps235;go_wp2;go_ret;exact .inl ⟨λh=>by omega,rfl,Below.refl _ _⟩
 have d1:decide (16<(n:Int))=false:=by simp;omega
 replace q1:=Hh q1;go_enter func235,ntmps235;go_wp2;go_loopw [5,6,14] (λ_ _ i wr=>∃(k:Nat) (q:List Nd) (sv:VL),i=Z G k/\k<=n/\Hid (NI w vs k q sv wr)) (λ_ _ i _=>n-(intOf i).toNat)
 case atStart=>exact⟨0,[],V I 0 0,rfl,Ar _,⟨rfl,Ah _ _,Mu _ _ _ _,λi z=>by omega,λi j z=>by omega,λi z=>by omega,Bn⟩⟩
 case round=>
  obtain⟨k,q,sv,rfl,hk,hN⟩:=hrel;by_cases hc:k<n
  .have aI:(k:Int)<n:=ao9;have aN:(0:Int)<=(k:Int):=ao9;obtain⟨b,aO,rfl,t,a0,a1,a2,a3⟩:=hz.cell k hc;have l:=hN.low;have b0:=(Af l t).trans a0;have b1:=(Af l t).trans a1;have b2:=(Af l t).trans a2;have b3:=(Af l t).trans a3;clear a0 a1 a2 a3;have s1:=l.size;have aJ:=Ac hN.head;obtain⟨x,hx⟩:=Ex (vv vs k);rw[<-hx]at b0 b1 b2 b3;replace⟨hx,l⟩:=H2 hx l;go_wp2_with fail;refine(Abt x _).mono ?_;rintro e w2 (⟨hw,rfl,m⟩|⟨hw,pb,sb,rfl,hp,ap,av,m⟩)
   .have al:=(l.alloc s1 _).trans (m.mono (by simp;omega));replace⟨al,m,hw⟩:=H3 al m hw;go_wp2;go_ret;refine .inl ⟨λh=>?_,rfl,al.out⟩;have:=h.2 k hc;rw[<-hx.out,hw.out]at this;cases this
   .have t:=Bn.trans (m.mono as9);have aD:wr.heap.size<=pb:=(by simp at ap;omega);have aE:wr.heap.size<=sb:=(by simp at av;omega);have hh:=Ae t hN.head aJ;have c0:=Aa hh 0;simp at c0;have s2:=t.size;have ac:=hN.row.lt;have s:=Ab1 hN.row λg hg=>t.block g (ac g hg).2;have r:=s.alloc (J #[K (O ⟨pb,0,I⟩)] 321 (0,0))
    have o:∀j u,([K (O ⟨pb,0,I⟩)]:List VL)[j]?=O u->(w2.alloc (J #[K (O ⟨pb,0,I⟩)] 321 (0,0))).cell? ((⟨w2.heap.size,0,I⟩:Addr).add j)=O u:=by
     intro j u hu
     match j,hu with
     | 0,hu=>
      have:=Aa (Ah w2 (J #[K (O ⟨pb,0,I⟩)] 321 (0,0))) 0;simp at hu;subst hu;exact this
     | j+1,hu=>simp at hu
    have p:∀u∈([K (O ⟨pb,0,I⟩)]:List VL),u.oneCell'=true:=by simp[Value.oneCell']
    have af:k+1<=maxLen:=by
     have:maxLen=9223372036854775807:=by kernel_rfl
     have:=q1.out;omega
    have am:(k+1)*8<=140737488355328:=(by have:=q1.out;omega);have v:w.heap.size+1<=(w2.alloc (J #[K (O ⟨pb,0,I⟩)] 321 (0,0))).heap.size:=(by simp;omega);have aG:=Ac hh;replace⟨hh,t,m,hp,hw,ac,s,r⟩:=H8 hh t m hp hw ac s r;replace⟨o,p,af,am,v,ap,av⟩:=H7 o p af am v ap av;go_wp2_with (at_builtin;refine Ri _ rfl _ _ 352 rfl (w.heap.size+1) 321 aK _ 1 8 underlying352 aC aF aA aB rfl ad9 sv k _ rfl r.out ⟨w2.heap.size,0,I⟩ 1 1 [K (O ⟨pb,0,I⟩)] rfl rfl o.out p.out af.out am.out v.out ?_;intro v1 w3 f d _ y;obtain⟨g,aL,rfl⟩:=Joins.ownsRow_form f ao9;have ad:=(d.block w.heap.size (by simp;omega) (λc=>by have:=ac _ c.symm;omega)).trans ((Gd w2 _ _ aG).trans hh.out);have g3:=Aa ad 0;have f3:=Ag ad 0;simp at g3;replace⟨f,d,y,ad⟩:=H4 f d y ad);go_roundw
    case rel=>
     refine⟨k+1,_,_,by go_num,ao9,NI.step hN.out t.out (by rw[<-hx.out];exact hp.out) (by rw[<-hx.out];exact hw.out) aD aE f.out d.out y.out⟩
    case measure=>simp[intOf];omega
  .have aI:¬(k:Int)<n:=ao9;have an:k=n:=ao9;replace an:=Hh an;go_wp2;go_ret;have a:=hN.out;rw[an.out]at a;have hq:=q1.out;obtain⟨gs,aH,cap,_,hP⟩:=a.dq ao9;refine .inr ⟨ao9,λi z=>(a.node i z).2.2.2.1,w.heap.size,gs,aH,cap,q,rfl,Nat.le_refl _,hP,a.len,λi z=>⟨(a.node i z).2.1,(a.node i z).2.2.1⟩,?_,a.low⟩;rintro b ⟨i,z,h|h⟩
   .have:=(a.node i (by rw[<-a.len];exact z)).2.2.2.2.1;omega
   .have:=(a.node i (by rw[<-a.len];exact z)).2.2.2.2.2;omega
