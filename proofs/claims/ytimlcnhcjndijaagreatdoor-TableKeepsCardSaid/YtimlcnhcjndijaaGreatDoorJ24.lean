/- Parts of a proof. No condition. -/
import Derived.Test.YtimlcnhcjndijaaGreatDoorJ23
set_option linter.all false
set_option maxRecDepth 100000
set_option maxHeartbeats 12800000
namespace Go.Proofs.YtimlcnhcjndijaaGreatDoor
open Option renaming some->O,none->I
open IntKind renaming i64->G
open Value renaming int->Z,slice->V,pointer->K,tuple->E,bool->Q
open Obj renaming cells->J
open Ending renaming returned->Y
open Go renaming World->WD,Value->VL
open Go.RowKit renaming Below->BW
open Go.Proofs.Tryz
namespace Pl
open Go.RowKit
variable{after t u:Int}{bs:List Bool}{zs:List Int}{vs:List V4}{sz uc un:Nat}{po uo:Option Addr}{α β:Type}{w w' wr:WD}
structure Nk {α:Type} (cells:α->Array VL) (sz:Nat) (ok:WD->α->Prop) (w:WD) (ao:Option Addr) (n:Nat) (xs:List α):Prop where
 len:xs.length=n
 max:n<=9223372036854775807
 cell:∀i x,xs[i]?=O x->∃b off,ao=O ⟨b,off,I⟩/\b<w.heap.size/\(∀j,j<sz->w.cell? ⟨b,off+i*sz+j,I⟩=(cells x)[j]?)/\ok w x
def Nk.below  {cells:α->Array VL}  {ok:WD->α->Prop}  {f:Option Addr} {n:Nat} {xs:List α} (h:Nk cells sz ok w f n xs)
  (g:BW w.heap.size w w') (c:∀x,ok w x->ok w' x):Nk cells sz ok w' f n xs:=
 ⟨h.len,h.max,λi x o=>by
  obtain⟨b,d,e,a,k,m⟩:=h.cell i x o
  exact⟨b,d,e,Bq a g.size,λj l=>(Af g a).trans (k j l),c x m⟩⟩
def Nk.get  {cells:α->Array VL}  {ok:WD->α->Prop}  {a:Option Addr} {n:Nat} {xs:List α} (h:Nk cells sz ok w a n xs) {k:Nat} (b:k<n):∃x,xs[k]?=O x:=
 ⟨xs[k]'(by rw[h.len];exact b),A3 _⟩
structure Av where
 go:Option Addr
 gn:Nat
 gc:Nat
 dn:List Int
 v:V4
 o8:Int
abbrev Av.cells (h:Av):Array VL:=#[V h.go h.gn h.gc,Z G h.v.a,Z G h.v.b,Z G h.v.c,Z G h.v.d,Z G h.o8]
def Av.obj (h:Av):Obj:=J h.cells 261 (0,0)
structure Av.ok (w:WD) (h:Av):Prop where
 ah:At w h.go h.gn h.dn
 qg:h.gn<=h.gc
def Av.ok.below  {h:Av} (a:h.ok w) (b:BW w.heap.size w w'):h.ok w':=⟨a.ah.below b Ln,a.qg⟩
def Awj  {b:Nat} {h:Av} (e:w.heap[b]?=O h.obj):w.cell? ⟨b,0,I⟩=O (V h.go h.gn h.gc)/\w.cell? ⟨b,1,I⟩=O (Z G h.v.a)/\w.cell? ⟨b,2,I⟩=O (Z G h.v.b) /\
  w.cell? ⟨b,3,I⟩=O (Z G h.v.c)/\w.cell? ⟨b,4,I⟩=O (Z G h.v.d)/\w.cell? ⟨b,5,I⟩=O (Z G h.o8):=
 ⟨Aa e 0,Aa e 1,Aa e 2,Aa e 3,Aa e 4,Aa e 5⟩
abbrev Y3:=Nk Av.cells 6 Av.ok
def U9 {w g:WD} {a:Option Addr} {n:Nat}  {f:List Nd} (h:At w a n zs) (o:w.heap.size<=g.heap.size) (k:∀b,Bm f b->g.heap.size<=b):0<n->vw a (Bm f):=λh0 b l e i=>by
 obtain⟨m,d,c,j,_⟩:=h.cell 0 h0;rw[e]at c;cases c;have:=k b i;omega
def Df {α β:Type} (R:α->β->β->Prop):List α->β->β->Prop
 | [],p,q=>q=p
 | x :: xs,p,q=>∃m,R x p m/\Df R xs m q
def Ajw  {R:α->β->β->Prop} {xs ys:List α} {p q:β}:Df R (xs++ys) p q↔∃m,Df R xs p m/\Df R ys m q:=by
 induction xs generalizing p with
 | nil=>exact⟨λh=>⟨p,rfl,h⟩,λ⟨m,e,h⟩=>by cases e;exact h⟩
 | cons x xs ih=>
  constructor
  .rintro ⟨m,h1,d⟩;obtain⟨c,a,b⟩:=ih.1 d;exact⟨c,⟨m,h1,a⟩,b⟩
  .rintro ⟨c,⟨m,h1,a⟩,b⟩;exact⟨m,h1,ih.2 ⟨c,a,b⟩⟩
def Y4  {R:α->β->β->Prop} {xs:List α} {x:α} {p m q:β} (h:Df R xs p m) (a:R x m q):Df R (xs++[x]) p q:=Ajw.2 ⟨m,h,q,a,rfl⟩
def Oa  {xs:List α} {k:Nat} {x:α} (h:xs[k]?=O x):xs.take (k+1)=xs.take k++[x]:=by
 rw[On,h];rfl
structure Rm (ps q:List Nd):Prop where
 len:q.length=ps.length
 whole:∀i,i<ps.length->(nd q i).whole=(nd ps i).whole
 inv:∀i,i<q.length->Inv (nd q i).whole (nd q i).l
def Va  {b c cap:Nat}  {a q:List Nd} (h:je w a q) (d:Cc w' b c po cap q):Rm a q:=⟨h.len,h.whole,d.inv⟩
def Qb (ps:List Nd) (zs:List Int) (fr tt:Int) (v:V4) (r:Int) (q:List Nd):Prop:=Kw ps zs fr tt v r q/\Rm ps q
def Y5 (ps:List Nd) (zs:List Int) (fr tt:Int) (v:V4) (r:Int) (q:List Nd):Prop:=Y2 ps zs fr tt v r q/\Rm ps q
def Im (now:Int) (h:Av):Int:=max h.o8 (now+1)
def Qc (now:Int) (h:Av) (ps q:List Nd):Prop:=Qb ps h.dn now (Im now h) h.v 0 q
structure Ob (vs:List V4) (un:Nat) (now:Int):Prop where
 j8:vs.length<=16
 right:∀i,i<vs.length->(vv vs i).right=true
 up:un=vs.length
 lo:0<=now
 hi:now<1099511627776
structure Ac3 (vs:List V4) (ps:List Nd):Prop where
 len:ps.length=vs.length
 node:∀i,i<vs.length->(nd ps i).whole=vv vs i/\(nd ps i).l=[⟨0,vv vs i⟩]
 inv:∀i,i<ps.length->Inv (nd ps i).whole (nd ps i).l
def I9 (vs:List V4) (un:Nat) (now:Int) (hs:List Av) (r:Int) (q:List Nd):Prop:=
 (¬Ob vs un now/\r=1)\/(Ob vs un now/\∃ps0,Ac3 vs ps0/\((r=0/\Df (Qc now) hs ps0 q) \/
  (r≠0/\∃k h m q',hs[k]?=O h/\Df (Qc now) (hs.take k) ps0 m/\Qb m h.dn now (Im now h) h.v r q')))
def Ajx (vs:List V4) (uo:Option Addr) (un uc:Nat) (bs:List Bool) (now:Int) (hs:List Av) (w:WD) (e:Ending) (w':WD):Prop:=
 BW w.heap.size w w'/\((∃r,r≠0/\e=Y (E #[K I,Z G r])/\I9 vs un now hs r []) \/
  (∃tb gb gs cap po q,e=Y (E #[K (O ⟨tb,0,I⟩),Z G 0])/\Cc w' gb gs po cap q/\sw w' tb gb uo un uc bs now/\(∀b,Bm q b->w.heap.size<=b)/\I9 vs un now hs 0 q))
structure mo (w:WD) (tb gb gs cap:Nat) (po uo:Option Addr) (un uc:Nat) (bs:List Bool) (now:Int) (q:List Nd) (wr:WD):Prop where
 low:BW w.heap.size w wr
 dx:Cc wr gb gs po cap q
 tab:sw wr tb gb uo un uc bs now
 gi:∀b,Bm q b->w.heap.size<=b
def mo.below  {e c d cap:Nat} {po i:Option Addr} {g f:Nat}  {a:Int} {q:List Nd}  (h:mo w e c d cap po i g f bs a q wr) (b:BW wr.heap.size wr w'):mo w e c d cap po i g f bs a q w':=
 ⟨h.low.trans (b.mono h.low.size),h.dx.below b,h.tab.below b,h.gi⟩
def mo.mod  {r k l cap:Nat} {po p:Option Addr} {o s:Nat}  {g:Int} {q n:List Nd}  (h:mo w r k l cap po p o s bs g q wr) (m:0<o->∀b d,p=O ⟨b,d,I⟩->b<w.heap.size) (y:Cc w' k l po cap n) (x:je wr q n) (j:Mod (Bm q) wr w'):mo w r k l cap po p o s bs g n w':=
 ⟨Av4 h.low j h.gi h.low.size,y,⟨(j.block _ (Ab h.tab.head) (Kx h.dx h.tab.head ad9 ad9)).trans h.tab.head,h.tab.up.len,h.tab.up.max,λi v=>by
  obtain⟨b,d,e,f,u⟩:=h.tab.up.cell i v;have z:=m ao9 b d e
  exact⟨b,d,e,Bq f j.size,(By (a:=⟨b,d+i,I⟩) (w:=wr) (j.block b f (λc=>by have:=h.gi b c;omega))).trans u⟩⟩, λb t=>by
  rcases x.gi t with c|c
  .exact h.gi b c
  .exact A8 h.low.size c⟩
def Ni.lt  {d:Option Addr} {n:Nat}  (h:Ni w d n bs) (h0:0<n):∀b a,d=O ⟨b,a,I⟩->b<w.heap.size:=λb a e=>by
 obtain⟨i,g,f,c,_⟩:=h.cell 0 h0;rw[e]at f;cases f;exact c
def Awk (vo uo ho:Option Addr) (n c un uc m mc:Nat) (vs:List V4) (bs:List Bool) (f:Int) (hs:List Av) (w:WD) (hv:O9 w vo n vs) (hu:Ni w uo un bs) (hh:Y3 w ho m hs) :
  Calls prog 185 #[V vo n c,V uo un uc,Z G f,V ho m mc] w (Ajx vs uo un uc bs f hs w):=by
 have u:=hv.len;have aV:=hh.max;have aO:=λh0=>hu.lt h0;replace⟨hv,hu,hh,u,aO⟩:=H5 hv hu hh u aO;go_enter func185,ntmps185;go_wp2_with fail;refine(Awa vo n c vs w hv.out).mono ?_;rintro e w1 (⟨aL,rfl,r⟩|⟨aP,z,gb,gs,po,cap,ps,rfl,aS,y,j,s,g,r⟩)
 .have p:BW w.heap.size w (w1.alloc (J #[K I,V uo un uc,Z G f] 270 (0,0))):=r.alloc r.size _;have hrel:I9 vs un f hs 1 []:=.inl ⟨λh=>aL ⟨by rw[<-u.out];exact h.j8,λi hi=>h.right i (by rw[u.out];exact hi)⟩,rfl⟩;replace⟨aL,r,p,hrel⟩:=H4 aL r p hrel;go_wp2;go_ret2;exact⟨p.out,.inl ⟨1,ad9,rfl,hrel.out⟩⟩
 have p:BW w.heap.size w (w1.alloc (J #[K (O ⟨gb,0,I⟩),V uo un uc,Z G f] 270 (0,0))):=r.alloc r.size _
 have aB:Hid (¬Ob vs un f->Ajx vs uo un uc bs f hs w (Y (E #[K I,Z G 1])) (w1.alloc (J #[K (O ⟨gb,0,I⟩),V uo un uc,Z G f] 270 (0,0)))):=
  λh=>⟨p,.inl ⟨1,ad9,rfl,.inl ⟨h,rfl⟩⟩⟩
 by_cases q1:un=n;rotate_left
 .have d1:((un:Int) != (n:Int))=true:=by simp;omega
  have l:=aB (λh=>q1 (h.up.trans u.out));replace⟨q1,l,r,p,y,s,g,z⟩:=H8 q1 l r p y s g z;replace j:=Hh j;go_wp2;go_ret2;exact l.out
 have d1:((un:Int) != (n:Int))=false:=by simp;omega
 by_cases q2:f<0
 .have d2:decide (f<0)=true:=by simpa using q2
  have l:=aB (λh=>by have:=h.lo;omega);replace⟨q1,q2,l,r,p,y,s,g⟩:=H8 q1 q2 l r p y s g;replace⟨z,j⟩:=H2 z j;go_wp2;go_ret2;exact l.out
 have d2:decide (f<0)=false:=by simpa using q2
 by_cases q3:1099511627776<=f
 .have d3:decide (1099511627776<=f)=true:=by simpa using q3
  have l:=aB (λh=>by have:=h.hi;omega);replace⟨q1,q2,q3,l,r,p,y,s⟩:=H8 q1 q2 q3 l r p y s;replace⟨g,z,j⟩:=H3 g z j;go_wp2;go_ret2;exact l.out
 have d3:decide (1099511627776<=f)=false:=by simpa using q3
 have aF:Ob vs un f:=⟨by rw[u.out];exact aP,λi hi=>z i (by rw[<-u.out];exact hi),q1.trans u.symm,ao9,ao9⟩;have aD:Ac3 vs ps:=⟨j.trans u.symm,λi hi=>s i (by rw[<-u.out];exact hi),y.inv⟩
 have aJ:mo w w1.heap.size gb gs cap po uo un uc bs f ps (w1.alloc (J #[K (O ⟨gb,0,I⟩),V uo un uc,Z G f] 270 (0,0))):=
  ⟨p,y.below Bn,⟨Ah _ _,hu.below p Ln⟩,g⟩
 have ew:IntKind.i64.wrap (f+1)=f+1:=D4 _ ao9;clear aS aB;replace⟨q1,q2,q3,r,p,y,s,g⟩:=H8 q1 q2 q3 r p y s g;replace⟨z,j,aF,aD,aJ⟩:=H5 z j aF aD aJ;go_wp2;go_loopw [12,13,42] (λ_ _ i wr=>∃(k:Nat) (q:List Nd),i=Z G k/\k<=m/\Hid (mo w w1.heap.size gb gs cap po uo un uc bs f q wr)/\Hid (Df (Qc f) (hs.take k) ps q)) (λ_ _ i _=>m-(intOf i).toNat)
 case atStart=>exact⟨0,ps,rfl,As _,aJ.out,rfl⟩
 case round=>
  obtain⟨k,q,rfl,hk,hL,hC⟩:=hrel;by_cases hc:k<m
  .have aR:(k:Int)<m:=ao9;have aW:(0:Int)<=(k:Int):=ao9;obtain⟨x,hx⟩:=hh.get hc;obtain⟨b,aY,rfl,hb,a0,aA⟩:=hh.cell k x hx;have c0:=(Af hL.low hb).trans (a0 0 ao9);have c1:=(Af hL.low hb).trans (a0 1 ao9);have c2:=(Af hL.low hb).trans (a0 2 ao9);have c3:=(Af hL.low hb).trans (a0 3 ao9);have c4:=(Af hL.low hb).trans (a0 4 ao9);have c5:=(Af hL.low hb).trans (a0 5 ao9);simp at c0 c1 c2 c3 c4 c5;clear a0;obtain⟨T,hT⟩:=Ex (Im f x);have aX:(if x.o8<f+1 then f+1 else x.o8)=T:=(by rw[hT];unfold Im;omega);have t:mo w w1.heap.size gb gs cap po uo un uc bs f q (wr.alloc x.obj):=hL.below Bn;obtain⟨WA,ao⟩:=Ex (wr.alloc x.obj);rw[<-ao]at t;have ac:WA.heap[wr.heap.size]?=O x.obj:=by rw[ao];exact Ah _ _
   have aM:=
    λW' h=>Acy gb gs cap po q x.go x.gn x.gc x.dn f T x.v W' (t.dx.below h) (aA.ah.below (t.low.trans (h.mono t.low.size)) Ln) (U9 aA.ah Ln t.gi) aA.qg
   have t0:=Aa t.tab.head 0;simp at t0;have lt:=Ab t.tab.head;obtain⟨y0,y1,y2,y3,y4,y5⟩:=Awj ac;have lx:=Ab ac;have aN:=Kx t.dx t.tab.head ad9 ad9;have ad:=Kx t.dx ac ad9 ad9;have aC:BW WA.heap.size WA WA.drew:=(Below.refl _ _).drew;replace⟨hx,aA,hT,t,ac,aM,aN,ad⟩:=H8 hx aA hT t ac aM aN ad;replace aC:=Hh aC
   have aQ:Hid (∀w':WD,(∀b,b<WA.heap.size->¬Bm q b->∀o,w'.cell? ⟨b,o,I⟩=WA.cell? ⟨b,o,I⟩)->w'.cell? ⟨w1.heap.size,0,I⟩=O (K (O ⟨gb,0,I⟩))/\w'.cell? ⟨wr.heap.size,0,I⟩=O (V x.go x.gn x.gc)/\w'.cell? ⟨wr.heap.size,1,I⟩=O (Z G x.v.a)/\w'.cell? ⟨wr.heap.size,2,I⟩=O (Z G x.v.b)/\w'.cell? ⟨wr.heap.size,3,I⟩=O (Z G x.v.c)/\w'.cell? ⟨wr.heap.size,4,I⟩=O (Z G x.v.d)/\w'.cell? ⟨wr.heap.size,5,I⟩=O (Z G x.o8)):=
    λw' h=>⟨(h _ lt aN.out _).trans t0,(h _ lx ad.out _).trans y0,(h _ lx ad.out _).trans y1,(h _ lx ad.out _).trans y2,(h _ lx ad.out _).trans y3,(h _ lx ad.out _).trans y4,(h _ lx ad.out _).trans y5⟩
   go_wp2_with fail;have ap:wr.alloc (J x.cells 261 (0,0))=WA:=ao.symm
   try rw[ap]
   replace⟨ao,ap⟩:=H2 ao ap;clear c0 c1 c2 c3 c4 c5;go_region_held3 (λw'=>w'.cell? ⟨w1.heap.size,0,I⟩=O (K (O ⟨gb,0,I⟩))/\w'.cell? ⟨wr.heap.size,0,I⟩=O (V x.go x.gn x.gc)/\w'.cell? ⟨wr.heap.size,1,I⟩=O (Z G x.v.a)/\w'.cell? ⟨wr.heap.size,2,I⟩=O (Z G x.v.b)/\w'.cell? ⟨wr.heap.size,3,I⟩=O (Z G x.v.c)/\w'.cell? ⟨wr.heap.size,4,I⟩=O (Z G x.v.d)/\w'.cell? ⟨wr.heap.size,5,I⟩=O (Z G x.o8))
    (first
      | (go_keep;done)
      | with_reducible exact aQ.out _ aT.out)
    (first
      | (go_at_call 236;refine(aM _ aC.out).mono ?_;rintro e w8 ⟨r8,aH,rfl,aK,aG,aE,am⟩;have aT:Hid (∀b,b<WA.heap.size->¬Bm q b->∀o,w8.cell? ⟨b,o,I⟩=WA.cell? ⟨b,o,I⟩):=λb hb hn o=>By (a:=⟨b,o,I⟩) (w:=WA) (am.block b hb hn)
         replace⟨aK,aG,aE,am⟩:=H4 aK aG aE am))
   have an:=(t.below aC.out).mod aO.out aG.out aE.out am.out;have al:Qb q x.dn f (Im f x) x.v r8 aH:=⟨by rw[<-hT.out];exact aK.out,Va aE.out aG.out⟩;by_cases q5:r8=0
   .have d5:(r8 != 0)=false:=(by simpa using q5);have aI:Df (Qc f) (hs.take (k+1)) ps aH:=(by rw[Oa hx.out];exact Y4 hC.out (by rw[q5]at al;exact al));replace⟨q5,al,an,aI⟩:=H4 q5 al an aI;clear t0 lt y0 y1 y2 y3 y4 y5 lx;go_wp2;go_roundw
    case rel=>exact⟨k+1,aH,by go_num,ao9,an.out,aI.out⟩
    case measure=>simp[intOf];omega
   .have d5:(r8 != 0)=true:=(by simpa using q5);have hrel:I9 vs un f hs r8 []:=.inr ⟨aF.out,ps,aD.out,.inr ⟨q5,k,x,q,aH,hx.out,hC.out,al⟩⟩;have av:=an.low;have aU:=Hh q5;clear q5;replace⟨al,an,hrel,av⟩:=H4 al an hrel av;clear t0 lt y0 y1 y2 y3 y4 y5 lx;go_wp2;go_ret2;exact⟨av.out,.inl ⟨r8,aU.out,rfl,hrel.out⟩⟩
  .have aR:¬(k:Int)<m:=ao9;have hrel:I9 vs un f hs 0 q:=.inr ⟨aF.out,ps,aD.out,.inl ⟨rfl,by have h:=hC.out;rwa [C4 (by rw[hh.len];omega)]at h⟩⟩;replace hrel:=Hh hrel;go_wp2;go_ret2;exact⟨hL.low,.inr ⟨w1.heap.size,gb,gs,cap,po,q,rfl,hL.dx,hL.tab,hL.gi,hrel.out⟩⟩
def Ask.ok.lz  {a:Ask} (h:a.ok w) (b:BW w.heap.size w w'):a.ok w':=h.below b Ln
abbrev Y6:=Nk Ask.cells 10 (λw a=>Ask.ok w a)
structure Ax where
 id:Int
 start:Int
 go:Option Addr
 gn:Nat
 gc:Nat
 dn:List Int
abbrev Ax.cells (s:Ax):Array VL:=#[Z G s.id,Z G s.start,V s.go s.gn s.gc]
structure Ax.ok (w:WD) (s:Ax):Prop where
 ah:At w s.go s.gn s.dn
 qg:s.gn<=s.gc
def Ax.ok.below  {s:Ax} (h:s.ok w) (a:BW w.heap.size w w'):s.ok w':=⟨h.ah.below a Ln,h.qg⟩
abbrev Vb:=Nk Ax.cells 3 (λw s=>Ax.ok w s)
def Dx (now:Int) (a:Ask):Int:=max a.start now
def Mi (now:Int) (bs:List Bool) (x:Ask×Bool) (ps q:List Nd):Prop:=
 (x.1.start<0/\x.2=false/\q=ps) \/
 (0<=x.1.start/\¬Nj bs now x.1 (Dx now x.1) x.1.dn/\x.2=false/\q=ps) \/
 (0<=x.1.start/\Nj bs now x.1 (Dx now x.1) x.1.dn/\∃r,Qb ps x.1.dn (Dx now x.1) (Mg (Dx now x.1) x.1.aa) x.1.v r q/\(x.2=true↔r=0))
def Qd (now:Int) (bs:List Bool) (a:Ask) (st:Int) (zs:List Int) (ps q:List Nd):Prop:=
 (a.can=false/\st=-1/\zs=[]/\q=ps) \/
 (a.can=true/\∃t xs is,Fx ps (Bl (ji bs a.ie)) a.nodes a.v a.aa now t xs is/\(is=false->st=-1/\zs=[]/\q=ps)/\(is=true->st=t/\zs=Bl xs/\∃r,Qb ps (Bl xs) t (t+a.aa) a.v r q))
def Nl (now:Int) (bs:List Bool) (x:(Ask×Bool)×Ax) (ps q:List Nd):Prop:=
 ∃m,((x.1.2=false/\m=ps)\/(x.1.2=true/\∃r,Y5 ps x.1.1.dn (Dx now x.1.1) (Dx now x.1.1+x.1.1.aa) x.1.1.v r m))/\x.2.id=x.1.1.id/\Qd now bs x.1.1 x.2.start x.2.dn m q
structure Jv (vs:List V4) (now:Int) (bs:List Bool) (hs:List Av) (asks:List Ask) (slots:List Ax):Prop where
 go:∃ps q1 q2 st rd,I9 vs bs.length now hs 0 ps/\Df (Mi now bs) st ps q1/\st.map Prod.fst=asks/\Df (Nl now bs) rd q1 q2/\rd.map Prod.fst=st/\rd.map Prod.snd=slots
def Ajy (vs:List V4) (now:Int) (bs:List Bool) (hs:List Av) (asks:List Ask) (w:WD) (e:Ending) (w':WD):Prop:=
 BW w.heap.size w w'/\((∃r,r≠0/\e=Y (E #[V I 0 0,Z G r])/\I9 vs bs.length now hs r []) \/
  (∃so sc slots,e=Y (E #[V so asks.length sc,Z G 0])/\Jv vs now bs hs asks slots/\Vb w' so asks.length slots/\asks.length<=sc/\(∀b off,so=O ⟨b,off,I⟩->w.heap.size<=b)/\∀s,s∈slots->∀b off,s.go=O ⟨b,off,I⟩->w.heap.size<=b))
def Awl  {R:α->β->β->Prop} {xs:List α} {p q:β} (h:Df R xs p q) {x:α} (a:x∈xs):∃c d,R x c d:=by
 induction xs generalizing p with
 | nil=>cases a
 | cons y ys ih=>
  obtain⟨m,h1,b⟩:=h;rcases Fm.1 a with rfl|a
  .exact ⟨p,m,h1⟩
  .exact ih b a
def Awm {fr a:Int} {v:V4} (h:Bb fr (Mg fr a) v=true):Mg fr a=fr+a/\0<=fr/\fr<fr+a/\fr+a<=1099511627776:=by
 obtain⟨c,d,b,e⟩:=Nc h;unfold Mg at *
 split at b<;>simp_all<;>omega
def Ajz {b:Int}  {a:Ask} {g q:List Nd} (h:Mi b bs (a,true) g q):Nj bs b a (Dx b a) a.dn/\Cy g.length a.dn/\Bb (Dx b a) (Dx b a+a.aa) a.v=true /\
  Qb g a.dn (Dx b a) (Dx b a+a.aa) a.v 0 q:=by
 rcases h with⟨_,h,_⟩|⟨_,_,h,_⟩|⟨_,h1,r,i,k⟩
 .cases h
 .cases h
 .have l:=k.1 rfl;subst l;have d:=i;rcases i.1 with⟨_,c,_⟩|⟨_,_,_,c,_⟩|⟨j,f,_⟩
  .cases c
  .cases c
  .have e:=(Awm f).1;rw[e]at f d;exact⟨h1,j,f,d⟩
def Aw  (cells:α->Array VL) (xs:List α):List VL:=xs.flatMap λx=>(cells x).toList
def Ox  (cells:α->Array VL) (xs ys:List α):Aw cells (xs++ys)=Aw cells xs++Aw cells ys:=by simp[Aw]
def Q3  (cells:α->Array VL) (x:α):Aw cells [x]=(cells x).toList:=by simp[Aw]
def Gw  {cells:α->Array VL}  (a:∀x,(cells x).size=sz) (xs:List α) {i j:Nat} {x:α} (b:xs[i]?=O x) (f:j<sz):(Aw cells xs)[i*sz+j]?=(cells x)[j]?:=by
 induction xs generalizing i with
 | nil=>simp at b
 | cons y ys ih=>
  have d:=a y;rw[show Aw cells (y :: ys)=(cells y).toList++Aw cells ys from by simp[Aw]]
  cases i with
  | zero=>
   have e:x=y:=(by simpa using b.symm);subst e;rw[Fb (by simp;omega)];simp
  | succ i=>
   have c:ys[i]?=O x:=(by simpa using b);rw[Ia (by simp[d,Mv];omega)];have:=ih c;rw[show(i+1)*sz+j-(cells y).toList.length=i*sz+j by simp[d,Mv];omega,this]
def Awn  {cells:α->Array VL}  (b:∀x,(cells x).size=sz) {ok:WD->α->Prop}  {base g cap:Nat} {T:TypeId} {xs:List α} {n:Nat} (h:w.ownsRow base T sz (V (O ⟨g,0,I⟩) n cap) n (Aw cells xs)) (e:xs.length=n)
  (a:n<=9223372036854775807) (f:∀x,x∈xs->ok w x):Nk cells sz ok w (O ⟨g,0,I⟩) n xs:=by
 refine⟨e,a,λi x c=>?_⟩;have k:=(An.1 c).1;refine⟨g,0,rfl,(h.lt g rfl).2,λj d=>?_,f x (Ai c)⟩
 rw[Db,F0 h (i*sz+j) (by
  have:(i+1)*sz<=n*sz:=T5 _ ao9;rw[Mv]at this
  omega),Gw b xs c d]
def Aj0:(prog.info? 224).map (λi=>(i.zero,i.size,i.bytes))=O (O (.agg #[Z G 0,Z G 0,V I 0 0]),3,40):=by kernel_rfl
def Awo:(prog.info? 4).map (λi=>(i.zero,i.size,i.bytes))=O (O (Q false),1,1):=by kernel_rfl
def Awp (n:Nat):madeCells (Value.bool false).cells n=(List.replicate n (Q false)).toArray:=by
 apply Aa2.1;apply Eh;intro j;by_cases a:j<n
 .simp [madeCells,Value.cells,a,Nat.mod_one]
 .simp [madeCells,Value.cells,a]
def Aj1 (n:Nat) (d:n<=1000000):∀w:WD,(Instr.makeSlice 216 (Z G (n:Int)) (Z G (n:Int))).run prog w=.ok (V (O ⟨w.heap.size,0,I⟩) n n) (w.alloc (J (Array.replicate n (Q false)) 4 (0,0))):=by
 intro w;obtain⟨i,b,c,h1,a⟩:=Cf Awo;have:=run_make (P:=prog) w 216 4 i _ underlying216 b c G G n n ao9 ao9 (by rw[a];omega) ao9;rw[this];simp only[K7,h1,Sh];rw[Awp,Aai]
def Awq (n:Nat) (d:n<=1000000):∀w:WD,(Instr.makeSlice 217 (Z G 0) (Z G (n:Int))).run prog w=.ok (V (O ⟨w.heap.size,0,I⟩) 0 n) (w.alloc (J (madeCells (Value.agg #[Z G 0,Z G 0,V I 0 0]).cells (n*3)) 224 (0,0))):=by
 intro w;obtain⟨i,b,c,h1,a⟩:=Cf Aj0;have:=run_make (P:=prog) w 217 224 i _ Aau b c G G 0 n ao9 ao9 (by rw[a];omega) ao9;rw[this];simp only[K7,Int.toNat_zero,h1]
structure oc (w:WD) (tb gb gs cap:Nat) (po uo:Option Addr) (un uc:Nat) (bs:List Bool) (now:Int) (q:List Nd) (kb:Nat) (ks:List VL) (wr:WD):Prop where
 la:mo w tb gb gs cap po uo un uc bs now q wr
 kept:wr.heap[kb]?=O (J ks.toArray 4 (0,0))
 kw:w.heap.size<=kb
def oc.below  {g b c cap:Nat} {po k:Option Addr} {j i:Nat}  {a:Int} {q:List Nd} {e:Nat} {f:List VL}  (h:oc w g b c cap po k j i bs a q e f wr) (d:BW wr.heap.size wr w'):oc w g b c cap po k j i bs a q e f w':=
 ⟨h.la.below d,Ae d h.kept (Ab h.kept),h.kw⟩
def oc.mod  {n c d cap:Nat} {po j:Option Addr} {i o:Nat}  {a:Int} {q g:List Nd} {l:Nat} {m:List VL}  (h:oc w n c d cap po j i o bs a q l m wr) (e:0<i->∀b f,j=O ⟨b,f,I⟩->b<w.heap.size) (r:Cc w' c d po cap g) (p:je wr q g) (k:Mod (Bm q) wr w'):oc w n c d cap po j i o bs a g l m w':=
 ⟨h.la.mod e r p k,(k.block _ (Ab h.kept) (Kx h.la.dx h.kept ad9 ad9)).trans h.kept,h.kw⟩
def mo.setOther  {tb r m cap:Nat}    {l:Int} {q:List Nd}  {b o:Nat} {x:Array VL} {T:TypeId} {v:VL} (h:mo w tb r m cap po uo un uc bs l q wr) (n:wr.heap[b]?=O (J x T (0,0)))
  (h1:T≠363) (s:T≠398) (h3:T≠354) (h4:T≠270) (hw:w.heap.size<=b) (ad:0<un->∀b f,uo=O ⟨b,f,I⟩->b<w.heap.size) (k:∀(i:Nat) (u:VL),x[i]?=O u->∀p:Addr,u≠Value.pointer (O p)) :
  mo w tb r m cap po uo un uc bs l q (wr.setCell ⟨b,o,I⟩ v):=by
 have d:∀c,c≠b->(wr.setCell ⟨b,o,I⟩ v).heap[c]?=wr.heap[c]?:=λc t=>C1 _ _ _ _ t;have hm:=Kx h.dx n h1 s;have g:=h.dx
 have y:r≠b:=λe=>by have:=g.head;rw[e,n]at this;simp at this;exact h3 this.2
 have ac:tb≠b:=λe=>by have:=h.tab.head;rw[e,n]at this;simp at this;exact h4 this.2
 refine⟨h.low.setCell hw _,⟨(d _ y).trans g.head,g.addr,λi j=>?_,λi j=>?_,g.inv,g.apart,g.own,g.j8⟩,⟨(d _ ac).trans h.tab.head,h.tab.up.len,h.tab.up.max,λi j=>?_⟩,h.gi⟩
 .have s:m≠b:=λe=>by
   have:=g.ptr i j;rw[e,Aa n i]at this;exact k i _ this _ rfl
  exact(By (a:=⟨m,i,I⟩) (w:=wr) (d _ s)).trans (g.ptr i j)
 .have hq:=g.gj i j;exact⟨(d _ (λe=>hm ⟨i,j,.inl e.symm⟩)).trans hq.head,hq.row.of_block (d _ (λe=>hm ⟨i,j,.inr e.symm⟩)),hq.ne⟩
 .obtain ⟨c,f,e,z,t⟩:=h.tab.up.cell i j;have:=ad ao9 c f e;exact⟨c,f,e,by simpa[World.setCell]using z,(By (a:=⟨c,f+i,I⟩) (w:=wr) (d c ao9)).trans t⟩
def Awr (st:List (Ask×Bool)) (a:Ask) (b:Bool) (m k:Nat) (f:k<m) (e:st.length=k) :
  ((st.map λx=>Value.bool x.2)++List.replicate (m-k) (Value.bool false)).toArray.setIfInBounds k (Q b)=(((st++[(a,b)]).map λx=>Value.bool x.2)++List.replicate (m-(k+1)) (Value.bool false)).toArray:=by
 obtain⟨d,c⟩:∃d,m-k=d+1:=⟨m-k-1,ao9⟩;rw[c,show m-(k+1)=d by omega,List.replicate_succ];apply Aa2.1;simp[e]
def Aws (st:List (Ask×Bool)) (d:Nat):∀(i:Nat) (u:VL),((st.map λx=>Value.bool x.2)++List.replicate d (Value.bool false)).toArray[i]?=O u->∀p:Addr,u≠Value.pointer (O p):=by
 intro i u a p e;rw[Mo]at a;rcases Dl.1 (Ai a)with h|h
 .obtain ⟨_,_,rfl⟩:=A5.1 h;cases e
 .rw [(Wp.1 h).2]at e;cases e
def Ac4 (w:WD) (cs:Array VL) (T:TypeId):∀j u,cs.toList[j]?=O u->(w.alloc (J cs T (0,0))).cell? ((⟨w.heap.size,0,I⟩:Addr).add j)=O u:=by
 intro j u a;rw[Xh,Db,Aa (Ah w _) j];simpa using a
def Aj2 (s:Ax):∀u∈s.cells.toList,u.oneCell'=true:=by
 simp[Value.oneCell']
def If {n:Nat} (h:n<=1000000):n+1<=maxLen:=by
 have:maxLen=9223372036854775807:=by kernel_rfl
 omega
def Awt (s:Ax):s.cells.size=3:=rfl
def Aj3:0<3:=Iy _
def mo.other  {tb p m cap:Nat}    {l:Int} {q:List Nd}  {b:Nat} {x:Array VL} {T:TypeId} (h:mo w tb p m cap po uo un uc bs l q wr) (r:wr.heap[b]?=O (J x T (0,0)))
  (h1:T≠363) (h2:T≠398) (h3:T≠354) (h4:T≠270) (hw:w.heap.size<=b) (z:0<un->∀b g,uo=O ⟨b,g,I⟩->b<w.heap.size) (v:0<q.length->m≠b) (t:wr.grownBy w' (O b)) :
  mo w tb p m cap po uo un uc bs l q w':=by
 have d:∀c,c<wr.heap.size->c≠b->w'.heap[c]?=wr.heap[c]?:=λc n s=>t.block c n (λe=>s (by cases e;rfl));have hm:=Kx h.dx r h1 h2;have f:=h.dx
 have u:p≠b:=λe=>by have:=f.head;rw[e,r]at this;simp at this;exact h3 this.2
 have y:tb≠b:=λe=>by have:=h.tab.head;rw[e,r]at this;simp at this;exact h4 this.2
 refine⟨h.low.grown t h.low.size (λc e=>by cases e;exact hw),⟨(d _ (Ab f.head) u).trans f.head,f.addr,λi j=>?_,λi j=>?_,f.inv,f.apart,f.own,f.j8⟩,⟨(d _ (Ab h.tab.head) y).trans h.tab.head,h.tab.up.len,h.tab.up.max,λi j=>?_⟩,h.gi⟩
 .exact (By (a:=⟨m,i,I⟩) (w:=wr) (d _ (f.tf ao9) (v ao9))).trans (f.ptr i j)
 .have o:=f.gj i j;have n:=o.lt;exact⟨(d _ n.1 (λe=>hm ⟨i,j,.inl e.symm⟩)).trans o.head,o.row.of_block (d _ n.2 (λe=>hm ⟨i,j,.inr e.symm⟩)),o.ne⟩
 .obtain ⟨c,g,e,k,s⟩:=h.tab.up.cell i j;have:=z ao9 c g e;exact⟨c,g,e,Bq k t.size,(By (a:=⟨c,g+i,I⟩) (w:=wr) (d c k ao9)).trans s⟩
structure ly (w:WD) (gs g cp k:Nat) (sl:List Ax) (q:List Nd) (wr:WD):Prop where
 own:wr.ownsRow w.heap.size 224 3 (V (O ⟨g,0,I⟩) k cp) k (Aw Ax.cells sl)
 len:sl.length=k
 ok:∀s,s∈sl->Ax.ok wr s/\∀b off,s.go=O ⟨b,off,I⟩->w.heap.size<=b/\b<wr.heap.size/\¬Bm q b/\b≠g
 gs:0<q.length->gs≠g
def ly.au  {d g b k:Nat} {f:List Ax} {q:List Nd}  (h:ly w d g b k f q wr):∃a,wr.heap[g]?=O (J a 224 (0,0)):=by
 rcases h.own.2 with⟨c,_⟩|⟨i,cap,a,e,_,h,_⟩
 .cases c
 .cases e;exact⟨a,h⟩
def ly.below  {f g d k:Nat} {j:List Ax} {q:List Nd}  (h:ly w f g d k j q wr) (a:BW wr.heap.size wr w'):ly w f g d k j q w':=
 ⟨Awb h.own a Ln,h.len,λs i=>⟨(h.ok s i).1.below a,λb c e=>by obtain⟨l,m,n,o⟩:=(h.ok s i).2 b c e;exact⟨l,Bq m a.size,n,o⟩⟩,h.gs⟩
def ly.mod  {j g i k:Nat} {n:List Ax} {q m:List Nd}  (h:ly w j g i k n q wr) (t:¬Bm q g) (l:je wr q m) (f:Mod (Bm q) wr w'):ly w j g i k n m w':=by
 refine⟨Ac1 h.own λc e=>?_,h.len,λs d=>⟨⟨(h.ok s d).1.ah.mod f (λ_ b a e=>((h.ok s d).2 b a e).2.2.1),(h.ok s d).1.qg⟩,λb a e=>?_⟩,λh0=>h.gs (by rw[l.len]at h0;exact h0)⟩
 .cases e;exact f.block _ (h.own.lt g rfl).2 t
 .obtain ⟨h1,r,o,p⟩:=(h.ok s d).2 b a e;refine⟨h1,Bq r f.size,λc=>?_,p⟩;rcases l.gi c with c|c
  .exact o c
  .omega
def Rl.found {i q:List Nd}  {f st:Int} {a:Ask} {so:Option Addr} {j:Nat}  (h:Rl i bs f a st so j q w) (o:Rm i q):∃zs,Qd f bs a st zs i q/\At w so j zs/\(∀b d,so=O ⟨b,d,I⟩->0<j):=by
 rcases h with⟨c,rfl,rfl,rfl,rfl⟩|⟨c,t,xs,is,g,l,m⟩
 .exact ⟨[],.inl ⟨c,rfl,rfl,rfl⟩,U7 w,λb d e=>by cases e⟩
 .cases is with
  | false=>
   obtain⟨rfl,rfl,rfl,rfl⟩:=l rfl;exact⟨[],.inr ⟨c,t,xs,false,g,λ_=>⟨rfl,rfl,rfl⟩,λh=>by cases h⟩,U7 w,λb d e=>by cases e⟩
  | true=>
   obtain⟨rfl,k,r,n⟩:=m rfl;refine⟨Bl xs,.inr ⟨c,st,xs,true,g,λh=>(by cases h),λ_=>⟨rfl,rfl,r,n,o⟩⟩,k,λb d e=>?_⟩;have:=g.found.len;have:=g.found.many1;have:=k.len;simp[Bl]at this;omega
def ly.snoc  {r g cp k m f:Nat} {z:List Ax} {q:List Nd} {wr n:WD} {s:Ax} {gb cap:Nat}  (h:ly w r g cp k z q wr) (hp:Cc wr gb r po cap q) (hs:s.ok wr) (y:∀b d,s.go=O ⟨b,d,I⟩->w.heap.size<=b/\b<wr.heap.size/\¬Bm q b/\b≠g)
  (o:n.ownsRow w.heap.size 224 3 (V (O ⟨m,0,I⟩) (k+1) f) (k+1) (Aw Ax.cells z++s.cells.toList)) (hg:(wr.alloc (J s.cells 224 (0,0))).grownBy n (O g)) (hb:(Value.slice (O ⟨m,0,I⟩) (k+1) f).ownBlock=(Value.slice (O ⟨g,0,I⟩) k cp).ownBlock\/(Value.slice (O ⟨m,0,I⟩) (k+1) f).ownBlock=O (wr.alloc (J s.cells 224 (0,0))).heap.size) :
  ly w r m f (k+1) (z++[s]) q n:=by
 have ac:m=g\/m=wr.heap.size+1:=by
  rcases hb with e|e
  .left;simpa[Value.ownBlock]using e
  .right;simpa[Value.ownBlock]using e
 have v:∀c,c<wr.heap.size->c≠g->n.heap[c]?=wr.heap[c]?:=λc hl t=>(hg.block c (by simp;omega) (λe=>t (by cases e;rfl))).trans (Iv wr _ c hl);have ad:wr.heap.size+1<=n.heap.size:=by have:=hg.size;simpa using this
 have l:∀x:Ax,x.ok wr->(∀b d,x.go=O ⟨b,d,I⟩->w.heap.size<=b/\b<wr.heap.size/\¬Bm q b/\b≠g)->Ax.ok n x/\∀b d,x.go=O ⟨b,d,I⟩->w.heap.size<=b/\b<n.heap.size/\¬Bm q b/\b≠m:=λx j p=>by
  refine⟨⟨⟨j.ah.len,j.ah.max,λi hi=>?_⟩,j.qg⟩,λb d e=>?_⟩
  .obtain ⟨b,d,e,u,t⟩:=j.ah.cell i hi;have h1:=p b d e;exact⟨b,d,e,ao9,(By (a:=⟨b,d+i,I⟩) (w:=wr) (v b u h1.2.2.2)).trans t⟩
  .have h1:=p b d e;exact⟨h1.1,ao9,h1.2.2.1,ao9⟩
 refine⟨by rw[Ox,Q3];exact o,by simp[h.len],λx j=>?_,λh0=>?_⟩
 .rcases Dl.1 j with j|j
  .exact l x (h.ok x j).1 (h.ok x j).2
  .have:x=s:=by simpa using j
   subst this;exact l x hs y
 .have:=h.gs h0;have:=hp.tf h0;omega
def Aj4  {xs:List α} {k:Nat} (h:xs.length=k) (x:α):(xs++[x]).length=k+1:=by simp[h]
def Aj5  {n j m cap g o e l k:Nat} {po i:Option Addr}  {a:Int} {q:List Nd} {st:List (Ask×Bool)} {x:Ask} {b:Bool}
  (h:oc w n j m cap po i g o bs a q e ((st.map λx=>Value.bool x.2)++List.replicate (l-k) (Q false)) wr) (p:k<l) (c:st.length=k) (d:0<g->∀b f,i=O ⟨b,f,I⟩->b<w.heap.size) :
  oc w n j m cap po i g o bs a q e (((st++[(x,b)]).map λx=>Value.bool x.2)++List.replicate (l-(k+1)) (Q false)) (wr.setCell ⟨e,k,I⟩ (Q b)):=by
 refine⟨h.la.setOther h.kept ad9 ad9 ad9 ad9 h.kw d (Aws _ _),?_,h.kw⟩;rw[<-Awr st x b l k p c];exact Ap h.kept k _
def Aj6  {f d e cap i g c l k:Nat} {po j:Option Addr}  {b:Int} {q:List Nd} {st:List (Ask×Bool)}
  (h:oc w f d e cap po j i g bs b q c ((st.map λx=>Value.bool x.2)++List.replicate (l-k) (Q false)) wr) (m:k<l) (a:st.length=k):wr.cell? ⟨c,k,I⟩=O (Q false):=by
 rw[Aa h.kept k,Mo,Ia (by simp;omega)];simp only[Ar,a,Nat.sub_self,List.getElem?_replicate];rw[Ad ao9]
def Ask.ok.vh {w wr d:WD} {i f g cap k j:Nat} {po l:Option Addr}  {a:Int} {x:Ask} {q:List Nd} {e:WD} (h:x.ok wr) (c:Mod (Bm q) wr d) (h0:x.ok w) (b:mo w i f g cap po l k j bs a q e):x.ok d:=
 ⟨h.places.mod c (U9 h0.places Ln b.gi),h.lr,h.ah.mod c (U9 h0.ah Ln b.gi),h.qg⟩
def Awu (vo uo ho ao:Option Addr) (n c un uc m mc l lc:Nat) (vs:List V4) (bs:List Bool) (t:Int) (hs:List Av) (aQ:List Ask) (w:WD) (hv:O9 w vo n vs) (hu:Ni w uo un bs) (hh:Y3 w ho m hs) (ha:Y6 w ao l aQ) (hl:l<=1000000) :
  Calls prog 136 #[V vo n c,V uo un uc,Z G t,V ho m mc,V ao l lc] w (Ajy vs t bs hs aQ w):=by
 have aT:=λh0=>hu.lt h0;have bl:=Awk vo uo ho n c un uc m mc vs bs t hs w hv hu hh;have bD:=hu.len;have a9:=ha.len;have cy:=Aj1 l hl;have cA:=Awq l hl;obtain⟨cc,bK,bL,bw,bx⟩:=Cf Aj0;replace⟨hv,hu,hh,ha,aT,bl,bD,a9⟩:=H8 hv hu hh ha aT bl bD a9;go_enter func136,ntmps136;go_wp2_with fail;refine bl.mono ?_;rintro e w1 ⟨aV,⟨r,hr,rfl,hrel⟩|⟨tb,gb,gs,cap,po,q0,rfl,bY,b2,bW,aO⟩⟩
 .have d:(r != 0)=true:=by simpa using hr
  replace⟨hrel,aV,hr⟩:=H3 hrel aV hr;go_wp2;go_ret2;exact⟨aV.out,.inl ⟨r,hr.out,rfl,by rw[bD.out];exact hrel.out⟩⟩
 have bo:Ob vs un t:=by
  rcases aO with⟨_,h⟩|⟨h,_⟩
  .cases h
  .exact h
 have aS:un<=1000000:=by have:=bo.up;have:=bo.j8;omega
 have bn:=bo.lo;obtain⟨WK,bQ⟩:=Ex (w1.alloc (J (Array.replicate l (Q false)) 4 (0,0)));have bj:BW w1.heap.size w1 WK:=by rw[bQ];exact Bn
 have bN:oc w tb gb gs cap po uo un uc bs t q0 w1.heap.size (List.replicate l (Q false)) WK:=
  ⟨(mo.mk aV bY b2 bW).below bj,by rw[bQ,Aai];exact Ah _ _,aV.size⟩
 replace⟨aO,aV,bY,b2,bW,bo,aS,bN⟩:=H8 aO aV bY b2 bW bo aS bN;replace⟨bj,bn⟩:=H2 bj bn;go_wp2;go_loopw [15,16,37] (λ_ _ i wr=>∃(k:Nat) (q:List Nd) (st:List (Ask×Bool)),i=Z G k/\k<=l/\Hid (oc w tb gb gs cap po uo un uc bs t q w1.heap.size ((st.map λx=>Value.bool x.2)++List.replicate (l-k) (Q false)) wr)/\Hid (st.length=k)/\Hid (st.map Prod.fst=aQ.take k)/\Hid (Df (Mi t bs) st q0 q)) (λ_ _ i _=>l-(intOf i).toNat)
 case atStart=>exact⟨0,q0,[],rfl,As _,bQ▸bN.out,rfl,rfl,rfl⟩
 case round=>
  obtain⟨k,q,st,rfl,hk,hP,aP,cb,hC⟩:=hrel;by_cases hc:k<l
  .have ci:(k:Int)<l:=ao9;have cD:(0:Int)<=(k:Int):=ao9;obtain⟨x,hx⟩:=ha.get hc;obtain⟨b,aC,rfl,hb,a0,aB⟩:=ha.cell k x hx;have f:=hP.la.low;have c0:=(Af f hb).trans (a0 0 ao9);have c1:=(Af f hb).trans (a0 1 ao9);have c2:=(Af f hb).trans (a0 2 ao9);have c3:=(Af f hb).trans (a0 3 ao9);have c4:=(Af f hb).trans (a0 4 ao9);have c5:=(Af f hb).trans (a0 5 ao9);have c6:=(Af f hb).trans (a0 6 ao9);have c7:=(Af f hb).trans (a0 7 ao9);have c8:=(Af f hb).trans (a0 8 ao9);have c9:=(Af f hb).trans (a0 9 ao9);simp at c0 c1 c2 c3 c4 c5 c6 c7 c8 c9;clear a0;have p:oc w tb gb gs cap po uo un uc bs t q w1.heap.size ((st.map λx=>Value.bool x.2)++List.replicate (l-k) (Q false)) (wr.alloc x.obj):=hP.below Bn;have ad:(wr.alloc x.obj).heap[wr.heap.size]?=O x.obj:=Ah _ _
   have bc:∀b,(st++[(x,b)]).map Prod.fst=aQ.take (k+1):=λb=>by rw[Oa hx,<-cb.out];simp
   by_cases qs:x.start<0
   .have d:decide (0<=x.start)=false:=(by simp;omega);have a2:=(Aj5 (x:=x) (b:=false) hP.out hc aP.out aT.out).below ((Below.refl _ _).alloc Ln x.obj);have aL:Df (Mi t bs) (st++[(x,false)]) q0 q:=Y4 hC.out (.inl ⟨qs,rfl,rfl⟩);have kf:=Ag hP.kept k;have kc:=Aj6 hP.out hc aP.out;have lk:=Ab hP.kept;replace⟨a2,aL,p,ad,bc,qs,aB,hx⟩:=H8 a2 aL p ad bc qs aB hx;replace f:=Hh f;go_wp2;go_roundw
    case rel=>exact⟨k+1,q,st++[(x,false)],by go_num,ao9,a2.out,Aj4 aP.out _,bc _,aL.out⟩
    case measure=>simp[intOf];omega
   .have d:decide (0<=x.start)=true:=(by simp;omega);obtain⟨F,hF⟩:=Ex (Dx t x);have cv:(if x.start<t then t else x.start)=F:=(by rw[hF];unfold Dx;omega);have b3:=Awi gb gs cap po q tb un uc uo bs t x F x.go x.gn x.gc x.dn (wr.alloc x.obj) p.la.dx p.la.tab ((aB.lz p.la.low).places) aS.out ((aB.lz p.la.low).ah) (U9 aB.ah Ln p.la.gi) aB.qg bn.out;have bH:0<=x.start:=ao9;replace⟨p,ad,bc,qs,bH,aB,hx,f⟩:=H8 p ad bc qs bH aB hx f;replace⟨b3,hF⟩:=H2 b3 hF;go_wp2_with fail;refine b3.mono ?_;rintro e w3 ⟨bk,q2,rfl,bF,bE,bX,aZ⟩;have a7:=p.mod aT.out bF bE bX;have bV:=Va bE bF;have a2:=Aj5 (x:=x) (b:=bk) a7 hc aP.out aT.out
    have aL:Df (Mi t bs) (st++[(x,bk)]) q0 q2:=Y4 hC.out (by
     rw[hF.out]at aZ;rcases aZ with⟨h1,h2,h3⟩|⟨h1,r,h2,h3⟩
     .exact .inr (.inl ⟨bH.out,h1,h2,h3⟩)
     .exact .inr (.inr ⟨bH.out,h1,r,⟨h2,bV⟩,h3⟩))
    have kf:=Ag a7.kept k;have kc:=Aj6 a7 hc aP.out;have lk:=Ab a7.kept;clear c0 c1 c2 c3 c4 c5 c6 c7 c8 c9 aZ;replace⟨a2,aL,a7,bV,bF,bE,bX⟩:=H7 a2 aL a7 bV bF bE bX;go_wp2;go_roundw
    case rel=>exact⟨k+1,q2,st++[(x,bk)],by go_num,ao9,a2.out,Aj4 aP.out _,bc _,aL.out⟩
    case measure=>simp[intOf];omega
  .have ci:¬(k:Int)<l:=ao9;have cm:k=l:=ao9;subst cm;have a6:st.map Prod.fst=aQ:=(by rw[cb.out,C4 (by rw[a9.out];omega)]);obtain⟨WS,bC⟩:=Ex (wr.alloc (J (madeCells (Value.agg #[Z G 0,Z G 0,V I 0 0]).cells (k*3)) 224 (0,0)));have bO:oc w tb gb gs cap po uo un uc bs t q w1.heap.size ((st.map λx=>Value.bool x.2)++List.replicate (k-k) (Q false)) WS:=by rw[bC];exact hP.below Bn
   have bP:ly w gs wr.heap.size k 0 [] q WS:=by
    rw[bC];have co:k<=maxLen:=(by have:=If (n:=k) ao9;omega);refine⟨World.ownsRow_made _ _ k hP.la.low.size co (size_madeCells _ _),rfl,λs hs=>(by cases hs),λh0=>by have:=hP.la.dx.tf h0;omega⟩
   obtain⟨Q1,bB⟩:=Ex (q);rw[<-bB]at hC;replace⟨a6,bO,bP,bB⟩:=H4 a6 bO bP bB;go_wp2;go_loopw [17,18,19,20,65] (λsv _ _ _ i wr=>∃(j:Nat) (q:List Nd) (g cp:Nat) (sl:List Ax) (rd:List ((Ask×Bool)×Ax)),sv=V (O ⟨g,0,I⟩) j cp/\i=Z G j/\j<=k/\Hid (oc w tb gb gs cap po uo un uc bs t q w1.heap.size ((st.map λx=>Value.bool x.2)++List.replicate (k-k) (Q false)) wr)/\Hid (ly w gs g cp j sl q wr)/\Hid (rd.map Prod.fst=st.take j)/\Hid (rd.map Prod.snd=sl)/\Hid (Df (Nl t bs) rd Q1 q)) (λ_ _ _ _ i _=>k-(intOf i).toNat)
   case atStart=>exact⟨0,q,_,_,[],[],rfl,rfl,As _,bC▸bO.out,bC▸bP.out,rfl,rfl,bB.symm⟩
   case round=>
    obtain⟨j,q2,g,cp,sl,rd,rfl,rfl,hj,bf,b7,b9,ca,aL⟩:=hrel;by_cases bS:j<k
    .have cj:(j:Int)<k:=ao9;have cC:(0:Int)<=(j:Int):=ao9;obtain⟨x,hx⟩:=ha.get bS;obtain⟨b,aC,rfl,hb,a0,aB⟩:=ha.cell j x hx;have f:=bf.la.low;have c0:=(Af f hb).trans (a0 0 ao9);have c1:=(Af f hb).trans (a0 1 ao9);have c2:=(Af f hb).trans (a0 2 ao9);have c3:=(Af f hb).trans (a0 3 ao9);have c4:=(Af f hb).trans (a0 4 ao9);have c5:=(Af f hb).trans (a0 5 ao9);have c6:=(Af f hb).trans (a0 6 ao9);have c7:=(Af f hb).trans (a0 7 ao9);have c8:=(Af f hb).trans (a0 8 ao9);have c9:=(Af f hb).trans (a0 9 ao9);simp at c0 c1 c2 c3 c4 c5 c6 c7 c8 c9;clear a0
     obtain⟨bk,bR⟩:∃bk,st[j]?=O (x,bk):=by
      have h1:j<st.length:=(by rw[aP.out];exact bS);refine⟨st[j].2,?_⟩;have h2:(st.map Prod.fst)[j]?=O x:=(by rw[a6.out];exact hx);rw[A7,A3 h1]at h2;rw[A3 h1];simp at h2;rw[<-h2]
     have p:=bf.below ((Below.refl _ _).alloc Ln x.obj);have aX:=b7.below ((Below.refl _ _).alloc Ln x.obj);have ad:(wr.alloc x.obj).heap[wr.heap.size]?=O x.obj:=Ah _ _;have bd:=aB.lz p.la.low
     have b1:∀s,(rd++[((x,bk),s)]).map Prod.fst=st.take (j+1):=λs=>by rw[Oa bR,<-b9.out];simp
     have b0:∀s,(rd++[((x,bk),s)]).map Prod.snd=sl++[s]:=λs=>by rw[<-ca.out];simp
     have kc:wr.cell? ⟨w1.heap.size,j,I⟩=O (Q bk):=(by rw[Aa bf.kept j,Mo,Fb (by simp[aP.out];exact bS),A7,bR];rfl);have lk:=Ab bf.kept;obtain⟨F,hF⟩:=Ex (Dx t x);have cv:(if x.start<t then t else x.start)=F:=by rw[hF];unfold Dx;omega
     have ba:∀(wq:WD) (q:List Nd),Cc wq gb gs po cap q->ly w gs g cp j sl q wq->¬Bm q g:=λwq q h1 h2=>by
      obtain⟨b5,h3⟩:=h2.au;exact Kx h1 h3 ad9 ad9
     replace⟨p,aX,ad,bd,b1,b0,hF,ba⟩:=H8 p aX ad bd b1 b0 hF ba;replace⟨hx,aB,f⟩:=H3 hx aB f
     have bJ:Hid (∀(wm w8 w9:WD) (qm q8:List Nd) (ac:Int) (u:Option Addr) (y z g9 am:Nat),
      oc w tb gb gs cap po uo un uc bs t qm w1.heap.size ((st.map λx=>Value.bool x.2)++List.replicate (k-k) (Q false)) wm->ly w gs g cp j sl qm wm->((bk=false/\qm=q2)\/(bk=true/\∃r,Y5 q2 x.dn F (F+x.aa) x.v r qm)) ->
      Cc w8 gb gs po cap q8->je wm qm q8->Mod (Bm qm) wm w8->y<=z->(∀b aC,u=O ⟨b,aC,I⟩->wm.heap.size<=b/\¬Bm q8 b)->Rl qm bs t x ac u y q8 w8 ->
      w9.ownsRow w.heap.size 224 3 (V (O ⟨g9,0,I⟩) (j+1) am) (j+1) (Aw Ax.cells sl++[Z G x.id,Z G ac,V u y z])->(w8.alloc (J #[Z G x.id,Z G ac,V u y z] 224 (0,0))).grownBy w9 (O g) ->
      ((Value.slice (O ⟨g9,0,I⟩) (j+1) am).ownBlock=(Value.slice (O ⟨g,0,I⟩) j cp).ownBlock\/(Value.slice (O ⟨g9,0,I⟩) (j+1) am).ownBlock=O (w8.alloc (J #[Z G x.id,Z G ac,V u y z] 224 (0,0))).heap.size) ->
      ∃(be:List Ax) (a4:List ((Ask×Bool)×Ax)),oc w tb gb gs cap po uo un uc bs t q8 w1.heap.size ((st.map λx=>Value.bool x.2)++List.replicate (k-k) (Q false)) w9/\ly w gs g9 am (j+1) be q8 w9/\a4.map Prod.fst=st.take (j+1)/\a4.map Prod.snd=be/\Df (Nl t bs) a4 Q1 q8):=by
      intro wm w8 w9 qm q8 ac u y z g9 am h1 h2 h3 h4 h5 h6 h7 h8 h9 cd bM ce;have cr:=Va h5 h4;obtain⟨zs,f1,f2,f3⟩:=h9.found cr;have cf:=h1.mod aT.out h4 h5 h6;have aD:=h2.mod (ba _ _ h1.la.dx h2) h5 h6;obtain⟨s,hs⟩:∃s:Ax,s=⟨x.id,ac,u,y,z,zs⟩:=⟨_,rfl⟩
      have cw:∀b aC,s.go=O ⟨b,aC,I⟩->w.heap.size<=b/\b<w8.heap.size/\¬Bm q8 b/\b≠g:=λb aC e=>by
       rw[hs]at e;obtain⟨p1,p2⟩:=h8 b aC e;obtain⟨b',cB,e',cs,_⟩:=f2.cell 0 (f3 b aC e);rw[show u=O ⟨b,aC,I⟩from e]at e';cases e';have:=h1.la.low.size;have:=(h2.own.lt g rfl).2;exact⟨ao9,cs,p2,ao9⟩
      obtain⟨b5,bI⟩:=(aD.below ((Below.refl _ _).alloc Ln (J #[Z G x.id,Z G ac,V u y z] 224 (0,0)))).au;have a5:=cf.below ((Below.refl _ _).alloc Ln (J #[Z G x.id,Z G ac,V u y z] 224 (0,0)))
      have cl:w1.heap.size≠g:=λe=>by have:=a5.kept;rw[e,bI]at this;simp at this
      refine⟨sl++[s],rd++[((x,bk),s)],⟨a5.la.other bI ad9 ad9 ad9 ad9 (h2.own.lt g rfl).1 aT.out aD.gs bM,(bM.block _ (Ab a5.kept) (λe=>cl (by cases e;rfl))).trans a5.kept,h1.kw⟩,?_,b1 s,b0 s,Y4 aL.out ⟨qm,?_,?_,?_⟩⟩
      .exact ly.snoc (s:=s) aD h4 (by rw[hs];exact⟨f2,h7⟩) cw (by rw[hs];exact cd) (by rw[hs];exact bM) (by rw[hs];exact ce)
      .rcases h3 with h|⟨h,r,h'⟩
       .exact .inl h
       .exact .inr ⟨h,r,by show Y5 q2 x.dn (Dx t x) (Dx t x+x.aa) x.v r qm;rw[<-hF.out];exact h'⟩
      .rw [hs]
      .rw [hs];exact f1
     cases bk with
     | false=>
      have a1:=Ajv gb gs cap po q2 tb un uc uo bs t x (wr.alloc x.obj) p.la.dx p.la.tab bd.places aS.out;obtain⟨y0,y1,y2,y3,y4,y5,y6,y7,y8,y9⟩:=Pa ad.out;have lx:=Ab ad.out;replace a1:=Hh a1;go_wp2_with fail;refine a1.mono ?_;rintro e w8 ⟨ac,u,y,z,q8,rfl,a3,aN,an,aK,aH,aG⟩;have aD:=ly.mod aX.out (ba _ _ p.la.dx aX.out) aN an;have aA:=aD.own.alloc (J #[Z G x.id,Z G ac,V u y z] 224 (0,0));have av:=Ac4 w8 #[Z G x.id,Z G ac,V u y z] 224;have aJ:=Aj2 ⟨x.id,ac,u,y,z,[]⟩;have aU:=If (n:=j) ao9;have aY:(j+1)*40<=140737488355328:=ao9;have aE:w.heap.size<=(w8.alloc (J #[Z G x.id,Z G ac,V u y z] 224 (0,0))).heap.size:=size_alloc (A8 p.la.low.size an.size) _;clear y0 y1 y2 y3 y4 y5 y6 y7 y8 y9 lx c0 c1 c2 c3 c4 c5 c6 c7 c8 c9 kc lk;replace⟨aD,aA,av,aJ,aU,aY,aE,a3⟩:=H8 aD aA av aJ aU aY aE a3;replace⟨aN,an,aK,aH,aG⟩:=H5 aN an aK aH aG;go_wp2_with (at_builtin;refine R6 _ rfl _ _ 217 rfl w.heap.size 224 cc _ 3 40 Aau bK bL bw bx rfl Aj3 (V (O ⟨g,0,I⟩) j cp) j _ rfl aA.out ⟨w8.heap.size,0,I⟩ 1 1 [Z G x.id,Z G ac,V u y z] rfl rfl av.out aJ.out aU.out aY.out aE.out ?_;intro v1 w9 al ap _ aF;obtain⟨g9,am,rfl⟩:=Joins.ownsRow_form al (Iy _);replace⟨al,ap,aF⟩:=H3 al ap aF);obtain⟨be,a4,e1,e2,e3,e4,e5⟩:=bJ (wr.alloc x.obj) w8 w9 q2 q8 ac u y z g9 am p.out aX.out (by first|exact .inl ⟨rfl,rfl⟩|exact .inl ⟨trivial,rfl⟩|simp) a3.out aN.out an.out aK.out aH.out aG.out al.out ap.out aF.out;replace⟨e1,e2,e3,e4,e5⟩:=H5 e1 e2 e3 e4 e5;go_roundw
      case rel=>exact⟨j+1,q8,g9,am,be,a4,rfl,by go_num,ao9,e1.out,e2.out,e3.out,e4.out,e5.out⟩
      case measure=>simp[intOf];omega
     | true=>
      have bU:=Ajz (a:=x) (h:=(Awl hC.out (Ai bR)).choose_spec.choose_spec);obtain⟨z1,z2,z3,z4⟩:=Nc bU.2.2.1;rw[<-hF.out]at z1 z2 z3;have ew:IntKind.i64.wrap (F+x.aa)=F+x.aa:=D4 _ ao9;obtain⟨WA,a8⟩:=Ex (wr.alloc x.obj);rw[<-a8]at p aX ad bd
      have bT:=
       λW' h=>Avx gb gs cap po q2 x.go x.gn x.gc x.dn F (F+x.aa) x.v W' (p.la.dx.below h) ((bd.lz h).ah) (U9 aB.ah Ln p.la.gi) aB.qg
      have t0:=Aa p.la.tab.head 0;simp at t0;have lt:=Ab p.la.tab.head;obtain⟨y0,y1,y2,y3,y4,y5,y6,y7,y8,y9⟩:=Pa ad.out;have lx:=Ab ad.out;have b4:=Kx p.la.dx p.la.tab.head ad9 ad9;have aM:=Kx p.la.dx ad.out ad9 ad9;have aR:BW WA.heap.size WA WA.drew:=(Below.refl _ _).drew;replace⟨bU,z1,z2,z3,z4,bT,b4,aM⟩:=H8 bU z1 z2 z3 z4 bT b4 aM;replace aR:=Hh aR
      have ch:Hid (∀w':WD,(∀b,b<WA.heap.size->¬Bm q2 b->∀o,w'.cell? ⟨b,o,I⟩=WA.cell? ⟨b,o,I⟩)->w'.cell? ⟨tb,0,I⟩=O (K (O ⟨gb,0,I⟩))/\w'.cell? ⟨wr.heap.size,3,I⟩=O (Z G x.v.a)/\w'.cell? ⟨wr.heap.size,4,I⟩=O (Z G x.v.b)/\w'.cell? ⟨wr.heap.size,5,I⟩=O (Z G x.v.c)/\w'.cell? ⟨wr.heap.size,6,I⟩=O (Z G x.v.d)/\w'.cell? ⟨wr.heap.size,7,I⟩=O (Z G x.aa)/\w'.cell? ⟨wr.heap.size,8,I⟩=O (Z G x.start)/\w'.cell? ⟨wr.heap.size,9,I⟩=O (V x.go x.gn x.gc)):=
       λw' h=>⟨(h _ lt b4.out _).trans t0,(h _ lx aM.out _).trans y3,(h _ lx aM.out _).trans y4,(h _ lx aM.out _).trans y5,(h _ lx aM.out _).trans y6,(h _ lx aM.out _).trans y7,(h _ lx aM.out _).trans y8,(h _ lx aM.out _).trans y9⟩
      clear y0 y1 y2;go_wp2_with fail;have bi:wr.alloc (J x.cells 266 (0,0))=WA:=a8.symm
      try rw[bi]
      clear c0 c1 c2 c3 c4 c5 c6 c7 c8 c9 kc lk;replace⟨a8,bi⟩:=H2 a8 bi;go_region_held3 (λw'=>w'.cell? ⟨tb,0,I⟩=O (K (O ⟨gb,0,I⟩))/\w'.cell? ⟨wr.heap.size,3,I⟩=O (Z G x.v.a)/\w'.cell? ⟨wr.heap.size,4,I⟩=O (Z G x.v.b)/\w'.cell? ⟨wr.heap.size,5,I⟩=O (Z G x.v.c)/\w'.cell? ⟨wr.heap.size,6,I⟩=O (Z G x.v.d)/\w'.cell? ⟨wr.heap.size,7,I⟩=O (Z G x.aa)/\w'.cell? ⟨wr.heap.size,8,I⟩=O (Z G x.start)/\w'.cell? ⟨wr.heap.size,9,I⟩=O (V x.go x.gn x.gc))
       (first
         | (go_keep;done)
         | with_reducible exact ch.out _ ct.out)
       (first
         | (go_at_call 187;refine(bT _ aR.out).mono ?_;rintro e w5 ⟨r5,q5,rfl,bA,bp,bb,aI⟩;have ct:Hid (∀b,b<WA.heap.size->¬Bm q2 b->∀o,w5.cell? ⟨b,o,I⟩=WA.cell? ⟨b,o,I⟩):=λb hb hn o=>By (a:=⟨b,o,I⟩) (w:=WA) (aI.block b hb hn)
            replace⟨bA,bp,bb,aI⟩:=H4 bA bp bb aI))
      have b6:=p.below aR.out;have b8:=aX.below aR.out;have aW:=b6.mod aT.out bp.out bb.out aI.out;have bg:=b8.mod (ba _ _ b6.la.dx b8) bb.out aI.out;have bG:=(aI.block _ (by have:=aR.size;omega) aM.out).trans (Ae aR.out ad.out lx);have bv:x.ok w5:=(by have h1:=a8.out▸bd.out;exact h1.vh (by rw[<-a8.out];exact(Mod.dh aR.out).jr aI.out) aB.out p.la);replace⟨aW,bg,bG,bv⟩:=H4 aW bg bG bv;clear t0 lt y3 y4 y5 y6 y7 y8 y9 lx;have a1:=Ajv gb gs cap po q5 tb un uc uo bs t x w5 aW.la.dx aW.la.tab bv.places aS.out;obtain⟨y0,y1,y2,y3,y4,y5,y6,y7,y8,y9⟩:=Pa bG.out;have lx:=Ab bG.out;replace a1:=Hh a1;go_wp2_with fail;refine a1.mono ?_;rintro e w8 ⟨ac,u,y,z,q8,rfl,a3,aN,an,aK,aH,aG⟩;have aD:=ly.mod bg.out (ba _ _ aW.la.dx bg.out) aN an;have aA:=aD.own.alloc (J #[Z G x.id,Z G ac,V u y z] 224 (0,0));have av:=Ac4 w8 #[Z G x.id,Z G ac,V u y z] 224;have aJ:=Aj2 ⟨x.id,ac,u,y,z,[]⟩;have aU:=If (n:=j) ao9;have aY:(j+1)*40<=140737488355328:=ao9;have aE:w.heap.size<=(w8.alloc (J #[Z G x.id,Z G ac,V u y z] 224 (0,0))).heap.size:=size_alloc (A8 aW.la.low.size an.size) _;clear y0 y1 y2 y3 y4 y5 y6 y7 y8 y9 lx;replace⟨aD,aA,av,aJ,aU,aY,aE,a3⟩:=H8 aD aA av aJ aU aY aE a3;replace⟨aN,an,aK,aH,aG⟩:=H5 aN an aK aH aG;go_wp2_with (at_builtin;refine R6 _ rfl _ _ 217 rfl w.heap.size 224 cc _ 3 40 Aau bK bL bw bx rfl Aj3 (V (O ⟨g,0,I⟩) j cp) j _ rfl aA.out ⟨w8.heap.size,0,I⟩ 1 1 [Z G x.id,Z G ac,V u y z] rfl rfl av.out aJ.out aU.out aY.out aE.out ?_;intro v1 w9 al ap _ aF;obtain⟨g9,am,rfl⟩:=Joins.ownsRow_form al (Iy _);replace⟨al,ap,aF⟩:=H3 al ap aF);obtain⟨be,a4,e1,e2,e3,e4,e5⟩:=bJ w5 w8 w9 q5 q8 ac u y z g9 am aW.out bg.out (by first|exact .inr ⟨rfl,r5,bA.out,Va bb.out bp.out⟩|exact .inr ⟨trivial,r5,bA.out,Va bb.out bp.out⟩) a3.out aN.out an.out aK.out aH.out aG.out al.out ap.out aF.out;replace⟨e1,e2,e3,e4,e5⟩:=H5 e1 e2 e3 e4 e5;go_roundw
      case rel=>exact⟨j+1,q8,g9,am,be,a4,rfl,by go_num,ao9,e1.out,e2.out,e3.out,e4.out,e5.out⟩
      case measure=>simp[intOf];omega
    .have cj:¬(j:Int)<k:=ao9;have ck:j=k:=ao9;subst ck;have bZ:rd.map Prod.fst=st:=(by rw[b9.out,C4 (by rw[aP.out];omega)]);replace bZ:=Hh bZ;go_wp2;go_ret2;have hS:=b7.out;refine⟨bf.la.low,.inr ⟨O ⟨g,0,I⟩,cp,sl,(by rw[a9.out];rfl),⟨q0,Q1,q2,st,rd,by rw[bD.out];exact aO.out,hC.out,a6.out,aL.out,bZ.out,ca.out⟩,?_,?_,λb aC e=>by cases e;exact(hS.own.lt g rfl).1,λs hs b aC e=>((hS.ok s hs).2 b aC e).1⟩⟩
     .rw [a9.out];exact Awn Awt hS.own hS.len ao9 (λs hs=>(hS.ok s hs).1)
     .rw [a9.out];rcases hS.own.2 with⟨e,_⟩|⟨g',cx,b5,e,_,_,h3,_⟩
      .cases e
      .cases e;exact h3
abbrev Bg:=Nat->Int->V4
def gg (zs:List Int) (fr tt:Int) (v:V4):Bg:=λi u=>if Bx zs zs.length i/\fr<=u/\u<tt then v else V4.zero
def mr:Bg:=λ_ _=>V4.zero
def Ak (U W:Bg):Bg:=λi u=>Aq (U i u) (W i u)
def Bw:List Bg->Bg
 | []=>mr
 | x :: xs=>Ak x (Bw xs)
def nn (U:Bg):Prop:=∀i u,V4.zero.leq (U i u)
def Vc (a b c:V4):Aq (Aq a b) c=Aq a (Aq b c):=by simp[Aq];omega
def Aj7 (a b:V4):Aq a b=Aq b a:=by simp[Aq];omega
def Lm (a:V4):Aq a V4.zero=a:=by simp[Aq,V4.zero]
def Pc (a:V4):Aq V4.zero a=a:=by simp[Aq,V4.zero]
def G6 (a b c:Bg):Ak (Ak a b) c=Ak a (Ak b c):=by funext i u;exact Vc _ _ _
def Pd (a b:Bg):Ak a b=Ak b a:=by funext i u;exact Aj7 _ _
def Lo (a:Bg):Ak a mr=a:=by funext i u;exact Lm _
def Qe (a:Bg):Ak mr a=a:=by funext i u;exact Pc _
def Ac5 (xs ys:List Bg):Bw (xs++ys)=Ak (Bw xs) (Bw ys):=by
 induction xs with
 | nil=>exact(Qe _).symm
 | cons x xs ih=>show Ak x (Bw (xs++ys))=Ak (Ak x (Bw xs)) (Bw ys);rw[ih,G6]
def Oc {v:V4}:V4.zero.leq v↔0<=v.a/\0<=v.b/\0<=v.c/\0<=v.d:=by simp[V4.leq,V4.zero]
def Ac6 {v:V4} (h:v.right=true):V4.zero.leq v:=by rw[Oc];have:=F9.1 h;omega
def Qf:nn mr:=λ_ _=>Oc.2 (by simp[mr,V4.zero])
def Pe {a b:Bg} (h:nn a) (k:nn b):nn (Ak a b):=λi u=>by
 have h1:=Oc.1 (h i u);have c:=Oc.1 (k i u);rw[Oc];simp[Ak,Aq];omega
def Qg  {fr a:Int} {v:V4} (h:v.right=true):nn (gg zs fr a v):=λi u=>by
 unfold gg;split
 .exact Ac6 h
 .exact Oc.2 (by simp[V4.zero])
def Tc {xs:List Bg} (h:∀x,x∈xs->nn x):nn (Bw xs):=by
 induction xs with
 | nil=>exact Qf
 | cons x xs ih=>exact Pe (h x (Ci ..)) (ih λy a=>h y (B2 _ a))
def Awv {a b c:V4} (h:(Aq a b).leq c) (d:V4.zero.leq b):a.leq c:=by
 have:=Oc.1 d;simp[V4.leq,Aq]at *;omega
structure Be (vs:List V4) (U:Bg) (q:List Nd):Prop where
 len:q.length=vs.length
 whole:∀i,i<q.length->(nd q i).whole=vv vs i
 inv:∀i,i<q.length->Inv (nd q i).whole (nd q i).l
 val:∀i,i<q.length->∀u,0<=u->u<1099511627776->Aq (val (nd q i).l u) (U i u)=vv vs i
def Be.loose  {U:Bg} {q:List Nd} (h:Be vs U q):∀i,i<q.length->Ct (nd q i).l:=λi a=>(h.inv i a).loose
def Y7  {b:List Nd} (h:Ac3 vs b):Be vs mr b:=
 ⟨h.len,λi a=>(h.node i (by rw[<-h.len];exact a)).1,h.inv,λi a u h0 _=>by
  rw[(h.node i (by rw[<-h.len];exact a)).2]
  simp[val,Fw,h0,mr,Lm]⟩
def Be.gr  {U W:Bg} {q:List Nd} (h:Be vs U q) (e:U=W):Be vs W q:=e▸h
def Be.uy  {U:Bg} {p q:List Nd} (h:Be vs U p) (b:Rm p q) (c:O8 p q):Be vs U q:=
 ⟨b.len.trans h.len,λi a=>by rw[b.len]at a;exact(b.whole i a).trans (h.whole i a),b.inv,λi a u h0 h1=>by
  rw[b.len]at a
  rw[c i a];exact h.val i a u h0 h1⟩
def Be.le  {U:Bg} {q:List Nd} (h:Be vs U q) {i:Nat} (a:i<q.length)  (h0:0<=u) (h1:u<1099511627776):(U i u).leq (vv vs i):=by
 have:=h.val i a u h0 h1;have b:=F9.1 ((h.inv i a).free u h0 h1).1;rw[<-this];simp[V4.leq,Aq];omega
def Lp {fr a:Int} {v:V4} (h:Bb fr a v=true):0<=fr/\fr<a/\a<=1099511627776/\v.right=true:=Nc h
def Vd  {U:Bg} {p q:List Nd}  {fr f:Int} {v:V4} (h:Be vs U p) (n:Qb p zs fr f v 0 q) :
  Be vs (Ak U (gg zs fr f v)) q/\Cy vs.length zs/\Bb fr f v=true:=by
 obtain⟨m,d⟩:=n;rcases m with⟨_,c,_⟩|⟨_,_,_,c,_⟩|⟨h1,l,o,_,j⟩
 .cases c
 .cases c
 .refine ⟨⟨d.len.trans h.len,λi b=>?_,d.inv,λi b u h0 k=>?_⟩,h.len▸h1,l⟩
  .rw [d.len]at b;exact(d.whole i b).trans (h.whole i b)
  .rw [d.len]at b;have g:=h.val i b u h0 k;by_cases e:Bx zs zs.length i
   .rw [(j i b).1 e u h0 k];by_cases a:fr<=u/\u<f
    .rw [Ad a,<-g];simp[Ak,gg,e,a,Aq,N9];omega
    .rw [Ac a,<-g];simp[Ak,gg,a,Lm]
   .rw [(j i b).2 e,<-g];simp[Ak,gg,e,Lm]
def Aj8  {U:Bg} {p q:List Nd}  {fr a:Int} {v:V4} {r:Int} (h:Be vs U p) (g:Cy vs.length zs) (d:Bb fr a v=true)
  (f:∀i,i<vs.length->∀u,0<=u->u<1099511627776->(Ak U (gg zs fr a v) i u).leq (vv vs i)) (j:Kw p zs fr a v r q):r=0:=by
 rcases j with⟨c,_⟩|⟨_,_,c,_⟩|⟨_,_,_,c,_⟩
 .exact absurd ⟨h.len▸g,d⟩ c
 .obtain ⟨k,l,m,_⟩:=Lp d;refine absurd (λi b e u h0 h1=>?_) c;have:=f i (h.len▸b) u ao9 ao9;rw[<-h.val i b u ao9 ao9]at this;simp[Ak,gg,e,h0,h1,Aq,V4.leq]at this ⊢;omega
 .exact c
def Ac7  {U:Bg} {p q:List Nd}  {fr f:Int} {v:V4} {r:Int} (h:Be vs (Ak U (gg zs fr f v)) p) (n:nn U) (m:Cy vs.length zs) (k:Bb fr f v=true)
  (e:Rm p q) (o:Y2 p zs fr f v r q):r=0/\Be vs U q:=by
 obtain⟨t,x,y,_⟩:=Lp k;rcases o with⟨c,_⟩|⟨_,_,c,_⟩|⟨_,_,_,c,j⟩
 .exact absurd ⟨h.len▸m,k⟩ c
 .refine absurd (λi a d u h0 h1=>?_) c;have:=h.val i a u ao9 ao9;have s:=Oc.1 (n i u);rw[h.whole i a,<-this];simp[Ak,gg,d,h0,h1,Aq,V4.leq];omega
 .refine ⟨c,e.len.trans h.len,λi a=>?_,e.inv,λi a u h0 l=>?_⟩
  .rw [e.len]at a;exact(e.whole i a).trans (h.whole i a)
  .rw [e.len]at a;have g:=h.val i a u h0 l;by_cases d:Bx zs zs.length i
   .rw [(j i a).1 d u h0 l];by_cases b:fr<=u/\u<f
    .rw [Ad b,<-g];simp[Ak,gg,d,b,Aq];omega
    .rw [Ac b,<-g];simp[Ak,gg,b,Lm]
   .rw [(j i a).2 d,<-g];simp[Ak,gg,d,Lm]
def Aj9  {U W:Bg} {p q:List Nd} (h:Be vs U p) (k:Be vs W q) (e:U=W):O8 p q:=λi d=>by
 subst e;have c:i<q.length:=by rw[k.len,<-h.len];exact d
 refine Acp (k.inv i c).loose (h.inv i d).loose (k.inv i c).iy (h.inv i d).iy λu h0 h1=>?_;have a:=h.val i d u h0 h1;have b:=k.val i c u h0 h1;rw[<-a]at b;simp[Aq]at b;obtain⟨f,g,j,m⟩:=b;cases hx:val (nd q i).l u;cases hy:val (nd p i).l u;simp[hx,hy]at *;omega
def Aka  {U:Bg} {q:List Nd} (h:Be vs U q) {i:Nat} (e:i<q.length) {c u:Int} {v:V4} (h0:0<=u) (h1:1<=c) :
  mq (nd q i).l c v u↔u+c<=1099511627776/\∀x,u<=x->x<u+c->(Aq (U i x) v).leq (vv vs i):=by
 unfold mq;rw[Ajn (h.loose i e) h0 h1,And.comm];refine and_congr_right λf=>⟨λd x a b=>?_,λd x a b=>?_⟩
 .have:=d x a b;rw[<-h.val i e x ao9 ao9];simp[V4.leq,Aq]at *;omega
 .have:=d x a b;rw[<-h.val i e x ao9 ao9]at this;simp[V4.leq,Aq]at *;omega
def Ac8 (now:Int) (h:Av):Bg:=gg h.dn now (Im now h) h.v
def Bh (now:Int) (x:Ask×Bool):Bg:=if x.2=true then gg x.1.dn (Dx now x.1) (Dx now x.1+x.1.aa) x.1.v else mr
def G7 (x:Ask×Ax):Bg:=if 0<=x.2.start then gg x.2.dn x.2.start (x.2.start+x.1.aa) x.1.v else mr
def Rn {a:Int}  {c:List Av}:∀ {U:Bg} {p q:List Nd},Df (Qc a) c p q->Be vs U p ->
  Be vs (Ak U (Bw (c.map (Ac8 a)))) q/\∀h,h∈c->Cy vs.length h.dn/\Bb a (Im a h) h.v=true:=by
 induction c with
 | nil=>intro U p q h k;cases h;exact⟨k.gr (Lo _).symm,λh b=>by cases b⟩
 | cons x xs ih=>
  intro U p q h k;obtain⟨m,h1,d⟩:=h;obtain⟨e,f,g⟩:=Vd k h1;obtain⟨i,j⟩:=ih d e;refine⟨i.gr (by rw[G6];rfl),λh b=>?_⟩;rcases Fm.1 b with rfl|b
  .exact ⟨f,g⟩
  .exact j h b
def D2 (now:Int) (hs:List Av):Bg:=Bw (hs.map (Ac8 now))
def Ve  {f:Nat} {a:Int} {d:List Av} {e:List Nd} (h:I9 vs f a d 0 e) :
  Ob vs f a/\Be vs (D2 a d) e/\∀h,h∈d->Cy vs.length h.dn/\Bb a (Im a h) h.v=true:=by
 rcases h with⟨_,c⟩|⟨b,k,j,⟨_,i⟩|⟨c,_⟩⟩
 .cases c
 .obtain ⟨h1,g⟩:=Rn i (Y7 j);exact⟨b,h1.gr (Qe _),g⟩
 .exact absurd rfl c
def Y8  {a:Int} {b:List Av} (h:∀h,h∈b->Cy vs.length h.dn/\Bb a (Im a h) h.v=true):nn (D2 a b):=
 Tc λx c=>by
  obtain⟨y,d,rfl⟩:=A5.1 c;exact Qg (Lp (h y d).2).2.2.2
structure Lq (vs:List V4) (now:Int) (bs:List Bool) (a:Ask):Prop where
 pre:Nj bs now a (Dx now a) a.dn
 start:0<=a.start
 ah:Cy vs.length a.dn
 span:Bb (Dx now a) (Dx now a+a.aa) a.v=true
def Td {d:Int}   {st:List (Ask×Bool)}:∀ {U:Bg} {p q:List Nd},Df (Mi d bs) st p q->Be vs U p ->
  Be vs (Ak U (Bw (st.map (Bh d)))) q/\∀x,x∈st->x.2=true->Lq vs d bs x.1:=by
 induction st with
 | nil=>intro U p q h k;cases h;exact⟨k.gr (Lo _).symm,λh z=>by cases z⟩
 | cons x xs ih=>
  intro U p q h k;obtain⟨m,h1,t⟩:=h;obtain⟨a,b⟩:=x
  have l:Be vs (Ak U (Bh d (a,b))) m/\(b=true->Lq vs d bs a):=by
   cases b with
   | false=>
    have e:Ak U (Bh d (a,false))=U:=(by simp[Bh,Lo]);rw[e];refine⟨?_,λc=>by cases c⟩;rcases h1 with⟨_,_,rfl⟩|⟨_,_,_,rfl⟩|⟨_,_,r,⟨u,j⟩,v⟩
    .exact k
    .exact k
    .have hr:r≠0:=λc=>by have:=v.2 c;cases this
     rcases u with⟨_,_,f⟩|⟨_,_,_,_,f⟩|⟨_,_,_,c,_⟩
     .exact k.uy j f
     .exact k.uy j f
     .exact absurd c hr
   | true=>
    obtain⟨n,c2,o,s⟩:=Ajz h1;obtain⟨k1,k2,_⟩:=Vd k s
    have g:0<=a.start:=by
     rcases h1 with⟨_,c,_⟩|⟨_,_,c,_⟩|⟨c,_⟩
     .cases c
     .cases c
     .exact c
    exact⟨by simpa[Bh]using k1,λ_=>⟨n,g,k2,o⟩⟩
  obtain⟨k4,k5⟩:=ih t l.1;refine⟨k4.gr (by rw[G6];rfl),λy i=>?_⟩;rcases Fm.1 i with rfl|i
  .exact l.2
  .exact k5 y i
def Te (vs:List V4) (now:Int) (bs:List Bool) (a:Ask) (s:Ax):Prop:=
 s.id=a.id/\((s.start=-1/\s.dn=[])\/(a.can=true/\now<=s.start/\s.start<1099511627776/\Ga bs a s.dn/\Cy vs.length s.dn/\Bb s.start (s.start+a.aa) a.v=true))
def Akb {xs ys:List Nat} (h:xs.Pairwise (·<·)) (a:∀x,x∈xs->x∈ys):xs.length<=ys.length:=by
 induction xs generalizing ys with
 | nil=>exact As _
 | cons x xs ih=>
  have h1:=Pr.1 h;have b:=a x (Ci ..);have:=ih (ys:=ys.erase x) h1.2 (λy c=>(List.mem_erase_of_ne (by have:=h1.1 y c;omega)).2 (a y (B2 _ c)));rw[List.length_erase_of_mem b]at this;have:=Aaj b;simp;omega
def Aww {g:List Nd}  {a:Ask}   {xs:List Nat} (h:Nh g (Bl (ji bs a.ie)) a.nodes a.v a.aa after t xs):Ga bs a (Bl xs):=by
 obtain⟨h1,d,j⟩:=h.ah;have e:=h.len;have b:(Bl xs).length=xs.length:=by simp[Bl]
 refine⟨λi c=>?_,h1.aw,by rw[b];exact e⟩;have f:zi (Bl xs) i=((xs[i]'(by rw[<-b];exact c):Nat):Int):=by rw[b]at c;simp[zi,Bl,List.getD,c]
 rw[f];have:=U8.1 (d _ (J1 (by rw[<-b];exact c))).2.1;exact A5.2 ⟨_,this,rfl⟩
def Awx  {c:Int}  {a:Ask} {s:Ax} {U:Bg} {p q:List Nd} (m:0<=c) (b:s.id=a.id) (h:Qd c bs a s.start s.dn p q) (k:Be vs U p):Be vs (Ak U (G7 (a,s))) q/\Te vs c bs a s:=by
 have g:s.start=-1->Ak U (G7 (a,s))=U:=λe=>by
  have:¬(0<=(a,s).2.start):=by show ¬0<=s.start;omega
  simp only[G7,Ac this,Lo]
 rcases h with⟨_,h1,j,rfl⟩|⟨o,t,xs,is,n,h1,j⟩
 .exact ⟨k.gr (g h1).symm,b,.inl ⟨h1,j⟩⟩
 .cases is with
  | false=>
   obtain⟨d,f,rfl⟩:=h1 rfl;exact⟨k.gr (g d).symm,b,.inl ⟨d,f⟩⟩
  | true=>
   obtain⟨d,f,r,l⟩:=j rfl;have i:=n.found;have u:=i.ge;have v:=(i.take (k.loose) l.1).1;subst v;obtain⟨y,z,k3⟩:=Vd k l;have x:0<=(a,s).2.start:=(by show 0<=s.start;omega);refine⟨y.gr ?_,b,.inr ⟨o,ao9,by rw[d];exact i.lt,by rw[f];exact Aww i,by rw[f];exact z,by rw[d];exact k3⟩⟩;simp only[G7,Ad x];rw[d,f]
def Lr (x:(Ask×Bool)×Ax):Bg:=G7 (x.1.1,x.2)
def Ac9 {d:Int}   {rd:List ((Ask×Bool)×Ax)} (i:0<=d):∀ {U:Bg} {p q:List Nd},Df (Nl d bs) rd p q->Be vs (Ak U (Bw (rd.map λx=>Bh d x.1))) p->nn U ->
  (∀x,x∈rd->x.1.2=true->Lq vs d bs x.1.1)->Be vs (Ak U (Bw (rd.map Lr))) q/\∀x,x∈rd->Te vs d bs x.1.1 x.2:=by
 induction rd with
 | nil=>intro U p q h k _ _;cases h;exact⟨k,λh hh=>by cases hh⟩
 | cons x xs ih=>
  intro U p q h k u n;obtain⟨m,⟨m',h1,j,t⟩,h3⟩:=h;obtain⟨⟨a,b⟩,s⟩:=x
  have o:nn (Bw (xs.map λx=>Bh d x.1)):=Tc λy f=>by
   obtain⟨z,hz,rfl⟩:=A5.1 f;unfold Bh;split
   .next g=>exact Qg (Lp (n z (B2 _ hz) g).span).2.2.2
   .exact Qf
  have k':Be vs (Ak (Ak U (Bw (xs.map λx=>Bh d x.1))) (Bh d (a,b))) p:=k.gr (by
   show Ak U (Ak (Bh d (a,b)) (Bw (xs.map λx=>Bh d x.1)))=_
   rw[G6,Pd (Bh d (a,b))])
  have km:Be vs (Ak U (Bw (xs.map λx=>Bh d x.1))) m':=by
   rcases h1 with⟨g,rfl⟩|⟨g,r,hg,hl⟩
   .have e:b=false:=g;subst e;exact k'.gr (by simp[Bh,Lo])
   .have e:b=true:=g;subst e;have v:=n _ (Ci ..) rfl;exact(Ac7 (k'.gr (by simp[Bh])) (Pe u o) v.ah v.span hl hg).2
  obtain⟨k2,s2⟩:=Awx i j t km
  have l:nn (G7 (a,s)):=by
   unfold G7;split
   .next hge=>
    rcases s2.2 with⟨c,_⟩|⟨_,_,_,_,_,c⟩
    .have h1:0<=s.start:=hge;have t:s.start=-1:=c;omega
    .exact Qg (Lp c).2.2.2
   .exact Qf
  obtain⟨k3,s3⟩:=ih h3 (k2.gr (by rw[G6,Pd _ (G7 (a,s)),<-G6])) (Pe u l) (λy f=>n y (B2 _ f));refine⟨k3.gr (by rw[G6];rfl),λy f=>?_⟩;rcases Fm.1 f with rfl|f
  .exact s2
  .exact s3 y f
def Akc {a b:Bg} (d:nn b) {i:Nat}  {c:V4} (h:(Ak a b i u).leq c):(a i u).leq c:=Awv h (d i u)
def Vf (l:List (Ask×Ax)):Bg:=Bw (l.map G7)
def Akd (a:Int) (l m:List Av):D2 a (l++m)=Ak (D2 a l) (D2 a m):=by simp[D2,Ac5]
def Awy (a:Int) (x:Av):D2 a [x]=Ac8 a x:=by simp[D2,Bw,Lo]
def Awz (a:Int) (l:List Av) (k:Nat):D2 a l=Ak (D2 a (l.take k)) (D2 a (l.drop k)):=by rw[<-Akd,Mn]
def Ake  {b:Int}  {a:Ask} {s:Ax} (h:Te vs b bs a s):nn (G7 (a,s)):=by
 unfold G7;split
 .next hge=>
  rcases h.2 with⟨c,_⟩|⟨_,_,_,_,_,c⟩
  .have:(a,s).2.start=s.start:=rfl;omega
  .exact Qg (Lp c).2.2.2
 .exact Qf
def Aw0  {c:Int} {d:List Av} {q g:List Nd} {k:Nat} {h:Av} {r:Int} (n:d[k]?=O h) (j:∀h,h∈d->Cy vs.length h.dn/\Bb c (Im c h) h.v=true)
  (f:∀i,i<vs.length->∀u,0<=u->u<1099511627776->(D2 c d i u).leq (vv vs i)) (l:Be vs (D2 c (d.take k)) q) (m:Kw q h.dn c (Im c h) h.v r g) (t:Rm q g) :
  r=0/\Be vs (D2 c (d.take (k+1))) g:=by
 obtain⟨h1,o⟩:=j h (Ai n);have e:D2 c (d.take (k+1))=Ak (D2 c (d.take k)) (gg h.dn c (Im c h) h.v):=by rw[Oa n,Akd,Awy];rfl
 have x:=Aj8 l h1 o (λi s u a b=>by
  have:=f i s u a b;rw[Awz c d (k+1),e]at this
  exact Akc (Y8 (vs:=vs) λh p=>j h (Wl p)) this) m
 subst x;exact⟨rfl,(Vd l ⟨m,t⟩).1.gr e.symm⟩
def Ada  {R:α->β->β->Prop} {l r:List α} {x:α} {p q:β} (h:Df R (l++x :: r) p q):∃m a,Df R l p m/\R x m a/\Df R r a q:=by
 obtain⟨m,h1,a,b,c⟩:=Ajw.1 h;exact⟨m,a,h1,b,c⟩
def Od (now:Int) (l:List (Ask×Bool)):Bg:=Bw (l.map (Bh now))
def Aw1  {a:Int}  {l:List (Ask×Bool)} (h:∀x,x∈l->x.2=true->Lq vs a bs x.1):nn (Od a l):=Tc λy b=>by
 obtain⟨z,c,rfl⟩:=A5.1 b;unfold Bh;split
 .next hb=>exact Qg (Lp (h z c hb).span).2.2.2
 .exact Qf
def Aw2 {a:Int}   {l r:List ((Ask×Bool)×Ax)} {x:(Ask×Bool)×Ax} {U:Bg} {p q:List Nd} (c:0<=a) (hc:Df (Nl a bs) (l++x :: r) p q)
  (k:Be vs (Ak U (Od a ((l++x :: r).map Prod.fst))) p) (u:nn U) (h:∀y,y∈l++x :: r->y.1.2=true->Lq vs a bs y.1.1) :
  ∃t m q',Be vs (Ak (Ak (Ak U (Od a (r.map Prod.fst))) (Bw (l.map Lr))) (Bh a x.1)) t/\Be vs (Ak (Ak U (Od a (r.map Prod.fst))) (Bw (l.map Lr))) m/\x.2.id=x.1.1.id/\Qd a bs x.1.1 x.2.start x.2.dn m q':=by
 obtain⟨t,g,h1,h2,_⟩:=Ada hc
 have d:=Aw1 (bs:=bs) (vs:=vs) λy f b=>by
  obtain⟨z,o,rfl⟩:=A5.1 f;exact h z (Aak _ (B2 _ o)) b
 have j:nn (Bh a x.1):=by
  unfold Bh;split
  .next b=>exact Qg (Lp (h x (Aak _ (Ci ..)) b).span).2.2.2
  .exact Qf
 have e:Ak U (Od a ((l++x :: r).map Prod.fst))=Ak (Ak (Ak U (Od a (r.map Prod.fst))) (Bh a x.1)) (Bw (l.map λx=>Bh a x.1)):=by simp only[Od,Dk,Ko,Dm,Ac5];show Ak U (Ak (Bw (l.map (Bh a ∘ Prod.fst))) (Ak (Bh a x.1) (Bw (r.map (Bh a ∘ Prod.fst)))))=Ak (Ak (Ak U (Bw (r.map (Bh a ∘ Prod.fst)))) (Bh a x.1)) (Bw (l.map (Bh a ∘ Prod.fst)));rw[Pd (Bw (l.map _)),<-G6,Pd (Bh a x.1),<-G6]
 obtain⟨k1,s1⟩:=Ac9 c h1 (k.gr e) (Pe (Pe u d) j) (λy f=>h y (List.mem_append_left _ f))
 have n:nn (Bw (l.map Lr)):=Tc λy f=>by
  obtain⟨z,o,rfl⟩:=A5.1 f;exact Ake (s1 z o)
 have s:=k1.gr (by rw[G6,Pd (Bh a x.1),<-G6]);obtain⟨m,h3,i,h4⟩:=h2;refine⟨t,m,g,s,?_,i,h4⟩;rcases h3 with⟨b,rfl⟩|⟨b,r2,hg,hl⟩
 .exact s.gr (by simp[Bh,b,Lo])
 .have v:=h x (Aak _ (Ci ..)) b;exact(Ac7 (s.gr (by simp[Bh,b])) (Pe (Pe u d) n) v.ah v.span hl hg).2
structure Aw3 (vs:List V4) (now:Int) (bs:List Bool) (hs:List Av) (asks:List Ask) (slots:List Ax):Prop where
 lay:Ob vs bs.length now
 holds:∀h,h∈hs->Cy vs.length h.dn/\Bb now (Im now h) h.v=true
 len:slots.length=asks.length
 slot:∀x,x∈asks.zip slots->Te vs now bs x.1 x.2
 le:∀i,i<vs.length->∀u,0<=u->u<1099511627776->(Ak (D2 now hs) (Vf (asks.zip slots)) i u).leq (vv vs i)
def Aw4 {b:List Ask} {a:List Ax} {st:List (Ask×Bool)} {rd:List ((Ask×Bool)×Ax)} (h1:st.map Prod.fst=b) (c:rd.map Prod.fst=st) (d:rd.map Prod.snd=a):b.zip a=rd.map λx=>(x.1.1,x.2):=by
 subst d c h1
 induction rd with
 | nil=>rfl
 | cons x xs ih=>simp at ih;simp[ih]
def Y9  {g:Int}  {q:List Av} {d:List Ask} {c:List Ax} (hp:Jv vs g bs q d c):Aw3 vs g bs q d c:=by
 obtain⟨ps,q1,q2,st,rd,hl,z,j,hr,f,k⟩:=hp.go;obtain⟨h,k0,p⟩:=Ve hl;obtain⟨r,m⟩:=Td z k0
 have e:st.map (Bh g)=rd.map λx=>Bh g x.1:=by rw[<-f];simp[Dm,Jk]
 rw[e]at r;obtain⟨n,s2⟩:=Ac9 h.lo hr r (Y8 p) (λx l t=>m x.1 (by rw[<-f];exact A5.2 ⟨x,l,rfl⟩) t);have o:=Aw4 j f k;have s:Bw (rd.map Lr)=Vf (d.zip c):=by rw[o];simp[Vf,Dm,Jk];rfl
 rw[s]at n;refine⟨h,p,by rw[<-k,<-j,<-f];simp,λx l=>?_,λi v u a b=>n.le (by rw[n.len];exact v) a b⟩;rw[o]at l;obtain⟨y,hy,rfl⟩:=A5.1 l;exact s2 y hy
def Aw5 {e:List Nd}  {a:Int} {v:V4} {b after t T:Int} {xs:List Nat} {is:Bool} (h:Fx e zs a v b after t xs is) (h1:1<=a) (l:1<=b) (m:v.right=true)
  (j:max after 0<=T) (f:T<1099511627776) (x:a<=(ga e zs b v T).length) (g:∀u,max after 0<=u->u<T->((ga e zs b v u).length:Int)<a) :
  is=true/\t=T/\(xs.length:Int)=a/\∃r,ga e zs b v T=xs++r:=by
 unfold Fx at h;rw[Ad ⟨h1,l,m⟩]at h;rcases h with⟨n,i,p,q,⟨r,k⟩,d⟩|⟨_,_,_,o⟩
 .have s:a<=(ga e zs b v t).length:=by rw[k,Cn];omega
  have:t=T:=by
   rcases Int.lt_trichotomy t T with c|c|c
   .have:=g t i c;omega
   .exact c
   .have:=d T j c;omega
  subst this;exact⟨n,rfl,q,r,k⟩
 .have:=o T j f;omega
def Tf  {U:Bg} {p n q q':List Nd}  {fr o:Int} {v:V4} {r r':Int} (h:Be vs U p) (y:Be vs U n) (ht:Kw p zs fr o v r q) (m:Kw n zs fr o v r' q'):r=r':=by
 have x:n.length=p.length:=by rw[h.len,y.len]
 have z:=Aj9 h y rfl;have e:(∀i,i<p.length->Bx zs zs.length i->∀u,fr<=u->u<o->v.leq (val (nd p i).l u))↔(∀i,i<n.length->Bx zs zs.length i->∀u,fr<=u->u<o->v.leq (val (nd n i).l u)):=by rw[x];exact⟨λk i j=>by rw[z i j];exact k i j,λk i j=>by rw[<-z i j];exact k i j⟩
 rw[Kw,x]at m;rw[Kw]at ht;rw[x]at e
 rcases ht with⟨a,b,_⟩|⟨a,b,c,d,_⟩|⟨a,b,c,d,_⟩<;>rcases m with⟨f,g,_⟩|⟨f,g,s,t,_⟩|⟨f,g,s,t,_⟩
 .rw [b,g]
 .exact absurd ⟨f,g⟩ a
 .exact absurd ⟨f,g⟩ a
 .exact absurd ⟨a,b⟩ f
 .rw [d,t]
 .exact absurd (e.2 s) c
 .exact absurd ⟨a,b⟩ f
 .exact absurd (e.1 c) s
 .rw [d,t]
def Za {a:Int}  {b:List Av} {p q:List Nd} {k:Nat} {h:Av} (i:b[k]?=O h) (d:Df (Qc a) b p q) (g:Be vs mr p):∃m c,Be vs (D2 a (b.take k)) m/\Qb m h.dn a (Im a h) h.v 0 c:=by
 have e:b=b.take k++h :: b.drop (k+1):=by have:=Mn (k+1) b;rw[Oa i,K6]at this;exact this.symm
 rw[e]at d;obtain⟨m,c,h1,f,_⟩:=Ada d;exact⟨m,c,(Rn h1 g).1.gr (Qe _),f⟩
def Akf  {l:List α} {i k:Nat} {x:α} (h:l[i]?=O x) (a:i<k):(l.take k)[i]?=O x:=by rw[Mp,Ad a];exact h
def Akg  (l:List α) {i k:Nat} (a:i<=k):(l.take k).take i=l.take i:=by rw[Wz,Mu a]
def Aw6   {s:Int} {hs:List Av} {r r':Int} {q q':List Nd} (h:I9 vs un s hs r q) (y:I9 vs un s hs r' q'):r=r':=by
 rcases h with⟨a,b⟩|⟨a,ps,hf,h⟩<;>rcases y with⟨v,b'⟩|⟨v,al,ac,y⟩
 .rw [b,b']
 .exact absurd v a
 .exact absurd a v
 .have k:=Y7 hf;have u:=Y7 ac
  rcases h with⟨e,p⟩|⟨e,i,x,m,m2,hx,p,z⟩<;>rcases y with⟨t,d⟩|⟨t,i',x',m',ad,f,d,j⟩
  .rw [e,t]
  .obtain ⟨n,n',h1,g⟩:=Za f p k;have l:=(Rn d u).1.gr (Qe _);rw[e];exact Tf h1 l g.1 j.1
  .obtain ⟨n,n',h1,g⟩:=Za hx d u;have l:=(Rn p k).1.gr (Qe _);rw[t];exact Tf l h1 z.1 g.1
  .have l:=(Rn p k).1.gr (Qe _);have o:=(Rn d u).1.gr (Qe _);rcases Nat.lt_trichotomy i i' with c|c|c
   .obtain ⟨n,n',h1,g⟩:=Za (Akf hx c) d u;rw[Akg _ (Sf c)]at h1;have:=Tf l h1 z.1 g.1;exact absurd this e
   .subst c;rw[hx]at f;cases f;exact Tf l o z.1 j.1
   .obtain ⟨n,n',h1,g⟩:=Za (Akf f c) p k;rw[Akg _ (Sf c)]at h1;have:=Tf h1 o g.1 j.1;exact absurd this.symm t
def Akh {a:Ask} (h:a.can=true):0<a.nodes/\0<a.aa/\a.v.right=true:=by
 simp[Ask.can]at h;exact⟨h.1.1,h.1.2,h.2⟩
def Aw7 {p q:List Nd} (c:q.length=p.length) (e:O8 p q) (zs:List Int) (b:Int) (v:V4) (u:Int):ga q zs b v u=ga p zs b v u:=by
 unfold ga I8;apply List.filter_congr;intro j _;unfold pick;by_cases a:j<p.length
 .rw [e j a,c]
 .have h1:=A2 a;have d:decide (j<q.length)=false:=A2 (by rw[c];exact a);rw[h1,d];simp
def Aki  {R:α->β->β->Prop} {x:α} {p m:β} (h:R x p m):Df R [x] p m:=⟨m,h,rfl⟩
def Akj {a:Int}   {x:Ask×Bool} {U:Bg} {p m:List Nd} (h:Mi a bs x p m) (k:Be vs U p):Be vs (Ak U (Bh a x)) m:=by
 have:=(Td (Aki h) k).1;exact this.gr (by simp[Bw,Lo])
def Aw8 {i:Int}  :∀ {st c:List (Ask×Bool)} {U:Bg} {p s q v:List Nd},Df (Mi i bs) st p q->Df (Mi i bs) c s v->Be vs U p->Be vs U s->st.map Prod.fst=c.map Prod.fst->st=c:=by
 intro st
 induction st with
 | nil=>
  intro c U p s q v _ _ _ _ e
  cases c with
  | nil=>rfl
  | cons y ys=>simp at e
 | cons x xs ih=>
  intro c U p s q v h h' k k' e
  cases c with
  | nil=>simp at e
  | cons y ys=>
   obtain⟨m,h1,h2⟩:=h;obtain⟨m',g,u⟩:=h';obtain⟨a,b⟩:=x;obtain⟨a',z⟩:=y;simp only[Ko,List.cons.injEq]at e;obtain⟨e1,e2⟩:=e;have t:=e1;subst t
   have hb:b=z:=by
    rcases h1 with⟨j,d,_⟩|⟨j,d,l,_⟩|⟨j,d,r,l,c4⟩<;>rcases g with⟨n,f,_⟩|⟨n,f,o,_⟩|⟨n,f,r',o,d4⟩
    .exact Eq.trans d (Eq.symm f)
    .exact Eq.trans d (Eq.symm o)
    .exact absurd n (by have:a.start<0:=j;show ¬0<=a.start;omega)
    .exact Eq.trans l (Eq.symm f)
    .exact Eq.trans l (Eq.symm o)
    .exact absurd f d
    .exact absurd j (by have:a.start<0:=n;show ¬0<=a.start;omega)
    .exact absurd d f
    .have hr:=Tf k k' l.1 o.1;subst hr;have c5:b=true↔r=0:=c4;have d5:z=true↔r=0:=d4;rw[Oq,c5,d5]
   subst hb;rw[ih h2 u (Akj h1 k) (Akj g k') e2]
def Ax.key (s:Ax):Int×Int×List Int:=(s.id,s.start,s.dn)
def Akk {a:Int}   {x:(Ask×Bool)×Ax} {U:Bg} {p q:List Nd} (b:0<=a) (h:Nl a bs x p q) (k:Be vs (Ak U (Bh a x.1)) p) (d:nn U) (e:x.1.2=true->Lq vs a bs x.1.1) :
  Be vs (Ak U (Lr x)) q/\Te vs a bs x.1.1 x.2:=by
 obtain⟨h1,c⟩:=Ac9 (rd:=[x]) b (Aki h) (k.gr (by simp[Bw,Lo])) d (λy f=>by
  rcases Jj.1 f with rfl
  exact e)
 exact⟨h1.gr (by simp[Bw,Lo]),c x (List.mem_singleton_self x)⟩
def Akl {a:Int}   {x:Ask×Bool} {U:Bg} {p m:List Nd} (h:(x.2=false/\m=p)\/(x.2=true/\∃r,Y5 p x.1.dn (Dx a x.1) (Dx a x.1+x.1.aa) x.1.v r m)) (k:Be vs (Ak U (Bh a x)) p) (f:nn U) (c:x.2=true->Lq vs a bs x.1):Be vs U m:=by
 rcases h with⟨b,rfl⟩|⟨b,r,d,e⟩
 .exact k.gr (by simp[Bh,b,Lo])
 .have c:=c b;exact(Ac7 (k.gr (by simp[Bh,b])) f c.ah c.span e d).2
def Aw9 {c st d:Int}   {a:Ask} {zs e:List Int} {U:Bg} {p r q q':List Nd} (h:Qd c bs a st zs p q) (h':Qd c bs a d e r q') (k:Be vs U p) (s:Be vs U r):st=d/\zs=e:=by
 have hl:r.length=p.length:=by rw[k.len,s.len]
 rcases h with⟨i,j,l,_⟩|⟨i,t,xs,is,j,l,v⟩<;>rcases h' with⟨b,m,n,_⟩|⟨b,t',ac,o,m,n,x⟩
 .exact ⟨j.trans m.symm,l.trans n.symm⟩
 .rw [i]at b;cases b
 .rw [i]at b;cases b
 .obtain ⟨y,z,e3⟩:=j.same m (λu=>Aw7 hl (Aj9 k s rfl) _ _ _ u);subst y z e3
  cases o with
  | false=>obtain⟨a1,a2,_⟩:=l rfl;obtain⟨f,g,_⟩:=n rfl;exact⟨a1.trans f.symm,a2.trans g.symm⟩
  | true=>obtain⟨a1,a2,_⟩:=v rfl;obtain⟨f,g,_⟩:=x rfl;exact⟨a1.trans f.symm,a2.trans g.symm⟩
def Axa {x y:(Ask×Bool)×Ax} (h:x.1=y.1) (k:x.2.key=y.2.key):Lr x=Lr y:=by
 obtain⟨a,s⟩:=x;obtain⟨b,t⟩:=y;have c:a=b:=h;subst c;simp only[Ax.key,Se]at k;simp[Lr,G7,k.2.1,k.2.2]
def Axb {a:Int}   (f:0<=a):∀ {rd b:List ((Ask×Bool)×Ax)} {U:Bg} {p s q q':List Nd},Df (Nl a bs) rd p q->Df (Nl a bs) b s q' ->
  Be vs (Ak U (Bw (rd.map λx=>Bh a x.1))) p->Be vs (Ak U (Bw (rd.map λx=>Bh a x.1))) s->nn U->(∀x,x∈rd->x.1.2=true->Lq vs a bs x.1.1)->rd.map Prod.fst=b.map Prod.fst->rd.map (λx=>x.2.key)=b.map (λx=>x.2.key):=by
 intro rd
 induction rd with
 | nil=>
  intro b U p s q q' _ _ _ _ _ _ e
  cases b with
  | nil=>rfl
  | cons y ys=>simp at e
 | cons x xs ih=>
  intro b U p s q q' h h' k k' hn ho e
  cases b with
  | nil=>simp at e
  | cons y ys=>
   simp only[Ko,List.cons.injEq]at e;obtain⟨g,e2⟩:=e;obtain⟨m,h1,h2⟩:=h;obtain⟨m',l,v⟩:=h'
   have hV:nn (Bw (xs.map λx=>Bh a x.1)):=Tc λz hz=>by
    obtain⟨u,hu,rfl⟩:=A5.1 hz;unfold Bh;split
    .next hb=>exact Qg (Lp (ho u (B2 _ hu) hb).span).2.2.2
    .exact Qf
   have o:∀(A B C:Bg),Ak A (Ak B C)=Ak (Ak A C) B:=λA B C=>by rw[Pd B C,G6]
   have kp:Be vs (Ak (Ak U (Bw (xs.map λx=>Bh a x.1))) (Bh a x.1)) p:=k.gr (o _ _ _);have r:Be vs (Ak (Ak U (Bw (xs.map λx=>Bh a x.1))) (Bh a x.1)) s:=k'.gr (o _ _ _);have d:=ho x (Ci ..);have c:=Pe hn hV;obtain⟨a1,a2⟩:=Akk f h1 kp c d;obtain⟨b1,b2⟩:=Akk f l (by rw[<-g];exact r) c (by rw[<-g];exact d);have hk:x.2.key=y.2.key:=(by obtain⟨n,g1,g2,g3⟩:=h1;obtain⟨n',t,i,j⟩:=l;have kn:=Akl g1 kp c d;have ad:=Akl t (by rw[<-g];exact r) c (by rw[<-g];exact d);rw[<-g]at j i;obtain⟨f1,f2⟩:=Aw9 g3 j kn ad;simp only[Ax.key,Se];exact⟨g2.trans i.symm,f1,f2⟩);have ac:nn (Lr x):=Ake a2;rw[Ko,Ko,hk];refine Cv _ (ih h2 v (U:=Ak U (Lr x)) (a1.gr ?_) (b1.gr ?_) (Pe hn ac) (λz hz=>ho z (B2 _ hz)) e2)
   .rw [G6,Pd _ (Lr x),<-G6]
   .rw [<-Axa g hk,G6,Pd _ (Lr x),<-G6]
def Axc  {a:Int}  {o:List Av} {b:List Ask} {q r:List Ax} (h1:Jv vs a bs o b q) (u:Jv vs a bs o b r):q.map Ax.key=r.map Ax.key:=by
 obtain⟨ps,q1,q2,st,rd,l1,m,s,r1,g,t⟩:=h1.go;obtain⟨ac,ad,al,an,am,k,c,e,l,h,i⟩:=u.go;obtain⟨ok,p,v⟩:=Ve l1;obtain⟨_,d,_⟩:=Ve k;have f:=Aw8 m c p d (s.trans e.symm);subst f;obtain⟨k2,y⟩:=Td m p;obtain⟨j,_⟩:=Td c d;have n:(rd.map λx=>Bh a x.1)=st.map (Bh a):=by rw[<-g,Dm];rfl
 have:=Axb ok.lo r1 l (by rw[n];exact k2) (by rw[n];exact j) (Y8 v) (λx z=>y x.1 (by rw[<-g];exact F1 z)) (g.trans h.symm);rw[<-t,<-i,Dm,Dm];exact this
def Ask.er (a:Ask):Ask:={ a with po:=I,pn:=0,pc:=0,go:=I,gn:=0,gc:=0 }
def Av.er (h:Av):Av:={ h with go:=I,gn:=0,gc:=0 }
def Ax.er (s:Ax):Ax:={ s with go:=Option.none,gn:=0,gc:=0 }
def Zb {α γ β:Type} {R:α->β->β->Prop} {S:γ->β->β->Prop} {f:α->γ} (b:∀x p q,R x p q->S (f x) p q) {xs:List α}:∀ {p q:β},Df R xs p q->Df S (xs.map f) p q:=by
 induction xs with
 | nil=>intro p q h;exact h
 | cons x xs ih=>intro p q ⟨m,h1,a⟩;exact⟨m,b _ _ _ h1,ih a⟩
def Axd  {a:Ask} :Ga bs a zs↔Ga bs a.er zs:=⟨λh=>⟨h.od,h.aw,h.len⟩,λh=>⟨h.od,h.aw,h.len⟩⟩
def Akm  {b start:Int} {a:Ask} :Nj bs b a start zs↔Nj bs b a.er start zs:=by
 unfold Nj;rw[Axd];exact Iff.rfl
def Axe {a:Int}  (x:Ask×Bool) (p q:List Nd) (h:Mi a bs x p q):Mi a bs (x.1.er,x.2) p q:=by
 rcases h with h|⟨h1,b,d⟩|⟨h1,b,d⟩
 .exact .inl h
 .exact .inr (.inl ⟨h1,λc=>b (Akm.2 c),d⟩)
 .exact .inr (.inr ⟨h1,Akm.1 b,d⟩)
def Axf {a:Int}  (x:(Ask×Bool)×Ax) (p q:List Nd) (h:Nl a bs x p q):Nl a bs ((x.1.1.er,x.1.2),x.2.er) p q:=h
def Adb  {e:Nat} {a:Int} {d:List Av} {r:Int} {q:List Nd} (h:I9 vs e a d r q):I9 vs e a (d.map Av.er) r q:=by
 rcases h with h|⟨ok,b,c,h|⟨i,k,x,m,n,l,g,j⟩⟩
 .exact .inl h
 .exact .inr ⟨ok,b,c,.inl ⟨h.1,Zb (S:=Qc a) (f:=Av.er) (λ_ _ _ h=>h) h.2⟩⟩
 .exact .inr ⟨ok,b,c,.inr ⟨i,k,x.er,m,n,by simp[l],by rw[<-List.map_take];exact Zb (S:=Qc a) (f:=Av.er) (λ_ _ _ h=>h) g,j⟩⟩
def Akn  {c:Int}  {d:List Av} {b:List Ask} {a:List Ax} (h:Jv vs c bs d b a):Jv vs c bs (d.map Av.er) (b.map Ask.er) (a.map Ax.er):=by
 obtain⟨k,l,m,st,rd,j,e,f,n,g,i⟩:=h.go;refine⟨k,l,m,st.map λx=>(x.1.er,x.2),rd.map λx=>((x.1.1.er,x.1.2),x.2.er),Adb j,Zb Axe e,?_,Zb Axf n,?_,?_⟩
 .rw [<-f,Dm,Dm];rfl
 .rw [<-g,Dm,Dm];rfl
 .rw [<-i,Dm,Dm];rfl
