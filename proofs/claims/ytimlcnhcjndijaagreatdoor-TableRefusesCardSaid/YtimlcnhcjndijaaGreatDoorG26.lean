/- Parts of a proof. No condition. -/
import Derived.Test.YtimlcnhcjndijaaGreatDoorG25
set_option linter.all false
set_option maxRecDepth 100000
set_option maxHeartbeats 12800000
namespace Go.Proofs.YtimlcnhcjndijaaGreatDoor
open Option renaming some->Z,none->I
open IntKind renaming i64->O
open Value renaming int->G,slice->J,pointer->Q,tuple->E,bool->D
open Obj renaming cells->V
open Ending renaming returned->K
open Go renaming World->WD,Value->VL
open Go.RowKit renaming Below->BW
open Go.Proofs.Tryz
namespace Pl
open Go.RowKit
variable{after u:Int}{bs:List Bool}{zs:List Int}{vs:List V4}{sz uc un:Nat}{po uo:Option Addr}{α β:Type}{w w' wr:WD}
structure Mw {α:Type} (cells:α->Array VL) (sz:Nat) (ok:WD->α->Prop) (w:WD) (ao:Option Addr) (n:Nat) (xs:List α):Prop where
 len:xs.length=n
 max:n<=9223372036854775807
 cell:∀i x,xs[i]?=Z x->∃b off,ao=Z ⟨b,off,I⟩/\b<w.heap.size/\(∀j,j<sz->w.cell? ⟨b,off+i*sz+j,I⟩=(cells x)[j]?)/\ok w x
def Mw.below  {cells:α->Array VL}  {ok:WD->α->Prop}  {f:Option Addr} {n:Nat} {xs:List α} (h:Mw cells sz ok w f n xs)
  (g:BW w.heap.size w w') (c:∀x,ok w x->ok w' x):Mw cells sz ok w' f n xs:=
 ⟨h.len,h.max,λi x o=>by
  obtain⟨b,d,e,a,k,m⟩:=h.cell i x o
  exact⟨b,d,e,By a g.size,λj l=>(Ag g a).trans (k j l),c x m⟩⟩
def Mw.get  {cells:α->Array VL}  {ok:WD->α->Prop}  {a:Option Addr} {n:Nat} {xs:List α} (h:Mw cells sz ok w a n xs) {k:Nat} (b:k<n):∃x,xs[k]?=Z x:=
 ⟨xs[k]'(by rw[h.len];exact b),A4 _⟩
structure Ax where
 go:Option Addr
 gn:Nat
 gc:Nat
 eh:List Int
 v:V4
 ox:Int
abbrev Ax.cells (h:Ax):Array VL:=#[J h.go h.gn h.gc,G O h.v.a,G O h.v.b,G O h.v.c,G O h.v.d,G O h.ox]
def Ax.obj (h:Ax):Obj:=V h.cells 261 (0,0)
structure Ax.ok (w:WD) (h:Ax):Prop where
 ak:Ap w h.go h.gn h.eh
 qg:h.gn<=h.gc
def Ax.ok.below  {h:Ax} (a:h.ok w) (b:BW w.heap.size w w'):h.ok w':=⟨a.ak.below b Ln,a.qg⟩
def Avz  {b:Nat} {h:Ax} (e:w.heap[b]?=Z h.obj):w.cell? ⟨b,0,I⟩=Z (J h.go h.gn h.gc)/\w.cell? ⟨b,1,I⟩=Z (G O h.v.a)/\w.cell? ⟨b,2,I⟩=Z (G O h.v.b) /\
  w.cell? ⟨b,3,I⟩=Z (G O h.v.c)/\w.cell? ⟨b,4,I⟩=Z (G O h.v.d)/\w.cell? ⟨b,5,I⟩=Z (G O h.ox):=
 ⟨Aa e 0,Aa e 1,Aa e 2,Aa e 3,Aa e 4,Aa e 5⟩
abbrev Y5:=Mw Ax.cells 6 Ax.ok
def Vj {w g:WD} {a:Option Addr} {n:Nat}  {f:List Nd} (h:Ap w a n zs) (o:w.heap.size<=g.heap.size) (k:∀b,Be f b->g.heap.size<=b):0<n->xa a (Be f):=λh0 b l e i=>by
 obtain⟨m,d,c,j,_⟩:=h.cell 0 h0;rw[e]at c;cases c;have:=k b i;omega
def Dc {α β:Type} (R:α->β->β->Prop):List α->β->β->Prop
 | [],p,q=>q=p
 | x :: xs,p,q=>∃m,R x p m/\Dc R xs m q
def Aj1  {R:α->β->β->Prop} {xs ys:List α} {p q:β}:Dc R (xs++ys) p q↔∃m,Dc R xs p m/\Dc R ys m q:=by
 induction xs generalizing p with
 | nil=>exact⟨λh=>⟨p,rfl,h⟩,λ⟨m,e,h⟩=>by cases e;exact h⟩
 | cons x xs ih=>
  constructor
  .rintro ⟨m,h1,d⟩;obtain⟨c,a,b⟩:=ih.1 d;exact⟨c,⟨m,h1,a⟩,b⟩
  .rintro ⟨c,⟨m,h1,a⟩,b⟩;exact⟨m,h1,ih.2 ⟨c,a,b⟩⟩
def Y6  {R:α->β->β->Prop} {xs:List α} {x:α} {p m q:β} (h:Dc R xs p m) (a:R x m q):Dc R (xs++[x]) p q:=Aj1.2 ⟨m,h,q,a,rfl⟩
def Rj  {xs:List α} {k:Nat} {x:α} (h:xs[k]?=Z x):xs.take (k+1)=xs.take k++[x]:=by
 rw[L7,h];rfl
structure Tk (ps q:List Nd):Prop where
 len:q.length=ps.length
 whole:∀i,i<ps.length->(nd q i).whole=(nd ps i).whole
 inv:∀i,i<q.length->Inv (nd q i).whole (nd q i).l
def Vk  {b c cap:Nat}  {a q:List Nd} (h:im w a q) (d:B6 w' b c po cap q):Tk a q:=⟨h.len,h.whole,d.inv⟩
def P2 (ps:List Nd) (zs:List Int) (fr tt:Int) (v:V4) (r:Int) (q:List Nd):Prop:=Lw ps zs fr tt v r q/\Tk ps q
def Y7 (ps:List Nd) (zs:List Int) (fr tt:Int) (v:V4) (r:Int) (q:List Nd):Prop:=Y3 ps zs fr tt v r q/\Tk ps q
def My (now:Int) (h:Ax):Int:=max h.ox (now+1)
def P3 (now:Int) (h:Ax) (ps q:List Nd):Prop:=P2 ps h.eh now (My now h) h.v 0 q
structure Rk (vs:List V4) (un:Nat) (now:Int):Prop where
 gq:vs.length<=16
 right:∀i,i<vs.length->(vv vs i).right=true
 up:un=vs.length
 lo:0<=now
 hi:now<1099511627776
structure Ac4 (vs:List V4) (ps:List Nd):Prop where
 len:ps.length=vs.length
 node:∀i,i<vs.length->(nd ps i).whole=vv vs i/\(nd ps i).l=[⟨0,vv vs i⟩]
 inv:∀i,i<ps.length->Inv (nd ps i).whole (nd ps i).l
def Jn (vs:List V4) (un:Nat) (now:Int) (hs:List Ax) (r:Int) (q:List Nd):Prop:=
 (¬Rk vs un now/\r=1)\/(Rk vs un now/\∃ps0,Ac4 vs ps0/\((r=0/\Dc (P3 now) hs ps0 q) \/
  (r≠0/\∃k h m q',hs[k]?=Z h/\Dc (P3 now) (hs.take k) ps0 m/\P2 m h.eh now (My now h) h.v r q')))
def Aj2 (vs:List V4) (uo:Option Addr) (un uc:Nat) (bs:List Bool) (now:Int) (hs:List Ax) (w:WD) (e:Ending) (w':WD):Prop:=
 BW w.heap.size w w'/\((∃r,r≠0/\e=K (E #[Q I,G O r])/\Jn vs un now hs r []) \/
  (∃tb gb gs cap po q,e=K (E #[Q (Z ⟨tb,0,I⟩),G O 0])/\B6 w' gb gs po cap q/\sy w' tb gb uo un uc bs now/\(∀b,Be q b->w.heap.size<=b)/\Jn vs un now hs 0 q))
structure mg (w:WD) (tb gb gs cap:Nat) (po uo:Option Addr) (un uc:Nat) (bs:List Bool) (now:Int) (q:List Nd) (wr:WD):Prop where
 low:BW w.heap.size w wr
 dt:B6 wr gb gs po cap q
 tab:sy wr tb gb uo un uc bs now
 fw:∀b,Be q b->w.heap.size<=b
def mg.below  {f d e cap:Nat} {po j:Option Addr} {i g:Nat} {c:List Bool} {a:Int} {q:List Nd}  (h:mg w f d e cap po j i g c a q wr) (b:BW wr.heap.size wr w'):mg w f d e cap po j i g c a q w':=
 ⟨h.low.trans (b.mono h.low.size),h.dt.below b,h.tab.below b,h.fw⟩
def mg.mod  {s k l cap:Nat} {po p:Option Addr} {o t:Nat} {r:List Bool} {g:Int} {q n:List Nd}  (h:mg w s k l cap po p o t r g q wr) (m:0<o->∀b d,p=Z ⟨b,d,I⟩->b<w.heap.size) (z:B6 w' k l po cap n) (y:im wr q n) (j:Mod (Be q) wr w'):mg w s k l cap po p o t r g n w':=
 ⟨Avk h.low j h.fw h.low.size,z,⟨(j.block _ (Ab h.tab.head) (J8 h.dt h.tab.head ad9 ad9)).trans h.tab.head,h.tab.up.len,h.tab.up.max,λi x=>by
  obtain⟨b,d,e,f,v⟩:=h.tab.up.cell i x;have hu:=m ao9 b d e
  exact⟨b,d,e,By f j.size,(Bs (a:=⟨b,d+i,I⟩) (w:=wr) (j.block b f (λc=>by have:=h.fw b c;omega))).trans v⟩⟩, λb u=>by
  rcases y.fw u with c|c
  .exact h.fw b c
  .exact Ay h.low.size c⟩
def Mu.lt  {d:Option Addr} {n:Nat} {i:List Bool} (h:Mu w d n i) (h0:0<n):∀b a,d=Z ⟨b,a,I⟩->b<w.heap.size:=λb a e=>by
 obtain⟨j,g,f,c,_⟩:=h.cell 0 h0;rw[e]at f;cases f;exact c
def Av0 (vo uo ho:Option Addr) (n c un uc m mc:Nat) (vs:List V4) (bs:List Bool) (f:Int) (hs:List Ax) (w:WD) (hv:Ow w vo n vs) (hu:Mu w uo un bs) (hh:Y5 w ho m hs) :
  Calls prog 185 #[J vo n c,J uo un uc,G O f,J ho m mc] w (Aj2 vs uo un uc bs f hs w):=by
 have u:=hv.len;have aU:=hh.max;have aN:=λh0=>hu.lt h0;replace⟨hv,hu,hh,u,aN⟩:=H5 hv hu hh u aN;go_enter func185,ntmps185;go_wp2_with fail;refine(Avq vo n c vs w hv.out).mono ?_;rintro e w1 (⟨aK,rfl,r⟩|⟨aO,z,gb,gs,po,cap,ps,rfl,aR,y,j,s,g,r⟩)
 .have p:BW w.heap.size w (w1.alloc (V #[Q I,J uo un uc,G O f] 270 (0,0))):=r.alloc r.size _;have hrel:Jn vs un f hs 1 []:=.inl ⟨λh=>aK ⟨by rw[<-u.out];exact h.gq,λi hi=>h.right i (by rw[u.out];exact hi)⟩,rfl⟩;replace⟨aK,r,p,hrel⟩:=H4 aK r p hrel;go_wp2;go_ret2;exact⟨p.out,.inl ⟨1,ad9,rfl,hrel.out⟩⟩
 have p:BW w.heap.size w (w1.alloc (V #[Q (Z ⟨gb,0,I⟩),J uo un uc,G O f] 270 (0,0))):=r.alloc r.size _
 have aA:Hid (¬Rk vs un f->Aj2 vs uo un uc bs f hs w (K (E #[Q I,G O 1])) (w1.alloc (V #[Q (Z ⟨gb,0,I⟩),J uo un uc,G O f] 270 (0,0)))):=
  λh=>⟨p,.inl ⟨1,ad9,rfl,.inl ⟨h,rfl⟩⟩⟩
 by_cases q1:un=n;rotate_left
 .have d1:((un:Int) != (n:Int))=true:=by simp;omega
  have l:=aA (λh=>q1 (h.up.trans u.out));replace⟨q1,l,r,p,y,s,g,z⟩:=H8 q1 l r p y s g z;replace j:=Hh j;go_wp2;go_ret2;exact l.out
 have d1:((un:Int) != (n:Int))=false:=by simp;omega
 by_cases q2:f<0
 .have d2:decide (f<0)=true:=by simpa using q2
  have l:=aA (λh=>by have:=h.lo;omega);replace⟨q1,q2,l,r,p,y,s,g⟩:=H8 q1 q2 l r p y s g;replace⟨z,j⟩:=H2 z j;go_wp2;go_ret2;exact l.out
 have d2:decide (f<0)=false:=by simpa using q2
 by_cases q3:1099511627776<=f
 .have d3:decide (1099511627776<=f)=true:=by simpa using q3
  have l:=aA (λh=>by have:=h.hi;omega);replace⟨q1,q2,q3,l,r,p,y,s⟩:=H8 q1 q2 q3 l r p y s;replace⟨g,z,j⟩:=H3 g z j;go_wp2;go_ret2;exact l.out
 have d3:decide (1099511627776<=f)=false:=by simpa using q3
 have aE:Rk vs un f:=⟨by rw[u.out];exact aO,λi hi=>z i (by rw[<-u.out];exact hi),q1.trans u.symm,ao9,ao9⟩;have aC:Ac4 vs ps:=⟨j.trans u.symm,λi hi=>s i (by rw[<-u.out];exact hi),y.inv⟩
 have aI:mg w w1.heap.size gb gs cap po uo un uc bs f ps (w1.alloc (V #[Q (Z ⟨gb,0,I⟩),J uo un uc,G O f] 270 (0,0))):=
  ⟨p,y.below Bn,⟨Ah _ _,hu.below p Ln⟩,g⟩
 have ew:IntKind.i64.wrap (f+1)=f+1:=Fr _ ao9;clear aR aA;replace⟨q1,q2,q3,r,p,y,s,g⟩:=H8 q1 q2 q3 r p y s g;replace⟨z,j,aE,aC,aI⟩:=H5 z j aE aC aI;go_wp2;go_loopw [12,13,42] (λ_ _ i wr=>∃(k:Nat) (q:List Nd),i=G O k/\k<=m/\Hid (mg w w1.heap.size gb gs cap po uo un uc bs f q wr)/\Hid (Dc (P3 f) (hs.take k) ps q)) (λ_ _ i _=>m-(intOf i).toNat)
 case atStart=>exact⟨0,ps,rfl,As _,aI.out,rfl⟩
 case round=>
  obtain⟨k,q,rfl,hk,hL,hC⟩:=hrel;by_cases hc:k<m
  .have aQ:(k:Int)<m:=ao9;have aV:(0:Int)<=(k:Int):=ao9;obtain⟨x,hx⟩:=hh.get hc;obtain⟨b,aX,rfl,hb,a0,av⟩:=hh.cell k x hx;have c0:=(Ag hL.low hb).trans (a0 0 ao9);have c1:=(Ag hL.low hb).trans (a0 1 ao9);have c2:=(Ag hL.low hb).trans (a0 2 ao9);have c3:=(Ag hL.low hb).trans (a0 3 ao9);have c4:=(Ag hL.low hb).trans (a0 4 ao9);have c5:=(Ag hL.low hb).trans (a0 5 ao9);simp at c0 c1 c2 c3 c4 c5;clear a0;obtain⟨T,hT⟩:=Ex (My f x);have aW:(if x.ox<f+1 then f+1 else x.ox)=T:=(by rw[hT];unfold My;omega);have t:mg w w1.heap.size gb gs cap po uo un uc bs f q (wr.alloc x.obj):=hL.below Bn;obtain⟨WA,an⟩:=Ex (wr.alloc x.obj);rw[<-an]at t;have ac:WA.heap[wr.heap.size]?=Z x.obj:=by rw[an];exact Ah _ _
   have aL:=
    λW' h=>Acz gb gs cap po q x.go x.gn x.gc x.eh f T x.v W' (t.dt.below h) (av.ak.below (t.low.trans (h.mono t.low.size)) Ln) (Vj av.ak Ln t.fw) av.qg
   have t0:=Aa t.tab.head 0;simp at t0;have lt:=Ab t.tab.head;obtain⟨y0,y1,y2,y3,y4,y5⟩:=Avz ac;have lx:=Ab ac;have aM:=J8 t.dt t.tab.head ad9 ad9;have ad:=J8 t.dt ac ad9 ad9;have aB:BW WA.heap.size WA WA.drew:=(Below.refl _ _).drew;replace⟨hx,av,hT,t,ac,aL,aM,ad⟩:=H8 hx av hT t ac aL aM ad;replace aB:=Hh aB
   have aP:Hid (∀w':WD,(∀b,b<WA.heap.size->¬Be q b->∀o,w'.cell? ⟨b,o,I⟩=WA.cell? ⟨b,o,I⟩)->w'.cell? ⟨w1.heap.size,0,I⟩=Z (Q (Z ⟨gb,0,I⟩))/\w'.cell? ⟨wr.heap.size,0,I⟩=Z (J x.go x.gn x.gc)/\w'.cell? ⟨wr.heap.size,1,I⟩=Z (G O x.v.a)/\w'.cell? ⟨wr.heap.size,2,I⟩=Z (G O x.v.b)/\w'.cell? ⟨wr.heap.size,3,I⟩=Z (G O x.v.c)/\w'.cell? ⟨wr.heap.size,4,I⟩=Z (G O x.v.d)/\w'.cell? ⟨wr.heap.size,5,I⟩=Z (G O x.ox)):=
    λw' h=>⟨(h _ lt aM.out _).trans t0,(h _ lx ad.out _).trans y0,(h _ lx ad.out _).trans y1,(h _ lx ad.out _).trans y2,(h _ lx ad.out _).trans y3,(h _ lx ad.out _).trans y4,(h _ lx ad.out _).trans y5⟩
   go_wp2_with fail;have ao:wr.alloc (V x.cells 261 (0,0))=WA:=an.symm
   try rw[ao]
   replace⟨an,ao⟩:=H2 an ao;clear c0 c1 c2 c3 c4 c5;go_region_held3 (λw'=>w'.cell? ⟨w1.heap.size,0,I⟩=Z (Q (Z ⟨gb,0,I⟩))/\w'.cell? ⟨wr.heap.size,0,I⟩=Z (J x.go x.gn x.gc)/\w'.cell? ⟨wr.heap.size,1,I⟩=Z (G O x.v.a)/\w'.cell? ⟨wr.heap.size,2,I⟩=Z (G O x.v.b)/\w'.cell? ⟨wr.heap.size,3,I⟩=Z (G O x.v.c)/\w'.cell? ⟨wr.heap.size,4,I⟩=Z (G O x.v.d)/\w'.cell? ⟨wr.heap.size,5,I⟩=Z (G O x.ox))
    (first
      | (go_keep;done)
      | with_reducible exact aP.out _ aS.out)
    (first
      | (go_at_call 236;refine(aL _ aB.out).mono ?_;rintro e w8 ⟨r8,aG,rfl,aJ,aF,aD,al⟩;have aS:Hid (∀b,b<WA.heap.size->¬Be q b->∀o,w8.cell? ⟨b,o,I⟩=WA.cell? ⟨b,o,I⟩):=λb hb hn o=>Bs (a:=⟨b,o,I⟩) (w:=WA) (al.block b hb hn)
         replace⟨aJ,aF,aD,al⟩:=H4 aJ aF aD al))
   have am:=(t.below aB.out).mod aN.out aF.out aD.out al.out;have af:P2 q x.eh f (My f x) x.v r8 aG:=⟨by rw[<-hT.out];exact aJ.out,Vk aD.out aF.out⟩;by_cases q5:r8=0
   .have d5:(r8 != 0)=false:=(by simpa using q5);have aH:Dc (P3 f) (hs.take (k+1)) ps aG:=(by rw[Rj hx.out];exact Y6 hC.out (by rw[q5]at af;exact af));replace⟨q5,af,am,aH⟩:=H4 q5 af am aH;clear t0 lt y0 y1 y2 y3 y4 y5 lx;go_wp2;go_roundw
    case rel=>exact⟨k+1,aG,by go_num,ao9,am.out,aH.out⟩
    case measure=>simp[intOf];omega
   .have d5:(r8 != 0)=true:=(by simpa using q5);have hrel:Jn vs un f hs r8 []:=.inr ⟨aE.out,ps,aC.out,.inr ⟨q5,k,x,q,aG,hx.out,hC.out,af⟩⟩;have ap:=am.low;have aT:=Hh q5;clear q5;replace⟨af,am,hrel,ap⟩:=H4 af am hrel ap;clear t0 lt y0 y1 y2 y3 y4 y5 lx;go_wp2;go_ret2;exact⟨ap.out,.inl ⟨r8,aT.out,rfl,hrel.out⟩⟩
  .have aQ:¬(k:Int)<m:=ao9;have hrel:Jn vs un f hs 0 q:=.inr ⟨aE.out,ps,aC.out,.inl ⟨rfl,by have h:=hC.out;rwa [Cr (by rw[hh.len];omega)]at h⟩⟩;replace hrel:=Hh hrel;go_wp2;go_ret2;exact⟨hL.low,.inr ⟨w1.heap.size,gb,gs,cap,po,q,rfl,hL.dt,hL.tab,hL.fw,hrel.out⟩⟩
def Ask.ok.kz  {a:Ask} (h:a.ok w) (b:BW w.heap.size w w'):a.ok w':=h.below b Ln
abbrev Y8:=Mw Ask.cells 10 (λw a=>Ask.ok w a)
structure A2 where
 id:Int
 start:Int
 go:Option Addr
 gn:Nat
 gc:Nat
 eh:List Int
abbrev A2.cells (s:A2):Array VL:=#[G O s.id,G O s.start,J s.go s.gn s.gc]
structure A2.ok (w:WD) (s:A2):Prop where
 ak:Ap w s.go s.gn s.eh
 qg:s.gn<=s.gc
def A2.ok.below  {s:A2} (h:s.ok w) (a:BW w.heap.size w w'):s.ok w':=⟨h.ak.below a Ln,h.qg⟩
abbrev Vl:=Mw A2.cells 3 (λw s=>A2.ok w s)
def Eu (now:Int) (a:Ask):Int:=max a.start now
def Lx (now:Int) (bs:List Bool) (x:Ask×Bool) (ps q:List Nd):Prop:=
 (x.1.start<0/\x.2=false/\q=ps) \/
 (0<=x.1.start/\¬Mv bs now x.1 (Eu now x.1) x.1.eh/\x.2=false/\q=ps) \/
 (0<=x.1.start/\Mv bs now x.1 (Eu now x.1) x.1.eh/\∃r,P2 ps x.1.eh (Eu now x.1) (Ny (Eu now x.1) x.1.aa) x.1.v r q/\(x.2=true↔r=0))
def Rl (now:Int) (bs:List Bool) (a:Ask) (st:Int) (zs:List Int) (ps q:List Nd):Prop:=
 (a.can=false/\st=-1/\zs=[]/\q=ps) \/
 (a.can=true/\∃t xs is,F7 ps (Bo (oq bs a.ib)) a.nodes a.v a.aa now t xs is/\(is=false->st=-1/\zs=[]/\q=ps)/\(is=true->st=t/\zs=Bo xs/\∃r,P2 ps (Bo xs) t (t+a.aa) a.v r q))
def N1 (now:Int) (bs:List Bool) (x:(Ask×Bool)×A2) (ps q:List Nd):Prop:=
 ∃m,((x.1.2=false/\m=ps)\/(x.1.2=true/\∃r,Y7 ps x.1.1.eh (Eu now x.1.1) (Eu now x.1.1+x.1.1.aa) x.1.1.v r m))/\x.2.id=x.1.1.id/\Rl now bs x.1.1 x.2.start x.2.eh m q
structure Ly (vs:List V4) (now:Int) (bs:List Bool) (hs:List Ax) (asks:List Ask) (slots:List A2):Prop where
 go:∃ps q1 q2 st rd,Jn vs bs.length now hs 0 ps/\Dc (Lx now bs) st ps q1/\st.map Prod.fst=asks/\Dc (N1 now bs) rd q1 q2/\rd.map Prod.fst=st/\rd.map Prod.snd=slots
def Aj3 (vs:List V4) (now:Int) (bs:List Bool) (hs:List Ax) (asks:List Ask) (w:WD) (e:Ending) (w':WD):Prop:=
 BW w.heap.size w w'/\((∃r,r≠0/\e=K (E #[J I 0 0,G O r])/\Jn vs bs.length now hs r []) \/
  (∃so sc slots,e=K (E #[J so asks.length sc,G O 0])/\Ly vs now bs hs asks slots/\Vl w' so asks.length slots/\asks.length<=sc/\(∀b off,so=Z ⟨b,off,I⟩->w.heap.size<=b)/\∀s,s∈slots->∀b off,s.go=Z ⟨b,off,I⟩->w.heap.size<=b))
def Av1  {R:α->β->β->Prop} {xs:List α} {p q:β} (h:Dc R xs p q) {x:α} (a:x∈xs):∃c d,R x c d:=by
 induction xs generalizing p with
 | nil=>cases a
 | cons y ys ih=>
  obtain⟨m,h1,b⟩:=h;rcases Ei.1 a with rfl|a
  .exact ⟨p,m,h1⟩
  .exact ih b a
def Av2 {fr a:Int} {v:V4} (h:Bm fr (Ny fr a) v=true):Ny fr a=fr+a/\0<=fr/\fr<fr+a/\fr+a<=1099511627776:=by
 obtain⟨c,d,b,e⟩:=Mq h;unfold Ny at *
 split at b<;>simp_all<;>omega
def Aj4 {b:Int} {i:List Bool} {a:Ask} {g q:List Nd} (h:Lx b i (a,true) g q):Mv i b a (Eu b a) a.eh/\Ef g.length a.eh/\Bm (Eu b a) (Eu b a+a.aa) a.v=true /\
  P2 g a.eh (Eu b a) (Eu b a+a.aa) a.v 0 q:=by
 rcases h with⟨_,h,_⟩|⟨_,_,h,_⟩|⟨_,h1,r,j,l⟩
 .cases h
 .cases h
 .have m:=l.1 rfl;subst m;have d:=j;rcases j.1 with⟨_,c,_⟩|⟨_,_,_,c,_⟩|⟨k,f,_⟩
  .cases c
  .cases c
  .have e:=(Av2 f).1;rw[e]at f d;exact⟨h1,k,f,d⟩
def Av  (cells:α->Array VL) (xs:List α):List VL:=xs.flatMap λx=>(cells x).toList
def Pm  (cells:α->Array VL) (xs ys:List α):Av cells (xs++ys)=Av cells xs++Av cells ys:=by simp[Av]
def Sl  (cells:α->Array VL) (x:α):Av cells [x]=(cells x).toList:=by simp[Av]
def Iw  {cells:α->Array VL}  (a:∀x,(cells x).size=sz) (xs:List α) {i j:Nat} {x:α} (b:xs[i]?=Z x) (f:j<sz):(Av cells xs)[i*sz+j]?=(cells x)[j]?:=by
 induction xs generalizing i with
 | nil=>simp at b
 | cons y ys ih=>
  have d:=a y;rw[show Av cells (y :: ys)=(cells y).toList++Av cells ys from by simp[Av]]
  cases i with
  | zero=>
   have e:x=y:=(by simpa using b.symm);subst e;rw[Fd (by simp;omega)];simp
  | succ i=>
   have c:ys[i]?=Z x:=(by simpa using b);rw[G7 (by simp[d,K7];omega)];have:=ih c;rw[show(i+1)*sz+j-(cells y).toList.length=i*sz+j by simp[d,K7];omega,this]
def Av3  {cells:α->Array VL}  (b:∀x,(cells x).size=sz) {ok:WD->α->Prop}  {base g cap:Nat} {T:TypeId} {xs:List α} {n:Nat} (h:w.ownsRow base T sz (J (Z ⟨g,0,I⟩) n cap) n (Av cells xs)) (e:xs.length=n)
  (a:n<=9223372036854775807) (f:∀x,x∈xs->ok w x):Mw cells sz ok w (Z ⟨g,0,I⟩) n xs:=by
 refine⟨e,a,λi x c=>?_⟩;have k:=(Aq.1 c).1;refine⟨g,0,rfl,(h.lt g rfl).2,λj d=>?_,f x (Ai c)⟩
 rw[Cn,Fo h (i*sz+j) (by
  have:(i+1)*sz<=n*sz:=Wr _ ao9;rw[K7]at this
  omega),Iw b xs c d]
def Aj5:(prog.info? 224).map (λi=>(i.zero,i.size,i.bytes))=Z (Z (.agg #[G O 0,G O 0,J I 0 0]),3,40):=by kernel_rfl
def Av4:(prog.info? 4).map (λi=>(i.zero,i.size,i.bytes))=Z (Z (D false),1,1):=by kernel_rfl
def Av5 (n:Nat):madeCells (Value.bool false).cells n=(List.replicate n (D false)).toArray:=by
 apply Uj.1;apply Eg;intro j;by_cases a:j<n
 .simp [madeCells,Value.cells,a,Nat.mod_one]
 .simp [madeCells,Value.cells,a]
def Aj6 (n:Nat) (d:n<=1000000):∀w:WD,(Instr.makeSlice 216 (G O (n:Int)) (G O (n:Int))).run prog w=.ok (J (Z ⟨w.heap.size,0,I⟩) n n) (w.alloc (V (Array.replicate n (D false)) 4 (0,0))):=by
 intro w;obtain⟨i,b,c,h1,a⟩:=B4 Av4;have:=Se (P:=prog) w 216 4 i _ underlying216 b c O O n n ao9 ao9 (by rw[a];omega) ao9;rw[this];simp only[Ki,h1,Oi];rw[Av5,Aaf]
def Av6 (n:Nat) (d:n<=1000000):∀w:WD,(Instr.makeSlice 217 (G O 0) (G O (n:Int))).run prog w=.ok (J (Z ⟨w.heap.size,0,I⟩) 0 n) (w.alloc (V (madeCells (Value.agg #[G O 0,G O 0,J I 0 0]).cells (n*3)) 224 (0,0))):=by
 intro w;obtain⟨i,b,c,h1,a⟩:=B4 Aj5;have:=Se (P:=prog) w 217 224 i _ Aao b c O O 0 n ao9 ao9 (by rw[a];omega) ao9;rw[this];simp only[Ki,Int.toNat_zero,h1]
structure nu (w:WD) (tb gb gs cap:Nat) (po uo:Option Addr) (un uc:Nat) (bs:List Bool) (now:Int) (q:List Nd) (kb:Nat) (ks:List VL) (wr:WD):Prop where
 la:mg w tb gb gs cap po uo un uc bs now q wr
 kept:wr.heap[kb]?=Z (V ks.toArray 4 (0,0))
 kw:w.heap.size<=kb
def nu.below  {i c d cap:Nat} {po l:Option Addr} {k j:Nat} {b:List Bool} {a:Int} {q:List Nd} {f:Nat} {g:List VL}  (h:nu w i c d cap po l k j b a q f g wr) (e:BW wr.heap.size wr w'):nu w i c d cap po l k j b a q f g w':=
 ⟨h.la.below e,Ae e h.kept (Ab h.kept),h.kw⟩
def nu.mod  {o c d cap:Nat} {po j:Option Addr} {i p:Nat} {k:List Bool} {a:Int} {q g:List Nd} {m:Nat} {n:List VL}  (h:nu w o c d cap po j i p k a q m n wr) (e:0<i->∀b f,j=Z ⟨b,f,I⟩->b<w.heap.size) (s:B6 w' c d po cap g) (r:im wr q g) (l:Mod (Be q) wr w'):nu w o c d cap po j i p k a g m n w':=
 ⟨h.la.mod e s r l,(l.block _ (Ab h.kept) (J8 h.la.dt h.kept ad9 ad9)).trans h.kept,h.kw⟩
def mg.setOther  {tb r m cap:Nat}    {l:Int} {q:List Nd}  {b o:Nat} {x:Array VL} {T:TypeId} {v:VL} (h:mg w tb r m cap po uo un uc bs l q wr) (n:wr.heap[b]?=Z (V x T (0,0)))
  (h1:T≠363) (s:T≠398) (h3:T≠354) (h4:T≠270) (hw:w.heap.size<=b) (ad:0<un->∀b f,uo=Z ⟨b,f,I⟩->b<w.heap.size) (k:∀(i:Nat) (u:VL),x[i]?=Z u->∀p:Addr,u≠Value.pointer (Z p)) :
  mg w tb r m cap po uo un uc bs l q (wr.setCell ⟨b,o,I⟩ v):=by
 have d:∀c,c≠b->(wr.setCell ⟨b,o,I⟩ v).heap[c]?=wr.heap[c]?:=λc t=>Cm _ _ _ _ t;have hm:=J8 h.dt n h1 s;have g:=h.dt
 have y:r≠b:=λe=>by have:=g.head;rw[e,n]at this;simp at this;exact h3 this.2
 have ac:tb≠b:=λe=>by have:=h.tab.head;rw[e,n]at this;simp at this;exact h4 this.2
 refine⟨h.low.setCell hw _,⟨(d _ y).trans g.head,g.addr,λi j=>?_,λi j=>?_,g.inv,g.apart,g.own,g.gq⟩,⟨(d _ ac).trans h.tab.head,h.tab.up.len,h.tab.up.max,λi j=>?_⟩,h.fw⟩
 .have s:m≠b:=λe=>by
   have:=g.ptr i j;rw[e,Aa n i]at this;exact k i _ this _ rfl
  exact(Bs (a:=⟨m,i,I⟩) (w:=wr) (d _ s)).trans (g.ptr i j)
 .have hq:=g.gd i j;exact⟨(d _ (λe=>hm ⟨i,j,.inl e.symm⟩)).trans hq.head,hq.row.of_block (d _ (λe=>hm ⟨i,j,.inr e.symm⟩)),hq.ne⟩
 .obtain ⟨c,f,e,z,t⟩:=h.tab.up.cell i j;have:=ad ao9 c f e;exact⟨c,f,e,by simpa[World.setCell]using z,(Bs (a:=⟨c,f+i,I⟩) (w:=wr) (d c ao9)).trans t⟩
def Av7 (st:List (Ask×Bool)) (a:Ask) (b:Bool) (m k:Nat) (f:k<m) (e:st.length=k) :
  ((st.map λx=>Value.bool x.2)++List.replicate (m-k) (Value.bool false)).toArray.setIfInBounds k (D b)=(((st++[(a,b)]).map λx=>Value.bool x.2)++List.replicate (m-(k+1)) (Value.bool false)).toArray:=by
 obtain⟨d,c⟩:∃d,m-k=d+1:=⟨m-k-1,ao9⟩;rw[c,show m-(k+1)=d by omega,List.replicate_succ];apply Uj.1;simp[e]
def Av8 (st:List (Ask×Bool)) (d:Nat):∀(i:Nat) (u:VL),((st.map λx=>Value.bool x.2)++List.replicate d (Value.bool false)).toArray[i]?=Z u->∀p:Addr,u≠Value.pointer (Z p):=by
 intro i u a p e;rw[L4]at a;rcases C4.1 (Ai a)with h|h
 .obtain ⟨_,_,rfl⟩:=A8.1 h;cases e
 .rw [(Wy.1 h).2]at e;cases e
def Ac5 (w:WD) (cs:Array VL) (T:TypeId):∀j u,cs.toList[j]?=Z u->(w.alloc (V cs T (0,0))).cell? ((⟨w.heap.size,0,I⟩:Addr).add j)=Z u:=by
 intro j u a;rw[Un,Cn,Aa (Ah w _) j];simpa using a
def Aj7 (s:A2):∀u∈s.cells.toList,u.oneCell'=true:=by
 simp[Value.oneCell']
def Ff {n:Nat} (h:n<=1000000):n+1<=maxLen:=by
 have:maxLen=9223372036854775807:=by kernel_rfl
 omega
def Av9 (s:A2):s.cells.size=3:=rfl
def Aj8:0<3:=Gn _
def mg.other  {tb p m cap:Nat}    {l:Int} {q:List Nd}  {b:Nat} {x:Array VL} {T:TypeId} (h:mg w tb p m cap po uo un uc bs l q wr) (r:wr.heap[b]?=Z (V x T (0,0)))
  (h1:T≠363) (h2:T≠398) (h3:T≠354) (h4:T≠270) (hw:w.heap.size<=b) (z:0<un->∀b g,uo=Z ⟨b,g,I⟩->b<w.heap.size) (v:0<q.length->m≠b) (t:wr.grownBy w' (Z b)) :
  mg w tb p m cap po uo un uc bs l q w':=by
 have d:∀c,c<wr.heap.size->c≠b->w'.heap[c]?=wr.heap[c]?:=λc n s=>t.block c n (λe=>s (by cases e;rfl));have hm:=J8 h.dt r h1 h2;have f:=h.dt
 have u:p≠b:=λe=>by have:=f.head;rw[e,r]at this;simp at this;exact h3 this.2
 have y:tb≠b:=λe=>by have:=h.tab.head;rw[e,r]at this;simp at this;exact h4 this.2
 refine⟨h.low.grown t h.low.size (λc e=>by cases e;exact hw),⟨(d _ (Ab f.head) u).trans f.head,f.addr,λi j=>?_,λi j=>?_,f.inv,f.apart,f.own,f.gq⟩,⟨(d _ (Ab h.tab.head) y).trans h.tab.head,h.tab.up.len,h.tab.up.max,λi j=>?_⟩,h.fw⟩
 .exact (Bs (a:=⟨m,i,I⟩) (w:=wr) (d _ (f.tg ao9) (v ao9))).trans (f.ptr i j)
 .have o:=f.gd i j;have n:=o.lt;exact⟨(d _ n.1 (λe=>hm ⟨i,j,.inl e.symm⟩)).trans o.head,o.row.of_block (d _ n.2 (λe=>hm ⟨i,j,.inr e.symm⟩)),o.ne⟩
 .obtain ⟨c,g,e,k,s⟩:=h.tab.up.cell i j;have:=z ao9 c g e;exact⟨c,g,e,By k t.size,(Bs (a:=⟨c,g+i,I⟩) (w:=wr) (d c k ao9)).trans s⟩
structure ky (w:WD) (gs g cp k:Nat) (sl:List A2) (q:List Nd) (wr:WD):Prop where
 own:wr.ownsRow w.heap.size 224 3 (J (Z ⟨g,0,I⟩) k cp) k (Av A2.cells sl)
 len:sl.length=k
 ok:∀s,s∈sl->A2.ok wr s/\∀b off,s.go=Z ⟨b,off,I⟩->w.heap.size<=b/\b<wr.heap.size/\¬Be q b/\b≠g
 gs:0<q.length->gs≠g
def ky.aw  {d g b k:Nat} {f:List A2} {q:List Nd}  (h:ky w d g b k f q wr):∃a,wr.heap[g]?=Z (V a 224 (0,0)):=by
 rcases h.own.2 with⟨c,_⟩|⟨i,cap,a,e,_,h,_⟩
 .cases c
 .cases e;exact⟨a,h⟩
def ky.below  {f g d k:Nat} {j:List A2} {q:List Nd}  (h:ky w f g d k j q wr) (a:BW wr.heap.size wr w'):ky w f g d k j q w':=
 ⟨Avr h.own a Ln,h.len,λs i=>⟨(h.ok s i).1.below a,λb c e=>by obtain⟨l,m,n,o⟩:=(h.ok s i).2 b c e;exact⟨l,By m a.size,n,o⟩⟩,h.gs⟩
def ky.mod  {j g i k:Nat} {n:List A2} {q m:List Nd}  (h:ky w j g i k n q wr) (t:¬Be q g) (l:im wr q m) (f:Mod (Be q) wr w'):ky w j g i k n m w':=by
 refine⟨Ac2 h.own λc e=>?_,h.len,λs d=>⟨⟨(h.ok s d).1.ak.mod f (λ_ b a e=>((h.ok s d).2 b a e).2.2.1),(h.ok s d).1.qg⟩,λb a e=>?_⟩,λh0=>h.gs (by rw[l.len]at h0;exact h0)⟩
 .cases e;exact f.block _ (h.own.lt g rfl).2 t
 .obtain ⟨h1,r,o,p⟩:=(h.ok s d).2 b a e;refine⟨h1,By r f.size,λc=>?_,p⟩;rcases l.fw c with c|c
  .exact o c
  .omega
def Ri.found {i q:List Nd} {k:List Bool} {f st:Int} {a:Ask} {so:Option Addr} {j:Nat}  (h:Ri i k f a st so j q w) (p:Tk i q):∃zs,Rl f k a st zs i q/\Ap w so j zs/\(∀b d,so=Z ⟨b,d,I⟩->0<j):=by
 rcases h with⟨c,rfl,rfl,rfl,rfl⟩|⟨c,t,xs,is,g,m,n⟩
 .exact ⟨[],.inl ⟨c,rfl,rfl,rfl⟩,Vi w,λb d e=>by cases e⟩
 .cases is with
  | false=>
   obtain⟨rfl,rfl,rfl,rfl⟩:=m rfl;exact⟨[],.inr ⟨c,t,xs,false,g,λ_=>⟨rfl,rfl,rfl⟩,λh=>by cases h⟩,Vi w,λb d e=>by cases e⟩
  | true=>
   obtain⟨rfl,l,r,o⟩:=n rfl;refine⟨Bo xs,.inr ⟨c,st,xs,true,g,λh=>(by cases h),λ_=>⟨rfl,rfl,r,o,p⟩⟩,l,λb d e=>?_⟩;have:=g.found.len;have:=g.found.many1;have:=l.len;simp[Bo]at this;omega
def ky.snoc  {r g cp k m f:Nat} {z:List A2} {q:List Nd} {wr n:WD} {s:A2} {gb cap:Nat}  (h:ky w r g cp k z q wr) (hp:B6 wr gb r po cap q) (hs:s.ok wr) (y:∀b d,s.go=Z ⟨b,d,I⟩->w.heap.size<=b/\b<wr.heap.size/\¬Be q b/\b≠g)
  (o:n.ownsRow w.heap.size 224 3 (J (Z ⟨m,0,I⟩) (k+1) f) (k+1) (Av A2.cells z++s.cells.toList)) (hg:(wr.alloc (V s.cells 224 (0,0))).grownBy n (Z g)) (hb:(Value.slice (Z ⟨m,0,I⟩) (k+1) f).ownBlock=(Value.slice (Z ⟨g,0,I⟩) k cp).ownBlock\/(Value.slice (Z ⟨m,0,I⟩) (k+1) f).ownBlock=Z (wr.alloc (V s.cells 224 (0,0))).heap.size) :
  ky w r m f (k+1) (z++[s]) q n:=by
 have ac:m=g\/m=wr.heap.size+1:=by
  rcases hb with e|e
  .left;simpa[Value.ownBlock]using e
  .right;simpa[Value.ownBlock]using e
 have v:∀c,c<wr.heap.size->c≠g->n.heap[c]?=wr.heap[c]?:=λc hl t=>(hg.block c (by simp;omega) (λe=>t (by cases e;rfl))).trans (Gm wr _ c hl);have ad:wr.heap.size+1<=n.heap.size:=by have:=hg.size;simpa using this
 have l:∀x:A2,x.ok wr->(∀b d,x.go=Z ⟨b,d,I⟩->w.heap.size<=b/\b<wr.heap.size/\¬Be q b/\b≠g)->A2.ok n x/\∀b d,x.go=Z ⟨b,d,I⟩->w.heap.size<=b/\b<n.heap.size/\¬Be q b/\b≠m:=λx j p=>by
  refine⟨⟨⟨j.ak.len,j.ak.max,λi hi=>?_⟩,j.qg⟩,λb d e=>?_⟩
  .obtain ⟨b,d,e,u,t⟩:=j.ak.cell i hi;have h1:=p b d e;exact⟨b,d,e,ao9,(Bs (a:=⟨b,d+i,I⟩) (w:=wr) (v b u h1.2.2.2)).trans t⟩
  .have h1:=p b d e;exact⟨h1.1,ao9,h1.2.2.1,ao9⟩
 refine⟨by rw[Pm,Sl];exact o,by simp[h.len],λx j=>?_,λh0=>?_⟩
 .rcases C4.1 j with j|j
  .exact l x (h.ok x j).1 (h.ok x j).2
  .have:x=s:=by simpa using j
   subst this;exact l x hs y
 .have:=h.gs h0;have:=hp.tg h0;omega
def Aj9  {xs:List α} {k:Nat} (h:xs.length=k) (x:α):(xs++[x]).length=k+1:=by simp[h]
def Aka  {o m n cap g p e l k:Nat} {po i:Option Addr} {j:List Bool} {a:Int} {q:List Nd} {st:List (Ask×Bool)} {x:Ask} {b:Bool}
  (h:nu w o m n cap po i g p j a q e ((st.map λx=>Value.bool x.2)++List.replicate (l-k) (D false)) wr) (r:k<l) (c:st.length=k) (d:0<g->∀b f,i=Z ⟨b,f,I⟩->b<w.heap.size) :
  nu w o m n cap po i g p j a q e (((st++[(x,b)]).map λx=>Value.bool x.2)++List.replicate (l-(k+1)) (D false)) (wr.setCell ⟨e,k,I⟩ (D b)):=by
 refine⟨h.la.setOther h.kept ad9 ad9 ad9 ad9 h.kw d (Av8 _ _),?_,h.kw⟩;rw[<-Av7 st x b l k r c];exact Am h.kept k _
def Akb  {g e f cap j i c l k:Nat} {po m:Option Addr} {d:List Bool} {b:Int} {q:List Nd} {st:List (Ask×Bool)}
  (h:nu w g e f cap po m j i d b q c ((st.map λx=>Value.bool x.2)++List.replicate (l-k) (D false)) wr) (n:k<l) (a:st.length=k):wr.cell? ⟨c,k,I⟩=Z (D false):=by
 rw[Aa h.kept k,L4,G7 (by simp;omega)];simp only[Ar,a,Nat.sub_self,List.getElem?_replicate];rw[Ad ao9]
def Ask.ok.vw {w wr d:WD} {j g i cap l k:Nat} {po m:Option Addr} {f:List Bool} {a:Int} {x:Ask} {q:List Nd} {e:WD} (h:x.ok wr) (c:Mod (Be q) wr d) (h0:x.ok w) (b:mg w j g i cap po m l k f a q e):x.ok d:=
 ⟨h.places.mod c (Vj h0.places Ln b.fw),h.ni,h.ak.mod c (Vj h0.ak Ln b.fw),h.qg⟩
def Awa (vo uo ho ao:Option Addr) (n c un uc m mc l lc:Nat) (vs:List V4) (bs:List Bool) (t:Int) (hs:List Ax) (aP:List Ask) (w:WD) (hv:Ow w vo n vs) (hu:Mu w uo un bs) (hh:Y5 w ho m hs) (ha:Y8 w ao l aP) (hl:l<=1000000) :
  Calls prog 136 #[J vo n c,J uo un uc,G O t,J ho m mc,J ao l lc] w (Aj3 vs t bs hs aP w):=by
 have aS:=λh0=>hu.lt h0;have bl:=Av0 vo uo ho n c un uc m mc vs bs t hs w hv hu hh;have bE:=hu.len;have a8:=ha.len;have cx:=Aj6 l hl;have cy:=Av6 l hl;obtain⟨cd,bL,bM,bx,bA⟩:=B4 Aj5;replace⟨hv,hu,hh,ha,aS,bl,bE,a8⟩:=H8 hv hu hh ha aS bl bE a8;go_enter func136,ntmps136;go_wp2_with fail;refine bl.mono ?_;rintro e w1 ⟨aU,⟨r,hr,rfl,hrel⟩|⟨tb,gb,gs,cap,po,q0,rfl,bZ,b3,bX,aN⟩⟩
 .have d:(r != 0)=true:=by simpa using hr
  replace⟨hrel,aU,hr⟩:=H3 hrel aU hr;go_wp2;go_ret2;exact⟨aU.out,.inl ⟨r,hr.out,rfl,by rw[bE.out];exact hrel.out⟩⟩
 have bo:Rk vs un t:=by
  rcases aN with⟨_,h⟩|⟨h,_⟩
  .cases h
  .exact h
 have aR:un<=1000000:=by have:=bo.up;have:=bo.gq;omega
 have bn:=bo.lo;obtain⟨WK,bR⟩:=Ex (w1.alloc (V (Array.replicate l (D false)) 4 (0,0)));have bi:BW w1.heap.size w1 WK:=by rw[bR];exact Bn
 have bO:nu w tb gb gs cap po uo un uc bs t q0 w1.heap.size (List.replicate l (D false)) WK:=
  ⟨(mg.mk aU bZ b3 bX).below bi,by rw[bR,Aaf];exact Ah _ _,aU.size⟩
 replace⟨aN,aU,bZ,b3,bX,bo,aR,bO⟩:=H8 aN aU bZ b3 bX bo aR bO;replace⟨bi,bn⟩:=H2 bi bn;go_wp2;go_loopw [15,16,37] (λ_ _ i wr=>∃(k:Nat) (q:List Nd) (st:List (Ask×Bool)),i=G O k/\k<=l/\Hid (nu w tb gb gs cap po uo un uc bs t q w1.heap.size ((st.map λx=>Value.bool x.2)++List.replicate (l-k) (D false)) wr)/\Hid (st.length=k)/\Hid (st.map Prod.fst=aP.take k)/\Hid (Dc (Lx t bs) st q0 q)) (λ_ _ i _=>l-(intOf i).toNat)
 case atStart=>exact⟨0,q0,[],rfl,As _,bR▸bO.out,rfl,rfl,rfl⟩
 case round=>
  obtain⟨k,q,st,rfl,hk,hP,aO,cc,hC⟩:=hrel;by_cases hc:k<l
  .have ci:(k:Int)<l:=ao9;have cC:(0:Int)<=(k:Int):=ao9;obtain⟨x,hx⟩:=ha.get hc;obtain⟨b,aB,rfl,hb,a0,aA⟩:=ha.cell k x hx;have f:=hP.la.low;have c0:=(Ag f hb).trans (a0 0 ao9);have c1:=(Ag f hb).trans (a0 1 ao9);have c2:=(Ag f hb).trans (a0 2 ao9);have c3:=(Ag f hb).trans (a0 3 ao9);have c4:=(Ag f hb).trans (a0 4 ao9);have c5:=(Ag f hb).trans (a0 5 ao9);have c6:=(Ag f hb).trans (a0 6 ao9);have c7:=(Ag f hb).trans (a0 7 ao9);have c8:=(Ag f hb).trans (a0 8 ao9);have c9:=(Ag f hb).trans (a0 9 ao9);simp at c0 c1 c2 c3 c4 c5 c6 c7 c8 c9;clear a0;have p:nu w tb gb gs cap po uo un uc bs t q w1.heap.size ((st.map λx=>Value.bool x.2)++List.replicate (l-k) (D false)) (wr.alloc x.obj):=hP.below Bn;have ad:(wr.alloc x.obj).heap[wr.heap.size]?=Z x.obj:=Ah _ _
   have bb:∀b,(st++[(x,b)]).map Prod.fst=aP.take (k+1):=λb=>by rw[Rj hx,<-cc.out];simp
   by_cases qs:x.start<0
   .have d:decide (0<=x.start)=false:=(by simp;omega);have a1:=(Aka (x:=x) (b:=false) hP.out hc aO.out aS.out).below ((Below.refl _ _).alloc Ln x.obj);have aK:Dc (Lx t bs) (st++[(x,false)]) q0 q:=Y6 hC.out (.inl ⟨qs,rfl,rfl⟩);have kf:=Af hP.kept k;have kc:=Akb hP.out hc aO.out;have lk:=Ab hP.kept;replace⟨a1,aK,p,ad,bb,qs,aA,hx⟩:=H8 a1 aK p ad bb qs aA hx;replace f:=Hh f;go_wp2;go_roundw
    case rel=>exact⟨k+1,q,st++[(x,false)],by go_num,ao9,a1.out,Aj9 aO.out _,bb _,aK.out⟩
    case measure=>simp[intOf];omega
   .have d:decide (0<=x.start)=true:=(by simp;omega);obtain⟨F,hF⟩:=Ex (Eu t x);have ct:(if x.start<t then t else x.start)=F:=(by rw[hF];unfold Eu;omega);have b4:=Avy gb gs cap po q tb un uc uo bs t x F x.go x.gn x.gc x.eh (wr.alloc x.obj) p.la.dt p.la.tab ((aA.kz p.la.low).places) aR.out ((aA.kz p.la.low).ak) (Vj aA.ak Ln p.la.fw) aA.qg bn.out;have bI:0<=x.start:=ao9;replace⟨p,ad,bb,qs,bI,aA,hx,f⟩:=H8 p ad bb qs bI aA hx f;replace⟨b4,hF⟩:=H2 b4 hF;go_wp2_with fail;refine b4.mono ?_;rintro e w3 ⟨bk,q2,rfl,bG,bF,bY,aY⟩;have a6:=p.mod aS.out bG bF bY;have bW:=Vk bF bG;have a1:=Aka (x:=x) (b:=bk) a6 hc aO.out aS.out
    have aK:Dc (Lx t bs) (st++[(x,bk)]) q0 q2:=Y6 hC.out (by
     rw[hF.out]at aY;rcases aY with⟨h1,h2,h3⟩|⟨h1,r,h2,h3⟩
     .exact .inr (.inl ⟨bI.out,h1,h2,h3⟩)
     .exact .inr (.inr ⟨bI.out,h1,r,⟨h2,bW⟩,h3⟩))
    have kf:=Af a6.kept k;have kc:=Akb a6 hc aO.out;have lk:=Ab a6.kept;clear c0 c1 c2 c3 c4 c5 c6 c7 c8 c9 aY;replace⟨a1,aK,a6,bW,bG,bF,bY⟩:=H7 a1 aK a6 bW bG bF bY;go_wp2;go_roundw
    case rel=>exact⟨k+1,q2,st++[(x,bk)],by go_num,ao9,a1.out,Aj9 aO.out _,bb _,aK.out⟩
    case measure=>simp[intOf];omega
  .have ci:¬(k:Int)<l:=ao9;have cm:k=l:=ao9;subst cm;have a5:st.map Prod.fst=aP:=(by rw[cc.out,Cr (by rw[a8.out];omega)]);obtain⟨WS,bD⟩:=Ex (wr.alloc (V (madeCells (Value.agg #[G O 0,G O 0,J I 0 0]).cells (k*3)) 224 (0,0)));have bP:nu w tb gb gs cap po uo un uc bs t q w1.heap.size ((st.map λx=>Value.bool x.2)++List.replicate (k-k) (D false)) WS:=by rw[bD];exact hP.below Bn
   have bQ:ky w gs wr.heap.size k 0 [] q WS:=by
    rw[bD];have cn:k<=maxLen:=(by have:=Ff (n:=k) ao9;omega);refine⟨World.ownsRow_made _ _ k hP.la.low.size cn (size_madeCells _ _),rfl,λs hs=>(by cases hs),λh0=>by have:=hP.la.dt.tg h0;omega⟩
   obtain⟨Q1,bC⟩:=Ex (q);rw[<-bC]at hC;replace⟨a5,bP,bQ,bC⟩:=H4 a5 bP bQ bC;go_wp2;go_loopw [17,18,19,20,65] (λsv _ _ _ i wr=>∃(j:Nat) (q:List Nd) (g cp:Nat) (sl:List A2) (rd:List ((Ask×Bool)×A2)),sv=J (Z ⟨g,0,I⟩) j cp/\i=G O j/\j<=k/\Hid (nu w tb gb gs cap po uo un uc bs t q w1.heap.size ((st.map λx=>Value.bool x.2)++List.replicate (k-k) (D false)) wr)/\Hid (ky w gs g cp j sl q wr)/\Hid (rd.map Prod.fst=st.take j)/\Hid (rd.map Prod.snd=sl)/\Hid (Dc (N1 t bs) rd Q1 q)) (λ_ _ _ _ i _=>k-(intOf i).toNat)
   case atStart=>exact⟨0,q,_,_,[],[],rfl,rfl,As _,bD▸bP.out,bD▸bQ.out,rfl,rfl,bC.symm⟩
   case round=>
    obtain⟨j,q2,g,cp,sl,rd,rfl,rfl,hj,be,b8,ca,cb,aK⟩:=hrel;by_cases bT:j<k
    .have cj:(j:Int)<k:=ao9;have cB:(0:Int)<=(j:Int):=ao9;obtain⟨x,hx⟩:=ha.get bT;obtain⟨b,aB,rfl,hb,a0,aA⟩:=ha.cell j x hx;have f:=be.la.low;have c0:=(Ag f hb).trans (a0 0 ao9);have c1:=(Ag f hb).trans (a0 1 ao9);have c2:=(Ag f hb).trans (a0 2 ao9);have c3:=(Ag f hb).trans (a0 3 ao9);have c4:=(Ag f hb).trans (a0 4 ao9);have c5:=(Ag f hb).trans (a0 5 ao9);have c6:=(Ag f hb).trans (a0 6 ao9);have c7:=(Ag f hb).trans (a0 7 ao9);have c8:=(Ag f hb).trans (a0 8 ao9);have c9:=(Ag f hb).trans (a0 9 ao9);simp at c0 c1 c2 c3 c4 c5 c6 c7 c8 c9;clear a0
     obtain⟨bk,bS⟩:∃bk,st[j]?=Z (x,bk):=by
      have h1:j<st.length:=(by rw[aO.out];exact bT);refine⟨st[j].2,?_⟩;have h2:(st.map Prod.fst)[j]?=Z x:=(by rw[a5.out];exact hx);rw[Bg,A4 h1]at h2;rw[A4 h1];simp at h2;rw[<-h2]
     have p:=be.below ((Below.refl _ _).alloc Ln x.obj);have aW:=b8.below ((Below.refl _ _).alloc Ln x.obj);have ad:(wr.alloc x.obj).heap[wr.heap.size]?=Z x.obj:=Ah _ _;have bc:=aA.kz p.la.low
     have b2:∀s,(rd++[((x,bk),s)]).map Prod.fst=st.take (j+1):=λs=>by rw[Rj bS,<-ca.out];simp
     have b1:∀s,(rd++[((x,bk),s)]).map Prod.snd=sl++[s]:=λs=>by rw[<-cb.out];simp
     have kc:wr.cell? ⟨w1.heap.size,j,I⟩=Z (D bk):=(by rw[Aa be.kept j,L4,Fd (by simp[aO.out];exact bT),Bg,bS];rfl);have lk:=Ab be.kept;obtain⟨F,hF⟩:=Ex (Eu t x);have ct:(if x.start<t then t else x.start)=F:=by rw[hF];unfold Eu;omega
     have a9:∀(wq:WD) (q:List Nd),B6 wq gb gs po cap q->ky w gs g cp j sl q wq->¬Be q g:=λwq q h1 h2=>by
      obtain⟨b6,h3⟩:=h2.aw;exact J8 h1 h3 ad9 ad9
     replace⟨p,aW,ad,bc,b2,b1,hF,a9⟩:=H8 p aW ad bc b2 b1 hF a9;replace⟨hx,aA,f⟩:=H3 hx aA f
     have bK:Hid (∀(wm w8 w9:WD) (qm q8:List Nd) (ac:Int) (u:Option Addr) (y z g9 al:Nat),
      nu w tb gb gs cap po uo un uc bs t qm w1.heap.size ((st.map λx=>Value.bool x.2)++List.replicate (k-k) (D false)) wm->ky w gs g cp j sl qm wm->((bk=false/\qm=q2)\/(bk=true/\∃r,Y7 q2 x.eh F (F+x.aa) x.v r qm)) ->
      B6 w8 gb gs po cap q8->im wm qm q8->Mod (Be qm) wm w8->y<=z->(∀b aB,u=Z ⟨b,aB,I⟩->wm.heap.size<=b/\¬Be q8 b)->Ri qm bs t x ac u y q8 w8 ->
      w9.ownsRow w.heap.size 224 3 (J (Z ⟨g9,0,I⟩) (j+1) al) (j+1) (Av A2.cells sl++[G O x.id,G O ac,J u y z])->(w8.alloc (V #[G O x.id,G O ac,J u y z] 224 (0,0))).grownBy w9 (Z g) ->
      ((Value.slice (Z ⟨g9,0,I⟩) (j+1) al).ownBlock=(Value.slice (Z ⟨g,0,I⟩) j cp).ownBlock\/(Value.slice (Z ⟨g9,0,I⟩) (j+1) al).ownBlock=Z (w8.alloc (V #[G O x.id,G O ac,J u y z] 224 (0,0))).heap.size) ->
      ∃(bd:List A2) (a3:List ((Ask×Bool)×A2)),nu w tb gb gs cap po uo un uc bs t q8 w1.heap.size ((st.map λx=>Value.bool x.2)++List.replicate (k-k) (D false)) w9/\ky w gs g9 al (j+1) bd q8 w9/\a3.map Prod.fst=st.take (j+1)/\a3.map Prod.snd=bd/\Dc (N1 t bs) a3 Q1 q8):=by
      intro wm w8 w9 qm q8 ac u y z g9 al h1 h2 h3 h4 h5 h6 h7 h8 h9 ce bN cf;have co:=Vk h5 h4;obtain⟨zs,f1,f2,f3⟩:=h9.found co;have cg:=h1.mod aS.out h4 h5 h6;have aC:=h2.mod (a9 _ _ h1.la.dt h2) h5 h6;obtain⟨s,hs⟩:∃s:A2,s=⟨x.id,ac,u,y,z,zs⟩:=⟨_,rfl⟩
      have cv:∀b aB,s.go=Z ⟨b,aB,I⟩->w.heap.size<=b/\b<w8.heap.size/\¬Be q8 b/\b≠g:=λb aB e=>by
       rw[hs]at e;obtain⟨p1,p2⟩:=h8 b aB e;obtain⟨b',cA,e',cr,_⟩:=f2.cell 0 (f3 b aB e);rw[show u=Z ⟨b,aB,I⟩from e]at e';cases e';have:=h1.la.low.size;have:=(h2.own.lt g rfl).2;exact⟨ao9,cr,p2,ao9⟩
      obtain⟨b6,bJ⟩:=(aC.below ((Below.refl _ _).alloc Ln (V #[G O x.id,G O ac,J u y z] 224 (0,0)))).aw;have a4:=cg.below ((Below.refl _ _).alloc Ln (V #[G O x.id,G O ac,J u y z] 224 (0,0)))
      have cl:w1.heap.size≠g:=λe=>by have:=a4.kept;rw[e,bJ]at this;simp at this
      refine⟨sl++[s],rd++[((x,bk),s)],⟨a4.la.other bJ ad9 ad9 ad9 ad9 (h2.own.lt g rfl).1 aS.out aC.gs bN,(bN.block _ (Ab a4.kept) (λe=>cl (by cases e;rfl))).trans a4.kept,h1.kw⟩,?_,b2 s,b1 s,Y6 aK.out ⟨qm,?_,?_,?_⟩⟩
      .exact ky.snoc (s:=s) aC h4 (by rw[hs];exact⟨f2,h7⟩) cv (by rw[hs];exact ce) (by rw[hs];exact bN) (by rw[hs];exact cf)
      .rcases h3 with h|⟨h,r,h'⟩
       .exact .inl h
       .exact .inr ⟨h,r,by show Y7 q2 x.eh (Eu t x) (Eu t x+x.aa) x.v r qm;rw[<-hF.out];exact h'⟩
      .rw [hs]
      .rw [hs];exact f1
     cases bk with
     | false=>
      have aZ:=Aj0 gb gs cap po q2 tb un uc uo bs t x (wr.alloc x.obj) p.la.dt p.la.tab bc.places aR.out;obtain⟨y0,y1,y2,y3,y4,y5,y6,y7,y8,y9⟩:=Ox ad.out;have lx:=Ab ad.out;replace aZ:=Hh aZ;go_wp2_with fail;refine aZ.mono ?_;rintro e w8 ⟨ac,u,y,z,q8,rfl,a2,aM,am,aJ,aG,aF⟩;have aC:=ky.mod aW.out (a9 _ _ p.la.dt aW.out) aM am;have av:=aC.own.alloc (V #[G O x.id,G O ac,J u y z] 224 (0,0));have ap:=Ac5 w8 #[G O x.id,G O ac,J u y z] 224;have aI:=Aj7 ⟨x.id,ac,u,y,z,[]⟩;have aT:=Ff (n:=j) ao9;have aX:(j+1)*40<=140737488355328:=ao9;have aD:w.heap.size<=(w8.alloc (V #[G O x.id,G O ac,J u y z] 224 (0,0))).heap.size:=size_alloc (Ay p.la.low.size am.size) _;clear y0 y1 y2 y3 y4 y5 y6 y7 y8 y9 lx c0 c1 c2 c3 c4 c5 c6 c7 c8 c9 kc lk;replace⟨aC,av,ap,aI,aT,aX,aD,a2⟩:=H8 aC av ap aI aT aX aD a2;replace⟨aM,am,aJ,aG,aF⟩:=H5 aM am aJ aG aF;go_wp2_with (at_builtin;refine R2 _ rfl _ _ 217 rfl w.heap.size 224 cd _ 3 40 Aao bL bM bx bA rfl Aj8 (J (Z ⟨g,0,I⟩) j cp) j _ rfl av.out ⟨w8.heap.size,0,I⟩ 1 1 [G O x.id,G O ac,J u y z] rfl rfl ap.out aI.out aT.out aX.out aD.out ?_;intro v1 w9 af an _ aE;obtain⟨g9,al,rfl⟩:=Joins.ownsRow_form af (Gn _);replace⟨af,an,aE⟩:=H3 af an aE);obtain⟨bd,a3,e1,e2,e3,e4,e5⟩:=bK (wr.alloc x.obj) w8 w9 q2 q8 ac u y z g9 al p.out aW.out (by first|exact .inl ⟨rfl,rfl⟩|exact .inl ⟨trivial,rfl⟩|simp) a2.out aM.out am.out aJ.out aG.out aF.out af.out an.out aE.out;replace⟨e1,e2,e3,e4,e5⟩:=H5 e1 e2 e3 e4 e5;go_roundw
      case rel=>exact⟨j+1,q8,g9,al,bd,a3,rfl,by go_num,ao9,e1.out,e2.out,e3.out,e4.out,e5.out⟩
      case measure=>simp[intOf];omega
     | true=>
      have bV:=Aj4 (a:=x) (h:=(Av1 hC.out (Ai bS)).choose_spec.choose_spec);obtain⟨z1,z2,z3,z4⟩:=Mq bV.2.2.1;rw[<-hF.out]at z1 z2 z3;have ew:IntKind.i64.wrap (F+x.aa)=F+x.aa:=Fr _ ao9;obtain⟨WA,a7⟩:=Ex (wr.alloc x.obj);rw[<-a7]at p aW ad bc
      have bU:=
       λW' h=>Avd gb gs cap po q2 x.go x.gn x.gc x.eh F (F+x.aa) x.v W' (p.la.dt.below h) ((bc.kz h).ak) (Vj aA.ak Ln p.la.fw) aA.qg
      have t0:=Aa p.la.tab.head 0;simp at t0;have lt:=Ab p.la.tab.head;obtain⟨y0,y1,y2,y3,y4,y5,y6,y7,y8,y9⟩:=Ox ad.out;have lx:=Ab ad.out;have b5:=J8 p.la.dt p.la.tab.head ad9 ad9;have aL:=J8 p.la.dt ad.out ad9 ad9;have aQ:BW WA.heap.size WA WA.drew:=(Below.refl _ _).drew;replace⟨bV,z1,z2,z3,z4,bU,b5,aL⟩:=H8 bV z1 z2 z3 z4 bU b5 aL;replace aQ:=Hh aQ
      have ch:Hid (∀w':WD,(∀b,b<WA.heap.size->¬Be q2 b->∀o,w'.cell? ⟨b,o,I⟩=WA.cell? ⟨b,o,I⟩)->w'.cell? ⟨tb,0,I⟩=Z (Q (Z ⟨gb,0,I⟩))/\w'.cell? ⟨wr.heap.size,3,I⟩=Z (G O x.v.a)/\w'.cell? ⟨wr.heap.size,4,I⟩=Z (G O x.v.b)/\w'.cell? ⟨wr.heap.size,5,I⟩=Z (G O x.v.c)/\w'.cell? ⟨wr.heap.size,6,I⟩=Z (G O x.v.d)/\w'.cell? ⟨wr.heap.size,7,I⟩=Z (G O x.aa)/\w'.cell? ⟨wr.heap.size,8,I⟩=Z (G O x.start)/\w'.cell? ⟨wr.heap.size,9,I⟩=Z (J x.go x.gn x.gc)):=
       λw' h=>⟨(h _ lt b5.out _).trans t0,(h _ lx aL.out _).trans y3,(h _ lx aL.out _).trans y4,(h _ lx aL.out _).trans y5,(h _ lx aL.out _).trans y6,(h _ lx aL.out _).trans y7,(h _ lx aL.out _).trans y8,(h _ lx aL.out _).trans y9⟩
      clear y0 y1 y2;go_wp2_with fail;have bg:wr.alloc (V x.cells 266 (0,0))=WA:=a7.symm
      try rw[bg]
      clear c0 c1 c2 c3 c4 c5 c6 c7 c8 c9 kc lk;replace⟨a7,bg⟩:=H2 a7 bg;go_region_held3 (λw'=>w'.cell? ⟨tb,0,I⟩=Z (Q (Z ⟨gb,0,I⟩))/\w'.cell? ⟨wr.heap.size,3,I⟩=Z (G O x.v.a)/\w'.cell? ⟨wr.heap.size,4,I⟩=Z (G O x.v.b)/\w'.cell? ⟨wr.heap.size,5,I⟩=Z (G O x.v.c)/\w'.cell? ⟨wr.heap.size,6,I⟩=Z (G O x.v.d)/\w'.cell? ⟨wr.heap.size,7,I⟩=Z (G O x.aa)/\w'.cell? ⟨wr.heap.size,8,I⟩=Z (G O x.start)/\w'.cell? ⟨wr.heap.size,9,I⟩=Z (J x.go x.gn x.gc))
       (first
         | (go_keep;done)
         | with_reducible exact ch.out _ cs.out)
       (first
         | (go_at_call 187;refine(bU _ aQ.out).mono ?_;rintro e w5 ⟨r5,q5,rfl,bB,bv,ba,aH⟩;have cs:Hid (∀b,b<WA.heap.size->¬Be q2 b->∀o,w5.cell? ⟨b,o,I⟩=WA.cell? ⟨b,o,I⟩):=λb hb hn o=>Bs (a:=⟨b,o,I⟩) (w:=WA) (aH.block b hb hn)
            replace⟨bB,bv,ba,aH⟩:=H4 bB bv ba aH))
      have b7:=p.below aQ.out;have b9:=aW.below aQ.out;have aV:=b7.mod aS.out bv.out ba.out aH.out;have bf:=b9.mod (a9 _ _ b7.la.dt b9) ba.out aH.out;have bH:=(aH.block _ (by have:=aQ.size;omega) aL.out).trans (Ae aQ.out ad.out lx);have bw:x.ok w5:=(by have h1:=a7.out▸bc.out;exact h1.vw (by rw[<-a7.out];exact(Mod.cz aQ.out).je aH.out) aA.out p.la);replace⟨aV,bf,bH,bw⟩:=H4 aV bf bH bw;clear t0 lt y3 y4 y5 y6 y7 y8 y9 lx;have aZ:=Aj0 gb gs cap po q5 tb un uc uo bs t x w5 aV.la.dt aV.la.tab bw.places aR.out;obtain⟨y0,y1,y2,y3,y4,y5,y6,y7,y8,y9⟩:=Ox bH.out;have lx:=Ab bH.out;replace aZ:=Hh aZ;go_wp2_with fail;refine aZ.mono ?_;rintro e w8 ⟨ac,u,y,z,q8,rfl,a2,aM,am,aJ,aG,aF⟩;have aC:=ky.mod bf.out (a9 _ _ aV.la.dt bf.out) aM am;have av:=aC.own.alloc (V #[G O x.id,G O ac,J u y z] 224 (0,0));have ap:=Ac5 w8 #[G O x.id,G O ac,J u y z] 224;have aI:=Aj7 ⟨x.id,ac,u,y,z,[]⟩;have aT:=Ff (n:=j) ao9;have aX:(j+1)*40<=140737488355328:=ao9;have aD:w.heap.size<=(w8.alloc (V #[G O x.id,G O ac,J u y z] 224 (0,0))).heap.size:=size_alloc (Ay aV.la.low.size am.size) _;clear y0 y1 y2 y3 y4 y5 y6 y7 y8 y9 lx;replace⟨aC,av,ap,aI,aT,aX,aD,a2⟩:=H8 aC av ap aI aT aX aD a2;replace⟨aM,am,aJ,aG,aF⟩:=H5 aM am aJ aG aF;go_wp2_with (at_builtin;refine R2 _ rfl _ _ 217 rfl w.heap.size 224 cd _ 3 40 Aao bL bM bx bA rfl Aj8 (J (Z ⟨g,0,I⟩) j cp) j _ rfl av.out ⟨w8.heap.size,0,I⟩ 1 1 [G O x.id,G O ac,J u y z] rfl rfl ap.out aI.out aT.out aX.out aD.out ?_;intro v1 w9 af an _ aE;obtain⟨g9,al,rfl⟩:=Joins.ownsRow_form af (Gn _);replace⟨af,an,aE⟩:=H3 af an aE);obtain⟨bd,a3,e1,e2,e3,e4,e5⟩:=bK w5 w8 w9 q5 q8 ac u y z g9 al aV.out bf.out (by first|exact .inr ⟨rfl,r5,bB.out,Vk ba.out bv.out⟩|exact .inr ⟨trivial,r5,bB.out,Vk ba.out bv.out⟩) a2.out aM.out am.out aJ.out aG.out aF.out af.out an.out aE.out;replace⟨e1,e2,e3,e4,e5⟩:=H5 e1 e2 e3 e4 e5;go_roundw
      case rel=>exact⟨j+1,q8,g9,al,bd,a3,rfl,by go_num,ao9,e1.out,e2.out,e3.out,e4.out,e5.out⟩
      case measure=>simp[intOf];omega
    .have cj:¬(j:Int)<k:=ao9;have ck:j=k:=ao9;subst ck;have b0:rd.map Prod.fst=st:=(by rw[ca.out,Cr (by rw[aO.out];omega)]);replace b0:=Hh b0;go_wp2;go_ret2;have hS:=b8.out;refine⟨be.la.low,.inr ⟨Z ⟨g,0,I⟩,cp,sl,(by rw[a8.out];rfl),⟨q0,Q1,q2,st,rd,by rw[bE.out];exact aN.out,hC.out,a5.out,aK.out,b0.out,cb.out⟩,?_,?_,λb aB e=>by cases e;exact(hS.own.lt g rfl).1,λs hs b aB e=>((hS.ok s hs).2 b aB e).1⟩⟩
     .rw [a8.out];exact Av3 Av9 hS.own hS.len ao9 (λs hs=>(hS.ok s hs).1)
     .rw [a8.out];rcases hS.own.2 with⟨e,_⟩|⟨g',cw,b6,e,_,_,h3,_⟩
      .cases e
      .cases e;exact h3
abbrev B2:=Nat->Int->V4
def ld (zs:List Int) (fr tt:Int) (v:V4):B2:=λi u=>if Bz zs zs.length i/\fr<=u/\u<tt then v else V4.zero
def oo:B2:=λ_ _=>V4.zero
def Aw (U W:B2):B2:=λi u=>A6 (U i u) (W i u)
def Fk:List B2->B2
 | []=>oo
 | x :: xs=>Aw x (Fk xs)
def nn (U:B2):Prop:=∀i u,V4.zero.leq (U i u)
def Awb (a b c:V4):A6 (A6 a b) c=A6 a (A6 b c):=by simp[A6];omega
def Awc (a b:V4):A6 a b=A6 b a:=by simp[A6];omega
def Tl (a:V4):A6 a V4.zero=a:=by simp[A6,V4.zero]
def Awd (a:V4):A6 V4.zero a=a:=by simp[A6,V4.zero]
def Mz (a b c:B2):Aw (Aw a b) c=Aw a (Aw b c):=by funext i u;exact Awb _ _ _
def Vm (a b:B2):Aw a b=Aw b a:=by funext i u;exact Awc _ _
def Oy (a:B2):Aw a oo=a:=by funext i u;exact Tl _
def Tm (a:B2):Aw oo a=a:=by funext i u;exact Awd _
def Rm {v:V4}:V4.zero.leq v↔0<=v.a/\0<=v.b/\0<=v.c/\0<=v.d:=by simp[V4.leq,V4.zero]
def Awe {v:V4} (h:v.right=true):V4.zero.leq v:=by rw[Rm];have:=Fj.1 h;omega
def Vn:nn oo:=λ_ _=>Rm.2 (by simp[oo,V4.zero])
def Vo {a b:B2} (h:nn a) (k:nn b):nn (Aw a b):=λi u=>by
 have h1:=Rm.1 (h i u);have c:=Rm.1 (k i u);rw[Rm];simp[Aw,A6];omega
def Vp  {fr a:Int} {v:V4} (h:v.right=true):nn (ld zs fr a v):=λi u=>by
 unfold ld;split
 .exact Awe h
 .exact Rm.2 (by simp[V4.zero])
def Ac6 {xs:List B2} (h:∀x,x∈xs->nn x):nn (Fk xs):=by
 induction xs with
 | nil=>exact Vn
 | cons x xs ih=>exact Vo (h x (D6 ..)) (ih λy a=>h y (Df _ a))
structure Bd (vs:List V4) (U:B2) (q:List Nd):Prop where
 len:q.length=vs.length
 whole:∀i,i<q.length->(nd q i).whole=vv vs i
 inv:∀i,i<q.length->Inv (nd q i).whole (nd q i).l
 val:∀i,i<q.length->∀u,0<=u->u<1099511627776->A6 (val (nd q i).l u) (U i u)=vv vs i
def Bd.loose  {U:B2} {q:List Nd} (h:Bd vs U q):∀i,i<q.length->Ce (nd q i).l:=λi a=>(h.inv i a).loose
def Ac7  {b:List Nd} (h:Ac4 vs b):Bd vs oo b:=
 ⟨h.len,λi a=>(h.node i (by rw[<-h.len];exact a)).1,h.inv,λi a u h0 _=>by
  rw[(h.node i (by rw[<-h.len];exact a)).2]
  simp[val,Fb,h0,oo,Tl]⟩
def Bd.ie  {U W:B2} {q:List Nd} (h:Bd vs U q) (e:U=W):Bd vs W q:=e▸h
def Bd.vf  {U:B2} {p q:List Nd} (h:Bd vs U p) (b:Tk p q) (c:Ov p q):Bd vs U q:=
 ⟨b.len.trans h.len,λi a=>by rw[b.len]at a;exact(b.whole i a).trans (h.whole i a),b.inv,λi a u h0 h1=>by
  rw[b.len]at a
  rw[c i a];exact h.val i a u h0 h1⟩
def Bd.le  {U:B2} {q:List Nd} (h:Bd vs U q) {i:Nat} (a:i<q.length)  (h0:0<=u) (h1:u<1099511627776):(U i u).leq (vv vs i):=by
 have:=h.val i a u h0 h1;have b:=Fj.1 ((h.inv i a).free u h0 h1).1;rw[<-this];simp[V4.leq,A6];omega
def P4 {fr a:Int} {v:V4} (h:Bm fr a v=true):0<=fr/\fr<a/\a<=1099511627776/\v.right=true:=Mq h
def Y9  {U:B2} {p q:List Nd}  {fr f:Int} {v:V4} (h:Bd vs U p) (n:P2 p zs fr f v 0 q) :
  Bd vs (Aw U (ld zs fr f v)) q/\Ef vs.length zs/\Bm fr f v=true:=by
 obtain⟨m,d⟩:=n;rcases m with⟨_,c,_⟩|⟨_,_,_,c,_⟩|⟨h1,l,o,_,j⟩
 .cases c
 .cases c
 .refine ⟨⟨d.len.trans h.len,λi b=>?_,d.inv,λi b u h0 k=>?_⟩,h.len▸h1,l⟩
  .rw [d.len]at b;exact(d.whole i b).trans (h.whole i b)
  .rw [d.len]at b;have g:=h.val i b u h0 k;by_cases e:Bz zs zs.length i
   .rw [(j i b).1 e u h0 k];by_cases a:fr<=u/\u<f
    .rw [Ad a,<-g];simp[Aw,ld,e,a,A6,Nx];omega
    .rw [Ac a,<-g];simp[Aw,ld,a,Tl]
   .rw [(j i b).2 e,<-g];simp[Aw,ld,e,Tl]
def A58  {U:B2} {p q:List Nd}  {fr a:Int} {v:V4} {r:Int} (h:Bd vs U p) (g:Ef vs.length zs) (d:Bm fr a v=true)
  (f:∀i,i<vs.length->∀u,0<=u->u<1099511627776->(Aw U (ld zs fr a v) i u).leq (vv vs i)) (j:Lw p zs fr a v r q):r=0:=by
 rcases j with⟨c,_⟩|⟨_,_,c,_⟩|⟨_,_,_,c,_⟩
 .exact absurd ⟨h.len▸g,d⟩ c
 .obtain ⟨k,l,m,_⟩:=P4 d;refine absurd (λi b e u h0 h1=>?_) c;have:=f i (h.len▸b) u ao9 ao9;rw[<-h.val i b u ao9 ao9]at this;simp[Aw,ld,e,h0,h1,A6,V4.leq]at this ⊢;omega
 .exact c
def Akc  {U:B2} {p q:List Nd}  {fr f:Int} {v:V4} {r:Int} (h:Bd vs (Aw U (ld zs fr f v)) p) (n:nn U) (m:Ef vs.length zs) (k:Bm fr f v=true)
  (e:Tk p q) (o:Y3 p zs fr f v r q):r=0/\Bd vs U q:=by
 obtain⟨t,x,y,_⟩:=P4 k;rcases o with⟨c,_⟩|⟨_,_,c,_⟩|⟨_,_,_,c,j⟩
 .exact absurd ⟨h.len▸m,k⟩ c
 .refine absurd (λi a d u h0 h1=>?_) c;have:=h.val i a u ao9 ao9;have s:=Rm.1 (n i u);rw[h.whole i a,<-this];simp[Aw,ld,d,h0,h1,A6,V4.leq];omega
 .refine ⟨c,e.len.trans h.len,λi a=>?_,e.inv,λi a u h0 l=>?_⟩
  .rw [e.len]at a;exact(e.whole i a).trans (h.whole i a)
  .rw [e.len]at a;have g:=h.val i a u h0 l;by_cases d:Bz zs zs.length i
   .rw [(j i a).1 d u h0 l];by_cases b:fr<=u/\u<f
    .rw [Ad b,<-g];simp[Aw,ld,d,b,A6];omega
    .rw [Ac b,<-g];simp[Aw,ld,b,Tl]
   .rw [(j i a).2 d,<-g];simp[Aw,ld,d,Tl]
def Akd  {U W:B2} {p q:List Nd} (h:Bd vs U p) (k:Bd vs W q) (e:U=W):Ov p q:=λi d=>by
 subst e;have c:i<q.length:=by rw[k.len,<-h.len];exact d
 refine Acq (k.inv i c).loose (h.inv i d).loose (k.inv i c).ik (h.inv i d).ik λu h0 h1=>?_;have a:=h.val i d u h0 h1;have b:=k.val i c u h0 h1;rw[<-a]at b;simp[A6]at b;obtain⟨f,g,j,m⟩:=b;cases hx:val (nd q i).l u;cases hy:val (nd p i).l u;simp[hx,hy]at *;omega
def Awf  {U:B2} {q:List Nd} (h:Bd vs U q) {i:Nat} (e:i<q.length) {c u:Int} {v:V4} (h0:0<=u) (h1:1<=c) :
  mh (nd q i).l c v u↔u+c<=1099511627776/\∀x,u<=x->x<u+c->(A6 (U i x) v).leq (vv vs i):=by
 unfold mh;rw[Ajs (h.loose i e) h0 h1,And.comm];refine and_congr_right λf=>⟨λd x a b=>?_,λd x a b=>?_⟩
 .have:=d x a b;rw[<-h.val i e x ao9 ao9];simp[V4.leq,A6]at *;omega
 .have:=d x a b;rw[<-h.val i e x ao9 ao9]at this;simp[V4.leq,A6]at *;omega
def Ake (now:Int) (h:Ax):B2:=ld h.eh now (My now h) h.v
def Cy (now:Int) (x:Ask×Bool):B2:=if x.2=true then ld x.1.eh (Eu now x.1) (Eu now x.1+x.1.aa) x.1.v else oo
def Lz (x:Ask×A2):B2:=if 0<=x.2.start then ld x.2.eh x.2.start (x.2.start+x.1.aa) x.1.v else oo
def Tn {a:Int}  {c:List Ax}:∀ {U:B2} {p q:List Nd},Dc (P3 a) c p q->Bd vs U p ->
  Bd vs (Aw U (Fk (c.map (Ake a)))) q/\∀h,h∈c->Ef vs.length h.eh/\Bm a (My a h) h.v=true:=by
 induction c with
 | nil=>intro U p q h k;cases h;exact⟨k.ie (Oy _).symm,λh b=>by cases b⟩
 | cons x xs ih=>
  intro U p q h k;obtain⟨m,h1,d⟩:=h;obtain⟨e,f,g⟩:=Y9 k h1;obtain⟨i,j⟩:=ih d e;refine⟨i.ie (by rw[Mz];rfl),λh b=>?_⟩;rcases Ei.1 b with rfl|b
  .exact ⟨f,g⟩
  .exact j h b
def Za (now:Int) (hs:List Ax):B2:=Fk (hs.map (Ake now))
def Zb  {f:Nat} {a:Int} {d:List Ax} {e:List Nd} (h:Jn vs f a d 0 e) :
  Rk vs f a/\Bd vs (Za a d) e/\∀h,h∈d->Ef vs.length h.eh/\Bm a (My a h) h.v=true:=by
 rcases h with⟨_,c⟩|⟨b,k,j,⟨_,i⟩|⟨c,_⟩⟩
 .cases c
 .obtain ⟨h1,g⟩:=Tn i (Ac7 j);exact⟨b,h1.ie (Tm _),g⟩
 .exact absurd rfl c
def Akf  {a:Int} {b:List Ax} (h:∀h,h∈b->Ef vs.length h.eh/\Bm a (My a h) h.v=true):nn (Za a b):=
 Ac6 λx c=>by
  obtain⟨y,d,rfl⟩:=A8.1 c;exact Vp (P4 (h y d).2).2.2.2
structure To (vs:List V4) (now:Int) (bs:List Bool) (a:Ask):Prop where
 pre:Mv bs now a (Eu now a) a.eh
 start:0<=a.start
 ak:Ef vs.length a.eh
 span:Bm (Eu now a) (Eu now a+a.aa) a.v=true
def Zc {d:Int} {f:List Bool}  {st:List (Ask×Bool)}:∀ {U:B2} {p q:List Nd},Dc (Lx d f) st p q->Bd vs U p ->
  Bd vs (Aw U (Fk (st.map (Cy d)))) q/\∀x,x∈st->x.2=true->To vs d f x.1:=by
 induction st with
 | nil=>intro U p q h k;cases h;exact⟨k.ie (Oy _).symm,λh hh=>by cases hh⟩
 | cons x xs ih=>
  intro U p q h k;obtain⟨m,h1,u⟩:=h;obtain⟨a,b⟩:=x
  have n:Bd vs (Aw U (Cy d (a,b))) m/\(b=true->To vs d f a):=by
   cases b with
   | false=>
    have e:Aw U (Cy d (a,false))=U:=(by simp[Cy,Oy]);rw[e];refine⟨?_,λc=>by cases c⟩;rcases h1 with⟨_,_,rfl⟩|⟨_,_,_,rfl⟩|⟨_,_,r,⟨v,l⟩,z⟩
    .exact k
    .exact k
    .have hr:r≠0:=λc=>by have:=z.2 c;cases this
     rcases v with⟨_,_,g⟩|⟨_,_,_,_,g⟩|⟨_,_,_,c,_⟩
     .exact k.vf l g
     .exact k.vf l g
     .exact absurd c hr
   | true=>
    obtain⟨o,c2,s,t⟩:=Aj4 h1;obtain⟨k1,k2,_⟩:=Y9 k t
    have i:0<=a.start:=by
     rcases h1 with⟨_,c,_⟩|⟨_,_,c,_⟩|⟨c,_⟩
     .cases c
     .cases c
     .exact c
    exact⟨by simpa[Cy]using k1,λ_=>⟨o,i,k2,s⟩⟩
  obtain⟨k4,k5⟩:=ih u n.1;refine⟨k4.ie (by rw[Mz];rfl),λy j=>?_⟩;rcases Ei.1 j with rfl|j
  .exact n.2
  .exact k5 y j
def Tp (vs:List V4) (now:Int) (bs:List Bool) (a:Ask) (s:A2):Prop:=
 s.id=a.id/\((s.start=-1/\s.eh=[])\/(a.can=true/\now<=s.start/\s.start<1099511627776/\N0 bs a s.eh/\Ef vs.length s.eh/\Bm s.start (s.start+a.aa) a.v=true))
def Awg {xs ys:List Nat} (h:xs.Pairwise (·<·)) (a:∀x,x∈xs->x∈ys):xs.length<=ys.length:=by
 induction xs generalizing ys with
 | nil=>exact As _
 | cons x xs ih=>
  have h1:=Pd.1 h;have b:=a x (D6 ..);have:=ih (ys:=ys.erase x) h1.2 (λy c=>(List.mem_erase_of_ne (by have:=h1.1 y c;omega)).2 (a y (Df _ c)));rw[List.length_erase_of_mem b]at this;have:=List.length_pos_of_mem b;simp;omega
def Awh {j:List Nd} {d:List Bool} {a:Ask} {t:Int}  {xs:List Nat} (h:Mt j (Bo (oq d a.ib)) a.nodes a.v a.aa after t xs):N0 d a (Bo xs):=by
 obtain⟨h1,e,k⟩:=h.ak;have f:=h.len;have b:(Bo xs).length=xs.length:=by simp[Bo]
 refine⟨λi c=>?_,h1.bj,by rw[b];exact f⟩;have g:zi (Bo xs) i=((xs[i]'(by rw[<-b];exact c):Nat):Int):=by rw[b]at c;simp[zi,Bo,List.getD,c]
 rw[g];have:=Y4.1 (e _ (K4 (by rw[<-b];exact c))).2.1;exact A8.2 ⟨_,this,rfl⟩
def Awi  {c:Int} {l:List Bool} {a:Ask} {s:A2} {U:B2} {p q:List Nd} (n:0<=c) (b:s.id=a.id) (h:Rl c l a s.start s.eh p q) (k:Bd vs U p):Bd vs (Aw U (Lz (a,s))) q/\Tp vs c l a s:=by
 have g:s.start=-1->Aw U (Lz (a,s))=U:=λe=>by
  have:¬(0<=(a,s).2.start):=by show ¬0<=s.start;omega
  simp only[Lz,Ac this,Oy]
 rcases h with⟨_,h1,j,rfl⟩|⟨u,t,xs,is,o,h1,j⟩
 .exact ⟨k.ie (g h1).symm,b,.inl ⟨h1,j⟩⟩
 .cases is with
  | false=>
   obtain⟨d,f,rfl⟩:=h1 rfl;exact⟨k.ie (g d).symm,b,.inl ⟨d,f⟩⟩
  | true=>
   obtain⟨d,f,r,m⟩:=j rfl;have i:=o.found;have v:=i.ge;have x:=(i.take (k.loose) m.1).1;subst x;obtain⟨z,k2,k3⟩:=Y9 k m;have y:0<=(a,s).2.start:=(by show 0<=s.start;omega);refine⟨z.ie ?_,b,.inr ⟨u,ao9,by rw[d];exact i.lt,by rw[f];exact Awh i,by rw[f];exact k2,by rw[d];exact k3⟩⟩;simp only[Lz,Ad y];rw[d,f]
def N3 (x:(Ask×Bool)×A2):B2:=Lz (x.1.1,x.2)
def Akg {d:Int} {j:List Bool}  {rd:List ((Ask×Bool)×A2)} (i:0<=d):∀ {U:B2} {p q:List Nd},Dc (N1 d j) rd p q->Bd vs (Aw U (Fk (rd.map λx=>Cy d x.1))) p->nn U ->
  (∀x,x∈rd->x.1.2=true->To vs d j x.1.1)->Bd vs (Aw U (Fk (rd.map N3))) q/\∀x,x∈rd->Tp vs d j x.1.1 x.2:=by
 induction rd with
 | nil=>intro U p q h k _ _;cases h;exact⟨k,λh hh=>by cases hh⟩
 | cons x xs ih=>
  intro U p q h k v o;obtain⟨m,⟨m',h1,l,u⟩,h3⟩:=h;obtain⟨⟨a,b⟩,s⟩:=x
  have t:nn (Fk (xs.map λx=>Cy d x.1)):=Ac6 λy f=>by
   obtain⟨z,hz,rfl⟩:=A8.1 f;unfold Cy;split
   .next g=>exact Vp (P4 (o z (Df _ hz) g).span).2.2.2
   .exact Vn
  have k':Bd vs (Aw (Aw U (Fk (xs.map λx=>Cy d x.1))) (Cy d (a,b))) p:=k.ie (by
   show Aw U (Aw (Cy d (a,b)) (Fk (xs.map λx=>Cy d x.1)))=_
   rw[Mz,Vm (Cy d (a,b))])
  have km:Bd vs (Aw U (Fk (xs.map λx=>Cy d x.1))) m':=by
   rcases h1 with⟨g,rfl⟩|⟨g,r,hg,hl⟩
   .have e:b=false:=g;subst e;exact k'.ie (by simp[Cy,Oy])
   .have e:b=true:=g;subst e;have ho:=o _ (D6 ..) rfl;exact(Akc (k'.ie (by simp[Cy])) (Vo v t) ho.ak ho.span hl hg).2
  obtain⟨k2,s2⟩:=Awi i l u km
  have n:nn (Lz (a,s)):=by
   unfold Lz;split
   .next hge=>
    rcases s2.2 with⟨c,_⟩|⟨_,_,_,_,_,c⟩
    .have h1:0<=s.start:=hge;have u:s.start=-1:=c;omega
    .exact Vp (P4 c).2.2.2
   .exact Vn
  obtain⟨k3,s3⟩:=ih h3 (k2.ie (by rw[Mz,Vm _ (Lz (a,s)),<-Mz])) (Vo v n) (λy f=>o y (Df _ f));refine⟨k3.ie (by rw[Mz];rfl),λy f=>?_⟩;rcases Ei.1 f with rfl|f
  .exact s2
  .exact s3 y f
def Ac8 (l:List (Ask×A2)):B2:=Fk (l.map Lz)
def Awj  {b:Int} {d:List Bool} {a:Ask} {s:A2} (h:Tp vs b d a s):nn (Lz (a,s)):=by
 unfold Lz;split
 .next hge=>
  rcases h.2 with⟨c,_⟩|⟨_,_,_,_,_,c⟩
  .have:(a,s).2.start=s.start:=rfl;omega
  .exact Vp (P4 c).2.2.2
 .exact Vn
def Awk  {R:α->β->β->Prop} {l r:List α} {x:α} {p q:β} (h:Dc R (l++x :: r) p q):∃m a,Dc R l p m/\R x m a/\Dc R r a q:=by
 obtain⟨m,h1,a,b,c⟩:=Aj1.1 h;exact⟨m,a,h1,b,c⟩
structure Awl (vs:List V4) (now:Int) (bs:List Bool) (hs:List Ax) (asks:List Ask) (slots:List A2):Prop where
 lay:Rk vs bs.length now
 holds:∀h,h∈hs->Ef vs.length h.eh/\Bm now (My now h) h.v=true
 len:slots.length=asks.length
 slot:∀x,x∈asks.zip slots->Tp vs now bs x.1 x.2
 le:∀i,i<vs.length->∀u,0<=u->u<1099511627776->(Aw (Za now hs) (Ac8 (asks.zip slots)) i u).leq (vv vs i)
def Awm {b:List Ask} {a:List A2} {st:List (Ask×Bool)} {rd:List ((Ask×Bool)×A2)} (h1:st.map Prod.fst=b) (c:rd.map Prod.fst=st) (d:rd.map Prod.snd=a):b.zip a=rd.map λx=>(x.1.1,x.2):=by
 subst d c h1
 induction rd with
 | nil=>rfl
 | cons x xs ih=>simp at ih;simp[ih]
def Akh  {g:Int} {o:List Bool} {r:List Ax} {d:List Ask} {c:List A2} (hp:Ly vs g o r d c):Awl vs g o r d c:=by
 obtain⟨ps,q1,q2,st,rd,hl,hk,j,hr,f,k⟩:=hp.go;obtain⟨h,k0,q⟩:=Zb hl;obtain⟨s,m⟩:=Zc hk k0
 have e:st.map (Cy g)=rd.map λx=>Cy g x.1:=by rw[<-f];simp[Dg,Ip]
 rw[e]at s;obtain⟨n,s2⟩:=Akg h.lo hr s (Akf q) (λx l v=>m x.1 (by rw[<-f];exact A8.2 ⟨x,l,rfl⟩) v);have p:=Awm j f k;have t:Fk (rd.map N3)=Ac8 (d.zip c):=by rw[p];simp[Ac8,Dg,Ip];rfl
 rw[t]at n;refine⟨h,q,by rw[<-k,<-j,<-f];simp,λx l=>?_,λi z u a b=>n.le (by rw[n.len];exact z) a b⟩;rw[p]at l;obtain⟨y,hy,rfl⟩:=A8.1 l;exact s2 y hy
def Awn {e:List Nd}  {a:Int} {v:V4} {b after t T:Int} {xs:List Nat} {is:Bool} (h:F7 e zs a v b after t xs is) (h1:1<=a) (l:1<=b) (m:v.right=true)
  (j:max after 0<=T) (f:T<1099511627776) (x:a<=(gl e zs b v T).length) (g:∀u,max after 0<=u->u<T->((gl e zs b v u).length:Int)<a) :
  is=true/\t=T/\(xs.length:Int)=a/\∃r,gl e zs b v T=xs++r:=by
 unfold F7 at h;rw[Ad ⟨h1,l,m⟩]at h;rcases h with⟨n,i,p,q,⟨r,k⟩,d⟩|⟨_,_,_,o⟩
 .have s:a<=(gl e zs b v t).length:=by rw[k,Az];omega
  have:t=T:=by
   rcases Int.lt_trichotomy t T with c|c|c
   .have:=g t i c;omega
   .exact c
   .have:=d T j c;omega
  subst this;exact⟨n,rfl,q,r,k⟩
 .have:=o T j f;omega
def Tq  {U:B2} {p n q q':List Nd}  {fr o:Int} {v:V4} {r r':Int} (h:Bd vs U p) (y:Bd vs U n) (ht:Lw p zs fr o v r q) (m:Lw n zs fr o v r' q'):r=r':=by
 have x:n.length=p.length:=by rw[h.len,y.len]
 have z:=Akd h y rfl;have e:(∀i,i<p.length->Bz zs zs.length i->∀u,fr<=u->u<o->v.leq (val (nd p i).l u))↔(∀i,i<n.length->Bz zs zs.length i->∀u,fr<=u->u<o->v.leq (val (nd n i).l u)):=by rw[x];exact⟨λk i j=>by rw[z i j];exact k i j,λk i j=>by rw[<-z i j];exact k i j⟩
 rw[Lw,x]at m;rw[Lw]at ht;rw[x]at e
 rcases ht with⟨a,b,_⟩|⟨a,b,c,d,_⟩|⟨a,b,c,d,_⟩<;>rcases m with⟨f,g,_⟩|⟨f,g,s,t,_⟩|⟨f,g,s,t,_⟩
 .rw [b,g]
 .exact absurd ⟨f,g⟩ a
 .exact absurd ⟨f,g⟩ a
 .exact absurd ⟨a,b⟩ f
 .rw [d,t]
 .exact absurd (e.2 s) c
 .exact absurd ⟨a,b⟩ f
 .exact absurd (e.1 c) s
 .rw [d,t]
def Zd {a:Int}  {b:List Ax} {p q:List Nd} {k:Nat} {h:Ax} (i:b[k]?=Z h) (d:Dc (P3 a) b p q) (g:Bd vs oo p):∃m c,Bd vs (Za a (b.take k)) m/\P2 m h.eh a (My a h) h.v 0 c:=by
 have e:b=b.take k++h :: b.drop (k+1):=by have:=O9 (k+1) b;rw[Rj i,Fq]at this;exact this.symm
 rw[e]at d;obtain⟨m,c,h1,f,_⟩:=Awk d;exact⟨m,c,(Tn h1 g).1.ie (Tm _),f⟩
def Aki  {l:List α} {i k:Nat} {x:α} (h:l[i]?=Z x) (a:i<k):(l.take k)[i]?=Z x:=by rw[L5,Ad a];exact h
def Akj  (l:List α) {i k:Nat} (a:i<=k):(l.take k).take i=l.take i:=by rw[Xg,L9 a]
def Awo   {s:Int} {hs:List Ax} {r r':Int} {q q':List Nd} (h:Jn vs un s hs r q) (y:Jn vs un s hs r' q'):r=r':=by
 rcases h with⟨a,b⟩|⟨a,ps,hf,h⟩<;>rcases y with⟨v,b'⟩|⟨v,af,ac,y⟩
 .rw [b,b']
 .exact absurd v a
 .exact absurd a v
 .have k:=Ac7 hf;have u:=Ac7 ac
  rcases h with⟨e,p⟩|⟨e,i,x,m,m2,hx,p,z⟩<;>rcases y with⟨t,d⟩|⟨t,i',x',m',ad,f,d,j⟩
  .rw [e,t]
  .obtain ⟨n,n',h1,g⟩:=Zd f p k;have l:=(Tn d u).1.ie (Tm _);rw[e];exact Tq h1 l g.1 j.1
  .obtain ⟨n,n',h1,g⟩:=Zd hx d u;have l:=(Tn p k).1.ie (Tm _);rw[t];exact Tq l h1 z.1 g.1
  .have l:=(Tn p k).1.ie (Tm _);have o:=(Tn d u).1.ie (Tm _);rcases Nat.lt_trichotomy i i' with c|c|c
   .obtain ⟨n,n',h1,g⟩:=Zd (Aki hx c) d u;rw[Akj _ (Qn c)]at h1;have:=Tq l h1 z.1 g.1;exact absurd this e
   .subst c;rw[hx]at f;cases f;exact Tq l o z.1 j.1
   .obtain ⟨n,n',h1,g⟩:=Zd (Aki f c) p k;rw[Akj _ (Qn c)]at h1;have:=Tq h1 o g.1 j.1;exact absurd this.symm t
def Awp {a:Ask} (h:a.can=true):0<a.nodes/\0<a.aa/\a.v.right=true:=by
 simp[Ask.can]at h;exact⟨h.1.1,h.1.2,h.2⟩
def Awq {p q:List Nd} (c:q.length=p.length) (e:Ov p q) (zs:List Int) (b:Int) (v:V4) (u:Int):gl q zs b v u=gl p zs b v u:=by
 unfold gl I4;apply List.filter_congr;intro j _;unfold I3;by_cases a:j<p.length
 .rw [e j a,c]
 .have h1:=Au a;have d:decide (j<q.length)=false:=Au (by rw[c];exact a);rw[h1,d];simp
def Akk  {R:α->β->β->Prop} {x:α} {p m:β} (h:R x p m):Dc R [x] p m:=⟨m,h,rfl⟩
def Akl {a:Int} {b:List Bool}  {x:Ask×Bool} {U:B2} {p m:List Nd} (h:Lx a b x p m) (k:Bd vs U p):Bd vs (Aw U (Cy a x)) m:=by
 have:=(Zc (Akk h) k).1;exact this.ie (by simp[Fk,Oy])
def Awr {i:Int}  :∀ {st c:List (Ask×Bool)} {U:B2} {p s q v:List Nd},Dc (Lx i bs) st p q->Dc (Lx i bs) c s v->Bd vs U p->Bd vs U s->st.map Prod.fst=c.map Prod.fst->st=c:=by
 intro st
 induction st with
 | nil=>
  intro c U p s q v _ _ _ _ e
  cases c with
  | nil=>rfl
  | cons y ys=>simp at e
 | cons x xs ih=>
  intro c U p s q v h h' k k' e
  cases c with
  | nil=>simp at e
  | cons y ys=>
   obtain⟨m,h1,h2⟩:=h;obtain⟨m',g,u⟩:=h';obtain⟨a,b⟩:=x;obtain⟨a',z⟩:=y;simp only[It,List.cons.injEq]at e;obtain⟨e1,e2⟩:=e;have t:=e1;subst t
   have hb:b=z:=by
    rcases h1 with⟨j,d,_⟩|⟨j,d,l,_⟩|⟨j,d,r,l,c4⟩<;>rcases g with⟨n,f,_⟩|⟨n,f,o,_⟩|⟨n,f,r',o,d4⟩
    .exact Eq.trans d (Eq.symm f)
    .exact Eq.trans d (Eq.symm o)
    .exact absurd n (by have:a.start<0:=j;show ¬0<=a.start;omega)
    .exact Eq.trans l (Eq.symm f)
    .exact Eq.trans l (Eq.symm o)
    .exact absurd f d
    .exact absurd j (by have:a.start<0:=n;show ¬0<=a.start;omega)
    .exact absurd d f
    .have hr:=Tq k k' l.1 o.1;subst hr;have c5:b=true↔r=0:=c4;have d5:z=true↔r=0:=d4;rw[Oe,c5,d5]
   subst hb;rw[ih h2 u (Akl h1 k) (Akl g k') e2]
def A2.key (s:A2):Int×Int×List Int:=(s.id,s.start,s.eh)
def Akm {a:Int} {c:List Bool}  {x:(Ask×Bool)×A2} {U:B2} {p q:List Nd} (b:0<=a) (h:N1 a c x p q) (k:Bd vs (Aw U (Cy a x.1)) p) (e:nn U) (f:x.1.2=true->To vs a c x.1.1) :
  Bd vs (Aw U (N3 x)) q/\Tp vs a c x.1.1 x.2:=by
 obtain⟨h1,d⟩:=Akg (rd:=[x]) b (Akk h) (k.ie (by simp[Fk,Oy])) e (λy g=>by
  rcases Jy.1 g with rfl
  exact f)
 exact⟨h1.ie (by simp[Fk,Oy]),d x (List.mem_singleton_self x)⟩
def Akn {a:Int} {d:List Bool}  {x:Ask×Bool} {U:B2} {p m:List Nd} (h:(x.2=false/\m=p)\/(x.2=true/\∃r,Y7 p x.1.eh (Eu a x.1) (Eu a x.1+x.1.aa) x.1.v r m)) (k:Bd vs (Aw U (Cy a x)) p) (g:nn U) (c:x.2=true->To vs a d x.1):Bd vs U m:=by
 rcases h with⟨b,rfl⟩|⟨b,r,e,f⟩
 .exact k.ie (by simp[Cy,b,Oy])
 .have c:=c b;exact(Akc (k.ie (by simp[Cy,b])) g c.ak c.span f e).2
def Aws {c st d:Int} {s:List Bool}  {a:Ask} {zs e:List Int} {U:B2} {p r q q':List Nd} (h:Rl c s a st zs p q) (h':Rl c s a d e r q') (k:Bd vs U p) (v:Bd vs U r):st=d/\zs=e:=by
 have hl:r.length=p.length:=by rw[k.len,v.len]
 rcases h with⟨i,j,l,_⟩|⟨i,t,xs,is,j,l,x⟩<;>rcases h' with⟨b,m,n,_⟩|⟨b,t',ac,o,m,n,y⟩
 .exact ⟨j.trans m.symm,l.trans n.symm⟩
 .rw [i]at b;cases b
 .rw [i]at b;cases b
 .obtain ⟨z,e2,e3⟩:=j.same m (λu=>Awq hl (Akd k v rfl) _ _ _ u);subst z e2 e3
  cases o with
  | false=>obtain⟨a1,a2,_⟩:=l rfl;obtain⟨f,g,_⟩:=n rfl;exact⟨a1.trans f.symm,a2.trans g.symm⟩
  | true=>obtain⟨a1,a2,_⟩:=x rfl;obtain⟨f,g,_⟩:=y rfl;exact⟨a1.trans f.symm,a2.trans g.symm⟩
def Awt {x y:(Ask×Bool)×A2} (h:x.1=y.1) (k:x.2.key=y.2.key):N3 x=N3 y:=by
 obtain⟨a,s⟩:=x;obtain⟨b,t⟩:=y;have c:a=b:=h;subst c;simp only[A2.key,Sa]at k;simp[N3,Lz,k.2.1,k.2.2]
def Awu {a:Int} {t:List Bool}  (f:0<=a):∀ {rd b:List ((Ask×Bool)×A2)} {U:B2} {p s q q':List Nd},Dc (N1 a t) rd p q->Dc (N1 a t) b s q' ->
  Bd vs (Aw U (Fk (rd.map λx=>Cy a x.1))) p->Bd vs (Aw U (Fk (rd.map λx=>Cy a x.1))) s->nn U->(∀x,x∈rd->x.1.2=true->To vs a t x.1.1)->rd.map Prod.fst=b.map Prod.fst->rd.map (λx=>x.2.key)=b.map (λx=>x.2.key):=by
 intro rd
 induction rd with
 | nil=>
  intro b U p s q q' _ _ _ _ _ _ e
  cases b with
  | nil=>rfl
  | cons y ys=>simp at e
 | cons x xs ih=>
  intro b U p s q q' h h' k k' hn ho e
  cases b with
  | nil=>simp at e
  | cons y ys=>
   simp only[It,List.cons.injEq]at e;obtain⟨g,e2⟩:=e;obtain⟨m,h1,h2⟩:=h;obtain⟨m',l,ac⟩:=h'
   have hV:nn (Fk (xs.map λx=>Cy a x.1)):=Ac6 λz hz=>by
    obtain⟨u,hu,rfl⟩:=A8.1 hz;unfold Cy;split
    .next hb=>exact Vp (P4 (ho u (Df _ hu) hb).span).2.2.2
    .exact Vn
   have o:∀(A B C:B2),Aw A (Aw B C)=Aw (Aw A C) B:=λA B C=>by rw[Vm B C,Mz]
   have kp:Bd vs (Aw (Aw U (Fk (xs.map λx=>Cy a x.1))) (Cy a x.1)) p:=k.ie (o _ _ _);have r:Bd vs (Aw (Aw U (Fk (xs.map λx=>Cy a x.1))) (Cy a x.1)) s:=k'.ie (o _ _ _);have d:=ho x (D6 ..);have c:=Vo hn hV;obtain⟨a1,a2⟩:=Akm f h1 kp c d;obtain⟨b1,b2⟩:=Akm f l (by rw[<-g];exact r) c (by rw[<-g];exact d);have hk:x.2.key=y.2.key:=(by obtain⟨n,g1,g2,g3⟩:=h1;obtain⟨n',v,i,j⟩:=l;have kn:=Akn g1 kp c d;have af:=Akn v (by rw[<-g];exact r) c (by rw[<-g];exact d);rw[<-g]at j i;obtain⟨f1,f2⟩:=Aws g3 j kn af;simp only[A2.key,Sa];exact⟨g2.trans i.symm,f1,f2⟩);have ad:nn (N3 x):=Awj a2;rw[It,It,hk];refine Cd _ (ih h2 ac (U:=Aw U (N3 x)) (a1.ie ?_) (b1.ie ?_) (Vo hn ad) (λz hz=>ho z (Df _ hz)) e2)
   .rw [Mz,Vm _ (N3 x),<-Mz]
   .rw [<-Awt g hk,Mz,Vm _ (N3 x),<-Mz]
def Awv  {a:Int} {m:List Bool} {p:List Ax} {b:List Ask} {r s:List A2} (h1:Ly vs a m p b r) (v:Ly vs a m p b s):r.map A2.key=s.map A2.key:=by
 obtain⟨ps,q1,q2,st,rd,l1,n,t,r1,g,u⟩:=h1.go;obtain⟨ac,ad,af,am,al,k,c,e,l,h,i⟩:=v.go;obtain⟨ok,q,y⟩:=Zb l1;obtain⟨_,d,_⟩:=Zb k;have f:=Awr n c q d (t.trans e.symm);subst f;obtain⟨k2,z⟩:=Zc n q;obtain⟨j,_⟩:=Zc c d;have o:(rd.map λx=>Cy a x.1)=st.map (Cy a):=by rw[<-g,Dg];rfl
 have:=Awu ok.lo r1 l (by rw[o];exact k2) (by rw[o];exact j) (Akf y) (λx hx=>z x.1 (by rw[<-g];exact Kg hx)) (g.trans h.symm);rw[<-u,<-i,Dg,Dg];exact this
def Ask.er (a:Ask):Ask:={ a with po:=I,pn:=0,pc:=0,go:=I,gn:=0,gc:=0 }
def Ax.er (h:Ax):Ax:={ h with go:=I,gn:=0,gc:=0 }
def A2.er (s:A2):A2:={ s with go:=Option.none,gn:=0,gc:=0 }
def Ze {α γ β:Type} {R:α->β->β->Prop} {S:γ->β->β->Prop} {f:α->γ} (b:∀x p q,R x p q->S (f x) p q) {xs:List α}:∀ {p q:β},Dc R xs p q->Dc S (xs.map f) p q:=by
 induction xs with
 | nil=>intro p q h;exact h
 | cons x xs ih=>intro p q ⟨m,h1,a⟩;exact⟨m,b _ _ _ h1,ih a⟩
def Aww {b:List Bool} {a:Ask} :N0 b a zs↔N0 b a.er zs:=⟨λh=>⟨h.xf,h.bj,h.len⟩,λh=>⟨h.xf,h.bj,h.len⟩⟩
def Ako {c:List Bool} {b start:Int} {a:Ask} :Mv c b a start zs↔Mv c b a.er start zs:=by
 unfold Mv;rw[Aww];exact Iff.rfl
def Awx {a:Int} {e:List Bool} (x:Ask×Bool) (p q:List Nd) (h:Lx a e x p q):Lx a e (x.1.er,x.2) p q:=by
 rcases h with h|⟨h1,b,d⟩|⟨h1,b,d⟩
 .exact .inl h
 .exact .inr (.inl ⟨h1,λc=>b (Ako.2 c),d⟩)
 .exact .inr (.inr ⟨h1,Ako.1 b,d⟩)
def Awy {a:Int} {b:List Bool} (x:(Ask×Bool)×A2) (p q:List Nd) (h:N1 a b x p q):N1 a b ((x.1.1.er,x.1.2),x.2.er) p q:=h
def Ac9  {e:Nat} {a:Int} {d:List Ax} {r:Int} {q:List Nd} (h:Jn vs e a d r q):Jn vs e a (d.map Ax.er) r q:=by
 rcases h with h|⟨ok,b,c,h|⟨i,k,x,m,n,l,g,j⟩⟩
 .exact .inl h
 .exact .inr ⟨ok,b,c,.inl ⟨h.1,Ze (S:=P3 a) (f:=Ax.er) (λ_ _ _ h=>h) h.2⟩⟩
 .exact .inr ⟨ok,b,c,.inr ⟨i,k,x.er,m,n,by simp[l],by rw[<-List.map_take];exact Ze (S:=P3 a) (f:=Ax.er) (λ_ _ _ h=>h) g,j⟩⟩
def Akp  {c:Int} {d:List Bool} {e:List Ax} {b:List Ask} {a:List A2} (h:Ly vs c d e b a):Ly vs c d (e.map Ax.er) (b.map Ask.er) (a.map A2.er):=by
 obtain⟨l,m,n,st,rd,k,f,g,o,i,j⟩:=h.go;refine⟨l,m,n,st.map λx=>(x.1.er,x.2),rd.map λx=>((x.1.1.er,x.1.2),x.2.er),Ac9 k,Ze Awx f,?_,Ze Awy o,?_,?_⟩
 .rw [<-g,Dg,Dg];rfl
 .rw [<-i,Dg,Dg];rfl
 .rw [<-j,Dg,Dg];rfl
