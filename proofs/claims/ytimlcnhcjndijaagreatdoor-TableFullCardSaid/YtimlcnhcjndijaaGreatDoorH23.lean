/- Parts of a proof. No condition. -/
import Derived.Test.YtimlcnhcjndijaaGreatDoorH22
set_option linter.all false
set_option maxRecDepth 100000
set_option maxHeartbeats 12800000
namespace Go.Proofs.YtimlcnhcjndijaaGreatDoor
open Option renaming some->O,none->I
open IntKind renaming i64->G
open Value renaming int->Z,slice->V,pointer->K,tuple->D,bool->Y
open Obj renaming cells->J
open Ending renaming returned->Q
open Go renaming World->WD,Value->VL
open Go.RowKit renaming Below->BW
open Go.Proofs.Tryz
namespace Pl
open Go.RowKit
variable{after u:Int}{bs:List Bool}{zs:List Int}{vs:List V4}{sz uc un:Nat}{po uo:Option Addr}{α β:Type}{w w' wr:WD}
structure Ml {α:Type} (cells:α->Array VL) (sz:Nat) (ok:WD->α->Prop) (w:WD) (ao:Option Addr) (n:Nat) (xs:List α):Prop where
 len:xs.length=n
 max:n<=9223372036854775807
 cell:∀i x,xs[i]?=O x->∃b off,ao=O ⟨b,off,I⟩/\b<w.heap.size/\(∀j,j<sz->w.cell? ⟨b,off+i*sz+j,I⟩=(cells x)[j]?)/\ok w x
def Ml.below  {cells:α->Array VL}  {ok:WD->α->Prop}  {f:Option Addr} {n:Nat} {xs:List α} (h:Ml cells sz ok w f n xs)
  (g:BW w.heap.size w w') (c:∀x,ok w x->ok w' x):Ml cells sz ok w' f n xs:=
 ⟨h.len,h.max,λi x o=>by
  obtain⟨b,d,e,a,k,m⟩:=h.cell i x o
  exact⟨b,d,e,B4 a g.size,λj l=>(Af g a).trans (k j l),c x m⟩⟩
def Ml.get  {cells:α->Array VL}  {ok:WD->α->Prop}  {a:Option Addr} {n:Nat} {xs:List α} (h:Ml cells sz ok w a n xs) {k:Nat} (b:k<n):∃x,xs[k]?=O x:=
 ⟨xs[k]'(by rw[h.len];exact b),Az _⟩
structure Au where
 go:Option Addr
 gn:Nat
 gc:Nat
 eh:List Int
 v:V4
 ny:Int
abbrev Au.cells (h:Au):Array VL:=#[V h.go h.gn h.gc,Z G h.v.a,Z G h.v.b,Z G h.v.c,Z G h.v.d,Z G h.ny]
def Au.obj (h:Au):Obj:=J h.cells 261 (0,0)
structure Au.ok (w:WD) (h:Au):Prop where
 aj:Ao w h.go h.gn h.eh
 ou:h.gn<=h.gc
def Au.ok.below  {h:Au} (a:h.ok w) (b:BW w.heap.size w w'):h.ok w':=⟨a.aj.below b Ln,a.ou⟩
def At6  {b:Nat} {h:Au} (e:w.heap[b]?=O h.obj):w.cell? ⟨b,0,I⟩=O (V h.go h.gn h.gc)/\w.cell? ⟨b,1,I⟩=O (Z G h.v.a)/\w.cell? ⟨b,2,I⟩=O (Z G h.v.b) /\
  w.cell? ⟨b,3,I⟩=O (Z G h.v.c)/\w.cell? ⟨b,4,I⟩=O (Z G h.v.d)/\w.cell? ⟨b,5,I⟩=O (Z G h.ny):=
 ⟨Aa e 0,Aa e 1,Aa e 2,Aa e 3,Aa e 4,Aa e 5⟩
abbrev Yf:=Ml Au.cells 6 Au.ok
def Ur {w f:WD} {a:Option Addr} {n:Nat}  {d:List Nd} (h:Ao w a n zs) (m:w.heap.size<=f.heap.size) (j:∀b,Bc d b->f.heap.size<=b):0<n->vf a (Bc d):=λh0 b k e g=>by
 obtain⟨l,c,e',i,_⟩:=h.cell 0 h0;rw[e]at e';cases e';have:=j b g;omega
def C4 {α β:Type} (R:α->β->β->Prop):List α->β->β->Prop
 | [],p,q=>q=p
 | x :: xs,p,q=>∃m,R x p m/\C4 R xs m q
def Aif  {R:α->β->β->Prop} {xs ys:List α} {p q:β}:C4 R (xs++ys) p q↔∃m,C4 R xs p m/\C4 R ys m q:=by
 induction xs generalizing p with
 | nil=>exact⟨λh=>⟨p,rfl,h⟩,λ⟨m,e,h⟩=>by cases e;exact h⟩
 | cons x xs ih=>
  constructor
  .rintro ⟨m,h1,d⟩;obtain⟨c,a,b⟩:=ih.1 d;exact⟨c,⟨m,h1,a⟩,b⟩
  .rintro ⟨c,⟨m,h1,a⟩,b⟩;exact⟨m,h1,ih.2 ⟨c,a,b⟩⟩
def Yg  {R:α->β->β->Prop} {xs:List α} {x:α} {p m q:β} (h:C4 R xs p m) (a:R x m q):C4 R (xs++[x]) p q:=Aif.2 ⟨m,h,q,a,rfl⟩
def Qy  {xs:List α} {k:Nat} {x:α} (h:xs[k]?=O x):xs.take (k+1)=xs.take k++[x]:=by
 rw[Mt,h];rfl
structure Sv (ps q:List Nd):Prop where
 len:q.length=ps.length
 whole:∀i,i<ps.length->(nd q i).whole=(nd ps i).whole
 inv:∀i,i<q.length->Inv (nd q i).whole (nd q i).l
def Us  {b c cap:Nat}  {a q:List Nd} (h:ia w a q) (d:By w' b c po cap q):Sv a q:=⟨h.len,h.whole,d.inv⟩
def Pf (ps:List Nd) (zs:List Int) (fr tt:Int) (v:V4) (r:Int) (q:List Nd):Prop:=Lg ps zs fr tt v r q/\Sv ps q
def Yh (ps:List Nd) (zs:List Int) (fr tt:Int) (v:V4) (r:Int) (q:List Nd):Prop:=Yd ps zs fr tt v r q/\Sv ps q
def Mm (now:Int) (h:Au):Int:=max h.ny (now+1)
def Pg (now:Int) (h:Au) (ps q:List Nd):Prop:=Pf ps h.eh now (Mm now h) h.v 0 q
structure Qz (vs:List V4) (un:Nat) (now:Int):Prop where
 gg:vs.length<=16
 right:∀i,i<vs.length->(vv vs i).right=true
 up:un=vs.length
 lo:0<=now
 hi:now<1099511627776
structure Ab3 (vs:List V4) (ps:List Nd):Prop where
 len:ps.length=vs.length
 node:∀i,i<vs.length->(nd ps i).whole=vv vs i/\(nd ps i).l=[⟨0,vv vs i⟩]
 inv:∀i,i<ps.length->Inv (nd ps i).whole (nd ps i).l
def Je (vs:List V4) (un:Nat) (now:Int) (hs:List Au) (r:Int) (q:List Nd):Prop:=
 (¬Qz vs un now/\r=1)\/(Qz vs un now/\∃ps0,Ab3 vs ps0/\((r=0/\C4 (Pg now) hs ps0 q) \/
  (r≠0/\∃k h m q',hs[k]?=O h/\C4 (Pg now) (hs.take k) ps0 m/\Pf m h.eh now (Mm now h) h.v r q')))
def Aig (vs:List V4) (uo:Option Addr) (un uc:Nat) (bs:List Bool) (now:Int) (hs:List Au) (w:WD) (e:Ending) (w':WD):Prop:=
 BW w.heap.size w w'/\((∃r,r≠0/\e=Q (D #[K I,Z G r])/\Je vs un now hs r []) \/
  (∃tb gb gs cap po q,e=Q (D #[K (O ⟨tb,0,I⟩),Z G 0])/\By w' gb gs po cap q/\rh w' tb gb uo un uc bs now/\(∀b,Bc q b->w.heap.size<=b)/\Je vs un now hs 0 q))
structure lh (w:WD) (tb gb gs cap:Nat) (po uo:Option Addr) (un uc:Nat) (bs:List Bool) (now:Int) (q:List Nd) (wr:WD):Prop where
 low:BW w.heap.size w wr
 dq:By wr gb gs po cap q
 tab:rh wr tb gb uo un uc bs now
 fk:∀b,Bc q b->w.heap.size<=b
def lh.below  {f d e cap:Nat} {po j:Option Addr} {i g:Nat} {c:List Bool} {a:Int} {q:List Nd}  (h:lh w f d e cap po j i g c a q wr) (b:BW wr.heap.size wr w'):lh w f d e cap po j i g c a q w':=
 ⟨h.low.trans (b.mono h.low.size),h.dq.below b,h.tab.below b,h.fk⟩
def lh.mod  {s k l cap:Nat} {po p:Option Addr} {o t:Nat} {r:List Bool} {g:Int} {q n:List Nd}  (h:lh w s k l cap po p o t r g q wr) (m:0<o->∀b d,p=O ⟨b,d,I⟩->b<w.heap.size) (z:By w' k l po cap n) (y:ia wr q n) (j:Mod (Bc q) wr w'):lh w s k l cap po p o t r g n w':=
 ⟨Atr h.low j h.fk h.low.size,z,⟨(j.block _ (Ac h.tab.head) (Jv h.dq h.tab.head ad9 ad9)).trans h.tab.head,h.tab.up.len,h.tab.up.max,λi x=>by
  obtain⟨b,d,e,f,v⟩:=h.tab.up.cell i x;have hu:=m ao9 b d e
  exact⟨b,d,e,B4 f j.size,(Bl (a:=⟨b,d+i,I⟩) (w:=wr) (j.block b f (λc=>by have:=h.fk b c;omega))).trans v⟩⟩, λb u=>by
  rcases y.fk u with c|c
  .exact h.fk b c
  .exact Aw h.low.size c⟩
def Mj.lt  {d:Option Addr} {n:Nat} {g:List Bool} (h:Mj w d n g) (h0:0<n):∀b a,d=O ⟨b,a,I⟩->b<w.heap.size:=λb a e=>by
 obtain⟨i,f,e',c,_⟩:=h.cell 0 h0;rw[e]at e';cases e';exact c
def At7 (vo uo ho:Option Addr) (n c un uc m mc:Nat) (vs:List V4) (bs:List Bool) (f:Int) (hs:List Au) (w:WD) (hv:Oh w vo n vs) (hu:Mj w uo un bs) (hh:Yf w ho m hs) :
  Calls prog 185 #[V vo n c,V uo un uc,Z G f,V ho m mc] w (Aig vs uo un uc bs f hs w):=by
 have u:=hv.len;have aU:=hh.max;have aN:=λh0=>hu.lt h0;replace⟨hv,hu,hh,u,aN⟩:=H5 hv hu hh u aN;go_enter func185,ntmps185;go_wp2_with fail;refine(Atx vo n c vs w hv.out).mono ?_;rintro e w1 (⟨aK,rfl,r⟩|⟨aO,z,gb,gs,po,cap,ps,rfl,aR,y,j,s,g,r⟩)
 .have p:BW w.heap.size w (w1.alloc (J #[K I,V uo un uc,Z G f] 270 (0,0))):=r.alloc r.size _;have hrel:Je vs un f hs 1 []:=.inl ⟨λh=>aK ⟨by rw[<-u.out];exact h.gg,λi hi=>h.right i (by rw[u.out];exact hi)⟩,rfl⟩;replace⟨aK,r,p,hrel⟩:=H4 aK r p hrel;go_wp2;go_ret2;exact⟨p.out,.inl ⟨1,ad9,rfl,hrel.out⟩⟩
 have p:BW w.heap.size w (w1.alloc (J #[K (O ⟨gb,0,I⟩),V uo un uc,Z G f] 270 (0,0))):=r.alloc r.size _
 have aA:Hid (¬Qz vs un f->Aig vs uo un uc bs f hs w (Q (D #[K I,Z G 1])) (w1.alloc (J #[K (O ⟨gb,0,I⟩),V uo un uc,Z G f] 270 (0,0)))):=
  λh=>⟨p,.inl ⟨1,ad9,rfl,.inl ⟨h,rfl⟩⟩⟩
 by_cases q1:un=n;rotate_left
 .have d1:((un:Int) != (n:Int))=true:=by simp;omega
  have l:=aA (λh=>q1 (h.up.trans u.out));replace⟨q1,l,r,p,y,s,g,z⟩:=H8 q1 l r p y s g z;replace j:=Hh j;go_wp2;go_ret2;exact l.out
 have d1:((un:Int) != (n:Int))=false:=by simp;omega
 by_cases q2:f<0
 .have d2:decide (f<0)=true:=by simpa using q2
  have l:=aA (λh=>by have:=h.lo;omega);replace⟨q1,q2,l,r,p,y,s,g⟩:=H8 q1 q2 l r p y s g;replace⟨z,j⟩:=H2 z j;go_wp2;go_ret2;exact l.out
 have d2:decide (f<0)=false:=by simpa using q2
 by_cases q3:1099511627776<=f
 .have d3:decide (1099511627776<=f)=true:=by simpa using q3
  have l:=aA (λh=>by have:=h.hi;omega);replace⟨q1,q2,q3,l,r,p,y,s⟩:=H8 q1 q2 q3 l r p y s;replace⟨g,z,j⟩:=H3 g z j;go_wp2;go_ret2;exact l.out
 have d3:decide (1099511627776<=f)=false:=by simpa using q3
 have aE:Qz vs un f:=⟨by rw[u.out];exact aO,λi hi=>z i (by rw[<-u.out];exact hi),q1.trans u.symm,ao9,ao9⟩;have aC:Ab3 vs ps:=⟨j.trans u.symm,λi hi=>s i (by rw[<-u.out];exact hi),y.inv⟩
 have aI:lh w w1.heap.size gb gs cap po uo un uc bs f ps (w1.alloc (J #[K (O ⟨gb,0,I⟩),V uo un uc,Z G f] 270 (0,0))):=
  ⟨p,y.below Bn,⟨Ah _ _,hu.below p Ln⟩,g⟩
 have ew:IntKind.i64.wrap (f+1)=f+1:=E0 _ ao9;clear aR aA;replace⟨q1,q2,q3,r,p,y,s,g⟩:=H8 q1 q2 q3 r p y s g;replace⟨z,j,aE,aC,aI⟩:=H5 z j aE aC aI;go_wp2;go_loopw [12,13,42] (λ_ _ i wr=>∃(k:Nat) (q:List Nd),i=Z G k/\k<=m/\Hid (lh w w1.heap.size gb gs cap po uo un uc bs f q wr)/\Hid (C4 (Pg f) (hs.take k) ps q)) (λ_ _ i _=>m-(intOf i).toNat)
 case atStart=>exact⟨0,ps,rfl,Ar _,aI.out,rfl⟩
 case round=>
  obtain⟨k,q,rfl,hk,hL,hC⟩:=hrel;by_cases hc:k<m
  .have aQ:(k:Int)<m:=ao9;have aV:(0:Int)<=(k:Int):=ao9;obtain⟨x,hx⟩:=hh.get hc;obtain⟨b,aX,rfl,hb,a0,av⟩:=hh.cell k x hx;have c0:=(Af hL.low hb).trans (a0 0 ao9);have c1:=(Af hL.low hb).trans (a0 1 ao9);have c2:=(Af hL.low hb).trans (a0 2 ao9);have c3:=(Af hL.low hb).trans (a0 3 ao9);have c4:=(Af hL.low hb).trans (a0 4 ao9);have c5:=(Af hL.low hb).trans (a0 5 ao9);simp at c0 c1 c2 c3 c4 c5;clear a0;obtain⟨T,hT⟩:=Ex (Mm f x);have aW:(if x.ny<f+1 then f+1 else x.ny)=T:=(by rw[hT];unfold Mm;omega);have t:lh w w1.heap.size gb gs cap po uo un uc bs f q (wr.alloc x.obj):=hL.below Bn;obtain⟨WA,an⟩:=Ex (wr.alloc x.obj);rw[<-an]at t;have ac:WA.heap[wr.heap.size]?=O x.obj:=by rw[an];exact Ah _ _
   have aL:=
    λW' h=>Aby gb gs cap po q x.go x.gn x.gc x.eh f T x.v W' (t.dq.below h) (av.aj.below (t.low.trans (h.mono t.low.size)) Ln) (Ur av.aj Ln t.fk) av.ou
   have t0:=Aa t.tab.head 0;simp at t0;have lt:=Ac t.tab.head;obtain⟨y0,y1,y2,y3,y4,y5⟩:=At6 ac;have lx:=Ac ac;have aM:=Jv t.dq t.tab.head ad9 ad9;have ad:=Jv t.dq ac ad9 ad9;have aB:BW WA.heap.size WA WA.drew:=(Below.refl _ _).drew;replace⟨hx,av,hT,t,ac,aL,aM,ad⟩:=H8 hx av hT t ac aL aM ad;replace aB:=Hh aB
   have aP:Hid (∀w':WD,(∀b,b<WA.heap.size->¬Bc q b->∀o,w'.cell? ⟨b,o,I⟩=WA.cell? ⟨b,o,I⟩)->w'.cell? ⟨w1.heap.size,0,I⟩=O (K (O ⟨gb,0,I⟩))/\w'.cell? ⟨wr.heap.size,0,I⟩=O (V x.go x.gn x.gc)/\w'.cell? ⟨wr.heap.size,1,I⟩=O (Z G x.v.a)/\w'.cell? ⟨wr.heap.size,2,I⟩=O (Z G x.v.b)/\w'.cell? ⟨wr.heap.size,3,I⟩=O (Z G x.v.c)/\w'.cell? ⟨wr.heap.size,4,I⟩=O (Z G x.v.d)/\w'.cell? ⟨wr.heap.size,5,I⟩=O (Z G x.ny)):=
    λw' h=>⟨(h _ lt aM.out _).trans t0,(h _ lx ad.out _).trans y0,(h _ lx ad.out _).trans y1,(h _ lx ad.out _).trans y2,(h _ lx ad.out _).trans y3,(h _ lx ad.out _).trans y4,(h _ lx ad.out _).trans y5⟩
   go_wp2_with fail;have ao:wr.alloc (J x.cells 261 (0,0))=WA:=an.symm
   try rw[ao]
   replace⟨an,ao⟩:=H2 an ao;clear c0 c1 c2 c3 c4 c5;go_region_held3 (λw'=>w'.cell? ⟨w1.heap.size,0,I⟩=O (K (O ⟨gb,0,I⟩))/\w'.cell? ⟨wr.heap.size,0,I⟩=O (V x.go x.gn x.gc)/\w'.cell? ⟨wr.heap.size,1,I⟩=O (Z G x.v.a)/\w'.cell? ⟨wr.heap.size,2,I⟩=O (Z G x.v.b)/\w'.cell? ⟨wr.heap.size,3,I⟩=O (Z G x.v.c)/\w'.cell? ⟨wr.heap.size,4,I⟩=O (Z G x.v.d)/\w'.cell? ⟨wr.heap.size,5,I⟩=O (Z G x.ny))
    (first
      | (go_keep;done)
      | with_reducible exact aP.out _ aS.out)
    (first
      | (go_at_call 236;refine(aL _ aB.out).mono ?_;rintro e w8 ⟨r8,aG,rfl,aJ,aF,aD,al⟩;have aS:Hid (∀b,b<WA.heap.size->¬Bc q b->∀o,w8.cell? ⟨b,o,I⟩=WA.cell? ⟨b,o,I⟩):=λb hb hn o=>Bl (a:=⟨b,o,I⟩) (w:=WA) (al.block b hb hn)
         replace⟨aJ,aF,aD,al⟩:=H4 aJ aF aD al))
   have am:=(t.below aB.out).mod aN.out aF.out aD.out al.out;have af:Pf q x.eh f (Mm f x) x.v r8 aG:=⟨by rw[<-hT.out];exact aJ.out,Us aD.out aF.out⟩;by_cases q5:r8=0
   .have d5:(r8 != 0)=false:=(by simpa using q5);have aH:C4 (Pg f) (hs.take (k+1)) ps aG:=(by rw[Qy hx.out];exact Yg hC.out (by rw[q5]at af;exact af));replace⟨q5,af,am,aH⟩:=H4 q5 af am aH;clear t0 lt y0 y1 y2 y3 y4 y5 lx;go_wp2;go_roundw
    case rel=>exact⟨k+1,aG,by go_num,ao9,am.out,aH.out⟩
    case measure=>simp[intOf];omega
   .have d5:(r8 != 0)=true:=(by simpa using q5);have hrel:Je vs un f hs r8 []:=.inr ⟨aE.out,ps,aC.out,.inr ⟨q5,k,x,q,aG,hx.out,hC.out,af⟩⟩;have ap:=am.low;have aT:=Hh q5;clear q5;replace⟨af,am,hrel,ap⟩:=H4 af am hrel ap;clear t0 lt y0 y1 y2 y3 y4 y5 lx;go_wp2;go_ret2;exact⟨ap.out,.inl ⟨r8,aT.out,rfl,hrel.out⟩⟩
  .have aQ:¬(k:Int)<m:=ao9;have hrel:Je vs un f hs 0 q:=.inr ⟨aE.out,ps,aC.out,.inl ⟨rfl,by have h:=hC.out;rwa [Dd (by rw[hh.len];omega)]at h⟩⟩;replace hrel:=Hh hrel;go_wp2;go_ret2;exact⟨hL.low,.inr ⟨w1.heap.size,gb,gs,cap,po,q,rfl,hL.dq,hL.tab,hL.fk,hrel.out⟩⟩
def Ask.ok.j5  {a:Ask} (h:a.ok w) (b:BW w.heap.size w w'):a.ok w':=h.below b Ln
abbrev Yi:=Ml Ask.cells 10 (λw a=>Ask.ok w a)
structure Ax where
 id:Int
 start:Int
 go:Option Addr
 gn:Nat
 gc:Nat
 eh:List Int
abbrev Ax.cells (s:Ax):Array VL:=#[Z G s.id,Z G s.start,V s.go s.gn s.gc]
structure Ax.ok (w:WD) (s:Ax):Prop where
 aj:Ao w s.go s.gn s.eh
 ou:s.gn<=s.gc
def Ax.ok.below  {s:Ax} (h:s.ok w) (a:BW w.heap.size w w'):s.ok w':=⟨h.aj.below a Ln,h.ou⟩
abbrev Ut:=Ml Ax.cells 3 (λw s=>Ax.ok w s)
def El (now:Int) (a:Ask):Int:=max a.start now
def Lh (now:Int) (bs:List Bool) (x:Ask×Bool) (ps q:List Nd):Prop:=
 (x.1.start<0/\x.2=false/\q=ps) \/
 (0<=x.1.start/\¬Mk bs now x.1 (El now x.1) x.1.eh/\x.2=false/\q=ps) \/
 (0<=x.1.start/\Mk bs now x.1 (El now x.1) x.1.eh/\∃r,Pf ps x.1.eh (El now x.1) (Nn (El now x.1) x.1.aa) x.1.v r q/\(x.2=true↔r=0))
def Q0 (now:Int) (bs:List Bool) (a:Ask) (st:Int) (zs:List Int) (ps q:List Nd):Prop:=
 (a.can=false/\st=-1/\zs=[]/\q=ps) \/
 (a.can=true/\∃t xs is,Fq ps (Bg (np bs a.gl)) a.nodes a.v a.aa now t xs is/\(is=false->st=-1/\zs=[]/\q=ps)/\(is=true->st=t/\zs=Bg xs/\∃r,Pf ps (Bg xs) t (t+a.aa) a.v r q))
def Nq (now:Int) (bs:List Bool) (x:(Ask×Bool)×Ax) (ps q:List Nd):Prop:=
 ∃m,((x.1.2=false/\m=ps)\/(x.1.2=true/\∃r,Yh ps x.1.1.eh (El now x.1.1) (El now x.1.1+x.1.1.aa) x.1.1.v r m))/\x.2.id=x.1.1.id/\Q0 now bs x.1.1 x.2.start x.2.eh m q
structure Li (vs:List V4) (now:Int) (bs:List Bool) (hs:List Au) (asks:List Ask) (slots:List Ax):Prop where
 go:∃ps q1 q2 st rd,Je vs bs.length now hs 0 ps/\C4 (Lh now bs) st ps q1/\st.map Prod.fst=asks/\C4 (Nq now bs) rd q1 q2/\rd.map Prod.fst=st/\rd.map Prod.snd=slots
def Aih (vs:List V4) (now:Int) (bs:List Bool) (hs:List Au) (asks:List Ask) (w:WD) (e:Ending) (w':WD):Prop:=
 BW w.heap.size w w'/\((∃r,r≠0/\e=Q (D #[V I 0 0,Z G r])/\Je vs bs.length now hs r []) \/
  (∃so sc slots,e=Q (D #[V so asks.length sc,Z G 0])/\Li vs now bs hs asks slots/\Ut w' so asks.length slots/\asks.length<=sc/\(∀b off,so=O ⟨b,off,I⟩->w.heap.size<=b)/\∀s,s∈slots->∀b off,s.go=O ⟨b,off,I⟩->w.heap.size<=b))
def At8  {R:α->β->β->Prop} {xs:List α} {p q:β} (h:C4 R xs p q) {x:α} (a:x∈xs):∃c d,R x c d:=by
 induction xs generalizing p with
 | nil=>cases a
 | cons y ys ih=>
  obtain⟨m,h1,b⟩:=h;rcases Eh.1 a with rfl|a
  .exact ⟨p,m,h1⟩
  .exact ih b a
def At9 {fr a:Int} {v:V4} (h:Bf fr (Nn fr a) v=true):Nn fr a=fr+a/\0<=fr/\fr<fr+a/\fr+a<=1099511627776:=by
 obtain⟨c,d,b,e⟩:=Mf h;unfold Nn at *
 split at b<;>simp_all<;>omega
def Aii {b:Int} {i:List Bool} {a:Ask} {g q:List Nd} (h:Lh b i (a,true) g q):Mk i b a (El b a) a.eh/\D5 g.length a.eh/\Bf (El b a) (El b a+a.aa) a.v=true /\
  Pf g a.eh (El b a) (El b a+a.aa) a.v 0 q:=by
 rcases h with⟨_,h,_⟩|⟨_,_,h,_⟩|⟨_,h1,r,j,l⟩
 .cases h
 .cases h
 .have m:=l.1 rfl;subst m;have d:=j;rcases j.1 with⟨_,c,_⟩|⟨_,_,_,c,_⟩|⟨k,f,_⟩
  .cases c
  .cases c
  .have e:=(At9 f).1;rw[e]at f d;exact⟨h1,k,f,d⟩
def Aq  (cells:α->Array VL) (xs:List α):List VL:=xs.flatMap λx=>(cells x).toList
def O2  (cells:α->Array VL) (xs ys:List α):Aq cells (xs++ys)=Aq cells xs++Aq cells ys:=by simp[Aq]
def R1  (cells:α->Array VL) (x:α):Aq cells [x]=(cells x).toList:=by simp[Aq]
def I3  {cells:α->Array VL}  (a:∀x,(cells x).size=sz) (xs:List α) {i j:Nat} {x:α} (b:xs[i]?=O x) (f:j<sz):(Aq cells xs)[i*sz+j]?=(cells x)[j]?:=by
 induction xs generalizing i with
 | nil=>simp at b
 | cons y ys ih=>
  have d:=a y;rw[show Aq cells (y :: ys)=(cells y).toList++Aq cells ys from by simp[Aq]]
  cases i with
  | zero=>
   have e:x=y:=(by simpa using b.symm);subst e;rw[Es (by simp;omega)];simp
  | succ i=>
   have c:ys[i]?=O x:=(by simpa using b);rw[Gb (by simp[d,Kx];omega)];have:=ih c;rw[show(i+1)*sz+j-(cells y).toList.length=i*sz+j by simp[d,Kx];omega,this]
def Aua  {cells:α->Array VL}  (b:∀x,(cells x).size=sz) {ok:WD->α->Prop}  {base g cap:Nat} {T:TypeId} {xs:List α} {n:Nat} (h:w.ownsRow base T sz (V (O ⟨g,0,I⟩) n cap) n (Aq cells xs)) (e:xs.length=n)
  (a:n<=9223372036854775807) (f:∀x,x∈xs->ok w x):Ml cells sz ok w (O ⟨g,0,I⟩) n xs:=by
 refine⟨e,a,λi x c=>?_⟩;have k:=(Ap.1 c).1;refine⟨g,0,rfl,(h.lt g rfl).2,λj d=>?_,f x (Ai c)⟩
 rw[Dm,Fw h (i*sz+j) (by
  have:(i+1)*sz<=n*sz:=Zk _ ao9;rw[Kx]at this
  omega),I3 b xs c d]
def Aij:(prog.info? 224).map (λi=>(i.zero,i.size,i.bytes))=O (O (.agg #[Z G 0,Z G 0,V I 0 0]),3,40):=by kernel_rfl
def Aub:(prog.info? 4).map (λi=>(i.zero,i.size,i.bytes))=O (O (Y false),1,1):=by kernel_rfl
def Auc (n:Nat):madeCells (Value.bool false).cells n=(List.replicate n (Y false)).toArray:=by
 apply Wc.1;apply Eg;intro j;by_cases a:j<n
 .simp [madeCells,Value.cells,a,Nat.mod_one]
 .simp [madeCells,Value.cells,a]
def Aik (n:Nat) (d:n<=1000000):∀w:WD,(Instr.makeSlice 216 (Z G (n:Int)) (Z G (n:Int))).run prog w=.ok (V (O ⟨w.heap.size,0,I⟩) n n) (w.alloc (J (Array.replicate n (Y false)) 4 (0,0))):=by
 intro w;obtain⟨i,b,c,h1,a⟩:=B6 Aub;have:=Rv (P:=prog) w 216 4 i _ underlying216 b c G G n n ao9 ao9 (by rw[a];omega) ao9;rw[this];simp only[J7,h1,P6];rw[Auc,Zi]
def Aud (n:Nat) (d:n<=1000000):∀w:WD,(Instr.makeSlice 217 (Z G 0) (Z G (n:Int))).run prog w=.ok (V (O ⟨w.heap.size,0,I⟩) 0 n) (w.alloc (J (madeCells (Value.agg #[Z G 0,Z G 0,V I 0 0]).cells (n*3)) 224 (0,0))):=by
 intro w;obtain⟨i,b,c,h1,a⟩:=B6 Aij;have:=Rv (P:=prog) w 217 224 i _ Zs b c G G 0 n ao9 ao9 (by rw[a];omega) ao9;rw[this];simp only[J7,Int.toNat_zero,h1]
structure mo (w:WD) (tb gb gs cap:Nat) (po uo:Option Addr) (un uc:Nat) (bs:List Bool) (now:Int) (q:List Nd) (kb:Nat) (ks:List VL) (wr:WD):Prop where
 la:lh w tb gb gs cap po uo un uc bs now q wr
 kept:wr.heap[kb]?=O (J ks.toArray 4 (0,0))
 kw:w.heap.size<=kb
def mo.below  {i c d cap:Nat} {po l:Option Addr} {k j:Nat} {b:List Bool} {a:Int} {q:List Nd} {f:Nat} {g:List VL}  (h:mo w i c d cap po l k j b a q f g wr) (e:BW wr.heap.size wr w'):mo w i c d cap po l k j b a q f g w':=
 ⟨h.la.below e,Ae e h.kept (Ac h.kept),h.kw⟩
def mo.mod  {o c d cap:Nat} {po j:Option Addr} {i p:Nat} {k:List Bool} {a:Int} {q g:List Nd} {m:Nat} {n:List VL}  (h:mo w o c d cap po j i p k a q m n wr) (e:0<i->∀b f,j=O ⟨b,f,I⟩->b<w.heap.size) (s:By w' c d po cap g) (r:ia wr q g) (l:Mod (Bc q) wr w'):mo w o c d cap po j i p k a g m n w':=
 ⟨h.la.mod e s r l,(l.block _ (Ac h.kept) (Jv h.la.dq h.kept ad9 ad9)).trans h.kept,h.kw⟩
def lh.setOther  {tb r m cap:Nat}    {l:Int} {q:List Nd}  {b o:Nat} {x:Array VL} {T:TypeId} {v:VL} (h:lh w tb r m cap po uo un uc bs l q wr) (n:wr.heap[b]?=O (J x T (0,0)))
  (h1:T≠363) (s:T≠398) (h3:T≠354) (h4:T≠270) (hw:w.heap.size<=b) (ad:0<un->∀b f,uo=O ⟨b,f,I⟩->b<w.heap.size) (k:∀(i:Nat) (u:VL),x[i]?=O u->∀p:Addr,u≠Value.pointer (O p)) :
  lh w tb r m cap po uo un uc bs l q (wr.setCell ⟨b,o,I⟩ v):=by
 have d:∀c,c≠b->(wr.setCell ⟨b,o,I⟩ v).heap[c]?=wr.heap[c]?:=λc t=>Ci _ _ _ _ t;have hm:=Jv h.dq n h1 s;have g:=h.dq
 have y:r≠b:=λe=>by have:=g.head;rw[e,n]at this;simp at this;exact h3 this.2
 have ac:tb≠b:=λe=>by have:=h.tab.head;rw[e,n]at this;simp at this;exact h4 this.2
 refine⟨h.low.setCell hw _,⟨(d _ y).trans g.head,g.addr,λi j=>?_,λi j=>?_,g.inv,g.apart,g.own,g.gg⟩,⟨(d _ ac).trans h.tab.head,h.tab.up.len,h.tab.up.max,λi j=>?_⟩,h.fk⟩
 .have s:m≠b:=λe=>by
   have:=g.ptr i j;rw[e,Aa n i]at this;exact k i _ this _ rfl
  exact(Bl (a:=⟨m,i,I⟩) (w:=wr) (d _ s)).trans (g.ptr i j)
 .have hq:=g.fp i j;exact⟨(d _ (λe=>hm ⟨i,j,.inl e.symm⟩)).trans hq.head,hq.row.of_block (d _ (λe=>hm ⟨i,j,.inr e.symm⟩)),hq.ne⟩
 .obtain ⟨c,f,e,z,t⟩:=h.tab.up.cell i j;have:=ad ao9 c f e;exact⟨c,f,e,by simpa[World.setCell]using z,(Bl (a:=⟨c,f+i,I⟩) (w:=wr) (d c ao9)).trans t⟩
def Aue (st:List (Ask×Bool)) (a:Ask) (b:Bool) (m k:Nat) (f:k<m) (e:st.length=k) :
  ((st.map λx=>Value.bool x.2)++List.replicate (m-k) (Value.bool false)).toArray.setIfInBounds k (Y b)=(((st++[(a,b)]).map λx=>Value.bool x.2)++List.replicate (m-(k+1)) (Value.bool false)).toArray:=by
 obtain⟨d,c⟩:∃d,m-k=d+1:=⟨m-k-1,ao9⟩;rw[c,show m-(k+1)=d by omega,List.replicate_succ];apply Wc.1;simp[e]
def Auf (st:List (Ask×Bool)) (d:Nat):∀(i:Nat) (u:VL),((st.map λx=>Value.bool x.2)++List.replicate d (Value.bool false)).toArray[i]?=O u->∀p:Addr,u≠Value.pointer (O p):=by
 intro i u a p e;rw[Lp]at a;rcases C7.1 (Ai a)with h|h
 .obtain ⟨_,_,rfl⟩:=A7.1 h;cases e
 .rw [(Wa.1 h).2]at e;cases e
def Ab4 (w:WD) (cs:Array VL) (T:TypeId):∀j u,cs.toList[j]?=O u->(w.alloc (J cs T (0,0))).cell? ((⟨w.heap.size,0,I⟩:Addr).add j)=O u:=by
 intro j u a;rw[Tq,Dm,Aa (Ah w _) j];simpa using a
def Ail (s:Ax):∀u∈s.cells.toList,u.oneCell'=true:=by
 simp[Value.oneCell']
def Gh {n:Nat} (h:n<=1000000):n+1<=maxLen:=by
 have:maxLen=9223372036854775807:=by kernel_rfl
 omega
def Aug (s:Ax):s.cells.size=3:=rfl
def Aim:0<3:=Iw _
def lh.other  {tb p m cap:Nat}    {l:Int} {q:List Nd}  {b:Nat} {x:Array VL} {T:TypeId} (h:lh w tb p m cap po uo un uc bs l q wr) (r:wr.heap[b]?=O (J x T (0,0)))
  (h1:T≠363) (h2:T≠398) (h3:T≠354) (h4:T≠270) (hw:w.heap.size<=b) (z:0<un->∀b g,uo=O ⟨b,g,I⟩->b<w.heap.size) (v:0<q.length->m≠b) (t:wr.grownBy w' (O b)) :
  lh w tb p m cap po uo un uc bs l q w':=by
 have d:∀c,c<wr.heap.size->c≠b->w'.heap[c]?=wr.heap[c]?:=λc n s=>t.block c n (λe=>s (by cases e;rfl));have hm:=Jv h.dq r h1 h2;have f:=h.dq
 have u:p≠b:=λe=>by have:=f.head;rw[e,r]at this;simp at this;exact h3 this.2
 have y:tb≠b:=λe=>by have:=h.tab.head;rw[e,r]at this;simp at this;exact h4 this.2
 refine⟨h.low.grown t h.low.size (λc e=>by cases e;exact hw),⟨(d _ (Ac f.head) u).trans f.head,f.addr,λi j=>?_,λi j=>?_,f.inv,f.apart,f.own,f.gg⟩,⟨(d _ (Ac h.tab.head) y).trans h.tab.head,h.tab.up.len,h.tab.up.max,λi j=>?_⟩,h.fk⟩
 .exact (Bl (a:=⟨m,i,I⟩) (w:=wr) (d _ (f.rm ao9) (v ao9))).trans (f.ptr i j)
 .have o:=f.fp i j;have n:=o.lt;exact⟨(d _ n.1 (λe=>hm ⟨i,j,.inl e.symm⟩)).trans o.head,o.row.of_block (d _ n.2 (λe=>hm ⟨i,j,.inr e.symm⟩)),o.ne⟩
 .obtain ⟨c,g,e,k,s⟩:=h.tab.up.cell i j;have:=z ao9 c g e;exact⟨c,g,e,B4 k t.size,(Bl (a:=⟨c,g+i,I⟩) (w:=wr) (d c k ao9)).trans s⟩
structure j4 (w:WD) (gs g cp k:Nat) (sl:List Ax) (q:List Nd) (wr:WD):Prop where
 own:wr.ownsRow w.heap.size 224 3 (V (O ⟨g,0,I⟩) k cp) k (Aq Ax.cells sl)
 len:sl.length=k
 ok:∀s,s∈sl->Ax.ok wr s/\∀b off,s.go=O ⟨b,off,I⟩->w.heap.size<=b/\b<wr.heap.size/\¬Bc q b/\b≠g
 gs:0<q.length->gs≠g
def j4.ar  {d g b k:Nat} {f:List Ax} {q:List Nd}  (h:j4 w d g b k f q wr):∃a,wr.heap[g]?=O (J a 224 (0,0)):=by
 rcases h.own.2 with⟨c,_⟩|⟨i,cap,a,e,_,h,_⟩
 .cases c
 .cases e;exact⟨a,h⟩
def j4.below  {f g d k:Nat} {j:List Ax} {q:List Nd}  (h:j4 w f g d k j q wr) (a:BW wr.heap.size wr w'):j4 w f g d k j q w':=
 ⟨Aty h.own a Ln,h.len,λs i=>⟨(h.ok s i).1.below a,λb c e=>by obtain⟨l,m,n,o⟩:=(h.ok s i).2 b c e;exact⟨l,B4 m a.size,n,o⟩⟩,h.gs⟩
def j4.mod  {j g i k:Nat} {n:List Ax} {q m:List Nd}  (h:j4 w j g i k n q wr) (t:¬Bc q g) (l:ia wr q m) (f:Mod (Bc q) wr w'):j4 w j g i k n m w':=by
 refine⟨Ab1 h.own λc e=>?_,h.len,λs d=>⟨⟨(h.ok s d).1.aj.mod f (λ_ b a e=>((h.ok s d).2 b a e).2.2.1),(h.ok s d).1.ou⟩,λb a e=>?_⟩,λh0=>h.gs (by rw[l.len]at h0;exact h0)⟩
 .cases e;exact f.block _ (h.own.lt g rfl).2 t
 .obtain ⟨h1,r,o,p⟩:=(h.ok s d).2 b a e;refine⟨h1,B4 r f.size,λc=>?_,p⟩;rcases l.fk c with c|c
  .exact o c
  .omega
def Qx.found {i q:List Nd} {k:List Bool} {f st:Int} {a:Ask} {so:Option Addr} {j:Nat}  (h:Qx i k f a st so j q w) (p:Sv i q):∃zs,Q0 f k a st zs i q/\Ao w so j zs/\(∀b d,so=O ⟨b,d,I⟩->0<j):=by
 rcases h with⟨c,rfl,rfl,rfl,rfl⟩|⟨c,t,xs,is,g,m,n⟩
 .exact ⟨[],.inl ⟨c,rfl,rfl,rfl⟩,Uq w,λb d e=>by cases e⟩
 .cases is with
  | false=>
   obtain⟨rfl,rfl,rfl,rfl⟩:=m rfl;exact⟨[],.inr ⟨c,t,xs,false,g,λ_=>⟨rfl,rfl,rfl⟩,λh=>by cases h⟩,Uq w,λb d e=>by cases e⟩
  | true=>
   obtain⟨rfl,l,r,o⟩:=n rfl;refine⟨Bg xs,.inr ⟨c,st,xs,true,g,λh=>(by cases h),λ_=>⟨rfl,rfl,r,o,p⟩⟩,l,λb d e=>?_⟩;have:=g.found.len;have:=g.found.many1;have:=l.len;simp[Bg]at this;omega
def j4.snoc  {r g cp k m f:Nat} {z:List Ax} {q:List Nd} {wr n:WD} {s:Ax} {gb cap:Nat}  (h:j4 w r g cp k z q wr) (hp:By wr gb r po cap q) (hs:s.ok wr) (y:∀b d,s.go=O ⟨b,d,I⟩->w.heap.size<=b/\b<wr.heap.size/\¬Bc q b/\b≠g)
  (o:n.ownsRow w.heap.size 224 3 (V (O ⟨m,0,I⟩) (k+1) f) (k+1) (Aq Ax.cells z++s.cells.toList)) (hg:(wr.alloc (J s.cells 224 (0,0))).grownBy n (O g)) (hb:(Value.slice (O ⟨m,0,I⟩) (k+1) f).ownBlock=(Value.slice (O ⟨g,0,I⟩) k cp).ownBlock\/(Value.slice (O ⟨m,0,I⟩) (k+1) f).ownBlock=O (wr.alloc (J s.cells 224 (0,0))).heap.size) :
  j4 w r m f (k+1) (z++[s]) q n:=by
 have ac:m=g\/m=wr.heap.size+1:=by
  rcases hb with e|e
  .left;simpa[Value.ownBlock]using e
  .right;simpa[Value.ownBlock]using e
 have v:∀c,c<wr.heap.size->c≠g->n.heap[c]?=wr.heap[c]?:=λc hl t=>(hg.block c (by simp;omega) (λe=>t (by cases e;rfl))).trans (Gd wr _ c hl);have ad:wr.heap.size+1<=n.heap.size:=by have:=hg.size;simpa using this
 have l:∀x:Ax,x.ok wr->(∀b d,x.go=O ⟨b,d,I⟩->w.heap.size<=b/\b<wr.heap.size/\¬Bc q b/\b≠g)->Ax.ok n x/\∀b d,x.go=O ⟨b,d,I⟩->w.heap.size<=b/\b<n.heap.size/\¬Bc q b/\b≠m:=λx j p=>by
  refine⟨⟨⟨j.aj.len,j.aj.max,λi hi=>?_⟩,j.ou⟩,λb d e=>?_⟩
  .obtain ⟨b,d,e,u,t⟩:=j.aj.cell i hi;have h1:=p b d e;exact⟨b,d,e,ao9,(Bl (a:=⟨b,d+i,I⟩) (w:=wr) (v b u h1.2.2.2)).trans t⟩
  .have h1:=p b d e;exact⟨h1.1,ao9,h1.2.2.1,ao9⟩
 refine⟨by rw[O2,R1];exact o,by simp[h.len],λx j=>?_,λh0=>?_⟩
 .rcases C7.1 j with j|j
  .exact l x (h.ok x j).1 (h.ok x j).2
  .have:x=s:=by simpa using j
   subst this;exact l x hs y
 .have:=h.gs h0;have:=hp.rm h0;omega
def Ain  {xs:List α} {k:Nat} (h:xs.length=k) (x:α):(xs++[x]).length=k+1:=by simp[h]
def Aio  {o m n cap g p e l k:Nat} {po i:Option Addr} {j:List Bool} {a:Int} {q:List Nd} {st:List (Ask×Bool)} {x:Ask} {b:Bool}
  (h:mo w o m n cap po i g p j a q e ((st.map λx=>Value.bool x.2)++List.replicate (l-k) (Y false)) wr) (r:k<l) (c:st.length=k) (d:0<g->∀b f,i=O ⟨b,f,I⟩->b<w.heap.size) :
  mo w o m n cap po i g p j a q e (((st++[(x,b)]).map λx=>Value.bool x.2)++List.replicate (l-(k+1)) (Y false)) (wr.setCell ⟨e,k,I⟩ (Y b)):=by
 refine⟨h.la.setOther h.kept ad9 ad9 ad9 ad9 h.kw d (Auf _ _),?_,h.kw⟩;rw[<-Aue st x b l k r c];exact Am h.kept k _
def Aip  {g e f cap j i c l k:Nat} {po m:Option Addr} {d:List Bool} {b:Int} {q:List Nd} {st:List (Ask×Bool)}
  (h:mo w g e f cap po m j i d b q c ((st.map λx=>Value.bool x.2)++List.replicate (l-k) (Y false)) wr) (n:k<l) (a:st.length=k):wr.cell? ⟨c,k,I⟩=O (Y false):=by
 rw[Aa h.kept k,Lp,Gb (by simp;omega)];simp only[As,a,Nat.sub_self,List.getElem?_replicate];rw[Ad ao9]
def Ask.ok.uu {w wr d:WD} {j g i cap l k:Nat} {po m:Option Addr} {f:List Bool} {a:Int} {x:Ask} {q:List Nd} {e:WD} (h:x.ok wr) (c:Mod (Bc q) wr d) (h0:x.ok w) (b:lh w j g i cap po m l k f a q e):x.ok d:=
 ⟨h.places.mod c (Ur h0.places Ln b.fk),h.nu,h.aj.mod c (Ur h0.aj Ln b.fk),h.ou⟩
def Auh (vo uo ho ao:Option Addr) (n c un uc m mc l lc:Nat) (vs:List V4) (bs:List Bool) (t:Int) (hs:List Au) (aP:List Ask) (w:WD) (hv:Oh w vo n vs) (hu:Mj w uo un bs) (hh:Yf w ho m hs) (ha:Yi w ao l aP) (hl:l<=1000000) :
  Calls prog 136 #[V vo n c,V uo un uc,Z G t,V ho m mc,V ao l lc] w (Aih vs t bs hs aP w):=by
 have aS:=λh0=>hu.lt h0;have bl:=At7 vo uo ho n c un uc m mc vs bs t hs w hv hu hh;have bE:=hu.len;have a8:=ha.len;have cx:=Aik l hl;have cy:=Aud l hl;obtain⟨cd,bL,bM,bx,bA⟩:=B6 Aij;replace⟨hv,hu,hh,ha,aS,bl,bE,a8⟩:=H8 hv hu hh ha aS bl bE a8;go_enter func136,ntmps136;go_wp2_with fail;refine bl.mono ?_;rintro e w1 ⟨aU,⟨r,hr,rfl,hrel⟩|⟨tb,gb,gs,cap,po,q0,rfl,bZ,b3,bX,aN⟩⟩
 .have d:(r != 0)=true:=by simpa using hr
  replace⟨hrel,aU,hr⟩:=H3 hrel aU hr;go_wp2;go_ret2;exact⟨aU.out,.inl ⟨r,hr.out,rfl,by rw[bE.out];exact hrel.out⟩⟩
 have bo:Qz vs un t:=by
  rcases aN with⟨_,h⟩|⟨h,_⟩
  .cases h
  .exact h
 have aR:un<=1000000:=by have:=bo.up;have:=bo.gg;omega
 have bn:=bo.lo;obtain⟨WK,bR⟩:=Ex (w1.alloc (J (Array.replicate l (Y false)) 4 (0,0)));have bi:BW w1.heap.size w1 WK:=by rw[bR];exact Bn
 have bO:mo w tb gb gs cap po uo un uc bs t q0 w1.heap.size (List.replicate l (Y false)) WK:=
  ⟨(lh.mk aU bZ b3 bX).below bi,by rw[bR,Zi];exact Ah _ _,aU.size⟩
 replace⟨aN,aU,bZ,b3,bX,bo,aR,bO⟩:=H8 aN aU bZ b3 bX bo aR bO;replace⟨bi,bn⟩:=H2 bi bn;go_wp2;go_loopw [15,16,37] (λ_ _ i wr=>∃(k:Nat) (q:List Nd) (st:List (Ask×Bool)),i=Z G k/\k<=l/\Hid (mo w tb gb gs cap po uo un uc bs t q w1.heap.size ((st.map λx=>Value.bool x.2)++List.replicate (l-k) (Y false)) wr)/\Hid (st.length=k)/\Hid (st.map Prod.fst=aP.take k)/\Hid (C4 (Lh t bs) st q0 q)) (λ_ _ i _=>l-(intOf i).toNat)
 case atStart=>exact⟨0,q0,[],rfl,Ar _,bR▸bO.out,rfl,rfl,rfl⟩
 case round=>
  obtain⟨k,q,st,rfl,hk,hP,aO,cc,hC⟩:=hrel;by_cases hc:k<l
  .have ci:(k:Int)<l:=ao9;have cC:(0:Int)<=(k:Int):=ao9;obtain⟨x,hx⟩:=ha.get hc;obtain⟨b,aB,rfl,hb,a0,aA⟩:=ha.cell k x hx;have f:=hP.la.low;have c0:=(Af f hb).trans (a0 0 ao9);have c1:=(Af f hb).trans (a0 1 ao9);have c2:=(Af f hb).trans (a0 2 ao9);have c3:=(Af f hb).trans (a0 3 ao9);have c4:=(Af f hb).trans (a0 4 ao9);have c5:=(Af f hb).trans (a0 5 ao9);have c6:=(Af f hb).trans (a0 6 ao9);have c7:=(Af f hb).trans (a0 7 ao9);have c8:=(Af f hb).trans (a0 8 ao9);have c9:=(Af f hb).trans (a0 9 ao9);simp at c0 c1 c2 c3 c4 c5 c6 c7 c8 c9;clear a0;have p:mo w tb gb gs cap po uo un uc bs t q w1.heap.size ((st.map λx=>Value.bool x.2)++List.replicate (l-k) (Y false)) (wr.alloc x.obj):=hP.below Bn;have ad:(wr.alloc x.obj).heap[wr.heap.size]?=O x.obj:=Ah _ _
   have bb:∀b,(st++[(x,b)]).map Prod.fst=aP.take (k+1):=λb=>by rw[Qy hx,<-cc.out];simp
   by_cases qs:x.start<0
   .have d:decide (0<=x.start)=false:=(by simp;omega);have a1:=(Aio (x:=x) (b:=false) hP.out hc aO.out aS.out).below ((Below.refl _ _).alloc Ln x.obj);have aK:C4 (Lh t bs) (st++[(x,false)]) q0 q:=Yg hC.out (.inl ⟨qs,rfl,rfl⟩);have kf:=Ag hP.kept k;have kc:=Aip hP.out hc aO.out;have lk:=Ac hP.kept;replace⟨a1,aK,p,ad,bb,qs,aA,hx⟩:=H8 a1 aK p ad bb qs aA hx;replace f:=Hh f;go_wp2;go_roundw
    case rel=>exact⟨k+1,q,st++[(x,false)],by go_num,ao9,a1.out,Ain aO.out _,bb _,aK.out⟩
    case measure=>simp[intOf];omega
   .have d:decide (0<=x.start)=true:=(by simp;omega);obtain⟨F,hF⟩:=Ex (El t x);have ct:(if x.start<t then t else x.start)=F:=(by rw[hF];unfold El;omega);have b4:=At5 gb gs cap po q tb un uc uo bs t x F x.go x.gn x.gc x.eh (wr.alloc x.obj) p.la.dq p.la.tab ((aA.j5 p.la.low).places) aR.out ((aA.j5 p.la.low).aj) (Ur aA.aj Ln p.la.fk) aA.ou bn.out;have bI:0<=x.start:=ao9;replace⟨p,ad,bb,qs,bI,aA,hx,f⟩:=H8 p ad bb qs bI aA hx f;replace⟨b4,hF⟩:=H2 b4 hF;go_wp2_with fail;refine b4.mono ?_;rintro e w3 ⟨bk,q2,rfl,bG,bF,bY,aY⟩;have a6:=p.mod aS.out bG bF bY;have bW:=Us bF bG;have a1:=Aio (x:=x) (b:=bk) a6 hc aO.out aS.out
    have aK:C4 (Lh t bs) (st++[(x,bk)]) q0 q2:=Yg hC.out (by
     rw[hF.out]at aY;rcases aY with⟨h1,h2,h3⟩|⟨h1,r,h2,h3⟩
     .exact .inr (.inl ⟨bI.out,h1,h2,h3⟩)
     .exact .inr (.inr ⟨bI.out,h1,r,⟨h2,bW⟩,h3⟩))
    have kf:=Ag a6.kept k;have kc:=Aip a6 hc aO.out;have lk:=Ac a6.kept;clear c0 c1 c2 c3 c4 c5 c6 c7 c8 c9 aY;replace⟨a1,aK,a6,bW,bG,bF,bY⟩:=H7 a1 aK a6 bW bG bF bY;go_wp2;go_roundw
    case rel=>exact⟨k+1,q2,st++[(x,bk)],by go_num,ao9,a1.out,Ain aO.out _,bb _,aK.out⟩
    case measure=>simp[intOf];omega
  .have ci:¬(k:Int)<l:=ao9;have cm:k=l:=ao9;subst cm;have a5:st.map Prod.fst=aP:=(by rw[cc.out,Dd (by rw[a8.out];omega)]);obtain⟨WS,bD⟩:=Ex (wr.alloc (J (madeCells (Value.agg #[Z G 0,Z G 0,V I 0 0]).cells (k*3)) 224 (0,0)));have bP:mo w tb gb gs cap po uo un uc bs t q w1.heap.size ((st.map λx=>Value.bool x.2)++List.replicate (k-k) (Y false)) WS:=by rw[bD];exact hP.below Bn
   have bQ:j4 w gs wr.heap.size k 0 [] q WS:=by
    rw[bD];have cn:k<=maxLen:=(by have:=Gh (n:=k) ao9;omega);refine⟨World.ownsRow_made _ _ k hP.la.low.size cn (size_madeCells _ _),rfl,λs hs=>(by cases hs),λh0=>by have:=hP.la.dq.rm h0;omega⟩
   obtain⟨Q1,bC⟩:=Ex (q);rw[<-bC]at hC;replace⟨a5,bP,bQ,bC⟩:=H4 a5 bP bQ bC;go_wp2;go_loopw [17,18,19,20,65] (λsv _ _ _ i wr=>∃(j:Nat) (q:List Nd) (g cp:Nat) (sl:List Ax) (rd:List ((Ask×Bool)×Ax)),sv=V (O ⟨g,0,I⟩) j cp/\i=Z G j/\j<=k/\Hid (mo w tb gb gs cap po uo un uc bs t q w1.heap.size ((st.map λx=>Value.bool x.2)++List.replicate (k-k) (Y false)) wr)/\Hid (j4 w gs g cp j sl q wr)/\Hid (rd.map Prod.fst=st.take j)/\Hid (rd.map Prod.snd=sl)/\Hid (C4 (Nq t bs) rd Q1 q)) (λ_ _ _ _ i _=>k-(intOf i).toNat)
   case atStart=>exact⟨0,q,_,_,[],[],rfl,rfl,Ar _,bD▸bP.out,bD▸bQ.out,rfl,rfl,bC.symm⟩
   case round=>
    obtain⟨j,q2,g,cp,sl,rd,rfl,rfl,hj,be,b8,ca,cb,aK⟩:=hrel;by_cases bT:j<k
    .have cj:(j:Int)<k:=ao9;have cB:(0:Int)<=(j:Int):=ao9;obtain⟨x,hx⟩:=ha.get bT;obtain⟨b,aB,rfl,hb,a0,aA⟩:=ha.cell j x hx;have f:=be.la.low;have c0:=(Af f hb).trans (a0 0 ao9);have c1:=(Af f hb).trans (a0 1 ao9);have c2:=(Af f hb).trans (a0 2 ao9);have c3:=(Af f hb).trans (a0 3 ao9);have c4:=(Af f hb).trans (a0 4 ao9);have c5:=(Af f hb).trans (a0 5 ao9);have c6:=(Af f hb).trans (a0 6 ao9);have c7:=(Af f hb).trans (a0 7 ao9);have c8:=(Af f hb).trans (a0 8 ao9);have c9:=(Af f hb).trans (a0 9 ao9);simp at c0 c1 c2 c3 c4 c5 c6 c7 c8 c9;clear a0
     obtain⟨bk,bS⟩:∃bk,st[j]?=O (x,bk):=by
      have h1:j<st.length:=(by rw[aO.out];exact bT);refine⟨st[j].2,?_⟩;have h2:(st.map Prod.fst)[j]?=O x:=(by rw[a5.out];exact hx);rw[Bm,Az h1]at h2;rw[Az h1];simp at h2;rw[<-h2]
     have p:=be.below ((Below.refl _ _).alloc Ln x.obj);have aW:=b8.below ((Below.refl _ _).alloc Ln x.obj);have ad:(wr.alloc x.obj).heap[wr.heap.size]?=O x.obj:=Ah _ _;have bc:=aA.j5 p.la.low
     have b2:∀s,(rd++[((x,bk),s)]).map Prod.fst=st.take (j+1):=λs=>by rw[Qy bS,<-ca.out];simp
     have b1:∀s,(rd++[((x,bk),s)]).map Prod.snd=sl++[s]:=λs=>by rw[<-cb.out];simp
     have kc:wr.cell? ⟨w1.heap.size,j,I⟩=O (Y bk):=(by rw[Aa be.kept j,Lp,Es (by simp[aO.out];exact bT),Bm,bS];rfl);have lk:=Ac be.kept;obtain⟨F,hF⟩:=Ex (El t x);have ct:(if x.start<t then t else x.start)=F:=by rw[hF];unfold El;omega
     have a9:∀(wq:WD) (q:List Nd),By wq gb gs po cap q->j4 w gs g cp j sl q wq->¬Bc q g:=λwq q h1 h2=>by
      obtain⟨b6,h3⟩:=h2.ar;exact Jv h1 h3 ad9 ad9
     replace⟨p,aW,ad,bc,b2,b1,hF,a9⟩:=H8 p aW ad bc b2 b1 hF a9;replace⟨hx,aA,f⟩:=H3 hx aA f
     have bK:Hid (∀(wm w8 w9:WD) (qm q8:List Nd) (ac:Int) (u:Option Addr) (y z g9 al:Nat),
      mo w tb gb gs cap po uo un uc bs t qm w1.heap.size ((st.map λx=>Value.bool x.2)++List.replicate (k-k) (Y false)) wm->j4 w gs g cp j sl qm wm->((bk=false/\qm=q2)\/(bk=true/\∃r,Yh q2 x.eh F (F+x.aa) x.v r qm)) ->
      By w8 gb gs po cap q8->ia wm qm q8->Mod (Bc qm) wm w8->y<=z->(∀b aB,u=O ⟨b,aB,I⟩->wm.heap.size<=b/\¬Bc q8 b)->Qx qm bs t x ac u y q8 w8 ->
      w9.ownsRow w.heap.size 224 3 (V (O ⟨g9,0,I⟩) (j+1) al) (j+1) (Aq Ax.cells sl++[Z G x.id,Z G ac,V u y z])->(w8.alloc (J #[Z G x.id,Z G ac,V u y z] 224 (0,0))).grownBy w9 (O g) ->
      ((Value.slice (O ⟨g9,0,I⟩) (j+1) al).ownBlock=(Value.slice (O ⟨g,0,I⟩) j cp).ownBlock\/(Value.slice (O ⟨g9,0,I⟩) (j+1) al).ownBlock=O (w8.alloc (J #[Z G x.id,Z G ac,V u y z] 224 (0,0))).heap.size) ->
      ∃(bd:List Ax) (a3:List ((Ask×Bool)×Ax)),mo w tb gb gs cap po uo un uc bs t q8 w1.heap.size ((st.map λx=>Value.bool x.2)++List.replicate (k-k) (Y false)) w9/\j4 w gs g9 al (j+1) bd q8 w9/\a3.map Prod.fst=st.take (j+1)/\a3.map Prod.snd=bd/\C4 (Nq t bs) a3 Q1 q8):=by
      intro wm w8 w9 qm q8 ac u y z g9 al h1 h2 h3 h4 h5 h6 h7 h8 h9 ce bN cf;have co:=Us h5 h4;obtain⟨zs,f1,f2,f3⟩:=h9.found co;have cg:=h1.mod aS.out h4 h5 h6;have aC:=h2.mod (a9 _ _ h1.la.dq h2) h5 h6;obtain⟨s,hs⟩:∃s:Ax,s=⟨x.id,ac,u,y,z,zs⟩:=⟨_,rfl⟩
      have cv:∀b aB,s.go=O ⟨b,aB,I⟩->w.heap.size<=b/\b<w8.heap.size/\¬Bc q8 b/\b≠g:=λb aB e=>by
       rw[hs]at e;obtain⟨p1,p2⟩:=h8 b aB e;obtain⟨b',cA,e',cr,_⟩:=f2.cell 0 (f3 b aB e);rw[show u=O ⟨b,aB,I⟩from e]at e';cases e';have:=h1.la.low.size;have:=(h2.own.lt g rfl).2;exact⟨ao9,cr,p2,ao9⟩
      obtain⟨b6,bJ⟩:=(aC.below ((Below.refl _ _).alloc Ln (J #[Z G x.id,Z G ac,V u y z] 224 (0,0)))).ar;have a4:=cg.below ((Below.refl _ _).alloc Ln (J #[Z G x.id,Z G ac,V u y z] 224 (0,0)))
      have cl:w1.heap.size≠g:=λe=>by have:=a4.kept;rw[e,bJ]at this;simp at this
      refine⟨sl++[s],rd++[((x,bk),s)],⟨a4.la.other bJ ad9 ad9 ad9 ad9 (h2.own.lt g rfl).1 aS.out aC.gs bN,(bN.block _ (Ac a4.kept) (λe=>cl (by cases e;rfl))).trans a4.kept,h1.kw⟩,?_,b2 s,b1 s,Yg aK.out ⟨qm,?_,?_,?_⟩⟩
      .exact j4.snoc (s:=s) aC h4 (by rw[hs];exact⟨f2,h7⟩) cv (by rw[hs];exact ce) (by rw[hs];exact bN) (by rw[hs];exact cf)
      .rcases h3 with h|⟨h,r,h'⟩
       .exact .inl h
       .exact .inr ⟨h,r,by show Yh q2 x.eh (El t x) (El t x+x.aa) x.v r qm;rw[<-hF.out];exact h'⟩
      .rw [hs]
      .rw [hs];exact f1
     cases bk with
     | false=>
      have aZ:=Aie gb gs cap po q2 tb un uc uo bs t x (wr.alloc x.obj) p.la.dq p.la.tab bc.places aR.out;obtain⟨y0,y1,y2,y3,y4,y5,y6,y7,y8,y9⟩:=Oi ad.out;have lx:=Ac ad.out;replace aZ:=Hh aZ;go_wp2_with fail;refine aZ.mono ?_;rintro e w8 ⟨ac,u,y,z,q8,rfl,a2,aM,am,aJ,aG,aF⟩;have aC:=j4.mod aW.out (a9 _ _ p.la.dq aW.out) aM am;have av:=aC.own.alloc (J #[Z G x.id,Z G ac,V u y z] 224 (0,0));have ap:=Ab4 w8 #[Z G x.id,Z G ac,V u y z] 224;have aI:=Ail ⟨x.id,ac,u,y,z,[]⟩;have aT:=Gh (n:=j) ao9;have aX:(j+1)*40<=140737488355328:=ao9;have aD:w.heap.size<=(w8.alloc (J #[Z G x.id,Z G ac,V u y z] 224 (0,0))).heap.size:=size_alloc (Aw p.la.low.size am.size) _;clear y0 y1 y2 y3 y4 y5 y6 y7 y8 y9 lx c0 c1 c2 c3 c4 c5 c6 c7 c8 c9 kc lk;replace⟨aC,av,ap,aI,aT,aX,aD,a2⟩:=H8 aC av ap aI aT aX aD a2;replace⟨aM,am,aJ,aG,aF⟩:=H5 aM am aJ aG aF;go_wp2_with (at_builtin;refine Ri _ rfl _ _ 217 rfl w.heap.size 224 cd _ 3 40 Zs bL bM bx bA rfl Aim (V (O ⟨g,0,I⟩) j cp) j _ rfl av.out ⟨w8.heap.size,0,I⟩ 1 1 [Z G x.id,Z G ac,V u y z] rfl rfl ap.out aI.out aT.out aX.out aD.out ?_;intro v1 w9 af an _ aE;obtain⟨g9,al,rfl⟩:=Joins.ownsRow_form af (Iw _);replace⟨af,an,aE⟩:=H3 af an aE);obtain⟨bd,a3,e1,e2,e3,e4,e5⟩:=bK (wr.alloc x.obj) w8 w9 q2 q8 ac u y z g9 al p.out aW.out (by first|exact .inl ⟨rfl,rfl⟩|exact .inl ⟨trivial,rfl⟩|simp) a2.out aM.out am.out aJ.out aG.out aF.out af.out an.out aE.out;replace⟨e1,e2,e3,e4,e5⟩:=H5 e1 e2 e3 e4 e5;go_roundw
      case rel=>exact⟨j+1,q8,g9,al,bd,a3,rfl,by go_num,ao9,e1.out,e2.out,e3.out,e4.out,e5.out⟩
      case measure=>simp[intOf];omega
     | true=>
      have bV:=Aii (a:=x) (h:=(At8 hC.out (Ai bS)).choose_spec.choose_spec);obtain⟨z1,z2,z3,z4⟩:=Mf bV.2.2.1;rw[<-hF.out]at z1 z2 z3;have ew:IntKind.i64.wrap (F+x.aa)=F+x.aa:=E0 _ ao9;obtain⟨WA,a7⟩:=Ex (wr.alloc x.obj);rw[<-a7]at p aW ad bc
      have bU:=
       λW' h=>Atk gb gs cap po q2 x.go x.gn x.gc x.eh F (F+x.aa) x.v W' (p.la.dq.below h) ((bc.j5 h).aj) (Ur aA.aj Ln p.la.fk) aA.ou
      have t0:=Aa p.la.tab.head 0;simp at t0;have lt:=Ac p.la.tab.head;obtain⟨y0,y1,y2,y3,y4,y5,y6,y7,y8,y9⟩:=Oi ad.out;have lx:=Ac ad.out;have b5:=Jv p.la.dq p.la.tab.head ad9 ad9;have aL:=Jv p.la.dq ad.out ad9 ad9;have aQ:BW WA.heap.size WA WA.drew:=(Below.refl _ _).drew;replace⟨bV,z1,z2,z3,z4,bU,b5,aL⟩:=H8 bV z1 z2 z3 z4 bU b5 aL;replace aQ:=Hh aQ
      have ch:Hid (∀w':WD,(∀b,b<WA.heap.size->¬Bc q2 b->∀o,w'.cell? ⟨b,o,I⟩=WA.cell? ⟨b,o,I⟩)->w'.cell? ⟨tb,0,I⟩=O (K (O ⟨gb,0,I⟩))/\w'.cell? ⟨wr.heap.size,3,I⟩=O (Z G x.v.a)/\w'.cell? ⟨wr.heap.size,4,I⟩=O (Z G x.v.b)/\w'.cell? ⟨wr.heap.size,5,I⟩=O (Z G x.v.c)/\w'.cell? ⟨wr.heap.size,6,I⟩=O (Z G x.v.d)/\w'.cell? ⟨wr.heap.size,7,I⟩=O (Z G x.aa)/\w'.cell? ⟨wr.heap.size,8,I⟩=O (Z G x.start)/\w'.cell? ⟨wr.heap.size,9,I⟩=O (V x.go x.gn x.gc)):=
       λw' h=>⟨(h _ lt b5.out _).trans t0,(h _ lx aL.out _).trans y3,(h _ lx aL.out _).trans y4,(h _ lx aL.out _).trans y5,(h _ lx aL.out _).trans y6,(h _ lx aL.out _).trans y7,(h _ lx aL.out _).trans y8,(h _ lx aL.out _).trans y9⟩
      clear y0 y1 y2;go_wp2_with fail;have bg:wr.alloc (J x.cells 266 (0,0))=WA:=a7.symm
      try rw[bg]
      clear c0 c1 c2 c3 c4 c5 c6 c7 c8 c9 kc lk;replace⟨a7,bg⟩:=H2 a7 bg;go_region_held3 (λw'=>w'.cell? ⟨tb,0,I⟩=O (K (O ⟨gb,0,I⟩))/\w'.cell? ⟨wr.heap.size,3,I⟩=O (Z G x.v.a)/\w'.cell? ⟨wr.heap.size,4,I⟩=O (Z G x.v.b)/\w'.cell? ⟨wr.heap.size,5,I⟩=O (Z G x.v.c)/\w'.cell? ⟨wr.heap.size,6,I⟩=O (Z G x.v.d)/\w'.cell? ⟨wr.heap.size,7,I⟩=O (Z G x.aa)/\w'.cell? ⟨wr.heap.size,8,I⟩=O (Z G x.start)/\w'.cell? ⟨wr.heap.size,9,I⟩=O (V x.go x.gn x.gc))
       (first
         | (go_keep;done)
         | with_reducible exact ch.out _ cs.out)
       (first
         | (go_at_call 187;refine(bU _ aQ.out).mono ?_;rintro e w5 ⟨r5,q5,rfl,bB,bv,ba,aH⟩;have cs:Hid (∀b,b<WA.heap.size->¬Bc q2 b->∀o,w5.cell? ⟨b,o,I⟩=WA.cell? ⟨b,o,I⟩):=λb hb hn o=>Bl (a:=⟨b,o,I⟩) (w:=WA) (aH.block b hb hn)
            replace⟨bB,bv,ba,aH⟩:=H4 bB bv ba aH))
      have b7:=p.below aQ.out;have b9:=aW.below aQ.out;have aV:=b7.mod aS.out bv.out ba.out aH.out;have bf:=b9.mod (a9 _ _ b7.la.dq b9) ba.out aH.out;have bH:=(aH.block _ (by have:=aQ.size;omega) aL.out).trans (Ae aQ.out ad.out lx);have bw:x.ok w5:=(by have h1:=a7.out▸bc.out;exact h1.uu (by rw[<-a7.out];exact(Mod.cz aQ.out).iu aH.out) aA.out p.la);replace⟨aV,bf,bH,bw⟩:=H4 aV bf bH bw;clear t0 lt y3 y4 y5 y6 y7 y8 y9 lx;have aZ:=Aie gb gs cap po q5 tb un uc uo bs t x w5 aV.la.dq aV.la.tab bw.places aR.out;obtain⟨y0,y1,y2,y3,y4,y5,y6,y7,y8,y9⟩:=Oi bH.out;have lx:=Ac bH.out;replace aZ:=Hh aZ;go_wp2_with fail;refine aZ.mono ?_;rintro e w8 ⟨ac,u,y,z,q8,rfl,a2,aM,am,aJ,aG,aF⟩;have aC:=j4.mod bf.out (a9 _ _ aV.la.dq bf.out) aM am;have av:=aC.own.alloc (J #[Z G x.id,Z G ac,V u y z] 224 (0,0));have ap:=Ab4 w8 #[Z G x.id,Z G ac,V u y z] 224;have aI:=Ail ⟨x.id,ac,u,y,z,[]⟩;have aT:=Gh (n:=j) ao9;have aX:(j+1)*40<=140737488355328:=ao9;have aD:w.heap.size<=(w8.alloc (J #[Z G x.id,Z G ac,V u y z] 224 (0,0))).heap.size:=size_alloc (Aw aV.la.low.size am.size) _;clear y0 y1 y2 y3 y4 y5 y6 y7 y8 y9 lx;replace⟨aC,av,ap,aI,aT,aX,aD,a2⟩:=H8 aC av ap aI aT aX aD a2;replace⟨aM,am,aJ,aG,aF⟩:=H5 aM am aJ aG aF;go_wp2_with (at_builtin;refine Ri _ rfl _ _ 217 rfl w.heap.size 224 cd _ 3 40 Zs bL bM bx bA rfl Aim (V (O ⟨g,0,I⟩) j cp) j _ rfl av.out ⟨w8.heap.size,0,I⟩ 1 1 [Z G x.id,Z G ac,V u y z] rfl rfl ap.out aI.out aT.out aX.out aD.out ?_;intro v1 w9 af an _ aE;obtain⟨g9,al,rfl⟩:=Joins.ownsRow_form af (Iw _);replace⟨af,an,aE⟩:=H3 af an aE);obtain⟨bd,a3,e1,e2,e3,e4,e5⟩:=bK w5 w8 w9 q5 q8 ac u y z g9 al aV.out bf.out (by first|exact .inr ⟨rfl,r5,bB.out,Us ba.out bv.out⟩|exact .inr ⟨trivial,r5,bB.out,Us ba.out bv.out⟩) a2.out aM.out am.out aJ.out aG.out aF.out af.out an.out aE.out;replace⟨e1,e2,e3,e4,e5⟩:=H5 e1 e2 e3 e4 e5;go_roundw
      case rel=>exact⟨j+1,q8,g9,al,bd,a3,rfl,by go_num,ao9,e1.out,e2.out,e3.out,e4.out,e5.out⟩
      case measure=>simp[intOf];omega
    .have cj:¬(j:Int)<k:=ao9;have ck:j=k:=ao9;subst ck;have b0:rd.map Prod.fst=st:=(by rw[ca.out,Dd (by rw[aO.out];omega)]);replace b0:=Hh b0;go_wp2;go_ret2;have hS:=b8.out;refine⟨be.la.low,.inr ⟨O ⟨g,0,I⟩,cp,sl,(by rw[a8.out];rfl),⟨q0,Q1,q2,st,rd,by rw[bE.out];exact aN.out,hC.out,a5.out,aK.out,b0.out,cb.out⟩,?_,?_,λb aB e=>by cases e;exact(hS.own.lt g rfl).1,λs hs b aB e=>((hS.ok s hs).2 b aB e).1⟩⟩
     .rw [a8.out];exact Aua Aug hS.own hS.len ao9 (λs hs=>(hS.ok s hs).1)
     .rw [a8.out];rcases hS.own.2 with⟨e,_⟩|⟨g',cw,b6,e,_,_,h3,_⟩
      .cases e
      .cases e;exact h3
abbrev Bv:=Nat->Int->V4
def j6 (zs:List Int) (fr tt:Int) (v:V4):Bv:=λi u=>if Bu zs zs.length i/\fr<=u/\u<tt then v else V4.zero
def nk:Bv:=λ_ _=>V4.zero
def At (U W:Bv):Bv:=λi u=>A3 (U i u) (W i u)
def E7:List Bv->Bv
 | []=>nk
 | x :: xs=>At x (E7 xs)
def nn (U:Bv):Prop:=∀i u,V4.zero.leq (U i u)
def Aui (a b c:V4):A3 (A3 a b) c=A3 a (A3 b c):=by simp[A3];omega
def Auj (a b:V4):A3 a b=A3 b a:=by simp[A3];omega
def Sw (a:V4):A3 a V4.zero=a:=by simp[A3,V4.zero]
def Auk (a:V4):A3 V4.zero a=a:=by simp[A3,V4.zero]
def Mn (a b c:Bv):At (At a b) c=At a (At b c):=by funext i u;exact Aui _ _ _
def Uu (a b:Bv):At a b=At b a:=by funext i u;exact Auj _ _
def Oj (a:Bv):At a nk=a:=by funext i u;exact Sw _
def Sx (a:Bv):At nk a=a:=by funext i u;exact Auk _
def Q2 {v:V4}:V4.zero.leq v↔0<=v.a/\0<=v.b/\0<=v.c/\0<=v.d:=by simp[V4.leq,V4.zero]
def Aul {v:V4} (h:v.right=true):V4.zero.leq v:=by rw[Q2];have:=E6.1 h;omega
def Uv:nn nk:=λ_ _=>Q2.2 (by simp[nk,V4.zero])
def Uw {a b:Bv} (h:nn a) (k:nn b):nn (At a b):=λi u=>by
 have h1:=Q2.1 (h i u);have c:=Q2.1 (k i u);rw[Q2];simp[At,A3];omega
def Ux  {fr a:Int} {v:V4} (h:v.right=true):nn (j6 zs fr a v):=λi u=>by
 unfold j6;split
 .exact Aul h
 .exact Q2.2 (by simp[V4.zero])
def Ab5 {xs:List Bv} (h:∀x,x∈xs->nn x):nn (E7 xs):=by
 induction xs with
 | nil=>exact Uv
 | cons x xs ih=>exact Uw (h x (Ef ..)) (ih λy a=>h y (Dj _ a))
structure Bb (vs:List V4) (U:Bv) (q:List Nd):Prop where
 len:q.length=vs.length
 whole:∀i,i<q.length->(nd q i).whole=vv vs i
 inv:∀i,i<q.length->Inv (nd q i).whole (nd q i).l
 val:∀i,i<q.length->∀u,0<=u->u<1099511627776->A3 (val (nd q i).l u) (U i u)=vv vs i
def Bb.loose  {U:Bv} {q:List Nd} (h:Bb vs U q):∀i,i<q.length->B9 (nd q i).l:=λi a=>(h.inv i a).loose
def Ab6  {b:List Nd} (h:Ab3 vs b):Bb vs nk b:=
 ⟨h.len,λi a=>(h.node i (by rw[<-h.len];exact a)).1,h.inv,λi a u h0 _=>by
  rw[(h.node i (by rw[<-h.len];exact a)).2]
  simp[val,Ey,h0,nk,Sw]⟩
def Bb.gq  {U W:Bv} {q:List Nd} (h:Bb vs U q) (e:U=W):Bb vs W q:=e▸h
def Bb.ue  {U:Bv} {p q:List Nd} (h:Bb vs U p) (b:Sv p q) (c:Og p q):Bb vs U q:=
 ⟨b.len.trans h.len,λi a=>by rw[b.len]at a;exact(b.whole i a).trans (h.whole i a),b.inv,λi a u h0 h1=>by
  rw[b.len]at a
  rw[c i a];exact h.val i a u h0 h1⟩
def Bb.le  {U:Bv} {q:List Nd} (h:Bb vs U q) {i:Nat} (a:i<q.length)  (h0:0<=u) (h1:u<1099511627776):(U i u).leq (vv vs i):=by
 have:=h.val i a u h0 h1;have b:=E6.1 ((h.inv i a).free u h0 h1).1;rw[<-this];simp[V4.leq,A3];omega
def Ph {fr a:Int} {v:V4} (h:Bf fr a v=true):0<=fr/\fr<a/\a<=1099511627776/\v.right=true:=Mf h
def Yj  {U:Bv} {p q:List Nd}  {fr f:Int} {v:V4} (h:Bb vs U p) (n:Pf p zs fr f v 0 q) :
  Bb vs (At U (j6 zs fr f v)) q/\D5 vs.length zs/\Bf fr f v=true:=by
 obtain⟨m,d⟩:=n;rcases m with⟨_,c,_⟩|⟨_,_,_,c,_⟩|⟨h1,l,o,_,j⟩
 .cases c
 .cases c
 .refine ⟨⟨d.len.trans h.len,λi b=>?_,d.inv,λi b u h0 k=>?_⟩,h.len▸h1,l⟩
  .rw [d.len]at b;exact(d.whole i b).trans (h.whole i b)
  .rw [d.len]at b;have g:=h.val i b u h0 k;by_cases e:Bu zs zs.length i
   .rw [(j i b).1 e u h0 k];by_cases a:fr<=u/\u<f
    .rw [Ad a,<-g];simp[At,j6,e,a,A3,Nm];omega
    .rw [Ab a,<-g];simp[At,j6,a,Sw]
   .rw [(j i b).2 e,<-g];simp[At,j6,e,Sw]
def A3x  {U:Bv} {p q:List Nd}  {fr a:Int} {v:V4} {r:Int} (h:Bb vs U p) (g:D5 vs.length zs) (d:Bf fr a v=true)
  (f:∀i,i<vs.length->∀u,0<=u->u<1099511627776->(At U (j6 zs fr a v) i u).leq (vv vs i)) (j:Lg p zs fr a v r q):r=0:=by
 rcases j with⟨c,_⟩|⟨_,_,c,_⟩|⟨_,_,_,c,_⟩
 .exact absurd ⟨h.len▸g,d⟩ c
 .obtain ⟨k,l,m,_⟩:=Ph d;refine absurd (λi b e u h0 h1=>?_) c;have:=f i (h.len▸b) u ao9 ao9;rw[<-h.val i b u ao9 ao9]at this;simp[At,j6,e,h0,h1,A3,V4.leq]at this ⊢;omega
 .exact c
def Aiq  {U:Bv} {p q:List Nd}  {fr f:Int} {v:V4} {r:Int} (h:Bb vs (At U (j6 zs fr f v)) p) (n:nn U) (m:D5 vs.length zs) (k:Bf fr f v=true)
  (e:Sv p q) (o:Yd p zs fr f v r q):r=0/\Bb vs U q:=by
 obtain⟨t,x,y,_⟩:=Ph k;rcases o with⟨c,_⟩|⟨_,_,c,_⟩|⟨_,_,_,c,j⟩
 .exact absurd ⟨h.len▸m,k⟩ c
 .refine absurd (λi a d u h0 h1=>?_) c;have:=h.val i a u ao9 ao9;have s:=Q2.1 (n i u);rw[h.whole i a,<-this];simp[At,j6,d,h0,h1,A3,V4.leq];omega
 .refine ⟨c,e.len.trans h.len,λi a=>?_,e.inv,λi a u h0 l=>?_⟩
  .rw [e.len]at a;exact(e.whole i a).trans (h.whole i a)
  .rw [e.len]at a;have g:=h.val i a u h0 l;by_cases d:Bu zs zs.length i
   .rw [(j i a).1 d u h0 l];by_cases b:fr<=u/\u<f
    .rw [Ad b,<-g];simp[At,j6,d,b,A3];omega
    .rw [Ab b,<-g];simp[At,j6,b,Sw]
   .rw [(j i a).2 d,<-g];simp[At,j6,d,Sw]
def Air  {U W:Bv} {p q:List Nd} (h:Bb vs U p) (k:Bb vs W q) (e:U=W):Og p q:=λi d=>by
 subst e;have c:i<q.length:=by rw[k.len,<-h.len];exact d
 refine Abq (k.inv i c).loose (h.inv i d).loose (k.inv i c).gy (h.inv i d).gy λu h0 h1=>?_;have a:=h.val i d u h0 h1;have b:=k.val i c u h0 h1;rw[<-a]at b;simp[A3]at b;obtain⟨f,g,j,m⟩:=b;cases hx:val (nd q i).l u;cases hy:val (nd p i).l u;simp[hx,hy]at *;omega
def Aum  {U:Bv} {q:List Nd} (h:Bb vs U q) {i:Nat} (e:i<q.length) {c u:Int} {v:V4} (h0:0<=u) (h1:1<=c) :
  lj (nd q i).l c v u↔u+c<=1099511627776/\∀x,u<=x->x<u+c->(A3 (U i x) v).leq (vv vs i):=by
 unfold lj;rw[Ah6 (h.loose i e) h0 h1,And.comm];refine and_congr_right λf=>⟨λd x a b=>?_,λd x a b=>?_⟩
 .have:=d x a b;rw[<-h.val i e x ao9 ao9];simp[V4.leq,A3]at *;omega
 .have:=d x a b;rw[<-h.val i e x ao9 ao9]at this;simp[V4.leq,A3]at *;omega
def Ais (now:Int) (h:Au):Bv:=j6 h.eh now (Mm now h) h.v
def Cx (now:Int) (x:Ask×Bool):Bv:=if x.2=true then j6 x.1.eh (El now x.1) (El now x.1+x.1.aa) x.1.v else nk
def Lj (x:Ask×Ax):Bv:=if 0<=x.2.start then j6 x.2.eh x.2.start (x.2.start+x.1.aa) x.1.v else nk
def Sy {a:Int}  {c:List Au}:∀ {U:Bv} {p q:List Nd},C4 (Pg a) c p q->Bb vs U p ->
  Bb vs (At U (E7 (c.map (Ais a)))) q/\∀h,h∈c->D5 vs.length h.eh/\Bf a (Mm a h) h.v=true:=by
 induction c with
 | nil=>intro U p q h k;cases h;exact⟨k.gq (Oj _).symm,λh b=>by cases b⟩
 | cons x xs ih=>
  intro U p q h k;obtain⟨m,h1,d⟩:=h;obtain⟨e,f,g⟩:=Yj k h1;obtain⟨i,j⟩:=ih d e;refine⟨i.gq (by rw[Mn];rfl),λh b=>?_⟩;rcases Eh.1 b with rfl|b
  .exact ⟨f,g⟩
  .exact j h b
def Yk (now:Int) (hs:List Au):Bv:=E7 (hs.map (Ais now))
def Yl  {f:Nat} {a:Int} {d:List Au} {e:List Nd} (h:Je vs f a d 0 e) :
  Qz vs f a/\Bb vs (Yk a d) e/\∀h,h∈d->D5 vs.length h.eh/\Bf a (Mm a h) h.v=true:=by
 rcases h with⟨_,c⟩|⟨b,k,j,⟨_,i⟩|⟨c,_⟩⟩
 .cases c
 .obtain ⟨h1,g⟩:=Sy i (Ab6 j);exact⟨b,h1.gq (Sx _),g⟩
 .exact absurd rfl c
def Ait  {a:Int} {b:List Au} (h:∀h,h∈b->D5 vs.length h.eh/\Bf a (Mm a h) h.v=true):nn (Yk a b):=
 Ab5 λx c=>by
  obtain⟨y,d,rfl⟩:=A7.1 c;exact Ux (Ph (h y d).2).2.2.2
structure Sz (vs:List V4) (now:Int) (bs:List Bool) (a:Ask):Prop where
 pre:Mk bs now a (El now a) a.eh
 start:0<=a.start
 aj:D5 vs.length a.eh
 span:Bf (El now a) (El now a+a.aa) a.v=true
def Ym {d:Int} {f:List Bool}  {st:List (Ask×Bool)}:∀ {U:Bv} {p q:List Nd},C4 (Lh d f) st p q->Bb vs U p ->
  Bb vs (At U (E7 (st.map (Cx d)))) q/\∀x,x∈st->x.2=true->Sz vs d f x.1:=by
 induction st with
 | nil=>intro U p q h k;cases h;exact⟨k.gq (Oj _).symm,λh hh=>by cases hh⟩
 | cons x xs ih=>
  intro U p q h k;obtain⟨m,h1,u⟩:=h;obtain⟨a,b⟩:=x
  have n:Bb vs (At U (Cx d (a,b))) m/\(b=true->Sz vs d f a):=by
   cases b with
   | false=>
    have e:At U (Cx d (a,false))=U:=(by simp[Cx,Oj]);rw[e];refine⟨?_,λc=>by cases c⟩;rcases h1 with⟨_,_,rfl⟩|⟨_,_,_,rfl⟩|⟨_,_,r,⟨v,l⟩,z⟩
    .exact k
    .exact k
    .have hr:r≠0:=λc=>by have:=z.2 c;cases this
     rcases v with⟨_,_,g⟩|⟨_,_,_,_,g⟩|⟨_,_,_,c,_⟩
     .exact k.ue l g
     .exact k.ue l g
     .exact absurd c hr
   | true=>
    obtain⟨o,c2,s,t⟩:=Aii h1;obtain⟨k1,k2,_⟩:=Yj k t
    have i:0<=a.start:=by
     rcases h1 with⟨_,c,_⟩|⟨_,_,c,_⟩|⟨c,_⟩
     .cases c
     .cases c
     .exact c
    exact⟨by simpa[Cx]using k1,λ_=>⟨o,i,k2,s⟩⟩
  obtain⟨k4,k5⟩:=ih u n.1;refine⟨k4.gq (by rw[Mn];rfl),λy j=>?_⟩;rcases Eh.1 j with rfl|j
  .exact n.2
  .exact k5 y j
def S1 (vs:List V4) (now:Int) (bs:List Bool) (a:Ask) (s:Ax):Prop:=
 s.id=a.id/\((s.start=-1/\s.eh=[])\/(a.can=true/\now<=s.start/\s.start<1099511627776/\Np bs a s.eh/\D5 vs.length s.eh/\Bf s.start (s.start+a.aa) a.v=true))
def Aun {xs ys:List Nat} (h:xs.Pairwise (·<·)) (a:∀x,x∈xs->x∈ys):xs.length<=ys.length:=by
 induction xs generalizing ys with
 | nil=>exact Ar _
 | cons x xs ih=>
  have h1:=Ox.1 h;have b:=a x (Ef ..);have:=ih (ys:=ys.erase x) h1.2 (λy c=>(List.mem_erase_of_ne (by have:=h1.1 y c;omega)).2 (a y (Dj _ c)));rw[List.length_erase_of_mem b]at this;have:=List.length_pos_of_mem b;simp;omega
def Auo {j:List Nd} {d:List Bool} {a:Ask} {t:Int}  {xs:List Nat} (h:Mi j (Bg (np d a.gl)) a.nodes a.v a.aa after t xs):Np d a (Bg xs):=by
 obtain⟨h1,e,k⟩:=h.aj;have f:=h.len;have b:(Bg xs).length=xs.length:=by simp[Bg]
 refine⟨λi c=>?_,h1.bj,by rw[b];exact f⟩;have g:zi (Bg xs) i=((xs[i]'(by rw[<-b];exact c):Nat):Int):=by rw[b]at c;simp[zi,Bg,List.getD,c]
 rw[g];have:=Ye.1 (e _ (Kv (by rw[<-b];exact c))).2.1;exact A7.2 ⟨_,this,rfl⟩
def Aup  {c:Int} {l:List Bool} {a:Ask} {s:Ax} {U:Bv} {p q:List Nd} (n:0<=c) (b:s.id=a.id) (h:Q0 c l a s.start s.eh p q) (k:Bb vs U p):Bb vs (At U (Lj (a,s))) q/\S1 vs c l a s:=by
 have g:s.start=-1->At U (Lj (a,s))=U:=λe=>by
  have:¬(0<=(a,s).2.start):=by show ¬0<=s.start;omega
  simp only[Lj,Ab this,Oj]
 rcases h with⟨_,h1,j,rfl⟩|⟨u,t,xs,is,o,h1,j⟩
 .exact ⟨k.gq (g h1).symm,b,.inl ⟨h1,j⟩⟩
 .cases is with
  | false=>
   obtain⟨d,f,rfl⟩:=h1 rfl;exact⟨k.gq (g d).symm,b,.inl ⟨d,f⟩⟩
  | true=>
   obtain⟨d,f,r,m⟩:=j rfl;have i:=o.found;have v:=i.ge;have x:=(i.take (k.loose) m.1).1;subst x;obtain⟨z,k2,k3⟩:=Yj k m;have y:0<=(a,s).2.start:=(by show 0<=s.start;omega);refine⟨z.gq ?_,b,.inr ⟨u,ao9,by rw[d];exact i.lt,by rw[f];exact Auo i,by rw[f];exact k2,by rw[d];exact k3⟩⟩;simp only[Lj,Ad y];rw[d,f]
def Nr (x:(Ask×Bool)×Ax):Bv:=Lj (x.1.1,x.2)
def Aiu {d:Int} {j:List Bool}  {rd:List ((Ask×Bool)×Ax)} (i:0<=d):∀ {U:Bv} {p q:List Nd},C4 (Nq d j) rd p q->Bb vs (At U (E7 (rd.map λx=>Cx d x.1))) p->nn U ->
  (∀x,x∈rd->x.1.2=true->Sz vs d j x.1.1)->Bb vs (At U (E7 (rd.map Nr))) q/\∀x,x∈rd->S1 vs d j x.1.1 x.2:=by
 induction rd with
 | nil=>intro U p q h k _ _;cases h;exact⟨k,λh hh=>by cases hh⟩
 | cons x xs ih=>
  intro U p q h k v o;obtain⟨m,⟨m',h1,l,u⟩,h3⟩:=h;obtain⟨⟨a,b⟩,s⟩:=x
  have t:nn (E7 (xs.map λx=>Cx d x.1)):=Ab5 λy f=>by
   obtain⟨z,hz,rfl⟩:=A7.1 f;unfold Cx;split
   .next g=>exact Ux (Ph (o z (Dj _ hz) g).span).2.2.2
   .exact Uv
  have k':Bb vs (At (At U (E7 (xs.map λx=>Cx d x.1))) (Cx d (a,b))) p:=k.gq (by
   show At U (At (Cx d (a,b)) (E7 (xs.map λx=>Cx d x.1)))=_
   rw[Mn,Uu (Cx d (a,b))])
  have km:Bb vs (At U (E7 (xs.map λx=>Cx d x.1))) m':=by
   rcases h1 with⟨g,rfl⟩|⟨g,r,hg,hl⟩
   .have e:b=false:=g;subst e;exact k'.gq (by simp[Cx,Oj])
   .have e:b=true:=g;subst e;have ho:=o _ (Ef ..) rfl;exact(Aiq (k'.gq (by simp[Cx])) (Uw v t) ho.aj ho.span hl hg).2
  obtain⟨k2,s2⟩:=Aup i l u km
  have n:nn (Lj (a,s)):=by
   unfold Lj;split
   .next hge=>
    rcases s2.2 with⟨c,_⟩|⟨_,_,_,_,_,c⟩
    .have h1:0<=s.start:=hge;have u:s.start=-1:=c;omega
    .exact Ux (Ph c).2.2.2
   .exact Uv
  obtain⟨k3,s3⟩:=ih h3 (k2.gq (by rw[Mn,Uu _ (Lj (a,s)),<-Mn])) (Uw v n) (λy f=>o y (Dj _ f));refine⟨k3.gq (by rw[Mn];rfl),λy f=>?_⟩;rcases Eh.1 f with rfl|f
  .exact s2
  .exact s3 y f
def Ab7 (l:List (Ask×Ax)):Bv:=E7 (l.map Lj)
def Auq  {b:Int} {d:List Bool} {a:Ask} {s:Ax} (h:S1 vs b d a s):nn (Lj (a,s)):=by
 unfold Lj;split
 .next hge=>
  rcases h.2 with⟨c,_⟩|⟨_,_,_,_,_,c⟩
  .have:(a,s).2.start=s.start:=rfl;omega
  .exact Ux (Ph c).2.2.2
 .exact Uv
def Aur  {R:α->β->β->Prop} {l r:List α} {x:α} {p q:β} (h:C4 R (l++x :: r) p q):∃m a,C4 R l p m/\R x m a/\C4 R r a q:=by
 obtain⟨m,h1,a,b,c⟩:=Aif.1 h;exact⟨m,a,h1,b,c⟩
structure Aus (vs:List V4) (now:Int) (bs:List Bool) (hs:List Au) (asks:List Ask) (slots:List Ax):Prop where
 lay:Qz vs bs.length now
 holds:∀h,h∈hs->D5 vs.length h.eh/\Bf now (Mm now h) h.v=true
 len:slots.length=asks.length
 slot:∀x,x∈asks.zip slots->S1 vs now bs x.1 x.2
 le:∀i,i<vs.length->∀u,0<=u->u<1099511627776->(At (Yk now hs) (Ab7 (asks.zip slots)) i u).leq (vv vs i)
def Aut {b:List Ask} {a:List Ax} {st:List (Ask×Bool)} {rd:List ((Ask×Bool)×Ax)} (h1:st.map Prod.fst=b) (c:rd.map Prod.fst=st) (d:rd.map Prod.snd=a):b.zip a=rd.map λx=>(x.1.1,x.2):=by
 subst d c h1
 induction rd with
 | nil=>rfl
 | cons x xs ih=>simp at ih;simp[ih]
def Aiv  {g:Int} {o:List Bool} {r:List Au} {d:List Ask} {c:List Ax} (hp:Li vs g o r d c):Aus vs g o r d c:=by
 obtain⟨ps,q1,q2,st,rd,hl,hk,j,hr,f,k⟩:=hp.go;obtain⟨h,k0,q⟩:=Yl hl;obtain⟨s,m⟩:=Ym hk k0
 have e:st.map (Cx g)=rd.map λx=>Cx g x.1:=by rw[<-f];simp[De,Ia]
 rw[e]at s;obtain⟨n,s2⟩:=Aiu h.lo hr s (Ait q) (λx l v=>m x.1 (by rw[<-f];exact A7.2 ⟨x,l,rfl⟩) v);have p:=Aut j f k;have t:E7 (rd.map Nr)=Ab7 (d.zip c):=by rw[p];simp[Ab7,De,Ia];rfl
 rw[t]at n;refine⟨h,q,by rw[<-k,<-j,<-f];simp,λx l=>?_,λi z u a b=>n.le (by rw[n.len];exact z) a b⟩;rw[p]at l;obtain⟨y,hy,rfl⟩:=A7.1 l;exact s2 y hy
def Auu {e:List Nd}  {a:Int} {v:V4} {b after t T:Int} {xs:List Nat} {is:Bool} (h:Fq e zs a v b after t xs is) (h1:1<=a) (l:1<=b) (m:v.right=true)
  (j:max after 0<=T) (f:T<1099511627776) (x:a<=(fy e zs b v T).length) (g:∀u,max after 0<=u->u<T->((fy e zs b v u).length:Int)<a) :
  is=true/\t=T/\(xs.length:Int)=a/\∃r,fy e zs b v T=xs++r:=by
 unfold Fq at h;rw[Ad ⟨h1,l,m⟩]at h;rcases h with⟨n,i,p,q,⟨r,k⟩,d⟩|⟨_,_,_,o⟩
 .have s:a<=(fy e zs b v t).length:=by rw[k,Av];omega
  have:t=T:=by
   rcases Int.lt_trichotomy t T with c|c|c
   .have:=g t i c;omega
   .exact c
   .have:=d T j c;omega
  subst this;exact⟨n,rfl,q,r,k⟩
 .have:=o T j f;omega
def S2  {U:Bv} {p n q q':List Nd}  {fr o:Int} {v:V4} {r r':Int} (h:Bb vs U p) (y:Bb vs U n) (ht:Lg p zs fr o v r q) (m:Lg n zs fr o v r' q'):r=r':=by
 have x:n.length=p.length:=by rw[h.len,y.len]
 have z:=Air h y rfl;have e:(∀i,i<p.length->Bu zs zs.length i->∀u,fr<=u->u<o->v.leq (val (nd p i).l u))↔(∀i,i<n.length->Bu zs zs.length i->∀u,fr<=u->u<o->v.leq (val (nd n i).l u)):=by rw[x];exact⟨λk i j=>by rw[z i j];exact k i j,λk i j=>by rw[<-z i j];exact k i j⟩
 rw[Lg,x]at m;rw[Lg]at ht;rw[x]at e
 rcases ht with⟨a,b,_⟩|⟨a,b,c,d,_⟩|⟨a,b,c,d,_⟩<;>rcases m with⟨f,g,_⟩|⟨f,g,s,t,_⟩|⟨f,g,s,t,_⟩
 .rw [b,g]
 .exact absurd ⟨f,g⟩ a
 .exact absurd ⟨f,g⟩ a
 .exact absurd ⟨a,b⟩ f
 .rw [d,t]
 .exact absurd (e.2 s) c
 .exact absurd ⟨a,b⟩ f
 .exact absurd (e.1 c) s
 .rw [d,t]
def Yn {a:Int}  {b:List Au} {p q:List Nd} {k:Nat} {h:Au} (i:b[k]?=O h) (d:C4 (Pg a) b p q) (g:Bb vs nk p):∃m c,Bb vs (Yk a (b.take k)) m/\Pf m h.eh a (Mm a h) h.v 0 c:=by
 have e:b=b.take k++h :: b.drop (k+1):=by have:=Ti (k+1) b;rw[Qy i,Fd]at this;exact this.symm
 rw[e]at d;obtain⟨m,c,h1,f,_⟩:=Aur d;exact⟨m,c,(Sy h1 g).1.gq (Sx _),f⟩
def Aiw  {l:List α} {i k:Nat} {x:α} (h:l[i]?=O x) (a:i<k):(l.take k)[i]?=O x:=by rw[Lr,Ad a];exact h
def Aix  (l:List α) {i k:Nat} (a:i<=k):(l.take k).take i=l.take i:=by rw[Wj,Mw a]
def Auv   {s:Int} {hs:List Au} {r r':Int} {q q':List Nd} (h:Je vs un s hs r q) (v:Je vs un s hs r' q'):r=r':=by
 rcases h with⟨a,b⟩|⟨a,ps,hf,h⟩<;>rcases v with⟨u,b'⟩|⟨u,ad,z,v⟩
 .rw [b,b']
 .exact absurd u a
 .exact absurd a u
 .have k:=Ab6 hf;have t:=Ab6 z
  rcases h with⟨e,p⟩|⟨e,i,x,m,m2,hx,p,y⟩<;>rcases v with⟨e',d⟩|⟨e',i',x',m',ac,f,d,j⟩
  .rw [e,e']
  .obtain ⟨n,n',h1,g⟩:=Yn f p k;have l:=(Sy d t).1.gq (Sx _);rw[e];exact S2 h1 l g.1 j.1
  .obtain ⟨n,n',h1,g⟩:=Yn hx d t;have l:=(Sy p k).1.gq (Sx _);rw[e'];exact S2 l h1 y.1 g.1
  .have l:=(Sy p k).1.gq (Sx _);have o:=(Sy d t).1.gq (Sx _);rcases Nat.lt_trichotomy i i' with c|c|c
   .obtain ⟨n,n',h1,g⟩:=Yn (Aiw hx c) d t;rw[Aix _ (Rs c)]at h1;have:=S2 l h1 y.1 g.1;exact absurd this e
   .subst c;rw[hx]at f;cases f;exact S2 l o y.1 j.1
   .obtain ⟨n,n',h1,g⟩:=Yn (Aiw f c) p k;rw[Aix _ (Rs c)]at h1;have:=S2 h1 o g.1 j.1;exact absurd this.symm e'
def Auw {a:Ask} (h:a.can=true):0<a.nodes/\0<a.aa/\a.v.right=true:=by
 simp[Ask.can]at h;exact⟨h.1.1,h.1.2,h.2⟩
def Aux {p q:List Nd} (c:q.length=p.length) (e:Og p q) (zs:List Int) (b:Int) (v:V4) (u:Int):fy q zs b v u=fy p zs b v u:=by
 unfold fy Il;apply List.filter_congr;intro j _;unfold Ik;by_cases a:j<p.length
 .rw [e j a,c]
 .have h1:=Bz a;have d:decide (j<q.length)=false:=Bz (by rw[c];exact a);rw[h1,d];simp
def Aiy  {R:α->β->β->Prop} {x:α} {p m:β} (h:R x p m):C4 R [x] p m:=⟨m,h,rfl⟩
def Aiz {a:Int} {b:List Bool}  {x:Ask×Bool} {U:Bv} {p m:List Nd} (h:Lh a b x p m) (k:Bb vs U p):Bb vs (At U (Cx a x)) m:=by
 have:=(Ym (Aiy h) k).1;exact this.gq (by simp[E7,Oj])
def Auy {i:Int}  :∀ {st c:List (Ask×Bool)} {U:Bv} {p s q v:List Nd},C4 (Lh i bs) st p q->C4 (Lh i bs) c s v->Bb vs U p->Bb vs U s->st.map Prod.fst=c.map Prod.fst->st=c:=by
 intro st
 induction st with
 | nil=>
  intro c U p s q v _ _ _ _ e
  cases c with
  | nil=>rfl
  | cons y ys=>simp at e
 | cons x xs ih=>
  intro c U p s q v h h' k k' e
  cases c with
  | nil=>simp at e
  | cons y ys=>
   obtain⟨m,h1,h2⟩:=h;obtain⟨m',g,u⟩:=h';obtain⟨a,b⟩:=x;obtain⟨a',z⟩:=y;simp only[Ic,List.cons.injEq]at e;obtain⟨e1,e2⟩:=e;have t:=e1;subst t
   have hb:b=z:=by
    rcases h1 with⟨j,d,_⟩|⟨j,d,l,_⟩|⟨j,d,r,l,c4⟩<;>rcases g with⟨n,f,_⟩|⟨n,f,o,_⟩|⟨n,f,r',o,d4⟩
    .exact Eq.trans d (Eq.symm f)
    .exact Eq.trans d (Eq.symm o)
    .exact absurd n (by have:a.start<0:=j;show ¬0<=a.start;omega)
    .exact Eq.trans l (Eq.symm f)
    .exact Eq.trans l (Eq.symm o)
    .exact absurd f d
    .exact absurd j (by have:a.start<0:=n;show ¬0<=a.start;omega)
    .exact absurd d f
    .have hr:=S2 k k' l.1 o.1;subst hr;have c5:b=true↔r=0:=c4;have d5:z=true↔r=0:=d4;rw[P4,c5,d5]
   subst hb;rw[ih h2 u (Aiz h1 k) (Aiz g k') e2]
def Ax.key (s:Ax):Int×Int×List Int:=(s.id,s.start,s.eh)
def Ai0 {a:Int} {c:List Bool}  {x:(Ask×Bool)×Ax} {U:Bv} {p q:List Nd} (b:0<=a) (h:Nq a c x p q) (k:Bb vs (At U (Cx a x.1)) p) (e:nn U) (f:x.1.2=true->Sz vs a c x.1.1) :
  Bb vs (At U (Nr x)) q/\S1 vs a c x.1.1 x.2:=by
 obtain⟨h1,d⟩:=Aiu (rd:=[x]) b (Aiy h) (k.gq (by simp[E7,Oj])) e (λy g=>by
  rcases Gc.1 g with rfl
  exact f)
 exact⟨h1.gq (by simp[E7,Oj]),d x (List.mem_singleton_self x)⟩
def Ai1 {a:Int} {d:List Bool}  {x:Ask×Bool} {U:Bv} {p m:List Nd} (h:(x.2=false/\m=p)\/(x.2=true/\∃r,Yh p x.1.eh (El a x.1) (El a x.1+x.1.aa) x.1.v r m)) (k:Bb vs (At U (Cx a x)) p) (g:nn U) (c:x.2=true->Sz vs a d x.1):Bb vs U m:=by
 rcases h with⟨b,rfl⟩|⟨b,r,e,f⟩
 .exact k.gq (by simp[Cx,b,Oj])
 .have c:=c b;exact(Aiq (k.gq (by simp[Cx,b])) g c.aj c.span f e).2
def Auz {c st d:Int} {s:List Bool}  {a:Ask} {zs e:List Int} {U:Bv} {p r q q':List Nd} (h:Q0 c s a st zs p q) (h':Q0 c s a d e r q') (k:Bb vs U p) (v:Bb vs U r):st=d/\zs=e:=by
 have hl:r.length=p.length:=by rw[k.len,v.len]
 rcases h with⟨i,j,l,_⟩|⟨i,t,xs,is,j,l,x⟩<;>rcases h' with⟨b,m,n,_⟩|⟨b,t',ac,o,m,n,y⟩
 .exact ⟨j.trans m.symm,l.trans n.symm⟩
 .rw [i]at b;cases b
 .rw [i]at b;cases b
 .obtain ⟨z,e2,e3⟩:=j.same m (λu=>Aux hl (Air k v rfl) _ _ _ u);subst z e2 e3
  cases o with
  | false=>obtain⟨a1,a2,_⟩:=l rfl;obtain⟨f,g,_⟩:=n rfl;exact⟨a1.trans f.symm,a2.trans g.symm⟩
  | true=>obtain⟨a1,a2,_⟩:=x rfl;obtain⟨f,g,_⟩:=y rfl;exact⟨a1.trans f.symm,a2.trans g.symm⟩
def Au0 {x y:(Ask×Bool)×Ax} (h:x.1=y.1) (k:x.2.key=y.2.key):Nr x=Nr y:=by
 obtain⟨a,s⟩:=x;obtain⟨b,t⟩:=y;have c:a=b:=h;subst c;simp only[Ax.key,Rq]at k;simp[Nr,Lj,k.2.1,k.2.2]
def Au1 {a:Int} {t:List Bool}  (f:0<=a):∀ {rd b:List ((Ask×Bool)×Ax)} {U:Bv} {p s q q':List Nd},C4 (Nq a t) rd p q->C4 (Nq a t) b s q' ->
  Bb vs (At U (E7 (rd.map λx=>Cx a x.1))) p->Bb vs (At U (E7 (rd.map λx=>Cx a x.1))) s->nn U->(∀x,x∈rd->x.1.2=true->Sz vs a t x.1.1)->rd.map Prod.fst=b.map Prod.fst->rd.map (λx=>x.2.key)=b.map (λx=>x.2.key):=by
 intro rd
 induction rd with
 | nil=>
  intro b U p s q q' _ _ _ _ _ _ e
  cases b with
  | nil=>rfl
  | cons y ys=>simp at e
 | cons x xs ih=>
  intro b U p s q q' h h' k k' hn ho e
  cases b with
  | nil=>simp at e
  | cons y ys=>
   simp only[Ic,List.cons.injEq]at e;obtain⟨g,e2⟩:=e;obtain⟨m,h1,h2⟩:=h;obtain⟨m',l,ac⟩:=h'
   have hV:nn (E7 (xs.map λx=>Cx a x.1)):=Ab5 λz hz=>by
    obtain⟨u,hu,rfl⟩:=A7.1 hz;unfold Cx;split
    .next hb=>exact Ux (Ph (ho u (Dj _ hu) hb).span).2.2.2
    .exact Uv
   have o:∀(A B C:Bv),At A (At B C)=At (At A C) B:=λA B C=>by rw[Uu B C,Mn]
   have kp:Bb vs (At (At U (E7 (xs.map λx=>Cx a x.1))) (Cx a x.1)) p:=k.gq (o _ _ _);have r:Bb vs (At (At U (E7 (xs.map λx=>Cx a x.1))) (Cx a x.1)) s:=k'.gq (o _ _ _);have d:=ho x (Ef ..);have c:=Uw hn hV;obtain⟨a1,a2⟩:=Ai0 f h1 kp c d;obtain⟨b1,b2⟩:=Ai0 f l (by rw[<-g];exact r) c (by rw[<-g];exact d);have hk:x.2.key=y.2.key:=(by obtain⟨n,g1,g2,g3⟩:=h1;obtain⟨n',v,i,j⟩:=l;have kn:=Ai1 g1 kp c d;have af:=Ai1 v (by rw[<-g];exact r) c (by rw[<-g];exact d);rw[<-g]at j i;obtain⟨f1,f2⟩:=Auz g3 j kn af;simp only[Ax.key,Rq];exact⟨g2.trans i.symm,f1,f2⟩);have ad:nn (Nr x):=Auq a2;rw[Ic,Ic,hk];refine Ca _ (ih h2 ac (U:=At U (Nr x)) (a1.gq ?_) (b1.gq ?_) (Uw hn ad) (λz hz=>ho z (Dj _ hz)) e2)
   .rw [Mn,Uu _ (Nr x),<-Mn]
   .rw [<-Au0 g hk,Mn,Uu _ (Nr x),<-Mn]
def Au2  {a:Int} {m:List Bool} {p:List Au} {b:List Ask} {r s:List Ax} (h1:Li vs a m p b r) (v:Li vs a m p b s):r.map Ax.key=s.map Ax.key:=by
 obtain⟨ps,q1,q2,st,rd,l1,n,t,r1,g,u⟩:=h1.go;obtain⟨ac,ad,af,am,al,k,c,e,l,h,i⟩:=v.go;obtain⟨ok,q,y⟩:=Yl l1;obtain⟨_,d,_⟩:=Yl k;have f:=Auy n c q d (t.trans e.symm);subst f;obtain⟨k2,z⟩:=Ym n q;obtain⟨j,_⟩:=Ym c d;have o:(rd.map λx=>Cx a x.1)=st.map (Cx a):=by rw[<-g,De];rfl
 have:=Au1 ok.lo r1 l (by rw[o];exact k2) (by rw[o];exact j) (Ait y) (λx hx=>z x.1 (by rw[<-g];exact It hx)) (g.trans h.symm);rw[<-u,<-i,De,De];exact this
def Ask.er (a:Ask):Ask:={ a with po:=I,pn:=0,pc:=0,go:=I,gn:=0,gc:=0 }
def Au.er (h:Au):Au:={ h with go:=I,gn:=0,gc:=0 }
def Ax.er (s:Ax):Ax:={ s with go:=Option.none,gn:=0,gc:=0 }
def Yo {α γ β:Type} {R:α->β->β->Prop} {S:γ->β->β->Prop} {f:α->γ} (b:∀x p q,R x p q->S (f x) p q) {xs:List α}:∀ {p q:β},C4 R xs p q->C4 S (xs.map f) p q:=by
 induction xs with
 | nil=>intro p q h;exact h
 | cons x xs ih=>intro p q ⟨m,h1,a⟩;exact⟨m,b _ _ _ h1,ih a⟩
def Au3 {b:List Bool} {a:Ask} :Np b a zs↔Np b a.er zs:=⟨λh=>⟨h.vh,h.bj,h.len⟩,λh=>⟨h.vh,h.bj,h.len⟩⟩
def Ai2 {c:List Bool} {b start:Int} {a:Ask} :Mk c b a start zs↔Mk c b a.er start zs:=by
 unfold Mk;rw[Au3];exact Iff.rfl
def Au4 {a:Int} {e:List Bool} (x:Ask×Bool) (p q:List Nd) (h:Lh a e x p q):Lh a e (x.1.er,x.2) p q:=by
 rcases h with h|⟨h1,b,d⟩|⟨h1,b,d⟩
 .exact .inl h
 .exact .inr (.inl ⟨h1,λc=>b (Ai2.2 c),d⟩)
 .exact .inr (.inr ⟨h1,Ai2.1 b,d⟩)
def Au5 {a:Int} {b:List Bool} (x:(Ask×Bool)×Ax) (p q:List Nd) (h:Nq a b x p q):Nq a b ((x.1.1.er,x.1.2),x.2.er) p q:=h
def Ab8  {e:Nat} {a:Int} {d:List Au} {r:Int} {q:List Nd} (h:Je vs e a d r q):Je vs e a (d.map Au.er) r q:=by
 rcases h with h|⟨ok,b,c,h|⟨i,k,x,m,n,l,g,j⟩⟩
 .exact .inl h
 .exact .inr ⟨ok,b,c,.inl ⟨h.1,Yo (S:=Pg a) (f:=Au.er) (λ_ _ _ h=>h) h.2⟩⟩
 .exact .inr ⟨ok,b,c,.inr ⟨i,k,x.er,m,n,by simp[l],by rw[<-List.map_take];exact Yo (S:=Pg a) (f:=Au.er) (λ_ _ _ h=>h) g,j⟩⟩
def Ai3  {c:Int} {d:List Bool} {e:List Au} {b:List Ask} {a:List Ax} (h:Li vs c d e b a):Li vs c d (e.map Au.er) (b.map Ask.er) (a.map Ax.er):=by
 obtain⟨l,m,n,st,rd,k,f,g,o,i,j⟩:=h.go;refine⟨l,m,n,st.map λx=>(x.1.er,x.2),rd.map λx=>((x.1.1.er,x.1.2),x.2.er),Ab8 k,Yo Au4 f,?_,Yo Au5 o,?_,?_⟩
 .rw [<-g,De,De];rfl
 .rw [<-i,De,De];rfl
 .rw [<-j,De,De];rfl
