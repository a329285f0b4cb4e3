/- Parts PlPmb, PlPmc, PlPlq, PlPdt. Plain theorems: no condition. -/
import Derived.Test.YtimlcnhcjndijaaGreatDoorQ27
set_option linter.all false
set_option maxRecDepth 100000
set_option maxHeartbeats 12800000
namespace Go.Proofs.YtimlcnhcjndijaaGreatDoor.Pl
open Go.RowKit
structure Mh {α:Type} (cells:α->Array Value) (sz:Nat) (ok:World->α->Prop) (w:World) (ao:Option Addr) (n:Nat) (xs:List α):Prop where
 len:xs.length=n
 max:n<=9223372036854775807
 cell:∀ i x,xs[i]?=some x->∃ b off,ao=some ⟨b,off,none⟩/\b<w.heap.size/\(∀ j,j<sz->w.cell? ⟨b,off+i*sz+j,none⟩=(cells x)[j]?)/\ok w x
def Mh.below {α:Type} {cells:α->Array Value} {sz:Nat} {ok:World->α->Prop} {w w':World} {f:Option Addr} {n:Nat} {xs:List α} (h:Mh cells sz ok w f n xs)
  (g:Below w.heap.size w w') (c:∀ x,ok w x->ok w' x):Mh cells sz ok w' f n xs:=
 ⟨h.len,h.max,fun i x k=>by
  obtain ⟨b,d,e,a,l,m⟩:=h.cell i x k
  exact ⟨b,d,e,Br a g.size,fun j o=>(Ag g a).trans (l j o),c x m⟩⟩
def Mh.get {α:Type} {cells:α->Array Value} {sz:Nat} {ok:World->α->Prop} {w:World} {a:Option Addr} {n:Nat} {xs:List α} (h:Mh cells sz ok w a n xs) {k:Nat} (b:k<n):∃ x,xs[k]?=some x:=
 ⟨xs[k]'(by rw [h.len];exact b),Am _⟩
structure At where
 go:Option Addr
 gn:Nat
 gc:Nat
 dv:List Int
 v:V4
 mu:Int
abbrev At.cells (h:At):Array Value:=#[.slice h.go h.gn h.gc,.int .i64 h.v.a,.int .i64 h.v.b,.int .i64 h.v.c,.int .i64 h.v.d,.int .i64 h.mu]
def At.obj (h:At):Obj:=.cells h.cells 261 (0,0)
structure At.ok (w:World) (h:At):Prop where
 aj:Ap w h.go h.gn h.dv
 oi:h.gn<=h.gc
def At.ok.below {w w':World} {h:At} (a:h.ok w) (b:Below w.heap.size w w'):h.ok w':=⟨a.aj.below b Ln,a.oi⟩
def Aqu {w:World} {b:Nat} {h:At} (e:w.heap[b]?=some h.obj):w.cell? ⟨b,0,none⟩=some (.slice h.go h.gn h.gc)/\w.cell? ⟨b,1,none⟩=some (.int .i64 h.v.a)/\w.cell? ⟨b,2,none⟩=some (.int .i64 h.v.b) /\
  w.cell? ⟨b,3,none⟩=some (.int .i64 h.v.c)/\w.cell? ⟨b,4,none⟩=some (.int .i64 h.v.d)/\w.cell? ⟨b,5,none⟩=some (.int .i64 h.mu):=
 ⟨Aa e 0,Aa e 1,Aa e 2,Aa e 3,Aa e 4,Aa e 5⟩
abbrev V8:=Mh At.cells 6 At.ok
def Ts {w a:World} {c:Option Addr} {n:Nat} {zs:List Int} {d:List Nd} (h:Ap w c n zs) (l:w.heap.size<=a.heap.size) (g:∀ b,Bc d b->a.heap.size<=b):0<n->tw c (Bc d):=fun h0 b i e j=>by
 obtain ⟨m,f,e',k,_⟩:=h.cell 0 h0;rw [e] at e';cases e';have:=g b j;omega
def C2 {α β:Type} (R:α->β->β->Prop):List α->β->β->Prop
 | [],p,q=>q=p
 | x :: xs,p,q=>∃ m,R x p m/\C2 R xs m q
def Ae5 {α β:Type} {R:α->β->β->Prop} {xs ys:List α} {p q:β}:C2 R (xs++ys) p q↔∃ m,C2 R xs p m/\C2 R ys m q:=by
 induction xs generalizing p with
 | nil=>exact ⟨fun h=>⟨p,rfl,h⟩,fun ⟨m,e,h⟩=>by cases e;exact h⟩
 | cons x xs ih=>
  constructor
  .rintro ⟨m,h1,d⟩;obtain ⟨a,b,c⟩:=ih.1 d;exact ⟨a,⟨m,h1,b⟩,c⟩
  .rintro ⟨a,⟨m,h1,b⟩,c⟩;exact ⟨m,h1,ih.2 ⟨a,b,c⟩⟩
def V9 {α β:Type} {R:α->β->β->Prop} {xs:List α} {x:α} {p m q:β} (h:C2 R xs p m) (a:R x m q):C2 R (xs++[x]) p q:=Ae5.2 ⟨m,h,q,a,rfl⟩
def Ql {α:Type} {xs:List α} {k:Nat} {x:α} (h:xs[k]?=some x):xs.take (k+1)=xs.take k++[x]:=by
 rw [Ra,h];rfl
structure R9 (ps q:List Nd):Prop where
 len:q.length=ps.length
 whole:∀ i,i<ps.length->(nd q i).whole=(nd ps i).whole
 inv:∀ i,i<q.length->Inv (nd q i).whole (nd q i).l
def Tt {w w':World} {b c cap:Nat} {po:Option Addr} {a q:List Nd} (h:gi w a q) (d:B4 w' b c po cap q):R9 a q:=⟨h.len,h.whole,d.inv⟩
def O2 (ps:List Nd) (zs:List Int) (fr tt:Int) (v:V4) (r:Int) (q:List Nd):Prop:=Le ps zs fr tt v r q/\R9 ps q
def Wd (ps:List Nd) (zs:List Int) (fr tt:Int) (v:V4) (r:Int) (q:List Nd):Prop:=V6 ps zs fr tt v r q/\R9 ps q
def Mi (now:Int) (h:At):Int:=max h.mu (now+1)
def O3 (now:Int) (h:At) (ps q:List Nd):Prop:=O2 ps h.dv now (Mi now h) h.v 0 q
structure Qm (vs:List V4) (un:Nat) (now:Int):Prop where
 l6:vs.length<=16
 right:∀ i,i<vs.length->(vv vs i).right=true
 up:un=vs.length
 lo:0<=now
 hi:now<1099511627776
structure Zr (vs:List V4) (ps:List Nd):Prop where
 len:ps.length=vs.length
 node:∀ i,i<vs.length->(nd ps i).whole=vv vs i/\(nd ps i).l=[⟨0,vv vs i⟩]
 inv:∀ i,i<ps.length->Inv (nd ps i).whole (nd ps i).l
def Iz (vs:List V4) (un:Nat) (now:Int) (hs:List At) (r:Int) (q:List Nd):Prop:=
 (¬ Qm vs un now/\r=1)\/(Qm vs un now/\∃ ps0,Zr vs ps0/\((r=0/\C2 (O3 now) hs ps0 q) \/
  (r≠0/\∃ k h m q',hs[k]?=some h/\C2 (O3 now) (hs.take k) ps0 m/\O2 m h.dv now (Mi now h) h.v r q')))
def Ae6 (vs:List V4) (uo:Option Addr) (un uc:Nat) (bs:List Bool) (now:Int) (hs:List At) (w:World) (e:Ending) (w':World):Prop:=
 Below w.heap.size w w'/\((∃ r,r≠0/\e=.returned (.tuple #[.pointer none,.int .i64 r])/\Iz vs un now hs r []) \/
  (∃ tb gb gs cap po q,e=.returned (.tuple #[.pointer (some ⟨tb,0,none⟩),.int .i64 0])/\B4 w' gb gs po cap q/\qg w' tb gb uo un uc bs now/\(∀ b,Bc q b->w.heap.size<=b)/\Iz vs un now hs 0 q))
structure j7 (w:World) (tb gb gs cap:Nat) (po uo:Option Addr) (un uc:Nat) (bs:List Bool) (now:Int) (q:List Nd) (wr:World):Prop where
 low:Below w.heap.size w wr
 dm:B4 wr gb gs po cap q
 tab:qg wr tb gb uo un uc bs now
 ek:∀ b,Bc q b->w.heap.size<=b
def j7.below {w:World} {c d e cap:Nat} {po f:Option Addr} {g i:Nat} {j:List Bool} {a:Int} {q:List Nd} {wr w':World} (h:j7 w c d e cap po f g i j a q wr) (b:Below wr.heap.size wr w'):j7 w c d e cap po f g i j a q w':=
 ⟨h.low.trans (b.mono h.low.size),h.dm.below b,h.tab.below b,h.ek⟩
def j7.mod {w:World} {r k l cap:Nat} {po m:Option Addr} {n s:Nat} {t:List Bool} {f:Int} {q o:List Nd} {wr w':World} (h:j7 w r k l cap po m n s t f q wr) (p:0<n->∀ b d,m=some ⟨b,d,none⟩->b<w.heap.size) (u:B4 w' k l po cap o) (v:gi wr q o) (j:Mod (Bc q) wr w'):j7 w r k l cap po m n s t f o w':=
 ⟨Aqf h.low j h.ek h.low.size,u,⟨(j.block _ (Ab h.tab.head) (Jp h.dm h.tab.head (by decide) (by decide))).trans h.tab.head,h.tab.up.len,h.tab.up.max,fun i x=>by
  obtain ⟨b,d,e,g,y⟩:=h.tab.up.cell i x;have hu:=p (by omega) b d e
  exact ⟨b,d,e,Br g j.size,(Bp (a:=⟨b,d+i,none⟩) (w:=wr) (j.block b g (fun c=>by have:=h.ek b c;omega))).trans y⟩⟩, fun b z=>by
  rcases v.ek z with c | c
  .exact h.ek b c
  .exact A6 h.low.size c⟩
def Mf.lt {w:World} {d:Option Addr} {n:Nat} {g:List Bool} (h:Mf w d n g) (h0:0<n):∀ b a,d=some ⟨b,a,none⟩->b<w.heap.size:=fun b a e=>by
 obtain ⟨i,f,e',c,_⟩:=h.cell 0 h0;rw [e] at e';cases e';exact c
def Aqv (vo uo ho:Option Addr) (n c z uc m mc:Nat) (vs:List V4) (bs:List Bool) (f:Int) (hs:List At) (w:World) (hv:N9 w vo n vs) (hu:Mf w uo z bs) (hh:V8 w ho m hs) :
  Calls Tryz.prog 185 #[.slice vo n c,.slice uo z uc,.int .i64 f,.slice ho m mc] w (Ae6 vs uo z uc bs f hs w):=by
 have u:=hv.len;have aW:=hh.max;have aJ:=fun h0=>hu.lt h0;replace ⟨hv,hu,hh,u,aJ⟩:=H5 hv hu hh u aJ;go_enter Tryz.func185,Tryz.ntmps185;go_wp2_with fail;refine (Aql vo n c vs w hv.out).mono ?_;rintro e w1 (⟨aK,rfl,p⟩ | ⟨aQ,ac,gb,gs,po,cap,ps,rfl,aR,y,j,s,g,p⟩)
 .have r:Below w.heap.size w (w1.alloc (.cells #[.pointer none,.slice uo z uc,.int .i64 f] 270 (0,0))):=p.alloc p.size _;have hrel:Iz vs z f hs 1 []:=.inl ⟨fun h=>aK ⟨by rw [<- u.out];exact h.l6,fun i hi=>h.right i (by rw [u.out];exact hi)⟩,rfl⟩;replace ⟨aK,p,r,hrel⟩:=H4 aK p r hrel;go_wp2;go_ret2;exact ⟨r.out,.inl ⟨1,by decide,rfl,hrel.out⟩⟩
 have r:Below w.heap.size w (w1.alloc (.cells #[.pointer (some ⟨gb,0,none⟩),.slice uo z uc,.int .i64 f] 270 (0,0))):=p.alloc p.size _
 have aC:Hid (¬ Qm vs z f->Ae6 vs uo z uc bs f hs w (.returned (.tuple #[.pointer none,.int .i64 1])) (w1.alloc (.cells #[.pointer (some ⟨gb,0,none⟩),.slice uo z uc,.int .i64 f] 270 (0,0)))):=
  fun h=>⟨r,.inl ⟨1,by decide,rfl,.inl ⟨h,rfl⟩⟩⟩
 by_cases q1:z=n;rotate_left
 .have d1:((z:Int) != (n:Int))=true:=by simp;omega
  have l:=aC.out (fun h=>q1 (h.up.trans u.out));replace ⟨q1,l,p,r,y,s,g,ac⟩:=H8 q1 l p r y s g ac;replace j:=Hh j;go_wp2;go_ret2;exact l.out
 have d1:((z:Int) != (n:Int))=false:=by simp;omega
 by_cases q2:f<0
 .have d2:decide (f<0)=true:=by simpa using q2
  have l:=aC.out (fun h=>by have:=h.lo;omega);replace ⟨q1,q2,l,p,r,y,s,g⟩:=H8 q1 q2 l p r y s g;replace ⟨ac,j⟩:=H2 ac j;go_wp2;go_ret2;exact l.out
 have d2:decide (f<0)=false:=by simpa using q2
 by_cases q3:1099511627776<=f
 .have d3:decide (1099511627776<=f)=true:=by simpa using q3
  have l:=aC.out (fun h=>by have:=h.hi;omega);replace ⟨q1,q2,q3,l,p,r,y,s⟩:=H8 q1 q2 q3 l p r y s;replace ⟨g,ac,j⟩:=H3 g ac j;go_wp2;go_ret2;exact l.out
 have d3:decide (1099511627776<=f)=false:=by simpa using q3
 have aD:Qm vs z f:=⟨by rw [u.out];exact aQ,fun i hi=>ac i (by rw [<- u.out];exact hi),q1.trans u.out.symm,by omega,by omega⟩;have aE:Zr vs ps:=⟨j.trans u.out.symm,fun i hi=>s i (by rw [<- u.out];exact hi),y.inv⟩
 have aL:j7 w w1.heap.size gb gs cap po uo z uc bs f ps (w1.alloc (.cells #[.pointer (some ⟨gb,0,none⟩),.slice uo z uc,.int .i64 f] 270 (0,0))):=
  ⟨r,y.below Bn,⟨Af _ _,hu.out.below r Ln⟩,g⟩
 have ew:IntKind.i64.wrap (f+1)=f+1:=Gt _ (by omega);clear aR aC;replace ⟨q1,q2,q3,p,r,y,s,g⟩:=H8 q1 q2 q3 p r y s g;replace ⟨ac,j,aD,aE,aL⟩:=H5 ac j aD aE aL;go_wp2;go_loopw [12,13,42] (fun _ _ i wr=>∃ (k:Nat) (q:List Nd),i=.int .i64 k/\k<=m/\Hid (j7 w w1.heap.size gb gs cap po uo z uc bs f q wr)/\Hid (C2 (O3 f) (hs.take k) ps q)) (fun _ _ i _=>m-(intOf i).toNat)
 case atStart=>exact ⟨0,ps,rfl,Av _,aL.out,rfl⟩
 case round=>
  obtain ⟨k,q,rfl,hk,hL,hC⟩:=hrel;by_cases hc:k<m
  .have aS:(k:Int)<m:=(by omega);have aX:(0:Int)<=(k:Int):=(by omega);obtain ⟨x,hx⟩:=hh.out.get hc;obtain ⟨b,aY,rfl,hb,a0,ap⟩:=hh.out.cell k x hx;have c0:=(Ag hL.out.low hb).trans (a0 0 (by omega));have c1:=(Ag hL.out.low hb).trans (a0 1 (by omega));have c2:=(Ag hL.out.low hb).trans (a0 2 (by omega));have c3:=(Ag hL.out.low hb).trans (a0 3 (by omega));have c4:=(Ag hL.out.low hb).trans (a0 4 (by omega));have c5:=(Ag hL.out.low hb).trans (a0 5 (by omega));simp at c0 c1 c2 c3 c4 c5;clear a0;obtain ⟨T,hT⟩:=Ex (Mi f x);have aZ:(if x.mu<f+1 then f+1 else x.mu)=T:=(by rw [hT];unfold Mi;omega);have t:j7 w w1.heap.size gb gs cap po uo z uc bs f q (wr.alloc x.obj):=hL.out.below Bn;obtain ⟨WA,av⟩:=Ex (wr.alloc x.obj);rw [<- av] at t;have ad:WA.heap[wr.heap.size]?=some x.obj:=by rw [av];exact Af _ _
   have aM:=
    fun W' h=>Zm gb gs cap po q x.go x.gn x.gc x.dv f T x.v W' (t.dm.below h) (ap.aj.below (t.low.trans (h.mono t.low.size)) Ln) (Ts ap.aj Ln t.ek) ap.oi
   have t0:=Aa t.tab.head 0;simp at t0;have lt:=Ab t.tab.head;obtain ⟨y0,y1,y2,y3,y4,y5⟩:=Aqu ad;have lx:=Ab ad;have aN:=Jp t.dm t.tab.head (by decide) (by decide);have al:=Jp t.dm ad (by decide) (by decide);have aF:Below WA.heap.size WA WA.drew:=(Below.refl _ _).drew;replace ⟨hx,ap,hT,t,ad,aM,aN,al⟩:=H8 hx ap hT t ad aM aN al;replace aF:=Hh aF
   have aT:Hid (∀ w':World,(∀ b,b<WA.heap.size->¬ Bc q b->∀ o,w'.cell? ⟨b,o,none⟩=WA.cell? ⟨b,o,none⟩)->w'.cell? ⟨w1.heap.size,0,none⟩=some (.pointer (some ⟨gb,0,none⟩))/\w'.cell? ⟨wr.heap.size,0,none⟩=some (.slice x.go x.gn x.gc)/\w'.cell? ⟨wr.heap.size,1,none⟩=some (.int .i64 x.v.a)/\w'.cell? ⟨wr.heap.size,2,none⟩=some (.int .i64 x.v.b)/\w'.cell? ⟨wr.heap.size,3,none⟩=some (.int .i64 x.v.c)/\w'.cell? ⟨wr.heap.size,4,none⟩=some (.int .i64 x.v.d)/\w'.cell? ⟨wr.heap.size,5,none⟩=some (.int .i64 x.mu)):=
    fun w' h=>⟨(h _ lt aN.out _).trans t0,(h _ lx al.out _).trans y0,(h _ lx al.out _).trans y1,(h _ lx al.out _).trans y2,(h _ lx al.out _).trans y3,(h _ lx al.out _).trans y4,(h _ lx al.out _).trans y5⟩
   go_wp2_with fail;have aA:wr.alloc (.cells x.cells 261 (0,0))=WA:=av.symm
   try rw [aA]
   replace ⟨av,aA⟩:=H2 av aA;clear c0 c1 c2 c3 c4 c5;go_region_held3 (fun w'=>w'.cell? ⟨w1.heap.size,0,none⟩=some (.pointer (some ⟨gb,0,none⟩))/\w'.cell? ⟨wr.heap.size,0,none⟩=some (.slice x.go x.gn x.gc)/\w'.cell? ⟨wr.heap.size,1,none⟩=some (.int .i64 x.v.a)/\w'.cell? ⟨wr.heap.size,2,none⟩=some (.int .i64 x.v.b)/\w'.cell? ⟨wr.heap.size,3,none⟩=some (.int .i64 x.v.c)/\w'.cell? ⟨wr.heap.size,4,none⟩=some (.int .i64 x.v.d)/\w'.cell? ⟨wr.heap.size,5,none⟩=some (.int .i64 x.mu))
    (first
      | (go_keep;done)
      | with_reducible exact aT.out _ aU.out)
    (first
      | (go_at_call 236;refine (aM.out _ aF.out).mono ?_;rintro e w8 ⟨r8,aG,rfl,aO,aH,aI,an⟩;have aU:Hid (∀ b,b<WA.heap.size->¬ Bc q b->∀ o,w8.cell? ⟨b,o,none⟩=WA.cell? ⟨b,o,none⟩):=fun b hb hn o=>Bp (a:=⟨b,o,none⟩) (w:=WA) (an.block b hb hn)
         replace ⟨aO,aH,aI,an⟩:=H4 aO aH aI an))
   have ao:=(t.out.below aF.out).mod aJ.out aH.out aI.out an.out;have am:O2 q x.dv f (Mi f x) x.v r8 aG:=⟨by rw [<- hT.out];exact aO.out,Tt aI.out aH.out⟩;by_cases q5:r8=0
   .have d5:(r8 != 0)=false:=(by simpa using q5);have aP:C2 (O3 f) (hs.take (k+1)) ps aG:=(by rw [Ql hx.out];exact V9 hC.out (by rw [q5] at am;exact am));replace ⟨q5,am,ao,aP⟩:=H4 q5 am ao aP;clear t0 lt y0 y1 y2 y3 y4 y5 lx;go_wp2;go_roundw
    case rel=>exact ⟨k+1,aG,by go_num,by omega,ao.out,aP.out⟩
    case measure=>simp [intOf];omega
   .have d5:(r8 != 0)=true:=(by simpa using q5);have hrel:Iz vs z f hs r8 []:=.inr ⟨aD.out,ps,aE.out,.inr ⟨q5,k,x,q,aG,hx.out,hC.out,am⟩⟩;have aB:=ao.low;have aV:=Hh q5;clear q5;replace ⟨am,ao,hrel,aB⟩:=H4 am ao hrel aB;clear t0 lt y0 y1 y2 y3 y4 y5 lx;go_wp2;go_ret2;exact ⟨aB.out,.inl ⟨r8,aV.out,rfl,hrel.out⟩⟩
  .have aS:¬ (k:Int)<m:=(by omega);have hrel:Iz vs z f hs 0 q:=.inr ⟨aD.out,ps,aE.out,.inl ⟨rfl,by have h:=hC.out;rwa [Dn (by rw [hh.out.len];omega)] at h⟩⟩;replace hrel:=Hh hrel;go_wp2;go_ret2;exact ⟨hL.out.low,.inr ⟨w1.heap.size,gb,gs,cap,po,q,rfl,hL.out.dm,hL.out.tab,hL.out.ek,hrel.out⟩⟩
end Go.Proofs.YtimlcnhcjndijaaGreatDoor.Pl
namespace Go.Proofs.YtimlcnhcjndijaaGreatDoor.Pl
open Go.RowKit
def Ask.ok.jr {w w':World} {a:Ask} (h:a.ok w) (b:Below w.heap.size w w'):a.ok w':=h.below b Ln
abbrev We:=Mh Ask.cells 10 (fun w a=>Ask.ok w a)
structure Au where
 id:Int
 start:Int
 go:Option Addr
 gn:Nat
 gc:Nat
 dv:List Int
abbrev Au.cells (s:Au):Array Value:=#[.int .i64 s.id,.int .i64 s.start,.slice s.go s.gn s.gc]
structure Au.ok (w:World) (s:Au):Prop where
 aj:Ap w s.go s.gn s.dv
 oi:s.gn<=s.gc
def Au.ok.below {w w':World} {s:Au} (h:s.ok w) (a:Below w.heap.size w w'):s.ok w':=⟨h.aj.below a Ln,h.oi⟩
abbrev Tu:=Mh Au.cells 3 (fun w s=>Au.ok w s)
def Ei (now:Int) (a:Ask):Int:=max a.start now
def Lg (now:Int) (bs:List Bool) (x:Ask×Bool) (ps q:List Nd):Prop:=
 (x.1.start<0/\x.2=false/\q=ps) \/
 (0<=x.1.start/\¬ Mg bs now x.1 (Ei now x.1) x.1.dv/\x.2=false/\q=ps) \/
 (0<=x.1.start/\Mg bs now x.1 (Ei now x.1) x.1.dv/\∃ r,O2 ps x.1.dv (Ei now x.1) (Nc (Ei now x.1) x.1.aa) x.1.v r q/\(x.2=true↔r=0))
def Qn (now:Int) (bs:List Bool) (a:Ask) (st:Int) (zs:List Int) (ps q:List Nd):Prop:=
 (a.can=false/\st=-1/\zs=[]/\q=ps) \/
 (a.can=true/\∃ t xs is,Fp ps (Bl (mr bs a.ft)) a.nodes a.v a.aa now t xs is/\(is=false->st=-1/\zs=[]/\q=ps)/\(is=true->st=t/\zs=Bl xs/\∃ r,O2 ps (Bl xs) t (t+a.aa) a.v r q))
def Nh (now:Int) (bs:List Bool) (x:(Ask×Bool)×Au) (ps q:List Nd):Prop:=
 ∃ m,((x.1.2=false/\m=ps)\/(x.1.2=true/\∃ r,Wd ps x.1.1.dv (Ei now x.1.1) (Ei now x.1.1+x.1.1.aa) x.1.1.v r m))/\x.2.id=x.1.1.id/\Qn now bs x.1.1 x.2.start x.2.dv m q
structure Kk (vs:List V4) (now:Int) (bs:List Bool) (hs:List At) (asks:List Ask) (slots:List Au):Prop where
 go:∃ ps q1 q2 st rd,Iz vs bs.length now hs 0 ps/\C2 (Lg now bs) st ps q1/\st.map Prod.fst=asks/\C2 (Nh now bs) rd q1 q2/\rd.map Prod.fst=st/\rd.map Prod.snd=slots
def Ae7 (vs:List V4) (now:Int) (bs:List Bool) (hs:List At) (asks:List Ask) (w:World) (e:Ending) (w':World):Prop:=
 Below w.heap.size w w'/\((∃ r,r≠0/\e=.returned (.tuple #[.slice none 0 0,.int .i64 r])/\Iz vs bs.length now hs r []) \/
  (∃ so sc slots,e=.returned (.tuple #[.slice so asks.length sc,.int .i64 0])/\Kk vs now bs hs asks slots/\Tu w' so asks.length slots/\asks.length<=sc/\(∀ b off,so=some ⟨b,off,none⟩->w.heap.size<=b)/\∀ s,s∈slots->∀ b off,s.go=some ⟨b,off,none⟩->w.heap.size<=b))
def Aqw {α β:Type} {R:α->β->β->Prop} {xs:List α} {p q:β} (h:C2 R xs p q) {x:α} (a:x∈xs):∃ b c,R x b c:=by
 induction xs generalizing p with
 | nil=>cases a
 | cons y ys ih=>
  obtain ⟨m,h1,d⟩:=h;rcases Gu.1 a with rfl | a
  .exact ⟨p,m,h1⟩
  .exact ih d a
def Aqx {fr a:Int} {v:V4} (h:Bj fr (Nc fr a) v=true):Nc fr a=fr+a/\0<=fr/\fr<fr+a/\fr+a<=1099511627776:=by
 obtain ⟨c,d,b,e⟩:=Mb h;unfold Nc at *
 split at b<;>simp_all<;>omega
def Ae8 {b:Int} {i:List Bool} {a:Ask} {f q:List Nd} (h:Lg b i (a,true) f q):Mg i b a (Ei b a) a.dv/\D8 f.length a.dv/\Bj (Ei b a) (Ei b a+a.aa) a.v=true /\
  O2 f a.dv (Ei b a) (Ei b a+a.aa) a.v 0 q:=by
 rcases h with ⟨_,h,_⟩ | ⟨_,_,h,_⟩ | ⟨_,h1,r,j,k⟩
 .cases h
 .cases h
 .have l:=k.1 rfl;subst l;have d:=j;rcases j.1 with ⟨_,c,_⟩ | ⟨_,_,_,c,_⟩ | ⟨m,g,_⟩
  .cases c
  .cases c
  .have e:=(Aqx g).1;rw [e] at g d;exact ⟨h1,m,g,d⟩
def Ar {α:Type} (cells:α->Array Value) (xs:List α):List Value:=xs.flatMap fun x=>(cells x).toList
def Px {α:Type} (cells:α->Array Value) (xs ys:List α):Ar cells (xs++ys)=Ar cells xs++Ar cells ys:=by simp [Ar]
def Tb {α:Type} (cells:α->Array Value) (x:α):Ar cells [x]=(cells x).toList:=by simp [Ar]
def Iq {α:Type} {cells:α->Array Value} {sz:Nat} (a:∀ x,(cells x).size=sz) (xs:List α) {i j:Nat} {x:α} (b:xs[i]?=some x) (f:j<sz):(Ar cells xs)[i*sz+j]?=(cells x)[j]?:=by
 induction xs generalizing i with
 | nil=>simp at b
 | cons y ys ih=>
  have d:=a y;rw [show Ar cells (y :: ys)=(cells y).toList++Ar cells ys from by simp [Ar]]
  cases i with
  | zero=>
   have e:x=y:=(by simpa using b.symm);subst e;rw [Fv (by simp;omega)];simp
  | succ i=>
   have c:ys[i]?=some x:=(by simpa using b);rw [G5 (by simp [d,Kx];omega)];have:=ih c;rw [show (i+1)*sz+j-(cells y).toList.length=i*sz+j by simp [d,Kx];omega,this]
def Aqy {α:Type} {cells:α->Array Value} {sz:Nat} (b:∀ x,(cells x).size=sz) {ok:World->α->Prop} {w:World} {base g cap:Nat} {T:TypeId} {xs:List α} {n:Nat} (h:w.ownsRow base T sz (.slice (some ⟨g,0,none⟩) n cap) n (Ar cells xs)) (d:xs.length=n)
  (a:n<=9223372036854775807) (e:∀ x,x∈xs->ok w x):Mh cells sz ok w (some ⟨g,0,none⟩) n xs:=by
 refine ⟨d,a,fun i x c=>?_⟩;have k:=(Aq.1 c).1;refine ⟨g,0,rfl,(h.lt g rfl).2,fun j f=>?_,e x (Aj c)⟩
 rw [D2,Gr h (i*sz+j) (by
  have:(i+1)*sz<=n*sz:=Nat.mul_le_mul_right _ (by omega);rw [Kx] at this
  omega),Iq b xs c f]
def Ae9:(Tryz.prog.info? 224).map (fun i=>(i.zero,i.size,i.bytes))=some (some (.agg #[.int .i64 0,.int .i64 0,.slice none 0 0]),3,40):=by kernel_rfl
def Aqz:(Tryz.prog.info? 4).map (fun i=>(i.zero,i.size,i.bytes))=some (some (.bool false),1,1):=by kernel_rfl
def Aq0 (n:Nat):madeCells (Value.bool false).cells n=(List.replicate n (.bool false)).toArray:=by
 apply Array.toList_inj.1;apply Ee;intro j;by_cases a:j<n
 .simp [madeCells,Value.cells,a,Nat.mod_one]
 .simp [madeCells,Value.cells,a]
def Afa (n:Nat) (d:n<=1000000):∀ w:World,(Instr.makeSlice 216 (.int .i64 (n:Int)) (.int .i64 (n:Int))).run Tryz.prog w=.ok (.slice (some ⟨w.heap.size,0,none⟩) n n) (w.alloc (.cells (Array.replicate n (.bool false)) 4 (0,0))):=by
 intro w;obtain ⟨i,a,b,h1,c⟩:=C0 Aqz;have:=run_make (P:=Tryz.prog) w 216 4 i _ Tryz.underlying216 a b .i64 .i64 n n (by omega) (by omega) (by rw [c];omega) (by omega);rw [this];simp only [Jw,h1,Nat.mul_one];rw [Aq0,List.toArray_replicate]
def Aq1 (n:Nat) (d:n<=1000000):∀ w:World,(Instr.makeSlice 217 (.int .i64 0) (.int .i64 (n:Int))).run Tryz.prog w=.ok (.slice (some ⟨w.heap.size,0,none⟩) 0 n) (w.alloc (.cells (madeCells (Value.agg #[.int .i64 0,.int .i64 0,.slice none 0 0]).cells (n*3)) 224 (0,0))):=by
 intro w;obtain ⟨i,a,b,h1,c⟩:=C0 Ae9;have:=run_make (P:=Tryz.prog) w 217 224 i _ Tryz.underlying217 a b .i64 .i64 0 n (by omega) (by omega) (by rw [c];omega) (by omega);rw [this];simp only [Jw,Int.toNat_zero,h1]
structure l7 (w:World) (tb gb gs cap:Nat) (po uo:Option Addr) (un uc:Nat) (bs:List Bool) (now:Int) (q:List Nd) (kb:Nat) (ks:List Value) (wr:World):Prop where
 la:j7 w tb gb gs cap po uo un uc bs now q wr
 kept:wr.heap[kb]?=some (.cells ks.toArray 4 (0,0))
 kw:w.heap.size<=kb
def l7.below {w:World} {b c d cap:Nat} {po e:Option Addr} {f g:Nat} {i:List Bool} {a:Int} {q:List Nd} {j:Nat} {k:List Value} {wr w':World} (h:l7 w b c d cap po e f g i a q j k wr) (l:Below wr.heap.size wr w'):l7 w b c d cap po e f g i a q j k w':=
 ⟨h.la.below l,Ae l h.kept (Ab h.kept),h.kw⟩
def l7.mod {w:World} {k c d cap:Nat} {po e:Option Addr} {f l:Nat} {m:List Bool} {a:Int} {q g:List Nd} {n:Nat} {o:List Value} {wr w':World} (h:l7 w k c d cap po e f l m a q n o wr) (i:0<f->∀ b j,e=some ⟨b,j,none⟩->b<w.heap.size) (r:B4 w' c d po cap g) (s:gi wr q g) (p:Mod (Bc q) wr w'):l7 w k c d cap po e f l m a g n o w':=
 ⟨h.la.mod i r s p,(p.block _ (Ab h.kept) (Jp h.la.dm h.kept (by decide) (by decide))).trans h.kept,h.kw⟩
def j7.setOther {w:World} {r s m cap:Nat} {po t:Option Addr} {y uc:Nat} {bs:List Bool} {k:Int} {q:List Nd} {wr:World} {b o:Nat} {x:Array Value} {T:TypeId} {v:Value} (h:j7 w r s m cap po t y uc bs k q wr) (n:wr.heap[b]?=some (.cells x T (0,0)))
  (h1:T≠363) (z:T≠398) (h3:T≠354) (h4:T≠270) (hw:w.heap.size<=b) (ac:0<y->∀ b f,t=some ⟨b,f,none⟩->b<w.heap.size) (l:∀ (i:Nat) (u:Value),x[i]?=some u->∀ p:Addr,u≠Value.pointer (some p)) :
  j7 w r s m cap po t y uc bs k q (wr.setCell ⟨b,o,none⟩ v):=by
 have d:∀ c,c≠b->(wr.setCell ⟨b,o,none⟩ v).heap[c]?=wr.heap[c]?:=fun c hc=>Cd _ _ _ _ hc;have hm:=Jp h.dm n h1 z;have g:=h.dm
 have ad:s≠b:=fun e=>by have:=g.head;rw [e,n] at this;simp at this;exact h3 this.2
 have al:r≠b:=fun e=>by have:=h.tab.head;rw [e,n] at this;simp at this;exact h4 this.2
 refine ⟨h.low.setCell hw _,⟨(d _ ad).trans g.head,g.addr,fun i j=>?_,fun i j=>?_,g.inv,g.apart,g.own,g.l6⟩,⟨(d _ al).trans h.tab.head,h.tab.up.len,h.tab.up.max,fun i j=>?_⟩,h.ek⟩
 .have z:m≠b:=fun e=>by
   have:=g.ptr i j;rw [e,Aa n i] at this;exact l i _ this _ rfl
  exact (Bp (a:=⟨m,i,none⟩) (w:=wr) (d _ z)).trans (g.ptr i j)
 .have hq:=g.el i j;exact ⟨(d _ (fun e=>hm ⟨i,j,.inl e.symm⟩)).trans hq.head,hq.row.of_block (d _ (fun e=>hm ⟨i,j,.inr e.symm⟩)),hq.ne⟩
 .obtain ⟨c,f,e,am,hc⟩:=h.tab.up.cell i j;have:=ac (by omega) c f e;exact ⟨c,f,e,by simpa [World.setCell] using am,(Bp (a:=⟨c,f+i,none⟩) (w:=wr) (d c (by omega))).trans hc⟩
end Go.Proofs.YtimlcnhcjndijaaGreatDoor.Pl
namespace Go.Proofs.YtimlcnhcjndijaaGreatDoor.Pl
open Go.RowKit
def Aq2 (st:List (Ask×Bool)) (a:Ask) (b:Bool) (m k:Nat) (f:k<m) (c:st.length=k) :
  ((st.map fun x=>Value.bool x.2)++List.replicate (m-k) (Value.bool false)).toArray.setIfInBounds k (.bool b)=(((st++[(a,b)]).map fun x=>Value.bool x.2)++List.replicate (m-(k+1)) (Value.bool false)).toArray:=by
 obtain ⟨d,e⟩:∃ d,m-k=d+1:=⟨m-k-1,by omega⟩;rw [e,show m-(k+1)=d by omega,List.replicate_succ];apply Array.toList_inj.1;simp [c]
def Aq3 (st:List (Ask×Bool)) (d:Nat):∀ (i:Nat) (u:Value),((st.map fun x=>Value.bool x.2)++List.replicate d (Value.bool false)).toArray[i]?=some u->∀ p:Addr,u≠Value.pointer (some p):=by
 intro i u a p e;rw [Lo] at a;rcases Dt.1 (Aj a) with h | h
 .obtain ⟨_,_,rfl⟩:=Bd.1 h;cases e
 .rw [(U0.1 h).2] at e;cases e
def Zs (w:World) (cs:Array Value) (T:TypeId):∀ j u,cs.toList[j]?=some u->(w.alloc (.cells cs T (0,0))).cell? ((⟨w.heap.size,0,none⟩:Addr).add j)=some u:=by
 intro j u a;rw [Addr.add_lit,D2,Aa (Af w _) j];simpa using a
def Afb (s:Au):∀ u∈s.cells.toList,u.oneCell'=true:=by
 simp [Value.oneCell']
def Je {n:Nat} (h:n<=1000000):n+1<=maxLen:=by
 have:maxLen=9223372036854775807:=by kernel_rfl
 omega
def Aq4 (s:Au):s.cells.size=3:=rfl
def Afc:0<3:=Kw _
def j7.other {w:World} {p r m cap:Nat} {po s:Option Addr} {t uc:Nat} {bs:List Bool} {k:Int} {q:List Nd} {wr w':World} {b:Nat} {x:Array Value} {T:TypeId} (h:j7 w p r m cap po s t uc bs k q wr) (u:wr.heap[b]?=some (.cells x T (0,0)))
  (h1:T≠363) (h2:T≠398) (h3:T≠354) (h4:T≠270) (hw:w.heap.size<=b) (v:0<t->∀ b f,s=some ⟨b,f,none⟩->b<w.heap.size) (y:0<q.length->m≠b) (z:wr.grownBy w' (some b)) :
  j7 w p r m cap po s t uc bs k q w':=by
 have d:∀ c,c<wr.heap.size->c≠b->w'.heap[c]?=wr.heap[c]?:=fun c n hc=>z.block c n (fun e=>hc (by cases e;rfl));have hm:=Jp h.dm u h1 h2;have g:=h.dm
 have ac:r≠b:=fun e=>by have:=g.head;rw [e,u] at this;simp at this;exact h3 this.2
 have ad:p≠b:=fun e=>by have:=h.tab.head;rw [e,u] at this;simp at this;exact h4 this.2
 refine ⟨h.low.grown z h.low.size (fun c e=>by cases e;exact hw),⟨(d _ (Ab g.head) ac).trans g.head,g.addr,fun i j=>?_,fun i j=>?_,g.inv,g.apart,g.own,g.l6⟩,⟨(d _ (Ab h.tab.head) ad).trans h.tab.head,h.tab.up.len,h.tab.up.max,fun i j=>?_⟩,h.ek⟩
 .exact (Bp (a:=⟨m,i,none⟩) (w:=wr) (d _ (g.qj (by omega)) (y (by omega)))).trans (g.ptr i j)
 .have o:=g.el i j;have n:=o.lt;exact ⟨(d _ n.1 (fun e=>hm ⟨i,j,.inl e.symm⟩)).trans o.head,o.row.of_block (d _ n.2 (fun e=>hm ⟨i,j,.inr e.symm⟩)),o.ne⟩
 .obtain ⟨c,f,e,l,hc⟩:=h.tab.up.cell i j;have:=v (by omega) c f e;exact ⟨c,f,e,Br l z.size,(Bp (a:=⟨c,f+i,none⟩) (w:=wr) (d c l (by omega))).trans hc⟩
structure jw (w:World) (gs g cp k:Nat) (sl:List Au) (q:List Nd) (wr:World):Prop where
 own:wr.ownsRow w.heap.size 224 3 (.slice (some ⟨g,0,none⟩) k cp) k (Ar Au.cells sl)
 len:sl.length=k
 ok:∀ s,s∈sl->Au.ok wr s/\∀ b off,s.go=some ⟨b,off,none⟩->w.heap.size<=b/\b<wr.heap.size/\¬ Bc q b/\b≠g
 gs:0<q.length->gs≠g
def jw.aq {w:World} {b g d k:Nat} {f:List Au} {q:List Nd} {wr:World} (h:jw w b g d k f q wr):∃ a,wr.heap[g]?=some (.cells a 224 (0,0)):=by
 rcases h.own.2 with ⟨c,_⟩ | ⟨i,cap,a,e,_,h,_⟩
 .cases c
 .cases e;exact ⟨a,h⟩
def jw.below {w:World} {d g f k:Nat} {i:List Au} {q:List Nd} {wr w':World} (h:jw w d g f k i q wr) (a:Below wr.heap.size wr w'):jw w d g f k i q w':=
 ⟨Aqm h.own a Ln,h.len,fun s j=>⟨(h.ok s j).1.below a,fun b c e=>by obtain ⟨l,m,n,o⟩:=(h.ok s j).2 b c e;exact ⟨l,Br m a.size,n,o⟩⟩,h.gs⟩
def jw.mod {w:World} {i g j k:Nat} {l:List Au} {q m:List Nd} {wr w':World} (h:jw w i g j k l q wr) (o:¬ Bc q g) (n:gi wr q m) (f:Mod (Bc q) wr w'):jw w i g j k l m w':=by
 refine ⟨Zp h.own fun c e=>?_,h.len,fun s d=>⟨⟨(h.ok s d).1.aj.mod f (fun _ b a e=>((h.ok s d).2 b a e).2.2.1),(h.ok s d).1.oi⟩,fun b a e=>?_⟩,fun h0=>h.gs (by rw [n.len] at h0;exact h0)⟩
 .cases e;exact f.block _ (h.own.lt g rfl).2 o
 .obtain ⟨h1,p,r,t⟩:=(h.ok s d).2 b a e;refine ⟨h1,Br p f.size,fun c=>?_,t⟩;rcases n.ek c with c | c
  .exact r c
  .omega
def Qk.found {i q:List Nd} {k:List Bool} {f st:Int} {a:Ask} {so:Option Addr} {j:Nat} {w:World} (h:Qk i k f a st so j q w) (m:R9 i q):∃ zs,Qn f k a st zs i q/\Ap w so j zs/\(∀ b d,so=some ⟨b,d,none⟩->0<j):=by
 rcases h with ⟨c,rfl,rfl,rfl,rfl⟩ | ⟨c,t,xs,is,g,n,o⟩
 .exact ⟨[],.inl ⟨c,rfl,rfl,rfl⟩,Tr w,fun b d e=>by cases e⟩
 .cases is with
  | false=>
   obtain ⟨rfl,rfl,rfl,rfl⟩:=n rfl;exact ⟨[],.inr ⟨c,t,xs,false,g,fun _=>⟨rfl,rfl,rfl⟩,fun h=>by cases h⟩,Tr w,fun b d e=>by cases e⟩
  | true=>
   obtain ⟨rfl,l,r,p⟩:=o rfl;refine ⟨Bl xs,.inr ⟨c,st,xs,true,g,fun h=>(by cases h),fun _=>⟨rfl,rfl,r,p,m⟩⟩,l,fun b d e=>?_⟩;have:=g.found.len;have:=g.found.many1;have:=l.len;simp [Bl] at this;omega
def jw.snoc {w:World} {r g cp k m f:Nat} {t:List Au} {q:List Nd} {wr n:World} {s:Au} {gb cap:Nat} {po:Option Addr} (h:jw w r g cp k t q wr) (hp:B4 wr gb r po cap q) (hs:s.ok wr) (u:∀ b d,s.go=some ⟨b,d,none⟩->w.heap.size<=b/\b<wr.heap.size/\¬ Bc q b/\b≠g)
  (o:n.ownsRow w.heap.size 224 3 (.slice (some ⟨m,0,none⟩) (k+1) f) (k+1) (Ar Au.cells t++s.cells.toList)) (hg:(wr.alloc (.cells s.cells 224 (0,0))).grownBy n (some g)) (hb:(Value.slice (some ⟨m,0,none⟩) (k+1) f).ownBlock=(Value.slice (some ⟨g,0,none⟩) k cp).ownBlock\/(Value.slice (some ⟨m,0,none⟩) (k+1) f).ownBlock=some (wr.alloc (.cells s.cells 224 (0,0))).heap.size) :
  jw w r m f (k+1) (t++[s]) q n:=by
 have ac:m=g\/m=wr.heap.size+1:=by
  rcases hb with e | e
  .left;simpa [Value.ownBlock] using e
  .right;simpa [Value.ownBlock] using e
 have v:∀ c,c<wr.heap.size->c≠g->n.heap[c]?=wr.heap[c]?:=fun c hl y=>(hg.block c (by simp;omega) (fun e=>y (by cases e;rfl))).trans (Gs wr _ c hl);have ad:wr.heap.size+1<=n.heap.size:=by have:=hg.size;simpa using this
 have l:∀ x:Au,x.ok wr->(∀ b d,x.go=some ⟨b,d,none⟩->w.heap.size<=b/\b<wr.heap.size/\¬ Bc q b/\b≠g)->Au.ok n x/\∀ b d,x.go=some ⟨b,d,none⟩->w.heap.size<=b/\b<n.heap.size/\¬ Bc q b/\b≠m:=fun x j p=>by
  refine ⟨⟨⟨j.aj.len,j.aj.max,fun i hi=>?_⟩,j.oi⟩,fun b d e=>?_⟩
  .obtain ⟨b,d,e,z,y⟩:=j.aj.cell i hi;have h1:=p b d e;exact ⟨b,d,e,by omega,(Bp (a:=⟨b,d+i,none⟩) (w:=wr) (v b z h1.2.2.2)).trans y⟩
  .have h1:=p b d e;exact ⟨h1.1,by omega,h1.2.2.1,by omega⟩
 refine ⟨by rw [Px,Tb];exact o,by simp [h.len],fun x j=>?_,fun h0=>?_⟩
 .rcases Dt.1 j with j | j
  .exact l x (h.ok x j).1 (h.ok x j).2
  .have:x=s:=by simpa using j
   subst this;exact l x hs u
 .have:=h.gs h0;have:=hp.qj h0;omega
end Go.Proofs.YtimlcnhcjndijaaGreatDoor.Pl
namespace Go.Proofs.YtimlcnhcjndijaaGreatDoor.Pl
open Go.RowKit
def Afd {α:Type} {xs:List α} {k:Nat} (h:xs.length=k) (x:α):(xs++[x]).length=k+1:=by simp [h]
def Afe {w wr:World} {j m n cap c o d l k:Nat} {po e:Option Addr} {p:List Bool} {a:Int} {q:List Nd} {st:List (Ask×Bool)} {x:Ask} {b:Bool}
  (h:l7 w j m n cap po e c o p a q d ((st.map fun x=>Value.bool x.2)++List.replicate (l-k) (.bool false)) wr) (r:k<l) (f:st.length=k) (g:0<c->∀ b i,e=some ⟨b,i,none⟩->b<w.heap.size) :
  l7 w j m n cap po e c o p a q d (((st++[(x,b)]).map fun x=>Value.bool x.2)++List.replicate (l-(k+1)) (.bool false)) (wr.setCell ⟨d,k,none⟩ (.bool b)):=by
 refine ⟨h.la.setOther h.kept (by decide) (by decide) (by decide) (by decide) h.kw g (Aq3 _ _),?_,h.kw⟩;rw [<- Aq2 st x b l k r f];exact Al h.kept k _
def Aff {w wr:World} {d e f cap g i c l k:Nat} {po j:Option Addr} {m:List Bool} {a:Int} {q:List Nd} {st:List (Ask×Bool)}
  (h:l7 w d e f cap po j g i m a q c ((st.map fun x=>Value.bool x.2)++List.replicate (l-k) (.bool false)) wr) (n:k<l) (b:st.length=k):wr.cell? ⟨c,k,none⟩=some (.bool false):=by
 rw [Aa h.kept k,Lo,G5 (by simp;omega)];simp only [Ax,b,Nat.sub_self,List.getElem?_replicate];rw [Ad (by omega)]
def Ask.ok.te {w wr b:World} {e f g cap i j:Nat} {po k:Option Addr} {l:List Bool} {a:Int} {x:Ask} {q:List Nd} {m:World} (h:x.ok wr) (c:Mod (Bc q) wr b) (h0:x.ok w) (d:j7 w e f g cap po k i j l a q m):x.ok b:=
 ⟨h.places.mod c (Ts h0.places Ln d.ek),h.mh,h.aj.mod c (Ts h0.aj Ln d.ek),h.oi⟩
def Aq5 (vo uo ho ao:Option Addr) (n c un uc m mc l lc:Nat) (vs:List V4) (bs:List Bool) (t:Int) (hs:List At) (aQ:List Ask) (w:World) (hv:N9 w vo n vs) (hu:Mf w uo un bs) (hh:V8 w ho m hs) (ha:We w ao l aQ) (hl:l<=1000000) :
  Calls Tryz.prog 136 #[.slice vo n c,.slice uo un uc,.int .i64 t,.slice ho m mc,.slice ao l lc] w (Ae7 vs t bs hs aQ w):=by
 have aR:=fun h0=>hu.lt h0;have bf:=Aqv vo uo ho n c un uc m mc vs bs t hs w hv hu hh;have bD:=hu.len;have a7:=ha.len;have cB:=Afa l hl;have cC:=Aq1 l hl;obtain ⟨b8,bL,bM,bg,bi⟩:=C0 Ae9;replace ⟨hv,hu,hh,ha,aR,bf,bD,a7⟩:=H8 hv hu hh ha aR bf bD a7;go_enter Tryz.func136,Tryz.ntmps136;go_wp2_with fail;refine bf.out.mono ?_;rintro e w1 ⟨aU,⟨r,hr,rfl,hrel⟩ | ⟨tb,gb,gs,cap,po,q0,rfl,bP,bQ,bR,aN⟩⟩
 .have d:(r != 0)=true:=by simpa using hr
  replace ⟨hrel,aU,hr⟩:=H3 hrel aU hr;go_wp2;go_ret2;exact ⟨aU.out,.inl ⟨r,hr.out,rfl,by rw [bD.out];exact hrel.out⟩⟩
 have bl:Qm vs un t:=by
  rcases aN with ⟨_,h⟩ | ⟨h,_⟩
  .cases h
  .exact h
 have aS:un<=1000000:=by have:=bl.up;have:=bl.l6;omega
 have bn:=bl.lo;obtain ⟨WK,bS⟩:=Ex (w1.alloc (.cells (Array.replicate l (.bool false)) 4 (0,0)));have bv:Below w1.heap.size w1 WK:=by rw [bS];exact Bn
 have bT:l7 w tb gb gs cap po uo un uc bs t q0 w1.heap.size (List.replicate l (.bool false)) WK:=
  ⟨(j7.mk aU bP bQ bR).below bv,by rw [bS,List.toArray_replicate];exact Af _ _,aU.size⟩
 replace ⟨aN,aU,bP,bQ,bR,bl,aS,bT⟩:=H8 aN aU bP bQ bR bl aS bT;replace ⟨bv,bn⟩:=H2 bv bn;go_wp2;go_loopw [15,16,37] (fun _ _ i wr=>∃ (k:Nat) (q:List Nd) (st:List (Ask×Bool)),i=.int .i64 k/\k<=l/\Hid (l7 w tb gb gs cap po uo un uc bs t q w1.heap.size ((st.map fun x=>Value.bool x.2)++List.replicate (l-k) (.bool false)) wr)/\Hid (st.length=k)/\Hid (st.map Prod.fst=aQ.take k)/\Hid (C2 (Lg t bs) st q0 q)) (fun _ _ i _=>l-(intOf i).toNat)
 case atStart=>exact ⟨0,q0,[],rfl,Av _,bS▸bT.out,rfl,rfl,rfl⟩
 case round=>
  obtain ⟨k,q,st,rfl,hk,hP,aO,b9,hC⟩:=hrel;by_cases hc:k<l
  .have ch:(k:Int)<l:=(by omega);have cF:(0:Int)<=(k:Int):=(by omega);obtain ⟨x,hx⟩:=ha.out.get hc;obtain ⟨b,aC,rfl,hb,a0,ap⟩:=ha.out.cell k x hx;have f:=hP.out.la.low;have c0:=(Ag f hb).trans (a0 0 (by omega));have c1:=(Ag f hb).trans (a0 1 (by omega));have c2:=(Ag f hb).trans (a0 2 (by omega));have c3:=(Ag f hb).trans (a0 3 (by omega));have c4:=(Ag f hb).trans (a0 4 (by omega));have c5:=(Ag f hb).trans (a0 5 (by omega));have c6:=(Ag f hb).trans (a0 6 (by omega));have c7:=(Ag f hb).trans (a0 7 (by omega));have c8:=(Ag f hb).trans (a0 8 (by omega));have c9:=(Ag f hb).trans (a0 9 (by omega));simp at c0 c1 c2 c3 c4 c5 c6 c7 c8 c9;clear a0;have p:l7 w tb gb gs cap po uo un uc bs t q w1.heap.size ((st.map fun x=>Value.bool x.2)++List.replicate (l-k) (.bool false)) (wr.alloc x.obj):=hP.out.below Bn;have ad:(wr.alloc x.obj).heap[wr.heap.size]?=some x.obj:=Af _ _
   have a8:∀ b,(st++[(x,b)]).map Prod.fst=aQ.take (k+1):=fun b=>by rw [Ql hx,<- b9.out];simp
   by_cases qs:x.start<0
   .have d:decide (0<=x.start)=false:=(by simp;omega);have aV:=(Afe (x:=x) (b:=false) hP.out hc aO.out aR.out).below ((Below.refl _ _).alloc Ln x.obj);have aL:C2 (Lg t bs) (st++[(x,false)]) q0 q:=V9 hC.out (.inl ⟨qs,rfl,rfl⟩);have kf:=Ah hP.out.kept k;have kc:=Aff hP.out hc aO.out;have lk:=Ab hP.out.kept;replace ⟨aV,aL,p,ad,a8,qs,ap,hx⟩:=H8 aV aL p ad a8 qs ap hx;replace f:=Hh f;go_wp2;go_roundw
    case rel=>exact ⟨k+1,q,st++[(x,false)],by go_num,by omega,aV.out,Afd aO.out _,a8.out _,aL.out⟩
    case measure=>simp [intOf];omega
   .have d:decide (0<=x.start)=true:=(by simp;omega);obtain ⟨F,hF⟩:=Ex (Ei t x);have ci:(if x.start<t then t else x.start)=F:=(by rw [hF];unfold Ei;omega);have bU:=Aqt gb gs cap po q tb un uc uo bs t x F x.go x.gn x.gc x.dv (wr.alloc x.obj) p.la.dm p.la.tab ((ap.jr p.la.low).places) aS.out ((ap.jr p.la.low).aj) (Ts ap.aj Ln p.la.ek) ap.oi bn.out;have bE:0<=x.start:=(by omega);replace ⟨p,ad,a8,qs,bE,ap,hx,f⟩:=H8 p ad a8 qs bE ap hx f;replace ⟨bU,hF⟩:=H2 bU hF;go_wp2_with fail;refine bU.out.mono ?_;rintro e w3 ⟨bk,q2,rfl,bF,bG,bV,aW⟩;have a9:=p.out.mod aR.out bF bG bV;have bW:=Tt bG bF;have aV:=Afe (x:=x) (b:=bk) a9 hc aO.out aR.out
    have aL:C2 (Lg t bs) (st++[(x,bk)]) q0 q2:=V9 hC.out (by
     rw [hF.out] at aW;rcases aW with ⟨h1,h2,h3⟩ | ⟨h1,r,h2,h3⟩
     .exact .inr (.inl ⟨bE.out,h1,h2,h3⟩)
     .exact .inr (.inr ⟨bE.out,h1,r,⟨h2,bW⟩,h3⟩))
    have kf:=Ah a9.kept k;have kc:=Aff a9 hc aO.out;have lk:=Ab a9.kept;clear c0 c1 c2 c3 c4 c5 c6 c7 c8 c9 aW;replace ⟨aV,aL,a9,bW,bF,bG,bV⟩:=H7 aV aL a9 bW bF bG bV;go_wp2;go_roundw
    case rel=>exact ⟨k+1,q2,st++[(x,bk)],by go_num,by omega,aV.out,Afd aO.out _,a8.out _,aL.out⟩
    case measure=>simp [intOf];omega
  .have ch:¬ (k:Int)<l:=(by omega);have cj:k=l:=(by omega);subst cj;have a5:st.map Prod.fst=aQ:=(by rw [b9.out,Dn (by rw [a7.out];omega)]);obtain ⟨WS,bH⟩:=Ex (wr.alloc (.cells (madeCells (Value.agg #[.int .i64 0,.int .i64 0,.slice none 0 0]).cells (k*3)) 224 (0,0)));have bX:l7 w tb gb gs cap po uo un uc bs t q w1.heap.size ((st.map fun x=>Value.bool x.2)++List.replicate (k-k) (.bool false)) WS:=by rw [bH];exact hP.out.below Bn
   have bY:jw w gs wr.heap.size k 0 [] q WS:=by
    rw [bH];have ck:k<=maxLen:=(by have:=Je (n:=k) (by omega);omega);refine ⟨World.ownsRow_made _ _ k hP.out.la.low.size ck (size_madeCells _ _),rfl,fun s hs=>(by cases hs),fun h0=>by have:=hP.out.la.dm.qj h0;omega⟩
   obtain ⟨Q1,bI⟩:=Ex (q);rw [<- bI] at hC;replace ⟨a5,bX,bY,bI⟩:=H4 a5 bX bY bI;go_wp2;go_loopw [17,18,19,20,65] (fun sv _ _ _ i wr=>∃ (j:Nat) (q:List Nd) (g cp:Nat) (sl:List Au) (rd:List ((Ask×Bool)×Au)),sv=.slice (some ⟨g,0,none⟩) j cp/\i=.int .i64 j/\j<=k/\Hid (l7 w tb gb gs cap po uo un uc bs t q w1.heap.size ((st.map fun x=>Value.bool x.2)++List.replicate (k-k) (.bool false)) wr)/\Hid (jw w gs g cp j sl q wr)/\Hid (rd.map Prod.fst=st.take j)/\Hid (rd.map Prod.snd=sl)/\Hid (C2 (Nh t bs) rd Q1 q)) (fun _ _ _ _ i _=>k-(intOf i).toNat)
   case atStart=>exact ⟨0,q,_,_,[],[],rfl,rfl,Av _,bH▸bX.out,bH▸bY.out,rfl,rfl,bI.out.symm⟩
   case round=>
    obtain ⟨j,q2,g,cp,sl,rd,rfl,rfl,hj,bw,ca,cb,cc,aL⟩:=hrel;by_cases bZ:j<k
    .have cl:(j:Int)<k:=(by omega);have cG:(0:Int)<=(j:Int):=(by omega);obtain ⟨x,hx⟩:=ha.out.get bZ;obtain ⟨b,aC,rfl,hb,a0,ap⟩:=ha.out.cell j x hx;have f:=bw.out.la.low;have c0:=(Ag f hb).trans (a0 0 (by omega));have c1:=(Ag f hb).trans (a0 1 (by omega));have c2:=(Ag f hb).trans (a0 2 (by omega));have c3:=(Ag f hb).trans (a0 3 (by omega));have c4:=(Ag f hb).trans (a0 4 (by omega));have c5:=(Ag f hb).trans (a0 5 (by omega));have c6:=(Ag f hb).trans (a0 6 (by omega));have c7:=(Ag f hb).trans (a0 7 (by omega));have c8:=(Ag f hb).trans (a0 8 (by omega));have c9:=(Ag f hb).trans (a0 9 (by omega));simp at c0 c1 c2 c3 c4 c5 c6 c7 c8 c9;clear a0
     obtain ⟨bk,b0⟩:∃ bk,st[j]?=some (x,bk):=by
      have h1:j<st.length:=(by rw [aO.out];exact bZ);refine ⟨st[j].2,?_⟩;have h2:(st.map Prod.fst)[j]?=some x:=(by rw [a5.out];exact hx);rw [Bx,Am h1] at h2;rw [Am h1];simp at h2;rw [<- h2]
     have p:=bw.out.below ((Below.refl _ _).alloc Ln x.obj);have aX:=ca.out.below ((Below.refl _ _).alloc Ln x.obj);have ad:(wr.alloc x.obj).heap[wr.heap.size]?=some x.obj:=Af _ _;have ba:=ap.jr p.la.low
     have b1:∀ s,(rd++[((x,bk),s)]).map Prod.fst=st.take (j+1):=fun s=>by rw [Ql b0,<- cb.out];simp
     have b2:∀ s,(rd++[((x,bk),s)]).map Prod.snd=sl++[s]:=fun s=>by rw [<- cc.out];simp
     have kc:wr.cell? ⟨w1.heap.size,j,none⟩=some (.bool bk):=(by rw [Aa bw.out.kept j,Lo,Fv (by simp [aO.out];exact bZ),Bx,b0];rfl);have lk:=Ab bw.out.kept;obtain ⟨F,hF⟩:=Ex (Ei t x);have ci:(if x.start<t then t else x.start)=F:=by rw [hF];unfold Ei;omega
     have bb:∀ (wq:World) (q:List Nd),B4 wq gb gs po cap q->jw w gs g cp j sl q wq->¬ Bc q g:=fun wq q h1 h2=>by
      obtain ⟨cd,h3⟩:=h2.aq;exact Jp h1 h3 (by decide) (by decide)
     replace ⟨p,aX,ad,ba,b1,b2,hF,bb⟩:=H8 p aX ad ba b1 b2 hF bb;replace ⟨hx,ap,f⟩:=H3 hx ap f
     have bN:Hid (∀ (wm w8 w9:World) (qm q8:List Nd) (z:Int) (u:Option Addr) (y ac g9 am:Nat),
      l7 w tb gb gs cap po uo un uc bs t qm w1.heap.size ((st.map fun x=>Value.bool x.2)++List.replicate (k-k) (.bool false)) wm->jw w gs g cp j sl qm wm->((bk=false/\qm=q2)\/(bk=true/\∃ r,Wd q2 x.dv F (F+x.aa) x.v r qm)) ->
      B4 w8 gb gs po cap q8->gi wm qm q8->Mod (Bc qm) wm w8->y<=ac->(∀ b aC,u=some ⟨b,aC,none⟩->wm.heap.size<=b/\¬ Bc q8 b)->Qk qm bs t x z u y q8 w8 ->
      w9.ownsRow w.heap.size 224 3 (.slice (some ⟨g9,0,none⟩) (j+1) am) (j+1) (Ar Au.cells sl++[.int .i64 x.id,.int .i64 z,.slice u y ac])->(w8.alloc (.cells #[.int .i64 x.id,.int .i64 z,.slice u y ac] 224 (0,0))).grownBy w9 (some g) ->
      ((Value.slice (some ⟨g9,0,none⟩) (j+1) am).ownBlock=(Value.slice (some ⟨g,0,none⟩) j cp).ownBlock\/(Value.slice (some ⟨g9,0,none⟩) (j+1) am).ownBlock=some (w8.alloc (.cells #[.int .i64 x.id,.int .i64 z,.slice u y ac] 224 (0,0))).heap.size) ->
      ∃ (bc:List Au) (aY:List ((Ask×Bool)×Au)),l7 w tb gb gs cap po uo un uc bs t q8 w1.heap.size ((st.map fun x=>Value.bool x.2)++List.replicate (k-k) (.bool false)) w9/\jw w gs g9 am (j+1) bc q8 w9/\aY.map Prod.fst=st.take (j+1)/\aY.map Prod.snd=bc/\C2 (Nh t bs) aY Q1 q8):=by
      intro wm w8 w9 qm q8 z u y ac g9 am h1 h2 h3 h4 h5 h6 h7 h8 h9 cm b3 co;have cr:=Tt h5 h4;obtain ⟨zs,f1,f2,f3⟩:=h9.found cr;have cs:=h1.mod aR.out h4 h5 h6;have aD:=h2.mod (bb.out _ _ h1.la.dm h2) h5 h6;obtain ⟨s,hs⟩:∃ s:Au,s=⟨x.id,z,u,y,ac,zs⟩:=⟨_,rfl⟩
      have ct:∀ b aC,s.go=some ⟨b,aC,none⟩->w.heap.size<=b/\b<w8.heap.size/\¬ Bc q8 b/\b≠g:=fun b aC e=>by
       rw [hs] at e;obtain ⟨p1,p2⟩:=h8 b aC e;obtain ⟨b',cD,e',cv,_⟩:=f2.cell 0 (f3 b aC e);rw [show u=some ⟨b,aC,none⟩ from e] at e';cases e';have:=h1.la.low.size;have:=(h2.own.lt g rfl).2;exact ⟨by omega,cv,p2,by omega⟩
      obtain ⟨cd,bO⟩:=(aD.below ((Below.refl _ _).alloc Ln (.cells #[.int .i64 x.id,.int .i64 z,.slice u y ac] 224 (0,0)))).aq;have a6:=cs.below ((Below.refl _ _).alloc Ln (.cells #[.int .i64 x.id,.int .i64 z,.slice u y ac] 224 (0,0)))
      have cw:w1.heap.size≠g:=fun e=>by have:=a6.kept;rw [e,bO] at this;simp at this
      refine ⟨sl++[s],rd++[((x,bk),s)],⟨a6.la.other bO (by decide) (by decide) (by decide) (by decide) (h2.own.lt g rfl).1 aR.out aD.gs b3,(b3.block _ (Ab a6.kept) (fun e=>cw (by cases e;rfl))).trans a6.kept,h1.kw⟩,?_,b1.out s,b2.out s,V9 aL.out ⟨qm,?_,?_,?_⟩⟩
      .exact jw.snoc (s:=s) aD h4 (by rw [hs];exact ⟨f2,h7⟩) ct (by rw [hs];exact cm) (by rw [hs];exact b3) (by rw [hs];exact co)
      .rcases h3 with h | ⟨h,r,h'⟩
       .exact .inl h
       .exact .inr ⟨h,r,by show Wd q2 x.dv (Ei t x) (Ei t x+x.aa) x.v r qm;rw [<- hF.out];exact h'⟩
      .rw [hs]
      .rw [hs];exact f1
     cases bk with
     | false=>
      have aZ:=Ae4 gb gs cap po q2 tb un uc uo bs t x (wr.alloc x.obj) p.out.la.dm p.out.la.tab ba.out.places aS.out;obtain ⟨y0,y1,y2,y3,y4,y5,y6,y7,y8,y9⟩:=Oa ad.out;have lx:=Ab ad.out;replace aZ:=Hh aZ;go_wp2_with fail;refine aZ.out.mono ?_;rintro e w8 ⟨z,u,y,ac,q8,rfl,a1,aP,an,aE,aF,aG⟩;have aD:=jw.mod aX.out (bb.out _ _ p.out.la.dm aX.out) aP an;have av:=aD.own.alloc (.cells #[.int .i64 x.id,.int .i64 z,.slice u y ac] 224 (0,0));have aA:=Zs w8 #[.int .i64 x.id,.int .i64 z,.slice u y ac] 224;have aH:=Afb ⟨x.id,z,u,y,ac,[]⟩;have a2:=Je (n:=j) (by omega);have a3:(j+1)*40<=140737488355328:=(by omega);have aI:w.heap.size<=(w8.alloc (.cells #[.int .i64 x.id,.int .i64 z,.slice u y ac] 224 (0,0))).heap.size:=size_alloc (A6 p.out.la.low.size an.size) _;clear y0 y1 y2 y3 y4 y5 y6 y7 y8 y9 lx c0 c1 c2 c3 c4 c5 c6 c7 c8 c9 kc lk;replace ⟨aD,av,aA,aH,a2,a3,aI,a1⟩:=H8 aD av aA aH a2 a3 aI a1;replace ⟨aP,an,aE,aF,aG⟩:=H5 aP an aE aF aG;go_wp2_with (at_builtin;refine Q6 _ rfl _ _ 217 rfl w.heap.size 224 b8 _ 3 40 Tryz.underlying217 bL bM bg bi rfl Afc (.slice (some ⟨g,0,none⟩) j cp) j _ rfl av.out ⟨w8.heap.size,0,none⟩ 1 1 [.int .i64 x.id,.int .i64 z,.slice u y ac] rfl rfl aA.out aH.out a2.out a3.out aI.out ?_;intro v1 w9 al aB _ aJ;obtain ⟨g9,am,rfl⟩:=Joins.ownsRow_form al (Kw _);replace ⟨al,aB,aJ⟩:=H3 al aB aJ);obtain ⟨bc,aY,e1,e2,e3,e4,e5⟩:=bN.out (wr.alloc x.obj) w8 w9 q2 q8 z u y ac g9 am p.out aX.out (by first | exact .inl ⟨rfl,rfl⟩ | exact .inl ⟨trivial,rfl⟩ | simp) a1.out aP.out an.out aE.out aF.out aG.out al.out aB.out aJ.out;replace ⟨e1,e2,e3,e4,e5⟩:=H5 e1 e2 e3 e4 e5;go_roundw
      case rel=>exact ⟨j+1,q8,g9,am,bc,aY,rfl,by go_num,by omega,e1.out,e2.out,e3.out,e4.out,e5.out⟩
      case measure=>simp [intOf];omega
     | true=>
      have b4:=Ae8 (a:=x) (h:=(Aqw hC.out (Aj b0)).choose_spec.choose_spec);obtain ⟨z1,z2,z3,z4⟩:=Mb b4.2.2.1;rw [<- hF.out] at z1 z2 z3;have ew:IntKind.i64.wrap (F+x.aa)=F+x.aa:=Gt _ (by omega);obtain ⟨WA,bd⟩:=Ex (wr.alloc x.obj);rw [<- bd] at p aX ad ba
      have b5:=
       fun W' h=>Ap8 gb gs cap po q2 x.go x.gn x.gc x.dv F (F+x.aa) x.v W' (p.out.la.dm.below h) ((ba.out.jr h).aj) (Ts ap.out.aj Ln p.out.la.ek) ap.out.oi
      have t0:=Aa p.out.la.tab.head 0;simp at t0;have lt:=Ab p.out.la.tab.head;obtain ⟨y0,y1,y2,y3,y4,y5,y6,y7,y8,y9⟩:=Oa ad.out;have lx:=Ab ad.out;have b6:=Jp p.out.la.dm p.out.la.tab.head (by decide) (by decide);have aM:=Jp p.out.la.dm ad.out (by decide) (by decide);have aT:Below WA.heap.size WA WA.drew:=(Below.refl _ _).drew;replace ⟨b4,z1,z2,z3,z4,b5,b6,aM⟩:=H8 b4 z1 z2 z3 z4 b5 b6 aM;replace aT:=Hh aT
      have cx:Hid (∀ w':World,(∀ b,b<WA.heap.size->¬ Bc q2 b->∀ o,w'.cell? ⟨b,o,none⟩=WA.cell? ⟨b,o,none⟩)->w'.cell? ⟨tb,0,none⟩=some (.pointer (some ⟨gb,0,none⟩))/\w'.cell? ⟨wr.heap.size,3,none⟩=some (.int .i64 x.v.a)/\w'.cell? ⟨wr.heap.size,4,none⟩=some (.int .i64 x.v.b)/\w'.cell? ⟨wr.heap.size,5,none⟩=some (.int .i64 x.v.c)/\w'.cell? ⟨wr.heap.size,6,none⟩=some (.int .i64 x.v.d)/\w'.cell? ⟨wr.heap.size,7,none⟩=some (.int .i64 x.aa)/\w'.cell? ⟨wr.heap.size,8,none⟩=some (.int .i64 x.start)/\w'.cell? ⟨wr.heap.size,9,none⟩=some (.slice x.go x.gn x.gc)):=
       fun w' h=>⟨(h _ lt b6.out _).trans t0,(h _ lx aM.out _).trans y3,(h _ lx aM.out _).trans y4,(h _ lx aM.out _).trans y5,(h _ lx aM.out _).trans y6,(h _ lx aM.out _).trans y7,(h _ lx aM.out _).trans y8,(h _ lx aM.out _).trans y9⟩
      clear y0 y1 y2;go_wp2_with fail;have bx:wr.alloc (.cells x.cells 266 (0,0))=WA:=bd.symm
      try rw [bx]
      clear c0 c1 c2 c3 c4 c5 c6 c7 c8 c9 kc lk;replace ⟨bd,bx⟩:=H2 bd bx;go_region_held3 (fun w'=>w'.cell? ⟨tb,0,none⟩=some (.pointer (some ⟨gb,0,none⟩))/\w'.cell? ⟨wr.heap.size,3,none⟩=some (.int .i64 x.v.a)/\w'.cell? ⟨wr.heap.size,4,none⟩=some (.int .i64 x.v.b)/\w'.cell? ⟨wr.heap.size,5,none⟩=some (.int .i64 x.v.c)/\w'.cell? ⟨wr.heap.size,6,none⟩=some (.int .i64 x.v.d)/\w'.cell? ⟨wr.heap.size,7,none⟩=some (.int .i64 x.aa)/\w'.cell? ⟨wr.heap.size,8,none⟩=some (.int .i64 x.start)/\w'.cell? ⟨wr.heap.size,9,none⟩=some (.slice x.go x.gn x.gc))
       (first
         | (go_keep;done)
         | with_reducible exact cx.out _ cy.out)
       (first
         | (go_at_call 187;refine (b5.out _ aT.out).mono ?_;rintro e w5 ⟨r5,q5,rfl,bJ,bA,be,aK⟩;have cy:Hid (∀ b,b<WA.heap.size->¬ Bc q2 b->∀ o,w5.cell? ⟨b,o,none⟩=WA.cell? ⟨b,o,none⟩):=fun b hb hn o=>Bp (a:=⟨b,o,none⟩) (w:=WA) (aK.block b hb hn)
            replace ⟨bJ,bA,be,aK⟩:=H4 bJ bA be aK))
      have ce:=p.out.below aT.out;have cf:=aX.out.below aT.out;have a4:=ce.mod aR.out bA.out be.out aK.out;have bB:=cf.mod (bb.out _ _ ce.la.dm cf) be.out aK.out;have bK:=(aK.out.block _ (by have:=aT.out.size;omega) aM.out).trans (Ae aT.out ad.out lx);have bC:x.ok w5:=(by have h1:=bd.out▸ba.out;exact h1.te (by rw [<- bd.out];exact (Mod.cg aT.out).ik aK.out) ap.out p.out.la);replace ⟨a4,bB,bK,bC⟩:=H4 a4 bB bK bC;clear t0 lt y3 y4 y5 y6 y7 y8 y9 lx;have aZ:=Ae4 gb gs cap po q5 tb un uc uo bs t x w5 a4.out.la.dm a4.out.la.tab bC.out.places aS.out;obtain ⟨y0,y1,y2,y3,y4,y5,y6,y7,y8,y9⟩:=Oa bK.out;have lx:=Ab bK.out;replace aZ:=Hh aZ;go_wp2_with fail;refine aZ.out.mono ?_;rintro e w8 ⟨z,u,y,ac,q8,rfl,a1,aP,an,aE,aF,aG⟩;have aD:=jw.mod bB.out (bb.out _ _ a4.out.la.dm bB.out) aP an;have av:=aD.own.alloc (.cells #[.int .i64 x.id,.int .i64 z,.slice u y ac] 224 (0,0));have aA:=Zs w8 #[.int .i64 x.id,.int .i64 z,.slice u y ac] 224;have aH:=Afb ⟨x.id,z,u,y,ac,[]⟩;have a2:=Je (n:=j) (by omega);have a3:(j+1)*40<=140737488355328:=(by omega);have aI:w.heap.size<=(w8.alloc (.cells #[.int .i64 x.id,.int .i64 z,.slice u y ac] 224 (0,0))).heap.size:=size_alloc (A6 a4.out.la.low.size an.size) _;clear y0 y1 y2 y3 y4 y5 y6 y7 y8 y9 lx;replace ⟨aD,av,aA,aH,a2,a3,aI,a1⟩:=H8 aD av aA aH a2 a3 aI a1;replace ⟨aP,an,aE,aF,aG⟩:=H5 aP an aE aF aG;go_wp2_with (at_builtin;refine Q6 _ rfl _ _ 217 rfl w.heap.size 224 b8 _ 3 40 Tryz.underlying217 bL bM bg bi rfl Afc (.slice (some ⟨g,0,none⟩) j cp) j _ rfl av.out ⟨w8.heap.size,0,none⟩ 1 1 [.int .i64 x.id,.int .i64 z,.slice u y ac] rfl rfl aA.out aH.out a2.out a3.out aI.out ?_;intro v1 w9 al aB _ aJ;obtain ⟨g9,am,rfl⟩:=Joins.ownsRow_form al (Kw _);replace ⟨al,aB,aJ⟩:=H3 al aB aJ);obtain ⟨bc,aY,e1,e2,e3,e4,e5⟩:=bN.out w5 w8 w9 q5 q8 z u y ac g9 am a4.out bB.out (by first | exact .inr ⟨rfl,r5,bJ.out,Tt be.out bA.out⟩ | exact .inr ⟨trivial,r5,bJ.out,Tt be.out bA.out⟩) a1.out aP.out an.out aE.out aF.out aG.out al.out aB.out aJ.out;replace ⟨e1,e2,e3,e4,e5⟩:=H5 e1 e2 e3 e4 e5;go_roundw
      case rel=>exact ⟨j+1,q8,g9,am,bc,aY,rfl,by go_num,by omega,e1.out,e2.out,e3.out,e4.out,e5.out⟩
      case measure=>simp [intOf];omega
    .have cl:¬ (j:Int)<k:=(by omega);have cA:j=k:=(by omega);subst cA;have b7:rd.map Prod.fst=st:=(by rw [cb.out,Dn (by rw [aO.out];omega)]);replace b7:=Hh b7;go_wp2;go_ret2;have hS:=ca.out;refine ⟨bw.out.la.low,.inr ⟨some ⟨g,0,none⟩,cp,sl,(by rw [a7.out];rfl),⟨q0,Q1,q2,st,rd,by rw [bD.out];exact aN.out,hC.out,a5.out,aL.out,b7.out,cc.out⟩,?_,?_,fun b aC e=>by cases e;exact (hS.own.lt g rfl).1,fun s hs b aC e=>((hS.ok s hs).2 b aC e).1⟩⟩
     .rw [a7.out];exact Aqy Aq4 hS.own hS.len (by omega) (fun s hs=>(hS.ok s hs).1)
     .rw [a7.out];rcases hS.own.2 with ⟨e,_⟩ | ⟨g',cE,cd,e,_,_,h3,_⟩
      .cases e
      .cases e;exact h3
end Go.Proofs.YtimlcnhcjndijaaGreatDoor.Pl
namespace Go.Proofs.YtimlcnhcjndijaaGreatDoor.Pl
open Go.RowKit
abbrev Bw:=Nat->Int->V4
def jl (zs:List Int) (fr tt:Int) (v:V4):Bw:=fun i u=>if Bv zs zs.length i/\fr<=u/\u<tt then v else V4.zero
def l9:Bw:=fun _ _=>V4.zero
def As (U W:Bw):Bw:=fun i u=>A3 (U i u) (W i u)
def Fa:List Bw->Bw
 | []=>l9
 | x :: xs=>As x (Fa xs)
def nn (U:Bw):Prop:=∀ i u,V4.zero.leq (U i u)
def Aq6 (a b c:V4):A3 (A3 a b) c=A3 a (A3 b c):=by simp [A3];omega
def Afg (a b:V4):A3 a b=A3 b a:=by simp [A3];omega
def Qo (a:V4):A3 a V4.zero=a:=by simp [A3,V4.zero]
def Aq7 (a:V4):A3 V4.zero a=a:=by simp [A3,V4.zero]
def Mj (a b c:Bw):As (As a b) c=As a (As b c):=by funext i u;exact Aq6 _ _ _
def Tw (a b:Bw):As a b=As b a:=by funext i u;exact Afg _ _
def Ob (a:Bw):As a l9=a:=by funext i u;exact Qo _
def Sa (a:Bw):As l9 a=a:=by funext i u;exact Aq7 _
def Qp {v:V4}:V4.zero.leq v↔0<=v.a/\0<=v.b/\0<=v.c/\0<=v.d:=by simp [V4.leq,V4.zero]
def Aq8 {v:V4} (h:v.right=true):V4.zero.leq v:=by rw [Qp];have:=E9.1 h;omega
def Tx:nn l9:=fun _ _=>Qp.2 (by simp [l9,V4.zero])
def Tz {a b:Bw} (h:nn a) (k:nn b):nn (As a b):=fun i u=>by
 have h1:=Qp.1 (h i u);have c:=Qp.1 (k i u);rw [Qp];simp [As,A3];omega
def T3 {zs:List Int} {fr a:Int} {v:V4} (h:v.right=true):nn (jl zs fr a v):=fun i u=>by
 unfold jl;split
 .exact Aq8 h
 .exact Qp.2 (by simp [V4.zero])
def Zt {xs:List Bw} (h:∀ x,x∈xs->nn x):nn (Fa xs):=by
 induction xs with
 | nil=>exact Tx
 | cons x xs ih=>exact Tz (h x (E2 ..)) (ih fun y a=>h y (D1 _ a))
structure Ba (vs:List V4) (U:Bw) (q:List Nd):Prop where
 len:q.length=vs.length
 whole:∀ i,i<q.length->(nd q i).whole=vv vs i
 inv:∀ i,i<q.length->Inv (nd q i).whole (nd q i).l
 val:∀ i,i<q.length->∀ u,0<=u->u<1099511627776->A3 (val (nd q i).l u) (U i u)=vv vs i
def Ba.loose {vs:List V4} {U:Bw} {q:List Nd} (h:Ba vs U q):∀ i,i<q.length->Cb (nd q i).l:=fun i a=>(h.inv i a).loose
def Zu {vs:List V4} {b:List Nd} (h:Zr vs b):Ba vs l9 b:=
 ⟨h.len,fun i a=>(h.node i (by rw [<- h.len];exact a)).1,h.inv,fun i a u h0 _=>by
  rw [(h.node i (by rw [<- h.len];exact a)).2]
  simp [val,Ey,h0,l9,Qo]⟩
def Ba.gg {vs:List V4} {U W:Bw} {q:List Nd} (h:Ba vs U q) (e:U=W):Ba vs W q:=e▸h
def Ba.sd {vs:List V4} {U:Bw} {p q:List Nd} (h:Ba vs U p) (b:R9 p q) (c:N8 p q):Ba vs U q:=
 ⟨b.len.trans h.len,fun i a=>by rw [b.len] at a;exact (b.whole i a).trans (h.whole i a),b.inv,fun i a u h0 h1=>by
  rw [b.len] at a
  rw [c i a];exact h.val i a u h0 h1⟩
def Ba.le {vs:List V4} {U:Bw} {q:List Nd} (h:Ba vs U q) {i:Nat} (a:i<q.length) {u:Int} (h0:0<=u) (h1:u<1099511627776):(U i u).leq (vv vs i):=by
 have:=h.val i a u h0 h1;have b:=E9.1 ((h.inv i a).free u h0 h1).1;rw [<- this];simp [V4.leq,A3];omega
def O4 {fr a:Int} {v:V4} (h:Bj fr a v=true):0<=fr/\fr<a/\a<=1099511627776/\v.right=true:=Mb h
def Wf {vs:List V4} {U:Bw} {p q:List Nd} {zs:List Int} {fr e:Int} {v:V4} (h:Ba vs U p) (l:O2 p zs fr e v 0 q) :
  Ba vs (As U (jl zs fr e v)) q/\D8 vs.length zs/\Bj fr e v=true:=by
 obtain ⟨m,d⟩:=l;rcases m with ⟨_,c,_⟩ | ⟨_,_,_,c,_⟩ | ⟨h1,n,o,_,j⟩
 .cases c
 .cases c
 .refine ⟨⟨d.len.trans h.len,fun i b=>?_,d.inv,fun i b u h0 k=>?_⟩,h.len▸h1,n⟩
  .rw [d.len] at b;exact (d.whole i b).trans (h.whole i b)
  .rw [d.len] at b;have g:=h.val i b u h0 k;by_cases f:Bv zs zs.length i
   .rw [(j i b).1 f u h0 k];by_cases a:fr<=u/\u<e
    .rw [Ad a,<- g];simp [As,jl,f,a,A3,Nb];omega
    .rw [Ac a,<- g];simp [As,jl,a,Qo]
   .rw [(j i b).2 f,<- g];simp [As,jl,f,Qo]
def A0x {vs:List V4} {U:Bw} {p q:List Nd} {zs:List Int} {fr a:Int} {v:V4} {r:Int} (h:Ba vs U p) (e:D8 vs.length zs) (b:Bj fr a v=true)
  (f:∀ i,i<vs.length->∀ u,0<=u->u<1099511627776->(As U (jl zs fr a v) i u).leq (vv vs i)) (g:Le p zs fr a v r q):r=0:=by
 rcases g with ⟨c,_⟩ | ⟨_,_,c,_⟩ | ⟨_,_,_,c,_⟩
 .exact absurd ⟨h.len▸e,b⟩ c
 .obtain ⟨k,l,m,_⟩:=O4 b;refine absurd (fun i d j u h0 h1=>?_) c;have:=f i (h.len▸d) u (by omega) (by omega);rw [<- h.val i d u (by omega) (by omega)] at this;simp [As,jl,j,h0,h1,A3,V4.leq] at this ⊢;omega
 .exact c
def Afh {vs:List V4} {U:Bw} {p q:List Nd} {zs:List Int} {fr f:Int} {v:V4} {r:Int} (h:Ba vs (As U (jl zs fr f v)) p) (m:nn U) (n:D8 vs.length zs) (j:Bj fr f v=true)
  (e:R9 p q) (o:V6 p zs fr f v r q):r=0/\Ba vs U q:=by
 obtain ⟨s,t,x,_⟩:=O4 j;rcases o with ⟨c,_⟩ | ⟨_,_,c,_⟩ | ⟨_,_,_,c,k⟩
 .exact absurd ⟨h.len▸n,j⟩ c
 .refine absurd (fun i a d u h0 h1=>?_) c;have:=h.val i a u (by omega) (by omega);have y:=Qp.1 (m i u);rw [h.whole i a,<- this];simp [As,jl,d,h0,h1,A3,V4.leq];omega
 .refine ⟨c,e.len.trans h.len,fun i a=>?_,e.inv,fun i a u h0 l=>?_⟩
  .rw [e.len] at a;exact (e.whole i a).trans (h.whole i a)
  .rw [e.len] at a;have g:=h.val i a u h0 l;by_cases d:Bv zs zs.length i
   .rw [(k i a).1 d u h0 l];by_cases b:fr<=u/\u<f
    .rw [Ad b,<- g];simp [As,jl,d,b,A3];omega
    .rw [Ac b,<- g];simp [As,jl,b,Qo]
   .rw [(k i a).2 d,<- g];simp [As,jl,d,Qo]
def Afi {vs:List V4} {U W:Bw} {p q:List Nd} (h:Ba vs U p) (k:Ba vs W q) (e:U=W):N8 p q:=fun i d=>by
 subst e;have c:i<q.length:=by rw [k.len,<- h.len];exact d
 refine Zf (k.inv i c).loose (h.inv i d).loose (k.inv i c).gd (h.inv i d).gd fun u h0 h1=>?_;have a:=h.val i d u h0 h1;have b:=k.val i c u h0 h1;rw [<- a] at b;simp [A3] at b;obtain ⟨f,g,j,m⟩:=b;cases hx:val (nd q i).l u;cases hy:val (nd p i).l u;simp [hx,hy] at *;omega
def Aq9 {vs:List V4} {U:Bw} {q:List Nd} (h:Ba vs U q) {i:Nat} (d:i<q.length) {c u:Int} {v:V4} (h0:0<=u) (h1:1<=c) :
  j8 (nd q i).l c v u↔u+c<=1099511627776/\∀ x,u<=x->x<u+c->(A3 (U i x) v).leq (vv vs i):=by
 unfold j8;rw [Aew (h.loose i d) h0 h1,And.comm];refine and_congr_right fun f=>⟨fun e x a b=>?_,fun e x a b=>?_⟩
 .have:=e x a b;rw [<- h.val i d x (by omega) (by omega)];simp [V4.leq,A3] at *;omega
 .have:=e x a b;rw [<- h.val i d x (by omega) (by omega)] at this;simp [V4.leq,A3] at *;omega
def Afj (now:Int) (h:At):Bw:=jl h.dv now (Mi now h) h.v
def Cw (now:Int) (x:Ask×Bool):Bw:=if x.2=true then jl x.1.dv (Ei now x.1) (Ei now x.1+x.1.aa) x.1.v else l9
def Lh (x:Ask×Au):Bw:=if 0<=x.2.start then jl x.2.dv x.2.start (x.2.start+x.1.aa) x.1.v else l9
def Sb {a:Int} {vs:List V4} {c:List At}:∀ {U:Bw} {p q:List Nd},C2 (O3 a) c p q->Ba vs U p ->
  Ba vs (As U (Fa (c.map (Afj a)))) q/\∀ h,h∈c->D8 vs.length h.dv/\Bj a (Mi a h) h.v=true:=by
 induction c with
 | nil=>intro U p q h k;cases h;exact ⟨k.gg (Ob _).symm,fun h b=>by cases b⟩
 | cons x xs ih=>
  intro U p q h k;obtain ⟨m,h1,d⟩:=h;obtain ⟨e,f,g⟩:=Wf k h1;obtain ⟨i,j⟩:=ih d e;refine ⟨i.gg (by rw [Mj];rfl),fun h b=>?_⟩;rcases Gu.1 b with rfl | b
  .exact ⟨f,g⟩
  .exact j h b
def Wg (now:Int) (hs:List At):Bw:=Fa (hs.map (Afj now))
def T9 {vs:List V4} {e:Nat} {a:Int} {b:List At} {f:List Nd} (h:Iz vs e a b 0 f) :
  Qm vs e a/\Ba vs (Wg a b) f/\∀ h,h∈b->D8 vs.length h.dv/\Bj a (Mi a h) h.v=true:=by
 rcases h with ⟨_,c⟩ | ⟨d,g,i,⟨_,j⟩ | ⟨c,_⟩⟩
 .cases c
 .obtain ⟨h1,k⟩:=Sb j (Zu i);exact ⟨d,h1.gg (Sa _),k⟩
 .exact absurd rfl c
def Afk {vs:List V4} {a:Int} {b:List At} (h:∀ h,h∈b->D8 vs.length h.dv/\Bj a (Mi a h) h.v=true):nn (Wg a b):=
 Zt fun x c=>by
  obtain ⟨y,d,rfl⟩:=Bd.1 c;exact T3 (O4 (h y d).2).2.2.2
structure Sc (vs:List V4) (now:Int) (bs:List Bool) (a:Ask):Prop where
 pre:Mg bs now a (Ei now a) a.dv
 start:0<=a.start
 aj:D8 vs.length a.dv
 span:Bj (Ei now a) (Ei now a+a.aa) a.v=true
def Wh {d:Int} {f:List Bool} {vs:List V4} {st:List (Ask×Bool)}:∀ {U:Bw} {p q:List Nd},C2 (Lg d f) st p q->Ba vs U p ->
  Ba vs (As U (Fa (st.map (Cw d)))) q/\∀ x,x∈st->x.2=true->Sc vs d f x.1:=by
 induction st with
 | nil=>intro U p q h k;cases h;exact ⟨k.gg (Ob _).symm,fun h o=>by cases o⟩
 | cons x xs ih=>
  intro U p q h k;obtain ⟨m,h1,s⟩:=h;obtain ⟨a,b⟩:=x
  have l:Ba vs (As U (Cw d (a,b))) m/\(b=true->Sc vs d f a):=by
   cases b with
   | false=>
    have e:As U (Cw d (a,false))=U:=(by simp [Cw,Ob]);rw [e];refine ⟨?_,fun c=>by cases c⟩;rcases h1 with ⟨_,_,rfl⟩ | ⟨_,_,_,rfl⟩ | ⟨_,_,r,⟨t,n⟩,u⟩
    .exact k
    .exact k
    .have v:r≠0:=fun c=>by have:=u.2 c;cases this
     rcases t with ⟨_,_,g⟩ | ⟨_,_,_,_,g⟩ | ⟨_,_,_,c,_⟩
     .exact k.sd n g
     .exact k.sd n g
     .exact absurd c v
   | true=>
    obtain ⟨z,c2,c3,c4⟩:=Ae8 h1;obtain ⟨k1,k2,_⟩:=Wf k c4
    have i:0<=a.start:=by
     rcases h1 with ⟨_,c,_⟩ | ⟨_,_,c,_⟩ | ⟨c,_⟩
     .cases c
     .cases c
     .exact c
    exact ⟨by simpa [Cw] using k1,fun _=>⟨z,i,k2,c3⟩⟩
  obtain ⟨k4,k5⟩:=ih s l.1;refine ⟨k4.gg (by rw [Mj];rfl),fun y j=>?_⟩;rcases Gu.1 j with rfl | j
  .exact l.2
  .exact k5 y j
def Sd (vs:List V4) (now:Int) (bs:List Bool) (a:Ask) (s:Au):Prop:=
 s.id=a.id/\((s.start=-1/\s.dv=[])\/(a.can=true/\now<=s.start/\s.start<1099511627776/\Ng bs a s.dv/\D8 vs.length s.dv/\Bj s.start (s.start+a.aa) a.v=true))
def Ara {xs ys:List Nat} (h:xs.Pairwise (·<·)) (a:∀ x,x∈xs->x∈ys):xs.length<=ys.length:=by
 induction xs generalizing ys with
 | nil=>exact Av _
 | cons x xs ih=>
  have h1:=Po.1 h;have b:=a x (E2 ..);have:=ih (ys:=ys.erase x) h1.2 (fun y c=>(List.mem_erase_of_ne (by have:=h1.1 y c;omega)).2 (a y (D1 _ c)));rw [List.length_erase_of_mem b] at this;have:=List.length_pos_of_mem b;simp;omega
def Arb {e:List Nd} {d:List Bool} {a:Ask} {t:Int} {after:Int} {xs:List Nat} (h:Me e (Bl (mr d a.ft)) a.nodes a.v a.aa after t xs):Ng d a (Bl xs):=by
 obtain ⟨h1,f,k⟩:=h.aj;have g:=h.len;have b:(Bl xs).length=xs.length:=by simp [Bl]
 refine ⟨fun i c=>?_,h1.bh,by rw [b];exact g⟩;have j:zi (Bl xs) i=((xs[i]'(by rw [<- b];exact c):Nat):Int):=by rw [b] at c;simp [zi,Bl,List.getD,c]
 rw [j];have:=V7.1 (f _ (Ls (by rw [<- b];exact c))).2.1;exact Bd.2 ⟨_,this,rfl⟩
def Arc {vs:List V4} {b:Int} {l:List Bool} {a:Ask} {s:Au} {U:Bw} {p q:List Nd} (m:0<=b) (c:s.id=a.id) (h:Qn b l a s.start s.dv p q) (k:Ba vs U p):Ba vs (As U (Lh (a,s))) q/\Sd vs b l a s:=by
 have f:s.start=-1->As U (Lh (a,s))=U:=fun e=>by
  have:¬ (0<=(a,s).2.start):=by show ¬ 0<=s.start;omega
  simp only [Lh,Ac this,Ob]
 rcases h with ⟨_,h1,j,rfl⟩ | ⟨o,t,xs,is,u,h1,j⟩
 .exact ⟨k.gg (f h1).symm,c,.inl ⟨h1,j⟩⟩
 .cases is with
  | false=>
   obtain ⟨d,g,rfl⟩:=h1 rfl;exact ⟨k.gg (f d).symm,c,.inl ⟨d,g⟩⟩
  | true=>
   obtain ⟨d,g,r,n⟩:=j rfl;have i:=u.found;have v:=i.ge;have x:=(i.take (k.loose) n.1).1;subst x;obtain ⟨y,z,k3⟩:=Wf k n;have hs:0<=(a,s).2.start:=(by show 0<=s.start;omega);refine ⟨y.gg ?_,c,.inr ⟨o,by omega,by rw [d];exact i.lt,by rw [g];exact Arb i,by rw [g];exact z,by rw [d];exact k3⟩⟩;simp only [Lh,Ad hs];rw [d,g]
def Ni (x:(Ask×Bool)×Au):Bw:=Lh (x.1.1,x.2)
def Afl {d:Int} {j:List Bool} {vs:List V4} {rd:List ((Ask×Bool)×Au)} (g:0<=d):∀ {U:Bw} {p q:List Nd},C2 (Nh d j) rd p q->Ba vs (As U (Fa (rd.map fun x=>Cw d x.1))) p->nn U ->
  (∀ x,x∈rd->x.1.2=true->Sc vs d j x.1.1)->Ba vs (As U (Fa (rd.map Ni))) q/\∀ x,x∈rd->Sd vs d j x.1.1 x.2:=by
 induction rd with
 | nil=>intro U p q h k _ _;cases h;exact ⟨k,fun h hh=>by cases hh⟩
 | cons x xs ih=>
  intro U p q h k u l;obtain ⟨m,⟨m',h1,n,v⟩,h3⟩:=h;obtain ⟨⟨a,b⟩,s⟩:=x
  have o:nn (Fa (xs.map fun x=>Cw d x.1)):=Zt fun y e=>by
   obtain ⟨z,hz,rfl⟩:=Bd.1 e;unfold Cw;split
   .next i=>exact T3 (O4 (l z (D1 _ hz) i).span).2.2.2
   .exact Tx
  have k':Ba vs (As (As U (Fa (xs.map fun x=>Cw d x.1))) (Cw d (a,b))) p:=k.gg (by
   show As U (As (Cw d (a,b)) (Fa (xs.map fun x=>Cw d x.1)))=_
   rw [Mj,Tw (Cw d (a,b))])
  have km:Ba vs (As U (Fa (xs.map fun x=>Cw d x.1))) m':=by
   rcases h1 with ⟨i,rfl⟩ | ⟨i,r,hg,hl⟩
   .have f:b=false:=i;subst f;exact k'.gg (by simp [Cw,Ob])
   .have f:b=true:=i;subst f;have ho:=l _ (E2 ..) rfl;exact (Afh (k'.gg (by simp [Cw])) (Tz u o) ho.aj ho.span hl hg).2
  obtain ⟨k2,s2⟩:=Arc g n v km
  have t:nn (Lh (a,s)):=by
   unfold Lh;split
   .next hge=>
    rcases s2.2 with ⟨c,_⟩ | ⟨_,_,_,_,_,c⟩
    .have h1:0<=s.start:=hge;have v:s.start=-1:=c;omega
    .exact T3 (O4 c).2.2.2
   .exact Tx
  obtain ⟨k3,s3⟩:=ih h3 (k2.gg (by rw [Mj,Tw _ (Lh (a,s)),<- Mj])) (Tz u t) (fun y e=>l y (D1 _ e));refine ⟨k3.gg (by rw [Mj];rfl),fun y e=>?_⟩;rcases Gu.1 e with rfl | e
  .exact s2
  .exact s3 y e
end Go.Proofs.YtimlcnhcjndijaaGreatDoor.Pl
namespace Go.Proofs.YtimlcnhcjndijaaGreatDoor.Pl
open Go.RowKit
def Zv (l:List (Ask×Au)):Bw:=Fa (l.map Lh)
def Ard {vs:List V4} {b:Int} {d:List Bool} {a:Ask} {s:Au} (h:Sd vs b d a s):nn (Lh (a,s)):=by
 unfold Lh;split
 .next hge=>
  rcases h.2 with ⟨c,_⟩ | ⟨_,_,_,_,_,c⟩
  .have:(a,s).2.start=s.start:=rfl;omega
  .exact T3 (O4 c).2.2.2
 .exact Tx
def Are {α β:Type} {R:α->β->β->Prop} {l r:List α} {x:α} {p q:β} (h:C2 R (l++x :: r) p q):∃ m a,C2 R l p m/\R x m a/\C2 R r a q:=by
 obtain ⟨m,h1,a,b,c⟩:=Ae5.1 h;exact ⟨m,a,h1,b,c⟩
structure Arf (vs:List V4) (now:Int) (bs:List Bool) (hs:List At) (asks:List Ask) (slots:List Au):Prop where
 lay:Qm vs bs.length now
 holds:∀ h,h∈hs->D8 vs.length h.dv/\Bj now (Mi now h) h.v=true
 len:slots.length=asks.length
 slot:∀ x,x∈asks.zip slots->Sd vs now bs x.1 x.2
 le:∀ i,i<vs.length->∀ u,0<=u->u<1099511627776->(As (Wg now hs) (Zv (asks.zip slots)) i u).leq (vv vs i)
def Arg {b:List Ask} {a:List Au} {st:List (Ask×Bool)} {rd:List ((Ask×Bool)×Au)} (h1:st.map Prod.fst=b) (c:rd.map Prod.fst=st) (d:rd.map Prod.snd=a):b.zip a=rd.map fun x=>(x.1.1,x.2):=by
 subst d c h1
 induction rd with
 | nil=>rfl
 | cons x xs ih=>simp at ih;simp [ih]
def Zw {vs:List V4} {f:Int} {o:List Bool} {p:List At} {d:List Ask} {c:List Au} (t:Kk vs f o p d c):Arf vs f o p d c:=by
 obtain ⟨ps,q1,q2,st,rd,v,z,h,hr,g,j⟩:=t.go;obtain ⟨k,k0,q⟩:=T9 v;obtain ⟨r,m⟩:=Wh z k0
 have e:st.map (Cw f)=rd.map fun x=>Cw f x.1:=by rw [<- g];simp [Du,G6]
 rw [e] at r;obtain ⟨n,s2⟩:=Afl k.lo hr r (Afk q) (fun x l hb=>m x.1 (by rw [<- g];exact Bd.2 ⟨x,l,rfl⟩) hb);have s:=Arg h g j;have eu:Fa (rd.map Ni)=Zv (d.zip c):=by rw [s];simp [Zv,Du,G6];rfl
 rw [eu] at n;refine ⟨k,q,by rw [<- j,<- h,<- g];simp,fun x l=>?_,fun i hi u a b=>n.le (by rw [n.len];exact hi) a b⟩;rw [s] at l;obtain ⟨y,hy,rfl⟩:=Bd.1 l;exact s2 y hy
end Go.Proofs.YtimlcnhcjndijaaGreatDoor.Pl
namespace Go.Proofs.YtimlcnhcjndijaaGreatDoor.Pl
open Go.RowKit
def Arh {d:List Nd} {zs:List Int} {a:Int} {v:V4} {b after t T:Int} {xs:List Nat} {is:Bool} (h:Fp d zs a v b after t xs is) (h1:1<=a) (l:1<=b) (m:v.right=true)
  (j:max after 0<=T) (f:T<1099511627776) (s:a<=(fi d zs b v T).length) (g:∀ u,max after 0<=u->u<T->((fi d zs b v u).length:Int)<a) :
  is=true/\t=T/\(xs.length:Int)=a/\∃ r,fi d zs b v T=xs++r:=by
 unfold Fp at h;rw [Ad ⟨h1,l,m⟩] at h;rcases h with ⟨n,i,o,p,⟨r,k⟩,e⟩ | ⟨_,_,_,q⟩
 .have x:a<=(fi d zs b v t).length:=by rw [k,De];omega
  have:t=T:=by
   rcases Int.lt_trichotomy t T with c | c | c
   .have:=g t i c;omega
   .exact c
   .have:=e T j c;omega
  subst this;exact ⟨n,rfl,p,r,k⟩
 .have:=q T j f;omega
end Go.Proofs.YtimlcnhcjndijaaGreatDoor.Pl
namespace Go.Proofs.YtimlcnhcjndijaaGreatDoor.Pl
open Go.RowKit
def Se {vs:List V4} {U:Bw} {p g q q':List Nd} {zs:List Int} {fr o:Int} {v:V4} {r y:Int} (h:Ba vs U p) (z:Ba vs U g) (ht:Le p zs fr o v r q) (j:Le g zs fr o v y q'):r=y:=by
 have s:g.length=p.length:=by rw [h.len,z.len]
 have hs:=Afi h z rfl;have e:(∀ i,i<p.length->Bv zs zs.length i->∀ u,fr<=u->u<o->v.leq (val (nd p i).l u))↔(∀ i,i<g.length->Bv zs zs.length i->∀ u,fr<=u->u<o->v.leq (val (nd g i).l u)):=by rw [s];exact ⟨fun k i m=>by rw [hs i m];exact k i m,fun k i m=>by rw [<- hs i m];exact k i m⟩
 rw [Le,s] at j;rw [Le] at ht;rw [s] at e
 rcases ht with ⟨a,b,_⟩ | ⟨a,b,c,d,_⟩ | ⟨a,b,c,d,_⟩<;>rcases j with ⟨f,n,_⟩ | ⟨f,n,t,x,_⟩ | ⟨f,n,t,x,_⟩
 .rw [b,n]
 .exact absurd ⟨f,n⟩ a
 .exact absurd ⟨f,n⟩ a
 .exact absurd ⟨a,b⟩ f
 .rw [d,x]
 .exact absurd (e.2 t) c
 .exact absurd ⟨a,b⟩ f
 .exact absurd (e.1 c) t
 .rw [d,x]
def Wi {a:Int} {vs:List V4} {b:List At} {p q:List Nd} {k:Nat} {h:At} (f:b[k]?=some h) (d:C2 (O3 a) b p q) (g:Ba vs l9 p):∃ m c,Ba vs (Wg a (b.take k)) m/\O2 m h.dv a (Mi a h) h.v 0 c:=by
 have e:b=b.take k++h :: b.drop (k+1):=by have:=Sw (k+1) b;rw [Ql f,Ku] at this;exact this.symm
 rw [e] at d;obtain ⟨m,c,h1,i,_⟩:=Are d;exact ⟨m,c,(Sb h1 g).1.gg (Sa _),i⟩
def Afm {α:Type} {l:List α} {i k:Nat} {x:α} (h:l[i]?=some x) (a:i<k):(l.take k)[i]?=some x:=by rw [Lq,Ad a];exact h
def Afn {α:Type} (l:List α) {i k:Nat} (a:i<=k):(l.take k).take i=l.take i:=by rw [List.take_take,Mu a]
def Ari {vs:List V4} {un:Nat} {o:Int} {hs:List At} {r r':Int} {q q':List Nd} (h:Iz vs un o hs r q) (u:Iz vs un o hs r' q'):r=r':=by
 rcases h with ⟨a,b⟩ | ⟨a,ps,hf,h⟩<;>rcases u with ⟨v,b'⟩ | ⟨v,ac,y,u⟩
 .rw [b,b']
 .exact absurd v a
 .exact absurd a v
 .have k:=Zu hf;have t:=Zu y
  rcases h with ⟨e,p⟩ | ⟨e,i,x,m,m2,z,p,hT⟩<;>rcases u with ⟨e',d⟩ | ⟨e',i',x',m',ad,f,d,g⟩
  .rw [e,e']
  .obtain ⟨n,n',h1,j⟩:=Wi f p k;have l:=(Sb d t).1.gg (Sa _);rw [e];exact Se h1 l j.1 g.1
  .obtain ⟨n,n',h1,j⟩:=Wi z d t;have l:=(Sb p k).1.gg (Sa _);rw [e'];exact Se l h1 hT.1 j.1
  .have l:=(Sb p k).1.gg (Sa _);have s:=(Sb d t).1.gg (Sa _);rcases Nat.lt_trichotomy i i' with c | c | c
   .obtain ⟨n,n',h1,j⟩:=Wi (Afm z c) d t;rw [Afn _ (Nat.le_of_lt c)] at h1;have:=Se l h1 hT.1 j.1;exact absurd this e
   .subst c;rw [z] at f;cases f;exact Se l s hT.1 g.1
   .obtain ⟨n,n',h1,j⟩:=Wi (Afm f c) p k;rw [Afn _ (Nat.le_of_lt c)] at h1;have:=Se h1 s j.1 g.1;exact absurd this.symm e'
def Arj {a:Ask} (h:a.can=true):0<a.nodes/\0<a.aa/\a.v.right=true:=by
 simp [Ask.can] at h;exact ⟨h.1.1,h.1.2,h.2⟩
def Ark {p q:List Nd} (b:q.length=p.length) (d:N8 p q) (zs:List Int) (c:Int) (v:V4) (u:Int):fi q zs c v u=fi p zs c v u:=by
 unfold fi Ii;apply List.filter_congr;intro j _;unfold Ih;by_cases a:j<p.length
 .rw [d j a,b]
 .have h1:=Aw a;have e:decide (j<q.length)=false:=Aw (by rw [b];exact a);rw [h1,e];simp
def Afo {α β:Type} {R:α->β->β->Prop} {x:α} {p m:β} (h:R x p m):C2 R [x] p m:=⟨m,h,rfl⟩
def Afp {a:Int} {b:List Bool} {vs:List V4} {x:Ask×Bool} {U:Bw} {p m:List Nd} (h:Lg a b x p m) (k:Ba vs U p):Ba vs (As U (Cw a x)) m:=by
 have:=(Wh (Afo h) k).1;exact this.gg (by simp [Fa,Ob])
def Arl {g:Int} {z:List Bool} {vs:List V4}:∀ {st c:List (Ask×Bool)} {U:Bw} {p j q t:List Nd},C2 (Lg g z) st p q->C2 (Lg g z) c j t->Ba vs U p->Ba vs U j->st.map Prod.fst=c.map Prod.fst->st=c:=by
 intro st
 induction st with
 | nil=>
  intro c U p j q t _ _ _ _ e
  cases c with
  | nil=>rfl
  | cons y ys=>simp at e
 | cons x xs ih=>
  intro c U p j q t h h' k k' e
  cases c with
  | nil=>simp at e
  | cons y ys=>
   obtain ⟨m,h1,h2⟩:=h;obtain ⟨m',i,u⟩:=h';obtain ⟨a,b⟩:=x;obtain ⟨a',b'⟩:=y;simp only [J2,List.cons.injEq] at e;obtain ⟨e1,e2⟩:=e;have v:=e1;subst v
   have hb:b=b':=by
    rcases h1 with ⟨l,d,_⟩ | ⟨l,d,n,_⟩ | ⟨l,d,r,n,c4⟩<;>rcases i with ⟨o,f,_⟩ | ⟨o,f,s,_⟩ | ⟨o,f,r',s,d4⟩
    .exact Eq.trans d (Eq.symm f)
    .exact Eq.trans d (Eq.symm s)
    .exact absurd o (by have:a.start<0:=l;show ¬ 0<=a.start;omega)
    .exact Eq.trans n (Eq.symm f)
    .exact Eq.trans n (Eq.symm s)
    .exact absurd f d
    .exact absurd l (by have:a.start<0:=o;show ¬ 0<=a.start;omega)
    .exact absurd d f
    .have hr:=Se k k' n.1 s.1;subst hr;have c5:b=true↔r=0:=c4;have d5:b'=true↔r=0:=d4;rw [Pt,c5,d5]
   subst hb;rw [ih h2 u (Afp h1 k) (Afp i k') e2]
def Au.key (s:Au):Int×Int×List Int:=(s.id,s.start,s.dv)
def Afq {a:Int} {c:List Bool} {vs:List V4} {x:(Ask×Bool)×Au} {U:Bw} {p q:List Nd} (b:0<=a) (h:Nh a c x p q) (k:Ba vs (As U (Cw a x.1)) p) (d:nn U) (e:x.1.2=true->Sc vs a c x.1.1) :
  Ba vs (As U (Ni x)) q/\Sd vs a c x.1.1 x.2:=by
 obtain ⟨h1,f⟩:=Afl (rd:=[x]) b (Afo h) (k.gg (by simp [Fa,Ob])) d (fun y g=>by
  rcases I7.1 g with rfl
  exact e)
 exact ⟨h1.gg (by simp [Fa,Ob]),f x (List.mem_singleton_self x)⟩
def Afr {a:Int} {d:List Bool} {vs:List V4} {x:Ask×Bool} {U:Bw} {p m:List Nd} (h:(x.2=false/\m=p)\/(x.2=true/\∃ r,Wd p x.1.dv (Ei a x.1) (Ei a x.1+x.1.aa) x.1.v r m)) (k:Ba vs (As U (Cw a x)) p) (e:nn U) (b:x.2=true->Sc vs a d x.1):Ba vs U m:=by
 rcases h with ⟨c,rfl⟩ | ⟨c,r,f,g⟩
 .exact k.gg (by simp [Cw,c,Ob])
 .have b:=b c;exact (Afh (k.gg (by simp [Cw,c])) e b.aj b.span g f).2
def Arm {b st c:Int} {s:List Bool} {vs:List V4} {a:Ask} {zs d:List Int} {U:Bw} {p f q x:List Nd} (h:Qn b s a st zs p q) (y:Qn b s a c d f x) (k:Ba vs U p) (v:Ba vs U f):st=c/\zs=d:=by
 have z:f.length=p.length:=by rw [k.len,v.len]
 rcases h with ⟨g,i,j,_⟩ | ⟨g,t,xs,is,i,j,c4⟩<;>rcases y with ⟨e,l,m,_⟩ | ⟨e,t',ac,n,l,m,d4⟩
 .exact ⟨i.trans l.symm,j.trans m.symm⟩
 .rw [g] at e;cases e
 .rw [g] at e;cases e
 .obtain ⟨e1,e2,e3⟩:=i.same l (fun u=>Ark z (Afi k v rfl) _ _ _ u);subst e1 e2 e3
  cases n with
  | false=>obtain ⟨a1,a2,_⟩:=j rfl;obtain ⟨o,r,_⟩:=m rfl;exact ⟨a1.trans o.symm,a2.trans r.symm⟩
  | true=>obtain ⟨a1,a2,_⟩:=c4 rfl;obtain ⟨o,r,_⟩:=d4 rfl;exact ⟨a1.trans o.symm,a2.trans r.symm⟩
def Arn {x y:(Ask×Bool)×Au} (h:x.1=y.1) (k:x.2.key=y.2.key):Ni x=Ni y:=by
 obtain ⟨a,s⟩:=x;obtain ⟨b,t⟩:=y;have c:a=b:=h;subst c;simp only [Au.key,Pu] at k;simp [Ni,Lh,k.2.1,k.2.2]
def Aro {a:Int} {t:List Bool} {vs:List V4} (f:0<=a):∀ {rd b:List ((Ask×Bool)×Au)} {U:Bw} {p i q v:List Nd},C2 (Nh a t) rd p q->C2 (Nh a t) b i v ->
  Ba vs (As U (Fa (rd.map fun x=>Cw a x.1))) p->Ba vs (As U (Fa (rd.map fun x=>Cw a x.1))) i->nn U->(∀ x,x∈rd->x.1.2=true->Sc vs a t x.1.1)->rd.map Prod.fst=b.map Prod.fst->rd.map (fun x=>x.2.key)=b.map (fun x=>x.2.key):=by
 intro rd
 induction rd with
 | nil=>
  intro b U p i q v _ _ _ _ _ _ e
  cases b with
  | nil=>rfl
  | cons y ys=>simp at e
 | cons x xs ih=>
  intro b U p i q v h h' k k' hn ho e
  cases b with
  | nil=>simp at e
  | cons y ys=>
   simp only [J2,List.cons.injEq] at e;obtain ⟨g,e2⟩:=e;obtain ⟨m,h1,h2⟩:=h;obtain ⟨m',j,ac⟩:=h'
   have hV:nn (Fa (xs.map fun x=>Cw a x.1)):=Zt fun z hz=>by
    obtain ⟨u,hu,rfl⟩:=Bd.1 hz;unfold Cw;split
    .next hb=>exact T3 (O4 (ho u (D1 _ hu) hb).span).2.2.2
    .exact Tx
   have l:∀ (A B C:Bw),As A (As B C)=As (As A C) B:=fun A B C=>by rw [Tw B C,Mj]
   have kp:Ba vs (As (As U (Fa (xs.map fun x=>Cw a x.1))) (Cw a x.1)) p:=k.gg (l _ _ _);have o:Ba vs (As (As U (Fa (xs.map fun x=>Cw a x.1))) (Cw a x.1)) i:=k'.gg (l _ _ _);have c:=ho x (E2 ..);have d:=Tz hn hV;obtain ⟨a1,a2⟩:=Afq f h1 kp d c;obtain ⟨b1,b2⟩:=Afq f j (by rw [<- g];exact o) d (by rw [<- g];exact c);have hk:x.2.key=y.2.key:=(by obtain ⟨n,g1,g2,g3⟩:=h1;obtain ⟨n',ad,r,s⟩:=j;have kn:=Afr g1 kp d c;have al:=Afr ad (by rw [<- g];exact o) d (by rw [<- g];exact c);rw [<- g] at s r;obtain ⟨f1,f2⟩:=Arm g3 s kn al;simp only [Au.key,Pu];exact ⟨g2.trans r.symm,f1,f2⟩);have am:nn (Ni x):=Ard a2;rw [J2,J2,hk];refine Ca _ (ih h2 ac (U:=As U (Ni x)) (a1.gg ?_) (b1.gg ?_) (Tz hn am) (fun z hz=>ho z (D1 _ hz)) e2)
   .rw [Mj,Tw _ (Ni x),<- Mj]
   .rw [<- Arn g hk,Mj,Tw _ (Ni x),<- Mj]
def Arp {vs:List V4} {a:Int} {m:List Bool} {n:List At} {b:List Ask} {o p:List Au} (h1:Kk vs a m n b o) (t:Kk vs a m n b p):o.map Au.key=p.map Au.key:=by
 obtain ⟨ps,q1,q2,st,rd,u,q,v,y,e,z⟩:=h1.go;obtain ⟨ac,ad,al,am,an,f,c,g,h,i,j⟩:=t.go;obtain ⟨ok,r,hh⟩:=T9 u;obtain ⟨_,d,_⟩:=T9 f;have k:=Arl q c r d (v.trans g.symm);subst k;obtain ⟨k2,ho⟩:=Wh q r;obtain ⟨l,_⟩:=Wh c d;have s:(rd.map fun x=>Cw a x.1)=st.map (Cw a):=by rw [<- e,Du];rfl
 have:=Aro ok.lo y h (by rw [s];exact k2) (by rw [s];exact l) (Afk hh) (fun x hx=>ho x.1 (by rw [<- e];exact Ks hx)) (e.trans i.symm);rw [<- z,<- j,Du,Du];exact this
def Ask.er (a:Ask):Ask:={ a with po:=none,pn:=0,pc:=0,go:=none,gn:=0,gc:=0 }
def At.er (h:At):At:={ h with go:=none,gn:=0,gc:=0 }
def Au.er (s:Au):Au:={ s with go:=Option.none,gn:=0,gc:=0 }
def Wj {α γ β:Type} {R:α->β->β->Prop} {S:γ->β->β->Prop} {f:α->γ} (a:∀ x p q,R x p q->S (f x) p q) {xs:List α}:∀ {p q:β},C2 R xs p q->C2 S (xs.map f) p q:=by
 induction xs with
 | nil=>intro p q h;exact h
 | cons x xs ih=>intro p q ⟨m,h1,b⟩;exact ⟨m,a _ _ _ h1,ih b⟩
def Arq {b:List Bool} {a:Ask} {zs:List Int}:Ng b a zs↔Ng b a.er zs:=⟨fun h=>⟨h.uh,h.bh,h.len⟩,fun h=>⟨h.uh,h.bh,h.len⟩⟩
def Afs {c:List Bool} {b start:Int} {a:Ask} {zs:List Int}:Mg c b a start zs↔Mg c b a.er start zs:=by
 unfold Mg;rw [Arq];exact Iff.rfl
def Arr {a:Int} {e:List Bool} (x:Ask×Bool) (p q:List Nd) (h:Lg a e x p q):Lg a e (x.1.er,x.2) p q:=by
 rcases h with h | ⟨h1,b,d⟩ | ⟨h1,b,d⟩
 .exact .inl h
 .exact .inr (.inl ⟨h1,fun c=>b (Afs.2 c),d⟩)
 .exact .inr (.inr ⟨h1,Afs.1 b,d⟩)
def Ars {a:Int} {b:List Bool} (x:(Ask×Bool)×Au) (p q:List Nd) (h:Nh a b x p q):Nh a b ((x.1.1.er,x.1.2),x.2.er) p q:=h
def Zx {vs:List V4} {c:Nat} {a:Int} {d:List At} {r:Int} {q:List Nd} (h:Iz vs c a d r q):Iz vs c a (d.map At.er) r q:=by
 rcases h with h | ⟨ok,b,e,h | ⟨g,k,x,m,i,j,l,n⟩⟩
 .exact .inl h
 .exact .inr ⟨ok,b,e,.inl ⟨h.1,Wj (S:=O3 a) (f:=At.er) (fun _ _ _ h=>h) h.2⟩⟩
 .exact .inr ⟨ok,b,e,.inr ⟨g,k,x.er,m,i,by simp [j],by rw [<- List.map_take];exact Wj (S:=O3 a) (f:=At.er) (fun _ _ _ h=>h) l,n⟩⟩
def Aft {vs:List V4} {c:Int} {d:List Bool} {e:List At} {b:List Ask} {a:List Au} (h:Kk vs c d e b a):Kk vs c d (e.map At.er) (b.map Ask.er) (a.map Au.er):=by
 obtain ⟨f,g,i,st,rd,j,k,l,m,n,o⟩:=h.go;refine ⟨f,g,i,st.map fun x=>(x.1.er,x.2),rd.map fun x=>((x.1.1.er,x.1.2),x.2.er),Zx j,Wj Arr k,?_,Wj Ars m,?_,?_⟩
 .rw [<- l,Du,Du];rfl
 .rw [<- n,Du,Du];rfl
 .rw [<- o,Du,Du];rfl
end Go.Proofs.YtimlcnhcjndijaaGreatDoor.Pl
