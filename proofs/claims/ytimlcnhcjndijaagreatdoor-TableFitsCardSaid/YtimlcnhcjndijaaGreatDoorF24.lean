/- Parts of a proof. No condition. -/
import Derived.Test.YtimlcnhcjndijaaGreatDoorF23
set_option linter.all false
set_option maxRecDepth 100000
set_option maxHeartbeats 12800000
namespace Go.Proofs.YtimlcnhcjndijaaGreatDoor
open Go renaming World->WD,Value->VL
open Go.RowKit renaming Below->BW
open Go.Proofs.Tryz
namespace Pl
open Go.RowKit
variable{after now t u:Int}{bs:List Bool}{zs:List Int}{vs:List V4}{sz uc un:Nat}{po uo:Option Addr}{α β:Type}{w w' wr:WD}
structure Mk {α:Type} (cells:α->Array VL) (sz:Nat) (ok:WD->α->Prop) (w:WD) (ao:Option Addr) (n:Nat) (xs:List α):Prop where
 len:xs.length=n
 max:n<=9223372036854775807
 cell:∀ i x,xs[i]?=some x->∃ b off,ao=some ⟨b,off,none⟩/\b<w.heap.size/\(∀ j,j<sz->w.cell? ⟨b,off+i*sz+j,none⟩=(cells x)[j]?)/\ok w x
def Mk.below  {cells:α->Array VL}  {ok:WD->α->Prop}  {f:Option Addr} {n:Nat} {xs:List α} (h:Mk cells sz ok w f n xs)
  (g:BW w.heap.size w w') (c:∀ x,ok w x->ok w' x):Mk cells sz ok w' f n xs:=
 ⟨h.len,h.max,fun i x o=>by
  obtain ⟨b,d,e,a,k,m⟩:=h.cell i x o
  exact ⟨b,d,e,Bx a g.size,fun j l=>(Ag g a).trans (k j l),c x m⟩⟩
def Mk.get  {cells:α->Array VL}  {ok:WD->α->Prop}  {a:Option Addr} {n:Nat} {xs:List α} (h:Mk cells sz ok w a n xs) {k:Nat} (b:k<n):∃ x,xs[k]?=some x:=
 ⟨xs[k]'(by rw [h.len];exact b),A4 _⟩
structure Ay where
 go:Option Addr
 gn:Nat
 gc:Nat
 dq:List Int
 v:V4
 nu:Int
abbrev Ay.cells (h:Ay):Array VL:=#[.slice h.go h.gn h.gc,.int .i64 h.v.a,.int .i64 h.v.b,.int .i64 h.v.c,.int .i64 h.v.d,.int .i64 h.nu]
def Ay.obj (h:Ay):Obj:=.cells h.cells 261 (0,0)
structure Ay.ok (w:WD) (h:Ay):Prop where
 ak:Ar w h.go h.gn h.dq
 om:h.gn<=h.gc
def Ay.ok.below  {h:Ay} (a:h.ok w) (b:BW w.heap.size w w'):h.ok w':=⟨a.ak.below b Ln,a.om⟩
def As2  {b:Nat} {h:Ay} (e:w.heap[b]?=some h.obj):w.cell? ⟨b,0,none⟩=some (.slice h.go h.gn h.gc)/\w.cell? ⟨b,1,none⟩=some (.int .i64 h.v.a)/\w.cell? ⟨b,2,none⟩=some (.int .i64 h.v.b) /\
  w.cell? ⟨b,3,none⟩=some (.int .i64 h.v.c)/\w.cell? ⟨b,4,none⟩=some (.int .i64 h.v.d)/\w.cell? ⟨b,5,none⟩=some (.int .i64 h.nu):=
 ⟨Aa e 0,Aa e 1,Aa e 2,Aa e 3,Aa e 4,Aa e 5⟩
abbrev Xi:=Mk Ay.cells 6 Ay.ok
def T9 {w g:WD} {a:Option Addr} {n:Nat}  {f:List Nd} (h:Ar w a n zs) (o:w.heap.size<=g.heap.size) (k:∀ b,Bd f b->g.heap.size<=b):0<n->ug a (Bd f):=fun h0 b l e i=>by
 obtain ⟨m,d,c,j,_⟩:=h.cell 0 h0;rw [e] at c;cases c;have:=k b i;omega
def C6 {α β:Type} (R:α->β->β->Prop):List α->β->β->Prop
 | [],p,q=>q=p
 | x :: xs,p,q=>∃ m,R x p m/\C6 R xs m q
def Ahe  {R:α->β->β->Prop} {xs ys:List α} {p q:β}:C6 R (xs++ys) p q↔∃ m,C6 R xs p m/\C6 R ys m q:=by
 induction xs generalizing p with
 | nil=>exact ⟨fun h=>⟨p,rfl,h⟩,fun ⟨m,e,h⟩=>by cases e;exact h⟩
 | cons x xs ih=>
  constructor
  .rintro ⟨m,h1,d⟩;obtain ⟨c,a,b⟩:=ih.1 d;exact ⟨c,⟨m,h1,a⟩,b⟩
  .rintro ⟨c,⟨m,h1,a⟩,b⟩;exact ⟨m,h1,ih.2 ⟨c,a,b⟩⟩
def Xj  {R:α->β->β->Prop} {xs:List α} {x:α} {p m q:β} (h:C6 R xs p m) (a:R x m q):C6 R (xs++[x]) p q:=Ahe.2 ⟨m,h,q,a,rfl⟩
def Qs  {xs:List α} {k:Nat} {x:α} (h:xs[k]?=some x):xs.take (k+1)=xs.take k++[x]:=by
 rw [Ov,h];rfl
structure Sg (ps q:List Nd):Prop where
 len:q.length=ps.length
 whole:∀ i,i<ps.length->(nd q i).whole=(nd ps i).whole
 inv:∀ i,i<q.length->Inv (nd q i).whole (nd q i).l
def Ua  {b c cap:Nat}  {a q:List Nd} (h:gz w a q) (d:Bz w' b c po cap q):Sg a q:=⟨h.len,h.whole,d.inv⟩
def Pf (ps:List Nd) (zs:List Int) (fr tt:Int) (v:V4) (r:Int) (q:List Nd):Prop:=Lh ps zs fr tt v r q/\Sg ps q
def Xk (ps:List Nd) (zs:List Int) (fr tt:Int) (v:V4) (r:Int) (q:List Nd):Prop:=Xg ps zs fr tt v r q/\Sg ps q
def Ml (now:Int) (h:Ay):Int:=max h.nu (now+1)
def Pg (now:Int) (h:Ay) (ps q:List Nd):Prop:=Pf ps h.dq now (Ml now h) h.v 0 q
structure Qt (vs:List V4) (un:Nat) (now:Int):Prop where
 ml:vs.length<=16
 right:∀ i,i<vs.length->(vv vs i).right=true
 up:un=vs.length
 lo:0<=now
 hi:now<1099511627776
structure Aa8 (vs:List V4) (ps:List Nd):Prop where
 len:ps.length=vs.length
 node:∀ i,i<vs.length->(nd ps i).whole=vv vs i/\(nd ps i).l=[⟨0,vv vs i⟩]
 inv:∀ i,i<ps.length->Inv (nd ps i).whole (nd ps i).l
def Jc (vs:List V4) (un:Nat) (now:Int) (hs:List Ay) (r:Int) (q:List Nd):Prop:=
 (¬ Qt vs un now/\r=1)\/(Qt vs un now/\∃ ps0,Aa8 vs ps0/\((r=0/\C6 (Pg now) hs ps0 q) \/
  (r≠0/\∃ k h m q',hs[k]?=some h/\C6 (Pg now) (hs.take k) ps0 m/\Pf m h.dq now (Ml now h) h.v r q')))
def Ahf (vs:List V4) (uo:Option Addr) (un uc:Nat) (bs:List Bool) (now:Int) (hs:List Ay) (w:WD) (e:Ending) (w':WD):Prop:=
 BW w.heap.size w w'/\((∃ r,r≠0/\e=.returned (.tuple #[.pointer none,.int .i64 r])/\Jc vs un now hs r []) \/
  (∃ tb gb gs cap po q,e=.returned (.tuple #[.pointer (some ⟨tb,0,none⟩),.int .i64 0])/\Bz w' gb gs po cap q/\qx w' tb gb uo un uc bs now/\(∀ b,Bd q b->w.heap.size<=b)/\Jc vs un now hs 0 q))
structure kz (w:WD) (tb gb gs cap:Nat) (po uo:Option Addr) (un uc:Nat) (bs:List Bool) (now:Int) (q:List Nd) (wr:WD):Prop where
 low:BW w.heap.size w wr
 dm:Bz wr gb gs po cap q
 tab:qx wr tb gb uo un uc bs now
 fh:∀ b,Bd q b->w.heap.size<=b
def kz.below  {e c d cap:Nat} {po i:Option Addr} {g f:Nat} {b:List Bool}  {q:List Nd}  (h:kz w e c d cap po i g f b now q wr) (a:BW wr.heap.size wr w'):kz w e c d cap po i g f b now q w':=
 ⟨h.low.trans (a.mono h.low.size),h.dm.below a,h.tab.below a,h.fh⟩
def kz.mod  {r j k cap:Nat} {po o:Option Addr} {n s:Nat} {p:List Bool}  {q m:List Nd}  (h:kz w r j k cap po o n s p now q wr) (l:0<n->∀ b d,o=some ⟨b,d,none⟩->b<w.heap.size) (y:Bz w' j k po cap m) (x:gz wr q m) (g:Mod (Bd q) wr w'):kz w r j k cap po o n s p now m w':=
 ⟨Asn h.low g h.fh h.low.size,y,⟨(g.block _ (Ab h.tab.head) (J2 h.dm h.tab.head (by decide) (by decide))).trans h.tab.head,h.tab.up.len,h.tab.up.max,fun i v=>by
  obtain ⟨b,d,e,f,u⟩:=h.tab.up.cell i v;have z:=l (by omega) b d e
  exact ⟨b,d,e,Bx f g.size,(Bp (a:=⟨b,d+i,none⟩) (w:=wr) (g.block b f (fun c=>by have:=h.fh b c;omega))).trans u⟩⟩, fun b t=>by
  rcases x.fh t with c | c
  .exact h.fh b c
  .exact A5 h.low.size c⟩
def Mi.lt  {d:Option Addr} {n:Nat} {i:List Bool} (h:Mi w d n i) (h0:0<n):∀ b a,d=some ⟨b,a,none⟩->b<w.heap.size:=fun b a e=>by
 obtain ⟨j,g,f,c,_⟩:=h.cell 0 h0;rw [e] at f;cases f;exact c
def As3 (vo uo ho:Option Addr) (n c z uc m mc:Nat) (vs:List V4) (bs:List Bool) (now:Int) (hs:List Ay) (w:WD) (hv:Oe w vo n vs) (hu:Mi w uo z bs) (hh:Xi w ho m hs) :
  Calls prog 185 #[.slice vo n c,.slice uo z uc,.int .i64 now,.slice ho m mc] w (Ahf vs uo z uc bs now hs w):=by
 have t:=hv.len;have aV:=hh.max;have aO:=fun h0=>hu.lt h0;replace ⟨hv,hu,hh,t,aO⟩:=H5 hv hu hh t aO;go_enter func185,ntmps185;go_wp2_with fail;refine (Ast vo n c vs w hv.out).mono ?_;rintro e w1 (⟨aL,rfl,p⟩ | ⟨aP,y,gb,gs,po,cap,ps,rfl,aS,u,g,r,f,p⟩)
 .have l:BW w.heap.size w (w1.alloc (.cells #[.pointer none,.slice uo z uc,.int .i64 now] 270 (0,0))):=p.alloc p.size _;have hrel:Jc vs z now hs 1 []:=.inl ⟨fun h=>aL ⟨by rw [<- t.out];exact h.ml,fun i hi=>h.right i (by rw [t.out];exact hi)⟩,rfl⟩;replace ⟨aL,p,l,hrel⟩:=H4 aL p l hrel;go_wp2;go_ret2;exact ⟨l.out,.inl ⟨1,by decide,rfl,hrel.out⟩⟩
 have l:BW w.heap.size w (w1.alloc (.cells #[.pointer (some ⟨gb,0,none⟩),.slice uo z uc,.int .i64 now] 270 (0,0))):=p.alloc p.size _
 have aB:Hid (¬ Qt vs z now->Ahf vs uo z uc bs now hs w (.returned (.tuple #[.pointer none,.int .i64 1])) (w1.alloc (.cells #[.pointer (some ⟨gb,0,none⟩),.slice uo z uc,.int .i64 now] 270 (0,0)))):=
  fun h=>⟨l,.inl ⟨1,by decide,rfl,.inl ⟨h,rfl⟩⟩⟩
 by_cases q1:z=n;rotate_left
 .have d1:((z:Int) != (n:Int))=true:=by simp;omega
  have j:=aB (fun h=>q1 (h.up.trans t.out));replace ⟨q1,j,p,l,u,r,f,y⟩:=H8 q1 j p l u r f y;replace g:=Hh g;go_wp2;go_ret2;exact j.out
 have d1:((z:Int) != (n:Int))=false:=by simp;omega
 by_cases q2:now<0
 .have d2:decide (now<0)=true:=by simpa using q2
  have j:=aB (fun h=>by have:=h.lo;omega);replace ⟨q1,q2,j,p,l,u,r,f⟩:=H8 q1 q2 j p l u r f;replace ⟨y,g⟩:=H2 y g;go_wp2;go_ret2;exact j.out
 have d2:decide (now<0)=false:=by simpa using q2
 by_cases q3:1099511627776<=now
 .have d3:decide (1099511627776<=now)=true:=by simpa using q3
  have j:=aB (fun h=>by have:=h.hi;omega);replace ⟨q1,q2,q3,j,p,l,u,r⟩:=H8 q1 q2 q3 j p l u r;replace ⟨f,y,g⟩:=H3 f y g;go_wp2;go_ret2;exact j.out
 have d3:decide (1099511627776<=now)=false:=by simpa using q3
 have aF:Qt vs z now:=⟨by rw [t.out];exact aP,fun i hi=>y i (by rw [<- t.out];exact hi),q1.trans t.symm,by omega,by omega⟩;have aD:Aa8 vs ps:=⟨g.trans t.symm,fun i hi=>r i (by rw [<- t.out];exact hi),u.inv⟩
 have aJ:kz w w1.heap.size gb gs cap po uo z uc bs now ps (w1.alloc (.cells #[.pointer (some ⟨gb,0,none⟩),.slice uo z uc,.int .i64 now] 270 (0,0))):=
  ⟨l,u.below Bn,⟨Ah _ _,hu.below l Ln⟩,f⟩
 have ew:IntKind.i64.wrap (now+1)=now+1:=E9 _ (by omega);clear aS aB;replace ⟨q1,q2,q3,p,l,u,r,f⟩:=H8 q1 q2 q3 p l u r f;replace ⟨y,g,aF,aD,aJ⟩:=H5 y g aF aD aJ;go_wp2;go_loopw [12,13,42] (fun _ _ i wr=>∃ (k:Nat) (q:List Nd),i=.int .i64 k/\k<=m/\Hid (kz w w1.heap.size gb gs cap po uo z uc bs now q wr)/\Hid (C6 (Pg now) (hs.take k) ps q)) (fun _ _ i _=>m-(intOf i).toNat)
 case atStart=>exact ⟨0,ps,rfl,Aq _,aJ.out,rfl⟩
 case round=>
  obtain ⟨k,q,rfl,hk,hL,hC⟩:=hrel;by_cases hc:k<m
  .have aR:(k:Int)<m:=(by omega);have aW:(0:Int)<=(k:Int):=(by omega);obtain ⟨x,hx⟩:=hh.get hc;obtain ⟨b,aY,rfl,hb,a0,aA⟩:=hh.cell k x hx;have c0:=(Ag hL.low hb).trans (a0 0 (by omega));have c1:=(Ag hL.low hb).trans (a0 1 (by omega));have c2:=(Ag hL.low hb).trans (a0 2 (by omega));have c3:=(Ag hL.low hb).trans (a0 3 (by omega));have c4:=(Ag hL.low hb).trans (a0 4 (by omega));have c5:=(Ag hL.low hb).trans (a0 5 (by omega));simp at c0 c1 c2 c3 c4 c5;clear a0;obtain ⟨T,hT⟩:=Ex (Ml now x);have aX:(if x.nu<now+1 then now+1 else x.nu)=T:=(by rw [hT];unfold Ml;omega);have s:kz w w1.heap.size gb gs cap po uo z uc bs now q (wr.alloc x.obj):=hL.below Bn;obtain ⟨WA,ao⟩:=Ex (wr.alloc x.obj);rw [<- ao] at s;have ac:WA.heap[wr.heap.size]?=some x.obj:=by rw [ao];exact Ah _ _
   have aM:=
    fun W' h=>Aa3 gb gs cap po q x.go x.gn x.gc x.dq now T x.v W' (s.dm.below h) (aA.ak.below (s.low.trans (h.mono s.low.size)) Ln) (T9 aA.ak Ln s.fh) aA.om
   have t0:=Aa s.tab.head 0;simp at t0;have lt:=Ab s.tab.head;obtain ⟨y0,y1,y2,y3,y4,y5⟩:=As2 ac;have lx:=Ab ac;have aN:=J2 s.dm s.tab.head (by decide) (by decide);have ad:=J2 s.dm ac (by decide) (by decide);have aC:BW WA.heap.size WA WA.drew:=(Below.refl _ _).drew;replace ⟨hx,aA,hT,s,ac,aM,aN,ad⟩:=H8 hx aA hT s ac aM aN ad;replace aC:=Hh aC
   have aQ:Hid (∀ w':WD,(∀ b,b<WA.heap.size->¬ Bd q b->∀ o,w'.cell? ⟨b,o,none⟩=WA.cell? ⟨b,o,none⟩)->w'.cell? ⟨w1.heap.size,0,none⟩=some (.pointer (some ⟨gb,0,none⟩))/\w'.cell? ⟨wr.heap.size,0,none⟩=some (.slice x.go x.gn x.gc)/\w'.cell? ⟨wr.heap.size,1,none⟩=some (.int .i64 x.v.a)/\w'.cell? ⟨wr.heap.size,2,none⟩=some (.int .i64 x.v.b)/\w'.cell? ⟨wr.heap.size,3,none⟩=some (.int .i64 x.v.c)/\w'.cell? ⟨wr.heap.size,4,none⟩=some (.int .i64 x.v.d)/\w'.cell? ⟨wr.heap.size,5,none⟩=some (.int .i64 x.nu)):=
    fun w' h=>⟨(h _ lt aN.out _).trans t0,(h _ lx ad.out _).trans y0,(h _ lx ad.out _).trans y1,(h _ lx ad.out _).trans y2,(h _ lx ad.out _).trans y3,(h _ lx ad.out _).trans y4,(h _ lx ad.out _).trans y5⟩
   go_wp2_with fail;have ap:wr.alloc (.cells x.cells 261 (0,0))=WA:=ao.symm
   try rw [ap]
   replace ⟨ao,ap⟩:=H2 ao ap;clear c0 c1 c2 c3 c4 c5;go_region_held3 (fun w'=>w'.cell? ⟨w1.heap.size,0,none⟩=some (.pointer (some ⟨gb,0,none⟩))/\w'.cell? ⟨wr.heap.size,0,none⟩=some (.slice x.go x.gn x.gc)/\w'.cell? ⟨wr.heap.size,1,none⟩=some (.int .i64 x.v.a)/\w'.cell? ⟨wr.heap.size,2,none⟩=some (.int .i64 x.v.b)/\w'.cell? ⟨wr.heap.size,3,none⟩=some (.int .i64 x.v.c)/\w'.cell? ⟨wr.heap.size,4,none⟩=some (.int .i64 x.v.d)/\w'.cell? ⟨wr.heap.size,5,none⟩=some (.int .i64 x.nu))
    (first
      | (go_keep;done)
      | with_reducible exact aQ.out _ aT.out)
    (first
      | (go_at_call 236;refine (aM _ aC.out).mono ?_;rintro e w8 ⟨r8,aH,rfl,aK,aG,aE,am⟩;have aT:Hid (∀ b,b<WA.heap.size->¬ Bd q b->∀ o,w8.cell? ⟨b,o,none⟩=WA.cell? ⟨b,o,none⟩):=fun b hb hn o=>Bp (a:=⟨b,o,none⟩) (w:=WA) (am.block b hb hn)
         replace ⟨aK,aG,aE,am⟩:=H4 aK aG aE am))
   have an:=(s.below aC.out).mod aO.out aG.out aE.out am.out;have al:Pf q x.dq now (Ml now x) x.v r8 aH:=⟨by rw [<- hT.out];exact aK.out,Ua aE.out aG.out⟩;by_cases q5:r8=0
   .have d5:(r8 != 0)=false:=(by simpa using q5);have aI:C6 (Pg now) (hs.take (k+1)) ps aH:=(by rw [Qs hx.out];exact Xj hC.out (by rw [q5] at al;exact al));replace ⟨q5,al,an,aI⟩:=H4 q5 al an aI;clear t0 lt y0 y1 y2 y3 y4 y5 lx;go_wp2;go_roundw
    case rel=>exact ⟨k+1,aH,by go_num,by omega,an.out,aI.out⟩
    case measure=>simp [intOf];omega
   .have d5:(r8 != 0)=true:=(by simpa using q5);have hrel:Jc vs z now hs r8 []:=.inr ⟨aF.out,ps,aD.out,.inr ⟨q5,k,x,q,aH,hx.out,hC.out,al⟩⟩;have av:=an.low;have aU:=Hh q5;clear q5;replace ⟨al,an,hrel,av⟩:=H4 al an hrel av;clear t0 lt y0 y1 y2 y3 y4 y5 lx;go_wp2;go_ret2;exact ⟨av.out,.inl ⟨r8,aU.out,rfl,hrel.out⟩⟩
  .have aR:¬ (k:Int)<m:=(by omega);have hrel:Jc vs z now hs 0 q:=.inr ⟨aF.out,ps,aD.out,.inl ⟨rfl,by have h:=hC.out;rwa [C8 (by rw [hh.len];omega)] at h⟩⟩;replace hrel:=Hh hrel;go_wp2;go_ret2;exact ⟨hL.low,.inr ⟨w1.heap.size,gb,gs,cap,po,q,rfl,hL.dm,hL.tab,hL.fh,hrel.out⟩⟩
def Ask.ok.j4  {a:Ask} (h:a.ok w) (b:BW w.heap.size w w'):a.ok w':=h.below b Ln
abbrev Xl:=Mk Ask.cells 10 (fun w a=>Ask.ok w a)
structure Az where
 id:Int
 start:Int
 go:Option Addr
 gn:Nat
 gc:Nat
 dq:List Int
abbrev Az.cells (s:Az):Array VL:=#[.int .i64 s.id,.int .i64 s.start,.slice s.go s.gn s.gc]
structure Az.ok (w:WD) (s:Az):Prop where
 ak:Ar w s.go s.gn s.dq
 om:s.gn<=s.gc
def Az.ok.below  {s:Az} (h:s.ok w) (a:BW w.heap.size w w'):s.ok w':=⟨h.ak.below a Ln,h.om⟩
abbrev Ub:=Mk Az.cells 3 (fun w s=>Az.ok w s)
def Em (now:Int) (a:Ask):Int:=max a.start now
def Li (now:Int) (bs:List Bool) (x:Ask×Bool) (ps q:List Nd):Prop:=
 (x.1.start<0/\x.2=false/\q=ps) \/
 (0<=x.1.start/\¬ Mj bs now x.1 (Em now x.1) x.1.dq/\x.2=false/\q=ps) \/
 (0<=x.1.start/\Mj bs now x.1 (Em now x.1) x.1.dq/\∃ r,Pf ps x.1.dq (Em now x.1) (Nf (Em now x.1) x.1.aa) x.1.v r q/\(x.2=true↔r=0))
def Qu (now:Int) (bs:List Bool) (a:Ask) (st:Int) (zs:List Int) (ps q:List Nd):Prop:=
 (a.can=false/\st=-1/\zs=[]/\q=ps) \/
 (a.can=true/\∃ t xs is,Fz ps (Bj (ni bs a.gl)) a.nodes a.v a.aa now t xs is/\(is=false->st=-1/\zs=[]/\q=ps)/\(is=true->st=t/\zs=Bj xs/\∃ r,Pf ps (Bj xs) t (t+a.aa) a.v r q))
def Ni (now:Int) (bs:List Bool) (x:(Ask×Bool)×Az) (ps q:List Nd):Prop:=
 ∃ m,((x.1.2=false/\m=ps)\/(x.1.2=true/\∃ r,Xk ps x.1.1.dq (Em now x.1.1) (Em now x.1.1+x.1.1.aa) x.1.1.v r m))/\x.2.id=x.1.1.id/\Qu now bs x.1.1 x.2.start x.2.dq m q
structure Lj (vs:List V4) (now:Int) (bs:List Bool) (hs:List Ay) (asks:List Ask) (slots:List Az):Prop where
 go:∃ ps q1 q2 st rd,Jc vs bs.length now hs 0 ps/\C6 (Li now bs) st ps q1/\st.map Prod.fst=asks/\C6 (Ni now bs) rd q1 q2/\rd.map Prod.fst=st/\rd.map Prod.snd=slots
def Ahg (vs:List V4) (now:Int) (bs:List Bool) (hs:List Ay) (asks:List Ask) (w:WD) (e:Ending) (w':WD):Prop:=
 BW w.heap.size w w'/\((∃ r,r≠0/\e=.returned (.tuple #[.slice none 0 0,.int .i64 r])/\Jc vs bs.length now hs r []) \/
  (∃ so sc slots,e=.returned (.tuple #[.slice so asks.length sc,.int .i64 0])/\Lj vs now bs hs asks slots/\Ub w' so asks.length slots/\asks.length<=sc/\(∀ b off,so=some ⟨b,off,none⟩->w.heap.size<=b)/\∀ s,s∈slots->∀ b off,s.go=some ⟨b,off,none⟩->w.heap.size<=b))
def As4  {R:α->β->β->Prop} {xs:List α} {p q:β} (h:C6 R xs p q) {x:α} (a:x∈xs):∃ c d,R x c d:=by
 induction xs generalizing p with
 | nil=>cases a
 | cons y ys ih=>
  obtain ⟨m,h1,b⟩:=h;rcases Gf.1 a with rfl | a
  .exact ⟨p,m,h1⟩
  .exact ih b a
def As5 {fr a:Int} {v:V4} (h:Bi fr (Nf fr a) v=true):Nf fr a=fr+a/\0<=fr/\fr<fr+a/\fr+a<=1099511627776:=by
 obtain ⟨c,d,b,e⟩:=Me h;unfold Nf at *
 split at b<;>simp_all<;>omega
def Ahh  {g:List Bool} {a:Ask} {f q:List Nd} (h:Li now g (a,true) f q):Mj g now a (Em now a) a.dq/\Dv f.length a.dq/\Bi (Em now a) (Em now a+a.aa) a.v=true /\
  Pf f a.dq (Em now a) (Em now a+a.aa) a.v 0 q:=by
 rcases h with ⟨_,h,_⟩ | ⟨_,_,h,_⟩ | ⟨_,h1,r,i,k⟩
 .cases h
 .cases h
 .have l:=k.1 rfl;subst l;have b:=i;rcases i.1 with ⟨_,c,_⟩ | ⟨_,_,_,c,_⟩ | ⟨j,d,_⟩
  .cases c
  .cases c
  .have e:=(As5 d).1;rw [e] at d b;exact ⟨h1,j,d,b⟩
def Au  (cells:α->Array VL) (xs:List α):List VL:=xs.flatMap fun x=>(cells x).toList
def N0  (cells:α->Array VL) (xs ys:List α):Au cells (xs++ys)=Au cells xs++Au cells ys:=by simp [Au]
def P7  (cells:α->Array VL) (x:α):Au cells [x]=(cells x).toList:=by simp [Au]
def F2  {cells:α->Array VL}  (a:∀ x,(cells x).size=sz) (xs:List α) {i j:Nat} {x:α} (b:xs[i]?=some x) (f:j<sz):(Au cells xs)[i*sz+j]?=(cells x)[j]?:=by
 induction xs generalizing i with
 | nil=>simp at b
 | cons y ys ih=>
  have d:=a y;rw [show Au cells (y :: ys)=(cells y).toList++Au cells ys from by simp [Au]]
  cases i with
  | zero=>
   have e:x=y:=(by simpa using b.symm);subst e;rw [E5 (by simp;omega)];simp
  | succ i=>
   have c:ys[i]?=some x:=(by simpa using b);rw [Gc (by simp [d,Lz];omega)];have:=ih c;rw [show (i+1)*sz+j-(cells y).toList.length=i*sz+j by simp [d,Lz];omega,this]
def As6  {cells:α->Array VL}  (b:∀ x,(cells x).size=sz) {ok:WD->α->Prop}  {base g cap:Nat} {T:TypeId} {xs:List α} {n:Nat} (h:w.ownsRow base T sz (.slice (some ⟨g,0,none⟩) n cap) n (Au cells xs)) (e:xs.length=n)
  (a:n<=9223372036854775807) (f:∀ x,x∈xs->ok w x):Mk cells sz ok w (some ⟨g,0,none⟩) n xs:=by
 refine ⟨e,a,fun i x c=>?_⟩;have k:=(Ao.1 c).1;refine ⟨g,0,rfl,(h.lt g rfl).2,fun j d=>?_,f x (Ai c)⟩
 rw [Da,E6 h (i*sz+j) (by
  have:(i+1)*sz<=n*sz:=S7 _ (by omega);rw [Lz] at this
  omega),F2 b xs c d]
def Ahi:(prog.info? 224).map (fun i=>(i.zero,i.size,i.bytes))=some (some (.agg #[.int .i64 0,.int .i64 0,.slice none 0 0]),3,40):=by kernel_rfl
def As7:(prog.info? 4).map (fun i=>(i.zero,i.size,i.bytes))=some (some (.bool false),1,1):=by kernel_rfl
def As8 (n:Nat):madeCells (Value.bool false).cells n=(List.replicate n (.bool false)).toArray:=by
 apply Y9.1;apply Ea;intro j;by_cases a:j<n
 .simp [madeCells,Value.cells,a,Nat.mod_one]
 .simp [madeCells,Value.cells,a]
def Ahj (n:Nat) (d:n<=1000000):∀ w:WD,(Instr.makeSlice 216 (.int .i64 (n:Int)) (.int .i64 (n:Int))).run prog w=.ok (.slice (some ⟨w.heap.size,0,none⟩) n n) (w.alloc (.cells (Array.replicate n (.bool false)) 4 (0,0))):=by
 intro w;obtain ⟨i,b,c,h1,a⟩:=Cb As7;have:=run_make (P:=prog) w 216 4 i _ underlying216 b c .i64 .i64 n n (by omega) (by omega) (by rw [a];omega) (by omega);rw [this];simp only [J8,h1,Rm];rw [As8,Yp]
def As9 (n:Nat) (d:n<=1000000):∀ w:WD,(Instr.makeSlice 217 (.int .i64 0) (.int .i64 (n:Int))).run prog w=.ok (.slice (some ⟨w.heap.size,0,none⟩) 0 n) (w.alloc (.cells (madeCells (Value.agg #[.int .i64 0,.int .i64 0,.slice none 0 0]).cells (n*3)) 224 (0,0))):=by
 intro w;obtain ⟨i,b,c,h1,a⟩:=Cb Ahi;have:=run_make (P:=prog) w 217 224 i _ Y1 b c .i64 .i64 0 n (by omega) (by omega) (by rw [a];omega) (by omega);rw [this];simp only [J8,Int.toNat_zero,h1]
structure mi (w:WD) (tb gb gs cap:Nat) (po uo:Option Addr) (un uc:Nat) (bs:List Bool) (now:Int) (q:List Nd) (kb:Nat) (ks:List VL) (wr:WD):Prop where
 la:kz w tb gb gs cap po uo un uc bs now q wr
 kept:wr.heap[kb]?=some (.cells ks.toArray 4 (0,0))
 kw:w.heap.size<=kb
def mi.below  {g b c cap:Nat} {po k:Option Addr} {j i:Nat} {a:List Bool}  {q:List Nd} {e:Nat} {f:List VL}  (h:mi w g b c cap po k j i a now q e f wr) (d:BW wr.heap.size wr w'):mi w g b c cap po k j i a now q e f w':=
 ⟨h.la.below d,Ae d h.kept (Ab h.kept),h.kw⟩
def mi.mod  {n a c cap:Nat} {po i:Option Addr} {g o:Nat} {j:List Bool}  {q f:List Nd} {l:Nat} {m:List VL}  (h:mi w n a c cap po i g o j now q l m wr) (d:0<g->∀ b e,i=some ⟨b,e,none⟩->b<w.heap.size) (r:Bz w' a c po cap f) (p:gz wr q f) (k:Mod (Bd q) wr w'):mi w n a c cap po i g o j now f l m w':=
 ⟨h.la.mod d r p k,(k.block _ (Ab h.kept) (J2 h.la.dm h.kept (by decide) (by decide))).trans h.kept,h.kw⟩
def kz.setOther  {tb n l cap:Nat}     {q:List Nd}  {b o:Nat} {x:Array VL} {T:TypeId} {v:VL} (h:kz w tb n l cap po uo un uc bs now q wr) (m:wr.heap[b]?=some (.cells x T (0,0)))
  (h1:T≠363) (r:T≠398) (h3:T≠354) (h4:T≠270) (hw:w.heap.size<=b) (ad:0<un->∀ b f,uo=some ⟨b,f,none⟩->b<w.heap.size) (k:∀ (i:Nat) (u:VL),x[i]?=some u->∀ p:Addr,u≠Value.pointer (some p)) :
  kz w tb n l cap po uo un uc bs now q (wr.setCell ⟨b,o,none⟩ v):=by
 have d:∀ c,c≠b->(wr.setCell ⟨b,o,none⟩ v).heap[c]?=wr.heap[c]?:=fun c s=>Cm _ _ _ _ s;have hm:=J2 h.dm m h1 r;have g:=h.dm
 have t:n≠b:=fun e=>by have:=g.head;rw [e,m] at this;simp at this;exact h3 this.2
 have ac:tb≠b:=fun e=>by have:=h.tab.head;rw [e,m] at this;simp at this;exact h4 this.2
 refine ⟨h.low.setCell hw _,⟨(d _ t).trans g.head,g.addr,fun i j=>?_,fun i j=>?_,g.inv,g.apart,g.own,g.ml⟩,⟨(d _ ac).trans h.tab.head,h.tab.up.len,h.tab.up.max,fun i j=>?_⟩,h.fh⟩
 .have r:l≠b:=fun e=>by
   have:=g.ptr i j;rw [e,Aa m i] at this;exact k i _ this _ rfl
  exact (Bp (a:=⟨l,i,none⟩) (w:=wr) (d _ r)).trans (g.ptr i j)
 .have z:=g.fj i j;exact ⟨(d _ (fun e=>hm ⟨i,j,.inl e.symm⟩)).trans z.head,z.row.of_block (d _ (fun e=>hm ⟨i,j,.inr e.symm⟩)),z.ne⟩
 .obtain ⟨c,f,e,y,s⟩:=h.tab.up.cell i j;have:=ad (by omega) c f e;exact ⟨c,f,e,by simpa [World.setCell] using y,(Bp (a:=⟨c,f+i,none⟩) (w:=wr) (d c (by omega))).trans s⟩
def Ata (st:List (Ask×Bool)) (a:Ask) (b:Bool) (m k:Nat) (f:k<m) (e:st.length=k) :
  ((st.map fun x=>Value.bool x.2)++List.replicate (m-k) (Value.bool false)).toArray.setIfInBounds k (.bool b)=(((st++[(a,b)]).map fun x=>Value.bool x.2)++List.replicate (m-(k+1)) (Value.bool false)).toArray:=by
 obtain ⟨d,c⟩:∃ d,m-k=d+1:=⟨m-k-1,by omega⟩;rw [c,show m-(k+1)=d by omega,List.replicate_succ];apply Y9.1;simp [e]
def Atb (st:List (Ask×Bool)) (d:Nat):∀ (i:Nat) (u:VL),((st.map fun x=>Value.bool x.2)++List.replicate d (Value.bool false)).toArray[i]?=some u->∀ p:Addr,u≠Value.pointer (some p):=by
 intro i u a p e;rw [Lr] at a;rcases Dh.1 (Ai a) with h | h
 .obtain ⟨_,_,rfl⟩:=Ba.1 h;cases e
 .rw [(Vc.1 h).2] at e;cases e
def Aa9 (w:WD) (cs:Array VL) (T:TypeId):∀ j u,cs.toList[j]?=some u->(w.alloc (.cells cs T (0,0))).cell? ((⟨w.heap.size,0,none⟩:Addr).add j)=some u:=by
 intro j u a;rw [Vt,Da,Aa (Ah w _) j];simpa using a
def Ahk (s:Az):∀ u∈s.cells.toList,u.oneCell'=true:=by
 simp [Value.oneCell']
def G4 {n:Nat} (h:n<=1000000):n+1<=maxLen:=by
 have:maxLen=9223372036854775807:=by kernel_rfl
 omega
def Atc (s:Az):s.cells.size=3:=rfl
def Ahl:0<3:=I3 _
def kz.other  {z o l cap:Nat}     {q:List Nd}  {b:Nat} {x:Array VL} {T:TypeId} (h:kz w z o l cap po uo un uc bs now q wr) (p:wr.heap[b]?=some (.cells x T (0,0)))
  (h1:T≠363) (h2:T≠398) (h3:T≠354) (h4:T≠270) (hw:w.heap.size<=b) (y:0<un->∀ b g,uo=some ⟨b,g,none⟩->b<w.heap.size) (u:0<q.length->l≠b) (s:wr.grownBy w' (some b)) :
  kz w z o l cap po uo un uc bs now q w':=by
 have d:∀ c,c<wr.heap.size->c≠b->w'.heap[c]?=wr.heap[c]?:=fun c m r=>s.block c m (fun e=>r (by cases e;rfl));have hm:=J2 h.dm p h1 h2;have f:=h.dm
 have t:o≠b:=fun e=>by have:=f.head;rw [e,p] at this;simp at this;exact h3 this.2
 have v:z≠b:=fun e=>by have:=h.tab.head;rw [e,p] at this;simp at this;exact h4 this.2
 refine ⟨h.low.grown s h.low.size (fun c e=>by cases e;exact hw),⟨(d _ (Ab f.head) t).trans f.head,f.addr,fun i j=>?_,fun i j=>?_,f.inv,f.apart,f.own,f.ml⟩,⟨(d _ (Ab h.tab.head) v).trans h.tab.head,h.tab.up.len,h.tab.up.max,fun i j=>?_⟩,h.fh⟩
 .exact (Bp (a:=⟨l,i,none⟩) (w:=wr) (d _ (f.rf (by omega)) (u (by omega)))).trans (f.ptr i j)
 .have n:=f.fj i j;have m:=n.lt;exact ⟨(d _ m.1 (fun e=>hm ⟨i,j,.inl e.symm⟩)).trans n.head,n.row.of_block (d _ m.2 (fun e=>hm ⟨i,j,.inr e.symm⟩)),n.ne⟩
 .obtain ⟨c,g,e,k,r⟩:=h.tab.up.cell i j;have:=y (by omega) c g e;exact ⟨c,g,e,Bx k s.size,(Bp (a:=⟨c,g+i,none⟩) (w:=wr) (d c k (by omega))).trans r⟩
structure jw (w:WD) (gs g cp k:Nat) (sl:List Az) (q:List Nd) (wr:WD):Prop where
 own:wr.ownsRow w.heap.size 224 3 (.slice (some ⟨g,0,none⟩) k cp) k (Au Az.cells sl)
 len:sl.length=k
 ok:∀ s,s∈sl->Az.ok wr s/\∀ b off,s.go=some ⟨b,off,none⟩->w.heap.size<=b/\b<wr.heap.size/\¬ Bd q b/\b≠g
 gs:0<q.length->gs≠g
def jw.ar  {d g b k:Nat} {f:List Az} {q:List Nd}  (h:jw w d g b k f q wr):∃ a,wr.heap[g]?=some (.cells a 224 (0,0)):=by
 rcases h.own.2 with ⟨c,_⟩ | ⟨i,cap,a,e,_,h,_⟩
 .cases c
 .cases e;exact ⟨a,h⟩
def jw.below  {f g d k:Nat} {j:List Az} {q:List Nd}  (h:jw w f g d k j q wr) (a:BW wr.heap.size wr w'):jw w f g d k j q w':=
 ⟨Asu h.own a Ln,h.len,fun s i=>⟨(h.ok s i).1.below a,fun b c e=>by obtain ⟨l,m,n,o⟩:=(h.ok s i).2 b c e;exact ⟨l,Bx m a.size,n,o⟩⟩,h.gs⟩
def jw.mod  {j g i k:Nat} {n:List Az} {q m:List Nd}  (h:jw w j g i k n q wr) (t:¬ Bd q g) (l:gz wr q m) (f:Mod (Bd q) wr w'):jw w j g i k n m w':=by
 refine ⟨Aa6 h.own fun c e=>?_,h.len,fun s d=>⟨⟨(h.ok s d).1.ak.mod f (fun _ b a e=>((h.ok s d).2 b a e).2.2.1),(h.ok s d).1.om⟩,fun b a e=>?_⟩,fun h0=>h.gs (by rw [l.len] at h0;exact h0)⟩
 .cases e;exact f.block _ (h.own.lt g rfl).2 t
 .obtain ⟨h1,r,o,p⟩:=(h.ok s d).2 b a e;refine ⟨h1,Bx r f.size,fun c=>?_,p⟩;rcases l.fh c with c | c
  .exact o c
  .omega
def Qr.found {g q:List Nd} {j:List Bool} {now st:Int} {a:Ask} {so:Option Addr} {i:Nat}  (h:Qr g j now a st so i q w) (o:Sg g q):∃ zs,Qu now j a st zs g q/\Ar w so i zs/\(∀ b d,so=some ⟨b,d,none⟩->0<i):=by
 rcases h with ⟨c,rfl,rfl,rfl,rfl⟩ | ⟨c,t,xs,is,f,l,m⟩
 .exact ⟨[],.inl ⟨c,rfl,rfl,rfl⟩,T7 w,fun b d e=>by cases e⟩
 .cases is with
  | false=>
   obtain ⟨rfl,rfl,rfl,rfl⟩:=l rfl;exact ⟨[],.inr ⟨c,t,xs,false,f,fun _=>⟨rfl,rfl,rfl⟩,fun h=>by cases h⟩,T7 w,fun b d e=>by cases e⟩
  | true=>
   obtain ⟨rfl,k,r,n⟩:=m rfl;refine ⟨Bj xs,.inr ⟨c,st,xs,true,f,fun h=>(by cases h),fun _=>⟨rfl,rfl,r,n,o⟩⟩,k,fun b d e=>?_⟩;have:=f.found.len;have:=f.found.many1;have:=k.len;simp [Bj] at this;omega
def jw.snoc  {r g cp k m f:Nat} {z:List Az} {q:List Nd} {wr n:WD} {s:Az} {gb cap:Nat}  (h:jw w r g cp k z q wr) (hp:Bz wr gb r po cap q) (hs:s.ok wr) (y:∀ b d,s.go=some ⟨b,d,none⟩->w.heap.size<=b/\b<wr.heap.size/\¬ Bd q b/\b≠g)
  (o:n.ownsRow w.heap.size 224 3 (.slice (some ⟨m,0,none⟩) (k+1) f) (k+1) (Au Az.cells z++s.cells.toList)) (hg:(wr.alloc (.cells s.cells 224 (0,0))).grownBy n (some g)) (hb:(Value.slice (some ⟨m,0,none⟩) (k+1) f).ownBlock=(Value.slice (some ⟨g,0,none⟩) k cp).ownBlock\/(Value.slice (some ⟨m,0,none⟩) (k+1) f).ownBlock=some (wr.alloc (.cells s.cells 224 (0,0))).heap.size) :
  jw w r m f (k+1) (z++[s]) q n:=by
 have ac:m=g\/m=wr.heap.size+1:=by
  rcases hb with e | e
  .left;simpa [Value.ownBlock] using e
  .right;simpa [Value.ownBlock] using e
 have v:∀ c,c<wr.heap.size->c≠g->n.heap[c]?=wr.heap[c]?:=fun c hl t=>(hg.block c (by simp;omega) (fun e=>t (by cases e;rfl))).trans (Gz wr _ c hl);have ad:wr.heap.size+1<=n.heap.size:=by have:=hg.size;simpa using this
 have l:∀ x:Az,x.ok wr->(∀ b d,x.go=some ⟨b,d,none⟩->w.heap.size<=b/\b<wr.heap.size/\¬ Bd q b/\b≠g)->Az.ok n x/\∀ b d,x.go=some ⟨b,d,none⟩->w.heap.size<=b/\b<n.heap.size/\¬ Bd q b/\b≠m:=fun x j p=>by
  refine ⟨⟨⟨j.ak.len,j.ak.max,fun i hi=>?_⟩,j.om⟩,fun b d e=>?_⟩
  .obtain ⟨b,d,e,u,t⟩:=j.ak.cell i hi;have h1:=p b d e;exact ⟨b,d,e,by omega,(Bp (a:=⟨b,d+i,none⟩) (w:=wr) (v b u h1.2.2.2)).trans t⟩
  .have h1:=p b d e;exact ⟨h1.1,by omega,h1.2.2.1,by omega⟩
 refine ⟨by rw [N0,P7];exact o,by simp [h.len],fun x j=>?_,fun h0=>?_⟩
 .rcases Dh.1 j with j | j
  .exact l x (h.ok x j).1 (h.ok x j).2
  .have:x=s:=by simpa using j
   subst this;exact l x hs y
 .have:=h.gs h0;have:=hp.rf h0;omega
def Ahm  {xs:List α} {k:Nat} (h:xs.length=k) (x:α):(xs++[x]).length=k+1:=by simp [h]
def Ahn  {n j m cap f o d l k:Nat} {po g:Option Addr} {i:List Bool}  {q:List Nd} {st:List (Ask×Bool)} {x:Ask} {b:Bool}
  (h:mi w n j m cap po g f o i now q d ((st.map fun x=>Value.bool x.2)++List.replicate (l-k) (.bool false)) wr) (p:k<l) (a:st.length=k) (c:0<f->∀ b e,g=some ⟨b,e,none⟩->b<w.heap.size) :
  mi w n j m cap po g f o i now q d (((st++[(x,b)]).map fun x=>Value.bool x.2)++List.replicate (l-(k+1)) (.bool false)) (wr.setCell ⟨d,k,none⟩ (.bool b)):=by
 refine ⟨h.la.setOther h.kept (by decide) (by decide) (by decide) (by decide) h.kw c (Atb _ _),?_,h.kw⟩;rw [<- Ata st x b l k p a];exact Am h.kept k _
def Aho  {f d e cap i g b l k:Nat} {po j:Option Addr} {c:List Bool}  {q:List Nd} {st:List (Ask×Bool)}
  (h:mi w f d e cap po j i g c now q b ((st.map fun x=>Value.bool x.2)++List.replicate (l-k) (.bool false)) wr) (m:k<l) (a:st.length=k):wr.cell? ⟨b,k,none⟩=some (.bool false):=by
 rw [Aa h.kept k,Lr,Gc (by simp;omega)];simp only [At,a,Nat.sub_self,List.getElem?_replicate];rw [Ad (by omega)]
def Ask.ok.tr {w wr c:WD} {i f g cap k j:Nat} {po l:Option Addr} {e:List Bool}  {x:Ask} {q:List Nd} {d:WD} (h:x.ok wr) (b:Mod (Bd q) wr c) (h0:x.ok w) (a:kz w i f g cap po l k j e now q d):x.ok c:=
 ⟨h.places.mod b (T9 h0.places Ln a.fh),h.lg,h.ak.mod b (T9 h0.ak Ln a.fh),h.om⟩
def Atd (vo uo ho ao:Option Addr) (n c un uc m mc l lc:Nat) (vs:List V4) (bs:List Bool) (now:Int) (hs:List Ay) (aP:List Ask) (w:WD) (hv:Oe w vo n vs) (hu:Mi w uo un bs) (hh:Xi w ho m hs) (ha:Xl w ao l aP) (hl:l<=1000000) :
  Calls prog 136 #[.slice vo n c,.slice uo un uc,.int .i64 now,.slice ho m mc,.slice ao l lc] w (Ahg vs now bs hs aP w):=by
 have aS:=fun h0=>hu.lt h0;have bl:=As3 vo uo ho n c un uc m mc vs bs now hs w hv hu hh;have bE:=hu.len;have a8:=ha.len;have cA:=Ahj l hl;have cB:=As9 l hl;obtain ⟨cd,bL,bM,bx,bA⟩:=Cb Ahi;replace ⟨hv,hu,hh,ha,aS,bl,bE,a8⟩:=H8 hv hu hh ha aS bl bE a8;go_enter func136,ntmps136;go_wp2_with fail;refine bl.mono ?_;rintro e w1 ⟨aU,⟨r,hr,rfl,hrel⟩ | ⟨tb,gb,gs,cap,po,q0,rfl,bZ,b3,bX,aN⟩⟩
 .have d:(r != 0)=true:=by simpa using hr
  replace ⟨hrel,aU,hr⟩:=H3 hrel aU hr;go_wp2;go_ret2;exact ⟨aU.out,.inl ⟨r,hr.out,rfl,by rw [bE.out];exact hrel.out⟩⟩
 have bo:Qt vs un now:=by
  rcases aN with ⟨_,h⟩ | ⟨h,_⟩
  .cases h
  .exact h
 have aR:un<=1000000:=by have:=bo.up;have:=bo.ml;omega
 have bn:=bo.lo;obtain ⟨WK,bR⟩:=Ex (w1.alloc (.cells (Array.replicate l (.bool false)) 4 (0,0)));have bi:BW w1.heap.size w1 WK:=by rw [bR];exact Bn
 have bO:mi w tb gb gs cap po uo un uc bs now q0 w1.heap.size (List.replicate l (.bool false)) WK:=
  ⟨(kz.mk aU bZ b3 bX).below bi,by rw [bR,Yp];exact Ah _ _,aU.size⟩
 replace ⟨aN,aU,bZ,b3,bX,bo,aR,bO⟩:=H8 aN aU bZ b3 bX bo aR bO;replace ⟨bi,bn⟩:=H2 bi bn;go_wp2;go_loopw [15,16,37] (fun _ _ i wr=>∃ (k:Nat) (q:List Nd) (st:List (Ask×Bool)),i=.int .i64 k/\k<=l/\Hid (mi w tb gb gs cap po uo un uc bs now q w1.heap.size ((st.map fun x=>Value.bool x.2)++List.replicate (l-k) (.bool false)) wr)/\Hid (st.length=k)/\Hid (st.map Prod.fst=aP.take k)/\Hid (C6 (Li now bs) st q0 q)) (fun _ _ i _=>l-(intOf i).toNat)
 case atStart=>exact ⟨0,q0,[],rfl,Aq _,bR▸bO.out,rfl,rfl,rfl⟩
 case round=>
  obtain ⟨k,q,st,rfl,hk,hP,aO,cc,hC⟩:=hrel;by_cases hc:k<l
  .have cj:(k:Int)<l:=(by omega);have cE:(0:Int)<=(k:Int):=(by omega);obtain ⟨x,hx⟩:=ha.get hc;obtain ⟨b,aB,rfl,hb,a0,aA⟩:=ha.cell k x hx;have f:=hP.la.low;have c0:=(Ag f hb).trans (a0 0 (by omega));have c1:=(Ag f hb).trans (a0 1 (by omega));have c2:=(Ag f hb).trans (a0 2 (by omega));have c3:=(Ag f hb).trans (a0 3 (by omega));have c4:=(Ag f hb).trans (a0 4 (by omega));have c5:=(Ag f hb).trans (a0 5 (by omega));have c6:=(Ag f hb).trans (a0 6 (by omega));have c7:=(Ag f hb).trans (a0 7 (by omega));have c8:=(Ag f hb).trans (a0 8 (by omega));have c9:=(Ag f hb).trans (a0 9 (by omega));simp at c0 c1 c2 c3 c4 c5 c6 c7 c8 c9;clear a0;have p:mi w tb gb gs cap po uo un uc bs now q w1.heap.size ((st.map fun x=>Value.bool x.2)++List.replicate (l-k) (.bool false)) (wr.alloc x.obj):=hP.below Bn;have ac:(wr.alloc x.obj).heap[wr.heap.size]?=some x.obj:=Ah _ _
   have bb:∀ b,(st++[(x,b)]).map Prod.fst=aP.take (k+1):=fun b=>by rw [Qs hx,<- cc.out];simp
   by_cases qs:x.start<0
   .have d:decide (0<=x.start)=false:=(by simp;omega);have a1:=(Ahn (x:=x) (b:=false) hP.out hc aO.out aS.out).below ((Below.refl _ _).alloc Ln x.obj);have aK:C6 (Li now bs) (st++[(x,false)]) q0 q:=Xj hC.out (.inl ⟨qs,rfl,rfl⟩);have kf:=Af hP.kept k;have kc:=Aho hP.out hc aO.out;have lk:=Ab hP.kept;replace ⟨a1,aK,p,ac,bb,qs,aA,hx⟩:=H8 a1 aK p ac bb qs aA hx;replace f:=Hh f;go_wp2;go_roundw
    case rel=>exact ⟨k+1,q,st++[(x,false)],by go_num,by omega,a1.out,Ahm aO.out _,bb _,aK.out⟩
    case measure=>simp [intOf];omega
   .have d:decide (0<=x.start)=true:=(by simp;omega);obtain ⟨F,hF⟩:=Ex (Em now x);have cw:(if x.start<now then now else x.start)=F:=(by rw [hF];unfold Em;omega);have b4:=As1 gb gs cap po q tb un uc uo bs now x F x.go x.gn x.gc x.dq (wr.alloc x.obj) p.la.dm p.la.tab ((aA.j4 p.la.low).places) aR.out ((aA.j4 p.la.low).ak) (T9 aA.ak Ln p.la.fh) aA.om bn.out;have bI:0<=x.start:=(by omega);replace ⟨p,ac,bb,qs,bI,aA,hx,f⟩:=H8 p ac bb qs bI aA hx f;replace ⟨b4,hF⟩:=H2 b4 hF;go_wp2_with fail;refine b4.mono ?_;rintro e w3 ⟨bk,q2,rfl,bG,bF,bY,aY⟩;have a6:=p.mod aS.out bG bF bY;have bW:=Ua bF bG;have a1:=Ahn (x:=x) (b:=bk) a6 hc aO.out aS.out
    have aK:C6 (Li now bs) (st++[(x,bk)]) q0 q2:=Xj hC.out (by
     rw [hF.out] at aY;rcases aY with ⟨h1,h2,h3⟩ | ⟨h1,r,h2,h3⟩
     .exact .inr (.inl ⟨bI.out,h1,h2,h3⟩)
     .exact .inr (.inr ⟨bI.out,h1,r,⟨h2,bW⟩,h3⟩))
    have kf:=Af a6.kept k;have kc:=Aho a6 hc aO.out;have lk:=Ab a6.kept;clear c0 c1 c2 c3 c4 c5 c6 c7 c8 c9 aY;replace ⟨a1,aK,a6,bW,bG,bF,bY⟩:=H7 a1 aK a6 bW bG bF bY;go_wp2;go_roundw
    case rel=>exact ⟨k+1,q2,st++[(x,bk)],by go_num,by omega,a1.out,Ahm aO.out _,bb _,aK.out⟩
    case measure=>simp [intOf];omega
  .have cj:¬ (k:Int)<l:=(by omega);have co:k=l:=(by omega);subst co;have a5:st.map Prod.fst=aP:=(by rw [cc.out,C8 (by rw [a8.out];omega)]);obtain ⟨WS,bD⟩:=Ex (wr.alloc (.cells (madeCells (Value.agg #[.int .i64 0,.int .i64 0,.slice none 0 0]).cells (k*3)) 224 (0,0)));have bP:mi w tb gb gs cap po uo un uc bs now q w1.heap.size ((st.map fun x=>Value.bool x.2)++List.replicate (k-k) (.bool false)) WS:=by rw [bD];exact hP.below Bn
   have bQ:jw w gs wr.heap.size k 0 [] q WS:=by
    rw [bD];have cr:k<=maxLen:=(by have:=G4 (n:=k) (by omega);omega);refine ⟨World.ownsRow_made _ _ k hP.la.low.size cr (size_madeCells _ _),rfl,fun s hs=>(by cases hs),fun h0=>by have:=hP.la.dm.rf h0;omega⟩
   obtain ⟨Q1,bC⟩:=Ex (q);rw [<- bC] at hC;replace ⟨a5,bP,bQ,bC⟩:=H4 a5 bP bQ bC;go_wp2;go_loopw [17,18,19,20,65] (fun sv _ _ _ i wr=>∃ (j:Nat) (q:List Nd) (g cp:Nat) (sl:List Az) (rd:List ((Ask×Bool)×Az)),sv=.slice (some ⟨g,0,none⟩) j cp/\i=.int .i64 j/\j<=k/\Hid (mi w tb gb gs cap po uo un uc bs now q w1.heap.size ((st.map fun x=>Value.bool x.2)++List.replicate (k-k) (.bool false)) wr)/\Hid (jw w gs g cp j sl q wr)/\Hid (rd.map Prod.fst=st.take j)/\Hid (rd.map Prod.snd=sl)/\Hid (C6 (Ni now bs) rd Q1 q)) (fun _ _ _ _ i _=>k-(intOf i).toNat)
   case atStart=>exact ⟨0,q,_,_,[],[],rfl,rfl,Aq _,bD▸bP.out,bD▸bQ.out,rfl,rfl,bC.symm⟩
   case round=>
    obtain ⟨j,q2,g,cp,sl,rd,rfl,rfl,hj,be,b8,ca,cb,aK⟩:=hrel;by_cases bT:j<k
    .have ck:(j:Int)<k:=(by omega);have cD:(0:Int)<=(j:Int):=(by omega);obtain ⟨x,hx⟩:=ha.get bT;obtain ⟨b,aB,rfl,hb,a0,aA⟩:=ha.cell j x hx;have f:=be.la.low;have c0:=(Ag f hb).trans (a0 0 (by omega));have c1:=(Ag f hb).trans (a0 1 (by omega));have c2:=(Ag f hb).trans (a0 2 (by omega));have c3:=(Ag f hb).trans (a0 3 (by omega));have c4:=(Ag f hb).trans (a0 4 (by omega));have c5:=(Ag f hb).trans (a0 5 (by omega));have c6:=(Ag f hb).trans (a0 6 (by omega));have c7:=(Ag f hb).trans (a0 7 (by omega));have c8:=(Ag f hb).trans (a0 8 (by omega));have c9:=(Ag f hb).trans (a0 9 (by omega));simp at c0 c1 c2 c3 c4 c5 c6 c7 c8 c9;clear a0
     obtain ⟨bk,bS⟩:∃ bk,st[j]?=some (x,bk):=by
      have h1:j<st.length:=(by rw [aO.out];exact bT);refine ⟨st[j].2,?_⟩;have h2:(st.map Prod.fst)[j]?=some x:=(by rw [a5.out];exact hx);rw [Bh,A4 h1] at h2;rw [A4 h1];simp at h2;rw [<- h2]
     have p:=be.below ((Below.refl _ _).alloc Ln x.obj);have aW:=b8.below ((Below.refl _ _).alloc Ln x.obj);have ac:(wr.alloc x.obj).heap[wr.heap.size]?=some x.obj:=Ah _ _;have bc:=aA.j4 p.la.low
     have b2:∀ s,(rd++[((x,bk),s)]).map Prod.fst=st.take (j+1):=fun s=>by rw [Qs bS,<- ca.out];simp
     have b1:∀ s,(rd++[((x,bk),s)]).map Prod.snd=sl++[s]:=fun s=>by rw [<- cb.out];simp
     have kc:wr.cell? ⟨w1.heap.size,j,none⟩=some (.bool bk):=(by rw [Aa be.kept j,Lr,E5 (by simp [aO.out];exact bT),Bh,bS];rfl);have lk:=Ab be.kept;obtain ⟨F,hF⟩:=Ex (Em now x);have cw:(if x.start<now then now else x.start)=F:=by rw [hF];unfold Em;omega
     have a9:∀ (wq:WD) (q:List Nd),Bz wq gb gs po cap q->jw w gs g cp j sl q wq->¬ Bd q g:=fun wq q h1 h2=>by
      obtain ⟨b6,h3⟩:=h2.ar;exact J2 h1 h3 (by decide) (by decide)
     replace ⟨p,aW,ac,bc,b2,b1,hF,a9⟩:=H8 p aW ac bc b2 b1 hF a9;replace ⟨hx,aA,f⟩:=H3 hx aA f
     have bK:Hid (∀ (wm w8 w9:WD) (qm q8:List Nd) (z:Int) (t:Option Addr) (u y g9 al:Nat),
      mi w tb gb gs cap po uo un uc bs now qm w1.heap.size ((st.map fun x=>Value.bool x.2)++List.replicate (k-k) (.bool false)) wm->jw w gs g cp j sl qm wm->((bk=false/\qm=q2)\/(bk=true/\∃ r,Xk q2 x.dq F (F+x.aa) x.v r qm)) ->
      Bz w8 gb gs po cap q8->gz wm qm q8->Mod (Bd qm) wm w8->u<=y->(∀ b aB,t=some ⟨b,aB,none⟩->wm.heap.size<=b/\¬ Bd q8 b)->Qr qm bs now x z t u q8 w8 ->
      w9.ownsRow w.heap.size 224 3 (.slice (some ⟨g9,0,none⟩) (j+1) al) (j+1) (Au Az.cells sl++[.int .i64 x.id,.int .i64 z,.slice t u y])->(w8.alloc (.cells #[.int .i64 x.id,.int .i64 z,.slice t u y] 224 (0,0))).grownBy w9 (some g) ->
      ((Value.slice (some ⟨g9,0,none⟩) (j+1) al).ownBlock=(Value.slice (some ⟨g,0,none⟩) j cp).ownBlock\/(Value.slice (some ⟨g9,0,none⟩) (j+1) al).ownBlock=some (w8.alloc (.cells #[.int .i64 x.id,.int .i64 z,.slice t u y] 224 (0,0))).heap.size) ->
      ∃ (bd:List Az) (a3:List ((Ask×Bool)×Az)),mi w tb gb gs cap po uo un uc bs now q8 w1.heap.size ((st.map fun x=>Value.bool x.2)++List.replicate (k-k) (.bool false)) w9/\jw w gs g9 al (j+1) bd q8 w9/\a3.map Prod.fst=st.take (j+1)/\a3.map Prod.snd=bd/\C6 (Ni now bs) a3 Q1 q8):=by
      intro wm w8 w9 qm q8 z t u y g9 al h1 h2 h3 h4 h5 h6 h7 h8 h9 ce bN cf;have cs:=Ua h5 h4;obtain ⟨zs,f1,f2,f3⟩:=h9.found cs;have ch:=h1.mod aS.out h4 h5 h6;have aC:=h2.mod (a9 _ _ h1.la.dm h2) h5 h6;obtain ⟨s,hs⟩:∃ s:Az,s=⟨x.id,z,t,u,y,zs⟩:=⟨_,rfl⟩
      have cx:∀ b aB,s.go=some ⟨b,aB,none⟩->w.heap.size<=b/\b<w8.heap.size/\¬ Bd q8 b/\b≠g:=fun b aB e=>by
       rw [hs] at e;obtain ⟨p1,p2⟩:=h8 b aB e;obtain ⟨b',cC,e',ct,_⟩:=f2.cell 0 (f3 b aB e);rw [show t=some ⟨b,aB,none⟩ from e] at e';cases e';have:=h1.la.low.size;have:=(h2.own.lt g rfl).2;exact ⟨by omega,ct,p2,by omega⟩
      obtain ⟨b6,bJ⟩:=(aC.below ((Below.refl _ _).alloc Ln (.cells #[.int .i64 x.id,.int .i64 z,.slice t u y] 224 (0,0)))).ar;have a4:=ch.below ((Below.refl _ _).alloc Ln (.cells #[.int .i64 x.id,.int .i64 z,.slice t u y] 224 (0,0)))
      have cm:w1.heap.size≠g:=fun e=>by have:=a4.kept;rw [e,bJ] at this;simp at this
      refine ⟨sl++[s],rd++[((x,bk),s)],⟨a4.la.other bJ (by decide) (by decide) (by decide) (by decide) (h2.own.lt g rfl).1 aS.out aC.gs bN,(bN.block _ (Ab a4.kept) (fun e=>cm (by cases e;rfl))).trans a4.kept,h1.kw⟩,?_,b2 s,b1 s,Xj aK.out ⟨qm,?_,?_,?_⟩⟩
      .exact jw.snoc (s:=s) aC h4 (by rw [hs];exact ⟨f2,h7⟩) cx (by rw [hs];exact ce) (by rw [hs];exact bN) (by rw [hs];exact cf)
      .rcases h3 with h | ⟨h,r,h'⟩
       .exact .inl h
       .exact .inr ⟨h,r,by show Xk q2 x.dq (Em now x) (Em now x+x.aa) x.v r qm;rw [<- hF.out];exact h'⟩
      .rw [hs]
      .rw [hs];exact f1
     cases bk with
     | false=>
      have aZ:=Ahd gb gs cap po q2 tb un uc uo bs now x (wr.alloc x.obj) p.la.dm p.la.tab bc.places aR.out;obtain ⟨y0,y1,y2,y3,y4,y5,y6,y7,y8,y9⟩:=Of ac.out;have lx:=Ab ac.out;replace aZ:=Hh aZ;go_wp2_with fail;refine aZ.mono ?_;rintro e w8 ⟨z,t,u,y,q8,rfl,a2,aM,am,aJ,aG,aF⟩;have aC:=jw.mod aW.out (a9 _ _ p.la.dm aW.out) aM am;have av:=aC.own.alloc (.cells #[.int .i64 x.id,.int .i64 z,.slice t u y] 224 (0,0));have ap:=Aa9 w8 #[.int .i64 x.id,.int .i64 z,.slice t u y] 224;have aI:=Ahk ⟨x.id,z,t,u,y,[]⟩;have aT:=G4 (n:=j) (by omega);have aX:(j+1)*40<=140737488355328:=(by omega);have aD:w.heap.size<=(w8.alloc (.cells #[.int .i64 x.id,.int .i64 z,.slice t u y] 224 (0,0))).heap.size:=size_alloc (A5 p.la.low.size am.size) _;clear y0 y1 y2 y3 y4 y5 y6 y7 y8 y9 lx c0 c1 c2 c3 c4 c5 c6 c7 c8 c9 kc lk;replace ⟨aC,av,ap,aI,aT,aX,aD,a2⟩:=H8 aC av ap aI aT aX aD a2;replace ⟨aM,am,aJ,aG,aF⟩:=H5 aM am aJ aG aF;go_wp2_with (at_builtin;refine Q9 _ rfl _ _ 217 rfl w.heap.size 224 cd _ 3 40 Y1 bL bM bx bA rfl Ahl (.slice (some ⟨g,0,none⟩) j cp) j _ rfl av.out ⟨w8.heap.size,0,none⟩ 1 1 [.int .i64 x.id,.int .i64 z,.slice t u y] rfl rfl ap.out aI.out aT.out aX.out aD.out ?_;intro v1 w9 ad an _ aE;obtain ⟨g9,al,rfl⟩:=Joins.ownsRow_form ad (I3 _);replace ⟨ad,an,aE⟩:=H3 ad an aE);obtain ⟨bd,a3,e1,e2,e3,e4,e5⟩:=bK (wr.alloc x.obj) w8 w9 q2 q8 z t u y g9 al p.out aW.out (by first | exact .inl ⟨rfl,rfl⟩ | exact .inl ⟨trivial,rfl⟩ | simp) a2.out aM.out am.out aJ.out aG.out aF.out ad.out an.out aE.out;replace ⟨e1,e2,e3,e4,e5⟩:=H5 e1 e2 e3 e4 e5;go_roundw
      case rel=>exact ⟨j+1,q8,g9,al,bd,a3,rfl,by go_num,by omega,e1.out,e2.out,e3.out,e4.out,e5.out⟩
      case measure=>simp [intOf];omega
     | true=>
      have bV:=Ahh (a:=x) (h:=(As4 hC.out (Ai bS)).choose_spec.choose_spec);obtain ⟨z1,z2,z3,z4⟩:=Me bV.2.2.1;rw [<- hF.out] at z1 z2 z3;have ew:IntKind.i64.wrap (F+x.aa)=F+x.aa:=E9 _ (by omega);obtain ⟨WA,a7⟩:=Ex (wr.alloc x.obj);rw [<- a7] at p aW ac bc
      have bU:=
       fun W' h=>Asf gb gs cap po q2 x.go x.gn x.gc x.dq F (F+x.aa) x.v W' (p.la.dm.below h) ((bc.j4 h).ak) (T9 aA.ak Ln p.la.fh) aA.om
      have t0:=Aa p.la.tab.head 0;simp at t0;have lt:=Ab p.la.tab.head;obtain ⟨y0,y1,y2,y3,y4,y5,y6,y7,y8,y9⟩:=Of ac.out;have lx:=Ab ac.out;have b5:=J2 p.la.dm p.la.tab.head (by decide) (by decide);have aL:=J2 p.la.dm ac.out (by decide) (by decide);have aQ:BW WA.heap.size WA WA.drew:=(Below.refl _ _).drew;replace ⟨bV,z1,z2,z3,z4,bU,b5,aL⟩:=H8 bV z1 z2 z3 z4 bU b5 aL;replace aQ:=Hh aQ
      have ci:Hid (∀ w':WD,(∀ b,b<WA.heap.size->¬ Bd q2 b->∀ o,w'.cell? ⟨b,o,none⟩=WA.cell? ⟨b,o,none⟩)->w'.cell? ⟨tb,0,none⟩=some (.pointer (some ⟨gb,0,none⟩))/\w'.cell? ⟨wr.heap.size,3,none⟩=some (.int .i64 x.v.a)/\w'.cell? ⟨wr.heap.size,4,none⟩=some (.int .i64 x.v.b)/\w'.cell? ⟨wr.heap.size,5,none⟩=some (.int .i64 x.v.c)/\w'.cell? ⟨wr.heap.size,6,none⟩=some (.int .i64 x.v.d)/\w'.cell? ⟨wr.heap.size,7,none⟩=some (.int .i64 x.aa)/\w'.cell? ⟨wr.heap.size,8,none⟩=some (.int .i64 x.start)/\w'.cell? ⟨wr.heap.size,9,none⟩=some (.slice x.go x.gn x.gc)):=
       fun w' h=>⟨(h _ lt b5.out _).trans t0,(h _ lx aL.out _).trans y3,(h _ lx aL.out _).trans y4,(h _ lx aL.out _).trans y5,(h _ lx aL.out _).trans y6,(h _ lx aL.out _).trans y7,(h _ lx aL.out _).trans y8,(h _ lx aL.out _).trans y9⟩
      clear y0 y1 y2;go_wp2_with fail;have bg:wr.alloc (.cells x.cells 266 (0,0))=WA:=a7.symm
      try rw [bg]
      clear c0 c1 c2 c3 c4 c5 c6 c7 c8 c9 kc lk;replace ⟨a7,bg⟩:=H2 a7 bg;go_region_held3 (fun w'=>w'.cell? ⟨tb,0,none⟩=some (.pointer (some ⟨gb,0,none⟩))/\w'.cell? ⟨wr.heap.size,3,none⟩=some (.int .i64 x.v.a)/\w'.cell? ⟨wr.heap.size,4,none⟩=some (.int .i64 x.v.b)/\w'.cell? ⟨wr.heap.size,5,none⟩=some (.int .i64 x.v.c)/\w'.cell? ⟨wr.heap.size,6,none⟩=some (.int .i64 x.v.d)/\w'.cell? ⟨wr.heap.size,7,none⟩=some (.int .i64 x.aa)/\w'.cell? ⟨wr.heap.size,8,none⟩=some (.int .i64 x.start)/\w'.cell? ⟨wr.heap.size,9,none⟩=some (.slice x.go x.gn x.gc))
       (first
         | (go_keep;done)
         | with_reducible exact ci.out _ cv.out)
       (first
         | (go_at_call 187;refine (bU _ aQ.out).mono ?_;rintro e w5 ⟨r5,q5,rfl,bB,bv,ba,aH⟩;have cv:Hid (∀ b,b<WA.heap.size->¬ Bd q2 b->∀ o,w5.cell? ⟨b,o,none⟩=WA.cell? ⟨b,o,none⟩):=fun b hb hn o=>Bp (a:=⟨b,o,none⟩) (w:=WA) (aH.block b hb hn)
            replace ⟨bB,bv,ba,aH⟩:=H4 bB bv ba aH))
      have b7:=p.below aQ.out;have b9:=aW.below aQ.out;have aV:=b7.mod aS.out bv.out ba.out aH.out;have bf:=b9.mod (a9 _ _ b7.la.dm b9) ba.out aH.out;have bH:=(aH.block _ (by have:=aQ.size;omega) aL.out).trans (Ae aQ.out ac.out lx);have bw:x.ok w5:=(by have h1:=a7.out▸bc.out;exact h1.tr (by rw [<- a7.out];exact (Mod.cn aQ.out).im aH.out) aA.out p.la);replace ⟨aV,bf,bH,bw⟩:=H4 aV bf bH bw;clear t0 lt y3 y4 y5 y6 y7 y8 y9 lx;have aZ:=Ahd gb gs cap po q5 tb un uc uo bs now x w5 aV.la.dm aV.la.tab bw.places aR.out;obtain ⟨y0,y1,y2,y3,y4,y5,y6,y7,y8,y9⟩:=Of bH.out;have lx:=Ab bH.out;replace aZ:=Hh aZ;go_wp2_with fail;refine aZ.mono ?_;rintro e w8 ⟨z,t,u,y,q8,rfl,a2,aM,am,aJ,aG,aF⟩;have aC:=jw.mod bf.out (a9 _ _ aV.la.dm bf.out) aM am;have av:=aC.own.alloc (.cells #[.int .i64 x.id,.int .i64 z,.slice t u y] 224 (0,0));have ap:=Aa9 w8 #[.int .i64 x.id,.int .i64 z,.slice t u y] 224;have aI:=Ahk ⟨x.id,z,t,u,y,[]⟩;have aT:=G4 (n:=j) (by omega);have aX:(j+1)*40<=140737488355328:=(by omega);have aD:w.heap.size<=(w8.alloc (.cells #[.int .i64 x.id,.int .i64 z,.slice t u y] 224 (0,0))).heap.size:=size_alloc (A5 aV.la.low.size am.size) _;clear y0 y1 y2 y3 y4 y5 y6 y7 y8 y9 lx;replace ⟨aC,av,ap,aI,aT,aX,aD,a2⟩:=H8 aC av ap aI aT aX aD a2;replace ⟨aM,am,aJ,aG,aF⟩:=H5 aM am aJ aG aF;go_wp2_with (at_builtin;refine Q9 _ rfl _ _ 217 rfl w.heap.size 224 cd _ 3 40 Y1 bL bM bx bA rfl Ahl (.slice (some ⟨g,0,none⟩) j cp) j _ rfl av.out ⟨w8.heap.size,0,none⟩ 1 1 [.int .i64 x.id,.int .i64 z,.slice t u y] rfl rfl ap.out aI.out aT.out aX.out aD.out ?_;intro v1 w9 ad an _ aE;obtain ⟨g9,al,rfl⟩:=Joins.ownsRow_form ad (I3 _);replace ⟨ad,an,aE⟩:=H3 ad an aE);obtain ⟨bd,a3,e1,e2,e3,e4,e5⟩:=bK w5 w8 w9 q5 q8 z t u y g9 al aV.out bf.out (by first | exact .inr ⟨rfl,r5,bB.out,Ua ba.out bv.out⟩ | exact .inr ⟨trivial,r5,bB.out,Ua ba.out bv.out⟩) a2.out aM.out am.out aJ.out aG.out aF.out ad.out an.out aE.out;replace ⟨e1,e2,e3,e4,e5⟩:=H5 e1 e2 e3 e4 e5;go_roundw
      case rel=>exact ⟨j+1,q8,g9,al,bd,a3,rfl,by go_num,by omega,e1.out,e2.out,e3.out,e4.out,e5.out⟩
      case measure=>simp [intOf];omega
    .have ck:¬ (j:Int)<k:=(by omega);have cl:j=k:=(by omega);subst cl;have b0:rd.map Prod.fst=st:=(by rw [ca.out,C8 (by rw [aO.out];omega)]);replace b0:=Hh b0;go_wp2;go_ret2;have hS:=b8.out;refine ⟨be.la.low,.inr ⟨some ⟨g,0,none⟩,cp,sl,(by rw [a8.out];rfl),⟨q0,Q1,q2,st,rd,by rw [bE.out];exact aN.out,hC.out,a5.out,aK.out,b0.out,cb.out⟩,?_,?_,fun b aB e=>by cases e;exact (hS.own.lt g rfl).1,fun s hs b aB e=>((hS.ok s hs).2 b aB e).1⟩⟩
     .rw [a8.out];exact As6 Atc hS.own hS.len (by omega) (fun s hs=>(hS.ok s hs).1)
     .rw [a8.out];rcases hS.own.2 with ⟨e,_⟩ | ⟨g',cy,b6,e,_,_,h3,_⟩
      .cases e
      .cases e;exact h3
abbrev Bw:=Nat->Int->V4
def ir (zs:List Int) (fr tt:Int) (v:V4):Bw:=fun i u=>if Bs zs zs.length i/\fr<=u/\u<tt then v else V4.zero
def nh:Bw:=fun _ _=>V4.zero
def Aw (U W:Bw):Bw:=fun i u=>As (U i u) (W i u)
def Fi:List Bw->Bw
 | []=>nh
 | x :: xs=>Aw x (Fi xs)
def nn (U:Bw):Prop:=∀ i u,V4.zero.leq (U i u)
def Sh (a b c:V4):As (As a b) c=As a (As b c):=by simp [As];omega
def Ahp (a b:V4):As a b=As b a:=by simp [As];omega
def Og (a:V4):As a V4.zero=a:=by simp [As,V4.zero]
def Uc (a:V4):As V4.zero a=a:=by simp [As,V4.zero]
def Mm (a b c:Bw):Aw (Aw a b) c=Aw a (Aw b c):=by funext i u;exact Sh _ _ _
def Ud (a b:Bw):Aw a b=Aw b a:=by funext i u;exact Ahp _ _
def Oh (a:Bw):Aw a nh=a:=by funext i u;exact Og _
def Si (a:Bw):Aw nh a=a:=by funext i u;exact Uc _
def Ph {v:V4}:V4.zero.leq v↔0<=v.a/\0<=v.b/\0<=v.c/\0<=v.d:=by simp [V4.leq,V4.zero]
def Aba {v:V4} (h:v.right=true):V4.zero.leq v:=by rw [Ph];have:=Fh.1 h;omega
def Ue:nn nh:=fun _ _=>Ph.2 (by simp [nh,V4.zero])
def Uf {a b:Bw} (h:nn a) (k:nn b):nn (Aw a b):=fun i u=>by
 have h1:=Ph.1 (h i u);have c:=Ph.1 (k i u);rw [Ph];simp [Aw,As];omega
def Ug  {fr a:Int} {v:V4} (h:v.right=true):nn (ir zs fr a v):=fun i u=>by
 unfold ir;split
 .exact Aba h
 .exact Ph.2 (by simp [V4.zero])
def Abb {xs:List Bw} (h:∀ x,x∈xs->nn x):nn (Fi xs):=by
 induction xs with
 | nil=>exact Ue
 | cons x xs ih=>exact Uf (h x (Dl ..)) (ih fun y a=>h y (Ce _ a))
structure Bc (vs:List V4) (U:Bw) (q:List Nd):Prop where
 len:q.length=vs.length
 whole:∀ i,i<q.length->(nd q i).whole=vv vs i
 inv:∀ i,i<q.length->Inv (nd q i).whole (nd q i).l
 val:∀ i,i<q.length->∀ u,0<=u->u<1099511627776->As (val (nd q i).l u) (U i u)=vv vs i
def Bc.loose  {U:Bw} {q:List Nd} (h:Bc vs U q):∀ i,i<q.length->Cc (nd q i).l:=fun i a=>(h.inv i a).loose
def Abc  {b:List Nd} (h:Aa8 vs b):Bc vs nh b:=
 ⟨h.len,fun i a=>(h.node i (by rw [<- h.len];exact a)).1,h.inv,fun i a u h0 _=>by
  rw [(h.node i (by rw [<- h.len];exact a)).2]
  simp [val,E4,h0,nh,Og]⟩
def Bc.gq  {U W:Bw} {q:List Nd} (h:Bc vs U q) (e:U=W):Bc vs W q:=e▸h
def Bc.tg  {U:Bw} {p q:List Nd} (h:Bc vs U p) (b:Sg p q) (c:Od p q):Bc vs U q:=
 ⟨b.len.trans h.len,fun i a=>by rw [b.len] at a;exact (b.whole i a).trans (h.whole i a),b.inv,fun i a u h0 h1=>by
  rw [b.len] at a
  rw [c i a];exact h.val i a u h0 h1⟩
def Bc.le  {U:Bw} {q:List Nd} (h:Bc vs U q) {i:Nat} (a:i<q.length)  (h0:0<=u) (h1:u<1099511627776):(U i u).leq (vv vs i):=by
 have:=h.val i a u h0 h1;have b:=Fh.1 ((h.inv i a).free u h0 h1).1;rw [<- this];simp [V4.leq,As];omega
def Pi {fr a:Int} {v:V4} (h:Bi fr a v=true):0<=fr/\fr<a/\a<=1099511627776/\v.right=true:=Me h
def Xm  {U:Bw} {p q:List Nd}  {fr f:Int} {v:V4} (h:Bc vs U p) (n:Pf p zs fr f v 0 q) :
  Bc vs (Aw U (ir zs fr f v)) q/\Dv vs.length zs/\Bi fr f v=true:=by
 obtain ⟨m,d⟩:=n;rcases m with ⟨_,c,_⟩ | ⟨_,_,_,c,_⟩ | ⟨h1,l,o,_,j⟩
 .cases c
 .cases c
 .refine ⟨⟨d.len.trans h.len,fun i b=>?_,d.inv,fun i b u h0 k=>?_⟩,h.len▸h1,l⟩
  .rw [d.len] at b;exact (d.whole i b).trans (h.whole i b)
  .rw [d.len] at b;have g:=h.val i b u h0 k;by_cases e:Bs zs zs.length i
   .rw [(j i b).1 e u h0 k];by_cases a:fr<=u/\u<f
    .rw [Ad a,<- g];simp [Aw,ir,e,a,As,Nc];omega
    .rw [Ac a,<- g];simp [Aw,ir,a,Og]
   .rw [(j i b).2 e,<- g];simp [Aw,ir,e,Og]
def A2e  {U:Bw} {p q:List Nd}  {fr a:Int} {v:V4} {r:Int} (h:Bc vs U p) (g:Dv vs.length zs) (d:Bi fr a v=true)
  (f:∀ i,i<vs.length->∀ u,0<=u->u<1099511627776->(Aw U (ir zs fr a v) i u).leq (vv vs i)) (j:Lh p zs fr a v r q):r=0:=by
 rcases j with ⟨c,_⟩ | ⟨_,_,c,_⟩ | ⟨_,_,_,c,_⟩
 .exact absurd ⟨h.len▸g,d⟩ c
 .obtain ⟨k,l,m,_⟩:=Pi d;refine absurd (fun i b e u h0 h1=>?_) c;have:=f i (h.len▸b) u (by omega) (by omega);rw [<- h.val i b u (by omega) (by omega)] at this;simp [Aw,ir,e,h0,h1,As,V4.leq] at this ⊢;omega
 .exact c
def Ahq  {U:Bw} {p q:List Nd}  {fr f:Int} {v:V4} {r:Int} (h:Bc vs (Aw U (ir zs fr f v)) p) (n:nn U) (m:Dv vs.length zs) (k:Bi fr f v=true)
  (e:Sg p q) (o:Xg p zs fr f v r q):r=0/\Bc vs U q:=by
 obtain ⟨t,x,y,_⟩:=Pi k;rcases o with ⟨c,_⟩ | ⟨_,_,c,_⟩ | ⟨_,_,_,c,j⟩
 .exact absurd ⟨h.len▸m,k⟩ c
 .refine absurd (fun i a d u h0 h1=>?_) c;have:=h.val i a u (by omega) (by omega);have s:=Ph.1 (n i u);rw [h.whole i a,<- this];simp [Aw,ir,d,h0,h1,As,V4.leq];omega
 .refine ⟨c,e.len.trans h.len,fun i a=>?_,e.inv,fun i a u h0 l=>?_⟩
  .rw [e.len] at a;exact (e.whole i a).trans (h.whole i a)
  .rw [e.len] at a;have g:=h.val i a u h0 l;by_cases d:Bs zs zs.length i
   .rw [(j i a).1 d u h0 l];by_cases b:fr<=u/\u<f
    .rw [Ad b,<- g];simp [Aw,ir,d,b,As];omega
    .rw [Ac b,<- g];simp [Aw,ir,b,Og]
   .rw [(j i a).2 d,<- g];simp [Aw,ir,d,Og]
def Ahr  {U W:Bw} {p q:List Nd} (h:Bc vs U p) (k:Bc vs W q) (e:U=W):Od p q:=fun i d=>by
 subst e;have c:i<q.length:=by rw [k.len,<- h.len];exact d
 refine Aav (k.inv i c).loose (h.inv i d).loose (k.inv i c).gw (h.inv i d).gw fun u h0 h1=>?_;have a:=h.val i d u h0 h1;have b:=k.val i c u h0 h1;rw [<- a] at b;simp [As] at b;obtain ⟨f,g,j,m⟩:=b;cases hx:val (nd q i).l u;cases hy:val (nd p i).l u;simp [hx,hy] at *;omega
def Ate  {U:Bw} {q:List Nd} (h:Bc vs U q) {i:Nat} (e:i<q.length) {c u:Int} {v:V4} (h0:0<=u) (h1:1<=c) :
  ld (nd q i).l c v u↔u+c<=1099511627776/\∀ x,u<=x->x<u+c->(As (U i x) v).leq (vv vs i):=by
 unfold ld;rw [Ag5 (h.loose i e) h0 h1,And.comm];refine and_congr_right fun f=>⟨fun d x a b=>?_,fun d x a b=>?_⟩
 .have:=d x a b;rw [<- h.val i e x (by omega) (by omega)];simp [V4.leq,As] at *;omega
 .have:=d x a b;rw [<- h.val i e x (by omega) (by omega)] at this;simp [V4.leq,As] at *;omega
def Ahs (now:Int) (h:Ay):Bw:=ir h.dq now (Ml now h) h.v
def Cv (now:Int) (x:Ask×Bool):Bw:=if x.2=true then ir x.1.dq (Em now x.1) (Em now x.1+x.1.aa) x.1.v else nh
def Ic (x:Ask×Az):Bw:=if 0<=x.2.start then ir x.2.dq x.2.start (x.2.start+x.1.aa) x.1.v else nh
def Sj   {b:List Ay}:∀ {U:Bw} {p q:List Nd},C6 (Pg now) b p q->Bc vs U p ->
  Bc vs (Aw U (Fi (b.map (Ahs now)))) q/\∀ h,h∈b->Dv vs.length h.dq/\Bi now (Ml now h) h.v=true:=by
 induction b with
 | nil=>intro U p q h k;cases h;exact ⟨k.gq (Oh _).symm,fun h a=>by cases a⟩
 | cons x xs ih=>
  intro U p q h k;obtain ⟨m,h1,c⟩:=h;obtain ⟨d,e,f⟩:=Xm k h1;obtain ⟨g,i⟩:=ih c d;refine ⟨g.gq (by rw [Mm];rfl),fun h a=>?_⟩;rcases Gf.1 a with rfl | a
  .exact ⟨e,f⟩
  .exact i h a
def Sk (now:Int) (hs:List Ay):Bw:=Fi (hs.map (Ahs now))
def Xn  {e:Nat}  {b:List Ay} {d:List Nd} (h:Jc vs e now b 0 d) :
  Qt vs e now/\Bc vs (Sk now b) d/\∀ h,h∈b->Dv vs.length h.dq/\Bi now (Ml now h) h.v=true:=by
 rcases h with ⟨_,c⟩ | ⟨a,j,i,⟨_,g⟩ | ⟨c,_⟩⟩
 .cases c
 .obtain ⟨h1,f⟩:=Sj g (Abc i);exact ⟨a,h1.gq (Si _),f⟩
 .exact absurd rfl c
def Aht   {a:List Ay} (h:∀ h,h∈a->Dv vs.length h.dq/\Bi now (Ml now h) h.v=true):nn (Sk now a):=
 Abb fun x b=>by
  obtain ⟨y,c,rfl⟩:=Ba.1 b;exact Ug (Pi (h y c).2).2.2.2
structure Sl (vs:List V4) (now:Int) (bs:List Bool) (a:Ask):Prop where
 pre:Mj bs now a (Em now a) a.dq
 start:0<=a.start
 ak:Dv vs.length a.dq
 span:Bi (Em now a) (Em now a+a.aa) a.v=true
def Xo  {d:List Bool}  {st:List (Ask×Bool)}:∀ {U:Bw} {p q:List Nd},C6 (Li now d) st p q->Bc vs U p ->
  Bc vs (Aw U (Fi (st.map (Cv now)))) q/\∀ x,x∈st->x.2=true->Sl vs now d x.1:=by
 induction st with
 | nil=>intro U p q h k;cases h;exact ⟨k.gq (Oh _).symm,fun h z=>by cases z⟩
 | cons x xs ih=>
  intro U p q h k;obtain ⟨m,h1,t⟩:=h;obtain ⟨a,b⟩:=x
  have l:Bc vs (Aw U (Cv now (a,b))) m/\(b=true->Sl vs now d a):=by
   cases b with
   | false=>
    have e:Aw U (Cv now (a,false))=U:=(by simp [Cv,Oh]);rw [e];refine ⟨?_,fun c=>by cases c⟩;rcases h1 with ⟨_,_,rfl⟩ | ⟨_,_,_,rfl⟩ | ⟨_,_,r,⟨u,j⟩,v⟩
    .exact k
    .exact k
    .have hr:r≠0:=fun c=>by have:=v.2 c;cases this
     rcases u with ⟨_,_,f⟩ | ⟨_,_,_,_,f⟩ | ⟨_,_,_,c,_⟩
     .exact k.tg j f
     .exact k.tg j f
     .exact absurd c hr
   | true=>
    obtain ⟨n,c2,o,s⟩:=Ahh h1;obtain ⟨k1,k2,_⟩:=Xm k s
    have g:0<=a.start:=by
     rcases h1 with ⟨_,c,_⟩ | ⟨_,_,c,_⟩ | ⟨c,_⟩
     .cases c
     .cases c
     .exact c
    exact ⟨by simpa [Cv] using k1,fun _=>⟨n,g,k2,o⟩⟩
  obtain ⟨k4,k5⟩:=ih t l.1;refine ⟨k4.gq (by rw [Mm];rfl),fun y i=>?_⟩;rcases Gf.1 i with rfl | i
  .exact l.2
  .exact k5 y i
def Sm (vs:List V4) (now:Int) (bs:List Bool) (a:Ask) (s:Az):Prop:=
 s.id=a.id/\((s.start=-1/\s.dq=[])\/(a.can=true/\now<=s.start/\s.start<1099511627776/\Nh bs a s.dq/\Dv vs.length s.dq/\Bi s.start (s.start+a.aa) a.v=true))
def Atf {xs ys:List Nat} (h:xs.Pairwise (·<·)) (a:∀ x,x∈xs->x∈ys):xs.length<=ys.length:=by
 induction xs generalizing ys with
 | nil=>exact Aq _
 | cons x xs ih=>
  have h1:=Ou.1 h;have b:=a x (Dl ..);have:=ih (ys:=ys.erase x) h1.2 (fun y c=>(List.mem_erase_of_ne (by have:=h1.1 y c;omega)).2 (a y (Ce _ c)));rw [List.length_erase_of_mem b] at this;have:=List.length_pos_of_mem b;simp;omega
def Atg {j:List Nd} {d:List Bool} {a:Ask}   {xs:List Nat} (h:Mh j (Bj (ni d a.gl)) a.nodes a.v a.aa after t xs):Nh d a (Bj xs):=by
 obtain ⟨h1,e,k⟩:=h.ak;have f:=h.len;have b:(Bj xs).length=xs.length:=by simp [Bj]
 refine ⟨fun i c=>?_,h1.az,by rw [b];exact f⟩;have g:zi (Bj xs) i=((xs[i]'(by rw [<- b];exact c):Nat):Int):=by rw [b] at c;simp [zi,Bj,List.getD,c]
 rw [g];have:=Xh.1 (e _ (Lw (by rw [<- b];exact c))).2.1;exact Ba.2 ⟨_,this,rfl⟩
def Ath   {j:List Bool} {a:Ask} {s:Az} {U:Bw} {p q:List Nd} (m:0<=now) (b:s.id=a.id) (h:Qu now j a s.start s.dq p q) (k:Bc vs U p):Bc vs (Aw U (Ic (a,s))) q/\Sm vs now j a s:=by
 have f:s.start=-1->Aw U (Ic (a,s))=U:=fun e=>by
  have:¬ (0<=(a,s).2.start):=by show ¬ 0<=s.start;omega
  simp only [Ic,Ac this,Oh]
 rcases h with ⟨_,h1,i,rfl⟩ | ⟨o,t,xs,is,n,h1,i⟩
 .exact ⟨k.gq (f h1).symm,b,.inl ⟨h1,i⟩⟩
 .cases is with
  | false=>
   obtain ⟨c,d,rfl⟩:=h1 rfl;exact ⟨k.gq (f c).symm,b,.inl ⟨c,d⟩⟩
  | true=>
   obtain ⟨c,d,r,l⟩:=i rfl;have g:=n.found;have u:=g.ge;have v:=(g.take (k.loose) l.1).1;subst v;obtain ⟨y,z,k3⟩:=Xm k l;have x:0<=(a,s).2.start:=(by show 0<=s.start;omega);refine ⟨y.gq ?_,b,.inr ⟨o,by omega,by rw [c];exact g.lt,by rw [d];exact Atg g,by rw [d];exact z,by rw [c];exact k3⟩⟩;simp only [Ic,Ad x];rw [c,d]
def Nj (x:(Ask×Bool)×Az):Bw:=Ic (x.1.1,x.2)
def Ahu  {i:List Bool}  {rd:List ((Ask×Bool)×Az)} (g:0<=now):∀ {U:Bw} {p q:List Nd},C6 (Ni now i) rd p q->Bc vs (Aw U (Fi (rd.map fun x=>Cv now x.1))) p->nn U ->
  (∀ x,x∈rd->x.1.2=true->Sl vs now i x.1.1)->Bc vs (Aw U (Fi (rd.map Nj))) q/\∀ x,x∈rd->Sm vs now i x.1.1 x.2:=by
 induction rd with
 | nil=>intro U p q h k _ _;cases h;exact ⟨k,fun h hh=>by cases hh⟩
 | cons x xs ih=>
  intro U p q h k u n;obtain ⟨m,⟨m',h1,j,t⟩,h3⟩:=h;obtain ⟨⟨a,b⟩,s⟩:=x
  have o:nn (Fi (xs.map fun x=>Cv now x.1)):=Abb fun y e=>by
   obtain ⟨z,hz,rfl⟩:=Ba.1 e;unfold Cv;split
   .next f=>exact Ug (Pi (n z (Ce _ hz) f).span).2.2.2
   .exact Ue
  have k':Bc vs (Aw (Aw U (Fi (xs.map fun x=>Cv now x.1))) (Cv now (a,b))) p:=k.gq (by
   show Aw U (Aw (Cv now (a,b)) (Fi (xs.map fun x=>Cv now x.1)))=_
   rw [Mm,Ud (Cv now (a,b))])
  have km:Bc vs (Aw U (Fi (xs.map fun x=>Cv now x.1))) m':=by
   rcases h1 with ⟨f,rfl⟩ | ⟨f,r,hg,hl⟩
   .have d:b=false:=f;subst d;exact k'.gq (by simp [Cv,Oh])
   .have d:b=true:=f;subst d;have v:=n _ (Dl ..) rfl;exact (Ahq (k'.gq (by simp [Cv])) (Uf u o) v.ak v.span hl hg).2
  obtain ⟨k2,s2⟩:=Ath g j t km
  have l:nn (Ic (a,s)):=by
   unfold Ic;split
   .next hge=>
    rcases s2.2 with ⟨c,_⟩ | ⟨_,_,_,_,_,c⟩
    .have h1:0<=s.start:=hge;have t:s.start=-1:=c;omega
    .exact Ug (Pi c).2.2.2
   .exact Ue
  obtain ⟨k3,s3⟩:=ih h3 (k2.gq (by rw [Mm,Ud _ (Ic (a,s)),<- Mm])) (Uf u l) (fun y e=>n y (Ce _ e));refine ⟨k3.gq (by rw [Mm];rfl),fun y e=>?_⟩;rcases Gf.1 e with rfl | e
  .exact s2
  .exact s3 y e
def Uh (l:List (Ask×Az)):Bw:=Fi (l.map Ic)
def Ati   {b:List Bool} {a:Ask} {s:Az} (h:Sm vs now b a s):nn (Ic (a,s)):=by
 unfold Ic;split
 .next hge=>
  rcases h.2 with ⟨c,_⟩ | ⟨_,_,_,_,_,c⟩
  .have:(a,s).2.start=s.start:=rfl;omega
  .exact Ug (Pi c).2.2.2
 .exact Ue
def Atj  {R:α->β->β->Prop} {l r:List α} {x:α} {p q:β} (h:C6 R (l++x :: r) p q):∃ m a,C6 R l p m/\R x m a/\C6 R r a q:=by
 obtain ⟨m,h1,a,b,c⟩:=Ahe.1 h;exact ⟨m,a,h1,b,c⟩
structure Atk (vs:List V4) (now:Int) (bs:List Bool) (hs:List Ay) (asks:List Ask) (slots:List Az):Prop where
 lay:Qt vs bs.length now
 holds:∀ h,h∈hs->Dv vs.length h.dq/\Bi now (Ml now h) h.v=true
 len:slots.length=asks.length
 slot:∀ x,x∈asks.zip slots->Sm vs now bs x.1 x.2
 le:∀ i,i<vs.length->∀ u,0<=u->u<1099511627776->(Aw (Sk now hs) (Uh (asks.zip slots)) i u).leq (vv vs i)
def Atl {b:List Ask} {a:List Az} {st:List (Ask×Bool)} {rd:List ((Ask×Bool)×Az)} (h1:st.map Prod.fst=b) (c:rd.map Prod.fst=st) (d:rd.map Prod.snd=a):b.zip a=rd.map fun x=>(x.1.1,x.2):=by
 subst d c h1
 induction rd with
 | nil=>rfl
 | cons x xs ih=>simp at ih;simp [ih]
def Abd   {n:List Bool} {q:List Ay} {d:List Ask} {c:List Az} (hp:Lj vs now n q d c):Atk vs now n q d c:=by
 obtain ⟨ps,q1,q2,st,rd,hl,z,h,hr,f,j⟩:=hp.go;obtain ⟨g,k0,p⟩:=Xn hl;obtain ⟨r,l⟩:=Xo z k0
 have e:st.map (Cv now)=rd.map fun x=>Cv now x.1:=by rw [<- f];simp [Dn,Ik]
 rw [e] at r;obtain ⟨m,s2⟩:=Ahu g.lo hr r (Aht p) (fun x k t=>l x.1 (by rw [<- f];exact Ba.2 ⟨x,k,rfl⟩) t);have o:=Atl h f j;have s:Fi (rd.map Nj)=Uh (d.zip c):=by rw [o];simp [Uh,Dn,Ik];rfl
 rw [s] at m;refine ⟨g,p,by rw [<- j,<- h,<- f];simp,fun x k=>?_,fun i v u a b=>m.le (by rw [m.len];exact v) a b⟩;rw [o] at k;obtain ⟨y,hy,rfl⟩:=Ba.1 k;exact s2 y hy
def Atm {e:List Nd}  {a:Int} {v:V4} {b after t T:Int} {xs:List Nat} {is:Bool} (h:Fz e zs a v b after t xs is) (h1:1<=a) (l:1<=b) (m:v.right=true)
  (j:max after 0<=T) (f:T<1099511627776) (x:a<=(ga e zs b v T).length) (g:∀ u,max after 0<=u->u<T->((ga e zs b v u).length:Int)<a) :
  is=true/\t=T/\(xs.length:Int)=a/\∃ r,ga e zs b v T=xs++r:=by
 unfold Fz at h;rw [Ad ⟨h1,l,m⟩] at h;rcases h with ⟨n,i,p,q,⟨r,k⟩,d⟩ | ⟨_,_,_,o⟩
 .have s:a<=(ga e zs b v t).length:=by rw [k,Cn];omega
  have:t=T:=by
   rcases Int.lt_trichotomy t T with c | c | c
   .have:=g t i c;omega
   .exact c
   .have:=d T j c;omega
  subst this;exact ⟨n,rfl,q,r,k⟩
 .have:=o T j f;omega
def Sn  {U:Bw} {p n q q':List Nd}  {fr o:Int} {v:V4} {r r':Int} (h:Bc vs U p) (y:Bc vs U n) (ht:Lh p zs fr o v r q) (m:Lh n zs fr o v r' q'):r=r':=by
 have x:n.length=p.length:=by rw [h.len,y.len]
 have z:=Ahr h y rfl;have e:(∀ i,i<p.length->Bs zs zs.length i->∀ u,fr<=u->u<o->v.leq (val (nd p i).l u))↔(∀ i,i<n.length->Bs zs zs.length i->∀ u,fr<=u->u<o->v.leq (val (nd n i).l u)):=by rw [x];exact ⟨fun k i j=>by rw [z i j];exact k i j,fun k i j=>by rw [<- z i j];exact k i j⟩
 rw [Lh,x] at m;rw [Lh] at ht;rw [x] at e
 rcases ht with ⟨a,b,_⟩ | ⟨a,b,c,d,_⟩ | ⟨a,b,c,d,_⟩<;>rcases m with ⟨f,g,_⟩ | ⟨f,g,s,t,_⟩ | ⟨f,g,s,t,_⟩
 .rw [b,g]
 .exact absurd ⟨f,g⟩ a
 .exact absurd ⟨f,g⟩ a
 .exact absurd ⟨a,b⟩ f
 .rw [d,t]
 .exact absurd (e.2 s) c
 .exact absurd ⟨a,b⟩ f
 .exact absurd (e.1 c) s
 .rw [d,t]
def Xp   {a:List Ay} {p q:List Nd} {k:Nat} {h:Ay} (g:a[k]?=some h) (c:C6 (Pg now) a p q) (f:Bc vs nh p):∃ m b,Bc vs (Sk now (a.take k)) m/\Pf m h.dq now (Ml now h) h.v 0 b:=by
 have e:a=a.take k++h :: a.drop (k+1):=by have:=Or (k+1) a;rw [Qs g,Ky] at this;exact this.symm
 rw [e] at c;obtain ⟨m,b,h1,d,_⟩:=Atj c;exact ⟨m,b,(Sj h1 f).1.gq (Si _),d⟩
def Ahv  {l:List α} {i k:Nat} {x:α} (h:l[i]?=some x) (a:i<k):(l.take k)[i]?=some x:=by rw [Ls,Ad a];exact h
def Ahw  (l:List α) {i k:Nat} (a:i<=k):(l.take k).take i=l.take i:=by rw [Vk,Ly a]
def Atn    {hs:List Ay} {r r':Int} {q q':List Nd} (h:Jc vs un now hs r q) (v:Jc vs un now hs r' q'):r=r':=by
 rcases h with ⟨a,b⟩ | ⟨a,ps,hf,h⟩<;>rcases v with ⟨u,b'⟩ | ⟨u,ad,z,v⟩
 .rw [b,b']
 .exact absurd u a
 .exact absurd a u
 .have k:=Abc hf;have t:=Abc z
  rcases h with ⟨e,p⟩ | ⟨e,i,x,m,m2,hx,p,y⟩<;>rcases v with ⟨s,d⟩ | ⟨s,i',x',m',ac,f,d,j⟩
  .rw [e,s]
  .obtain ⟨n,n',h1,g⟩:=Xp f p k;have l:=(Sj d t).1.gq (Si _);rw [e];exact Sn h1 l g.1 j.1
  .obtain ⟨n,n',h1,g⟩:=Xp hx d t;have l:=(Sj p k).1.gq (Si _);rw [s];exact Sn l h1 y.1 g.1
  .have l:=(Sj p k).1.gq (Si _);have o:=(Sj d t).1.gq (Si _);rcases Nat.lt_trichotomy i i' with c | c | c
   .obtain ⟨n,n',h1,g⟩:=Xp (Ahv hx c) d t;rw [Ahw _ (Rk c)] at h1;have:=Sn l h1 y.1 g.1;exact absurd this e
   .subst c;rw [hx] at f;cases f;exact Sn l o y.1 j.1
   .obtain ⟨n,n',h1,g⟩:=Xp (Ahv f c) p k;rw [Ahw _ (Rk c)] at h1;have:=Sn h1 o g.1 j.1;exact absurd this.symm s
def Ato {a:Ask} (h:a.can=true):0<a.nodes/\0<a.aa/\a.v.right=true:=by
 simp [Ask.can] at h;exact ⟨h.1.1,h.1.2,h.2⟩
def Atp {p q:List Nd} (c:q.length=p.length) (e:Od p q) (zs:List Int) (b:Int) (v:V4) (u:Int):ga q zs b v u=ga p zs b v u:=by
 unfold ga Iy;apply List.filter_congr;intro j _;unfold Iw;by_cases a:j<p.length
 .rw [e j a,c]
 .have h1:=Ax a;have d:decide (j<q.length)=false:=Ax (by rw [c];exact a);rw [h1,d];simp
def Ahx  {R:α->β->β->Prop} {x:α} {p m:β} (h:R x p m):C6 R [x] p m:=⟨m,h,rfl⟩
def Ahy  {a:List Bool}  {x:Ask×Bool} {U:Bw} {p m:List Nd} (h:Li now a x p m) (k:Bc vs U p):Bc vs (Aw U (Cv now x)) m:=by
 have:=(Xo (Ahx h) k).1;exact this.gq (by simp [Fi,Oh])
def Atq  {z:List Bool} :∀ {st c:List (Ask×Bool)} {U:Bw} {p o q u:List Nd},C6 (Li now z) st p q->C6 (Li now z) c o u->Bc vs U p->Bc vs U o->st.map Prod.fst=c.map Prod.fst->st=c:=by
 intro st
 induction st with
 | nil=>
  intro c U p o q u _ _ _ _ e
  cases c with
  | nil=>rfl
  | cons y ys=>simp at e
 | cons x xs ih=>
  intro c U p o q u h h' k k' e
  cases c with
  | nil=>simp at e
  | cons y ys=>
   obtain ⟨m,h1,h2⟩:=h;obtain ⟨m',g,t⟩:=h';obtain ⟨a,b⟩:=x;obtain ⟨a',v⟩:=y;simp only [Ka,List.cons.injEq] at e;obtain ⟨e1,e2⟩:=e;have s:=e1;subst s
   have hb:b=v:=by
    rcases h1 with ⟨i,d,_⟩ | ⟨i,d,j,_⟩ | ⟨i,d,r,j,c4⟩<;>rcases g with ⟨l,f,_⟩ | ⟨l,f,n,_⟩ | ⟨l,f,r',n,d4⟩
    .exact Eq.trans d (Eq.symm f)
    .exact Eq.trans d (Eq.symm n)
    .exact absurd l (by have:a.start<0:=i;show ¬ 0<=a.start;omega)
    .exact Eq.trans j (Eq.symm f)
    .exact Eq.trans j (Eq.symm n)
    .exact absurd f d
    .exact absurd i (by have:a.start<0:=l;show ¬ 0<=a.start;omega)
    .exact absurd d f
    .have hr:=Sn k k' j.1 n.1;subst hr;have c5:b=true↔r=0:=c4;have d5:v=true↔r=0:=d4;rw [Nw,c5,d5]
   subst hb;rw [ih h2 t (Ahy h1 k) (Ahy g k') e2]
def Az.key (s:Az):Int×Int×List Int:=(s.id,s.start,s.dq)
def Ahz  {b:List Bool}  {x:(Ask×Bool)×Az} {U:Bw} {p q:List Nd} (a:0<=now) (h:Ni now b x p q) (k:Bc vs (Aw U (Cv now x.1)) p) (d:nn U) (e:x.1.2=true->Sl vs now b x.1.1) :
  Bc vs (Aw U (Nj x)) q/\Sm vs now b x.1.1 x.2:=by
 obtain ⟨h1,c⟩:=Ahu (rd:=[x]) a (Ahx h) (k.gq (by simp [Fi,Oh])) d (fun y f=>by
  rcases Jq.1 f with rfl
  exact e)
 exact ⟨h1.gq (by simp [Fi,Oh]),c x (List.mem_singleton_self x)⟩
def Ah0  {c:List Bool}  {x:Ask×Bool} {U:Bw} {p m:List Nd} (h:(x.2=false/\m=p)\/(x.2=true/\∃ r,Xk p x.1.dq (Em now x.1) (Em now x.1+x.1.aa) x.1.v r m)) (k:Bc vs (Aw U (Cv now x)) p) (f:nn U) (b:x.2=true->Sl vs now c x.1):Bc vs U m:=by
 rcases h with ⟨a,rfl⟩ | ⟨a,r,d,e⟩
 .exact k.gq (by simp [Cv,a,Oh])
 .have b:=b a;exact (Ahq (k.gq (by simp [Cv,a])) f b.ak b.span e d).2
def Atr {now st c:Int} {r:List Bool}  {a:Ask} {zs d:List Int} {U:Bw} {p o q q':List Nd} (h:Qu now r a st zs p q) (h':Qu now r a c d o q') (k:Bc vs U p) (s:Bc vs U o):st=c/\zs=d:=by
 have hl:o.length=p.length:=by rw [k.len,s.len]
 rcases h with ⟨g,i,j,_⟩ | ⟨g,t,xs,is,i,j,v⟩<;>rcases h' with ⟨b,l,m,_⟩ | ⟨b,t',ac,n,l,m,x⟩
 .exact ⟨i.trans l.symm,j.trans m.symm⟩
 .rw [g] at b;cases b
 .rw [g] at b;cases b
 .obtain ⟨y,z,e3⟩:=i.same l (fun u=>Atp hl (Ahr k s rfl) _ _ _ u);subst y z e3
  cases n with
  | false=>obtain ⟨a1,a2,_⟩:=j rfl;obtain ⟨e,f,_⟩:=m rfl;exact ⟨a1.trans e.symm,a2.trans f.symm⟩
  | true=>obtain ⟨a1,a2,_⟩:=v rfl;obtain ⟨e,f,_⟩:=x rfl;exact ⟨a1.trans e.symm,a2.trans f.symm⟩
def Ats {x y:(Ask×Bool)×Az} (h:x.1=y.1) (k:x.2.key=y.2.key):Nj x=Nj y:=by
 obtain ⟨a,s⟩:=x;obtain ⟨b,t⟩:=y;have c:a=b:=h;subst c;simp only [Az.key,Rj] at k;simp [Nj,Ic,k.2.1,k.2.2]
def Att  {s:List Bool}  (d:0<=now):∀ {rd a:List ((Ask×Bool)×Az)} {U:Bw} {p r q q':List Nd},C6 (Ni now s) rd p q->C6 (Ni now s) a r q' ->
  Bc vs (Aw U (Fi (rd.map fun x=>Cv now x.1))) p->Bc vs (Aw U (Fi (rd.map fun x=>Cv now x.1))) r->nn U->(∀ x,x∈rd->x.1.2=true->Sl vs now s x.1.1)->rd.map Prod.fst=a.map Prod.fst->rd.map (fun x=>x.2.key)=a.map (fun x=>x.2.key):=by
 intro rd
 induction rd with
 | nil=>
  intro a U p r q q' _ _ _ _ _ _ e
  cases a with
  | nil=>rfl
  | cons y ys=>simp at e
 | cons x xs ih=>
  intro a U p r q q' h h' k k' hn ho e
  cases a with
  | nil=>simp at e
  | cons y ys=>
   simp only [Ka,List.cons.injEq] at e;obtain ⟨f,e2⟩:=e;obtain ⟨m,h1,h2⟩:=h;obtain ⟨m',j,v⟩:=h'
   have hV:nn (Fi (xs.map fun x=>Cv now x.1)):=Abb fun z hz=>by
    obtain ⟨u,hu,rfl⟩:=Ba.1 hz;unfold Cv;split
    .next hb=>exact Ug (Pi (ho u (Ce _ hu) hb).span).2.2.2
    .exact Ue
   have l:∀ (A B C:Bw),Aw A (Aw B C)=Aw (Aw A C) B:=fun A B C=>by rw [Ud B C,Mm]
   have kp:Bc vs (Aw (Aw U (Fi (xs.map fun x=>Cv now x.1))) (Cv now x.1)) p:=k.gq (l _ _ _);have o:Bc vs (Aw (Aw U (Fi (xs.map fun x=>Cv now x.1))) (Cv now x.1)) r:=k'.gq (l _ _ _);have c:=ho x (Dl ..);have b:=Uf hn hV;obtain ⟨a1,a2⟩:=Ahz d h1 kp b c;obtain ⟨b1,b2⟩:=Ahz d j (by rw [<- f];exact o) b (by rw [<- f];exact c);have hk:x.2.key=y.2.key:=(by obtain ⟨n,g1,g2,g3⟩:=h1;obtain ⟨n',t,g,i⟩:=j;have kn:=Ah0 g1 kp b c;have ad:=Ah0 t (by rw [<- f];exact o) b (by rw [<- f];exact c);rw [<- f] at i g;obtain ⟨f1,f2⟩:=Atr g3 i kn ad;simp only [Az.key,Rj];exact ⟨g2.trans g.symm,f1,f2⟩);have ac:nn (Nj x):=Ati a2;rw [Ka,Ka,hk];refine Ca _ (ih h2 v (U:=Aw U (Nj x)) (a1.gq ?_) (b1.gq ?_) (Uf hn ac) (fun z hz=>ho z (Ce _ hz)) e2)
   .rw [Mm,Ud _ (Nj x),<- Mm]
   .rw [<- Ats f hk,Mm,Ud _ (Nj x),<- Mm]
def Atu   {l:List Bool} {o:List Ay} {a:List Ask} {q r:List Az} (h1:Lj vs now l o a q) (u:Lj vs now l o a r):q.map Az.key=r.map Az.key:=by
 obtain ⟨ps,q1,q2,st,rd,l1,m,s,r1,f,t⟩:=h1.go;obtain ⟨ac,ad,al,an,am,j,b,d,k,g,h⟩:=u.go;obtain ⟨ok,p,v⟩:=Xn l1;obtain ⟨_,c,_⟩:=Xn j;have e:=Atq m b p c (s.trans d.symm);subst e;obtain ⟨k2,y⟩:=Xo m p;obtain ⟨i,_⟩:=Xo b c;have n:(rd.map fun x=>Cv now x.1)=st.map (Cv now):=by rw [<- f,Dn];rfl
 have:=Att ok.lo r1 k (by rw [n];exact k2) (by rw [n];exact i) (Aht v) (fun x z=>y x.1 (by rw [<- f];exact Ku z)) (f.trans g.symm);rw [<- t,<- h,Dn,Dn];exact this
def Ask.er (a:Ask):Ask:={ a with po:=none,pn:=0,pc:=0,go:=none,gn:=0,gc:=0 }
def Ay.er (h:Ay):Ay:={ h with go:=none,gn:=0,gc:=0 }
def Az.er (s:Az):Az:={ s with go:=Option.none,gn:=0,gc:=0 }
def Xq {α γ β:Type} {R:α->β->β->Prop} {S:γ->β->β->Prop} {f:α->γ} (b:∀ x p q,R x p q->S (f x) p q) {xs:List α}:∀ {p q:β},C6 R xs p q->C6 S (xs.map f) p q:=by
 induction xs with
 | nil=>intro p q h;exact h
 | cons x xs ih=>intro p q ⟨m,h1,a⟩;exact ⟨m,b _ _ _ h1,ih a⟩
def Atv {b:List Bool} {a:Ask} :Nh b a zs↔Nh b a.er zs:=⟨fun h=>⟨h.ur,h.az,h.len⟩,fun h=>⟨h.ur,h.az,h.len⟩⟩
def Ah1 {b:List Bool} {now start:Int} {a:Ask} :Mj b now a start zs↔Mj b now a.er start zs:=by
 unfold Mj;rw [Atv];exact Iff.rfl
def Atw  {d:List Bool} (x:Ask×Bool) (p q:List Nd) (h:Li now d x p q):Li now d (x.1.er,x.2) p q:=by
 rcases h with h | ⟨h1,a,b⟩ | ⟨h1,a,b⟩
 .exact .inl h
 .exact .inr (.inl ⟨h1,fun c=>a (Ah1.2 c),b⟩)
 .exact .inr (.inr ⟨h1,Ah1.1 a,b⟩)
def Atx  {a:List Bool} (x:(Ask×Bool)×Az) (p q:List Nd) (h:Ni now a x p q):Ni now a ((x.1.1.er,x.1.2),x.2.er) p q:=h
def Abe  {d:Nat}  {c:List Ay} {r:Int} {q:List Nd} (h:Jc vs d now c r q):Jc vs d now (c.map Ay.er) r q:=by
 rcases h with h | ⟨ok,a,b,h | ⟨g,k,x,m,l,j,e,i⟩⟩
 .exact .inl h
 .exact .inr ⟨ok,a,b,.inl ⟨h.1,Xq (S:=Pg now) (f:=Ay.er) (fun _ _ _ h=>h) h.2⟩⟩
 .exact .inr ⟨ok,a,b,.inr ⟨g,k,x.er,m,l,by simp [j],by rw [<- List.map_take];exact Xq (S:=Pg now) (f:=Ay.er) (fun _ _ _ h=>h) e,i⟩⟩
def Ah2   {c:List Bool} {d:List Ay} {b:List Ask} {a:List Az} (h:Lj vs now c d b a):Lj vs now c (d.map Ay.er) (b.map Ask.er) (a.map Az.er):=by
 obtain ⟨k,l,m,st,rd,j,e,f,n,g,i⟩:=h.go;refine ⟨k,l,m,st.map fun x=>(x.1.er,x.2),rd.map fun x=>((x.1.1.er,x.1.2),x.2.er),Abe j,Xq Atw e,?_,Xq Atx n,?_,?_⟩
 .rw [<- f,Dn,Dn];rfl
 .rw [<- g,Dn,Dn];rfl
 .rw [<- i,Dn,Dn];rfl
