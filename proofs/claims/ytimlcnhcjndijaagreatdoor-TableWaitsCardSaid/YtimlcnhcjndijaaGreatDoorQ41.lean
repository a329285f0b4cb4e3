/- Parts Psm, Sbw, Apy. Plain theorems: no condition. -/
import Derived.Test.YtimlcnhcjndijaaGreatDoorQ40
set_option linter.all false
set_option maxRecDepth 100000
set_option maxHeartbeats 12800000
namespace Go.Proofs.YtimlcnhcjndijaaGreatDoor
open Go.RowKit Go.Maps Go.Lib
def Aaq {S:Nat->Prop} {w w':World} {so:Option Addr} {n:Nat} {zs:List Int} (h:Pl.Ap w so n zs) (d:Mod S w w') (f:∀ b a,so=some ⟨b,a,none⟩->¬ S b):Pl.Ap w' so n zs:=
 ⟨h.len,h.max,fun i g=>by
  obtain ⟨b,a,e,c,j⟩:=h.cell i g;refine ⟨b,a,e,Br c d.size,?_⟩;rw [<- j]
  simp only [World.cell?,d.block b c (f b a e)]⟩
def Avv {S:Nat->Prop} {w w':World} {so:Option Addr} {n:Nat} {ss:List Pl.Au} (h:Pl.Tu w so n ss) (d:Mod S w w') (k:∀ b a,so=some ⟨b,a,none⟩->¬ S b) (l:∀ s,s∈ss->∀ b a,s.go=some ⟨b,a,none⟩->¬ S b):Pl.Tu w' so n ss:=
 ⟨h.len,h.max,fun i x f=>by
  obtain ⟨b,a,e,c,m,g⟩:=h.cell i x f;refine ⟨b,a,e,Br c d.size,fun j o=>?_,⟨Aaq g.aj d (l x (Aj f)),g.oi⟩⟩;rw [<- m j o]
  simp only [World.cell?,d.block b c (k b a e)]⟩
def Bq.vh {w wr:World} {T:Tv} {js:List (Nat×ai)} (h:Bq w T js wr) {b:Nat} (c:({ T with js:=js }:Tv).ay b):T.ay b:=by
 rcases c with e | e | e | e | ⟨j,g,e⟩
 .exact .inl e
 .exact .inr (.inl e)
 .exact .inr (.inr (.inl e))
 .exact .inr (.inr (.inr (.inl e)))
 .obtain ⟨i,a⟩:=Dr g;have a:js[i]?=some j:=a;have d:i<T.js.length:=by rw [<- h.len];exact (Aq.1 a).1
  have f:=Am d;have k:=h.kp i _ j f a;refine .inr (.inr (.inr (.inr ⟨_,Ls d,e.imp (fun e=>?_) (fun e=>k.pb b e)⟩)));have h1:(js.map Prod.fst)[i]?=some j.1:=by simp [a]
  rw [h.aq,Bx,f] at h1;injection h1 with h1;rw [<- e];exact h1
structure mz (w w5 wx:World) (T:Tv) (js:List (Nat×ai)) (wr:World):Prop where
 tab:Dy w T T.jv js wr
 xa:∀ b,({ T with jv:=T.jv,js:=js }:Tv).ay b->b<w5.heap.size\/wx.heap.size<=b
 low:Mod (fun k=>k<w5.heap.size) wx wr
 du:Gz w5 T.js js
 res:wr.heap[w.heap.size+1]?=some (.cells #[.int .i64 0,.int .i64 0,.int .i64 0] 35 (0,0))
 le:w.heap.size+2<=w5.heap.size
variable {w w5 wx wr w':World} {T:Tv} {js js2:List (Nat×ai)}
def mz.start {x:cu} (h0:Ci w T x js2 w5) (e:Below w5.heap.size w5 wx) (h:Bq wx { T with js:=js2 } js wr):mz w w5 wx T js wr:=by
 have a:=(h0.low e).then h
 have d:∀ b,({ T with js:=js2 }:Tv).ay b->b<w5.heap.size:=fun b c=>h0.tab.at_.mw c;exact ⟨⟨a.tab.at_,a.tab.ay,a.tab.mod⟩,fun b c=>.inl (d b (h.vh (T:={ T with js:=js2 }) c)),h.mod.mono (fun k _ c=>d k c),a.tab.stays,a.res,by have:=Ab h0.res;omega⟩
def mz.drop (h:mz w w5 wx T js wr) (a:Below wr.heap.size wr w'):mz w w5 wx T js w':=
 ⟨h.tab.low a,h.xa,h.low.low a,h.du,Ae a h.res (Ab h.res),h.le⟩
def mz.set (h:mz w w5 wx T js wr) {k f:Nat} {x y:ai} (hx:js[k]?=some (f,x)) (hm:Mod (F0 (f,x)) wr w') (s:A9 w' f y) (hp:Bu w' y) (t:∀ b,y.pb=some b->x.pb=some b\/wr.heap.size<=b)
  (a:y.so=x.so/\y.sn=x.sn/\y.sc=x.sc/\y.pl.sp=x.pl.sp)
  (u:(y.go=x.go/\y.gn=x.gn/\y.gc=x.gc/\y.pl.aj=x.pl.aj)\/(Pl.Ap wx y.go y.gn y.pl.aj/\y.gn<=y.gc/\∀ b n,y.go=some ⟨b,n,none⟩->w5.heap.size<=b)):mz w w5 wx T (js.set k (f,y)) w':=by
 have hA:=h.tab.at_;have p:=Aj hx;have d:=hA.ok _ p;have hJ:∀ q,F0 (f,x) q->({ T with jv:=T.jv,js:=js }:Tv).ay q:=fun q c=>.inr (.inr (.inr (.inr ⟨_,p,c.imp (fun e=>e.symm) id⟩)));have r:=hm.mono fun q _ c=>hJ q c
 have g:∀ q,(({ T with jv:=T.jv,js:=js }:Tv).br k (f,y)).ay q->({ T with jv:=T.jv,js:=js }:Tv).ay q\/wr.heap.size<=q:=fun q c=>by
  rcases Rp (T:={ T with jv:=T.jv,js:=js }) (j:=(f,y)) hx rfl c with c | c
  .exact .inl c
  .rcases t q c with c | c
   .exact .inl (hJ q (.inr c))
   .exact .inr c
 have i:∀ q,q<wr.heap.size->(({ T with jv:=T.jv,js:=js }:Tv).br k (f,y)).ay q->({ T with jv:=T.jv,js:=js }:Tv).ay q:=fun q v c=>(g q c).resolve_right (by omega);have ad:=h.low.size
 have l:∀ q,(({ T with jv:=T.jv,js:=js }:Tv).br k (f,y)).ay q->q<w5.heap.size\/wx.heap.size<=q:=fun q c=>by
  rcases g q c with c | c
  .exact h.xa q c
  .exact .inr (by omega)
 have m:=h.low.then hm fun q v c=>(h.xa q (hJ q c)).resolve_right (by omega)
 have ha:D5 w' (({ T with jv:=T.jv,js:=js }:Tv).br k (f,y)).ay y.so y.sn y.pl.sp.after:=by obtain ⟨z,e2,_,e4⟩:=a;rw [z,e2,e4];exact d.after.mod r i
 have hg:D5 w' (({ T with jv:=T.jv,js:=js }:Tv).br k (f,y)).ay y.go y.gn y.pl.aj/\y.gn<=y.gc:=by
  rcases u with ⟨z,e2,e3,e4⟩ | ⟨g1,g2,g3⟩
  .rw [z,e2,e3,e4];exact ⟨d.aj.mod r i,d.mi⟩
  .refine ⟨⟨Ap.vp (Aaq g1 m fun b n e c=>?_),fun h0 b o e hS=>?_⟩,g2⟩
   .have:=g3 b n e;omega
   .have:=g3 b o e;obtain ⟨b',ac,e',al,_⟩:=g1.cell 0 h0;rw [e] at e';cases e'
    rcases l b hS with c | c<;>omega
 refine ⟨h.tab.set hx rfl hm s hp t ha ?_ hg.1 hg.2 ?_ ?_,l,m,fun j hj=>?_,?_,h.le⟩
 .show y.sn<=y.sc;rw [a.2.1,a.2.2.1];exact d.nu
 .show y.pl.sp.user.size<=maxLen;rw [a.2.2.2];exact d.user
 .show y.pl.sp.part.size<=maxLen;rw [a.2.2.2];exact d.part
 .rcases Uu hj with hj | rfl
  .exact h.du j hj
  .obtain ⟨c1,c2⟩:=h.du _ p;refine ⟨fun h0 q o e v=>?_,fun h0 q o e v=>?_⟩
   .have h0:0<y.sn:=h0;have e:y.so=some ⟨q,o,none⟩:=e;exact c1 (by rw [<- a.2.1];exact h0) q o (by rw [<- a.1];exact e) v
   .have h0:0<y.gn:=h0;have e:y.go=some ⟨q,o,none⟩:=e;rcases u with ⟨z,e2,_,_⟩ | ⟨_,_,g3⟩
    .exact c2 (by rw [<- e2];exact h0) q o (by rw [<- z];exact e) v
    .have:=g3 q o e;omega
 .exact r.aq h.res (hA.off h.res (by decide) (by decide) (by decide) (by decide) (by decide))
def mz.done {l:Tv} (h:mz w w5 wx T js wr) (h0:An w l) (d:T.js=l.js) (m:T.tb=l.tb) (r s t:Value):Ek w T { T with js:=js } (((wr.setCell ⟨w.heap.size+1,0,none⟩ r).setCell ⟨w.heap.size+1,1,none⟩ s).setCell ⟨w.heap.size+1,2,none⟩ t):=by
 have u:=(((Mod.refl (fun k=>k=w.heap.size+1) wr).set _ 0 r rfl).set _ 1 s rfl).set _ 2 t rfl;have v:=Ab h0.head;have x:=h.le;refine ⟨h.tab.at_.eo h.res u (by show T.tb<_;rw [m];omega) (by decide) (by decide) (by decide) (by decide) (by decide) (by decide) fun j n=>?_,rfl,rfl,rfl,rfl,rfl,h.tab.ay,h.tab.mod.then u (fun k g e=>by omega),fun j n=>?_⟩
 .obtain ⟨p,q⟩:=h.du j n;refine ⟨fun a k o e g=>?_,fun a k o e g=>?_⟩
  .obtain ⟨i,f,b,c⟩:=p a k o e (by omega);rw [d] at f;have:=K9 (h0.ok i f).after.row b c;omega
  .obtain ⟨i,f,b,c⟩:=q a k o e (by omega);rw [d] at f;have:=K9 (h0.ok i f).aj.row b c;omega
 .obtain ⟨p,q⟩:=h.du j n;exact ⟨fun a k o e g=>p a k o e (by omega),fun a k o e g=>q a k o e (by omega)⟩
def An.rowAt {W:World} {T:Tv} {js:List (Nat×ai)} {a:Option Addr} {e b:Nat} (h:An W { T with js:=js }) (f:T.jv=.slice a e b) (q:js.length=e) {k:Nat} (r:k<e) :
  ∃ g j,a=some ⟨g,0,none⟩/\js[k]?=some j/\W.cell? ⟨g,k,none⟩=some (.pointer (some ⟨j.1,0,none⟩)):=by
 obtain ⟨j,l⟩:∃ j,js[k]?=some j:=⟨_,Am (by omega)⟩;obtain ⟨i,c,m,_,_,n⟩:=h.l8;obtain ⟨g,o,p⟩:=n k j l;have d:T.jv=.slice i js.length c:=m;rw [f] at d;injection d with d _ _;exact ⟨g,j,d.trans o,l,p⟩
def ai.slot (x:ai) (st:Int) (go:Option Addr) (gn gc:Nat) (zs:List Int):ai:={ x with pl:={ x.pl with start:=st,aj:=zs },go:=go,gn:=gn,gc:=gc }
def ai.part (x:ai) (p:Int×Int) (g n c:Nat):ai:={ x with pl:={ x.pl with parts:=x.pl.parts++[p] },po:=some ⟨g,0,none⟩,pn:=n,pc:=c }
def Ko (st:Int) (zs:List Int) (l:Lf) (k:Nat) (j:Jb):Jb:=⟨j.id,j.sp,l,st,zs,j.parts++(zs.take k).map fun n=>(n,0)⟩
def Avw (tick:Int) (l:List (Int×Int×List Int)) (x:Int×Int×List Int):∀ js:List Jb,Gh tick (l++[x]) js=Fn (Gh tick l js) x.1 (Lb tick x.2.1 x.2.2):=by
 induction l with
 | nil=>intro js;rfl
 | cons y l ih=>intro js;exact ih _
def Aar (tick:Int):∀ (l:List (Int×Int×List Int)) (js:List Jb),(Gh tick l js).length=js.length
 | [],_=>rfl
 | x :: l,js=>by
  show (Gh tick l (Fn js x.1 _)).length=_;rw [Aar tick l];unfold Fn;rw [Lp]
def Ahx (tick:Int):∀ (l:List (Int×Int×List Int)) (js:List Jb) (k:Nat),(∀ y,y∈l->1<=y.1/\y.1≠(k:Int)+1)->(Gh tick l js)[k]?=js[k]?
 | [],_,_,_=>rfl
 | x :: l,js,k,h=>by
  show (Gh tick l (Fn js x.1 _))[k]?=_;rw [Ahx tick l _ k (fun y a=>h y (D1 _ a))];obtain ⟨h1,b⟩:=h x E2;unfold Fn;rw [Fe]
  cases js[k]? with
  | none=>rfl
  | some j=>
   show some (if (x.1-1).toNat=k then _ else j)=some j;rw [Ac (by omega)]
def Avx {vs:List ax} {X:List Jb} (h:F7 vs X) (tick:Int) (d:List Bool) {i:Nat} {x:Int×Int×List Int} (n:(Gj vs tick d X)[i]?=some x) :
  ∃ (k:Nat) (j:Jb),X[k]?=some j/\x.1=(k:Int)+1/\j.lf.st=1/\j.parts=[]/\x.2.2.length<=16/\(x.2.1=tick->-1099511627776<=tick->True)/\(Gh tick ((Gj vs tick d X).take i) (X.map F4))[k]?=some j.bare:=by
 obtain ⟨h1,o⟩:=Ahk h tick d;obtain ⟨k,j,g,e,m,r⟩:=o x (Aj n);have b:j.lf.st=1:=by unfold Ji at m;simp at m;exact m.1
 have s:=(h k j g).idle (by rw [b];rfl);refine ⟨k,j,g,e,b,s,?_,fun _ _=>trivial,?_⟩
 .rcases r with ⟨_,a⟩ | ⟨_,a,_⟩
  .rw [a];simp
  .have:=a.len;obtain ⟨_,_,_,_,t,_⟩:=Iu (Kn (h k j g).ga);obtain ⟨_,p⟩:=Ib.1 t;have p:j.sp.nodes<=16:=p;omega
 .rw [Ahx tick _ _ k (fun y u=>?_),Bx,g]
  .show some (F4 j)=_;unfold F4;rw [Ad b]
  .obtain ⟨q,l⟩:=Dr u;have f:q<i:=(by have:=(Aq.1 l).1;rw [Ff] at this;omega);rw [Lq,Ad f] at l;obtain ⟨k',j',_,e',_⟩:=o y (Aj l);refine ⟨by omega,fun c=>?_⟩;have v:((Gj vs tick d X).map Prod.fst)[q]?=some y.1:=(by simp [l]);have z:((Gj vs tick d X).map Prod.fst)[i]?=some x.1:=(by simp [n]);exact Fl h1 v z f (by omega)
def Avy (tick:Int) (zs:List Int) (j:Jb):Lb tick tick zs j=Ko tick zs (Ay j.lf 3).1 zs.length j:=by
 unfold Lb Ko;rw [Ad rfl,On]
def Avz {tick st:Int} (zs:List Int) (j:Jb) (h:st≠tick):Lb tick st zs j=Ko st zs j.lf 0 j:=by
 unfold Lb Ko;rw [Ac h];simp
end Go.Proofs.YtimlcnhcjndijaaGreatDoor
namespace Go.Proofs.YtimlcnhcjndijaaGreatDoor
open Go.RowKit Go.Maps Go.Lib
def Awa {w:World} {T:Tv} (xn:bz) (bG:Option Addr) (xm xc:Nat) (d:List au) (h:An w T) (hA:Dm T.vs T.pl.ab) (hj:T.js.length<=100) (bH:∀ W',Mod T.ay w W'->Kc W' bG xm d) (hm:xm<=1000) (h0:(B5 T.vs T.js.length (d.map au.pl)).2=0) :
  Calls Tryz.prog 82 #[.pointer (some ⟨T.tb,0,none⟩),(⟨xn,bG,xm,xc,d⟩:cu).val] w (Pe w T (Js T.vs T.pl (d.map au.pl)).1 (Js T.vs T.pl (d.map au.pl)).2):=by
 obtain ⟨iP,cV,cW,bP,bQ⟩:=C0 Av5;have aE:=re.new w ⟨xn,bG,xm,xc,d⟩;obtain ⟨W0,cX⟩:=Ex ((w.alloc (.cells (⟨xn,bG,xm,xc,d⟩:cu).cells 40 (0,0))).alloc (.cells #[.int .i64 0,.int .i64 0,.int .i64 0] 35 (0,0)));rw [<- cX] at aE;have cY:T.pl.ab.length=T.js.length:=by simp [Tv.pl]
 obtain ⟨R,hR⟩:=Ex ((B5 T.vs T.js.length (d.map au.pl)).1);have bR:B5 T.vs T.js.length (d.map au.pl)=(R,0):=by rw [hR,<- h0]
 obtain ⟨o1,o2,o3⟩:=Aaj h0;have dJ:=Aaf (by rw [<- o3];exact h0);rw [<- o3,<- hR] at dJ;obtain ⟨r1,_,r3,_,r5⟩:=dJ;have bI:=(bH w (Mod.refl _ _)).len;have bS:R.length=xm:=by rw [r1,Ax,Ax,bI]
 have aS:∀ l,l∈R->l.length<=1000:=fun l hl=>by
  obtain ⟨_,l0,d5,ch⟩:=r5 l hl;obtain ⟨s,hs,rfl⟩:=Bd.1 d5;obtain ⟨_,_,_,q4,_⟩:=Iu (Kn (o1 s hs));have:=Vf q4;omega
 have ci:∀ s,s∈d->Di s.pl=true:=fun s hs=>Kn (o1 _ (Ks hs));have aW:Js T.vs T.pl (d.map au.pl)=(T.pl.eh (Dw (Ev ((d.map au.pl).zip R) T.pl.ab)),⟨0,0,(T.js.length:Int)+1,((Ev ((d.map au.pl).zip R) T.pl.ab).length:Int)⟩):=by unfold Js;rw [cY,bR]
 have bk:Dm T.vs (Dw (Ev ((d.map au.pl).zip R) T.pl.ab))/\(Dw (Ev ((d.map au.pl).zip R) T.pl.ab)).length<=100:=by have:=Agw (vs:=T.vs) (t:=T.pl) (l:=d.map au.pl) hA (by rw [cY];exact h0);rw [aW] at this;exact this
 obtain ⟨so,cap,cj,ch,bT,_⟩:=h.l8;have aX:=Av9 (h.low aE.low) (by omega) bG xm xc d (bH W0 (Mod.af aE.low)) hm bR;have e9:=Bk aE.box 9 (.slice bG xm xc) rfl;have ck:=(Dy.refl h).low aE.low;obtain ⟨N,hN⟩:=Ex (T.js.length);obtain ⟨tb,ht⟩:=Ex (T.tb);have d6:IntKind.i64.wrap ((N:Int)+1)=(N:Int)+1:=F5 (by omega) (by omega);have d7:N<=100:=by omega
 rw [<- ht] at aX;rw [<- ht];rw [aW];clear hR h0 cY;replace ⟨h,hA,bH,hm,bR,o1,o2,o3⟩:=H8 h hA bH hm bR o1 o2 o3;replace ⟨r1,r3,r5,bI,bS,aS,ci,aW⟩:=H8 r1 r3 r5 bI bS aS ci aW;replace ⟨bk,cj,ch,bT,aX,aE,ck,hN⟩:=H8 bk cj ch bT aX aE ck hN;replace ⟨ht,cV,cW,bP,bQ,hj⟩:=H6 ht cV cW bP bQ hj;go_enter Tryz.func82,Tryz.ntmps82;go_upto_region 1 with fail;rw [<- cX];clear cX;go_upto_region 2 with (go_at_call 58;(with_reducible refine (aX.out).mono ?_);rintro e w1 ⟨g,s2,rfl,aT,aY⟩;replace ⟨aT,aY⟩:=H2 aT aY);have bU:=ck.out.low aY.out;have c4:w1.cell? ⟨tb,4,none⟩=some (.slice so N cap):=by rw [ht.out,hN.out,<- cj.out];exact Aa bU.at_.head 4
 have dK:=(Ag aY.out (Ab aE.out.box)).trans e9;have cZ:=Br (Ab aE.out.box) aY.out.size;clear e9;replace bU:=Hh bU;go_upto_region 3 with fail;obtain ⟨W2,cl⟩:=Ex (w1.alloc (.cells #[.int .i64 0,.int .i64 ((N:Int)+1),.int .i64 0] 35 (0,0)));obtain ⟨rb,cm⟩:=Ex (w1.heap.size);have a6:Below w1.heap.size w1 W2:=by rw [cl];exact Bn
 have bl:W2.heap[rb]?=some (.cells #[.int .i64 0,.int .i64 ((N:Int)+1),.int .i64 0] 35 (0,0)):=by rw [cl,cm];exact Af _ _
 rw [<- cl,<- cm];have dL:w.heap.size<rb:=by rw [cm];exact cZ
 clear cl cm;have e9:=(Ag a6 cZ).trans dK;have co:oo w T rb W0.heap.size g R.length s2 R T.jv T.js W2:=⟨bU.out.low a6,Ae a6 (Ae aY.out aE.out.res (Ab aE.out.res)) (Br (Ab aE.out.res) aY.out.size),by rw [<- hN.out];exact bl,aT.out.low a6,fun j hj=>⟨fun c k o e=>by have:=K9 (h.out.ok j hj).after.row c e;omega,fun c k o e=>by have:=K9 (h.out.ok j hj).aj.row c e;omega⟩,Gz.refl _ _⟩;have cp:T.js.map (fun j=>j.2.pl)=Ev (((d.map au.pl).zip R).take 0) T.pl.ab:=rfl;clear dK c4 cZ;replace ⟨a6,bl,co,cp⟩:=H4 a6 bl co cp;go_wp2_with fail;clear e9;go_loopw [8,9,11,12,13,32,40] (fun _ _ _ _ _ iv _ wr=>∃ (i:Nat) (jv:Value) (js:List (Nat×ai)),iv=.int .i64 i/\i<=xm/\Hid (oo w T rb W0.heap.size g R.length s2 R jv js wr)/\Hid (js.map (fun j=>j.2.pl)=Ev (((d.map au.pl).zip R).take i) T.pl.ab)/\Hid (js.length<=N+20*i)) (fun _ _ _ _ _ iv _ _=>xm-(intOf iv).toNat)
 case atStart=>exact ⟨0,T.jv,T.js,rfl,Av _,co,cp,Hh (by have:=hN.out;omega)⟩
 case round=>
  obtain ⟨i,jv,js,rfl,d8,hL,hX,cR⟩:=hrel;by_cases hc:i<xm
  .have dM:(i:Int)<xm:=(by omega);have d9:(0:Int)<=(i:Int):=(by omega);obtain ⟨sp,hx⟩:∃ sp,d[i]?=some sp:=⟨_,Am (by have:=bI.out;omega)⟩;have cr:=bH.out wr hL.out.sub.mod;obtain ⟨b,aF,rfl,c0,aA,bJ⟩:=cr.cell i sp hx;have bV:=ci.out sp (Aj hx);obtain ⟨row,ak⟩:∃ l,R[i]?=some l:=⟨_,Am (by have:=bS.out;omega)⟩;have bW:((d.map au.pl).zip R).take (i+1)=((d.map au.pl).zip R).take i++[(sp.pl,row)]:=J7 (by rw [List.getElem?_zip_eq_some];exact ⟨by rw [Bx,hx];rfl,ak⟩);have aU:=aS.out row (Aj ak);have bX:=fun W (hb:Below wr.heap.size wr W)=>Av8 (bJ.low hb) bV;have ct:=bJ.user;have cw:=bJ.part;obtain ⟨a7,aK⟩:=Ex (sp.pl.array.toNat);rw [<- aK] at bX;have bK:a7<=20:=(by obtain ⟨_,_,_,_,_,_,_,q8,_⟩:=Iu bV;obtain ⟨b1,b2⟩:=Ib.1 q8;omega);obtain ⟨S0,aI⟩:=Ex (sp.pl);rw [<- aI] at bW aK;have cx:i<R.length:=(by have:=bS.out;omega);have dN:(i:Int)<(R.length:Int):=(by omega);obtain ⟨⟨p,r,nodes,⟨da,db,dc,dd⟩,x,z,array,ae,f,after⟩,c1,sn,c3⟩:=sp;replace aI:S0=⟨p,r,nodes,⟨da,db,dc,dd⟩,x,z,array,ae,f,after⟩:=aI;have z0:wr.cell? ⟨b,aF+i*13,none⟩=some (.string p):=aA 0 (by omega);have z1:wr.cell? ⟨b,aF+i*13+1,none⟩=some (.string r):=aA 1 (by omega);have z2:wr.cell? ⟨b,aF+i*13+2,none⟩=some (.int .i64 nodes):=aA 2 (by omega);have z3:wr.cell? ⟨b,aF+i*13+3,none⟩=some (.int .i64 da):=aA 3 (by omega);have z4:wr.cell? ⟨b,aF+i*13+4,none⟩=some (.int .i64 db):=aA 4 (by omega);have z5:wr.cell? ⟨b,aF+i*13+5,none⟩=some (.int .i64 dc):=aA 5 (by omega);have z6:wr.cell? ⟨b,aF+i*13+6,none⟩=some (.int .i64 dd):=aA 6 (by omega);have z7:wr.cell? ⟨b,aF+i*13+7,none⟩=some (.int .i64 x):=aA 7 (by omega);have z8:wr.cell? ⟨b,aF+i*13+8,none⟩=some (.int .i64 z):=aA 8 (by omega);have z9:wr.cell? ⟨b,aF+i*13+9,none⟩=some (.int .i64 array):=aA 9 (by omega);have ea:wr.cell? ⟨b,aF+i*13+10,none⟩=some (.int .i64 ae):=aA 10 (by omega);have eb:wr.cell? ⟨b,aF+i*13+11,none⟩=some (.bool f):=aA 11 (by omega);have ec:wr.cell? ⟨b,aF+i*13+12,none⟩=some (.slice c1 sn c3):=aA 12 (by omega);replace ⟨hx,cr,c0,aA,bJ,bV,ak,bW⟩:=H8 hx cr c0 aA bJ bV ak bW;replace ⟨aU,bX,ct,cw,aK,bK,aI,cx⟩:=H8 aU bX ct cw aK bK aI cx;go_upto_region 6 with fail;clear z0 z1 z2 z3 z4 z5 z6 z7 z8 z9 ea eb ec;obtain ⟨nb,c5⟩:=Ex (wr.heap.size);obtain ⟨W3,cy⟩:=Ex (wr.alloc (.cells (⟨⟨p,r,nodes,⟨da,db,dc,dd⟩,x,z,array,ae,f,after⟩,c1,sn,c3⟩:au).cells 33 (0,0)));have bY:Below wr.heap.size wr W3:=(by rw [cy];exact Bn);have cA:W3.heap[nb]?=some (.cells (⟨⟨p,r,nodes,⟨da,db,dc,dd⟩,x,z,array,ae,f,after⟩,c1,sn,c3⟩:au).cells 33 (0,0)):=(by rw [cy,c5];exact Af _ _);rw [<- cy,<- c5];clear cy c5;obtain ⟨x0,x1,x2,x3,x4,x5,x6,x7,x8,x9,dO,dP,dQ⟩:=C13 cA;(try dsimp only at x0 x1 x2 x3 x4 x5 x6 x7 x8 x9 dO dP dQ);have bn:=bX.out W3 bY;replace ⟨bY,cA,bn⟩:=H3 bY cA bn;go_wp2_with (go_at_call 128;(with_reducible refine (bn.out).mono ?_);rintro e w4 ⟨g2,ef,c2,rfl,cB,aZ,cC,aV,cD⟩;replace ⟨cB,aZ,cC,aV,cD⟩:=H5 cB aZ cC aV cD);clear x0 x1 x2 x3 x4 x5 x6 x7 x8 x9 dO dP dQ;have cE:=(hL.out.low bY.out).low cD.out;have cF:js.map (fun j=>j.2.pl)=Iw S0 row (js.map fun j=>j.2.pl) 0:=rfl;replace ⟨cE,cF⟩:=H2 cE cF;go_loopw [11,12,13,40] (fun _ _ _ kv wr=>∃ (k:Nat) (jv:Value) (aC:List (Nat×ai)),kv=.int .i64 k/\k<=a7/\Hid (oo w T rb W0.heap.size g R.length s2 R jv aC wr)/\Hid (aC.map (fun j=>j.2.pl)=Iw S0 row (js.map fun j=>j.2.pl) k)/\Hid (wr.heap[g2]?=some (.cells c2 33 (0,0)))/\Hid (aC.length<=N+20*i+k)) (fun _ _ _ kv _=>a7-(intOf kv).toNat)
   case atStart=>exact ⟨0,jv,js,rfl,Av _,cE,cF,aZ,cR⟩
   case round=>
    obtain ⟨k,dR,aC,rfl,eg,hL,hY,aZ,bs⟩:=hrel;by_cases ej:k<a7
    .have cS:(k:Int)<a7:=(by omega);have em:(0:Int)<=(k:Int):=(by omega);obtain ⟨y,hy⟩:∃ y,ef[k]?=some y:=⟨_,Am (by have:=cB.out;have:=aK.out;rw [aI.out] at this;omega)⟩;have c6:=aV.out k y hy
     have aB:∀ o,o<13->wr.cell? ⟨g2,k*13+o,none⟩=y.cells[o]?:=fun o ho=>by rw [Aa aZ.out];exact cC.out.done k y hy o ho
     obtain ⟨en,c7,yn,yc⟩:=y;replace c6:en=⟨p,r,nodes,⟨da,db,dc,dd⟩,x,z,1,ae,f,after⟩:=c6;subst c6;have v0:wr.cell? ⟨g2,k*13,none⟩=some (.string p):=aB 0 (by omega);have v1:wr.cell? ⟨g2,k*13+1,none⟩=some (.string r):=aB 1 (by omega);have v2:wr.cell? ⟨g2,k*13+2,none⟩=some (.int .i64 nodes):=aB 2 (by omega);have v3:wr.cell? ⟨g2,k*13+3,none⟩=some (.int .i64 da):=aB 3 (by omega);have v4:wr.cell? ⟨g2,k*13+4,none⟩=some (.int .i64 db):=aB 4 (by omega);have v5:wr.cell? ⟨g2,k*13+5,none⟩=some (.int .i64 dc):=aB 5 (by omega);have v6:wr.cell? ⟨g2,k*13+6,none⟩=some (.int .i64 dd):=aB 6 (by omega);have v7:wr.cell? ⟨g2,k*13+7,none⟩=some (.int .i64 x):=aB 7 (by omega);have v8:wr.cell? ⟨g2,k*13+8,none⟩=some (.int .i64 z):=aB 8 (by omega);have v9:wr.cell? ⟨g2,k*13+9,none⟩=some (.int .i64 1):=aB 9 (by omega);have dS:wr.cell? ⟨g2,k*13+10,none⟩=some (.int .i64 ae):=aB 10 (by omega);have dT:wr.cell? ⟨g2,k*13+11,none⟩=some (.bool f):=aB 11 (by omega);have dU:wr.cell? ⟨g2,k*13+12,none⟩=some (.slice c7 yn yc):=aB 12 (by omega);replace ⟨hy,aB⟩:=H2 hy aB;go_upto_block 3 with fail;go_cut [11,12,13] (fun _ _ _ wx=>xe w T rb W0.heap.size g R.length s2 R (Iw S0 row (js.map fun j=>j.2.pl) (k+1)) (N+20*i+(k+1)) g2 c2 wx)
     case first=>
      go_upto_region 9 with fail;clear v0 v1 v2 v3 v4 v5 v6 v7 v8 v9 dS dT dU;obtain ⟨ob,c8⟩:=Ex (wr.heap.size);obtain ⟨W5,cG⟩:=Ex (wr.alloc (.cells (⟨⟨p,r,nodes,⟨da,db,dc,dd⟩,x,z,1,ae,f,after⟩,c7,yn,yc⟩:au).cells 33 (0,0)));have a8:Below wr.heap.size wr W5:=(by rw [cG];exact Bn);have bZ:W5.heap[ob]?=some (.cells (⟨⟨p,r,nodes,⟨da,db,dc,dd⟩,x,z,1,ae,f,after⟩,c7,yn,yc⟩:au).cells 33 (0,0)):=(by rw [cG,c8];exact Af _ _);rw [<- cG,<- c8];have bv:wr.heap.size<=ob:=(by omega);clear cG c8;have cH:=hL.out.low a8;obtain ⟨ep,rn,rc,rl,e1,e2,e3,e4,e5⟩:=cH.rows.get cx.out;rw [ak.out] at e2;injection e2 with e2;subst e2;obtain ⟨_,_,_,e6,e7,e8,_⟩:=P6 e5;injection e6 with a1 a2 a3;subst a1 a2 a3;have cI:rn<=1000:=(by have:=aU.out;omega);have cJ:=Wt ep rn rc row W5 e8 cI;have dV:=Ab bZ;replace ⟨a8,bZ,cH,bv,e1,e3,e5,e7⟩:=H8 a8 bZ cH bv e1 e3 e5 e7;replace ⟨e8,cI,cJ⟩:=H3 e8 cI cJ;go_upto_region 10 with (go_at_call 87;(with_reducible refine (cJ.out).mono ?_);rintro e w6 ⟨ao,nc,rfl,cK,cL,bL,b0⟩;have a9:=Ae b0 bZ.out dV;have dW:=Aa a9 12;have of:=Ah a9;simp at dW;replace ⟨cK,cL,bL,b0,a9⟩:=H5 cK cL bL b0 a9);obtain ⟨W7,b3⟩:=Ex (w6.setCell ⟨ob,12,none⟩ (.slice ao rn nc));have ba:W7.heap[ob]?=some (.cells (⟨⟨p,r,nodes,⟨da,db,dc,dd⟩,x,z,1,ae,f,after⟩,ao,rn,nc⟩:au).cells 33 (0,0)):=(by rw [b3];have:=Al a9.out 12 (.slice ao rn nc);simpa using this);have b4:Mod (fun k=>k=ob) w6 W7:=(by rw [b3];exact Mod.setCell (S:=fun k=>k=ob) w6 ob 12 (.slice ao rn nc) rfl);have bM:Below wr.heap.size wr W7:=by rw [b3];exact C9 (a8.out.trans (b0.out.mono a8.out.size)) bv.out
      have a0:∀ q o,ao=some ⟨q,o,none⟩->q≠ob:=fun q o e c=>by
       obtain ⟨_,_,_,cc,hc⟩:=bL.out q o e;rw [c,a9.out] at hc;injection hc with hc;injection hc with _ hc;exact absurd hc (by decide)
      have bw:=Ah0 cL.out b4 a0
      have bx:∀ q o,ao=some ⟨q,o,none⟩->∃ cc,W7.heap[q]?=some (.cells cc 3 (0,0)):=fun q o e=>by
       obtain ⟨_,_,_,cc,hc⟩:=bL.out q o e;exact ⟨cc,b4.aq hc (a0 q o e)⟩
      rw [<- b3];have cM:=hL.out.low bM;have eq:=Bk ba 10 (.int .i64 ae) rfl;have er:=Bk ba 11 (.bool f) rfl;have b5:=Ams ae f W7;obtain ⟨⟨fp,an,al,lw,am⟩,b6⟩:∃ l,l=(J3 ae f).1:=⟨_,rfl⟩;obtain ⟨eA,bA⟩:=Ex ((J3 ae f).2);rw [<- b6,<- bA] at b5;clear b3 dW of;replace ⟨ba,b4,bM,a0,bw,bx,cM,b5⟩:=H8 ba b4 bM a0 bw bx cM b5;replace ⟨b6,bA⟩:=H2 b6 bA;go_upto_region 11 with (go_at_call 129;(with_reducible refine (b5.out).mono ?_);rintro e w8 ⟨rfl,b7⟩;replace b7:=Hh b7);obtain ⟨W9,cN⟩:=Ex (w8.alloc (.cells #[.int .i64 fp,.int .i64 an,.int .i64 al,.bool lw,.bool am] 43 (0,0)));obtain ⟨lb,c9⟩:=Ex (w8.heap.size);have cO:Below w8.heap.size w8 W9:=(by rw [cN];exact Bn);have b8:W9.heap[lb]?=some (.cells #[.int .i64 fp,.int .i64 an,.int .i64 al,.bool lw,.bool am] 43 (0,0)):=(by rw [cN,c9];exact Af _ _);rw [<- cN,<- c9];clear cN c9 eq er;have aJ:=b7.out.trans (cO.mono b7.out.size);have b9:=Ae aJ ba.out (Ab ba.out);have aG:=cM.out.low aJ;have bB:=bw.out.low aJ
      have a4:∀ q o,ao=some ⟨q,o,none⟩->∃ cc,W9.heap[q]?=some (.cells cc 3 (0,0)):=fun q o e=>by
       obtain ⟨cc,hc⟩:=bx.out q o e;exact ⟨cc,Ae aJ hc (Ab hc)⟩
      have bC:=Ae (bM.out.trans (aJ.mono bM.out.size)) aZ.out (Ab aZ.out);obtain ⟨ap,ac,aL,ca,bb,_⟩:=aG.sub.at_.l8;obtain ⟨n2,aH⟩:=Ex (aC.length);replace aL:dR=.slice ap n2 ac:=(by rw [aH];exact aL);subst aL;have cb:n2<=30000:=(by have:=bs.out;have:=hm.out;have:=bK.out;omega);have eB:IntKind.i64.wrap ((n2:Int)+1)=(n2:Int)+1:=F5 (by omega) (by omega);have dg:=Je (n:=n2) (by omega);have dk:(n2+1)*8<=140737488355328:=(by omega);have m:=aG.sub.at_.head;replace m:W9.heap[tb]?=some (.cells #[.int .i64 T.ah,.int .i64 T.tick,.map (some T.mb),T.nv,.slice ap n2 ac,.pointer (some ⟨T.fb,0,none⟩),T.cv] 115 (0,0)):=(by rw [ht.out];exact m);have av:W9.ownsRow 0 125 1 (.slice ap n2 ac) n2 (aC.map fun j=>.pointer (some ⟨j.1,0,none⟩)):=by rw [aH];rw [aH] at aG;exact aG.sub.at_.ab
      have dX:∀ W':World,Mod (fun k=>k=tb\/(Value.slice ap n2 ac).ownBlock=some k) W9 W'->W'.cell? ⟨ob,0,none⟩=some (.string p)/\W'.cell? ⟨ob,1,none⟩=some (.string r)/\W'.cell? ⟨ob,2,none⟩=some (.int .i64 nodes)/\W'.cell? ⟨ob,3,none⟩=some (.int .i64 da)/\W'.cell? ⟨ob,4,none⟩=some (.int .i64 db)/\W'.cell? ⟨ob,5,none⟩=some (.int .i64 dc)/\W'.cell? ⟨ob,6,none⟩=some (.int .i64 dd)/\W'.cell? ⟨ob,7,none⟩=some (.int .i64 x)/\W'.cell? ⟨ob,8,none⟩=some (.int .i64 z)/\W'.cell? ⟨ob,9,none⟩=some (.int .i64 1)/\W'.cell? ⟨ob,10,none⟩=some (.int .i64 ae)/\W'.cell? ⟨ob,11,none⟩=some (.bool f)/\W'.cell? ⟨ob,12,none⟩=some (.slice ao rn nc)/\W'.cell? ⟨lb,0,none⟩=some (.int .i64 fp)/\W'.cell? ⟨lb,1,none⟩=some (.int .i64 an)/\W'.cell? ⟨lb,2,none⟩=some (.int .i64 al)/\W'.cell? ⟨lb,3,none⟩=some (.bool lw)/\W'.cell? ⟨lb,4,none⟩=some (.bool am):=fun W' hm=>by
       have nt:∀ {q:Nat} {c:Array Value} {Ty:TypeId},W9.heap[q]?=some (.cells c Ty (0,0))->Ty≠115->Ty≠125->¬ (q=tb\/(Value.slice ap n2 ac).ownBlock=some q):=fun hq h1 h2 e=>by
        rcases e with e | e
        .rw [e,m] at hq;injection hq with hq;injection hq with _ hq;exact h1 hq.symm
        .exact B2 av hq (fun e=>h2 e.symm) e
       have z2:=hm.aq b9 (nt b9 (by decide) (by decide));have z3:=hm.aq b8 (nt b8 (by decide) (by decide));exact ⟨Aa z2 0,Aa z2 1,Aa z2 2,Aa z2 3,Aa z2 4,Aa z2 5,Aa z2 6,Aa z2 7,Aa z2 8,Aa z2 9,Aa z2 10,Aa z2 11,Aa z2 12,Aa z3 0,Aa z3 1,Aa z3 2,Aa z3 3,Aa z3 4⟩
      obtain ⟨p0,p1,p2,p3,p4,p5,p6,p7,p8,p9,eC,eD,eE,q0,q1,q2,q3,q4⟩:=dX W9 (Mod.refl _ _);have dY:=Bk m 4 (.slice ap n2 ac) rfl;have cT:=Ab m;have bN:Below W9.heap.size W9 (W9.alloc (.cells #[.int .i64 ((n2:Int)+1),.string p,.string r,.int .i64 nodes,.int .i64 da,.int .i64 db,.int .i64 dc,.int .i64 dd,.int .i64 x,.int .i64 z,.int .i64 1,.int .i64 ae,.bool f,.slice ao rn nc,.int .i64 fp,.int .i64 an,.int .i64 al,.bool lw,.bool am,.int .i64 (-1),.slice none 0 0,.slice none 0 0] 46)):=Bn;have a5:Below W9.heap.size W9 ((W9.alloc (.cells #[.int .i64 ((n2:Int)+1),.string p,.string r,.int .i64 nodes,.int .i64 da,.int .i64 db,.int .i64 dc,.int .i64 dd,.int .i64 x,.int .i64 z,.int .i64 1,.int .i64 ae,.bool f,.slice ao rn nc,.int .i64 fp,.int .i64 an,.int .i64 al,.bool lw,.bool am,.int .i64 (-1),.slice none 0 0,.slice none 0 0] 46)).alloc (.cells #[.pointer (some ⟨W9.heap.size,0,none⟩)] 125)):=bN.alloc bN.size _;have eF:=(Ag bN cT).trans dY;have eG:=(Ag a5 cT).trans dY;have bD:((W9.alloc (.cells #[.int .i64 ((n2:Int)+1),.string p,.string r,.int .i64 nodes,.int .i64 da,.int .i64 db,.int .i64 dc,.int .i64 dd,.int .i64 x,.int .i64 z,.int .i64 1,.int .i64 ae,.bool f,.slice ao rn nc,.int .i64 fp,.int .i64 an,.int .i64 al,.bool lw,.bool am,.int .i64 (-1),.slice none 0 0,.slice none 0 0] 46)).alloc (.cells #[.pointer (some ⟨W9.heap.size,0,none⟩)] 125)).heap[W9.heap.size]?=some (.cells #[.int .i64 ((n2:Int)+1),.string p,.string r,.int .i64 nodes,.int .i64 da,.int .i64 db,.int .i64 dc,.int .i64 dd,.int .i64 x,.int .i64 z,.int .i64 1,.int .i64 ae,.bool f,.slice ao rn nc,.int .i64 fp,.int .i64 an,.int .i64 al,.bool lw,.bool am,.int .i64 (-1),.slice none 0 0,.slice none 0 0] 46 (0,0)):=Ai _ (Af _ _);have cd:((W9.alloc (.cells #[.int .i64 ((n2:Int)+1),.string p,.string r,.int .i64 nodes,.int .i64 da,.int .i64 db,.int .i64 dc,.int .i64 dd,.int .i64 x,.int .i64 z,.int .i64 1,.int .i64 ae,.bool f,.slice ao rn nc,.int .i64 fp,.int .i64 an,.int .i64 al,.bool lw,.bool am,.int .i64 (-1),.slice none 0 0,.slice none 0 0] 46)).alloc (.cells #[.pointer (some ⟨W9.heap.size,0,none⟩)] 125)).heap[W9.heap.size+1]?=some (.cells #[.pointer (some ⟨W9.heap.size,0,none⟩)] 125 (0,0)):=A2 _ _ (by simp)
      have bE:Iw S0 row (js.map fun j=>j.2.pl) (k+1)=aC.map (fun j=>j.2.pl)++[(⟨⟨(n2:Int)+1,⟨p,r,nodes,⟨da,db,dc,dd⟩,x,z,1,ae,f,row⟩,⟨fp,an,al,lw,am⟩,-1,[],[]⟩,ao,rn,nc,none,0,0,none,0,0⟩:ai).pl]:=by
       show Iw S0 row (js.map fun j=>j.2.pl) k++[_]=_;rw [<- hY.out];congr 2;have dZ:=Ca List.length hY.out;rw [Wr,Ax,Ax] at dZ;unfold N4;rw [aI.out];show Jb.mk _ _ _ _ _ _=Jb.mk _ _ _ _ _ _;congr 1
       .rw [Ax,aH];push_cast;omega
       .exact b6.out.symm
      have bc:∀ (g9 aD:Nat) (w9:World),w9.ownsRow 0 125 1 (.slice (some ⟨g9,0,none⟩) (n2+1) aD) (n2+1) ((aC.map fun j=>.pointer (some ⟨j.1,0,none⟩))++[.pointer (some ⟨W9.heap.size,0,none⟩)])->((W9.alloc (.cells #[.int .i64 ((n2:Int)+1),.string p,.string r,.int .i64 nodes,.int .i64 da,.int .i64 db,.int .i64 dc,.int .i64 dd,.int .i64 x,.int .i64 z,.int .i64 1,.int .i64 ae,.bool f,.slice ao rn nc,.int .i64 fp,.int .i64 an,.int .i64 al,.bool lw,.bool am,.int .i64 (-1),.slice none 0 0,.slice none 0 0] 46)).alloc (.cells #[.pointer (some ⟨W9.heap.size,0,none⟩)] 125)).grownBy w9 (Value.slice ap n2 ac).ownBlock->((Value.slice ap n2 ac).ownBlock=some g9\/g9=W9.heap.size+2) ->
        xe w T rb W0.heap.size g R.length s2 R (Iw S0 row (js.map fun j=>j.2.pl) (k+1)) (N+20*i+(k+1)) g2 c2 (w9.setCell ⟨tb,4,none⟩ (.slice (some ⟨g9,0,none⟩) (n2+1) aD)):=fun g9 aD w9 aM ad bF=>by
       have d0:=fun q hq=>(av.lt q hq).2;have ce:Mod (fun q=>(Value.slice ap n2 ac).ownBlock=some q) W9 w9:=(Mod.af a5).trans (Mod.grown ad (fun q hq=>hq));have aR:=ce.aq m (B2 av m (by decide));have cP:Mod (fun q=>q=T.tb\/(Value.slice ap n2 ac).ownBlock=some q) W9 (w9.setCell ⟨tb,4,none⟩ (.slice (some ⟨g9,0,none⟩) (n2+1) aD)):=(ce.mono fun q _ e=>.inr e).set tb 4 _ (.inl ht.out);have es:=Al aR 4 (.slice (some ⟨g9,0,none⟩) (n2+1) aD);have et:w9.heap[W9.heap.size]?=some (.cells (⟨⟨(n2:Int)+1,⟨p,r,nodes,⟨da,db,dc,dd⟩,x,z,1,ae,f,row⟩,⟨fp,an,al,lw,am⟩,-1,[],[]⟩,ao,rn,nc,none,0,0,none,0,0⟩:ai).cells 46 (0,0)):=(ad.block _ (by simp;omega) (fun e=>by have:=d0 _ e.symm;omega)).trans bD;have d1:A9 (w9.setCell ⟨tb,4,none⟩ (.slice (some ⟨g9,0,none⟩) (n2+1) aD)) W9.heap.size (⟨⟨(n2:Int)+1,⟨p,r,nodes,⟨da,db,dc,dd⟩,x,z,1,ae,f,row⟩,⟨fp,an,al,lw,am⟩,-1,[],[]⟩,ao,rn,nc,none,0,0,none,0,0⟩:ai):=(Mod.setCell (S:=fun q=>q=tb) w9 tb 4 _ rfl).aq et (by omega)
       have eu:=Bb aM (Mod.setCell (S:=fun q=>q=tb) w9 tb 4 (.slice (some ⟨g9,0,none⟩) (n2+1) aD) rfl) (fun q hq e=>by
        subst e
        exact B2 aM aR (by decide) hq)
       have d2:∀ q o,ao=some ⟨q,o,none⟩->¬ (q=T.tb\/(Value.slice ap n2 ac).ownBlock=some q):=fun q o e c=>by
        obtain ⟨cc,hc⟩:=a4 q o e;rcases c with c | c
        .rw [c,<- ht.out,m] at hc;injection hc with hc;injection hc with _ hc;exact absurd hc (by decide)
        .exact B2 av hc (by decide) c
       have dl:=Ah0 bB cP d2;refine ⟨⟨_,aC++[(W9.heap.size,(⟨⟨(n2:Int)+1,⟨p,r,nodes,⟨da,db,dc,dd⟩,x,z,1,ae,f,row⟩,⟨fp,an,al,lw,am⟩,-1,[],[]⟩,ao,rn,nc,none,0,0,none,0,0⟩:ai))],aG.add cP (by rw [<- ht.out];simpa using es) (by rw [<- aH];exact eu) (fun q hq=>?_) Ln d1 ⟨rfl,rfl,rfl,rfl⟩ ⟨rfl,rfl,rfl,rfl⟩ dl (fun q o e=>?_) cK.out ct.out cw.out (fun q o e=>by obtain ⟨_,h5,_⟩:=bL.out q o e;have h6:=a8.out.size;have h7:=hL.out.sub.mod.size;omega),?_,?_⟩,?_⟩
       .simp [Value.ownBlock] at hq;subst hq;rcases bF with e | e
        .exact .inl e
        .exact .inr (by omega)
       .obtain ⟨cc,hc⟩:=a4 q o e;exact ⟨cc,cP.aq hc (d2 q o e)⟩
       .rw [bE,Ds];rfl
       .rw [De];have:=bs.out;simp;omega
       .exact aG.sub.stay cP bC (by decide) (by decide)
      clear dX;replace ⟨cO,b8,aJ,b9,aG,bB,a4,bC⟩:=H8 cO b8 aJ b9 aG bB a4 bC;replace ⟨ca,bb,aH,cb,dg,dk,m,av⟩:=H8 ca bb aH cb dg dk m av;replace ⟨bN,a5,bD,cd,bE,bc⟩:=H6 bN a5 bD cd bE bc
      try clear h
      try clear hA
      try clear bH
      try clear bR
      try clear o1
      try clear o2
      try clear o3
      try clear r1
      try clear r3
      try clear r5
      try clear bI
      try clear bS
      try clear aS
      try clear ci
      try clear aW
      try clear bk
      try clear cj
      try clear ch
      try clear bT
      try clear aX
      try clear aE
      try clear ck
      try clear hj
      try clear aY
      try clear aT
      try clear bU
      try clear a6
      try clear bl
      try clear co
      try clear cp
      try clear hX
      try clear cR
      try clear hx
      try clear cr
      try clear c0
      try clear aA
      try clear bJ
      try clear bV
      try clear ak
      try clear bW
      try clear aU
      try clear bX
      try clear ct
      try clear cw
      try clear aK
      try clear aI
      try clear cx
      try clear bY
      try clear cA
      try clear bn
      try clear cB
      try clear aZ
      try clear cC
      try clear aV
      try clear cD
      try clear cE
      try clear cF
      try clear hL
      try clear hY
      try clear bs
      try clear hy
      try clear aB
      try clear a8
      try clear bZ
      try clear cH
      try clear bv
      try clear e1
      try clear e3
      try clear e5
      try clear e7
      try clear e8
      try clear cI
      try clear cJ
      try clear cK
      try clear cL
      try clear bL
      try clear b0
      try clear a9
      try clear ba
      try clear b4
      try clear bM
      try clear a0
      try clear bw
      try clear bx
      try clear cM
      try clear b5
      try clear b6
      try clear bA
      try clear b7
      try clear cO
      try clear b8
      try clear aJ
      try clear b9
      try clear aG
      try clear bB
      try clear a4
      try clear bC
      try clear ca
      try clear bb
      try clear aH
      try clear cb
      try clear bN
      try clear bD
      try clear bE
      try clear hN
      try clear hm
      try clear hc
      try clear dM
      try clear d9
      try clear dN
      try clear ej
      try clear cS
      try clear em
      try clear eg
      try clear d8
      try clear bK
      try clear d6
      try clear d7
      try clear e4
      go_region_law (first
       | (refine step_append_lies _ (by rfl) _ _ _ (by rfl) 0 125 iP _ 1 8 Tryz.underlying110 cV.out cW.out bP.out bQ.out rfl (Kw _) (.slice ap n2 ac) n2 (aC.map fun j=>.pointer (some ⟨j.1,0,none⟩)) (by rfl) (Bb av.out (Mod.af (S:=fun _=>False) (by first | exact a5.out | exact a5.out.drew)) (fun _ _ c=>c)) ⟨W9.heap.size+1,0,none⟩ 1 1 [.pointer (some ⟨W9.heap.size,0,none⟩)] (by rfl) (by rfl) (World.news_of_block (cs:=#[.pointer (some ⟨W9.heap.size,0,none⟩)]) (t:=125) (fr:=(0,0)) cd.out) (by intro u hu;simp at hu;subst hu;rfl) (by omega) dg.out dk.out (Av _) (W9.heap.size+2) (by simp) ?_;intro g9 aD w9 aM ad bF d3;have cf:_:=bc.out g9 aD w9 aM (by first | exact ad | exact ⟨ad.os,ad.tape,ad.output,ad.size,ad.block⟩) bF;have ce:=(Mod.af (S:=fun k=>(Value.slice ap n2 ac).ownBlock=some k) (by first | exact a5.out | exact a5.out.drew)).trans (Mod.grown ad (fun k hk=>hk));have aR:=ce.aq m.out (B2 av.out m.out (by decide));have ev:=Aa aR 4;have ey:=Ah aR 4;simp at ev;replace cf:=Hh cf
          clear ce aR aM ad bF d3))
      all_goals
       go_wp2_with fail;go_meet
       case rel=>exact cf.out
     case rest=>
     obtain ⟨⟨ew,ex,aG,dr,bd⟩,ds⟩:=hcut;clear v0 v1 v2 v3 v4 v5 v6 v7 v8 v9 dS dT dU;have ez:=bK.out;replace ⟨aG,dr,bd,ds⟩:=H4 aG dr bd ds;go_wp2_with fail;go_roundw
     case rel=>exact ⟨k+1,ew,ex,by go_num,by omega,aG,dr,ds,bd⟩
     case measure=>simp [intOf];omega
    .have cS:¬ (k:Int)<a7:=(by omega);have dw:k=a7:=(by omega);have dA:aC.map (fun j=>j.2.pl)=Ev (((d.map au.pl).zip R).take (i+1)) T.pl.ab:=(by rw [bW.out,Atp,hY.out,hX.out,dw,aK.out]);have bd:aC.length<=N+20*(i+1):=(by have:=bs.out;have:=bK.out;omega);have eH:=hm.out;replace ⟨dA,bd,dw⟩:=H3 dA bd dw;go_wp2_with fail;go_roundw
     case rel=>exact ⟨i+1,dR,aC,by go_num,by omega,hL,dA,bd⟩
     case measure=>simp [intOf];omega
  .have dM:¬ (i:Int)<xm:=(by omega);have dB:((d.map au.pl).zip R).length<=i:=(by rw [List.length_zip,Ax];have:=bI.out;omega);have be:=hX.out;rw [Dn dB] at be;obtain ⟨X,bO⟩:=Ex (Ev ((d.map au.pl).zip R) T.pl.ab);rw [<- bO] at be;have dC:D6 X:=(by rw [bO];exact bk.out.1.tj);obtain ⟨ap,ac,aL,_,cU,_⟩:=hL.out.sub.at_.l8;obtain ⟨n2,aH⟩:=Ex (js.length);replace aL:jv=.slice ap n2 ac:=(by rw [aH];exact aL);subst aL;have dD:X.length=n2:=(by rw [<- be,Ax,aH]);have m:=hL.out.sub.at_.head;have z4:wr.cell? ⟨tb,4,none⟩=some (.slice ap n2 ac):=(by rw [ht.out];exact Aa m 4);have zr:=Aa hL.out.rep 2;have zf:=Ah hL.out.rep 2;simp at zr;have cQ:=Ab h.out.head;have bf:=hL.out.vq cQ (Nat.le_of_lt dL) (.int .i64 (n2:Int));have aN:=Al hL.out.rep 2 (.int .i64 (n2:Int))
   have aO:=(Mod.setCell (S:=fun k=>k=rb) wr rb 2 (.int .i64 (n2:Int)) rfl).aq hL.out.res (fun e=>by
    have:=hL.out.res;rw [e,hL.out.rep] at this;injection this with this;injection this with this _;have:=Ca (fun a=>a[1]?) this;simp at this
    omega)
   replace ⟨dB,be,bO,dC,cU,aH,dD,m⟩:=H8 dB be bO dC cU aH dD m;replace ⟨cQ,bf,aN,aO⟩:=H4 cQ bf aN aO;go_upto_region 15 with fail;obtain ⟨W1,dE⟩:=Ex (wr.setCell ⟨rb,2,none⟩ (.int .i64 (n2:Int)));rw [<- dE] at bf aN aO;rw [<- dE];clear dE z4 zr zf
   have dF:Calls Tryz.prog 130 #[.pointer (some ⟨tb,0,none⟩)] W1 (Kf W1 { T with jv:=.slice ap n2 ac,js:=js } (Dw X)):=by
    have:=Vu (T:={ T with jv:=.slice ap n2 ac,js:=js }) bf.out.at_ (by
     show D6 (js.map fun j=>j.2.pl)
     rw [be.out];exact dC.out)
    rw [show ({ T with jv:=.slice ap n2 ac,js:=js }:Tv).pl.ab=X from be.out] at this;rw [ht.out];exact this
   replace dF:=Hh dF;go_upto_region 16 with (go_at_call 130;(with_reducible refine (dF.out).mono ?_);rintro e w5 ⟨rfl,aC,bg,dG⟩;replace ⟨bg,dG⟩:=H2 bg dG)
   have dH:=bf.out.then bg.out
   have aP:=bg.out.mod.aq (by simpa using aN.out) (bf.out.at_.off aN.out (by decide) (by decide) (by decide) (by decide) (by decide));have aQ:=bg.out.mod.aq aO.out (bf.out.at_.off aO.out (by decide) (by decide) (by decide) (by decide) (by decide));have q0:w5.cell? ⟨rb,0,none⟩=some (.int .i64 0):=(by have:=Aa aP 0;simpa using this);have q1:w5.cell? ⟨rb,1,none⟩=some (.int .i64 ((N:Int)+1)):=(by rw [hN.out];have:=Aa aP 1;simpa using this);have q2:w5.cell? ⟨rb,2,none⟩=some (.int .i64 (n2:Int)):=(by have:=Aa aP 2;simpa using this);obtain ⟨r0,d4,r2⟩:=C3 aQ;(try dsimp only at r0 d4 r2);have fr:=Ah aQ;have bi:=Av7 (n:=w.heap.size+1) bg.out (fun j hj=>⟨fun c k o e=>((hL.out.du j hj).1 c k o e).2,fun c k o e=>((hL.out.du j hj).2 c k o e).2⟩);have dI:=dH.ox cQ.out aQ bi (.int .i64 0) (.int .i64 ((N:Int)+1)) (.int .i64 (n2:Int));replace ⟨dH,aP,aQ,bi,dI⟩:=H5 dH aP aQ bi dI;go_wp2_with fail;refine Ao (v:=E1 ⟨0,0,(N:Int)+1,(n2:Int)⟩) (by simp [results,Tryz.results82,go_sem,r0,d4,r2]) rfl ⟨?_,_,dI.out.ic (hL.out.stays.trans (bg.out.stays (w:=w)) Ln),?_⟩
   .rw [<- hN.out,<- bO.out,dD.out]
   .show (⟨T.ah,T.tick,T.cls,T.nodes,aC.map fun j=>j.2.pl⟩:di)=_;rw [dG.out,<- bO.out];rfl
def Awf {w:World} {T:Tv} (x:cu) (h:An w T) (hx:x.ok w) (hj:T.js.length<=1000000) (hr:Dl T.vs T.pl x.pl=0)
  (aJ:((dz T.vs T.pl x.pl).1).cls.length<=1000) (R:Prop)
  (t:∀ W,Below w.heap.size w W->Calls Tryz.prog (Nl x.n.kind) #[.pointer (some ⟨T.tb,0,none⟩),x.val] W (fun e w'=>Pe W T (dz T.vs T.pl x.pl).1 (dz T.vs T.pl x.pl).2 e w'/\R)) :
  Calls Tryz.prog 15 #[.pointer (some ⟨T.tb,0,none⟩),x.val] w (fun e w'=>Aau w T (Cz T.vs T.pl x.pl) e w'/\R):=by
 have aU:E6 x.pl=true:=by
  by_cases q:E6 x.pl=true
  .exact q
  .unfold Dl at hr;rw [Ad (by simpa using q)] at hr;cases hr
 obtain ⟨hk,_,_,_,_,_⟩:=So aU;have k:=re.new w x;obtain ⟨W0,aL⟩:=Ex ((w.alloc (.cells x.cells 40 (0,0))).alloc (.cells #[.int .i64 0,.int .i64 0,.int .i64 0] 35 (0,0)));rw [<- aL] at k;have kw:=Ah4 x (h.low k.low) hj (hx.low k.low);rw [hr] at kw;have aK:=hx.vf 3;obtain ⟨P,hP⟩:=Ex ((dz T.vs T.pl x.pl).1);obtain ⟨⟨aD,dce,dcf,o⟩,aQ⟩:∃ c,c=(dz T.vs T.pl x.pl).2:=⟨_,rfl⟩
 have aV:Cz T.vs T.pl x.pl=(if B8 x.n.kind=true then { P with cls:=Jj P.cls x.n.ag ⟨x.n.seq,dce,dcf,o⟩ } else P,⟨aD,dce,dcf,o⟩,0):=by
  unfold Cz;rw [Ac (by rw [hr];simp)];have e:∀ D:di×Cl,D.1=P->D.2=⟨aD,dce,dcf,o⟩->(let d:=D;(if B8 x.pl.n.kind=true then { d.1 with cls:=Jj d.1.cls x.pl.n.ag ⟨x.pl.n.seq,d.2.e,d.2.first,d.2.last⟩ } else d.1,d.2,(0:Int)))=(if B8 x.n.kind=true then { P with cls:=Jj P.cls x.n.ag ⟨x.n.seq,dce,dcf,o⟩ } else P,⟨aD,dce,dcf,o⟩,0):=by rintro ⟨a,b⟩ rfl rfl;rfl
  exact e _ hP.symm aQ.symm
 rw [<- hP,<- aQ] at t;rw [<- hP] at aJ;rw [aV];obtain ⟨tb,ht⟩:=Ex (T.tb);rw [<- ht] at t kw;rw [<- ht];clear aV hP aQ aU hr;obtain ⟨⟨f,ah,tick,ag,seq,bp,attempt,node,bj⟩,so,m,sc,cq⟩:=x;replace hk:f=1\/f=2\/f=3\/f=4\/f=5\/f=6\/f=7\/f=8\/f=9\/f=10\/f=11:=hk;replace aK:-9223372036854775808<=ag/\ag<=9223372036854775807:=aK;replace ⟨h,hx,k,kw,hj,t,ht,aK⟩:=H8 h hx k kw hj t ht aK;replace aJ:=Hh aJ;obtain ⟨F,hF⟩:=Ex (Nl f);replace t:∀ W,Below w.heap.size w W->Calls Tryz.prog (Nl f) _ _ _:=t.out;rw [<- hF] at t
 have aW:∀ (a:Array Value) (W:World),Sem.run Tryz.prog (callFunc F a) W=.ok (.enter F a) W:=by
  intro a W;rw [hF];rcases hk with rfl | rfl | rfl | rfl | rfl | rfl | rfl | rfl | rfl | rfl | rfl
  all_goals rfl
 replace ⟨t,hk,hF⟩:=H3 t hk hF;by_cases ao:B8 f=true
 .rw [Ad (show B8 (⟨f,ah,tick,ag,seq,bp,attempt,node,bj⟩:bz).kind=true from ao)];replace ao:=Hh ao
  .have z:∀ W,Below w.heap.size w W->Calls Tryz.prog F #[.pointer (some ⟨tb,0,none⟩),Value.agg #[.int .i64 f,.int .i64 ah,.int .i64 tick,.int .i64 ag,.int .i64 seq,.int .i64 bp,.int .i64 attempt,.int .i64 node,.int .i64 bj,.slice so m sc]] W (fun e w'=>Pe W T P ⟨aD,dce,dcf,o⟩ e w'/\R):=t.out;have ac:=Ah5 tb f
   replace ac:∀ W,Calls Tryz.prog 45 #[.pointer (some ⟨tb,0,none⟩),.int .i64 f] W fun e w'=>e=.returned (.func (.func F) #[.pointer (some ⟨tb,0,none⟩)] #[])/\w'=W:=fun W=>by rw [hF.out];exact ac W hk.out
   obtain ⟨e0,e1,e2,e3,e4,e5,e6,e7,e8,e9⟩:=C10 k.out.box;(try dsimp only at e0 e1 e2 e3 e4 e5 e6 e7 e8 e9);replace ⟨z,ac⟩:=H2 z ac;clear t;go_enter Tryz.func15,Tryz.ntmps15;go_upto_region 1 with fail;rw [<- aL];clear aL;go_upto_region 4 with (go_at_call 31;(with_reducible refine (kw.out).mono ?_);rintro e w1 ⟨rfl,ad⟩;replace ad:=Hh ad);clear e0 e1 e2 e3 e4 e5 e6 e7 e8 e9;have g:=Ae ad.out k.out.box (Ab k.out.box);have i:=Ae ad.out k.out.res (Ab k.out.res);have j:=k.out.low.trans (ad.out.mono k.out.low.size);have u:=h.out.low j;obtain ⟨e0,e1,e2,e3,e4,e5,e6,e7,e8,e9⟩:=C10 g;(try dsimp only at e0 e1 e2 e3 e4 e5 e6 e7 e8 e9);have al:=z.out w1 j;replace ⟨g,i,j,u,al⟩:=H5 g i j u al;go_upto_region 6 with (first | (go_at_call 45;(with_reducible refine (ac.out _).mono ?_);rintro e w1 ⟨rfl,rfl⟩) | ((with_reducible refine (al.out).mono ?_);rintro e w3 ⟨⟨rfl,T',r,ap⟩,hR⟩;replace ⟨r,ap,hR⟩:=H3 r ap hR));clear e0 e1 e2 e3 e4 e5 e6 e7 e8 e9;obtain ⟨W4,av⟩:=Ex (w3.alloc (.cells #[.int .i64 dce,.int .i64 dcf,.int .i64 o] 35 (0,0)));obtain ⟨rb,aE⟩:=Ex (w3.heap.size);have am:Below w3.heap.size w3 W4:=(by rw [av];exact Bn);have aA:W4.heap[rb]?=some (.cells #[.int .i64 dce,.int .i64 dcf,.int .i64 o] 35 (0,0)):=(by rw [av,aE];exact Af _ _);rw [<- av,<- aE];clear av aE;have an:=Ae am (r.out.mod.aq g.out (u.out.off g.out (by decide) (by decide) (by decide) (by decide) (by decide))) (Ab (r.out.mod.aq g.out (u.out.off g.out (by decide) (by decide) (by decide) (by decide) (by decide))));have s:=Ae am (r.out.mod.aq i.out (u.out.off i.out (by decide) (by decide) (by decide) (by decide) (by decide))) (Ab (r.out.mod.aq i.out (u.out.off i.out (by decide) (by decide) (by decide) (by decide) (by decide))));have y:=(r.out.back j.out).low am;have aF:=r.out.ph (b:=w.heap.size+1) h.out (by omega) (by have:=Ab i.out;exact this);obtain ⟨e0,e1,e2,e3,e4,e5,e6,e7,e8,e9⟩:=C10 an;(try dsimp only at e0 e1 e2 e3 e4 e5 e6 e7 e8 e9);obtain ⟨q0,q1,q2⟩:=C3 aA;(try dsimp only at q0 q1 q2);replace ⟨am,aA,an,s,y,aF⟩:=H6 am aA an s y aF
   have aG:=fun W=>by
    have:=Pg f W;rw [ao.out] at this;exact this
   have m2:W4.cell? ⟨tb,2,none⟩=some (.map (some T'.mb)):=(by rw [ht.out,<- y.out.tb];exact Aa y.out.at_.head 2);have aR:=y.out.at_.cls;have aM:W4.drew.ownsMap (H:=Unit) Tryz.prog 3 Ow T'.mb T'.cls.length (P5 T'.cls):=aR;have aN:keyOf Tryz.prog 3 (.int .i64 ag)=some (Fz ag):=keyOf_int_mk Da (xl aK.out.1 aK.out.2);replace ⟨aG,aR,aM,aN⟩:=H4 aG aR aM aN;go_upto_region 7 with (go_at_call 46;(with_reducible refine (aG.out _).mono ?_);rintro e W4 ⟨rfl,rfl⟩)
   have aO:T'.cls.length<maxLen:=by
    have:maxLen=9223372036854775807:=rfl;have e:T'.cls=P.cls:=(by rw [<- ap.out];rfl);rw [e];have:=aJ.out;omega
   replace aO:=Hh aO;go_still_tail 11,(by kernel_rfl);change wpList _ _ _ _ _ W4.drew;go_upto_region 8 with (at_mapUpdate;refine wpList_mapUpdate_own _ rfl _ _ _ 108 rfl 3 123 (int_keyed Da) Tryz.underlying108 _ T'.mb T'.cls.length _ rfl aM.out aO.out _ _ (Fz ag) rfl rfl aN.out _ [] (Acf ⟨seq,dce,dcf,o⟩) ?_;intro w5 aH aB;replace ⟨aH,aB⟩:=H2 aH aB);have aP:Mod (fun q=>q=T'.mb) W4 w5:=(Mod.drew (Mod.refl _ W4)).trans (Mod.grown aB.out (fun q hq=>by cases hq;rfl));have aS:L2 w5 T'.mb (Jj T'.cls ag ⟨seq,dce,dcf,o⟩):=(by have:=aH.out;rw [Aln] at this;have h2:=Alp (l:=(Jj T'.cls ag ⟨seq,dce,dcf,o⟩).map fun p=>(Fz p.1,mg p.2)) this;rw [Ax] at h2;exact h2);have aT:=aP.aq aA.out (fun e=>y.out.at_.ei aA.out e.symm);have aC:=aP.aq s.out (fun e=>y.out.at_.ei s.out e.symm);have aI:=(y.out.mm _ aP aS).ox h.out aF.out aC (.int .i64 dce) (.int .i64 dcf) (.int .i64 o);clear e0 e1 e2 e3 e4 e5 e6 e7 e8 e9 q0 q1 q2 m2;obtain ⟨q0,q1,q2⟩:=C3 aT;(try dsimp only at q0 q1 q2);obtain ⟨r0,r1,r2⟩:=C3 aC;(try dsimp only at r0 r1 r2);have fr:=Ah aC;replace ⟨aP,aS,aT,aC,aI⟩:=H5 aP aS aT aC aI;go_wp2_with fail;refine Ao (v:=.tuple #[E1 ⟨aD,dce,dcf,o⟩,.int .i64 0]) (by simp [results,Tryz.results15,go_sem,r0,r1,r2]) rfl ⟨⟨rfl,_,aI.out,?_⟩,hR.out⟩;rw [<- ap.out];rfl
 .rw [Ac (show ¬ B8 (⟨f,ah,tick,ag,seq,bp,attempt,node,bj⟩:bz).kind=true from ao)];replace ao:B8 f=false:=by simpa using ao
  replace ao:=Hh ao
  .have z:∀ W,Below w.heap.size w W->Calls Tryz.prog F #[.pointer (some ⟨tb,0,none⟩),Value.agg #[.int .i64 f,.int .i64 ah,.int .i64 tick,.int .i64 ag,.int .i64 seq,.int .i64 bp,.int .i64 attempt,.int .i64 node,.int .i64 bj,.slice so m sc]] W (fun e w'=>Pe W T P ⟨aD,dce,dcf,o⟩ e w'/\R):=t.out;have ac:=Ah5 tb f
   replace ac:∀ W,Calls Tryz.prog 45 #[.pointer (some ⟨tb,0,none⟩),.int .i64 f] W fun e w'=>e=.returned (.func (.func F) #[.pointer (some ⟨tb,0,none⟩)] #[])/\w'=W:=fun W=>by rw [hF.out];exact ac W hk.out
   obtain ⟨e0,e1,e2,e3,e4,e5,e6,e7,e8,e9⟩:=C10 k.out.box;(try dsimp only at e0 e1 e2 e3 e4 e5 e6 e7 e8 e9);replace ⟨z,ac⟩:=H2 z ac;clear t;go_enter Tryz.func15,Tryz.ntmps15;go_upto_region 1 with fail;rw [<- aL];clear aL;go_upto_region 4 with (go_at_call 31;(with_reducible refine (kw.out).mono ?_);rintro e w1 ⟨rfl,ad⟩;replace ad:=Hh ad);clear e0 e1 e2 e3 e4 e5 e6 e7 e8 e9;have g:=Ae ad.out k.out.box (Ab k.out.box);have i:=Ae ad.out k.out.res (Ab k.out.res);have j:=k.out.low.trans (ad.out.mono k.out.low.size);have u:=h.out.low j;obtain ⟨e0,e1,e2,e3,e4,e5,e6,e7,e8,e9⟩:=C10 g;(try dsimp only at e0 e1 e2 e3 e4 e5 e6 e7 e8 e9);have al:=z.out w1 j;replace ⟨g,i,j,u,al⟩:=H5 g i j u al;go_upto_region 6 with (first | (go_at_call 45;(with_reducible refine (ac.out _).mono ?_);rintro e w1 ⟨rfl,rfl⟩) | ((with_reducible refine (al.out).mono ?_);rintro e w3 ⟨⟨rfl,T',r,ap⟩,hR⟩;replace ⟨r,ap,hR⟩:=H3 r ap hR));clear e0 e1 e2 e3 e4 e5 e6 e7 e8 e9;obtain ⟨W4,av⟩:=Ex (w3.alloc (.cells #[.int .i64 dce,.int .i64 dcf,.int .i64 o] 35 (0,0)));obtain ⟨rb,aE⟩:=Ex (w3.heap.size);have am:Below w3.heap.size w3 W4:=(by rw [av];exact Bn);have aA:W4.heap[rb]?=some (.cells #[.int .i64 dce,.int .i64 dcf,.int .i64 o] 35 (0,0)):=(by rw [av,aE];exact Af _ _);rw [<- av,<- aE];clear av aE;have an:=Ae am (r.out.mod.aq g.out (u.out.off g.out (by decide) (by decide) (by decide) (by decide) (by decide))) (Ab (r.out.mod.aq g.out (u.out.off g.out (by decide) (by decide) (by decide) (by decide) (by decide))));have s:=Ae am (r.out.mod.aq i.out (u.out.off i.out (by decide) (by decide) (by decide) (by decide) (by decide))) (Ab (r.out.mod.aq i.out (u.out.off i.out (by decide) (by decide) (by decide) (by decide) (by decide))));have y:=(r.out.back j.out).low am;have aF:=r.out.ph (b:=w.heap.size+1) h.out (by omega) (by have:=Ab i.out;exact this);obtain ⟨e0,e1,e2,e3,e4,e5,e6,e7,e8,e9⟩:=C10 an;(try dsimp only at e0 e1 e2 e3 e4 e5 e6 e7 e8 e9);obtain ⟨q0,q1,q2⟩:=C3 aA;(try dsimp only at q0 q1 q2);replace ⟨am,aA,an,s,y,aF⟩:=H6 am aA an s y aF
   have aG:=fun W=>by
    have:=Pg f W;rw [ao.out] at this;exact this
   obtain ⟨r0,r1,r2⟩:=C3 s.out;(try dsimp only at r0 r1 r2);have fr:=Ah s.out;have aI:=y.out.ox h.out aF.out s.out (.int .i64 dce) (.int .i64 dcf) (.int .i64 o);replace ⟨aG,aI⟩:=H2 aG aI;go_wp2_with (go_at_call 46;(with_reducible refine (aG.out _).mono ?_);rintro e W4 ⟨rfl,rfl⟩);exact Ao (v:=.tuple #[E1 ⟨aD,dce,dcf,o⟩,.int .i64 0]) (by simp [results,Tryz.results15,go_sem,r0,r1,r2]) rfl ⟨⟨rfl,T',aI.out,by first | exact ap.out | (rw [ap.out];rfl)⟩,hR.out⟩
end Go.Proofs.YtimlcnhcjndijaaGreatDoor
