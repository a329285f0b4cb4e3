/- Parts of a proof. No condition. -/
import Derived.Test.YtimlcnhcjndijaaGreatDoorG36
set_option linter.all false
set_option maxRecDepth 100000
set_option maxHeartbeats 12800000
namespace Go.Proofs.YtimlcnhcjndijaaGreatDoor
open Value renaming slice->J,int->G,tuple->E,pointer->Q,bool->D,string->Y
open Option renaming some->Z,none->I
open IntKind renaming i64->O
open Ending renaming returned->K
open Obj renaming cells->V
open Go renaming World->WD,Value->VL,Calls->CS
open Go.RowKit renaming Below->BW
open Go.Proofs.Tryz
section
open Go.RowKit Go.Maps Go.Lib
def A0t {w:WD} {so:Option Addr} {n c:Nat} {xs:List V4} (h:w.ownsRow 0 30 4 (J so n c) xs.length (Av V4.cells xs)) (t:n=xs.length) (v:n<=1000000):Pl.Ow w so n xs:=by
 subst t;refine⟨rfl,ao9,λi s=>?_⟩;obtain⟨g,cap,e⟩:=Joins.ownsRow_form h ao9;have o:so=Z ⟨g,0,I⟩:=by injection e
 subst o;obtain⟨x,b⟩:=Ge xs i s;have a:∀x:V4,(V4.cells x).size=4:=λ_=>rfl;have u:Pl.vv xs i=x:=by simp[Pl.vv,List.getD,b]
 have f:=Fo h (i*4) ao9;have k:=Fo h (i*4+1) ao9;have l:=Fo h (i*4+2) ao9;have m:=Fo h (i*4+3) ao9;have d:=Iw a xs (j:=0) b ao9;have p:=Iw a xs (j:=1) b ao9;have q:=Iw a xs (j:=2) b ao9;have r:=Iw a xs (j:=3) b ao9;rw[Iu]at d;rw[u];exact⟨g,0,rfl,(Qm h g rfl).2,by rw[Cn,f,d];rfl,by rw[Cn,k,p];rfl,by rw[Cn,l,q];rfl,by rw[Cn,m,r];rfl⟩
def A0u (vs:List ax) (js:List Jb):(Fc vs js).length<=js.length:=by
 unfold Fc;rw[Ar,(Zy _ _ _).length_eq,Aat];unfold Bx;rw[Ar];exact Ob _ _
def Rx (vs:List ax) (now:Int) (bs:List Bool) (js:List Jb):Prop:=Amf (vs.map ax.cap) now bs ((Ie js).map M0) (Fc vs js)
def yf (w5:WD) (ks:List (Int×Int×List Int)) (v rv:VL) (wx:WD):Prop:=
 ∃so n sc r slots,v=J so n sc/\rv=G O r/\n=slots.length/\slots.map Pl.A2.key=ks/\Pl.Vl wx so n slots/\(∀s,s∈slots->∀b off,s.go=Z ⟨b,off,I⟩->w5.heap.size<=b)/\BW w5.heap.size w5 wx/\∀b off,so=Z ⟨b,off,I⟩->w5.heap.size<=b
def yf.low {a wx:WD} {c:List (Int×Int×List Int)} {v d:VL} (h:yf a c v d wx):BW a.heap.size a wx:=by
 obtain⟨_,_,_,_,_,_,_,_,_,_,_,b,_⟩:=h;exact b
def SlD (w5:WD) (vs:List ax) (now:Int) (bs:List Bool) (js:List Jb) (v rv:VL) (wx:WD):Prop:=yf w5 (Kv vs now bs js) v rv wx/\Rx vs now bs js
def A0v {o:WD} {vs:List ax} {js:List Jb} {k:List Bool} {a:Int} {vo uo u:Option Addr} {vn vc z uc m mc:Nat} {j:List Pl.Ax}
  (hv:Pl.Ow o vo vn (vs.map ax.cap)) (g:j.map Pl.Ax.er=(Ie js).map M0)
  {w1:WD} (h1:BW o.heap.size o w1) (hu:Pl.Mu w1 uo z k) {q:Option Addr} {l lc:Nat} {p:List Pl.Ask} (ha:Pl.Y8 w1 q l p) (f:p.map Pl.Ask.er=Fc vs js) (hl:l<=1000000) (t:Pl.Y5 w1 u m j) :
  CS prog 136 #[J vo vn vc,J uo z uc,G O a,J u m mc,J q l lc] w1 λe w'=>∃v rv,e=K (E #[v,rv])/\yf o (Kv vs a k js) v rv w'/\Rx vs a k js:=by
 refine(Pl.Awa vo uo u q vn vc z uc m mc l lc (vs.map ax.cap) k a j p w1 (hv.below h1 Ln) hu t ha hl).mono ?_;intro e w' h;obtain⟨so,n,sc,r,d,he,hn,hk,x,hg,hb,y,i⟩:=A0b h;refine⟨_,_,he,⟨so,n,sc,r,d,rfl,rfl,hn,?_,x,λs j b c e=>Ay h1.size (hg s j b c e),h1.trans (hb.mono h1.size),λb c e=>Ay h1.size (y b c e)⟩,?_⟩
 .rw [hk,g,f];rfl
 .rw [g,f]at i;exact i
def Ad3 {S:Nat->Prop} {w w':WD} {so:Option Addr} {n:Nat} {zs:List Int} (h:Pl.Ap w so n zs) (d:Mod S w w') (j:∀b a,so=Z ⟨b,a,I⟩->¬S b):Pl.Ap w' so n zs:=
 ⟨h.len,h.max,λi g=>by
  obtain⟨b,a,e,c,f⟩:=h.cell i g;refine⟨b,a,e,By c d.size,?_⟩;rw[<-f]
  simp only[World.cell?,d.block b c (j b a e)]⟩
def A0w {S:Nat->Prop} {w w':WD} {so:Option Addr} {n:Nat} {ss:List Pl.A2} (h:Pl.Vl w so n ss) (d:Mod S w w') (o:∀b a,so=Z ⟨b,a,I⟩->¬S b) (l:∀s,s∈ss->∀b a,s.go=Z ⟨b,a,I⟩->¬S b):Pl.Vl w' so n ss:=
 ⟨h.len,h.max,λi x g=>by
  obtain⟨b,a,e,c,k,f⟩:=h.cell i x g;refine⟨b,a,e,By c d.size,λj m=>?_,⟨Ad3 f.ak d (l x (Ai g)),f.qg⟩⟩;rw[<-k j m]
  simp only[World.cell?,d.block b c (o b a e)]⟩
def Bw.zg {w wr:WD} {T:Tv} {js:List (Nat×ar)} (h:Bw w T js wr) {b:Nat} (c:({ T with js:=js }:Tv).az b):T.az b:=by
 rcases c with e|e|e|e|⟨j,g,e⟩
 .exact .inl e
 .exact .inr (.inl e)
 .exact .inr (.inr (.inl e))
 .exact .inr (.inr (.inr (.inl e)))
 .obtain ⟨i,a⟩:=Dn g;have a:js[i]?=Z j:=a;have d:i<T.js.length:=by rw[<-h.len];exact(Aq.1 a).1
  have f:=A4 d;have k:=h.kp i _ j f a;refine .inr (.inr (.inr (.inr ⟨_,K4 d,e.imp (λe=>?_) (λe=>k.pb b e)⟩)));have h1:(js.map Prod.fst)[i]?=Z j.1:=by simp[a]
  rw[h.aw,Bg,f]at h1;injection h1 with h1;rw[<-e];exact h1
structure od (w w5 wx:WD) (T:Tv) (js:List (Nat×ar)) (wr:WD):Prop where
 tab:D4 w T T.jv js wr
 zk:∀b,({ T with jv:=T.jv,js:=js }:Tv).az b->b<w5.heap.size\/wx.heap.size<=b
 low:Mod (λk=>k<w5.heap.size) wx wr
 dz:Ii w5 T.js js
 res:wr.heap[w.heap.size+1]?=Z (V #[G O 0,G O 0,G O 0] 35 (0,0))
 le:w.heap.size+2<=w5.heap.size
variable {w w5 wx wr w':WD} {T:Tv} {js js2:List (Nat×ar)}
def od.start {x:de} (h0:Cj w T x js2 w5) (e:BW w5.heap.size w5 wx) (h:Bw wx { T with js:=js2 } js wr):od w w5 wx T js wr:=by
 have a:=(h0.low e).then h
 have d:∀b,({ T with js:=js2 }:Tv).az b->b<w5.heap.size:=λb c=>h0.tab.at_.oi c;exact⟨⟨a.tab.at_,a.tab.az,a.tab.mod⟩,λb c=>.inl (d b (h.zg (T:={ T with js:=js2 }) c)),h.mod.mono (λk _ c=>d k c),a.tab.stays,a.res,by have:=Ab h0.res;omega⟩
def od.drop (h:od w w5 wx T js wr) (a:BW wr.heap.size wr w'):od w w5 wx T js w':=
 ⟨h.tab.low a,h.zk,h.low.low a,h.dz,Ae a h.res (Ab h.res),h.le⟩
def od.set (h:od w w5 wx T js wr) {k f:Nat} {x y:ar} (hx:js[k]?=Z (f,x)) (hm:Mod (Gd (f,x)) wr w') (u:Bc w' f y) (hp:Bv w' y) (z:∀b,y.pb=Z b->x.pb=Z b\/wr.heap.size<=b)
  (a:y.so=x.so/\y.sn=x.sn/\y.sc=x.sc/\y.pl.sp=x.pl.sp)
  (v:(y.go=x.go/\y.gn=x.gn/\y.gc=x.gc/\y.pl.ak=x.pl.ak)\/(Pl.Ap wx y.go y.gn y.pl.ak/\y.gn<=y.gc/\∀b r,y.go=Z ⟨b,r,I⟩->w5.heap.size<=b)):od w w5 wx T (js.set k (f,y)) w':=by
 have hA:=h.tab.at_;have p:=Ai hx;have d:=hA.ok _ p;have hJ:∀q,Gd (f,x) q->({ T with jv:=T.jv,js:=js }:Tv).az q:=λq c=>.inr (.inr (.inr (.inr ⟨_,p,c.imp (λe=>e.symm) id⟩)));have n:=hm.mono λq _ c=>hJ q c
 have l:∀q,(({ T with jv:=T.jv,js:=js }:Tv).bz k (f,y)).az q->({ T with jv:=T.jv,js:=js }:Tv).az q\/wr.heap.size<=q:=λq c=>by
  rcases Sy (T:={ T with jv:=T.jv,js:=js }) (j:=(f,y)) hx rfl c with c|c
  .exact .inl c
  .rcases z q c with c|c
   .exact .inl (hJ q (.inr c))
   .exact .inr c
 have m:∀q,q<wr.heap.size->(({ T with jv:=T.jv,js:=js }:Tv).bz k (f,y)).az q->({ T with jv:=T.jv,js:=js }:Tv).az q:=λq hq c=>(l q c).resolve_right ao9;have ad:=h.low.size
 have i:∀q,(({ T with jv:=T.jv,js:=js }:Tv).bz k (f,y)).az q->q<w5.heap.size\/wx.heap.size<=q:=λq c=>by
  rcases l q c with c|c
  .exact h.zk q c
  .exact .inr ao9
 have g:=h.low.then hm λq hq c=>(h.zk q (hJ q c)).resolve_right ao9
 have ha:Ec w' (({ T with jv:=T.jv,js:=js }:Tv).bz k (f,y)).az y.so y.sn y.pl.sp.after:=by obtain⟨s,t,_,e4⟩:=a;rw[s,t,e4];exact d.after.mod n m
 have hg:Ec w' (({ T with jv:=T.jv,js:=js }:Tv).bz k (f,y)).az y.go y.gn y.pl.ak/\y.gn<=y.gc:=by
  rcases v with⟨s,t,e3,e4⟩|⟨g1,g2,g3⟩
  .rw [s,t,e3,e4];exact⟨d.ak.mod n m,d.oh⟩
  .refine ⟨⟨Ap.zq (Ad3 g1 g λb r e c=>?_),λh0 b o e hS=>?_⟩,g2⟩
   .have:=g3 b r e;omega
   .have:=g3 b o e;obtain⟨b',ac,e',af,_⟩:=g1.cell 0 h0;rw[e]at e';cases e'
    rcases i b hS with c|c<;>omega
 refine⟨h.tab.set hx rfl hm u hp z ha ?_ hg.1 hg.2 ?_ ?_,i,g,λj hj=>?_,?_,h.le⟩
 .show y.sn<=y.sc;rw[a.2.1,a.2.2.1];exact d.pz
 .show y.pl.sp.user.size<=maxLen;rw[a.2.2.2];exact d.user
 .show y.pl.sp.part.size<=maxLen;rw[a.2.2.2];exact d.part
 .rcases Wk hj with hj|rfl
  .exact h.dz j hj
  .obtain ⟨c1,c2⟩:=h.dz _ p;refine⟨λh0 q o e hq=>?_,λh0 q o e hq=>?_⟩
   .have h0:0<y.sn:=h0;have e:y.so=Z ⟨q,o,I⟩:=e;exact c1 (by rw[<-a.2.1];exact h0) q o (by rw[<-a.1];exact e) hq
   .have h0:0<y.gn:=h0;have e:y.go=Z ⟨q,o,I⟩:=e;rcases v with⟨s,t,_,_⟩|⟨_,_,g3⟩
    .exact c2 (by rw[<-t];exact h0) q o (by rw[<-s];exact e) hq
    .have:=g3 q o e;omega
 .exact n.aw h.res (hA.off h.res ad9 ad9 ad9 ad9 ad9)
def od.done {l:Tv} (h:od w w5 wx T js wr) (h0:An w l) (d:T.js=l.js) (p:T.tb=l.tb) (s t u:VL):Ev w T { T with js:=js } (((wr.setCell ⟨w.heap.size+1,0,I⟩ s).setCell ⟨w.heap.size+1,1,I⟩ t).setCell ⟨w.heap.size+1,2,I⟩ u):=by
 have r:=(((Mod.refl (λk=>k=w.heap.size+1) wr).set _ 0 s rfl).set _ 1 t rfl).set _ 2 u rfl;have x:=Ab h0.head;have v:=h.le;refine⟨h.tab.at_.gg h.res r (by show T.tb<_;rw[p];omega) ad9 ad9 ad9 ad9 ad9 ad9 λj q=>?_,rfl,rfl,rfl,rfl,rfl,h.tab.az,h.tab.mod.then r (λk g e=>by omega),λj q=>?_⟩
 .obtain ⟨m,n⟩:=h.dz j q;refine⟨λc k o e g=>?_,λc k o e g=>?_⟩
  .obtain ⟨i,f,a,b⟩:=m c k o e ao9;rw[d]at f;have:=Lo (h0.ok i f).after.row a b;omega
  .obtain ⟨i,f,a,b⟩:=n c k o e ao9;rw[d]at f;have:=Lo (h0.ok i f).ak.row a b;omega
 .obtain ⟨m,n⟩:=h.dz j q;exact⟨λc k o e g=>m c k o e ao9,λc k o e g=>n c k o e ao9⟩
def An.rowAt {W:WD} {T:Tv} {js:List (Nat×ar)} {c:Option Addr} {f b:Nat} (h:An W { T with js:=js }) (e:T.jv=J c f b) (r:js.length=f) {k:Nat} (q:k<f) :
  ∃g j,c=Z ⟨g,0,I⟩/\js[k]?=Z j/\W.cell? ⟨g,k,I⟩=Z (Q (Z ⟨j.1,0,I⟩)):=by
 obtain⟨j,l⟩:=Ge js k ao9;obtain⟨i,a,m,_,_,p⟩:=h.ny;obtain⟨g,n,o⟩:=p k j l;have d:T.jv=J i js.length a:=m;rw[e]at d;injection d with d _ _;exact⟨g,j,d.trans n,l,o⟩
def ar.slot (x:ar) (st:Int) (go:Option Addr) (gn gc:Nat) (zs:List Int):ar:={ x with pl:={ x.pl with start:=st,ak:=zs },go:=go,gn:=gn,gc:=gc }
def ar.part (x:ar) (p:Int×Int) (g n c:Nat):ar:={ x with pl:={ x.pl with parts:=x.pl.parts++[p] },po:=Z ⟨g,0,I⟩,pn:=n,pc:=c }
def K0 (st:Int) (zs:List Int) (l:Lf) (k:Nat) (j:Jb):Jb:=⟨j.id,j.sp,l,st,zs,j.parts++(zs.take k).map λn=>(n,0)⟩
def A0x (tick:Int) (l:List (Int×Int×List Int)) (x:Int×Int×List Int):∀js:List Jb,Jl tick (l++[x]) js=Et (Jl tick l js) x.1 (Ls tick x.2.1 x.2.2):=by
 induction l with
 | nil=>intro js;rfl
 | cons y l ih=>intro js;exact ih _
def Ad4 (tick:Int):∀(l:List (Int×Int×List Int)) (js:List Jb),(Jl tick l js).length=js.length
 | [],_=>rfl
 | x :: l,js=>by
  show(Jl tick l (Et js x.1 _)).length=_;rw[Ad4 tick l];unfold Et;rw[Kh]
def Amq (tick:Int):∀(l:List (Int×Int×List Int)) (js:List Jb) (k:Nat),(∀y,y∈l->1<=y.1/\y.1≠(k:Int)+1)->(Jl tick l js)[k]?=js[k]?
 | [],_,_,_=>rfl
 | x :: l,js,k,h=>by
  show(Jl tick l (Et js x.1 _))[k]?=_;rw[Amq tick l _ k (λy a=>h y (Df _ a))];obtain⟨h1,b⟩:=h x D6;unfold Et;rw[Fp]
  cases js[k]? with
  | none=>rfl
  | some j=>
   show Z (if (x.1-1).toNat=k then _ else j)=Z j;rw[Ac ao9]
def A0y {vs:List ax} {X:List Jb} (h:Gk vs X) (tick:Int) (d:List Bool) {i:Nat} {x:Int×Int×List Int} (o:(Kv vs tick d X)[i]?=Z x) :
  ∃(k:Nat) (j:Jb),X[k]?=Z j/\x.1=(k:Int)+1/\j.lf.st=1/\j.parts=[]/\x.2.2.length<=16/\(x.2.1=tick->-1099511627776<=tick->True)/\(Jl tick ((Kv vs tick d X).take i) (X.map I1))[k]?=Z j.bare:=by
 obtain⟨h1,n⟩:=Amd h tick d;obtain⟨k,j,g,e,m,u⟩:=n x (Ai o);have b:j.lf.st=1:=by unfold J2 at m;simp at m;exact m.1
 have t:=(h k j g).idle (by rw[b];rfl);refine⟨k,j,g,e,b,t,?_,λ_ _=>trivial,?_⟩
 .rcases u with⟨_,a⟩|⟨_,a,_⟩
  .rw [a];simp
  .have:=a.len;obtain⟨_,_,_,_,z,_⟩:=Fy (I5 (h k j g).gp);obtain⟨_,p⟩:=C7.1 z;have p:j.sp.nodes<=16:=p;omega
 .rw [Amq tick _ _ k (λy v=>?_),Bg,g]
  .show Z (I1 j)=_;unfold I1;rw[Ad b]
  .obtain ⟨q,l⟩:=Dn v;have f:q<i:=(by have:=(Aq.1 l).1;rw[Dt]at this;omega);rw[L5,Ad f]at l;obtain⟨k',j',_,e',_⟩:=n y (Ai l);refine⟨ao9,λc=>?_⟩;have r:((Kv vs tick d X).map Prod.fst)[q]?=Z y.1:=(by simp[l]);have s:((Kv vs tick d X).map Prod.fst)[i]?=Z x.1:=(by simp[o]);exact F1 h1 r s f ao9
def A0z (tick:Int) (zs:List Int) (j:Jb):Ls tick tick zs j=K0 tick zs (A3 j.lf 3).1 zs.length j:=by
 unfold Ls K0;rw[Ad rfl,Pg]
def A00 {tick st:Int} (zs:List Int) (j:Jb) (h:st≠tick):Ls tick st zs j=K0 st zs j.lf 0 j:=by
 unfold Ls K0;rw[Ac h];simp
end
section
open Go.RowKit Go.Maps Go.Lib
def A01 (t:Int) (j:Jb):(I0 t j).sp=j.sp/\(I0 t j).ak=j.ak:=by
 unfold I0;split
 .exact Adp j _
 .exact ⟨rfl,rfl⟩
def Amr {vs:List ax} {n k:Nat} {j:Jb} (h:Fn vs n k j):Adk j:=by
 obtain⟨_,_,_,_,_,c,_⟩:=Fy (I5 h.gp);obtain⟨a,b⟩:=C7.1 c;have a:1<=j.sp.wall:=a;have b:j.sp.wall<=1000:=b;refine⟨h.low,?_,ao9,ao9⟩;by_cases q:0<=j.start
 .have:=(h.ak q).2;unfold Lg at this;omega
 .omega
def A02 {a:List Bool} {k:Nat} {b:Bool} (c:a[k]?=Z b):((a.take k).map Value.bool++List.replicate (a.length-k) (Value.bool false)).set k (D b)=(a.take (k+1)).map Value.bool++List.replicate (a.length-(k+1)) (Value.bool false):=by
 have f:=(Aq.1 c).1;have d:a.length-k=(a.length-(k+1))+1:=ao9
 have e:((a.take k).map Value.bool).length=k:=by simp;omega
 rw[d,List.replicate_succ,Pl.Rj c,C2,List.set_append_right _ _ ao9,e];simp
structure rh (w5:WD) (vs:List VL) (wr:WD):Prop where
 low:BW w5.heap.size w5 wr
 box:wr.heap[w5.heap.size]?=Z (V vs.toArray 4 (0,0))
def rh.drop {b wr w':WD} {vs:List VL} (h:rh b vs wr) (a:BW wr.heap.size wr w'):rh b vs w':=
 ⟨h.low.trans (a.mono h.low.size),(Mod.ag (S:=λ_=>False) a).aw h.box (λc=>c)⟩
def rh.put {a wr:WD} {vs:List VL} (h:rh a vs wr) (k:Nat) (v:VL):rh a (vs.set k v) (wr.setCell ⟨a.heap.size,k,I⟩ v):=
 ⟨h.low.setCell Ln _,by rw[Am h.box k v];simp⟩
def rh.done {b wr:WD} {a:List Bool} (h:rh b (a.map Value.bool) wr) (d:a.length<=1000000):Pl.Mu wr (Z ⟨b.heap.size,0,I⟩) a.length a:=by
 refine⟨rfl,ao9,λi c=>⟨_,0,rfl,Ab h.box,?_⟩⟩;rw[Cn,Aa h.box i];simp[Pl.bi,List.getD,c]
def Ams {vs:List ax} {n k:Nat} {j:Jb} (h:Fn vs n k j):j.parts.length<=1000:=by
 by_cases e:j.parts=[]
 .rw [e];simp
 .have h1:=Cd List.length (h.pg e);rw[Ar]at h1;have b:=h.run (h.live.2 e);have d:=(h.ak b).1.len;obtain⟨_,_,_,_,c,_⟩:=Fy (I5 h.gp);obtain⟨_,a⟩:=C7.1 c;have a:j.sp.nodes<=16:=a;omega
def A03 {w:WD} {T:Tv} (kd ep d cl sq jn an nn hw:Int) (so:Option Addr) (sn sc:Nat) (di:List ay) (h:An w T) (hA:Dq T.vs T.pl.ab) (ez:T.js.length<=20) :
  CS prog 83 #[Q (Z ⟨T.tb,0,I⟩),(⟨⟨kd,ep,d,cl,sq,jn,an,nn,hw⟩,so,sn,sc,di⟩:de).val] w (λe w'=>Qe w T (Tr T.vs T.pl d) ⟨0,0,0,0⟩ e w'/\Rx T.vs d (vj { T.pl with tick:=d }) (Dd d T.pl.ab)):=by
 obtain⟨x,hx⟩:∃x:de,x=⟨⟨kd,ep,d,cl,sq,jn,an,nn,hw⟩,so,sn,sc,di⟩:=⟨_,rfl⟩;have aC:=Cj.new h ⟨⟨kd,ep,d,cl,sq,jn,an,nn,hw⟩,so,sn,sc,di⟩;obtain⟨W0,dl⟩:=Ex ((w.alloc (V (⟨⟨kd,ep,d,cl,sq,jn,an,nn,hw⟩,so,sn,sc,di⟩:de).cells 40 (0,0))).alloc (V #[G O 0,G O 0,G O 0] 35 (0,0)));rw[<-dl]at aC;obtain⟨cQ,bF,bC,cW,dX,_⟩:=h.ny;obtain⟨tb,ht⟩:=Ex (T.tb);obtain⟨mj,aL⟩:=Ex (T.js.length);rw[<-ht];have hd:W0.heap[tb]?=Z (V #[G O T.ai,G O T.tick,.map (Z T.mb),T.nv,T.jv,Q (Z ⟨T.fb,0,I⟩),T.cv] 115 (0,0)):=by rw[ht];exact aC.tab.at_.head
 have c1:=Bk hd 1 (G O T.tick) rfl;have f1:=Af hd 1;have e2:=Bk aC.box 2 (G O d) rfl;obtain⟨t,f⟩:∃t:Tv,t={ T with tick:=d }:=⟨_,rfl⟩
 have bH:Cj w t ⟨⟨kd,ep,d,cl,sq,jn,an,nn,hw⟩,so,sn,sc,di⟩ t.js (W0.setCell ⟨tb,1,I⟩ (G O d)):=by
  rw[f];have hm:Mod (λk=>k=T.tb) W0 (W0.setCell ⟨tb,1,I⟩ (G O d)):=Mod.setCell _ _ _ _ ht
  have eL:=aC.tab.at_.px (w':=W0.setCell ⟨tb,1,I⟩ (G O d)) T.ai d hm (by
   show(W0.setCell ⟨tb,1,I⟩ (G O d)).heap[T.tb]?=_;rw[<-ht,Am hd]
   rfl)
  have dY:Mod T.az W0 (W0.setCell ⟨tb,1,I⟩ (G O d)):=hm.mono λk _ e=>by rw[e];exact .inl rfl
  exact⟨⟨eL,rfl,λb c=>.inl c,aC.tab.mod.trans dY,aC.tab.kp⟩,dY.aw aC.box (aC.tab.at_.off aC.box ad9 ad9 ad9 ad9 ad9),dY.aw aC.res (aC.tab.at_.off aC.res ad9 ad9 ad9 ad9 ad9)⟩
 have bR:Ed t.pl.ab:=by rw[f];exact hA.b.j5
 have dC:t.pl.ab.length=mj:=by rw[aL,f];simp[Tv.pl]
 have c3:Dq t.vs t.pl.ab:=by rw[f];exact hA
 rw[aL.symm]at dX ez
 have row:∀(js:List (Nat×ar)) (W:WD),Cj w t ⟨⟨kd,ep,d,cl,sq,jn,an,nn,hw⟩,so,sn,sc,di⟩ js W->∀k,k<mj->∃g j,cQ=Z ⟨g,0,I⟩/\js[k]?=Z j/\W.cell? ⟨g,k,I⟩=Z (Q (Z ⟨j.1,0,I⟩)):=λjs W hW k hk=>by
  have hl:js.length=mj:=by rw[aL,hW.tab.len,f]
  obtain⟨j,hj⟩:=Ge js k ao9;obtain⟨e5,em,e1,_,_,hr⟩:=hW.tab.at_.ny;obtain⟨g,e2,hc⟩:=hr k j hj;have e3:T.jv=J e5 js.length em:=by rw[<-e1,f]
  rw[bC]at e3;injection e3 with e3 _ _;exact⟨g,j,e3.trans e2,hj,hc⟩
 have bV:∀(js:List (Nat×ar)) (W:WD),Cj w t ⟨⟨kd,ep,d,cl,sq,jn,an,nn,hw⟩,so,sn,sc,di⟩ js W->W.cell? ⟨tb,1,I⟩=Z (G O d)/\W.cell? ⟨tb,4,I⟩=Z (J cQ mj bF):=λjs W hW=>by
  have e1:({ t with js:=js }:Tv).tb=tb:=by rw[f,ht]
  have:=hW.tab.at_.head;rw[e1]at this;refine⟨?_,?_⟩
  .rw [Aa this 1,f];rfl
  .rw [Aa this 4,aL,<-bC,f];rfl
 clear hx x;replace⟨h,hA,aC,bH,ht,aL,bC,cW⟩:=H8 h hA aC bH ht aL bC cW;replace⟨hd,f,bR,dC,c3,row,bV⟩:=H7 hd f bR dC c3 row bV;go_enter func83,ntmps83;go_upto_region 1 with fail;rw[<-dl];clear dl;go_upto_region 2 with fail;obtain⟨W1,aU⟩:=Ex (W0.setCell ⟨tb,1,I⟩ (G O d));rw[<-aU]at bH;rw[<-aU];clear aU c1 f1 e2;obtain⟨_,c4⟩:=bV _ _ bH.out;have dw:t.js.map (λj=>j.2.pl)=Ee (I0 d) t.pl.ab 0:=rfl;replace dw:=Hh dw;go_wp2_with fail;clear c4;go_loopw [6,33] (λ_ i2 wr=>∃(k:Nat) (js:List (Nat×ar)),i2=G O k/\k<=mj/\Hid (Cj w t ⟨⟨kd,ep,d,cl,sq,jn,an,nn,hw⟩,so,sn,sc,di⟩ js wr)/\Hid (js.map (λj=>j.2.pl)=Ee (I0 d) t.pl.ab k)) (λ_ i2 _=>mj-(intOf i2).toNat)
 case atStart=>exact⟨0,t.js,rfl,As _,bH,dw⟩
 case round=>
  obtain⟨k,js,rfl,hk,hE,hX⟩:=hrel;by_cases hc:k<mj
  .have ba:(k:Int)<mj:=ao9;have eR:(0:Int)<=(k:Int):=ao9;obtain⟨g2,j,rfl,hj,cr⟩:=row _ _ hE.out k hc;obtain⟨jb,jx⟩:=j;obtain⟨aQ,b7⟩:=hE.tab.get hj;obtain⟨c1,_⟩:=bV _ _ hE.out
   have dR:t.pl.ab[k]?=Z jx.pl:=by
    have e1:(js.map (λj=>j.2.pl))[k]?=Z jx.pl:=(by simp[hj]);rw[hX.out,Acd,Ac ao9]at e1;exact e1
   have dV:=Amr (c3.b k _ dR);have eg:=Bk aQ 14 (G O jx.pl.lf.st) rfl;have kl:=λn=>Q8 jx.pl.lf.st (wr.drewN n);have kt:=λn=>Ak9 (w:=wr.drewN n) (b:=jb) (x:=jx) (show(wr.drewN n).heap[jb]?=_ from aQ) dV
   have bl:∀y:ar,y.pl=I0 d jx.pl->(js.set k (jb,y)).map (λj=>j.2.pl)=Ee (I0 d) t.pl.ab (k+1):=λy hy=>by
    rw[Nv js hj hy,hX.out];rfl
   have aS:I0 d jx.pl=jx.pl->js.map (λj=>j.2.pl)=Ee (I0 d) t.pl.ab (k+1):=λe=>by
    have:=bl jx e.symm
    rwa [Zl hj]at this
   obtain⟨st,aG⟩:=Ex (jx.pl.lf.st);obtain⟨lt,b1⟩:=Ex (Lg jx.pl);obtain⟨q,hq⟩:=Ex (dp jx.pl.lf.st);rw[<-hq]at kl;rw[<-aG]at kl eg;rw[<-b1]at kt;replace⟨hj,aQ,b7,dR,dV,kl,kt,bl⟩:=H8 hj aQ b7 dR dV kl kt bl;replace⟨aS,aG,b1,hq⟩:=H4 aS aG b1 hq;go_upto_region 5 with fail
   cases q with
   | false=>
    have af:=aS (by unfold I0 Jb.live;rw[<-hq.out];simp);replace af:=Hh af;go_quiet ((first|(go_at_call 131;(with_reducible exact K2 (kl.out _)))));rename_i nq;have aI:=hE.low (Ba _ wr nq);replace aI:=Hh aI;go_wp2_with fail;go_roundw
    case rel=>exact⟨k+1,_,by go_num,ao9,aI.out,af.out⟩
    case measure=>simp[intOf];omega
   | true=>
    by_cases hl:lt<=d
    .have eP:=At hl;have dW:I0 d jx.pl=Fx jx.pl (-1):=(by unfold I0 Jb.live;rw[Ad ⟨hq.symm,by rw[<-b1.out];exact hl⟩]);replace dW:=Hh dW;go_quiet ((first|(go_at_call 131;(with_reducible exact K2 (kl.out _)))|(go_at_call 132;(with_reducible exact Calls.quiet_of (kt.out _)))));rename_i nq;have aI:=hE.low (Ba _ wr nq);obtain⟨aB,a0⟩:=aI.tab.get hj.out;have dL:=Ah6 aB a0.parts (-1);replace⟨aI,dL⟩:=H2 aI dL;go_wp2_with fail;refine dL.mono ?_;rintro e w3 ⟨rfl,hG⟩;have c5:=aI.dq hj.out hG.mod hG.box hG.parts (All jx (-1));have aJ:=bl (jx.cu (Fx jx.pl (-1))) dW.symm;clear hG;replace⟨c5,aJ⟩:=H2 c5 aJ;go_wp2;go_roundw
     case rel=>exact⟨k+1,_,by go_num,ao9,c5.out,aJ.out⟩
     case measure=>simp[intOf];omega
    .have eP:=Au hl
     have af:=aS (by
      unfold I0
      rw[Ac (λh=>hl (by rw[b1.out];exact h.2))])
     replace af:=Hh af;go_quiet ((first|(go_at_call 131;(with_reducible exact K2 (kl.out _)))|(go_at_call 132;(with_reducible exact Calls.quiet_of (kt.out _)))));rename_i nq;have aI:=hE.low (Ba _ wr nq);replace aI:=Hh aI;go_wp2_with fail;go_roundw
     case rel=>exact⟨k+1,_,by go_num,ao9,aI.out,af.out⟩
     case measure=>simp[intOf];omega
  .have ba:¬(k:Int)<mj:=ao9;have bY:k=mj:=ao9;have af:=hX.out;rw[bY,<-dC.out,Tc]at af;obtain⟨X2,aV⟩:=Ex (t.pl.ab.map (I0 d));rw[<-aV]at af;have bS:Ed X2:=by rw[aV,<-Tc];exact Ra bR.out (Yw _ (λj=>(A01 d j).1) _ _)
   have aG:CS prog 134 #[Q (Z ⟨tb,0,I⟩)] wr (Kq wr { t with js:=js } (Ia X2)):=by
    have:=Ace (T:={ t with js:=js }) hE.tab.at_ (by
     show Ed (js.map λj=>j.2.pl)
     rw[af];exact bS)
    rw[show({ t with js:=js }:Tv).pl.ab=X2 from af]at this;rw[show tb=({ t with js:=js }:Tv).tb from by rw[ht.out,f.out]];exact this
   have dU:Ia X2=Dd d T.pl.ab:=(by rw[aV,f.out];rfl);replace⟨af,aV,bS,aG,bY,dU⟩:=H6 af aV bS aG bY dU;go_upto_region 8 with fail;go_wp2_with fail;refine aG.mono ?_;rintro e w4 ⟨rfl,am,eG,aR⟩
   have bI:=hE.then eG
   rw[dU.out]at aR;clear eG;replace⟨aR,bI⟩:=H2 aR bI;go_upto_region 9 with fail;have bo:=Alp hA.out d;have b2:am.length=mj:=(by rw[aL.out,bI.tab.len,f.out]);have be:=bI.tab.at_
   have cy:∀j,j∈am->∃k,(Dd d T.pl.ab)[k]?=Z j.2.pl:=λj hj=>by
    obtain⟨k,hk⟩:=Dn hj;have e1:(am.map (λj=>j.2.pl))[k]?=Z j.2.pl:=(by simp[hk]);exact⟨k,by rw[<-aR.out];exact e1⟩
   have dM:CS prog 135 #[Q (Z ⟨tb,0,I⟩)] w4 (Adl w4 (Dd d T.pl.ab)):=by
    have:=Ax0 (T:={ t with js:=am }) be (λj hj=>by
     obtain⟨k,hk⟩:=cy j hj
     exact Amr (bo.b k _ hk)) (by show am.length<=1000;omega) (λj hj=>by
     obtain⟨k,hk⟩:=cy j hj;have e1:=Ams (bo.b k _ hk);have e2:=Ji (be.ok j hj).parts;rw[e2]at e1
     exact e1)
    rw[show({ t with js:=am }:Tv).pl.ab=Dd d T.pl.ab from aR.out]at this;rw[show tb=({ t with js:=am }:Tv).tb from by rw[ht.out,f.out]];exact this
   replace⟨bo,b2,be,cy,dM⟩:=H5 bo b2 be cy dM;go_wp2_with fail;refine dM.mono ?_;rintro e w5 ⟨ho,eN,uo,uc,hs,rfl,c7,c6,dk,dH⟩;have bJ:=bI.low dH;replace⟨c7,c6,dk,bJ,dH⟩:=H5 c7 c6 dk bJ dH;go_upto_region 10 with fail;obtain⟨bs,bw⟩:∃bs,bs=vj { T.pl with tick:=d }:=⟨_,rfl⟩;obtain⟨mn,bc⟩:=Ex (T.nodes.length);have aX:bs.length=mn:=(by rw[bw,bc];simp[vj,Tv.pl]);have ad:=bJ.tab.at_;have fg:mn<=16:=by have e1:=ad.same;have e2:=ad.dn.ok.len;rw[f.out]at e1 e2;rw[bc];exact e1▸e2
   have eU:∃so cap,T.nv=J so mn cap/\(0<mn->∃g,so=Z ⟨g,0,I⟩):=by
    have hr:=ad.nodes;rw[f.out]at hr;rw[bc];rcases hr.2 with⟨e,h0⟩|⟨g,cap,eK,e,_,_,h1,h2,_⟩
    .have h0:T.nodes.length=0:=h0;exact⟨I,0,by rw[h0];exact e,λc=>by omega⟩
    .exact ⟨_,_,e,λ_=>⟨_,rfl⟩⟩
   obtain⟨eI,ch,b6,d2⟩:=eU;have aP:w5.heap[tb]?=Z (V #[G O T.ai,G O d,.map (Z T.mb),J eI mn ch,T.jv,Q (Z ⟨T.fb,0,I⟩),T.cv] 115 (0,0)):=(by have:=ad.head;rw[f.out]at this;rw[ht.out,<-b6];exact this);have cR:=Ab aP;have n1:=Bk aP 1 (G O d) rfl;have n3:=Bk aP 3 (J eI mn ch) rfl;have eT:=Pl.Aj6 mn ao9 w5;obtain⟨W6,bP⟩:=Ex (w5.alloc (V (Array.replicate mn (D false)) 4 (0,0)))
   have co:rh w5 ((bs.take 0).map Value.bool++List.replicate (mn-0) (D false)) W6:=
    ⟨by rw[bP];exact Bn,by rw[bP];simpa using Ah _ _⟩
   rw[<-bP]at eT;have e0:=(Ag co.low cR).trans n3;replace⟨bw,bc,aX,ad,b6,d2,aP,co⟩:=H8 bw bc aX ad b6 d2 aP co;replace bP:=Hh bP;go_wp2_with fail;go_upto_region 11 with fail;clear e0;go_loopw [10,11,76] (λ_ _ i2 wr=>∃k:Nat,i2=G O k/\k<=mn/\Hid (rh w5 ((bs.take k).map Value.bool++List.replicate (mn-k) (D false)) wr)) (λ_ _ i2 _=>mn-(intOf i2).toNat)
   case atStart=>exact⟨0,rfl,As _,co⟩
   case round=>
    obtain⟨k,rfl,hk,hU⟩:=hrel;by_cases hc:k<mn
    .have ba:(k:Int)<mn:=ao9;have eR:(0:Int)<=(k:Int):=ao9;obtain⟨ng,rfl⟩:=d2 ao9;obtain⟨nd,cD⟩:=Ge T.nodes k (by have:=bc.out;omega);have d0:=λh2=>ad.pw (i:=k) (n:=nd) (by rw[f.out];exact cD) (g:=ng) (cap:=ch) h2
     obtain⟨q0,q1,q2,_⟩:=d0 (by
      rw[f.out];show T.nv=_
      rw[b6.out,bc.out])
     have dI:bs[k]?=Z (nd.up && !nd.bq && decide (nd.since<d)):=(by rw[bw.out];simp[vj,Tv.pl,cD]);obtain⟨up,dr,si⟩:=nd
     have b5:=(Qm ad.nodes ng (by
      rw[f.out];show T.nv.ownBlock=_
      rw[b6.out];rfl)).2
     have q0:=(Ag hU.low b5).trans q0;have q1:=(Ag hU.low b5).trans q1;have q2:=(Ag hU.low b5).trans q2;replace⟨cD,dI,d0⟩:=H3 cD dI d0;go_upto_region 14 with fail;have a9:=hU.drop ((Below.refl wr.heap.size wr).alloc Ln (V #[D up,D dr,G O si] 119 (0,0)));have cL:(wr.alloc (V #[D up,D dr,G O si] 119 (0,0))).heap[wr.heap.size]?=Z (V #[D up,D dr,G O si] 119 (0,0)):=Ah _ _;have eH:=(Ag a9.low cR).trans n1
     have aM:∀n b,(up && !dr && decide (si<d))=b->Hid (rh w5 ((bs.take (k+1)).map Value.bool++List.replicate (mn-(k+1)) (D false)) (((wr.alloc (V #[D up,D dr,G O si] 119 (0,0))).drewN n).setCell ⟨w5.heap.size,k,I⟩ (D b))):=λn b hb=>by
      have h1:=(a9.drop (Ba _ _ n)).put k (D b);rw[<-aX.out,A02 (by rw[dI.out];exact Cd Z hb),aX.out]at h1;exact Hh h1
     obtain⟨W7,cs⟩:=Ex (wr.alloc (V #[D up,D dr,G O si] 119 (0,0)));rw[<-cs]at a9 cL eH aM;rw[<-cs];obtain⟨z0,z1,z2⟩:=C3 cL;(try dsimp only at z0 z1 z2);have kf:=Af a9.box k
     have kc:W7.cell? ⟨w5.heap.size,k,I⟩=Z (D false):=by
      rw[Aa a9.box k];have e2:((bs.take k).map Value.bool).length=k:=(by have:=aX.out;simp;omega);rw[L4,G7 ao9,e2,Nat.sub_self,List.getElem?_replicate,Ad ao9]
     clear q0 q1 q2;replace⟨a9,cL,aM,cs⟩:=H4 a9 cL aM cs
     cases up with
     | false=>
      have hp:=λn=>aM.out n false rfl;replace hp:=Hh hp;go_region
      all_goals
       go_wp2;go_roundw
       case rel=>exact⟨k+1,by go_num,ao9,hp _⟩
       case measure=>simp[intOf];omega
     | true=>
      cases dr with
      | true=>
       have hp:=λn=>aM.out n false rfl;replace hp:=Hh hp;go_region
       all_goals
        go_wp2;go_roundw
        case rel=>exact⟨k+1,by go_num,ao9,hp _⟩
        case measure=>simp[intOf];omega
      | false=>
       by_cases hs:si<d
       .have dK:=At hs;have hp:=λn=>aM.out n true (by rw[dK];rfl);replace hp:=Hh hp;go_region
        all_goals
         go_wp2;go_roundw
         case rel=>exact⟨k+1,by go_num,ao9,hp _⟩
         case measure=>simp[intOf];omega
       .have dK:=Au hs;have hp:=λn=>aM.out n false (by rw[dK];rfl);replace hp:=Hh hp;go_region
        all_goals
         go_wp2;go_roundw
         case rel=>exact⟨k+1,by go_num,ao9,hp _⟩
         case measure=>simp[intOf];omega
    .have ba:¬(k:Int)<mn:=ao9;have eS:k=mn:=ao9;subst eS;have bG:Pl.Mu wr (Z ⟨w5.heap.size,0,I⟩) k bs:=(by have h1:=hU.out;rw[Nat.sub_self,List.replicate_zero,Nf,Cr (by rw[aX.out];exact Nat.le_refl _)]at h1;have h2:=h1.done (by have:=aX.out;omega);rw[aX.out]at h2;exact h2);replace bG:=Hh bG
     obtain⟨ck,vn,c2,bx⟩:∃so n cap,T.cv=J so n cap/\n=T.vs.length:=by
      have hr:=ad.bh;rw[f.out]at hr;rcases hr.2 with⟨e,h0⟩|⟨g,cap,eK,e,_,_,h1,h2,_⟩
      .exact ⟨I,0,0,e,h0.symm⟩
      .exact ⟨_,_,_,e,rfl⟩
     have bX:∀W',BW w5.heap.size w5 W'->W'.cell? ⟨tb,1,I⟩=Z (G O d)/\W'.cell? ⟨tb,6,I⟩=Z (J ck vn c2):=λW' hb=>by
      refine⟨(Ag hb cR).trans n1,(Ag hb cR).trans ?_⟩;rw[<-bx.1];exact Aa aP.out 6
     have eb:∀W',BW w5.heap.size w5 W'->CS prog 137 #[Q (Z ⟨tb,0,I⟩),J uo (Dx (Dd d T.pl.ab)).length uc] W' (Ad2 T.vs W' (Dd d T.pl.ab)):=λW' hb=>by
      have e1:({ t with js:=am }:Tv).pl.ab=Dd d T.pl.ab:=aR.out
      have h2:=A0s (T:={ t with js:=am }) (ad.low hb) (by
       rw[e1,f.out]
       exact bo.b) (by show am.length<=20;have:=b2.out;omega) uo (Dx (Dd d T.pl.ab)).length uc (by rw[e1];exact dk.low hb)
      rw[e1]at h2;rw[f.out]at h2;rw[show tb=T.tb from ht.out];exact h2
     have aE:=hU.low;have d6:Pl.Ow w5 ck vn (T.vs.map ax.cap):=by have hr:=ad.bh;have hl:=ad.dn.ok.len;rw[f.out]at hr hl;have hl:T.vs.length<=16:=hl;have hr:w5.ownsRow 0 30 4 T.cv T.vs.length (Av V4.cells (T.vs.map ax.cap)):=hr;rw[bx.1,show T.vs.length=(T.vs.map ax.cap).length by simp]at hr;exact A0t hr (by rw[bx.2];simp) (by rw[bx.2];omega)
     have ec:∀(W':WD) (ao:Option Addr) (l lc:Nat) (al:List Pl.Ask),BW wr.heap.size wr W'->Pl.Y8 W' ao l al->al.map Pl.Ask.er=Fc T.vs (Dd d T.pl.ab)->l<=1000000->CS prog 136 #[J ck vn c2,J (Z ⟨w5.heap.size,0,I⟩) k k,G O d,J ho hs.length eN,J ao l lc] W' (λe w'=>∃v rv,e=K (E #[v,rv])/\SlD w5 T.vs d bs (Dd d T.pl.ab) v rv w'):=λW' ao l lc al hb ha he hl=>
      A0v d6 c6.out (aE.trans (hb.mono aE.size)) (bG.below hb Ln) ha he hl (Pl.Mw.below c7.out (aE.trans (hb.mono aE.size)) (λ_ q=>q.below (aE.trans (hb.mono aE.size))))
     have cg:∀al:List Pl.Ask,al.map Pl.Ask.er=Fc T.vs (Dd d T.pl.ab)->al.length<=1000000:=λal he=>by
      have h1:=Cd List.length he;rw[Ar]at h1;have h2:=A0u T.vs (Dd d T.pl.ab);have h3:(Dd d T.pl.ab).length=am.length:=(by rw[<-aR.out];simp);have h4:=b2.out;omega
     have aD:BW wr.heap.size wr wr.drew:=(Below.refl _ _).drew;replace⟨bG,bX,eb,aE,bx,d6,ec,cg⟩:=H8 bG bX eb aE bx d6 ec cg;replace aD:=Hh aD;go_wp2_with fail;go_cut [12,13] (λv rv wx=>SlD w5 T.vs d bs (Dd d T.pl.ab) v rv wx)
     case first=>
      go_region_held3 (λW'=>W'.cell? ⟨tb,1,I⟩=Z (G O d)/\W'.cell? ⟨tb,6,I⟩=Z (J ck vn c2))
       (first
         | with_reducible exact bX.out _ (aE.out.trans (aD.out.mono aE.out.size))
         | exact bX.out _ (aE.trans (aD.mono aE.size)).drew
         | exact bX.out _ cn.1.low)
       (first
         | (go_at_call 137
            (with_reducible refine(eb.out _ (aE.out.trans (aD.out.mono aE.out.size))).mono ?_)
            rintro e w6 ⟨ao,fn,fm,al,rfl,rfl,bU,bf,ev⟩;replace aD:=Hh (aD.trans (ev.mono aD.size));have bT:=cg al bf;replace⟨bU,bf,bT⟩:=H3 bU bf bT
            clear ev)
         | (go_at_call 136
            (with_reducible refine(ec.out _ _ _ _ _ aD.out bU.out bf.out bT.out).mono ?_)
            rintro e w7 ⟨v7,ft,rfl,cn⟩
            replace cn:=Hh cn))
      go_wp2_with fail;go_meet
      case rel=>exact cn.out
     case rest=>
      obtain⟨⟨fv,bE,fu,sr,ef,rfl,rfl,cH,bZ,ca,cG,cw,d5⟩,d4⟩:=hcut;have bK:=bJ.low cw;obtain⟨_,c4⟩:=bV _ _ bK;have c8:Bw wc { t with js:=am } am wc:=Bw.refl (T:={ t with js:=am }) bK.tab.at_;have bQ:am.map (λj=>j.2.pl)=Ee I1 (Dd d T.pl.ab) 0:=aR.out;have aW:(Dd d T.pl.ab).length=mj:=(by rw[<-aR.out,<-b2.out];simp);replace⟨cH,bZ,ca,cG,cw,d5,bK,c8⟩:=H8 cH bZ ca cG cw d5 bK c8;replace⟨bQ,d4,aW⟩:=H3 bQ d4 aW;go_wp2_with fail;clear c4;go_loopw [15,126] (λ_ i2 wr=>∃(p:Nat) (js:List (Nat×ar)),i2=G O p/\p<=mj/\Hid (Bw wc { t with js:=am } js wr)/\Hid (js.map (λj=>j.2.pl)=Ee I1 (Dd d T.pl.ab) p)) (λ_ i2 _=>mj-(intOf i2).toNat)
      case atStart=>exact⟨0,am,rfl,As _,c8,bQ⟩
      case round=>
       obtain⟨p,cN,rfl,hp,hJ,hX⟩:=hrel;by_cases hc:p<mj
       .have ba:(p:Int)<mj:=ao9;have cF:(0:Int)<=(p:Int):=ao9;obtain⟨g2,j,rfl,hj,cr⟩:=row _ _ (bK.then hJ.out) p hc;obtain⟨jb,jx⟩:=j;obtain⟨aQ,b7⟩:=hJ.get hj;have eg:=Bk aQ 14 (G O jx.pl.lf.st) rfl
        have cE:∀y:ar,y.pl=I1 jx.pl->(cN.set p (jb,y)).map (λj=>j.2.pl)=Ee I1 (Dd d T.pl.ab) (p+1):=λy hy=>by
         rw[Nv cN hj hy,hX.out];rfl
        have dJ:=Yn aQ;obtain⟨st,aG⟩:=Ex (jx.pl.lf.st);rw[<-aG]at eg;replace⟨hj,aQ,b7,cE,dJ,aG⟩:=H6 hj aQ b7 cE dJ aG;by_cases q:st=1
        .have d1:=Ma.2 q;have aJ:=cE jx.bare (by unfold I1;rw[Ad (aG.symm.trans q)];rfl);replace⟨aJ,q⟩:=H2 aJ q;go_wp2_with fail;refine dJ.mono ?_;rintro e w3 ⟨rfl,cT,bb⟩;have c9:=hJ.vg hj.out bb cT (Yr jx) ⟨rfl,rfl,rfl,rfl⟩;clear cT bb;replace c9:=Hh c9;go_wp2;go_roundw
         case rel=>exact⟨p+1,_,by go_num,ao9,c9,aJ⟩
         case measure=>simp[intOf];omega
        .have d1:=Bj.2 q;have aJ:=cE jx (by unfold I1;rw[Ac (λc=>q (aG.trans c))]);rw[Zl hj.out]at aJ;replace⟨aJ,q⟩:=H2 aJ q;go_wp2_with fail;go_roundw
         case rel=>exact⟨p+1,_,by go_num,ao9,hJ,aJ⟩
         case measure=>simp[intOf];omega
       .have ba:¬(p:Int)<mj:=ao9;have eE:p=mj:=ao9;have af:=hX.out;rw[eE,<-aW.out,Tc]at af;have db:=od.start bJ.out cw.out hJ.out;obtain⟨L,hL⟩:=Ex (Kv T.vs d bs (Dd d T.pl.ab));obtain⟨Y9q,hY⟩:=Ex ((Dd d T.pl.ab).map I1);have dD:Y9q.length=mj:=(by rw[hY,Ar];exact aW.out);have dg:cN.map (λj=>j.2.pl)=Jl d (L.take 0) Y9q:=by rw[af,hY];rfl
        have cb:∀(i:Nat) (x:Int×Int×List Int),L[i]?=Z x->∃(k:Nat) (j:Jb),(Dd d T.pl.ab)[k]?=Z j/\x.1=(k:Int)+1/\j.lf.st=1/\j.parts=[]/\x.2.2.length<=16/\(Jl d (L.take i) Y9q)[k]?=Z j.bare:=λi x hx=>by
         rw[hL]at hx ⊢;rw[hY];obtain⟨k,j,a1,a2,a3,a4,a5,_,a6⟩:=A0y bo.b d bs hx;exact⟨k,j,a1,a2,a3,a4,a5,a6⟩
        rw[<-hL]at bZ;have fl:=ca.max
        have bg:∀(js:List (Nat×ar)) (W:WD),An W { t with js:=js }->W.cell? ⟨tb,1,I⟩=Z (G O d)/\W.cell? ⟨tb,4,I⟩=Z (J cQ mj bF):=λjs W hW=>by
         have:=hW.head;rw[f.out]at this;rw[ht.out];refine⟨Aa this 1,?_⟩;rw[Aa this 4];show Z T.jv=_;rw[bC.out,aL.out]
        have bW:t.jv=J cQ mj bF:=(by rw[f.out,aL.out];exact bC.out);obtain⟨iP,dN,ea,ce,cf⟩:=B4 Alt;clear hX af hJ eE;replace⟨db,hL,hY,dD,dg,cb,bg,bW⟩:=H8 db hL hY dD dg cb bg bW;replace⟨dN,ea,ce,cf⟩:=H4 dN ea ce cf;go_wp2_with fail;go_loopw [17,18,20,141,178] (λ_ _ _ i2 _ wr=>∃(i:Nat) (js:List (Nat×ar)),i2=G O i/\i<=bE/\Hid (od w w5 wc t js wr)/\Hid (js.map (λj=>j.2.pl)=Jl d (L.take i) Y9q)) (λ_ _ _ i2 _ _=>bE-(intOf i2).toNat)
        case atStart=>exact⟨0,cN,rfl,As _,db,dg⟩
        case round=>
         obtain⟨i,aN,rfl,hi,hP,hX⟩:=hrel;by_cases hc:i<bE
         .have ba:(i:Int)<bE:=ao9;have fo:(0:Int)<=(i:Int):=ao9;obtain⟨s,hs⟩:=Ge ef i (by have:=cH.out;omega);have cc:=A0w ca.out hP.low (λb ci e c=>by have:=d5 b ci e;omega) (λs hs b ci e c=>by have:=cG s hs b ci e;omega);obtain⟨sb,cj,e9,cZ,b9,eF⟩:=cc.cell i s hs;subst e9;have cm:L[i]?=Z s.key:=(by rw[<-bZ.out,Bg,hs];rfl);obtain⟨k2,j0,dQ,dO,c0,cF,a8,dF⟩:=cb i _ cm;have bY:k2<mj:=(by have h1:=(Aq.1 dQ).1;have h2:=aW.out;omega);have dT:aN.length=mj:=(by have:=Cd List.length hX.out;rw[Ar,Ad4,dD.out]at this;exact this);have aH:Pl.Ap wc s.go s.gn s.eh/\s.gn<=s.gc:=(by obtain⟨_,_,_,_,_,ho⟩:=ca.cell i _ hs;exact⟨ho.ak,ho.qg⟩);have bn:=cG _ (Ai hs);obtain⟨e4,r,av,m,ap,o⟩:=s;have dO:e4=(k2:Int)+1:=dO;subst dO;have a8:o.length<=16:=a8;have aH:Pl.Ap wc av m o/\m<=ap:=aH;have s0:wr.cell? ⟨sb,cj+i*3,I⟩=Z (G O ((k2:Int)+1)):=b9 0 ao9;have s1:wr.cell? ⟨sb,cj+i*3+1,I⟩=Z (G O r):=b9 1 ao9;have s2:wr.cell? ⟨sb,cj+i*3+2,I⟩=Z (J av m ap):=b9 2 ao9;replace⟨hs,cc,b9,eF,cm,dQ,c0,cF⟩:=H8 hs cc b9 eF cm dQ c0 cF;replace⟨a8,dF,dT,aH,bn,cZ⟩:=H6 a8 dF dT aH bn cZ;go_upto_region 26 with fail;obtain⟨nb,dZ⟩:=Ex (wr.heap.size);obtain⟨W1,aU⟩:=Ex (wr.alloc (V #[G O ((k2:Int)+1),G O r,J av m ap] 224 (0,0)));have dG:BW wr.heap.size wr W1:=(by rw[aU];exact Bn);have cI:W1.heap[nb]?=Z (V #[G O ((k2:Int)+1),G O r,J av m ap] 224 (0,0)):=(by rw[aU,dZ];exact Ah _ _);rw[<-aU,<-dZ];clear aU dZ s0 s1 s2;have bL:=hP.drop dG;obtain⟨g2,j,e8,hj,cr⟩:=An.rowAt (T:=t) bL.tab.at_ bW.out dT.out bY;obtain⟨jb,jx⟩:=j;subst e8;obtain⟨_,c4⟩:=bg _ _ bL.tab.at_;have p0:=Bk cI 0 (G O ((k2:Int)+1)) rfl;have fs:IntKind.i64.wrap ((k2:Int)+1-1)=(k2:Int):=(by rw[Int.add_sub_cancel];exact Ig ao9 ao9);have fe:(0:Int)<=(k2:Int):=ao9;have ff:(k2:Int)<mj:=ao9;replace⟨dG,cI,bL,hj⟩:=H4 dG cI bL hj;go_quiet (fail);rename_i nq;have bv:=bL.drop (Ba _ W1 nq);have bd:(W1.drewN nq).heap[nb]?=Z (V #[G O ((k2:Int)+1),G O r,J av m ap] 224 (0,0)):=cI.out;obtain⟨W2,eq⟩:=Ex (W1.drewN nq);rw[<-eq]at bv bd ⊢;clear eq c4 cr p0;have aB:=bv.tab.at_.box _ (Ai hj.out);have a0:=bv.tab.at_.ok _ (Ai hj.out);have p1:=Bk bd 1 (G O r) rfl;have p2:=Bk bd 2 (J av m ap) rfl;have ej:∃v,W2.cell? ⟨jb,19,I⟩=Z v:=⟨_,Aa aB 19⟩;have ek:∃v,W2.cell? ⟨jb,20,I⟩=Z v:=⟨_,Aa aB 20⟩;obtain⟨fx,ej⟩:=ej;obtain⟨fz,ek⟩:=ek;have en:=Af aB
          have b4:nb≠jb:=λe=>by
           have h1:W2.heap[jb]?=_:=aB;rw[<-e,bd]at h1;injection h1 with h1;injection h1 with _ h1;exact absurd h1 ad9
          have fk:=b4.symm
          have bD:jx.pl=j0.bare:=by
           have e1:(aN.map λj=>j.2.pl)[k2]?=Z jx.pl:=(by simp[hj.out]);rw[hX.out,dF.out]at e1;injection e1 with e1;exact e1.symm
          replace⟨bv,bd,aB,a0,bD⟩:=H5 bv bd aB a0 bD;go_upto_region 27 with fail;go_region;obtain⟨W3,cp⟩:=Ex (((W2.setCell ⟨jb,19,I⟩ (G O r)).setCell ⟨jb,20,I⟩ (J av m ap)).drew);have bb:Kb jb W2 W3:=(by rw[cp];exact(((Mod.refl (λk=>k=jb) W2).set jb 19 _ rfl).set jb 20 _ rfl).drew);have eu:Bc W3 jb (jx.slot r av m ap o):=(by rw[cp];have h1:=Am (Am aB.out 19 (G O r)) 20 (J av m ap);show((W2.setCell ⟨jb,19,I⟩ (G O r)).setCell ⟨jb,20,I⟩ (J av m ap)).heap[jb]?=_;rw[h1];simp[ar.slot]);have eA:=Vd aB.out a0.parts bb;have bM:=bv.set hj.out (Pv bb) eu eA (λb e=>.inl e) ⟨rfl,rfl,rfl,rfl⟩ (.inr ⟨aH.1,aH.2,bn.out⟩);have cJ:=bb.aw bd.out b4;obtain⟨c1,_⟩:=bg _ _ bM.tab.at_;have q1:=Bk cJ 1 (G O r) rfl;have bA:(aN.set k2 (jb,jx.slot r av m ap o))[k2]?=Z (jb,jx.slot r av m ap o):=by rw[List.getElem?_set_self (by have:=(Aq.1 hj.out).1;exact this)]
          have aT:∀y:ar,y.pl=Ls d r o j0.bare->(aN.set k2 (jb,y)).map (λj=>j.2.pl)=Jl d (L.take (i+1)) Y9q:=λy hy=>by
           rw[Pl.Rj cm.out,A0x];show _=Et _ ((k2:Int)+1) (Ls d r o);unfold Et;rw[show((k2:Int)+1-1).toNat=k2 by omega,<-hX.out];exact Nv aN hj.out (by rw[hy,bD.out])
          rw[<-cp];clear cp p1 p2 ej ek en bb eu eA;replace⟨bM,cJ,bA,aT⟩:=H4 bM cJ bA aT;by_cases qs:r=d
          .have d1:=Ma.2 qs;replace qs:=Hh qs;go_upto_region 28 with fail;go_quiet (fail);have aK:=bM.drop (Ba _ W3 nq);have cK:(W3.drewN nq).heap[nb]?=Z (V #[G O ((k2:Int)+1),G O r,J av m ap] 224 (0,0)):=cJ.out;have b3:=Ta (aK.tab.at_.box _ (Ai bA.out)) 3 ao9;obtain⟨l,hl⟩:=Ex ((A3 (jx.slot r av m ap o).pl.lf 3).1);rw[<-hl]at b3;obtain⟨W4,es⟩:=Ex (W3.drewN nq);rw[<-es]at aK cK b3 ⊢;clear es c1 q1;replace⟨aK,cK,b3,hl⟩:=H4 aK cK b3 hl;go_wp2_with fail;refine b3.mono ?_;rintro e e6 ⟨rfl,cS,cA⟩;have cX:=aK.tab.at_.ok _ (Ai bA.out);have cU:=aK.tab.at_.box _ (Ai bA.out);have eB:=Vd cU cX.parts cA;have dc:=aK.set bA.out (Pv cA) cS eB (λb e=>.inl e) ⟨rfl,rfl,rfl,rfl⟩ (.inl ⟨rfl,rfl,rfl,rfl⟩);rw[Qo]at dc;have d7:=cA.aw cK.out b4;have q2:=Bk d7 2 (J av m ap) rfl;have cx:=aH.1.len
           have eD:∃jy:ar,od w w5 wc t (aN.set k2 (jb,jy)) e6/\jy.pl=K0 d o l 0 j0.bare:=⟨_,dc,by
            show({ jx.pl with start:=r,ak:=o,lf:=l }:Jb)=_;rw[bD.out,qs.out]
            simp[K0,Jb.bare]⟩
           have dS:(Ls d r o j0.bare)=K0 d o l m j0.bare:=(by rw[qs.out,A0z,hl.out,cx];show K0 d o (A3 j0.bare.lf 3).1 _ _=K0 d o (A3 jx.pl.lf 3).1 _ _;rw[bD.out]);obtain⟨eZ,dd,d8⟩:=eD;have fd:m<=16:=(by have:=a8.out;omega);clear cS cA cX cU dc eB;replace⟨dd,d8,d7,cx,dS⟩:=H5 dd d8 d7 cx dS;go_wp2_with fail;clear q2;go_loopw [20,178] (λ_ i2 wr=>∃(q:Nat) (jy:ar),i2=G O q/\q<=m/\Hid (od w w5 wc t (aN.set k2 (jb,jy)) wr)/\Hid (jy.pl=K0 d o l q j0.bare)) (λ_ i2 _=>m-(intOf i2).toNat)
           case atStart=>exact⟨0,eZ,rfl,As _,dd,d8⟩
           case round=>
            obtain⟨q,jy,rfl,hq,bN,d9⟩:=hrel;by_cases ex:q<m
            .have eO:(q:Int)<m:=ao9;have fq:(0:Int)<=(q:Int):=ao9;have bB:(aN.set k2 (jb,jy))[k2]?=Z (jb,jy):=(by rw[List.getElem?_set_self (by have:=(Aq.1 hj.out).1;exact this)]);have dP:=Ad3 aH.1 bN.low (λb ci e c=>by have:=bn b ci e;omega);obtain⟨gb,fc,e7,cV,eQ⟩:=dP.cell q ex;subst e7;obtain⟨z,hz⟩:=Ex (Pl.zi o q);rw[<-hz]at eQ
             have cd:o[q]?=Z z:=by
              rw[hz];have eX:q<o.length:=(by rw[cx.out];exact ex);simp[Pl.zi,List.getD,eX]
             have aY:=bN.tab.at_.box _ (Ai bB);have cY:=bN.tab.at_.ok _ (Ai bB);obtain⟨cP,ac,cO,aF⟩:∃a b c,jy.po=a/\jy.pn=b/\jy.pc=c:=⟨_,_,_,rfl,rfl,rfl⟩;have fa:=Bk aY 21 (J jy.po jy.pn jy.pc) rfl;rw[aF.1,aF.2.1,aF.2.2]at fa;have hA:=(Below.refl wr.heap.size wr).alloc Ln (V #[G O z,G O 0] 65);obtain⟨WA,ds⟩:=Ex (wr.alloc (V #[G O z,G O 0] 65));have cM:WA.heap[wr.heap.size]?=Z (V (Fz (z,0)) 65 (0,0)):=(by rw[ds];exact Ah _ _);rw[<-ds]at hA;have bO:=bN.drop hA;have aZ:=Ae hA aY (Ab aY);have bi:=bO.tab.at_.ok _ (Ai bB);have bk:WA.ownsRow 0 65 2 (J jy.po jy.pn jy.pc) jy.pn (Av Fz jy.pl.parts):=bi.parts;have b0:=Ji bi.parts;rw[aF.1,aF.2.1,aF.2.2,show ac=jy.pl.parts.length from by rw[b0,aF.2.1]]at bk;have a7:Bf Fz 2 65 WA 0 (J cP ac cO) jy.pl.parts:=⟨by rw[show ac=jy.pl.parts.length from by rw[b0,aF.2.1]];exact bk⟩;have cB:jy.pl.parts.length=ac:=by rw[b0,aF.2.1]
             have b8:∀u∈(Fz (z,0)).toList,u.oneCell'=true:=by intro u hu;simp at hu;rcases hu with rfl|rfl<;>rfl
             have et:0<=WA.heap.size:=As _
             have eV:ac<=1000000:=by
              have h1:jy.pl.parts.length=([]++(o.take q).map λn=>(n,(0:Int))).length:=(by rw[d9.out];show(j0.parts++_).length=_;rw[cF.out]);rw[Ph,Ar,Dt]at h1;omega
             replace⟨bB,dP,cV,hz,cd,aY,cY,aF⟩:=H8 bB dP cV hz cd aY cY aF;replace⟨hA,cM,bO,aZ,bi,bk,b0,a7⟩:=H8 hA cM bO aZ bi bk b0 a7;replace⟨cB,b8⟩:=H2 cB b8;rw[ds]at cM bO aZ a7 et;go_wp2_with (at_builtin;refine Adj (cells:=Fz) (sz:=2) rfl _ _ 44 rfl 0 iP _ 16 Aau dN.out ea.out ce.out cf.out rfl (Gn _) ad9 (λ_=>rfl) (J cP ac cO) rfl ac a7.out cB.out wr.heap.size 1 rfl (z,0) b8.out cM.out eV et ?_;intro g9 aA w9 h9 ey dE;have cC:=Mod.grown (S:=λk=>(Value.slice cP ac cO).ownBlock=Z k) ey (λk hk=>hk);have aO:=cC.aw aZ.out (λe=>Bq a7.row aZ.out ad9 e);have eJ:=Aa aO 21;have en:=Af aO 21;simp at eJ;replace⟨h9,cC,aO,dE⟩:=H4 h9 cC aO dE;clear ey);go_roundw
             have eM:od w w5 wc t (aN.set k2 (jb,jy.part (z,0) g9 (ac+1) aA)) (w9.setCell ⟨jb,21,I⟩ (J (Z ⟨g9,0,I⟩) (ac+1) aA)):=by
              have eC:jy.pb=(Value.slice cP ac cO).ownBlock:=(by unfold ar.pb;rw[aF.1,aF.2.1,aF.2.2]);have aL:=Mod.setCell (S:=λk=>k=jb) w9 jb 21 (J (Z ⟨g9,0,I⟩) (ac+1) aA) rfl;have hm:=(cC.mono (S':=Gd (jb,jy)) λk _ c=>.inr (by rw[eC];exact c)).set jb 21 (J (Z ⟨g9,0,I⟩) (ac+1) aA) (.inl rfl)
              have eW:Bv (w9.setCell ⟨jb,21,I⟩ (J (Z ⟨g9,0,I⟩) (ac+1) aA)) (jy.part (z,0) g9 (ac+1) aA):=by
               have h1:=(h9.mod aL (λk hk e=>by
                subst e
                exact Bq h9.row aO.out ad9 hk)).row
               rw[Az,cB.out]at h1;exact h1
              have ew:Bc (w9.setCell ⟨jb,21,I⟩ (J (Z ⟨g9,0,I⟩) (ac+1) aA)) jb (jy.part (z,0) g9 (ac+1) aA):=by unfold Bc;rw[Am aO.out];simp[ar.part]
              have h1:=bO.set bB.out hm ew eW (λb e=>by
               have e:(Value.slice (Z ⟨g9,0,I⟩) (ac+1) aA).ownBlock=Z b:=e;simp[Value.ownBlock]at e;subst e;rcases dE.out with c|c
               .exact .inl (by rw[eC];exact c)
               .exact .inr ao9) ⟨rfl,rfl,rfl,rfl⟩ (.inl ⟨rfl,rfl,rfl,rfl⟩)
              rw[Qo]at h1;exact h1
             have eY:(jy.part (z,0) g9 (ac+1) aA).pl=K0 d o l (q+1) j0.bare:=by show({ jy.pl with parts:=jy.pl.parts++[(z,0)] }:Jb)=_;rw[d9.out];unfold K0;rw[Pl.Rj cd.out];simp
             case rel=>exact⟨q+1,_,by go_num,ao9,eM,eY⟩
             case measure=>simp[intOf];omega
            .have eO:¬(q:Int)<m:=ao9;have d3:q=m:=ao9;have dB:=aT jy (by rw[d9.out,d3,dS.out]);replace⟨dB,d3⟩:=H2 dB d3;go_wp2_with fail;go_roundw
             case rel=>exact⟨i+1,_,by go_num,ao9,bN,dB⟩
             case measure=>simp[intOf];omega
          .have d1:=Bj.2 qs
           have dA:=aT (jx.slot r av m ap o) (by
            rw[A00 o _ qs];show({ jx.pl with start:=r,ak:=o }:Jb)=_;rw[bD.out]
            simp[K0,Jb.bare])
           replace⟨dA,qs⟩:=H2 dA qs;go_upto_region 28 with fail;go_quiet (fail);have aK:=bM.drop (Ba _ W3 nq);replace aK:=Hh aK;go_wp2_with fail;go_roundw
           case rel=>exact⟨i+1,_,by go_num,ao9,aK,dA⟩
           case measure=>simp[intOf];omega
         .have ba:¬(i:Int)<bE:=ao9;have ct:=hX.out;have da:L.length=bE:=(by rw[<-bZ.out,Ar,cH.out]);rw[Cr (by rw[da];omega)]at ct;obtain⟨r0,r1,r2⟩:=C3 hP.res;(try dsimp only at r0 r1 r2);have fr:=Af hP.res;have hD:=hP.done h.out (by rw[f.out]) (by rw[f.out]) (G O 0) (G O 0) (G O 0);replace⟨ct,da,hD⟩:=H3 ct da hD;go_wp2_with fail;refine Ak (v:=F9 ⟨0,0,0,0⟩) (by simp[results,results83,go_sem,r0,r1,r2]) rfl ⟨⟨rfl,?_⟩,?_⟩
          .have hD:=hD.out;rw[f.out]at hD;refine⟨_,⟨hD.at_,rfl,rfl,rfl,rfl,rfl,hD.az,hD.mod,hD.dz⟩,?_⟩;show(⟨T.ai,d,T.cls,T.nodes,aN.map λj=>j.2.pl⟩:du)=_;rw[ct.out,hL.out,hY.out,bw.out];rfl
          .have:=d4.out;rw[bw.out]at this;exact this
def A06:(prog.info? 125).map (λi=>(i.zero,i.size,i.bytes))=Z (Z (Q I),1,8):=by kernel_rfl
structure qy (w:WD) (T:Tv) (rb B g L:Nat) (s2:List VL) (R:List (List Int)) (jv:VL) (js:List (Nat×ar)) (wr:WD):Prop where
 sub:D4 w T jv js wr
 res:wr.heap[w.heap.size+1]?=Z (V #[G O 0,G O 0,G O 0] 35 (0,0))
 rep:wr.heap[rb]?=Z (V #[G O 0,G O ((T.js.length:Int)+1),G O 0] 35 (0,0))
 rows:Cz wr B g L s2 R
 dz:∀j,j∈js->(0<j.2.sn->∀k o,j.2.so=Z ⟨k,o,I⟩->k≠rb/\k≠w.heap.size+1)/\(0<j.2.gn->∀k o,j.2.go=Z ⟨k,o,I⟩->k≠rb/\k≠w.heap.size+1)
 stays:Ii w T.js js
variable {w w' wr:WD} {T:Tv} {rb B g L:Nat} {s2:List VL} {R:List (List Int)} {jv jv':VL} {js:List (Nat×ar)}
def qy.low (h:qy w T rb B g L s2 R jv js wr) (a:BW wr.heap.size wr w'):qy w T rb B g L s2 R jv js w':=
 ⟨h.sub.low a,Ae a h.res (Ab h.res),Ae a h.rep (Ab h.rep),h.rows.low a,h.dz,h.stays⟩
def D4.stay (h:D4 w T jv js wr) (g:Mod (λk=>k=T.tb\/jv.ownBlock=Z k) wr w') {b:Nat} {c:Array VL} {a:TypeId} (d:wr.heap[b]?=Z (V c a (0,0))) (h1:a≠115) (f:a≠125):w'.heap[b]?=Z (V c a (0,0)):=g.aw d λe=>by
 rcases e with e|e
 .subst e;have:=h.at_.head;rw[show({ T with jv:=jv,js:=js }:Tv).tb=T.tb from rfl,d]at this;injection this with this;injection this with _ this;exact h1 this
 .exact Bq h.at_.ab d (λe=>f e.symm) e
def qy.add (h:qy w T rb B g L s2 R jv js wr) {b:Nat} {x:ar} (m:Mod (λk=>k=T.tb\/jv.ownBlock=Z k) wr w')
  (hd:w'.heap[T.tb]?=Z (V #[G O T.ai,G O T.tick,.map (Z T.mb),T.nv,jv',Q (Z ⟨T.fb,0,I⟩),T.cv] 115 (0,0)))
  (hr:w'.ownsRow 0 125 1 jv' (js.length+1) ((js.map λj=>Q (Z ⟨j.1,0,I⟩))++[Q (Z ⟨b,0,I⟩)]))
  (s:∀k,jv'.ownBlock=Z k->jv.ownBlock=Z k\/wr.heap.size<=k)
  (hb:wr.heap.size<=b) (n:Bc w' b x) (t:x.po=I/\x.pn=0/\x.pc=0/\x.pl.parts=[]) (l:x.go=I/\x.gn=0/\x.gc=0/\x.pl.ak=[])
  (v:Ap w' x.so x.sn x.pl.sp.after) (f:∀k o,x.so=Z ⟨k,o,I⟩->∃c,w'.heap[k]?=Z (V c 3 (0,0))) (u:x.sn<=x.sc) (hu:x.pl.sp.user.size<=maxLen) (hp:x.pl.sp.part.size<=maxLen) (p:∀k o,x.so=Z ⟨k,o,I⟩->w.heap.size<=k) :
  qy w T rb B g L s2 R jv' (js++[(b,x)]) w':=by
 refine⟨h.sub.add m hd hr s hb n t l v f u hu hp,h.sub.stay m h.res ad9 ad9,h.sub.stay m h.rep ad9 ad9,h.rows.off m (λe=>?_) (λi sv y k z e=>?_),λj a=>?_,λj a=>?_⟩
 .obtain ⟨_,_,c,d⟩:=h.rows.aw;rcases e with e|e
  .subst e;have:=h.sub.at_.head;rw[show({ T with jv:=jv,js:=js }:Tv).tb=T.tb from rfl,d]at this;injection this with this;injection this with _ this;exact absurd this ad9
  .exact Bq h.sub.at_.ab d ad9 e
 .have r:i<R.length:=by rw[<-h.rows.len];exact(Aq.1 y).1
  have ho:=h.rows.each i sv _ y (A4 r);obtain⟨c,d⟩:=ho.aw z;rcases e with e|e
  .subst e;have:=h.sub.at_.head;rw[show({ T with jv:=jv,js:=js }:Tv).tb=T.tb from rfl,d]at this;injection this with this;injection this with _ this;exact absurd this ad9
  .exact Bq h.sub.at_.ab d ad9 e
 .rcases C4.1 a with a|a
  .exact h.dz j a
  .have a:=Jy.1 a;subst a;refine⟨λ_ k o e=>?_,λc=>absurd c (by rw[l.2.1];omega)⟩;obtain⟨c,d⟩:=f k o e;refine⟨λq=>?_,λq=>?_⟩
   .have:=h.sub.stay m h.rep ad9 ad9;rw[<-q,d]at this;injection this with this;injection this with _ this;exact absurd this ad9
   .have:=h.sub.stay m h.res ad9 ad9;rw[<-q,d]at this;injection this with this;injection this with _ this;exact absurd this ad9
 .rcases C4.1 a with a|a
  .exact h.stays j a
  .have a:=Jy.1 a;subst a;exact⟨λ_ k o e z=>by have:=p k o e;omega,λc=>absurd c (by rw[l.2.1];omega)⟩
def A07 (X:List Jb):(Dp X).map Jb.sp=X.map Jb.sp:=Ah3 (P:=λl=>l.map Jb.sp=X.map Jb.sp) (λjs k h _=>(Ah5 js k).trans h) rfl
def Dq.wh {vs:List ax} {X:List Jb} (h:Dq vs (Dp X)):Ed X:=Ra h.b.j5 (A07 X).symm
def qy.zu (h:qy w T rb B g L s2 R jv js wr) (h0:T.tb<w.heap.size) (d:w.heap.size<=rb) (v:VL):D4 w T jv js (wr.setCell ⟨rb,2,I⟩ v):=by
 have b:=Mod.setCell (S:=λk=>k=rb) wr rb 2 v rfl;exact⟨An.gg (T:={ T with jv:=jv,js:=js }) h.sub.at_ h.rep b (by show T.tb<rb;omega) ad9 ad9 ad9 ad9 ad9 ad9 (λj a=>⟨λc k o e=>((h.dz j a).1 c k o e).1,λc k o e=>((h.dz j a).2 c k o e).1⟩),h.sub.az,h.sub.mod.then b (λk f e=>by omega)⟩
def D4.r9 {b:WD} (h:D4 w T jv js b) (h0:T.tb<w.heap.size) (a:b.heap[w.heap.size+1]?=Z (V #[G O 0,G O 0,G O 0] 35 (0,0)))
  (i:∀j,j∈js->(0<j.2.sn->∀k o,j.2.so=Z ⟨k,o,I⟩->k≠w.heap.size+1)/\(0<j.2.gn->∀k o,j.2.go=Z ⟨k,o,I⟩->k≠w.heap.size+1)) (d f g:VL) :
  D4 w T jv js (((b.setCell ⟨w.heap.size+1,0,I⟩ d).setCell ⟨w.heap.size+1,1,I⟩ f).setCell ⟨w.heap.size+1,2,I⟩ g):=by
 have c:=(((Mod.refl (λk=>k=w.heap.size+1) b).set _ 0 d rfl).set _ 1 f rfl).set _ 2 g rfl;exact⟨An.gg (T:={ T with jv:=jv,js:=js }) h.at_ a c (by show T.tb<w.heap.size+1;omega) ad9 ad9 ad9 ad9 ad9 ad9 i,h.az,h.mod.then c (λk l e=>by omega)⟩
def A08 {w1:WD} {c:Tv} {a:List (Nat×ar)} {n:Nat} (h:Bw w1 c a w') (q:∀j,j∈c.js->(0<j.2.sn->∀k o,j.2.so=Z ⟨k,o,I⟩->k≠n)/\(0<j.2.gn->∀k o,j.2.go=Z ⟨k,o,I⟩->k≠n)):∀j,j∈a->(0<j.2.sn->∀k o,j.2.so=Z ⟨k,o,I⟩->k≠n)/\(0<j.2.gn->∀k o,j.2.go=Z ⟨k,o,I⟩->k≠n):=λj r=>by
 obtain⟨i,m⟩:=Dn r;have p:i<c.js.length:=by rw[<-h.len];exact(Aq.1 m).1
 have s:=A4 p;have d:=h.kp i _ j s m;have l:=q _ (K4 p);refine⟨λb k o e=>?_,λb k o e=>?_⟩
 .rw [d.sn]at b;rw[d.so]at e;exact l.1 b k o e
 .rcases d.ak with⟨f,g,_⟩|⟨f,g,_⟩
  .rw [g]at b;rw[f]at e;exact l.2 b k o e
  .omega
def Amt {S:Nat->Prop} {so:Option Addr} {n:Nat} {l:List Int} (h:Ap wr so n l) (c:Mod S wr w') (f:∀k o,so=Z ⟨k,o,I⟩->¬S k):Ap w' so n l:=
 ⟨h.len,h.max,λi x g=>by
  obtain⟨k,b,e,a,d⟩:=h.cell i x g;refine⟨k,b,e,By a c.size,?_⟩;rw[<-d]
  simp only[World.cell?,c.block k a (f k b e)]⟩
structure SbI (w:WD) (T:Tv) (rb B g L:Nat) (s2:List VL) (R:List (List Int)) (X:List Jb) (n:Nat) (g2:Nat) (c2:Array VL) (wx:WD):Prop where
 ex:∃jv js,qy w T rb B g L s2 R jv js wx/\js.map (λj=>j.2.pl)=X/\js.length<=n
 exp:wx.heap[g2]?=Z (V c2 33 (0,0))
def A09 {x:ay} {w:WD} (k:x.ok w) (d:Ct x.pl=true):CS prog 128 #[x.val] w λe w'=>∃g xs c,e=K (J (Z ⟨g,0,I⟩) x.pl.array.toNat x.pl.array.toNat)/\xs.length=x.pl.array.toNat/\w'.heap[g]?=Z (V c 33 (0,0))/\S6 c x.pl.array.toNat xs/\(∀(j:Nat) (y:ay),xs[j]?=Z y->y.pl=x.single.pl)/\BW w.heap.size w w':=by
 refine(Aza x w k).mono ?_;rintro e w' (⟨h0,_⟩|⟨_,g,xs,rfl,b,a⟩)
 .rw [d]at h0;cases h0
 .have h:Q7 x.pl=x.pl.array.toNat:=Ad d;rw[h]at b a ⊢;obtain⟨c,f,i⟩:=a.row;exact⟨g,xs,c,rfl,b,f,i,λj y l=>(a.one j y l).1,a.low⟩
def A1a {w:WD} {T:Tv} (h:An w T) (d:T.js.length<=1000000) (so:Option Addr) (n sc:Nat) (xs:List ay) (j:J6 w so n xs) (f:n<=1000) {R:List (List Int)} (b:B9 T.vs T.js.length (xs.map ay.pl)=(R,0)) :
  CS prog 58 #[Q (Z ⟨T.tb,0,I⟩),J so n sc] w λe w'=>∃g s2,e=K (E #[J (Z ⟨g,0,I⟩) R.length R.length,G O 0])/\Cz w' w.heap.size g R.length s2 R/\BW w.heap.size w w':=by
 refine(Ad6 h h.dn.ok d so n sc xs j f).mono ?_;rw[b];rintro e w' ⟨v,rfl,_,a,c⟩;obtain⟨g,s2,rfl,i⟩:=a rfl;exact⟨g,s2,rfl,i,c⟩
end
section
open Go.RowKit Go.Maps Go.Lib
def A1b {w:WD} {T:Tv} (xn:dh) (bM:Option Addr) (xm xc:Nat) (d:List ay) (h:An w T) (hA:Dq T.vs T.pl.ab) (hj:T.js.length<=100) (bL:∀W',Mod T.az w W'->J6 W' bM xm d) (hm:xm<=1000) (h0:(B9 T.vs T.js.length (d.map ay.pl)).2=0) :
  CS prog 82 #[Q (Z ⟨T.tb,0,I⟩),(⟨xn,bM,xm,xc,d⟩:de).val] w (Qe w T (M5 T.vs T.pl (d.map ay.pl)).1 (M5 T.vs T.pl (d.map ay.pl)).2):=by
 obtain⟨iP,c5,dA,ca,cb⟩:=B4 A06;have aD:=ui.new w ⟨xn,bM,xm,xc,d⟩;obtain⟨W0,cU⟩:=Ex ((w.alloc (V (⟨xn,bM,xm,xc,d⟩:de).cells 40 (0,0))).alloc (V #[G O 0,G O 0,G O 0] 35 (0,0)));rw[<-cU]at aD;have c6:T.pl.ab.length=T.js.length:=by simp[Tv.pl]
 obtain⟨R,hR⟩:=Ex ((B9 T.vs T.js.length (d.map ay.pl)).1);have bN:B9 T.vs T.js.length (d.map ay.pl)=(R,0):=by rw[hR,<-h0]
 obtain⟨o1,o2,o3⟩:=Adv h0;have dJ:=Adr (by rw[<-o3];exact h0);rw[<-o3,<-hR]at dJ;obtain⟨r1,_,r3,_,r5⟩:=dJ;have bK:=(bL w (Mod.refl _ _)).len;have bO:R.length=xm:=by rw[r1,Ar,Ar,bK]
 have aR:∀l,l∈R->l.length<=1000:=λl hl=>by
  obtain⟨_,l0,ea,cy⟩:=r5 l hl;obtain⟨s,hs,rfl⟩:=A8.1 ea;obtain⟨_,_,_,q4,_⟩:=Fy (I5 (o1 s hs));have:=Sw q4;omega
 have cB:∀s,s∈d->Ct s.pl=true:=λs hs=>I5 (o1 _ (Kg hs));have a0:M5 T.vs T.pl (d.map ay.pl)=(T.pl.gh (Dp (E1 ((d.map ay.pl).zip R) T.pl.ab)),⟨0,0,(T.js.length:Int)+1,((E1 ((d.map ay.pl).zip R) T.pl.ab).length:Int)⟩):=by unfold M5;rw[c6,bN]
 have bn:Dq T.vs (Dp (E1 ((d.map ay.pl).zip R) T.pl.ab))/\(Dp (E1 ((d.map ay.pl).zip R) T.pl.ab)).length<=100:=by have:=Als (vs:=T.vs) (t:=T.pl) (l:=d.map ay.pl) hA (by rw[c6];exact h0);rw[a0]at this;exact this
 obtain⟨so,cap,cw,cy,b0,_⟩:=h.ny;have a4:=A1a (h.low aD.low) ao9 bM xm xc d (bL W0 (Mod.ag aD.low)) hm bN;have e9:=Bk aD.box 9 (J bM xm xc) rfl;have ci:=(D4.refl h).low aD.low;obtain⟨N,hN⟩:=Ex (T.js.length);obtain⟨tb,ht⟩:=Ex (T.tb);have ec:IntKind.i64.wrap ((N:Int)+1)=(N:Int)+1:=Ig ao9 ao9;have d2:N<=100:=ao9
 rw[<-ht]at a4;rw[<-ht];rw[a0];clear hR h0 c6;replace⟨h,hA,bL,hm,bN,o1,o2,o3⟩:=H8 h hA bL hm bN o1 o2 o3;replace⟨r1,r3,r5,bK,bO,aR,cB,a0⟩:=H8 r1 r3 r5 bK bO aR cB a0;replace⟨bn,cw,cy,b0,a4,aD,ci,hN⟩:=H8 bn cw cy b0 a4 aD ci hN;replace⟨ht,c5,dA,ca,cb,hj⟩:=H6 ht c5 dA ca cb hj;go_enter func82,ntmps82;go_upto_region 1 with fail;rw[<-cU];clear cU;go_upto_region 2 with(go_at_call 58;(with_reducible refine(a4.out).mono ?_);rintro e w1 ⟨g,s2,rfl,aU,aW⟩;replace⟨aU,aW⟩:=H2 aU aW);have bP:=ci.low aW.out;have c4:w1.cell? ⟨tb,4,I⟩=Z (J so N cap):=by rw[ht.out,hN.out,<-cw.out];exact Aa bP.at_.head 4
 have dG:=(Ag aW.out (Ab aD.box)).trans e9;have ds:=By (Ab aD.box) aW.size;clear e9;replace bP:=Hh bP;go_upto_region 3 with fail;obtain⟨W2,cj⟩:=Ex (w1.alloc (V #[G O 0,G O ((N:Int)+1),G O 0] 35 (0,0)));obtain⟨rb,cG⟩:=Ex (w1.heap.size);have a7:BW w1.heap.size w1 W2:=by rw[cj];exact Bn
 have bD:W2.heap[rb]?=Z (V #[G O 0,G O ((N:Int)+1),G O 0] 35 (0,0)):=by rw[cj,cG];exact Ah _ _
 rw[<-cj,<-cG];have dR:w.heap.size<rb:=by rw[cG];exact ds
 clear cj cG;have e9:=(Ag a7 ds).trans dG;have ce:qy w T rb W0.heap.size g R.length s2 R T.jv T.js W2:=⟨bP.low a7,Ae a7 (Ae aW.out aD.res (Ab aD.res)) (By (Ab aD.res) aW.size),by rw[<-hN.out];exact bD,aU.low a7,λj hj=>⟨λc k o e=>by have:=Lo (h.ok j hj).after.row c e;omega,λc k o e=>by have:=Lo (h.ok j hj).ak.row c e;omega⟩,Ii.refl _ _⟩;have cn:T.js.map (λj=>j.2.pl)=E1 (((d.map ay.pl).zip R).take 0) T.pl.ab:=rfl;clear dG c4 ds;replace⟨a7,bD,ce,cn⟩:=H4 a7 bD ce cn;go_wp2_with fail;clear e9;go_loopw [8,9,11,12,13,32,40] (λ_ _ _ _ _ iv _ wr=>∃(i:Nat) (jv:VL) (js:List (Nat×ar)),iv=G O i/\i<=xm/\Hid (qy w T rb W0.heap.size g R.length s2 R jv js wr)/\Hid (js.map (λj=>j.2.pl)=E1 (((d.map ay.pl).zip R).take i) T.pl.ab)/\Hid (js.length<=N+20*i)) (λ_ _ _ _ _ iv _ _=>xm-(intOf iv).toNat)
 case atStart=>exact⟨0,T.jv,T.js,rfl,As _,ce,cn,Hh (by have:=hN.out;omega)⟩
 case round=>
  obtain⟨i,jv,js,rfl,d6,hL,hX,cP⟩:=hrel;by_cases hc:i<xm
  .have dI:(i:Int)<xm:=ao9;have d5:(0:Int)<=(i:Int):=ao9;obtain⟨sp,hx⟩:=Ge d i (by have:=bK.out;omega);have cI:=bL wr hL.sub.mod;obtain⟨b,aG,rfl,c9,av,bJ⟩:=cI.cell i sp hx;have b4:=cB sp (Ai hx);obtain⟨row,aj⟩:=Ge R i (by have:=bO.out;omega);have b7:((d.map ay.pl).zip R).take (i+1)=((d.map ay.pl).zip R).take i++[(sp.pl,row)]:=Je (by rw[List.getElem?_zip_eq_some];exact⟨by rw[Bg,hx];rfl,aj⟩);have aT:=aR row (Ai aj);have bU:=λW (hb:BW wr.heap.size wr W)=>A09 (bJ.low hb) b4;have cK:=bJ.user;have cE:=bJ.part;obtain⟨bg,aK⟩:=Ex (sp.pl.array.toNat);rw[<-aK]at bU;have bI:bg<=20:=(by obtain⟨_,_,_,_,_,_,_,q8,_⟩:=Fy b4;obtain⟨b1,b2⟩:=C7.1 q8;omega);obtain⟨S0,aH⟩:=Ex (sp.pl);rw[<-aH]at b7 aK;have ct:i<R.length:=(by have:=bO.out;omega);have dK:(i:Int)<(R.length:Int):=ao9;obtain⟨⟨x,p,nodes,⟨da,db,dc,dd⟩,z,r,array,ae,f,after⟩,dD,sn,dC⟩:=sp;replace aH:S0=⟨x,p,nodes,⟨da,db,dc,dd⟩,z,r,array,ae,f,after⟩:=aH;have z0:wr.cell? ⟨b,aG+i*13,I⟩=Z (Y x):=av 0 ao9;have z1:wr.cell? ⟨b,aG+i*13+1,I⟩=Z (Y p):=av 1 ao9;have z2:wr.cell? ⟨b,aG+i*13+2,I⟩=Z (G O nodes):=av 2 ao9;have z3:wr.cell? ⟨b,aG+i*13+3,I⟩=Z (G O da):=av 3 ao9;have z4:wr.cell? ⟨b,aG+i*13+4,I⟩=Z (G O db):=av 4 ao9;have z5:wr.cell? ⟨b,aG+i*13+5,I⟩=Z (G O dc):=av 5 ao9;have z6:wr.cell? ⟨b,aG+i*13+6,I⟩=Z (G O dd):=av 6 ao9;have z7:wr.cell? ⟨b,aG+i*13+7,I⟩=Z (G O z):=av 7 ao9;have z8:wr.cell? ⟨b,aG+i*13+8,I⟩=Z (G O r):=av 8 ao9;have z9:wr.cell? ⟨b,aG+i*13+9,I⟩=Z (G O array):=av 9 ao9;have eq:wr.cell? ⟨b,aG+i*13+10,I⟩=Z (G O ae):=av 10 ao9;have er:wr.cell? ⟨b,aG+i*13+11,I⟩=Z (D f):=av 11 ao9;have es:wr.cell? ⟨b,aG+i*13+12,I⟩=Z (J dD sn dC):=av 12 ao9;replace⟨hx,cI,c9,av,bJ,b4,aj,b7⟩:=H8 hx cI c9 av bJ b4 aj b7;replace⟨aT,bU,cK,cE,aK,bI,aH,ct⟩:=H8 aT bU cK cE aK bI aH ct;go_upto_region 6 with fail;clear z0 z1 z2 z3 z4 z5 z6 z7 z8 z9 eq er es;obtain⟨nb,dg⟩:=Ex (wr.heap.size);obtain⟨W3,ck⟩:=Ex (wr.alloc (V (⟨⟨x,p,nodes,⟨da,db,dc,dd⟩,z,r,array,ae,f,after⟩,dD,sn,dC⟩:ay).cells 33 (0,0)));have bR:BW wr.heap.size wr W3:=(by rw[ck];exact Bn);have cL:W3.heap[nb]?=Z (V (⟨⟨x,p,nodes,⟨da,db,dc,dd⟩,z,r,array,ae,f,after⟩,dD,sn,dC⟩:ay).cells 33 (0,0)):=(by rw[ck,dg];exact Ah _ _);rw[<-ck,<-dg];clear ck dg;obtain⟨x0,x1,x2,x3,x4,x5,x6,x7,x8,x9,dY,dZ,d0⟩:=C13 cL;(try dsimp only at x0 x1 x2 x3 x4 x5 x6 x7 x8 x9 dY dZ d0);have bl:=bU W3 bR;replace⟨bR,cL,bl⟩:=H3 bR cL bl;go_wp2_with (go_at_call 128;(with_reducible refine(bl.out).mono ?_);rintro e w4 ⟨g2,en,c2,rfl,cx,aX,cF,aS,cp⟩;replace⟨cx,aX,cF,aS,cp⟩:=H5 cx aX cF aS cp);clear x0 x1 x2 x3 x4 x5 x6 x7 x8 x9 dY dZ d0;have cf:=(hL.low bR.out).low cp.out;have co:js.map (λj=>j.2.pl)=Jk S0 row (js.map λj=>j.2.pl) 0:=rfl;replace⟨cf,co⟩:=H2 cf co;go_loopw [11,12,13,40] (λ_ _ _ kv wr=>∃(k:Nat) (jv:VL) (aB:List (Nat×ar)),kv=G O k/\k<=bg/\Hid (qy w T rb W0.heap.size g R.length s2 R jv aB wr)/\Hid (aB.map (λj=>j.2.pl)=Jk S0 row (js.map λj=>j.2.pl) k)/\Hid (wr.heap[g2]?=Z (V c2 33 (0,0)))/\Hid (aB.length<=N+20*i+k)) (λ_ _ _ kv _=>bg-(intOf kv).toNat)
   case atStart=>exact⟨0,jv,js,rfl,As _,cf,co,aX,cP⟩
   case round=>
    obtain⟨k,dS,aB,rfl,d9,hL,hY,aX,bv⟩:=hrel;by_cases d3:k<bg
    .have cN:(k:Int)<bg:=ao9;have d8:(0:Int)<=(k:Int):=ao9;obtain⟨y,hy⟩:=Ge en k (by have:=cx.out;have:=aK.out;rw[aH.out]at this;omega);have dw:=aS k y hy
     have aA:∀o,o<13->wr.cell? ⟨g2,k*13+o,I⟩=y.cells[o]?:=λo ho=>by rw[Aa aX.out];exact cF.done k y hy o ho
     obtain⟨ep,dE,yn,yc⟩:=y;replace dw:ep=⟨x,p,nodes,⟨da,db,dc,dd⟩,z,r,1,ae,f,after⟩:=dw;subst dw;have v0:wr.cell? ⟨g2,k*13,I⟩=Z (Y x):=aA 0 ao9;have v1:wr.cell? ⟨g2,k*13+1,I⟩=Z (Y p):=aA 1 ao9;have v2:wr.cell? ⟨g2,k*13+2,I⟩=Z (G O nodes):=aA 2 ao9;have v3:wr.cell? ⟨g2,k*13+3,I⟩=Z (G O da):=aA 3 ao9;have v4:wr.cell? ⟨g2,k*13+4,I⟩=Z (G O db):=aA 4 ao9;have v5:wr.cell? ⟨g2,k*13+5,I⟩=Z (G O dc):=aA 5 ao9;have v6:wr.cell? ⟨g2,k*13+6,I⟩=Z (G O dd):=aA 6 ao9;have v7:wr.cell? ⟨g2,k*13+7,I⟩=Z (G O z):=aA 7 ao9;have v8:wr.cell? ⟨g2,k*13+8,I⟩=Z (G O r):=aA 8 ao9;have v9:wr.cell? ⟨g2,k*13+9,I⟩=Z (G O 1):=aA 9 ao9;have dV:wr.cell? ⟨g2,k*13+10,I⟩=Z (G O ae):=aA 10 ao9;have dW:wr.cell? ⟨g2,k*13+11,I⟩=Z (D f):=aA 11 ao9;have dX:wr.cell? ⟨g2,k*13+12,I⟩=Z (J dE yn yc):=aA 12 ao9;replace⟨hy,aA⟩:=H2 hy aA;go_upto_block 3 with fail;go_cut [11,12,13] (λ_ _ _ wx=>SbI w T rb W0.heap.size g R.length s2 R (Jk S0 row (js.map λj=>j.2.pl) (k+1)) (N+20*i+(k+1)) g2 c2 wx)
     case first=>
      go_upto_region 9 with fail;clear v0 v1 v2 v3 v4 v5 v6 v7 v8 v9 dV dW dX;obtain⟨ob,dl⟩:=Ex (wr.heap.size);obtain⟨W5,cl⟩:=Ex (wr.alloc (V (⟨⟨x,p,nodes,⟨da,db,dc,dd⟩,z,r,1,ae,f,after⟩,dE,yn,yc⟩:ay).cells 33 (0,0)));have a8:BW wr.heap.size wr W5:=(by rw[cl];exact Bn);have b8:W5.heap[ob]?=Z (V (⟨⟨x,p,nodes,⟨da,db,dc,dd⟩,z,r,1,ae,f,after⟩,dE,yn,yc⟩:ay).cells 33 (0,0)):=(by rw[cl,dl];exact Ah _ _);rw[<-cl,<-dl];have bC:wr.heap.size<=ob:=ao9;clear cl dl;have cg:=hL.low a8;obtain⟨em,rn,rc,rl,e1,e2,e3,e4,e5⟩:=cg.rows.get ct.out;rw[aj.out]at e2;injection e2 with e2;subst e2;obtain⟨_,_,_,e6,e7,e8,_⟩:=On e5;injection e6 with a1 a2 a3;subst a1 a2 a3;have cH:rn<=1000:=(by have:=aT.out;omega);have cM:=Zp em rn rc row W5 e8 cH;have dQ:=Ab b8;replace⟨a8,b8,cg,bC,e1,e3,e5,e7⟩:=H8 a8 b8 cg bC e1 e3 e5 e7;replace⟨e8,cH,cM⟩:=H3 e8 cH cM;go_upto_region 10 with(go_at_call 87;(with_reducible refine(cM.out).mono ?_);rintro e w6 ⟨ao,nc,rfl,cC,cD,bH,bS⟩;have be:=Ae bS b8.out dQ;have dT:=Aa be 12;have of:=Af be;simp at dT;replace⟨cC,cD,bH,bS,be⟩:=H5 cC cD bH bS be);obtain⟨W7,bQ⟩:=Ex (w6.setCell ⟨ob,12,I⟩ (J ao rn nc));have bf:W7.heap[ob]?=Z (V (⟨⟨x,p,nodes,⟨da,db,dc,dd⟩,z,r,1,ae,f,after⟩,ao,rn,nc⟩:ay).cells 33 (0,0)):=(by rw[bQ];have:=Am be.out 12 (J ao rn nc);simpa using this);have bZ:Mod (λk=>k=ob) w6 W7:=(by rw[bQ];exact Mod.setCell (S:=λk=>k=ob) w6 ob 12 (J ao rn nc) rfl);have bG:BW wr.heap.size wr W7:=by rw[bQ];exact Cc (a8.trans (bS.mono a8.size)) bC.out
      have aY:∀q o,ao=Z ⟨q,o,I⟩->q≠ob:=λq o e c=>by
       obtain⟨_,_,_,cc,hc⟩:=bH q o e;rw[c,be.out]at hc;injection hc with hc;injection hc with _ hc;exact absurd hc ad9
      have bA:=Amt cD.out bZ aY
      have bx:∀q o,ao=Z ⟨q,o,I⟩->∃cc,W7.heap[q]?=Z (V cc 3 (0,0)):=λq o e=>by
       obtain⟨_,_,_,cc,hc⟩:=bH q o e;exact⟨cc,bZ.aw hc (aY q o e)⟩
      rw[<-bQ];have ch:=hL.low bG;have ej:=Bk bf 10 (G O ae) rfl;have ek:=Bk bf 11 (D f) rfl;have cd:=Ary ae f W7;obtain⟨⟨gz,am,af,lw,al⟩,bY⟩:∃l,l=(Kl ae f).1:=⟨_,rfl⟩;obtain⟨ez,bw⟩:=Ex ((Kl ae f).2);rw[<-bY,<-bw]at cd;clear bQ dT of;replace⟨bf,bZ,bG,aY,bA,bx,ch,cd⟩:=H8 bf bZ bG aY bA bx ch cd;replace⟨bY,bw⟩:=H2 bY bw;go_upto_region 11 with(go_at_call 129;(with_reducible refine(cd.out).mono ?_);rintro e w8 ⟨rfl,bT⟩;replace bT:=Hh bT);obtain⟨W9,cm⟩:=Ex (w8.alloc (V #[G O gz,G O am,G O af,D lw,D al] 43 (0,0)));obtain⟨lb,c8⟩:=Ex (w8.heap.size);have cr:BW w8.heap.size w8 W9:=(by rw[cm];exact Bn);have bX:W9.heap[lb]?=Z (V #[G O gz,G O am,G O af,D lw,D al] 43 (0,0)):=(by rw[cm,c8];exact Ah _ _);rw[<-cm,<-c8];clear cm c8 ej ek;have aI:=bT.trans (cr.mono bT.size);have b9:=Ae aI bf.out (Ab bf.out);have aE:=ch.low aI;have bB:=bA.low aI
      have aZ:∀q o,ao=Z ⟨q,o,I⟩->∃cc,W9.heap[q]?=Z (V cc 3 (0,0)):=λq o e=>by
       obtain⟨cc,hc⟩:=bx q o e;exact⟨cc,Ae aI hc (Ab hc)⟩
      have bo:=Ae (bG.trans (aI.mono bG.size)) aX.out (Ab aX.out);obtain⟨an,ad,aJ,bW,bb,_⟩:=aE.sub.at_.ny;obtain⟨n2,aF⟩:=Ex (aB.length);replace aJ:dS=J an n2 ad:=(by rw[aF];exact aJ);subst aJ;have b5:n2<=30000:=(by have:=bv.out;have:=hm.out;have:=bI.out;omega);have ey:IntKind.i64.wrap ((n2:Int)+1)=(n2:Int)+1:=Ig ao9 ao9;have cR:=Ff (n:=n2) ao9;have c0:(n2+1)*8<=140737488355328:=ao9;have m:=aE.sub.at_.head;replace m:W9.heap[tb]?=Z (V #[G O T.ai,G O T.tick,.map (Z T.mb),T.nv,J an n2 ad,Q (Z ⟨T.fb,0,I⟩),T.cv] 115 (0,0)):=(by rw[ht.out];exact m);have ap:W9.ownsRow 0 125 1 (J an n2 ad) n2 (aB.map λj=>Q (Z ⟨j.1,0,I⟩)):=by rw[aF];rw[aF]at aE;exact aE.sub.at_.ab
      have dH:∀W':WD,Mod (λk=>k=tb\/(Value.slice an n2 ad).ownBlock=Z k) W9 W'->W'.cell? ⟨ob,0,I⟩=Z (Y x)/\W'.cell? ⟨ob,1,I⟩=Z (Y p)/\W'.cell? ⟨ob,2,I⟩=Z (G O nodes)/\W'.cell? ⟨ob,3,I⟩=Z (G O da)/\W'.cell? ⟨ob,4,I⟩=Z (G O db)/\W'.cell? ⟨ob,5,I⟩=Z (G O dc)/\W'.cell? ⟨ob,6,I⟩=Z (G O dd)/\W'.cell? ⟨ob,7,I⟩=Z (G O z)/\W'.cell? ⟨ob,8,I⟩=Z (G O r)/\W'.cell? ⟨ob,9,I⟩=Z (G O 1)/\W'.cell? ⟨ob,10,I⟩=Z (G O ae)/\W'.cell? ⟨ob,11,I⟩=Z (D f)/\W'.cell? ⟨ob,12,I⟩=Z (J ao rn nc)/\W'.cell? ⟨lb,0,I⟩=Z (G O gz)/\W'.cell? ⟨lb,1,I⟩=Z (G O am)/\W'.cell? ⟨lb,2,I⟩=Z (G O af)/\W'.cell? ⟨lb,3,I⟩=Z (D lw)/\W'.cell? ⟨lb,4,I⟩=Z (D al):=λW' hm=>by
       have nt:∀ {q:Nat} {c:Array VL} {Ty:TypeId},W9.heap[q]?=Z (V c Ty (0,0))->Ty≠115->Ty≠125->¬(q=tb\/(Value.slice an n2 ad).ownBlock=Z q):=λhq h1 h2 e=>by
        rcases e with e|e
        .rw [e,m]at hq;injection hq with hq;injection hq with _ hq;exact h1 hq.symm
        .exact Bq ap hq (λe=>h2 e.symm) e
       have z2:=hm.aw b9 (nt b9 ad9 ad9);have z3:=hm.aw bX (nt bX ad9 ad9);exact⟨Aa z2 0,Aa z2 1,Aa z2 2,Aa z2 3,Aa z2 4,Aa z2 5,Aa z2 6,Aa z2 7,Aa z2 8,Aa z2 9,Aa z2 10,Aa z2 11,Aa z2 12,Aa z3 0,Aa z3 1,Aa z3 2,Aa z3 3,Aa z3 4⟩
      obtain⟨p0,p1,p2,p3,p4,p5,p6,p7,p8,p9,eA,eB,eC,q0,q1,q2,q3,q4⟩:=dH W9 (Mod.refl _ _);have dF:=Bk m 4 (J an n2 ad) rfl;have cQ:=Ab m;have bE:BW W9.heap.size W9 (W9.alloc (V #[G O ((n2:Int)+1),Y x,Y p,G O nodes,G O da,G O db,G O dc,G O dd,G O z,G O r,G O 1,G O ae,D f,J ao rn nc,G O gz,G O am,G O af,D lw,D al,G O (-1),J I 0 0,J I 0 0] 46)):=Bn;have aV:BW W9.heap.size W9 ((W9.alloc (V #[G O ((n2:Int)+1),Y x,Y p,G O nodes,G O da,G O db,G O dc,G O dd,G O z,G O r,G O 1,G O ae,D f,J ao rn nc,G O gz,G O am,G O af,D lw,D al,G O (-1),J I 0 0,J I 0 0] 46)).alloc (V #[Q (Z ⟨W9.heap.size,0,I⟩)] 125)):=bE.alloc bE.size _;have ev:=(Ag bE cQ).trans dF;have ew:=(Ag aV cQ).trans dF;have bs:((W9.alloc (V #[G O ((n2:Int)+1),Y x,Y p,G O nodes,G O da,G O db,G O dc,G O dd,G O z,G O r,G O 1,G O ae,D f,J ao rn nc,G O gz,G O am,G O af,D lw,D al,G O (-1),J I 0 0,J I 0 0] 46)).alloc (V #[Q (Z ⟨W9.heap.size,0,I⟩)] 125)).heap[W9.heap.size]?=Z (V #[G O ((n2:Int)+1),Y x,Y p,G O nodes,G O da,G O db,G O dc,G O dd,G O z,G O r,G O 1,G O ae,D f,J ao rn nc,G O gz,G O am,G O af,D lw,D al,G O (-1),J I 0 0,J I 0 0] 46 (0,0)):=Aj _ (Ah _ _);have b6:((W9.alloc (V #[G O ((n2:Int)+1),Y x,Y p,G O nodes,G O da,G O db,G O dc,G O dd,G O z,G O r,G O 1,G O ae,D f,J ao rn nc,G O gz,G O am,G O af,D lw,D al,G O (-1),J I 0 0,J I 0 0] 46)).alloc (V #[Q (Z ⟨W9.heap.size,0,I⟩)] 125)).heap[W9.heap.size+1]?=Z (V #[Q (Z ⟨W9.heap.size,0,I⟩)] 125 (0,0)):=A5 _ _ as9
      have bi:Jk S0 row (js.map λj=>j.2.pl) (k+1)=aB.map (λj=>j.2.pl)++[(⟨⟨(n2:Int)+1,⟨x,p,nodes,⟨da,db,dc,dd⟩,z,r,1,ae,f,row⟩,⟨gz,am,af,lw,al⟩,-1,[],[]⟩,ao,rn,nc,I,0,0,I,0,0⟩:ar).pl]:=by
       show Jk S0 row (js.map λj=>j.2.pl) k++[_]=_;rw[<-hY.out];congr 2;have dN:=Cd List.length hY.out;rw[Zm,Ar,Ar]at dN;unfold Oq;rw[aH.out];show Jb.mk _ _ _ _ _ _=Jb.mk _ _ _ _ _ _;congr 1
       .rw [Ar,aF];push_cast;omega
       .exact bY.symm
      have ba:∀(g9 aC:Nat) (w9:WD),w9.ownsRow 0 125 1 (J (Z ⟨g9,0,I⟩) (n2+1) aC) (n2+1) ((aB.map λj=>Q (Z ⟨j.1,0,I⟩))++[Q (Z ⟨W9.heap.size,0,I⟩)])->((W9.alloc (V #[G O ((n2:Int)+1),Y x,Y p,G O nodes,G O da,G O db,G O dc,G O dd,G O z,G O r,G O 1,G O ae,D f,J ao rn nc,G O gz,G O am,G O af,D lw,D al,G O (-1),J I 0 0,J I 0 0] 46)).alloc (V #[Q (Z ⟨W9.heap.size,0,I⟩)] 125)).grownBy w9 (Value.slice an n2 ad).ownBlock->((Value.slice an n2 ad).ownBlock=Z g9\/g9=W9.heap.size+2) ->
        SbI w T rb W0.heap.size g R.length s2 R (Jk S0 row (js.map λj=>j.2.pl) (k+1)) (N+20*i+(k+1)) g2 c2 (w9.setCell ⟨tb,4,I⟩ (J (Z ⟨g9,0,I⟩) (n2+1) aC)):=λg9 aC w9 aL ac bk=>by
       have dM:=λq hq=>(ap.lt q hq).2;have b3:Mod (λq=>(Value.slice an n2 ad).ownBlock=Z q) W9 w9:=(Mod.ag aV).trans (Mod.grown ac (λq hq=>hq));have aQ:=b3.aw m (Bq ap m ad9);have cA:Mod (λq=>q=T.tb\/(Value.slice an n2 ad).ownBlock=Z q) W9 (w9.setCell ⟨tb,4,I⟩ (J (Z ⟨g9,0,I⟩) (n2+1) aC)):=(b3.mono λq _ e=>.inr e).set tb 4 _ (.inl ht.out);have d4:=Am aQ 4 (J (Z ⟨g9,0,I⟩) (n2+1) aC);have d7:w9.heap[W9.heap.size]?=Z (V (⟨⟨(n2:Int)+1,⟨x,p,nodes,⟨da,db,dc,dd⟩,z,r,1,ae,f,row⟩,⟨gz,am,af,lw,al⟩,-1,[],[]⟩,ao,rn,nc,I,0,0,I,0,0⟩:ar).cells 46 (0,0)):=(ac.block _ (by simp;omega) (λe=>by have:=dM _ e.symm;omega)).trans bs;have dL:Bc (w9.setCell ⟨tb,4,I⟩ (J (Z ⟨g9,0,I⟩) (n2+1) aC)) W9.heap.size (⟨⟨(n2:Int)+1,⟨x,p,nodes,⟨da,db,dc,dd⟩,z,r,1,ae,f,row⟩,⟨gz,am,af,lw,al⟩,-1,[],[]⟩,ao,rn,nc,I,0,0,I,0,0⟩:ar):=(Mod.setCell (S:=λq=>q=tb) w9 tb 4 _ rfl).aw d7 ao9
       have eb:=Bb aL (Mod.setCell (S:=λq=>q=tb) w9 tb 4 (J (Z ⟨g9,0,I⟩) (n2+1) aC) rfl) (λq hq e=>by
        subst e
        exact Bq aL aQ ad9 hq)
       have dP:∀q o,ao=Z ⟨q,o,I⟩->¬(q=T.tb\/(Value.slice an n2 ad).ownBlock=Z q):=λq o e c=>by
        obtain⟨cc,hc⟩:=aZ q o e;rcases c with c|c
        .rw [c,<-ht.out,m]at hc;injection hc with hc;injection hc with _ hc;exact absurd hc ad9
        .exact Bq ap hc ad9 c
       have dk:=Amt bB cA dP;refine⟨⟨_,aB++[(W9.heap.size,(⟨⟨(n2:Int)+1,⟨x,p,nodes,⟨da,db,dc,dd⟩,z,r,1,ae,f,row⟩,⟨gz,am,af,lw,al⟩,-1,[],[]⟩,ao,rn,nc,I,0,0,I,0,0⟩:ar))],aE.add cA (by rw[<-ht.out];simpa using d4) (by rw[<-aF];exact eb) (λq hq=>?_) Ln dL ⟨rfl,rfl,rfl,rfl⟩ ⟨rfl,rfl,rfl,rfl⟩ dk (λq o e=>?_) cC.out cK.out cE.out (λq o e=>by obtain⟨_,h5,_⟩:=bH q o e;have h6:=a8.size;have h7:=hL.sub.mod.size;omega),?_,?_⟩,?_⟩
       .simp [Value.ownBlock]at hq;subst hq;rcases bk with e|e
        .exact .inl e
        .exact .inr ao9
       .obtain ⟨cc,hc⟩:=aZ q o e;exact⟨cc,cA.aw hc (dP q o e)⟩
       .rw [bi,C2];rfl
       .rw [Az];have:=bv.out;simp;omega
       .exact aE.sub.stay cA bo ad9 ad9
      clear dH;replace⟨cr,bX,aI,b9,aE,bB,aZ,bo⟩:=H8 cr bX aI b9 aE bB aZ bo;replace⟨bW,bb,aF,b5,cR,c0,m,ap⟩:=H8 bW bb aF b5 cR c0 m ap;replace⟨bE,aV,bs,b6,bi,ba⟩:=H6 bE aV bs b6 bi ba
      try clear h
      try clear hA
      try clear bL
      try clear bN
      try clear o1
      try clear o2
      try clear o3
      try clear r1
      try clear r3
      try clear r5
      try clear bK
      try clear bO
      try clear aR
      try clear cB
      try clear a0
      try clear bn
      try clear cw
      try clear cy
      try clear b0
      try clear a4
      try clear aD
      try clear ci
      try clear hj
      try clear aW
      try clear aU
      try clear bP
      try clear a7
      try clear bD
      try clear ce
      try clear cn
      try clear hX
      try clear cP
      try clear hx
      try clear cI
      try clear c9
      try clear av
      try clear bJ
      try clear b4
      try clear aj
      try clear b7
      try clear aT
      try clear bU
      try clear cK
      try clear cE
      try clear aK
      try clear aH
      try clear ct
      try clear bR
      try clear cL
      try clear bl
      try clear cx
      try clear aX
      try clear cF
      try clear aS
      try clear cp
      try clear cf
      try clear co
      try clear hL
      try clear hY
      try clear bv
      try clear hy
      try clear aA
      try clear a8
      try clear b8
      try clear cg
      try clear bC
      try clear e1
      try clear e3
      try clear e5
      try clear e7
      try clear e8
      try clear cH
      try clear cM
      try clear cC
      try clear cD
      try clear bH
      try clear bS
      try clear be
      try clear bf
      try clear bZ
      try clear bG
      try clear aY
      try clear bA
      try clear bx
      try clear ch
      try clear cd
      try clear bY
      try clear bw
      try clear bT
      try clear cr
      try clear bX
      try clear aI
      try clear b9
      try clear aE
      try clear bB
      try clear aZ
      try clear bo
      try clear bW
      try clear bb
      try clear aF
      try clear b5
      try clear bE
      try clear bs
      try clear bi
      try clear hN
      try clear hm
      try clear hc
      try clear dI
      try clear d5
      try clear dK
      try clear d3
      try clear cN
      try clear d8
      try clear d9
      try clear d6
      try clear bI
      try clear ec
      try clear d2
      try clear e4
      go_region_law (first
       | (refine step_append_lies _ (by rfl) _ _ _ (by rfl) 0 125 iP _ 1 8 underlying110 c5.out dA.out ca.out cb.out rfl (Gn _) (J an n2 ad) n2 (aB.map λj=>Q (Z ⟨j.1,0,I⟩)) (by rfl) (Bb ap.out (Mod.ag (S:=λ_=>False) (by first|exact aV.out|exact aV.drew)) (λ_ _ c=>c)) ⟨W9.heap.size+1,0,I⟩ 1 1 [Q (Z ⟨W9.heap.size,0,I⟩)] (by rfl) (by rfl) (World.news_of_block (cs:=#[Q (Z ⟨W9.heap.size,0,I⟩)]) (t:=125) (fr:=(0,0)) b6.out) (by intro u hu;simp at hu;subst hu;rfl) ao9 cR.out c0.out (As _) (W9.heap.size+2) as9 ?_;intro g9 aC w9 aL ac bk dO;have bV:_:=ba g9 aC w9 aL (by first|exact ac|exact⟨ac.os,ac.tape,ac.output,ac.size,ac.block⟩) bk;have b3:=(Mod.ag (S:=λk=>(Value.slice an n2 ad).ownBlock=Z k) (by first|exact aV.out|exact aV.drew)).trans (Mod.grown ac (λk hk=>hk));have aQ:=b3.aw m.out (Bq ap.out m.out ad9);have d1:=Aa aQ 4;have et:=Af aQ 4;simp at d1;replace bV:=Hh bV
          clear b3 aQ aL ac bk dO))
      all_goals
       go_wp2_with fail;go_meet
       case rel=>exact bV.out
     case rest=>
     obtain⟨⟨eg,ef,aE,cY,bc⟩,c3⟩:=hcut;clear v0 v1 v2 v3 v4 v5 v6 v7 v8 v9 dV dW dX;have eu:=bI.out;replace⟨aE,cY,bc,c3⟩:=H4 aE cY bc c3;go_wp2_with fail;go_roundw
     case rel=>exact⟨k+1,eg,ef,by go_num,ao9,aE,cY,c3,bc⟩
     case measure=>simp[intOf];omega
    .have cN:¬(k:Int)<bg:=ao9;have c7:k=bg:=ao9;have cW:aB.map (λj=>j.2.pl)=E1 (((d.map ay.pl).zip R).take (i+1)) T.pl.ab:=(by rw[b7.out,Ayu,hY.out,hX.out,c7,aK.out]);have bc:aB.length<=N+20*(i+1):=(by have:=bv.out;have:=bI.out;omega);have ex:=hm.out;replace⟨cW,bc,c7⟩:=H3 cW bc c7;go_wp2_with fail;go_roundw
     case rel=>exact⟨i+1,dS,aB,by go_num,ao9,hL,cW,bc⟩
     case measure=>simp[intOf];omega
  .have dI:¬(i:Int)<xm:=ao9;have dB:((d.map ay.pl).zip R).length<=i:=(by rw[List.length_zip,Ar];have:=bK.out;omega);have a6:=hX.out;rw[Cr dB]at a6;obtain⟨X,bF⟩:=Ex (E1 ((d.map ay.pl).zip R) T.pl.ab);rw[<-bF]at a6;have cZ:Ed X:=(by rw[bF];exact bn.1.wh);obtain⟨an,ad,aJ,_,cO,_⟩:=hL.sub.at_.ny;obtain⟨n2,aF⟩:=Ex (js.length);replace aJ:jv=J an n2 ad:=(by rw[aF];exact aJ);subst aJ;have cX:X.length=n2:=(by rw[<-a6,Ar,aF]);have m:=hL.sub.at_.head;have z4:wr.cell? ⟨tb,4,I⟩=Z (J an n2 ad):=(by rw[ht.out];exact Aa m 4);have zr:=Aa hL.rep 2;have zf:=Af hL.rep 2;simp at zr;have cJ:=Ab h.head;have a5:=hL.zu cJ (Qn dR) (G O (n2:Int));have aM:=Am hL.rep 2 (G O (n2:Int))
   have aO:=(Mod.setCell (S:=λk=>k=rb) wr rb 2 (G O (n2:Int)) rfl).aw hL.res (λe=>by
    have:=hL.res;rw[e,hL.rep]at this;injection this with this;injection this with this _;have:=Cd (λa=>a[1]?) this;simp at this
    omega)
   replace⟨dB,a6,bF,cZ,cO,aF,cX,m⟩:=H8 dB a6 bF cZ cO aF cX m;replace⟨cJ,a5,aM,aO⟩:=H4 cJ a5 aM aO;go_upto_region 15 with fail;obtain⟨W1,cV⟩:=Ex (wr.setCell ⟨rb,2,I⟩ (G O (n2:Int)));rw[<-cV]at a5 aM aO;rw[<-cV];clear cV z4 zr zf
   have c1:CS prog 130 #[Q (Z ⟨tb,0,I⟩)] W1 (Kq W1 { T with jv:=J an n2 ad,js:=js } (Dp X)):=by
    have:=Yt (T:={ T with jv:=J an n2 ad,js:=js }) a5.at_ (by
     show Ed (js.map λj=>j.2.pl)
     rw[a6.out];exact cZ.out)
    rw[show({ T with jv:=J an n2 ad,js:=js }:Tv).pl.ab=X from a6.out]at this;rw[ht.out];exact this
   replace c1:=Hh c1;go_upto_region 16 with(go_at_call 130;(with_reducible refine(c1.out).mono ?_);rintro e w5 ⟨rfl,aB,bd,dr⟩;replace⟨bd,dr⟩:=H2 bd dr)
   have cS:=a5.then bd.out
   have aN:=bd.mod.aw (by simpa using aM.out) (a5.at_.off aM.out ad9 ad9 ad9 ad9 ad9);have aP:=bd.mod.aw aO.out (a5.at_.off aO.out ad9 ad9 ad9 ad9 ad9);have q0:w5.cell? ⟨rb,0,I⟩=Z (G O 0):=(by have:=Aa aN 0;simpa using this);have q1:w5.cell? ⟨rb,1,I⟩=Z (G O ((N:Int)+1)):=(by rw[hN.out];have:=Aa aN 1;simpa using this);have q2:w5.cell? ⟨rb,2,I⟩=Z (G O (n2:Int)):=(by have:=Aa aN 2;simpa using this);obtain⟨r0,dU,r2⟩:=C3 aP;(try dsimp only at r0 dU r2);have fr:=Af aP;have a9:=A08 (n:=w.heap.size+1) bd.out (λj hj=>⟨λc k o e=>((hL.dz j hj).1 c k o e).2,λc k o e=>((hL.dz j hj).2 c k o e).2⟩);have cT:=cS.r9 cJ.out aP a9 (G O 0) (G O ((N:Int)+1)) (G O (n2:Int));replace⟨cS,aN,aP,a9,cT⟩:=H5 cS aN aP a9 cT;go_wp2_with fail;refine Ak (v:=F9 ⟨0,0,(N:Int)+1,(n2:Int)⟩) (by simp[results,results82,go_sem,r0,dU,r2]) rfl ⟨?_,_,cT.jh (hL.stays.trans (bd.stays (w:=w)) Ln),?_⟩
   .rw [<-hN.out,<-bF.out,cX.out]
   .show (⟨T.ai,T.tick,T.cls,T.nodes,aB.map λj=>j.2.pl⟩:du)=_;rw[dr.out,<-bF.out];rfl
variable {w w':WD} {T T':Tv}
def An.ow (h:An w T) (l:List (Int×Cl)) (a:Mod (λk=>k=T.mb) w w') (o:Li w' T.mb l):An w' { T with cls:=l }:=by
 obtain⟨s,r,d⟩:=h.cls.aw
 have b:Mod T.az w w':=a.mono λk _ e=>by rw[e];exact .inr (.inl rfl)
 have g:∀ {B size n:Nat} {m:TypeId} {v:VL} {xs:List VL},w.ownsRow B m size v n xs->∀k,v.ownBlock=Z k->¬k=T.mb:=λq k p e=>by
  subst e;exact Aqp q d p
 refine⟨a.aw h.head (λe=>h.fp h.head e.symm),o,Bb h.nodes a (g h.nodes),Bb h.ab a (g h.ab),Bb h.bh a (g h.bh),λj f=>a.aw (h.box j f) (λe=>h.fp (h.box j f) e.symm),λj f=>?_,h.one,h.two,h.dn.mod b (λ_ c=>.inl c),h.same⟩;have i:=h.ok j f;exact i.mod b (λ_ _ c=>c) (Bb i.parts a (g i.parts))
def Ev.ri {f:WD} {b:Nat} (p:Ev w T T' w') (h:An f T) (h1:f.heap.size<=b) (q:b<w.heap.size) :
  ∀j,j∈T'.js->(0<j.2.sn->∀k o,j.2.so=Z ⟨k,o,I⟩->k≠b)/\(0<j.2.gn->∀k o,j.2.go=Z ⟨k,o,I⟩->k≠b):=λj m=>by
 obtain⟨g,l⟩:=p.dz j m;refine⟨λh0 k o e n=>?_,λh0 k o e n=>?_⟩
 .obtain ⟨i,d,a,c⟩:=g h0 k o e ao9;have:=Lo (h.ok i d).after.row a c;omega
 .obtain ⟨i,d,a,c⟩:=l h0 k o e ao9;have:=Lo (h.ok i d).ak.row a c;omega
def Ad8 (w:WD) (T:Tv) (P:du×Cl×Int) (e:Ending) (w':WD):Prop:=e=K (E #[F9 P.2.1,G O P.2.2])/\∃T',Ev w T T' w'/\T'.pl=P.1
def N6 (k:Int):Nat:=if k=1 then 81 else if k=2 then 82 else if k=6 then 83 else if k=7 then 84 else if k=8\/k=9\/k=10\/k=11 then 85 else 86
def Amw (a:Nat) (k:Int) (w:WD) (b:k=1\/k=2\/k=3\/k=4\/k=5\/k=6\/k=7\/k=8\/k=9\/k=10\/k=11) :
  CS prog 45 #[Q (Z ⟨a,0,I⟩),G O k] w λe w'=>e=K (.func (.func (N6 k)) #[Q (Z ⟨a,0,I⟩)] #[])/\w'=w:=by
 rcases b with rfl|rfl|rfl|rfl|rfl|rfl|rfl|rfl|rfl|rfl|rfl
 all_goals
  go_enter func45,ntmps45;go_wp2;go_ret;exact⟨rfl,rfl⟩
end
section
open Go.RowKit Go.Maps Go.Lib
def Ev.r9 {w c:WD} {T d:Tv} (h:An w T) (a:Ev w T d c) (n:∀j,j∈d.js->(0<j.2.sn->∀k o,j.2.so=Z ⟨k,o,I⟩->k≠w.heap.size+1)/\(0<j.2.gn->∀k o,j.2.go=Z ⟨k,o,I⟩->k≠w.heap.size+1)) {m a1 a2:VL} (b:c.heap[w.heap.size+1]?=Z (V #[m,a1,a2] 35 (0,0))) (g i l:VL) :
  Ev w T d (((c.setCell ⟨w.heap.size+1,0,I⟩ g).setCell ⟨w.heap.size+1,1,I⟩ i).setCell ⟨w.heap.size+1,2,I⟩ l):=by
 have f:=(((Mod.refl (λk=>k=w.heap.size+1) c).set _ 0 g rfl).set _ 1 i rfl).set _ 2 l rfl;have p:=Ab h.head;exact⟨a.at_.gg b f (by rw[a.tb];omega) ad9 ad9 ad9 ad9 ad9 ad9 n,a.tb,a.fb,a.fm,a.fl,a.vs,a.az,a.mod.then f (λk q e=>by omega),a.dz⟩
def Ev.low {w w1 d:WD} {T b:Tv} (a:Ev w T b w1) (c:BW w1.heap.size w1 d):Ev w T b d:=⟨a.at_.low c,a.tb,a.fb,a.fm,a.fl,a.vs,a.az,a.mod.low c,a.dz⟩
def Ev.back {w w1 i:WD} {T g:Tv} (a:Ev w1 T g i) (d:BW w.heap.size w w1):Ev w T g i:=
 ⟨a.at_,a.tb,a.fb,a.fm,a.fl,a.vs,λb c=>(a.az b c).imp id (λe=>Ay d.size e),(Mod.ag d).trans a.mod,λj h=>⟨λh0 k o e f=>(a.dz j h).1 h0 k o e (By f d.size),λh0 k o e f=>(a.dz j h).2 h0 k o e (By f d.size)⟩⟩
def Ev.ow {w w1 d:WD} {T b:Tv} (a:Ev w T b w1) (l:List (Int×Cl)) (f:Mod (λk=>k=b.mb) w1 d) (g:Li d b.mb l):Ev w T { b with cls:=l } d:=
 ⟨a.at_.ow l f g,a.tb,a.fb,a.fm,a.fl,a.vs,a.az,a.mod.then f (λk h e=>by
  rcases a.az k (by rw[e];exact .inr (.inl rfl))with c|c
  .exact c
  .omega),a.dz⟩
def Ev.same {w:WD} {T:Tv} (h:An w T):Ev w T T w:=⟨h,rfl,rfl,rfl,rfl,rfl,λ_ c=>.inl c,Mod.refl _ _,Ii.refl _ _⟩
def A1f {w:WD} {T:Tv} (x:de) (h:An w T) (t:x.ok w) (l:T.js.length<=1000000) (p:Dz T.vs T.pl x.pl≠0) :
  CS prog 15 #[Q (Z ⟨T.tb,0,I⟩),x.val] w (Ad8 w T (Ca T.vs T.pl x.pl)):=by
 have n:Ca T.vs T.pl x.pl=(T.pl,⟨0,0,0,0⟩,Dz T.vs T.pl x.pl):=by unfold Ca;rw[Ad p]
 rw[n];have a:=ui.new w x;obtain⟨W0,g⟩:=Ex ((w.alloc (V x.cells 40 (0,0))).alloc (V #[G O 0,G O 0,G O 0] 35 (0,0)));rw[<-g]at a;have q:=Ad7 x (h.low a.low) l (t.low a.low);obtain⟨r,i⟩:=Ex (Dz T.vs T.pl x.pl);rw[<-i]at q p;rw[<-i];have ad:(r != 0)=true:=by simpa using p
 obtain⟨⟨ac,ai,tick,ah,seq,bt,attempt,node,br⟩,so,m,sc,di⟩:=x;obtain⟨u,y,z,e3,e4,e5,e6,e7,e8,e9⟩:=C10 a.box;(try dsimp only at u y z e3 e4 e5 e6 e7 e8 e9);clear n i p;replace⟨h,t,a,q,l⟩:=H5 h t a q l;go_enter func15,ntmps15;go_upto_region 1 with fail;rw[<-g];clear g;go_upto_region 3 with(go_at_call 31;(with_reducible refine(q.out).mono ?_);rintro e w1 ⟨rfl,f⟩;replace f:=Hh f);clear u y z e3 e4 e5 e6 e7 e8 e9;have b:=Ae f.out a.res (Ab a.res);have d:=a.low.trans (f.mono a.low.size);obtain⟨r0,r1,r2⟩:=C3 b;(try dsimp only at r0 r1 r2);have fr:=Af b;have s:=((Ev.same h.out).low d).r9 h.out (λj l=>⟨λc k o e=>by have:=Lo (h.ok j l).after.row c e;omega,λc k o e=>by have:=Lo (h.ok j l).ak.row c e;omega⟩) b (G O 0) (G O 0) (G O 0);replace⟨b,d,s⟩:=H3 b d s;go_wp2_with fail;exact Ak (v:=E #[F9 ⟨0,0,0,0⟩,G O r]) (by simp[results,results15,go_sem,r0,r1,r2]) rfl ⟨rfl,T,s.out,rfl⟩
structure Ey (vs:List ax) (t:du):Prop where
 all:Dq vs t.ab
 len:t.ab.length<=100
 ep:0<=t.ai/\t.ai<=1099511627776
 tick:-1<=t.tick/\t.tick<1099511627776
 xr:t.nodes.length=vs.length
 since:∀n,n∈t.nodes->-1<=n.since/\n.since<1099511627776
 bj:(t.cls.map Prod.fst).Pairwise (·<·)
 cls:∀p,p∈t.cls->1<=p.1/\p.1<=16/\1<=p.2.seq/\p.2.seq<=1099511627776/\p.2.e=0/\0<=p.2.first/\p.2.first<=100/\0<=p.2.last/\p.2.last<=100
variable {vs:List ax} {t:du} {e:ei}
def Ad9 {x y:Int×Cl}:∀ {l:List (Int×Cl)},y∈Lh x l->y=x\/y∈l
 | [],h=>.inl (Jy.1 h)
 | z :: r,h=>by
  unfold Lh at h;split at h
  .rcases Ei.1 h with h|h
   .exact .inl h
   .exact .inr h
  .rcases Ei.1 h with h|h
   .exact .inr (h▸D6)
   .rcases Ad9 h with h|h
    .exact .inl h
    .exact .inr (Df _ h)
def Amx {x:Int×Cl}:∀ {l:List (Int×Cl)},(l.map Prod.fst).Pairwise (·<·)->(∀y,y∈l->y.1≠x.1)->((Lh x l).map Prod.fst).Pairwise (·<·)
 | [],_,_=>by simp[Lh]
 | y :: r,h,hn=>by
  have d:=Pd.1 h;have e:=hn y D6;unfold Lh;split
  .rename_i c;refine Pd.2 ⟨λz b=>?_,h⟩;rcases Ei.1 b with rfl|b
   .exact c
   .exact Int.lt_trans c (d.1 z b)
  .rename_i c;refine Pd.2 ⟨λz b=>?_,Amx d.2 λu a=>hn u (Df _ a)⟩;obtain⟨u,a,rfl⟩:=A8.1 b;rcases Ad9 a with rfl|a
   .show y.1<u.1;omega
   .exact d.1 _ (Kg a)
def A1h {l:List Int} {n:Nat} (h:l.Pairwise (·<·)) (c:∀x,x∈l->1<=x/\x<=(n:Int)):l.length<=n:=by
 have h1:(l.map Int.toNat).Pairwise (·<·):=by refine List.pairwise_map.2 (h.imp_of_mem fun {a b} ha hb hab=>?_);have:=c a ha;omega
 have:=Pl.Awg (ys:=(List.range n).map (·+1)) h1 λj d=>by
  obtain⟨z,e,rfl⟩:=A8.1 d;have:=c z e;exact A8.2 ⟨z.toNat-1,Xi.2 ao9,ao9⟩
 simpa using this
def Ey.gq (h:Ey vs t):t.cls.length<=16:=by
 have:=A1h (n:=16) h.bj λx b=>by
  obtain⟨p,a,rfl⟩:=A8.1 b;have:=h.cls p a;omega
 simpa using this
def A1i (h:Ey vs t) (d:Int) (c:Cl) (b:1<=d/\d<=16) (f:1<=c.seq/\c.seq<=1099511627776/\c.e=0/\0<=c.first/\c.first<=100/\0<=c.last/\c.last<=100):Ey vs { t with cls:=Ib t.cls d c }:=by
 refine⟨h.all,h.len,h.ep,h.tick,h.xr,h.since,?_,λp a=>?_⟩
 .show ((Ib t.cls d c).map Prod.fst).Pairwise (·<·);unfold Ib;refine Amx (h.bj.sublist ((Aam).map Prod.fst)) λy g=>?_;have:=(Of.1 g).2;simpa using this
 .have a:p∈Ib t.cls d c:=a;unfold Ib at a;rcases Ad9 a with rfl|a
  .exact ⟨b.1,b.2,f⟩
  .exact h.cls p (Of.1 a).1
structure A1j (e:ei):Prop where
 ep:e.n.kind=1->1<=e.n.ai/\e.n.ai<=1099511627776
 cl:Br e.n.kind=true->(1<=e.n.ah/\e.n.ah<=16)/\1<=e.n.seq/\e.n.seq<=1099511627776
 bt:(e.n.kind=3\/e.n.kind=4\/e.n.kind=5\/e.n.kind=7)->e.n.bt<=100
 specs:e.n.kind=2->e.specs≠[]
def Amy (h:F4 e=true):A1j e:=by
 have t:=(Ry h).kind;obtain⟨⟨i,o,tick,n,seq,q,attempt,node,p⟩,r⟩:=e
 have g:∀ {k:Int} {fs:List il},i=k->Dw k=Z fs->∃j,F3 ⟨i,o,tick,n,seq,q,attempt,node,p⟩ fs=Z j/\Vb ⟨⟨i,o,tick,n,seq,q,attempt,node,p⟩,r⟩=true:=fun {k fs} e hf=>by
  obtain⟨j,h1,_,_,s⟩:=Amu h (fs:=fs) (by rw[<-hf,<-e]);exact⟨j,h1,s⟩
 have m:∀k,(k=1\/k=2\/k=3\/k=4\/k=5\/k=6\/k=7\/k=8\/k=9\/k=10\/k=11)->i=k->True:=λ_ _ _=>trivial;rcases t with rfl|rfl|rfl|rfl|rfl|rfl|rfl|rfl|rfl|rfl|rfl
 .obtain ⟨j,f,_⟩:=g rfl (k:=1) (fs:=[U6]) rfl;have a:=(A9 f).1;simp[jf,U6,dh.get]at a;exact⟨λ_=>a,λc=>absurd c (by simp[Br,Dm]),as9,as9⟩
 .obtain ⟨j,f,l⟩:=g rfl (k:=2) (fs:=[Da,Db]) rfl;have a:=(A9 f).1;have b:=(A9 (A9 f).2).1;simp[jf,Da,Db,dh.get,dh.set]at a b;refine⟨as9,λ_=>⟨a,b⟩,as9,λ_ c=>?_⟩;have c:r=[]:=c;subst c;simp[Vb]at l
 .obtain ⟨j,f,l⟩:=g rfl (k:=3) (fs:=[Da,Db,Fa]) rfl;have a:=(A9 f).1;have b:=(A9 (A9 f).2).1;have d:=(A9 (A9 (A9 f).2).2).1;simp[jf,Da,Db,Fa,dh.get,dh.set]at a b d;exact⟨as9,λ_=>⟨a,b⟩,λ_=>d.2,as9⟩
 .obtain ⟨j,f,l⟩:=g rfl (k:=4) (fs:=[Da,Db,Fa]) rfl;have a:=(A9 f).1;have b:=(A9 (A9 f).2).1;have d:=(A9 (A9 (A9 f).2).2).1;simp[jf,Da,Db,Fa,dh.get,dh.set]at a b d;exact⟨as9,λ_=>⟨a,b⟩,λ_=>d.2,as9⟩
 .obtain ⟨j,f,l⟩:=g rfl (k:=5) (fs:=[Da,Db,Fa]) rfl;have a:=(A9 f).1;have b:=(A9 (A9 f).2).1;have d:=(A9 (A9 (A9 f).2).2).1;simp[jf,Da,Db,Fa,dh.get,dh.set]at a b d;exact⟨as9,λ_=>⟨a,b⟩,λ_=>d.2,as9⟩
 .exact ⟨as9,λc=>absurd c (by simp[Br,Dm]),as9,as9⟩
 .obtain ⟨j,f,l⟩:=g rfl (k:=7) (fs:=[Fa,U7,Fh,U8]) rfl;have a:=(A9 f).1;simp[jf,Fa,dh.get]at a;exact⟨as9,λc=>absurd c (by show ¬Br 7=true;decide),λ_=>a.2,as9⟩
 .exact ⟨as9,λc=>absurd c (by simp[Br,Dm]),as9,as9⟩
 .exact ⟨as9,λc=>absurd c (by simp[Br,Dm]),as9,as9⟩
 .obtain ⟨j,f,l⟩:=g rfl (k:=10) (fs:=[Da,Db,Fh]) rfl;have a:=(A9 f).1;have b:=(A9 (A9 f).2).1;simp[jf,Da,Db,dh.get,dh.set]at a b;exact⟨as9,λ_=>⟨a,b⟩,as9,as9⟩
 .obtain ⟨j,f,l⟩:=g rfl (k:=11) (fs:=[Da,Db,Fh]) rfl;have a:=(A9 f).1;have b:=(A9 (A9 f).2).1;simp[jf,Da,Db,dh.get,dh.set]at a b;exact⟨as9,λ_=>⟨a,b⟩,as9,as9⟩
def We (js:List Jb):(Ia js).length=js.length:=by
 unfold Ia;rw[Ve,Ar]
def Amz (tick:Int) (js:List Jb):(Dd tick js).length=js.length:=by
 unfold Dd;rw[We,Ar]
def Am0 (vs:List ax) (tick:Int) (a:List Bool) (js:List Jb):(P5 vs tick a js).length=js.length:=by
 unfold P5;rw[Ad4,Ar]
def Am1 {l:List dm} (h0:(B9 vs t.ab.length l).2=0):((E1 (l.zip (B9 vs t.ab.length l).1) t.ab).length:Int)=(t.ab.length:Int)+Id l/\(t.ab.length:Int)+Id l<=100/\∀s,s∈l->1<=s.array/\s.array<=20:=by
 obtain⟨h1,e,c⟩:=Adv h0;rw[c]at h0;obtain⟨h,j,i,d,k⟩:=Adr h0;rw[Ar]at h i;have a:=Adu (l.zip (B9 vs t.ab.length l).1) (λp f=>(d p.1.array (A8.2 ⟨p.1,(Aay f).1,rfl⟩)).1) t.ab
 have b:(l.zip (B9 vs t.ab.length l).1).map (λp=>p.1.array)=l.map λs=>s.array:=by
  rw[c];have:=Adw (l:=l) (m:=(Gj ((t.ab.length:Int)+1) (l.map λs=>s.array) (l.map λs=>s.after)).1) ao9
  conv=>rhs;rw[<-this]
  rw[Dg];rfl
 rw[b,<-Wc]at a;exact⟨a,e,λs g=>d s.array (Kg g)⟩
def A1k {l:List dm} (h:∀s,s∈l->1<=s.array) (b:l≠[]):1<=Id l:=by
 cases l with
 | nil=>exact absurd rfl b
 | cons s l=>
  have a:=(V8 (l.map λs=>s.array) (λn c=>by
   obtain⟨u,d,rfl⟩:=A8.1 c
   exact h u (Df _ d)) (l.map λs=>s.array).length).2
  rw[Pg]at a;have e:=h s D6;rw[Wc,It];unfold Ew at a ⊢;rw[Xe,Zn];omega
def Aea (h1:1<=e.n.bt) (h0:J7 t e.n=0):∃(k:Nat) (j:Jb),t.ab[k]?=Z j/\e.n.bt=(k:Int)+1/\F5 t.ab e.n.bt=j/\(e.n.kind≠7->(A3 j.lf (Gh e.n.kind)).2=0)/\(e.n.kind=7->∃i,Gt j e.n.attempt e.n.node=Z i):=by
 unfold J7 at h0;split at h0
 .cases h0
 rename_i c;obtain⟨k,f⟩:∃k:Nat,e.n.bt=(k:Int)+1:=⟨(e.n.bt-1).toNat,ao9⟩;have b:t.ab[k]?=Z (t.ab[k]'(by omega)):=A4 _;have a:F5 t.ab e.n.bt=t.ab[k]'(by omega):=by unfold F5;rw[f,show((k:Int)+1-1).toNat=k by omega,b];rfl
 rw[a]at h0;refine⟨k,_,b,f,a,λq=>?_,λq=>?_⟩
 .rw [Ad q]at h0;exact h0
 .rw [Ac (by simpa using q)]at h0;split at h0
  .cases h0
  .rename_i d
   cases hp:Gt (t.ab[k]'(by omega)) e.n.attempt e.n.node with
   | none=>exact absurd hp d
   | some i=>exact⟨i,rfl⟩
def Ey.ab (h:Ey vs t) {js:List Jb} (h1:Dq vs js) (a:js.length<=100):Ey vs { t with ab:=js }:=⟨h1,a,h.ep,h.tick,h.xr,h.since,h.bj,h.cls⟩
def Ey.oj (h:Ey vs t) (i:Nat) (f:Er->Er) (b:∀n,-1<=n.since/\n.since<1099511627776->-1<=(f n).since/\(f n).since<1099511627776):Ey vs { t with nodes:=t.nodes.modify i f }:=by
 refine⟨h.all,h.len,h.ep,h.tick,(Kh _ _ _).trans h.xr,λn c=>?_,h.bj,h.cls⟩;obtain⟨q,a⟩:=Dn c;have a:(t.nodes.modify i f)[q]?=Z n:=a;rw[Fp]at a
 cases hu:t.nodes[q]? with
 | none=>
  rw[hu]at a;have a:(I:Option Er)=Z n:=a;cases a
 | some u=>
  rw[hu]at a;have a:Z (if i=q then f u else u)=Z n:=a;have h1:=h.since u (Ai hu);split at a
  .injection a with a;rw[<-a];exact b u h1
  .injection a with a;rw[<-a];exact h1
structure Am2 (vs:List ax) (t:du) (e:ei):Prop where
 may:F4 e=true
 cl:Br e.n.kind=true->(E0 t.cls e.n.ah).seq<e.n.seq
 ep:e.n.kind=1->t.ai<e.n.ai
 tick:e.n.kind=6->t.tick<e.n.tick
 sub:e.n.kind=2->(B9 vs t.ab.length e.specs).2=0
 node:8<=e.n.kind->e.n.kind<=11->Lp t e.n=0
 bt:(e.n.kind=3\/e.n.kind=4\/e.n.kind=5\/e.n.kind=7)->J7 t e.n=0
def Z2 (h:Dz vs t e=0):Am2 vs t e:=by
 unfold Dz at h;split at h
 .cases h
 rename_i a;split at h
 .cases h
 rename_i b;refine⟨by simpa using a,λq=>?_,λq=>?_,λq=>?_,λq=>?_,λq c=>?_,λq=>?_⟩
 .by_cases d:(E0 t.cls e.n.ah).seq<e.n.seq
  .exact d
  .exact absurd ⟨q,ao9⟩ b
 .rw [Ad q]at h;split at h
  .cases h
  .omega
 .rw [Ac ao9,Ad q]at h;split at h
  .cases h
  .omega
 .rw [Ac ao9,Ac ao9,Ad q]at h;exact h
 .rw [Ac ao9,Ac ao9,Ac ao9,Ad ⟨q,c⟩]at h;exact h
 .rw [Ac ao9,Ac ao9,Ac ao9,Ac ao9]at h;exact h
def Am3 (h:Ey vs t) (o:Am2 vs t e):Ey vs (ee vs t e).1/\(ee vs t e).2.e=0/\0<=(ee vs t e).2.first/\(ee vs t e).2.first<=100/\0<=(ee vs t e).2.last/\(ee vs t e).2.last<=100:=by
 have f:=Ry o.may;have m:=Amy o.may
 have z:∀ {T:du},Ey vs T->Ey vs (T,(⟨0,0,0,0⟩:Cl)).1/\(T,(⟨0,0,0,0⟩:Cl)).2.e=0/\0<=(T,(⟨0,0,0,0⟩:Cl)).2.first/\(T,(⟨0,0,0,0⟩:Cl)).2.first<=100/\0<=(T,(⟨0,0,0,0⟩:Cl)).2.last/\(T,(⟨0,0,0,0⟩:Cl)).2.last<=100:=λg=>⟨g,rfl,Dh 0,by show(0:Int)<=100;decide,Dh 0,by show(0:Int)<=100;decide⟩
 unfold ee;split
 .rename_i q;have:=m.ep q;exact z ⟨h.all,h.len,⟨by show 0<=e.n.ai;omega,this.2⟩,h.tick,h.xr,h.since,h.bj,h.cls⟩
 split
 .rename_i q;have h0:=o.sub q;obtain⟨a,b⟩:=Als h.all h0;obtain⟨c1,c2,x⟩:=Am1 h0;have c4:=A1k (λs hs=>(x s hs).1) (m.specs q);refine⟨h.ab a b,rfl,?_,?_,?_,?_⟩
  .show 0<=(t.ab.length:Int)+1;omega
  .show (t.ab.length:Int)+1<=100;omega
  .show 0<=((E1 (e.specs.zip (B9 vs t.ab.length e.specs).1) t.ab).length:Int);omega
  .show ((E1 (e.specs.zip (B9 vs t.ab.length e.specs).1) t.ab).length:Int)<=100;omega
 split
 .rename_i q;have r:=f.tick (.inl q);refine z ⟨Az9 (Alp h.all _) r.1 _,?_,h.ep,⟨by show -1<=e.n.tick;omega,r.2⟩,h.xr,h.since,h.bj,h.cls⟩;show(P5 vs e.n.tick _ (Dd e.n.tick t.ab)).length<=100;rw[Am0,Amz];exact h.len
 split
 .rename_i q;have y:=f.br q;refine z (h.ab (Adt (h.all.b.mod λj i=>Ay1 (h.all.b _ _ i) ao9 y.2)) ?_);rw[We];unfold Et;rw[Kh];exact h.len
 split
 .rename_i q;unfold Px;split
  .rename_i u;have h1:=h.oj e.n.node.toNat (λn=>⟨false,n.bq,n.since⟩) (λn l=>l);refine z (h1.ab (Ay2 h.all _) ?_);rw[We,Ar];exact h.len
  split
  .rename_i u;have r:=f.tick (.inr (.inr u));exact z (h.oj _ (λn=>⟨true,n.bq,e.n.tick⟩) (λn l=>by show -1<=e.n.tick/\e.n.tick<_;omega))
  .exact z (h.oj _ (λn=>⟨n.up,decide (e.n.kind=10),n.since⟩) (λn l=>l))
 .rename_i q1 u q3 q4 q5;have hk:e.n.kind=3\/e.n.kind=4\/e.n.kind=5:=by have:=f.kind;omega
  have j1:=f.bt ao9;have v:=m.bt ao9;obtain⟨k,j,i,ac,_,p,_⟩:=Aea j1 (o.bt ao9);have d:(e.n.bt-1).toNat=k:=ao9
  refine⟨h.ab (Ads (h.all.mod λj' c=>?_)) ?_,rfl,?_,?_,?_,?_⟩
  .rw [d,i]at c;injection c with c;subst c;rw[d];refine Ayy (h.all k j i) (p ao9) ?_;unfold Gh;split
   .exact .inl rfl
   .split
    .exact .inr (.inl rfl)
    .exact .inr (.inr rfl)
  .rw [Ve];unfold Et;rw[Kh];exact h.len
  .show 0<=e.n.bt;omega
  .exact v
  .show 0<=e.n.bt;omega
  .exact v
def A1l (h:Ey vs t):Ey vs (Ca vs t e).1:=by
 unfold Ca;split
 .exact h
 .rename_i c;have d:=Z2 (vs:=vs) (t:=t) (e:=e) (by simpa using c);obtain⟨a,b⟩:=Am3 h d;have m:=Amy d.may;show Ey vs (if Br e.n.kind=true then { (ee vs t e).1 with cls:=Ib (ee vs t e).1.cls e.n.ah ⟨e.n.seq,(ee vs t e).2.e,(ee vs t e).2.first,(ee vs t e).2.last⟩ } else(ee vs t e).1);split
  .rename_i q;have:=m.cl q;exact A1i a _ _ this.1 ⟨this.2.1,this.2.2,b⟩
  .exact a
def A1m (vs:List ax) (t:du) (e:ei):(ee vs t e).1.cls=t.cls:=by
 unfold ee;split
 .rfl
 split
 .rfl
 split
 .rfl
 split
 .rfl
 split
 .unfold Px;split
  .rfl
  split
  .rfl
  .rfl
 .rfl
end
section
open Go.RowKit Go.Maps Go.Lib
def jl (i:Int) (j:Jb):Nat:=(j.parts.filter λp=>decide (p.1=i) && decide (p.2=0)).length
end
namespace Pl
open Go.RowKit
variable{U:B2}{p q:List Nd}{c v:V4}
def Anj {a:List Nd} (e:a.length=1) (b:Int) (v:V4) (u:Int):gl a [0] b v u=if I3 a [0] b v u 0=true then[0]else[]:=by
 have c:∀j,1<=j->I3 a [0] b v u j=false:=λj d=>by
  unfold I3;rw[Au ao9];rfl
 have h1:∀k,I4 a [0] b v u (k+1)=I4 a [0] b v u 1:=λk=>by
  induction k with
  | zero=>rfl
  | succ k ih=>rw[Tj,c (k+1) ao9,Ac as9,ih]
 unfold gl;rw[h1 15,Tj];rfl
def Ank    (k:Bd [c] U p) {a u:Int} (h0:0<=u) (h1:1<=a):I3 p [0] a v u 0=true↔u+a<=1099511627776/\∀x,u<=x->x<u+a->(A6 (U 0 x) v).leq c:=by
 have b:p.length=1:=k.len;have:=Awf k (i:=0) ao9 (v:=v) h0 h1;rw[show vv [c] 0=c from rfl]at this;simp only[I3,Eh,In];rw[<-this];exact⟨λh=>h.2,λh=>⟨⟨ao9,⟨0,ad9,rfl⟩⟩,h⟩⟩
def Aen    {a:Ask} {b st T:Int} {zs:List Int} (k:Bd [c] U p) (h:Rl b [true] a st zs p q) (h1:a.ib=[0]) (h2:a.nodes=1) (hc:a.can=true) (ac:0<=b) (hT:b<=T) (m:T+a.aa<=1099511627776)
  (g:∀x,T<=x->x<T+a.aa->(A6 (U 0 x) a.v).leq c) (o:∀u,b<=u->u<T->∃x,u<=x/\x<u+a.aa/\¬(A6 (U 0 x) a.v).leq c) :
  st=T/\zs=[0]/\Bd [c] (Aw U (ld [0] T (T+a.aa) a.v)) q:=by
 obtain⟨_,p2,p3⟩:=Awp hc;rcases h with⟨z,_⟩|⟨_,t',xs,is,j,_,h4⟩
 .rw [hc]at z;cases z
 .have l:=j;rw[h1,show Bo (oq [true] [0])=[0]from by decide,h2]at j;have hl:p.length=1:=k.len;have f:gl p [0] a.aa a.v T=[0]:=by rw[Anj hl,Ad ((Ank k ao9 ao9).2 ⟨m,g⟩)]
  obtain⟨hi,ht,hx,r,e⟩:=Awn j ad9 ao9 p3 (T:=T) ao9 ao9 (by rw[f];decide) (λu x1 x2=>by
   rw[Anj hl,Ac (λd=>by
    obtain⟨x,y1,y2,y3⟩:=o u ao9 x2
    exact y3 (((Ank k ao9 ao9).1 d).2 x y1 y2))]
   decide)
  subst hi;obtain⟨h5,h6,r2,i⟩:=h4 rfl;have s:=(l.found.take k.loose i.1).1;subst s;rw[ht]at i
  have t:xs=[0]:=by
   rw[f]at e
   match xs,hx,e with
   | [y],_,e=>
    injection e with e _;rw[<-e]
  have n:Bo xs=[0]:=by rw[t];rfl
  rw[n]at h6 i;exact⟨h5.trans ht,h6,(Y9 k i).1⟩
def Aeo (fr a:Int) (v:V4) (x:Int):ld [0] fr a v 0 x=if fr<=x/\x<a then v else V4.zero:=by
 unfold ld;have b:Bz [0] ([0]:List Int).length 0:=⟨0,ad9,rfl⟩;by_cases c:fr<=x/\x<a
 .rw [Ad c,Ad ⟨b,c⟩]
 .rw [Ac c,Ac (λd=>c d.2)]
structure Wi (a:Ask) (v:V4) (aa:Int):Prop where
 places:a.ib=[0]
 nodes:a.nodes=1
 v:a.v=v
 aa:a.aa=aa
 start:a.start=-1
def Aep {a:Ask}  {t:Int} (h:Wi a v t) (b:0<t) (c:v.right=true):a.can=true:=by
 simp only[Ask.can,h.nodes,h.aa,h.v,Eh,In];exact⟨⟨ad9,b⟩,c⟩
def Aeq {b:Int} {f:List Bool} {a:Ask} {s:A2}  (h:N1 b f ((a,false),s) p q):s.id=a.id/\Rl b f a s.start s.eh p q:=by
 obtain⟨m,c,e,d⟩:=h;rcases c with⟨_,rfl⟩|⟨c,_⟩
 .exact ⟨e,d⟩
 .cases c
def Aer {e:Int} {g:List Bool} {a:Ask} {b:Bool}  (f:a.start=-1) (h:Lx e g (a,b) p q):q=p/\b=false:=by
 rcases h with⟨_,c,d⟩|⟨c,_⟩|⟨c,_⟩
 .exact ⟨d,c⟩
 .exact absurd c (by show ¬0<=a.start;rw[f];decide)
 .exact absurd c (by show ¬0<=a.start;rw[f];decide)
def Anl {α:Type} {l:List α} (h:l.length=3):∃a b c,l=[a,b,c]:=by
 match l,h with
 | [a,b,c],_=>exact⟨a,b,c,rfl⟩
def A32 {a1 a2 a3:Ask} {a:List A2} (hp:Ly [⟨2,2,0,0⟩] 1 [true] [] [a1,a2,a3] a) (c:Wi a1 ⟨1,0,0,0⟩ 13) (b:Wi a2 ⟨1,0,0,0⟩ 13) (d:Wi a3 ⟨1,0,0,0⟩ 13) :
  a.map A2.key=[(a1.id,1,[0]),(a2.id,1,[0]),(a3.id,14,[0])]:=by
 obtain⟨ps,q1,q2,st,rd,hl,hk,f,hr,g,i⟩:=hp.go;obtain⟨_,j,_⟩:=Zb hl;obtain⟨h,e,n,rfl⟩:=Anl (l:=st) (by have:=Cd List.length f;simpa using this);obtain⟨b1,c1⟩:=h;obtain⟨b2,c2⟩:=e;obtain⟨b3,c3⟩:=n;simp at f;obtain⟨rfl,rfl,rfl⟩:=f;obtain⟨m1,y,m2,z,m3,g3,g4⟩:=hk;obtain⟨rfl,rfl⟩:=Aer c.start y;obtain⟨rfl,rfl⟩:=Aer b.start z;obtain⟨rfl,rfl⟩:=Aer d.start g3;cases g4;obtain⟨y1,y2,y3,rfl⟩:=Anl (l:=rd) (by have:=Cd List.length g;simpa using this);obtain⟨h,s1⟩:=y1;obtain⟨e,s2⟩:=y2;obtain⟨n,s3⟩:=y3;simp at g;obtain⟨rfl,rfl,rfl⟩:=g;obtain⟨n1,r,n2,s,n3,t,f4⟩:=hr;obtain⟨i1,o⟩:=Aeq r;obtain⟨i2,p⟩:=Aeq s;obtain⟨i3,q⟩:=Aeq t;have j:Bd [⟨2,2,0,0⟩] oo q1:=j;obtain⟨t1,z1,k⟩:=Aen j o c.places c.nodes (Aep c ad9 ad9) ad9 (T:=1) ad9 (by rw[c.aa];decide) (λx _ _=>by rw[c.v];simp[oo,A6,V4.leq,V4.zero]) (λu h e=>by omega);rw[c.v,c.aa]at k
 obtain⟨t2,z2,m⟩:=Aen k p b.places b.nodes (Aep b ad9 ad9) ad9 (T:=1) ad9 (by rw[b.aa];decide) (λx h e=>by
  rw[b.aa]at e;rw[b.v];simp only[Aw,oo,Aeo];rw[Ad ao9]
  simp[A6,V4.leq,V4.zero]) (λu h e=>by omega)
 rw[b.v,b.aa]at m
 obtain⟨t3,z3,k3⟩:=Aen m q d.places d.nodes (Aep d ad9 ad9) ad9 (T:=14) ad9 (by rw[d.aa];decide) (λx h e=>by
  rw[d.v];simp only[Aw,oo,Aeo];rw[Ac ao9]
  simp[A6,V4.leq,V4.zero]) (λu h e=>⟨u,Dh _,by rw[d.aa];omega,by
  rw[d.v];simp only[Aw,oo,Aeo];rw[Ad ao9]
  simp[A6,V4.leq,V4.zero]⟩)
 subst i;simp[A2.key,i1,i2,i3,t1,t2,t3,z1,z2,z3]
def A33  {a r:Int}  (g:Jn [c] 1 a [] r q) (e:c.right=true) (h1:0<=a) (b:a<1099511627776):r=0:=by
 rcases g with⟨d,_⟩|⟨_,j,l,⟨d,_⟩|⟨d,k,x,m,n,h,_,_⟩⟩
 .refine absurd ⟨as9,λi f=>?_,as9,h1,b⟩ d
  have:i=0:=by simpa using f
  subst this;exact e
 .exact d
 .simp at h
