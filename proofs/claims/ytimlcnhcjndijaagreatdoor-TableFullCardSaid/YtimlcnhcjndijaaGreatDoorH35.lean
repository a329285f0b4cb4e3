/- Parts of a proof. No condition. -/
import Derived.Test.YtimlcnhcjndijaaGreatDoorH34
set_option linter.all false
set_option maxRecDepth 100000
set_option maxHeartbeats 12800000
namespace Go.Proofs.YtimlcnhcjndijaaGreatDoor
open Option renaming some->O,none->I
open IntKind renaming i64->G
open Value renaming int->Z,slice->V,pointer->K,bool->Y,tuple->D,string->E
open Obj renaming cells->J
open Ending renaming returned->Q
open Go renaming World->WD,Value->VL,Calls->CS
open Go.RowKit renaming Below->BW
open Go.Proofs.Tryz
section
open Go.RowKit Go.Maps Go.Lib
def Ac3 {S:Nat->Prop} {w w':WD} {so:Option Addr} {n:Nat} {zs:List Int} (h:Pl.Ao w so n zs) (d:Mod S w w') (j:∀b a,so=O ⟨b,a,I⟩->¬S b):Pl.Ao w' so n zs:=
 ⟨h.len,h.max,λi g=>by
  obtain⟨b,a,e,c,f⟩:=h.cell i g;refine⟨b,a,e,B4 c d.size,?_⟩;rw[<-f]
  simp only[World.cell?,d.block b c (j b a e)]⟩
def Ay4 {S:Nat->Prop} {w w':WD} {so:Option Addr} {n:Nat} {ss:List Pl.Ax} (h:Pl.Ut w so n ss) (d:Mod S w w') (o:∀b a,so=O ⟨b,a,I⟩->¬S b) (l:∀s,s∈ss->∀b a,s.go=O ⟨b,a,I⟩->¬S b):Pl.Ut w' so n ss:=
 ⟨h.len,h.max,λi x g=>by
  obtain⟨b,a,e,c,k,f⟩:=h.cell i x g;refine⟨b,a,e,B4 c d.size,λj m=>?_,⟨Ac3 f.aj d (l x (Ai g)),f.ou⟩⟩;rw[<-k j m]
  simp only[World.cell?,d.block b c (o b a e)]⟩
def Bp.yd {w wr:WD} {T:Tv} {js:List (Nat×aq)} (h:Bp w T js wr) {b:Nat} (c:({ T with js:=js }:Tv).bh b):T.bh b:=by
 rcases c with e|e|e|e|⟨j,g,e⟩
 .exact .inl e
 .exact .inr (.inl e)
 .exact .inr (.inr (.inl e))
 .exact .inr (.inr (.inr (.inl e)))
 .obtain ⟨i,a⟩:=Dk g;have a:js[i]?=O j:=a;have d:i<T.js.length:=by rw[<-h.len];exact(Ap.1 a).1
  have f:=Az d;have k:=h.kp i _ j f a;refine .inr (.inr (.inr (.inr ⟨_,Kv d,e.imp (λe=>?_) (λe=>k.pb b e)⟩)));have h1:(js.map Prod.fst)[i]?=O j.1:=by simp[a]
  rw[h.ar,Bm,f]at h1;injection h1 with h1;rw[<-e];exact h1
structure my (w w5 wx:WD) (T:Tv) (js:List (Nat×aq)) (wr:WD):Prop where
 tab:Dv w T T.jv js wr
 yg:∀b,({ T with jv:=T.jv,js:=js }:Tv).bh b->b<w5.heap.size\/wx.heap.size<=b
 low:Mod (λk=>k<w5.heap.size) wx wr
 dy:G6 w5 T.js js
 res:wr.heap[w.heap.size+1]?=O (J #[Z G 0,Z G 0,Z G 0] 35 (0,0))
 le:w.heap.size+2<=w5.heap.size
variable {w w5 wx wr w':WD} {T:Tv} {js js2:List (Nat×aq)}
def my.start {x:dt} (h0:Cf w T x js2 w5) (e:BW w5.heap.size w5 wx) (h:Bp wx { T with js:=js2 } js wr):my w w5 wx T js wr:=by
 have a:=(h0.low e).then h
 have d:∀b,({ T with js:=js2 }:Tv).bh b->b<w5.heap.size:=λb c=>h0.tab.at_.nh c;exact⟨⟨a.tab.at_,a.tab.bh,a.tab.mod⟩,λb c=>.inl (d b (h.yd (T:={ T with js:=js2 }) c)),h.mod.mono (λk _ c=>d k c),a.tab.stays,a.res,by have:=Ac h0.res;omega⟩
def my.drop (h:my w w5 wx T js wr) (a:BW wr.heap.size wr w'):my w w5 wx T js w':=
 ⟨h.tab.low a,h.yg,h.low.low a,h.dy,Ae a h.res (Ac h.res),h.le⟩
def my.set (h:my w w5 wx T js wr) {k f:Nat} {x y:aq} (hx:js[k]?=O (f,x)) (hm:Mod (F3 (f,x)) wr w') (u:Ba w' f y) (hp:Bo w' y) (z:∀b,y.pb=O b->x.pb=O b\/wr.heap.size<=b)
  (a:y.so=x.so/\y.sn=x.sn/\y.sc=x.sc/\y.pl.sp=x.pl.sp)
  (v:(y.go=x.go/\y.gn=x.gn/\y.gc=x.gc/\y.pl.aj=x.pl.aj)\/(Pl.Ao wx y.go y.gn y.pl.aj/\y.gn<=y.gc/\∀b r,y.go=O ⟨b,r,I⟩->w5.heap.size<=b)):my w w5 wx T (js.set k (f,y)) w':=by
 have hA:=h.tab.at_;have p:=Ai hx;have d:=hA.ok _ p;have hJ:∀q,F3 (f,x) q->({ T with jv:=T.jv,js:=js }:Tv).bh q:=λq c=>.inr (.inr (.inr (.inr ⟨_,p,c.imp (λe=>e.symm) id⟩)));have n:=hm.mono λq _ c=>hJ q c
 have l:∀q,(({ T with jv:=T.jv,js:=js }:Tv).bu k (f,y)).bh q->({ T with jv:=T.jv,js:=js }:Tv).bh q\/wr.heap.size<=q:=λq c=>by
  rcases Sb (T:={ T with jv:=T.jv,js:=js }) (j:=(f,y)) hx rfl c with c|c
  .exact .inl c
  .rcases z q c with c|c
   .exact .inl (hJ q (.inr c))
   .exact .inr c
 have m:∀q,q<wr.heap.size->(({ T with jv:=T.jv,js:=js }:Tv).bu k (f,y)).bh q->({ T with jv:=T.jv,js:=js }:Tv).bh q:=λq hq c=>(l q c).resolve_right ao9;have ad:=h.low.size
 have i:∀q,(({ T with jv:=T.jv,js:=js }:Tv).bu k (f,y)).bh q->q<w5.heap.size\/wx.heap.size<=q:=λq c=>by
  rcases l q c with c|c
  .exact h.yg q c
  .exact .inr ao9
 have g:=h.low.then hm λq hq c=>(h.yg q (hJ q c)).resolve_right ao9
 have ha:D1 w' (({ T with jv:=T.jv,js:=js }:Tv).bu k (f,y)).bh y.so y.sn y.pl.sp.after:=by obtain⟨s,t,_,e4⟩:=a;rw[s,t,e4];exact d.after.mod n m
 have hg:D1 w' (({ T with jv:=T.jv,js:=js }:Tv).bu k (f,y)).bh y.go y.gn y.pl.aj/\y.gn<=y.gc:=by
  rcases v with⟨s,t,e3,e4⟩|⟨g1,g2,g3⟩
  .rw [s,t,e3,e4];exact⟨d.aj.mod n m,d.nf⟩
  .refine ⟨⟨Ao.yk (Ac3 g1 g λb r e c=>?_),λh0 b o e hS=>?_⟩,g2⟩
   .have:=g3 b r e;omega
   .have:=g3 b o e;obtain⟨b',ac,e',af,_⟩:=g1.cell 0 h0;rw[e]at e';cases e'
    rcases i b hS with c|c<;>omega
 refine⟨h.tab.set hx rfl hm u hp z ha ?_ hg.1 hg.2 ?_ ?_,i,g,λj hj=>?_,?_,h.le⟩
 .show y.sn<=y.sc;rw[a.2.1,a.2.2.1];exact d.oo
 .show y.pl.sp.user.size<=maxLen;rw[a.2.2.2];exact d.user
 .show y.pl.sp.part.size<=maxLen;rw[a.2.2.2];exact d.part
 .rcases Vo hj with hj|rfl
  .exact h.dy j hj
  .obtain ⟨c1,c2⟩:=h.dy _ p;refine⟨λh0 q o e hq=>?_,λh0 q o e hq=>?_⟩
   .have h0:0<y.sn:=h0;have e:y.so=O ⟨q,o,I⟩:=e;exact c1 (by rw[<-a.2.1];exact h0) q o (by rw[<-a.1];exact e) hq
   .have h0:0<y.gn:=h0;have e:y.go=O ⟨q,o,I⟩:=e;rcases v with⟨s,t,_,_⟩|⟨_,_,g3⟩
    .exact c2 (by rw[<-t];exact h0) q o (by rw[<-s];exact e) hq
    .have:=g3 q o e;omega
 .exact n.ar h.res (hA.off h.res ad9 ad9 ad9 ad9 ad9)
def my.done {l:Tv} (h:my w w5 wx T js wr) (h0:Al w l) (d:T.js=l.js) (p:T.tb=l.tb) (s t u:VL):Em w T { T with js:=js } (((wr.setCell ⟨w.heap.size+1,0,I⟩ s).setCell ⟨w.heap.size+1,1,I⟩ t).setCell ⟨w.heap.size+1,2,I⟩ u):=by
 have r:=(((Mod.refl (λk=>k=w.heap.size+1) wr).set _ 0 s rfl).set _ 1 t rfl).set _ 2 u rfl;have x:=Ac h0.head;have v:=h.le;refine⟨h.tab.at_.el h.res r (by show T.tb<_;rw[p];omega) ad9 ad9 ad9 ad9 ad9 ad9 λj q=>?_,rfl,rfl,rfl,rfl,rfl,h.tab.bh,h.tab.mod.then r (λk g e=>by omega),λj q=>?_⟩
 .obtain ⟨m,n⟩:=h.dy j q;refine⟨λc k o e g=>?_,λc k o e g=>?_⟩
  .obtain ⟨i,f,a,b⟩:=m c k o e ao9;rw[d]at f;have:=La (h0.ok i f).after.row a b;omega
  .obtain ⟨i,f,a,b⟩:=n c k o e ao9;rw[d]at f;have:=La (h0.ok i f).aj.row a b;omega
 .obtain ⟨m,n⟩:=h.dy j q;exact⟨λc k o e g=>m c k o e ao9,λc k o e g=>n c k o e ao9⟩
def Al.rowAt {W:WD} {T:Tv} {js:List (Nat×aq)} {c:Option Addr} {f b:Nat} (h:Al W { T with js:=js }) (e:T.jv=V c f b) (r:js.length=f) {k:Nat} (q:k<f) :
  ∃g j,c=O ⟨g,0,I⟩/\js[k]?=O j/\W.cell? ⟨g,k,I⟩=O (K (O ⟨j.1,0,I⟩)):=by
 obtain⟨j,l⟩:=Ge js k ao9;obtain⟨i,a,m,_,_,p⟩:=h.mr;obtain⟨g,n,o⟩:=p k j l;have d:T.jv=V i js.length a:=m;rw[e]at d;injection d with d _ _;exact⟨g,j,d.trans n,l,o⟩
def aq.slot (x:aq) (st:Int) (go:Option Addr) (gn gc:Nat) (zs:List Int):aq:={ x with pl:={ x.pl with start:=st,aj:=zs },go:=go,gn:=gn,gc:=gc }
def aq.part (x:aq) (p:Int×Int) (g n c:Nat):aq:={ x with pl:={ x.pl with parts:=x.pl.parts++[p] },po:=O ⟨g,0,I⟩,pn:=n,pc:=c }
def Kq (st:Int) (zs:List Int) (l:Lf) (k:Nat) (j:Jb):Jb:=⟨j.id,j.sp,l,st,zs,j.parts++(zs.take k).map λn=>(n,0)⟩
def Ay5 (tick:Int) (l:List (Int×Int×List Int)) (x:Int×Int×List Int):∀js:List Jb,Jc tick (l++[x]) js=Fo (Jc tick l js) x.1 (Lc tick x.2.1 x.2.2):=by
 induction l with
 | nil=>intro js;rfl
 | cons y l ih=>intro js;exact ih _
def Ac4 (tick:Int):∀(l:List (Int×Int×List Int)) (js:List Jb),(Jc tick l js).length=js.length
 | [],_=>rfl
 | x :: l,js=>by
  show(Jc tick l (Fo js x.1 _)).length=_;rw[Ac4 tick l];unfold Fo;rw[Lq]
def Ak5 (tick:Int):∀(l:List (Int×Int×List Int)) (js:List Jb) (k:Nat),(∀y,y∈l->1<=y.1/\y.1≠(k:Int)+1)->(Jc tick l js)[k]?=js[k]?
 | [],_,_,_=>rfl
 | x :: l,js,k,h=>by
  show(Jc tick l (Fo js x.1 _))[k]?=_;rw[Ak5 tick l _ k (λy a=>h y (Dj _ a))];obtain⟨h1,b⟩:=h x Ef;unfold Fo;rw[Fc]
  cases js[k]? with
  | none=>rfl
  | some j=>
   show O (if (x.1-1).toNat=k then _ else j)=O j;rw[Ab ao9]
def Ay6 {vs:List ay} {X:List Jb} (h:F8 vs X) (tick:Int) (d:List Bool) {i:Nat} {x:Int×Int×List Int} (o:(Kn vs tick d X)[i]?=O x) :
  ∃(k:Nat) (j:Jb),X[k]?=O j/\x.1=(k:Int)+1/\j.lf.st=1/\j.parts=[]/\x.2.2.length<=16/\(x.2.1=tick->-1099511627776<=tick->True)/\(Jc tick ((Kn vs tick d X).take i) (X.map Ii))[k]?=O j.bare:=by
 obtain⟨h1,n⟩:=Aks h tick d;obtain⟨k,j,g,e,m,u⟩:=n x (Ai o);have b:j.lf.st=1:=by unfold Jp at m;simp at m;exact m.1
 have t:=(h k j g).idle (by rw[b];rfl);refine⟨k,j,g,e,b,t,?_,λ_ _=>trivial,?_⟩
 .rcases u with⟨_,a⟩|⟨_,a,_⟩
  .rw [a];simp
  .have:=a.len;obtain⟨_,_,_,_,z,_⟩:=Fg (Io (h k j g).gd);obtain⟨_,p⟩:=C8.1 z;have p:j.sp.nodes<=16:=p;omega
 .rw [Ak5 tick _ _ k (λy v=>?_),Bm,g]
  .show O (Ii j)=_;unfold Ii;rw[Ad b]
  .obtain ⟨q,l⟩:=Dk v;have f:q<i:=(by have:=(Ap.1 l).1;rw[Dt]at this;omega);rw[Lr,Ad f]at l;obtain⟨k',j',_,e',_⟩:=n y (Ai l);refine⟨ao9,λc=>?_⟩;have r:((Kn vs tick d X).map Prod.fst)[q]?=O y.1:=(by simp[l]);have s:((Kn vs tick d X).map Prod.fst)[i]?=O x.1:=(by simp[o]);exact Fj h1 r s f ao9
def Ay7 (tick:Int) (zs:List Int) (j:Jb):Lc tick tick zs j=Kq tick zs (Ay j.lf 3).1 zs.length j:=by
 unfold Lc Kq;rw[Ad rfl,Oy]
def Ay8 {tick st:Int} (zs:List Int) (j:Jb) (h:st≠tick):Lc tick st zs j=Kq st zs j.lf 0 j:=by
 unfold Lc Kq;rw[Ab h];simp
end
section
open Go.RowKit Go.Maps Go.Lib
def Ay9 (t:Int) (j:Jb):(Ih t j).sp=j.sp/\(Ih t j).aj=j.aj:=by
 unfold Ih;split
 .exact Acn j _
 .exact ⟨rfl,rfl⟩
def Ak6 {vs:List ay} {n k:Nat} {j:Jb} (h:Fb vs n k j):Aci j:=by
 obtain⟨_,_,_,_,_,c,_⟩:=Fg (Io h.gd);obtain⟨a,b⟩:=C8.1 c;have a:1<=j.sp.wall:=a;have b:j.sp.wall<=1000:=b;refine⟨h.low,?_,ao9,ao9⟩;by_cases q:0<=j.start
 .have:=(h.aj q).2;unfold K6 at this;omega
 .omega
def Aza {a:List Bool} {k:Nat} {b:Bool} (c:a[k]?=O b):((a.take k).map Value.bool++List.replicate (a.length-k) (Value.bool false)).set k (Y b)=(a.take (k+1)).map Value.bool++List.replicate (a.length-(k+1)) (Value.bool false):=by
 have f:=(Ap.1 c).1;have d:a.length-k=(a.length-(k+1))+1:=ao9
 have e:((a.take k).map Value.bool).length=k:=by simp;omega
 rw[d,List.replicate_succ,Pl.Qy c,Dw,List.set_append_right _ _ ao9,e];simp
structure px (w5:WD) (vs:List VL) (wr:WD):Prop where
 low:BW w5.heap.size w5 wr
 box:wr.heap[w5.heap.size]?=O (J vs.toArray 4 (0,0))
def px.drop {b wr w':WD} {vs:List VL} (h:px b vs wr) (a:BW wr.heap.size wr w'):px b vs w':=
 ⟨h.low.trans (a.mono h.low.size),(Mod.ag (S:=λ_=>False) a).ar h.box (λc=>c)⟩
def px.put {a wr:WD} {vs:List VL} (h:px a vs wr) (k:Nat) (v:VL):px a (vs.set k v) (wr.setCell ⟨a.heap.size,k,I⟩ v):=
 ⟨h.low.setCell Ln _,by rw[Am h.box k v];simp⟩
def px.done {b wr:WD} {a:List Bool} (h:px b (a.map Value.bool) wr) (d:a.length<=1000000):Pl.Mj wr (O ⟨b.heap.size,0,I⟩) a.length a:=by
 refine⟨rfl,ao9,λi c=>⟨_,0,rfl,Ac h.box,?_⟩⟩;rw[Dm,Aa h.box i];simp[Pl.bi,List.getD,c]
def Ak7 {vs:List ay} {n k:Nat} {j:Jb} (h:Fb vs n k j):j.parts.length<=1000:=by
 by_cases e:j.parts=[]
 .rw [e];simp
 .have h1:=Ca List.length (h.pg e);rw[As]at h1;have b:=h.run (h.live.2 e);have d:=(h.aj b).1.len;obtain⟨_,_,_,_,c,_⟩:=Fg (Io h.gd);obtain⟨_,a⟩:=C8.1 c;have a:j.sp.nodes<=16:=a;omega
def Azb {w:WD} {T:Tv} (kd ep d cl sq jn an nn hw:Int) (so:Option Addr) (sn sc:Nat) (dm:List ax) (h:Al w T) (hA:Dn T.vs T.pl.ab) (eA:T.js.length<=20) :
  CS prog 83 #[K (O ⟨T.tb,0,I⟩),(⟨⟨kd,ep,d,cl,sq,jn,an,nn,hw⟩,so,sn,sc,dm⟩:dt).val] w (λe w'=>Pr w T (S4 T.vs T.pl d) ⟨0,0,0,0⟩ e w'/\Rd T.vs d (ui { T.pl with tick:=d }) (Da d T.pl.ab)):=by
 obtain⟨x,hx⟩:∃x:dt,x=⟨⟨kd,ep,d,cl,sq,jn,an,nn,hw⟩,so,sn,sc,dm⟩:=⟨_,rfl⟩;have aC:=Cf.new h ⟨⟨kd,ep,d,cl,sq,jn,an,nn,hw⟩,so,sn,sc,dm⟩;obtain⟨W0,dl⟩:=Ex ((w.alloc (J (⟨⟨kd,ep,d,cl,sq,jn,an,nn,hw⟩,so,sn,sc,dm⟩:dt).cells 40 (0,0))).alloc (J #[Z G 0,Z G 0,Z G 0] 35 (0,0)));rw[<-dl]at aC;obtain⟨cQ,bF,bC,cW,dX,_⟩:=h.mr;obtain⟨tb,ht⟩:=Ex (T.tb);obtain⟨mj,aL⟩:=Ex (T.js.length);rw[<-ht];have hd:W0.heap[tb]?=O (J #[Z G T.ai,Z G T.tick,.map (O T.mb),T.nv,T.jv,K (O ⟨T.fb,0,I⟩),T.cv] 115 (0,0)):=by rw[ht];exact aC.tab.at_.head
 have c1:=Bk hd 1 (Z G T.tick) rfl;have f1:=Ag hd 1;have e2:=Bk aC.box 2 (Z G d) rfl;obtain⟨t,f⟩:∃t:Tv,t={ T with tick:=d }:=⟨_,rfl⟩
 have bH:Cf w t ⟨⟨kd,ep,d,cl,sq,jn,an,nn,hw⟩,so,sn,sc,dm⟩ t.js (W0.setCell ⟨tb,1,I⟩ (Z G d)):=by
  rw[f];have hm:Mod (λk=>k=T.tb) W0 (W0.setCell ⟨tb,1,I⟩ (Z G d)):=Mod.setCell _ _ _ _ ht
  have eM:=aC.tab.at_.oj (w':=W0.setCell ⟨tb,1,I⟩ (Z G d)) T.ai d hm (by
   show(W0.setCell ⟨tb,1,I⟩ (Z G d)).heap[T.tb]?=_;rw[<-ht,Am hd]
   rfl)
  have dY:Mod T.bh W0 (W0.setCell ⟨tb,1,I⟩ (Z G d)):=hm.mono λk _ e=>by rw[e];exact .inl rfl
  exact⟨⟨eM,rfl,λb c=>.inl c,aC.tab.mod.trans dY,aC.tab.kp⟩,dY.ar aC.box (aC.tab.at_.off aC.box ad9 ad9 ad9 ad9 ad9),dY.ar aC.res (aC.tab.at_.off aC.res ad9 ad9 ad9 ad9 ad9)⟩
 have bR:D3 t.pl.ab:=by rw[f];exact hA.b.jq
 have dC:t.pl.ab.length=mj:=by rw[aL,f];simp[Tv.pl]
 have c3:Dn t.vs t.pl.ab:=by rw[f];exact hA
 rw[aL.symm]at dX eA
 have row:∀(js:List (Nat×aq)) (W:WD),Cf w t ⟨⟨kd,ep,d,cl,sq,jn,an,nn,hw⟩,so,sn,sc,dm⟩ js W->∀k,k<mj->∃g j,cQ=O ⟨g,0,I⟩/\js[k]?=O j/\W.cell? ⟨g,k,I⟩=O (K (O ⟨j.1,0,I⟩)):=λjs W hW k hk=>by
  have hl:js.length=mj:=by rw[aL,hW.tab.len,f]
  obtain⟨j,hj⟩:=Ge js k ao9;obtain⟨e6,em,e1,_,_,hr⟩:=hW.tab.at_.mr;obtain⟨g,e2,hc⟩:=hr k j hj;have e3:T.jv=V e6 js.length em:=by rw[<-e1,f]
  rw[bC]at e3;injection e3 with e3 _ _;exact⟨g,j,e3.trans e2,hj,hc⟩
 have bV:∀(js:List (Nat×aq)) (W:WD),Cf w t ⟨⟨kd,ep,d,cl,sq,jn,an,nn,hw⟩,so,sn,sc,dm⟩ js W->W.cell? ⟨tb,1,I⟩=O (Z G d)/\W.cell? ⟨tb,4,I⟩=O (V cQ mj bF):=λjs W hW=>by
  have e1:({ t with js:=js }:Tv).tb=tb:=by rw[f,ht]
  have:=hW.tab.at_.head;rw[e1]at this;refine⟨?_,?_⟩
  .rw [Aa this 1,f];rfl
  .rw [Aa this 4,aL,<-bC,f];rfl
 clear hx x;replace⟨h,hA,aC,bH,ht,aL,bC,cW⟩:=H8 h hA aC bH ht aL bC cW;replace⟨hd,f,bR,dC,c3,row,bV⟩:=H7 hd f bR dC c3 row bV;go_enter func83,ntmps83;go_upto_region 1 with fail;rw[<-dl];clear dl;go_upto_region 2 with fail;obtain⟨W1,aU⟩:=Ex (W0.setCell ⟨tb,1,I⟩ (Z G d));rw[<-aU]at bH;rw[<-aU];clear aU c1 f1 e2;obtain⟨_,c4⟩:=bV _ _ bH.out;have dw:t.js.map (λj=>j.2.pl)=D4 (Ih d) t.pl.ab 0:=rfl;replace dw:=Hh dw;go_wp2_with fail;clear c4;go_loopw [6,33] (λ_ i2 wr=>∃(k:Nat) (js:List (Nat×aq)),i2=Z G k/\k<=mj/\Hid (Cf w t ⟨⟨kd,ep,d,cl,sq,jn,an,nn,hw⟩,so,sn,sc,dm⟩ js wr)/\Hid (js.map (λj=>j.2.pl)=D4 (Ih d) t.pl.ab k)) (λ_ i2 _=>mj-(intOf i2).toNat)
 case atStart=>exact⟨0,t.js,rfl,Ar _,bH,dw⟩
 case round=>
  obtain⟨k,js,rfl,hk,hE,hX⟩:=hrel;by_cases hc:k<mj
  .have ba:(k:Int)<mj:=ao9;have eS:(0:Int)<=(k:Int):=ao9;obtain⟨g2,j,rfl,hj,cr⟩:=row _ _ hE.out k hc;obtain⟨jb,jx⟩:=j;obtain⟨aQ,b7⟩:=hE.tab.get hj;obtain⟨c1,_⟩:=bV _ _ hE.out
   have dR:t.pl.ab[k]?=O jx.pl:=by
    have e1:(js.map (λj=>j.2.pl))[k]?=O jx.pl:=(by simp[hj]);rw[hX.out,Abd,Ab ao9]at e1;exact e1
   have dV:=Ak6 (c3.b k _ dR);have eg:=Bk aQ 14 (Z G jx.pl.lf.st) rfl;have kl:=λn=>Qm jx.pl.lf.st (wr.drewN n);have kt:=λn=>Ajo (w:=wr.drewN n) (b:=jb) (x:=jx) (show(wr.drewN n).heap[jb]?=_ from aQ) dV
   have bl:∀y:aq,y.pl=Ih d jx.pl->(js.set k (jb,y)).map (λj=>j.2.pl)=D4 (Ih d) t.pl.ab (k+1):=λy hy=>by
    rw[Nk js hj hy,hX.out];rfl
   have aS:Ih d jx.pl=jx.pl->js.map (λj=>j.2.pl)=D4 (Ih d) t.pl.ab (k+1):=λe=>by
    have:=bl jx e.symm
    rwa [Yv hj]at this
   obtain⟨st,aG⟩:=Ex (jx.pl.lf.st);obtain⟨lt,b1⟩:=Ex (K6 jx.pl);obtain⟨q,hq⟩:=Ex (di jx.pl.lf.st);rw[<-hq]at kl;rw[<-aG]at kl eg;rw[<-b1]at kt;replace⟨hj,aQ,b7,dR,dV,kl,kt,bl⟩:=H8 hj aQ b7 dR dV kl kt bl;replace⟨aS,aG,b1,hq⟩:=H4 aS aG b1 hq;go_upto_region 5 with fail
   cases q with
   | false=>
    have af:=aS (by unfold Ih Jb.live;rw[<-hq.out];simp);replace af:=Hh af;go_quiet ((first|(go_at_call 131;(with_reducible exact Ks (kl.out _)))));rename_i nq;have aI:=hE.low (A6 _ wr nq);replace aI:=Hh aI;go_wp2_with fail;go_roundw
    case rel=>exact⟨k+1,_,by go_num,ao9,aI.out,af.out⟩
    case measure=>simp[intOf];omega
   | true=>
    by_cases hl:lt<=d
    .have eQ:=Bs hl;have dW:Ih d jx.pl=Ff jx.pl (-1):=(by unfold Ih Jb.live;rw[Ad ⟨hq.symm,by rw[<-b1.out];exact hl⟩]);replace dW:=Hh dW;go_quiet ((first|(go_at_call 131;(with_reducible exact Ks (kl.out _)))|(go_at_call 132;(with_reducible exact Calls.quiet_of (kt.out _)))));rename_i nq;have aI:=hE.low (A6 _ wr nq);obtain⟨aB,a0⟩:=aI.tab.get hj.out;have dL:=Agk aB a0.parts (-1);replace⟨aI,dL⟩:=H2 aI dL;go_wp2_with fail;refine dL.mono ?_;rintro e w3 ⟨rfl,hG⟩;have c5:=aI.dj hj.out hG.mod hG.box hG.parts (Aj0 jx (-1));have aJ:=bl (jx.cu (Ff jx.pl (-1))) dW.symm;clear hG;replace⟨c5,aJ⟩:=H2 c5 aJ;go_wp2;go_roundw
     case rel=>exact⟨k+1,_,by go_num,ao9,c5.out,aJ.out⟩
     case measure=>simp[intOf];omega
    .have eQ:=Bz hl
     have af:=aS (by
      unfold Ih
      rw[Ab (λh=>hl (by rw[b1.out];exact h.2))])
     replace af:=Hh af;go_quiet ((first|(go_at_call 131;(with_reducible exact Ks (kl.out _)))|(go_at_call 132;(with_reducible exact Calls.quiet_of (kt.out _)))));rename_i nq;have aI:=hE.low (A6 _ wr nq);replace aI:=Hh aI;go_wp2_with fail;go_roundw
     case rel=>exact⟨k+1,_,by go_num,ao9,aI.out,af.out⟩
     case measure=>simp[intOf];omega
  .have ba:¬(k:Int)<mj:=ao9;have bY:k=mj:=ao9;have af:=hX.out;rw[bY,<-dC.out,Sm]at af;obtain⟨X2,aV⟩:=Ex (t.pl.ab.map (Ih d));rw[<-aV]at af;have bS:D3 X2:=by rw[aV,<-Sm];exact Qo bR.out (X6 _ (λj=>(Ay9 d j).1) _ _)
   have aG:CS prog 134 #[K (O ⟨tb,0,I⟩)] wr (Ki wr { t with js:=js } (I7 X2)):=by
    have:=Abe (T:={ t with js:=js }) hE.tab.at_ (by
     show D3 (js.map λj=>j.2.pl)
     rw[af];exact bS)
    rw[show({ t with js:=js }:Tv).pl.ab=X2 from af]at this;rw[show tb=({ t with js:=js }:Tv).tb from by rw[ht.out,f.out]];exact this
   have dU:I7 X2=Da d T.pl.ab:=(by rw[aV,f.out];rfl);replace⟨af,aV,bS,aG,bY,dU⟩:=H6 af aV bS aG bY dU;go_upto_region 8 with fail;go_wp2_with fail;refine aG.mono ?_;rintro e w4 ⟨rfl,am,eH,aR⟩
   have bI:=hE.then eH
   rw[dU.out]at aR;clear eH;replace⟨aR,bI⟩:=H2 aR bI;go_upto_region 9 with fail;have bo:=Aj4 hA.out d;have b2:am.length=mj:=(by rw[aL.out,bI.tab.len,f.out]);have be:=bI.tab.at_
   have cy:∀j,j∈am->∃k,(Da d T.pl.ab)[k]?=O j.2.pl:=λj hj=>by
    obtain⟨k,hk⟩:=Dk hj;have e1:(am.map (λj=>j.2.pl))[k]?=O j.2.pl:=(by simp[hk]);exact⟨k,by rw[<-aR.out];exact e1⟩
   have dM:CS prog 135 #[K (O ⟨tb,0,I⟩)] w4 (Acj w4 (Da d T.pl.ab)):=by
    have:=Av7 (T:={ t with js:=am }) be (λj hj=>by
     obtain⟨k,hk⟩:=cy j hj
     exact Ak6 (bo.b k _ hk)) (by show am.length<=1000;omega) (λj hj=>by
     obtain⟨k,hk⟩:=cy j hj;have e1:=Ak7 (bo.b k _ hk);have e2:=I9 (be.ok j hj).parts;rw[e2]at e1
     exact e1)
    rw[show({ t with js:=am }:Tv).pl.ab=Da d T.pl.ab from aR.out]at this;rw[show tb=({ t with js:=am }:Tv).tb from by rw[ht.out,f.out]];exact this
   replace⟨bo,b2,be,cy,dM⟩:=H5 bo b2 be cy dM;go_wp2_with fail;refine dM.mono ?_;rintro e w5 ⟨ho,eO,uo,uc,hs,rfl,c7,c6,dk,dH⟩;have bJ:=bI.low dH;replace⟨c7,c6,dk,bJ,dH⟩:=H5 c7 c6 dk bJ dH;go_upto_region 10 with fail;obtain⟨bs,bw⟩:∃bs,bs=ui { T.pl with tick:=d }:=⟨_,rfl⟩;obtain⟨mn,bc⟩:=Ex (T.nodes.length);have aX:bs.length=mn:=(by rw[bw,bc];simp[ui,Tv.pl]);have ad:=bJ.tab.at_;have fl:mn<=16:=by have e1:=ad.same;have e2:=ad.dp.ok.len;rw[f.out]at e1 e2;rw[bc];exact e1▸e2
   have eV:∃so cap,T.nv=V so mn cap/\(0<mn->∃g,so=O ⟨g,0,I⟩):=by
    have hr:=ad.nodes;rw[f.out]at hr;rw[bc];rcases hr.2 with⟨e,h0⟩|⟨g,cap,eL,e,_,_,h1,h2,_⟩
    .have h0:T.nodes.length=0:=h0;exact⟨I,0,by rw[h0];exact e,λc=>by omega⟩
    .exact ⟨_,_,e,λ_=>⟨_,rfl⟩⟩
   obtain⟨eJ,ch,b6,d2⟩:=eV;have aP:w5.heap[tb]?=O (J #[Z G T.ai,Z G d,.map (O T.mb),V eJ mn ch,T.jv,K (O ⟨T.fb,0,I⟩),T.cv] 115 (0,0)):=(by have:=ad.head;rw[f.out]at this;rw[ht.out,<-b6];exact this);have cR:=Ac aP;have n1:=Bk aP 1 (Z G d) rfl;have n3:=Bk aP 3 (V eJ mn ch) rfl;have eU:=Pl.Aik mn ao9 w5;obtain⟨W6,bP⟩:=Ex (w5.alloc (J (Array.replicate mn (Y false)) 4 (0,0)))
   have co:px w5 ((bs.take 0).map Value.bool++List.replicate (mn-0) (Y false)) W6:=
    ⟨by rw[bP];exact Bn,by rw[bP];simpa using Ah _ _⟩
   rw[<-bP]at eU;have e4:=(Af co.low cR).trans n3;replace⟨bw,bc,aX,ad,b6,d2,aP,co⟩:=H8 bw bc aX ad b6 d2 aP co;replace bP:=Hh bP;go_wp2_with fail;go_upto_region 11 with fail;clear e4;go_loopw [10,11,76] (λ_ _ i2 wr=>∃k:Nat,i2=Z G k/\k<=mn/\Hid (px w5 ((bs.take k).map Value.bool++List.replicate (mn-k) (Y false)) wr)) (λ_ _ i2 _=>mn-(intOf i2).toNat)
   case atStart=>exact⟨0,rfl,Ar _,co⟩
   case round=>
    obtain⟨k,rfl,hk,hU⟩:=hrel;by_cases hc:k<mn
    .have ba:(k:Int)<mn:=ao9;have eS:(0:Int)<=(k:Int):=ao9;obtain⟨ng,rfl⟩:=d2 ao9;obtain⟨nd,cD⟩:=Ge T.nodes k (by have:=bc.out;omega);have d0:=λh2=>ad.oi (i:=k) (n:=nd) (by rw[f.out];exact cD) (g:=ng) (cap:=ch) h2
     obtain⟨q0,q1,q2,_⟩:=d0 (by
      rw[f.out];show T.nv=_
      rw[b6.out,bc.out])
     have dI:bs[k]?=O (nd.up && !nd.bq && decide (nd.since<d)):=(by rw[bw.out];simp[ui,Tv.pl,cD]);obtain⟨up,dr,si⟩:=nd
     have b5:=(P2 ad.nodes ng (by
      rw[f.out];show T.nv.ownBlock=_
      rw[b6.out];rfl)).2
     have q0:=(Af hU.low b5).trans q0;have q1:=(Af hU.low b5).trans q1;have q2:=(Af hU.low b5).trans q2;replace⟨cD,dI,d0⟩:=H3 cD dI d0;go_upto_region 14 with fail;have a9:=hU.drop ((Below.refl wr.heap.size wr).alloc Ln (J #[Y up,Y dr,Z G si] 119 (0,0)));have cL:(wr.alloc (J #[Y up,Y dr,Z G si] 119 (0,0))).heap[wr.heap.size]?=O (J #[Y up,Y dr,Z G si] 119 (0,0)):=Ah _ _;have eI:=(Af a9.low cR).trans n1
     have aM:∀n b,(up && !dr && decide (si<d))=b->Hid (px w5 ((bs.take (k+1)).map Value.bool++List.replicate (mn-(k+1)) (Y false)) (((wr.alloc (J #[Y up,Y dr,Z G si] 119 (0,0))).drewN n).setCell ⟨w5.heap.size,k,I⟩ (Y b))):=λn b hb=>by
      have h1:=(a9.drop (A6 _ _ n)).put k (Y b);rw[<-aX.out,Aza (by rw[dI.out];exact Ca O hb),aX.out]at h1;exact Hh h1
     obtain⟨W7,cs⟩:=Ex (wr.alloc (J #[Y up,Y dr,Z G si] 119 (0,0)));rw[<-cs]at a9 cL eI aM;rw[<-cs];obtain⟨z0,z1,z2⟩:=C3 cL;(try dsimp only at z0 z1 z2);have kf:=Ag a9.box k
     have kc:W7.cell? ⟨w5.heap.size,k,I⟩=O (Y false):=by
      rw[Aa a9.box k];have e2:((bs.take k).map Value.bool).length=k:=(by have:=aX.out;simp;omega);rw[Lp,Gb ao9,e2,Nat.sub_self,List.getElem?_replicate,Ad ao9]
     clear q0 q1 q2;replace⟨a9,cL,aM,cs⟩:=H4 a9 cL aM cs
     cases up with
     | false=>
      have hp:=λn=>aM.out n false rfl;replace hp:=Hh hp;go_region
      all_goals
       go_wp2;go_roundw
       case rel=>exact⟨k+1,by go_num,ao9,hp _⟩
       case measure=>simp[intOf];omega
     | true=>
      cases dr with
      | true=>
       have hp:=λn=>aM.out n false rfl;replace hp:=Hh hp;go_region
       all_goals
        go_wp2;go_roundw
        case rel=>exact⟨k+1,by go_num,ao9,hp _⟩
        case measure=>simp[intOf];omega
      | false=>
       by_cases hs:si<d
       .have dK:=Bs hs;have hp:=λn=>aM.out n true (by rw[dK];rfl);replace hp:=Hh hp;go_region
        all_goals
         go_wp2;go_roundw
         case rel=>exact⟨k+1,by go_num,ao9,hp _⟩
         case measure=>simp[intOf];omega
       .have dK:=Bz hs;have hp:=λn=>aM.out n false (by rw[dK];rfl);replace hp:=Hh hp;go_region
        all_goals
         go_wp2;go_roundw
         case rel=>exact⟨k+1,by go_num,ao9,hp _⟩
         case measure=>simp[intOf];omega
    .have ba:¬(k:Int)<mn:=ao9;have eT:k=mn:=ao9;subst eT;have bG:Pl.Mj wr (O ⟨w5.heap.size,0,I⟩) k bs:=(by have h1:=hU.out;rw[Nat.sub_self,List.replicate_zero,N3,Dd (by rw[aX.out];exact Nat.le_refl _)]at h1;have h2:=h1.done (by have:=aX.out;omega);rw[aX.out]at h2;exact h2);replace bG:=Hh bG
     obtain⟨ck,vn,c2,bx⟩:∃so n cap,T.cv=V so n cap/\n=T.vs.length:=by
      have hr:=ad.az;rw[f.out]at hr;rcases hr.2 with⟨e,h0⟩|⟨g,cap,eL,e,_,_,h1,h2,_⟩
      .exact ⟨I,0,0,e,h0.symm⟩
      .exact ⟨_,_,_,e,rfl⟩
     have bX:∀W',BW w5.heap.size w5 W'->W'.cell? ⟨tb,1,I⟩=O (Z G d)/\W'.cell? ⟨tb,6,I⟩=O (V ck vn c2):=λW' hb=>by
      refine⟨(Af hb cR).trans n1,(Af hb cR).trans ?_⟩;rw[<-bx.1];exact Aa aP.out 6
     have eb:∀W',BW w5.heap.size w5 W'->CS prog 137 #[K (O ⟨tb,0,I⟩),V uo (Dq (Da d T.pl.ab)).length uc] W' (Ac2 T.vs W' (Da d T.pl.ab)):=λW' hb=>by
      have e1:({ t with js:=am }:Tv).pl.ab=Da d T.pl.ab:=aR.out
      have h2:=Ay0 (T:={ t with js:=am }) (ad.low hb) (by
       rw[e1,f.out]
       exact bo.b) (by show am.length<=20;have:=b2.out;omega) uo (Dq (Da d T.pl.ab)).length uc (by rw[e1];exact dk.low hb)
      rw[e1]at h2;rw[f.out]at h2;rw[show tb=T.tb from ht.out];exact h2
     have aE:=hU.low;have d6:Pl.Oh w5 ck vn (T.vs.map ay.cap):=by have hr:=ad.az;have hl:=ad.dp.ok.len;rw[f.out]at hr hl;have hl:T.vs.length<=16:=hl;have hr:w5.ownsRow 0 30 4 T.cv T.vs.length (Aq V4.cells (T.vs.map ay.cap)):=hr;rw[bx.1,show T.vs.length=(T.vs.map ay.cap).length by simp]at hr;exact Ay1 hr (by rw[bx.2];simp) (by rw[bx.2];omega)
     have ec:∀(W':WD) (ao:Option Addr) (l lc:Nat) (al:List Pl.Ask),BW wr.heap.size wr W'->Pl.Yi W' ao l al->al.map Pl.Ask.er=Ez T.vs (Da d T.pl.ab)->l<=1000000->CS prog 136 #[V ck vn c2,V (O ⟨w5.heap.size,0,I⟩) k k,Z G d,V ho hs.length eO,V ao l lc] W' (λe w'=>∃v rv,e=Q (D #[v,rv])/\yx w5 T.vs d bs (Da d T.pl.ab) v rv w'):=λW' ao l lc al hb ha he hl=>
      Ay3 d6 c6.out (aE.trans (hb.mono aE.size)) (bG.below hb Ln) ha he hl (Pl.Ml.below c7.out (aE.trans (hb.mono aE.size)) (λ_ q=>q.below (aE.trans (hb.mono aE.size))))
     have cg:∀al:List Pl.Ask,al.map Pl.Ask.er=Ez T.vs (Da d T.pl.ab)->al.length<=1000000:=λal he=>by
      have h1:=Ca List.length he;rw[As]at h1;have h2:=Ay2 T.vs (Da d T.pl.ab);have h3:(Da d T.pl.ab).length=am.length:=(by rw[<-aR.out];simp);have h4:=b2.out;omega
     have aD:BW wr.heap.size wr wr.drew:=(Below.refl _ _).drew;replace⟨bG,bX,eb,aE,bx,d6,ec,cg⟩:=H8 bG bX eb aE bx d6 ec cg;replace aD:=Hh aD;go_wp2_with fail;go_cut [12,13] (λv rv wx=>yx w5 T.vs d bs (Da d T.pl.ab) v rv wx)
     case first=>
      go_region_held3 (λW'=>W'.cell? ⟨tb,1,I⟩=O (Z G d)/\W'.cell? ⟨tb,6,I⟩=O (V ck vn c2))
       (first
         | with_reducible exact bX.out _ (aE.out.trans (aD.out.mono aE.out.size))
         | exact bX.out _ (aE.trans (aD.mono aE.size)).drew
         | exact bX.out _ cn.1.low)
       (first
         | (go_at_call 137
            (with_reducible refine(eb.out _ (aE.out.trans (aD.out.mono aE.out.size))).mono ?_)
            rintro e w6 ⟨ao,fq,fo,al,rfl,rfl,bU,bf,ew⟩;replace aD:=Hh (aD.trans (ew.mono aD.size));have bT:=cg al bf;replace⟨bU,bf,bT⟩:=H3 bU bf bT
            clear ew)
         | (go_at_call 136
            (with_reducible refine(ec.out _ _ _ _ _ aD.out bU.out bf.out bT.out).mono ?_)
            rintro e w7 ⟨v7,fx,rfl,cn⟩
            replace cn:=Hh cn))
      go_wp2_with fail;go_meet
      case rel=>exact cn.out
     case rest=>
      obtain⟨⟨fA,bE,fz,sr,ef,rfl,rfl,cH,bZ,ca,cG,cw,d5⟩,d4⟩:=hcut;have bK:=bJ.low cw;obtain⟨_,c4⟩:=bV _ _ bK;have c8:Bp wc { t with js:=am } am wc:=Bp.refl (T:={ t with js:=am }) bK.tab.at_;have bQ:am.map (λj=>j.2.pl)=D4 Ii (Da d T.pl.ab) 0:=aR.out;have aW:(Da d T.pl.ab).length=mj:=(by rw[<-aR.out,<-b2.out];simp);replace⟨cH,bZ,ca,cG,cw,d5,bK,c8⟩:=H8 cH bZ ca cG cw d5 bK c8;replace⟨bQ,d4,aW⟩:=H3 bQ d4 aW;go_wp2_with fail;clear c4;go_loopw [15,126] (λ_ i2 wr=>∃(p:Nat) (js:List (Nat×aq)),i2=Z G p/\p<=mj/\Hid (Bp wc { t with js:=am } js wr)/\Hid (js.map (λj=>j.2.pl)=D4 Ii (Da d T.pl.ab) p)) (λ_ i2 _=>mj-(intOf i2).toNat)
      case atStart=>exact⟨0,am,rfl,Ar _,c8,bQ⟩
      case round=>
       obtain⟨p,cN,rfl,hp,hJ,hX⟩:=hrel;by_cases hc:p<mj
       .have ba:(p:Int)<mj:=ao9;have cF:(0:Int)<=(p:Int):=ao9;obtain⟨g2,j,rfl,hj,cr⟩:=row _ _ (bK.then hJ.out) p hc;obtain⟨jb,jx⟩:=j;obtain⟨aQ,b7⟩:=hJ.get hj;have eg:=Bk aQ 14 (Z G jx.pl.lf.st) rfl
        have cE:∀y:aq,y.pl=Ii jx.pl->(cN.set p (jb,y)).map (λj=>j.2.pl)=D4 Ii (Da d T.pl.ab) (p+1):=λy hy=>by
         rw[Nk cN hj hy,hX.out];rfl
        have dJ:=Xt aQ;obtain⟨st,aG⟩:=Ex (jx.pl.lf.st);rw[<-aG]at eg;replace⟨hj,aQ,b7,cE,dJ,aG⟩:=H6 hj aQ b7 cE dJ aG;by_cases q:st=1
        .have d1:=M5.2 q;have aJ:=cE jx.bare (by unfold Ii;rw[Ad (aG.symm.trans q)];rfl);replace⟨aJ,q⟩:=H2 aJ q;go_wp2_with fail;refine dJ.mono ?_;rintro e w3 ⟨rfl,cT,bb⟩;have c9:=hJ.uf hj.out bb cT (Xx jx) ⟨rfl,rfl,rfl,rfl⟩;clear cT bb;replace c9:=Hh c9;go_wp2;go_roundw
         case rel=>exact⟨p+1,_,by go_num,ao9,c9,aJ⟩
         case measure=>simp[intOf];omega
        .have d1:=Bh.2 q;have aJ:=cE jx (by unfold Ii;rw[Ab (λc=>q (aG.trans c))]);rw[Yv hj.out]at aJ;replace⟨aJ,q⟩:=H2 aJ q;go_wp2_with fail;go_roundw
         case rel=>exact⟨p+1,_,by go_num,ao9,hJ,aJ⟩
         case measure=>simp[intOf];omega
       .have ba:¬(p:Int)<mj:=ao9;have eF:p=mj:=ao9;have af:=hX.out;rw[eF,<-aW.out,Sm]at af;have db:=my.start bJ.out cw.out hJ.out;obtain⟨L,hL⟩:=Ex (Kn T.vs d bs (Da d T.pl.ab));obtain⟨Y9q,hY⟩:=Ex ((Da d T.pl.ab).map Ii);have dD:Y9q.length=mj:=(by rw[hY,As];exact aW.out);have dg:cN.map (λj=>j.2.pl)=Jc d (L.take 0) Y9q:=by rw[af,hY];rfl
        have cb:∀(i:Nat) (x:Int×Int×List Int),L[i]?=O x->∃(k:Nat) (j:Jb),(Da d T.pl.ab)[k]?=O j/\x.1=(k:Int)+1/\j.lf.st=1/\j.parts=[]/\x.2.2.length<=16/\(Jc d (L.take i) Y9q)[k]?=O j.bare:=λi x hx=>by
         rw[hL]at hx ⊢;rw[hY];obtain⟨k,j,a1,a2,a3,a4,a5,_,a6⟩:=Ay6 bo.b d bs hx;exact⟨k,j,a1,a2,a3,a4,a5,a6⟩
        rw[<-hL]at bZ;have fn:=ca.max
        have bg:∀(js:List (Nat×aq)) (W:WD),Al W { t with js:=js }->W.cell? ⟨tb,1,I⟩=O (Z G d)/\W.cell? ⟨tb,4,I⟩=O (V cQ mj bF):=λjs W hW=>by
         have:=hW.head;rw[f.out]at this;rw[ht.out];refine⟨Aa this 1,?_⟩;rw[Aa this 4];show O T.jv=_;rw[bC.out,aL.out]
        have bW:t.jv=V cQ mj bF:=(by rw[f.out,aL.out];exact bC.out);obtain⟨iP,dN,ea,ce,cf⟩:=B6 Aj8;clear hX af hJ eF;replace⟨db,hL,hY,dD,dg,cb,bg,bW⟩:=H8 db hL hY dD dg cb bg bW;replace⟨dN,ea,ce,cf⟩:=H4 dN ea ce cf;go_wp2_with fail;go_loopw [17,18,20,141,178] (λ_ _ _ i2 _ wr=>∃(i:Nat) (js:List (Nat×aq)),i2=Z G i/\i<=bE/\Hid (my w w5 wc t js wr)/\Hid (js.map (λj=>j.2.pl)=Jc d (L.take i) Y9q)) (λ_ _ _ i2 _ _=>bE-(intOf i2).toNat)
        case atStart=>exact⟨0,cN,rfl,Ar _,db,dg⟩
        case round=>
         obtain⟨i,aN,rfl,hi,hP,hX⟩:=hrel;by_cases hc:i<bE
         .have ba:(i:Int)<bE:=ao9;have fs:(0:Int)<=(i:Int):=ao9;obtain⟨s,hs⟩:=Ge ef i (by have:=cH.out;omega);have cc:=Ay4 ca.out hP.low (λb ci e c=>by have:=d5 b ci e;omega) (λs hs b ci e c=>by have:=cG s hs b ci e;omega);obtain⟨sb,cj,e9,cZ,b9,eG⟩:=cc.cell i s hs;subst e9;have cm:L[i]?=O s.key:=(by rw[<-bZ.out,Bm,hs];rfl);obtain⟨k2,j0,dQ,dO,c0,cF,a8,dF⟩:=cb i _ cm;have bY:k2<mj:=(by have h1:=(Ap.1 dQ).1;have h2:=aW.out;omega);have dT:aN.length=mj:=(by have:=Ca List.length hX.out;rw[As,Ac4,dD.out]at this;exact this);have aH:Pl.Ao wc s.go s.gn s.eh/\s.gn<=s.gc:=(by obtain⟨_,_,_,_,_,ho⟩:=ca.cell i _ hs;exact⟨ho.aj,ho.ou⟩);have bn:=cG _ (Ai hs);obtain⟨e5,r,av,m,ap,o⟩:=s;have dO:e5=(k2:Int)+1:=dO;subst dO;have a8:o.length<=16:=a8;have aH:Pl.Ao wc av m o/\m<=ap:=aH;have s0:wr.cell? ⟨sb,cj+i*3,I⟩=O (Z G ((k2:Int)+1)):=b9 0 ao9;have s1:wr.cell? ⟨sb,cj+i*3+1,I⟩=O (Z G r):=b9 1 ao9;have s2:wr.cell? ⟨sb,cj+i*3+2,I⟩=O (V av m ap):=b9 2 ao9;replace⟨hs,cc,b9,eG,cm,dQ,c0,cF⟩:=H8 hs cc b9 eG cm dQ c0 cF;replace⟨a8,dF,dT,aH,bn,cZ⟩:=H6 a8 dF dT aH bn cZ;go_upto_region 26 with fail;obtain⟨nb,dZ⟩:=Ex (wr.heap.size);obtain⟨W1,aU⟩:=Ex (wr.alloc (J #[Z G ((k2:Int)+1),Z G r,V av m ap] 224 (0,0)));have dG:BW wr.heap.size wr W1:=(by rw[aU];exact Bn);have cI:W1.heap[nb]?=O (J #[Z G ((k2:Int)+1),Z G r,V av m ap] 224 (0,0)):=(by rw[aU,dZ];exact Ah _ _);rw[<-aU,<-dZ];clear aU dZ s0 s1 s2;have bL:=hP.drop dG;obtain⟨g2,j,e8,hj,cr⟩:=Al.rowAt (T:=t) bL.tab.at_ bW.out dT.out bY;obtain⟨jb,jx⟩:=j;subst e8;obtain⟨_,c4⟩:=bg _ _ bL.tab.at_;have p0:=Bk cI 0 (Z G ((k2:Int)+1)) rfl;have fv:IntKind.i64.wrap ((k2:Int)+1-1)=(k2:Int):=(by rw[Int.add_sub_cancel];exact Im ao9 ao9);have ff:(0:Int)<=(k2:Int):=ao9;have fg:(k2:Int)<mj:=ao9;replace⟨dG,cI,bL,hj⟩:=H4 dG cI bL hj;go_quiet (fail);rename_i nq;have bv:=bL.drop (A6 _ W1 nq);have bd:(W1.drewN nq).heap[nb]?=O (J #[Z G ((k2:Int)+1),Z G r,V av m ap] 224 (0,0)):=cI.out;obtain⟨W2,es⟩:=Ex (W1.drewN nq);rw[<-es]at bv bd ⊢;clear es c4 cr p0;have aB:=bv.tab.at_.box _ (Ai hj.out);have a0:=bv.tab.at_.ok _ (Ai hj.out);have p1:=Bk bd 1 (Z G r) rfl;have p2:=Bk bd 2 (V av m ap) rfl;have ej:∃v,W2.cell? ⟨jb,19,I⟩=O v:=⟨_,Aa aB 19⟩;have ek:∃v,W2.cell? ⟨jb,20,I⟩=O v:=⟨_,Aa aB 20⟩;obtain⟨fB,ej⟩:=ej;obtain⟨fC,ek⟩:=ek;have eq:=Ag aB
          have b4:nb≠jb:=λe=>by
           have h1:W2.heap[jb]?=_:=aB;rw[<-e,bd]at h1;injection h1 with h1;injection h1 with _ h1;exact absurd h1 ad9
          have fm:=b4.symm
          have bD:jx.pl=j0.bare:=by
           have e1:(aN.map λj=>j.2.pl)[k2]?=O jx.pl:=(by simp[hj.out]);rw[hX.out,dF.out]at e1;injection e1 with e1;exact e1.symm
          replace⟨bv,bd,aB,a0,bD⟩:=H5 bv bd aB a0 bD;go_upto_region 27 with fail;go_region;obtain⟨W3,cp⟩:=Ex (((W2.setCell ⟨jb,19,I⟩ (Z G r)).setCell ⟨jb,20,I⟩ (V av m ap)).drew);have bb:Kb jb W2 W3:=(by rw[cp];exact(((Mod.refl (λk=>k=jb) W2).set jb 19 _ rfl).set jb 20 _ rfl).drew);have ev:Ba W3 jb (jx.slot r av m ap o):=(by rw[cp];have h1:=Am (Am aB.out 19 (Z G r)) 20 (V av m ap);show((W2.setCell ⟨jb,19,I⟩ (Z G r)).setCell ⟨jb,20,I⟩ (V av m ap)).heap[jb]?=_;rw[h1];simp[aq.slot]);have eB:=Um aB.out a0.parts bb;have bM:=bv.set hj.out (Pa bb) ev eB (λb e=>.inl e) ⟨rfl,rfl,rfl,rfl⟩ (.inr ⟨aH.1,aH.2,bn.out⟩);have cJ:=bb.ar bd.out b4;obtain⟨c1,_⟩:=bg _ _ bM.tab.at_;have q1:=Bk cJ 1 (Z G r) rfl;have bA:(aN.set k2 (jb,jx.slot r av m ap o))[k2]?=O (jb,jx.slot r av m ap o):=by rw[List.getElem?_set_self (by have:=(Ap.1 hj.out).1;exact this)]
          have aT:∀y:aq,y.pl=Lc d r o j0.bare->(aN.set k2 (jb,y)).map (λj=>j.2.pl)=Jc d (L.take (i+1)) Y9q:=λy hy=>by
           rw[Pl.Qy cm.out,Ay5];show _=Fo _ ((k2:Int)+1) (Lc d r o);unfold Fo;rw[show((k2:Int)+1-1).toNat=k2 by omega,<-hX.out];exact Nk aN hj.out (by rw[hy,bD.out])
          rw[<-cp];clear cp p1 p2 ej ek eq bb ev eB;replace⟨bM,cJ,bA,aT⟩:=H4 bM cJ bA aT;by_cases qs:r=d
          .have d1:=M5.2 qs;replace qs:=Hh qs;go_upto_region 28 with fail;go_quiet (fail);have aK:=bM.drop (A6 _ W3 nq);have cK:(W3.drewN nq).heap[nb]?=O (J #[Z G ((k2:Int)+1),Z G r,V av m ap] 224 (0,0)):=cJ.out;have b3:=Sl (aK.tab.at_.box _ (Ai bA.out)) 3 ao9;obtain⟨l,hl⟩:=Ex ((Ay (jx.slot r av m ap o).pl.lf 3).1);rw[<-hl]at b3;obtain⟨W4,et⟩:=Ex (W3.drewN nq);rw[<-et]at aK cK b3 ⊢;clear et c1 q1;replace⟨aK,cK,b3,hl⟩:=H4 aK cK b3 hl;go_wp2_with fail;refine b3.mono ?_;rintro e fa ⟨rfl,cS,cA⟩;have cX:=aK.tab.at_.ok _ (Ai bA.out);have cU:=aK.tab.at_.box _ (Ai bA.out);have eC:=Um cU cX.parts cA;have dc:=aK.set bA.out (Pa cA) cS eC (λb e=>.inl e) ⟨rfl,rfl,rfl,rfl⟩ (.inl ⟨rfl,rfl,rfl,rfl⟩);rw[P5]at dc;have d7:=cA.ar cK.out b4;have q2:=Bk d7 2 (V av m ap) rfl;have cx:=aH.1.len
           have eE:∃jy:aq,my w w5 wc t (aN.set k2 (jb,jy)) fa/\jy.pl=Kq d o l 0 j0.bare:=⟨_,dc,by
            show({ jx.pl with start:=r,aj:=o,lf:=l }:Jb)=_;rw[bD.out,qs.out]
            simp[Kq,Jb.bare]⟩
           have dS:(Lc d r o j0.bare)=Kq d o l m j0.bare:=(by rw[qs.out,Ay7,hl.out,cx];show Kq d o (Ay j0.bare.lf 3).1 _ _=Kq d o (Ay jx.pl.lf 3).1 _ _;rw[bD.out]);obtain⟨e0,dd,d8⟩:=eE;have fe:m<=16:=(by have:=a8.out;omega);clear cS cA cX cU dc eC;replace⟨dd,d8,d7,cx,dS⟩:=H5 dd d8 d7 cx dS;go_wp2_with fail;clear q2;go_loopw [20,178] (λ_ i2 wr=>∃(q:Nat) (jy:aq),i2=Z G q/\q<=m/\Hid (my w w5 wc t (aN.set k2 (jb,jy)) wr)/\Hid (jy.pl=Kq d o l q j0.bare)) (λ_ i2 _=>m-(intOf i2).toNat)
           case atStart=>exact⟨0,e0,rfl,Ar _,dd,d8⟩
           case round=>
            obtain⟨q,jy,rfl,hq,bN,d9⟩:=hrel;by_cases ey:q<m
            .have eP:(q:Int)<m:=ao9;have fu:(0:Int)<=(q:Int):=ao9;have bB:(aN.set k2 (jb,jy))[k2]?=O (jb,jy):=(by rw[List.getElem?_set_self (by have:=(Ap.1 hj.out).1;exact this)]);have dP:=Ac3 aH.1 bN.low (λb ci e c=>by have:=bn b ci e;omega);obtain⟨gb,fd,e7,cV,eR⟩:=dP.cell q ey;subst e7;obtain⟨z,hz⟩:=Ex (Pl.zi o q);rw[<-hz]at eR
             have cd:o[q]?=O z:=by
              rw[hz];have eY:q<o.length:=(by rw[cx.out];exact ey);simp[Pl.zi,List.getD,eY]
             have aY:=bN.tab.at_.box _ (Ai bB);have cY:=bN.tab.at_.ok _ (Ai bB);obtain⟨cP,ac,cO,aF⟩:∃a b c,jy.po=a/\jy.pn=b/\jy.pc=c:=⟨_,_,_,rfl,rfl,rfl⟩;have fc:=Bk aY 21 (V jy.po jy.pn jy.pc) rfl;rw[aF.1,aF.2.1,aF.2.2]at fc;have hA:=(Below.refl wr.heap.size wr).alloc Ln (J #[Z G z,Z G 0] 65);obtain⟨WA,ds⟩:=Ex (wr.alloc (J #[Z G z,Z G 0] 65));have cM:WA.heap[wr.heap.size]?=O (J (Fh (z,0)) 65 (0,0)):=(by rw[ds];exact Ah _ _);rw[<-ds]at hA;have bO:=bN.drop hA;have aZ:=Ae hA aY (Ac aY);have bi:=bO.tab.at_.ok _ (Ai bB);have bk:WA.ownsRow 0 65 2 (V jy.po jy.pn jy.pc) jy.pn (Aq Fh jy.pl.parts):=bi.parts;have b0:=I9 bi.parts;rw[aF.1,aF.2.1,aF.2.2,show ac=jy.pl.parts.length from by rw[b0,aF.2.1]]at bk;have a7:Be Fh 2 65 WA 0 (V cP ac cO) jy.pl.parts:=⟨by rw[show ac=jy.pl.parts.length from by rw[b0,aF.2.1]];exact bk⟩;have cB:jy.pl.parts.length=ac:=by rw[b0,aF.2.1]
             have b8:∀u∈(Fh (z,0)).toList,u.oneCell'=true:=by intro u hu;simp at hu;rcases hu with rfl|rfl<;>rfl
             have eu:0<=WA.heap.size:=Ar _
             have eW:ac<=1000000:=by
              have h1:jy.pl.parts.length=([]++(o.take q).map λn=>(n,(0:Int))).length:=(by rw[d9.out];show(j0.parts++_).length=_;rw[cF.out]);rw[Oz,As,Dt]at h1;omega
             replace⟨bB,dP,cV,hz,cd,aY,cY,aF⟩:=H8 bB dP cV hz cd aY cY aF;replace⟨hA,cM,bO,aZ,bi,bk,b0,a7⟩:=H8 hA cM bO aZ bi bk b0 a7;replace⟨cB,b8⟩:=H2 cB b8;rw[ds]at cM bO aZ a7 eu;go_wp2_with (at_builtin;refine Ajn (cells:=Fh) (sz:=2) rfl _ _ 44 rfl 0 iP _ 16 Zx dN.out ea.out ce.out cf.out rfl (Iw _) ad9 (λ_=>rfl) (V cP ac cO) rfl ac a7.out cB.out wr.heap.size 1 rfl (z,0) b8.out cM.out eW eu ?_;intro g9 aA w9 h9 ez dE;have cC:=Mod.grown (S:=λk=>(Value.slice cP ac cO).ownBlock=O k) ez (λk hk=>hk);have aO:=cC.ar aZ.out (λe=>Bx a7.row aZ.out ad9 e);have eK:=Aa aO 21;have eq:=Ag aO 21;simp at eK;replace⟨h9,cC,aO,dE⟩:=H4 h9 cC aO dE;clear ez);go_roundw
             have eN:my w w5 wc t (aN.set k2 (jb,jy.part (z,0) g9 (ac+1) aA)) (w9.setCell ⟨jb,21,I⟩ (V (O ⟨g9,0,I⟩) (ac+1) aA)):=by
              have eD:jy.pb=(Value.slice cP ac cO).ownBlock:=(by unfold aq.pb;rw[aF.1,aF.2.1,aF.2.2]);have aL:=Mod.setCell (S:=λk=>k=jb) w9 jb 21 (V (O ⟨g9,0,I⟩) (ac+1) aA) rfl;have hm:=(cC.mono (S':=F3 (jb,jy)) λk _ c=>.inr (by rw[eD];exact c)).set jb 21 (V (O ⟨g9,0,I⟩) (ac+1) aA) (.inl rfl)
              have eX:Bo (w9.setCell ⟨jb,21,I⟩ (V (O ⟨g9,0,I⟩) (ac+1) aA)) (jy.part (z,0) g9 (ac+1) aA):=by
               have h1:=(h9.mod aL (λk hk e=>by
                subst e
                exact Bx h9.row aO.out ad9 hk)).row
               rw[Av,cB.out]at h1;exact h1
              have ex:Ba (w9.setCell ⟨jb,21,I⟩ (V (O ⟨g9,0,I⟩) (ac+1) aA)) jb (jy.part (z,0) g9 (ac+1) aA):=by unfold Ba;rw[Am aO.out];simp[aq.part]
              have h1:=bO.set bB.out hm ex eX (λb e=>by
               have e:(Value.slice (O ⟨g9,0,I⟩) (ac+1) aA).ownBlock=O b:=e;simp[Value.ownBlock]at e;subst e;rcases dE.out with c|c
               .exact .inl (by rw[eD];exact c)
               .exact .inr ao9) ⟨rfl,rfl,rfl,rfl⟩ (.inl ⟨rfl,rfl,rfl,rfl⟩)
              rw[P5]at h1;exact h1
             have eZ:(jy.part (z,0) g9 (ac+1) aA).pl=Kq d o l (q+1) j0.bare:=by show({ jy.pl with parts:=jy.pl.parts++[(z,0)] }:Jb)=_;rw[d9.out];unfold Kq;rw[Pl.Qy cd.out];simp
             case rel=>exact⟨q+1,_,by go_num,ao9,eN,eZ⟩
             case measure=>simp[intOf];omega
            .have eP:¬(q:Int)<m:=ao9;have d3:q=m:=ao9;have dB:=aT jy (by rw[d9.out,d3,dS.out]);replace⟨dB,d3⟩:=H2 dB d3;go_wp2_with fail;go_roundw
             case rel=>exact⟨i+1,_,by go_num,ao9,bN,dB⟩
             case measure=>simp[intOf];omega
          .have d1:=Bh.2 qs
           have dA:=aT (jx.slot r av m ap o) (by
            rw[Ay8 o _ qs];show({ jx.pl with start:=r,aj:=o }:Jb)=_;rw[bD.out]
            simp[Kq,Jb.bare])
           replace⟨dA,qs⟩:=H2 dA qs;go_upto_region 28 with fail;go_quiet (fail);have aK:=bM.drop (A6 _ W3 nq);replace aK:=Hh aK;go_wp2_with fail;go_roundw
           case rel=>exact⟨i+1,_,by go_num,ao9,aK,dA⟩
           case measure=>simp[intOf];omega
         .have ba:¬(i:Int)<bE:=ao9;have ct:=hX.out;have da:L.length=bE:=(by rw[<-bZ.out,As,cH.out]);rw[Dd (by rw[da];omega)]at ct;obtain⟨r0,r1,r2⟩:=C3 hP.res;(try dsimp only at r0 r1 r2);have fr:=Ag hP.res;have hD:=hP.done h.out (by rw[f.out]) (by rw[f.out]) (Z G 0) (Z G 0) (Z G 0);replace⟨ct,da,hD⟩:=H3 ct da hD;go_wp2_with fail;refine An (v:=Gu ⟨0,0,0,0⟩) (by simp[results,results83,go_sem,r0,r1,r2]) rfl ⟨⟨rfl,?_⟩,?_⟩
          .have hD:=hD.out;rw[f.out]at hD;refine⟨_,⟨hD.at_,rfl,rfl,rfl,rfl,rfl,hD.bh,hD.mod,hD.dy⟩,?_⟩;show(⟨T.ai,d,T.cls,T.nodes,aN.map λj=>j.2.pl⟩:dv)=_;rw[ct.out,hL.out,hY.out,bw.out];rfl
          .have:=d4.out;rw[bw.out]at this;exact this
def Azi {w:WD} {T:Tv} (xn:de) (bM:Option Addr) (xm xc:Nat) (d:List ax) (h:Al w T) (hA:Dn T.vs T.pl.ab) (hj:T.js.length<=100) (bL:∀W',Mod T.bh w W'->L8 W' bM xm d) (hm:xm<=1000) (h0:(Br T.vs T.js.length (d.map ax.pl)).2=0) :
  CS prog 82 #[K (O ⟨T.tb,0,I⟩),(⟨xn,bM,xm,xc,d⟩:dt).val] w (Pr w T (J0 T.vs T.pl (d.map ax.pl)).1 (J0 T.vs T.pl (d.map ax.pl)).2):=by
 obtain⟨iP,c5,dA,ca,cb⟩:=B6 Aze;have aD:=td.new w ⟨xn,bM,xm,xc,d⟩;obtain⟨W0,cU⟩:=Ex ((w.alloc (J (⟨xn,bM,xm,xc,d⟩:dt).cells 40 (0,0))).alloc (J #[Z G 0,Z G 0,Z G 0] 35 (0,0)));rw[<-cU]at aD;have c6:T.pl.ab.length=T.js.length:=by simp[Tv.pl]
 obtain⟨R,hR⟩:=Ex ((Br T.vs T.js.length (d.map ax.pl)).1);have bN:Br T.vs T.js.length (d.map ax.pl)=(R,0):=by rw[hR,<-h0]
 obtain⟨o1,o2,o3⟩:=Acu h0;have dJ:=Acp (by rw[<-o3];exact h0);rw[<-o3,<-hR]at dJ;obtain⟨r1,_,r3,_,r5⟩:=dJ;have bK:=(bL w (Mod.refl _ _)).len;have bO:R.length=xm:=by rw[r1,As,As,bK]
 have aR:∀l,l∈R->l.length<=1000:=λl hl=>by
  obtain⟨_,l0,ea,cy⟩:=r5 l hl;obtain⟨s,hs,rfl⟩:=A7.1 ea;obtain⟨_,_,_,q4,_⟩:=Fg (Io (o1 s hs));have:=R9 q4;omega
 have cB:∀s,s∈d->Cb s.pl=true:=λs hs=>Io (o1 _ (It hs));have a0:J0 T.vs T.pl (d.map ax.pl)=(T.pl.dx (Co (Eb ((d.map ax.pl).zip R) T.pl.ab)),⟨0,0,(T.js.length:Int)+1,((Eb ((d.map ax.pl).zip R) T.pl.ab).length:Int)⟩):=by unfold J0;rw[c6,bN]
 have bn:Dn T.vs (Co (Eb ((d.map ax.pl).zip R) T.pl.ab))/\(Co (Eb ((d.map ax.pl).zip R) T.pl.ab)).length<=100:=by have:=Aj7 (vs:=T.vs) (t:=T.pl) (l:=d.map ax.pl) hA (by rw[c6];exact h0);rw[a0]at this;exact this
 obtain⟨so,cap,cw,cy,b0,_⟩:=h.mr;have a4:=Azh (h.low aD.low) ao9 bM xm xc d (bL W0 (Mod.ag aD.low)) hm bN;have e9:=Bk aD.box 9 (V bM xm xc) rfl;have ci:=(Dv.refl h).low aD.low;obtain⟨N,hN⟩:=Ex (T.js.length);obtain⟨tb,ht⟩:=Ex (T.tb);have ec:IntKind.i64.wrap ((N:Int)+1)=(N:Int)+1:=Im ao9 ao9;have d2:N<=100:=ao9
 rw[<-ht]at a4;rw[<-ht];rw[a0];clear hR h0 c6;replace⟨h,hA,bL,hm,bN,o1,o2,o3⟩:=H8 h hA bL hm bN o1 o2 o3;replace⟨r1,r3,r5,bK,bO,aR,cB,a0⟩:=H8 r1 r3 r5 bK bO aR cB a0;replace⟨bn,cw,cy,b0,a4,aD,ci,hN⟩:=H8 bn cw cy b0 a4 aD ci hN;replace⟨ht,c5,dA,ca,cb,hj⟩:=H6 ht c5 dA ca cb hj;go_enter func82,ntmps82;go_upto_region 1 with fail;rw[<-cU];clear cU;go_upto_region 2 with(go_at_call 58;(with_reducible refine(a4.out).mono ?_);rintro e w1 ⟨g,s2,rfl,aU,aW⟩;replace⟨aU,aW⟩:=H2 aU aW);have bP:=ci.low aW.out;have c4:w1.cell? ⟨tb,4,I⟩=O (V so N cap):=by rw[ht.out,hN.out,<-cw.out];exact Aa bP.at_.head 4
 have dG:=(Af aW.out (Ac aD.box)).trans e9;have ds:=B4 (Ac aD.box) aW.size;clear e9;replace bP:=Hh bP;go_upto_region 3 with fail;obtain⟨W2,cj⟩:=Ex (w1.alloc (J #[Z G 0,Z G ((N:Int)+1),Z G 0] 35 (0,0)));obtain⟨rb,cG⟩:=Ex (w1.heap.size);have a7:BW w1.heap.size w1 W2:=by rw[cj];exact Bn
 have bD:W2.heap[rb]?=O (J #[Z G 0,Z G ((N:Int)+1),Z G 0] 35 (0,0)):=by rw[cj,cG];exact Ah _ _
 rw[<-cj,<-cG];have dR:w.heap.size<rb:=by rw[cG];exact ds
 clear cj cG;have e9:=(Af a7 ds).trans dG;have ce:pq w T rb W0.heap.size g R.length s2 R T.jv T.js W2:=⟨bP.low a7,Ae a7 (Ae aW.out aD.res (Ac aD.res)) (B4 (Ac aD.res) aW.size),by rw[<-hN.out];exact bD,aU.low a7,λj hj=>⟨λc k o e=>by have:=La (h.ok j hj).after.row c e;omega,λc k o e=>by have:=La (h.ok j hj).aj.row c e;omega⟩,G6.refl _ _⟩;have cn:T.js.map (λj=>j.2.pl)=Eb (((d.map ax.pl).zip R).take 0) T.pl.ab:=rfl;clear dG c4 ds;replace⟨a7,bD,ce,cn⟩:=H4 a7 bD ce cn;go_wp2_with fail;clear e9;go_loopw [8,9,11,12,13,32,40] (λ_ _ _ _ _ iv _ wr=>∃(i:Nat) (jv:VL) (js:List (Nat×aq)),iv=Z G i/\i<=xm/\Hid (pq w T rb W0.heap.size g R.length s2 R jv js wr)/\Hid (js.map (λj=>j.2.pl)=Eb (((d.map ax.pl).zip R).take i) T.pl.ab)/\Hid (js.length<=N+20*i)) (λ_ _ _ _ _ iv _ _=>xm-(intOf iv).toNat)
 case atStart=>exact⟨0,T.jv,T.js,rfl,Ar _,ce,cn,Hh (by have:=hN.out;omega)⟩
 case round=>
  obtain⟨i,jv,js,rfl,d6,hL,hX,cP⟩:=hrel;by_cases hc:i<xm
  .have dI:(i:Int)<xm:=ao9;have d5:(0:Int)<=(i:Int):=ao9;obtain⟨sp,hx⟩:=Ge d i (by have:=bK.out;omega);have cI:=bL wr hL.sub.mod;obtain⟨b,aG,rfl,c9,av,bJ⟩:=cI.cell i sp hx;have b4:=cB sp (Ai hx);obtain⟨row,ak⟩:=Ge R i (by have:=bO.out;omega);have b7:((d.map ax.pl).zip R).take (i+1)=((d.map ax.pl).zip R).take i++[(sp.pl,row)]:=Lw (by rw[List.getElem?_zip_eq_some];exact⟨by rw[Bm,hx];rfl,ak⟩);have aT:=aR row (Ai ak);have bU:=λW (hb:BW wr.heap.size wr W)=>Azg (bJ.low hb) b4;have cK:=bJ.user;have cE:=bJ.part;obtain⟨bg,aK⟩:=Ex (sp.pl.array.toNat);rw[<-aK]at bU;have bI:bg<=20:=(by obtain⟨_,_,_,_,_,_,_,q8,_⟩:=Fg b4;obtain⟨b1,b2⟩:=C8.1 q8;omega);obtain⟨S0,aH⟩:=Ex (sp.pl);rw[<-aH]at b7 aK;have ct:i<R.length:=(by have:=bO.out;omega);have dK:(i:Int)<(R.length:Int):=ao9;obtain⟨⟨x,p,nodes,⟨da,db,dc,dd⟩,z,r,array,ae,f,after⟩,dD,sn,dC⟩:=sp;replace aH:S0=⟨x,p,nodes,⟨da,db,dc,dd⟩,z,r,array,ae,f,after⟩:=aH;have z0:wr.cell? ⟨b,aG+i*13,I⟩=O (E x):=av 0 ao9;have z1:wr.cell? ⟨b,aG+i*13+1,I⟩=O (E p):=av 1 ao9;have z2:wr.cell? ⟨b,aG+i*13+2,I⟩=O (Z G nodes):=av 2 ao9;have z3:wr.cell? ⟨b,aG+i*13+3,I⟩=O (Z G da):=av 3 ao9;have z4:wr.cell? ⟨b,aG+i*13+4,I⟩=O (Z G db):=av 4 ao9;have z5:wr.cell? ⟨b,aG+i*13+5,I⟩=O (Z G dc):=av 5 ao9;have z6:wr.cell? ⟨b,aG+i*13+6,I⟩=O (Z G dd):=av 6 ao9;have z7:wr.cell? ⟨b,aG+i*13+7,I⟩=O (Z G z):=av 7 ao9;have z8:wr.cell? ⟨b,aG+i*13+8,I⟩=O (Z G r):=av 8 ao9;have z9:wr.cell? ⟨b,aG+i*13+9,I⟩=O (Z G array):=av 9 ao9;have er:wr.cell? ⟨b,aG+i*13+10,I⟩=O (Z G ae):=av 10 ao9;have es:wr.cell? ⟨b,aG+i*13+11,I⟩=O (Y f):=av 11 ao9;have et:wr.cell? ⟨b,aG+i*13+12,I⟩=O (V dD sn dC):=av 12 ao9;replace⟨hx,cI,c9,av,bJ,b4,ak,b7⟩:=H8 hx cI c9 av bJ b4 ak b7;replace⟨aT,bU,cK,cE,aK,bI,aH,ct⟩:=H8 aT bU cK cE aK bI aH ct;go_upto_region 6 with fail;clear z0 z1 z2 z3 z4 z5 z6 z7 z8 z9 er es et;obtain⟨nb,dg⟩:=Ex (wr.heap.size);obtain⟨W3,ck⟩:=Ex (wr.alloc (J (⟨⟨x,p,nodes,⟨da,db,dc,dd⟩,z,r,array,ae,f,after⟩,dD,sn,dC⟩:ax).cells 33 (0,0)));have bR:BW wr.heap.size wr W3:=(by rw[ck];exact Bn);have cL:W3.heap[nb]?=O (J (⟨⟨x,p,nodes,⟨da,db,dc,dd⟩,z,r,array,ae,f,after⟩,dD,sn,dC⟩:ax).cells 33 (0,0)):=(by rw[ck,dg];exact Ah _ _);rw[<-ck,<-dg];clear ck dg;obtain⟨x0,x1,x2,x3,x4,x5,x6,x7,x8,x9,dY,dZ,d0⟩:=C13 cL;(try dsimp only at x0 x1 x2 x3 x4 x5 x6 x7 x8 x9 dY dZ d0);have bl:=bU W3 bR;replace⟨bR,cL,bl⟩:=H3 bR cL bl;go_wp2_with (go_at_call 128;(with_reducible refine(bl.out).mono ?_);rintro e w4 ⟨g2,ep,c2,rfl,cx,aX,cF,aS,cp⟩;replace⟨cx,aX,cF,aS,cp⟩:=H5 cx aX cF aS cp);clear x0 x1 x2 x3 x4 x5 x6 x7 x8 x9 dY dZ d0;have cf:=(hL.low bR.out).low cp.out;have co:js.map (λj=>j.2.pl)=Fm S0 row (js.map λj=>j.2.pl) 0:=rfl;replace⟨cf,co⟩:=H2 cf co;go_loopw [11,12,13,40] (λ_ _ _ kv wr=>∃(k:Nat) (jv:VL) (aB:List (Nat×aq)),kv=Z G k/\k<=bg/\Hid (pq w T rb W0.heap.size g R.length s2 R jv aB wr)/\Hid (aB.map (λj=>j.2.pl)=Fm S0 row (js.map λj=>j.2.pl) k)/\Hid (wr.heap[g2]?=O (J c2 33 (0,0)))/\Hid (aB.length<=N+20*i+k)) (λ_ _ _ kv _=>bg-(intOf kv).toNat)
   case atStart=>exact⟨0,jv,js,rfl,Ar _,cf,co,aX,cP⟩
   case round=>
    obtain⟨k,dS,aB,rfl,d9,hL,hY,aX,bv⟩:=hrel;by_cases d3:k<bg
    .have cN:(k:Int)<bg:=ao9;have d8:(0:Int)<=(k:Int):=ao9;obtain⟨y,hy⟩:=Ge ep k (by have:=cx.out;have:=aK.out;rw[aH.out]at this;omega);have dw:=aS k y hy
     have aA:∀o,o<13->wr.cell? ⟨g2,k*13+o,I⟩=y.cells[o]?:=λo ho=>by rw[Aa aX.out];exact cF.done k y hy o ho
     obtain⟨eq,dE,yn,yc⟩:=y;replace dw:eq=⟨x,p,nodes,⟨da,db,dc,dd⟩,z,r,1,ae,f,after⟩:=dw;subst dw;have v0:wr.cell? ⟨g2,k*13,I⟩=O (E x):=aA 0 ao9;have v1:wr.cell? ⟨g2,k*13+1,I⟩=O (E p):=aA 1 ao9;have v2:wr.cell? ⟨g2,k*13+2,I⟩=O (Z G nodes):=aA 2 ao9;have v3:wr.cell? ⟨g2,k*13+3,I⟩=O (Z G da):=aA 3 ao9;have v4:wr.cell? ⟨g2,k*13+4,I⟩=O (Z G db):=aA 4 ao9;have v5:wr.cell? ⟨g2,k*13+5,I⟩=O (Z G dc):=aA 5 ao9;have v6:wr.cell? ⟨g2,k*13+6,I⟩=O (Z G dd):=aA 6 ao9;have v7:wr.cell? ⟨g2,k*13+7,I⟩=O (Z G z):=aA 7 ao9;have v8:wr.cell? ⟨g2,k*13+8,I⟩=O (Z G r):=aA 8 ao9;have v9:wr.cell? ⟨g2,k*13+9,I⟩=O (Z G 1):=aA 9 ao9;have dV:wr.cell? ⟨g2,k*13+10,I⟩=O (Z G ae):=aA 10 ao9;have dW:wr.cell? ⟨g2,k*13+11,I⟩=O (Y f):=aA 11 ao9;have dX:wr.cell? ⟨g2,k*13+12,I⟩=O (V dE yn yc):=aA 12 ao9;replace⟨hy,aA⟩:=H2 hy aA;go_upto_block 3 with fail;go_cut [11,12,13] (λ_ _ _ wx=>yw w T rb W0.heap.size g R.length s2 R (Fm S0 row (js.map λj=>j.2.pl) (k+1)) (N+20*i+(k+1)) g2 c2 wx)
     case first=>
      go_upto_region 9 with fail;clear v0 v1 v2 v3 v4 v5 v6 v7 v8 v9 dV dW dX;obtain⟨ob,dl⟩:=Ex (wr.heap.size);obtain⟨W5,cl⟩:=Ex (wr.alloc (J (⟨⟨x,p,nodes,⟨da,db,dc,dd⟩,z,r,1,ae,f,after⟩,dE,yn,yc⟩:ax).cells 33 (0,0)));have a8:BW wr.heap.size wr W5:=(by rw[cl];exact Bn);have b8:W5.heap[ob]?=O (J (⟨⟨x,p,nodes,⟨da,db,dc,dd⟩,z,r,1,ae,f,after⟩,dE,yn,yc⟩:ax).cells 33 (0,0)):=(by rw[cl,dl];exact Ah _ _);rw[<-cl,<-dl];have bC:wr.heap.size<=ob:=ao9;clear cl dl;have cg:=hL.low a8;obtain⟨em,rn,rc,rl,e1,e2,e3,e4,e5⟩:=cg.rows.get ct.out;rw[ak.out]at e2;injection e2 with e2;subst e2;obtain⟨_,_,_,e6,e7,e8,_⟩:=Ob e5;injection e6 with a1 a2 a3;subst a1 a2 a3;have cH:rn<=1000:=(by have:=aT.out;omega);have cM:=Yx em rn rc row W5 e8 cH;have dQ:=Ac b8;replace⟨a8,b8,cg,bC,e1,e3,e5,e7⟩:=H8 a8 b8 cg bC e1 e3 e5 e7;replace⟨e8,cH,cM⟩:=H3 e8 cH cM;go_upto_region 10 with(go_at_call 87;(with_reducible refine(cM.out).mono ?_);rintro e w6 ⟨ao,nc,rfl,cC,cD,bH,bS⟩;have be:=Ae bS b8.out dQ;have dT:=Aa be 12;have of:=Ag be;simp at dT;replace⟨cC,cD,bH,bS,be⟩:=H5 cC cD bH bS be);obtain⟨W7,bQ⟩:=Ex (w6.setCell ⟨ob,12,I⟩ (V ao rn nc));have bf:W7.heap[ob]?=O (J (⟨⟨x,p,nodes,⟨da,db,dc,dd⟩,z,r,1,ae,f,after⟩,ao,rn,nc⟩:ax).cells 33 (0,0)):=(by rw[bQ];have:=Am be.out 12 (V ao rn nc);simpa using this);have bZ:Mod (λk=>k=ob) w6 W7:=(by rw[bQ];exact Mod.setCell (S:=λk=>k=ob) w6 ob 12 (V ao rn nc) rfl);have bG:BW wr.heap.size wr W7:=by rw[bQ];exact Db (a8.trans (bS.mono a8.size)) bC.out
      have aY:∀q o,ao=O ⟨q,o,I⟩->q≠ob:=λq o e c=>by
       obtain⟨_,_,_,cc,hc⟩:=bH q o e;rw[c,be.out]at hc;injection hc with hc;injection hc with _ hc;exact absurd hc ad9
      have bA:=Ak9 cD.out bZ aY
      have bx:∀q o,ao=O ⟨q,o,I⟩->∃cc,W7.heap[q]?=O (J cc 3 (0,0)):=λq o e=>by
       obtain⟨_,_,_,cc,hc⟩:=bH q o e;exact⟨cc,bZ.ar hc (aY q o e)⟩
      rw[<-bQ];have ch:=hL.low bG;have ej:=Bk bf 10 (Z G ae) rfl;have ek:=Bk bf 11 (Y f) rfl;have cd:=Ap5 ae f W7;obtain⟨⟨gj,am,af,lw,al⟩,bY⟩:∃l,l=(J9 ae f).1:=⟨_,rfl⟩;obtain⟨eA,bw⟩:=Ex ((J9 ae f).2);rw[<-bY,<-bw]at cd;clear bQ dT of;replace⟨bf,bZ,bG,aY,bA,bx,ch,cd⟩:=H8 bf bZ bG aY bA bx ch cd;replace⟨bY,bw⟩:=H2 bY bw;go_upto_region 11 with(go_at_call 129;(with_reducible refine(cd.out).mono ?_);rintro e w8 ⟨rfl,bT⟩;replace bT:=Hh bT);obtain⟨W9,cm⟩:=Ex (w8.alloc (J #[Z G gj,Z G am,Z G af,Y lw,Y al] 43 (0,0)));obtain⟨lb,c8⟩:=Ex (w8.heap.size);have cr:BW w8.heap.size w8 W9:=(by rw[cm];exact Bn);have bX:W9.heap[lb]?=O (J #[Z G gj,Z G am,Z G af,Y lw,Y al] 43 (0,0)):=(by rw[cm,c8];exact Ah _ _);rw[<-cm,<-c8];clear cm c8 ej ek;have aI:=bT.trans (cr.mono bT.size);have b9:=Ae aI bf.out (Ac bf.out);have aE:=ch.low aI;have bB:=bA.low aI
      have aZ:∀q o,ao=O ⟨q,o,I⟩->∃cc,W9.heap[q]?=O (J cc 3 (0,0)):=λq o e=>by
       obtain⟨cc,hc⟩:=bx q o e;exact⟨cc,Ae aI hc (Ac hc)⟩
      have bo:=Ae (bG.trans (aI.mono bG.size)) aX.out (Ac aX.out);obtain⟨an,ad,aJ,bW,bb,_⟩:=aE.sub.at_.mr;obtain⟨n2,aF⟩:=Ex (aB.length);replace aJ:dS=V an n2 ad:=(by rw[aF];exact aJ);subst aJ;have b5:n2<=30000:=(by have:=bv.out;have:=hm.out;have:=bI.out;omega);have ez:IntKind.i64.wrap ((n2:Int)+1)=(n2:Int)+1:=Im ao9 ao9;have cR:=Gh (n:=n2) ao9;have c0:(n2+1)*8<=140737488355328:=ao9;have m:=aE.sub.at_.head;replace m:W9.heap[tb]?=O (J #[Z G T.ai,Z G T.tick,.map (O T.mb),T.nv,V an n2 ad,K (O ⟨T.fb,0,I⟩),T.cv] 115 (0,0)):=(by rw[ht.out];exact m);have ap:W9.ownsRow 0 125 1 (V an n2 ad) n2 (aB.map λj=>K (O ⟨j.1,0,I⟩)):=by rw[aF];rw[aF]at aE;exact aE.sub.at_.ab
      have dH:∀W':WD,Mod (λk=>k=tb\/(Value.slice an n2 ad).ownBlock=O k) W9 W'->W'.cell? ⟨ob,0,I⟩=O (E x)/\W'.cell? ⟨ob,1,I⟩=O (E p)/\W'.cell? ⟨ob,2,I⟩=O (Z G nodes)/\W'.cell? ⟨ob,3,I⟩=O (Z G da)/\W'.cell? ⟨ob,4,I⟩=O (Z G db)/\W'.cell? ⟨ob,5,I⟩=O (Z G dc)/\W'.cell? ⟨ob,6,I⟩=O (Z G dd)/\W'.cell? ⟨ob,7,I⟩=O (Z G z)/\W'.cell? ⟨ob,8,I⟩=O (Z G r)/\W'.cell? ⟨ob,9,I⟩=O (Z G 1)/\W'.cell? ⟨ob,10,I⟩=O (Z G ae)/\W'.cell? ⟨ob,11,I⟩=O (Y f)/\W'.cell? ⟨ob,12,I⟩=O (V ao rn nc)/\W'.cell? ⟨lb,0,I⟩=O (Z G gj)/\W'.cell? ⟨lb,1,I⟩=O (Z G am)/\W'.cell? ⟨lb,2,I⟩=O (Z G af)/\W'.cell? ⟨lb,3,I⟩=O (Y lw)/\W'.cell? ⟨lb,4,I⟩=O (Y al):=λW' hm=>by
       have nt:∀ {q:Nat} {c:Array VL} {Ty:TypeId},W9.heap[q]?=O (J c Ty (0,0))->Ty≠115->Ty≠125->¬(q=tb\/(Value.slice an n2 ad).ownBlock=O q):=λhq h1 h2 e=>by
        rcases e with e|e
        .rw [e,m]at hq;injection hq with hq;injection hq with _ hq;exact h1 hq.symm
        .exact Bx ap hq (λe=>h2 e.symm) e
       have z2:=hm.ar b9 (nt b9 ad9 ad9);have z3:=hm.ar bX (nt bX ad9 ad9);exact⟨Aa z2 0,Aa z2 1,Aa z2 2,Aa z2 3,Aa z2 4,Aa z2 5,Aa z2 6,Aa z2 7,Aa z2 8,Aa z2 9,Aa z2 10,Aa z2 11,Aa z2 12,Aa z3 0,Aa z3 1,Aa z3 2,Aa z3 3,Aa z3 4⟩
      obtain⟨p0,p1,p2,p3,p4,p5,p6,p7,p8,p9,eB,eC,eD,q0,q1,q2,q3,q4⟩:=dH W9 (Mod.refl _ _);have dF:=Bk m 4 (V an n2 ad) rfl;have cQ:=Ac m;have bE:BW W9.heap.size W9 (W9.alloc (J #[Z G ((n2:Int)+1),E x,E p,Z G nodes,Z G da,Z G db,Z G dc,Z G dd,Z G z,Z G r,Z G 1,Z G ae,Y f,V ao rn nc,Z G gj,Z G am,Z G af,Y lw,Y al,Z G (-1),V I 0 0,V I 0 0] 46)):=Bn;have aV:BW W9.heap.size W9 ((W9.alloc (J #[Z G ((n2:Int)+1),E x,E p,Z G nodes,Z G da,Z G db,Z G dc,Z G dd,Z G z,Z G r,Z G 1,Z G ae,Y f,V ao rn nc,Z G gj,Z G am,Z G af,Y lw,Y al,Z G (-1),V I 0 0,V I 0 0] 46)).alloc (J #[K (O ⟨W9.heap.size,0,I⟩)] 125)):=bE.alloc bE.size _;have ew:=(Af bE cQ).trans dF;have ex:=(Af aV cQ).trans dF;have bs:((W9.alloc (J #[Z G ((n2:Int)+1),E x,E p,Z G nodes,Z G da,Z G db,Z G dc,Z G dd,Z G z,Z G r,Z G 1,Z G ae,Y f,V ao rn nc,Z G gj,Z G am,Z G af,Y lw,Y al,Z G (-1),V I 0 0,V I 0 0] 46)).alloc (J #[K (O ⟨W9.heap.size,0,I⟩)] 125)).heap[W9.heap.size]?=O (J #[Z G ((n2:Int)+1),E x,E p,Z G nodes,Z G da,Z G db,Z G dc,Z G dd,Z G z,Z G r,Z G 1,Z G ae,Y f,V ao rn nc,Z G gj,Z G am,Z G af,Y lw,Y al,Z G (-1),V I 0 0,V I 0 0] 46 (0,0)):=Ak _ (Ah _ _);have b6:((W9.alloc (J #[Z G ((n2:Int)+1),E x,E p,Z G nodes,Z G da,Z G db,Z G dc,Z G dd,Z G z,Z G r,Z G 1,Z G ae,Y f,V ao rn nc,Z G gj,Z G am,Z G af,Y lw,Y al,Z G (-1),V I 0 0,V I 0 0] 46)).alloc (J #[K (O ⟨W9.heap.size,0,I⟩)] 125)).heap[W9.heap.size+1]?=O (J #[K (O ⟨W9.heap.size,0,I⟩)] 125 (0,0)):=A2 _ _ as9
      have bi:Fm S0 row (js.map λj=>j.2.pl) (k+1)=aB.map (λj=>j.2.pl)++[(⟨⟨(n2:Int)+1,⟨x,p,nodes,⟨da,db,dc,dd⟩,z,r,1,ae,f,row⟩,⟨gj,am,af,lw,al⟩,-1,[],[]⟩,ao,rn,nc,I,0,0,I,0,0⟩:aq).pl]:=by
       show Fm S0 row (js.map λj=>j.2.pl) k++[_]=_;rw[<-hY.out];congr 2;have dN:=Ca List.length hY.out;rw[U9,As,As]at dN;unfold Mb;rw[aH.out];show Jb.mk _ _ _ _ _ _=Jb.mk _ _ _ _ _ _;congr 1
       .rw [As,aF];push_cast;omega
       .exact bY.symm
      have ba:∀(g9 aC:Nat) (w9:WD),w9.ownsRow 0 125 1 (V (O ⟨g9,0,I⟩) (n2+1) aC) (n2+1) ((aB.map λj=>K (O ⟨j.1,0,I⟩))++[K (O ⟨W9.heap.size,0,I⟩)])->((W9.alloc (J #[Z G ((n2:Int)+1),E x,E p,Z G nodes,Z G da,Z G db,Z G dc,Z G dd,Z G z,Z G r,Z G 1,Z G ae,Y f,V ao rn nc,Z G gj,Z G am,Z G af,Y lw,Y al,Z G (-1),V I 0 0,V I 0 0] 46)).alloc (J #[K (O ⟨W9.heap.size,0,I⟩)] 125)).grownBy w9 (Value.slice an n2 ad).ownBlock->((Value.slice an n2 ad).ownBlock=O g9\/g9=W9.heap.size+2) ->
        yw w T rb W0.heap.size g R.length s2 R (Fm S0 row (js.map λj=>j.2.pl) (k+1)) (N+20*i+(k+1)) g2 c2 (w9.setCell ⟨tb,4,I⟩ (V (O ⟨g9,0,I⟩) (n2+1) aC)):=λg9 aC w9 aL ac bk=>by
       have dM:=λq hq=>(ap.lt q hq).2;have b3:Mod (λq=>(Value.slice an n2 ad).ownBlock=O q) W9 w9:=(Mod.ag aV).trans (Mod.grown ac (λq hq=>hq));have aQ:=b3.ar m (Bx ap m ad9);have cA:Mod (λq=>q=T.tb\/(Value.slice an n2 ad).ownBlock=O q) W9 (w9.setCell ⟨tb,4,I⟩ (V (O ⟨g9,0,I⟩) (n2+1) aC)):=(b3.mono λq _ e=>.inr e).set tb 4 _ (.inl ht.out);have d4:=Am aQ 4 (V (O ⟨g9,0,I⟩) (n2+1) aC);have d7:w9.heap[W9.heap.size]?=O (J (⟨⟨(n2:Int)+1,⟨x,p,nodes,⟨da,db,dc,dd⟩,z,r,1,ae,f,row⟩,⟨gj,am,af,lw,al⟩,-1,[],[]⟩,ao,rn,nc,I,0,0,I,0,0⟩:aq).cells 46 (0,0)):=(ac.block _ (by simp;omega) (λe=>by have:=dM _ e.symm;omega)).trans bs;have dL:Ba (w9.setCell ⟨tb,4,I⟩ (V (O ⟨g9,0,I⟩) (n2+1) aC)) W9.heap.size (⟨⟨(n2:Int)+1,⟨x,p,nodes,⟨da,db,dc,dd⟩,z,r,1,ae,f,row⟩,⟨gj,am,af,lw,al⟩,-1,[],[]⟩,ao,rn,nc,I,0,0,I,0,0⟩:aq):=(Mod.setCell (S:=λq=>q=tb) w9 tb 4 _ rfl).ar d7 ao9
       have eb:=A8 aL (Mod.setCell (S:=λq=>q=tb) w9 tb 4 (V (O ⟨g9,0,I⟩) (n2+1) aC) rfl) (λq hq e=>by
        subst e
        exact Bx aL aQ ad9 hq)
       have dP:∀q o,ao=O ⟨q,o,I⟩->¬(q=T.tb\/(Value.slice an n2 ad).ownBlock=O q):=λq o e c=>by
        obtain⟨cc,hc⟩:=aZ q o e;rcases c with c|c
        .rw [c,<-ht.out,m]at hc;injection hc with hc;injection hc with _ hc;exact absurd hc ad9
        .exact Bx ap hc ad9 c
       have dk:=Ak9 bB cA dP;refine⟨⟨_,aB++[(W9.heap.size,(⟨⟨(n2:Int)+1,⟨x,p,nodes,⟨da,db,dc,dd⟩,z,r,1,ae,f,row⟩,⟨gj,am,af,lw,al⟩,-1,[],[]⟩,ao,rn,nc,I,0,0,I,0,0⟩:aq))],aE.add cA (by rw[<-ht.out];simpa using d4) (by rw[<-aF];exact eb) (λq hq=>?_) Ln dL ⟨rfl,rfl,rfl,rfl⟩ ⟨rfl,rfl,rfl,rfl⟩ dk (λq o e=>?_) cC.out cK.out cE.out (λq o e=>by obtain⟨_,h5,_⟩:=bH q o e;have h6:=a8.size;have h7:=hL.sub.mod.size;omega),?_,?_⟩,?_⟩
       .simp [Value.ownBlock]at hq;subst hq;rcases bk with e|e
        .exact .inl e
        .exact .inr ao9
       .obtain ⟨cc,hc⟩:=aZ q o e;exact⟨cc,cA.ar hc (dP q o e)⟩
       .rw [bi,Dw];rfl
       .rw [Av];have:=bv.out;simp;omega
       .exact aE.sub.stay cA bo ad9 ad9
      clear dH;replace⟨cr,bX,aI,b9,aE,bB,aZ,bo⟩:=H8 cr bX aI b9 aE bB aZ bo;replace⟨bW,bb,aF,b5,cR,c0,m,ap⟩:=H8 bW bb aF b5 cR c0 m ap;replace⟨bE,aV,bs,b6,bi,ba⟩:=H6 bE aV bs b6 bi ba
      try clear h
      try clear hA
      try clear bL
      try clear bN
      try clear o1
      try clear o2
      try clear o3
      try clear r1
      try clear r3
      try clear r5
      try clear bK
      try clear bO
      try clear aR
      try clear cB
      try clear a0
      try clear bn
      try clear cw
      try clear cy
      try clear b0
      try clear a4
      try clear aD
      try clear ci
      try clear hj
      try clear aW
      try clear aU
      try clear bP
      try clear a7
      try clear bD
      try clear ce
      try clear cn
      try clear hX
      try clear cP
      try clear hx
      try clear cI
      try clear c9
      try clear av
      try clear bJ
      try clear b4
      try clear ak
      try clear b7
      try clear aT
      try clear bU
      try clear cK
      try clear cE
      try clear aK
      try clear aH
      try clear ct
      try clear bR
      try clear cL
      try clear bl
      try clear cx
      try clear aX
      try clear cF
      try clear aS
      try clear cp
      try clear cf
      try clear co
      try clear hL
      try clear hY
      try clear bv
      try clear hy
      try clear aA
      try clear a8
      try clear b8
      try clear cg
      try clear bC
      try clear e1
      try clear e3
      try clear e5
      try clear e7
      try clear e8
      try clear cH
      try clear cM
      try clear cC
      try clear cD
      try clear bH
      try clear bS
      try clear be
      try clear bf
      try clear bZ
      try clear bG
      try clear aY
      try clear bA
      try clear bx
      try clear ch
      try clear cd
      try clear bY
      try clear bw
      try clear bT
      try clear cr
      try clear bX
      try clear aI
      try clear b9
      try clear aE
      try clear bB
      try clear aZ
      try clear bo
      try clear bW
      try clear bb
      try clear aF
      try clear b5
      try clear bE
      try clear bs
      try clear bi
      try clear hN
      try clear hm
      try clear hc
      try clear dI
      try clear d5
      try clear dK
      try clear d3
      try clear cN
      try clear d8
      try clear d9
      try clear d6
      try clear bI
      try clear ec
      try clear d2
      try clear e4
      go_region_law (first
       | (refine step_append_lies _ (by rfl) _ _ _ (by rfl) 0 125 iP _ 1 8 underlying110 c5.out dA.out ca.out cb.out rfl (Iw _) (V an n2 ad) n2 (aB.map λj=>K (O ⟨j.1,0,I⟩)) (by rfl) (A8 ap.out (Mod.ag (S:=λ_=>False) (by first|exact aV.out|exact aV.drew)) (λ_ _ c=>c)) ⟨W9.heap.size+1,0,I⟩ 1 1 [K (O ⟨W9.heap.size,0,I⟩)] (by rfl) (by rfl) (World.news_of_block (cs:=#[K (O ⟨W9.heap.size,0,I⟩)]) (t:=125) (fr:=(0,0)) b6.out) (by intro u hu;simp at hu;subst hu;rfl) ao9 cR.out c0.out (Ar _) (W9.heap.size+2) as9 ?_;intro g9 aC w9 aL ac bk dO;have bV:_:=ba g9 aC w9 aL (by first|exact ac|exact⟨ac.os,ac.tape,ac.output,ac.size,ac.block⟩) bk;have b3:=(Mod.ag (S:=λk=>(Value.slice an n2 ad).ownBlock=O k) (by first|exact aV.out|exact aV.drew)).trans (Mod.grown ac (λk hk=>hk));have aQ:=b3.ar m.out (Bx ap.out m.out ad9);have d1:=Aa aQ 4;have eu:=Ag aQ 4;simp at d1;replace bV:=Hh bV
          clear b3 aQ aL ac bk dO))
      all_goals
       go_wp2_with fail;go_meet
       case rel=>exact bV.out
     case rest=>
     obtain⟨⟨eg,ef,aE,cY,bc⟩,c3⟩:=hcut;clear v0 v1 v2 v3 v4 v5 v6 v7 v8 v9 dV dW dX;have ev:=bI.out;replace⟨aE,cY,bc,c3⟩:=H4 aE cY bc c3;go_wp2_with fail;go_roundw
     case rel=>exact⟨k+1,eg,ef,by go_num,ao9,aE,cY,c3,bc⟩
     case measure=>simp[intOf];omega
    .have cN:¬(k:Int)<bg:=ao9;have c7:k=bg:=ao9;have cW:aB.map (λj=>j.2.pl)=Eb (((d.map ax.pl).zip R).take (i+1)) T.pl.ab:=(by rw[b7.out,Aw1,hY.out,hX.out,c7,aK.out]);have bc:aB.length<=N+20*(i+1):=(by have:=bv.out;have:=bI.out;omega);have ey:=hm.out;replace⟨cW,bc,c7⟩:=H3 cW bc c7;go_wp2_with fail;go_roundw
     case rel=>exact⟨i+1,dS,aB,by go_num,ao9,hL,cW,bc⟩
     case measure=>simp[intOf];omega
  .have dI:¬(i:Int)<xm:=ao9;have dB:((d.map ax.pl).zip R).length<=i:=(by rw[List.length_zip,As];have:=bK.out;omega);have a6:=hX.out;rw[Dd dB]at a6;obtain⟨X,bF⟩:=Ex (Eb ((d.map ax.pl).zip R) T.pl.ab);rw[<-bF]at a6;have cZ:D3 X:=(by rw[bF];exact bn.1.uy);obtain⟨an,ad,aJ,_,cO,_⟩:=hL.sub.at_.mr;obtain⟨n2,aF⟩:=Ex (js.length);replace aJ:jv=V an n2 ad:=(by rw[aF];exact aJ);subst aJ;have cX:X.length=n2:=(by rw[<-a6,As,aF]);have m:=hL.sub.at_.head;have z4:wr.cell? ⟨tb,4,I⟩=O (V an n2 ad):=(by rw[ht.out];exact Aa m 4);have zr:=Aa hL.rep 2;have zf:=Ag hL.rep 2;simp at zr;have cJ:=Ac h.head;have a5:=hL.ym cJ (Rs dR) (Z G (n2:Int));have aM:=Am hL.rep 2 (Z G (n2:Int))
   have aO:=(Mod.setCell (S:=λk=>k=rb) wr rb 2 (Z G (n2:Int)) rfl).ar hL.res (λe=>by
    have:=hL.res;rw[e,hL.rep]at this;injection this with this;injection this with this _;have:=Ca (λa=>a[1]?) this;simp at this
    omega)
   replace⟨dB,a6,bF,cZ,cO,aF,cX,m⟩:=H8 dB a6 bF cZ cO aF cX m;replace⟨cJ,a5,aM,aO⟩:=H4 cJ a5 aM aO;go_upto_region 15 with fail;obtain⟨W1,cV⟩:=Ex (wr.setCell ⟨rb,2,I⟩ (Z G (n2:Int)));rw[<-cV]at a5 aM aO;rw[<-cV];clear cV z4 zr zf
   have c1:CS prog 130 #[K (O ⟨tb,0,I⟩)] W1 (Ki W1 { T with jv:=V an n2 ad,js:=js } (Co X)):=by
    have:=X3 (T:={ T with jv:=V an n2 ad,js:=js }) a5.at_ (by
     show D3 (js.map λj=>j.2.pl)
     rw[a6.out];exact cZ.out)
    rw[show({ T with jv:=V an n2 ad,js:=js }:Tv).pl.ab=X from a6.out]at this;rw[ht.out];exact this
   replace c1:=Hh c1;go_upto_region 16 with(go_at_call 130;(with_reducible refine(c1.out).mono ?_);rintro e w5 ⟨rfl,aB,bd,dr⟩;replace⟨bd,dr⟩:=H2 bd dr)
   have cS:=a5.then bd.out
   have aN:=bd.mod.ar (by simpa using aM.out) (a5.at_.off aM.out ad9 ad9 ad9 ad9 ad9);have aP:=bd.mod.ar aO.out (a5.at_.off aO.out ad9 ad9 ad9 ad9 ad9);have q0:w5.cell? ⟨rb,0,I⟩=O (Z G 0):=(by have:=Aa aN 0;simpa using this);have q1:w5.cell? ⟨rb,1,I⟩=O (Z G ((N:Int)+1)):=(by rw[hN.out];have:=Aa aN 1;simpa using this);have q2:w5.cell? ⟨rb,2,I⟩=O (Z G (n2:Int)):=(by have:=Aa aN 2;simpa using this);obtain⟨r0,dU,r2⟩:=C3 aP;(try dsimp only at r0 dU r2);have fr:=Ag aP;have a9:=Azf (n:=w.heap.size+1) bd.out (λj hj=>⟨λc k o e=>((hL.dy j hj).1 c k o e).2,λc k o e=>((hL.dy j hj).2 c k o e).2⟩);have cT:=cS.qk cJ.out aP a9 (Z G 0) (Z G ((N:Int)+1)) (Z G (n2:Int));replace⟨cS,aN,aP,a9,cT⟩:=H5 cS aN aP a9 cT;go_wp2_with fail;refine An (v:=Gu ⟨0,0,(N:Int)+1,(n2:Int)⟩) (by simp[results,results82,go_sem,r0,dU,r2]) rfl ⟨?_,_,cT.iz (hL.stays.trans (bd.stays (w:=w)) Ln),?_⟩
   .rw [<-hN.out,<-bF.out,cX.out]
   .show (⟨T.ai,T.tick,T.cls,T.nodes,aB.map λj=>j.2.pl⟩:dv)=_;rw[dr.out,<-bF.out];rfl
def Azn {w:WD} {T:Tv} (x:dt) (h:Al w T) (hx:x.ok w) (hj:T.js.length<=1000000) (hr:Ed T.vs T.pl x.pl=0)
  (aI:((eo T.vs T.pl x.pl).1).cls.length<=1000) (R:Prop)
  (u:∀W,BW w.heap.size w W->CS prog (Nu x.n.kind) #[K (O ⟨T.tb,0,I⟩),x.val] W (λe w'=>Pr W T (eo T.vs T.pl x.pl).1 (eo T.vs T.pl x.pl).2 e w'/\R)) :
  CS prog 15 #[K (O ⟨T.tb,0,I⟩),x.val] w (λe w'=>Ac7 w T (D6 T.vs T.pl x.pl) e w'/\R):=by
 have aU:Ew x.pl=true:=by
  by_cases q:Ew x.pl=true
  .exact q
  .unfold Ed at hr;rw[Ad (by simpa using q)]at hr;cases hr
 obtain⟨hk,_,_,_,_,_⟩:=Te aU;have k:=td.new w x;obtain⟨W0,aK⟩:=Ex ((w.alloc (J x.cells 40 (0,0))).alloc (J #[Z G 0,Z G 0,Z G 0] 35 (0,0)));rw[<-aK]at k;have kw:=Alc x (h.low k.low) hj (hx.low k.low);rw[hr]at kw;have aJ:=hx.xj 3;obtain⟨P,hP⟩:=Ex ((eo T.vs T.pl x.pl).1);obtain⟨⟨aC,dce,dcf,o⟩,aR⟩:∃c,c=(eo T.vs T.pl x.pl).2:=⟨_,rfl⟩
 have aT:D6 T.vs T.pl x.pl=(if B7 x.n.kind=true then { P with cls:=F2 P.cls x.n.ah ⟨x.n.seq,dce,dcf,o⟩ } else P,⟨aC,dce,dcf,o⟩,0):=by
  unfold D6;rw[Ab (by rw[hr];simp)];have e:∀D0:dv×Cl,D0.1=P->D0.2=⟨aC,dce,dcf,o⟩->(let d:=D0;(if B7 x.pl.n.kind=true then { d.1 with cls:=F2 d.1.cls x.pl.n.ah ⟨x.pl.n.seq,d.2.e,d.2.first,d.2.last⟩ } else d.1,d.2,(0:Int)))=(if B7 x.n.kind=true then { P with cls:=F2 P.cls x.n.ah ⟨x.n.seq,dce,dcf,o⟩ } else P,⟨aC,dce,dcf,o⟩,0):=by rintro⟨a,b⟩ rfl rfl;rfl
  exact e _ hP.symm aR.symm
 rw[<-hP,<-aR]at u;rw[<-hP]at aI;rw[aT];obtain⟨tb,ht⟩:=Ex (T.tb);rw[<-ht]at u kw;rw[<-ht];clear aT hP aR aU hr;obtain⟨⟨f,ai,tick,ah,seq,cq,attempt,node,br⟩,so,m,sc,dm⟩:=x;replace hk:f=1\/f=2\/f=3\/f=4\/f=5\/f=6\/f=7\/f=8\/f=9\/f=10\/f=11:=hk;replace aJ:-9223372036854775808<=ah/\ah<=9223372036854775807:=aJ;replace⟨h,hx,k,kw,hj,u,ht,aJ⟩:=H8 h hx k kw hj u ht aJ;replace aI:=Hh aI;obtain⟨F,hF⟩:=Ex (Nu f);replace u:∀W,BW w.heap.size w W->CS prog (Nu f) _ _ _:=u.out;rw[<-hF]at u
 have aV:∀(a:Array VL) (W:WD),Sem.run prog (callFunc F a) W=.ok (.enter F a) W:=by
  intro a W;rw[hF];rcases hk with rfl|rfl|rfl|rfl|rfl|rfl|rfl|rfl|rfl|rfl|rfl
  all_goals rfl
 replace⟨u,hk,hF⟩:=H3 u hk hF;by_cases an:B7 f=true
 .rw [Ad (show B7 (⟨f,ai,tick,ah,seq,cq,attempt,node,br⟩:de).kind=true from an)];replace an:=Hh an
  .have al:∀W,BW w.heap.size w W->CS prog F #[K (O ⟨tb,0,I⟩),Value.agg #[Z G f,Z G ai,Z G tick,Z G ah,Z G seq,Z G cq,Z G attempt,Z G node,Z G br,V so m sc]] W (λe w'=>Pr W T P ⟨aC,dce,dcf,o⟩ e w'/\R):=u.out;have af:=Ald tb f
   replace af:∀W,CS prog 45 #[K (O ⟨tb,0,I⟩),Z G f] W λe w'=>e=Q (.func (.func F) #[K (O ⟨tb,0,I⟩)] #[])/\w'=W:=λW=>by rw[hF.out];exact af W hk.out
   obtain⟨e0,e1,e2,e3,e4,e5,e6,e7,e8,e9⟩:=C10 k.box;(try dsimp only at e0 e1 e2 e3 e4 e5 e6 e7 e8 e9);replace⟨al,af⟩:=H2 al af;clear u;go_enter func15,ntmps15;go_upto_region 1 with fail;rw[<-aK];clear aK;go_upto_region 4 with(go_at_call 31;(with_reducible refine(kw.out).mono ?_);rintro e w1 ⟨rfl,z⟩;replace z:=Hh z);clear e0 e1 e2 e3 e4 e5 e6 e7 e8 e9;have g:=Ae z.out k.box (Ac k.box);have j:=Ae z.out k.res (Ac k.res);have i:=k.low.trans (z.mono k.low.size);have t:=h.low i;obtain⟨e0,e1,e2,e3,e4,e5,e6,e7,e8,e9⟩:=C10 g;(try dsimp only at e0 e1 e2 e3 e4 e5 e6 e7 e8 e9);have am:=al w1 i;replace⟨g,j,i,t,am⟩:=H5 g j i t am;go_upto_region 6 with(first|(go_at_call 45;(with_reducible refine(af.out _).mono ?_);rintro e w1 ⟨rfl,rfl⟩)|((with_reducible refine(am.out).mono ?_);rintro e w3 ⟨⟨rfl,T',r,ao⟩,hR⟩;replace⟨r,ao,hR⟩:=H3 r ao hR));clear e0 e1 e2 e3 e4 e5 e6 e7 e8 e9;obtain⟨W4,ap⟩:=Ex (w3.alloc (J #[Z G dce,Z G dcf,Z G o] 35 (0,0)));obtain⟨rb,aG⟩:=Ex (w3.heap.size);have ac:BW w3.heap.size w3 W4:=(by rw[ap];exact Bn);have aA:W4.heap[rb]?=O (J #[Z G dce,Z G dcf,Z G o] 35 (0,0)):=(by rw[ap,aG];exact Ah _ _);rw[<-ap,<-aG];clear ap aG;have ad:=Ae ac (r.mod.ar g.out (t.off g.out ad9 ad9 ad9 ad9 ad9)) (Ac (r.mod.ar g.out (t.off g.out ad9 ad9 ad9 ad9 ad9)));have s:=Ae ac (r.mod.ar j.out (t.off j.out ad9 ad9 ad9 ad9 ad9)) (Ac (r.mod.ar j.out (t.off j.out ad9 ad9 ad9 ad9 ad9)));have y:=(r.back i.out).low ac;have aE:=r.py (b:=w.heap.size+1) h.out ao9 (by have:=Ac j.out;exact this);obtain⟨e0,e1,e2,e3,e4,e5,e6,e7,e8,e9⟩:=C10 ad;(try dsimp only at e0 e1 e2 e3 e4 e5 e6 e7 e8 e9);obtain⟨q0,q1,q2⟩:=C3 aA;(try dsimp only at q0 q1 q2);replace⟨ac,aA,ad,s,y,aE⟩:=H6 ac aA ad s y aE
   have aH:=λW=>by
    have:=Pu f W;rw[an.out]at this;exact this
   have m2:W4.cell? ⟨tb,2,I⟩=O (.map (O T'.mb)):=(by rw[ht.out,<-y.tb];exact Aa y.at_.head 2);have aQ:=y.at_.cls;have aO:W4.drew.ownsMap (H:=Unit) prog 3 O8 T'.mb T'.cls.length (Ja T'.cls):=aQ;have aL:keyOf prog 3 (Z G ah)=O (Fi ah):=keyOf_int_mk Kr (yz aJ.1 aJ.2);replace⟨aH,aQ,aO,aL⟩:=H4 aH aQ aO aL;go_upto_region 7 with(go_at_call 46;(with_reducible refine(aH.out _).mono ?_);rintro e W4 ⟨rfl,rfl⟩)
   have aN:T'.cls.length<maxLen:=by
    have:maxLen=9223372036854775807:=rfl;have e:T'.cls=P.cls:=(by rw[<-ao.out];rfl);rw[e];have:=aI.out;omega
   replace aN:=Hh aN;go_still_tail 11,(by kernel_rfl);change wpList _ _ _ _ _ W4.drew;go_upto_region 8 with(at_mapUpdate;refine Zl _ rfl _ _ _ 108 rfl 3 123 (int_keyed Kr) Zh _ T'.mb T'.cls.length _ rfl aO.out aN.out _ _ (Fi ah) rfl rfl aL.out _ [] (Aff ⟨seq,dce,dcf,o⟩) ?_;intro w5 aF av;replace⟨aF,av⟩:=H2 aF av);have aM:Mod (λq=>q=T'.mb) W4 w5:=(Mod.drew (Mod.refl _ W4)).trans (Mod.grown av.out (λq hq=>by cases hq;rfl));have aP:K7 w5 T'.mb (F2 T'.cls ah ⟨seq,dce,dcf,o⟩):=(by have:=aF.out;rw[Ao4]at this;have h2:=Ao6 (l:=(F2 T'.cls ah ⟨seq,dce,dcf,o⟩).map λp=>(Fi p.1,mq p.2)) this;rw[As]at h2;exact h2);have aS:=aM.ar aA.out (λe=>y.at_.fj aA.out e.symm);have aB:=aM.ar s.out (λe=>y.at_.fj s.out e.symm);have aD:=(y.nw _ aM aP).qk h.out aE.out aB (Z G dce) (Z G dcf) (Z G o);clear e0 e1 e2 e3 e4 e5 e6 e7 e8 e9 q0 q1 q2 m2;obtain⟨q0,q1,q2⟩:=C3 aS;(try dsimp only at q0 q1 q2);obtain⟨r0,r1,r2⟩:=C3 aB;(try dsimp only at r0 r1 r2);have fr:=Ag aB;replace⟨aM,aP,aS,aB,aD⟩:=H5 aM aP aS aB aD;go_wp2_with fail;refine An (v:=D #[Gu ⟨aC,dce,dcf,o⟩,Z G 0]) (by simp[results,results15,go_sem,r0,r1,r2]) rfl ⟨⟨rfl,_,aD.out,?_⟩,hR.out⟩;rw[<-ao.out];rfl
 .rw [Ab (show ¬B7 (⟨f,ai,tick,ah,seq,cq,attempt,node,br⟩:de).kind=true from an)];replace an:B7 f=false:=by simpa using an
  replace an:=Hh an
  .have al:∀W,BW w.heap.size w W->CS prog F #[K (O ⟨tb,0,I⟩),Value.agg #[Z G f,Z G ai,Z G tick,Z G ah,Z G seq,Z G cq,Z G attempt,Z G node,Z G br,V so m sc]] W (λe w'=>Pr W T P ⟨aC,dce,dcf,o⟩ e w'/\R):=u.out;have af:=Ald tb f
   replace af:∀W,CS prog 45 #[K (O ⟨tb,0,I⟩),Z G f] W λe w'=>e=Q (.func (.func F) #[K (O ⟨tb,0,I⟩)] #[])/\w'=W:=λW=>by rw[hF.out];exact af W hk.out
   obtain⟨e0,e1,e2,e3,e4,e5,e6,e7,e8,e9⟩:=C10 k.box;(try dsimp only at e0 e1 e2 e3 e4 e5 e6 e7 e8 e9);replace⟨al,af⟩:=H2 al af;clear u;go_enter func15,ntmps15;go_upto_region 1 with fail;rw[<-aK];clear aK;go_upto_region 4 with(go_at_call 31;(with_reducible refine(kw.out).mono ?_);rintro e w1 ⟨rfl,z⟩;replace z:=Hh z);clear e0 e1 e2 e3 e4 e5 e6 e7 e8 e9;have g:=Ae z.out k.box (Ac k.box);have j:=Ae z.out k.res (Ac k.res);have i:=k.low.trans (z.mono k.low.size);have t:=h.low i;obtain⟨e0,e1,e2,e3,e4,e5,e6,e7,e8,e9⟩:=C10 g;(try dsimp only at e0 e1 e2 e3 e4 e5 e6 e7 e8 e9);have am:=al w1 i;replace⟨g,j,i,t,am⟩:=H5 g j i t am;go_upto_region 6 with(first|(go_at_call 45;(with_reducible refine(af.out _).mono ?_);rintro e w1 ⟨rfl,rfl⟩)|((with_reducible refine(am.out).mono ?_);rintro e w3 ⟨⟨rfl,T',r,ao⟩,hR⟩;replace⟨r,ao,hR⟩:=H3 r ao hR));clear e0 e1 e2 e3 e4 e5 e6 e7 e8 e9;obtain⟨W4,ap⟩:=Ex (w3.alloc (J #[Z G dce,Z G dcf,Z G o] 35 (0,0)));obtain⟨rb,aG⟩:=Ex (w3.heap.size);have ac:BW w3.heap.size w3 W4:=(by rw[ap];exact Bn);have aA:W4.heap[rb]?=O (J #[Z G dce,Z G dcf,Z G o] 35 (0,0)):=(by rw[ap,aG];exact Ah _ _);rw[<-ap,<-aG];clear ap aG;have ad:=Ae ac (r.mod.ar g.out (t.off g.out ad9 ad9 ad9 ad9 ad9)) (Ac (r.mod.ar g.out (t.off g.out ad9 ad9 ad9 ad9 ad9)));have s:=Ae ac (r.mod.ar j.out (t.off j.out ad9 ad9 ad9 ad9 ad9)) (Ac (r.mod.ar j.out (t.off j.out ad9 ad9 ad9 ad9 ad9)));have y:=(r.back i.out).low ac;have aE:=r.py (b:=w.heap.size+1) h.out ao9 (by have:=Ac j.out;exact this);obtain⟨e0,e1,e2,e3,e4,e5,e6,e7,e8,e9⟩:=C10 ad;(try dsimp only at e0 e1 e2 e3 e4 e5 e6 e7 e8 e9);obtain⟨q0,q1,q2⟩:=C3 aA;(try dsimp only at q0 q1 q2);replace⟨ac,aA,ad,s,y,aE⟩:=H6 ac aA ad s y aE
   have aH:=λW=>by
    have:=Pu f W;rw[an.out]at this;exact this
   obtain⟨r0,r1,r2⟩:=C3 s.out;(try dsimp only at r0 r1 r2);have fr:=Ag s.out;have aD:=y.qk h.out aE.out s.out (Z G dce) (Z G dcf) (Z G o);replace⟨aH,aD⟩:=H2 aH aD;go_wp2_with (go_at_call 46;(with_reducible refine(aH.out _).mono ?_);rintro e W4 ⟨rfl,rfl⟩);exact An (v:=D #[Gu ⟨aC,dce,dcf,o⟩,Z G 0]) (by simp[results,results15,go_sem,r0,r1,r2]) rfl ⟨⟨rfl,T',aD.out,by first|exact ao.out|(rw[ao.out];rfl)⟩,hR.out⟩
structure Er (vs:List ay) (t:dv):Prop where
 all:Dn vs t.ab
 len:t.ab.length<=100
 ep:0<=t.ai/\t.ai<=1099511627776
 tick:-1<=t.tick/\t.tick<1099511627776
 vz:t.nodes.length=vs.length
 since:∀n,n∈t.nodes->-1<=n.since/\n.since<1099511627776
 bj:(t.cls.map Prod.fst).Pairwise (·<·)
 cls:∀p,p∈t.cls->1<=p.1/\p.1<=16/\1<=p.2.seq/\p.2.seq<=1099511627776/\p.2.e=0/\0<=p.2.first/\p.2.first<=100/\0<=p.2.last/\p.2.last<=100
variable {vs:List ay} {t:dv} {e:gh}
def Ac8 {x y:Int×Cl}:∀ {l:List (Int×Cl)},y∈Kf x l->y=x\/y∈l
 | [],h=>.inl (Gc.1 h)
 | z :: r,h=>by
  unfold Kf at h;split at h
  .rcases Eh.1 h with h|h
   .exact .inl h
   .exact .inr h
  .rcases Eh.1 h with h|h
   .exact .inr (h▸Ef)
   .rcases Ac8 h with h|h
    .exact .inl h
    .exact .inr (Dj _ h)
def Ale {x:Int×Cl}:∀ {l:List (Int×Cl)},(l.map Prod.fst).Pairwise (·<·)->(∀y,y∈l->y.1≠x.1)->((Kf x l).map Prod.fst).Pairwise (·<·)
 | [],_,_=>by simp[Kf]
 | y :: r,h,hn=>by
  have d:=Ox.1 h;have e:=hn y Ef;unfold Kf;split
  .rename_i c;refine Ox.2 ⟨λz b=>?_,h⟩;rcases Eh.1 b with rfl|b
   .exact c
   .exact Int.lt_trans c (d.1 z b)
  .rename_i c;refine Ox.2 ⟨λz b=>?_,Ale d.2 λu a=>hn u (Dj _ a)⟩;obtain⟨u,a,rfl⟩:=A7.1 b;rcases Ac8 a with rfl|a
   .show y.1<u.1;omega
   .exact d.1 _ (It a)
def Azo {l:List Int} {n:Nat} (h:l.Pairwise (·<·)) (c:∀x,x∈l->1<=x/\x<=(n:Int)):l.length<=n:=by
 have h1:(l.map Int.toNat).Pairwise (·<·):=by refine List.pairwise_map.2 (h.imp_of_mem fun {a b} ha hb hab=>?_);have:=c a ha;omega
 have:=Pl.Aun (ys:=(List.range n).map (·+1)) h1 λj d=>by
  obtain⟨z,e,rfl⟩:=A7.1 d;have:=c z e;exact A7.2 ⟨z.toNat-1,Wl.2 ao9,ao9⟩
 simpa using this
def Er.gg (h:Er vs t):t.cls.length<=16:=by
 have:=Azo (n:=16) h.bj λx b=>by
  obtain⟨p,a,rfl⟩:=A7.1 b;have:=h.cls p a;omega
 simpa using this
def Azp (h:Er vs t) (id:Int) (c:Cl) (b:1<=id/\id<=16) (d:1<=c.seq/\c.seq<=1099511627776/\c.e=0/\0<=c.first/\c.first<=100/\0<=c.last/\c.last<=100):Er vs { t with cls:=F2 t.cls id c }:=by
 refine⟨h.all,h.len,h.ep,h.tick,h.vz,h.since,?_,λp a=>?_⟩
 .show ((F2 t.cls id c).map Prod.fst).Pairwise (·<·);unfold F2;refine Ale (h.bj.sublist ((Zq).map Prod.fst)) λy f=>?_;have:=(N5.1 f).2;simpa using this
 .have a:p∈F2 t.cls id c:=a;unfold F2 at a;rcases Ac8 a with rfl|a
  .exact ⟨b.1,b.2,d⟩
  .exact h.cls p (N5.1 a).1
structure Azq (e:gh):Prop where
 ep:e.n.kind=1->1<=e.n.ai/\e.n.ai<=1099511627776
 cl:B7 e.n.kind=true->(1<=e.n.ah/\e.n.ah<=16)/\1<=e.n.seq/\e.n.seq<=1099511627776
 cq:(e.n.kind=3\/e.n.kind=4\/e.n.kind=5\/e.n.kind=7)->e.n.cq<=100
 specs:e.n.kind=2->e.specs≠[]
def Alf (h:Ew e=true):Azq e:=by
 have s:=(Te h).kind;obtain⟨⟨i,n,tick,m,seq,p,attempt,node,o⟩,q⟩:=e
 have g:∀ {k:Int} {fs:List gz},i=k->Di k=O fs->∃e',Fl ⟨i,n,tick,m,seq,p,attempt,node,o⟩ fs=O e'/\Ql ⟨⟨i,n,tick,m,seq,p,attempt,node,o⟩,q⟩=true:=fun {k fs} e hf=>by
  obtain⟨e',h1,_,_,r⟩:=Ala h (fs:=fs) (by rw[<-hf,<-e]);exact⟨e',h1,r⟩
 have l:∀k,(k=1\/k=2\/k=3\/k=4\/k=5\/k=6\/k=7\/k=8\/k=9\/k=10\/k=11)->i=k->True:=λ_ _ _=>trivial;rcases s with rfl|rfl|rfl|rfl|rfl|rfl|rfl|rfl|rfl|rfl|rfl
 .obtain ⟨e',f,_⟩:=g rfl (k:=1) (fs:=[Ug]) rfl;have a:=(A5 f).1;simp[iw,Ug,de.get]at a;exact⟨λ_=>a,λc=>absurd c (by simp[B7,Dy]),as9,as9⟩
 .obtain ⟨e',f,j⟩:=g rfl (k:=2) (fs:=[Cs,Ct]) rfl;have a:=(A5 f).1;have b:=(A5 (A5 f).2).1;simp[iw,Cs,Ct,de.get,de.set]at a b;refine⟨as9,λ_=>⟨a,b⟩,as9,λ_ c=>?_⟩;have c:q=[]:=c;subst c;simp[Ql]at j
 .obtain ⟨e',f,j⟩:=g rfl (k:=3) (fs:=[Cs,Ct,Ev]) rfl;have a:=(A5 f).1;have b:=(A5 (A5 f).2).1;have d:=(A5 (A5 (A5 f).2).2).1;simp[iw,Cs,Ct,Ev,de.get,de.set]at a b d;exact⟨as9,λ_=>⟨a,b⟩,λ_=>d.2,as9⟩
 .obtain ⟨e',f,j⟩:=g rfl (k:=4) (fs:=[Cs,Ct,Ev]) rfl;have a:=(A5 f).1;have b:=(A5 (A5 f).2).1;have d:=(A5 (A5 (A5 f).2).2).1;simp[iw,Cs,Ct,Ev,de.get,de.set]at a b d;exact⟨as9,λ_=>⟨a,b⟩,λ_=>d.2,as9⟩
 .obtain ⟨e',f,j⟩:=g rfl (k:=5) (fs:=[Cs,Ct,Ev]) rfl;have a:=(A5 f).1;have b:=(A5 (A5 f).2).1;have d:=(A5 (A5 (A5 f).2).2).1;simp[iw,Cs,Ct,Ev,de.get,de.set]at a b d;exact⟨as9,λ_=>⟨a,b⟩,λ_=>d.2,as9⟩
 .exact ⟨as9,λc=>absurd c (by simp[B7,Dy]),as9,as9⟩
 .obtain ⟨e',f,j⟩:=g rfl (k:=7) (fs:=[Ev,Uh,E4,Ui]) rfl;have a:=(A5 f).1;simp[iw,Ev,de.get]at a;exact⟨as9,λc=>absurd c (by show ¬B7 7=true;decide),λ_=>a.2,as9⟩
 .exact ⟨as9,λc=>absurd c (by simp[B7,Dy]),as9,as9⟩
 .exact ⟨as9,λc=>absurd c (by simp[B7,Dy]),as9,as9⟩
 .obtain ⟨e',f,j⟩:=g rfl (k:=10) (fs:=[Cs,Ct,E4]) rfl;have a:=(A5 f).1;have b:=(A5 (A5 f).2).1;simp[iw,Cs,Ct,de.get,de.set]at a b;exact⟨as9,λ_=>⟨a,b⟩,as9,as9⟩
 .obtain ⟨e',f,j⟩:=g rfl (k:=11) (fs:=[Cs,Ct,E4]) rfl;have a:=(A5 f).1;have b:=(A5 (A5 f).2).1;simp[iw,Cs,Ct,de.get,de.set]at a b;exact⟨as9,λ_=>⟨a,b⟩,as9,as9⟩
def Ac9 (js:List Jb):(I7 js).length=js.length:=by
 unfold I7;rw[Xz,As]
def Azr (tick:Int) (js:List Jb):(Da tick js).length=js.length:=by
 unfold Da;rw[Ac9,As]
def Azs (vs:List ay) (tick:Int) (a:List Bool) (js:List Jb):(Q3 vs tick a js).length=js.length:=by
 unfold Q3;rw[Ac4,As]
def Azt {l:List dn} (h0:(Br vs t.ab.length l).2=0):((Eb (l.zip (Br vs t.ab.length l).1) t.ab).length:Int)=(t.ab.length:Int)+F6 l/\(t.ab.length:Int)+F6 l<=100/\∀s,s∈l->1<=s.array/\s.array<=20:=by
 obtain⟨h1,e,c⟩:=Acu h0;rw[c]at h0;obtain⟨h,j,i,d,k⟩:=Acp h0;rw[As]at h i;have a:=Acs (l.zip (Br vs t.ab.length l).1) (λp f=>(d p.1.array (A7.2 ⟨p.1,(Z0 f).1,rfl⟩)).1) t.ab
 have b:(l.zip (Br vs t.ab.length l).1).map (λp=>p.1.array)=l.map λs=>s.array:=by
  rw[c];have:=Acv (l:=l) (m:=(Fa ((t.ab.length:Int)+1) (l.map λs=>s.array) (l.map λs=>s.after)).1) ao9
  conv=>rhs;rw[<-this]
  rw[De];rfl
 rw[b,<-Ve]at a;exact⟨a,e,λs g=>d s.array (It g)⟩
def Azu {l:List dn} (h:∀s,s∈l->1<=s.array) (b:l≠[]):1<=F6 l:=by
 cases l with
 | nil=>exact absurd rfl b
 | cons s l=>
  have a:=(Va (l.map λs=>s.array) (λn c=>by
   obtain⟨u,d,rfl⟩:=A7.1 c
   exact h u (Dj _ d)) (l.map λs=>s.array).length).2
  rw[Oy]at a;have e:=h s Ef;rw[Ve,Ic];unfold En at a ⊢;rw[Wh,Yw];omega
def Ada (h1:1<=e.n.cq) (h0:Ju t e.n=0):∃(k:Nat) (j:Jb),t.ab[k]?=O j/\e.n.cq=(k:Int)+1/\Fn t.ab e.n.cq=j/\(e.n.kind≠7->(Ay j.lf (Gn e.n.kind)).2=0)/\(e.n.kind=7->∃i,Gj j e.n.attempt e.n.node=O i):=by
 unfold Ju at h0;split at h0
 .cases h0
 rename_i c;obtain⟨k,f⟩:∃k:Nat,e.n.cq=(k:Int)+1:=⟨(e.n.cq-1).toNat,ao9⟩;have b:t.ab[k]?=O (t.ab[k]'(by omega)):=Az _;have a:Fn t.ab e.n.cq=t.ab[k]'(by omega):=by unfold Fn;rw[f,show((k:Int)+1-1).toNat=k by omega,b];rfl
 rw[a]at h0;refine⟨k,_,b,f,a,λq=>?_,λq=>?_⟩
 .rw [Ad q]at h0;exact h0
 .rw [Ab (by simpa using q)]at h0;split at h0
  .cases h0
  .rename_i d
   cases hp:Gj (t.ab[k]'(by omega)) e.n.attempt e.n.node with
   | none=>exact absurd hp d
   | some i=>exact⟨i,rfl⟩
def Er.ab (h:Er vs t) {js:List Jb} (h1:Dn vs js) (a:js.length<=100):Er vs { t with ab:=js }:=⟨h1,a,h.ep,h.tick,h.vz,h.since,h.bj,h.cls⟩
def Er.ni (h:Er vs t) (i:Nat) (f:Ej->Ej) (b:∀n,-1<=n.since/\n.since<1099511627776->-1<=(f n).since/\(f n).since<1099511627776):Er vs { t with nodes:=t.nodes.modify i f }:=by
 refine⟨h.all,h.len,h.ep,h.tick,(Lq _ _ _).trans h.vz,λn c=>?_,h.bj,h.cls⟩;obtain⟨q,a⟩:=Dk c;have a:(t.nodes.modify i f)[q]?=O n:=a;rw[Fc]at a
 cases hu:t.nodes[q]? with
 | none=>
  rw[hu]at a;have a:(I:Option Ej)=O n:=a;cases a
 | some u=>
  rw[hu]at a;have a:O (if i=q then f u else u)=O n:=a;have h1:=h.since u (Ai hu);split at a
  .injection a with a;rw[<-a];exact b u h1
  .injection a with a;rw[<-a];exact h1
structure Alg (vs:List ay) (t:dv) (e:gh):Prop where
 may:Ew e=true
 cl:B7 e.n.kind=true->(D2 t.cls e.n.ah).seq<e.n.seq
 ep:e.n.kind=1->t.ai<e.n.ai
 tick:e.n.kind=6->t.tick<e.n.tick
 sub:e.n.kind=2->(Br vs t.ab.length e.specs).2=0
 node:8<=e.n.kind->e.n.kind<=11->Lb t e.n=0
 cq:(e.n.kind=3\/e.n.kind=4\/e.n.kind=5\/e.n.kind=7)->Ju t e.n=0
def Alh (h:Ed vs t e=0):Alg vs t e:=by
 unfold Ed at h;split at h
 .cases h
 rename_i a;split at h
 .cases h
 rename_i b;refine⟨by simpa using a,λq=>?_,λq=>?_,λq=>?_,λq=>?_,λq c=>?_,λq=>?_⟩
 .by_cases d:(D2 t.cls e.n.ah).seq<e.n.seq
  .exact d
  .exact absurd ⟨q,ao9⟩ b
 .rw [Ad q]at h;split at h
  .cases h
  .omega
 .rw [Ab ao9,Ad q]at h;split at h
  .cases h
  .omega
 .rw [Ab ao9,Ab ao9,Ad q]at h;exact h
 .rw [Ab ao9,Ab ao9,Ab ao9,Ad ⟨q,c⟩]at h;exact h
 .rw [Ab ao9,Ab ao9,Ab ao9,Ab ao9]at h;exact h
def Azv (h:Er vs t) (o:Alg vs t e):Er vs (eo vs t e).1/\(eo vs t e).2.e=0/\0<=(eo vs t e).2.first/\(eo vs t e).2.first<=100/\0<=(eo vs t e).2.last/\(eo vs t e).2.last<=100:=by
 have f:=Te o.may;have m:=Alf o.may
 have z:∀ {T:dv},Er vs T->Er vs (T,(⟨0,0,0,0⟩:Cl)).1/\(T,(⟨0,0,0,0⟩:Cl)).2.e=0/\0<=(T,(⟨0,0,0,0⟩:Cl)).2.first/\(T,(⟨0,0,0,0⟩:Cl)).2.first<=100/\0<=(T,(⟨0,0,0,0⟩:Cl)).2.last/\(T,(⟨0,0,0,0⟩:Cl)).2.last<=100:=λg=>⟨g,rfl,Df 0,by show(0:Int)<=100;decide,Df 0,by show(0:Int)<=100;decide⟩
 unfold eo;split
 .rename_i q;have:=m.ep q;exact z ⟨h.all,h.len,⟨by show 0<=e.n.ai;omega,this.2⟩,h.tick,h.vz,h.since,h.bj,h.cls⟩
 split
 .rename_i q;have h0:=o.sub q;obtain⟨a,b⟩:=Aj7 h.all h0;obtain⟨c1,c2,x⟩:=Azt h0;have c4:=Azu (λs hs=>(x s hs).1) (m.specs q);refine⟨h.ab a b,rfl,?_,?_,?_,?_⟩
  .show 0<=(t.ab.length:Int)+1;omega
  .show (t.ab.length:Int)+1<=100;omega
  .show 0<=((Eb (e.specs.zip (Br vs t.ab.length e.specs).1) t.ab).length:Int);omega
  .show ((Eb (e.specs.zip (Br vs t.ab.length e.specs).1) t.ab).length:Int)<=100;omega
 split
 .rename_i q;have r:=f.tick (.inl q);refine z ⟨Ayh (Aj4 h.all _) r.1 _,?_,h.ep,⟨by show -1<=e.n.tick;omega,r.2⟩,h.vz,h.since,h.bj,h.cls⟩;show(Q3 vs e.n.tick _ (Da e.n.tick t.ab)).length<=100;rw[Azs,Azr];exact h.len
 split
 .rename_i q;have y:=f.br q;refine z (h.ab (Acr (h.all.b.mod λj i=>Aw8 (h.all.b _ _ i) ao9 y.2)) ?_);rw[Ac9];unfold Fo;rw[Lq];exact h.len
 split
 .rename_i q;unfold Qp;split
  .rename_i u;have h1:=h.ni e.n.node.toNat (λn=>⟨false,n.bq,n.since⟩) (λn l=>l);refine z (h1.ab (Aw9 h.all _) ?_);rw[Ac9,As];exact h.len
  split
  .rename_i u;have r:=f.tick (.inr (.inr u));exact z (h.ni _ (λn=>⟨true,n.bq,e.n.tick⟩) (λn l=>by show -1<=e.n.tick/\e.n.tick<_;omega))
  .exact z (h.ni _ (λn=>⟨n.up,decide (e.n.kind=10),n.since⟩) (λn l=>l))
 .rename_i q1 u q3 q4 q5;have hk:e.n.kind=3\/e.n.kind=4\/e.n.kind=5:=by have:=f.kind;omega
  have j1:=f.cq ao9;have v:=m.cq ao9;obtain⟨k,j,i,ac,_,p,_⟩:=Ada j1 (o.cq ao9);have d:(e.n.cq-1).toNat=k:=ao9
  refine⟨h.ab (Acq (h.all.mod λj' c=>?_)) ?_,rfl,?_,?_,?_,?_⟩
  .rw [d,i]at c;injection c with c;subst c;rw[d];refine Aw5 (h.all k j i) (p ao9) ?_;unfold Gn;split
   .exact .inl rfl
   .split
    .exact .inr (.inl rfl)
    .exact .inr (.inr rfl)
  .rw [Xz];unfold Fo;rw[Lq];exact h.len
  .show 0<=e.n.cq;omega
  .exact v
  .show 0<=e.n.cq;omega
  .exact v
def Azw (h:Er vs t):Er vs (D6 vs t e).1:=by
 unfold D6;split
 .exact h
 .rename_i c;have d:=Alh (vs:=vs) (t:=t) (e:=e) (by simpa using c);obtain⟨a,b⟩:=Azv h d;have m:=Alf d.may;show Er vs (if B7 e.n.kind=true then { (eo vs t e).1 with cls:=F2 (eo vs t e).1.cls e.n.ah ⟨e.n.seq,(eo vs t e).2.e,(eo vs t e).2.first,(eo vs t e).2.last⟩ } else(eo vs t e).1);split
  .rename_i q;have:=m.cl q;exact Azp a _ _ this.1 ⟨this.2.1,this.2.2,b⟩
  .exact a
def Azx (vs:List ay) (t:dv) (e:gh):(eo vs t e).1.cls=t.cls:=by
 unfold eo;split
 .rfl
 split
 .rfl
 split
 .rfl
 split
 .rfl
 split
 .unfold Qp;split
  .rfl
  split
  .rfl
  .rfl
 .rfl
end
section
open Go.RowKit Go.Maps Go.Lib
structure F9 (w0:WD) (T:Tv) (w:WD):Prop where
 tab:Al w T
 bh:∀b,T.bh b->w0.heap.size<=b
 low:BW w0.heap.size w0 w
 ij:Er T.vs T.pl
variable {w0 w w':WD} {T T':Tv}
def F9.ml (h:F9 w0 T w) (a:Em w T T' w') (d:Er T.vs T'.pl):F9 w0 T' w':=
 ⟨a.at_,λb c=>by
  rcases a.bh b c with c|c
  .exact h.bh b c
  .exact Aw h.low.size c,h.low.trans (a.mod.below h.low.size h.bh),by rw[a.vs];exact d⟩
def F9.drop (h:F9 w0 T w) (a:BW w.heap.size w w'):F9 w0 T w':=⟨h.tab.low a,h.bh,h.low.trans (a.mono h.low.size),h.ij⟩
def Tf (vs:List ay) (t:dv) (p:gh):Prop:=Ed vs t p=0->p.n.kind=6->Rd vs p.n.tick (ui { t with tick:=p.n.tick }) (Da p.n.tick t.ab)
def Ali (w0 w:WD) (T:Tv) (p:gh) (e:Ending) (w':WD):Prop:=
 ∃T',e=Q (D #[Gu (D6 T.vs T.pl p).2.1,Z G (D6 T.vs T.pl p).2.2])/\F9 w0 T' w'/\T'.pl=(D6 T.vs T.pl p).1/\Em w T T' w'/\Tf T.vs T.pl p
def Azy {k:Int}:(k=1->Nu k=81)/\(k=2->Nu k=82)/\(k=6->Nu k=83)/\(k=7->Nu k=84)/\((8<=k/\k<=11)->Nu k=85)/\((k=3\/k=4\/k=5)->Nu k=86):=by
 refine⟨?_,?_,?_,?_,?_,?_⟩
 .rintro rfl;rfl
 .rintro rfl;rfl
 .rintro rfl;rfl
 .rintro rfl;rfl
 .rintro ⟨a,b⟩
  have:k=8\/k=9\/k=10\/k=11:=ao9
  rcases this with rfl|rfl|rfl|rfl<;>rfl
 .rintro (rfl|rfl|rfl)<;>rfl
def Azz (x:dt) (h:F9 w0 T w) (p:x.ok w) (am:∀W',Mod T.bh w W'->L8 W' x.so x.m x.dm) (ac:x.n.kind=6->T.js.length<=20) :
  CS prog 15 #[K (O ⟨T.tb,0,I⟩),x.val] w (Ali w0 w T x.pl):=by
 have af:T.pl.ab.length=T.js.length:=by simp[Tv.pl]
 have ad:T.js.length<=100:=by have:=h.ij.len;omega
 have end_:∀e w',Ac7 w T (D6 T.vs T.pl x.pl) e w'->Tf T.vs T.pl x.pl->Ali w0 w T x.pl e w':=λe w' a hR=>by
  obtain⟨he,T',ht,z⟩:=a;exact⟨T',he,h.ml ht (by rw[z];exact Azw h.ij),z,ht,hR⟩
 by_cases hr:Ed T.vs T.pl x.pl=0
 .have hw:=Alh hr;have f:=Te hw.may;obtain⟨d1,d2,d6,d7,d8,d3⟩:=Azy (k:=x.n.kind);refine(Azn x h.tab p ao9 hr (by rw[Azx];have:=h.ij.gg;omega) (Tf T.vs T.pl x.pl) (λW hW=>?_)).mono λe w' a=>end_ e w' a.1 a.2;have u:=h.tab.low hW;have o:=h.ij.all.b.jq;have d:x.n.kind≠6->Tf T.vs T.pl x.pl:=λq _ c=>absurd c q;by_cases r:x.n.kind=1
  .rw [d1 r,show eo T.vs T.pl x.pl=({ T.pl with ai:=x.n.ai },⟨0,0,0,0⟩)from Ad r];exact(Aw0 x u).mono λe w' a=>⟨a,d ao9⟩
  by_cases s:x.n.kind=2
  .have l:eo T.vs T.pl x.pl=J0 T.vs T.pl (x.dm.map ax.pl):=(by unfold eo;rw[Ab (show ¬x.pl.n.kind=1 from r),Ad (show x.pl.n.kind=2 from s)];rfl);rw[d2 s,l];have h0:=hw.sub s;rw[af]at h0;refine(Azi x.n x.so x.m x.c x.dm u h.ij.all ao9 (λW' hm=>am W' ((Mod.ag hW).trans hm)) ?_ h0).mono λe w' a=>⟨a,d ao9⟩
   .have h1:=p.dm.len;have h2:=f.len;have h3:x.pl.specs.length=x.dm.length:=As _;omega
  by_cases g:x.n.kind=6
  .have l:eo T.vs T.pl x.pl=(S4 T.vs T.pl x.n.tick,⟨0,0,0,0⟩):=(by unfold eo;rw[Ab (show ¬x.pl.n.kind=1 from r),Ab (show ¬x.pl.n.kind=2 from s),Ad (show x.pl.n.kind=6 from g)];rfl);rw[d6 g,l];have ht:=f.tick (.inl g);have ht:0<=x.n.tick/\x.n.tick<1099511627776:=ht;exact(Azb x.n.kind x.n.ai x.n.tick x.n.ah x.n.seq x.n.cq x.n.attempt x.n.node x.n.br x.so x.m x.c x.dm u h.ij.all (ac g)).mono λe w' a=>⟨a.1,λ_ _=>a.2⟩
  by_cases t:x.n.kind=7
  .have l:eo T.vs T.pl x.pl=(Agt T.pl x.n,⟨0,0,0,0⟩):=(by unfold eo;rw[Ab (show ¬x.pl.n.kind=1 from r),Ab (show ¬x.pl.n.kind=2 from s),Ab (show ¬x.pl.n.kind=6 from g),Ad (show x.pl.n.kind=7 from t)];rfl);rw[d7 t,l];obtain⟨k,j,v,hk,_,_,a⟩:=Ada (f.cq (.inr (.inr (.inr t)))) (hw.cq (.inr (.inr (.inr t))));obtain⟨i,hi⟩:=a t;have v:(T.js.map λj=>j.2.pl)[k]?=O j:=v;rw[Bm]at v;obtain⟨jx,al,rfl⟩:=Ou.1 v;exact(Awx x u o k jx al hk i hi).mono λe w' a=>⟨Ajz a,d g⟩
  by_cases y:8<=x.n.kind/\x.n.kind<=11
  .have l:eo T.vs T.pl x.pl=(Qp T.pl x.n,⟨0,0,0,0⟩):=(by unfold eo;rw[Ab (show ¬x.pl.n.kind=1 from r),Ab (show ¬x.pl.n.kind=2 from s),Ab (show ¬x.pl.n.kind=6 from g),Ab (show ¬x.pl.n.kind=7 from t),Ad (show 8<=x.pl.n.kind/\x.pl.n.kind<=11 from y)];rfl);rw[d8 y,l];have h0:=hw.node y.1 y.2;have ao:0<=x.n.node:=f.node (by show x.n.kind=7\/x.n.kind=8\/x.n.kind=9\/x.n.kind=10\/x.n.kind=11;omega)
   have ap:x.n.node<(T.nodes.length:Int):=by
    unfold Lb at h0;split at h0
    .cases h0
    .rename_i c;have c:¬(T.nodes.length:Int)<=x.n.node:=c;omega
   exact(Axd x u o x.n.node.toNat ao9 ao9 y).mono λe w' a=>⟨a,d g⟩
  .have q3:x.n.kind=3\/x.n.kind=4\/x.n.kind=5:=(by have:=f.kind;have this:x.n.kind=1\/x.n.kind=2\/x.n.kind=3\/x.n.kind=4\/x.n.kind=5\/x.n.kind=6\/x.n.kind=7\/x.n.kind=8\/x.n.kind=9\/x.n.kind=10\/x.n.kind=11:=this;omega);have l:eo T.vs T.pl x.pl=Ags T.pl x.n:=(by unfold eo;rw[Ab (show ¬x.pl.n.kind=1 from r),Ab (show ¬x.pl.n.kind=2 from s),Ab (show ¬x.pl.n.kind=6 from g),Ab (show ¬x.pl.n.kind=7 from t),Ab (show ¬(8<=x.pl.n.kind/\x.pl.n.kind<=11)from y)];rfl);rw[d3 q3,l];obtain⟨k,j,v,hk,_,_,_⟩:=Ada (f.cq (by show x.n.kind=3\/x.n.kind=4\/x.n.kind=5\/x.n.kind=7;omega)) (hw.cq (by show x.n.kind=3\/x.n.kind=4\/x.n.kind=5\/x.n.kind=7;omega));have an:=(Ap.1 v).1;exact(Awt x u o k ao9 hk).mono λe w' a=>⟨Ajz a,d g⟩
 .exact (Azm x h.tab p ao9 hr).mono λe w' a=>end_ e w' a λc=>absurd c hr
end
namespace Pl
open Go.RowKit
variable{U:Bv}{p q:List Nd}{c v:V4}
def Alk {a:List Nd} (e:a.length=1) (b:Int) (v:V4) (u:Int):fy a [0] b v u=if Ik a [0] b v u 0=true then[0]else[]:=by
 have c:∀j,1<=j->Ik a [0] b v u j=false:=λj d=>by
  unfold Ik;rw[Bz ao9];rfl
 have h1:∀k,Il a [0] b v u (k+1)=Il a [0] b v u 1:=λk=>by
  induction k with
  | zero=>rfl
  | succ k ih=>rw[Su,c (k+1) ao9,Ab as9,ih]
 unfold fy;rw[h1 15,Su];rfl
def All    (k:Bb [c] U p) {a u:Int} (h0:0<=u) (h1:1<=a):Ik p [0] a v u 0=true↔u+a<=1099511627776/\∀x,u<=x->x<u+a->(A3 (U 0 x) v).leq c:=by
 have b:p.length=1:=k.len;have:=Aum k (i:=0) ao9 (v:=v) h0 h1;rw[show vv [c] 0=c from rfl]at this;simp only[Ik,D7,Iu];rw[<-this];exact⟨λh=>h.2,λh=>⟨⟨ao9,⟨0,ad9,rfl⟩⟩,h⟩⟩
def Ade    {a:Ask} {b st T:Int} {zs:List Int} (k:Bb [c] U p) (h:Q0 b [true] a st zs p q) (h1:a.gl=[0]) (h2:a.nodes=1) (hc:a.can=true) (ac:0<=b) (hT:b<=T) (m:T+a.aa<=1099511627776)
  (g:∀x,T<=x->x<T+a.aa->(A3 (U 0 x) a.v).leq c) (o:∀u,b<=u->u<T->∃x,u<=x/\x<u+a.aa/\¬(A3 (U 0 x) a.v).leq c) :
  st=T/\zs=[0]/\Bb [c] (At U (j6 [0] T (T+a.aa) a.v)) q:=by
 obtain⟨_,p2,p3⟩:=Auw hc;rcases h with⟨z,_⟩|⟨_,t',xs,is,j,_,h4⟩
 .rw [hc]at z;cases z
 .have l:=j;rw[h1,show Bg (np [true] [0])=[0]from by decide,h2]at j;have hl:p.length=1:=k.len;have f:fy p [0] a.aa a.v T=[0]:=by rw[Alk hl,Ad ((All k ao9 ao9).2 ⟨m,g⟩)]
  obtain⟨hi,ht,hx,r,e⟩:=Auu j ad9 ao9 p3 (T:=T) ao9 ao9 (by rw[f];decide) (λu x1 x2=>by
   rw[Alk hl,Ab (λd=>by
    obtain⟨x,y1,y2,y3⟩:=o u ao9 x2
    exact y3 (((All k ao9 ao9).1 d).2 x y1 y2))]
   decide)
  subst hi;obtain⟨h5,h6,r2,i⟩:=h4 rfl;have s:=(l.found.take k.loose i.1).1;subst s;rw[ht]at i
  have t:xs=[0]:=by
   rw[f]at e
   match xs,hx,e with
   | [y],_,e=>
    injection e with e _;rw[<-e]
  have n:Bg xs=[0]:=by rw[t];rfl
  rw[n]at h6 i;exact⟨h5.trans ht,h6,(Yj k i).1⟩
def Adf (fr a:Int) (v:V4) (x:Int):j6 [0] fr a v 0 x=if fr<=x/\x<a then v else V4.zero:=by
 unfold j6;have b:Bu [0] ([0]:List Int).length 0:=⟨0,ad9,rfl⟩;by_cases c:fr<=x/\x<a
 .rw [Ad c,Ad ⟨b,c⟩]
 .rw [Ab c,Ab (λd=>c d.2)]
structure Vh (a:Ask) (v:V4) (aa:Int):Prop where
 places:a.gl=[0]
 nodes:a.nodes=1
 v:a.v=v
 aa:a.aa=aa
 start:a.start=-1
def Adg {a:Ask}  {t:Int} (h:Vh a v t) (b:0<t) (c:v.right=true):a.can=true:=by
 simp only[Ask.can,h.nodes,h.aa,h.v,D7,Iu];exact⟨⟨ad9,b⟩,c⟩
def Adh {b:Int} {f:List Bool} {a:Ask} {s:Ax}  (h:Nq b f ((a,false),s) p q):s.id=a.id/\Q0 b f a s.start s.eh p q:=by
 obtain⟨m,c,e,d⟩:=h;rcases c with⟨_,rfl⟩|⟨c,_⟩
 .exact ⟨e,d⟩
 .cases c
def Adi {e:Int} {g:List Bool} {a:Ask} {b:Bool}  (f:a.start=-1) (h:Lh e g (a,b) p q):q=p/\b=false:=by
 rcases h with⟨_,c,d⟩|⟨c,_⟩|⟨c,_⟩
 .exact ⟨d,c⟩
 .exact absurd c (by show ¬0<=a.start;rw[f];decide)
 .exact absurd c (by show ¬0<=a.start;rw[f];decide)
def Alm {α:Type} {l:List α} (h:l.length=3):∃a b c,l=[a,b,c]:=by
 match l,h with
 | [a,b,c],_=>exact⟨a,b,c,rfl⟩
def Az2 {a1 a2 a3:Ask} {a:List Ax} (hp:Li [⟨2,2,0,0⟩] 1 [true] [] [a1,a2,a3] a) (c:Vh a1 ⟨1,0,0,0⟩ 13) (b:Vh a2 ⟨1,0,0,0⟩ 13) (d:Vh a3 ⟨1,0,0,0⟩ 13) :
  a.map Ax.key=[(a1.id,1,[0]),(a2.id,1,[0]),(a3.id,14,[0])]:=by
 obtain⟨ps,q1,q2,st,rd,hl,hk,f,hr,g,i⟩:=hp.go;obtain⟨_,j,_⟩:=Yl hl;obtain⟨h,e,n,rfl⟩:=Alm (l:=st) (by have:=Ca List.length f;simpa using this);obtain⟨b1,c1⟩:=h;obtain⟨b2,c2⟩:=e;obtain⟨b3,c3⟩:=n;simp at f;obtain⟨rfl,rfl,rfl⟩:=f;obtain⟨m1,y,m2,z,m3,g3,g4⟩:=hk;obtain⟨rfl,rfl⟩:=Adi c.start y;obtain⟨rfl,rfl⟩:=Adi b.start z;obtain⟨rfl,rfl⟩:=Adi d.start g3;cases g4;obtain⟨y1,y2,y3,rfl⟩:=Alm (l:=rd) (by have:=Ca List.length g;simpa using this);obtain⟨h,s1⟩:=y1;obtain⟨e,s2⟩:=y2;obtain⟨n,s3⟩:=y3;simp at g;obtain⟨rfl,rfl,rfl⟩:=g;obtain⟨n1,r,n2,s,n3,t,f4⟩:=hr;obtain⟨i1,o⟩:=Adh r;obtain⟨i2,p⟩:=Adh s;obtain⟨i3,q⟩:=Adh t;have j:Bb [⟨2,2,0,0⟩] nk q1:=j;obtain⟨t1,z1,k⟩:=Ade j o c.places c.nodes (Adg c ad9 ad9) ad9 (T:=1) ad9 (by rw[c.aa];decide) (λx _ _=>by rw[c.v];simp[nk,A3,V4.leq,V4.zero]) (λu h e=>by omega);rw[c.v,c.aa]at k
 obtain⟨t2,z2,m⟩:=Ade k p b.places b.nodes (Adg b ad9 ad9) ad9 (T:=1) ad9 (by rw[b.aa];decide) (λx h e=>by
  rw[b.aa]at e;rw[b.v];simp only[At,nk,Adf];rw[Ad ao9]
  simp[A3,V4.leq,V4.zero]) (λu h e=>by omega)
 rw[b.v,b.aa]at m
 obtain⟨t3,z3,k3⟩:=Ade m q d.places d.nodes (Adg d ad9 ad9) ad9 (T:=14) ad9 (by rw[d.aa];decide) (λx h e=>by
  rw[d.v];simp only[At,nk,Adf];rw[Ab ao9]
  simp[A3,V4.leq,V4.zero]) (λu h e=>⟨u,Df _,by rw[d.aa];omega,by
  rw[d.v];simp only[At,nk,Adf];rw[Ad ao9]
  simp[A3,V4.leq,V4.zero]⟩)
 subst i;simp[Ax.key,i1,i2,i3,t1,t2,t3,z1,z2,z3]
def Az3  {a r:Int}  (g:Je [c] 1 a [] r q) (e:c.right=true) (h1:0<=a) (b:a<1099511627776):r=0:=by
 rcases g with⟨d,_⟩|⟨_,j,l,⟨d,_⟩|⟨d,k,x,m,n,h,_,_⟩⟩
 .refine absurd ⟨as9,λi f=>?_,as9,h1,b⟩ d
  have:i=0:=by simpa using f
  subst this;exact e
 .exact d
 .simp at h
