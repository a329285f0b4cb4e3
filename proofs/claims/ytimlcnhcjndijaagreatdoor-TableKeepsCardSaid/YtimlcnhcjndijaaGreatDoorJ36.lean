/- Parts of a proof. No condition. -/
import Derived.Test.YtimlcnhcjndijaaGreatDoorJ35
set_option linter.all false
set_option maxRecDepth 100000
set_option maxHeartbeats 12800000
namespace Go.Proofs.YtimlcnhcjndijaaGreatDoor
open Option renaming some->O,none->I
open IntKind renaming i64->G
open Value renaming int->Z,slice->V,pointer->K,bool->Q,tuple->E,string->D
open Obj renaming cells->J
open Ending renaming returned->Y
open Go renaming World->WD,Value->VL,Calls->CS
open Go.RowKit renaming Below->BW
open Go.Proofs.Tryz
section
open Go.RowKit Go.Maps Go.Lib
def Ad9 {S:Nat->Prop} {w w':WD} {so:Option Addr} {n:Nat} {zs:List Int} (h:Pl.At w so n zs) (d:Mod S w w') (j:∀b a,so=O ⟨b,a,I⟩->¬S b):Pl.At w' so n zs:=
 ⟨h.len,h.max,λi g=>by
  obtain⟨b,a,e,c,f⟩:=h.cell i g;refine⟨b,a,e,Bq c d.size,?_⟩;rw[<-f]
  simp only[World.cell?,d.block b c (j b a e)]⟩
def A07 {S:Nat->Prop} {w w':WD} {so:Option Addr} {n:Nat} {ss:List Pl.Ax} (h:Pl.Vb w so n ss) (d:Mod S w w') (o:∀b a,so=O ⟨b,a,I⟩->¬S b) (l:∀s,s∈ss->∀b a,s.go=O ⟨b,a,I⟩->¬S b):Pl.Vb w' so n ss:=
 ⟨h.len,h.max,λi x g=>by
  obtain⟨b,a,e,c,k,f⟩:=h.cell i x g;refine⟨b,a,e,Bq c d.size,λj m=>?_,⟨Ad9 f.ah d (l x (Ai g)),f.qg⟩⟩;rw[<-k j m]
  simp only[World.cell?,d.block b c (o b a e)]⟩
def B7.yg {w wr:WD} {T:Tv} {js:List (Nat×aj)} (h:B7 w T js wr) {b:Nat} (c:({ T with js:=js }:Tv).ax b):T.ax b:=by
 rcases c with e|e|e|e|⟨j,g,e⟩
 .exact .inl e
 .exact .inr (.inl e)
 .exact .inr (.inr (.inl e))
 .exact .inr (.inr (.inr (.inl e)))
 .obtain ⟨i,a⟩:=B4 g;have a:js[i]?=O j:=a;have d:i<T.js.length:=by rw[<-h.len];exact(An.1 a).1
  have f:=A3 d;have k:=h.kp i _ j f a;refine .inr (.inr (.inr (.inr ⟨_,J1 d,e.imp (λe=>?_) (λe=>k.pb b e)⟩)));have h1:(js.map Prod.fst)[i]?=O j.1:=by simp[a]
  rw[h.au,A7,f]at h1;injection h1 with h1;rw[<-e];exact h1
structure oj (w w5 wx:WD) (T:Tv) (js:List (Nat×aj)) (wr:WD):Prop where
 tab:Eg w T T.jv js wr
 uu:∀b,({ T with jv:=T.jv,js:=js }:Tv).ax b->b<w5.heap.size\/wx.heap.size<=b
 low:Mod (λk=>k<w5.heap.size) wx wr
 fh:Je w5 T.js js
 res:wr.heap[w.heap.size+1]?=O (J #[Z G 0,Z G 0,Z G 0] 35 (0,0))
 le:w.heap.size+2<=w5.heap.size
variable {w w5 wx wr w':WD} {T:Tv} {js js2:List (Nat×aj)}
def oj.start {x:de} (h0:Cz w T x js2 w5) (e:BW w5.heap.size w5 wx) (h:B7 wx { T with js:=js2 } js wr):oj w w5 wx T js wr:=by
 have a:=(h0.low e).then h
 have d:∀b,({ T with js:=js2 }:Tv).ax b->b<w5.heap.size:=λb c=>h0.tab.at_.iu c;exact⟨⟨a.tab.at_,a.tab.ax,a.tab.mod⟩,λb c=>.inl (d b (h.yg (T:={ T with js:=js2 }) c)),h.mod.mono (λk _ c=>d k c),a.tab.stays,a.res,by have:=Ab h0.res;omega⟩
def oj.drop (h:oj w w5 wx T js wr) (a:BW wr.heap.size wr w'):oj w w5 wx T js w':=
 ⟨h.tab.low a,h.uu,h.low.low a,h.fh,Ae a h.res (Ab h.res),h.le⟩
def oj.set (h:oj w w5 wx T js wr) {k f:Nat} {x y:aj} (hx:js[k]?=O (f,x)) (hm:Mod (G3 (f,x)) wr w') (u:Bj w' f y) (hp:Ca w' y) (z:∀b,y.pb=O b->x.pb=O b\/wr.heap.size<=b)
  (a:y.so=x.so/\y.sn=x.sn/\y.sc=x.sc/\y.pl.sp=x.pl.sp)
  (v:(y.go=x.go/\y.gn=x.gn/\y.gc=x.gc/\y.pl.ah=x.pl.ah)\/(Pl.At wx y.go y.gn y.pl.ah/\y.gn<=y.gc/\∀b r,y.go=O ⟨b,r,I⟩->w5.heap.size<=b)):oj w w5 wx T (js.set k (f,y)) w':=by
 have hA:=h.tab.at_;have p:=Ai hx;have d:=hA.ok _ p;have hJ:∀q,G3 (f,x) q->({ T with jv:=T.jv,js:=js }:Tv).ax q:=λq c=>.inr (.inr (.inr (.inr ⟨_,p,c.imp (λe=>e.symm) id⟩)));have n:=hm.mono λq _ c=>hJ q c
 have l:∀q,(({ T with jv:=T.jv,js:=js }:Tv).cg k (f,y)).ax q->({ T with jv:=T.jv,js:=js }:Tv).ax q\/wr.heap.size<=q:=λq c=>by
  rcases Sr (T:={ T with jv:=T.jv,js:=js }) (j:=(f,y)) hx rfl c with c|c
  .exact .inl c
  .rcases z q c with c|c
   .exact .inl (hJ q (.inr c))
   .exact .inr c
 have m:∀q,q<wr.heap.size->(({ T with jv:=T.jv,js:=js }:Tv).cg k (f,y)).ax q->({ T with jv:=T.jv,js:=js }:Tv).ax q:=λq hq c=>(l q c).resolve_right ao9;have ad:=h.low.size
 have i:∀q,(({ T with jv:=T.jv,js:=js }:Tv).cg k (f,y)).ax q->q<w5.heap.size\/wx.heap.size<=q:=λq c=>by
  rcases l q c with c|c
  .exact h.uu q c
  .exact .inr ao9
 have g:=h.low.then hm λq hq c=>(h.uu q (hJ q c)).resolve_right ao9
 have ha:Eo w' (({ T with jv:=T.jv,js:=js }:Tv).cg k (f,y)).ax y.so y.sn y.pl.sp.after:=by obtain⟨s,t,_,e4⟩:=a;rw[s,t,e4];exact d.after.mod n m
 have hg:Eo w' (({ T with jv:=T.jv,js:=js }:Tv).cg k (f,y)).ax y.go y.gn y.pl.ah/\y.gn<=y.gc:=by
  rcases v with⟨s,t,e3,e4⟩|⟨g1,g2,g3⟩
  .rw [s,t,e3,e4];exact⟨d.ah.mod n m,d.ou⟩
  .refine ⟨⟨At.yl (Ad9 g1 g λb r e c=>?_),λh0 b o e hS=>?_⟩,g2⟩
   .have:=g3 b r e;omega
   .have:=g3 b o e;obtain⟨b',ac,e',al,_⟩:=g1.cell 0 h0;rw[e]at e';cases e'
    rcases i b hS with c|c<;>omega
 refine⟨h.tab.set hx rfl hm u hp z ha ?_ hg.1 hg.2 ?_ ?_,i,g,λj hj=>?_,?_,h.le⟩
 .show y.sn<=y.sc;rw[a.2.1,a.2.2.1];exact d.om
 .show y.pl.sp.user.size<=maxLen;rw[a.2.2.2];exact d.user
 .show y.pl.sp.part.size<=maxLen;rw[a.2.2.2];exact d.part
 .rcases Wd hj with hj|rfl
  .exact h.fh j hj
  .obtain ⟨c1,c2⟩:=h.fh _ p;refine⟨λh0 q o e hq=>?_,λh0 q o e hq=>?_⟩
   .have h0:0<y.sn:=h0;have e:y.so=O ⟨q,o,I⟩:=e;exact c1 (by rw[<-a.2.1];exact h0) q o (by rw[<-a.1];exact e) hq
   .have h0:0<y.gn:=h0;have e:y.go=O ⟨q,o,I⟩:=e;rcases v with⟨s,t,_,_⟩|⟨_,_,g3⟩
    .exact c2 (by rw[<-t];exact h0) q o (by rw[<-s];exact e) hq
    .have:=g3 q o e;omega
 .exact n.au h.res (hA.off h.res ad9 ad9 ad9 ad9 ad9)
def oj.done {l:Tv} (h:oj w w5 wx T js wr) (h0:Ao w l) (d:T.js=l.js) (p:T.tb=l.tb) (s t u:VL):Eb w T { T with js:=js } (((wr.setCell ⟨w.heap.size+1,0,I⟩ s).setCell ⟨w.heap.size+1,1,I⟩ t).setCell ⟨w.heap.size+1,2,I⟩ u):=by
 have r:=(((Mod.refl (λk=>k=w.heap.size+1) wr).set _ 0 s rfl).set _ 1 t rfl).set _ 2 u rfl;have x:=Ab h0.head;have v:=h.le;refine⟨h.tab.at_.gl h.res r (by show T.tb<_;rw[p];omega) ad9 ad9 ad9 ad9 ad9 ad9 λj q=>?_,rfl,rfl,rfl,rfl,rfl,h.tab.ax,h.tab.mod.then r (λk g e=>by omega),λj q=>?_⟩
 .obtain ⟨m,n⟩:=h.fh j q;refine⟨λc k o e g=>?_,λc k o e g=>?_⟩
  .obtain ⟨i,f,a,b⟩:=m c k o e ao9;rw[d]at f;have:=Mc (h0.ok i f).after.row a b;omega
  .obtain ⟨i,f,a,b⟩:=n c k o e ao9;rw[d]at f;have:=Mc (h0.ok i f).ah.row a b;omega
 .obtain ⟨m,n⟩:=h.fh j q;exact⟨λc k o e g=>m c k o e ao9,λc k o e g=>n c k o e ao9⟩
def Ao.rowAt {W:WD} {T:Tv} {js:List (Nat×aj)} {c:Option Addr} {f b:Nat} (h:Ao W { T with js:=js }) (e:T.jv=V c f b) (r:js.length=f) {k:Nat} (q:k<f) :
  ∃g j,c=O ⟨g,0,I⟩/\js[k]?=O j/\W.cell? ⟨g,k,I⟩=O (K (O ⟨j.1,0,I⟩)):=by
 obtain⟨j,l⟩:=Ge js k ao9;obtain⟨i,a,m,_,_,p⟩:=h.og;obtain⟨g,n,o⟩:=p k j l;have d:T.jv=V i js.length a:=m;rw[e]at d;injection d with d _ _;exact⟨g,j,d.trans n,l,o⟩
def aj.slot (x:aj) (st:Int) (go:Option Addr) (gn gc:Nat) (zs:List Int):aj:={ x with pl:={ x.pl with start:=st,ah:=zs },go:=go,gn:=gn,gc:=gc }
def aj.part (x:aj) (p:Int×Int) (g n c:Nat):aj:={ x with pl:={ x.pl with parts:=x.pl.parts++[p] },po:=O ⟨g,0,I⟩,pn:=n,pc:=c }
def Lx (st:Int) (zs:List Int) (l:Lf) (k:Nat) (j:Jb):Jb:=⟨j.id,j.sp,l,st,zs,j.parts++(zs.take k).map λn=>(n,0)⟩
def A08 (tick:Int) (l:List (Int×Int×List Int)) (x:Int×Int×List Int):∀js:List Jb,F7 tick (l++[x]) js=C9 (F7 tick l js) x.1 (Eu tick x.2.1 x.2.2):=by
 induction l with
 | nil=>intro js;rfl
 | cons y l ih=>intro js;exact ih _
def Aea (tick:Int):∀(l:List (Int×Int×List Int)) (js:List Jb),(F7 tick l js).length=js.length
 | [],_=>rfl
 | x :: l,js=>by
  show(F7 tick l (C9 js x.1 _)).length=_;rw[Aea tick l];unfold C9;rw[Ic]
def V2 (tick:Int):∀(l:List (Int×Int×List Int)) (js:List Jb) (k:Nat),(∀y,y∈l->1<=y.1/\y.1≠(k:Int)+1)->(F7 tick l js)[k]?=js[k]?
 | [],_,_,_=>rfl
 | x :: l,js,k,h=>by
  show(F7 tick l (C9 js x.1 _))[k]?=_;rw[V2 tick l _ k (λy a=>h y (B2 _ a))];obtain⟨h1,b⟩:=h x Ci;unfold C9;rw[Dj]
  cases js[k]? with
  | none=>rfl
  | some j=>
   show O (if (x.1-1).toNat=k then _ else j)=O j;rw[Ac ao9]
def A09 {vs:List ar} {X:List Jb} (h:Gs vs X) (tick:Int) (bs:List Bool) {i:Nat} {x:Int×Int×List Int} (n:(Fh vs tick bs X)[i]?=O x) :
  ∃(k:Nat) (j:Jb),X[k]?=O j/\x.1=(k:Int)+1/\j.lf.st=1/\j.parts=[]/\x.2.2.length<=16/\(x.2.1=tick->-1099511627776<=tick->True)/\(F7 tick ((Fh vs tick bs X).take i) (X.map B8))[k]?=O j.bare:=by
 obtain⟨h1,m⟩:=V1 h tick bs;obtain⟨k,j,f,e,l,t⟩:=m x (Ai n);have b:j.lf.st=1:=by unfold Ey at l;simp at l;exact l.1
 have s:=(h k j f).idle (by rw[b];rfl);refine⟨k,j,f,e,b,s,?_,λ_ _=>trivial,?_⟩
 .rcases t with⟨_,a⟩|⟨_,a,_⟩
  .rw [a];simp
  .have:=a.len;obtain⟨_,_,_,_,v,_⟩:=Gy (Jd (h k j f).gp);obtain⟨_,o⟩:=Ig.1 v;have o:j.sp.nodes<=16:=o;omega
 .rw [V2 tick _ _ k (λy u=>?_),A7,f]
  .show O (B8 j)=_;unfold B8;rw[Ad b]
  .obtain ⟨q,g⟩:=B4 u;have d:q<i:=(by have:=(An.1 g).1;rw[Fl]at this;omega);rw[Mp,Ad d]at g;obtain⟨k',j',_,z,_⟩:=m y (Ai g);refine⟨ao9,λc=>?_⟩;have p:((Fh vs tick bs X).map Prod.fst)[q]?=O y.1:=(by simp[g]);have r:((Fh vs tick bs X).map Prod.fst)[i]?=O x.1:=(by simp[n]);exact Gm h1 p r d ao9
def A1a (tick:Int) (zs:List Int) (j:Jb):Eu tick tick zs j=Lx tick zs (Ay j.lf 3).1 zs.length j:=by
 unfold Eu Lx;rw[Ad rfl,Pu]
def A1b {tick st:Int} (zs:List Int) (j:Jb) (h:st≠tick):Eu tick st zs j=Lx st zs j.lf 0 j:=by
 unfold Eu Lx;rw[Ac h];simp
end
section
open Go.RowKit Go.Maps Go.Lib
variable{j:Jb}{bs:List Bool}{k n:Nat}{T:Tv}{a w wr:WD}
def A1c (t:Int) (j:Jb):(Et t j).sp=j.sp/\(Et t j).ah=j.ah:=by
 unfold Et;split
 .exact Adq j _
 .exact ⟨rfl,rfl⟩
def Amp {vs:List ar}   (h:Fz vs n k j):Adl j:=by
 obtain⟨_,_,_,_,_,c,_⟩:=Gy (Jd h.gp);obtain⟨a,b⟩:=Ig.1 c;have a:1<=j.sp.wall:=a;have b:j.sp.wall<=1000:=b;refine⟨h.low,?_,ao9,ao9⟩;by_cases q:0<=j.start
 .have:=(h.ah q).2;unfold En at this;omega
 .omega
def A1d   {b:Bool} (a:bs[k]?=O b):((bs.take k).map Value.bool++List.replicate (bs.length-k) (Value.bool false)).set k (Q b)=(bs.take (k+1)).map Value.bool++List.replicate (bs.length-(k+1)) (Value.bool false):=by
 have e:=(An.1 a).1;have c:bs.length-k=(bs.length-(k+1))+1:=ao9
 have d:((bs.take k).map Value.bool).length=k:=by simp;omega
 rw[c,List.replicate_succ,Pl.Oa a,Dk,List.set_append_right _ _ ao9,d];simp
structure rh (w5:WD) (vs:List VL) (wr:WD):Prop where
 low:BW w5.heap.size w5 wr
 box:wr.heap[w5.heap.size]?=O (J vs.toArray 4 (0,0))
def rh.drop {b wr w':WD} {vs:List VL} (h:rh b vs wr) (a:BW wr.heap.size wr w'):rh b vs w':=
 ⟨h.low.trans (a.mono h.low.size),(Mod.af (S:=λ_=>False) a).au h.box (λc=>c)⟩
def rh.put  {vs:List VL} (h:rh a vs wr) (k:Nat) (v:VL):rh a (vs.set k v) (wr.setCell ⟨a.heap.size,k,I⟩ v):=
 ⟨h.low.setCell Ln _,by rw[Ap h.box k v];simp⟩
def rh.done   (h:rh a (bs.map Value.bool) wr) (c:bs.length<=1000000):Pl.Ni wr (O ⟨a.heap.size,0,I⟩) bs.length bs:=by
 refine⟨rfl,ao9,λi b=>⟨_,0,rfl,Ab h.box,?_⟩⟩;rw[Db,Aa h.box i];simp[Pl.bi,List.getD,b]
def Amq {vs:List ar}   (h:Fz vs n k j):j.parts.length<=1000:=by
 by_cases e:j.parts=[]
 .rw [e];simp
 .have h1:=Cv List.length (h.pg e);rw[Ar]at h1;have b:=h.run (h.live.2 e);have d:=(h.ah b).1.len;obtain⟨_,_,_,_,c,_⟩:=Gy (Jd h.gp);obtain⟨_,a⟩:=Ig.1 c;have a:j.sp.nodes<=16:=a;omega
def A1e   (kd ep d cl sq jn an nn hw:Int) (so:Option Addr) (sn sc:Nat) (dj:List ay) (h:Ao w T) (hA:Cs T.vs T.pl.ab) (ey:T.js.length<=20) :
  CS prog 83 #[K (O ⟨T.tb,0,I⟩),(⟨⟨kd,ep,d,cl,sq,jn,an,nn,hw⟩,so,sn,sc,dj⟩:de).val] w (λe w'=>Qp w T (Ro T.vs T.pl d) ⟨0,0,0,0⟩ e w'/\Rx T.vs d (jg { T.pl with tick:=d }) (Ck d T.pl.ab)):=by
 obtain⟨x,hx⟩:∃x:de,x=⟨⟨kd,ep,d,cl,sq,jn,an,nn,hw⟩,so,sn,sc,dj⟩:=⟨_,rfl⟩;have aD:=Cz.new h ⟨⟨kd,ep,d,cl,sq,jn,an,nn,hw⟩,so,sn,sc,dj⟩;obtain⟨W0,ds⟩:=Ex ((w.alloc (J (⟨⟨kd,ep,d,cl,sq,jn,an,nn,hw⟩,so,sn,sc,dj⟩:de).cells 40 (0,0))).alloc (J #[Z G 0,Z G 0,Z G 0] 35 (0,0)));rw[<-ds]at aD;obtain⟨cR,bE,bB,cX,dY,_⟩:=h.og;obtain⟨tb,ht⟩:=Ex (T.tb);obtain⟨mj,aM⟩:=Ex (T.js.length);rw[<-ht];have hd:W0.heap[tb]?=O (J #[Z G T.ai,Z G T.tick,.map (O T.mb),T.nv,T.jv,K (O ⟨T.fb,0,I⟩),T.cv] 115 (0,0)):=by rw[ht];exact aD.tab.at_.head
 have c1:=Bk hd 1 (Z G T.tick) rfl;have f1:=Ag hd 1;have e2:=Bk aD.box 2 (Z G d) rfl;obtain⟨t,f⟩:∃t:Tv,t={ T with tick:=d }:=⟨_,rfl⟩
 have bG:Cz w t ⟨⟨kd,ep,d,cl,sq,jn,an,nn,hw⟩,so,sn,sc,dj⟩ t.js (W0.setCell ⟨tb,1,I⟩ (Z G d)):=by
  rw[f];have hm:Mod (λk=>k=T.tb) W0 (W0.setCell ⟨tb,1,I⟩ (Z G d)):=Mod.setCell _ _ _ _ ht
  have eK:=aD.tab.at_.py (w':=W0.setCell ⟨tb,1,I⟩ (Z G d)) T.ai d hm (by
   show(W0.setCell ⟨tb,1,I⟩ (Z G d)).heap[T.tb]?=_;rw[<-ht,Ap hd]
   rfl)
  have dZ:Mod T.ax W0 (W0.setCell ⟨tb,1,I⟩ (Z G d)):=hm.mono λk _ e=>by rw[e];exact .inl rfl
  exact⟨⟨eK,rfl,λb c=>.inl c,aD.tab.mod.trans dZ,aD.tab.kp⟩,dZ.au aD.box (aD.tab.at_.off aD.box ad9 ad9 ad9 ad9 ad9),dZ.au aD.res (aD.tab.at_.off aD.res ad9 ad9 ad9 ad9 ad9)⟩
 have bQ:Ep t.pl.ab:=by rw[f];exact hA.b.j5
 have dD:t.pl.ab.length=mj:=by rw[aM,f];simp[Tv.pl]
 have c5:Cs t.vs t.pl.ab:=by rw[f];exact hA
 rw[aM.symm]at dY ey
 have row:∀(js:List (Nat×aj)) (W:WD),Cz w t ⟨⟨kd,ep,d,cl,sq,jn,an,nn,hw⟩,so,sn,sc,dj⟩ js W->∀k,k<mj->∃g j,cR=O ⟨g,0,I⟩/\js[k]?=O j/\W.cell? ⟨g,k,I⟩=O (K (O ⟨j.1,0,I⟩)):=λjs W hW k hk=>by
  have hl:js.length=mj:=by rw[aM,hW.tab.len,f]
  obtain⟨j,hj⟩:=Ge js k ao9;obtain⟨e4,ek,e1,_,_,hr⟩:=hW.tab.at_.og;obtain⟨g,e2,hc⟩:=hr k j hj;have e3:T.jv=V e4 js.length ek:=by rw[<-e1,f]
  rw[bB]at e3;injection e3 with e3 _ _;exact⟨g,j,e3.trans e2,hj,hc⟩
 have bU:∀(js:List (Nat×aj)) (W:WD),Cz w t ⟨⟨kd,ep,d,cl,sq,jn,an,nn,hw⟩,so,sn,sc,dj⟩ js W->W.cell? ⟨tb,1,I⟩=O (Z G d)/\W.cell? ⟨tb,4,I⟩=O (V cR mj bE):=λjs W hW=>by
  have e1:({ t with js:=js }:Tv).tb=tb:=by rw[f,ht]
  have:=hW.tab.at_.head;rw[e1]at this;refine⟨?_,?_⟩
  .rw [Aa this 1,f];rfl
  .rw [Aa this 4,aM,<-bB,f];rfl
 clear hx x;replace⟨h,hA,aD,bG,ht,aM,bB,cX⟩:=H8 h hA aD bG ht aM bB cX;replace⟨hd,f,bQ,dD,c5,row,bU⟩:=H7 hd f bQ dD c5 row bU;go_enter func83,ntmps83;go_upto_region 1 with fail;rw[<-ds];clear ds;go_upto_region 2 with fail;obtain⟨W1,aV⟩:=Ex (W0.setCell ⟨tb,1,I⟩ (Z G d));rw[<-aV]at bG;rw[<-aV];clear aV c1 f1 e2;obtain⟨_,c4⟩:=bU _ _ bG.out;have dA:t.js.map (λj=>j.2.pl)=Er (Et d) t.pl.ab 0:=rfl;replace dA:=Hh dA;go_wp2_with fail;clear c4;go_loopw [6,33] (λ_ i2 wr=>∃(k:Nat) (js:List (Nat×aj)),i2=Z G k/\k<=mj/\Hid (Cz w t ⟨⟨kd,ep,d,cl,sq,jn,an,nn,hw⟩,so,sn,sc,dj⟩ js wr)/\Hid (js.map (λj=>j.2.pl)=Er (Et d) t.pl.ab k)) (λ_ i2 _=>mj-(intOf i2).toNat)
 case atStart=>exact⟨0,t.js,rfl,As _,bG,dA⟩
 case round=>
  obtain⟨k,js,rfl,hk,hE,hX⟩:=hrel;by_cases hc:k<mj
  .have bb:(k:Int)<mj:=ao9;have eQ:(0:Int)<=(k:Int):=ao9;obtain⟨g2,j,rfl,hj,cr⟩:=row _ _ hE.out k hc;obtain⟨jb,jx⟩:=j;obtain⟨aR,b6⟩:=hE.tab.get hj;obtain⟨c1,_⟩:=bU _ _ hE.out
   have dS:t.pl.ab[k]?=O jx.pl:=by
    have e1:(js.map (λj=>j.2.pl))[k]?=O jx.pl:=(by simp[hj]);rw[hX.out,Acc,Ac ao9]at e1;exact e1
   have dW:=Amp (c5.b k _ dS);have eg:=Bk aR 14 (Z G jx.pl.lf.st) rfl;have kl:=λn=>Ra jx.pl.lf.st (wr.drewN n);have kt:=λn=>Ak7 (w:=wr.drewN n) (b:=jb) (x:=jx) (show(wr.drewN n).heap[jb]?=_ from aR) dW
   have bl:∀y:aj,y.pl=Et d jx.pl->(js.set k (jb,y)).map (λj=>j.2.pl)=Er (Et d) t.pl.ab (k+1):=λy hy=>by
    rw[N7 js hj hy,hX.out];rfl
   have aT:Et d jx.pl=jx.pl->js.map (λj=>j.2.pl)=Er (Et d) t.pl.ab (k+1):=λe=>by
    have:=bl jx e.symm
    rwa [Zi hj]at this
   obtain⟨st,aH⟩:=Ex (jx.pl.lf.st);obtain⟨lt,b0⟩:=Ex (En jx.pl);obtain⟨q,hq⟩:=Ex (cu jx.pl.lf.st);rw[<-hq]at kl;rw[<-aH]at kl eg;rw[<-b0]at kt;replace⟨hj,aR,b6,dS,dW,kl,kt,bl⟩:=H8 hj aR b6 dS dW kl kt bl;replace⟨aT,aH,b0,hq⟩:=H4 aT aH b0 hq;go_upto_region 5 with fail
   cases q with
   | false=>
    have am:=aT (by unfold Et Jb.live;rw[<-hq.out];simp);replace am:=Hh am;go_quiet ((first|(go_at_call 131;(with_reducible exact Gg (kl.out _)))));rename_i nq;have aJ:=hE.low (A4 _ wr nq);replace aJ:=Hh aJ;go_wp2_with fail;go_roundw
    case rel=>exact⟨k+1,_,by go_num,ao9,aJ.out,am.out⟩
    case measure=>simp[intOf];omega
   | true=>
    by_cases hl:lt<=d
    .have eO:=Az hl;have dX:Et d jx.pl=E8 jx.pl (-1):=(by unfold Et Jb.live;rw[Ad ⟨hq.symm,by rw[<-b0.out];exact hl⟩]);replace dX:=Hh dX;go_quiet ((first|(go_at_call 131;(with_reducible exact Gg (kl.out _)))|(go_at_call 132;(with_reducible exact Calls.quiet_of (kt.out _)))));rename_i nq;have aJ:=hE.low (A4 _ wr nq);obtain⟨aC,a7⟩:=aJ.tab.get hj.out;have dM:=Ah0 aC a7.parts (-1);replace⟨aJ,dM⟩:=H2 aJ dM;go_wp2_with fail;refine dM.mono ?_;rintro e w3 ⟨rfl,hG⟩;have c6:=aJ.dv hj.out hG.mod hG.box hG.parts (Alk jx (-1));have aK:=bl (jx.cz (E8 jx.pl (-1))) dX.symm;clear hG;replace⟨c6,aK⟩:=H2 c6 aK;go_wp2;go_roundw
     case rel=>exact⟨k+1,_,by go_num,ao9,c6.out,aK.out⟩
     case measure=>simp[intOf];omega
    .have eO:=A2 hl
     have am:=aT (by
      unfold Et
      rw[Ac (λh=>hl (by rw[b0.out];exact h.2))])
     replace am:=Hh am;go_quiet ((first|(go_at_call 131;(with_reducible exact Gg (kl.out _)))|(go_at_call 132;(with_reducible exact Calls.quiet_of (kt.out _)))));rename_i nq;have aJ:=hE.low (A4 _ wr nq);replace aJ:=Hh aJ;go_wp2_with fail;go_roundw
     case rel=>exact⟨k+1,_,by go_num,ao9,aJ.out,am.out⟩
     case measure=>simp[intOf];omega
  .have bb:¬(k:Int)<mj:=ao9;have bX:k=mj:=ao9;have am:=hX.out;rw[bX,<-dD.out,S5]at am;obtain⟨X2,aW⟩:=Ex (t.pl.ab.map (Et d));rw[<-aW]at am;have bR:Ep X2:=by rw[aW,<-S5];exact Rc bQ.out (Yv _ (λj=>(A1c d j).1) _ _)
   have aH:CS prog 134 #[K (O ⟨tb,0,I⟩)] wr (Lh wr { t with js:=js } (Gk X2)):=by
    have:=Acd (T:={ t with js:=js }) hE.tab.at_ (by
     show Ep (js.map λj=>j.2.pl)
     rw[am];exact bR)
    rw[show({ t with js:=js }:Tv).pl.ab=X2 from am]at this;rw[show tb=({ t with js:=js }:Tv).tb from by rw[ht.out,f.out]];exact this
   have dV:Gk X2=Ck d T.pl.ab:=(by rw[aW,f.out];rfl);replace⟨am,aW,bR,aH,bX,dV⟩:=H6 am aW bR aH bX dV;go_upto_region 8 with fail;go_wp2_with fail;refine aH.mono ?_;rintro e w4 ⟨rfl,ap,eF,aS⟩
   have bH:=hE.then eF
   rw[dV.out]at aS;clear eF;replace⟨aS,bH⟩:=H2 aS bH;go_upto_region 9 with fail;have bo:=Vv hA.out d;have b1:ap.length=mj:=(by rw[aM.out,bH.tab.len,f.out]);have bf:=bH.tab.at_
   have cA:∀j,j∈ap->∃k,(Ck d T.pl.ab)[k]?=O j.2.pl:=λj hj=>by
    obtain⟨k,hk⟩:=B4 hj;have e1:(ap.map (λj=>j.2.pl))[k]?=O j.2.pl:=(by simp[hk]);exact⟨k,by rw[<-aS.out];exact e1⟩
   have dN:CS prog 135 #[K (O ⟨tb,0,I⟩)] w4 (Adm w4 (Ck d T.pl.ab)):=by
    have:=Ayh (T:={ t with js:=ap }) bf (λj hj=>by
     obtain⟨k,hk⟩:=cA j hj
     exact Amp (bo.b k _ hk)) (by show ap.length<=1000;omega) (λj hj=>by
     obtain⟨k,hk⟩:=cA j hj;have e1:=Amq (bo.b k _ hk);have e2:=Ks (bf.ok j hj).parts;rw[e2]at e1
     exact e1)
    rw[show({ t with js:=ap }:Tv).pl.ab=Ck d T.pl.ab from aS.out]at this;rw[show tb=({ t with js:=ap }:Tv).tb from by rw[ht.out,f.out]];exact this
   replace⟨bo,b1,bf,cA,dN⟩:=H5 bo b1 bf cA dN;go_wp2_with fail;refine dN.mono ?_;rintro e w5 ⟨ho,eM,uo,uc,hs,rfl,c8,c7,dl,dI⟩;have bI:=bH.low dI;replace⟨c8,c7,dl,bI,dI⟩:=H5 c8 c7 dl bI dI;go_upto_region 10 with fail;obtain⟨bs,bv⟩:∃bs,bs=jg { T.pl with tick:=d }:=⟨_,rfl⟩;obtain⟨mn,bd⟩:=Ex (T.nodes.length);have aY:bs.length=mn:=(by rw[bv,bd];simp[jg,Tv.pl]);have ad:=bI.tab.at_;have ff:mn<=16:=by have e1:=ad.same;have e2:=ad.dt.ok.len;rw[f.out]at e1 e2;rw[bd];exact e1▸e2
   have eT:∃so cap,T.nv=V so mn cap/\(0<mn->∃g,so=O ⟨g,0,I⟩):=by
    have hr:=ad.nodes;rw[f.out]at hr;rw[bd];rcases hr.2 with⟨e,h0⟩|⟨g,cap,eJ,e,_,_,h1,h2,_⟩
    .have h0:T.nodes.length=0:=h0;exact⟨I,0,by rw[h0];exact e,λc=>by omega⟩
    .exact ⟨_,_,e,λ_=>⟨_,rfl⟩⟩
   obtain⟨eH,ch,b5,d3⟩:=eT;have aQ:w5.heap[tb]?=O (J #[Z G T.ai,Z G d,.map (O T.mb),V eH mn ch,T.jv,K (O ⟨T.fb,0,I⟩),T.cv] 115 (0,0)):=(by have:=ad.head;rw[f.out]at this;rw[ht.out,<-b5];exact this);have cS:=Ab aQ;have n1:=Bk aQ 1 (Z G d) rfl;have n3:=Bk aQ 3 (V eH mn ch) rfl;have eS:=Pl.Aj1 mn ao9 w5;obtain⟨W6,bO⟩:=Ex (w5.alloc (J (Array.replicate mn (Q false)) 4 (0,0)))
   have cp:rh w5 ((bs.take 0).map Value.bool++List.replicate (mn-0) (Q false)) W6:=
    ⟨by rw[bO];exact Bn,by rw[bO];simpa using Ah _ _⟩
   rw[<-bO]at eS;have eZ:=(Af cp.low cS).trans n3;replace⟨bv,bd,aY,ad,b5,d3,aQ,cp⟩:=H8 bv bd aY ad b5 d3 aQ cp;replace bO:=Hh bO;go_wp2_with fail;go_upto_region 11 with fail;clear eZ;go_loopw [10,11,76] (λ_ _ i2 wr=>∃k:Nat,i2=Z G k/\k<=mn/\Hid (rh w5 ((bs.take k).map Value.bool++List.replicate (mn-k) (Q false)) wr)) (λ_ _ i2 _=>mn-(intOf i2).toNat)
   case atStart=>exact⟨0,rfl,As _,cp⟩
   case round=>
    obtain⟨k,rfl,hk,hU⟩:=hrel;by_cases hc:k<mn
    .have bb:(k:Int)<mn:=ao9;have eQ:(0:Int)<=(k:Int):=ao9;obtain⟨ng,rfl⟩:=d3 ao9;obtain⟨nd,cE⟩:=Ge T.nodes k (by have:=bd.out;omega);have d2:=λh2=>ad.ry (i:=k) (n:=nd) (by rw[f.out];exact cE) (g:=ng) (cap:=ch) h2
     obtain⟨q0,q1,q2,_⟩:=d2 (by
      rw[f.out];show T.nv=_
      rw[b5.out,bd.out])
     have dJ:bs[k]?=O (nd.up && !nd.bt && decide (nd.since<d)):=(by rw[bv.out];simp[jg,Tv.pl,cE]);obtain⟨up,dr,si⟩:=nd
     have b4:=(Oo ad.nodes ng (by
      rw[f.out];show T.nv.ownBlock=_
      rw[b5.out];rfl)).2
     have q0:=(Af hU.low b4).trans q0;have q1:=(Af hU.low b4).trans q1;have q2:=(Af hU.low b4).trans q2;replace⟨cE,dJ,d2⟩:=H3 cE dJ d2;go_upto_region 14 with fail;have ba:=hU.drop ((Below.refl wr.heap.size wr).alloc Ln (J #[Q up,Q dr,Z G si] 119 (0,0)));have cM:(wr.alloc (J #[Q up,Q dr,Z G si] 119 (0,0))).heap[wr.heap.size]?=O (J #[Q up,Q dr,Z G si] 119 (0,0)):=Ah _ _;have eG:=(Af ba.low cS).trans n1
     have aN:∀n b,(up && !dr && decide (si<d))=b->Hid (rh w5 ((bs.take (k+1)).map Value.bool++List.replicate (mn-(k+1)) (Q false)) (((wr.alloc (J #[Q up,Q dr,Z G si] 119 (0,0))).drewN n).setCell ⟨w5.heap.size,k,I⟩ (Q b))):=λn b hb=>by
      have h1:=(ba.drop (A4 _ _ n)).put k (Q b);rw[<-aY.out,A1d (by rw[dJ.out];exact Cv O hb),aY.out]at h1;exact Hh h1
     obtain⟨W7,ct⟩:=Ex (wr.alloc (J #[Q up,Q dr,Z G si] 119 (0,0)));rw[<-ct]at ba cM eG aN;rw[<-ct];obtain⟨z0,z1,z2⟩:=C3 cM;(try dsimp only at z0 z1 z2);have kf:=Ag ba.box k
     have kc:W7.cell? ⟨w5.heap.size,k,I⟩=O (Q false):=by
      rw[Aa ba.box k];have e2:((bs.take k).map Value.bool).length=k:=(by have:=aY.out;simp;omega);rw[Mo,Ia ao9,e2,Nat.sub_self,List.getElem?_replicate,Ad ao9]
     clear q0 q1 q2;replace⟨ba,cM,aN,ct⟩:=H4 ba cM aN ct
     cases up with
     | false=>
      have hp:=λn=>aN.out n false rfl;replace hp:=Hh hp;go_region
      all_goals
       go_wp2;go_roundw
       case rel=>exact⟨k+1,by go_num,ao9,hp _⟩
       case measure=>simp[intOf];omega
     | true=>
      cases dr with
      | true=>
       have hp:=λn=>aN.out n false rfl;replace hp:=Hh hp;go_region
       all_goals
        go_wp2;go_roundw
        case rel=>exact⟨k+1,by go_num,ao9,hp _⟩
        case measure=>simp[intOf];omega
      | false=>
       by_cases hs:si<d
       .have dL:=Az hs;have hp:=λn=>aN.out n true (by rw[dL];rfl);replace hp:=Hh hp;go_region
        all_goals
         go_wp2;go_roundw
         case rel=>exact⟨k+1,by go_num,ao9,hp _⟩
         case measure=>simp[intOf];omega
       .have dL:=A2 hs;have hp:=λn=>aN.out n false (by rw[dL];rfl);replace hp:=Hh hp;go_region
        all_goals
         go_wp2;go_roundw
         case rel=>exact⟨k+1,by go_num,ao9,hp _⟩
         case measure=>simp[intOf];omega
    .have bb:¬(k:Int)<mn:=ao9;have eR:k=mn:=ao9;subst eR;have bF:Pl.Ni wr (O ⟨w5.heap.size,0,I⟩) k bs:=(by have h1:=hU.out;rw[Nat.sub_self,List.replicate_zero,Nv,C4 (by rw[aY.out];exact Nat.le_refl _)]at h1;have h2:=h1.done (by have:=aY.out;omega);rw[aY.out]at h2;exact h2);replace bF:=Hh bF
     obtain⟨ck,vn,c3,bw⟩:∃so n cap,T.cv=V so n cap/\n=T.vs.length:=by
      have hr:=ad.az;rw[f.out]at hr;rcases hr.2 with⟨e,h0⟩|⟨g,cap,eJ,e,_,_,h1,h2,_⟩
      .exact ⟨I,0,0,e,h0.symm⟩
      .exact ⟨_,_,_,e,rfl⟩
     have bW:∀W',BW w5.heap.size w5 W'->W'.cell? ⟨tb,1,I⟩=O (Z G d)/\W'.cell? ⟨tb,6,I⟩=O (V ck vn c3):=λW' hb=>by
      refine⟨(Af hb cS).trans n1,(Af hb cS).trans ?_⟩;rw[<-bw.1];exact Aa aQ.out 6
     have ec:∀W',BW w5.heap.size w5 W'->CS prog 137 #[K (O ⟨tb,0,I⟩),V uo (D1 (Ck d T.pl.ab)).length uc] W' (Ad8 T.vs W' (Ck d T.pl.ab)):=λW' hb=>by
      have e1:({ t with js:=ap }:Tv).pl.ab=Ck d T.pl.ab:=aS.out
      have h2:=A03 (T:={ t with js:=ap }) (ad.low hb) (by
       rw[e1,f.out]
       exact bo.b) (by show ap.length<=20;have:=b1.out;omega) uo (D1 (Ck d T.pl.ab)).length uc (by rw[e1];exact dl.low hb)
      rw[e1]at h2;rw[f.out]at h2;rw[show tb=T.tb from ht.out];exact h2
     have aF:=hU.low;have d7:Pl.O9 w5 ck vn (T.vs.map ar.cap):=by have hr:=ad.az;have hl:=ad.dt.ok.len;rw[f.out]at hr hl;have hl:T.vs.length<=16:=hl;have hr:w5.ownsRow 0 30 4 T.cv T.vs.length (Aw V4.cells (T.vs.map ar.cap)):=hr;rw[bw.1,show T.vs.length=(T.vs.map ar.cap).length by simp]at hr;exact A04 hr (by rw[bw.2];simp) (by rw[bw.2];omega)
     have ed:∀(W':WD) (ao:Option Addr) (l lc:Nat) (al:List Pl.Ask),BW wr.heap.size wr W'->Pl.Y6 W' ao l al->al.map Pl.Ask.er=Cj T.vs (Ck d T.pl.ab)->l<=1000000->CS prog 136 #[V ck vn c3,V (O ⟨w5.heap.size,0,I⟩) k k,Z G d,V ho hs.length eM,V ao l lc] W' (λe w'=>∃v rv,e=Y (E #[v,rv])/\yx w5 T.vs d bs (Ck d T.pl.ab) v rv w'):=λW' ao l lc al hb ha he hl=>
      A06 d7 c7.out (aF.trans (hb.mono aF.size)) (bF.below hb Ln) ha he hl (Pl.Nk.below c8.out (aF.trans (hb.mono aF.size)) (λ_ q=>q.below (aF.trans (hb.mono aF.size))))
     have cf:∀al:List Pl.Ask,al.map Pl.Ask.er=Cj T.vs (Ck d T.pl.ab)->al.length<=1000000:=λal he=>by
      have h1:=Cv List.length he;rw[Ar]at h1;have h2:=A05 T.vs (Ck d T.pl.ab);have h3:(Ck d T.pl.ab).length=ap.length:=(by rw[<-aS.out];simp);have h4:=b1.out;omega
     have aE:BW wr.heap.size wr wr.drew:=(Below.refl _ _).drew;replace⟨bF,bW,ec,aF,bw,d7,ed,cf⟩:=H8 bF bW ec aF bw d7 ed cf;replace aE:=Hh aE;go_wp2_with fail;go_cut [12,13] (λv rv wx=>yx w5 T.vs d bs (Ck d T.pl.ab) v rv wx)
     case first=>
      go_region_held3 (λW'=>W'.cell? ⟨tb,1,I⟩=O (Z G d)/\W'.cell? ⟨tb,6,I⟩=O (V ck vn c3))
       (first
         | with_reducible exact bW.out _ (aF.out.trans (aE.out.mono aF.out.size))
         | exact bW.out _ (aF.trans (aE.mono aF.size)).drew
         | exact bW.out _ co.1.low)
       (first
         | (go_at_call 137
            (with_reducible refine(ec.out _ (aF.out.trans (aE.out.mono aF.out.size))).mono ?_)
            rintro e w6 ⟨ao,fm,fl,al,rfl,rfl,bT,bg,eu⟩;replace aE:=Hh (aE.trans (eu.mono aE.size));have bS:=cf al bg;replace⟨bT,bg,bS⟩:=H3 bT bg bS
            clear eu)
         | (go_at_call 136
            (with_reducible refine(ed.out _ _ _ _ _ aE.out bT.out bg.out bS.out).mono ?_)
            rintro e w7 ⟨v7,fs,rfl,co⟩
            replace co:=Hh co))
      go_wp2_with fail;go_meet
      case rel=>exact co.out
     case rest=>
      obtain⟨⟨fv,bD,fu,sr,ef,rfl,rfl,cI,bY,b9,cH,cx,d6⟩,d5⟩:=hcut;have bJ:=bI.low cx;obtain⟨_,c4⟩:=bU _ _ bJ;have c9:B7 wc { t with js:=ap } ap wc:=B7.refl (T:={ t with js:=ap }) bJ.tab.at_;have bP:ap.map (λj=>j.2.pl)=Er B8 (Ck d T.pl.ab) 0:=aS.out;have aX:(Ck d T.pl.ab).length=mj:=(by rw[<-aS.out,<-b1.out];simp);replace⟨cI,bY,b9,cH,cx,d6,bJ,c9⟩:=H8 cI bY b9 cH cx d6 bJ c9;replace⟨bP,d5,aX⟩:=H3 bP d5 aX;go_wp2_with fail;clear c4;go_loopw [15,126] (λ_ i2 wr=>∃(p:Nat) (js:List (Nat×aj)),i2=Z G p/\p<=mj/\Hid (B7 wc { t with js:=ap } js wr)/\Hid (js.map (λj=>j.2.pl)=Er B8 (Ck d T.pl.ab) p)) (λ_ i2 _=>mj-(intOf i2).toNat)
      case atStart=>exact⟨0,ap,rfl,As _,c9,bP⟩
      case round=>
       obtain⟨p,cO,rfl,hp,hJ,hX⟩:=hrel;by_cases hc:p<mj
       .have bb:(p:Int)<mj:=ao9;have cG:(0:Int)<=(p:Int):=ao9;obtain⟨g2,j,rfl,hj,cr⟩:=row _ _ (bJ.then hJ.out) p hc;obtain⟨jb,jx⟩:=j;obtain⟨aR,b6⟩:=hJ.get hj;have eg:=Bk aR 14 (Z G jx.pl.lf.st) rfl
        have cF:∀y:aj,y.pl=B8 jx.pl->(cO.set p (jb,y)).map (λj=>j.2.pl)=Er B8 (Ck d T.pl.ab) (p+1):=λy hy=>by
         rw[N7 cO hj hy,hX.out];rfl
        have dK:=Ym aR;obtain⟨st,aH⟩:=Ex (jx.pl.lf.st);rw[<-aH]at eg;replace⟨hj,aR,b6,cF,dK,aH⟩:=H6 hj aR b6 cF dK aH;by_cases q:st=1
        .have d1:=Mw.2 q;have aK:=cF jx.bare (by unfold B8;rw[Ad (aH.symm.trans q)];rfl);replace⟨aK,q⟩:=H2 aK q;go_wp2_with fail;refine dK.mono ?_;rintro e w3 ⟨rfl,cU,bc⟩;have da:=hJ.uz hj.out bc cU (Yq jx) ⟨rfl,rfl,rfl,rfl⟩;clear cU bc;replace da:=Hh da;go_wp2;go_roundw
         case rel=>exact⟨p+1,_,by go_num,ao9,da,aK⟩
         case measure=>simp[intOf];omega
        .have d1:=Br.2 q;have aK:=cF jx (by unfold B8;rw[Ac (λc=>q (aH.trans c))]);rw[Zi hj.out]at aK;replace⟨aK,q⟩:=H2 aK q;go_wp2_with fail;go_roundw
         case rel=>exact⟨p+1,_,by go_num,ao9,hJ,aK⟩
         case measure=>simp[intOf];omega
       .have bb:¬(p:Int)<mj:=ao9;have eD:p=mj:=ao9;have am:=hX.out;rw[eD,<-aX.out,S5]at am;have dc:=oj.start bI.out cx.out hJ.out;obtain⟨L,hL⟩:=Ex (Fh T.vs d bs (Ck d T.pl.ab));obtain⟨Y9q,hY⟩:=Ex ((Ck d T.pl.ab).map B8);have dE:Y9q.length=mj:=(by rw[hY,Ar];exact aX.out);have dk:cO.map (λj=>j.2.pl)=F7 d (L.take 0) Y9q:=by rw[am,hY];rfl
        have ca:∀(i:Nat) (x:Int×Int×List Int),L[i]?=O x->∃(k:Nat) (j:Jb),(Ck d T.pl.ab)[k]?=O j/\x.1=(k:Int)+1/\j.lf.st=1/\j.parts=[]/\x.2.2.length<=16/\(F7 d (L.take i) Y9q)[k]?=O j.bare:=λi x hx=>by
         rw[hL]at hx ⊢;rw[hY];obtain⟨k,j,a1,a2,a3,a4,a5,_,a6⟩:=A09 bo.b d bs hx;exact⟨k,j,a1,a2,a3,a4,a5,a6⟩
        rw[<-hL]at bY;have fk:=b9.max
        have bi:∀(js:List (Nat×aj)) (W:WD),Ao W { t with js:=js }->W.cell? ⟨tb,1,I⟩=O (Z G d)/\W.cell? ⟨tb,4,I⟩=O (V cR mj bE):=λjs W hW=>by
         have:=hW.head;rw[f.out]at this;rw[ht.out];refine⟨Aa this 1,?_⟩;rw[Aa this 4];show O T.jv=_;rw[bB.out,aM.out]
        have bV:t.jv=V cR mj bE:=(by rw[f.out,aM.out];exact bB.out);obtain⟨iP,dO,eb,cd,ce⟩:=Cf Alr;clear hX am hJ eD;replace⟨dc,hL,hY,dE,dk,ca,bi,bV⟩:=H8 dc hL hY dE dk ca bi bV;replace⟨dO,eb,cd,ce⟩:=H4 dO eb cd ce;go_wp2_with fail;go_loopw [17,18,20,141,178] (λ_ _ _ i2 _ wr=>∃(i:Nat) (js:List (Nat×aj)),i2=Z G i/\i<=bD/\Hid (oj w w5 wc t js wr)/\Hid (js.map (λj=>j.2.pl)=F7 d (L.take i) Y9q)) (λ_ _ _ i2 _ _=>bD-(intOf i2).toNat)
        case atStart=>exact⟨0,cO,rfl,As _,dc,dk⟩
        case round=>
         obtain⟨i,aO,rfl,hi,hP,hX⟩:=hrel;by_cases hc:i<bD
         .have bb:(i:Int)<bD:=ao9;have fn:(0:Int)<=(i:Int):=ao9;obtain⟨s,hs⟩:=Ge ef i (by have:=cI.out;omega);have cb:=A07 b9.out hP.low (λb ci e c=>by have:=d6 b ci e;omega) (λs hs b ci e c=>by have:=cH s hs b ci e;omega);obtain⟨sb,cj,e9,c0,b8,eE⟩:=cb.cell i s hs;subst e9;have cm:L[i]?=O s.key:=(by rw[<-bY.out,A7,hs];rfl);obtain⟨k2,j0,dR,dP,c2,cG,a9,dG⟩:=ca i _ cm;have bX:k2<mj:=(by have h1:=(An.1 dR).1;have h2:=aX.out;omega);have dU:aO.length=mj:=(by have:=Cv List.length hX.out;rw[Ar,Aea,dE.out]at this;exact this);have aI:Pl.At wc s.go s.gn s.dn/\s.gn<=s.gc:=(by obtain⟨_,_,_,_,_,ho⟩:=b9.cell i _ hs;exact⟨ho.ah,ho.qg⟩);have bn:=cH _ (Ai hs);obtain⟨e0,r,aA,m,av,o⟩:=s;have dP:e0=(k2:Int)+1:=dP;subst dP;have a9:o.length<=16:=a9;have aI:Pl.At wc aA m o/\m<=av:=aI;have s0:wr.cell? ⟨sb,cj+i*3,I⟩=O (Z G ((k2:Int)+1)):=b8 0 ao9;have s1:wr.cell? ⟨sb,cj+i*3+1,I⟩=O (Z G r):=b8 1 ao9;have s2:wr.cell? ⟨sb,cj+i*3+2,I⟩=O (V aA m av):=b8 2 ao9;replace⟨hs,cb,b8,eE,cm,dR,c2,cG⟩:=H8 hs cb b8 eE cm dR c2 cG;replace⟨a9,dG,dU,aI,bn,c0⟩:=H6 a9 dG dU aI bn c0;go_upto_region 26 with fail;obtain⟨nb,d0⟩:=Ex (wr.heap.size);obtain⟨W1,aV⟩:=Ex (wr.alloc (J #[Z G ((k2:Int)+1),Z G r,V aA m av] 224 (0,0)));have dH:BW wr.heap.size wr W1:=(by rw[aV];exact Bn);have cJ:W1.heap[nb]?=O (J #[Z G ((k2:Int)+1),Z G r,V aA m av] 224 (0,0)):=(by rw[aV,d0];exact Ah _ _);rw[<-aV,<-d0];clear aV d0 s0 s1 s2;have bK:=hP.drop dH;obtain⟨g2,j,e8,hj,cr⟩:=Ao.rowAt (T:=t) bK.tab.at_ bV.out dU.out bX;obtain⟨jb,jx⟩:=j;subst e8;obtain⟨_,c4⟩:=bi _ _ bK.tab.at_;have p0:=Bk cJ 0 (Z G ((k2:Int)+1)) rfl;have fq:IntKind.i64.wrap ((k2:Int)+1-1)=(k2:Int):=(by rw[Int.add_sub_cancel];exact Ja ao9 ao9);have fd:(0:Int)<=(k2:Int):=ao9;have fe:(k2:Int)<mj:=ao9;replace⟨dH,cJ,bK,hj⟩:=H4 dH cJ bK hj;go_quiet (fail);rename_i nq;have bp:=bK.drop (A4 _ W1 nq);have be:(W1.drewN nq).heap[nb]?=O (J #[Z G ((k2:Int)+1),Z G r,V aA m av] 224 (0,0)):=cJ.out;obtain⟨W2,en⟩:=Ex (W1.drewN nq);rw[<-en]at bp be ⊢;clear en c4 cr p0;have aC:=bp.tab.at_.box _ (Ai hj.out);have a7:=bp.tab.at_.ok _ (Ai hj.out);have p1:=Bk be 1 (Z G r) rfl;have p2:=Bk be 2 (V aA m av) rfl;have ei:∃v,W2.cell? ⟨jb,19,I⟩=O v:=⟨_,Aa aC 19⟩;have ej:∃v,W2.cell? ⟨jb,20,I⟩=O v:=⟨_,Aa aC 20⟩;obtain⟨fx,ei⟩:=ei;obtain⟨fz,ej⟩:=ej;have em:=Ag aC
          have b3:nb≠jb:=λe=>by
           have h1:W2.heap[jb]?=_:=aC;rw[<-e,be]at h1;injection h1 with h1;injection h1 with _ h1;exact absurd h1 ad9
          have fg:=b3.symm
          have bC:jx.pl=j0.bare:=by
           have e1:(aO.map λj=>j.2.pl)[k2]?=O jx.pl:=(by simp[hj.out]);rw[hX.out,dG.out]at e1;injection e1 with e1;exact e1.symm
          replace⟨bp,be,aC,a7,bC⟩:=H5 bp be aC a7 bC;go_upto_region 27 with fail;go_region;obtain⟨W3,cs⟩:=Ex (((W2.setCell ⟨jb,19,I⟩ (Z G r)).setCell ⟨jb,20,I⟩ (V aA m av)).drew);have bc:Kb jb W2 W3:=(by rw[cs];exact(((Mod.refl (λk=>k=jb) W2).set jb 19 _ rfl).set jb 20 _ rfl).drew);have et:Bj W3 jb (jx.slot r aA m av o):=(by rw[cs];have h1:=Ap (Ap aC.out 19 (Z G r)) 20 (V aA m av);show((W2.setCell ⟨jb,19,I⟩ (Z G r)).setCell ⟨jb,20,I⟩ (V aA m av)).heap[jb]?=_;rw[h1];simp[aj.slot]);have ez:=U2 aC.out a7.parts bc;have bL:=bp.set hj.out (P7 bc) et ez (λb e=>.inl e) ⟨rfl,rfl,rfl,rfl⟩ (.inr ⟨aI.1,aI.2,bn.out⟩);have cK:=bc.au be.out b3;obtain⟨c1,_⟩:=bi _ _ bL.tab.at_;have q1:=Bk cK 1 (Z G r) rfl;have bx:(aO.set k2 (jb,jx.slot r aA m av o))[k2]?=O (jb,jx.slot r aA m av o):=by rw[List.getElem?_set_self (by have:=(An.1 hj.out).1;exact this)]
          have aU:∀y:aj,y.pl=Eu d r o j0.bare->(aO.set k2 (jb,y)).map (λj=>j.2.pl)=F7 d (L.take (i+1)) Y9q:=λy hy=>by
           rw[Pl.Oa cm.out,A08];show _=C9 _ ((k2:Int)+1) (Eu d r o);unfold C9;rw[show((k2:Int)+1-1).toNat=k2 by omega,<-hX.out];exact N7 aO hj.out (by rw[hy,bC.out])
          rw[<-cs];clear cs p1 p2 ei ej em bc et ez;replace⟨bL,cK,bx,aU⟩:=H4 bL cK bx aU;by_cases qs:r=d
          .have d1:=Mw.2 qs;replace qs:=Hh qs;go_upto_region 28 with fail;go_quiet (fail);have aL:=bL.drop (A4 _ W3 nq);have cL:(W3.drewN nq).heap[nb]?=O (J #[Z G ((k2:Int)+1),Z G r,V aA m av] 224 (0,0)):=cK.out;have b2:=S4 (aL.tab.at_.box _ (Ai bx.out)) 3 ao9;obtain⟨l,hl⟩:=Ex ((Ay (jx.slot r aA m av o).pl.lf 3).1);rw[<-hl]at b2;obtain⟨W4,eq⟩:=Ex (W3.drewN nq);rw[<-eq]at aL cL b2 ⊢;clear eq c1 q1;replace⟨aL,cL,b2,hl⟩:=H4 aL cL b2 hl;go_wp2_with fail;refine b2.mono ?_;rintro e e5 ⟨rfl,cT,cB⟩;have cY:=aL.tab.at_.ok _ (Ai bx.out);have cV:=aL.tab.at_.box _ (Ai bx.out);have eA:=U2 cV cY.parts cB;have dd:=aL.set bx.out (P7 cB) cT eA (λb e=>.inl e) ⟨rfl,rfl,rfl,rfl⟩ (.inl ⟨rfl,rfl,rfl,rfl⟩);rw[Qx]at dd;have d8:=cB.au cL.out b3;have q2:=Bk d8 2 (V aA m av) rfl;have cy:=aI.1.len
           have eC:∃jy:aj,oj w w5 wc t (aO.set k2 (jb,jy)) e5/\jy.pl=Lx d o l 0 j0.bare:=⟨_,dd,by
            show({ jx.pl with start:=r,ah:=o,lf:=l }:Jb)=_;rw[bC.out,qs.out]
            simp[Lx,Jb.bare]⟩
           have dT:(Eu d r o j0.bare)=Lx d o l m j0.bare:=(by rw[qs.out,A1a,hl.out,cy];show Lx d o (Ay j0.bare.lf 3).1 _ _=Lx d o (Ay jx.pl.lf 3).1 _ _;rw[bC.out]);obtain⟨eY,dg,d9⟩:=eC;have fc:m<=16:=(by have:=a9.out;omega);clear cT cB cY cV dd eA;replace⟨dg,d9,d8,cy,dT⟩:=H5 dg d9 d8 cy dT;go_wp2_with fail;clear q2;go_loopw [20,178] (λ_ i2 wr=>∃(q:Nat) (jy:aj),i2=Z G q/\q<=m/\Hid (oj w w5 wc t (aO.set k2 (jb,jy)) wr)/\Hid (jy.pl=Lx d o l q j0.bare)) (λ_ i2 _=>m-(intOf i2).toNat)
           case atStart=>exact⟨0,eY,rfl,As _,dg,d9⟩
           case round=>
            obtain⟨q,jy,rfl,hq,bM,ea⟩:=hrel;by_cases ew:q<m
            .have eN:(q:Int)<m:=ao9;have fo:(0:Int)<=(q:Int):=ao9;have bA:(aO.set k2 (jb,jy))[k2]?=O (jb,jy):=(by rw[List.getElem?_set_self (by have:=(An.1 hj.out).1;exact this)]);have dQ:=Ad9 aI.1 bM.low (λb ci e c=>by have:=bn b ci e;omega);obtain⟨gb,fa,e7,cW,eP⟩:=dQ.cell q ew;subst e7;obtain⟨z,hz⟩:=Ex (Pl.zi o q);rw[<-hz]at eP
             have cc:o[q]?=O z:=by
              rw[hz];have eW:q<o.length:=(by rw[cy.out];exact ew);simp[Pl.zi,List.getD,eW]
             have aZ:=bM.tab.at_.box _ (Ai bA);have cZ:=bM.tab.at_.ok _ (Ai bA);obtain⟨cQ,ac,cP,aG⟩:∃a b c,jy.po=a/\jy.pn=b/\jy.pc=c:=⟨_,_,_,rfl,rfl,rfl⟩;have e6:=Bk aZ 21 (V jy.po jy.pn jy.pc) rfl;rw[aG.1,aG.2.1,aG.2.2]at e6;have hA:=(Below.refl wr.heap.size wr).alloc Ln (J #[Z G z,Z G 0] 65);obtain⟨WA,dw⟩:=Ex (wr.alloc (J #[Z G z,Z G 0] 65));have cN:WA.heap[wr.heap.size]?=O (J (Fr (z,0)) 65 (0,0)):=(by rw[dw];exact Ah _ _);rw[<-dw]at hA;have bN:=bM.drop hA;have a0:=Ae hA aZ (Ab aZ);have bj:=bN.tab.at_.ok _ (Ai bA);have bk:WA.ownsRow 0 65 2 (V jy.po jy.pn jy.pc) jy.pn (Aw Fr jy.pl.parts):=bj.parts;have bZ:=Ks bj.parts;rw[aG.1,aG.2.1,aG.2.2,show ac=jy.pl.parts.length from by rw[bZ,aG.2.1]]at bk;have a8:Bc Fr 2 65 WA 0 (V cQ ac cP) jy.pl.parts:=⟨by rw[show ac=jy.pl.parts.length from by rw[bZ,aG.2.1]];exact bk⟩;have cC:jy.pl.parts.length=ac:=by rw[bZ,aG.2.1]
             have b7:∀u∈(Fr (z,0)).toList,u.oneCell'=true:=by intro u hu;simp at hu;rcases hu with rfl|rfl<;>rfl
             have es:0<=WA.heap.size:=As _
             have eU:ac<=1000000:=by
              have h1:jy.pl.parts.length=([]++(o.take q).map λn=>(n,(0:Int))).length:=(by rw[ea.out];show(j0.parts++_).length=_;rw[cG.out]);rw[Sb,Ar,Fl]at h1;omega
             replace⟨bA,dQ,cW,hz,cc,aZ,cZ,aG⟩:=H8 bA dQ cW hz cc aZ cZ aG;replace⟨hA,cN,bN,a0,bj,bk,bZ,a8⟩:=H8 hA cN bN a0 bj bk bZ a8;replace⟨cC,b7⟩:=H2 cC b7;rw[dw]at cN bN a0 a8 es;go_wp2_with (at_builtin;refine Vp (cells:=Fr) (sz:=2) rfl _ _ 44 rfl 0 iP _ 16 Aa0 dO.out eb.out cd.out ce.out rfl (Iy _) ad9 (λ_=>rfl) (V cQ ac cP) rfl ac a8.out cC.out wr.heap.size 1 rfl (z,0) b7.out cN.out eU es ?_;intro g9 aB w9 h9 ex dF;have cD:=Mod.grown (S:=λk=>(Value.slice cQ ac cP).ownBlock=O k) ex (λk hk=>hk);have aP:=cD.au a0.out (λe=>Bv a8.row a0.out ad9 e);have eI:=Aa aP 21;have em:=Ag aP 21;simp at eI;replace⟨h9,cD,aP,dF⟩:=H4 h9 cD aP dF;clear ex);go_roundw
             have eL:oj w w5 wc t (aO.set k2 (jb,jy.part (z,0) g9 (ac+1) aB)) (w9.setCell ⟨jb,21,I⟩ (V (O ⟨g9,0,I⟩) (ac+1) aB)):=by
              have eB:jy.pb=(Value.slice cQ ac cP).ownBlock:=(by unfold aj.pb;rw[aG.1,aG.2.1,aG.2.2]);have aM:=Mod.setCell (S:=λk=>k=jb) w9 jb 21 (V (O ⟨g9,0,I⟩) (ac+1) aB) rfl;have hm:=(cD.mono (S':=G3 (jb,jy)) λk _ c=>.inr (by rw[eB];exact c)).set jb 21 (V (O ⟨g9,0,I⟩) (ac+1) aB) (.inl rfl)
              have eV:Ca (w9.setCell ⟨jb,21,I⟩ (V (O ⟨g9,0,I⟩) (ac+1) aB)) (jy.part (z,0) g9 (ac+1) aB):=by
               have h1:=(h9.mod aM (λk hk e=>by
                subst e
                exact Bv h9.row aP.out ad9 hk)).row
               rw[Cn,cC.out]at h1;exact h1
              have ev:Bj (w9.setCell ⟨jb,21,I⟩ (V (O ⟨g9,0,I⟩) (ac+1) aB)) jb (jy.part (z,0) g9 (ac+1) aB):=by unfold Bj;rw[Ap aP.out];simp[aj.part]
              have h1:=bN.set bA.out hm ev eV (λb e=>by
               have e:(Value.slice (O ⟨g9,0,I⟩) (ac+1) aB).ownBlock=O b:=e;simp[Value.ownBlock]at e;subst e;rcases dF.out with c|c
               .exact .inl (by rw[eB];exact c)
               .exact .inr ao9) ⟨rfl,rfl,rfl,rfl⟩ (.inl ⟨rfl,rfl,rfl,rfl⟩)
              rw[Qx]at h1;exact h1
             have eX:(jy.part (z,0) g9 (ac+1) aB).pl=Lx d o l (q+1) j0.bare:=by show({ jy.pl with parts:=jy.pl.parts++[(z,0)] }:Jb)=_;rw[ea.out];unfold Lx;rw[Pl.Oa cc.out];simp
             case rel=>exact⟨q+1,_,by go_num,ao9,eL,eX⟩
             case measure=>simp[intOf];omega
            .have eN:¬(q:Int)<m:=ao9;have d4:q=m:=ao9;have dC:=aU jy (by rw[ea.out,d4,dT.out]);replace⟨dC,d4⟩:=H2 dC d4;go_wp2_with fail;go_roundw
             case rel=>exact⟨i+1,_,by go_num,ao9,bM,dC⟩
             case measure=>simp[intOf];omega
          .have d1:=Br.2 qs
           have dB:=aU (jx.slot r aA m av o) (by
            rw[A1b o _ qs];show({ jx.pl with start:=r,ah:=o }:Jb)=_;rw[bC.out]
            simp[Lx,Jb.bare])
           replace⟨dB,qs⟩:=H2 dB qs;go_upto_region 28 with fail;go_quiet (fail);have aL:=bL.drop (A4 _ W3 nq);replace aL:=Hh aL;go_wp2_with fail;go_roundw
           case rel=>exact⟨i+1,_,by go_num,ao9,aL,dB⟩
           case measure=>simp[intOf];omega
         .have bb:¬(i:Int)<bD:=ao9;have cw:=hX.out;have db:L.length=bD:=(by rw[<-bY.out,Ar,cI.out]);rw[C4 (by rw[db];omega)]at cw;obtain⟨r0,r1,r2⟩:=C3 hP.res;(try dsimp only at r0 r1 r2);have fr:=Ag hP.res;have hD:=hP.done h.out (by rw[f.out]) (by rw[f.out]) (Z G 0) (Z G 0) (Z G 0);replace⟨cw,db,hD⟩:=H3 cw db hD;go_wp2_with fail;refine Al (v:=Ir ⟨0,0,0,0⟩) (by simp[results,results83,go_sem,r0,r1,r2]) rfl ⟨⟨rfl,?_⟩,?_⟩
          .have hD:=hD.out;rw[f.out]at hD;refine⟨_,⟨hD.at_,rfl,rfl,rfl,rfl,rfl,hD.ax,hD.mod,hD.fh⟩,?_⟩;show(⟨T.ai,d,T.cls,T.nodes,aO.map λj=>j.2.pl⟩:dq)=_;rw[cw.out,hL.out,hY.out,bv.out];rfl
          .have:=d5.out;rw[bv.out]at this;exact this
def A1m   (xn:dm) (bL:Option Addr) (xm xc:Nat) (d:List ay) (h:Ao w T) (hA:Cs T.vs T.pl.ab) (hj:T.js.length<=100) (bK:∀W',Mod T.ax w W'->Kv W' bL xm d) (hm:xm<=1000) (h0:(Cm T.vs T.js.length (d.map ay.pl)).2=0) :
  CS prog 82 #[K (O ⟨T.tb,0,I⟩),(⟨xn,bL,xm,xc,d⟩:de).val] w (Qp w T (No T.vs T.pl (d.map ay.pl)).1 (No T.vs T.pl (d.map ay.pl)).2):=by
 obtain⟨iP,c6,dB,b9,ca⟩:=Cf A1h;have aE:=tx.new w ⟨xn,bL,xm,xc,d⟩;obtain⟨W0,cV⟩:=Ex ((w.alloc (J (⟨xn,bL,xm,xc,d⟩:de).cells 40 (0,0))).alloc (J #[Z G 0,Z G 0,Z G 0] 35 (0,0)));rw[<-cV]at aE;have c7:T.pl.ab.length=T.js.length:=by simp[Tv.pl]
 obtain⟨R,hR⟩:=Ex ((Cm T.vs T.js.length (d.map ay.pl)).1);have bM:Cm T.vs T.js.length (d.map ay.pl)=(R,0):=by rw[hR,<-h0]
 obtain⟨o1,o2,o3⟩:=Adx h0;have dK:=Ads (by rw[<-o3];exact h0);rw[<-o3,<-hR]at dK;obtain⟨r1,_,r3,_,r5⟩:=dK;have bJ:=(bK w (Mod.refl _ _)).len;have bN:R.length=xm:=by rw[r1,Ar,Ar,bJ]
 have aS:∀l,l∈R->l.length<=1000:=λl hl=>by
  obtain⟨_,l0,d9,cA⟩:=r5 l hl;obtain⟨s,hs,rfl⟩:=A5.1 d9;obtain⟨_,_,_,q4,_⟩:=Gy (Jd (o1 s hs));have:=Yg q4;omega
 have cC:∀s,s∈d->El s.pl=true:=λs hs=>Jd (o1 _ (F1 hs));have a4:No T.vs T.pl (d.map ay.pl)=(T.pl.gq (C2 (Es ((d.map ay.pl).zip R) T.pl.ab)),⟨0,0,(T.js.length:Int)+1,((Es ((d.map ay.pl).zip R) T.pl.ab).length:Int)⟩):=by unfold No;rw[c7,bM]
 have bn:Cs T.vs (C2 (Es ((d.map ay.pl).zip R) T.pl.ab))/\(C2 (Es ((d.map ay.pl).zip R) T.pl.ab)).length<=100:=by have:=Alp (vs:=T.vs) (t:=T.pl) (l:=d.map ay.pl) hA (by rw[c7];exact h0);rw[a4]at this;exact this
 obtain⟨so,cap,cx,cA,bZ,_⟩:=h.og;have a5:=A1l (h.low aE.low) ao9 bL xm xc d (bK W0 (Mod.af aE.low)) hm bM;have e9:=Bk aE.box 9 (V bL xm xc) rfl;have ci:=(Eg.refl h).low aE.low;obtain⟨N,hN⟩:=Ex (T.js.length);obtain⟨tb,ht⟩:=Ex (T.tb);have eb:IntKind.i64.wrap ((N:Int)+1)=(N:Int)+1:=Ja ao9 ao9;have d1:N<=100:=ao9
 rw[<-ht]at a5;rw[<-ht];rw[a4];clear hR h0 c7;replace⟨h,hA,bK,hm,bM,o1,o2,o3⟩:=H8 h hA bK hm bM o1 o2 o3;replace⟨r1,r3,r5,bJ,bN,aS,cC,a4⟩:=H8 r1 r3 r5 bJ bN aS cC a4;replace⟨bn,cx,cA,bZ,a5,aE,ci,hN⟩:=H8 bn cx cA bZ a5 aE ci hN;replace⟨ht,c6,dB,b9,ca,hj⟩:=H6 ht c6 dB b9 ca hj;go_enter func82,ntmps82;go_upto_region 1 with fail;rw[<-cV];clear cV;go_upto_region 2 with(go_at_call 58;(with_reducible refine(a5.out).mono ?_);rintro e w1 ⟨g,s2,rfl,aV,aX⟩;replace⟨aV,aX⟩:=H2 aV aX);have bO:=ci.low aX.out;have c4:w1.cell? ⟨tb,4,I⟩=O (V so N cap):=by rw[ht.out,hN.out,<-cx.out];exact Aa bO.at_.head 4
 have dH:=(Af aX.out (Ab aE.box)).trans e9;have dw:=Bq (Ab aE.box) aX.size;clear e9;replace bO:=Hh bO;go_upto_region 3 with fail;obtain⟨W2,cj⟩:=Ex (w1.alloc (J #[Z G 0,Z G ((N:Int)+1),Z G 0] 35 (0,0)));obtain⟨rb,cH⟩:=Ex (w1.heap.size);have a8:BW w1.heap.size w1 W2:=by rw[cj];exact Bn
 have bC:W2.heap[rb]?=O (J #[Z G 0,Z G ((N:Int)+1),Z G 0] 35 (0,0)):=by rw[cj,cH];exact Ah _ _
 rw[<-cj,<-cH];have dS:w.heap.size<rb:=by rw[cH];exact dw
 clear cj cH;have e9:=(Af a8 dw).trans dH;have cd:qx w T rb W0.heap.size g R.length s2 R T.jv T.js W2:=⟨bO.low a8,Ae a8 (Ae aX.out aE.res (Ab aE.res)) (Bq (Ab aE.res) aX.size),by rw[<-hN.out];exact bC,aV.low a8,λj hj=>⟨λc k o e=>by have:=Mc (h.ok j hj).after.row c e;omega,λc k o e=>by have:=Mc (h.ok j hj).ah.row c e;omega⟩,Je.refl _ _⟩;have co:T.js.map (λj=>j.2.pl)=Es (((d.map ay.pl).zip R).take 0) T.pl.ab:=rfl;clear dH c4 dw;replace⟨a8,bC,cd,co⟩:=H4 a8 bC cd co;go_wp2_with fail;clear e9;go_loopw [8,9,11,12,13,32,40] (λ_ _ _ _ _ iv _ wr=>∃(i:Nat) (jv:VL) (js:List (Nat×aj)),iv=Z G i/\i<=xm/\Hid (qx w T rb W0.heap.size g R.length s2 R jv js wr)/\Hid (js.map (λj=>j.2.pl)=Es (((d.map ay.pl).zip R).take i) T.pl.ab)/\Hid (js.length<=N+20*i)) (λ_ _ _ _ _ iv _ _=>xm-(intOf iv).toNat)
 case atStart=>exact⟨0,T.jv,T.js,rfl,As _,cd,co,Hh (by have:=hN.out;omega)⟩
 case round=>
  obtain⟨i,jv,js,rfl,d5,hL,hX,cQ⟩:=hrel;by_cases hc:i<xm
  .have dJ:(i:Int)<xm:=ao9;have d4:(0:Int)<=(i:Int):=ao9;obtain⟨sp,hx⟩:=Ge d i (by have:=bJ.out;omega);have cJ:=bK wr hL.sub.mod;obtain⟨b,aH,rfl,dg,aA,bI⟩:=cJ.cell i sp hx;have b3:=cC sp (Ai hx);obtain⟨row,ak⟩:=Ge R i (by have:=bN.out;omega);have b6:((d.map ay.pl).zip R).take (i+1)=((d.map ay.pl).zip R).take i++[(sp.pl,row)]:=Jq (by rw[We];exact⟨by rw[A7,hx];rfl,ak⟩);have aU:=aS row (Ai ak);have bT:=λW (hb:BW wr.heap.size wr W)=>A1k (bI.low hb) b3;have cL:=bI.user;have cF:=bI.part;obtain⟨bi,aL⟩:=Ex (sp.pl.array.toNat);rw[<-aL]at bT;have bH:bi<=20:=(by obtain⟨_,_,_,_,_,_,_,q8,_⟩:=Gy b3;obtain⟨b1,b2⟩:=Ig.1 q8;omega);obtain⟨S0,aI⟩:=Ex (sp.pl);rw[<-aI]at b6 aL;have cw:i<R.length:=(by have:=bN.out;omega);have dL:(i:Int)<(R.length:Int):=ao9;obtain⟨⟨x,p,nodes,⟨da,db,dc,dd⟩,z,r,array,ae,f,after⟩,dE,sn,dD⟩:=sp;replace aI:S0=⟨x,p,nodes,⟨da,db,dc,dd⟩,z,r,array,ae,f,after⟩:=aI;have z0:wr.cell? ⟨b,aH+i*13,I⟩=O (D x):=aA 0 ao9;have z1:wr.cell? ⟨b,aH+i*13+1,I⟩=O (D p):=aA 1 ao9;have z2:wr.cell? ⟨b,aH+i*13+2,I⟩=O (Z G nodes):=aA 2 ao9;have z3:wr.cell? ⟨b,aH+i*13+3,I⟩=O (Z G da):=aA 3 ao9;have z4:wr.cell? ⟨b,aH+i*13+4,I⟩=O (Z G db):=aA 4 ao9;have z5:wr.cell? ⟨b,aH+i*13+5,I⟩=O (Z G dc):=aA 5 ao9;have z6:wr.cell? ⟨b,aH+i*13+6,I⟩=O (Z G dd):=aA 6 ao9;have z7:wr.cell? ⟨b,aH+i*13+7,I⟩=O (Z G z):=aA 7 ao9;have z8:wr.cell? ⟨b,aH+i*13+8,I⟩=O (Z G r):=aA 8 ao9;have z9:wr.cell? ⟨b,aH+i*13+9,I⟩=O (Z G array):=aA 9 ao9;have em:wr.cell? ⟨b,aH+i*13+10,I⟩=O (Z G ae):=aA 10 ao9;have en:wr.cell? ⟨b,aH+i*13+11,I⟩=O (Q f):=aA 11 ao9;have ep:wr.cell? ⟨b,aH+i*13+12,I⟩=O (V dE sn dD):=aA 12 ao9;replace⟨hx,cJ,dg,aA,bI,b3,ak,b6⟩:=H8 hx cJ dg aA bI b3 ak b6;replace⟨aU,bT,cL,cF,aL,bH,aI,cw⟩:=H8 aU bT cL cF aL bH aI cw;go_upto_region 6 with fail;clear z0 z1 z2 z3 z4 z5 z6 z7 z8 z9 em en ep;obtain⟨nb,dk⟩:=Ex (wr.heap.size);obtain⟨W3,ck⟩:=Ex (wr.alloc (J (⟨⟨x,p,nodes,⟨da,db,dc,dd⟩,z,r,array,ae,f,after⟩,dE,sn,dD⟩:ay).cells 33 (0,0)));have bQ:BW wr.heap.size wr W3:=(by rw[ck];exact Bn);have cM:W3.heap[nb]?=O (J (⟨⟨x,p,nodes,⟨da,db,dc,dd⟩,z,r,array,ae,f,after⟩,dE,sn,dD⟩:ay).cells 33 (0,0)):=(by rw[ck,dk];exact Ah _ _);rw[<-ck,<-dk];clear ck dk;obtain⟨x0,x1,x2,x3,x4,x5,x6,x7,x8,x9,dZ,x11,x12⟩:=C13 cM;(try dsimp only at x0 x1 x2 x3 x4 x5 x6 x7 x8 x9 dZ x11 x12);have bl:=bT W3 bQ;replace⟨bQ,cM,bl⟩:=H3 bQ cM bl;go_wp2_with (go_at_call 128;(with_reducible refine(bl.out).mono ?_);rintro e w4 ⟨g2,ej,c2,rfl,cy,aY,cG,aT,cr⟩;replace⟨cy,aY,cG,aT,cr⟩:=H5 cy aY cG aT cr);clear x0 x1 x2 x3 x4 x5 x6 x7 x8 x9 dZ x11 x12;have ce:=(hL.low bQ.out).low cr.out;have cp:js.map (λj=>j.2.pl)=F6 S0 row (js.map λj=>j.2.pl) 0:=rfl;replace⟨ce,cp⟩:=H2 ce cp;go_loopw [11,12,13,40] (λ_ _ _ kv wr=>∃(k:Nat) (jv:VL) (aC:List (Nat×aj)),kv=Z G k/\k<=bi/\Hid (qx w T rb W0.heap.size g R.length s2 R jv aC wr)/\Hid (aC.map (λj=>j.2.pl)=F6 S0 row (js.map λj=>j.2.pl) k)/\Hid (wr.heap[g2]?=O (J c2 33 (0,0)))/\Hid (aC.length<=N+20*i+k)) (λ_ _ _ kv _=>bi-(intOf kv).toNat)
   case atStart=>exact⟨0,jv,js,rfl,As _,ce,cp,aY,cQ⟩
   case round=>
    obtain⟨k,dT,aC,rfl,d8,hL,hY,aY,bs⟩:=hrel;by_cases d2:k<bi
    .have cO:(k:Int)<bi:=ao9;have d7:(0:Int)<=(k:Int):=ao9;obtain⟨y,hy⟩:=Ge ej k (by have:=cy.out;have:=aL.out;rw[aI.out]at this;omega);have dA:=aT k y hy
     have aB:∀o,o<13->wr.cell? ⟨g2,k*13+o,I⟩=y.cells[o]?:=λo ho=>by rw[Aa aY.out];exact cG.done k y hy o ho
     obtain⟨ek,dF,yn,yc⟩:=y;replace dA:ek=⟨x,p,nodes,⟨da,db,dc,dd⟩,z,r,1,ae,f,after⟩:=dA;subst dA;have v0:wr.cell? ⟨g2,k*13,I⟩=O (D x):=aB 0 ao9;have v1:wr.cell? ⟨g2,k*13+1,I⟩=O (D p):=aB 1 ao9;have v2:wr.cell? ⟨g2,k*13+2,I⟩=O (Z G nodes):=aB 2 ao9;have v3:wr.cell? ⟨g2,k*13+3,I⟩=O (Z G da):=aB 3 ao9;have v4:wr.cell? ⟨g2,k*13+4,I⟩=O (Z G db):=aB 4 ao9;have v5:wr.cell? ⟨g2,k*13+5,I⟩=O (Z G dc):=aB 5 ao9;have v6:wr.cell? ⟨g2,k*13+6,I⟩=O (Z G dd):=aB 6 ao9;have v7:wr.cell? ⟨g2,k*13+7,I⟩=O (Z G z):=aB 7 ao9;have v8:wr.cell? ⟨g2,k*13+8,I⟩=O (Z G r):=aB 8 ao9;have v9:wr.cell? ⟨g2,k*13+9,I⟩=O (Z G 1):=aB 9 ao9;have dW:wr.cell? ⟨g2,k*13+10,I⟩=O (Z G ae):=aB 10 ao9;have dX:wr.cell? ⟨g2,k*13+11,I⟩=O (Q f):=aB 11 ao9;have dY:wr.cell? ⟨g2,k*13+12,I⟩=O (V dF yn yc):=aB 12 ao9;replace⟨hy,aB⟩:=H2 hy aB;go_upto_block 3 with fail;go_cut [11,12,13] (λ_ _ _ wx=>yw w T rb W0.heap.size g R.length s2 R (F6 S0 row (js.map λj=>j.2.pl) (k+1)) (N+20*i+(k+1)) g2 c2 wx)
     case first=>
      go_upto_region 9 with fail;clear v0 v1 v2 v3 v4 v5 v6 v7 v8 v9 dW dX dY;obtain⟨ob,dr⟩:=Ex (wr.heap.size);obtain⟨W5,cl⟩:=Ex (wr.alloc (J (⟨⟨x,p,nodes,⟨da,db,dc,dd⟩,z,r,1,ae,f,after⟩,dF,yn,yc⟩:ay).cells 33 (0,0)));have a9:BW wr.heap.size wr W5:=(by rw[cl];exact Bn);have b7:W5.heap[ob]?=O (J (⟨⟨x,p,nodes,⟨da,db,dc,dd⟩,z,r,1,ae,f,after⟩,dF,yn,yc⟩:ay).cells 33 (0,0)):=(by rw[cl,dr];exact Ah _ _);rw[<-cl,<-dr];have bB:wr.heap.size<=ob:=ao9;clear cl dr;have cf:=hL.low a9;obtain⟨ei,rn,rc,rl,e1,e2,e3,e4,e5⟩:=cf.rows.get cw.out;rw[ak.out]at e2;injection e2 with e2;subst e2;obtain⟨_,_,_,e6,e7,e8,_⟩:=P5 e5;injection e6 with a1 a2 a3;subst a1 a2 a3;have cI:rn<=1000:=(by have:=aU.out;omega);have cN:=Zl ei rn rc row W5 e8 cI;have dR:=Ab b7;replace⟨a9,b7,cf,bB,e1,e3,e5,e7⟩:=H8 a9 b7 cf bB e1 e3 e5 e7;replace⟨e8,cI,cN⟩:=H3 e8 cI cN;go_upto_region 10 with(go_at_call 87;(with_reducible refine(cN.out).mono ?_);rintro e w6 ⟨ap,nc,rfl,cD,cE,bG,bR⟩;have bf:=Ae bR b7.out dR;have dU:=Aa bf 12;have of:=Ag bf;simp at dU;replace⟨cD,cE,bG,bR,bf⟩:=H5 cD cE bG bR bf);obtain⟨W7,bP⟩:=Ex (w6.setCell ⟨ob,12,I⟩ (V ap rn nc));have bg:W7.heap[ob]?=O (J (⟨⟨x,p,nodes,⟨da,db,dc,dd⟩,z,r,1,ae,f,after⟩,ap,rn,nc⟩:ay).cells 33 (0,0)):=(by rw[bP];have:=Ap bf.out 12 (V ap rn nc);simpa using this);have bY:Mod (λk=>k=ob) w6 W7:=(by rw[bP];exact Mod.setCell (S:=λk=>k=ob) w6 ob 12 (V ap rn nc) rfl);have bF:BW wr.heap.size wr W7:=by rw[bP];exact Cr (a9.trans (bR.mono a9.size)) bB.out
      have aZ:∀q o,ap=O ⟨q,o,I⟩->q≠ob:=λq o e c=>by
       obtain⟨_,_,_,cc,hc⟩:=bG q o e;rw[c,bf.out]at hc;injection hc with hc;injection hc with _ hc;exact absurd hc ad9
      have bx:=Amr cE.out bY aZ
      have bw:∀q o,ap=O ⟨q,o,I⟩->∃cc,W7.heap[q]?=O (J cc 3 (0,0)):=λq o e=>by
       obtain⟨_,_,_,cc,hc⟩:=bG q o e;exact⟨cc,bY.au hc (aZ q o e)⟩
      rw[<-bP];have ch:=hL.low bF;have ef:=Bk bg 10 (Z G ae) rfl;have eg:=Bk bg 11 (Q f) rfl;have cb:=Ash ae f W7;obtain⟨⟨im,an,al,lw,am⟩,bX⟩:∃l,l=(Lb ae f).1:=⟨_,rfl⟩;obtain⟨ew,bv⟩:=Ex ((Lb ae f).2);rw[<-bX,<-bv]at cb;clear bP dU of;replace⟨bg,bY,bF,aZ,bx,bw,ch,cb⟩:=H8 bg bY bF aZ bx bw ch cb;replace⟨bX,bv⟩:=H2 bX bv;go_upto_region 11 with(go_at_call 129;(with_reducible refine(cb.out).mono ?_);rintro e w8 ⟨rfl,bS⟩;replace bS:=Hh bS);obtain⟨W9,cm⟩:=Ex (w8.alloc (J #[Z G im,Z G an,Z G al,Q lw,Q am] 43 (0,0)));obtain⟨lb,c9⟩:=Ex (w8.heap.size);have ct:BW w8.heap.size w8 W9:=(by rw[cm];exact Bn);have bW:W9.heap[lb]?=O (J #[Z G im,Z G an,Z G al,Q lw,Q am] 43 (0,0)):=(by rw[cm,c9];exact Ah _ _);rw[<-cm,<-c9];clear cm c9 ef eg;have aJ:=bS.trans (ct.mono bS.size);have b8:=Ae aJ bg.out (Ab bg.out);have aF:=ch.low aJ;have bA:=bx.low aJ
      have a0:∀q o,ap=O ⟨q,o,I⟩->∃cc,W9.heap[q]?=O (J cc 3 (0,0)):=λq o e=>by
       obtain⟨cc,hc⟩:=bw q o e;exact⟨cc,Ae aJ hc (Ab hc)⟩
      have bo:=Ae (bF.trans (aJ.mono bF.size)) aY.out (Ab aY.out);obtain⟨ao,ad,aK,bV,bc,_⟩:=aF.sub.at_.og;obtain⟨n2,aG⟩:=Ex (aC.length);replace aK:dT=V ao n2 ad:=(by rw[aG];exact aK);subst aK;have b4:n2<=30000:=(by have:=bs.out;have:=hm.out;have:=bH.out;omega);have ev:IntKind.i64.wrap ((n2:Int)+1)=(n2:Int)+1:=Ja ao9 ao9;have cS:=If (n:=n2) ao9;have c1:(n2+1)*8<=140737488355328:=ao9;have m:=aF.sub.at_.head;replace m:W9.heap[tb]?=O (J #[Z G T.ai,Z G T.tick,.map (O T.mb),T.nv,V ao n2 ad,K (O ⟨T.fb,0,I⟩),T.cv] 115 (0,0)):=(by rw[ht.out];exact m);have av:W9.ownsRow 0 125 1 (V ao n2 ad) n2 (aC.map λj=>K (O ⟨j.1,0,I⟩)):=by rw[aG];rw[aG]at aF;exact aF.sub.at_.ab
      have dI:∀W':WD,Mod (λk=>k=tb\/(Value.slice ao n2 ad).ownBlock=O k) W9 W'->W'.cell? ⟨ob,0,I⟩=O (D x)/\W'.cell? ⟨ob,1,I⟩=O (D p)/\W'.cell? ⟨ob,2,I⟩=O (Z G nodes)/\W'.cell? ⟨ob,3,I⟩=O (Z G da)/\W'.cell? ⟨ob,4,I⟩=O (Z G db)/\W'.cell? ⟨ob,5,I⟩=O (Z G dc)/\W'.cell? ⟨ob,6,I⟩=O (Z G dd)/\W'.cell? ⟨ob,7,I⟩=O (Z G z)/\W'.cell? ⟨ob,8,I⟩=O (Z G r)/\W'.cell? ⟨ob,9,I⟩=O (Z G 1)/\W'.cell? ⟨ob,10,I⟩=O (Z G ae)/\W'.cell? ⟨ob,11,I⟩=O (Q f)/\W'.cell? ⟨ob,12,I⟩=O (V ap rn nc)/\W'.cell? ⟨lb,0,I⟩=O (Z G im)/\W'.cell? ⟨lb,1,I⟩=O (Z G an)/\W'.cell? ⟨lb,2,I⟩=O (Z G al)/\W'.cell? ⟨lb,3,I⟩=O (Q lw)/\W'.cell? ⟨lb,4,I⟩=O (Q am):=λW' hm=>by
       have nt:∀ {q:Nat} {c:Array VL} {Ty:TypeId},W9.heap[q]?=O (J c Ty (0,0))->Ty≠115->Ty≠125->¬(q=tb\/(Value.slice ao n2 ad).ownBlock=O q):=λhq h1 h2 e=>by
        rcases e with e|e
        .rw [e,m]at hq;injection hq with hq;injection hq with _ hq;exact h1 hq.symm
        .exact Bv av hq (λe=>h2 e.symm) e
       have z2:=hm.au b8 (nt b8 ad9 ad9);have z3:=hm.au bW (nt bW ad9 ad9);exact⟨Aa z2 0,Aa z2 1,Aa z2 2,Aa z2 3,Aa z2 4,Aa z2 5,Aa z2 6,Aa z2 7,Aa z2 8,Aa z2 9,Aa z2 10,Aa z2 11,Aa z2 12,Aa z3 0,Aa z3 1,Aa z3 2,Aa z3 3,Aa z3 4⟩
      obtain⟨p0,p1,p2,p3,p4,p5,p6,p7,p8,p9,ex,ey,ez,q0,q1,q2,q3,q4⟩:=dI W9 (Mod.refl _ _);have dG:=Bk m 4 (V ao n2 ad) rfl;have cR:=Ab m;have bD:BW W9.heap.size W9 (W9.alloc (J #[Z G ((n2:Int)+1),D x,D p,Z G nodes,Z G da,Z G db,Z G dc,Z G dd,Z G z,Z G r,Z G 1,Z G ae,Q f,V ap rn nc,Z G im,Z G an,Z G al,Q lw,Q am,Z G (-1),V I 0 0,V I 0 0] 46)):=Bn;have aW:BW W9.heap.size W9 ((W9.alloc (J #[Z G ((n2:Int)+1),D x,D p,Z G nodes,Z G da,Z G db,Z G dc,Z G dd,Z G z,Z G r,Z G 1,Z G ae,Q f,V ap rn nc,Z G im,Z G an,Z G al,Q lw,Q am,Z G (-1),V I 0 0,V I 0 0] 46)).alloc (J #[K (O ⟨W9.heap.size,0,I⟩)] 125)):=bD.alloc bD.size _;have es:=(Af bD cR).trans dG;have et:=(Af aW cR).trans dG;have bp:((W9.alloc (J #[Z G ((n2:Int)+1),D x,D p,Z G nodes,Z G da,Z G db,Z G dc,Z G dd,Z G z,Z G r,Z G 1,Z G ae,Q f,V ap rn nc,Z G im,Z G an,Z G al,Q lw,Q am,Z G (-1),V I 0 0,V I 0 0] 46)).alloc (J #[K (O ⟨W9.heap.size,0,I⟩)] 125)).heap[W9.heap.size]?=O (J #[Z G ((n2:Int)+1),D x,D p,Z G nodes,Z G da,Z G db,Z G dc,Z G dd,Z G z,Z G r,Z G 1,Z G ae,Q f,V ap rn nc,Z G im,Z G an,Z G al,Q lw,Q am,Z G (-1),V I 0 0,V I 0 0] 46 (0,0)):=Aj _ (Ah _ _);have b5:((W9.alloc (J #[Z G ((n2:Int)+1),D x,D p,Z G nodes,Z G da,Z G db,Z G dc,Z G dd,Z G z,Z G r,Z G 1,Z G ae,Q f,V ap rn nc,Z G im,Z G an,Z G al,Q lw,Q am,Z G (-1),V I 0 0,V I 0 0] 46)).alloc (J #[K (O ⟨W9.heap.size,0,I⟩)] 125)).heap[W9.heap.size+1]?=O (J #[K (O ⟨W9.heap.size,0,I⟩)] 125 (0,0)):=A6 _ _ as9
      have bj:F6 S0 row (js.map λj=>j.2.pl) (k+1)=aC.map (λj=>j.2.pl)++[(⟨⟨(n2:Int)+1,⟨x,p,nodes,⟨da,db,dc,dd⟩,z,r,1,ae,f,row⟩,⟨im,an,al,lw,am⟩,-1,[],[]⟩,ap,rn,nc,I,0,0,I,0,0⟩:aj).pl]:=by
       show F6 S0 row (js.map λj=>j.2.pl) k++[_]=_;rw[<-hY.out];congr 2;have dO:=Cv List.length hY.out;rw[Zj,Ar,Ar]at dO;unfold O4;rw[aI.out];show Jb.mk _ _ _ _ _ _=Jb.mk _ _ _ _ _ _;congr 1
       .rw [Ar,aG];push_cast;omega
       .exact bX.symm
      have bb:∀(g9 aD:Nat) (w9:WD),w9.ownsRow 0 125 1 (V (O ⟨g9,0,I⟩) (n2+1) aD) (n2+1) ((aC.map λj=>K (O ⟨j.1,0,I⟩))++[K (O ⟨W9.heap.size,0,I⟩)])->((W9.alloc (J #[Z G ((n2:Int)+1),D x,D p,Z G nodes,Z G da,Z G db,Z G dc,Z G dd,Z G z,Z G r,Z G 1,Z G ae,Q f,V ap rn nc,Z G im,Z G an,Z G al,Q lw,Q am,Z G (-1),V I 0 0,V I 0 0] 46)).alloc (J #[K (O ⟨W9.heap.size,0,I⟩)] 125)).grownBy w9 (Value.slice ao n2 ad).ownBlock->((Value.slice ao n2 ad).ownBlock=O g9\/g9=W9.heap.size+2) ->
        yw w T rb W0.heap.size g R.length s2 R (F6 S0 row (js.map λj=>j.2.pl) (k+1)) (N+20*i+(k+1)) g2 c2 (w9.setCell ⟨tb,4,I⟩ (V (O ⟨g9,0,I⟩) (n2+1) aD)):=λg9 aD w9 aM ac bk=>by
       have dN:=λq hq=>(av.lt q hq).2;have b0:Mod (λq=>(Value.slice ao n2 ad).ownBlock=O q) W9 w9:=(Mod.af aW).trans (Mod.grown ac (λq hq=>hq));have aR:=b0.au m (Bv av m ad9);have cB:Mod (λq=>q=T.tb\/(Value.slice ao n2 ad).ownBlock=O q) W9 (w9.setCell ⟨tb,4,I⟩ (V (O ⟨g9,0,I⟩) (n2+1) aD)):=(b0.mono λq _ e=>.inr e).set tb 4 _ (.inl ht.out);have d3:=Ap aR 4 (V (O ⟨g9,0,I⟩) (n2+1) aD);have d6:w9.heap[W9.heap.size]?=O (J (⟨⟨(n2:Int)+1,⟨x,p,nodes,⟨da,db,dc,dd⟩,z,r,1,ae,f,row⟩,⟨im,an,al,lw,am⟩,-1,[],[]⟩,ap,rn,nc,I,0,0,I,0,0⟩:aj).cells 46 (0,0)):=(ac.block _ (by simp;omega) (λe=>by have:=dN _ e.symm;omega)).trans bp;have dM:Bj (w9.setCell ⟨tb,4,I⟩ (V (O ⟨g9,0,I⟩) (n2+1) aD)) W9.heap.size (⟨⟨(n2:Int)+1,⟨x,p,nodes,⟨da,db,dc,dd⟩,z,r,1,ae,f,row⟩,⟨im,an,al,lw,am⟩,-1,[],[]⟩,ap,rn,nc,I,0,0,I,0,0⟩:aj):=(Mod.setCell (S:=λq=>q=tb) w9 tb 4 _ rfl).au d6 ao9
       have ea:=Bd aM (Mod.setCell (S:=λq=>q=tb) w9 tb 4 (V (O ⟨g9,0,I⟩) (n2+1) aD) rfl) (λq hq e=>by
        subst e
        exact Bv aM aR ad9 hq)
       have dQ:∀q o,ap=O ⟨q,o,I⟩->¬(q=T.tb\/(Value.slice ao n2 ad).ownBlock=O q):=λq o e c=>by
        obtain⟨cc,hc⟩:=a0 q o e;rcases c with c|c
        .rw [c,<-ht.out,m]at hc;injection hc with hc;injection hc with _ hc;exact absurd hc ad9
        .exact Bv av hc ad9 c
       have dl:=Amr bA cB dQ;refine⟨⟨_,aC++[(W9.heap.size,(⟨⟨(n2:Int)+1,⟨x,p,nodes,⟨da,db,dc,dd⟩,z,r,1,ae,f,row⟩,⟨im,an,al,lw,am⟩,-1,[],[]⟩,ap,rn,nc,I,0,0,I,0,0⟩:aj))],aF.add cB (by rw[<-ht.out];simpa using d3) (by rw[<-aG];exact ea) (λq hq=>?_) Ln dM ⟨rfl,rfl,rfl,rfl⟩ ⟨rfl,rfl,rfl,rfl⟩ dl (λq o e=>?_) cD.out cL.out cF.out (λq o e=>by obtain⟨_,h5,_⟩:=bG q o e;have h6:=a9.size;have h7:=hL.sub.mod.size;omega),?_,?_⟩,?_⟩
       .simp [Value.ownBlock]at hq;subst hq;rcases bk with e|e
        .exact .inl e
        .exact .inr ao9
       .obtain ⟨cc,hc⟩:=a0 q o e;exact⟨cc,cB.au hc (dQ q o e)⟩
       .rw [bj,Dk];rfl
       .rw [Cn];have:=bs.out;simp;omega
       .exact aF.sub.stay cB bo ad9 ad9
      clear dI;replace⟨ct,bW,aJ,b8,aF,bA,a0,bo⟩:=H8 ct bW aJ b8 aF bA a0 bo;replace⟨bV,bc,aG,b4,cS,c1,m,av⟩:=H8 bV bc aG b4 cS c1 m av;replace⟨bD,aW,bp,b5,bj,bb⟩:=H6 bD aW bp b5 bj bb
      try clear h
      try clear hA
      try clear bK
      try clear bM
      try clear o1
      try clear o2
      try clear o3
      try clear r1
      try clear r3
      try clear r5
      try clear bJ
      try clear bN
      try clear aS
      try clear cC
      try clear a4
      try clear bn
      try clear cx
      try clear cA
      try clear bZ
      try clear a5
      try clear aE
      try clear ci
      try clear hj
      try clear aX
      try clear aV
      try clear bO
      try clear a8
      try clear bC
      try clear cd
      try clear co
      try clear hX
      try clear cQ
      try clear hx
      try clear cJ
      try clear dg
      try clear aA
      try clear bI
      try clear b3
      try clear ak
      try clear b6
      try clear aU
      try clear bT
      try clear cL
      try clear cF
      try clear aL
      try clear aI
      try clear cw
      try clear bQ
      try clear cM
      try clear bl
      try clear cy
      try clear aY
      try clear cG
      try clear aT
      try clear cr
      try clear ce
      try clear cp
      try clear hL
      try clear hY
      try clear bs
      try clear hy
      try clear aB
      try clear a9
      try clear b7
      try clear cf
      try clear bB
      try clear e1
      try clear e3
      try clear e5
      try clear e7
      try clear e8
      try clear cI
      try clear cN
      try clear cD
      try clear cE
      try clear bG
      try clear bR
      try clear bf
      try clear bg
      try clear bY
      try clear bF
      try clear aZ
      try clear bx
      try clear bw
      try clear ch
      try clear cb
      try clear bX
      try clear bv
      try clear bS
      try clear ct
      try clear bW
      try clear aJ
      try clear b8
      try clear aF
      try clear bA
      try clear a0
      try clear bo
      try clear bV
      try clear bc
      try clear aG
      try clear b4
      try clear bD
      try clear bp
      try clear bj
      try clear hN
      try clear hm
      try clear hc
      try clear dJ
      try clear d4
      try clear dL
      try clear d2
      try clear cO
      try clear d7
      try clear d8
      try clear d5
      try clear bH
      try clear eb
      try clear d1
      try clear e4
      go_region_law (first
       | (refine step_append_lies _ (by rfl) _ _ _ (by rfl) 0 125 iP _ 1 8 underlying110 c6.out dB.out b9.out ca.out rfl (Iy _) (V ao n2 ad) n2 (aC.map λj=>K (O ⟨j.1,0,I⟩)) (by rfl) (Bd av.out (Mod.af (S:=λ_=>False) (by first|exact aW.out|exact aW.drew)) (λ_ _ c=>c)) ⟨W9.heap.size+1,0,I⟩ 1 1 [K (O ⟨W9.heap.size,0,I⟩)] (by rfl) (by rfl) (World.news_of_block (cs:=#[K (O ⟨W9.heap.size,0,I⟩)]) (t:=125) (fr:=(0,0)) b5.out) (by intro u hu;simp at hu;subst hu;rfl) ao9 cS.out c1.out (As _) (W9.heap.size+2) as9 ?_;intro g9 aD w9 aM ac bk dP;have bU:_:=bb g9 aD w9 aM (by first|exact ac|exact⟨ac.os,ac.tape,ac.output,ac.size,ac.block⟩) bk;have b0:=(Mod.af (S:=λk=>(Value.slice ao n2 ad).ownBlock=O k) (by first|exact aW.out|exact aW.drew)).trans (Mod.grown ac (λk hk=>hk));have aR:=b0.au m.out (Bv av.out m.out ad9);have d0:=Aa aR 4;have eq:=Ag aR 4;simp at d0;replace bU:=Hh bU
          clear b0 aR aM ac bk dP))
      all_goals
       go_wp2_with fail;go_meet
       case rel=>exact bU.out
     case rest=>
     obtain⟨⟨ed,ec,aF,cZ,bd⟩,c5⟩:=hcut;clear v0 v1 v2 v3 v4 v5 v6 v7 v8 v9 dW dX dY;have er:=bH.out;replace⟨aF,cZ,bd,c5⟩:=H4 aF cZ bd c5;go_wp2_with fail;go_roundw
     case rel=>exact⟨k+1,ed,ec,by go_num,ao9,aF,cZ,c5,bd⟩
     case measure=>simp[intOf];omega
    .have cO:¬(k:Int)<bi:=ao9;have c8:k=bi:=ao9;have cX:aC.map (λj=>j.2.pl)=Es (((d.map ay.pl).zip R).take (i+1)) T.pl.ab:=(by rw[b6.out,Aza,hY.out,hX.out,c8,aL.out]);have bd:aC.length<=N+20*(i+1):=(by have:=bs.out;have:=bH.out;omega);have eu:=hm.out;replace⟨cX,bd,c8⟩:=H3 cX bd c8;go_wp2_with fail;go_roundw
     case rel=>exact⟨i+1,dT,aC,by go_num,ao9,hL,cX,bd⟩
     case measure=>simp[intOf];omega
  .have dJ:¬(i:Int)<xm:=ao9;have dC:((d.map ay.pl).zip R).length<=i:=(by rw[List.length_zip,Ar];have:=bJ.out;omega);have a7:=hX.out;rw[C4 dC]at a7;obtain⟨X,bE⟩:=Ex (Es ((d.map ay.pl).zip R) T.pl.ab);rw[<-bE]at a7;have c0:Ep X:=(by rw[bE];exact bn.1.vq);obtain⟨ao,ad,aK,_,cP,_⟩:=hL.sub.at_.og;obtain⟨n2,aG⟩:=Ex (js.length);replace aK:jv=V ao n2 ad:=(by rw[aG];exact aK);subst aK;have cY:X.length=n2:=(by rw[<-a7,Ar,aG]);have m:=hL.sub.at_.head;have z4:wr.cell? ⟨tb,4,I⟩=O (V ao n2 ad):=(by rw[ht.out];exact Aa m 4);have zr:=Aa hL.rep 2;have zf:=Ag hL.rep 2;simp at zr;have cK:=Ab h.head;have a6:=hL.ym cK (Sf dS) (Z G (n2:Int));have aN:=Ap hL.rep 2 (Z G (n2:Int))
   have aP:=(Mod.setCell (S:=λk=>k=rb) wr rb 2 (Z G (n2:Int)) rfl).au hL.res (λe=>by
    have:=hL.res;rw[e,hL.rep]at this;injection this with this;injection this with this _;have:=Cv (λa=>a[1]?) this;simp at this
    omega)
   replace⟨dC,a7,bE,c0,cP,aG,cY,m⟩:=H8 dC a7 bE c0 cP aG cY m;replace⟨cK,a6,aN,aP⟩:=H4 cK a6 aN aP;go_upto_region 15 with fail;obtain⟨W1,cW⟩:=Ex (wr.setCell ⟨rb,2,I⟩ (Z G (n2:Int)));rw[<-cW]at a6 aN aP;rw[<-cW];clear cW z4 zr zf
   have c3:CS prog 130 #[K (O ⟨tb,0,I⟩)] W1 (Lh W1 { T with jv:=V ao n2 ad,js:=js } (C2 X)):=by
    have:=Ys (T:={ T with jv:=V ao n2 ad,js:=js }) a6.at_ (by
     show Ep (js.map λj=>j.2.pl)
     rw[a7.out];exact c0.out)
    rw[show({ T with jv:=V ao n2 ad,js:=js }:Tv).pl.ab=X from a7.out]at this;rw[ht.out];exact this
   replace c3:=Hh c3;go_upto_region 16 with(go_at_call 130;(with_reducible refine(c3.out).mono ?_);rintro e w5 ⟨rfl,aC,be,ds⟩;replace⟨be,ds⟩:=H2 be ds)
   have cT:=a6.then be.out
   have aO:=be.mod.au (by simpa using aN.out) (a6.at_.off aN.out ad9 ad9 ad9 ad9 ad9);have aQ:=be.mod.au aP.out (a6.at_.off aP.out ad9 ad9 ad9 ad9 ad9);have q0:w5.cell? ⟨rb,0,I⟩=O (Z G 0):=(by have:=Aa aO 0;simpa using this);have q1:w5.cell? ⟨rb,1,I⟩=O (Z G ((N:Int)+1)):=(by rw[hN.out];have:=Aa aO 1;simpa using this);have q2:w5.cell? ⟨rb,2,I⟩=O (Z G (n2:Int)):=(by have:=Aa aO 2;simpa using this);obtain⟨r0,dV,r2⟩:=C3 aQ;(try dsimp only at r0 dV r2);have fr:=Ag aQ;have ba:=A1j (n:=w.heap.size+1) be.out (λj hj=>⟨λc k o e=>((hL.fh j hj).1 c k o e).2,λc k o e=>((hL.fh j hj).2 c k o e).2⟩);have cU:=cT.r6 cK.out aQ ba (Z G 0) (Z G ((N:Int)+1)) (Z G (n2:Int));replace⟨cT,aO,aQ,ba,cU⟩:=H5 cT aO aQ ba cU;go_wp2_with fail;refine Al (v:=Ir ⟨0,0,(N:Int)+1,(n2:Int)⟩) (by simp[results,results82,go_sem,r0,dV,r2]) rfl ⟨?_,_,cU.jz (hL.stays.trans (be.stays (w:=w)) Ln),?_⟩
   .rw [<-hN.out,<-bE.out,cY.out]
   .show (⟨T.ai,T.tick,T.cls,T.nodes,aC.map λj=>j.2.pl⟩:dq)=_;rw[ds.out,<-bE.out];rfl
def A1r   (x:de) (h:Ao w T) (hx:x.ok w) (hj:T.js.length<=1000000) (hr:Ea T.vs T.pl x.pl=0)
  (aJ:((cq T.vs T.pl x.pl).1).cls.length<=1000) (R:Prop)
  (u:∀W,BW w.heap.size w W->CS prog (Oi x.n.kind) #[K (O ⟨T.tb,0,I⟩),x.val] W (λe w'=>Qp W T (cq T.vs T.pl x.pl).1 (cq T.vs T.pl x.pl).2 e w'/\R)) :
  CS prog 15 #[K (O ⟨T.tb,0,I⟩),x.val] w (λe w'=>Aed w T (Bi T.vs T.pl x.pl) e w'/\R):=by
 have aV:Gq x.pl=true:=by
  by_cases q:Gq x.pl=true
  .exact q
  .unfold Ea at hr;rw[Ad (by simpa using q)]at hr;cases hr
 obtain⟨hk,_,_,_,_,_⟩:=Nq aV;have k:=tx.new w x;obtain⟨W0,aL⟩:=Ex ((w.alloc (J x.cells 40 (0,0))).alloc (J #[Z G 0,Z G 0,Z G 0] 35 (0,0)));rw[<-aL]at k;have kw:=Amu x (h.low k.low) hj (hx.low k.low);rw[hr]at kw;have aK:=hx.px 3;obtain⟨P,hP⟩:=Ex ((cq T.vs T.pl x.pl).1);obtain⟨⟨aD,dce,dcf,o⟩,aS⟩:∃c,c=(cq T.vs T.pl x.pl).2:=⟨_,rfl⟩
 have aU:Bi T.vs T.pl x.pl=(if B6 x.n.kind=true then { P with cls:=G2 P.cls x.n.ag ⟨x.n.seq,dce,dcf,o⟩ } else P,⟨aD,dce,dcf,o⟩,0):=by
  unfold Bi;rw[Ac (by rw[hr];simp)];have e:∀D0:dq×Cl,D0.1=P->D0.2=⟨aD,dce,dcf,o⟩->(let d:=D0;(if B6 x.pl.n.kind=true then { d.1 with cls:=G2 d.1.cls x.pl.n.ag ⟨x.pl.n.seq,d.2.e,d.2.first,d.2.last⟩ } else d.1,d.2,(0:Int)))=(if B6 x.n.kind=true then { P with cls:=G2 P.cls x.n.ag ⟨x.n.seq,dce,dcf,o⟩ } else P,⟨aD,dce,dcf,o⟩,0):=by rintro⟨a,b⟩ rfl rfl;rfl
  exact e _ hP.symm aS.symm
 rw[<-hP,<-aS]at u;rw[<-hP]at aJ;rw[aU];obtain⟨tb,ht⟩:=Ex (T.tb);rw[<-ht]at u kw;rw[<-ht];clear aU hP aS aV hr;obtain⟨⟨f,ai,tick,ag,seq,br,attempt,node,bq⟩,so,m,sc,dj⟩:=x;replace hk:f=1\/f=2\/f=3\/f=4\/f=5\/f=6\/f=7\/f=8\/f=9\/f=10\/f=11:=hk;replace aK:-9223372036854775808<=ag/\ag<=9223372036854775807:=aK;replace⟨h,hx,k,kw,hj,u,ht,aK⟩:=H8 h hx k kw hj u ht aK;replace aJ:=Hh aJ;obtain⟨F,hF⟩:=Ex (Oi f);replace u:∀W,BW w.heap.size w W->CS prog (Oi f) _ _ _:=u.out;rw[<-hF]at u
 have aW:∀(a:Array VL) (W:WD),Sem.run prog (callFunc F a) W=.ok (.enter F a) W:=by
  intro a W;rw[hF];rcases hk with rfl|rfl|rfl|rfl|rfl|rfl|rfl|rfl|rfl|rfl|rfl
  all_goals rfl
 replace⟨u,hk,hF⟩:=H3 u hk hF;by_cases ao:B6 f=true
 .rw [Ad (show B6 (⟨f,ai,tick,ag,seq,br,attempt,node,bq⟩:dm).kind=true from ao)];replace ao:=Hh ao
  .have am:∀W,BW w.heap.size w W->CS prog F #[K (O ⟨tb,0,I⟩),Value.agg #[Z G f,Z G ai,Z G tick,Z G ag,Z G seq,Z G br,Z G attempt,Z G node,Z G bq,V so m sc]] W (λe w'=>Qp W T P ⟨aD,dce,dcf,o⟩ e w'/\R):=u.out;have al:=Amv tb f
   replace al:∀W,CS prog 45 #[K (O ⟨tb,0,I⟩),Z G f] W λe w'=>e=Y (.func (.func F) #[K (O ⟨tb,0,I⟩)] #[])/\w'=W:=λW=>by rw[hF.out];exact al W hk.out
   obtain⟨e0,e1,e2,e3,e4,e5,e6,e7,e8,e9⟩:=C10 k.box;(try dsimp only at e0 e1 e2 e3 e4 e5 e6 e7 e8 e9);replace⟨am,al⟩:=H2 am al;clear u;go_enter func15,ntmps15;go_upto_region 1 with fail;rw[<-aL];clear aL;go_upto_region 4 with(go_at_call 31;(with_reducible refine(kw.out).mono ?_);rintro e w1 ⟨rfl,z⟩;replace z:=Hh z);clear e0 e1 e2 e3 e4 e5 e6 e7 e8 e9;have g:=Ae z.out k.box (Ab k.box);have j:=Ae z.out k.res (Ab k.res);have i:=k.low.trans (z.mono k.low.size);have t:=h.low i;obtain⟨e0,e1,e2,e3,e4,e5,e6,e7,e8,e9⟩:=C10 g;(try dsimp only at e0 e1 e2 e3 e4 e5 e6 e7 e8 e9);have an:=am w1 i;replace⟨g,j,i,t,an⟩:=H5 g j i t an;go_upto_region 6 with(first|(go_at_call 45;(with_reducible refine(al.out _).mono ?_);rintro e w1 ⟨rfl,rfl⟩)|((with_reducible refine(an.out).mono ?_);rintro e w3 ⟨⟨rfl,T',r,ap⟩,hR⟩;replace⟨r,ap,hR⟩:=H3 r ap hR));clear e0 e1 e2 e3 e4 e5 e6 e7 e8 e9;obtain⟨W4,av⟩:=Ex (w3.alloc (J #[Z G dce,Z G dcf,Z G o] 35 (0,0)));obtain⟨rb,aH⟩:=Ex (w3.heap.size);have ac:BW w3.heap.size w3 W4:=(by rw[av];exact Bn);have aB:W4.heap[rb]?=O (J #[Z G dce,Z G dcf,Z G o] 35 (0,0)):=(by rw[av,aH];exact Ah _ _);rw[<-av,<-aH];clear av aH;have ad:=Ae ac (r.mod.au g.out (t.off g.out ad9 ad9 ad9 ad9 ad9)) (Ab (r.mod.au g.out (t.off g.out ad9 ad9 ad9 ad9 ad9)));have s:=Ae ac (r.mod.au j.out (t.off j.out ad9 ad9 ad9 ad9 ad9)) (Ab (r.mod.au j.out (t.off j.out ad9 ad9 ad9 ad9 ad9)));have y:=(r.back i.out).low ac;have aF:=r.rj (b:=w.heap.size+1) h.out ao9 (by have:=Ab j.out;exact this);obtain⟨e0,e1,e2,e3,e4,e5,e6,e7,e8,e9⟩:=C10 ad;(try dsimp only at e0 e1 e2 e3 e4 e5 e6 e7 e8 e9);obtain⟨q0,q1,q2⟩:=C3 aB;(try dsimp only at q0 q1 q2);replace⟨ac,aB,ad,s,y,aF⟩:=H6 ac aB ad s y aF
   have aI:=λW=>by
    have:=Qr f W;rw[ao.out]at this;exact this
   have m2:W4.cell? ⟨tb,2,I⟩=O (.map (O T'.mb)):=(by rw[ht.out,<-y.tb];exact Aa y.at_.head 2);have aR:=y.at_.cls;have aP:W4.drew.ownsMap (H:=Unit) prog 3 P3 T'.mb T'.cls.length (Q8 T'.cls):=aR;have aM:keyOf prog 3 (Z G ag)=O (Gz ag):=keyOf_int_mk Ed (zk aK.1 aK.2);replace⟨aI,aR,aP,aM⟩:=H4 aI aR aP aM;go_upto_region 7 with(go_at_call 46;(with_reducible refine(aI.out _).mono ?_);rintro e W4 ⟨rfl,rfl⟩)
   have aO:T'.cls.length<maxLen:=by
    have:maxLen=9223372036854775807:=rfl;have e:T'.cls=P.cls:=(by rw[<-ap.out];rfl);rw[e];have:=aJ.out;omega
   replace aO:=Hh aO;go_still_tail 11,(by kernel_rfl);change wpList _ _ _ _ _ W4.drew;go_upto_region 8 with(at_mapUpdate;refine Aan _ rfl _ _ _ 108 rfl 3 123 (int_keyed Ed) underlying108 _ T'.mb T'.cls.length _ rfl aP.out aO.out _ _ (Gz ag) rfl rfl aM.out _ [] (Ag7 ⟨seq,dce,dcf,o⟩) ?_;intro w5 aG aA;replace⟨aG,aA⟩:=H2 aG aA);have aN:Mod (λq=>q=T'.mb) W4 w5:=(Mod.drew (Mod.refl _ W4)).trans (Mod.grown aA.out (λq hq=>by cases hq;rfl));have aQ:M3 w5 T'.mb (G2 T'.cls ag ⟨seq,dce,dcf,o⟩):=(by have:=aG.out;rw[Arq]at this;have h2:=Ars (l:=(G2 T'.cls ag ⟨seq,dce,dcf,o⟩).map λp=>(Gz p.1,oq p.2)) this;rw[Ar]at h2;exact h2);have aT:=aN.au aB.out (λe=>y.at_.gh aB.out e.symm);have aC:=aN.au s.out (λe=>y.at_.gh s.out e.symm);have aE:=(y.oz _ aN aQ).r6 h.out aF.out aC (Z G dce) (Z G dcf) (Z G o);clear e0 e1 e2 e3 e4 e5 e6 e7 e8 e9 q0 q1 q2 m2;obtain⟨q0,q1,q2⟩:=C3 aT;(try dsimp only at q0 q1 q2);obtain⟨r0,r1,r2⟩:=C3 aC;(try dsimp only at r0 r1 r2);have fr:=Ag aC;replace⟨aN,aQ,aT,aC,aE⟩:=H5 aN aQ aT aC aE;go_wp2_with fail;refine Al (v:=E #[Ir ⟨aD,dce,dcf,o⟩,Z G 0]) (by simp[results,results15,go_sem,r0,r1,r2]) rfl ⟨⟨rfl,_,aE.out,?_⟩,hR.out⟩;rw[<-ap.out];rfl
 .rw [Ac (show ¬B6 (⟨f,ai,tick,ag,seq,br,attempt,node,bq⟩:dm).kind=true from ao)];replace ao:B6 f=false:=by simpa using ao
  replace ao:=Hh ao
  .have am:∀W,BW w.heap.size w W->CS prog F #[K (O ⟨tb,0,I⟩),Value.agg #[Z G f,Z G ai,Z G tick,Z G ag,Z G seq,Z G br,Z G attempt,Z G node,Z G bq,V so m sc]] W (λe w'=>Qp W T P ⟨aD,dce,dcf,o⟩ e w'/\R):=u.out;have al:=Amv tb f
   replace al:∀W,CS prog 45 #[K (O ⟨tb,0,I⟩),Z G f] W λe w'=>e=Y (.func (.func F) #[K (O ⟨tb,0,I⟩)] #[])/\w'=W:=λW=>by rw[hF.out];exact al W hk.out
   obtain⟨e0,e1,e2,e3,e4,e5,e6,e7,e8,e9⟩:=C10 k.box;(try dsimp only at e0 e1 e2 e3 e4 e5 e6 e7 e8 e9);replace⟨am,al⟩:=H2 am al;clear u;go_enter func15,ntmps15;go_upto_region 1 with fail;rw[<-aL];clear aL;go_upto_region 4 with(go_at_call 31;(with_reducible refine(kw.out).mono ?_);rintro e w1 ⟨rfl,z⟩;replace z:=Hh z);clear e0 e1 e2 e3 e4 e5 e6 e7 e8 e9;have g:=Ae z.out k.box (Ab k.box);have j:=Ae z.out k.res (Ab k.res);have i:=k.low.trans (z.mono k.low.size);have t:=h.low i;obtain⟨e0,e1,e2,e3,e4,e5,e6,e7,e8,e9⟩:=C10 g;(try dsimp only at e0 e1 e2 e3 e4 e5 e6 e7 e8 e9);have an:=am w1 i;replace⟨g,j,i,t,an⟩:=H5 g j i t an;go_upto_region 6 with(first|(go_at_call 45;(with_reducible refine(al.out _).mono ?_);rintro e w1 ⟨rfl,rfl⟩)|((with_reducible refine(an.out).mono ?_);rintro e w3 ⟨⟨rfl,T',r,ap⟩,hR⟩;replace⟨r,ap,hR⟩:=H3 r ap hR));clear e0 e1 e2 e3 e4 e5 e6 e7 e8 e9;obtain⟨W4,av⟩:=Ex (w3.alloc (J #[Z G dce,Z G dcf,Z G o] 35 (0,0)));obtain⟨rb,aH⟩:=Ex (w3.heap.size);have ac:BW w3.heap.size w3 W4:=(by rw[av];exact Bn);have aB:W4.heap[rb]?=O (J #[Z G dce,Z G dcf,Z G o] 35 (0,0)):=(by rw[av,aH];exact Ah _ _);rw[<-av,<-aH];clear av aH;have ad:=Ae ac (r.mod.au g.out (t.off g.out ad9 ad9 ad9 ad9 ad9)) (Ab (r.mod.au g.out (t.off g.out ad9 ad9 ad9 ad9 ad9)));have s:=Ae ac (r.mod.au j.out (t.off j.out ad9 ad9 ad9 ad9 ad9)) (Ab (r.mod.au j.out (t.off j.out ad9 ad9 ad9 ad9 ad9)));have y:=(r.back i.out).low ac;have aF:=r.rj (b:=w.heap.size+1) h.out ao9 (by have:=Ab j.out;exact this);obtain⟨e0,e1,e2,e3,e4,e5,e6,e7,e8,e9⟩:=C10 ad;(try dsimp only at e0 e1 e2 e3 e4 e5 e6 e7 e8 e9);obtain⟨q0,q1,q2⟩:=C3 aB;(try dsimp only at q0 q1 q2);replace⟨ac,aB,ad,s,y,aF⟩:=H6 ac aB ad s y aF
   have aI:=λW=>by
    have:=Qr f W;rw[ao.out]at this;exact this
   obtain⟨r0,r1,r2⟩:=C3 s.out;(try dsimp only at r0 r1 r2);have fr:=Ag s.out;have aE:=y.r6 h.out aF.out s.out (Z G dce) (Z G dcf) (Z G o);replace⟨aI,aE⟩:=H2 aI aE;go_wp2_with (go_at_call 46;(with_reducible refine(aI.out _).mono ?_);rintro e W4 ⟨rfl,rfl⟩);exact Al (v:=E #[Ir ⟨aD,dce,dcf,o⟩,Z G 0]) (by simp[results,results15,go_sem,r0,r1,r2]) rfl ⟨⟨rfl,T',aE.out,by first|exact ap.out|(rw[ap.out];rfl)⟩,hR.out⟩
