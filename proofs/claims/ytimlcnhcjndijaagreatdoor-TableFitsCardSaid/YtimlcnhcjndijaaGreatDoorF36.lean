/- Parts of a proof. No condition. -/
import Derived.Test.YtimlcnhcjndijaaGreatDoorF35
set_option linter.all false
set_option maxRecDepth 100000
set_option maxHeartbeats 12800000
namespace Go.Proofs.YtimlcnhcjndijaaGreatDoor
open Go renaming World->WD,Value->VL,Calls->CS
open Go.RowKit renaming Below->BW
open Go.Proofs.Tryz
section
open Go.RowKit Go.Maps Go.Lib
def Aca {S:Nat->Prop} {w w':WD} {so:Option Addr} {n:Nat} {zs:List Int} (h:Pl.Ar w so n zs) (d:Mod S w w') (j:∀ b a,so=some ⟨b,a,none⟩->¬ S b):Pl.Ar w' so n zs:=
 ⟨h.len,h.max,fun i g=>by
  obtain ⟨b,a,e,c,f⟩:=h.cell i g;refine ⟨b,a,e,Bx c d.size,?_⟩;rw [<- f]
  simp only [World.cell?,d.block b c (j b a e)]⟩
def Axq {S:Nat->Prop} {w w':WD} {so:Option Addr} {n:Nat} {ss:List Pl.Az} (h:Pl.Ub w so n ss) (d:Mod S w w') (o:∀ b a,so=some ⟨b,a,none⟩->¬ S b) (l:∀ s,s∈ss->∀ b a,s.go=some ⟨b,a,none⟩->¬ S b):Pl.Ub w' so n ss:=
 ⟨h.len,h.max,fun i x g=>by
  obtain ⟨b,a,e,c,k,f⟩:=h.cell i x g;refine ⟨b,a,e,Bx c d.size,fun j m=>?_,⟨Aca f.ak d (l x (Ai g)),f.om⟩⟩;rw [<- k j m]
  simp only [World.cell?,d.block b c (o b a e)]⟩
def Bq.wu {w wr:WD} {T:Tv} {js:List (Nat×aj)} (h:Bq w T js wr) {b:Nat} (c:({ T with js:=js }:Tv).aw b):T.aw b:=by
 rcases c with e | e | e | e | ⟨j,g,e⟩
 .exact .inl e
 .exact .inr (.inl e)
 .exact .inr (.inr (.inl e))
 .exact .inr (.inr (.inr (.inl e)))
 .obtain ⟨i,a⟩:=Dg g;have a:js[i]?=some j:=a;have d:i<T.js.length:=by rw [<- h.len];exact (Ao.1 a).1
  have f:=A4 d;have k:=h.kp i _ j f a;refine .inr (.inr (.inr (.inr ⟨_,Lw d,e.imp (fun e=>?_) (fun e=>k.pb b e)⟩)));have h1:(js.map Prod.fst)[i]?=some j.1:=by simp [a]
  rw [h.ar,Bh,f] at h1;injection h1 with h1;rw [<- e];exact h1
structure mq (w w5 wx:WD) (T:Tv) (js:List (Nat×aj)) (wr:WD):Prop where
 tab:D1 w T T.jv js wr
 xd:∀ b,({ T with jv:=T.jv,js:=js }:Tv).aw b->b<w5.heap.size\/wx.heap.size<=b
 low:Mod (fun k=>k<w5.heap.size) wx wr
 dz:If w5 T.js js
 res:wr.heap[w.heap.size+1]?=some (.cells #[.int .i64 0,.int .i64 0,.int .i64 0] 35 (0,0))
 le:w.heap.size+2<=w5.heap.size
variable {w w5 wx wr w':WD} {T:Tv} {js js2:List (Nat×aj)}
def mq.start {x:cz} (h0:Cj w T x js2 w5) (e:BW w5.heap.size w5 wx) (h:Bq wx { T with js:=js2 } js wr):mq w w5 wx T js wr:=by
 have a:=(h0.low e).then h
 have d:∀ b,({ T with js:=js2 }:Tv).aw b->b<w5.heap.size:=fun b c=>h0.tab.at_.my c;exact ⟨⟨a.tab.at_,a.tab.aw,a.tab.mod⟩,fun b c=>.inl (d b (h.wu (T:={ T with js:=js2 }) c)),h.mod.mono (fun k _ c=>d k c),a.tab.stays,a.res,by have:=Ab h0.res;omega⟩
def mq.drop (h:mq w w5 wx T js wr) (a:BW wr.heap.size wr w'):mq w w5 wx T js w':=
 ⟨h.tab.low a,h.xd,h.low.low a,h.dz,Ae a h.res (Ab h.res),h.le⟩
def mq.set (h:mq w w5 wx T js wr) {k f:Nat} {x y:aj} (hx:js[k]?=some (f,x)) (hm:Mod (F4 (f,x)) wr w') (u:Bb w' f y) (hp:Bv w' y) (z:∀ b,y.pb=some b->x.pb=some b\/wr.heap.size<=b)
  (a:y.so=x.so/\y.sn=x.sn/\y.sc=x.sc/\y.pl.sp=x.pl.sp)
  (v:(y.go=x.go/\y.gn=x.gn/\y.gc=x.gc/\y.pl.ak=x.pl.ak)\/(Pl.Ar wx y.go y.gn y.pl.ak/\y.gn<=y.gc/\∀ b r,y.go=some ⟨b,r,none⟩->w5.heap.size<=b)):mq w w5 wx T (js.set k (f,y)) w':=by
 have hA:=h.tab.at_;have p:=Ai hx;have d:=hA.ok _ p;have hJ:∀ q,F4 (f,x) q->({ T with jv:=T.jv,js:=js }:Tv).aw q:=fun q c=>.inr (.inr (.inr (.inr ⟨_,p,c.imp (fun e=>e.symm) id⟩)));have n:=hm.mono fun q _ c=>hJ q c
 have l:∀ q,(({ T with jv:=T.jv,js:=js }:Tv).bu k (f,y)).aw q->({ T with jv:=T.jv,js:=js }:Tv).aw q\/wr.heap.size<=q:=fun q c=>by
  rcases Ry (T:={ T with jv:=T.jv,js:=js }) (j:=(f,y)) hx rfl c with c | c
  .exact .inl c
  .rcases z q c with c | c
   .exact .inl (hJ q (.inr c))
   .exact .inr c
 have m:∀ q,q<wr.heap.size->(({ T with jv:=T.jv,js:=js }:Tv).bu k (f,y)).aw q->({ T with jv:=T.jv,js:=js }:Tv).aw q:=fun q hq c=>(l q c).resolve_right (by omega);have ad:=h.low.size
 have i:∀ q,(({ T with jv:=T.jv,js:=js }:Tv).bu k (f,y)).aw q->q<w5.heap.size\/wx.heap.size<=q:=fun q c=>by
  rcases l q c with c | c
  .exact h.xd q c
  .exact .inr (by omega)
 have g:=h.low.then hm fun q hq c=>(h.xd q (hJ q c)).resolve_right (by omega)
 have ha:D7 w' (({ T with jv:=T.jv,js:=js }:Tv).bu k (f,y)).aw y.so y.sn y.pl.sp.after:=by obtain ⟨s,t,_,e4⟩:=a;rw [s,t,e4];exact d.after.mod n m
 have hg:D7 w' (({ T with jv:=T.jv,js:=js }:Tv).bu k (f,y)).aw y.go y.gn y.pl.ak/\y.gn<=y.gc:=by
  rcases v with ⟨s,t,e3,e4⟩ | ⟨g1,g2,g3⟩
  .rw [s,t,e3,e4];exact ⟨d.ak.mod n m,d.mw⟩
  .refine ⟨⟨Ar.xf (Aca g1 g fun b r e c=>?_),fun h0 b o e hS=>?_⟩,g2⟩
   .have:=g3 b r e;omega
   .have:=g3 b o e;obtain ⟨b',ac,e',al,_⟩:=g1.cell 0 h0;rw [e] at e';cases e'
    rcases i b hS with c | c<;>omega
 refine ⟨h.tab.set hx rfl hm u hp z ha ?_ hg.1 hg.2 ?_ ?_,i,g,fun j hj=>?_,?_,h.le⟩
 .show y.sn<=y.sc;rw [a.2.1,a.2.2.1];exact d.oi
 .show y.pl.sp.user.size<=maxLen;rw [a.2.2.2];exact d.user
 .show y.pl.sp.part.size<=maxLen;rw [a.2.2.2];exact d.part
 .rcases U4 hj with hj | rfl
  .exact h.dz j hj
  .obtain ⟨c1,c2⟩:=h.dz _ p;refine ⟨fun h0 q o e hq=>?_,fun h0 q o e hq=>?_⟩
   .have h0:0<y.sn:=h0;have e:y.so=some ⟨q,o,none⟩:=e;exact c1 (by rw [<- a.2.1];exact h0) q o (by rw [<- a.1];exact e) hq
   .have h0:0<y.gn:=h0;have e:y.go=some ⟨q,o,none⟩:=e;rcases v with ⟨s,t,_,_⟩ | ⟨_,_,g3⟩
    .exact c2 (by rw [<- t];exact h0) q o (by rw [<- s];exact e) hq
    .have:=g3 q o e;omega
 .exact n.ar h.res (hA.off h.res (by decide) (by decide) (by decide) (by decide) (by decide))
def mq.done {l:Tv} (h:mq w w5 wx T js wr) (h0:An w l) (d:T.js=l.js) (p:T.tb=l.tb) (s t u:VL):Ed w T { T with js:=js } (((wr.setCell ⟨w.heap.size+1,0,none⟩ s).setCell ⟨w.heap.size+1,1,none⟩ t).setCell ⟨w.heap.size+1,2,none⟩ u):=by
 have r:=(((Mod.refl (fun k=>k=w.heap.size+1) wr).set _ 0 s rfl).set _ 1 t rfl).set _ 2 u rfl;have x:=Ab h0.head;have v:=h.le;refine ⟨h.tab.at_.fp h.res r (by show T.tb<_;rw [p];omega) (by decide) (by decide) (by decide) (by decide) (by decide) (by decide) fun j q=>?_,rfl,rfl,rfl,rfl,rfl,h.tab.aw,h.tab.mod.then r (fun k g e=>by omega),fun j q=>?_⟩
 .obtain ⟨m,n⟩:=h.dz j q;refine ⟨fun c k o e g=>?_,fun c k o e g=>?_⟩
  .obtain ⟨i,f,a,b⟩:=m c k o e (by omega);rw [d] at f;have:=Ld (h0.ok i f).after.row a b;omega
  .obtain ⟨i,f,a,b⟩:=n c k o e (by omega);rw [d] at f;have:=Ld (h0.ok i f).ak.row a b;omega
 .obtain ⟨m,n⟩:=h.dz j q;exact ⟨fun c k o e g=>m c k o e (by omega),fun c k o e g=>n c k o e (by omega)⟩
def An.rowAt {W:WD} {T:Tv} {js:List (Nat×aj)} {c:Option Addr} {f b:Nat} (h:An W { T with js:=js }) (e:T.jv=.slice c f b) (r:js.length=f) {k:Nat} (q:k<f) :
  ∃ g j,c=some ⟨g,0,none⟩/\js[k]?=some j/\W.cell? ⟨g,k,none⟩=some (.pointer (some ⟨j.1,0,none⟩)):=by
 obtain ⟨j,l⟩:=Ge js k (by omega);obtain ⟨i,a,m,_,_,p⟩:=h.mm;obtain ⟨g,n,o⟩:=p k j l;have d:T.jv=.slice i js.length a:=m;rw [e] at d;injection d with d _ _;exact ⟨g,j,d.trans n,l,o⟩
def aj.slot (x:aj) (st:Int) (go:Option Addr) (gn gc:Nat) (zs:List Int):aj:={ x with pl:={ x.pl with start:=st,ak:=zs },go:=go,gn:=gn,gc:=gc }
def aj.part (x:aj) (p:Int×Int) (g n c:Nat):aj:={ x with pl:={ x.pl with parts:=x.pl.parts++[p] },po:=some ⟨g,0,none⟩,pn:=n,pc:=c }
def Ks (st:Int) (zs:List Int) (l:Lf) (k:Nat) (j:Jb):Jb:=⟨j.id,j.sp,l,st,zs,j.parts++(zs.take k).map fun n=>(n,0)⟩
def Axr (tick:Int) (l:List (Int×Int×List Int)) (x:Int×Int×List Int):∀ js:List Jb,Ia tick (l++[x]) js=Dt (Ia tick l js) x.1 (F8 tick x.2.1 x.2.2):=by
 induction l with
 | nil=>intro js;rfl
 | cons y l ih=>intro js;exact ih _
def Acb (tick:Int):∀ (l:List (Int×Int×List Int)) (js:List Jb),(Ia tick l js).length=js.length
 | [],_=>rfl
 | x :: l,js=>by
  show (Ia tick l (Dt js x.1 _)).length=_;rw [Acb tick l];unfold Dt;rw [Jp]
def Aj9 (tick:Int):∀ (l:List (Int×Int×List Int)) (js:List Jb) (k:Nat),(∀ y,y∈l->1<=y.1/\y.1≠(k:Int)+1)->(Ia tick l js)[k]?=js[k]?
 | [],_,_,_=>rfl
 | x :: l,js,k,h=>by
  show (Ia tick l (Dt js x.1 _))[k]?=_;rw [Aj9 tick l _ k (fun y a=>h y (Ce _ a))];obtain ⟨h1,b⟩:=h x Dl;unfold Dt;rw [Ev]
  cases js[k]? with
  | none=>rfl
  | some j=>
   show some (if (x.1-1).toNat=k then _ else j)=some j;rw [Ac (by omega)]
def Axs {vs:List au} {X:List Jb} (h:Gb vs X) (tick:Int) (d:List Bool) {i:Nat} {x:Int×Int×List Int} (o:(J3 vs tick d X)[i]?=some x) :
  ∃ (k:Nat) (j:Jb),X[k]?=some j/\x.1=(k:Int)+1/\j.lf.st=1/\j.parts=[]/\x.2.2.length<=16/\(x.2.1=tick->-1099511627776<=tick->True)/\(Ia tick ((J3 vs tick d X).take i) (X.map Ff))[k]?=some j.bare:=by
 obtain ⟨h1,n⟩:=Ajw h tick d;obtain ⟨k,j,g,e,m,u⟩:=n x (Ai o);have b:j.lf.st=1:=by unfold Js at m;simp at m;exact m.1
 have t:=(h k j g).idle (by rw [b];rfl);refine ⟨k,j,g,e,b,t,?_,fun _ _=>trivial,?_⟩
 .rcases u with ⟨_,a⟩ | ⟨_,a,_⟩
  .rw [a];simp
  .have:=a.len;obtain ⟨_,_,_,_,z,_⟩:=G6 (Jl (h k j g).gg);obtain ⟨_,p⟩:=I9.1 z;have p:j.sp.nodes<=16:=p;omega
 .rw [Aj9 tick _ _ k (fun y v=>?_),Bh,g]
  .show some (Ff j)=_;unfold Ff;rw [Ad b]
  .obtain ⟨q,l⟩:=Dg v;have f:q<i:=(by have:=(Ao.1 l).1;rw [E8] at this;omega);rw [Ls,Ad f] at l;obtain ⟨k',j',_,e',_⟩:=n y (Ai l);refine ⟨by omega,fun c=>?_⟩;have r:((J3 vs tick d X).map Prod.fst)[q]?=some y.1:=(by simp [l]);have s:((J3 vs tick d X).map Prod.fst)[i]?=some x.1:=(by simp [o]);exact Fs h1 r s f (by omega)
def Axt (tick:Int) (zs:List Int) (j:Jb):F8 tick tick zs j=Ks tick zs (A2 j.lf 3).1 zs.length j:=by
 unfold F8 Ks;rw [Ad rfl,Oy]
def Axu {tick st:Int} (zs:List Int) (j:Jb) (h:st≠tick):F8 tick st zs j=Ks st zs j.lf 0 j:=by
 unfold F8 Ks;rw [Ac h];simp
end
section
open Go.RowKit Go.Maps Go.Lib
def Axv (t:Int) (j:Jb):(G9 t j).sp=j.sp/\(G9 t j).ak=j.ak:=by
 unfold G9;split
 .exact Abu j _
 .exact ⟨rfl,rfl⟩
def Aka {vs:List au} {n k:Nat} {j:Jb} (h:Fm vs n k j):Abp j:=by
 obtain ⟨_,_,_,_,_,c,_⟩:=G6 (Jl h.gg);obtain ⟨a,b⟩:=I9.1 c;have a:1<=j.sp.wall:=a;have b:j.sp.wall<=1000:=b;refine ⟨h.low,?_,by omega,by omega⟩;by_cases q:0<=j.start
 .have:=(h.ak q).2;unfold Ke at this;omega
 .omega
def Axw {a:List Bool} {k:Nat} {b:Bool} (c:a[k]?=some b):((a.take k).map Value.bool++List.replicate (a.length-k) (Value.bool false)).set k (.bool b)=(a.take (k+1)).map Value.bool++List.replicate (a.length-(k+1)) (Value.bool false):=by
 have f:=(Ao.1 c).1;have d:a.length-k=(a.length-(k+1))+1:=by omega
 have e:((a.take k).map Value.bool).length=k:=by simp;omega
 rw [d,List.replicate_succ,Pl.Qs c,C9,List.set_append_right _ _ (by omega),e];simp
structure ph (w5:WD) (vs:List VL) (wr:WD):Prop where
 low:BW w5.heap.size w5 wr
 box:wr.heap[w5.heap.size]?=some (.cells vs.toArray 4 (0,0))
def ph.drop {b wr w':WD} {vs:List VL} (h:ph b vs wr) (a:BW wr.heap.size wr w'):ph b vs w':=
 ⟨h.low.trans (a.mono h.low.size),(Mod.af (S:=fun _=>False) a).ar h.box (fun c=>c)⟩
def ph.put {a wr:WD} {vs:List VL} (h:ph a vs wr) (k:Nat) (v:VL):ph a (vs.set k v) (wr.setCell ⟨a.heap.size,k,none⟩ v):=
 ⟨h.low.setCell Ln _,by rw [Am h.box k v];simp⟩
def ph.done {b wr:WD} {a:List Bool} (h:ph b (a.map Value.bool) wr) (d:a.length<=1000000):Pl.Mi wr (some ⟨b.heap.size,0,none⟩) a.length a:=by
 refine ⟨rfl,by omega,fun i c=>⟨_,0,rfl,Ab h.box,?_⟩⟩;rw [Da,Aa h.box i];simp [Pl.bi,List.getD,c]
def Akb {vs:List au} {n k:Nat} {j:Jb} (h:Fm vs n k j):j.parts.length<=1000:=by
 by_cases e:j.parts=[]
 .rw [e];simp
 .have h1:=Ca List.length (h.pg e);rw [At] at h1;have b:=h.run (h.live.2 e);have d:=(h.ak b).1.len;obtain ⟨_,_,_,_,c,_⟩:=G6 (Jl h.gg);obtain ⟨_,a⟩:=I9.1 c;have a:j.sp.nodes<=16:=a;omega
def Axx {w:WD} {T:Tv} (kd ep d cl sq jn an nn hw:Int) (so:Option Addr) (sn sc:Nat) (de:List ay) (h:An w T) (hA:Dd T.vs T.pl.ab) (eC:T.js.length<=20) :
  CS prog 83 #[.pointer (some ⟨T.tb,0,none⟩),(⟨⟨kd,ep,d,cl,sq,jn,an,nn,hw⟩,so,sn,sc,de⟩:cz).val] w (fun e w'=>Ps w T (So T.vs T.pl d) ⟨0,0,0,0⟩ e w'/\Q4 T.vs d (r6 { T.pl with tick:=d }) (Cs d T.pl.ab)):=by
 obtain ⟨x,hx⟩:∃ x:cz,x=⟨⟨kd,ep,d,cl,sq,jn,an,nn,hw⟩,so,sn,sc,de⟩:=⟨_,rfl⟩;have aD:=Cj.new h ⟨⟨kd,ep,d,cl,sq,jn,an,nn,hw⟩,so,sn,sc,de⟩;obtain ⟨W0,dw⟩:=Ex ((w.alloc (.cells (⟨⟨kd,ep,d,cl,sq,jn,an,nn,hw⟩,so,sn,sc,de⟩:cz).cells 40 (0,0))).alloc (.cells #[.int .i64 0,.int .i64 0,.int .i64 0] 35 (0,0)));rw [<- dw] at aD;obtain ⟨cT,bG,bD,cZ,dZ,_⟩:=h.mm;obtain ⟨tb,ht⟩:=Ex (T.tb);obtain ⟨mj,aM⟩:=Ex (T.js.length);rw [<- ht];have hd:W0.heap[tb]?=some (.cells #[.int .i64 T.ah,.int .i64 T.tick,.map (some T.mb),T.nv,T.jv,.pointer (some ⟨T.fb,0,none⟩),T.cv] 115 (0,0)):=by rw [ht];exact aD.tab.at_.head
 have c1:=Bk hd 1 (.int .i64 T.tick) rfl;have f1:=Af hd 1;have e2:=Bk aD.box 2 (.int .i64 d) rfl;obtain ⟨t,f⟩:∃ t:Tv,t={ T with tick:=d }:=⟨_,rfl⟩
 have bI:Cj w t ⟨⟨kd,ep,d,cl,sq,jn,an,nn,hw⟩,so,sn,sc,de⟩ t.js (W0.setCell ⟨tb,1,none⟩ (.int .i64 d)):=by
  rw [f];have hm:Mod (fun k=>k=T.tb) W0 (W0.setCell ⟨tb,1,none⟩ (.int .i64 d)):=Mod.setCell _ _ _ _ ht
  have eO:=aD.tab.at_.og (w':=W0.setCell ⟨tb,1,none⟩ (.int .i64 d)) T.ah d hm (by
   show (W0.setCell ⟨tb,1,none⟩ (.int .i64 d)).heap[T.tb]?=_;rw [<- ht,Am hd]
   rfl)
  have d0:Mod T.aw W0 (W0.setCell ⟨tb,1,none⟩ (.int .i64 d)):=hm.mono fun k _ e=>by rw [e];exact .inl rfl
  exact ⟨⟨eO,rfl,fun b c=>.inl c,aD.tab.mod.trans d0,aD.tab.kp⟩,d0.ar aD.box (aD.tab.at_.off aD.box (by decide) (by decide) (by decide) (by decide) (by decide)),d0.ar aD.res (aD.tab.at_.off aD.res (by decide) (by decide) (by decide) (by decide) (by decide))⟩
 have bS:D8 t.pl.ab:=by rw [f];exact hA.b.jz
 have dE:t.pl.ab.length=mj:=by rw [aM,f];simp [Tv.pl]
 have c7:Dd t.vs t.pl.ab:=by rw [f];exact hA
 rw [aM.symm] at dZ eC
 have row:∀ (js:List (Nat×aj)) (W:WD),Cj w t ⟨⟨kd,ep,d,cl,sq,jn,an,nn,hw⟩,so,sn,sc,de⟩ js W->∀ k,k<mj->∃ g j,cT=some ⟨g,0,none⟩/\js[k]?=some j/\W.cell? ⟨g,k,none⟩=some (.pointer (some ⟨j.1,0,none⟩)):=fun js W hW k hk=>by
  have hl:js.length=mj:=by rw [aM,hW.tab.len,f]
  obtain ⟨j,hj⟩:=Ge js k (by omega);obtain ⟨fc,es,e1,_,_,hr⟩:=hW.tab.at_.mm;obtain ⟨g,e2,hc⟩:=hr k j hj;have e3:T.jv=.slice fc js.length es:=by rw [<- e1,f]
  rw [bD] at e3;injection e3 with e3 _ _;exact ⟨g,j,e3.trans e2,hj,hc⟩
 have bW:∀ (js:List (Nat×aj)) (W:WD),Cj w t ⟨⟨kd,ep,d,cl,sq,jn,an,nn,hw⟩,so,sn,sc,de⟩ js W->W.cell? ⟨tb,1,none⟩=some (.int .i64 d)/\W.cell? ⟨tb,4,none⟩=some (.slice cT mj bG):=fun js W hW=>by
  have e1:({ t with js:=js }:Tv).tb=tb:=by rw [f,ht]
  have:=hW.tab.at_.head;rw [e1] at this;refine ⟨?_,?_⟩
  .rw [Aa this 1,f];rfl
  .rw [Aa this 4,aM,<- bD,f];rfl
 clear hx x;replace ⟨h,hA,aD,bI,ht,aM,bD,cZ⟩:=H8 h hA aD bI ht aM bD cZ;replace ⟨hd,f,bS,dE,c7,row,bW⟩:=H7 hd f bS dE c7 row bW;go_enter func83,ntmps83;go_upto_region 1 with fail;rw [<- dw];clear dw;go_upto_region 2 with fail;obtain ⟨W1,aV⟩:=Ex (W0.setCell ⟨tb,1,none⟩ (.int .i64 d));rw [<- aV] at bI;rw [<- aV];clear aV c1 f1 e2;obtain ⟨_,c4⟩:=bW _ _ bI.out;have dB:t.js.map (fun j=>j.2.pl)=D9 (G9 d) t.pl.ab 0:=rfl;replace dB:=Hh dB;go_wp2_with fail;clear c4;go_loopw [6,33] (fun _ i2 wr=>∃ (k:Nat) (js:List (Nat×aj)),i2=.int .i64 k/\k<=mj/\Hid (Cj w t ⟨⟨kd,ep,d,cl,sq,jn,an,nn,hw⟩,so,sn,sc,de⟩ js wr)/\Hid (js.map (fun j=>j.2.pl)=D9 (G9 d) t.pl.ab k)) (fun _ i2 _=>mj-(intOf i2).toNat)
 case atStart=>exact ⟨0,t.js,rfl,Aq _,bI,dB⟩
 case round=>
  obtain ⟨k,js,rfl,hk,hE,hX⟩:=hrel;by_cases hc:k<mj
  .have bb:(k:Int)<mj:=(by omega);have eU:(0:Int)<=(k:Int):=(by omega);obtain ⟨g2,j,rfl,hj,cr⟩:=row _ _ hE.out k hc;obtain ⟨jb,jx⟩:=j;obtain ⟨aR,b8⟩:=hE.tab.get hj;obtain ⟨c1,_⟩:=bW _ _ hE.out
   have dT:t.pl.ab[k]?=some jx.pl:=by
    have e1:(js.map (fun j=>j.2.pl))[k]?=some jx.pl:=(by simp [hj]);rw [hX.out,Aai,Ac (by omega)] at e1;exact e1
   have dX:=Aka (c7.b k _ dT);have em:=Bk aR 14 (.int .i64 jx.pl.lf.st) rfl;have kl:=fun n=>Qg jx.pl.lf.st (wr.drewN n);have kt:=fun n=>Aim (w:=wr.drewN n) (b:=jb) (x:=jx) (show (wr.drewN n).heap[jb]?=_ from aR) dX
   have bn:∀ y:aj,y.pl=G9 d jx.pl->(js.set k (jb,y)).map (fun j=>j.2.pl)=D9 (G9 d) t.pl.ab (k+1):=fun y hy=>by
    rw [Na js hj hy,hX.out];rfl
   have aT:G9 d jx.pl=jx.pl->js.map (fun j=>j.2.pl)=D9 (G9 d) t.pl.ab (k+1):=fun e=>by
    have:=bn jx e.symm
    rwa [Xx hj] at this
   obtain ⟨st,aH⟩:=Ex (jx.pl.lf.st);obtain ⟨lt,b2⟩:=Ex (Ke jx.pl);obtain ⟨q,hq⟩:=Ex (di jx.pl.lf.st);rw [<- hq] at kl;rw [<- aH] at kl em;rw [<- b2] at kt;replace ⟨hj,aR,b8,dT,dX,kl,kt,bn⟩:=H8 hj aR b8 dT dX kl kt bn;replace ⟨aT,aH,b2,hq⟩:=H4 aT aH b2 hq;go_upto_region 5 with fail
   cases q with
   | false=>
    have am:=aT (by unfold G9 Jb.live;rw [<- hq.out];simp);replace am:=Hh am;go_quiet ((first | (go_at_call 131;(with_reducible exact Kv (kl.out _)))));rename_i nq;have aJ:=hE.low (A9 _ wr nq);replace aJ:=Hh aJ;go_wp2_with fail;go_roundw
    case rel=>exact ⟨k+1,_,by go_num,by omega,aJ.out,am.out⟩
    case measure=>simp [intOf];omega
   | true=>
    by_cases hl:lt<=d
    .have eS:=Av hl;have dY:G9 d jx.pl=Fc jx.pl (-1):=(by unfold G9 Jb.live;rw [Ad ⟨hq.symm,by rw [<- b2.out];exact hl⟩]);replace dY:=Hh dY;go_quiet ((first | (go_at_call 131;(with_reducible exact Kv (kl.out _))) | (go_at_call 132;(with_reducible exact Calls.quiet_of (kt.out _)))));rename_i nq;have aJ:=hE.low (A9 _ wr nq);obtain ⟨aC,a7⟩:=aJ.tab.get hj.out;have dN:=Afj aC a7.parts (-1);replace ⟨aJ,dN⟩:=H2 aJ dN;go_wp2_with fail;refine dN.mono ?_;rintro e w3 ⟨rfl,hG⟩;have c8:=aJ.dj hj.out hG.mod hG.box hG.parts (Aiy jx (-1));have aK:=bn (jx.cg (Fc jx.pl (-1))) dY.symm;clear hG;replace ⟨c8,aK⟩:=H2 c8 aK;go_wp2;go_roundw
     case rel=>exact ⟨k+1,_,by go_num,by omega,c8.out,aK.out⟩
     case measure=>simp [intOf];omega
    .have eS:=Ax hl
     have am:=aT (by
      unfold G9
      rw [Ac (fun h=>hl (by rw [b2.out];exact h.2))])
     replace am:=Hh am;go_quiet ((first | (go_at_call 131;(with_reducible exact Kv (kl.out _))) | (go_at_call 132;(with_reducible exact Calls.quiet_of (kt.out _)))));rename_i nq;have aJ:=hE.low (A9 _ wr nq);replace aJ:=Hh aJ;go_wp2_with fail;go_roundw
     case rel=>exact ⟨k+1,_,by go_num,by omega,aJ.out,am.out⟩
     case measure=>simp [intOf];omega
  .have bb:¬ (k:Int)<mj:=(by omega);have bZ:k=mj:=(by omega);have am:=hX.out;rw [bZ,<- dE.out,R8] at am;obtain ⟨X2,aW⟩:=Ex (t.pl.ab.map (G9 d));rw [<- aW] at am;have bT:D8 X2:=by rw [aW,<- R8];exact Qi bS.out (W8 _ (fun j=>(Axv d j).1) _ _)
   have aH:CS prog 134 #[.pointer (some ⟨tb,0,none⟩)] wr (Ki wr { t with js:=js } (Gk X2)):=by
    have:=Aaj (T:={ t with js:=js }) hE.tab.at_ (by
     show D8 (js.map fun j=>j.2.pl)
     rw [am];exact bT)
    rw [show ({ t with js:=js }:Tv).pl.ab=X2 from am] at this;rw [show tb=({ t with js:=js }:Tv).tb from by rw [ht.out,f.out]];exact this
   have dW:Gk X2=Cs d T.pl.ab:=(by rw [aW,f.out];rfl);replace ⟨am,aW,bT,aH,bZ,dW⟩:=H6 am aW bT aH bZ dW;go_upto_region 8 with fail;go_wp2_with fail;refine aH.mono ?_;rintro e w4 ⟨rfl,ap,eJ,aS⟩
   have bJ:=hE.then eJ
   rw [dW.out] at aS;clear eJ;replace ⟨aS,bJ⟩:=H2 aS bJ;go_upto_region 9 with fail;have bv:=Abz hA.out d;have b3:ap.length=mj:=(by rw [aM.out,bJ.tab.len,f.out]);have bf:=bJ.tab.at_
   have cC:∀ j,j∈ap->∃ k,(Cs d T.pl.ab)[k]?=some j.2.pl:=fun j hj=>by
    obtain ⟨k,hk⟩:=Dg hj;have e1:(ap.map (fun j=>j.2.pl))[k]?=some j.2.pl:=(by simp [hk]);exact ⟨k,by rw [<- aS.out];exact e1⟩
   have dO:CS prog 135 #[.pointer (some ⟨tb,0,none⟩)] w4 (Abq w4 (Cs d T.pl.ab)):=by
    have:=Auz (T:={ t with js:=ap }) bf (fun j hj=>by
     obtain ⟨k,hk⟩:=cC j hj
     exact Aka (bv.b k _ hk)) (by show ap.length<=1000;omega) (fun j hj=>by
     obtain ⟨k,hk⟩:=cC j hj;have e1:=Akb (bv.b k _ hk);have e2:=Jt (bf.ok j hj).parts;rw [e2] at e1
     exact e1)
    rw [show ({ t with js:=ap }:Tv).pl.ab=Cs d T.pl.ab from aS.out] at this;rw [show tb=({ t with js:=ap }:Tv).tb from by rw [ht.out,f.out]];exact this
   replace ⟨bv,b3,bf,cC,dO⟩:=H5 bv b3 bf cC dO;go_wp2_with fail;refine dO.mono ?_;rintro e w5 ⟨ho,eQ,uo,uc,hs,rfl,da,c9,dv,dJ⟩;have bK:=bJ.low dJ;replace ⟨da,c9,dv,bK,dJ⟩:=H5 da c9 dv bK dJ;go_upto_region 10 with fail;obtain ⟨bs,bx⟩:∃ bs,bs=r6 { T.pl with tick:=d }:=⟨_,rfl⟩;obtain ⟨mn,bd⟩:=Ex (T.nodes.length);have aY:bs.length=mn:=(by rw [bx,bd];simp [r6,Tv.pl]);have ad:=bK.tab.at_;have fm:mn<=16:=by have e1:=ad.same;have e2:=ad.dh.ok.len;rw [f.out] at e1 e2;rw [bd];exact e1▸e2
   have eX:∃ so cap,T.nv=.slice so mn cap/\(0<mn->∃ g,so=some ⟨g,0,none⟩):=by
    have hr:=ad.nodes;rw [f.out] at hr;rw [bd];rcases hr.2 with ⟨e,h0⟩ | ⟨g,cap,eN,e,_,_,h1,h2,_⟩
    .have h0:T.nodes.length=0:=h0;exact ⟨none,0,by rw [h0];exact e,fun c=>by omega⟩
    .exact ⟨_,_,e,fun _=>⟨_,rfl⟩⟩
   obtain ⟨eL,cj,b7,d4⟩:=eX;have aQ:w5.heap[tb]?=some (.cells #[.int .i64 T.ah,.int .i64 d,.map (some T.mb),.slice eL mn cj,T.jv,.pointer (some ⟨T.fb,0,none⟩),T.cv] 115 (0,0)):=(by have:=ad.head;rw [f.out] at this;rw [ht.out,<- b7];exact this);have cU:=Ab aQ;have n1:=Bk aQ 1 (.int .i64 d) rfl;have n3:=Bk aQ 3 (.slice eL mn cj) rfl;have eW:=Pl.Ahj mn (by omega) w5;obtain ⟨W6,bQ⟩:=Ex (w5.alloc (.cells (Array.replicate mn (.bool false)) 4 (0,0)))
   have ct:ph w5 ((bs.take 0).map Value.bool++List.replicate (mn-0) (.bool false)) W6:=
    ⟨by rw [bQ];exact Bn,by rw [bQ];simpa using Ah _ _⟩
   rw [<- bQ] at eW;have e6:=(Ag ct.low cU).trans n3;replace ⟨bx,bd,aY,ad,b7,d4,aQ,ct⟩:=H8 bx bd aY ad b7 d4 aQ ct;replace bQ:=Hh bQ;go_wp2_with fail;go_upto_region 11 with fail;clear e6;go_loopw [10,11,76] (fun _ _ i2 wr=>∃ k:Nat,i2=.int .i64 k/\k<=mn/\Hid (ph w5 ((bs.take k).map Value.bool++List.replicate (mn-k) (.bool false)) wr)) (fun _ _ i2 _=>mn-(intOf i2).toNat)
   case atStart=>exact ⟨0,rfl,Aq _,ct⟩
   case round=>
    obtain ⟨k,rfl,hk,hU⟩:=hrel;by_cases hc:k<mn
    .have bb:(k:Int)<mn:=(by omega);have eU:(0:Int)<=(k:Int):=(by omega);obtain ⟨ng,rfl⟩:=d4 (by omega);obtain ⟨nd,cG⟩:=Ge T.nodes k (by have:=bd.out;omega);have d3:=fun h2=>ad.py (i:=k) (n:=nd) (by rw [f.out];exact cG) (g:=ng) (cap:=cj) h2
     obtain ⟨q0,q1,q2,_⟩:=d3 (by
      rw [f.out];show T.nv=_
      rw [b7.out,bd.out])
     have dK:bs[k]?=some (nd.up && !nd.bq && decide (nd.since<d)):=(by rw [bx.out];simp [r6,Tv.pl,cG]);obtain ⟨up,dr,si⟩:=nd
     have b6:=(Rf ad.nodes ng (by
      rw [f.out];show T.nv.ownBlock=_
      rw [b7.out];rfl)).2
     have q0:=(Ag hU.low b6).trans q0;have q1:=(Ag hU.low b6).trans q1;have q2:=(Ag hU.low b6).trans q2;replace ⟨cG,dK,d3⟩:=H3 cG dK d3;go_upto_region 14 with fail;have ba:=hU.drop ((Below.refl wr.heap.size wr).alloc Ln (.cells #[.bool up,.bool dr,.int .i64 si] 119 (0,0)));have cO:(wr.alloc (.cells #[.bool up,.bool dr,.int .i64 si] 119 (0,0))).heap[wr.heap.size]?=some (.cells #[.bool up,.bool dr,.int .i64 si] 119 (0,0)):=Ah _ _;have eK:=(Ag ba.low cU).trans n1
     have aN:∀ n b,(up && !dr && decide (si<d))=b->Hid (ph w5 ((bs.take (k+1)).map Value.bool++List.replicate (mn-(k+1)) (.bool false)) (((wr.alloc (.cells #[.bool up,.bool dr,.int .i64 si] 119 (0,0))).drewN n).setCell ⟨w5.heap.size,k,none⟩ (.bool b))):=fun n b hb=>by
      have h1:=(ba.drop (A9 _ _ n)).put k (.bool b);rw [<- aY.out,Axw (by rw [dK.out];exact Ca some hb),aY.out] at h1;exact Hh h1
     obtain ⟨W7,cx⟩:=Ex (wr.alloc (.cells #[.bool up,.bool dr,.int .i64 si] 119 (0,0)));rw [<- cx] at ba cO eK aN;rw [<- cx];obtain ⟨z0,z1,z2⟩:=C3 cO;(try dsimp only at z0 z1 z2);have kf:=Af ba.box k
     have kc:W7.cell? ⟨w5.heap.size,k,none⟩=some (.bool false):=by
      rw [Aa ba.box k];have e2:((bs.take k).map Value.bool).length=k:=(by have:=aY.out;simp;omega);rw [Lr,Gc (by omega),e2,Nat.sub_self,List.getElem?_replicate,Ad (by omega)]
     clear q0 q1 q2;replace ⟨ba,cO,aN,cx⟩:=H4 ba cO aN cx
     cases up with
     | false=>
      have hp:=fun n=>aN.out n false rfl;replace hp:=Hh hp;go_region
      all_goals
       go_wp2;go_roundw
       case rel=>exact ⟨k+1,by go_num,by omega,hp _⟩
       case measure=>simp [intOf];omega
     | true=>
      cases dr with
      | true=>
       have hp:=fun n=>aN.out n false rfl;replace hp:=Hh hp;go_region
       all_goals
        go_wp2;go_roundw
        case rel=>exact ⟨k+1,by go_num,by omega,hp _⟩
        case measure=>simp [intOf];omega
      | false=>
       by_cases hs:si<d
       .have dM:=Av hs;have hp:=fun n=>aN.out n true (by rw [dM];rfl);replace hp:=Hh hp;go_region
        all_goals
         go_wp2;go_roundw
         case rel=>exact ⟨k+1,by go_num,by omega,hp _⟩
         case measure=>simp [intOf];omega
       .have dM:=Ax hs;have hp:=fun n=>aN.out n false (by rw [dM];rfl);replace hp:=Hh hp;go_region
        all_goals
         go_wp2;go_roundw
         case rel=>exact ⟨k+1,by go_num,by omega,hp _⟩
         case measure=>simp [intOf];omega
    .have bb:¬ (k:Int)<mn:=(by omega);have eV:k=mn:=(by omega);subst eV;have bH:Pl.Mi wr (some ⟨w5.heap.size,0,none⟩) k bs:=(by have h1:=hU.out;rw [Nat.sub_self,List.replicate_zero,Oz,C8 (by rw [aY.out];exact Nat.le_refl _)] at h1;have h2:=h1.done (by have:=aY.out;omega);rw [aY.out] at h2;exact h2);replace bH:=Hh bH
     obtain ⟨co,vn,c6,bA⟩:∃ so n cap,T.cv=.slice so n cap/\n=T.vs.length:=by
      have hr:=ad.ax;rw [f.out] at hr;rcases hr.2 with ⟨e,h0⟩ | ⟨g,cap,eN,e,_,_,h1,h2,_⟩
      .exact ⟨none,0,0,e,h0.symm⟩
      .exact ⟨_,_,_,e,rfl⟩
     have bY:∀ W',BW w5.heap.size w5 W'->W'.cell? ⟨tb,1,none⟩=some (.int .i64 d)/\W'.cell? ⟨tb,6,none⟩=some (.slice co vn c6):=fun W' hb=>by
      refine ⟨(Ag hb cU).trans n1,(Ag hb cU).trans ?_⟩;rw [<- bA.1];exact Aa aQ.out 6
     have ef:∀ W',BW w5.heap.size w5 W'->CS prog 137 #[.pointer (some ⟨tb,0,none⟩),.slice uo (Du (Cs d T.pl.ab)).length uc] W' (Ab9 T.vs W' (Cs d T.pl.ab)):=fun W' hb=>by
      have e1:({ t with js:=ap }:Tv).pl.ab=Cs d T.pl.ab:=aS.out
      have h2:=Axm (T:={ t with js:=ap }) (ad.low hb) (by
       rw [e1,f.out]
       exact bv.b) (by show ap.length<=20;have:=b3.out;omega) uo (Du (Cs d T.pl.ab)).length uc (by rw [e1];exact dv.low hb)
      rw [e1] at h2;rw [f.out] at h2;rw [show tb=T.tb from ht.out];exact h2
     have aF:=hU.low;have d8:Pl.Oe w5 co vn (T.vs.map au.cap):=by have hr:=ad.ax;have hl:=ad.dh.ok.len;rw [f.out] at hr hl;have hl:T.vs.length<=16:=hl;have hr:w5.ownsRow 0 30 4 T.cv T.vs.length (Au V4.cells (T.vs.map au.cap)):=hr;rw [bA.1,show T.vs.length=(T.vs.map au.cap).length by simp] at hr;exact Axn hr (by rw [bA.2];simp) (by rw [bA.2];omega)
     have eg:∀ (W':WD) (ao:Option Addr) (l lc:Nat) (al:List Pl.Ask),BW wr.heap.size wr W'->Pl.Xl W' ao l al->al.map Pl.Ask.er=En T.vs (Cs d T.pl.ab)->l<=1000000->CS prog 136 #[.slice co vn c6,.slice (some ⟨w5.heap.size,0,none⟩) k k,.int .i64 d,.slice ho hs.length eQ,.slice ao l lc] W' (fun e w'=>∃ v rv,e=.returned (.tuple #[v,rv])/\xr w5 T.vs d bs (Cs d T.pl.ab) v rv w'):=fun W' ao l lc al hb ha he hl=>
      Axp d8 c9.out (aF.trans (hb.mono aF.size)) (bH.below hb Ln) ha he hl (Pl.Mk.below da.out (aF.trans (hb.mono aF.size)) (fun _ q=>q.below (aF.trans (hb.mono aF.size))))
     have ci:∀ al:List Pl.Ask,al.map Pl.Ask.er=En T.vs (Cs d T.pl.ab)->al.length<=1000000:=fun al he=>by
      have h1:=Ca List.length he;rw [At] at h1;have h2:=Axo T.vs (Cs d T.pl.ab);have h3:(Cs d T.pl.ab).length=ap.length:=(by rw [<- aS.out];simp);have h4:=b3.out;omega
     have aE:BW wr.heap.size wr wr.drew:=(Below.refl _ _).drew;replace ⟨bH,bY,ef,aF,bA,d8,eg,ci⟩:=H8 bH bY ef aF bA d8 eg ci;replace aE:=Hh aE;go_wp2_with fail;go_cut [12,13] (fun v rv wx=>xr w5 T.vs d bs (Cs d T.pl.ab) v rv wx)
     case first=>
      go_region_held3 (fun W'=>W'.cell? ⟨tb,1,none⟩=some (.int .i64 d)/\W'.cell? ⟨tb,6,none⟩=some (.slice co vn c6))
       (first
         | with_reducible exact bY.out _ (aF.out.trans (aE.out.mono aF.out.size))
         | exact bY.out _ (aF.trans (aE.mono aF.size)).drew
         | exact bY.out _ cs.1.low)
       (first
         | (go_at_call 137
            (with_reducible refine (ef.out _ (aF.out.trans (aE.out.mono aF.out.size))).mono ?_)
            rintro e w6 ⟨ao,fs,fq,al,rfl,rfl,bV,bg,ey⟩;replace aE:=Hh (aE.trans (ey.mono aE.size));have bU:=ci al bg;replace ⟨bV,bg,bU⟩:=H3 bV bg bU
            clear ey)
         | (go_at_call 136
            (with_reducible refine (eg.out _ _ _ _ _ aE.out bV.out bg.out bU.out).mono ?_)
            rintro e w7 ⟨v7,fz,rfl,cs⟩
            replace cs:=Hh cs))
      go_wp2_with fail;go_meet
      case rel=>exact cs.out
     case rest=>
      obtain ⟨⟨fB,bF,fA,sr,ej,rfl,rfl,cK,b0,cb,cJ,cA,d7⟩,d6⟩:=hcut;have bL:=bK.low cA;obtain ⟨_,c4⟩:=bW _ _ bL;have db:Bq wc { t with js:=ap } ap wc:=Bq.refl (T:={ t with js:=ap }) bL.tab.at_;have bR:ap.map (fun j=>j.2.pl)=D9 Ff (Cs d T.pl.ab) 0:=aS.out;have aX:(Cs d T.pl.ab).length=mj:=(by rw [<- aS.out,<- b3.out];simp);replace ⟨cK,b0,cb,cJ,cA,d7,bL,db⟩:=H8 cK b0 cb cJ cA d7 bL db;replace ⟨bR,d6,aX⟩:=H3 bR d6 aX;go_wp2_with fail;clear c4;go_loopw [15,126] (fun _ i2 wr=>∃ (p:Nat) (js:List (Nat×aj)),i2=.int .i64 p/\p<=mj/\Hid (Bq wc { t with js:=ap } js wr)/\Hid (js.map (fun j=>j.2.pl)=D9 Ff (Cs d T.pl.ab) p)) (fun _ i2 _=>mj-(intOf i2).toNat)
      case atStart=>exact ⟨0,ap,rfl,Aq _,db,bR⟩
      case round=>
       obtain ⟨p,cQ,rfl,hp,hJ,hX⟩:=hrel;by_cases hc:p<mj
       .have bb:(p:Int)<mj:=(by omega);have cI:(0:Int)<=(p:Int):=(by omega);obtain ⟨g2,j,rfl,hj,cr⟩:=row _ _ (bL.then hJ.out) p hc;obtain ⟨jb,jx⟩:=j;obtain ⟨aR,b8⟩:=hJ.get hj;have em:=Bk aR 14 (.int .i64 jx.pl.lf.st) rfl
        have cH:∀ y:aj,y.pl=Ff jx.pl->(cQ.set p (jb,y)).map (fun j=>j.2.pl)=D9 Ff (Cs d T.pl.ab) (p+1):=fun y hy=>by
         rw [Na cQ hj hy,hX.out];rfl
        have dL:=Wq aR;obtain ⟨st,aH⟩:=Ex (jx.pl.lf.st);rw [<- aH] at em;replace ⟨hj,aR,b8,cH,dL,aH⟩:=H6 hj aR b8 cH dL aH;by_cases q:st=1
        .have d1:=L0.2 q;have aK:=cH jx.bare (by unfold Ff;rw [Ad (aH.symm.trans q)];rfl);replace ⟨aK,q⟩:=H2 aK q;go_wp2_with fail;refine dL.mono ?_;rintro e w3 ⟨rfl,cW,bc⟩;have dc:=hJ.th hj.out bc cW (Wu jx) ⟨rfl,rfl,rfl,rfl⟩;clear cW bc;replace dc:=Hh dc;go_wp2;go_roundw
         case rel=>exact ⟨p+1,_,by go_num,by omega,dc,aK⟩
         case measure=>simp [intOf];omega
        .have d1:=Bl.2 q;have aK:=cH jx (by unfold Ff;rw [Ac (fun c=>q (aH.trans c))]);rw [Xx hj.out] at aK;replace ⟨aK,q⟩:=H2 aK q;go_wp2_with fail;go_roundw
         case rel=>exact ⟨p+1,_,by go_num,by omega,hJ,aK⟩
         case measure=>simp [intOf];omega
       .have bb:¬ (p:Int)<mj:=(by omega);have eH:p=mj:=(by omega);have am:=hX.out;rw [eH,<- aX.out,R8] at am;have dg:=mq.start bK.out cA.out hJ.out;obtain ⟨L,hL⟩:=Ex (J3 T.vs d bs (Cs d T.pl.ab));obtain ⟨Y,hY⟩:=Ex ((Cs d T.pl.ab).map Ff);have dF:Y.length=mj:=(by rw [hY,At];exact aX.out);have ds:cQ.map (fun j=>j.2.pl)=Ia d (L.take 0) Y:=by rw [am,hY];rfl
        have cc:∀ (i:Nat) (x:Int×Int×List Int),L[i]?=some x->∃ (k:Nat) (j:Jb),(Cs d T.pl.ab)[k]?=some j/\x.1=(k:Int)+1/\j.lf.st=1/\j.parts=[]/\x.2.2.length<=16/\(Ia d (L.take i) Y)[k]?=some j.bare:=fun i x hx=>by
         rw [hL] at hx ⊢;rw [hY];obtain ⟨k,j,a1,a2,a3,a4,a5,_,a6⟩:=Axs bv.b d bs hx;exact ⟨k,j,a1,a2,a3,a4,a5,a6⟩
        rw [<- hL] at b0;have fo:=cb.max
        have bi:∀ (js:List (Nat×aj)) (W:WD),An W { t with js:=js }->W.cell? ⟨tb,1,none⟩=some (.int .i64 d)/\W.cell? ⟨tb,4,none⟩=some (.slice cT mj bG):=fun js W hW=>by
         have:=hW.head;rw [f.out] at this;rw [ht.out];refine ⟨Aa this 1,?_⟩;rw [Aa this 4];show some T.jv=_;rw [bD.out,aM.out]
        have bX:t.jv=.slice cT mj bG:=(by rw [f.out,aM.out];exact bD.out);obtain ⟨iP,dP,ec,cf,ch⟩:=Cb Ai6;clear hX am hJ eH;replace ⟨dg,hL,hY,dF,ds,cc,bi,bX⟩:=H8 dg hL hY dF ds cc bi bX;replace ⟨dP,ec,cf,ch⟩:=H4 dP ec cf ch;go_wp2_with fail;go_loopw [17,18,20,141,178] (fun _ _ _ i2 _ wr=>∃ (i:Nat) (js:List (Nat×aj)),i2=.int .i64 i/\i<=bF/\Hid (mq w w5 wc t js wr)/\Hid (js.map (fun j=>j.2.pl)=Ia d (L.take i) Y)) (fun _ _ _ i2 _ _=>bF-(intOf i2).toNat)
        case atStart=>exact ⟨0,cQ,rfl,Aq _,dg,ds⟩
        case round=>
         obtain ⟨i,aO,rfl,hi,hP,hX⟩:=hrel;by_cases hc:i<bF
         .have bb:(i:Int)<bF:=(by omega);have fu:(0:Int)<=(i:Int):=(by omega);obtain ⟨s,hs⟩:=Ge ej i (by have:=cK.out;omega);have cd:=Axq cb.out hP.low (fun b ck e c=>by have:=d7 b ck e;omega) (fun s hs b ck e c=>by have:=cJ s hs b ck e;omega);obtain ⟨sb,cm,e9,c3,ca,eI⟩:=cd.cell i s hs;subst e9;have cp:L[i]?=some s.key:=(by rw [<- b0.out,Bh,hs];rfl);obtain ⟨k2,j0,dS,dQ,c5,cI,a9,dH⟩:=cc i _ cp;have bZ:k2<mj:=(by have h1:=(Ao.1 dS).1;have h2:=aX.out;omega);have dV:aO.length=mj:=(by have:=Ca List.length hX.out;rw [At,Acb,dF.out] at this;exact this);have aI:Pl.Ar wc s.go s.gn s.dq/\s.gn<=s.gc:=(by obtain ⟨_,_,_,_,_,ho⟩:=cb.cell i _ hs;exact ⟨ho.ak,ho.om⟩);have bo:=cJ _ (Ai hs);obtain ⟨fa,r,aA,m,av,o⟩:=s;have dQ:fa=(k2:Int)+1:=dQ;subst dQ;have a9:o.length<=16:=a9;have aI:Pl.Ar wc aA m o/\m<=av:=aI;have s0:wr.cell? ⟨sb,cm+i*3,none⟩=some (.int .i64 ((k2:Int)+1)):=ca 0 (by omega);have s1:wr.cell? ⟨sb,cm+i*3+1,none⟩=some (.int .i64 r):=ca 1 (by omega);have s2:wr.cell? ⟨sb,cm+i*3+2,none⟩=some (.slice aA m av):=ca 2 (by omega);replace ⟨hs,cd,ca,eI,cp,dS,c5,cI⟩:=H8 hs cd ca eI cp dS c5 cI;replace ⟨a9,dH,dV,aI,bo,c3⟩:=H6 a9 dH dV aI bo c3;go_upto_region 26 with fail;obtain ⟨nb,d2⟩:=Ex (wr.heap.size);obtain ⟨W1,aV⟩:=Ex (wr.alloc (.cells #[.int .i64 ((k2:Int)+1),.int .i64 r,.slice aA m av] 224 (0,0)));have dI:BW wr.heap.size wr W1:=(by rw [aV];exact Bn);have cL:W1.heap[nb]?=some (.cells #[.int .i64 ((k2:Int)+1),.int .i64 r,.slice aA m av] 224 (0,0)):=(by rw [aV,d2];exact Ah _ _);rw [<- aV,<- d2];clear aV d2 s0 s1 s2;have bM:=hP.drop dI;obtain ⟨g2,j,e8,hj,cr⟩:=An.rowAt (T:=t) bM.tab.at_ bX.out dV.out bZ;obtain ⟨jb,jx⟩:=j;subst e8;obtain ⟨_,c4⟩:=bi _ _ bM.tab.at_;have p0:=Bk cL 0 (.int .i64 ((k2:Int)+1)) rfl;have fx:IntKind.i64.wrap ((k2:Int)+1-1)=(k2:Int):=(by rw [Int.add_sub_cancel];exact Id (by omega) (by omega));have fk:(0:Int)<=(k2:Int):=(by omega);have fl:(k2:Int)<mj:=(by omega);replace ⟨dI,cL,bM,hj⟩:=H4 dI cL bM hj;go_quiet (fail);rename_i nq;have bw:=bM.drop (A9 _ W1 nq);have be:(W1.drewN nq).heap[nb]?=some (.cells #[.int .i64 ((k2:Int)+1),.int .i64 r,.slice aA m av] 224 (0,0)):=cL.out;obtain ⟨W2,eu⟩:=Ex (W1.drewN nq);rw [<- eu] at bw be ⊢;clear eu c4 cr p0;have aC:=bw.tab.at_.box _ (Ai hj.out);have a7:=bw.tab.at_.ok _ (Ai hj.out);have p1:=Bk be 1 (.int .i64 r) rfl;have p2:=Bk be 2 (.slice aA m av) rfl;have en:∃ v,W2.cell? ⟨jb,19,none⟩=some v:=⟨_,Aa aC 19⟩;have eq:∃ v,W2.cell? ⟨jb,20,none⟩=some v:=⟨_,Aa aC 20⟩;obtain ⟨fC,en⟩:=en;obtain ⟨fD,eq⟩:=eq;have et:=Af aC
          have b5:nb≠jb:=fun e=>by
           have h1:W2.heap[jb]?=_:=aC;rw [<- e,be] at h1;injection h1 with h1;injection h1 with _ h1;exact absurd h1 (by decide)
          have fn:=b5.symm
          have bE:jx.pl=j0.bare:=by
           have e1:(aO.map fun j=>j.2.pl)[k2]?=some jx.pl:=(by simp [hj.out]);rw [hX.out,dH.out] at e1;injection e1 with e1;exact e1.symm
          replace ⟨bw,be,aC,a7,bE⟩:=H5 bw be aC a7 bE;go_upto_region 27 with fail;go_region;obtain ⟨W3,cw⟩:=Ex (((W2.setCell ⟨jb,19,none⟩ (.int .i64 r)).setCell ⟨jb,20,none⟩ (.slice aA m av)).drew);have bc:Kb jb W2 W3:=(by rw [cw];exact (((Mod.refl (fun k=>k=jb) W2).set jb 19 _ rfl).set jb 20 _ rfl).drew);have ex:Bb W3 jb (jx.slot r aA m av o):=(by rw [cw];have h1:=Am (Am aC.out 19 (.int .i64 r)) 20 (.slice aA m av);show ((W2.setCell ⟨jb,19,none⟩ (.int .i64 r)).setCell ⟨jb,20,none⟩ (.slice aA m av)).heap[jb]?=_;rw [h1];simp [aj.slot]);have eD:=Tw aC.out a7.parts bc;have bN:=bw.set hj.out (Pb bc) ex eD (fun b e=>.inl e) ⟨rfl,rfl,rfl,rfl⟩ (.inr ⟨aI.1,aI.2,bo.out⟩);have cM:=bc.ar be.out b5;obtain ⟨c1,_⟩:=bi _ _ bN.tab.at_;have q1:=Bk cM 1 (.int .i64 r) rfl;have bB:(aO.set k2 (jb,jx.slot r aA m av o))[k2]?=some (jb,jx.slot r aA m av o):=by rw [List.getElem?_set_self (by have:=(Ao.1 hj.out).1;exact this)]
          have aU:∀ y:aj,y.pl=F8 d r o j0.bare->(aO.set k2 (jb,y)).map (fun j=>j.2.pl)=Ia d (L.take (i+1)) Y:=fun y hy=>by
           rw [Pl.Qs cp.out,Axr];show _=Dt _ ((k2:Int)+1) (F8 d r o);unfold Dt;rw [show ((k2:Int)+1-1).toNat=k2 by omega,<- hX.out];exact Na aO hj.out (by rw [hy,bE.out])
          rw [<- cw];clear cw p1 p2 en eq et bc ex eD;replace ⟨bN,cM,bB,aU⟩:=H4 bN cM bB aU;by_cases qs:r=d
          .have d1:=L0.2 qs;replace qs:=Hh qs;go_upto_region 28 with fail;go_quiet (fail);have aL:=bN.drop (A9 _ W3 nq);have cN:(W3.drewN nq).heap[nb]?=some (.cells #[.int .i64 ((k2:Int)+1),.int .i64 r,.slice aA m av] 224 (0,0)):=cM.out;have b4:=R7 (aL.tab.at_.box _ (Ai bB.out)) 3 (by omega);obtain ⟨l,hl⟩:=Ex ((A2 (jx.slot r aA m av o).pl.lf 3).1);rw [<- hl] at b4;obtain ⟨W4,ev⟩:=Ex (W3.drewN nq);rw [<- ev] at aL cN b4 ⊢;clear ev c1 q1;replace ⟨aL,cN,b4,hl⟩:=H4 aL cN b4 hl;go_wp2_with fail;refine b4.mono ?_;rintro e fd ⟨rfl,cV,cD⟩;have c0:=aL.tab.at_.ok _ (Ai bB.out);have cX:=aL.tab.at_.box _ (Ai bB.out);have eE:=Tw cX c0.parts cD;have dk:=aL.set bB.out (Pb cD) cV eE (fun b e=>.inl e) ⟨rfl,rfl,rfl,rfl⟩ (.inl ⟨rfl,rfl,rfl,rfl⟩);rw [P2] at dk;have d9:=cD.ar cN.out b5;have q2:=Bk d9 2 (.slice aA m av) rfl;have cB:=aI.1.len
           have eG:∃ jy:aj,mq w w5 wc t (aO.set k2 (jb,jy)) fd/\jy.pl=Ks d o l 0 j0.bare:=⟨_,dk,by
            show ({ jx.pl with start:=r,ak:=o,lf:=l }:Jb)=_;rw [bE.out,qs.out]
            simp [Ks,Jb.bare]⟩
           have dU:(F8 d r o j0.bare)=Ks d o l m j0.bare:=(by rw [qs.out,Axt,hl.out,cB];show Ks d o (A2 j0.bare.lf 3).1 _ _=Ks d o (A2 jx.pl.lf 3).1 _ _;rw [bE.out]);obtain ⟨e5,dl,ea⟩:=eG;have fg:m<=16:=(by have:=a9.out;omega);clear cV cD c0 cX dk eE;replace ⟨dl,ea,d9,cB,dU⟩:=H5 dl ea d9 cB dU;go_wp2_with fail;clear q2;go_loopw [20,178] (fun _ i2 wr=>∃ (q:Nat) (jy:aj),i2=.int .i64 q/\q<=m/\Hid (mq w w5 wc t (aO.set k2 (jb,jy)) wr)/\Hid (jy.pl=Ks d o l q j0.bare)) (fun _ i2 _=>m-(intOf i2).toNat)
           case atStart=>exact ⟨0,e5,rfl,Aq _,dl,ea⟩
           case round=>
            obtain ⟨q,jy,rfl,hq,bO,eb⟩:=hrel;by_cases eA:q<m
            .have eR:(q:Int)<m:=(by omega);have fv:(0:Int)<=(q:Int):=(by omega);have bC:(aO.set k2 (jb,jy))[k2]?=some (jb,jy):=(by rw [List.getElem?_set_self (by have:=(Ao.1 hj.out).1;exact this)]);have dR:=Aca aI.1 bO.low (fun b ck e c=>by have:=bo b ck e;omega);obtain ⟨gb,ff,e7,cY,eT⟩:=dR.cell q eA;subst e7;obtain ⟨z,hz⟩:=Ex (Pl.zi o q);rw [<- hz] at eT
             have ce:o[q]?=some z:=by
              rw [hz];have e0:q<o.length:=(by rw [cB.out];exact eA);simp [Pl.zi,List.getD,e0]
             have aZ:=bO.tab.at_.box _ (Ai bC);have c2:=bO.tab.at_.ok _ (Ai bC);obtain ⟨cS,ac,cR,aG⟩:∃ a b c,jy.po=a/\jy.pn=b/\jy.pc=c:=⟨_,_,_,rfl,rfl,rfl⟩;have fe:=Bk aZ 21 (.slice jy.po jy.pn jy.pc) rfl;rw [aG.1,aG.2.1,aG.2.2] at fe;have hA:=(Below.refl wr.heap.size wr).alloc Ln (.cells #[.int .i64 z,.int .i64 0] 65);obtain ⟨WA,dA⟩:=Ex (wr.alloc (.cells #[.int .i64 z,.int .i64 0] 65));have cP:WA.heap[wr.heap.size]?=some (.cells (E1 (z,0)) 65 (0,0)):=(by rw [dA];exact Ah _ _);rw [<- dA] at hA;have bP:=bO.drop hA;have a0:=Ae hA aZ (Ab aZ);have bk:=bP.tab.at_.ok _ (Ai bC);have bl:WA.ownsRow 0 65 2 (.slice jy.po jy.pn jy.pc) jy.pn (Au E1 jy.pl.parts):=bk.parts;have b1:=Jt bk.parts;rw [aG.1,aG.2.1,aG.2.2,show ac=jy.pl.parts.length from by rw [b1,aG.2.1]] at bl;have a8:Be E1 2 65 WA 0 (.slice cS ac cR) jy.pl.parts:=⟨by rw [show ac=jy.pl.parts.length from by rw [b1,aG.2.1]];exact bl⟩;have cE:jy.pl.parts.length=ac:=by rw [b1,aG.2.1]
             have b9:∀ u∈(E1 (z,0)).toList,u.oneCell'=true:=by intro u hu;simp at hu;rcases hu with rfl | rfl<;>rfl
             have ew:0<=WA.heap.size:=Aq _
             have eY:ac<=1000000:=by
              have h1:jy.pl.parts.length=([]++(o.take q).map fun n=>(n,(0:Int))).length:=(by rw [eb.out];show (j0.parts++_).length=_;rw [cI.out]);rw [Rg,At,E8] at h1;omega
             replace ⟨bC,dR,cY,hz,ce,aZ,c2,aG⟩:=H8 bC dR cY hz ce aZ c2 aG;replace ⟨hA,cP,bP,a0,bk,bl,b1,a8⟩:=H8 hA cP bP a0 bk bl b1 a8;replace ⟨cE,b9⟩:=H2 cE b9;rw [dA] at cP bP a0 a8 ew;go_wp2_with (at_builtin;refine Abo (cells:=E1) (sz:=2) rfl _ _ 44 rfl 0 iP _ 16 Y7 dP.out ec.out cf.out ch.out rfl (I3 _) (by decide) (fun _=>rfl) (.slice cS ac cR) rfl ac a8.out cE.out wr.heap.size 1 rfl (z,0) b9.out cP.out eY ew ?_;intro g9 aB w9 h9 eB dG;have cF:=Mod.grown (S:=fun k=>(Value.slice cS ac cR).ownBlock=some k) eB (fun k hk=>hk);have aP:=cF.ar a0.out (fun e=>Bo a8.row a0.out (by decide) e);have eM:=Aa aP 21;have et:=Af aP 21;simp at eM;replace ⟨h9,cF,aP,dG⟩:=H4 h9 cF aP dG;clear eB);go_roundw
             have eP:mq w w5 wc t (aO.set k2 (jb,jy.part (z,0) g9 (ac+1) aB)) (w9.setCell ⟨jb,21,none⟩ (.slice (some ⟨g9,0,none⟩) (ac+1) aB)):=by
              have eF:jy.pb=(Value.slice cS ac cR).ownBlock:=(by unfold aj.pb;rw [aG.1,aG.2.1,aG.2.2]);have aM:=Mod.setCell (S:=fun k=>k=jb) w9 jb 21 (.slice (some ⟨g9,0,none⟩) (ac+1) aB) rfl;have hm:=(cF.mono (S':=F4 (jb,jy)) fun k _ c=>.inr (by rw [eF];exact c)).set jb 21 (.slice (some ⟨g9,0,none⟩) (ac+1) aB) (.inl rfl)
              have eZ:Bv (w9.setCell ⟨jb,21,none⟩ (.slice (some ⟨g9,0,none⟩) (ac+1) aB)) (jy.part (z,0) g9 (ac+1) aB):=by
               have h1:=(h9.mod aM (fun k hk e=>by
                subst e
                exact Bo h9.row aP.out (by decide) hk)).row
               rw [Cn,cE.out] at h1;exact h1
              have ez:Bb (w9.setCell ⟨jb,21,none⟩ (.slice (some ⟨g9,0,none⟩) (ac+1) aB)) jb (jy.part (z,0) g9 (ac+1) aB):=by unfold Bb;rw [Am aP.out];simp [aj.part]
              have h1:=bP.set bC.out hm ez eZ (fun b e=>by
               have e:(Value.slice (some ⟨g9,0,none⟩) (ac+1) aB).ownBlock=some b:=e;simp [Value.ownBlock] at e;subst e;rcases dG.out with c | c
               .exact .inl (by rw [eF];exact c)
               .exact .inr (by omega)) ⟨rfl,rfl,rfl,rfl⟩ (.inl ⟨rfl,rfl,rfl,rfl⟩)
              rw [P2] at h1;exact h1
             have e4:(jy.part (z,0) g9 (ac+1) aB).pl=Ks d o l (q+1) j0.bare:=by show ({ jy.pl with parts:=jy.pl.parts++[(z,0)] }:Jb)=_;rw [eb.out];unfold Ks;rw [Pl.Qs ce.out];simp
             case rel=>exact ⟨q+1,_,by go_num,by omega,eP,e4⟩
             case measure=>simp [intOf];omega
            .have eR:¬ (q:Int)<m:=(by omega);have d5:q=m:=(by omega);have dD:=aU jy (by rw [eb.out,d5,dU.out]);replace ⟨dD,d5⟩:=H2 dD d5;go_wp2_with fail;go_roundw
             case rel=>exact ⟨i+1,_,by go_num,by omega,bO,dD⟩
             case measure=>simp [intOf];omega
          .have d1:=Bl.2 qs
           have dC:=aU (jx.slot r aA m av o) (by
            rw [Axu o _ qs];show ({ jx.pl with start:=r,ak:=o }:Jb)=_;rw [bE.out]
            simp [Ks,Jb.bare])
           replace ⟨dC,qs⟩:=H2 dC qs;go_upto_region 28 with fail;go_quiet (fail);have aL:=bN.drop (A9 _ W3 nq);replace aL:=Hh aL;go_wp2_with fail;go_roundw
           case rel=>exact ⟨i+1,_,by go_num,by omega,aL,dC⟩
           case measure=>simp [intOf];omega
         .have bb:¬ (i:Int)<bF:=(by omega);have cy:=hX.out;have dd:L.length=bF:=(by rw [<- b0.out,At,cK.out]);rw [C8 (by rw [dd];omega)] at cy;obtain ⟨r0,r1,r2⟩:=C3 hP.res;(try dsimp only at r0 r1 r2);have fr:=Af hP.res;have hD:=hP.done h.out (by rw [f.out]) (by rw [f.out]) (.int .i64 0) (.int .i64 0) (.int .i64 0);replace ⟨cy,dd,hD⟩:=H3 cy dd hD;go_wp2_with fail;refine Ak (v:=Gv ⟨0,0,0,0⟩) (by simp [results,results83,go_sem,r0,r1,r2]) rfl ⟨⟨rfl,?_⟩,?_⟩
          .have hD:=hD.out;rw [f.out] at hD;refine ⟨_,⟨hD.at_,rfl,rfl,rfl,rfl,rfl,hD.aw,hD.mod,hD.dz⟩,?_⟩;show (⟨T.ah,d,T.cls,T.nodes,aO.map fun j=>j.2.pl⟩:du)=_;rw [cy.out,hL.out,hY.out,bx.out];rfl
          .have:=d6.out;rw [bx.out] at this;exact this
def Ax5 {w:WD} {T:Tv} (xn:cu) (bN:Option Addr) (xm xc:Nat) (d:List ay) (h:An w T) (hA:Dd T.vs T.pl.ab) (hj:T.js.length<=100) (bM:∀ W',Mod T.aw w W'->Jw W' bN xm d) (hm:xm<=1000) (h0:(B7 T.vs T.js.length (d.map ay.pl)).2=0) :
  CS prog 82 #[.pointer (some ⟨T.tb,0,none⟩),(⟨xn,bN,xm,xc,d⟩:cz).val] w (Ps w T (Mq T.vs T.pl (d.map ay.pl)).1 (Mq T.vs T.pl (d.map ay.pl)).2):=by
 obtain ⟨iP,c8,dC,cb,cd⟩:=Cb Ax0;have aE:=r9.new w ⟨xn,bN,xm,xc,d⟩;obtain ⟨W0,cX⟩:=Ex ((w.alloc (.cells (⟨xn,bN,xm,xc,d⟩:cz).cells 40 (0,0))).alloc (.cells #[.int .i64 0,.int .i64 0,.int .i64 0] 35 (0,0)));rw [<- cX] at aE;have c9:T.pl.ab.length=T.js.length:=by simp [Tv.pl]
 obtain ⟨R,hR⟩:=Ex ((B7 T.vs T.js.length (d.map ay.pl)).1);have bO:B7 T.vs T.js.length (d.map ay.pl)=(R,0):=by rw [hR,<- h0]
 obtain ⟨o1,o2,o3⟩:=Ab1 h0;have dL:=Abw (by rw [<- o3];exact h0);rw [<- o3,<- hR] at dL;obtain ⟨r1,_,r3,_,r5⟩:=dL;have bL:=(bM w (Mod.refl _ _)).len;have bP:R.length=xm:=by rw [r1,At,At,bL]
 have aS:∀ l,l∈R->l.length<=1000:=fun l hl=>by
  obtain ⟨_,l0,ec,cC⟩:=r5 l hl;obtain ⟨s,hs,rfl⟩:=Ba.1 ec;obtain ⟨_,_,_,q4,_⟩:=G6 (Jl (o1 s hs));have:=Wj q4;omega
 have cE:∀ s,s∈d->D6 s.pl=true:=fun s hs=>Jl (o1 _ (Ku hs));have a4:Mq T.vs T.pl (d.map ay.pl)=(T.pl.ft (Dj (El ((d.map ay.pl).zip R) T.pl.ab)),⟨0,0,(T.js.length:Int)+1,((El ((d.map ay.pl).zip R) T.pl.ab).length:Int)⟩):=by unfold Mq;rw [c9,bO]
 have bo:Dd T.vs (Dj (El ((d.map ay.pl).zip R) T.pl.ab))/\(Dj (El ((d.map ay.pl).zip R) T.pl.ab)).length<=100:=by have:=Ai4 (vs:=T.vs) (t:=T.pl) (l:=d.map ay.pl) hA (by rw [c9];exact h0);rw [a4] at this;exact this
 obtain ⟨so,cap,cA,cC,b3,_⟩:=h.mm;have a5:=Ax4 (h.low aE.low) (by omega) bN xm xc d (bM W0 (Mod.af aE.low)) hm bO;have e9:=Bk aE.box 9 (.slice bN xm xc) rfl;have ck:=(D1.refl h).low aE.low;obtain ⟨N,hN⟩:=Ex (T.js.length);obtain ⟨tb,ht⟩:=Ex (T.tb);have eg:IntKind.i64.wrap ((N:Int)+1)=(N:Int)+1:=Id (by omega) (by omega);have d4:N<=100:=by omega
 rw [<- ht] at a5;rw [<- ht];rw [a4];clear hR h0 c9;replace ⟨h,hA,bM,hm,bO,o1,o2,o3⟩:=H8 h hA bM hm bO o1 o2 o3;replace ⟨r1,r3,r5,bL,bP,aS,cE,a4⟩:=H8 r1 r3 r5 bL bP aS cE a4;replace ⟨bo,cA,cC,b3,a5,aE,ck,hN⟩:=H8 bo cA cC b3 a5 aE ck hN;replace ⟨ht,c8,dC,cb,cd,hj⟩:=H6 ht c8 dC cb cd hj;go_enter func82,ntmps82;go_upto_region 1 with fail;rw [<- cX];clear cX;go_upto_region 2 with (go_at_call 58;(with_reducible refine (a5.out).mono ?_);rintro e w1 ⟨g,s2,rfl,aV,aX⟩;replace ⟨aV,aX⟩:=H2 aV aX);have bQ:=ck.low aX.out;have c4:w1.cell? ⟨tb,4,none⟩=some (.slice so N cap):=by rw [ht.out,hN.out,<- cA.out];exact Aa bQ.at_.head 4
 have dI:=(Ag aX.out (Ab aE.box)).trans e9;have dA:=Bx (Ab aE.box) aX.size;clear e9;replace bQ:=Hh bQ;go_upto_region 3 with fail;obtain ⟨W2,cl⟩:=Ex (w1.alloc (.cells #[.int .i64 0,.int .i64 ((N:Int)+1),.int .i64 0] 35 (0,0)));obtain ⟨rb,cJ⟩:=Ex (w1.heap.size);have a8:BW w1.heap.size w1 W2:=by rw [cl];exact Bn
 have bE:W2.heap[rb]?=some (.cells #[.int .i64 0,.int .i64 ((N:Int)+1),.int .i64 0] 35 (0,0)):=by rw [cl,cJ];exact Ah _ _
 rw [<- cl,<- cJ];have dT:w.heap.size<rb:=by rw [cJ];exact dA
 clear cl cJ;have e9:=(Ag a8 dA).trans dI;have cf:oz w T rb W0.heap.size g R.length s2 R T.jv T.js W2:=⟨bQ.low a8,Ae a8 (Ae aX.out aE.res (Ab aE.res)) (Bx (Ab aE.res) aX.size),by rw [<- hN.out];exact bE,aV.low a8,fun j hj=>⟨fun c k o e=>by have:=Ld (h.ok j hj).after.row c e;omega,fun c k o e=>by have:=Ld (h.ok j hj).ak.row c e;omega⟩,If.refl _ _⟩;have cr:T.js.map (fun j=>j.2.pl)=El (((d.map ay.pl).zip R).take 0) T.pl.ab:=rfl;clear dI c4 dA;replace ⟨a8,bE,cf,cr⟩:=H4 a8 bE cf cr;go_wp2_with fail;clear e9;go_loopw [8,9,11,12,13,32,40] (fun _ _ _ _ _ iv _ wr=>∃ (i:Nat) (jv:VL) (js:List (Nat×aj)),iv=.int .i64 i/\i<=xm/\Hid (oz w T rb W0.heap.size g R.length s2 R jv js wr)/\Hid (js.map (fun j=>j.2.pl)=El (((d.map ay.pl).zip R).take i) T.pl.ab)/\Hid (js.length<=N+20*i)) (fun _ _ _ _ _ iv _ _=>xm-(intOf iv).toNat)
 case atStart=>exact ⟨0,T.jv,T.js,rfl,Aq _,cf,cr,Hh (by have:=hN.out;omega)⟩
 case round=>
  obtain ⟨i,jv,js,rfl,d8,hL,hX,cS⟩:=hrel;by_cases hc:i<xm
  .have dK:(i:Int)<xm:=(by omega);have d7:(0:Int)<=(i:Int):=(by omega);obtain ⟨sp,hx⟩:=Ge d i (by have:=bL.out;omega);have cL:=bM wr hL.sub.mod;obtain ⟨b,aH,rfl,dl,aA,bK⟩:=cL.cell i sp hx;have b5:=cE sp (Ai hx);obtain ⟨row,ai⟩:=Ge R i (by have:=bP.out;omega);have b8:((d.map ay.pl).zip R).take (i+1)=((d.map ay.pl).zip R).take i++[(sp.pl,row)]:=I7 (by rw [List.getElem?_zip_eq_some];exact ⟨by rw [Bh,hx];rfl,ai⟩);have aU:=aS row (Ai ai);have bV:=fun W (hb:BW wr.heap.size wr W)=>Ax3 (bK.low hb) b5;have cN:=bK.user;have cH:=bK.part;obtain ⟨bi,aL⟩:=Ex (sp.pl.array.toNat);rw [<- aL] at bV;have bJ:bi<=20:=(by obtain ⟨_,_,_,_,_,_,_,q8,_⟩:=G6 b5;obtain ⟨b1,b2⟩:=I9.1 q8;omega);obtain ⟨S0,aI⟩:=Ex (sp.pl);rw [<- aI] at b8 aL;have cy:i<R.length:=(by have:=bP.out;omega);have dM:(i:Int)<(R.length:Int):=(by omega);obtain ⟨⟨x,p,nodes,⟨da,db,dc,dd⟩,z,r,array,ae,f,after⟩,dF,sn,dE⟩:=sp;replace aI:S0=⟨x,p,nodes,⟨da,db,dc,dd⟩,z,r,array,ae,f,after⟩:=aI;have z0:wr.cell? ⟨b,aH+i*13,none⟩=some (.string x):=aA 0 (by omega);have z1:wr.cell? ⟨b,aH+i*13+1,none⟩=some (.string p):=aA 1 (by omega);have z2:wr.cell? ⟨b,aH+i*13+2,none⟩=some (.int .i64 nodes):=aA 2 (by omega);have z3:wr.cell? ⟨b,aH+i*13+3,none⟩=some (.int .i64 da):=aA 3 (by omega);have z4:wr.cell? ⟨b,aH+i*13+4,none⟩=some (.int .i64 db):=aA 4 (by omega);have z5:wr.cell? ⟨b,aH+i*13+5,none⟩=some (.int .i64 dc):=aA 5 (by omega);have z6:wr.cell? ⟨b,aH+i*13+6,none⟩=some (.int .i64 dd):=aA 6 (by omega);have z7:wr.cell? ⟨b,aH+i*13+7,none⟩=some (.int .i64 z):=aA 7 (by omega);have z8:wr.cell? ⟨b,aH+i*13+8,none⟩=some (.int .i64 r):=aA 8 (by omega);have z9:wr.cell? ⟨b,aH+i*13+9,none⟩=some (.int .i64 array):=aA 9 (by omega);have et:wr.cell? ⟨b,aH+i*13+10,none⟩=some (.int .i64 ae):=aA 10 (by omega);have eu:wr.cell? ⟨b,aH+i*13+11,none⟩=some (.bool f):=aA 11 (by omega);have ev:wr.cell? ⟨b,aH+i*13+12,none⟩=some (.slice dF sn dE):=aA 12 (by omega);replace ⟨hx,cL,dl,aA,bK,b5,ai,b8⟩:=H8 hx cL dl aA bK b5 ai b8;replace ⟨aU,bV,cN,cH,aL,bJ,aI,cy⟩:=H8 aU bV cN cH aL bJ aI cy;go_upto_region 6 with fail;clear z0 z1 z2 z3 z4 z5 z6 z7 z8 z9 et eu ev;obtain ⟨nb,dr⟩:=Ex (wr.heap.size);obtain ⟨W3,cm⟩:=Ex (wr.alloc (.cells (⟨⟨x,p,nodes,⟨da,db,dc,dd⟩,z,r,array,ae,f,after⟩,dF,sn,dE⟩:ay).cells 33 (0,0)));have bS:BW wr.heap.size wr W3:=(by rw [cm];exact Bn);have cO:W3.heap[nb]?=some (.cells (⟨⟨x,p,nodes,⟨da,db,dc,dd⟩,z,r,array,ae,f,after⟩,dF,sn,dE⟩:ay).cells 33 (0,0)):=(by rw [cm,dr];exact Ah _ _);rw [<- cm,<- dr];clear cm dr;obtain ⟨x0,x1,x2,x3,x4,x5,x6,x7,x8,x9,d0,d1,d2⟩:=C13 cO;(try dsimp only at x0 x1 x2 x3 x4 x5 x6 x7 x8 x9 d0 d1 d2);have bn:=bV W3 bS;replace ⟨bS,cO,bn⟩:=H3 bS cO bn;go_wp2_with (go_at_call 128;(with_reducible refine (bn.out).mono ?_);rintro e w4 ⟨g2,er,c2,rfl,cB,aY,cI,aT,cw⟩;replace ⟨cB,aY,cI,aT,cw⟩:=H5 cB aY cI aT cw);clear x0 x1 x2 x3 x4 x5 x6 x7 x8 x9 d0 d1 d2;have ch:=(hL.low bS.out).low cw.out;have ct:js.map (fun j=>j.2.pl)=Iu S0 row (js.map fun j=>j.2.pl) 0:=rfl;replace ⟨ch,ct⟩:=H2 ch ct;go_loopw [11,12,13,40] (fun _ _ _ kv wr=>∃ (k:Nat) (jv:VL) (aC:List (Nat×aj)),kv=.int .i64 k/\k<=bi/\Hid (oz w T rb W0.heap.size g R.length s2 R jv aC wr)/\Hid (aC.map (fun j=>j.2.pl)=Iu S0 row (js.map fun j=>j.2.pl) k)/\Hid (wr.heap[g2]?=some (.cells c2 33 (0,0)))/\Hid (aC.length<=N+20*i+k)) (fun _ _ _ kv _=>bi-(intOf kv).toNat)
   case atStart=>exact ⟨0,jv,js,rfl,Aq _,ch,ct,aY,cS⟩
   case round=>
    obtain ⟨k,dU,aC,rfl,eb,hL,hY,aY,bw⟩:=hrel;by_cases d5:k<bi
    .have cQ:(k:Int)<bi:=(by omega);have ea:(0:Int)<=(k:Int):=(by omega);obtain ⟨y,hy⟩:=Ge er k (by have:=cB.out;have:=aL.out;rw [aI.out] at this;omega);have dB:=aT k y hy
     have aB:∀ o,o<13->wr.cell? ⟨g2,k*13+o,none⟩=y.cells[o]?:=fun o ho=>by rw [Aa aY.out];exact cI.done k y hy o ho
     obtain ⟨es,dG,yn,yc⟩:=y;replace dB:es=⟨x,p,nodes,⟨da,db,dc,dd⟩,z,r,1,ae,f,after⟩:=dB;subst dB;have v0:wr.cell? ⟨g2,k*13,none⟩=some (.string x):=aB 0 (by omega);have v1:wr.cell? ⟨g2,k*13+1,none⟩=some (.string p):=aB 1 (by omega);have v2:wr.cell? ⟨g2,k*13+2,none⟩=some (.int .i64 nodes):=aB 2 (by omega);have v3:wr.cell? ⟨g2,k*13+3,none⟩=some (.int .i64 da):=aB 3 (by omega);have v4:wr.cell? ⟨g2,k*13+4,none⟩=some (.int .i64 db):=aB 4 (by omega);have v5:wr.cell? ⟨g2,k*13+5,none⟩=some (.int .i64 dc):=aB 5 (by omega);have v6:wr.cell? ⟨g2,k*13+6,none⟩=some (.int .i64 dd):=aB 6 (by omega);have v7:wr.cell? ⟨g2,k*13+7,none⟩=some (.int .i64 z):=aB 7 (by omega);have v8:wr.cell? ⟨g2,k*13+8,none⟩=some (.int .i64 r):=aB 8 (by omega);have v9:wr.cell? ⟨g2,k*13+9,none⟩=some (.int .i64 1):=aB 9 (by omega);have dX:wr.cell? ⟨g2,k*13+10,none⟩=some (.int .i64 ae):=aB 10 (by omega);have dY:wr.cell? ⟨g2,k*13+11,none⟩=some (.bool f):=aB 11 (by omega);have dZ:wr.cell? ⟨g2,k*13+12,none⟩=some (.slice dG yn yc):=aB 12 (by omega);replace ⟨hy,aB⟩:=H2 hy aB;go_upto_block 3 with fail;go_cut [11,12,13] (fun _ _ _ wx=>xq w T rb W0.heap.size g R.length s2 R (Iu S0 row (js.map fun j=>j.2.pl) (k+1)) (N+20*i+(k+1)) g2 c2 wx)
     case first=>
      go_upto_region 9 with fail;clear v0 v1 v2 v3 v4 v5 v6 v7 v8 v9 dX dY dZ;obtain ⟨ob,dv⟩:=Ex (wr.heap.size);obtain ⟨W5,co⟩:=Ex (wr.alloc (.cells (⟨⟨x,p,nodes,⟨da,db,dc,dd⟩,z,r,1,ae,f,after⟩,dG,yn,yc⟩:ay).cells 33 (0,0)));have a9:BW wr.heap.size wr W5:=(by rw [co];exact Bn);have b9:W5.heap[ob]?=some (.cells (⟨⟨x,p,nodes,⟨da,db,dc,dd⟩,z,r,1,ae,f,after⟩,dG,yn,yc⟩:ay).cells 33 (0,0)):=(by rw [co,dv];exact Ah _ _);rw [<- co,<- dv];have bD:wr.heap.size<=ob:=(by omega);clear co dv;have ci:=hL.low a9;obtain ⟨eq,rn,rc,rl,e1,e2,e3,e4,e5⟩:=ci.rows.get cy.out;rw [ai.out] at e2;injection e2 with e2;subst e2;obtain ⟨_,_,_,e6,e7,e8,_⟩:=Qe e5;injection e6 with a1 a2 a3;subst a1 a2 a3;have cK:rn<=1000:=(by have:=aU.out;omega);have cP:=X3 eq rn rc row W5 e8 cK;have dS:=Ab b9;replace ⟨a9,b9,ci,bD,e1,e3,e5,e7⟩:=H8 a9 b9 ci bD e1 e3 e5 e7;replace ⟨e8,cK,cP⟩:=H3 e8 cK cP;go_upto_region 10 with (go_at_call 87;(with_reducible refine (cP.out).mono ?_);rintro e w6 ⟨ap,nc,rfl,cF,cG,bI,bT⟩;have bf:=Ae bT b9.out dS;have dV:=Aa bf 12;have of:=Af bf;simp at dV;replace ⟨cF,cG,bI,bT,bf⟩:=H5 cF cG bI bT bf);obtain ⟨W7,bR⟩:=Ex (w6.setCell ⟨ob,12,none⟩ (.slice ap rn nc));have bg:W7.heap[ob]?=some (.cells (⟨⟨x,p,nodes,⟨da,db,dc,dd⟩,z,r,1,ae,f,after⟩,ap,rn,nc⟩:ay).cells 33 (0,0)):=(by rw [bR];have:=Am bf.out 12 (.slice ap rn nc);simpa using this);have b0:Mod (fun k=>k=ob) w6 W7:=(by rw [bR];exact Mod.setCell (S:=fun k=>k=ob) w6 ob 12 (.slice ap rn nc) rfl);have bH:BW wr.heap.size wr W7:=by rw [bR];exact B9 (a9.trans (bT.mono a9.size)) bD.out
      have aZ:∀ q o,ap=some ⟨q,o,none⟩->q≠ob:=fun q o e c=>by
       obtain ⟨_,_,_,cc,hc⟩:=bI q o e;rw [c,bf.out] at hc;injection hc with hc;injection hc with _ hc;exact absurd hc (by decide)
      have bB:=Akc cG.out b0 aZ
      have bA:∀ q o,ap=some ⟨q,o,none⟩->∃ cc,W7.heap[q]?=some (.cells cc 3 (0,0)):=fun q o e=>by
       obtain ⟨_,_,_,cc,hc⟩:=bI q o e;exact ⟨cc,b0.ar hc (aZ q o e)⟩
      rw [<- bR];have cj:=hL.low bH;have en:=Bk bg 10 (.int .i64 ae) rfl;have ep:=Bk bg 11 (.bool f) rfl;have ce:=Ao2 ae f W7;obtain ⟨⟨gi,an,al,lw,am⟩,bZ⟩:∃ l,l=(Kc ae f).1:=⟨_,rfl⟩;obtain ⟨eC,bx⟩:=Ex ((Kc ae f).2);rw [<- bZ,<- bx] at ce;clear bR dV of;replace ⟨bg,b0,bH,aZ,bB,bA,cj,ce⟩:=H8 bg b0 bH aZ bB bA cj ce;replace ⟨bZ,bx⟩:=H2 bZ bx;go_upto_region 11 with (go_at_call 129;(with_reducible refine (ce.out).mono ?_);rintro e w8 ⟨rfl,bU⟩;replace bU:=Hh bU);obtain ⟨W9,cp⟩:=Ex (w8.alloc (.cells #[.int .i64 gi,.int .i64 an,.int .i64 al,.bool lw,.bool am] 43 (0,0)));obtain ⟨lb,dk⟩:=Ex (w8.heap.size);have cx:BW w8.heap.size w8 W9:=(by rw [cp];exact Bn);have bY:W9.heap[lb]?=some (.cells #[.int .i64 gi,.int .i64 an,.int .i64 al,.bool lw,.bool am] 43 (0,0)):=(by rw [cp,dk];exact Ah _ _);rw [<- cp,<- dk];clear cp dk en ep;have aJ:=bU.trans (cx.mono bU.size);have ca:=Ae aJ bg.out (Ab bg.out);have aF:=cj.low aJ;have bC:=bB.low aJ
      have a0:∀ q o,ap=some ⟨q,o,none⟩->∃ cc,W9.heap[q]?=some (.cells cc 3 (0,0)):=fun q o e=>by
       obtain ⟨cc,hc⟩:=bA q o e;exact ⟨cc,Ae aJ hc (Ab hc)⟩
      have bs:=Ae (bH.trans (aJ.mono bH.size)) aY.out (Ab aY.out);obtain ⟨ao,ad,aK,bX,bc,_⟩:=aF.sub.at_.mm;obtain ⟨n2,aG⟩:=Ex (aC.length);replace aK:dU=.slice ao n2 ad:=(by rw [aG];exact aK);subst aK;have b6:n2<=30000:=(by have:=bw.out;have:=hm.out;have:=bJ.out;omega);have eB:IntKind.i64.wrap ((n2:Int)+1)=(n2:Int)+1:=Id (by omega) (by omega);have cU:=G4 (n:=n2) (by omega);have c5:(n2+1)*8<=140737488355328:=(by omega);have m:=aF.sub.at_.head;replace m:W9.heap[tb]?=some (.cells #[.int .i64 T.ah,.int .i64 T.tick,.map (some T.mb),T.nv,.slice ao n2 ad,.pointer (some ⟨T.fb,0,none⟩),T.cv] 115 (0,0)):=(by rw [ht.out];exact m);have av:W9.ownsRow 0 125 1 (.slice ao n2 ad) n2 (aC.map fun j=>.pointer (some ⟨j.1,0,none⟩)):=by rw [aG];rw [aG] at aF;exact aF.sub.at_.ab
      have dJ:∀ W':WD,Mod (fun k=>k=tb\/(Value.slice ao n2 ad).ownBlock=some k) W9 W'->W'.cell? ⟨ob,0,none⟩=some (.string x)/\W'.cell? ⟨ob,1,none⟩=some (.string p)/\W'.cell? ⟨ob,2,none⟩=some (.int .i64 nodes)/\W'.cell? ⟨ob,3,none⟩=some (.int .i64 da)/\W'.cell? ⟨ob,4,none⟩=some (.int .i64 db)/\W'.cell? ⟨ob,5,none⟩=some (.int .i64 dc)/\W'.cell? ⟨ob,6,none⟩=some (.int .i64 dd)/\W'.cell? ⟨ob,7,none⟩=some (.int .i64 z)/\W'.cell? ⟨ob,8,none⟩=some (.int .i64 r)/\W'.cell? ⟨ob,9,none⟩=some (.int .i64 1)/\W'.cell? ⟨ob,10,none⟩=some (.int .i64 ae)/\W'.cell? ⟨ob,11,none⟩=some (.bool f)/\W'.cell? ⟨ob,12,none⟩=some (.slice ap rn nc)/\W'.cell? ⟨lb,0,none⟩=some (.int .i64 gi)/\W'.cell? ⟨lb,1,none⟩=some (.int .i64 an)/\W'.cell? ⟨lb,2,none⟩=some (.int .i64 al)/\W'.cell? ⟨lb,3,none⟩=some (.bool lw)/\W'.cell? ⟨lb,4,none⟩=some (.bool am):=fun W' hm=>by
       have nt:∀ {q:Nat} {c:Array VL} {Ty:TypeId},W9.heap[q]?=some (.cells c Ty (0,0))->Ty≠115->Ty≠125->¬ (q=tb\/(Value.slice ao n2 ad).ownBlock=some q):=fun hq h1 h2 e=>by
        rcases e with e | e
        .rw [e,m] at hq;injection hq with hq;injection hq with _ hq;exact h1 hq.symm
        .exact Bo av hq (fun e=>h2 e.symm) e
       have z2:=hm.ar ca (nt ca (by decide) (by decide));have z3:=hm.ar bY (nt bY (by decide) (by decide));exact ⟨Aa z2 0,Aa z2 1,Aa z2 2,Aa z2 3,Aa z2 4,Aa z2 5,Aa z2 6,Aa z2 7,Aa z2 8,Aa z2 9,Aa z2 10,Aa z2 11,Aa z2 12,Aa z3 0,Aa z3 1,Aa z3 2,Aa z3 3,Aa z3 4⟩
      obtain ⟨p0,p1,p2,p3,p4,p5,p6,p7,p8,p9,eD,eE,eF,q0,q1,q2,q3,q4⟩:=dJ W9 (Mod.refl _ _);have dH:=Bk m 4 (.slice ao n2 ad) rfl;have cT:=Ab m;have bF:BW W9.heap.size W9 (W9.alloc (.cells #[.int .i64 ((n2:Int)+1),.string x,.string p,.int .i64 nodes,.int .i64 da,.int .i64 db,.int .i64 dc,.int .i64 dd,.int .i64 z,.int .i64 r,.int .i64 1,.int .i64 ae,.bool f,.slice ap rn nc,.int .i64 gi,.int .i64 an,.int .i64 al,.bool lw,.bool am,.int .i64 (-1),.slice none 0 0,.slice none 0 0] 46)):=Bn;have aW:BW W9.heap.size W9 ((W9.alloc (.cells #[.int .i64 ((n2:Int)+1),.string x,.string p,.int .i64 nodes,.int .i64 da,.int .i64 db,.int .i64 dc,.int .i64 dd,.int .i64 z,.int .i64 r,.int .i64 1,.int .i64 ae,.bool f,.slice ap rn nc,.int .i64 gi,.int .i64 an,.int .i64 al,.bool lw,.bool am,.int .i64 (-1),.slice none 0 0,.slice none 0 0] 46)).alloc (.cells #[.pointer (some ⟨W9.heap.size,0,none⟩)] 125)):=bF.alloc bF.size _;have ey:=(Ag bF cT).trans dH;have ez:=(Ag aW cT).trans dH;have bv:((W9.alloc (.cells #[.int .i64 ((n2:Int)+1),.string x,.string p,.int .i64 nodes,.int .i64 da,.int .i64 db,.int .i64 dc,.int .i64 dd,.int .i64 z,.int .i64 r,.int .i64 1,.int .i64 ae,.bool f,.slice ap rn nc,.int .i64 gi,.int .i64 an,.int .i64 al,.bool lw,.bool am,.int .i64 (-1),.slice none 0 0,.slice none 0 0] 46)).alloc (.cells #[.pointer (some ⟨W9.heap.size,0,none⟩)] 125)).heap[W9.heap.size]?=some (.cells #[.int .i64 ((n2:Int)+1),.string x,.string p,.int .i64 nodes,.int .i64 da,.int .i64 db,.int .i64 dc,.int .i64 dd,.int .i64 z,.int .i64 r,.int .i64 1,.int .i64 ae,.bool f,.slice ap rn nc,.int .i64 gi,.int .i64 an,.int .i64 al,.bool lw,.bool am,.int .i64 (-1),.slice none 0 0,.slice none 0 0] 46 (0,0)):=Aj _ (Ah _ _);have b7:((W9.alloc (.cells #[.int .i64 ((n2:Int)+1),.string x,.string p,.int .i64 nodes,.int .i64 da,.int .i64 db,.int .i64 dc,.int .i64 dd,.int .i64 z,.int .i64 r,.int .i64 1,.int .i64 ae,.bool f,.slice ap rn nc,.int .i64 gi,.int .i64 an,.int .i64 al,.bool lw,.bool am,.int .i64 (-1),.slice none 0 0,.slice none 0 0] 46)).alloc (.cells #[.pointer (some ⟨W9.heap.size,0,none⟩)] 125)).heap[W9.heap.size+1]?=some (.cells #[.pointer (some ⟨W9.heap.size,0,none⟩)] 125 (0,0)):=A3 _ _ (by simp)
      have bk:Iu S0 row (js.map fun j=>j.2.pl) (k+1)=aC.map (fun j=>j.2.pl)++[(⟨⟨(n2:Int)+1,⟨x,p,nodes,⟨da,db,dc,dd⟩,z,r,1,ae,f,row⟩,⟨gi,an,al,lw,am⟩,-1,[],[]⟩,ap,rn,nc,none,0,0,none,0,0⟩:aj).pl]:=by
       show Iu S0 row (js.map fun j=>j.2.pl) k++[_]=_;rw [<- hY.out];congr 2;have dP:=Ca List.length hY.out;rw [Xy,At,At] at dP;unfold N8;rw [aI.out];show Jb.mk _ _ _ _ _ _=Jb.mk _ _ _ _ _ _;congr 1
       .rw [At,aG];push_cast;omega
       .exact bZ.symm
      have bb:∀ (g9 aD:Nat) (w9:WD),w9.ownsRow 0 125 1 (.slice (some ⟨g9,0,none⟩) (n2+1) aD) (n2+1) ((aC.map fun j=>.pointer (some ⟨j.1,0,none⟩))++[.pointer (some ⟨W9.heap.size,0,none⟩)])->((W9.alloc (.cells #[.int .i64 ((n2:Int)+1),.string x,.string p,.int .i64 nodes,.int .i64 da,.int .i64 db,.int .i64 dc,.int .i64 dd,.int .i64 z,.int .i64 r,.int .i64 1,.int .i64 ae,.bool f,.slice ap rn nc,.int .i64 gi,.int .i64 an,.int .i64 al,.bool lw,.bool am,.int .i64 (-1),.slice none 0 0,.slice none 0 0] 46)).alloc (.cells #[.pointer (some ⟨W9.heap.size,0,none⟩)] 125)).grownBy w9 (Value.slice ao n2 ad).ownBlock->((Value.slice ao n2 ad).ownBlock=some g9\/g9=W9.heap.size+2) ->
        xq w T rb W0.heap.size g R.length s2 R (Iu S0 row (js.map fun j=>j.2.pl) (k+1)) (N+20*i+(k+1)) g2 c2 (w9.setCell ⟨tb,4,none⟩ (.slice (some ⟨g9,0,none⟩) (n2+1) aD)):=fun g9 aD w9 aM ac bl=>by
       have dO:=fun q hq=>(av.lt q hq).2;have b4:Mod (fun q=>(Value.slice ao n2 ad).ownBlock=some q) W9 w9:=(Mod.af aW).trans (Mod.grown ac (fun q hq=>hq));have aR:=b4.ar m (Bo av m (by decide));have cD:Mod (fun q=>q=T.tb\/(Value.slice ao n2 ad).ownBlock=some q) W9 (w9.setCell ⟨tb,4,none⟩ (.slice (some ⟨g9,0,none⟩) (n2+1) aD)):=(b4.mono fun q _ e=>.inr e).set tb 4 _ (.inl ht.out);have d6:=Am aR 4 (.slice (some ⟨g9,0,none⟩) (n2+1) aD);have d9:w9.heap[W9.heap.size]?=some (.cells (⟨⟨(n2:Int)+1,⟨x,p,nodes,⟨da,db,dc,dd⟩,z,r,1,ae,f,row⟩,⟨gi,an,al,lw,am⟩,-1,[],[]⟩,ap,rn,nc,none,0,0,none,0,0⟩:aj).cells 46 (0,0)):=(ac.block _ (by simp;omega) (fun e=>by have:=dO _ e.symm;omega)).trans bv;have dN:Bb (w9.setCell ⟨tb,4,none⟩ (.slice (some ⟨g9,0,none⟩) (n2+1) aD)) W9.heap.size (⟨⟨(n2:Int)+1,⟨x,p,nodes,⟨da,db,dc,dd⟩,z,r,1,ae,f,row⟩,⟨gi,an,al,lw,am⟩,-1,[],[]⟩,ap,rn,nc,none,0,0,none,0,0⟩:aj):=(Mod.setCell (S:=fun q=>q=tb) w9 tb 4 _ rfl).ar d9 (by omega)
       have ef:=A7 aM (Mod.setCell (S:=fun q=>q=tb) w9 tb 4 (.slice (some ⟨g9,0,none⟩) (n2+1) aD) rfl) (fun q hq e=>by
        subst e
        exact Bo aM aR (by decide) hq)
       have dR:∀ q o,ap=some ⟨q,o,none⟩->¬ (q=T.tb\/(Value.slice ao n2 ad).ownBlock=some q):=fun q o e c=>by
        obtain ⟨cc,hc⟩:=a0 q o e;rcases c with c | c
        .rw [c,<- ht.out,m] at hc;injection hc with hc;injection hc with _ hc;exact absurd hc (by decide)
        .exact Bo av hc (by decide) c
       have ds:=Akc bC cD dR;refine ⟨⟨_,aC++[(W9.heap.size,(⟨⟨(n2:Int)+1,⟨x,p,nodes,⟨da,db,dc,dd⟩,z,r,1,ae,f,row⟩,⟨gi,an,al,lw,am⟩,-1,[],[]⟩,ap,rn,nc,none,0,0,none,0,0⟩:aj))],aF.add cD (by rw [<- ht.out];simpa using d6) (by rw [<- aG];exact ef) (fun q hq=>?_) Ln dN ⟨rfl,rfl,rfl,rfl⟩ ⟨rfl,rfl,rfl,rfl⟩ ds (fun q o e=>?_) cF.out cN.out cH.out (fun q o e=>by obtain ⟨_,h5,_⟩:=bI q o e;have h6:=a9.size;have h7:=hL.sub.mod.size;omega),?_,?_⟩,?_⟩
       .simp [Value.ownBlock] at hq;subst hq;rcases bl with e | e
        .exact .inl e
        .exact .inr (by omega)
       .obtain ⟨cc,hc⟩:=a0 q o e;exact ⟨cc,cD.ar hc (dR q o e)⟩
       .rw [bk,C9];rfl
       .rw [Cn];have:=bw.out;simp;omega
       .exact aF.sub.stay cD bs (by decide) (by decide)
      clear dJ;replace ⟨cx,bY,aJ,ca,aF,bC,a0,bs⟩:=H8 cx bY aJ ca aF bC a0 bs;replace ⟨bX,bc,aG,b6,cU,c5,m,av⟩:=H8 bX bc aG b6 cU c5 m av;replace ⟨bF,aW,bv,b7,bk,bb⟩:=H6 bF aW bv b7 bk bb
      try clear h
      try clear hA
      try clear bM
      try clear bO
      try clear o1
      try clear o2
      try clear o3
      try clear r1
      try clear r3
      try clear r5
      try clear bL
      try clear bP
      try clear aS
      try clear cE
      try clear a4
      try clear bo
      try clear cA
      try clear cC
      try clear b3
      try clear a5
      try clear aE
      try clear ck
      try clear hj
      try clear aX
      try clear aV
      try clear bQ
      try clear a8
      try clear bE
      try clear cf
      try clear cr
      try clear hX
      try clear cS
      try clear hx
      try clear cL
      try clear dl
      try clear aA
      try clear bK
      try clear b5
      try clear ai
      try clear b8
      try clear aU
      try clear bV
      try clear cN
      try clear cH
      try clear aL
      try clear aI
      try clear cy
      try clear bS
      try clear cO
      try clear bn
      try clear cB
      try clear aY
      try clear cI
      try clear aT
      try clear cw
      try clear ch
      try clear ct
      try clear hL
      try clear hY
      try clear bw
      try clear hy
      try clear aB
      try clear a9
      try clear b9
      try clear ci
      try clear bD
      try clear e1
      try clear e3
      try clear e5
      try clear e7
      try clear e8
      try clear cK
      try clear cP
      try clear cF
      try clear cG
      try clear bI
      try clear bT
      try clear bf
      try clear bg
      try clear b0
      try clear bH
      try clear aZ
      try clear bB
      try clear bA
      try clear cj
      try clear ce
      try clear bZ
      try clear bx
      try clear bU
      try clear cx
      try clear bY
      try clear aJ
      try clear ca
      try clear aF
      try clear bC
      try clear a0
      try clear bs
      try clear bX
      try clear bc
      try clear aG
      try clear b6
      try clear bF
      try clear bv
      try clear bk
      try clear hN
      try clear hm
      try clear hc
      try clear dK
      try clear d7
      try clear dM
      try clear d5
      try clear cQ
      try clear ea
      try clear eb
      try clear d8
      try clear bJ
      try clear eg
      try clear d4
      try clear e4
      go_region_law (first
       | (refine step_append_lies _ (by rfl) _ _ _ (by rfl) 0 125 iP _ 1 8 underlying110 c8.out dC.out cb.out cd.out rfl (I3 _) (.slice ao n2 ad) n2 (aC.map fun j=>.pointer (some ⟨j.1,0,none⟩)) (by rfl) (A7 av.out (Mod.af (S:=fun _=>False) (by first | exact aW.out | exact aW.drew)) (fun _ _ c=>c)) ⟨W9.heap.size+1,0,none⟩ 1 1 [.pointer (some ⟨W9.heap.size,0,none⟩)] (by rfl) (by rfl) (World.news_of_block (cs:=#[.pointer (some ⟨W9.heap.size,0,none⟩)]) (t:=125) (fr:=(0,0)) b7.out) (by intro u hu;simp at hu;subst hu;rfl) (by omega) cU.out c5.out (Aq _) (W9.heap.size+2) (by simp) ?_;intro g9 aD w9 aM ac bl dQ;have bW:_:=bb g9 aD w9 aM (by first | exact ac | exact ⟨ac.os,ac.tape,ac.output,ac.size,ac.block⟩) bl;have b4:=(Mod.af (S:=fun k=>(Value.slice ao n2 ad).ownBlock=some k) (by first | exact aW.out | exact aW.drew)).trans (Mod.grown ac (fun k hk=>hk));have aR:=b4.ar m.out (Bo av.out m.out (by decide));have d3:=Aa aR 4;have ew:=Af aR 4;simp at d3;replace bW:=Hh bW
          clear b4 aR aM ac bl dQ))
      all_goals
       go_wp2_with fail;go_meet
       case rel=>exact bW.out
     case rest=>
     obtain ⟨⟨em,ej,aF,c1,bd⟩,c7⟩:=hcut;clear v0 v1 v2 v3 v4 v5 v6 v7 v8 v9 dX dY dZ;have ex:=bJ.out;replace ⟨aF,c1,bd,c7⟩:=H4 aF c1 bd c7;go_wp2_with fail;go_roundw
     case rel=>exact ⟨k+1,em,ej,by go_num,by omega,aF,c1,c7,bd⟩
     case measure=>simp [intOf];omega
    .have cQ:¬ (k:Int)<bi:=(by omega);have dg:k=bi:=(by omega);have cZ:aC.map (fun j=>j.2.pl)=El (((d.map ay.pl).zip R).take (i+1)) T.pl.ab:=(by rw [b8.out,Avt,hY.out,hX.out,dg,aL.out]);have bd:aC.length<=N+20*(i+1):=(by have:=bw.out;have:=bJ.out;omega);have eA:=hm.out;replace ⟨cZ,bd,dg⟩:=H3 cZ bd dg;go_wp2_with fail;go_roundw
     case rel=>exact ⟨i+1,dU,aC,by go_num,by omega,hL,cZ,bd⟩
     case measure=>simp [intOf];omega
  .have dK:¬ (i:Int)<xm:=(by omega);have dD:((d.map ay.pl).zip R).length<=i:=(by rw [List.length_zip,At];have:=bL.out;omega);have a7:=hX.out;rw [C8 dD] at a7;obtain ⟨X,bG⟩:=Ex (El ((d.map ay.pl).zip R) T.pl.ab);rw [<- bG] at a7;have c3:D8 X:=(by rw [bG];exact bo.1.ue);obtain ⟨ao,ad,aK,_,cR,_⟩:=hL.sub.at_.mm;obtain ⟨n2,aG⟩:=Ex (js.length);replace aK:jv=.slice ao n2 ad:=(by rw [aG];exact aK);subst aK;have c0:X.length=n2:=(by rw [<- a7,At,aG]);have m:=hL.sub.at_.head;have z4:wr.cell? ⟨tb,4,none⟩=some (.slice ao n2 ad):=(by rw [ht.out];exact Aa m 4);have zr:=Aa hL.rep 2;have zf:=Af hL.rep 2;simp at zr;have cM:=Ab h.head;have a6:=hL.xh cM (Rk dT) (.int .i64 (n2:Int));have aN:=Am hL.rep 2 (.int .i64 (n2:Int))
   have aP:=(Mod.setCell (S:=fun k=>k=rb) wr rb 2 (.int .i64 (n2:Int)) rfl).ar hL.res (fun e=>by
    have:=hL.res;rw [e,hL.rep] at this;injection this with this;injection this with this _;have:=Ca (fun a=>a[1]?) this;simp at this
    omega)
   replace ⟨dD,a7,bG,c3,cR,aG,c0,m⟩:=H8 dD a7 bG c3 cR aG c0 m;replace ⟨cM,a6,aN,aP⟩:=H4 cM a6 aN aP;go_upto_region 15 with fail;obtain ⟨W1,cY⟩:=Ex (wr.setCell ⟨rb,2,none⟩ (.int .i64 (n2:Int)));rw [<- cY] at a6 aN aP;rw [<- cY];clear cY z4 zr zf
   have c6:CS prog 130 #[.pointer (some ⟨tb,0,none⟩)] W1 (Ki W1 { T with jv:=.slice ao n2 ad,js:=js } (Dj X)):=by
    have:=Ww (T:={ T with jv:=.slice ao n2 ad,js:=js }) a6.at_ (by
     show D8 (js.map fun j=>j.2.pl)
     rw [a7.out];exact c3.out)
    rw [show ({ T with jv:=.slice ao n2 ad,js:=js }:Tv).pl.ab=X from a7.out] at this;rw [ht.out];exact this
   replace c6:=Hh c6;go_upto_region 16 with (go_at_call 130;(with_reducible refine (c6.out).mono ?_);rintro e w5 ⟨rfl,aC,be,dw⟩;replace ⟨be,dw⟩:=H2 be dw)
   have cV:=a6.then be.out
   have aO:=be.mod.ar (by simpa using aN.out) (a6.at_.off aN.out (by decide) (by decide) (by decide) (by decide) (by decide));have aQ:=be.mod.ar aP.out (a6.at_.off aP.out (by decide) (by decide) (by decide) (by decide) (by decide));have q0:w5.cell? ⟨rb,0,none⟩=some (.int .i64 0):=(by have:=Aa aO 0;simpa using this);have q1:w5.cell? ⟨rb,1,none⟩=some (.int .i64 ((N:Int)+1)):=(by rw [hN.out];have:=Aa aO 1;simpa using this);have q2:w5.cell? ⟨rb,2,none⟩=some (.int .i64 (n2:Int)):=(by have:=Aa aO 2;simpa using this);obtain ⟨r0,dW,r2⟩:=C3 aQ;(try dsimp only at r0 dW r2);have fr:=Af aQ;have ba:=Ax2 (n:=w.heap.size+1) be.out (fun j hj=>⟨fun c k o e=>((hL.dz j hj).1 c k o e).2,fun c k o e=>((hL.dz j hj).2 c k o e).2⟩);have cW:=cV.qb cM.out aQ ba (.int .i64 0) (.int .i64 ((N:Int)+1)) (.int .i64 (n2:Int));replace ⟨cV,aO,aQ,ba,cW⟩:=H5 cV aO aQ ba cW;go_wp2_with fail;refine Ak (v:=Gv ⟨0,0,(N:Int)+1,(n2:Int)⟩) (by simp [results,results82,go_sem,r0,dW,r2]) rfl ⟨?_,_,cW.iy (hL.stays.trans (be.stays (w:=w)) Ln),?_⟩
   .rw [<- hN.out,<- bG.out,c0.out]
   .show (⟨T.ah,T.tick,T.cls,T.nodes,aC.map fun j=>j.2.pl⟩:du)=_;rw [dw.out,<- bG.out];rfl
def Aya {w:WD} {T:Tv} (x:cz) (h:An w T) (hx:x.ok w) (hj:T.js.length<=1000000) (hr:Fl T.vs T.pl x.pl=0)
  (aJ:((dp T.vs T.pl x.pl).1).cls.length<=1000) (R:Prop)
  (u:∀ W,BW w.heap.size w W->CS prog (Nm x.n.kind) #[.pointer (some ⟨T.tb,0,none⟩),x.val] W (fun e w'=>Ps W T (dp T.vs T.pl x.pl).1 (dp T.vs T.pl x.pl).2 e w'/\R)) :
  CS prog 15 #[.pointer (some ⟨T.tb,0,none⟩),x.val] w (fun e w'=>Ace w T (Eo T.vs T.pl x.pl) e w'/\R):=by
 have aV:Fw x.pl=true:=by
  by_cases q:Fw x.pl=true
  .exact q
  .unfold Fl at hr;rw [Ad (by simpa using q)] at hr;cases hr
 obtain ⟨hk,_,_,_,_,_⟩:=Q5 aV;have k:=r9.new w x;obtain ⟨W0,aL⟩:=Ex ((w.alloc (.cells x.cells 40 (0,0))).alloc (.cells #[.int .i64 0,.int .i64 0,.int .i64 0] 35 (0,0)));rw [<- aL] at k;have kw:=Akf x (h.low k.low) hj (hx.low k.low);rw [hr] at kw;have aK:=hx.vj 3;obtain ⟨P,hP⟩:=Ex ((dp T.vs T.pl x.pl).1);obtain ⟨⟨aD,dce,dcf,o⟩,aS⟩:∃ c,c=(dp T.vs T.pl x.pl).2:=⟨_,rfl⟩
 have aU:Eo T.vs T.pl x.pl=(if B4 x.n.kind=true then { P with cls:=Is P.cls x.n.ag ⟨x.n.seq,dce,dcf,o⟩ } else P,⟨aD,dce,dcf,o⟩,0):=by
  unfold Eo;rw [Ac (by rw [hr];simp)];have e:∀ D:du×Cl,D.1=P->D.2=⟨aD,dce,dcf,o⟩->(let d:=D;(if B4 x.pl.n.kind=true then { d.1 with cls:=Is d.1.cls x.pl.n.ag ⟨x.pl.n.seq,d.2.e,d.2.first,d.2.last⟩ } else d.1,d.2,(0:Int)))=(if B4 x.n.kind=true then { P with cls:=Is P.cls x.n.ag ⟨x.n.seq,dce,dcf,o⟩ } else P,⟨aD,dce,dcf,o⟩,0):=by rintro ⟨a,b⟩ rfl rfl;rfl
  exact e _ hP.symm aS.symm
 rw [<- hP,<- aS] at u;rw [<- hP] at aJ;rw [aU];obtain ⟨tb,ht⟩:=Ex (T.tb);rw [<- ht] at u kw;rw [<- ht];clear aU hP aS aV hr;obtain ⟨⟨f,ah,tick,ag,seq,br,attempt,node,bm⟩,so,m,sc,de⟩:=x;replace hk:f=1\/f=2\/f=3\/f=4\/f=5\/f=6\/f=7\/f=8\/f=9\/f=10\/f=11:=hk;replace aK:-9223372036854775808<=ag/\ag<=9223372036854775807:=aK;replace ⟨h,hx,k,kw,hj,u,ht,aK⟩:=H8 h hx k kw hj u ht aK;replace aJ:=Hh aJ;obtain ⟨F,hF⟩:=Ex (Nm f);replace u:∀ W,BW w.heap.size w W->CS prog (Nm f) _ _ _:=u.out;rw [<- hF] at u
 have aW:∀ (a:Array VL) (W:WD),Sem.run prog (callFunc F a) W=.ok (.enter F a) W:=by
  intro a W;rw [hF];rcases hk with rfl | rfl | rfl | rfl | rfl | rfl | rfl | rfl | rfl | rfl | rfl
  all_goals rfl
 replace ⟨u,hk,hF⟩:=H3 u hk hF;by_cases ao:B4 f=true
 .rw [Ad (show B4 (⟨f,ah,tick,ag,seq,br,attempt,node,bm⟩:cu).kind=true from ao)];replace ao:=Hh ao
  .have am:∀ W,BW w.heap.size w W->CS prog F #[.pointer (some ⟨tb,0,none⟩),Value.agg #[.int .i64 f,.int .i64 ah,.int .i64 tick,.int .i64 ag,.int .i64 seq,.int .i64 br,.int .i64 attempt,.int .i64 node,.int .i64 bm,.slice so m sc]] W (fun e w'=>Ps W T P ⟨aD,dce,dcf,o⟩ e w'/\R):=u.out;have al:=Akg tb f
   replace al:∀ W,CS prog 45 #[.pointer (some ⟨tb,0,none⟩),.int .i64 f] W fun e w'=>e=.returned (.func (.func F) #[.pointer (some ⟨tb,0,none⟩)] #[])/\w'=W:=fun W=>by rw [hF.out];exact al W hk.out
   obtain ⟨e0,e1,e2,e3,e4,e5,e6,e7,e8,e9⟩:=C10 k.box;(try dsimp only at e0 e1 e2 e3 e4 e5 e6 e7 e8 e9);replace ⟨am,al⟩:=H2 am al;clear u;go_enter func15,ntmps15;go_upto_region 1 with fail;rw [<- aL];clear aL;go_upto_region 4 with (go_at_call 31;(with_reducible refine (kw.out).mono ?_);rintro e w1 ⟨rfl,z⟩;replace z:=Hh z);clear e0 e1 e2 e3 e4 e5 e6 e7 e8 e9;have g:=Ae z.out k.box (Ab k.box);have j:=Ae z.out k.res (Ab k.res);have i:=k.low.trans (z.mono k.low.size);have t:=h.low i;obtain ⟨e0,e1,e2,e3,e4,e5,e6,e7,e8,e9⟩:=C10 g;(try dsimp only at e0 e1 e2 e3 e4 e5 e6 e7 e8 e9);have an:=am w1 i;replace ⟨g,j,i,t,an⟩:=H5 g j i t an;go_upto_region 6 with (first | (go_at_call 45;(with_reducible refine (al.out _).mono ?_);rintro e w1 ⟨rfl,rfl⟩) | ((with_reducible refine (an.out).mono ?_);rintro e w3 ⟨⟨rfl,T',r,ap⟩,hR⟩;replace ⟨r,ap,hR⟩:=H3 r ap hR));clear e0 e1 e2 e3 e4 e5 e6 e7 e8 e9;obtain ⟨W4,av⟩:=Ex (w3.alloc (.cells #[.int .i64 dce,.int .i64 dcf,.int .i64 o] 35 (0,0)));obtain ⟨rb,aH⟩:=Ex (w3.heap.size);have ac:BW w3.heap.size w3 W4:=(by rw [av];exact Bn);have aB:W4.heap[rb]?=some (.cells #[.int .i64 dce,.int .i64 dcf,.int .i64 o] 35 (0,0)):=(by rw [av,aH];exact Ah _ _);rw [<- av,<- aH];clear av aH;have ad:=Ae ac (r.mod.ar g.out (t.off g.out (by decide) (by decide) (by decide) (by decide) (by decide))) (Ab (r.mod.ar g.out (t.off g.out (by decide) (by decide) (by decide) (by decide) (by decide))));have s:=Ae ac (r.mod.ar j.out (t.off j.out (by decide) (by decide) (by decide) (by decide) (by decide))) (Ab (r.mod.ar j.out (t.off j.out (by decide) (by decide) (by decide) (by decide) (by decide))));have y:=(r.back i.out).low ac;have aF:=r.pj (b:=w.heap.size+1) h.out (by omega) (by have:=Ab j.out;exact this);obtain ⟨e0,e1,e2,e3,e4,e5,e6,e7,e8,e9⟩:=C10 ad;(try dsimp only at e0 e1 e2 e3 e4 e5 e6 e7 e8 e9);obtain ⟨q0,q1,q2⟩:=C3 aB;(try dsimp only at q0 q1 q2);replace ⟨ac,aB,ad,s,y,aF⟩:=H6 ac aB ad s y aF
   have aI:=fun W=>by
    have:=Pv f W;rw [ao.out] at this;exact this
   have m2:W4.cell? ⟨tb,2,none⟩=some (.map (some T'.mb)):=(by rw [ht.out,<- y.tb];exact Aa y.at_.head 2);have aR:=y.at_.cls;have aP:W4.drew.ownsMap (H:=Unit) prog 3 O8 T'.mb T'.cls.length (Qd T'.cls):=aR;have aM:keyOf prog 3 (.int .i64 ag)=some (F3 ag):=keyOf_int_mk D2 (xw aK.1 aK.2);replace ⟨aI,aR,aP,aM⟩:=H4 aI aR aP aM;go_upto_region 7 with (go_at_call 46;(with_reducible refine (aI.out _).mono ?_);rintro e W4 ⟨rfl,rfl⟩)
   have aO:T'.cls.length<maxLen:=by
    have:maxLen=9223372036854775807:=rfl;have e:T'.cls=P.cls:=(by rw [<- ap.out];rfl);rw [e];have:=aJ.out;omega
   replace aO:=Hh aO;go_still_tail 11,(by kernel_rfl);change wpList _ _ _ _ _ W4.drew;go_upto_region 8 with (at_mapUpdate;refine Ys _ rfl _ _ _ 108 rfl 3 123 (int_keyed D2) underlying108 _ T'.mb T'.cls.length _ rfl aP.out aO.out _ _ (F3 ag) rfl rfl aM.out _ [] (Aeq ⟨seq,dce,dcf,o⟩) ?_;intro w5 aG aA;replace ⟨aG,aA⟩:=H2 aG aA);have aN:Mod (fun q=>q=T'.mb) W4 w5:=(Mod.drew (Mod.refl _ W4)).trans (Mod.grown aA.out (fun q hq=>by cases hq;rfl));have aQ:L6 w5 T'.mb (Is T'.cls ag ⟨seq,dce,dcf,o⟩):=(by have:=aG.out;rw [Aoe] at this;have h2:=Aog (l:=(Is T'.cls ag ⟨seq,dce,dcf,o⟩).map fun p=>(F3 p.1,mu p.2)) this;rw [At] at h2;exact h2);have aT:=aN.ar aB.out (fun e=>y.at_.eo aB.out e.symm);have aC:=aN.ar s.out (fun e=>y.at_.eo s.out e.symm);have aE:=(y.np _ aN aQ).qb h.out aF.out aC (.int .i64 dce) (.int .i64 dcf) (.int .i64 o);clear e0 e1 e2 e3 e4 e5 e6 e7 e8 e9 q0 q1 q2 m2;obtain ⟨q0,q1,q2⟩:=C3 aT;(try dsimp only at q0 q1 q2);obtain ⟨r0,r1,r2⟩:=C3 aC;(try dsimp only at r0 r1 r2);have fr:=Af aC;replace ⟨aN,aQ,aT,aC,aE⟩:=H5 aN aQ aT aC aE;go_wp2_with fail;refine Ak (v:=.tuple #[Gv ⟨aD,dce,dcf,o⟩,.int .i64 0]) (by simp [results,results15,go_sem,r0,r1,r2]) rfl ⟨⟨rfl,_,aE.out,?_⟩,hR.out⟩;rw [<- ap.out];rfl
 .rw [Ac (show ¬ B4 (⟨f,ah,tick,ag,seq,br,attempt,node,bm⟩:cu).kind=true from ao)];replace ao:B4 f=false:=by simpa using ao
  replace ao:=Hh ao
  .have am:∀ W,BW w.heap.size w W->CS prog F #[.pointer (some ⟨tb,0,none⟩),Value.agg #[.int .i64 f,.int .i64 ah,.int .i64 tick,.int .i64 ag,.int .i64 seq,.int .i64 br,.int .i64 attempt,.int .i64 node,.int .i64 bm,.slice so m sc]] W (fun e w'=>Ps W T P ⟨aD,dce,dcf,o⟩ e w'/\R):=u.out;have al:=Akg tb f
   replace al:∀ W,CS prog 45 #[.pointer (some ⟨tb,0,none⟩),.int .i64 f] W fun e w'=>e=.returned (.func (.func F) #[.pointer (some ⟨tb,0,none⟩)] #[])/\w'=W:=fun W=>by rw [hF.out];exact al W hk.out
   obtain ⟨e0,e1,e2,e3,e4,e5,e6,e7,e8,e9⟩:=C10 k.box;(try dsimp only at e0 e1 e2 e3 e4 e5 e6 e7 e8 e9);replace ⟨am,al⟩:=H2 am al;clear u;go_enter func15,ntmps15;go_upto_region 1 with fail;rw [<- aL];clear aL;go_upto_region 4 with (go_at_call 31;(with_reducible refine (kw.out).mono ?_);rintro e w1 ⟨rfl,z⟩;replace z:=Hh z);clear e0 e1 e2 e3 e4 e5 e6 e7 e8 e9;have g:=Ae z.out k.box (Ab k.box);have j:=Ae z.out k.res (Ab k.res);have i:=k.low.trans (z.mono k.low.size);have t:=h.low i;obtain ⟨e0,e1,e2,e3,e4,e5,e6,e7,e8,e9⟩:=C10 g;(try dsimp only at e0 e1 e2 e3 e4 e5 e6 e7 e8 e9);have an:=am w1 i;replace ⟨g,j,i,t,an⟩:=H5 g j i t an;go_upto_region 6 with (first | (go_at_call 45;(with_reducible refine (al.out _).mono ?_);rintro e w1 ⟨rfl,rfl⟩) | ((with_reducible refine (an.out).mono ?_);rintro e w3 ⟨⟨rfl,T',r,ap⟩,hR⟩;replace ⟨r,ap,hR⟩:=H3 r ap hR));clear e0 e1 e2 e3 e4 e5 e6 e7 e8 e9;obtain ⟨W4,av⟩:=Ex (w3.alloc (.cells #[.int .i64 dce,.int .i64 dcf,.int .i64 o] 35 (0,0)));obtain ⟨rb,aH⟩:=Ex (w3.heap.size);have ac:BW w3.heap.size w3 W4:=(by rw [av];exact Bn);have aB:W4.heap[rb]?=some (.cells #[.int .i64 dce,.int .i64 dcf,.int .i64 o] 35 (0,0)):=(by rw [av,aH];exact Ah _ _);rw [<- av,<- aH];clear av aH;have ad:=Ae ac (r.mod.ar g.out (t.off g.out (by decide) (by decide) (by decide) (by decide) (by decide))) (Ab (r.mod.ar g.out (t.off g.out (by decide) (by decide) (by decide) (by decide) (by decide))));have s:=Ae ac (r.mod.ar j.out (t.off j.out (by decide) (by decide) (by decide) (by decide) (by decide))) (Ab (r.mod.ar j.out (t.off j.out (by decide) (by decide) (by decide) (by decide) (by decide))));have y:=(r.back i.out).low ac;have aF:=r.pj (b:=w.heap.size+1) h.out (by omega) (by have:=Ab j.out;exact this);obtain ⟨e0,e1,e2,e3,e4,e5,e6,e7,e8,e9⟩:=C10 ad;(try dsimp only at e0 e1 e2 e3 e4 e5 e6 e7 e8 e9);obtain ⟨q0,q1,q2⟩:=C3 aB;(try dsimp only at q0 q1 q2);replace ⟨ac,aB,ad,s,y,aF⟩:=H6 ac aB ad s y aF
   have aI:=fun W=>by
    have:=Pv f W;rw [ao.out] at this;exact this
   obtain ⟨r0,r1,r2⟩:=C3 s.out;(try dsimp only at r0 r1 r2);have fr:=Af s.out;have aE:=y.qb h.out aF.out s.out (.int .i64 dce) (.int .i64 dcf) (.int .i64 o);replace ⟨aI,aE⟩:=H2 aI aE;go_wp2_with (go_at_call 46;(with_reducible refine (aI.out _).mono ?_);rintro e W4 ⟨rfl,rfl⟩);exact Ak (v:=.tuple #[Gv ⟨aD,dce,dcf,o⟩,.int .i64 0]) (by simp [results,results15,go_sem,r0,r1,r2]) rfl ⟨⟨rfl,T',aE.out,by first | exact ap.out | (rw [ap.out];rfl)⟩,hR.out⟩
structure Fo (vs:List au) (t:du):Prop where
 all:Dd vs t.ab
 len:t.ab.length<=100
 ep:0<=t.ah/\t.ah<=1099511627776
 tick:-1<=t.tick/\t.tick<1099511627776
 uw:t.nodes.length=vs.length
 since:∀ n,n∈t.nodes->-1<=n.since/\n.since<1099511627776
 az:(t.cls.map Prod.fst).Pairwise (·<·)
 cls:∀ p,p∈t.cls->1<=p.1/\p.1<=16/\1<=p.2.seq/\p.2.seq<=1099511627776/\p.2.e=0/\0<=p.2.first/\p.2.first<=100/\0<=p.2.last/\p.2.last<=100
variable {vs:List au} {t:du} {e:ee}
def Acf {x y:Int×Cl}:∀ {l:List (Int×Cl)},y∈N7 x l->y=x\/y∈l
 | [],h=>.inl (Jq.1 h)
 | z :: r,h=>by
  unfold N7 at h;split at h
  .rcases Gf.1 h with h | h
   .exact .inl h
   .exact .inr h
  .rcases Gf.1 h with h | h
   .exact .inr (h▸Dl)
   .rcases Acf h with h | h
    .exact .inl h
    .exact .inr (Ce _ h)
def Akh {x:Int×Cl}:∀ {l:List (Int×Cl)},(l.map Prod.fst).Pairwise (·<·)->(∀ y,y∈l->y.1≠x.1)->((N7 x l).map Prod.fst).Pairwise (·<·)
 | [],_,_=>by simp [N7]
 | y :: r,h,hn=>by
  have d:=Ou.1 h;have e:=hn y Dl;unfold N7;split
  .rename_i c;refine Ou.2 ⟨fun z b=>?_,h⟩;rcases Gf.1 b with rfl | b
   .exact c
   .exact Vx c (d.1 z b)
  .rename_i c;refine Ou.2 ⟨fun z b=>?_,Akh d.2 fun u a=>hn u (Ce _ a)⟩;obtain ⟨u,a,rfl⟩:=Ba.1 b;rcases Acf a with rfl | a
   .show y.1<u.1;omega
   .exact d.1 _ (Ku a)
def Ayb {l:List Int} {n:Nat} (h:l.Pairwise (·<·)) (c:∀ x,x∈l->1<=x/\x<=(n:Int)):l.length<=n:=by
 have h1:(l.map Int.toNat).Pairwise (·<·):=by refine List.pairwise_map.2 (h.imp_of_mem fun {a b} ha hb hab=>?_);have:=c a ha;omega
 have:=Pl.Atf (ys:=(List.range n).map (·+1)) h1 fun j d=>by
  obtain ⟨z,e,rfl⟩:=Ba.1 d;have:=c z e;exact Ba.2 ⟨z.toNat-1,Vm.2 (by omega),by omega⟩
 simpa using this
def Fo.ml (h:Fo vs t):t.cls.length<=16:=by
 have:=Ayb (n:=16) h.az fun x b=>by
  obtain ⟨p,a,rfl⟩:=Ba.1 b;have:=h.cls p a;omega
 simpa using this
def Ayc (h:Fo vs t) (d:Int) (c:Cl) (b:1<=d/\d<=16) (f:1<=c.seq/\c.seq<=1099511627776/\c.e=0/\0<=c.first/\c.first<=100/\0<=c.last/\c.last<=100):Fo vs { t with cls:=Is t.cls d c }:=by
 refine ⟨h.all,h.len,h.ep,h.tick,h.uw,h.since,?_,fun p a=>?_⟩
 .show ((Is t.cls d c).map Prod.fst).Pairwise (·<·);unfold Is;refine Akh (h.az.sublist ((Yy).map Prod.fst)) fun y g=>?_;have:=(O0.1 g).2;simpa using this
 .have a:p∈Is t.cls d c:=a;unfold Is at a;rcases Acf a with rfl | a
  .exact ⟨b.1,b.2,f⟩
  .exact h.cls p (O0.1 a).1
structure Ayd (e:ee):Prop where
 ep:e.n.kind=1->1<=e.n.ah/\e.n.ah<=1099511627776
 cl:B4 e.n.kind=true->(1<=e.n.ag/\e.n.ag<=16)/\1<=e.n.seq/\e.n.seq<=1099511627776
 br:(e.n.kind=3\/e.n.kind=4\/e.n.kind=5\/e.n.kind=7)->e.n.br<=100
 specs:e.n.kind=2->e.specs≠[]
def Aki (h:Fw e=true):Ayd e:=by
 have t:=(Q5 h).kind;obtain ⟨⟨i,o,tick,n,seq,q,attempt,node,p⟩,r⟩:=e
 have g:∀ {k:Int} {fs:List gy},i=k->Ds k=some fs->∃ j,Fv ⟨i,o,tick,n,seq,q,attempt,node,p⟩ fs=some j/\Tu ⟨⟨i,o,tick,n,seq,q,attempt,node,p⟩,r⟩=true:=fun {k fs} e hf=>by
  obtain ⟨j,h1,_,_,s⟩:=Akd h (fs:=fs) (by rw [<- hf,<- e]);exact ⟨j,h1,s⟩
 have m:∀ k,(k=1\/k=2\/k=3\/k=4\/k=5\/k=6\/k=7\/k=8\/k=9\/k=10\/k=11)->i=k->True:=fun _ _ _=>trivial;rcases t with rfl | rfl | rfl | rfl | rfl | rfl | rfl | rfl | rfl | rfl | rfl
 .obtain ⟨j,f,_⟩:=g rfl (k:=1) (fs:=[Tp]) rfl;have a:=(A8 f).1;simp [iq,Tp,cu.get] at a;exact ⟨fun _=>a,fun c=>absurd c (by simp [B4,D5]),by simp,by simp⟩
 .obtain ⟨j,f,l⟩:=g rfl (k:=2) (fs:=[C2,C4]) rfl;have a:=(A8 f).1;have b:=(A8 (A8 f).2).1;simp [iq,C2,C4,cu.get,cu.set] at a b;refine ⟨by simp,fun _=>⟨a,b⟩,by simp,fun _ c=>?_⟩;have c:r=[]:=c;subst c;simp [Tu] at l
 .obtain ⟨j,f,l⟩:=g rfl (k:=3) (fs:=[C2,C4,E3]) rfl;have a:=(A8 f).1;have b:=(A8 (A8 f).2).1;have d:=(A8 (A8 (A8 f).2).2).1;simp [iq,C2,C4,E3,cu.get,cu.set] at a b d;exact ⟨by simp,fun _=>⟨a,b⟩,fun _=>d.2,by simp⟩
 .obtain ⟨j,f,l⟩:=g rfl (k:=4) (fs:=[C2,C4,E3]) rfl;have a:=(A8 f).1;have b:=(A8 (A8 f).2).1;have d:=(A8 (A8 (A8 f).2).2).1;simp [iq,C2,C4,E3,cu.get,cu.set] at a b d;exact ⟨by simp,fun _=>⟨a,b⟩,fun _=>d.2,by simp⟩
 .obtain ⟨j,f,l⟩:=g rfl (k:=5) (fs:=[C2,C4,E3]) rfl;have a:=(A8 f).1;have b:=(A8 (A8 f).2).1;have d:=(A8 (A8 (A8 f).2).2).1;simp [iq,C2,C4,E3,cu.get,cu.set] at a b d;exact ⟨by simp,fun _=>⟨a,b⟩,fun _=>d.2,by simp⟩
 .exact ⟨by simp,fun c=>absurd c (by simp [B4,D5]),by simp,by simp⟩
 .obtain ⟨j,f,l⟩:=g rfl (k:=7) (fs:=[E3,Tq,Fe,Tr]) rfl;have a:=(A8 f).1;simp [iq,E3,cu.get] at a;exact ⟨by simp,fun c=>absurd c (by show ¬ B4 7=true;decide),fun _=>a.2,by simp⟩
 .exact ⟨by simp,fun c=>absurd c (by simp [B4,D5]),by simp,by simp⟩
 .exact ⟨by simp,fun c=>absurd c (by simp [B4,D5]),by simp,by simp⟩
 .obtain ⟨j,f,l⟩:=g rfl (k:=10) (fs:=[C2,C4,Fe]) rfl;have a:=(A8 f).1;have b:=(A8 (A8 f).2).1;simp [iq,C2,C4,cu.get,cu.set] at a b;exact ⟨by simp,fun _=>⟨a,b⟩,by simp,by simp⟩
 .obtain ⟨j,f,l⟩:=g rfl (k:=11) (fs:=[C2,C4,Fe]) rfl;have a:=(A8 f).1;have b:=(A8 (A8 f).2).1;simp [iq,C2,C4,cu.get,cu.set] at a b;exact ⟨by simp,fun _=>⟨a,b⟩,by simp,by simp⟩
def Uz (js:List Jb):(Gk js).length=js.length:=by
 unfold Gk;rw [Tx,At]
def Akj (tick:Int) (js:List Jb):(Cs tick js).length=js.length:=by
 unfold Cs;rw [Uz,At]
def Akk (vs:List au) (tick:Int) (a:List Bool) (js:List Jb):(Mn vs tick a js).length=js.length:=by
 unfold Mn;rw [Acb,At]
def Akl {l:List dn} (h0:(B7 vs t.ab.length l).2=0):((El (l.zip (B7 vs t.ab.length l).1) t.ab).length:Int)=(t.ab.length:Int)+G8 l/\(t.ab.length:Int)+G8 l<=100/\∀ s,s∈l->1<=s.array/\s.array<=20:=by
 obtain ⟨h1,e,c⟩:=Ab1 h0;rw [c] at h0;obtain ⟨h,j,i,d,k⟩:=Abw h0;rw [At] at h i;have a:=Ab0 (l.zip (B7 vs t.ab.length l).1) (fun p f=>(d p.1.array (Ba.2 ⟨p.1,(Vj f).1,rfl⟩)).1) t.ab
 have b:(l.zip (B7 vs t.ab.length l).1).map (fun p=>p.1.array)=l.map fun s=>s.array:=by
  rw [c];have:=Ab2 (l:=l) (m:=(Ga ((t.ab.length:Int)+1) (l.map fun s=>s.array) (l.map fun s=>s.after)).1) (by omega)
  conv=>rhs;rw [<- this]
  rw [Dn];rfl
 rw [b,<- Ux] at a;exact ⟨a,e,fun s g=>d s.array (Ku g)⟩
def Aye {l:List dn} (h:∀ s,s∈l->1<=s.array) (b:l≠[]):1<=G8 l:=by
 cases l with
 | nil=>exact absurd rfl b
 | cons s l=>
  have a:=(Ut (l.map fun s=>s.array) (fun n c=>by
   obtain ⟨u,d,rfl⟩:=Ba.1 c
   exact h u (Ce _ d)) (l.map fun s=>s.array).length).2
  rw [Oy] at a;have e:=h s Dl;rw [Ux,Ka];unfold Ep at a ⊢;rw [Rh,Xz];omega
def Acg (h1:1<=e.n.br) (h0:Jy t e.n=0):∃ (k:Nat) (j:Jb),t.ab[k]?=some j/\e.n.br=(k:Int)+1/\Fx t.ab e.n.br=j/\(e.n.kind≠7->(A2 j.lf (F7 e.n.kind)).2=0)/\(e.n.kind=7->∃ i,Gl j e.n.attempt e.n.node=some i):=by
 unfold Jy at h0;split at h0
 .cases h0
 rename_i c;obtain ⟨k,f⟩:∃ k:Nat,e.n.br=(k:Int)+1:=⟨(e.n.br-1).toNat,by omega⟩;have b:t.ab[k]?=some (t.ab[k]'(by omega)):=A4 _;have a:Fx t.ab e.n.br=t.ab[k]'(by omega):=by unfold Fx;rw [f,show ((k:Int)+1-1).toNat=k by omega,b];rfl
 rw [a] at h0;refine ⟨k,_,b,f,a,fun q=>?_,fun q=>?_⟩
 .rw [Ad q] at h0;exact h0
 .rw [Ac (by simpa using q)] at h0;split at h0
  .cases h0
  .rename_i d
   cases hp:Gl (t.ab[k]'(by omega)) e.n.attempt e.n.node with
   | none=>exact absurd hp d
   | some i=>exact ⟨i,rfl⟩
def Fo.ab (h:Fo vs t) {js:List Jb} (h1:Dd vs js) (a:js.length<=100):Fo vs { t with ab:=js }:=⟨h1,a,h.ep,h.tick,h.uw,h.since,h.az,h.cls⟩
def Fo.mz (h:Fo vs t) (i:Nat) (f:Fa->Fa) (b:∀ n,-1<=n.since/\n.since<1099511627776->-1<=(f n).since/\(f n).since<1099511627776):Fo vs { t with nodes:=t.nodes.modify i f }:=by
 refine ⟨h.all,h.len,h.ep,h.tick,(Jp _ _ _).trans h.uw,fun n c=>?_,h.az,h.cls⟩;obtain ⟨q,a⟩:=Dg c;have a:(t.nodes.modify i f)[q]?=some n:=a;rw [Ev] at a
 cases hu:t.nodes[q]? with
 | none=>
  rw [hu] at a;have a:(none:Option Fa)=some n:=a;cases a
 | some u=>
  rw [hu] at a;have a:some (if i=q then f u else u)=some n:=a;have h1:=h.since u (Ai hu);split at a
  .injection a with a;rw [<- a];exact b u h1
  .injection a with a;rw [<- a];exact h1
structure Akm (vs:List au) (t:du) (e:ee):Prop where
 may:Fw e=true
 cl:B4 e.n.kind=true->(Kf t.cls e.n.ag).seq<e.n.seq
 ep:e.n.kind=1->t.ah<e.n.ah
 tick:e.n.kind=6->t.tick<e.n.tick
 sub:e.n.kind=2->(B7 vs t.ab.length e.specs).2=0
 node:8<=e.n.kind->e.n.kind<=11->Le t e.n=0
 br:(e.n.kind=3\/e.n.kind=4\/e.n.kind=5\/e.n.kind=7)->Jy t e.n=0
def Yf (h:Fl vs t e=0):Akm vs t e:=by
 unfold Fl at h;split at h
 .cases h
 rename_i a;split at h
 .cases h
 rename_i b;refine ⟨by simpa using a,fun q=>?_,fun q=>?_,fun q=>?_,fun q=>?_,fun q c=>?_,fun q=>?_⟩
 .by_cases d:(Kf t.cls e.n.ag).seq<e.n.seq
  .exact d
  .exact absurd ⟨q,by omega⟩ b
 .rw [Ad q] at h;split at h
  .cases h
  .omega
 .rw [Ac (by omega),Ad q] at h;split at h
  .cases h
  .omega
 .rw [Ac (by omega),Ac (by omega),Ad q] at h;exact h
 .rw [Ac (by omega),Ac (by omega),Ac (by omega),Ad ⟨q,c⟩] at h;exact h
 .rw [Ac (by omega),Ac (by omega),Ac (by omega),Ac (by omega)] at h;exact h
def Ayf (h:Fo vs t) (o:Akm vs t e):Fo vs (dp vs t e).1/\(dp vs t e).2.e=0/\0<=(dp vs t e).2.first/\(dp vs t e).2.first<=100/\0<=(dp vs t e).2.last/\(dp vs t e).2.last<=100:=by
 have f:=Q5 o.may;have m:=Aki o.may
 have z:∀ {T:du},Fo vs T->Fo vs (T,(⟨0,0,0,0⟩:Cl)).1/\(T,(⟨0,0,0,0⟩:Cl)).2.e=0/\0<=(T,(⟨0,0,0,0⟩:Cl)).2.first/\(T,(⟨0,0,0,0⟩:Cl)).2.first<=100/\0<=(T,(⟨0,0,0,0⟩:Cl)).2.last/\(T,(⟨0,0,0,0⟩:Cl)).2.last<=100:=fun g=>⟨g,rfl,Cz 0,by show (0:Int)<=100;decide,Cz 0,by show (0:Int)<=100;decide⟩
 unfold dp;split
 .rename_i q;have:=m.ep q;exact z ⟨h.all,h.len,⟨by show 0<=e.n.ah;omega,this.2⟩,h.tick,h.uw,h.since,h.az,h.cls⟩
 split
 .rename_i q;have h0:=o.sub q;obtain ⟨a,b⟩:=Ai4 h.all h0;obtain ⟨c1,c2,x⟩:=Akl h0;have c4:=Aye (fun s hs=>(x s hs).1) (m.specs q);refine ⟨h.ab a b,rfl,?_,?_,?_,?_⟩
  .show 0<=(t.ab.length:Int)+1;omega
  .show (t.ab.length:Int)+1<=100;omega
  .show 0<=((El (e.specs.zip (B7 vs t.ab.length e.specs).1) t.ab).length:Int);omega
  .show ((El (e.specs.zip (B7 vs t.ab.length e.specs).1) t.ab).length:Int)<=100;omega
 split
 .rename_i q;have r:=f.tick (.inl q);refine z ⟨Aw3 (Abz h.all _) r.1 _,?_,h.ep,⟨by show -1<=e.n.tick;omega,r.2⟩,h.uw,h.since,h.az,h.cls⟩;show (Mn vs e.n.tick _ (Cs e.n.tick t.ab)).length<=100;rw [Akk,Akj];exact h.len
 split
 .rename_i q;have y:=f.bm q;refine z (h.ab (Aby (h.all.b.mod fun j i=>Av0 (h.all.b _ _ i) (by omega) y.2)) ?_);rw [Uz];unfold Dt;rw [Jp];exact h.len
 split
 .rename_i q;unfold N9;split
  .rename_i u;have h1:=h.mz e.n.node.toNat (fun n=>⟨false,n.bq,n.since⟩) (fun n l=>l);refine z (h1.ab (Av1 h.all _) ?_);rw [Uz,At];exact h.len
  split
  .rename_i u;have r:=f.tick (.inr (.inr u));exact z (h.mz _ (fun n=>⟨true,n.bq,e.n.tick⟩) (fun n l=>by show -1<=e.n.tick/\e.n.tick<_;omega))
  .exact z (h.mz _ (fun n=>⟨n.up,decide (e.n.kind=10),n.since⟩) (fun n l=>l))
 .rename_i q1 u q3 q4 q5;have hk:e.n.kind=3\/e.n.kind=4\/e.n.kind=5:=by have:=f.kind;omega
  have j1:=f.br (by omega);have v:=m.br (by omega);obtain ⟨k,j,i,ac,_,p,_⟩:=Acg j1 (o.br (by omega));have d:(e.n.br-1).toNat=k:=by omega
  refine ⟨h.ab (Abx (h.all.mod fun j' c=>?_)) ?_,rfl,?_,?_,?_,?_⟩
  .rw [d,i] at c;injection c with c;subst c;rw [d];refine Avx (h.all k j i) (p (by omega)) ?_;unfold F7;split
   .exact .inl rfl
   .split
    .exact .inr (.inl rfl)
    .exact .inr (.inr rfl)
  .rw [Tx];unfold Dt;rw [Jp];exact h.len
  .show 0<=e.n.br;omega
  .exact v
  .show 0<=e.n.br;omega
  .exact v
def Ayg (h:Fo vs t):Fo vs (Eo vs t e).1:=by
 unfold Eo;split
 .exact h
 .rename_i c;have d:=Yf (vs:=vs) (t:=t) (e:=e) (by simpa using c);obtain ⟨a,b⟩:=Ayf h d;have m:=Aki d.may;show Fo vs (if B4 e.n.kind=true then { (dp vs t e).1 with cls:=Is (dp vs t e).1.cls e.n.ag ⟨e.n.seq,(dp vs t e).2.e,(dp vs t e).2.first,(dp vs t e).2.last⟩ } else (dp vs t e).1);split
  .rename_i q;have:=m.cl q;exact Ayc a _ _ this.1 ⟨this.2.1,this.2.2,b⟩
  .exact a
def Ayh (vs:List au) (t:du) (e:ee):(dp vs t e).1.cls=t.cls:=by
 unfold dp;split
 .rfl
 split
 .rfl
 split
 .rfl
 split
 .rfl
 split
 .unfold N9;split
  .rfl
  split
  .rfl
  .rfl
 .rfl
end
section
open Go.RowKit Go.Maps Go.Lib
structure Dk (w0:WD) (T:Tv) (w:WD):Prop where
 tab:An w T
 aw:∀ b,T.aw b->w0.heap.size<=b
 low:BW w0.heap.size w0 w
 ie:Fo T.vs T.pl
variable {w0 w w':WD} {T T':Tv}
def Dk.ji (h:Dk w0 T w) (a:Ed w T T' w') (d:Fo T.vs T'.pl):Dk w0 T' w':=
 ⟨a.at_,fun b c=>by
  rcases a.aw b c with c | c
  .exact h.aw b c
  .exact A5 h.low.size c,h.low.trans (a.mod.below h.low.size h.aw),by rw [a.vs];exact d⟩
def Dk.drop (h:Dk w0 T w) (a:BW w.heap.size w w'):Dk w0 T w':=⟨h.tab.low a,h.aw,h.low.trans (a.mono h.low.size),h.ie⟩
def Sy (vs:List au) (t:du) (p:ee):Prop:=Fl vs t p=0->p.n.kind=6->Q4 vs p.n.tick (r6 { t with tick:=p.n.tick }) (Cs p.n.tick t.ab)
def Akn (w0 w:WD) (T:Tv) (p:ee) (e:Ending) (w':WD):Prop:=
 ∃ T',e=.returned (.tuple #[Gv (Eo T.vs T.pl p).2.1,.int .i64 (Eo T.vs T.pl p).2.2])/\Dk w0 T' w'/\T'.pl=(Eo T.vs T.pl p).1/\Ed w T T' w'/\Sy T.vs T.pl p
def Ayi {k:Int}:(k=1->Nm k=81)/\(k=2->Nm k=82)/\(k=6->Nm k=83)/\(k=7->Nm k=84)/\((8<=k/\k<=11)->Nm k=85)/\((k=3\/k=4\/k=5)->Nm k=86):=by
 refine ⟨?_,?_,?_,?_,?_,?_⟩
 .rintro rfl;rfl
 .rintro rfl;rfl
 .rintro rfl;rfl
 .rintro rfl;rfl
 .rintro ⟨a,b⟩
  have:k=8\/k=9\/k=10\/k=11:=by omega
  rcases this with rfl | rfl | rfl | rfl<;>rfl
 .rintro (rfl | rfl | rfl)<;>rfl
def Dk.de {x:cz} (h:Dk w0 T w) (c:x.ok w0):∀ a,Mod T.aw w a->Jw a x.so x.m x.de:=fun _ b=>c.de.low (h.low.trans (b.below h.low.size h.aw))
def Ako (x:cz) (h:Dk w0 T w) (p:x.ok w) (an:∀ W',Mod T.aw w W'->Jw W' x.so x.m x.de) (ac:x.n.kind=6->T.js.length<=20) :
  CS prog 15 #[.pointer (some ⟨T.tb,0,none⟩),x.val] w (Akn w0 w T x.pl):=by
 have al:T.pl.ab.length=T.js.length:=by simp [Tv.pl]
 have ad:T.js.length<=100:=by have:=h.ie.len;omega
 have end_:∀ e w',Ace w T (Eo T.vs T.pl x.pl) e w'->Sy T.vs T.pl x.pl->Akn w0 w T x.pl e w':=fun e w' a hR=>by
  obtain ⟨he,T',ht,z⟩:=a;exact ⟨T',he,h.ji ht (by rw [z];exact Ayg h.ie),z,ht,hR⟩
 by_cases hr:Fl T.vs T.pl x.pl=0
 .have hw:=Yf hr;have f:=Q5 hw.may;obtain ⟨d1,d2,d6,d7,d8,d3⟩:=Ayi (k:=x.n.kind);refine (Aya x h.tab p (by omega) hr (by rw [Ayh];have:=h.ie.ml;omega) (Sy T.vs T.pl x.pl) (fun W hW=>?_)).mono fun e w' a=>end_ e w' a.1 a.2;have u:=h.tab.low hW;have o:=h.ie.all.b.jz;have d:x.n.kind≠6->Sy T.vs T.pl x.pl:=fun q _ c=>absurd c q;by_cases r:x.n.kind=1
  .rw [d1 r,show dp T.vs T.pl x.pl=({ T.pl with ah:=x.n.ah },⟨0,0,0,0⟩) from Ad r];exact (Avs x u).mono fun e w' a=>⟨a,d (by omega)⟩
  by_cases s:x.n.kind=2
  .have l:dp T.vs T.pl x.pl=Mq T.vs T.pl (x.de.map ay.pl):=(by unfold dp;rw [Ac (show ¬ x.pl.n.kind=1 from r),Ad (show x.pl.n.kind=2 from s)];rfl);rw [d2 s,l];have h0:=hw.sub s;rw [al] at h0;refine (Ax5 x.n x.so x.m x.c x.de u h.ie.all (by omega) (fun W' hm=>an W' ((Mod.af hW).trans hm)) ?_ h0).mono fun e w' a=>⟨a,d (by omega)⟩
   .have h1:=p.de.len;have h2:=f.len;have h3:x.pl.specs.length=x.de.length:=At _;omega
  by_cases g:x.n.kind=6
  .have l:dp T.vs T.pl x.pl=(So T.vs T.pl x.n.tick,⟨0,0,0,0⟩):=(by unfold dp;rw [Ac (show ¬ x.pl.n.kind=1 from r),Ac (show ¬ x.pl.n.kind=2 from s),Ad (show x.pl.n.kind=6 from g)];rfl);rw [d6 g,l];have ht:=f.tick (.inl g);have ht:0<=x.n.tick/\x.n.tick<1099511627776:=ht;exact (Axx x.n.kind x.n.ah x.n.tick x.n.ag x.n.seq x.n.br x.n.attempt x.n.node x.n.bm x.so x.m x.c x.de u h.ie.all (ac g)).mono fun e w' a=>⟨a.1,fun _ _=>a.2⟩
  by_cases t:x.n.kind=7
  .have l:dp T.vs T.pl x.pl=(Afs T.pl x.n,⟨0,0,0,0⟩):=(by unfold dp;rw [Ac (show ¬ x.pl.n.kind=1 from r),Ac (show ¬ x.pl.n.kind=2 from s),Ac (show ¬ x.pl.n.kind=6 from g),Ad (show x.pl.n.kind=7 from t)];rfl);rw [d7 t,l];obtain ⟨k,j,v,hk,_,_,a⟩:=Acg (f.br (.inr (.inr (.inr t)))) (hw.br (.inr (.inr (.inr t))));obtain ⟨i,hi⟩:=a t;have v:(T.js.map fun j=>j.2.pl)[k]?=some j:=v;rw [Bh] at v;obtain ⟨jx,am,rfl⟩:=Nq.1 v;exact (Avp x u o k jx am hk i hi).mono fun e w' a=>⟨Aix a,d g⟩
  by_cases y:8<=x.n.kind/\x.n.kind<=11
  .have l:dp T.vs T.pl x.pl=(N9 T.pl x.n,⟨0,0,0,0⟩):=(by unfold dp;rw [Ac (show ¬ x.pl.n.kind=1 from r),Ac (show ¬ x.pl.n.kind=2 from s),Ac (show ¬ x.pl.n.kind=6 from g),Ac (show ¬ x.pl.n.kind=7 from t),Ad (show 8<=x.pl.n.kind/\x.pl.n.kind<=11 from y)];rfl);rw [d8 y,l];have h0:=hw.node y.1 y.2;have ap:0<=x.n.node:=f.node (by show x.n.kind=7\/x.n.kind=8\/x.n.kind=9\/x.n.kind=10\/x.n.kind=11;omega)
   have av:x.n.node<(T.nodes.length:Int):=by
    unfold Le at h0;split at h0
    .cases h0
    .rename_i c;have c:¬ (T.nodes.length:Int)<=x.n.node:=c;omega
   exact (Av5 x u o x.n.node.toNat (by omega) (by omega) y).mono fun e w' a=>⟨a,d g⟩
  .have q3:x.n.kind=3\/x.n.kind=4\/x.n.kind=5:=(by have:=f.kind;have this:x.n.kind=1\/x.n.kind=2\/x.n.kind=3\/x.n.kind=4\/x.n.kind=5\/x.n.kind=6\/x.n.kind=7\/x.n.kind=8\/x.n.kind=9\/x.n.kind=10\/x.n.kind=11:=this;omega);have l:dp T.vs T.pl x.pl=Afr T.pl x.n:=(by unfold dp;rw [Ac (show ¬ x.pl.n.kind=1 from r),Ac (show ¬ x.pl.n.kind=2 from s),Ac (show ¬ x.pl.n.kind=6 from g),Ac (show ¬ x.pl.n.kind=7 from t),Ac (show ¬ (8<=x.pl.n.kind/\x.pl.n.kind<=11) from y)];rfl);rw [d3 q3,l];obtain ⟨k,j,v,hk,_,_,_⟩:=Acg (f.br (by show x.n.kind=3\/x.n.kind=4\/x.n.kind=5\/x.n.kind=7;omega)) (hw.br (by show x.n.kind=3\/x.n.kind=4\/x.n.kind=5\/x.n.kind=7;omega));have ao:=(Ao.1 v).1;exact (Avl x u o k (by omega) hk).mono fun e w' a=>⟨Aix a,d g⟩
 .exact (Ax9 x h.tab p (by omega) hr).mono fun e w' a=>end_ e w' a fun c=>absurd c hr
end
namespace Pl
open Go.RowKit
variable{U:Bw}{now:Int}{p q:List Nd}{c v:V4}
def Alh {a:List Nd} (e:a.length=1) (b:Int) (v:V4) (u:Int):ga a [0] b v u=if Iw a [0] b v u 0=true then [0] else []:=by
 have c:∀ j,1<=j->Iw a [0] b v u j=false:=fun j d=>by
  unfold Iw;rw [Ax (by omega)];rfl
 have h1:∀ k,Iy a [0] b v u (k+1)=Iy a [0] b v u 1:=fun k=>by
  induction k with
  | zero=>rfl
  | succ k ih=>rw [Sf,c (k+1) (by omega),Ac (by simp),ih]
 unfold ga;rw [h1 15,Sf];rfl
def Ali    (k:Bc [c] U p) {a u:Int} (h0:0<=u) (h1:1<=a):Iw p [0] a v u 0=true↔u+a<=1099511627776/\∀ x,u<=x->x<u+a->(As (U 0 x) v).leq c:=by
 have b:p.length=1:=k.len;have:=Ate k (i:=0) (by omega) (v:=v) h0 h1;rw [show vv [c] 0=c from rfl] at this;simp only [Iw,E7,I1];rw [<- this];exact ⟨fun h=>h.2,fun h=>⟨⟨by omega,⟨0,by decide,rfl⟩⟩,h⟩⟩
def Acu    {a:Ask} {now st T:Int} {zs:List Int} (k:Bc [c] U p) (h:Qu now [true] a st zs p q) (h1:a.gl=[0]) (h2:a.nodes=1) (hc:a.can=true) (ac:0<=now) (hT:now<=T) (l:T+a.aa<=1099511627776)
  (f:∀ x,T<=x->x<T+a.aa->(As (U 0 x) a.v).leq c) (n:∀ u,now<=u->u<T->∃ x,u<=x/\x<u+a.aa/\¬ (As (U 0 x) a.v).leq c) :
  st=T/\zs=[0]/\Bc [c] (Aw U (ir [0] T (T+a.aa) a.v)) q:=by
 obtain ⟨_,p2,p3⟩:=Ato hc;rcases h with ⟨t,_⟩ | ⟨_,t',xs,is,i,_,h4⟩
 .rw [hc] at t;cases t
 .have j:=i;rw [h1,show Bj (ni [true] [0])=[0] from by decide,h2] at i;have hl:p.length=1:=k.len;have e:ga p [0] a.aa a.v T=[0]:=by rw [Alh hl,Ad ((Ali k (by omega) (by omega)).2 ⟨l,f⟩)]
  obtain ⟨hi,ht,hx,r,b⟩:=Atm i (by decide) (by omega) p3 (T:=T) (by omega) (by omega) (by rw [e];decide) (fun u x1 x2=>by
   rw [Alh hl,Ac (fun d=>by
    obtain ⟨x,y1,y2,y3⟩:=n u (by omega) x2
    exact y3 (((Ali k (by omega) (by omega)).1 d).2 x y1 y2))]
   decide)
  subst hi;obtain ⟨h5,z,r2,g⟩:=h4 rfl;have o:=(j.found.take k.loose g.1).1;subst o;rw [ht] at g
  have s:xs=[0]:=by
   rw [e] at b
   match xs,hx,b with
   | [y],_,b=>
    injection b with b _;rw [<- b]
  have m:Bj xs=[0]:=by rw [s];rfl
  rw [m] at z g;exact ⟨h5.trans ht,z,(Xm k g).1⟩
def Acv (fr a:Int) (v:V4) (x:Int):ir [0] fr a v 0 x=if fr<=x/\x<a then v else V4.zero:=by
 unfold ir;have b:Bs [0] ([0]:List Int).length 0:=⟨0,by decide,rfl⟩;by_cases c:fr<=x/\x<a
 .rw [Ad c,Ad ⟨b,c⟩]
 .rw [Ac c,Ac (fun d=>c d.2)]
structure U2 (a:Ask) (v:V4) (aa:Int):Prop where
 places:a.gl=[0]
 nodes:a.nodes=1
 v:a.v=v
 aa:a.aa=aa
 start:a.start=-1
def Acw {a:Ask}  {t:Int} (h:U2 a v t) (b:0<t) (c:v.right=true):a.can=true:=by
 simp only [Ask.can,h.nodes,h.aa,h.v,E7,I1];exact ⟨⟨by decide,b⟩,c⟩
def Acx  {b:List Bool} {a:Ask} {s:Az}  (h:Ni now b ((a,false),s) p q):s.id=a.id/\Qu now b a s.start s.dq p q:=by
 obtain ⟨m,c,e,d⟩:=h;rcases c with ⟨_,rfl⟩ | ⟨c,_⟩
 .exact ⟨e,d⟩
 .cases c
def Acy  {f:List Bool} {a:Ask} {b:Bool}  (e:a.start=-1) (h:Li now f (a,b) p q):q=p/\b=false:=by
 rcases h with ⟨_,c,d⟩ | ⟨c,_⟩ | ⟨c,_⟩
 .exact ⟨d,c⟩
 .exact absurd c (by show ¬ 0<=a.start;rw [e];decide)
 .exact absurd c (by show ¬ 0<=a.start;rw [e];decide)
def Alj {α:Type} {l:List α} (h:l.length=3):∃ a b c,l=[a,b,c]:=by
 match l,h with
 | [a,b,c],_=>exact ⟨a,b,c,rfl⟩
def Azu {a1 a2 a3:Ask} {a:List Az} (hp:Lj [⟨2,2,0,0⟩] 1 [true] [] [a1,a2,a3] a) (c:U2 a1 ⟨1,0,0,0⟩ 13) (b:U2 a2 ⟨1,0,0,0⟩ 13) (d:U2 a3 ⟨1,0,0,0⟩ 13) :
  a.map Az.key=[(a1.id,1,[0]),(a2.id,1,[0]),(a3.id,14,[0])]:=by
 obtain ⟨ps,q1,q2,st,rd,hl,hk,f,hr,g,i⟩:=hp.go;obtain ⟨_,j,_⟩:=Xn hl;obtain ⟨h,e,n,rfl⟩:=Alj (l:=st) (by have:=Ca List.length f;simpa using this);obtain ⟨b1,c1⟩:=h;obtain ⟨b2,c2⟩:=e;obtain ⟨b3,c3⟩:=n;simp at f;obtain ⟨rfl,rfl,rfl⟩:=f;obtain ⟨m1,y,m2,z,m3,g3,g4⟩:=hk;obtain ⟨rfl,rfl⟩:=Acy c.start y;obtain ⟨rfl,rfl⟩:=Acy b.start z;obtain ⟨rfl,rfl⟩:=Acy d.start g3;cases g4;obtain ⟨y1,y2,y3,rfl⟩:=Alj (l:=rd) (by have:=Ca List.length g;simpa using this);obtain ⟨h,s1⟩:=y1;obtain ⟨e,s2⟩:=y2;obtain ⟨n,s3⟩:=y3;simp at g;obtain ⟨rfl,rfl,rfl⟩:=g;obtain ⟨n1,r,n2,s,n3,t,f4⟩:=hr;obtain ⟨i1,o⟩:=Acx r;obtain ⟨i2,p⟩:=Acx s;obtain ⟨i3,q⟩:=Acx t;have j:Bc [⟨2,2,0,0⟩] nh q1:=j;obtain ⟨t1,z1,k⟩:=Acu j o c.places c.nodes (Acw c (by decide) (by decide)) (by decide) (T:=1) (by decide) (by rw [c.aa];decide) (fun x _ _=>by rw [c.v];simp [nh,As,V4.leq,V4.zero]) (fun u h e=>by omega);rw [c.v,c.aa] at k
 obtain ⟨t2,z2,m⟩:=Acu k p b.places b.nodes (Acw b (by decide) (by decide)) (by decide) (T:=1) (by decide) (by rw [b.aa];decide) (fun x h e=>by
  rw [b.aa] at e;rw [b.v];simp only [Aw,nh,Acv];rw [Ad (by omega)]
  simp [As,V4.leq,V4.zero]) (fun u h e=>by omega)
 rw [b.v,b.aa] at m
 obtain ⟨t3,z3,k3⟩:=Acu m q d.places d.nodes (Acw d (by decide) (by decide)) (by decide) (T:=14) (by decide) (by rw [d.aa];decide) (fun x h e=>by
  rw [d.v];simp only [Aw,nh,Acv];rw [Ac (by omega)]
  simp [As,V4.leq,V4.zero]) (fun u h e=>⟨u,Cz _,by rw [d.aa];omega,by
  rw [d.v];simp only [Aw,nh,Acv];rw [Ad (by omega)]
  simp [As,V4.leq,V4.zero]⟩)
 subst i;simp [Az.key,i1,i2,i3,t1,t2,t3,z1,z2,z3]
def Azv  {now r:Int}  (f:Jc [c] 1 now [] r q) (b:c.right=true) (h1:0<=now) (a:now<1099511627776):r=0:=by
 rcases f with ⟨d,_⟩ | ⟨_,h,j,⟨d,_⟩ | ⟨d,k,x,m,l,g,_,_⟩⟩
 .refine absurd ⟨by simp,fun i e=>?_,by simp,h1,a⟩ d
  have:i=0:=by simpa using e
  subst this;exact b
 .exact d
 .simp at g
