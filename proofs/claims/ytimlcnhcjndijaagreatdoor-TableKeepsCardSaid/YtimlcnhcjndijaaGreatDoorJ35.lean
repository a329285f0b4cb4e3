/- Parts of a proof. No condition. -/
import Derived.Test.YtimlcnhcjndijaaGreatDoorJ33
import Derived.Test.YtimlcnhcjndijaaGreatDoorJ34
import Derived.Test.YtimlcnhcjndijaaGreatDoorJ29
set_option linter.all false
set_option maxRecDepth 100000
set_option maxHeartbeats 12800000
namespace Go.Proofs.YtimlcnhcjndijaaGreatDoor
open Option renaming some->O,none->I
open IntKind renaming i64->G
open Value renaming int->Z,slice->V,tuple->E,string->D,pointer->K,bool->Q
open Ending renaming returned->Y
open Obj renaming cells->J
open Go renaming World->WD,Value->VL,Calls->CS
open Go.RowKit renaming Below->BW
open Go.Proofs.Tryz
section
open Go.RowKit Go.Maps Go.Lib
variable {vs:List ar} {n k:Nat} {j:Jb} {js:List Jb}
def Al9 (d:List V4) (c:Int) (bs:List Bool) (e:List Pl.Av) (a:List Pl.Ask):Oe d c bs e a=[]\/∃b,Pl.Jv d c bs e a b/\Oe d c bs e a=b.map Pl.Ax.key:=by
 unfold Oe;split
 .rename_i h;exact .inr ⟨h.choose,h.choose_spec,rfl⟩
 .exact .inl rfl
def V0 (h:Gs vs js) {k:Nat} {j:Jb} (a:js[k]?=O j):Fe js j.id=j:=by
 unfold Fe;rw[(h k j a).id,show((k:Int)+1-1).toNat=k by omega,a];rfl
def Ad4 (h:Gs vs js):(js.map Jb.id).Nodup:=by
 refine L1.2 λa b c d e=>?_;rw[Ar]at c d;rw[Aa4,Aa4,(h a _ (A3 c)).id,(h b _ (A3 d)).id];omega
def Zv (_h:Gs vs js) {i:Nat} (h:i<(Bs js).length):∃(k:Nat) (j:Jb),js[k]?=O j/\Ey js j=true/\A9 (Bs js) i=⟨j.id,j.sp.user,j.sp.prio,J8 j⟩:=by
 have g:(Bs js)[i]?=O (Bs js)[i]:=A3 _;have c:(Bs js)[i]∈Bs js:=J1 _;unfold Bs at c;obtain⟨j,d,e⟩:=A5.1 c;obtain⟨a,b⟩:=F3.1 d;obtain⟨k,f⟩:=B4 a;refine⟨k,j,f,b,?_⟩;unfold A9;rw[g];exact e.symm
def Ad5 (h:Gs vs js) {a:Pl.Ask} (b:a∈Cj vs js):∃(k:Nat) (j:Jb),js[k]?=O j/\Ey js j=true/\a=Cu vs j:=by
 unfold Cj at b;obtain⟨i,d,rfl⟩:=A5.1 b;obtain⟨k,j,c,f,e⟩:=Zv h (Zu _ _ _ d);exact⟨k,j,c,f,by rw[e,V0 h c]⟩
def Ama (h:Gs vs js):((Cj vs js).map λa=>a.id).Nodup:=by
 unfold Cj;rw[Dm];refine List.pairwise_map.2 ?_;refine List.Pairwise.imp_of_mem (fun {x y} hx hy hne=>?_) (A0i (Ee vs ByteArray.empty) (D1 js) (Bs js));have b:=Zu _ _ _ hx;have d:=Zu _ _ _ hy;obtain⟨p,n,g,_,j⟩:=Zv h b;obtain⟨q,o,i,_,k⟩:=Zv h d;show(Cu vs (Fe js (A9 (Bs js) x).id)).id≠(Cu vs (Fe js (A9 (Bs js) y).id)).id;rw[j,k,V0 h g,V0 h i];show n.id≠o.id;have f:((Bs js).map dp.id).Nodup:=by unfold Bs;rw[Dm];exact(Ad4 h).sublist ((Aas).map Jb.id)
 have l:((Bs js).map dp.id)[x]?=O n.id:=by
  rw[A7,A3 b]
  have:A9 (Bs js) x=(Bs js)[x]:=by unfold A9;rw[A3 b];rfl
  rw[<-this,j];rfl
 have m:((Bs js).map dp.id)[y]?=O o.id:=by
  rw[A7,A3 d]
  have:A9 (Bs js) y=(Bs js)[y]:=by unfold A9;rw[A3 d];rfl
  rw[<-this,k];rfl
 intro e;rcases R7 hne with c|c
 .exact Gm f l m c e
 .exact Gm f m l c e.symm
def Zw (vs:List ar) (tick:Int) (s:du) (x:Int×Int×List Int):Prop:=(x.2.1=-1/\x.2.2=[])\/(tick<=x.2.1/\Vt vs s x.2.2/\x.2.1+8+s.wall<=1099511627776)
def Amb {bs:List Bool} {zs:List Int} (h:Pl.Ga bs (Cu vs j) zs):Vt vs j.sp zs:=by
 have e:∀i,i<zs.length->∀d,zs[i]?=O d->Pl.zi zs i=d:=λi f d p=>by
  simp[Pl.zi,List.getD,p]
 refine⟨λx s=>?_,?_,h.len⟩
 .obtain ⟨i,f⟩:=B4 s;have m:=(An.1 f).1;have g:=h.od i m;rw[e i m x f]at g;unfold Pl.Bl Pl.ji Pl.Mh at g;obtain⟨q,r,rfl⟩:=A5.1 g;have:=(F3.1 r).2;unfold Pl.Pb at this;simp at this;exact this.2
 .have k:∀d a,a+d+1<zs.length->Pl.zi zs a<Pl.zi zs (a+d+1):=λd=>by
   induction d with
   | zero=>intro a c;exact h.aw a c
   | succ d ih=>
    intro a c;have h1:=ih a ao9;have n:=h.aw (a+d+1) ao9;exact Xl h1 n
  refine L1.2 λa b c l o=>?_;have:=k (b-a-1) a ao9;rw[show a+(b-a-1)+1=b by omega]at this;rw[e a c _ (A3 c),e b l _ (A3 l)]at this;exact this
def V1 (h:Gs vs js) (tick:Int) (bs:List Bool):((Fh vs tick bs js).map Prod.fst).Nodup/\∀x,x∈Fh vs tick bs js->∃(k:Nat) (j:Jb),js[k]?=O j/\x.1=(k:Int)+1/\Ey js j=true/\Zw vs tick j.sp x:=by
 unfold Fh;rcases Al9 (vs.map ar.cap) tick bs ((Ce js).map Fy) (Cj vs js)with e|⟨b,y,e⟩
 .rw [e];exact⟨List.nodup_nil,λx m=>by simp at m⟩
 .rw [e];have g:=Pl.Y9 y;have p:=g.len
  have q:∀i s,b[i]?=O s->∃a,(Cj vs js)[i]?=O a/\Pl.Te (vs.map ar.cap) tick bs a s:=λi s c=>by
   have hl:=(An.1 c).1;have d:(Cj vs js)[i]?=O ((Cj vs js)[i]'(by omega)):=A3 _;refine⟨_,d,g.slot (_,s) ?_⟩;refine Ai (i:=i) ?_;rw[We];exact⟨d,c⟩
  have f:(b.map Pl.Ax.key).map Prod.fst=(Cj vs js).map λa=>a.id:=by
   apply Eh;intro i;simp only[A7]
   cases c:b[i]? with
   | none=>
    have:(Cj vs js)[i]?=I:=by rw[Wf]at c ⊢;omega
    rw[this];rfl
   | some s=>
    obtain⟨a,d,l⟩:=q i s c;rw[d];simp only[K9];exact Cv O l.1
  rw[f];refine⟨Ama h,λx m=>?_⟩;obtain⟨s,c,rfl⟩:=A5.1 m;obtain⟨i,v⟩:=B4 c;obtain⟨a,d,l⟩:=q i s v;obtain⟨k,j,o,z,rfl⟩:=Ad5 h (Ai d);refine⟨k,j,o,?_,z,?_⟩
  .show s.id=_;rw[l.1];exact(h k j o).id
  .rcases l.2 with⟨a1,a2⟩|⟨_,r,_,t,_,u⟩
   .exact .inl ⟨a1,a2⟩
   .refine .inr ⟨r,Amb t,?_⟩;obtain⟨_,_,n,_⟩:=Pl.Lp u;have n:s.start+(j.sp.wall+8)<=1099511627776:=n;show s.start+8+j.sp.wall<=_;omega
def A0j (h:Is vs n k j) (h1:j.lf.st=1) {tick:Int} (y:0<=tick) {x:Int×Int×List Int} (s:Zw vs tick j.sp x):Is vs n k (Eu tick x.2.1 x.2.2 j):=by
 obtain⟨id,st,zs⟩:=x;have f:=h.toFz.idle (by rw[h1];rfl);have o:¬cu j.lf.st=true:=by rw[h1];decide
 unfold Eu;split
 .rename_i e;have e:st=tick:=e;rcases s with⟨a,_⟩|⟨a,b,c⟩
  .have a:st=-1:=a;omega
  .have b:Vt vs j.sp zs:=b;have c:st+8+j.sp.wall<=1099511627776:=c;obtain⟨u,v⟩:=Ayo h.ik h1;have t:=Jd h.gp;obtain⟨_,_,_,_,l,_⟩:=Gy t;have l:=(Ig.1 l).1;have l:1<=j.sp.nodes:=l;have r:=b.len;have m:cu (Ay j.lf 3).1.st=true:=by rw[v];rfl
   have g:zs≠[]:=λe=>by rw[e]at r;simp at r;omega
   have i:j.parts++zs.map (λn=>(n,(0:Int)))≠[]:=(by rw[f];simpa using g);refine⟨⟨h.id,h.gp,h.one,h.j5,h.ug,u,by show -1<=st;omega,λq=>?_,λ_=>⟨b,c⟩,⟨λ_=>i,λ_=>m⟩,λ_=>by show 0<=st;omega,λq=>?_,λq=>?_,λ_=>?_,λp d=>?_⟩,λ_=>?_⟩
   .have q:st<0:=q;omega
   .have q:(Ay j.lf 3).1.st=2:=q;omega
   .have q:5<=(Ay j.lf 3).1.st:=q;omega
   .show (j.parts++zs.map λn=>(n,(0:Int))).map Prod.fst=zs;rw[f];simp[Jk]
   .have d:p∈j.parts++zs.map (λn=>(n,(0:Int))):=d;rw[f]at d;simp at d;obtain⟨a,_,rfl⟩:=d;simp
   .show (j.parts++zs.map λn=>(n,(0:Int))).any (λp=>decide (p.2=0))=true;rw[f]
    cases zs with
    | nil=>exact absurd rfl g
    | cons z zs=>simp
 .rcases s with⟨a,b⟩|⟨a,b,c⟩
  .have a:st=-1:=a;have b:zs=[]:=b;subst a b;exact Vu h.toFz h.ik (.inl h1) j.parts f
  .have a:tick<=st:=a;have b:Vt vs j.sp zs:=b;have c:st+8+j.sp.wall<=1099511627776:=c;refine⟨⟨h.id,h.gp,h.one,h.j5,h.ug,h.ik,by show -1<=st;omega,λq=>?_,λ_=>⟨b,c⟩,h.live,λq=>absurd q o,λq=>?_,λq=>?_,λq=>absurd f q,h.ux⟩,h.xl⟩
   .have q:st<0:=q;omega
   .have q:j.lf.st=2:=q;omega
   .have q:5<=j.lf.st:=q;omega
def Amc {tick:Int} (m:0<=tick):∀(l:List (Int×Int×List Int)) (js:List Jb),(l.map Prod.fst).Nodup->(∀x,x∈l->∃(k:Nat) (j:Jb),js[k]?=O j/\x.1=(k:Int)+1/\j.lf.st=1/\Zw vs tick j.sp x)->Cs vs js->Cs vs (F7 tick l js)
 | [],_,_,_,h=>h
 | x :: l,js,hn,hx,h=>by
  obtain⟨k,j,i,e,h1,r⟩:=hx x Ci;have b:=Sc.1 hn;have q:(x.1-1).toNat=k:=ao9
  show Cs vs (F7 tick l (C9 js x.1 (Eu tick x.2.1 x.2.2)));unfold C9;rw[q];refine Amc m l _ b.2 (λy n=>?_) (h.mod λd a=>?_)
  .obtain ⟨o,d,a,p,f,g⟩:=hx y (B2 _ n);refine⟨o,d,?_,p,f,g⟩;rw[Dj,a];show O (if k=o then _ else d)=O d;rw[Ac];intro c;apply b.1
   have:x.1=y.1:=ao9
   rw[this];exact F1 n
  .rw [i]at a;injection a with a;subst a;exact A0j (h k j i) h1 m r
def A0k (h:Is vs n k j):Is vs n k (B8 j):=by
 unfold B8;split
 .rename_i e;exact Vu h.toFz h.ik (.inl e) j.parts (h.toFz.idle (by rw[e];rfl))
 .exact h
def Amd (h:Cs vs js) {tick:Int} (g:0<=tick) (bs:List Bool):Cs vs (Ky vs tick bs js):=by
 obtain⟨a,b⟩:=V1 h.b tick bs;unfold Ky;refine Amc g _ _ a (λx i=>?_) (λk j c=>?_)
 .obtain ⟨k,j,c,e,d,f⟩:=b x i;have h1:j.lf.st=1:=by unfold Ey at d;simp at d;exact d.1
  refine⟨k,B8 j,by rw[A7,c];rfl,e,?_,?_⟩
  .unfold B8;rw[Ad h1];exact h1
  .unfold B8;rw[Ad h1];exact f
 .rw [Ar];rw[A7]at c;obtain⟨y,l,rfl⟩:=K5.1 c;exact A0k (h k y l)
end
section
open Go.RowKit Go.Maps Go.Lib
def Ame (az:List V4) (now:Int) (bs:List Bool) (hs:List Pl.Av) (asks:List Pl.Ask):Prop:=(∃r,r≠0/\Pl.I9 az bs.length now hs r [])\/∃slots,Pl.Jv az now bs hs asks slots
def A0l (az:List V4) (now:Int) (bs:List Bool) (hs:List Pl.Av) (asks:List Pl.Ask) (w:WD) (e:Ending) (w':WD):Prop:=
 ∃so n sc r slots,e=Y (E #[V so n sc,Z G r])/\n=slots.length/\slots.map Pl.Ax.key=Oe az now bs (hs.map Pl.Av.er) (asks.map Pl.Ask.er)/\Pl.Vb w' so n slots/\(∀s,s∈slots->∀b off,s.go=O ⟨b,off,I⟩->w.heap.size<=b)/\BW w.heap.size w w'/\(∀b off,so=O ⟨b,off,I⟩->w.heap.size<=b)/\Ame az now bs (hs.map Pl.Av.er) (asks.map Pl.Ask.er)
def A0m {l:List V4} {c:Int} {bs:List Bool} {f:List Pl.Av} {a:List Pl.Ask} {w w':WD} {e:Ending} (h:Pl.Ajy l c bs f a w e w'):A0l l c bs f a w e w':=by
 obtain⟨m,⟨r,n,rfl,d⟩|⟨so,sc,b,rfl,g,j,_,k,o⟩⟩:=h
 .refine ⟨I,0,0,r,[],rfl,rfl,(Axg (a.map Pl.Ask.er) d n).symm,⟨rfl,ao9,λi x p=>by simp at p⟩,λs f=>by simp at f,m,λ_ _ e=>(by cases e),.inl ⟨r,n,Pl.Adb d⟩⟩
 .have d:=(Pl.Y9 g).len;exact⟨so,a.length,sc,0,b,rfl,d.symm,(Ako g).symm,j,o,m,k,.inr ⟨_,Pl.Akn g⟩⟩
structure sd (w:WD) (av:VL) (al:List Pl.Ask) (wr:WD):Prop where
 low:BW w.heap.size w wr
 oo:Bc Pl.Ask.cells 10 266 wr w.heap.size av al
 ux:∀a,a∈al->Am wr w.heap.size (V a.po a.pn a.pc) a.ie
 te:∀a,a∈al->Pl.At w a.go a.gn a.dn/\a.gn<=a.gc
variable {w wr w1 w2:WD} {av:VL} {al:List Pl.Ask}
def sd.drop (h:sd w av al wr) (a:BW wr.heap.size wr w1):sd w av al w1:=
 ⟨h.low.trans (a.mono h.low.size),h.oo.low a,λx b=>(h.ux x b).mod (Mod.af (S:=λ_=>False) a) (λ_ _ c=>c),h.te⟩
def sd.add (h:sd w av al wr) (j:BW wr.heap.size wr w1) (i:w1.grownBy w2 av.ownBlock) {b:VL} {x:Pl.Ask} (n:Bc Pl.Ask.cells 10 266 w2 w.heap.size b (al++[x])) (o:Am w1 w.heap.size (V x.po x.pn x.pc) x.ie) (g:Pl.At w x.go x.gn x.dn/\x.gn<=x.gc):sd w b (al++[x]) w2:=by
 have h1:=h.drop j;have m:=Mod.grown (S:=λk=>av.ownBlock=O k) i (λk d=>d);refine⟨h1.low.grown i h1.low.size (λk d=>(h1.oo.lt k d).1),n,λy a=>?_,λy a=>?_⟩
 .have f:Am w1 w.heap.size (V y.po y.pn y.pc) y.ie:=by
   rcases Dl.1 a with a|a
   .exact h1.ux y a
   .rw [Jj.1 a];exact o
  refine f.mod m (λk d e=>?_);obtain⟨c,l⟩:=h1.oo.au e;exact Bv f.row l ad9 d
 .rcases Dl.1 a with a|a
  .exact h.te y a
  .rw [Jj.1 a];exact g
end
section
open Go.RowKit Go.Maps Go.Lib
def A0y:(prog.info? 275).map (λi=>(i.zero,i.size,i.bytes))=O (O (.agg #[Z G 0,D ByteArray.empty,Z G 0,Z G 0,Z G 0,Z G 0,Z G 0]),7,64):=by kernel_rfl
def A0z:(prog.info? 266).map (λi=>(i.zero,i.size,i.bytes))=O (O (.agg #[Z G 0,V I 0 0,Z G 0,Z G 0,Z G 0,Z G 0,Z G 0,Z G 0,Z G 0,V I 0 0]),10,112):=by kernel_rfl
def Mm (js:List Jb) (k:Nat):List dp:=((js.take k).filter λj=>Ey js j).map λj=>⟨j.id,j.sp.user,j.sp.prio,J8 j⟩
def A00 {js:List Jb} {k:Nat} {j:Jb} (h:js[k]?=O j):Mm js (k+1)=Mm js k++if Ey js j=true then[⟨j.id,j.sp.user,j.sp.prio,J8 j⟩]else[]:=by
 unfold Mm;rw[Jq h,Nt,Dk];congr 1
 by_cases q:Ey js j=true<;>simp[q]
def Ad6 {js:List Jb} {k:Nat} (h:js.length<=k):Mm js k=Bs js:=by
 unfold Mm Bs;rw[C4 h]
def Ad7 (js:List Jb) (k:Nat):(Mm js k).length<=k:=by
 unfold Mm;rw[Ar];exact A8 (Ok _ _) (Qu _ _)
structure sy (w:WD) (ws:List dp) (wv:VL) (wr:WD):Prop where
 low:BW w.heap.size w wr
 row:Bc Rp 7 275 wr w.heap.size wv ws
structure zy (w:WD) (ws:List dp) (v:VL) (wx:WD):Prop where
 ex:∃so n c,v=V so n c
 at_:sy w ws v wx
variable {w wr w1 w2:WD} {ws:List dp} {wv:VL}
def sy.drop (h:sy w ws wv wr) (a:BW wr.heap.size wr w1):sy w ws wv w1:=⟨h.low.trans (a.mono h.low.size),h.row.low a⟩
def sy.add (h:sy w ws wv wr) (b:BW wr.heap.size wr w1) (c:w1.grownBy w2 wv.ownBlock) {a:VL} {y:dp} (e:Bc Rp 7 275 w2 w.heap.size a (ws++[y])):sy w (ws++[y]) a w2:=by
 have h1:=h.drop b;exact⟨h1.low.grown c h1.low.size (λk d=>(h1.row.lt k d).1),e⟩
def Ad8 (vs:List ar) (w:WD) (fi:List Jb) (e:Ending) (w':WD):Prop:=
 ∃ao n ac al,e=Y (V ao n ac)/\n=al.length/\Pl.Y6 w' ao n al/\al.map Pl.Ask.er=Cj vs fi/\BW w.heap.size w w'
def A01 {vs:List ar} {js:List Jb} (h:Gs vs js):Vh (Bs js):=λi j x y f g e=>by
 have a:((Bs js).map dp.id).Nodup:=by unfold Bs;rw[Dm];exact(Ad4 h).sublist ((Aas).map Jb.id)
 have b:((Bs js).map dp.id)[i]?=O x.id:=by rw[A7,f];rfl
 have d:((Bs js).map dp.id)[j]?=O y.id:=by rw[A7,g];rfl
 rcases Nat.lt_trichotomy i j with c|c|c
 .exact absurd e (Gm a b d c)
 .exact c
 .exact absurd e.symm (Gm a d b c)
def A02 {vs:List ar} (k:Jr vs):Pi (Ee vs ByteArray.empty):=λd m=>by
 have n:=k.len;have h:=Amj (vs:=vs) ByteArray.empty (λv l=>Abr (k.all v l).ok.cap);obtain⟨a,b,c,e,f,g,i,j⟩:=h
 rcases(show d=0\/d=1\/d=2\/d=3 by omega)with rfl|rfl|rfl|rfl<;>simp[V4.get]<;>omega
def Amo {w:WD} {T:Tv} (h:Ao w T):(∀x,x∈Bs T.pl.ab->x.user.size<=maxLen)/\∀x,x∈D1 T.pl.ab->x.user.size<=maxLen:=by
 have b:∀j,j∈T.pl.ab->j.sp.user.size<=maxLen:=λj a=>by
  obtain⟨y,d,rfl⟩:=A5.1 a;exact(h.ok y d).user
 refine⟨λx c=>?_,λx c=>?_⟩
 .obtain ⟨j,a,rfl⟩:=A5.1 c;exact b j (F3.1 a).1
 .obtain ⟨j,a,rfl⟩:=A5.1 c;exact b j (F3.1 a).1
def sd.post {vs:List ar} {l:List Jb} {d:Option Addr} {n c:Nat} {b:List Pl.Ask} {j:WD} (h:sd w (V d n c) b wr) (q:b.map Pl.Ask.er=Cj vs l) (u:b.length<=1000) (h0:BW j.heap.size j w):Ad8 vs j l (Y (V d n c)) wr:=by
 obtain⟨_,_,_,f,k,_⟩:=h.oo.len;injection f with a1 a2 a3;have i:n=b.length:=ao9
 subst i;refine⟨d,_,c,b,rfl,rfl,Bc.rows (cells:=Pl.Ask.cells) (sz:=10) (ok:=λw a=>Pl.Ask.ok w a) (λ_=>rfl) h.oo ao9 (λx m=>?_),q,h0.trans (h.low.mono h0.size)⟩;obtain⟨s,v,t,e,g,r,_⟩:=P5 (h.ux x m);injection e with f k e3;subst f k e3;obtain⟨o,p⟩:=h.te x m;exact⟨r.pl,g,o.below h.low Ln,p⟩
end
section
open Go.RowKit Go.Maps Go.Lib
def A03 {w:WD} {T:Tv} (h:Ao w T) (hA:Gs T.vs T.pl.ab) (cf:T.js.length<=20) (uo:Option Addr) (un uc:Nat) (hu:Qn w uo un (D1 T.pl.ab)) :
  CS prog 137 #[K (O ⟨T.tb,0,I⟩),V uo un uc] w (Ad8 T.vs w T.pl.ab):=by
 obtain⟨iW,bY,b9,bj,bk⟩:=Cf A0y;obtain⟨iA,bX,b8,bg,bi⟩:=Cf A0z;obtain⟨so,cap,a6,b0,ch,ak⟩:=h.og;have c4:=Bk h.head 4 T.jv rfl;have c5:=Bk h.head 5 (K (O ⟨T.fb,0,I⟩)) rfl;have aY:=Ab h.head;rw[a6]at c4;obtain⟨m,hm⟩:=Ex (T.js.length);obtain⟨tb,ht⟩:=Ex (T.tb);rw[<-hm]at c4 b0 ch cf;rw[<-ht]at c4 c5 aY;rw[<-ht];have aX:T.pl.ab.length=m:=by rw[hm];simp[Tv.pl]
 have bQ:sy w (Mm T.pl.ab 0) (V I 0 0) w:=⟨Below.refl _ _,Bc.nil _ _ _ _ _⟩;replace⟨h,hA,a6,b0,ak,ht,hm,aX⟩:=H8 h hA a6 b0 ak ht hm aX;replace⟨bQ,bY,b9,bj,bk,bX,b8,bg⟩:=H8 bQ bY b9 bj bk bX b8 bg;replace⟨bi,hu,aY⟩:=H3 bi hu aY;go_enter func137,ntmps137;go_wp2_with fail;go_loopw [5,7,18] (λwv _ iv wr=>∃(k:Nat),iv=Z G k/\k<=m/\Hid (sy w (Mm T.pl.ab k) wv wr)) (λ_ _ iv _=>m-(intOf iv).toNat)
 case atStart=>exact⟨0,rfl,As _,bQ⟩
 case round=>
  obtain⟨k,rfl,cB,hW⟩:=hrel;obtain⟨cp,wn,co,rfl,aF,_⟩:=hW.row.len;by_cases cE:k<m
  .have cv:(k:Int)<m:=ao9;have cA:(0:Int)<=(k:Int):=ao9;obtain⟨j,hj⟩:=Ge T.js k (by have:=hm.out;omega);obtain⟨g,rfl,aW⟩:=ak k j hj;have aM:=(h.ab.lt g (by rw[a6.out];rfl)).2;have cj:=(Af hW.low aM).trans aW;have ao:=Ai hj;have bF:T.pl.ab[k]?=O j.2.pl:=by simp[Tv.pl,hj]
   have ba:∀W,BW w.heap.size w W->CS prog 189 #[K (O ⟨tb,0,I⟩),K (O ⟨j.1,0,I⟩)] W λe w'=>e=Y (Q (Ey T.pl.ab j.2.pl))/\BW W.heap.size W w':=λW hW=>by
    rw[ht.out];refine A0n (h.low hW) hj λid cx=>?_;have:=(hA k _ bF).j5 id cx;have:=aX.out;have:=hm.out;omega
   have aB:=A00 bF;obtain⟨s,x⟩:=j;have an:∀W,BW w.heap.size w W->Bj W s x:=λW hW=>Ae hW (h.box _ ao) (Ab (h.box _ ao));have b3:∀W,BW w.heap.size w W->O2 W T.ax x:=λW hW=>(h.low hW).ok _ ao;obtain⟨q,hq⟩:=Ex (Ey T.pl.ab x.pl);simp only at ba aB;rw[<-hq]at aB;simp only[<-hq]at ba;have aS:=ba _ hW.low;replace⟨hj,aW,aM,ao,bF,ba,aS,aB⟩:=H8 hj aW aM ao bF ba aS aB;replace⟨an,b3,hq,aF⟩:=H4 an b3 hq aF;go_upto_block 1 with fail;go_cut [5,7] (λv _ wx=>zy w (Mm T.pl.ab (k+1)) v wx)
   case first=>
    cases q with
    | false=>
     have am:=aB.out;simp at am;replace am:=Hh am;go_wp2_with (go_at_call 189;(with_reducible refine(aS.out).mono ?_);rintro e w1 ⟨rfl,aJ⟩;replace aJ:=Hh aJ);go_meet
     case rel=>exact⟨⟨_,_,_,rfl⟩,by rw[am.out];exact hW.drop aJ.out⟩
    | true=>
     go_upto_region 6 with(go_at_call 189;(with_reducible refine(aS.out).mono ?_);rintro e w1 ⟨rfl,aJ⟩;replace aJ:=Hh aJ);have aA:=hW.drop aJ.out
     have kn:∀W,BW w1.heap.size w1 W->CS prog 184 #[K (O ⟨s,0,I⟩)] W λe w'=>e=Y (J8 x.pl).val/\BW w1.heap.size w1 w':=λW aG=>by
      have hl:=aA.low.trans (aG.mono aA.low.size);refine(Ak8 (an _ hl) (b3 _ hl)).mono ?_;rintro e w' ⟨h1,h2⟩;exact⟨h1,aG.trans (h2.mono aG.size)⟩
     obtain⟨⟨n0,n1,n2,n3⟩,aE⟩:∃v,v=J8 x.pl:=⟨_,rfl⟩;rw[<-aE]at kn;obtain⟨us,aV⟩:=Ex (x.pl.sp.user);obtain⟨aO,aQ⟩:=Ex (x.pl.id);obtain⟨pr,bG⟩:=Ex (x.pl.sp.prio)
     have a8:∀u∈([Z G aO,D us,Z G pr,Z G n0,Z G n1,Z G n2,Z G n3]:List VL),u.oneCell'=true:=by intro u hu;simp at hu;rcases hu with rfl|rfl|rfl|rfl|rfl|rfl|rfl<;>rfl
     have bf:wn<=20:=(by have:=aF.out;have:=Ad7 T.pl.ab k;omega);have aI:=If (n:=wn) ao9;have aK:(wn+1)*64<=140737488355328:=ao9;have am:Mm T.pl.ab (k+1)=Mm T.pl.ab k++[⟨aO,us,pr,⟨n0,n1,n2,n3⟩⟩]:=(by have:=aB.out;simp at this;rw[this,aV,aE,aQ,bG]);replace⟨aA,kn,aE,aV,aQ,bG,a8,bf⟩:=H8 aA kn aE aV aQ bG a8 bf;replace⟨aI,aK,am⟩:=H3 aI aK am;clear cj
     have ad:∀p:WD,BW w.heap.size w p->p.cell? ⟨s,0,I⟩=O (Z G aO)/\p.cell? ⟨s,1,I⟩=O (D us)/\p.cell? ⟨s,9,I⟩=O (Z G pr):=λp bs=>by
      have hx:=an _ bs;rw[aQ.out,aV.out,bG.out];exact⟨Aa hx 0,Aa hx 1,Aa hx 9⟩
     have l:=aA.low.drew;have f:BW w1.heap.size w1 w1.drew:=(Below.refl _ _).drew;replace⟨ad,l,f⟩:=H3 ad l f;go_region_held3 (λp=>p.cell? ⟨s,0,I⟩=O (Z G aO)/\p.cell? ⟨s,1,I⟩=O (D us)/\p.cell? ⟨s,9,I⟩=O (Z G pr))
      (first
        | with_reducible exact ad.out _ l.out
        | exact ad.out _ (l.alloc l.size _)
        | exact ad.out _ (l.alloc l.size _).drew
        | exact ad.out _ l.drew)
      (first
        | (go_at_call 184
           (with_reducible refine(kn.out _ f.out).mono ?_)
           rintro e w2 ⟨rfl,bU⟩;replace l:=Hh (aA.low.trans (bU.mono aA.low.size));replace f:=Hh bU
           clear bU)
        | (refine Uo (by rfl) _ _ _ (by rfl) w.heap.size 275 iW _ 7 64 underlying273 bY.out b9.out bj.out bk.out rfl (Iy _) (V cp wn co) wn _ (by rfl) (((aA.drop (f.alloc f.size _)).row).at_ aF.symm) ⟨w2.heap.size,0,I⟩ 1 [Z G aO,D us,Z G pr,Z G n0,Z G n1,Z G n2,Z G n3] (by rfl) (by rfl) (Adk w2 #[Z G aO,D us,Z G pr,Z G n0,Z G n1,Z G n2,Z G n3] 275) a8.out aI.out aK.out (A8 aA.low.size (f.alloc f.size _).size) ?_;intro g9 ca w9 ap ac;have bv:=aA.add (y:=⟨aO,us,pr,⟨n0,n1,n2,n3⟩⟩) (f.alloc f.size _) ac (Bc.snoc (cells:=Rp) ap aF.symm);replace l:=Hh bv.low;replace bv:=Hh bv
           clear ap ac))
     all_goals
      go_wp2_with fail;go_meet
      case rel=>exact⟨⟨_,_,_,rfl⟩,by rw[am.out];exact bv.out⟩
   case rest=>
   obtain⟨⟨cQ,vn,vc,rfl⟩,z⟩:=hcut;replace z:=Hh z;clear cj;go_wp2_with fail;go_roundw
   case rel=>exact⟨k+1,by go_num,ao9,z⟩
   case measure=>simp[intOf];omega
  .have cv:¬(k:Int)<m:=ao9;have z:=hW.out;rw[Ad6 (by have:=aX.out;omega)]at z;have aB:=Bc.yq z.row (by have:=Ad7 T.pl.ab T.pl.ab.length;rw[Ad6 Ln]at this;have:=aX.out;omega);have b7:wn=(Bs T.pl.ab).length:=(by have:=aF;rw[Ad6 (by have:=aX.out;omega)]at this;exact this);have ck:wn<=20:=(by have:=aF;have:=Ad7 T.pl.ab k;omega);have bl:∀W,BW w.heap.size w W->CS prog 191 #[K (O ⟨T.fb,0,I⟩),D ByteArray.empty] W (Abp T.vs ByteArray.empty W):=λW aG=>A0x (h.low aG).dt.ye h.dt.ok _;have bJ:CS prog 191 #[K (O ⟨T.fb,0,I⟩),.string { data:=#[] }] wr λe w'=>e=Y (Ee T.vs ByteArray.empty).val/\BW wr.heap.size wr w':=bl _ z.low
   have bn:∀W,BW wr.heap.size wr W->CS prog 190 #[(Ee T.vs ByteArray.empty).val,V uo un uc,V cp wn co] W λe w'=>∃v,e=Y v/\Am w' W.heap.size v (Dh (Le (Ee T.vs ByteArray.empty) (D1 T.pl.ab) (Bs T.pl.ab)))/\BW W.heap.size W w':=λW aG=>
    A0t _ (A02 h.dt.ok) uo un uc _ _ (hu.low (z.low.trans (aG.mono z.low.size))) (aB.low aG) ck (Amo h.out).1 (Amo h.out).2 (A01 hA.out)
   obtain⟨Lt,a1⟩:=Ex (Le (Ee T.vs ByteArray.empty) (D1 T.pl.ab) (Bs T.pl.ab));have b1:∀i,i∈Lt->i<(Bs T.pl.ab).length:=λi hi=>Zu _ _ _ (by rw[<-a1];exact hi)
   have a3:Cj T.vs T.pl.ab=Lt.map λi=>Cu T.vs (Fe T.pl.ab (A9 (Bs T.pl.ab) i).id):=by rw[a1];rfl
   have a0:Lt.length<=20:=(by have:=(Vz (Ee T.vs ByteArray.empty) (D1 T.pl.ab) (Bs T.pl.ab)).length_eq;rw[<-a1,Aaz]at this;omega);rw[<-a1]at bn;obtain⟨tv,b4⟩:=Ex (Ee T.vs ByteArray.empty);rw[<-b4]at bJ bn;have cr:=(Af z.low aY.out).trans c5;clear a1;replace⟨hW,z,aB,b7,bl,bJ,bn,b4⟩:=H8 hW z aB b7 bl bJ bn b4;replace⟨aF,b1,a3,a0⟩:=H4 aF b1 a3 a0;go_wp2_with (first|(go_at_call 191;(with_reducible refine(bJ.out).mono ?_);rintro e w3 ⟨rfl,a4⟩;replace a4:=Hh a4)|(go_at_call 190;(with_reducible refine(bn.out _ a4.out).mono ?_);rintro e w4 ⟨v4,rfl,b2,bw⟩;obtain⟨cP,tn,tc,rfl,ci,bH,_⟩:=P5 b2;replace⟨b2,bw,ci,bH⟩:=H4 b2 bw ci bH));clear cr;have aD:=z.low.trans (a4.mono z.low.size);have r:=aD.trans (bw.mono aD.size);have bR:=(z.drop a4.out).drop bw.out;have aU:tn=Lt.length:=(by have:=bH.len;simp[Dh]at this;omega);have bP:sd w4 (V I 0 0) [] w4:=⟨Below.refl _ _,Bc.nil _ _ _ _ _,λx hx=>by simp at hx,λx hx=>by simp at hx⟩;have bO:([]:List Pl.Ask).map Pl.Ask.er=(Lt.take 0).map λi=>Cu T.vs (Fe T.pl.ab (A9 (Bs T.pl.ab) i).id):=rfl;have cL:tn<=20:=(by have:=a0.out;omega);replace⟨aD,r,bR,aU,bP,bO⟩:=H6 aD r bR aU bP bO;go_loopw [8,10,11,55] (λav _ _ iv wr=>∃(i:Nat) (al:List Pl.Ask),iv=Z G i/\i<=tn/\Hid (sd w4 av al wr)/\Hid (al.map Pl.Ask.er=(Lt.take i).map λi=>Cu T.vs (Fe T.pl.ab (A9 (Bs T.pl.ab) i).id))) (λ_ _ _ iv _=>tn-(intOf iv).toNat)
   case atStart=>exact⟨0,[],rfl,As _,bP,bO⟩
   case round=>
    obtain⟨i,al,rfl,cH,hK,hE⟩:=hrel;obtain⟨cm,aZ,kc,rfl,aN,_⟩:=hK.oo.len;by_cases cF:i<tn
    .have cd:(i:Int)<tn:=ao9;have cG:(0:Int)<=(i:Int):=ao9;obtain⟨t,bc⟩:=Ge Lt i (by have:=aU.out;omega);have be:=b1 t (Ai bc);obtain⟨cO,cC,rfl,bd,cb⟩:=bH.cell i (t:Int) (by simp[Dh,bc]);have ct:=(Af hK.low bd).trans cb;obtain⟨kk,j0,a5,bN,b5⟩:=Zv hA.out be;have bZ:=V0 hA.out a5;have bA:=hA kk j0 a5;obtain⟨jx,a7,cy⟩:∃jx,T.js[kk]?=O jx/\jx.2.pl=j0:=(by have:(T.js.map λj=>j.2.pl)[kk]?=O j0:=a5;rw[A7]at this;obtain⟨y,hy,e⟩:=K5.1 this;exact⟨y,hy,e⟩);subst cy;obtain⟨s,x⟩:=jx;have ao:=Ai a7;have ce:kk<m:=(by have:=(An.1 a7).1;have:=hm.out;omega);obtain⟨g,rfl,aW⟩:=ak kk (s,x) a7;have aM:=(h.ab.lt g (by rw[a6.out];rfl)).2;have o:=r.trans (hK.low.mono r.size);have cj:wr.cell? ⟨g,kk,I⟩=O (K (O ⟨s,0,I⟩)):=(Af o aM).trans aW;have d4:=(Af o aY.out).trans c4
     have cl:(Bs T.pl.ab)[t]?=O ⟨x.pl.id,x.pl.sp.user,x.pl.sp.prio,J8 x.pl⟩:=by
      rw[A3 be]
      have:A9 (Bs T.pl.ab) t=(Bs T.pl.ab)[t]:=by unfold A9;rw[A3 be];rfl
      rw[<-this,b5]
     obtain⟨wg,cD,rfl,b6,rfl,cc⟩:=Bc.cell (sz:=7) (cells:=Rp) (λ_=>rfl) bR.row t _ cl;have aH:x.pl.id=(kk:Int)+1:=bA.id;have cw:wr.cell? ⟨wg,t*7,I⟩=O (Z G ((kk:Int)+1)):=(by have:=(Af hK.low b6).trans (cc 0 ao9);rw[Db,Jo]at this;rw[this,<-aH];rfl);have cJ:(0:Int)<=(t:Int):=ao9;have cK:(t:Int)<(wn:Int):=(by have:=b7.out;omega);have cA:(0:Int)<=(kk:Int):=ao9;have cB:(kk:Int)<(m:Int):=ao9;have cM:IntKind.i64.wrap ((kk:Int)+1-1)=(kk:Int):=(by rw[show(kk:Int)+1-1=kk by omega];exact Ja ao9 ao9);have an:∀W,BW w.heap.size w W->Bj W s x:=λW hW=>Ae hW (h.box _ ao) (Ab (h.box _ ao));have aR:=(h.low r.out).ok _ ao;have bb:(Lt.take (i+1)).map (λi=>Cu T.vs (Fe T.pl.ab (A9 (Bs T.pl.ab) i).id))=(Lt.take i).map (λi=>Cu T.vs (Fe T.pl.ab (A9 (Bs T.pl.ab) i).id))++[Cu T.vs x.pl]:=(by rw[Jq bc,Dk];simp only[Ko,Uh];rw[b5];simp only;rw[bZ]);obtain⟨_,_,_,_,_,m6,_⟩:=Gy (Jd bA.gp);obtain⟨bK,bL⟩:=Ig.1 m6;obtain⟨wl,aC⟩:=Ex (x.pl.sp.wall);replace bK:1<=wl:=(by rw[aC];exact bK);replace bL:wl<=1000:=(by rw[aC];exact bL);have cN:IntKind.i64.wrap (wl+8)=wl+8:=Ja ao9 ao9
     have bI:∀W,BW wr.heap.size wr W->CS prog 154 #[K (O ⟨T.fb,0,I⟩),D x.pl.sp.part] W λe w'=>∃v,e=Y v/\Am w' w4.heap.size v (B5 T.vs x.pl.sp.part)/\BW wr.heap.size wr w':=λW hW=>by
      have hl:=o.trans (hW.mono o.size);refine(Agq (h.low hl).dt.ye h.dt.ok x.pl.sp.part).mono ?_;rintro e w' ⟨v,h1,h2,h3⟩;exact⟨v,h1,h2.le (A8 hK.low.size hW.size),hW.trans (h3.mono hW.size)⟩
     obtain⟨pt,a9⟩:=Ex (x.pl.sp.part);obtain⟨nd,aE⟩:=Ex (x.pl.sp.nodes);obtain⟨⟨da,db,dc,dd⟩,aL⟩:∃v,v=x.pl.sp.df:=⟨_,rfl⟩;obtain⟨aP,aT⟩:=Ex (x.pl.start);obtain⟨go,bD⟩:=Ex (x.go);obtain⟨gn,bC⟩:=Ex (x.gn);obtain⟨gc,bB⟩:=Ex (x.gc);rw[<-a9]at bI
     have ad:∀p:WD,BW w.heap.size w p->p.cell? ⟨s,0,I⟩=O (Z G ((kk:Int)+1))/\p.cell? ⟨tb,5,I⟩=O (K (O ⟨T.fb,0,I⟩))/\p.cell? ⟨s,2,I⟩=O (D pt)/\p.cell? ⟨s,3,I⟩=O (Z G nd)/\p.cell? ⟨s,4,I⟩=O (Z G da)/\p.cell? ⟨s,5,I⟩=O (Z G db)/\p.cell? ⟨s,6,I⟩=O (Z G dc)/\p.cell? ⟨s,7,I⟩=O (Z G dd)/\p.cell? ⟨s,8,I⟩=O (Z G wl)/\p.cell? ⟨s,19,I⟩=O (Z G aP)/\p.cell? ⟨s,20,I⟩=O (V go gn gc):=λp bs=>by
      have hx:=an _ bs;have e4:da=x.pl.sp.df.a:=(by rw[<-aL]);have e5:db=x.pl.sp.df.b:=(by rw[<-aL]);have e6:dc=x.pl.sp.df.c:=(by rw[<-aL]);have e7:dd=x.pl.sp.df.d:=(by rw[<-aL]);rw[<-aH,a9,aE,e4,e5,e6,e7,aC,aT,bD,bC,bB];exact⟨Aa hx 0,(Af bs aY.out).trans c5,Aa hx 2,Aa hx 3,Aa hx 4,Aa hx 5,Aa hx 6,Aa hx 7,Aa hx 8,Aa hx 19,Aa hx 20⟩
     have bW:Pl.At w4 go gn x.pl.ah/\gn<=gc:=(by rw[bD,bC,bB];exact⟨aR.ah.row.pl,aR.ou⟩);have bf:aZ<=20:=(by have h1:=aN;have h2:=Cv List.length hE.out;simp only[Ar]at h2;have h3:=Qu i Lt;omega);have aI:=If (n:=aZ) ao9;have aK:(aZ+1)*112<=140737488355328:=ao9;have a2:Pl.Ask.er ⟨(kk:Int)+1,I,0,0,B5 T.vs pt,nd,⟨da,db,dc,dd⟩,wl+8,aP,I,0,0,x.pl.ah⟩=Cu T.vs x.pl:=(by rw[a9,aE,aL,aC,aT,<-aH];rfl);clear an aW cb cc b5 cl;replace⟨bc,be,bd,a5,bN,bZ,bA,a7⟩:=H8 bc be bd a5 bN bZ bA a7;replace⟨ao,ce,aM,o,b6,aH,aR,bb⟩:=H8 ao ce aM o b6 aH aR bb;replace⟨m6,bK,bL,aC,bI,a9,aE,aL⟩:=H8 m6 bK bL aC bI a9 aE aL;replace⟨aT,bD,bC,bB,ad,bW,bf,aI⟩:=H8 aT bD bC bB ad bW bf aI;replace⟨aK,a2,aN⟩:=H3 aK a2 aN;go_upto_region 12 with fail;clear ct;go_quiet (fail);rename_i nq;obtain⟨W5,bS⟩:=Ex (wr.drewN nq);have bx:BW wr.heap.size wr W5:=(by rw[bS];exact A4 _ wr nq);rw[<-bS];clear bS cj d4 cw;have l:=(o.trans (bx.mono o.size)).drew;have f:=bx.drew;replace⟨bx,l,f⟩:=H3 bx l f;go_upto_region 13 with fail;go_region_held3 (λp=>p.cell? ⟨s,0,I⟩=O (Z G ((kk:Int)+1))/\p.cell? ⟨tb,5,I⟩=O (K (O ⟨T.fb,0,I⟩))/\p.cell? ⟨s,2,I⟩=O (D pt)/\p.cell? ⟨s,3,I⟩=O (Z G nd)/\p.cell? ⟨s,4,I⟩=O (Z G da)/\p.cell? ⟨s,5,I⟩=O (Z G db)/\p.cell? ⟨s,6,I⟩=O (Z G dc)/\p.cell? ⟨s,7,I⟩=O (Z G dd)/\p.cell? ⟨s,8,I⟩=O (Z G wl)/\p.cell? ⟨s,19,I⟩=O (Z G aP)/\p.cell? ⟨s,20,I⟩=O (V go gn gc))
      (first
        | with_reducible exact ad.out _ l.out
        | exact ad.out _ (l.alloc l.size _)
        | exact ad.out _ (l.alloc l.size _).drew
        | exact ad.out _ l.drew)
      (first
        | (go_at_call 154
           (with_reducible refine(bI.out _ f.out).mono ?_)
           rintro e w6 ⟨v6,rfl,bE,bV⟩;obtain⟨po,pn,pc,rfl,bM⟩:=bE.len;replace l:=Hh (o.trans (bV.mono o.size));replace f:=Hh bV;replace⟨bE,bM⟩:=H2 bE bM
           clear bV)
        | (refine Uo (by rfl) _ _ _ (by rfl) w4.heap.size 266 iA _ 10 112 underlying220 bX.out b8.out bg.out bi.out rfl (Iy _) (V cm aZ kc) aZ _ (by rfl) (((hK.drop (f.alloc f.size _)).oo).at_ aN.symm) ⟨w6.heap.size,0,I⟩ 1 [Z G ((kk:Int)+1),V po pn pc,Z G nd,Z G da,Z G db,Z G dc,Z G dd,Z G (wl+8),Z G aP,V go gn gc] (by rfl) (by rfl) (Adk w6 #[Z G ((kk:Int)+1),V po pn pc,Z G nd,Z G da,Z G db,Z G dc,Z G dd,Z G (wl+8),Z G aP,V go gn gc] 266) (by intro u hu;simp at hu;rcases hu with rfl|rfl|rfl|rfl|rfl|rfl|rfl|rfl|rfl|rfl<;>rfl) aI.out aK.out (A8 hK.low.size (f.alloc f.size _).size) ?_;intro g9 ca w9 ap ac;have bp:=hK.add (x:=⟨(kk:Int)+1,po,pn,pc,B5 T.vs pt,nd,⟨da,db,dc,dd⟩,wl+8,aP,go,gn,gc,x.pl.ah⟩) (f.alloc f.size _) ac (Bc.snoc (cells:=Pl.Ask.cells) ap aN.symm) (bE.mod (Mod.af (S:=λ_=>False) Bn) (λ_ _ c=>c)) bW.out;replace l:=Hh (r.trans (bp.low.mono r.size));replace bp:=Hh bp
           clear ap ac))
     have cs:Hid ((al++[(⟨(kk:Int)+1,po,pn,pc,B5 T.vs pt,nd,⟨da,db,dc,dd⟩,wl+8,aP,go,gn,gc,x.pl.ah⟩:Pl.Ask)]).map Pl.Ask.er=(Lt.take (i+1)).map λi=>Cu T.vs (Fe T.pl.ab (A9 (Bs T.pl.ab) i).id)):=Hh (by
      rw[bb.out,Dk,hE.out,<-a2.out]
      rfl)
     go_wp2_with fail;go_roundw
     case rel=>exact⟨i+1,_,by go_num,ao9,bp,cs⟩
     case measure=>simp[intOf];omega
    .have cd:¬(i:Int)<tn:=ao9;have cI:i=tn:=ao9;have bo:=hE.out;rw[C4 (by have:=aU.out;omega),<-a3.out]at bo;have bT:al.length<=1000:=(by have h2:=Cv List.length hE.out;simp only[Ar]at h2;have h3:=Qu i Lt;omega);replace⟨bo,bT,aN⟩:=H3 bo bT aN;go_wp2_with fail;exact Al (v:=V cm aZ kc) (by simp[results,results137,go_sem]) rfl (hK.post bo.out bT.out r.out)
def A04 {w:WD} {so:Option Addr} {n c:Nat} {xs:List V4} (h:w.ownsRow 0 30 4 (V so n c) xs.length (Aw V4.cells xs)) (t:n=xs.length) (v:n<=1000000):Pl.O9 w so n xs:=by
 subst t;refine⟨rfl,ao9,λi s=>?_⟩;obtain⟨g,cap,e⟩:=Joins.ownsRow_form h ao9;have o:so=O ⟨g,0,I⟩:=by injection e
 subst o;obtain⟨x,b⟩:=Ge xs i s;have a:∀x:V4,(V4.cells x).size=4:=λ_=>rfl;have u:Pl.vv xs i=x:=by simp[Pl.vv,List.getD,b]
 have f:=F0 h (i*4) ao9;have k:=F0 h (i*4+1) ao9;have l:=F0 h (i*4+2) ao9;have m:=F0 h (i*4+3) ao9;have d:=Gw a xs (j:=0) b ao9;have p:=Gw a xs (j:=1) b ao9;have q:=Gw a xs (j:=2) b ao9;have r:=Gw a xs (j:=3) b ao9;rw[Jo]at d;rw[u];exact⟨g,0,rfl,(Oo h g rfl).2,by rw[Db,f,d];rfl,by rw[Db,k,p];rfl,by rw[Db,l,q];rfl,by rw[Db,m,r];rfl⟩
def A05 (vs:List ar) (js:List Jb):(Cj vs js).length<=js.length:=by
 unfold Cj;rw[Ar,(Vz _ _ _).length_eq,Aaz];unfold Bs;rw[Ar];exact Ok _ _
def Rx (vs:List ar) (now:Int) (bs:List Bool) (js:List Jb):Prop:=Ame (vs.map ar.cap) now bs ((Ce js).map Fy) (Cj vs js)
def xi (w5:WD) (ks:List (Int×Int×List Int)) (v rv:VL) (wx:WD):Prop:=
 ∃so n sc r slots,v=V so n sc/\rv=Z G r/\n=slots.length/\slots.map Pl.Ax.key=ks/\Pl.Vb wx so n slots/\(∀s,s∈slots->∀b off,s.go=O ⟨b,off,I⟩->w5.heap.size<=b)/\BW w5.heap.size w5 wx/\∀b off,so=O ⟨b,off,I⟩->w5.heap.size<=b
def xi.low {a wx:WD} {c:List (Int×Int×List Int)} {v d:VL} (h:xi a c v d wx):BW a.heap.size a wx:=by
 obtain⟨_,_,_,_,_,_,_,_,_,_,_,b,_⟩:=h;exact b
def yx (w5:WD) (vs:List ar) (now:Int) (bs:List Bool) (js:List Jb) (v rv:VL) (wx:WD):Prop:=xi w5 (Fh vs now bs js) v rv wx/\Rx vs now bs js
def A06 {k:WD} {vs:List ar} {js:List Jb} {bs:List Bool} {a:Int} {vo z t:Option Addr} {vn vc y uc m mc:Nat} {j:List Pl.Av}
  (hv:Pl.O9 k vo vn (vs.map ar.cap)) (g:j.map Pl.Av.er=(Ce js).map Fy)
  {w1:WD} (h1:BW k.heap.size k w1) (hu:Pl.Ni w1 z y bs) {p:Option Addr} {l lc:Nat} {o:List Pl.Ask} (ha:Pl.Y6 w1 p l o) (f:o.map Pl.Ask.er=Cj vs js) (hl:l<=1000000) (q:Pl.Y3 w1 t m j) :
  CS prog 136 #[V vo vn vc,V z y uc,Z G a,V t m mc,V p l lc] w1 λe w'=>∃v rv,e=Y (E #[v,rv])/\xi k (Fh vs a bs js) v rv w'/\Rx vs a bs js:=by
 refine(Pl.Awu vo z t p vn vc y uc m mc l lc (vs.map ar.cap) bs a j o w1 (hv.below h1 Ln) hu q ha hl).mono ?_;intro e w' h;obtain⟨so,n,sc,r,d,he,hn,hk,u,hg,hb,x,i⟩:=A0m h;refine⟨_,_,he,⟨so,n,sc,r,d,rfl,rfl,hn,?_,u,λs j b c e=>A8 h1.size (hg s j b c e),h1.trans (hb.mono h1.size),λb c e=>A8 h1.size (x b c e)⟩,?_⟩
 .rw [hk,g,f];rfl
 .rw [g,f]at i;exact i
def A1h:(prog.info? 125).map (λi=>(i.zero,i.size,i.bytes))=O (O (K I),1,8):=by kernel_rfl
structure qx (w:WD) (T:Tv) (rb B g L:Nat) (s2:List VL) (R:List (List Int)) (jv:VL) (js:List (Nat×aj)) (wr:WD):Prop where
 sub:Eg w T jv js wr
 res:wr.heap[w.heap.size+1]?=O (J #[Z G 0,Z G 0,Z G 0] 35 (0,0))
 rep:wr.heap[rb]?=O (J #[Z G 0,Z G ((T.js.length:Int)+1),Z G 0] 35 (0,0))
 rows:Dg wr B g L s2 R
 fh:∀j,j∈js->(0<j.2.sn->∀k o,j.2.so=O ⟨k,o,I⟩->k≠rb/\k≠w.heap.size+1)/\(0<j.2.gn->∀k o,j.2.go=O ⟨k,o,I⟩->k≠rb/\k≠w.heap.size+1)
 stays:Je w T.js js
variable {w w' wr:WD} {T:Tv} {rb B g L:Nat} {s2:List VL} {R:List (List Int)} {jv jv':VL} {js:List (Nat×aj)}
def qx.low (h:qx w T rb B g L s2 R jv js wr) (a:BW wr.heap.size wr w'):qx w T rb B g L s2 R jv js w':=
 ⟨h.sub.low a,Ae a h.res (Ab h.res),Ae a h.rep (Ab h.rep),h.rows.low a,h.fh,h.stays⟩
def Eg.stay (h:Eg w T jv js wr) (g:Mod (λk=>k=T.tb\/jv.ownBlock=O k) wr w') {b:Nat} {c:Array VL} {a:TypeId} (d:wr.heap[b]?=O (J c a (0,0))) (h1:a≠115) (f:a≠125):w'.heap[b]?=O (J c a (0,0)):=g.au d λe=>by
 rcases e with e|e
 .subst e;have:=h.at_.head;rw[show({ T with jv:=jv,js:=js }:Tv).tb=T.tb from rfl,d]at this;injection this with this;injection this with _ this;exact h1 this
 .exact Bv h.at_.ab d (λe=>f e.symm) e
def qx.add (h:qx w T rb B g L s2 R jv js wr) {b:Nat} {x:aj} (m:Mod (λk=>k=T.tb\/jv.ownBlock=O k) wr w')
  (hd:w'.heap[T.tb]?=O (J #[Z G T.ai,Z G T.tick,.map (O T.mb),T.nv,jv',K (O ⟨T.fb,0,I⟩),T.cv] 115 (0,0)))
  (hr:w'.ownsRow 0 125 1 jv' (js.length+1) ((js.map λj=>K (O ⟨j.1,0,I⟩))++[K (O ⟨b,0,I⟩)]))
  (s:∀k,jv'.ownBlock=O k->jv.ownBlock=O k\/wr.heap.size<=k)
  (hb:wr.heap.size<=b) (n:Bj w' b x) (t:x.po=I/\x.pn=0/\x.pc=0/\x.pl.parts=[]) (l:x.go=I/\x.gn=0/\x.gc=0/\x.pl.ah=[])
  (v:At w' x.so x.sn x.pl.sp.after) (f:∀k o,x.so=O ⟨k,o,I⟩->∃c,w'.heap[k]?=O (J c 3 (0,0))) (u:x.sn<=x.sc) (hu:x.pl.sp.user.size<=maxLen) (hp:x.pl.sp.part.size<=maxLen) (p:∀k o,x.so=O ⟨k,o,I⟩->w.heap.size<=k) :
  qx w T rb B g L s2 R jv' (js++[(b,x)]) w':=by
 refine⟨h.sub.add m hd hr s hb n t l v f u hu hp,h.sub.stay m h.res ad9 ad9,h.sub.stay m h.rep ad9 ad9,h.rows.off m (λe=>?_) (λi sv y k z e=>?_),λj a=>?_,λj a=>?_⟩
 .obtain ⟨_,_,c,d⟩:=h.rows.au;rcases e with e|e
  .subst e;have:=h.sub.at_.head;rw[show({ T with jv:=jv,js:=js }:Tv).tb=T.tb from rfl,d]at this;injection this with this;injection this with _ this;exact absurd this ad9
  .exact Bv h.sub.at_.ab d ad9 e
 .have r:i<R.length:=by rw[<-h.rows.len];exact(An.1 y).1
  have ho:=h.rows.each i sv _ y (A3 r);obtain⟨c,d⟩:=ho.au z;rcases e with e|e
  .subst e;have:=h.sub.at_.head;rw[show({ T with jv:=jv,js:=js }:Tv).tb=T.tb from rfl,d]at this;injection this with this;injection this with _ this;exact absurd this ad9
  .exact Bv h.sub.at_.ab d ad9 e
 .rcases Dl.1 a with a|a
  .exact h.fh j a
  .have a:=Jj.1 a;subst a;refine⟨λ_ k o e=>?_,λc=>absurd c (by rw[l.2.1];omega)⟩;obtain⟨c,d⟩:=f k o e;refine⟨λq=>?_,λq=>?_⟩
   .have:=h.sub.stay m h.rep ad9 ad9;rw[<-q,d]at this;injection this with this;injection this with _ this;exact absurd this ad9
   .have:=h.sub.stay m h.res ad9 ad9;rw[<-q,d]at this;injection this with this;injection this with _ this;exact absurd this ad9
 .rcases Dl.1 a with a|a
  .exact h.stays j a
  .have a:=Jj.1 a;subst a;exact⟨λ_ k o e z=>by have:=p k o e;omega,λc=>absurd c (by rw[l.2.1];omega)⟩
def A1i (X:List Jb):(C2 X).map Jb.sp=X.map Jb.sp:=Ahw (P:=λl=>l.map Jb.sp=X.map Jb.sp) (λjs k h _=>(Ahy js k).trans h) rfl
def Cs.vq {vs:List ar} {X:List Jb} (h:Cs vs (C2 X)):Ep X:=Rc h.b.j5 (A1i X).symm
def qx.ym (h:qx w T rb B g L s2 R jv js wr) (h0:T.tb<w.heap.size) (d:w.heap.size<=rb) (v:VL):Eg w T jv js (wr.setCell ⟨rb,2,I⟩ v):=by
 have b:=Mod.setCell (S:=λk=>k=rb) wr rb 2 v rfl;exact⟨Ao.gl (T:={ T with jv:=jv,js:=js }) h.sub.at_ h.rep b (by show T.tb<rb;omega) ad9 ad9 ad9 ad9 ad9 ad9 (λj a=>⟨λc k o e=>((h.fh j a).1 c k o e).1,λc k o e=>((h.fh j a).2 c k o e).1⟩),h.sub.ax,h.sub.mod.then b (λk f e=>by omega)⟩
def Eg.r6 {b:WD} (h:Eg w T jv js b) (h0:T.tb<w.heap.size) (a:b.heap[w.heap.size+1]?=O (J #[Z G 0,Z G 0,Z G 0] 35 (0,0)))
  (i:∀j,j∈js->(0<j.2.sn->∀k o,j.2.so=O ⟨k,o,I⟩->k≠w.heap.size+1)/\(0<j.2.gn->∀k o,j.2.go=O ⟨k,o,I⟩->k≠w.heap.size+1)) (d f g:VL) :
  Eg w T jv js (((b.setCell ⟨w.heap.size+1,0,I⟩ d).setCell ⟨w.heap.size+1,1,I⟩ f).setCell ⟨w.heap.size+1,2,I⟩ g):=by
 have c:=(((Mod.refl (λk=>k=w.heap.size+1) b).set _ 0 d rfl).set _ 1 f rfl).set _ 2 g rfl;exact⟨Ao.gl (T:={ T with jv:=jv,js:=js }) h.at_ a c (by show T.tb<w.heap.size+1;omega) ad9 ad9 ad9 ad9 ad9 ad9 i,h.ax,h.mod.then c (λk l e=>by omega)⟩
def A1j {w1:WD} {c:Tv} {a:List (Nat×aj)} {n:Nat} (h:B7 w1 c a w') (q:∀j,j∈c.js->(0<j.2.sn->∀k o,j.2.so=O ⟨k,o,I⟩->k≠n)/\(0<j.2.gn->∀k o,j.2.go=O ⟨k,o,I⟩->k≠n)):∀j,j∈a->(0<j.2.sn->∀k o,j.2.so=O ⟨k,o,I⟩->k≠n)/\(0<j.2.gn->∀k o,j.2.go=O ⟨k,o,I⟩->k≠n):=λj r=>by
 obtain⟨i,m⟩:=B4 r;have p:i<c.js.length:=by rw[<-h.len];exact(An.1 m).1
 have s:=A3 p;have d:=h.kp i _ j s m;have l:=q _ (J1 p);refine⟨λb k o e=>?_,λb k o e=>?_⟩
 .rw [d.sn]at b;rw[d.so]at e;exact l.1 b k o e
 .rcases d.ah with⟨f,g,_⟩|⟨f,g,_⟩
  .rw [g]at b;rw[f]at e;exact l.2 b k o e
  .omega
def Amr {S:Nat->Prop} {so:Option Addr} {n:Nat} {l:List Int} (h:At wr so n l) (c:Mod S wr w') (f:∀k o,so=O ⟨k,o,I⟩->¬S k):At w' so n l:=
 ⟨h.len,h.max,λi x g=>by
  obtain⟨k,b,e,a,d⟩:=h.cell i x g;refine⟨k,b,e,Bq a c.size,?_⟩;rw[<-d]
  simp only[World.cell?,c.block k a (f k b e)]⟩
structure yw (w:WD) (T:Tv) (rb B g L:Nat) (s2:List VL) (R:List (List Int)) (X:List Jb) (n:Nat) (g2:Nat) (c2:Array VL) (wx:WD):Prop where
 ex:∃jv js,qx w T rb B g L s2 R jv js wx/\js.map (λj=>j.2.pl)=X/\js.length<=n
 exp:wx.heap[g2]?=O (J c2 33 (0,0))
def A1k {x:ay} {w:WD} (k:x.ok w) (d:El x.pl=true):CS prog 128 #[x.val] w λe w'=>∃g xs c,e=Y (V (O ⟨g,0,I⟩) x.pl.array.toNat x.pl.array.toNat)/\xs.length=x.pl.array.toNat/\w'.heap[g]?=O (J c 33 (0,0))/\Sx c x.pl.array.toNat xs/\(∀(j:Nat) (y:ay),xs[j]?=O y->y.pl=x.single.pl)/\BW w.heap.size w w':=by
 refine(Azr x w k).mono ?_;rintro e w' (⟨h0,_⟩|⟨_,g,xs,rfl,b,a⟩)
 .rw [d]at h0;cases h0
 .have h:Q9 x.pl=x.pl.array.toNat:=Ad d;rw[h]at b a ⊢;obtain⟨c,f,i⟩:=a.row;exact⟨g,xs,c,rfl,b,f,i,λj y l=>(a.one j y l).1,a.low⟩
def A1l {w:WD} {T:Tv} (h:Ao w T) (d:T.js.length<=1000000) (so:Option Addr) (n sc:Nat) (xs:List ay) (j:Kv w so n xs) (f:n<=1000) {R:List (List Int)} (b:Cm T.vs T.js.length (xs.map ay.pl)=(R,0)) :
  CS prog 58 #[K (O ⟨T.tb,0,I⟩),V so n sc] w λe w'=>∃g s2,e=Y (E #[V (O ⟨g,0,I⟩) R.length R.length,Z G 0])/\Dg w' w.heap.size g R.length s2 R/\BW w.heap.size w w':=by
 refine(Aec h h.dt.ok d so n sc xs j f).mono ?_;rw[b];rintro e w' ⟨v,rfl,_,a,c⟩;obtain⟨g,s2,rfl,i⟩:=a rfl;exact⟨g,s2,rfl,i,c⟩
end
section
open Go.RowKit Go.Maps Go.Lib
def Qr (k:Int) (w:WD):CS prog 46 #[Z G k] w λe w'=>e=Y (Q (B6 k))/\w'=w:=by
 by_cases h:k=2\/k=3\/k=4\/k=5\/k=10\/k=11
 .have b:B6 k=true:=by rcases h with rfl|rfl|rfl|rfl|rfl|rfl<;>rfl
  obtain⟨z,a⟩:=Ex (B6 k);rw[<-a]at b ⊢;subst b;clear a;rcases h with rfl|rfl|rfl|rfl|rfl|rfl
  all_goals
   go_enter func46,ntmps46;go_wp2;go_ret;exact⟨rfl,rfl⟩
 .have b:B6 k=false:=by rw[Iu];intro c;apply h;simp[B6,Ek]at c;omega
  obtain⟨z,a⟩:=Ex (B6 k);rw[<-a]at b ⊢;subst b;clear a;have g:(k == (2:Int))=false:=by rw[Br];omega
  have i:(k == (3:Int))=false:=by rw[Br];omega
  have j:(k == (4:Int))=false:=by rw[Br];omega
  have l:(k == (5:Int))=false:=by rw[Br];omega
  have d:(k == (10:Int))=false:=by rw[Br];omega
  have f:(k == (11:Int))=false:=by rw[Br];omega
  go_enter func46,ntmps46;go_wp2;go_ret;exact⟨rfl,rfl⟩
def Bf {e:dm} {f:jd} {fs:List jd} {a:dm} (h:Gp e (f :: fs)=O a):ju e f=true/\Gp (e.set 0 f.1) fs=O a:=by
 unfold Gp at h;split at h
 .rename_i c;exact⟨c,h⟩
 .cases h
def Ams {e:dy} {fs:List jd} (h:Gq e=true) (b:D8 e.n.kind=O fs):∃a,Gp e.n fs=O a/\e.specs.length<=8/\e.specs.all El=true/\U0 e=true:=by
 cases hc:Gp e.n fs with
 | none=>
  rw[Ahj b hc]at h;cases h
 | some a=>
  rw[Ahk b hc]at h;simp at h;exact⟨a,rfl,h.1.1.2,by simpa using h.1.2,h.1.1.1⟩
structure A1n (e:dy):Prop where
 kind:e.n.kind=1\/e.n.kind=2\/e.n.kind=3\/e.n.kind=4\/e.n.kind=5\/e.n.kind=6\/e.n.kind=7\/e.n.kind=8\/e.n.kind=9\/e.n.kind=10\/e.n.kind=11
 len:e.specs.length<=8
 br:(e.n.kind=3\/e.n.kind=4\/e.n.kind=5\/e.n.kind=7)->1<=e.n.br
 node:(e.n.kind=7\/e.n.kind=8\/e.n.kind=9\/e.n.kind=10\/e.n.kind=11)->0<=e.n.node
 bq:e.n.kind=7->1<=e.n.bq/\e.n.bq<=3
 tick:(e.n.kind=6\/e.n.kind=8\/e.n.kind=9)->0<=e.n.tick/\e.n.tick<1099511627776
def Nq {e:dy} (h:Gq e=true):A1n e:=by
 obtain⟨⟨f,o,tick,n,seq,q,attempt,node,p⟩,r⟩:=e
 have t:f=1\/f=2\/f=3\/f=4\/f=5\/f=6\/f=7\/f=8\/f=9\/f=10\/f=11:=by
  by_cases c:f=1\/f=2\/f=3\/f=4\/f=5\/f=6\/f=7\/f=8\/f=9\/f=10\/f=11
  .exact c
  .have m:D8 f=I:=(by unfold D8;rw[Ac ao9,Ac ao9,Ac ao9,Ac ao9,Ac ao9,Ac ao9,Ac ao9]);rw[Ahi m]at h;cases h
 have i:∀ {k:Int} {fs:List jd},f=k->D8 k=O fs->∃l,Gp ⟨f,o,tick,n,seq,q,attempt,node,p⟩ fs=O l/\r.length<=8:=fun {k fs} e m=>by
  obtain⟨l,h1,s,_⟩:=Ams h (fs:=fs) (by rw[<-m,<-e]);exact⟨l,h1,s⟩
 rcases t with rfl|rfl|rfl|rfl|rfl|rfl|rfl|rfl|rfl|rfl|rfl
 .obtain ⟨l,g,j⟩:=i rfl (k:=1) (fs:=[Uu]) rfl;exact⟨as9,j,as9,as9,as9,as9⟩
 .obtain ⟨l,g,j⟩:=i rfl (k:=2) (fs:=[Dq,Dr]) rfl;exact⟨as9,j,as9,as9,as9,as9⟩
 .obtain ⟨l,g,j⟩:=i rfl (k:=3) (fs:=[Dq,Dr,Fu]) rfl;have a:=(Bf (Bf (Bf g).2).2).1;simp[ju,Dq,Dr,Fu,dm.get,dm.set]at a;exact⟨as9,j,λ_=>a.1,as9,as9,as9⟩
 .obtain ⟨l,g,j⟩:=i rfl (k:=4) (fs:=[Dq,Dr,Fu]) rfl;have a:=(Bf (Bf (Bf g).2).2).1;simp[ju,Dq,Dr,Fu,dm.get,dm.set]at a;exact⟨as9,j,λ_=>a.1,as9,as9,as9⟩
 .obtain ⟨l,g,j⟩:=i rfl (k:=5) (fs:=[Dq,Dr,Fu]) rfl;have a:=(Bf (Bf (Bf g).2).2).1;simp[ju,Dq,Dr,Fu,dm.get,dm.set]at a;exact⟨as9,j,λ_=>a.1,as9,as9,as9⟩
 .obtain ⟨l,g,j⟩:=i rfl (k:=6) (fs:=[M5]) rfl;have a:=(Bf g).1;simp[ju,M5,dm.get]at a;exact⟨as9,j,as9,as9,as9,λ_=>⟨a.1,by show tick<_;omega⟩⟩
 .obtain ⟨l,g,j⟩:=i rfl (k:=7) (fs:=[Fu,Uv,F5,Uw]) rfl;have a:=(Bf g).1;have b:=(Bf (Bf (Bf g).2).2).1;have d:=(Bf (Bf (Bf (Bf g).2).2).2).1;simp[ju,Fu,Uv,F5,Uw,dm.get,dm.set]at a b d;exact⟨as9,j,λ_=>a.1,λ_=>b.1,λ_=>d,as9⟩
 .obtain ⟨l,g,j⟩:=i rfl (k:=8) (fs:=[F5,M5]) rfl;have a:=(Bf g).1;have b:=(Bf (Bf g).2).1;simp[ju,F5,M5,dm.get,dm.set]at a b;exact⟨as9,j,as9,λ_=>a.1,as9,λ_=>⟨b.1,by show tick<_;omega⟩⟩
 .obtain ⟨l,g,j⟩:=i rfl (k:=9) (fs:=[F5,M5]) rfl;have a:=(Bf g).1;have b:=(Bf (Bf g).2).1;simp[ju,F5,M5,dm.get,dm.set]at a b;exact⟨as9,j,as9,λ_=>a.1,as9,λ_=>⟨b.1,by show tick<_;omega⟩⟩
 .obtain ⟨l,g,j⟩:=i rfl (k:=10) (fs:=[Dq,Dr,F5]) rfl;have a:=(Bf (Bf (Bf g).2).2).1;simp[ju,Dq,Dr,F5,dm.get,dm.set]at a;exact⟨as9,j,as9,λ_=>a.1,as9,as9⟩
 .obtain ⟨l,g,j⟩:=i rfl (k:=11) (fs:=[Dq,Dr,F5]) rfl;have a:=(Bf (Bf (Bf g).2).2).1;simp[ju,Dq,Dr,F5,dm.get,dm.set]at a;exact⟨as9,j,as9,λ_=>a.1,as9,as9⟩
def A1o (a b c d:Int) (w:WD):(Instr.field 123 (.agg #[Z G a,Z G b,Z G c,Z G d]) 0).run prog w=.ok (Z G a) w:=by kernel_rfl
structure zp (w:WD) (b:Bool) (v:VL) (wx:WD):Prop where
 v:v=Q b
 low:BW w.heap.size w wx
def Amt (vs:List ar) (t:dq) (e:dy) (cs:Int):Int:=
 if B6 e.n.kind=true/\e.n.seq<=cs then 141
 else if e.n.kind=1 then(if e.n.ai<=t.ai then 141 else 0)
 else if e.n.kind=6 then(if e.n.tick<=t.tick then 141 else 0)
 else if e.n.kind=2 then(Cm vs t.ab.length e.specs).2
 else if 8<=e.n.kind/\e.n.kind<=11 then Li t e.n
 else J7 t e.n
def A1p {w:WD} {T:Tv} (x:de) (h:Ao w T) (hj:T.js.length<=1000000) (hx:x.ok w) (o:B6 x.n.kind=true) :
  CS prog 31 #[K (O ⟨T.tb,0,I⟩),x.val] w (Jw w (Ea T.vs T.pl x.pl)):=by
 obtain⟨r,hr⟩:=Ex (Ea T.vs T.pl x.pl);rw[<-hr];have y:=Na.new w x;have t:=Ahl x _ (y.ok hx);by_cases hm:Gq x.pl=true;rotate_left
 .have ao:Gq x.pl=false:=by simpa using hm
  rw[Yl ao]at t;have aN:r=130:=by rw[hr];unfold Ea;rw[Ad ao]
  subst aN;obtain⟨⟨j,ai,tick,ag,seq,br,attempt,node,bq⟩,so,m,sc,dj⟩:=x;replace⟨y,t,hm,ao,hr,h,hx⟩:=H7 y t hm ao hr h hx;go_enter N0,Ny;go_wp2_with fail;refine t.mono ?_;rintro e w1 ⟨rfl,z⟩;have q:=y.below z;replace⟨q,z⟩:=H2 q z;go_wp2;go_ret;exact⟨rfl,q.low⟩
 rw[Ahh hm]at t;obtain⟨hk,aJ,f1,f2,_,_⟩:=Nq hm;have aK:=hx.dj.len;have aG:x.m<=1000:=by have:x.pl.specs.length=x.dj.length:=Ar _;omega
 have ac:∀W,BW w.heap.size w W->CS prog 58 #[K (O ⟨T.tb,0,I⟩),V x.so x.m x.c] W (It (Cm T.vs T.js.length (x.dj.map ay.pl)) W):=λW hW=>Aec (h.low hW) h.dt.ok hj x.so x.m x.c x.dj (hx.dj.low hW) aG;have u:(x.n.kind=8\/x.n.kind=9\/x.n.kind=10\/x.n.kind=11)->∀W,BW w.heap.size w W->CS prog 59 #[K (O ⟨T.tb,0,I⟩),x.val] W (Jw W (Li T.pl x.n)):=λhk W hW=>Alx x (h.low hW) (f2 (.inr hk)) hk;have p:(x.n.kind=3\/x.n.kind=4\/x.n.kind=5\/x.n.kind=7)->∀W,BW w.heap.size w W->CS prog 60 #[K (O ⟨T.tb,0,I⟩),x.val] W (Jw W (J7 T.pl x.n)):=λhk W hW=>Aly x (h.low hW) (f1 hk);have aH:=hx.px 3;obtain⟨⟨cs,ce,cf,aB⟩,aE⟩:∃c,c=Lc T.cls x.n.ag:=⟨_,rfl⟩
 have ad:∀W,Ao W T->(Instr.lookup 108 (.map (O T.mb)) (Z G x.n.ag) false).run prog W=.ok (Js ⟨cs,ce,cf,aB⟩) W:=λW hW=>by
  rw[aE];exact Alq hW.cls aH.1 aH.2
 unfold Js at ad
 have l:r=Amt T.vs T.pl x.pl cs:=by
  rw[hr];unfold Ea;rw[Ac (by rw[hm];simp)]
  have:(Lc T.pl.cls x.pl.n.ag).seq=cs:=by show(Lc T.cls x.n.ag).seq=cs;rw[<-aE]
  rw[this];rfl
 obtain⟨tb,ap⟩:=Ex (T.tb);obtain⟨aO,av⟩:=Ex (T.ai);obtain⟨aP,aA⟩:=Ex (T.tick)
 have an:∀W,Ao W T->W.cell? ⟨tb,0,I⟩=O (Z G aO)/\W.cell? ⟨tb,1,I⟩=O (Z G aP)/\W.cell? ⟨tb,2,I⟩=O (.map (O T.mb)):=λW hW=>by
  rw[ap,av,aA];exact⟨Aa hW.head 0,Aa hW.head 1,Aa hW.head 2⟩
 rw[<-ap];rw[<-ap]at ac u p;have aF:T.pl.ab.length=T.js.length:=by simp[Tv.pl]
 clear hr f1 f2 ap aE aH;obtain⟨⟨j,ai,tick,ag,seq,br,attempt,node,bq⟩,so,m,sc,dj⟩:=x;replace ad:∀W,Ao W T->(Instr.lookup 108 (.map (O T.mb)) (Z G ag) false).run prog W=.ok (.agg #[Z G cs,Z G ce,Z G cf,Z G aB]) W:=ad;replace hk:j=1\/j=2\/j=3\/j=4\/j=5\/j=6\/j=7\/j=8\/j=9\/j=10\/j=11:=hk;replace⟨y,t,hm,h,hx,aJ,aK,aG⟩:=H8 y t hm h hx aJ aK aG;replace⟨ac,u,p,ad,l,an,aF⟩:=H7 ac u p ad l an aF;replace o:B6 j=true:=o
 have aI:=λW=>by
  have:=Qr j W;rw[o]at this;exact this
 obtain⟨b,k⟩:=Ex (decide (seq<=cs));clear av aA;replace⟨aI,hk,o,k⟩:=H4 aI hk o k;go_enter N0,Ny;go_wp2_with fail;refine t.mono ?_;rintro e w1 ⟨rfl,z⟩;have q:=y.below z;have al:=h.low q.low;obtain⟨c0,c1,c2⟩:=an w1 al;obtain⟨e0,e1,e2,e3,e4,e5,e6,e7,e8,e9⟩:=C10 q.box;(try dsimp only at e0 e1 e2 e3 e4 e5 e6 e7 e8 e9);replace⟨q,al,z⟩:=H3 q al z;go_upto_region 6 with fail;have yf:=ad w1.drew (al.low ((Below.refl _ _).drew));have aL:=A1o cs ce cf aB;go_cut [6] (λv wx=>zp w1 b v wx)
 case first=>
  go_region_law (first
   | (go_simp;go_at_call 46;refine(aI _).mono ?_
      rintro e wz ⟨rfl,rfl⟩))
  all_goals
   go_wp2_with fail;go_meet
   case rel=>exact⟨by rw[k.out],by first|exact Below.refl _ _|exact(Below.refl _ _).drew|exact A4 _ _ _⟩
 case rest=>
 obtain⟨rfl,am⟩:=hcut;obtain⟨s,aD⟩:=Ex (wc);rw[<-aD]at am;have f:=q.below am;have aC:=al.low am;rw[<-aD];clear aD c0 c1 c2 yf aL e0 e1 e2 e3 e4 e5 e6 e7 e8 e9;obtain⟨c0,c1,c2⟩:=an s aC;obtain⟨e0,e1,e2,e3,e4,e5,e6,e7,e8,e9⟩:=C10 f.box;(try dsimp only at e0 e1 e2 e3 e4 e5 e6 e7 e8 e9);replace⟨am,f,aC⟩:=H3 am f aC;have aM:=hk.out;rcases aM with rfl|rfl|rfl|rfl|rfl|rfl|rfl|rfl|rfl|rfl|rfl
 .exact absurd o.out ad9
 .cases b with
  | true=>
   have i:=Kk k.symm;have d:=l.trans (Ad ⟨rfl,i⟩);subst d;replace i:=Hh i;go_wp2;go_ret;exact⟨rfl,f.low⟩
  | false=>
   have i:=R9 k.symm;have d:r=(Cm T.vs T.pl.ab.length (dj.map ay.pl)).2:=l.trans ((Ac (λc=>i c.2)).trans ((Ac (by show ¬((2:Int)=1);decide)).trans ((Ac (by show ¬((2:Int)=6);decide)).trans (Ad rfl))));replace⟨d,i⟩:=H2 d i;have a:=ac s f.low;rw[<-aF.out]at a;replace a:=Hh a;go_wp2_with (go_at_call 58;(with_reducible refine(a.out).mono ?_);rintro e w3 ⟨v,rfl,_,_,g⟩;replace g:=Hh g);go_ret;exact⟨by rw[d.out];rfl,f.low.trans (g.mono f.low.size)⟩
 .cases b with
  | true=>
   have i:=Kk k.symm;have d:=l.trans (Ad ⟨rfl,i⟩);subst d;replace i:=Hh i;go_wp2;go_ret;exact⟨rfl,f.low⟩
  | false=>
   have i:=R9 k.symm;have d:r=J7 T.pl ⟨3,ai,tick,ag,seq,br,attempt,node,bq⟩:=l.trans ((Ac (λc=>i c.2)).trans ((Ac (by show ¬((3:Int)=1);decide)).trans ((Ac (by show ¬((3:Int)=6);decide)).trans ((Ac (by show ¬((3:Int)=2);decide)).trans (Ac (by show ¬((8:Int)<=3/\(3:Int)<=11);decide))))));replace⟨d,i⟩:=H2 d i;have a:CS prog 60 #[K (O ⟨tb,0,I⟩),(Value.agg #[Z G 3,Z G ai,Z G tick,Z G ag,Z G seq,Z G br,Z G attempt,Z G node,Z G bq,V so m sc])] s (Jw s r):=(by rw[d.out];exact p.out as9 s f.low);replace a:=Hh a;go_wp2_with (go_at_call 60;(with_reducible refine(a.out).mono ?_);rintro e w3 ⟨rfl,g⟩;replace g:=Hh g);go_ret;exact⟨rfl,f.low.trans (g.mono f.low.size)⟩
 .cases b with
  | true=>
   have i:=Kk k.symm;have d:=l.trans (Ad ⟨rfl,i⟩);subst d;replace i:=Hh i;go_wp2;go_ret;exact⟨rfl,f.low⟩
  | false=>
   have i:=R9 k.symm;have d:r=J7 T.pl ⟨4,ai,tick,ag,seq,br,attempt,node,bq⟩:=l.trans ((Ac (λc=>i c.2)).trans ((Ac (by show ¬((4:Int)=1);decide)).trans ((Ac (by show ¬((4:Int)=6);decide)).trans ((Ac (by show ¬((4:Int)=2);decide)).trans (Ac (by show ¬((8:Int)<=4/\(4:Int)<=11);decide))))));replace⟨d,i⟩:=H2 d i;have a:CS prog 60 #[K (O ⟨tb,0,I⟩),(Value.agg #[Z G 4,Z G ai,Z G tick,Z G ag,Z G seq,Z G br,Z G attempt,Z G node,Z G bq,V so m sc])] s (Jw s r):=(by rw[d.out];exact p.out as9 s f.low);replace a:=Hh a;go_wp2_with (go_at_call 60;(with_reducible refine(a.out).mono ?_);rintro e w3 ⟨rfl,g⟩;replace g:=Hh g);go_ret;exact⟨rfl,f.low.trans (g.mono f.low.size)⟩
 .cases b with
  | true=>
   have i:=Kk k.symm;have d:=l.trans (Ad ⟨rfl,i⟩);subst d;replace i:=Hh i;go_wp2;go_ret;exact⟨rfl,f.low⟩
  | false=>
   have i:=R9 k.symm;have d:r=J7 T.pl ⟨5,ai,tick,ag,seq,br,attempt,node,bq⟩:=l.trans ((Ac (λc=>i c.2)).trans ((Ac (by show ¬((5:Int)=1);decide)).trans ((Ac (by show ¬((5:Int)=6);decide)).trans ((Ac (by show ¬((5:Int)=2);decide)).trans (Ac (by show ¬((8:Int)<=5/\(5:Int)<=11);decide))))));replace⟨d,i⟩:=H2 d i;have a:CS prog 60 #[K (O ⟨tb,0,I⟩),(Value.agg #[Z G 5,Z G ai,Z G tick,Z G ag,Z G seq,Z G br,Z G attempt,Z G node,Z G bq,V so m sc])] s (Jw s r):=(by rw[d.out];exact p.out as9 s f.low);replace a:=Hh a;go_wp2_with (go_at_call 60;(with_reducible refine(a.out).mono ?_);rintro e w3 ⟨rfl,g⟩;replace g:=Hh g);go_ret;exact⟨rfl,f.low.trans (g.mono f.low.size)⟩
 .exact absurd o.out ad9
 .exact absurd o.out ad9
 .exact absurd o.out ad9
 .exact absurd o.out ad9
 .cases b with
  | true=>
   have i:=Kk k.symm;have d:=l.trans (Ad ⟨rfl,i⟩);subst d;replace i:=Hh i;go_wp2;go_ret;exact⟨rfl,f.low⟩
  | false=>
   have i:=R9 k.symm;have d:r=Li T.pl ⟨10,ai,tick,ag,seq,br,attempt,node,bq⟩:=l.trans ((Ac (λc=>i c.2)).trans ((Ac (by show ¬((10:Int)=1);decide)).trans ((Ac (by show ¬((10:Int)=6);decide)).trans ((Ac (by show ¬((10:Int)=2);decide)).trans (Ad (by show((8:Int)<=10/\(10:Int)<=11);decide))))));replace⟨d,i⟩:=H2 d i;have a:CS prog 59 #[K (O ⟨tb,0,I⟩),(Value.agg #[Z G 10,Z G ai,Z G tick,Z G ag,Z G seq,Z G br,Z G attempt,Z G node,Z G bq,V so m sc])] s (Jw s r):=(by rw[d.out];exact u.out as9 s f.low);replace a:=Hh a;go_wp2_with (go_at_call 59;(with_reducible refine(a.out).mono ?_);rintro e w3 ⟨rfl,g⟩;replace g:=Hh g);go_ret;exact⟨rfl,f.low.trans (g.mono f.low.size)⟩
 .cases b with
  | true=>
   have i:=Kk k.symm;have d:=l.trans (Ad ⟨rfl,i⟩);subst d;replace i:=Hh i;go_wp2;go_ret;exact⟨rfl,f.low⟩
  | false=>
   have i:=R9 k.symm;have d:r=Li T.pl ⟨11,ai,tick,ag,seq,br,attempt,node,bq⟩:=l.trans ((Ac (λc=>i c.2)).trans ((Ac (by show ¬((11:Int)=1);decide)).trans ((Ac (by show ¬((11:Int)=6);decide)).trans ((Ac (by show ¬((11:Int)=2);decide)).trans (Ad (by show((8:Int)<=11/\(11:Int)<=11);decide))))));replace⟨d,i⟩:=H2 d i;have a:CS prog 59 #[K (O ⟨tb,0,I⟩),(Value.agg #[Z G 11,Z G ai,Z G tick,Z G ag,Z G seq,Z G br,Z G attempt,Z G node,Z G bq,V so m sc])] s (Jw s r):=(by rw[d.out];exact u.out as9 s f.low);replace a:=Hh a;go_wp2_with (go_at_call 59;(with_reducible refine(a.out).mono ?_);rintro e w3 ⟨rfl,g⟩;replace g:=Hh g);go_ret;exact⟨rfl,f.low.trans (g.mono f.low.size)⟩
def Amu {w:WD} {T:Tv} (x:de) (h:Ao w T) (hj:T.js.length<=1000000) (hx:x.ok w) :
  CS prog 31 #[K (O ⟨T.tb,0,I⟩),x.val] w (Jw w (Ea T.vs T.pl x.pl)):=by
 by_cases aB:B6 x.n.kind=true
 .exact A1p x h hj hx aB
 obtain⟨r,hr⟩:=Ex (Ea T.vs T.pl x.pl);rw[<-hr];have an:=Na.new w x;have am:=Ahl x _ (an.ok hx);by_cases hm:Gq x.pl=true;rotate_left
 .have aF:Gq x.pl=false:=by simpa using hm
  rw[Yl aF]at am;have aP:r=130:=by rw[hr];unfold Ea;rw[Ad aF]
  subst aP;obtain⟨⟨p,ai,tick,ag,seq,br,attempt,node,bq⟩,so,m,sc,dj⟩:=x;replace⟨an,am,hm,aF,hr,h,hx⟩:=H7 an am hm aF hr h hx;go_enter N0,Ny;go_wp2_with fail;refine am.mono ?_;rintro e w1 ⟨rfl,i⟩;have b:=an.below i;replace⟨b,i⟩:=H2 b i;go_wp2;go_ret;exact⟨rfl,b.low⟩
 rw[Ahh hm]at am;obtain⟨hk,aL,f1,f2,_,_⟩:=Nq hm;have aM:=hx.dj.len;have aI:x.m<=1000:=by have:x.pl.specs.length=x.dj.length:=Ar _;omega
 have aE:∀W,BW w.heap.size w W->CS prog 58 #[K (O ⟨T.tb,0,I⟩),V x.so x.m x.c] W (It (Cm T.vs T.js.length (x.dj.map ay.pl)) W):=λW hW=>Aec (h.low hW) h.dt.ok hj x.so x.m x.c x.dj (hx.dj.low hW) aI;have aA:(x.n.kind=8\/x.n.kind=9\/x.n.kind=10\/x.n.kind=11)->∀W,BW w.heap.size w W->CS prog 59 #[K (O ⟨T.tb,0,I⟩),x.val] W (Jw W (Li T.pl x.n)):=λhk W hW=>Alx x (h.low hW) (f2 (.inr hk)) hk;have aC:(x.n.kind=3\/x.n.kind=4\/x.n.kind=5\/x.n.kind=7)->∀W,BW w.heap.size w W->CS prog 60 #[K (O ⟨T.tb,0,I⟩),x.val] W (Jw W (J7 T.pl x.n)):=λhk W hW=>Aly x (h.low hW) (f1 hk);have aJ:=hx.px 3;obtain⟨⟨cs,ce,cf,aK⟩,aH⟩:∃c,c=Lc T.cls x.n.ag:=⟨_,rfl⟩
 have aD:∀W,Ao W T->(Instr.lookup 108 (.map (O T.mb)) (Z G x.n.ag) false).run prog W=.ok (Js ⟨cs,ce,cf,aK⟩) W:=λW hW=>by
  rw[aH];exact Alq hW.cls aJ.1 aJ.2
 unfold Js at aD
 have av:r=Amt T.vs T.pl x.pl cs:=by
  rw[hr];unfold Ea;rw[Ac (by rw[hm];simp)]
  have:(Lc T.pl.cls x.pl.n.ag).seq=cs:=by show(Lc T.cls x.n.ag).seq=cs;rw[<-aH]
  rw[this];rfl
 obtain⟨tb,aG⟩:=Ex (T.tb);obtain⟨aN,ad⟩:=Ex (T.ai);obtain⟨aO,al⟩:=Ex (T.tick)
 have ac:∀W,Ao W T->W.cell? ⟨tb,0,I⟩=O (Z G aN)/\W.cell? ⟨tb,1,I⟩=O (Z G aO)/\W.cell? ⟨tb,2,I⟩=O (.map (O T.mb)):=λW hW=>by
  rw[aG,ad,al];exact⟨Aa hW.head 0,Aa hW.head 1,Aa hW.head 2⟩
 rw[<-aG];rw[<-aG]at aE aA aC;clear hr f1 f2 aG aH aJ;obtain⟨⟨p,ai,tick,ag,seq,br,attempt,node,bq⟩,so,m,sc,dj⟩:=x;replace aD:∀W,Ao W T->(Instr.lookup 108 (.map (O T.mb)) (Z G ag) false).run prog W=.ok (.agg #[Z G cs,Z G ce,Z G cf,Z G aK]) W:=aD;replace hk:p=1\/p=2\/p=3\/p=4\/p=5\/p=6\/p=7\/p=8\/p=9\/p=10\/p=11:=hk;replace⟨an,am,hm,h,hx,aL,aM,aI⟩:=H8 an am hm h hx aL aM aI;replace⟨aE,aA,aC,aD,av,ac⟩:=H6 aE aA aC aD av ac;rcases hk with rfl|rfl|rfl|rfl|rfl|rfl|rfl|rfl|rfl|rfl|rfl
 .have ap:=Hh λW=>by
   have:=Qr 1 W;rw[show B6 1=false from rfl]at this;exact this
  by_cases q:ai<=aN
  .have o:=av.trans ((Ac (by show ¬(B6 1=true/\_);exact λc=>absurd c.1 ad9)).trans ((Ad rfl).trans (Ad (by rw[ad]at q;exact q))));subst o;clear ad al;go_enter N0,Ny;go_wp2_with fail;refine am.mono ?_;rintro e w1 ⟨rfl,i⟩;have b:=an.below i;have f:=h.low b.low;obtain⟨c0,c1,c2⟩:=ac w1 f;obtain⟨t,u,v,y,z,e5,e6,e7,e8,e9⟩:=C10 b.box;(try dsimp only at t u v y z e5 e6 e7 e8 e9);replace⟨b,f,i⟩:=H3 b f i;go_upto_region 6 with fail;go_quiet (first|(go_at_call 46;(with_reducible exact Gg (ap.out _))));rename_i nq;obtain⟨s,k⟩:=Ex (w1.drewN nq);have g:BW w1.heap.size w1 s:=(by rw[k];exact A4 _ w1 nq);have a:=b.below g;have j:=f.low g;rw[<-k];clear k c0 c1 c2;clear t u v y z e5 e6 e7 e8 e9;obtain⟨c0,c1,c2⟩:=ac s j;obtain⟨t,u,v,y,z,e5,e6,e7,e8,e9⟩:=C10 a.box;(try dsimp only at t u v y z e5 e6 e7 e8 e9);have d:=λn=>a.low.trans ((A4 _ s n).mono a.low.size);replace⟨g,a,j,d⟩:=H4 g a j d;go_upto_region 9 with fail;go_quiet (fail);go_wp2;go_ret;exact⟨rfl,d _⟩
  .have o:=av.trans ((Ac (by show ¬(B6 1=true/\_);exact λc=>absurd c.1 ad9)).trans ((Ad rfl).trans (Ac (by rw[ad]at q;exact q))));subst o;clear ad al;go_enter N0,Ny;go_wp2_with fail;refine am.mono ?_;rintro e w1 ⟨rfl,i⟩;have b:=an.below i;have f:=h.low b.low;obtain⟨c0,c1,c2⟩:=ac w1 f;obtain⟨t,u,v,y,z,e5,e6,e7,e8,e9⟩:=C10 b.box;(try dsimp only at t u v y z e5 e6 e7 e8 e9);replace⟨b,f,i⟩:=H3 b f i;go_upto_region 6 with fail;go_quiet (first|(go_at_call 46;(with_reducible exact Gg (ap.out _))));rename_i nq;obtain⟨s,k⟩:=Ex (w1.drewN nq);have g:BW w1.heap.size w1 s:=(by rw[k];exact A4 _ w1 nq);have a:=b.below g;have j:=f.low g;rw[<-k];clear k c0 c1 c2;clear t u v y z e5 e6 e7 e8 e9;obtain⟨c0,c1,c2⟩:=ac s j;obtain⟨t,u,v,y,z,e5,e6,e7,e8,e9⟩:=C10 a.box;(try dsimp only at t u v y z e5 e6 e7 e8 e9);have d:=λn=>a.low.trans ((A4 _ s n).mono a.low.size);replace⟨g,a,j,d⟩:=H4 g a j d;go_upto_region 9 with fail;go_quiet (fail);go_wp2;go_ret;exact⟨rfl,d _⟩
 .exact absurd rfl aB
 .exact absurd rfl aB
 .exact absurd rfl aB
 .exact absurd rfl aB
 .have ap:=Hh λW=>by
   have:=Qr 6 W;rw[show B6 6=false from rfl]at this;exact this
  by_cases q:tick<=aO
  .have o:=av.trans ((Ac (by show ¬(B6 6=true/\_);exact λc=>absurd c.1 ad9)).trans ((Ac (by show ¬((6:Int)=1);decide)).trans ((Ad rfl).trans (Ad (by rw[al]at q;exact q)))));subst o;clear ad al;go_enter N0,Ny;go_wp2_with fail;refine am.mono ?_;rintro e w1 ⟨rfl,i⟩;have b:=an.below i;have f:=h.low b.low;obtain⟨c0,c1,c2⟩:=ac w1 f;obtain⟨t,u,v,y,z,e5,e6,e7,e8,e9⟩:=C10 b.box;(try dsimp only at t u v y z e5 e6 e7 e8 e9);replace⟨b,f,i⟩:=H3 b f i;go_upto_region 6 with fail;go_quiet (first|(go_at_call 46;(with_reducible exact Gg (ap.out _))));rename_i nq;obtain⟨s,k⟩:=Ex (w1.drewN nq);have g:BW w1.heap.size w1 s:=(by rw[k];exact A4 _ w1 nq);have a:=b.below g;have j:=f.low g;rw[<-k];clear k c0 c1 c2;clear t u v y z e5 e6 e7 e8 e9;obtain⟨c0,c1,c2⟩:=ac s j;obtain⟨t,u,v,y,z,e5,e6,e7,e8,e9⟩:=C10 a.box;(try dsimp only at t u v y z e5 e6 e7 e8 e9);have d:=λn=>a.low.trans ((A4 _ s n).mono a.low.size);replace⟨g,a,j,d⟩:=H4 g a j d;go_upto_region 11 with fail;go_quiet (fail);go_wp2;go_ret;exact⟨rfl,d _⟩
  .have o:=av.trans ((Ac (by show ¬(B6 6=true/\_);exact λc=>absurd c.1 ad9)).trans ((Ac (by show ¬((6:Int)=1);decide)).trans ((Ad rfl).trans (Ac (by rw[al]at q;exact q)))));subst o;clear ad al;go_enter N0,Ny;go_wp2_with fail;refine am.mono ?_;rintro e w1 ⟨rfl,i⟩;have b:=an.below i;have f:=h.low b.low;obtain⟨c0,c1,c2⟩:=ac w1 f;obtain⟨t,u,v,y,z,e5,e6,e7,e8,e9⟩:=C10 b.box;(try dsimp only at t u v y z e5 e6 e7 e8 e9);replace⟨b,f,i⟩:=H3 b f i;go_upto_region 6 with fail;go_quiet (first|(go_at_call 46;(with_reducible exact Gg (ap.out _))));rename_i nq;obtain⟨s,k⟩:=Ex (w1.drewN nq);have g:BW w1.heap.size w1 s:=(by rw[k];exact A4 _ w1 nq);have a:=b.below g;have j:=f.low g;rw[<-k];clear k c0 c1 c2;clear t u v y z e5 e6 e7 e8 e9;obtain⟨c0,c1,c2⟩:=ac s j;obtain⟨t,u,v,y,z,e5,e6,e7,e8,e9⟩:=C10 a.box;(try dsimp only at t u v y z e5 e6 e7 e8 e9);have d:=λn=>a.low.trans ((A4 _ s n).mono a.low.size);replace⟨g,a,j,d⟩:=H4 g a j d;go_upto_region 11 with fail;go_quiet (fail);go_wp2;go_ret;exact⟨rfl,d _⟩
 .have ap:=Hh λW=>by
   have:=Qr 7 W;rw[show B6 7=false from rfl]at this;exact this
  have o:r=J7 T.pl ⟨7,ai,tick,ag,seq,br,attempt,node,bq⟩:=av.trans ((Ac (by show ¬(B6 7=true/\_);exact λc=>absurd c.1 ad9)).trans ((Ac (by show ¬((7:Int)=1);decide)).trans ((Ac (by show ¬((7:Int)=6);decide)).trans ((Ac (by show ¬((7:Int)=2);decide)).trans (Ac (by show ¬((8:Int)<=7/\(7:Int)<=11);decide))))));clear ad al;replace o:=Hh o;go_enter N0,Ny;go_wp2_with fail;refine am.mono ?_;rintro e w1 ⟨rfl,i⟩;have b:=an.below i;have f:=h.low b.low;obtain⟨c0,c1,c2⟩:=ac w1 f;obtain⟨t,u,v,y,z,e5,e6,e7,e8,e9⟩:=C10 b.box;(try dsimp only at t u v y z e5 e6 e7 e8 e9);replace⟨b,f,i⟩:=H3 b f i;go_upto_region 6 with fail;go_quiet (first|(go_at_call 46;(with_reducible exact Gg (ap.out _))));rename_i nq;obtain⟨s,k⟩:=Ex (w1.drewN nq);have g:BW w1.heap.size w1 s:=by rw[k];exact A4 _ w1 nq
  have a:=b.below g;have j:=f.low g;rw[<-k];clear k c0 c1 c2;clear t u v y z e5 e6 e7 e8 e9;obtain⟨c0,c1,c2⟩:=ac s j;obtain⟨t,u,v,y,z,e5,e6,e7,e8,e9⟩:=C10 a.box;(try dsimp only at t u v y z e5 e6 e7 e8 e9);have d:=λn=>a.low.trans ((A4 _ s n).mono a.low.size);replace⟨g,a,j,d⟩:=H4 g a j d;have l:CS prog 60 #[K (O ⟨tb,0,I⟩),(Value.agg #[Z G 7,Z G ai,Z G tick,Z G ag,Z G seq,Z G br,Z G attempt,Z G node,Z G bq,V so m sc])] s (Jw s r):=by rw[o.out];exact aC.out as9 s a.low
  replace l:=Hh l;go_wp2_with (go_at_call 60;(with_reducible refine(l.out).mono ?_);rintro e w3 ⟨rfl,ao⟩;replace ao:=Hh ao);go_ret;exact⟨rfl,a.low.trans (ao.mono a.low.size)⟩
 .have ap:=Hh λW=>by
   have:=Qr 8 W;rw[show B6 8=false from rfl]at this;exact this
  have o:r=Li T.pl ⟨8,ai,tick,ag,seq,br,attempt,node,bq⟩:=av.trans ((Ac (by show ¬(B6 8=true/\_);exact λc=>absurd c.1 ad9)).trans ((Ac (by show ¬((8:Int)=1);decide)).trans ((Ac (by show ¬((8:Int)=6);decide)).trans ((Ac (by show ¬((8:Int)=2);decide)).trans (Ad (by show((8:Int)<=8/\(8:Int)<=11);decide))))));clear ad al;replace o:=Hh o;go_enter N0,Ny;go_wp2_with fail;refine am.mono ?_;rintro e w1 ⟨rfl,i⟩;have b:=an.below i;have f:=h.low b.low;obtain⟨c0,c1,c2⟩:=ac w1 f;obtain⟨t,u,v,y,z,e5,e6,e7,e8,e9⟩:=C10 b.box;(try dsimp only at t u v y z e5 e6 e7 e8 e9);replace⟨b,f,i⟩:=H3 b f i;go_upto_region 6 with fail;go_quiet (first|(go_at_call 46;(with_reducible exact Gg (ap.out _))));rename_i nq;obtain⟨s,k⟩:=Ex (w1.drewN nq);have g:BW w1.heap.size w1 s:=by rw[k];exact A4 _ w1 nq
  have a:=b.below g;have j:=f.low g;rw[<-k];clear k c0 c1 c2;clear t u v y z e5 e6 e7 e8 e9;obtain⟨c0,c1,c2⟩:=ac s j;obtain⟨t,u,v,y,z,e5,e6,e7,e8,e9⟩:=C10 a.box;(try dsimp only at t u v y z e5 e6 e7 e8 e9);have d:=λn=>a.low.trans ((A4 _ s n).mono a.low.size);replace⟨g,a,j,d⟩:=H4 g a j d;have l:CS prog 59 #[K (O ⟨tb,0,I⟩),(Value.agg #[Z G 8,Z G ai,Z G tick,Z G ag,Z G seq,Z G br,Z G attempt,Z G node,Z G bq,V so m sc])] s (Jw s r):=by rw[o.out];exact aA.out as9 s a.low
  replace l:=Hh l;go_wp2_with (go_at_call 59;(with_reducible refine(l.out).mono ?_);rintro e w3 ⟨rfl,ao⟩;replace ao:=Hh ao);go_ret;exact⟨rfl,a.low.trans (ao.mono a.low.size)⟩
 .have ap:=Hh λW=>by
   have:=Qr 9 W;rw[show B6 9=false from rfl]at this;exact this
  have o:r=Li T.pl ⟨9,ai,tick,ag,seq,br,attempt,node,bq⟩:=av.trans ((Ac (by show ¬(B6 9=true/\_);exact λc=>absurd c.1 ad9)).trans ((Ac (by show ¬((9:Int)=1);decide)).trans ((Ac (by show ¬((9:Int)=6);decide)).trans ((Ac (by show ¬((9:Int)=2);decide)).trans (Ad (by show((8:Int)<=9/\(9:Int)<=11);decide))))));clear ad al;replace o:=Hh o;go_enter N0,Ny;go_wp2_with fail;refine am.mono ?_;rintro e w1 ⟨rfl,i⟩;have b:=an.below i;have f:=h.low b.low;obtain⟨c0,c1,c2⟩:=ac w1 f;obtain⟨t,u,v,y,z,e5,e6,e7,e8,e9⟩:=C10 b.box;(try dsimp only at t u v y z e5 e6 e7 e8 e9);replace⟨b,f,i⟩:=H3 b f i;go_upto_region 6 with fail;go_quiet (first|(go_at_call 46;(with_reducible exact Gg (ap.out _))));rename_i nq;obtain⟨s,k⟩:=Ex (w1.drewN nq);have g:BW w1.heap.size w1 s:=by rw[k];exact A4 _ w1 nq
  have a:=b.below g;have j:=f.low g;rw[<-k];clear k c0 c1 c2;clear t u v y z e5 e6 e7 e8 e9;obtain⟨c0,c1,c2⟩:=ac s j;obtain⟨t,u,v,y,z,e5,e6,e7,e8,e9⟩:=C10 a.box;(try dsimp only at t u v y z e5 e6 e7 e8 e9);have d:=λn=>a.low.trans ((A4 _ s n).mono a.low.size);replace⟨g,a,j,d⟩:=H4 g a j d;have l:CS prog 59 #[K (O ⟨tb,0,I⟩),(Value.agg #[Z G 9,Z G ai,Z G tick,Z G ag,Z G seq,Z G br,Z G attempt,Z G node,Z G bq,V so m sc])] s (Jw s r):=by rw[o.out];exact aA.out as9 s a.low
  replace l:=Hh l;go_wp2_with (go_at_call 59;(with_reducible refine(l.out).mono ?_);rintro e w3 ⟨rfl,ao⟩;replace ao:=Hh ao);go_ret;exact⟨rfl,a.low.trans (ao.mono a.low.size)⟩
 .exact absurd rfl aB
 .exact absurd rfl aB
variable {w w':WD} {T T':Tv}
def Ao.oz (h:Ao w T) (l:List (Int×Cl)) (a:Mod (λk=>k=T.mb) w w') (o:M3 w' T.mb l):Ao w' { T with cls:=l }:=by
 obtain⟨s,r,d⟩:=h.cls.au
 have b:Mod T.ax w w':=a.mono λk _ e=>by rw[e];exact .inr (.inl rfl)
 have g:∀ {B size n:Nat} {m:TypeId} {v:VL} {xs:List VL},w.ownsRow B m size v n xs->∀k,v.ownBlock=O k->¬k=T.mb:=λq k p e=>by
  subst e;exact Ark q d p
 refine⟨a.au h.head (λe=>h.gh h.head e.symm),o,Bd h.nodes a (g h.nodes),Bd h.ab a (g h.ab),Bd h.az a (g h.az),λj f=>a.au (h.box j f) (λe=>h.gh (h.box j f) e.symm),λj f=>?_,h.one,h.two,h.dt.mod b (λ_ c=>.inl c),h.same⟩;have i:=h.ok j f;exact i.mod b (λ_ _ c=>c) (Bd i.parts a (g i.parts))
def Eb.rj {f:WD} {b:Nat} (p:Eb w T T' w') (h:Ao f T) (h1:f.heap.size<=b) (q:b<w.heap.size) :
  ∀j,j∈T'.js->(0<j.2.sn->∀k o,j.2.so=O ⟨k,o,I⟩->k≠b)/\(0<j.2.gn->∀k o,j.2.go=O ⟨k,o,I⟩->k≠b):=λj m=>by
 obtain⟨g,l⟩:=p.fh j m;refine⟨λh0 k o e n=>?_,λh0 k o e n=>?_⟩
 .obtain ⟨i,d,a,c⟩:=g h0 k o e ao9;have:=Mc (h.ok i d).after.row a c;omega
 .obtain ⟨i,d,a,c⟩:=l h0 k o e ao9;have:=Mc (h.ok i d).ah.row a c;omega
def Aed (w:WD) (T:Tv) (P:dq×Cl×Int) (e:Ending) (w':WD):Prop:=e=Y (E #[Ir P.2.1,Z G P.2.2])/\∃T',Eb w T T' w'/\T'.pl=P.1
def Oi (k:Int):Nat:=if k=1 then 81 else if k=2 then 82 else if k=6 then 83 else if k=7 then 84 else if k=8\/k=9\/k=10\/k=11 then 85 else 86
def Amv (a:Nat) (k:Int) (w:WD) (b:k=1\/k=2\/k=3\/k=4\/k=5\/k=6\/k=7\/k=8\/k=9\/k=10\/k=11) :
  CS prog 45 #[K (O ⟨a,0,I⟩),Z G k] w λe w'=>e=Y (.func (.func (Oi k)) #[K (O ⟨a,0,I⟩)] #[])/\w'=w:=by
 rcases b with rfl|rfl|rfl|rfl|rfl|rfl|rfl|rfl|rfl|rfl|rfl
 all_goals
  go_enter func45,ntmps45;go_wp2;go_ret;exact⟨rfl,rfl⟩
end
section
open Go.RowKit Go.Maps Go.Lib
variable{T b:Tv}{w:WD}
def Eb.r6 {w c:WD} {T d:Tv} (h:Ao w T) (a:Eb w T d c) (n:∀j,j∈d.js->(0<j.2.sn->∀k o,j.2.so=O ⟨k,o,I⟩->k≠w.heap.size+1)/\(0<j.2.gn->∀k o,j.2.go=O ⟨k,o,I⟩->k≠w.heap.size+1)) {m a1 a2:VL} (b:c.heap[w.heap.size+1]?=O (J #[m,a1,a2] 35 (0,0))) (g i l:VL) :
  Eb w T d (((c.setCell ⟨w.heap.size+1,0,I⟩ g).setCell ⟨w.heap.size+1,1,I⟩ i).setCell ⟨w.heap.size+1,2,I⟩ l):=by
 have f:=(((Mod.refl (λk=>k=w.heap.size+1) c).set _ 0 g rfl).set _ 1 i rfl).set _ 2 l rfl;have p:=Ab h.head;exact⟨a.at_.gl b f (by rw[a.tb];omega) ad9 ad9 ad9 ad9 ad9 ad9 n,a.tb,a.fb,a.fm,a.fl,a.vs,a.ax,a.mod.then f (λk q e=>by omega),a.fh⟩
def Eb.low {w w1 d:WD}  (a:Eb w T b w1) (c:BW w1.heap.size w1 d):Eb w T b d:=⟨a.at_.low c,a.tb,a.fb,a.fm,a.fl,a.vs,a.ax,a.mod.low c,a.fh⟩
def Eb.back {w w1 i:WD} {T g:Tv} (a:Eb w1 T g i) (d:BW w.heap.size w w1):Eb w T g i:=
 ⟨a.at_,a.tb,a.fb,a.fm,a.fl,a.vs,λb c=>(a.ax b c).imp id (λe=>A8 d.size e),(Mod.af d).trans a.mod,λj h=>⟨λh0 k o e f=>(a.fh j h).1 h0 k o e (Bq f d.size),λh0 k o e f=>(a.fh j h).2 h0 k o e (Bq f d.size)⟩⟩
def Eb.oz {w w1 d:WD}  (a:Eb w T b w1) (l:List (Int×Cl)) (f:Mod (λk=>k=b.mb) w1 d) (g:M3 d b.mb l):Eb w T { b with cls:=l } d:=
 ⟨a.at_.oz l f g,a.tb,a.fb,a.fm,a.fl,a.vs,a.ax,a.mod.then f (λk h e=>by
  rcases a.ax k (by rw[e];exact .inr (.inl rfl))with c|c
  .exact c
  .omega),a.fh⟩
def Eb.same   (h:Ao w T):Eb w T T w:=⟨h,rfl,rfl,rfl,rfl,rfl,λ_ c=>.inl c,Mod.refl _ _,Je.refl _ _⟩
def A1q   (x:de) (h:Ao w T) (t:x.ok w) (l:T.js.length<=1000000) (p:Ea T.vs T.pl x.pl≠0) :
  CS prog 15 #[K (O ⟨T.tb,0,I⟩),x.val] w (Aed w T (Bi T.vs T.pl x.pl)):=by
 have n:Bi T.vs T.pl x.pl=(T.pl,⟨0,0,0,0⟩,Ea T.vs T.pl x.pl):=by unfold Bi;rw[Ad p]
 rw[n];have a:=tx.new w x;obtain⟨W0,g⟩:=Ex ((w.alloc (J x.cells 40 (0,0))).alloc (J #[Z G 0,Z G 0,Z G 0] 35 (0,0)));rw[<-g]at a;have q:=Amu x (h.low a.low) l (t.low a.low);obtain⟨r,i⟩:=Ex (Ea T.vs T.pl x.pl);rw[<-i]at q p;rw[<-i];have ad:(r != 0)=true:=by simpa using p
 obtain⟨⟨ac,ai,tick,ag,seq,br,attempt,node,bq⟩,so,m,sc,dj⟩:=x;obtain⟨u,y,z,e3,e4,e5,e6,e7,e8,e9⟩:=C10 a.box;(try dsimp only at u y z e3 e4 e5 e6 e7 e8 e9);clear n i p;replace⟨h,t,a,q,l⟩:=H5 h t a q l;go_enter func15,ntmps15;go_upto_region 1 with fail;rw[<-g];clear g;go_upto_region 3 with(go_at_call 31;(with_reducible refine(q.out).mono ?_);rintro e w1 ⟨rfl,f⟩;replace f:=Hh f);clear u y z e3 e4 e5 e6 e7 e8 e9;have b:=Ae f.out a.res (Ab a.res);have d:=a.low.trans (f.mono a.low.size);obtain⟨r0,r1,r2⟩:=C3 b;(try dsimp only at r0 r1 r2);have fr:=Ag b;have s:=((Eb.same h.out).low d).r6 h.out (λj l=>⟨λc k o e=>by have:=Mc (h.ok j l).after.row c e;omega,λc k o e=>by have:=Mc (h.ok j l).ah.row c e;omega⟩) b (Z G 0) (Z G 0) (Z G 0);replace⟨b,d,s⟩:=H3 b d s;go_wp2_with fail;exact Al (v:=E #[Ir ⟨0,0,0,0⟩,Z G r]) (by simp[results,results15,go_sem,r0,r1,r2]) rfl ⟨rfl,T,s.out,rfl⟩
