/- Parts of a proof. No condition. -/
import Derived.Test.YtimlcnhcjndijaaGreatDoorH31
import Derived.Test.YtimlcnhcjndijaaGreatDoorH33
import Derived.Test.YtimlcnhcjndijaaGreatDoorH27
set_option linter.all false
set_option maxRecDepth 100000
set_option maxHeartbeats 12800000
namespace Go.Proofs.YtimlcnhcjndijaaGreatDoor
open Option renaming some->O,none->I
open IntKind renaming i64->G
open Value renaming int->Z,slice->V,tuple->D,string->E,pointer->K,bool->Y
open Ending renaming returned->Q
open Obj renaming cells->J
open Go renaming World->WD,Value->VL,Calls->CS
open Go.RowKit renaming Below->BW
open Go.Proofs.Tryz
section
open Go.RowKit Go.Maps Go.Lib
variable {vs:List ay} {n k:Nat} {j:Jb} {js:List Jb}
def Ayb (d:List V4) (c:Int) (e:List Bool) (f:List Pl.Au) (a:List Pl.Ask):Ok d c e f a=[]\/∃b,Pl.Li d c e f a b/\Ok d c e f a=b.map Pl.Ax.key:=by
 unfold Ok;split
 .rename_i h;exact .inr ⟨h.choose,h.choose_spec,rfl⟩
 .exact .inl rfl
def Y7 (h:F8 vs js) {k:Nat} {j:Jb} (a:js[k]?=O j):Fn js j.id=j:=by
 unfold Fn;rw[(h k j a).id,show((k:Int)+1-1).toNat=k by omega,a];rfl
def Akr (h:F8 vs js):(js.map Jb.id).Nodup:=by
 refine Ot.2 λa b c d e=>?_;rw[As]at c d;rw[List.getElem_map,List.getElem_map,(h a _ (Az c)).id,(h b _ (Az d)).id];omega
def Y8 (_h:F8 vs js) {i:Nat} (h:i<(Bq js).length):∃(k:Nat) (j:Jb),js[k]?=O j/\Jp js j=true/\A4 (Bq js) i=⟨j.id,j.sp.user,j.sp.prio,Kj j⟩:=by
 have g:(Bq js)[i]?=O (Bq js)[i]:=Az _;have c:(Bq js)[i]∈Bq js:=Kv _;unfold Bq at c;obtain⟨j,d,e⟩:=A7.1 c;obtain⟨a,b⟩:=N5.1 d;obtain⟨k,f⟩:=Dk a;refine⟨k,j,f,b,?_⟩;unfold A4;rw[g];exact e.symm
def Ayc (h:F8 vs js) {a:Pl.Ask} (b:a∈Ez vs js):∃(k:Nat) (j:Jb),js[k]?=O j/\Jp js j=true/\a=Fr vs j:=by
 unfold Ez at b;obtain⟨i,d,rfl⟩:=A7.1 b;obtain⟨k,j,c,f,e⟩:=Y8 h (Y6 _ _ _ d);exact⟨k,j,c,f,by rw[e,Y7 h c]⟩
def Ayd (h:F8 vs js):((Ez vs js).map λa=>a.id).Nodup:=by
 unfold Ez;rw[De];refine List.pairwise_map.2 ?_;refine List.Pairwise.imp_of_mem (fun {x y} hx hy hne=>?_) (Aya (Dx vs ByteArray.empty) (Dq js) (Bq js));have b:=Y6 _ _ _ hx;have d:=Y6 _ _ _ hy;obtain⟨p,n,g,_,j⟩:=Y8 h b;obtain⟨q,o,i,_,k⟩:=Y8 h d;show(Fr vs (Fn js (A4 (Bq js) x).id)).id≠(Fr vs (Fn js (A4 (Bq js) y).id)).id;rw[j,k,Y7 h g,Y7 h i];show n.id≠o.id;have f:((Bq js).map dh.id).Nodup:=by unfold Bq;rw[De];exact(Akr h).sublist ((Zq).map Jb.id)
 have l:((Bq js).map dh.id)[x]?=O n.id:=by
  rw[Bm,Az b]
  have:A4 (Bq js) x=(Bq js)[x]:=by unfold A4;rw[Az b];rfl
  rw[<-this,j];rfl
 have m:((Bq js).map dh.id)[y]?=O o.id:=by
  rw[Bm,Az d]
  have:A4 (Bq js) y=(Bq js)[y]:=by unfold A4;rw[Az d];rfl
  rw[<-this,k];rfl
 intro e;rcases Rj hne with c|c
 .exact Fj f l m c e
 .exact Fj f m l c e.symm
def Acz (vs:List ay) (tick:Int) (s:dn) (x:Int×Int×List Int):Prop:=(x.2.1=-1/\x.2.2=[])\/(tick<=x.2.1/\Vb vs s x.2.2/\x.2.1+8+s.wall<=1099511627776)
def Aye {n:List Bool} {zs:List Int} (h:Pl.Np n (Fr vs j) zs):Vb vs j.sp zs:=by
 have e:∀i,i<zs.length->∀d,zs[i]?=O d->Pl.zi zs i=d:=λi f d r=>by
  simp[Pl.zi,List.getD,r]
 refine⟨λx t=>?_,?_,h.len⟩
 .obtain ⟨i,f⟩:=Dk t;have m:=(Ap.1 f).1;have g:=h.vh i m;rw[e i m x f]at g;unfold Pl.Bg Pl.np Pl.No at g;obtain⟨q,s,rfl⟩:=A7.1 g;have:=(N5.1 s).2;unfold Pl.Qw at this;simp at this;exact this.2
 .have k:∀d a,a+d+1<zs.length->Pl.zi zs a<Pl.zi zs (a+d+1):=λd=>by
   induction d with
   | zero=>intro a c;exact h.bj a c
   | succ d ih=>
    intro a c;have h1:=ih a ao9;have o:=h.bj (a+d+1) ao9;exact Int.lt_trans h1 o
  refine Ot.2 λa b c l p=>?_;have:=k (b-a-1) a ao9;rw[show a+(b-a-1)+1=b by omega]at this;rw[e a c _ (Az c),e b l _ (Az l)]at this;exact this
def Aks (h:F8 vs js) (tick:Int) (l:List Bool):((Kn vs tick l js).map Prod.fst).Nodup/\∀x,x∈Kn vs tick l js->∃(k:Nat) (j:Jb),js[k]?=O j/\x.1=(k:Int)+1/\Jp js j=true/\Acz vs tick j.sp x:=by
 unfold Kn;rcases Ayb (vs.map ay.cap) tick l ((Gz js).map Mo) (Ez vs js)with e|⟨b,z,e⟩
 .rw [e];exact⟨List.nodup_nil,λx n=>by simp at n⟩
 .rw [e];have g:=Pl.Aiv z;have q:=g.len
  have r:∀i s,b[i]?=O s->∃a,(Ez vs js)[i]?=O a/\Pl.S1 (vs.map ay.cap) tick l a s:=λi s c=>by
   have hl:=(Ap.1 c).1;have d:(Ez vs js)[i]?=O ((Ez vs js)[i]'(by omega)):=Az _;refine⟨_,d,g.slot (_,s) ?_⟩;refine Ai (i:=i) ?_;rw[List.getElem?_zip_eq_some];exact⟨d,c⟩
  have f:(b.map Pl.Ax.key).map Prod.fst=(Ez vs js).map λa=>a.id:=by
   apply Eg;intro i;simp only[Bm]
   cases c:b[i]? with
   | none=>
    have:(Ez vs js)[i]?=I:=by rw[List.getElem?_eq_none_iff]at c ⊢;omega
    rw[this];rfl
   | some s=>
    obtain⟨a,d,m⟩:=r i s c;rw[d];simp only[J8];exact Ca O m.1
  rw[f];refine⟨Ayd h,λx n=>?_⟩;obtain⟨s,c,rfl⟩:=A7.1 n;obtain⟨i,y⟩:=Dk c;obtain⟨a,d,m⟩:=r i s y;obtain⟨k,j,p,hr,rfl⟩:=Ayc h (Ai d);refine⟨k,j,p,?_,hr,?_⟩
  .show s.id=_;rw[m.1];exact(h k j p).id
  .rcases m.2 with⟨a1,a2⟩|⟨_,t,_,u,_,v⟩
   .exact .inl ⟨a1,a2⟩
   .refine .inr ⟨t,Aye u,?_⟩;obtain⟨_,_,o,_⟩:=Pl.Ph v;have o:s.start+(j.sp.wall+8)<=1099511627776:=o;show s.start+8+j.sp.wall<=_;omega
def Ayf (h:G7 vs n k j) (h1:j.lf.st=1) {tick:Int} (y:0<=tick) {x:Int×Int×List Int} (s:Acz vs tick j.sp x):G7 vs n k (Lc tick x.2.1 x.2.2 j):=by
 obtain⟨id,st,zs⟩:=x;have f:=h.toFb.idle (by rw[h1];rfl);have o:¬di j.lf.st=true:=by rw[h1];decide
 unfold Lc;split
 .rename_i e;have e:st=tick:=e;rcases s with⟨a,_⟩|⟨a,b,c⟩
  .have a:st=-1:=a;omega
  .have b:Vb vs j.sp zs:=b;have c:st+8+j.sp.wall<=1099511627776:=c;obtain⟨u,v⟩:=Awe h.gw h1;have t:=Io h.gd;obtain⟨_,_,_,_,l,_⟩:=Fg t;have l:=(C8.1 l).1;have l:1<=j.sp.nodes:=l;have r:=b.len;have m:di (Ay j.lf 3).1.st=true:=by rw[v];rfl
   have g:zs≠[]:=λe=>by rw[e]at r;simp at r;omega
   have i:j.parts++zs.map (λn=>(n,(0:Int)))≠[]:=(by rw[f];simpa using g);refine⟨⟨h.id,h.gd,h.one,h.jq,h.tg,u,by show -1<=st;omega,λq=>?_,λ_=>⟨b,c⟩,⟨λ_=>i,λ_=>m⟩,λ_=>by show 0<=st;omega,λq=>?_,λq=>?_,λ_=>?_,λp d=>?_⟩,λ_=>?_⟩
   .have q:st<0:=q;omega
   .have q:(Ay j.lf 3).1.st=2:=q;omega
   .have q:5<=(Ay j.lf 3).1.st:=q;omega
   .show (j.parts++zs.map λn=>(n,(0:Int))).map Prod.fst=zs;rw[f];simp[Ia]
   .have d:p∈j.parts++zs.map (λn=>(n,(0:Int))):=d;rw[f]at d;simp at d;obtain⟨a,_,rfl⟩:=d;simp
   .show (j.parts++zs.map λn=>(n,(0:Int))).any (λp=>decide (p.2=0))=true;rw[f]
    cases zs with
    | nil=>exact absurd rfl g
    | cons z zs=>simp
 .rcases s with⟨a,b⟩|⟨a,b,c⟩
  .have a:st=-1:=a;have b:zs=[]:=b;subst a b;exact Vc h.toFb h.gw (.inl h1) j.parts f
  .have a:tick<=st:=a;have b:Vb vs j.sp zs:=b;have c:st+8+j.sp.wall<=1099511627776:=c;refine⟨⟨h.id,h.gd,h.one,h.jq,h.tg,h.gw,by show -1<=st;omega,λq=>?_,λ_=>⟨b,c⟩,h.live,λq=>absurd q o,λq=>?_,λq=>?_,λq=>absurd f q,h.sk⟩,h.yl⟩
   .have q:st<0:=q;omega
   .have q:j.lf.st=2:=q;omega
   .have q:5<=j.lf.st:=q;omega
def Akt {tick:Int} (m:0<=tick):∀(l:List (Int×Int×List Int)) (js:List Jb),(l.map Prod.fst).Nodup->(∀x,x∈l->∃(k:Nat) (j:Jb),js[k]?=O j/\x.1=(k:Int)+1/\j.lf.st=1/\Acz vs tick j.sp x)->Dn vs js->Dn vs (Jc tick l js)
 | [],_,_,_,h=>h
 | x :: l,js,hn,hx,h=>by
  obtain⟨k,j,i,e,h1,q⟩:=hx x Ef;have b:=List.nodup_cons.1 hn;have p:(x.1-1).toNat=k:=ao9
  show Dn vs (Jc tick l (Fo js x.1 (Lc tick x.2.1 x.2.2)));unfold Fo;rw[p];refine Akt m l _ b.2 (λy n=>?_) (h.mod λd a=>?_)
  .obtain ⟨o,d,a,e',f,g⟩:=hx y (Dj _ n);refine⟨o,d,?_,e',f,g⟩;rw[Fc,a];show O (if k=o then _ else d)=O d;rw[Ab];intro c;apply b.1
   have:x.1=y.1:=ao9
   rw[this];exact It n
  .rw [i]at a;injection a with a;subst a;exact Ayf (h k j i) h1 m q
def Ayg (h:G7 vs n k j):G7 vs n k (Ii j):=by
 unfold Ii;split
 .rename_i e;exact Vc h.toFb h.gw (.inl e) j.parts (h.toFb.idle (by rw[e];rfl))
 .exact h
def Ayh (h:Dn vs js) {tick:Int} (i:0<=tick) (f:List Bool):Dn vs (Q3 vs tick f js):=by
 obtain⟨a,b⟩:=Aks h.b tick f;unfold Q3;refine Akt i _ _ a (λx l=>?_) (λk j c=>?_)
 .obtain ⟨k,j,c,e,d,g⟩:=b x l;have h1:j.lf.st=1:=by unfold Jp at d;simp at d;exact d.1
  refine⟨k,Ii j,by rw[Bm,c];rfl,e,?_,?_⟩
  .unfold Ii;rw[Ad h1];exact h1
  .unfold Ii;rw[Ad h1];exact g
 .rw [As];rw[Bm]at c;obtain⟨y,m,rfl⟩:=Ou.1 c;exact Ayg (h k y m)
end
section
open Go.RowKit Go.Maps Go.Lib
def Aku (az:List V4) (now:Int) (bs:List Bool) (hs:List Pl.Au) (asks:List Pl.Ask):Prop:=(∃r,r≠0/\Pl.Je az bs.length now hs r [])\/∃slots,Pl.Li az now bs hs asks slots
def Ayi (az:List V4) (now:Int) (bs:List Bool) (hs:List Pl.Au) (asks:List Pl.Ask) (w:WD) (e:Ending) (w':WD):Prop:=
 ∃so n sc r slots,e=Q (D #[V so n sc,Z G r])/\n=slots.length/\slots.map Pl.Ax.key=Ok az now bs (hs.map Pl.Au.er) (asks.map Pl.Ask.er)/\Pl.Ut w' so n slots/\(∀s,s∈slots->∀b off,s.go=O ⟨b,off,I⟩->w.heap.size<=b)/\BW w.heap.size w w'/\(∀b off,so=O ⟨b,off,I⟩->w.heap.size<=b)/\Aku az now bs (hs.map Pl.Au.er) (asks.map Pl.Ask.er)
def Ayj {l:List V4} {c:Int} {m:List Bool} {f:List Pl.Au} {a:List Pl.Ask} {w w':WD} {e:Ending} (h:Pl.Aih l c m f a w e w'):Ayi l c m f a w e w':=by
 obtain⟨n,⟨r,o,rfl,d⟩|⟨so,sc,b,rfl,g,j,_,k,p⟩⟩:=h
 .refine ⟨I,0,0,r,[],rfl,rfl,(Au6 (a.map Pl.Ask.er) d o).symm,⟨rfl,ao9,λi x q=>by simp at q⟩,λs f=>by simp at f,n,λ_ _ e=>(by cases e),.inl ⟨r,o,Pl.Ab8 d⟩⟩
 .have d:=(Pl.Aiv g).len;exact⟨so,a.length,sc,0,b,rfl,d.symm,(Ai4 g).symm,j,p,n,k,.inr ⟨_,Pl.Ai3 g⟩⟩
structure qx (w:WD) (av:VL) (al:List Pl.Ask) (wr:WD):Prop where
 low:BW w.heap.size w wr
 mz:Be Pl.Ask.cells 10 266 wr w.heap.size av al
 sk:∀a,a∈al->Aj wr w.heap.size (V a.po a.pn a.pc) a.gl
 rk:∀a,a∈al->Pl.Ao w a.go a.gn a.eh/\a.gn<=a.gc
variable {w wr w1 w2:WD} {av:VL} {al:List Pl.Ask}
def qx.drop (h:qx w av al wr) (a:BW wr.heap.size wr w1):qx w av al w1:=
 ⟨h.low.trans (a.mono h.low.size),h.mz.low a,λx b=>(h.sk x b).mod (Mod.ag (S:=λ_=>False) a) (λ_ _ c=>c),h.rk⟩
def qx.add (h:qx w av al wr) (j:BW wr.heap.size wr w1) (i:w1.grownBy w2 av.ownBlock) {b:VL} {x:Pl.Ask} (n:Be Pl.Ask.cells 10 266 w2 w.heap.size b (al++[x])) (o:Aj w1 w.heap.size (V x.po x.pn x.pc) x.gl) (g:Pl.Ao w x.go x.gn x.eh/\x.gn<=x.gc):qx w b (al++[x]) w2:=by
 have h1:=h.drop j;have m:=Mod.grown (S:=λk=>av.ownBlock=O k) i (λk d=>d);refine⟨h1.low.grown i h1.low.size (λk d=>(h1.mz.lt k d).1),n,λy a=>?_,λy a=>?_⟩
 .have f:Aj w1 w.heap.size (V y.po y.pn y.pc) y.gl:=by
   rcases C7.1 a with a|a
   .exact h1.sk y a
   .rw [Gc.1 a];exact o
  refine f.mod m (λk d e=>?_);obtain⟨c,l⟩:=h1.mz.ar e;exact Bx f.row l ad9 d
 .rcases C7.1 a with a|a
  .exact h.rk y a
  .rw [Gc.1 a];exact g
end
section
open Go.RowKit Go.Maps Go.Lib
def Ayv:(prog.info? 275).map (λi=>(i.zero,i.size,i.bytes))=O (O (.agg #[Z G 0,E ByteArray.empty,Z G 0,Z G 0,Z G 0,Z G 0,Z G 0]),7,64):=by kernel_rfl
def Ayw:(prog.info? 266).map (λi=>(i.zero,i.size,i.bytes))=O (O (.agg #[Z G 0,V I 0 0,Z G 0,Z G 0,Z G 0,Z G 0,Z G 0,Z G 0,Z G 0,V I 0 0]),10,112):=by kernel_rfl
def Lo (js:List Jb) (k:Nat):List dh:=((js.take k).filter λj=>Jp js j).map λj=>⟨j.id,j.sp.user,j.sp.prio,Kj j⟩
def Ayx {js:List Jb} {k:Nat} {j:Jb} (h:js[k]?=O j):Lo js (k+1)=Lo js k++if Jp js j=true then[⟨j.id,j.sp.user,j.sp.prio,Kj j⟩]else[]:=by
 unfold Lo;rw[Lw h,Ow,Dw];congr 1
 by_cases q:Jp js j=true<;>simp[q]
def Ac0 {js:List Jb} {k:Nat} (h:js.length<=k):Lo js k=Bq js:=by
 unfold Lo Bq;rw[Dd h]
def Ac1 (js:List Jb) (k:Nat):(Lo js k).length<=k:=by
 unfold Lo;rw[As];exact Aw (N0 _ _) (Px _ _)
structure ri (w:WD) (ws:List dh) (wv:VL) (wr:WD):Prop where
 low:BW w.heap.size w wr
 row:Be Q4 7 275 wr w.heap.size wv ws
structure zu (w:WD) (ws:List dh) (v:VL) (wx:WD):Prop where
 ex:∃so n c,v=V so n c
 at_:ri w ws v wx
variable {w wr w1 w2:WD} {ws:List dh} {wv:VL}
def ri.drop (h:ri w ws wv wr) (a:BW wr.heap.size wr w1):ri w ws wv w1:=⟨h.low.trans (a.mono h.low.size),h.row.low a⟩
def ri.add (h:ri w ws wv wr) (b:BW wr.heap.size wr w1) (c:w1.grownBy w2 wv.ownBlock) {a:VL} {y:dh} (e:Be Q4 7 275 w2 w.heap.size a (ws++[y])):ri w (ws++[y]) a w2:=by
 have h1:=h.drop b;exact⟨h1.low.grown c h1.low.size (λk d=>(h1.row.lt k d).1),e⟩
def Ac2 (vs:List ay) (w:WD) (pls:List Jb) (e:Ending) (w':WD):Prop:=
 ∃ao n ac al,e=Q (V ao n ac)/\n=al.length/\Pl.Yi w' ao n al/\al.map Pl.Ask.er=Ez vs pls/\BW w.heap.size w w'
def Ayy {vs:List ay} {js:List Jb} (h:F8 vs js):Uz (Bq js):=λi j x y f g e=>by
 have a:((Bq js).map dh.id).Nodup:=by unfold Bq;rw[De];exact(Akr h).sublist ((Zq).map Jb.id)
 have b:((Bq js).map dh.id)[i]?=O x.id:=by rw[Bm,f];rfl
 have d:((Bq js).map dh.id)[j]?=O y.id:=by rw[Bm,g];rfl
 rcases Nat.lt_trichotomy i j with c|c|c
 .exact absurd e (Fj a b d c)
 .exact c
 .exact absurd e.symm (Fj a d b c)
def Ayz {vs:List ay} (k:Kd vs):Oo (Dx vs ByteArray.empty):=λd m=>by
 have n:=k.len;have h:=Akz (vs:=vs) ByteArray.empty (λv l=>Ua (k.all v l).ok.cap);obtain⟨a,b,c,e,f,g,i,j⟩:=h
 rcases(show d=0\/d=1\/d=2\/d=3 by omega)with rfl|rfl|rfl|rfl<;>simp[V4.get]<;>omega
def Ak4 {w:WD} {T:Tv} (h:Al w T):(∀x,x∈Bq T.pl.ab->x.user.size<=maxLen)/\∀x,x∈Dq T.pl.ab->x.user.size<=maxLen:=by
 have b:∀j,j∈T.pl.ab->j.sp.user.size<=maxLen:=λj a=>by
  obtain⟨y,d,rfl⟩:=A7.1 a;exact(h.ok y d).user
 refine⟨λx c=>?_,λx c=>?_⟩
 .obtain ⟨j,a,rfl⟩:=A7.1 c;exact b j (N5.1 a).1
 .obtain ⟨j,a,rfl⟩:=A7.1 c;exact b j (N5.1 a).1
def qx.post {vs:List ay} {d:List Jb} {f:Option Addr} {n c:Nat} {b:List Pl.Ask} {k:WD} (h:qx w (V f n c) b wr) (q:b.map Pl.Ask.er=Ez vs d) (u:b.length<=1000) (h0:BW k.heap.size k w):Ac2 vs k d (Q (V f n c)) wr:=by
 obtain⟨_,_,_,g,l,_⟩:=h.mz.len;injection g with a1 a2 a3;have j:n=b.length:=ao9
 subst j;refine⟨f,_,c,b,rfl,rfl,Be.rows (cells:=Pl.Ask.cells) (sz:=10) (ok:=λw a=>Pl.Ask.ok w a) (λ_=>rfl) h.mz ao9 (λx m=>?_),q,h0.trans (h.low.mono h0.size)⟩;obtain⟨s,v,t,e,i,r,_⟩:=Ob (h.sk x m);injection e with g l e3;subst g l e3;obtain⟨o,p⟩:=h.rk x m;exact⟨r.pl,i,o.below h.low Ln,p⟩
end
section
open Go.RowKit Go.Maps Go.Lib
def Ay0 {w:WD} {T:Tv} (h:Al w T) (hA:F8 T.vs T.pl.ab) (cg:T.js.length<=20) (uo:Option Addr) (un uc:Nat) (hu:Pp w uo un (Dq T.pl.ab)) :
  CS prog 137 #[K (O ⟨T.tb,0,I⟩),V uo un uc] w (Ac2 T.vs w T.pl.ab):=by
 obtain⟨iW,bZ,ca,bi,bk⟩:=B6 Ayv;obtain⟨iA,bY,b9,bf,bg⟩:=B6 Ayw;obtain⟨so,cap,a5,b1,ch,ak⟩:=h.mr;have c4:=Bk h.head 4 T.jv rfl;have c5:=Bk h.head 5 (K (O ⟨T.fb,0,I⟩)) rfl;have aX:=Ac h.head;rw[a5]at c4;obtain⟨m,hm⟩:=Ex (T.js.length);obtain⟨tb,ht⟩:=Ex (T.tb);rw[<-hm]at c4 b1 ch cg;rw[<-ht]at c4 c5 aX;rw[<-ht];have aW:T.pl.ab.length=m:=by rw[hm];simp[Tv.pl]
 have bR:ri w (Lo T.pl.ab 0) (V I 0 0) w:=⟨Below.refl _ _,Be.nil _ _ _ _ _⟩;replace⟨h,hA,a5,b1,ak,ht,hm,aW⟩:=H8 h hA a5 b1 ak ht hm aW;replace⟨bR,bZ,ca,bi,bk,bY,b9,bf⟩:=H8 bR bZ ca bi bk bY b9 bf;replace⟨bg,hu,aX⟩:=H3 bg hu aX;go_enter func137,ntmps137;go_wp2_with fail;go_loopw [5,7,18] (λwv _ iv wr=>∃(k:Nat),iv=Z G k/\k<=m/\Hid (ri w (Lo T.pl.ab k) wv wr)) (λ_ _ iv _=>m-(intOf iv).toNat)
 case atStart=>exact⟨0,rfl,Ar _,bR⟩
 case round=>
  obtain⟨k,rfl,cA,hW⟩:=hrel;obtain⟨co,wn,cn,rfl,aE,_⟩:=hW.row.len;by_cases cD:k<m
  .have cs:(k:Int)<m:=ao9;have cy:(0:Int)<=(k:Int):=ao9;obtain⟨j,hj⟩:=Ge T.js k (by have:=hm.out;omega);obtain⟨g,rfl,aV⟩:=ak k j hj;have aL:=(h.ab.lt g (by rw[a5.out];rfl)).2;have cj:=(Af hW.low aL).trans aV;have an:=Ai hj;have bG:T.pl.ab[k]?=O j.2.pl:=by simp[Tv.pl,hj]
   have a9:∀W,BW w.heap.size w W->CS prog 189 #[K (O ⟨tb,0,I⟩),K (O ⟨j.1,0,I⟩)] W λe w'=>e=Q (Y (Jp T.pl.ab j.2.pl))/\BW W.heap.size W w':=λW hW=>by
    rw[ht.out];refine Ayk (h.low hW) hj λid cv=>?_;have:=(hA k _ bG).jq id cv;have:=aW.out;have:=hm.out;omega
   have aA:=Ayx bG;obtain⟨s,x⟩:=j;have am:∀W,BW w.heap.size w W->Ba W s x:=λW hW=>Ae hW (h.box _ an) (Ac (h.box _ an));have b4:∀W,BW w.heap.size w W->Nb W T.bh x:=λW hW=>(h.low hW).ok _ an;obtain⟨q,hq⟩:=Ex (Jp T.pl.ab x.pl);simp only at a9 aA;rw[<-hq]at aA;simp only[<-hq]at a9;have aR:=a9 _ hW.low;replace⟨hj,aV,aL,an,bG,a9,aR,aA⟩:=H8 hj aV aL an bG a9 aR aA;replace⟨am,b4,hq,aE⟩:=H4 am b4 hq aE;go_upto_block 1 with fail;go_cut [5,7] (λv _ wx=>zu w (Lo T.pl.ab (k+1)) v wx)
   case first=>
    cases q with
    | false=>
     have af:=aA.out;simp at af;replace af:=Hh af;go_wp2_with (go_at_call 189;(with_reducible refine(aR.out).mono ?_);rintro e w1 ⟨rfl,aI⟩;replace aI:=Hh aI);go_meet
     case rel=>exact⟨⟨_,_,_,rfl⟩,by rw[af.out];exact hW.drop aI.out⟩
    | true=>
     go_upto_region 6 with(go_at_call 189;(with_reducible refine(aR.out).mono ?_);rintro e w1 ⟨rfl,aI⟩;replace aI:=Hh aI);have ap:=hW.drop aI.out
     have kn:∀W,BW w1.heap.size w1 W->CS prog 184 #[K (O ⟨s,0,I⟩)] W λe w'=>e=Q (Kj x.pl).val/\BW w1.heap.size w1 w':=λW aF=>by
      have hl:=ap.low.trans (aF.mono ap.low.size);refine(Ajp (am _ hl) (b4 _ hl)).mono ?_;rintro e w' ⟨h1,h2⟩;exact⟨h1,aF.trans (h2.mono aF.size)⟩
     obtain⟨⟨n0,n1,n2,n3⟩,aD⟩:∃v,v=Kj x.pl:=⟨_,rfl⟩;rw[<-aD]at kn;obtain⟨us,aU⟩:=Ex (x.pl.sp.user);obtain⟨aN,aP⟩:=Ex (x.pl.id);obtain⟨pr,bH⟩:=Ex (x.pl.sp.prio)
     have a7:∀u∈([Z G aN,E us,Z G pr,Z G n0,Z G n1,Z G n2,Z G n3]:List VL),u.oneCell'=true:=by intro u hu;simp at hu;rcases hu with rfl|rfl|rfl|rfl|rfl|rfl|rfl<;>rfl
     have be:wn<=20:=(by have:=aE.out;have:=Ac1 T.pl.ab k;omega);have aH:=Gh (n:=wn) ao9;have aJ:(wn+1)*64<=140737488355328:=ao9;have af:Lo T.pl.ab (k+1)=Lo T.pl.ab k++[⟨aN,us,pr,⟨n0,n1,n2,n3⟩⟩]:=(by have:=aA.out;simp at this;rw[this,aU,aD,aP,bH]);replace⟨ap,kn,aD,aU,aP,bH,a7,be⟩:=H8 ap kn aD aU aP bH a7 be;replace⟨aH,aJ,af⟩:=H3 aH aJ af;clear cj
     have ad:∀p:WD,BW w.heap.size w p->p.cell? ⟨s,0,I⟩=O (Z G aN)/\p.cell? ⟨s,1,I⟩=O (E us)/\p.cell? ⟨s,9,I⟩=O (Z G pr):=λp bv=>by
      have hx:=am _ bv;rw[aP.out,aU.out,bH.out];exact⟨Aa hx 0,Aa hx 1,Aa hx 9⟩
     have l:=ap.low.drew;have f:BW w1.heap.size w1 w1.drew:=(Below.refl _ _).drew;replace⟨ad,l,f⟩:=H3 ad l f;go_region_held3 (λp=>p.cell? ⟨s,0,I⟩=O (Z G aN)/\p.cell? ⟨s,1,I⟩=O (E us)/\p.cell? ⟨s,9,I⟩=O (Z G pr))
      (first
        | with_reducible exact ad.out _ l.out
        | exact ad.out _ (l.alloc l.size _)
        | exact ad.out _ (l.alloc l.size _).drew
        | exact ad.out _ l.drew)
      (first
        | (go_at_call 184
           (with_reducible refine(kn.out _ f.out).mono ?_)
           rintro e w2 ⟨rfl,bV⟩;replace l:=Hh (ap.low.trans (bV.mono ap.low.size));replace f:=Hh bV
           clear bV)
        | (refine T5 (by rfl) _ _ _ (by rfl) w.heap.size 275 iW _ 7 64 underlying273 bZ.out ca.out bi.out bk.out rfl (Iw _) (V co wn cn) wn _ (by rfl) (((ap.drop (f.alloc f.size _)).row).at_ aE.symm) ⟨w2.heap.size,0,I⟩ 1 [Z G aN,E us,Z G pr,Z G n0,Z G n1,Z G n2,Z G n3] (by rfl) (by rfl) (Ach w2 #[Z G aN,E us,Z G pr,Z G n0,Z G n1,Z G n2,Z G n3] 275) a7.out aH.out aJ.out (Aw ap.low.size (f.alloc f.size _).size) ?_;intro g9 cb w9 ao ac;have bw:=ap.add (y:=⟨aN,us,pr,⟨n0,n1,n2,n3⟩⟩) (f.alloc f.size _) ac (Be.snoc (cells:=Q4) ao aE.symm);replace l:=Hh bw.low;replace bw:=Hh bw
           clear ao ac))
     all_goals
      go_wp2_with fail;go_meet
      case rel=>exact⟨⟨_,_,_,rfl⟩,by rw[af.out];exact bw.out⟩
   case rest=>
   obtain⟨⟨cP,vn,vc,rfl⟩,z⟩:=hcut;replace z:=Hh z;clear cj;go_wp2_with fail;go_roundw
   case rel=>exact⟨k+1,by go_num,ao9,z⟩
   case measure=>simp[intOf];omega
  .have cs:¬(k:Int)<m:=ao9;have z:=hW.out;rw[Ac0 (by have:=aW.out;omega)]at z;have aA:=Be.yq z.row (by have:=Ac1 T.pl.ab T.pl.ab.length;rw[Ac0 Ln]at this;have:=aW.out;omega);have b8:wn=(Bq T.pl.ab).length:=(by have:=aE;rw[Ac0 (by have:=aW.out;omega)]at this;exact this);have ck:wn<=20:=(by have:=aE;have:=Ac1 T.pl.ab k;omega);have bl:∀W,BW w.heap.size w W->CS prog 191 #[K (O ⟨T.fb,0,I⟩),E ByteArray.empty] W (Aao T.vs ByteArray.empty W):=λW aF=>Ayu (h.low aF).dp.xw h.dp.ok _;have bK:CS prog 191 #[K (O ⟨T.fb,0,I⟩),.string { data:=#[] }] wr λe w'=>e=Q (Dx T.vs ByteArray.empty).val/\BW wr.heap.size wr w':=bl _ z.low
   have bn:∀W,BW wr.heap.size wr W->CS prog 190 #[(Dx T.vs ByteArray.empty).val,V uo un uc,V co wn cn] W λe w'=>∃v,e=Q v/\Aj w' W.heap.size v (Cz (K8 (Dx T.vs ByteArray.empty) (Dq T.pl.ab) (Bq T.pl.ab)))/\BW W.heap.size W w':=λW aF=>
    Ayq _ (Ayz h.dp.ok) uo un uc _ _ (hu.low (z.low.trans (aF.mono z.low.size))) (aA.low aF) ck (Ak4 h.out).1 (Ak4 h.out).2 (Ayy hA.out)
   obtain⟨Lt,a0⟩:=Ex (K8 (Dx T.vs ByteArray.empty) (Dq T.pl.ab) (Bq T.pl.ab));have b2:∀i,i∈Lt->i<(Bq T.pl.ab).length:=λi hi=>Y6 _ _ _ (by rw[<-a0];exact hi)
   have a2:Ez T.vs T.pl.ab=Lt.map λi=>Fr T.vs (Fn T.pl.ab (A4 (Bq T.pl.ab) i).id):=by rw[a0];rfl
   have aZ:Lt.length<=20:=(by have:=(Y5 (Dx T.vs ByteArray.empty) (Dq T.pl.ab) (Bq T.pl.ab)).length_eq;rw[<-a0,Zw]at this;omega);rw[<-a0]at bn;obtain⟨tv,b5⟩:=Ex (Dx T.vs ByteArray.empty);rw[<-b5]at bK bn;have cp:=(Af z.low aX.out).trans c5;clear a0;replace⟨hW,z,aA,b8,bl,bK,bn,b5⟩:=H8 hW z aA b8 bl bK bn b5;replace⟨aE,b2,a2,aZ⟩:=H4 aE b2 a2 aZ;go_wp2_with (first|(go_at_call 191;(with_reducible refine(bK.out).mono ?_);rintro e w3 ⟨rfl,a3⟩;replace a3:=Hh a3)|(go_at_call 190;(with_reducible refine(bn.out _ a3.out).mono ?_);rintro e w4 ⟨v4,rfl,b3,bx⟩;obtain⟨cO,tn,tc,rfl,ci,bI,_⟩:=Ob b3;replace⟨b3,bx,ci,bI⟩:=H4 b3 bx ci bI));clear cp;have aC:=z.low.trans (a3.mono z.low.size);have r:=aC.trans (bx.mono aC.size);have bS:=(z.drop a3.out).drop bx.out;have aT:tn=Lt.length:=(by have:=bI.len;simp[Cz]at this;omega);have bQ:qx w4 (V I 0 0) [] w4:=⟨Below.refl _ _,Be.nil _ _ _ _ _,λx hx=>by simp at hx,λx hx=>by simp at hx⟩;have bP:([]:List Pl.Ask).map Pl.Ask.er=(Lt.take 0).map λi=>Fr T.vs (Fn T.pl.ab (A4 (Bq T.pl.ab) i).id):=rfl;have cK:tn<=20:=(by have:=aZ.out;omega);replace⟨aC,r,bS,aT,bQ,bP⟩:=H6 aC r bS aT bQ bP;go_loopw [8,10,11,55] (λav _ _ iv wr=>∃(i:Nat) (al:List Pl.Ask),iv=Z G i/\i<=tn/\Hid (qx w4 av al wr)/\Hid (al.map Pl.Ask.er=(Lt.take i).map λi=>Fr T.vs (Fn T.pl.ab (A4 (Bq T.pl.ab) i).id))) (λ_ _ _ iv _=>tn-(intOf iv).toNat)
   case atStart=>exact⟨0,[],rfl,Ar _,bQ,bP⟩
   case round=>
    obtain⟨i,al,rfl,cG,hK,hE⟩:=hrel;obtain⟨cm,aY,kc,rfl,aM,_⟩:=hK.mz.len;by_cases cE:i<tn
    .have ce:(i:Int)<tn:=ao9;have cF:(0:Int)<=(i:Int):=ao9;obtain⟨t,bb⟩:=Ge Lt i (by have:=aT.out;omega);have bd:=b2 t (Ai bb);obtain⟨cN,cB,rfl,bc,cc⟩:=bI.cell i (t:Int) (by simp[Cz,bb]);have ct:=(Af hK.low bc).trans cc;obtain⟨kk,j0,a4,bO,b6⟩:=Y8 hA.out bd;have b0:=Y7 hA.out a4;have bB:=hA kk j0 a4;obtain⟨jx,a6,cx⟩:∃jx,T.js[kk]?=O jx/\jx.2.pl=j0:=(by have:(T.js.map λj=>j.2.pl)[kk]?=O j0:=a4;rw[Bm]at this;obtain⟨y,hy,e⟩:=Ou.1 this;exact⟨y,hy,e⟩);subst cx;obtain⟨s,x⟩:=jx;have an:=Ai a6;have cf:kk<m:=(by have:=(Ap.1 a6).1;have:=hm.out;omega);obtain⟨g,rfl,aV⟩:=ak kk (s,x) a6;have aL:=(h.ab.lt g (by rw[a5.out];rfl)).2;have o:=r.trans (hK.low.mono r.size);have cj:wr.cell? ⟨g,kk,I⟩=O (K (O ⟨s,0,I⟩)):=(Af o aL).trans aV;have d4:=(Af o aX.out).trans c4
     have cl:(Bq T.pl.ab)[t]?=O ⟨x.pl.id,x.pl.sp.user,x.pl.sp.prio,Kj x.pl⟩:=by
      rw[Az bd]
      have:A4 (Bq T.pl.ab) t=(Bq T.pl.ab)[t]:=by unfold A4;rw[Az bd];rfl
      rw[<-this,b6]
     obtain⟨wg,cC,rfl,b7,rfl,cd⟩:=Be.cell (sz:=7) (cells:=Q4) (λ_=>rfl) bS.row t _ cl;have aG:x.pl.id=(kk:Int)+1:=bB.id;have cw:wr.cell? ⟨wg,t*7,I⟩=O (Z G ((kk:Int)+1)):=(by have:=(Af hK.low b7).trans (cd 0 ao9);rw[Dm,O0]at this;rw[this,<-aG];rfl);have cI:(0:Int)<=(t:Int):=ao9;have cJ:(t:Int)<(wn:Int):=(by have:=b8.out;omega);have cy:(0:Int)<=(kk:Int):=ao9;have cA:(kk:Int)<(m:Int):=ao9;have cL:IntKind.i64.wrap ((kk:Int)+1-1)=(kk:Int):=(by rw[show(kk:Int)+1-1=kk by omega];exact Im ao9 ao9);have am:∀W,BW w.heap.size w W->Ba W s x:=λW hW=>Ae hW (h.box _ an) (Ac (h.box _ an));have aQ:=(h.low r.out).ok _ an;have ba:(Lt.take (i+1)).map (λi=>Fr T.vs (Fn T.pl.ab (A4 (Bq T.pl.ab) i).id))=(Lt.take i).map (λi=>Fr T.vs (Fn T.pl.ab (A4 (Bq T.pl.ab) i).id))++[Fr T.vs x.pl]:=(by rw[Lw bb,Dw];simp only[Ic,Rr];rw[b6];simp only;rw[b0]);obtain⟨_,_,_,_,_,m6,_⟩:=Fg (Io bB.gd);obtain⟨bL,bM⟩:=C8.1 m6;obtain⟨wl,aB⟩:=Ex (x.pl.sp.wall);replace bL:1<=wl:=(by rw[aB];exact bL);replace bM:wl<=1000:=(by rw[aB];exact bM);have cM:IntKind.i64.wrap (wl+8)=wl+8:=Im ao9 ao9
     have bJ:∀W,BW wr.heap.size wr W->CS prog 154 #[K (O ⟨T.fb,0,I⟩),E x.pl.sp.part] W λe w'=>∃v,e=Q v/\Aj w' w4.heap.size v (Cj T.vs x.pl.sp.part)/\BW wr.heap.size wr w':=λW hW=>by
      have hl:=o.trans (hW.mono o.size);refine(Aeu (h.low hl).dp.xw h.dp.ok x.pl.sp.part).mono ?_;rintro e w' ⟨v,h1,h2,h3⟩;exact⟨v,h1,h2.le (Aw hK.low.size hW.size),hW.trans (h3.mono hW.size)⟩
     obtain⟨pt,a8⟩:=Ex (x.pl.sp.part);obtain⟨nd,aD⟩:=Ex (x.pl.sp.nodes);obtain⟨⟨da,db,dc,dd⟩,aK⟩:∃v,v=x.pl.sp.df:=⟨_,rfl⟩;obtain⟨aO,aS⟩:=Ex (x.pl.start);obtain⟨go,bE⟩:=Ex (x.go);obtain⟨gn,bD⟩:=Ex (x.gn);obtain⟨gc,bC⟩:=Ex (x.gc);rw[<-a8]at bJ
     have ad:∀p:WD,BW w.heap.size w p->p.cell? ⟨s,0,I⟩=O (Z G ((kk:Int)+1))/\p.cell? ⟨tb,5,I⟩=O (K (O ⟨T.fb,0,I⟩))/\p.cell? ⟨s,2,I⟩=O (E pt)/\p.cell? ⟨s,3,I⟩=O (Z G nd)/\p.cell? ⟨s,4,I⟩=O (Z G da)/\p.cell? ⟨s,5,I⟩=O (Z G db)/\p.cell? ⟨s,6,I⟩=O (Z G dc)/\p.cell? ⟨s,7,I⟩=O (Z G dd)/\p.cell? ⟨s,8,I⟩=O (Z G wl)/\p.cell? ⟨s,19,I⟩=O (Z G aO)/\p.cell? ⟨s,20,I⟩=O (V go gn gc):=λp bv=>by
      have hx:=am _ bv;have e4:da=x.pl.sp.df.a:=(by rw[<-aK]);have e5:db=x.pl.sp.df.b:=(by rw[<-aK]);have e6:dc=x.pl.sp.df.c:=(by rw[<-aK]);have e7:dd=x.pl.sp.df.d:=(by rw[<-aK]);rw[<-aG,a8,aD,e4,e5,e6,e7,aB,aS,bE,bD,bC];exact⟨Aa hx 0,(Af bv aX.out).trans c5,Aa hx 2,Aa hx 3,Aa hx 4,Aa hx 5,Aa hx 6,Aa hx 7,Aa hx 8,Aa hx 19,Aa hx 20⟩
     have bX:Pl.Ao w4 go gn x.pl.aj/\gn<=gc:=(by rw[bE,bD,bC];exact⟨aQ.aj.row.pl,aQ.nf⟩);have be:aY<=20:=(by have h1:=aM;have h2:=Ca List.length hE.out;simp only[As]at h2;have h3:=Px i Lt;omega);have aH:=Gh (n:=aY) ao9;have aJ:(aY+1)*112<=140737488355328:=ao9;have a1:Pl.Ask.er ⟨(kk:Int)+1,I,0,0,Cj T.vs pt,nd,⟨da,db,dc,dd⟩,wl+8,aO,I,0,0,x.pl.aj⟩=Fr T.vs x.pl:=(by rw[a8,aD,aK,aB,aS,<-aG];rfl);clear am aV cc cd b6 cl;replace⟨bb,bd,bc,a4,bO,b0,bB,a6⟩:=H8 bb bd bc a4 bO b0 bB a6;replace⟨an,cf,aL,o,b7,aG,aQ,ba⟩:=H8 an cf aL o b7 aG aQ ba;replace⟨m6,bL,bM,aB,bJ,a8,aD,aK⟩:=H8 m6 bL bM aB bJ a8 aD aK;replace⟨aS,bE,bD,bC,ad,bX,be,aH⟩:=H8 aS bE bD bC ad bX be aH;replace⟨aJ,a1,aM⟩:=H3 aJ a1 aM;go_upto_region 12 with fail;clear ct;go_quiet (fail);rename_i nq;obtain⟨W5,bT⟩:=Ex (wr.drewN nq);have bA:BW wr.heap.size wr W5:=(by rw[bT];exact A6 _ wr nq);rw[<-bT];clear bT cj d4 cw;have l:=(o.trans (bA.mono o.size)).drew;have f:=bA.drew;replace⟨bA,l,f⟩:=H3 bA l f;go_upto_region 13 with fail;go_region_held3 (λp=>p.cell? ⟨s,0,I⟩=O (Z G ((kk:Int)+1))/\p.cell? ⟨tb,5,I⟩=O (K (O ⟨T.fb,0,I⟩))/\p.cell? ⟨s,2,I⟩=O (E pt)/\p.cell? ⟨s,3,I⟩=O (Z G nd)/\p.cell? ⟨s,4,I⟩=O (Z G da)/\p.cell? ⟨s,5,I⟩=O (Z G db)/\p.cell? ⟨s,6,I⟩=O (Z G dc)/\p.cell? ⟨s,7,I⟩=O (Z G dd)/\p.cell? ⟨s,8,I⟩=O (Z G wl)/\p.cell? ⟨s,19,I⟩=O (Z G aO)/\p.cell? ⟨s,20,I⟩=O (V go gn gc))
      (first
        | with_reducible exact ad.out _ l.out
        | exact ad.out _ (l.alloc l.size _)
        | exact ad.out _ (l.alloc l.size _).drew
        | exact ad.out _ l.drew)
      (first
        | (go_at_call 154
           (with_reducible refine(bJ.out _ f.out).mono ?_)
           rintro e w6 ⟨v6,rfl,bF,bW⟩;obtain⟨po,pn,pc,rfl,bN⟩:=bF.len;replace l:=Hh (o.trans (bW.mono o.size));replace f:=Hh bW;replace⟨bF,bN⟩:=H2 bF bN
           clear bW)
        | (refine T5 (by rfl) _ _ _ (by rfl) w4.heap.size 266 iA _ 10 112 underlying220 bY.out b9.out bf.out bg.out rfl (Iw _) (V cm aY kc) aY _ (by rfl) (((hK.drop (f.alloc f.size _)).mz).at_ aM.symm) ⟨w6.heap.size,0,I⟩ 1 [Z G ((kk:Int)+1),V po pn pc,Z G nd,Z G da,Z G db,Z G dc,Z G dd,Z G (wl+8),Z G aO,V go gn gc] (by rfl) (by rfl) (Ach w6 #[Z G ((kk:Int)+1),V po pn pc,Z G nd,Z G da,Z G db,Z G dc,Z G dd,Z G (wl+8),Z G aO,V go gn gc] 266) (by intro u hu;simp at hu;rcases hu with rfl|rfl|rfl|rfl|rfl|rfl|rfl|rfl|rfl|rfl<;>rfl) aH.out aJ.out (Aw hK.low.size (f.alloc f.size _).size) ?_;intro g9 cb w9 ao ac;have bs:=hK.add (x:=⟨(kk:Int)+1,po,pn,pc,Cj T.vs pt,nd,⟨da,db,dc,dd⟩,wl+8,aO,go,gn,gc,x.pl.aj⟩) (f.alloc f.size _) ac (Be.snoc (cells:=Pl.Ask.cells) ao aM.symm) (bF.mod (Mod.ag (S:=λ_=>False) Bn) (λ_ _ c=>c)) bX.out;replace l:=Hh (r.trans (bs.low.mono r.size));replace bs:=Hh bs
           clear ao ac))
     have cr:Hid ((al++[(⟨(kk:Int)+1,po,pn,pc,Cj T.vs pt,nd,⟨da,db,dc,dd⟩,wl+8,aO,go,gn,gc,x.pl.aj⟩:Pl.Ask)]).map Pl.Ask.er=(Lt.take (i+1)).map λi=>Fr T.vs (Fn T.pl.ab (A4 (Bq T.pl.ab) i).id)):=Hh (by
      rw[ba.out,Dw,hE.out,<-a1.out]
      rfl)
     go_wp2_with fail;go_roundw
     case rel=>exact⟨i+1,_,by go_num,ao9,bs,cr⟩
     case measure=>simp[intOf];omega
    .have ce:¬(i:Int)<tn:=ao9;have cH:i=tn:=ao9;have bo:=hE.out;rw[Dd (by have:=aT.out;omega),<-a2.out]at bo;have bU:al.length<=1000:=(by have h2:=Ca List.length hE.out;simp only[As]at h2;have h3:=Px i Lt;omega);replace⟨bo,bU,aM⟩:=H3 bo bU aM;go_wp2_with fail;exact An (v:=V cm aY kc) (by simp[results,results137,go_sem]) rfl (hK.post bo.out bU.out r.out)
def Ay1 {w:WD} {so:Option Addr} {n c:Nat} {xs:List V4} (h:w.ownsRow 0 30 4 (V so n c) xs.length (Aq V4.cells xs)) (t:n=xs.length) (v:n<=1000000):Pl.Oh w so n xs:=by
 subst t;refine⟨rfl,ao9,λi s=>?_⟩;obtain⟨g,cap,e⟩:=Joins.ownsRow_form h ao9;have o:so=O ⟨g,0,I⟩:=by injection e
 subst o;obtain⟨x,b⟩:=Ge xs i s;have a:∀x:V4,(V4.cells x).size=4:=λ_=>rfl;have u:Pl.vv xs i=x:=by simp[Pl.vv,List.getD,b]
 have f:=Fw h (i*4) ao9;have k:=Fw h (i*4+1) ao9;have l:=Fw h (i*4+2) ao9;have m:=Fw h (i*4+3) ao9;have d:=I3 a xs (j:=0) b ao9;have p:=I3 a xs (j:=1) b ao9;have q:=I3 a xs (j:=2) b ao9;have r:=I3 a xs (j:=3) b ao9;rw[O0]at d;rw[u];exact⟨g,0,rfl,(P2 h g rfl).2,by rw[Dm,f,d];rfl,by rw[Dm,k,p];rfl,by rw[Dm,l,q];rfl,by rw[Dm,m,r];rfl⟩
def Ay2 (vs:List ay) (js:List Jb):(Ez vs js).length<=js.length:=by
 unfold Ez;rw[As,(Y5 _ _ _).length_eq,Zw];unfold Bq;rw[As];exact N0 _ _
def Rd (vs:List ay) (now:Int) (bs:List Bool) (js:List Jb):Prop:=Aku (vs.map ay.cap) now bs ((Gz js).map Mo) (Ez vs js)
def xe (w5:WD) (ks:List (Int×Int×List Int)) (v rv:VL) (wx:WD):Prop:=
 ∃so n sc r slots,v=V so n sc/\rv=Z G r/\n=slots.length/\slots.map Pl.Ax.key=ks/\Pl.Ut wx so n slots/\(∀s,s∈slots->∀b off,s.go=O ⟨b,off,I⟩->w5.heap.size<=b)/\BW w5.heap.size w5 wx/\∀b off,so=O ⟨b,off,I⟩->w5.heap.size<=b
def xe.low {a wx:WD} {c:List (Int×Int×List Int)} {v d:VL} (h:xe a c v d wx):BW a.heap.size a wx:=by
 obtain⟨_,_,_,_,_,_,_,_,_,_,_,b,_⟩:=h;exact b
def yx (w5:WD) (vs:List ay) (now:Int) (bs:List Bool) (js:List Jb) (v rv:VL) (wx:WD):Prop:=xe w5 (Kn vs now bs js) v rv wx/\Rd vs now bs js
def Ay3 {o:WD} {vs:List ay} {js:List Jb} {k:List Bool} {a:Int} {vo uo u:Option Addr} {vn vc z uc m mc:Nat} {j:List Pl.Au}
  (hv:Pl.Oh o vo vn (vs.map ay.cap)) (g:j.map Pl.Au.er=(Gz js).map Mo)
  {w1:WD} (h1:BW o.heap.size o w1) (hu:Pl.Mj w1 uo z k) {q:Option Addr} {l lc:Nat} {p:List Pl.Ask} (ha:Pl.Yi w1 q l p) (f:p.map Pl.Ask.er=Ez vs js) (hl:l<=1000000) (t:Pl.Yf w1 u m j) :
  CS prog 136 #[V vo vn vc,V uo z uc,Z G a,V u m mc,V q l lc] w1 λe w'=>∃v rv,e=Q (D #[v,rv])/\xe o (Kn vs a k js) v rv w'/\Rd vs a k js:=by
 refine(Pl.Auh vo uo u q vn vc z uc m mc l lc (vs.map ay.cap) k a j p w1 (hv.below h1 Ln) hu t ha hl).mono ?_;intro e w' h;obtain⟨so,n,sc,r,d,he,hn,hk,x,hg,hb,y,i⟩:=Ayj h;refine⟨_,_,he,⟨so,n,sc,r,d,rfl,rfl,hn,?_,x,λs j b c e=>Aw h1.size (hg s j b c e),h1.trans (hb.mono h1.size),λb c e=>Aw h1.size (y b c e)⟩,?_⟩
 .rw [hk,g,f];rfl
 .rw [g,f]at i;exact i
def Aze:(prog.info? 125).map (λi=>(i.zero,i.size,i.bytes))=O (O (K I),1,8):=by kernel_rfl
structure pq (w:WD) (T:Tv) (rb B g L:Nat) (s2:List VL) (R:List (List Int)) (jv:VL) (js:List (Nat×aq)) (wr:WD):Prop where
 sub:Dv w T jv js wr
 res:wr.heap[w.heap.size+1]?=O (J #[Z G 0,Z G 0,Z G 0] 35 (0,0))
 rep:wr.heap[rb]?=O (J #[Z G 0,Z G ((T.js.length:Int)+1),Z G 0] 35 (0,0))
 rows:Cy wr B g L s2 R
 dy:∀j,j∈js->(0<j.2.sn->∀k o,j.2.so=O ⟨k,o,I⟩->k≠rb/\k≠w.heap.size+1)/\(0<j.2.gn->∀k o,j.2.go=O ⟨k,o,I⟩->k≠rb/\k≠w.heap.size+1)
 stays:G6 w T.js js
variable {w w' wr:WD} {T:Tv} {rb B g L:Nat} {s2:List VL} {R:List (List Int)} {jv jv':VL} {js:List (Nat×aq)}
def pq.low (h:pq w T rb B g L s2 R jv js wr) (a:BW wr.heap.size wr w'):pq w T rb B g L s2 R jv js w':=
 ⟨h.sub.low a,Ae a h.res (Ac h.res),Ae a h.rep (Ac h.rep),h.rows.low a,h.dy,h.stays⟩
def Dv.stay (h:Dv w T jv js wr) (g:Mod (λk=>k=T.tb\/jv.ownBlock=O k) wr w') {b:Nat} {c:Array VL} {a:TypeId} (d:wr.heap[b]?=O (J c a (0,0))) (h1:a≠115) (f:a≠125):w'.heap[b]?=O (J c a (0,0)):=g.ar d λe=>by
 rcases e with e|e
 .subst e;have:=h.at_.head;rw[show({ T with jv:=jv,js:=js }:Tv).tb=T.tb from rfl,d]at this;injection this with this;injection this with _ this;exact h1 this
 .exact Bx h.at_.ab d (λe=>f e.symm) e
def pq.add (h:pq w T rb B g L s2 R jv js wr) {b:Nat} {x:aq} (m:Mod (λk=>k=T.tb\/jv.ownBlock=O k) wr w')
  (hd:w'.heap[T.tb]?=O (J #[Z G T.ai,Z G T.tick,.map (O T.mb),T.nv,jv',K (O ⟨T.fb,0,I⟩),T.cv] 115 (0,0)))
  (hr:w'.ownsRow 0 125 1 jv' (js.length+1) ((js.map λj=>K (O ⟨j.1,0,I⟩))++[K (O ⟨b,0,I⟩)]))
  (s:∀k,jv'.ownBlock=O k->jv.ownBlock=O k\/wr.heap.size<=k)
  (hb:wr.heap.size<=b) (n:Ba w' b x) (t:x.po=I/\x.pn=0/\x.pc=0/\x.pl.parts=[]) (l:x.go=I/\x.gn=0/\x.gc=0/\x.pl.aj=[])
  (v:Ao w' x.so x.sn x.pl.sp.after) (f:∀k o,x.so=O ⟨k,o,I⟩->∃c,w'.heap[k]?=O (J c 3 (0,0))) (u:x.sn<=x.sc) (hu:x.pl.sp.user.size<=maxLen) (hp:x.pl.sp.part.size<=maxLen) (p:∀k o,x.so=O ⟨k,o,I⟩->w.heap.size<=k) :
  pq w T rb B g L s2 R jv' (js++[(b,x)]) w':=by
 refine⟨h.sub.add m hd hr s hb n t l v f u hu hp,h.sub.stay m h.res ad9 ad9,h.sub.stay m h.rep ad9 ad9,h.rows.off m (λe=>?_) (λi sv y k z e=>?_),λj a=>?_,λj a=>?_⟩
 .obtain ⟨_,_,c,d⟩:=h.rows.ar;rcases e with e|e
  .subst e;have:=h.sub.at_.head;rw[show({ T with jv:=jv,js:=js }:Tv).tb=T.tb from rfl,d]at this;injection this with this;injection this with _ this;exact absurd this ad9
  .exact Bx h.sub.at_.ab d ad9 e
 .have r:i<R.length:=by rw[<-h.rows.len];exact(Ap.1 y).1
  have ho:=h.rows.each i sv _ y (Az r);obtain⟨c,d⟩:=ho.ar z;rcases e with e|e
  .subst e;have:=h.sub.at_.head;rw[show({ T with jv:=jv,js:=js }:Tv).tb=T.tb from rfl,d]at this;injection this with this;injection this with _ this;exact absurd this ad9
  .exact Bx h.sub.at_.ab d ad9 e
 .rcases C7.1 a with a|a
  .exact h.dy j a
  .have a:=Gc.1 a;subst a;refine⟨λ_ k o e=>?_,λc=>absurd c (by rw[l.2.1];omega)⟩;obtain⟨c,d⟩:=f k o e;refine⟨λq=>?_,λq=>?_⟩
   .have:=h.sub.stay m h.rep ad9 ad9;rw[<-q,d]at this;injection this with this;injection this with _ this;exact absurd this ad9
   .have:=h.sub.stay m h.res ad9 ad9;rw[<-q,d]at this;injection this with this;injection this with _ this;exact absurd this ad9
 .rcases C7.1 a with a|a
  .exact h.stays j a
  .have a:=Gc.1 a;subst a;exact⟨λ_ k o e z=>by have:=p k o e;omega,λc=>absurd c (by rw[l.2.1];omega)⟩
def Ak8 (X:List Jb):(Co X).map Jb.sp=X.map Jb.sp:=Aba (P:=λl=>l.map Jb.sp=X.map Jb.sp) (λjs k h _=>(Agj js k).trans h) rfl
def Dn.uy {vs:List ay} {X:List Jb} (h:Dn vs (Co X)):D3 X:=Qo h.b.jq (Ak8 X).symm
def pq.ym (h:pq w T rb B g L s2 R jv js wr) (h0:T.tb<w.heap.size) (d:w.heap.size<=rb) (v:VL):Dv w T jv js (wr.setCell ⟨rb,2,I⟩ v):=by
 have b:=Mod.setCell (S:=λk=>k=rb) wr rb 2 v rfl;exact⟨Al.el (T:={ T with jv:=jv,js:=js }) h.sub.at_ h.rep b (by show T.tb<rb;omega) ad9 ad9 ad9 ad9 ad9 ad9 (λj a=>⟨λc k o e=>((h.dy j a).1 c k o e).1,λc k o e=>((h.dy j a).2 c k o e).1⟩),h.sub.bh,h.sub.mod.then b (λk f e=>by omega)⟩
def Dv.qk {b:WD} (h:Dv w T jv js b) (h0:T.tb<w.heap.size) (a:b.heap[w.heap.size+1]?=O (J #[Z G 0,Z G 0,Z G 0] 35 (0,0)))
  (i:∀j,j∈js->(0<j.2.sn->∀k o,j.2.so=O ⟨k,o,I⟩->k≠w.heap.size+1)/\(0<j.2.gn->∀k o,j.2.go=O ⟨k,o,I⟩->k≠w.heap.size+1)) (d f g:VL) :
  Dv w T jv js (((b.setCell ⟨w.heap.size+1,0,I⟩ d).setCell ⟨w.heap.size+1,1,I⟩ f).setCell ⟨w.heap.size+1,2,I⟩ g):=by
 have c:=(((Mod.refl (λk=>k=w.heap.size+1) b).set _ 0 d rfl).set _ 1 f rfl).set _ 2 g rfl;exact⟨Al.el (T:={ T with jv:=jv,js:=js }) h.at_ a c (by show T.tb<w.heap.size+1;omega) ad9 ad9 ad9 ad9 ad9 ad9 i,h.bh,h.mod.then c (λk l e=>by omega)⟩
def Azf {w1:WD} {c:Tv} {a:List (Nat×aq)} {n:Nat} (h:Bp w1 c a w') (q:∀j,j∈c.js->(0<j.2.sn->∀k o,j.2.so=O ⟨k,o,I⟩->k≠n)/\(0<j.2.gn->∀k o,j.2.go=O ⟨k,o,I⟩->k≠n)):∀j,j∈a->(0<j.2.sn->∀k o,j.2.so=O ⟨k,o,I⟩->k≠n)/\(0<j.2.gn->∀k o,j.2.go=O ⟨k,o,I⟩->k≠n):=λj r=>by
 obtain⟨i,m⟩:=Dk r;have p:i<c.js.length:=by rw[<-h.len];exact(Ap.1 m).1
 have s:=Az p;have d:=h.kp i _ j s m;have l:=q _ (Kv p);refine⟨λb k o e=>?_,λb k o e=>?_⟩
 .rw [d.sn]at b;rw[d.so]at e;exact l.1 b k o e
 .rcases d.aj with⟨f,g,_⟩|⟨f,g,_⟩
  .rw [g]at b;rw[f]at e;exact l.2 b k o e
  .omega
def Ak9 {S:Nat->Prop} {so:Option Addr} {n:Nat} {l:List Int} (h:Ao wr so n l) (c:Mod S wr w') (f:∀k o,so=O ⟨k,o,I⟩->¬S k):Ao w' so n l:=
 ⟨h.len,h.max,λi x g=>by
  obtain⟨k,b,e,a,d⟩:=h.cell i x g;refine⟨k,b,e,B4 a c.size,?_⟩;rw[<-d]
  simp only[World.cell?,c.block k a (f k b e)]⟩
structure yw (w:WD) (T:Tv) (rb B g L:Nat) (s2:List VL) (R:List (List Int)) (X:List Jb) (n:Nat) (g2:Nat) (c2:Array VL) (wx:WD):Prop where
 ex:∃jv js,pq w T rb B g L s2 R jv js wx/\js.map (λj=>j.2.pl)=X/\js.length<=n
 exp:wx.heap[g2]?=O (J c2 33 (0,0))
def Azg {x:ax} {w:WD} (k:x.ok w) (d:Cb x.pl=true):CS prog 128 #[x.val] w λe w'=>∃g xs c,e=Q (V (O ⟨g,0,I⟩) x.pl.array.toNat x.pl.array.toNat)/\xs.length=x.pl.array.toNat/\w'.heap[g]?=O (J c 33 (0,0))/\Sh c x.pl.array.toNat xs/\(∀(j:Nat) (y:ax),xs[j]?=O y->y.pl=x.single.pl)/\BW w.heap.size w w':=by
 refine(Axh x w k).mono ?_;rintro e w' (⟨h0,_⟩|⟨_,g,xs,rfl,b,a⟩)
 .rw [d]at h0;cases h0
 .have h:Qk x.pl=x.pl.array.toNat:=Ad d;rw[h]at b a ⊢;obtain⟨c,f,i⟩:=a.row;exact⟨g,xs,c,rfl,b,f,i,λj y l=>(a.one j y l).1,a.low⟩
def Azh {w:WD} {T:Tv} (h:Al w T) (d:T.js.length<=1000000) (so:Option Addr) (n sc:Nat) (xs:List ax) (j:L8 w so n xs) (f:n<=1000) {R:List (List Int)} (b:Br T.vs T.js.length (xs.map ax.pl)=(R,0)) :
  CS prog 58 #[K (O ⟨T.tb,0,I⟩),V so n sc] w λe w'=>∃g s2,e=Q (D #[V (O ⟨g,0,I⟩) R.length R.length,Z G 0])/\Cy w' w.heap.size g R.length s2 R/\BW w.heap.size w w':=by
 refine(Ac6 h h.dp.ok d so n sc xs j f).mono ?_;rw[b];rintro e w' ⟨v,rfl,_,a,c⟩;obtain⟨g,s2,rfl,i⟩:=a rfl;exact⟨g,s2,rfl,i,c⟩
end
section
open Go.RowKit Go.Maps Go.Lib
def Pu (k:Int) (w:WD):CS prog 46 #[Z G k] w λe w'=>e=Q (Y (B7 k))/\w'=w:=by
 by_cases h:k=2\/k=3\/k=4\/k=5\/k=10\/k=11
 .have b:B7 k=true:=by rcases h with rfl|rfl|rfl|rfl|rfl|rfl<;>rfl
  obtain⟨z,a⟩:=Ex (B7 k);rw[<-a]at b ⊢;subst b;clear a;rcases h with rfl|rfl|rfl|rfl|rfl|rfl
  all_goals
   go_enter func46,ntmps46;go_wp2;go_ret;exact⟨rfl,rfl⟩
 .have b:B7 k=false:=by rw[Jl];intro c;apply h;simp[B7,Dy]at c;omega
  obtain⟨z,a⟩:=Ex (B7 k);rw[<-a]at b ⊢;subst b;clear a;have g:(k == (2:Int))=false:=by rw[Bh];omega
  have i:(k == (3:Int))=false:=by rw[Bh];omega
  have j:(k == (4:Int))=false:=by rw[Bh];omega
  have l:(k == (5:Int))=false:=by rw[Bh];omega
  have d:(k == (10:Int))=false:=by rw[Bh];omega
  have f:(k == (11:Int))=false:=by rw[Bh];omega
  go_enter func46,ntmps46;go_wp2;go_ret;exact⟨rfl,rfl⟩
def A5 {e:de} {f:gz} {fs:List gz} {e':de} (h:Fl e (f :: fs)=O e'):iw e f=true/\Fl (e.set 0 f.1) fs=O e':=by
 unfold Fl at h;split at h
 .rename_i c;exact⟨c,h⟩
 .cases h
def Ala {e:gh} {fs:List gz} (h:Ew e=true) (a:Di e.n.kind=O fs):∃e',Fl e.n fs=O e'/\e.specs.length<=8/\e.specs.all Cb=true/\Ql e=true:=by
 cases hc:Fl e.n fs with
 | none=>
  rw[Af5 a hc]at h;cases h
 | some e'=>
  rw[Xs a hc]at h;simp at h;exact⟨e',rfl,h.1.1.2,by simpa using h.1.2,h.1.1.1⟩
structure Azj (e:gh):Prop where
 kind:e.n.kind=1\/e.n.kind=2\/e.n.kind=3\/e.n.kind=4\/e.n.kind=5\/e.n.kind=6\/e.n.kind=7\/e.n.kind=8\/e.n.kind=9\/e.n.kind=10\/e.n.kind=11
 len:e.specs.length<=8
 cq:(e.n.kind=3\/e.n.kind=4\/e.n.kind=5\/e.n.kind=7)->1<=e.n.cq
 node:(e.n.kind=7\/e.n.kind=8\/e.n.kind=9\/e.n.kind=10\/e.n.kind=11)->0<=e.n.node
 br:e.n.kind=7->1<=e.n.br/\e.n.br<=3
 tick:(e.n.kind=6\/e.n.kind=8\/e.n.kind=9)->0<=e.n.tick/\e.n.tick<1099511627776
def Te {e:gh} (h:Ew e=true):Azj e:=by
 obtain⟨⟨f,n,tick,m,seq,p,attempt,node,o⟩,q⟩:=e
 have s:f=1\/f=2\/f=3\/f=4\/f=5\/f=6\/f=7\/f=8\/f=9\/f=10\/f=11:=by
  by_cases c:f=1\/f=2\/f=3\/f=4\/f=5\/f=6\/f=7\/f=8\/f=9\/f=10\/f=11
  .exact c
  .have l:Di f=I:=(by unfold Di;rw[Ab ao9,Ab ao9,Ab ao9,Ab ao9,Ab ao9,Ab ao9,Ab ao9]);rw[Af4 l]at h;cases h
 have i:∀ {k:Int} {fs:List gz},f=k->Di k=O fs->∃e',Fl ⟨f,n,tick,m,seq,p,attempt,node,o⟩ fs=O e'/\q.length<=8:=fun {k fs} e l=>by
  obtain⟨e',h1,r,_⟩:=Ala h (fs:=fs) (by rw[<-l,<-e]);exact⟨e',h1,r⟩
 rcases s with rfl|rfl|rfl|rfl|rfl|rfl|rfl|rfl|rfl|rfl|rfl
 .obtain ⟨e',g,j⟩:=i rfl (k:=1) (fs:=[Ug]) rfl;exact⟨as9,j,as9,as9,as9,as9⟩
 .obtain ⟨e',g,j⟩:=i rfl (k:=2) (fs:=[Cs,Ct]) rfl;exact⟨as9,j,as9,as9,as9,as9⟩
 .obtain ⟨e',g,j⟩:=i rfl (k:=3) (fs:=[Cs,Ct,Ev]) rfl;have a:=(A5 (A5 (A5 g).2).2).1;simp[iw,Cs,Ct,Ev,de.get,de.set]at a;exact⟨as9,j,λ_=>a.1,as9,as9,as9⟩
 .obtain ⟨e',g,j⟩:=i rfl (k:=4) (fs:=[Cs,Ct,Ev]) rfl;have a:=(A5 (A5 (A5 g).2).2).1;simp[iw,Cs,Ct,Ev,de.get,de.set]at a;exact⟨as9,j,λ_=>a.1,as9,as9,as9⟩
 .obtain ⟨e',g,j⟩:=i rfl (k:=5) (fs:=[Cs,Ct,Ev]) rfl;have a:=(A5 (A5 (A5 g).2).2).1;simp[iw,Cs,Ct,Ev,de.get,de.set]at a;exact⟨as9,j,λ_=>a.1,as9,as9,as9⟩
 .obtain ⟨e',g,j⟩:=i rfl (k:=6) (fs:=[L4]) rfl;have a:=(A5 g).1;simp[iw,L4,de.get]at a;exact⟨as9,j,as9,as9,as9,λ_=>⟨a.1,by show tick<_;omega⟩⟩
 .obtain ⟨e',g,j⟩:=i rfl (k:=7) (fs:=[Ev,Uh,E4,Ui]) rfl;have a:=(A5 g).1;have b:=(A5 (A5 (A5 g).2).2).1;have d:=(A5 (A5 (A5 (A5 g).2).2).2).1;simp[iw,Ev,Uh,E4,Ui,de.get,de.set]at a b d;exact⟨as9,j,λ_=>a.1,λ_=>b.1,λ_=>d,as9⟩
 .obtain ⟨e',g,j⟩:=i rfl (k:=8) (fs:=[E4,L4]) rfl;have a:=(A5 g).1;have b:=(A5 (A5 g).2).1;simp[iw,E4,L4,de.get,de.set]at a b;exact⟨as9,j,as9,λ_=>a.1,as9,λ_=>⟨b.1,by show tick<_;omega⟩⟩
 .obtain ⟨e',g,j⟩:=i rfl (k:=9) (fs:=[E4,L4]) rfl;have a:=(A5 g).1;have b:=(A5 (A5 g).2).1;simp[iw,E4,L4,de.get,de.set]at a b;exact⟨as9,j,as9,λ_=>a.1,as9,λ_=>⟨b.1,by show tick<_;omega⟩⟩
 .obtain ⟨e',g,j⟩:=i rfl (k:=10) (fs:=[Cs,Ct,E4]) rfl;have a:=(A5 (A5 (A5 g).2).2).1;simp[iw,Cs,Ct,E4,de.get,de.set]at a;exact⟨as9,j,as9,λ_=>a.1,as9,as9⟩
 .obtain ⟨e',g,j⟩:=i rfl (k:=11) (fs:=[Cs,Ct,E4]) rfl;have a:=(A5 (A5 (A5 g).2).2).1;simp[iw,Cs,Ct,E4,de.get,de.set]at a;exact⟨as9,j,as9,λ_=>a.1,as9,as9⟩
def Azk (a b c d:Int) (w:WD):(Instr.field 123 (.agg #[Z G a,Z G b,Z G c,Z G d]) 0).run prog w=.ok (Z G a) w:=by kernel_rfl
structure zl (w:WD) (b:Bool) (v:VL) (wx:WD):Prop where
 v:v=Y b
 low:BW w.heap.size w wx
def Alb (vs:List ay) (t:dv) (e:gh) (cs:Int):Int:=
 if B7 e.n.kind=true/\e.n.seq<=cs then 141
 else if e.n.kind=1 then(if e.n.ai<=t.ai then 141 else 0)
 else if e.n.kind=6 then(if e.n.tick<=t.tick then 141 else 0)
 else if e.n.kind=2 then(Br vs t.ab.length e.specs).2
 else if 8<=e.n.kind/\e.n.kind<=11 then Lb t e.n
 else Ju t e.n
def Azl {w:WD} {T:Tv} (x:dt) (h:Al w T) (hj:T.js.length<=1000000) (hx:x.ok w) (o:B7 x.n.kind=true) :
  CS prog 31 #[K (O ⟨T.tb,0,I⟩),x.val] w (Iq w (Ed T.vs T.pl x.pl)):=by
 obtain⟨r,hr⟩:=Ex (Ed T.vs T.pl x.pl);rw[<-hr];have y:=L9.new w x;have t:=Af6 x _ (y.ok hx);by_cases hm:Ew x.pl=true;rotate_left
 .have an:Ew x.pl=false:=by simpa using hm
  rw[Xr an]at t;have aM:r=130:=by rw[hr];unfold Ed;rw[Ad an]
  subst aM;obtain⟨⟨j,ai,tick,ah,seq,cq,attempt,node,br⟩,so,m,sc,dm⟩:=x;replace⟨y,t,hm,an,hr,h,hx⟩:=H7 y t hm an hr h hx;go_enter M3,M0;go_wp2_with fail;refine t.mono ?_;rintro e w1 ⟨rfl,z⟩;have q:=y.below z;replace⟨q,z⟩:=H2 q z;go_wp2;go_ret;exact⟨rfl,q.low⟩
 rw[Af3 hm]at t;obtain⟨hk,aI,f1,f2,_,_⟩:=Te hm;have aJ:=hx.dm.len;have aF:x.m<=1000:=by have:x.pl.specs.length=x.dm.length:=As _;omega
 have ac:∀W,BW w.heap.size w W->CS prog 58 #[K (O ⟨T.tb,0,I⟩),V x.so x.m x.c] W (Gv (Br T.vs T.js.length (x.dm.map ax.pl)) W):=λW hW=>Ac6 (h.low hW) h.dp.ok hj x.so x.m x.c x.dm (hx.dm.low hW) aF;have u:(x.n.kind=8\/x.n.kind=9\/x.n.kind=10\/x.n.kind=11)->∀W,BW w.heap.size w W->CS prog 59 #[K (O ⟨T.tb,0,I⟩),x.val] W (Iq W (Lb T.pl x.n)):=λhk W hW=>Akf x (h.low hW) (f2 (.inr hk)) hk;have p:(x.n.kind=3\/x.n.kind=4\/x.n.kind=5\/x.n.kind=7)->∀W,BW w.heap.size w W->CS prog 60 #[K (O ⟨T.tb,0,I⟩),x.val] W (Iq W (Ju T.pl x.n)):=λhk W hW=>Akg x (h.low hW) (f1 hk);have aG:=hx.xj 3;obtain⟨⟨cs,ce,cf,aA⟩,aD⟩:∃c,c=D2 T.cls x.n.ah:=⟨_,rfl⟩
 have ad:∀W,Al W T->(Instr.lookup 108 (.map (O T.mb)) (Z G x.n.ah) false).run prog W=.ok (Gx ⟨cs,ce,cf,aA⟩) W:=λW hW=>by
  rw[aD];exact Acw hW.cls aG.1 aG.2
 unfold Gx at ad
 have l:r=Alb T.vs T.pl x.pl cs:=by
  rw[hr];unfold Ed;rw[Ab (by rw[hm];simp)]
  have:(D2 T.pl.cls x.pl.n.ah).seq=cs:=by show(D2 T.cls x.n.ah).seq=cs;rw[<-aD]
  rw[this];rfl
 obtain⟨tb,ao⟩:=Ex (T.tb);obtain⟨aN,ap⟩:=Ex (T.ai);obtain⟨aO,av⟩:=Ex (T.tick)
 have am:∀W,Al W T->W.cell? ⟨tb,0,I⟩=O (Z G aN)/\W.cell? ⟨tb,1,I⟩=O (Z G aO)/\W.cell? ⟨tb,2,I⟩=O (.map (O T.mb)):=λW hW=>by
  rw[ao,ap,av];exact⟨Aa hW.head 0,Aa hW.head 1,Aa hW.head 2⟩
 rw[<-ao];rw[<-ao]at ac u p;have aE:T.pl.ab.length=T.js.length:=by simp[Tv.pl]
 clear hr f1 f2 ao aD aG;obtain⟨⟨j,ai,tick,ah,seq,cq,attempt,node,br⟩,so,m,sc,dm⟩:=x;replace ad:∀W,Al W T->(Instr.lookup 108 (.map (O T.mb)) (Z G ah) false).run prog W=.ok (.agg #[Z G cs,Z G ce,Z G cf,Z G aA]) W:=ad;replace hk:j=1\/j=2\/j=3\/j=4\/j=5\/j=6\/j=7\/j=8\/j=9\/j=10\/j=11:=hk;replace⟨y,t,hm,h,hx,aI,aJ,aF⟩:=H8 y t hm h hx aI aJ aF;replace⟨ac,u,p,ad,l,am,aE⟩:=H7 ac u p ad l am aE;replace o:B7 j=true:=o
 have aH:=λW=>by
  have:=Pu j W;rw[o]at this;exact this
 obtain⟨b,k⟩:=Ex (decide (seq<=cs));clear ap av;replace⟨aH,hk,o,k⟩:=H4 aH hk o k;go_enter M3,M0;go_wp2_with fail;refine t.mono ?_;rintro e w1 ⟨rfl,z⟩;have q:=y.below z;have af:=h.low q.low;obtain⟨c0,c1,c2⟩:=am w1 af;obtain⟨e0,e1,e2,e3,e4,e5,e6,e7,e8,e9⟩:=C10 q.box;(try dsimp only at e0 e1 e2 e3 e4 e5 e6 e7 e8 e9);replace⟨q,af,z⟩:=H3 q af z;go_upto_region 6 with fail;have xz:=ad w1.drew (af.low ((Below.refl _ _).drew));have aK:=Azk cs ce cf aA;go_cut [6] (λv wx=>zl w1 b v wx)
 case first=>
  go_region_law (first
   | (go_simp;go_at_call 46;refine(aH _).mono ?_
      rintro e wz ⟨rfl,rfl⟩))
  all_goals
   go_wp2_with fail;go_meet
   case rel=>exact⟨by rw[k.out],by first|exact Below.refl _ _|exact(Below.refl _ _).drew|exact A6 _ _ _⟩
 case rest=>
 obtain⟨rfl,al⟩:=hcut;obtain⟨s,aC⟩:=Ex (wc);rw[<-aC]at al;have f:=q.below al;have aB:=af.low al;rw[<-aC];clear aC c0 c1 c2 xz aK e0 e1 e2 e3 e4 e5 e6 e7 e8 e9;obtain⟨c0,c1,c2⟩:=am s aB;obtain⟨e0,e1,e2,e3,e4,e5,e6,e7,e8,e9⟩:=C10 f.box;(try dsimp only at e0 e1 e2 e3 e4 e5 e6 e7 e8 e9);replace⟨al,f,aB⟩:=H3 al f aB;have aL:=hk.out;rcases aL with rfl|rfl|rfl|rfl|rfl|rfl|rfl|rfl|rfl|rfl|rfl
 .exact absurd o.out ad9
 .cases b with
  | true=>
   have i:=G9 k.symm;have d:=l.trans (Ad ⟨rfl,i⟩);subst d;replace i:=Hh i;go_wp2;go_ret;exact⟨rfl,f.low⟩
  | false=>
   have i:=Rl k.symm;have d:r=(Br T.vs T.pl.ab.length (dm.map ax.pl)).2:=l.trans ((Ab (λc=>i c.2)).trans ((Ab (by show ¬((2:Int)=1);decide)).trans ((Ab (by show ¬((2:Int)=6);decide)).trans (Ad rfl))));replace⟨d,i⟩:=H2 d i;have a:=ac s f.low;rw[<-aE.out]at a;replace a:=Hh a;go_wp2_with (go_at_call 58;(with_reducible refine(a.out).mono ?_);rintro e w3 ⟨v,rfl,_,_,g⟩;replace g:=Hh g);go_ret;exact⟨by rw[d.out];rfl,f.low.trans (g.mono f.low.size)⟩
 .cases b with
  | true=>
   have i:=G9 k.symm;have d:=l.trans (Ad ⟨rfl,i⟩);subst d;replace i:=Hh i;go_wp2;go_ret;exact⟨rfl,f.low⟩
  | false=>
   have i:=Rl k.symm;have d:r=Ju T.pl ⟨3,ai,tick,ah,seq,cq,attempt,node,br⟩:=l.trans ((Ab (λc=>i c.2)).trans ((Ab (by show ¬((3:Int)=1);decide)).trans ((Ab (by show ¬((3:Int)=6);decide)).trans ((Ab (by show ¬((3:Int)=2);decide)).trans (Ab (by show ¬((8:Int)<=3/\(3:Int)<=11);decide))))));replace⟨d,i⟩:=H2 d i;have a:CS prog 60 #[K (O ⟨tb,0,I⟩),(Value.agg #[Z G 3,Z G ai,Z G tick,Z G ah,Z G seq,Z G cq,Z G attempt,Z G node,Z G br,V so m sc])] s (Iq s r):=(by rw[d.out];exact p.out as9 s f.low);replace a:=Hh a;go_wp2_with (go_at_call 60;(with_reducible refine(a.out).mono ?_);rintro e w3 ⟨rfl,g⟩;replace g:=Hh g);go_ret;exact⟨rfl,f.low.trans (g.mono f.low.size)⟩
 .cases b with
  | true=>
   have i:=G9 k.symm;have d:=l.trans (Ad ⟨rfl,i⟩);subst d;replace i:=Hh i;go_wp2;go_ret;exact⟨rfl,f.low⟩
  | false=>
   have i:=Rl k.symm;have d:r=Ju T.pl ⟨4,ai,tick,ah,seq,cq,attempt,node,br⟩:=l.trans ((Ab (λc=>i c.2)).trans ((Ab (by show ¬((4:Int)=1);decide)).trans ((Ab (by show ¬((4:Int)=6);decide)).trans ((Ab (by show ¬((4:Int)=2);decide)).trans (Ab (by show ¬((8:Int)<=4/\(4:Int)<=11);decide))))));replace⟨d,i⟩:=H2 d i;have a:CS prog 60 #[K (O ⟨tb,0,I⟩),(Value.agg #[Z G 4,Z G ai,Z G tick,Z G ah,Z G seq,Z G cq,Z G attempt,Z G node,Z G br,V so m sc])] s (Iq s r):=(by rw[d.out];exact p.out as9 s f.low);replace a:=Hh a;go_wp2_with (go_at_call 60;(with_reducible refine(a.out).mono ?_);rintro e w3 ⟨rfl,g⟩;replace g:=Hh g);go_ret;exact⟨rfl,f.low.trans (g.mono f.low.size)⟩
 .cases b with
  | true=>
   have i:=G9 k.symm;have d:=l.trans (Ad ⟨rfl,i⟩);subst d;replace i:=Hh i;go_wp2;go_ret;exact⟨rfl,f.low⟩
  | false=>
   have i:=Rl k.symm;have d:r=Ju T.pl ⟨5,ai,tick,ah,seq,cq,attempt,node,br⟩:=l.trans ((Ab (λc=>i c.2)).trans ((Ab (by show ¬((5:Int)=1);decide)).trans ((Ab (by show ¬((5:Int)=6);decide)).trans ((Ab (by show ¬((5:Int)=2);decide)).trans (Ab (by show ¬((8:Int)<=5/\(5:Int)<=11);decide))))));replace⟨d,i⟩:=H2 d i;have a:CS prog 60 #[K (O ⟨tb,0,I⟩),(Value.agg #[Z G 5,Z G ai,Z G tick,Z G ah,Z G seq,Z G cq,Z G attempt,Z G node,Z G br,V so m sc])] s (Iq s r):=(by rw[d.out];exact p.out as9 s f.low);replace a:=Hh a;go_wp2_with (go_at_call 60;(with_reducible refine(a.out).mono ?_);rintro e w3 ⟨rfl,g⟩;replace g:=Hh g);go_ret;exact⟨rfl,f.low.trans (g.mono f.low.size)⟩
 .exact absurd o.out ad9
 .exact absurd o.out ad9
 .exact absurd o.out ad9
 .exact absurd o.out ad9
 .cases b with
  | true=>
   have i:=G9 k.symm;have d:=l.trans (Ad ⟨rfl,i⟩);subst d;replace i:=Hh i;go_wp2;go_ret;exact⟨rfl,f.low⟩
  | false=>
   have i:=Rl k.symm;have d:r=Lb T.pl ⟨10,ai,tick,ah,seq,cq,attempt,node,br⟩:=l.trans ((Ab (λc=>i c.2)).trans ((Ab (by show ¬((10:Int)=1);decide)).trans ((Ab (by show ¬((10:Int)=6);decide)).trans ((Ab (by show ¬((10:Int)=2);decide)).trans (Ad (by show((8:Int)<=10/\(10:Int)<=11);decide))))));replace⟨d,i⟩:=H2 d i;have a:CS prog 59 #[K (O ⟨tb,0,I⟩),(Value.agg #[Z G 10,Z G ai,Z G tick,Z G ah,Z G seq,Z G cq,Z G attempt,Z G node,Z G br,V so m sc])] s (Iq s r):=(by rw[d.out];exact u.out as9 s f.low);replace a:=Hh a;go_wp2_with (go_at_call 59;(with_reducible refine(a.out).mono ?_);rintro e w3 ⟨rfl,g⟩;replace g:=Hh g);go_ret;exact⟨rfl,f.low.trans (g.mono f.low.size)⟩
 .cases b with
  | true=>
   have i:=G9 k.symm;have d:=l.trans (Ad ⟨rfl,i⟩);subst d;replace i:=Hh i;go_wp2;go_ret;exact⟨rfl,f.low⟩
  | false=>
   have i:=Rl k.symm;have d:r=Lb T.pl ⟨11,ai,tick,ah,seq,cq,attempt,node,br⟩:=l.trans ((Ab (λc=>i c.2)).trans ((Ab (by show ¬((11:Int)=1);decide)).trans ((Ab (by show ¬((11:Int)=6);decide)).trans ((Ab (by show ¬((11:Int)=2);decide)).trans (Ad (by show((8:Int)<=11/\(11:Int)<=11);decide))))));replace⟨d,i⟩:=H2 d i;have a:CS prog 59 #[K (O ⟨tb,0,I⟩),(Value.agg #[Z G 11,Z G ai,Z G tick,Z G ah,Z G seq,Z G cq,Z G attempt,Z G node,Z G br,V so m sc])] s (Iq s r):=(by rw[d.out];exact u.out as9 s f.low);replace a:=Hh a;go_wp2_with (go_at_call 59;(with_reducible refine(a.out).mono ?_);rintro e w3 ⟨rfl,g⟩;replace g:=Hh g);go_ret;exact⟨rfl,f.low.trans (g.mono f.low.size)⟩
def Alc {w:WD} {T:Tv} (x:dt) (h:Al w T) (hj:T.js.length<=1000000) (hx:x.ok w) :
  CS prog 31 #[K (O ⟨T.tb,0,I⟩),x.val] w (Iq w (Ed T.vs T.pl x.pl)):=by
 by_cases aA:B7 x.n.kind=true
 .exact Azl x h hj hx aA
 obtain⟨r,hr⟩:=Ex (Ed T.vs T.pl x.pl);rw[<-hr];have am:=L9.new w x;have al:=Af6 x _ (am.ok hx);by_cases hm:Ew x.pl=true;rotate_left
 .have aE:Ew x.pl=false:=by simpa using hm
  rw[Xr aE]at al;have aO:r=130:=by rw[hr];unfold Ed;rw[Ad aE]
  subst aO;obtain⟨⟨p,ai,tick,ah,seq,cq,attempt,node,br⟩,so,m,sc,dm⟩:=x;replace⟨am,al,hm,aE,hr,h,hx⟩:=H7 am al hm aE hr h hx;go_enter M3,M0;go_wp2_with fail;refine al.mono ?_;rintro e w1 ⟨rfl,i⟩;have b:=am.below i;replace⟨b,i⟩:=H2 b i;go_wp2;go_ret;exact⟨rfl,b.low⟩
 rw[Af3 hm]at al;obtain⟨hk,aK,f1,f2,_,_⟩:=Te hm;have aL:=hx.dm.len;have aH:x.m<=1000:=by have:x.pl.specs.length=x.dm.length:=As _;omega
 have aD:∀W,BW w.heap.size w W->CS prog 58 #[K (O ⟨T.tb,0,I⟩),V x.so x.m x.c] W (Gv (Br T.vs T.js.length (x.dm.map ax.pl)) W):=λW hW=>Ac6 (h.low hW) h.dp.ok hj x.so x.m x.c x.dm (hx.dm.low hW) aH;have av:(x.n.kind=8\/x.n.kind=9\/x.n.kind=10\/x.n.kind=11)->∀W,BW w.heap.size w W->CS prog 59 #[K (O ⟨T.tb,0,I⟩),x.val] W (Iq W (Lb T.pl x.n)):=λhk W hW=>Akf x (h.low hW) (f2 (.inr hk)) hk;have aB:(x.n.kind=3\/x.n.kind=4\/x.n.kind=5\/x.n.kind=7)->∀W,BW w.heap.size w W->CS prog 60 #[K (O ⟨T.tb,0,I⟩),x.val] W (Iq W (Ju T.pl x.n)):=λhk W hW=>Akg x (h.low hW) (f1 hk);have aI:=hx.xj 3;obtain⟨⟨cs,ce,cf,aJ⟩,aG⟩:∃c,c=D2 T.cls x.n.ah:=⟨_,rfl⟩
 have aC:∀W,Al W T->(Instr.lookup 108 (.map (O T.mb)) (Z G x.n.ah) false).run prog W=.ok (Gx ⟨cs,ce,cf,aJ⟩) W:=λW hW=>by
  rw[aG];exact Acw hW.cls aI.1 aI.2
 unfold Gx at aC
 have ap:r=Alb T.vs T.pl x.pl cs:=by
  rw[hr];unfold Ed;rw[Ab (by rw[hm];simp)]
  have:(D2 T.pl.cls x.pl.n.ah).seq=cs:=by show(D2 T.cls x.n.ah).seq=cs;rw[<-aG]
  rw[this];rfl
 obtain⟨tb,aF⟩:=Ex (T.tb);obtain⟨aM,ad⟩:=Ex (T.ai);obtain⟨aN,af⟩:=Ex (T.tick)
 have ac:∀W,Al W T->W.cell? ⟨tb,0,I⟩=O (Z G aM)/\W.cell? ⟨tb,1,I⟩=O (Z G aN)/\W.cell? ⟨tb,2,I⟩=O (.map (O T.mb)):=λW hW=>by
  rw[aF,ad,af];exact⟨Aa hW.head 0,Aa hW.head 1,Aa hW.head 2⟩
 rw[<-aF];rw[<-aF]at aD av aB;clear hr f1 f2 aF aG aI;obtain⟨⟨p,ai,tick,ah,seq,cq,attempt,node,br⟩,so,m,sc,dm⟩:=x;replace aC:∀W,Al W T->(Instr.lookup 108 (.map (O T.mb)) (Z G ah) false).run prog W=.ok (.agg #[Z G cs,Z G ce,Z G cf,Z G aJ]) W:=aC;replace hk:p=1\/p=2\/p=3\/p=4\/p=5\/p=6\/p=7\/p=8\/p=9\/p=10\/p=11:=hk;replace⟨am,al,hm,h,hx,aK,aL,aH⟩:=H8 am al hm h hx aK aL aH;replace⟨aD,av,aB,aC,ap,ac⟩:=H6 aD av aB aC ap ac;rcases hk with rfl|rfl|rfl|rfl|rfl|rfl|rfl|rfl|rfl|rfl|rfl
 .have ao:=Hh λW=>by
   have:=Pu 1 W;rw[show B7 1=false from rfl]at this;exact this
  by_cases q:ai<=aM
  .have o:=ap.trans ((Ab (by show ¬(B7 1=true/\_);exact λc=>absurd c.1 ad9)).trans ((Ad rfl).trans (Ad (by rw[ad]at q;exact q))));subst o;clear ad af;go_enter M3,M0;go_wp2_with fail;refine al.mono ?_;rintro e w1 ⟨rfl,i⟩;have b:=am.below i;have f:=h.low b.low;obtain⟨c0,c1,c2⟩:=ac w1 f;obtain⟨t,u,v,y,z,e5,e6,e7,e8,e9⟩:=C10 b.box;(try dsimp only at t u v y z e5 e6 e7 e8 e9);replace⟨b,f,i⟩:=H3 b f i;go_upto_region 6 with fail;go_quiet (first|(go_at_call 46;(with_reducible exact Ks (ao.out _))));rename_i nq;obtain⟨s,k⟩:=Ex (w1.drewN nq);have g:BW w1.heap.size w1 s:=(by rw[k];exact A6 _ w1 nq);have a:=b.below g;have j:=f.low g;rw[<-k];clear k c0 c1 c2;clear t u v y z e5 e6 e7 e8 e9;obtain⟨c0,c1,c2⟩:=ac s j;obtain⟨t,u,v,y,z,e5,e6,e7,e8,e9⟩:=C10 a.box;(try dsimp only at t u v y z e5 e6 e7 e8 e9);have d:=λn=>a.low.trans ((A6 _ s n).mono a.low.size);replace⟨g,a,j,d⟩:=H4 g a j d;go_upto_region 9 with fail;go_quiet (fail);go_wp2;go_ret;exact⟨rfl,d _⟩
  .have o:=ap.trans ((Ab (by show ¬(B7 1=true/\_);exact λc=>absurd c.1 ad9)).trans ((Ad rfl).trans (Ab (by rw[ad]at q;exact q))));subst o;clear ad af;go_enter M3,M0;go_wp2_with fail;refine al.mono ?_;rintro e w1 ⟨rfl,i⟩;have b:=am.below i;have f:=h.low b.low;obtain⟨c0,c1,c2⟩:=ac w1 f;obtain⟨t,u,v,y,z,e5,e6,e7,e8,e9⟩:=C10 b.box;(try dsimp only at t u v y z e5 e6 e7 e8 e9);replace⟨b,f,i⟩:=H3 b f i;go_upto_region 6 with fail;go_quiet (first|(go_at_call 46;(with_reducible exact Ks (ao.out _))));rename_i nq;obtain⟨s,k⟩:=Ex (w1.drewN nq);have g:BW w1.heap.size w1 s:=(by rw[k];exact A6 _ w1 nq);have a:=b.below g;have j:=f.low g;rw[<-k];clear k c0 c1 c2;clear t u v y z e5 e6 e7 e8 e9;obtain⟨c0,c1,c2⟩:=ac s j;obtain⟨t,u,v,y,z,e5,e6,e7,e8,e9⟩:=C10 a.box;(try dsimp only at t u v y z e5 e6 e7 e8 e9);have d:=λn=>a.low.trans ((A6 _ s n).mono a.low.size);replace⟨g,a,j,d⟩:=H4 g a j d;go_upto_region 9 with fail;go_quiet (fail);go_wp2;go_ret;exact⟨rfl,d _⟩
 .exact absurd rfl aA
 .exact absurd rfl aA
 .exact absurd rfl aA
 .exact absurd rfl aA
 .have ao:=Hh λW=>by
   have:=Pu 6 W;rw[show B7 6=false from rfl]at this;exact this
  by_cases q:tick<=aN
  .have o:=ap.trans ((Ab (by show ¬(B7 6=true/\_);exact λc=>absurd c.1 ad9)).trans ((Ab (by show ¬((6:Int)=1);decide)).trans ((Ad rfl).trans (Ad (by rw[af]at q;exact q)))));subst o;clear ad af;go_enter M3,M0;go_wp2_with fail;refine al.mono ?_;rintro e w1 ⟨rfl,i⟩;have b:=am.below i;have f:=h.low b.low;obtain⟨c0,c1,c2⟩:=ac w1 f;obtain⟨t,u,v,y,z,e5,e6,e7,e8,e9⟩:=C10 b.box;(try dsimp only at t u v y z e5 e6 e7 e8 e9);replace⟨b,f,i⟩:=H3 b f i;go_upto_region 6 with fail;go_quiet (first|(go_at_call 46;(with_reducible exact Ks (ao.out _))));rename_i nq;obtain⟨s,k⟩:=Ex (w1.drewN nq);have g:BW w1.heap.size w1 s:=(by rw[k];exact A6 _ w1 nq);have a:=b.below g;have j:=f.low g;rw[<-k];clear k c0 c1 c2;clear t u v y z e5 e6 e7 e8 e9;obtain⟨c0,c1,c2⟩:=ac s j;obtain⟨t,u,v,y,z,e5,e6,e7,e8,e9⟩:=C10 a.box;(try dsimp only at t u v y z e5 e6 e7 e8 e9);have d:=λn=>a.low.trans ((A6 _ s n).mono a.low.size);replace⟨g,a,j,d⟩:=H4 g a j d;go_upto_region 11 with fail;go_quiet (fail);go_wp2;go_ret;exact⟨rfl,d _⟩
  .have o:=ap.trans ((Ab (by show ¬(B7 6=true/\_);exact λc=>absurd c.1 ad9)).trans ((Ab (by show ¬((6:Int)=1);decide)).trans ((Ad rfl).trans (Ab (by rw[af]at q;exact q)))));subst o;clear ad af;go_enter M3,M0;go_wp2_with fail;refine al.mono ?_;rintro e w1 ⟨rfl,i⟩;have b:=am.below i;have f:=h.low b.low;obtain⟨c0,c1,c2⟩:=ac w1 f;obtain⟨t,u,v,y,z,e5,e6,e7,e8,e9⟩:=C10 b.box;(try dsimp only at t u v y z e5 e6 e7 e8 e9);replace⟨b,f,i⟩:=H3 b f i;go_upto_region 6 with fail;go_quiet (first|(go_at_call 46;(with_reducible exact Ks (ao.out _))));rename_i nq;obtain⟨s,k⟩:=Ex (w1.drewN nq);have g:BW w1.heap.size w1 s:=(by rw[k];exact A6 _ w1 nq);have a:=b.below g;have j:=f.low g;rw[<-k];clear k c0 c1 c2;clear t u v y z e5 e6 e7 e8 e9;obtain⟨c0,c1,c2⟩:=ac s j;obtain⟨t,u,v,y,z,e5,e6,e7,e8,e9⟩:=C10 a.box;(try dsimp only at t u v y z e5 e6 e7 e8 e9);have d:=λn=>a.low.trans ((A6 _ s n).mono a.low.size);replace⟨g,a,j,d⟩:=H4 g a j d;go_upto_region 11 with fail;go_quiet (fail);go_wp2;go_ret;exact⟨rfl,d _⟩
 .have ao:=Hh λW=>by
   have:=Pu 7 W;rw[show B7 7=false from rfl]at this;exact this
  have o:r=Ju T.pl ⟨7,ai,tick,ah,seq,cq,attempt,node,br⟩:=ap.trans ((Ab (by show ¬(B7 7=true/\_);exact λc=>absurd c.1 ad9)).trans ((Ab (by show ¬((7:Int)=1);decide)).trans ((Ab (by show ¬((7:Int)=6);decide)).trans ((Ab (by show ¬((7:Int)=2);decide)).trans (Ab (by show ¬((8:Int)<=7/\(7:Int)<=11);decide))))));clear ad af;replace o:=Hh o;go_enter M3,M0;go_wp2_with fail;refine al.mono ?_;rintro e w1 ⟨rfl,i⟩;have b:=am.below i;have f:=h.low b.low;obtain⟨c0,c1,c2⟩:=ac w1 f;obtain⟨t,u,v,y,z,e5,e6,e7,e8,e9⟩:=C10 b.box;(try dsimp only at t u v y z e5 e6 e7 e8 e9);replace⟨b,f,i⟩:=H3 b f i;go_upto_region 6 with fail;go_quiet (first|(go_at_call 46;(with_reducible exact Ks (ao.out _))));rename_i nq;obtain⟨s,k⟩:=Ex (w1.drewN nq);have g:BW w1.heap.size w1 s:=by rw[k];exact A6 _ w1 nq
  have a:=b.below g;have j:=f.low g;rw[<-k];clear k c0 c1 c2;clear t u v y z e5 e6 e7 e8 e9;obtain⟨c0,c1,c2⟩:=ac s j;obtain⟨t,u,v,y,z,e5,e6,e7,e8,e9⟩:=C10 a.box;(try dsimp only at t u v y z e5 e6 e7 e8 e9);have d:=λn=>a.low.trans ((A6 _ s n).mono a.low.size);replace⟨g,a,j,d⟩:=H4 g a j d;have l:CS prog 60 #[K (O ⟨tb,0,I⟩),(Value.agg #[Z G 7,Z G ai,Z G tick,Z G ah,Z G seq,Z G cq,Z G attempt,Z G node,Z G br,V so m sc])] s (Iq s r):=by rw[o.out];exact aB.out as9 s a.low
  replace l:=Hh l;go_wp2_with (go_at_call 60;(with_reducible refine(l.out).mono ?_);rintro e w3 ⟨rfl,an⟩;replace an:=Hh an);go_ret;exact⟨rfl,a.low.trans (an.mono a.low.size)⟩
 .have ao:=Hh λW=>by
   have:=Pu 8 W;rw[show B7 8=false from rfl]at this;exact this
  have o:r=Lb T.pl ⟨8,ai,tick,ah,seq,cq,attempt,node,br⟩:=ap.trans ((Ab (by show ¬(B7 8=true/\_);exact λc=>absurd c.1 ad9)).trans ((Ab (by show ¬((8:Int)=1);decide)).trans ((Ab (by show ¬((8:Int)=6);decide)).trans ((Ab (by show ¬((8:Int)=2);decide)).trans (Ad (by show((8:Int)<=8/\(8:Int)<=11);decide))))));clear ad af;replace o:=Hh o;go_enter M3,M0;go_wp2_with fail;refine al.mono ?_;rintro e w1 ⟨rfl,i⟩;have b:=am.below i;have f:=h.low b.low;obtain⟨c0,c1,c2⟩:=ac w1 f;obtain⟨t,u,v,y,z,e5,e6,e7,e8,e9⟩:=C10 b.box;(try dsimp only at t u v y z e5 e6 e7 e8 e9);replace⟨b,f,i⟩:=H3 b f i;go_upto_region 6 with fail;go_quiet (first|(go_at_call 46;(with_reducible exact Ks (ao.out _))));rename_i nq;obtain⟨s,k⟩:=Ex (w1.drewN nq);have g:BW w1.heap.size w1 s:=by rw[k];exact A6 _ w1 nq
  have a:=b.below g;have j:=f.low g;rw[<-k];clear k c0 c1 c2;clear t u v y z e5 e6 e7 e8 e9;obtain⟨c0,c1,c2⟩:=ac s j;obtain⟨t,u,v,y,z,e5,e6,e7,e8,e9⟩:=C10 a.box;(try dsimp only at t u v y z e5 e6 e7 e8 e9);have d:=λn=>a.low.trans ((A6 _ s n).mono a.low.size);replace⟨g,a,j,d⟩:=H4 g a j d;have l:CS prog 59 #[K (O ⟨tb,0,I⟩),(Value.agg #[Z G 8,Z G ai,Z G tick,Z G ah,Z G seq,Z G cq,Z G attempt,Z G node,Z G br,V so m sc])] s (Iq s r):=by rw[o.out];exact av.out as9 s a.low
  replace l:=Hh l;go_wp2_with (go_at_call 59;(with_reducible refine(l.out).mono ?_);rintro e w3 ⟨rfl,an⟩;replace an:=Hh an);go_ret;exact⟨rfl,a.low.trans (an.mono a.low.size)⟩
 .have ao:=Hh λW=>by
   have:=Pu 9 W;rw[show B7 9=false from rfl]at this;exact this
  have o:r=Lb T.pl ⟨9,ai,tick,ah,seq,cq,attempt,node,br⟩:=ap.trans ((Ab (by show ¬(B7 9=true/\_);exact λc=>absurd c.1 ad9)).trans ((Ab (by show ¬((9:Int)=1);decide)).trans ((Ab (by show ¬((9:Int)=6);decide)).trans ((Ab (by show ¬((9:Int)=2);decide)).trans (Ad (by show((8:Int)<=9/\(9:Int)<=11);decide))))));clear ad af;replace o:=Hh o;go_enter M3,M0;go_wp2_with fail;refine al.mono ?_;rintro e w1 ⟨rfl,i⟩;have b:=am.below i;have f:=h.low b.low;obtain⟨c0,c1,c2⟩:=ac w1 f;obtain⟨t,u,v,y,z,e5,e6,e7,e8,e9⟩:=C10 b.box;(try dsimp only at t u v y z e5 e6 e7 e8 e9);replace⟨b,f,i⟩:=H3 b f i;go_upto_region 6 with fail;go_quiet (first|(go_at_call 46;(with_reducible exact Ks (ao.out _))));rename_i nq;obtain⟨s,k⟩:=Ex (w1.drewN nq);have g:BW w1.heap.size w1 s:=by rw[k];exact A6 _ w1 nq
  have a:=b.below g;have j:=f.low g;rw[<-k];clear k c0 c1 c2;clear t u v y z e5 e6 e7 e8 e9;obtain⟨c0,c1,c2⟩:=ac s j;obtain⟨t,u,v,y,z,e5,e6,e7,e8,e9⟩:=C10 a.box;(try dsimp only at t u v y z e5 e6 e7 e8 e9);have d:=λn=>a.low.trans ((A6 _ s n).mono a.low.size);replace⟨g,a,j,d⟩:=H4 g a j d;have l:CS prog 59 #[K (O ⟨tb,0,I⟩),(Value.agg #[Z G 9,Z G ai,Z G tick,Z G ah,Z G seq,Z G cq,Z G attempt,Z G node,Z G br,V so m sc])] s (Iq s r):=by rw[o.out];exact av.out as9 s a.low
  replace l:=Hh l;go_wp2_with (go_at_call 59;(with_reducible refine(l.out).mono ?_);rintro e w3 ⟨rfl,an⟩;replace an:=Hh an);go_ret;exact⟨rfl,a.low.trans (an.mono a.low.size)⟩
 .exact absurd rfl aA
 .exact absurd rfl aA
variable {w w':WD} {T T':Tv}
def Al.nw (h:Al w T) (l:List (Int×Cl)) (a:Mod (λk=>k=T.mb) w w') (o:K7 w' T.mb l):Al w' { T with cls:=l }:=by
 obtain⟨s,r,d⟩:=h.cls.ar
 have b:Mod T.bh w w':=a.mono λk _ e=>by rw[e];exact .inr (.inl rfl)
 have g:∀ {B size n:Nat} {m:TypeId} {v:VL} {xs:List VL},w.ownsRow B m size v n xs->∀k,v.ownBlock=O k->¬k=T.mb:=λq k p e=>by
  subst e;exact Aoy q d p
 refine⟨a.ar h.head (λe=>h.fj h.head e.symm),o,A8 h.nodes a (g h.nodes),A8 h.ab a (g h.ab),A8 h.az a (g h.az),λj f=>a.ar (h.box j f) (λe=>h.fj (h.box j f) e.symm),λj f=>?_,h.one,h.two,h.dp.mod b (λ_ c=>.inl c),h.same⟩;have i:=h.ok j f;exact i.mod b (λ_ _ c=>c) (A8 i.parts a (g i.parts))
def Em.py {f:WD} {b:Nat} (p:Em w T T' w') (h:Al f T) (h1:f.heap.size<=b) (q:b<w.heap.size) :
  ∀j,j∈T'.js->(0<j.2.sn->∀k o,j.2.so=O ⟨k,o,I⟩->k≠b)/\(0<j.2.gn->∀k o,j.2.go=O ⟨k,o,I⟩->k≠b):=λj m=>by
 obtain⟨g,l⟩:=p.dy j m;refine⟨λh0 k o e n=>?_,λh0 k o e n=>?_⟩
 .obtain ⟨i,d,a,c⟩:=g h0 k o e ao9;have:=La (h.ok i d).after.row a c;omega
 .obtain ⟨i,d,a,c⟩:=l h0 k o e ao9;have:=La (h.ok i d).aj.row a c;omega
def Ac7 (w:WD) (T:Tv) (P:dv×Cl×Int) (e:Ending) (w':WD):Prop:=e=Q (D #[Gu P.2.1,Z G P.2.2])/\∃T',Em w T T' w'/\T'.pl=P.1
def Nu (k:Int):Nat:=if k=1 then 81 else if k=2 then 82 else if k=6 then 83 else if k=7 then 84 else if k=8\/k=9\/k=10\/k=11 then 85 else 86
def Ald (a:Nat) (k:Int) (w:WD) (b:k=1\/k=2\/k=3\/k=4\/k=5\/k=6\/k=7\/k=8\/k=9\/k=10\/k=11) :
  CS prog 45 #[K (O ⟨a,0,I⟩),Z G k] w λe w'=>e=Q (.func (.func (Nu k)) #[K (O ⟨a,0,I⟩)] #[])/\w'=w:=by
 rcases b with rfl|rfl|rfl|rfl|rfl|rfl|rfl|rfl|rfl|rfl|rfl
 all_goals
  go_enter func45,ntmps45;go_wp2;go_ret;exact⟨rfl,rfl⟩
end
section
open Go.RowKit Go.Maps Go.Lib
variable{T b:Tv}{w:WD}
def Em.qk {w c:WD} {T d:Tv} (h:Al w T) (a:Em w T d c) (n:∀j,j∈d.js->(0<j.2.sn->∀k o,j.2.so=O ⟨k,o,I⟩->k≠w.heap.size+1)/\(0<j.2.gn->∀k o,j.2.go=O ⟨k,o,I⟩->k≠w.heap.size+1)) {m a1 a2:VL} (b:c.heap[w.heap.size+1]?=O (J #[m,a1,a2] 35 (0,0))) (g i l:VL) :
  Em w T d (((c.setCell ⟨w.heap.size+1,0,I⟩ g).setCell ⟨w.heap.size+1,1,I⟩ i).setCell ⟨w.heap.size+1,2,I⟩ l):=by
 have f:=(((Mod.refl (λk=>k=w.heap.size+1) c).set _ 0 g rfl).set _ 1 i rfl).set _ 2 l rfl;have p:=Ac h.head;exact⟨a.at_.el b f (by rw[a.tb];omega) ad9 ad9 ad9 ad9 ad9 ad9 n,a.tb,a.fb,a.fm,a.fl,a.vs,a.bh,a.mod.then f (λk q e=>by omega),a.dy⟩
def Em.low {w w1 d:WD}  (a:Em w T b w1) (c:BW w1.heap.size w1 d):Em w T b d:=⟨a.at_.low c,a.tb,a.fb,a.fm,a.fl,a.vs,a.bh,a.mod.low c,a.dy⟩
def Em.back {w w1 i:WD} {T g:Tv} (a:Em w1 T g i) (d:BW w.heap.size w w1):Em w T g i:=
 ⟨a.at_,a.tb,a.fb,a.fm,a.fl,a.vs,λb c=>(a.bh b c).imp id (λe=>Aw d.size e),(Mod.ag d).trans a.mod,λj h=>⟨λh0 k o e f=>(a.dy j h).1 h0 k o e (B4 f d.size),λh0 k o e f=>(a.dy j h).2 h0 k o e (B4 f d.size)⟩⟩
def Em.nw {w w1 d:WD}  (a:Em w T b w1) (l:List (Int×Cl)) (f:Mod (λk=>k=b.mb) w1 d) (g:K7 d b.mb l):Em w T { b with cls:=l } d:=
 ⟨a.at_.nw l f g,a.tb,a.fb,a.fm,a.fl,a.vs,a.bh,a.mod.then f (λk h e=>by
  rcases a.bh k (by rw[e];exact .inr (.inl rfl))with c|c
  .exact c
  .omega),a.dy⟩
def Em.same   (h:Al w T):Em w T T w:=⟨h,rfl,rfl,rfl,rfl,rfl,λ_ c=>.inl c,Mod.refl _ _,G6.refl _ _⟩
def Azm   (x:dt) (h:Al w T) (t:x.ok w) (l:T.js.length<=1000000) (p:Ed T.vs T.pl x.pl≠0) :
  CS prog 15 #[K (O ⟨T.tb,0,I⟩),x.val] w (Ac7 w T (D6 T.vs T.pl x.pl)):=by
 have n:D6 T.vs T.pl x.pl=(T.pl,⟨0,0,0,0⟩,Ed T.vs T.pl x.pl):=by unfold D6;rw[Ad p]
 rw[n];have a:=td.new w x;obtain⟨W0,g⟩:=Ex ((w.alloc (J x.cells 40 (0,0))).alloc (J #[Z G 0,Z G 0,Z G 0] 35 (0,0)));rw[<-g]at a;have q:=Alc x (h.low a.low) l (t.low a.low);obtain⟨r,i⟩:=Ex (Ed T.vs T.pl x.pl);rw[<-i]at q p;rw[<-i];have ad:(r != 0)=true:=by simpa using p
 obtain⟨⟨ac,ai,tick,ah,seq,cq,attempt,node,br⟩,so,m,sc,dm⟩:=x;obtain⟨u,y,z,e3,e4,e5,e6,e7,e8,e9⟩:=C10 a.box;(try dsimp only at u y z e3 e4 e5 e6 e7 e8 e9);clear n i p;replace⟨h,t,a,q,l⟩:=H5 h t a q l;go_enter func15,ntmps15;go_upto_region 1 with fail;rw[<-g];clear g;go_upto_region 3 with(go_at_call 31;(with_reducible refine(q.out).mono ?_);rintro e w1 ⟨rfl,f⟩;replace f:=Hh f);clear u y z e3 e4 e5 e6 e7 e8 e9;have b:=Ae f.out a.res (Ac a.res);have d:=a.low.trans (f.mono a.low.size);obtain⟨r0,r1,r2⟩:=C3 b;(try dsimp only at r0 r1 r2);have fr:=Ag b;have s:=((Em.same h.out).low d).qk h.out (λj l=>⟨λc k o e=>by have:=La (h.ok j l).after.row c e;omega,λc k o e=>by have:=La (h.ok j l).aj.row c e;omega⟩) b (Z G 0) (Z G 0) (Z G 0);replace⟨b,d,s⟩:=H3 b d s;go_wp2_with fail;exact An (v:=D #[Gu ⟨0,0,0,0⟩,Z G r]) (by simp[results,results15,go_sem,r0,r1,r2]) rfl ⟨rfl,T,s.out,rfl⟩
