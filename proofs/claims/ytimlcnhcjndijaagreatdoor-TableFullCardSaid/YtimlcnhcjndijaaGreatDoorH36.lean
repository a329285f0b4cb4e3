/- Parts of a proof. No condition. -/
import Derived.Test.YtimlcnhcjndijaaGreatDoorH35
set_option linter.all false
set_option maxRecDepth 100000
set_option maxHeartbeats 12800000
namespace Go.Proofs.YtimlcnhcjndijaaGreatDoor
open Option renaming some->O,none->I
open Value renaming pointer->K,int->Z,tuple->D,bool->Y,string->E,slice->V
open Ending renaming returned->Q
open IntKind renaming i64->G
open Obj renaming cells->J
open Go renaming World->WD,Calls->CS
open Go.RowKit renaming Below->BW
open Go.Proofs.Tryz
section
open Go.RowKit Go.Maps Go.Lib
variable {w0 w w':WD} {T T':Tv}
def F9.vu (h:F9 w0 T w) {j:Nat×aq} (a:j∈T.js):∃k,G7 T.vs T.pl.ab.length k j.2.pl:=by
 obtain⟨k,b⟩:=Dk a
 have:T.pl.ab[k]?=O j.2.pl:=by show(T.js.map λj=>j.2.pl)[k]?=_;simp[b]
 exact⟨k,h.ij.all k _ this⟩
def F9.rows (h:F9 w0 T w):(∀j,j∈T.js->Vf j.2)/\(∀j,j∈T.js->Akd j.2)/\T.js.length<=100:=by
 have i:∀j,j∈T.js->j.2.sn<=160/\j.2.gn<=16/\j.2.pn<=1000/\uz j.2.pl.sp.df 1099511627776:=λj f=>by
  obtain⟨k,g⟩:=h.vu f;have ok:=h.tab.ok j f;have p:=ok.after.row.len;have r:=ok.aj.row.len;have s:=I9 ok.parts;have t:=g.tg;have u:=Ak7 g.toFb;obtain⟨_,_,l,_,o,_⟩:=Fg (Io g.gd);obtain⟨_,m⟩:=C8.1 o;have m:j.2.pl.sp.nodes<=16:=m
  have n:j.2.pl.aj.length<=16:=by
   by_cases q:j.2.pl.start<0
   .rw [g.vi q];simp
   .have:=(g.aj ao9).1.len;omega
  refine⟨ao9,ao9,ao9,?_⟩;have l:j.2.pl.sp.df.right=true:=(Xo.1 l).1;have:=Pl.E6.1 l;unfold uz;omega
 refine⟨λj f=>?_,λj f=>?_,?_⟩
 .obtain ⟨a,b,c,_⟩:=i j f;exact⟨ao9,ao9,ao9⟩
 .obtain ⟨_,_,c,d⟩:=i j f;exact⟨d,c⟩
 .have:=h.ij.len;have e:T.pl.ab.length=T.js.length:=by simp[Tv.pl]
  omega
def Az0 (vs:List ay):Er vs ⟨0,-1,[],List.replicate vs.length oy,[]⟩:=by
 refine⟨λk j b=>by simp at b,as9,⟨Df 0,by show(0:Int)<=1099511627776;decide⟩,⟨Df _,by show(-1:Int)<1099511627776;decide⟩,as9,λn a=>?_,as9,λp c=>by simp at c⟩;have a:n∈List.replicate vs.length oy:=a;rw[(Wa.1 a).2];decide
def Alj {a f d:Nat} {vs:List ay} (o:lg w a f d vs) (c:Kd vs):CS prog 14 #[K (O ⟨a,0,I⟩)] w λe w'=>∃T:Tv,e=Q (K (O ⟨T.tb,0,I⟩))/\F9 w T w'/\T.vs=vs/\T.pl=⟨0,-1,[],List.replicate vs.length oy,[]⟩/\T.fb=a/\T.fm=f/\T.fl=d/\T.js=[]/\BW w.heap.size w w':=
 (Abt o c).mono λe w' h=>by
  obtain⟨T,n,q,i,p,h1,k,l,g,b⟩:=h;have m:(T.js.map λj=>j.2.pl)=[]:=by have:=Ca dv.ab b;exact this
  exact⟨T,n,⟨q,p,i,by rw[g,b];exact Az0 vs⟩,g,b,h1,k,l,by simpa using m,i⟩
def Tg (x:dt) (h:F9 w0 T w) (f:x.ok w) (d:∀g,Mod T.bh w g->L8 g x.so x.m x.dm) (a:x.n.kind=6->T.js.length<=20) {t':dv} {c:Cl} {r:Int} (b:Tf T.vs T.pl x.pl->D6 T.vs T.pl x.pl=(t',c,r)) :
  CS prog 15 #[K (O ⟨T.tb,0,I⟩),x.val] w λe w'=>∃T':Tv,e=Q (D #[Gu c,Z G r])/\F9 w0 T' w'/\T'.pl=t'/\Em w T T' w':=
 (Azz x h f d a).mono λe w' o=>by
  obtain⟨T',j,h1,i,k,l⟩:=o;rw[b l]at j i;exact⟨T',j,h1,i,k⟩
def Adb (h:F9 w0 T w) {k:Nat} {jp:Jb} (a:T.pl.ab[k]?=O jp) (id:Int) (l:id=(k:Int)+1) :
  CS prog 16 #[K (O ⟨T.tb,0,I⟩),Z G id] w λe w'=>∃y:aq,e=Q (D #[y.val,Y true])/\y.pl=jp/\BW w.heap.size w w':=
 (Axj h.tab h.rows.1 id).mono λe w' m=>by
  obtain⟨g,⟨d,_⟩|⟨f,j,y,n,b,i,d⟩⟩:=m
  .have:k<T.js.length:=by have:=(Ap.1 a).1;simpa[Tv.pl]using this
   omega
  .have c:f=k:=ao9;subst c;have a:(T.js.map λj=>j.2.pl)[f]?=O jp:=a;rw[Bm,b]at a;injection a with a;exact⟨y,i,by rw[d.pl];exact a,g⟩
def Az1 (h:F9 w0 T w) (node:Int):CS prog 17 #[K (O ⟨T.tb,0,I⟩),Z G node] w λe w'=>e=Q (Ub T.pl.ab node).val/\BW w.heap.size w w':=
 Axq h.tab h.rows.2.1 (by have:=h.rows.2.2;omega) node
def Adc (n:de) (w:WD) (a:∀i,-9223372036854775808<=n.get i/\n.get i<=9223372036854775807):(⟨n,I,0,0,[]⟩:dt).ok w:=⟨⟨rfl,Ar _,λi x b=>by simp at b⟩,Nat.le_refl _,a⟩
def Add (W:WD):L8 W I 0 []:=⟨rfl,ad9,λi x a=>by simp at a⟩
end
section
open Go.RowKit Go.Maps Go.Lib
def xh:ByteArray:=⟨#[110,49,32,50,44,50,44,48,44,48,32,109,97,105,110,10]⟩
def Nv:ByteArray:=⟨#[109,97,105,110]⟩
def Ga:ByteArray:=⟨#[97,110,97]⟩
def du:ay:=⟨⟨#[110,49]⟩,⟨2,2,0,0⟩,[Nv]⟩
def Az4:O3 xh=([du],0,0):=by kernel_rfl
def nz:dn:=⟨Ga,Nv,1,⟨1,0,0,0⟩,5,0,3,0,false,[]⟩
def oq (id:Int):Jb:=⟨id,{ nz with array:=1,after:=[] },⟨1,0,0,false,false⟩,-1,[],[]⟩
def xt (id:Int):Jb:=⟨id,{ nz with array:=1,after:=[] },⟨3,1,0,false,false⟩,1,[0],[(0,0)]⟩
def yy:Jb:=⟨1,{ nz with array:=1,after:=[] },⟨5,1,0,false,false⟩,1,[0],[]⟩
def xr:Jb:=⟨3,{ nz with array:=1,after:=[] },⟨1,0,0,false,false⟩,14,[0],[]⟩
def Aln:dv:=⟨0,-1,[],[⟨false,false,-1⟩],[]⟩
def Pv:dv:=⟨0,-1,[],[⟨true,false,0⟩],[]⟩
def Fs:dv:=⟨0,-1,[(1,⟨1,0,1,3⟩)],[⟨true,false,0⟩],[oq 1,oq 2,oq 3]⟩
def Y9:dv:=⟨0,1,[(1,⟨1,0,1,3⟩)],[⟨true,false,0⟩],[xt 1,xt 2,xr]⟩
def Adj:dv:=⟨0,1,[(1,⟨1,0,1,3⟩)],[⟨true,false,0⟩],[yy,xt 2,xr]⟩
def Az5:gh:=⟨⟨9,0,0,0,0,0,0,0,0⟩,[]⟩
def Adk:gh:=⟨⟨2,0,0,1,1,0,0,0,0⟩,[nz]⟩
def Za:gh:=⟨⟨6,0,1,0,0,0,0,0,0⟩,[]⟩
def Az6:gh:=⟨⟨7,0,0,0,0,1,1,0,1⟩,[]⟩
def Az7:D6 [du] Aln Az5=(Pv,⟨0,0,0,0⟩,0):=by kernel_rfl
def Az8:Fa 1 [3] [[]]=([[]],0):=by
 have h1:G4 ([([]:List Int)].map (Jy 1 [3]))=true:=by kernel_rfl
 have a:(C0 1 [3] ([]:List Int) 0).2=[]:=by kernel_rfl
 unfold Fa;rw[Ab ad9,Ab ad9,Ab ad9,Ab (by rw[h1];simp)];have b:G5 1 [3] []=[]:=by unfold G5;show Lib.compact (In (C0 1 [3] ([]:List Int) 0).2)=[];rw[a];simp[In,Lib.compact,Lib.compactUpTo]
 simp[b]
def Alo:Br [du] 0 [nz]=([[]],0):=by
 have h:Br [du] 0 [nz]=Fa 1 [3] [[]]:=by kernel_rfl
 rw[h,Az8]
def Az9:D6 [du] Pv Adk=(Fs,⟨0,0,1,3⟩,0):=by
 have h1:Ed [du] Pv Adk=(Br [du] 0 [nz]).2:=by kernel_rfl
 have a:J0 [du] Pv [nz]=(⟨0,-1,[],[⟨true,false,0⟩],[oq 1,oq 2,oq 3]⟩,⟨0,0,1,3⟩):=by
  unfold J0;rw[show Br [du] Pv.ab.length [nz]=([[]],0)from Alo]
  kernel_rfl
 have b:eo [du] Pv Adk=J0 [du] Pv [nz]:=by kernel_rfl
 unfold D6;rw[Ab (by rw[h1,Alo];simp),b,a];rfl
def A0a:D6 [du] Y9 Az6=(Adj,⟨0,0,0,0⟩,0):=by kernel_rfl
def A0b:Ub Adj.ab 0=⟨1,0,0,0⟩:=by kernel_rfl
def Alp:Da 1 Fs.ab=Fs.ab:=by kernel_rfl
def A0c:Bq Fs.ab=[⟨1,Ga,0,⟨1,0,0,0⟩⟩,⟨2,Ga,0,⟨1,0,0,0⟩⟩,⟨3,Ga,0,⟨1,0,0,0⟩⟩]:=by kernel_rfl
def Alq:Gz Fs.ab=[]:=by kernel_rfl
def A0d:Dq Fs.ab=[]:=by kernel_rfl
def Alr:ui { Fs with tick:=1 }=[true]:=by kernel_rfl
def Re:List dh:=[⟨1,Ga,0,⟨1,0,0,0⟩⟩,⟨2,Ga,0,⟨1,0,0,0⟩⟩,⟨3,Ga,0,⟨1,0,0,0⟩⟩]
def A0e:C2 [] Re=[⟨Ga,V4.zero,[0,1,2]⟩]:=by
 have h1:B8 Re Re.length=[⟨Ga,V4.zero,[0,1,2]⟩]:=by kernel_rfl
 have a:Gl Re [0,1,2]=[0,1,2]:=by unfold Gl;simp[List.mergeSort,List.MergeSort.Internal.splitInTwo,vy,A4,Re]
 unfold C2;rw[h1];simp[a]
def A0f (whole:V4) (b:whole=⟨2,2,0,0⟩):K8 whole [] Re=[0,1,2]:=by
 subst b;have a:Fk [⟨Ga,V4.zero,[0,1,2]⟩]=[Ga]:=by unfold Fk;simp[List.mergeSort_singleton,Ga]
 unfold K8;rw[A0e,a];rfl
def Als:Ez [du] Fs.ab=[Fr [du] (oq 1),Fr [du] (oq 2),Fr [du] (oq 3)]:=by
 unfold Ez;rw[A0c,A0d];rw[show([⟨1,Ga,0,⟨1,0,0,0⟩⟩,⟨2,Ga,0,⟨1,0,0,0⟩⟩,⟨3,Ga,0,⟨1,0,0,0⟩⟩]:List dh)=Re from rfl,A0f _ (by kernel_rfl)]
 kernel_rfl
def Adl (id:Int):Pl.Vh (Fr [du] (oq id)) ⟨1,0,0,0⟩ 13:=⟨by show Cj [du] Nv=[0];kernel_rfl,rfl,rfl,rfl,rfl⟩
def A0g (h:Rd [du] 1 [true] Fs.ab):Kn [du] 1 [true] Fs.ab=[(1,1,[0]),(2,1,[0]),(3,14,[0])]:=by
 unfold Rd at h;unfold Kn;rw[Alq,Als]at h;rw[Alq,Als];rcases h with⟨r,h1,d⟩|⟨a,c⟩
 .exact absurd (Pl.Az3 d ad9 ad9 ad9) h1
 .have e:=Pl.Az2 (a1:=Fr [du] (oq 1)) (a2:=Fr [du] (oq 2)) (a3:=Fr [du] (oq 3)) c (Adl 1) (Adl 2) (Adl 3);have b:=Ai4 c;rw[e]at b;exact b
def A0h (h:Tf [du] Fs Za):D6 [du] Fs Za=(Y9,⟨0,0,0,0⟩,0):=by
 have h1:Ed [du] Fs Za=0:=by kernel_rfl
 have a:=h h1 rfl;have a:Rd [du] 1 (ui { Fs with tick:=1 }) (Da 1 Fs.ab):=a;rw[Alr,Alp]at a;have b:eo [du] Fs Za=(S4 [du] Fs 1,⟨0,0,0,0⟩):=by kernel_rfl
 have c:S4 [du] Fs 1=Y9:=by
  unfold S4 Q3;rw[Alr,Alp,A0g a]
  kernel_rfl
 unfold D6;rw[Ab (by rw[h1];simp),b,c];rfl
def Alt:Kd [du]:=by
 have h:=An7 (I4 xh) [] An5;have e:(Bi [] (I4 xh)).1=[du]:=by kernel_rfl
 rw[e]at h;exact h
def Alu (w:WD) (f:Mx w):CS prog 13 #[E ⟨#[110,49,32,50,44,50,44,48,44,48,32,109,97,105,110,10]⟩] w λe w'=>e=Q (D #[K (O ⟨w.heap.size+4,0,I⟩),Z G 0,Z G 0])/\BW w.heap.size w w'/\lg w' (w.heap.size+4) (w.heap.size+3) (w.heap.size+7) [du]:=
 (Anu xh w f).mono λe w' h=>by
  obtain⟨p,b,c,a⟩:=h;rw[Az4]at b a;rcases a with⟨h1,_⟩|⟨_,rfl,d⟩
  .exact absurd rfl h1
  .exact ⟨b,c,d⟩
def Adm {w:WD} {T:Tv} (h:Al w T) {b:Nat} {xs:List ax} (f:w.heap[b]?=O (J (Aq ax.cells xs).toArray 33 (0,0))) (m:xs.length<=1000) (d:∀a,Mod T.bh w a->∀x,x∈xs->x.ok a):∀a,Mod T.bh w a->L8 a (O ⟨b,0,I⟩) xs.length xs:=λa k=>by
 have c:=k.ar f (h.off f ad9 ad9 ad9 ad9 ad9);refine⟨rfl,ao9,λi x g=>⟨b,0,rfl,Ac c,λj l=>?_,d a k x (Ai g)⟩⟩;have e:∀x:ax,(ax.cells x).size=13:=λ_=>rfl;rw[Dm,Aa c (i*13+j),Lp];exact I3 e xs g l
def A0i (w:WD) (hm:Mx w):CS prog 12 #[] w λe w'=>e=Q (Y true)/\BW w.heap.size w w':=by
 have bn:=Alu w hm;have bs:=Alt;replace⟨bn,bs⟩:=H2 bn bs;go_enter func12,ntmps12;go_wp2_with fail;refine bn.mono ?_;rintro e w1 ⟨rfl,aX,bl⟩;have bo:=Alj bl bs.out;replace⟨aX,bl,bo⟩:=H3 aX bl bo;go_wp2_with fail;refine bo.mono ?_;rintro e w2 ⟨T,rfl,ba,a6,aL,bP,bQ,bR,bJ,bH⟩;obtain⟨tb,ht⟩:=Ex (T.tb);rw[<-ht];replace aL:T.pl=Aln:=aL;clear bP bQ bR;replace⟨ba,a6,aL,bJ,bH,ht⟩:=H6 ba a6 aL bJ bH ht;go_upto_region 6 with fail;obtain⟨sb,bw⟩:=Ex (w2.heap.size);obtain⟨W3,aV⟩:=Ex (w2.alloc (J #[E ⟨#[97,110,97]⟩,E ⟨#[109,97,105,110]⟩,Z G 1,Z G 1,Z G 0,Z G 0,Z G 0,Z G 5,Z G 0,Z G 3,Z G 0,Y false,V I 0 0] 33 (0,0)));have bg:BW w2.heap.size w2 W3:=by rw[aV];exact Bn
 have a7:W3.heap[sb]?=O (J (⟨nz,I,0,0⟩:ax).cells 33 (0,0)):=by rw[aV,bw];exact Ah _ _
 have aP:=ba.drop bg;have f:=Tg ⟨⟨9,0,0,0,0,0,0,0,0⟩,I,0,0,[]⟩ aP (Adc _ _ (λi=>by unfold de.get;split<;>simp)) (λW' _=>Add W') (λc=>absurd c ad9) (t':=Pv) (c:=⟨0,0,0,0⟩) (r:=0) (by rw[a6.out,aL.out];exact λ_=>Az7);rw[<-ht.out]at f;rw[<-aV,<-bw];clear aV bw;replace⟨bg,a7,aP,f⟩:=H4 bg a7 aP f;go_wp2_with fail;refine f.mono ?_;rintro e w4 ⟨T4,rfl,bb,aM,aT⟩;have bA:=aT.mod.ar a7.out (aP.tab.off a7.out ad9 ad9 ad9 ad9 ad9);have a4:=aT.vs.trans a6.out;have a2:tb=T4.tb:=by rw[aT.tb];exact ht.out
 clear aT;replace⟨bb,aM,bA,a4,a2⟩:=H5 bb aM bA a4 a2;obtain⟨y0,y1,y2,y3,y4,y5,y6,y7,y8,y9,bL,bM,bN⟩:=C13 bA.out;(try dsimp only at y0 y1 y2 y3 y4 y5 y6 y7 y8 y9 bL bM bN);have bk:BW w4.heap.size w4 (w4.alloc (J #[E ⟨#[97,110,97]⟩,E ⟨#[109,97,105,110]⟩,Z G 1,Z G 1,Z G 0,Z G 0,Z G 0,Z G 5,Z G 0,Z G 3,Z G 0,Y false,V I 0 0] 33 (0,0))):=Bn;have bB:(w4.alloc (J #[E ⟨#[97,110,97]⟩,E ⟨#[109,97,105,110]⟩,Z G 1,Z G 1,Z G 0,Z G 0,Z G 0,Z G 5,Z G 0,Z G 3,Z G 0,Y false,V I 0 0] 33 (0,0))).heap[w4.heap.size]?=O (J (Aq ax.cells [(⟨nz,I,0,0⟩:ax)]).toArray 33 (0,0)):=Ah _ _;have aS:=bb.drop bk
 have av:=Adm aS.tab bB ad9 (λW' _ x hx=>by
  rw[Gc.1 hx]
  exact⟨Qi W',Nat.le_refl _,ad9,ad9⟩)
 have f:=Tg ⟨⟨2,0,0,1,1,0,0,0,0⟩,O ⟨w4.heap.size,0,I⟩,1,1,[⟨nz,I,0,0⟩]⟩ aS ⟨av _ (Mod.refl _ _),Nat.le_refl _,λi=>by unfold de.get;split<;>simp⟩ av (λc=>absurd (show(2:Int)=6 from c) ad9) (t':=Fs) (c:=⟨0,0,1,3⟩) (r:=0) (by rw[a4.out,aM.out];exact λ_=>Az9);rw[<-a2.out]at f;replace⟨bk,bB,aS,av,f⟩:=H5 bk bB aS av f;go_wp2_with fail;refine f.mono ?_;rintro e w6 ⟨T6,rfl,bc,ad,be⟩;have a5:=be.vs.trans a4.out;have a3:tb=T6.tb:=by rw[be.tb];exact a2.out
 clear be y0 y1 y2 y3 y4 y5 y6 y7 y8 y9 bL bM bN;replace⟨bc,ad,a5,a3⟩:=H4 bc ad a5 a3;go_upto_region 8 with fail;obtain⟨rb,bv⟩:=Ex (w6.heap.size);obtain⟨W7,aW⟩:=Ex (w6.alloc (J #[Z G 0,Z G 1,Z G 3] 35 (0,0)));have bi:BW w6.heap.size w6 W7:=by rw[aW];exact Bn
 have aZ:W7.heap[rb]?=O (J #[Z G 0,Z G 1,Z G 3] 35 (0,0)):=by rw[aW,bv];exact Ah _ _
 have aQ:=bc.drop bi;have bI:T6.js.length=3:=by have:=Ca (λt:dv=>t.ab.length) ad.out;simpa[Tv.pl,Fs]using this
 have f:=Tg ⟨⟨6,0,1,0,0,0,0,0,0⟩,I,0,0,[]⟩ aQ (Adc _ _ (λi=>by unfold de.get;split<;>simp)) (λW' _=>Add W') (λ_=>by omega) (t':=Y9) (c:=⟨0,0,0,0⟩) (r:=0) (by rw[a5.out,ad.out];exact A0h);rw[<-a3.out]at f;rw[<-aW,<-bv];clear aW bv bI;replace⟨bi,aZ,aQ,f⟩:=H4 bi aZ aQ f;go_wp2_with fail;refine f.mono ?_;rintro e w8 ⟨T8,rfl,bd,af,aU⟩;have a0:=aU.mod.ar aZ.out (aQ.tab.off aZ.out ad9 ad9 ad9 ad9 ad9);have bx:=aU.vs.trans a5.out;have aO:tb=T8.tb:=by rw[aU.tb];exact a3.out
 clear aU;replace⟨bd,af,a0,bx,aO⟩:=H5 bd af a0 bx aO;go_upto_region 9 with fail;obtain⟨W9,bf⟩:=Ex (w8.alloc (J #[Z G 0,Z G 0,Z G 0] 35 (0,0)));have aY:BW w8.heap.size w8 W9:=by rw[bf];exact Bn
 obtain⟨q8,bK⟩:=Ex (w8.heap.size);have a1:=Ae aY a0.out (Ac a0.out);have aR:=bd.drop aY;have kj:=Adb aR (k:=2) (jp:=xr) (by rw[af.out];rfl) 3 rfl;rw[<-aO.out]at kj;rw[<-bf,<-bK];clear bf bK;replace⟨aY,a1,aR,kj⟩:=H4 aY a1 aR kj;go_wp2_with fail;refine kj.mono ?_;rintro e j ⟨y,rfl,hy,z⟩;have al:=Ae z a1.out (Ac a1.out);have o:=aR.drop z;have ys:y.pl.start=14:=by rw[hy];rfl
 have bE:y.pl.lf.st=1:=by rw[hy];rfl
 have aF:(j.alloc (J Jz 46 (0,0))).heap[j.heap.size]?=O (J aq.zero.cells 46 (0,0)):=Ah _ _;replace⟨al,o,z,hy,ys,bE,aF⟩:=H7 al o z hy ys bE aF;go_upto_region 10 with(refine Mv rfl 46 _ _ rfl j.heap.size y.cells rfl rfl 46 _ aF.out J1 rfl (On y) ?_);obtain⟨bG,hW⟩:=Ex ((j.alloc (J Jz 46 (0,0))).setRow j.heap.size y.cells);obtain⟨jb,m⟩:=Ex (j.heap.size);have b:BW j.heap.size j bG:=by rw[hW];exact Ps Bn Ln _
 have a:bG.heap[jb]?=O (J y.cells 46 (0,0)):=by rw[hW,m];exact Lv _ _ _ _ 46 (0,0) aF.out
 have n:¬T8.bh jb:=λc=>by have:=o.tab.nh c;omega
 rw[<-hW,<-m];clear hW m;have am:=Ae b al.out (Ac al.out);have p:=o.drop b;have f:=Tg ⟨⟨7,0,0,0,0,1,1,0,1⟩,I,0,0,[]⟩ p (Adc _ _ (λi=>by unfold de.get;split<;>simp)) (λW' _=>Add W') (λc=>absurd c ad9) (t':=Adj) (c:=⟨0,0,0,0⟩) (r:=0) (by rw[bx.out,af.out];exact λ_=>A0a);rw[<-aO.out]at f;clear b;replace⟨am,p,a,f,n⟩:=H5 am p a f n;go_wp2_with fail;refine f.mono ?_;rintro e a8 ⟨bF,rfl,aI,d,v⟩;have an:=v.mod.ar am.out (p.tab.off am.out ad9 ad9 ad9 ad9 ad9);have aB:=v.mod.ar a.out n.out;have aA:tb=bF.tb:=by rw[v.tb];exact aO.out
 clear v;replace⟨aI,d,an,aB,aA⟩:=H5 aI d an aB aA;go_upto_region 11 with fail;obtain⟨bO,aJ⟩:=Ex (a8.alloc (J #[Z G 0,Z G 0,Z G 0] 35 (0,0)));have g:BW a8.heap.size a8 bO:=by rw[aJ];exact Bn
 obtain⟨bS,a9⟩:=Ex (a8.heap.size);have ao:=Ae g an.out (Ac an.out);have aC:=Ae g aB.out (Ac aB.out);have q:=aI.drop g;have kj:=Adb q (k:=0) (jp:=yy) (by rw[d.out];rfl) 1 rfl;rw[<-aA.out]at kj;rw[<-aJ,<-a9];clear aJ a9;replace⟨g,ao,aC,q,kj⟩:=H5 g ao aC q kj;go_wp2_with fail;refine kj.mono ?_;rintro e l ⟨y2,rfl,bC,h⟩;have ap:=Ae h ao.out (Ac ao.out);have aD:=Ae h aC.out (Ac aC.out);have s:=q.drop h;have aG:(l.alloc (J Jz 46 (0,0))).heap[l.heap.size]?=O (J aq.zero.cells 46 (0,0)):=Ah _ _;replace⟨ap,aD,s,h,bC,aG⟩:=H6 ap aD s h bC aG;go_upto_region 12 with(refine Mv rfl 46 _ _ rfl l.heap.size y2.cells rfl rfl 46 _ aG.out J1 rfl (On y2) ?_);replace a:=a;clear a n;obtain⟨aH,hW⟩:=Ex ((l.alloc (J Jz 46 (0,0))).setRow l.heap.size y2.cells);obtain⟨bD,m⟩:=Ex (l.heap.size);have b:BW l.heap.size l aH:=by rw[hW];exact Ps Bn Ln _
 have a:aH.heap[bD]?=O (J y2.cells 46 (0,0)):=by rw[hW,m];exact Lv _ _ _ _ 46 (0,0) aG.out
 have n:¬bF.bh bD:=λc=>by have:=s.tab.nh c;omega
 rw[<-hW,<-m];clear hW m;have aN:=Ae b ap.out (Ac ap.out);have aE:=Ae b aD.out (Ac aD.out);have u:=s.drop b;obtain⟨b0,b1,b2⟩:=C3 aN;(try dsimp only at b0 b1 b2);have b3:aH.cell? ⟨jb,19,I⟩=O (Z G 14):=by rw[<-ys.out];exact Aa aE 19
 have b4:aH.cell? ⟨jb,14,I⟩=O (Z G 1):=by rw[<-bE.out];exact Aa aE 14
 have b5:aH.cell? ⟨bD,14,I⟩=O (Z G 5):=by
  have e:y2.pl.lf.st=5:=by rw[bC.out];rfl
  rw[<-e];exact Aa a 14
 have kb:=Az1 u 0;rw[d.out,<-aA.out,A0b]at kb;have ac:=aX.trans (u.low.mono aX.size);replace⟨b,aN,aE,u,a,kb,n,ac⟩:=H8 b aN aE u a kb n ac
 have hq:∀W:WD,(Op.equalIn 10000 30 (.agg #[Z G 1,Z G 0,Z G 0,Z G 0]) (.agg #[Z G 1,Z G 0,Z G 0,Z G 0])).run prog W=.ok true W:=λW=>by
  have:=Aez ⟨1,0,0,0⟩ ⟨1,0,0,0⟩ W;simpa using this
 go_wp2_with (go_at_call 17;(with_reducible refine(kb.out).mono ?_);rintro e bT ⟨rfl,aK⟩;replace aK:=Hh aK);go_ret;exact⟨rfl,ac.trans (aK.mono ac.size)⟩
def Cu (W A:Int):dn:=⟨Ga,Nv,1,⟨1,0,0,0⟩,W,0,A,0,false,[]⟩
def th (W:Int) (i:Nat):gh:=⟨⟨2,0,0,1,(i:Int)+1,0,0,0,0⟩,[Cu W 20]⟩
def vq (W A:Int):gh:=⟨⟨2,0,0,2,1,0,0,0,0⟩,[Cu W A]⟩
structure Vi (W:Int) (i:Nat) (t:dv):Prop where
 len:t.ab.length=20*i
 wall:∀j,j∈t.ab->j.sp.wall=W
 one:(D2 t.cls 1).seq=i
 two:(D2 t.cls 2).seq=0
 dy:∀j,j∈t.ab->j.sp.after=[]/\j.aj=[]
variable {W A:Int} {i:Nat} {t:dv}
def Adn (h1:1<=W/\W<=1000) (g:1<=A/\A<=20):Cb (Cu W A)=true:=by
 have a:C1 Ga=true:=by kernel_rfl
 have b:C1 Nv=true:=by kernel_rfl
 have c:Qc ⟨1,0,0,0⟩=true:=by kernel_rfl
 have d:=C8.2 h1;have e:=C8.2 g;have f:E1 ([]:List Int)=true:=by kernel_rfl
 unfold Cb Cu;simp only[a,b,c,d,e,f,Bool.true_and,Bool.and_true];decide
def A0j (h1:1<=W/\W<=1000) (c:1<=A/\A<=20):C9 (Cu W A) [du]=0:=by
 unfold C9;rw[Ab (by rw[Adn h1 c];simp)];have a:Cj [du] Nv=[0]:=by kernel_rfl
 have b:Nf [du] ⟨1,0,0,0⟩ [0]=1:=by kernel_rfl
 show(if Cj [du] Nv=[]then 81 else if (Nf [du] ⟨1,0,0,0⟩ (Cj [du] Nv):Int)<1 then 82 else 0)=(0:Int);rw[a,b];decide
def Alv (h1:1<=W/\W<=1000) (a:1<=A/\A<=20):[Cu W A].find? (λs=>decide (C9 s [du]≠0))=I:=by simp[A0j h1 a]
def Alw:F6 [Cu W A]=A:=by simp[F6,Cu]
def A0k (h1:1<=W/\W<=1000) (c:i<5):Br [du] (20*i) [Cu W 20]=([[]],0):=by
 unfold Br;rw[Alv h1 ad9];show(if 100<((20*i:Nat):Int)+F6 [Cu W 20]then(([],140):List (List Int)×Int)else Fa (((20*i:Nat):Int)+1) [20] [[]])=_;rw[Ab (by rw[Alw];omega)]
 have b:G4 (([[]]:List (List Int)).map (Jy (((20*i:Nat):Int)+1) [20]))=true:=by
  show G4 [[]]=true
  kernel_rfl
 unfold Fa;rw[Ab (by simp;omega),Ab ad9,Ab as9,Ab (by rw[b];simp)];have a:G5 (((20*i:Nat):Int)+1) [20] []=[]:=by unfold G5;show Lib.compact (In [])=[];simp[In,Lib.compact,Lib.compactUpTo]
 show([G5 (((20*i:Nat):Int)+1) [20] []],(0:Int))=_;rw[a]
def A0l (h1:1<=W/\W<=1000) (d:i<5):Ew (th W i)=true:=by
 have b:Di (th W i).n.kind=O [Cs,Ct]:=by kernel_rfl
 have c:=Adn h1 (A:=20) ad9;have a:i=0\/i=1\/i=2\/i=3\/i=4:=ao9
 rw[Xs b (e':=⟨2,0,0,0,0,0,0,0,0⟩) (by rcases a with rfl|rfl|rfl|rfl|rfl<;>kernel_rfl)];simp[th,c,Ql,Jt]
def A0m (h1:1<=W/\W<=1000) (a:1<=A/\A<=20):Ew (vq W A)=true:=by
 have b:Di (vq W A).n.kind=O [Cs,Ct]:=by kernel_rfl
 have c:=Adn h1 a;rw[Xs b (e':=⟨2,0,0,0,0,0,0,0,0⟩) (by kernel_rfl)];simp[vq,c,Ql,Jt]
def Alx (js:List Jb) (h:∀j,j∈js->j.sp.wall=W):∀n,∀j,j∈Fm (Cu W 20) [] js n->j.sp.wall=W
 | 0=>h
 | n+1=>λj a=>by
  rcases C7.1 (show j∈Fm (Cu W 20) [] js n++[Mb (Cu W 20) [] ((js.length+n+1:Nat):Int)]from a)with a|a
  .exact Alx js h n j a
  .rw [Gc.1 a];rfl
def Aly (js:List Jb) (h:∀j,j∈js->j.sp.after=[]/\j.aj=[]):∀n,∀j,j∈Fm (Cu W 20) [] js n->j.sp.after=[]/\j.aj=[]
 | 0=>h
 | n+1=>λj a=>by
  rcases C7.1 (show j∈Fm (Cu W 20) [] js n++[Mb (Cu W 20) [] ((js.length+n+1:Nat):Int)]from a)with a|a
  .exact Aly js h n j a
  .rw [Gc.1 a];exact⟨rfl,rfl⟩
def A0n {js:List Jb} (h:∀j,j∈js->j.sp.after=[]):Co js=js:=
 Aba (P:=λl=>l=js) (λl k e a=>by
  subst e;exfalso;unfold F1 at a
  cases hk:l[k]? with
  | none=>rw[hk]at a;simp at a
  | some j=>
   rw[hk]at a;have h0:=h j (Ai hk);have b:O6 l j=false:=by unfold O6;rw[h0];rfl
   simp[b]at a) rfl
def Alz {id x:Int} {c:Cl}:∀(l:List (Int×Cl)),(∀p,p∈l->p.1≠id)->(Kf (id,c) l).find? (λp=>decide (p.1=x))=if id=x then O (id,c)else l.find? λp=>decide (p.1=x)
 | [],_=>by
  by_cases e:id=x
  .subst e;simp[Kf]
  .simp [Kf,e]
 | y :: l,h=>by
  unfold Kf;split
  .by_cases e:id=x
   .subst e;simp
   .rw [Vr (by simpa using e),Ab e]
  .have b:=Alz (id:=id) (x:=x) (c:=c) l λp a=>h p (Dj _ a);by_cases q:y.1=x
   .have e:¬id=x:=λe=>h y (Ef ..) (by rw[q,e]);rw[Ab e,List.find?_cons_of_pos (by simpa using q),List.find?_cons_of_pos (by simpa using q)]
   .rw [Vr (by simpa using q),Vr (by simpa using q)];exact b
def Al0 (l:List (Int×Cl)) (id:Int) (c:Cl) (x:Int):D2 (F2 l id c) x=if id=x then c else D2 l x:=by
 unfold D2 F2;rw[Alz _ λp a=>by simpa using(N5.1 a).2];split
 .rfl
 .rename_i e;rw[List.find?_filter];congr 2;apply Ca (List.find? · l) ∘ funext;intro p;by_cases q:p.1=x
  .have b:¬x=id:=λh=>e h.symm;simp[q,b]
  .simp [q]
def A0o (h:Vi W i t) (h1:1<=W/\W<=1000) (n:i<5):∃t',D6 [du] t (th W i)=(t',⟨0,0,20*(i:Int)+1,20*(i:Int)+20⟩,0)/\Vi W (i+1) t':=by
 have d:Br [du] t.ab.length [Cu W 20]=([[]],0):=by rw[h.len];exact A0k h1 n
 have q:Ed [du] t (th W i)=0:=by
  unfold Ed
  rw[Ab (by rw[A0l h1 n];simp),Ab (by
   intro c;have r:((i:Int)+1)<=(D2 t.cls 1).seq:=c.2;rw[h.one]at r
   omega),Ab (by show ¬(2:Int)=1;decide),Ab (by show ¬(2:Int)=6;decide),Ad (by show(2:Int)=2;rfl)]
  show(Br [du] t.ab.length [Cu W 20]).2=0;rw[d]
 obtain⟨js,b⟩:=Ex (Fm (Cu W 20) [] t.ab 20);have p:js.length=20*i+20:=by rw[b,U9,h.len]
 have f:J0 [du] t [Cu W 20]=(t.dx (Co js),⟨0,0,20*(i:Int)+1,20*(i:Int)+20⟩):=by
  unfold J0;rw[d];have e:Eb ([Cu W 20].zip ([[]]:List (List Int))) t.ab=js:=by rw[b];rfl
  show(t.dx (Co (Eb ([Cu W 20].zip ([[]]:List (List Int))) t.ab)),(⟨0,0,(t.ab.length:Int)+1,((Eb ([Cu W 20].zip ([[]]:List (List Int))) t.ab).length:Int)⟩:Cl))=_;rw[e,h.len,p];congr 2
  all_goals omega
 have g:eo [du] t (th W i)=J0 [du] t [Cu W 20]:=by unfold eo;rw[Ab (by show ¬(2:Int)=1;decide),Ad (by show(2:Int)=2;rfl)];rfl
 refine⟨(D6 [du] t (th W i)).1,?_,?_⟩
 .unfold D6;rw[Ab (by simpa using q),g,f]
 .have e:(D6 [du] t (th W i)).1={ t.dx (Co js)with cls:=F2 t.cls 1 ⟨(i:Int)+1,0,20*(i:Int)+1,20*(i:Int)+20⟩ }:=by unfold D6;rw[Ab (by simpa using q),g,f];rfl
  rw[e];refine⟨?_,λj l=>?_,?_,?_,λj l=>?_⟩
  .show (Co js).length=_;rw[Xz,p];omega
  .have a:j.sp∈(Co js).map Jb.sp:=It l;rw[Ak8]at a;obtain⟨k,o,s⟩:=A7.1 a;rw[<-s];rw[b]at o;exact Alx t.ab h.wall 20 k o
  .show (D2 (F2 t.cls 1 _) 1).seq=_;rw[Al0,Ad rfl];show(i:Int)+1=((i+1:Nat):Int);omega
  .show (D2 (F2 t.cls 1 _) 2).seq=0;rw[Al0,Ab ad9];exact h.two
  .have m:∀j,j∈js->j.sp.after=[]/\j.aj=[]:=(by rw[b];exact Aly t.ab h.dy 20);have a:j∈Co js:=l;rw[A0n λj l=>(m j l).1]at a;exact m j a
def A0p (h:Vi W 5 t) (h1:1<=W/\W<=1000) (e:1<=A/\A<=16):D6 [du] t (vq W A)=(t,⟨0,0,0,0⟩,140):=by
 have a:(Br [du] t.ab.length [Cu W A]).2=140:=by unfold Br;rw[Alv h1 ao9];show(if 100<(t.ab.length:Int)+F6 [Cu W A]then(([],140):List (List Int)×Int)else _).2=140;rw[Ad (by rw[Alw,h.len];omega)]
 have b:Ed [du] t (vq W A)=140:=by
  unfold Ed
  rw[Ab (by rw[A0m h1 ao9];simp),Ab (by
   intro c;have d:(1:Int)<=(D2 t.cls 2).seq:=c.2;rw[h.two]at d
   omega),Ab (by show ¬(2:Int)=1;decide),Ab (by show ¬(2:Int)=6;decide),Ad (by show(2:Int)=2;rfl)]
  exact a
 unfold D6;rw[Ad (by rw[b];decide),b]
end
section
open Go.RowKit Go.Maps Go.Lib
def xi (p:Int×Cl):List UInt8:=zB [p.1,p.2.seq,p.2.first,p.2.last]
def yh (n:Ej):List UInt8:=zB [Cm n.up,Cm n.bq,n.since]
def Ds (t:dv) (i j:Nat):List UInt8:=zB [t.ai,t.tick,(t.cls.length:Int)]++((t.cls.take i).flatMap xi++(t.nodes.take j).flatMap yh)
def Gw (t:dv) (k:Nat):List UInt8:=Ds t t.cls.length t.nodes.length++zB [(t.ab.length:Int)]++(t.ab.take k).flatMap Nw
def Zc (b:Bool):-9223372036854775808<=Cm b/\Cm b<=9223372036854775807:=by cases b<;>decide
def Vl {α:Type} {f:α->List UInt8} {n:Nat}:∀(l:List α),(∀x,x∈l->(f x).length<=n)->(l.flatMap f).length<=n*l.length
 | [],_=>Ar _
 | x :: l,h=>by
  have h1:=h x (Ef ..);have b:=Vl l λy a=>h y (Dj _ a);rw[Pz,Av,D8,Nat.mul_add];omega
def Adr {α:Type} {f:α->List UInt8} {l:List α} {i:Nat} {x:α} (h:l[i]?=O x):(l.take (i+1)).flatMap f=(l.take i).flatMap f++f x:=by
 rw[Mt,h,List.flatMap_append];simp
def A02 {t:dv} {i:Nat} {p:Int×Cl} (h:t.cls[i]?=O p):Ds t (i+1) 0=Ds t i 0++xi p:=by
 unfold Ds;rw[Adr h];simp
def A03 {t:dv} {j:Nat} {p:Ej} (h:t.nodes[j]?=O p):Ds t t.cls.length (j+1)=Ds t t.cls.length j++yh p:=by
 unfold Ds;rw[Adr h];simp[Fd]
def A04 {t:dv} {k:Nat} {j:Jb} (h:t.ab[k]?=O j):Gw t (k+1)=Gw t k++Nw j:=by
 unfold Gw;rw[Adr h];simp only[Fd]
structure Ads (j:Jb):Prop where
 af:Ir j.sp.after
 ga:Ir j.aj
 lf:Ir [j.lf.st,j.lf.bp,j.lf.left,Cm j.lf.wall,Cm j.lf.stop,j.start]
 pa:Ir (j.parts.map Prod.snd)
 tx:(au (I6 { j.sp with after:=[] })).size<=100000
def A05 {vs:List ay} {n k:Nat} {j:Jb} (h:G7 vs n k j) (m:n<=1000) (r:vs.length<=9223372036854775807):Ads j:=by
 obtain⟨⟨t,u,v,y,z,r6⟩,_⟩:=(Ul j.lf.st j.lf.bp j.lf.left j.lf.wall j.lf.stop).1 h.gw.right;have l:=h.gw.dz;obtain⟨_,_,_,_,_,_,_,_,b⟩:=Fg (Io h.gd);have b:=C8.1 b
 have f:j.start<=9223372036854775807/\-1<=j.start:=by
  refine⟨?_,h.low⟩;by_cases q:0<=j.start
  .have h1:=(h.aj q).2;have c:1<=j.sp.wall:=(by obtain⟨_,_,_,_,_,g,_⟩:=Fg (Io h.gd);exact(C8.1 g).1);unfold K6 at h1;omega
  .omega
 refine⟨λx a=>by have:=h.jq x a;omega,λx a=>?_,λx a=>?_,λx a=>?_,?_⟩
 .by_cases q:j.start<0
  .rw [h.vi q]at a;cases a
  .obtain ⟨i,d⟩:=Dk ((h.aj ao9).1.vh x a);obtain⟨s,rfl,c⟩:=A01 d;omega
 .simp only[Eh,Ro,Ru]at a;have o:0<=j.sp.ae/\j.sp.ae<=5:=b;rcases a with rfl|rfl|rfl|rfl|rfl|rfl
  .omega
  .omega
  .omega
  .exact Zc _
  .exact Zc _
  .omega
 .obtain ⟨p,e,rfl⟩:=A7.1 a;have:=h.sk p e;omega
 .have h1:=Afq (Io h.gd);have c:(au (I6 { j.sp with after:=[] })).size=(I6 { j.sp with after:=[] }).length:=Gg _;omega
def A06 {j:Jb} (h:Ads j) (h1:j.sp.after.length<=1000) (g:j.aj.length<=1000) (i:j.parts.length<=1000000):(Nw j).length<=20200000:=by
 have a1:=Adp h.af ao9;have a2:=Adp h.ga ao9;have a3:=Adp h.pa (by rw[As];omega);have b:=J5 _ h.lf;obtain⟨q,a⟩:∃q,q=au (I6 { j.sp with after:=[] }):=⟨_,rfl⟩;have f:q.size<=100000:=by rw[a];exact h.tx
 have c:=Oc (n:=q.size) ao9;have d:=M8 q;rw[As]at a3;simp only[D8,Ib]at b;have e:Nw j=B2 q.size++q.data.toList++(Or j.sp.after++(zB [j.lf.st,j.lf.bp,j.lf.left,Cm j.lf.wall,Cm j.lf.stop,j.start]++(Or j.aj++Or (j.parts.map Prod.snd)))):=by rw[a];rfl
 rw[e];simp only[Av];omega
def A07 {l:List (Int×Cl)} (a:(l.map Prod.fst).Pairwise (·<·)) {i:Nat} {p:Int×Cl} (h:l[i]?=O p):D2 l p.1=p.2:=by
 induction l generalizing i with
 | nil=>simp at h
 | cons q l ih=>
  rw[Ic,Ox]at a
  cases i with
  | zero=>
   simp at h;subst h;simp[D2]
  | succ i=>
   simp at h;have h1:=ih a.2 h;have b:=a.1 p.1 (It (Ai h));unfold D2 at h1 ⊢;rw[Vr (by simp;omega)];exact h1
def Adt {vs:List ay} {t:dv} (h:Er vs t) {p:Int×Cl} (b:p∈t.cls):Ir [p.1,p.2.seq,p.2.first,p.2.last]:=λz a=>by
 obtain⟨h1,c,d,e,_,f,g,i,j⟩:=h.cls p b;simp only[Eh,Ro,Ru]at a
 rcases a with rfl|rfl|rfl|rfl<;>omega
def Al3 {vs:List ay} {t:dv} (h:Er vs t) {n:Ej} (b:n∈t.nodes):Ir [Cm n.up,Cm n.bq,n.since]:=λz a=>by
 have h1:=h.since n b;simp only[Eh,Ro,Ru]at a;rcases a with rfl|rfl|rfl
 .exact Zc _
 .exact Zc _
 .omega
def Al4 {w:WD} {T:Tv} (h:Al w T) (hg:Er T.vs T.pl) (aS:∀j,j∈T.js->Vf j.2) (hv:T.vs.length<=1000) (ht:Tb w) :
  CS prog 30 #[K (O ⟨T.tb,0,I⟩)] w λe w'=>∃v,e=Q v/\fh w (Gw T.pl T.pl.ab.length) v w':=by
 have bC:=hg.len
 have bd:T.vs.length<=9223372036854775807:=by
  rcases h.az.2 with⟨_,e⟩|⟨_,cap,_,_,_,_,h1,h2,_⟩
  .omega
  .unfold maxLen at h2;omega
 have ba:T.pl.nodes=T.nodes:=rfl;have bg:=h.same;obtain⟨jn,aC⟩:=Ex (T.pl.ab.length);have aB:T.js.length=jn:=by rw[aC];simp[Tv.pl]
 have bl:jn<=100:=ao9
 obtain⟨nn,aG⟩:=Ex (T.pl.nodes.length);have al:T.nodes.length=nn:=by rw[aG,ba]
 obtain⟨cn,r⟩:=Ex (T.pl.cls.length);have bA:cn<=1000:=by rw[r];have:=hg.gg;omega
 have bs:nn<=1000:=ao9
 have av:∀j,j∈T.pl.ab->Ads j:=λj hj=>by
  obtain⟨k,hk⟩:=Dk hj;exact A05 (hg.all k j hk) (by have:=hg.len;omega) bd
 obtain⟨no,nc,ap⟩:∃no nc,T.nv=V no nn nc:=by
  rcases h.nodes.2 with⟨e,h0⟩|⟨g,cap,bx,e,_⟩
  .exact ⟨I,0,by rw[e,<-al,h0]⟩
  .exact ⟨_,_,by rw[e,al]⟩
 obtain⟨jo,jc,x⟩:∃jo jc,T.jv=V jo jn jc:=by
  rcases h.ab.2 with⟨e,h0⟩|⟨g,cap,bx,e,_⟩
  .exact ⟨I,0,by rw[e,<-aB,h0]⟩
  .exact ⟨_,_,by rw[e,aB]⟩
 obtain⟨tb,aT⟩:=Ex (T.tb)
 have s:∀W,BW w.heap.size w W->W.heap[tb]?=O (J #[Z G T.ai,Z G T.tick,.map (O T.mb),T.nv,T.jv,K (O ⟨T.fb,0,I⟩),T.cv] 115 (0,0)):=λW hW=>by rw[aT];exact(h.low hW).head
 have aF:∀W,BW w.heap.size w W->(Builtin.len_ #[108] 3 #[.map (O T.mb)]).run prog W=.ok (Z G cn) W:=λW hW=>by
  have h1:=(h.low hW).cls.len Zh 3;have h2:Maps.size (Ja T.cls)=cn:=by rw[r];simp[Ja,Maps.size];rfl
  rw[h2]at h1;exact h1
 have aE:Ir [T.pl.ai,T.pl.tick,(cn:Int)]:=λz hz=>by
  have h1:=hg.ep;have h2:=hg.tick;simp only[Eh,Ro,Ru]at hz
  rcases hz with rfl|rfl|rfl<;>omega
 have kh:∀W,BW w.heap.size w W->CS prog 52 #[V I 0 0,V (O ⟨W.heap.size,0,I⟩) 3 3] (W.alloc (J #[Z G T.ai,Z G T.tick,Z G cn] 3 (0,0))) λe w'=>∃v,e=Q v/\fh (W.alloc (J #[Z G T.ai,Z G T.tick,Z G cn] 3 (0,0))) (Ds T.pl 0 0) v w':=λW hW=>by
  have h1:=Vj I 0 0 [] (O ⟨W.heap.size,0,I⟩) 3 3 [T.pl.ai,T.pl.tick,(cn:Int)] (W.alloc (J #[Z G T.ai,Z G T.tick,Z G cn] 3 (0,0))) (Afw _) (Vk W [T.pl.ai,T.pl.tick,(cn:Int)] as9) aE ad9;have e:([]:List UInt8)++zB [T.pl.ai,T.pl.tick,(cn:Int)]=Ds T.pl 0 0:=by rw[r];simp[Ds]
  rw[e]at h1;exact h1
 have a:BW w.heap.size w w.drew:=(Below.refl _ _).drew;have hS:∀W,BW w.heap.size w W->W.cell? ⟨tb,0,I⟩=O (Z G T.ai)/\W.cell? ⟨tb,1,I⟩=O (Z G T.tick)/\W.cell? ⟨tb,2,I⟩=O (.map (O T.mb))/\(Builtin.len_ #[108] 3 #[.map (O T.mb)]).run prog W=.ok (Z G cn) W:=λW hW=>⟨Aa (s W hW) 0,Aa (s W hW) 1,Aa (s W hW) 2,aF W hW⟩;rw[<-aT,<-aC];replace⟨ht,h,hg,aS,bd,ba,bg,aC⟩:=H8 ht h hg aS bd ba bg aC;replace⟨aB,aG,al,r,av,aT,s,aF⟩:=H8 aB aG al r av aT s aF;replace⟨aE,kh,a,hS,ap,x⟩:=H6 aE kh a hS ap x;go_enter func30,ntmps30;go_upto_region 3 with fail;go_cut [3] (λbv wx=>fh w (Ds T.pl 0 0) bv wx)
 case first=>
  go_region_held3 (λW=>W.cell? ⟨tb,0,I⟩=O (Z G T.ai)/\W.cell? ⟨tb,1,I⟩=O (Z G T.tick)/\W.cell? ⟨tb,2,I⟩=O (.map (O T.mb))/\(Builtin.len_ #[108] 3 #[.map (O T.mb)]).run prog W=.ok (Z G cn) W)
   (first
     | with_reducible exact hS.out _ a.out
     | exact hS.out _ (a.alloc a.size _)
     | exact hS.out _ (a.alloc a.size _).drew
     | exact hS.out _ a.drew)
   (first
     | (go_at_call 52;refine(kh w.drew a.out).mono ?_;rintro e w2 ⟨v2,rfl,m⟩;replace a:=Hh ((a.alloc a.size _).trans (m.low.mono (a.alloc a.size _).size))
        replace m:=Hh m))
  all_goals
   go_wp2_with fail;go_meet
   case rel=>exact⟨m.own,a.out⟩
 case rest=>
 obtain⟨⟨bk,n0,n1,rfl,aJ⟩,ao⟩:=hcut;have c2:=(hS wc ao).2.2.1;have kK:=A0w (O T.mb) wc;have kS:=A0z (h.low ao).cls hg.bj (by have:=r.out;have:T.cls.length=T.pl.cls.length:=rfl;omega);clear a kh hS;replace⟨aJ,ao,kK,kS⟩:=H4 aJ ao kK kS;go_wp2_with fail;refine kK.mono ?_;rintro e wk ⟨rfl,rfl⟩;go_wp2_with fail;refine kS.mono ?_;rintro e ws ⟨vk,rfl,hO,aM⟩;obtain⟨ko,kl,kc,rfl,-,aK,-⟩:=Ob hO;have bD:kl=cn:=by rw[<-aK.len,r.out,As];rfl
 subst bD;have a7:=ao.trans (aM.mono ao.size);have aZ:fh w (Ds T.pl 0 0) (V bk n0 n1) ws:=⟨⟨bk,n0,n1,rfl,aJ.low aM⟩,a7⟩;clear hO c2 aJ ao kK;replace⟨aM,aK,a7,aZ⟩:=H4 aM aK a7 aZ;go_wp2_with fail;go_loopw [3,5,6,39] (λbv _ _ iv wr=>∃i:Nat,iv=Z G i/\i<=kl/\Hid (fh w (Ds T.pl i 0) bv wr)/\Hid (BW ws.heap.size ws wr)) (λ_ _ _ iv _=>kl-(intOf iv).toNat)
 case atStart=>exact⟨0,rfl,Ar _,aZ.out,Below.refl _ _⟩
 case round=>
  rename WD=>wr
  obtain⟨i,rfl,hi,hC,a6⟩:=hrel;obtain⟨bo,bn,bc,rfl,t⟩:=hC.own;have c:=hC.low
  have hL:bn<=100000:=by
   rw[<-t.len];have h1:=J5 _ aE.out
   have h2:=Vl (f:=xi) (n:=40) (T.pl.cls.take i) λp hp=>by
    have h3:=J5 _ (Adt hg.out (Ms hp));exact h3
   rw[Dt]at h2;simp only[D8,Ib]at h1;rw[r.out]at h1;unfold Ds;simp only[Av,Wi,List.flatMap_nil,Ib];omega
  have c2:=Bk (s wr c) 2 (.map (O T.mb)) rfl;by_cases hc:i<kl
  .have aD:(i:Int)<kl:=ao9;have bf:(0:Int)<=(i:Int):=ao9;obtain⟨p,hp⟩:=Ge T.pl.cls i (by rw[<-r.out];exact hc);obtain⟨b,bE,rfl,a8,hk⟩:=aK.cell i p.1 (by rw[Bm];show(T.pl.cls[i]?).map _=_;rw[hp];rfl);have k0:=(Af a6.out a8).trans hk;have aH:=Adt hg.out (Ai hp);have aR:=aH p.1 as9;have a5:=Acw (h.low c).cls aR.1 aR.2;rw[show D2 T.cls p.1=p.2 from A07 hg.bj hp]at a5;have d:=A02 hp;obtain⟨id,⟨sq,ce,cf,cl⟩⟩:=p;simp only at k0 a5 aH;unfold Gx at a5;obtain⟨W7,u⟩:=Ex (wr.alloc (J #[Z G sq,Z G ce,Z G cf,Z G cl] 123 (0,0)));have l:BW wr.heap.size wr W7:=(by rw[u];exact Bn);have o:W7.heap[wr.heap.size]?=O (J #[Z G sq,Z G ce,Z G cf,Z G cl] 123 (0,0)):=(by rw[u];exact Ah _ _);have kI:=Vj bo bn bc (Ds T.pl i 0) (O ⟨W7.heap.size,0,I⟩) 4 4 [id,sq,cf,cl] (W7.alloc (J #[Z G id,Z G sq,Z G cf,Z G cl] 3 (0,0))) ((t.low l).low Bn) (Vk W7 [id,sq,cf,cl] as9) aH ao9;have q:Ds T.pl i 0++zB [id,sq,cf,cl]=Ds T.pl (i+1) 0:=d.symm;rw[q]at kI;have s0:=Bk o 0 (Z G sq) rfl;have s2:=Bk o 2 (Z G cf) rfl;have s3:=Bk o 3 (Z G cl) rfl;replace⟨a8,hk,aH,aR,d,q,l,o⟩:=H8 a8 hk aH aR d q l o;replace⟨kI,t,c,hL,hp⟩:=H5 kI t c hL hp;clear s0 s2 s3;go_upto_region 8 with fail;rw[<-u];clear u;have s0:=Bk o.out 0 (Z G sq) rfl;have s2:=Bk o.out 2 (Z G cf) rfl;have s3:=Bk o.out 3 (Z G cl) rfl;go_wp2_with fail;refine kI.mono ?_;rintro e w8 ⟨v8,rfl,am⟩;have aL:=(l.alloc l.size _).trans (am.low.mono (l.alloc l.size _).size);have an:fh w (Ds T.pl (i+1) 0) v8 w8:=⟨am.own,c.trans (aL.mono c.size)⟩;have a4:=a6.trans (aL.mono a6.size);clear am s0 s2 s3;replace⟨aL,an,a4⟩:=H3 aL an a4;go_wp2_with fail;go_roundw
   case rel=>exact⟨i+1,by go_num,ao9,an.out,a4.out⟩
   case measure=>simp[intOf];omega
  .have aD:¬(i:Int)<kl:=ao9;have a2:i=T.pl.cls.length:=(by have:=r.out;omega);have m:fh w (Ds T.pl T.pl.cls.length 0) (V bo bn bc) wr:=(by rw[<-a2];exact hC.out);have c3:wr.cell? ⟨tb,3,I⟩=O (V no nn nc):=(by rw[Aa (s wr c) 3];show O T.nv=_;rw[ap.out]);clear c2 hC t;replace⟨m,c,hL,a2⟩:=H4 m c hL a2;go_wp2_with fail;go_loopw [3,8,69] (λbv _ iv wr=>∃i:Nat,iv=Z G i/\i<=nn/\Hid (fh w (Ds T.pl T.pl.cls.length i) bv wr)) (λ_ _ iv _=>nn-(intOf iv).toNat)
   case atStart=>exact⟨0,rfl,Ar _,m.out⟩
   case round=>
    rename WD=>wr
    obtain⟨i,rfl,hi,hC⟩:=hrel;obtain⟨bo,bn,bc,rfl,t⟩:=hC.own;have c:=hC.low
    have be:bn<=200000:=by
     rw[<-t.len];have h1:=J5 _ aE.out
     have h2:=Vl (f:=xi) (n:=40) (T.pl.cls.take T.pl.cls.length) λp hp=>by
      have h3:=J5 _ (Adt hg.out (Ms hp));exact h3
     have h4:=Vl (f:=yh) (n:=30) (T.pl.nodes.take i) λp hp=>by
      have h3:=J5 _ (Al3 hg.out (Ms hp));exact h3
     simp only[D8,Ib]at h1;have h5:=r.out;rw[h5]at h1;have h6:(T.pl.nodes.take i).length<=1000:=(by rw[Dt];omega);have h7:(T.pl.cls.take T.pl.cls.length).length<=1000:=(by rw[Dt];omega);unfold Ds;simp only[Av];omega
    by_cases hc:i<nn
    .have aD:(i:Int)<nn:=ao9;have bf:(0:Int)<=(i:Int):=ao9;obtain⟨n,hn⟩:=Ge T.pl.nodes i (by rw[<-aG.out];exact hc);have hT:=h.low c;obtain⟨g,cap,aI,bw,_⟩:=hT.yi (by rw[al.out];omega);have a9:T.nodes[i]?=O n:=hn;obtain⟨d0,d1,d2,_⟩:=hT.oi a9 aI;have e4:no=O ⟨g,0,I⟩:=(by have h1:=ap.symm.trans aI;injection h1);clear bw;subst e4;have aP:=Al3 hg.out (Ai hn);have d:=A03 hn;obtain⟨up,dr,sn⟩:=n;simp only at d0 d1 d2 aP;obtain⟨W7,u⟩:=Ex (wr.alloc (J #[Y up,Y dr,Z G sn] 119 (0,0)));have l:BW wr.heap.size wr W7:=(by rw[u];exact Bn);have o:W7.heap[wr.heap.size]?=O (J #[Y up,Y dr,Z G sn] 119 (0,0)):=(by rw[u];exact Ah _ _);have q:Ds T.pl T.pl.cls.length i++zB [Cm up,Cm dr,sn]=Ds T.pl T.pl.cls.length (i+1):=d.symm
     have kI:∀W,BW W7.heap.size W7 W->CS prog 52 #[V bo bn bc,V (O ⟨W.heap.size,0,I⟩) 3 3] (W.alloc (J #[Z G (Cm up),Z G (Cm dr),Z G sn] 3 (0,0))) λe w'=>∃v,e=Q v/\fh (W.alloc (J #[Z G (Cm up),Z G (Cm dr),Z G sn] 3 (0,0))) (Ds T.pl T.pl.cls.length (i+1)) v w':=λW hW=>by
      have h1:=Vj bo bn bc (Ds T.pl T.pl.cls.length i) (O ⟨W.heap.size,0,I⟩) 3 3 [Cm up,Cm dr,sn] (W.alloc (J #[Z G (Cm up),Z G (Cm dr),Z G sn] 3 (0,0))) ((t.low (l.trans (hW.mono l.size))).low Bn) (Vk W [Cm up,Cm dr,sn] as9) aP ao9;rw[q]at h1;exact h1
     have k1:=Zb up;have k2:=Zb dr
     have aA:∀W,BW W7.heap.size W7 W->W.cell? ⟨wr.heap.size,0,I⟩=O (Y up)/\W.cell? ⟨wr.heap.size,1,I⟩=O (Y dr)/\W.cell? ⟨wr.heap.size,2,I⟩=O (Z G sn):=λW hW=>by
      have h1:=Ae hW o (Ac o);exact⟨Aa h1 0,Aa h1 1,Aa h1 2⟩
     have a:BW W7.heap.size W7 W7.drew:=(Below.refl _ _).drew;replace⟨hn,hT,a9,aP,d,q,l,o⟩:=H8 hn hT a9 aP d q l o;replace⟨kI,t,c,be,k1,k2,aA,a⟩:=H8 kI t c be k1 k2 aA a;replace aI:=Hh aI;go_upto_region 13 with fail;rw[<-u];clear u;go_region_held3 (λW=>W.cell? ⟨wr.heap.size,0,I⟩=O (Y up)/\W.cell? ⟨wr.heap.size,1,I⟩=O (Y dr)/\W.cell? ⟨wr.heap.size,2,I⟩=O (Z G sn))
      (first
        | with_reducible exact aA.out _ a.out
        | exact aA.out _ (a.alloc a.size _)
        | exact aA.out _ (a.alloc a.size _).drew
        | exact aA.out _ a.drew)
      (first
        | (go_at_call 55
           (first|(with_reducible refine(k1.out _).mono ?_)|(with_reducible refine(k2.out _).mono ?_))
           rintro e wz ⟨rfl,rfl⟩)
        | (go_at_call 52;refine(kI W7.drew a.out).mono ?_;rintro e w2 ⟨v2,rfl,m⟩;replace a:=Hh ((a.alloc a.size _).trans (m.low.mono (a.alloc a.size _).size))
           replace m:=Hh m))
     all_goals
      have an:fh w (Ds T.pl T.pl.cls.length (i+1)) v2 w2:=⟨m.own,c.trans ((l.trans (a.mono l.size)).mono c.size)⟩;clear d0 d1 d2;replace an:=Hh an;go_wp2_with fail;go_roundw
      case rel=>exact⟨i+1,by go_num,ao9,an.out⟩
      case measure=>simp[intOf];omega
    .have aD:¬(i:Int)<nn:=ao9;have a3:i=T.pl.nodes.length:=(by have:=aG.out;omega);have c4:wr.cell? ⟨tb,4,I⟩=O (V jo jn jc):=by rw[Aa (s wr c) 4];show O T.jv=_;rw[x.out]
     have aN:Ir [(jn:Int)]:=λz hz=>by
      simp only[Eh,Ro,Ru]at hz;have:=aC.out;omega
     have kI:=Vj bo bn bc (Ds T.pl T.pl.cls.length i) (O ⟨wr.heap.size,0,I⟩) 1 1 [(jn:Int)] (wr.alloc (J #[Z G jn] 3 (0,0))) (t.low Bn) (Vk wr [(jn:Int)] as9) aN ao9;have q:Ds T.pl T.pl.cls.length i++zB [(jn:Int)]=Gw T.pl 0:=(by rw[a3,aC.out];simp[Gw]);rw[q]at kI;have bb:(Gw T.pl 0).length<=200010:=(by have h1:=J5 _ aN;simp only[D8,Ib]at h1;rw[<-q,Av,t.len];omega);clear hC;replace⟨kI,c,t,q,aN,bb,a3⟩:=H7 kI c t q aN bb a3;go_wp2_with fail;refine kI.mono ?_;rintro e w6 ⟨v6,rfl,aV⟩;have a0:=Bn.trans (aV.low.mono as9);have aO:=c.trans (a0.mono c.size);have aW:fh w (Gw T.pl 0) v6 w6:=⟨aV.own,aO⟩;clear c4;have c4:w6.cell? ⟨tb,4,I⟩=O (V jo jn jc):=(by rw[Aa (s w6 aO) 4];show O T.jv=_;rw[x.out]);clear aV;replace⟨a0,aO,aW⟩:=H3 a0 aO aW;go_wp2_with fail;go_loopw [3,10,100] (λbv _ iv wr=>∃i:Nat,iv=Z G i/\i<=jn/\Hid (fh w (Gw T.pl i) bv wr)) (λ_ _ iv _=>jn-(intOf iv).toNat)
     case atStart=>exact⟨0,rfl,Ar _,aW.out⟩
     case round=>
      rename WD=>wq
      obtain⟨i,rfl,hi,hC⟩:=hrel;have ac:=hC.low;by_cases hc:i<jn
      .have aD:(i:Int)<jn:=ao9;have bf:(0:Int)<=(i:Int):=ao9;obtain⟨bo,bn,bc,rfl,t⟩:=hC.own;obtain⟨j,hj⟩:=Ge T.js i (by have:=aB.out;omega);have hT:=h.low ac;obtain⟨g,cap,_,cg,_,aU⟩:=hT.jf hj;have e4:jo=O ⟨g,0,I⟩:=(by have h1:=x.symm.trans aU;injection h1);subst e4;have ad:=Ai hj;have aQ:T.pl.ab[i]?=O j.2.pl:=(by simp[Tv.pl,hj]);have hN:=av j.2.pl (Ai aQ);have d:=A04 aQ
       have a1:bn<=1000000000000:=by
        have h0:=Vl (f:=Nw) (n:=20200000) (T.pl.ab.take i) λy hy=>by
         obtain⟨y2,bi,rfl⟩:=A7.1 (show y∈T.js.map λj=>j.2.pl from Ms hy);have ok:=h.ok y2 bi;obtain⟨q1,q2,q3⟩:=aS y2 bi;exact A06 (av _ (Ms hy)) (by rw[ok.after.row.len];exact q1) (by rw[ok.aj.row.len];exact q2) (by rw[I9 ok.parts];exact q3)
        have h1:=t.len;have h2:(Gw T.pl i).length=(Gw T.pl 0).length+((T.pl.ab.take i).flatMap Nw).length:=(by unfold Gw;simp[Av];omega);have h3:=bb.out;rw[Dt]at h0;have h4:=aB.out;omega
       have kP:=A0u bo bn bc (Gw T.pl i) j.1 j.2 T.bh wq t (hT.box j ad) (hT.ok j ad) (ht.low ac) (aS j ad) hN.af hN.ga hN.lf hN.pa hN.tx a1;rw[<-d]at kP;replace⟨hT,aU,hj,ad,aQ,hN,d,a1⟩:=H8 hT aU hj ad aQ hN d a1;replace⟨kP,t,ac⟩:=H3 kP t ac;go_wp2_with fail;refine kP.mono ?_;rintro e wp ⟨vp,rfl,aX⟩;have aY:fh w (Gw T.pl (i+1)) vp wp:=⟨aX.own,ac.trans (aX.low.mono ac.size)⟩;clear aX;replace aY:=Hh aY;go_wp2_with fail;go_roundw
       case rel=>exact⟨i+1,by go_num,ao9,aY.out⟩
       case measure=>simp[intOf];omega
      .have aD:¬(i:Int)<jn:=ao9;have bB:i=jn:=ao9;have am:fh w (Gw T.pl jn) u3 wq:=(by rw[<-bB];exact hC.out);replace⟨am,ac⟩:=H2 am ac;go_wp2_with fail;go_ret;exact⟨_,rfl,am.out⟩
def je (i:Int) (j:Jb):Nat:=(j.parts.filter λp=>decide (p.1=i) && decide (p.2=0)).length
variable {w1 wr w':WD} {q i:Nat} {bc:Array Value} {vs:List ay} {fv:Value} {ns:List aw} {es:List gh} {T T':Tv}
def A08 {f i:WD} {js:List (Nat×aq)} {a:Value} {L:List aq} (h:Ra f js a L i):∃d c,a=V d L.length c:=by
 rcases h.row.2 with⟨e,h0⟩|⟨g,cap,b,e,_⟩
 .exact ⟨I,0,by rw[h0,<-e]⟩
 .exact ⟨_,_,e⟩
end
section
open Go.RowKit Go.Maps Go.Lib
def A09 (A:Int):0<=bits .and G A 15/\bits .and G A 15<=15:=by
 show 0<=IntKind.i64.wrap ((BitVec.ofInt 64 A &&& BitVec.ofInt 64 15).toNat:Int)/\IntKind.i64.wrap ((BitVec.ofInt 64 A &&& BitVec.ofInt 64 15).toNat:Int)<=15;have h:(BitVec.ofInt 64 A &&& BitVec.ofInt 64 15).toNat<=15:=by rw[BitVec.toNat_and];exact Nat.and_le_right
 rw[IntKind.wrap_i64];omega
structure xp (w1:WD) (sb:Nat) (W:Int) (i:Nat) (T:Tv) (wr:WD):Prop where
 we:F9 w1 T wr
 vs:T.vs=[du]
 ok:Vi W i T.pl
 box:wr.heap[sb]?=O (J (⟨Cu W 20,I,0,0⟩:ax).cells 33 (0,0))
def A1a (W:Int):Vi W 0 ⟨0,-1,[],List.replicate 1 oy,[]⟩:=⟨rfl,λj a=>(by cases a),rfl,rfl,λj a=>(by cases a)⟩
def A1b (bD:∀W,Mx W->CS prog 12 #[] W λe w'=>e=Q (Y true)/\BW W.heap.size W w') (w:WD) (hm:Mx w) (ht:Tb w) (W A:Int):CS prog 8 #[Z G W,Z G A] w λe w'=>e=Q (Y true)/\BW w.heap.size w w':=by
 have aG:=bD w hm;have bl:=Alt;replace⟨aG,bl⟩:=H2 aG bl;clear bD;by_cases ac:1<=W/\W<=1000;rotate_left
 .by_cases a1:W<1
  .replace ac:=Hh ac;go_enter Tw,ntmps8;go_wp2_with fail;refine aG.mono ?_;rintro e wa ⟨rfl,g⟩;replace g:=Hh g;go_wp2_with fail;go_ret;exact⟨rfl,g.out⟩
  .have a2:1000<W:=ao9;replace ac:=Hh ac;go_enter Tw,ntmps8;go_wp2_with fail;refine aG.mono ?_;rintro e wa ⟨rfl,g⟩;replace g:=Hh g;go_wp2_with fail;go_ret;exact⟨rfl,g.out⟩
 have a1:¬W<1:=ao9
 have a2:¬1000<W:=ao9
 replace ac:=Hh ac;go_enter Tw,ntmps8;go_wp2_with fail;refine aG.mono ?_;rintro e wa ⟨rfl,g⟩;have bg:=Alu wa (hm.low g);replace⟨g,bg⟩:=H2 g bg;go_wp2_with fail;refine bg.mono ?_;rintro e w1 ⟨rfl,a9,bf⟩;have bk:=Alj bf bl.out;replace⟨a9,bf,bk⟩:=H3 a9 bf bk;go_wp2_with fail;refine bk.mono ?_;rintro e w2 ⟨T0,rfl,aL,bs,bn,bN,bO,bP,bE,ba⟩;obtain⟨tb,l⟩:=Ex (T0.tb);rw[<-l];clear bN bO bP;replace⟨aL,bs,bn,bE,ba,l⟩:=H6 aL bs bn bE ba l;go_upto_region 9 with fail;obtain⟨sb,aE⟩:=Ex (w2.heap.size);obtain⟨W3,aO⟩:=Ex (w2.alloc (J #[E ⟨#[97,110,97]⟩,E ⟨#[109,97,105,110]⟩,Z G 1,Z G 1,Z G 0,Z G 0,Z G 0,Z G W,Z G 0,Z G 20,Z G 0,Y false,V I 0 0] 33 (0,0)));have bb:BW w2.heap.size w2 W3:=by rw[aO];exact Bn
 have bw:W3.heap[sb]?=O (J (⟨Cu W 20,I,0,0⟩:ax).cells 33 (0,0)):=by rw[aO,aE];exact Ah _ _
 have a3:xp w1 sb W 0 T0 W3:=⟨aL.drop bb,bs.out,by rw[bn.out];exact A1a W,bw⟩;have bH:tb<sb:=by rw[aE,l.out];exact Ac aL.tab.head
 have bG:w1.heap.size<=sb:=by rw[aE];exact ba.size
 rw[<-aO,<-aE];clear aO aE;replace⟨bb,bw,a3⟩:=H3 bb bw a3;go_wp2_with fail;go_loopw [11,12,13] (λiv _ _ wr=>∃(i:Nat) (T:Tv),iv=Z G i/\i<=5/\Hid (tb=T.tb)/\Hid (xp w1 sb W i T wr)) (λiv _ _ _=>5-(intOf iv).toNat)
 case atStart=>exact⟨0,T0,rfl,Ar _,l,a3⟩
 case round=>
  rename WD=>wr
  obtain⟨i,T,rfl,hi,l,hF⟩:=hrel;have p:=hF.box;by_cases hc:i<5
  .have bK:(i:Int)<5:=ao9;obtain⟨y0,y1,y2,y3,y4,y5,y6,y7,y8,y9,aH,aI,aJ⟩:=C13 p;(try dsimp only at y0 y1 y2 y3 y4 y5 y6 y7 y8 y9 aH aI aJ);obtain⟨WA,a7⟩:=Ex (wr.alloc (J #[E ⟨#[97,110,97]⟩,E ⟨#[109,97,105,110]⟩,Z G 1,Z G 1,Z G 0,Z G 0,Z G 0,Z G W,Z G 0,Z G 20,Z G 0,Y false,V I 0 0] 33 (0,0)));have z:BW wr.heap.size wr WA:=(by rw[a7];exact Bn);have ao:WA.heap[wr.heap.size]?=O (J (Aq ax.cells [(⟨Cu W 20,I,0,0⟩:ax)]).toArray 33 (0,0)):=(by rw[a7];exact Ah _ _);have m:=hF.we.drop z
   have d:=Adm m.tab ao as9 (λW' _ x hx=>by
    rw[Gc.1 hx]
    exact⟨Qi W',Nat.le_refl _,by show Ga.size<=maxLen;decide,by show Nv.size<=maxLen;decide⟩)
   obtain⟨t',a8,aD⟩:=A0o hF.ok ac.out hc;have ka:=Tg ⟨⟨2,0,0,1,(i:Int)+1,0,0,0,0⟩,O ⟨wr.heap.size,0,I⟩,1,1,[⟨Cu W 20,I,0,0⟩]⟩ m ⟨d _ (Mod.refl _ _),Nat.le_refl _,λj=>by unfold de.get;split<;>simp<;>omega⟩ d (λc=>absurd (show(2:Int)=6 from c) ad9) (t':=t') (c:=⟨0,0,20*(i:Int)+1,20*(i:Int)+20⟩) (r:=0) (by rw[hF.vs];exact λ_=>a8);rw[<-l.out]at ka;have bM:IntKind.i64.wrap ((i:Int)+1)=(i:Int)+1:=E0 _ ao9;have bR:IntKind.i64.wrap (20*(i:Int))=20*(i:Int):=E0 _ ao9;have bS:IntKind.i64.wrap (20*(i:Int)+1)=20*(i:Int)+1:=E0 _ ao9;have bT:IntKind.i64.wrap (20*(i:Int)+20)=20*(i:Int)+20:=E0 _ ao9;replace⟨p,z,ao,m,d,ka,a8,aD⟩:=H8 p z ao m d ka a8 aD;subst a7;go_wp2_with fail;refine ka.mono ?_;rintro e w6 ⟨T6,rfl,al,b,s⟩;have an:=s.vs.trans hF.vs;have f:tb=T6.tb:=(by rw[s.tb];exact l.out);have aW:w6.heap[sb]?=O (J (⟨Cu W 20,I,0,0⟩:ax).cells 33 (0,0)):=(by have h1:=Ae z.out p.out (Ac p.out);exact s.mod.ar h1 (m.tab.off h1 ad9 ad9 ad9 ad9 ad9));obtain⟨W7,aP⟩:=Ex (w6.alloc (J #[Z G 0,Z G (20*(i:Int)+1),Z G (20*(i:Int)+20)] 35 (0,0)));have u:BW w6.heap.size w6 W7:=(by rw[aP];exact Bn);have aU:W7.heap[w6.heap.size]?=O (J #[Z G 0,Z G (20*(i:Int)+1),Z G (20*(i:Int)+20)] 35 (0,0)):=(by rw[aP];exact Ah _ _);have a4:xp w1 sb W (i+1) T6 W7:=⟨al.drop u,an,by rw[b];exact aD.out,Ae u aW (Ac aW)⟩;clear s y0 y1 y2 y3 y4 y5 y6 y7 y8 y9 aH aI aJ;replace⟨al,b,an,f,aW,u,aU,a4⟩:=H8 al b an f aW u aU a4;go_upto_region 13 with fail;rw[<-aP];clear aP;have r1:=Bk aU.out 1 (Z G (20*(i:Int)+1)) rfl;have r2:=Bk aU.out 2 (Z G (20*(i:Int)+20)) rfl;go_wp2_with fail;go_roundw
   case rel=>exact⟨i+1,T6,by go_num,ao9,f,a4.out⟩
   case measure=>simp[intOf];omega
  .have bK:¬(i:Int)<5:=ao9;have bL:i=5:=ao9;subst bL;have a:=g.trans (a9.mono g.size);have hP:=hF.we;have aT:=a.trans (hP.low.mono a.size)
   have kp:∀W',BW wr.heap.size wr W'->CS prog 30 #[K (O ⟨tb,0,I⟩)] W' λe w'=>∃v,e=Q v/\fh W' (Gw T.pl T.pl.ab.length) v w':=λW' hW=>by
    have h:=hP.drop hW;rw[l.out];exact Al4 h.tab h.ij h.rows.1 (by rw[hF.vs];decide) (ht.low (aT.trans (hW.mono aT.size)))
   have bx:=kp wr (Below.refl _ _);replace⟨p,a,hP,aT,kp,bx⟩:=H6 p a hP aT kp bx;go_wp2_with fail;refine bx.mono ?_;rintro e w4 ⟨v4,rfl,bJ⟩;obtain⟨⟨o4,n4,c4,rfl,a0⟩,b4⟩:=bJ;have aB:=Afz a0 c4;obtain⟨S,hS⟩:=Ex (au (Gw T.pl T.pl.ab.length));rw[<-hS]at aB;obtain⟨q,hq⟩:∃q,bits .and G A 15=q:=⟨_,rfl⟩;have bF:=A09 A;rw[hq]at bF;have bM:IntKind.i64.wrap (1+q)=1+q:=E0 _ ao9;have av:=Ae b4 p.out (Ac p.out);have af:=hP.drop b4;have y9:=Bk av 9 (Z G 20) rfl;have fr:=Ag av 9
   have be:∀j,j∈T.js->(0<j.2.sn->∀k o,j.2.so=O ⟨k,o,I⟩->k≠sb)/\(0<j.2.gn->∀k o,j.2.go=O ⟨k,o,I⟩->k≠sb):=λj hj=>by
    obtain⟨c1,c2⟩:=hF.ok.dy j.2.pl (It hj);have ok:=af.tab.ok j hj;have l1:=ok.after.row.len;have l2:=ok.aj.row.len;rw[c1]at l1;rw[c2]at l2;simp at l1 l2;exact⟨λh=>by omega,λh=>by omega⟩
   have aV:(w4.setCell ⟨sb,9,I⟩ (Z G (1+q))).heap[sb]?=O (J (⟨Cu W (1+q),I,0,0⟩:ax).cells 33 (0,0)):=Am av 9 (Z G (1+q));have aM:F9 w1 T (w4.setCell ⟨sb,9,I⟩ (Z G (1+q))):=⟨af.tab.el av (Mod.setCell w4 sb 9 _ rfl) (by rw[<-l.out];exact bH) ad9 ad9 ad9 ad9 ad9 ad9 be,af.bh,J2 af.low bG,af.ij⟩;have bo:(w4.setCell ⟨sb,9,I⟩ (Z G (1+q))).heap.size=w4.heap.size:=(by simp[World.setCell]);clear kp;replace⟨a0,b4,hS,av,af,aV,aM,bo⟩:=H8 a0 b4 hS av af aV aM bo;go_upto_region 17 with fail;obtain⟨W5,bC⟩:=Ex (w4.setCell ⟨sb,9,I⟩ (Z G (1+q)));rw[<-bC]at aV aM bo ⊢;clear bC y9 fr aB;obtain⟨y0,y1,y2,y3,y4,y5,y6,y7,y8,y9,aH,aI,aJ⟩:=C13 aV.out;(try dsimp only at y0 y1 y2 y3 y4 y5 y6 y7 y8 y9 aH aI aJ);have z:BW W5.heap.size W5 (W5.alloc (J #[E ⟨#[97,110,97]⟩,E ⟨#[109,97,105,110]⟩,Z G 1,Z G 1,Z G 0,Z G 0,Z G 0,Z G W,Z G 0,Z G (1+q),Z G 0,Y false,V I 0 0] 33 (0,0))):=Bn;have ao:(W5.alloc (J #[E ⟨#[97,110,97]⟩,E ⟨#[109,97,105,110]⟩,Z G 1,Z G 1,Z G 0,Z G 0,Z G 0,Z G W,Z G 0,Z G (1+q),Z G 0,Y false,V I 0 0] 33 (0,0))).heap[W5.heap.size]?=O (J (Aq ax.cells [(⟨Cu W (1+q),I,0,0⟩:ax)]).toArray 33 (0,0)):=Ah _ _;have m:=aM.drop z
   have d:=Adm m.tab ao as9 (λW' _ x hx=>by
    rw[Gc.1 hx]
    exact⟨Qi W',Nat.le_refl _,by show Ga.size<=maxLen;decide,by show Nv.size<=maxLen;decide⟩)
   have ka:=Tg ⟨⟨2,0,0,2,1,0,0,0,0⟩,O ⟨W5.heap.size,0,I⟩,1,1,[⟨Cu W (1+q),I,0,0⟩]⟩ m ⟨d _ (Mod.refl _ _),Nat.le_refl _,λj=>by unfold de.get;split<;>simp⟩ d (λc=>absurd (show(2:Int)=6 from c) ad9) (t':=T.pl) (c:=⟨0,0,0,0⟩) (r:=140) (by rw[hF.vs];exact λ_=>A0p hF.ok ac.out ao9);rw[<-l.out]at ka;replace⟨z,ao,m,d,ka⟩:=H5 z ao m d ka;go_wp2_with fail;refine ka.mono ?_;rintro e w6 ⟨T6,rfl,al,b,s⟩;have an:=s.vs.trans hF.vs;have f:tb=T6.tb:=(by rw[s.tb];exact l.out);have u:BW w6.heap.size w6 (w6.alloc (J #[Z G 0,Z G 0,Z G 0] 35 (0,0))):=Bn;have aN:=al.drop u;obtain⟨jp,aS⟩:=Ge T.pl.ab 99 (by have:=hF.ok.len;omega);have bi:=hF.ok.wall jp (Ai aS);have kj:=Adb aN (k:=99) (jp:=jp) (by rw[b];exact aS) 100 rfl;rw[<-f]at kj;clear s y0 y1 y2 y3 y4 y5 y6 y7 y8 y9 aH aI aJ;replace⟨al,b,an,f,u,aN,aS,bi⟩:=H8 al b an f u aN aS bi;replace kj:=Hh kj;go_wp2_with fail;refine kj.mono ?_;rintro e w8 ⟨y,rfl,hy,bc⟩;have a6:=aN.drop bc;have aY:(w8.alloc (J Jz 46 (0,0))).heap[w8.heap.size]?=O (J aq.zero.cells 46 (0,0)):=Ah _ _;replace⟨hy,bc,a6,aY⟩:=H4 hy bc a6 aY;go_upto_region 19 with(refine Mv rfl 46 _ _ rfl w8.heap.size y.cells rfl rfl 46 _ aY.out J1 rfl (On y) ?_);obtain⟨W9,aQ⟩:=Ex ((w8.alloc (J Jz 46 (0,0))).setRow w8.heap.size y.cells);have bd:BW w8.heap.size w8 W9:=(by rw[aQ];exact Ps Bn Ln _);have aX:W9.heap[w8.heap.size]?=O (J y.cells 46 (0,0)):=(by rw[aQ];exact Lv _ _ _ _ 46 (0,0) aY.out);have am:=a6.drop bd
   have bA:CS prog 30 #[K (O ⟨tb,0,I⟩)] W9 λe w'=>∃v,e=Q v/\fh W9 (Gw T.pl T.pl.ab.length) v w':=by rw[f.out,<-b.out];exact Al4 am.tab am.ij am.rows.1 (by rw[an.out];decide) (ht.low (a.trans (am.low.mono a.size)))
   have bv:y.pl.sp.wall=W:=(by rw[hy.out];exact bi.out);have aR:T6.js.length=100:=(by have h1:=Ca (λt:dv=>t.ab.length) b.out;have h2:=hF.ok.len;simp[Tv.pl]at h1 h2;omega);rw[<-aQ];clear aQ;replace⟨bd,aX,am,bA,bv,aR⟩:=H6 bd aX am bA bv aR;go_wp2_with fail;refine bA.mono ?_;rintro e bX ⟨bW,rfl,bB⟩;obtain⟨⟨bV,bU,bI,rfl,aA⟩,aK⟩:=bB;have aB:=Afz aA bI;rw[<-hS.out]at aB;have n:=am.drop aK;have aZ:=Axm n.tab n.rows.1 (by have:=aR.out;omega);rw[<-f.out]at aZ;have ap:=Ae aK aX.out (Ac aX.out);replace⟨aA,aK,n,aZ,ap⟩:=H5 aA aK n aZ ap;go_wp2_with fail;refine aZ.mono ?_;intro e bQ hJ;obtain⟨sv,L',rfl,a5,hG⟩:=hJ;obtain⟨jo,jc,rfl⟩:=A08 hG;have ad:=a5.trans aR.out;rw[ad];have aF:=Ae hG.low ap.out (Ac ap.out);have x8:bQ.cell? ⟨w8.heap.size,8,I⟩=O (Z G W):=(by rw[Aa aF 8,<-bv.out];rfl);have aC:=a.trans ((n.low.trans (hG.low.mono n.low.size)).mono a.size);clear aB;replace⟨a5,hG,ad,aF,aC⟩:=H5 a5 hG ad aF aC;go_wp2_with fail;go_ret;exact⟨rfl,aC.out⟩
