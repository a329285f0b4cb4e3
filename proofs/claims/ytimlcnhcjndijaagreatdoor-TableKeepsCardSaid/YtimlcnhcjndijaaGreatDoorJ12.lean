/- Parts of a proof. No condition. -/
import Derived.Laws.AppendOwnNone
import Derived.Test.YtimlcnhcjndijaaGreatDoorJ11
import Derived.Test.YtimlcnhcjndijaaGreatDoorJ02
set_option linter.all false
set_option maxRecDepth 100000
set_option maxHeartbeats 3200000
namespace Go.Proofs.YtimlcnhcjndijaaGreatDoor
open IntKind renaming i64->G
open Value renaming int->Z,bool->Q,tuple->E,pointer->K,slice->V,string->D
open Option renaming some->O,none->I
open Obj renaming cells->J
open Ending renaming returned->Y
open Go renaming World->WD,Value->VL,Calls->CS
open Go.RowKit renaming Below->BW
open Go.Proofs.Tryz
section
open Go.RowKit Go.Maps Go.Lib
def Apr (a b c d:Int) (j:Nat) (e:j<4) (w:WD):(Instr.index 30 (.agg #[Z G a,Z G b,Z G c,Z G d]) (Z G (j:Int))).run prog w=.ok (Z G (V4.get ⟨a,b,c,d⟩ j)) w:=by
 rcases(show j=0\/j=1\/j=2\/j=3 by omega)with rfl|rfl|rfl|rfl<;>kernel_rfl
end
section
open Go.RowKit Go.Maps Go.Shelf
variable{l:List Int}{k:Nat}
def xz (d:Nat) (a b:Int) (w:WD):(Op.equalIn (d+1) 3 (Z G a) (Z G b)).run prog w=.ok (a == b) w:=by
 simp[Op.equalIn,Nw Ed]
def Abv:prog.cellsOf 3=1:=by kernel_rfl
def Aqr (f:Nat) (u v:V4) (w:WD):(Op.equalIn (f+2) 30 u.val v.val).run prog w=.ok (decide (u=v)) w:=by
 obtain⟨q,e,o,g,p⟩:=Cf M0;show(Op.equalIn ((f+1)+1) 30 u.val v.val).run prog w=_;rw[run_equalIn_array w (f+1) _ _ Aay e,Abv];show(Op.eqItems (f+1) 3 1 _ _ [0,1,2,3]).run prog w=_;obtain⟨a,b,c,d⟩:=u;obtain⟨h,i,j,k⟩:=v
 by_cases h1:a=h<;>by_cases l:b=i<;>by_cases m:c=j<;>by_cases n:d=k
 all_goals
  simp[Op.eqItems,xz,part,sizeOf,typeInfo,e,g,h1,l,m,n]
def Abw (u v:V4) (w:WD):(Op.equalIn 10000 30 u.val v.val).run prog w=.ok (decide (u=v)) w:=Aqr 9998 u v w
def Agu (vs:List ar) (i:Int) (w:WD) (e:Ending) (w':WD):Prop:=
 ∃(x:aq) (b:Bool),e=Y (E #[x.val,Q b])/\x.ok w'/\BW w.heap.size w w'/\(∀bb off,x.po=O ⟨bb,off,I⟩->w.heap.size<=bb/\∃c,w'.heap[bb]?=O (J c 9 (0,0))) /\
  ((b=true/\0<=i/\vs[i.toNat]?=O x.pl)\/(b=false/\x=aq.zero/\(i<0\/(vs.length:Int)<=i)))
def Agv {w:WD} {fb mb base:Nat} {vs:List ar} (h:lu w fb mb base vs) (aD:Jr vs) (i:Int):CS prog 44 #[K (O ⟨fb,0,I⟩),Z G i] w (Agu vs i w):=by
 obtain⟨W0,f⟩:=Ex (w.alloc (J aq.zero.cells 69 (0,0)));have m:BW w.heap.size w W0:=by rw[f];exact Bn
 have u:W0.heap[w.heap.size]?=O (J aq.zero.cells 69 (0,0)):=by rw[f];exact Ah _ _
 have y:W0.heap.size=w.heap.size+1:=by rw[f];simp
 have s:=h.below m;have t:=Agp s;obtain⟨n,hn⟩:=Ex (vs.length);rw[<-hn]at t;rw[f]at t;have aZ:=aD.len;rw[<-hn]at aZ;by_cases aO:i<0
 .have aW:=Az aO;have l:i<0\/(vs.length:Int)<=i:=.inl aO;replace⟨m,u,y,s,t,hn,l⟩:=H7 m u y s t hn l;have ap:=Hh f;clear f;go_enter func44,ntmps44;go_wp2;refine Al (v:=E #[aq.zero.val,Q false]) (by simp[results,results44,go_sem,aq.zero,V4.zero]<;>rfl) rfl ⟨aq.zero,false,rfl,⟨Sm _,Nat.le_refl _⟩,Bn,λb r e=>(by cases e),.inr ⟨rfl,rfl,l.out⟩⟩
 have aW:=A2 aO;by_cases aN:(n:Int)<=i
 .have aV:=Az aN;have l:i<0\/(vs.length:Int)<=i:=.inr (by rw[<-hn];exact aN);replace⟨m,u,y,s,t,hn,l⟩:=H7 m u y s t hn l;have ap:=Hh f;clear f;go_enter func44,ntmps44;go_wp2_with fail;refine t.mono ?_;rintro e w1 ⟨rfl,rfl⟩;go_wp2;refine Al (v:=E #[aq.zero.val,Q false]) (by simp[results,results44,go_sem,aq.zero,V4.zero]<;>rfl) rfl ⟨aq.zero,false,rfl,⟨Sm _,Nat.le_refl _⟩,Bn,λb r e=>(by cases e),.inr ⟨rfl,rfl,l.out⟩⟩
 have aV:=A2 aN;obtain⟨k,rfl⟩:∃k:Nat,i=k:=⟨i.toNat,ao9⟩;have a1:(k:Int)<n:=ao9
 have a3:(0:Int)<=(k:Int):=ao9
 have a0:decide (n<=k)=false:=A2 ao9;obtain⟨nv,xs,h1,h2,h3⟩:=s.ex;have aP:n=xs.length:=by rw[hn,<-h2,Ar]
 obtain⟨x,hx⟩:=Ge xs k ao9;obtain⟨g,cap,rfl⟩:=Joins.ownsRow_form h1.row ao9;obtain⟨g',e1,_,_,a⟩:=h1.cell hx;have e2:g=g':=by simpa[Value.ownBlock]using e1
 subst e2;have aH:vs[k]?=O x.pl:=by rw[<-h2];exact X7 hx
 have aE:=(aD.all x.pl (Ai aH)).ok.one;have aC:=(aD.all x.pl (Ai aH)).j8;have ao:=(h1.ok x (Ai hx)).1;obtain⟨nm,⟨ca,cb,cc,cd⟩,po,pn,pc,ps⟩:=x;have aJ:ps.length=pn:=ao.parts.len;have al:1<=ps.length:=aE;have ac:ps.length<=8:=aC;obtain⟨y0,aR⟩:=ao.parts.get (i:=0) (by show 0<pn;omega);obtain⟨b,r,e,a2,_⟩:=ao.parts.cell 0 y0 aR;have e':po=O ⟨b,r,I⟩:=e;subst e';have z0:W0.cell? ⟨g,k*6,I⟩=O (D nm):=a 0 ao9;have z1:W0.cell? ⟨g,k*6+1,I⟩=O (Z G ca):=a 1 ao9;have z2:W0.cell? ⟨g,k*6+2,I⟩=O (Z G cb):=a 2 ao9;have z3:W0.cell? ⟨g,k*6+3,I⟩=O (Z G cc):=a 3 ao9;have z4:W0.cell? ⟨g,k*6+4,I⟩=O (Z G cd):=a 4 ao9;have z5:W0.cell? ⟨g,k*6+5,I⟩=O (V (O ⟨b,r,I⟩) pn pc):=a 5 ao9;have f0:W0.cell? ⟨fb,0,I⟩=O (V (O ⟨g,0,I⟩) n cap):=by rw[aP];exact Aa h1.head 0
 obtain⟨W1,av⟩:=Ex (W0.alloc (J (⟨nm,⟨ca,cb,cc,cd⟩,O ⟨b,r,I⟩,pn,pc,ps⟩:aq).cells 69 (0,0)));have am:BW W0.heap.size W0 W1:=by rw[av];exact Bn
 have aF:W1.heap[w.heap.size+1]?=O (J (⟨nm,⟨ca,cb,cc,cd⟩,O ⟨b,r,I⟩,pn,pc,ps⟩:aq).cells 69 (0,0)):=by rw[av];exact A6 _ _ y.symm
 have aI:=ao.low am
 have aB:=Tryz.slices_Clone_string b r pn pc ps W1 ao9 ao9 λj hj=>by
  obtain⟨b',aL,e,_,hc⟩:=aI.parts.cell j (ps[j]'hj) (by simp[hj]);cases e;rw[hc];simp[List.getD,hj]
 rw[C4 ao9]at aB;have p5:=Bk aF 5 (V (O ⟨b,r,I⟩) pn pc) rfl;replace⟨m,u,y,s,hn,aP,hx,h1⟩:=H8 m u y s hn aP hx h1;replace⟨h2,h3,aH,aE,aC,ao,aJ,al⟩:=H8 h2 h3 aH aE aC ao aJ al;replace⟨ac,aR,am,aF,aI,aB,a,e1⟩:=H8 ac aR am aF aI aB a e1;replace⟨aD,h,p5⟩:=H3 aD h p5;rw[av,f]at aB p5;rw[f]at z0 z1 z2 z3 z4 z5 f0;have ap:=Hh f;have aK:=Hh av;clear f av;go_enter func44,ntmps44;go_wp2_with fail;refine t.mono ?_;rintro e w1 ⟨rfl,rfl⟩;go_wp2_with fail;refine aB.mono ?_;rintro e w3 ⟨v',rfl,d,o,an⟩;rw[<-ap.out,<-aK.out]at d an;have aU:0<pn:=by have:=al.out;have:=aJ.out;omega
 obtain⟨z,c,rfl⟩:=Joins.ownsRow_form d aU;have aY:=Oo d z rfl;have aS:W1.heap.size=w.heap.size+2:=by rw[aK.out,J0,y.out]
 have aQ:=Afu d (by have:=ac.out;have:=aJ.out;omega);have aA:=Aft d;have aM:=Afs d;have q:=Ae an (Ae am.out u.out (Ab u.out)) ao9;have p:=Ae an aF.out (Ab aF.out);have ad:=m.trans ((am.trans (an.mono am.size)).mono m.size);have c0:=Bk p 0 (D nm) rfl;have c1:=Bk p 1 (Z G ca) rfl;have c2:=Bk p 2 (Z G cb) rfl;have c3:=Bk p 3 (Z G cc) rfl;have c4:=Bk p 4 (Z G cd) rfl;have c5:=Bk p 5 (V (O ⟨b,r,I⟩) pn pc) rfl;have fq:=Ag p;have b0:=Bk q 0 (D ByteArray.empty) rfl;have b1:=Bk q 1 (Z G 0) rfl;have b2:=Bk q 2 (Z G 0) rfl;have b3:=Bk q 3 (Z G 0) rfl;have b4:=Bk q 4 (Z G 0) rfl;have b5:=Bk q 5 (V I 0 0) rfl;have fr:=Ag q
 have he:∀v v0 v1 v2 v3 v4 v5,BW w.heap.size w (((((((w3.setCell ⟨w.heap.size+1,5,I⟩ v).setCell ⟨w.heap.size,0,I⟩ v0).setCell ⟨w.heap.size,1,I⟩ v1).setCell ⟨w.heap.size,2,I⟩ v2).setCell ⟨w.heap.size,3,I⟩ v3).setCell ⟨w.heap.size,4,I⟩ v4).setCell ⟨w.heap.size,5,I⟩ v5):=λv v0 v1 v2 v3 v4 v5=>
  ((((((ad.setCell (D5 _) _).setCell Ln _).setCell Ln _).setCell Ln _).setCell Ln _).setCell Ln _).setCell Ln _
 have ak:∀v v0 v1 v2 v3 v4 v5,(((((((w3.setCell ⟨w.heap.size+1,5,I⟩ v).setCell ⟨w.heap.size,0,I⟩ v0).setCell ⟨w.heap.size,1,I⟩ v1).setCell ⟨w.heap.size,2,I⟩ v2).setCell ⟨w.heap.size,3,I⟩ v3).setCell ⟨w.heap.size,4,I⟩ v4).setCell ⟨w.heap.size,5,I⟩ v5).heap[z]?=w3.heap[z]?:=λv v0 v1 v2 v3 v4 v5=>by
  have o:z≠w.heap.size:=ao9
  have aT:z≠w.heap.size+1:=ao9
  rw[Fd o,Fd o,Fd o,Fd o,Fd o,Fd o,Fd aT]
 have aG:∀v v0 v1 v2 v3 v4 v5,(((((((w3.setCell ⟨w.heap.size+1,5,I⟩ v).setCell ⟨w.heap.size,0,I⟩ v0).setCell ⟨w.heap.size,1,I⟩ v1).setCell ⟨w.heap.size,2,I⟩ v2).setCell ⟨w.heap.size,3,I⟩ v3).setCell ⟨w.heap.size,4,I⟩ v4).setCell ⟨w.heap.size,5,I⟩ v5).heap.size=w3.heap.size:=λv v0 v1 v2 v3 v4 v5=>by simp[World.setCell]
 clear z0 z1 z2 z3 z4 z5 f0;replace⟨d,o,an,aQ,aA,q,p,ad⟩:=H8 d o an aQ aA q p ad;replace⟨he,ak,aG,aS⟩:=H4 he ak aG aS;go_wp2;refine Al (v:=E #[(⟨nm,⟨ca,cb,cc,cd⟩,O ⟨z,0,I⟩,pn,c,ps⟩:aq).val,Q true]) (by simp[results,results44,go_sem,b0,b1,b2,b3,b4,b5]) rfl ?_;have hX:=ak (V (O ⟨z,0,I⟩) pn c) (D nm) (Z G ca) (Z G cb) (Z G cc) (Z G cd) (V (O ⟨z,0,I⟩) pn c);have hY:=aG (V (O ⟨z,0,I⟩) pn c) (D nm) (Z G ca) (Z G cb) (Z G cc) (Z G cd) (V (O ⟨z,0,I⟩) pn c);have hZ:=he (V (O ⟨z,0,I⟩) pn c) (D nm) (Z G ca) (Z G cb) (Z G cc) (Z G cd) (V (O ⟨z,0,I⟩) pn c);generalize ((((((w3.setCell ⟨w.heap.size+1,5,I⟩ (V (O ⟨z,0,I⟩) pn c)).setCell ⟨w.heap.size,0,I⟩ (D nm)).setCell ⟨w.heap.size,1,I⟩ (Z G ca)).setCell ⟨w.heap.size,2,I⟩ (Z G cb)).setCell ⟨w.heap.size,3,I⟩ (Z G cc)).setCell ⟨w.heap.size,4,I⟩ (Z G cd)).setCell ⟨w.heap.size,5,I⟩ (V (O ⟨z,0,I⟩) pn c)=X at hX hY hZ ⊢;obtain⟨c9,aX⟩:=aA.out;refine⟨⟨nm,⟨ca,cb,cc,cd⟩,O ⟨z,0,I⟩,pn,c,ps⟩,true,rfl,⟨Oy aQ.out (Nat.le_of_eq hY.symm) λb' aL e' _=>by cases e';exact hX,aM⟩,hZ,λb' aL e'=>?_,.inl ⟨rfl,ao9,?_⟩⟩
 .have e2:z=b':=by injection e' with e';injection e' with e'
  subst e2;exact⟨by have:=aS.out;have:=aY.1;omega,c9,hX.trans aX⟩
 .show vs[k]?=_;rw[aH.out];rfl
structure du where
 user:ByteArray
 part:ByteArray
 nodes:Int
 df:V4
 wall:Int
 prio:Int
 array:Int
 ae:Int
 held:Bool
 after:List Int
deriving DecidableEq
def du.zero:du:=⟨ByteArray.empty,ByteArray.empty,0,V4.zero,0,0,0,0,false,[]⟩
def I0 (l:List Int) (x:Int):Bool:=l.any λy=>decide (y=x)
def qy (n:Int):Bool:=decide (n≠0) && decide (-8<=n) && decide (n<=1099511627776)
def M1 (l:List Int):Nat->Bool
 | 0=>true
 | k+1=>M1 l k && (qy (l.getD k 0) && !I0 (l.take k) (l.getD k 0))
def L9 (l:List Int):Bool:=decide (l.length<=8) && M1 l l.length
def Ek (n lo hi:Int):Bool:=decide (lo<=n) && decide (n<=hi)
def So (v:V4):Bool:=v.right && decide (v≠V4.zero)
def El (s:du):Bool:=Bu s.user && Bu s.part && So s.df && L9 s.after && Ek s.nodes 1 16 && Ek s.wall 1 1000 && Ek s.prio 0 100 && Ek s.array 1 20 && Ek s.ae 0 5
def Aq5  {k n:Nat} (h:M1 l n=true) (a:k<=n):M1 l k=true:=by
 induction n with
 | zero=>
  have:k=0:=ao9
  subst this;rfl
 | succ n ih=>
  by_cases c:k=n+1
  .subst c;exact h
  .simp only[M1,Da]at h;exact ih h.1 ao9
def Aq6   (a:k<l.length) (h:(qy (l.getD k 0) && !I0 (l.take k) (l.getD k 0))=false):M1 l l.length=false:=by
 rw[Iu];intro c;have:=Aq5 c (show k+1<=l.length by omega);simp[M1]at this;simp at h;exact absurd (h this.2.1) (by simp[this.2.2])
def Ye  {x:Int}:I0 l x=true↔x∈l:=by
 unfold I0;rw[Kl];constructor
 .rintro ⟨y,a,e⟩;rw[<-Kk e];exact a
 .intro h;exact⟨x,h,as9⟩
def kv (k:ByteArray) (v:List UInt8):List UInt8:=k.data.toList++61 :: v
end
section
open Go.RowKit Go.Maps Go.Lib
structure Jb where
 id:Int
 sp:du
 lf:Lf
 start:Int
 ah:List Int
 parts:List (Int×Int)
structure Cl where
 seq:Int
 e:Int
 first:Int
 last:Int
structure E6 where
 up:Bool
 bt:Bool
 since:Int
structure dq where
 ai:Int
 tick:Int
 cls:List (Int×Cl)
 nodes:List E6
 ab:List Jb
def Jb.waits (j:Jb):Bool:=dz j.lf.st
def Jb.live (j:Jb):Bool:=cu j.lf.st
def Jb.move (j:Jb) (s:Int):Jb:=⟨j.id,j.sp,(Ay j.lf s).1,j.start,j.ah,j.parts⟩
def Jb.bare (j:Jb):Jb:=⟨j.id,j.sp,j.lf,-1,[],j.parts⟩
def I1 (js:List Jb) (id:Int):Int:=((js[(id-1).toNat]?).map λj=>j.lf.st).getD 0
def Sp (js:List Jb) (j:Jb):Bool:=j.sp.after.any λid=>ia (I1 js id) && decide (I1 js id≠5)
def Gj (js:List Jb) (k:Nat):Bool:=match js[k]? with
 | none=>false
 | some j=>j.waits && Sp js j
def E7 (js:List Jb) (k:Nat):List Jb:=if Gj js k=true then js.modify k (λj=>(j.move 7).bare)else js
def Co (js:List Jb):Nat->List Jb×Bool
 | 0=>(js,false)
 | n+1=>(E7 (Co js n).1 n,(Co js n).2 || Gj (Co js n).1 n)
def Cw (js:List Jb):List Jb×Bool:=Co js js.length
def I2:Nat->List Jb->List Jb
 | 0,js=>js
 | n+1,js=>if (Cw js).2=true then I2 n (Cw js).1 else(Cw js).1
def C2 (js:List Jb):List Jb:=I2 (js.length+1) js
def Jb.open_ (j:Jb):Bool:=j.parts.any λp=>decide (p.2=0)
def Do (j:Jb):Jb:=
 if j.parts=[]\/j.open_=true then j
 else if (j.move 8).lf.st=1 then⟨j.id,j.sp,(j.move 8).lf,-1,[],[]⟩else⟨j.id,j.sp,(j.move 8).lf,j.start,j.ah,[]⟩
def Gk (js:List Jb):List Jb:=C2 (js.map Do)
def N1 (bq:Int) (l:Lf):Lf:=if bq=2 then(Ay l 4).1 else if bq=3 then(Ay l 5).1 else l
def Em (j:Jb) (k:Nat) (bq:Int):Jb:=⟨j.id,j.sp,N1 bq j.lf,j.start,j.ah,j.parts.modify k λp=>(p.1,bq)⟩
def Kr (j:Jb) (k:Nat) (at_:Int):Jb:=match j.parts[k]? with
 | none=>j
 | some p=>if p.2=0/\(at_<0\/p.1=at_)then Em j k 3 else j
def Fq (j:Jb) (at_:Int):Nat->Jb
 | 0=>j
 | n+1=>Kr (Fq j at_ n) n at_
def E8 (j:Jb) (at_:Int):Jb:=Fq j at_ j.parts.length
def En (j:Jb):Int:=j.start+8+j.sp.wall
def Gl (j:Jb) (attempt node:Int):Option Nat:=
 if j.live=true/\j.lf.bh=attempt then j.parts.findIdx? λp=>decide (p.1=node) && decide (p.2=0)else I
def Yf (i:Int) (j:Jb) (v:V4):V4:=
 (j.parts.filter λp=>decide (p.1=i) && decide (p.2=0)).foldl (λv _=>⟨v.a+j.sp.df.a,v.b+j.sp.df.b,v.c+j.sp.df.c,v.d+j.sp.df.d⟩) v
def Up (js:List Jb) (i:Int):V4:=js.foldl (λv j=>Yf i j v) ⟨0,0,0,0⟩
def Ey (js:List Jb) (j:Jb):Bool:=decide (j.lf.st=1) && j.sp.after.all λid=>decide (I1 js id=5)
end
section
open Go.RowKit Go.Maps Go.Shelf
variable{n:Int}{l:List Int}{w w' wr:WD}
def Ig {n b a:Int}:Ek n b a=true↔b<=n/\n<=a:=by simp[Ek]
def Yg  (h:L9 l=true):l.length<=8:=by
 simp only[L9,Da,F2]at h;exact h.1
def Aq7  (h:qy n=true):n≠0/\-8<=n/\n<=1099511627776:=by
 simp only[qy,Da,F2]at h;exact⟨h.1.1,h.1.2,h.2⟩
def Gy {s:du} (h:El s=true):Bu s.user=true/\Bu s.part=true/\So s.df=true/\L9 s.after=true/\Ek s.nodes 1 16=true/\Ek s.wall 1 1000=true/\Ek s.prio 0 100=true/\Ek s.array 1 20=true/\Ek s.ae 0 5=true:=by
 simp only[El,Da]at h;obtain⟨⟨⟨⟨⟨⟨⟨⟨a,b⟩,c⟩,d⟩,e⟩,f⟩,g⟩,i⟩,j⟩:=h;exact⟨a,b,c,d,e,f,g,i,j⟩
def Uq {v:V4}:So v=true↔v.right=true/\v≠V4.zero:=by simp[So]
def Aq8 (so:Option Addr) (n c:Nat) (xs:List Int) (x:Int) (w:WD) (h:At w so n xs):CS prog 26 #[V so n c,Z G x] w λe w'=>e=Y (Q (I0 xs x))/\w'=w:=by
 have a:=h.len;have r:=h.max;replace⟨h,a⟩:=H2 h a;go_enter func26,ntmps26;go_wp2;go_loopw [5] (λi wr=>∃k:Nat,i=Z G k/\k<=n/\Hid (∀j,j<k->xs[j]?≠O x)/\wr=w) (λi _=>n-(intOf i).toNat)
 case atStart=>exact⟨0,rfl,As _,(λj h=>by omega),rfl⟩
 case round=>
  obtain⟨k,rfl,hk,f,rfl⟩:=hrel;by_cases s:k<n
  .have m:(k:Int)<n:=ao9;have t:(0:Int)<=(k:Int):=ao9;obtain⟨y,l⟩:=h.get s;obtain⟨b,u,rfl,z,v⟩:=h.cell k y l;by_cases q:y=x
   .have d:(y == x)=true:=(by simp[q]);have g:I0 xs x=true:=Ye.2 (by rw[<-q];exact Ai l);replace⟨l,q,g⟩:=H3 l q g;go_wp2;go_ret;exact⟨by rw[g.out];rfl,rfl⟩
   .have d:(y == x)=false:=by simp[q]
    have o:∀j,j<k+1->xs[j]?≠O x:=λj p e=>by
     by_cases c:j=k
     .subst c;rw[l]at e;exact q (Kn e)
     .exact f.out j ao9 e
    replace⟨l,q,o⟩:=H3 l q o;go_wp2;go_roundw
    case rel=>exact⟨k+1,by go_num,ao9,o.out,trivial⟩
    case measure=>simp[intOf];omega
  .have m:¬(k:Int)<n:=ao9;have g:I0 xs x=false:=(by rw[Iu];intro c;obtain⟨j,p,e⟩:=Ol.1 (Ye.1 c);have hl:=a.out;exact f.out j ao9 (by rw[A3 p,e]));replace g:=Hh g;go_wp2;go_ret;exact⟨by rw[g.out];rfl,rfl⟩
def Ur (n h g:Int) (w:WD):CS prog 151 #[Z G n,Z G h,Z G g] w λe w'=>e=Y (Q (Ek n h g))/\w'=w:=by
 by_cases a:h<=n
 .have d:=Az a;by_cases b:n<=g
  .have i:=Az b;have f:=Ig.2 ⟨a,b⟩;replace⟨a,b,f⟩:=H3 a b f;go_enter func151,ntmps151;go_wp2;go_ret;exact⟨by rw[f.out];rfl,rfl⟩
  .have i:=A2 b
   have f:Ek n h g=false:=by rw[Iu];exact λc=>b (Ig.1 c).2
   replace⟨a,b,f⟩:=H3 a b f;go_enter func151,ntmps151;go_wp2;go_ret;exact⟨by rw[f.out];rfl,rfl⟩
 .have d:=A2 a
  have f:Ek n h g=false:=by rw[Iu];exact λc=>a (Ig.1 c).1
  replace⟨a,f⟩:=H2 a f;go_enter func151,ntmps151;go_wp2;go_ret;exact⟨by rw[f.out];rfl,rfl⟩
def Aq9 (w:WD) (b a n c:Nat) (xs:List Int) (x:Int) (h:At w (O ⟨b,a,I⟩) n xs) (k:Nat) (l:k<=n):CS prog 166 #[V (O ⟨b,a,I⟩) k c,Z G x] w λe w'=>e=Y (Q (I0 (xs.take k) x))/\w'=w:=by
 have m:=h.len;have o:=h.max;refine(Tryz.slices_Contains_int b a k c xs x w ao9 ao9 λj d=>?_).mono ?_
 .obtain ⟨i,f,e,_,g⟩:=h.cell j (xs[j]'d) (by simp[d]);cases e;rw[g];simp[List.getD,d]
 .rintro e w' ⟨rfl,rfl⟩
  have:(xs.take k).contains x=I0 (xs.take k) x:=by rw[Oq,Ye,List.contains_iff_mem]
  rw[this];exact⟨rfl,rfl⟩
def Ara  (h:8<l.length):L9 l=false:=by
 unfold L9;rw[show decide (l.length<=8)=false from A2 ao9];rfl
def Yh  {k:Nat} (a:k<l.length) (h:(qy (l.getD k 0) && !I0 (l.take k) (l.getD k 0))=false):L9 l=false:=by
 unfold L9;rw[Aq6 a h,Bool.and_false]
def Arb  (a:l.length<=8) (h:M1 l l.length=true):L9 l=true:=by
 unfold L9;rw[h,show decide (l.length<=8)=true from Az a];rfl
def Aby {x:Int} (h:x=0\/x < -8\/1099511627776<x):qy x=false:=by
 rw[Iu];intro c;have:=Aq7 c;omega
def Arc {x:Int} (h0:x≠0) (h1:-8<=x) (a:x<=1099511627776):qy x=true:=by
 simp only[qy,Da,F2];exact⟨⟨h0,h1⟩,a⟩
def Ard (so:Option Addr) (n c:Nat) (xs:List Int) (w:WD) (h:At w so n xs) (ao:n<=c):CS prog 153 #[V so n c] w λe w'=>e=Y (Q (L9 xs))/\w'=w:=by
 obtain⟨i3,q,t,l,o⟩:=Cf M0;have a:=h.len;have am:=h.max;by_cases h8:8<n
 .have d:decide ((8:Int)<n)=true:=Az ao9;have j:=Ara (by rw[a];exact h8);replace⟨h,a,j,h8,q,t,l,o⟩:=H8 h a j h8 q t l o;go_enter func153,ntmps153;go_wp2;go_ret;exact⟨by rw[j.out];rfl,rfl⟩
 have d:decide ((8:Int)<n)=false:=A2 ao9;replace⟨h,a,q,t,l,o⟩:=H6 h a q t l o;go_enter func153,ntmps153;go_wp2;clear d;go_loopw [3,4,10] (λ_ _ i wr=>∃k:Nat,i=Z G k/\k<=n/\Hid (M1 xs k=true)/\wr=w) (λ_ _ i _=>n-(intOf i).toNat)
 case atStart=>exact⟨0,rfl,As _,rfl,rfl⟩
 case round=>
  obtain⟨k,rfl,hk,v,rfl⟩:=hrel;by_cases hc:k<n
  .have ad:(k:Int)<n:=ao9;have an:(0:Int)<=(k:Int):=ao9;obtain⟨y,r⟩:=h.get hc;obtain⟨b,ac,rfl,hb,a0⟩:=h.cell k y r;have g:xs.getD k 0=y:=(by rw[List.getD,r];rfl);by_cases p:y=0
   .have d:(y == 0)=true:=(by simp[p]);have f:(qy (xs.getD k 0) && !I0 (xs.take k) (xs.getD k 0))=false:=(by rw[g,Aby (.inl p)];rfl);replace⟨r,g,f,p⟩:=H4 r g f p;have j:=Yh (k:=k) (by rw[a.out];exact hc) f.out;replace j:=Hh j;go_wp2;go_ret;exact⟨by rw[j.out];rfl,rfl⟩
   have d:(y == 0)=false:=(by simp[p]);by_cases u:y < -8
   .have d1:=Az u;have f:(qy (xs.getD k 0) && !I0 (xs.take k) (xs.getD k 0))=false:=(by rw[g,Aby (.inr (.inl u))];rfl);replace⟨r,g,f,p,u⟩:=H5 r g f p u;have j:=Yh (k:=k) (by rw[a.out];exact hc) f.out;replace j:=Hh j;go_wp2;go_ret;exact⟨by rw[j.out];rfl,rfl⟩
   have d1:=A2 u;by_cases q2:1099511627776<y
   .have d2:=Az q2;have f:(qy (xs.getD k 0) && !I0 (xs.take k) (xs.getD k 0))=false:=(by rw[g,Aby (.inr (.inr q2))];rfl);replace⟨r,g,f,p,u,q2⟩:=H6 r g f p u q2;have j:=Yh (k:=k) (by rw[a.out];exact hc) f.out;replace j:=Hh j;go_wp2;go_ret;exact⟨by rw[j.out];rfl,rfl⟩
   have d2:=A2 q2;have ap:=λw=>Xw Ns q.out ⟨b,ac,I⟩ n c k k rfl ao9 w;have s:=Aq9 wr b ac n c xs y h.out k ao9;obtain⟨m,hm⟩:=Ex (I0 (xs.take k) y);rw[<-hm]at s;have x:=Arc p ao9 ao9;replace⟨r,g,p,u,q2,s,hm,x⟩:=H8 r g p u q2 s hm x;go_wp2_with fail;refine s.mono ?_;rintro e w2 ⟨rfl,rfl⟩
   cases m with
   | true=>
    have f:(qy (xs.getD k 0) && !I0 (xs.take k) (xs.getD k 0))=false:=(by rw[g.out,<-hm.out];simp);replace f:=Hh f;have j:=Yh (k:=k) (by rw[a.out];exact hc) f.out;replace j:=Hh j;go_wp2;go_ret;exact⟨by rw[j.out];rfl,rfl⟩
   | false=>
    have z:M1 xs (k+1)=true:=(by simp only[M1,g.out,<-hm.out,x.out,v.out];rfl);replace z:=Hh z;go_wp2;go_roundw
    case rel=>exact⟨k+1,by go_num,ao9,z.out,trivial⟩
    case measure=>simp[intOf];omega
  .have ad:¬(k:Int)<n:=ao9;have al:k=n:=ao9;subst al;have j:=Arb (by rw[a.out];omega) (by rw[a.out];exact v.out);replace j:=Hh j;go_wp2;go_ret;exact⟨by rw[j.out];rfl,rfl⟩
structure ay where
 pl:du
 so:Option Addr
 n:Nat
 c:Nat
abbrev ay.cells (x:ay):Array VL:=#[D x.pl.user,D x.pl.part,Z G x.pl.nodes,Z G x.pl.df.a,Z G x.pl.df.b,Z G x.pl.df.c,Z G x.pl.df.d,Z G x.pl.wall,Z G x.pl.prio,Z G x.pl.array,Z G x.pl.ae,Q x.pl.held,V x.so x.n x.c]
abbrev ay.val (x:ay):VL:=.agg #[D x.pl.user,D x.pl.part,Z G x.pl.nodes,Z G x.pl.df.a,Z G x.pl.df.b,Z G x.pl.df.c,Z G x.pl.df.d,Z G x.pl.wall,Z G x.pl.prio,Z G x.pl.array,Z G x.pl.ae,Q x.pl.held,V x.so x.n x.c]
structure ay.ok (w:WD) (x:ay):Prop where
 after:At w x.so x.n x.pl.after
 lr:x.n<=x.c
 user:x.pl.user.size<=maxLen
 part:x.pl.part.size<=maxLen
def ay.ok.low  {x:ay} (h:x.ok w) (a:BW w.heap.size w w'):x.ok w':=⟨h.after.low a,h.lr,h.user,h.part⟩
def ay.zero:ay:=⟨du.zero,I,0,0⟩
def Yi (w:WD):At w I 0 []:=⟨rfl,ao9,λi x h=>by simp at h⟩
def O1 (s:du):Int:=if El s=true then 0 else 80
structure Ma (w:WD) (x:ay) (wr:WD):Prop where
 low:BW w.heap.size w wr
 box:wr.heap[w.heap.size]?=O (J x.cells 33 (0,0))
def Ma.below  {x:ay} (h:Ma w x wr) (a:BW wr.heap.size wr w'):Ma w x w':=
 ⟨h.low.trans (a.mono h.low.size),Ae a h.box (Ab h.box)⟩
def Ma.new (w:WD) (x:ay):Ma w x (w.alloc (J x.cells 33 (0,0))):=⟨Bn,Ah _ _⟩
def Ma.ok  {x:ay} (h:Ma w x wr) (a:x.ok w):x.ok wr:=a.low h.low
def Yj (x:ay) (w:WD) (hx:x.ok w):CS prog 97 #[x.val] w λe w'=>e=Y (Z G (O1 x.pl))/\BW w.heap.size w w':=by
 have g:=Ma.new w x;obtain⟨⟨b,a,nodes,⟨i,j,k,l⟩,d,c,array,s,f,after⟩,so,n,t⟩:=x;obtain⟨b1,ad⟩:=Ex (Bu b);obtain⟨b2,al⟩:=Ex (Bu a);obtain⟨b4,am⟩:=Ex (L9 after);obtain⟨b5,an⟩:=Ex (Ek nodes 1 16);obtain⟨b6,ao⟩:=Ex (Ek d 1 1000);obtain⟨b7,ap⟩:=Ex (Ek c 0 100);obtain⟨b8,av⟩:=Ex (Ek array 1 20);obtain⟨b9,aA⟩:=Ex (Ek s 0 5);have ac:=J3 ⟨i,j,k,l⟩;obtain⟨r,hr⟩:=Ex (V4.right ⟨i,j,k,l⟩);rw[<-hr]at ac;have hE:=Abw ⟨i,j,k,l⟩ ⟨0,0,0,0⟩;obtain⟨q,hq⟩:=Ex (decide ((⟨i,j,k,l⟩:V4)=⟨0,0,0,0⟩));rw[<-hq]at hE;have hd:So ⟨i,j,k,l⟩=(r && !q):=by unfold So;rw[hr,hq,<-decide_not];rfl
 have v:O1 ⟨b,a,nodes,⟨i,j,k,l⟩,d,c,array,s,f,after⟩=if (b1 && b2 && (r && !q) && b4 && b5 && b6 && b7 && b8 && b9)=true then 0 else 80:=by rw[ad,al,<-hd,am,an,ao,ap,av,aA];rfl
 have k1:∀W,CS prog 78 #[D b] W λe w'=>e=Y (Q b1)/\BW W.heap.size W w':=λW=>by rw[ad];exact Xp b W hx.user
 have k2:∀W,CS prog 78 #[D a] W λe w'=>e=Y (Q b2)/\BW W.heap.size W w':=λW=>by rw[al];exact Xp a W hx.part
 have k4:∀W,Ma w ⟨⟨b,a,nodes,⟨i,j,k,l⟩,d,c,array,s,f,after⟩,so,n,t⟩ W->CS prog 153 #[V so n t] W λe w'=>e=Y (Q b4)/\w'=W:=λW hW=>by rw[am];exact Ard so n t after W (hW.ok hx).after hx.lr
 have k5:∀W,CS prog 151 #[Z G nodes,Z G 1,Z G 16] W λe w'=>e=Y (Q b5)/\w'=W:=λW=>by rw[an];exact Ur _ _ _ W
 have k6:∀W,CS prog 151 #[Z G d,Z G 1,Z G 1000] W λe w'=>e=Y (Q b6)/\w'=W:=λW=>by rw[ao];exact Ur _ _ _ W
 have k7:∀W,CS prog 151 #[Z G c,Z G 0,Z G 100] W λe w'=>e=Y (Q b7)/\w'=W:=λW=>by rw[ap];exact Ur _ _ _ W
 have k8:∀W,CS prog 151 #[Z G array,Z G 1,Z G 20] W λe w'=>e=Y (Q b8)/\w'=W:=λW=>by rw[av];exact Ur _ _ _ W
 have k9:∀W,CS prog 151 #[Z G s,Z G 0,Z G 5] W λe w'=>e=Y (Q b9)/\w'=W:=λW=>by rw[aA];exact Ur _ _ _ W
 clear ad al hr hq hd am an ao ap av aA;have c0:(w.alloc (J (⟨⟨b,a,nodes,⟨i,j,k,l⟩,d,c,array,s,f,after⟩,so,n,t⟩:ay).cells 33 (0,0))).cell? ⟨w.heap.size,0,I⟩=O (D b):=Aa g.box 0;have c1:(w.alloc (J (⟨⟨b,a,nodes,⟨i,j,k,l⟩,d,c,array,s,f,after⟩,so,n,t⟩:ay).cells 33 (0,0))).cell? ⟨w.heap.size,1,I⟩=O (D a):=Aa g.box 1;have c2:(w.alloc (J (⟨⟨b,a,nodes,⟨i,j,k,l⟩,d,c,array,s,f,after⟩,so,n,t⟩:ay).cells 33 (0,0))).cell? ⟨w.heap.size,2,I⟩=O (Z G nodes):=Aa g.box 2;have c3:(w.alloc (J (⟨⟨b,a,nodes,⟨i,j,k,l⟩,d,c,array,s,f,after⟩,so,n,t⟩:ay).cells 33 (0,0))).cell? ⟨w.heap.size,3,I⟩=O (Z G i):=Aa g.box 3;have c4:(w.alloc (J (⟨⟨b,a,nodes,⟨i,j,k,l⟩,d,c,array,s,f,after⟩,so,n,t⟩:ay).cells 33 (0,0))).cell? ⟨w.heap.size,4,I⟩=O (Z G j):=Aa g.box 4;have c5:(w.alloc (J (⟨⟨b,a,nodes,⟨i,j,k,l⟩,d,c,array,s,f,after⟩,so,n,t⟩:ay).cells 33 (0,0))).cell? ⟨w.heap.size,5,I⟩=O (Z G k):=Aa g.box 5;have c6:(w.alloc (J (⟨⟨b,a,nodes,⟨i,j,k,l⟩,d,c,array,s,f,after⟩,so,n,t⟩:ay).cells 33 (0,0))).cell? ⟨w.heap.size,6,I⟩=O (Z G l):=Aa g.box 6;have c7:(w.alloc (J (⟨⟨b,a,nodes,⟨i,j,k,l⟩,d,c,array,s,f,after⟩,so,n,t⟩:ay).cells 33 (0,0))).cell? ⟨w.heap.size,7,I⟩=O (Z G d):=Aa g.box 7;have c8:(w.alloc (J (⟨⟨b,a,nodes,⟨i,j,k,l⟩,d,c,array,s,f,after⟩,so,n,t⟩:ay).cells 33 (0,0))).cell? ⟨w.heap.size,8,I⟩=O (Z G c):=Aa g.box 8;have c9:(w.alloc (J (⟨⟨b,a,nodes,⟨i,j,k,l⟩,d,c,array,s,f,after⟩,so,n,t⟩:ay).cells 33 (0,0))).cell? ⟨w.heap.size,9,I⟩=O (Z G array):=Aa g.box 9;have m:(w.alloc (J (⟨⟨b,a,nodes,⟨i,j,k,l⟩,d,c,array,s,f,after⟩,so,n,t⟩:ay).cells 33 (0,0))).cell? ⟨w.heap.size,10,I⟩=O (Z G s):=Aa g.box 10;have o:(w.alloc (J (⟨⟨b,a,nodes,⟨i,j,k,l⟩,d,c,array,s,f,after⟩,so,n,t⟩:ay).cells 33 (0,0))).cell? ⟨w.heap.size,11,I⟩=O (Q f):=Aa g.box 11;have p:(w.alloc (J (⟨⟨b,a,nodes,⟨i,j,k,l⟩,d,c,array,s,f,after⟩,so,n,t⟩:ay).cells 33 (0,0))).cell? ⟨w.heap.size,12,I⟩=O (V so n t):=Aa g.box 12;replace⟨v,k1,k2,ac,k4,k5,k6,k7⟩:=H8 v k1 k2 ac k4 k5 k6 k7;replace⟨k8,k9,hx,g⟩:=H4 k8 k9 hx g;have aB:=Hh hE;clear hE;go_enter func97,ntmps97;go_wp2_with fail;refine(k1 _).mono ?_;rintro e w1 ⟨rfl,u⟩;have y:=(g).out.below u;clear c0 c1 c2 c3 c4 c5 c6 c7 c8 c9 m o p;obtain⟨c0,c1,c2,c3,c4,c5,c6,c7,c8,c9,m,o,p⟩:=C13 (y).box;(try dsimp only at c0 c1 c2 c3 c4 c5 c6 c7 c8 c9 m o p);replace⟨y,u⟩:=H2 y u;clear u
 cases b1 with
 | false=>
  go_wp2;go_ret;exact⟨by rw[v.out];rfl,(y).out.low⟩
 | true=>
 go_wp2_with fail;refine(k2 _).mono ?_;rintro e w2 ⟨rfl,u⟩;have z:=(y).out.below u;clear c0 c1 c2 c3 c4 c5 c6 c7 c8 c9 m o p;obtain⟨c0,c1,c2,c3,c4,c5,c6,c7,c8,c9,m,o,p⟩:=C13 (z).box;(try dsimp only at c0 c1 c2 c3 c4 c5 c6 c7 c8 c9 m o p);replace⟨z,u⟩:=H2 z u;clear u
 cases b2 with
 | false=>
  go_wp2;go_ret;exact⟨by rw[v.out];rfl,(z).out.low⟩
 | true=>
 go_wp2_with fail;refine(ac _).mono ?_;rintro e w3 ⟨rfl,u⟩;have h:=(z).out.below u;clear c0 c1 c2 c3 c4 c5 c6 c7 c8 c9 m o p;obtain⟨c0,c1,c2,c3,c4,c5,c6,c7,c8,c9,m,o,p⟩:=C13 (h).box;(try dsimp only at c0 c1 c2 c3 c4 c5 c6 c7 c8 c9 m o p);replace⟨h,u⟩:=H2 h u;clear u
 cases r with
 | false=>
  go_wp2;go_ret;exact⟨by rw[v.out];rfl,(h).out.low⟩
 | true=>
 have hE:=aB.out
 cases q with
 | true=>
  go_wp2;go_ret;exact⟨by rw[v.out];rfl,(h).out.low⟩
 | false=>
 go_wp2_with fail;refine(k4 _ h.out).mono ?_;rintro e w4 ⟨rfl,rfl⟩;clear hE
 cases b4 with
 | false=>
  go_wp2;go_ret;exact⟨by rw[v.out];rfl,(h).out.low⟩
 | true=>
 go_wp2_with fail;refine(k5 _).mono ?_;rintro e w5 ⟨rfl,rfl⟩
 cases b5 with
 | false=>
  go_wp2;go_ret;exact⟨by rw[v.out];rfl,(h).out.low⟩
 | true=>
 go_wp2_with fail;refine(k6 _).mono ?_;rintro e w6 ⟨rfl,rfl⟩
 cases b6 with
 | false=>
  go_wp2;go_ret;exact⟨by rw[v.out];rfl,(h).out.low⟩
 | true=>
 go_wp2_with fail;refine(k7 _).mono ?_;rintro e w7 ⟨rfl,rfl⟩
 cases b7 with
 | false=>
  go_wp2;go_ret;exact⟨by rw[v.out];rfl,(h).out.low⟩
 | true=>
 go_wp2_with fail;refine(k8 _).mono ?_;rintro e w8 ⟨rfl,rfl⟩
 cases b8 with
 | false=>
  go_wp2;go_ret;exact⟨by rw[v.out];rfl,(h).out.low⟩
 | true=>
 go_wp2_with fail;refine(k9 _).mono ?_;rintro e w9 ⟨rfl,rfl⟩
 cases b9 with
 | false=>
  go_wp2;go_ret;exact⟨by rw[v.out];rfl,(h).out.low⟩
 | true=>
  go_wp2;go_ret;exact⟨by rw[v.out];rfl,(h).out.low⟩
end
section
open Go.RowKit Go.Maps Go.Shelf Go.Sort
variable{vs:List ar}{B N g:Nat}{so:Option Addr}{W w w':WD}
def P5   {v:VL} {xs:List Int} (h:Am w B v xs):∃so n c,v=V so n c/\n<=c/\At w so n xs/\∀b o,so=O ⟨b,o,I⟩->B<=b/\b<w.heap.size:=by
 obtain⟨so,c,e,f⟩:=Ags h;have i:=h.row;rcases i.2 with⟨a,h0⟩|⟨g,cap,j,a,l,k,p,_⟩
 .refine ⟨so,xs.length,c,e,ao9,f,λb o d=>?_⟩;rw[e]at a;injection a with a;rw[a]at d;cases d
 .refine ⟨so,xs.length,c,e,?_,f,λb o d=>?_⟩
  .rw [e]at a;injection a with _ _ hc;omega
  .have m:=Ab k;rw[e]at a;injection a with a;rw[a]at d;injection d with d;injection d with d;omega
def Ag9  (a:BW w.heap.size w w') (r:Option Nat):w.grownBy w' r:=⟨a.os,a.tape,a.output,a.size,λi b _=>a.block i b⟩
def Ab0 (w:WD) (r:Option Nat):w.grownBy w r:=Ag9 (Below.refl _ _) r
def Aha {a b c:WD} {r:Option Nat} (h1:a.grownBy b r) (d:b.grownBy c r):a.grownBy c r:=
 ⟨d.os.trans h1.os,d.tape.trans h1.tape,d.output.trans h1.output,A8 h1.size d.size,λi e f=>(d.block i (Bq e h1.size) f).trans (h1.block i e f)⟩
def Us {a w:WD} {b o:Nat} (h:a.grownBy w (O b)) (v:VL):a.grownBy (w.setCell ⟨b,o,I⟩ v) (O b):=
 ⟨h.os,h.tape,h.output,by simpa[World.setCell]using h.size,λi d c=>(C1 w ⟨b,o,I⟩ v i (λe=>c (by rw[e]))).trans (h.block i d c)⟩
def Art   {n:Nat} {xs:List Int} (h:At w so n xs) (j:w.heap.size<=w'.heap.size) (f:∀b c,so=O ⟨b,c,I⟩->b<w.heap.size->w'.heap[b]?=w.heap[b]?):At w' so n xs:=
 ⟨h.len,h.max,λi x k=>by
  obtain⟨b,c,e,d,g⟩:=h.cell i x k
  exact⟨b,c,e,ao9,(By (a:=⟨b,c+i,I⟩) (w:=w) (f b c e d)).trans g⟩⟩
def Ahb    {n:Nat} {xs:List Int} (h:At w so n xs) (f:w.grownBy w' (O g)) (i:∀b o,so=O ⟨b,o,I⟩->b≠g):At w' so n xs:=
 Art h f.size λb d e a=>f.block b a (λc=>i b d e (by injection c with c))
def Ahc {a w w':WD} {B r:Nat} (h:BW B a w) (c:w.grownBy w' (O r)) (b:B<=w.heap.size) (d:B<=r):BW B a w':=
 h.grown c b (λk e=>by injection e with e;omega)
def Ut (s:du):V4:=if El s=true then⟨s.df.a*s.nodes,s.df.b*s.nodes,s.df.c*s.nodes,s.df.d*s.nodes⟩else V4.zero
structure Ss (w:WD) (x:ay) (v:V4) (W:WD):Prop where
 low:BW w.heap.size w W
 box:W.heap[w.heap.size]?=O (J x.cells 33 (0,0))
 res:W.heap[w.heap.size+1]?=O (J V4.zero.cells 30 (0,0))
 vec:W.heap[w.heap.size+2]?=O (J v.cells 30 (0,0))
def Ss.set  {x:ay} {v a:V4} (h:Ss w x v W) (o:Nat) (z:VL) (e:v.cells.setIfInBounds o z=a.cells):Ss w x a (W.setCell ⟨w.heap.size+2,o,I⟩ z):=
 ⟨h.low.setCell (show w.heap.size<=w.heap.size+2 by omega) _,Dn ao9 _ h.box,Dn ao9 _ h.res,by rw[<-e];exact Ap h.vec o z⟩
def Yk {a n:Int} (h0:0<=a) (h1:a<=1073741824) (b:1<=n) (c:n<=16):0<=a*n/\a*n<=17179869184:=by
 refine⟨Int.mul_nonneg h0 ao9,?_⟩;have d:a*n<=1073741824*n:=Int.mul_le_mul_of_nonneg_right h1 ao9;omega
def Aru (a b c d:Int) (j:Nat) (e:j<4) (w:WD):(Instr.index 30 (.agg #[Z G a,Z G b,Z G c,Z G d]) (Z G (j:Int))).run prog w=.ok (Z G (V4.get ⟨a,b,c,d⟩ j)) w:=Apr a b c d j e w
def Arv (v:V4):pw v 0=V4.zero:=by simp[pw,V4.zero]
def Arw (v:V4):pw v 4=v:=by simp[pw]
def Arx (v:V4) (k:Nat) (a:k<4):(pw v k).cells.setIfInBounds k (Z G (v.get k))=(pw v (k+1)).cells:=by
 rcases(show k=0\/k=1\/k=2\/k=3 by omega)with rfl|rfl|rfl|rfl<;>simp[pw,V4.get]
def Ary (x:ay) (w:WD) (hx:x.ok w):CS prog 234 #[x.val] w λe w'=>e=Y (Ut x.pl).val/\BW w.heap.size w w':=by
 obtain⟨W0,j⟩:=Ex (((w.alloc (J x.cells 33 (0,0))).alloc (J V4.zero.cells 30 (0,0))).alloc (J V4.zero.cells 30 (0,0)));have f:Ss w x V4.zero W0:=by rw[j];exact⟨(Bn.alloc as9 _).alloc (by simp;omega) _,Aj _ (Aj _ (Ah _ _)),Aj _ (A6 _ _ as9),A6 _ _ as9⟩
 have hk:=Yj x W0 (hx.low f.low);by_cases hs:El x.pl=true;rotate_left
 .have m:Ut x.pl=V4.zero:=Ac hs;have he:O1 x.pl=80:=Ac hs;rw[he,j]at hk;have z:=Hh j;clear j;obtain⟨⟨ao,am,nodes,⟨r,s,t,u⟩,ap,an,array,ae,ac,after⟩,so,n,cp⟩:=x;replace⟨m,hk,f,hx,hs,he⟩:=H6 m hk f hx hs he;go_enter func234,ntmps234;go_wp2_with fail;refine hk.mono ?_;rintro e w1 ⟨rfl,o⟩;rw[<-z.out]at o;have g:=f.low.trans (o.mono f.low.size);have l:=Ae o f.res (Ab f.res);have q:=Ae o f.vec (Ab f.vec);have r0:=Bk l 0 (Z G 0) rfl;have r1:=Bk l 1 (Z G 0) rfl;have r2:=Bk l 2 (Z G 0) rfl;have r3:=Bk l 3 (Z G 0) rfl;have v0:=Bk q 0 (Z G 0) rfl;have v1:=Bk q 1 (Z G 0) rfl;have v2:=Bk q 2 (Z G 0) rfl;have v3:=Bk q 3 (Z G 0) rfl;have fr:=Ag l;replace⟨o,g,l,q⟩:=H4 o g l q;go_wp2;refine Al (v:=V4.zero.val) (by simp[results,results234,go_sem,r0,r1,r2,r3,V4.zero]) rfl ⟨by rw[m.out],?_⟩;exact((((g.setCell (D5 _) _).setCell (D5 _) _).setCell (D5 _) _).setCell (D5 _) _)
 have he:O1 x.pl=0:=Ad hs;have m:Ut x.pl=⟨x.pl.df.a*x.pl.nodes,x.pl.df.b*x.pl.nodes,x.pl.df.c*x.pl.nodes,x.pl.df.d*x.pl.nodes⟩:=Ad hs;rw[he,j]at hk;have z:=Hh j;clear j;obtain⟨_,_,q3,_,q5,_⟩:=Gy hs;obtain⟨h1,h2,h3,h4,h5,h6,h7,h8⟩:=Abr (Uq.1 q3).1;obtain⟨n1,n2⟩:=Ig.1 q5;obtain⟨⟨ao,am,nodes,⟨r,s,t,u⟩,ap,an,array,ae,ac,after⟩,so,n,cp⟩:=x;simp only at h1 h2 h3 h4 h5 h6 h7 h8 n1 n2;obtain⟨aC,aD⟩:=Yk h1 h2 n1 n2;obtain⟨aE,aF⟩:=Yk h3 h4 n1 n2;obtain⟨aG,aH⟩:=Yk h5 h6 n1 n2;obtain⟨aI,aJ⟩:=Yk h7 h8 n1 n2;replace⟨m,hk,f,hx,hs,he,q3,q5⟩:=H8 m hk f hx hs he q3 q5;go_enter func234,ntmps234;go_wp2_with fail;refine hk.mono ?_;rintro e w1 ⟨rfl,o⟩;rw[<-z.out]at o
 have h:Ss w ⟨⟨ao,am,nodes,⟨r,s,t,u⟩,ap,an,array,ae,ac,after⟩,so,n,cp⟩ V4.zero w1:=
  ⟨f.low.trans (o.mono f.low.size),Ae o f.box (Ab f.box),Ae o f.res (Ab f.res),Ae o f.vec (Ab f.vec)⟩
 have y3:=Bk h.box 3 (Z G r) rfl;have y4:=Bk h.box 4 (Z G s) rfl;have y5:=Bk h.box 5 (Z G t) rfl;have y6:=Bk h.box 6 (Z G u) rfl;replace⟨o,h⟩:=H2 o h;go_wp2;clear y3 y4 y5 y6;go_loopw [4,5,12] (λ_ _ i wr=>∃k:Nat,i=Z G k/\k<=4/\Hid (Ss w ⟨⟨ao,am,nodes,⟨r,s,t,u⟩,ap,an,array,ae,ac,after⟩,so,n,cp⟩ (pw ⟨r*nodes,s*nodes,t*nodes,u*nodes⟩ k) wr)) (λ_ _ i _=>4-(intOf i).toNat)
 case atStart=>exact⟨0,rfl,ao9,by rw[Arv];exact h.out⟩
 case round=>
  obtain⟨k,rfl,aL,hN⟩:=hrel;by_cases hc:k<4
  .have av:(k:Int)<4:=ao9;have aK:(0:Int)<=(k:Int):=ao9;have aA:=λw=>Aru r s t u k hc w;have al:=hN.set k _ (Arx ⟨r*nodes,s*nodes,t*nodes,u*nodes⟩ k hc)
   have ev:(V4.get ⟨r,s,t,u⟩ k)*nodes=V4.get ⟨r*nodes,s*nodes,t*nodes,u*nodes⟩ k:=by rcases(show k=0\/k=1\/k=2\/k=3 by omega)with rfl|rfl|rfl|rfl<;>rfl
   obtain⟨y,hy⟩:=Ex (V4.get ⟨r,s,t,u⟩ k)
   have aB:0<=y*nodes/\y*nodes<=17179869184:=by
    rw[hy,ev];rcases(show k=0\/k=1\/k=2\/k=3 by omega)with rfl|rfl|rfl|rfl
    .exact ⟨aC,aD⟩
    .exact ⟨aE,aF⟩
    .exact ⟨aG,aH⟩
    .exact ⟨aI,aJ⟩
   obtain⟨aN,aO⟩:=aB;rw[<-ev]at al;rw[<-hy]at aA al;have c2:=Bk hN.box 2 (Z G nodes) rfl;have fv:=Ag hN.vec;obtain⟨vk,aM⟩:∃vk,wr.cell? ⟨w.heap.size+2,k,I⟩=O vk:=(by rw[Aa hN.vec];exact⟨_,Pn (by simpa using hc)⟩);replace⟨al,hy,ev⟩:=H3 al hy ev;go_wp2;go_roundw
   case rel=>exact⟨k+1,by go_num,ao9,al.out⟩
   case measure=>simp[intOf];omega
  .have av:¬(k:Int)<4:=ao9;have ad:k=4:=ao9;have p:=hN.out;rw[ad,Arw]at p;have l:=p.res;have q:=p.vec;have g:=p.low;have r0:=Bk l 0 (Z G 0) rfl;have r1:=Bk l 1 (Z G 0) rfl;have r2:=Bk l 2 (Z G 0) rfl;have r3:=Bk l 3 (Z G 0) rfl;have v0:=Bk q 0 (Z G (r*nodes)) rfl;have v1:=Bk q 1 (Z G (s*nodes)) rfl;have v2:=Bk q 2 (Z G (t*nodes)) rfl;have v3:=Bk q 3 (Z G (u*nodes)) rfl;have fr:=Ag l;replace⟨g,l,q,ad,p⟩:=H5 g l q ad p;go_wp2;refine Al (v:=(⟨r*nodes,s*nodes,t*nodes,u*nodes⟩:V4).val) (by simp[results,results234,go_sem,r0,r1,r2,r3]) rfl ⟨by rw[m.out],?_⟩;exact((((g.setCell (D5 _) _).setCell (D5 _) _).setCell (D5 _) _).setCell (D5 _) _)
def Su (vs:List ar) (i:Int):V4:=if i<0 then V4.zero else((vs[i.toNat]?).map ar.cap).getD V4.zero
def Arz  {i:Int}  {e:Ending} (h:Agu vs i w e w'):∃(x:aq) (b:Bool),e=Y (E #[x.val,Q b])/\x.cap=Su vs i/\BW w.heap.size w w':=by
 obtain⟨x,b,f,_,c,_,d⟩:=h;refine⟨x,b,f,?_,c⟩;unfold Su;rcases d with⟨_,h0,a⟩|⟨_,rfl,a⟩
 .rw [Ac ao9,a];rfl
 .split
  .rfl
  .rw [Pq ao9];rfl
def P6 (vs:List ar) (d:V4) (l:List Int):Nat:=(l.filter λi=>d.fits (Su vs i)).length
def Ar0  {d:V4} {l:List Int} {k:Nat} {y:Int} (h:l[k]?=O y):P6 vs d (l.take (k+1))=P6 vs d (l.take k)+if d.fits (Su vs y)=true then 1 else 0:=by
 unfold P6;rw[Jq h,Nt,Cn];congr 1
 by_cases q:d.fits (Su vs y)=true<;>simp[q]
def Ar1 (vs:List ar) (d:V4) (l:List Int):P6 vs d l<=l.length:=Ok _ _
def D7 (s:du) (vs:List ar):Int:=
 if El s=false then 80 else if B5 vs s.part=[]then 81 else if (P6 vs s.df (B5 vs s.part):Int)<s.nodes then 82 else 0
def Ar2  {fb mb base:Nat}  (h:lu w fb mb base vs) (aD:Jr vs) (x:ay) (hx:x.ok w):CS prog 98 #[K (O ⟨fb,0,I⟩),x.val] w λe w'=>e=Y (Z G (D7 x.pl vs))/\BW w.heap.size w w':=by
 have a:=Ma.new w x;have aH:=Yj x (w.alloc (J x.cells 33 (0,0))) (hx.low a.low);obtain⟨er,aN⟩:=Ex (O1 x.pl);rw[<-aN]at aH
 have aB:(er=0/\El x.pl=true)\/(er=80/\El x.pl=false):=by
  rw[aN];unfold O1
  cases El x.pl<;>simp
 clear aN;have aO:=h.below a.low;obtain⟨⟨a0,f,nodes,⟨da,db,dc,dd⟩,a1,aZ,array,ae,aY,after⟩,so,n,cp⟩:=x;have c0:=Aa a.box 0;have c1:=Aa a.box 1;have c2:=Aa a.box 2;have c3:=Aa a.box 3;have c4:=Aa a.box 4;have c5:=Aa a.box 5;have c6:=Aa a.box 6;have c7:=Aa a.box 7;have c8:=Aa a.box 8;have c9:=Aa a.box 9;have aS:=Aa a.box 10;have aT:=Aa a.box 11;have aU:=Aa a.box 12;simp at c0 c1 c2 c3 c4 c5 c6 c7 c8 c9 aS aT aU;replace⟨a,aH,aO,h,aD,hx,aB⟩:=H7 a aH aO h aD hx aB;go_enter func98,ntmps98;go_wp2_with fail;refine aH.mono ?_;rintro e w1 ⟨rfl,ad⟩;have p:=a.below ad;have am:=aO.below ad;clear c0 c1 c2 c3 c4 c5 c6 c7 c8 c9 aS aT aU;rcases aB.out with⟨rfl,j⟩|⟨rfl,j⟩;rotate_left
 .replace ⟨ad,p,am,j⟩:=H4 ad p am j;clear aB;go_wp2;go_ret;exact⟨by unfold D7;rw[Ad j.out];rfl,p.low⟩
 have y1:=Bk p.box 1 (D f) rfl;have aP:=Agq am aD.out f;clear aB;replace⟨ad,p,am,j,aP⟩:=H5 ad p am j aP;go_wp2_with fail;refine aP.mono ?_;rintro e w2 ⟨v2,rfl,av,al⟩;obtain⟨po,pn,pc,rfl,a3,ac,t⟩:=P5 av;have u:=p.below al;have aC:=am.below al;have l:=ac.len;have a4:pn<=16:=by have h1:=Agm vs f 0;have h2:=aD.len;unfold B5 at l;omega
 by_cases q0:pn=0
 .subst q0;replace⟨av,al,ac,t,u,aC,l⟩:=H7 av al ac t u aC l;clear y1;go_wp2;go_ret;exact⟨by unfold D7;rw[Ac (by rw[j.out];simp),Ad (Ib.1 l.out)];rfl,u.low⟩
 have a7:((pn:Int) == 0)=false:=by rw[Br];omega
 clear y1;replace⟨av,al,ac,t,u,aC,l,q0⟩:=H8 av al ac t u aC l q0;go_wp2;go_loopw [7,9,10,11,26] (λm _ _ _ i wr=>∃k:Nat,i=Z G k/\k<=pn/\m=Z G (P6 vs ⟨da,db,dc,dd⟩ ((B5 vs f).take k):Nat)/\Hid (BW w2.heap.size w2 wr)) (λ_ _ _ _ i _=>pn-(intOf i).toNat)
 case atStart=>exact⟨0,rfl,As _,rfl,Below.refl _ _⟩
 case round=>
  obtain⟨k,rfl,hk,rfl,hB⟩:=hrel;obtain⟨z,hz⟩:=Ex (P6 vs ⟨da,db,dc,dd⟩ ((B5 vs f).take k));rw[<-hz];have a5:z<=16:=by have h1:=Ar1 vs ⟨da,db,dc,dd⟩ ((B5 vs f).take k);have h2:=Qu k (B5 vs f);omega
  have g:=u.below hB.out;have r:=aC.below hB.out;by_cases hc:k<pn
  .have aW:(k:Int)<pn:=ao9;have a2:(0:Int)<=(k:Int):=ao9;obtain⟨y,hy⟩:=Ge ((B5 vs f)) k (by have:=l.out;omega);obtain⟨b,a6,rfl,hb,aM⟩:=(ac.low hB.out).cell k y hy;have aR:=Agv r aD.out y;have aE:=Ar0 (vs:=vs) (d:=⟨da,db,dc,dd⟩) hy;rw[<-hz]at aE;have aX:IntKind.i64.wrap ((z:Int)+1)=(z:Int)+1:=D4 _ ao9;replace⟨hy,aR,aE,g,r,hz⟩:=H6 hy aR aE g r hz;go_wp2_with fail;refine aR.mono ?_;intro e w3 hN;obtain⟨⟨nm,⟨ca,cb,cc,cd⟩,qo,qn,qc,qs⟩,b3,rfl,s,aA⟩:=Arz hN;clear hN;replace⟨s,aA⟩:=H2 s aA;go_upto_region 12 with fail;obtain⟨nb,aQ⟩:=Ex (w3.heap.size);obtain⟨W4,aF⟩:=Ex (w3.alloc (J (⟨nm,⟨ca,cb,cc,cd⟩,qo,qn,qc,qs⟩:aq).cells 69 (0,0)));have aG:BW w3.heap.size w3 W4:=(by rw[aF];exact Bn);have an:W4.heap[nb]?=O (J (⟨nm,⟨ca,cb,cc,cd⟩,qo,qn,qc,qs⟩:aq).cells 69 (0,0)):=(by rw[aF,aQ];exact Ah _ _);rw[<-aF,<-aQ];have v:=(g.below aA.out).below aG;have aJ:=(hB.trans (aA.mono hB.size)).trans (aG.mono (hB.trans (aA.mono hB.size)).size);clear aF aQ;have y3:=Bk v.box 3 (Z G da) rfl;have y4:=Bk v.box 4 (Z G db) rfl;have y5:=Bk v.box 5 (Z G dc) rfl;have y6:=Bk v.box 6 (Z G dd) rfl;have n1:=Bk an 1 (Z G ca) rfl;have n2:=Bk an 2 (Z G cb) rfl;have n3:=Bk an 3 (Z G cc) rfl;have n4:=Bk an 4 (Z G cd) rfl;have aI:=Xo ⟨da,db,dc,dd⟩ ⟨ca,cb,cc,cd⟩ W4;obtain⟨q,hq⟩:=Ex (V4.fits ⟨da,db,dc,dd⟩ ⟨ca,cb,cc,cd⟩);rw[<-hq]at aI;have o:=aE.out;rw[show Su vs y=⟨ca,cb,cc,cd⟩from s.symm,<-hq]at o;clear hq aE s aM;replace⟨aG,an,v,aJ,aI,o⟩:=H6 aG an v aJ aI o;go_wp2_with fail;refine aI.mono ?_;rintro e w5 ⟨rfl,aL⟩;have aK:=aJ.trans (aL.mono aJ.size);clear y3 y4 y5 y6 n1 n2 n3 n4;replace⟨aL,aK⟩:=H2 aL aK
   cases q with
   | true=>
    go_wp2;go_roundw
    case rel=>exact⟨k+1,by go_num,ao9,by rw[o.out];first|rfl|simp,aK.out⟩
    case measure=>simp[intOf];omega
   | false=>
    go_wp2;go_roundw
    case rel=>exact⟨k+1,by go_num,ao9,by rw[o.out];first|rfl|simp,aK.out⟩
    case measure=>simp[intOf];omega
  .have aW:¬(k:Int)<pn:=ao9;have aV:k=pn:=ao9;have ap:z=P6 vs ⟨da,db,dc,dd⟩ (B5 vs f):=(by rw[hz,aV,<-l.out,Pu]);have y2:=Bk g.box 2 (Z G nodes) rfl
   have ao:B5 vs f≠[]:=λc=>by have:=l.out;rw[c]at this;exact q0.out this.symm
   clear hz aV;by_cases q3:(z:Int)<nodes
   .replace ⟨g,r,ap,ao⟩:=H4 g r ap ao;go_wp2;go_ret;exact⟨by unfold D7;rw[Ac (by rw[j.out];simp),Ac ao.out,Ad (by rw[<-ap.out];exact q3)];rfl,g.low⟩
   .replace ⟨g,r,ap,ao⟩:=H4 g r ap ao;go_wp2;go_ret;exact⟨by unfold D7;rw[Ac (by rw[j.out];simp),Ac ao.out,Ac (by rw[<-ap.out];exact Int.not_lt.2 q3)];rfl,g.low⟩
def Ahd (p q:ByteArray):(p.toList == q.toList)=decide (p=q):=by
 by_cases h:p=q
 .rw [X9 h,Az h]
 .rw [Ya h,A2 h]
def Ux (a b:Int):(a == b)=decide (a=b):=by
 by_cases h:a=b<;>simp[h]
def Ar6 (a b:Bool):(a == b)=decide (a=b):=by cases a<;>cases b<;>rfl
def Ar7 (a b:du):decide (a=b)=(decide (a.after=b.after) && decide (a.user=b.user) && decide (a.part=b.part) && decide (a.nodes=b.nodes) && decide (a.df=b.df) && decide (a.wall=b.wall) && decide (a.prio=b.prio) && decide (a.array=b.array) && decide (a.ae=b.ae) && decide (a.held=b.held)):=by
 obtain⟨a1,a2,a3,n,o,p,q,r,s,l⟩:=a;obtain⟨t,u,v,x,y,z,b7,b8,b9,m⟩:=b;rw[Oq];simp only[Da,F2,du.mk.injEq];constructor
 .rintro ⟨h1,d,e,f,g,h,i,j,k,c⟩;exact⟨⟨⟨⟨⟨⟨⟨⟨⟨c,h1⟩,d⟩,e⟩,f⟩,g⟩,h⟩,i⟩,j⟩,k⟩
 .rintro ⟨⟨⟨⟨⟨⟨⟨⟨⟨c,h1⟩,d⟩,e⟩,f⟩,g⟩,h⟩,i⟩,j⟩,k⟩;exact⟨h1,d,e,f,g,h,i,j,k,c⟩
def Ab2 (x y:ay) (w:WD) (e:Ending) (w':WD):Prop:=e=Y (Q (decide (x.pl=y.pl)))/\BW w.heap.size w w'
def Ar8 (x y:ay) (w:WD) (hx:x.ok w) (hy:y.ok w):CS prog 49 #[x.val,y.val] w (Ab2 x y w):=by
 obtain⟨W0,ad⟩:=Ex ((w.alloc (J x.cells 33 (0,0))).alloc (J y.cells 33 (0,0)));have al:BW w.heap.size w W0:=by rw[ad];exact Bn.alloc as9 _
 have ao:W0.heap[w.heap.size]?=O (J x.cells 33 (0,0)):=by rw[ad];exact Aj _ (Ah _ _)
 have ap:W0.heap[w.heap.size+1]?=O (J y.cells 33 (0,0)):=by rw[ad];exact A6 _ _ as9
 have an:=Agt x.so y.so x.n y.n x.c y.c x.pl.after y.pl.after W0 (hx.low al).after (hy.low al).after;have aA:=Ar7 x.pl y.pl;obtain⟨⟨s,q,nodes,⟨da,db,dc,dd⟩,t,r,array,ae,p,after⟩,so,n,cp⟩:=x;obtain⟨⟨l,j,f,⟨u,v,z,ac⟩,m,k,d,a,i,o⟩,aD,n',aC⟩:=y;have e1:=Ahd s l;have e2:=Ahd q j;have e3:=Ux nodes f;have e4:=Abw ⟨da,db,dc,dd⟩ ⟨u,v,z,ac⟩;have e5:=Ux t m;have e6:=Ux r k;have e7:=Ux array d;have e8:=Ux ae a;have e9:=Ar6 p i;obtain⟨q0,h0⟩:=Ex (decide (after=o));obtain⟨q1,h1⟩:=Ex (decide (s=l));obtain⟨q2,h2⟩:=Ex (decide (q=j));obtain⟨q3,h3⟩:=Ex (decide (nodes=f));obtain⟨q4,h4⟩:=Ex (decide ((⟨da,db,dc,dd⟩:V4)=⟨u,v,z,ac⟩));obtain⟨q5,h5⟩:=Ex (decide (t=m));obtain⟨q6,h6⟩:=Ex (decide (r=k));obtain⟨q7,h7⟩:=Ex (decide (array=d));obtain⟨q8,h8⟩:=Ex (decide (ae=a));obtain⟨q9,h9⟩:=Ex (decide (p=i));unfold Abs at an;rw[<-h0]at an;rw[<-h1]at e1;rw[<-h2]at e2;rw[<-h3]at e3;rw[<-h4]at e4;rw[<-h5]at e5;rw[<-h6]at e6;rw[<-h7]at e7;rw[<-h8]at e8;rw[<-h9]at e9;have hz:decide ((⟨s,q,nodes,⟨da,db,dc,dd⟩,t,r,array,ae,p,after⟩:du)=⟨l,j,f,⟨u,v,z,ac⟩,m,k,d,a,i,o⟩)=(q0 && q1 && q2 && q3 && q4 && q5 && q6 && q7 && q8 && q9):=by rw[aA];show(decide (after=o) && decide (s=l) && decide (q=j) && decide (nodes=f) && decide ((⟨da,db,dc,dd⟩:V4)=⟨u,v,z,ac⟩) && decide (t=m) && decide (r=k) && decide (array=d) && decide (ae=a) && decide (p=i))=_;rw[<-h0,<-h1,<-h2,<-h3,<-h4,<-h5,<-h6,<-h7,<-h8,<-h9]
 unfold Ab2;show CS _ _ _ _ λe w'=>e=Y (Q (decide ((⟨s,q,nodes,⟨da,db,dc,dd⟩,t,r,array,ae,p,after⟩:du)=⟨l,j,f,⟨u,v,z,ac⟩,m,k,d,a,i,o⟩)))/\BW w.heap.size w w';rw[hz];clear aA h0 h1 h2 h3 h4 h5 h6 h7 h8 h9 hz;have hz:=trivial;rw[ad]at an;have av:=Hh ad;clear ad;have aB:=Hh e4;clear e4;replace⟨al,ao,ap,an,hx,hy,e1,e2⟩:=H8 al ao ap an hx hy e1 e2;replace⟨e3,e5,e6,e7,e8,e9⟩:=H6 e3 e5 e6 e7 e8 e9;go_enter func49,ntmps49;go_wp2_with fail;refine an.mono ?_;rintro e w1 ⟨rfl,am⟩;rw[<-av.out]at am;have g:=Ae am ao.out (Ab ao.out);have h:=Ae am ap.out (Ab ap.out);have b:=al.trans (am.mono al.size);have y0:=Bk g 0 (D s) rfl;have y1:=Bk g 1 (D q) rfl;have y2:=Bk g 2 (Z G nodes) rfl;have y3:=Bk g 3 (Z G da) rfl;have y4:=Bk g 4 (Z G db) rfl;have y5:=Bk g 5 (Z G dc) rfl;have y6:=Bk g 6 (Z G dd) rfl;have y7:=Bk g 7 (Z G t) rfl;have y8:=Bk g 8 (Z G r) rfl;have y9:=Bk g 9 (Z G array) rfl;have aE:=Bk g 10 (Z G ae) rfl;have aF:=Bk g 11 (Q p) rfl;have z0:=Bk h 0 (D l) rfl;have z1:=Bk h 1 (D j) rfl;have z2:=Bk h 2 (Z G f) rfl;have z3:=Bk h 3 (Z G u) rfl;have z4:=Bk h 4 (Z G v) rfl;have z5:=Bk h 5 (Z G z) rfl;have z6:=Bk h 6 (Z G ac) rfl;have z7:=Bk h 7 (Z G m) rfl;have z8:=Bk h 8 (Z G k) rfl;have z9:=Bk h 9 (Z G d) rfl;have aG:=Bk h 10 (Z G a) rfl;have aH:=Bk h 11 (Q i) rfl;replace⟨g,h,b,am⟩:=H4 g h b am
 cases q0 with
 | false=>
  go_wp2;go_ret;exact⟨rfl,b.out⟩
 | true=>
 have f1:=e1.out
 cases q1 with
 | false=>
  go_wp2;go_ret;exact⟨rfl,b.out⟩
 | true=>
 have f2:=e2.out
 cases q2 with
 | false=>
  go_wp2;go_ret;exact⟨rfl,b.out⟩
 | true=>
 have f3:=e3.out
 cases q3 with
 | false=>
  go_wp2;go_ret;exact⟨rfl,b.out⟩
 | true=>
 have f4:=aB.out
 cases q4 with
 | false=>
  go_wp2;go_ret;exact⟨rfl,b.out⟩
 | true=>
 have f5:=e5.out
 cases q5 with
 | false=>
  go_wp2;go_ret;exact⟨rfl,b.out⟩
 | true=>
 have f6:=e6.out
 cases q6 with
 | false=>
  go_wp2;go_ret;exact⟨rfl,b.out⟩
 | true=>
 have f7:=e7.out
 cases q7 with
 | false=>
  go_wp2;go_ret;exact⟨rfl,b.out⟩
 | true=>
 have f8:=e8.out
 cases q8 with
 | false=>
  go_wp2;go_ret;exact⟨rfl,b.out⟩
 | true=>
 have f9:=e9.out
 cases q9 with
 | false=>
  go_wp2;go_ret;exact⟨rfl,b.out⟩
 | true=>
 go_wp2;go_ret;exact⟨rfl,b.out⟩
def Ab3:(prog.info? 33).map (λi=>(i.zero,i.size,i.bytes))=O (O ay.zero.val,13,136):=by kernel_rfl
def ay.single (x:ay):ay:=⟨{ x.pl with array:=1 },x.so,x.n,x.c⟩
def Q9 (s:du):Nat:=if El s=true then s.array.toNat else 0
def M9 (c:Array VL) (base:Nat):List VL->Array VL
 | []=>c
 | v :: vs=>M9 (c.setIfInBounds base v) (base+1) vs
def setRow (W:WD) (g base:Nat):List VL->WD
 | []=>W
 | v :: vs=>setRow (W.setCell ⟨g,base,I⟩ v) g (base+1) vs
def Uy:∀(vs:List VL) (c:Array VL) (base:Nat),(M9 c base vs).size=c.size
 | [],_,_=>rfl
 | v :: vs,c,base=>by rw[M9,Uy vs];simp
def Ab4:∀(vs:List VL) (c:Array VL) (base i:Nat),i<base->(M9 c base vs)[i]?=c[i]?
 | [],_,_,_,_=>rfl
 | v :: vs,c,base,i,h=>by
  rw[M9,Ab4 vs _ _ _ ao9,Oj,Ac ao9]
def Ahe:∀(vs:List VL) (c:Array VL) (base i:Nat),base+vs.length<=i->(M9 c base vs)[i]?=c[i]?
 | [],_,_,_,_=>rfl
 | v :: vs,c,base,i,h=>by
  simp only[Jl]at h;rw[M9,Ahe vs _ _ _ ao9,Oj,Ac ao9]
def Ahf:∀(vs:List VL) (c:Array VL) (base o:Nat),o<vs.length->base+vs.length<=c.size->(M9 c base vs)[base+o]?=vs[o]?
 | [],_,_,_,h,_=>by simp at h
 | v :: vs,c,base,0,h,hs=>by
  simp only[Jl]at hs;rw[M9,Ab4 vs _ _ _ ao9,Jo,Oj,Ad rfl,Ad ao9];rfl
 | v :: vs,c,base,o+1,h,hs=>by
  simp only[Jl]at h hs;rw[M9,show base+(o+1)=base+1+o by omega,Ahf vs _ _ _ ao9 (by simp;omega)];rfl
def Ab5:∀(vs:List VL) {W:WD} {g base:Nat} {c:Array VL} {T:TypeId} {fr:Nat×Nat},W.heap[g]?=O (J c T fr)->(setRow W g base vs).heap[g]?=O (J (M9 c base vs) T fr)
 | [],_,_,_,_,_,_,h=>h
 | v :: vs,_,_,base,_,_,_,h=>Ab5 vs (Ap h base v)
def Ab6:∀(vs:List VL) (W:WD) (g base:Nat),W.grownBy (setRow W g base vs) (O g)
 | [],W,_,_=>Ab0 W _
 | v :: vs,W,g,base=>Aha (Us (Ab0 W _) v) (Ab6 vs _ g (base+1))
structure Sx (c:Array VL) (N:Nat) (xs:List ay):Prop where
 size:c.size=N*13
 done:∀j y,xs[j]?=O y->∀o,o<13->c[j*13+o]?=y.cells[o]?
 rest:∀j,xs.length<=j->j<N->∀o,o<13->c[j*13+o]?=ay.zero.cells[o]?
def Sx.next {c d:Array VL}  {xs:List ay} {y:ay} (h:Sx c N xs) (m:d.size=c.size) (l:∀o,o<13->d[xs.length*13+o]?=y.cells[o]?) (k:∀i,i<xs.length*13\/xs.length*13+13<=i->d[i]?=c[i]?):Sx d N (xs++[y]):=by
 refine⟨by rw[m,h.size],λj z b o a=>?_,λj b g o a=>?_⟩
 .by_cases e:j<xs.length
  .rw [Fb e]at b;rw[k _ (.inl ao9)];exact h.done j z b o a
  .rw [Ia ao9]at b;have f:j-xs.length=0:=(by have:=(An.1 b).1;simp at this;omega);rw[f]at b
   have:z=y:=by simpa using b.symm
   subst this;rw[show j=xs.length by omega];exact l o a
 .simp only[Cn,Jl,Qw]at b;rw[k _ (.inr ao9)];exact h.rest j ao9 g o a
def Uz (n:Nat) (l:List Int) (W:WD) (e:Ending) (w':WD):Prop:=
 ∃so' c',e=Y (V so' n c')/\n<=c'/\At w' so' n l/\(∀b o,so'=O ⟨b,o,I⟩->o=0/\W.heap.size<=b/\b<w'.heap.size/\∃cc,w'.heap[b]?=O (J cc 3 (0,0)))/\BW W.heap.size W w'
structure Ahg (w:WD) (x:ay) (g N:Nat) (xs:List ay) (W:WD):Prop where
 low:BW w.heap.size w W
 wj:w.heap.size<g
 row:∃c,W.heap[g]?=O (J c 33 (0,0))/\Sx c N xs
 one:∀(j:Nat) (y:ay),xs[j]?=O y->y.pl=x.single.pl/\y.n=x.n/\y.n<=y.c/\At W y.so y.n x.pl.after/\∀b o,y.so=O ⟨b,o,I⟩->o=0/\g<b/\b<W.heap.size/\∃cc,W.heap[b]?=O (J cc 3 (0,0))
 apart:∀(i j:Nat) (y z:ay) (b o o':Nat),xs[i]?=O y->xs[j]?=O z->i<j->y.so=O ⟨b,o,I⟩->z.so≠O ⟨b,o',I⟩
structure Sy (w:WD) (x:ay) (g N:Nat) (xs:List ay) (W:WD):Prop extends Ahg w x g N xs W where
 box:W.heap[w.heap.size]?=O (J x.cells 33 (0,0))
def Ar9 (x:ay) (w:WD) (e:Ending) (w':WD):Prop:=
 (El x.pl=false/\e=Y (V I 0 0)/\BW w.heap.size w w')\/(El x.pl=true/\∃g xs,e=Y (V (O ⟨g,0,I⟩) (Q9 x.pl) (Q9 x.pl))/\xs.length=Q9 x.pl/\Ahg w x g (Q9 x.pl) xs w')
def Sy.next  {x:ay}  {xs:List ay} {W p:WD} (h:Sy w x g N xs W) (hN:xs.length<N) (a:Option Addr) (m:Nat) (ao:x.n<=m)
  (hi:At p a x.n x.pl.after) (r:∀b o,a=O ⟨b,o,I⟩->o=0/\W.heap.size<=b/\b<p.heap.size/\∃u,p.heap[b]?=O (J u 3 (0,0)))
  (hb:BW ((setRow W g (xs.length*13) x.cells.toList).setCell ⟨g,xs.length*13+9,I⟩ (Z G 1)).heap.size ((setRow W g (xs.length*13) x.cells.toList).setCell ⟨g,xs.length*13+9,I⟩ (Z G 1)) p) :
  Sy w x g N (xs++[⟨x.single.pl,a,x.n,m⟩]) (p.setCell ⟨g,xs.length*13+12,I⟩ (V a x.n m)):=by
 obtain⟨c,ak,v⟩:=h.row;have av:=Ab ak;have g1:=Ab6 x.cells.toList W g (xs.length*13);have g2:=Us (o:=xs.length*13+9) g1 (Z G 1);have g3:=Aha g2 (Ag9 hb (O g));have g4:=Us (o:=xs.length*13+12) g3 (V a x.n m);have r1:=Ab5 x.cells.toList (base:=xs.length*13) ak;have r2:=Ap r1 (xs.length*13+9) (Z G 1);have r3:=Ae hb r2 (Ab r2);have r4:=Ap r3 (xs.length*13+12) (V a x.n m);have aB:xs.length*13+13<=c.size:=by rw[v.size];omega
 have l:∀b,b≠g->b<W.heap.size->(p.setCell ⟨g,xs.length*13+12,I⟩ (V a x.n m)).heap[b]?=W.heap[b]?:=λb q an=>g4.block b an (λe=>q (by injection e with e));have aA:=g3.size;have ac:(p.setCell ⟨g,xs.length*13+12,I⟩ (V a x.n m)).heap.size=p.heap.size:=by simp[World.setCell]
 refine⟨⟨Ahc h.low g4 h.low.size (Sf h.wj),h.wj,⟨_,r4,v.next (y:=⟨x.single.pl,a,x.n,m⟩) ?_ ?_ ?_⟩,λj y t=>?_,λi j y z b o o' k d am hy hz=>?_⟩,(l _ (by have:=h.wj;omega) (Ab h.box)).trans h.box⟩
 .simp [Uy]
 .intro o ho;have f:x.cells.toList.length=13:=rfl;rw[Oj];by_cases ad:o=12
  .subst ad;rw[Ad rfl,Ad (by simp[Uy];omega)];rfl
  .rw [Ac ao9,Oj];by_cases e9:o=9
   .subst e9;rw[Ad rfl,Ad (by rw[Uy];omega)];rfl
   .rw [Ac ao9,Ahf _ _ _ _ (by rw[f];omega) (by rw[f];omega)]
    rcases(show o=0\/o=1\/o=2\/o=3\/o=4\/o=5\/o=6\/o=7\/o=8\/o=10\/o=11 by omega)with rfl|rfl|rfl|rfl|rfl|rfl|rfl|rfl|rfl|rfl|rfl<;>rfl
 .intro i k;have f:x.cells.toList.length=13:=rfl;rw[Oj,Ac ao9,Oj,Ac ao9];rcases k with h1|h1
  .exact Ab4 _ _ _ _ h1
  .exact Ahe _ _ _ _ (by rw[f];omega)
 .by_cases e:j<xs.length
  .rw [Fb e]at t;obtain⟨a1,a2,a3,a4,a5⟩:=h.one j y t;refine⟨a1,a2,a3,Ahb a4 g4 λb o e=>by have:=(a5 b o e).2.1;omega,λb o e=>?_⟩;obtain⟨b1,b2,b3,u,b4⟩:=a5 b o e;exact⟨b1,b2,by rw[ac];omega,u,(l b ao9 b3).trans b4⟩
  .rw [Ia ao9]at t;have s:j-xs.length=0:=(by have:=(An.1 t).1;simp at this;omega);rw[s]at t;have hy:y=⟨x.single.pl,a,x.n,m⟩:=(by simpa using t.symm);subst hy
   have q:∀b o,a=O ⟨b,o,I⟩->b≠g:=λb o e=>by have:=(r b o e).2.1;omega
   refine⟨rfl,rfl,ao,Ahb hi (Us (Ab0 p (O g)) _) q,λb o e=>?_⟩;obtain⟨b1,b2,b3,u,b4⟩:=r b o e;exact⟨b1,ao9,by rw[ac];exact b3,u,Dn (q b o e) _ b4⟩
 .by_cases e:j<xs.length
  .rw [Fb e]at d;rw[Fb ao9]at k;exact h.apart i j y z b o o' k d am hy hz
  .rw [Ia ao9]at d;have s:j-xs.length=0:=(by have:=(An.1 d).1;simp at this;omega);rw[s]at d;have ap:z=⟨x.single.pl,a,x.n,m⟩:=(by simpa using d.symm);subst ap;have al:i<xs.length:=(by have:=(An.1 d).1;omega);rw[Fb al]at k;have q1:=((h.one i y k).2.2.2.2 b o hy).2.2.1;have q2:=(r b o' hz).2.1;omega
structure Kv (w:WD) (so:Option Addr) (n:Nat) (xs:List ay):Prop where
 len:xs.length=n
 max:n<=9223372036854775807
 cell:∀(i:Nat) (x:ay),xs[i]?=O x->∃b off,so=O ⟨b,off,I⟩/\b<w.heap.size/\(∀j,j<13->w.cell? ⟨b,off+i*13+j,I⟩=x.cells[j]?)/\x.ok w
def Kv.low   {n:Nat} {xs:List ay} (h:Kv w so n xs) (c:BW w.heap.size w w'):Kv w' so n xs:=
 ⟨h.len,h.max,λi x l=>by
  obtain⟨b,d,e,a,f,k⟩:=h.cell i x l
  exact⟨b,d,e,Bq a c.size,λj g=>(Af c a).trans (f j g),k.low c⟩⟩
end
section
open Go.RowKit Go.Maps Go.Lib
variable{js:List Jb}{k:Nat}
def Asw (l:Lf) (h:dz l.st=true):dz (Ay l 7).1.st=false:=by
 unfold Ay;by_cases a:Kp l=false
 .rw [Ad a];rfl
 .rw [Ac a,Ad h];have e:Dz l 7=(⟨8,l.bh,l.left,l.wall,l.stop⟩,true):=by unfold Dz;rw[Ac ao9,Ac ao9,Ac ao9,Ad ao9]
  rw[e];rfl
def Lg (js:List Jb):Nat:=js.countP Jb.waits
def Asx {α:Type} (p:α->Bool) (f:α->α):∀(l:List α) (k:Nat) (x:α),l[k]?=O x->p x=true->p (f x)=false->(l.modify k f).countP p+1=l.countP p:=by
 intro l
 induction l with
 | nil=>intro k x h;simp at h
 | cons y l ih=>
  intro k x h h1 a
  cases k with
  | zero=>
   simp at h;subst h;simp[h1,a]
  | succ k=>
   have:=ih k x (by simpa using h) h1 a;rw[Wi,Wt,Wt];omega
def Asy   (h:Gj js k=true):Lg (E7 js k)+1=Lg js:=by
 have a:=h;unfold Gj at a;unfold E7;rw[Ad h]
 cases hj:js[k]? with
 | none=>rw[hj]at a;cases a
 | some j=>
  rw[hj]at a;simp only[Da]at a;exact Asx _ _ _ _ _ hj a.1 (Asw j.lf a.1)
def Yr   (h:Gj js k=false):E7 js k=js:=by
 unfold E7;rw[Ac (by rw[h];simp)]
def Asz (js:List Jb) (k:Nat):(E7 js k).length=js.length:=by
 unfold E7;split
 .exact Ic _ _ _
 .rfl
def As0 (js:List Jb) (n:Nat):(Co js n).1.length=js.length:=by
 induction n with
 | zero=>rfl
 | succ n ih=>exact(Asz _ _).trans ih
def Aht (js:List Jb) (n:Nat):((Co js n).2=false/\(Co js n).1=js)\/((Co js n).2=true/\Lg (Co js n).1<Lg js):=by
 induction n with
 | zero=>exact .inl ⟨rfl,rfl⟩
 | succ n ih=>
  show(((Co js n).2 || Gj (Co js n).1 n)=false/\E7 (Co js n).1 n=js)\/(((Co js n).2 || Gj (Co js n).1 n)=true/\Lg (E7 (Co js n).1 n)<Lg js)
  cases hh:Gj (Co js n).1 n with
  | true=>
   have:=Asy hh;rcases ih with⟨h1,a⟩|⟨h1,a⟩
   .rw [a]at this;exact .inr ⟨as9,by rw[a];omega⟩
   .exact .inr ⟨as9,ao9⟩
  | false=>
   rw[Yr hh];rcases ih with⟨h1,a⟩|⟨h1,a⟩
   .exact .inl ⟨by rw[h1];rfl,a⟩
   .exact .inr ⟨by rw[h1];rfl,a⟩
def Ahu (js:List Jb):(Cw js).1.length=js.length:=As0 js _
def Ab8  (h:(Cw js).2=true):Lg (Cw js).1<Lg js:=by
 rcases Aht js js.length with⟨h1,_⟩|⟨_,a⟩
 .rw [Cw,h1]at h;cases h
 .exact a
def Ab9  (h:(Cw js).2=false):(Cw js).1=js:=by
 rcases Aht js js.length with⟨_,a⟩|⟨h1,_⟩
 .exact a
 .rw [Cw,h1]at h;cases h
def As1:∀(n m:Nat) (js:List Jb),Lg js<n->Lg js<m->I2 n js=I2 m js:=by
 intro n
 induction n with
 | zero=>intro m js h;omega
 | succ n ih=>
  intro m js h1 a
  cases m with
  | zero=>omega
  | succ m=>
   show(if (Cw js).2=true then I2 n (Cw js).1 else(Cw js).1)=(if (Cw js).2=true then I2 m (Cw js).1 else(Cw js).1);by_cases h:(Cw js).2=true
   .rw [Ad h,Ad h];have:=Ab8 h;exact ih m _ ao9 ao9
   .rw [Ac h,Ac h]
def Ahv (js:List Jb):Lg js<=js.length:=Wj
def As2 (js:List Jb):C2 js=if (Cw js).2=true then C2 (Cw js).1 else js:=by
 show(if (Cw js).2=true then I2 js.length (Cw js).1 else(Cw js).1)=_;by_cases h:(Cw js).2=true
 .rw [Ad h,Ad h];have h1:=Ab8 h;have a:=Ahv js;have b:=Ahv (Cw js).1;exact As1 _ _ _ ao9 ao9
 .rw [Ac h,Ac h];exact Ab9 (by simpa using h)
def As3 (n:Nat):∀js:List Jb,(I2 n js).length=js.length:=by
 induction n with
 | zero=>intro js;rfl
 | succ n ih=>
  intro js;show(if (Cw js).2=true then I2 n (Cw js).1 else(Cw js).1).length=_;split
  .rw [ih,Ahu]
  .exact Ahu js
def U3 (js:List Jb):(C2 js).length=js.length:=As3 _ js
def Ahw {P:List Jb->Prop} (c:∀js k,P js->Gj js k=true->P (E7 js k))  (h:P js):P (C2 js):=by
 have a:∀(n:Nat) (js:List Jb),P js->P (Co js n).1:=by
  intro n
  induction n with
  | zero=>intro js h;exact h
  | succ n ih=>
   intro js h;show P (E7 (Co js n).1 n)
   cases hh:Gj (Co js n).1 n with
   | true=>exact c _ _ (ih js h) hh
   | false=>rw[Yr hh];exact ih js h
 have b:∀(n:Nat) (js:List Jb),P js->P (I2 n js):=by
  intro n
  induction n with
  | zero=>intro js h;exact h
  | succ n ih=>
   intro js h;show P (if (Cw js).2=true then I2 n (Cw js).1 else(Cw js).1);split
   .exact ih _ (a _ _ h)
   .exact a _ _ h
 exact b _ _ h
end
section
open Go.RowKit Go.Maps Go.Shelf Go.Sort
variable{p:ByteArray}{y:Int}{vs:List ar}
def Azp (N:Nat):Sx (madeCells ay.zero.cells (N*13)) N []:=by
 refine⟨size_madeCells _ _,λj y h=>by simp at h,λj _ e o c=>?_⟩;have a:j*13+o<N*13:=ao9
 unfold madeCells;rw[Array.getElem?_map,Array.getElem?_range,Ad a];have b:ay.zero.cells.size=13:=rfl;have d:(j*13+o) % 13=o:=ao9
 simp only[K9,b,d];rw[Pn (by rw[b];exact c),getElem!_pos _ _ (by rw[b];exact c)]
def Zl (so:Option Addr) (n c:Nat) (l:List Int) (W:WD) (h:At W so n l) (hn:n<=1000):CS prog 87 #[V so n c] W (Uz n l W):=by
 have u:=h.len
 have m:∀d w',w'.ownsRow W.heap.size 3 1 d n (Bz l)->BW W.heap.size W w'->d≠V I 0 0->Uz n l W (Y d) w':=λd w' f k a=>by
  have hO:Am w' W.heap.size d l:=⟨by rw[u];exact f⟩;rcases f.2 with⟨r,_⟩|⟨g,cap,s,r,hg,hh,z,_⟩
  .exact absurd r a
  .obtain ⟨am,n2,c2,q,v,hi,al⟩:=P5 hO;rw[r]at q;injection q with e3 e4 e5;subst e3;subst e4;subst e5;refine⟨_,_,by rw[r],v,hi,λb o e=>?_,k⟩;injection e with e;injection e with e1 q;subst e1;subst q;exact⟨rfl,hg,Ab hh,s,hh⟩
 cases so with
 | none=>
  have h0:n=0:=by
   cases n with
   | zero=>rfl
   | succ n=>
    obtain⟨x,y⟩:=h.get (i:=0) ao9;obtain⟨b,p,e,_⟩:=h.cell 0 x y;cases e
  subst h0;have:l=[]:=Ib.1 u;subst this;refine(Tryz.slices_Clone_int_nil 0 c W).mono ?_;rintro e w' ⟨rfl,rfl⟩;exact⟨I,0,rfl,Nat.le_refl _,Yi _,nofun,Below.refl _ _⟩
 | some ad=>
  by_cases h0:n=0
  .subst h0;have:l=[]:=Ib.1 u;subst this;refine(Tryz.slices_Clone_int_zero ad c W).mono ?_;rintro e w' ⟨d,rfl,f,a,k⟩;exact m d w' f k a
  .obtain ⟨x,y⟩:=h.get (i:=0) ao9;obtain⟨b,p,e,_⟩:=h.cell 0 x y;cases e;refine(Tryz.slices_Clone_int b p n c l W ao9 ao9 λj t=>?_).mono ?_
   .obtain ⟨b',ac,e,_,hc⟩:=h.cell j (l[j]'t) (by simp[t]);cases e;rw[hc];simp[List.getD,t]
   .rintro e w' ⟨d,rfl,f,a,k⟩;rw[C4 ao9]at f;exact m d w' f k a
def Azq (i:TypeInfo) (c:prog.info? 33=O i) (e:i.zero=O ay.zero.val) (d:i.size=13) (b:i.bytes=136) (n:Nat) (f:n<=1000) (w:WD) :
  (Instr.makeSlice 38 (Z G (n:Int)) (Z G (n:Int))).run prog w=.ok (V (O ⟨w.heap.size,0,I⟩) n n) (w.alloc (J (madeCells ay.zero.cells (n*13)) 33 (0,0))):=by
 have a:=run_make (P:=prog) w 38 33 i ay.zero.val underlying38 c e G G (n:Int) (n:Int) ao9 ao9 (by rw[b];omega) ao9;simp only[K7,d]at a;exact a
def Azr (x:ay) (w:WD) (hx:x.ok w):CS prog 128 #[x.val] w (Ar9 x w):=by
 obtain⟨a1,av,aB,r,s⟩:=Cf Ab3;have m:=Ma.new w x;have hk:=Yj x _ (m.ok hx);by_cases hs:El x.pl=true;rotate_left
 .have aP:El x.pl=false:=by simpa using hs
  have he:O1 x.pl=80:=Ac hs;rw[he]at hk;obtain⟨⟨ad,v,nodes,⟨da,db,dc,dd⟩,al,ac,array,ae,u,after⟩,so,n,cp⟩:=x;replace⟨hk,m,hx,hs,aP,he⟩:=H6 hk m hx hs aP he;go_enter func128,ntmps128;go_wp2_with fail;refine hk.mono ?_;rintro e w1 ⟨rfl,hb⟩;have d:=m.below hb;replace⟨d,hb⟩:=H2 d hb;go_wp2;go_ret;exact .inl ⟨aP.out,rfl,d.low⟩
 have he:O1 x.pl=0:=Ad hs;rw[he]at hk;obtain⟨_,_,_,q4,_,_,_,q8,_⟩:=Gy hs;have aQ:=Yg q4;have aK:=hx.after.len;obtain⟨b1,b2⟩:=Ig.1 q8;obtain⟨N,hN⟩:∃N:Nat,x.pl.array=N:=⟨x.pl.array.toNat,ao9⟩;have hn:Q9 x.pl=N:=by unfold Q9;rw[Ad hs,hN];rfl
 rw[hN]at b1 b2;obtain⟨⟨ad,v,nodes,⟨da,db,dc,dd⟩,al,ac,array,ae,u,after⟩,so,n,cp⟩:=x;have aW:array=N:=hN;subst aW;clear hN;have a8:n<=8:=by have h1:after.length=n:=aK;have h2:after.length<=8:=aQ;omega
 obtain⟨X,hX⟩:∃X:ay,X=⟨⟨ad,v,nodes,⟨da,db,dc,dd⟩,al,ac,(N:Int),ae,u,after⟩,so,n,cp⟩:=⟨_,rfl⟩;have a7:=λW=>Azq a1 av aB r s N ao9 W;have a4:N<=20:=ao9
 replace⟨hk,m,hx,hs,he,q4,aQ,aK⟩:=H8 hk m hx hs he q4 aQ aK;replace⟨q8,hn,hX,av,aB,r,s⟩:=H7 q8 hn hX av aB r s;go_enter func128,ntmps128;go_wp2_with fail;refine hk.mono ?_;rintro e w1 ⟨rfl,hb⟩;have d:=m.below hb;have y9:=Bk d.box 9 (Z G (N:Int)) rfl;obtain⟨g,hg⟩:=Ex (w1.heap.size);have aH:Sy w X g N [] (w1.alloc (J (madeCells ay.zero.cells (N*13)) 33 (0,0))):=by rw[hX.out,hg];exact⟨⟨d.low.alloc d.low.size _,Ab d.box,⟨_,Ah _ _,Azp N⟩,(λj y h=>by simp at h),(λi j y z b o o' h=>by simp at h)⟩,Aj _ d.box⟩
 replace⟨d,hb,aH,hg⟩:=H4 d hb aH hg;go_wp2;rw[<-hg.out];clear y9;go_loopw [4,13] (λ_ iv wr=>∃(k:Nat) (xs:List ay),iv=Z G k/\k<=N/\Hid (xs.length=k)/\Hid (Sy w X g N xs wr)) (λ_ iv _=>N-(intOf iv).toNat)
 case atStart=>exact⟨0,[],rfl,As _,rfl,aH.out⟩
 case round=>
  obtain⟨k,xs,rfl,a6,an,hE⟩:=hrel;by_cases t:k<N
  .have aY:(k:Int)<N:=ao9;have a5:(0:Int)<=(k:Int):=ao9;have hM:Hid (Ma w ⟨⟨ad,v,nodes,⟨da,db,dc,dd⟩,al,ac,(N:Int),ae,u,after⟩,so,n,cp⟩ wr):=(by have h:=hE.box;rw[hX.out]at h;exact⟨hE.low,h⟩);obtain⟨cc,f,a⟩:=hE.row;have c:=Nat.le_of_eq an.out;obtain⟨y0,y1,y2,y3,y4,y5,y6,y7,y8,y9,aT,aU,aF⟩:=C13 hM.box;(try dsimp only at y0 y1 y2 y3 y4 y5 y6 y7 y8 y9 aT aU aF);have z0:wr.cell? ⟨g,k*13,I⟩=O (D ByteArray.empty):=(Aa f (k*13)).trans (a.rest k c t 0 ao9);have z1:wr.cell? ⟨g,k*13+1,I⟩=O (D ByteArray.empty):=(Aa f (k*13+1)).trans (a.rest k c t 1 ao9);have z2:wr.cell? ⟨g,k*13+2,I⟩=O (Z G 0):=(Aa f (k*13+2)).trans (a.rest k c t 2 ao9);have z3:wr.cell? ⟨g,k*13+3,I⟩=O (Z G 0):=(Aa f (k*13+3)).trans (a.rest k c t 3 ao9);have z4:wr.cell? ⟨g,k*13+4,I⟩=O (Z G 0):=(Aa f (k*13+4)).trans (a.rest k c t 4 ao9);have z5:wr.cell? ⟨g,k*13+5,I⟩=O (Z G 0):=(Aa f (k*13+5)).trans (a.rest k c t 5 ao9);have z6:wr.cell? ⟨g,k*13+6,I⟩=O (Z G 0):=(Aa f (k*13+6)).trans (a.rest k c t 6 ao9);have z7:wr.cell? ⟨g,k*13+7,I⟩=O (Z G 0):=(Aa f (k*13+7)).trans (a.rest k c t 7 ao9);have z8:wr.cell? ⟨g,k*13+8,I⟩=O (Z G 0):=(Aa f (k*13+8)).trans (a.rest k c t 8 ao9);have z9:wr.cell? ⟨g,k*13+9,I⟩=O (Z G 0):=(Aa f (k*13+9)).trans (a.rest k c t 9 ao9);have a2:wr.cell? ⟨g,k*13+10,I⟩=O (Z G 0):=(Aa f (k*13+10)).trans (a.rest k c t 10 ao9);have a3:wr.cell? ⟨g,k*13+11,I⟩=O (Q false):=(Aa f (k*13+11)).trans (a.rest k c t 11 ao9);have aV:wr.cell? ⟨g,k*13+12,I⟩=O (V I 0 0):=(Aa f (k*13+12)).trans (a.rest k c t 12 ao9);have fg:=Ag f;have aZ:g≠w.heap.size:=(by have:=hE.wj;omega);obtain⟨W4,aI⟩:=Ex (((((((((((((((wr.setCell ⟨g,k*13,I⟩ (D ad)).setCell ⟨g,k*13+1,I⟩ (D v)).setCell ⟨g,k*13+2,I⟩ (Z G nodes)).setCell ⟨g,k*13+3,I⟩ (Z G da)).setCell ⟨g,k*13+4,I⟩ (Z G db)).setCell ⟨g,k*13+5,I⟩ (Z G dc)).setCell ⟨g,k*13+6,I⟩ (Z G dd)).setCell ⟨g,k*13+7,I⟩ (Z G al)).setCell ⟨g,k*13+8,I⟩ (Z G ac)).setCell ⟨g,k*13+9,I⟩ (Z G (N:Int))).setCell ⟨g,k*13+10,I⟩ (Z G ae)).setCell ⟨g,k*13+11,I⟩ (Q u)).setCell ⟨g,k*13+12,I⟩ (V so n cp)).setCell ⟨g,k*13+9,I⟩ (Z G 1)));have l:W4=(setRow wr g (xs.length*13) X.cells.toList).setCell ⟨g,xs.length*13+9,I⟩ (Z G 1):=(by rw[aI,hX.out,an.out];rfl);have ap:wr.grownBy W4 (O g):=(by rw[l];exact Us (Ab6 _ _ _ _) _);have q:=Ahc hE.low ap hE.low.size (Sf hE.wj);have aL:At W4 so n after:=(hx.low q).after;have aE:=Zl so n cp after W4 aL ao9;unfold Uz at aE;have aR:=(ap.block _ (Ab hM.box) (λe=>aZ (by injection e with e;exact e.symm))).trans hM.box;have am:∃c4,W4.heap[g]?=O (J c4 33 (0,0))/\c4.size=N*13:=(by rw[l];exact⟨_,Ap (Ab5 _ f) _ _,by simp[Uy,a.size]⟩);obtain⟨c4,am,aS⟩:=am;obtain⟨x12,aA⟩:∃x12,c4[k*13+12]?=O x12:=⟨_,Pn ao9⟩;replace⟨hM,f,a,c,l,ap,q,aL⟩:=H8 hM f a c l ap q aL;replace⟨aE,aR,am,aS,aA⟩:=H5 aE aR am aS aA;go_upto_region 9 with fail;rw[<-aI];clear aI;clear y0 y1 y2 y3 y4 y5 y6 y7 y8 y9 aT aU aF z0 z1 z2 z3 z4 z5 z6 z7 z8 z9 a2 a3 aV;have aF:=Bk aR.out 12 (V so n cp) rfl;go_wp2_with fail;refine aE.mono ?_;rintro e w5 ⟨aC,c',rfl,aN,aM,ao,aD⟩;have h5:=Ae aD am.out (Ab am.out);have aV:=(Aa h5 _).trans aA.out;have f5:=Ag h5
   have aO:Sy w X g N (xs++[⟨X.single.pl,aC,n,c'⟩]) (w5.setCell ⟨g,k*13+12,I⟩ (V aC n c')):=by
    have aG:=aD;rw[l.out]at aG;have aJ:X.n=n:=(by rw[hX.out]);have aX:X.pl.after=after:=by rw[hX.out]
    have h:=hE.next (by rw[an.out];exact t) aC c' (by rw[aJ];exact aN) (by rw[aJ,aX];exact aM) (λb o e=>by
     obtain⟨e1,e2,e3,e4⟩:=ao b o e
     exact⟨e1,A8 ap.size e2,e3,e4⟩) aG
    rw[aJ,an.out]at h;exact h
   have p:(xs++[(⟨X.single.pl,aC,n,c'⟩:ay)]).length=k+1:=(by rw[Cn,an.out];rfl);clear aF;replace⟨aN,aM,ao,aD,h5,aO,p⟩:=H7 aN aM ao aD h5 aO p;go_wp2;go_roundw
   case rel=>exact⟨k+1,xs++[(⟨X.single.pl,aC,n,c'⟩:ay)],by go_num,ao9,p.out,aO.out⟩
   case measure=>simp[intOf];omega
  .have aY:¬(k:Int)<N:=ao9;have a0:k=N:=ao9;subst a0;go_wp2;go_ret;have h:=hE.toAhg;rw[hX.out]at h;refine .inr ⟨hs.out,g,xs,?_,?_,?_⟩
   .rw [hn.out];rfl
   .rw [an.out,hn.out]
   .rw [hn.out];exact h
def A2m:∀ {k:Nat},y∈J5 k vs p->∃i:Nat,y=i/\k<=i/\i<k+vs.length:=by
 induction vs with
 | nil=>intro k h;simp[J5]at h
 | cons v vs ih=>
  intro k h;rw[J5]at h;rw[Jl];split at h
  .rcases Fm.1 h with h|h
   .exact ⟨k,h,Nat.le_refl _,ao9⟩
   .obtain ⟨i,e,h1,a⟩:=ih h;exact⟨i,e,ao9,ao9⟩
  .obtain ⟨i,e,h1,a⟩:=ih h;exact⟨i,e,ao9,ao9⟩
def Ang   {k:Nat}  (h:(B5 vs p)[k]?=O y):∃i:Nat,y=i/\i<vs.length:=by
 obtain⟨i,e,_,a⟩:=A2m (Ai h);exact⟨i,e,ao9⟩
