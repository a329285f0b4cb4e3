/- Parts of a proof. No condition. -/
import Derived.Test.YtimlcnhcjndijaaGreatDoorG06
import Derived.Test.YtimlcnhcjndijaaGreatDoorG12
import Derived.Test.YtimlcnhcjndijaaGreatDoorG02
set_option linter.all false
set_option maxRecDepth 100000
set_option maxHeartbeats 3200000
namespace Go.Proofs.YtimlcnhcjndijaaGreatDoor
open Option renaming some->Z,none->I
open IntKind renaming i64->O
open Value renaming int->G,bool->D,tuple->E,pointer->Q,slice->J,string->Y
open Obj renaming cells->V
open Ending renaming returned->K
open Go renaming World->WD,Value->VL,Calls->CS
open Go.RowKit renaming Below->BW
open Go.Proofs.Tryz
section
open Go.RowKit Go.Shelf
def Aoy:(prog.info? 291).map (·.size)=Z 2:=by kernel_rfl
def Aoz:liesAt prog prog.depth 134 (2 / prog.cellsOf 291) 0 134 1=true:=by kernel_rfl
end
section
open Go.RowKit Go.Maps Go.Shelf
def Abn (a:List UInt8) (m:Nat):∀(xs:List (List UInt8)),(∀x,x∈xs->x.length<=m)->(a.intercalate xs).length<=xs.length*(m+a.length)
 | [],_=>by simp[List.intercalate]
 | [x],h=>by
  have:=h x as9;simp[List.intercalate];omega
 | x :: y :: r,h=>by
  have h1:=h x as9;have c:=Abn a m (y :: r) λz b=>h z (by simp at b ⊢;exact .inr b);have e:a.intercalate (x :: y :: r)=x++a++a.intercalate (y :: r):=by simp[List.intercalate]
  rw[e,Az,Az,D7,K7];omega
def Af9 {v:V4} (h:Ux v):xj v:=by
 obtain⟨h1,a,b,c,d,e,f,g⟩:=h;exact⟨⟨ao9,ao9⟩,⟨ao9,ao9⟩,⟨ao9,ao9⟩,⟨ao9,ao9⟩⟩
def Aga (s:ByteArray):au s.data.toList=s:=Nm (by rw[E6])
def yw (d:Nat) (a b:Int) (w:WD):(Op.equalIn (d+1) 3 (G O a) (G O b)).run prog w=.ok (a == b) w:=by
 simp[Op.equalIn,Ng D5]
def Abo:prog.cellsOf 3=1:=by kernel_rfl
def Api (f:Nat) (u v:V4) (w:WD):(Op.equalIn (f+2) 30 u.val v.val).run prog w=.ok (decide (u=v)) w:=by
 obtain⟨q,e,o,g,p⟩:=B4 Md;show(Op.equalIn ((f+1)+1) 30 u.val v.val).run prog w=_;rw[run_equalIn_array w (f+1) _ _ Aas e,Abo];show(Op.eqItems (f+1) 3 1 _ _ [0,1,2,3]).run prog w=_;obtain⟨a,b,c,d⟩:=u;obtain⟨h,i,j,k⟩:=v
 by_cases h1:a=h<;>by_cases l:b=i<;>by_cases m:c=j<;>by_cases n:d=k
 all_goals
  simp[Op.eqItems,yw,part,sizeOf,typeInfo,e,g,h1,l,m,n]
def Agf (u v:V4) (w:WD):(Op.equalIn 10000 30 u.val v.val).run prog w=.ok (decide (u=v)) w:=Api 9998 u v w
def Agg (vs:List ax) (i:Int) (w:WD) (e:Ending) (w':WD):Prop:=
 ∃(x:aq) (b:Bool),e=K (E #[x.val,D b])/\x.ok w'/\BW w.heap.size w w'/\(∀bb off,x.po=Z ⟨bb,off,I⟩->w.heap.size<=bb/\∃c,w'.heap[bb]?=Z (V c 9 (0,0))) /\
  ((b=true/\0<=i/\vs[i.toNat]?=Z x.pl)\/(b=false/\x=aq.zero/\(i<0\/(vs.length:Int)<=i)))
def Agh {w:WD} {fb mb base:Nat} {vs:List ax} (h:kq w fb mb base vs) (aC:Iy vs) (i:Int):CS prog 44 #[Q (Z ⟨fb,0,I⟩),G O i] w (Agg vs i w):=by
 obtain⟨W0,f⟩:=Ex (w.alloc (V aq.zero.cells 69 (0,0)));have m:BW w.heap.size w W0:=by rw[f];exact Bn
 have u:W0.heap[w.heap.size]?=Z (V aq.zero.cells 69 (0,0)):=by rw[f];exact Ah _ _
 have y:W0.heap.size=w.heap.size+1:=by rw[f];simp
 have s:=h.below m;have t:=Af7 s;obtain⟨n,hn⟩:=Ex (vs.length);rw[<-hn]at t;rw[f]at t;have aY:=aC.len;rw[<-hn]at aY;by_cases aN:i<0
 .have aV:=At aN;have l:i<0\/(vs.length:Int)<=i:=.inl aN;replace⟨m,u,y,s,t,hn,l⟩:=H7 m u y s t hn l;have ao:=Hh f;clear f;go_enter func44,ntmps44;go_wp2;refine Ak (v:=E #[aq.zero.val,D false]) (by simp[results,results44,go_sem,aq.zero,V4.zero]<;>rfl) rfl ⟨aq.zero,false,rfl,⟨Sk _,Nat.le_refl _⟩,Bn,λb r e=>(by cases e),.inr ⟨rfl,rfl,l.out⟩⟩
 have aV:=Au aN;by_cases aM:(n:Int)<=i
 .have aU:=At aM;have l:i<0\/(vs.length:Int)<=i:=.inr (by rw[<-hn];exact aM);replace⟨m,u,y,s,t,hn,l⟩:=H7 m u y s t hn l;have ao:=Hh f;clear f;go_enter func44,ntmps44;go_wp2_with fail;refine t.mono ?_;rintro e w1 ⟨rfl,rfl⟩;go_wp2;refine Ak (v:=E #[aq.zero.val,D false]) (by simp[results,results44,go_sem,aq.zero,V4.zero]<;>rfl) rfl ⟨aq.zero,false,rfl,⟨Sk _,Nat.le_refl _⟩,Bn,λb r e=>(by cases e),.inr ⟨rfl,rfl,l.out⟩⟩
 have aU:=Au aM;obtain⟨k,rfl⟩:∃k:Nat,i=k:=⟨i.toNat,ao9⟩;have a0:(k:Int)<n:=ao9
 have a2:(0:Int)<=(k:Int):=ao9
 have aZ:decide (n<=k)=false:=Au ao9;obtain⟨nv,xs,h1,h2,h3⟩:=s.ex;have aO:n=xs.length:=by rw[hn,<-h2,Ar]
 obtain⟨x,hx⟩:=Ge xs k ao9;obtain⟨g,cap,rfl⟩:=Joins.ownsRow_form h1.row ao9;obtain⟨g',e1,_,_,a⟩:=h1.cell hx;have e2:g=g':=by simpa[Value.ownBlock]using e1
 subst e2;have aG:vs[k]?=Z x.pl:=by rw[<-h2];exact Abk hx
 have aD:=(aC.all x.pl (Ai aG)).ok.one;have aB:=(aC.all x.pl (Ai aG)).gq;have an:=(h1.ok x (Ai hx)).1;obtain⟨nm,⟨ca,cb,cc,cd⟩,po,pn,pc,ps⟩:=x;have aI:ps.length=pn:=an.parts.len;have af:1<=ps.length:=aD;have ac:ps.length<=8:=aB;obtain⟨y0,aQ⟩:=an.parts.get (i:=0) (by show 0<pn;omega);obtain⟨b,r,e,a1,_⟩:=an.parts.cell 0 y0 aQ;have e':po=Z ⟨b,r,I⟩:=e;subst e';have z0:W0.cell? ⟨g,k*6,I⟩=Z (Y nm):=a 0 ao9;have z1:W0.cell? ⟨g,k*6+1,I⟩=Z (G O ca):=a 1 ao9;have z2:W0.cell? ⟨g,k*6+2,I⟩=Z (G O cb):=a 2 ao9;have z3:W0.cell? ⟨g,k*6+3,I⟩=Z (G O cc):=a 3 ao9;have z4:W0.cell? ⟨g,k*6+4,I⟩=Z (G O cd):=a 4 ao9;have z5:W0.cell? ⟨g,k*6+5,I⟩=Z (J (Z ⟨b,r,I⟩) pn pc):=a 5 ao9;have f0:W0.cell? ⟨fb,0,I⟩=Z (J (Z ⟨g,0,I⟩) n cap):=by rw[aO];exact Aa h1.head 0
 obtain⟨W1,ap⟩:=Ex (W0.alloc (V (⟨nm,⟨ca,cb,cc,cd⟩,Z ⟨b,r,I⟩,pn,pc,ps⟩:aq).cells 69 (0,0)));have al:BW W0.heap.size W0 W1:=by rw[ap];exact Bn
 have aE:W1.heap[w.heap.size+1]?=Z (V (⟨nm,⟨ca,cb,cc,cd⟩,Z ⟨b,r,I⟩,pn,pc,ps⟩:aq).cells 69 (0,0)):=by rw[ap];exact A5 _ _ y.symm
 have aH:=an.low al
 have aA:=Tryz.slices_Clone_string b r pn pc ps W1 ao9 ao9 λj hj=>by
  obtain⟨b',aK,e,_,hc⟩:=aH.parts.cell j (ps[j]'hj) (by simp[hj]);cases e;rw[hc];simp[List.getD,hj]
 rw[Cr ao9]at aA;have p5:=Bk aE 5 (J (Z ⟨b,r,I⟩) pn pc) rfl;replace⟨m,u,y,s,hn,aO,hx,h1⟩:=H8 m u y s hn aO hx h1;replace⟨h2,h3,aG,aD,aB,an,aI,af⟩:=H8 h2 h3 aG aD aB an aI af;replace⟨ac,aQ,al,aE,aH,aA,a,e1⟩:=H8 ac aQ al aE aH aA a e1;replace⟨aC,h,p5⟩:=H3 aC h p5;rw[ap,f]at aA p5;rw[f]at z0 z1 z2 z3 z4 z5 f0;have ao:=Hh f;have aJ:=Hh ap;clear f ap;go_enter func44,ntmps44;go_wp2_with fail;refine t.mono ?_;rintro e w1 ⟨rfl,rfl⟩;go_wp2_with fail;refine aA.mono ?_;rintro e w3 ⟨v',rfl,d,o,am⟩;rw[<-ao.out,<-aJ.out]at d am;have aT:0<pn:=by have:=af.out;have:=aI.out;omega
 obtain⟨z,c,rfl⟩:=Joins.ownsRow_form d aT;have aX:=Qm d z rfl;have aR:W1.heap.size=w.heap.size+2:=by rw[aJ.out,G9,y.out]
 have aP:=Afa d (by have:=ac.out;have:=aI.out;omega);have av:=Ae9 d;have aL:=Aa5 d;have q:=Ae am (Ae al.out u.out (Ab u.out)) ao9;have p:=Ae am aE.out (Ab aE.out);have ad:=m.trans ((al.trans (am.mono al.size)).mono m.size);have c0:=Bk p 0 (Y nm) rfl;have c1:=Bk p 1 (G O ca) rfl;have c2:=Bk p 2 (G O cb) rfl;have c3:=Bk p 3 (G O cc) rfl;have c4:=Bk p 4 (G O cd) rfl;have c5:=Bk p 5 (J (Z ⟨b,r,I⟩) pn pc) rfl;have fq:=Af p;have b0:=Bk q 0 (Y ByteArray.empty) rfl;have b1:=Bk q 1 (G O 0) rfl;have b2:=Bk q 2 (G O 0) rfl;have b3:=Bk q 3 (G O 0) rfl;have b4:=Bk q 4 (G O 0) rfl;have b5:=Bk q 5 (J I 0 0) rfl;have fr:=Af q
 have he:∀v v0 v1 v2 v3 v4 v5,BW w.heap.size w (((((((w3.setCell ⟨w.heap.size+1,5,I⟩ v).setCell ⟨w.heap.size,0,I⟩ v0).setCell ⟨w.heap.size,1,I⟩ v1).setCell ⟨w.heap.size,2,I⟩ v2).setCell ⟨w.heap.size,3,I⟩ v3).setCell ⟨w.heap.size,4,I⟩ v4).setCell ⟨w.heap.size,5,I⟩ v5):=λv v0 v1 v2 v3 v4 v5=>
  ((((((ad.setCell (D8 _) _).setCell Ln _).setCell Ln _).setCell Ln _).setCell Ln _).setCell Ln _).setCell Ln _
 have aj:∀v v0 v1 v2 v3 v4 v5,(((((((w3.setCell ⟨w.heap.size+1,5,I⟩ v).setCell ⟨w.heap.size,0,I⟩ v0).setCell ⟨w.heap.size,1,I⟩ v1).setCell ⟨w.heap.size,2,I⟩ v2).setCell ⟨w.heap.size,3,I⟩ v3).setCell ⟨w.heap.size,4,I⟩ v4).setCell ⟨w.heap.size,5,I⟩ v5).heap[z]?=w3.heap[z]?:=λv v0 v1 v2 v3 v4 v5=>by
  have o:z≠w.heap.size:=ao9
  have aS:z≠w.heap.size+1:=ao9
  rw[Ez o,Ez o,Ez o,Ez o,Ez o,Ez o,Ez aS]
 have aF:∀v v0 v1 v2 v3 v4 v5,(((((((w3.setCell ⟨w.heap.size+1,5,I⟩ v).setCell ⟨w.heap.size,0,I⟩ v0).setCell ⟨w.heap.size,1,I⟩ v1).setCell ⟨w.heap.size,2,I⟩ v2).setCell ⟨w.heap.size,3,I⟩ v3).setCell ⟨w.heap.size,4,I⟩ v4).setCell ⟨w.heap.size,5,I⟩ v5).heap.size=w3.heap.size:=λv v0 v1 v2 v3 v4 v5=>by simp[World.setCell]
 clear z0 z1 z2 z3 z4 z5 f0;replace⟨d,o,am,aP,av,q,p,ad⟩:=H8 d o am aP av q p ad;replace⟨he,aj,aF,aR⟩:=H4 he aj aF aR;go_wp2;refine Ak (v:=E #[(⟨nm,⟨ca,cb,cc,cd⟩,Z ⟨z,0,I⟩,pn,c,ps⟩:aq).val,D true]) (by simp[results,results44,go_sem,b0,b1,b2,b3,b4,b5]) rfl ?_;have hX:=aj (J (Z ⟨z,0,I⟩) pn c) (Y nm) (G O ca) (G O cb) (G O cc) (G O cd) (J (Z ⟨z,0,I⟩) pn c);have hY:=aF (J (Z ⟨z,0,I⟩) pn c) (Y nm) (G O ca) (G O cb) (G O cc) (G O cd) (J (Z ⟨z,0,I⟩) pn c);have hZ:=he (J (Z ⟨z,0,I⟩) pn c) (Y nm) (G O ca) (G O cb) (G O cc) (G O cd) (J (Z ⟨z,0,I⟩) pn c);generalize ((((((w3.setCell ⟨w.heap.size+1,5,I⟩ (J (Z ⟨z,0,I⟩) pn c)).setCell ⟨w.heap.size,0,I⟩ (Y nm)).setCell ⟨w.heap.size,1,I⟩ (G O ca)).setCell ⟨w.heap.size,2,I⟩ (G O cb)).setCell ⟨w.heap.size,3,I⟩ (G O cc)).setCell ⟨w.heap.size,4,I⟩ (G O cd)).setCell ⟨w.heap.size,5,I⟩ (J (Z ⟨z,0,I⟩) pn c)=X at hX hY hZ ⊢;obtain⟨c9,aW⟩:=av.out;refine⟨⟨nm,⟨ca,cb,cc,cd⟩,Z ⟨z,0,I⟩,pn,c,ps⟩,true,rfl,⟨Pn aP.out (Nat.le_of_eq hY.symm) λb' aK e' _=>by cases e';exact hX,aL⟩,hZ,λb' aK e'=>?_,.inl ⟨rfl,ao9,?_⟩⟩
 .have e2:z=b':=by injection e' with e';injection e' with e'
  subst e2;exact⟨by have:=aR.out;have:=aX.1;omega,c9,hX.trans aW⟩
 .show vs[k]?=_;rw[aG.out];rfl
end
section
open Go.RowKit Go.Maps Go.Lib
def Om (c:UInt8):Prop:=48<=c.toNat/\c.toNat<=57
def Yg:∀(u:Nat),∀c,c∈Lib.decDigits u->Om c:=by
 intro u
 induction u using Nat.strongRecOn with
 | _ u ih=>
  intro c a
  have b:∀d,d<10->Om (UInt8.ofNat (48+d)):=λd e=>by
   unfold Om;rw[Wu];omega
  rw[Lib.decDigits]at a;split at a
  .next h=>
   have:c=UInt8.ofNat (48+u):=by simpa using a
   subst this;exact b u h
  .next h=>
   rcases C4.1 a with a|a
   .exact ih (u / 10) ao9 c a
   .have:c=UInt8.ofNat (48+u % 10):=by simpa using a
    subst this;exact b (u % 10) ao9
def Abq (u:Nat):Lib.decDigits u≠[]:=by
 rw[Lib.decDigits]
 split<;>simp
def Apw {a b:List UInt8} {k:Nat} (h:k<a.length):dv (au (a++b)) k=dv (au a) k:=by
 unfold dv;rw[E6,E6,List.getD,List.getD,Fd h]
def Agl (a:List UInt8) (x:UInt8):dv (au (a++[x])) a.length=(x.toNat:Int):=by
 unfold dv;rw[E6,List.getD,G7 Ln];simp
def Agm {a b:List UInt8}:∀ {k:Nat},k<=a.length->En (au (a++b)) k=En (au a) k
 | 0,_=>rfl
 | k+1,h=>by
  simp only[En];rw[Agm ao9,Apw ao9]
def Agn {l:List UInt8} (h:∀c,c∈l->Om c):∀ {k:Nat},k<=l.length->Gc (au l) k=true
 | 0,_=>rfl
 | k+1,hk=>by
  simp only[Gc,Eh];refine⟨Agn h ao9,?_⟩;rw[Sh];have a:l.getD k 0∈l:=by rw[List.getD,A4 ao9];exact K4 _
  have:=h _ a;unfold dv;rw[E6];unfold Om at this;omega
def Apx:∀(u:Nat),En (au (Lib.decDigits u)) (Lib.decDigits u).length=(u:Int):=by
 intro u
 induction u using Nat.strongRecOn with
 | _ u ih=>
  by_cases h:u<10
  .rw [Lib.decDigits,Mb h];have:=Agl [] (UInt8.ofNat (48+u));simp only[Ph,Ir]at this;simp only[D7,Ir,En,this,Wu];omega
  .rw [Lib.decDigits,dif_neg h,Az];simp only[D7,Ir];show 10*En _ (Lib.decDigits (u / 10)).length+(dv _ (Lib.decDigits (u / 10)).length-48)=_;rw[Agm Ln,ih (u / 10) ao9,Agl,Wu];omega
def Apy:∀(u:Nat),0<u->(Lib.decDigits u).getD 0 0≠48:=by
 intro u
 induction u using Nat.strongRecOn with
 | _ u ih=>
  intro b e;by_cases h:u<10
  .rw [Lib.decDigits,Mb h]at e;have:=Cd UInt8.toNat e;simp[Wu]at this;omega
  .rw [Lib.decDigits,dif_neg h]at e;refine ih (u / 10) ao9 ao9 ?_;have a:=Wt.2 (Abq (u / 10));rw[List.getD,Fd a]at e;exact e
def Sn {n:Int} (h:0<=n):Lib.itoa n=Lib.decDigits n.toNat:=Ac ao9
def Apz {n:Int} (h:0<=n):∀c,c∈Lib.itoa n->Om c:=by rw[Sn h];exact Yg _
end
section
open Go.RowKit Go.Maps Go.Shelf
variable{l:List Int}{k:Nat}
structure dm where
 user:ByteArray
 part:ByteArray
 nodes:Int
 df:V4
 wall:Int
 prio:Int
 array:Int
 ae:Int
 held:Bool
 after:List Int
deriving DecidableEq
def dm.zero:dm:=⟨ByteArray.empty,ByteArray.empty,0,V4.zero,0,0,0,0,false,[]⟩
def Ld (l:List Int) (x:Int):Bool:=l.any λy=>decide (y=x)
def nz (n:Int):Bool:=decide (n≠0) && decide (-8<=n) && decide (n<=1099511627776)
def Le (l:List Int):Nat->Bool
 | 0=>true
 | k+1=>Le l k && (nz (l.getD k 0) && !Ld (l.take k) (l.getD k 0))
def Fv (l:List Int):Bool:=decide (l.length<=8) && Le l l.length
def Dm (n lo hi:Int):Bool:=decide (lo<=n) && decide (n<=hi)
def So (v:V4):Bool:=v.right && decide (v≠V4.zero)
def Ct (s:dm):Bool:=Bp s.user && Bp s.part && So s.df && Fv s.after && Dm s.nodes 1 16 && Dm s.wall 1 1000 && Dm s.prio 0 100 && Dm s.array 1 20 && Dm s.ae 0 5
def Ago  {k n:Nat} (h:Le l n=true) (a:k<=n):Le l k=true:=by
 induction n with
 | zero=>
  have:k=0:=ao9
  subst this;rfl
 | succ n ih=>
  by_cases c:k=n+1
  .subst c;exact h
  .simp only[Le,Eh]at h;exact ih h.1 ao9
def Ap0   (a:k<l.length) (h:(nz (l.getD k 0) && !Ld (l.take k) (l.getD k 0))=false):Le l l.length=false:=by
 rw[Gl];intro c;have:=Ago c (show k+1<=l.length by omega);simp[Le]at this;simp at h;exact absurd (h this.2.1) (by simp[this.2.2])
def Ap1  {x:Int}:Ld l x=true↔x∈l:=by
 unfold Ld;rw[K3];constructor
 .rintro ⟨y,a,e⟩;rw[<-Io e];exact a
 .intro h;exact⟨x,h,as9⟩
def Sp:ByteArray:={ data:=#[117,115,101,114] }
def Sq:ByteArray:={ data:=#[112,97,114,116] }
def Sr:ByteArray:={ data:=#[110,111,100,101,115] }
def Ss:ByteArray:={ data:=#[100,101,109,97,110,100] }
def Su:ByteArray:={ data:=#[119,97,108,108] }
def Qz:ByteArray:={ data:=#[112,114,105,111] }
def Q0:ByteArray:={ data:=#[97,114,114,97,121] }
def Q2:ByteArray:={ data:=#[114,101,116,114,105,101,115] }
def Q3:ByteArray:={ data:=#[104,101,108,100] }
def Pq:ByteArray:={ data:=#[97,102,116,101,114] }
def kv (k:ByteArray) (v:List UInt8):List UInt8:=k.data.toList++61 :: v
def J1 (l:List Int):List UInt8:=Lib.join (l.map Lib.itoa) [44]
def No (s:dm):List (ByteArray×List UInt8):=
 [(Sp,s.user.data.toList),(Sq,s.part.data.toList),(Sr,Lib.itoa s.nodes),(Ss,Ja s.df),(Su,Lib.itoa s.wall)] ++
 (if s.prio=0 then[]else[(Qz,Lib.itoa s.prio)])++(if s.array=1 then[]else[(Q0,Lib.itoa s.array)]) ++
 (if s.ae=0 then[]else[(Q2,Lib.itoa s.ae)])++(if s.held=true then[(Q3,[49])]else[]) ++
 (if s.after=[]then[]else[(Pq,J1 s.after)])
def Ap2 (s:dm):List (List UInt8):=(No s).map λp=>kv p.1 p.2
def Jg (s:dm):List UInt8:=if Ct s=true then Lib.join (Ap2 s) [32]else[]
def Abr (p:List UInt8):Option Int:=
 if p.head?=Z 45 then(if Bl (au p.tail) 13<0 then I else Z (-(Bl (au p.tail) 13)))
 else if Bl (au p) 13<0 then I else Z (Bl (au p) 13)
def Yh:List (List UInt8)->Option (List Int)
 | []=>Z []
 | p :: ps=>match Abr p with
  | none=>I
  | some n=>match Yh ps with
   | none=>I
   | some l=>Z (n :: l)
def Abs (v:ByteArray):Option (List Int):=match Yh (Ao 44 v.data.toList)with
 | none=>I
 | some l=>if Fv l=true then Z l else I
end
section
open Go.RowKit Go.Maps Go.Lib
structure Jb where
 id:Int
 sp:dm
 lf:Lf
 start:Int
 ak:List Int
 parts:List (Int×Int)
structure Cl where
 seq:Int
 e:Int
 first:Int
 last:Int
structure Er where
 up:Bool
 bq:Bool
 since:Int
structure du where
 ai:Int
 tick:Int
 cls:List (Int×Cl)
 nodes:List Er
 ab:List Jb
def Jb.waits (j:Jb):Bool:=el j.lf.st
def Jb.live (j:Jb):Bool:=dp j.lf.st
def Jb.move (j:Jb) (s:Int):Jb:=⟨j.id,j.sp,(A3 j.lf s).1,j.start,j.ak,j.parts⟩
def Jb.bare (j:Jb):Jb:=⟨j.id,j.sp,j.lf,-1,[],j.parts⟩
def Me (js:List Jb) (id:Int):Int:=((js[(id-1).toNat]?).map λj=>j.lf.st).getD 0
def Sv (js:List Jb) (j:Jb):Bool:=j.sp.after.any λid=>ki (Me js id) && decide (Me js id≠5)
def Gr (js:List Jb) (k:Nat):Bool:=match js[k]? with
 | none=>false
 | some j=>j.waits && Sv js j
def Gs (js:List Jb) (k:Nat):List Jb:=if Gr js k=true then js.modify k (λj=>(j.move 7).bare)else js
def Co (js:List Jb):Nat->List Jb×Bool
 | 0=>(js,false)
 | n+1=>(Gs (Co js n).1 n,(Co js n).2 || Gr (Co js n).1 n)
def Cf (js:List Jb):List Jb×Bool:=Co js js.length
def Mf:Nat->List Jb->List Jb
 | 0,js=>js
 | n+1,js=>if (Cf js).2=true then Mf n (Cf js).1 else(Cf js).1
def Dp (js:List Jb):List Jb:=Mf (js.length+1) js
def Jb.open_ (j:Jb):Bool:=j.parts.any λp=>decide (p.2=0)
def Eb (j:Jb):Jb:=
 if j.parts=[]\/j.open_=true then j
 else if (j.move 8).lf.st=1 then⟨j.id,j.sp,(j.move 8).lf,-1,[],[]⟩else⟨j.id,j.sp,(j.move 8).lf,j.start,j.ak,[]⟩
def Ia (js:List Jb):List Jb:=Dp (js.map Eb)
def Q4 (br:Int) (l:Lf):Lf:=if br=2 then(A3 l 4).1 else if br=3 then(A3 l 5).1 else l
def Fw (j:Jb) (k:Nat) (br:Int):Jb:=⟨j.id,j.sp,Q4 br j.lf,j.start,j.ak,j.parts.modify k λp=>(p.1,br)⟩
def Pr (j:Jb) (k:Nat) (at_:Int):Jb:=match j.parts[k]? with
 | none=>j
 | some p=>if p.2=0/\(at_<0\/p.1=at_)then Fw j k 3 else j
def Jh (j:Jb) (at_:Int):Nat->Jb
 | 0=>j
 | n+1=>Pr (Jh j at_ n) n at_
def Fx (j:Jb) (at_:Int):Jb:=Jh j at_ j.parts.length
def Lg (j:Jb):Int:=j.start+8+j.sp.wall
def Gt (j:Jb) (attempt node:Int):Option Nat:=
 if j.live=true/\j.lf.bp=attempt then j.parts.findIdx? λp=>decide (p.1=node) && decide (p.2=0)else I
def Yi (i:Int) (j:Jb) (v:V4):V4:=
 (j.parts.filter λp=>decide (p.1=i) && decide (p.2=0)).foldl (λv _=>⟨v.a+j.sp.df.a,v.b+j.sp.df.b,v.c+j.sp.df.c,v.d+j.sp.df.d⟩) v
def U0 (js:List Jb) (i:Int):V4:=js.foldl (λv j=>Yi i j v) ⟨0,0,0,0⟩
def J2 (js:List Jb) (j:Jb):Bool:=decide (j.lf.st=1) && j.sp.after.all λid=>decide (Me js id=5)
end
section
open Go.RowKit Go.Maps Go.Shelf
variable{p:ByteArray×List UInt8}{n:Int}{l:List Int}{w w' wr:WD}{s:dm}
def Agp {x:UInt8}:∀ {ws:List (List UInt8)},ws≠[]->(∀w,w∈ws->x∉w)->Ao x (Lib.join ws [x])=ws
 | [w],_,h=>by
  show Ao x (List.intercalate [x] [w])=_;rw[show List.intercalate [x] [w]=w by simp[List.intercalate]];exact Qr (h w as9)
 | w :: v :: r,_,h=>by
  have e:List.intercalate [x] (w :: v :: r)=w++x :: List.intercalate [x] (v :: r):=by simp[List.intercalate]
  show Ao x (List.intercalate [x] (w :: v :: r))=_;rw[e,Qs (h w as9)];have:=Agp (x:=x) (ws:=v :: r) as9 λu a=>h u (by simp at a ⊢;exact .inr a);exact Cd (w :: ·) this
def Agq {u:Nat} (d:u<=1099511627776):Bl (au (Lib.decDigits u)) 13=(u:Int):=by
 have a:(10:Nat) ^ (12+1)=10000000000000:=ad9
 have b:(Lib.decDigits u).length<=13:=Aa7 12 u (by rw[a];omega);have c:=Wt.2 (Abq u);unfold Bl;rw[Fe,Ac,Ad (Agn (Yg u) Ln),Apx];rintro(h|h|⟨h,e⟩)
 .omega
 .omega
 .have h0:0<u:=by
   rcases Nat.eq_zero_or_pos u with rfl|h0
   .rw [Lib.decDigits,Mb ao9]at h;simp at h
   .exact h0
  refine Apy u h0 ?_;unfold dv at e;rw[E6]at e;exact Xb.1 (by have:(48:UInt8).toNat=48:=rfl;omega)
def Agr  (h0:0<=n) (h1:n<=1099511627776):Bl (au (Lib.itoa n)) 13=n:=by
 rw[Sn h0,Agq ao9];omega
def Abt  (h:n<0):Lib.itoa n=45 :: Lib.decDigits (-n).toNat:=by
 unfold Lib.itoa;rw[Ad h,show n.natAbs=(-n).toNat by omega]
def C7 {n b a:Int}:Dm n b a=true↔b<=n/\n<=a:=by simp[Dm]
def Ap3  (h:nz n=true):Abr (Lib.itoa n)=Z n:=by
 simp only[nz,Eh,In]at h;obtain⟨⟨h1,b⟩,a⟩:=h;unfold Abr;by_cases c:n<0
 .rw [Abt c,Ad (show(45 :: Lib.decDigits (-n).toNat).head?=Z 45 from rfl),List.tail_cons,Agq ao9,Ac ao9];congr 1;omega
 .rw [Agr ao9 a,Ac,Ac c];rw[Sn ao9];intro e;have:(45:UInt8)∈Lib.decDigits n.toNat:=List.mem_of_mem_head? e;have:=Yg _ _ this;unfold Om at this;exact absurd this ad9
def Ags:∀ {l:List Int},(∀n,n∈l->nz n=true)->Yh (l.map Lib.itoa)=Z l
 | [],_=>rfl
 | n :: l,h=>by
  rw[It,Yh,Ap3 (h n as9),Ags λm a=>h m (by simp[a])]
def Abu  (h:Fv l=true):∀n,n∈l->nz n=true:=λn c=>by
 simp only[Fv,Eh]at h;obtain⟨k,b,e⟩:=Pb.1 c;have:=Ago h.2 (show k+1<=l.length by omega);simp only[Le,Eh]at this;have a:=this.2.1;rw[List.getD,A4 b,Option.getD_some,e]at a;exact a
def Sw  (h:Fv l=true):l.length<=8:=by
 simp only[Fv,Eh,In]at h;exact h.1
def Abv  (h:nz n=true):n≠0/\-8<=n/\n<=1099511627776:=by
 simp only[nz,Eh,In]at h;exact⟨h.1.1,h.1.2,h.2⟩
def Ap4 (n:Int):∀c,c∈Lib.itoa n->c=45\/Om c:=by
 intro c a;by_cases h:n<0
 .rw [Abt h]at a;rcases Ei.1 a with h|h
  .exact .inl h
  .exact .inr (Yg _ _ h)
 .exact .inr (Apz ao9 c a)
def Ap5  {x:UInt8} (h:(x.toNat<48\/57<x.toNat)/\x≠45):x∉Lib.itoa n:=λa=>by
 rcases Ap4 n x a with e|e
 .exact h.2 e
 .unfold Om at e;omega
def Ap6  (h:Fv l=true) (a:l≠[]):Abs (au (J1 l))=Z l:=by
 unfold Abs J1
 rw[E6,Agp (by simpa using a) (λw b=>by
  obtain⟨n,_,rfl⟩:=A8.1 b
  exact Ap5 ad9),Ags (Abu h)]
 show(if Fv l=true then Z l else I)=_;exact Ad h
def Fy  (h:Ct s=true):Bp s.user=true/\Bp s.part=true/\So s.df=true/\Fv s.after=true/\Dm s.nodes 1 16=true/\Dm s.wall 1 1000=true/\Dm s.prio 0 100=true/\Dm s.array 1 20=true/\Dm s.ae 0 5=true:=by
 simp only[Ct,Eh]at h;obtain⟨⟨⟨⟨⟨⟨⟨⟨a,b⟩,c⟩,d⟩,e⟩,f⟩,g⟩,i⟩,j⟩:=h;exact⟨a,b,c,d,e,f,g,i,j⟩
def Yj {v:V4}:So v=true↔v.right=true/\v≠V4.zero:=by simp[So]
def Ap7   (h:p∈No s) :
  p=(Sp,s.user.data.toList)\/p=(Sq,s.part.data.toList)\/p=(Sr,Lib.itoa s.nodes)\/p=(Ss,Ja s.df)\/p=(Su,Lib.itoa s.wall)\/p=(Qz,Lib.itoa s.prio)\/p=(Q0,Lib.itoa s.array)\/p=(Q2,Lib.itoa s.ae)\/(s.held=true/\p=(Q3,[49]))\/(s.after≠[]/\p=(Pq,J1 s.after)):=by
 simp only[No,C4,Ei,R8,Sd]at h;rcases h with((((h|h)|h)|h)|h)|h
 .rcases h with h|h|h|h|h<;>simp[h]
 .split at h
  .simp at h
  .simp at h;simp[h]
 .split at h
  .simp at h
  .simp at h;simp[h]
 .split at h
  .simp at h
  .simp at h;simp[h]
 .split at h
  .next c=>simp at h;simp[h,c]
  .simp at h
 .split at h
  .simp at h
  .next c=>simp at h;simp[h,c]
def Mg  (h0:-1099511627776<=n) (h1:n<=1099511627776):(Lib.itoa n).length<=20:=Sj ao9 ao9
def Ap8 (k:ByteArray) (v:List UInt8):(kv k v).length=k.size+1+v.length:=by
 unfold kv;rw[Az,D7,Km];omega
def Abw  (h:Fv l=true):(J1 l).length<=168:=by
 have h1:=Abn [44] 20 (l.map Lib.itoa) λx c=>by
  obtain⟨n,b,rfl⟩:=A8.1 c;have:=Abv (Abu h n b);exact Mg ao9 ao9
 rw[Ar]at h1;have a:=Sw h;have:l.length*(20+[(44:UInt8)].length)<=8*21:=Nat.mul_le_mul a Ln;exact Ay h1 this
def Ap9  (a:Ct s=true)  (h:p∈No s):(kv p.1 p.2).length<=180:=by
 obtain⟨b,c,e,f,g,i,j,k,l⟩:=Fy a;have d:=Yj.1 e;have a1:=Uw b;have a2:=Uw c;have a3:=Afd (Af9 (Uy d.1));have m:=Abw f;have o:=C7.1 g;have q:=C7.1 i;have r:=C7.1 j;have t:=C7.1 k;have u:=C7.1 l;have v:=Mg (n:=s.nodes) ao9 ao9;have x:=Mg (n:=s.wall) ao9 ao9;have y:=Mg (n:=s.prio) ao9 ao9;have z:=Mg (n:=s.array) ao9 ao9;have c9:=Mg (n:=s.ae) ao9 ao9;rw[Ap8];rcases Ap7 h with rfl|rfl|rfl|rfl|rfl|rfl|rfl|rfl|⟨_,rfl⟩|⟨_,rfl⟩
 .show 4+1+s.user.data.toList.length<=180;rw[Km];omega
 .show 4+1+s.part.data.toList.length<=180;rw[Km];omega
 .show 5+1+(Lib.itoa s.nodes).length<=180;omega
 .show 6+1+(Ja s.df).length<=180;omega
 .show 4+1+(Lib.itoa s.wall).length<=180;omega
 .show 4+1+(Lib.itoa s.prio).length<=180;omega
 .show 5+1+(Lib.itoa s.array).length<=180;omega
 .show 7+1+(Lib.itoa s.ae).length<=180;omega
 .show 4+1+1<=180;omega
 .show 5+1+(J1 s.after).length<=180;omega
def Agt (s:dm):(No s).length<=10:=by
 unfold No;simp only[Az,D7,Ir]
 split<;>split<;>split<;>split<;>split<;>simp
def xp (L:List (ByteArray×List UInt8)):List (List UInt8):=L.map λp=>kv p.1 p.2
def Aqa  (c:Ct s=true) {L:List (ByteArray×List UInt8)} (h:∀p,p∈L->p∈No s) (a:L.length<=10):(Lib.join (xp L) [32]).length<=1810:=by
 have h1:=Abn [32] 180 (xp L) λx d=>by
  obtain⟨p,b,rfl⟩:=A8.1 d;exact Ap9 c (h p b)
 unfold xp at h1;rw[Ar]at h1;have:L.length*(180+[(32:UInt8)].length)<=10*181:=Nat.mul_le_mul a Ln;exact Ay h1 this
def Agu  (a:Ct s=true):Jg s=Lib.join (xp (No s)) [32]:=Ad a
def U1 (n h g:Int) (w:WD):CS prog 151 #[G O n,G O h,G O g] w λe w'=>e=K (D (Dm n h g))/\w'=w:=by
 by_cases a:h<=n
 .have d:=At a;by_cases b:n<=g
  .have i:=At b;have f:=C7.2 ⟨a,b⟩;replace⟨a,b,f⟩:=H3 a b f;go_enter func151,ntmps151;go_wp2;go_ret;exact⟨by rw[f.out];rfl,rfl⟩
  .have i:=Au b
   have f:Dm n h g=false:=by rw[Gl];exact λc=>b (C7.1 c).2
   replace⟨a,b,f⟩:=H3 a b f;go_enter func151,ntmps151;go_wp2;go_ret;exact⟨by rw[f.out];rfl,rfl⟩
 .have d:=Au a
  have f:Dm n h g=false:=by rw[Gl];exact λc=>a (C7.1 c).1
  replace⟨a,f⟩:=H2 a f;go_enter func151,ntmps151;go_wp2;go_ret;exact⟨by rw[f.out];rfl,rfl⟩
def Aqb (w:WD) (b a n c:Nat) (xs:List Int) (x:Int) (h:Ap w (Z ⟨b,a,I⟩) n xs) (k:Nat) (l:k<=n):CS prog 166 #[J (Z ⟨b,a,I⟩) k c,G O x] w λe w'=>e=K (D (Ld (xs.take k) x))/\w'=w:=by
 have m:=h.len;have o:=h.max;refine(Tryz.slices_Contains_int b a k c xs x w ao9 ao9 λj d=>?_).mono ?_
 .obtain ⟨i,f,e,_,g⟩:=h.cell j (xs[j]'d) (by simp[d]);cases e;rw[g];simp[List.getD,d]
 .rintro e w' ⟨rfl,rfl⟩
  have:(xs.take k).contains x=Ld (xs.take k) x:=by rw[Oe,Ap1,List.contains_iff_mem]
  rw[this];exact⟨rfl,rfl⟩
def Aqc  (h:8<l.length):Fv l=false:=by
 unfold Fv;rw[show decide (l.length<=8)=false from Au ao9];rfl
def Yk  {k:Nat} (a:k<l.length) (h:(nz (l.getD k 0) && !Ld (l.take k) (l.getD k 0))=false):Fv l=false:=by
 unfold Fv;rw[Ap0 a h,Bool.and_false]
def Aqd  (a:l.length<=8) (h:Le l l.length=true):Fv l=true:=by
 unfold Fv;rw[h,show decide (l.length<=8)=true from At a];rfl
def Abx {x:Int} (h:x=0\/x < -8\/1099511627776<x):nz x=false:=by
 rw[Gl];intro c;have:=Abv c;omega
def Aqe {x:Int} (h0:x≠0) (h1:-8<=x) (a:x<=1099511627776):nz x=true:=by
 simp only[nz,Eh,In];exact⟨⟨h0,h1⟩,a⟩
def Aqf (so:Option Addr) (n c:Nat) (xs:List Int) (w:WD) (h:Ap w so n xs) (an:n<=c):CS prog 153 #[J so n c] w λe w'=>e=K (D (Fv xs))/\w'=w:=by
 obtain⟨i3,q,t,l,o⟩:=B4 Md;have a:=h.len;have al:=h.max;by_cases h8:8<n
 .have d:decide ((8:Int)<n)=true:=At ao9;have j:=Aqc (by rw[a];exact h8);replace⟨h,a,j,h8,q,t,l,o⟩:=H8 h a j h8 q t l o;go_enter func153,ntmps153;go_wp2;go_ret;exact⟨by rw[j.out];rfl,rfl⟩
 have d:decide ((8:Int)<n)=false:=Au ao9;replace⟨h,a,q,t,l,o⟩:=H6 h a q t l o;go_enter func153,ntmps153;go_wp2;clear d;go_loopw [3,4,10] (λ_ _ i wr=>∃k:Nat,i=G O k/\k<=n/\Hid (Le xs k=true)/\wr=w) (λ_ _ i _=>n-(intOf i).toNat)
 case atStart=>exact⟨0,rfl,As _,rfl,rfl⟩
 case round=>
  obtain⟨k,rfl,hk,v,rfl⟩:=hrel;by_cases hc:k<n
  .have ad:(k:Int)<n:=ao9;have am:(0:Int)<=(k:Int):=ao9;obtain⟨y,r⟩:=h.get hc;obtain⟨b,ac,rfl,hb,a0⟩:=h.cell k y r;have g:xs.getD k 0=y:=(by rw[List.getD,r];rfl);by_cases p:y=0
   .have d:(y == 0)=true:=(by simp[p]);have f:(nz (xs.getD k 0) && !Ld (xs.take k) (xs.getD k 0))=false:=(by rw[g,Abx (.inl p)];rfl);replace⟨r,g,f,p⟩:=H4 r g f p;have j:=Yk (k:=k) (by rw[a.out];exact hc) f.out;replace j:=Hh j;go_wp2;go_ret;exact⟨by rw[j.out];rfl,rfl⟩
   have d:(y == 0)=false:=(by simp[p]);by_cases u:y < -8
   .have d1:=At u;have f:(nz (xs.getD k 0) && !Ld (xs.take k) (xs.getD k 0))=false:=(by rw[g,Abx (.inr (.inl u))];rfl);replace⟨r,g,f,p,u⟩:=H5 r g f p u;have j:=Yk (k:=k) (by rw[a.out];exact hc) f.out;replace j:=Hh j;go_wp2;go_ret;exact⟨by rw[j.out];rfl,rfl⟩
   have d1:=Au u;by_cases q2:1099511627776<y
   .have d2:=At q2;have f:(nz (xs.getD k 0) && !Ld (xs.take k) (xs.getD k 0))=false:=(by rw[g,Abx (.inr (.inr q2))];rfl);replace⟨r,g,f,p,u,q2⟩:=H6 r g f p u q2;have j:=Yk (k:=k) (by rw[a.out];exact hc) f.out;replace j:=Hh j;go_wp2;go_ret;exact⟨by rw[j.out];rfl,rfl⟩
   have d2:=Au q2;have ao:=λw=>X5 M9 q.out ⟨b,ac,I⟩ n c k k rfl ao9 w;have s:=Aqb wr b ac n c xs y h.out k ao9;obtain⟨m,hm⟩:=Ex (Ld (xs.take k) y);rw[<-hm]at s;have x:=Aqe p ao9 ao9;replace⟨r,g,p,u,q2,s,hm,x⟩:=H8 r g p u q2 s hm x;go_wp2_with fail;refine s.mono ?_;rintro e w2 ⟨rfl,rfl⟩
   cases m with
   | true=>
    have f:(nz (xs.getD k 0) && !Ld (xs.take k) (xs.getD k 0))=false:=(by rw[g.out,<-hm.out];simp);replace f:=Hh f;have j:=Yk (k:=k) (by rw[a.out];exact hc) f.out;replace j:=Hh j;go_wp2;go_ret;exact⟨by rw[j.out];rfl,rfl⟩
   | false=>
    have z:Le xs (k+1)=true:=(by simp only[Le,g.out,<-hm.out,x.out,v.out];rfl);replace z:=Hh z;go_wp2;go_roundw
    case rel=>exact⟨k+1,by go_num,ao9,z.out,trivial⟩
    case measure=>simp[intOf];omega
  .have ad:¬(k:Int)<n:=ao9;have af:k=n:=ao9;subst af;have j:=Aqd (by rw[a.out];omega) (by rw[a.out];exact v.out);replace j:=Hh j;go_wp2;go_ret;exact⟨by rw[j.out];rfl,rfl⟩
structure ay where
 pl:dm
 so:Option Addr
 n:Nat
 c:Nat
abbrev ay.cells (x:ay):Array VL:=#[Y x.pl.user,Y x.pl.part,G O x.pl.nodes,G O x.pl.df.a,G O x.pl.df.b,G O x.pl.df.c,G O x.pl.df.d,G O x.pl.wall,G O x.pl.prio,G O x.pl.array,G O x.pl.ae,D x.pl.held,J x.so x.n x.c]
abbrev ay.val (x:ay):VL:=.agg #[Y x.pl.user,Y x.pl.part,G O x.pl.nodes,G O x.pl.df.a,G O x.pl.df.b,G O x.pl.df.c,G O x.pl.df.d,G O x.pl.wall,G O x.pl.prio,G O x.pl.array,G O x.pl.ae,D x.pl.held,J x.so x.n x.c]
structure ay.ok (w:WD) (x:ay):Prop where
 after:Ap w x.so x.n x.pl.after
 ni:x.n<=x.c
 user:x.pl.user.size<=maxLen
 part:x.pl.part.size<=maxLen
def ay.ok.low  {x:ay} (h:x.ok w) (a:BW w.heap.size w w'):x.ok w':=⟨h.after.low a,h.ni,h.user,h.part⟩
def ay.zero:ay:=⟨dm.zero,I,0,0⟩
def U2 (w:WD):Ap w I 0 []:=⟨rfl,ao9,λi x h=>by simp at h⟩
def Mh (s:dm):Int:=if Ct s=true then 0 else 80
structure Kn (w:WD) (x:ay) (wr:WD):Prop where
 low:BW w.heap.size w wr
 box:wr.heap[w.heap.size]?=Z (V x.cells 33 (0,0))
def Kn.below  {x:ay} (h:Kn w x wr) (a:BW wr.heap.size wr w'):Kn w x w':=
 ⟨h.low.trans (a.mono h.low.size),Ae a h.box (Ab h.box)⟩
def Kn.new (w:WD) (x:ay):Kn w x (w.alloc (V x.cells 33 (0,0))):=⟨Bn,Ah _ _⟩
def Kn.ok  {x:ay} (h:Kn w x wr) (a:x.ok w):x.ok wr:=a.low h.low
def U3 (x:ay) (w:WD) (hx:x.ok w):CS prog 97 #[x.val] w λe w'=>e=K (G O (Mh x.pl))/\BW w.heap.size w w':=by
 have g:=Kn.new w x;obtain⟨⟨b,a,nodes,⟨i,j,k,l⟩,d,c,array,s,f,after⟩,so,n,t⟩:=x;obtain⟨b1,ad⟩:=Ex (Bp b);obtain⟨b2,af⟩:=Ex (Bp a);obtain⟨b4,al⟩:=Ex (Fv after);obtain⟨b5,am⟩:=Ex (Dm nodes 1 16);obtain⟨b6,an⟩:=Ex (Dm d 1 1000);obtain⟨b7,ao⟩:=Ex (Dm c 0 100);obtain⟨b8,ap⟩:=Ex (Dm array 1 20);obtain⟨b9,av⟩:=Ex (Dm s 0 5);have ac:=I9 ⟨i,j,k,l⟩;obtain⟨r,hr⟩:=Ex (V4.right ⟨i,j,k,l⟩);rw[<-hr]at ac;have hE:=Agf ⟨i,j,k,l⟩ ⟨0,0,0,0⟩;obtain⟨q,hq⟩:=Ex (decide ((⟨i,j,k,l⟩:V4)=⟨0,0,0,0⟩));rw[<-hq]at hE;have hd:So ⟨i,j,k,l⟩=(r && !q):=by unfold So;rw[hr,hq,<-decide_not];rfl
 have v:Mh ⟨b,a,nodes,⟨i,j,k,l⟩,d,c,array,s,f,after⟩=if (b1 && b2 && (r && !q) && b4 && b5 && b6 && b7 && b8 && b9)=true then 0 else 80:=by rw[ad,af,<-hd,al,am,an,ao,ap,av];rfl
 have k1:∀W,CS prog 78 #[Y b] W λe w'=>e=K (D b1)/\BW W.heap.size W w':=λW=>by rw[ad];exact Xu b W hx.user
 have k2:∀W,CS prog 78 #[Y a] W λe w'=>e=K (D b2)/\BW W.heap.size W w':=λW=>by rw[af];exact Xu a W hx.part
 have k4:∀W,Kn w ⟨⟨b,a,nodes,⟨i,j,k,l⟩,d,c,array,s,f,after⟩,so,n,t⟩ W->CS prog 153 #[J so n t] W λe w'=>e=K (D b4)/\w'=W:=λW hW=>by rw[al];exact Aqf so n t after W (hW.ok hx).after hx.ni
 have k5:∀W,CS prog 151 #[G O nodes,G O 1,G O 16] W λe w'=>e=K (D b5)/\w'=W:=λW=>by rw[am];exact U1 _ _ _ W
 have k6:∀W,CS prog 151 #[G O d,G O 1,G O 1000] W λe w'=>e=K (D b6)/\w'=W:=λW=>by rw[an];exact U1 _ _ _ W
 have k7:∀W,CS prog 151 #[G O c,G O 0,G O 100] W λe w'=>e=K (D b7)/\w'=W:=λW=>by rw[ao];exact U1 _ _ _ W
 have k8:∀W,CS prog 151 #[G O array,G O 1,G O 20] W λe w'=>e=K (D b8)/\w'=W:=λW=>by rw[ap];exact U1 _ _ _ W
 have k9:∀W,CS prog 151 #[G O s,G O 0,G O 5] W λe w'=>e=K (D b9)/\w'=W:=λW=>by rw[av];exact U1 _ _ _ W
 clear ad af hr hq hd al am an ao ap av;have c0:(w.alloc (V (⟨⟨b,a,nodes,⟨i,j,k,l⟩,d,c,array,s,f,after⟩,so,n,t⟩:ay).cells 33 (0,0))).cell? ⟨w.heap.size,0,I⟩=Z (Y b):=Aa g.box 0;have c1:(w.alloc (V (⟨⟨b,a,nodes,⟨i,j,k,l⟩,d,c,array,s,f,after⟩,so,n,t⟩:ay).cells 33 (0,0))).cell? ⟨w.heap.size,1,I⟩=Z (Y a):=Aa g.box 1;have c2:(w.alloc (V (⟨⟨b,a,nodes,⟨i,j,k,l⟩,d,c,array,s,f,after⟩,so,n,t⟩:ay).cells 33 (0,0))).cell? ⟨w.heap.size,2,I⟩=Z (G O nodes):=Aa g.box 2;have c3:(w.alloc (V (⟨⟨b,a,nodes,⟨i,j,k,l⟩,d,c,array,s,f,after⟩,so,n,t⟩:ay).cells 33 (0,0))).cell? ⟨w.heap.size,3,I⟩=Z (G O i):=Aa g.box 3;have c4:(w.alloc (V (⟨⟨b,a,nodes,⟨i,j,k,l⟩,d,c,array,s,f,after⟩,so,n,t⟩:ay).cells 33 (0,0))).cell? ⟨w.heap.size,4,I⟩=Z (G O j):=Aa g.box 4;have c5:(w.alloc (V (⟨⟨b,a,nodes,⟨i,j,k,l⟩,d,c,array,s,f,after⟩,so,n,t⟩:ay).cells 33 (0,0))).cell? ⟨w.heap.size,5,I⟩=Z (G O k):=Aa g.box 5;have c6:(w.alloc (V (⟨⟨b,a,nodes,⟨i,j,k,l⟩,d,c,array,s,f,after⟩,so,n,t⟩:ay).cells 33 (0,0))).cell? ⟨w.heap.size,6,I⟩=Z (G O l):=Aa g.box 6;have c7:(w.alloc (V (⟨⟨b,a,nodes,⟨i,j,k,l⟩,d,c,array,s,f,after⟩,so,n,t⟩:ay).cells 33 (0,0))).cell? ⟨w.heap.size,7,I⟩=Z (G O d):=Aa g.box 7;have c8:(w.alloc (V (⟨⟨b,a,nodes,⟨i,j,k,l⟩,d,c,array,s,f,after⟩,so,n,t⟩:ay).cells 33 (0,0))).cell? ⟨w.heap.size,8,I⟩=Z (G O c):=Aa g.box 8;have c9:(w.alloc (V (⟨⟨b,a,nodes,⟨i,j,k,l⟩,d,c,array,s,f,after⟩,so,n,t⟩:ay).cells 33 (0,0))).cell? ⟨w.heap.size,9,I⟩=Z (G O array):=Aa g.box 9;have m:(w.alloc (V (⟨⟨b,a,nodes,⟨i,j,k,l⟩,d,c,array,s,f,after⟩,so,n,t⟩:ay).cells 33 (0,0))).cell? ⟨w.heap.size,10,I⟩=Z (G O s):=Aa g.box 10;have o:(w.alloc (V (⟨⟨b,a,nodes,⟨i,j,k,l⟩,d,c,array,s,f,after⟩,so,n,t⟩:ay).cells 33 (0,0))).cell? ⟨w.heap.size,11,I⟩=Z (D f):=Aa g.box 11;have p:(w.alloc (V (⟨⟨b,a,nodes,⟨i,j,k,l⟩,d,c,array,s,f,after⟩,so,n,t⟩:ay).cells 33 (0,0))).cell? ⟨w.heap.size,12,I⟩=Z (J so n t):=Aa g.box 12;replace⟨v,k1,k2,ac,k4,k5,k6,k7⟩:=H8 v k1 k2 ac k4 k5 k6 k7;replace⟨k8,k9,hx,g⟩:=H4 k8 k9 hx g;have aA:=Hh hE;clear hE;go_enter func97,ntmps97;go_wp2_with fail;refine(k1 _).mono ?_;rintro e w1 ⟨rfl,u⟩;have y:=(g).out.below u;clear c0 c1 c2 c3 c4 c5 c6 c7 c8 c9 m o p;obtain⟨c0,c1,c2,c3,c4,c5,c6,c7,c8,c9,m,o,p⟩:=C13 (y).box;(try dsimp only at c0 c1 c2 c3 c4 c5 c6 c7 c8 c9 m o p);replace⟨y,u⟩:=H2 y u;clear u
 cases b1 with
 | false=>
  go_wp2;go_ret;exact⟨by rw[v.out];rfl,(y).out.low⟩
 | true=>
 go_wp2_with fail;refine(k2 _).mono ?_;rintro e w2 ⟨rfl,u⟩;have z:=(y).out.below u;clear c0 c1 c2 c3 c4 c5 c6 c7 c8 c9 m o p;obtain⟨c0,c1,c2,c3,c4,c5,c6,c7,c8,c9,m,o,p⟩:=C13 (z).box;(try dsimp only at c0 c1 c2 c3 c4 c5 c6 c7 c8 c9 m o p);replace⟨z,u⟩:=H2 z u;clear u
 cases b2 with
 | false=>
  go_wp2;go_ret;exact⟨by rw[v.out];rfl,(z).out.low⟩
 | true=>
 go_wp2_with fail;refine(ac _).mono ?_;rintro e w3 ⟨rfl,u⟩;have h:=(z).out.below u;clear c0 c1 c2 c3 c4 c5 c6 c7 c8 c9 m o p;obtain⟨c0,c1,c2,c3,c4,c5,c6,c7,c8,c9,m,o,p⟩:=C13 (h).box;(try dsimp only at c0 c1 c2 c3 c4 c5 c6 c7 c8 c9 m o p);replace⟨h,u⟩:=H2 h u;clear u
 cases r with
 | false=>
  go_wp2;go_ret;exact⟨by rw[v.out];rfl,(h).out.low⟩
 | true=>
 have hE:=aA.out
 cases q with
 | true=>
  go_wp2;go_ret;exact⟨by rw[v.out];rfl,(h).out.low⟩
 | false=>
 go_wp2_with fail;refine(k4 _ h.out).mono ?_;rintro e w4 ⟨rfl,rfl⟩;clear hE
 cases b4 with
 | false=>
  go_wp2;go_ret;exact⟨by rw[v.out];rfl,(h).out.low⟩
 | true=>
 go_wp2_with fail;refine(k5 _).mono ?_;rintro e w5 ⟨rfl,rfl⟩
 cases b5 with
 | false=>
  go_wp2;go_ret;exact⟨by rw[v.out];rfl,(h).out.low⟩
 | true=>
 go_wp2_with fail;refine(k6 _).mono ?_;rintro e w6 ⟨rfl,rfl⟩
 cases b6 with
 | false=>
  go_wp2;go_ret;exact⟨by rw[v.out];rfl,(h).out.low⟩
 | true=>
 go_wp2_with fail;refine(k7 _).mono ?_;rintro e w7 ⟨rfl,rfl⟩
 cases b7 with
 | false=>
  go_wp2;go_ret;exact⟨by rw[v.out];rfl,(h).out.low⟩
 | true=>
 go_wp2_with fail;refine(k8 _).mono ?_;rintro e w8 ⟨rfl,rfl⟩
 cases b8 with
 | false=>
  go_wp2;go_ret;exact⟨by rw[v.out];rfl,(h).out.low⟩
 | true=>
 go_wp2_with fail;refine(k9 _).mono ?_;rintro e w9 ⟨rfl,rfl⟩
 cases b9 with
 | false=>
  go_wp2;go_ret;exact⟨by rw[v.out];rfl,(h).out.low⟩
 | true=>
  go_wp2;go_ret;exact⟨by rw[v.out];rfl,(h).out.low⟩
end
section
open Go.RowKit Go.Maps Go.Shelf Go.Sort
variable{u:ByteArray}{l:List Int}{vs:List ax}{B N g:Nat}{so:Option Addr}{W w w':WD}
def Sz (n:Int) (h0:-9223372036854775808<=n) (h1:n<=9223372036854775807) (w:WD) (a:Tb w):CS prog 146 #[G O n] w λe w'=>e=K (Y (au (Lib.itoa n)))/\BW w.heap.size w w':=
 (Tryz.strconv_Itoa n h0 h1 w a.here).mono λe w' ⟨he,k,os,hw⟩=>⟨he,by subst hw;exact Lib.below_grow _ _ Ln k os⟩
def Ag2 (xs:List (List UInt8)):(xs.map au).map (·.data.toList)=xs:=by
 rw[Dg];rw[show((λ(x:ByteArray)=>x.data.toList) ∘ au)=id from by funext x;exact E6 x,List.map_id]
def Ag3   {v:VL} {xs:List ByteArray} (h:Qw w B v xs) (a:ByteArray) (l:xs.length<=4096) (b:(Lib.join (xs.map (·.data.toList)) a.data.toList).length<=140737488355328) :
  CS prog 149 #[v,Y a] w λe w'=>e=K (Y (au (Lib.join (xs.map (·.data.toList)) a.data.toList)))/\BW w.heap.size w w':=by
 rcases h.row.2 with⟨c,h0⟩|⟨g,cap,i,c,m,k,p,o,q⟩
 .have:xs=[]:=Gb.1 h0;subst this;subst c;refine(Tryz.strings_Join_none I 0 a w).mono ?_;rintro e w' ⟨rfl,rfl⟩;exact⟨rfl,Below.refl _ _⟩
 .have d:=h.row;rw[c]at d;rw[c]
  exact Tryz.strings_Join g 0 cap xs a w (λj x f=>by
   have n:=(Aq.1 f).1
   rw[Cn,Fo d j ao9,Qv,Bg,f];rfl) (Ab k) ao9 (by have:=Aa5 d;omega) b
def Ag4   {v:VL} {xs:List ByteArray} (h:Qw w B v xs) (d:BW w.heap.size w w'):Qw w' B v xs:=by
 refine⟨h.row.1,?_⟩;rcases h.row.2 with⟨b,h0⟩|⟨g,cap,a,b,e,c,f⟩
 .exact .inl ⟨b,h0⟩
 .exact .inr ⟨g,cap,a,b,e,Ae d c (Ab c),f⟩
def Aqy (so:Option Addr) (n c:Nat) (xs:List Int) (w:WD) (h:Ap w so n xs) (u:Fv xs=true) (ht:Tb w):CS prog 148 #[J so n c] w λe w'=>e=K (Y (au (J1 xs)))/\BW w.heap.size w w':=by
 obtain⟨i9,am,aA,v,x⟩:=B4 Si;have l:=h.len;have h8:=Sw u;rw[l]at h8;have ao:=Abw u;have r:=Abu u;replace⟨h,l,u,am,aA,v,x,ao⟩:=H8 h l u am aA v x ao;replace⟨r,ht⟩:=H2 r ht;go_enter func148,ntmps148;go_wp2;go_loopw [3,5,8] (λov _ i wr=>∃k:Nat,i=G O k/\k<=n/\Hid (Qw wr w.heap.size ov (((xs.take k).map Lib.itoa).map au))/\Hid (BW w.heap.size w wr)) (λ_ _ i _=>n-(intOf i).toNat)
 case atStart=>exact⟨0,rfl,As _,Af6 _ _,Below.refl _ _⟩
 case round=>
  obtain⟨k,rfl,hk,hO,hB⟩:=hrel;by_cases hc:k<n
  .have aD:(k:Int)<n:=ao9;have aF:(0:Int)<=(k:Int):=ao9;have hh:=h.low hB.out;obtain⟨y,hy⟩:=hh.get hc;obtain⟨b,aG,rfl,hb,a0⟩:=hh.cell k y hy;have aC:=Abv (r y (Ai hy));have z:=λW=>Sz y ao9 ao9 W;obtain⟨A,hA⟩:=Ex (au (Lib.itoa y));rw[<-hA]at z;have av:=ht.low hB.out;have ap:((xs.take (k+1)).map Lib.itoa).map au=((xs.take k).map Lib.itoa).map au++[A]:=(by rw[L7,hy];simp[hA]);replace⟨hh,hy,aC,z,hA,av,ap⟩:=H7 hh hy aC z hA av ap;go_wp2_with fail;refine(z _ av.out).mono ?_;rintro e w2 ⟨rfl,g⟩;have d:=Ag4 hO.out g;have a:=hB.trans (g.mono hB.size);obtain⟨L,hL⟩:=Ex ((((xs.take k).map Lib.itoa).map au).length);have aE:L<=8:=(by rw[hL];simp;omega);have p:(w2.alloc (V #[Y A] 9 (0,0))).ownsRow w.heap.size 9 1 u3 L (Qv (((xs.take k).map Lib.itoa).map au)):=(by rw[hL];exact d.row.alloc (V #[Y A] 9 (0,0)));have o:=Xw w2 A;have t:=Xx A;have ac:=Ff (n:=L) ao9;have al:(L+1)*16<=140737488355328:=ao9;have q:w.heap.size<=(w2.alloc (V #[Y A] 9 (0,0))).heap.size:=(by have:=a.size;simp;omega);clear a0;replace⟨g,d,a,hL,p,o,t,ac⟩:=H8 g d a hL p o t ac;replace⟨al,q⟩:=H2 al q;go_wp2_with (at_builtin;refine I7 _ rfl _ _ 67 rfl (w.heap.size) 9 i9 _ 1 16 Qj am.out aA.out v.out x.out rfl Nat.one_pos _ L _ rfl p.out ⟨w2.heap.size,0,I⟩ 1 1 [Y A] rfl rfl o.out t.out ac.out al.out q.out ?_;intro v1 w9 f m _;obtain⟨g9,aB,rfl⟩:=Joins.ownsRow_form f (Gn _);replace⟨f,m⟩:=H2 f m);have af:Qw w9 w.heap.size (J (Z ⟨g9,0,I⟩) (L+1) aB) (((xs.take (k+1)).map Lib.itoa).map au):=(by rw[ap.out];refine⟨?_⟩;rw[Az,<-hL.out];simpa[Qv]using f.out);have ad:=(a.alloc a.size _).grown m.out q.out (λj e=>(d.row.lt j e).1);replace⟨af,ad⟩:=H2 af ad;go_wp2;go_roundw
   case rel=>exact⟨k+1,by go_num,ao9,af.out,ad.out⟩
   case measure=>simp[intOf];omega
  .have aD:¬(k:Int)<n:=ao9;have an:xs.take k=xs:=Cr (by rw[l.out];omega);have d:=hO.out;rw[an]at d;have s:=ao.out;unfold J1 at s;have hj:=Ag3 d { data:=#[44] } (by rw[Ar,Ar,l.out];omega) (by rw[Ag2];show(Lib.join (xs.map Lib.itoa) [44]).length<=_;omega);rw[Ag2]at hj;replace⟨an,d,s,hj⟩:=H4 an d s hj;go_wp2_with fail;refine hj.mono ?_;rintro e w2 ⟨rfl,g⟩;replace g:=Hh g;go_wp2;go_ret;exact⟨rfl,hB.trans (g.mono hB.size)⟩
structure Lk (vb:Nat) (xs:List ByteArray) (W:WD):Prop where
 ex:∃sv,W.heap[vb]?=Z (V #[sv] 67 (0,0))/\Qw W (vb+1) sv xs
def Lk.low {c:Nat} {xs:List ByteArray} {W a:WD} (h:Lk c xs W) (b:BW W.heap.size W a):Lk c xs a:=by
 obtain⟨e,h1,d⟩:=h.ex;exact⟨e,Ae b h1 (Ab h1),Ag4 d b⟩
def Lk.lt {a:Nat} {xs:List ByteArray}  (h:Lk a xs W):a<W.heap.size:=by
 obtain⟨b,h1,_⟩:=h.ex;exact Ab h1
def mi (k v:ByteArray):ByteArray:=k++({ data:=#[61] }:ByteArray)++v
def Ag5 (k:ByteArray) (v:List UInt8):mi k (au v)=au (kv k v):=by
 unfold mi kv;rw[show({ data:=#[61] }:ByteArray)=au [61]from rfl]
 conv=>lhs;rw[<-Aga k]
 rw[Afb,Afb];simp
def Aqz (a:Nat) (k v:ByteArray) (W:WD):CS prog 145 #[Y k,Y v,Y v,Q (Z ⟨a,0,I⟩)] W λe w'=>e=K (.tuple #[])/\w'=W:=by
 go_enter func145,ntmps145;go_wp2;go_end0;exact⟨rfl,rfl⟩
def Aq0 (l:Nat) (xs:List ByteArray) (k v u:ByteArray) (W:WD) (h:Lk l xs W) (hl:xs.length<=100) (hu:v≠u) (hk:k.size<=100) (s:v.size<=4096):CS prog 145 #[Y k,Y v,Y u,Q (Z ⟨l,0,I⟩)] W λe w'=>e=K (.tuple #[])/\Lk l (xs++[mi k v]) w'/\BW l W w':=by
 obtain⟨i9,af,al,q,r⟩:=B4 Si;have d2:=Uz hu;have t:=h.lt;obtain⟨sv,h1,h2⟩:=h.ex;obtain⟨L,hL⟩:=Ex (xs.length);have c0:=Aa h1 0;simp at c0;obtain⟨A,hA⟩:=Ex (mi k v);have av:k++({ data:=#[61] }:ByteArray)++v=A:=hA.symm;have q1:¬9223372036854775807<k.size+1:=ao9
 have q2:¬9223372036854775807<k.size+1+v.size:=ao9
 have i:(W.alloc (V #[Y A] 9 (0,0))).ownsRow (l+1) 9 1 sv L (Qv xs):=by rw[hL];exact h2.row.alloc (V #[Y A] 9 (0,0))
 have f:=Xw W A;have p:=Xx A;have y:=Ff (n:=L) ao9;have ad:(L+1)*16<=140737488355328:=ao9
 have m:l+1<=(W.alloc (V #[Y A] 9 (0,0))).heap.size:=by simp;omega
 have d:∀w9:WD,(W.alloc (V #[Y A] 9 (0,0))).grownBy w9 sv.ownBlock->w9.heap[l]?=Z (V #[sv] 67 (0,0)):=λw9 hg=>by
  refine(hg.block l (by rw[G9];omega) (λe=>?_)).trans (Aj (V #[Y A] 9 (0,0)) h1);have:=(h2.row.lt l e.symm).1;omega
 have ao:sv=J I 0 0\/∃g n c,sv=J (Z ⟨g,0,I⟩) n c:=by
  rcases h2.row.2 with⟨s,_⟩|⟨g,cap,am,s,_⟩
  .exact .inl s
  .exact .inr ⟨g,_,cap,s⟩
 replace⟨h,h1,h2,hL,hA,i,f,p⟩:=H8 h h1 h2 hL hA i f p;replace⟨y,ad,m,d,af,al,q,r⟩:=H8 y ad m d af al q r;replace⟨hu,hk,s,t⟩:=H4 hu hk s t;rcases ao with rfl|⟨g,n,c,rfl⟩
 all_goals
  go_enter func145,ntmps145;go_wp2_with (at_builtin;refine I7 _ rfl _ _ 67 rfl (l+1) 9 i9 _ 1 16 Qj af.out al.out q.out r.out rfl Nat.one_pos _ L _ rfl i.out ⟨W.heap.size,0,I⟩ 1 1 [Y A] rfl rfl f.out p.out y.out ad.out m.out ?_;intro v1 w9 a b _;have o:=d w9 b;have z9:=Aa o 0;have aA:=Af o 0;simp at z9;obtain⟨g9,x,rfl⟩:=Joins.ownsRow_form a (Gn _);replace⟨a,b,o⟩:=H3 a b o);have ac:=((Below.refl l W).alloc (by have:=t.out;omega) _).grown b.out (by have:=t.out;simp;omega) (λj e=>by have:=(h2.row.lt j e).1;omega)
  have z:Lk l (xs++[mi k v]) (w9.setCell ⟨l,0,I⟩ (J (Z ⟨g9,0,I⟩) (L+1) x)):=by
   refine⟨_,Am o.out 0 _,⟨?_⟩⟩;have hg:=(Qm a.out g9 rfl).1;have h:=a.out;rw[Az,<-hL.out,<-hA.out];refine⟨by simp[Qv,hL.out],.inr ?_⟩;rcases h.2 with⟨s,_⟩|⟨g',ap,am,s,an,hh,hr⟩
   .cases s
   .cases s;refine⟨g9,x,am,rfl,an,Cv ao9 _ hh,?_⟩;simpa[Qv]using hr
  replace⟨ac,z⟩:=H2 ac z;go_wp2;go_end0;exact⟨rfl,z.out,ac.setCell Ln _⟩
def Cg (k v u:ByteArray) (xs:List ByteArray):List ByteArray:=if v=u then xs else xs++[mi k v]
def Mi (a:Nat) (xs:List ByteArray) (k v u:ByteArray) (W:WD) (h:Lk a xs W) (d:xs.length<=100) (b:k.size<=100) (f:v.size<=4096):CS prog 145 #[Y k,Y v,Y u,Q (Z ⟨a,0,I⟩)] W λe w'=>e=K (.tuple #[])/\Lk a (Cg k v u xs) w'/\BW a W w':=by
 unfold Cg;by_cases c:v=u
 .rw [Ad c];subst c;refine(Aqz a k v W).mono ?_;rintro e w' ⟨rfl,rfl⟩;exact⟨rfl,h,Below.refl _ _⟩
 .rw [Ac c];exact Aq0 a xs k v u W h d c b f
def Aq1 {k v u:ByteArray} {xs:List ByteArray} {n:Nat} (h:xs.length<=n):(Cg k v u xs).length<=n+1:=by
 unfold Cg;split
 .omega
 .simp;omega
def Nq {k v u:ByteArray} {xs:List ByteArray} (h:v≠u):Cg k v u xs=xs++[mi k v]:=Ac h
def Abz {n m:Int} (h0:0<=n) (h1:n<=1099511627776)  (a:Bl u 13=m) (h:au (Lib.itoa n)=u):n=m:=by
 rw[<-Agr h0 h1,h,a]
def Ag6 {n:Int}:au (Lib.itoa n)≠{ data:=#[] }:=λh=>by
 have:Lib.itoa n=[]:=Ae3 (h.trans (show({ data:=#[] }:ByteArray)=au []from rfl));by_cases c:n<0
 .rw [Abt c]at this;cases this
 .rw [Sn ao9]at this;exact Abq _ this
def Ag7:au (Lib.itoa 0)={ data:=#[48] }:=by
 rw[Sn ad9,Lib.decDigits,Mb ad9];rfl
def Aq2:au (Lib.itoa 1)={ data:=#[49] }:=by
 rw[Sn ad9,Lib.decDigits,Mb ad9];rfl
def Aq3  (h:Fv l=true) (a:l≠[]):au (J1 l)≠{ data:=#[] }:=λe=>by
 have h1:=Ap6 h a;rw[e]at h1;have b:Abs { data:=#[] }=I:=ad9
 rw[b]at h1;cases h1
def Aq4 (v:V4):au (Ja v)≠{ data:=#[] }:=λh=>by
 have:Ja v=[]:=Ae3 (h.trans (show({ data:=#[] }:ByteArray)=au []from rfl));unfold Ja at this;simp at this
def Ag8 {s:ByteArray} (h:Bp s=true):s≠{ data:=#[] }:=λe=>by
 subst e;exact absurd h ad9
def Q6 (s:dm):List ByteArray:=
 Cg Pq (au (J1 s.after)) { data:=#[] } ((if s.held=true then Cg Q3 { data:=#[49] } { data:=#[] } else id) (Cg Q2 (au (Lib.itoa s.ae)) { data:=#[48] } (Cg Q0 (au (Lib.itoa s.array)) { data:=#[49] } (Cg Qz (au (Lib.itoa s.prio)) { data:=#[48] }
  (Cg Su (au (Lib.itoa s.wall)) { data:=#[] } (Cg Ss (au (Ja s.df)) { data:=#[] } (Cg Sr (au (Lib.itoa s.nodes)) { data:=#[] } (Cg Sq s.part { data:=#[] } (Cg Sp s.user { data:=#[] } [])))))))))
def Ag9 {s:dm} (l:Ct s=true):Q6 s=(No s).map λp=>au (kv p.1 p.2):=by
 obtain⟨m,n,v,o,x,y,q,r,t⟩:=Fy l;have b:=C7.1 q;have u:=C7.1 r;have d:=C7.1 t;unfold Q6;rw[Nq (Ag8 m),Nq (Ag8 n),Nq Ag6,Nq (Aq4 _),Nq Ag6];unfold No;simp only[C2,It,Sb]
 have a:∀(k:ByteArray) (s:ByteArray),au (kv k s.data.toList)=mi k s:=λk s=>by rw[<-Ag5,Aga]
 rw[a,a];simp only[<-Ag5];generalize mi Sp s.user=a1;generalize mi Sq s.part=a2;generalize mi Sr (au (Lib.itoa s.nodes))=a3;generalize mi Ss (au (Ja s.df))=a4;generalize mi Su (au (Lib.itoa s.wall))=a5
 have e:∀xs,Cg Qz (au (Lib.itoa s.prio)) { data:=#[48] } xs=xs++List.map (λp=>mi p.1 (au p.2)) (if s.prio=0 then[]else[(Qz,Lib.itoa s.prio)]):=λxs=>by
  by_cases c:s.prio=0
  .rw [Ad c,c];unfold Cg;rw[Ad Ag7];simp
  .rw [Ac c,Nq (λh=>c (Abz b.1 ao9 ad9 h))];rfl
 have f:∀xs,Cg Q0 (au (Lib.itoa s.array)) { data:=#[49] } xs=xs++List.map (λp=>mi p.1 (au p.2)) (if s.array=1 then[]else[(Q0,Lib.itoa s.array)]):=λxs=>by
  by_cases c:s.array=1
  .rw [Ad c,c];unfold Cg;rw[Ad Aq2];simp
  .rw [Ac c,Nq (λh=>c (Abz ao9 ao9 ad9 h))];rfl
 have g:∀xs,Cg Q2 (au (Lib.itoa s.ae)) { data:=#[48] } xs=xs++List.map (λp=>mi p.1 (au p.2)) (if s.ae=0 then[]else[(Q2,Lib.itoa s.ae)]):=λxs=>by
  by_cases c:s.ae=0
  .rw [Ad c,c];unfold Cg;rw[Ad Ag7];simp
  .rw [Ac c,Nq (λh=>c (Abz d.1 ao9 ad9 h))];rfl
 have i:∀xs:List ByteArray,(if s.held=true then Cg Q3 { data:=#[49] } { data:=#[] } else id) xs=xs++List.map (λp=>mi p.1 (au p.2)) (if s.held=true then[(Q3,[49])]else[]):=λxs=>by
  by_cases c:s.held=true
  .rw [Ad c,Ad c,Nq ad9];rfl
  .rw [Ac c,Ac c];simp
 have j:∀xs,Cg Pq (au (J1 s.after)) { data:=#[] } xs=xs++List.map (λp=>mi p.1 (au p.2)) (if s.after=[]then[]else[(Pq,J1 s.after)]):=λxs=>by
  by_cases c:s.after=[]
  .rw [Ad c,c];unfold Cg;rw[Ad (show au (J1 [])={ data:=#[] } from rfl)];simp
  .rw [Ac c,Nq (Aq3 o c)];rfl
 rw[e,f,g,i,j];simp
def Aha {s:dm} (a:Ct s=true):Lib.join ((Q6 s).map (·.data.toList)) [32]=Jg s:=by
 rw[Ag9 a,Agu a,Dg];unfold xp;congr 1
def Ahb {s:dm} (a:Ct s=true):(Jg s).length<=1810:=by
 rw[Agu a];exact Aqa a (λp h=>h) (Agt s)
structure uk (w:WD) (x:ay) (vb m:Nat) (xs:List ByteArray) (W:WD):Prop where
 low:BW w.heap.size w W
 box:W.heap[w.heap.size]?=Z (V x.cells 33 (0,0))
 put:Lk vb xs W
 lt:w.heap.size<vb
 gq:xs.length<=m
def uk.on {w W b:WD} {x:ay} {c m:Nat} {xs:List ByteArray} (h:uk w x c m xs W) (a:BW W.heap.size W b):uk w x c m xs b:=
 ⟨h.low.trans (a.mono h.low.size),Ae a h.box (Ab h.box),h.put.low a,h.lt,h.gq⟩
def uk.step {w W b:WD} {x:ay} {a m:Nat} {xs:List ByteArray} {k v u:ByteArray} (h:uk w x a m xs W) (d:Lk a (Cg k v u xs) b) (c:BW a W b):uk w x a (m+1) (Cg k v u xs) b:=
 ⟨h.low.trans (c.mono (Qn h.lt)),Ae c h.box h.lt,d,h.lt,Aq1 h.gq⟩
def Aq5 (x:ay) (w:WD) (hx:x.ok w) (ht:Tb w):CS prog 95 #[x.val] w λe w'=>e=K (Y (au (Jg x.pl)))/\BW w.heap.size w w':=by
 have aG:=Kn.new w x;have hk:=U3 x _ (aG.ok hx);by_cases hs:Ct x.pl=true;rotate_left
 .have a8:Jg x.pl=[]:=Ac hs;have he:Mh x.pl=80:=Ac hs;rw[he]at hk;obtain⟨⟨am,al,nodes,⟨da,db,dc,dd⟩,ap,ao,array,ae,aJ,after⟩,so,n,cp⟩:=x;replace⟨a8,hk,aG,hx,hs,he,ht⟩:=H7 a8 hk aG hx hs he ht;go_enter func95,ntmps95;go_wp2_with fail;refine hk.mono ?_;rintro e w1 ⟨rfl,a⟩;have aB:=aG.below a;replace⟨aB,a⟩:=H2 aB a;go_wp2;go_ret;exact⟨by rw[a8.out];rfl,aB.low⟩
 have he:Mh x.pl=0:=Ad hs;rw[he]at hk;obtain⟨q1,q2,q3,q4,q5,q6,q7,q8,q9⟩:=Fy hs;have qd:=Yj.1 q3;have a1:=Uw q1;have a2:=Uw q2;have aU:=Af9 (Uy qd.1);have a3:=Afd aU;have a4:=Abw q4;have b5:=C7.1 q5;have b6:=C7.1 q6;have b7:=C7.1 q7;have b8:=C7.1 q8;have b9:=C7.1 q9;have d5:=Mg (n:=x.pl.nodes) ao9 ao9;have d6:=Mg (n:=x.pl.wall) ao9 ao9;have d7:=Mg (n:=x.pl.prio) ao9 ao9;have d8:=Mg (n:=x.pl.array) ao9 ao9;have d9:=Mg (n:=x.pl.ae) ao9 ao9;obtain⟨V1,aW⟩:=Ex (au (Lib.itoa x.pl.nodes));obtain⟨V2,aX⟩:=Ex (au (Ja x.pl.df));obtain⟨V3,aY⟩:=Ex (au (Lib.itoa x.pl.wall));obtain⟨aV,aZ⟩:=Ex (au (Lib.itoa x.pl.prio));obtain⟨V5,a0⟩:=Ex (au (Lib.itoa x.pl.array));obtain⟨V6,a5⟩:=Ex (au (Lib.itoa x.pl.ae));obtain⟨V7,a6⟩:=Ex (au (J1 x.pl.after));have s1:V1.size<=4096:=by rw[aW,Fe];omega
 have s2:V2.size<=4096:=by rw[aX,Fe];omega
 have s3:V3.size<=4096:=by rw[aY,Fe];omega
 have s4:aV.size<=4096:=by rw[aZ,Fe];omega
 have s5:V5.size<=4096:=by rw[a0,Fe];omega
 have s6:V6.size<=4096:=by rw[a5,Fe];omega
 have s7:V7.size<=4096:=by rw[a6,Fe];omega
 have k1:∀W,BW w.heap.size w W->CS prog 146 #[G O x.pl.nodes] W λe w'=>e=K (Y V1)/\BW W.heap.size W w':=λW h=>by rw[aW];exact Sz _ ao9 ao9 W (ht.low h)
 have k2:∀W,BW w.heap.size w W->CS prog 147 #[x.pl.df.val] W λe w'=>e=K (Y V2)/\BW W.heap.size W w':=λW h=>by rw[aX];exact Aof _ aU W (ht.low h)
 have k3:∀W,BW w.heap.size w W->CS prog 146 #[G O x.pl.wall] W λe w'=>e=K (Y V3)/\BW W.heap.size W w':=λW h=>by rw[aY];exact Sz _ ao9 ao9 W (ht.low h)
 have k4:∀W,BW w.heap.size w W->CS prog 146 #[G O x.pl.prio] W λe w'=>e=K (Y aV)/\BW W.heap.size W w':=λW h=>by rw[aZ];exact Sz _ ao9 ao9 W (ht.low h)
 have k5:∀W,BW w.heap.size w W->CS prog 146 #[G O x.pl.array] W λe w'=>e=K (Y V5)/\BW W.heap.size W w':=λW h=>by rw[a0];exact Sz _ ao9 ao9 W (ht.low h)
 have k6:∀W,BW w.heap.size w W->CS prog 146 #[G O x.pl.ae] W λe w'=>e=K (Y V6)/\BW W.heap.size W w':=λW h=>by rw[a5];exact Sz _ ao9 ao9 W (ht.low h)
 have k7:∀W,BW w.heap.size w W->CS prog 148 #[J x.so x.n x.c] W λe w'=>e=K (Y V7)/\BW W.heap.size W w':=λW h=>by rw[a6];exact Aqy _ _ _ _ W (hx.low h).after q4 (ht.low h)
 have a7:Q6 x.pl=Cg Pq V7 { data:=#[] } ((if x.pl.held=true then Cg Q3 { data:=#[49] } { data:=#[] } else id) (Cg Q2 V6 { data:=#[48] } (Cg Q0 V5 { data:=#[49] } (Cg Qz aV { data:=#[48] } (Cg Su V3 { data:=#[] } (Cg Ss V2 { data:=#[] } (Cg Sr V1 { data:=#[] } (Cg Sq x.pl.part { data:=#[] } (Cg Sp x.pl.user { data:=#[] } []))))))))):=by rw[aW,aX,aY,aZ,a0,a5,a6];rfl
 have ad:∀(vb m:Nat) (W:WD),uk w x vb m (Q6 x.pl) W->∃sv,W.heap[vb]?=Z (V #[sv] 67 (0,0))/\True/\CS prog 149 #[sv,.string { data:=#[32] }] W λe w'=>e=K (Y (au (Jg x.pl)))/\BW W.heap.size W w':=λvb m W h=>by
  obtain⟨sv,e1,e2⟩:=h.put.ex;refine⟨sv,e1,trivial,?_⟩;have hl:=Ahb hs;have hj:=Ag3 e2 { data:=#[32] } (by rw[Ag9 hs,Ar];have:=Agt x.pl;omega) (by show(Lib.join ((Q6 x.pl).map (·.data.toList)) [32]).length<=_;rw[Aha hs];omega);rw[show(Lib.join ((Q6 x.pl).map (·.data.toList)) ({ data:=#[32] }:ByteArray).data.toList)=Jg x.pl from Aha hs]at hj;exact hj
 rw[a7]at ad;obtain⟨T,hT⟩:=Ex (au (Jg x.pl));rw[<-hT]at ad ⊢;clear aW aX aY aZ a0 a5 a6 q1 q2 q3 q4 q5 q6 q7 q8 q9 qd aU a3 a4 b5 b6 b7 b8 b9 d5 d6 d7 d8 d9 hs he a7 hT;obtain⟨⟨am,al,nodes,⟨da,db,dc,dd⟩,ap,ao,array,ae,aJ,after⟩,so,n,cp⟩:=x;replace⟨k1,k2,k3,k4,k5,k6,k7,hk⟩:=H8 k1 k2 k3 k4 k5 k6 k7 hk;replace⟨hx,aG,ad,s1,s2,s3,s4,s5⟩:=H8 hx aG ad s1 s2 s3 s4 s5;replace⟨s6,s7,a1,a2,ht⟩:=H5 s6 s7 a1 a2 ht;go_enter func95,ntmps95;go_wp2_with fail;refine hk.mono ?_;rintro e w1 ⟨rfl,a⟩;have aB:=aG.below a
 have af:uk w ⟨⟨am,al,nodes,⟨da,db,dc,dd⟩,ap,ao,array,ae,aJ,after⟩,so,n,cp⟩ w1.heap.size 0 [] (w1.alloc (V #[J I 0 0] 67 (0,0))):=
  ⟨aB.low.alloc aB.low.size _,Aj _ aB.box,⟨_,Ah _ _,Af6 _ _⟩,Ab aB.box,ad9⟩
 have j:(w1.alloc (V #[J I 0 0] 67 (0,0))).cell? ⟨w.heap.size,0,I⟩=Z (Y am):=Aa af.box 0;have k:(w1.alloc (V #[J I 0 0] 67 (0,0))).cell? ⟨w.heap.size,1,I⟩=Z (Y al):=Aa af.box 1;have l:(w1.alloc (V #[J I 0 0] 67 (0,0))).cell? ⟨w.heap.size,2,I⟩=Z (G O nodes):=Aa af.box 2;have o:(w1.alloc (V #[J I 0 0] 67 (0,0))).cell? ⟨w.heap.size,3,I⟩=Z (G O da):=Aa af.box 3;have p:(w1.alloc (V #[J I 0 0] 67 (0,0))).cell? ⟨w.heap.size,4,I⟩=Z (G O db):=Aa af.box 4;have q:(w1.alloc (V #[J I 0 0] 67 (0,0))).cell? ⟨w.heap.size,5,I⟩=Z (G O dc):=Aa af.box 5;have r:(w1.alloc (V #[J I 0 0] 67 (0,0))).cell? ⟨w.heap.size,6,I⟩=Z (G O dd):=Aa af.box 6;have s:(w1.alloc (V #[J I 0 0] 67 (0,0))).cell? ⟨w.heap.size,7,I⟩=Z (G O ap):=Aa af.box 7;have t:(w1.alloc (V #[J I 0 0] 67 (0,0))).cell? ⟨w.heap.size,8,I⟩=Z (G O ao):=Aa af.box 8;have u:(w1.alloc (V #[J I 0 0] 67 (0,0))).cell? ⟨w.heap.size,9,I⟩=Z (G O array):=Aa af.box 9;have b:(w1.alloc (V #[J I 0 0] 67 (0,0))).cell? ⟨w.heap.size,10,I⟩=Z (G O ae):=Aa af.box 10;have i:(w1.alloc (V #[J I 0 0] 67 (0,0))).cell? ⟨w.heap.size,11,I⟩=Z (D aJ):=Aa af.box 11;have d:(w1.alloc (V #[J I 0 0] 67 (0,0))).cell? ⟨w.heap.size,12,I⟩=Z (J so n cp):=Aa af.box 12;replace⟨aB,a,af⟩:=H3 aB a af;go_wp2_with fail;refine(Mi _ _ Sp am { data:=#[] } _ (af).out.put (Ay (af).out.gq ad9) ad9 (by have:=a1.out;show am.size<=4096;omega)).mono ?_;rintro e w2 ⟨rfl,v,a⟩;have aK:=(af).out.step v a;clear j k l o p q r s t u b i d;obtain⟨j,k,l,o,p,q,r,s,t,u,b,i,d⟩:=C13 (aK).box;(try dsimp only at j k l o p q r s t u b i d);replace⟨aK,v,a⟩:=H3 aK v a;clear a v;go_wp2_with fail;refine(Mi _ _ Sq al { data:=#[] } _ (aK).out.put (Ay (aK).out.gq ad9) ad9 (by have:=a2.out;show al.size<=4096;omega)).mono ?_;rintro e w3 ⟨rfl,v,a⟩;have aP:=(aK).out.step v a;clear j k l o p q r s t u b i d;obtain⟨j,k,l,o,p,q,r,s,t,u,b,i,d⟩:=C13 (aP).box;(try dsimp only at j k l o p q r s t u b i d);replace⟨aP,v,a⟩:=H3 aP v a;clear a v;go_wp2_with fail;refine(k1 _ aP.low).mono ?_;rintro e w4 ⟨rfl,a⟩;have aL:=(aP).out.on a;clear j k l o p q r s t u b i d;obtain⟨j,k,l,o,p,q,r,s,t,u,b,i,d⟩:=C13 (aL).box;(try dsimp only at j k l o p q r s t u b i d);replace⟨aL,a⟩:=H2 aL a;clear a;go_wp2_with fail;refine(Mi _ _ Sr V1 { data:=#[] } _ (aL).out.put (Ay (aL).out.gq ad9) ad9 s1.out).mono ?_;rintro e w5 ⟨rfl,v,a⟩;have aQ:=(aL).out.step v a;clear j k l o p q r s t u b i d;obtain⟨j,k,l,o,p,q,r,s,t,u,b,i,d⟩:=C13 (aQ).box;(try dsimp only at j k l o p q r s t u b i d);replace⟨aQ,v,a⟩:=H3 aQ v a;clear a v;go_wp2_with fail;refine(k2 _ aQ.low).mono ?_;rintro e w6 ⟨rfl,a⟩;have aM:=(aQ).out.on a;clear j k l o p q r s t u b i d;obtain⟨j,k,l,o,p,q,r,s,t,u,b,i,d⟩:=C13 (aM).box;(try dsimp only at j k l o p q r s t u b i d);replace⟨aM,a⟩:=H2 aM a;clear a;go_wp2_with fail;refine(Mi _ _ Ss V2 { data:=#[] } _ (aM).out.put (Ay (aM).out.gq ad9) ad9 s2.out).mono ?_;rintro e w7 ⟨rfl,v,a⟩;have aR:=(aM).out.step v a;clear j k l o p q r s t u b i d;obtain⟨j,k,l,o,p,q,r,s,t,u,b,i,d⟩:=C13 (aR).box;(try dsimp only at j k l o p q r s t u b i d);replace⟨aR,v,a⟩:=H3 aR v a;clear a v;go_wp2_with fail;refine(k3 _ aR.low).mono ?_;rintro e w8 ⟨rfl,a⟩;have aN:=(aR).out.on a;clear j k l o p q r s t u b i d;obtain⟨j,k,l,o,p,q,r,s,t,u,b,i,d⟩:=C13 (aN).box;(try dsimp only at j k l o p q r s t u b i d);replace⟨aN,a⟩:=H2 aN a;clear a;go_wp2_with fail;refine(Mi _ _ Su V3 { data:=#[] } _ (aN).out.put (Ay (aN).out.gq ad9) ad9 s3.out).mono ?_;rintro e w9 ⟨rfl,v,a⟩;have aS:=(aN).out.step v a;clear j k l o p q r s t u b i d;obtain⟨j,k,l,o,p,q,r,s,t,u,b,i,d⟩:=C13 (aS).box;(try dsimp only at j k l o p q r s t u b i d);replace⟨aS,v,a⟩:=H3 aS v a;clear a v;go_wp2_with fail;refine(k4 _ aS.low).mono ?_;rintro e bb ⟨rfl,a⟩;have aO:=(aS).out.on a;clear j k l o p q r s t u b i d;obtain⟨j,k,l,o,p,q,r,s,t,u,b,i,d⟩:=C13 (aO).box;(try dsimp only at j k l o p q r s t u b i d);replace⟨aO,a⟩:=H2 aO a;clear a;go_wp2_with fail;refine(Mi _ _ Qz aV { data:=#[48] } _ (aO).out.put (Ay (aO).out.gq ad9) ad9 s4.out).mono ?_;rintro e bc ⟨rfl,v,a⟩;have aE:=(aO).out.step v a;clear j k l o p q r s t u b i d;obtain⟨j,k,l,o,p,q,r,s,t,u,b,i,d⟩:=C13 (aE).box;(try dsimp only at j k l o p q r s t u b i d);replace⟨aE,v,a⟩:=H3 aE v a;clear a v;go_wp2_with fail;refine(k5 _ aE.low).mono ?_;rintro e bd ⟨rfl,a⟩;have aC:=(aE).out.on a;clear j k l o p q r s t u b i d;obtain⟨j,k,l,o,p,q,r,s,t,u,b,i,d⟩:=C13 (aC).box;(try dsimp only at j k l o p q r s t u b i d);replace⟨aC,a⟩:=H2 aC a;clear a;go_wp2_with fail;refine(Mi _ _ Q0 V5 { data:=#[49] } _ (aC).out.put (Ay (aC).out.gq ad9) ad9 s5.out).mono ?_;rintro e be ⟨rfl,v,a⟩;have aF:=(aC).out.step v a;clear j k l o p q r s t u b i d;obtain⟨j,k,l,o,p,q,r,s,t,u,b,i,d⟩:=C13 (aF).box;(try dsimp only at j k l o p q r s t u b i d);replace⟨aF,v,a⟩:=H3 aF v a;clear a v;go_wp2_with fail;refine(k6 _ aF.low).mono ?_;rintro e bf ⟨rfl,a⟩;have aD:=(aF).out.on a;clear j k l o p q r s t u b i d;obtain⟨j,k,l,o,p,q,r,s,t,u,b,i,d⟩:=C13 (aD).box;(try dsimp only at j k l o p q r s t u b i d);replace⟨aD,a⟩:=H2 aD a;clear a;go_wp2_with fail;refine(Mi _ _ Q2 V6 { data:=#[48] } _ (aD).out.put (Ay (aD).out.gq ad9) ad9 s6.out).mono ?_;rintro e bg ⟨rfl,v,a⟩;have an:=(aD).out.step v a;clear j k l o p q r s t u b i d;obtain⟨j,k,l,o,p,q,r,s,t,u,b,i,d⟩:=C13 (an).box;(try dsimp only at j k l o p q r s t u b i d);replace⟨an,v,a⟩:=H3 an v a;clear a v
 cases aJ with
 | false=>
  go_wp2_with fail;refine(k7 _ an.low).mono ?_;rintro e y ⟨rfl,a⟩;have f:=(an).out.on a;clear j k l o p q r s t u b d;have j:y.cell? ⟨w.heap.size,0,I⟩=Z (Y am):=Aa (f).box 0;have k:y.cell? ⟨w.heap.size,1,I⟩=Z (Y al):=Aa (f).box 1;have l:y.cell? ⟨w.heap.size,2,I⟩=Z (G O nodes):=Aa (f).box 2;have o:y.cell? ⟨w.heap.size,3,I⟩=Z (G O da):=Aa (f).box 3;have p:y.cell? ⟨w.heap.size,4,I⟩=Z (G O db):=Aa (f).box 4;have q:y.cell? ⟨w.heap.size,5,I⟩=Z (G O dc):=Aa (f).box 5;have r:y.cell? ⟨w.heap.size,6,I⟩=Z (G O dd):=Aa (f).box 6;have s:y.cell? ⟨w.heap.size,7,I⟩=Z (G O ap):=Aa (f).box 7;have t:y.cell? ⟨w.heap.size,8,I⟩=Z (G O ao):=Aa (f).box 8;have u:y.cell? ⟨w.heap.size,9,I⟩=Z (G O array):=Aa (f).box 9;have b:y.cell? ⟨w.heap.size,10,I⟩=Z (G O ae):=Aa (f).box 10;have d:y.cell? ⟨w.heap.size,12,I⟩=Z (J so n cp):=Aa (f).box 12;replace⟨f,a⟩:=H2 f a;clear a;go_wp2_with fail;refine(Mi _ _ Pq V7 { data:=#[] } _ (f).out.put (Ay (f).out.gq ad9) ad9 s7.out).mono ?_;rintro e z ⟨rfl,v,a⟩;have g:=(f).out.step v a;clear j k l o p q r s t u b d;have j:z.cell? ⟨w.heap.size,0,I⟩=Z (Y am):=Aa (g).box 0;have k:z.cell? ⟨w.heap.size,1,I⟩=Z (Y al):=Aa (g).box 1;have l:z.cell? ⟨w.heap.size,2,I⟩=Z (G O nodes):=Aa (g).box 2;have o:z.cell? ⟨w.heap.size,3,I⟩=Z (G O da):=Aa (g).box 3;have p:z.cell? ⟨w.heap.size,4,I⟩=Z (G O db):=Aa (g).box 4;have q:z.cell? ⟨w.heap.size,5,I⟩=Z (G O dc):=Aa (g).box 5;have r:z.cell? ⟨w.heap.size,6,I⟩=Z (G O dd):=Aa (g).box 6;have s:z.cell? ⟨w.heap.size,7,I⟩=Z (G O ap):=Aa (g).box 7;have t:z.cell? ⟨w.heap.size,8,I⟩=Z (G O ao):=Aa (g).box 8;have u:z.cell? ⟨w.heap.size,9,I⟩=Z (G O array):=Aa (g).box 9;have b:z.cell? ⟨w.heap.size,10,I⟩=Z (G O ae):=Aa (g).box 10;have d:z.cell? ⟨w.heap.size,12,I⟩=Z (J so n cp):=Aa (g).box 12;replace⟨g,v,a⟩:=H3 g v a;clear a v;have aT:=ad _ _ _ (g).out;obtain⟨sv,aH,a9,aI⟩:=aT;have v0:=Aa aH 0;simp at v0;replace⟨aH,aI⟩:=H2 aH aI;go_wp2_with fail;refine aI.mono ?_;rintro e ba ⟨rfl,a⟩;have aA:=(g).out.low.trans (a.mono (g).out.low.size);replace⟨aA,a⟩:=H2 aA a;clear j k l o p q r s t u b d;go_wp2;go_ret;exact⟨rfl,aA.out⟩
 | true=>
  go_wp2_with fail;refine(Mi _ _ Q3 { data:=#[49] } { data:=#[] } _ (an).out.put (Ay (an).out.gq ad9) ad9 ad9).mono ?_;rintro e av ⟨rfl,v,a⟩;have ac:=(an).out.step v a;clear j k l o p q r s t u b d;have j:av.cell? ⟨w.heap.size,0,I⟩=Z (Y am):=Aa (ac).box 0;have k:av.cell? ⟨w.heap.size,1,I⟩=Z (Y al):=Aa (ac).box 1;have l:av.cell? ⟨w.heap.size,2,I⟩=Z (G O nodes):=Aa (ac).box 2;have o:av.cell? ⟨w.heap.size,3,I⟩=Z (G O da):=Aa (ac).box 3;have p:av.cell? ⟨w.heap.size,4,I⟩=Z (G O db):=Aa (ac).box 4;have q:av.cell? ⟨w.heap.size,5,I⟩=Z (G O dc):=Aa (ac).box 5;have r:av.cell? ⟨w.heap.size,6,I⟩=Z (G O dd):=Aa (ac).box 6;have s:av.cell? ⟨w.heap.size,7,I⟩=Z (G O ap):=Aa (ac).box 7;have t:av.cell? ⟨w.heap.size,8,I⟩=Z (G O ao):=Aa (ac).box 8;have u:av.cell? ⟨w.heap.size,9,I⟩=Z (G O array):=Aa (ac).box 9;have b:av.cell? ⟨w.heap.size,10,I⟩=Z (G O ae):=Aa (ac).box 10;have d:av.cell? ⟨w.heap.size,12,I⟩=Z (J so n cp):=Aa (ac).box 12;replace⟨ac,v,a⟩:=H3 ac v a;clear a v;go_wp2_with fail;refine(k7 _ ac.low).mono ?_;rintro e y ⟨rfl,a⟩;have f:=(ac).out.on a;clear j k l o p q r s t u b d;have j:y.cell? ⟨w.heap.size,0,I⟩=Z (Y am):=Aa (f).box 0;have k:y.cell? ⟨w.heap.size,1,I⟩=Z (Y al):=Aa (f).box 1;have l:y.cell? ⟨w.heap.size,2,I⟩=Z (G O nodes):=Aa (f).box 2;have o:y.cell? ⟨w.heap.size,3,I⟩=Z (G O da):=Aa (f).box 3;have p:y.cell? ⟨w.heap.size,4,I⟩=Z (G O db):=Aa (f).box 4;have q:y.cell? ⟨w.heap.size,5,I⟩=Z (G O dc):=Aa (f).box 5;have r:y.cell? ⟨w.heap.size,6,I⟩=Z (G O dd):=Aa (f).box 6;have s:y.cell? ⟨w.heap.size,7,I⟩=Z (G O ap):=Aa (f).box 7;have t:y.cell? ⟨w.heap.size,8,I⟩=Z (G O ao):=Aa (f).box 8;have u:y.cell? ⟨w.heap.size,9,I⟩=Z (G O array):=Aa (f).box 9;have b:y.cell? ⟨w.heap.size,10,I⟩=Z (G O ae):=Aa (f).box 10;have d:y.cell? ⟨w.heap.size,12,I⟩=Z (J so n cp):=Aa (f).box 12;replace⟨f,a⟩:=H2 f a;clear a;go_wp2_with fail;refine(Mi _ _ Pq V7 { data:=#[] } _ (f).out.put (Ay (f).out.gq ad9) ad9 s7.out).mono ?_;rintro e z ⟨rfl,v,a⟩;have g:=(f).out.step v a;clear j k l o p q r s t u b d;have j:z.cell? ⟨w.heap.size,0,I⟩=Z (Y am):=Aa (g).box 0;have k:z.cell? ⟨w.heap.size,1,I⟩=Z (Y al):=Aa (g).box 1;have l:z.cell? ⟨w.heap.size,2,I⟩=Z (G O nodes):=Aa (g).box 2;have o:z.cell? ⟨w.heap.size,3,I⟩=Z (G O da):=Aa (g).box 3;have p:z.cell? ⟨w.heap.size,4,I⟩=Z (G O db):=Aa (g).box 4;have q:z.cell? ⟨w.heap.size,5,I⟩=Z (G O dc):=Aa (g).box 5;have r:z.cell? ⟨w.heap.size,6,I⟩=Z (G O dd):=Aa (g).box 6;have s:z.cell? ⟨w.heap.size,7,I⟩=Z (G O ap):=Aa (g).box 7;have t:z.cell? ⟨w.heap.size,8,I⟩=Z (G O ao):=Aa (g).box 8;have u:z.cell? ⟨w.heap.size,9,I⟩=Z (G O array):=Aa (g).box 9;have b:z.cell? ⟨w.heap.size,10,I⟩=Z (G O ae):=Aa (g).box 10;have d:z.cell? ⟨w.heap.size,12,I⟩=Z (J so n cp):=Aa (g).box 12;replace⟨g,v,a⟩:=H3 g v a;clear a v;have aT:=ad _ _ _ (g).out;obtain⟨sv,aH,a9,aI⟩:=aT;have v0:=Aa aH 0;simp at v0;replace⟨aH,aI⟩:=H2 aH aI;go_wp2_with fail;refine aI.mono ?_;rintro e ba ⟨rfl,a⟩;have aA:=(g).out.low.trans (a.mono (g).out.low.size);replace⟨aA,a⟩:=H2 aA a;clear j k l o p q r s t u b d;go_wp2;go_ret;exact⟨rfl,aA.out⟩
def On   {v:VL} {xs:List Int} (h:Al w B v xs):∃so n c,v=J so n c/\n<=c/\Ap w so n xs/\∀b o,so=Z ⟨b,o,I⟩->B<=b/\b<w.heap.size:=by
 obtain⟨so,c,e,f⟩:=Agc h;have i:=h.row;rcases i.2 with⟨a,h0⟩|⟨g,cap,j,a,l,k,p,_⟩
 .refine ⟨so,xs.length,c,e,ao9,f,λb o d=>?_⟩;rw[e]at a;injection a with a;rw[a]at d;cases d
 .refine ⟨so,xs.length,c,e,?_,f,λb o d=>?_⟩
  .rw [e]at a;injection a with _ _ hc;omega
  .have m:=Ab k;rw[e]at a;injection a with a;rw[a]at d;injection d with d;injection d with d;omega
def Ahc  (a:BW w.heap.size w w') (r:Option Nat):w.grownBy w' r:=⟨a.os,a.tape,a.output,a.size,λi b _=>a.block i b⟩
def Ab0 (w:WD) (r:Option Nat):w.grownBy w r:=Ahc (Below.refl _ _) r
def Ahd {a b c:WD} {r:Option Nat} (h1:a.grownBy b r) (d:b.grownBy c r):a.grownBy c r:=
 ⟨d.os.trans h1.os,d.tape.trans h1.tape,d.output.trans h1.output,Ay h1.size d.size,λi e f=>(d.block i (By e h1.size) f).trans (h1.block i e f)⟩
def U4 {a w:WD} {b o:Nat} (h:a.grownBy w (Z b)) (v:VL):a.grownBy (w.setCell ⟨b,o,I⟩ v) (Z b):=
 ⟨h.os,h.tape,h.output,by simpa[World.setCell]using h.size,λi d c=>(Cm w ⟨b,o,I⟩ v i (λe=>c (by rw[e]))).trans (h.block i d c)⟩
def Aq6   {n:Nat} {xs:List Int} (h:Ap w so n xs) (j:w.heap.size<=w'.heap.size) (f:∀b c,so=Z ⟨b,c,I⟩->b<w.heap.size->w'.heap[b]?=w.heap[b]?):Ap w' so n xs:=
 ⟨h.len,h.max,λi x k=>by
  obtain⟨b,c,e,d,g⟩:=h.cell i x k
  exact⟨b,c,e,ao9,(Bs (a:=⟨b,c+i,I⟩) (w:=w) (f b c e d)).trans g⟩⟩
def Ahe    {n:Nat} {xs:List Int} (h:Ap w so n xs) (f:w.grownBy w' (Z g)) (i:∀b o,so=Z ⟨b,o,I⟩->b≠g):Ap w' so n xs:=
 Aq6 h f.size λb d e a=>f.block b a (λc=>i b d e (by injection c with c))
def Ahf {a w w':WD} {B r:Nat} (h:BW B a w) (c:w.grownBy w' (Z r)) (b:B<=w.heap.size) (d:B<=r):BW B a w':=
 h.grown c b (λk e=>by injection e with e;omega)
def U5 (s:dm):V4:=if Ct s=true then⟨s.df.a*s.nodes,s.df.b*s.nodes,s.df.c*s.nodes,s.df.d*s.nodes⟩else V4.zero
structure S1 (w:WD) (x:ay) (v:V4) (W:WD):Prop where
 low:BW w.heap.size w W
 box:W.heap[w.heap.size]?=Z (V x.cells 33 (0,0))
 res:W.heap[w.heap.size+1]?=Z (V V4.zero.cells 30 (0,0))
 vec:W.heap[w.heap.size+2]?=Z (V v.cells 30 (0,0))
def S1.set  {x:ay} {v a:V4} (h:S1 w x v W) (o:Nat) (z:VL) (e:v.cells.setIfInBounds o z=a.cells):S1 w x a (W.setCell ⟨w.heap.size+2,o,I⟩ z):=
 ⟨h.low.setCell (show w.heap.size<=w.heap.size+2 by omega) _,Cv ao9 _ h.box,Cv ao9 _ h.res,by rw[<-e];exact Am h.vec o z⟩
def Yl {a n:Int} (h0:0<=a) (h1:a<=1073741824) (b:1<=n) (c:n<=16):0<=a*n/\a*n<=17179869184:=by
 refine⟨Int.mul_nonneg h0 ao9,?_⟩;have d:a*n<=1073741824*n:=Int.mul_le_mul_of_nonneg_right h1 ao9;omega
def Aq7 (a b c d:Int) (j:Nat) (e:j<4) (w:WD):(Instr.index 30 (.agg #[G O a,G O b,G O c,G O d]) (G O (j:Int))).run prog w=.ok (G O (V4.get ⟨a,b,c,d⟩ j)) w:=Afe a b c d j e w
def Aq8 (v:V4):pq v 0=V4.zero:=by simp[pq,V4.zero]
def Aq9 (v:V4):pq v 4=v:=by simp[pq]
def Ara (v:V4) (k:Nat) (a:k<4):(pq v k).cells.setIfInBounds k (G O (v.get k))=(pq v (k+1)).cells:=by
 rcases(show k=0\/k=1\/k=2\/k=3 by omega)with rfl|rfl|rfl|rfl<;>simp[pq,V4.get]
def Arb (x:ay) (w:WD) (hx:x.ok w):CS prog 234 #[x.val] w λe w'=>e=K (U5 x.pl).val/\BW w.heap.size w w':=by
 obtain⟨W0,j⟩:=Ex (((w.alloc (V x.cells 33 (0,0))).alloc (V V4.zero.cells 30 (0,0))).alloc (V V4.zero.cells 30 (0,0)));have f:S1 w x V4.zero W0:=by rw[j];exact⟨(Bn.alloc as9 _).alloc (by simp;omega) _,Aj _ (Aj _ (Ah _ _)),Aj _ (A5 _ _ as9),A5 _ _ as9⟩
 have hk:=U3 x W0 (hx.low f.low);by_cases hs:Ct x.pl=true;rotate_left
 .have m:U5 x.pl=V4.zero:=Ac hs;have he:Mh x.pl=80:=Ac hs;rw[he,j]at hk;have z:=Hh j;clear j;obtain⟨⟨an,al,nodes,⟨r,s,t,u⟩,ao,am,array,ae,ac,after⟩,so,n,cp⟩:=x;replace⟨m,hk,f,hx,hs,he⟩:=H6 m hk f hx hs he;go_enter func234,ntmps234;go_wp2_with fail;refine hk.mono ?_;rintro e w1 ⟨rfl,o⟩;rw[<-z.out]at o;have g:=f.low.trans (o.mono f.low.size);have l:=Ae o f.res (Ab f.res);have q:=Ae o f.vec (Ab f.vec);have r0:=Bk l 0 (G O 0) rfl;have r1:=Bk l 1 (G O 0) rfl;have r2:=Bk l 2 (G O 0) rfl;have r3:=Bk l 3 (G O 0) rfl;have v0:=Bk q 0 (G O 0) rfl;have v1:=Bk q 1 (G O 0) rfl;have v2:=Bk q 2 (G O 0) rfl;have v3:=Bk q 3 (G O 0) rfl;have fr:=Af l;replace⟨o,g,l,q⟩:=H4 o g l q;go_wp2;refine Ak (v:=V4.zero.val) (by simp[results,results234,go_sem,r0,r1,r2,r3,V4.zero]) rfl ⟨by rw[m.out],?_⟩;exact((((g.setCell (D8 _) _).setCell (D8 _) _).setCell (D8 _) _).setCell (D8 _) _)
 have he:Mh x.pl=0:=Ad hs;have m:U5 x.pl=⟨x.pl.df.a*x.pl.nodes,x.pl.df.b*x.pl.nodes,x.pl.df.c*x.pl.nodes,x.pl.df.d*x.pl.nodes⟩:=Ad hs;rw[he,j]at hk;have z:=Hh j;clear j;obtain⟨_,_,q3,_,q5,_⟩:=Fy hs;obtain⟨h1,h2,h3,h4,h5,h6,h7,h8⟩:=Uy (Yj.1 q3).1;obtain⟨n1,n2⟩:=C7.1 q5;obtain⟨⟨an,al,nodes,⟨r,s,t,u⟩,ao,am,array,ae,ac,after⟩,so,n,cp⟩:=x;simp only at h1 h2 h3 h4 h5 h6 h7 h8 n1 n2;obtain⟨aB,aC⟩:=Yl h1 h2 n1 n2;obtain⟨aD,aE⟩:=Yl h3 h4 n1 n2;obtain⟨aF,aG⟩:=Yl h5 h6 n1 n2;obtain⟨aH,aI⟩:=Yl h7 h8 n1 n2;replace⟨m,hk,f,hx,hs,he,q3,q5⟩:=H8 m hk f hx hs he q3 q5;go_enter func234,ntmps234;go_wp2_with fail;refine hk.mono ?_;rintro e w1 ⟨rfl,o⟩;rw[<-z.out]at o
 have h:S1 w ⟨⟨an,al,nodes,⟨r,s,t,u⟩,ao,am,array,ae,ac,after⟩,so,n,cp⟩ V4.zero w1:=
  ⟨f.low.trans (o.mono f.low.size),Ae o f.box (Ab f.box),Ae o f.res (Ab f.res),Ae o f.vec (Ab f.vec)⟩
 have y3:=Bk h.box 3 (G O r) rfl;have y4:=Bk h.box 4 (G O s) rfl;have y5:=Bk h.box 5 (G O t) rfl;have y6:=Bk h.box 6 (G O u) rfl;replace⟨o,h⟩:=H2 o h;go_wp2;clear y3 y4 y5 y6;go_loopw [4,5,12] (λ_ _ i wr=>∃k:Nat,i=G O k/\k<=4/\Hid (S1 w ⟨⟨an,al,nodes,⟨r,s,t,u⟩,ao,am,array,ae,ac,after⟩,so,n,cp⟩ (pq ⟨r*nodes,s*nodes,t*nodes,u*nodes⟩ k) wr)) (λ_ _ i _=>4-(intOf i).toNat)
 case atStart=>exact⟨0,rfl,ao9,by rw[Aq8];exact h.out⟩
 case round=>
  obtain⟨k,rfl,aK,hN⟩:=hrel;by_cases hc:k<4
  .have ap:(k:Int)<4:=ao9;have aJ:(0:Int)<=(k:Int):=ao9;have av:=λw=>Aq7 r s t u k hc w;have af:=hN.set k _ (Ara ⟨r*nodes,s*nodes,t*nodes,u*nodes⟩ k hc)
   have ev:(V4.get ⟨r,s,t,u⟩ k)*nodes=V4.get ⟨r*nodes,s*nodes,t*nodes,u*nodes⟩ k:=by rcases(show k=0\/k=1\/k=2\/k=3 by omega)with rfl|rfl|rfl|rfl<;>rfl
   obtain⟨y,hy⟩:=Ex (V4.get ⟨r,s,t,u⟩ k)
   have aA:0<=y*nodes/\y*nodes<=17179869184:=by
    rw[hy,ev];rcases(show k=0\/k=1\/k=2\/k=3 by omega)with rfl|rfl|rfl|rfl
    .exact ⟨aB,aC⟩
    .exact ⟨aD,aE⟩
    .exact ⟨aF,aG⟩
    .exact ⟨aH,aI⟩
   obtain⟨aM,aN⟩:=aA;rw[<-ev]at af;rw[<-hy]at av af;have c2:=Bk hN.box 2 (G O nodes) rfl;have fv:=Af hN.vec;obtain⟨vk,aL⟩:∃vk,wr.cell? ⟨w.heap.size+2,k,I⟩=Z vk:=(by rw[Aa hN.vec];exact⟨_,O6 (by simpa using hc)⟩);replace⟨af,hy,ev⟩:=H3 af hy ev;go_wp2;go_roundw
   case rel=>exact⟨k+1,by go_num,ao9,af.out⟩
   case measure=>simp[intOf];omega
  .have ap:¬(k:Int)<4:=ao9;have ad:k=4:=ao9;have p:=hN.out;rw[ad,Aq9]at p;have l:=p.res;have q:=p.vec;have g:=p.low;have r0:=Bk l 0 (G O 0) rfl;have r1:=Bk l 1 (G O 0) rfl;have r2:=Bk l 2 (G O 0) rfl;have r3:=Bk l 3 (G O 0) rfl;have v0:=Bk q 0 (G O (r*nodes)) rfl;have v1:=Bk q 1 (G O (s*nodes)) rfl;have v2:=Bk q 2 (G O (t*nodes)) rfl;have v3:=Bk q 3 (G O (u*nodes)) rfl;have fr:=Af l;replace⟨g,l,q,ad,p⟩:=H5 g l q ad p;go_wp2;refine Ak (v:=(⟨r*nodes,s*nodes,t*nodes,u*nodes⟩:V4).val) (by simp[results,results234,go_sem,r0,r1,r2,r3]) rfl ⟨by rw[m.out],?_⟩;exact((((g.setCell (D8 _) _).setCell (D8 _) _).setCell (D8 _) _).setCell (D8 _) _)
def S2 (vs:List ax) (i:Int):V4:=if i<0 then V4.zero else((vs[i.toNat]?).map ax.cap).getD V4.zero
def Arc  {i:Int}  {e:Ending} (h:Agg vs i w e w'):∃(x:aq) (b:Bool),e=K (E #[x.val,D b])/\x.cap=S2 vs i/\BW w.heap.size w w':=by
 obtain⟨x,b,f,_,c,_,d⟩:=h;refine⟨x,b,f,?_,c⟩;unfold S2;rcases d with⟨_,h0,a⟩|⟨_,rfl,a⟩
 .rw [Ac ao9,a];rfl
 .split
  .rfl
  .rw [Pa ao9];rfl
def Pu (vs:List ax) (d:V4) (l:List Int):Nat:=(l.filter λi=>d.fits (S2 vs i)).length
def Ard  {d:V4}  {k:Nat} {y:Int} (h:l[k]?=Z y):Pu vs d (l.take (k+1))=Pu vs d (l.take k)+if d.fits (S2 vs y)=true then 1 else 0:=by
 unfold Pu;rw[Je h,Pc,Az];congr 1
 by_cases q:d.fits (S2 vs y)=true<;>simp[q]
def Are (vs:List ax) (d:V4) (l:List Int):Pu vs d l<=l.length:=Ob _ _
def Dv (s:dm) (vs:List ax):Int:=
 if Ct s=false then 80 else if C6 vs s.part=[]then 81 else if (Pu vs s.df (C6 vs s.part):Int)<s.nodes then 82 else 0
def Arf  {fb mb base:Nat}  (h:kq w fb mb base vs) (aC:Iy vs) (x:ay) (hx:x.ok w):CS prog 98 #[Q (Z ⟨fb,0,I⟩),x.val] w λe w'=>e=K (G O (Dv x.pl vs))/\BW w.heap.size w w':=by
 have a:=Kn.new w x;have aG:=U3 x (w.alloc (V x.cells 33 (0,0))) (hx.low a.low);obtain⟨er,aM⟩:=Ex (Mh x.pl);rw[<-aM]at aG
 have aA:(er=0/\Ct x.pl=true)\/(er=80/\Ct x.pl=false):=by
  rw[aM];unfold Mh
  cases Ct x.pl<;>simp
 clear aM;have aN:=h.below a.low;obtain⟨⟨aZ,f,nodes,⟨da,db,dc,dd⟩,a0,aY,array,ae,aX,after⟩,so,n,cp⟩:=x;have c0:=Aa a.box 0;have c1:=Aa a.box 1;have c2:=Aa a.box 2;have c3:=Aa a.box 3;have c4:=Aa a.box 4;have c5:=Aa a.box 5;have c6:=Aa a.box 6;have c7:=Aa a.box 7;have c8:=Aa a.box 8;have c9:=Aa a.box 9;have aR:=Aa a.box 10;have aS:=Aa a.box 11;have aT:=Aa a.box 12;simp at c0 c1 c2 c3 c4 c5 c6 c7 c8 c9 aR aS aT;replace⟨a,aG,aN,h,aC,hx,aA⟩:=H7 a aG aN h aC hx aA;go_enter func98,ntmps98;go_wp2_with fail;refine aG.mono ?_;rintro e w1 ⟨rfl,ad⟩;have p:=a.below ad;have al:=aN.below ad;clear c0 c1 c2 c3 c4 c5 c6 c7 c8 c9 aR aS aT;rcases aA.out with⟨rfl,j⟩|⟨rfl,j⟩;rotate_left
 .replace ⟨ad,p,al,j⟩:=H4 ad p al j;clear aA;go_wp2;go_ret;exact⟨by unfold Dv;rw[Ad j.out];rfl,p.low⟩
 have y1:=Bk p.box 1 (Y f) rfl;have aO:=Af8 al aC.out f;clear aA;replace⟨ad,p,al,j,aO⟩:=H5 ad p al j aO;go_wp2_with fail;refine aO.mono ?_;rintro e w2 ⟨v2,rfl,ap,af⟩;obtain⟨po,pn,pc,rfl,a2,ac,t⟩:=On ap;have u:=p.below af;have aB:=al.below af;have l:=ac.len;have a3:pn<=16:=by have h1:=Af3 vs f 0;have h2:=aC.len;unfold C6 at l;omega
 by_cases q0:pn=0
 .subst q0;replace⟨ap,af,ac,t,u,aB,l⟩:=H7 ap af ac t u aB l;clear y1;go_wp2;go_ret;exact⟨by unfold Dv;rw[Ac (by rw[j.out];simp),Ad (Gb.1 l.out)];rfl,u.low⟩
 have a6:((pn:Int) == 0)=false:=by rw[Bj];omega
 clear y1;replace⟨ap,af,ac,t,u,aB,l,q0⟩:=H8 ap af ac t u aB l q0;go_wp2;go_loopw [7,9,10,11,26] (λm _ _ _ i wr=>∃k:Nat,i=G O k/\k<=pn/\m=G O (Pu vs ⟨da,db,dc,dd⟩ ((C6 vs f).take k):Nat)/\Hid (BW w2.heap.size w2 wr)) (λ_ _ _ _ i _=>pn-(intOf i).toNat)
 case atStart=>exact⟨0,rfl,As _,rfl,Below.refl _ _⟩
 case round=>
  obtain⟨k,rfl,hk,rfl,hB⟩:=hrel;obtain⟨z,hz⟩:=Ex (Pu vs ⟨da,db,dc,dd⟩ ((C6 vs f).take k));rw[<-hz];have a4:z<=16:=by have h1:=Are vs ⟨da,db,dc,dd⟩ ((C6 vs f).take k);have h2:=Qk k (C6 vs f);omega
  have g:=u.below hB.out;have r:=aB.below hB.out;by_cases hc:k<pn
  .have aV:(k:Int)<pn:=ao9;have a1:(0:Int)<=(k:Int):=ao9;obtain⟨y,hy⟩:=Ge ((C6 vs f)) k (by have:=l.out;omega);obtain⟨b,a5,rfl,hb,aL⟩:=(ac.low hB.out).cell k y hy;have aQ:=Agh r aC.out y;have aD:=Ard (vs:=vs) (d:=⟨da,db,dc,dd⟩) hy;rw[<-hz]at aD;have aW:IntKind.i64.wrap ((z:Int)+1)=(z:Int)+1:=Fr _ ao9;replace⟨hy,aQ,aD,g,r,hz⟩:=H6 hy aQ aD g r hz;go_wp2_with fail;refine aQ.mono ?_;intro e w3 hN;obtain⟨⟨nm,⟨ca,cb,cc,cd⟩,qo,qn,qc,qs⟩,b3,rfl,s,av⟩:=Arc hN;clear hN;replace⟨s,av⟩:=H2 s av;go_upto_region 12 with fail;obtain⟨nb,aP⟩:=Ex (w3.heap.size);obtain⟨W4,aE⟩:=Ex (w3.alloc (V (⟨nm,⟨ca,cb,cc,cd⟩,qo,qn,qc,qs⟩:aq).cells 69 (0,0)));have aF:BW w3.heap.size w3 W4:=(by rw[aE];exact Bn);have am:W4.heap[nb]?=Z (V (⟨nm,⟨ca,cb,cc,cd⟩,qo,qn,qc,qs⟩:aq).cells 69 (0,0)):=(by rw[aE,aP];exact Ah _ _);rw[<-aE,<-aP];have v:=(g.below av.out).below aF;have aI:=(hB.trans (av.mono hB.size)).trans (aF.mono (hB.trans (av.mono hB.size)).size);clear aE aP;have y3:=Bk v.box 3 (G O da) rfl;have y4:=Bk v.box 4 (G O db) rfl;have y5:=Bk v.box 5 (G O dc) rfl;have y6:=Bk v.box 6 (G O dd) rfl;have n1:=Bk am 1 (G O ca) rfl;have n2:=Bk am 2 (G O cb) rfl;have n3:=Bk am 3 (G O cc) rfl;have n4:=Bk am 4 (G O cd) rfl;have aH:=Xt ⟨da,db,dc,dd⟩ ⟨ca,cb,cc,cd⟩ W4;obtain⟨q,hq⟩:=Ex (V4.fits ⟨da,db,dc,dd⟩ ⟨ca,cb,cc,cd⟩);rw[<-hq]at aH;have o:=aD.out;rw[show S2 vs y=⟨ca,cb,cc,cd⟩from s.symm,<-hq]at o;clear hq aD s aL;replace⟨aF,am,v,aI,aH,o⟩:=H6 aF am v aI aH o;go_wp2_with fail;refine aH.mono ?_;rintro e w5 ⟨rfl,aK⟩;have aJ:=aI.trans (aK.mono aI.size);clear y3 y4 y5 y6 n1 n2 n3 n4;replace⟨aK,aJ⟩:=H2 aK aJ
   cases q with
   | true=>
    go_wp2;go_roundw
    case rel=>exact⟨k+1,by go_num,ao9,by rw[o.out];first|rfl|simp,aJ.out⟩
    case measure=>simp[intOf];omega
   | false=>
    go_wp2;go_roundw
    case rel=>exact⟨k+1,by go_num,ao9,by rw[o.out];first|rfl|simp,aJ.out⟩
    case measure=>simp[intOf];omega
  .have aV:¬(k:Int)<pn:=ao9;have aU:k=pn:=ao9;have ao:z=Pu vs ⟨da,db,dc,dd⟩ (C6 vs f):=(by rw[hz,aU,<-l.out,Pg]);have y2:=Bk g.box 2 (G O nodes) rfl
   have an:C6 vs f≠[]:=λc=>by have:=l.out;rw[c]at this;exact q0.out this.symm
   clear hz aU;by_cases q3:(z:Int)<nodes
   .replace ⟨g,r,ao,an⟩:=H4 g r ao an;go_wp2;go_ret;exact⟨by unfold Dv;rw[Ac (by rw[j.out];simp),Ac an.out,Ad (by rw[<-ao.out];exact q3)];rfl,g.low⟩
   .replace ⟨g,r,ao,an⟩:=H4 g r ao an;go_wp2;go_ret;exact⟨by unfold Dv;rw[Ac (by rw[j.out];simp),Ac an.out,Ac (by rw[<-ao.out];exact Int.not_lt.2 q3)];rfl,g.low⟩
def Ab4:(prog.info? 33).map (λi=>(i.zero,i.size,i.bytes))=Z (Z ay.zero.val,13,136):=by kernel_rfl
def ay.single (x:ay):ay:=⟨{ x.pl with array:=1 },x.so,x.n,x.c⟩
def Q7 (s:dm):Nat:=if Ct s=true then s.array.toNat else 0
def Mn (c:Array VL) (base:Nat):List VL->Array VL
 | []=>c
 | v :: vs=>Mn (c.setIfInBounds base v) (base+1) vs
def setRow (W:WD) (g base:Nat):List VL->WD
 | []=>W
 | v :: vs=>setRow (W.setCell ⟨g,base,I⟩ v) g (base+1) vs
def U9:∀(vs:List VL) (c:Array VL) (base:Nat),(Mn c base vs).size=c.size
 | [],_,_=>rfl
 | v :: vs,c,base=>by rw[Mn,U9 vs];simp
def Ab5:∀(vs:List VL) (c:Array VL) (base i:Nat),i<base->(Mn c base vs)[i]?=c[i]?
 | [],_,_,_,_=>rfl
 | v :: vs,c,base,i,h=>by
  rw[Mn,Ab5 vs _ _ _ ao9,N8,Ac ao9]
def Ahk:∀(vs:List VL) (c:Array VL) (base i:Nat),base+vs.length<=i->(Mn c base vs)[i]?=c[i]?
 | [],_,_,_,_=>rfl
 | v :: vs,c,base,i,h=>by
  simp only[D7]at h;rw[Mn,Ahk vs _ _ _ ao9,N8,Ac ao9]
def Ahl:∀(vs:List VL) (c:Array VL) (base o:Nat),o<vs.length->base+vs.length<=c.size->(Mn c base vs)[base+o]?=vs[o]?
 | [],_,_,_,h,_=>by simp at h
 | v :: vs,c,base,0,h,hs=>by
  simp only[D7]at hs;rw[Mn,Ab5 vs _ _ _ ao9,Iu,N8,Ad rfl,Ad ao9];rfl
 | v :: vs,c,base,o+1,h,hs=>by
  simp only[D7]at h hs;rw[Mn,show base+(o+1)=base+1+o by omega,Ahl vs _ _ _ ao9 (by simp;omega)];rfl
def Ab6:∀(vs:List VL) {W:WD} {g base:Nat} {c:Array VL} {T:TypeId} {fr:Nat×Nat},W.heap[g]?=Z (V c T fr)->(setRow W g base vs).heap[g]?=Z (V (Mn c base vs) T fr)
 | [],_,_,_,_,_,_,h=>h
 | v :: vs,_,_,base,_,_,_,h=>Ab6 vs (Am h base v)
def Ab7:∀(vs:List VL) (W:WD) (g base:Nat),W.grownBy (setRow W g base vs) (Z g)
 | [],W,_,_=>Ab0 W _
 | v :: vs,W,g,base=>Ahd (U4 (Ab0 W _) v) (Ab7 vs _ g (base+1))
structure S6 (c:Array VL) (N:Nat) (xs:List ay):Prop where
 size:c.size=N*13
 done:∀j y,xs[j]?=Z y->∀o,o<13->c[j*13+o]?=y.cells[o]?
 rest:∀j,xs.length<=j->j<N->∀o,o<13->c[j*13+o]?=ay.zero.cells[o]?
def S6.next {c d:Array VL}  {xs:List ay} {y:ay} (h:S6 c N xs) (m:d.size=c.size) (l:∀o,o<13->d[xs.length*13+o]?=y.cells[o]?) (k:∀i,i<xs.length*13\/xs.length*13+13<=i->d[i]?=c[i]?):S6 d N (xs++[y]):=by
 refine⟨by rw[m,h.size],λj z b o a=>?_,λj b g o a=>?_⟩
 .by_cases e:j<xs.length
  .rw [Fd e]at b;rw[k _ (.inl ao9)];exact h.done j z b o a
  .rw [G7 ao9]at b;have f:j-xs.length=0:=(by have:=(Aq.1 b).1;simp at this;omega);rw[f]at b
   have:z=y:=by simpa using b.symm
   subst this;rw[show j=xs.length by omega];exact l o a
 .simp only[Az,D7,Ir]at b;rw[k _ (.inr ao9)];exact h.rest j ao9 g o a
def Va (n:Nat) (l:List Int) (W:WD) (e:Ending) (w':WD):Prop:=
 ∃so' c',e=K (J so' n c')/\n<=c'/\Ap w' so' n l/\(∀b o,so'=Z ⟨b,o,I⟩->o=0/\W.heap.size<=b/\b<w'.heap.size/\∃cc,w'.heap[b]?=Z (V cc 3 (0,0)))/\BW W.heap.size W w'
structure Ahm (w:WD) (x:ay) (g N:Nat) (xs:List ay) (W:WD):Prop where
 low:BW w.heap.size w W
 xl:w.heap.size<g
 row:∃c,W.heap[g]?=Z (V c 33 (0,0))/\S6 c N xs
 one:∀(j:Nat) (y:ay),xs[j]?=Z y->y.pl=x.single.pl/\y.n=x.n/\y.n<=y.c/\Ap W y.so y.n x.pl.after/\∀b o,y.so=Z ⟨b,o,I⟩->o=0/\g<b/\b<W.heap.size/\∃cc,W.heap[b]?=Z (V cc 3 (0,0))
 apart:∀(i j:Nat) (y z:ay) (b o o':Nat),xs[i]?=Z y->xs[j]?=Z z->i<j->y.so=Z ⟨b,o,I⟩->z.so≠Z ⟨b,o',I⟩
structure S7 (w:WD) (x:ay) (g N:Nat) (xs:List ay) (W:WD):Prop extends Ahm w x g N xs W where
 box:W.heap[w.heap.size]?=Z (V x.cells 33 (0,0))
def Aro (x:ay) (w:WD) (e:Ending) (w':WD):Prop:=
 (Ct x.pl=false/\e=K (J I 0 0)/\BW w.heap.size w w')\/(Ct x.pl=true/\∃g xs,e=K (J (Z ⟨g,0,I⟩) (Q7 x.pl) (Q7 x.pl))/\xs.length=Q7 x.pl/\Ahm w x g (Q7 x.pl) xs w')
def S7.next  {x:ay}  {xs:List ay} {W p:WD} (h:S7 w x g N xs W) (hN:xs.length<N) (a:Option Addr) (m:Nat) (an:x.n<=m)
  (hi:Ap p a x.n x.pl.after) (r:∀b o,a=Z ⟨b,o,I⟩->o=0/\W.heap.size<=b/\b<p.heap.size/\∃u,p.heap[b]?=Z (V u 3 (0,0)))
  (hb:BW ((setRow W g (xs.length*13) x.cells.toList).setCell ⟨g,xs.length*13+9,I⟩ (G O 1)).heap.size ((setRow W g (xs.length*13) x.cells.toList).setCell ⟨g,xs.length*13+9,I⟩ (G O 1)) p) :
  S7 w x g N (xs++[⟨x.single.pl,a,x.n,m⟩]) (p.setCell ⟨g,xs.length*13+12,I⟩ (J a x.n m)):=by
 obtain⟨c,aj,v⟩:=h.row;have ap:=Ab aj;have g1:=Ab7 x.cells.toList W g (xs.length*13);have g2:=U4 (o:=xs.length*13+9) g1 (G O 1);have g3:=Ahd g2 (Ahc hb (Z g));have g4:=U4 (o:=xs.length*13+12) g3 (J a x.n m);have r1:=Ab6 x.cells.toList (base:=xs.length*13) aj;have r2:=Am r1 (xs.length*13+9) (G O 1);have r3:=Ae hb r2 (Ab r2);have r4:=Am r3 (xs.length*13+12) (J a x.n m);have aA:xs.length*13+13<=c.size:=by rw[v.size];omega
 have l:∀b,b≠g->b<W.heap.size->(p.setCell ⟨g,xs.length*13+12,I⟩ (J a x.n m)).heap[b]?=W.heap[b]?:=λb q am=>g4.block b am (λe=>q (by injection e with e));have av:=g3.size;have ac:(p.setCell ⟨g,xs.length*13+12,I⟩ (J a x.n m)).heap.size=p.heap.size:=by simp[World.setCell]
 refine⟨⟨Ahf h.low g4 h.low.size (Qn h.xl),h.xl,⟨_,r4,v.next (y:=⟨x.single.pl,a,x.n,m⟩) ?_ ?_ ?_⟩,λj y t=>?_,λi j y z b o o' k d al hy hz=>?_⟩,(l _ (by have:=h.xl;omega) (Ab h.box)).trans h.box⟩
 .simp [U9]
 .intro o ho;have f:x.cells.toList.length=13:=rfl;rw[N8];by_cases ad:o=12
  .subst ad;rw[Ad rfl,Ad (by simp[U9];omega)];rfl
  .rw [Ac ao9,N8];by_cases e9:o=9
   .subst e9;rw[Ad rfl,Ad (by rw[U9];omega)];rfl
   .rw [Ac ao9,Ahl _ _ _ _ (by rw[f];omega) (by rw[f];omega)]
    rcases(show o=0\/o=1\/o=2\/o=3\/o=4\/o=5\/o=6\/o=7\/o=8\/o=10\/o=11 by omega)with rfl|rfl|rfl|rfl|rfl|rfl|rfl|rfl|rfl|rfl|rfl<;>rfl
 .intro i k;have f:x.cells.toList.length=13:=rfl;rw[N8,Ac ao9,N8,Ac ao9];rcases k with h1|h1
  .exact Ab5 _ _ _ _ h1
  .exact Ahk _ _ _ _ (by rw[f];omega)
 .by_cases e:j<xs.length
  .rw [Fd e]at t;obtain⟨a1,a2,a3,a4,a5⟩:=h.one j y t;refine⟨a1,a2,a3,Ahe a4 g4 λb o e=>by have:=(a5 b o e).2.1;omega,λb o e=>?_⟩;obtain⟨b1,b2,b3,u,b4⟩:=a5 b o e;exact⟨b1,b2,by rw[ac];omega,u,(l b ao9 b3).trans b4⟩
  .rw [G7 ao9]at t;have s:j-xs.length=0:=(by have:=(Aq.1 t).1;simp at this;omega);rw[s]at t;have hy:y=⟨x.single.pl,a,x.n,m⟩:=(by simpa using t.symm);subst hy
   have q:∀b o,a=Z ⟨b,o,I⟩->b≠g:=λb o e=>by have:=(r b o e).2.1;omega
   refine⟨rfl,rfl,an,Ahe hi (U4 (Ab0 p (Z g)) _) q,λb o e=>?_⟩;obtain⟨b1,b2,b3,u,b4⟩:=r b o e;exact⟨b1,ao9,by rw[ac];exact b3,u,Cv (q b o e) _ b4⟩
 .by_cases e:j<xs.length
  .rw [Fd e]at d;rw[Fd ao9]at k;exact h.apart i j y z b o o' k d al hy hz
  .rw [G7 ao9]at d;have s:j-xs.length=0:=(by have:=(Aq.1 d).1;simp at this;omega);rw[s]at d;have ao:z=⟨x.single.pl,a,x.n,m⟩:=(by simpa using d.symm);subst ao;have af:i<xs.length:=(by have:=(Aq.1 d).1;omega);rw[Fd af]at k;have q1:=((h.one i y k).2.2.2.2 b o hy).2.2.1;have q2:=(r b o' hz).2.1;omega
structure J6 (w:WD) (so:Option Addr) (n:Nat) (xs:List ay):Prop where
 len:xs.length=n
 max:n<=9223372036854775807
 cell:∀(i:Nat) (x:ay),xs[i]?=Z x->∃b off,so=Z ⟨b,off,I⟩/\b<w.heap.size/\(∀j,j<13->w.cell? ⟨b,off+i*13+j,I⟩=x.cells[j]?)/\x.ok w
def J6.low   {n:Nat} {xs:List ay} (h:J6 w so n xs) (c:BW w.heap.size w w'):J6 w' so n xs:=
 ⟨h.len,h.max,λi x l=>by
  obtain⟨b,d,e,a,f,k⟩:=h.cell i x l
  exact⟨b,d,e,By a c.size,λj g=>(Ag c a).trans (f j g),k.low c⟩⟩
end
section
open Go.RowKit Go.Maps Go.Lib
variable{js:List Jb}{k:Nat}
def Asc (l:Lf) (h:el l.st=true):el (A3 l 7).1.st=false:=by
 unfold A3;by_cases a:K8 l=false
 .rw [Ad a];rfl
 .rw [Ac a,Ad h];have e:Em l 7=(⟨8,l.bp,l.left,l.wall,l.stop⟩,true):=by unfold Em;rw[Ac ao9,Ac ao9,Ac ao9,Ad ao9]
  rw[e];rfl
def Kp (js:List Jb):Nat:=js.countP Jb.waits
def Asd {α:Type} (p:α->Bool) (f:α->α):∀(l:List α) (k:Nat) (x:α),l[k]?=Z x->p x=true->p (f x)=false->(l.modify k f).countP p+1=l.countP p:=by
 intro l
 induction l with
 | nil=>intro k x h;simp at h
 | cons y l ih=>
  intro k x h h1 a
  cases k with
  | zero=>
   simp at h;subst h;simp[h1,a]
  | succ k=>
   have:=ih k x (by simpa using h) h1 a;rw[Wo,Xa,Xa];omega
def Ase   (h:Gr js k=true):Kp (Gs js k)+1=Kp js:=by
 have a:=h;unfold Gr at a;unfold Gs;rw[Ad h]
 cases hj:js[k]? with
 | none=>rw[hj]at a;cases a
 | some j=>
  rw[hj]at a;simp only[Eh]at a;exact Asd _ _ _ _ _ hj a.1 (Asc j.lf a.1)
def Ys   (h:Gr js k=false):Gs js k=js:=by
 unfold Gs;rw[Ac (by rw[h];simp)]
def Asf (js:List Jb) (k:Nat):(Gs js k).length=js.length:=by
 unfold Gs;split
 .exact Kh _ _ _
 .rfl
def Asg (js:List Jb) (n:Nat):(Co js n).1.length=js.length:=by
 induction n with
 | zero=>rfl
 | succ n ih=>exact(Asf _ _).trans ih
def Ah0 (js:List Jb) (n:Nat):((Co js n).2=false/\(Co js n).1=js)\/((Co js n).2=true/\Kp (Co js n).1<Kp js):=by
 induction n with
 | zero=>exact .inl ⟨rfl,rfl⟩
 | succ n ih=>
  show(((Co js n).2 || Gr (Co js n).1 n)=false/\Gs (Co js n).1 n=js)\/(((Co js n).2 || Gr (Co js n).1 n)=true/\Kp (Gs (Co js n).1 n)<Kp js)
  cases hh:Gr (Co js n).1 n with
  | true=>
   have:=Ase hh;rcases ih with⟨h1,a⟩|⟨h1,a⟩
   .rw [a]at this;exact .inr ⟨as9,by rw[a];omega⟩
   .exact .inr ⟨as9,ao9⟩
  | false=>
   rw[Ys hh];rcases ih with⟨h1,a⟩|⟨h1,a⟩
   .exact .inl ⟨by rw[h1];rfl,a⟩
   .exact .inr ⟨by rw[h1];rfl,a⟩
def Ah1 (js:List Jb):(Cf js).1.length=js.length:=Asg js _
def Ab9  (h:(Cf js).2=true):Kp (Cf js).1<Kp js:=by
 rcases Ah0 js js.length with⟨h1,_⟩|⟨_,a⟩
 .rw [Cf,h1]at h;cases h
 .exact a
def Aca  (h:(Cf js).2=false):(Cf js).1=js:=by
 rcases Ah0 js js.length with⟨_,a⟩|⟨h1,_⟩
 .exact a
 .rw [Cf,h1]at h;cases h
def Ash:∀(n m:Nat) (js:List Jb),Kp js<n->Kp js<m->Mf n js=Mf m js:=by
 intro n
 induction n with
 | zero=>intro m js h;omega
 | succ n ih=>
  intro m js h1 a
  cases m with
  | zero=>omega
  | succ m=>
   show(if (Cf js).2=true then Mf n (Cf js).1 else(Cf js).1)=(if (Cf js).2=true then Mf m (Cf js).1 else(Cf js).1);by_cases h:(Cf js).2=true
   .rw [Ad h,Ad h];have:=Ab9 h;exact ih m _ ao9 ao9
   .rw [Ac h,Ac h]
def Ah2 (js:List Jb):Kp js<=js.length:=Wp
def Asi (js:List Jb):Dp js=if (Cf js).2=true then Dp (Cf js).1 else js:=by
 show(if (Cf js).2=true then Mf js.length (Cf js).1 else(Cf js).1)=_;by_cases h:(Cf js).2=true
 .rw [Ad h,Ad h];have h1:=Ab9 h;have a:=Ah2 js;have b:=Ah2 (Cf js).1;exact Ash _ _ _ ao9 ao9
 .rw [Ac h,Ac h];exact Aca (by simpa using h)
def Asj (n:Nat):∀js:List Jb,(Mf n js).length=js.length:=by
 induction n with
 | zero=>intro js;rfl
 | succ n ih=>
  intro js;show(if (Cf js).2=true then Mf n (Cf js).1 else(Cf js).1).length=_;split
  .rw [ih,Ah1]
  .exact Ah1 js
def Ve (js:List Jb):(Dp js).length=js.length:=Asj _ js
def Ah3 {P:List Jb->Prop} (c:∀js k,P js->Gr js k=true->P (Gs js k))  (h:P js):P (Dp js):=by
 have a:∀(n:Nat) (js:List Jb),P js->P (Co js n).1:=by
  intro n
  induction n with
  | zero=>intro js h;exact h
  | succ n ih=>
   intro js h;show P (Gs (Co js n).1 n)
   cases hh:Gr (Co js n).1 n with
   | true=>exact c _ _ (ih js h) hh
   | false=>rw[Ys hh];exact ih js h
 have b:∀(n:Nat) (js:List Jb),P js->P (Mf n js):=by
  intro n
  induction n with
  | zero=>intro js h;exact h
  | succ n ih=>
   intro js h;show P (if (Cf js).2=true then Mf n (Cf js).1 else(Cf js).1);split
   .exact ih _ (a _ _ h)
   .exact a _ _ h
 exact b _ _ h
end
section
open Go.RowKit Go.Maps Go.Shelf Go.Sort
variable{p:ByteArray}{y:Int}{vs:List ax}
def Ay8 (N:Nat):S6 (madeCells ay.zero.cells (N*13)) N []:=by
 refine⟨size_madeCells _ _,λj y h=>by simp at h,λj _ e o c=>?_⟩;have a:j*13+o<N*13:=ao9
 unfold madeCells;rw[Array.getElem?_map,Array.getElem?_range,Ad a];have b:ay.zero.cells.size=13:=rfl;have d:(j*13+o) % 13=o:=ao9
 simp only[Kj,b,d];rw[O6 (by rw[b];exact c),getElem!_pos _ _ (by rw[b];exact c)]
def Zp (so:Option Addr) (n c:Nat) (l:List Int) (W:WD) (h:Ap W so n l) (hn:n<=1000):CS prog 87 #[J so n c] W (Va n l W):=by
 have u:=h.len
 have m:∀d w',w'.ownsRow W.heap.size 3 1 d n (Bu l)->BW W.heap.size W w'->d≠J I 0 0->Va n l W (K d) w':=λd w' f k a=>by
  have hO:Al w' W.heap.size d l:=⟨by rw[u];exact f⟩;rcases f.2 with⟨r,_⟩|⟨g,cap,s,r,hg,hh,z,_⟩
  .exact absurd r a
  .obtain ⟨al,n2,c2,q,v,hi,af⟩:=On hO;rw[r]at q;injection q with e3 e4 e5;subst e3;subst e4;subst e5;refine⟨_,_,by rw[r],v,hi,λb o e=>?_,k⟩;injection e with e;injection e with e1 q;subst e1;subst q;exact⟨rfl,hg,Ab hh,s,hh⟩
 cases so with
 | none=>
  have h0:n=0:=by
   cases n with
   | zero=>rfl
   | succ n=>
    obtain⟨x,y⟩:=h.get (i:=0) ao9;obtain⟨b,p,e,_⟩:=h.cell 0 x y;cases e
  subst h0;have:l=[]:=Gb.1 u;subst this;refine(Tryz.slices_Clone_int_nil 0 c W).mono ?_;rintro e w' ⟨rfl,rfl⟩;exact⟨I,0,rfl,Nat.le_refl _,U2 _,nofun,Below.refl _ _⟩
 | some ad=>
  by_cases h0:n=0
  .subst h0;have:l=[]:=Gb.1 u;subst this;refine(Tryz.slices_Clone_int_zero ad c W).mono ?_;rintro e w' ⟨d,rfl,f,a,k⟩;exact m d w' f k a
  .obtain ⟨x,y⟩:=h.get (i:=0) ao9;obtain⟨b,p,e,_⟩:=h.cell 0 x y;cases e;refine(Tryz.slices_Clone_int b p n c l W ao9 ao9 λj t=>?_).mono ?_
   .obtain ⟨b',ac,e,_,hc⟩:=h.cell j (l[j]'t) (by simp[t]);cases e;rw[hc];simp[List.getD,t]
   .rintro e w' ⟨d,rfl,f,a,k⟩;rw[Cr ao9]at f;exact m d w' f k a
def Ay9 (i:TypeInfo) (c:prog.info? 33=Z i) (e:i.zero=Z ay.zero.val) (d:i.size=13) (b:i.bytes=136) (n:Nat) (f:n<=1000) (w:WD) :
  (Instr.makeSlice 38 (G O (n:Int)) (G O (n:Int))).run prog w=.ok (J (Z ⟨w.heap.size,0,I⟩) n n) (w.alloc (V (madeCells ay.zero.cells (n*13)) 33 (0,0))):=by
 have a:=Se (P:=prog) w 38 33 i ay.zero.val underlying38 c e O O (n:Int) (n:Int) ao9 ao9 (by rw[b];omega) ao9;simp only[Ki,d]at a;exact a
def Aza (x:ay) (w:WD) (hx:x.ok w):CS prog 128 #[x.val] w (Aro x w):=by
 obtain⟨a1,ap,aA,r,s⟩:=B4 Ab4;have m:=Kn.new w x;have hk:=U3 x _ (m.ok hx);by_cases hs:Ct x.pl=true;rotate_left
 .have aO:Ct x.pl=false:=by simpa using hs
  have he:Mh x.pl=80:=Ac hs;rw[he]at hk;obtain⟨⟨ad,v,nodes,⟨da,db,dc,dd⟩,af,ac,array,ae,u,after⟩,so,n,cp⟩:=x;replace⟨hk,m,hx,hs,aO,he⟩:=H6 hk m hx hs aO he;go_enter func128,ntmps128;go_wp2_with fail;refine hk.mono ?_;rintro e w1 ⟨rfl,hb⟩;have d:=m.below hb;replace⟨d,hb⟩:=H2 d hb;go_wp2;go_ret;exact .inl ⟨aO.out,rfl,d.low⟩
 have he:Mh x.pl=0:=Ad hs;rw[he]at hk;obtain⟨_,_,_,q4,_,_,_,q8,_⟩:=Fy hs;have aP:=Sw q4;have aJ:=hx.after.len;obtain⟨b1,b2⟩:=C7.1 q8;obtain⟨N,hN⟩:∃N:Nat,x.pl.array=N:=⟨x.pl.array.toNat,ao9⟩;have hn:Q7 x.pl=N:=by unfold Q7;rw[Ad hs,hN];rfl
 rw[hN]at b1 b2;obtain⟨⟨ad,v,nodes,⟨da,db,dc,dd⟩,af,ac,array,ae,u,after⟩,so,n,cp⟩:=x;have aW:array=N:=hN;subst aW;clear hN;have a8:n<=8:=by have h1:after.length=n:=aJ;have h2:after.length<=8:=aP;omega
 obtain⟨X,hX⟩:∃X:ay,X=⟨⟨ad,v,nodes,⟨da,db,dc,dd⟩,af,ac,(N:Int),ae,u,after⟩,so,n,cp⟩:=⟨_,rfl⟩;have a7:=λW=>Ay9 a1 ap aA r s N ao9 W;have a4:N<=20:=ao9
 replace⟨hk,m,hx,hs,he,q4,aP,aJ⟩:=H8 hk m hx hs he q4 aP aJ;replace⟨q8,hn,hX,ap,aA,r,s⟩:=H7 q8 hn hX ap aA r s;go_enter func128,ntmps128;go_wp2_with fail;refine hk.mono ?_;rintro e w1 ⟨rfl,hb⟩;have d:=m.below hb;have y9:=Bk d.box 9 (G O (N:Int)) rfl;obtain⟨g,hg⟩:=Ex (w1.heap.size);have aG:S7 w X g N [] (w1.alloc (V (madeCells ay.zero.cells (N*13)) 33 (0,0))):=by rw[hX.out,hg];exact⟨⟨d.low.alloc d.low.size _,Ab d.box,⟨_,Ah _ _,Ay8 N⟩,(λj y h=>by simp at h),(λi j y z b o o' h=>by simp at h)⟩,Aj _ d.box⟩
 replace⟨d,hb,aG,hg⟩:=H4 d hb aG hg;go_wp2;rw[<-hg.out];clear y9;go_loopw [4,13] (λ_ iv wr=>∃(k:Nat) (xs:List ay),iv=G O k/\k<=N/\Hid (xs.length=k)/\Hid (S7 w X g N xs wr)) (λ_ iv _=>N-(intOf iv).toNat)
 case atStart=>exact⟨0,[],rfl,As _,rfl,aG.out⟩
 case round=>
  obtain⟨k,xs,rfl,a6,am,hE⟩:=hrel;by_cases t:k<N
  .have aY:(k:Int)<N:=ao9;have a5:(0:Int)<=(k:Int):=ao9;have hM:Hid (Kn w ⟨⟨ad,v,nodes,⟨da,db,dc,dd⟩,af,ac,(N:Int),ae,u,after⟩,so,n,cp⟩ wr):=(by have h:=hE.box;rw[hX.out]at h;exact⟨hE.low,h⟩);obtain⟨cc,f,a⟩:=hE.row;have c:=Nat.le_of_eq am.out;obtain⟨y0,y1,y2,y3,y4,y5,y6,y7,y8,y9,aT,aU,aE⟩:=C13 hM.box;(try dsimp only at y0 y1 y2 y3 y4 y5 y6 y7 y8 y9 aT aU aE);have z0:wr.cell? ⟨g,k*13,I⟩=Z (Y ByteArray.empty):=(Aa f (k*13)).trans (a.rest k c t 0 ao9);have z1:wr.cell? ⟨g,k*13+1,I⟩=Z (Y ByteArray.empty):=(Aa f (k*13+1)).trans (a.rest k c t 1 ao9);have z2:wr.cell? ⟨g,k*13+2,I⟩=Z (G O 0):=(Aa f (k*13+2)).trans (a.rest k c t 2 ao9);have z3:wr.cell? ⟨g,k*13+3,I⟩=Z (G O 0):=(Aa f (k*13+3)).trans (a.rest k c t 3 ao9);have z4:wr.cell? ⟨g,k*13+4,I⟩=Z (G O 0):=(Aa f (k*13+4)).trans (a.rest k c t 4 ao9);have z5:wr.cell? ⟨g,k*13+5,I⟩=Z (G O 0):=(Aa f (k*13+5)).trans (a.rest k c t 5 ao9);have z6:wr.cell? ⟨g,k*13+6,I⟩=Z (G O 0):=(Aa f (k*13+6)).trans (a.rest k c t 6 ao9);have z7:wr.cell? ⟨g,k*13+7,I⟩=Z (G O 0):=(Aa f (k*13+7)).trans (a.rest k c t 7 ao9);have z8:wr.cell? ⟨g,k*13+8,I⟩=Z (G O 0):=(Aa f (k*13+8)).trans (a.rest k c t 8 ao9);have z9:wr.cell? ⟨g,k*13+9,I⟩=Z (G O 0):=(Aa f (k*13+9)).trans (a.rest k c t 9 ao9);have a2:wr.cell? ⟨g,k*13+10,I⟩=Z (G O 0):=(Aa f (k*13+10)).trans (a.rest k c t 10 ao9);have a3:wr.cell? ⟨g,k*13+11,I⟩=Z (D false):=(Aa f (k*13+11)).trans (a.rest k c t 11 ao9);have aV:wr.cell? ⟨g,k*13+12,I⟩=Z (J I 0 0):=(Aa f (k*13+12)).trans (a.rest k c t 12 ao9);have fg:=Af f;have aZ:g≠w.heap.size:=(by have:=hE.xl;omega);obtain⟨W4,aH⟩:=Ex (((((((((((((((wr.setCell ⟨g,k*13,I⟩ (Y ad)).setCell ⟨g,k*13+1,I⟩ (Y v)).setCell ⟨g,k*13+2,I⟩ (G O nodes)).setCell ⟨g,k*13+3,I⟩ (G O da)).setCell ⟨g,k*13+4,I⟩ (G O db)).setCell ⟨g,k*13+5,I⟩ (G O dc)).setCell ⟨g,k*13+6,I⟩ (G O dd)).setCell ⟨g,k*13+7,I⟩ (G O af)).setCell ⟨g,k*13+8,I⟩ (G O ac)).setCell ⟨g,k*13+9,I⟩ (G O (N:Int))).setCell ⟨g,k*13+10,I⟩ (G O ae)).setCell ⟨g,k*13+11,I⟩ (D u)).setCell ⟨g,k*13+12,I⟩ (J so n cp)).setCell ⟨g,k*13+9,I⟩ (G O 1)));have l:W4=(setRow wr g (xs.length*13) X.cells.toList).setCell ⟨g,xs.length*13+9,I⟩ (G O 1):=(by rw[aH,hX.out,am.out];rfl);have ao:wr.grownBy W4 (Z g):=(by rw[l];exact U4 (Ab7 _ _ _ _) _);have q:=Ahf hE.low ao hE.low.size (Qn hE.xl);have aK:Ap W4 so n after:=(hx.low q).after;have aD:=Zp so n cp after W4 aK ao9;unfold Va at aD;have aQ:=(ao.block _ (Ab hM.box) (λe=>aZ (by injection e with e;exact e.symm))).trans hM.box;have al:∃c4,W4.heap[g]?=Z (V c4 33 (0,0))/\c4.size=N*13:=(by rw[l];exact⟨_,Am (Ab6 _ f) _ _,by simp[U9,a.size]⟩);obtain⟨c4,al,aR⟩:=al;obtain⟨aS,av⟩:∃aS,c4[k*13+12]?=Z aS:=⟨_,O6 ao9⟩;replace⟨hM,f,a,c,l,ao,q,aK⟩:=H8 hM f a c l ao q aK;replace⟨aD,aQ,al,aR,av⟩:=H5 aD aQ al aR av;go_upto_region 9 with fail;rw[<-aH];clear aH;clear y0 y1 y2 y3 y4 y5 y6 y7 y8 y9 aT aU aE z0 z1 z2 z3 z4 z5 z6 z7 z8 z9 a2 a3 aV;have aE:=Bk aQ.out 12 (J so n cp) rfl;go_wp2_with fail;refine aD.mono ?_;rintro e w5 ⟨aB,c',rfl,aM,aL,an,aC⟩;have h5:=Ae aC al.out (Ab al.out);have aV:=(Aa h5 _).trans av.out;have f5:=Af h5
   have aN:S7 w X g N (xs++[⟨X.single.pl,aB,n,c'⟩]) (w5.setCell ⟨g,k*13+12,I⟩ (J aB n c')):=by
    have aF:=aC;rw[l.out]at aF;have aI:X.n=n:=(by rw[hX.out]);have aX:X.pl.after=after:=by rw[hX.out]
    have h:=hE.next (by rw[am.out];exact t) aB c' (by rw[aI];exact aM) (by rw[aI,aX];exact aL) (λb o e=>by
     obtain⟨e1,e2,e3,e4⟩:=an b o e
     exact⟨e1,Ay ao.size e2,e3,e4⟩) aF
    rw[aI,am.out]at h;exact h
   have p:(xs++[(⟨X.single.pl,aB,n,c'⟩:ay)]).length=k+1:=(by rw[Az,am.out];rfl);clear aE;replace⟨aM,aL,an,aC,h5,aN,p⟩:=H7 aM aL an aC h5 aN p;go_wp2;go_roundw
   case rel=>exact⟨k+1,xs++[(⟨X.single.pl,aB,n,c'⟩:ay)],by go_num,ao9,p.out,aN.out⟩
   case measure=>simp[intOf];omega
  .have aY:¬(k:Int)<N:=ao9;have a0:k=N:=ao9;subst a0;go_wp2;go_ret;have h:=hE.toAhm;rw[hX.out]at h;refine .inr ⟨hs.out,g,xs,?_,?_,?_⟩
   .rw [hn.out];rfl
   .rw [am.out,hn.out]
   .rw [hn.out];exact h
def A18:∀ {k:Nat},y∈Jd k vs p->∃i:Nat,y=i/\k<=i/\i<k+vs.length:=by
 induction vs with
 | nil=>intro k h;simp[Jd]at h
 | cons v vs ih=>
  intro k h;rw[Jd]at h;rw[D7];split at h
  .rcases Ei.1 h with h|h
   .exact ⟨k,h,Nat.le_refl _,ao9⟩
   .obtain ⟨i,e,h1,a⟩:=ih h;exact⟨i,e,ao9,ao9⟩
  .obtain ⟨i,e,h1,a⟩:=ih h;exact⟨i,e,ao9,ao9⟩
def A19   {k:Nat}  (h:(C6 vs p)[k]?=Z y):∃i:Nat,y=i/\i<vs.length:=by
 obtain⟨i,e,_,a⟩:=A18 (Ai h);exact⟨i,e,ao9⟩
