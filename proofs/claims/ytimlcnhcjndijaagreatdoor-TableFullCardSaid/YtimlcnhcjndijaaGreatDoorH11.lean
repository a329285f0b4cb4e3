/- Parts of a proof. No condition. -/
import Derived.Test.YtimlcnhcjndijaaGreatDoorH05
import Derived.Test.YtimlcnhcjndijaaGreatDoorH10
set_option linter.all false
set_option maxRecDepth 100000
set_option maxHeartbeats 3200000
namespace Go.Proofs.YtimlcnhcjndijaaGreatDoor
open Option renaming some->O,none->I
open IntKind renaming i64->G
open Value renaming int->Z,bool->Y,tuple->D,pointer->K,slice->V,string->E
open Obj renaming cells->J
open Ending renaming returned->Q
open Go renaming World->WD,Value->VL,Calls->CS
open Go.RowKit renaming Below->BW
open Go.Proofs.Tryz
section
open Go.RowKit Go.Shelf
def A3t:(prog.info? 291).map (·.size)=O 2:=by kernel_rfl
def A3u:liesAt prog prog.depth 134 (2 / prog.cellsOf 291) 0 134 1=true:=by kernel_rfl
end
section
open Go.RowKit Go.Maps Go.Shelf
def Aap (a:List UInt8) (m:Nat):∀(xs:List (List UInt8)),(∀x,x∈xs->x.length<=m)->(a.intercalate xs).length<=xs.length*(m+a.length)
 | [],_=>by simp[List.intercalate]
 | [x],h=>by
  have:=h x as9;simp[List.intercalate];omega
 | x :: y :: r,h=>by
  have h1:=h x as9;have c:=Aap a m (y :: r) λz b=>h z (by simp at b ⊢;exact .inr b);have e:a.intercalate (x :: y :: r)=x++a++a.intercalate (y :: r):=by simp[List.intercalate]
  rw[e,Av,Av,D8,Kx];omega
def Aev {v:V4} (h:T9 v):vl v:=by
 obtain⟨h1,a,b,c,d,e,f,g⟩:=h;exact⟨⟨ao9,ao9⟩,⟨ao9,ao9⟩,⟨ao9,ao9⟩,⟨ao9,ao9⟩⟩
def Aew (s:ByteArray):au s.data.toList=s:=O1 (by rw[Fy])
def xu (d:Nat) (a b:Int) (w:WD):(Op.equalIn (d+1) 3 (Z G a) (Z G b)).run prog w=.ok (a == b) w:=by
 simp[Op.equalIn,My Kr]
def Aaq:prog.cellsOf 3=1:=by kernel_rfl
def An9 (f:Nat) (u v:V4) (w:WD):(Op.equalIn (f+2) 30 u.val v.val).run prog w=.ok (decide (u=v)) w:=by
 obtain⟨q,e,o,g,p⟩:=B6 Lx;show(Op.equalIn ((f+1)+1) 30 u.val v.val).run prog w=_;rw[run_equalIn_array w (f+1) _ _ underlying30 e,Aaq];show(Op.eqItems (f+1) 3 1 _ _ [0,1,2,3]).run prog w=_;obtain⟨a,b,c,d⟩:=u;obtain⟨h,i,j,k⟩:=v
 by_cases h1:a=h<;>by_cases l:b=i<;>by_cases m:c=j<;>by_cases n:d=k
 all_goals
  simp[Op.eqItems,xu,part,sizeOf,typeInfo,e,g,h1,l,m,n]
def Aez (u v:V4) (w:WD):(Op.equalIn 10000 30 u.val v.val).run prog w=.ok (decide (u=v)) w:=An9 9998 u v w
def Ae0 (vs:List ay) (i:Int) (w:WD) (e:Ending) (w':WD):Prop:=
 ∃(x:aw) (b:Bool),e=Q (D #[x.val,Y b])/\x.ok w'/\BW w.heap.size w w'/\(∀bb off,x.po=O ⟨bb,off,I⟩->w.heap.size<=bb/\∃c,w'.heap[bb]?=O (J c 9 (0,0))) /\
  ((b=true/\0<=i/\vs[i.toNat]?=O x.pl)\/(b=false/\x=aw.zero/\(i<0\/(vs.length:Int)<=i)))
def Ae1 {w:WD} {fb mb base:Nat} {vs:List ay} (h:lg w fb mb base vs) (aC:Kd vs) (i:Int):CS prog 44 #[K (O ⟨fb,0,I⟩),Z G i] w (Ae0 vs i w):=by
 obtain⟨W0,f⟩:=Ex (w.alloc (J aw.zero.cells 69 (0,0)));have m:BW w.heap.size w W0:=by rw[f];exact Bn
 have u:W0.heap[w.heap.size]?=O (J aw.zero.cells 69 (0,0)):=by rw[f];exact Ah _ _
 have y:W0.heap.size=w.heap.size+1:=by rw[f];simp
 have s:=h.below m;have t:=Aet s;obtain⟨n,hn⟩:=Ex (vs.length);rw[<-hn]at t;rw[f]at t;have aY:=aC.len;rw[<-hn]at aY;by_cases aN:i<0
 .have aV:=Bs aN;have l:i<0\/(vs.length:Int)<=i:=.inl aN;replace⟨m,u,y,s,t,hn,l⟩:=H7 m u y s t hn l;have ao:=Hh f;clear f;go_enter func44,ntmps44;go_wp2;refine An (v:=D #[aw.zero.val,Y false]) (by simp[results,results44,go_sem,aw.zero,V4.zero]<;>rfl) rfl ⟨aw.zero,false,rfl,⟨Aab _,Nat.le_refl _⟩,Bn,λb r e=>(by cases e),.inr ⟨rfl,rfl,l.out⟩⟩
 have aV:=Bz aN;by_cases aM:(n:Int)<=i
 .have aU:=Bs aM;have l:i<0\/(vs.length:Int)<=i:=.inr (by rw[<-hn];exact aM);replace⟨m,u,y,s,t,hn,l⟩:=H7 m u y s t hn l;have ao:=Hh f;clear f;go_enter func44,ntmps44;go_wp2_with fail;refine t.mono ?_;rintro e w1 ⟨rfl,rfl⟩;go_wp2;refine An (v:=D #[aw.zero.val,Y false]) (by simp[results,results44,go_sem,aw.zero,V4.zero]<;>rfl) rfl ⟨aw.zero,false,rfl,⟨Aab _,Nat.le_refl _⟩,Bn,λb r e=>(by cases e),.inr ⟨rfl,rfl,l.out⟩⟩
 have aU:=Bz aM;obtain⟨k,rfl⟩:∃k:Nat,i=k:=⟨i.toNat,ao9⟩;have a0:(k:Int)<n:=ao9
 have a2:(0:Int)<=(k:Int):=ao9
 have aZ:decide (n<=k)=false:=Bz ao9;obtain⟨nv,xs,h1,h2,h3⟩:=s.ex;have aO:n=xs.length:=by rw[hn,<-h2,As]
 obtain⟨x,hx⟩:=Ge xs k ao9;obtain⟨g,cap,rfl⟩:=Joins.ownsRow_form h1.row ao9;obtain⟨g',e1,_,_,a⟩:=h1.cell hx;have e2:g=g':=by simpa[Value.ownBlock]using e1
 subst e2;have aG:vs[k]?=O x.pl:=by rw[<-h2];exact Aan hx
 have aD:=(aC.all x.pl (Ai aG)).ok.one;have aB:=(aC.all x.pl (Ai aG)).gg;have an:=(h1.ok x (Ai hx)).1;obtain⟨nm,⟨ca,cb,cc,cd⟩,po,pn,pc,ps⟩:=x;have aI:ps.length=pn:=an.parts.len;have af:1<=ps.length:=aD;have ac:ps.length<=8:=aB;obtain⟨y0,aQ⟩:=an.parts.get (i:=0) (by show 0<pn;omega);obtain⟨b,r,e,a1,_⟩:=an.parts.cell 0 y0 aQ;have e':po=O ⟨b,r,I⟩:=e;subst e';have z0:W0.cell? ⟨g,k*6,I⟩=O (E nm):=a 0 ao9;have z1:W0.cell? ⟨g,k*6+1,I⟩=O (Z G ca):=a 1 ao9;have z2:W0.cell? ⟨g,k*6+2,I⟩=O (Z G cb):=a 2 ao9;have z3:W0.cell? ⟨g,k*6+3,I⟩=O (Z G cc):=a 3 ao9;have z4:W0.cell? ⟨g,k*6+4,I⟩=O (Z G cd):=a 4 ao9;have z5:W0.cell? ⟨g,k*6+5,I⟩=O (V (O ⟨b,r,I⟩) pn pc):=a 5 ao9;have f0:W0.cell? ⟨fb,0,I⟩=O (V (O ⟨g,0,I⟩) n cap):=by rw[aO];exact Aa h1.head 0
 obtain⟨W1,ap⟩:=Ex (W0.alloc (J (⟨nm,⟨ca,cb,cc,cd⟩,O ⟨b,r,I⟩,pn,pc,ps⟩:aw).cells 69 (0,0)));have al:BW W0.heap.size W0 W1:=by rw[ap];exact Bn
 have aE:W1.heap[w.heap.size+1]?=O (J (⟨nm,⟨ca,cb,cc,cd⟩,O ⟨b,r,I⟩,pn,pc,ps⟩:aw).cells 69 (0,0)):=by rw[ap];exact A2 _ _ y.symm
 have aH:=an.low al
 have aA:=Tryz.slices_Clone_string b r pn pc ps W1 ao9 ao9 λj hj=>by
  obtain⟨b',aK,e,_,hc⟩:=aH.parts.cell j (ps[j]'hj) (by simp[hj]);cases e;rw[hc];simp[List.getD,hj]
 rw[Dd ao9]at aA;have p5:=Bk aE 5 (V (O ⟨b,r,I⟩) pn pc) rfl;replace⟨m,u,y,s,hn,aO,hx,h1⟩:=H8 m u y s hn aO hx h1;replace⟨h2,h3,aG,aD,aB,an,aI,af⟩:=H8 h2 h3 aG aD aB an aI af;replace⟨ac,aQ,al,aE,aH,aA,a,e1⟩:=H8 ac aQ al aE aH aA a e1;replace⟨aC,h,p5⟩:=H3 aC h p5;rw[ap,f]at aA p5;rw[f]at z0 z1 z2 z3 z4 z5 f0;have ao:=Hh f;have aJ:=Hh ap;clear f ap;go_enter func44,ntmps44;go_wp2_with fail;refine t.mono ?_;rintro e w1 ⟨rfl,rfl⟩;go_wp2_with fail;refine aA.mono ?_;rintro e w3 ⟨v',rfl,d,o,am⟩;rw[<-ao.out,<-aJ.out]at d am;have aT:0<pn:=by have:=af.out;have:=aI.out;omega
 obtain⟨z,c,rfl⟩:=Joins.ownsRow_form d aT;have aX:=P2 d z rfl;have aR:W1.heap.size=w.heap.size+2:=by rw[aJ.out,Kt,y.out]
 have aP:=Amn d (by have:=ac.out;have:=aI.out;omega);have av:=Amm d;have aL:=Ad4 d;have q:=Ae am (Ae al.out u.out (Ac u.out)) ao9;have p:=Ae am aE.out (Ac aE.out);have ad:=m.trans ((al.trans (am.mono al.size)).mono m.size);have c0:=Bk p 0 (E nm) rfl;have c1:=Bk p 1 (Z G ca) rfl;have c2:=Bk p 2 (Z G cb) rfl;have c3:=Bk p 3 (Z G cc) rfl;have c4:=Bk p 4 (Z G cd) rfl;have c5:=Bk p 5 (V (O ⟨b,r,I⟩) pn pc) rfl;have fq:=Ag p;have b0:=Bk q 0 (E ByteArray.empty) rfl;have b1:=Bk q 1 (Z G 0) rfl;have b2:=Bk q 2 (Z G 0) rfl;have b3:=Bk q 3 (Z G 0) rfl;have b4:=Bk q 4 (Z G 0) rfl;have b5:=Bk q 5 (V I 0 0) rfl;have fr:=Ag q
 have he:∀v v0 v1 v2 v3 v4 v5,BW w.heap.size w (((((((w3.setCell ⟨w.heap.size+1,5,I⟩ v).setCell ⟨w.heap.size,0,I⟩ v0).setCell ⟨w.heap.size,1,I⟩ v1).setCell ⟨w.heap.size,2,I⟩ v2).setCell ⟨w.heap.size,3,I⟩ v3).setCell ⟨w.heap.size,4,I⟩ v4).setCell ⟨w.heap.size,5,I⟩ v5):=λv v0 v1 v2 v3 v4 v5=>
  ((((((ad.setCell (D9 _) _).setCell Ln _).setCell Ln _).setCell Ln _).setCell Ln _).setCell Ln _).setCell Ln _
 have ak:∀v v0 v1 v2 v3 v4 v5,(((((((w3.setCell ⟨w.heap.size+1,5,I⟩ v).setCell ⟨w.heap.size,0,I⟩ v0).setCell ⟨w.heap.size,1,I⟩ v1).setCell ⟨w.heap.size,2,I⟩ v2).setCell ⟨w.heap.size,3,I⟩ v3).setCell ⟨w.heap.size,4,I⟩ v4).setCell ⟨w.heap.size,5,I⟩ v5).heap[z]?=w3.heap[z]?:=λv v0 v1 v2 v3 v4 v5=>by
  have o:z≠w.heap.size:=ao9
  have aS:z≠w.heap.size+1:=ao9
  rw[If o,If o,If o,If o,If o,If o,If aS]
 have aF:∀v v0 v1 v2 v3 v4 v5,(((((((w3.setCell ⟨w.heap.size+1,5,I⟩ v).setCell ⟨w.heap.size,0,I⟩ v0).setCell ⟨w.heap.size,1,I⟩ v1).setCell ⟨w.heap.size,2,I⟩ v2).setCell ⟨w.heap.size,3,I⟩ v3).setCell ⟨w.heap.size,4,I⟩ v4).setCell ⟨w.heap.size,5,I⟩ v5).heap.size=w3.heap.size:=λv v0 v1 v2 v3 v4 v5=>by simp[World.setCell]
 clear z0 z1 z2 z3 z4 z5 f0;replace⟨d,o,am,aP,av,q,p,ad⟩:=H8 d o am aP av q p ad;replace⟨he,ak,aF,aR⟩:=H4 he ak aF aR;go_wp2;refine An (v:=D #[(⟨nm,⟨ca,cb,cc,cd⟩,O ⟨z,0,I⟩,pn,c,ps⟩:aw).val,Y true]) (by simp[results,results44,go_sem,b0,b1,b2,b3,b4,b5]) rfl ?_;have hX:=ak (V (O ⟨z,0,I⟩) pn c) (E nm) (Z G ca) (Z G cb) (Z G cc) (Z G cd) (V (O ⟨z,0,I⟩) pn c);have hY:=aF (V (O ⟨z,0,I⟩) pn c) (E nm) (Z G ca) (Z G cb) (Z G cc) (Z G cd) (V (O ⟨z,0,I⟩) pn c);have hZ:=he (V (O ⟨z,0,I⟩) pn c) (E nm) (Z G ca) (Z G cb) (Z G cc) (Z G cd) (V (O ⟨z,0,I⟩) pn c);generalize ((((((w3.setCell ⟨w.heap.size+1,5,I⟩ (V (O ⟨z,0,I⟩) pn c)).setCell ⟨w.heap.size,0,I⟩ (E nm)).setCell ⟨w.heap.size,1,I⟩ (Z G ca)).setCell ⟨w.heap.size,2,I⟩ (Z G cb)).setCell ⟨w.heap.size,3,I⟩ (Z G cc)).setCell ⟨w.heap.size,4,I⟩ (Z G cd)).setCell ⟨w.heap.size,5,I⟩ (V (O ⟨z,0,I⟩) pn c)=X at hX hY hZ ⊢;obtain⟨c9,aW⟩:=av.out;refine⟨⟨nm,⟨ca,cb,cc,cd⟩,O ⟨z,0,I⟩,pn,c,ps⟩,true,rfl,⟨Xd aP.out (Nat.le_of_eq hY.symm) λb' aK e' _=>by cases e';exact hX,aL⟩,hZ,λb' aK e'=>?_,.inl ⟨rfl,ao9,?_⟩⟩
 .have e2:z=b':=by injection e' with e';injection e' with e'
  subst e2;exact⟨by have:=aR.out;have:=aX.1;omega,c9,hX.trans aW⟩
 .show vs[k]?=_;rw[aG.out];rfl
end
section
open Go.RowKit Go.Maps Go.Lib
def Oa (c:UInt8):Prop:=48<=c.toNat/\c.toNat<=57
def Xl:∀(u:Nat),∀c,c∈Lib.decDigits u->Oa c:=by
 intro u
 induction u using Nat.strongRecOn with
 | _ u ih=>
  intro c a
  have b:∀d,d<10->Oa (UInt8.ofNat (48+d)):=λd e=>by
   unfold Oa;rw[V0];omega
  rw[Lib.decDigits]at a;split at a
  .next h=>
   have:c=UInt8.ofNat (48+u):=by simpa using a
   subst this;exact b u h
  .next h=>
   rcases C7.1 a with a|a
   .exact ih (u / 10) ao9 c a
   .have:c=UInt8.ofNat (48+u % 10):=by simpa using a
    subst this;exact b (u % 10) ao9
def Aar (u:Nat):Lib.decDigits u≠[]:=by
 rw[Lib.decDigits]
 split<;>simp
def Aoa {a b:List UInt8} {k:Nat} (h:k<a.length):ft (au (a++b)) k=ft (au a) k:=by
 unfold ft;rw[Fy,Fy,List.getD,List.getD,Es h]
def Ae2 (a:List UInt8) (x:UInt8):ft (au (a++[x])) a.length=(x.toNat:Int):=by
 unfold ft;rw[Fy,List.getD,Gb Ln];simp
def Ae3 {a b:List UInt8}:∀ {k:Nat},k<=a.length->Fx (au (a++b)) k=Fx (au a) k
 | 0,_=>rfl
 | k+1,h=>by
  simp only[Fx];rw[Ae3 ao9,Aoa ao9]
def Ae4 {l:List UInt8} (h:∀c,c∈l->Oa c):∀ {k:Nat},k<=l.length->Id (au l) k=true
 | 0,_=>rfl
 | k+1,hk=>by
  simp only[Id,D7];refine⟨Ae4 h ao9,?_⟩;rw[Wz];have a:l.getD k 0∈l:=by rw[List.getD,Az ao9];exact Kv _
  have:=h _ a;unfold ft;rw[Fy];unfold Oa at this;omega
def Aob:∀(u:Nat),Fx (au (Lib.decDigits u)) (Lib.decDigits u).length=(u:Int):=by
 intro u
 induction u using Nat.strongRecOn with
 | _ u ih=>
  by_cases h:u<10
  .rw [Lib.decDigits,M7 h];have:=Ae2 [] (UInt8.ofNat (48+u));simp only[Oz,Ib]at this;simp only[D8,Ib,Fx,this,V0];omega
  .rw [Lib.decDigits,dif_neg h,Av];simp only[D8,Ib];show 10*Fx _ (Lib.decDigits (u / 10)).length+(ft _ (Lib.decDigits (u / 10)).length-48)=_;rw[Ae3 Ln,ih (u / 10) ao9,Ae2,V0];omega
def Aoc:∀(u:Nat),0<u->(Lib.decDigits u).getD 0 0≠48:=by
 intro u
 induction u using Nat.strongRecOn with
 | _ u ih=>
  intro b e;by_cases h:u<10
  .rw [Lib.decDigits,M7 h]at e;have:=Ca UInt8.toNat e;simp[V0]at this;omega
  .rw [Lib.decDigits,dif_neg h]at e;refine ih (u / 10) ao9 ao9 ?_;have a:=Zp.2 (Aar (u / 10));rw[List.getD,Es a]at e;exact e
def R3 {n:Int} (h:0<=n):Lib.itoa n=Lib.decDigits n.toNat:=Ab ao9
def Aod {n:Int} (h:0<=n):∀c,c∈Lib.itoa n->Oa c:=by rw[R3 h];exact Xl _
end
section
open Go.RowKit Go.Maps Go.Shelf
variable{l:List Int}{k:Nat}
structure dn where
 user:ByteArray
 part:ByteArray
 nodes:Int
 df:V4
 wall:Int
 prio:Int
 array:Int
 ae:Int
 held:Bool
 after:List Int
deriving DecidableEq
def dn.zero:dn:=⟨ByteArray.empty,ByteArray.empty,0,V4.zero,0,0,0,0,false,[]⟩
def K4 (l:List Int) (x:Int):Bool:=l.any λy=>decide (y=x)
def mu (n:Int):Bool:=decide (n≠0) && decide (-8<=n) && decide (n<=1099511627776)
def K5 (l:List Int):Nat->Bool
 | 0=>true
 | k+1=>K5 l k && (mu (l.getD k 0) && !K4 (l.take k) (l.getD k 0))
def E1 (l:List Int):Bool:=decide (l.length<=8) && K5 l l.length
def Dy (n lo hi:Int):Bool:=decide (lo<=n) && decide (n<=hi)
def Qc (v:V4):Bool:=v.right && decide (v≠V4.zero)
def Cb (s:dn):Bool:=C1 s.user && C1 s.part && Qc s.df && E1 s.after && Dy s.nodes 1 16 && Dy s.wall 1 1000 && Dy s.prio 0 100 && Dy s.array 1 20 && Dy s.ae 0 5
def Ae5  {k n:Nat} (h:K5 l n=true) (a:k<=n):K5 l k=true:=by
 induction n with
 | zero=>
  have:k=0:=ao9
  subst this;rfl
 | succ n ih=>
  by_cases c:k=n+1
  .subst c;exact h
  .simp only[K5,D7]at h;exact ih h.1 ao9
def Aoe   (a:k<l.length) (h:(mu (l.getD k 0) && !K4 (l.take k) (l.getD k 0))=false):K5 l l.length=false:=by
 rw[Jl];intro c;have:=Ae5 c (show k+1<=l.length by omega);simp[K5]at this;simp at h;exact absurd (h this.2.1) (by simp[this.2.2])
def Aof  {x:Int}:K4 l x=true↔x∈l:=by
 unfold K4;rw[Ku];constructor
 .rintro ⟨y,a,e⟩;rw[<-G9 e];exact a
 .intro h;exact⟨x,h,as9⟩
def R4:ByteArray:={ data:=#[117,115,101,114] }
def R5:ByteArray:={ data:=#[112,97,114,116] }
def R6:ByteArray:={ data:=#[110,111,100,101,115] }
def R7:ByteArray:={ data:=#[100,101,109,97,110,100] }
def R8:ByteArray:={ data:=#[119,97,108,108] }
def Qd:ByteArray:={ data:=#[112,114,105,111] }
def Qe:ByteArray:={ data:=#[97,114,114,97,121] }
def Qf:ByteArray:={ data:=#[114,101,116,114,105,101,115] }
def Qg:ByteArray:={ data:=#[104,101,108,100] }
def O5:ByteArray:={ data:=#[97,102,116,101,114] }
def kv (k:ByteArray) (v:List UInt8):List UInt8:=k.data.toList++61 :: v
def Jo (l:List Int):List UInt8:=Lib.join (l.map Lib.itoa) [44]
def Na (s:dn):List (ByteArray×List UInt8):=
 [(R4,s.user.data.toList),(R5,s.part.data.toList),(R6,Lib.itoa s.nodes),(R7,I1 s.df),(R8,Lib.itoa s.wall)] ++
 (if s.prio=0 then[]else[(Qd,Lib.itoa s.prio)])++(if s.array=1 then[]else[(Qe,Lib.itoa s.array)]) ++
 (if s.ae=0 then[]else[(Qf,Lib.itoa s.ae)])++(if s.held=true then[(Qg,[49])]else[]) ++
 (if s.after=[]then[]else[(O5,Jo s.after)])
def Aog (s:dn):List (List UInt8):=(Na s).map λp=>kv p.1 p.2
def I6 (s:dn):List UInt8:=if Cb s=true then Lib.join (Aog s) [32]else[]
def Aas (p:List UInt8):Option Int:=
 if p.head?=O 45 then(if Dp (au p.tail) 13<0 then I else O (-(Dp (au p.tail) 13)))
 else if Dp (au p) 13<0 then I else O (Dp (au p) 13)
def Xm:List (List UInt8)->Option (List Int)
 | []=>O []
 | p :: ps=>match Aas p with
  | none=>I
  | some n=>match Xm ps with
   | none=>I
   | some l=>O (n :: l)
def Aat (v:ByteArray):Option (List Int):=match Xm (A9 44 v.data.toList)with
 | none=>I
 | some l=>if E1 l=true then O l else I
end
section
open Go.RowKit Go.Maps Go.Lib
structure Jb where
 id:Int
 sp:dn
 lf:Lf
 start:Int
 aj:List Int
 parts:List (Int×Int)
structure Cl where
 seq:Int
 e:Int
 first:Int
 last:Int
structure Ej where
 up:Bool
 bq:Bool
 since:Int
structure dv where
 ai:Int
 tick:Int
 cls:List (Int×Cl)
 nodes:List Ej
 ab:List Jb
def Jb.waits (j:Jb):Bool:=ei j.lf.st
def Jb.live (j:Jb):Bool:=di j.lf.st
def Jb.move (j:Jb) (s:Int):Jb:=⟨j.id,j.sp,(Ay j.lf s).1,j.start,j.aj,j.parts⟩
def Jb.bare (j:Jb):Jb:=⟨j.id,j.sp,j.lf,-1,[],j.parts⟩
def Ly (js:List Jb) (id:Int):Int:=((js[(id-1).toNat]?).map λj=>j.lf.st).getD 0
def O6 (js:List Jb) (j:Jb):Bool:=j.sp.after.any λid=>jz (Ly js id) && decide (Ly js id≠5)
def F1 (js:List Jb) (k:Nat):Bool:=match js[k]? with
 | none=>false
 | some j=>j.waits && O6 js j
def Gi (js:List Jb) (k:Nat):List Jb:=if F1 js k=true then js.modify k (λj=>(j.move 7).bare)else js
def Ck (js:List Jb):Nat->List Jb×Bool
 | 0=>(js,false)
 | n+1=>(Gi (Ck js n).1 n,(Ck js n).2 || F1 (Ck js n).1 n)
def Cc (js:List Jb):List Jb×Bool:=Ck js js.length
def Lz:Nat->List Jb->List Jb
 | 0,js=>js
 | n+1,js=>if (Cc js).2=true then Lz n (Cc js).1 else(Cc js).1
def Co (js:List Jb):List Jb:=Lz (js.length+1) js
def Jb.open_ (j:Jb):Bool:=j.parts.any λp=>decide (p.2=0)
def Dz (j:Jb):Jb:=
 if j.parts=[]\/j.open_=true then j
 else if (j.move 8).lf.st=1 then⟨j.id,j.sp,(j.move 8).lf,-1,[],[]⟩else⟨j.id,j.sp,(j.move 8).lf,j.start,j.aj,[]⟩
def I7 (js:List Jb):List Jb:=Co (js.map Dz)
def Qh (br:Int) (l:Lf):Lf:=if br=2 then(Ay l 4).1 else if br=3 then(Ay l 5).1 else l
def Fe (j:Jb) (k:Nat) (br:Int):Jb:=⟨j.id,j.sp,Qh br j.lf,j.start,j.aj,j.parts.modify k λp=>(p.1,br)⟩
def O7 (j:Jb) (k:Nat) (at_:Int):Jb:=match j.parts[k]? with
 | none=>j
 | some p=>if p.2=0/\(at_<0\/p.1=at_)then Fe j k 3 else j
def I8 (j:Jb) (at_:Int):Nat->Jb
 | 0=>j
 | n+1=>O7 (I8 j at_ n) n at_
def Ff (j:Jb) (at_:Int):Jb:=I8 j at_ j.parts.length
def K6 (j:Jb):Int:=j.start+8+j.sp.wall
def Gj (j:Jb) (attempt node:Int):Option Nat:=
 if j.live=true/\j.lf.bp=attempt then j.parts.findIdx? λp=>decide (p.1=node) && decide (p.2=0)else I
def Xn (i:Int) (j:Jb) (v:V4):V4:=
 (j.parts.filter λp=>decide (p.1=i) && decide (p.2=0)).foldl (λv _=>⟨v.a+j.sp.df.a,v.b+j.sp.df.b,v.c+j.sp.df.c,v.d+j.sp.df.d⟩) v
def Ub (js:List Jb) (i:Int):V4:=js.foldl (λv j=>Xn i j v) ⟨0,0,0,0⟩
def Jp (js:List Jb) (j:Jb):Bool:=decide (j.lf.st=1) && j.sp.after.all λid=>decide (Ly js id=5)
end
section
open Go.RowKit Go.Maps Go.Shelf
variable{p:ByteArray×List UInt8}{n:Int}{l:List Int}{w w' wr:WD}{s:dn}
def Ae6 {x:UInt8}:∀ {ws:List (List UInt8)},ws≠[]->(∀w,w∈ws->x∉w)->A9 x (Lib.join ws [x])=ws
 | [w],_,h=>by
  show A9 x (List.intercalate [x] [w])=_;rw[show List.intercalate [x] [w]=w by simp[List.intercalate]];exact Rx (h w as9)
 | w :: v :: r,_,h=>by
  have e:List.intercalate [x] (w :: v :: r)=w++x :: List.intercalate [x] (v :: r):=by simp[List.intercalate]
  show A9 x (List.intercalate [x] (w :: v :: r))=_;rw[e,Ry (h w as9)];have:=Ae6 (x:=x) (ws:=v :: r) as9 λu a=>h u (by simp at a ⊢;exact .inr a);exact Ca (w :: ·) this
def Ae7 {u:Nat} (d:u<=1099511627776):Dp (au (Lib.decDigits u)) 13=(u:Int):=by
 have a:(10:Nat) ^ (12+1)=10000000000000:=ad9
 have b:(Lib.decDigits u).length<=13:=Z8 12 u (by rw[a];omega);have c:=Zp.2 (Aar u);unfold Dp;rw[Gg,Ab,Ad (Ae4 (Xl u) Ln),Aob];rintro(h|h|⟨h,e⟩)
 .omega
 .omega
 .have h0:0<u:=by
   rcases Nat.eq_zero_or_pos u with rfl|h0
   .rw [Lib.decDigits,M7 ao9]at h;simp at h
   .exact h0
  refine Aoc u h0 ?_;unfold ft at e;rw[Fy]at e;exact UInt8.toNat_inj.1 (by have:(48:UInt8).toNat=48:=rfl;omega)
def Ae8  (h0:0<=n) (h1:n<=1099511627776):Dp (au (Lib.itoa n)) 13=n:=by
 rw[R3 h0,Ae7 ao9];omega
def Aau  (h:n<0):Lib.itoa n=45 :: Lib.decDigits (-n).toNat:=by
 unfold Lib.itoa;rw[Ad h,show n.natAbs=(-n).toNat by omega]
def C8 {n b a:Int}:Dy n b a=true↔b<=n/\n<=a:=by simp[Dy]
def Aoh  (h:mu n=true):Aas (Lib.itoa n)=O n:=by
 simp only[mu,D7,Iu]at h;obtain⟨⟨h1,b⟩,a⟩:=h;unfold Aas;by_cases c:n<0
 .rw [Aau c,Ad (show(45 :: Lib.decDigits (-n).toNat).head?=O 45 from rfl),List.tail_cons,Ae7 ao9,Ab ao9];congr 1;omega
 .rw [Ae8 ao9 a,Ab,Ab c];rw[R3 ao9];intro e;have:(45:UInt8)∈Lib.decDigits n.toNat:=List.mem_of_mem_head? e;have:=Xl _ _ this;unfold Oa at this;exact absurd this ad9
def Ae9:∀ {l:List Int},(∀n,n∈l->mu n=true)->Xm (l.map Lib.itoa)=O l
 | [],_=>rfl
 | n :: l,h=>by
  rw[Ic,Xm,Aoh (h n as9),Ae9 λm a=>h m (by simp[a])]
def Aav  (h:E1 l=true):∀n,n∈l->mu n=true:=λn c=>by
 simp only[E1,D7]at h;obtain⟨k,b,e⟩:=Pw.1 c;have:=Ae5 h.2 (show k+1<=l.length by omega);simp only[K5,D7]at this;have a:=this.2.1;rw[List.getD,Az b,Option.getD_some,e]at a;exact a
def R9  (h:E1 l=true):l.length<=8:=by
 simp only[E1,D7,Iu]at h;exact h.1
def Aaw  (h:mu n=true):n≠0/\-8<=n/\n<=1099511627776:=by
 simp only[mu,D7,Iu]at h;exact⟨h.1.1,h.1.2,h.2⟩
def Aoi (n:Int):∀c,c∈Lib.itoa n->c=45\/Oa c:=by
 intro c a;by_cases h:n<0
 .rw [Aau h]at a;rcases Eh.1 a with h|h
  .exact .inl h
  .exact .inr (Xl _ _ h)
 .exact .inr (Aod ao9 c a)
def Aoj  {x:UInt8} (h:(x.toNat<48\/57<x.toNat)/\x≠45):x∉Lib.itoa n:=λa=>by
 rcases Aoi n x a with e|e
 .exact h.2 e
 .unfold Oa at e;omega
def Aok  (h:E1 l=true) (a:l≠[]):Aat (au (Jo l))=O l:=by
 unfold Aat Jo
 rw[Fy,Ae6 (by simpa using a) (λw b=>by
  obtain⟨n,_,rfl⟩:=A7.1 b
  exact Aoj ad9),Ae9 (Aav h)]
 show(if E1 l=true then O l else I)=_;exact Ad h
def Fg  (h:Cb s=true):C1 s.user=true/\C1 s.part=true/\Qc s.df=true/\E1 s.after=true/\Dy s.nodes 1 16=true/\Dy s.wall 1 1000=true/\Dy s.prio 0 100=true/\Dy s.array 1 20=true/\Dy s.ae 0 5=true:=by
 simp only[Cb,D7]at h;obtain⟨⟨⟨⟨⟨⟨⟨⟨a,b⟩,c⟩,d⟩,e⟩,f⟩,g⟩,i⟩,j⟩:=h;exact⟨a,b,c,d,e,f,g,i,j⟩
def Xo {v:V4}:Qc v=true↔v.right=true/\v≠V4.zero:=by simp[Qc]
def Aol   (h:p∈Na s) :
  p=(R4,s.user.data.toList)\/p=(R5,s.part.data.toList)\/p=(R6,Lib.itoa s.nodes)\/p=(R7,I1 s.df)\/p=(R8,Lib.itoa s.wall)\/p=(Qd,Lib.itoa s.prio)\/p=(Qe,Lib.itoa s.array)\/p=(Qf,Lib.itoa s.ae)\/(s.held=true/\p=(Qg,[49]))\/(s.after≠[]/\p=(O5,Jo s.after)):=by
 simp only[Na,C7,Eh,Ro,Ru]at h;rcases h with((((h|h)|h)|h)|h)|h
 .rcases h with h|h|h|h|h<;>simp[h]
 .split at h
  .simp at h
  .simp at h;simp[h]
 .split at h
  .simp at h
  .simp at h;simp[h]
 .split at h
  .simp at h
  .simp at h;simp[h]
 .split at h
  .next c=>simp at h;simp[h,c]
  .simp at h
 .split at h
  .simp at h
  .next c=>simp at h;simp[h,c]
def L0  (h0:-1099511627776<=n) (h1:n<=1099511627776):(Lib.itoa n).length<=20:=Rz ao9 ao9
def Aom (k:ByteArray) (v:List UInt8):(kv k v).length=k.size+1+v.length:=by
 unfold kv;rw[Av,D8,M8];omega
def Aax  (h:E1 l=true):(Jo l).length<=168:=by
 have h1:=Aap [44] 20 (l.map Lib.itoa) λx c=>by
  obtain⟨n,b,rfl⟩:=A7.1 c;have:=Aaw (Aav h n b);exact L0 ao9 ao9
 rw[As]at h1;have a:=R9 h;have:l.length*(20+[(44:UInt8)].length)<=8*21:=Nat.mul_le_mul a Ln;exact Aw h1 this
def Aon  (a:Cb s=true)  (h:p∈Na s):(kv p.1 p.2).length<=180:=by
 obtain⟨b,c,e,f,g,i,j,k,l⟩:=Fg a;have d:=Xo.1 e;have a1:=T7 b;have a2:=T7 c;have a3:=Ad9 (Aev (Ua d.1));have m:=Aax f;have o:=C8.1 g;have q:=C8.1 i;have r:=C8.1 j;have t:=C8.1 k;have u:=C8.1 l;have v:=L0 (n:=s.nodes) ao9 ao9;have x:=L0 (n:=s.wall) ao9 ao9;have y:=L0 (n:=s.prio) ao9 ao9;have z:=L0 (n:=s.array) ao9 ao9;have c9:=L0 (n:=s.ae) ao9 ao9;rw[Aom];rcases Aol h with rfl|rfl|rfl|rfl|rfl|rfl|rfl|rfl|⟨_,rfl⟩|⟨_,rfl⟩
 .show 4+1+s.user.data.toList.length<=180;rw[M8];omega
 .show 4+1+s.part.data.toList.length<=180;rw[M8];omega
 .show 5+1+(Lib.itoa s.nodes).length<=180;omega
 .show 6+1+(I1 s.df).length<=180;omega
 .show 4+1+(Lib.itoa s.wall).length<=180;omega
 .show 4+1+(Lib.itoa s.prio).length<=180;omega
 .show 5+1+(Lib.itoa s.array).length<=180;omega
 .show 7+1+(Lib.itoa s.ae).length<=180;omega
 .show 4+1+1<=180;omega
 .show 5+1+(Jo s.after).length<=180;omega
def Afa (s:dn):(Na s).length<=10:=by
 unfold Na;simp only[Av,D8,Ib]
 split<;>split<;>split<;>split<;>split<;>simp
def vw (L:List (ByteArray×List UInt8)):List (List UInt8):=L.map λp=>kv p.1 p.2
def Aoo  (c:Cb s=true) {L:List (ByteArray×List UInt8)} (h:∀p,p∈L->p∈Na s) (a:L.length<=10):(Lib.join (vw L) [32]).length<=1810:=by
 have h1:=Aap [32] 180 (vw L) λx d=>by
  obtain⟨p,b,rfl⟩:=A7.1 d;exact Aon c (h p b)
 unfold vw at h1;rw[As]at h1;have:L.length*(180+[(32:UInt8)].length)<=10*181:=Nat.mul_le_mul a Ln;exact Aw h1 this
def Afb  (a:Cb s=true):I6 s=Lib.join (vw (Na s)) [32]:=Ad a
def Uc (n h g:Int) (w:WD):CS prog 151 #[Z G n,Z G h,Z G g] w λe w'=>e=Q (Y (Dy n h g))/\w'=w:=by
 by_cases a:h<=n
 .have d:=Bs a;by_cases b:n<=g
  .have i:=Bs b;have f:=C8.2 ⟨a,b⟩;replace⟨a,b,f⟩:=H3 a b f;go_enter func151,ntmps151;go_wp2;go_ret;exact⟨by rw[f.out];rfl,rfl⟩
  .have i:=Bz b
   have f:Dy n h g=false:=by rw[Jl];exact λc=>b (C8.1 c).2
   replace⟨a,b,f⟩:=H3 a b f;go_enter func151,ntmps151;go_wp2;go_ret;exact⟨by rw[f.out];rfl,rfl⟩
 .have d:=Bz a
  have f:Dy n h g=false:=by rw[Jl];exact λc=>a (C8.1 c).1
  replace⟨a,f⟩:=H2 a f;go_enter func151,ntmps151;go_wp2;go_ret;exact⟨by rw[f.out];rfl,rfl⟩
def Aop (w:WD) (b a n c:Nat) (xs:List Int) (x:Int) (h:Ao w (O ⟨b,a,I⟩) n xs) (k:Nat) (l:k<=n):CS prog 166 #[V (O ⟨b,a,I⟩) k c,Z G x] w λe w'=>e=Q (Y (K4 (xs.take k) x))/\w'=w:=by
 have m:=h.len;have o:=h.max;refine(Tryz.slices_Contains_int b a k c xs x w ao9 ao9 λj d=>?_).mono ?_
 .obtain ⟨i,f,e,_,g⟩:=h.cell j (xs[j]'d) (by simp[d]);cases e;rw[g];simp[List.getD,d]
 .rintro e w' ⟨rfl,rfl⟩
  have:(xs.take k).contains x=K4 (xs.take k) x:=by rw[P4,Aof,List.contains_iff_mem]
  rw[this];exact⟨rfl,rfl⟩
def Aoq  (h:8<l.length):E1 l=false:=by
 unfold E1;rw[show decide (l.length<=8)=false from Bz ao9];rfl
def Xp  {k:Nat} (a:k<l.length) (h:(mu (l.getD k 0) && !K4 (l.take k) (l.getD k 0))=false):E1 l=false:=by
 unfold E1;rw[Aoe a h,Bool.and_false]
def Aor  (a:l.length<=8) (h:K5 l l.length=true):E1 l=true:=by
 unfold E1;rw[h,show decide (l.length<=8)=true from Bs a];rfl
def Aay {x:Int} (h:x=0\/x < -8\/1099511627776<x):mu x=false:=by
 rw[Jl];intro c;have:=Aaw c;omega
def Aos {x:Int} (h0:x≠0) (h1:-8<=x) (a:x<=1099511627776):mu x=true:=by
 simp only[mu,D7,Iu];exact⟨⟨h0,h1⟩,a⟩
def Aot (so:Option Addr) (n c:Nat) (xs:List Int) (w:WD) (h:Ao w so n xs) (an:n<=c):CS prog 153 #[V so n c] w λe w'=>e=Q (Y (E1 xs))/\w'=w:=by
 obtain⟨i3,q,t,l,o⟩:=B6 Lx;have a:=h.len;have al:=h.max;by_cases h8:8<n
 .have d:decide ((8:Int)<n)=true:=Bs ao9;have j:=Aoq (by rw[a];exact h8);replace⟨h,a,j,h8,q,t,l,o⟩:=H8 h a j h8 q t l o;go_enter func153,ntmps153;go_wp2;go_ret;exact⟨by rw[j.out];rfl,rfl⟩
 have d:decide ((8:Int)<n)=false:=Bz ao9;replace⟨h,a,q,t,l,o⟩:=H6 h a q t l o;go_enter func153,ntmps153;go_wp2;clear d;go_loopw [3,4,10] (λ_ _ i wr=>∃k:Nat,i=Z G k/\k<=n/\Hid (K5 xs k=true)/\wr=w) (λ_ _ i _=>n-(intOf i).toNat)
 case atStart=>exact⟨0,rfl,Ar _,rfl,rfl⟩
 case round=>
  obtain⟨k,rfl,hk,v,rfl⟩:=hrel;by_cases hc:k<n
  .have ad:(k:Int)<n:=ao9;have am:(0:Int)<=(k:Int):=ao9;obtain⟨y,r⟩:=h.get hc;obtain⟨b,ac,rfl,hb,a0⟩:=h.cell k y r;have g:xs.getD k 0=y:=(by rw[List.getD,r];rfl);by_cases p:y=0
   .have d:(y == 0)=true:=(by simp[p]);have f:(mu (xs.getD k 0) && !K4 (xs.take k) (xs.getD k 0))=false:=(by rw[g,Aay (.inl p)];rfl);replace⟨r,g,f,p⟩:=H4 r g f p;have j:=Xp (k:=k) (by rw[a.out];exact hc) f.out;replace j:=Hh j;go_wp2;go_ret;exact⟨by rw[j.out];rfl,rfl⟩
   have d:(y == 0)=false:=(by simp[p]);by_cases u:y < -8
   .have d1:=Bs u;have f:(mu (xs.getD k 0) && !K4 (xs.take k) (xs.getD k 0))=false:=(by rw[g,Aay (.inr (.inl u))];rfl);replace⟨r,g,f,p,u⟩:=H5 r g f p u;have j:=Xp (k:=k) (by rw[a.out];exact hc) f.out;replace j:=Hh j;go_wp2;go_ret;exact⟨by rw[j.out];rfl,rfl⟩
   have d1:=Bz u;by_cases q2:1099511627776<y
   .have d2:=Bs q2;have f:(mu (xs.getD k 0) && !K4 (xs.take k) (xs.getD k 0))=false:=(by rw[g,Aay (.inr (.inr q2))];rfl);replace⟨r,g,f,p,u,q2⟩:=H6 r g f p u q2;have j:=Xp (k:=k) (by rw[a.out];exact hc) f.out;replace j:=Hh j;go_wp2;go_ret;exact⟨by rw[j.out];rfl,rfl⟩
   have d2:=Bz q2;have ao:=λw=>Xe Nx q.out ⟨b,ac,I⟩ n c k k rfl ao9 w;have s:=Aop wr b ac n c xs y h.out k ao9;obtain⟨m,hm⟩:=Ex (K4 (xs.take k) y);rw[<-hm]at s;have x:=Aos p ao9 ao9;replace⟨r,g,p,u,q2,s,hm,x⟩:=H8 r g p u q2 s hm x;go_wp2_with fail;refine s.mono ?_;rintro e w2 ⟨rfl,rfl⟩
   cases m with
   | true=>
    have f:(mu (xs.getD k 0) && !K4 (xs.take k) (xs.getD k 0))=false:=(by rw[g.out,<-hm.out];simp);replace f:=Hh f;have j:=Xp (k:=k) (by rw[a.out];exact hc) f.out;replace j:=Hh j;go_wp2;go_ret;exact⟨by rw[j.out];rfl,rfl⟩
   | false=>
    have z:K5 xs (k+1)=true:=(by simp only[K5,g.out,<-hm.out,x.out,v.out];rfl);replace z:=Hh z;go_wp2;go_roundw
    case rel=>exact⟨k+1,by go_num,ao9,z.out,trivial⟩
    case measure=>simp[intOf];omega
  .have ad:¬(k:Int)<n:=ao9;have af:k=n:=ao9;subst af;have j:=Aor (by rw[a.out];omega) (by rw[a.out];exact v.out);replace j:=Hh j;go_wp2;go_ret;exact⟨by rw[j.out];rfl,rfl⟩
structure ax where
 pl:dn
 so:Option Addr
 n:Nat
 c:Nat
abbrev ax.cells (x:ax):Array VL:=#[E x.pl.user,E x.pl.part,Z G x.pl.nodes,Z G x.pl.df.a,Z G x.pl.df.b,Z G x.pl.df.c,Z G x.pl.df.d,Z G x.pl.wall,Z G x.pl.prio,Z G x.pl.array,Z G x.pl.ae,Y x.pl.held,V x.so x.n x.c]
abbrev ax.val (x:ax):VL:=.agg #[E x.pl.user,E x.pl.part,Z G x.pl.nodes,Z G x.pl.df.a,Z G x.pl.df.b,Z G x.pl.df.c,Z G x.pl.df.d,Z G x.pl.wall,Z G x.pl.prio,Z G x.pl.array,Z G x.pl.ae,Y x.pl.held,V x.so x.n x.c]
structure ax.ok (w:WD) (x:ax):Prop where
 after:Ao w x.so x.n x.pl.after
 nu:x.n<=x.c
 user:x.pl.user.size<=maxLen
 part:x.pl.part.size<=maxLen
def ax.ok.low  {x:ax} (h:x.ok w) (a:BW w.heap.size w w'):x.ok w':=⟨h.after.low a,h.nu,h.user,h.part⟩
def ax.zero:ax:=⟨dn.zero,I,0,0⟩
def Qi (w:WD):Ao w I 0 []:=⟨rfl,ao9,λi x h=>by simp at h⟩
def L1 (s:dn):Int:=if Cb s=true then 0 else 80
structure Ke (w:WD) (x:ax) (wr:WD):Prop where
 low:BW w.heap.size w wr
 box:wr.heap[w.heap.size]?=O (J x.cells 33 (0,0))
def Ke.below  {x:ax} (h:Ke w x wr) (a:BW wr.heap.size wr w'):Ke w x w':=
 ⟨h.low.trans (a.mono h.low.size),Ae a h.box (Ac h.box)⟩
def Ke.new (w:WD) (x:ax):Ke w x (w.alloc (J x.cells 33 (0,0))):=⟨Bn,Ah _ _⟩
def Ke.ok  {x:ax} (h:Ke w x wr) (a:x.ok w):x.ok wr:=a.low h.low
def Ud (x:ax) (w:WD) (hx:x.ok w):CS prog 97 #[x.val] w λe w'=>e=Q (Z G (L1 x.pl))/\BW w.heap.size w w':=by
 have g:=Ke.new w x;obtain⟨⟨b,a,nodes,⟨i,j,k,l⟩,d,c,array,s,f,after⟩,so,n,t⟩:=x;obtain⟨b1,ad⟩:=Ex (C1 b);obtain⟨b2,af⟩:=Ex (C1 a);obtain⟨b4,al⟩:=Ex (E1 after);obtain⟨b5,am⟩:=Ex (Dy nodes 1 16);obtain⟨b6,an⟩:=Ex (Dy d 1 1000);obtain⟨b7,ao⟩:=Ex (Dy c 0 100);obtain⟨b8,ap⟩:=Ex (Dy array 1 20);obtain⟨b9,av⟩:=Ex (Dy s 0 5);have ac:=Iz ⟨i,j,k,l⟩;obtain⟨r,hr⟩:=Ex (V4.right ⟨i,j,k,l⟩);rw[<-hr]at ac;have hE:=Aez ⟨i,j,k,l⟩ ⟨0,0,0,0⟩;obtain⟨q,hq⟩:=Ex (decide ((⟨i,j,k,l⟩:V4)=⟨0,0,0,0⟩));rw[<-hq]at hE;have hd:Qc ⟨i,j,k,l⟩=(r && !q):=by unfold Qc;rw[hr,hq,<-decide_not];rfl
 have v:L1 ⟨b,a,nodes,⟨i,j,k,l⟩,d,c,array,s,f,after⟩=if (b1 && b2 && (r && !q) && b4 && b5 && b6 && b7 && b8 && b9)=true then 0 else 80:=by rw[ad,af,<-hd,al,am,an,ao,ap,av];rfl
 have k1:∀W,CS prog 78 #[E b] W λe w'=>e=Q (Y b1)/\BW W.heap.size W w':=λW=>by rw[ad];exact Wy b W hx.user
 have k2:∀W,CS prog 78 #[E a] W λe w'=>e=Q (Y b2)/\BW W.heap.size W w':=λW=>by rw[af];exact Wy a W hx.part
 have k4:∀W,Ke w ⟨⟨b,a,nodes,⟨i,j,k,l⟩,d,c,array,s,f,after⟩,so,n,t⟩ W->CS prog 153 #[V so n t] W λe w'=>e=Q (Y b4)/\w'=W:=λW hW=>by rw[al];exact Aot so n t after W (hW.ok hx).after hx.nu
 have k5:∀W,CS prog 151 #[Z G nodes,Z G 1,Z G 16] W λe w'=>e=Q (Y b5)/\w'=W:=λW=>by rw[am];exact Uc _ _ _ W
 have k6:∀W,CS prog 151 #[Z G d,Z G 1,Z G 1000] W λe w'=>e=Q (Y b6)/\w'=W:=λW=>by rw[an];exact Uc _ _ _ W
 have k7:∀W,CS prog 151 #[Z G c,Z G 0,Z G 100] W λe w'=>e=Q (Y b7)/\w'=W:=λW=>by rw[ao];exact Uc _ _ _ W
 have k8:∀W,CS prog 151 #[Z G array,Z G 1,Z G 20] W λe w'=>e=Q (Y b8)/\w'=W:=λW=>by rw[ap];exact Uc _ _ _ W
 have k9:∀W,CS prog 151 #[Z G s,Z G 0,Z G 5] W λe w'=>e=Q (Y b9)/\w'=W:=λW=>by rw[av];exact Uc _ _ _ W
 clear ad af hr hq hd al am an ao ap av;have c0:(w.alloc (J (⟨⟨b,a,nodes,⟨i,j,k,l⟩,d,c,array,s,f,after⟩,so,n,t⟩:ax).cells 33 (0,0))).cell? ⟨w.heap.size,0,I⟩=O (E b):=Aa g.box 0;have c1:(w.alloc (J (⟨⟨b,a,nodes,⟨i,j,k,l⟩,d,c,array,s,f,after⟩,so,n,t⟩:ax).cells 33 (0,0))).cell? ⟨w.heap.size,1,I⟩=O (E a):=Aa g.box 1;have c2:(w.alloc (J (⟨⟨b,a,nodes,⟨i,j,k,l⟩,d,c,array,s,f,after⟩,so,n,t⟩:ax).cells 33 (0,0))).cell? ⟨w.heap.size,2,I⟩=O (Z G nodes):=Aa g.box 2;have c3:(w.alloc (J (⟨⟨b,a,nodes,⟨i,j,k,l⟩,d,c,array,s,f,after⟩,so,n,t⟩:ax).cells 33 (0,0))).cell? ⟨w.heap.size,3,I⟩=O (Z G i):=Aa g.box 3;have c4:(w.alloc (J (⟨⟨b,a,nodes,⟨i,j,k,l⟩,d,c,array,s,f,after⟩,so,n,t⟩:ax).cells 33 (0,0))).cell? ⟨w.heap.size,4,I⟩=O (Z G j):=Aa g.box 4;have c5:(w.alloc (J (⟨⟨b,a,nodes,⟨i,j,k,l⟩,d,c,array,s,f,after⟩,so,n,t⟩:ax).cells 33 (0,0))).cell? ⟨w.heap.size,5,I⟩=O (Z G k):=Aa g.box 5;have c6:(w.alloc (J (⟨⟨b,a,nodes,⟨i,j,k,l⟩,d,c,array,s,f,after⟩,so,n,t⟩:ax).cells 33 (0,0))).cell? ⟨w.heap.size,6,I⟩=O (Z G l):=Aa g.box 6;have c7:(w.alloc (J (⟨⟨b,a,nodes,⟨i,j,k,l⟩,d,c,array,s,f,after⟩,so,n,t⟩:ax).cells 33 (0,0))).cell? ⟨w.heap.size,7,I⟩=O (Z G d):=Aa g.box 7;have c8:(w.alloc (J (⟨⟨b,a,nodes,⟨i,j,k,l⟩,d,c,array,s,f,after⟩,so,n,t⟩:ax).cells 33 (0,0))).cell? ⟨w.heap.size,8,I⟩=O (Z G c):=Aa g.box 8;have c9:(w.alloc (J (⟨⟨b,a,nodes,⟨i,j,k,l⟩,d,c,array,s,f,after⟩,so,n,t⟩:ax).cells 33 (0,0))).cell? ⟨w.heap.size,9,I⟩=O (Z G array):=Aa g.box 9;have m:(w.alloc (J (⟨⟨b,a,nodes,⟨i,j,k,l⟩,d,c,array,s,f,after⟩,so,n,t⟩:ax).cells 33 (0,0))).cell? ⟨w.heap.size,10,I⟩=O (Z G s):=Aa g.box 10;have o:(w.alloc (J (⟨⟨b,a,nodes,⟨i,j,k,l⟩,d,c,array,s,f,after⟩,so,n,t⟩:ax).cells 33 (0,0))).cell? ⟨w.heap.size,11,I⟩=O (Y f):=Aa g.box 11;have p:(w.alloc (J (⟨⟨b,a,nodes,⟨i,j,k,l⟩,d,c,array,s,f,after⟩,so,n,t⟩:ax).cells 33 (0,0))).cell? ⟨w.heap.size,12,I⟩=O (V so n t):=Aa g.box 12;replace⟨v,k1,k2,ac,k4,k5,k6,k7⟩:=H8 v k1 k2 ac k4 k5 k6 k7;replace⟨k8,k9,hx,g⟩:=H4 k8 k9 hx g;have aA:=Hh hE;clear hE;go_enter func97,ntmps97;go_wp2_with fail;refine(k1 _).mono ?_;rintro e w1 ⟨rfl,u⟩;have y:=(g).out.below u;clear c0 c1 c2 c3 c4 c5 c6 c7 c8 c9 m o p;obtain⟨c0,c1,c2,c3,c4,c5,c6,c7,c8,c9,m,o,p⟩:=C13 (y).box;(try dsimp only at c0 c1 c2 c3 c4 c5 c6 c7 c8 c9 m o p);replace⟨y,u⟩:=H2 y u;clear u
 cases b1 with
 | false=>
  go_wp2;go_ret;exact⟨by rw[v.out];rfl,(y).out.low⟩
 | true=>
 go_wp2_with fail;refine(k2 _).mono ?_;rintro e w2 ⟨rfl,u⟩;have z:=(y).out.below u;clear c0 c1 c2 c3 c4 c5 c6 c7 c8 c9 m o p;obtain⟨c0,c1,c2,c3,c4,c5,c6,c7,c8,c9,m,o,p⟩:=C13 (z).box;(try dsimp only at c0 c1 c2 c3 c4 c5 c6 c7 c8 c9 m o p);replace⟨z,u⟩:=H2 z u;clear u
 cases b2 with
 | false=>
  go_wp2;go_ret;exact⟨by rw[v.out];rfl,(z).out.low⟩
 | true=>
 go_wp2_with fail;refine(ac _).mono ?_;rintro e w3 ⟨rfl,u⟩;have h:=(z).out.below u;clear c0 c1 c2 c3 c4 c5 c6 c7 c8 c9 m o p;obtain⟨c0,c1,c2,c3,c4,c5,c6,c7,c8,c9,m,o,p⟩:=C13 (h).box;(try dsimp only at c0 c1 c2 c3 c4 c5 c6 c7 c8 c9 m o p);replace⟨h,u⟩:=H2 h u;clear u
 cases r with
 | false=>
  go_wp2;go_ret;exact⟨by rw[v.out];rfl,(h).out.low⟩
 | true=>
 have hE:=aA.out
 cases q with
 | true=>
  go_wp2;go_ret;exact⟨by rw[v.out];rfl,(h).out.low⟩
 | false=>
 go_wp2_with fail;refine(k4 _ h.out).mono ?_;rintro e w4 ⟨rfl,rfl⟩;clear hE
 cases b4 with
 | false=>
  go_wp2;go_ret;exact⟨by rw[v.out];rfl,(h).out.low⟩
 | true=>
 go_wp2_with fail;refine(k5 _).mono ?_;rintro e w5 ⟨rfl,rfl⟩
 cases b5 with
 | false=>
  go_wp2;go_ret;exact⟨by rw[v.out];rfl,(h).out.low⟩
 | true=>
 go_wp2_with fail;refine(k6 _).mono ?_;rintro e w6 ⟨rfl,rfl⟩
 cases b6 with
 | false=>
  go_wp2;go_ret;exact⟨by rw[v.out];rfl,(h).out.low⟩
 | true=>
 go_wp2_with fail;refine(k7 _).mono ?_;rintro e w7 ⟨rfl,rfl⟩
 cases b7 with
 | false=>
  go_wp2;go_ret;exact⟨by rw[v.out];rfl,(h).out.low⟩
 | true=>
 go_wp2_with fail;refine(k8 _).mono ?_;rintro e w8 ⟨rfl,rfl⟩
 cases b8 with
 | false=>
  go_wp2;go_ret;exact⟨by rw[v.out];rfl,(h).out.low⟩
 | true=>
 go_wp2_with fail;refine(k9 _).mono ?_;rintro e w9 ⟨rfl,rfl⟩
 cases b9 with
 | false=>
  go_wp2;go_ret;exact⟨by rw[v.out];rfl,(h).out.low⟩
 | true=>
  go_wp2;go_ret;exact⟨by rw[v.out];rfl,(h).out.low⟩
end
section
open Go.RowKit Go.Maps Go.Shelf Go.Sort
variable{u:ByteArray}{l:List Int}{vs:List ay}{B N g:Nat}{so:Option Addr}{W w w':WD}
def Sc (n:Int) (h0:-9223372036854775808<=n) (h1:n<=9223372036854775807) (w:WD) (a:Tb w):CS prog 146 #[Z G n] w λe w'=>e=Q (E (au (Lib.itoa n)))/\BW w.heap.size w w':=
 (Tryz.strconv_Itoa n h0 h1 w a.here).mono λe w' ⟨he,k,os,hw⟩=>⟨he,by subst hw;exact Lib.below_grow _ _ Ln k os⟩
def Afh (xs:List (List UInt8)):(xs.map au).map (·.data.toList)=xs:=by
 rw[De];rw[show((λ(x:ByteArray)=>x.data.toList) ∘ au)=id from by funext x;exact Fy x,List.map_id]
def Afi   {v:VL} {xs:List ByteArray} (h:Qb w B v xs) (a:ByteArray) (l:xs.length<=4096) (b:(Lib.join (xs.map (·.data.toList)) a.data.toList).length<=140737488355328) :
  CS prog 149 #[v,E a] w λe w'=>e=Q (E (au (Lib.join (xs.map (·.data.toList)) a.data.toList)))/\BW w.heap.size w w':=by
 rcases h.row.2 with⟨c,h0⟩|⟨g,cap,i,c,m,k,p,o,q⟩
 .have:xs=[]:=Fv.1 h0;subst this;subst c;refine(Tryz.strings_Join_none I 0 a w).mono ?_;rintro e w' ⟨rfl,rfl⟩;exact⟨rfl,Below.refl _ _⟩
 .have d:=h.row;rw[c]at d;rw[c]
  exact Tryz.strings_Join g 0 cap xs a w (λj x f=>by
   have n:=(Ap.1 f).1
   rw[Dm,Fw d j ao9,Qa,Bm,f];rfl) (Ac k) ao9 (by have:=Ad4 d;omega) b
def Afj   {v:VL} {xs:List ByteArray} (h:Qb w B v xs) (d:BW w.heap.size w w'):Qb w' B v xs:=by
 refine⟨h.row.1,?_⟩;rcases h.row.2 with⟨b,h0⟩|⟨g,cap,a,b,e,c,f⟩
 .exact .inl ⟨b,h0⟩
 .exact .inr ⟨g,cap,a,b,e,Ae d c (Ac c),f⟩
def Ao7 (so:Option Addr) (n c:Nat) (xs:List Int) (w:WD) (h:Ao w so n xs) (u:E1 xs=true) (ht:Tb w):CS prog 148 #[V so n c] w λe w'=>e=Q (E (au (Jo xs)))/\BW w.heap.size w w':=by
 obtain⟨i9,am,aA,v,x⟩:=B6 Xa;have l:=h.len;have h8:=R9 u;rw[l]at h8;have ao:=Aax u;have r:=Aav u;replace⟨h,l,u,am,aA,v,x,ao⟩:=H8 h l u am aA v x ao;replace⟨r,ht⟩:=H2 r ht;go_enter func148,ntmps148;go_wp2;go_loopw [3,5,8] (λov _ i wr=>∃k:Nat,i=Z G k/\k<=n/\Hid (Qb wr w.heap.size ov (((xs.take k).map Lib.itoa).map au))/\Hid (BW w.heap.size w wr)) (λ_ _ i _=>n-(intOf i).toNat)
 case atStart=>exact⟨0,rfl,Ar _,Aes _ _,Below.refl _ _⟩
 case round=>
  obtain⟨k,rfl,hk,hO,hB⟩:=hrel;by_cases hc:k<n
  .have aD:(k:Int)<n:=ao9;have aF:(0:Int)<=(k:Int):=ao9;have hh:=h.low hB.out;obtain⟨y,hy⟩:=hh.get hc;obtain⟨b,aG,rfl,hb,a0⟩:=hh.cell k y hy;have aC:=Aaw (r y (Ai hy));have z:=λW=>Sc y ao9 ao9 W;obtain⟨A,hA⟩:=Ex (au (Lib.itoa y));rw[<-hA]at z;have av:=ht.low hB.out;have ap:((xs.take (k+1)).map Lib.itoa).map au=((xs.take k).map Lib.itoa).map au++[A]:=(by rw[Mt,hy];simp[hA]);replace⟨hh,hy,aC,z,hA,av,ap⟩:=H7 hh hy aC z hA av ap;go_wp2_with fail;refine(z _ av.out).mono ?_;rintro e w2 ⟨rfl,g⟩;have d:=Afj hO.out g;have a:=hB.trans (g.mono hB.size);obtain⟨L,hL⟩:=Ex ((((xs.take k).map Lib.itoa).map au).length);have aE:L<=8:=(by rw[hL];simp;omega);have p:(w2.alloc (J #[E A] 9 (0,0))).ownsRow w.heap.size 9 1 u3 L (Qa (((xs.take k).map Lib.itoa).map au)):=(by rw[hL];exact d.row.alloc (J #[E A] 9 (0,0)));have o:=Ad5 w2 A;have t:=Ad6 A;have ac:=Gh (n:=L) ao9;have al:(L+1)*16<=140737488355328:=ao9;have q:w.heap.size<=(w2.alloc (J #[E A] 9 (0,0))).heap.size:=(by have:=a.size;simp;omega);clear a0;replace⟨g,d,a,hL,p,o,t,ac⟩:=H8 g d a hL p o t ac;replace⟨al,q⟩:=H2 al q;go_wp2_with (at_builtin;refine J6 _ rfl _ _ 67 rfl (w.heap.size) 9 i9 _ 1 16 Vm am.out aA.out v.out x.out rfl Nat.one_pos _ L _ rfl p.out ⟨w2.heap.size,0,I⟩ 1 1 [E A] rfl rfl o.out t.out ac.out al.out q.out ?_;intro v1 w9 f m _;obtain⟨g9,aB,rfl⟩:=Joins.ownsRow_form f (Iw _);replace⟨f,m⟩:=H2 f m);have af:Qb w9 w.heap.size (V (O ⟨g9,0,I⟩) (L+1) aB) (((xs.take (k+1)).map Lib.itoa).map au):=(by rw[ap.out];refine⟨?_⟩;rw[Av,<-hL.out];simpa[Qa]using f.out);have ad:=(a.alloc a.size _).grown m.out q.out (λj e=>(d.row.lt j e).1);replace⟨af,ad⟩:=H2 af ad;go_wp2;go_roundw
   case rel=>exact⟨k+1,by go_num,ao9,af.out,ad.out⟩
   case measure=>simp[intOf];omega
  .have aD:¬(k:Int)<n:=ao9;have an:xs.take k=xs:=Dd (by rw[l.out];omega);have d:=hO.out;rw[an]at d;have s:=ao.out;unfold Jo at s;have hj:=Afi d { data:=#[44] } (by rw[As,As,l.out];omega) (by rw[Afh];show(Lib.join (xs.map Lib.itoa) [44]).length<=_;omega);rw[Afh]at hj;replace⟨an,d,s,hj⟩:=H4 an d s hj;go_wp2_with fail;refine hj.mono ?_;rintro e w2 ⟨rfl,g⟩;replace g:=Hh g;go_wp2;go_ret;exact⟨rfl,hB.trans (g.mono hB.size)⟩
structure K9 (vb:Nat) (xs:List ByteArray) (W:WD):Prop where
 ex:∃sv,W.heap[vb]?=O (J #[sv] 67 (0,0))/\Qb W (vb+1) sv xs
def K9.low {c:Nat} {xs:List ByteArray} {W a:WD} (h:K9 c xs W) (b:BW W.heap.size W a):K9 c xs a:=by
 obtain⟨e,h1,d⟩:=h.ex;exact⟨e,Ae b h1 (Ac h1),Afj d b⟩
def K9.lt {a:Nat} {xs:List ByteArray}  (h:K9 a xs W):a<W.heap.size:=by
 obtain⟨b,h1,_⟩:=h.ex;exact Ac h1
def ll (k v:ByteArray):ByteArray:=k++({ data:=#[61] }:ByteArray)++v
def Afk (k:ByteArray) (v:List UInt8):ll k (au v)=au (kv k v):=by
 unfold ll kv;rw[show({ data:=#[61] }:ByteArray)=au [61]from rfl]
 conv=>lhs;rw[<-Aew k]
 rw[Ad7,Ad7];simp
def Ao8 (a:Nat) (k v:ByteArray) (W:WD):CS prog 145 #[E k,E v,E v,K (O ⟨a,0,I⟩)] W λe w'=>e=Q (.tuple #[])/\w'=W:=by
 go_enter func145,ntmps145;go_wp2;go_end0;exact⟨rfl,rfl⟩
def Ao9 (l:Nat) (xs:List ByteArray) (k v u:ByteArray) (W:WD) (h:K9 l xs W) (hl:xs.length<=100) (hu:v≠u) (hk:k.size<=100) (s:v.size<=4096):CS prog 145 #[E k,E v,E u,K (O ⟨l,0,I⟩)] W λe w'=>e=Q (.tuple #[])/\K9 l (xs++[ll k v]) w'/\BW l W w':=by
 obtain⟨i9,af,al,q,r⟩:=B6 Xa;have d2:=Aex hu;have t:=h.lt;obtain⟨sv,h1,h2⟩:=h.ex;obtain⟨L,hL⟩:=Ex (xs.length);have c0:=Aa h1 0;simp at c0;obtain⟨A,hA⟩:=Ex (ll k v);have av:k++({ data:=#[61] }:ByteArray)++v=A:=hA.symm;have q1:¬9223372036854775807<k.size+1:=ao9
 have q2:¬9223372036854775807<k.size+1+v.size:=ao9
 have i:(W.alloc (J #[E A] 9 (0,0))).ownsRow (l+1) 9 1 sv L (Qa xs):=by rw[hL];exact h2.row.alloc (J #[E A] 9 (0,0))
 have f:=Ad5 W A;have p:=Ad6 A;have y:=Gh (n:=L) ao9;have ad:(L+1)*16<=140737488355328:=ao9
 have m:l+1<=(W.alloc (J #[E A] 9 (0,0))).heap.size:=by simp;omega
 have d:∀w9:WD,(W.alloc (J #[E A] 9 (0,0))).grownBy w9 sv.ownBlock->w9.heap[l]?=O (J #[sv] 67 (0,0)):=λw9 hg=>by
  refine(hg.block l (by rw[Kt];omega) (λe=>?_)).trans (Ak (J #[E A] 9 (0,0)) h1);have:=(h2.row.lt l e.symm).1;omega
 have ao:sv=V I 0 0\/∃g n c,sv=V (O ⟨g,0,I⟩) n c:=by
  rcases h2.row.2 with⟨s,_⟩|⟨g,cap,am,s,_⟩
  .exact .inl s
  .exact .inr ⟨g,_,cap,s⟩
 replace⟨h,h1,h2,hL,hA,i,f,p⟩:=H8 h h1 h2 hL hA i f p;replace⟨y,ad,m,d,af,al,q,r⟩:=H8 y ad m d af al q r;replace⟨hu,hk,s,t⟩:=H4 hu hk s t;rcases ao with rfl|⟨g,n,c,rfl⟩
 all_goals
  go_enter func145,ntmps145;go_wp2_with (at_builtin;refine J6 _ rfl _ _ 67 rfl (l+1) 9 i9 _ 1 16 Vm af.out al.out q.out r.out rfl Nat.one_pos _ L _ rfl i.out ⟨W.heap.size,0,I⟩ 1 1 [E A] rfl rfl f.out p.out y.out ad.out m.out ?_;intro v1 w9 a b _;have o:=d w9 b;have z9:=Aa o 0;have aA:=Ag o 0;simp at z9;obtain⟨g9,x,rfl⟩:=Joins.ownsRow_form a (Iw _);replace⟨a,b,o⟩:=H3 a b o);have ac:=((Below.refl l W).alloc (by have:=t.out;omega) _).grown b.out (by have:=t.out;simp;omega) (λj e=>by have:=(h2.row.lt j e).1;omega)
  have z:K9 l (xs++[ll k v]) (w9.setCell ⟨l,0,I⟩ (V (O ⟨g9,0,I⟩) (L+1) x)):=by
   refine⟨_,Am o.out 0 _,⟨?_⟩⟩;have hg:=(P2 a.out g9 rfl).1;have h:=a.out;rw[Av,<-hL.out,<-hA.out];refine⟨by simp[Qa,hL.out],.inr ?_⟩;rcases h.2 with⟨s,_⟩|⟨g',ap,am,s,an,hh,hr⟩
   .cases s
   .cases s;refine⟨g9,x,am,rfl,an,Dg ao9 _ hh,?_⟩;simpa[Qa]using hr
  replace⟨ac,z⟩:=H2 ac z;go_wp2;go_end0;exact⟨rfl,z.out,ac.setCell Ln _⟩
def Cd (k v u:ByteArray) (xs:List ByteArray):List ByteArray:=if v=u then xs else xs++[ll k v]
def L2 (a:Nat) (xs:List ByteArray) (k v u:ByteArray) (W:WD) (h:K9 a xs W) (d:xs.length<=100) (b:k.size<=100) (f:v.size<=4096):CS prog 145 #[E k,E v,E u,K (O ⟨a,0,I⟩)] W λe w'=>e=Q (.tuple #[])/\K9 a (Cd k v u xs) w'/\BW a W w':=by
 unfold Cd;by_cases c:v=u
 .rw [Ad c];subst c;refine(Ao8 a k v W).mono ?_;rintro e w' ⟨rfl,rfl⟩;exact⟨rfl,h,Below.refl _ _⟩
 .rw [Ab c];exact Ao9 a xs k v u W h d c b f
def Apa {k v u:ByteArray} {xs:List ByteArray} {n:Nat} (h:xs.length<=n):(Cd k v u xs).length<=n+1:=by
 unfold Cd;split
 .omega
 .simp;omega
def Nc {k v u:ByteArray} {xs:List ByteArray} (h:v≠u):Cd k v u xs=xs++[ll k v]:=Ab h
def Aaz {n m:Int} (h0:0<=n) (h1:n<=1099511627776)  (a:Dp u 13=m) (h:au (Lib.itoa n)=u):n=m:=by
 rw[<-Ae8 h0 h1,h,a]
def Afl {n:Int}:au (Lib.itoa n)≠{ data:=#[] }:=λh=>by
 have:Lib.itoa n=[]:=Adw (h.trans (show({ data:=#[] }:ByteArray)=au []from rfl));by_cases c:n<0
 .rw [Aau c]at this;cases this
 .rw [R3 ao9]at this;exact Aar _ this
def Afm:au (Lib.itoa 0)={ data:=#[48] }:=by
 rw[R3 ad9,Lib.decDigits,M7 ad9];rfl
def Apb:au (Lib.itoa 1)={ data:=#[49] }:=by
 rw[R3 ad9,Lib.decDigits,M7 ad9];rfl
def Apc  (h:E1 l=true) (a:l≠[]):au (Jo l)≠{ data:=#[] }:=λe=>by
 have h1:=Aok h a;rw[e]at h1;have b:Aat { data:=#[] }=I:=ad9
 rw[b]at h1;cases h1
def Apd (v:V4):au (I1 v)≠{ data:=#[] }:=λh=>by
 have:I1 v=[]:=Adw (h.trans (show({ data:=#[] }:ByteArray)=au []from rfl));unfold I1 at this;simp at this
def Afn {s:ByteArray} (h:C1 s=true):s≠{ data:=#[] }:=λe=>by
 subst e;exact absurd h ad9
def Qj (s:dn):List ByteArray:=
 Cd O5 (au (Jo s.after)) { data:=#[] } ((if s.held=true then Cd Qg { data:=#[49] } { data:=#[] } else id) (Cd Qf (au (Lib.itoa s.ae)) { data:=#[48] } (Cd Qe (au (Lib.itoa s.array)) { data:=#[49] } (Cd Qd (au (Lib.itoa s.prio)) { data:=#[48] }
  (Cd R8 (au (Lib.itoa s.wall)) { data:=#[] } (Cd R7 (au (I1 s.df)) { data:=#[] } (Cd R6 (au (Lib.itoa s.nodes)) { data:=#[] } (Cd R5 s.part { data:=#[] } (Cd R4 s.user { data:=#[] } [])))))))))
def Afo {s:dn} (l:Cb s=true):Qj s=(Na s).map λp=>au (kv p.1 p.2):=by
 obtain⟨m,n,v,o,x,y,q,r,t⟩:=Fg l;have b:=C8.1 q;have u:=C8.1 r;have d:=C8.1 t;unfold Qj;rw[Nc (Afn m),Nc (Afn n),Nc Afl,Nc (Apd _),Nc Afl];unfold Na;simp only[Dw,Ic,Rr]
 have a:∀(k:ByteArray) (s:ByteArray),au (kv k s.data.toList)=ll k s:=λk s=>by rw[<-Afk,Aew]
 rw[a,a];simp only[<-Afk];generalize ll R4 s.user=a1;generalize ll R5 s.part=a2;generalize ll R6 (au (Lib.itoa s.nodes))=a3;generalize ll R7 (au (I1 s.df))=a4;generalize ll R8 (au (Lib.itoa s.wall))=a5
 have e:∀xs,Cd Qd (au (Lib.itoa s.prio)) { data:=#[48] } xs=xs++List.map (λp=>ll p.1 (au p.2)) (if s.prio=0 then[]else[(Qd,Lib.itoa s.prio)]):=λxs=>by
  by_cases c:s.prio=0
  .rw [Ad c,c];unfold Cd;rw[Ad Afm];simp
  .rw [Ab c,Nc (λh=>c (Aaz b.1 ao9 ad9 h))];rfl
 have f:∀xs,Cd Qe (au (Lib.itoa s.array)) { data:=#[49] } xs=xs++List.map (λp=>ll p.1 (au p.2)) (if s.array=1 then[]else[(Qe,Lib.itoa s.array)]):=λxs=>by
  by_cases c:s.array=1
  .rw [Ad c,c];unfold Cd;rw[Ad Apb];simp
  .rw [Ab c,Nc (λh=>c (Aaz ao9 ao9 ad9 h))];rfl
 have g:∀xs,Cd Qf (au (Lib.itoa s.ae)) { data:=#[48] } xs=xs++List.map (λp=>ll p.1 (au p.2)) (if s.ae=0 then[]else[(Qf,Lib.itoa s.ae)]):=λxs=>by
  by_cases c:s.ae=0
  .rw [Ad c,c];unfold Cd;rw[Ad Afm];simp
  .rw [Ab c,Nc (λh=>c (Aaz d.1 ao9 ad9 h))];rfl
 have i:∀xs:List ByteArray,(if s.held=true then Cd Qg { data:=#[49] } { data:=#[] } else id) xs=xs++List.map (λp=>ll p.1 (au p.2)) (if s.held=true then[(Qg,[49])]else[]):=λxs=>by
  by_cases c:s.held=true
  .rw [Ad c,Ad c,Nc ad9];rfl
  .rw [Ab c,Ab c];simp
 have j:∀xs,Cd O5 (au (Jo s.after)) { data:=#[] } xs=xs++List.map (λp=>ll p.1 (au p.2)) (if s.after=[]then[]else[(O5,Jo s.after)]):=λxs=>by
  by_cases c:s.after=[]
  .rw [Ad c,c];unfold Cd;rw[Ad (show au (Jo [])={ data:=#[] } from rfl)];simp
  .rw [Ab c,Nc (Apc o c)];rfl
 rw[e,f,g,i,j];simp
def Afp {s:dn} (a:Cb s=true):Lib.join ((Qj s).map (·.data.toList)) [32]=I6 s:=by
 rw[Afo a,Afb a,De];unfold vw;congr 1
def Afq {s:dn} (a:Cb s=true):(I6 s).length<=1810:=by
 rw[Afb a];exact Aoo a (λp h=>h) (Afa s)
structure tf (w:WD) (x:ax) (vb m:Nat) (xs:List ByteArray) (W:WD):Prop where
 low:BW w.heap.size w W
 box:W.heap[w.heap.size]?=O (J x.cells 33 (0,0))
 put:K9 vb xs W
 lt:w.heap.size<vb
 gg:xs.length<=m
def tf.on {w W b:WD} {x:ax} {c m:Nat} {xs:List ByteArray} (h:tf w x c m xs W) (a:BW W.heap.size W b):tf w x c m xs b:=
 ⟨h.low.trans (a.mono h.low.size),Ae a h.box (Ac h.box),h.put.low a,h.lt,h.gg⟩
def tf.step {w W b:WD} {x:ax} {a m:Nat} {xs:List ByteArray} {k v u:ByteArray} (h:tf w x a m xs W) (d:K9 a (Cd k v u xs) b) (c:BW a W b):tf w x a (m+1) (Cd k v u xs) b:=
 ⟨h.low.trans (c.mono (Rs h.lt)),Ae c h.box h.lt,d,h.lt,Apa h.gg⟩
def Ape (x:ax) (w:WD) (hx:x.ok w) (ht:Tb w):CS prog 95 #[x.val] w λe w'=>e=Q (E (au (I6 x.pl)))/\BW w.heap.size w w':=by
 have aG:=Ke.new w x;have hk:=Ud x _ (aG.ok hx);by_cases hs:Cb x.pl=true;rotate_left
 .have a8:I6 x.pl=[]:=Ab hs;have he:L1 x.pl=80:=Ab hs;rw[he]at hk;obtain⟨⟨am,al,nodes,⟨da,db,dc,dd⟩,ap,ao,array,ae,aJ,after⟩,so,n,cp⟩:=x;replace⟨a8,hk,aG,hx,hs,he,ht⟩:=H7 a8 hk aG hx hs he ht;go_enter func95,ntmps95;go_wp2_with fail;refine hk.mono ?_;rintro e w1 ⟨rfl,a⟩;have aB:=aG.below a;replace⟨aB,a⟩:=H2 aB a;go_wp2;go_ret;exact⟨by rw[a8.out];rfl,aB.low⟩
 have he:L1 x.pl=0:=Ad hs;rw[he]at hk;obtain⟨q1,q2,q3,q4,q5,q6,q7,q8,q9⟩:=Fg hs;have qd:=Xo.1 q3;have a1:=T7 q1;have a2:=T7 q2;have aU:=Aev (Ua qd.1);have a3:=Ad9 aU;have a4:=Aax q4;have b5:=C8.1 q5;have b6:=C8.1 q6;have b7:=C8.1 q7;have b8:=C8.1 q8;have b9:=C8.1 q9;have d5:=L0 (n:=x.pl.nodes) ao9 ao9;have d6:=L0 (n:=x.pl.wall) ao9 ao9;have d7:=L0 (n:=x.pl.prio) ao9 ao9;have d8:=L0 (n:=x.pl.array) ao9 ao9;have d9:=L0 (n:=x.pl.ae) ao9 ao9;obtain⟨V1,aW⟩:=Ex (au (Lib.itoa x.pl.nodes));obtain⟨V2,aX⟩:=Ex (au (I1 x.pl.df));obtain⟨V3,aY⟩:=Ex (au (Lib.itoa x.pl.wall));obtain⟨aV,aZ⟩:=Ex (au (Lib.itoa x.pl.prio));obtain⟨V5,a0⟩:=Ex (au (Lib.itoa x.pl.array));obtain⟨V6,a5⟩:=Ex (au (Lib.itoa x.pl.ae));obtain⟨V7,a6⟩:=Ex (au (Jo x.pl.after));have s1:V1.size<=4096:=by rw[aW,Gg];omega
 have s2:V2.size<=4096:=by rw[aX,Gg];omega
 have s3:V3.size<=4096:=by rw[aY,Gg];omega
 have s4:aV.size<=4096:=by rw[aZ,Gg];omega
 have s5:V5.size<=4096:=by rw[a0,Gg];omega
 have s6:V6.size<=4096:=by rw[a5,Gg];omega
 have s7:V7.size<=4096:=by rw[a6,Gg];omega
 have k1:∀W,BW w.heap.size w W->CS prog 146 #[Z G x.pl.nodes] W λe w'=>e=Q (E V1)/\BW W.heap.size W w':=λW h=>by rw[aW];exact Sc _ ao9 ao9 W (ht.low h)
 have k2:∀W,BW w.heap.size w W->CS prog 147 #[x.pl.df.val] W λe w'=>e=Q (E V2)/\BW W.heap.size W w':=λW h=>by rw[aX];exact Amt _ aU W (ht.low h)
 have k3:∀W,BW w.heap.size w W->CS prog 146 #[Z G x.pl.wall] W λe w'=>e=Q (E V3)/\BW W.heap.size W w':=λW h=>by rw[aY];exact Sc _ ao9 ao9 W (ht.low h)
 have k4:∀W,BW w.heap.size w W->CS prog 146 #[Z G x.pl.prio] W λe w'=>e=Q (E aV)/\BW W.heap.size W w':=λW h=>by rw[aZ];exact Sc _ ao9 ao9 W (ht.low h)
 have k5:∀W,BW w.heap.size w W->CS prog 146 #[Z G x.pl.array] W λe w'=>e=Q (E V5)/\BW W.heap.size W w':=λW h=>by rw[a0];exact Sc _ ao9 ao9 W (ht.low h)
 have k6:∀W,BW w.heap.size w W->CS prog 146 #[Z G x.pl.ae] W λe w'=>e=Q (E V6)/\BW W.heap.size W w':=λW h=>by rw[a5];exact Sc _ ao9 ao9 W (ht.low h)
 have k7:∀W,BW w.heap.size w W->CS prog 148 #[V x.so x.n x.c] W λe w'=>e=Q (E V7)/\BW W.heap.size W w':=λW h=>by rw[a6];exact Ao7 _ _ _ _ W (hx.low h).after q4 (ht.low h)
 have a7:Qj x.pl=Cd O5 V7 { data:=#[] } ((if x.pl.held=true then Cd Qg { data:=#[49] } { data:=#[] } else id) (Cd Qf V6 { data:=#[48] } (Cd Qe V5 { data:=#[49] } (Cd Qd aV { data:=#[48] } (Cd R8 V3 { data:=#[] } (Cd R7 V2 { data:=#[] } (Cd R6 V1 { data:=#[] } (Cd R5 x.pl.part { data:=#[] } (Cd R4 x.pl.user { data:=#[] } []))))))))):=by rw[aW,aX,aY,aZ,a0,a5,a6];rfl
 have ad:∀(vb m:Nat) (W:WD),tf w x vb m (Qj x.pl) W->∃sv,W.heap[vb]?=O (J #[sv] 67 (0,0))/\True/\CS prog 149 #[sv,.string { data:=#[32] }] W λe w'=>e=Q (E (au (I6 x.pl)))/\BW W.heap.size W w':=λvb m W h=>by
  obtain⟨sv,e1,e2⟩:=h.put.ex;refine⟨sv,e1,trivial,?_⟩;have hl:=Afq hs;have hj:=Afi e2 { data:=#[32] } (by rw[Afo hs,As];have:=Afa x.pl;omega) (by show(Lib.join ((Qj x.pl).map (·.data.toList)) [32]).length<=_;rw[Afp hs];omega);rw[show(Lib.join ((Qj x.pl).map (·.data.toList)) ({ data:=#[32] }:ByteArray).data.toList)=I6 x.pl from Afp hs]at hj;exact hj
 rw[a7]at ad;obtain⟨T,hT⟩:=Ex (au (I6 x.pl));rw[<-hT]at ad ⊢;clear aW aX aY aZ a0 a5 a6 q1 q2 q3 q4 q5 q6 q7 q8 q9 qd aU a3 a4 b5 b6 b7 b8 b9 d5 d6 d7 d8 d9 hs he a7 hT;obtain⟨⟨am,al,nodes,⟨da,db,dc,dd⟩,ap,ao,array,ae,aJ,after⟩,so,n,cp⟩:=x;replace⟨k1,k2,k3,k4,k5,k6,k7,hk⟩:=H8 k1 k2 k3 k4 k5 k6 k7 hk;replace⟨hx,aG,ad,s1,s2,s3,s4,s5⟩:=H8 hx aG ad s1 s2 s3 s4 s5;replace⟨s6,s7,a1,a2,ht⟩:=H5 s6 s7 a1 a2 ht;go_enter func95,ntmps95;go_wp2_with fail;refine hk.mono ?_;rintro e w1 ⟨rfl,a⟩;have aB:=aG.below a
 have af:tf w ⟨⟨am,al,nodes,⟨da,db,dc,dd⟩,ap,ao,array,ae,aJ,after⟩,so,n,cp⟩ w1.heap.size 0 [] (w1.alloc (J #[V I 0 0] 67 (0,0))):=
  ⟨aB.low.alloc aB.low.size _,Ak _ aB.box,⟨_,Ah _ _,Aes _ _⟩,Ac aB.box,ad9⟩
 have j:(w1.alloc (J #[V I 0 0] 67 (0,0))).cell? ⟨w.heap.size,0,I⟩=O (E am):=Aa af.box 0;have k:(w1.alloc (J #[V I 0 0] 67 (0,0))).cell? ⟨w.heap.size,1,I⟩=O (E al):=Aa af.box 1;have l:(w1.alloc (J #[V I 0 0] 67 (0,0))).cell? ⟨w.heap.size,2,I⟩=O (Z G nodes):=Aa af.box 2;have o:(w1.alloc (J #[V I 0 0] 67 (0,0))).cell? ⟨w.heap.size,3,I⟩=O (Z G da):=Aa af.box 3;have p:(w1.alloc (J #[V I 0 0] 67 (0,0))).cell? ⟨w.heap.size,4,I⟩=O (Z G db):=Aa af.box 4;have q:(w1.alloc (J #[V I 0 0] 67 (0,0))).cell? ⟨w.heap.size,5,I⟩=O (Z G dc):=Aa af.box 5;have r:(w1.alloc (J #[V I 0 0] 67 (0,0))).cell? ⟨w.heap.size,6,I⟩=O (Z G dd):=Aa af.box 6;have s:(w1.alloc (J #[V I 0 0] 67 (0,0))).cell? ⟨w.heap.size,7,I⟩=O (Z G ap):=Aa af.box 7;have t:(w1.alloc (J #[V I 0 0] 67 (0,0))).cell? ⟨w.heap.size,8,I⟩=O (Z G ao):=Aa af.box 8;have u:(w1.alloc (J #[V I 0 0] 67 (0,0))).cell? ⟨w.heap.size,9,I⟩=O (Z G array):=Aa af.box 9;have b:(w1.alloc (J #[V I 0 0] 67 (0,0))).cell? ⟨w.heap.size,10,I⟩=O (Z G ae):=Aa af.box 10;have i:(w1.alloc (J #[V I 0 0] 67 (0,0))).cell? ⟨w.heap.size,11,I⟩=O (Y aJ):=Aa af.box 11;have d:(w1.alloc (J #[V I 0 0] 67 (0,0))).cell? ⟨w.heap.size,12,I⟩=O (V so n cp):=Aa af.box 12;replace⟨aB,a,af⟩:=H3 aB a af;go_wp2_with fail;refine(L2 _ _ R4 am { data:=#[] } _ (af).out.put (Aw (af).out.gg ad9) ad9 (by have:=a1.out;show am.size<=4096;omega)).mono ?_;rintro e w2 ⟨rfl,v,a⟩;have aK:=(af).out.step v a;clear j k l o p q r s t u b i d;obtain⟨j,k,l,o,p,q,r,s,t,u,b,i,d⟩:=C13 (aK).box;(try dsimp only at j k l o p q r s t u b i d);replace⟨aK,v,a⟩:=H3 aK v a;clear a v;go_wp2_with fail;refine(L2 _ _ R5 al { data:=#[] } _ (aK).out.put (Aw (aK).out.gg ad9) ad9 (by have:=a2.out;show al.size<=4096;omega)).mono ?_;rintro e w3 ⟨rfl,v,a⟩;have aP:=(aK).out.step v a;clear j k l o p q r s t u b i d;obtain⟨j,k,l,o,p,q,r,s,t,u,b,i,d⟩:=C13 (aP).box;(try dsimp only at j k l o p q r s t u b i d);replace⟨aP,v,a⟩:=H3 aP v a;clear a v;go_wp2_with fail;refine(k1 _ aP.low).mono ?_;rintro e w4 ⟨rfl,a⟩;have aL:=(aP).out.on a;clear j k l o p q r s t u b i d;obtain⟨j,k,l,o,p,q,r,s,t,u,b,i,d⟩:=C13 (aL).box;(try dsimp only at j k l o p q r s t u b i d);replace⟨aL,a⟩:=H2 aL a;clear a;go_wp2_with fail;refine(L2 _ _ R6 V1 { data:=#[] } _ (aL).out.put (Aw (aL).out.gg ad9) ad9 s1.out).mono ?_;rintro e w5 ⟨rfl,v,a⟩;have aQ:=(aL).out.step v a;clear j k l o p q r s t u b i d;obtain⟨j,k,l,o,p,q,r,s,t,u,b,i,d⟩:=C13 (aQ).box;(try dsimp only at j k l o p q r s t u b i d);replace⟨aQ,v,a⟩:=H3 aQ v a;clear a v;go_wp2_with fail;refine(k2 _ aQ.low).mono ?_;rintro e w6 ⟨rfl,a⟩;have aM:=(aQ).out.on a;clear j k l o p q r s t u b i d;obtain⟨j,k,l,o,p,q,r,s,t,u,b,i,d⟩:=C13 (aM).box;(try dsimp only at j k l o p q r s t u b i d);replace⟨aM,a⟩:=H2 aM a;clear a;go_wp2_with fail;refine(L2 _ _ R7 V2 { data:=#[] } _ (aM).out.put (Aw (aM).out.gg ad9) ad9 s2.out).mono ?_;rintro e w7 ⟨rfl,v,a⟩;have aR:=(aM).out.step v a;clear j k l o p q r s t u b i d;obtain⟨j,k,l,o,p,q,r,s,t,u,b,i,d⟩:=C13 (aR).box;(try dsimp only at j k l o p q r s t u b i d);replace⟨aR,v,a⟩:=H3 aR v a;clear a v;go_wp2_with fail;refine(k3 _ aR.low).mono ?_;rintro e w8 ⟨rfl,a⟩;have aN:=(aR).out.on a;clear j k l o p q r s t u b i d;obtain⟨j,k,l,o,p,q,r,s,t,u,b,i,d⟩:=C13 (aN).box;(try dsimp only at j k l o p q r s t u b i d);replace⟨aN,a⟩:=H2 aN a;clear a;go_wp2_with fail;refine(L2 _ _ R8 V3 { data:=#[] } _ (aN).out.put (Aw (aN).out.gg ad9) ad9 s3.out).mono ?_;rintro e w9 ⟨rfl,v,a⟩;have aS:=(aN).out.step v a;clear j k l o p q r s t u b i d;obtain⟨j,k,l,o,p,q,r,s,t,u,b,i,d⟩:=C13 (aS).box;(try dsimp only at j k l o p q r s t u b i d);replace⟨aS,v,a⟩:=H3 aS v a;clear a v;go_wp2_with fail;refine(k4 _ aS.low).mono ?_;rintro e bb ⟨rfl,a⟩;have aO:=(aS).out.on a;clear j k l o p q r s t u b i d;obtain⟨j,k,l,o,p,q,r,s,t,u,b,i,d⟩:=C13 (aO).box;(try dsimp only at j k l o p q r s t u b i d);replace⟨aO,a⟩:=H2 aO a;clear a;go_wp2_with fail;refine(L2 _ _ Qd aV { data:=#[48] } _ (aO).out.put (Aw (aO).out.gg ad9) ad9 s4.out).mono ?_;rintro e bc ⟨rfl,v,a⟩;have aE:=(aO).out.step v a;clear j k l o p q r s t u b i d;obtain⟨j,k,l,o,p,q,r,s,t,u,b,i,d⟩:=C13 (aE).box;(try dsimp only at j k l o p q r s t u b i d);replace⟨aE,v,a⟩:=H3 aE v a;clear a v;go_wp2_with fail;refine(k5 _ aE.low).mono ?_;rintro e bd ⟨rfl,a⟩;have aC:=(aE).out.on a;clear j k l o p q r s t u b i d;obtain⟨j,k,l,o,p,q,r,s,t,u,b,i,d⟩:=C13 (aC).box;(try dsimp only at j k l o p q r s t u b i d);replace⟨aC,a⟩:=H2 aC a;clear a;go_wp2_with fail;refine(L2 _ _ Qe V5 { data:=#[49] } _ (aC).out.put (Aw (aC).out.gg ad9) ad9 s5.out).mono ?_;rintro e be ⟨rfl,v,a⟩;have aF:=(aC).out.step v a;clear j k l o p q r s t u b i d;obtain⟨j,k,l,o,p,q,r,s,t,u,b,i,d⟩:=C13 (aF).box;(try dsimp only at j k l o p q r s t u b i d);replace⟨aF,v,a⟩:=H3 aF v a;clear a v;go_wp2_with fail;refine(k6 _ aF.low).mono ?_;rintro e bf ⟨rfl,a⟩;have aD:=(aF).out.on a;clear j k l o p q r s t u b i d;obtain⟨j,k,l,o,p,q,r,s,t,u,b,i,d⟩:=C13 (aD).box;(try dsimp only at j k l o p q r s t u b i d);replace⟨aD,a⟩:=H2 aD a;clear a;go_wp2_with fail;refine(L2 _ _ Qf V6 { data:=#[48] } _ (aD).out.put (Aw (aD).out.gg ad9) ad9 s6.out).mono ?_;rintro e bg ⟨rfl,v,a⟩;have an:=(aD).out.step v a;clear j k l o p q r s t u b i d;obtain⟨j,k,l,o,p,q,r,s,t,u,b,i,d⟩:=C13 (an).box;(try dsimp only at j k l o p q r s t u b i d);replace⟨an,v,a⟩:=H3 an v a;clear a v
 cases aJ with
 | false=>
  go_wp2_with fail;refine(k7 _ an.low).mono ?_;rintro e y ⟨rfl,a⟩;have f:=(an).out.on a;clear j k l o p q r s t u b d;have j:y.cell? ⟨w.heap.size,0,I⟩=O (E am):=Aa (f).box 0;have k:y.cell? ⟨w.heap.size,1,I⟩=O (E al):=Aa (f).box 1;have l:y.cell? ⟨w.heap.size,2,I⟩=O (Z G nodes):=Aa (f).box 2;have o:y.cell? ⟨w.heap.size,3,I⟩=O (Z G da):=Aa (f).box 3;have p:y.cell? ⟨w.heap.size,4,I⟩=O (Z G db):=Aa (f).box 4;have q:y.cell? ⟨w.heap.size,5,I⟩=O (Z G dc):=Aa (f).box 5;have r:y.cell? ⟨w.heap.size,6,I⟩=O (Z G dd):=Aa (f).box 6;have s:y.cell? ⟨w.heap.size,7,I⟩=O (Z G ap):=Aa (f).box 7;have t:y.cell? ⟨w.heap.size,8,I⟩=O (Z G ao):=Aa (f).box 8;have u:y.cell? ⟨w.heap.size,9,I⟩=O (Z G array):=Aa (f).box 9;have b:y.cell? ⟨w.heap.size,10,I⟩=O (Z G ae):=Aa (f).box 10;have d:y.cell? ⟨w.heap.size,12,I⟩=O (V so n cp):=Aa (f).box 12;replace⟨f,a⟩:=H2 f a;clear a;go_wp2_with fail;refine(L2 _ _ O5 V7 { data:=#[] } _ (f).out.put (Aw (f).out.gg ad9) ad9 s7.out).mono ?_;rintro e z ⟨rfl,v,a⟩;have g:=(f).out.step v a;clear j k l o p q r s t u b d;have j:z.cell? ⟨w.heap.size,0,I⟩=O (E am):=Aa (g).box 0;have k:z.cell? ⟨w.heap.size,1,I⟩=O (E al):=Aa (g).box 1;have l:z.cell? ⟨w.heap.size,2,I⟩=O (Z G nodes):=Aa (g).box 2;have o:z.cell? ⟨w.heap.size,3,I⟩=O (Z G da):=Aa (g).box 3;have p:z.cell? ⟨w.heap.size,4,I⟩=O (Z G db):=Aa (g).box 4;have q:z.cell? ⟨w.heap.size,5,I⟩=O (Z G dc):=Aa (g).box 5;have r:z.cell? ⟨w.heap.size,6,I⟩=O (Z G dd):=Aa (g).box 6;have s:z.cell? ⟨w.heap.size,7,I⟩=O (Z G ap):=Aa (g).box 7;have t:z.cell? ⟨w.heap.size,8,I⟩=O (Z G ao):=Aa (g).box 8;have u:z.cell? ⟨w.heap.size,9,I⟩=O (Z G array):=Aa (g).box 9;have b:z.cell? ⟨w.heap.size,10,I⟩=O (Z G ae):=Aa (g).box 10;have d:z.cell? ⟨w.heap.size,12,I⟩=O (V so n cp):=Aa (g).box 12;replace⟨g,v,a⟩:=H3 g v a;clear a v;have aT:=ad _ _ _ (g).out;obtain⟨sv,aH,a9,aI⟩:=aT;have v0:=Aa aH 0;simp at v0;replace⟨aH,aI⟩:=H2 aH aI;go_wp2_with fail;refine aI.mono ?_;rintro e ba ⟨rfl,a⟩;have aA:=(g).out.low.trans (a.mono (g).out.low.size);replace⟨aA,a⟩:=H2 aA a;clear j k l o p q r s t u b d;go_wp2;go_ret;exact⟨rfl,aA.out⟩
 | true=>
  go_wp2_with fail;refine(L2 _ _ Qg { data:=#[49] } { data:=#[] } _ (an).out.put (Aw (an).out.gg ad9) ad9 ad9).mono ?_;rintro e av ⟨rfl,v,a⟩;have ac:=(an).out.step v a;clear j k l o p q r s t u b d;have j:av.cell? ⟨w.heap.size,0,I⟩=O (E am):=Aa (ac).box 0;have k:av.cell? ⟨w.heap.size,1,I⟩=O (E al):=Aa (ac).box 1;have l:av.cell? ⟨w.heap.size,2,I⟩=O (Z G nodes):=Aa (ac).box 2;have o:av.cell? ⟨w.heap.size,3,I⟩=O (Z G da):=Aa (ac).box 3;have p:av.cell? ⟨w.heap.size,4,I⟩=O (Z G db):=Aa (ac).box 4;have q:av.cell? ⟨w.heap.size,5,I⟩=O (Z G dc):=Aa (ac).box 5;have r:av.cell? ⟨w.heap.size,6,I⟩=O (Z G dd):=Aa (ac).box 6;have s:av.cell? ⟨w.heap.size,7,I⟩=O (Z G ap):=Aa (ac).box 7;have t:av.cell? ⟨w.heap.size,8,I⟩=O (Z G ao):=Aa (ac).box 8;have u:av.cell? ⟨w.heap.size,9,I⟩=O (Z G array):=Aa (ac).box 9;have b:av.cell? ⟨w.heap.size,10,I⟩=O (Z G ae):=Aa (ac).box 10;have d:av.cell? ⟨w.heap.size,12,I⟩=O (V so n cp):=Aa (ac).box 12;replace⟨ac,v,a⟩:=H3 ac v a;clear a v;go_wp2_with fail;refine(k7 _ ac.low).mono ?_;rintro e y ⟨rfl,a⟩;have f:=(ac).out.on a;clear j k l o p q r s t u b d;have j:y.cell? ⟨w.heap.size,0,I⟩=O (E am):=Aa (f).box 0;have k:y.cell? ⟨w.heap.size,1,I⟩=O (E al):=Aa (f).box 1;have l:y.cell? ⟨w.heap.size,2,I⟩=O (Z G nodes):=Aa (f).box 2;have o:y.cell? ⟨w.heap.size,3,I⟩=O (Z G da):=Aa (f).box 3;have p:y.cell? ⟨w.heap.size,4,I⟩=O (Z G db):=Aa (f).box 4;have q:y.cell? ⟨w.heap.size,5,I⟩=O (Z G dc):=Aa (f).box 5;have r:y.cell? ⟨w.heap.size,6,I⟩=O (Z G dd):=Aa (f).box 6;have s:y.cell? ⟨w.heap.size,7,I⟩=O (Z G ap):=Aa (f).box 7;have t:y.cell? ⟨w.heap.size,8,I⟩=O (Z G ao):=Aa (f).box 8;have u:y.cell? ⟨w.heap.size,9,I⟩=O (Z G array):=Aa (f).box 9;have b:y.cell? ⟨w.heap.size,10,I⟩=O (Z G ae):=Aa (f).box 10;have d:y.cell? ⟨w.heap.size,12,I⟩=O (V so n cp):=Aa (f).box 12;replace⟨f,a⟩:=H2 f a;clear a;go_wp2_with fail;refine(L2 _ _ O5 V7 { data:=#[] } _ (f).out.put (Aw (f).out.gg ad9) ad9 s7.out).mono ?_;rintro e z ⟨rfl,v,a⟩;have g:=(f).out.step v a;clear j k l o p q r s t u b d;have j:z.cell? ⟨w.heap.size,0,I⟩=O (E am):=Aa (g).box 0;have k:z.cell? ⟨w.heap.size,1,I⟩=O (E al):=Aa (g).box 1;have l:z.cell? ⟨w.heap.size,2,I⟩=O (Z G nodes):=Aa (g).box 2;have o:z.cell? ⟨w.heap.size,3,I⟩=O (Z G da):=Aa (g).box 3;have p:z.cell? ⟨w.heap.size,4,I⟩=O (Z G db):=Aa (g).box 4;have q:z.cell? ⟨w.heap.size,5,I⟩=O (Z G dc):=Aa (g).box 5;have r:z.cell? ⟨w.heap.size,6,I⟩=O (Z G dd):=Aa (g).box 6;have s:z.cell? ⟨w.heap.size,7,I⟩=O (Z G ap):=Aa (g).box 7;have t:z.cell? ⟨w.heap.size,8,I⟩=O (Z G ao):=Aa (g).box 8;have u:z.cell? ⟨w.heap.size,9,I⟩=O (Z G array):=Aa (g).box 9;have b:z.cell? ⟨w.heap.size,10,I⟩=O (Z G ae):=Aa (g).box 10;have d:z.cell? ⟨w.heap.size,12,I⟩=O (V so n cp):=Aa (g).box 12;replace⟨g,v,a⟩:=H3 g v a;clear a v;have aT:=ad _ _ _ (g).out;obtain⟨sv,aH,a9,aI⟩:=aT;have v0:=Aa aH 0;simp at v0;replace⟨aH,aI⟩:=H2 aH aI;go_wp2_with fail;refine aI.mono ?_;rintro e ba ⟨rfl,a⟩;have aA:=(g).out.low.trans (a.mono (g).out.low.size);replace⟨aA,a⟩:=H2 aA a;clear j k l o p q r s t u b d;go_wp2;go_ret;exact⟨rfl,aA.out⟩
def Ob   {v:VL} {xs:List Int} (h:Aj w B v xs):∃so n c,v=V so n c/\n<=c/\Ao w so n xs/\∀b o,so=O ⟨b,o,I⟩->B<=b/\b<w.heap.size:=by
 obtain⟨so,c,e,f⟩:=Aey h;have i:=h.row;rcases i.2 with⟨a,h0⟩|⟨g,cap,j,a,l,k,p,_⟩
 .refine ⟨so,xs.length,c,e,ao9,f,λb o d=>?_⟩;rw[e]at a;injection a with a;rw[a]at d;cases d
 .refine ⟨so,xs.length,c,e,?_,f,λb o d=>?_⟩
  .rw [e]at a;injection a with _ _ hc;omega
  .have m:=Ac k;rw[e]at a;injection a with a;rw[a]at d;injection d with d;injection d with d;omega
def Afr  (a:BW w.heap.size w w') (r:Option Nat):w.grownBy w' r:=⟨a.os,a.tape,a.output,a.size,λi b _=>a.block i b⟩
def Aa0 (w:WD) (r:Option Nat):w.grownBy w r:=Afr (Below.refl _ _) r
def Afs {a b c:WD} {r:Option Nat} (h1:a.grownBy b r) (d:b.grownBy c r):a.grownBy c r:=
 ⟨d.os.trans h1.os,d.tape.trans h1.tape,d.output.trans h1.output,Aw h1.size d.size,λi e f=>(d.block i (B4 e h1.size) f).trans (h1.block i e f)⟩
def Ue {a w:WD} {b o:Nat} (h:a.grownBy w (O b)) (v:VL):a.grownBy (w.setCell ⟨b,o,I⟩ v) (O b):=
 ⟨h.os,h.tape,h.output,by simpa[World.setCell]using h.size,λi d c=>(Ci w ⟨b,o,I⟩ v i (λe=>c (by rw[e]))).trans (h.block i d c)⟩
def Apf   {n:Nat} {xs:List Int} (h:Ao w so n xs) (j:w.heap.size<=w'.heap.size) (f:∀b c,so=O ⟨b,c,I⟩->b<w.heap.size->w'.heap[b]?=w.heap[b]?):Ao w' so n xs:=
 ⟨h.len,h.max,λi x k=>by
  obtain⟨b,c,e,d,g⟩:=h.cell i x k
  exact⟨b,c,e,ao9,(Bl (a:=⟨b,c+i,I⟩) (w:=w) (f b c e d)).trans g⟩⟩
def Aft    {n:Nat} {xs:List Int} (h:Ao w so n xs) (f:w.grownBy w' (O g)) (i:∀b o,so=O ⟨b,o,I⟩->b≠g):Ao w' so n xs:=
 Apf h f.size λb d e a=>f.block b a (λc=>i b d e (by injection c with c))
def Afu {a w w':WD} {B r:Nat} (h:BW B a w) (c:w.grownBy w' (O r)) (b:B<=w.heap.size) (d:B<=r):BW B a w':=
 h.grown c b (λk e=>by injection e with e;omega)
def Uf (s:dn):V4:=if Cb s=true then⟨s.df.a*s.nodes,s.df.b*s.nodes,s.df.c*s.nodes,s.df.d*s.nodes⟩else V4.zero
structure Sd (w:WD) (x:ax) (v:V4) (W:WD):Prop where
 low:BW w.heap.size w W
 box:W.heap[w.heap.size]?=O (J x.cells 33 (0,0))
 res:W.heap[w.heap.size+1]?=O (J V4.zero.cells 30 (0,0))
 vec:W.heap[w.heap.size+2]?=O (J v.cells 30 (0,0))
def Sd.set  {x:ax} {v a:V4} (h:Sd w x v W) (o:Nat) (z:VL) (e:v.cells.setIfInBounds o z=a.cells):Sd w x a (W.setCell ⟨w.heap.size+2,o,I⟩ z):=
 ⟨h.low.setCell (show w.heap.size<=w.heap.size+2 by omega) _,Dg ao9 _ h.box,Dg ao9 _ h.res,by rw[<-e];exact Am h.vec o z⟩
def Xq {a n:Int} (h0:0<=a) (h1:a<=1073741824) (b:1<=n) (c:n<=16):0<=a*n/\a*n<=17179869184:=by
 refine⟨Int.mul_nonneg h0 ao9,?_⟩;have d:a*n<=1073741824*n:=Int.mul_le_mul_of_nonneg_right h1 ao9;omega
def Apg (a b c d:Int) (j:Nat) (e:j<4) (w:WD):(Instr.index 30 (.agg #[Z G a,Z G b,Z G c,Z G d]) (Z G (j:Int))).run prog w=.ok (Z G (V4.get ⟨a,b,c,d⟩ j)) w:=Aea a b c d j e w
def Aph (v:V4):tz v 0=V4.zero:=by simp[tz,V4.zero]
def Api (v:V4):tz v 4=v:=by simp[tz]
def Apj (v:V4) (k:Nat) (a:k<4):(tz v k).cells.setIfInBounds k (Z G (v.get k))=(tz v (k+1)).cells:=by
 rcases(show k=0\/k=1\/k=2\/k=3 by omega)with rfl|rfl|rfl|rfl<;>simp[tz,V4.get]
def Apk (x:ax) (w:WD) (hx:x.ok w):CS prog 234 #[x.val] w λe w'=>e=Q (Uf x.pl).val/\BW w.heap.size w w':=by
 obtain⟨W0,j⟩:=Ex (((w.alloc (J x.cells 33 (0,0))).alloc (J V4.zero.cells 30 (0,0))).alloc (J V4.zero.cells 30 (0,0)));have f:Sd w x V4.zero W0:=by rw[j];exact⟨(Bn.alloc as9 _).alloc (by simp;omega) _,Ak _ (Ak _ (Ah _ _)),Ak _ (A2 _ _ as9),A2 _ _ as9⟩
 have hk:=Ud x W0 (hx.low f.low);by_cases hs:Cb x.pl=true;rotate_left
 .have m:Uf x.pl=V4.zero:=Ab hs;have he:L1 x.pl=80:=Ab hs;rw[he,j]at hk;have z:=Hh j;clear j;obtain⟨⟨an,al,nodes,⟨r,s,t,u⟩,ao,am,array,ae,ac,after⟩,so,n,cp⟩:=x;replace⟨m,hk,f,hx,hs,he⟩:=H6 m hk f hx hs he;go_enter func234,ntmps234;go_wp2_with fail;refine hk.mono ?_;rintro e w1 ⟨rfl,o⟩;rw[<-z.out]at o;have g:=f.low.trans (o.mono f.low.size);have l:=Ae o f.res (Ac f.res);have q:=Ae o f.vec (Ac f.vec);have r0:=Bk l 0 (Z G 0) rfl;have r1:=Bk l 1 (Z G 0) rfl;have r2:=Bk l 2 (Z G 0) rfl;have r3:=Bk l 3 (Z G 0) rfl;have v0:=Bk q 0 (Z G 0) rfl;have v1:=Bk q 1 (Z G 0) rfl;have v2:=Bk q 2 (Z G 0) rfl;have v3:=Bk q 3 (Z G 0) rfl;have fr:=Ag l;replace⟨o,g,l,q⟩:=H4 o g l q;go_wp2;refine An (v:=V4.zero.val) (by simp[results,results234,go_sem,r0,r1,r2,r3,V4.zero]) rfl ⟨by rw[m.out],?_⟩;exact((((g.setCell (D9 _) _).setCell (D9 _) _).setCell (D9 _) _).setCell (D9 _) _)
 have he:L1 x.pl=0:=Ad hs;have m:Uf x.pl=⟨x.pl.df.a*x.pl.nodes,x.pl.df.b*x.pl.nodes,x.pl.df.c*x.pl.nodes,x.pl.df.d*x.pl.nodes⟩:=Ad hs;rw[he,j]at hk;have z:=Hh j;clear j;obtain⟨_,_,q3,_,q5,_⟩:=Fg hs;obtain⟨h1,h2,h3,h4,h5,h6,h7,h8⟩:=Ua (Xo.1 q3).1;obtain⟨n1,n2⟩:=C8.1 q5;obtain⟨⟨an,al,nodes,⟨r,s,t,u⟩,ao,am,array,ae,ac,after⟩,so,n,cp⟩:=x;simp only at h1 h2 h3 h4 h5 h6 h7 h8 n1 n2;obtain⟨aB,aC⟩:=Xq h1 h2 n1 n2;obtain⟨aD,aE⟩:=Xq h3 h4 n1 n2;obtain⟨aF,aG⟩:=Xq h5 h6 n1 n2;obtain⟨aH,aI⟩:=Xq h7 h8 n1 n2;replace⟨m,hk,f,hx,hs,he,q3,q5⟩:=H8 m hk f hx hs he q3 q5;go_enter func234,ntmps234;go_wp2_with fail;refine hk.mono ?_;rintro e w1 ⟨rfl,o⟩;rw[<-z.out]at o
 have h:Sd w ⟨⟨an,al,nodes,⟨r,s,t,u⟩,ao,am,array,ae,ac,after⟩,so,n,cp⟩ V4.zero w1:=
  ⟨f.low.trans (o.mono f.low.size),Ae o f.box (Ac f.box),Ae o f.res (Ac f.res),Ae o f.vec (Ac f.vec)⟩
 have y3:=Bk h.box 3 (Z G r) rfl;have y4:=Bk h.box 4 (Z G s) rfl;have y5:=Bk h.box 5 (Z G t) rfl;have y6:=Bk h.box 6 (Z G u) rfl;replace⟨o,h⟩:=H2 o h;go_wp2;clear y3 y4 y5 y6;go_loopw [4,5,12] (λ_ _ i wr=>∃k:Nat,i=Z G k/\k<=4/\Hid (Sd w ⟨⟨an,al,nodes,⟨r,s,t,u⟩,ao,am,array,ae,ac,after⟩,so,n,cp⟩ (tz ⟨r*nodes,s*nodes,t*nodes,u*nodes⟩ k) wr)) (λ_ _ i _=>4-(intOf i).toNat)
 case atStart=>exact⟨0,rfl,ao9,by rw[Aph];exact h.out⟩
 case round=>
  obtain⟨k,rfl,aK,hN⟩:=hrel;by_cases hc:k<4
  .have ap:(k:Int)<4:=ao9;have aJ:(0:Int)<=(k:Int):=ao9;have av:=λw=>Apg r s t u k hc w;have af:=hN.set k _ (Apj ⟨r*nodes,s*nodes,t*nodes,u*nodes⟩ k hc)
   have ev:(V4.get ⟨r,s,t,u⟩ k)*nodes=V4.get ⟨r*nodes,s*nodes,t*nodes,u*nodes⟩ k:=by rcases(show k=0\/k=1\/k=2\/k=3 by omega)with rfl|rfl|rfl|rfl<;>rfl
   obtain⟨y,hy⟩:=Ex (V4.get ⟨r,s,t,u⟩ k)
   have aA:0<=y*nodes/\y*nodes<=17179869184:=by
    rw[hy,ev];rcases(show k=0\/k=1\/k=2\/k=3 by omega)with rfl|rfl|rfl|rfl
    .exact ⟨aB,aC⟩
    .exact ⟨aD,aE⟩
    .exact ⟨aF,aG⟩
    .exact ⟨aH,aI⟩
   obtain⟨aM,aN⟩:=aA;rw[<-ev]at af;rw[<-hy]at av af;have c2:=Bk hN.box 2 (Z G nodes) rfl;have fv:=Ag hN.vec;obtain⟨vk,aL⟩:∃vk,wr.cell? ⟨w.heap.size+2,k,I⟩=O vk:=(by rw[Aa hN.vec];exact⟨_,Rf (by simpa using hc)⟩);replace⟨af,hy,ev⟩:=H3 af hy ev;go_wp2;go_roundw
   case rel=>exact⟨k+1,by go_num,ao9,af.out⟩
   case measure=>simp[intOf];omega
  .have ap:¬(k:Int)<4:=ao9;have ad:k=4:=ao9;have p:=hN.out;rw[ad,Api]at p;have l:=p.res;have q:=p.vec;have g:=p.low;have r0:=Bk l 0 (Z G 0) rfl;have r1:=Bk l 1 (Z G 0) rfl;have r2:=Bk l 2 (Z G 0) rfl;have r3:=Bk l 3 (Z G 0) rfl;have v0:=Bk q 0 (Z G (r*nodes)) rfl;have v1:=Bk q 1 (Z G (s*nodes)) rfl;have v2:=Bk q 2 (Z G (t*nodes)) rfl;have v3:=Bk q 3 (Z G (u*nodes)) rfl;have fr:=Ag l;replace⟨g,l,q,ad,p⟩:=H5 g l q ad p;go_wp2;refine An (v:=(⟨r*nodes,s*nodes,t*nodes,u*nodes⟩:V4).val) (by simp[results,results234,go_sem,r0,r1,r2,r3]) rfl ⟨by rw[m.out],?_⟩;exact((((g.setCell (D9 _) _).setCell (D9 _) _).setCell (D9 _) _).setCell (D9 _) _)
def Se (vs:List ay) (i:Int):V4:=if i<0 then V4.zero else((vs[i.toNat]?).map ay.cap).getD V4.zero
def Apl  {i:Int}  {e:Ending} (h:Ae0 vs i w e w'):∃(x:aw) (b:Bool),e=Q (D #[x.val,Y b])/\x.cap=Se vs i/\BW w.heap.size w w':=by
 obtain⟨x,b,f,_,c,_,d⟩:=h;refine⟨x,b,f,?_,c⟩;unfold Se;rcases d with⟨_,h0,a⟩|⟨_,rfl,a⟩
 .rw [Ab ao9,a];rfl
 .split
  .rfl
  .rw [Rh ao9];rfl
def Nf (vs:List ay) (d:V4) (l:List Int):Nat:=(l.filter λi=>d.fits (Se vs i)).length
def Apm  {d:V4}  {k:Nat} {y:Int} (h:l[k]?=O y):Nf vs d (l.take (k+1))=Nf vs d (l.take k)+if d.fits (Se vs y)=true then 1 else 0:=by
 unfold Nf;rw[Lw h,Ow,Av];congr 1
 by_cases q:d.fits (Se vs y)=true<;>simp[q]
def Apn (vs:List ay) (d:V4) (l:List Int):Nf vs d l<=l.length:=N0 _ _
def C9 (s:dn) (vs:List ay):Int:=
 if Cb s=false then 80 else if Cj vs s.part=[]then 81 else if (Nf vs s.df (Cj vs s.part):Int)<s.nodes then 82 else 0
def Apo  {fb mb base:Nat}  (h:lg w fb mb base vs) (aC:Kd vs) (x:ax) (hx:x.ok w):CS prog 98 #[K (O ⟨fb,0,I⟩),x.val] w λe w'=>e=Q (Z G (C9 x.pl vs))/\BW w.heap.size w w':=by
 have a:=Ke.new w x;have aG:=Ud x (w.alloc (J x.cells 33 (0,0))) (hx.low a.low);obtain⟨er,aM⟩:=Ex (L1 x.pl);rw[<-aM]at aG
 have aA:(er=0/\Cb x.pl=true)\/(er=80/\Cb x.pl=false):=by
  rw[aM];unfold L1
  cases Cb x.pl<;>simp
 clear aM;have aN:=h.below a.low;obtain⟨⟨aZ,f,nodes,⟨da,db,dc,dd⟩,a0,aY,array,ae,aX,after⟩,so,n,cp⟩:=x;have c0:=Aa a.box 0;have c1:=Aa a.box 1;have c2:=Aa a.box 2;have c3:=Aa a.box 3;have c4:=Aa a.box 4;have c5:=Aa a.box 5;have c6:=Aa a.box 6;have c7:=Aa a.box 7;have c8:=Aa a.box 8;have c9:=Aa a.box 9;have aR:=Aa a.box 10;have aS:=Aa a.box 11;have aT:=Aa a.box 12;simp at c0 c1 c2 c3 c4 c5 c6 c7 c8 c9 aR aS aT;replace⟨a,aG,aN,h,aC,hx,aA⟩:=H7 a aG aN h aC hx aA;go_enter func98,ntmps98;go_wp2_with fail;refine aG.mono ?_;rintro e w1 ⟨rfl,ad⟩;have p:=a.below ad;have al:=aN.below ad;clear c0 c1 c2 c3 c4 c5 c6 c7 c8 c9 aR aS aT;rcases aA.out with⟨rfl,j⟩|⟨rfl,j⟩;rotate_left
 .replace ⟨ad,p,al,j⟩:=H4 ad p al j;clear aA;go_wp2;go_ret;exact⟨by unfold C9;rw[Ad j.out];rfl,p.low⟩
 have y1:=Bk p.box 1 (E f) rfl;have aO:=Aeu al aC.out f;clear aA;replace⟨ad,p,al,j,aO⟩:=H5 ad p al j aO;go_wp2_with fail;refine aO.mono ?_;rintro e w2 ⟨v2,rfl,ap,af⟩;obtain⟨po,pn,pc,rfl,a2,ac,t⟩:=Ob ap;have u:=p.below af;have aB:=al.below af;have l:=ac.len;have a3:pn<=16:=by have h1:=Aep vs f 0;have h2:=aC.len;unfold Cj at l;omega
 by_cases q0:pn=0
 .subst q0;replace⟨ap,af,ac,t,u,aB,l⟩:=H7 ap af ac t u aB l;clear y1;go_wp2;go_ret;exact⟨by unfold C9;rw[Ab (by rw[j.out];simp),Ad (Fv.1 l.out)];rfl,u.low⟩
 have a6:((pn:Int) == 0)=false:=by rw[Bh];omega
 clear y1;replace⟨ap,af,ac,t,u,aB,l,q0⟩:=H8 ap af ac t u aB l q0;go_wp2;go_loopw [7,9,10,11,26] (λm _ _ _ i wr=>∃k:Nat,i=Z G k/\k<=pn/\m=Z G (Nf vs ⟨da,db,dc,dd⟩ ((Cj vs f).take k):Nat)/\Hid (BW w2.heap.size w2 wr)) (λ_ _ _ _ i _=>pn-(intOf i).toNat)
 case atStart=>exact⟨0,rfl,Ar _,rfl,Below.refl _ _⟩
 case round=>
  obtain⟨k,rfl,hk,rfl,hB⟩:=hrel;obtain⟨z,hz⟩:=Ex (Nf vs ⟨da,db,dc,dd⟩ ((Cj vs f).take k));rw[<-hz];have a4:z<=16:=by have h1:=Apn vs ⟨da,db,dc,dd⟩ ((Cj vs f).take k);have h2:=Px k (Cj vs f);omega
  have g:=u.below hB.out;have r:=aB.below hB.out;by_cases hc:k<pn
  .have aV:(k:Int)<pn:=ao9;have a1:(0:Int)<=(k:Int):=ao9;obtain⟨y,hy⟩:=Ge ((Cj vs f)) k (by have:=l.out;omega);obtain⟨b,a5,rfl,hb,aL⟩:=(ac.low hB.out).cell k y hy;have aQ:=Ae1 r aC.out y;have aD:=Apm (vs:=vs) (d:=⟨da,db,dc,dd⟩) hy;rw[<-hz]at aD;have aW:IntKind.i64.wrap ((z:Int)+1)=(z:Int)+1:=E0 _ ao9;replace⟨hy,aQ,aD,g,r,hz⟩:=H6 hy aQ aD g r hz;go_wp2_with fail;refine aQ.mono ?_;intro e w3 hN;obtain⟨⟨nm,⟨ca,cb,cc,cd⟩,qo,qn,qc,qs⟩,b3,rfl,s,av⟩:=Apl hN;clear hN;replace⟨s,av⟩:=H2 s av;go_upto_region 12 with fail;obtain⟨nb,aP⟩:=Ex (w3.heap.size);obtain⟨W4,aE⟩:=Ex (w3.alloc (J (⟨nm,⟨ca,cb,cc,cd⟩,qo,qn,qc,qs⟩:aw).cells 69 (0,0)));have aF:BW w3.heap.size w3 W4:=(by rw[aE];exact Bn);have am:W4.heap[nb]?=O (J (⟨nm,⟨ca,cb,cc,cd⟩,qo,qn,qc,qs⟩:aw).cells 69 (0,0)):=(by rw[aE,aP];exact Ah _ _);rw[<-aE,<-aP];have v:=(g.below av.out).below aF;have aI:=(hB.trans (av.mono hB.size)).trans (aF.mono (hB.trans (av.mono hB.size)).size);clear aE aP;have y3:=Bk v.box 3 (Z G da) rfl;have y4:=Bk v.box 4 (Z G db) rfl;have y5:=Bk v.box 5 (Z G dc) rfl;have y6:=Bk v.box 6 (Z G dd) rfl;have n1:=Bk am 1 (Z G ca) rfl;have n2:=Bk am 2 (Z G cb) rfl;have n3:=Bk am 3 (Z G cc) rfl;have n4:=Bk am 4 (Z G cd) rfl;have aH:=Ww ⟨da,db,dc,dd⟩ ⟨ca,cb,cc,cd⟩ W4;obtain⟨q,hq⟩:=Ex (V4.fits ⟨da,db,dc,dd⟩ ⟨ca,cb,cc,cd⟩);rw[<-hq]at aH;have o:=aD.out;rw[show Se vs y=⟨ca,cb,cc,cd⟩from s.symm,<-hq]at o;clear hq aD s aL;replace⟨aF,am,v,aI,aH,o⟩:=H6 aF am v aI aH o;go_wp2_with fail;refine aH.mono ?_;rintro e w5 ⟨rfl,aK⟩;have aJ:=aI.trans (aK.mono aI.size);clear y3 y4 y5 y6 n1 n2 n3 n4;replace⟨aK,aJ⟩:=H2 aK aJ
   cases q with
   | true=>
    go_wp2;go_roundw
    case rel=>exact⟨k+1,by go_num,ao9,by rw[o.out];first|rfl|simp,aJ.out⟩
    case measure=>simp[intOf];omega
   | false=>
    go_wp2;go_roundw
    case rel=>exact⟨k+1,by go_num,ao9,by rw[o.out];first|rfl|simp,aJ.out⟩
    case measure=>simp[intOf];omega
  .have aV:¬(k:Int)<pn:=ao9;have aU:k=pn:=ao9;have ao:z=Nf vs ⟨da,db,dc,dd⟩ (Cj vs f):=(by rw[hz,aU,<-l.out,Oy]);have y2:=Bk g.box 2 (Z G nodes) rfl
   have an:Cj vs f≠[]:=λc=>by have:=l.out;rw[c]at this;exact q0.out this.symm
   clear hz aU;by_cases q3:(z:Int)<nodes
   .replace ⟨g,r,ao,an⟩:=H4 g r ao an;go_wp2;go_ret;exact⟨by unfold C9;rw[Ab (by rw[j.out];simp),Ab an.out,Ad (by rw[<-ao.out];exact q3)];rfl,g.low⟩
   .replace ⟨g,r,ao,an⟩:=H4 g r ao an;go_wp2;go_ret;exact⟨by unfold C9;rw[Ab (by rw[j.out];simp),Ab an.out,Ab (by rw[<-ao.out];exact Int.not_lt.2 q3)];rfl,g.low⟩
def Aa3:(prog.info? 33).map (λi=>(i.zero,i.size,i.bytes))=O (O ax.zero.val,13,136):=by kernel_rfl
def ax.single (x:ax):ax:=⟨{ x.pl with array:=1 },x.so,x.n,x.c⟩
def Qk (s:dn):Nat:=if Cb s=true then s.array.toNat else 0
def L7 (c:Array VL) (base:Nat):List VL->Array VL
 | []=>c
 | v :: vs=>L7 (c.setIfInBounds base v) (base+1) vs
def setRow (W:WD) (g base:Nat):List VL->WD
 | []=>W
 | v :: vs=>setRow (W.setCell ⟨g,base,I⟩ v) g (base+1) vs
def Uj:∀(vs:List VL) (c:Array VL) (base:Nat),(L7 c base vs).size=c.size
 | [],_,_=>rfl
 | v :: vs,c,base=>by rw[L7,Uj vs];simp
def Aa4:∀(vs:List VL) (c:Array VL) (base i:Nat),i<base->(L7 c base vs)[i]?=c[i]?
 | [],_,_,_,_=>rfl
 | v :: vs,c,base,i,h=>by
  rw[L7,Aa4 vs _ _ _ ao9,Ny,Ab ao9]
def Af0:∀(vs:List VL) (c:Array VL) (base i:Nat),base+vs.length<=i->(L7 c base vs)[i]?=c[i]?
 | [],_,_,_,_=>rfl
 | v :: vs,c,base,i,h=>by
  simp only[D8]at h;rw[L7,Af0 vs _ _ _ ao9,Ny,Ab ao9]
def Af1:∀(vs:List VL) (c:Array VL) (base o:Nat),o<vs.length->base+vs.length<=c.size->(L7 c base vs)[base+o]?=vs[o]?
 | [],_,_,_,h,_=>by simp at h
 | v :: vs,c,base,0,h,hs=>by
  simp only[D8]at hs;rw[L7,Aa4 vs _ _ _ ao9,O0,Ny,Ad rfl,Ad ao9];rfl
 | v :: vs,c,base,o+1,h,hs=>by
  simp only[D8]at h hs;rw[L7,show base+(o+1)=base+1+o by omega,Af1 vs _ _ _ ao9 (by simp;omega)];rfl
def Aa5:∀(vs:List VL) {W:WD} {g base:Nat} {c:Array VL} {T:TypeId} {fr:Nat×Nat},W.heap[g]?=O (J c T fr)->(setRow W g base vs).heap[g]?=O (J (L7 c base vs) T fr)
 | [],_,_,_,_,_,_,h=>h
 | v :: vs,_,_,base,_,_,_,h=>Aa5 vs (Am h base v)
def Aa6:∀(vs:List VL) (W:WD) (g base:Nat),W.grownBy (setRow W g base vs) (O g)
 | [],W,_,_=>Aa0 W _
 | v :: vs,W,g,base=>Afs (Ue (Aa0 W _) v) (Aa6 vs _ g (base+1))
structure Sh (c:Array VL) (N:Nat) (xs:List ax):Prop where
 size:c.size=N*13
 done:∀j y,xs[j]?=O y->∀o,o<13->c[j*13+o]?=y.cells[o]?
 rest:∀j,xs.length<=j->j<N->∀o,o<13->c[j*13+o]?=ax.zero.cells[o]?
def Sh.next {c d:Array VL}  {xs:List ax} {y:ax} (h:Sh c N xs) (m:d.size=c.size) (l:∀o,o<13->d[xs.length*13+o]?=y.cells[o]?) (k:∀i,i<xs.length*13\/xs.length*13+13<=i->d[i]?=c[i]?):Sh d N (xs++[y]):=by
 refine⟨by rw[m,h.size],λj z b o a=>?_,λj b g o a=>?_⟩
 .by_cases e:j<xs.length
  .rw [Es e]at b;rw[k _ (.inl ao9)];exact h.done j z b o a
  .rw [Gb ao9]at b;have f:j-xs.length=0:=(by have:=(Ap.1 b).1;simp at this;omega);rw[f]at b
   have:z=y:=by simpa using b.symm
   subst this;rw[show j=xs.length by omega];exact l o a
 .simp only[Av,D8,Ib]at b;rw[k _ (.inr ao9)];exact h.rest j ao9 g o a
def Uk (n:Nat) (l:List Int) (W:WD) (e:Ending) (w':WD):Prop:=
 ∃so' c',e=Q (V so' n c')/\n<=c'/\Ao w' so' n l/\(∀b o,so'=O ⟨b,o,I⟩->o=0/\W.heap.size<=b/\b<w'.heap.size/\∃cc,w'.heap[b]?=O (J cc 3 (0,0)))/\BW W.heap.size W w'
structure Af2 (w:WD) (x:ax) (g N:Nat) (xs:List ax) (W:WD):Prop where
 low:BW w.heap.size w W
 vr:w.heap.size<g
 row:∃c,W.heap[g]?=O (J c 33 (0,0))/\Sh c N xs
 one:∀(j:Nat) (y:ax),xs[j]?=O y->y.pl=x.single.pl/\y.n=x.n/\y.n<=y.c/\Ao W y.so y.n x.pl.after/\∀b o,y.so=O ⟨b,o,I⟩->o=0/\g<b/\b<W.heap.size/\∃cc,W.heap[b]?=O (J cc 3 (0,0))
 apart:∀(i j:Nat) (y z:ax) (b o o':Nat),xs[i]?=O y->xs[j]?=O z->i<j->y.so=O ⟨b,o,I⟩->z.so≠O ⟨b,o',I⟩
structure Si (w:WD) (x:ax) (g N:Nat) (xs:List ax) (W:WD):Prop extends Af2 w x g N xs W where
 box:W.heap[w.heap.size]?=O (J x.cells 33 (0,0))
def Apx (x:ax) (w:WD) (e:Ending) (w':WD):Prop:=
 (Cb x.pl=false/\e=Q (V I 0 0)/\BW w.heap.size w w')\/(Cb x.pl=true/\∃g xs,e=Q (V (O ⟨g,0,I⟩) (Qk x.pl) (Qk x.pl))/\xs.length=Qk x.pl/\Af2 w x g (Qk x.pl) xs w')
def Si.next  {x:ax}  {xs:List ax} {W p:WD} (h:Si w x g N xs W) (hN:xs.length<N) (a:Option Addr) (m:Nat) (an:x.n<=m)
  (hi:Ao p a x.n x.pl.after) (r:∀b o,a=O ⟨b,o,I⟩->o=0/\W.heap.size<=b/\b<p.heap.size/\∃u,p.heap[b]?=O (J u 3 (0,0)))
  (hb:BW ((setRow W g (xs.length*13) x.cells.toList).setCell ⟨g,xs.length*13+9,I⟩ (Z G 1)).heap.size ((setRow W g (xs.length*13) x.cells.toList).setCell ⟨g,xs.length*13+9,I⟩ (Z G 1)) p) :
  Si w x g N (xs++[⟨x.single.pl,a,x.n,m⟩]) (p.setCell ⟨g,xs.length*13+12,I⟩ (V a x.n m)):=by
 obtain⟨c,ak,v⟩:=h.row;have ap:=Ac ak;have g1:=Aa6 x.cells.toList W g (xs.length*13);have g2:=Ue (o:=xs.length*13+9) g1 (Z G 1);have g3:=Afs g2 (Afr hb (O g));have g4:=Ue (o:=xs.length*13+12) g3 (V a x.n m);have r1:=Aa5 x.cells.toList (base:=xs.length*13) ak;have r2:=Am r1 (xs.length*13+9) (Z G 1);have r3:=Ae hb r2 (Ac r2);have r4:=Am r3 (xs.length*13+12) (V a x.n m);have aA:xs.length*13+13<=c.size:=by rw[v.size];omega
 have l:∀b,b≠g->b<W.heap.size->(p.setCell ⟨g,xs.length*13+12,I⟩ (V a x.n m)).heap[b]?=W.heap[b]?:=λb q am=>g4.block b am (λe=>q (by injection e with e));have av:=g3.size;have ac:(p.setCell ⟨g,xs.length*13+12,I⟩ (V a x.n m)).heap.size=p.heap.size:=by simp[World.setCell]
 refine⟨⟨Afu h.low g4 h.low.size (Rs h.vr),h.vr,⟨_,r4,v.next (y:=⟨x.single.pl,a,x.n,m⟩) ?_ ?_ ?_⟩,λj y t=>?_,λi j y z b o o' k d al hy hz=>?_⟩,(l _ (by have:=h.vr;omega) (Ac h.box)).trans h.box⟩
 .simp [Uj]
 .intro o ho;have f:x.cells.toList.length=13:=rfl;rw[Ny];by_cases ad:o=12
  .subst ad;rw[Ad rfl,Ad (by simp[Uj];omega)];rfl
  .rw [Ab ao9,Ny];by_cases e9:o=9
   .subst e9;rw[Ad rfl,Ad (by rw[Uj];omega)];rfl
   .rw [Ab ao9,Af1 _ _ _ _ (by rw[f];omega) (by rw[f];omega)]
    rcases(show o=0\/o=1\/o=2\/o=3\/o=4\/o=5\/o=6\/o=7\/o=8\/o=10\/o=11 by omega)with rfl|rfl|rfl|rfl|rfl|rfl|rfl|rfl|rfl|rfl|rfl<;>rfl
 .intro i k;have f:x.cells.toList.length=13:=rfl;rw[Ny,Ab ao9,Ny,Ab ao9];rcases k with h1|h1
  .exact Aa4 _ _ _ _ h1
  .exact Af0 _ _ _ _ (by rw[f];omega)
 .by_cases e:j<xs.length
  .rw [Es e]at t;obtain⟨a1,a2,a3,a4,a5⟩:=h.one j y t;refine⟨a1,a2,a3,Aft a4 g4 λb o e=>by have:=(a5 b o e).2.1;omega,λb o e=>?_⟩;obtain⟨b1,b2,b3,u,b4⟩:=a5 b o e;exact⟨b1,b2,by rw[ac];omega,u,(l b ao9 b3).trans b4⟩
  .rw [Gb ao9]at t;have s:j-xs.length=0:=(by have:=(Ap.1 t).1;simp at this;omega);rw[s]at t;have hy:y=⟨x.single.pl,a,x.n,m⟩:=(by simpa using t.symm);subst hy
   have q:∀b o,a=O ⟨b,o,I⟩->b≠g:=λb o e=>by have:=(r b o e).2.1;omega
   refine⟨rfl,rfl,an,Aft hi (Ue (Aa0 p (O g)) _) q,λb o e=>?_⟩;obtain⟨b1,b2,b3,u,b4⟩:=r b o e;exact⟨b1,ao9,by rw[ac];exact b3,u,Dg (q b o e) _ b4⟩
 .by_cases e:j<xs.length
  .rw [Es e]at d;rw[Es ao9]at k;exact h.apart i j y z b o o' k d al hy hz
  .rw [Gb ao9]at d;have s:j-xs.length=0:=(by have:=(Ap.1 d).1;simp at this;omega);rw[s]at d;have ao:z=⟨x.single.pl,a,x.n,m⟩:=(by simpa using d.symm);subst ao;have af:i<xs.length:=(by have:=(Ap.1 d).1;omega);rw[Es af]at k;have q1:=((h.one i y k).2.2.2.2 b o hy).2.2.1;have q2:=(r b o' hz).2.1;omega
structure L8 (w:WD) (so:Option Addr) (n:Nat) (xs:List ax):Prop where
 len:xs.length=n
 max:n<=9223372036854775807
 cell:∀(i:Nat) (x:ax),xs[i]?=O x->∃b off,so=O ⟨b,off,I⟩/\b<w.heap.size/\(∀j,j<13->w.cell? ⟨b,off+i*13+j,I⟩=x.cells[j]?)/\x.ok w
def L8.low   {n:Nat} {xs:List ax} (h:L8 w so n xs) (c:BW w.heap.size w w'):L8 w' so n xs:=
 ⟨h.len,h.max,λi x l=>by
  obtain⟨b,d,e,a,f,k⟩:=h.cell i x l
  exact⟨b,d,e,B4 a c.size,λj g=>(Af c a).trans (f j g),k.low c⟩⟩
end
section
open Go.RowKit Go.Maps Go.Lib
variable{js:List Jb}{k:Nat}
def Aqj (l:Lf) (h:ei l.st=true):ei (Ay l 7).1.st=false:=by
 unfold Ay;by_cases a:Kz l=false
 .rw [Ad a];rfl
 .rw [Ab a,Ad h];have e:Ei l 7=(⟨8,l.bp,l.left,l.wall,l.stop⟩,true):=by unfold Ei;rw[Ab ao9,Ab ao9,Ab ao9,Ad ao9]
  rw[e];rfl
def Kh (js:List Jb):Nat:=js.countP Jb.waits
def Aqk {α:Type} (p:α->Bool) (f:α->α):∀(l:List α) (k:Nat) (x:α),l[k]?=O x->p x=true->p (f x)=false->(l.modify k f).countP p+1=l.countP p:=by
 intro l
 induction l with
 | nil=>intro k x h;simp at h
 | cons y l ih=>
  intro k x h h1 a
  cases k with
  | zero=>
   simp at h;subst h;simp[h1,a]
  | succ k=>
   have:=ih k x (by simpa using h) h1 a;rw[Vv,We,We];omega
def Aql   (h:F1 js k=true):Kh (Gi js k)+1=Kh js:=by
 have a:=h;unfold F1 at a;unfold Gi;rw[Ad h]
 cases hj:js[k]? with
 | none=>rw[hj]at a;cases a
 | some j=>
  rw[hj]at a;simp only[D7]at a;exact Aqk _ _ _ _ _ hj a.1 (Aqj j.lf a.1)
def Xy   (h:F1 js k=false):Gi js k=js:=by
 unfold Gi;rw[Ab (by rw[h];simp)]
def Aqm (js:List Jb) (k:Nat):(Gi js k).length=js.length:=by
 unfold Gi;split
 .exact Lq _ _ _
 .rfl
def Aqn (js:List Jb) (n:Nat):(Ck js n).1.length=js.length:=by
 induction n with
 | zero=>rfl
 | succ n ih=>exact(Aqm _ _).trans ih
def Agf (js:List Jb) (n:Nat):((Ck js n).2=false/\(Ck js n).1=js)\/((Ck js n).2=true/\Kh (Ck js n).1<Kh js):=by
 induction n with
 | zero=>exact .inl ⟨rfl,rfl⟩
 | succ n ih=>
  show(((Ck js n).2 || F1 (Ck js n).1 n)=false/\Gi (Ck js n).1 n=js)\/(((Ck js n).2 || F1 (Ck js n).1 n)=true/\Kh (Gi (Ck js n).1 n)<Kh js)
  cases hh:F1 (Ck js n).1 n with
  | true=>
   have:=Aql hh;rcases ih with⟨h1,a⟩|⟨h1,a⟩
   .rw [a]at this;exact .inr ⟨as9,by rw[a];omega⟩
   .exact .inr ⟨as9,ao9⟩
  | false=>
   rw[Xy hh];rcases ih with⟨h1,a⟩|⟨h1,a⟩
   .exact .inl ⟨by rw[h1];rfl,a⟩
   .exact .inr ⟨by rw[h1];rfl,a⟩
def Agg (js:List Jb):(Cc js).1.length=js.length:=Aqn js _
def Aa8  (h:(Cc js).2=true):Kh (Cc js).1<Kh js:=by
 rcases Agf js js.length with⟨h1,_⟩|⟨_,a⟩
 .rw [Cc,h1]at h;cases h
 .exact a
def Aa9  (h:(Cc js).2=false):(Cc js).1=js:=by
 rcases Agf js js.length with⟨_,a⟩|⟨h1,_⟩
 .exact a
 .rw [Cc,h1]at h;cases h
def Aqo:∀(n m:Nat) (js:List Jb),Kh js<n->Kh js<m->Lz n js=Lz m js:=by
 intro n
 induction n with
 | zero=>intro m js h;omega
 | succ n ih=>
  intro m js h1 a
  cases m with
  | zero=>omega
  | succ m=>
   show(if (Cc js).2=true then Lz n (Cc js).1 else(Cc js).1)=(if (Cc js).2=true then Lz m (Cc js).1 else(Cc js).1);by_cases h:(Cc js).2=true
   .rw [Ad h,Ad h];have:=Aa8 h;exact ih m _ ao9 ao9
   .rw [Ab h,Ab h]
def Agh (js:List Jb):Kh js<=js.length:=Vw
def Aqp (js:List Jb):Co js=if (Cc js).2=true then Co (Cc js).1 else js:=by
 show(if (Cc js).2=true then Lz js.length (Cc js).1 else(Cc js).1)=_;by_cases h:(Cc js).2=true
 .rw [Ad h,Ad h];have h1:=Aa8 h;have a:=Agh js;have b:=Agh (Cc js).1;exact Aqo _ _ _ ao9 ao9
 .rw [Ab h,Ab h];exact Aa9 (by simpa using h)
def Aqq (n:Nat):∀js:List Jb,(Lz n js).length=js.length:=by
 induction n with
 | zero=>intro js;rfl
 | succ n ih=>
  intro js;show(if (Cc js).2=true then Lz n (Cc js).1 else(Cc js).1).length=_;split
  .rw [ih,Agg]
  .exact Agg js
def Xz (js:List Jb):(Co js).length=js.length:=Aqq _ js
def Aba {P:List Jb->Prop} (c:∀js k,P js->F1 js k=true->P (Gi js k))  (h:P js):P (Co js):=by
 have a:∀(n:Nat) (js:List Jb),P js->P (Ck js n).1:=by
  intro n
  induction n with
  | zero=>intro js h;exact h
  | succ n ih=>
   intro js h;show P (Gi (Ck js n).1 n)
   cases hh:F1 (Ck js n).1 n with
   | true=>exact c _ _ (ih js h) hh
   | false=>rw[Xy hh];exact ih js h
 have b:∀(n:Nat) (js:List Jb),P js->P (Lz n js):=by
  intro n
  induction n with
  | zero=>intro js h;exact h
  | succ n ih=>
   intro js h;show P (if (Cc js).2=true then Lz n (Cc js).1 else(Cc js).1);split
   .exact ih _ (a _ _ h)
   .exact a _ _ h
 exact b _ _ h
end
section
open Go.RowKit Go.Maps Go.Shelf Go.Sort
variable{p:ByteArray}{y:Int}{vs:List ay}
def Axf (N:Nat):Sh (madeCells ax.zero.cells (N*13)) N []:=by
 refine⟨size_madeCells _ _,λj y h=>by simp at h,λj _ e o c=>?_⟩;have a:j*13+o<N*13:=ao9
 unfold madeCells;rw[Array.getElem?_map,Array.getElem?_range,Ad a];have b:ax.zero.cells.size=13:=rfl;have d:(j*13+o) % 13=o:=ao9
 simp only[J8,b,d];rw[Rf (by rw[b];exact c),getElem!_pos _ _ (by rw[b];exact c)]
def Yx (so:Option Addr) (n c:Nat) (l:List Int) (W:WD) (h:Ao W so n l) (hn:n<=1000):CS prog 87 #[V so n c] W (Uk n l W):=by
 have u:=h.len
 have m:∀d w',w'.ownsRow W.heap.size 3 1 d n (Bj l)->BW W.heap.size W w'->d≠V I 0 0->Uk n l W (Q d) w':=λd w' f k a=>by
  have hO:Aj w' W.heap.size d l:=⟨by rw[u];exact f⟩;rcases f.2 with⟨r,_⟩|⟨g,cap,s,r,hg,hh,z,_⟩
  .exact absurd r a
  .obtain ⟨al,n2,c2,q,v,hi,af⟩:=Ob hO;rw[r]at q;injection q with e3 e4 e5;subst e3;subst e4;subst e5;refine⟨_,_,by rw[r],v,hi,λb o e=>?_,k⟩;injection e with e;injection e with e1 q;subst e1;subst q;exact⟨rfl,hg,Ac hh,s,hh⟩
 cases so with
 | none=>
  have h0:n=0:=by
   cases n with
   | zero=>rfl
   | succ n=>
    obtain⟨x,y⟩:=h.get (i:=0) ao9;obtain⟨b,p,e,_⟩:=h.cell 0 x y;cases e
  subst h0;have:l=[]:=Fv.1 u;subst this;refine(Tryz.slices_Clone_int_nil 0 c W).mono ?_;rintro e w' ⟨rfl,rfl⟩;exact⟨I,0,rfl,Nat.le_refl _,Qi _,nofun,Below.refl _ _⟩
 | some ad=>
  by_cases h0:n=0
  .subst h0;have:l=[]:=Fv.1 u;subst this;refine(Tryz.slices_Clone_int_zero ad c W).mono ?_;rintro e w' ⟨d,rfl,f,a,k⟩;exact m d w' f k a
  .obtain ⟨x,y⟩:=h.get (i:=0) ao9;obtain⟨b,p,e,_⟩:=h.cell 0 x y;cases e;refine(Tryz.slices_Clone_int b p n c l W ao9 ao9 λj t=>?_).mono ?_
   .obtain ⟨b',ac,e,_,hc⟩:=h.cell j (l[j]'t) (by simp[t]);cases e;rw[hc];simp[List.getD,t]
   .rintro e w' ⟨d,rfl,f,a,k⟩;rw[Dd ao9]at f;exact m d w' f k a
def Axg (i:TypeInfo) (c:prog.info? 33=O i) (e:i.zero=O ax.zero.val) (d:i.size=13) (b:i.bytes=136) (n:Nat) (f:n<=1000) (w:WD) :
  (Instr.makeSlice 38 (Z G (n:Int)) (Z G (n:Int))).run prog w=.ok (V (O ⟨w.heap.size,0,I⟩) n n) (w.alloc (J (madeCells ax.zero.cells (n*13)) 33 (0,0))):=by
 have a:=Rv (P:=prog) w 38 33 i ax.zero.val underlying38 c e G G (n:Int) (n:Int) ao9 ao9 (by rw[b];omega) ao9;simp only[J7,d]at a;exact a
def Axh (x:ax) (w:WD) (hx:x.ok w):CS prog 128 #[x.val] w (Apx x w):=by
 obtain⟨a1,ap,aA,r,s⟩:=B6 Aa3;have m:=Ke.new w x;have hk:=Ud x _ (m.ok hx);by_cases hs:Cb x.pl=true;rotate_left
 .have aO:Cb x.pl=false:=by simpa using hs
  have he:L1 x.pl=80:=Ab hs;rw[he]at hk;obtain⟨⟨ad,v,nodes,⟨da,db,dc,dd⟩,af,ac,array,ae,u,after⟩,so,n,cp⟩:=x;replace⟨hk,m,hx,hs,aO,he⟩:=H6 hk m hx hs aO he;go_enter func128,ntmps128;go_wp2_with fail;refine hk.mono ?_;rintro e w1 ⟨rfl,hb⟩;have d:=m.below hb;replace⟨d,hb⟩:=H2 d hb;go_wp2;go_ret;exact .inl ⟨aO.out,rfl,d.low⟩
 have he:L1 x.pl=0:=Ad hs;rw[he]at hk;obtain⟨_,_,_,q4,_,_,_,q8,_⟩:=Fg hs;have aP:=R9 q4;have aJ:=hx.after.len;obtain⟨b1,b2⟩:=C8.1 q8;obtain⟨N,hN⟩:∃N:Nat,x.pl.array=N:=⟨x.pl.array.toNat,ao9⟩;have hn:Qk x.pl=N:=by unfold Qk;rw[Ad hs,hN];rfl
 rw[hN]at b1 b2;obtain⟨⟨ad,v,nodes,⟨da,db,dc,dd⟩,af,ac,array,ae,u,after⟩,so,n,cp⟩:=x;have aW:array=N:=hN;subst aW;clear hN;have a8:n<=8:=by have h1:after.length=n:=aJ;have h2:after.length<=8:=aP;omega
 obtain⟨X,hX⟩:∃X:ax,X=⟨⟨ad,v,nodes,⟨da,db,dc,dd⟩,af,ac,(N:Int),ae,u,after⟩,so,n,cp⟩:=⟨_,rfl⟩;have a7:=λW=>Axg a1 ap aA r s N ao9 W;have a4:N<=20:=ao9
 replace⟨hk,m,hx,hs,he,q4,aP,aJ⟩:=H8 hk m hx hs he q4 aP aJ;replace⟨q8,hn,hX,ap,aA,r,s⟩:=H7 q8 hn hX ap aA r s;go_enter func128,ntmps128;go_wp2_with fail;refine hk.mono ?_;rintro e w1 ⟨rfl,hb⟩;have d:=m.below hb;have y9:=Bk d.box 9 (Z G (N:Int)) rfl;obtain⟨g,hg⟩:=Ex (w1.heap.size);have aG:Si w X g N [] (w1.alloc (J (madeCells ax.zero.cells (N*13)) 33 (0,0))):=by rw[hX.out,hg];exact⟨⟨d.low.alloc d.low.size _,Ac d.box,⟨_,Ah _ _,Axf N⟩,(λj y h=>by simp at h),(λi j y z b o o' h=>by simp at h)⟩,Ak _ d.box⟩
 replace⟨d,hb,aG,hg⟩:=H4 d hb aG hg;go_wp2;rw[<-hg.out];clear y9;go_loopw [4,13] (λ_ iv wr=>∃(k:Nat) (xs:List ax),iv=Z G k/\k<=N/\Hid (xs.length=k)/\Hid (Si w X g N xs wr)) (λ_ iv _=>N-(intOf iv).toNat)
 case atStart=>exact⟨0,[],rfl,Ar _,rfl,aG.out⟩
 case round=>
  obtain⟨k,xs,rfl,a6,am,hE⟩:=hrel;by_cases t:k<N
  .have aY:(k:Int)<N:=ao9;have a5:(0:Int)<=(k:Int):=ao9;have hM:Hid (Ke w ⟨⟨ad,v,nodes,⟨da,db,dc,dd⟩,af,ac,(N:Int),ae,u,after⟩,so,n,cp⟩ wr):=(by have h:=hE.box;rw[hX.out]at h;exact⟨hE.low,h⟩);obtain⟨cc,f,a⟩:=hE.row;have c:=Nat.le_of_eq am.out;obtain⟨y0,y1,y2,y3,y4,y5,y6,y7,y8,y9,aT,aU,aE⟩:=C13 hM.box;(try dsimp only at y0 y1 y2 y3 y4 y5 y6 y7 y8 y9 aT aU aE);have z0:wr.cell? ⟨g,k*13,I⟩=O (E ByteArray.empty):=(Aa f (k*13)).trans (a.rest k c t 0 ao9);have z1:wr.cell? ⟨g,k*13+1,I⟩=O (E ByteArray.empty):=(Aa f (k*13+1)).trans (a.rest k c t 1 ao9);have z2:wr.cell? ⟨g,k*13+2,I⟩=O (Z G 0):=(Aa f (k*13+2)).trans (a.rest k c t 2 ao9);have z3:wr.cell? ⟨g,k*13+3,I⟩=O (Z G 0):=(Aa f (k*13+3)).trans (a.rest k c t 3 ao9);have z4:wr.cell? ⟨g,k*13+4,I⟩=O (Z G 0):=(Aa f (k*13+4)).trans (a.rest k c t 4 ao9);have z5:wr.cell? ⟨g,k*13+5,I⟩=O (Z G 0):=(Aa f (k*13+5)).trans (a.rest k c t 5 ao9);have z6:wr.cell? ⟨g,k*13+6,I⟩=O (Z G 0):=(Aa f (k*13+6)).trans (a.rest k c t 6 ao9);have z7:wr.cell? ⟨g,k*13+7,I⟩=O (Z G 0):=(Aa f (k*13+7)).trans (a.rest k c t 7 ao9);have z8:wr.cell? ⟨g,k*13+8,I⟩=O (Z G 0):=(Aa f (k*13+8)).trans (a.rest k c t 8 ao9);have z9:wr.cell? ⟨g,k*13+9,I⟩=O (Z G 0):=(Aa f (k*13+9)).trans (a.rest k c t 9 ao9);have a2:wr.cell? ⟨g,k*13+10,I⟩=O (Z G 0):=(Aa f (k*13+10)).trans (a.rest k c t 10 ao9);have a3:wr.cell? ⟨g,k*13+11,I⟩=O (Y false):=(Aa f (k*13+11)).trans (a.rest k c t 11 ao9);have aV:wr.cell? ⟨g,k*13+12,I⟩=O (V I 0 0):=(Aa f (k*13+12)).trans (a.rest k c t 12 ao9);have fg:=Ag f;have aZ:g≠w.heap.size:=(by have:=hE.vr;omega);obtain⟨W4,aH⟩:=Ex (((((((((((((((wr.setCell ⟨g,k*13,I⟩ (E ad)).setCell ⟨g,k*13+1,I⟩ (E v)).setCell ⟨g,k*13+2,I⟩ (Z G nodes)).setCell ⟨g,k*13+3,I⟩ (Z G da)).setCell ⟨g,k*13+4,I⟩ (Z G db)).setCell ⟨g,k*13+5,I⟩ (Z G dc)).setCell ⟨g,k*13+6,I⟩ (Z G dd)).setCell ⟨g,k*13+7,I⟩ (Z G af)).setCell ⟨g,k*13+8,I⟩ (Z G ac)).setCell ⟨g,k*13+9,I⟩ (Z G (N:Int))).setCell ⟨g,k*13+10,I⟩ (Z G ae)).setCell ⟨g,k*13+11,I⟩ (Y u)).setCell ⟨g,k*13+12,I⟩ (V so n cp)).setCell ⟨g,k*13+9,I⟩ (Z G 1)));have l:W4=(setRow wr g (xs.length*13) X.cells.toList).setCell ⟨g,xs.length*13+9,I⟩ (Z G 1):=(by rw[aH,hX.out,am.out];rfl);have ao:wr.grownBy W4 (O g):=(by rw[l];exact Ue (Aa6 _ _ _ _) _);have q:=Afu hE.low ao hE.low.size (Rs hE.vr);have aK:Ao W4 so n after:=(hx.low q).after;have aD:=Yx so n cp after W4 aK ao9;unfold Uk at aD;have aQ:=(ao.block _ (Ac hM.box) (λe=>aZ (by injection e with e;exact e.symm))).trans hM.box;have al:∃c4,W4.heap[g]?=O (J c4 33 (0,0))/\c4.size=N*13:=(by rw[l];exact⟨_,Am (Aa5 _ f) _ _,by simp[Uj,a.size]⟩);obtain⟨c4,al,aR⟩:=al;obtain⟨aS,av⟩:∃aS,c4[k*13+12]?=O aS:=⟨_,Rf ao9⟩;replace⟨hM,f,a,c,l,ao,q,aK⟩:=H8 hM f a c l ao q aK;replace⟨aD,aQ,al,aR,av⟩:=H5 aD aQ al aR av;go_upto_region 9 with fail;rw[<-aH];clear aH;clear y0 y1 y2 y3 y4 y5 y6 y7 y8 y9 aT aU aE z0 z1 z2 z3 z4 z5 z6 z7 z8 z9 a2 a3 aV;have aE:=Bk aQ.out 12 (V so n cp) rfl;go_wp2_with fail;refine aD.mono ?_;rintro e w5 ⟨aB,c',rfl,aM,aL,an,aC⟩;have h5:=Ae aC al.out (Ac al.out);have aV:=(Aa h5 _).trans av.out;have f5:=Ag h5
   have aN:Si w X g N (xs++[⟨X.single.pl,aB,n,c'⟩]) (w5.setCell ⟨g,k*13+12,I⟩ (V aB n c')):=by
    have aF:=aC;rw[l.out]at aF;have aI:X.n=n:=(by rw[hX.out]);have aX:X.pl.after=after:=by rw[hX.out]
    have h:=hE.next (by rw[am.out];exact t) aB c' (by rw[aI];exact aM) (by rw[aI,aX];exact aL) (λb o e=>by
     obtain⟨e1,e2,e3,e4⟩:=an b o e
     exact⟨e1,Aw ao.size e2,e3,e4⟩) aF
    rw[aI,am.out]at h;exact h
   have p:(xs++[(⟨X.single.pl,aB,n,c'⟩:ax)]).length=k+1:=(by rw[Av,am.out];rfl);clear aE;replace⟨aM,aL,an,aC,h5,aN,p⟩:=H7 aM aL an aC h5 aN p;go_wp2;go_roundw
   case rel=>exact⟨k+1,xs++[(⟨X.single.pl,aB,n,c'⟩:ax)],by go_num,ao9,p.out,aN.out⟩
   case measure=>simp[intOf];omega
  .have aY:¬(k:Int)<N:=ao9;have a0:k=N:=ao9;subst a0;go_wp2;go_ret;have h:=hE.toAf2;rw[hX.out]at h;refine .inr ⟨hs.out,g,xs,?_,?_,?_⟩
   .rw [hn.out];rfl
   .rw [am.out,hn.out]
   .rw [hn.out];exact h
def A00:∀ {k:Nat},y∈I5 k vs p->∃i:Nat,y=i/\k<=i/\i<k+vs.length:=by
 induction vs with
 | nil=>intro k h;simp[I5]at h
 | cons v vs ih=>
  intro k h;rw[I5]at h;rw[D8];split at h
  .rcases Eh.1 h with h|h
   .exact ⟨k,h,Nat.le_refl _,ao9⟩
   .obtain ⟨i,e,h1,a⟩:=ih h;exact⟨i,e,ao9,ao9⟩
  .obtain ⟨i,e,h1,a⟩:=ih h;exact⟨i,e,ao9,ao9⟩
def A01   {k:Nat}  (h:(Cj vs p)[k]?=O y):∃i:Nat,y=i/\i<vs.length:=by
 obtain⟨i,e,_,a⟩:=A00 (Ai h);exact⟨i,e,ao9⟩
