/- Parts of a proof. No condition. -/
import Derived.Laws.AppendOwnNone
import Derived.Test.YtimlcnhcjndijaaGreatDoorF11
import Derived.Test.YtimlcnhcjndijaaGreatDoorF02
set_option linter.all false
set_option maxRecDepth 100000
set_option maxHeartbeats 3200000
namespace Go.Proofs.YtimlcnhcjndijaaGreatDoor
open Go renaming World->WD,Value->VL,Calls->CS
open Go.RowKit renaming Below->BW
open Go.Proofs.Tryz
section
open Go.RowKit Go.Maps Go.Lib
def Al8 (a b c d:Int) (j:Nat) (e:j<4) (w:WD):(Instr.index 30 (.agg #[.int .i64 a,.int .i64 b,.int .i64 c,.int .i64 d]) (.int .i64 (j:Int))).run prog w=.ok (.int .i64 (V4.get ⟨a,b,c,d⟩ j)) w:=by
 rcases (show j=0\/j=1\/j=2\/j=3 by omega) with rfl | rfl | rfl | rfl<;>kernel_rfl
end
section
open Go.RowKit Go.Maps Go.Shelf
variable{l:List Int}{k:Nat}
def vz (d:Nat) (a b:Int) (w:WD):(Op.equalIn (d+1) 3 (.int .i64 a) (.int .i64 b)).run prog w=.ok (a == b) w:=by
 simp [Op.equalIn,Mu D2]
def Z1:prog.cellsOf 3=1:=by kernel_rfl
def Ana (f:Nat) (u v:V4) (w:WD):(Op.equalIn (f+2) 30 u.val v.val).run prog w=.ok (decide (u=v)) w:=by
 obtain ⟨q,e,o,g,p⟩:=Cb M1;show (Op.equalIn ((f+1)+1) 30 u.val v.val).run prog w=_;rw [run_equalIn_array w (f+1) _ _ Y5 e,Z1];show (Op.eqItems (f+1) 3 1 _ _ [0,1,2,3]).run prog w=_;obtain ⟨a,b,c,d⟩:=u;obtain ⟨h,i,j,k⟩:=v
 by_cases h1:a=h<;>by_cases l:b=i<;>by_cases m:c=j<;>by_cases n:d=k
 all_goals
  simp [Op.eqItems,vz,part,sizeOf,typeInfo,e,g,h1,l,m,n]
def Z2 (u v:V4) (w:WD):(Op.equalIn 10000 30 u.val v.val).run prog w=.ok (decide (u=v)) w:=Ana 9998 u v w
def Aeg (vs:List au) (i:Int) (w:WD) (e:Ending) (w':WD):Prop:=
 ∃ (x:aq) (b:Bool),e=.returned (.tuple #[x.val,.bool b])/\x.ok w'/\BW w.heap.size w w'/\(∀ bb off,x.po=some ⟨bb,off,none⟩->w.heap.size<=bb/\∃ c,w'.heap[bb]?=some (.cells c 9 (0,0))) /\
  ((b=true/\0<=i/\vs[i.toNat]?=some x.pl)\/(b=false/\x=aq.zero/\(i<0\/(vs.length:Int)<=i)))
def Aeh {w:WD} {fb mb base:Nat} {vs:List au} (h:ju w fb mb base vs) (aD:Iq vs) (i:Int):CS prog 44 #[.pointer (some ⟨fb,0,none⟩),.int .i64 i] w (Aeg vs i w):=by
 obtain ⟨W0,f⟩:=Ex (w.alloc (.cells aq.zero.cells 69 (0,0)));have m:BW w.heap.size w W0:=by rw [f];exact Bn
 have u:W0.heap[w.heap.size]?=some (.cells aq.zero.cells 69 (0,0)):=by rw [f];exact Ah _ _
 have y:W0.heap.size=w.heap.size+1:=by rw [f];simp
 have s:=h.below m;have t:=Aea s;obtain ⟨n,hn⟩:=Ex (vs.length);rw [<- hn] at t;rw [f] at t;have aZ:=aD.len;rw [<- hn] at aZ;by_cases aO:i<0
 .have aW:=Av aO;have l:i<0\/(vs.length:Int)<=i:=.inl aO;replace ⟨m,u,y,s,t,hn,l⟩:=H7 m u y s t hn l;have ap:=Hh f;clear f;go_enter func44,ntmps44;go_wp2;refine Ak (v:=.tuple #[aq.zero.val,.bool false]) (by simp [results,results44,go_sem,aq.zero,V4.zero]<;>rfl) rfl ⟨aq.zero,false,rfl,⟨Rs _,Nat.le_refl _⟩,Bn,fun b r e=>(by cases e),.inr ⟨rfl,rfl,l.out⟩⟩
 have aW:=Ax aO;by_cases aN:(n:Int)<=i
 .have aV:=Av aN;have l:i<0\/(vs.length:Int)<=i:=.inr (by rw [<- hn];exact aN);replace ⟨m,u,y,s,t,hn,l⟩:=H7 m u y s t hn l;have ap:=Hh f;clear f;go_enter func44,ntmps44;go_wp2_with fail;refine t.mono ?_;rintro e w1 ⟨rfl,rfl⟩;go_wp2;refine Ak (v:=.tuple #[aq.zero.val,.bool false]) (by simp [results,results44,go_sem,aq.zero,V4.zero]<;>rfl) rfl ⟨aq.zero,false,rfl,⟨Rs _,Nat.le_refl _⟩,Bn,fun b r e=>(by cases e),.inr ⟨rfl,rfl,l.out⟩⟩
 have aV:=Ax aN;obtain ⟨k,rfl⟩:∃ k:Nat,i=k:=⟨i.toNat,by omega⟩;have a1:(k:Int)<n:=by omega
 have a3:(0:Int)<=(k:Int):=by omega
 have a0:decide (n<=k)=false:=Ax (by omega);obtain ⟨nv,xs,h1,h2,h3⟩:=s.ex;have aP:n=xs.length:=by rw [hn,<- h2,At]
 obtain ⟨x,hx⟩:=Ge xs k (by omega);obtain ⟨g,cap,rfl⟩:=Joins.ownsRow_form h1.row (by omega);obtain ⟨g',e1,_,_,a⟩:=h1.cell hx;have e2:g=g':=by simpa [Value.ownBlock] using e1
 subst e2;have aH:vs[k]?=some x.pl:=by rw [<- h2];exact Zv hx
 have aE:=(aD.all x.pl (Ai aH)).ok.one;have aC:=(aD.all x.pl (Ai aH)).ml;have ao:=(h1.ok x (Ai hx)).1;obtain ⟨nm,⟨ca,cb,cc,cd⟩,po,pn,pc,ps⟩:=x;have aJ:ps.length=pn:=ao.parts.len;have al:1<=ps.length:=aE;have ac:ps.length<=8:=aC;obtain ⟨y0,aR⟩:=ao.parts.get (i:=0) (by show 0<pn;omega);obtain ⟨b,r,e,a2,_⟩:=ao.parts.cell 0 y0 aR;have e':po=some ⟨b,r,none⟩:=e;subst e';have z0:W0.cell? ⟨g,k*6,none⟩=some (.string nm):=a 0 (by omega);have z1:W0.cell? ⟨g,k*6+1,none⟩=some (.int .i64 ca):=a 1 (by omega);have z2:W0.cell? ⟨g,k*6+2,none⟩=some (.int .i64 cb):=a 2 (by omega);have z3:W0.cell? ⟨g,k*6+3,none⟩=some (.int .i64 cc):=a 3 (by omega);have z4:W0.cell? ⟨g,k*6+4,none⟩=some (.int .i64 cd):=a 4 (by omega);have z5:W0.cell? ⟨g,k*6+5,none⟩=some (.slice (some ⟨b,r,none⟩) pn pc):=a 5 (by omega);have f0:W0.cell? ⟨fb,0,none⟩=some (.slice (some ⟨g,0,none⟩) n cap):=by rw [aP];exact Aa h1.head 0
 obtain ⟨W1,av⟩:=Ex (W0.alloc (.cells (⟨nm,⟨ca,cb,cc,cd⟩,some ⟨b,r,none⟩,pn,pc,ps⟩:aq).cells 69 (0,0)));have am:BW W0.heap.size W0 W1:=by rw [av];exact Bn
 have aF:W1.heap[w.heap.size+1]?=some (.cells (⟨nm,⟨ca,cb,cc,cd⟩,some ⟨b,r,none⟩,pn,pc,ps⟩:aq).cells 69 (0,0)):=by rw [av];exact A3 _ _ y.symm
 have aI:=ao.low am
 have aB:=Tryz.slices_Clone_string b r pn pc ps W1 (by omega) (by omega) fun j hj=>by
  obtain ⟨b',aL,e,_,hc⟩:=aI.parts.cell j (ps[j]'hj) (by simp [hj]);cases e;rw [hc];simp [List.getD,hj]
 rw [C8 (by omega)] at aB;have p5:=Bk aF 5 (.slice (some ⟨b,r,none⟩) pn pc) rfl;replace ⟨m,u,y,s,hn,aP,hx,h1⟩:=H8 m u y s hn aP hx h1;replace ⟨h2,h3,aH,aE,aC,ao,aJ,al⟩:=H8 h2 h3 aH aE aC ao aJ al;replace ⟨ac,aR,am,aF,aI,aB,a,e1⟩:=H8 ac aR am aF aI aB a e1;replace ⟨aD,h,p5⟩:=H3 aD h p5;rw [av,f] at aB p5;rw [f] at z0 z1 z2 z3 z4 z5 f0;have ap:=Hh f;have aK:=Hh av;clear f av;go_enter func44,ntmps44;go_wp2_with fail;refine t.mono ?_;rintro e w1 ⟨rfl,rfl⟩;go_wp2_with fail;refine aB.mono ?_;rintro e w3 ⟨v',rfl,d,o,an⟩;rw [<- ap.out,<- aK.out] at d an;have aU:0<pn:=by have:=al.out;have:=aJ.out;omega
 obtain ⟨z,c,rfl⟩:=Joins.ownsRow_form d aU;have aY:=Rf d z rfl;have aS:W1.heap.size=w.heap.size+2:=by rw [aK.out,I2,y.out]
 have aQ:=Adh d (by have:=ac.out;have:=aJ.out;omega);have aA:=Adg d;have aM:=Adf d;have q:=Ae an (Ae am.out u.out (Ab u.out)) (by omega);have p:=Ae an aF.out (Ab aF.out);have ad:=m.trans ((am.trans (an.mono am.size)).mono m.size);have c0:=Bk p 0 (.string nm) rfl;have c1:=Bk p 1 (.int .i64 ca) rfl;have c2:=Bk p 2 (.int .i64 cb) rfl;have c3:=Bk p 3 (.int .i64 cc) rfl;have c4:=Bk p 4 (.int .i64 cd) rfl;have c5:=Bk p 5 (.slice (some ⟨b,r,none⟩) pn pc) rfl;have fq:=Af p;have b0:=Bk q 0 (.string ByteArray.empty) rfl;have b1:=Bk q 1 (.int .i64 0) rfl;have b2:=Bk q 2 (.int .i64 0) rfl;have b3:=Bk q 3 (.int .i64 0) rfl;have b4:=Bk q 4 (.int .i64 0) rfl;have b5:=Bk q 5 (.slice none 0 0) rfl;have fr:=Af q
 have he:∀ v v0 v1 v2 v3 v4 v5,BW w.heap.size w (((((((w3.setCell ⟨w.heap.size+1,5,none⟩ v).setCell ⟨w.heap.size,0,none⟩ v0).setCell ⟨w.heap.size,1,none⟩ v1).setCell ⟨w.heap.size,2,none⟩ v2).setCell ⟨w.heap.size,3,none⟩ v3).setCell ⟨w.heap.size,4,none⟩ v4).setCell ⟨w.heap.size,5,none⟩ v5):=fun v v0 v1 v2 v3 v4 v5=>
  ((((((ad.setCell (Dx _) _).setCell Ln _).setCell Ln _).setCell Ln _).setCell Ln _).setCell Ln _).setCell Ln _
 have ai:∀ v v0 v1 v2 v3 v4 v5,(((((((w3.setCell ⟨w.heap.size+1,5,none⟩ v).setCell ⟨w.heap.size,0,none⟩ v0).setCell ⟨w.heap.size,1,none⟩ v1).setCell ⟨w.heap.size,2,none⟩ v2).setCell ⟨w.heap.size,3,none⟩ v3).setCell ⟨w.heap.size,4,none⟩ v4).setCell ⟨w.heap.size,5,none⟩ v5).heap[z]?=w3.heap[z]?:=fun v v0 v1 v2 v3 v4 v5=>by
  have o:z≠w.heap.size:=by omega
  have aT:z≠w.heap.size+1:=by omega
  rw [Er o,Er o,Er o,Er o,Er o,Er o,Er aT]
 have aG:∀ v v0 v1 v2 v3 v4 v5,(((((((w3.setCell ⟨w.heap.size+1,5,none⟩ v).setCell ⟨w.heap.size,0,none⟩ v0).setCell ⟨w.heap.size,1,none⟩ v1).setCell ⟨w.heap.size,2,none⟩ v2).setCell ⟨w.heap.size,3,none⟩ v3).setCell ⟨w.heap.size,4,none⟩ v4).setCell ⟨w.heap.size,5,none⟩ v5).heap.size=w3.heap.size:=fun v v0 v1 v2 v3 v4 v5=>by simp [World.setCell]
 clear z0 z1 z2 z3 z4 z5 f0;replace ⟨d,o,an,aQ,aA,q,p,ad⟩:=H8 d o an aQ aA q p ad;replace ⟨he,ai,aG,aS⟩:=H4 he ai aG aS;go_wp2;refine Ak (v:=.tuple #[(⟨nm,⟨ca,cb,cc,cd⟩,some ⟨z,0,none⟩,pn,c,ps⟩:aq).val,.bool true]) (by simp [results,results44,go_sem,b0,b1,b2,b3,b4,b5]) rfl ?_;have hX:=ai (.slice (some ⟨z,0,none⟩) pn c) (.string nm) (.int .i64 ca) (.int .i64 cb) (.int .i64 cc) (.int .i64 cd) (.slice (some ⟨z,0,none⟩) pn c);have hY:=aG (.slice (some ⟨z,0,none⟩) pn c) (.string nm) (.int .i64 ca) (.int .i64 cb) (.int .i64 cc) (.int .i64 cd) (.slice (some ⟨z,0,none⟩) pn c);have hZ:=he (.slice (some ⟨z,0,none⟩) pn c) (.string nm) (.int .i64 ca) (.int .i64 cb) (.int .i64 cc) (.int .i64 cd) (.slice (some ⟨z,0,none⟩) pn c);generalize ((((((w3.setCell ⟨w.heap.size+1,5,none⟩ (.slice (some ⟨z,0,none⟩) pn c)).setCell ⟨w.heap.size,0,none⟩ (.string nm)).setCell ⟨w.heap.size,1,none⟩ (.int .i64 ca)).setCell ⟨w.heap.size,2,none⟩ (.int .i64 cb)).setCell ⟨w.heap.size,3,none⟩ (.int .i64 cc)).setCell ⟨w.heap.size,4,none⟩ (.int .i64 cd)).setCell ⟨w.heap.size,5,none⟩ (.slice (some ⟨z,0,none⟩) pn c)=X at hX hY hZ ⊢;obtain ⟨c9,aX⟩:=aA.out;refine ⟨⟨nm,⟨ca,cb,cc,cd⟩,some ⟨z,0,none⟩,pn,c,ps⟩,true,rfl,⟨N1 aQ.out (Nat.le_of_eq hY.symm) fun b' aL e' _=>by cases e';exact hX,aM⟩,hZ,fun b' aL e'=>?_,.inl ⟨rfl,by omega,?_⟩⟩
 .have e2:z=b':=by injection e' with e';injection e' with e'
  subst e2;exact ⟨by have:=aS.out;have:=aY.1;omega,c9,hX.trans aX⟩
 .show vs[k]?=_;rw [aH.out];rfl
structure dn where
 user:ByteArray
 part:ByteArray
 nodes:Int
 cq:V4
 wall:Int
 prio:Int
 array:Int
 ae:Int
 held:Bool
 after:List Int
deriving DecidableEq
def dn.zero:dn:=⟨ByteArray.empty,ByteArray.empty,0,V4.zero,0,0,0,0,false,[]⟩
def K8 (l:List Int) (x:Int):Bool:=l.any fun y=>decide (y=x)
def o8 (n:Int):Bool:=decide (n≠0) && decide (-8<=n) && decide (n<=1099511627776)
def L3 (l:List Int):Nat->Bool
 | 0=>true
 | k+1=>L3 l k && (o8 (l.getD k 0) && !K8 (l.take k) (l.getD k 0))
def K9 (l:List Int):Bool:=decide (l.length<=8) && L3 l l.length
def D5 (n lo hi:Int):Bool:=decide (lo<=n) && decide (n<=hi)
def Ru (v:V4):Bool:=v.right && decide (v≠V4.zero)
def D6 (s:dn):Bool:=Bm s.user && Bm s.part && Ru s.cq && K9 s.after && D5 s.nodes 1 16 && D5 s.wall 1 1000 && D5 s.prio 0 100 && D5 s.array 1 20 && D5 s.ae 0 5
def Anp  {k n:Nat} (h:L3 l n=true) (a:k<=n):L3 l k=true:=by
 induction n with
 | zero=>
  have:k=0:=by omega
  subst this;rfl
 | succ n ih=>
  by_cases c:k=n+1
  .subst c;exact h
  .simp only [L3,E7] at h;exact ih h.1 (by omega)
def Anq   (a:k<l.length) (h:(o8 (l.getD k 0) && !K8 (l.take k) (l.getD k 0))=false):L3 l l.length=false:=by
 rw [Ij];intro c;have:=Anp c (show k+1<=l.length by omega);simp [L3] at this;simp at h;exact absurd (h this.2.1) (by simp [this.2.2])
def Anr  {x:Int}:K8 l x=true↔x∈l:=by
 unfold K8;rw [Kz];constructor
 .rintro ⟨y,a,e⟩;rw [<- Kx e];exact a
 .intro h;exact ⟨x,h,by simp⟩
def kv (k:ByteArray) (v:List UInt8):List UInt8:=k.data.toList++61 :: v
end
section
open Go.RowKit Go.Maps Go.Lib
structure Jb where
 id:Int
 sp:dn
 lf:Lf
 start:Int
 ak:List Int
 parts:List (Int×Int)
structure Cl where
 seq:Int
 e:Int
 first:Int
 last:Int
structure Fa where
 up:Bool
 bq:Bool
 since:Int
structure du where
 ah:Int
 tick:Int
 cls:List (Int×Cl)
 nodes:List Fa
 ab:List Jb
def Jb.waits (j:Jb):Bool:=ed j.lf.st
def Jb.live (j:Jb):Bool:=di j.lf.st
def Jb.move (j:Jb) (s:Int):Jb:=⟨j.id,j.sp,(A2 j.lf s).1,j.start,j.ak,j.parts⟩
def Jb.bare (j:Jb):Jb:=⟨j.id,j.sp,j.lf,-1,[],j.parts⟩
def L4 (js:List Jb) (id:Int):Int:=((js[(id-1).toNat]?).map fun j=>j.lf.st).getD 0
def Rv (js:List Jb) (j:Jb):Bool:=j.sp.after.any fun id=>jt (L4 js id) && decide (L4 js id≠5)
def Gj (js:List Jb) (k:Nat):Bool:=match js[k]? with
 | none=>false
 | some j=>j.waits && Rv js j
def Fr (js:List Jb) (k:Nat):List Jb:=if Gj js k=true then js.modify k (fun j=>(j.move 7).bare) else js
def Cf (js:List Jb):Nat->List Jb×Bool
 | 0=>(js,false)
 | n+1=>(Fr (Cf js n).1 n,(Cf js n).2 || Gj (Cf js n).1 n)
def Cg (js:List Jb):List Jb×Bool:=Cf js js.length
def Kd:Nat->List Jb->List Jb
 | 0,js=>js
 | n+1,js=>if (Cg js).2=true then Kd n (Cg js).1 else (Cg js).1
def Dj (js:List Jb):List Jb:=Kd (js.length+1) js
def Jb.open_ (j:Jb):Bool:=j.parts.any fun p=>decide (p.2=0)
def Dq (j:Jb):Jb:=
 if j.parts=[]\/j.open_=true then j
 else if (j.move 8).lf.st=1 then ⟨j.id,j.sp,(j.move 8).lf,-1,[],[]⟩ else ⟨j.id,j.sp,(j.move 8).lf,j.start,j.ak,[]⟩
def Gk (js:List Jb):List Jb:=Dj (js.map Dq)
def Qb (bm:Int) (l:Lf):Lf:=if bm=2 then (A2 l 4).1 else if bm=3 then (A2 l 5).1 else l
def Fb (j:Jb) (k:Nat) (bm:Int):Jb:=⟨j.id,j.sp,Qb bm j.lf,j.start,j.ak,j.parts.modify k fun p=>(p.1,bm)⟩
def M3 (j:Jb) (k:Nat) (at_:Int):Jb:=match j.parts[k]? with
 | none=>j
 | some p=>if p.2=0/\(at_<0\/p.1=at_) then Fb j k 3 else j
def G5 (j:Jb) (at_:Int):Nat->Jb
 | 0=>j
 | n+1=>M3 (G5 j at_ n) n at_
def Fc (j:Jb) (at_:Int):Jb:=G5 j at_ j.parts.length
def Ke (j:Jb):Int:=j.start+8+j.sp.wall
def Gl (j:Jb) (attempt node:Int):Option Nat:=
 if j.live=true/\j.lf.bj=attempt then j.parts.findIdx? fun p=>decide (p.1=node) && decide (p.2=0) else none
def Rw (i:Int) (j:Jb) (v:V4):V4:=
 (j.parts.filter fun p=>decide (p.1=i) && decide (p.2=0)).foldl (fun v _=>⟨v.a+j.sp.cq.a,v.b+j.sp.cq.b,v.c+j.sp.cq.c,v.d+j.sp.cq.d⟩) v
def L5 (js:List Jb) (i:Int):V4:=js.foldl (fun v j=>Rw i j v) ⟨0,0,0,0⟩
def Js (js:List Jb) (j:Jb):Bool:=decide (j.lf.st=1) && j.sp.after.all fun id=>decide (L4 js id=5)
end
section
open Go.RowKit Go.Maps Go.Shelf
variable{n:Int}{l:List Int}{w w' wr:WD}
def I9 {n b a:Int}:D5 n b a=true↔b<=n/\n<=a:=by simp [D5]
def Wj  (h:K9 l=true):l.length<=8:=by
 simp only [K9,E7,I1] at h;exact h.1
def Ans  (h:o8 n=true):n≠0/\-8<=n/\n<=1099511627776:=by
 simp only [o8,E7,I1] at h;exact ⟨h.1.1,h.1.2,h.2⟩
def G6 {s:dn} (h:D6 s=true):Bm s.user=true/\Bm s.part=true/\Ru s.cq=true/\K9 s.after=true/\D5 s.nodes 1 16=true/\D5 s.wall 1 1000=true/\D5 s.prio 0 100=true/\D5 s.array 1 20=true/\D5 s.ae 0 5=true:=by
 simp only [D6,E7] at h;obtain ⟨⟨⟨⟨⟨⟨⟨⟨a,b⟩,c⟩,d⟩,e⟩,f⟩,g⟩,i⟩,j⟩:=h;exact ⟨a,b,c,d,e,f,g,i,j⟩
def Z4 {v:V4}:Ru v=true↔v.right=true/\v≠V4.zero:=by simp [Ru]
def Tm (n h g:Int) (w:WD):CS prog 151 #[.int .i64 n,.int .i64 h,.int .i64 g] w fun e w'=>e=.returned (.bool (D5 n h g))/\w'=w:=by
 by_cases a:h<=n
 .have d:=Av a;by_cases b:n<=g
  .have i:=Av b;have f:=I9.2 ⟨a,b⟩;replace ⟨a,b,f⟩:=H3 a b f;go_enter func151,ntmps151;go_wp2;go_ret;exact ⟨by rw [f.out];rfl,rfl⟩
  .have i:=Ax b
   have f:D5 n h g=false:=by rw [Ij];exact fun c=>b (I9.1 c).2
   replace ⟨a,b,f⟩:=H3 a b f;go_enter func151,ntmps151;go_wp2;go_ret;exact ⟨by rw [f.out];rfl,rfl⟩
 .have d:=Ax a
  have f:D5 n h g=false:=by rw [Ij];exact fun c=>a (I9.1 c).1
  replace ⟨a,f⟩:=H2 a f;go_enter func151,ntmps151;go_wp2;go_ret;exact ⟨by rw [f.out];rfl,rfl⟩
def Ant (w:WD) (b a n c:Nat) (xs:List Int) (x:Int) (h:Ar w (some ⟨b,a,none⟩) n xs) (k:Nat) (l:k<=n):CS prog 166 #[.slice (some ⟨b,a,none⟩) k c,.int .i64 x] w fun e w'=>e=.returned (.bool (K8 (xs.take k) x))/\w'=w:=by
 have m:=h.len;have o:=h.max;refine (Tryz.slices_Contains_int b a k c xs x w (by omega) (by omega) fun j d=>?_).mono ?_
 .obtain ⟨i,f,e,_,g⟩:=h.cell j (xs[j]'d) (by simp [d]);cases e;rw [g];simp [List.getD,d]
 .rintro e w' ⟨rfl,rfl⟩
  have:(xs.take k).contains x=K8 (xs.take k) x:=by rw [Nw,Anr,List.contains_iff_mem]
  rw [this];exact ⟨rfl,rfl⟩
def Anu  (h:8<l.length):K9 l=false:=by
 unfold K9;rw [show decide (l.length<=8)=false from Ax (by omega)];rfl
def Wk  {k:Nat} (a:k<l.length) (h:(o8 (l.getD k 0) && !K8 (l.take k) (l.getD k 0))=false):K9 l=false:=by
 unfold K9;rw [Anq a h,Bool.and_false]
def Anv  (a:l.length<=8) (h:L3 l l.length=true):K9 l=true:=by
 unfold K9;rw [h,show decide (l.length<=8)=true from Av a];rfl
def Z5 {x:Int} (h:x=0\/x < -8\/1099511627776<x):o8 x=false:=by
 rw [Ij];intro c;have:=Ans c;omega
def Anw {x:Int} (h0:x≠0) (h1:-8<=x) (a:x<=1099511627776):o8 x=true:=by
 simp only [o8,E7,I1];exact ⟨⟨h0,h1⟩,a⟩
def Anx (so:Option Addr) (n c:Nat) (xs:List Int) (w:WD) (h:Ar w so n xs) (ao:n<=c):CS prog 153 #[.slice so n c] w fun e w'=>e=.returned (.bool (K9 xs))/\w'=w:=by
 obtain ⟨i3,q,t,l,o⟩:=Cb M1;have a:=h.len;have am:=h.max;by_cases h8:8<n
 .have d:decide ((8:Int)<n)=true:=Av (by omega);have j:=Anu (by rw [a];exact h8);replace ⟨h,a,j,h8,q,t,l,o⟩:=H8 h a j h8 q t l o;go_enter func153,ntmps153;go_wp2;go_ret;exact ⟨by rw [j.out];rfl,rfl⟩
 have d:decide ((8:Int)<n)=false:=Ax (by omega);replace ⟨h,a,q,t,l,o⟩:=H6 h a q t l o;go_enter func153,ntmps153;go_wp2;clear d;go_loopw [3,4,10] (fun _ _ i wr=>∃ k:Nat,i=.int .i64 k/\k<=n/\Hid (L3 xs k=true)/\wr=w) (fun _ _ i _=>n-(intOf i).toNat)
 case atStart=>exact ⟨0,rfl,Aq _,rfl,rfl⟩
 case round=>
  obtain ⟨k,rfl,hk,v,rfl⟩:=hrel;by_cases hc:k<n
  .have ad:(k:Int)<n:=(by omega);have an:(0:Int)<=(k:Int):=(by omega);obtain ⟨y,r⟩:=h.get hc;obtain ⟨b,ac,rfl,hb,a0⟩:=h.cell k y r;have g:xs.getD k 0=y:=(by rw [List.getD,r];rfl);by_cases p:y=0
   .have d:(y == 0)=true:=(by simp [p]);have f:(o8 (xs.getD k 0) && !K8 (xs.take k) (xs.getD k 0))=false:=(by rw [g,Z5 (.inl p)];rfl);replace ⟨r,g,f,p⟩:=H4 r g f p;have j:=Wk (k:=k) (by rw [a.out];exact hc) f.out;replace j:=Hh j;go_wp2;go_ret;exact ⟨by rw [j.out];rfl,rfl⟩
   have d:(y == 0)=false:=(by simp [p]);by_cases u:y < -8
   .have d1:=Av u;have f:(o8 (xs.getD k 0) && !K8 (xs.take k) (xs.getD k 0))=false:=(by rw [g,Z5 (.inr (.inl u))];rfl);replace ⟨r,g,f,p,u⟩:=H5 r g f p u;have j:=Wk (k:=k) (by rw [a.out];exact hc) f.out;replace j:=Hh j;go_wp2;go_ret;exact ⟨by rw [j.out];rfl,rfl⟩
   have d1:=Ax u;by_cases q2:1099511627776<y
   .have d2:=Av q2;have f:(o8 (xs.getD k 0) && !K8 (xs.take k) (xs.getD k 0))=false:=(by rw [g,Z5 (.inr (.inr q2))];rfl);replace ⟨r,g,f,p,u,q2⟩:=H6 r g f p u q2;have j:=Wk (k:=k) (by rw [a.out];exact hc) f.out;replace j:=Hh j;go_wp2;go_ret;exact ⟨by rw [j.out];rfl,rfl⟩
   have d2:=Ax q2;have ap:=fun w=>V9 Nn q.out ⟨b,ac,none⟩ n c k k rfl (by omega) w;have s:=Ant wr b ac n c xs y h.out k (by omega);obtain ⟨m,hm⟩:=Ex (K8 (xs.take k) y);rw [<- hm] at s;have x:=Anw p (by omega) (by omega);replace ⟨r,g,p,u,q2,s,hm,x⟩:=H8 r g p u q2 s hm x;go_wp2_with fail;refine s.mono ?_;rintro e w2 ⟨rfl,rfl⟩
   cases m with
   | true=>
    have f:(o8 (xs.getD k 0) && !K8 (xs.take k) (xs.getD k 0))=false:=(by rw [g.out,<- hm.out];simp);replace f:=Hh f;have j:=Wk (k:=k) (by rw [a.out];exact hc) f.out;replace j:=Hh j;go_wp2;go_ret;exact ⟨by rw [j.out];rfl,rfl⟩
   | false=>
    have z:L3 xs (k+1)=true:=(by simp only [L3,g.out,<- hm.out,x.out,v.out];rfl);replace z:=Hh z;go_wp2;go_roundw
    case rel=>exact ⟨k+1,by go_num,by omega,z.out,trivial⟩
    case measure=>simp [intOf];omega
  .have ad:¬ (k:Int)<n:=(by omega);have al:k=n:=(by omega);subst al;have j:=Anv (by rw [a.out];omega) (by rw [a.out];exact v.out);replace j:=Hh j;go_wp2;go_ret;exact ⟨by rw [j.out];rfl,rfl⟩
structure ay where
 pl:dn
 so:Option Addr
 n:Nat
 c:Nat
abbrev ay.cells (x:ay):Array VL:=#[.string x.pl.user,.string x.pl.part,.int .i64 x.pl.nodes,.int .i64 x.pl.cq.a,.int .i64 x.pl.cq.b,.int .i64 x.pl.cq.c,.int .i64 x.pl.cq.d,.int .i64 x.pl.wall,.int .i64 x.pl.prio,.int .i64 x.pl.array,.int .i64 x.pl.ae,.bool x.pl.held,.slice x.so x.n x.c]
abbrev ay.val (x:ay):VL:=.agg #[.string x.pl.user,.string x.pl.part,.int .i64 x.pl.nodes,.int .i64 x.pl.cq.a,.int .i64 x.pl.cq.b,.int .i64 x.pl.cq.c,.int .i64 x.pl.cq.d,.int .i64 x.pl.wall,.int .i64 x.pl.prio,.int .i64 x.pl.array,.int .i64 x.pl.ae,.bool x.pl.held,.slice x.so x.n x.c]
structure ay.ok (w:WD) (x:ay):Prop where
 after:Ar w x.so x.n x.pl.after
 lg:x.n<=x.c
 user:x.pl.user.size<=maxLen
 part:x.pl.part.size<=maxLen
def ay.ok.low  {x:ay} (h:x.ok w) (a:BW w.heap.size w w'):x.ok w':=⟨h.after.low a,h.lg,h.user,h.part⟩
def ay.zero:ay:=⟨dn.zero,none,0,0⟩
def Wl (w:WD):Ar w none 0 []:=⟨rfl,by omega,fun i x h=>by simp at h⟩
def N5 (s:dn):Int:=if D6 s=true then 0 else 80
structure La (w:WD) (x:ay) (wr:WD):Prop where
 low:BW w.heap.size w wr
 box:wr.heap[w.heap.size]?=some (.cells x.cells 33 (0,0))
def La.below  {x:ay} (h:La w x wr) (a:BW wr.heap.size wr w'):La w x w':=
 ⟨h.low.trans (a.mono h.low.size),Ae a h.box (Ab h.box)⟩
def La.new (w:WD) (x:ay):La w x (w.alloc (.cells x.cells 33 (0,0))):=⟨Bn,Ah _ _⟩
def La.ok  {x:ay} (h:La w x wr) (a:x.ok w):x.ok wr:=a.low h.low
def Wm (x:ay) (w:WD) (hx:x.ok w):CS prog 97 #[x.val] w fun e w'=>e=.returned (.int .i64 (N5 x.pl))/\BW w.heap.size w w':=by
 have g:=La.new w x;obtain ⟨⟨b,a,nodes,⟨i,j,k,l⟩,d,c,array,s,f,after⟩,so,n,t⟩:=x;obtain ⟨b1,ad⟩:=Ex (Bm b);obtain ⟨b2,al⟩:=Ex (Bm a);obtain ⟨b4,am⟩:=Ex (K9 after);obtain ⟨b5,an⟩:=Ex (D5 nodes 1 16);obtain ⟨b6,ao⟩:=Ex (D5 d 1 1000);obtain ⟨b7,ap⟩:=Ex (D5 c 0 100);obtain ⟨b8,av⟩:=Ex (D5 array 1 20);obtain ⟨b9,aA⟩:=Ex (D5 s 0 5);have ac:=I5 ⟨i,j,k,l⟩;obtain ⟨r,hr⟩:=Ex (V4.right ⟨i,j,k,l⟩);rw [<- hr] at ac;have hE:=Z2 ⟨i,j,k,l⟩ ⟨0,0,0,0⟩;obtain ⟨q,hq⟩:=Ex (decide ((⟨i,j,k,l⟩:V4)=⟨0,0,0,0⟩));rw [<- hq] at hE;have hd:Ru ⟨i,j,k,l⟩=(r && !q):=by unfold Ru;rw [hr,hq,<- decide_not];rfl
 have v:N5 ⟨b,a,nodes,⟨i,j,k,l⟩,d,c,array,s,f,after⟩=if (b1 && b2 && (r && !q) && b4 && b5 && b6 && b7 && b8 && b9)=true then 0 else 80:=by rw [ad,al,<- hd,am,an,ao,ap,av,aA];rfl
 have k1:∀ W,CS prog 78 #[.string b] W fun e w'=>e=.returned (.bool b1)/\BW W.heap.size W w':=fun W=>by rw [ad];exact V1 b W hx.user
 have k2:∀ W,CS prog 78 #[.string a] W fun e w'=>e=.returned (.bool b2)/\BW W.heap.size W w':=fun W=>by rw [al];exact V1 a W hx.part
 have k4:∀ W,La w ⟨⟨b,a,nodes,⟨i,j,k,l⟩,d,c,array,s,f,after⟩,so,n,t⟩ W->CS prog 153 #[.slice so n t] W fun e w'=>e=.returned (.bool b4)/\w'=W:=fun W hW=>by rw [am];exact Anx so n t after W (hW.ok hx).after hx.lg
 have k5:∀ W,CS prog 151 #[.int .i64 nodes,.int .i64 1,.int .i64 16] W fun e w'=>e=.returned (.bool b5)/\w'=W:=fun W=>by rw [an];exact Tm _ _ _ W
 have k6:∀ W,CS prog 151 #[.int .i64 d,.int .i64 1,.int .i64 1000] W fun e w'=>e=.returned (.bool b6)/\w'=W:=fun W=>by rw [ao];exact Tm _ _ _ W
 have k7:∀ W,CS prog 151 #[.int .i64 c,.int .i64 0,.int .i64 100] W fun e w'=>e=.returned (.bool b7)/\w'=W:=fun W=>by rw [ap];exact Tm _ _ _ W
 have k8:∀ W,CS prog 151 #[.int .i64 array,.int .i64 1,.int .i64 20] W fun e w'=>e=.returned (.bool b8)/\w'=W:=fun W=>by rw [av];exact Tm _ _ _ W
 have k9:∀ W,CS prog 151 #[.int .i64 s,.int .i64 0,.int .i64 5] W fun e w'=>e=.returned (.bool b9)/\w'=W:=fun W=>by rw [aA];exact Tm _ _ _ W
 clear ad al hr hq hd am an ao ap av aA;have c0:(w.alloc (.cells (⟨⟨b,a,nodes,⟨i,j,k,l⟩,d,c,array,s,f,after⟩,so,n,t⟩:ay).cells 33 (0,0))).cell? ⟨w.heap.size,0,none⟩=some (.string b):=Aa g.box 0;have c1:(w.alloc (.cells (⟨⟨b,a,nodes,⟨i,j,k,l⟩,d,c,array,s,f,after⟩,so,n,t⟩:ay).cells 33 (0,0))).cell? ⟨w.heap.size,1,none⟩=some (.string a):=Aa g.box 1;have c2:(w.alloc (.cells (⟨⟨b,a,nodes,⟨i,j,k,l⟩,d,c,array,s,f,after⟩,so,n,t⟩:ay).cells 33 (0,0))).cell? ⟨w.heap.size,2,none⟩=some (.int .i64 nodes):=Aa g.box 2;have c3:(w.alloc (.cells (⟨⟨b,a,nodes,⟨i,j,k,l⟩,d,c,array,s,f,after⟩,so,n,t⟩:ay).cells 33 (0,0))).cell? ⟨w.heap.size,3,none⟩=some (.int .i64 i):=Aa g.box 3;have c4:(w.alloc (.cells (⟨⟨b,a,nodes,⟨i,j,k,l⟩,d,c,array,s,f,after⟩,so,n,t⟩:ay).cells 33 (0,0))).cell? ⟨w.heap.size,4,none⟩=some (.int .i64 j):=Aa g.box 4;have c5:(w.alloc (.cells (⟨⟨b,a,nodes,⟨i,j,k,l⟩,d,c,array,s,f,after⟩,so,n,t⟩:ay).cells 33 (0,0))).cell? ⟨w.heap.size,5,none⟩=some (.int .i64 k):=Aa g.box 5;have c6:(w.alloc (.cells (⟨⟨b,a,nodes,⟨i,j,k,l⟩,d,c,array,s,f,after⟩,so,n,t⟩:ay).cells 33 (0,0))).cell? ⟨w.heap.size,6,none⟩=some (.int .i64 l):=Aa g.box 6;have c7:(w.alloc (.cells (⟨⟨b,a,nodes,⟨i,j,k,l⟩,d,c,array,s,f,after⟩,so,n,t⟩:ay).cells 33 (0,0))).cell? ⟨w.heap.size,7,none⟩=some (.int .i64 d):=Aa g.box 7;have c8:(w.alloc (.cells (⟨⟨b,a,nodes,⟨i,j,k,l⟩,d,c,array,s,f,after⟩,so,n,t⟩:ay).cells 33 (0,0))).cell? ⟨w.heap.size,8,none⟩=some (.int .i64 c):=Aa g.box 8;have c9:(w.alloc (.cells (⟨⟨b,a,nodes,⟨i,j,k,l⟩,d,c,array,s,f,after⟩,so,n,t⟩:ay).cells 33 (0,0))).cell? ⟨w.heap.size,9,none⟩=some (.int .i64 array):=Aa g.box 9;have m:(w.alloc (.cells (⟨⟨b,a,nodes,⟨i,j,k,l⟩,d,c,array,s,f,after⟩,so,n,t⟩:ay).cells 33 (0,0))).cell? ⟨w.heap.size,10,none⟩=some (.int .i64 s):=Aa g.box 10;have o:(w.alloc (.cells (⟨⟨b,a,nodes,⟨i,j,k,l⟩,d,c,array,s,f,after⟩,so,n,t⟩:ay).cells 33 (0,0))).cell? ⟨w.heap.size,11,none⟩=some (.bool f):=Aa g.box 11;have p:(w.alloc (.cells (⟨⟨b,a,nodes,⟨i,j,k,l⟩,d,c,array,s,f,after⟩,so,n,t⟩:ay).cells 33 (0,0))).cell? ⟨w.heap.size,12,none⟩=some (.slice so n t):=Aa g.box 12;replace ⟨v,k1,k2,ac,k4,k5,k6,k7⟩:=H8 v k1 k2 ac k4 k5 k6 k7;replace ⟨k8,k9,hx,g⟩:=H4 k8 k9 hx g;have aB:=Hh hE;clear hE;go_enter func97,ntmps97;go_wp2_with fail;refine (k1 _).mono ?_;rintro e w1 ⟨rfl,u⟩;have y:=(g).out.below u;clear c0 c1 c2 c3 c4 c5 c6 c7 c8 c9 m o p;obtain ⟨c0,c1,c2,c3,c4,c5,c6,c7,c8,c9,m,o,p⟩:=C13 (y).box;(try dsimp only at c0 c1 c2 c3 c4 c5 c6 c7 c8 c9 m o p);replace ⟨y,u⟩:=H2 y u;clear u
 cases b1 with
 | false=>
  go_wp2;go_ret;exact ⟨by rw [v.out];rfl,(y).out.low⟩
 | true=>
 go_wp2_with fail;refine (k2 _).mono ?_;rintro e w2 ⟨rfl,u⟩;have z:=(y).out.below u;clear c0 c1 c2 c3 c4 c5 c6 c7 c8 c9 m o p;obtain ⟨c0,c1,c2,c3,c4,c5,c6,c7,c8,c9,m,o,p⟩:=C13 (z).box;(try dsimp only at c0 c1 c2 c3 c4 c5 c6 c7 c8 c9 m o p);replace ⟨z,u⟩:=H2 z u;clear u
 cases b2 with
 | false=>
  go_wp2;go_ret;exact ⟨by rw [v.out];rfl,(z).out.low⟩
 | true=>
 go_wp2_with fail;refine (ac _).mono ?_;rintro e w3 ⟨rfl,u⟩;have h:=(z).out.below u;clear c0 c1 c2 c3 c4 c5 c6 c7 c8 c9 m o p;obtain ⟨c0,c1,c2,c3,c4,c5,c6,c7,c8,c9,m,o,p⟩:=C13 (h).box;(try dsimp only at c0 c1 c2 c3 c4 c5 c6 c7 c8 c9 m o p);replace ⟨h,u⟩:=H2 h u;clear u
 cases r with
 | false=>
  go_wp2;go_ret;exact ⟨by rw [v.out];rfl,(h).out.low⟩
 | true=>
 have hE:=aB.out
 cases q with
 | true=>
  go_wp2;go_ret;exact ⟨by rw [v.out];rfl,(h).out.low⟩
 | false=>
 go_wp2_with fail;refine (k4 _ h.out).mono ?_;rintro e w4 ⟨rfl,rfl⟩;clear hE
 cases b4 with
 | false=>
  go_wp2;go_ret;exact ⟨by rw [v.out];rfl,(h).out.low⟩
 | true=>
 go_wp2_with fail;refine (k5 _).mono ?_;rintro e w5 ⟨rfl,rfl⟩
 cases b5 with
 | false=>
  go_wp2;go_ret;exact ⟨by rw [v.out];rfl,(h).out.low⟩
 | true=>
 go_wp2_with fail;refine (k6 _).mono ?_;rintro e w6 ⟨rfl,rfl⟩
 cases b6 with
 | false=>
  go_wp2;go_ret;exact ⟨by rw [v.out];rfl,(h).out.low⟩
 | true=>
 go_wp2_with fail;refine (k7 _).mono ?_;rintro e w7 ⟨rfl,rfl⟩
 cases b7 with
 | false=>
  go_wp2;go_ret;exact ⟨by rw [v.out];rfl,(h).out.low⟩
 | true=>
 go_wp2_with fail;refine (k8 _).mono ?_;rintro e w8 ⟨rfl,rfl⟩
 cases b8 with
 | false=>
  go_wp2;go_ret;exact ⟨by rw [v.out];rfl,(h).out.low⟩
 | true=>
 go_wp2_with fail;refine (k9 _).mono ?_;rintro e w9 ⟨rfl,rfl⟩
 cases b9 with
 | false=>
  go_wp2;go_ret;exact ⟨by rw [v.out];rfl,(h).out.low⟩
 | true=>
  go_wp2;go_ret;exact ⟨by rw [v.out];rfl,(h).out.low⟩
end
section
open Go.RowKit Go.Maps Go.Shelf Go.Sort
variable{vs:List au}{B N g:Nat}{so:Option Addr}{W w w':WD}
def Qe   {v:VL} {xs:List Int} (h:Al w B v xs):∃ so n c,v=.slice so n c/\n<=c/\Ar w so n xs/\∀ b o,so=some ⟨b,o,none⟩->B<=b/\b<w.heap.size:=by
 obtain ⟨so,c,e,f⟩:=Aed h;have i:=h.row;rcases i.2 with ⟨a,h0⟩ | ⟨g,cap,j,a,l,k,p,_⟩
 .refine ⟨so,xs.length,c,e,by omega,f,fun b o d=>?_⟩;rw [e] at a;injection a with a;rw [a] at d;cases d
 .refine ⟨so,xs.length,c,e,?_,f,fun b o d=>?_⟩
  .rw [e] at a;injection a with _ _ hc;omega
  .have m:=Ab k;rw [e] at a;injection a with a;rw [a] at d;injection d with d;injection d with d;omega
def Aes  (a:BW w.heap.size w w') (r:Option Nat):w.grownBy w' r:=⟨a.os,a.tape,a.output,a.size,fun i b _=>a.block i b⟩
def Z7 (w:WD) (r:Option Nat):w.grownBy w r:=Aes (Below.refl _ _) r
def Aet {a b c:WD} {r:Option Nat} (h1:a.grownBy b r) (d:b.grownBy c r):a.grownBy c r:=
 ⟨d.os.trans h1.os,d.tape.trans h1.tape,d.output.trans h1.output,A5 h1.size d.size,fun i e f=>(d.block i (Bx e h1.size) f).trans (h1.block i e f)⟩
def Tn {a w:WD} {b o:Nat} (h:a.grownBy w (some b)) (v:VL):a.grownBy (w.setCell ⟨b,o,none⟩ v) (some b):=
 ⟨h.os,h.tape,h.output,by simpa [World.setCell] using h.size,fun i d c=>(Cm w ⟨b,o,none⟩ v i (fun e=>c (by rw [e]))).trans (h.block i d c)⟩
def Aoh   {n:Nat} {xs:List Int} (h:Ar w so n xs) (j:w.heap.size<=w'.heap.size) (f:∀ b c,so=some ⟨b,c,none⟩->b<w.heap.size->w'.heap[b]?=w.heap[b]?):Ar w' so n xs:=
 ⟨h.len,h.max,fun i x k=>by
  obtain ⟨b,c,e,d,g⟩:=h.cell i x k
  exact ⟨b,c,e,by omega,(Bp (a:=⟨b,c+i,none⟩) (w:=w) (f b c e d)).trans g⟩⟩
def Aeu    {n:Nat} {xs:List Int} (h:Ar w so n xs) (f:w.grownBy w' (some g)) (i:∀ b o,so=some ⟨b,o,none⟩->b≠g):Ar w' so n xs:=
 Aoh h f.size fun b d e a=>f.block b a (fun c=>i b d e (by injection c with c))
def Aev {a w w':WD} {B r:Nat} (h:BW B a w) (c:w.grownBy w' (some r)) (b:B<=w.heap.size) (d:B<=r):BW B a w':=
 h.grown c b (fun k e=>by injection e with e;omega)
def To (s:dn):V4:=if D6 s=true then ⟨s.cq.a*s.nodes,s.cq.b*s.nodes,s.cq.c*s.nodes,s.cq.d*s.nodes⟩ else V4.zero
structure Rz (w:WD) (x:ay) (v:V4) (W:WD):Prop where
 low:BW w.heap.size w W
 box:W.heap[w.heap.size]?=some (.cells x.cells 33 (0,0))
 res:W.heap[w.heap.size+1]?=some (.cells V4.zero.cells 30 (0,0))
 vec:W.heap[w.heap.size+2]?=some (.cells v.cells 30 (0,0))
def Rz.set  {x:ay} {v a:V4} (h:Rz w x v W) (o:Nat) (z:VL) (e:v.cells.setIfInBounds o z=a.cells):Rz w x a (W.setCell ⟨w.heap.size+2,o,none⟩ z):=
 ⟨h.low.setCell (show w.heap.size<=w.heap.size+2 by omega) _,C0 (by omega) _ h.box,C0 (by omega) _ h.res,by rw [<- e];exact Am h.vec o z⟩
def Wn {a n:Int} (h0:0<=a) (h1:a<=1073741824) (b:1<=n) (c:n<=16):0<=a*n/\a*n<=17179869184:=by
 refine ⟨Int.mul_nonneg h0 (by omega),?_⟩;have d:a*n<=1073741824*n:=Int.mul_le_mul_of_nonneg_right h1 (by omega);omega
def Aoi (a b c d:Int) (j:Nat) (e:j<4) (w:WD):(Instr.index 30 (.agg #[.int .i64 a,.int .i64 b,.int .i64 c,.int .i64 d]) (.int .i64 (j:Int))).run prog w=.ok (.int .i64 (V4.get ⟨a,b,c,d⟩ j)) w:=Al8 a b c d j e w
def Aoj (v:V4):od v 0=V4.zero:=by simp [od,V4.zero]
def Aok (v:V4):od v 4=v:=by simp [od]
def Aol (v:V4) (k:Nat) (a:k<4):(od v k).cells.setIfInBounds k (.int .i64 (v.get k))=(od v (k+1)).cells:=by
 rcases (show k=0\/k=1\/k=2\/k=3 by omega) with rfl | rfl | rfl | rfl<;>simp [od,V4.get]
def Aom (x:ay) (w:WD) (hx:x.ok w):CS prog 234 #[x.val] w fun e w'=>e=.returned (To x.pl).val/\BW w.heap.size w w':=by
 obtain ⟨W0,j⟩:=Ex (((w.alloc (.cells x.cells 33 (0,0))).alloc (.cells V4.zero.cells 30 (0,0))).alloc (.cells V4.zero.cells 30 (0,0)));have f:Rz w x V4.zero W0:=by rw [j];exact ⟨(Bn.alloc (by simp) _).alloc (by simp;omega) _,Aj _ (Aj _ (Ah _ _)),Aj _ (A3 _ _ (by simp)),A3 _ _ (by simp)⟩
 have hk:=Wm x W0 (hx.low f.low);by_cases hs:D6 x.pl=true;rotate_left
 .have m:To x.pl=V4.zero:=Ac hs;have he:N5 x.pl=80:=Ac hs;rw [he,j] at hk;have z:=Hh j;clear j;obtain ⟨⟨ao,am,nodes,⟨r,s,t,u⟩,ap,an,array,ae,ac,after⟩,so,n,cp⟩:=x;replace ⟨m,hk,f,hx,hs,he⟩:=H6 m hk f hx hs he;go_enter func234,ntmps234;go_wp2_with fail;refine hk.mono ?_;rintro e w1 ⟨rfl,o⟩;rw [<- z.out] at o;have g:=f.low.trans (o.mono f.low.size);have l:=Ae o f.res (Ab f.res);have q:=Ae o f.vec (Ab f.vec);have r0:=Bk l 0 (.int .i64 0) rfl;have r1:=Bk l 1 (.int .i64 0) rfl;have r2:=Bk l 2 (.int .i64 0) rfl;have r3:=Bk l 3 (.int .i64 0) rfl;have v0:=Bk q 0 (.int .i64 0) rfl;have v1:=Bk q 1 (.int .i64 0) rfl;have v2:=Bk q 2 (.int .i64 0) rfl;have v3:=Bk q 3 (.int .i64 0) rfl;have fr:=Af l;replace ⟨o,g,l,q⟩:=H4 o g l q;go_wp2;refine Ak (v:=V4.zero.val) (by simp [results,results234,go_sem,r0,r1,r2,r3,V4.zero]) rfl ⟨by rw [m.out],?_⟩;exact ((((g.setCell (Dx _) _).setCell (Dx _) _).setCell (Dx _) _).setCell (Dx _) _)
 have he:N5 x.pl=0:=Ad hs;have m:To x.pl=⟨x.pl.cq.a*x.pl.nodes,x.pl.cq.b*x.pl.nodes,x.pl.cq.c*x.pl.nodes,x.pl.cq.d*x.pl.nodes⟩:=Ad hs;rw [he,j] at hk;have z:=Hh j;clear j;obtain ⟨_,_,q3,_,q5,_⟩:=G6 hs;obtain ⟨h1,h2,h3,h4,h5,h6,h7,h8⟩:=Zy (Z4.1 q3).1;obtain ⟨n1,n2⟩:=I9.1 q5;obtain ⟨⟨ao,am,nodes,⟨r,s,t,u⟩,ap,an,array,ae,ac,after⟩,so,n,cp⟩:=x;simp only at h1 h2 h3 h4 h5 h6 h7 h8 n1 n2;obtain ⟨aC,aD⟩:=Wn h1 h2 n1 n2;obtain ⟨aE,aF⟩:=Wn h3 h4 n1 n2;obtain ⟨aG,aH⟩:=Wn h5 h6 n1 n2;obtain ⟨aI,aJ⟩:=Wn h7 h8 n1 n2;replace ⟨m,hk,f,hx,hs,he,q3,q5⟩:=H8 m hk f hx hs he q3 q5;go_enter func234,ntmps234;go_wp2_with fail;refine hk.mono ?_;rintro e w1 ⟨rfl,o⟩;rw [<- z.out] at o
 have h:Rz w ⟨⟨ao,am,nodes,⟨r,s,t,u⟩,ap,an,array,ae,ac,after⟩,so,n,cp⟩ V4.zero w1:=
  ⟨f.low.trans (o.mono f.low.size),Ae o f.box (Ab f.box),Ae o f.res (Ab f.res),Ae o f.vec (Ab f.vec)⟩
 have y3:=Bk h.box 3 (.int .i64 r) rfl;have y4:=Bk h.box 4 (.int .i64 s) rfl;have y5:=Bk h.box 5 (.int .i64 t) rfl;have y6:=Bk h.box 6 (.int .i64 u) rfl;replace ⟨o,h⟩:=H2 o h;go_wp2;clear y3 y4 y5 y6;go_loopw [4,5,12] (fun _ _ i wr=>∃ k:Nat,i=.int .i64 k/\k<=4/\Hid (Rz w ⟨⟨ao,am,nodes,⟨r,s,t,u⟩,ap,an,array,ae,ac,after⟩,so,n,cp⟩ (od ⟨r*nodes,s*nodes,t*nodes,u*nodes⟩ k) wr)) (fun _ _ i _=>4-(intOf i).toNat)
 case atStart=>exact ⟨0,rfl,by omega,by rw [Aoj];exact h.out⟩
 case round=>
  obtain ⟨k,rfl,aL,hN⟩:=hrel;by_cases hc:k<4
  .have av:(k:Int)<4:=(by omega);have aK:(0:Int)<=(k:Int):=(by omega);have aA:=fun w=>Aoi r s t u k hc w;have al:=hN.set k _ (Aol ⟨r*nodes,s*nodes,t*nodes,u*nodes⟩ k hc)
   have ev:(V4.get ⟨r,s,t,u⟩ k)*nodes=V4.get ⟨r*nodes,s*nodes,t*nodes,u*nodes⟩ k:=by rcases (show k=0\/k=1\/k=2\/k=3 by omega) with rfl | rfl | rfl | rfl<;>rfl
   obtain ⟨y,hy⟩:=Ex (V4.get ⟨r,s,t,u⟩ k)
   have aB:0<=y*nodes/\y*nodes<=17179869184:=by
    rw [hy,ev];rcases (show k=0\/k=1\/k=2\/k=3 by omega) with rfl | rfl | rfl | rfl
    .exact ⟨aC,aD⟩
    .exact ⟨aE,aF⟩
    .exact ⟨aG,aH⟩
    .exact ⟨aI,aJ⟩
   obtain ⟨aN,aO⟩:=aB;rw [<- ev] at al;rw [<- hy] at aA al;have c2:=Bk hN.box 2 (.int .i64 nodes) rfl;have fv:=Af hN.vec;obtain ⟨vk,aM⟩:∃ vk,wr.cell? ⟨w.heap.size+2,k,none⟩=some vk:=(by rw [Aa hN.vec];exact ⟨_,Oo (by simpa using hc)⟩);replace ⟨al,hy,ev⟩:=H3 al hy ev;go_wp2;go_roundw
   case rel=>exact ⟨k+1,by go_num,by omega,al.out⟩
   case measure=>simp [intOf];omega
  .have av:¬ (k:Int)<4:=(by omega);have ad:k=4:=(by omega);have p:=hN.out;rw [ad,Aok] at p;have l:=p.res;have q:=p.vec;have g:=p.low;have r0:=Bk l 0 (.int .i64 0) rfl;have r1:=Bk l 1 (.int .i64 0) rfl;have r2:=Bk l 2 (.int .i64 0) rfl;have r3:=Bk l 3 (.int .i64 0) rfl;have v0:=Bk q 0 (.int .i64 (r*nodes)) rfl;have v1:=Bk q 1 (.int .i64 (s*nodes)) rfl;have v2:=Bk q 2 (.int .i64 (t*nodes)) rfl;have v3:=Bk q 3 (.int .i64 (u*nodes)) rfl;have fr:=Af l;replace ⟨g,l,q,ad,p⟩:=H5 g l q ad p;go_wp2;refine Ak (v:=(⟨r*nodes,s*nodes,t*nodes,u*nodes⟩:V4).val) (by simp [results,results234,go_sem,r0,r1,r2,r3]) rfl ⟨by rw [m.out],?_⟩;exact ((((g.setCell (Dx _) _).setCell (Dx _) _).setCell (Dx _) _).setCell (Dx _) _)
def R0 (vs:List au) (i:Int):V4:=if i<0 then V4.zero else ((vs[i.toNat]?).map au.cap).getD V4.zero
def Aon  {i:Int}  {e:Ending} (h:Aeg vs i w e w'):∃ (x:aq) (b:Bool),e=.returned (.tuple #[x.val,.bool b])/\x.cap=R0 vs i/\BW w.heap.size w w':=by
 obtain ⟨x,b,f,_,c,_,d⟩:=h;refine ⟨x,b,f,?_,c⟩;unfold R0;rcases d with ⟨_,h0,a⟩ | ⟨_,rfl,a⟩
 .rw [Ac (by omega),a];rfl
 .split
  .rfl
  .rw [Ot (by omega)];rfl
def Pa (vs:List au) (d:V4) (l:List Int):Nat:=(l.filter fun i=>d.fits (R0 vs i)).length
def Aoo  {d:V4} {l:List Int} {k:Nat} {y:Int} (h:l[k]?=some y):Pa vs d (l.take (k+1))=Pa vs d (l.take k)+if d.fits (R0 vs y)=true then 1 else 0:=by
 unfold Pa;rw [I7 h,Nt,Cn];congr 1
 by_cases q:d.fits (R0 vs y)=true<;>simp [q]
def Aop (vs:List au) (d:V4) (l:List Int):Pa vs d l<=l.length:=Nr _ _
def Dr (s:dn) (vs:List au):Int:=
 if D6 s=false then 80 else if Dc vs s.part=[] then 81 else if (Pa vs s.cq (Dc vs s.part):Int)<s.nodes then 82 else 0
def Aoq  {fb mb base:Nat}  (h:ju w fb mb base vs) (aD:Iq vs) (x:ay) (hx:x.ok w):CS prog 98 #[.pointer (some ⟨fb,0,none⟩),x.val] w fun e w'=>e=.returned (.int .i64 (Dr x.pl vs))/\BW w.heap.size w w':=by
 have a:=La.new w x;have aH:=Wm x (w.alloc (.cells x.cells 33 (0,0))) (hx.low a.low);obtain ⟨er,aN⟩:=Ex (N5 x.pl);rw [<- aN] at aH
 have aB:(er=0/\D6 x.pl=true)\/(er=80/\D6 x.pl=false):=by
  rw [aN];unfold N5
  cases D6 x.pl<;>simp
 clear aN;have aO:=h.below a.low;obtain ⟨⟨a0,f,nodes,⟨da,db,dc,dd⟩,a1,aZ,array,ae,aY,after⟩,so,n,cp⟩:=x;have c0:=Aa a.box 0;have c1:=Aa a.box 1;have c2:=Aa a.box 2;have c3:=Aa a.box 3;have c4:=Aa a.box 4;have c5:=Aa a.box 5;have c6:=Aa a.box 6;have c7:=Aa a.box 7;have c8:=Aa a.box 8;have c9:=Aa a.box 9;have aS:=Aa a.box 10;have aT:=Aa a.box 11;have aU:=Aa a.box 12;simp at c0 c1 c2 c3 c4 c5 c6 c7 c8 c9 aS aT aU;replace ⟨a,aH,aO,h,aD,hx,aB⟩:=H7 a aH aO h aD hx aB;go_enter func98,ntmps98;go_wp2_with fail;refine aH.mono ?_;rintro e w1 ⟨rfl,ad⟩;have p:=a.below ad;have am:=aO.below ad;clear c0 c1 c2 c3 c4 c5 c6 c7 c8 c9 aS aT aU;rcases aB.out with ⟨rfl,j⟩ | ⟨rfl,j⟩;rotate_left
 .replace ⟨ad,p,am,j⟩:=H4 ad p am j;clear aB;go_wp2;go_ret;exact ⟨by unfold Dr;rw [Ad j.out];rfl,p.low⟩
 have y1:=Bk p.box 1 (.string f) rfl;have aP:=Aeb am aD.out f;clear aB;replace ⟨ad,p,am,j,aP⟩:=H5 ad p am j aP;go_wp2_with fail;refine aP.mono ?_;rintro e w2 ⟨v2,rfl,av,al⟩;obtain ⟨po,pn,pc,rfl,a3,ac,t⟩:=Qe av;have u:=p.below al;have aC:=am.below al;have l:=ac.len;have a4:pn<=16:=by have h1:=Ad7 vs f 0;have h2:=aD.len;unfold Dc at l;omega
 by_cases q0:pn=0
 .subst q0;replace ⟨av,al,ac,t,u,aC,l⟩:=H7 av al ac t u aC l;clear y1;go_wp2;go_ret;exact ⟨by unfold Dr;rw [Ac (by rw [j.out];simp),Ad (Gd.1 l.out)];rfl,u.low⟩
 have a7:((pn:Int) == 0)=false:=by rw [Bl];omega
 clear y1;replace ⟨av,al,ac,t,u,aC,l,q0⟩:=H8 av al ac t u aC l q0;go_wp2;go_loopw [7,9,10,11,26] (fun m _ _ _ i wr=>∃ k:Nat,i=.int .i64 k/\k<=pn/\m=.int .i64 (Pa vs ⟨da,db,dc,dd⟩ ((Dc vs f).take k):Nat)/\Hid (BW w2.heap.size w2 wr)) (fun _ _ _ _ i _=>pn-(intOf i).toNat)
 case atStart=>exact ⟨0,rfl,Aq _,rfl,Below.refl _ _⟩
 case round=>
  obtain ⟨k,rfl,hk,rfl,hB⟩:=hrel;obtain ⟨z,hz⟩:=Ex (Pa vs ⟨da,db,dc,dd⟩ ((Dc vs f).take k));rw [<- hz];have a5:z<=16:=by have h1:=Aop vs ⟨da,db,dc,dd⟩ ((Dc vs f).take k);have h2:=Pz k (Dc vs f);omega
  have g:=u.below hB.out;have r:=aC.below hB.out;by_cases hc:k<pn
  .have aW:(k:Int)<pn:=(by omega);have a2:(0:Int)<=(k:Int):=(by omega);obtain ⟨y,hy⟩:=Ge ((Dc vs f)) k (by have:=l.out;omega);obtain ⟨b,a6,rfl,hb,aM⟩:=(ac.low hB.out).cell k y hy;have aR:=Aeh r aD.out y;have aE:=Aoo (vs:=vs) (d:=⟨da,db,dc,dd⟩) hy;rw [<- hz] at aE;have aX:IntKind.i64.wrap ((z:Int)+1)=(z:Int)+1:=E9 _ (by omega);replace ⟨hy,aR,aE,g,r,hz⟩:=H6 hy aR aE g r hz;go_wp2_with fail;refine aR.mono ?_;intro e w3 hN;obtain ⟨⟨nm,⟨ca,cb,cc,cd⟩,qo,qn,qc,qs⟩,b3,rfl,s,aA⟩:=Aon hN;clear hN;replace ⟨s,aA⟩:=H2 s aA;go_upto_region 12 with fail;obtain ⟨nb,aQ⟩:=Ex (w3.heap.size);obtain ⟨W4,aF⟩:=Ex (w3.alloc (.cells (⟨nm,⟨ca,cb,cc,cd⟩,qo,qn,qc,qs⟩:aq).cells 69 (0,0)));have aG:BW w3.heap.size w3 W4:=(by rw [aF];exact Bn);have an:W4.heap[nb]?=some (.cells (⟨nm,⟨ca,cb,cc,cd⟩,qo,qn,qc,qs⟩:aq).cells 69 (0,0)):=(by rw [aF,aQ];exact Ah _ _);rw [<- aF,<- aQ];have v:=(g.below aA.out).below aG;have aJ:=(hB.trans (aA.mono hB.size)).trans (aG.mono (hB.trans (aA.mono hB.size)).size);clear aF aQ;have y3:=Bk v.box 3 (.int .i64 da) rfl;have y4:=Bk v.box 4 (.int .i64 db) rfl;have y5:=Bk v.box 5 (.int .i64 dc) rfl;have y6:=Bk v.box 6 (.int .i64 dd) rfl;have n1:=Bk an 1 (.int .i64 ca) rfl;have n2:=Bk an 2 (.int .i64 cb) rfl;have n3:=Bk an 3 (.int .i64 cc) rfl;have n4:=Bk an 4 (.int .i64 cd) rfl;have aI:=V0 ⟨da,db,dc,dd⟩ ⟨ca,cb,cc,cd⟩ W4;obtain ⟨q,hq⟩:=Ex (V4.fits ⟨da,db,dc,dd⟩ ⟨ca,cb,cc,cd⟩);rw [<- hq] at aI;have o:=aE.out;rw [show R0 vs y=⟨ca,cb,cc,cd⟩ from s.symm,<- hq] at o;clear hq aE s aM;replace ⟨aG,an,v,aJ,aI,o⟩:=H6 aG an v aJ aI o;go_wp2_with fail;refine aI.mono ?_;rintro e w5 ⟨rfl,aL⟩;have aK:=aJ.trans (aL.mono aJ.size);clear y3 y4 y5 y6 n1 n2 n3 n4;replace ⟨aL,aK⟩:=H2 aL aK
   cases q with
   | true=>
    go_wp2;go_roundw
    case rel=>exact ⟨k+1,by go_num,by omega,by rw [o.out];first | rfl | simp,aK.out⟩
    case measure=>simp [intOf];omega
   | false=>
    go_wp2;go_roundw
    case rel=>exact ⟨k+1,by go_num,by omega,by rw [o.out];first | rfl | simp,aK.out⟩
    case measure=>simp [intOf];omega
  .have aW:¬ (k:Int)<pn:=(by omega);have aV:k=pn:=(by omega);have ap:z=Pa vs ⟨da,db,dc,dd⟩ (Dc vs f):=(by rw [hz,aV,<- l.out,Oy]);have y2:=Bk g.box 2 (.int .i64 nodes) rfl
   have ao:Dc vs f≠[]:=fun c=>by have:=l.out;rw [c] at this;exact q0.out this.symm
   clear hz aV;by_cases q3:(z:Int)<nodes
   .replace ⟨g,r,ap,ao⟩:=H4 g r ap ao;go_wp2;go_ret;exact ⟨by unfold Dr;rw [Ac (by rw [j.out];simp),Ac ao.out,Ad (by rw [<- ap.out];exact q3)];rfl,g.low⟩
   .replace ⟨g,r,ap,ao⟩:=H4 g r ap ao;go_wp2;go_ret;exact ⟨by unfold Dr;rw [Ac (by rw [j.out];simp),Ac ao.out,Ac (by rw [<- ap.out];exact Int.not_lt.2 q3)];rfl,g.low⟩
def Z9:(prog.info? 33).map (fun i=>(i.zero,i.size,i.bytes))=some (some ay.zero.val,13,136):=by kernel_rfl
def ay.single (x:ay):ay:=⟨{ x.pl with array:=1 },x.so,x.n,x.c⟩
def Qf (s:dn):Nat:=if D6 s=true then s.array.toNat else 0
def Ma (c:Array VL) (base:Nat):List VL->Array VL
 | []=>c
 | v :: vs=>Ma (c.setIfInBounds base v) (base+1) vs
def setRow (W:WD) (g base:Nat):List VL->WD
 | []=>W
 | v :: vs=>setRow (W.setCell ⟨g,base,none⟩ v) g (base+1) vs
def Ts:∀ (vs:List VL) (c:Array VL) (base:Nat),(Ma c base vs).size=c.size
 | [],_,_=>rfl
 | v :: vs,c,base=>by rw [Ma,Ts vs];simp
def Aaa:∀ (vs:List VL) (c:Array VL) (base i:Nat),i<base->(Ma c base vs)[i]?=c[i]?
 | [],_,_,_,_=>rfl
 | v :: vs,c,base,i,h=>by
  rw [Ma,Aaa vs _ _ _ (by omega),No,Ac (by omega)]
def Aew:∀ (vs:List VL) (c:Array VL) (base i:Nat),base+vs.length<=i->(Ma c base vs)[i]?=c[i]?
 | [],_,_,_,_=>rfl
 | v :: vs,c,base,i,h=>by
  simp only [Il] at h;rw [Ma,Aew vs _ _ _ (by omega),No,Ac (by omega)]
def Aex:∀ (vs:List VL) (c:Array VL) (base o:Nat),o<vs.length->base+vs.length<=c.size->(Ma c base vs)[base+o]?=vs[o]?
 | [],_,_,_,h,_=>by simp at h
 | v :: vs,c,base,0,h,hs=>by
  simp only [Il] at hs;rw [Ma,Aaa vs _ _ _ (by omega),Io,No,Ad rfl,Ad (by omega)];rfl
 | v :: vs,c,base,o+1,h,hs=>by
  simp only [Il] at h hs;rw [Ma,show base+(o+1)=base+1+o by omega,Aex vs _ _ _ (by omega) (by simp;omega)];rfl
def Aab:∀ (vs:List VL) {W:WD} {g base:Nat} {c:Array VL} {T:TypeId} {fr:Nat×Nat},W.heap[g]?=some (.cells c T fr)->(setRow W g base vs).heap[g]?=some (.cells (Ma c base vs) T fr)
 | [],_,_,_,_,_,_,h=>h
 | v :: vs,_,_,base,_,_,_,h=>Aab vs (Am h base v)
def Aac:∀ (vs:List VL) (W:WD) (g base:Nat),W.grownBy (setRow W g base vs) (some g)
 | [],W,_,_=>Z7 W _
 | v :: vs,W,g,base=>Aet (Tn (Z7 W _) v) (Aac vs _ g (base+1))
structure R3 (c:Array VL) (N:Nat) (xs:List ay):Prop where
 size:c.size=N*13
 done:∀ j y,xs[j]?=some y->∀ o,o<13->c[j*13+o]?=y.cells[o]?
 rest:∀ j,xs.length<=j->j<N->∀ o,o<13->c[j*13+o]?=ay.zero.cells[o]?
def R3.next {c d:Array VL}  {xs:List ay} {y:ay} (h:R3 c N xs) (m:d.size=c.size) (l:∀ o,o<13->d[xs.length*13+o]?=y.cells[o]?) (k:∀ i,i<xs.length*13\/xs.length*13+13<=i->d[i]?=c[i]?):R3 d N (xs++[y]):=by
 refine ⟨by rw [m,h.size],fun j z b o a=>?_,fun j b g o a=>?_⟩
 .by_cases e:j<xs.length
  .rw [E5 e] at b;rw [k _ (.inl (by omega))];exact h.done j z b o a
  .rw [Gc (by omega)] at b;have f:j-xs.length=0:=(by have:=(Ao.1 b).1;simp at this;omega);rw [f] at b
   have:z=y:=by simpa using b.symm
   subst this;rw [show j=xs.length by omega];exact l o a
 .simp only [Cn,Il,P1] at b;rw [k _ (.inr (by omega))];exact h.rest j (by omega) g o a
def Tt (n:Nat) (l:List Int) (W:WD) (e:Ending) (w':WD):Prop:=
 ∃ so' c',e=.returned (.slice so' n c')/\n<=c'/\Ar w' so' n l/\(∀ b o,so'=some ⟨b,o,none⟩->o=0/\W.heap.size<=b/\b<w'.heap.size/\∃ cc,w'.heap[b]?=some (.cells cc 3 (0,0)))/\BW W.heap.size W w'
structure Aey (w:WD) (x:ay) (g N:Nat) (xs:List ay) (W:WD):Prop where
 low:BW w.heap.size w W
 um:w.heap.size<g
 row:∃ c,W.heap[g]?=some (.cells c 33 (0,0))/\R3 c N xs
 one:∀ (j:Nat) (y:ay),xs[j]?=some y->y.pl=x.single.pl/\y.n=x.n/\y.n<=y.c/\Ar W y.so y.n x.pl.after/\∀ b o,y.so=some ⟨b,o,none⟩->o=0/\g<b/\b<W.heap.size/\∃ cc,W.heap[b]?=some (.cells cc 3 (0,0))
 apart:∀ (i j:Nat) (y z:ay) (b o o':Nat),xs[i]?=some y->xs[j]?=some z->i<j->y.so=some ⟨b,o,none⟩->z.so≠some ⟨b,o',none⟩
structure R4 (w:WD) (x:ay) (g N:Nat) (xs:List ay) (W:WD):Prop extends Aey w x g N xs W where
 box:W.heap[w.heap.size]?=some (.cells x.cells 33 (0,0))
def Aou (x:ay) (w:WD) (e:Ending) (w':WD):Prop:=
 (D6 x.pl=false/\e=.returned (.slice none 0 0)/\BW w.heap.size w w')\/(D6 x.pl=true/\∃ g xs,e=.returned (.slice (some ⟨g,0,none⟩) (Qf x.pl) (Qf x.pl))/\xs.length=Qf x.pl/\Aey w x g (Qf x.pl) xs w')
def R4.next  {x:ay}  {xs:List ay} {W p:WD} (h:R4 w x g N xs W) (hN:xs.length<N) (a:Option Addr) (m:Nat) (ao:x.n<=m)
  (hi:Ar p a x.n x.pl.after) (r:∀ b o,a=some ⟨b,o,none⟩->o=0/\W.heap.size<=b/\b<p.heap.size/\∃ u,p.heap[b]?=some (.cells u 3 (0,0)))
  (hb:BW ((setRow W g (xs.length*13) x.cells.toList).setCell ⟨g,xs.length*13+9,none⟩ (.int .i64 1)).heap.size ((setRow W g (xs.length*13) x.cells.toList).setCell ⟨g,xs.length*13+9,none⟩ (.int .i64 1)) p) :
  R4 w x g N (xs++[⟨x.single.pl,a,x.n,m⟩]) (p.setCell ⟨g,xs.length*13+12,none⟩ (.slice a x.n m)):=by
 obtain ⟨c,ai,v⟩:=h.row;have av:=Ab ai;have g1:=Aac x.cells.toList W g (xs.length*13);have g2:=Tn (o:=xs.length*13+9) g1 (.int .i64 1);have g3:=Aet g2 (Aes hb (some g));have g4:=Tn (o:=xs.length*13+12) g3 (.slice a x.n m);have r1:=Aab x.cells.toList (base:=xs.length*13) ai;have r2:=Am r1 (xs.length*13+9) (.int .i64 1);have r3:=Ae hb r2 (Ab r2);have r4:=Am r3 (xs.length*13+12) (.slice a x.n m);have aB:xs.length*13+13<=c.size:=by rw [v.size];omega
 have l:∀ b,b≠g->b<W.heap.size->(p.setCell ⟨g,xs.length*13+12,none⟩ (.slice a x.n m)).heap[b]?=W.heap[b]?:=fun b q an=>g4.block b an (fun e=>q (by injection e with e));have aA:=g3.size;have ac:(p.setCell ⟨g,xs.length*13+12,none⟩ (.slice a x.n m)).heap.size=p.heap.size:=by simp [World.setCell]
 refine ⟨⟨Aev h.low g4 h.low.size (Rk h.um),h.um,⟨_,r4,v.next (y:=⟨x.single.pl,a,x.n,m⟩) ?_ ?_ ?_⟩,fun j y t=>?_,fun i j y z b o o' k d am hy hz=>?_⟩,(l _ (by have:=h.um;omega) (Ab h.box)).trans h.box⟩
 .simp [Ts]
 .intro o ho;have f:x.cells.toList.length=13:=rfl;rw [No];by_cases ad:o=12
  .subst ad;rw [Ad rfl,Ad (by simp [Ts];omega)];rfl
  .rw [Ac (by omega),No];by_cases e9:o=9
   .subst e9;rw [Ad rfl,Ad (by rw [Ts];omega)];rfl
   .rw [Ac (by omega),Aex _ _ _ _ (by rw [f];omega) (by rw [f];omega)]
    rcases (show o=0\/o=1\/o=2\/o=3\/o=4\/o=5\/o=6\/o=7\/o=8\/o=10\/o=11 by omega) with rfl | rfl | rfl | rfl | rfl | rfl | rfl | rfl | rfl | rfl | rfl<;>rfl
 .intro i k;have f:x.cells.toList.length=13:=rfl;rw [No,Ac (by omega),No,Ac (by omega)];rcases k with h1 | h1
  .exact Aaa _ _ _ _ h1
  .exact Aew _ _ _ _ (by rw [f];omega)
 .by_cases e:j<xs.length
  .rw [E5 e] at t;obtain ⟨a1,a2,a3,a4,a5⟩:=h.one j y t;refine ⟨a1,a2,a3,Aeu a4 g4 fun b o e=>by have:=(a5 b o e).2.1;omega,fun b o e=>?_⟩;obtain ⟨b1,b2,b3,u,b4⟩:=a5 b o e;exact ⟨b1,b2,by rw [ac];omega,u,(l b (by omega) b3).trans b4⟩
  .rw [Gc (by omega)] at t;have s:j-xs.length=0:=(by have:=(Ao.1 t).1;simp at this;omega);rw [s] at t;have hy:y=⟨x.single.pl,a,x.n,m⟩:=(by simpa using t.symm);subst hy
   have q:∀ b o,a=some ⟨b,o,none⟩->b≠g:=fun b o e=>by have:=(r b o e).2.1;omega
   refine ⟨rfl,rfl,ao,Aeu hi (Tn (Z7 p (some g)) _) q,fun b o e=>?_⟩;obtain ⟨b1,b2,b3,u,b4⟩:=r b o e;exact ⟨b1,by omega,by rw [ac];exact b3,u,C0 (q b o e) _ b4⟩
 .by_cases e:j<xs.length
  .rw [E5 e] at d;rw [E5 (by omega)] at k;exact h.apart i j y z b o o' k d am hy hz
  .rw [Gc (by omega)] at d;have s:j-xs.length=0:=(by have:=(Ao.1 d).1;simp at this;omega);rw [s] at d;have ap:z=⟨x.single.pl,a,x.n,m⟩:=(by simpa using d.symm);subst ap;have al:i<xs.length:=(by have:=(Ao.1 d).1;omega);rw [E5 al] at k;have q1:=((h.one i y k).2.2.2.2 b o hy).2.2.1;have q2:=(r b o' hz).2.1;omega
structure Jw (w:WD) (so:Option Addr) (n:Nat) (xs:List ay):Prop where
 len:xs.length=n
 max:n<=9223372036854775807
 cell:∀ (i:Nat) (x:ay),xs[i]?=some x->∃ b off,so=some ⟨b,off,none⟩/\b<w.heap.size/\(∀ j,j<13->w.cell? ⟨b,off+i*13+j,none⟩=x.cells[j]?)/\x.ok w
def Jw.low   {n:Nat} {xs:List ay} (h:Jw w so n xs) (c:BW w.heap.size w w'):Jw w' so n xs:=
 ⟨h.len,h.max,fun i x l=>by
  obtain ⟨b,d,e,a,f,k⟩:=h.cell i x l
  exact ⟨b,d,e,Bx a c.size,fun j g=>(Ag c a).trans (f j g),k.low c⟩⟩
end
section
open Go.RowKit Go.Maps Go.Lib
variable{js:List Jb}{k:Nat}
def Apg (l:Lf) (h:ed l.st=true):ed (A2 l 7).1.st=false:=by
 unfold A2;by_cases a:K1 l=false
 .rw [Ad a];rfl
 .rw [Ac a,Ad h];have e:Eh l 7=(⟨8,l.bj,l.left,l.wall,l.stop⟩,true):=by unfold Eh;rw [Ac (by omega),Ac (by omega),Ac (by omega),Ad (by omega)]
  rw [e];rfl
def Kh (js:List Jb):Nat:=js.countP Jb.waits
def Aph {α:Type} (p:α->Bool) (f:α->α):∀ (l:List α) (k:Nat) (x:α),l[k]?=some x->p x=true->p (f x)=false->(l.modify k f).countP p+1=l.countP p:=by
 intro l
 induction l with
 | nil=>intro k x h;simp at h
 | cons y l ih=>
  intro k x h h1 a
  cases k with
  | zero=>
   simp at h;subst h;simp [h1,a]
  | succ k=>
   have:=ih k x (by simpa using h) h1 a;rw [U7,Vg,Vg];omega
def Api   (h:Gj js k=true):Kh (Fr js k)+1=Kh js:=by
 have a:=h;unfold Gj at a;unfold Fr;rw [Ad h]
 cases hj:js[k]? with
 | none=>rw [hj] at a;cases a
 | some j=>
  rw [hj] at a;simp only [E7] at a;exact Aph _ _ _ _ _ hj a.1 (Apg j.lf a.1)
def Wv   (h:Gj js k=false):Fr js k=js:=by
 unfold Fr;rw [Ac (by rw [h];simp)]
def Apj (js:List Jb) (k:Nat):(Fr js k).length=js.length:=by
 unfold Fr;split
 .exact Jp _ _ _
 .rfl
def Apk (js:List Jb) (n:Nat):(Cf js n).1.length=js.length:=by
 induction n with
 | zero=>rfl
 | succ n ih=>exact (Apj _ _).trans ih
def Afc (js:List Jb) (n:Nat):((Cf js n).2=false/\(Cf js n).1=js)\/((Cf js n).2=true/\Kh (Cf js n).1<Kh js):=by
 induction n with
 | zero=>exact .inl ⟨rfl,rfl⟩
 | succ n ih=>
  show (((Cf js n).2 || Gj (Cf js n).1 n)=false/\Fr (Cf js n).1 n=js)\/(((Cf js n).2 || Gj (Cf js n).1 n)=true/\Kh (Fr (Cf js n).1 n)<Kh js)
  cases hh:Gj (Cf js n).1 n with
  | true=>
   have:=Api hh;rcases ih with ⟨h1,a⟩ | ⟨h1,a⟩
   .rw [a] at this;exact .inr ⟨by simp,by rw [a];omega⟩
   .exact .inr ⟨by simp,by omega⟩
  | false=>
   rw [Wv hh];rcases ih with ⟨h1,a⟩ | ⟨h1,a⟩
   .exact .inl ⟨by rw [h1];rfl,a⟩
   .exact .inr ⟨by rw [h1];rfl,a⟩
def Afd (js:List Jb):(Cg js).1.length=js.length:=Apk js _
def Aae  (h:(Cg js).2=true):Kh (Cg js).1<Kh js:=by
 rcases Afc js js.length with ⟨h1,_⟩ | ⟨_,a⟩
 .rw [Cg,h1] at h;cases h
 .exact a
def Aaf  (h:(Cg js).2=false):(Cg js).1=js:=by
 rcases Afc js js.length with ⟨_,a⟩ | ⟨h1,_⟩
 .exact a
 .rw [Cg,h1] at h;cases h
def Apl:∀ (n m:Nat) (js:List Jb),Kh js<n->Kh js<m->Kd n js=Kd m js:=by
 intro n
 induction n with
 | zero=>intro m js h;omega
 | succ n ih=>
  intro m js h1 a
  cases m with
  | zero=>omega
  | succ m=>
   show (if (Cg js).2=true then Kd n (Cg js).1 else (Cg js).1)=(if (Cg js).2=true then Kd m (Cg js).1 else (Cg js).1);by_cases h:(Cg js).2=true
   .rw [Ad h,Ad h];have:=Aae h;exact ih m _ (by omega) (by omega)
   .rw [Ac h,Ac h]
def Afe (js:List Jb):Kh js<=js.length:=U8
def Apm (js:List Jb):Dj js=if (Cg js).2=true then Dj (Cg js).1 else js:=by
 show (if (Cg js).2=true then Kd js.length (Cg js).1 else (Cg js).1)=_;by_cases h:(Cg js).2=true
 .rw [Ad h,Ad h];have h1:=Aae h;have a:=Afe js;have b:=Afe (Cg js).1;exact Apl _ _ _ (by omega) (by omega)
 .rw [Ac h,Ac h];exact Aaf (by simpa using h)
def Apn (n:Nat):∀ js:List Jb,(Kd n js).length=js.length:=by
 induction n with
 | zero=>intro js;rfl
 | succ n ih=>
  intro js;show (if (Cg js).2=true then Kd n (Cg js).1 else (Cg js).1).length=_;split
  .rw [ih,Afd]
  .exact Afd js
def Tx (js:List Jb):(Dj js).length=js.length:=Apn _ js
def Aff {P:List Jb->Prop} (c:∀ js k,P js->Gj js k=true->P (Fr js k))  (h:P js):P (Dj js):=by
 have a:∀ (n:Nat) (js:List Jb),P js->P (Cf js n).1:=by
  intro n
  induction n with
  | zero=>intro js h;exact h
  | succ n ih=>
   intro js h;show P (Fr (Cf js n).1 n)
   cases hh:Gj (Cf js n).1 n with
   | true=>exact c _ _ (ih js h) hh
   | false=>rw [Wv hh];exact ih js h
 have b:∀ (n:Nat) (js:List Jb),P js->P (Kd n js):=by
  intro n
  induction n with
  | zero=>intro js h;exact h
  | succ n ih=>
   intro js h;show P (if (Cg js).2=true then Kd n (Cg js).1 else (Cg js).1);split
   .exact ih _ (a _ _ h)
   .exact a _ _ h
 exact b _ _ h
end
section
open Go.RowKit Go.Maps Go.Shelf Go.Sort
def Av7 (N:Nat):R3 (madeCells ay.zero.cells (N*13)) N []:=by
 refine ⟨size_madeCells _ _,fun j y h=>by simp at h,fun j _ e o c=>?_⟩;have a:j*13+o<N*13:=by omega
 unfold madeCells;rw [Array.getElem?_map,Array.getElem?_range,Ad a];have b:ay.zero.cells.size=13:=rfl;have d:(j*13+o) % 13=o:=by omega
 simp only [J9,b,d];rw [Oo (by rw [b];exact c),getElem!_pos _ _ (by rw [b];exact c)]
def X3 (so:Option Addr) (n c:Nat) (l:List Int) (W:WD) (h:Ar W so n l) (hn:n<=1000):CS prog 87 #[.slice so n c] W (Tt n l W):=by
 have u:=h.len
 have m:∀ d w',w'.ownsRow W.heap.size 3 1 d n (Bu l)->BW W.heap.size W w'->d≠.slice none 0 0->Tt n l W (.returned d) w':=fun d w' f k a=>by
  have hO:Al w' W.heap.size d l:=⟨by rw [u];exact f⟩;rcases f.2 with ⟨r,_⟩ | ⟨g,cap,s,r,hg,hh,z,_⟩
  .exact absurd r a
  .obtain ⟨am,n2,c2,q,v,hi,al⟩:=Qe hO;rw [r] at q;injection q with e3 e4 e5;subst e3;subst e4;subst e5;refine ⟨_,_,by rw [r],v,hi,fun b o e=>?_,k⟩;injection e with e;injection e with e1 q;subst e1;subst q;exact ⟨rfl,hg,Ab hh,s,hh⟩
 cases so with
 | none=>
  have h0:n=0:=by
   cases n with
   | zero=>rfl
   | succ n=>
    obtain ⟨x,y⟩:=h.get (i:=0) (by omega);obtain ⟨b,p,e,_⟩:=h.cell 0 x y;cases e
  subst h0;have:l=[]:=Gd.1 u;subst this;refine (Tryz.slices_Clone_int_nil 0 c W).mono ?_;rintro e w' ⟨rfl,rfl⟩;exact ⟨none,0,rfl,Nat.le_refl _,Wl _,nofun,Below.refl _ _⟩
 | some ad=>
  by_cases h0:n=0
  .subst h0;have:l=[]:=Gd.1 u;subst this;refine (Tryz.slices_Clone_int_zero ad c W).mono ?_;rintro e w' ⟨d,rfl,f,a,k⟩;exact m d w' f k a
  .obtain ⟨x,y⟩:=h.get (i:=0) (by omega);obtain ⟨b,p,e,_⟩:=h.cell 0 x y;cases e;refine (Tryz.slices_Clone_int b p n c l W (by omega) (by omega) fun j t=>?_).mono ?_
   .obtain ⟨b',ac,e,_,hc⟩:=h.cell j (l[j]'t) (by simp [t]);cases e;rw [hc];simp [List.getD,t]
   .rintro e w' ⟨d,rfl,f,a,k⟩;rw [C8 (by omega)] at f;exact m d w' f k a
def Av8 (i:TypeInfo) (c:prog.info? 33=some i) (e:i.zero=some ay.zero.val) (d:i.size=13) (b:i.bytes=136) (n:Nat) (f:n<=1000) (w:WD) :
  (Instr.makeSlice 38 (.int .i64 (n:Int)) (.int .i64 (n:Int))).run prog w=.ok (.slice (some ⟨w.heap.size,0,none⟩) n n) (w.alloc (.cells (madeCells ay.zero.cells (n*13)) 33 (0,0))):=by
 have a:=run_make (P:=prog) w 38 33 i ay.zero.val underlying38 c e .i64 .i64 (n:Int) (n:Int) (by omega) (by omega) (by rw [b];omega) (by omega);simp only [J8,d] at a;exact a
def Av9 (x:ay) (w:WD) (hx:x.ok w):CS prog 128 #[x.val] w (Aou x w):=by
 obtain ⟨a2,av,aB,r,s⟩:=Cb Z9;have m:=La.new w x;have hk:=Wm x _ (m.ok hx);by_cases hs:D6 x.pl=true;rotate_left
 .have aP:D6 x.pl=false:=by simpa using hs
  have he:N5 x.pl=80:=Ac hs;rw [he] at hk;obtain ⟨⟨ad,v,nodes,⟨da,db,dc,dd⟩,al,ac,array,ae,u,after⟩,so,n,cp⟩:=x;replace ⟨hk,m,hx,hs,aP,he⟩:=H6 hk m hx hs aP he;go_enter func128,ntmps128;go_wp2_with fail;refine hk.mono ?_;rintro e w1 ⟨rfl,hb⟩;have d:=m.below hb;replace ⟨d,hb⟩:=H2 d hb;go_wp2;go_ret;exact .inl ⟨aP.out,rfl,d.low⟩
 have he:N5 x.pl=0:=Ad hs;rw [he] at hk;obtain ⟨_,_,_,q4,_,_,_,q8,_⟩:=G6 hs;have aQ:=Wj q4;have aK:=hx.after.len;obtain ⟨b1,b2⟩:=I9.1 q8;obtain ⟨N,hN⟩:∃ N:Nat,x.pl.array=N:=⟨x.pl.array.toNat,by omega⟩;have hn:Qf x.pl=N:=by unfold Qf;rw [Ad hs,hN];rfl
 rw [hN] at b1 b2;obtain ⟨⟨ad,v,nodes,⟨da,db,dc,dd⟩,al,ac,array,ae,u,after⟩,so,n,cp⟩:=x;have aX:array=N:=hN;subst aX;clear hN;have a9:n<=8:=by have h1:after.length=n:=aK;have h2:after.length<=8:=aQ;omega
 obtain ⟨X,hX⟩:∃ X:ay,X=⟨⟨ad,v,nodes,⟨da,db,dc,dd⟩,al,ac,(N:Int),ae,u,after⟩,so,n,cp⟩:=⟨_,rfl⟩;have a8:=fun W=>Av8 a2 av aB r s N (by omega) W;have a5:N<=20:=by omega
 replace ⟨hk,m,hx,hs,he,q4,aQ,aK⟩:=H8 hk m hx hs he q4 aQ aK;replace ⟨q8,hn,hX,av,aB,r,s⟩:=H7 q8 hn hX av aB r s;go_enter func128,ntmps128;go_wp2_with fail;refine hk.mono ?_;rintro e w1 ⟨rfl,hb⟩;have d:=m.below hb;have y9:=Bk d.box 9 (.int .i64 (N:Int)) rfl;obtain ⟨g,hg⟩:=Ex (w1.heap.size);have aH:R4 w X g N [] (w1.alloc (.cells (madeCells ay.zero.cells (N*13)) 33 (0,0))):=by rw [hX.out,hg];exact ⟨⟨d.low.alloc d.low.size _,Ab d.box,⟨_,Ah _ _,Av7 N⟩,(fun j y h=>by simp at h),(fun i j y z b o o' h=>by simp at h)⟩,Aj _ d.box⟩
 replace ⟨d,hb,aH,hg⟩:=H4 d hb aH hg;go_wp2;rw [<- hg.out];clear y9;go_loopw [4,13] (fun _ iv wr=>∃ (k:Nat) (xs:List ay),iv=.int .i64 k/\k<=N/\Hid (xs.length=k)/\Hid (R4 w X g N xs wr)) (fun _ iv _=>N-(intOf iv).toNat)
 case atStart=>exact ⟨0,[],rfl,Aq _,rfl,aH.out⟩
 case round=>
  obtain ⟨k,xs,rfl,a7,an,hE⟩:=hrel;by_cases t:k<N
  .have aZ:(k:Int)<N:=(by omega);have a6:(0:Int)<=(k:Int):=(by omega);have hM:Hid (La w ⟨⟨ad,v,nodes,⟨da,db,dc,dd⟩,al,ac,(N:Int),ae,u,after⟩,so,n,cp⟩ wr):=(by have h:=hE.box;rw [hX.out] at h;exact ⟨hE.low,h⟩);obtain ⟨cc,f,a⟩:=hE.row;have c:=Nat.le_of_eq an.out;obtain ⟨y0,y1,y2,y3,y4,y5,y6,y7,y8,y9,aU,aV,aF⟩:=C13 hM.box;(try dsimp only at y0 y1 y2 y3 y4 y5 y6 y7 y8 y9 aU aV aF);have z0:wr.cell? ⟨g,k*13,none⟩=some (.string ByteArray.empty):=(Aa f (k*13)).trans (a.rest k c t 0 (by omega));have z1:wr.cell? ⟨g,k*13+1,none⟩=some (.string ByteArray.empty):=(Aa f (k*13+1)).trans (a.rest k c t 1 (by omega));have z2:wr.cell? ⟨g,k*13+2,none⟩=some (.int .i64 0):=(Aa f (k*13+2)).trans (a.rest k c t 2 (by omega));have z3:wr.cell? ⟨g,k*13+3,none⟩=some (.int .i64 0):=(Aa f (k*13+3)).trans (a.rest k c t 3 (by omega));have z4:wr.cell? ⟨g,k*13+4,none⟩=some (.int .i64 0):=(Aa f (k*13+4)).trans (a.rest k c t 4 (by omega));have z5:wr.cell? ⟨g,k*13+5,none⟩=some (.int .i64 0):=(Aa f (k*13+5)).trans (a.rest k c t 5 (by omega));have z6:wr.cell? ⟨g,k*13+6,none⟩=some (.int .i64 0):=(Aa f (k*13+6)).trans (a.rest k c t 6 (by omega));have z7:wr.cell? ⟨g,k*13+7,none⟩=some (.int .i64 0):=(Aa f (k*13+7)).trans (a.rest k c t 7 (by omega));have z8:wr.cell? ⟨g,k*13+8,none⟩=some (.int .i64 0):=(Aa f (k*13+8)).trans (a.rest k c t 8 (by omega));have z9:wr.cell? ⟨g,k*13+9,none⟩=some (.int .i64 0):=(Aa f (k*13+9)).trans (a.rest k c t 9 (by omega));have a3:wr.cell? ⟨g,k*13+10,none⟩=some (.int .i64 0):=(Aa f (k*13+10)).trans (a.rest k c t 10 (by omega));have a4:wr.cell? ⟨g,k*13+11,none⟩=some (.bool false):=(Aa f (k*13+11)).trans (a.rest k c t 11 (by omega));have aW:wr.cell? ⟨g,k*13+12,none⟩=some (.slice none 0 0):=(Aa f (k*13+12)).trans (a.rest k c t 12 (by omega));have fg:=Af f;have a0:g≠w.heap.size:=(by have:=hE.um;omega);obtain ⟨W4,aI⟩:=Ex (((((((((((((((wr.setCell ⟨g,k*13,none⟩ (.string ad)).setCell ⟨g,k*13+1,none⟩ (.string v)).setCell ⟨g,k*13+2,none⟩ (.int .i64 nodes)).setCell ⟨g,k*13+3,none⟩ (.int .i64 da)).setCell ⟨g,k*13+4,none⟩ (.int .i64 db)).setCell ⟨g,k*13+5,none⟩ (.int .i64 dc)).setCell ⟨g,k*13+6,none⟩ (.int .i64 dd)).setCell ⟨g,k*13+7,none⟩ (.int .i64 al)).setCell ⟨g,k*13+8,none⟩ (.int .i64 ac)).setCell ⟨g,k*13+9,none⟩ (.int .i64 (N:Int))).setCell ⟨g,k*13+10,none⟩ (.int .i64 ae)).setCell ⟨g,k*13+11,none⟩ (.bool u)).setCell ⟨g,k*13+12,none⟩ (.slice so n cp)).setCell ⟨g,k*13+9,none⟩ (.int .i64 1)));have l:W4=(setRow wr g (xs.length*13) X.cells.toList).setCell ⟨g,xs.length*13+9,none⟩ (.int .i64 1):=(by rw [aI,hX.out,an.out];rfl);have ap:wr.grownBy W4 (some g):=(by rw [l];exact Tn (Aac _ _ _ _) _);have q:=Aev hE.low ap hE.low.size (Rk hE.um);have aL:Ar W4 so n after:=(hx.low q).after;have aE:=X3 so n cp after W4 aL (by omega);unfold Tt at aE;have aR:=(ap.block _ (Ab hM.box) (fun e=>a0 (by injection e with e;exact e.symm))).trans hM.box;have am:∃ c4,W4.heap[g]?=some (.cells c4 33 (0,0))/\c4.size=N*13:=(by rw [l];exact ⟨_,Am (Aab _ f) _ _,by simp [Ts,a.size]⟩);obtain ⟨c4,am,aS⟩:=am;obtain ⟨aT,aA⟩:∃ aT,c4[k*13+12]?=some aT:=⟨_,Oo (by omega)⟩;replace ⟨hM,f,a,c,l,ap,q,aL⟩:=H8 hM f a c l ap q aL;replace ⟨aE,aR,am,aS,aA⟩:=H5 aE aR am aS aA;go_upto_region 9 with fail;rw [<- aI];clear aI;clear y0 y1 y2 y3 y4 y5 y6 y7 y8 y9 aU aV aF z0 z1 z2 z3 z4 z5 z6 z7 z8 z9 a3 a4 aW;have aF:=Bk aR.out 12 (.slice so n cp) rfl;go_wp2_with fail;refine aE.mono ?_;rintro e w5 ⟨aC,c',rfl,aN,aM,ao,aD⟩;have h5:=Ae aD am.out (Ab am.out);have aW:=(Aa h5 _).trans aA.out;have f5:=Af h5
   have aO:R4 w X g N (xs++[⟨X.single.pl,aC,n,c'⟩]) (w5.setCell ⟨g,k*13+12,none⟩ (.slice aC n c')):=by
    have aG:=aD;rw [l.out] at aG;have aJ:X.n=n:=(by rw [hX.out]);have aY:X.pl.after=after:=by rw [hX.out]
    have h:=hE.next (by rw [an.out];exact t) aC c' (by rw [aJ];exact aN) (by rw [aJ,aY];exact aM) (fun b o e=>by
     obtain ⟨e1,e2,e3,e4⟩:=ao b o e
     exact ⟨e1,A5 ap.size e2,e3,e4⟩) aG
    rw [aJ,an.out] at h;exact h
   have p:(xs++[(⟨X.single.pl,aC,n,c'⟩:ay)]).length=k+1:=(by rw [Cn,an.out];rfl);clear aF;replace ⟨aN,aM,ao,aD,h5,aO,p⟩:=H7 aN aM ao aD h5 aO p;go_wp2;go_roundw
   case rel=>exact ⟨k+1,xs++[(⟨X.single.pl,aC,n,c'⟩:ay)],by go_num,by omega,p.out,aO.out⟩
   case measure=>simp [intOf];omega
  .have aZ:¬ (k:Int)<N:=(by omega);have a1:k=N:=(by omega);subst a1;go_wp2;go_ret;have h:=hE.toAey;rw [hX.out] at h;refine .inr ⟨hs.out,g,xs,?_,?_,?_⟩
   .rw [hn.out];rfl
   .rw [an.out,hn.out]
   .rw [hn.out];exact h
def Azi (u v:V4) (w:WD):CS prog 21 #[u.val,v.val] w fun e w'=>e=.returned (.bool (u.fits v))/\BW w.heap.size w w':=by
 obtain ⟨a,b,c,d⟩:=u;obtain ⟨g,h,i,j⟩:=v;have f:BW w.heap.size w ((w.alloc (.cells (⟨a,b,c,d⟩:V4).cells 30 (0,0))).alloc (.cells (⟨g,h,i,j⟩:V4).cells 30 (0,0))):=Bn.alloc (by simp) _;replace f:=Hh f;go_enter func21,ntmps21;go_wp2
 all_goals
  go_ret;refine ⟨Ca Ending.returned (Ca Value.bool (?_:(_:Bool)=_)),f.out⟩;rw [Nw];simp [V4.fits]
  try omega
