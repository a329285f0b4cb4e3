/- Parts Nda, Sp0, Tb0, Sp1, Chk, Spv, Srn, Sst, Spm, Ned, Ssu, Rex, Exr, Exw, Sps, Dm0, Sxq. Plain theorems: no condition. -/
import Derived.Test.YtimlcnhcjndijaaGreatDoorQ13
import Derived.Test.YtimlcnhcjndijaaGreatDoorQ06
set_option linter.all false
set_option maxRecDepth 100000
set_option maxHeartbeats 3200000
namespace Go.Proofs.YtimlcnhcjndijaaGreatDoor
open Go.RowKit Go.Maps Go.Shelf
def wy (d:Nat) (a b:Int) (w:World):(Op.equalIn (d+1) 3 (.int .i64 a) (.int .i64 b)).run Tryz.prog w=.ok (a == b) w:=by
 simp [Op.equalIn,Mv Da]
def Yl:Tryz.prog.cellsOf 3=1:=by kernel_rfl
def Ak1 (f:Nat) (u v:V4) (w:World):(Op.equalIn (f+2) 30 u.val v.val).run Tryz.prog w=.ok (decide (u=v)) w:=by
 obtain ⟨q,e,h,g,i⟩:=C0 M0;show (Op.equalIn ((f+1)+1) 30 u.val v.val).run Tryz.prog w=_;rw [run_equalIn_array w (f+1) _ _ Tryz.underlying30 e,Yl];show (Op.eqItems (f+1) 3 1 _ _ [0,1,2,3]).run Tryz.prog w=_;obtain ⟨a,b,c,d⟩:=u;obtain ⟨j,k,l,m⟩:=v
 by_cases h1:a=j<;>by_cases n:b=k<;>by_cases o:c=l<;>by_cases p:d=m
 all_goals
  simp [Op.eqItems,wy,part,sizeOf,typeInfo,e,g,h1,n,o,p]
def Te (u v:V4) (w:World):(Op.equalIn 10000 30 u.val v.val).run Tryz.prog w=.ok (decide (u=v)) w:=Ak1 9998 u v w
def Ab3 (vs:List ax) (i:Int) (w:World) (e:Ending) (w':World):Prop:=
 ∃ (x:ar) (b:Bool),e=.returned (.tuple #[x.val,.bool b])/\x.ok w'/\Below w.heap.size w w'/\(∀ bb off,x.po=some ⟨bb,off,none⟩->w.heap.size<=bb/\∃ c,w'.heap[bb]?=some (.cells c 9 (0,0))) /\
  ((b=true/\0<=i/\vs[i.toNat]?=some x.pl)\/(b=false/\x=ar.zero/\(i<0\/(vs.length:Int)<=i)))
def Ab4 {w:World} {fb mb base:Nat} {vs:List ax} (h:ir w fb mb base vs) (ap:Ir vs) (i:Int):Calls Tryz.prog 44 #[.pointer (some ⟨fb,0,none⟩),.int .i64 i] w (Ab3 vs i w):=by
 obtain ⟨W0,f⟩:=Ex (w.alloc (.cells ar.zero.cells 69 (0,0)));have m:Below w.heap.size w W0:=by rw [f];exact Bn
 have s:W0.heap[w.heap.size]?=some (.cells ar.zero.cells 69 (0,0)):=by rw [f];exact Af _ _
 have t:W0.heap.size=w.heap.size+1:=by rw [f];simp
 have u:=h.below m;have y:=Ab0 u;obtain ⟨n,hn⟩:=Ex (vs.length);rw [<- hn] at y;rw [f] at y;have aV:=ap.len;rw [<- hn] at aV;by_cases aM:i<0
 .have aW:=Az aM;have l:i<0\/(vs.length:Int)<=i:=.inl aM;replace ⟨m,s,t,u,y,hn,l⟩:=H7 m s t u y hn l;have av:=Hh f;clear f;go_enter Tryz.func44,Tryz.ntmps44;go_wp2;refine Ao (v:=.tuple #[ar.zero.val,.bool false]) (by simp [results,Tryz.results44,go_sem,ar.zero,V4.zero]<;>rfl) rfl ⟨ar.zero,false,rfl,⟨X3 _,Nat.le_refl _⟩,Bn,fun b o e=>(by cases e),.inr ⟨rfl,rfl,l.out⟩⟩
 have aW:=Aw aM;by_cases aN:(n:Int)<=i
 .have aX:=Az aN;have l:i<0\/(vs.length:Int)<=i:=.inr (by rw [<- hn];exact aN);replace ⟨m,s,t,u,y,hn,l⟩:=H7 m s t u y hn l;have av:=Hh f;clear f;go_enter Tryz.func44,Tryz.ntmps44;go_wp2_with fail;refine y.out.mono ?_;rintro e w1 ⟨rfl,rfl⟩;go_wp2;refine Ao (v:=.tuple #[ar.zero.val,.bool false]) (by simp [results,Tryz.results44,go_sem,ar.zero,V4.zero]<;>rfl) rfl ⟨ar.zero,false,rfl,⟨X3 _,Nat.le_refl _⟩,Bn,fun b o e=>(by cases e),.inr ⟨rfl,rfl,l.out⟩⟩
 have aX:=Aw aN;obtain ⟨k,rfl⟩:∃ k:Nat,i=k:=⟨i.toNat,by omega⟩;have a0:(k:Int)<n:=by omega
 have a2:(0:Int)<=(k:Int):=by omega
 have a1:decide (n<=k)=false:=Aw (by omega);obtain ⟨nv,xs,h1,h2,h3⟩:=u.ex;have aO:n=xs.length:=by rw [hn,<- h2,Ax]
 obtain ⟨x,hx⟩:∃ x,xs[k]?=some x:=⟨_,Am (by omega)⟩;obtain ⟨g,cap,rfl⟩:=Joins.ownsRow_form h1.row (by omega);obtain ⟨g',e1,_,_,a⟩:=h1.cell hx;have e2:g=g':=by simpa [Value.ownBlock] using e1
 subst e2;have aA:vs[k]?=some x.pl:=by rw [<- h2];exact Yh hx
 have aB:=(ap.all x.pl (Aj aA)).ok.one;have aC:=(ap.all x.pl (Aj aA)).l6;have am:=(h1.ok x (Aj hx)).1;obtain ⟨nm,⟨ca,cb,cc,cd⟩,po,pn,pc,ps⟩:=x;have aJ:ps.length=pn:=am.parts.len;have ac:1<=ps.length:=aB;have ad:ps.length<=8:=aC;obtain ⟨y0,aP⟩:=am.parts.get (i:=0) (by show 0<pn;omega);obtain ⟨b,o,e,a3,_⟩:=am.parts.cell 0 y0 aP;have e':po=some ⟨b,o,none⟩:=e;subst e';have z0:W0.cell? ⟨g,k*6,none⟩=some (.string nm):=a 0 (by omega);have z1:W0.cell? ⟨g,k*6+1,none⟩=some (.int .i64 ca):=a 1 (by omega);have z2:W0.cell? ⟨g,k*6+2,none⟩=some (.int .i64 cb):=a 2 (by omega);have z3:W0.cell? ⟨g,k*6+3,none⟩=some (.int .i64 cc):=a 3 (by omega);have z4:W0.cell? ⟨g,k*6+4,none⟩=some (.int .i64 cd):=a 4 (by omega);have z5:W0.cell? ⟨g,k*6+5,none⟩=some (.slice (some ⟨b,o,none⟩) pn pc):=a 5 (by omega);have f0:W0.cell? ⟨fb,0,none⟩=some (.slice (some ⟨g,0,none⟩) n cap):=by rw [aO];exact Aa h1.head 0
 obtain ⟨W1,aD⟩:=Ex (W0.alloc (.cells (⟨nm,⟨ca,cb,cc,cd⟩,some ⟨b,o,none⟩,pn,pc,ps⟩:ar).cells 69 (0,0)));have an:Below W0.heap.size W0 W1:=by rw [aD];exact Bn
 have aE:W1.heap[w.heap.size+1]?=some (.cells (⟨nm,⟨ca,cb,cc,cd⟩,some ⟨b,o,none⟩,pn,pc,ps⟩:ar).cells 69 (0,0)):=by rw [aD];exact A2 _ _ t.symm
 have aF:=am.low an
 have aG:=Tryz.slices_Clone_string b o pn pc ps W1 (by omega) (by omega) fun j hj=>by
  obtain ⟨b',aK,e,_,hc⟩:=aF.parts.cell j (ps[j]'hj) (by simp [hj]);cases e;rw [hc];simp [List.getD,hj]
 rw [Dn (by omega)] at aG;have p5:=Bk aE 5 (.slice (some ⟨b,o,none⟩) pn pc) rfl;replace ⟨m,s,t,u,hn,aO,hx,h1⟩:=H8 m s t u hn aO hx h1;replace ⟨h2,h3,aA,aB,aC,am,aJ,ac⟩:=H8 h2 h3 aA aB aC am aJ ac;replace ⟨ad,aP,an,aE,aF,aG,a,e1⟩:=H8 ad aP an aE aF aG a e1;replace ⟨ap,h,p5⟩:=H3 ap h p5;rw [aD,f] at aG p5;rw [f] at z0 z1 z2 z3 z4 z5 f0;have av:=Hh f;have aL:=Hh aD;clear f aD;go_enter Tryz.func44,Tryz.ntmps44;go_wp2_with fail;refine y.mono ?_;rintro e w1 ⟨rfl,rfl⟩;go_wp2_with fail;refine aG.out.mono ?_;rintro e w3 ⟨v',rfl,d,p,ao⟩;rw [<- av.out,<- aL.out] at d ao;have aT:0<pn:=by have:=ac.out;have:=aJ.out;omega
 obtain ⟨z,c,rfl⟩:=Joins.ownsRow_form d aT;have aY:=Rd d z rfl;have aQ:W1.heap.size=w.heap.size+2:=by rw [aL.out,Mt,t.out]
 have aR:=Ajo d (by have:=ad.out;have:=aJ.out;omega);have aH:=Ajn d;have aS:=Ajm d;have q:=Ae ao (Ae an.out s.out (Ab s.out)) (by omega);have r:=Ae ao aE.out (Ab aE.out);have al:=m.out.trans ((an.out.trans (ao.mono an.out.size)).mono m.out.size);have c0:=Bk r 0 (.string nm) rfl;have c1:=Bk r 1 (.int .i64 ca) rfl;have c2:=Bk r 2 (.int .i64 cb) rfl;have c3:=Bk r 3 (.int .i64 cc) rfl;have c4:=Bk r 4 (.int .i64 cd) rfl;have c5:=Bk r 5 (.slice (some ⟨b,o,none⟩) pn pc) rfl;have fq:=Ah r;have b0:=Bk q 0 (.string ByteArray.empty) rfl;have b1:=Bk q 1 (.int .i64 0) rfl;have b2:=Bk q 2 (.int .i64 0) rfl;have b3:=Bk q 3 (.int .i64 0) rfl;have b4:=Bk q 4 (.int .i64 0) rfl;have b5:=Bk q 5 (.slice none 0 0) rfl;have fr:=Ah q
 have he:∀ v v0 v1 v2 v3 v4 v5,Below w.heap.size w (((((((w3.setCell ⟨w.heap.size+1,5,none⟩ v).setCell ⟨w.heap.size,0,none⟩ v0).setCell ⟨w.heap.size,1,none⟩ v1).setCell ⟨w.heap.size,2,none⟩ v2).setCell ⟨w.heap.size,3,none⟩ v3).setCell ⟨w.heap.size,4,none⟩ v4).setCell ⟨w.heap.size,5,none⟩ v5):=fun v v0 v1 v2 v3 v4 v5=>
  ((((((al.setCell (Ea _) _).setCell Ln _).setCell Ln _).setCell Ln _).setCell Ln _).setCell Ln _).setCell Ln _
 have ak:∀ v v0 v1 v2 v3 v4 v5,(((((((w3.setCell ⟨w.heap.size+1,5,none⟩ v).setCell ⟨w.heap.size,0,none⟩ v0).setCell ⟨w.heap.size,1,none⟩ v1).setCell ⟨w.heap.size,2,none⟩ v2).setCell ⟨w.heap.size,3,none⟩ v3).setCell ⟨w.heap.size,4,none⟩ v4).setCell ⟨w.heap.size,5,none⟩ v5).heap[z]?=w3.heap[z]?:=fun v v0 v1 v2 v3 v4 v5=>by
  have p:z≠w.heap.size:=by omega
  have aU:z≠w.heap.size+1:=by omega
  rw [Ia p,Ia p,Ia p,Ia p,Ia p,Ia p,Ia aU]
 have aI:∀ v v0 v1 v2 v3 v4 v5,(((((((w3.setCell ⟨w.heap.size+1,5,none⟩ v).setCell ⟨w.heap.size,0,none⟩ v0).setCell ⟨w.heap.size,1,none⟩ v1).setCell ⟨w.heap.size,2,none⟩ v2).setCell ⟨w.heap.size,3,none⟩ v3).setCell ⟨w.heap.size,4,none⟩ v4).setCell ⟨w.heap.size,5,none⟩ v5).heap.size=w3.heap.size:=fun v v0 v1 v2 v3 v4 v5=>by simp [World.setCell]
 clear z0 z1 z2 z3 z4 z5 f0;replace ⟨d,p,ao,aR,aH,q,r,al⟩:=H8 d p ao aR aH q r al;replace ⟨he,ak,aI,aQ⟩:=H4 he ak aI aQ;go_wp2;refine Ao (v:=.tuple #[(⟨nm,⟨ca,cb,cc,cd⟩,some ⟨z,0,none⟩,pn,c,ps⟩:ar).val,.bool true]) (by simp [results,Tryz.results44,go_sem,b0,b1,b2,b3,b4,b5]) rfl ?_;have hX:=ak.out (.slice (some ⟨z,0,none⟩) pn c) (.string nm) (.int .i64 ca) (.int .i64 cb) (.int .i64 cc) (.int .i64 cd) (.slice (some ⟨z,0,none⟩) pn c);have hY:=aI.out (.slice (some ⟨z,0,none⟩) pn c) (.string nm) (.int .i64 ca) (.int .i64 cb) (.int .i64 cc) (.int .i64 cd) (.slice (some ⟨z,0,none⟩) pn c);have hZ:=he.out (.slice (some ⟨z,0,none⟩) pn c) (.string nm) (.int .i64 ca) (.int .i64 cb) (.int .i64 cc) (.int .i64 cd) (.slice (some ⟨z,0,none⟩) pn c);generalize ((((((w3.setCell ⟨w.heap.size+1,5,none⟩ (.slice (some ⟨z,0,none⟩) pn c)).setCell ⟨w.heap.size,0,none⟩ (.string nm)).setCell ⟨w.heap.size,1,none⟩ (.int .i64 ca)).setCell ⟨w.heap.size,2,none⟩ (.int .i64 cb)).setCell ⟨w.heap.size,3,none⟩ (.int .i64 cc)).setCell ⟨w.heap.size,4,none⟩ (.int .i64 cd)).setCell ⟨w.heap.size,5,none⟩ (.slice (some ⟨z,0,none⟩) pn c)=X at hX hY hZ ⊢;obtain ⟨c9,aZ⟩:=aH.out;refine ⟨⟨nm,⟨ca,cb,cc,cd⟩,some ⟨z,0,none⟩,pn,c,ps⟩,true,rfl,⟨U6 aR.out (Nat.le_of_eq hY.symm) fun b' aK e' _=>by cases e';exact hX,aS⟩,hZ,fun b' aK e'=>?_,.inl ⟨rfl,by omega,?_⟩⟩
 .have e2:z=b':=by injection e' with e';injection e' with e'
  subst e2;exact ⟨by have:=aQ.out;have:=aY.1;omega,c9,hX.trans aZ⟩
 .show vs[k]?=_;rw [aA.out];rfl
structure dp where
 user:ByteArray
 part:ByteArray
 nodes:Int
 dn:V4
 wall:Int
 prio:Int
 array:Int
 ae:Int
 held:Bool
 after:List Int
deriving DecidableEq
def dp.zero:dp:=⟨ByteArray.empty,ByteArray.empty,0,V4.zero,0,0,0,0,false,[]⟩
def K5 (l:List Int) (x:Int):Bool:=l.any fun y=>decide (y=x)
def ow (n:Int):Bool:=decide (n≠0) && decide (-8<=n) && decide (n<=1099511627776)
def Ly (l:List Int):Nat->Bool
 | 0=>true
 | k+1=>Ly l k && (ow (l.getD k 0) && !K5 (l.take k) (l.getD k 0))
def Jh (l:List Int):Bool:=decide (l.length<=8) && Ly l l.length
def D3 (n lo hi:Int):Bool:=decide (lo<=n) && decide (n<=hi)
def P1 (v:V4):Bool:=v.right && decide (v≠V4.zero)
def Di (s:dp):Bool:=C6 s.user && C6 s.part && P1 s.dn && Jh s.after && D3 s.nodes 1 16 && D3 s.wall 1 1000 && D3 s.prio 0 100 && D3 s.array 1 20 && D3 s.ae 0 5
def Ak2 {l:List Int} {k n:Nat} (h:Ly l n=true) (a:k<=n):Ly l k=true:=by
 induction n with
 | zero=>
  have:k=0:=by omega
  subst this;rfl
 | succ n ih=>
  by_cases c:k=n+1
  .subst c;exact h
  .simp only [Ly,Eo] at h;exact ih h.1 (by omega)
def Ak3 {l:List Int} {k:Nat} (a:k<l.length) (h:(ow (l.getD k 0) && !K5 (l.take k) (l.getD k 0))=false):Ly l l.length=false:=by
 rw [I8];intro c;have:=Ak2 c (show k+1<=l.length by omega);simp [Ly] at this;simp at h;exact absurd (h this.2.1) (by simp [this.2.2])
def Ak4 {l:List Int} {x:Int}:K5 l x=true↔x∈l:=by
 unfold K5;rw [Kv];constructor
 .rintro ⟨y,a,e⟩;rw [<- I9 e];exact a
 .intro h;exact ⟨x,h,by simp⟩
def kv (k:ByteArray) (v:List UInt8):List UInt8:=k.data.toList++61 :: v
end Go.Proofs.YtimlcnhcjndijaaGreatDoor
namespace Go.Proofs.YtimlcnhcjndijaaGreatDoor
structure Jb where
 id:Int
 sp:dp
 lf:Lf
 start:Int
 aj:List Int
 parts:List (Int×Int)
structure Cl where
 seq:Int
 e:Int
 first:Int
 last:Int
structure Er where
 up:Bool
 bo:Bool
 since:Int
structure di where
 ah:Int
 tick:Int
 cls:List (Int×Cl)
 nodes:List Er
 ab:List Jb
def Jb.waits (j:Jb):Bool:=dx j.lf.st
def Jb.live (j:Jb):Bool:=df j.lf.st
def Jb.move (j:Jb) (s:Int):Jb:=⟨j.id,j.sp,(Ay j.lf s).1,j.start,j.aj,j.parts⟩
def Jb.bare (j:Jb):Jb:=⟨j.id,j.sp,j.lf,-1,[],j.parts⟩
def Lz (js:List Jb) (id:Int):Int:=((js[(id-1).toNat]?).map fun j=>j.lf.st).getD 0
def Rn (js:List Jb) (j:Jb):Bool:=j.sp.after.any fun id=>jk (Lz js id) && decide (Lz js id≠5)
def Gb (js:List Jb) (k:Nat):Bool:=match js[k]? with
 | none=>false
 | some j=>j.waits && Rn js j
def Gc (js:List Jb) (k:Nat):List Jb:=if Gb js k=true then js.modify k (fun j=>(j.move 7).bare) else js
def Cm (js:List Jb):Nat->List Jb×Bool
 | 0=>(js,false)
 | n+1=>(Gc (Cm js n).1 n,(Cm js n).2 || Gb (Cm js n).1 n)
def Cf (js:List Jb):List Jb×Bool:=Cm js js.length
def L0:Nat->List Jb->List Jb
 | 0,js=>js
 | n+1,js=>if (Cf js).2=true then L0 n (Cf js).1 else (Cf js).1
def Dw (js:List Jb):List Jb:=L0 (js.length+1) js
def Jb.open_ (j:Jb):Bool:=j.parts.any fun p=>decide (p.2=0)
def D4 (j:Jb):Jb:=
 if j.parts=[]\/j.open_=true then j
 else if (j.move 8).lf.st=1 then ⟨j.id,j.sp,(j.move 8).lf,-1,[],[]⟩ else ⟨j.id,j.sp,(j.move 8).lf,j.start,j.aj,[]⟩
def Is (js:List Jb):List Jb:=Dw (js.map D4)
def P2 (bj:Int) (l:Lf):Lf:=if bj=2 then (Ay l 4).1 else if bj=3 then (Ay l 5).1 else l
def Fi (j:Jb) (k:Nat) (bj:Int):Jb:=⟨j.id,j.sp,P2 bj j.lf,j.start,j.aj,j.parts.modify k fun p=>(p.1,bj)⟩
def Ov (j:Jb) (k:Nat) (at_:Int):Jb:=match j.parts[k]? with
 | none=>j
 | some p=>if p.2=0/\(at_<0\/p.1=at_) then Fi j k 3 else j
def It (j:Jb) (at_:Int):Nat->Jb
 | 0=>j
 | n+1=>Ov (It j at_ n) n at_
def Fj (j:Jb) (at_:Int):Jb:=It j at_ j.parts.length
def L1 (j:Jb):Int:=j.start+8+j.sp.wall
def Gd (j:Jb) (attempt node:Int):Option Nat:=
 if j.live=true/\j.lf.bm=attempt then j.parts.findIdx? fun p=>decide (p.1=node) && decide (p.2=0) else none
def Ve (i:Int) (j:Jb) (v:V4):V4:=
 (j.parts.filter fun p=>decide (p.1=i) && decide (p.2=0)).foldl (fun v _=>⟨v.a+j.sp.dn.a,v.b+j.sp.dn.b,v.c+j.sp.dn.c,v.d+j.sp.dn.d⟩) v
def P3 (js:List Jb) (i:Int):V4:=js.foldl (fun v j=>Ve i j v) ⟨0,0,0,0⟩
def Ji (js:List Jb) (j:Jb):Bool:=decide (j.lf.st=1) && j.sp.after.all fun id=>decide (Lz js id=5)
open Go.RowKit Go.Maps Go.Shelf
def Ib {n a b:Int}:D3 n a b=true↔a<=n/\n<=b:=by simp [D3]
def Vf {l:List Int} (h:Jh l=true):l.length<=8:=by
 simp only [Jh,Eo,Ja] at h;exact h.1
def Ak5 {n:Int} (h:ow n=true):n≠0/\-8<=n/\n<=1099511627776:=by
 simp only [ow,Eo,Ja] at h;exact ⟨h.1.1,h.1.2,h.2⟩
def Iu {s:dp} (h:Di s=true):C6 s.user=true/\C6 s.part=true/\P1 s.dn=true/\Jh s.after=true/\D3 s.nodes 1 16=true/\D3 s.wall 1 1000=true/\D3 s.prio 0 100=true/\D3 s.array 1 20=true/\D3 s.ae 0 5=true:=by
 simp only [Di,Eo] at h;obtain ⟨⟨⟨⟨⟨⟨⟨⟨a,b⟩,c⟩,d⟩,e⟩,f⟩,g⟩,i⟩,j⟩:=h;exact ⟨a,b,c,d,e,f,g,i,j⟩
def Ab5 {v:V4}:P1 v=true↔v.right=true/\v≠V4.zero:=by simp [P1]
def Tf (n g h:Int) (w:World):Calls Tryz.prog 151 #[.int .i64 n,.int .i64 g,.int .i64 h] w fun e w'=>e=.returned (.bool (D3 n g h))/\w'=w:=by
 by_cases a:g<=n
 .have d:=Az a;by_cases b:n<=h
  .have i:=Az b;have f:=Ib.2 ⟨a,b⟩;replace ⟨a,b,f⟩:=H3 a b f;go_enter Tryz.func151,Tryz.ntmps151;go_wp2;go_ret;exact ⟨by rw [f.out];rfl,rfl⟩
  .have i:=Aw b
   have f:D3 n g h=false:=by rw [I8];exact fun c=>b (Ib.1 c).2
   replace ⟨a,b,f⟩:=H3 a b f;go_enter Tryz.func151,Tryz.ntmps151;go_wp2;go_ret;exact ⟨by rw [f.out];rfl,rfl⟩
 .have d:=Aw a
  have f:D3 n g h=false:=by rw [I8];exact fun c=>a (Ib.1 c).1
  replace ⟨a,f⟩:=H2 a f;go_enter Tryz.func151,Tryz.ntmps151;go_wp2;go_ret;exact ⟨by rw [f.out];rfl,rfl⟩
def Ak6 (w:World) (b a n c:Nat) (xs:List Int) (x:Int) (h:Ap w (some ⟨b,a,none⟩) n xs) (k:Nat) (i:k<=n):Calls Tryz.prog 166 #[.slice (some ⟨b,a,none⟩) k c,.int .i64 x] w fun e w'=>e=.returned (.bool (K5 (xs.take k) x))/\w'=w:=by
 have l:=h.len;have m:=h.max;refine (Tryz.slices_Contains_int b a k c xs x w (by omega) (by omega) fun j d=>?_).mono ?_
 .obtain ⟨o,f,e,_,g⟩:=h.cell j (xs[j]'d) (by simp [d]);cases e;rw [g];simp [List.getD,d]
 .rintro e w' ⟨rfl,rfl⟩
  have:(xs.take k).contains x=K5 (xs.take k) x:=by rw [Pt,Ak4,List.contains_iff_mem]
  rw [this];exact ⟨rfl,rfl⟩
def Ak7 {l:List Int} (h:8<l.length):Jh l=false:=by
 unfold Jh;rw [show decide (l.length<=8)=false from Aw (by omega)];rfl
def Vg {l:List Int} {k:Nat} (a:k<l.length) (h:(ow (l.getD k 0) && !K5 (l.take k) (l.getD k 0))=false):Jh l=false:=by
 unfold Jh;rw [Ak3 a h,Bool.and_false]
def Ak8 {l:List Int} (a:l.length<=8) (h:Ly l l.length=true):Jh l=true:=by
 unfold Jh;rw [h,show decide (l.length<=8)=true from Az a];rfl
def Ym {x:Int} (h:x=0\/x < -8\/1099511627776<x):ow x=false:=by
 rw [I8];intro c;have:=Ak5 c;omega
def Ak9 {x:Int} (h0:x≠0) (h1:-8<=x) (a:x<=1099511627776):ow x=true:=by
 simp only [ow,Eo,Ja];exact ⟨⟨h0,h1⟩,a⟩
def Ala (so:Option Addr) (n c:Nat) (xs:List Int) (w:World) (h:Ap w so n xs) (ao:n<=c):Calls Tryz.prog 153 #[.slice so n c] w fun e w'=>e=.returned (.bool (Jh xs))/\w'=w:=by
 obtain ⟨i3,q,s,l,o⟩:=C0 M0;have a:=h.len;have an:=h.max;by_cases h8:8<n
 .have d:decide ((8:Int)<n)=true:=Az (by omega);have j:=Ak7 (by rw [a];exact h8);replace ⟨h,a,j,h8,q,s,l,o⟩:=H8 h a j h8 q s l o;go_enter Tryz.func153,Tryz.ntmps153;go_wp2;go_ret;exact ⟨by rw [j.out];rfl,rfl⟩
 have d:decide ((8:Int)<n)=false:=Aw (by omega);replace ⟨h,a,q,s,l,o⟩:=H6 h a q s l o;go_enter Tryz.func153,Tryz.ntmps153;go_wp2;clear d;go_loopw [3,4,10] (fun _ _ i wr=>∃ k:Nat,i=.int .i64 k/\k<=n/\Hid (Ly xs k=true)/\wr=w) (fun _ _ i _=>n-(intOf i).toNat)
 case atStart=>exact ⟨0,rfl,Av _,rfl,rfl⟩
 case round=>
  obtain ⟨k,rfl,hk,v,rfl⟩:=hrel;by_cases hc:k<n
  .have al:(k:Int)<n:=(by omega);have ap:(0:Int)<=(k:Int):=(by omega);obtain ⟨y,r⟩:=h.out.get hc;obtain ⟨b,ad,rfl,hb,a0⟩:=h.out.cell k y r;have g:xs.getD k 0=y:=(by rw [List.getD,r];rfl);by_cases p:y=0
   .have d:(y == 0)=true:=(by simp [p]);have f:(ow (xs.getD k 0) && !K5 (xs.take k) (xs.getD k 0))=false:=(by rw [g,Ym (.inl p)];rfl);replace ⟨r,g,f,p⟩:=H4 r g f p;have j:=Vg (k:=k) (by rw [a.out];exact hc) f.out;replace j:=Hh j;go_wp2;go_ret;exact ⟨by rw [j.out];rfl,rfl⟩
   have d:(y == 0)=false:=(by simp [p]);by_cases t:y < -8
   .have d1:=Az t;have f:(ow (xs.getD k 0) && !K5 (xs.take k) (xs.getD k 0))=false:=(by rw [g,Ym (.inr (.inl t))];rfl);replace ⟨r,g,f,p,t⟩:=H5 r g f p t;have j:=Vg (k:=k) (by rw [a.out];exact hc) f.out;replace j:=Hh j;go_wp2;go_ret;exact ⟨by rw [j.out];rfl,rfl⟩
   have d1:=Aw t;by_cases x:1099511627776<y
   .have d2:=Az x;have f:(ow (xs.getD k 0) && !K5 (xs.take k) (xs.getD k 0))=false:=(by rw [g,Ym (.inr (.inr x))];rfl);replace ⟨r,g,f,p,t,x⟩:=H6 r g f p t x;have j:=Vg (k:=k) (by rw [a.out];exact hc) f.out;replace j:=Hh j;go_wp2;go_ret;exact ⟨by rw [j.out];rfl,rfl⟩
   have d2:=Aw x;have av:=fun w=>U7 Nm q.out ⟨b,ad,none⟩ n c k k rfl (by omega) w;have u:=Ak6 wr b ad n c xs y h.out k (by omega);obtain ⟨m,hm⟩:=Ex (K5 (xs.take k) y);rw [<- hm] at u;have z:=Ak9 p (by omega) (by omega);replace ⟨r,g,p,t,x,u,hm,z⟩:=H8 r g p t x u hm z;go_wp2_with fail;refine u.out.mono ?_;rintro e w2 ⟨rfl,rfl⟩
   cases m with
   | true=>
    have f:(ow (xs.getD k 0) && !K5 (xs.take k) (xs.getD k 0))=false:=(by rw [g.out,<- hm.out];simp);replace f:=Hh f;have j:=Vg (k:=k) (by rw [a.out];exact hc) f.out;replace j:=Hh j;go_wp2;go_ret;exact ⟨by rw [j.out];rfl,rfl⟩
   | false=>
    have ac:Ly xs (k+1)=true:=(by simp only [Ly,g.out,<- hm.out,z.out,v.out];rfl);replace ac:=Hh ac;go_wp2;go_roundw
    case rel=>exact ⟨k+1,by go_num,by omega,ac.out,By⟩
    case measure=>simp [intOf];omega
  .have al:¬ (k:Int)<n:=(by omega);have am:k=n:=(by omega);subst am;have j:=Ak8 (by rw [a.out];omega) (by rw [a.out];exact v.out);replace j:=Hh j;go_wp2;go_ret;exact ⟨by rw [j.out];rfl,rfl⟩
structure au where
 pl:dp
 so:Option Addr
 n:Nat
 c:Nat
abbrev au.cells (x:au):Array Value:=#[.string x.pl.user,.string x.pl.part,.int .i64 x.pl.nodes,.int .i64 x.pl.dn.a,.int .i64 x.pl.dn.b,.int .i64 x.pl.dn.c,.int .i64 x.pl.dn.d,.int .i64 x.pl.wall,.int .i64 x.pl.prio,.int .i64 x.pl.array,.int .i64 x.pl.ae,.bool x.pl.held,.slice x.so x.n x.c]
abbrev au.val (x:au):Value:=.agg #[.string x.pl.user,.string x.pl.part,.int .i64 x.pl.nodes,.int .i64 x.pl.dn.a,.int .i64 x.pl.dn.b,.int .i64 x.pl.dn.c,.int .i64 x.pl.dn.d,.int .i64 x.pl.wall,.int .i64 x.pl.prio,.int .i64 x.pl.array,.int .i64 x.pl.ae,.bool x.pl.held,.slice x.so x.n x.c]
structure au.ok (w:World) (x:au):Prop where
 after:Ap w x.so x.n x.pl.after
 mh:x.n<=x.c
 user:x.pl.user.size<=maxLen
 part:x.pl.part.size<=maxLen
def au.ok.low {w w':World} {x:au} (h:x.ok w) (a:Below w.heap.size w w'):x.ok w':=⟨h.after.low a,h.mh,h.user,h.part⟩
def au.zero:au:=⟨dp.zero,none,0,0⟩
def Tg (w:World):Ap w none 0 []:=⟨rfl,by omega,fun i x h=>by simp at h⟩
def Nz (s:dp):Int:=if Di s=true then 0 else 80
structure K6 (w:World) (x:au) (wr:World):Prop where
 low:Below w.heap.size w wr
 box:wr.heap[w.heap.size]?=some (.cells x.cells 33 (0,0))
def K6.below {w wr w':World} {x:au} (h:K6 w x wr) (a:Below wr.heap.size wr w'):K6 w x w':=
 ⟨h.low.trans (a.mono h.low.size),Ae a h.box (Ab h.box)⟩
def K6.new (w:World) (x:au):K6 w x (w.alloc (.cells x.cells 33 (0,0))):=⟨Bn,Af _ _⟩
def K6.ok {w wr:World} {x:au} (h:K6 w x wr) (a:x.ok w):x.ok wr:=a.low h.low
def Vh (x:au) (w:World) (hx:x.ok w):Calls Tryz.prog 97 #[x.val] w fun e w'=>e=.returned (.int .i64 (Nz x.pl))/\Below w.heap.size w w':=by
 have g:=K6.new w x;obtain ⟨⟨a,b,nodes,⟨i,j,k,l⟩,c,d,array,s,f,after⟩,so,n,t⟩:=x;obtain ⟨b1,ad⟩:=Ex (C6 a);obtain ⟨b2,al⟩:=Ex (C6 b);obtain ⟨b4,am⟩:=Ex (Jh after);obtain ⟨b5,an⟩:=Ex (D3 nodes 1 16);obtain ⟨b6,ao⟩:=Ex (D3 c 1 1000);obtain ⟨b7,ap⟩:=Ex (D3 d 0 100);obtain ⟨b8,av⟩:=Ex (D3 array 1 20);obtain ⟨b9,aA⟩:=Ex (D3 s 0 5);have ac:=In ⟨i,j,k,l⟩;obtain ⟨r,hr⟩:=Ex (V4.right ⟨i,j,k,l⟩);rw [<- hr] at ac;have hE:=Te ⟨i,j,k,l⟩ ⟨0,0,0,0⟩;obtain ⟨q,hq⟩:=Ex (decide ((⟨i,j,k,l⟩:V4)=⟨0,0,0,0⟩));rw [<- hq] at hE;have hd:P1 ⟨i,j,k,l⟩=(r && !q):=by unfold P1;rw [hr,hq,<- decide_not];rfl
 have v:Nz ⟨a,b,nodes,⟨i,j,k,l⟩,c,d,array,s,f,after⟩=if (b1 && b2 && (r && !q) && b4 && b5 && b6 && b7 && b8 && b9)=true then 0 else 80:=by rw [ad,al,<- hd,am,an,ao,ap,av,aA];rfl
 have k1:∀ W,Calls Tryz.prog 78 #[.string a] W fun e w'=>e=.returned (.bool b1)/\Below W.heap.size W w':=fun W=>by rw [ad];exact U2 a W hx.user
 have k2:∀ W,Calls Tryz.prog 78 #[.string b] W fun e w'=>e=.returned (.bool b2)/\Below W.heap.size W w':=fun W=>by rw [al];exact U2 b W hx.part
 have k4:∀ W,K6 w ⟨⟨a,b,nodes,⟨i,j,k,l⟩,c,d,array,s,f,after⟩,so,n,t⟩ W->Calls Tryz.prog 153 #[.slice so n t] W fun e w'=>e=.returned (.bool b4)/\w'=W:=fun W hW=>by rw [am];exact Ala so n t after W (hW.ok hx).after hx.mh
 have k5:∀ W,Calls Tryz.prog 151 #[.int .i64 nodes,.int .i64 1,.int .i64 16] W fun e w'=>e=.returned (.bool b5)/\w'=W:=fun W=>by rw [an];exact Tf _ _ _ W
 have k6:∀ W,Calls Tryz.prog 151 #[.int .i64 c,.int .i64 1,.int .i64 1000] W fun e w'=>e=.returned (.bool b6)/\w'=W:=fun W=>by rw [ao];exact Tf _ _ _ W
 have k7:∀ W,Calls Tryz.prog 151 #[.int .i64 d,.int .i64 0,.int .i64 100] W fun e w'=>e=.returned (.bool b7)/\w'=W:=fun W=>by rw [ap];exact Tf _ _ _ W
 have k8:∀ W,Calls Tryz.prog 151 #[.int .i64 array,.int .i64 1,.int .i64 20] W fun e w'=>e=.returned (.bool b8)/\w'=W:=fun W=>by rw [av];exact Tf _ _ _ W
 have k9:∀ W,Calls Tryz.prog 151 #[.int .i64 s,.int .i64 0,.int .i64 5] W fun e w'=>e=.returned (.bool b9)/\w'=W:=fun W=>by rw [aA];exact Tf _ _ _ W
 clear ad al hr hq hd am an ao ap av aA;have c0:(w.alloc (.cells (⟨⟨a,b,nodes,⟨i,j,k,l⟩,c,d,array,s,f,after⟩,so,n,t⟩:au).cells 33 (0,0))).cell? ⟨w.heap.size,0,none⟩=some (.string a):=Aa g.box 0;have c1:(w.alloc (.cells (⟨⟨a,b,nodes,⟨i,j,k,l⟩,c,d,array,s,f,after⟩,so,n,t⟩:au).cells 33 (0,0))).cell? ⟨w.heap.size,1,none⟩=some (.string b):=Aa g.box 1;have c2:(w.alloc (.cells (⟨⟨a,b,nodes,⟨i,j,k,l⟩,c,d,array,s,f,after⟩,so,n,t⟩:au).cells 33 (0,0))).cell? ⟨w.heap.size,2,none⟩=some (.int .i64 nodes):=Aa g.box 2;have c3:(w.alloc (.cells (⟨⟨a,b,nodes,⟨i,j,k,l⟩,c,d,array,s,f,after⟩,so,n,t⟩:au).cells 33 (0,0))).cell? ⟨w.heap.size,3,none⟩=some (.int .i64 i):=Aa g.box 3;have c4:(w.alloc (.cells (⟨⟨a,b,nodes,⟨i,j,k,l⟩,c,d,array,s,f,after⟩,so,n,t⟩:au).cells 33 (0,0))).cell? ⟨w.heap.size,4,none⟩=some (.int .i64 j):=Aa g.box 4;have c5:(w.alloc (.cells (⟨⟨a,b,nodes,⟨i,j,k,l⟩,c,d,array,s,f,after⟩,so,n,t⟩:au).cells 33 (0,0))).cell? ⟨w.heap.size,5,none⟩=some (.int .i64 k):=Aa g.box 5;have c6:(w.alloc (.cells (⟨⟨a,b,nodes,⟨i,j,k,l⟩,c,d,array,s,f,after⟩,so,n,t⟩:au).cells 33 (0,0))).cell? ⟨w.heap.size,6,none⟩=some (.int .i64 l):=Aa g.box 6;have c7:(w.alloc (.cells (⟨⟨a,b,nodes,⟨i,j,k,l⟩,c,d,array,s,f,after⟩,so,n,t⟩:au).cells 33 (0,0))).cell? ⟨w.heap.size,7,none⟩=some (.int .i64 c):=Aa g.box 7;have c8:(w.alloc (.cells (⟨⟨a,b,nodes,⟨i,j,k,l⟩,c,d,array,s,f,after⟩,so,n,t⟩:au).cells 33 (0,0))).cell? ⟨w.heap.size,8,none⟩=some (.int .i64 d):=Aa g.box 8;have c9:(w.alloc (.cells (⟨⟨a,b,nodes,⟨i,j,k,l⟩,c,d,array,s,f,after⟩,so,n,t⟩:au).cells 33 (0,0))).cell? ⟨w.heap.size,9,none⟩=some (.int .i64 array):=Aa g.box 9;have m:(w.alloc (.cells (⟨⟨a,b,nodes,⟨i,j,k,l⟩,c,d,array,s,f,after⟩,so,n,t⟩:au).cells 33 (0,0))).cell? ⟨w.heap.size,10,none⟩=some (.int .i64 s):=Aa g.box 10;have o:(w.alloc (.cells (⟨⟨a,b,nodes,⟨i,j,k,l⟩,c,d,array,s,f,after⟩,so,n,t⟩:au).cells 33 (0,0))).cell? ⟨w.heap.size,11,none⟩=some (.bool f):=Aa g.box 11;have p:(w.alloc (.cells (⟨⟨a,b,nodes,⟨i,j,k,l⟩,c,d,array,s,f,after⟩,so,n,t⟩:au).cells 33 (0,0))).cell? ⟨w.heap.size,12,none⟩=some (.slice so n t):=Aa g.box 12;replace ⟨v,k1,k2,ac,k4,k5,k6,k7⟩:=H8 v k1 k2 ac k4 k5 k6 k7;replace ⟨k8,k9,hx,g⟩:=H4 k8 k9 hx g;have aB:=Hh hE;clear hE;go_enter Tryz.func97,Tryz.ntmps97;go_wp2_with fail;refine (k1.out _).mono ?_;rintro e w1 ⟨rfl,u⟩;have y:=(g).out.below u;clear c0 c1 c2 c3 c4 c5 c6 c7 c8 c9 m o p;obtain ⟨c0,c1,c2,c3,c4,c5,c6,c7,c8,c9,m,o,p⟩:=C13 (y).box;(try dsimp only at c0 c1 c2 c3 c4 c5 c6 c7 c8 c9 m o p);replace ⟨y,u⟩:=H2 y u;clear u
 cases b1 with
 | false=>
  go_wp2;go_ret;exact ⟨by rw [v.out];rfl,(y).out.low⟩
 | true=>
 go_wp2_with fail;refine (k2.out _).mono ?_;rintro e w2 ⟨rfl,u⟩;have z:=(y).out.below u;clear c0 c1 c2 c3 c4 c5 c6 c7 c8 c9 m o p;obtain ⟨c0,c1,c2,c3,c4,c5,c6,c7,c8,c9,m,o,p⟩:=C13 (z).box;(try dsimp only at c0 c1 c2 c3 c4 c5 c6 c7 c8 c9 m o p);replace ⟨z,u⟩:=H2 z u;clear u
 cases b2 with
 | false=>
  go_wp2;go_ret;exact ⟨by rw [v.out];rfl,(z).out.low⟩
 | true=>
 go_wp2_with fail;refine (ac.out _).mono ?_;rintro e w3 ⟨rfl,u⟩;have h:=(z).out.below u;clear c0 c1 c2 c3 c4 c5 c6 c7 c8 c9 m o p;obtain ⟨c0,c1,c2,c3,c4,c5,c6,c7,c8,c9,m,o,p⟩:=C13 (h).box;(try dsimp only at c0 c1 c2 c3 c4 c5 c6 c7 c8 c9 m o p);replace ⟨h,u⟩:=H2 h u;clear u
 cases r with
 | false=>
  go_wp2;go_ret;exact ⟨by rw [v.out];rfl,(h).out.low⟩
 | true=>
 have hE:=aB.out
 cases q with
 | true=>
  go_wp2;go_ret;exact ⟨by rw [v.out];rfl,(h).out.low⟩
 | false=>
 go_wp2_with fail;refine (k4.out _ h.out).mono ?_;rintro e w4 ⟨rfl,rfl⟩;clear hE
 cases b4 with
 | false=>
  go_wp2;go_ret;exact ⟨by rw [v.out];rfl,(h).out.low⟩
 | true=>
 go_wp2_with fail;refine (k5.out _).mono ?_;rintro e w5 ⟨rfl,rfl⟩
 cases b5 with
 | false=>
  go_wp2;go_ret;exact ⟨by rw [v.out];rfl,(h).out.low⟩
 | true=>
 go_wp2_with fail;refine (k6.out _).mono ?_;rintro e w6 ⟨rfl,rfl⟩
 cases b6 with
 | false=>
  go_wp2;go_ret;exact ⟨by rw [v.out];rfl,(h).out.low⟩
 | true=>
 go_wp2_with fail;refine (k7.out _).mono ?_;rintro e w7 ⟨rfl,rfl⟩
 cases b7 with
 | false=>
  go_wp2;go_ret;exact ⟨by rw [v.out];rfl,(h).out.low⟩
 | true=>
 go_wp2_with fail;refine (k8.out _).mono ?_;rintro e w8 ⟨rfl,rfl⟩
 cases b8 with
 | false=>
  go_wp2;go_ret;exact ⟨by rw [v.out];rfl,(h).out.low⟩
 | true=>
 go_wp2_with fail;refine (k9.out _).mono ?_;rintro e w9 ⟨rfl,rfl⟩
 cases b9 with
 | false=>
  go_wp2;go_ret;exact ⟨by rw [v.out];rfl,(h).out.low⟩
 | true=>
  go_wp2;go_ret;exact ⟨by rw [v.out];rfl,(h).out.low⟩
open Go.Sort
def P6 {w:World} {B:Nat} {v:Value} {xs:List Int} (h:Ak w B v xs):∃ so n c,v=.slice so n c/\n<=c/\Ap w so n xs/\∀ b o,so=some ⟨b,o,none⟩->B<=b/\b<w.heap.size:=by
 obtain ⟨so,c,e,f⟩:=Ab2 h;have i:=h.row;rcases i.2 with ⟨a,h0⟩ | ⟨g,cap,j,a,l,k,m,_⟩
 .refine ⟨so,xs.length,c,e,by omega,f,fun b o d=>?_⟩;rw [e] at a;injection a with a;rw [a] at d;cases d
 .refine ⟨so,xs.length,c,e,?_,f,fun b o d=>?_⟩
  .rw [e] at a;injection a with _ _ hc;omega
  .have p:=Ab k;rw [e] at a;injection a with a;rw [a] at d;injection d with d;injection d with d;omega
def Ach {w w':World} (a:Below w.heap.size w w') (r:Option Nat):w.grownBy w' r:=⟨a.os,a.tape,a.output,a.size,fun i b _=>a.block i b⟩
def Yn (w:World) (r:Option Nat):w.grownBy w r:=Ach (Below.refl _ _) r
def Aci {a b c:World} {r:Option Nat} (h1:a.grownBy b r) (d:b.grownBy c r):a.grownBy c r:=
 ⟨d.os.trans h1.os,d.tape.trans h1.tape,d.output.trans h1.output,A6 h1.size d.size,fun i e f=>(d.block i (Br e h1.size) f).trans (h1.block i e f)⟩
def Th {a w:World} {b o:Nat} (h:a.grownBy w (some b)) (v:Value):a.grownBy (w.setCell ⟨b,o,none⟩ v) (some b):=
 ⟨h.os,h.tape,h.output,by simpa [World.setCell] using h.size,fun i d c=>(Cd w ⟨b,o,none⟩ v i (fun e=>c (by rw [e]))).trans (h.block i d c)⟩
def Alq {w w':World} {so:Option Addr} {n:Nat} {xs:List Int} (h:Ap w so n xs) (f:w.heap.size<=w'.heap.size) (g:∀ b c,so=some ⟨b,c,none⟩->b<w.heap.size->w'.heap[b]?=w.heap[b]?):Ap w' so n xs:=
 ⟨h.len,h.max,fun i x j=>by
  obtain ⟨b,c,e,d,k⟩:=h.cell i x j
  exact ⟨b,c,e,by omega,(Bp (a:=⟨b,c+i,none⟩) (w:=w) (g b c e d)).trans k⟩⟩
def Acj {w w':World} {f:Nat} {so:Option Addr} {n:Nat} {xs:List Int} (h:Ap w so n xs) (g:w.grownBy w' (some f)) (i:∀ b o,so=some ⟨b,o,none⟩->b≠f):Ap w' so n xs:=
 Alq h g.size fun b a e d=>g.block b d (fun c=>i b a e (by injection c with c))
def Ack {a w w':World} {B r:Nat} (h:Below B a w) (b:w.grownBy w' (some r)) (c:B<=w.heap.size) (d:B<=r):Below B a w':=
 h.grown b c (fun k e=>by injection e with e;omega)
def K7 (s:dp):V4:=if Di s=true then ⟨s.dn.a*s.nodes,s.dn.b*s.nodes,s.dn.c*s.nodes,s.dn.d*s.nodes⟩ else V4.zero
structure Rq (w:World) (x:au) (v:V4) (W:World):Prop where
 low:Below w.heap.size w W
 box:W.heap[w.heap.size]?=some (.cells x.cells 33 (0,0))
 res:W.heap[w.heap.size+1]?=some (.cells V4.zero.cells 30 (0,0))
 vec:W.heap[w.heap.size+2]?=some (.cells v.cells 30 (0,0))
def Rq.set {w W:World} {x:au} {v a:V4} (h:Rq w x v W) (o:Nat) (z:Value) (e:v.cells.setIfInBounds o z=a.cells):Rq w x a (W.setCell ⟨w.heap.size+2,o,none⟩ z):=
 ⟨h.low.setCell (show w.heap.size<=w.heap.size+2 by omega) _,Dh (by omega) _ h.box,Dh (by omega) _ h.res,by rw [<- e];exact Al h.vec o z⟩
def Vi {a n:Int} (h0:0<=a) (h1:a<=1073741824) (b:1<=n) (c:n<=16):0<=a*n/\a*n<=17179869184:=by
 refine ⟨Int.mul_nonneg h0 (by omega),?_⟩;have d:a*n<=1073741824*n:=Int.mul_le_mul_of_nonneg_right h1 (by omega);omega
def Alr (a b c d:Int) (j:Nat) (e:j<4) (w:World):(Instr.index 30 (.agg #[.int .i64 a,.int .i64 b,.int .i64 c,.int .i64 d]) (.int .i64 (j:Int))).run Tryz.prog w=.ok (.int .i64 (V4.get ⟨a,b,c,d⟩ j)) w:=Ajq a b c d j e w
def Als (v:V4):sh v 0=V4.zero:=by simp [sh,V4.zero]
def Alt (v:V4):sh v 4=v:=by simp [sh]
def Alu (v:V4) (k:Nat) (a:k<4):(sh v k).cells.setIfInBounds k (.int .i64 (v.get k))=(sh v (k+1)).cells:=by
 rcases (show k=0\/k=1\/k=2\/k=3 by omega) with rfl | rfl | rfl | rfl<;>simp [sh,V4.get]
def Alv (x:au) (w:World) (hx:x.ok w):Calls Tryz.prog 234 #[x.val] w fun e w'=>e=.returned (K7 x.pl).val/\Below w.heap.size w w':=by
 obtain ⟨W0,h⟩:=Ex (((w.alloc (.cells x.cells 33 (0,0))).alloc (.cells V4.zero.cells 30 (0,0))).alloc (.cells V4.zero.cells 30 (0,0)));have f:Rq w x V4.zero W0:=by rw [h];exact ⟨(Bn.alloc (by simp) _).alloc (by simp;omega) _,Ai _ (Ai _ (Af _ _)),Ai _ (A2 _ _ (by simp)),A2 _ _ (by simp)⟩
 have hk:=Vh x W0 (hx.low f.low);by_cases hs:Di x.pl=true;rotate_left
 .have j:K7 x.pl=V4.zero:=Ac hs;have he:Nz x.pl=80:=Ac hs;rw [he,h] at hk;have z:=Hh h;clear h;obtain ⟨⟨ac,ad,nodes,⟨r,s,t,u⟩,al,am,array,ae,an,after⟩,so,n,cp⟩:=x;replace ⟨j,hk,f,hx,hs,he⟩:=H6 j hk f hx hs he;go_enter Tryz.func234,Tryz.ntmps234;go_wp2_with fail;refine hk.out.mono ?_;rintro e w1 ⟨rfl,o⟩;rw [<- z.out] at o;have g:=f.out.low.trans (o.mono f.out.low.size);have l:=Ae o f.out.res (Ab f.out.res);have p:=Ae o f.out.vec (Ab f.out.vec);have r0:=Bk l 0 (.int .i64 0) rfl;have r1:=Bk l 1 (.int .i64 0) rfl;have r2:=Bk l 2 (.int .i64 0) rfl;have r3:=Bk l 3 (.int .i64 0) rfl;have v0:=Bk p 0 (.int .i64 0) rfl;have v1:=Bk p 1 (.int .i64 0) rfl;have v2:=Bk p 2 (.int .i64 0) rfl;have v3:=Bk p 3 (.int .i64 0) rfl;have fr:=Ah l;replace ⟨o,g,l,p⟩:=H4 o g l p;go_wp2;refine Ao (v:=V4.zero.val) (by simp [results,Tryz.results234,go_sem,r0,r1,r2,r3,V4.zero]) rfl ⟨by rw [j.out],?_⟩;exact ((((g.out.setCell (Ea _) _).setCell (Ea _) _).setCell (Ea _) _).setCell (Ea _) _)
 have he:Nz x.pl=0:=Ad hs;have j:K7 x.pl=⟨x.pl.dn.a*x.pl.nodes,x.pl.dn.b*x.pl.nodes,x.pl.dn.c*x.pl.nodes,x.pl.dn.d*x.pl.nodes⟩:=Ad hs;rw [he,h] at hk;have z:=Hh h;clear h;obtain ⟨_,_,q3,_,q5,_⟩:=Iu hs;obtain ⟨h1,h2,h3,h4,h5,h6,h7,h8⟩:=Yk (Ab5.1 q3).1;obtain ⟨n1,n2⟩:=Ib.1 q5;obtain ⟨⟨ac,ad,nodes,⟨r,s,t,u⟩,al,am,array,ae,an,after⟩,so,n,cp⟩:=x;simp only at h1 h2 h3 h4 h5 h6 h7 h8 n1 n2;obtain ⟨av,aA⟩:=Vi h1 h2 n1 n2;obtain ⟨aB,aC⟩:=Vi h3 h4 n1 n2;obtain ⟨aD,aE⟩:=Vi h5 h6 n1 n2;obtain ⟨aF,aG⟩:=Vi h7 h8 n1 n2;replace ⟨j,hk,f,hx,hs,he,q3,q5⟩:=H8 j hk f hx hs he q3 q5;go_enter Tryz.func234,Tryz.ntmps234;go_wp2_with fail;refine hk.out.mono ?_;rintro e w1 ⟨rfl,o⟩;rw [<- z.out] at o
 have m:Rq w ⟨⟨ac,ad,nodes,⟨r,s,t,u⟩,al,am,array,ae,an,after⟩,so,n,cp⟩ V4.zero w1:=
  ⟨f.out.low.trans (o.mono f.out.low.size),Ae o f.out.box (Ab f.out.box),Ae o f.out.res (Ab f.out.res),Ae o f.out.vec (Ab f.out.vec)⟩
 have y3:=Bk m.box 3 (.int .i64 r) rfl;have y4:=Bk m.box 4 (.int .i64 s) rfl;have y5:=Bk m.box 5 (.int .i64 t) rfl;have y6:=Bk m.box 6 (.int .i64 u) rfl;replace ⟨o,m⟩:=H2 o m;go_wp2;clear y3 y4 y5 y6;go_loopw [4,5,12] (fun _ _ i wr=>∃ k:Nat,i=.int .i64 k/\k<=4/\Hid (Rq w ⟨⟨ac,ad,nodes,⟨r,s,t,u⟩,al,am,array,ae,an,after⟩,so,n,cp⟩ (sh ⟨r*nodes,s*nodes,t*nodes,u*nodes⟩ k) wr)) (fun _ _ i _=>4-(intOf i).toNat)
 case atStart=>exact ⟨0,rfl,by omega,by rw [Als];exact m.out⟩
 case round=>
  obtain ⟨k,rfl,aK,hN⟩:=hrel;by_cases hc:k<4
  .have aH:(k:Int)<4:=(by omega);have aL:(0:Int)<=(k:Int):=(by omega);have aI:=fun w=>Alr r s t u k hc w;have ao:=hN.out.set k _ (Alu ⟨r*nodes,s*nodes,t*nodes,u*nodes⟩ k hc)
   have ev:(V4.get ⟨r,s,t,u⟩ k)*nodes=V4.get ⟨r*nodes,s*nodes,t*nodes,u*nodes⟩ k:=by rcases (show k=0\/k=1\/k=2\/k=3 by omega) with rfl | rfl | rfl | rfl<;>rfl
   obtain ⟨y,hy⟩:=Ex (V4.get ⟨r,s,t,u⟩ k)
   have aJ:0<=y*nodes/\y*nodes<=17179869184:=by
    rw [hy,ev];rcases (show k=0\/k=1\/k=2\/k=3 by omega) with rfl | rfl | rfl | rfl
    .exact ⟨av,aA⟩
    .exact ⟨aB,aC⟩
    .exact ⟨aD,aE⟩
    .exact ⟨aF,aG⟩
   obtain ⟨aM,aN⟩:=aJ;rw [<- ev] at ao;rw [<- hy] at aI ao;have c2:=Bk hN.out.box 2 (.int .i64 nodes) rfl;have fv:=Ah hN.out.vec;obtain ⟨vk,aO⟩:∃ vk,wr.cell? ⟨w.heap.size+2,k,none⟩=some vk:=(by rw [Aa hN.out.vec];exact ⟨_,Pk (by simpa using hc)⟩);replace ⟨ao,hy,ev⟩:=H3 ao hy ev;go_wp2;go_roundw
   case rel=>exact ⟨k+1,by go_num,by omega,ao.out⟩
   case measure=>simp [intOf];omega
  .have aH:¬ (k:Int)<4:=(by omega);have ap:k=4:=(by omega);have q:=hN.out;rw [ap,Alt] at q;have l:=q.res;have p:=q.vec;have g:=q.low;have r0:=Bk l 0 (.int .i64 0) rfl;have r1:=Bk l 1 (.int .i64 0) rfl;have r2:=Bk l 2 (.int .i64 0) rfl;have r3:=Bk l 3 (.int .i64 0) rfl;have v0:=Bk p 0 (.int .i64 (r*nodes)) rfl;have v1:=Bk p 1 (.int .i64 (s*nodes)) rfl;have v2:=Bk p 2 (.int .i64 (t*nodes)) rfl;have v3:=Bk p 3 (.int .i64 (u*nodes)) rfl;have fr:=Ah l;replace ⟨g,l,p,ap,q⟩:=H5 g l p ap q;go_wp2;refine Ao (v:=(⟨r*nodes,s*nodes,t*nodes,u*nodes⟩:V4).val) (by simp [results,Tryz.results234,go_sem,r0,r1,r2,r3]) rfl ⟨by rw [j.out],?_⟩;exact ((((g.out.setCell (Ea _) _).setCell (Ea _) _).setCell (Ea _) _).setCell (Ea _) _)
def Rr (vs:List ax) (i:Int):V4:=if i<0 then V4.zero else ((vs[i.toNat]?).map ax.cap).getD V4.zero
def Alw {vs:List ax} {i:Int} {w w':World} {e:Ending} (h:Ab3 vs i w e w'):∃ (x:ar) (b:Bool),e=.returned (.tuple #[x.val,.bool b])/\x.cap=Rr vs i/\Below w.heap.size w w':=by
 obtain ⟨x,b,c,_,d,_,f⟩:=h;refine ⟨x,b,c,?_,d⟩;unfold Rr;rcases f with ⟨_,h0,a⟩ | ⟨_,rfl,a⟩
 .rw [Ac (by omega),a];rfl
 .split
  .rfl
  .rw [Q4 (by omega)];rfl
def M1 (vs:List ax) (d:V4) (l:List Int):Nat:=(l.filter fun i=>d.fits (Rr vs i)).length
def Alx {vs:List ax} {d:V4} {l:List Int} {k:Nat} {y:Int} (h:l[k]?=some y):M1 vs d (l.take (k+1))=M1 vs d (l.take k)+if d.fits (Rr vs y)=true then 1 else 0:=by
 unfold M1;rw [J7 h,Om,De];congr 1
 by_cases q:d.fits (Rr vs y)=true<;>simp [q]
def Aly (vs:List ax) (d:V4) (l:List Int):M1 vs d l<=l.length:=Nn _ _
def C7 (s:dp) (vs:List ax):Int:=
 if Di s=false then 80 else if Ce vs s.part=[] then 81 else if (M1 vs s.dn (Ce vs s.part):Int)<s.nodes then 82 else 0
def Alz {w:World} {fb mb base:Nat} {vs:List ax} (h:ir w fb mb base vs) (av:Ir vs) (x:au) (hx:x.ok w):Calls Tryz.prog 98 #[.pointer (some ⟨fb,0,none⟩),x.val] w fun e w'=>e=.returned (.int .i64 (C7 x.pl vs))/\Below w.heap.size w w':=by
 have a:=K6.new w x;have aF:=Vh x (w.alloc (.cells x.cells 33 (0,0))) (hx.low a.low);obtain ⟨er,aL⟩:=Ex (Nz x.pl);rw [<- aL] at aF
 have aA:(er=0/\Di x.pl=true)\/(er=80/\Di x.pl=false):=by
  rw [aL];unfold Nz
  cases Di x.pl<;>simp
 clear aL;have aM:=h.below a.low;obtain ⟨⟨aY,f,nodes,⟨da,db,dc,dd⟩,aZ,a0,array,ae,a1,after⟩,so,n,cp⟩:=x;have c0:=Aa a.box 0;have c1:=Aa a.box 1;have c2:=Aa a.box 2;have c3:=Aa a.box 3;have c4:=Aa a.box 4;have c5:=Aa a.box 5;have c6:=Aa a.box 6;have c7:=Aa a.box 7;have c8:=Aa a.box 8;have c9:=Aa a.box 9;have aS:=Aa a.box 10;have aT:=Aa a.box 11;have aU:=Aa a.box 12;simp at c0 c1 c2 c3 c4 c5 c6 c7 c8 c9 aS aT aU;replace ⟨a,aF,aM,h,av,hx,aA⟩:=H7 a aF aM h av hx aA;go_enter Tryz.func98,Tryz.ntmps98;go_wp2_with fail;refine aF.out.mono ?_;rintro e w1 ⟨rfl,u⟩;have p:=a.out.below u;have v:=aM.out.below u;clear c0 c1 c2 c3 c4 c5 c6 c7 c8 c9 aS aT aU;rcases aA.out with ⟨rfl,j⟩ | ⟨rfl,j⟩;rotate_left
 .replace ⟨u,p,v,j⟩:=H4 u p v j;clear aA;go_wp2;go_ret;exact ⟨by unfold C7;rw [Ad j.out];rfl,p.out.low⟩
 have y1:=Bk p.box 1 (.string f) rfl;have aN:=Ab1 v av.out f;clear aA;replace ⟨u,p,v,j,aN⟩:=H5 u p v j aN;go_wp2_with fail;refine aN.out.mono ?_;rintro e w2 ⟨v2,rfl,aB,ac⟩;obtain ⟨po,pn,pc,rfl,a2,ad,s⟩:=P6 aB;have al:=p.out.below ac;have aC:=v.out.below ac;have l:=ad.len;have a3:pn<=16:=by have h1:=Abw vs f 0;have h2:=av.out.len;unfold Ce at l;omega
 by_cases q0:pn=0
 .subst q0;replace ⟨aB,ac,ad,s,al,aC,l⟩:=H7 aB ac ad s al aC l;clear y1;go_wp2;go_ret;exact ⟨by unfold C7;rw [Ac (by rw [j.out];simp),Ad (Fw.1 l.out)];rfl,al.out.low⟩
 have a4:((pn:Int) == 0)=false:=by rw [Bg];omega
 clear y1;replace ⟨aB,ac,ad,s,al,aC,l,q0⟩:=H8 aB ac ad s al aC l q0;go_wp2;go_loopw [7,9,10,11,26] (fun m _ _ _ i wr=>∃ k:Nat,i=.int .i64 k/\k<=pn/\m=.int .i64 (M1 vs ⟨da,db,dc,dd⟩ ((Ce vs f).take k):Nat)/\Hid (Below w2.heap.size w2 wr)) (fun _ _ _ _ i _=>pn-(intOf i).toNat)
 case atStart=>exact ⟨0,rfl,Av _,rfl,Below.refl _ _⟩
 case round=>
  obtain ⟨k,rfl,hk,rfl,hB⟩:=hrel;obtain ⟨z,hz⟩:=Ex (M1 vs ⟨da,db,dc,dd⟩ ((Ce vs f).take k));rw [<- hz];have a5:z<=16:=by have h1:=Aly vs ⟨da,db,dc,dd⟩ ((Ce vs f).take k);have h2:=Pn k (Ce vs f);omega
  have g:=al.out.below hB.out;have r:=aC.out.below hB.out;by_cases hc:k<pn
  .have aW:(k:Int)<pn:=(by omega);have a6:(0:Int)<=(k:Int):=(by omega);obtain ⟨y,hy⟩:∃ y,(Ce vs f)[k]?=some y:=⟨_,Am (by have:=l.out;omega)⟩;obtain ⟨b,a7,rfl,hb,aO⟩:=(ad.out.low hB.out).cell k y hy;have aP:=Ab4 r av.out y;have aD:=Alx (vs:=vs) (d:=⟨da,db,dc,dd⟩) hy;rw [<- hz] at aD;have aX:IntKind.i64.wrap ((z:Int)+1)=(z:Int)+1:=Gt _ (by omega);replace ⟨hy,aP,aD,g,r,hz⟩:=H6 hy aP aD g r hz;go_wp2_with fail;refine aP.out.mono ?_;intro e w3 hN;obtain ⟨⟨nm,⟨ca,cb,cc,cd⟩,qo,qn,qc,qs⟩,b3,rfl,t,aE⟩:=Alw hN;clear hN;replace ⟨t,aE⟩:=H2 t aE;go_upto_region 12 with fail;obtain ⟨nb,aQ⟩:=Ex (w3.heap.size);obtain ⟨W4,aG⟩:=Ex (w3.alloc (.cells (⟨nm,⟨ca,cb,cc,cd⟩,qo,qn,qc,qs⟩:ar).cells 69 (0,0)));have aH:Below w3.heap.size w3 W4:=(by rw [aG];exact Bn);have am:W4.heap[nb]?=some (.cells (⟨nm,⟨ca,cb,cc,cd⟩,qo,qn,qc,qs⟩:ar).cells 69 (0,0)):=(by rw [aG,aQ];exact Af _ _);rw [<- aG,<- aQ];have an:=(g.out.below aE.out).below aH;have aI:=(hB.out.trans (aE.out.mono hB.out.size)).trans (aH.mono (hB.out.trans (aE.out.mono hB.out.size)).size);clear aG aQ;have y3:=Bk an.box 3 (.int .i64 da) rfl;have y4:=Bk an.box 4 (.int .i64 db) rfl;have y5:=Bk an.box 5 (.int .i64 dc) rfl;have y6:=Bk an.box 6 (.int .i64 dd) rfl;have n1:=Bk am 1 (.int .i64 ca) rfl;have n2:=Bk am 2 (.int .i64 cb) rfl;have n3:=Bk am 3 (.int .i64 cc) rfl;have n4:=Bk am 4 (.int .i64 cd) rfl;have aJ:=U1 ⟨da,db,dc,dd⟩ ⟨ca,cb,cc,cd⟩ W4;obtain ⟨q,hq⟩:=Ex (V4.fits ⟨da,db,dc,dd⟩ ⟨ca,cb,cc,cd⟩);rw [<- hq] at aJ;have o:=aD.out;rw [show Rr vs y=⟨ca,cb,cc,cd⟩ from t.out.symm,<- hq] at o;clear hq aD t aO;replace ⟨aH,am,an,aI,aJ,o⟩:=H6 aH am an aI aJ o;go_wp2_with fail;refine aJ.out.mono ?_;rintro e w5 ⟨rfl,aR⟩;have aK:=aI.out.trans (aR.mono aI.out.size);clear y3 y4 y5 y6 n1 n2 n3 n4;replace ⟨aR,aK⟩:=H2 aR aK
   cases q with
   | true=>
    go_wp2;go_roundw
    case rel=>exact ⟨k+1,by go_num,by omega,by rw [o.out];first | rfl | simp,aK.out⟩
    case measure=>simp [intOf];omega
   | false=>
    go_wp2;go_roundw
    case rel=>exact ⟨k+1,by go_num,by omega,by rw [o.out];first | rfl | simp,aK.out⟩
    case measure=>simp [intOf];omega
  .have aW:¬ (k:Int)<pn:=(by omega);have aV:k=pn:=(by omega);have ao:z=M1 vs ⟨da,db,dc,dd⟩ (Ce vs f):=(by rw [hz,aV,<- l.out,On]);have y2:=Bk g.box 2 (.int .i64 nodes) rfl
   have ap:Ce vs f≠[]:=fun c=>by have:=l.out;rw [c] at this;exact q0.out this.symm
   clear hz aV;by_cases q3:(z:Int)<nodes
   .replace ⟨g,r,ao,ap⟩:=H4 g r ao ap;go_wp2;go_ret;exact ⟨by unfold C7;rw [Ac (by rw [j.out];simp),Ac ap.out,Ad (by rw [<- ao.out];exact q3)];rfl,g.out.low⟩
   .replace ⟨g,r,ao,ap⟩:=H4 g r ao ap;go_wp2;go_ret;exact ⟨by unfold C7;rw [Ac (by rw [j.out];simp),Ac ap.out,Ac (by rw [<- ao.out];exact Int.not_lt.2 q3)];rfl,g.out.low⟩
def Yr:(Tryz.prog.info? 33).map (fun i=>(i.zero,i.size,i.bytes))=some (some au.zero.val,13,136):=by kernel_rfl
def au.single (x:au):au:=⟨{ x.pl with array:=1 },x.so,x.n,x.c⟩
def P7 (s:dp):Nat:=if Di s=true then s.array.toNat else 0
def L6 (c:Array Value) (base:Nat):List Value->Array Value
 | []=>c
 | v :: vs=>L6 (c.setIfInBounds base v) (base+1) vs
def setRow (W:World) (g base:Nat):List Value->World
 | []=>W
 | v :: vs=>setRow (W.setCell ⟨g,base,none⟩ v) g (base+1) vs
def Tl:∀ (vs:List Value) (c:Array Value) (base:Nat),(L6 c base vs).size=c.size
 | [],_,_=>rfl
 | v :: vs,c,base=>by rw [L6,Tl vs];simp
def Ys:∀ (vs:List Value) (c:Array Value) (base i:Nat),i<base->(L6 c base vs)[i]?=c[i]?
 | [],_,_,_,_=>rfl
 | v :: vs,c,base,i,h=>by
  rw [L6,Ys vs _ _ _ (by omega),Mr,Ac (by omega)]
def Aco:∀ (vs:List Value) (c:Array Value) (base i:Nat),base+vs.length<=i->(L6 c base vs)[i]?=c[i]?
 | [],_,_,_,_=>rfl
 | v :: vs,c,base,i,h=>by
  simp only [Jy] at h;rw [L6,Aco vs _ _ _ (by omega),Mr,Ac (by omega)]
def Acp:∀ (vs:List Value) (c:Array Value) (base o:Nat),o<vs.length->base+vs.length<=c.size->(L6 c base vs)[base+o]?=vs[o]?
 | [],_,_,_,h,_=>by simp at h
 | v :: vs,c,base,0,h,hs=>by
  simp only [Jy] at hs;rw [L6,Ys vs _ _ _ (by omega),Nt,Mr,Ad rfl,Ad (by omega)];rfl
 | v :: vs,c,base,o+1,h,hs=>by
  simp only [Jy] at h hs;rw [L6,show base+(o+1)=base+1+o by omega,Acp vs _ _ _ (by omega) (by simp;omega)];rfl
def Yt:∀ (vs:List Value) {W:World} {g base:Nat} {c:Array Value} {T:TypeId} {fr:Nat×Nat},W.heap[g]?=some (.cells c T fr)->(setRow W g base vs).heap[g]?=some (.cells (L6 c base vs) T fr)
 | [],_,_,_,_,_,_,h=>h
 | v :: vs,_,_,base,_,_,_,h=>Yt vs (Al h base v)
def Yu:∀ (vs:List Value) (W:World) (g base:Nat),W.grownBy (setRow W g base vs) (some g)
 | [],W,_,_=>Yn W _
 | v :: vs,W,g,base=>Aci (Th (Yn W _) v) (Yu vs _ g (base+1))
structure Rv (c:Array Value) (N:Nat) (xs:List au):Prop where
 size:c.size=N*13
 done:∀ j y,xs[j]?=some y->∀ o,o<13->c[j*13+o]?=y.cells[o]?
 rest:∀ j,xs.length<=j->j<N->∀ o,o<13->c[j*13+o]?=au.zero.cells[o]?
def Rv.next {c d:Array Value} {N:Nat} {xs:List au} {y:au} (h:Rv c N xs) (l:d.size=c.size) (m:∀ o,o<13->d[xs.length*13+o]?=y.cells[o]?) (k:∀ i,i<xs.length*13\/xs.length*13+13<=i->d[i]?=c[i]?):Rv d N (xs++[y]):=by
 refine ⟨by rw [l,h.size],fun j z b o a=>?_,fun j b f o a=>?_⟩
 .by_cases e:j<xs.length
  .rw [Fv e] at b;rw [k _ (.inl (by omega))];exact h.done j z b o a
  .rw [G5 (by omega)] at b;have g:j-xs.length=0:=(by have:=(Aq.1 b).1;simp at this;omega);rw [g] at b
   have:z=y:=by simpa using b.symm
   subst this;rw [show j=xs.length by omega];exact m o a
 .simp only [De,Jy,Pr] at b;rw [k _ (.inr (by omega))];exact h.rest j (by omega) f o a
def Tm (n:Nat) (l:List Int) (W:World) (e:Ending) (w':World):Prop:=
 ∃ so' c',e=.returned (.slice so' n c')/\n<=c'/\Ap w' so' n l/\(∀ b o,so'=some ⟨b,o,none⟩->o=0/\W.heap.size<=b/\b<w'.heap.size/\∃ cc,w'.heap[b]?=some (.cells cc 3 (0,0)))/\Below W.heap.size W w'
structure Acq (w:World) (x:au) (g N:Nat) (xs:List au) (W:World):Prop where
 low:Below w.heap.size w W
 ue:w.heap.size<g
 row:∃ c,W.heap[g]?=some (.cells c 33 (0,0))/\Rv c N xs
 one:∀ (j:Nat) (y:au),xs[j]?=some y->y.pl=x.single.pl/\y.n=x.n/\y.n<=y.c/\Ap W y.so y.n x.pl.after/\∀ b o,y.so=some ⟨b,o,none⟩->o=0/\g<b/\b<W.heap.size/\∃ cc,W.heap[b]?=some (.cells cc 3 (0,0))
 apart:∀ (i j:Nat) (y z:au) (b o o':Nat),xs[i]?=some y->xs[j]?=some z->i<j->y.so=some ⟨b,o,none⟩->z.so≠some ⟨b,o',none⟩
structure Rw (w:World) (x:au) (g N:Nat) (xs:List au) (W:World):Prop extends Acq w x g N xs W where
 box:W.heap[w.heap.size]?=some (.cells x.cells 33 (0,0))
def Amk (x:au) (w:World) (e:Ending) (w':World):Prop:=
 (Di x.pl=false/\e=.returned (.slice none 0 0)/\Below w.heap.size w w')\/(Di x.pl=true/\∃ g xs,e=.returned (.slice (some ⟨g,0,none⟩) (P7 x.pl) (P7 x.pl))/\xs.length=P7 x.pl/\Acq w x g (P7 x.pl) xs w')
def Rw.next {w:World} {x:au} {g N:Nat} {xs:List au} {W p:World} (h:Rw w x g N xs W) (hN:xs.length<N) (a:Option Addr) (m:Nat) (ad:x.n<=m)
  (hi:Ap p a x.n x.pl.after) (r:∀ b o,a=some ⟨b,o,none⟩->o=0/\W.heap.size<=b/\b<p.heap.size/\∃ u,p.heap[b]?=some (.cells u 3 (0,0)))
  (hb:Below ((setRow W g (xs.length*13) x.cells.toList).setCell ⟨g,xs.length*13+9,none⟩ (.int .i64 1)).heap.size ((setRow W g (xs.length*13) x.cells.toList).setCell ⟨g,xs.length*13+9,none⟩ (.int .i64 1)) p) :
  Rw w x g N (xs++[⟨x.single.pl,a,x.n,m⟩]) (p.setCell ⟨g,xs.length*13+12,none⟩ (.slice a x.n m)):=by
 obtain ⟨c,ak,v⟩:=h.row;have av:=Ab ak;have g1:=Yu x.cells.toList W g (xs.length*13);have g2:=Th (o:=xs.length*13+9) g1 (.int .i64 1);have g3:=Aci g2 (Ach hb (some g));have g4:=Th (o:=xs.length*13+12) g3 (.slice a x.n m);have r1:=Yt x.cells.toList (base:=xs.length*13) ak;have r2:=Al r1 (xs.length*13+9) (.int .i64 1);have r3:=Ae hb r2 (Ab r2);have r4:=Al r3 (xs.length*13+12) (.slice a x.n m);have aB:xs.length*13+13<=c.size:=by rw [v.size];omega
 have l:∀ b,b≠g->b<W.heap.size->(p.setCell ⟨g,xs.length*13+12,none⟩ (.slice a x.n m)).heap[b]?=W.heap[b]?:=fun b q al=>g4.block b al (fun e=>q (by injection e with e));have aA:=g3.size;have ac:(p.setCell ⟨g,xs.length*13+12,none⟩ (.slice a x.n m)).heap.size=p.heap.size:=by simp [World.setCell]
 refine ⟨⟨Ack h.low g4 h.low.size (Nat.le_of_lt h.ue),h.ue,⟨_,r4,v.next (y:=⟨x.single.pl,a,x.n,m⟩) ?_ ?_ ?_⟩,fun j y t=>?_,fun i j y z b o o' k d am hy hz=>?_⟩,(l _ (by have:=h.ue;omega) (Ab h.box)).trans h.box⟩
 .simp [Tl]
 .intro o ho;have f:x.cells.toList.length=13:=rfl;rw [Mr];by_cases an:o=12
  .subst an;rw [Ad rfl,Ad (by simp [Tl];omega)];rfl
  .rw [Ac (by omega),Mr];by_cases e9:o=9
   .subst e9;rw [Ad rfl,Ad (by rw [Tl];omega)];rfl
   .rw [Ac (by omega),Acp _ _ _ _ (by rw [f];omega) (by rw [f];omega)]
    rcases (show o=0\/o=1\/o=2\/o=3\/o=4\/o=5\/o=6\/o=7\/o=8\/o=10\/o=11 by omega) with rfl | rfl | rfl | rfl | rfl | rfl | rfl | rfl | rfl | rfl | rfl<;>rfl
 .intro i k;have f:x.cells.toList.length=13:=rfl;rw [Mr,Ac (by omega),Mr,Ac (by omega)];rcases k with h1 | h1
  .exact Ys _ _ _ _ h1
  .exact Aco _ _ _ _ (by rw [f];omega)
 .by_cases e:j<xs.length
  .rw [Fv e] at t;obtain ⟨a1,a2,a3,a4,a5⟩:=h.one j y t;refine ⟨a1,a2,a3,Acj a4 g4 fun b o e=>by have:=(a5 b o e).2.1;omega,fun b o e=>?_⟩;obtain ⟨b1,b2,b3,u,b4⟩:=a5 b o e;exact ⟨b1,b2,by rw [ac];omega,u,(l b (by omega) b3).trans b4⟩
  .rw [G5 (by omega)] at t;have s:j-xs.length=0:=(by have:=(Aq.1 t).1;simp at this;omega);rw [s] at t;have hy:y=⟨x.single.pl,a,x.n,m⟩:=(by simpa using t.symm);subst hy
   have q:∀ b o,a=some ⟨b,o,none⟩->b≠g:=fun b o e=>by have:=(r b o e).2.1;omega
   refine ⟨rfl,rfl,ad,Acj hi (Th (Yn p (some g)) _) q,fun b o e=>?_⟩;obtain ⟨b1,b2,b3,u,b4⟩:=r b o e;exact ⟨b1,by omega,by rw [ac];exact b3,u,Dh (q b o e) _ b4⟩
 .by_cases e:j<xs.length
  .rw [Fv e] at d;rw [Fv (by omega)] at k;exact h.apart i j y z b o o' k d am hy hz
  .rw [G5 (by omega)] at d;have s:j-xs.length=0:=(by have:=(Aq.1 d).1;simp at this;omega);rw [s] at d;have ao:z=⟨x.single.pl,a,x.n,m⟩:=(by simpa using d.symm);subst ao;have ap:i<xs.length:=(by have:=(Aq.1 d).1;omega);rw [Fv ap] at k;have q1:=((h.one i y k).2.2.2.2 b o hy).2.2.1;have q2:=(r b o' hz).2.1;omega
structure Kc (w:World) (so:Option Addr) (n:Nat) (xs:List au):Prop where
 len:xs.length=n
 max:n<=9223372036854775807
 cell:∀ (i:Nat) (x:au),xs[i]?=some x->∃ b off,so=some ⟨b,off,none⟩/\b<w.heap.size/\(∀ j,j<13->w.cell? ⟨b,off+i*13+j,none⟩=x.cells[j]?)/\x.ok w
def Kc.low {w w':World} {so:Option Addr} {n:Nat} {xs:List au} (h:Kc w so n xs) (c:Below w.heap.size w w'):Kc w' so n xs:=
 ⟨h.len,h.max,fun i x f=>by
  obtain ⟨b,d,e,a,g,k⟩:=h.cell i x f
  exact ⟨b,d,e,Br a c.size,fun j l=>(Ag c a).trans (g j l),k.low c⟩⟩
end Go.Proofs.YtimlcnhcjndijaaGreatDoor
namespace Go.Proofs.YtimlcnhcjndijaaGreatDoor
def Am6 (l:Lf) (h:dx l.st=true):dx (Ay l 7).1.st=false:=by
 unfold Ay;by_cases a:Kz l=false
 .rw [Ad a];rfl
 .rw [Ac a,Ad h];have e:Ef l 7=(⟨8,l.bm,l.left,l.wall,l.stop⟩,true):=by unfold Ef;rw [Ac (by omega),Ac (by omega),Ac (by omega),Ad (by omega)]
  rw [e];rfl
def Ke (js:List Jb):Nat:=js.countP Jb.waits
def Am7 {α:Type} (p:α->Bool) (f:α->α):∀ (l:List α) (k:Nat) (x:α),l[k]?=some x->p x=true->p (f x)=false->(l.modify k f).countP p+1=l.countP p:=by
 intro l
 induction l with
 | nil=>intro k x h;simp at h
 | cons y l ih=>
  intro k x h h1 a
  cases k with
  | zero=>
   simp at h;subst h;simp [h1,a]
  | succ k=>
   have:=ih k x (by simpa using h) h1 a;rw [Uw,List.countP_cons,List.countP_cons];omega
def Am8 {js:List Jb} {k:Nat} (h:Gb js k=true):Ke (Gc js k)+1=Ke js:=by
 have a:=h;unfold Gb at a;unfold Gc;rw [Ad h]
 cases hj:js[k]? with
 | none=>rw [hj] at a;cases a
 | some j=>
  rw [hj] at a;simp only [Eo] at a;exact Am7 _ _ _ _ _ hj a.1 (Am6 j.lf a.1)
def Vt {js:List Jb} {k:Nat} (h:Gb js k=false):Gc js k=js:=by
 unfold Gc;rw [Ac (by rw [h];simp)]
def Am9 (js:List Jb) (k:Nat):(Gc js k).length=js.length:=by
 unfold Gc;split
 .exact Lp _ _ _
 .rfl
def Ana (js:List Jb) (n:Nat):(Cm js n).1.length=js.length:=by
 induction n with
 | zero=>rfl
 | succ n ih=>exact (Am9 _ _).trans ih
def Ac4 (js:List Jb) (n:Nat):((Cm js n).2=false/\(Cm js n).1=js)\/((Cm js n).2=true/\Ke (Cm js n).1<Ke js):=by
 induction n with
 | zero=>exact .inl ⟨rfl,rfl⟩
 | succ n ih=>
  show (((Cm js n).2 || Gb (Cm js n).1 n)=false/\Gc (Cm js n).1 n=js)\/(((Cm js n).2 || Gb (Cm js n).1 n)=true/\Ke (Gc (Cm js n).1 n)<Ke js)
  cases hh:Gb (Cm js n).1 n with
  | true=>
   have:=Am8 hh;rcases ih with ⟨h1,a⟩ | ⟨h1,a⟩
   .rw [a] at this;exact .inr ⟨by simp,by rw [a];omega⟩
   .exact .inr ⟨by simp,by omega⟩
  | false=>
   rw [Vt hh];rcases ih with ⟨h1,a⟩ | ⟨h1,a⟩
   .exact .inl ⟨by rw [h1];rfl,a⟩
   .exact .inr ⟨by rw [h1];rfl,a⟩
def Ac5 (js:List Jb):(Cf js).1.length=js.length:=Ana js _
def Yx {js:List Jb} (h:(Cf js).2=true):Ke (Cf js).1<Ke js:=by
 rcases Ac4 js js.length with ⟨h1,_⟩ | ⟨_,a⟩
 .rw [Cf,h1] at h;cases h
 .exact a
def Yy {js:List Jb} (h:(Cf js).2=false):(Cf js).1=js:=by
 rcases Ac4 js js.length with ⟨_,a⟩ | ⟨h1,_⟩
 .exact a
 .rw [Cf,h1] at h;cases h
def Anb:∀ (n m:Nat) (js:List Jb),Ke js<n->Ke js<m->L0 n js=L0 m js:=by
 intro n
 induction n with
 | zero=>intro m js h;omega
 | succ n ih=>
  intro m js h1 a
  cases m with
  | zero=>omega
  | succ m=>
   show (if (Cf js).2=true then L0 n (Cf js).1 else (Cf js).1)=(if (Cf js).2=true then L0 m (Cf js).1 else (Cf js).1);by_cases h:(Cf js).2=true
   .rw [Ad h,Ad h];have:=Yx h;exact ih m _ (by omega) (by omega)
   .rw [Ac h,Ac h]
def Ac6 (js:List Jb):Ke js<=js.length:=Ux
def Anc (js:List Jb):Dw js=if (Cf js).2=true then Dw (Cf js).1 else js:=by
 show (if (Cf js).2=true then L0 js.length (Cf js).1 else (Cf js).1)=_;by_cases h:(Cf js).2=true
 .rw [Ad h,Ad h];have h1:=Yx h;have a:=Ac6 js;have b:=Ac6 (Cf js).1;exact Anb _ _ _ (by omega) (by omega)
 .rw [Ac h,Ac h];exact Yy (by simpa using h)
def Ane (n:Nat):∀ js:List Jb,(L0 n js).length=js.length:=by
 induction n with
 | zero=>intro js;rfl
 | succ n ih=>
  intro js;show (if (Cf js).2=true then L0 n (Cf js).1 else (Cf js).1).length=_;split
  .rw [ih,Ac5]
  .exact Ac5 js
def Yz (js:List Jb):(Dw js).length=js.length:=Ane _ js
def Ac7 {P:List Jb->Prop} (c:∀ js k,P js->Gb js k=true->P (Gc js k)) {js:List Jb} (h:P js):P (Dw js):=by
 have a:∀ (n:Nat) (js:List Jb),P js->P (Cm js n).1:=by
  intro n
  induction n with
  | zero=>intro js h;exact h
  | succ n ih=>
   intro js h;show P (Gc (Cm js n).1 n)
   cases hh:Gb (Cm js n).1 n with
   | true=>exact c _ _ (ih js h) hh
   | false=>rw [Vt hh];exact ih js h
 have b:∀ (n:Nat) (js:List Jb),P js->P (L0 n js):=by
  intro n
  induction n with
  | zero=>intro js h;exact h
  | succ n ih=>
   intro js h;show P (if (Cf js).2=true then L0 n (Cf js).1 else (Cf js).1);split
   .exact ih _ (a _ _ h)
   .exact a _ _ h
 exact b _ _ h
open Go.RowKit Go.Maps Go.Shelf Go.Sort
def At6 (N:Nat):Rv (madeCells au.zero.cells (N*13)) N []:=by
 refine ⟨size_madeCells _ _,fun j y h=>by simp at h,fun j _ e o c=>?_⟩;have a:j*13+o<N*13:=by omega
 unfold madeCells;rw [Array.getElem?_map,Array.getElem?_range,Ad a];have b:au.zero.cells.size=13:=rfl;have d:(j*13+o) % 13=o:=by omega
 simp only [J1,b,d];rw [Pk (by rw [b];exact c),getElem!_pos _ _ (by rw [b];exact c)]
def Wt (so:Option Addr) (n c:Nat) (l:List Int) (W:World) (h:Ap W so n l) (hn:n<=1000):Calls Tryz.prog 87 #[.slice so n c] W (Tm n l W):=by
 have s:=h.len
 have k:∀ d w',w'.ownsRow W.heap.size 3 1 d n (Bs l)->Below W.heap.size W w'->d≠.slice none 0 0->Tm n l W (.returned d) w':=fun d w' f m a=>by
  have hO:Ak w' W.heap.size d l:=⟨by rw [s];exact f⟩;rcases f.2 with ⟨q,_⟩ | ⟨g,cap,t,q,hg,z,ac,_⟩
  .exact absurd q a
  .obtain ⟨am,n2,c2,r,u,hi,an⟩:=P6 hO;rw [q] at r;injection r with e3 e4 e5;subst e3;subst e4;subst e5;refine ⟨_,_,by rw [q],u,hi,fun b o e=>?_,m⟩;injection e with e;injection e with e1 r;subst e1;subst r;exact ⟨rfl,hg,Ab z,t,z⟩
 cases so with
 | none=>
  have h0:n=0:=by
   cases n with
   | zero=>rfl
   | succ n=>
    obtain ⟨x,v⟩:=h.get (i:=0) (by omega);obtain ⟨b,p,e,_⟩:=h.cell 0 x v;cases e
  subst h0;have:l=[]:=Fw.1 s;subst this;refine (Tryz.slices_Clone_int_nil 0 c W).mono ?_;rintro e w' ⟨rfl,rfl⟩;exact ⟨none,0,rfl,Nat.le_refl _,Tg _,nofun,Below.refl _ _⟩
 | some ad=>
  by_cases h0:n=0
  .subst h0;have:l=[]:=Fw.1 s;subst this;refine (Tryz.slices_Clone_int_zero ad c W).mono ?_;rintro e w' ⟨d,rfl,f,a,m⟩;exact k d w' f m a
  .obtain ⟨x,v⟩:=h.get (i:=0) (by omega);obtain ⟨b,p,e,_⟩:=h.cell 0 x v;cases e;refine (Tryz.slices_Clone_int b p n c l W (by omega) (by omega) fun j y=>?_).mono ?_
   .obtain ⟨b',al,e,_,hc⟩:=h.cell j (l[j]'y) (by simp [y]);cases e;rw [hc];simp [List.getD,y]
   .rintro e w' ⟨d,rfl,f,a,m⟩;rw [Dn (by omega)] at f;exact k d w' f m a
def At7 (i:TypeInfo) (b:Tryz.prog.info? 33=some i) (c:i.zero=some au.zero.val) (d:i.size=13) (e:i.bytes=136) (n:Nat) (f:n<=1000) (w:World) :
  (Instr.makeSlice 38 (.int .i64 (n:Int)) (.int .i64 (n:Int))).run Tryz.prog w=.ok (.slice (some ⟨w.heap.size,0,none⟩) n n) (w.alloc (.cells (madeCells au.zero.cells (n*13)) 33 (0,0))):=by
 have a:=run_make (P:=Tryz.prog) w 38 33 i au.zero.val Tryz.underlying38 b c .i64 .i64 (n:Int) (n:Int) (by omega) (by omega) (by rw [e];omega) (by omega);simp only [Jw,d] at a;exact a
def At8 (x:au) (w:World) (hx:x.ok w):Calls Tryz.prog 128 #[x.val] w (Amk x w):=by
 obtain ⟨aW,an,ao,m,p⟩:=C0 Yr;have q:=K6.new w x;have hk:=Vh x _ (q.ok hx);by_cases hs:Di x.pl=true;rotate_left
 .have aG:Di x.pl=false:=by simpa using hs
  have he:Nz x.pl=80:=Ac hs;rw [he] at hk;obtain ⟨⟨t,u,nodes,⟨da,db,dc,dd⟩,v,ac,array,ae,ad,after⟩,so,n,cp⟩:=x;replace ⟨hk,q,hx,hs,aG,he⟩:=H6 hk q hx hs aG he;go_enter Tryz.func128,Tryz.ntmps128;go_wp2_with fail;refine hk.out.mono ?_;rintro e w1 ⟨rfl,hb⟩;have d:=q.out.below hb;replace ⟨d,hb⟩:=H2 d hb;go_wp2;go_ret;exact .inl ⟨aG.out,rfl,d.out.low⟩
 have he:Nz x.pl=0:=Ad hs;rw [he] at hk;obtain ⟨_,_,_,q4,_,_,_,q8,_⟩:=Iu hs;have aH:=Vf q4;have aI:=hx.after.len;obtain ⟨b1,b2⟩:=Ib.1 q8;obtain ⟨N,hN⟩:∃ N:Nat,x.pl.array=N:=⟨x.pl.array.toNat,by omega⟩;have hn:P7 x.pl=N:=by unfold P7;rw [Ad hs,hN];rfl
 rw [hN] at b1 b2;obtain ⟨⟨t,u,nodes,⟨da,db,dc,dd⟩,v,ac,array,ae,ad,after⟩,so,n,cp⟩:=x;have aX:array=N:=hN;subst aX;clear hN;have a5:n<=8:=by have h1:after.length=n:=aI;have h2:after.length<=8:=aH;omega
 obtain ⟨X,hX⟩:∃ X:au,X=⟨⟨t,u,nodes,⟨da,db,dc,dd⟩,v,ac,(N:Int),ae,ad,after⟩,so,n,cp⟩:=⟨_,rfl⟩;have a6:=fun W=>At7 aW an ao m p N (by omega) W;have a4:N<=20:=by omega
 replace ⟨hk,q,hx,hs,he,q4,aH,aI⟩:=H8 hk q hx hs he q4 aH aI;replace ⟨q8,hn,hX,an,ao,m,p⟩:=H7 q8 hn hX an ao m p;go_enter Tryz.func128,Tryz.ntmps128;go_wp2_with fail;refine hk.out.mono ?_;rintro e w1 ⟨rfl,hb⟩;have d:=q.out.below hb;have y9:=Bk d.box 9 (.int .i64 (N:Int)) rfl;obtain ⟨g,hg⟩:=Ex (w1.heap.size);have aJ:Rw w X g N [] (w1.alloc (.cells (madeCells au.zero.cells (N*13)) 33 (0,0))):=by rw [hX.out,hg];exact ⟨⟨d.low.alloc d.low.size _,Ab d.box,⟨_,Af _ _,At6 N⟩,(fun j y h=>by simp at h),(fun i j y z b o o' h=>by simp at h)⟩,Ai _ d.box⟩
 replace ⟨d,hb,aJ,hg⟩:=H4 d hb aJ hg;go_wp2;rw [<- hg.out];clear y9;go_loopw [4,13] (fun _ iv wr=>∃ (k:Nat) (xs:List au),iv=.int .i64 k/\k<=N/\Hid (xs.length=k)/\Hid (Rw w X g N xs wr)) (fun _ iv _=>N-(intOf iv).toNat)
 case atStart=>exact ⟨0,[],rfl,Av _,rfl,aJ.out⟩
 case round=>
  obtain ⟨k,xs,rfl,a7,al,hE⟩:=hrel;by_cases hc:k<N
  .have aY:(k:Int)<N:=(by omega);have a8:(0:Int)<=(k:Int):=(by omega);have hM:Hid (K6 w ⟨⟨t,u,nodes,⟨da,db,dc,dd⟩,v,ac,(N:Int),ae,ad,after⟩,so,n,cp⟩ wr):=(by have h:=hE.out.box;rw [hX.out] at h;exact ⟨hE.out.low,h⟩);obtain ⟨cc,f,a⟩:=hE.out.row;have c:=Nat.le_of_eq al.out;obtain ⟨y0,y1,y2,y3,y4,y5,y6,y7,y8,y9,aR,aS,aC⟩:=C13 hM.out.box;(try dsimp only at y0 y1 y2 y3 y4 y5 y6 y7 y8 y9 aR aS aC);have z0:wr.cell? ⟨g,k*13,none⟩=some (.string ByteArray.empty):=(Aa f (k*13)).trans (a.rest k c hc 0 (by omega));have z1:wr.cell? ⟨g,k*13+1,none⟩=some (.string ByteArray.empty):=(Aa f (k*13+1)).trans (a.rest k c hc 1 (by omega));have z2:wr.cell? ⟨g,k*13+2,none⟩=some (.int .i64 0):=(Aa f (k*13+2)).trans (a.rest k c hc 2 (by omega));have z3:wr.cell? ⟨g,k*13+3,none⟩=some (.int .i64 0):=(Aa f (k*13+3)).trans (a.rest k c hc 3 (by omega));have z4:wr.cell? ⟨g,k*13+4,none⟩=some (.int .i64 0):=(Aa f (k*13+4)).trans (a.rest k c hc 4 (by omega));have z5:wr.cell? ⟨g,k*13+5,none⟩=some (.int .i64 0):=(Aa f (k*13+5)).trans (a.rest k c hc 5 (by omega));have z6:wr.cell? ⟨g,k*13+6,none⟩=some (.int .i64 0):=(Aa f (k*13+6)).trans (a.rest k c hc 6 (by omega));have z7:wr.cell? ⟨g,k*13+7,none⟩=some (.int .i64 0):=(Aa f (k*13+7)).trans (a.rest k c hc 7 (by omega));have z8:wr.cell? ⟨g,k*13+8,none⟩=some (.int .i64 0):=(Aa f (k*13+8)).trans (a.rest k c hc 8 (by omega));have z9:wr.cell? ⟨g,k*13+9,none⟩=some (.int .i64 0):=(Aa f (k*13+9)).trans (a.rest k c hc 9 (by omega));have aZ:wr.cell? ⟨g,k*13+10,none⟩=some (.int .i64 0):=(Aa f (k*13+10)).trans (a.rest k c hc 10 (by omega));have a0:wr.cell? ⟨g,k*13+11,none⟩=some (.bool false):=(Aa f (k*13+11)).trans (a.rest k c hc 11 (by omega));have aT:wr.cell? ⟨g,k*13+12,none⟩=some (.slice none 0 0):=(Aa f (k*13+12)).trans (a.rest k c hc 12 (by omega));have fg:=Ah f;have a1:g≠w.heap.size:=(by have:=hE.out.ue;omega);obtain ⟨W4,aK⟩:=Ex (((((((((((((((wr.setCell ⟨g,k*13,none⟩ (.string t)).setCell ⟨g,k*13+1,none⟩ (.string u)).setCell ⟨g,k*13+2,none⟩ (.int .i64 nodes)).setCell ⟨g,k*13+3,none⟩ (.int .i64 da)).setCell ⟨g,k*13+4,none⟩ (.int .i64 db)).setCell ⟨g,k*13+5,none⟩ (.int .i64 dc)).setCell ⟨g,k*13+6,none⟩ (.int .i64 dd)).setCell ⟨g,k*13+7,none⟩ (.int .i64 v)).setCell ⟨g,k*13+8,none⟩ (.int .i64 ac)).setCell ⟨g,k*13+9,none⟩ (.int .i64 (N:Int))).setCell ⟨g,k*13+10,none⟩ (.int .i64 ae)).setCell ⟨g,k*13+11,none⟩ (.bool ad)).setCell ⟨g,k*13+12,none⟩ (.slice so n cp)).setCell ⟨g,k*13+9,none⟩ (.int .i64 1)));have l:W4=(setRow wr g (xs.length*13) X.cells.toList).setCell ⟨g,xs.length*13+9,none⟩ (.int .i64 1):=(by rw [aK,hX.out,al.out];rfl);have ap:wr.grownBy W4 (some g):=(by rw [l];exact Th (Yu _ _ _ _) _);have r:=Ack hE.out.low ap hE.out.low.size (Nat.le_of_lt hE.out.ue);have aL:Ap W4 so n after:=(hx.out.low r).after;have aD:=Wt so n cp after W4 aL (by omega);unfold Tm at aD;have aM:=(ap.block _ (Ab hM.out.box) (fun e=>a1 (by injection e with e;exact e.symm))).trans hM.out.box;have am:∃ c4,W4.heap[g]?=some (.cells c4 33 (0,0))/\c4.size=N*13:=(by rw [l];exact ⟨_,Al (Yt _ f) _ _,by simp [Tl,a.size]⟩);obtain ⟨c4,am,aU⟩:=am;obtain ⟨aV,av⟩:∃ aV,c4[k*13+12]?=some aV:=⟨_,Pk (by omega)⟩;replace ⟨hM,f,a,c,l,ap,r,aL⟩:=H8 hM f a c l ap r aL;replace ⟨aD,aM,am,aU,av⟩:=H5 aD aM am aU av;go_upto_region 9 with fail;rw [<- aK];clear aK;clear y0 y1 y2 y3 y4 y5 y6 y7 y8 y9 aR aS aC z0 z1 z2 z3 z4 z5 z6 z7 z8 z9 aZ a0 aT;have aC:=Bk aM.out 12 (.slice so n cp) rfl;go_wp2_with fail;refine aD.out.mono ?_;rintro e w5 ⟨aA,c',rfl,aN,aO,aB,aE⟩;have h5:=Ae aE am.out (Ab am.out);have aT:=(Aa h5 _).trans av.out;have f5:=Ah h5
   have aP:Rw w X g N (xs++[⟨X.single.pl,aA,n,c'⟩]) (w5.setCell ⟨g,k*13+12,none⟩ (.slice aA n c')):=by
    have aF:=aE;rw [l.out] at aF;have aQ:X.n=n:=(by rw [hX.out]);have a2:X.pl.after=after:=by rw [hX.out]
    have h:=hE.out.next (by rw [al.out];exact hc) aA c' (by rw [aQ];exact aN) (by rw [aQ,a2];exact aO) (fun b o e=>by
     obtain ⟨e1,e2,e3,e4⟩:=aB b o e
     exact ⟨e1,A6 ap.out.size e2,e3,e4⟩) aF
    rw [aQ,al.out] at h;exact h
   have s:(xs++[(⟨X.single.pl,aA,n,c'⟩:au)]).length=k+1:=(by rw [De,al.out];rfl);clear aC;replace ⟨aN,aO,aB,aE,h5,aP,s⟩:=H7 aN aO aB aE h5 aP s;go_wp2;go_roundw
   case rel=>exact ⟨k+1,xs++[(⟨X.single.pl,aA,n,c'⟩:au)],by go_num,by omega,s.out,aP.out⟩
   case measure=>simp [intOf];omega
  .have aY:¬ (k:Int)<N:=(by omega);have a3:k=N:=(by omega);subst a3;go_wp2;go_ret;have h:=hE.out.toAcq;rw [hX.out] at h;refine .inr ⟨hs.out,g,xs,?_,?_,?_⟩
   .rw [hn.out];rfl
   .rw [al.out,hn.out]
   .rw [hn.out];exact h
end Go.Proofs.YtimlcnhcjndijaaGreatDoor
