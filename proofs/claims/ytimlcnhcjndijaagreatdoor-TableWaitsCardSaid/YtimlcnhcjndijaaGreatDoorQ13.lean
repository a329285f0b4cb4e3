/- Parts Fct, Rfl, Rvr, Ftt. Plain theorems: no condition. -/
import Derived.Test.YtimlcnhcjndijaaGreatDoorQ12
import Derived.Lib.OwnBridge
set_option linter.all false
set_option maxRecDepth 100000
set_option maxHeartbeats 6400000
namespace Go.Proofs.YtimlcnhcjndijaaGreatDoor
open Go.RowKit Go.Maps Go.Shelf
structure Akz (v:ax):Prop where
 ok:Abr v
 l6:v.parts.length<=8
 once:Pz v.parts=false
structure Ir (vs:List ax):Prop where
 len:vs.length<=16
 all:∀ v,v∈vs->Akz v
 nodup:(vs.map ax.name).Nodup
def Yj:Ir []:=⟨by simp,fun v h=>(by cases h),by simp⟩
def Ak0 {b:List ByteArray} {m:Nat} {a:ByteArray} {parts:List ByteArray} (h:Eb b m a parts=0):a∉b/\Pz parts=false/\m<16/\parts.length<=8:=by
 unfold Eb at h;split at h
 .cases h
 .next h1=>
  split at h
  .cases h
  .next h2=>
   split at h
   .cases h
   .next h3=>exact ⟨fun c=>h1 (Tc.2 c),by simpa using h2,by omega,by omega⟩
def Abz (l:List (Int×ByteArray)):∀ xs,Ir xs->Ir (Bo xs l).1:=by
 induction l with
 | nil=>intro xs h;exact h
 | cons x l ih=>
  intro xs h;obtain ⟨i,b⟩:=x;simp only [Bo]
  cases hn:Ip b with
  | none=>exact h
  | some v=>
   simp only;by_cases c:Eb (xs.map ax.name) xs.length v.name v.parts=0
   .rw [Ad c];obtain ⟨f,g,n,j⟩:=Ak0 c;refine ih _ ⟨by simp;omega,fun y d=>?_,?_⟩
    .rcases Dt.1 d with d | d
     .exact h.all y d
     .have:y=v:=by simpa using d
      subst this;exact ⟨Abs hn,j,g⟩
    .rw [Ds,Rc];refine ⟨h.nodup,by simp,fun a k b m=>?_⟩
     have:b=v.name:=by simpa using m
     subst this;exact fun e=>f (by rw [<- e];exact k)
   .rw [Ac c];exact h
def Yk {v:V4} (h:v.right=true):Vd v:=by
 simp only [V4.right,oj,Eo,Ja] at h;exact ⟨h.1.1.1.1,h.1.1.1.2,h.1.1.2.1,h.1.1.2.2,h.1.2.1,h.1.2.2,h.2.1,h.2.2⟩
def Ab0 {w:World} {a b base:Nat} {vs:List ax} (h:ir w a b base vs):Calls Tryz.prog 43 #[.pointer (some ⟨a,0,none⟩)] w fun e w'=>e=.returned (.int .i64 (vs.length:Int))/\w'=w:=by
 obtain ⟨c,xs,h1,rfl,d⟩:=h.ex;rw [Ax];exact Yf w a b base c xs h1
def Ab1 {w:World} {a c base:Nat} {vs:List ax} (h:ir w a c base vs) (b:Ir vs) (p:ByteArray):Calls Tryz.prog 154 #[.pointer (some ⟨a,0,none⟩),.string p] w (Aby vs p w):=by
 obtain ⟨d,xs,h1,rfl,e⟩:=h.ex;have:=b.len;rw [Ax] at this;exact Aky w a c base d xs p h1 (by omega)
structure Ap (w:World) (so:Option Addr) (n:Nat) (xs:List Int):Prop where
 len:xs.length=n
 max:n<=9223372036854775807
 cell:∀ i x,xs[i]?=some x->∃ b off,so=some ⟨b,off,none⟩/\b<w.heap.size/\w.cell? ⟨b,off+i,none⟩=some (.int .i64 x)
def Ap.low {w w':World} {so:Option Addr} {n:Nat} {xs:List Int} (h:Ap w so n xs) (d:Below w.heap.size w w'):Ap w' so n xs:=
 ⟨h.len,h.max,fun i x f=>by
  obtain ⟨b,c,e,a,g⟩:=h.cell i x f
  exact ⟨b,c,e,Br a d.size,(Ag d a).trans g⟩⟩
def Ap.get {w:World} {so:Option Addr} {n:Nat} {xs:List Int} (h:Ap w so n xs) {i:Nat} (a:i<n):∃ x,xs[i]?=some x:=⟨_,Am (by rw [h.len];exact a)⟩
def Ab2 {w:World} {B:Nat} {v:Value} {xs:List Int} (h:Ak w B v xs):∃ so c,v=.slice so xs.length c/\Ap w so xs.length xs:=by
 rcases h.row.2 with ⟨a,h0⟩ | ⟨g,cap,e,a,j,f,k,l,m⟩
 .have:xs=[]:=Fw.1 h0;subst this;exact ⟨none,0,a,rfl,by simp,fun i x b=>by simp at b⟩
 .refine ⟨some ⟨g,0,none⟩,cap,a,rfl,by have:maxLen=9223372036854775807:=rfl;omega,fun i x b=>⟨g,0,rfl,Ab f,?_⟩⟩;have n:=(Aq.1 b).1;have d:=h.row;rw [a] at d;rw [D2,Gr d i (by omega),Bs,Bx,b];rfl
def sh (v:V4) (k:Nat):V4:=⟨if 0<k then v.a else 0,if 1<k then v.b else 0,if 2<k then v.c else 0,if 3<k then v.d else 0⟩
def Avi {vs:List ax} {k:Nat} {v:ax} (p:ByteArray) (h:vs[k]?=some v):Dv (vs.take (k+1)) p=if Ny v p=true then Vc (Dv (vs.take k) p) v.cap else Dv (vs.take k) p:=by
 unfold Dv;rw [J7 h,Ms];rfl
def Ahr {vs:List ax} (p:ByteArray) (h:∀ v,v∈vs->Vd v.cap):Akv (Dv vs p) vs.length:=by
 induction vs using Py with
 | h0=>constructor<;>simp [Dv,V4.zero]
 | h1 l x ih=>
  have a:=ih fun v b=>h v (by simp [b]);have c:=h x (by simp);have e:Dv (l++[x]) p=if Ny x p=true then Vc (Dv l p) x.cap else Dv l p:=by unfold Dv;rw [Ms];rfl
  rw [e,De,Jy,Pr];obtain ⟨d,f,g,i,j,k,m,n⟩:=a;obtain ⟨o,q,r,s,t,u,y,z⟩:=c
  split<;>constructor<;>(try simp only [Vc])<;>omega
def Avj {w W:World} {v:V4} (h:jd w v W):Below w.heap.size w ((((W.setCell ⟨w.heap.size,0,none⟩ (.int .i64 v.a)).setCell ⟨w.heap.size,1,none⟩ (.int .i64 v.b)).setCell ⟨w.heap.size,2,none⟩ (.int .i64 v.c)).setCell ⟨w.heap.size,3,none⟩ (.int .i64 v.d)):=
 (((h.low.setCell Ln _).setCell Ln _).setCell Ln _).setCell Ln _
def Ahs (a b c d:Int) (w:World):(Instr.index 30 (.agg #[.int .i64 a,.int .i64 b,.int .i64 c,.int .i64 d]) (.int .i64 0)).run Tryz.prog w=.ok (.int .i64 a) w:=by kernel_rfl
def Aht (a b c d:Int) (w:World):(Instr.index 30 (.agg #[.int .i64 a,.int .i64 b,.int .i64 c,.int .i64 d]) (.int .i64 1)).run Tryz.prog w=.ok (.int .i64 b) w:=by kernel_rfl
def Ahu (a b c d:Int) (w:World):(Instr.index 30 (.agg #[.int .i64 a,.int .i64 b,.int .i64 c,.int .i64 d]) (.int .i64 2)).run Tryz.prog w=.ok (.int .i64 c) w:=by kernel_rfl
def Ahv (a b c d:Int) (w:World):(Instr.index 30 (.agg #[.int .i64 a,.int .i64 b,.int .i64 c,.int .i64 d]) (.int .i64 3)).run Tryz.prog w=.ok (.int .i64 d) w:=by kernel_rfl
def Avk (w:World) (fb mb base:Nat) (nv:Value) (xs:List ar) (p:ByteArray) (hF:jf w fb mb base nv xs) (aI:xs.length<=4096) (am:∀ x,x∈xs->Vd x.cap):Calls Tryz.prog 191 #[.pointer (some ⟨fb,0,none⟩),.string p] w (Yi (xs.map ar.pl) p w):=by
 obtain ⟨n,hn⟩:=Ex (xs.length);have av:jd w V4.zero ((w.alloc (.cells V4.zero.cells 30 (0,0))).alloc (.cells V4.zero.cells 30 (0,0))):=⟨Bn.alloc (by simp) _,Ai _ (Af _ _),A2 _ _ (by simp)⟩;have aA:=Yf _ fb mb base nv xs (hF.below av.low);rw [<- hn] at aA aI
 have aD:∀ v,v∈xs.map ar.pl->Vd v.cap:=fun v hv=>by
  obtain ⟨x,hx,rfl⟩:=Bd.1 hv;exact am x hx
 replace ⟨hF,hn,aA,av,aD,am⟩:=H6 hF hn aA av aD am;go_enter Tryz.func191,Tryz.ntmps191;go_wp2_with fail;refine aA.out.mono ?_;rintro e w1 ⟨rfl,rfl⟩;go_wp2;go_loopw [11] (fun i wr=>∃ k:Nat,i=.int .i64 k/\k<=n/\Hid (jd w (Dv ((xs.map ar.pl).take k) p) wr)) (fun i _=>n-(intOf i).toNat)
 case atStart=>exact ⟨0,rfl,Av _,av.out⟩
 case round=>
  obtain ⟨k,rfl,hk,hT⟩:=hrel;by_cases hc:k<n
  .have aJ:(k:Int)<n:=(by omega);have aK:(0:Int)<=(k:Int):=(by omega);have an:=hF.out.below hT.out.low;obtain ⟨g,cap,rfl⟩:=Joins.ownsRow_form an.row (by have:=hn.out;omega);obtain ⟨x,hx⟩:∃ x,xs[k]?=some x:=⟨_,Am (by have:=hn.out;omega)⟩;obtain ⟨g',e1,aL,aM,m⟩:=an.cell hx;have e2:g=g':=(by simpa [Value.ownBlock] using e1);subst e2;have c1:wr.cell? ⟨g,k*6+1,none⟩=some (.int .i64 x.cap.a):=m 1 (by omega);have c2:wr.cell? ⟨g,k*6+2,none⟩=some (.int .i64 x.cap.b):=m 2 (by omega);have c3:wr.cell? ⟨g,k*6+3,none⟩=some (.int .i64 x.cap.c):=m 3 (by omega);have c4:wr.cell? ⟨g,k*6+4,none⟩=some (.int .i64 x.cap.d):=m 4 (by omega);have c5:wr.cell? ⟨g,k*6+5,none⟩=some (.slice x.po x.pn x.pc):=m 5 (by omega);have f0:=Aa an.head 0;simp at f0;rw [<- hn.out] at f0;have ao:=Abx wr x.po x.pn x.pc x.parts p (an.ok x (Aj hx)).1.parts;obtain ⟨b,hb⟩:=Ex (Jf x.parts p);rw [<- hb] at ao;have aE:=Yh hx;have aF:=Avi p aE;have aB:=Ahr (vs:=(xs.map ar.pl).take k) p (fun v hv=>aD.out v (List.mem_of_mem_take hv));have aG:=am.out x (Aj hx);have ap:((xs.map ar.pl).take k).length=k:=(by rw [Ff,Ax];have:=hn.out;omega);rw [ap] at aB;replace ⟨an,hx,ao,hb,aE,m,e1,aF⟩:=H8 an hx ao hb aE m e1 aF;replace ⟨aB,aG,ap⟩:=H3 aB aG ap;obtain ⟨U,hU⟩:=Ex (Dv ((xs.map ar.pl).take k) p);have o:=hT.out;have aC:=aB.out;have ac:=aF.out;rw [<- hU] at o aC ac;obtain ⟨nm,⟨r,s,t,u⟩,po,pn,pc,ps⟩:=x;obtain ⟨ua,ub,uc,ud⟩:=U;obtain ⟨v1,v2,v3,v4,v5,v6,v7,v8⟩:=aC;obtain ⟨x1,x2,x3,x4,x5,x6,x7,x8⟩:=aG.out;simp only at v1 v2 v3 v4 v5 v6 v7 v8 x1 x2 x3 x4 x5 x6 x7 x8 c1 c2 c3 c4;have y1:ua<=4398046511104:=(by omega);have y2:ub<=4398046511104:=(by omega);have y3:uc<=4398046511104:=(by omega);have y4:ud<=4398046511104:=(by omega);clear v2 v4 v6 v8;replace ⟨hU,o,ac,hT⟩:=H4 hU o ac hT
   cases hp:p.toList.isEmpty with
   | true=>
    have y:Ny (ar.pl ⟨nm,⟨r,s,t,u⟩,po,pn,pc,ps⟩) p=true:=(by unfold Ny;rw [hp];rfl);replace y:=Hh y;go_wp2_with fail;have z:jd w (K4 ⟨ua,ub,uc,ud⟩ ⟨r,s,t,u⟩ 0) wr:=o.out;replace z:=Hh z;go_loopw [37] (fun i wq=>∃ j:Nat,j<=4/\i=.int .i64 j/\Hid (jd w (K4 ⟨ua,ub,uc,ud⟩ ⟨r,s,t,u⟩ j) wq)) (fun i _=>4-(intOf i).toNat)
    case atStart=>exact ⟨0,by omega,rfl,z.out⟩
    case round=>
     obtain ⟨j,hj,l,q⟩:=hrel;rcases (show j=0\/j=1\/j=2\/j=3\/j=4 by omega) with rfl | rfl | rfl | rfl | rfl
     .have h:u37=.int .i64 0:=l;clear l;subst h;have ad:=fun w=>Ahs r s t u w;have q0:=Bk q.out.r1 0 (.int .i64 ua) rfl;have f0:=Ah q.out.r1 0;have f:jd w (K4 ⟨ua,ub,uc,ud⟩ ⟨r,s,t,u⟩ 1) (wr.setCell ⟨w.heap.size+1,0,none⟩ (.int .i64 (ua+r))):=q.out.set 0 _ rfl;replace f:=Hh f;go_wp2;go_roundw
      case rel=>exact ⟨1,by omega,rfl,f.out⟩
      case measure=>simp [intOf]
     .have h:u37=.int .i64 1:=l;clear l;subst h;have ad:=fun w=>Aht r s t u w;have q1:=Bk q.out.r1 1 (.int .i64 ub) rfl;have f1:=Ah q.out.r1 1;have f:jd w (K4 ⟨ua,ub,uc,ud⟩ ⟨r,s,t,u⟩ 2) (wr.setCell ⟨w.heap.size+1,1,none⟩ (.int .i64 (ub+s))):=q.out.set 1 _ rfl;replace f:=Hh f;go_wp2;go_roundw
      case rel=>exact ⟨2,by omega,rfl,f.out⟩
      case measure=>simp [intOf]
     .have h:u37=.int .i64 2:=l;clear l;subst h;have ad:=fun w=>Ahu r s t u w;have q2:=Bk q.out.r1 2 (.int .i64 uc) rfl;have f2:=Ah q.out.r1 2;have f:jd w (K4 ⟨ua,ub,uc,ud⟩ ⟨r,s,t,u⟩ 3) (wr.setCell ⟨w.heap.size+1,2,none⟩ (.int .i64 (uc+t))):=q.out.set 2 _ rfl;replace f:=Hh f;go_wp2;go_roundw
      case rel=>exact ⟨3,by omega,rfl,f.out⟩
      case measure=>simp [intOf]
     .have h:u37=.int .i64 3:=l;clear l;subst h;have ad:=fun w=>Ahv r s t u w;have q3:=Bk q.out.r1 3 (.int .i64 ud) rfl;have f3:=Ah q.out.r1 3;have f:jd w (K4 ⟨ua,ub,uc,ud⟩ ⟨r,s,t,u⟩ 4) (wr.setCell ⟨w.heap.size+1,3,none⟩ (.int .i64 (ud+u))):=q.out.set 3 _ rfl;replace f:=Hh f;go_wp2;go_roundw
      case rel=>exact ⟨4,by omega,rfl,f.out⟩
      case measure=>simp [intOf]
     .have h:u37=.int .i64 4:=l;clear l;subst h;have al:jd w (Dv ((xs.map ar.pl).take (k+1)) p) wr:=(by rw [ac.out,Ad y.out];exact q.out);replace al:=Hh al;go_wp2;go_roundw
      case rel=>exact ⟨k+1,by go_num,by omega,al.out⟩
      case measure=>simp [intOf];omega
   | false=>
    cases b with
    | true=>
     have y:Ny (ar.pl ⟨nm,⟨r,s,t,u⟩,po,pn,pc,ps⟩) p=true:=(by unfold Ny;rw [hp];exact hb.out.symm);replace y:=Hh y;go_wp2_with fail
     (with_reducible refine ao.out.mono ?_)
     rintro e wr ⟨rfl,rfl⟩;go_wp2;have z:jd w (K4 ⟨ua,ub,uc,ud⟩ ⟨r,s,t,u⟩ 0) wr:=o.out;replace z:=Hh z;go_loopw [37] (fun i wq=>∃ j:Nat,j<=4/\i=.int .i64 j/\Hid (jd w (K4 ⟨ua,ub,uc,ud⟩ ⟨r,s,t,u⟩ j) wq)) (fun i _=>4-(intOf i).toNat)
     case atStart=>exact ⟨0,by omega,rfl,z.out⟩
     case round=>
      obtain ⟨j,hj,l,q⟩:=hrel;rcases (show j=0\/j=1\/j=2\/j=3\/j=4 by omega) with rfl | rfl | rfl | rfl | rfl
      .have h:u37=.int .i64 0:=l;clear l;subst h;have ad:=fun w=>Ahs r s t u w;have q0:=Bk q.out.r1 0 (.int .i64 ua) rfl;have f0:=Ah q.out.r1 0;have f:jd w (K4 ⟨ua,ub,uc,ud⟩ ⟨r,s,t,u⟩ 1) (wr.setCell ⟨w.heap.size+1,0,none⟩ (.int .i64 (ua+r))):=q.out.set 0 _ rfl;replace f:=Hh f;go_wp2;go_roundw
       case rel=>exact ⟨1,by omega,rfl,f.out⟩
       case measure=>simp [intOf]
      .have h:u37=.int .i64 1:=l;clear l;subst h;have ad:=fun w=>Aht r s t u w;have q1:=Bk q.out.r1 1 (.int .i64 ub) rfl;have f1:=Ah q.out.r1 1;have f:jd w (K4 ⟨ua,ub,uc,ud⟩ ⟨r,s,t,u⟩ 2) (wr.setCell ⟨w.heap.size+1,1,none⟩ (.int .i64 (ub+s))):=q.out.set 1 _ rfl;replace f:=Hh f;go_wp2;go_roundw
       case rel=>exact ⟨2,by omega,rfl,f.out⟩
       case measure=>simp [intOf]
      .have h:u37=.int .i64 2:=l;clear l;subst h;have ad:=fun w=>Ahu r s t u w;have q2:=Bk q.out.r1 2 (.int .i64 uc) rfl;have f2:=Ah q.out.r1 2;have f:jd w (K4 ⟨ua,ub,uc,ud⟩ ⟨r,s,t,u⟩ 3) (wr.setCell ⟨w.heap.size+1,2,none⟩ (.int .i64 (uc+t))):=q.out.set 2 _ rfl;replace f:=Hh f;go_wp2;go_roundw
       case rel=>exact ⟨3,by omega,rfl,f.out⟩
       case measure=>simp [intOf]
      .have h:u37=.int .i64 3:=l;clear l;subst h;have ad:=fun w=>Ahv r s t u w;have q3:=Bk q.out.r1 3 (.int .i64 ud) rfl;have f3:=Ah q.out.r1 3;have f:jd w (K4 ⟨ua,ub,uc,ud⟩ ⟨r,s,t,u⟩ 4) (wr.setCell ⟨w.heap.size+1,3,none⟩ (.int .i64 (ud+u))):=q.out.set 3 _ rfl;replace f:=Hh f;go_wp2;go_roundw
       case rel=>exact ⟨4,by omega,rfl,f.out⟩
       case measure=>simp [intOf]
      .have h:u37=.int .i64 4:=l;clear l;subst h;have al:jd w (Dv ((xs.map ar.pl).take (k+1)) p) wr:=(by rw [ac.out,Ad y.out];exact q.out);replace al:=Hh al;go_wp2;go_roundw
       case rel=>exact ⟨k+1,by go_num,by omega,al.out⟩
       case measure=>simp [intOf];omega
    | false=>
     have y:Ny (ar.pl ⟨nm,⟨r,s,t,u⟩,po,pn,pc,ps⟩) p=false:=(by unfold Ny;rw [hp];exact hb.out.symm);have z:jd w (Dv ((xs.map ar.pl).take (k+1)) p) wr:=(by rw [ac.out,Ac (by rw [y];simp)];exact o.out);replace ⟨y,z⟩:=H2 y z;go_wp2_with fail
     (with_reducible refine ao.out.mono ?_)
     rintro e wr ⟨rfl,rfl⟩;go_wp2;go_roundw
     case rel=>exact ⟨k+1,by go_num,by omega,z.out⟩
     case measure=>simp [intOf];omega
  .have aJ:¬ (k:Int)<n:=(by omega);have aH:(xs.map ar.pl).take k=xs.map ar.pl:=Dn (by rw [Ax];have:=hn.out;omega);have o:=hT.out;rw [aH] at o;obtain ⟨U,hU⟩:=Ex (Dv (xs.map ar.pl) p);rw [<- hU] at o;obtain ⟨ua,ub,uc,ud⟩:=U;have r1:=o.r1;have a0:=Bk r1 0 (.int .i64 ua) rfl;have a1:=Bk r1 1 (.int .i64 ub) rfl;have a2:=Bk r1 2 (.int .i64 uc) rfl;have a3:=Bk r1 3 (.int .i64 ud) rfl;have r0:=o.r0;have b0:=Bk r0 0 (.int .i64 0) rfl;have b1:=Bk r0 1 (.int .i64 0) rfl;have b2:=Bk r0 2 (.int .i64 0) rfl;have b3:=Bk r0 3 (.int .i64 0) rfl;have fr:=Ah o.r0;have e:=Avj o;replace ⟨aH,o,hU,hT,r1,r0,e⟩:=H7 aH o hU hT r1 r0 e;go_wp2;refine Ao (v:=V4.val ⟨ua,ub,uc,ud⟩) (by simp [results,Tryz.results191,go_sem,b0,b1,b2,b3]) rfl ⟨?_,e.out⟩;rw [hU.out]
def Avl {w:World} {b c base:Nat} {vs:List ax} (h:ir w b c base vs) (a:Ir vs) (p:ByteArray):Calls Tryz.prog 191 #[.pointer (some ⟨b,0,none⟩),.string p] w (Yi vs p w):=by
 obtain ⟨d,xs,h1,rfl,f⟩:=h.ex;have:=a.len;rw [Ax] at this;exact Avk w b c base d xs p h1 (by omega) fun x e=>Yk (a.all x.pl (Ks e)).ok.cap
end Go.Proofs.YtimlcnhcjndijaaGreatDoor
