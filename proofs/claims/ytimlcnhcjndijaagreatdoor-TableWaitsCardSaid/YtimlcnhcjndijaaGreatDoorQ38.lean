/- Parts Bsy, New, Ofn, Ofj, Dom. Plain theorems: no condition. -/
import Derived.Test.YtimlcnhcjndijaaGreatDoorQ23
set_option linter.all false
set_option maxRecDepth 100000
set_option maxHeartbeats 3200000
namespace Go.Proofs.YtimlcnhcjndijaaGreatDoor
open Go.RowKit Go.Maps
def Ag2 (u v:V4):V4:=⟨u.a+v.a,u.b+v.b,u.c+v.c,u.d+v.d⟩
def Qw (d:Nat) (u v:V4):V4:=⟨if 0<d then u.a+v.a else u.a,if 1<d then u.b+v.b else u.b,if 2<d then u.c+v.c else u.c,if 3<d then u.d+v.d else u.d⟩
def Jt (i:Int) (j:Jb) (n:Nat) (v:V4):V4:=((j.parts.take n).filter fun p=>decide (p.1=i) && decide (p.2=0)).foldl (fun v _=>Ag2 v j.sp.dn) v
def Auf (i:Int) (j:Jb) (v:V4):Jt i j 0 v=v:=rfl
def Aug {i:Int} {j:Jb} {n:Nat} {v:V4} {p:Int×Int} (a:j.parts[n]?=some p):Jt i j (n+1) v=if (decide (p.1=i) && decide (p.2=0))=true then Ag2 (Jt i j n v) j.sp.dn else Jt i j n v:=by
 unfold Jt;rw [Ra,a,Om,Ms];simp only [Option.toList_some];by_cases q:(decide (p.1=i) && decide (p.2=0))=true
 .rw [Ad q,List.filter_cons,Ad q];rfl
 .rw [Ac q,List.filter_cons,Ac q];rfl
def Auh (i:Int) (j:Jb) (v:V4):Jt i j j.parts.length v=Ve i j v:=by
 unfold Jt Ve;rw [On];rfl
def tz (v:V4) (m:Int):Prop:=0<=v.a/\v.a<=m/\0<=v.b/\v.b<=m/\0<=v.c/\v.c<=m/\0<=v.d/\v.d<=m
def Ag3 (x:ai):Prop:=tz x.pl.sp.dn 1099511627776/\x.pn<=1000
structure F9 (w:World) (v:V4) (wr:World):Prop where
 low:Below w.heap.size w wr
 res:wr.heap[w.heap.size]?=some (.cells V4.zero.cells 30 (0,0))
 vec:wr.heap[w.heap.size+1]?=some (.cells v.cells 30 (0,0))
def F9.next {w wr w':World} {v:V4} (h:F9 w v wr) (a:Below wr.heap.size wr w'):F9 w v w':=
 ⟨h.low.trans (a.mono h.low.size),Ae a h.res (Ab h.res),Ae a h.vec (Ab h.vec)⟩
def F9.set {w wr:World} {v u:V4} (h:F9 w v wr) (o:Nat) (x:Value) (e:v.cells.setIfInBounds o x=u.cells):F9 w u (wr.setCell ⟨w.heap.size+1,o,none⟩ x):=
 ⟨F8 h.low (by omega),(Cd _ _ _ _ (fun e=>by simp at e)).trans h.res,by rw [<- e];exact Al h.vec _ _⟩
def F9.new (w:World):F9 w V4.zero ((w.alloc (.cells V4.zero.cells 30)).alloc (.cells V4.zero.cells 30)):=
 ⟨Bn.alloc (by simp) _,Ai _ (Af _ _),A2 _ _ (by simp)⟩
def Pf (i:Int) (js:List Jb) (k:Nat):V4:=(js.take k).foldl (fun v j=>Ve i j v) ⟨0,0,0,0⟩
def Wy {P:Program} {b:Array Oper} {rest:List Oper} {o:Oper} {a:Act} {w:World} {Q:Exit->Act->World->Prop} (c:o.guard=none) (t:TypeId) (x d:Operand) (e:o.op=.index t x d) (v:Value)
  (f:(Instr.index t (a.eval x) (a.eval d)).run P w=.ok v w) (h:wpList P b Q rest (a.put o.dst v) w):wpList P b Q (o :: rest) a w:=
 wpList_plain c fun _ g=>by
  unfold Oper.wp execOp;simp only [e,f,Sem.run_bind,Sem.run_pure,Result.andThen_ok];exact g _ _ h
def yg (a b c d:Int) (w:World):(Instr.index 30 (.agg #[.int .i64 a,.int .i64 b,.int .i64 c,.int .i64 d]) (.int .i64 0)).run Tryz.prog w=.ok (.int .i64 a) w:=by kernel_rfl
def xq (a b c d:Int) (w:World):(Instr.index 30 (.agg #[.int .i64 a,.int .i64 b,.int .i64 c,.int .i64 d]) (.int .i64 1)).run Tryz.prog w=.ok (.int .i64 b) w:=by kernel_rfl
def yi (a b c d:Int) (w:World):(Instr.index 30 (.agg #[.int .i64 a,.int .i64 b,.int .i64 c,.int .i64 d]) (.int .i64 2)).run Tryz.prog w=.ok (.int .i64 c) w:=by kernel_rfl
def yj (a b c d:Int) (w:World):(Instr.index 30 (.agg #[.int .i64 a,.int .i64 b,.int .i64 c,.int .i64 d]) (.int .i64 3)).run Tryz.prog w=.ok (.int .i64 d) w:=by kernel_rfl
def Aui {w:World} {T:Tv} (h:An w T) (hd:∀ j,j∈T.js->Ag3 j.2) (aQ:T.js.length<=1000) (node:Int) :
  Calls Tryz.prog 17 #[.pointer (some ⟨T.tb,0,none⟩),.int .i64 node] w fun e w'=>e=.returned (P3 T.pl.ab node).val/\Below w.heap.size w w':=by
 obtain ⟨m,hm⟩:=Ex (T.js.length);obtain ⟨tb,ht⟩:=Ex (T.tb);have al:=F9.new w;obtain ⟨W0,aJ⟩:=Ex ((w.alloc (.cells #[.int .i64 0,.int .i64 0,.int .i64 0,.int .i64 0] 30)).alloc (.cells #[.int .i64 0,.int .i64 0,.int .i64 0,.int .i64 0] 30));have al:F9 w V4.zero W0:=by rw [aJ];exact al
 have av:=h.low al.low
 obtain ⟨so,cap,c4,aE⟩:∃ so cap,W0.cell? ⟨T.tb,4,none⟩=some (.slice so T.js.length cap)/\T.jv=.slice so T.js.length cap:=by
  rcases av.ab.2 with ⟨e,h0⟩ | ⟨g,cap,a6,e,_,_,h1,h2,_⟩
  .exact ⟨none,0,by rw [Aa av.head 4,h0,<- e];rfl,by rw [h0,e]⟩
  .exact ⟨_,_,by rw [Aa av.head 4,<- e];rfl,e⟩
 rw [<- hm,<- ht] at c4;rw [<- hm] at aQ aE;rw [<- ht];replace ⟨h,hd,hm,ht,aE,al,av⟩:=H7 h hd hm ht aE al av;go_enter Tryz.func17,Tryz.ntmps17;go_upto_region 2 with fail;rw [<- aJ];clear aJ;go_wp2_with fail;clear c4;go_loopw [7,9,10,11,21,30,48] (fun _ _ _ _ iv _ _ wr=>∃ (k:Nat),iv=.int .i64 k/\k<=m/\Hid (F9 w (Pf node T.pl.ab k) wr)/\Hid (tz (Pf node T.pl.ab k) (1099511627776*(1000*(k:Int))))) (fun _ _ _ _ iv _ _ _=>m-(intOf iv).toNat)
 case atStart=>exact ⟨0,rfl,Av _,al.out,Hh (by simp [Pf,tz])⟩
 case round=>
  obtain ⟨k,rfl,a7,t,aN⟩:=hrel;by_cases hc:k<m
  .have aR:(k:Int)<m:=(by omega);have a8:(0:Int)<=(k:Int):=(by omega);have hA:=h.out.low t.out.low;obtain ⟨j,hj⟩:∃ j,T.js[k]?=some j:=⟨_,Am (by have:=hm.out;omega)⟩;obtain ⟨g,a5,_,cj,_,aK⟩:=hA.ll hj;have e1:so=some ⟨g,0,none⟩:=(by have:=aE.out.symm.trans aK;injection this);subst e1;have o:=Aj hj;obtain ⟨q,aO⟩:=hd.out j o;obtain ⟨b,x⟩:=j;have aL:T.pl.ab[k]?=some x.pl:=(by simp [Tv.pl,hj]);have z:∀ W,Below w.heap.size w W->A9 W b x:=fun W hW=>(h.out.low hW).box _ o;have ac:∀ W,Below w.heap.size w W->Bu W x:=fun W hW=>((h.out.low hW).ok _ o).parts;have ad:=J8 (ac w (Below.refl _ _));obtain ⟨A,aF⟩:=Ex (Pf node T.pl.ab k);have aA:Pf node T.pl.ab (k+1)=Jt node x.pl x.pn A:=(by rw [<- ad,Auh,aF];unfold Pf;rw [Ra,aL,Ms];rfl);rw [<- aF] at t aN;have aB:=z _ t.out.low;simp only at cj q aO;have aP:=Bk aB 21 (.slice x.po x.pn x.pc) rfl;obtain ⟨⟨da,db,dc,dd⟩,r⟩:∃ d,d=x.pl.sp.dn:=⟨_,rfl⟩;rw [<- r] at q;obtain ⟨po,aG⟩:=Ex (x.po);obtain ⟨pn,s⟩:=Ex (x.pn);rw [<- aG,<- s] at aP;rw [<- s] at aO ad aA;replace ⟨hA,hj,aK,o,q,aL,z,ac⟩:=H8 hA hj aK o q aL z ac;replace ⟨ad,aF,aA,aB,r,aG,s⟩:=H7 ad aF aA aB r aG s;go_wp2_with fail;clear cj aP;go_loopw [9,10,11,30,48] (fun _ _ _ iv _ wr=>∃ (n:Nat),iv=.int .i64 n/\n<=pn/\Hid (F9 w (Jt node x.pl n A) wr)/\Hid (tz (Jt node x.pl n A) (1099511627776*(1000*(k:Int)+n)))) (fun _ _ _ iv _ _=>pn-(intOf iv).toNat)
   case atStart=>exact ⟨0,rfl,Av _,t.out,Hh (by have:=aN.out;rw [Auf];simpa using this)⟩
   case round=>
    obtain ⟨n,rfl,a9,am,aC⟩:=hrel;by_cases aS:n<pn
    .have aT:(n:Int)<pn:=(by omega);have ba:(0:Int)<=(n:Int):=(by omega);obtain ⟨pb,p,e,hp,c0,c1⟩:=Qb (ac.out _ am.out.low) (k:=n) (by rw [<- s.out];exact aS);have e2:=aG.out.trans e;subst e2;obtain ⟨p1,p2⟩:=p;simp only at c0 c1;have an:=Aug (i:=node) (v:=A) hp;obtain ⟨u,hu⟩:=Ex (Jt node x.pl n A);rw [<- hu] at am aC an;obtain ⟨W3,aH⟩:=Ex (wr.alloc (.cells #[.int .i64 p1,.int .i64 p2] 65));have aM:Below wr.heap.size wr W3:=(by rw [aH];exact Bn);have ao:=am.out.next aM;have aI:W3.heap[wr.heap.size]?=some (.cells #[.int .i64 p1,.int .i64 p2] 65 (0,0)):=(by rw [aH];exact Af _ _);have x0:=Bk aI 0 (.int .i64 p1) rfl;have x1:=Bk aI 1 (.int .i64 p2) rfl;have ap:=z.out _ ao.low;have d4:W3.cell? ⟨b,4,none⟩=some (.int .i64 da):=(by rw [Aa ap 4,show da=x.pl.sp.dn.a by rw [<- r.out]];rfl);have d5:W3.cell? ⟨b,5,none⟩=some (.int .i64 db):=(by rw [Aa ap 5,show db=x.pl.sp.dn.b by rw [<- r.out]];rfl);have d6:W3.cell? ⟨b,6,none⟩=some (.int .i64 dc):=(by rw [Aa ap 6,show dc=x.pl.sp.dn.c by rw [<- r.out]];rfl);have d7:W3.cell? ⟨b,7,none⟩=some (.int .i64 dd):=(by rw [Aa ap 7,show dd=x.pl.sp.dn.d by rw [<- r.out]];rfl);replace ⟨hp,e,an,hu,aM,ao,aI,ap⟩:=H8 hp e an hu aM ao aI ap;replace am:=Hh am;go_upto_region 10 with fail;rw [<- aH];clear aH c0 c1;obtain ⟨bb,bc,bd,be,bf,bg,bi,bk⟩:=aC.out;obtain ⟨aU,aV,aW,aX,aY,aZ,a0,a1⟩:=q.out;simp only at aU aV aW aX aY aZ a0 a1;by_cases q1:p1=node
     .by_cases q2:p2=0
      .subst q1;subst q2;have f:Jt p1 x.pl (n+1) A=Qw 4 u ⟨da,db,dc,dd⟩:=(by rw [an.out,<- r.out,Ad (by simp)];rfl);replace f:=Hh f;go_wp2_with fail;clear x0 x1 d4 d5 d6 d7;go_loopw [10,11,48] (fun _ _ iv wr=>∃ (d:Nat),iv=.int .i64 d/\d<=4/\Hid (F9 w (Qw d u ⟨da,db,dc,dd⟩) wr)) (fun _ _ iv _=>4-(intOf iv).toNat)
       case atStart=>exact ⟨0,rfl,by omega,ao.out⟩
       case round=>
        obtain ⟨d,rfl,bl,l⟩:=hrel;by_cases bn:d<4
        .rcases (by omega:d=0\/d=1\/d=2\/d=3) with rfl | rfl | rfl | rfl
         .have u0:=Bk l.out.vec 0 (.int .i64 u.a) rfl;have fr:=Ah l.out.vec;have y:F9 w (Qw 1 u ⟨da,db,dc,dd⟩) (wr.setCell ⟨w.heap.size+1,0,none⟩ (.int .i64 (u.a+da))):=l.out.set 0 _ rfl;replace y:=Hh y;go_wp2_with (refine Wy rfl _ _ _ rfl _ (yg _ _ _ _ _) ?_);go_roundw
          case rel=>exact ⟨1,rfl,by omega,y⟩
          case measure=>simp [intOf]
         .have u1:=Bk l.out.vec 1 (.int .i64 u.b) rfl;have fr:=Ah l.out.vec;have y:F9 w (Qw 2 u ⟨da,db,dc,dd⟩) (wr.setCell ⟨w.heap.size+1,1,none⟩ (.int .i64 (u.b+db))):=l.out.set 1 _ rfl;replace y:=Hh y;go_wp2_with (refine Wy rfl _ _ _ rfl _ (xq _ _ _ _ _) ?_);go_roundw
          case rel=>exact ⟨2,rfl,by omega,y⟩
          case measure=>simp [intOf]
         .have u2:=Bk l.out.vec 2 (.int .i64 u.c) rfl;have fr:=Ah l.out.vec;have y:F9 w (Qw 3 u ⟨da,db,dc,dd⟩) (wr.setCell ⟨w.heap.size+1,2,none⟩ (.int .i64 (u.c+dc))):=l.out.set 2 _ rfl;replace y:=Hh y;go_wp2_with (refine Wy rfl _ _ _ rfl _ (yi _ _ _ _ _) ?_);go_roundw
          case rel=>exact ⟨3,rfl,by omega,y⟩
          case measure=>simp [intOf]
         .have u3:=Bk l.out.vec 3 (.int .i64 u.d) rfl;have fr:=Ah l.out.vec;have y:F9 w (Qw 4 u ⟨da,db,dc,dd⟩) (wr.setCell ⟨w.heap.size+1,3,none⟩ (.int .i64 (u.d+dd))):=l.out.set 3 _ rfl;replace y:=Hh y;go_wp2_with (refine Wy rfl _ _ _ rfl _ (yj _ _ _ _ _) ?_);go_roundw
          case rel=>exact ⟨4,rfl,by omega,y⟩
          case measure=>simp [intOf]
        .have a2:d=4:=(by omega);subst a2;go_wp2;go_roundw
         case rel=>exact ⟨n+1,by go_num,by omega,Hh (by rw [f.out];exact l.out),Hh (by rw [f.out];refine ⟨?_,?_,?_,?_,?_,?_,?_,?_⟩<;>simp [Qw]<;>omega)⟩
         case measure=>simp [intOf];omega
      .clear d4 d5 d6 d7;have f:Jt node x.pl (n+1) A=u:=(by rw [an.out,Ac (by simp;omega)]);replace f:=Hh f;go_wp2;go_roundw
       case rel=>exact ⟨n+1,by go_num,by omega,Hh (by rw [f.out];exact ao.out),Hh (by rw [f.out];refine ⟨?_,?_,?_,?_,?_,?_,?_,?_⟩<;>omega)⟩
       case measure=>simp [intOf];omega
     .clear d4 d5 d6 d7;have f:Jt node x.pl (n+1) A=u:=(by rw [an.out,Ac (by simp;omega)]);replace f:=Hh f;go_wp2;go_roundw
      case rel=>exact ⟨n+1,by go_num,by omega,Hh (by rw [f.out];exact ao.out),Hh (by rw [f.out];refine ⟨?_,?_,?_,?_,?_,?_,?_,?_⟩<;>omega)⟩
      case measure=>simp [intOf];omega
    .have aT:¬ (n:Int)<pn:=(by omega);have a3:n=pn:=(by omega);subst a3;go_wp2;go_roundw
     case rel=>exact ⟨k+1,by go_num,by omega,Hh (by rw [aA.out];exact am.out),Hh (by rw [aA.out];obtain ⟨b1,b2,b3,b4,b5,b6,b7,b8⟩:=aC.out;refine ⟨b1,?_,b3,?_,b5,?_,b7,?_⟩<;>omega)⟩
     case measure=>simp [intOf];omega
  .have aR:¬ (k:Int)<m:=(by omega);have a4:k=m:=(by omega);subst a4;obtain ⟨u,hu⟩:=Ex (Pf node T.pl.ab k);have aD:u=P3 T.pl.ab node:=(by rw [hu];unfold Pf P3;rw [Dn (by simp [Tv.pl];have:=hm.out;omega)]);rw [<- hu] at t;have u0:=Bk t.out.vec 0 (.int .i64 u.a) rfl;have u1:=Bk t.out.vec 1 (.int .i64 u.b) rfl;have u2:=Bk t.out.vec 2 (.int .i64 u.c) rfl;have u3:=Bk t.out.vec 3 (.int .i64 u.d) rfl;have r0:=Bk t.out.res 0 (.int .i64 0) rfl;have r1:=Bk t.out.res 1 (.int .i64 0) rfl;have r2:=Bk t.out.res 2 (.int .i64 0) rfl;have r3:=Bk t.out.res 3 (.int .i64 0) rfl;have fr:=Ah t.out.res;replace ⟨hu,aD⟩:=H2 hu aD;go_wp2;refine Ao (v:=u.val) (by simp [results,Tryz.results17,go_sem,r0,r1,r2,r3]) rfl ⟨by rw [aD.out],?_⟩;exact F8 (F8 (F8 (F8 t.out.low Ln) Ln) Ln) Ln
def oq:Er:=⟨false,false,-1⟩
structure Ju (w:World) (fb:Nat) (vs:List ax) (kn kc:Nat) (cv nv:Value) (wr:World):Prop where
 low:Below w.heap.size w wr
 head:wr.heap[w.heap.size]?=some (.cells #[.int .i64 0,.int .i64 (-1),.map (some (w.heap.size+1)),nv,.slice none 0 0,.pointer (some ⟨fb,0,none⟩),cv] 115 (0,0))
 map:wr.heap[w.heap.size+1]?=some (.map #[] 0)
 nodes:wr.ownsRow (w.heap.size+2) 119 3 nv kn (Ar E3 (List.replicate kn oq))
 aw:wr.ownsRow (w.heap.size+2) 30 4 cv kc (Ar V4.cells ((vs.take kc).map ax.cap))
def Nk {w:World} {B size n b:Nat} {T:TypeId} {v:Value} {xs:List Value} (h:w.ownsRow B T size v n xs) (a:v.ownBlock=some b):B<=b:=(C1 h a).choose_spec.2
variable {w wr w2 w9:World} {fb k:Nat} {vs:List ax} {cv nv v9:Value} {v:ax}
def Ju.next {b d:Nat} (h:Ju w fb vs b d cv nv wr) (a:Below wr.heap.size wr w2):Ju w fb vs b d cv nv w2:=
 ⟨h.low.trans (a.mono h.low.size),Ae a h.head (Ab h.head),Ae a h.map (Ab h.map),
  Bb (S:=fun _=>False) h.nodes ((Mod.af a).mono fun _ _ c=>c) fun _ _ c=>c,Bb (S:=fun _=>False) h.aw ((Mod.af a).mono fun _ _ c=>c) fun _ _ c=>c⟩
def Ju.cap (h:Ju w fb vs k k cv nv wr) (j:vs[k]?=some v) (a:w9.ownsRow (w.heap.size+2) 30 4 v9 (k+1) (Ar V4.cells ((vs.take k).map ax.cap)++v.cap.cells.toList))
  (l:wr.grownBy w9 cv.ownBlock):Ju w fb vs k (k+1) v9 nv (w9.setCell ⟨w.heap.size,6,none⟩ v9):=by
 have f:=Mod.grown l fun _ e=>e;have d:∀ b,cv.ownBlock=some b->w.heap.size+2<=b:=fun b e=>Nk h.aw e
 have m:=f.aq h.head fun e=>by have:=d _ e;omega
 have n:=f.aq h.map fun e=>by have:=d _ e;omega
 have i:=Bb h.nodes f fun b e c=>by
  obtain ⟨o,p,_⟩:=C1 h.aw c;exact B2 h.nodes p (by decide) e
 have g:Mod (fun b=>b=w.heap.size) w9 (w9.setCell ⟨w.heap.size,6,none⟩ v9):=Mod.setCell _ _ _ _ rfl;refine ⟨F8 (h.low.trans (f.below h.low.size fun b e=>by have:=d b e;omega)) Ln,Al m 6 v9,g.aq n (by omega),Bb i g fun b e c=>?_,?_⟩
 .have:=Nk i e;omega
 .have q:=Bb a g fun b e c=>by have:=Nk a e;omega
  rw [Ra,j,Ds,Px];simpa [Ar] using q
def Ju.node (h:Ju w fb vs k (k+1) cv nv wr) (a:w9.ownsRow (w.heap.size+2) 119 3 v9 (k+1) (Ar E3 (List.replicate k oq)++(E3 oq).toList))
  (j:wr.grownBy w9 nv.ownBlock):Ju w fb vs (k+1) (k+1) cv v9 (w9.setCell ⟨w.heap.size,3,none⟩ v9):=by
 have f:=Mod.grown j fun _ e=>e;have d:∀ b,nv.ownBlock=some b->w.heap.size+2<=b:=fun b e=>Nk h.nodes e
 have l:=f.aq h.head fun e=>by have:=d _ e;omega
 have m:=f.aq h.map fun e=>by have:=d _ e;omega
 have i:=Bb h.aw f fun b e c=>by
  obtain ⟨n,o,_⟩:=C1 h.nodes c;exact B2 h.aw o (by decide) e
 have g:Mod (fun b=>b=w.heap.size) w9 (w9.setCell ⟨w.heap.size,3,none⟩ v9):=Mod.setCell _ _ _ _ rfl;refine ⟨F8 (h.low.trans (f.below h.low.size fun b e=>by have:=d b e;omega)) Ln,Al l 3 v9,g.aq m (by omega),?_,Bb i g fun b e c=>?_⟩
 .have p:=Bb a g fun b e c=>by have:=Nk a e;omega
  rw [List.replicate_succ',Px];simpa [Ar] using p
 .have:=Nk i e;omega
structure Auj (w:World) (fb:Nat) (vs:List ax) (k:Nat) (nv:Value) (wx:World):Prop where
 ex:∃ cv,Ju w fb vs k (k+1) cv nv wx
def Auk:(Tryz.prog.info? 30).map (fun i=>(i.zero,i.size,i.bytes))=some (some V4.zero.val,4,32):=by kernel_rfl
def Aul:(Tryz.prog.info? 119).map (fun i=>(i.zero,i.size,i.bytes))=some (some (.agg #[.bool false,.bool false,.int .i64 0]),3,16):=by kernel_rfl
def Ag4 {W:World} {cs:Array Value} {T:TypeId}:∀ j u,cs.toList[j]?=some u->((W.alloc (.cells cs T)).drew).cell? ((⟨W.heap.size,0,none⟩:Addr).add j)=some u:=fun i u a=>by
 rw [show ((⟨W.heap.size,0,none⟩:Addr).add i)=⟨W.heap.size,i,none⟩ by unfold Addr.add;split<;>simp_all,Aa (w:=(W.alloc (.cells cs T)).drew) (Af W (.cells cs T)) i,<- a];simp
def Aum {w:World} {b:Nat} (h:w.heap[b]?=some (.map #[] 0)):L2 w b []:=by
 obtain ⟨c,d,a,rest⟩:=World.ownsMap_made (H:=Unit) w Tryz.prog 3 Ow;rw [Af] at a;injection a with a;injection a with e1 e2;subst e1;subst e2;exact ⟨#[],0,h,rest⟩
def Zh (w:World) (fb fm fl:Nat) (vs:List ax) (e:Ending) (w':World):Prop:=
 ∃ T:Tv,e=.returned (.pointer (some ⟨T.tb,0,none⟩))/\An w' T/\Below w.heap.size w w'/\(∀ b,T.ay b->w.heap.size<=b)/\T.fb=fb/\T.fm=fm/\T.fl=fl/\T.vs=vs/\T.pl=⟨0,-1,[],List.replicate vs.length oq,[]⟩
def Ag5 (w:World):Calls Tryz.prog 14 #[.pointer none] w fun e w'=>e=.returned (.pointer none)/\w'=w:=by
 go_enter Tryz.func14,Tryz.ntmps14;go_wp2;go_ret;exact ⟨rfl,rfl⟩
def V5 {w:World} {fb fm fl:Nat} {vs:List ax} (hf:ir w fb fm fl vs) (ao:Ir vs):Calls Tryz.prog 14 #[.pointer (some ⟨fb,0,none⟩)] w (Zh w fb fm fl vs):=by
 have aC:=fun (W:World) (hW:Below w.heap.size w W)=>Ab0 (hf.below hW);have aJ:=fun (W:World) (hW:Below w.heap.size w W) (i:Int)=>Ab4 (hf.below hW) ao i;obtain ⟨m,hm⟩:=Ex (vs.length);have aX:=@run_makeMap Tryz.prog;rw [<- hm] at aC;have a2:m<=16:=by rw [hm];exact ao.len
 replace ⟨hf,ao,aC,aJ,hm⟩:=H5 hf ao aC aJ hm;go_enter Tryz.func14,Tryz.ntmps14;go_upto_region 6 with fail;obtain ⟨W0,aK⟩:=Ex ((w.alloc (.cells #[.int .i64 0,.int .i64 (-1),.map (some (w.heap.size+1)),.slice none 0 0,.slice none 0 0,.pointer (some ⟨fb,0,none⟩),.slice none 0 0] 115)).alloc (.map #[] 0));have aD:Ju w fb vs 0 0 (.slice none 0 0) (.slice none 0 0) W0:=by rw [aK];exact ⟨Bn.alloc (by simp) _,Ai _ (Af _ _),A2 _ _ (by simp),No _ _ _ _,No _ _ _ _⟩
 rw [<- aK];clear aK aX;replace aD:=Hh aD;go_wp2_with fail;refine (aC.out _ aD.out.low).mono ?_;rintro e w1 ⟨rfl,rfl⟩;go_wp2_with fail;go_loopw [4,5,6,23] (fun _ _ _ iv wr=>∃ (k:Nat) (cv nv:Value),iv=.int .i64 k/\k<=m/\Hid (Ju w fb vs k k cv nv wr)) (fun _ _ _ iv _=>m-(intOf iv).toNat)
 case atStart=>exact ⟨0,_,_,rfl,Av _,aD⟩
 case round=>
  obtain ⟨k,cv,nv,rfl,a5,hN⟩:=hrel;by_cases hc:k<m
  .have aY:(k:Int)<m:=(by omega);have aL:=aJ.out _ hN.out.low (k:Int);replace aL:=Hh aL;go_wp2_with fail;refine aL.out.mono ?_;rintro e w2 ⟨x,bb,rfl,hx,aM,_,ap⟩
   have hv:vs[k]?=some x.pl:=by
    rcases ap with ⟨_,_,h⟩ | ⟨_,_,h⟩
    .simpa using h
    .have:=hm.out;omega
   clear ap;replace ⟨hx,aM,hv⟩:=H3 hx aM hv;go_upto_region 10 with fail;obtain ⟨W3,aE⟩:=Ex (w2.alloc (.cells x.cells 69));have aN:Below w2.heap.size w2 W3:=(by rw [aE];exact Bn);have an:=(hN.out.next aM.out).next aN;have s:W3.heap[w2.heap.size]?=some (.cells x.cells 69 (0,0)):=(by rw [aE];exact Af _ _);have f6:=Bk an.head 6 cv rfl;have f3:=Bk an.head 3 nv rfl;have y1:=Bk s 1 (.int .i64 x.cap.a) rfl;have y2:=Bk s 2 (.int .i64 x.cap.b) rfl;have y3:=Bk s 3 (.int .i64 x.cap.c) rfl;have y4:=Bk s 4 (.int .i64 x.cap.d) rfl;obtain ⟨bx,aO⟩:=Ex (w2.heap.size);have a6:=Ab an.head;rw [<- aE];rw [<- aO] at s y1 y2 y3 y4 ⊢;have q:Ju w fb vs k k cv nv ((W3.alloc (.cells x.cap.cells 30)).drew):=(an.next Bn).next ⟨rfl,rfl,rfl,Nat.le_refl _,fun _ _=>rfl⟩;have t:=q.aw;have v:=Ag4 (W:=W3) (cs:=x.cap.cells) (T:=30)
   have av:∀ u∈x.cap.cells.toList,u.oneCell'=true:=by intro u hu;simp at hu;rcases hu with rfl | rfl | rfl | rfl<;>rfl
   have aF:=Je (n:=k) (by omega);have aP:(k+1)*32<=140737488355328:=(by omega);have aA:w.heap.size+2<=((W3.alloc (.cells x.cap.cells 30)).drew).heap.size:=Ab q.map
   have y:∀ w9:World,((W3.alloc (.cells x.cap.cells 30)).drew).grownBy w9 cv.ownBlock->w9.heap[w.heap.size]?=some (.cells #[.int .i64 0,.int .i64 (-1),.map (some (w.heap.size+1)),nv,.slice none 0 0,.pointer (some ⟨fb,0,none⟩),cv] 115 (0,0)):=fun w9 hg=>
    (hg.block _ (Ab q.head) (fun e=>by have:=Nk q.aw e.symm;omega)).trans q.head
   obtain ⟨aZ,aU,aV,aQ,aR⟩:=C0 Auk;replace ⟨aN,an,s,q,t,v,av,aF⟩:=H8 aN an s q t v av aF;replace ⟨aP,aA,y,aO⟩:=H4 aP aA y aO;clear aE;go_cut [] (fun wx=>Auj w fb vs k nv wx)
   case first=>
    go_region_law
     (first
       | (refine Td (by rfl) _ _ _ (by rfl) (w.heap.size+2) 30 aZ _ 4 32 Tryz.underlying113 aU aV aQ aR rfl (by decide) cv k _ (by rfl) t.out ⟨W3.heap.size,0,none⟩ 1 x.cap.cells.toList (by rfl) (by rfl) v.out av.out aF.out aP.out aA.out ?_;intro g9 a3 w9 g f;have q9:=y.out w9 f;have f9:=Aa q9 6;have z9:=Ah q9 6;simp at f9
          replace ⟨q9,g,f⟩:=H3 q9 g f))
    all_goals
     go_wp2_with fail;go_meet;exact ⟨_,q.out.cap hv.out g.out f.out⟩
   case rest=>
    obtain ⟨a0,aG⟩:=hcut.ex;clear hcut f6 f3 y1 y2 y3 y4;have f3:=Bk aG.head 3 nv rfl;have r:Ju w fb vs k (k+1) a0 nv (wc.alloc (.cells #[.bool false,.bool false,.int .i64 (-1)] 119)):=aG.next Bn;have z:=r.nodes;have l:∀ j u,(E3 oq).toList[j]?=some u->(wc.alloc (.cells #[.bool false,.bool false,.int .i64 (-1)] 119)).cell? ((⟨wc.heap.size,0,none⟩:Addr).add j)=some u:=Ag4 (W:=wc) (cs:=E3 oq) (T:=119)
    have ac:∀ u∈(E3 oq).toList,u.oneCell'=true:=by intro u hu;simp at hu;rcases hu with rfl | rfl | rfl<;>rfl
    have aB:(k+1)*16<=140737488355328:=(by omega);have ad:w.heap.size+2<=(wc.alloc (.cells #[.bool false,.bool false,.int .i64 (-1)] 119)).heap.size:=Ab r.map;obtain ⟨aW,al,am,o,p⟩:=C0 Aul;replace ⟨aG,r,z,l,ac,aB,ad,al⟩:=H8 aG r z l ac aB ad al;replace ⟨am,o,p⟩:=H3 am o p;go_wp2_with (at_builtin;refine Rb _ rfl _ _ 109 rfl (w.heap.size+2) 119 aW _ 3 16 Tryz.underlying109 al.out am.out o.out p.out rfl (by decide) _ k _ rfl z.out ⟨wc.heap.size,0,none⟩ 1 1 (E3 oq).toList rfl rfl l.out ac.out aF.out aB.out ad.out ?c6)
    case c6=>
     intro v' w9 g f aI;obtain ⟨g5,a4,rfl⟩:=Joins.ownsRow_form g (by omega)
     have aH:=
      (f.block _ (Ab r.out.head) (fun e=>by have:=Nk r.out.nodes e.symm;omega)).trans r.out.head
     have z9:=Bk aH 3 nv rfl;have a7:=Ah aH;have aS:=r.out.node g f;clear f3;replace ⟨g,f,aI,aH,aS⟩:=H5 g f aI aH aS;go_wp2;go_roundw
     case rel=>exact ⟨k+1,_,_,by go_num,by omega,aS⟩
     case measure=>simp [intOf];omega
  .have aY:¬ (k:Int)<m:=(by omega);have a1:k=m:=(by omega);subst a1;go_wp2;go_ret;have hN:=hN.out;have aT:=hm.out;refine ⟨⟨w.heap.size,w.heap.size+1,nv,.slice none 0 0,fb,fm,fl,cv,0,-1,[],List.replicate k oq,[],vs⟩,rfl,⟨hN.head,?_,?_,No _ _ _ _,?_,fun j hj=>by simp at hj,fun j hj=>by simp at hj,by simp,by simp,?_,by simp [aT]⟩,hN.low,?_,rfl,rfl,rfl,rfl,by rw [<- aT];rfl⟩
   .exact Aum hN.map
   .have:=Wv (B':=0) hN.nodes (Av _);simpa using this
   .have:=Wv (B':=0) hN.aw (Av _);rw [Dn (by omega)] at this;rw [aT] at this;exact this
   .refine ⟨⟨w,hf.out,hN.low,fun b hb=>?_⟩,ao.out⟩;rcases hb with e | e | e | e | ⟨j,hj,_⟩
    .have:b=w.heap.size:=e;omega
    .have:b=w.heap.size+1:=e;omega
    .have:=Nk hN.nodes e;omega
    .simp [Value.ownBlock] at e
    .simp at hj
   .intro b hb;rcases hb with e | e | e | e | ⟨j,hj,_⟩
    .have:b=w.heap.size:=e;omega
    .have:b=w.heap.size+1:=e;omega
    .have:=Nk hN.nodes e;omega
    .simp [Value.ownBlock] at e
    .simp at hj
end Go.Proofs.YtimlcnhcjndijaaGreatDoor
namespace Go.Proofs.YtimlcnhcjndijaaGreatDoor
open Go.RowKit Go.Maps
def G2 (w:World) (r:Int) (e:Ending) (w':World):Prop:=e=.returned (.int .i64 r)/\Below w.heap.size w w'
def Ag6 {w:World} {T:Tv} (x:cu) (h:An w T) (hn:0<=x.n.node) (hk:x.n.kind=8\/x.n.kind=9\/x.n.kind=10\/x.n.kind=11) :
  Calls Tryz.prog 59 #[.pointer (some ⟨T.tb,0,none⟩),x.val] w (G2 w (La T.pl x.n)):=by
 obtain ⟨W0,s⟩:=Ex (w.alloc (.cells x.cells 40 (0,0)));have b0:Below w.heap.size w W0:=by rw [s];exact Bn
 have u:=h.low b0;have l:W0.heap[w.heap.size]?=some (.cells x.cells 40 (0,0)):=by rw [s];exact Af _ _
 have aA:=Ab l;have ao:=Ab u.head
 obtain ⟨so,cap,v,c3,al⟩:∃ so cap,T.nv=.slice so T.nodes.length cap/\W0.cell? ⟨T.tb,3,none⟩=some (.slice so T.nodes.length cap)/\T.nodes.length<=9223372036854775807:=by
  rcases u.nodes.2 with ⟨e,h0⟩ | ⟨g,cap,aL,e,_,_,h1,h2,_⟩
  .exact ⟨none,0,by rw [e,h0],by rw [Aa u.head 3,h0,<- e];rfl,by omega⟩
  .exact ⟨_,_,e,by rw [Aa u.head 3,<- e];rfl,by unfold maxLen at h2;omega⟩
 have c1:=Bk u.head 1 (.int .i64 T.tick) rfl;obtain ⟨tb,ht⟩:=Ex (T.tb);obtain ⟨m,hm⟩:=Ex (T.nodes.length);obtain ⟨r,hr⟩:=Ex (La T.pl x.n);obtain ⟨tk,t⟩:=Ex (T.tick);rw [<- hr,<- ht];rw [<- ht,<- hm] at c3;rw [<- ht,<- t] at c1;rw [<- ht] at ao
 have a:r=if (m:Int)<=x.n.node then 142
   else if x.n.kind=8\/x.n.kind=9 then (if x.n.tick<tk then 141 else if (R2 T.nodes x.n.node).up≠decide (x.n.kind=8) then 100 else 0)
   else if x.n.kind=10\/x.n.kind=11 then (if (R2 T.nodes x.n.node).bo≠decide (x.n.kind=11) then 100 else 0) else 0:=by rw [hr,hm,t];rfl
 obtain ⟨⟨kd,ep,et,cl,sq,jn,an,nn,hw⟩,aM,sn,sc,cq⟩:=x;simp only at hn hk a;have e0:=Bk l 0 (.int .i64 kd) rfl;have e2:=Bk l 2 (.int .i64 et) rfl;have e7:=Bk l 7 (.int .i64 nn) rfl;by_cases q:(m:Int)<=nn
 .rw [Ad q] at a;subst a;replace ⟨h,u,l,v,ht,hm,hr,t⟩:=H8 h u l v ht hm hr t;replace ⟨hk,b0,al⟩:=H3 hk b0 al;go_enter Tryz.func59,Tryz.ntmps59;go_upto_region 1 with fail;rw [<- s];clear s;go_quiet (fail);rename_i nq;have o:=b0.out.trans ((A8 _ W0 nq).mono b0.out.size);replace o:=Hh o;go_wp2;go_ret;exact ⟨rfl,o.out⟩
 .rw [Ac q] at a;obtain ⟨k,rfl⟩:∃ k:Nat,nn=(k:Int):=⟨nn.toNat,by omega⟩;have aN:(k:Int)<m:=by omega
  obtain ⟨g,aK,p,ap,_⟩:=u.xf (by omega);have e1:so=some ⟨g,0,none⟩:=by have:=v.symm.trans p;injection this
  subst e1;obtain ⟨nd,ad⟩:∃ n,T.nodes[k]?=some n:=⟨_,Am (by omega)⟩;obtain ⟨n0,n1,n2,_⟩:=u.oy ad p;have av:R2 T.nodes (k:Int)=nd:=by unfold R2;rw [Jw,ad];rfl
  rw [av] at a;obtain ⟨up,dr,si⟩:=nd;simp only at a n0 n1 n2;clear ap;have aB:g<W0.heap.size:=by obtain ⟨_,hc,_⟩:=C1 u.nodes (g:=g) (by rw [p];rfl);exact Ab hc
  replace ⟨h,u,l,v,ht,hm,hr,t⟩:=H8 h u l v ht hm hr t;replace ⟨b0,p,ad,av⟩:=H4 b0 p ad av;go_enter Tryz.func59,Tryz.ntmps59;go_upto_region 1 with fail;rw [<- s];clear s;go_quiet (fail);rename_i nq;go_upto_region 3 with fail;obtain ⟨d,c⟩:=Ex (W0.drewN nq);have aC:d.cell? ⟨w.heap.size,0,none⟩=some (.int .i64 kd):=by rw [c];exact e0
  have aD:d.cell? ⟨w.heap.size,2,none⟩=some (.int .i64 et):=by rw [c];exact e2
  have aG:d.cell? ⟨w.heap.size,7,none⟩=some (.int .i64 k):=by rw [c];exact e7
  have aE:d.cell? ⟨tb,1,none⟩=some (.int .i64 tk):=by rw [c];exact c1
  have ap:d.cell? ⟨tb,3,none⟩=some (.slice (some ⟨g,0,none⟩) m cap):=by rw [c];exact c3
  have aH:d.cell? ⟨g,k*3,none⟩=some (.bool up):=by rw [c];exact n0
  have aI:d.cell? ⟨g,k*3+1,none⟩=some (.bool dr):=by rw [c];exact n1
  have aJ:d.cell? ⟨g,k*3+2,none⟩=some (.int .i64 si):=by rw [c];exact n2
  have y:w.heap.size<d.heap.size:=by rw [c];exact aA
  have am:tb<d.heap.size:=by rw [c];exact ao
  have aF:g<d.heap.size:=by rw [c];exact aB
  have o:Below w.heap.size w d:=by rw [c];exact b0.out.trans ((A8 _ W0 nq).mono b0.out.size)
  rw [<- c];replace o:=Hh o;clear c e0 e2 e7 c1 c3 n0 n1 n2 aA ao aB;go_region;obtain ⟨W3,z⟩:=Ex ((d.alloc (.cells #[.bool up,.bool dr,.int .i64 si] 119)).drew);have f:Below d.heap.size d W3:=by rw [z];exact Bn.trans ⟨rfl,rfl,rfl,Nat.le_refl _,fun _ _=>rfl⟩
  have ac:=o.out.trans (f.mono o.out.size);have e0:=(Bp (w:=d) (f.block _ y)).trans aC;have e2:=(Bp (w:=d) (f.block _ y)).trans aD;have c1:=(Bp (w:=d) (f.block _ am)).trans aE;have x0:W3.cell? ⟨d.heap.size,0,none⟩=some (.bool up):=by rw [z];exact Aa (w:=(d.alloc (.cells #[.bool up,.bool dr,.int .i64 si] 119)).drew) (Af d _) 0
  have x1:W3.cell? ⟨d.heap.size,1,none⟩=some (.bool dr):=by rw [z];exact Aa (w:=(d.alloc (.cells #[.bool up,.bool dr,.int .i64 si] 119)).drew) (Af d _) 1
  rw [<- z];replace ⟨f,ac⟩:=H2 f ac;clear z aC aD aG aE ap aH aI aJ y am aF;have i:=fun n=>ac.out.trans ((A8 _ W3 n).mono ac.out.size);have j:=ac.out;replace ⟨i,j⟩:=H2 i j;rcases hk with rfl | rfl | rfl | rfl
  .by_cases qt:et<tk
   .have b:r=141:=(by rw [a];simp [qt]);replace a:=Hh a;subst b;go_wp2;go_quiet (fail);go_wp2;go_ret;exact ⟨rfl,i.out _⟩
   .cases up
    all_goals
     have b:r=_:=a;simp [qt] at b;replace a:=Hh a;subst b;go_wp2;go_quiet (fail);go_wp2;go_ret;exact ⟨rfl,i.out _⟩
  .by_cases qt:et<tk
   .have b:r=141:=(by rw [a];simp [qt]);replace a:=Hh a;subst b;go_wp2;go_quiet (fail);go_wp2;go_ret;exact ⟨rfl,i.out _⟩
   .cases up
    all_goals
     have b:r=_:=a;simp [qt] at b;replace a:=Hh a;subst b;go_wp2;go_quiet (fail);go_wp2;go_ret;exact ⟨rfl,i.out _⟩
  .cases dr
   all_goals
    have b:r=_:=a;simp at b;replace a:=Hh a;subst b;go_wp2;go_ret;exact ⟨rfl,j.out⟩
  .cases dr
   all_goals
    have b:r=_:=a;simp at b;replace a:=Hh a;subst b;go_wp2;go_ret;exact ⟨rfl,j.out⟩
def R5 {B:Nat} {w w':World} (h:Below B w w'):(∀ k o,k<B->w'.cell? ⟨k,o,none⟩=w.cell? ⟨k,o,none⟩)/\(∀ k o,k<B->w'.frozen? ⟨k,o,none⟩=w.frozen? ⟨k,o,none⟩):=
 ⟨fun k o a=>Bp (h.block k a),fun k o a=>by simp only [World.frozen?,h.block k a]⟩
def Ag7 {w:World} {T:Tv} (x:cu) (h:An w T) (hn:1<=x.n.bp) :
  Calls Tryz.prog 60 #[.pointer (some ⟨T.tb,0,none⟩),x.val] w (G2 w (Jo T.pl x.n)):=by
 obtain ⟨a,s⟩:=Ex (w.alloc (.cells x.cells 40 (0,0)));have l:Below w.heap.size w a:=by rw [s];exact Bn
 have hA:=h.low l;have f:a.heap[w.heap.size]?=some (.cells x.cells 40 (0,0)):=by rw [s];exact Af _ _
 have aF:=Ab f
 obtain ⟨so,cap,t,c4,ad⟩:∃ so cap,T.jv=.slice so T.js.length cap/\a.cell? ⟨T.tb,4,none⟩=some (.slice so T.js.length cap)/\T.js.length<=9223372036854775807:=by
  rcases hA.ab.2 with ⟨e,h0⟩ | ⟨g,cap,aU,e,_,_,h1,h2,_⟩
  .exact ⟨none,0,by rw [e,h0],by rw [Aa hA.head 4,h0,<- e];rfl,by omega⟩
  .exact ⟨_,_,e,by rw [Aa hA.head 4,<- e];rfl,by unfold maxLen at h2;omega⟩
 obtain ⟨tb,ht⟩:=Ex (T.tb);obtain ⟨m,hm⟩:=Ex (T.js.length);obtain ⟨r,hr⟩:=Ex (Jo T.pl x.n);rw [<- hr,<- ht];rw [<- ht,<- hm] at c4;rw [<- hm] at ad t;have c:r=if (m:Int)<x.n.bp then 90 else if x.n.kind≠7 then (Ay (Ew T.pl.ab x.n.bp).lf (Gg x.n.kind)).2 else if Gd (Ew T.pl.ab x.n.bp) x.n.attempt x.n.node=none then 100 else 0:=by rw [hr,hm];unfold Jo;simp [Tv.pl]
 obtain ⟨⟨kd,ep,et,cl,sq,jn,an,nn,hw⟩,aV,sn,sc,cq⟩:=x;simp only at hn c;have e0:=Bk f 0 (.int .i64 kd) rfl;have e5:=Bk f 5 (.int .i64 jn) rfl;have e6:=Bk f 6 (.int .i64 an) rfl;have e7:=Bk f 7 (.int .i64 nn) rfl;by_cases q:(m:Int)<jn
 .rw [Ad q] at c;subst c;replace ⟨h,hA,f,t,ht,hm,hr,l⟩:=H8 h hA f t ht hm hr l;replace ad:=Hh ad;go_enter Tryz.func60,Tryz.ntmps60;go_upto_region 1 with fail;rw [<- s];clear s;go_quiet (fail);rename_i nq;have av:=l.out.trans ((A8 _ a nq).mono l.out.size);replace av:=Hh av;go_wp2;go_ret;exact ⟨rfl,av.out⟩
 .rw [Ac q] at c;obtain ⟨k,rfl⟩:∃ k:Nat,jn=(k:Int)+1:=⟨(jn-1).toNat,by omega⟩;have aW:(k:Int)<m:=by omega
  have aX:(0:Int)<=(k:Int):=by omega
  obtain ⟨j,hj⟩:∃ j,T.js[k]?=some j:=⟨_,Am (by omega)⟩;obtain ⟨g,aO,_,cj,_,u⟩:=hA.ll hj;have e1:so=some ⟨g,0,none⟩:=by have:=t.symm.trans u;injection this
  subst e1;obtain ⟨b,z⟩:=j;have i:=Aj hj;have al:Ew T.pl.ab ((k:Int)+1)=z.pl:=by unfold Ew;rw [show ((k:Int)+1-1).toNat=k by omega];simp [Tv.pl,hj]
  rw [al] at c;simp only at cj;have d:=hA.box _ i;have am:=(hA.ok _ i).parts;have kp:∀ W,Below a.heap.size a W->Calls Tryz.prog 102 #[.pointer (some ⟨b,0,none⟩),.int .i64 an,.int .i64 nn] W (Adg z an nn W):=fun W hW=>Adh (Ae hW d (Ab d)) (Bu.low am hW) an nn;by_cases q7:kd=7
  .subst q7;rw [Ac (by simp)] at c;replace ⟨h,hA,f,t,ht,hm,hr,l⟩:=H8 h hA f t ht hm hr l;replace ⟨u,hj,i,al,d,am,kp,c⟩:=H8 u hj i al d am kp c;go_enter Tryz.func60,Tryz.ntmps60;go_upto_region 1 with fail;rw [<- s];clear s;go_quiet (fail);rename_i nq;go_upto_region 3 with fail;go_quiet (fail);rename_i aG;go_wp2_with fail;refine (kp.out _ (A8 _ a _)).mono ?_;rintro e w1 ⟨rfl,hq⟩;have ac:=fun n=>l.out.trans ((A8 _ a n).mono l.out.size);rcases hq with ⟨aA,rfl⟩ | ⟨k2,pb,aB,_,_,rfl⟩
   .have aC:r=100:=(by rw [c.out,Ad aA]);replace ⟨ac,aA⟩:=H2 ac aA;subst aC;go_wp2;go_ret;exact ⟨rfl,ac.out _⟩
   .have aC:r=0:=(by rw [c.out,Ac (by rw [aB];simp)]);replace ⟨ac,aB⟩:=H2 ac aB;subst aC;go_wp2;go_ret;exact ⟨rfl,ac.out _⟩
  .rw [Ad q7] at c;have aH:=Bk d 14 (.int .i64 z.pl.lf.st) rfl;have aI:=Bk d 15 (.int .i64 z.pl.lf.bm) rfl;have aJ:=Bk d 16 (.int .i64 z.pl.lf.left) rfl;have aK:=Bk d 17 (.bool z.pl.lf.wall) rfl;have aL:=Bk d 18 (.bool z.pl.lf.stop) rfl
   have ap:1<=Gg kd/\Gg kd<=8:=by unfold Gg;split<;>(try split)<;>omega
   have ks:=fun W=>Adf kd W;obtain ⟨sg,aD⟩:=Ex (Gg kd);rw [<- aD] at ks ap c;have kx:=fun W=>Ac0 z.pl.lf sg W ap;obtain ⟨⟨l1,r1⟩,aE⟩:∃ p,p=Ay z.pl.lf sg:=⟨_,rfl⟩;rw [<- aE] at kx c;simp only at kx c;subst c;replace ⟨h,hA,f,t,ht,hm,hr,l⟩:=H8 h hA f t ht hm hr l;replace ⟨u,hj,i,al,d,am,kp,ap⟩:=H8 u hj i al d am kp ap;replace ⟨aD,aE,ks,kx⟩:=H4 aD aE ks kx;go_enter Tryz.func60,Tryz.ntmps60;go_upto_region 1 with fail;rw [<- s];clear s;go_quiet (fail);rename_i nq;go_upto_region 3 with fail;go_quiet (fail);rename_i aG;have aY:∀ n,((a.drewN n).alloc (.cells #[.int .i64 0,.int .i64 0,.int .i64 0,.bool false,.bool false] 43)).cell? ⟨a.heap.size,0,none⟩=some (.int .i64 0):=fun n=>Aa (w:=(a.drewN n).alloc (.cells #[.int .i64 0,.int .i64 0,.int .i64 0,.bool false,.bool false] 43)) (Af (a.drewN n) _) 0;have aZ:∀ n,((a.drewN n).alloc (.cells #[.int .i64 0,.int .i64 0,.int .i64 0,.bool false,.bool false] 43)).cell? ⟨a.heap.size,1,none⟩=some (.int .i64 0):=fun n=>Aa (w:=(a.drewN n).alloc (.cells #[.int .i64 0,.int .i64 0,.int .i64 0,.bool false,.bool false] 43)) (Af (a.drewN n) _) 1;have a0:∀ n,((a.drewN n).alloc (.cells #[.int .i64 0,.int .i64 0,.int .i64 0,.bool false,.bool false] 43)).cell? ⟨a.heap.size,2,none⟩=some (.int .i64 0):=fun n=>Aa (w:=(a.drewN n).alloc (.cells #[.int .i64 0,.int .i64 0,.int .i64 0,.bool false,.bool false] 43)) (Af (a.drewN n) _) 2;have a1:∀ n,((a.drewN n).alloc (.cells #[.int .i64 0,.int .i64 0,.int .i64 0,.bool false,.bool false] 43)).cell? ⟨a.heap.size,3,none⟩=some (.bool false):=fun n=>Aa (w:=(a.drewN n).alloc (.cells #[.int .i64 0,.int .i64 0,.int .i64 0,.bool false,.bool false] 43)) (Af (a.drewN n) _) 3;have a2:∀ n,((a.drewN n).alloc (.cells #[.int .i64 0,.int .i64 0,.int .i64 0,.bool false,.bool false] 43)).cell? ⟨a.heap.size,4,none⟩=some (.bool false):=fun n=>Aa (w:=(a.drewN n).alloc (.cells #[.int .i64 0,.int .i64 0,.int .i64 0,.bool false,.bool false] 43)) (Af (a.drewN n) _) 4;have zf:∀ n o,((a.drewN n).alloc (.cells #[.int .i64 0,.int .i64 0,.int .i64 0,.bool false,.bool false] 43)).frozen? ⟨a.heap.size,o,none⟩=false:=fun n=>Ah (w:=(a.drewN n).alloc (.cells #[.int .i64 0,.int .i64 0,.int .i64 0,.bool false,.bool false] 43)) (Af (a.drewN n) _);have v:=fun n=>l.out.trans ((A8 _ a n).mono l.out.size);replace v:=Hh v;have ao:=Ab d.out;have ze:∀ n,((a.drewN n).alloc (.cells #[.int .i64 0,.int .i64 0,.int .i64 0,.bool false,.bool false] 43)).cell? ⟨w.heap.size,0,none⟩=some (.int .i64 kd):=fun n=>(Bp (w:=a) (((A8 _ a n).alloc Ln _).block _ aF)).trans e0;have aP:∀ n,((a.drewN n).alloc (.cells #[.int .i64 0,.int .i64 0,.int .i64 0,.bool false,.bool false] 43)).cell? ⟨b,14,none⟩=some (.int .i64 z.pl.lf.st):=fun n=>(Bp (w:=a) (((A8 _ a n).alloc Ln _).block _ ao)).trans aH;have aQ:∀ n,((a.drewN n).alloc (.cells #[.int .i64 0,.int .i64 0,.int .i64 0,.bool false,.bool false] 43)).cell? ⟨b,15,none⟩=some (.int .i64 z.pl.lf.bm):=fun n=>(Bp (w:=a) (((A8 _ a n).alloc Ln _).block _ ao)).trans aI;have aR:∀ n,((a.drewN n).alloc (.cells #[.int .i64 0,.int .i64 0,.int .i64 0,.bool false,.bool false] 43)).cell? ⟨b,16,none⟩=some (.int .i64 z.pl.lf.left):=fun n=>(Bp (w:=a) (((A8 _ a n).alloc Ln _).block _ ao)).trans aJ;have aS:∀ n,((a.drewN n).alloc (.cells #[.int .i64 0,.int .i64 0,.int .i64 0,.bool false,.bool false] 43)).cell? ⟨b,17,none⟩=some (.bool z.pl.lf.wall):=fun n=>(Bp (w:=a) (((A8 _ a n).alloc Ln _).block _ ao)).trans aK;have aT:∀ n,((a.drewN n).alloc (.cells #[.int .i64 0,.int .i64 0,.int .i64 0,.bool false,.bool false] 43)).cell? ⟨b,18,none⟩=some (.bool z.pl.lf.stop):=fun n=>(Bp (w:=a) (((A8 _ a n).alloc Ln _).block _ ao)).trans aL;go_upto_region 5 with fail;go_region_law
    (first
      | (go_simp;go_at_call 101;refine (ks.out _).mono ?_
         rintro e w1 ⟨rfl,rfl⟩)
      | (go_simp;go_at_call 100;refine (kx.out _).mono ?_;rintro e w2 ⟨rfl,y⟩;have s2:=y.size;obtain ⟨aM,aN⟩:=R5 y
         (try simp at s2)
         (try simp at aM)
         (try simp at aN)
         (try have a3:a.heap.size<w2.heap.size:=by omega)
         replace y:=Hh y))
   all_goals
    go_wp2;go_ret;refine ⟨rfl,?_⟩
    first
     | exact ((v.out _).trans (y.out.mono (v.out _).size)).alloc (A6 (v.out _).size y.out.size) _
     | exact F8 (F8 (F8 (F8 (F8 (((v.out _).alloc (v.out _).size _).trans (y.out.mono (by have:=l.out.size;simp;omega))) l.out.size) l.out.size) l.out.size) l.out.size) l.out.size
structure ny (w:World) (u v:V4) (b:ee) (wr:World):Prop where
 low:Below w.heap.size w wr
 b1:wr.heap[w.heap.size]?=some (.cells u.cells 30 (0,0))
 b2:wr.heap[w.heap.size+1]?=some (.cells v.cells 30 (0,0))
 res:wr.heap[w.heap.size+2]?=some (.cells #[.int .i64 0,.int .i64 0] 333 (0,0))
 np:wr.heap[w.heap.size+3]?=some (.cells #[.int .i64 b.1,.int .i64 b.2] 333 (0,0))
def ny.next {w wr w':World} {u v:V4} {b:ee} (h:ny w u v b wr) (a:Below wr.heap.size wr w'):ny w u v b w':=
 ⟨h.low.trans (a.mono h.low.size),Ae a h.b1 (Ab h.b1),Ae a h.b2 (Ab h.b2),Ae a h.res (Ab h.res),Ae a h.np (Ab h.np)⟩
def ny.set {w wr:World} {u v:V4} {b:ee} (h:ny w u v b wr) (x y:Int):ny w u v (x,y) ((wr.setCell ⟨w.heap.size+3,0,none⟩ (.int .i64 x)).setCell ⟨w.heap.size+3,1,none⟩ (.int .i64 y)):=
 ⟨C9 (C9 h.low (by omega)) (by omega),(Cd _ _ _ _ (fun e=>by simp at e)).trans ((Cd _ _ _ _ (fun e=>by simp at e)).trans h.b1),(Cd _ _ _ _ (fun e=>by simp at e)).trans ((Cd _ _ _ _ (fun e=>by simp at e)).trans h.b2),(Cd _ _ _ _ (fun e=>by simp at e)).trans ((Cd _ _ _ _ (fun e=>by simp at e)).trans h.res),by
  have:=Al (Al h.np 0 (.int .i64 x)) 1 (.int .i64 y)
  simpa using this⟩
structure wu (w:World) (u v:V4) (b p:ee) (pv:Value) (wr:World):Prop where
 dw:ny w u v b wr
 box:∃ g,pv=.pointer (some ⟨g,0,none⟩)/\wr.heap[g]?=some (.cells #[.int .i64 p.1,.int .i64 p.2] 333 (0,0))/\w.heap.size+3<g
def ny.s1 {w wr w1:World} {u v:V4} {b:ee} {a c:Int} (h:ny w u v b wr) (d:Below wr.drew.heap.size wr.drew w1):wu w u v b (a,c) (.pointer (some ⟨w1.heap.size,0,none⟩)) (w1.alloc (.cells #[.int .i64 a,.int .i64 c] 333)):=by
 have h0:=h.next (A8 wr.heap.size wr 1);have h1:=h0.next d;have e:=Ab h1.np;exact ⟨h1.next Bn,_,rfl,Af _ _,e⟩
def ny.s2 {w wr w1:World} {u v:V4} {b:ee} {c d:Int} (h:ny w u v b wr) (g:Below (wr.alloc (.cells #[.int .i64 0,.int .i64 0] 333)).drew.heap.size (wr.alloc (.cells #[.int .i64 0,.int .i64 0] 333)).drew w1) :
  wu w u v b (c,d) (.pointer (some ⟨wr.heap.size,0,none⟩)) ((w1.setCell ⟨wr.heap.size,0,none⟩ (.int .i64 c)).setCell ⟨wr.heap.size,1,none⟩ (.int .i64 d)):=by
 have e:Below wr.heap.size wr (wr.alloc (.cells #[.int .i64 0,.int .i64 0] 333)).drew:=Bn.drew;have f:=e.trans (g.mono (by simp));have i:=Ae g (Af _ _) (by simp);have j:=Ab h.np;have a:Below wr.heap.size wr ((w1.setCell ⟨wr.heap.size,0,none⟩ (.int .i64 c)).setCell ⟨wr.heap.size,1,none⟩ (.int .i64 d)):=C9 (C9 f Ln) Ln;refine ⟨h.next a,_,rfl,?_,j⟩;have:=Al (Al i 0 (.int .i64 c)) 1 (.int .i64 d);simpa using this
def Og (v:V4):Prop:=∀ d,d<4->v.get d<=9223372036854775807
def Wz {u v:V4} (h1:Og u) (c:Og v):∀ d,d<=4->(E4 u v d).1.1<=9223372036854775807/\(E4 u v d).1.2<=9223372036854775807
 | 0,_=>by simp [E4]
 | d+1,hd=>by
  have h:=Wz h1 c d (by omega);have a:=h1 d (by omega);have b:=c d (by omega);unfold E4;split
  .simp only [Eg];omega
  .exact h
def Aun (u v:V4) (w:World) (h1:Og u) (h2:Og v):Calls Tryz.prog 250 #[u.val,v.val] w fun e w'=>e=.returned (.tuple #[Qs (E4 u v 4).1,.int .i64 (E4 u v 4).2])/\Below w.heap.size w w':=by
 obtain ⟨W0,ac⟩:=Ex ((((w.alloc (.cells u.cells 30)).alloc (.cells v.cells 30)).alloc (.cells #[.int .i64 0,.int .i64 0] 333)).alloc (.cells #[.int .i64 0,.int .i64 0] 333));have ad:ny w u v (0,0) W0:=by rw [ac];exact ⟨((Bn.alloc (by simp) _).alloc (by simp;omega) _).alloc (by simp;omega) _,Ai _ (Ai _ (Ai _ (Af _ _))),Ai _ (Ai _ (A2 _ _ (by simp))),Ai _ (A2 _ _ (by simp)),A2 _ _ (by simp)⟩
 replace ⟨ad,h1,h2⟩:=H3 ad h1 h2;go_enter Tryz.func250,Tryz.ntmps250;go_upto_region 2 with fail;rw [<- ac];clear ac;go_wp2_with fail;go_loopw [7,8,9,11] (fun av _ _ iv wr=>∃ (d:Nat),iv=.int .i64 d/\d<=4/\av=.int .i64 (E4 u v d).2/\Hid (ny w u v (E4 u v d).1 wr)) (fun _ _ _ iv _=>4-(intOf iv).toNat)
 case atStart=>exact ⟨0,rfl,by omega,rfl,ad⟩
 case round=>
  obtain ⟨d,rfl,ao,rfl,l⟩:=hrel;obtain ⟨k,b⟩:=Ex ((E4 u v d).1);obtain ⟨at_,j⟩:=Ex ((E4 u v d).2);have f:=Wz h1.out h2.out d ao;rw [<- b] at l f;rw [<- j];by_cases r:d<4
  .have aG:(d:Int)<4:=(by omega);have aH:(0:Int)<=(d:Int):=(by omega);have al:=h1.out d r;have am:=h2.out d r;obtain ⟨x,hx⟩:=Ex (u.get d);obtain ⟨y,hy⟩:=Ex (v.get d);have u0:=hx▸Ug l.out.b1 r;have v0:=hy▸Ug l.out.b2 r;have s:E4 u v (d+1)=if d=0\/0<F2 (Eg (x,y)) k then (Eg (x,y),(d:Int)) else (k,at_):=(by rw [hx,hy,b,j];rfl);rw [<- hx] at al;rw [<- hy] at am;have kp:=fun W=>Z2 (x,y) W;obtain ⟨⟨m,n⟩,hp⟩:∃ p,p=Eg (x,y):=⟨_,rfl⟩;rw [<- hp] at kp s;replace kp:∀ W,Calls Tryz.prog 293 #[.agg #[.int .i64 x,.int .i64 y]] W fun e w'=>e=.returned (.agg #[.int .i64 m,.int .i64 n])/\Below W.heap.size W w':=kp;have t:m<=9223372036854775807/\n<=9223372036854775807:=(by have:=hp;simp only [Eg,Pu] at this;omega);obtain ⟨o,q⟩:=k;replace ⟨b,j,f,al,am,hx,hy,s⟩:=H8 b j f al am hx hy s;replace ⟨hp,t,kp⟩:=H3 hp t kp;go_upto_region 5 with fail;have ap:=Ab l.out.b1;have aA:=Ab l.out.b2;go_cut [9] (fun pv wx=>wu w u v (o,q) (m,n) pv wx)
   case first=>
    go_region_law (first
     | (go_simp;go_at_call 293;refine (kp.out _).mono ?_;rintro e w1 ⟨rfl,a⟩;have s2:=a.size;obtain ⟨aB,aC⟩:=R5 a
        (try simp at s2)
        (try simp at aB)
        (try simp at aC)
        (try have aI:wr.heap.size<w1.heap.size:=by omega)
        replace a:=Hh a))
    all_goals
     go_wp2_with fail;go_meet
     first
      | exact l.out.s1 a.out
      | exact l.out.s2 a.out
   case rest=>
    obtain ⟨i,g,rfl,hg,an⟩:=hcut;have d0:=Bk hg 0 (.int .i64 m) rfl;have d1:=Bk hg 1 (.int .i64 n) rfl;have e0:=Bk i.np 0 (.int .i64 o) rfl;have e1:=Bk i.np 1 (.int .i64 q) rfl;have fe:=Ah i.np;have kc:∀ W,Calls Tryz.prog 251 #[.agg #[.int .i64 m,.int .i64 n],.agg #[.int .i64 o,.int .i64 q]] W fun e w'=>e=.returned (.int .i64 (F2 (m,n) (o,q)))/\Below W.heap.size W w':=fun W=>Af5 (m,n) (o,q) W t.out.1 t.out.2 f.out.1 f.out.2;obtain ⟨cv,z⟩:=Ex (F2 (m,n) (o,q));rw [<- z] at kc;have h:E4 u v (d+1)=if d=0\/0<cv then ((m,n),(d:Int)) else ((o,q),at_):=(by rw [s.out,z]);clear u0 v0 ap aA;replace ⟨i,hg,an,kc,z,h⟩:=H6 i hg an kc z h;by_cases aD:d=0
    .subst aD;have c:E4 u v 1=((m,n),(0:Int)):=(by rw [h.out,Ad (.inl rfl)];rfl);replace c:=Hh c;go_wp2_with fail;go_roundw
     case rel=>exact ⟨1,rfl,by omega,by rw [c.out];rfl,Hh (by rw [c.out];exact i.out.set m n)⟩
     case measure=>simp [intOf]
    .have aJ:((d:Int) == 0)=false:=(by simp;omega);have aK:¬ (d:Int)=0:=(by omega);by_cases aE:0<cv
     .have c:E4 u v (d+1)=((m,n),(d:Int)):=(by rw [h.out,Ad (.inr aE)]);replace c:=Hh c;go_wp2_with (go_at_call 251;(with_reducible refine (kc.out _).mono ?_);rintro e w1 ⟨rfl,a⟩;have d0:=(Ag a (Ab hg.out)).trans d0;have d1:=(Ag a (Ab hg.out)).trans d1;have e0:=(Ag a (Ab i.out.np)).trans e0;have e1:=(Ag a (Ab i.out.np)).trans e1;have fe:=Ah (Ae a i.out.np (Ab i.out.np));replace i:=Hh (i.out.next a);replace a:=Hh a);go_roundw
      case rel=>exact ⟨d+1,by go_num,by omega,by rw [c.out],Hh (by rw [c.out];exact i.out.set m n)⟩
      case measure=>simp [intOf];omega
     .have c:E4 u v (d+1)=((o,q),at_):=(by rw [h.out,Ac (by omega)]);replace c:=Hh c;go_wp2_with (go_at_call 251;(with_reducible refine (kc.out _).mono ?_);rintro e w1 ⟨rfl,a⟩;replace i:=Hh (i.out.next a);replace a:=Hh a);go_roundw
      case rel=>exact ⟨d+1,by go_num,by omega,by rw [c.out],Hh (by rw [c.out];exact i.out)⟩
      case measure=>simp [intOf];omega
  .have aF:d=4:=(by omega);subst aF;obtain ⟨o,q⟩:=k;have u0:=Bk l.out.np 0 (.int .i64 o) rfl;have u1:=Bk l.out.np 1 (.int .i64 q) rfl;have r0:=Bk l.out.res 0 (.int .i64 0) rfl;have r1:=Bk l.out.res 1 (.int .i64 0) rfl;have fr:=Ah l.out.res;replace ⟨b,j,f⟩:=H3 b j f;go_wp2;refine Ao (v:=.tuple #[.agg #[.int .i64 o,.int .i64 q],.int .i64 at_]) (by simp [results,Tryz.results250,go_sem,r0,r1]) rfl ⟨by rw [<- b.out,<- j.out],?_⟩;exact C9 (C9 l.out.low (by omega)) (by omega)
end Go.Proofs.YtimlcnhcjndijaaGreatDoor
