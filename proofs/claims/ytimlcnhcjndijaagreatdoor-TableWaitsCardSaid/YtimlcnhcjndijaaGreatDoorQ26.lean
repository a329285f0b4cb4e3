/- Parts PlEach, PlCount, PlGtake, PlSoon, PlFind, PlTaken, PlEarlp, PlGin, PlGpl, PlGtkp, PlNewg. Plain theorems: no condition. -/
import Derived.Test.YtimlcnhcjndijaaGreatDoorQ25
set_option linter.all false
set_option maxRecDepth 100000
set_option maxHeartbeats 3200000
namespace Go.Proofs.YtimlcnhcjndijaaGreatDoor.Pl
open Go.RowKit
def U7 {P:Program} {t e:TypeId} {i:TypeInfo} (d:P.underlying t=some (.slice e)) (f:P.info? e=some i) (b:Addr) (a cap n:Nat) (x:Int) (g:x=n) (j:n<=cap) (w:World) :
  (Instr.slice t (.slice (some b) a cap) none (some (.int .i64 x)) none).run P w=.ok (.slice (some b) n cap) w:=by
 subst g
 have h1:∀ (y:Nat) (_:n<=y) c,(Instr.sliceBound (.int .i64 (n:Int)) y c).run P w=.ok n w:=fun y h c=>by
  simp [Instr.sliceBound,asIntOf,h]
 simp [Instr.slice,Instr.sliceBounds,Mv d,h1 cap j,sizeOf,typeInfo,f,Addr.add]
def R7 (R:V4->List St->Int->List St->Prop) (F:FuncId) (f1 f2 f3:Nat) (C:World->Prop):Prop:=
 ∀ pb sb cap whole l w1,Cg w1 pb sb cap whole l->Inv whole l->C w1 ->
  Calls Tryz.prog F #[.pointer (some ⟨pb,0,none⟩),.pointer (some ⟨f1,0,none⟩),.pointer (some ⟨f2,0,none⟩),.pointer (some ⟨f3,0,none⟩)] w1 (Zb pb sb whole (fun r l'=>R whole l r l'/\Inv whole l') w1)
structure gi (w:World) (ps q:List Nd):Prop where
 len:q.length=ps.length
 pb:∀ i,i<ps.length->(nd q i).pb=(nd ps i).pb
 whole:∀ i,i<ps.length->(nd q i).whole=(nd ps i).whole
 sb:∀ i,i<ps.length->(nd q i).sb=(nd ps i).sb\/w.heap.size<=(nd q i).sb
def gi.refl (w:World) (a:List Nd):gi w a a:=⟨rfl,fun _ _=>rfl,fun _ _=>rfl,fun _ _=>.inl rfl⟩
def gi.ek {w:World} {c q:List Nd} (h:gi w c q) {b:Nat} (d:Bc q b):Bc c b\/w.heap.size<=b:=by
 obtain ⟨i,a,e⟩:=d;rw [h.len] at a;rcases e with e | e
 .exact .inl ⟨i,a,.inl (e.trans (h.pb i a))⟩
 .rcases h.sb i a with h1 | h1
  .exact .inl ⟨i,a,.inr (e.trans h1)⟩
  .exact .inr (by omega)
def Aep {w wr k:World} {o p cap:Nat} {po:Option Addr} {h q:List Nd} {i d g:Nat} {m:List St} (f:gi w h q) (u:B4 wr o p po cap q) (r:Mod (Bc h) w wr) (v:i<h.length)
  (x:Cg k (nd q i).pb d g (nd q i).whole m) (y:Inv (nd q i).whole m) (s:d=(nd q i).sb\/wr.heap.size<=d) (t:Mod (fun b=>b=(nd q i).pb\/b=(nd q i).sb) wr k) :
  ∃ n,B4 k o p po cap n/\gi w h n/\Mod (Bc h) w k/\(nd n i).l=m/\∀ j,j≠i->(nd n j).l=(nd q j).l:=by
 have a:i<q.length:=by rw [f.len];exact v
 refine ⟨q.set i ⟨(nd q i).pb,d,g,(nd q i).whole,m⟩,u.lg a x y s t,⟨by rw [Dg];exact f.len,?_,?_,?_⟩,?_,?_,?_⟩
 .intro j c;rw [Md _ a];split
  .rename_i e;subst e;exact f.pb j c
  .exact f.pb j c
 .intro j c;rw [Md _ a];split
  .rename_i e;subst e;exact f.whole j c
  .exact f.whole j c
 .intro j c;rw [Md _ a];split
  .rename_i e;subst e;rcases s with e | e
   .rw [e];exact f.sb j c
   .exact .inr (A6 r.size e)
  .exact f.sb j c
 .refine r.trans (t.mono fun b _ z=>?_);exact f.ek ⟨i,a,z⟩
 .rw [Md _ a,Ad rfl]
 .intro j c;rw [Md _ a,Ac c]
def Bv (zs:List Int) (k i:Nat):Prop:=∃ j,j<k/\zi zs j=(i:Int)
def Zi (R U:V4->List St->Int->List St->Prop) (ps:List Nd) (zs:List Int) (r:Int) (ps':List Nd):Prop:=
 (¬ D8 ps.length zs/\r=1/\ps'=ps) \/
 (D8 ps.length zs/\r=0/\∀ i,i<ps.length->(Bv zs zs.length i->R (nd ps i).whole (nd ps i).l 0 (nd ps' i).l)/\(¬ Bv zs zs.length i->(nd ps' i).l=(nd ps i).l)) \/
 (D8 ps.length zs/\r≠0/\∃ k c:Nat,k<zs.length/\zi zs k=(c:Int)/\c<ps.length/\R (nd ps c).whole (nd ps c).l r (nd ps' c).l /\
   ∀ i,i<ps.length->(Bv zs k i->∃ m r2,R (nd ps i).whole (nd ps i).l 0 m/\Inv (nd ps i).whole m/\U (nd ps i).whole m r2 (nd ps' i).l)/\(¬ Bv zs k i->i≠c->(nd ps' i).l=(nd ps i).l))
def Apq (R U:V4->List St->Int->List St->Prop) (gb gs cap:Nat) (po:Option Addr) (ps:List Nd) (zs:List Int) (w:World) (e:Ending) (w':World):Prop:=
 ∃ r ps',e=.returned (.int .i64 r)/\Zi R U ps zs r ps'/\B4 w' gb gs po cap ps'/\gi w ps ps'/\Mod (Bc ps) w w'
def N7 {zs:List Int} {k i:Nat}:Bv zs (k+1) i↔Bv zs k i\/zi zs k=(i:Int):=by
 constructor
 .rintro ⟨j,a,e⟩;by_cases h:j=k
  .subst h;exact .inr e
  .exact .inl ⟨j,by omega,e⟩
 .rintro (⟨j,a,e⟩ | e)
  .exact ⟨j,by omega,e⟩
  .exact ⟨k,by omega,e⟩
def Apr {n:Nat} {zs:List Int} (h:D8 n zs) {i j:Nat} (a:i<j) (b:j<zs.length):zi zs i<zi zs j:=by
 induction j with
 | zero=>omega
 | succ m ih=>
  have:=h.bh m b;by_cases e:i=m
  .subst e;exact this
  .exact Int.lt_trans (ih (by omega) (by omega)) this
def Zj {n:Nat} {zs:List Int} (h:D8 n zs) {k i:Nat} (a:k<zs.length) (e:zi zs k=(i:Int)):¬ Bv zs k i:=by
 rintro ⟨j,b,c⟩;have:=Apr h b a;omega
def Aeq (R U:V4->List St->Int->List St->Prop) (F G:FuncId) (f1 f2 f3:Nat) (C:World->Prop) (gb gs cap:Nat) (po:Option Addr) (f:List Nd) (ao:Option Addr) (m c:Nat) (zs:List Int) (w:World)
  (hp:B4 w gb gs po cap f) (hz:∀ w',Mod (Bc f) w w'->Ap w' ao m zs) (bg:m<=c) (hC:∀ w',Mod (Bc f) w w'->C w')
  (hF:∀ args w,(callFunc F args).run Tryz.prog w=.ok (.enter F args) w) (hG:∀ args w,(callFunc G args).run Tryz.prog w=.ok (.enter G args) w) (HR:R7 R F f1 f2 f3 C) (HU:R7 U G f1 f2 f3 C) :
  Calls Tryz.prog 244 #[.pointer (some ⟨gb,0,none⟩),.slice ao m c,.func (.func F) #[] #[.pointer (some ⟨f1,0,none⟩),.pointer (some ⟨f2,0,none⟩),.pointer (some ⟨f3,0,none⟩)],
   .func (.func G) #[] #[.pointer (some ⟨f1,0,none⟩),.pointer (some ⟨f2,0,none⟩),.pointer (some ⟨f3,0,none⟩)]] w (Apq R U gb gs cap po f zs w):=by
 obtain ⟨i3,a5,_,_,_⟩:=C0 M0;have av:=hz w (Mod.refl _ _);have aF:=av.len;have bb:=av.max;obtain ⟨n,hn⟩:=Ex (f.length);have v:=App gb gs cap po f ao m c zs w hp av;replace ⟨v,hp,hz,av,hC,HR,HU,aF⟩:=H8 v hp hz av hC HR HU aF;replace hn:=Hh hn;go_enter Tryz.func244,Tryz.ntmps244;go_wp2_with fail;refine v.out.mono ?_;rintro e w1 ⟨b,rfl,hb,am⟩;replace am:=Hh am;cases b
 .have aL:¬ D8 f.length zs:=fun h=>by have:=hb.2 h;simp at this
  replace ⟨aL,hb⟩:=H2 aL hb;go_wp2;go_ret;exact ⟨1,f,rfl,.inl ⟨aL.out,rfl,rfl⟩,hp.out.below am.out,gi.refl _ _,Mod.af am.out⟩
 have x:=hb.1 rfl;have aM:0<f.length:=by have h1:=x.low 0 x.pos;have h2:=x.high 0 x.pos;omega
 have a6:=hp.out.addr aM;subst a6;replace ⟨x,hb,aM⟩:=H3 x hb aM;go_wp2
 go_loopw [9,10,11,20] (fun _ _ _ i wr=>∃ (k:Nat) (q:List Nd),i=.int .i64 k/\k<=m/\Hid (B4 wr gb gs (some ⟨gs,0,none⟩) cap q)/\Hid (gi w f q)/\Hid (Mod (Bc f) w wr) /\
  Hid (∀ i,i<f.length->(Bv zs k i->R (nd f i).whole (nd f i).l 0 (nd q i).l)/\(¬ Bv zs k i->(nd q i).l=(nd f i).l))) (fun _ _ _ i _=>m-(intOf i).toNat)
 case atStart=>exact ⟨0,f,rfl,Av _,hp.out.below am.out,gi.refl _ _,Mod.af am.out,fun i y=>⟨fun h=>by obtain ⟨j,hj,_⟩:=h;omega,fun _=>rfl⟩⟩
 case round=>
  obtain ⟨k,q,rfl,hk,hP,hK,hM,hD⟩:=hrel;by_cases hc:k<m
  .have a7:(k:Int)<m:=(by omega);have bi:(0:Int)<=(k:Int):=(by omega);have o:k<zs.length:=(by rw [aF.out];exact hc);obtain ⟨b,a8,aN,bc,b0⟩:=(hz.out wr hM.out).cell k hc;subst aN;obtain ⟨u,p⟩:∃ u:Nat,zi zs k=(u:Int):=⟨(zi zs k).toNat,by have:=x.out.low k o;omega⟩;have a1:u<n:=(by have:=x.out.high k o;rw [hn.out];omega);have a:u<f.length:=(by rw [<- hn.out];exact a1);rw [p] at b0;have bk:(u:Int)<n:=(by omega);have bl:(0:Int)<=(u:Int):=(by omega);have hh:=hP.out.head;rw [hK.out.len,<- hn.out] at hh;have c0:=Aa hh 0;simp at c0;have p0:=hP.out.ptr u (by rw [hK.out.len];exact a);have z:=hP.out.el u (by rw [hK.out.len];exact a);have aA:=hP.out.inv u (by rw [hK.out.len];exact a);have hd:=HR.out _ _ _ _ _ _ z aA (hC.out wr hM.out);replace ⟨hd,hh,z,aA,p,o,a⟩:=H7 hd hh z aA p o a;go_wp2_with fail
   (with_reducible refine hd.out.mono ?_)
   rintro e w2 ⟨r,bn,bd,l',rfl,⟨hR,hI⟩,aO,aP,aQ⟩;obtain ⟨q2,aB,s,aG,e1,e2⟩:=Aep hK.out hP.out hM.out a.out aO hI aP aQ;have t:=((hD.out u a.out).2 (Zj x.out o.out p.out));have aC:=hK.out.whole u a.out;rw [t,aC] at hR;rw [<- e1] at hR;clear e1 t aC c0 p0 b0;replace ⟨hR,hI,aO,aP,aQ,aB,s,aG⟩:=H8 hR hI aO aP aQ aB s aG;replace e2:=Hh e2;by_cases hr:r=0
   .subst hr;go_wp2;go_roundw
    case rel=>
     refine ⟨k+1,q2,by go_num,by omega,aB.out,s.out,aG.out,fun i y=>⟨fun h=>?_,fun h=>?_⟩⟩
     .by_cases e:i=u
      .subst e;exact hR.out
      .rw [e2.out i e];rcases N7.1 h with h | h
       .exact (hD.out i y).1 h
       .rw [p.out] at h;exact absurd (by omega) e
     .have ac:i≠u:=fun e=>h (N7.2 (.inr (by rw [e];exact p.out)));rw [e2.out i ac];exact (hD.out i y).2 fun h2=>h (N7.2 (.inl h2))
    case measure=>simp [intOf];omega
   .have dr:(r == 0)=false:=(by simpa using hr);have bs:=fun w=>U7 (P:=Tryz.prog) Nm a5 ⟨b,a8,none⟩ m c k (k:Int) rfl (by omega) w;replace hr:=Hh hr;go_wp2
    go_loopw [13,40] (fun _ i wx=>∃ (j:Nat) (q3:List Nd),i=.int .i64 j/\j<=k/\Hid (B4 wx gb gs (some ⟨gs,0,none⟩) cap q3)/\Hid (gi w f q3)/\Hid (Mod (Bc f) w wx) /\
     Hid (∀ i,i<f.length->(Bv zs j i->∃ r2,U (nd q2 i).whole (nd q2 i).l r2 (nd q3 i).l)/\(¬ Bv zs j i->(nd q3 i).l=(nd q2 i).l))) (fun _ i _=>k-(intOf i).toNat)
    case atStart=>exact ⟨0,q2,rfl,Av _,aB.out,s.out,aG.out,fun i y=>⟨fun h=>by obtain ⟨j,hj,_⟩:=h;omega,fun _=>rfl⟩⟩
    case round=>
     obtain ⟨j,q3,rfl,hj,an,ad,aH,aI⟩:=hrel;by_cases bv:j<k
     .have a9:(j:Int)<k:=(by omega);have bw:(0:Int)<=(j:Int):=(by omega);have aD:j<zs.length:=(by have:=o.out;omega);obtain ⟨b',be,aN,ba,b0⟩:=(hz.out wr aH.out).cell j (by omega);cases aN;obtain ⟨jx,ap⟩:∃ jx:Nat,zi zs j=(jx:Int):=⟨(zi zs j).toNat,by have:=x.out.low j aD;omega⟩;have a2:jx<n:=(by have:=x.out.high j aD;rw [hn.out];omega);have d:jx<f.length:=(by rw [<- hn.out];exact a2);rw [ap] at b0;have bx:(jx:Int)<n:=(by omega);have bA:(0:Int)<=(jx:Int):=(by omega);have aJ:=an.out.head;rw [ad.out.len,<- hn.out] at aJ;have c0:=Aa aJ 0;simp at c0;have p0:=an.out.ptr jx (by rw [ad.out.len];exact d);have g:=an.out.el jx (by rw [ad.out.len];exact d);have al:=an.out.inv jx (by rw [ad.out.len];exact d);have aR:=HU.out _ _ _ _ _ _ g al (hC.out wr aH.out);replace ⟨aR,aJ,g,al,ap,aD,d⟩:=H7 aR aJ g al ap aD d;go_wp2_with fail
      (with_reducible refine aR.out.mono ?_)
      rintro e w4 ⟨r4,bB,bf,l4,rfl,⟨aE,aS⟩,aT,aU,aV⟩;obtain ⟨q4,aW,aX,aY,e3,e4⟩:=Aep ad.out an.out aH.out d.out aT aS aU aV;have t:=((aI.out jx d.out).2 (Zj x.out aD.out ap.out));have aC:=(ad.out.whole jx d.out).trans (s.out.whole jx d.out).symm;rw [t,aC] at aE;rw [<- e3] at aE;clear e3 t aC c0 p0 b0;replace ⟨aE,aS,aT,aU,aV,aW,aX,aY⟩:=H8 aE aS aT aU aV aW aX aY;replace e4:=Hh e4;go_wp2;go_roundw
      case rel=>
       refine ⟨j+1,q4,by go_num,by omega,aW.out,aX.out,aY.out,fun i y=>⟨fun h=>?_,fun h=>?_⟩⟩
       .by_cases e:i=jx
        .subst e;exact ⟨r4,aE.out⟩
        .rw [e4.out i e];rcases N7.1 h with h | h
         .exact (aI.out i y).1 h
         .rw [ap.out] at h;exact absurd (by omega) e
       .have ac:i≠jx:=fun e=>h (N7.2 (.inr (by rw [e];exact ap.out)));rw [e4.out i ac];exact (aI.out i y).2 fun h2=>h (N7.2 (.inl h2))
      case measure=>simp [intOf];omega
     .have a9:¬ (j:Int)<k:=(by omega);have aZ:j=k:=(by omega);replace aZ:=Hh aZ;go_wp2;go_ret;have aK:=aI.out;rw [aZ.out] at aK;have a3:=Zj x.out o.out p.out;refine ⟨r,q3,rfl,.inr (.inr ⟨x.out,hr.out,k,u,o.out,p.out,a.out,?_,fun i y=>⟨fun h=>?_,fun h ac=>?_⟩⟩),an.out,ad.out,aH.out⟩
      .rw [(aK u a.out).2 a3];exact hR.out
      .have ac:i≠u:=fun e=>a3 (e▸h);obtain ⟨r2,hu⟩:=(aK i y).1 h;rw [s.out.whole i y] at hu;refine ⟨(nd q2 i).l,r2,?_,?_,hu⟩
       .rw [e2.out i ac];exact (hD.out i y).1 h
       .have:=aB.out.inv i (by rw [s.out.len];exact y);rw [s.out.whole i y] at this;exact this
      .rw [(aK i y).2 h,e2.out i ac];exact (hD.out i y).2 h
  .have a7:¬ (k:Int)<m:=(by omega);have a0:k=zs.length:=(by rw [aF.out];omega);replace a0:=Hh a0;go_wp2;go_ret;have a4:=hD.out;rw [a0.out] at a4;exact ⟨0,q,rfl,.inr (.inl ⟨x.out,rfl,a4⟩),hP.out,hK.out,hM.out⟩
def bits (f:Nat->Bool):Array Value:=#[.bool (f 0),.bool (f 1),.bool (f 2),.bool (f 3),.bool (f 4),.bool (f 5),.bool (f 6),.bool (f 7),.bool (f 8),.bool (f 9),.bool (f 10),.bool (f 11),.bool (f 12),.bool (f 13),.bool (f 14),.bool (f 15)]
def Aer {i:Nat} (h:i<16):i=0\/i=1\/i=2\/i=3\/i=4\/i=5\/i=6\/i=7\/i=8\/i=9\/i=10\/i=11\/i=12\/i=13\/i=14\/i=15:=by omega
def Aes (f:Nat->Bool) {i:Nat} (h:i<16):(bits f)[i]?=some (.bool (f i)):=by
 rcases Aer h with rfl | rfl | rfl | rfl | rfl | rfl | rfl | rfl | rfl | rfl | rfl | rfl | rfl | rfl | rfl | rfl<;>rfl
def Aps (f:Nat->Bool) {i:Nat} (h:i<16):(bits f).setIfInBounds i (.bool true)=bits fun j=>if j=i then true else f j:=by
 rcases Aer h with rfl | rfl | rfl | rfl | rfl | rfl | rfl | rfl | rfl | rfl | rfl | rfl | rfl | rfl | rfl | rfl<;>rfl
def Tq:(Tryz.prog.info? 364).map (·.size)=some 16:=by kernel_rfl
def Apt (f:Nat->Bool) (k:Nat) (a:k<16) (w:World):(Instr.index 364 (.agg (bits f)) (.int .i64 (k:Int))).run Tryz.prog w=.ok (.bool (f k)) w:=by
 have h1:(0:Int)<=(k:Int)/\(k:Int)<16:=by omega
 simp [Instr.index,asIntOf,Mv Uz,part,h1,a,Aes f a]
def Aet {B b:Nat} {a w:World} (h:Below B a w) (d:B<=b) (cs:Array Value):Below B a (w.setRow b cs):=
 ⟨h.os,h.tape,h.output,by simpa using h.size,fun k c=>(setRow_other w b k cs (by omega)).trans (h.block k c)⟩
def Apu (n:Nat) (zs:List Int) (w:World) (e:Ending) (w':World):Prop:=
 ∃ f:Nat->Bool,e=.returned (.agg (bits f))/\(∀ i,f i=true↔i<n/\Bv zs zs.length i)/\Below w.heap.size w w'
def Zk:(#[.bool false,.bool false,.bool false,.bool false,.bool false,.bool false,.bool false,.bool false,.bool false,.bool false,.bool false,.bool false,.bool false,.bool false,.bool false,.bool false]:Array Value)=bits fun _=>false:=rfl
def Apv (gb gs cap:Nat) (po:Option Addr) (ps:List Nd) (ao:Option Addr) (m c:Nat) (zs:List Int) (w:World) (hp:B4 w gb gs po cap ps) (hz:Ap w ao m zs) :
  Calls Tryz.prog 285 #[.pointer (some ⟨gb,0,none⟩),.slice ao m c] w (Apu ps.length zs w):=by
 obtain ⟨n,hn⟩:=Ex (ps.length);have hh:=hp.head;have al:=hp.l6;rw [<- hn] at hh al;have c0:=Aa hh 0;simp at c0;have ap:=Ab hh;rw [<- hn];clear hp hh hn;have q:=hz.len;have aA:=hz.max;replace ⟨hz,q⟩:=H2 hz q;go_enter Tryz.func285,Tryz.ntmps285;go_wp2;go_loopw [7,10] (fun _ i wr=>∃ (k:Nat) (f:Nat->Bool),i=.int .i64 k/\k<=m/\Hid (∀ i,f i=true↔i<n/\Bv zs k i)/\Hid (wr.heap[w.heap.size+1]?=some (.cells (bits f) 364 (0,0)))/\Hid (wr.heap[w.heap.size]?=some (.cells (bits fun _=>false) 364 (0,0)))/\Hid (Below w.heap.size w wr)) (fun _ i _=>m-(intOf i).toNat)
 case atStart=>
  refine ⟨0,fun _=>false,rfl,Av _,fun i=>⟨fun h=>by simp at h,fun h=>by obtain ⟨_,j,hj,_⟩:=h;omega⟩,?_,?_,Bn.alloc (by simp) _⟩
  .rw [<- Zk];exact A2 _ _ (by simp)
  .rw [<- Zk];exact Ai _ (Af _ _)
 case round=>
  obtain ⟨k,f,rfl,hk,hf,l,r,p⟩:=hrel;have g0:=(Ag (o:=0) p.out ap).trans c0;by_cases hc:k<m
  .have av:(k:Int)<m:=(by omega);have aC:(0:Int)<=(k:Int):=(by omega);obtain ⟨b,aD,rfl,hb,a0⟩:=hz.out.cell k hc;have b0:=(Ag p.out hb).trans a0;clear a0;obtain ⟨x,hx⟩:=Ex (zi zs k);rw [<- hx] at b0;replace hx:=Hh hx;by_cases u:0<=x;rotate_left
   .have d1:decide (0<=x)=false:=by simpa using u
    have a:∀ i,f i=true↔i<n/\Bv zs (k+1) i:=fun i=>by
     rw [hf.out i,N7,<- hx.out];constructor
     .exact fun h=>⟨h.1,.inl h.2⟩
     .rintro ⟨h1,y | y⟩
      .exact ⟨h1,y⟩
      .omega
    replace ⟨u,a⟩:=H2 u a;go_wp2;go_roundw
    case rel=>exact ⟨k+1,f,by go_num,by omega,a.out,l.out,r.out,p.out⟩
    case measure=>simp [intOf];omega
   have d1:decide (0<=x)=true:=(by simpa using u);by_cases z:x<n;rotate_left
   .have d2:decide (x<(n:Int))=false:=by simpa using z
    have a:∀ i,f i=true↔i<n/\Bv zs (k+1) i:=fun i=>by
     rw [hf.out i,N7,<- hx.out];constructor
     .exact fun h=>⟨h.1,.inl h.2⟩
     .rintro ⟨h1,y | y⟩
      .exact ⟨h1,y⟩
      .omega
    replace ⟨u,z,a⟩:=H3 u z a;go_wp2;go_roundw
    case rel=>exact ⟨k+1,f,by go_num,by omega,a.out,l.out,r.out,p.out⟩
    case measure=>simp [intOf];omega
   obtain ⟨t,rfl⟩:∃ t:Nat,x=(t:Int):=⟨x.toNat,by omega⟩;have d2:decide ((t:Int)<(n:Int))=true:=(by simpa using z);have aE:=z;have aB:(t:Int)<16:=(by omega);have am:t<16:=(by omega);have cc:=Aa l.out t;rw [Aes f am] at cc;have ff:=Ah l.out t
   have d:∀ i,(fun j=>if j=t then true else f j) i=true↔i<n/\Bv zs (k+1) i:=fun i=>by
    simp only;rw [N7,<- hx.out];by_cases e:i=t
    .subst e;rw [Ad rfl];exact ⟨fun _=>⟨by omega,.inr rfl⟩,fun _=>rfl⟩
    .rw [Ac e,hf.out i];constructor
     .exact fun h=>⟨h.1,.inl h.2⟩
     .rintro ⟨h1,y | y⟩
      .exact ⟨h1,y⟩
      .omega
   replace ⟨u,z,d⟩:=H3 u z d;go_wp2;go_roundw
   case rel=>
    refine ⟨k+1,_,by go_num,by omega,d.out,?_,Dh (by omega) _ r.out,p.out.setCell (by simp) _⟩;show _=_;rw [Al l.out,Aps f am]
   case measure=>simp [intOf];omega
  .have av:¬ (k:Int)<m:=(by omega);have ac:k=zs.length:=(by rw [q.out];omega);have an:(bits f).all (·.oneCell')=true:=(by simp [bits,Value.oneCell']);have s:=Dp wr w.heap.size _ (bits f) 364 (0,0) r.out;have ad:=Aet p.out Ln (bits f);have g:=hf.out;rw [ac] at g;replace ⟨ac,g,s,ad⟩:=H4 ac g s ad;go_wp2_with (first | (refine wpList_load_row rfl 364 _ rfl (w.heap.size+1) rfl 364 (bits f) (0,0) _ l.out Uz rfl Tq ?_) | (refine Df rfl 364 _ _ rfl w.heap.size (bits f) rfl rfl 364 _ r.out Tq rfl an ?_));refine Ao (v:=.agg (bits f)) ?_ rfl ?_
   .exact results_cell_row rfl _ _ w.heap.size 364 (bits f) (0,0) _ rfl s.out Uz rfl Tq
   .exact ⟨f,rfl,g.out,ad.out⟩
def Apw {whole:V4} {l m c:List St} {fr d r:Int} {v:V4} (e:Inv whole l) (b:Inv whole c) (p:Qh l fr d v 0 m) (q:Qi whole m fr d v r c):c=l:=by
 rcases p with ⟨_,h,_⟩ | ⟨_,_,h,_⟩ | ⟨i,j,_,k⟩
 .exact absurd h (by decide)
 .exact absurd h (by decide)
 obtain ⟨s,t,x,y⟩:=Mb i
 have a:∀ u,fr<=u->u<d->A3 (val m u) v=val l u:=fun u h1 f=>by
  rw [k u (by omega) (by omega),Ad ⟨h1,f⟩];simp only [A3,Nb,Int.sub_add_cancel]
 rcases q with ⟨h,_⟩ | ⟨_,h,_⟩ | ⟨_,_,_,g⟩
 .rw [i] at h;cases h
 .exact absurd (fun u h1 f=>by rw [a u h1 f];exact Ld.1 (e.free u (by omega) (by omega)).2) h
 .refine Zf b.loose e.loose b.gd e.gd fun u n o=>?_;rw [g u n o];split
  .rename_i h;exact a u h.1 h.2
  .rename_i h;rw [k u n o,Ac h]
def Apx {whole:V4} {l m c:List St} {fr d r:Int} {v:V4} (e:Inv whole l) (b:Inv whole c) (p:Qi whole l fr d v 0 m) (q:Qh m fr d v r c):c=l:=by
 rcases p with ⟨_,h,_⟩ | ⟨_,_,h,_⟩ | ⟨j,k,_,f⟩
 .exact absurd h (by decide)
 .exact absurd h (by decide)
 obtain ⟨s,t,x,y⟩:=Mb j
 have a:∀ u,fr<=u->u<d->Nb (val m u) v=val l u:=fun u h1 g=>by
  rw [f u (by omega) (by omega),Ad ⟨h1,g⟩];simp only [A3,Nb,Int.add_sub_cancel]
 rcases q with ⟨h,_⟩ | ⟨_,h,_⟩ | ⟨_,_,_,i⟩
 .rw [j] at h;cases h
 .refine absurd (fun u h1 g=>?_) h;rw [f u (by omega) (by omega),Ad ⟨h1,g⟩];have:=E9.1 (e.free u (by omega) (by omega)).1
  refine ⟨?_,?_,?_,?_⟩<;>simp only [A3]<;>omega
 .refine Zf b.loose e.loose b.gd e.gd fun u n o=>?_;rw [i u n o];split
  .rename_i h;exact a u h.1 h.2
  .rename_i h;rw [f u n o,Ac h]
def N8 (ps ps':List Nd):Prop:=∀ i,i<ps.length->(nd ps' i).l=(nd ps i).l
def Le (ps:List Nd) (zs:List Int) (fr tt:Int) (v:V4) (r:Int) (ps':List Nd):Prop:=
 (¬ (D8 ps.length zs/\Bj fr tt v=true)/\r=1/\N8 ps ps') \/
 (D8 ps.length zs/\Bj fr tt v=true/\¬ (∀ i,i<ps.length->Bv zs zs.length i->∀ u,fr<=u->u<tt->v.leq (val (nd ps i).l u))/\r=60/\N8 ps ps') \/
 (D8 ps.length zs/\Bj fr tt v=true/\(∀ i,i<ps.length->Bv zs zs.length i->∀ u,fr<=u->u<tt->v.leq (val (nd ps i).l u))/\r=0 /\
   ∀ i,i<ps.length->(Bv zs zs.length i->∀ u,0<=u->u<1099511627776->val (nd ps' i).l u=if fr<=u/\u<tt then Nb (val (nd ps i).l u) v else val (nd ps i).l u)/\(¬ Bv zs zs.length i->(nd ps' i).l=(nd ps i).l))
def V6 (ps:List Nd) (zs:List Int) (fr tt:Int) (v:V4) (r:Int) (ps':List Nd):Prop:=
 (¬ (D8 ps.length zs/\Bj fr tt v=true)/\r=1/\N8 ps ps') \/
 (D8 ps.length zs/\Bj fr tt v=true/\¬ (∀ i,i<ps.length->Bv zs zs.length i->∀ u,fr<=u->u<tt->(A3 (val (nd ps i).l u) v).leq (nd ps i).whole)/\r=61/\N8 ps ps') \/
 (D8 ps.length zs/\Bj fr tt v=true/\(∀ i,i<ps.length->Bv zs zs.length i->∀ u,fr<=u->u<tt->(A3 (val (nd ps i).l u) v).leq (nd ps i).whole)/\r=0 /\
   ∀ i,i<ps.length->(Bv zs zs.length i->∀ u,0<=u->u<1099511627776->val (nd ps' i).l u=if fr<=u/\u<tt then A3 (val (nd ps i).l u) v else val (nd ps i).l u)/\(¬ Bv zs zs.length i->(nd ps' i).l=(nd ps i).l))
def Aeu {n:Nat} {zs:List Int} (h:D8 n zs):∃ i,i<n/\Bv zs zs.length i:=
 ⟨(zi zs 0).toNat,by have:=h.low 0 h.pos;have:=h.high 0 h.pos;omega,0,h.pos,by have:=h.low 0 h.pos;omega⟩
def Apy {w':World} {gb gs cap:Nat} {po:Option Addr} {d a:List Nd} {zs:List Int} {fr n r:Int} {v:V4} (p:∀ i,i<d.length->Inv (nd d i).whole (nd d i).l)
  (hP:B4 w' gb gs po cap a) (ad:a.length=d.length) (t:∀ i,i<d.length->(nd a i).whole=(nd d i).whole)
  (h:Zi (fun _ l r x=>Qh l fr n v r x) (fun whole l r x=>Qi whole l fr n v r x) d zs r a):Le d zs fr n v r a:=by
 rcases h with ⟨o,rfl,rfl⟩ | ⟨o,rfl,b⟩ | ⟨o,hr,k,c,hk,hc,y,hR,b⟩
 .exact .inl ⟨fun h=>o h.1,rfl,fun _ _=>rfl⟩
 .obtain ⟨i0,h0,h1⟩:=Aeu o
  have ok:∀ i,i<d.length->Bv zs zs.length i->Bj fr n v=true/\(∀ u,fr<=u->u<n->v.leq (val (nd d i).l u))/\∀ u,0<=u->u<1099511627776->val (nd a i).l u=if fr<=u/\u<n then Nb (val (nd d i).l u) v else val (nd d i).l u:=fun i f j=>by
   rcases (b i f).1 j with ⟨_,h,_⟩ | ⟨_,_,h,_⟩ | ⟨q,z,_,hv⟩
   .exact absurd h (by decide)
   .exact absurd h (by decide)
   .exact ⟨q,z,hv⟩
  exact .inr (.inr ⟨o,(ok i0 h0 h1).1,fun i f j=>(ok i f j).2.1,rfl,fun i f=>⟨fun j=>(ok i f j).2.2,(b i f).2⟩⟩)
 .have g:(nd a c).l=(nd d c).l->N8 d a:=fun ac i f=>by
   by_cases e:i=c
   .subst e;exact ac
   .by_cases j:Bv zs k i
    .obtain ⟨m,r2,ht,hm,hu⟩:=(b i f).1 j;have s:=hP.inv i (by omega);rw [t i f] at s;exact Apw (p i f) s ht hu
    .exact (b i f).2 j e
  rcases hR with ⟨q,rfl,hl⟩ | ⟨q,z,rfl,hl⟩ | ⟨_,_,h,_⟩
  .exact .inl ⟨fun h=>by rw [q] at h;exact absurd h.2 (by simp),rfl,g hl⟩
  .exact .inr (.inl ⟨o,q,fun h=>z (h c y ⟨k,hk,hc⟩),rfl,g hl⟩)
  .exact absurd h hr
def Apz {w':World} {gb gs cap:Nat} {po:Option Addr} {d a:List Nd} {zs:List Int} {fr n r:Int} {v:V4} (p:∀ i,i<d.length->Inv (nd d i).whole (nd d i).l)
  (hP:B4 w' gb gs po cap a) (ad:a.length=d.length) (t:∀ i,i<d.length->(nd a i).whole=(nd d i).whole)
  (h:Zi (fun whole l r x=>Qi whole l fr n v r x) (fun _ l r x=>Qh l fr n v r x) d zs r a):V6 d zs fr n v r a:=by
 rcases h with ⟨o,rfl,rfl⟩ | ⟨o,rfl,b⟩ | ⟨o,hr,k,c,hk,hc,y,hR,b⟩
 .exact .inl ⟨fun h=>o h.1,rfl,fun _ _=>rfl⟩
 .obtain ⟨i0,h0,h1⟩:=Aeu o
  have ok:∀ i,i<d.length->Bv zs zs.length i->Bj fr n v=true/\(∀ u,fr<=u->u<n->(A3 (val (nd d i).l u) v).leq (nd d i).whole)/\∀ u,0<=u->u<1099511627776->val (nd a i).l u=if fr<=u/\u<n then A3 (val (nd d i).l u) v else val (nd d i).l u:=fun i f j=>by
   rcases (b i f).1 j with ⟨_,h,_⟩ | ⟨_,_,h,_⟩ | ⟨q,z,_,hv⟩
   .exact absurd h (by decide)
   .exact absurd h (by decide)
   .exact ⟨q,z,hv⟩
  exact .inr (.inr ⟨o,(ok i0 h0 h1).1,fun i f j=>(ok i f j).2.1,rfl,fun i f=>⟨fun j=>(ok i f j).2.2,(b i f).2⟩⟩)
 .have g:(nd a c).l=(nd d c).l->N8 d a:=fun ac i f=>by
   by_cases e:i=c
   .subst e;exact ac
   .by_cases j:Bv zs k i
    .obtain ⟨m,r2,ht,hm,hu⟩:=(b i f).1 j;have s:=hP.inv i (by omega);rw [t i f] at s;exact Apx (p i f) s ht hu
    .exact (b i f).2 j e
  rcases hR with ⟨q,rfl,hl⟩ | ⟨q,z,rfl,hl⟩ | ⟨_,_,h,_⟩
  .exact .inl ⟨fun h=>by rw [q] at h;exact absurd h.2 (by simp),rfl,g hl⟩
  .exact .inr (.inl ⟨o,q,fun h=>z (h c y ⟨k,hk,hc⟩),rfl,g hl⟩)
  .exact absurd h hr
def Cp (f1 f2 f3:Nat) (fr tt:Int) (v:V4) (w:World):Prop:=
 w.heap[f1]?=some (.cells #[.int .i64 fr] 3 (0,0))/\w.heap[f2]?=some (.cells #[.int .i64 tt] 3 (0,0))/\w.heap[f3]?=some (.cells v.cells 30 (0,0))
def Ap0:∀ args w,(callFunc 274 args).run Tryz.prog w=.ok (.enter 274 args) w:=Im Tryz.func274 (by decide) (by simp [Tryz.f274])
def Ap1:∀ args w,(callFunc 275 args).run Tryz.prog w=.ok (.enter 275 args) w:=Im Tryz.func275 (by decide) (by simp [Tryz.f275])
def Ap2:∀ args w,(callFunc 240 args).run Tryz.prog w=.ok (.enter 240 args) w:=Im Tryz.func240 (by decide) (by simp [Tryz.f240])
def Ap3:∀ args w,(callFunc 242 args).run Tryz.prog w=.ok (.enter 242 args) w:=Im Tryz.func242 (by decide) (by simp [Tryz.f242])
def Ap4 (p q s:Nat) (fr h:Int) (v:V4):R7 (fun _ l r i=>Qh l fr h v r i) 274 p q s (Cp p q s fr h v):=by
 intro z sb cap whole l w j g hc;obtain ⟨h1,t,d⟩:=hc;have x:=Aa h1 0;have y:=Aa t 0;have c0:=Aa d 0;have c1:=Aa d 1;have c2:=Aa d 2;have c3:=Aa d 3;simp at x y c0 c1 c2 c3;clear h1 t d;have k:=Ad4 z sb cap whole l fr h v w j g.loose;replace ⟨k,j,g⟩:=H3 k j g;go_enter Tryz.func274,Tryz.ntmps274;go_wp2_with fail;refine k.out.mono ?_;rintro e w2 ⟨r,m,f,i,rfl,u,a,b,c⟩;obtain ⟨n,o⟩:=Aen g.out u;clear u;replace ⟨n,o,a,b,c⟩:=H5 n o a b c;go_wp2;go_ret;exact ⟨r,m,f,i,rfl,⟨o.out,n.out⟩,a.out,b.out,c.out⟩
def Ap5 (p q s:Nat) (fr h:Int) (v:V4):R7 (fun whole l r i=>Qi whole l fr h v r i) 275 p q s (Cp p q s fr h v):=by
 intro z sb cap whole l w j g hc;obtain ⟨h1,t,d⟩:=hc;have x:=Aa h1 0;have y:=Aa t 0;have c0:=Aa d 0;have c1:=Aa d 1;have c2:=Aa d 2;have c3:=Aa d 3;simp at x y c0 c1 c2 c3;clear h1 t d;have k:=Ad9 z sb cap whole l fr h v w j g.loose;replace ⟨k,j,g⟩:=H3 k j g;go_enter Tryz.func275,Tryz.ntmps275;go_wp2_with fail;refine k.out.mono ?_;rintro e w2 ⟨r,m,f,i,rfl,u,a,b,c⟩;obtain ⟨n,o⟩:=Aeo g.out u;clear u;replace ⟨n,o,a,b,c⟩:=H5 n o a b c;go_wp2;go_ret;exact ⟨r,m,f,i,rfl,⟨o.out,n.out⟩,a.out,b.out,c.out⟩
def Ap6 (p q s:Nat) (fr h:Int) (v:V4):R7 (fun _ l r i=>Qh l fr h v r i) 240 p q s (Cp p q s fr h v):=by
 intro z sb cap whole l w j g hc;obtain ⟨h1,t,d⟩:=hc;have x:=Aa h1 0;have y:=Aa t 0;have c0:=Aa d 0;have c1:=Aa d 1;have c2:=Aa d 2;have c3:=Aa d 3;simp at x y c0 c1 c2 c3;clear h1 t d;have k:=Ad4 z sb cap whole l fr h v w j g.loose;replace ⟨k,j,g⟩:=H3 k j g;go_enter Tryz.func240,Tryz.ntmps240;go_wp2_with fail;refine k.out.mono ?_;rintro e w2 ⟨r,m,f,i,rfl,u,a,b,c⟩;obtain ⟨n,o⟩:=Aen g.out u;clear u;replace ⟨n,o,a,b,c⟩:=H5 n o a b c;go_wp2;go_ret;exact ⟨r,m,f,i,rfl,⟨o.out,n.out⟩,a.out,b.out,c.out⟩
def Ap7 (p q s:Nat) (fr h:Int) (v:V4):R7 (fun whole l r i=>Qi whole l fr h v r i) 242 p q s (Cp p q s fr h v):=by
 intro z sb cap whole l w j g hc;obtain ⟨h1,t,d⟩:=hc;have x:=Aa h1 0;have y:=Aa t 0;have c0:=Aa d 0;have c1:=Aa d 1;have c2:=Aa d 2;have c3:=Aa d 3;simp at x y c0 c1 c2 c3;clear h1 t d;have k:=Ad9 z sb cap whole l fr h v w j g.loose;replace ⟨k,j,g⟩:=H3 k j g;go_enter Tryz.func242,Tryz.ntmps242;go_wp2_with fail;refine k.out.mono ?_;rintro e w2 ⟨r,m,f,i,rfl,u,a,b,c⟩;obtain ⟨n,o⟩:=Aeo g.out u;clear u;replace ⟨n,o,a,b,c⟩:=H5 n o a b c;go_wp2;go_ret;exact ⟨r,m,f,i,rfl,⟨o.out,n.out⟩,a.out,b.out,c.out⟩
def Zl (R:Int->List Nd->Prop) (gb gs cap:Nat) (po:Option Addr) (ps:List Nd) (w:World) (e:Ending) (w':World):Prop:=
 ∃ r ps',e=.returned (.int .i64 r)/\R r ps'/\B4 w' gb gs po cap ps'/\gi w ps ps'/\Mod (Bc ps) w w'
def gi.back {w a:World} {b q:List Nd} (h:gi a b q) (c:w.heap.size<=a.heap.size):gi w b q:=
 ⟨h.len,h.pb,h.whole,fun i d=>by rcases h.sb i d with e | e;exact .inl e;exact .inr (A6 c e)⟩
def Zm (u z cap:Nat) (po:Option Addr) (j:List Nd) (x:Option Addr) (m c:Nat) (zs:List Int) (fr i:Int) (v:V4) (w:World)
  (q:B4 w u z po cap j) (hz:Ap w x m zs) (ho:0<m->tw x (Bc j)) (ac:m<=c) :
  Calls Tryz.prog 236 #[.pointer (some ⟨u,0,none⟩),.slice x m c,.int .i64 fr,.int .i64 i,v.val] w (Zl (Le j zs fr i v) u z cap po j w):=by
 obtain ⟨W,o⟩:=Ex (((w.alloc (.cells #[.int .i64 fr] 3 (0,0))).alloc (.cells #[.int .i64 i] 3 (0,0))).alloc (.cells v.cells 30 (0,0)));have p:Below w.heap.size w W:=by rw [o];exact (Bn.alloc (by simp) _).alloc (by simp;omega) _
 have k:=q.below p;have s:=hz.below p Ln;have a:Cp w.heap.size (w.heap.size+1) (w.heap.size+2) fr i v W:=by rw [o];exact ⟨Ai _ (Ai _ (Af _ _)),Ai _ (A2 _ _ (by simp)),A2 _ _ (by simp)⟩
 have f:∀ b,w.heap.size<=b->¬ Bc j b:=fun b hb l=>by have:=q.j5 l;omega
 have t:∀ w',Mod (Bc j) W w'->Cp w.heap.size (w.heap.size+1) (w.heap.size+2) fr i v w':=fun w' l=>
  ⟨(l.block _ (Ab a.1) (f _ Ln)).trans a.1,(l.block _ (Ab a.2.1) (f _ (by omega))).trans a.2.1,(l.block _ (Ab a.2.2) (f _ (by omega))).trans a.2.2⟩
 have y:=Aeq _ _ 274 275 w.heap.size (w.heap.size+1) (w.heap.size+2) (Cp w.heap.size (w.heap.size+1) (w.heap.size+2) fr i v) u z cap po j x m c zs W k (fun w' l=>s.mod l ho) ac t Ap0 Ap1 (Ap4 _ _ _ fr i v) (Ap5 _ _ _ fr i v);rw [o] at y;have ad:=p.size;clear t a f s;replace ⟨y,o,p,q,hz,k,ho⟩:=H7 y o p q hz k ho;go_enter Tryz.func236,Tryz.ntmps236;go_wp2_with fail;refine y.out.mono ?_;rintro e w2 ⟨r,al,rfl,hR,g,d,n⟩;have hT:=Apy q.out.inv g d.len d.whole hR;rw [<- o.out] at d n;have hK:=d.back ad;have hM:=(Mod.af p.out).trans (n.mono fun _ _ h=>.inl h);clear hR d n;replace ⟨g,hT,hK,hM⟩:=H4 g hT hK hM;go_wp2;go_ret;exact ⟨r,al,rfl,hT.out,g.out,hK.out,hM.out⟩
def Ap8 (u z cap:Nat) (po:Option Addr) (j:List Nd) (x:Option Addr) (m c:Nat) (zs:List Int) (fr i:Int) (v:V4) (w:World)
  (q:B4 w u z po cap j) (hz:Ap w x m zs) (ho:0<m->tw x (Bc j)) (ac:m<=c) :
  Calls Tryz.prog 187 #[.pointer (some ⟨u,0,none⟩),.slice x m c,.int .i64 fr,.int .i64 i,v.val] w (Zl (V6 j zs fr i v) u z cap po j w):=by
 obtain ⟨W,o⟩:=Ex (((w.alloc (.cells #[.int .i64 fr] 3 (0,0))).alloc (.cells #[.int .i64 i] 3 (0,0))).alloc (.cells v.cells 30 (0,0)));have p:Below w.heap.size w W:=by rw [o];exact (Bn.alloc (by simp) _).alloc (by simp;omega) _
 have k:=q.below p;have s:=hz.below p Ln;have a:Cp w.heap.size (w.heap.size+1) (w.heap.size+2) fr i v W:=by rw [o];exact ⟨Ai _ (Ai _ (Af _ _)),Ai _ (A2 _ _ (by simp)),A2 _ _ (by simp)⟩
 have f:∀ b,w.heap.size<=b->¬ Bc j b:=fun b hb l=>by have:=q.j5 l;omega
 have t:∀ w',Mod (Bc j) W w'->Cp w.heap.size (w.heap.size+1) (w.heap.size+2) fr i v w':=fun w' l=>
  ⟨(l.block _ (Ab a.1) (f _ Ln)).trans a.1,(l.block _ (Ab a.2.1) (f _ (by omega))).trans a.2.1,(l.block _ (Ab a.2.2) (f _ (by omega))).trans a.2.2⟩
 have y:=Aeq _ _ 242 240 w.heap.size (w.heap.size+1) (w.heap.size+2) (Cp w.heap.size (w.heap.size+1) (w.heap.size+2) fr i v) u z cap po j x m c zs W k (fun w' l=>s.mod l ho) ac t Ap3 Ap2 (Ap7 _ _ _ fr i v) (Ap6 _ _ _ fr i v);rw [o] at y;have ad:=p.size;clear t a f s;replace ⟨y,o,p,q,hz,k,ho⟩:=H7 y o p q hz k ho;go_enter Tryz.func187,Tryz.ntmps187;go_wp2_with fail;refine y.out.mono ?_;rintro e w2 ⟨r,al,rfl,hR,g,d,n⟩;have hT:=Apz q.out.inv g d.len d.whole hR;rw [<- o.out] at d n;have hK:=d.back ad;have hM:=(Mod.af p.out).trans (n.mono fun _ _ h=>.inl h);clear hR d n;replace ⟨g,hT,hK,hM⟩:=H4 g hT hK hM;go_wp2;go_ret;exact ⟨r,al,rfl,hT.out,g.out,hK.out,hM.out⟩
def j8 (l:List St) (aa:Int) (v:V4) (u:Int):Prop:=Kj l aa v u/\u+aa<=1099511627776
instance (l:List St) (aa:Int) (v:V4) (u:Int):Decidable (Kj l aa v u):=by unfold Kj;infer_instance
instance (l:List St) (aa:Int) (v:V4) (u:Int):Decidable (j8 l aa v u):=by unfold j8;infer_instance
instance (zs:List Int) (k i:Nat):Decidable (Bv zs k i):=by unfold Bv;infer_instance
def Zn (l:List St) (aa:Int) (v:V4) (T x:Int):Prop:=
 T<=x/\x<=1099511627776/\(x<1099511627776->j8 l aa v x)/\∀ u,T<=u->u<x->¬ j8 l aa v u
def Ap9 {l:List St} {e T t:Int} {v:V4} {is:Bool} (h:Ig l T e v t is) (h0:0<=T) (h1:T<1099511627776) (i:1<=e) (j:v.right=true) :
  Zn l e v T (if is=true then t else 1099511627776):=by
 unfold Ig at h;rw [Ad ⟨i,j,h1⟩,show max T 0=T by omega] at h;rcases h with ⟨rfl,a,b,c,d⟩ | ⟨rfl,_,d⟩
 .rw [Ad rfl];exact ⟨a,by omega,fun _=>⟨c,b⟩,fun u f g h=>d u f g h.1⟩
 .rw [Ac (by simp)];exact ⟨by omega,by omega,fun h=>by omega,fun u f g h=>d u f h.2 h.1⟩
def Aqa (l:List St) (aa:Int) (v:V4) (T:Int) (w:World) (e:Ending) (w':World):Prop:=
 ∃ x,e=.returned (.int .i64 x)/\Zn l aa v T x/\Below w.heap.size w w'
def Aqb (gb gs cap:Nat) (po:Option Addr) (o:List Nd) (k1 k2 z:Nat) (p:Int) (v:V4) (i:Nat) (T:Int) (w:World) (q:B4 w gb gs po cap o)
  (h1:w.heap[k1]?=some (.cells #[.pointer (some ⟨gb,0,none⟩)] 268 (0,0))) (h2:w.heap[k2]?=some (.cells #[.int .i64 p] 3 (0,0))) (h3:w.heap[z]?=some (.cells v.cells 30 (0,0)))
  (hi:i<o.length) (r:0<=T) (s:T<1099511627776) (ht:1<=p) (hv:v.right=true) :
  Calls Tryz.prog 286 #[.int .i64 i,.int .i64 T,.pointer (some ⟨k1,0,none⟩),.pointer (some ⟨k2,0,none⟩),.pointer (some ⟨z,0,none⟩)] w (Aqa (nd o i).l p v T w):=by
 have al:=q.addr (by omega);subst al;have hh:=q.head;have ac:=q.l6;have f:=q.el i hi;have k:=q.inv i hi;have c0:=Aa hh 0;have p0:=q.ptr i hi;have x:=Aa h1 0;have y:=Aa h2 0;have d0:=Aa h3 0;have d1:=Aa h3 1;have d2:=Aa h3 2;have d3:=Aa h3 3;simp at c0 x y d0 d1 d2 d3;have am:=Ab hh;have an:=Su w _ p0;have l1:=Ab h1;have l2:=Ab h2;have l3:=Ab h3;have u:Hid (∀ t is,Ig (nd o i).l T p v t is->Zn (nd o i).l p v T (if is=true then t else 1099511627776)):=fun t is h=>Ap9 h r s ht hv;have he:=Ao1 _ _ _ _ _ T p v w.drew f.drew k.loose (by omega);obtain ⟨n,hn⟩:=Ex (o.length);have ao:(i:Int)<n:=by omega
 have ap:(0:Int)<=(i:Int):=by omega
 rw [<- hn] at c0 ac;obtain ⟨pb,ad⟩:=Ex ((nd o i).pb);rw [<- ad] at p0 he;clear q h1 h2 h3 hh f k hn ad hi;replace ⟨he,r,s,ht,hv⟩:=H5 he r s ht hv;go_enter Tryz.func286,Tryz.ntmps286;go_wp2_with fail
 go_region_held3 (fun w'=>w'.cell? ⟨k1,0,none⟩=some (.pointer (some ⟨gb,0,none⟩))/\w'.cell? ⟨gb,0,none⟩=some (.slice (some ⟨gs,0,none⟩) n cap)/\w'.cell? ⟨gs,i,none⟩=some (.pointer (some ⟨pb,0,none⟩)) /\
   w'.cell? ⟨k2,0,none⟩=some (.int .i64 p)/\w'.cell? ⟨z,0,none⟩=some (.int .i64 v.a)/\w'.cell? ⟨z,1,none⟩=some (.int .i64 v.b)/\w'.cell? ⟨z,2,none⟩=some (.int .i64 v.c)/\w'.cell? ⟨z,3,none⟩=some (.int .i64 v.d))
  (first
    | (go_keep;done)
    | (go_split_ands;refine ⟨?_,?_,?_,?_,?_,?_,?_,?_⟩<;>(rw [Ag g.out (by simpa using ‹_›)];assumption)))
  (first
    | (go_at_call 287;refine he.out.mono ?_;rintro e w2 ⟨t,is,rfl,hR,g⟩
       replace ⟨hR,g⟩:=H2 hR g))
 have j:Below w.heap.size w w2:=Gx g.out;replace j:=Hh j;have m:=u.out t is hR.out;cases is
 .rw [Ac (by simp)] at m;replace m:=Hh m;go_wp2;go_ret;exact ⟨_,rfl,m.out,j.out⟩
 .rw [Ad rfl] at m;replace m:=Hh m;go_wp2;go_ret;exact ⟨_,rfl,m.out,j.out⟩
def Ih (ps:List Nd) (zs:List Int) (aa:Int) (v:V4) (u:Int) (j:Nat):Bool:=decide (j<ps.length) && decide (Bv zs zs.length j) && decide (j8 (nd ps j).l aa v u)
def Ii (ps:List Nd) (zs:List Int) (aa:Int) (v:V4) (u:Int) (k:Nat):List Nat:=(List.range k).filter (Ih ps zs aa v u)
def fi (ps:List Nd) (zs:List Int) (aa:Int) (v:V4) (u:Int):List Nat:=Ii ps zs aa v u 16
def Bl (l:List Nat):List Int:=l.map fun (n:Nat)=>(n:Int)
def R8 (a:List Nd) (zs:List Int) (b:Int) (v:V4) (u:Int) (k:Nat):Ii a zs b v u (k+1)=if Ih a zs b v u k=true then Ii a zs b v u k++[k] else Ii a zs b v u k:=by
 unfold Ii;rw [List.range_succ,Om];by_cases h:Ih a zs b v u k=true
 .rw [Ad h];simp [h]
 .rw [Ac h];simp [h]
def Aqc (a:List Nd) (zs:List Int) (b:Int) (v:V4) (u:Int) (k:Nat) (h:k<=16):∃ r,fi a zs b v u=Ii a zs b v u k++r:=by
 unfold fi;obtain ⟨d,c⟩:∃ d,16=k+d:=⟨16-k,by omega⟩;rw [c];clear h c
 induction d with
 | zero=>exact ⟨[],by simp⟩
 | succ d ih=>
  obtain ⟨r,e⟩:=ih;rw [show k+(d+1)=(k+d)+1 by omega,R8,e];split
  .exact ⟨r++[k+d],by simp⟩
  .exact ⟨r,rfl⟩
def Aqd {a:List Nd} {zs:List Int} {b:Int} {v:V4} {u T:Int} (h:∀ j,Ih a zs b v u j=true->Ih a zs b v T j=true):(fi a zs b v u).length<=(fi a zs b v T).length:=by
 unfold fi Ii;rw [<- List.countP_eq_length_filter,<- List.countP_eq_length_filter];exact List.countP_mono_left fun j _=>h j
def Fp (ps:List Nd) (zs:List Int) (many:Int) (v:V4) (aa after t:Int) (xs:List Nat) (is:Bool):Prop:=
 if 1<=many/\1<=aa/\v.right=true then
  (is=true/\max after 0<=t/\t<1099511627776/\(xs.length:Int)=many/\(∃ r,fi ps zs aa v t=xs++r)/\∀ u,max after 0<=u->u<t->((fi ps zs aa v u).length:Int)<many) \/
  (is=false/\t=0/\xs=[]/\∀ u,max after 0<=u->u<1099511627776->((fi ps zs aa v u).length:Int)<many)
 else t=0/\xs=[]/\is=false
def Aev (ps:List Nd) (zs:List Int) (many:Int) (v:V4) (aa after:Int) (w:World) (e:Ending) (w':World):Prop:=
 ∃ t so n c xs is,e=.returned (.tuple #[.int .i64 t,.slice so n c,.bool is])/\Fp ps zs many v aa after t xs is/\Ap w' so n (Bl xs)/\n<=c/\(∀ b off,so=some ⟨b,off,none⟩->w.heap.size<=b)/\Below w.heap.size w w'
def Tr (w:World):Ap w none 0 (Bl []):=⟨rfl,by omega,fun i a=>by omega⟩
def Ak (w:World) (base:Nat) (sv:Value) (L:Nat) (xs:List Nat):Prop:=L=xs.length/\w.ownsRow base 3 1 sv L ((Bl xs).map (.int .i64))
def Ak.nil (w:World) (base:Nat):Ak w base (.slice none 0 0) 0 []:=⟨rfl,No _ _ _ _⟩
def Ak.below {w w':World} {base L:Nat} {b:Value} {xs:List Nat} (h:Ak w base b L xs) (d:Below w.heap.size w w'):Ak w' base b L xs:=by
 obtain ⟨h1,e,f⟩:=h;refine ⟨h1,e,?_⟩;rcases f with h | ⟨g,cap,a,i,j,c,k⟩
 .exact .inl h
 .exact .inr ⟨g,cap,a,i,j,Ae d c (Ab c),k⟩
def Ak.at {w:World} {base g cap L:Nat} {xs:List Nat} (h:Ak w base (.slice (some ⟨g,0,none⟩) L cap) L xs) (c:L<=9223372036854775807):Ap w (some ⟨g,0,none⟩) L (Bl xs)/\L<=cap/\base<=g:=by
 obtain ⟨h1,a⟩:=h;have d:=a;obtain ⟨_,h | ⟨m,b,e,f,j,k,l,n,o,p⟩⟩:=a
 .cases h.1
 .cases f;refine ⟨⟨by simp [Bl,h1],c,fun i q=>⟨g,0,rfl,Ab k,?_⟩⟩,l,j⟩;rw [D2,d.cellAt i (by omega)];simp [Bl,zi,List.getD,show i<xs.length by omega]
structure FW (w:World) (gb gs cap:Nat) (po:Option Addr) (ps:List Nd) (B3:Nat) (f:Nat->Bool) (aa:Int) (v:V4) (wr:World):Prop where
 dm:B4 wr gb gs po cap ps
 k1:wr.heap[w.heap.size]?=some (.cells #[.pointer (some ⟨gb,0,none⟩)] 268 (0,0))
 k2:wr.heap[w.heap.size+1]?=some (.cells v.cells 30 (0,0))
 k3:wr.heap[w.heap.size+1+1]?=some (.cells #[.int .i64 aa] 3 (0,0))
 met:wr.heap[B3]?=some (.cells (bits f) 364 (0,0))
 low:Below w.heap.size w wr
def FW.below {w:World} {b c cap:Nat} {po:Option Addr} {d:List Nd} {e:Nat} {f:Nat->Bool} {g:Int} {v:V4} {wr w':World} (h:FW w b c cap po d e f g v wr) (a:Below wr.heap.size wr w'):FW w b c cap po d e f g v w':=
 ⟨h.dm.below a,Ae a h.k1 (Ab h.k1),Ae a h.k2 (Ab h.k2),Ae a h.k3 (Ab h.k3),Ae a h.met (Ab h.met),h.low.trans (a.mono h.low.size)⟩
def Aqe (gb gs cap:Nat) (po:Option Addr) (z:List Nd) (ao:Option Addr) (m c:Nat) (zs:List Int) (a:Int) (v:V4) (s after:Int) (w:World) (hp:B4 w gb gs po cap z) (hz:Ap w ao m zs) :
  Calls Tryz.prog 245 #[.pointer (some ⟨gb,0,none⟩),.slice ao m c,.int .i64 a,v.val,.int .i64 s,.int .i64 after] w (Aev z zs a v s after w):=by
 obtain ⟨i3,bf,bg,a3,a4⟩:=C0 M0;obtain ⟨W,hW⟩:=Ex (((w.alloc (.cells #[.pointer (some ⟨gb,0,none⟩)] 268 (0,0))).alloc (.cells v.cells 30 (0,0))).alloc (.cells #[.int .i64 s] 3 (0,0)));have hB:Below w.heap.size w W:=by rw [hW];exact (Bn.alloc (by simp) _).alloc (by simp;omega) _
 have w1:W.heap[w.heap.size]?=some (.cells #[.pointer (some ⟨gb,0,none⟩)] 268 (0,0)):=by rw [hW];exact Ai _ (Ai _ (Af _ _))
 have w2:W.heap[w.heap.size+1]?=some (.cells v.cells 30 (0,0)):=by rw [hW];exact Ai _ (A2 _ _ (by simp))
 have w3:W.heap[w.heap.size+1+1]?=some (.cells #[.int .i64 s] 3 (0,0)):=by rw [hW];exact A2 _ _ (by simp)
 have a6:=hp.below hB;have a7:=hz.below hB Ln;replace ⟨hp,hz,a6,a7,w1,w2,w3⟩:=H7 hp hz a6 a7 w1 w2 w3
 have aL:¬ (1<=a/\1<=s/\v.right=true)->∀ w',Below w.heap.size w w'->Aev z zs a v s after w (.returned (.tuple #[.int .i64 0,.slice none 0 0,.bool false])) w':=fun h w' hb=>
  ⟨0,none,0,0,[],false,rfl,by unfold Fp;rw [Ac h];exact ⟨rfl,rfl,rfl⟩,Tr _,Nat.le_refl _,fun b bi h=>by simp at h,hb⟩
 replace aL:=Hh aL;by_cases q1:a<1
 .have d1:decide (a<1)=true:=by simpa using q1
  have n:=aL.out (by omega) W hB;rw [hW] at n;replace ⟨q1,n,hW,hB⟩:=H4 q1 n hW hB;go_enter Tryz.func245,Tryz.ntmps245;go_wp2;go_step3;go_wp2;rw [Lu];go_ret3;exact n.out
 have d1:decide (a<1)=false:=by simpa using q1
 by_cases q2:s<1
 .have d2:decide (s<1)=true:=by simpa using q2
  have n:=aL.out (by omega) W hB;rw [hW] at n;replace ⟨q1,q2,n,hW,hB⟩:=H5 q1 q2 n hW hB;go_enter Tryz.func245,Tryz.ntmps245;go_wp2;go_step3;go_wp2;rw [Lu];go_ret3;exact n.out
 have d2:decide (s<1)=false:=by simpa using q2
 have aU:=In v W;rw [hW] at aU;replace ⟨q1,q2,aU,hW,hB⟩:=H5 q1 q2 aU hW hB;go_enter Tryz.func245,Tryz.ntmps245;go_wp2_with fail;go_step3;go_wp2_with fail;refine aU.out.mono ?_;rintro e w4 ⟨rfl,am⟩;rw [<- hW.out] at am;have aM:=hB.out.trans (am.mono hB.out.size);have aV:=a6.out.below am;have a8:=a7.out.below am Ln;have k1:=Ae am w1.out (Ab w1.out);have k2:=Ae am w2.out (Ab w2.out);have k3:=Ae am w3.out (Ab w3.out);have x1:=Aa k1 0;simp at x1;replace ⟨k1,k2,k3,am,aM,aV,a8⟩:=H7 k1 k2 k3 am aM aV a8;by_cases q3:v.right=true;rotate_left
 .have a9:v.right=false:=by simpa using q3
  rw [a9];have n:=aL.out (fun h=>q3 h.2.2) w4 aM.out;replace ⟨q3,a9,n⟩:=H3 q3 a9 n;go_wp2;rw [Lu];go_ret3;exact n.out
 rw [q3];replace q3:=Hh q3;go_wp2_with fail;refine (Apv gb gs cap po z ao m c zs w4 aV.out a8.out).mono ?_;rintro e w5 ⟨f,rfl,hf,aW⟩;have s4:=aM.out.size;have s5:=aW.size;have bk:(bits f).all (·.oneCell')=true:=by simp [bits,Value.oneCell']
 obtain ⟨A,hA⟩:=Ex (max after 0);have bH:(if after<0 then 0 else after)=A:=by rw [hA];omega
 have bI:0<=A:=by omega
 have aN:FW w gb gs cap po z w5.heap.size f s v ((w5.alloc (.cells (bits fun _=>false) 364 (0,0))).setRow w5.heap.size (bits f)):=by have bB:Below w5.heap.size w5 ((w5.alloc (.cells (bits fun _=>false) 364 (0,0))).setRow w5.heap.size (bits f)):=Aet Bn Ln _;have hb:=aW.trans (bB.mono s5);exact ⟨aV.out.below hb,Ae hb k1.out (Ab k1.out),Ae hb k2.out (Ab k2.out),Ae hb k3.out (Ab k3.out),Dp _ _ _ _ 364 (0,0) (Af _ _),aM.out.trans (hb.mono s4)⟩
 replace ⟨aN,hf,aW,hA⟩:=H4 aN hf aW hA;go_wp2_with (first | (refine Df rfl 364 _ _ rfl w5.heap.size (bits f) rfl rfl 364 (bits fun _=>false) (by rw [<- Zk];exact Af _ _) Tq rfl bk ?_));go_step3;go_wp2;go_loopw [17,18,19,20,21,22] (fun t _ _ _ _ _ wr=>∃ T:Int,t=.int .i64 T/\A<=T/\Hid (FW w gb gs cap po z w5.heap.size f s v wr)/\Hid (∀ u,A<=u->u<T->((fi z zs s v u).length:Int)<a)) (fun t _ _ _ _ _ _=>(1099511627776-intOf t).toNat)
 case atStart=>exact ⟨A,rfl,Db _,aN.out,fun u h1 h2=>by omega⟩
 case round=>
  obtain ⟨T,rfl,bC,ba,bb⟩:=hrel;by_cases hT:T<1099511627776;rotate_left
  .have ac:Fp z zs a v s after 0 [] false:=(by unfold Fp;rw [Ad ⟨by have:=q1.out;omega,by have:=q2.out;omega,q3.out⟩];exact .inr ⟨rfl,rfl,rfl,fun u u1 u2=>bb.out u (by rw [hA.out];exact u1) (by omega)⟩);replace ac:=Hh ac;go_wp2;go_ret3;exact ⟨0,none,0,0,[],false,rfl,ac.out,Tr _,Nat.le_refl _,(fun b bi h=>by simp at h),ba.out.low⟩
  have d3:decide (T<1099511627776)=true:=by simpa using hT
  obtain ⟨w0,aX⟩:=Ex (wr);have aY:=ba;rw [<- aX] at aY;have aO:=ba.out.met;replace ⟨aO,aX⟩:=H2 aO aX;go_wp2_with (first | (refine wpList_load_row rfl 364 _ rfl w5.heap.size rfl 364 (bits f) (0,0) _ aO.out Uz rfl Tq ?_))
  go_loopw [18,19,20,21,22,47] (fun nx sv _ _ _ i wx=>∃ (k:Nat) (N:Int) (L:Nat) (xs:List Nat),i=.int .i64 k/\nx=.int .i64 N/\k<=16/\T<N/\N<=1099511627776/\(L:Int)<a/\L<=k/\Hid (Below w0.heap.size w0 wx)/\Hid (Ak wx w0.heap.size sv L xs) /\
   Hid (xs=Ii z zs s v T k)/\Hid (∀ j,j<k->f j=true->¬ j8 (nd z j).l s v T->∀ u,T<=u->u<N->¬ j8 (nd z j).l s v u)) (fun _ _ _ _ _ i _=>16-(intOf i).toNat)
  case atStart=>
   refine ⟨0,1099511627776,0,[],rfl,rfl,by omega,hT,Db _,by have:=q1.out;omega,Nat.le_refl _,?_,Ak.nil _ _,rfl,fun j hj=>by omega⟩;rw [aX.out];exact Below.refl _ _
  case round=>
   obtain ⟨k,N,L,xs,rfl,rfl,hk,bl,bn,bs,bJ,aP,aQ,aI,aF⟩:=hrel;by_cases bv:k<16
   .have bD:(k:Int)<16:=(by omega);have bK:(0:Int)<=(k:Int):=(by omega);have a5:=Apt f k bv;cases an:f k
    .replace aI:Hid (xs=Ii z zs s v T (k+1)):=(by show xs=_;rw [R8,Ac,aI.out];intro h;simp only [Ih,Eo,Ja] at h;have:=(hf.out k).2 h.1;rw [an] at this;cases this);simp only [an] at a5
     have d:∀ j,j<k+1->f j=true->¬ j8 (nd z j).l s v T->∀ u,T<=u->u<N->¬ j8 (nd z j).l s v u:=fun j hj aC=>by
      by_cases e:j=k
      .subst e;rw [an] at aC;cases aC
      .exact aF.out j (by omega) aC
     replace ⟨d,an⟩:=H2 d an;go_wp2;go_roundw
     case rel=>exact ⟨k+1,N,L,xs,by go_num,rfl,by omega,bl,bn,bs,by omega,aP.out,aQ.out,aI.out,d.out⟩
     case measure=>simp [intOf];omega
    .have aG:=(hf.out k).1 an;have ad:=aY.out.below aP.out;simp only [an] at a5;have aD:=Aqb gb gs cap po z _ _ _ s v k T wr ad.dm ad.k1 ad.k3 ad.k2 aG.1 (by omega) hT (by have:=q2.out;omega) q3.out;replace ⟨aD,ad,aG,an⟩:=H4 aD ad aG an;go_wp2_with fail
     (with_reducible refine aD.out.mono ?_)
     rintro e w6 ⟨x,rfl,hx,aJ⟩;have aB:=aP.out.trans (aJ.mono aP.out.size);have p:=aQ.out.below aJ;have s6:=aB.size;by_cases aK:T<x
     .have d4:decide (T<x)=true:=(by simpa using aK);obtain ⟨N2,bc⟩:=Ex (min N x);have bL:(if x<N then x else N)=N2:=(by rw [bc];omega);have aR:=hx.2.2.2 T (Db _) aK;have y:xs=Ii z zs s v T (k+1):=by rw [R8,Ac,aI.out];intro h;simp only [Ih,Eo,Ja] at h;exact aR h.2
      have d:∀ j,j<k+1->f j=true->¬ j8 (nd z j).l s v T->∀ u,T<=u->u<N2->¬ j8 (nd z j).l s v u:=fun j hj aC h3 u u1 u2=>by
       by_cases e:j=k
       .subst e;exact hx.2.2.2 u u1 (by omega)
       .exact aF.out j (by omega) aC h3 u u1 (by omega)
      have bw:T<N2:=(by omega);have bx:N2<=1099511627776:=(by omega);replace ⟨hx,aJ,aB,p,aK,bc,aR,y⟩:=H8 hx aJ aB p aK bc aR y;replace d:=Hh d;go_wp2;go_roundw
      case rel=>exact ⟨k+1,N2,L,xs,by go_num,rfl,by omega,bw,bx,bs,by omega,aB.out,p.out,y.out,d.out⟩
      case measure=>simp [intOf];omega
     .have bE:x=T:=(by have:=hx.1;omega);subst bE;have d4:decide (x<x)=false:=(by simp);have aZ:=hx.2.2.1 hT;have y:xs++[k]=Ii z zs s v x (k+1):=by rw [R8,Ad,aI.out];simp only [Ih,Eo,Ja];exact ⟨aG.out,aZ⟩
      have d:∀ j,j<k+1->f j=true->¬ j8 (nd z j).l s v x->∀ u,x<=u->u<N->¬ j8 (nd z j).l s v u:=fun j hj aC h3 u u1 u2=>by
       by_cases e:j=k
       .subst e;exact absurd aZ h3
       .exact aF.out j (by omega) aC h3 u u1 (by omega)
      have ap:=p.2.alloc (.cells #[.int .i64 (k:Int)] 3 (0,0))
      have av:∀ j u,([.int .i64 (k:Int)]:List Value)[j]?=some u->(w6.alloc (.cells #[.int .i64 (k:Int)] 3 (0,0))).cell? ((⟨w6.heap.size,0,none⟩:Addr).add j)=some u:=by
       intro j u hu
       match j,hu with
       | 0,hu=>
        have:=Aa (Af w6 (.cells #[.int .i64 (k:Int)] 3 (0,0))) 0;simp at hu;subst hu;exact this
       | j+1,hu=>simp at hu
      have aA:∀ u∈([.int .i64 (k:Int)]:List Value),u.oneCell'=true:=by simp [Value.oneCell']
      have a0:L+1<=maxLen:=by
       have:maxLen=9223372036854775807:=by kernel_rfl
       omega
      have a1:(L+1)*8<=140737488355328:=(by omega);have al:w0.heap.size<=(w6.alloc (.cells #[.int .i64 (k:Int)] 3 (0,0))).heap.size:=(by simp;omega);have a2:=p.2.lt;have aS:=p.1;replace ⟨hx,aJ,aB,p,aK,y,d,aZ⟩:=H8 hx aJ aB p aK y d aZ;replace ⟨ap,av,aA,a0,a1,al,a2,aS⟩:=H8 ap av aA a0 a1 al a2 aS;by_cases q:(L:Int)+1=a
      .have d5:((L:Int)+1 == a)=true:=(by simpa using q);have ac:Fp z zs a v s after x (xs++[k]) true:=(by unfold Fp;rw [Ad ⟨by have:=q1.out;omega,by have:=q2.out;omega,q3.out⟩];refine .inl ⟨rfl,by rw [<- hA.out];exact bC,hT,by rw [De,<- aS.out];simpa using q,?_,fun u u1 u2=>bb.out u (by rw [hA.out];exact u1) u2⟩;rw [y.out];exact Aqc _ _ _ _ _ _ (by omega));replace ⟨ac,q⟩:=H2 ac q;go_wp2_with (at_builtin;refine Rb _ rfl _ _ 31 rfl w0.heap.size 3 i3 _ 1 8 Nm bf bg a3 a4 rfl (by decide) _ L _ rfl ap.out ⟨w6.heap.size,0,none⟩ 1 1 [.int .i64 (k:Int)] rfl rfl av.out aA.out a0.out a1.out al.out ?_;intro v1 w7 o r _;obtain ⟨g,aH,rfl⟩:=Joins.ownsRow_form o (by omega);replace ⟨o,r⟩:=H2 o r);go_ret3;have hO:Ak w7 w0.heap.size (.slice (some ⟨g,0,none⟩) (L+1) aH) (L+1) (xs++[k]):=⟨by rw [De,<- aS.out];rfl,by simpa [Bl] using o.out⟩;obtain ⟨o1,o2,o3⟩:=hO.at (by omega);have aT:=(aB.out.alloc s6 _).grown r.out al.out (fun k hk=>(a2.out k hk).1);have bd:=aY.out.low;exact ⟨x,some ⟨g,0,none⟩,L+1,aH,xs++[k],true,rfl,ac.out,o1,o2,(fun b bi e=>by cases e;exact A6 bd.size o3),bd.trans (aT.mono bd.size)⟩
      .have d5:((L:Int)+1 == a)=false:=(by simpa using q);have bA:(L:Int)+1<a:=(by omega);replace q:=Hh q;go_wp2_with (at_builtin;refine Rb _ rfl _ _ 31 rfl w0.heap.size 3 i3 _ 1 8 Nm bf bg a3 a4 rfl (by decide) _ L _ rfl ap.out ⟨w6.heap.size,0,none⟩ 1 1 [.int .i64 (k:Int)] rfl rfl av.out aA.out a0.out a1.out al.out ?_;intro v1 w7 o r _;obtain ⟨g,aH,rfl⟩:=Joins.ownsRow_form o (by omega);replace ⟨o,r⟩:=H2 o r);have hO:Ak w7 w0.heap.size (.slice (some ⟨g,0,none⟩) (L+1) aH) (L+1) (xs++[k]):=⟨by rw [De,<- aS.out];rfl,by simpa [Bl] using o.out⟩;have aT:=(aB.out.alloc s6 _).grown r.out al.out (fun k hk=>(a2.out k hk).1);replace ⟨hO,aT⟩:=H2 hO aT;go_roundw
       case rel=>exact ⟨k+1,N,L+1,xs++[k],by go_num,rfl,by omega,bl,bn,by simpa using bA,by omega,aT.out,hO.out,y.out,d.out⟩
       case measure=>simp [intOf];omega
   .have bD:¬ (k:Int)<16:=(by omega);have be:k=16:=(by omega);have d6:(N == T)=false:=(by rw [Bg];omega);have ad:=aY.out.below aP.out;have bG:=ad.dm.l6
    have aE:=fun u u1 u2=>by
     by_cases hu:u<T
     .exact bb.out u u1 hu
     .have bF:=Aqd fun j hj=>by
       simp only [Ih,Eo,Ja] at hj ⊢;refine ⟨hj.1,Il fun hc=>?_⟩;exact aF.out j (by have:=hj.1.1;omega) ((hf.out j).2 hj.1) hc u (by omega) u2 hj.2
      have:fi z zs s v T=xs:=by rw [aI.out,be];rfl
      rw [this,<- aQ.out.1] at bF;omega
    replace ⟨be,ad,aE⟩:=H3 be ad aE;go_wp2;go_roundw
    case rel=>exact ⟨N,rfl,by omega,ad.out,aE.out⟩
    case measure=>simp [intOf];omega
def Aqf {B:Nat} {S:Nat->Prop} {w w1 b:World} (h:Below B w w1) (a:Mod S w1 b) (d:∀ k,S k->B<=k) (e:B<=w1.heap.size):Below B w b:=
 h.trans ⟨a.os,a.tape,a.output,a.size,fun k f=>a.block k (by omega) (fun c=>by have:=d k c;omega)⟩
end Go.Proofs.YtimlcnhcjndijaaGreatDoor.Pl
namespace Go.Proofs.YtimlcnhcjndijaaGreatDoor.Pl
def Aqg {l:List St} (a:Cb l) {i j:Nat} (h:i<=j) (b:j<l.length):(nth l i).t<=(nth l j).t:=by
 by_cases e:i=j
 .subst e;exact Db _
 .exact Int.le_of_lt (a.bh i j (by omega) b)
def Aew {l:List St} (b:Cb l) {v:V4} {u d:Int} (h0:0<=u) (h1:1<=d):Kj l d v u↔∀ x,u<=x->x<u+d->v.leq (val l x):=by
 constructor
 .intro h x o g;obtain ⟨k,a⟩:=Tp b (u:=x) (by omega);rw [Mc b.bh a];exact Ld.1 (h k a.1 (by have:=a.2.1;omega) (fun e=>by have:=a.2.2 (k+1) (by omega) e;omega))
 .intro h k a p m
  have f:Kh l (max u (nth l k).t) k:=⟨a,by omega,fun j n c=>by
   have q:=b.bh k j n c;have r:=Aqg b (i:=k+1) (j:=j) (by omega) c;have s:=m (by omega)
   omega⟩
  have:=h (max u (nth l k).t) (by omega) (by omega);rw [Mc b.bh f] at this;exact Ld.2 this
open Go.RowKit
def Aex {zs:List Int} {x:Int}:x∈zs↔∃ j,j<zs.length/\zi zs j=x:=by
 constructor
 .intro h;obtain ⟨i,a,e⟩:=Q5.1 h;exact ⟨i,a,by simp [zi,List.getD,a,e]⟩
 .rintro ⟨j,b,e⟩;rw [<- e];simp [zi,List.getD,b]
def Aqh (zs:List Int) (x:Int) (w:World) (e:Ending) (w':World):Prop:=∃ b:Bool,e=.returned (.bool b)/\(b=true↔x∈zs)/\w'=w
def Aey {b:List Nd} {zs:List Int} {c u:Int} {v:V4} {j:Nat} (h:j∈fi b zs c v u):j<b.length/\Bv zs zs.length j/\j8 (nd b j).l c v u:=by
 unfold fi Ii at h;obtain ⟨_,a⟩:=Oo.1 h;simp only [Ih,Eo,Ja] at a;exact ⟨a.1.1,a.1.2,a.2⟩
def Aqi (a:List Nd) (zs:List Int) (b u:Int) (v:V4):(fi a zs b v u).Pairwise (·<·):=by
 unfold fi Ii;exact List.Pairwise.filter _ List.pairwise_lt_range
structure Me (ps:List Nd) (zs:List Int) (many:Int) (v:V4) (aa after t:Int) (xs:List Nat):Prop where
 many1:1<=many
 jq:1<=aa
 right:v.right=true
 ge:max after 0<=t
 lt:t<1099511627776
 fin:t+aa<=1099511627776
 len:(xs.length:Int)=many
 pre:∃ r,fi ps zs aa v t=xs++r
 first:∀ u,max after 0<=u->u<t->((fi ps zs aa v u).length:Int)<many
def Fp.found {d:List Nd} {zs:List Int} {a:Int} {v:V4} {b after t:Int} {xs:List Nat} (h:Fp d zs a v b after t xs true):Me d zs a v b after t xs:=by
 unfold Fp at h;by_cases c:1<=a/\1<=b/\v.right=true
 .rw [Ad c] at h;rcases h with ⟨_,h1,g,e,⟨r,f⟩,i⟩ | ⟨h,_⟩
  .refine ⟨c.1,c.2.1,c.2.2,h1,g,?_,e,⟨r,f⟩,i⟩
   cases xs with
   | nil=>simp at e;omega
   | cons x xs=>exact (Aey (j:=x) (by rw [f];simp)).2.2.2
  .cases h
 .rw [Ac c] at h;cases h.2.2
def Fp.none {g:List Nd} {zs:List Int} {e:Int} {v:V4} {f after t:Int} {xs:List Nat} (h:Fp g zs e v f after t xs false):t=0/\xs=[] /\
  (1<=e->1<=f->v.right=true->∀ u,max after 0<=u->u<1099511627776->((fi g zs f v u).length:Int)<e):=by
 unfold Fp at h;by_cases c:1<=e/\1<=f/\v.right=true
 .rw [Ad c] at h;rcases h with ⟨h,_⟩ | ⟨_,h1,i,j⟩
  .cases h
  .exact ⟨h1,i,fun _ _ _=>j⟩
 .rw [Ac c] at h;exact ⟨h.1,h.2.1,fun a b d=>absurd ⟨a,b,d⟩ c⟩
def Fp.same {ps o:List Nd} {zs:List Int} {a:Int} {v:V4} {c after t t':Int} {xs p:List Nat} {b z:Bool} (h:Fp ps zs a v c after t xs b) (h':Fp o zs a v c after t' p z)
  (j:∀ u,fi o zs c v u=fi ps zs c v u):t'=t/\p=xs/\z=b:=by
 have x:∀ {q:List Nd} {k:List Nd} {s l:Int} {ys d:List Nat},Me q zs a v c after s ys->Me k zs a v c after l d->(∀ u,fi k zs c v u=fi q zs c v u)->s<=l:=fun {q k s l ys d} f i j=>by
  apply Il;intro hc
  have h1:=f.first l i.ge (by omega)
  obtain ⟨r,m⟩:=i.pre;rw [j] at m;rw [m,De] at h1;have:=i.len;omega
 have g:∀ {q:List Nd} {k:List Nd} {s l:Int} {ys d:List Nat},Me q zs a v c after s ys->Fp k zs a v c after l d false->(∀ u,fi k zs c v u=fi q zs c v u)->False:=fun {q k s l ys d} f i j=>by
  have h1:=i.none.2.2 f.many1 f.jq f.right s f.ge f.lt;obtain ⟨r,m⟩:=f.pre;rw [j,m,De] at h1;have:=f.len;omega
 cases b with
 | true=>
  cases z with
  | true=>
   have f:=h.found;have i:=h'.found;have e:t'=t:=(by have:=x f i j;have:=x i f (fun u=>(j u).symm);omega);subst e;refine ⟨rfl,?_,rfl⟩;obtain ⟨r,m⟩:=f.pre;obtain ⟨r',y⟩:=i.pre;rw [j,m] at y;have l1:=f.len;have l2:=i.len;exact (List.append_inj y (by omega)).1.symm
  | false=>exact (g h.found h' j).elim
 | false=>
  cases z with
  | true=>exact (g h'.found h (fun u=>(j u).symm)).elim
  | false=>
   have n:=h.none;have n':=h'.none;exact ⟨by rw [n.1,n'.1],by rw [n.2.1,n'.2.1],rfl⟩
def Me.aj {c:List Nd} {zs:List Int} {d:Int} {v:V4} {e after t:Int} {xs:List Nat} (h:Me c zs d v e after t xs):D8 c.length (Bl xs)/\(∀ j,j∈xs->j<c.length/\Bv zs zs.length j/\j8 (nd c j).l e v t)/\xs.Pairwise (·<·):=by
 obtain ⟨r,g⟩:=h.pre;have k:∀ j,j∈xs->j<c.length/\Bv zs zs.length j/\j8 (nd c j).l e v t:=fun j n=>Aey (by rw [g];exact List.mem_append_left _ n);have m:xs.Pairwise (·<·):=by have:=Aqi c zs e t v;rw [g] at this;exact (Sx.1 this).1
 have h1:=h.many1;have o:=h.len
 have f:∀ i (a:i<xs.length),zi (Bl xs) i=((xs[i]:Nat):Int):=fun i a=>by simp [zi,Bl,List.getD,a]
 have b:(Bl xs).length=xs.length:=by simp [Bl]
 refine ⟨⟨by rw [b];omega,fun i a=>?_,fun i a=>?_,fun i a=>?_⟩,k,m⟩
 .rw [b] at a;rw [f i a];omega
 .rw [b] at a;rw [f i a];have:=(k _ (Ls a)).1;omega
 .rw [b] at a;rw [f i (by omega),f (i+1) a];have:=Oj.1 m i (i+1) (by omega) a (by omega);omega
def V7 {xs:List Nat} {j:Nat}:Bv (Bl xs) (Bl xs).length j↔j∈xs:=by
 unfold Bv;have a:(Bl xs).length=xs.length:=by simp [Bl]
 have f:∀ i (b:i<xs.length),zi (Bl xs) i=((xs[i]:Nat):Int):=fun i b=>by simp [zi,Bl,List.getD,b]
 constructor
 .rintro ⟨c,d,e⟩;rw [a] at d;rw [f c d] at e
  have:xs[c]=j:=by omega
  rw [<- this];exact Ls d
 .intro h;obtain ⟨i,b,e⟩:=Q5.1 h;exact ⟨i,by rw [a];exact b,by rw [f i b,e]⟩
end Go.Proofs.YtimlcnhcjndijaaGreatDoor.Pl
namespace Go.Proofs.YtimlcnhcjndijaaGreatDoor.Pl
def Me.span {c:List Nd} {zs:List Int} {a:Int} {v:V4} {b after t:Int} {xs:List Nat} (h:Me c zs a v b after t xs):Bj t (t+b) v=true:=by
 have:=h.ge;have:=h.fin;have:=h.jq;simp [Bj,h.right];omega
def Me.take {d e:List Nd} {zs:List Int} {f:Int} {v:V4} {g after t r:Int} {xs:List Nat} (h:Me d zs f v g after t xs) (k:∀ i,i<d.length->Cb (nd d i).l)
  (m:Le d (Bl xs) t (t+g) v r e):r=0/\∀ i,i<d.length->(i∈xs->∀ u,0<=u->u<1099511627776->val (nd e i).l u=if t<=u/\u<t+g then Nb (val (nd d i).l u) v else val (nd d i).l u)/\(¬ i∈xs->(nd e i).l=(nd d i).l):=by
 obtain ⟨n,o,x⟩:=h.aj;have h0:0<=t:=by have:=h.ge;omega
 rcases m with ⟨a,_⟩ | ⟨_,_,a,_⟩ | ⟨_,_,_,rfl,a⟩
 .exact absurd ⟨n,h.span⟩ a
 .refine absurd (fun i b p u q s=>?_) a;exact (Aew (k i b) h0 h.jq).1 (o i (V7.1 p)).2.2.1 u q s
 .exact ⟨rfl,fun i b=>⟨fun j=>(a i b).1 (V7.2 j),fun j=>(a i b).2 (fun c=>j (V7.1 c))⟩⟩
open Go.RowKit
def vv (vs:List V4) (i:Nat):V4:=vs.getD i V4.zero
structure N9 (w:World) (ao:Option Addr) (n:Nat) (vs:List V4):Prop where
 len:vs.length=n
 max:n<=9223372036854775807
 cell:∀ i,i<n->∃ b off,ao=some ⟨b,off,none⟩/\b<w.heap.size/\w.cell? ⟨b,off+i*4,none⟩=some (.int .i64 (vv vs i).a)/\w.cell? ⟨b,off+i*4+1,none⟩=some (.int .i64 (vv vs i).b) /\
  w.cell? ⟨b,off+i*4+2,none⟩=some (.int .i64 (vv vs i).c)/\w.cell? ⟨b,off+i*4+3,none⟩=some (.int .i64 (vv vs i).d)
def N9.below {w w':World} {f:Option Addr} {n:Nat} {vs:List V4} (h:N9 w f n vs) {B:Nat} (a:Below B w w') (k:w.heap.size<=B):N9 w' f n vs:=
 ⟨h.len,h.max,fun i g=>by
  obtain ⟨b,c,e,d,j,a1,a2,a3⟩:=h.cell i g
  exact ⟨b,c,e,Br d a.size,(Ag a (by omega)).trans j,(Ag a (by omega)).trans a1,(Ag a (by omega)).trans a2,(Ag a (by omega)).trans a3⟩⟩
def Yr:(Tryz.prog.info? 321).map (fun i=>(i.zero,i.size,i.bytes))=some (some (.pointer none),1,8):=by kernel_rfl
def Zo (p:Nd):Value:=.pointer (some ⟨p.pb,0,none⟩)
structure NI (w:World) (vs:List V4) (k:Nat) (q:List Nd) (sv:Value) (wr:World):Prop where
 len:q.length=k
 head:wr.heap[w.heap.size]?=some (.cells #[sv] 354 (0,0))
 row:wr.ownsRow (w.heap.size+1) 321 1 sv k (q.map Zo)
 node:∀ i,i<k->Cg wr (nd q i).pb (nd q i).sb (nd q i).cap (nd q i).whole (nd q i).l/\(nd q i).whole=vv vs i/\(nd q i).l=[⟨0,vv vs i⟩]/\(vv vs i).right=true/\w.heap.size<(nd q i).pb/\w.heap.size<(nd q i).sb
 apart:∀ i j,i<k->j<k->i≠j->(nd q i).pb≠(nd q j).pb/\(nd q i).pb≠(nd q j).sb/\(nd q i).sb≠(nd q j).sb
 off:∀ i,i<k->∀ g,sv.ownBlock=some g->(nd q i).pb≠g/\(nd q i).sb≠g
 low:Below w.heap.size w wr
def Aqj (q:List Nd) (x:Nd) (i:Nat) (h:i<=q.length):nd (q++[x]) i=if i=q.length then x else nd q i:=by
 unfold nd;by_cases e:i=q.length
 .subst e;simp
 .rw [Ac e];simp [List.getD,Fv (show i<q.length by omega)]
def Zp {w w':World} {base size n:Nat} {e:TypeId} {v:Value} {xs:List Value} (h:w.ownsRow base e size v n xs) (c:∀ g,v.ownBlock=some g->w'.heap[g]?=w.heap[g]?):w'.ownsRow base e size v n xs:=by
 obtain ⟨h1,d⟩:=h;refine ⟨h1,?_⟩;rcases d with h | ⟨g,cap,a,b,f,i,j⟩
 .exact .inl h
 .exact .inr ⟨g,cap,a,b,f,(c g (by rw [b];rfl)).trans i,j⟩
def NI.step {w wr o w3:World} {vs:List V4} {k:Nat} {q:List Nd} {y v:Value} {X:Obj} {u x:Nat} (h:NI w vs k q y wr) (z:Below wr.heap.size wr o)
  (hp:Cg o u x 1 (vv vs k) [⟨0,vv vs k⟩]) (hr:(vv vs k).right=true) (h1:wr.heap.size<=u) (h2:wr.heap.size<=x)
  (r:w3.ownsRow (w.heap.size+1) 321 1 v (k+1) (q.map Zo++[.pointer (some ⟨u,0,none⟩)])) (a:(o.alloc X).grownBy w3 y.ownBlock)
  (ad:v.ownBlock=y.ownBlock\/v.ownBlock=some (o.alloc X).heap.size) :
  NI w vs (k+1) (q++[⟨u,x,1,vv vs k,[⟨0,vv vs k⟩]⟩]) v (w3.setCell ⟨w.heap.size,0,none⟩ v):=by
 have s:=h.len;have hl:=Ab h.head;have hs:=z.size;have al:=h.row.lt
 have p:∀ b,b<o.heap.size->(∀ g,y.ownBlock=some g->b≠g)->b≠w.heap.size->(w3.setCell ⟨w.heap.size,0,none⟩ v).heap[b]?=o.heap[b]?:=fun b b1 b2 b3=>by
  rw [Cd _ _ _ _ b3];exact (a.block b (by simp;omega) (fun c=>b2 b c.symm rfl)).trans (Gs o X b b1)
 have f:=fun i t=>(h.node i t).1.lt;have ac:=hp.lt
 have m:∀ g,y.ownBlock=some g->g<wr.heap.size/\w.heap.size<g:=fun g a=>by have:=al g a;omega
 have l:∀ i,i<k+1->nd (q++[⟨u,x,1,vv vs k,[⟨0,vv vs k⟩]⟩]) i=if i=k then ⟨u,x,1,vv vs k,[⟨0,vv vs k⟩]⟩ else nd q i:=fun i t=>by rw [Aqj _ _ _ (by omega),s]
 refine ⟨by simp [s],?_,?_,?_,?_,?_,?_⟩
 .rw [Al ((a.block w.heap.size (by simp;omega) (fun c=>by have:=m _ c.symm;omega)).trans ((Gs o X _ (by omega)).trans (Ae z h.head hl)))];simp
 .rw [Ds];refine Zp r fun g d=>Cd _ _ _ _ ?_;have:=r.lt g d;show g≠w.heap.size;omega
 .intro i t;rw [l i t];by_cases e:i=k
  .subst e;rw [Ad rfl];refine ⟨⟨?_,hp.row.of_block ?_,hp.ne⟩,rfl,rfl,hr,by simp only;omega,by simp only;omega⟩
   .exact (p u ac.1 (fun g a=>by have:=m g a;omega) (by omega)).trans hp.head
   .exact p x ac.2 (fun g a=>by have:=m g a;omega) (by omega)
  .rw [Ac e];obtain ⟨n1,n2,n3,n4,n5,n6⟩:=h.node i (by omega);have ho:=f i (by omega);have hf:=h.off i (by omega);refine ⟨⟨?_,n1.row.of_block ?_,n1.ne⟩,n2,n3,n4,n5,n6⟩
   .exact (p _ (by omega) (fun g a=>(hf g a).1) (by omega)).trans (Ae z n1.head ho.1)
   .exact (p _ (by omega) (fun g a=>(hf g a).2) (by omega)).trans (z.block _ ho.2)
 .intro i j t hj am;rw [l i t,l j hj];by_cases e1:i=k
  .have e2:j≠k:=(by omega);rw [Ad e1,Ac e2];have ho:=f j (by omega)
   refine ⟨?_,?_,?_⟩<;>simp only<;>omega
  .rw [Ac e1];have ho:=f i (by omega);by_cases e2:j=k
   .rw [Ad e2]
    refine ⟨?_,?_,?_⟩<;>simp only<;>omega
   .rw [Ac e2];exact h.apart i j (by omega) (by omega) am
 .intro i t g d;rw [l i t];have an:(o.alloc X).heap.size=o.heap.size+1:=by simp
  rcases ad with n | n
  .rw [n] at d;by_cases e:i=k
   .rw [Ad e];have:=m g d
    refine ⟨?_,?_⟩<;>simp only<;>omega
   .rw [Ac e];exact h.off i (by omega) g d
  .rw [n,an] at d;simp at d;by_cases e:i=k
   .rw [Ad e]
    refine ⟨?_,?_⟩<;>simp only<;>omega
   .rw [Ac e];have ho:=f i (by omega);omega
 .have n:=h.low.trans (z.mono h.low.size);exact ((n.alloc (by omega) X).grown a (by simp;omega) (fun g a=>by have:=m g a;omega)).setCell Ln _
def NI.dm {w wr:World} {vs:List V4} {n:Nat} {q:List Nd} {d:Value} (h:NI w vs n q d wr) (t:n<=16):∃ o e cap,d=.slice e n cap/\B4 wr w.heap.size o e cap q:=by
 have b:=h.len;rcases Joins.ownsRow_forms h.row with ⟨rfl,h0⟩ | ⟨g,cap,rfl⟩
 .refine ⟨0,none,0,by rw [h0],?_⟩;exact ⟨by rw [b,h0];exact h.head,fun c=>by omega,fun i a=>by omega,fun i a=>by omega,fun i a=>by omega,fun i j a=>by omega,fun i a=>by omega,by omega⟩
 .refine ⟨g,some ⟨g,0,none⟩,cap,rfl,?_⟩;refine ⟨by rw [b];exact h.head,fun _=>rfl,fun i a=>?_,fun i a=>(h.node i (by omega)).1,fun i a=>?_,fun i j a u=>h.apart i j (by omega) (by omega),fun i a=>?_,by omega⟩
  .rw [h.row.cellAt i (by omega)];simp [Zo,nd,List.getD,a]
  .obtain ⟨p,f,k,l,r,s⟩:=h.node i (by omega);rw [f,k];exact Apn l
  .obtain ⟨p,f,k,l,r,s⟩:=h.node i (by omega);have m:=h.off i (by omega) g rfl;exact ⟨by omega,by omega,m.1,m.2⟩
def Aqk (vs:List V4) (n:Nat) (w:World) (e:Ending) (w':World):Prop:=
 (¬ (n<=16/\∀ i,i<n->(vv vs i).right=true)/\e=.returned (.pointer none)/\Below w.heap.size w w') \/
 (n<=16/\(∀ i,i<n->(vv vs i).right=true)/\∃ gb gs ao cap ps,e=.returned (.pointer (some ⟨gb,0,none⟩))/\w.heap.size<=gb/\B4 w' gb gs ao cap ps/\ps.length=n /\
   (∀ i,i<n->(nd ps i).whole=vv vs i/\(nd ps i).l=[⟨0,vv vs i⟩])/\(∀ b,Bc ps b->w.heap.size<=b)/\Below w.heap.size w w')
def Aql (ao:Option Addr) (n c:Nat) (vs:List V4) (w:World) (hz:N9 w ao n vs):Calls Tryz.prog 235 #[.slice ao n c] w (Aqk vs n w):=by
 obtain ⟨aI,aD,aE,al,am⟩:=C0 Yr;have aM:=hz.max;replace hz:=Hh hz;by_cases q1:16<n
 .have d1:decide (16<(n:Int))=true:=by simp;omega
  go_enter Tryz.func235,Tryz.ntmps235;go_wp2;go_ret;exact .inl ⟨fun h=>by omega,rfl,Below.refl _ _⟩
 have d1:decide (16<(n:Int))=false:=by simp;omega
 replace q1:=Hh q1;go_enter Tryz.func235,Tryz.ntmps235;go_wp2;go_loopw [5,6,14] (fun _ _ i wr=>∃ (k:Nat) (q:List Nd) (sv:Value),i=.int .i64 k/\k<=n/\Hid (NI w vs k q sv wr)) (fun _ _ i _=>n-(intOf i).toNat)
 case atStart=>exact ⟨0,[],.slice none 0 0,rfl,Av _,⟨rfl,Af _ _,No _ _ _ _,fun i z=>by omega,fun i j z=>by omega,fun i z=>by omega,Bn⟩⟩
 case round=>
  obtain ⟨k,q,sv,rfl,hk,hN⟩:=hrel;by_cases hc:k<n
  .have aJ:(k:Int)<n:=(by omega);have aO:(0:Int)<=(k:Int):=(by omega);obtain ⟨b,aP,rfl,t,a0,a1,a2,a3⟩:=hz.out.cell k hc;have l:=hN.out.low;have b0:=(Ag l t).trans a0;have b1:=(Ag l t).trans a1;have b2:=(Ag l t).trans a2;have b3:=(Ag l t).trans a3;clear a0 a1 a2 a3;have s1:=l.size;have aK:=Ab hN.out.head;obtain ⟨x,hx⟩:=Ex (vv vs k);rw [<- hx] at b0 b1 b2 b3;replace ⟨hx,l⟩:=H2 hx l;go_wp2_with fail;refine (V5 x _).mono ?_;rintro e w2 (⟨hw,rfl,m⟩ | ⟨hw,pb,sb,rfl,hp,an,ap,m⟩)
   .have av:=(l.out.alloc s1 _).trans (m.mono (by simp;omega));replace ⟨av,m,hw⟩:=H3 av m hw;go_wp2;go_ret;refine .inl ⟨fun h=>?_,rfl,av.out⟩;have:=h.2 k hc;rw [<- hx.out,hw.out] at this;cases this
   .have t:=Bn.trans (m.mono (by simp));have aF:wr.heap.size<=pb:=(by simp at an;omega);have aG:wr.heap.size<=sb:=(by simp at ap;omega);have hh:=Ae t hN.out.head aK;have c0:=Aa hh 0;simp at c0;have s2:=t.size;have ac:=hN.out.row.lt;have o:=Zp hN.out.row fun g hg=>t.block g (ac g hg).2;have p:=o.alloc (.cells #[.pointer (some ⟨pb,0,none⟩)] 321 (0,0))
    have r:∀ j u,([.pointer (some ⟨pb,0,none⟩)]:List Value)[j]?=some u->(w2.alloc (.cells #[.pointer (some ⟨pb,0,none⟩)] 321 (0,0))).cell? ((⟨w2.heap.size,0,none⟩:Addr).add j)=some u:=by
     intro j u hu
     match j,hu with
     | 0,hu=>
      have:=Aa (Af w2 (.cells #[.pointer (some ⟨pb,0,none⟩)] 321 (0,0))) 0;simp at hu;subst hu;exact this
     | j+1,hu=>simp at hu
    have s:∀ u∈([.pointer (some ⟨pb,0,none⟩)]:List Value),u.oneCell'=true:=by simp [Value.oneCell']
    have aA:k+1<=maxLen:=by
     have:maxLen=9223372036854775807:=by kernel_rfl
     have:=q1.out;omega
    have aB:(k+1)*8<=140737488355328:=(by have:=q1.out;omega);have v:w.heap.size+1<=(w2.alloc (.cells #[.pointer (some ⟨pb,0,none⟩)] 321 (0,0))).heap.size:=(by simp;omega);have aH:=Ab hh;replace ⟨hh,t,m,hp,hw,ac,o,p⟩:=H8 hh t m hp hw ac o p;replace ⟨r,s,aA,aB,v,an,ap⟩:=H7 r s aA aB v an ap;go_wp2_with (at_builtin;refine Q6 _ rfl _ _ 352 rfl (w.heap.size+1) 321 aI _ 1 8 Tryz.underlying352 aD aE al am rfl (by decide) sv k _ rfl p.out ⟨w2.heap.size,0,none⟩ 1 1 [.pointer (some ⟨pb,0,none⟩)] rfl rfl r.out s.out aA.out aB.out v.out ?_;intro v1 w3 d f _ y;obtain ⟨g,aN,rfl⟩:=Joins.ownsRow_form d (by omega);have ad:=(f.block w.heap.size (by simp;omega) (fun c=>by have:=ac.out _ c.symm;omega)).trans ((Gs w2 _ _ aH).trans hh.out);have g3:=Aa ad 0;have f3:=Ah ad 0;simp at g3;replace ⟨d,f,y,ad⟩:=H4 d f y ad);go_roundw
    case rel=>
     refine ⟨k+1,_,_,by go_num,by omega,NI.step hN.out t.out (by rw [<- hx.out];exact hp.out) (by rw [<- hx.out];exact hw.out) aF aG d.out f.out y.out⟩
    case measure=>simp [intOf];omega
  .have aJ:¬ (k:Int)<n:=(by omega);have aC:k=n:=(by omega);replace aC:=Hh aC;go_wp2;go_ret;have a:=hN.out;rw [aC.out] at a;have hq:=q1.out;obtain ⟨gs,aL,cap,_,hP⟩:=a.dm (by omega);refine .inr ⟨by omega,fun i z=>(a.node i z).2.2.2.1,w.heap.size,gs,aL,cap,q,rfl,Nat.le_refl _,hP,a.len,fun i z=>⟨(a.node i z).2.1,(a.node i z).2.2.1⟩,?_,a.low⟩;rintro b ⟨i,z,h | h⟩
   .have:=(a.node i (by rw [<- a.len];exact z)).2.2.2.2.1;omega
   .have:=(a.node i (by rw [<- a.len];exact z)).2.2.2.2.2;omega
end Go.Proofs.YtimlcnhcjndijaaGreatDoor.Pl
