/- Parts of a proof. No condition. -/
import Derived.Test.YtimlcnhcjndijaaGreatDoorF21
set_option linter.all false
set_option maxRecDepth 100000
set_option maxHeartbeats 3200000
namespace Go.Proofs.YtimlcnhcjndijaaGreatDoor
open Go renaming World->WD,Value->VL,Calls->CS
open Go.RowKit renaming Below->BW
open Go.Proofs.Tryz
namespace Pl
open Go.RowKit
variable{zs:List Int}{xs:List Nat}{l:List St}{B L base cap gb gs:Nat}{po:Option Addr}{v whole:V4}{w w' wr:WD}
def V9 {P:Program} {t e:TypeId} {i:TypeInfo} (d:P.underlying t=some (.slice e)) (f:P.info? e=some i) (b:Addr) (a cap n:Nat) (x:Int) (j:x=n) (g:n<=cap) (w:WD) :
  (Instr.slice t (.slice (some b) a cap) none (some (.int .i64 x)) none).run P w=.ok (.slice (some b) n cap) w:=by
 subst j
 have h1:∀ (y:Nat) (_:n<=y) c,(Instr.sliceBound (.int .i64 (n:Int)) y c).run P w=.ok n w:=fun y h c=>by
  simp [Instr.sliceBound,asIntOf,h]
 simp [Instr.slice,Instr.sliceBounds,Mu d,h1 cap g,sizeOf,typeInfo,f,Addr.add]
def Se (R:V4->List St->Int->List St->Prop) (F:FuncId) (f1 f2 f3:Nat) (C:WD->Prop):Prop:=
 ∀ pb sb cap whole l w1,Ci w1 pb sb cap whole l->Inv whole l->C w1 ->
  CS prog F #[.pointer (some ⟨pb,0,none⟩),.pointer (some ⟨f1,0,none⟩),.pointer (some ⟨f2,0,none⟩),.pointer (some ⟨f3,0,none⟩)] w1 (Aar pb sb whole (fun r l'=>R whole l r l'/\Inv whole l') w1)
structure gz (w:WD) (ps q:List Nd):Prop where
 len:q.length=ps.length
 pb:∀ i,i<ps.length->(nd q i).pb=(nd ps i).pb
 whole:∀ i,i<ps.length->(nd q i).whole=(nd ps i).whole
 sb:∀ i,i<ps.length->(nd q i).sb=(nd ps i).sb\/w.heap.size<=(nd q i).sb
def gz.refl (w:WD) (a:List Nd):gz w a a:=⟨rfl,fun _ _=>rfl,fun _ _=>rfl,fun _ _=>.inl rfl⟩
def gz.fh  {c q:List Nd} (h:gz w c q) {b:Nat} (d:Bd q b):Bd c b\/w.heap.size<=b:=by
 obtain ⟨i,a,e⟩:=d;rw [h.len] at a;rcases e with e | e
 .exact .inl ⟨i,a,.inl (e.trans (h.pb i a))⟩
 .rcases h.sb i a with h1 | h1
  .exact .inl ⟨i,a,.inr (e.trans h1)⟩
  .exact .inr (by omega)
def Agy {w wr n:WD} {o p cap:Nat}  {h q:List Nd} {i f g:Nat} {k:List St} (d:gz w h q) (u:Bz wr o p po cap q) (r:Mod (Bd h) w wr) (x:i<h.length)
  (z:Ci n (nd q i).pb f g (nd q i).whole k) (y:Inv (nd q i).whole k) (t:f=(nd q i).sb\/wr.heap.size<=f) (s:Mod (fun b=>b=(nd q i).pb\/b=(nd q i).sb) wr n) :
  ∃ m,Bz n o p po cap m/\gz w h m/\Mod (Bd h) w n/\(nd m i).l=k/\∀ j,j≠i->(nd m j).l=(nd q j).l:=by
 have a:i<q.length:=by rw [d.len];exact x
 refine ⟨q.set i ⟨(nd q i).pb,f,g,(nd q i).whole,k⟩,u.ji a z y t s,⟨by rw [Dm];exact d.len,?_,?_,?_⟩,?_,?_,?_⟩
 .intro j c;rw [Mg _ a];split
  .rename_i e;subst e;exact d.pb j c
  .exact d.pb j c
 .intro j c;rw [Mg _ a];split
  .rename_i e;subst e;exact d.whole j c
  .exact d.whole j c
 .intro j c;rw [Mg _ a];split
  .rename_i e;subst e;rcases t with e | e
   .rw [e];exact d.sb j c
   .exact .inr (A5 r.size e)
  .exact d.sb j c
 .refine r.trans (s.mono fun b _ v=>?_);exact d.fh ⟨i,a,v⟩
 .rw [Mg _ a,Ad rfl]
 .intro j c;rw [Mg _ a,Ac c]
def Bs (zs:List Int) (k i:Nat):Prop:=∃ j,j<k/\zi zs j=(i:Int)
def Aaz (R U:V4->List St->Int->List St->Prop) (ps:List Nd) (zs:List Int) (r:Int) (ps':List Nd):Prop:=
 (¬ Dv ps.length zs/\r=1/\ps'=ps) \/
 (Dv ps.length zs/\r=0/\∀ i,i<ps.length->(Bs zs zs.length i->R (nd ps i).whole (nd ps i).l 0 (nd ps' i).l)/\(¬ Bs zs zs.length i->(nd ps' i).l=(nd ps i).l)) \/
 (Dv ps.length zs/\r≠0/\∃ k c:Nat,k<zs.length/\zi zs k=(c:Int)/\c<ps.length/\R (nd ps c).whole (nd ps c).l r (nd ps' c).l /\
   ∀ i,i<ps.length->(Bs zs k i->∃ m r2,R (nd ps i).whole (nd ps i).l 0 m/\Inv (nd ps i).whole m/\U (nd ps i).whole m r2 (nd ps' i).l)/\(¬ Bs zs k i->i≠c->(nd ps' i).l=(nd ps i).l))
def Arx (R U:V4->List St->Int->List St->Prop) (gb gs cap:Nat) (po:Option Addr) (ps:List Nd) (zs:List Int) (w:WD) (e:Ending) (w':WD):Prop:=
 ∃ r ps',e=.returned (.int .i64 r)/\Aaz R U ps zs r ps'/\Bz w' gb gs po cap ps'/\gz w ps ps'/\Mod (Bd ps) w w'
def Oc  {k i:Nat}:Bs zs (k+1) i↔Bs zs k i\/zi zs k=(i:Int):=by
 constructor
 .rintro ⟨j,a,e⟩;by_cases h:j=k
  .subst h;exact .inr e
  .exact .inl ⟨j,by omega,e⟩
 .rintro (⟨j,a,e⟩ | e)
  .exact ⟨j,by omega,e⟩
  .exact ⟨k,by omega,e⟩
def Ary {n:Nat}  (h:Dv n zs) {i j:Nat} (a:i<j) (b:j<zs.length):zi zs i<zi zs j:=by
 induction j with
 | zero=>omega
 | succ m ih=>
  have:=h.az m b;by_cases e:i=m
  .subst e;exact this
  .exact Vx (ih (by omega) (by omega)) this
def Aa0 {n:Nat}  (h:Dv n zs) {k i:Nat} (b:k<zs.length) (e:zi zs k=(i:Int)):¬ Bs zs k i:=by
 rintro ⟨j,a,c⟩;have:=Ary h a b;omega
def Agz (R U:V4->List St->Int->List St->Prop) (F G:FuncId) (f1 f2 f3:Nat) (C:WD->Prop) (gb gs cap:Nat) (po:Option Addr) (f:List Nd) (ao:Option Addr) (m c:Nat) (zs:List Int) (w:WD)
  (hp:Bz w gb gs po cap f) (hz:∀ w',Mod (Bd f) w w'->Ar w' ao m zs) (bo:m<=c) (hC:∀ w',Mod (Bd f) w w'->C w')
  (hF:∀ args w,(callFunc F args).run prog w=.ok (.enter F args) w) (hG:∀ args w,(callFunc G args).run prog w=.ok (.enter G args) w) (HR:Se R F f1 f2 f3 C) (HU:Se U G f1 f2 f3 C) :
  CS prog 244 #[.pointer (some ⟨gb,0,none⟩),.slice ao m c,.func (.func F) #[] #[.pointer (some ⟨f1,0,none⟩),.pointer (some ⟨f2,0,none⟩),.pointer (some ⟨f3,0,none⟩)],
   .func (.func G) #[] #[.pointer (some ⟨f1,0,none⟩),.pointer (some ⟨f2,0,none⟩),.pointer (some ⟨f3,0,none⟩)]] w (Arx R U gb gs cap po f zs w):=by
 obtain ⟨i3,a7,_,_,_⟩:=Cb M1;have aE:=hz w (Mod.refl _ _);have aK:=aE.len;have be:=aE.max;obtain ⟨n,hn⟩:=Ex (f.length);have y:=Arw gb gs cap po f ao m c zs w hp aE;replace ⟨y,hp,hz,aE,hC,HR,HU,aK⟩:=H8 y hp hz aE hC HR HU aK;replace hn:=Hh hn;go_enter func244,ntmps244;go_wp2_with fail;refine y.mono ?_;rintro e w1 ⟨b,rfl,hb,an⟩;replace an:=Hh an;cases b
 .have aW:¬ Dv f.length zs:=fun h=>by have:=hb.2 h;simp at this
  replace ⟨aW,hb⟩:=H2 aW hb;go_wp2;go_ret;exact ⟨1,f,rfl,.inl ⟨aW.out,rfl,rfl⟩,hp.below an.out,gz.refl _ _,Mod.af an.out⟩
 have x:=hb.1 rfl;have aV:0<f.length:=by have h1:=x.low 0 x.pos;have h2:=x.high 0 x.pos;omega
 have a9:=hp.addr aV;subst a9;replace ⟨x,hb,aV⟩:=H3 x hb aV;go_wp2
 go_loopw [9,10,11,20] (fun _ _ _ i wr=>∃ (k:Nat) (q:List Nd),i=.int .i64 k/\k<=m/\Hid (Bz wr gb gs (some ⟨gs,0,none⟩) cap q)/\Hid (gz w f q)/\Hid (Mod (Bd f) w wr) /\
  Hid (∀ i,i<f.length->(Bs zs k i->R (nd f i).whole (nd f i).l 0 (nd q i).l)/\(¬ Bs zs k i->(nd q i).l=(nd f i).l))) (fun _ _ _ i _=>m-(intOf i).toNat)
 case atStart=>exact ⟨0,f,rfl,Aq _,hp.below an.out,gz.refl _ _,Mod.af an.out,fun i z=>⟨fun h=>by obtain ⟨j,hj,_⟩:=h;omega,fun _=>rfl⟩⟩
 case round=>
  obtain ⟨k,q,rfl,hk,hP,hK,hM,hD⟩:=hrel;by_cases hc:k<m
  .have a6:(k:Int)<m:=(by omega);have bn:(0:Int)<=(k:Int):=(by omega);have s:k<zs.length:=(by rw [aK.out];exact hc);obtain ⟨b,ba,aP,bd,b0⟩:=(hz wr hM.out).cell k hc;subst aP;obtain ⟨u,p⟩:∃ u:Nat,zi zs k=(u:Int):=⟨(zi zs k).toNat,by have:=x.low k s;omega⟩;have a3:u<n:=(by have:=x.high k s;rw [hn.out];omega);have a:u<f.length:=(by rw [<- hn.out];exact a3);rw [p] at b0;have bi:(u:Int)<n:=(by omega);have bg:(0:Int)<=(u:Int):=(by omega);have hh:=hP.head;rw [hK.len,<- hn.out] at hh;have c0:=Aa hh 0;simp at c0;have p0:=hP.ptr u (by rw [hK.len];exact a);have al:=hP.fj u (by rw [hK.len];exact a);have aB:=hP.inv u (by rw [hK.len];exact a);have hd:=HR _ _ _ _ _ _ al aB (hC wr hM.out);replace ⟨hd,hh,al,aB,p,s,a⟩:=H7 hd hh al aB p s a;go_wp2_with fail
   (with_reducible refine hd.out.mono ?_)
   rintro e w2 ⟨r,bx,bb,l',rfl,⟨hR,hI⟩,aX,aZ,aT⟩;obtain ⟨q2,av,o,aH,e1,e2⟩:=Agy hK.out hP.out hM.out a.out aX hI aZ aT;have t:=((hD u a.out).2 (Aa0 x.out s.out p.out));have aD:=hK.whole u a.out;rw [t,aD] at hR;rw [<- e1] at hR;clear e1 t aD c0 p0 b0;replace ⟨hR,hI,aX,aZ,aT,av,o,aH⟩:=H8 hR hI aX aZ aT av o aH;replace e2:=Hh e2;by_cases hr:r=0
   .subst hr;go_wp2;go_roundw
    case rel=>
     refine ⟨k+1,q2,by go_num,by omega,av.out,o.out,aH.out,fun i z=>⟨fun h=>?_,fun h=>?_⟩⟩
     .by_cases e:i=u
      .subst e;exact hR.out
      .rw [e2 i e];rcases Oc.1 h with h | h
       .exact (hD i z).1 h
       .rw [p.out] at h;exact absurd (by omega) e
     .have ad:i≠u:=fun e=>h (Oc.2 (.inr (by rw [e];exact p.out)));rw [e2 i ad];exact (hD i z).2 fun h2=>h (Oc.2 (.inl h2))
    case measure=>simp [intOf];omega
   .have dr:(r == 0)=false:=(by simpa using hr);have bs:=fun w=>V9 (P:=prog) Nn a7 ⟨b,ba,none⟩ m c k (k:Int) rfl (by omega) w;replace hr:=Hh hr;go_wp2
    go_loopw [13,40] (fun _ i wx=>∃ (j:Nat) (q3:List Nd),i=.int .i64 j/\j<=k/\Hid (Bz wx gb gs (some ⟨gs,0,none⟩) cap q3)/\Hid (gz w f q3)/\Hid (Mod (Bd f) w wx) /\
     Hid (∀ i,i<f.length->(Bs zs j i->∃ r2,U (nd q2 i).whole (nd q2 i).l r2 (nd q3 i).l)/\(¬ Bs zs j i->(nd q3 i).l=(nd q2 i).l))) (fun _ i _=>k-(intOf i).toNat)
    case atStart=>exact ⟨0,q2,rfl,Aq _,av.out,o.out,aH.out,fun i z=>⟨fun h=>by obtain ⟨j,hj,_⟩:=h;omega,fun _=>rfl⟩⟩
    case round=>
     obtain ⟨j,q3,rfl,hj,am,v,aI,aF⟩:=hrel;by_cases bl:j<k
     .have a8:(j:Int)<k:=(by omega);have bk:(0:Int)<=(j:Int):=(by omega);have aC:j<zs.length:=(by have:=s.out;omega);obtain ⟨b',bf,aP,a5,b0⟩:=(hz wr aI.out).cell j (by omega);cases aP;obtain ⟨jx,ap⟩:∃ jx:Nat,zi zs j=(jx:Int):=⟨(zi zs j).toNat,by have:=x.low j aC;omega⟩;have a4:jx<n:=(by have:=x.high j aC;rw [hn.out];omega);have d:jx<f.length:=(by rw [<- hn.out];exact a4);rw [ap] at b0;have bw:(jx:Int)<n:=(by omega);have bv:(0:Int)<=(jx:Int):=(by omega);have aJ:=am.head;rw [v.len,<- hn.out] at aJ;have c0:=Aa aJ 0;simp at c0;have p0:=am.ptr jx (by rw [v.len];exact d);have g:=am.fj jx (by rw [v.len];exact d);have ac:=am.inv jx (by rw [v.len];exact d);have aQ:=HU _ _ _ _ _ _ g ac (hC wr aI.out);replace ⟨aQ,aJ,g,ac,ap,aC,d⟩:=H7 aQ aJ g ac ap aC d;go_wp2_with fail
      (with_reducible refine aQ.out.mono ?_)
      rintro e w4 ⟨r4,bA,bc,l4,rfl,⟨aA,aL⟩,aY,a0,aU⟩;obtain ⟨q4,aO,aM,aN,e3,e4⟩:=Agy v.out am.out aI.out d.out aY aL a0 aU;have t:=((aF jx d.out).2 (Aa0 x.out aC.out ap.out));have aD:=(v.whole jx d.out).trans (o.whole jx d.out).symm;rw [t,aD] at aA;rw [<- e3] at aA;clear e3 t aD c0 p0 b0;replace ⟨aA,aL,aY,a0,aU,aO,aM,aN⟩:=H8 aA aL aY a0 aU aO aM aN;replace e4:=Hh e4;go_wp2;go_roundw
      case rel=>
       refine ⟨j+1,q4,by go_num,by omega,aO.out,aM.out,aN.out,fun i z=>⟨fun h=>?_,fun h=>?_⟩⟩
       .by_cases e:i=jx
        .subst e;exact ⟨r4,aA.out⟩
        .rw [e4 i e];rcases Oc.1 h with h | h
         .exact (aF i z).1 h
         .rw [ap.out] at h;exact absurd (by omega) e
       .have ad:i≠jx:=fun e=>h (Oc.2 (.inr (by rw [e];exact ap.out)));rw [e4 i ad];exact (aF i z).2 fun h2=>h (Oc.2 (.inl h2))
      case measure=>simp [intOf];omega
     .have a8:¬ (j:Int)<k:=(by omega);have aR:j=k:=(by omega);replace aR:=Hh aR;go_wp2;go_ret;have aG:=aF.out;rw [aR.out] at aG;have a2:=Aa0 x.out s.out p.out;refine ⟨r,q3,rfl,.inr (.inr ⟨x.out,hr.out,k,u,s.out,p.out,a.out,?_,fun i z=>⟨fun h=>?_,fun h ad=>?_⟩⟩),am.out,v.out,aI.out⟩
      .rw [(aG u a.out).2 a2];exact hR.out
      .have ad:i≠u:=fun e=>a2 (e▸h);obtain ⟨r2,hu⟩:=(aG i z).1 h;rw [o.whole i z] at hu;refine ⟨(nd q2 i).l,r2,?_,?_,hu⟩
       .rw [e2 i ad];exact (hD i z).1 h
       .have:=av.inv i (by rw [o.len];exact z);rw [o.whole i z] at this;exact this
      .rw [(aG i z).2 h,e2 i ad];exact (hD i z).2 h
  .have a6:¬ (k:Int)<m:=(by omega);have aS:k=zs.length:=(by rw [aK.out];omega);replace aS:=Hh aS;go_wp2;go_ret;have a1:=hD.out;rw [aS.out] at a1;exact ⟨0,q,rfl,.inr (.inl ⟨x.out,rfl,a1⟩),hP.out,hK.out,hM.out⟩
def bits (f:Nat->Bool):Array VL:=#[.bool (f 0),.bool (f 1),.bool (f 2),.bool (f 3),.bool (f 4),.bool (f 5),.bool (f 6),.bool (f 7),.bool (f 8),.bool (f 9),.bool (f 10),.bool (f 11),.bool (f 12),.bool (f 13),.bool (f 14),.bool (f 15)]
def Ag0 {i:Nat} (h:i<16):i=0\/i=1\/i=2\/i=3\/i=4\/i=5\/i=6\/i=7\/i=8\/i=9\/i=10\/i=11\/i=12\/i=13\/i=14\/i=15:=by omega
def Ag1 (f:Nat->Bool) {i:Nat} (h:i<16):(bits f)[i]?=some (.bool (f i)):=by
 rcases Ag0 h with rfl | rfl | rfl | rfl | rfl | rfl | rfl | rfl | rfl | rfl | rfl | rfl | rfl | rfl | rfl | rfl<;>rfl
def Arz (f:Nat->Bool) {i:Nat} (h:i<16):(bits f).setIfInBounds i (.bool true)=bits fun j=>if j=i then true else f j:=by
 rcases Ag0 h with rfl | rfl | rfl | rfl | rfl | rfl | rfl | rfl | rfl | rfl | rfl | rfl | rfl | rfl | rfl | rfl<;>rfl
def T5:(prog.info? 364).map (·.size)=some 16:=by kernel_rfl
def Ar0 (f:Nat->Bool) (k:Nat) (a:k<16) (w:WD):(Instr.index 364 (.agg (bits f)) (.int .i64 (k:Int))).run prog w=.ok (.bool (f k)) w:=by
 have h1:(0:Int)<=(k:Int)/\(k:Int)<16:=by omega
 simp [Instr.index,asIntOf,Mu Vb,part,h1,a,Ag1 f a]
def Ag2 {B b:Nat} {a w:WD} (h:BW B a w) (d:B<=b) (cs:Array VL):BW B a (w.setRow b cs):=
 ⟨h.os,h.tape,h.output,by simpa using h.size,fun k c=>(Te w b k cs (by omega)).trans (h.block k c)⟩
def Ar1 (n:Nat) (zs:List Int) (w:WD) (e:Ending) (w':WD):Prop:=
 ∃ f:Nat->Bool,e=.returned (.agg (bits f))/\(∀ i,f i=true↔i<n/\Bs zs zs.length i)/\BW w.heap.size w w'
def Aa1:(#[.bool false,.bool false,.bool false,.bool false,.bool false,.bool false,.bool false,.bool false,.bool false,.bool false,.bool false,.bool false,.bool false,.bool false,.bool false,.bool false]:Array VL)=bits fun _=>false:=rfl
def Ar2 (gb gs cap:Nat) (po:Option Addr) (ps:List Nd) (ao:Option Addr) (m c:Nat) (zs:List Int) (w:WD) (hp:Bz w gb gs po cap ps) (hz:Ar w ao m zs) :
  CS prog 285 #[.pointer (some ⟨gb,0,none⟩),.slice ao m c] w (Ar1 ps.length zs w):=by
 obtain ⟨n,hn⟩:=Ex (ps.length);have hh:=hp.head;have ad:=hp.ml;rw [<- hn] at hh ad;have c0:=Aa hh 0;simp at c0;have ap:=Ab hh;rw [<- hn];clear hp hh hn;have s:=hz.len;have aA:=hz.max;replace ⟨hz,s⟩:=H2 hz s;go_enter func285,ntmps285;go_wp2;go_loopw [7,10] (fun _ i wr=>∃ (k:Nat) (f:Nat->Bool),i=.int .i64 k/\k<=m/\Hid (∀ i,f i=true↔i<n/\Bs zs k i)/\Hid (wr.heap[w.heap.size+1]?=some (.cells (bits f) 364 (0,0)))/\Hid (wr.heap[w.heap.size]?=some (.cells (bits fun _=>false) 364 (0,0)))/\Hid (BW w.heap.size w wr)) (fun _ i _=>m-(intOf i).toNat)
 case atStart=>
  refine ⟨0,fun _=>false,rfl,Aq _,fun i=>⟨fun h=>by simp at h,fun h=>by obtain ⟨_,j,hj,_⟩:=h;omega⟩,?_,?_,Bn.alloc (by simp) _⟩
  .rw [<- Aa1];exact A3 _ _ (by simp)
  .rw [<- Aa1];exact Aj _ (Ah _ _)
 case round=>
  obtain ⟨k,f,rfl,hk,hf,p,q,l⟩:=hrel;have g0:=(Ag (o:=0) l.out ap).trans c0;by_cases hc:k<m
  .have an:(k:Int)<m:=(by omega);have aC:(0:Int)<=(k:Int):=(by omega);obtain ⟨b,aD,rfl,hb,a0⟩:=hz.cell k hc;have b0:=(Ag l.out hb).trans a0;clear a0;obtain ⟨x,hx⟩:=Ex (zi zs k);rw [<- hx] at b0;replace hx:=Hh hx;by_cases y:0<=x;rotate_left
   .have d1:decide (0<=x)=false:=by simpa using y
    have a:∀ i,f i=true↔i<n/\Bs zs (k+1) i:=fun i=>by
     rw [hf i,Oc,<- hx.out];constructor
     .exact fun h=>⟨h.1,.inl h.2⟩
     .rintro ⟨h1,u | u⟩
      .exact ⟨h1,u⟩
      .omega
    replace ⟨y,a⟩:=H2 y a;go_wp2;go_roundw
    case rel=>exact ⟨k+1,f,by go_num,by omega,a.out,p.out,q.out,l.out⟩
    case measure=>simp [intOf];omega
   have d1:decide (0<=x)=true:=(by simpa using y);by_cases q2:x<n;rotate_left
   .have d2:decide (x<(n:Int))=false:=by simpa using q2
    have a:∀ i,f i=true↔i<n/\Bs zs (k+1) i:=fun i=>by
     rw [hf i,Oc,<- hx.out];constructor
     .exact fun h=>⟨h.1,.inl h.2⟩
     .rintro ⟨h1,u | u⟩
      .exact ⟨h1,u⟩
      .omega
    replace ⟨y,q2,a⟩:=H3 y q2 a;go_wp2;go_roundw
    case rel=>exact ⟨k+1,f,by go_num,by omega,a.out,p.out,q.out,l.out⟩
    case measure=>simp [intOf];omega
   obtain ⟨t,rfl⟩:∃ t:Nat,x=(t:Int):=⟨x.toNat,by omega⟩;have d2:decide ((t:Int)<(n:Int))=true:=(by simpa using q2);have aB:=q2;have av:(t:Int)<16:=(by omega);have al:t<16:=(by omega);have cc:=Aa p.out t;rw [Ag1 f al] at cc;have ff:=Af p.out t
   have d:∀ i,(fun j=>if j=t then true else f j) i=true↔i<n/\Bs zs (k+1) i:=fun i=>by
    simp only;rw [Oc,<- hx.out];by_cases e:i=t
    .subst e;rw [Ad rfl];exact ⟨fun _=>⟨by omega,.inr rfl⟩,fun _=>rfl⟩
    .rw [Ac e,hf i];constructor
     .exact fun h=>⟨h.1,.inl h.2⟩
     .rintro ⟨h1,u | u⟩
      .exact ⟨h1,u⟩
      .omega
   replace ⟨y,q2,d⟩:=H3 y q2 d;go_wp2;go_roundw
   case rel=>
    refine ⟨k+1,_,by go_num,by omega,d.out,?_,C0 (by omega) _ q.out,l.setCell (by simp) _⟩;show _=_;rw [Am p.out,Arz f al]
   case measure=>simp [intOf];omega
  .have an:¬ (k:Int)<m:=(by omega);have ac:k=zs.length:=(by rw [s.out];omega);have am:(bits f).all (·.oneCell')=true:=(by simp [bits,Value.oneCell']);have r:=My wr w.heap.size _ (bits f) 364 (0,0) q.out;have z:=Ag2 l.out Ln (bits f);have g:=hf.out;rw [ac] at g;replace ⟨ac,g,r,z⟩:=H4 ac g r z;go_wp2_with (first | (refine Vh rfl 364 _ rfl (w.heap.size+1) rfl 364 (bits f) (0,0) _ p.out Vb rfl T5 ?_) | (refine Nu rfl 364 _ _ rfl w.heap.size (bits f) rfl rfl 364 _ q.out T5 rfl am ?_));refine Ak (v:=.agg (bits f)) ?_ rfl ?_
   .exact results_cell_row rfl _ _ w.heap.size 364 (bits f) (0,0) _ rfl r.out Vb rfl T5
   .exact ⟨f,rfl,g.out,z.out⟩
def Ar3  {l m f:List St} {fr g r:Int}  (d:Inv whole l) (b:Inv whole f) (q:Qo l fr g v 0 m) (p:Qp whole m fr g v r f):f=l:=by
 rcases q with ⟨_,h,_⟩ | ⟨_,_,h,_⟩ | ⟨j,i,_,k⟩
 .exact absurd h (by decide)
 .exact absurd h (by decide)
 obtain ⟨s,t,x,y⟩:=Me j
 have a:∀ u,fr<=u->u<g->As (val m u) v=val l u:=fun u h1 c=>by
  rw [k u (by omega) (by omega),Ad ⟨h1,c⟩];simp only [As,Nc,Int.sub_add_cancel]
 rcases p with ⟨h,_⟩ | ⟨_,h,_⟩ | ⟨_,_,_,e⟩
 .rw [j] at h;cases h
 .exact absurd (fun u h1 c=>by rw [a u h1 c];exact Kn.1 (d.free u (by omega) (by omega)).2) h
 .refine Aav b.loose d.loose b.gw d.gw fun u n o=>?_;rw [e u n o];split
  .rename_i h;exact a u h.1 h.2
  .rename_i h;rw [k u n o,Ac h]
def Ar4  {l m g:List St} {fr i r:Int}  (d:Inv whole l) (b:Inv whole g) (p:Qp whole l fr i v 0 m) (q:Qo m fr i v r g):g=l:=by
 rcases p with ⟨_,h,_⟩ | ⟨_,_,h,_⟩ | ⟨k,j,_,e⟩
 .exact absurd h (by decide)
 .exact absurd h (by decide)
 obtain ⟨s,t,x,y⟩:=Me k
 have a:∀ u,fr<=u->u<i->Nc (val m u) v=val l u:=fun u h1 c=>by
  rw [e u (by omega) (by omega),Ad ⟨h1,c⟩];simp only [As,Nc,Int.add_sub_cancel]
 rcases q with ⟨h,_⟩ | ⟨_,h,_⟩ | ⟨_,_,_,f⟩
 .rw [k] at h;cases h
 .refine absurd (fun u h1 c=>?_) h;rw [e u (by omega) (by omega),Ad ⟨h1,c⟩];have:=Fh.1 (d.free u (by omega) (by omega)).1
  refine ⟨?_,?_,?_,?_⟩<;>simp only [As]<;>omega
 .refine Aav b.loose d.loose b.gw d.gw fun u n o=>?_;rw [f u n o];split
  .rename_i h;exact a u h.1 h.2
  .rename_i h;rw [e u n o,Ac h]
def Od (ps ps':List Nd):Prop:=∀ i,i<ps.length->(nd ps' i).l=(nd ps i).l
def Lh (ps:List Nd) (zs:List Int) (fr tt:Int) (v:V4) (r:Int) (ps':List Nd):Prop:=
 (¬ (Dv ps.length zs/\Bi fr tt v=true)/\r=1/\Od ps ps') \/
 (Dv ps.length zs/\Bi fr tt v=true/\¬ (∀ i,i<ps.length->Bs zs zs.length i->∀ u,fr<=u->u<tt->v.leq (val (nd ps i).l u))/\r=60/\Od ps ps') \/
 (Dv ps.length zs/\Bi fr tt v=true/\(∀ i,i<ps.length->Bs zs zs.length i->∀ u,fr<=u->u<tt->v.leq (val (nd ps i).l u))/\r=0 /\
   ∀ i,i<ps.length->(Bs zs zs.length i->∀ u,0<=u->u<1099511627776->val (nd ps' i).l u=if fr<=u/\u<tt then Nc (val (nd ps i).l u) v else val (nd ps i).l u)/\(¬ Bs zs zs.length i->(nd ps' i).l=(nd ps i).l))
def Xg (ps:List Nd) (zs:List Int) (fr tt:Int) (v:V4) (r:Int) (ps':List Nd):Prop:=
 (¬ (Dv ps.length zs/\Bi fr tt v=true)/\r=1/\Od ps ps') \/
 (Dv ps.length zs/\Bi fr tt v=true/\¬ (∀ i,i<ps.length->Bs zs zs.length i->∀ u,fr<=u->u<tt->(As (val (nd ps i).l u) v).leq (nd ps i).whole)/\r=61/\Od ps ps') \/
 (Dv ps.length zs/\Bi fr tt v=true/\(∀ i,i<ps.length->Bs zs zs.length i->∀ u,fr<=u->u<tt->(As (val (nd ps i).l u) v).leq (nd ps i).whole)/\r=0 /\
   ∀ i,i<ps.length->(Bs zs zs.length i->∀ u,0<=u->u<1099511627776->val (nd ps' i).l u=if fr<=u/\u<tt then As (val (nd ps i).l u) v else val (nd ps i).l u)/\(¬ Bs zs zs.length i->(nd ps' i).l=(nd ps i).l))
def Ag3 {n:Nat}  (h:Dv n zs):∃ i,i<n/\Bs zs zs.length i:=
 ⟨(zi zs 0).toNat,by have:=h.low 0 h.pos;have:=h.high 0 h.pos;omega,0,h.pos,by have:=h.low 0 h.pos;omega⟩
def Ar5    {d b:List Nd}  {fr o r:Int}  (q:∀ i,i<d.length->Inv (nd d i).whole (nd d i).l)
  (hP:Bz w' gb gs po cap b) (ad:b.length=d.length) (ac:∀ i,i<d.length->(nd b i).whole=(nd d i).whole)
  (h:Aaz (fun _ l r l'=>Qo l fr o v r l') (fun whole l r l'=>Qp whole l fr o v r l') d zs r b):Lh d zs fr o v r b:=by
 rcases h with ⟨n,rfl,rfl⟩ | ⟨n,rfl,a⟩ | ⟨n,hr,k,c,hk,hc,x,hR,a⟩
 .exact .inl ⟨fun h=>n h.1,rfl,fun _ _=>rfl⟩
 .obtain ⟨i0,h0,h1⟩:=Ag3 n
  have ok:∀ i,i<d.length->Bs zs zs.length i->Bi fr o v=true/\(∀ u,fr<=u->u<o->v.leq (val (nd d i).l u))/\∀ u,0<=u->u<1099511627776->val (nd b i).l u=if fr<=u/\u<o then Nc (val (nd d i).l u) v else val (nd d i).l u:=fun i f j=>by
   rcases (a i f).1 j with ⟨_,h,_⟩ | ⟨_,_,h,_⟩ | ⟨s,y,_,hv⟩
   .exact absurd h (by decide)
   .exact absurd h (by decide)
   .exact ⟨s,y,hv⟩
  exact .inr (.inr ⟨n,(ok i0 h0 h1).1,fun i f j=>(ok i f j).2.1,rfl,fun i f=>⟨fun j=>(ok i f j).2.2,(a i f).2⟩⟩)
 .have g:(nd b c).l=(nd d c).l->Od d b:=fun t i f=>by
   by_cases e:i=c
   .subst e;exact t
   .by_cases j:Bs zs k i
    .obtain ⟨m,r2,ht,hm,hu⟩:=(a i f).1 j;have p:=hP.inv i (by omega);rw [ac i f] at p;exact Ar3 (q i f) p ht hu
    .exact (a i f).2 j e
  rcases hR with ⟨s,rfl,z⟩ | ⟨s,y,rfl,z⟩ | ⟨_,_,h,_⟩
  .exact .inl ⟨fun h=>by rw [s] at h;exact absurd h.2 (by simp),rfl,g z⟩
  .exact .inr (.inl ⟨n,s,fun h=>y (h c x ⟨k,hk,hc⟩),rfl,g z⟩)
  .exact absurd h hr
def Ar6    {d b:List Nd}  {fr o r:Int}  (q:∀ i,i<d.length->Inv (nd d i).whole (nd d i).l)
  (hP:Bz w' gb gs po cap b) (ad:b.length=d.length) (ac:∀ i,i<d.length->(nd b i).whole=(nd d i).whole)
  (h:Aaz (fun whole l r l'=>Qp whole l fr o v r l') (fun _ l r l'=>Qo l fr o v r l') d zs r b):Xg d zs fr o v r b:=by
 rcases h with ⟨n,rfl,rfl⟩ | ⟨n,rfl,a⟩ | ⟨n,hr,k,c,hk,hc,x,hR,a⟩
 .exact .inl ⟨fun h=>n h.1,rfl,fun _ _=>rfl⟩
 .obtain ⟨i0,h0,h1⟩:=Ag3 n
  have ok:∀ i,i<d.length->Bs zs zs.length i->Bi fr o v=true/\(∀ u,fr<=u->u<o->(As (val (nd d i).l u) v).leq (nd d i).whole)/\∀ u,0<=u->u<1099511627776->val (nd b i).l u=if fr<=u/\u<o then As (val (nd d i).l u) v else val (nd d i).l u:=fun i f j=>by
   rcases (a i f).1 j with ⟨_,h,_⟩ | ⟨_,_,h,_⟩ | ⟨s,y,_,hv⟩
   .exact absurd h (by decide)
   .exact absurd h (by decide)
   .exact ⟨s,y,hv⟩
  exact .inr (.inr ⟨n,(ok i0 h0 h1).1,fun i f j=>(ok i f j).2.1,rfl,fun i f=>⟨fun j=>(ok i f j).2.2,(a i f).2⟩⟩)
 .have g:(nd b c).l=(nd d c).l->Od d b:=fun t i f=>by
   by_cases e:i=c
   .subst e;exact t
   .by_cases j:Bs zs k i
    .obtain ⟨m,r2,ht,hm,hu⟩:=(a i f).1 j;have p:=hP.inv i (by omega);rw [ac i f] at p;exact Ar4 (q i f) p ht hu
    .exact (a i f).2 j e
  rcases hR with ⟨s,rfl,z⟩ | ⟨s,y,rfl,z⟩ | ⟨_,_,h,_⟩
  .exact .inl ⟨fun h=>by rw [s] at h;exact absurd h.2 (by simp),rfl,g z⟩
  .exact .inr (.inl ⟨n,s,fun h=>y (h c x ⟨k,hk,hc⟩),rfl,g z⟩)
  .exact absurd h hr
def Cp (f1 f2 f3:Nat) (fr tt:Int) (v:V4) (w:WD):Prop:=
 w.heap[f1]?=some (.cells #[.int .i64 fr] 3 (0,0))/\w.heap[f2]?=some (.cells #[.int .i64 tt] 3 (0,0))/\w.heap[f3]?=some (.cells v.cells 30 (0,0))
def Ar7:∀ args w,(callFunc 274 args).run prog w=.ok (.enter 274 args) w:=I4 func274 (by decide) (by simp [f274])
def Ar8:∀ args w,(callFunc 275 args).run prog w=.ok (.enter 275 args) w:=I4 func275 (by decide) (by simp [f275])
def Ar9:∀ args w,(callFunc 240 args).run prog w=.ok (.enter 240 args) w:=I4 func240 (by decide) (by simp [f240])
def Asa:∀ args w,(callFunc 242 args).run prog w=.ok (.enter 242 args) w:=I4 func242 (by decide) (by simp [f242])
def Asb (p q s:Nat) (fr o:Int) (v:V4):Se (fun _ l r m=>Qo l fr o v r m) 274 p q s (Cp p q s fr o v):=by
 intro pb sb cap whole l w j g hc;obtain ⟨h1,t,f⟩:=hc;have x:=Aa h1 0;have y:=Aa t 0;have z:=Aa f 0;have c1:=Aa f 1;have c2:=Aa f 2;have c3:=Aa f 3;simp at x y z c1 c2 c3;clear h1 t f;have k:=Agd pb sb cap whole l fr o v w j g.loose;replace ⟨k,j,g⟩:=H3 k j g;go_enter func274,ntmps274;go_wp2_with fail;refine k.mono ?_;rintro e w2 ⟨r,n,d,m,rfl,u,b,c,a⟩;obtain ⟨h,i⟩:=Agw g.out u;clear u;replace ⟨h,i,b,c,a⟩:=H5 h i b c a;go_wp2;go_ret;exact ⟨r,n,d,m,rfl,⟨i.out,h.out⟩,b.out,c.out,a.out⟩
def Asc (p q s:Nat) (fr o:Int) (v:V4):Se (fun whole l r m=>Qp whole l fr o v r m) 275 p q s (Cp p q s fr o v):=by
 intro pb sb cap whole l w j g hc;obtain ⟨h1,t,f⟩:=hc;have x:=Aa h1 0;have y:=Aa t 0;have z:=Aa f 0;have c1:=Aa f 1;have c2:=Aa f 2;have c3:=Aa f 3;simp at x y z c1 c2 c3;clear h1 t f;have k:=Agi pb sb cap whole l fr o v w j g.loose;replace ⟨k,j,g⟩:=H3 k j g;go_enter func275,ntmps275;go_wp2_with fail;refine k.mono ?_;rintro e w2 ⟨r,n,d,m,rfl,u,b,c,a⟩;obtain ⟨h,i⟩:=Agx g.out u;clear u;replace ⟨h,i,b,c,a⟩:=H5 h i b c a;go_wp2;go_ret;exact ⟨r,n,d,m,rfl,⟨i.out,h.out⟩,b.out,c.out,a.out⟩
def Asd (p q s:Nat) (fr o:Int) (v:V4):Se (fun _ l r m=>Qo l fr o v r m) 240 p q s (Cp p q s fr o v):=by
 intro pb sb cap whole l w j g hc;obtain ⟨h1,t,f⟩:=hc;have x:=Aa h1 0;have y:=Aa t 0;have z:=Aa f 0;have c1:=Aa f 1;have c2:=Aa f 2;have c3:=Aa f 3;simp at x y z c1 c2 c3;clear h1 t f;have k:=Agd pb sb cap whole l fr o v w j g.loose;replace ⟨k,j,g⟩:=H3 k j g;go_enter func240,ntmps240;go_wp2_with fail;refine k.mono ?_;rintro e w2 ⟨r,n,d,m,rfl,u,b,c,a⟩;obtain ⟨h,i⟩:=Agw g.out u;clear u;replace ⟨h,i,b,c,a⟩:=H5 h i b c a;go_wp2;go_ret;exact ⟨r,n,d,m,rfl,⟨i.out,h.out⟩,b.out,c.out,a.out⟩
def Ase (p q s:Nat) (fr o:Int) (v:V4):Se (fun whole l r m=>Qp whole l fr o v r m) 242 p q s (Cp p q s fr o v):=by
 intro pb sb cap whole l w j g hc;obtain ⟨h1,t,f⟩:=hc;have x:=Aa h1 0;have y:=Aa t 0;have z:=Aa f 0;have c1:=Aa f 1;have c2:=Aa f 2;have c3:=Aa f 3;simp at x y z c1 c2 c3;clear h1 t f;have k:=Agi pb sb cap whole l fr o v w j g.loose;replace ⟨k,j,g⟩:=H3 k j g;go_enter func242,ntmps242;go_wp2_with fail;refine k.mono ?_;rintro e w2 ⟨r,n,d,m,rfl,u,b,c,a⟩;obtain ⟨h,i⟩:=Agx g.out u;clear u;replace ⟨h,i,b,c,a⟩:=H5 h i b c a;go_wp2;go_ret;exact ⟨r,n,d,m,rfl,⟨i.out,h.out⟩,b.out,c.out,a.out⟩
def Aa2 (R:Int->List Nd->Prop) (gb gs cap:Nat) (po:Option Addr) (ps:List Nd) (w:WD) (e:Ending) (w':WD):Prop:=
 ∃ r ps',e=.returned (.int .i64 r)/\R r ps'/\Bz w' gb gs po cap ps'/\gz w ps ps'/\Mod (Bd ps) w w'
def gz.back {w b:WD} {a q:List Nd} (h:gz b a q) (d:w.heap.size<=b.heap.size):gz w a q:=
 ⟨h.len,h.pb,h.whole,fun i c=>by rcases h.sb i c with e | e;exact .inl e;exact .inr (A5 d e)⟩
def Aa3 (x z cap:Nat) (po:Option Addr) (n:List Nd) (u:Option Addr) (m c:Nat) (zs:List Int) (fr i:Int) (v:V4) (w:WD)
  (s:Bz w x z po cap n) (hz:Ar w u m zs) (ho:0<m->ug u (Bd n)) (ac:m<=c) :
  CS prog 236 #[.pointer (some ⟨x,0,none⟩),.slice u m c,.int .i64 fr,.int .i64 i,v.val] w (Aa2 (Lh n zs fr i v) x z cap po n w):=by
 obtain ⟨W,p⟩:=Ex (((w.alloc (.cells #[.int .i64 fr] 3 (0,0))).alloc (.cells #[.int .i64 i] 3 (0,0))).alloc (.cells v.cells 30 (0,0)));have o:BW w.heap.size w W:=by rw [p];exact (Bn.alloc (by simp) _).alloc (by simp;omega) _
 have l:=s.below o;have t:=hz.below o Ln;have a:Cp w.heap.size (w.heap.size+1) (w.heap.size+2) fr i v W:=by rw [p];exact ⟨Aj _ (Aj _ (Ah _ _)),Aj _ (A3 _ _ (by simp)),A3 _ _ (by simp)⟩
 have g:∀ b,w.heap.size<=b->¬ Bd n b:=fun b hb k=>by have:=s.j7 k;omega
 have q:∀ w',Mod (Bd n) W w'->Cp w.heap.size (w.heap.size+1) (w.heap.size+2) fr i v w':=fun w' k=>
  ⟨(k.block _ (Ab a.1) (g _ Ln)).trans a.1,(k.block _ (Ab a.2.1) (g _ (by omega))).trans a.2.1,(k.block _ (Ab a.2.2) (g _ (by omega))).trans a.2.2⟩
 have y:=Agz _ _ 274 275 w.heap.size (w.heap.size+1) (w.heap.size+2) (Cp w.heap.size (w.heap.size+1) (w.heap.size+2) fr i v) x z cap po n u m c zs W l (fun w' k=>t.mod k ho) ac q Ar7 Ar8 (Asb _ _ _ fr i v) (Asc _ _ _ fr i v);rw [p] at y;have ad:=o.size;clear q a g t;replace ⟨y,p,o,s,hz,l,ho⟩:=H7 y p o s hz l ho;go_enter func236,ntmps236;go_wp2_with fail;refine y.mono ?_;rintro e w2 ⟨r,al,rfl,hR,f,d,j⟩;have hT:=Ar5 s.inv f d.len d.whole hR;rw [<- p.out] at d j;have hK:=d.back ad;have hM:=(Mod.af o.out).trans (j.mono fun _ _ h=>.inl h);clear hR d j;replace ⟨f,hT,hK,hM⟩:=H4 f hT hK hM;go_wp2;go_ret;exact ⟨r,al,rfl,hT.out,f.out,hK.out,hM.out⟩
def Asf (x z cap:Nat) (po:Option Addr) (n:List Nd) (u:Option Addr) (m c:Nat) (zs:List Int) (fr i:Int) (v:V4) (w:WD)
  (s:Bz w x z po cap n) (hz:Ar w u m zs) (ho:0<m->ug u (Bd n)) (ac:m<=c) :
  CS prog 187 #[.pointer (some ⟨x,0,none⟩),.slice u m c,.int .i64 fr,.int .i64 i,v.val] w (Aa2 (Xg n zs fr i v) x z cap po n w):=by
 obtain ⟨W,p⟩:=Ex (((w.alloc (.cells #[.int .i64 fr] 3 (0,0))).alloc (.cells #[.int .i64 i] 3 (0,0))).alloc (.cells v.cells 30 (0,0)));have o:BW w.heap.size w W:=by rw [p];exact (Bn.alloc (by simp) _).alloc (by simp;omega) _
 have l:=s.below o;have t:=hz.below o Ln;have a:Cp w.heap.size (w.heap.size+1) (w.heap.size+2) fr i v W:=by rw [p];exact ⟨Aj _ (Aj _ (Ah _ _)),Aj _ (A3 _ _ (by simp)),A3 _ _ (by simp)⟩
 have g:∀ b,w.heap.size<=b->¬ Bd n b:=fun b hb k=>by have:=s.j7 k;omega
 have q:∀ w',Mod (Bd n) W w'->Cp w.heap.size (w.heap.size+1) (w.heap.size+2) fr i v w':=fun w' k=>
  ⟨(k.block _ (Ab a.1) (g _ Ln)).trans a.1,(k.block _ (Ab a.2.1) (g _ (by omega))).trans a.2.1,(k.block _ (Ab a.2.2) (g _ (by omega))).trans a.2.2⟩
 have y:=Agz _ _ 242 240 w.heap.size (w.heap.size+1) (w.heap.size+2) (Cp w.heap.size (w.heap.size+1) (w.heap.size+2) fr i v) x z cap po n u m c zs W l (fun w' k=>t.mod k ho) ac q Asa Ar9 (Ase _ _ _ fr i v) (Asd _ _ _ fr i v);rw [p] at y;have ad:=o.size;clear q a g t;replace ⟨y,p,o,s,hz,l,ho⟩:=H7 y p o s hz l ho;go_enter func187,ntmps187;go_wp2_with fail;refine y.mono ?_;rintro e w2 ⟨r,al,rfl,hR,f,d,j⟩;have hT:=Ar6 s.inv f d.len d.whole hR;rw [<- p.out] at d j;have hK:=d.back ad;have hM:=(Mod.af o.out).trans (j.mono fun _ _ h=>.inl h);clear hR d j;replace ⟨f,hT,hK,hM⟩:=H4 f hT hK hM;go_wp2;go_ret;exact ⟨r,al,rfl,hT.out,f.out,hK.out,hM.out⟩
def ld (l:List St) (aa:Int) (v:V4) (u:Int):Prop:=Km l aa v u/\u+aa<=1099511627776
instance (l:List St) (aa:Int) (v:V4) (u:Int):Decidable (Km l aa v u):=by unfold Km;infer_instance
instance (l:List St) (aa:Int) (v:V4) (u:Int):Decidable (ld l aa v u):=by unfold ld;infer_instance
instance (zs:List Int) (k i:Nat):Decidable (Bs zs k i):=by unfold Bs;infer_instance
def Aa4 (l:List St) (aa:Int) (v:V4) (T x:Int):Prop:=
 T<=x/\x<=1099511627776/\(x<1099511627776->ld l aa v x)/\∀ u,T<=u->u<x->¬ ld l aa v u
def Asg  {e T t:Int}  {is:Bool} (h:Iv l T e v t is) (h0:0<=T) (h1:T<1099511627776) (i:1<=e) (j:v.right=true) :
  Aa4 l e v T (if is=true then t else 1099511627776):=by
 unfold Iv at h;rw [Ad ⟨i,j,h1⟩,show max T 0=T by omega] at h;rcases h with ⟨rfl,a,b,c,d⟩ | ⟨rfl,_,d⟩
 .rw [Ad rfl];exact ⟨a,by omega,fun _=>⟨c,b⟩,fun u f g h=>d u f g h.1⟩
 .rw [Ac (by simp)];exact ⟨by omega,by omega,fun h=>by omega,fun u f g h=>d u f h.2 h.1⟩
def Ash (l:List St) (aa:Int) (v:V4) (T:Int) (w:WD) (e:Ending) (w':WD):Prop:=
 ∃ x,e=.returned (.int .i64 x)/\Aa4 l aa v T x/\BW w.heap.size w w'
def Asi (gb gs cap:Nat) (po:Option Addr) (u:List Nd) (k1 k2 k3:Nat) (o:Int) (v:V4) (i:Nat) (T:Int) (w:WD) (r:Bz w gb gs po cap u)
  (h1:w.heap[k1]?=some (.cells #[.pointer (some ⟨gb,0,none⟩)] 268 (0,0))) (h2:w.heap[k2]?=some (.cells #[.int .i64 o] 3 (0,0))) (z:w.heap[k3]?=some (.cells v.cells 30 (0,0)))
  (hi:i<u.length) (p:0<=T) (q:T<1099511627776) (ht:1<=o) (hv:v.right=true) :
  CS prog 286 #[.int .i64 i,.int .i64 T,.pointer (some ⟨k1,0,none⟩),.pointer (some ⟨k2,0,none⟩),.pointer (some ⟨k3,0,none⟩)] w (Ash (nd u i).l o v T w):=by
 have al:=r.addr (by omega);subst al;have hh:=r.head;have ac:=r.ml;have f:=r.fj i hi;have m:=r.inv i hi;have c0:=Aa hh 0;have p0:=r.ptr i hi;have x:=Aa h1 0;have y:=Aa h2 0;have d0:=Aa z 0;have d1:=Aa z 1;have d2:=Aa z 2;have d3:=Aa z 3;simp at c0 x y d0 d1 d2 d3;have ao:=Ab hh;have ap:=S6 w _ p0;have l1:=Ab h1;have l2:=Ab h2;have l3:=Ab z;have s:Hid (∀ t is,Iv (nd u i).l T o v t is->Aa4 (nd u i).l o v T (if is=true then t else 1099511627776)):=fun t is h=>Asg h p q ht hv;have he:=Aq8 _ _ _ _ _ T o v w.drew f.drew m.loose (by omega);obtain ⟨n,hn⟩:=Ex (u.length);have an:(i:Int)<n:=by omega
 have am:(0:Int)<=(i:Int):=by omega
 rw [<- hn] at c0 ac;obtain ⟨pb,ad⟩:=Ex ((nd u i).pb);rw [<- ad] at p0 he;clear r h1 h2 z hh f m hn ad hi;replace ⟨he,p,q,ht,hv⟩:=H5 he p q ht hv;go_enter func286,ntmps286;go_wp2_with fail
 go_region_held3 (fun w'=>w'.cell? ⟨k1,0,none⟩=some (.pointer (some ⟨gb,0,none⟩))/\w'.cell? ⟨gb,0,none⟩=some (.slice (some ⟨gs,0,none⟩) n cap)/\w'.cell? ⟨gs,i,none⟩=some (.pointer (some ⟨pb,0,none⟩)) /\
   w'.cell? ⟨k2,0,none⟩=some (.int .i64 o)/\w'.cell? ⟨k3,0,none⟩=some (.int .i64 v.a)/\w'.cell? ⟨k3,1,none⟩=some (.int .i64 v.b)/\w'.cell? ⟨k3,2,none⟩=some (.int .i64 v.c)/\w'.cell? ⟨k3,3,none⟩=some (.int .i64 v.d))
  (first
    | (go_keep;done)
    | (go_split_ands;refine ⟨?_,?_,?_,?_,?_,?_,?_,?_⟩<;>(rw [Ag j.out (by simpa using ‹_›)];assumption)))
  (first
    | (go_at_call 287;refine he.mono ?_;rintro e w2 ⟨t,is,rfl,hR,j⟩
       replace ⟨hR,j⟩:=H2 hR j))
 have g:BW w.heap.size w w2:=Ib j.out;replace g:=Hh g;have k:=s t is hR.out;cases is
 .rw [Ac (by simp)] at k;replace k:=Hh k;go_wp2;go_ret;exact ⟨_,rfl,k.out,g.out⟩
 .rw [Ad rfl] at k;replace k:=Hh k;go_wp2;go_ret;exact ⟨_,rfl,k.out,g.out⟩
def Iw (ps:List Nd) (zs:List Int) (aa:Int) (v:V4) (u:Int) (j:Nat):Bool:=decide (j<ps.length) && decide (Bs zs zs.length j) && decide (ld (nd ps j).l aa v u)
def Iy (ps:List Nd) (zs:List Int) (aa:Int) (v:V4) (u:Int) (k:Nat):List Nat:=(List.range k).filter (Iw ps zs aa v u)
def ga (ps:List Nd) (zs:List Int) (aa:Int) (v:V4) (u:Int):List Nat:=Iy ps zs aa v u 16
def Bj (l:List Nat):List Int:=l.map fun (n:Nat)=>(n:Int)
def Sf (b:List Nd) (zs:List Int) (a:Int) (v:V4) (u:Int) (k:Nat):Iy b zs a v u (k+1)=if Iw b zs a v u k=true then Iy b zs a v u k++[k] else Iy b zs a v u k:=by
 unfold Iy;rw [Vi,Nt];by_cases h:Iw b zs a v u k=true
 .rw [Ad h];simp [h]
 .rw [Ac h];simp [h]
def Asj (c:List Nd) (zs:List Int) (a:Int) (v:V4) (u:Int) (k:Nat) (h:k<=16):∃ r,ga c zs a v u=Iy c zs a v u k++r:=by
 unfold ga;obtain ⟨d,b⟩:∃ d,16=k+d:=⟨16-k,by omega⟩;rw [b];clear h b
 induction d with
 | zero=>exact ⟨[],by simp⟩
 | succ d ih=>
  obtain ⟨r,e⟩:=ih;rw [show k+(d+1)=(k+d)+1 by omega,Sf,e];split
  .exact ⟨r++[k+d],by simp⟩
  .exact ⟨r,rfl⟩
def Asl {b:List Nd}  {a:Int}  {u T:Int} (h:∀ j,Iw b zs a v u j=true->Iw b zs a v T j=true):(ga b zs a v u).length<=(ga b zs a v T).length:=by
 unfold ga Iy;rw [<- List.countP_eq_length_filter,<- List.countP_eq_length_filter];exact List.countP_mono_left fun j _=>h j
def Fz (ps:List Nd) (zs:List Int) (many:Int) (v:V4) (aa after t:Int) (xs:List Nat) (is:Bool):Prop:=
 if 1<=many/\1<=aa/\v.right=true then
  (is=true/\max after 0<=t/\t<1099511627776/\(xs.length:Int)=many/\(∃ r,ga ps zs aa v t=xs++r)/\∀ u,max after 0<=u->u<t->((ga ps zs aa v u).length:Int)<many) \/
  (is=false/\t=0/\xs=[]/\∀ u,max after 0<=u->u<1099511627776->((ga ps zs aa v u).length:Int)<many)
 else t=0/\xs=[]/\is=false
def Ag4 (ps:List Nd) (zs:List Int) (many:Int) (v:V4) (aa after:Int) (w:WD) (e:Ending) (w':WD):Prop:=
 ∃ t so n c xs is,e=.returned (.tuple #[.int .i64 t,.slice so n c,.bool is])/\Fz ps zs many v aa after t xs is/\Ar w' so n (Bj xs)/\n<=c/\(∀ b off,so=some ⟨b,off,none⟩->w.heap.size<=b)/\BW w.heap.size w w'
def T7 (w:WD):Ar w none 0 (Bj []):=⟨rfl,by omega,fun i a=>by omega⟩
def Al (w:WD) (base:Nat) (sv:VL) (L:Nat) (xs:List Nat):Prop:=L=xs.length/\w.ownsRow base 3 1 sv L ((Bj xs).map (.int .i64))
def Al.nil (w:WD) (base:Nat):Al w base (.slice none 0 0) 0 []:=⟨rfl,Lv _ _ _ _⟩
def Al.below   {c:VL}  (h:Al w base c L xs) (f:BW w.heap.size w w'):Al w' base c L xs:=by
 obtain ⟨h1,d,e⟩:=h;refine ⟨h1,d,?_⟩;rcases e with h | ⟨g,cap,a,k,i,b,j⟩
 .exact .inl h
 .exact .inr ⟨g,cap,a,k,i,Ae f b (Ab b),j⟩
def Al.at  {base g cap L:Nat}  (h:Al w base (.slice (some ⟨g,0,none⟩) L cap) L xs) (e:L<=9223372036854775807):Ar w (some ⟨g,0,none⟩) L (Bj xs)/\L<=cap/\base<=g:=by
 obtain ⟨h1,b⟩:=h;have d:=b;obtain ⟨_,h | ⟨m,a,c,l,f,k,j,o,p,q⟩⟩:=b
 .cases h.1
 .cases l;refine ⟨⟨by simp [Bj,h1],e,fun i n=>⟨g,0,rfl,Ab k,?_⟩⟩,j,f⟩;rw [Da,d.cellAt i (by omega)];simp [Bj,zi,List.getD,show i<xs.length by omega]
structure FW (w:WD) (gb gs cap:Nat) (po:Option Addr) (ps:List Nd) (B3:Nat) (f:Nat->Bool) (aa:Int) (v:V4) (wr:WD):Prop where
 dm:Bz wr gb gs po cap ps
 k1:wr.heap[w.heap.size]?=some (.cells #[.pointer (some ⟨gb,0,none⟩)] 268 (0,0))
 k2:wr.heap[w.heap.size+1]?=some (.cells v.cells 30 (0,0))
 k3:wr.heap[w.heap.size+1+1]?=some (.cells #[.int .i64 aa] 3 (0,0))
 met:wr.heap[B3]?=some (.cells (bits f) 364 (0,0))
 low:BW w.heap.size w wr
def FW.below  {d e cap:Nat}  {g:List Nd} {b:Nat} {f:Nat->Bool} {c:Int}   (h:FW w d e cap po g b f c v wr) (a:BW wr.heap.size wr w'):FW w d e cap po g b f c v w':=
 ⟨h.dm.below a,Ae a h.k1 (Ab h.k1),Ae a h.k2 (Ab h.k2),Ae a h.k3 (Ab h.k3),Ae a h.met (Ab h.met),h.low.trans (a.mono h.low.size)⟩
def Asm (gb gs cap:Nat) (po:Option Addr) (ps:List Nd) (ao:Option Addr) (m c:Nat) (zs:List Int) (d:Int) (v:V4) (s after:Int) (w:WD) (hp:Bz w gb gs po cap ps) (hz:Ar w ao m zs) :
  CS prog 245 #[.pointer (some ⟨gb,0,none⟩),.slice ao m c,.int .i64 d,v.val,.int .i64 s,.int .i64 after] w (Ag4 ps zs d v s after w):=by
 obtain ⟨i3,bn,bv,a3,a4⟩:=Cb M1;obtain ⟨W,hW⟩:=Ex (((w.alloc (.cells #[.pointer (some ⟨gb,0,none⟩)] 268 (0,0))).alloc (.cells v.cells 30 (0,0))).alloc (.cells #[.int .i64 s] 3 (0,0)));have hB:BW w.heap.size w W:=by rw [hW];exact (Bn.alloc (by simp) _).alloc (by simp;omega) _
 have w1:W.heap[w.heap.size]?=some (.cells #[.pointer (some ⟨gb,0,none⟩)] 268 (0,0)):=by rw [hW];exact Aj _ (Aj _ (Ah _ _))
 have w2:W.heap[w.heap.size+1]?=some (.cells v.cells 30 (0,0)):=by rw [hW];exact Aj _ (A3 _ _ (by simp))
 have w3:W.heap[w.heap.size+1+1]?=some (.cells #[.int .i64 s] 3 (0,0)):=by rw [hW];exact A3 _ _ (by simp)
 have ba:=hp.below hB;have bc:=hz.below hB Ln;replace ⟨hp,hz,ba,bc,w1,w2,w3⟩:=H7 hp hz ba bc w1 w2 w3
 have aK:¬ (1<=d/\1<=s/\v.right=true)->∀ w',BW w.heap.size w w'->Ag4 ps zs d v s after w (.returned (.tuple #[.int .i64 0,.slice none 0 0,.bool false])) w':=fun h w' hb=>
  ⟨0,none,0,0,[],false,rfl,by unfold Fz;rw [Ac h];exact ⟨rfl,rfl,rfl⟩,T7 _,Nat.le_refl _,fun b bw h=>by simp at h,hb⟩
 replace aK:=Hh aK;by_cases q1:d<1
 .have d1:decide (d<1)=true:=by simpa using q1
  have n:=aK (by omega) W hB;rw [hW] at n;replace ⟨q1,n,hW,hB⟩:=H4 q1 n hW hB;go_enter func245,ntmps245;go_wp2;go_step3;go_wp2;rw [Im];go_ret3;exact n.out
 have d1:decide (d<1)=false:=by simpa using q1
 by_cases q2:s<1
 .have d2:decide (s<1)=true:=by simpa using q2
  have n:=aK (by omega) W hB;rw [hW] at n;replace ⟨q1,q2,n,hW,hB⟩:=H5 q1 q2 n hW hB;go_enter func245,ntmps245;go_wp2;go_step3;go_wp2;rw [Im];go_ret3;exact n.out
 have d2:decide (s<1)=false:=by simpa using q2
 have a0:=I5 v W;rw [hW] at a0;replace ⟨q1,q2,a0,hW,hB⟩:=H5 q1 q2 a0 hW hB;go_enter func245,ntmps245;go_wp2_with fail;go_step3;go_wp2_with fail;refine a0.mono ?_;rintro e w4 ⟨rfl,al⟩;rw [<- hW.out] at al;have aM:=hB.trans (al.mono hB.size);have aZ:=ba.below al;have bb:=bc.below al Ln;have k1:=Ae al w1.out (Ab w1.out);have k2:=Ae al w2.out (Ab w2.out);have k3:=Ae al w3.out (Ab w3.out);have x1:=Aa k1 0;simp at x1;replace ⟨k1,k2,k3,al,aM,aZ,bb⟩:=H7 k1 k2 k3 al aM aZ bb;by_cases q3:v.right=true;rotate_left
 .have bd:v.right=false:=by simpa using q3
  rw [bd];have n:=aK (fun h=>q3 h.2.2) w4 aM.out;replace ⟨q3,bd,n⟩:=H3 q3 bd n;go_wp2;rw [Im];go_ret3;exact n.out
 rw [q3];replace q3:=Hh q3;go_wp2_with fail;refine (Ar2 gb gs cap po ps ao m c zs w4 aZ.out bb.out).mono ?_;rintro e w5 ⟨f,rfl,hf,aV⟩;have s4:=aM.size;have s5:=aV.size;have bs:(bits f).all (·.oneCell')=true:=by simp [bits,Value.oneCell']
 obtain ⟨A,hA⟩:=Ex (max after 0);have bJ:(if after<0 then 0 else after)=A:=by rw [hA];omega
 have bF:0<=A:=by omega
 have aO:FW w gb gs cap po ps w5.heap.size f s v ((w5.alloc (.cells (bits fun _=>false) 364 (0,0))).setRow w5.heap.size (bits f)):=by have bA:BW w5.heap.size w5 ((w5.alloc (.cells (bits fun _=>false) 364 (0,0))).setRow w5.heap.size (bits f)):=Ag2 Bn Ln _;have hb:=aV.trans (bA.mono s5);exact ⟨aZ.below hb,Ae hb k1.out (Ab k1.out),Ae hb k2.out (Ab k2.out),Ae hb k3.out (Ab k3.out),My _ _ _ _ 364 (0,0) (Ah _ _),aM.trans (hb.mono s4)⟩
 replace ⟨aO,hf,aV,hA⟩:=H4 aO hf aV hA;go_wp2_with (first | (refine Nu rfl 364 _ _ rfl w5.heap.size (bits f) rfl rfl 364 (bits fun _=>false) (by rw [<- Aa1];exact Ah _ _) T5 rfl bs ?_));go_step3;go_wp2;go_loopw [17,18,19,20,21,22] (fun t _ _ _ _ _ wr=>∃ T:Int,t=.int .i64 T/\A<=T/\Hid (FW w gb gs cap po ps w5.heap.size f s v wr)/\Hid (∀ u,A<=u->u<T->((ga ps zs s v u).length:Int)<d)) (fun t _ _ _ _ _ _=>(1099511627776-intOf t).toNat)
 case atStart=>exact ⟨A,rfl,Cz _,aO.out,fun u h1 h2=>by omega⟩
 case round=>
  obtain ⟨T,rfl,bx,a5,a9⟩:=hrel;by_cases hT:T<1099511627776;rotate_left
  .have ac:Fz ps zs d v s after 0 [] false:=(by unfold Fz;rw [Ad ⟨by have:=q1.out;omega,by have:=q2.out;omega,q3.out⟩];exact .inr ⟨rfl,rfl,rfl,fun u u1 u2=>a9.out u (by rw [hA.out];exact u1) (by omega)⟩);replace ac:=Hh ac;go_wp2;go_ret3;exact ⟨0,none,0,0,[],false,rfl,ac.out,T7 _,Nat.le_refl _,(fun b bw h=>by simp at h),a5.low⟩
  have d3:decide (T<1099511627776)=true:=by simpa using hT
  obtain ⟨w0,a1⟩:=Ex (wr);have aU:=a5;rw [<- a1] at aU;have aP:=a5.met;replace ⟨aP,a1⟩:=H2 aP a1;go_wp2_with (first | (refine Vh rfl 364 _ rfl w5.heap.size rfl 364 (bits f) (0,0) _ aP.out Vb rfl T5 ?_))
  go_loopw [18,19,20,21,22,47] (fun nx sv _ _ _ i wx=>∃ (k:Nat) (N:Int) (L:Nat) (xs:List Nat),i=.int .i64 k/\nx=.int .i64 N/\k<=16/\T<N/\N<=1099511627776/\(L:Int)<d/\L<=k/\Hid (BW w0.heap.size w0 wx)/\Hid (Al wx w0.heap.size sv L xs) /\
   Hid (xs=Iy ps zs s v T k)/\Hid (∀ j,j<k->f j=true->¬ ld (nd ps j).l s v T->∀ u,T<=u->u<N->¬ ld (nd ps j).l s v u)) (fun _ _ _ _ _ i _=>16-(intOf i).toNat)
  case atStart=>
   refine ⟨0,1099511627776,0,[],rfl,rfl,by omega,hT,Cz _,by have:=q1.out;omega,Nat.le_refl _,?_,Al.nil _ _,rfl,fun j hj=>by omega⟩;rw [a1.out];exact Below.refl _ _
  case round=>
   obtain ⟨k,N,L,xs,rfl,rfl,hk,bk,bg,be,bG,aL,aR,aJ,aG⟩:=hrel;by_cases bo:k<16
   .have bB:(k:Int)<16:=(by omega);have bH:(0:Int)<=(k:Int):=(by omega);have a2:=Ar0 f k bo;cases am:f k
    .replace aJ:Hid (xs=Iy ps zs s v T (k+1)):=(by show xs=_;rw [Sf,Ac,aJ.out];intro h;simp only [Iw,E7,I1] at h;have:=(hf k).2 h.1;rw [am] at this;cases this);simp only [am] at a2
     have a:∀ j,j<k+1->f j=true->¬ ld (nd ps j).l s v T->∀ u,T<=u->u<N->¬ ld (nd ps j).l s v u:=fun j hj aB=>by
      by_cases e:j=k
      .subst e;rw [am] at aB;cases aB
      .exact aG.out j (by omega) aB
     replace ⟨a,am⟩:=H2 a am;go_wp2;go_roundw
     case rel=>exact ⟨k+1,N,L,xs,by go_num,rfl,by omega,bk,bg,be,by omega,aL.out,aR.out,aJ.out,a.out⟩
     case measure=>simp [intOf];omega
    .have aF:=(hf k).1 am;have z:=aU.below aL.out;simp only [am] at a2;have aD:=Asi gb gs cap po ps _ _ _ s v k T wr z.dm z.k1 z.k3 z.k2 aF.1 (by omega) hT (by have:=q2.out;omega) q3.out;replace ⟨aD,z,aF,am⟩:=H4 aD z aF am;go_wp2_with fail
     (with_reducible refine aD.out.mono ?_)
     rintro e w6 ⟨x,rfl,hx,aH⟩;have aA:=aL.trans (aH.mono aL.size);have p:=aR.below aH;have s6:=aA.size;by_cases aI:T<x
     .have d4:decide (T<x)=true:=(by simpa using aI);obtain ⟨N2,a6⟩:=Ex (min N x);have bI:(if x<N then x else N)=N2:=(by rw [a6];omega);have aQ:=hx.2.2.2 T (Cz _) aI;have y:xs=Iy ps zs s v T (k+1):=by rw [Sf,Ac,aJ.out];intro h;simp only [Iw,E7,I1] at h;exact aQ h.2
      have a:∀ j,j<k+1->f j=true->¬ ld (nd ps j).l s v T->∀ u,T<=u->u<N2->¬ ld (nd ps j).l s v u:=fun j hj aB h3 u u1 u2=>by
       by_cases e:j=k
       .subst e;exact hx.2.2.2 u u1 (by omega)
       .exact aG.out j (by omega) aB h3 u u1 (by omega)
      have bl:T<N2:=(by omega);have bi:N2<=1099511627776:=(by omega);replace ⟨hx,aH,aA,p,aI,a6,aQ,y⟩:=H8 hx aH aA p aI a6 aQ y;replace a:=Hh a;go_wp2;go_roundw
      case rel=>exact ⟨k+1,N2,L,xs,by go_num,rfl,by omega,bl,bi,be,by omega,aA.out,p.out,y.out,a.out⟩
      case measure=>simp [intOf];omega
     .have bD:x=T:=(by have:=hx.1;omega);subst bD;have d4:decide (x<x)=false:=(by simp);have aY:=hx.2.2.1 hT;have y:xs++[k]=Iy ps zs s v x (k+1):=by rw [Sf,Ad,aJ.out];simp only [Iw,E7,I1];exact ⟨aF.out,aY⟩
      have a:∀ j,j<k+1->f j=true->¬ ld (nd ps j).l s v x->∀ u,x<=u->u<N->¬ ld (nd ps j).l s v u:=fun j hj aB h3 u u1 u2=>by
       by_cases e:j=k
       .subst e;exact absurd aY h3
       .exact aG.out j (by omega) aB h3 u u1 (by omega)
      have av:=p.2.alloc (.cells #[.int .i64 (k:Int)] 3 (0,0))
      have an:∀ j u,([.int .i64 (k:Int)]:List VL)[j]?=some u->(w6.alloc (.cells #[.int .i64 (k:Int)] 3 (0,0))).cell? ((⟨w6.heap.size,0,none⟩:Addr).add j)=some u:=by
       intro j u hu
       match j,hu with
       | 0,hu=>
        have:=Aa (Ah w6 (.cells #[.int .i64 (k:Int)] 3 (0,0))) 0;simp at hu;subst hu;exact this
       | j+1,hu=>simp at hu
      have ap:∀ u∈([.int .i64 (k:Int)]:List VL),u.oneCell'=true:=by simp [Value.oneCell']
      have aT:L+1<=maxLen:=by
       have:maxLen=9223372036854775807:=by kernel_rfl
       omega
      have aW:(L+1)*8<=140737488355328:=(by omega);have ad:w0.heap.size<=(w6.alloc (.cells #[.int .i64 (k:Int)] 3 (0,0))).heap.size:=(by simp;omega);have aX:=p.2.lt;have aS:=p.1;replace ⟨hx,aH,aA,p,aI,y,a,aY⟩:=H8 hx aH aA p aI y a aY;replace ⟨av,an,ap,aT,aW,ad,aX,aS⟩:=H8 av an ap aT aW ad aX aS;by_cases r:(L:Int)+1=d
      .have d5:((L:Int)+1 == d)=true:=(by simpa using r);have ac:Fz ps zs d v s after x (xs++[k]) true:=(by unfold Fz;rw [Ad ⟨by have:=q1.out;omega,by have:=q2.out;omega,q3.out⟩];refine .inl ⟨rfl,by rw [<- hA.out];exact bx,hT,by rw [Cn,<- aS.out];simpa using r,?_,fun u u1 u2=>a9.out u (by rw [hA.out];exact u1) u2⟩;rw [y.out];exact Asj _ _ _ _ _ _ (by omega));replace ⟨ac,r⟩:=H2 ac r;go_wp2_with (at_builtin;refine Ms _ rfl _ _ 31 rfl w0.heap.size 3 i3 _ 1 8 Nn bn bv a3 a4 rfl (by decide) _ L _ rfl av.out ⟨w6.heap.size,0,none⟩ 1 1 [.int .i64 (k:Int)] rfl rfl an.out ap.out aT.out aW.out ad.out ?_;intro v1 w7 o q _;obtain ⟨g,aE,rfl⟩:=Joins.ownsRow_form o (by omega);replace ⟨o,q⟩:=H2 o q);go_ret3;have hO:Al w7 w0.heap.size (.slice (some ⟨g,0,none⟩) (L+1) aE) (L+1) (xs++[k]):=⟨by rw [Cn,<- aS.out];rfl,by simpa [Bj] using o.out⟩;obtain ⟨o1,o2,o3⟩:=hO.at (by omega);have aN:=(aA.alloc s6 _).grown q.out ad.out (fun k hk=>(aX k hk).1);have a8:=aU.low;exact ⟨x,some ⟨g,0,none⟩,L+1,aE,xs++[k],true,rfl,ac.out,o1,o2,(fun b bw e=>by cases e;exact A5 a8.size o3),a8.trans (aN.mono a8.size)⟩
      .have d5:((L:Int)+1 == d)=false:=(by simpa using r);have bf:(L:Int)+1<d:=(by omega);replace r:=Hh r;go_wp2_with (at_builtin;refine Ms _ rfl _ _ 31 rfl w0.heap.size 3 i3 _ 1 8 Nn bn bv a3 a4 rfl (by decide) _ L _ rfl av.out ⟨w6.heap.size,0,none⟩ 1 1 [.int .i64 (k:Int)] rfl rfl an.out ap.out aT.out aW.out ad.out ?_;intro v1 w7 o q _;obtain ⟨g,aE,rfl⟩:=Joins.ownsRow_form o (by omega);replace ⟨o,q⟩:=H2 o q);have hO:Al w7 w0.heap.size (.slice (some ⟨g,0,none⟩) (L+1) aE) (L+1) (xs++[k]):=⟨by rw [Cn,<- aS.out];rfl,by simpa [Bj] using o.out⟩;have aN:=(aA.alloc s6 _).grown q.out ad.out (fun k hk=>(aX k hk).1);replace ⟨hO,aN⟩:=H2 hO aN;go_roundw
       case rel=>exact ⟨k+1,N,L+1,xs++[k],by go_num,rfl,by omega,bk,bg,by simpa using bf,by omega,aN.out,hO.out,y.out,a.out⟩
       case measure=>simp [intOf];omega
   .have bB:¬ (k:Int)<16:=(by omega);have a7:k=16:=(by omega);have d6:(N == T)=false:=(by rw [Bl];omega);have z:=aU.below aL.out;have bE:=z.dm.ml
    have aC:=fun u u1 u2=>by
     by_cases hu:u<T
     .exact a9.out u u1 hu
     .have bC:=Asl fun j hj=>by
       simp only [Iw,E7,I1] at hj ⊢;refine ⟨hj.1,Ii fun hc=>?_⟩;exact aG.out j (by have:=hj.1.1;omega) ((hf j).2 hj.1) hc u (by omega) u2 hj.2
      have:ga ps zs s v T=xs:=by rw [aJ.out,a7];rfl
      rw [this,<- aR.1] at bC;omega
    replace ⟨a7,z,aC⟩:=H3 a7 z aC;go_wp2;go_roundw
    case rel=>exact ⟨N,rfl,by omega,z.out,aC.out⟩
    case measure=>simp [intOf];omega
def Asn  {S:Nat->Prop} {w w1 b:WD} (h:BW B w w1) (a:Mod S w1 b) (d:∀ k,S k->B<=k) (e:B<=w1.heap.size):BW B w b:=
 h.trans ⟨a.os,a.tape,a.output,a.size,fun k f=>a.block k (by omega) (fun c=>by have:=d k c;omega)⟩
end Pl
namespace Pl
def Aso {l:List St} (b:Cc l) {i j:Nat} (h:i<=j) (a:j<l.length):(nth l i).t<=(nth l j).t:=by
 by_cases e:i=j
 .subst e;exact Cz _
 .exact Int.le_of_lt (b.az i j (by omega) a)
def Ag5 {l:List St} (c:Cc l) {v:V4} {u d:Int} (h0:0<=u) (h1:1<=d):Km l d v u↔∀ x,u<=x->x<u+d->v.leq (val l x):=by
 constructor
 .intro h x s n;obtain ⟨k,a⟩:=T3 c (u:=x) (by omega);rw [Mf c.az a];exact Kn.1 (h k a.1 (by have:=a.2.1;omega) (fun e=>by have:=a.2.2 (k+1) (by omega) e;omega))
 .intro h k a r g
  have f:Kk l (max u (nth l k).t) k:=⟨a,by omega,fun j m b=>by
   have o:=c.az k j m b;have p:=Aso c (i:=k+1) (j:=j) (by omega) b;have q:=g (by omega)
   omega⟩
  have:=h (max u (nth l k).t) (by omega) (by omega);rw [Mf c.az f] at this;exact Kn.2 this
end Pl
namespace Pl
open Go.RowKit
variable{a after e t:Int}{zs:List Int}{xs:List Nat}{j:Nat}{v:V4}
def Ag6  {x:Int}:x∈zs↔∃ j,j<zs.length/\zi zs j=x:=by
 constructor
 .intro h;obtain ⟨i,a,e⟩:=Py.1 h;exact ⟨i,a,by simp [zi,List.getD,a,e]⟩
 .rintro ⟨j,b,e⟩;rw [<- e];simp [zi,List.getD,b]
def Asp (zs:List Int) (x:Int) (w:WD) (e:Ending) (w':WD):Prop:=∃ b:Bool,e=.returned (.bool b)/\(b=true↔x∈zs)/\w'=w
def Ag7 {b:List Nd}  {c u:Int}   (h:j∈ga b zs c v u):j<b.length/\Bs zs zs.length j/\ld (nd b j).l c v u:=by
 unfold ga Iy at h;obtain ⟨_,a⟩:=O0.1 h;simp only [Iw,E7,I1] at a;exact ⟨a.1.1,a.1.2,a.2⟩
def Asq (b:List Nd) (zs:List Int) (a u:Int) (v:V4):(ga b zs a v u).Pairwise (·<·):=by
 unfold ga Iy;exact List.Pairwise.filter _ List.pairwise_lt_range
structure Mh (ps:List Nd) (zs:List Int) (many:Int) (v:V4) (aa after t:Int) (xs:List Nat):Prop where
 many1:1<=many
 ky:1<=aa
 right:v.right=true
 ge:max after 0<=t
 lt:t<1099511627776
 fin:t+aa<=1099511627776
 len:(xs.length:Int)=many
 pre:∃ r,ga ps zs aa v t=xs++r
 first:∀ u,max after 0<=u->u<t->((ga ps zs aa v u).length:Int)<many
def Fz.found {f:List Nd}    {b after t:Int}  (h:Fz f zs a v b after t xs true):Mh f zs a v b after t xs:=by
 unfold Fz at h;by_cases c:1<=a/\1<=b/\v.right=true
 .rw [Ad c] at h;rcases h with ⟨_,h1,g,d,⟨r,e⟩,i⟩ | ⟨h,_⟩
  .refine ⟨c.1,c.2.1,c.2.2,h1,g,?_,d,⟨r,e⟩,i⟩
   cases xs with
   | nil=>simp at d;omega
   | cons x xs=>exact (Ag7 (j:=x) (by rw [e];simp)).2.2.2
  .cases h
 .rw [Ac c] at h;cases h.2.2
def Fz.none {g:List Nd}    {f after t:Int}  (h:Fz g zs e v f after t xs false):t=0/\xs=[] /\
  (1<=e->1<=f->v.right=true->∀ u,max after 0<=u->u<1099511627776->((ga g zs f v u).length:Int)<e):=by
 unfold Fz at h;by_cases c:1<=e/\1<=f/\v.right=true
 .rw [Ad c] at h;rcases h with ⟨h,_⟩ | ⟨_,h1,i,j⟩
  .cases h
  .exact ⟨h1,i,fun _ _ _=>j⟩
 .rw [Ac c] at h;exact ⟨h.1,h.2.1,fun a b d=>absurd ⟨a,b,d⟩ c⟩
def Fz.same {ps x:List Nd}    {c after t t':Int} {xs y:List Nat} {b z:Bool} (h:Fz ps zs a v c after t xs b) (h':Fz x zs a v c after t' y z)
  (j:∀ u,ga x zs c v u=ga ps zs c v u):t'=t/\y=xs/\z=b:=by
 have p:∀ {q:List Nd} {k:List Nd} {s l:Int} {ys g:List Nat},Mh q zs a v c after s ys->Mh k zs a v c after l g->(∀ u,ga k zs c v u=ga q zs c v u)->s<=l:=fun {q k s l ys g} f i j=>by
  apply Ii;intro hc
  have h1:=f.first l i.ge (by omega)
  obtain ⟨r,m⟩:=i.pre;rw [j] at m;rw [m,Cn] at h1;have:=i.len;omega
 have d:∀ {q:List Nd} {k:List Nd} {s l:Int} {ys g:List Nat},Mh q zs a v c after s ys->Fz k zs a v c after l g false->(∀ u,ga k zs c v u=ga q zs c v u)->False:=fun {q k s l ys g} f i j=>by
  have h1:=i.none.2.2 f.many1 f.ky f.right s f.ge f.lt;obtain ⟨r,m⟩:=f.pre;rw [j,m,Cn] at h1;have:=f.len;omega
 cases b with
 | true=>
  cases z with
  | true=>
   have f:=h.found;have i:=h'.found;have e:t'=t:=(by have:=p f i j;have:=p i f (fun u=>(j u).symm);omega);subst e;refine ⟨rfl,?_,rfl⟩;obtain ⟨r,m⟩:=f.pre;obtain ⟨r',o⟩:=i.pre;rw [j,m] at o;have l1:=f.len;have l2:=i.len;exact (List.append_inj o (by omega)).1.symm
  | false=>exact (d h.found h' j).elim
 | false=>
  cases z with
  | true=>exact (d h'.found h (fun u=>(j u).symm)).elim
  | false=>
   have n:=h.none;have n':=h'.none;exact ⟨by rw [n.1,n'.1],by rw [n.2.1,n'.2.1],rfl⟩
def Mh.ak {c:List Nd}  {d:Int}    (h:Mh c zs d v e after t xs):Dv c.length (Bj xs)/\(∀ j,j∈xs->j<c.length/\Bs zs zs.length j/\ld (nd c j).l e v t)/\xs.Pairwise (·<·):=by
 obtain ⟨r,m⟩:=h.pre;have g:∀ j,j∈xs->j<c.length/\Bs zs zs.length j/\ld (nd c j).l e v t:=fun j n=>Ag7 (by rw [m];exact List.mem_append_left _ n);have k:xs.Pairwise (·<·):=by have:=Asq c zs e t v;rw [m] at this;exact (S8.1 this).1
 have h1:=h.many1;have o:=h.len
 have f:∀ i (a:i<xs.length),zi (Bj xs) i=((xs[i]:Nat):Int):=fun i a=>by simp [zi,Bj,List.getD,a]
 have b:(Bj xs).length=xs.length:=by simp [Bj]
 refine ⟨⟨by rw [b];omega,fun i a=>?_,fun i a=>?_,fun i a=>?_⟩,g,k⟩
 .rw [b] at a;rw [f i a];omega
 .rw [b] at a;rw [f i a];have:=(g _ (Lw a)).1;omega
 .rw [b] at a;rw [f i (by omega),f (i+1) a];have:=Np.1 k i (i+1) (by omega) a (by omega);omega
def Xh:Bs (Bj xs) (Bj xs).length j↔j∈xs:=by
 unfold Bs;have b:(Bj xs).length=xs.length:=by simp [Bj]
 have f:∀ i (a:i<xs.length),zi (Bj xs) i=((xs[i]:Nat):Int):=fun i a=>by simp [zi,Bj,List.getD,a]
 constructor
 .rintro ⟨c,d,e⟩;rw [b] at d;rw [f c d] at e
  have:xs[c]=j:=by omega
  rw [<- this];exact Lw d
 .intro h;obtain ⟨i,a,e⟩:=Py.1 h;exact ⟨i,by rw [b];exact a,by rw [f i a,e]⟩
end Pl
namespace Pl
variable{zs:List Int}{xs:List Nat}{v:V4}
def Mh.span {c:List Nd}  {a:Int}  {b after t:Int}  (h:Mh c zs a v b after t xs):Bi t (t+b) v=true:=by
 have:=h.ge;have:=h.fin;have:=h.ky;simp [Bi,h.right];omega
def Mh.take {d e:List Nd}  {f:Int}  {g after t r:Int}  (h:Mh d zs f v g after t xs) (o:∀ i,i<d.length->Cc (nd d i).l)
  (p:Lh d (Bj xs) t (t+g) v r e):r=0/\∀ i,i<d.length->(i∈xs->∀ u,0<=u->u<1099511627776->val (nd e i).l u=if t<=u/\u<t+g then Nc (val (nd d i).l u) v else val (nd d i).l u)/\(¬ i∈xs->(nd e i).l=(nd d i).l):=by
 obtain ⟨k,m,x⟩:=h.ak;have h0:0<=t:=by have:=h.ge;omega
 rcases p with ⟨a,_⟩ | ⟨_,_,a,_⟩ | ⟨_,_,_,rfl,a⟩
 .exact absurd ⟨k,h.span⟩ a
 .refine absurd (fun i b n u q s=>?_) a;exact (Ag5 (o i b) h0 h.ky).1 (m i (Xh.1 n)).2.2.1 u q s
 .exact ⟨rfl,fun i b=>⟨fun j=>(a i b).1 (Xh.2 j),fun j=>(a i b).2 (fun c=>j (Xh.1 c))⟩⟩
end Pl
namespace Pl
open Go.RowKit
variable{q:List Nd}{vs:List V4}{n:Nat}{w w' wr:WD}
def vv (vs:List V4) (i:Nat):V4:=vs.getD i V4.zero
structure Oe (w:WD) (ao:Option Addr) (n:Nat) (vs:List V4):Prop where
 len:vs.length=n
 max:n<=9223372036854775807
 cell:∀ i,i<n->∃ b off,ao=some ⟨b,off,none⟩/\b<w.heap.size/\w.cell? ⟨b,off+i*4,none⟩=some (.int .i64 (vv vs i).a)/\w.cell? ⟨b,off+i*4+1,none⟩=some (.int .i64 (vv vs i).b) /\
  w.cell? ⟨b,off+i*4+2,none⟩=some (.int .i64 (vv vs i).c)/\w.cell? ⟨b,off+i*4+3,none⟩=some (.int .i64 (vv vs i).d)
def Oe.below  {f:Option Addr}   (h:Oe w f n vs) {B:Nat} (a:BW B w w') (k:w.heap.size<=B):Oe w' f n vs:=
 ⟨h.len,h.max,fun i j=>by
  obtain ⟨b,d,e,c,g,a1,a2,a3⟩:=h.cell i j
  exact ⟨b,d,e,Bx c a.size,(Ag a (by omega)).trans g,(Ag a (by omega)).trans a1,(Ag a (by omega)).trans a2,(Ag a (by omega)).trans a3⟩⟩
def Z9:(prog.info? 321).map (fun i=>(i.zero,i.size,i.bytes))=some (some (.pointer none),1,8):=by kernel_rfl
def Aa5 (p:Nd):VL:=.pointer (some ⟨p.pb,0,none⟩)
structure NI (w:WD) (vs:List V4) (k:Nat) (q:List Nd) (sv:VL) (wr:WD):Prop where
 len:q.length=k
 head:wr.heap[w.heap.size]?=some (.cells #[sv] 354 (0,0))
 row:wr.ownsRow (w.heap.size+1) 321 1 sv k (q.map Aa5)
 node:∀ i,i<k->Ci wr (nd q i).pb (nd q i).sb (nd q i).cap (nd q i).whole (nd q i).l/\(nd q i).whole=vv vs i/\(nd q i).l=[⟨0,vv vs i⟩]/\(vv vs i).right=true/\w.heap.size<(nd q i).pb/\w.heap.size<(nd q i).sb
 apart:∀ i j,i<k->j<k->i≠j->(nd q i).pb≠(nd q j).pb/\(nd q i).pb≠(nd q j).sb/\(nd q i).sb≠(nd q j).sb
 off:∀ i,i<k->∀ g,sv.ownBlock=some g->(nd q i).pb≠g/\(nd q i).sb≠g
 low:BW w.heap.size w wr
def Asr (q:List Nd) (x:Nd) (i:Nat) (h:i<=q.length):nd (q++[x]) i=if i=q.length then x else nd q i:=by
 unfold nd;by_cases e:i=q.length
 .subst e;simp
 .rw [Ac e];simp [List.getD,E5 (show i<q.length by omega)]
def Aa6  {base size n:Nat} {e:TypeId} {v:VL} {xs:List VL} (h:w.ownsRow base e size v n xs) (d:∀ g,v.ownBlock=some g->w'.heap[g]?=w.heap[g]?):w'.ownsRow base e size v n xs:=by
 obtain ⟨h1,c⟩:=h;refine ⟨h1,?_⟩;rcases c with h | ⟨g,cap,a,b,f,i,j⟩
 .exact .inl h
 .exact .inr ⟨g,cap,a,b,f,(d g (by rw [b];rfl)).trans i,j⟩
def NI.step {w wr o w3:WD}  {k:Nat}  {sv x:VL} {X:Obj} {u v:Nat} (h:NI w vs k q sv wr) (y:BW wr.heap.size wr o)
  (hp:Ci o u v 1 (vv vs k) [⟨0,vv vs k⟩]) (hr:(vv vs k).right=true) (h1:wr.heap.size<=u) (h2:wr.heap.size<=v)
  (t:w3.ownsRow (w.heap.size+1) 321 1 x (k+1) (q.map Aa5++[.pointer (some ⟨u,0,none⟩)])) (a:(o.alloc X).grownBy w3 sv.ownBlock)
  (ad:x.ownBlock=sv.ownBlock\/x.ownBlock=some (o.alloc X).heap.size) :
  NI w vs (k+1) (q++[⟨u,v,1,vv vs k,[⟨0,vv vs k⟩]⟩]) x (w3.setCell ⟨w.heap.size,0,none⟩ x):=by
 have s:=h.len;have hl:=Ab h.head;have hs:=y.size;have am:=h.row.lt
 have p:∀ b,b<o.heap.size->(∀ g,sv.ownBlock=some g->b≠g)->b≠w.heap.size->(w3.setCell ⟨w.heap.size,0,none⟩ x).heap[b]?=o.heap[b]?:=fun b b1 b2 b3=>by
  rw [Cm _ _ _ _ b3];exact (a.block b (by simp;omega) (fun c=>b2 b c.symm rfl)).trans (Gz o X b b1)
 have l:=fun i r=>(h.node i r).1.lt;have ac:=hp.lt
 have n:∀ g,sv.ownBlock=some g->g<wr.heap.size/\w.heap.size<g:=fun g a=>by have:=am g a;omega
 have f:∀ i,i<k+1->nd (q++[⟨u,v,1,vv vs k,[⟨0,vv vs k⟩]⟩]) i=if i=k then ⟨u,v,1,vv vs k,[⟨0,vv vs k⟩]⟩ else nd q i:=fun i r=>by rw [Asr _ _ _ (by omega),s]
 refine ⟨by simp [s],?_,?_,?_,?_,?_,?_⟩
 .rw [Am ((a.block w.heap.size (by simp;omega) (fun c=>by have:=n _ c.symm;omega)).trans ((Gz o X _ (by omega)).trans (Ae y h.head hl)))];simp
 .rw [C9];refine Aa6 t fun g d=>Cm _ _ _ _ ?_;have:=t.lt g d;show g≠w.heap.size;omega
 .intro i r;rw [f i r];by_cases e:i=k
  .subst e;rw [Ad rfl];refine ⟨⟨?_,hp.row.of_block ?_,hp.ne⟩,rfl,rfl,hr,by simp only;omega,by simp only;omega⟩
   .exact (p u ac.1 (fun g a=>by have:=n g a;omega) (by omega)).trans hp.head
   .exact p v ac.2 (fun g a=>by have:=n g a;omega) (by omega)
  .rw [Ac e];obtain ⟨n1,n2,n3,n4,n5,n6⟩:=h.node i (by omega);have z:=l i (by omega);have hf:=h.off i (by omega);refine ⟨⟨?_,n1.row.of_block ?_,n1.ne⟩,n2,n3,n4,n5,n6⟩
   .exact (p _ (by omega) (fun g a=>(hf g a).1) (by omega)).trans (Ae y n1.head z.1)
   .exact (p _ (by omega) (fun g a=>(hf g a).2) (by omega)).trans (y.block _ z.2)
 .intro i j r hj al;rw [f i r,f j hj];by_cases e1:i=k
  .have e2:j≠k:=(by omega);rw [Ad e1,Ac e2];have z:=l j (by omega)
   refine ⟨?_,?_,?_⟩<;>simp only<;>omega
  .rw [Ac e1];have z:=l i (by omega);by_cases e2:j=k
   .rw [Ad e2]
    refine ⟨?_,?_,?_⟩<;>simp only<;>omega
   .rw [Ac e2];exact h.apart i j (by omega) (by omega) al
 .intro i r g d;rw [f i r];have an:(o.alloc X).heap.size=o.heap.size+1:=by simp
  rcases ad with m | m
  .rw [m] at d;by_cases e:i=k
   .rw [Ad e];have:=n g d
    refine ⟨?_,?_⟩<;>simp only<;>omega
   .rw [Ac e];exact h.off i (by omega) g d
  .rw [m,an] at d;simp at d;by_cases e:i=k
   .rw [Ad e]
    refine ⟨?_,?_⟩<;>simp only<;>omega
   .rw [Ac e];have z:=l i (by omega);omega
 .have m:=h.low.trans (y.mono h.low.size);exact ((m.alloc (by omega) X).grown a (by simp;omega) (fun g a=>by have:=n g a;omega)).setCell Ln _
def NI.dm     {m:VL} (h:NI w vs n q m wr) (u:n<=16):∃ o d cap,m=.slice d n cap/\Bz wr w.heap.size o d cap q:=by
 have b:=h.len;rcases Joins.ownsRow_forms h.row with ⟨rfl,h0⟩ | ⟨g,cap,rfl⟩
 .refine ⟨0,none,0,by rw [h0],?_⟩;exact ⟨by rw [b,h0];exact h.head,fun c=>by omega,fun i a=>by omega,fun i a=>by omega,fun i a=>by omega,fun i j a=>by omega,fun i a=>by omega,by omega⟩
 .refine ⟨g,some ⟨g,0,none⟩,cap,rfl,?_⟩;refine ⟨by rw [b];exact h.head,fun _=>rfl,fun i a=>?_,fun i a=>(h.node i (by omega)).1,fun i a=>?_,fun i j a t=>h.apart i j (by omega) (by omega),fun i a=>?_,by omega⟩
  .rw [h.row.cellAt i (by omega)];simp [Aa5,nd,List.getD,a]
  .obtain ⟨p,f,k,l,r,s⟩:=h.node i (by omega);rw [f,k];exact Aru l
  .obtain ⟨p,f,k,l,r,s⟩:=h.node i (by omega);have e:=h.off i (by omega) g rfl;exact ⟨by omega,by omega,e.1,e.2⟩
def Ass (vs:List V4) (n:Nat) (w:WD) (e:Ending) (w':WD):Prop:=
 (¬ (n<=16/\∀ i,i<n->(vv vs i).right=true)/\e=.returned (.pointer none)/\BW w.heap.size w w') \/
 (n<=16/\(∀ i,i<n->(vv vs i).right=true)/\∃ gb gs ao cap ps,e=.returned (.pointer (some ⟨gb,0,none⟩))/\w.heap.size<=gb/\Bz w' gb gs ao cap ps/\ps.length=n /\
   (∀ i,i<n->(nd ps i).whole=vv vs i/\(nd ps i).l=[⟨0,vv vs i⟩])/\(∀ b,Bd ps b->w.heap.size<=b)/\BW w.heap.size w w')
def Ast (ao:Option Addr) (n c:Nat) (vs:List V4) (w:WD) (hz:Oe w ao n vs):CS prog 235 #[.slice ao n c] w (Ass vs n w):=by
 obtain ⟨aL,aD,aG,aB,aC⟩:=Cb Z9;have aN:=hz.max;replace hz:=Hh hz;by_cases q1:16<n
 .have d1:decide (16<(n:Int))=true:=by simp;omega
  go_enter func235,ntmps235;go_wp2;go_ret;exact .inl ⟨fun h=>by omega,rfl,Below.refl _ _⟩
 have d1:decide (16<(n:Int))=false:=by simp;omega
 replace q1:=Hh q1;go_enter func235,ntmps235;go_wp2;go_loopw [5,6,14] (fun _ _ i wr=>∃ (k:Nat) (q:List Nd) (sv:VL),i=.int .i64 k/\k<=n/\Hid (NI w vs k q sv wr)) (fun _ _ i _=>n-(intOf i).toNat)
 case atStart=>exact ⟨0,[],.slice none 0 0,rfl,Aq _,⟨rfl,Ah _ _,Lv _ _ _ _,fun i z=>by omega,fun i j z=>by omega,fun i z=>by omega,Bn⟩⟩
 case round=>
  obtain ⟨k,q,sv,rfl,hk,hN⟩:=hrel;by_cases hc:k<n
  .have aJ:(k:Int)<n:=(by omega);have aO:(0:Int)<=(k:Int):=(by omega);obtain ⟨b,aP,rfl,t,a0,a1,a2,a3⟩:=hz.cell k hc;have l:=hN.low;have b0:=(Ag l t).trans a0;have b1:=(Ag l t).trans a1;have b2:=(Ag l t).trans a2;have b3:=(Ag l t).trans a3;clear a0 a1 a2 a3;have s1:=l.size;have aK:=Ab hN.head;obtain ⟨x,hx⟩:=Ex (vv vs k);rw [<- hx] at b0 b1 b2 b3;replace ⟨hx,l⟩:=H2 hx l;go_wp2_with fail;refine (Aay x _).mono ?_;rintro e w2 (⟨hw,rfl,m⟩ | ⟨hw,pb,sb,rfl,hp,av,aA,m⟩)
   .have am:=(l.alloc s1 _).trans (m.mono (by simp;omega));replace ⟨am,m,hw⟩:=H3 am m hw;go_wp2;go_ret;refine .inl ⟨fun h=>?_,rfl,am.out⟩;have:=h.2 k hc;rw [<- hx.out,hw.out] at this;cases this
   .have t:=Bn.trans (m.mono (by simp));have aE:wr.heap.size<=pb:=(by simp at av;omega);have aF:wr.heap.size<=sb:=(by simp at aA;omega);have hh:=Ae t hN.head aK;have c0:=Aa hh 0;simp at c0;have s2:=t.size;have ac:=hN.row.lt;have s:=Aa6 hN.row fun g hg=>t.block g (ac g hg).2;have r:=s.alloc (.cells #[.pointer (some ⟨pb,0,none⟩)] 321 (0,0))
    have o:∀ j u,([.pointer (some ⟨pb,0,none⟩)]:List VL)[j]?=some u->(w2.alloc (.cells #[.pointer (some ⟨pb,0,none⟩)] 321 (0,0))).cell? ((⟨w2.heap.size,0,none⟩:Addr).add j)=some u:=by
     intro j u hu
     match j,hu with
     | 0,hu=>
      have:=Aa (Ah w2 (.cells #[.pointer (some ⟨pb,0,none⟩)] 321 (0,0))) 0;simp at hu;subst hu;exact this
     | j+1,hu=>simp at hu
    have p:∀ u∈([.pointer (some ⟨pb,0,none⟩)]:List VL),u.oneCell'=true:=by simp [Value.oneCell']
    have al:k+1<=maxLen:=by
     have:maxLen=9223372036854775807:=by kernel_rfl
     have:=q1.out;omega
    have an:(k+1)*8<=140737488355328:=(by have:=q1.out;omega);have v:w.heap.size+1<=(w2.alloc (.cells #[.pointer (some ⟨pb,0,none⟩)] 321 (0,0))).heap.size:=(by simp;omega);have aH:=Ab hh;replace ⟨hh,t,m,hp,hw,ac,s,r⟩:=H8 hh t m hp hw ac s r;replace ⟨o,p,al,an,v,av,aA⟩:=H7 o p al an v av aA;go_wp2_with (at_builtin;refine Q9 _ rfl _ _ 352 rfl (w.heap.size+1) 321 aL _ 1 8 underlying352 aD aG aB aC rfl (by decide) sv k _ rfl r.out ⟨w2.heap.size,0,none⟩ 1 1 [.pointer (some ⟨pb,0,none⟩)] rfl rfl o.out p.out al.out an.out v.out ?_;intro v1 w3 f d _ y;obtain ⟨g,aM,rfl⟩:=Joins.ownsRow_form f (by omega);have ad:=(d.block w.heap.size (by simp;omega) (fun c=>by have:=ac _ c.symm;omega)).trans ((Gz w2 _ _ aH).trans hh.out);have g3:=Aa ad 0;have f3:=Af ad 0;simp at g3;replace ⟨f,d,y,ad⟩:=H4 f d y ad);go_roundw
    case rel=>
     refine ⟨k+1,_,_,by go_num,by omega,NI.step hN.out t.out (by rw [<- hx.out];exact hp.out) (by rw [<- hx.out];exact hw.out) aE aF f.out d.out y.out⟩
    case measure=>simp [intOf];omega
  .have aJ:¬ (k:Int)<n:=(by omega);have ap:k=n:=(by omega);replace ap:=Hh ap;go_wp2;go_ret;have a:=hN.out;rw [ap.out] at a;have hq:=q1.out;obtain ⟨gs,aI,cap,_,hP⟩:=a.dm (by omega);refine .inr ⟨by omega,fun i z=>(a.node i z).2.2.2.1,w.heap.size,gs,aI,cap,q,rfl,Nat.le_refl _,hP,a.len,fun i z=>⟨(a.node i z).2.1,(a.node i z).2.2.1⟩,?_,a.low⟩;rintro b ⟨i,z,h | h⟩
   .have:=(a.node i (by rw [<- a.len];exact z)).2.2.2.2.1;omega
   .have:=(a.node i (by rw [<- a.len];exact z)).2.2.2.2.2;omega
