/- Parts of a proof. No condition. -/
import Derived.Test.YtimlcnhcjndijaaGreatDoorG37
set_option linter.all false
set_option maxRecDepth 100000
set_option maxHeartbeats 12800000
namespace Go.Proofs.YtimlcnhcjndijaaGreatDoor
open Value renaming pointer->Q,int->G,slice->J,tuple->E,bool->D,string->Y
open Option renaming some->Z,none->I
open IntKind renaming i64->O
open Obj renaming cells->V
open Ending renaming returned->K
open Go renaming World->WD,Value->VL,Calls->CS
open Go.RowKit renaming Below->BW
open Go.Proofs.Tryz
section
open Go.RowKit Go.Maps Go.Lib
def A1g {w:WD} {T:Tv} (x:de) (h:An w T) (hx:x.ok w) (hj:T.js.length<=1000000) (hr:Dz T.vs T.pl x.pl=0)
  (aI:((ee T.vs T.pl x.pl).1).cls.length<=1000) (R:Prop)
  (u:∀W,BW w.heap.size w W->CS prog (N6 x.n.kind) #[Q (Z ⟨T.tb,0,I⟩),x.val] W (λe w'=>Qe W T (ee T.vs T.pl x.pl).1 (ee T.vs T.pl x.pl).2 e w'/\R)) :
  CS prog 15 #[Q (Z ⟨T.tb,0,I⟩),x.val] w (λe w'=>Ad8 w T (Ca T.vs T.pl x.pl) e w'/\R):=by
 have aU:F4 x.pl=true:=by
  by_cases q:F4 x.pl=true
  .exact q
  .unfold Dz at hr;rw[Ad (by simpa using q)]at hr;cases hr
 obtain⟨hk,_,_,_,_,_⟩:=Ry aU;have k:=ui.new w x;obtain⟨W0,aK⟩:=Ex ((w.alloc (V x.cells 40 (0,0))).alloc (V #[G O 0,G O 0,G O 0] 35 (0,0)));rw[<-aK]at k;have kw:=Ad7 x (h.low k.low) hj (hx.low k.low);rw[hr]at kw;have aJ:=hx.xw 3;obtain⟨P,hP⟩:=Ex ((ee T.vs T.pl x.pl).1);obtain⟨⟨aC,dce,dcf,o⟩,aR⟩:∃c,c=(ee T.vs T.pl x.pl).2:=⟨_,rfl⟩
 have aT:Ca T.vs T.pl x.pl=(if Br x.n.kind=true then { P with cls:=Ib P.cls x.n.ah ⟨x.n.seq,dce,dcf,o⟩ } else P,⟨aC,dce,dcf,o⟩,0):=by
  unfold Ca;rw[Ac (by rw[hr];simp)];have e:∀D0:du×Cl,D0.1=P->D0.2=⟨aC,dce,dcf,o⟩->(let d:=D0;(if Br x.pl.n.kind=true then { d.1 with cls:=Ib d.1.cls x.pl.n.ah ⟨x.pl.n.seq,d.2.e,d.2.first,d.2.last⟩ } else d.1,d.2,(0:Int)))=(if Br x.n.kind=true then { P with cls:=Ib P.cls x.n.ah ⟨x.n.seq,dce,dcf,o⟩ } else P,⟨aC,dce,dcf,o⟩,0):=by rintro⟨a,b⟩ rfl rfl;rfl
  exact e _ hP.symm aR.symm
 rw[<-hP,<-aR]at u;rw[<-hP]at aI;rw[aT];obtain⟨tb,ht⟩:=Ex (T.tb);rw[<-ht]at u kw;rw[<-ht];clear aT hP aR aU hr;obtain⟨⟨f,ai,tick,ah,seq,bt,attempt,node,br⟩,so,m,sc,di⟩:=x;replace hk:f=1\/f=2\/f=3\/f=4\/f=5\/f=6\/f=7\/f=8\/f=9\/f=10\/f=11:=hk;replace aJ:-9223372036854775808<=ah/\ah<=9223372036854775807:=aJ;replace⟨h,hx,k,kw,hj,u,ht,aJ⟩:=H8 h hx k kw hj u ht aJ;replace aI:=Hh aI;obtain⟨F,hF⟩:=Ex (N6 f);replace u:∀W,BW w.heap.size w W->CS prog (N6 f) _ _ _:=u.out;rw[<-hF]at u
 have aV:∀(a:Array VL) (W:WD),Sem.run prog (callFunc F a) W=.ok (.enter F a) W:=by
  intro a W;rw[hF];rcases hk with rfl|rfl|rfl|rfl|rfl|rfl|rfl|rfl|rfl|rfl|rfl
  all_goals rfl
 replace⟨u,hk,hF⟩:=H3 u hk hF;by_cases an:Br f=true
 .rw [Ad (show Br (⟨f,ai,tick,ah,seq,bt,attempt,node,br⟩:dh).kind=true from an)];replace an:=Hh an
  .have al:∀W,BW w.heap.size w W->CS prog F #[Q (Z ⟨tb,0,I⟩),Value.agg #[G O f,G O ai,G O tick,G O ah,G O seq,G O bt,G O attempt,G O node,G O br,J so m sc]] W (λe w'=>Qe W T P ⟨aC,dce,dcf,o⟩ e w'/\R):=u.out;have af:=Amw tb f
   replace af:∀W,CS prog 45 #[Q (Z ⟨tb,0,I⟩),G O f] W λe w'=>e=K (.func (.func F) #[Q (Z ⟨tb,0,I⟩)] #[])/\w'=W:=λW=>by rw[hF.out];exact af W hk.out
   obtain⟨e0,e1,e2,e3,e4,e5,e6,e7,e8,e9⟩:=C10 k.box;(try dsimp only at e0 e1 e2 e3 e4 e5 e6 e7 e8 e9);replace⟨al,af⟩:=H2 al af;clear u;go_enter func15,ntmps15;go_upto_region 1 with fail;rw[<-aK];clear aK;go_upto_region 4 with(go_at_call 31;(with_reducible refine(kw.out).mono ?_);rintro e w1 ⟨rfl,z⟩;replace z:=Hh z);clear e0 e1 e2 e3 e4 e5 e6 e7 e8 e9;have g:=Ae z.out k.box (Ab k.box);have j:=Ae z.out k.res (Ab k.res);have i:=k.low.trans (z.mono k.low.size);have t:=h.low i;obtain⟨e0,e1,e2,e3,e4,e5,e6,e7,e8,e9⟩:=C10 g;(try dsimp only at e0 e1 e2 e3 e4 e5 e6 e7 e8 e9);have am:=al w1 i;replace⟨g,j,i,t,am⟩:=H5 g j i t am;go_upto_region 6 with(first|(go_at_call 45;(with_reducible refine(af.out _).mono ?_);rintro e w1 ⟨rfl,rfl⟩)|((with_reducible refine(am.out).mono ?_);rintro e w3 ⟨⟨rfl,T',r,ao⟩,hR⟩;replace⟨r,ao,hR⟩:=H3 r ao hR));clear e0 e1 e2 e3 e4 e5 e6 e7 e8 e9;obtain⟨W4,ap⟩:=Ex (w3.alloc (V #[G O dce,G O dcf,G O o] 35 (0,0)));obtain⟨rb,aG⟩:=Ex (w3.heap.size);have ac:BW w3.heap.size w3 W4:=(by rw[ap];exact Bn);have aA:W4.heap[rb]?=Z (V #[G O dce,G O dcf,G O o] 35 (0,0)):=(by rw[ap,aG];exact Ah _ _);rw[<-ap,<-aG];clear ap aG;have ad:=Ae ac (r.mod.aw g.out (t.off g.out ad9 ad9 ad9 ad9 ad9)) (Ab (r.mod.aw g.out (t.off g.out ad9 ad9 ad9 ad9 ad9)));have s:=Ae ac (r.mod.aw j.out (t.off j.out ad9 ad9 ad9 ad9 ad9)) (Ab (r.mod.aw j.out (t.off j.out ad9 ad9 ad9 ad9 ad9)));have y:=(r.back i.out).low ac;have aE:=r.ri (b:=w.heap.size+1) h.out ao9 (by have:=Ab j.out;exact this);obtain⟨e0,e1,e2,e3,e4,e5,e6,e7,e8,e9⟩:=C10 ad;(try dsimp only at e0 e1 e2 e3 e4 e5 e6 e7 e8 e9);obtain⟨q0,q1,q2⟩:=C3 aA;(try dsimp only at q0 q1 q2);replace⟨ac,aA,ad,s,y,aE⟩:=H6 ac aA ad s y aE
   have aH:=λW=>by
    have:=Qg f W;rw[an.out]at this;exact this
   have m2:W4.cell? ⟨tb,2,I⟩=Z (.map (Z T'.mb)):=(by rw[ht.out,<-y.tb];exact Aa y.at_.head 2);have aQ:=y.at_.cls;have aO:W4.drew.ownsMap (H:=Unit) prog 3 Ps T'.mb T'.cls.length (Jj T'.cls):=aQ;have aL:keyOf prog 3 (G O ah)=Z (F0 ah):=keyOf_int_mk D5 (wfI aJ.1 aJ.2);replace⟨aH,aQ,aO,aL⟩:=H4 aH aQ aO aL;go_upto_region 7 with(go_at_call 46;(with_reducible refine(aH.out _).mono ?_);rintro e W4 ⟨rfl,rfl⟩)
   have aN:T'.cls.length<maxLen:=by
    have:maxLen=9223372036854775807:=rfl;have e:T'.cls=P.cls:=(by rw[<-ao.out];rfl);rw[e];have:=aI.out;omega
   replace aN:=Hh aN;go_still_tail 11,(by kernel_rfl);change wpList _ _ _ _ _ W4.drew;go_upto_region 8 with(at_mapUpdate;refine Aah _ rfl _ _ _ 108 rfl 3 123 (int_keyed D5) Aae _ T'.mb T'.cls.length _ rfl aO.out aN.out _ _ (F0 ah) rfl rfl aL.out _ [] (Ag0 ⟨seq,dce,dcf,o⟩) ?_;intro w5 aF av;replace⟨aF,av⟩:=H2 aF av);have aM:Mod (λq=>q=T'.mb) W4 w5:=(Mod.drew (Mod.refl _ W4)).trans (Mod.grown av.out (λq hq=>by cases hq;rfl));have aP:Li w5 T'.mb (Ib T'.cls ah ⟨seq,dce,dcf,o⟩):=(by have:=aF.out;rw[Aqv]at this;have h2:=Aqx (l:=(Ib T'.cls ah ⟨seq,dce,dcf,o⟩).map λp=>(F0 p.1,nw p.2)) this;rw[Ar]at h2;exact h2);have aS:=aM.aw aA.out (λe=>y.at_.fp aA.out e.symm);have aB:=aM.aw s.out (λe=>y.at_.fp s.out e.symm);have aD:=(y.ow _ aM aP).r9 h.out aE.out aB (G O dce) (G O dcf) (G O o);clear e0 e1 e2 e3 e4 e5 e6 e7 e8 e9 q0 q1 q2 m2;obtain⟨q0,q1,q2⟩:=C3 aS;(try dsimp only at q0 q1 q2);obtain⟨r0,r1,r2⟩:=C3 aB;(try dsimp only at r0 r1 r2);have fr:=Af aB;replace⟨aM,aP,aS,aB,aD⟩:=H5 aM aP aS aB aD;go_wp2_with fail;refine Ak (v:=E #[F9 ⟨aC,dce,dcf,o⟩,G O 0]) (by simp[results,results15,go_sem,r0,r1,r2]) rfl ⟨⟨rfl,_,aD.out,?_⟩,hR.out⟩;rw[<-ao.out];rfl
 .rw [Ac (show ¬Br (⟨f,ai,tick,ah,seq,bt,attempt,node,br⟩:dh).kind=true from an)];replace an:Br f=false:=by simpa using an
  replace an:=Hh an
  .have al:∀W,BW w.heap.size w W->CS prog F #[Q (Z ⟨tb,0,I⟩),Value.agg #[G O f,G O ai,G O tick,G O ah,G O seq,G O bt,G O attempt,G O node,G O br,J so m sc]] W (λe w'=>Qe W T P ⟨aC,dce,dcf,o⟩ e w'/\R):=u.out;have af:=Amw tb f
   replace af:∀W,CS prog 45 #[Q (Z ⟨tb,0,I⟩),G O f] W λe w'=>e=K (.func (.func F) #[Q (Z ⟨tb,0,I⟩)] #[])/\w'=W:=λW=>by rw[hF.out];exact af W hk.out
   obtain⟨e0,e1,e2,e3,e4,e5,e6,e7,e8,e9⟩:=C10 k.box;(try dsimp only at e0 e1 e2 e3 e4 e5 e6 e7 e8 e9);replace⟨al,af⟩:=H2 al af;clear u;go_enter func15,ntmps15;go_upto_region 1 with fail;rw[<-aK];clear aK;go_upto_region 4 with(go_at_call 31;(with_reducible refine(kw.out).mono ?_);rintro e w1 ⟨rfl,z⟩;replace z:=Hh z);clear e0 e1 e2 e3 e4 e5 e6 e7 e8 e9;have g:=Ae z.out k.box (Ab k.box);have j:=Ae z.out k.res (Ab k.res);have i:=k.low.trans (z.mono k.low.size);have t:=h.low i;obtain⟨e0,e1,e2,e3,e4,e5,e6,e7,e8,e9⟩:=C10 g;(try dsimp only at e0 e1 e2 e3 e4 e5 e6 e7 e8 e9);have am:=al w1 i;replace⟨g,j,i,t,am⟩:=H5 g j i t am;go_upto_region 6 with(first|(go_at_call 45;(with_reducible refine(af.out _).mono ?_);rintro e w1 ⟨rfl,rfl⟩)|((with_reducible refine(am.out).mono ?_);rintro e w3 ⟨⟨rfl,T',r,ao⟩,hR⟩;replace⟨r,ao,hR⟩:=H3 r ao hR));clear e0 e1 e2 e3 e4 e5 e6 e7 e8 e9;obtain⟨W4,ap⟩:=Ex (w3.alloc (V #[G O dce,G O dcf,G O o] 35 (0,0)));obtain⟨rb,aG⟩:=Ex (w3.heap.size);have ac:BW w3.heap.size w3 W4:=(by rw[ap];exact Bn);have aA:W4.heap[rb]?=Z (V #[G O dce,G O dcf,G O o] 35 (0,0)):=(by rw[ap,aG];exact Ah _ _);rw[<-ap,<-aG];clear ap aG;have ad:=Ae ac (r.mod.aw g.out (t.off g.out ad9 ad9 ad9 ad9 ad9)) (Ab (r.mod.aw g.out (t.off g.out ad9 ad9 ad9 ad9 ad9)));have s:=Ae ac (r.mod.aw j.out (t.off j.out ad9 ad9 ad9 ad9 ad9)) (Ab (r.mod.aw j.out (t.off j.out ad9 ad9 ad9 ad9 ad9)));have y:=(r.back i.out).low ac;have aE:=r.ri (b:=w.heap.size+1) h.out ao9 (by have:=Ab j.out;exact this);obtain⟨e0,e1,e2,e3,e4,e5,e6,e7,e8,e9⟩:=C10 ad;(try dsimp only at e0 e1 e2 e3 e4 e5 e6 e7 e8 e9);obtain⟨q0,q1,q2⟩:=C3 aA;(try dsimp only at q0 q1 q2);replace⟨ac,aA,ad,s,y,aE⟩:=H6 ac aA ad s y aE
   have aH:=λW=>by
    have:=Qg f W;rw[an.out]at this;exact this
   obtain⟨r0,r1,r2⟩:=C3 s.out;(try dsimp only at r0 r1 r2);have fr:=Af s.out;have aD:=y.r9 h.out aE.out s.out (G O dce) (G O dcf) (G O o);replace⟨aH,aD⟩:=H2 aH aD;go_wp2_with (go_at_call 46;(with_reducible refine(aH.out _).mono ?_);rintro e W4 ⟨rfl,rfl⟩);exact Ak (v:=E #[F9 ⟨aC,dce,dcf,o⟩,G O 0]) (by simp[results,results15,go_sem,r0,r1,r2]) rfl ⟨⟨rfl,T',aD.out,by first|exact ao.out|(rw[ao.out];rfl)⟩,hR.out⟩
structure Dj (w0:WD) (T:Tv) (w:WD):Prop where
 tab:An w T
 az:∀b,T.az b->w0.heap.size<=b
 low:BW w0.heap.size w0 w
 gw:Ey T.vs T.pl
variable {w0 w w':WD} {T T':Tv}
def Dj.jw (h:Dj w0 T w) (a:Ev w T T' w') (d:Ey T.vs T'.pl):Dj w0 T' w':=
 ⟨a.at_,λb c=>by
  rcases a.az b c with c|c
  .exact h.az b c
  .exact Ay h.low.size c,h.low.trans (a.mod.below h.low.size h.az),by rw[a.vs];exact d⟩
def Dj.drop (h:Dj w0 T w) (a:BW w.heap.size w w'):Dj w0 T w':=⟨h.tab.low a,h.az,h.low.trans (a.mono h.low.size),h.gw⟩
def T7 (vs:List ax) (t:du) (p:ei):Prop:=Dz vs t p=0->p.n.kind=6->Rx vs p.n.tick (vj { t with tick:=p.n.tick }) (Dd p.n.tick t.ab)
def Aeb (w0 w:WD) (T:Tv) (p:ei) (e:Ending) (w':WD):Prop:=
 ∃T',e=K (E #[F9 (Ca T.vs T.pl p).2.1,G O (Ca T.vs T.pl p).2.2])/\Dj w0 T' w'/\T'.pl=(Ca T.vs T.pl p).1/\Ev w T T' w'/\T7 T.vs T.pl p
def A1n {k:Int}:(k=1->N6 k=81)/\(k=2->N6 k=82)/\(k=6->N6 k=83)/\(k=7->N6 k=84)/\((8<=k/\k<=11)->N6 k=85)/\((k=3\/k=4\/k=5)->N6 k=86):=by
 refine⟨?_,?_,?_,?_,?_,?_⟩
 .rintro rfl;rfl
 .rintro rfl;rfl
 .rintro rfl;rfl
 .rintro rfl;rfl
 .rintro ⟨a,b⟩
  have:k=8\/k=9\/k=10\/k=11:=ao9
  rcases this with rfl|rfl|rfl|rfl<;>rfl
 .rintro (rfl|rfl|rfl)<;>rfl
def Dj.di {x:de} (h:Dj w0 T w) (c:x.ok w0):∀a,Mod T.az w a->J6 a x.so x.m x.di:=λ_ b=>c.di.low (h.low.trans (b.below h.low.size h.az))
def Aec (x:de) (h:Dj w0 T w) (p:x.ok w) (am:∀W',Mod T.az w W'->J6 W' x.so x.m x.di) (ac:x.n.kind=6->T.js.length<=20) :
  CS prog 15 #[Q (Z ⟨T.tb,0,I⟩),x.val] w (Aeb w0 w T x.pl):=by
 have af:T.pl.ab.length=T.js.length:=by simp[Tv.pl]
 have ad:T.js.length<=100:=by have:=h.gw.len;omega
 have end_:∀e w',Ad8 w T (Ca T.vs T.pl x.pl) e w'->T7 T.vs T.pl x.pl->Aeb w0 w T x.pl e w':=λe w' a hR=>by
  obtain⟨he,T',ht,z⟩:=a;exact⟨T',he,h.jw ht (by rw[z];exact A1l h.gw),z,ht,hR⟩
 by_cases hr:Dz T.vs T.pl x.pl=0
 .have hw:=Z2 hr;have f:=Ry hw.may;obtain⟨d1,d2,d6,d7,d8,d3⟩:=A1n (k:=x.n.kind);refine(A1g x h.tab p ao9 hr (by rw[A1m];have:=h.gw.gq;omega) (T7 T.vs T.pl x.pl) (λW hW=>?_)).mono λe w' a=>end_ e w' a.1 a.2;have u:=h.tab.low hW;have o:=h.gw.all.b.j5;have d:x.n.kind≠6->T7 T.vs T.pl x.pl:=λq _ c=>absurd c q;by_cases r:x.n.kind=1
  .rw [d1 r,show ee T.vs T.pl x.pl=({ T.pl with ai:=x.n.ai },⟨0,0,0,0⟩)from Ad r];exact(Ayt x u).mono λe w' a=>⟨a,d ao9⟩
  by_cases s:x.n.kind=2
  .have l:ee T.vs T.pl x.pl=M5 T.vs T.pl (x.di.map ay.pl):=(by unfold ee;rw[Ac (show ¬x.pl.n.kind=1 from r),Ad (show x.pl.n.kind=2 from s)];rfl);rw[d2 s,l];have h0:=hw.sub s;rw[af]at h0;refine(A1b x.n x.so x.m x.c x.di u h.gw.all ao9 (λW' hm=>am W' ((Mod.ag hW).trans hm)) ?_ h0).mono λe w' a=>⟨a,d ao9⟩
   .have h1:=p.di.len;have h2:=f.len;have h3:x.pl.specs.length=x.di.length:=Ar _;omega
  by_cases g:x.n.kind=6
  .have l:ee T.vs T.pl x.pl=(Tr T.vs T.pl x.n.tick,⟨0,0,0,0⟩):=(by unfold ee;rw[Ac (show ¬x.pl.n.kind=1 from r),Ac (show ¬x.pl.n.kind=2 from s),Ad (show x.pl.n.kind=6 from g)];rfl);rw[d6 g,l];have ht:=f.tick (.inl g);have ht:0<=x.n.tick/\x.n.tick<1099511627776:=ht;exact(A03 x.n.kind x.n.ai x.n.tick x.n.ah x.n.seq x.n.bt x.n.attempt x.n.node x.n.br x.so x.m x.c x.di u h.gw.all (ac g)).mono λe w' a=>⟨a.1,λ_ _=>a.2⟩
  by_cases t:x.n.kind=7
  .have l:ee T.vs T.pl x.pl=(Aif T.pl x.n,⟨0,0,0,0⟩):=(by unfold ee;rw[Ac (show ¬x.pl.n.kind=1 from r),Ac (show ¬x.pl.n.kind=2 from s),Ac (show ¬x.pl.n.kind=6 from g),Ad (show x.pl.n.kind=7 from t)];rfl);rw[d7 t,l];obtain⟨k,j,v,hk,_,_,a⟩:=Aea (f.bt (.inr (.inr (.inr t)))) (hw.bt (.inr (.inr (.inr t))));obtain⟨i,hi⟩:=a t;have v:(T.js.map λj=>j.2.pl)[k]?=Z j:=v;rw[Bg]at v;obtain⟨jx,al,rfl⟩:=Oa.1 v;exact(Ayq x u o k jx al hk i hi).mono λe w' a=>⟨Alk a,d g⟩
  by_cases y:8<=x.n.kind/\x.n.kind<=11
  .have l:ee T.vs T.pl x.pl=(Px T.pl x.n,⟨0,0,0,0⟩):=(by unfold ee;rw[Ac (show ¬x.pl.n.kind=1 from r),Ac (show ¬x.pl.n.kind=2 from s),Ac (show ¬x.pl.n.kind=6 from g),Ac (show ¬x.pl.n.kind=7 from t),Ad (show 8<=x.pl.n.kind/\x.pl.n.kind<=11 from y)];rfl);rw[d8 y,l];have h0:=hw.node y.1 y.2;have ao:0<=x.n.node:=f.node (by show x.n.kind=7\/x.n.kind=8\/x.n.kind=9\/x.n.kind=10\/x.n.kind=11;omega)
   have ap:x.n.node<(T.nodes.length:Int):=by
    unfold Lp at h0;split at h0
    .cases h0
    .rename_i c;have c:¬(T.nodes.length:Int)<=x.n.node:=c;omega
   exact(Ay6 x u o x.n.node.toNat ao9 ao9 y).mono λe w' a=>⟨a,d g⟩
  .have q3:x.n.kind=3\/x.n.kind=4\/x.n.kind=5:=(by have:=f.kind;have this:x.n.kind=1\/x.n.kind=2\/x.n.kind=3\/x.n.kind=4\/x.n.kind=5\/x.n.kind=6\/x.n.kind=7\/x.n.kind=8\/x.n.kind=9\/x.n.kind=10\/x.n.kind=11:=this;omega);have l:ee T.vs T.pl x.pl=Aie T.pl x.n:=(by unfold ee;rw[Ac (show ¬x.pl.n.kind=1 from r),Ac (show ¬x.pl.n.kind=2 from s),Ac (show ¬x.pl.n.kind=6 from g),Ac (show ¬x.pl.n.kind=7 from t),Ac (show ¬(8<=x.pl.n.kind/\x.pl.n.kind<=11)from y)];rfl);rw[d3 q3,l];obtain⟨k,j,v,hk,_,_,_⟩:=Aea (f.bt (by show x.n.kind=3\/x.n.kind=4\/x.n.kind=5\/x.n.kind=7;omega)) (hw.bt (by show x.n.kind=3\/x.n.kind=4\/x.n.kind=5\/x.n.kind=7;omega));have an:=(Aq.1 v).1;exact(Aym x u o k ao9 hk).mono λe w' a=>⟨Alk a,d g⟩
 .exact (A1f x h.tab p ao9 hr).mono λe w' a=>end_ e w' a λc=>absurd c hr
end
section
open Go.RowKit Go.Maps Go.Lib
variable {w0 w w':WD} {T T':Tv}
def Dj.xo (h:Dj w0 T w) {j:Nat×ar} (a:j∈T.js):∃k,Ij T.vs T.pl.ab.length k j.2.pl:=by
 obtain⟨k,b⟩:=Dn a
 have:T.pl.ab[k]?=Z j.2.pl:=by show(T.js.map λj=>j.2.pl)[k]?=_;simp[b]
 exact⟨k,h.gw.all k _ this⟩
def Dj.rows (h:Dj w0 T w):(∀j,j∈T.js->Zt j.2)/\(∀j,j∈T.js->Aly j.2)/\T.js.length<=100:=by
 have i:∀j,j∈T.js->j.2.sn<=160/\j.2.gn<=16/\j.2.pn<=1000/\wj j.2.pl.sp.df 1099511627776:=λj f=>by
  obtain⟨k,g⟩:=h.xo f;have ok:=h.tab.ok j f;have p:=ok.after.row.len;have r:=ok.ak.row.len;have s:=Ji ok.parts;have t:=g.um;have u:=Ams g.toFn;obtain⟨_,_,l,_,o,_⟩:=Fy (I5 g.gp);obtain⟨_,m⟩:=C7.1 o;have m:j.2.pl.sp.nodes<=16:=m
  have n:j.2.pl.ak.length<=16:=by
   by_cases q:j.2.pl.start<0
   .rw [g.xg q];simp
   .have:=(g.ak ao9).1.len;omega
  refine⟨ao9,ao9,ao9,?_⟩;have l:j.2.pl.sp.df.right=true:=(Yj.1 l).1;have:=Pl.Fj.1 l;unfold wj;omega
 refine⟨λj f=>?_,λj f=>?_,?_⟩
 .obtain ⟨a,b,c,_⟩:=i j f;exact⟨ao9,ao9,ao9⟩
 .obtain ⟨_,_,c,d⟩:=i j f;exact⟨d,c⟩
 .have:=h.gw.len;have e:T.pl.ab.length=T.js.length:=by simp[Tv.pl]
  omega
def A1o (vs:List ax):Ey vs ⟨0,-1,[],List.replicate vs.length lr,[]⟩:=by
 refine⟨λk j b=>by simp at b,as9,⟨Dh 0,by show(0:Int)<=1099511627776;decide⟩,⟨Dh _,by show(-1:Int)<1099511627776;decide⟩,as9,λn a=>?_,as9,λp c=>by simp at c⟩;have a:n∈List.replicate vs.length lr:=a;rw[(Wy.1 a).2];decide
def Am4 {a f d:Nat} {vs:List ax} (o:kq w a f d vs) (c:Iy vs):CS prog 14 #[Q (Z ⟨a,0,I⟩)] w λe w'=>∃T:Tv,e=K (Q (Z ⟨T.tb,0,I⟩))/\Dj w T w'/\T.vs=vs/\T.pl=⟨0,-1,[],List.replicate vs.length lr,[]⟩/\T.fb=a/\T.fm=f/\T.fl=d/\T.js=[]/\BW w.heap.size w w':=
 (Acu o c).mono λe w' h=>by
  obtain⟨T,n,q,i,p,h1,k,l,g,b⟩:=h;have m:(T.js.map λj=>j.2.pl)=[]:=by have:=Cd du.ab b;exact this
  exact⟨T,n,⟨q,p,i,by rw[g,b];exact A1o vs⟩,g,b,h1,k,l,by simpa using m,i⟩
def Z3 (x:de) (h:Dj w0 T w) (f:x.ok w) (d:∀g,Mod T.az w g->J6 g x.so x.m x.di) (a:x.n.kind=6->T.js.length<=20) {t':du} {c:Cl} {r:Int} (b:T7 T.vs T.pl x.pl->Ca T.vs T.pl x.pl=(t',c,r)) :
  CS prog 15 #[Q (Z ⟨T.tb,0,I⟩),x.val] w λe w'=>∃T':Tv,e=K (E #[F9 c,G O r])/\Dj w0 T' w'/\T'.pl=t'/\Ev w T T' w':=
 (Aec x h f d a).mono λe w' o=>by
  obtain⟨T',j,h1,i,k,l⟩:=o;rw[b l]at j i;exact⟨T',j,h1,i,k⟩
def Am5 (h:Dj w0 T w) {k:Nat} {jp:Jb} (a:T.pl.ab[k]?=Z jp) (d:Int) (m:d=(k:Int)+1) :
  CS prog 16 #[Q (Z ⟨T.tb,0,I⟩),G O d] w λe w'=>∃y:ar,e=K (E #[y.val,D true])/\y.pl=jp/\BW w.heap.size w w':=
 (Aze h.tab h.rows.1 d).mono λe w' n=>by
  obtain⟨i,⟨f,_⟩|⟨g,j,y,o,b,l,f⟩⟩:=n
  .have:k<T.js.length:=by have:=(Aq.1 a).1;simpa[Tv.pl]using this
   omega
  .have c:g=k:=ao9;subst c;have a:(T.js.map λj=>j.2.pl)[g]?=Z jp:=a;rw[Bg,b]at a;injection a with a;exact⟨y,l,by rw[f.pl];exact a,i⟩
def A1p (h:Dj w0 T w) (node:Int):CS prog 17 #[Q (Z ⟨T.tb,0,I⟩),G O node] w λe w'=>e=K (U0 T.pl.ab node).val/\BW w.heap.size w w':=
 Azi h.tab h.rows.2.1 (by have:=h.rows.2.2;omega) node
def Aed (n:dh) (w:WD) (a:∀i,-9223372036854775808<=n.get i/\n.get i<=9223372036854775807):(⟨n,I,0,0,[]⟩:de).ok w:=⟨⟨rfl,As _,λi x b=>by simp at b⟩,Nat.le_refl _,a⟩
def Aee (W:WD):J6 W I 0 []:=⟨rfl,ad9,λi x a=>by simp at a⟩
end
section
open Go.RowKit Go.Maps Go.Lib
def An.vz {w w':WD} {T:Tv} (h:An w T) {b:Nat} {c:Array VL} {g:TypeId} (p:w.heap[b]?=Z (V c g (0,0))) (f:Mod (λk=>k=b) w w') (h1:g≠115) (n:g≠119) (u:g≠125) (v:g≠46) (x:g≠65) (y:g≠30)
  (hj:T.js=[]) (hl:b<T.fb/\b<T.fm/\b<T.fl):An w' T:=by
 have hn:=h.off p h1 n u v x;have m:∀k,T.az k->k≠b:=λk c e=>hn (e▸c)
 have no:∀ {P:Nat×ar->Prop} j,j∈T.js->P j:=λj l=>by rw[hj]at l;cases l
 refine⟨f.aw h.head (m _ (.inl rfl)),h.cls.mod f (m _ (.inr (.inl rfl))),Bb h.nodes f (λk e=>m k (.inr (.inr (.inl e)))),Bb h.ab f (λk e=>m k (.inr (.inr (.inr (.inl e))))),
  Bb h.bh f (λk e c=>?_),no,no,h.one,h.two,?_,h.same⟩
 .subst c;exact Bq h.bh p y.symm e
 .obtain ⟨a,s,i,t⟩:=h.dn.ex
  have q:∀k,k<a.heap.size->(w'.heap.extract 0 a.heap.size)[k]?=w'.heap[k]?:=λk d=>by
   have h1:=i.size;have n:=f.size;rw[Array.getElem?_extract,Ad ao9,Cn]
  have hs:(w'.heap.extract 0 a.heap.size).size=a.heap.size:=by have h1:=i.size;have n:=f.size;simp;omega
  refine⟨⟨{ w' with heap:=w'.heap.extract 0 a.heap.size },?_,⟨rfl,rfl,rfl,?_,λk d=>?_⟩,λk d=>?_⟩,h.dn.ok⟩
  .refine s.other (by show _<=(w'.heap.extract 0 a.heap.size).size;omega) λk o r z=>?_;have d:=(R0.1 r).1;show(w'.heap.extract 0 a.heap.size)[k]?=Z o;rw[q k d,f.block k (By d i.size) (by rcases z with c|c|c<;>omega),i.block k d];exact r
  .show (w'.heap.extract 0 a.heap.size).size<=_;have h1:=i.size;have n:=f.size;omega
  .have d:k<(w'.heap.extract 0 a.heap.size).size:=d;exact(q k ao9).symm
  .show (w'.heap.extract 0 a.heap.size).size<=k;have:=t k d;omega
def Ua:VL:=.agg #[J I 0 0,G O 0,G O 0,J I 0 0,J I 0 0,J I 0 0]
def A1t (w:WD) (e:Ending) (w':WD):Prop:=
 (e=K (E #[Q I,Ua,D false])/\BW w.heap.size w w') \/
 ∃(T:Tv) (xs:List aq) (fo:Option Addr) (fn fc:Nat) (so:Option Addr) (n c:Nat),e=K (E #[Q (Z ⟨T.tb,0,I⟩),.agg #[J fo fn fc,G O 0,G O (-1),J I 0 0,J so n c,J I 0 0],D true]) /\
  Dj w T w'/\T.pl=⟨0,-1,[],List.replicate T.vs.length lr,[]⟩/\jj w' 0 (J fo fn fc) xs/\xs.map aq.pl=T.vs/\Iy T.vs
def Dj.back {d w1 w:WD} {T:Tv} (h:Dj w1 T w) (a:BW d.heap.size d w1):Dj d T w:=⟨h.tab,λb c=>Ay a.size (h.az b c),a.trans (h.low.mono a.size),h.gw⟩
def A1u {W:WD} {base:Nat} {a:VL} {xs:List aq} (h:jj W base a xs):∃d c,a=J d xs.length c:=by
 rcases h.row.2 with⟨e,h0⟩|⟨g,cap,b,e,_⟩
 .exact ⟨I,0,by rw[h0,<-e]⟩
 .exact ⟨_,_,e⟩
def A1v {W:WD} {base:Nat} {a:VL} {xs:List aq} (h:jj W base a xs):jj W 0 a xs:=⟨Age h.row (As _),h.ok⟩
def Dj.ou {w a:WD} {T:Tv} {cs:Array VL} (h:Dj w T a) (l:a.heap[w.heap.size]?=Z (V cs 59 (0,0))) (m:T.js=[]) (n:w.heap.size<T.fb/\w.heap.size<T.fm/\w.heap.size<T.fl) (c d f g i j:VL) :
  Dj w T ((((((a.setCell ⟨w.heap.size,0,I⟩ c).setCell ⟨w.heap.size,1,I⟩ d).setCell ⟨w.heap.size,2,I⟩ f).setCell ⟨w.heap.size,3,I⟩ g).setCell ⟨w.heap.size,4,I⟩ i).setCell ⟨w.heap.size,5,I⟩ j):=by
 have b:=((((((Mod.refl (λk=>k=w.heap.size) a).set _ 0 c rfl).set _ 1 d rfl).set _ 2 f rfl).set _ 3 g rfl).set _ 4 i rfl).set _ 5 j rfl;exact⟨h.tab.vz l b ad9 ad9 ad9 ad9 ad9 ad9 m n,h.az,h.low.trans (b.below h.low.size λk e=>by omega),h.gw⟩
def jj.ou {w a:WD} {g:VL} {xs:List aq} {cs:Array VL} (h:jj a 0 g xs) (b:a.heap[w.heap.size]?=Z (V cs 59 (0,0))) (i j k l m p:VL) :
  jj ((((((a.setCell ⟨w.heap.size,0,I⟩ i).setCell ⟨w.heap.size,1,I⟩ j).setCell ⟨w.heap.size,2,I⟩ k).setCell ⟨w.heap.size,3,I⟩ l).setCell ⟨w.heap.size,4,I⟩ m).setCell ⟨w.heap.size,5,I⟩ p) 0 g xs:=by
 have s:∀ {W:WD} {cs:Array VL} (o:Nat) (v:VL),W.heap[w.heap.size]?=Z (V cs 59 (0,0))->(W.setCell ⟨w.heap.size,o,I⟩ v).heap[w.heap.size]?=Z (V (cs.setIfInBounds o v) 59 (0,0)):=λo v h=>Am h o v;have c:=s 0 i b;have d:=s 1 j c;have e:=s 2 k d;have f:=s 3 l e;have n:=s 4 m f;exact Qy (Qy (Qy (Qy (Qy (Qy h b ad9 ad9) c ad9 ad9) d ad9 ad9) e ad9 ad9) f ad9 ad9) n ad9 ad9
def A1w (s:ByteArray) (w:WD) (hm:Mx w):CS prog 18 #[Y s] w (A1t w):=by
 obtain⟨W0,r⟩:=Ex (w.alloc (V #[J I 0 0,G O 0,G O 0,J I 0 0,J I 0 0,J I 0 0] 59));have b0:BW w.heap.size w W0:=by rw[r];exact Bn
 have af:W0.heap[w.heap.size]?=Z (V #[J I 0 0,G O 0,G O 0,J I 0 0,J I 0 0,J I 0 0] 59 (0,0)):=by rw[r];exact Ah _ _
 have aD:W0.heap.size=w.heap.size+1:=by rw[r];simp
 have kr:=Af1 s W0 (hm.low b0)
 have k:Iy (Ep s).1:=by
  unfold Ep;split
  .exact Yc
  .exact Abm _ [] Yc
 replace⟨b0,af,kr,hm,aD,k⟩:=H6 b0 af kr hm aD k;go_enter func18,ntmps18;go_upto_region 1 with fail;rw[<-r];clear r;go_wp2_with fail;refine kr.mono ?_;intro e w1 h1;obtain⟨p,rfl,b1,hc⟩:=h1;have a:=Ae b1 af.out (Ab af.out);have d:=b0.trans (b1.mono b0.size);obtain⟨e2,i⟩:=Ex ((Ep s).2.2);rw[<-i];by_cases u:(Ep s).2.1=0;rotate_left
 .obtain ⟨e1,ao⟩:=Ex ((Ep s).2.1);rw[<-ao]at u ⊢;have d1:(e1 != 0)=true:=by simpa using u
  have r0:=Bk a 0 (J I 0 0) rfl;have r1:=Bk a 1 (G O 0) rfl;have r2:=Bk a 2 (G O 0) rfl;have r3:=Bk a 3 (J I 0 0) rfl;have r4:=Bk a 4 (J I 0 0) rfl;have r5:=Bk a 5 (J I 0 0) rfl;have fr:=Af a;clear u;replace⟨b1,hc,a,d,ao,i⟩:=H6 b1 hc a d ao i;go_wp2_with fail;refine Ak (v:=E #[Q I,Ua,D false]) (by simp[results,results18,go_sem,r0,r1,r2,r3,r4,r5,Ua]) rfl (.inl ⟨rfl,?_⟩);exact D1 (D1 (D1 (D1 (D1 (D1 d.out Ln) Ln) Ln) Ln) Ln) Ln
 have kx:=Apv s w1;unfold Yf at kx;rw[u]at hc kx ⊢;by_cases aG:2000<s.size
 .have d1:decide ((2000:Int)<s.size)=true:=At ao9;have r0:=Bk a 0 (J I 0 0) rfl;have r1:=Bk a 1 (G O 0) rfl;have r2:=Bk a 2 (G O 0) rfl;have r3:=Bk a 3 (J I 0 0) rfl;have r4:=Bk a 4 (J I 0 0) rfl;have r5:=Bk a 5 (J I 0 0) rfl;have fr:=Af a;replace⟨b1,hc,a,d,u,i,kx⟩:=H7 b1 hc a d u i kx;go_wp2_with fail;refine Ak (v:=E #[Q I,Ua,D false]) (by simp[results,results18,go_sem,r0,r1,r2,r3,r4,r5,Ua]) rfl (.inl ⟨rfl,?_⟩);exact D1 (D1 (D1 (D1 (D1 (D1 d.out Ln) Ln) Ln) Ln) Ln) Ln
 have d1:decide ((2000:Int)<s.size)=false:=Au ao9
 obtain⟨hf,rfl⟩:kq w1 (W0.heap.size+4) (W0.heap.size+3) (W0.heap.size+7) (Ep s).1/\p=Z ⟨W0.heap.size+4,0,I⟩:=by
  rcases hc with⟨c,_⟩|⟨_,c,hf⟩
  .exact absurd rfl c
  .exact ⟨hf,c⟩
 clear hc;replace⟨b1,a,d,u,i,kx,hf,aG⟩:=H8 b1 a d u i kx hf aG;go_wp2_with fail;refine kx.mono ?_;intro e w2 h2;obtain⟨nv,xs,rfl,b2,o,aB⟩:=h2;obtain⟨fo,fc,rfl⟩:=A1u o;obtain⟨fn,ad⟩:=Ex (xs.length);rw[<-ad]at o ⊢;have al:=Ae b2 a.out (Ab a.out);replace⟨b2,o,aB,al,ad⟩:=H5 b2 o aB al ad;go_upto_region 5 with fail;obtain⟨q,y⟩:=Ex (w2.heap.size);obtain⟨z,ac⟩:=Ex (w2.alloc (V #[J fo fn fc] 54 (0,0)));have b3:BW w2.heap.size w2 z:=by rw[ac];exact Bn
 have l:z.heap[q]?=Z (V #[J fo fn fc] 54 (0,0)):=by rw[ac,y];exact Ah _ _
 have a:=Ae b3 al.out (Ab al.out);have f:=d.trans ((b2.trans (b3.mono b2.size)).mono d.size);have ap:=(hf.below b2.out).below b3;have an:=A1v (o.below b3);have x:=k.out;have m:=aB (by first|trivial|exact u.out);have j:fn<=4096:=by have h1:=x.len;have h2:=Cd List.length m;rw[Ar]at h2;have h3:=ad.out;omega
 rw[<-ac,<-y];clear ac y
 have aE:∀W,BW z.heap.size z W->CS prog 14 #[Q (Z ⟨W0.heap.size+4,0,I⟩)] W λe w'=>∃T:Tv,e=K (Q (Z ⟨T.tb,0,I⟩))/\Dj w T w'/\T.vs=(Ep s).1/\T.pl=⟨0,-1,[],List.replicate T.vs.length lr,[]⟩/\(w.heap.size<T.fb/\w.heap.size<T.fm/\w.heap.size<T.fl)/\T.js=[]/\BW W.heap.size W w':=λW hW=>
  (Am4 (ap.below hW) x).mono λe w' h=>by
   obtain⟨T,u,hP,h1,h2,h3,h4,h5,h6,h7⟩:=h;have:=aD.out;exact⟨T,u,hP.back (f.trans (hW.mono f.size)),h1,by rw[h2,h1],ao9,h6,h7⟩
 have aF:=λW=>A1s fo fn fc j W;have b:=Below.refl z.heap.size z;have x0:=Bk l 0 (J fo fn fc) rfl;have r0:=Bk a 0 (J I 0 0) rfl;have r1:=Bk a 1 (G O 0) rfl;have r2:=Bk a 2 (G O 0) rfl;have r3:=Bk a 3 (J I 0 0) rfl;have r4:=Bk a 4 (J I 0 0) rfl;have r5:=Bk a 5 (J I 0 0) rfl;have fr:=Af a;replace⟨b3,l,a,f,ap,an,x,m⟩:=H8 b3 l a f ap an x m;replace⟨j,aE,aF,b⟩:=H4 j aE aF b
 go_region_with (first
  | (go_at_call 14
     with_reducible refine(aE.out _ (by first|exact b.out|exact b.out.drew)).mono ?_
     rintro e wa ⟨T,rfl,hP,am,aC,aA,av,t⟩;have y:=t.mono b.size
     replace b:Hid (BW z.heap.size z wa):=by first|exact Hh (b.trans y)|exact Hh (b.drew.trans y)
     clear y r0 r1 r2 r3 r4 r5 fr x0;have a:=Ae t a.out (Ab a.out);have l:=Ae t l.out (Ab l.out);have x0:=Bk l 0 (J fo fn fc) rfl;have r0:=Bk a 0 (J I 0 0) rfl;have r1:=Bk a 1 (G O 0) rfl;have r2:=Bk a 2 (G O 0) rfl;have r3:=Bk a 3 (J I 0 0) rfl;have r4:=Bk a 4 (J I 0 0) rfl;have r5:=Bk a 5 (J I 0 0) rfl;have fr:=Af a;replace⟨hP,am,aC,aA,av,t,a,l⟩:=H8 hP am aC aA av t a l
     skip)
  | (go_at_call 48
     with_reducible refine(aF.out _).mono ?_
     rintro e wb ⟨so,n,c,rfl,g⟩;have y:=g.mono b.size
     (try (replace hP:Hid (Dj w T wb):=by first|exact Hh (hP.drop g)|exact Hh ((hP.drop (Below.refl _ _).drew).drop g)))
     replace b:Hid (BW z.heap.size z wb):=by first|exact Hh (b.trans y)|exact Hh (b.drew.trans y)
     clear y r0 r1 r2 r3 r4 r5 fr x0;have a:=Ae g a.out (Ab a.out);have l:=Ae g l.out (Ab l.out);have x0:=Bk l 0 (J fo fn fc) rfl;have r0:=Bk a 0 (J I 0 0) rfl;have r1:=Bk a 1 (G O 0) rfl;have r2:=Bk a 2 (G O 0) rfl;have r3:=Bk a 3 (J I 0 0) rfl;have r4:=Bk a 4 (J I 0 0) rfl;have r5:=Bk a 5 (J I 0 0) rfl;have fr:=Af a;replace⟨g,a,l⟩:=H3 g a l
     skip))
 all_goals
  go_wp2_with fail;refine Ak (v:=E #[Q (Z ⟨T.tb,0,I⟩),.agg #[J fo fn fc,G O 0,G O (-1),J I 0 0,J so n c,J I 0 0],D true]) (by simp[results,results18,go_sem,r0,r1,r2,r3,r4,r5]) rfl (.inr ⟨T,xs,fo,fn,fc,so,n,c,rfl,hP.ou a.out av.out aA.out _ _ _ _ _ _,aC.out,(an.below b.out).ou a.out _ _ _ _ _ _,?_,?_⟩)
  .rw [m.out,am.out]
  .rw [am.out];exact x.out
def Aeg:∀(l:List Int),(∀x,x∈l->0<=x)->∀a:Int,a<=l.foldl (·+·) a
 | [],_,a=>Dh a
 | x :: l,h,a=>by
  have h1:=h x D6;have c:=Aeg l (λy b=>h y (Df _ b)) (a+x);show a<=l.foldl (·+·) (a+x);omega
def Anc (l:List dm):0<=K1 l:=Aeg _ (λx a=>by
 obtain⟨s,_,rfl⟩:=A8.1 a
 exact(A17 s).1) 0
def A2a (es:List ei) (i:Nat):Jv (es.take i)<=Jv es:=by
 have e:Jv es=((es.drop i).map λe=>K1 e.specs).foldl (·+·) (Jv (es.take i)):=by unfold Jv;rw[<-L8,<-C2,O9]
 rw[e]
 exact Aeg _ (λx a=>by
  obtain⟨s,_,rfl⟩:=A8.1 a
  exact Anc _) _
def A2b {vs:List ax} {t:du} {e:ei}:((Ca vs t e).1.ab.length:Int)<=(t.ab.length:Int)+K1 e.specs:=by
 have h0:=Anc e.specs;unfold Ca;split
 .show (t.ab.length:Int)<=_;omega
 .rename_i c;have f:=Z2 (vs:=vs) (t:=t) (e:=e) (by simpa using c)
  have a:((ee vs t e).1.ab.length:Int)<=(t.ab.length:Int)+K1 e.specs:=by
   unfold ee;split
   .show (t.ab.length:Int)<=_;omega
   split
   .rename_i q;obtain⟨g,_,b⟩:=Am1 (f.sub q)
    have h:K1 e.specs=Id e.specs:=by unfold K1 Id;congr 1;refine Uf λs d=>?_;have:=b s d;unfold Ub;omega
    show((Dp (E1 (e.specs.zip (B9 vs t.ab.length e.specs).1) t.ab)).length:Int)<=_;rw[Ve];omega
   split
   .show ((P5 vs e.n.tick _ (Dd e.n.tick t.ab)).length:Int)<=_;rw[Am0,Amz];omega
   split
   .show ((Ia (Et t.ab e.n.bt (Lr e.n))).length:Int)<=_;unfold Et;rw[We,Kh];omega
   split
   .unfold Px;split
    .show ((Ia _).length:Int)<=_;rw[We,Ar];omega
    split
    .show (t.ab.length:Int)<=_;omega
    .show (t.ab.length:Int)<=_;omega
   .show ((Dp (Et t.ab e.n.bt (Lq (Gh e.n.kind)))).length:Int)<=_;unfold Et;rw[Ve,Kh];omega
  show(((if Br e.n.kind=true then { (ee vs t e).1 with cls:=Ib (ee vs t e).1.cls e.n.ah ⟨e.n.seq,(ee vs t e).2.e,(ee vs t e).2.first,(ee vs t e).2.last⟩ } else(ee vs t e).1).ab.length:Nat):Int)<=_;split
  .exact a
  .exact a
variable {w1 wr w':WD} {q i:Nat} {bc:Array VL} {vs:List ax} {fv:VL} {ns:List aq} {es:List ei} {T T':Tv}
def A2c {w W:WD} {b o i:Nat} {x:de} (h:∀j,j<10->w.cell? ⟨b,o+i*10+j,I⟩=x.cells[j]?) (f:BW w.heap.size w W) (p:b<w.heap.size) {k d t c s j a n e:Int} {so:Option Addr} {m sc:Nat} {r:List ay} (q:x=⟨⟨k,d,t,c,s,j,a,n,e⟩,so,m,sc,r⟩) :
  W.cell? ⟨b,o+i*10,I⟩=Z (G O k)/\W.cell? ⟨b,o+i*10+1,I⟩=Z (G O d)/\W.cell? ⟨b,o+i*10+2,I⟩=Z (G O t)/\W.cell? ⟨b,o+i*10+3,I⟩=Z (G O c)/\W.cell? ⟨b,o+i*10+4,I⟩=Z (G O s)/\W.cell? ⟨b,o+i*10+5,I⟩=Z (G O j)/\W.cell? ⟨b,o+i*10+6,I⟩=Z (G O a)/\W.cell? ⟨b,o+i*10+7,I⟩=Z (G O n)/\W.cell? ⟨b,o+i*10+8,I⟩=Z (G O e)/\W.cell? ⟨b,o+i*10+9,I⟩=Z (J so m sc):=by
 subst q;have g:=λj l=>(Ag (o:=o+i*10+j) f p).trans (h j l);exact⟨g 0 ao9,g 1 ao9,g 2 ao9,g 3 ao9,g 4 ao9,g 5 ao9,g 6 ao9,g 7 ao9,g 8 ao9,g 9 ao9⟩
end
section
open Go.RowKit Go.Maps Go.Lib
structure xd (w:WD) (es:List ei) (i:Nat) (T:Tv) (wr:WD):Prop where
 ry:Dj w T wr
 len:(T.js.length:Int)<=Jv (es.take i)
 vs:T.vs.length<=1000
variable {w w' wr:WD} {es:List ei} {i:Nat} {T T':Tv}
def xd.jw {e:ei} (h:xd w es i T wr) (f:Dj w T' w') (g:T'.vs=T.vs) (a:T'.pl=(Ca T.vs T.pl e).1) (d:es.take (i+1)=es.take i++[e]):xd w es (i+1) T' w':=by
 refine⟨f,?_,by rw[g];exact h.vs⟩;have h1:=A2b (vs:=T.vs) (t:=T.pl) (e:=e);rw[<-a]at h1;have b:T'.pl.ab.length=T'.js.length:=by simp[Tv.pl]
 have c:T.pl.ab.length=T.js.length:=by simp[Tv.pl]
 rw[b,c]at h1;have:=h.len;rw[d,Anb];omega
def A2d (w:WD) (e:Ending) (w':WD):Prop:=(e=K (Q I)/\BW w.heap.size w w')\/∃T:Tv,e=K (Q (Z ⟨T.tb,0,I⟩))/\Dj w T w'/\T.js.length<=16/\T.vs.length<=1000
def A2e (hm:Mx w) (s:ByteArray) (so:Option Addr) (m c:Nat) (xs:List de) (hx:Qh w so m xs) :
  CS prog 29 #[Y s,J so m c] w (A2d w):=by
 have kb:=A1w s w hm;replace⟨kb,hx⟩:=H2 kb hx;go_enter func29,ntmps29;go_wp2_with fail;refine kb.mono ?_;intro e w2 hB;rcases hB with⟨rfl,b2⟩|⟨T0,ns,fo,fn,fc,aE,n2,c2,rfl,hP,aA,hR,aC,av⟩
 .unfold Ua;have q:BW w2.heap.size w2 (w2.alloc (V #[J I 0 0,G O 0,G O 0,J I 0 0,J I 0 0,J I 0 0] 59 (0,0))):=Bn;have z:=Aef so m c xs ((hx.low b2).low q);have f:=b2.trans (q.mono b2.size);replace⟨b2,q,z,f⟩:=H4 b2 q z f;go_wp2_with fail;refine z.mono ?_;rintro e w4 ⟨b,rfl,-,p⟩;replace p:=Hh p;go_wp2_with fail;go_ret;exact .inl ⟨rfl,f.trans (p.mono f.size)⟩
 replace⟨hP,aA,hR,aC,av⟩:=H5 hP aA hR aC av;go_upto_region 2 with fail;obtain⟨W3,am⟩:=Ex (w2.alloc (V #[J fo fn fc,G O 0,G O (-1),J I 0 0,J aE n2 c2,J I 0 0] 59 (0,0)));have b3:BW w2.heap.size w2 W3:=by rw[am];exact Bn
 obtain⟨es,k⟩:=Ex (xs.map de.pl);have l:T0.js=[]:=by have:=Cd (λt:du=>t.ab.length) aA.out;simpa[Tv.pl]using this
 have h:xd w es 0 T0 W3:=⟨hP.drop b3,by rw[l];simp[Jv],by have:=av.len;omega⟩;have z:=Aef so m c xs (hx.low (h.ry.low));rw[<-k]at z;rw[<-am];clear am;replace⟨b3,h,z,k,l⟩:=H5 b3 h z k l;go_wp2_with fail;refine z.mono ?_;rintro e w4 ⟨b,rfl,u,p⟩;have j:xd w es 0 T0 w4:=⟨h.ry.drop p,h.len,h.vs⟩;cases b
 .replace ⟨p,u,j⟩:=H3 p u j;go_wp2_with fail;go_ret;exact .inl ⟨rfl,j.ry.low⟩
 have g:=u rfl;obtain⟨tb,ht⟩:=Ex (T0.tb);rw[<-ht];have ap:=hx.len.symm;have aF:m<=60:=by have h1:=g.len;rw[k.out,Ar]at h1;omega
 clear u;replace⟨p,j,g,ht,ap⟩:=H5 p j g ht ap;go_wp2_with fail;go_loopw [9] (λiv wr=>∃(i:Nat) (T:Tv),iv=G O i/\i<=m/\Hid (tb=T.tb)/\Hid (xd w es i T wr)) (λiv _=>m-(intOf iv).toNat)
 case atStart=>exact⟨0,T0,rfl,As _,ht,j⟩
 case round=>
  rename WD=>wi
  obtain⟨i,T,rfl,hi,aB,hF⟩:=hrel;have d:=Up (A2a es i) g.sum;by_cases hc:i<m
  .have aD:(i:Int)<m:=ao9;have aJ:(0:Int)<=(i:Int):=ao9;obtain⟨x,y⟩:=Ge xs i (by have:=ap.out;omega);obtain⟨b,aK,rfl,ao,an,r⟩:=hx.cell i x y;have v:es.take (i+1)=es.take i++[x.pl]:=Je (by rw[k.out,Bg,y];rfl);have a:=hF.ry
   have ka:=Aec x a (r.low a.low) (a.di r) (λ_=>by
    have h1:=hF.len
    omega)
   rw[<-aB.out]at ka;obtain⟨P,af⟩:=Ex (x.pl);rw[<-af]at v ka;obtain⟨⟨aG,ai,tick,ah,seq,bt,attempt,node,br⟩,aH,em,ec,aI⟩:=x;obtain⟨e0,e1,e2,e3,e4,e5,e6,e7,e8,e9⟩:=A2c an a.low ao rfl;replace⟨y,ao,an,r,v,a,ka,af⟩:=H8 y ao an r v a ka af;replace d:=Hh d;go_wp2_with fail;refine ka.mono ?_;rintro e wA ⟨T',rfl,ad,n,al,-⟩;clear e0 e1 e2 e3 e4 e5 e6 e7 e8 e9;have ac:=hF.jw ad al.vs n v.out;have o:tb=T'.tb:=(by rw[al.tb];exact aB.out);clear al;replace⟨ad,n,ac,o⟩:=H4 ad n ac o;go_wp2_with fail;go_roundw
   case rel=>exact⟨i+1,T',by go_num,ao9,o,ac⟩
   case measure=>simp[intOf];omega
  .have aD:¬(i:Int)<m:=ao9;replace d:=Hh d;go_wp2_with fail;go_ret;exact .inr ⟨T,Cd (λb=>Ending.returned (Q (Z ⟨b,0,I⟩))) aB.out,hF.ry,by have:=hF.len;have:=d.out;omega,hF.vs⟩
end
section
open Go.RowKit Go.Maps Go.Lib
variable{vs:List ax}{i k:Nat}{T:Tv}{α:Type}{w:WD}{t:du}{e:ei}
def yj (p:Int×Cl):List UInt8:=zB [p.1,p.2.seq,p.2.first,p.2.last]
def zl (n:Er):List UInt8:=zB [Cq n.up,Cq n.bq,n.since]
def D2 (t:du) (i j:Nat):List UInt8:=zB [t.ai,t.tick,(t.cls.length:Int)]++((t.cls.take i).flatMap yj++(t.nodes.take j).flatMap zl)
def G6 (t:du) (k:Nat):List UInt8:=D2 t t.cls.length t.nodes.length++zB [(t.ab.length:Int)]++(t.ab.take k).flatMap N7
def Z6 (b:Bool):-9223372036854775808<=Cq b/\Cq b<=9223372036854775807:=by cases b<;>decide
def Wh {α:Type} {f:α->List UInt8} {n:Nat}:∀(l:List α),(∀x,x∈l->(f x).length<=n)->(l.flatMap f).length<=n*l.length
 | [],_=>As _
 | x :: l,h=>by
  have h1:=h x (D6 ..);have b:=Wh l λy a=>h y (Df _ a);rw[Ql,Az,D7,Nat.mul_add];omega
def Aek  {f:α->List UInt8} {l:List α}  {x:α} (h:l[i]?=Z x):(l.take (i+1)).flatMap f=(l.take i).flatMap f++f x:=by
 rw[L7,h,List.flatMap_append];simp
def A2p   {p:Int×Cl} (h:t.cls[i]?=Z p):D2 t (i+1) 0=D2 t i 0++yj p:=by
 unfold D2;rw[Aek h];simp
def A2q  {j:Nat} {p:Er} (h:t.nodes[j]?=Z p):D2 t t.cls.length (j+1)=D2 t t.cls.length j++zl p:=by
 unfold D2;rw[Aek h];simp[Fq]
def A2r   {j:Jb} (h:t.ab[k]?=Z j):G6 t (k+1)=G6 t k++N7 j:=by
 unfold G6;rw[Aek h];simp only[Fq]
structure Ael (j:Jb):Prop where
 af:I6 j.sp.after
 ga:I6 j.ak
 lf:I6 [j.lf.st,j.lf.bp,j.lf.left,Cq j.lf.wall,Cq j.lf.stop,j.start]
 pa:I6 (j.parts.map Prod.snd)
 tx:(au (Jg { j.sp with after:=[] })).size<=100000
def A2s  {n k:Nat} {j:Jb} (h:Ij vs n k j) (m:n<=1000) (r:vs.length<=9223372036854775807):Ael j:=by
 obtain⟨⟨t,u,v,y,z,r6⟩,_⟩:=(Vc j.lf.st j.lf.bp j.lf.left j.lf.wall j.lf.stop).1 h.ij.right;have l:=h.ij.dx;obtain⟨_,_,_,_,_,_,_,_,b⟩:=Fy (I5 h.gp);have b:=C7.1 b
 have f:j.start<=9223372036854775807/\-1<=j.start:=by
  refine⟨?_,h.low⟩;by_cases q:0<=j.start
  .have h1:=(h.ak q).2;have c:1<=j.sp.wall:=(by obtain⟨_,_,_,_,_,g,_⟩:=Fy (I5 h.gp);exact(C7.1 g).1);unfold Lg at h1;omega
  .omega
 refine⟨λx a=>by have:=h.j5 x a;omega,λx a=>?_,λx a=>?_,λx a=>?_,?_⟩
 .by_cases q:j.start<0
  .rw [h.xg q]at a;cases a
  .obtain ⟨i,d⟩:=Dn ((h.ak ao9).1.xf x a);obtain⟨s,rfl,c⟩:=A19 d;omega
 .simp only[Ei,R8,Sd]at a;have o:0<=j.sp.ae/\j.sp.ae<=5:=b;rcases a with rfl|rfl|rfl|rfl|rfl|rfl
  .omega
  .omega
  .omega
  .exact Z6 _
  .exact Z6 _
  .omega
 .obtain ⟨p,e,rfl⟩:=A8.1 a;have:=h.ue p e;omega
 .have h1:=Ahb (I5 h.gp);have c:(au (Jg { j.sp with after:=[] })).size=(Jg { j.sp with after:=[] }).length:=Fe _;omega
def A2t {j:Jb} (h:Ael j) (h1:j.sp.after.length<=1000) (g:j.ak.length<=1000) (i:j.parts.length<=1000000):(N7 j).length<=20200000:=by
 have a1:=Aei h.af ao9;have a2:=Aei h.ga ao9;have a3:=Aei h.pa (by rw[Ar];omega);have b:=Kf _ h.lf;obtain⟨q,a⟩:∃q,q=au (Jg { j.sp with after:=[] }):=⟨_,rfl⟩;have f:q.size<=100000:=by rw[a];exact h.tx
 have c:=Oo (n:=q.size) ao9;have d:=Km q;rw[Ar]at a3;simp only[D7,Ir]at b;have e:N7 j=B7 q.size++q.data.toList++(O5 j.sp.after++(zB [j.lf.st,j.lf.bp,j.lf.left,Cq j.lf.wall,Cq j.lf.stop,j.start]++(O5 j.ak++O5 (j.parts.map Prod.snd)))):=by rw[a];rfl
 rw[e];simp only[Az];omega
def A2u {l:List (Int×Cl)} (a:(l.map Prod.fst).Pairwise (·<·))  {p:Int×Cl} (h:l[i]?=Z p):E0 l p.1=p.2:=by
 induction l generalizing i with
 | nil=>simp at h
 | cons q l ih=>
  rw[It,Pd]at a
  cases i with
  | zero=>
   simp at h;subst h;simp[E0]
  | succ i=>
   simp at h;have h1:=ih a.2 h;have b:=a.1 p.1 (Kg (Ai h));unfold E0 at h1 ⊢;rw[List.find?_cons_of_neg (by simp;omega)];exact h1
def Aem   (h:Ey vs t) {p:Int×Cl} (b:p∈t.cls):I6 [p.1,p.2.seq,p.2.first,p.2.last]:=λz a=>by
 obtain⟨h1,c,d,e,_,f,g,i,j⟩:=h.cls p b;simp only[Ei,R8,Sd]at a
 rcases a with rfl|rfl|rfl|rfl<;>omega
def Ang   (h:Ey vs t) {n:Er} (b:n∈t.nodes):I6 [Cq n.up,Cq n.bq,n.since]:=λz a=>by
 have h1:=h.since n b;simp only[Ei,R8,Sd]at a;rcases a with rfl|rfl|rfl
 .exact Z6 _
 .exact Z6 _
 .omega
def Anh   (h:An w T) (hg:Ey T.vs T.pl) (aS:∀j,j∈T.js->Zt j.2) (hv:T.vs.length<=1000) (ht:Tb w) :
  CS prog 30 #[Q (Z ⟨T.tb,0,I⟩)] w λe w'=>∃v,e=K v/\fi w (G6 T.pl T.pl.ab.length) v w':=by
 have bC:=hg.len
 have bd:T.vs.length<=9223372036854775807:=by
  rcases h.bh.2 with⟨_,e⟩|⟨_,cap,_,_,_,_,h1,h2,_⟩
  .omega
  .unfold maxLen at h2;omega
 have ba:T.pl.nodes=T.nodes:=rfl;have bg:=h.same;obtain⟨jn,aC⟩:=Ex (T.pl.ab.length);have aB:T.js.length=jn:=by rw[aC];simp[Tv.pl]
 have bl:jn<=100:=ao9
 obtain⟨nn,aG⟩:=Ex (T.pl.nodes.length);have al:T.nodes.length=nn:=by rw[aG,ba]
 obtain⟨cn,r⟩:=Ex (T.pl.cls.length);have bA:cn<=1000:=by rw[r];have:=hg.gq;omega
 have bs:nn<=1000:=ao9
 have av:∀j,j∈T.pl.ab->Ael j:=λj hj=>by
  obtain⟨k,hk⟩:=Dn hj;exact A2s (hg.all k j hk) (by have:=hg.len;omega) bd
 obtain⟨no,nc,ap⟩:∃no nc,T.nv=J no nn nc:=by
  rcases h.nodes.2 with⟨e,h0⟩|⟨g,cap,bx,e,_⟩
  .exact ⟨I,0,by rw[e,<-al,h0]⟩
  .exact ⟨_,_,by rw[e,al]⟩
 obtain⟨jo,jc,x⟩:∃jo jc,T.jv=J jo jn jc:=by
  rcases h.ab.2 with⟨e,h0⟩|⟨g,cap,bx,e,_⟩
  .exact ⟨I,0,by rw[e,<-aB,h0]⟩
  .exact ⟨_,_,by rw[e,aB]⟩
 obtain⟨tb,aT⟩:=Ex (T.tb)
 have s:∀W,BW w.heap.size w W->W.heap[tb]?=Z (V #[G O T.ai,G O T.tick,.map (Z T.mb),T.nv,T.jv,Q (Z ⟨T.fb,0,I⟩),T.cv] 115 (0,0)):=λW hW=>by rw[aT];exact(h.low hW).head
 have aF:∀W,BW w.heap.size w W->(Builtin.len_ #[108] 3 #[.map (Z T.mb)]).run prog W=.ok (G O cn) W:=λW hW=>by
  have h1:=(h.low hW).cls.len Aae 3;have h2:Maps.size (Jj T.cls)=cn:=by rw[r];simp[Jj,Maps.size];rfl
  rw[h2]at h1;exact h1
 have aE:I6 [T.pl.ai,T.pl.tick,(cn:Int)]:=λz hz=>by
  have h1:=hg.ep;have h2:=hg.tick;simp only[Ei,R8,Sd]at hz
  rcases hz with rfl|rfl|rfl<;>omega
 have kh:∀W,BW w.heap.size w W->CS prog 52 #[J I 0 0,J (Z ⟨W.heap.size,0,I⟩) 3 3] (W.alloc (V #[G O T.ai,G O T.tick,G O cn] 3 (0,0))) λe w'=>∃v,e=K v/\fi (W.alloc (V #[G O T.ai,G O T.tick,G O cn] 3 (0,0))) (D2 T.pl 0 0) v w':=λW hW=>by
  have h1:=Wf I 0 0 [] (Z ⟨W.heap.size,0,I⟩) 3 3 [T.pl.ai,T.pl.tick,(cn:Int)] (W.alloc (V #[G O T.ai,G O T.tick,G O cn] 3 (0,0))) (Ahh _) (Wg W [T.pl.ai,T.pl.tick,(cn:Int)] as9) aE ad9;have e:([]:List UInt8)++zB [T.pl.ai,T.pl.tick,(cn:Int)]=D2 T.pl 0 0:=by rw[r];simp[D2]
  rw[e]at h1;exact h1
 have a:BW w.heap.size w w.drew:=(Below.refl _ _).drew;have hS:∀W,BW w.heap.size w W->W.cell? ⟨tb,0,I⟩=Z (G O T.ai)/\W.cell? ⟨tb,1,I⟩=Z (G O T.tick)/\W.cell? ⟨tb,2,I⟩=Z (.map (Z T.mb))/\(Builtin.len_ #[108] 3 #[.map (Z T.mb)]).run prog W=.ok (G O cn) W:=λW hW=>⟨Aa (s W hW) 0,Aa (s W hW) 1,Aa (s W hW) 2,aF W hW⟩;rw[<-aT,<-aC];replace⟨ht,h,hg,aS,bd,ba,bg,aC⟩:=H8 ht h hg aS bd ba bg aC;replace⟨aB,aG,al,r,av,aT,s,aF⟩:=H8 aB aG al r av aT s aF;replace⟨aE,kh,a,hS,ap,x⟩:=H6 aE kh a hS ap x;go_enter func30,ntmps30;go_upto_region 3 with fail;go_cut [3] (λbv wx=>fi w (D2 T.pl 0 0) bv wx)
 case first=>
  go_region_held3 (λW=>W.cell? ⟨tb,0,I⟩=Z (G O T.ai)/\W.cell? ⟨tb,1,I⟩=Z (G O T.tick)/\W.cell? ⟨tb,2,I⟩=Z (.map (Z T.mb))/\(Builtin.len_ #[108] 3 #[.map (Z T.mb)]).run prog W=.ok (G O cn) W)
   (first
     | with_reducible exact hS.out _ a.out
     | exact hS.out _ (a.alloc a.size _)
     | exact hS.out _ (a.alloc a.size _).drew
     | exact hS.out _ a.drew)
   (first
     | (go_at_call 52;refine(kh w.drew a.out).mono ?_;rintro e w2 ⟨v2,rfl,m⟩;replace a:=Hh ((a.alloc a.size _).trans (m.low.mono (a.alloc a.size _).size))
        replace m:=Hh m))
  all_goals
   go_wp2_with fail;go_meet
   case rel=>exact⟨m.own,a.out⟩
 case rest=>
 obtain⟨⟨bk,n0,n1,rfl,aJ⟩,ao⟩:=hcut;have c2:=(hS wc ao).2.2.1;have kK:=A2l (Z T.mb) wc;have kS:=A2o (h.low ao).cls hg.bj (by have:=r.out;have:T.cls.length=T.pl.cls.length:=rfl;omega);clear a kh hS;replace⟨aJ,ao,kK,kS⟩:=H4 aJ ao kK kS;go_wp2_with fail;refine kK.mono ?_;rintro e wk ⟨rfl,rfl⟩;go_wp2_with fail;refine kS.mono ?_;rintro e ws ⟨vk,rfl,hO,aM⟩;obtain⟨ko,kl,kc,rfl,-,aK,-⟩:=On hO;have bD:kl=cn:=by rw[<-aK.len,r.out,Ar];rfl
 subst bD;have a7:=ao.trans (aM.mono ao.size);have aZ:fi w (D2 T.pl 0 0) (J bk n0 n1) ws:=⟨⟨bk,n0,n1,rfl,aJ.low aM⟩,a7⟩;clear hO c2 aJ ao kK;replace⟨aM,aK,a7,aZ⟩:=H4 aM aK a7 aZ;go_wp2_with fail;go_loopw [3,5,6,39] (λbv _ _ iv wr=>∃i:Nat,iv=G O i/\i<=kl/\Hid (fi w (D2 T.pl i 0) bv wr)/\Hid (BW ws.heap.size ws wr)) (λ_ _ _ iv _=>kl-(intOf iv).toNat)
 case atStart=>exact⟨0,rfl,As _,aZ.out,Below.refl _ _⟩
 case round=>
  rename WD=>wr
  obtain⟨i,rfl,hi,hC,a6⟩:=hrel;obtain⟨bo,bn,bc,rfl,t⟩:=hC.own;have c:=hC.low
  have hL:bn<=100000:=by
   rw[<-t.len];have h1:=Kf _ aE.out
   have h2:=Wh (f:=yj) (n:=40) (T.pl.cls.take i) λp hp=>by
    have h3:=Kf _ (Aem hg.out (Na hp));exact h3
   rw[Dt]at h2;simp only[D7,Ir]at h1;rw[r.out]at h1;unfold D2;simp only[Az,Xf,List.flatMap_nil,Ir];omega
  have c2:=Bk (s wr c) 2 (.map (Z T.mb)) rfl;by_cases hc:i<kl
  .have aD:(i:Int)<kl:=ao9;have bf:(0:Int)<=(i:Int):=ao9;obtain⟨p,hp⟩:=Ge T.pl.cls i (by rw[<-r.out];exact hc);obtain⟨b,bE,rfl,a8,hk⟩:=aK.cell i p.1 (by rw[Bg];show(T.pl.cls[i]?).map _=_;rw[hp];rfl);have k0:=(Ag a6.out a8).trans hk;have aH:=Aem hg.out (Ai hp);have aR:=aH p.1 as9;have a5:=Zo (h.low c).cls aR.1 aR.2;rw[show E0 T.cls p.1=p.2 from A2u hg.bj hp]at a5;have d:=A2p hp;obtain⟨id,⟨sq,ce,cf,cl⟩⟩:=p;simp only at k0 a5 aH;unfold Gu at a5;obtain⟨W7,u⟩:=Ex (wr.alloc (V #[G O sq,G O ce,G O cf,G O cl] 123 (0,0)));have l:BW wr.heap.size wr W7:=(by rw[u];exact Bn);have o:W7.heap[wr.heap.size]?=Z (V #[G O sq,G O ce,G O cf,G O cl] 123 (0,0)):=(by rw[u];exact Ah _ _);have kI:=Wf bo bn bc (D2 T.pl i 0) (Z ⟨W7.heap.size,0,I⟩) 4 4 [id,sq,cf,cl] (W7.alloc (V #[G O id,G O sq,G O cf,G O cl] 3 (0,0))) ((t.low l).low Bn) (Wg W7 [id,sq,cf,cl] as9) aH ao9;have q:D2 T.pl i 0++zB [id,sq,cf,cl]=D2 T.pl (i+1) 0:=d.symm;rw[q]at kI;have s0:=Bk o 0 (G O sq) rfl;have s2:=Bk o 2 (G O cf) rfl;have s3:=Bk o 3 (G O cl) rfl;replace⟨a8,hk,aH,aR,d,q,l,o⟩:=H8 a8 hk aH aR d q l o;replace⟨kI,t,c,hL,hp⟩:=H5 kI t c hL hp;clear s0 s2 s3;go_upto_region 8 with fail;rw[<-u];clear u;have s0:=Bk o.out 0 (G O sq) rfl;have s2:=Bk o.out 2 (G O cf) rfl;have s3:=Bk o.out 3 (G O cl) rfl;go_wp2_with fail;refine kI.mono ?_;rintro e w8 ⟨v8,rfl,am⟩;have aL:=(l.alloc l.size _).trans (am.low.mono (l.alloc l.size _).size);have an:fi w (D2 T.pl (i+1) 0) v8 w8:=⟨am.own,c.trans (aL.mono c.size)⟩;have a4:=a6.trans (aL.mono a6.size);clear am s0 s2 s3;replace⟨aL,an,a4⟩:=H3 aL an a4;go_wp2_with fail;go_roundw
   case rel=>exact⟨i+1,by go_num,ao9,an.out,a4.out⟩
   case measure=>simp[intOf];omega
  .have aD:¬(i:Int)<kl:=ao9;have a2:i=T.pl.cls.length:=(by have:=r.out;omega);have m:fi w (D2 T.pl T.pl.cls.length 0) (J bo bn bc) wr:=(by rw[<-a2];exact hC.out);have c3:wr.cell? ⟨tb,3,I⟩=Z (J no nn nc):=(by rw[Aa (s wr c) 3];show Z T.nv=_;rw[ap.out]);clear c2 hC t;replace⟨m,c,hL,a2⟩:=H4 m c hL a2;go_wp2_with fail;go_loopw [3,8,69] (λbv _ iv wr=>∃i:Nat,iv=G O i/\i<=nn/\Hid (fi w (D2 T.pl T.pl.cls.length i) bv wr)) (λ_ _ iv _=>nn-(intOf iv).toNat)
   case atStart=>exact⟨0,rfl,As _,m.out⟩
   case round=>
    rename WD=>wr
    obtain⟨i,rfl,hi,hC⟩:=hrel;obtain⟨bo,bn,bc,rfl,t⟩:=hC.own;have c:=hC.low
    have be:bn<=200000:=by
     rw[<-t.len];have h1:=Kf _ aE.out
     have h2:=Wh (f:=yj) (n:=40) (T.pl.cls.take T.pl.cls.length) λp hp=>by
      have h3:=Kf _ (Aem hg.out (Na hp));exact h3
     have h4:=Wh (f:=zl) (n:=30) (T.pl.nodes.take i) λp hp=>by
      have h3:=Kf _ (Ang hg.out (Na hp));exact h3
     simp only[D7,Ir]at h1;have h5:=r.out;rw[h5]at h1;have h6:(T.pl.nodes.take i).length<=1000:=(by rw[Dt];omega);have h7:(T.pl.cls.take T.pl.cls.length).length<=1000:=(by rw[Dt];omega);unfold D2;simp only[Az];omega
    by_cases hc:i<nn
    .have aD:(i:Int)<nn:=ao9;have bf:(0:Int)<=(i:Int):=ao9;obtain⟨n,hn⟩:=Ge T.pl.nodes i (by rw[<-aG.out];exact hc);have hT:=h.low c;obtain⟨g,cap,aI,bw,_⟩:=hT.zm (by rw[al.out];omega);have a9:T.nodes[i]?=Z n:=hn;obtain⟨d0,d1,d2,_⟩:=hT.pw a9 aI;have e4:no=Z ⟨g,0,I⟩:=(by have h1:=ap.symm.trans aI;injection h1);clear bw;subst e4;have aP:=Ang hg.out (Ai hn);have d:=A2q hn;obtain⟨up,dr,sn⟩:=n;simp only at d0 d1 d2 aP;obtain⟨W7,u⟩:=Ex (wr.alloc (V #[D up,D dr,G O sn] 119 (0,0)));have l:BW wr.heap.size wr W7:=(by rw[u];exact Bn);have o:W7.heap[wr.heap.size]?=Z (V #[D up,D dr,G O sn] 119 (0,0)):=(by rw[u];exact Ah _ _);have q:D2 T.pl T.pl.cls.length i++zB [Cq up,Cq dr,sn]=D2 T.pl T.pl.cls.length (i+1):=d.symm
     have kI:∀W,BW W7.heap.size W7 W->CS prog 52 #[J bo bn bc,J (Z ⟨W.heap.size,0,I⟩) 3 3] (W.alloc (V #[G O (Cq up),G O (Cq dr),G O sn] 3 (0,0))) λe w'=>∃v,e=K v/\fi (W.alloc (V #[G O (Cq up),G O (Cq dr),G O sn] 3 (0,0))) (D2 T.pl T.pl.cls.length (i+1)) v w':=λW hW=>by
      have h1:=Wf bo bn bc (D2 T.pl T.pl.cls.length i) (Z ⟨W.heap.size,0,I⟩) 3 3 [Cq up,Cq dr,sn] (W.alloc (V #[G O (Cq up),G O (Cq dr),G O sn] 3 (0,0))) ((t.low (l.trans (hW.mono l.size))).low Bn) (Wg W [Cq up,Cq dr,sn] as9) aP ao9;rw[q]at h1;exact h1
     have k1:=Z5 up;have k2:=Z5 dr
     have aA:∀W,BW W7.heap.size W7 W->W.cell? ⟨wr.heap.size,0,I⟩=Z (D up)/\W.cell? ⟨wr.heap.size,1,I⟩=Z (D dr)/\W.cell? ⟨wr.heap.size,2,I⟩=Z (G O sn):=λW hW=>by
      have h1:=Ae hW o (Ab o);exact⟨Aa h1 0,Aa h1 1,Aa h1 2⟩
     have a:BW W7.heap.size W7 W7.drew:=(Below.refl _ _).drew;replace⟨hn,hT,a9,aP,d,q,l,o⟩:=H8 hn hT a9 aP d q l o;replace⟨kI,t,c,be,k1,k2,aA,a⟩:=H8 kI t c be k1 k2 aA a;replace aI:=Hh aI;go_upto_region 13 with fail;rw[<-u];clear u;go_region_held3 (λW=>W.cell? ⟨wr.heap.size,0,I⟩=Z (D up)/\W.cell? ⟨wr.heap.size,1,I⟩=Z (D dr)/\W.cell? ⟨wr.heap.size,2,I⟩=Z (G O sn))
      (first
        | with_reducible exact aA.out _ a.out
        | exact aA.out _ (a.alloc a.size _)
        | exact aA.out _ (a.alloc a.size _).drew
        | exact aA.out _ a.drew)
      (first
        | (go_at_call 55
           (first|(with_reducible refine(k1.out _).mono ?_)|(with_reducible refine(k2.out _).mono ?_))
           rintro e wz ⟨rfl,rfl⟩)
        | (go_at_call 52;refine(kI W7.drew a.out).mono ?_;rintro e w2 ⟨v2,rfl,m⟩;replace a:=Hh ((a.alloc a.size _).trans (m.low.mono (a.alloc a.size _).size))
           replace m:=Hh m))
     all_goals
      have an:fi w (D2 T.pl T.pl.cls.length (i+1)) v2 w2:=⟨m.own,c.trans ((l.trans (a.mono l.size)).mono c.size)⟩;clear d0 d1 d2;replace an:=Hh an;go_wp2_with fail;go_roundw
      case rel=>exact⟨i+1,by go_num,ao9,an.out⟩
      case measure=>simp[intOf];omega
    .have aD:¬(i:Int)<nn:=ao9;have a3:i=T.pl.nodes.length:=(by have:=aG.out;omega);have c4:wr.cell? ⟨tb,4,I⟩=Z (J jo jn jc):=by rw[Aa (s wr c) 4];show Z T.jv=_;rw[x.out]
     have aN:I6 [(jn:Int)]:=λz hz=>by
      simp only[Ei,R8,Sd]at hz;have:=aC.out;omega
     have kI:=Wf bo bn bc (D2 T.pl T.pl.cls.length i) (Z ⟨wr.heap.size,0,I⟩) 1 1 [(jn:Int)] (wr.alloc (V #[G O jn] 3 (0,0))) (t.low Bn) (Wg wr [(jn:Int)] as9) aN ao9;have q:D2 T.pl T.pl.cls.length i++zB [(jn:Int)]=G6 T.pl 0:=(by rw[a3,aC.out];simp[G6]);rw[q]at kI;have bb:(G6 T.pl 0).length<=200010:=(by have h1:=Kf _ aN;simp only[D7,Ir]at h1;rw[<-q,Az,t.len];omega);clear hC;replace⟨kI,c,t,q,aN,bb,a3⟩:=H7 kI c t q aN bb a3;go_wp2_with fail;refine kI.mono ?_;rintro e w6 ⟨v6,rfl,aV⟩;have a0:=Bn.trans (aV.low.mono as9);have aO:=c.trans (a0.mono c.size);have aW:fi w (G6 T.pl 0) v6 w6:=⟨aV.own,aO⟩;clear c4;have c4:w6.cell? ⟨tb,4,I⟩=Z (J jo jn jc):=(by rw[Aa (s w6 aO) 4];show Z T.jv=_;rw[x.out]);clear aV;replace⟨a0,aO,aW⟩:=H3 a0 aO aW;go_wp2_with fail;go_loopw [3,10,100] (λbv _ iv wr=>∃i:Nat,iv=G O i/\i<=jn/\Hid (fi w (G6 T.pl i) bv wr)) (λ_ _ iv _=>jn-(intOf iv).toNat)
     case atStart=>exact⟨0,rfl,As _,aW.out⟩
     case round=>
      rename WD=>wq
      obtain⟨i,rfl,hi,hC⟩:=hrel;have ac:=hC.low;by_cases hc:i<jn
      .have aD:(i:Int)<jn:=ao9;have bf:(0:Int)<=(i:Int):=ao9;obtain⟨bo,bn,bc,rfl,t⟩:=hC.own;obtain⟨j,hj⟩:=Ge T.js i (by have:=aB.out;omega);have hT:=h.low ac;obtain⟨g,cap,_,cg,_,aU⟩:=hT.lh hj;have e4:jo=Z ⟨g,0,I⟩:=(by have h1:=x.symm.trans aU;injection h1);subst e4;have ad:=Ai hj;have aQ:T.pl.ab[i]?=Z j.2.pl:=(by simp[Tv.pl,hj]);have hN:=av j.2.pl (Ai aQ);have d:=A2r aQ
       have a1:bn<=1000000000000:=by
        have h0:=Wh (f:=N7) (n:=20200000) (T.pl.ab.take i) λy hy=>by
         obtain⟨y2,bi,rfl⟩:=A8.1 (show y∈T.js.map λj=>j.2.pl from Na hy);have ok:=h.ok y2 bi;obtain⟨q1,q2,q3⟩:=aS y2 bi;exact A2t (av _ (Na hy)) (by rw[ok.after.row.len];exact q1) (by rw[ok.ak.row.len];exact q2) (by rw[Ji ok.parts];exact q3)
        have h1:=t.len;have h2:(G6 T.pl i).length=(G6 T.pl 0).length+((T.pl.ab.take i).flatMap N7).length:=(by unfold G6;simp[Az];omega);have h3:=bb.out;rw[Dt]at h0;have h4:=aB.out;omega
       have kP:=A2j bo bn bc (G6 T.pl i) j.1 j.2 T.az wq t (hT.box j ad) (hT.ok j ad) (ht.low ac) (aS j ad) hN.af hN.ga hN.lf hN.pa hN.tx a1;rw[<-d]at kP;replace⟨hT,aU,hj,ad,aQ,hN,d,a1⟩:=H8 hT aU hj ad aQ hN d a1;replace⟨kP,t,ac⟩:=H3 kP t ac;go_wp2_with fail;refine kP.mono ?_;rintro e wp ⟨vp,rfl,aX⟩;have aY:fi w (G6 T.pl (i+1)) vp wp:=⟨aX.own,ac.trans (aX.low.mono ac.size)⟩;clear aX;replace aY:=Hh aY;go_wp2_with fail;go_roundw
       case rel=>exact⟨i+1,by go_num,ao9,aY.out⟩
       case measure=>simp[intOf];omega
      .have aD:¬(i:Int)<jn:=ao9;have bB:i=jn:=ao9;have am:fi w (G6 T.pl jn) u3 wq:=(by rw[<-bB];exact hC.out);replace⟨am,ac⟩:=H2 am ac;go_wp2_with fail;go_ret;exact⟨_,rfl,am.out⟩
def A2v {W:WD} {x:de} (b:x.ok W):Qh (W.alloc (V x.cells 40 (0,0))) (Z ⟨W.heap.size,0,I⟩) 1 [x]:=
 ⟨rfl,ad9,λi y a=>by
  cases i with
  | succ i=>simp at a
  | zero=>
   simp at a;subst a
   exact⟨W.heap.size,0,rfl,as9,λj c=>by rw[show 0+0*10+j=j by omega];exact Aa (Ah W _) j,b.low Bn⟩⟩
def A2w:(Ca vs t e).2.2=Dz vs t e:=by
 by_cases h:Dz vs t e=0
 .unfold Ca;rw[Ac (by simpa using h),h]
 .unfold Ca;rw[Ad h]
def A2x    (h:Dz vs t e≠0):(Ca vs t e).1=t/\(Ca vs t e).2.1=⟨0,0,0,0⟩:=by
 unfold Ca;rw[Ad h];exact⟨rfl,rfl⟩
def Ani {a:Int} {c:Cl}:∀(l:List (Int×Cl)),(∀p,p∈l->p.1≠a)->(Lh (a,c) l).find? (λp=>decide (p.1=a))=Z (a,c)
 | [],_=>by simp[Lh]
 | y :: l,h=>by
  unfold Lh;split
  .simp
  .rw [List.find?_cons_of_neg (by simpa using h y (D6 ..))];exact Ani l λp b=>h p (Df _ b)
def A2y (l:List (Int×Cl)) (a:Int) (c:Cl):E0 (Ib l a c) a=c:=by
 unfold E0 Ib;rw[Ani _ λp b=>by simpa using(Of.1 b).2];rfl
def A2z    (h:Dz vs t e=0) (a:Br e.n.kind=true):E0 (Ca vs t e).1.cls e.n.ah=⟨e.n.seq,(Ca vs t e).2.1.e,(Ca vs t e).2.1.first,(Ca vs t e).2.1.last⟩:=by
 unfold Ca;rw[Ac (by simpa using h)];simp only[a,Kk];exact A2y _ _ _
def A20    (f:Ey vs t) (h:Dz vs t e=0):(Ca vs t e).2.1.e=0/\(Br e.n.kind=false->(Ca vs t e).2.1.first=0/\(Ca vs t e).2.1.last=0):=by
 have b:=Z2 h;have h1:=(Am3 f b).2.1;have d:(Ca vs t e).2.1=(ee vs t e).2:=by unfold Ca;rw[Ac (by simpa using h)]
 rw[d];refine⟨h1,λa=>?_⟩;have g:=(Ry b.may).kind
 have i:¬e.n.kind=2/\¬e.n.kind=3/\¬e.n.kind=4/\¬e.n.kind=5/\¬e.n.kind=10/\¬e.n.kind=11:=by refine⟨?_,?_,?_,?_,?_,?_⟩<;>intro c<;>rw[c]at a<;>revert a<;>decide
 unfold ee;split
 .exact ⟨rfl,rfl⟩
 rw[Ac i.1];split
 .exact ⟨rfl,rfl⟩
 split
 .exact ⟨rfl,rfl⟩
 rw[Ad ao9];exact⟨rfl,rfl⟩
def A21 (a9:∀W,Mx W->CS prog 12 #[] W λe w'=>e=K (D true)/\BW W.heap.size W w') (w:WD) (hm:Mx w) (ht:Tb w) (s:ByteArray) (so:Option Addr) (m c:Nat) (xs:List de) (hx:Qh w so m xs) (x:de) (l:x.ok w) :
  CS prog 7 #[Y s,J so m c,x.val] w λe w'=>e=K (D true)/\BW w.heap.size w w':=by
 have aA:=Ll.new w x;obtain⟨W0,aO⟩:=Ex (w.alloc (V x.cells 40 (0,0)));rw[<-aO]at aA;obtain⟨pb,aT⟩:=Ex (w.heap.size);have j:=aA.box;rw[<-aT]at j;have b0:=aA.low;have a3:=a9 W0 (hm.low b0);obtain⟨X,hX⟩:=Ex (x);rw[<-hX]at l j;have ba:-9223372036854775808<=X.n.ah/\X.n.ah<=9223372036854775807:=l.xw 3;obtain⟨⟨i,ai,tick,ah,seq,bt,attempt,node,br⟩,aK,em,ec,bb⟩:=x;have bc:∀W,BW W0.heap.size W0 W->∀o,W.cell? ⟨pb,o,I⟩=X.cells[o]?:=λW hW o=>Aa (Ae hW j (Ab j)) o;have aQ:X.val=(⟨⟨i,ai,tick,ah,seq,bt,attempt,node,br⟩,aK,em,ec,bb⟩:de).val:=by rw[hX]
 have ek:X.n.kind=i:=by rw[hX]
 have es:X.n.seq=seq:=by rw[hX]
 have aX:X.n.ah=ah:=by rw[hX]
 have k:∀W,BW W0.heap.size W0 W->W.cell? ⟨pb,0,I⟩=Z (G O i)/\W.cell? ⟨pb,1,I⟩=Z (G O ai)/\W.cell? ⟨pb,2,I⟩=Z (G O tick)/\W.cell? ⟨pb,3,I⟩=Z (G O ah)/\W.cell? ⟨pb,4,I⟩=Z (G O seq)/\W.cell? ⟨pb,5,I⟩=Z (G O bt)/\W.cell? ⟨pb,6,I⟩=Z (G O attempt)/\W.cell? ⟨pb,7,I⟩=Z (G O node)/\W.cell? ⟨pb,8,I⟩=Z (G O br)/\W.cell? ⟨pb,9,I⟩=Z (J aK em ec):=λW hW=>by
  have h:=bc W hW;rw[hX]at h;exact⟨h 0,h 1,h 2,h 3,h 4,h 5,h 6,h 7,h 8,h 9⟩
 have aU:∀W,BW w.heap.size w W->CS prog 19 #[J (Z ⟨W.heap.size,0,I⟩) 1 1] (W.alloc (V #[G O i,G O ai,G O tick,G O ah,G O seq,G O bt,G O attempt,G O node,G O br,J aK em ec] 40 (0,0))) (Z4 [X.pl] (W.alloc (V #[G O i,G O ai,G O tick,G O ah,G O seq,G O bt,G O attempt,G O node,G O br,J aK em ec] 40 (0,0)))):=λW hW=>by
  have h:=Aef (Z ⟨W.heap.size,0,I⟩) 1 1 [X] (A2v (l.low hW));rw[hX]at h ⊢;exact h
 replace⟨aA,a3,hx,l,hm,ht,j,b0⟩:=H8 aA a3 hx l hm ht j b0;replace⟨hX,bc,aQ,ek,es,aX,k,aU⟩:=H8 hX bc aQ ek es aX k aU;replace aT:=Hh aT;clear a9;go_enter func7,ntmps7;go_upto_region 1 with fail;rw[<-aT.out];simp only[de.cells]at aO;rw[<-aO];clear aO;go_wp2_with fail;refine a3.mono ?_;rintro e w1 ⟨rfl,b1⟩;have a:=b0.trans (b1.mono b0.size);have a2:=hm.low a;have kp:=A2e a2 s so m c xs (hx.low a);replace⟨b1,kp,a,a2⟩:=H4 b1 kp a a2;go_wp2_with fail;refine kp.mono ?_;intro e w2 hP;rcases hP with⟨rfl,b2⟩|⟨T,rfl,hP,bi,hv⟩
 .have l2:=b1.trans (b2.mono b1.size);obtain⟨e0,e1,e2,e3,e4,e5,e6,e7,e8,e9⟩:=k w2 l2;have f:=b0.trans (l2.mono b0.size);have ks:=aU w2 f;replace⟨b2,l2,ks,f⟩:=H4 b2 l2 ks f;go_wp2_with fail;refine ks.mono ?_;rintro e w3 ⟨b,rfl,-,b3⟩;have d:=(f.alloc f.size _).trans (b3.mono (f.alloc f.size _).size);replace⟨b3,d⟩:=H2 b3 d;go_wp2_with fail;go_ret;exact⟨rfl,d.out⟩
 have l2:=b1.trans (hP.low.mono b1.size);obtain⟨e0,e1,e2,e3,e4,e5,e6,e7,e8,e9⟩:=k w2 l2;have f:=b0.trans (l2.mono b0.size);have ks:=aU w2 f;obtain⟨tb,u⟩:=Ex (T.tb);rw[<-u];replace⟨l2,ks,f,hP,u⟩:=H5 l2 ks f hP u;go_wp2_with fail;refine ks.mono ?_;rintro e w3 ⟨b,rfl,-,b3⟩;have p:=Bn.trans (b3.mono as9);have d:=f.trans (p.mono f.size);clear e0 e1 e2 e3 e4 e5 e6 e7 e8 e9;cases b
 .replace ⟨b3,d,p⟩:=H3 b3 d p;go_wp2_with fail;go_ret;exact⟨rfl,d.out⟩
 have am:=hP.drop p
 have aD:∀W,BW w3.heap.size w3 W->CS prog 30 #[Q (Z ⟨tb,0,I⟩)] W λe w'=>∃v,e=K v/\fi W (G6 T.pl T.pl.ab.length) v w':=λW hW=>by
  have h:=am.drop hW;rw[u.out];exact Anh h.tab h.gw h.rows.1 hv (ht.low (d.trans (hW.mono d.size)))
 have aS:∀W,BW w3.heap.size w3 W->CS prog 31 #[Q (Z ⟨tb,0,I⟩),X.val] W (Il W (Dz T.vs T.pl X.pl)):=λW hW=>by
  rw[u.out];exact Ad7 X (am.drop hW).tab ao9 (l.low (d.trans (hW.mono d.size)))
 have l3:=l2.trans (p.mono l2.size);have a5:=aD w3 (Below.refl _ _);obtain⟨S,hS⟩:=Ex (au (G6 T.pl T.pl.ab.length));obtain⟨g,hg⟩:=Ex (Dz T.vs T.pl X.pl);rw[<-hg]at aS;replace⟨b3,d,p,am,aD,aS,l3,a5⟩:=H8 b3 d p am aD aS l3 a5;replace⟨hS,hg⟩:=H2 hS hg;go_wp2_with fail;refine a5.mono ?_;rintro e w4 ⟨v4,rfl,bd⟩;obtain⟨⟨o4,n4,c4,rfl,aY⟩,b4⟩:=bd;have r:=Ab2 aY c4;rw[<-hS.out]at r;have l4:=l3.trans (b4.mono l3.size);obtain⟨e0,e1,e2,e3,e4,e5,e6,e7,e8,e9⟩:=k w4 l4;have aV:=aS w4 b4;rw[aQ.out]at aV;replace⟨aY,b4,l4,aV⟩:=H4 aY b4 l4 aV;go_wp2_with fail;refine aV.mono ?_;rintro e w5 ⟨rfl,b5⟩;have ap:=b4.trans (b5.mono b4.size);have a6:=aD w5 ap;clear e0 e1 e2 e3 e4 e5 e6 e7 e8 e9 r;replace⟨b5,ap,a6⟩:=H3 b5 ap a6;go_wp2_with fail;refine a6.mono ?_;rintro e w6 ⟨v6,rfl,be⟩;obtain⟨⟨o6,n6,c6,rfl,aZ⟩,b6⟩:=be;have r:=Ab2 aZ c6;rw[<-hS.out]at r;have av:=ap.trans (b6.mono ap.size);replace⟨aZ,b6,av⟩:=H3 aZ b6 av;have l6:=l3.trans (av.mono l3.size);have aM:=am.drop av;obtain⟨⟨rs,re,rf,rl⟩,hR⟩:∃R,R=(Ca T.vs T.pl X.pl).2.1:=⟨_,rfl⟩;have ka:=Aec X aM (l.low (d.trans (av.mono d.size))) (aM.di (l.low a.out)) (λ_=>by omega);unfold Aeb at ka;rw[<-hR,A2w,<-hg.out,<-u.out,aQ.out]at ka;obtain⟨e0,e1,e2,e3,e4,e5,e6,e7,e8,e9⟩:=k w6 l6;have bg:((g:Int) != g)=false:=as9
 clear aD;replace⟨l6,aM,hR,ka⟩:=H4 l6 aM hR ka;go_wp2_with fail;refine ka.mono ?_;rintro e w7 ⟨T',rfl,aL,ad,aN,-⟩;have af:tb=T'.tb:=by rw[aN.tb];exact u.out
 have aH:=aL.low;clear e0 e1 e2 e3 e4 e5 e6 e7 e8 e9 r;obtain⟨W8,aP⟩:=Ex (w7.alloc (V #[G O re,G O rf,G O rl] 35 (0,0)));have aJ:BW w7.heap.size w7 W8:=by rw[aP];exact Bn
 have aF:W8.heap[w7.heap.size]?=Z (V #[G O re,G O rf,G O rl] 35 (0,0)):=by rw[aP];exact Ah _ _
 have aI:=aH.trans (aJ.mono aH.size);have l8:=b1.trans (aI.mono b1.size);have an:=aL.drop aJ;have y:=a.trans (aI.mono a.size);have aR:=A2x (vs:=T.vs) (t:=T.pl) (e:=X.pl);rw[<-hg.out]at aR;replace⟨aL,ad,aN,af,aH,aJ,aF,aI⟩:=H8 aL ad aN af aH aJ aF aI;replace⟨l8,an,y,aR⟩:=H4 l8 an y aR;go_upto_region 13 with fail;rw[<-aP];clear aP;by_cases a1:g=0
 .subst a1;have ac:=λhk=>A2z (vs:=T.vs) (t:=T.pl) (e:=X.pl) hg.symm hk;have aB:=A20 am.gw hg.symm;rw[<-ad.out,<-hR.out]at ac;rw[<-hR.out]at aB;have kc:=λW=>Arw X.n.kind W;obtain⟨⟨cs,ce,cf,cl⟩,hC⟩:∃C,C=E0 T'.cls X.n.ah:=⟨_,rfl⟩;have kl:=Azd an.tab ba.1 ba.2;unfold Alw at kl;rw[<-hC,<-af.out,aX.out]at kl;rw[ek.out]at kc;have a4:CS prog 32 #[Q (Z ⟨tb,0,I⟩),G O ah] W8 λe w'=>e=K (E #[G O cs,.agg #[G O ce,G O cf,G O cl]])/\BW W8.heap.size W8 w':=kl;have e3:=(k W8 l8.out).2.2.2.1;clear kl;replace⟨ac,aB,kc,hC,a4⟩:=H5 ac aB kc hC a4;go_wp2_with fail;refine a4.mono ?_;rintro e w9 ⟨rfl,b9⟩;clear e3;obtain⟨aW,z⟩:=Ex (w9.alloc (V #[G O ce,G O cf,G O cl] 35 (0,0)));have ao:BW W8.heap.size W8 aW:=by rw[z];exact b9.alloc b9.size _
  have aE:aW.heap[w9.heap.size]?=Z (V #[G O ce,G O cf,G O cl] 35 (0,0)):=by rw[z];exact Ah _ _
  have al:=y.trans (ao.mono y.size);have aG:=Ae ao aF.out (Ab aF.out);have q:=k aW (l8.trans (ao.mono l8.size));replace⟨b9,ao,aE,al,aG,q⟩:=H6 b9 ao aE al aG q;go_upto_region 17 with fail;rw[<-z];clear z;obtain⟨e0,-,-,-,e4,-,-,-,-,-⟩:=q.out;obtain⟨r0,r1,r2⟩:=C3 aG.out;(try dsimp only at r0 r1 r2);obtain⟨c0,c1,c2⟩:=C3 aE.out;(try dsimp only at c0 c1 c2);cases hk:Br i
  .obtain ⟨q1,q2⟩:=aB.out;obtain⟨q2,q3⟩:=q2 (by rw[show X.pl.n.kind=i from ek.out];exact hk);subst q1 q2 q3;rw[hk]at kc;replace hk:=Hh hk;go_wp2_with (go_at_call 33;(with_reducible refine(kc.out _).mono ?_);rintro e wz ⟨rfl,rfl⟩);go_ret;exact⟨rfl,al.out⟩
  .have h1:=ac (by rw[show X.pl.n.kind=i from ek.out];exact hk);have h2:=hC.trans h1;injection h2 with q1 q2 q3 q4;have q5:=aB.1;rw[show X.pl.n.seq=seq from es.out]at q1;subst q5 q2 q3 q4 q1;rw[hk]at kc;replace hk:=Hh hk;go_wp2_with (go_at_call 33;(with_reducible refine(kc.out _).mono ?_);rintro e wz ⟨rfl,rfl⟩);go_ret;exact⟨rfl,al.out⟩
 .have bk:((g:Int) == 0)=false:=by simpa using a1
  obtain⟨h1,h2⟩:=aR a1;have e1:=hR.trans h2;injection e1 with q1 q2 q3 q4;subst q2 q3 q4;have aC:=ad.trans h1
  have a7:CS prog 30 #[Q (Z ⟨tb,0,I⟩)] W8 λe w'=>∃v,e=K v/\fi W8 (G6 T.pl T.pl.ab.length) v w':=by rw[af.out,<-aC];exact Anh an.tab an.gw an.rows.1 (by rw[aN.vs];exact hv) (ht.low y.out)
  obtain⟨r0,r1,r2⟩:=C3 aF.out;(try dsimp only at r0 r1 r2);replace⟨a7,aC,h1,h2⟩:=H4 a7 aC h1 h2;go_wp2_with fail;refine a7.mono ?_;rintro e w9 ⟨v9,rfl,bf⟩;obtain⟨⟨o9,n9,c9,rfl,a0⟩,b9⟩:=bf;have r:=Ab2 a0 c9;rw[<-hS.out]at r;have a8:=y.trans (b9.mono y.size);replace⟨a0,b9,a8⟩:=H3 a0 b9 a8;go_wp2_with fail;go_ret;exact⟨rfl,a8.out⟩
def yi:ByteArray:=⟨#[110,49,32,50,44,50,44,48,44,48,32,109,97,105,110,10]⟩
def Aes:ByteArray:=⟨#[109,97,105,110]⟩
def Jw:ByteArray:=⟨#[97,110,97]⟩
def gj:ax:=⟨⟨#[110,49]⟩,⟨2,2,0,0⟩,[Aes]⟩
def A34:Ep yi=([gj],0,0):=by kernel_rfl
def oy:dm:=⟨Jw,Aes,1,⟨1,0,0,0⟩,5,0,3,0,false,[]⟩
def qb (id:Int):Jb:=⟨id,{ oy with array:=1,after:=[] },⟨1,0,0,false,false⟩,-1,[],[]⟩
def yt (id:Int):Jb:=⟨id,{ oy with array:=1,after:=[] },⟨3,1,0,false,false⟩,1,[0],[(0,0)]⟩
def awD:Jb:=⟨1,{ oy with array:=1,after:=[] },⟨5,1,0,false,false⟩,1,[0],[]⟩
def yr:Jb:=⟨3,{ oy with array:=1,after:=[] },⟨1,0,0,false,false⟩,14,[0],[]⟩
def Anm:du:=⟨0,-1,[],[⟨false,false,-1⟩],[]⟩
def Qi:du:=⟨0,-1,[],[⟨true,false,0⟩],[]⟩
def Ga:du:=⟨0,-1,[(1,⟨1,0,1,3⟩)],[⟨true,false,0⟩],[qb 1,qb 2,qb 3]⟩
def Z7:du:=⟨0,1,[(1,⟨1,0,1,3⟩)],[⟨true,false,0⟩],[yt 1,yt 2,yr]⟩
def Aet:du:=⟨0,1,[(1,⟨1,0,1,3⟩)],[⟨true,false,0⟩],[awD,yt 2,yr]⟩
def A35:ei:=⟨⟨9,0,0,0,0,0,0,0,0⟩,[]⟩
def Aeu:ei:=⟨⟨2,0,0,1,1,0,0,0,0⟩,[oy]⟩
def Z8:ei:=⟨⟨6,0,1,0,0,0,0,0,0⟩,[]⟩
def A36:ei:=⟨⟨7,0,0,0,0,1,1,0,1⟩,[]⟩
def A37:Ca [gj] Anm A35=(Qi,⟨0,0,0,0⟩,0):=by kernel_rfl
def A38:Gj 1 [3] [[]]=([[]],0):=by
 have h1:Js ([([]:List Int)].map (Ky 1 [3]))=true:=by kernel_rfl
 have a:(C1 1 [3] ([]:List Int) 0).2=[]:=by kernel_rfl
 unfold Gj;rw[Ac ad9,Ac ad9,Ac ad9,Ac (by rw[h1];simp)];have b:Kc 1 [3] []=[]:=by unfold Kc;show Lib.compact (Ka (C1 1 [3] ([]:List Int) 0).2)=[];rw[a];simp[Ka,Lib.compact,Lib.compactUpTo]
 simp[b]
def Ann:B9 [gj] 0 [oy]=([[]],0):=by
 have h:B9 [gj] 0 [oy]=Gj 1 [3] [[]]:=by kernel_rfl
 rw[h,A38]
def A39:Ca [gj] Qi Aeu=(Ga,⟨0,0,1,3⟩,0):=by
 have h1:Dz [gj] Qi Aeu=(B9 [gj] 0 [oy]).2:=by kernel_rfl
 have a:M5 [gj] Qi [oy]=(⟨0,-1,[],[⟨true,false,0⟩],[qb 1,qb 2,qb 3]⟩,⟨0,0,1,3⟩):=by
  unfold M5;rw[show B9 [gj] Qi.ab.length [oy]=([[]],0)from Ann]
  kernel_rfl
 have b:ee [gj] Qi Aeu=M5 [gj] Qi [oy]:=by kernel_rfl
 unfold Ca;rw[Ac (by rw[h1,Ann];simp),b,a];rfl
def A4a:Ca [gj] Z7 A36=(Aet,⟨0,0,0,0⟩,0):=by kernel_rfl
def A4b:U0 Aet.ab 0=⟨1,0,0,0⟩:=by kernel_rfl
def Ano:Dd 1 Ga.ab=Ga.ab:=by kernel_rfl
def A4c:Bx Ga.ab=[⟨1,Jw,0,⟨1,0,0,0⟩⟩,⟨2,Jw,0,⟨1,0,0,0⟩⟩,⟨3,Jw,0,⟨1,0,0,0⟩⟩]:=by kernel_rfl
def Anp:Ie Ga.ab=[]:=by kernel_rfl
def A4d:Dx Ga.ab=[]:=by kernel_rfl
def Anq:vj { Ga with tick:=1 }=[true]:=by kernel_rfl
def Rz:List dj:=[⟨1,Jw,0,⟨1,0,0,0⟩⟩,⟨2,Jw,0,⟨1,0,0,0⟩⟩,⟨3,Jw,0,⟨1,0,0,0⟩⟩]
def A4e:C9 [] Rz=[⟨Jw,V4.zero,[0,1,2]⟩]:=by
 have h1:Cb Rz Rz.length=[⟨Jw,V4.zero,[0,1,2]⟩]:=by kernel_rfl
 have a:Gw Rz [0,1,2]=[0,1,2]:=by unfold Gw;simp[List.mergeSort,List.MergeSort.Internal.splitInTwo,xq,A7,Rz]
 unfold C9;rw[h1];simp[a]
def A4f (whole:V4) (b:whole=⟨2,2,0,0⟩):Lj whole [] Rz=[0,1,2]:=by
 subst b;have a:F2 [⟨Jw,V4.zero,[0,1,2]⟩]=[Jw]:=by unfold F2;simp[List.mergeSort_singleton,Jw]
 unfold Lj;rw[A4e,a];rfl
def Anr:Fc [gj] Ga.ab=[F8 [gj] (qb 1),F8 [gj] (qb 2),F8 [gj] (qb 3)]:=by
 unfold Fc;rw[A4c,A4d];rw[show([⟨1,Jw,0,⟨1,0,0,0⟩⟩,⟨2,Jw,0,⟨1,0,0,0⟩⟩,⟨3,Jw,0,⟨1,0,0,0⟩⟩]:List dj)=Rz from rfl,A4f _ (by kernel_rfl)]
 kernel_rfl
def Aev (a:Int):Pl.Wi (F8 [gj] (qb a)) ⟨1,0,0,0⟩ 13:=⟨by show C6 [gj] Aes=[0];kernel_rfl,rfl,rfl,rfl,rfl⟩
def A4g (h:Rx [gj] 1 [true] Ga.ab):Kv [gj] 1 [true] Ga.ab=[(1,1,[0]),(2,1,[0]),(3,14,[0])]:=by
 unfold Rx at h;unfold Kv;rw[Anp,Anr]at h;rw[Anp,Anr];rcases h with⟨r,h1,d⟩|⟨a,c⟩
 .exact absurd (Pl.A33 d ad9 ad9 ad9) h1
 .have e:=Pl.A32 (a1:=F8 [gj] (qb 1)) (a2:=F8 [gj] (qb 2)) (a3:=F8 [gj] (qb 3)) c (Aev 1) (Aev 2) (Aev 3);have b:=Akq c;rw[e]at b;exact b
def A4h (h:T7 [gj] Ga Z8):Ca [gj] Ga Z8=(Z7,⟨0,0,0,0⟩,0):=by
 have h1:Dz [gj] Ga Z8=0:=by kernel_rfl
 have a:=h h1 rfl;have a:Rx [gj] 1 (vj { Ga with tick:=1 }) (Dd 1 Ga.ab):=a;rw[Anq,Ano]at a;have b:ee [gj] Ga Z8=(Tr [gj] Ga 1,⟨0,0,0,0⟩):=by kernel_rfl
 have c:Tr [gj] Ga 1=Z7:=by
  unfold Tr P5;rw[Anq,Ano,A4g a]
  kernel_rfl
 unfold Ca;rw[Ac (by rw[h1];simp),b,c];rfl
def A4i:Iy [gj]:=by
 have h:=Abm (Fu yi) [] Yc;have e:(Bh [] (Fu yi)).1=[gj]:=by kernel_rfl
 rw[e]at h;exact h
def A4j (w:WD) (f:Mx w):CS prog 13 #[Y ⟨#[110,49,32,50,44,50,44,48,44,48,32,109,97,105,110,10]⟩] w λe w'=>e=K (E #[Q (Z ⟨w.heap.size+4,0,I⟩),G O 0,G O 0])/\BW w.heap.size w w'/\kq w' (w.heap.size+4) (w.heap.size+3) (w.heap.size+7) [gj]:=
 (Af1 yi w f).mono λe w' h=>by
  obtain⟨p,b,c,a⟩:=h;rw[A34]at b a;rcases a with⟨h1,_⟩|⟨_,rfl,d⟩
  .exact absurd rfl h1
  .exact ⟨b,c,d⟩
def A4k   (h:An w T) {b:Nat} {xs:List ay} (f:w.heap[b]?=Z (V (Av ay.cells xs).toArray 33 (0,0))) (m:xs.length<=1000) (d:∀a,Mod T.az w a->∀x,x∈xs->x.ok a):∀a,Mod T.az w a->J6 a (Z ⟨b,0,I⟩) xs.length xs:=λa k=>by
 have c:=k.aw f (h.off f ad9 ad9 ad9 ad9 ad9);refine⟨rfl,ao9,λi x g=>⟨b,0,rfl,Ab c,λj l=>?_,d a k x (Ai g)⟩⟩;have e:∀x:ay,(ay.cells x).size=13:=λ_=>rfl;rw[Cn,Aa c (i*13+j),L4];exact Iw e xs g l
def A4l (w:WD) (hm:Mx w):CS prog 12 #[] w λe w'=>e=K (D true)/\BW w.heap.size w w':=by
 have bn:=A4j w hm;have bs:=A4i;replace⟨bn,bs⟩:=H2 bn bs;go_enter func12,ntmps12;go_wp2_with fail;refine bn.mono ?_;rintro e w1 ⟨rfl,aX,bl⟩;have bo:=Am4 bl bs.out;replace⟨aX,bl,bo⟩:=H3 aX bl bo;go_wp2_with fail;refine bo.mono ?_;rintro e w2 ⟨T,rfl,ba,a6,aL,bP,bQ,bR,bJ,bH⟩;obtain⟨tb,ht⟩:=Ex (T.tb);rw[<-ht];replace aL:T.pl=Anm:=aL;clear bP bQ bR;replace⟨ba,a6,aL,bJ,bH,ht⟩:=H6 ba a6 aL bJ bH ht;go_upto_region 6 with fail;obtain⟨sb,bw⟩:=Ex (w2.heap.size);obtain⟨W3,aV⟩:=Ex (w2.alloc (V #[Y ⟨#[97,110,97]⟩,Y ⟨#[109,97,105,110]⟩,G O 1,G O 1,G O 0,G O 0,G O 0,G O 5,G O 0,G O 3,G O 0,D false,J I 0 0] 33 (0,0)));have bg:BW w2.heap.size w2 W3:=by rw[aV];exact Bn
 have a7:W3.heap[sb]?=Z (V (⟨oy,I,0,0⟩:ay).cells 33 (0,0)):=by rw[aV,bw];exact Ah _ _
 have aP:=ba.drop bg;have f:=Z3 ⟨⟨9,0,0,0,0,0,0,0,0⟩,I,0,0,[]⟩ aP (Aed _ _ (λi=>by unfold dh.get;split<;>simp)) (λW' _=>Aee W') (λc=>absurd c ad9) (t':=Qi) (c:=⟨0,0,0,0⟩) (r:=0) (by rw[a6.out,aL.out];exact λ_=>A37);rw[<-ht.out]at f;rw[<-aV,<-bw];clear aV bw;replace⟨bg,a7,aP,f⟩:=H4 bg a7 aP f;go_wp2_with fail;refine f.mono ?_;rintro e w4 ⟨T4,rfl,bb,aM,aT⟩;have bA:=aT.mod.aw a7.out (aP.tab.off a7.out ad9 ad9 ad9 ad9 ad9);have a4:=aT.vs.trans a6.out;have a2:tb=T4.tb:=by rw[aT.tb];exact ht.out
 clear aT;replace⟨bb,aM,bA,a4,a2⟩:=H5 bb aM bA a4 a2;obtain⟨y0,y1,y2,y3,y4,y5,y6,y7,y8,y9,bL,bM,bN⟩:=C13 bA.out;(try dsimp only at y0 y1 y2 y3 y4 y5 y6 y7 y8 y9 bL bM bN);have bk:BW w4.heap.size w4 (w4.alloc (V #[Y ⟨#[97,110,97]⟩,Y ⟨#[109,97,105,110]⟩,G O 1,G O 1,G O 0,G O 0,G O 0,G O 5,G O 0,G O 3,G O 0,D false,J I 0 0] 33 (0,0))):=Bn;have bB:(w4.alloc (V #[Y ⟨#[97,110,97]⟩,Y ⟨#[109,97,105,110]⟩,G O 1,G O 1,G O 0,G O 0,G O 0,G O 5,G O 0,G O 3,G O 0,D false,J I 0 0] 33 (0,0))).heap[w4.heap.size]?=Z (V (Av ay.cells [(⟨oy,I,0,0⟩:ay)]).toArray 33 (0,0)):=Ah _ _;have aS:=bb.drop bk
 have av:=A4k aS.tab bB ad9 (λW' _ x hx=>by
  rw[Jy.1 hx]
  exact⟨U2 W',Nat.le_refl _,ad9,ad9⟩)
 have f:=Z3 ⟨⟨2,0,0,1,1,0,0,0,0⟩,Z ⟨w4.heap.size,0,I⟩,1,1,[⟨oy,I,0,0⟩]⟩ aS ⟨av _ (Mod.refl _ _),Nat.le_refl _,λi=>by unfold dh.get;split<;>simp⟩ av (λc=>absurd (show(2:Int)=6 from c) ad9) (t':=Ga) (c:=⟨0,0,1,3⟩) (r:=0) (by rw[a4.out,aM.out];exact λ_=>A39);rw[<-a2.out]at f;replace⟨bk,bB,aS,av,f⟩:=H5 bk bB aS av f;go_wp2_with fail;refine f.mono ?_;rintro e w6 ⟨T6,rfl,bc,ad,be⟩;have a5:=be.vs.trans a4.out;have a3:tb=T6.tb:=by rw[be.tb];exact a2.out
 clear be y0 y1 y2 y3 y4 y5 y6 y7 y8 y9 bL bM bN;replace⟨bc,ad,a5,a3⟩:=H4 bc ad a5 a3;go_upto_region 8 with fail;obtain⟨rb,bv⟩:=Ex (w6.heap.size);obtain⟨W7,aW⟩:=Ex (w6.alloc (V #[G O 0,G O 1,G O 3] 35 (0,0)));have bi:BW w6.heap.size w6 W7:=by rw[aW];exact Bn
 have aZ:W7.heap[rb]?=Z (V #[G O 0,G O 1,G O 3] 35 (0,0)):=by rw[aW,bv];exact Ah _ _
 have aQ:=bc.drop bi;have bI:T6.js.length=3:=by have:=Cd (λt:du=>t.ab.length) ad.out;simpa[Tv.pl,Ga]using this
 have f:=Z3 ⟨⟨6,0,1,0,0,0,0,0,0⟩,I,0,0,[]⟩ aQ (Aed _ _ (λi=>by unfold dh.get;split<;>simp)) (λW' _=>Aee W') (λ_=>by omega) (t':=Z7) (c:=⟨0,0,0,0⟩) (r:=0) (by rw[a5.out,ad.out];exact A4h);rw[<-a3.out]at f;rw[<-aW,<-bv];clear aW bv bI;replace⟨bi,aZ,aQ,f⟩:=H4 bi aZ aQ f;go_wp2_with fail;refine f.mono ?_;rintro e w8 ⟨T8,rfl,bd,af,aU⟩;have a0:=aU.mod.aw aZ.out (aQ.tab.off aZ.out ad9 ad9 ad9 ad9 ad9);have bx:=aU.vs.trans a5.out;have aO:tb=T8.tb:=by rw[aU.tb];exact a3.out
 clear aU;replace⟨bd,af,a0,bx,aO⟩:=H5 bd af a0 bx aO;go_upto_region 9 with fail;obtain⟨W9,bf⟩:=Ex (w8.alloc (V #[G O 0,G O 0,G O 0] 35 (0,0)));have aY:BW w8.heap.size w8 W9:=by rw[bf];exact Bn
 obtain⟨q8,bK⟩:=Ex (w8.heap.size);have a1:=Ae aY a0.out (Ab a0.out);have aR:=bd.drop aY;have kj:=Am5 aR (k:=2) (jp:=yr) (by rw[af.out];rfl) 3 rfl;rw[<-aO.out]at kj;rw[<-bf,<-bK];clear bf bK;replace⟨aY,a1,aR,kj⟩:=H4 aY a1 aR kj;go_wp2_with fail;refine kj.mono ?_;rintro e j ⟨y,rfl,hy,z⟩;have al:=Ae z a1.out (Ab a1.out);have o:=aR.drop z;have ys:y.pl.start=14:=by rw[hy];rfl
 have bE:y.pl.lf.st=1:=by rw[hy];rfl
 have aF:(j.alloc (V Jz 46 (0,0))).heap[j.heap.size]?=Z (V ar.zero.cells 46 (0,0)):=Ah _ _;replace⟨al,o,z,hy,ys,bE,aF⟩:=H7 al o z hy ys bE aF;go_upto_region 10 with(refine Od rfl 46 _ _ rfl j.heap.size y.cells rfl rfl 46 _ aF.out Kz rfl (Ru y) ?_);obtain⟨bG,hW⟩:=Ex ((j.alloc (V Jz 46 (0,0))).setRow j.heap.size y.cells);obtain⟨jb,m⟩:=Ex (j.heap.size);have b:BW j.heap.size j bG:=by rw[hW];exact Rt Bn Ln _
 have a:bG.heap[jb]?=Z (V y.cells 46 (0,0)):=by rw[hW,m];exact Nj _ _ _ _ 46 (0,0) aF.out
 have n:¬T8.az jb:=λc=>by have:=o.tab.oi c;omega
 rw[<-hW,<-m];clear hW m;have am:=Ae b al.out (Ab al.out);have p:=o.drop b;have f:=Z3 ⟨⟨7,0,0,0,0,1,1,0,1⟩,I,0,0,[]⟩ p (Aed _ _ (λi=>by unfold dh.get;split<;>simp)) (λW' _=>Aee W') (λc=>absurd c ad9) (t':=Aet) (c:=⟨0,0,0,0⟩) (r:=0) (by rw[bx.out,af.out];exact λ_=>A4a);rw[<-aO.out]at f;clear b;replace⟨am,p,a,f,n⟩:=H5 am p a f n;go_wp2_with fail;refine f.mono ?_;rintro e a8 ⟨bF,rfl,aI,d,v⟩;have an:=v.mod.aw am.out (p.tab.off am.out ad9 ad9 ad9 ad9 ad9);have aB:=v.mod.aw a.out n.out;have aA:tb=bF.tb:=by rw[v.tb];exact aO.out
 clear v;replace⟨aI,d,an,aB,aA⟩:=H5 aI d an aB aA;go_upto_region 11 with fail;obtain⟨bO,aJ⟩:=Ex (a8.alloc (V #[G O 0,G O 0,G O 0] 35 (0,0)));have g:BW a8.heap.size a8 bO:=by rw[aJ];exact Bn
 obtain⟨bS,a9⟩:=Ex (a8.heap.size);have ao:=Ae g an.out (Ab an.out);have aC:=Ae g aB.out (Ab aB.out);have q:=aI.drop g;have kj:=Am5 q (k:=0) (jp:=awD) (by rw[d.out];rfl) 1 rfl;rw[<-aA.out]at kj;rw[<-aJ,<-a9];clear aJ a9;replace⟨g,ao,aC,q,kj⟩:=H5 g ao aC q kj;go_wp2_with fail;refine kj.mono ?_;rintro e l ⟨y2,rfl,bC,h⟩;have ap:=Ae h ao.out (Ab ao.out);have aD:=Ae h aC.out (Ab aC.out);have s:=q.drop h;have aG:(l.alloc (V Jz 46 (0,0))).heap[l.heap.size]?=Z (V ar.zero.cells 46 (0,0)):=Ah _ _;replace⟨ap,aD,s,h,bC,aG⟩:=H6 ap aD s h bC aG;go_upto_region 12 with(refine Od rfl 46 _ _ rfl l.heap.size y2.cells rfl rfl 46 _ aG.out Kz rfl (Ru y2) ?_);replace a:=a;clear a n;obtain⟨aH,hW⟩:=Ex ((l.alloc (V Jz 46 (0,0))).setRow l.heap.size y2.cells);obtain⟨bD,m⟩:=Ex (l.heap.size);have b:BW l.heap.size l aH:=by rw[hW];exact Rt Bn Ln _
 have a:aH.heap[bD]?=Z (V y2.cells 46 (0,0)):=by rw[hW,m];exact Nj _ _ _ _ 46 (0,0) aG.out
 have n:¬bF.az bD:=λc=>by have:=s.tab.oi c;omega
 rw[<-hW,<-m];clear hW m;have aN:=Ae b ap.out (Ab ap.out);have aE:=Ae b aD.out (Ab aD.out);have u:=s.drop b;obtain⟨b0,b1,b2⟩:=C3 aN;(try dsimp only at b0 b1 b2);have b3:aH.cell? ⟨jb,19,I⟩=Z (G O 14):=by rw[<-ys.out];exact Aa aE 19
 have b4:aH.cell? ⟨jb,14,I⟩=Z (G O 1):=by rw[<-bE.out];exact Aa aE 14
 have b5:aH.cell? ⟨bD,14,I⟩=Z (G O 5):=by
  have e:y2.pl.lf.st=5:=by rw[bC.out];rfl
  rw[<-e];exact Aa a 14
 have kb:=A1p u 0;rw[d.out,<-aA.out,A4b]at kb;have ac:=aX.trans (u.low.mono aX.size);replace⟨b,aN,aE,u,a,kb,n,ac⟩:=H8 b aN aE u a kb n ac
 have hq:∀W:WD,(Op.equalIn 10000 30 (.agg #[G O 1,G O 0,G O 0,G O 0]) (.agg #[G O 1,G O 0,G O 0,G O 0])).run prog W=.ok true W:=λW=>by
  have:=Agf ⟨1,0,0,0⟩ ⟨1,0,0,0⟩ W;simpa using this
 go_wp2_with (go_at_call 17;(with_reducible refine(kb.out).mono ?_);rintro e bT ⟨rfl,aK⟩;replace aK:=Hh aK);go_ret;exact⟨rfl,ac.trans (aK.mono ac.size)⟩
