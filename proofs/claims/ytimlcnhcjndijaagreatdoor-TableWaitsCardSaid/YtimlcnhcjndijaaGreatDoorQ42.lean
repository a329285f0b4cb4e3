/- Parts Psw, Gdt, Apq, Ply, Aw1, Aw2, Aw3. Plain theorems: no condition. -/
import Derived.Test.YtimlcnhcjndijaaGreatDoorQ41
set_option linter.all false
set_option maxRecDepth 100000
set_option maxHeartbeats 12800000
namespace Go.Proofs.YtimlcnhcjndijaaGreatDoor
open Go.RowKit Go.Maps Go.Lib
def Av0 (t:Int) (j:Jb):(If t j).sp=j.sp/\(If t j).aj=j.aj:=by
 unfold If;split
 .exact Aad j _
 .exact ⟨rfl,rfl⟩
def Ahy {vs:List ax} {n k:Nat} {j:Jb} (h:Fd vs n k j):Z8 j:=by
 obtain ⟨_,_,_,_,_,c,_⟩:=Iu (Kn h.ga);obtain ⟨a,b⟩:=Ib.1 c;have a:1<=j.sp.wall:=a;have b:j.sp.wall<=1000:=b;refine ⟨h.low,?_,by omega,by omega⟩;by_cases q:0<=j.start
 .have:=(h.aj q).2;unfold L1 at this;omega
 .omega
def Av1 {a:List Bool} {k:Nat} {b:Bool} (c:a[k]?=some b):((a.take k).map Value.bool++List.replicate (a.length-k) (Value.bool false)).set k (.bool b)=(a.take (k+1)).map Value.bool++List.replicate (a.length-(k+1)) (Value.bool false):=by
 have f:=(Aq.1 c).1;have d:a.length-k=(a.length-(k+1))+1:=by omega
 have e:((a.take k).map Value.bool).length=k:=by simp;omega
 rw [d,List.replicate_succ,Pl.Ql c,Ds,List.set_append_right _ _ (by omega),e];simp
structure px (w5:World) (vs:List Value) (wr:World):Prop where
 low:Below w5.heap.size w5 wr
 box:wr.heap[w5.heap.size]?=some (.cells vs.toArray 4 (0,0))
def px.drop {a wr w':World} {vs:List Value} (h:px a vs wr) (b:Below wr.heap.size wr w'):px a vs w':=
 ⟨h.low.trans (b.mono h.low.size),(Mod.af (S:=fun _=>False) b).aq h.box (fun c=>c)⟩
def px.put {a wr:World} {vs:List Value} (h:px a vs wr) (k:Nat) (v:Value):px a (vs.set k v) (wr.setCell ⟨a.heap.size,k,none⟩ v):=
 ⟨h.low.setCell Ln _,by rw [Al h.box k v];simp⟩
def px.done {b wr:World} {a:List Bool} (h:px b (a.map Value.bool) wr) (d:a.length<=1000000):Pl.Mf wr (some ⟨b.heap.size,0,none⟩) a.length a:=by
 refine ⟨rfl,by omega,fun i c=>⟨_,0,rfl,Ab h.box,?_⟩⟩;rw [D2,Aa h.box i];simp [Pl.bi,List.getD,c]
def Ahz {vs:List ax} {n k:Nat} {j:Jb} (h:Fd vs n k j):j.parts.length<=1000:=by
 by_cases e:j.parts=[]
 .rw [e];simp
 .have h1:=Ca List.length (h.pg e);rw [Ax] at h1;have b:=h.run (h.live.2 e);have d:=(h.aj b).1.len;obtain ⟨_,_,_,_,c,_⟩:=Iu (Kn h.ga);obtain ⟨_,a⟩:=Ib.1 c;have a:j.sp.nodes<=16:=a;omega
def Av2 {w:World} {T:Tv} (kd ep d cl sq jn an nn hw:Int) (so:Option Addr) (sn sc:Nat) (cq:List au) (h:An w T) (hA:Dm T.vs T.pl.ab) (eu:T.js.length<=20) :
  Calls Tryz.prog 83 #[.pointer (some ⟨T.tb,0,none⟩),(⟨⟨kd,ep,d,cl,sq,jn,an,nn,hw⟩,so,sn,sc,cq⟩:cu).val] w (fun e w'=>Pe w T (Od T.vs T.pl d) ⟨0,0,0,0⟩ e w'/\Mo T.vs d (nf { T.pl with tick:=d }) (Cc d T.pl.ab)):=by
 obtain ⟨x,hx⟩:∃ x:cu,x=⟨⟨kd,ep,d,cl,sq,jn,an,nn,hw⟩,so,sn,sc,cq⟩:=⟨_,rfl⟩;have aD:=Ci.new h ⟨⟨kd,ep,d,cl,sq,jn,an,nn,hw⟩,so,sn,sc,cq⟩;obtain ⟨W0,c7⟩:=Ex ((w.alloc (.cells (⟨⟨kd,ep,d,cl,sq,jn,an,nn,hw⟩,so,sn,sc,cq⟩:cu).cells 40 (0,0))).alloc (.cells #[.int .i64 0,.int .i64 0,.int .i64 0] 35 (0,0)));rw [<- c7] at aD;obtain ⟨cp,bH,bw,cW,c8,_⟩:=h.l8;obtain ⟨tb,ht⟩:=Ex (T.tb);obtain ⟨mj,aL⟩:=Ex (T.js.length);rw [<- ht];have hd:W0.heap[tb]?=some (.cells #[.int .i64 T.ah,.int .i64 T.tick,.map (some T.mb),T.nv,T.jv,.pointer (some ⟨T.fb,0,none⟩),T.cv] 115 (0,0)):=by rw [ht];exact aD.tab.at_.head
 have c1:=Bk hd 1 (.int .i64 T.tick) rfl;have f1:=Ah hd 1;have e2:=Bk aD.box 2 (.int .i64 d) rfl;obtain ⟨t,f⟩:∃ t:Tv,t={ T with tick:=d }:=⟨_,rfl⟩
 have bI:Ci w t ⟨⟨kd,ep,d,cl,sq,jn,an,nn,hw⟩,so,sn,sc,cq⟩ t.js (W0.setCell ⟨tb,1,none⟩ (.int .i64 d)):=by
  rw [f];have hm:Mod (fun k=>k=T.tb) W0 (W0.setCell ⟨tb,1,none⟩ (.int .i64 d)):=Mod.setCell _ _ _ _ ht
  have eP:=aD.tab.at_.nh (w':=W0.setCell ⟨tb,1,none⟩ (.int .i64 d)) T.ah d hm (by
   show (W0.setCell ⟨tb,1,none⟩ (.int .i64 d)).heap[T.tb]?=_;rw [<- ht,Al hd]
   rfl)
  have c9:Mod T.ay W0 (W0.setCell ⟨tb,1,none⟩ (.int .i64 d)):=hm.mono fun k _ e=>by rw [e];exact .inl rfl
  exact ⟨⟨eP,rfl,fun b c=>.inl c,aD.tab.mod.trans c9,aD.tab.kp⟩,c9.aq aD.box (aD.tab.at_.off aD.box (by decide) (by decide) (by decide) (by decide) (by decide)),c9.aq aD.res (aD.tab.at_.off aD.res (by decide) (by decide) (by decide) (by decide) (by decide))⟩
 have bJ:D6 t.pl.ab:=by rw [f];exact hA.b.ju
 have da:t.pl.ab.length=mj:=by rw [aL,f];simp [Tv.pl]
 have db:Dm t.vs t.pl.ab:=by rw [f];exact hA
 rw [aL.symm] at c8 eu
 have row:∀ (js:List (Nat×ai)) (W:World),Ci w t ⟨⟨kd,ep,d,cl,sq,jn,an,nn,hw⟩,so,sn,sc,cq⟩ js W->∀ k,k<mj->∃ g j,cp=some ⟨g,0,none⟩/\js[k]?=some j/\W.cell? ⟨g,k,none⟩=some (.pointer (some ⟨j.1,0,none⟩)):=fun js W hW k hk=>by
  have hl:js.length=mj:=by rw [aL,hW.tab.len,f]
  obtain ⟨j,hj⟩:∃ j,js[k]?=some j:=⟨_,Am (by omega)⟩;obtain ⟨eQ,ev,e1,_,_,hr⟩:=hW.tab.at_.l8;obtain ⟨g,e2,hc⟩:=hr k j hj;have e3:T.jv=.slice eQ js.length ev:=by rw [<- e1,f]
  rw [bw] at e3;injection e3 with e3 _ _;exact ⟨g,j,e3.trans e2,hj,hc⟩
 have bK:∀ (js:List (Nat×ai)) (W:World),Ci w t ⟨⟨kd,ep,d,cl,sq,jn,an,nn,hw⟩,so,sn,sc,cq⟩ js W->W.cell? ⟨tb,1,none⟩=some (.int .i64 d)/\W.cell? ⟨tb,4,none⟩=some (.slice cp mj bH):=fun js W hW=>by
  have e1:({ t with js:=js }:Tv).tb=tb:=by rw [f,ht]
  have:=hW.tab.at_.head;rw [e1] at this;refine ⟨?_,?_⟩
  .rw [Aa this 1,f];rfl
  .rw [Aa this 4,aL,<- bw,f];rfl
 clear hx x;replace ⟨h,hA,aD,bI,ht,aL,bw,cW⟩:=H8 h hA aD bI ht aL bw cW;replace ⟨hd,f,bJ,da,db,row,bK⟩:=H7 hd f bJ da db row bK;go_enter Tryz.func83,Tryz.ntmps83;go_upto_region 1 with fail;rw [<- c7];clear c7;go_upto_region 2 with fail;obtain ⟨W1,aV⟩:=Ex (W0.setCell ⟨tb,1,none⟩ (.int .i64 d));rw [<- aV] at bI;rw [<- aV];clear aV c1 f1 e2;obtain ⟨_,c4⟩:=bK.out _ _ bI.out;have dc:t.js.map (fun j=>j.2.pl)=D7 (If d) t.pl.ab 0:=rfl;replace dc:=Hh dc;go_wp2_with fail;clear c4;go_loopw [6,33] (fun _ i2 wr=>∃ (k:Nat) (js:List (Nat×ai)),i2=.int .i64 k/\k<=mj/\Hid (Ci w t ⟨⟨kd,ep,d,cl,sq,jn,an,nn,hw⟩,so,sn,sc,cq⟩ js wr)/\Hid (js.map (fun j=>j.2.pl)=D7 (If d) t.pl.ab k)) (fun _ i2 _=>mj-(intOf i2).toNat)
 case atStart=>exact ⟨0,t.js,rfl,Av _,bI,dc⟩
 case round=>
  obtain ⟨k,js,rfl,hk,hE,hX⟩:=hrel;by_cases hc:k<mj
  .have ba:(k:Int)<mj:=(by omega);have eR:(0:Int)<=(k:Int):=(by omega);obtain ⟨g2,j,rfl,hj,cr⟩:=row.out _ _ hE.out k hc;obtain ⟨jb,jx⟩:=j;obtain ⟨aR,bL⟩:=hE.out.tab.get hj;obtain ⟨c1,_⟩:=bK.out _ _ hE.out
   have dd:t.pl.ab[k]?=some jx.pl:=by
    have e1:(js.map (fun j=>j.2.pl))[k]?=some jx.pl:=(by simp [hj]);rw [hX.out,Y2,Ac (by omega)] at e1;exact e1
   have dg:=Ahy (db.out.b k _ dd);have dk:=Bk aR 14 (.int .i64 jx.pl.lf.st) rfl;have kl:=fun n=>P8 jx.pl.lf.st (wr.drewN n);have kt:=fun n=>Agd (w:=wr.drewN n) (b:=jb) (x:=jx) (show (wr.drewN n).heap[jb]?=_ from aR) dg
   have bf:∀ y:ai,y.pl=If d jx.pl->(js.set k (jb,y)).map (fun j=>j.2.pl)=D7 (If d) t.pl.ab (k+1):=fun y hy=>by
    rw [M9 js hj hy,hX.out];rfl
   have aS:If d jx.pl=jx.pl->js.map (fun j=>j.2.pl)=D7 (If d) t.pl.ab (k+1):=fun e=>by
    have:=bf jx e.symm
    rwa [Wq hj] at this
   obtain ⟨st,aH⟩:=Ex (jx.pl.lf.st);obtain ⟨lt,bM⟩:=Ex (L1 jx.pl);obtain ⟨q,hq⟩:=Ex (df jx.pl.lf.st);rw [<- hq] at kl;rw [<- aH] at kl dk;rw [<- bM] at kt;replace ⟨hj,aR,bL,dd,dg,kl,kt,bf⟩:=H8 hj aR bL dd dg kl kt bf;replace ⟨aS,aH,bM,hq⟩:=H4 aS aH bM hq;go_upto_region 5 with fail
   cases q with
   | false=>
    have am:=aS.out (by unfold If Jb.live;rw [<- hq.out];simp);replace am:=Hh am;go_quiet ((first | (go_at_call 131;(with_reducible exact Kt (kl.out _)))));rename_i nq;have aJ:=hE.out.low (A8 _ wr nq);replace aJ:=Hh aJ;go_wp2_with fail;go_roundw
    case rel=>exact ⟨k+1,_,by go_num,by omega,aJ.out,am.out⟩
    case measure=>simp [intOf];omega
   | true=>
    by_cases hl:lt<=d
    .have eS:=Az hl;have dl:If d jx.pl=Fj jx.pl (-1):=(by unfold If Jb.live;rw [Ad ⟨hq.out.symm,by rw [<- bM.out];exact hl⟩]);replace dl:=Hh dl;go_quiet ((first | (go_at_call 131;(with_reducible exact Kt (kl.out _))) | (go_at_call 132;(with_reducible exact Calls.quiet_of (kt.out _)))));rename_i nq;have aJ:=hE.out.low (A8 _ wr nq);obtain ⟨aB,aW⟩:=aJ.tab.get hj.out;have ds:=Ada aB aW.parts (-1);replace ⟨aJ,ds⟩:=H2 aJ ds;go_wp2_with fail;refine ds.out.mono ?_;rintro e w3 ⟨rfl,hG⟩;have dw:=aJ.out.de hj.out hG.mod hG.box hG.parts (Agp jx (-1));have aK:=bf.out (jx.bu (Fj jx.pl (-1))) dl.out.symm;clear hG;replace ⟨dw,aK⟩:=H2 dw aK;go_wp2;go_roundw
     case rel=>exact ⟨k+1,_,by go_num,by omega,dw.out,aK.out⟩
     case measure=>simp [intOf];omega
    .have eS:=Aw hl
     have am:=aS.out (by
      unfold If
      rw [Ac (fun h=>hl (by rw [bM.out];exact h.2))])
     replace am:=Hh am;go_quiet ((first | (go_at_call 131;(with_reducible exact Kt (kl.out _))) | (go_at_call 132;(with_reducible exact Calls.quiet_of (kt.out _)))));rename_i nq;have aJ:=hE.out.low (A8 _ wr nq);replace aJ:=Hh aJ;go_wp2_with fail;go_roundw
     case rel=>exact ⟨k+1,_,by go_num,by omega,aJ.out,am.out⟩
     case measure=>simp [intOf];omega
  .have ba:¬ (k:Int)<mj:=(by omega);have bN:k=mj:=(by omega);have am:=hX.out;rw [bN,<- da.out,R1] at am;obtain ⟨X2,aX⟩:=Ex (t.pl.ab.map (If d));rw [<- aX] at am;have bO:D6 X2:=by rw [aX,<- R1];exact Qa bJ.out (Vx _ (fun j=>(Av0 d j).1) _ _)
   have aH:Calls Tryz.prog 134 #[.pointer (some ⟨tb,0,none⟩)] wr (Kf wr { t with js:=js } (Is X2)):=by
    have:=Y3 (T:={ t with js:=js }) hE.out.tab.at_ (by
     show D6 (js.map fun j=>j.2.pl)
     rw [am];exact bO)
    rw [show ({ t with js:=js }:Tv).pl.ab=X2 from am] at this;rw [show tb=({ t with js:=js }:Tv).tb from by rw [ht.out,f.out]];exact this
   have dA:Is X2=Cc d T.pl.ab:=(by rw [aX,f.out];rfl);replace ⟨am,aX,bO,aH,bN,dA⟩:=H6 am aX bO aH bN dA;go_upto_region 8 with fail;go_wp2_with fail;refine aH.out.mono ?_;rintro e w4 ⟨rfl,ap,ew,aT⟩
   have bP:=hE.out.then ew
   rw [dA.out] at aT;clear ew;replace ⟨aT,bP⟩:=H2 aT bP;go_upto_region 9 with fail;have bx:=Agt hA.out d;have bQ:ap.length=mj:=(by rw [aL.out,bP.out.tab.len,f.out]);have bg:=bP.out.tab.at_
   have cs:∀ j,j∈ap->∃ k,(Cc d T.pl.ab)[k]?=some j.2.pl:=fun j hj=>by
    obtain ⟨k,hk⟩:=Dr hj;have e1:(ap.map (fun j=>j.2.pl))[k]?=some j.2.pl:=(by simp [hk]);exact ⟨k,by rw [<- aT.out];exact e1⟩
   have dB:Calls Tryz.prog 135 #[.pointer (some ⟨tb,0,none⟩)] w4 (Z9 w4 (Cc d T.pl.ab)):=by
    have:=Asv (T:={ t with js:=ap }) bg (fun j hj=>by
     obtain ⟨k,hk⟩:=cs j hj
     exact Ahy (bx.b k _ hk)) (by show ap.length<=1000;omega) (fun j hj=>by
     obtain ⟨k,hk⟩:=cs j hj;have e1:=Ahz (bx.b k _ hk);have e2:=J8 (bg.ok j hj).parts;rw [e2] at e1
     exact e1)
    rw [show ({ t with js:=ap }:Tv).pl.ab=Cc d T.pl.ab from aT.out] at this;rw [show tb=({ t with js:=ap }:Tv).tb from by rw [ht.out,f.out]];exact this
   replace ⟨bx,bQ,bg,cs,dB⟩:=H5 bx bQ bg cs dB;go_wp2_with fail;refine dB.out.mono ?_;rintro e w5 ⟨ho,eT,uo,uc,hs,rfl,dC,dD,dE,dF⟩;have bR:=bP.out.low dF;replace ⟨dC,dD,dE,bR,dF⟩:=H5 dC dD dE bR dF;go_upto_region 10 with fail;obtain ⟨bs,bA⟩:∃ bs,bs=nf { T.pl with tick:=d }:=⟨_,rfl⟩;obtain ⟨mn,bb⟩:=Ex (T.nodes.length);have aY:bs.length=mn:=(by rw [bA,bb];simp [nf,Tv.pl]);have ad:=bR.out.tab.at_;have fl:mn<=16:=by have e1:=ad.same;have e2:=ad.dj.ok.len;rw [f.out] at e1 e2;rw [bb];exact e1▸e2
   have eU:∃ so cap,T.nv=.slice so mn cap/\(0<mn->∃ g,so=some ⟨g,0,none⟩):=by
    have hr:=ad.nodes;rw [f.out] at hr;rw [bb];rcases hr.2 with ⟨e,h0⟩ | ⟨g,cap,eV,e,_,_,h1,h2,_⟩
    .have h0:T.nodes.length=0:=h0;exact ⟨none,0,by rw [h0];exact e,fun c=>by omega⟩
    .exact ⟨_,_,e,fun _=>⟨_,rfl⟩⟩
   obtain ⟨ex,bS,bT,dG⟩:=eU;have aP:w5.heap[tb]?=some (.cells #[.int .i64 T.ah,.int .i64 d,.map (some T.mb),.slice ex mn bS,T.jv,.pointer (some ⟨T.fb,0,none⟩),T.cv] 115 (0,0)):=(by have:=ad.head;rw [f.out] at this;rw [ht.out,<- bT];exact this);have ct:=Ab aP;have n1:=Bk aP 1 (.int .i64 d) rfl;have n3:=Bk aP 3 (.slice ex mn bS) rfl;have eW:=Pl.Afa mn (by omega) w5;obtain ⟨W6,bU⟩:=Ex (w5.alloc (.cells (Array.replicate mn (.bool false)) 4 (0,0)))
   have cw:px w5 ((bs.take 0).map Value.bool++List.replicate (mn-0) (.bool false)) W6:=
    ⟨by rw [bU];exact Bn,by rw [bU];simpa using Af _ _⟩
   rw [<- bU] at eW;have eX:=(Ag cw.low ct).trans n3;replace ⟨bA,bb,aY,ad,bT,dG,aP,cw⟩:=H8 bA bb aY ad bT dG aP cw;replace bU:=Hh bU;go_wp2_with fail;go_upto_region 11 with fail;clear eX;go_loopw [10,11,76] (fun _ _ i2 wr=>∃ k:Nat,i2=.int .i64 k/\k<=mn/\Hid (px w5 ((bs.take k).map Value.bool++List.replicate (mn-k) (.bool false)) wr)) (fun _ _ i2 _=>mn-(intOf i2).toNat)
   case atStart=>exact ⟨0,rfl,Av _,cw⟩
   case round=>
    obtain ⟨k,rfl,hk,hU⟩:=hrel;by_cases hc:k<mn
    .have ba:(k:Int)<mn:=(by omega);have eR:(0:Int)<=(k:Int):=(by omega);obtain ⟨ng,rfl⟩:=dG.out (by omega);obtain ⟨nd,cx⟩:∃ n,T.nodes[k]?=some n:=⟨_,Am (by have:=bb.out;omega)⟩;have dH:=fun h2=>ad.out.oy (i:=k) (n:=nd) (by rw [f.out];exact cx) (g:=ng) (cap:=bS) h2
     obtain ⟨q0,q1,q2,_⟩:=dH (by
      rw [f.out];show T.nv=_
      rw [bT.out,bb.out])
     have dI:bs[k]?=some (nd.up && !nd.bo && decide (nd.since<d)):=(by rw [bA.out];simp [nf,Tv.pl,cx]);obtain ⟨up,dr,si⟩:=nd
     have bV:=(Rd ad.out.nodes ng (by
      rw [f.out];show T.nv.ownBlock=_
      rw [bT.out];rfl)).2
     have q0:=(Ag hU.out.low bV).trans q0;have q1:=(Ag hU.out.low bV).trans q1;have q2:=(Ag hU.out.low bV).trans q2;replace ⟨cx,dI,dH⟩:=H3 cx dI dH;go_upto_region 14 with fail;have bc:=hU.out.drop ((Below.refl wr.heap.size wr).alloc Ln (.cells #[.bool up,.bool dr,.int .i64 si] 119 (0,0)));have cy:(wr.alloc (.cells #[.bool up,.bool dr,.int .i64 si] 119 (0,0))).heap[wr.heap.size]?=some (.cells #[.bool up,.bool dr,.int .i64 si] 119 (0,0)):=Af _ _;have ey:=(Ag bc.low ct).trans n1
     have aM:∀ n b,(up && !dr && decide (si<d))=b->Hid (px w5 ((bs.take (k+1)).map Value.bool++List.replicate (mn-(k+1)) (.bool false)) (((wr.alloc (.cells #[.bool up,.bool dr,.int .i64 si] 119 (0,0))).drewN n).setCell ⟨w5.heap.size,k,none⟩ (.bool b))):=fun n b hb=>by
      have h1:=(bc.drop (A8 _ _ n)).put k (.bool b);rw [<- aY.out,Av1 (by rw [dI.out];exact Ca some hb),aY.out] at h1;exact Hh h1
     obtain ⟨W7,cA⟩:=Ex (wr.alloc (.cells #[.bool up,.bool dr,.int .i64 si] 119 (0,0)));rw [<- cA] at bc cy ey aM;rw [<- cA];obtain ⟨z0,z1,z2⟩:=C3 cy;(try dsimp only at z0 z1 z2);have kf:=Ah bc.box k
     have kc:W7.cell? ⟨w5.heap.size,k,none⟩=some (.bool false):=by
      rw [Aa bc.box k];have e2:((bs.take k).map Value.bool).length=k:=(by have:=aY.out;simp;omega);rw [Lo,G5 (by omega),e2,Nat.sub_self,List.getElem?_replicate,Ad (by omega)]
     clear q0 q1 q2;replace ⟨bc,cy,aM,cA⟩:=H4 bc cy aM cA
     cases up with
     | false=>
      have hp:=fun n=>aM.out n false rfl;replace hp:=Hh hp;go_region
      all_goals
       go_wp2;go_roundw
       case rel=>exact ⟨k+1,by go_num,by omega,hp.out _⟩
       case measure=>simp [intOf];omega
     | true=>
      cases dr with
      | true=>
       have hp:=fun n=>aM.out n false rfl;replace hp:=Hh hp;go_region
       all_goals
        go_wp2;go_roundw
        case rel=>exact ⟨k+1,by go_num,by omega,hp.out _⟩
        case measure=>simp [intOf];omega
      | false=>
       by_cases hs:si<d
       .have dJ:=Az hs;have hp:=fun n=>aM.out n true (by rw [dJ];rfl);replace hp:=Hh hp;go_region
        all_goals
         go_wp2;go_roundw
         case rel=>exact ⟨k+1,by go_num,by omega,hp.out _⟩
         case measure=>simp [intOf];omega
       .have dJ:=Aw hs;have hp:=fun n=>aM.out n false (by rw [dJ];rfl);replace hp:=Hh hp;go_region
        all_goals
         go_wp2;go_roundw
         case rel=>exact ⟨k+1,by go_num,by omega,hp.out _⟩
         case measure=>simp [intOf];omega
    .have ba:¬ (k:Int)<mn:=(by omega);have eY:k=mn:=(by omega);subst eY;have bW:Pl.Mf wr (some ⟨w5.heap.size,0,none⟩) k bs:=(by have h1:=hU.out;rw [Nat.sub_self,List.replicate_zero,Ps,Dn (by rw [aY.out];exact Nat.le_refl _)] at h1;have h2:=h1.done (by have:=aY.out;omega);rw [aY.out] at h2;exact h2);replace bW:=Hh bW
     obtain ⟨cB,vn,dK,bB⟩:∃ so n cap,T.cv=.slice so n cap/\n=T.vs.length:=by
      have hr:=ad.out.aw;rw [f.out] at hr;rcases hr.2 with ⟨e,h0⟩ | ⟨g,cap,eV,e,_,_,h1,h2,_⟩
      .exact ⟨none,0,0,e,h0.symm⟩
      .exact ⟨_,_,_,e,rfl⟩
     have bX:∀ W',Below w5.heap.size w5 W'->W'.cell? ⟨tb,1,none⟩=some (.int .i64 d)/\W'.cell? ⟨tb,6,none⟩=some (.slice cB vn dK):=fun W' hb=>by
      refine ⟨(Ag hb ct).trans n1,(Ag hb ct).trans ?_⟩;rw [<- bB.1];exact Aa aP.out 6
     have dL:∀ W',Below w5.heap.size w5 W'->Calls Tryz.prog 137 #[.pointer (some ⟨tb,0,none⟩),.slice uo (C8 (Cc d T.pl.ab)).length uc] W' (Aap T.vs W' (Cc d T.pl.ab)):=fun W' hb=>by
      have e1:({ t with js:=ap }:Tv).pl.ab=Cc d T.pl.ab:=aT.out
      have h2:=Avr (T:={ t with js:=ap }) (ad.out.low hb) (by
       rw [e1,f.out]
       exact bx.out.b) (by show ap.length<=20;have:=bQ.out;omega) uo (C8 (Cc d T.pl.ab)).length uc (by rw [e1];exact dE.out.low hb)
      rw [e1] at h2;rw [f.out] at h2;rw [show tb=T.tb from ht.out];exact h2
     have aE:=hU.out.low;have dM:Pl.N9 w5 cB vn (T.vs.map ax.cap):=by have hr:=ad.out.aw;have hl:=ad.out.dj.ok.len;rw [f.out] at hr hl;have hl:T.vs.length<=16:=hl;have hr:w5.ownsRow 0 30 4 T.cv T.vs.length (Ar V4.cells (T.vs.map ax.cap)):=hr;rw [bB.1,show T.vs.length=(T.vs.map ax.cap).length by simp] at hr;exact Avs hr (by rw [bB.2];simp) (by rw [bB.2];omega)
     have dN:∀ (W':World) (ao:Option Addr) (l lc:Nat) (al:List Pl.Ask),Below wr.heap.size wr W'->Pl.We W' ao l al->al.map Pl.Ask.er=Dk T.vs (Cc d T.pl.ab)->l<=1000000->Calls Tryz.prog 136 #[.slice cB vn dK,.slice (some ⟨w5.heap.size,0,none⟩) k k,.int .i64 d,.slice ho hs.length eT,.slice ao l lc] W' (fun e w'=>∃ v rv,e=.returned (.tuple #[v,rv])/\xo w5 T.vs d bs (Cc d T.pl.ab) v rv w'):=fun W' ao l lc al hb ha he hl=>
      Avu dM dD.out (aE.trans (hb.mono aE.size)) (bW.below hb Ln) ha he hl (Pl.Mh.below dC.out (aE.trans (hb.mono aE.size)) (fun _ q=>q.below (aE.trans (hb.mono aE.size))))
     have bY:∀ al:List Pl.Ask,al.map Pl.Ask.er=Dk T.vs (Cc d T.pl.ab)->al.length<=1000000:=fun al he=>by
      have h1:=Ca List.length he;rw [Ax] at h1;have h2:=Avt T.vs (Cc d T.pl.ab);have h3:(Cc d T.pl.ab).length=ap.length:=(by rw [<- aT.out];simp);have h4:=bQ.out;omega
     have aF:Below wr.heap.size wr wr.drew:=(Below.refl _ _).drew;replace ⟨bW,bX,dL,aE,bB,dM,dN,bY⟩:=H8 bW bX dL aE bB dM dN bY;replace aF:=Hh aF;go_wp2_with fail;go_cut [12,13] (fun v rv wx=>xo w5 T.vs d bs (Cc d T.pl.ab) v rv wx)
     case first=>
      go_region_held3 (fun W'=>W'.cell? ⟨tb,1,none⟩=some (.int .i64 d)/\W'.cell? ⟨tb,6,none⟩=some (.slice cB vn dK))
       (first
         | with_reducible exact bX.out _ (aE.out.trans (aF.out.mono aE.out.size))
         | exact bX.out _ (aE.out.trans (aF.out.mono aE.out.size)).drew
         | exact bX.out _ cC.out.1.low)
       (first
         | (go_at_call 137
            (with_reducible refine (dL.out _ (aE.out.trans (aF.out.mono aE.out.size))).mono ?_)
            rintro e w6 ⟨ao,fv,fx,al,rfl,rfl,bZ,bi,ez⟩;replace aF:=Hh (aF.out.trans (ez.mono aF.out.size));have b0:=bY.out al bi;replace ⟨bZ,bi,b0⟩:=H3 bZ bi b0
            clear ez)
         | (go_at_call 136
            (with_reducible refine (dN.out _ _ _ _ _ aF.out bZ.out bi.out b0.out).mono ?_)
            rintro e w7 ⟨v7,fz,rfl,cC⟩
            replace cC:=Hh cC))
      go_wp2_with fail;go_meet
      case rel=>exact cC.out
     case rest=>
      obtain ⟨⟨fA,bC,fB,sr,dO,rfl,rfl,cD,b1,b2,cE,cF,dP⟩,dQ⟩:=hcut;have b3:=bR.out.low cF;obtain ⟨_,c4⟩:=bK.out _ _ b3;have dR:Bq wc { t with js:=ap } ap wc:=Bq.refl (T:={ t with js:=ap }) b3.tab.at_;have b4:ap.map (fun j=>j.2.pl)=D7 F4 (Cc d T.pl.ab) 0:=aT.out;have aZ:(Cc d T.pl.ab).length=mj:=(by rw [<- aT.out,<- bQ.out];simp);replace ⟨cD,b1,b2,cE,cF,dP,b3,dR⟩:=H8 cD b1 b2 cE cF dP b3 dR;replace ⟨b4,dQ,aZ⟩:=H3 b4 dQ aZ;go_wp2_with fail;clear c4;go_loopw [15,126] (fun _ i2 wr=>∃ (p:Nat) (js:List (Nat×ai)),i2=.int .i64 p/\p<=mj/\Hid (Bq wc { t with js:=ap } js wr)/\Hid (js.map (fun j=>j.2.pl)=D7 F4 (Cc d T.pl.ab) p)) (fun _ i2 _=>mj-(intOf i2).toNat)
      case atStart=>exact ⟨0,ap,rfl,Av _,dR,b4⟩
      case round=>
       obtain ⟨p,cG,rfl,hp,hJ,hX⟩:=hrel;by_cases hc:p<mj
       .have ba:(p:Int)<mj:=(by omega);have cH:(0:Int)<=(p:Int):=(by omega);obtain ⟨g2,j,rfl,hj,cr⟩:=row.out _ _ (b3.out.then hJ.out) p hc;obtain ⟨jb,jx⟩:=j;obtain ⟨aR,bL⟩:=hJ.out.get hj;have dk:=Bk aR 14 (.int .i64 jx.pl.lf.st) rfl
        have cI:∀ y:ai,y.pl=F4 jx.pl->(cG.set p (jb,y)).map (fun j=>j.2.pl)=D7 F4 (Cc d T.pl.ab) (p+1):=fun y hy=>by
         rw [M9 cG hj hy,hX.out];rfl
        have dS:=Vo aR;obtain ⟨st,aH⟩:=Ex (jx.pl.lf.st);rw [<- aH] at dk;replace ⟨hj,aR,bL,cI,dS,aH⟩:=H6 hj aR bL cI dS aH;by_cases q:st=1
        .have d1:=My.2 q;have aK:=cI.out jx.bare (by unfold F4;rw [Ad (aH.out.symm.trans q)];rfl);replace ⟨aK,q⟩:=H2 aK q;go_wp2_with fail;refine dS.out.mono ?_;rintro e w3 ⟨rfl,cX,bd⟩;have dT:=hJ.out.r9 hj.out bd cX (Vs jx) ⟨rfl,rfl,rfl,rfl⟩;clear cX bd;replace dT:=Hh dT;go_wp2;go_roundw
         case rel=>exact ⟨p+1,_,by go_num,by omega,dT,aK⟩
         case measure=>simp [intOf];omega
        .have d1:=Bg.2 q;have aK:=cI.out jx (by unfold F4;rw [Ac (fun c=>q (aH.out.trans c))]);rw [Wq hj.out] at aK;replace ⟨aK,q⟩:=H2 aK q;go_wp2_with fail;go_roundw
         case rel=>exact ⟨p+1,_,by go_num,by omega,hJ,aK⟩
         case measure=>simp [intOf];omega
       .have ba:¬ (p:Int)<mj:=(by omega);have eA:p=mj:=(by omega);have am:=hX.out;rw [eA,<- aZ.out,R1] at am;have dU:=mz.start bR.out cF.out hJ.out;obtain ⟨L,hL⟩:=Ex (Gj T.vs d bs (Cc d T.pl.ab));obtain ⟨Y,hY⟩:=Ex ((Cc d T.pl.ab).map F4);have dV:Y.length=mj:=(by rw [hY,Ax];exact aZ.out);have dW:cG.map (fun j=>j.2.pl)=Gh d (L.take 0) Y:=by rw [am,hY];rfl
        have b5:∀ (i:Nat) (x:Int×Int×List Int),L[i]?=some x->∃ (k:Nat) (j:Jb),(Cc d T.pl.ab)[k]?=some j/\x.1=(k:Int)+1/\j.lf.st=1/\j.parts=[]/\x.2.2.length<=16/\(Gh d (L.take i) Y)[k]?=some j.bare:=fun i x hx=>by
         rw [hL] at hx ⊢;rw [hY];obtain ⟨k,j,a1,a2,a3,a4,a5,_,a6⟩:=Avx bx.out.b d bs hx;exact ⟨k,j,a1,a2,a3,a4,a5,a6⟩
        rw [<- hL] at b1;have fm:=b2.out.max
        have bk:∀ (js:List (Nat×ai)) (W:World),An W { t with js:=js }->W.cell? ⟨tb,1,none⟩=some (.int .i64 d)/\W.cell? ⟨tb,4,none⟩=some (.slice cp mj bH):=fun js W hW=>by
         have:=hW.head;rw [f.out] at this;rw [ht.out];refine ⟨Aa this 1,?_⟩;rw [Aa this 4];show some T.jv=_;rw [bw.out,aL.out]
        have b6:t.jv=.slice cp mj bH:=(by rw [f.out,aL.out];exact bw.out);obtain ⟨iP,dX,dY,b7,b8⟩:=C0 Agy;clear hX am hJ eA;replace ⟨dU,hL,hY,dV,dW,b5,bk,b6⟩:=H8 dU hL hY dV dW b5 bk b6;replace ⟨dX,dY,b7,b8⟩:=H4 dX dY b7 b8;go_wp2_with fail;go_loopw [17,18,20,141,178] (fun _ _ _ i2 _ wr=>∃ (i:Nat) (js:List (Nat×ai)),i2=.int .i64 i/\i<=bC/\Hid (mz w w5 wc t js wr)/\Hid (js.map (fun j=>j.2.pl)=Gh d (L.take i) Y)) (fun _ _ _ i2 _ _=>bC-(intOf i2).toNat)
        case atStart=>exact ⟨0,cG,rfl,Av _,dU,dW⟩
        case round=>
         obtain ⟨i,aO,rfl,hi,hP,hX⟩:=hrel;by_cases hc:i<bC
         .have ba:(i:Int)<bC:=(by omega);have fC:(0:Int)<=(i:Int):=(by omega);obtain ⟨s,hs⟩:∃ s,dO[i]?=some s:=⟨_,Am (by have:=cD.out;omega)⟩;have b9:=Avv b2.out hP.out.low (fun b ca e c=>by have:=dP.out b ca e;omega) (fun s hs b ca e c=>by have:=cE.out s hs b ca e;omega);obtain ⟨sb,cb,e9,cY,cc,eB⟩:=b9.cell i s hs;subst e9;have cJ:L[i]?=some s.key:=(by rw [<- b1.out,Bx,hs];rfl);obtain ⟨k2,j0,dZ,d0,cZ,cH,a0,d2⟩:=b5.out i _ cJ;have bN:k2<mj:=(by have h1:=(Aq.1 dZ).1;have h2:=aZ.out;omega);have d3:aO.length=mj:=(by have:=Ca List.length hX.out;rw [Ax,Aar,dV.out] at this;exact this);have aI:Pl.Ap wc s.go s.gn s.dv/\s.gn<=s.gc:=(by obtain ⟨_,_,_,_,_,ho⟩:=b2.out.cell i _ hs;exact ⟨ho.aj,ho.oi⟩);have bl:=cE.out _ (Aj hs);obtain ⟨eZ,r,av,m,aA,o⟩:=s;have d0:eZ=(k2:Int)+1:=d0;subst d0;have a0:o.length<=16:=a0;have aI:Pl.Ap wc av m o/\m<=aA:=aI;have s0:wr.cell? ⟨sb,cb+i*3,none⟩=some (.int .i64 ((k2:Int)+1)):=cc 0 (by omega);have s1:wr.cell? ⟨sb,cb+i*3+1,none⟩=some (.int .i64 r):=cc 1 (by omega);have s2:wr.cell? ⟨sb,cb+i*3+2,none⟩=some (.slice av m aA):=cc 2 (by omega);replace ⟨hs,b9,cc,eB,cJ,dZ,cZ,cH⟩:=H8 hs b9 cc eB cJ dZ cZ cH;replace ⟨a0,d2,d3,aI,bl,cY⟩:=H6 a0 d2 d3 aI bl cY;go_upto_region 26 with fail;obtain ⟨nb,d4⟩:=Ex (wr.heap.size);obtain ⟨W1,aV⟩:=Ex (wr.alloc (.cells #[.int .i64 ((k2:Int)+1),.int .i64 r,.slice av m aA] 224 (0,0)));have d5:Below wr.heap.size wr W1:=(by rw [aV];exact Bn);have cK:W1.heap[nb]?=some (.cells #[.int .i64 ((k2:Int)+1),.int .i64 r,.slice av m aA] 224 (0,0)):=(by rw [aV,d4];exact Af _ _);rw [<- aV,<- d4];clear aV d4 s0 s1 s2;have cd:=hP.out.drop d5;obtain ⟨g2,j,e8,hj,cr⟩:=An.rowAt (T:=t) cd.tab.at_ b6.out d3.out bN;obtain ⟨jb,jx⟩:=j;subst e8;obtain ⟨_,c4⟩:=bk.out _ _ cd.tab.at_;have p0:=Bk cK 0 (.int .i64 ((k2:Int)+1)) rfl;have fD:IntKind.i64.wrap ((k2:Int)+1-1)=(k2:Int):=(by rw [Int.add_sub_cancel];exact F5 (by omega) (by omega));have fn:(0:Int)<=(k2:Int):=(by omega);have fo:(k2:Int)<mj:=(by omega);replace ⟨d5,cK,cd,hj⟩:=H4 d5 cK cd hj;go_quiet (fail);rename_i nq;have bD:=cd.out.drop (A8 _ W1 nq);have be:(W1.drewN nq).heap[nb]?=some (.cells #[.int .i64 ((k2:Int)+1),.int .i64 r,.slice av m aA] 224 (0,0)):=cK.out;obtain ⟨W2,eC⟩:=Ex (W1.drewN nq);rw [<- eC] at bD be ⊢;clear eC c4 cr p0;have aB:=bD.tab.at_.box _ (Aj hj.out);have aW:=bD.tab.at_.ok _ (Aj hj.out);have p1:=Bk be 1 (.int .i64 r) rfl;have p2:=Bk be 2 (.slice av m aA) rfl;have d6:∃ v,W2.cell? ⟨jb,19,none⟩=some v:=⟨_,Aa aB 19⟩;have d7:∃ v,W2.cell? ⟨jb,20,none⟩=some v:=⟨_,Aa aB 20⟩;obtain ⟨fE,d6⟩:=d6;obtain ⟨fF,d7⟩:=d7;have eD:=Ah aB
          have ce:nb≠jb:=fun e=>by
           have h1:W2.heap[jb]?=_:=aB;rw [<- e,be] at h1;injection h1 with h1;injection h1 with _ h1;exact absurd h1 (by decide)
          have fq:=ce.symm
          have bE:jx.pl=j0.bare:=by
           have e1:(aO.map fun j=>j.2.pl)[k2]?=some jx.pl:=(by simp [hj.out]);rw [hX.out,d2.out] at e1;injection e1 with e1;exact e1.symm
          replace ⟨bD,be,aB,aW,bE⟩:=H5 bD be aB aW bE;go_upto_region 27 with fail;go_region;obtain ⟨W3,cL⟩:=Ex (((W2.setCell ⟨jb,19,none⟩ (.int .i64 r)).setCell ⟨jb,20,none⟩ (.slice av m aA)).drew);have bd:Kb jb W2 W3:=(by rw [cL];exact (((Mod.refl (fun k=>k=jb) W2).set jb 19 _ rfl).set jb 20 _ rfl).drew);have eE:A9 W3 jb (jx.slot r av m aA o):=(by rw [cL];have h1:=Al (Al aB.out 19 (.int .i64 r)) 20 (.slice av m aA);show ((W2.setCell ⟨jb,19,none⟩ (.int .i64 r)).setCell ⟨jb,20,none⟩ (.slice av m aA)).heap[jb]?=_;rw [h1];simp [ai.slot]);have eF:=Tn aB.out aW.out.parts bd;have cf:=bD.out.set hj.out (Oy bd) eE eF (fun b e=>.inl e) ⟨rfl,rfl,rfl,rfl⟩ (.inr ⟨aI.out.1,aI.out.2,bl.out⟩);have cM:=bd.aq be.out ce;obtain ⟨c1,_⟩:=bk.out _ _ cf.tab.at_;have q1:=Bk cM 1 (.int .i64 r) rfl;have bF:(aO.set k2 (jb,jx.slot r av m aA o))[k2]?=some (jb,jx.slot r av m aA o):=by rw [List.getElem?_set_self (by have:=(Aq.1 hj.out).1;exact this)]
          have aU:∀ y:ai,y.pl=Lb d r o j0.bare->(aO.set k2 (jb,y)).map (fun j=>j.2.pl)=Gh d (L.take (i+1)) Y:=fun y hy=>by
           rw [Pl.Ql cJ.out,Avw];show _=Fn _ ((k2:Int)+1) (Lb d r o);unfold Fn;rw [show ((k2:Int)+1-1).toNat=k2 by omega,<- hX.out];exact M9 aO hj.out (by rw [hy,bE.out])
          rw [<- cL];clear cL p1 p2 d6 d7 eD bd eE eF;replace ⟨cf,cM,bF,aU⟩:=H4 cf cM bF aU;by_cases qs:r=d
          .have d1:=My.2 qs;replace qs:=Hh qs;go_upto_region 28 with fail;go_quiet (fail);have aN:=cf.out.drop (A8 _ W3 nq);have cN:(W3.drewN nq).heap[nb]?=some (.cells #[.int .i64 ((k2:Int)+1),.int .i64 r,.slice av m aA] 224 (0,0)):=cM.out;have ch:=R0 (aN.tab.at_.box _ (Aj bF.out)) 3 (by omega);obtain ⟨l,hl⟩:=Ex ((Ay (jx.slot r av m aA o).pl.lf 3).1);rw [<- hl] at ch;obtain ⟨W4,eG⟩:=Ex (W3.drewN nq);rw [<- eG] at aN cN ch ⊢;clear eG c1 q1;replace ⟨aN,cN,ch,hl⟩:=H4 aN cN ch hl;go_wp2_with fail;refine ch.out.mono ?_;rintro e e0 ⟨rfl,c0,cO⟩;have c2:=aN.out.tab.at_.ok _ (Aj bF.out);have c3:=aN.out.tab.at_.box _ (Aj bF.out);have eH:=Tn c3 c2.parts cO;have d8:=aN.out.set bF.out (Oy cO) c0 eH (fun b e=>.inl e) ⟨rfl,rfl,rfl,rfl⟩ (.inl ⟨rfl,rfl,rfl,rfl⟩);rw [Pv] at d8;have d9:=cO.aq cN.out ce;have q2:=Bk d9 2 (.slice av m aA) rfl;have cP:=aI.out.1.len
           have eI:∃ jy:ai,mz w w5 wc t (aO.set k2 (jb,jy)) e0/\jy.pl=Ko d o l 0 j0.bare:=⟨_,d8,by
            show ({ jx.pl with start:=r,aj:=o,lf:=l }:Jb)=_;rw [bE.out,qs.out]
            simp [Ko,Jb.bare]⟩
           have ea:(Lb d r o j0.bare)=Ko d o l m j0.bare:=(by rw [qs.out,Avy,hl.out,cP];show Ko d o (Ay j0.bare.lf 3).1 _ _=Ko d o (Ay jx.pl.lf 3).1 _ _;rw [bE.out]);obtain ⟨e4,eb,ec⟩:=eI;have fs:m<=16:=(by have:=a0.out;omega);clear c0 cO c2 c3 d8 eH;replace ⟨eb,ec,d9,cP,ea⟩:=H5 eb ec d9 cP ea;go_wp2_with fail;clear q2;go_loopw [20,178] (fun _ i2 wr=>∃ (q:Nat) (jy:ai),i2=.int .i64 q/\q<=m/\Hid (mz w w5 wc t (aO.set k2 (jb,jy)) wr)/\Hid (jy.pl=Ko d o l q j0.bare)) (fun _ i2 _=>m-(intOf i2).toNat)
           case atStart=>exact ⟨0,e4,rfl,Av _,eb,ec⟩
           case round=>
            obtain ⟨q,jy,rfl,hq,ci,ef⟩:=hrel;by_cases eJ:q<m
            .have e5:(q:Int)<m:=(by omega);have fG:(0:Int)<=(q:Int):=(by omega);have bG:(aO.set k2 (jb,jy))[k2]?=some (jb,jy):=(by rw [List.getElem?_set_self (by have:=(Aq.1 hj.out).1;exact this)]);have eg:=Aaq aI.out.1 ci.out.low (fun b ca e c=>by have:=bl.out b ca e;omega);obtain ⟨gb,fu,e7,c5,e6⟩:=eg.cell q eJ;subst e7;obtain ⟨z,hz⟩:=Ex (Pl.zi o q);rw [<- hz] at e6
             have cj:o[q]?=some z:=by
              rw [hz];have fa:q<o.length:=(by rw [cP.out];exact eJ);simp [Pl.zi,List.getD,fa]
             have a7:=ci.out.tab.at_.box _ (Aj bG);have c6:=ci.out.tab.at_.ok _ (Aj bG);obtain ⟨cQ,ac,cR,aG⟩:∃ a b c,jy.po=a/\jy.pn=b/\jy.pc=c:=⟨_,_,_,rfl,rfl,rfl⟩;have fc:=Bk a7 21 (.slice jy.po jy.pn jy.pc) rfl;rw [aG.1,aG.2.1,aG.2.2] at fc;have hA:=(Below.refl wr.heap.size wr).alloc Ln (.cells #[.int .i64 z,.int .i64 0] 65);obtain ⟨WA,ej⟩:=Ex (wr.alloc (.cells #[.int .i64 z,.int .i64 0] 65));have cS:WA.heap[wr.heap.size]?=some (.cells (Fk (z,0)) 65 (0,0)):=(by rw [ej];exact Af _ _);rw [<- ej] at hA;have ck:=ci.out.drop hA;have a8:=Ae hA a7 (Ab a7);have bn:=ck.tab.at_.ok _ (Aj bG);have bv:WA.ownsRow 0 65 2 (.slice jy.po jy.pn jy.pc) jy.pn (Ar Fk jy.pl.parts):=bn.parts;have cm:=J8 bn.parts;rw [aG.1,aG.2.1,aG.2.2,show ac=jy.pl.parts.length from by rw [cm,aG.2.1]] at bv;have a9:Bh Fk 2 65 WA 0 (.slice cQ ac cR) jy.pl.parts:=⟨by rw [show ac=jy.pl.parts.length from by rw [cm,aG.2.1]];exact bv⟩;have cT:jy.pl.parts.length=ac:=by rw [cm,aG.2.1]
             have co:∀ u∈(Fk (z,0)).toList,u.oneCell'=true:=by intro u hu;simp at hu;rcases hu with rfl | rfl<;>rfl
             have eK:0<=WA.heap.size:=Av _
             have fd:ac<=1000000:=by
              have h1:jy.pl.parts.length=([]++(o.take q).map fun n=>(n,(0:Int))).length:=(by rw [ef.out];show (j0.parts++_).length=_;rw [cH.out]);rw [Rf,Ax,Ff] at h1;omega
             replace ⟨bG,eg,c5,hz,cj,a7,c6,aG⟩:=H8 bG eg c5 hz cj a7 c6 aG;replace ⟨hA,cS,ck,a8,bn,bv,cm,a9⟩:=H8 hA cS ck a8 bn bv cm a9;replace ⟨cT,co⟩:=H2 cT co;rw [ej] at cS ck a8 a9 eK;go_wp2_with (at_builtin;refine Agc (cells:=Fk) (sz:=2) rfl _ _ 44 rfl 0 iP _ 16 Tryz.underlying44 dX.out dY.out b7.out b8.out rfl (Kw _) (by decide) (fun _=>rfl) (.slice cQ ac cR) rfl ac a9.out cT.out wr.heap.size 1 rfl (z,0) co.out cS.out fd eK ?_;intro g9 aC w9 h9 eL em;have cU:=Mod.grown (S:=fun k=>(Value.slice cQ ac cR).ownBlock=some k) eL (fun k hk=>hk);have aQ:=cU.aq a8.out (fun e=>B2 a9.out.row a8.out (by decide) e);have eM:=Aa aQ 21;have eD:=Ah aQ 21;simp at eM;replace ⟨h9,cU,aQ,em⟩:=H4 h9 cU aQ em;clear eL);go_roundw
             have fe:mz w w5 wc t (aO.set k2 (jb,jy.part (z,0) g9 (ac+1) aC)) (w9.setCell ⟨jb,21,none⟩ (.slice (some ⟨g9,0,none⟩) (ac+1) aC)):=by
              have eN:jy.pb=(Value.slice cQ ac cR).ownBlock:=(by unfold ai.pb;rw [aG.out.1,aG.out.2.1,aG.out.2.2]);have aL:=Mod.setCell (S:=fun k=>k=jb) w9 jb 21 (.slice (some ⟨g9,0,none⟩) (ac+1) aC) rfl;have hm:=(cU.out.mono (S':=F0 (jb,jy)) fun k _ c=>.inr (by rw [eN];exact c)).set jb 21 (.slice (some ⟨g9,0,none⟩) (ac+1) aC) (.inl rfl)
              have ff:Bu (w9.setCell ⟨jb,21,none⟩ (.slice (some ⟨g9,0,none⟩) (ac+1) aC)) (jy.part (z,0) g9 (ac+1) aC):=by
               have h1:=(h9.out.mod aL (fun k hk e=>by
                subst e
                exact B2 h9.out.row aQ.out (by decide) hk)).row
               rw [De,cT.out] at h1;exact h1
              have eO:A9 (w9.setCell ⟨jb,21,none⟩ (.slice (some ⟨g9,0,none⟩) (ac+1) aC)) jb (jy.part (z,0) g9 (ac+1) aC):=by unfold A9;rw [Al aQ.out];simp [ai.part]
              have h1:=ck.out.set bG.out hm eO ff (fun b e=>by
               have e:(Value.slice (some ⟨g9,0,none⟩) (ac+1) aC).ownBlock=some b:=e;simp [Value.ownBlock] at e;subst e;rcases em.out with c | c
               .exact .inl (by rw [eN];exact c)
               .exact .inr (by omega)) ⟨rfl,rfl,rfl,rfl⟩ (.inl ⟨rfl,rfl,rfl,rfl⟩)
              rw [Pv] at h1;exact h1
             have fg:(jy.part (z,0) g9 (ac+1) aC).pl=Ko d o l (q+1) j0.bare:=by show ({ jy.pl with parts:=jy.pl.parts++[(z,0)] }:Jb)=_;rw [ef.out];unfold Ko;rw [Pl.Ql cj.out];simp
             case rel=>exact ⟨q+1,_,by go_num,by omega,fe,fg⟩
             case measure=>simp [intOf];omega
            .have e5:¬ (q:Int)<m:=(by omega);have en:q=m:=(by omega);have eq:=aU.out jy (by rw [ef.out,en,ea.out]);replace ⟨eq,en⟩:=H2 eq en;go_wp2_with fail;go_roundw
             case rel=>exact ⟨i+1,_,by go_num,by omega,ci,eq⟩
             case measure=>simp [intOf];omega
          .have d1:=Bg.2 qs
           have es:=aU.out (jx.slot r av m aA o) (by
            rw [Avz o _ qs];show ({ jx.pl with start:=r,aj:=o }:Jb)=_;rw [bE.out]
            simp [Ko,Jb.bare])
           replace ⟨es,qs⟩:=H2 es qs;go_upto_region 28 with fail;go_quiet (fail);have aN:=cf.out.drop (A8 _ W3 nq);replace aN:=Hh aN;go_wp2_with fail;go_roundw
           case rel=>exact ⟨i+1,_,by go_num,by omega,aN,es⟩
           case measure=>simp [intOf];omega
         .have ba:¬ (i:Int)<bC:=(by omega);have cV:=hX.out;have et:L.length=bC:=(by rw [<- b1.out,Ax,cD.out]);rw [Dn (by rw [et];omega)] at cV;obtain ⟨r0,r1,r2⟩:=C3 hP.out.res;(try dsimp only at r0 r1 r2);have fr:=Ah hP.out.res;have hD:=hP.out.done h.out (by rw [f.out]) (by rw [f.out]) (.int .i64 0) (.int .i64 0) (.int .i64 0);replace ⟨cV,et,hD⟩:=H3 cV et hD;go_wp2_with fail;refine Ao (v:=E1 ⟨0,0,0,0⟩) (by simp [results,Tryz.results83,go_sem,r0,r1,r2]) rfl ⟨⟨rfl,?_⟩,?_⟩
          .have hD:=hD.out;rw [f.out] at hD;refine ⟨_,⟨hD.at_,rfl,rfl,rfl,rfl,rfl,hD.ay,hD.mod,hD.du⟩,?_⟩;show (⟨T.ah,d,T.cls,T.nodes,aO.map fun j=>j.2.pl⟩:di)=_;rw [cV.out,hL.out,hY.out,bA.out];rfl
          .have:=dQ.out;rw [bA.out] at this;exact this
end Go.Proofs.YtimlcnhcjndijaaGreatDoor
namespace Go.Proofs.YtimlcnhcjndijaaGreatDoor
structure Fr (vs:List ax) (t:di):Prop where
 all:Dm vs t.ab
 len:t.ab.length<=100
 ep:0<=t.ah/\t.ah<=1099511627776
 tick:-1<=t.tick/\t.tick<1099511627776
 uk:t.nodes.length=vs.length
 since:∀ n,n∈t.nodes->-1<=n.since/\n.since<1099511627776
 bh:(t.cls.map Prod.fst).Pairwise (·<·)
 cls:∀ p,p∈t.cls->1<=p.1/\p.1<=16/\1<=p.2.seq/\p.2.seq<=1099511627776/\p.2.e=0/\0<=p.2.first/\p.2.first<=100/\0<=p.2.last/\p.2.last<=100
variable {vs:List ax} {t:di} {e:ed}
def Aav {x y:Int×Cl}:∀ {l:List (Int×Cl)},y∈N1 x l->y=x\/y∈l
 | [],h=>.inl (I7.1 h)
 | z :: r,h=>by
  unfold N1 at h;split at h
  .rcases Gu.1 h with h | h
   .exact .inl h
   .exact .inr h
  .rcases Gu.1 h with h | h
   .exact .inr (h▸E2)
   .rcases Aav h with h | h
    .exact .inl h
    .exact .inr (D1 _ h)
def Ah6 {x:Int×Cl}:∀ {l:List (Int×Cl)},(l.map Prod.fst).Pairwise (·<·)->(∀ y,y∈l->y.1≠x.1)->((N1 x l).map Prod.fst).Pairwise (·<·)
 | [],_,_=>by simp [N1]
 | y :: r,h,hn=>by
  have d:=Po.1 h;have e:=hn y E2;unfold N1;split
  .rename_i c;refine Po.2 ⟨fun z a=>?_,h⟩;rcases Gu.1 a with rfl | a
   .exact c
   .exact Int.lt_trans c (d.1 z a)
  .rename_i c;refine Po.2 ⟨fun z a=>?_,Ah6 d.2 fun u b=>hn u (D1 _ b)⟩;obtain ⟨u,b,rfl⟩:=Bd.1 a;rcases Aav b with rfl | b
   .show y.1<u.1;omega
   .exact d.1 _ (Ks b)
def Awg {l:List Int} {n:Nat} (h:l.Pairwise (·<·)) (c:∀ x,x∈l->1<=x/\x<=(n:Int)):l.length<=n:=by
 have h1:(l.map Int.toNat).Pairwise (·<·):=by refine List.pairwise_map.2 (h.imp_of_mem fun {a b} ha hb hab=>?_);have:=c a ha;omega
 have:=Pl.Ara (ys:=(List.range n).map (·+1)) h1 fun j d=>by
  obtain ⟨z,e,rfl⟩:=Bd.1 d;have:=c z e;exact Bd.2 ⟨z.toNat-1,List.mem_range.2 (by omega),by omega⟩
 simpa using this
def Fr.l6 (h:Fr vs t):t.cls.length<=16:=by
 have:=Awg (n:=16) h.bh fun x a=>by
  obtain ⟨p,b,rfl⟩:=Bd.1 a;have:=h.cls p b;omega
 simpa using this
def Awh (h:Fr vs t) (b:Int) (c:Cl) (d:1<=b/\b<=16) (f:1<=c.seq/\c.seq<=1099511627776/\c.e=0/\0<=c.first/\c.first<=100/\0<=c.last/\c.last<=100):Fr vs { t with cls:=Jj t.cls b c }:=by
 refine ⟨h.all,h.len,h.ep,h.tick,h.uk,h.since,?_,fun p a=>?_⟩
 .show ((Jj t.cls b c).map Prod.fst).Pairwise (·<·);unfold Jj;refine Ah6 (h.bh.sublist ((List.filter_sublist).map Prod.fst)) fun y g=>?_;have:=(Oo.1 g).2;simpa using this
 .have a:p∈Jj t.cls b c:=a;unfold Jj at a;rcases Aav a with rfl | a
  .exact ⟨d.1,d.2,f⟩
  .exact h.cls p (Oo.1 a).1
structure Awi (e:ed):Prop where
 ep:e.n.kind=1->1<=e.n.ah/\e.n.ah<=1099511627776
 cl:B8 e.n.kind=true->(1<=e.n.ag/\e.n.ag<=16)/\1<=e.n.seq/\e.n.seq<=1099511627776
 bp:(e.n.kind=3\/e.n.kind=4\/e.n.kind=5\/e.n.kind=7)->e.n.bp<=100
 specs:e.n.kind=2->e.specs≠[]
def Ah7 (h:E6 e=true):Awi e:=by
 have r:=(So h).kind;obtain ⟨⟨i,m,tick,n,seq,o,attempt,node,p⟩,q⟩:=e
 have g:∀ {k:Int} {fs:List gl},i=k->Dj k=some fs->∃ e',Fm ⟨i,m,tick,n,seq,o,attempt,node,p⟩ fs=some e'/\Rx ⟨⟨i,m,tick,n,seq,o,attempt,node,p⟩,q⟩=true:=fun {k fs} e hf=>by
  obtain ⟨e',h1,_,_,s⟩:=Ah1 h (fs:=fs) (by rw [<- hf,<- e]);exact ⟨e',h1,s⟩
 have l:∀ k,(k=1\/k=2\/k=3\/k=4\/k=5\/k=6\/k=7\/k=8\/k=9\/k=10\/k=11)->i=k->True:=fun _ _ _=>trivial;rcases r with rfl | rfl | rfl | rfl | rfl | rfl | rfl | rfl | rfl | rfl | rfl
 .obtain ⟨e',f,_⟩:=g rfl (k:=1) (fs:=[Ti]) rfl;have a:=(A7 f).1;simp [ig,Ti,bz.get] at a;exact ⟨fun _=>a,fun c=>absurd c (by simp [B8,D3]),by simp,by simp⟩
 .obtain ⟨e',f,j⟩:=g rfl (k:=2) (fs:=[Cu,Cv]) rfl;have a:=(A7 f).1;have b:=(A7 (A7 f).2).1;simp [ig,Cu,Cv,bz.get,bz.set] at a b;refine ⟨by simp,fun _=>⟨a,b⟩,by simp,fun _ c=>?_⟩;have c:q=[]:=c;subst c;simp [Rx] at j
 .obtain ⟨e',f,j⟩:=g rfl (k:=3) (fs:=[Cu,Cv,Eu]) rfl;have a:=(A7 f).1;have b:=(A7 (A7 f).2).1;have d:=(A7 (A7 (A7 f).2).2).1;simp [ig,Cu,Cv,Eu,bz.get,bz.set] at a b d;exact ⟨by simp,fun _=>⟨a,b⟩,fun _=>d.2,by simp⟩
 .obtain ⟨e',f,j⟩:=g rfl (k:=4) (fs:=[Cu,Cv,Eu]) rfl;have a:=(A7 f).1;have b:=(A7 (A7 f).2).1;have d:=(A7 (A7 (A7 f).2).2).1;simp [ig,Cu,Cv,Eu,bz.get,bz.set] at a b d;exact ⟨by simp,fun _=>⟨a,b⟩,fun _=>d.2,by simp⟩
 .obtain ⟨e',f,j⟩:=g rfl (k:=5) (fs:=[Cu,Cv,Eu]) rfl;have a:=(A7 f).1;have b:=(A7 (A7 f).2).1;have d:=(A7 (A7 (A7 f).2).2).1;simp [ig,Cu,Cv,Eu,bz.get,bz.set] at a b d;exact ⟨by simp,fun _=>⟨a,b⟩,fun _=>d.2,by simp⟩
 .exact ⟨by simp,fun c=>absurd c (by simp [B8,D3]),by simp,by simp⟩
 .obtain ⟨e',f,j⟩:=g rfl (k:=7) (fs:=[Eu,Tj,E5,Tk]) rfl;have a:=(A7 f).1;simp [ig,Eu,bz.get] at a;exact ⟨by simp,fun c=>absurd c (by show ¬ B8 7=true;decide),fun _=>a.2,by simp⟩
 .exact ⟨by simp,fun c=>absurd c (by simp [B8,D3]),by simp,by simp⟩
 .exact ⟨by simp,fun c=>absurd c (by simp [B8,D3]),by simp,by simp⟩
 .obtain ⟨e',f,j⟩:=g rfl (k:=10) (fs:=[Cu,Cv,E5]) rfl;have a:=(A7 f).1;have b:=(A7 (A7 f).2).1;simp [ig,Cu,Cv,bz.get,bz.set] at a b;exact ⟨by simp,fun _=>⟨a,b⟩,by simp,by simp⟩
 .obtain ⟨e',f,j⟩:=g rfl (k:=11) (fs:=[Cu,Cv,E5]) rfl;have a:=(A7 f).1;have b:=(A7 (A7 f).2).1;simp [ig,Cu,Cv,bz.get,bz.set] at a b;exact ⟨by simp,fun _=>⟨a,b⟩,by simp,by simp⟩
def Aaw (js:List Jb):(Is js).length=js.length:=by
 unfold Is;rw [Yz,Ax]
def Awj (tick:Int) (js:List Jb):(Cc tick js).length=js.length:=by
 unfold Cc;rw [Aaw,Ax]
def Awk (vs:List ax) (tick:Int) (a:List Bool) (js:List Jb):(O5 vs tick a js).length=js.length:=by
 unfold O5;rw [Aar,Ax]
def Awl {l:List dp} (h0:(B5 vs t.ab.length l).2=0):((Ev (l.zip (B5 vs t.ab.length l).1) t.ab).length:Int)=(t.ab.length:Int)+Ie l/\(t.ab.length:Int)+Ie l<=100/\∀ s,s∈l->1<=s.array/\s.array<=20:=by
 obtain ⟨h1,e,c⟩:=Aaj h0;rw [c] at h0;obtain ⟨f,j,g,d,k⟩:=Aaf h0;rw [Ax] at f g;have a:=Aai (l.zip (B5 vs t.ab.length l).1) (fun p h=>(d p.1.array (Bd.2 ⟨p.1,(List.of_mem_zip h).1,rfl⟩)).1) t.ab
 have b:(l.zip (B5 vs t.ab.length l).1).map (fun p=>p.1.array)=l.map fun s=>s.array:=by
  rw [c];have:=Aak (l:=l) (m:=(E0 ((t.ab.length:Int)+1) (l.map fun s=>s.array) (l.map fun s=>s.after)).1) (by omega)
  conv=>rhs;rw [<- this]
  rw [Du];rfl
 rw [b,<- Up] at a;exact ⟨a,e,fun s i=>d s.array (Ks i)⟩
def Awm {l:List dp} (h:∀ s,s∈l->1<=s.array) (b:l≠[]):1<=Ie l:=by
 cases l with
 | nil=>exact absurd rfl b
 | cons s l=>
  have a:=(Ul (l.map fun s=>s.array) (fun n c=>by
   obtain ⟨u,d,rfl⟩:=Bd.1 c
   exact h u (D1 _ d)) (l.map fun s=>s.array).length).2
  rw [On] at a;have e:=h s E2;rw [Up,J2];unfold El at a ⊢;rw [List.foldl_cons,Ws];omega
def Aax (h1:1<=e.n.bp) (h0:Jo t e.n=0):∃ (k:Nat) (j:Jb),t.ab[k]?=some j/\e.n.bp=(k:Int)+1/\Ew t.ab e.n.bp=j/\(e.n.kind≠7->(Ay j.lf (Gg e.n.kind)).2=0)/\(e.n.kind=7->∃ i,Gd j e.n.attempt e.n.node=some i):=by
 unfold Jo at h0;split at h0
 .cases h0
 rename_i c;obtain ⟨k,a⟩:∃ k:Nat,e.n.bp=(k:Int)+1:=⟨(e.n.bp-1).toNat,by omega⟩;have b:t.ab[k]?=some (t.ab[k]'(by omega)):=Am _;have f:Ew t.ab e.n.bp=t.ab[k]'(by omega):=by unfold Ew;rw [a,show ((k:Int)+1-1).toNat=k by omega,b];rfl
 rw [f] at h0;refine ⟨k,_,b,a,f,fun q=>?_,fun q=>?_⟩
 .rw [Ad q] at h0;exact h0
 .rw [Ac (by simpa using q)] at h0;split at h0
  .cases h0
  .rename_i d
   cases hp:Gd (t.ab[k]'(by omega)) e.n.attempt e.n.node with
   | none=>exact absurd hp d
   | some i=>exact ⟨i,rfl⟩
def Fr.ab (h:Fr vs t) {js:List Jb} (h1:Dm vs js) (a:js.length<=100):Fr vs { t with ab:=js }:=⟨h1,a,h.ep,h.tick,h.uk,h.since,h.bh,h.cls⟩
def Fr.mo (h:Fr vs t) (i:Nat) (f:Er->Er) (b:∀ n,-1<=n.since/\n.since<1099511627776->-1<=(f n).since/\(f n).since<1099511627776):Fr vs { t with nodes:=t.nodes.modify i f }:=by
 refine ⟨h.all,h.len,h.ep,h.tick,(Lp _ _ _).trans h.uk,fun n c=>?_,h.bh,h.cls⟩;obtain ⟨q,a⟩:=Dr c;have a:(t.nodes.modify i f)[q]?=some n:=a;rw [Fe] at a
 cases hu:t.nodes[q]? with
 | none=>
  rw [hu] at a;have a:(none:Option Er)=some n:=a;cases a
 | some u=>
  rw [hu] at a;have a:some (if i=q then f u else u)=some n:=a;have h1:=h.since u (Aj hu);split at a
  .injection a with a;rw [<- a];exact b u h1
  .injection a with a;rw [<- a];exact h1
structure Ah8 (vs:List ax) (t:di) (e:ed):Prop where
 may:E6 e=true
 cl:B8 e.n.kind=true->(J9 t.cls e.n.ag).seq<e.n.seq
 ep:e.n.kind=1->t.ah<e.n.ah
 tick:e.n.kind=6->t.tick<e.n.tick
 sub:e.n.kind=2->(B5 vs t.ab.length e.specs).2=0
 node:8<=e.n.kind->e.n.kind<=11->La t e.n=0
 bp:(e.n.kind=3\/e.n.kind=4\/e.n.kind=5\/e.n.kind=7)->Jo t e.n=0
def Ah9 (h:Dl vs t e=0):Ah8 vs t e:=by
 unfold Dl at h;split at h
 .cases h
 rename_i a;split at h
 .cases h
 rename_i b;refine ⟨by simpa using a,fun q=>?_,fun q=>?_,fun q=>?_,fun q=>?_,fun q c=>?_,fun q=>?_⟩
 .by_cases d:(J9 t.cls e.n.ag).seq<e.n.seq
  .exact d
  .exact absurd ⟨q,by omega⟩ b
 .rw [Ad q] at h;split at h
  .cases h
  .omega
 .rw [Ac (by omega),Ad q] at h;split at h
  .cases h
  .omega
 .rw [Ac (by omega),Ac (by omega),Ad q] at h;exact h
 .rw [Ac (by omega),Ac (by omega),Ac (by omega),Ad ⟨q,c⟩] at h;exact h
 .rw [Ac (by omega),Ac (by omega),Ac (by omega),Ac (by omega)] at h;exact h
def Awn (h:Fr vs t) (i:Ah8 vs t e):Fr vs (dz vs t e).1/\(dz vs t e).2.e=0/\0<=(dz vs t e).2.first/\(dz vs t e).2.first<=100/\0<=(dz vs t e).2.last/\(dz vs t e).2.last<=100:=by
 have f:=So i.may;have m:=Ah7 i.may
 have z:∀ {T:di},Fr vs T->Fr vs (T,(⟨0,0,0,0⟩:Cl)).1/\(T,(⟨0,0,0,0⟩:Cl)).2.e=0/\0<=(T,(⟨0,0,0,0⟩:Cl)).2.first/\(T,(⟨0,0,0,0⟩:Cl)).2.first<=100/\0<=(T,(⟨0,0,0,0⟩:Cl)).2.last/\(T,(⟨0,0,0,0⟩:Cl)).2.last<=100:=fun g=>⟨g,rfl,Db 0,by show (0:Int)<=100;decide,Db 0,by show (0:Int)<=100;decide⟩
 unfold dz;split
 .rename_i q;have:=m.ep q;exact z ⟨h.all,h.len,⟨by show 0<=e.n.ah;omega,this.2⟩,h.tick,h.uk,h.since,h.bh,h.cls⟩
 split
 .rename_i q;have h0:=i.sub q;obtain ⟨a,b⟩:=Agw h.all h0;obtain ⟨c1,c2,x⟩:=Awl h0;have c4:=Awm (fun s y=>(x s y).1) (m.specs q);refine ⟨h.ab a b,rfl,?_,?_,?_,?_⟩
  .show 0<=(t.ab.length:Int)+1;omega
  .show (t.ab.length:Int)+1<=100;omega
  .show 0<=((Ev (e.specs.zip (B5 vs t.ab.length e.specs).1) t.ab).length:Int);omega
  .show ((Ev (e.specs.zip (B5 vs t.ab.length e.specs).1) t.ab).length:Int)<=100;omega
 split
 .rename_i q;have p:=f.tick (.inl q);refine z ⟨Au8 (Agt h.all _) p.1 _,?_,h.ep,⟨by show -1<=e.n.tick;omega,p.2⟩,h.uk,h.since,h.bh,h.cls⟩;show (O5 vs e.n.tick _ (Cc e.n.tick t.ab)).length<=100;rw [Awk,Awj];exact h.len
 split
 .rename_i q;have hh:=f.bj q;refine z (h.ab (Aah (h.all.b.mod fun j l=>Atw (h.all.b _ _ l) (by omega) hh.2)) ?_);rw [Aaw];unfold Fn;rw [Lp];exact h.len
 split
 .rename_i q;unfold Qc;split
  .rename_i r;have h1:=h.mo e.n.node.toNat (fun n=>⟨false,n.bo,n.since⟩) (fun n o=>o);refine z (h1.ab (Atx h.all _) ?_);rw [Aaw,Ax];exact h.len
  split
  .rename_i r;have p:=f.tick (.inr (.inr r));exact z (h.mo _ (fun n=>⟨true,n.bo,e.n.tick⟩) (fun n o=>by show -1<=e.n.tick/\e.n.tick<_;omega))
  .exact z (h.mo _ (fun n=>⟨n.up,decide (e.n.kind=10),n.since⟩) (fun n o=>o))
 .rename_i q1 r q3 q4 q5;have hk:e.n.kind=3\/e.n.kind=4\/e.n.kind=5:=by have:=f.kind;omega
  have j1:=f.bp (by omega);have v:=m.bp (by omega);obtain ⟨k,j,l,ac,_,u,_⟩:=Aax j1 (i.bp (by omega));have d:(e.n.bp-1).toNat=k:=by omega
  refine ⟨h.ab (Aag (h.all.mod fun j' c=>?_)) ?_,rfl,?_,?_,?_,?_⟩
  .rw [d,l] at c;injection c with c;subst c;rw [d];refine Att (h.all k j l) (u (by omega)) ?_;unfold Gg;split
   .exact .inl rfl
   .split
    .exact .inr (.inl rfl)
    .exact .inr (.inr rfl)
  .rw [Yz];unfold Fn;rw [Lp];exact h.len
  .show 0<=e.n.bp;omega
  .exact v
  .show 0<=e.n.bp;omega
  .exact v
def Awo (h:Fr vs t):Fr vs (Cz vs t e).1:=by
 unfold Cz;split
 .exact h
 .rename_i c;have d:=Ah9 (vs:=vs) (t:=t) (e:=e) (by simpa using c);obtain ⟨a,b⟩:=Awn h d;have m:=Ah7 d.may;show Fr vs (if B8 e.n.kind=true then { (dz vs t e).1 with cls:=Jj (dz vs t e).1.cls e.n.ag ⟨e.n.seq,(dz vs t e).2.e,(dz vs t e).2.first,(dz vs t e).2.last⟩ } else (dz vs t e).1);split
  .rename_i q;have:=m.cl q;exact Awh a _ _ this.1 ⟨this.2.1,this.2.2,b⟩
  .exact a
def Awp (vs:List ax) (t:di) (e:ed):(dz vs t e).1.cls=t.cls:=by
 unfold dz;split
 .rfl
 split
 .rfl
 split
 .rfl
 split
 .rfl
 split
 .unfold Qc;split
  .rfl
  split
  .rfl
  .rfl
 .rfl
end Go.Proofs.YtimlcnhcjndijaaGreatDoor
namespace Go.Proofs.YtimlcnhcjndijaaGreatDoor
open Go.RowKit Go.Maps Go.Lib
structure Fs (w0:World) (T:Tv) (w:World):Prop where
 tab:An w T
 ay:∀ b,T.ay b->w0.heap.size<=b
 low:Below w0.heap.size w0 w
 j4:Fr T.vs T.pl
variable {w0 w w':World} {T T':Tv}
def Fs.lg (h:Fs w0 T w) (a:Ek w T T' w') (d:Fr T.vs T'.pl):Fs w0 T' w':=
 ⟨a.at_,fun b c=>by
  rcases a.ay b c with c | c
  .exact h.ay b c
  .exact A6 h.low.size c,h.low.trans (a.mod.below h.low.size h.ay),by rw [a.vs];exact d⟩
def Fs.drop (h:Fs w0 T w) (a:Below w.heap.size w w'):Fs w0 T w':=⟨h.tab.low a,h.ay,h.low.trans (a.mono h.low.size),h.j4⟩
def Mp (vs:List ax) (t:di) (p:ed):Prop:=Dl vs t p=0->p.n.kind=6->Mo vs p.n.tick (nf { t with tick:=p.n.tick }) (Cc p.n.tick t.ab)
def Aia (w0 w:World) (T:Tv) (p:ed) (e:Ending) (w':World):Prop:=
 ∃ T',e=.returned (.tuple #[E1 (Cz T.vs T.pl p).2.1,.int .i64 (Cz T.vs T.pl p).2.2])/\Fs w0 T' w'/\T'.pl=(Cz T.vs T.pl p).1/\Ek w T T' w'/\Mp T.vs T.pl p
def Awq {k:Int}:(k=1->Nl k=81)/\(k=2->Nl k=82)/\(k=6->Nl k=83)/\(k=7->Nl k=84)/\((8<=k/\k<=11)->Nl k=85)/\((k=3\/k=4\/k=5)->Nl k=86):=by
 refine ⟨?_,?_,?_,?_,?_,?_⟩
 .rintro rfl;rfl
 .rintro rfl;rfl
 .rintro rfl;rfl
 .rintro rfl;rfl
 .rintro ⟨a,b⟩
  have:k=8\/k=9\/k=10\/k=11:=by omega
  rcases this with rfl | rfl | rfl | rfl<;>rfl
 .rintro (rfl | rfl | rfl)<;>rfl
def Awr (x:cu) (h:Fs w0 T w) (o:x.ok w) (ad:∀ W',Mod T.ay w W'->Kc W' x.so x.m x.cq) (al:x.n.kind=6->T.js.length<=20) :
  Calls Tryz.prog 15 #[.pointer (some ⟨T.tb,0,none⟩),x.val] w (Aia w0 w T x.pl):=by
 have am:T.pl.ab.length=T.js.length:=by simp [Tv.pl]
 have an:T.js.length<=100:=by have:=h.j4.len;omega
 have end_:∀ e w',Aau w T (Cz T.vs T.pl x.pl) e w'->Mp T.vs T.pl x.pl->Aia w0 w T x.pl e w':=fun e w' a hR=>by
  obtain ⟨he,T',z,ac⟩:=a;exact ⟨T',he,h.lg z (by rw [ac];exact Awo h.j4),ac,z,hR⟩
 by_cases hr:Dl T.vs T.pl x.pl=0
 .have hw:=Ah9 hr;have f:=So hw.may;obtain ⟨d1,d2,d6,d7,d8,d3⟩:=Awq (k:=x.n.kind);refine (Awf x h.tab o (by omega) hr (by rw [Awp];have:=h.j4.l6;omega) (Mp T.vs T.pl x.pl) (fun W hW=>?_)).mono fun e w' a=>end_ e w' a.1 a.2;have u:=h.tab.low hW;have p:=h.j4.all.b.ju;have d:x.n.kind≠6->Mp T.vs T.pl x.pl:=fun q _ c=>absurd c q;by_cases r:x.n.kind=1
  .rw [d1 r,show dz T.vs T.pl x.pl=({ T.pl with ah:=x.n.ah },⟨0,0,0,0⟩) from Ad r];exact (Ato x u).mono fun e w' a=>⟨a,d (by omega)⟩
  by_cases s:x.n.kind=2
  .have l:dz T.vs T.pl x.pl=Js T.vs T.pl (x.cq.map au.pl):=(by unfold dz;rw [Ac (show ¬ x.pl.n.kind=1 from r),Ad (show x.pl.n.kind=2 from s)];rfl);rw [d2 s,l];have h0:=hw.sub s;rw [am] at h0;refine (Awa x.n x.so x.m x.c x.cq u h.j4.all (by omega) (fun W' hm=>ad W' ((Mod.af hW).trans hm)) ?_ h0).mono fun e w' a=>⟨a,d (by omega)⟩
   .have h1:=o.cq.len;have h2:=f.len;have h3:x.pl.specs.length=x.cq.length:=Ax _;omega
  by_cases g:x.n.kind=6
  .have l:dz T.vs T.pl x.pl=(Od T.vs T.pl x.n.tick,⟨0,0,0,0⟩):=(by unfold dz;rw [Ac (show ¬ x.pl.n.kind=1 from r),Ac (show ¬ x.pl.n.kind=2 from s),Ad (show x.pl.n.kind=6 from g)];rfl);rw [d6 g,l];have z:=f.tick (.inl g);have z:0<=x.n.tick/\x.n.tick<1099511627776:=z;exact (Av2 x.n.kind x.n.ah x.n.tick x.n.ag x.n.seq x.n.bp x.n.attempt x.n.node x.n.bj x.so x.m x.c x.cq u h.j4.all (al g)).mono fun e w' a=>⟨a.1,fun _ _=>a.2⟩
  by_cases t:x.n.kind=7
  .have l:dz T.vs T.pl x.pl=(Adj T.pl x.n,⟨0,0,0,0⟩):=(by unfold dz;rw [Ac (show ¬ x.pl.n.kind=1 from r),Ac (show ¬ x.pl.n.kind=2 from s),Ac (show ¬ x.pl.n.kind=6 from g),Ad (show x.pl.n.kind=7 from t)];rfl);rw [d7 t,l];obtain ⟨k,j,v,hk,_,_,a⟩:=Aax (f.bp (.inr (.inr (.inr t)))) (hw.bp (.inr (.inr (.inr t))));obtain ⟨i,hi⟩:=a t;have v:(T.js.map fun j=>j.2.pl)[k]?=some j:=v;rw [Bx] at v;obtain ⟨jx,ao,rfl⟩:=Pm.1 v;exact (Atl x u p k jx ao hk i hi).mono fun e w' a=>⟨Ago a,d g⟩
  by_cases y:8<=x.n.kind/\x.n.kind<=11
  .have l:dz T.vs T.pl x.pl=(Qc T.pl x.n,⟨0,0,0,0⟩):=(by unfold dz;rw [Ac (show ¬ x.pl.n.kind=1 from r),Ac (show ¬ x.pl.n.kind=2 from s),Ac (show ¬ x.pl.n.kind=6 from g),Ac (show ¬ x.pl.n.kind=7 from t),Ad (show 8<=x.pl.n.kind/\x.pl.n.kind<=11 from y)];rfl);rw [d8 y,l];have h0:=hw.node y.1 y.2;have ap:0<=x.n.node:=f.node (by show x.n.kind=7\/x.n.kind=8\/x.n.kind=9\/x.n.kind=10\/x.n.kind=11;omega)
   have av:x.n.node<(T.nodes.length:Int):=by
    unfold La at h0;split at h0
    .cases h0
    .rename_i c;have c:¬ (T.nodes.length:Int)<=x.n.node:=c;omega
   exact (At1 x u p x.n.node.toNat (by omega) (by omega) y).mono fun e w' a=>⟨a,d g⟩
  .have q3:x.n.kind=3\/x.n.kind=4\/x.n.kind=5:=(by have:=f.kind;have this:x.n.kind=1\/x.n.kind=2\/x.n.kind=3\/x.n.kind=4\/x.n.kind=5\/x.n.kind=6\/x.n.kind=7\/x.n.kind=8\/x.n.kind=9\/x.n.kind=10\/x.n.kind=11:=this;omega);have l:dz T.vs T.pl x.pl=Adi T.pl x.n:=(by unfold dz;rw [Ac (show ¬ x.pl.n.kind=1 from r),Ac (show ¬ x.pl.n.kind=2 from s),Ac (show ¬ x.pl.n.kind=6 from g),Ac (show ¬ x.pl.n.kind=7 from t),Ac (show ¬ (8<=x.pl.n.kind/\x.pl.n.kind<=11) from y)];rfl);rw [d3 q3,l];obtain ⟨k,j,v,hk,_,_,_⟩:=Aax (f.bp (by show x.n.kind=3\/x.n.kind=4\/x.n.kind=5\/x.n.kind=7;omega)) (hw.bp (by show x.n.kind=3\/x.n.kind=4\/x.n.kind=5\/x.n.kind=7;omega));have aA:=(Aq.1 v).1;exact (Ath x u p k (by omega) hk).mono fun e w' a=>⟨Ago a,d g⟩
 .exact (Awe x h.tab o (by omega) hr).mono fun e w' a=>end_ e w' a fun c=>absurd c hr
end Go.Proofs.YtimlcnhcjndijaaGreatDoor
namespace Go.Proofs.YtimlcnhcjndijaaGreatDoor
open Go.RowKit Go.Maps Go.Lib
variable {w0 w w':World} {T T':Tv}
def Fs.uq (h:Fs w0 T w) {j:Nat×ai} (a:j∈T.js):∃ k,Ik T.vs T.pl.ab.length k j.2.pl:=by
 obtain ⟨k,b⟩:=Dr a
 have:T.pl.ab[k]?=some j.2.pl:=by show (T.js.map fun j=>j.2.pl)[k]?=_;simp [b]
 exact ⟨k,h.j4.all k _ this⟩
def Fs.rows (h:Fs w0 T w):(∀ j,j∈T.js->Ag1 j.2)/\(∀ j,j∈T.js->Ag3 j.2)/\T.js.length<=100:=by
 have g:∀ j,j∈T.js->j.2.sn<=160/\j.2.gn<=16/\j.2.pn<=1000/\tz j.2.pl.sp.dn 1099511627776:=fun j f=>by
  obtain ⟨k,i⟩:=h.uq f;have ok:=h.tab.ok j f;have p:=ok.after.row.len;have r:=ok.aj.row.len;have s:=J8 ok.parts;have t:=i.sy;have u:=Ahz i.toFd;obtain ⟨_,_,l,_,n,_⟩:=Iu (Kn i.ga);obtain ⟨_,m⟩:=Ib.1 n;have m:j.2.pl.sp.nodes<=16:=m
  have o:j.2.pl.aj.length<=16:=by
   by_cases q:j.2.pl.start<0
   .rw [i.um q];simp
   .have:=(i.aj (by omega)).1.len;omega
  refine ⟨by omega,by omega,by omega,?_⟩;have l:j.2.pl.sp.dn.right=true:=(Ab5.1 l).1;have:=Pl.E9.1 l;unfold tz;omega
 refine ⟨fun j f=>?_,fun j f=>?_,?_⟩
 .obtain ⟨a,b,c,_⟩:=g j f;exact ⟨by omega,by omega,by omega⟩
 .obtain ⟨_,_,c,d⟩:=g j f;exact ⟨d,c⟩
 .have:=h.j4.len;have e:T.pl.ab.length=T.js.length:=by simp [Tv.pl]
  omega
def Sp {t:di} (h:T.pl=t):T.js.length=t.ab.length:=by rw [<- h];simp [Tv.pl]
def Aws (vs:List ax):Fr vs ⟨0,-1,[],List.replicate vs.length oq,[]⟩:=by
 refine ⟨fun k j b=>by simp at b,by simp,⟨Db 0,by show (0:Int)<=1099511627776;decide⟩,⟨Db _,by show (-1:Int)<1099511627776;decide⟩,by simp,fun n a=>?_,by simp,fun p c=>by simp at c⟩;have a:n∈List.replicate vs.length oq:=a;rw [(U0.1 a).2];decide
def Aib {a d f:Nat} {vs:List ax} (k:ir w a d f vs) (b:Ir vs):Calls Tryz.prog 14 #[.pointer (some ⟨a,0,none⟩)] w fun e w'=>∃ T:Tv,e=.returned (.pointer (some ⟨T.tb,0,none⟩))/\Fs w T w'/\T.vs=vs/\T.pl=⟨0,-1,[],List.replicate vs.length oq,[]⟩/\T.fb=a/\T.fm=d/\T.fl=f/\T.js=[]/\Below w.heap.size w w':=
 (V5 k b).mono fun e w' h=>by
  obtain ⟨T,l,m,g,n,h1,o,p,i,c⟩:=h;have q:(T.js.map fun j=>j.2.pl)=[]:=by have:=Ca di.ab c;exact this
  exact ⟨T,l,⟨m,n,g,by rw [i,c];exact Aws vs⟩,i,c,h1,o,p,by simpa using q,g⟩
def I6 (x:cu) (h:Fs w0 T w) (b:x.ok w) (d:∀ i,Mod T.ay w i->Kc i x.so x.m x.cq) (f:x.n.kind=6->T.js.length<=20) {t':di} {c:Cl} {r:Int} (g:Mp T.vs T.pl x.pl->Cz T.vs T.pl x.pl=(t',c,r)) :
  Calls Tryz.prog 15 #[.pointer (some ⟨T.tb,0,none⟩),x.val] w fun e w'=>∃ a:Tv,e=.returned (.tuple #[E1 c,.int .i64 r])/\Fs w0 a w'/\a.pl=t'/\Ek w T a w':=
 (Awr x h b d f).mono fun e w' l=>by
  obtain ⟨a,j,h1,k,o,p⟩:=l;rw [g p] at j k;exact ⟨a,j,h1,k,o⟩
def G3 (h:Fs w0 T w) {k:Nat} {jp:Jb} (a:T.pl.ab[k]?=some jp) (b:Int) (i:b=(k:Int)+1) :
  Calls Tryz.prog 16 #[.pointer (some ⟨T.tb,0,none⟩),.int .i64 b] w fun e w'=>∃ y:ai,e=.returned (.tuple #[y.val,.bool true])/\y.pl=jp/\Below w.heap.size w w':=
 (Aud h.tab h.rows.1 b).mono fun e w' l=>by
  obtain ⟨m,⟨f,_⟩ | ⟨g,j,y,o,c,n,f⟩⟩:=l
  .have:k<T.js.length:=by have:=(Aq.1 a).1;simpa [Tv.pl] using this
   omega
  .have d:g=k:=(by omega);subst d;have a:(T.js.map fun j=>j.2.pl)[g]?=some jp:=a;rw [Bx,c] at a;injection a with a;exact ⟨y,n,by rw [f.pl];exact a,m⟩
def Aay (h:Fs w0 T w) (node:Int):Calls Tryz.prog 17 #[.pointer (some ⟨T.tb,0,none⟩),.int .i64 node] w fun e w'=>e=.returned (P3 T.pl.ab node).val/\Below w.heap.size w w':=
 Aui h.tab h.rows.2.1 (by have:=h.rows.2.2;omega) node
def Kp (n:bz) (w:World) (a:∀ i,-9223372036854775808<=n.get i/\n.get i<=9223372036854775807):(⟨n,none,0,0,[]⟩:cu).ok w:=⟨⟨rfl,Av _,fun i x b=>by simp at b⟩,Nat.le_refl _,a⟩
def Kq (W:World):Kc W none 0 []:=⟨rfl,by decide,fun i x a=>by simp at a⟩
end Go.Proofs.YtimlcnhcjndijaaGreatDoor
namespace Go.Proofs.YtimlcnhcjndijaaGreatDoor.Pl
open Go.RowKit
def Aic {a:List Nd} (d:a.length=1) (b:Int) (v:V4) (u:Int):fi a [0] b v u=if Ih a [0] b v u 0=true then [0] else []:=by
 have c:∀ j,1<=j->Ih a [0] b v u j=false:=fun j e=>by
  unfold Ih;rw [Aw (by omega)];rfl
 have h1:∀ k,Ii a [0] b v u (k+1)=Ii a [0] b v u 1:=fun k=>by
  induction k with
  | zero=>rfl
  | succ k ih=>rw [R8,c (k+1) (by omega),Ac (by simp),ih]
 unfold fi;rw [h1 15,R8];rfl
def Aid {c v:V4} {U:Bw} {p:List Nd} (k:Ba [c] U p) {a u:Int} (h0:0<=u) (h1:1<=a):Ih p [0] a v u 0=true↔u+a<=1099511627776/\∀ x,u<=x->x<u+a->(A3 (U 0 x) v).leq c:=by
 have b:p.length=1:=k.len;have:=Aq9 k (i:=0) (by omega) (v:=v) h0 h1;rw [show vv [c] 0=c from rfl] at this;simp only [Ih,Eo,Ja];rw [<- this];exact ⟨fun h=>h.2,fun h=>⟨⟨by omega,⟨0,by decide,rfl⟩⟩,h⟩⟩
def Xg {c:V4} {U:Bw} {p q:List Nd} {a:Ask} {b st T:Int} {zs:List Int} (k:Ba [c] U p) (h:Qn b [true] a st zs p q) (h1:a.ft=[0]) (h2:a.nodes=1) (z:a.can=true) (ac:0<=b) (hT:b<=T) (j:T+a.aa<=1099511627776)
  (f:∀ x,T<=x->x<T+a.aa->(A3 (U 0 x) a.v).leq c) (l:∀ u,b<=u->u<T->∃ x,u<=x/\x<u+a.aa/\¬ (A3 (U 0 x) a.v).leq c) :
  st=T/\zs=[0]/\Ba [c] (As U (jl [0] T (T+a.aa) a.v)) q:=by
 obtain ⟨_,p2,p3⟩:=Arj z;rcases h with ⟨c',_⟩ | ⟨_,t',xs,is,m,_,h4⟩
 .rw [z] at c';cases c'
 .have n:=m;rw [h1,show Bl (mr [true] [0])=[0] from by decide,h2] at m;have hl:p.length=1:=k.len;have g:fi p [0] a.aa a.v T=[0]:=by rw [Aic hl,Ad ((Aid k (by omega) (by omega)).2 ⟨j,f⟩)]
  obtain ⟨hi,ht,hx,r,e⟩:=Arh m (by decide) (by omega) p3 (T:=T) (by omega) (by omega) (by rw [g];decide) (fun u x1 x2=>by
   rw [Aic hl,Ac (fun d=>by
    obtain ⟨x,y1,y2,y3⟩:=l u (by omega) x2
    exact y3 (((Aid k (by omega) (by omega)).1 d).2 x y1 y2))]
   decide)
  subst hi;obtain ⟨h5,h6,r2,i⟩:=h4 rfl;have o:=(n.found.take k.loose i.1).1;subst o;rw [ht] at i
  have s:xs=[0]:=by
   rw [g] at e
   match xs,hx,e with
   | [y],_,e=>
    injection e with e _;rw [<- e]
  have t:Bl xs=[0]:=by rw [s];rfl
  rw [t] at h6 i;exact ⟨h5.trans ht,h6,(Wf k i).1⟩
def Aaz (fr a:Int) (v:V4) (x:Int):jl [0] fr a v 0 x=if fr<=x/\x<a then v else V4.zero:=by
 unfold jl;have b:Bv [0] ([0]:List Int).length 0:=⟨0,by decide,rfl⟩;by_cases c:fr<=x/\x<a
 .rw [Ad c,Ad ⟨b,c⟩]
 .rw [Ac c,Ac (fun d=>c d.2)]
structure Qy (a:Ask) (v:V4) (aa:Int):Prop where
 places:a.ft=[0]
 nodes:a.nodes=1
 v:a.v=v
 aa:a.aa=aa
 start:a.start=-1
def Xh {a:Ask} {v:V4} {t:Int} (h:Qy a v t) (b:0<t) (c:v.right=true):a.can=true:=by
 simp only [Ask.can,h.nodes,h.aa,h.v,Eo,Ja];exact ⟨⟨by decide,b⟩,c⟩
def Xi {b:Int} {f:List Bool} {a:Ask} {s:Au} {p q:List Nd} (h:Nh b f ((a,false),s) p q):s.id=a.id/\Qn b f a s.start s.dv p q:=by
 obtain ⟨m,c,e,d⟩:=h;rcases c with ⟨_,rfl⟩ | ⟨c,_⟩
 .exact ⟨e,d⟩
 .cases c
def Xj {e:Int} {g:List Bool} {a:Ask} {b:Bool} {p q:List Nd} (f:a.start=-1) (h:Lg e g (a,b) p q):q=p/\b=false:=by
 rcases h with ⟨_,c,d⟩ | ⟨c,_⟩ | ⟨c,_⟩
 .exact ⟨d,c⟩
 .exact absurd c (by show ¬ 0<=a.start;rw [f];decide)
 .exact absurd c (by show ¬ 0<=a.start;rw [f];decide)
def Aie {α:Type} {l:List α} (h:l.length=3):∃ a b c,l=[a,b,c]:=by
 match l,h with
 | [a,b,c],_=>exact ⟨a,b,c,rfl⟩
def Aif {α:Type} {l:List α} (h:l.length=1):∃ a,l=[a]:=by
 match l,h with
 | [a],_=>exact ⟨a,rfl⟩
def Awt {c v:V4} {d t:Int} {a:Ask} {b:List Au} (m:Kk [c] d [true] [] [a] b) (e:Qy a v t) (h1:0<t) (n:v.right=true) (o:v.leq c) (p:d+t<=1099511627776):b.map Au.key=[(a.id,d,[0])]:=by
 obtain ⟨ps,q1,q2,st,rd,q,r,f,s,g,h⟩:=m.go;obtain ⟨i,y,_⟩:=T9 q;have j:=i.lo;obtain ⟨k,rfl⟩:=Aif (l:=st) (by have:=Ca List.length f;simpa using this);obtain ⟨a1,b1⟩:=k;simp at f;subst f;obtain ⟨m1,z,g4⟩:=r;obtain ⟨rfl,rfl⟩:=Xj e.start z;cases g4;obtain ⟨y1,rfl⟩:=Aif (l:=rd) (by have:=Ca List.length g;simpa using this);obtain ⟨k,s1⟩:=y1;simp at g;subst g;obtain ⟨n1,f1,f4⟩:=s;obtain ⟨i1,d1⟩:=Xi f1
 obtain ⟨t1,z1,_⟩:=Xg y d1 e.places e.nodes (Xh e h1 n) j (T:=d) (by omega) (by rw [e.aa];exact p) (fun x _ _=>by
  rw [e.v];show (A3 V4.zero v).leq c;rw [Afg,Qo]
  exact o) (fun u k x2=>by omega)
 subst h;simp [Au.key,i1,t1,z1]
def Awu {a1 a2 a3:Ask} {a:List Au} (o:Kk [⟨2,2,0,0⟩] 1 [true] [] [a1,a2,a3] a) (c:Qy a1 ⟨1,0,0,0⟩ 13) (b:Qy a2 ⟨1,0,0,0⟩ 13) (d:Qy a3 ⟨1,0,0,0⟩ 13) :
  a.map Au.key=[(a1.id,1,[0]),(a2.id,1,[0]),(a3.id,14,[0])]:=by
 obtain ⟨ps,p,q2,st,rd,q,r,f,s,g,i⟩:=o.go;obtain ⟨_,j,_⟩:=T9 q;obtain ⟨h,e,k,rfl⟩:=Aie (l:=st) (by have:=Ca List.length f;simpa using this);obtain ⟨b1,c1⟩:=h;obtain ⟨b2,c2⟩:=e;obtain ⟨b3,c3⟩:=k;simp at f;obtain ⟨rfl,rfl,rfl⟩:=f;obtain ⟨m1,t,m2,y,m3,z,g4⟩:=r;obtain ⟨rfl,rfl⟩:=Xj c.start t;obtain ⟨rfl,rfl⟩:=Xj b.start y;obtain ⟨rfl,rfl⟩:=Xj d.start z;cases g4;obtain ⟨y1,y2,y3,rfl⟩:=Aie (l:=rd) (by have:=Ca List.length g;simpa using this);obtain ⟨h,s1⟩:=y1;obtain ⟨e,s2⟩:=y2;obtain ⟨k,s3⟩:=y3;simp at g;obtain ⟨rfl,rfl,rfl⟩:=g;obtain ⟨n1,f1,n2,f2,n3,f3,f4⟩:=s;obtain ⟨i1,d1⟩:=Xi f1;obtain ⟨i2,d2⟩:=Xi f2;obtain ⟨i3,d3⟩:=Xi f3;have j:Ba [⟨2,2,0,0⟩] l9 p:=j;obtain ⟨t1,z1,m⟩:=Xg j d1 c.places c.nodes (Xh c (by decide) (by decide)) (by decide) (T:=1) (by decide) (by rw [c.aa];decide) (fun x _ _=>by rw [c.v];simp [l9,A3,V4.leq,V4.zero]) (fun u h e=>by omega);rw [c.v,c.aa] at m
 obtain ⟨t2,z2,n⟩:=Xg m d2 b.places b.nodes (Xh b (by decide) (by decide)) (by decide) (T:=1) (by decide) (by rw [b.aa];decide) (fun x h e=>by
  rw [b.aa] at e;rw [b.v];simp only [As,l9,Aaz];rw [Ad (by omega)]
  simp [A3,V4.leq,V4.zero]) (fun u h e=>by omega)
 rw [b.v,b.aa] at n
 obtain ⟨t3,z3,k3⟩:=Xg n d3 d.places d.nodes (Xh d (by decide) (by decide)) (by decide) (T:=14) (by decide) (by rw [d.aa];decide) (fun x h e=>by
  rw [d.v];simp only [As,l9,Aaz];rw [Ac (by omega)]
  simp [A3,V4.leq,V4.zero]) (fun u h e=>⟨u,Db _,by rw [d.aa];omega,by
  rw [d.v];simp only [As,l9,Aaz];rw [Ad (by omega)]
  simp [A3,V4.leq,V4.zero]⟩)
 subst i;simp [Au.key,i1,i2,i3,t1,t2,t3,z1,z2,z3]
def Aig {c:V4} {a r:Int} {q:List Nd} (b:Iz [c] 1 a [] r q) (e:c.right=true) (h1:0<=a) (f:a<1099511627776):r=0:=by
 rcases b with ⟨d,_⟩ | ⟨_,g,l,⟨d,_⟩ | ⟨d,k,x,m,n,h,_,_⟩⟩
 .refine absurd ⟨by simp,fun i j=>?_,by simp,h1,f⟩ d
  have:i=0:=by simpa using j
  subst this;exact e
 .exact d
 .simp at h
end Go.Proofs.YtimlcnhcjndijaaGreatDoor.Pl
namespace Go.Proofs.YtimlcnhcjndijaaGreatDoor
open Go.RowKit
def uz:ByteArray:=⟨#[110,49,32,50,44,50,44,48,44,48,32,109,97,105,110,10]⟩
def Mq:ByteArray:=⟨#[109,97,105,110]⟩
def Dd:ByteArray:=⟨#[97,110,97]⟩
def fj:ax:=⟨⟨#[110,49]⟩,⟨2,2,0,0⟩,[Mq]⟩
def Awv:Mz uz=([fj],0,0):=by kernel_rfl
def nk:dp:=⟨Dd,Mq,1,⟨1,0,0,0⟩,5,0,3,0,false,[]⟩
def og (id:Int):Jb:=⟨id,{ nk with array:=1,after:=[] },⟨1,0,0,false,false⟩,-1,[],[]⟩
def wt (id:Int):Jb:=⟨id,{ nk with array:=1,after:=[] },⟨3,1,0,false,false⟩,1,[0],[(0,0)]⟩
def xj:Jb:=⟨1,{ nk with array:=1,after:=[] },⟨5,1,0,false,false⟩,1,[0],[]⟩
def vj:Jb:=⟨3,{ nk with array:=1,after:=[] },⟨1,0,0,false,false⟩,14,[0],[]⟩
def Aih:di:=⟨0,-1,[],[⟨false,false,-1⟩],[]⟩
def Ph:di:=⟨0,-1,[],[⟨true,false,0⟩],[]⟩
def Fu:di:=⟨0,-1,[(1,⟨1,0,1,3⟩)],[⟨true,false,0⟩],[og 1,og 2,og 3]⟩
def Xk:di:=⟨0,1,[(1,⟨1,0,1,3⟩)],[⟨true,false,0⟩],[wt 1,wt 2,vj]⟩
def Aa0:di:=⟨0,1,[(1,⟨1,0,1,3⟩)],[⟨true,false,0⟩],[xj,wt 2,vj]⟩
def Aii:ed:=⟨⟨9,0,0,0,0,0,0,0,0⟩,[]⟩
def Aa1:ed:=⟨⟨2,0,0,1,1,0,0,0,0⟩,[nk]⟩
def Xl:ed:=⟨⟨6,0,1,0,0,0,0,0,0⟩,[]⟩
def Aww:ed:=⟨⟨7,0,0,0,0,1,1,0,1⟩,[]⟩
def Awx:Cz [fj] Aih Aii=(Ph,⟨0,0,0,0⟩,0):=by kernel_rfl
def Awy:E0 1 [3] [[]]=([[]],0):=by
 have h1:Ij ([([]:List Int)].map (Jr 1 [3]))=true:=by kernel_rfl
 have a:(B9 1 [3] ([]:List Int) 0).2=[]:=by kernel_rfl
 unfold E0;rw [Ac (by decide),Ac (by decide),Ac (by decide),Ac (by rw [h1];simp)];have b:Fq 1 [3] []=[]:=by unfold Fq;show Lib.compact (Ez (B9 1 [3] ([]:List Int) 0).2)=[];rw [a];simp [Ez,Lib.compact,Lib.compactUpTo]
 simp [b]
def Aij:B5 [fj] 0 [nk]=([[]],0):=by
 have h:B5 [fj] 0 [nk]=E0 1 [3] [[]]:=by kernel_rfl
 rw [h,Awy]
def Awz:Cz [fj] Ph Aa1=(Fu,⟨0,0,1,3⟩,0):=by
 have h1:Dl [fj] Ph Aa1=(B5 [fj] 0 [nk]).2:=by kernel_rfl
 have a:Js [fj] Ph [nk]=(⟨0,-1,[],[⟨true,false,0⟩],[og 1,og 2,og 3]⟩,⟨0,0,1,3⟩):=by
  unfold Js;rw [show B5 [fj] Ph.ab.length [nk]=([[]],0) from Aij]
  kernel_rfl
 have b:dz [fj] Ph Aa1=Js [fj] Ph [nk]:=by kernel_rfl
 unfold Cz;rw [Ac (by rw [h1,Aij];simp),b,a];rfl
def Aw0:Cz [fj] Xk Aww=(Aa0,⟨0,0,0,0⟩,0):=by kernel_rfl
def Aw1:P3 Aa0.ab 0=⟨1,0,0,0⟩:=by kernel_rfl
def Aik:Cc 1 Fu.ab=Fu.ab:=by kernel_rfl
def Aw2:Bi Fu.ab=[⟨1,Dd,0,⟨1,0,0,0⟩⟩,⟨2,Dd,0,⟨1,0,0,0⟩⟩,⟨3,Dd,0,⟨1,0,0,0⟩⟩]:=by kernel_rfl
def Ail:E7 Fu.ab=[]:=by kernel_rfl
def Aw3:C8 Fu.ab=[]:=by kernel_rfl
def Aim:nf { Fu with tick:=1 }=[true]:=by kernel_rfl
def Qz:List cz:=[⟨1,Dd,0,⟨1,0,0,0⟩⟩,⟨2,Dd,0,⟨1,0,0,0⟩⟩,⟨3,Dd,0,⟨1,0,0,0⟩⟩]
def Aw4:Cq [] Qz=[⟨Dd,V4.zero,[0,1,2]⟩]:=by
 have h1:B6 Qz Qz.length=[⟨Dd,V4.zero,[0,1,2]⟩]:=by kernel_rfl
 have a:F3 Qz [0,1,2]=[0,1,2]:=by unfold F3;simp [List.mergeSort,List.MergeSort.Internal.splitInTwo,ur,A5,Qz]
 unfold Cq;rw [h1];simp [a]
def Aw5 (whole:V4) (a:whole=⟨2,2,0,0⟩):Jm whole [] Qz=[0,1,2]:=by
 subst a;have b:Et [⟨Dd,V4.zero,[0,1,2]⟩]=[Dd]:=by unfold Et;simp [Ss,Dd]
 unfold Jm;rw [Aw4,b];rfl
def Ain:Dk [fj] Fu.ab=[Ej [fj] (og 1),Ej [fj] (og 2),Ej [fj] (og 3)]:=by
 unfold Dk;rw [Aw2,Aw3];rw [show ([⟨1,Dd,0,⟨1,0,0,0⟩⟩,⟨2,Dd,0,⟨1,0,0,0⟩⟩,⟨3,Dd,0,⟨1,0,0,0⟩⟩]:List cz)=Qz from rfl,Aw5 _ (by kernel_rfl)]
 kernel_rfl
def Aa2 (a:Int):Pl.Qy (Ej [fj] (og a)) ⟨1,0,0,0⟩ 13:=⟨by show Ce [fj] Mq=[0];kernel_rfl,rfl,rfl,rfl,rfl⟩
def Aw6 (h:Mo [fj] 1 [true] Fu.ab):Gj [fj] 1 [true] Fu.ab=[(1,1,[0]),(2,1,[0]),(3,14,[0])]:=by
 unfold Mo at h;unfold Gj;rw [Ail,Ain] at h;rw [Ail,Ain];rcases h with ⟨r,h1,d⟩ | ⟨a,b⟩
 .exact absurd (Pl.Aig d (by decide) (by decide) (by decide)) h1
 .have e:=Pl.Awu (a1:=Ej [fj] (og 1)) (a2:=Ej [fj] (og 2)) (a3:=Ej [fj] (og 3)) b (Aa2 1) (Aa2 2) (Aa2 3);have c:=Zy b;rw [e] at c;exact c
def Aw7 (h:Mp [fj] Fu Xl):Cz [fj] Fu Xl=(Xk,⟨0,0,0,0⟩,0):=by
 have h1:Dl [fj] Fu Xl=0:=by kernel_rfl
 have a:=h h1 rfl;have a:Mo [fj] 1 (nf { Fu with tick:=1 }) (Cc 1 Fu.ab):=a;rw [Aim,Aik] at a;have b:dz [fj] Fu Xl=(Od [fj] Fu 1,⟨0,0,0,0⟩):=by kernel_rfl
 have c:Od [fj] Fu 1=Xk:=by
  unfold Od O5;rw [Aim,Aik,Aw6 a]
  kernel_rfl
 unfold Cz;rw [Ac (by rw [h1];simp),b,c];rfl
open Go.Maps Go.Lib
def Aw8:Ir [fj]:=by
 have h:=Abz (Gv uz) [] Yj;have e:(Bo [] (Gv uz)).1=[fj]:=by kernel_rfl
 rw [e] at h;exact h
def Aw9 (w:World) (c:Mx w):Calls Tryz.prog 13 #[.string ⟨#[110,49,32,50,44,50,44,48,44,48,32,109,97,105,110,10]⟩] w fun e w'=>e=.returned (.tuple #[.pointer (some ⟨w.heap.size+4,0,none⟩),.int .i64 0,.int .i64 0])/\Below w.heap.size w w'/\ir w' (w.heap.size+4) (w.heap.size+3) (w.heap.size+7) [fj]:=
 (Ye uz w c).mono fun e w' h=>by
  obtain ⟨p,a,d,b⟩:=h;rw [Awv] at a b;rcases b with ⟨h1,_⟩ | ⟨_,rfl,f⟩
  .exact absurd rfl h1
  .exact ⟨a,d,f⟩
def Aio {w:World} {T:Tv} (h:An w T) {b:Nat} {xs:List au} (f:w.heap[b]?=some (.cells (Ar au.cells xs).toArray 33 (0,0))) (m:xs.length<=1000) (d:∀ a,Mod T.ay w a->∀ x,x∈xs->x.ok a):∀ a,Mod T.ay w a->Kc a (some ⟨b,0,none⟩) xs.length xs:=fun a g=>by
 have c:=g.aq f (h.off f (by decide) (by decide) (by decide) (by decide) (by decide));refine ⟨rfl,by omega,fun i x k=>⟨b,0,rfl,Ab c,fun j l=>?_,d a g x (Aj k)⟩⟩;have e:∀ x:au,(au.cells x).size=13:=fun _=>rfl;rw [D2,Aa c (i*13+j),Lo];exact Iq e xs k l
def Aip (w:World) (hm:Mx w):Calls Tryz.prog 12 #[] w fun e w'=>e=.returned (.bool true)/\Below w.heap.size w w':=by
 have bb:=Aw9 w hm;have bc:=Aw8;replace ⟨bb,bc⟩:=H2 bb bc;go_enter Tryz.func12,Tryz.ntmps12;go_wp2_with fail;refine bb.out.mono ?_;rintro e w1 ⟨rfl,aQ,bd⟩;have be:=Aib bd bc.out;replace ⟨aQ,bd,be⟩:=H3 aQ bd be;go_wp2_with fail;refine be.out.mono ?_;rintro e w2 ⟨T,rfl,bf,aR,aI,bQ,bR,bS,bH,bI⟩;obtain ⟨tb,ht⟩:=Ex (T.tb);rw [<- ht];replace aI:T.pl=Aih:=aI;clear bQ bR bS;replace ⟨bf,aR,aI,bH,bI,ht⟩:=H6 bf aR aI bH bI ht;go_upto_region 6 with fail;obtain ⟨sb,bg⟩:=Ex (w2.heap.size);obtain ⟨W3,aS⟩:=Ex (w2.alloc (.cells #[.string ⟨#[97,110,97]⟩,.string ⟨#[109,97,105,110]⟩,.int .i64 1,.int .i64 1,.int .i64 0,.int .i64 0,.int .i64 0,.int .i64 5,.int .i64 0,.int .i64 3,.int .i64 0,.bool false,.slice none 0 0] 33 (0,0)));have bi:Below w2.heap.size w2 W3:=by rw [aS];exact Bn
 have aT:W3.heap[sb]?=some (.cells (⟨nk,none,0,0⟩:au).cells 33 (0,0)):=by rw [aS,bg];exact Af _ _
 have aU:=bf.out.drop bi;have b:=I6 ⟨⟨9,0,0,0,0,0,0,0,0⟩,none,0,0,[]⟩ aU (Kp _ _ (fun i=>by unfold bz.get;split<;>simp)) (fun W' _=>Kq W') (fun c=>absurd c (by decide)) (t':=Ph) (c:=⟨0,0,0,0⟩) (r:=0) (by rw [aR.out,aI.out];exact fun _=>Awx);rw [<- ht.out] at b;rw [<- aS,<- bg];clear aS bg;replace ⟨bi,aT,aU,b⟩:=H4 bi aT aU b;go_wp2_with fail;refine b.out.mono ?_;rintro e w4 ⟨T4,rfl,bk,aJ,aV⟩;have bl:=aV.mod.aq aT.out (aU.out.tab.off aT.out (by decide) (by decide) (by decide) (by decide) (by decide));have aW:=aV.vs.trans aR.out;have aX:tb=T4.tb:=by rw [aV.tb];exact ht.out
 clear aV;replace ⟨bk,aJ,bl,aW,aX⟩:=H5 bk aJ bl aW aX;obtain ⟨y0,y1,y2,y3,y4,y5,y6,y7,y8,y9,bJ,bK,bL⟩:=C13 bl.out;(try dsimp only at y0 y1 y2 y3 y4 y5 y6 y7 y8 y9 bJ bK bL);have bn:Below w4.heap.size w4 (w4.alloc (.cells #[.string ⟨#[97,110,97]⟩,.string ⟨#[109,97,105,110]⟩,.int .i64 1,.int .i64 1,.int .i64 0,.int .i64 0,.int .i64 0,.int .i64 5,.int .i64 0,.int .i64 3,.int .i64 0,.bool false,.slice none 0 0] 33 (0,0))):=Bn;have bs:(w4.alloc (.cells #[.string ⟨#[97,110,97]⟩,.string ⟨#[109,97,105,110]⟩,.int .i64 1,.int .i64 1,.int .i64 0,.int .i64 0,.int .i64 0,.int .i64 5,.int .i64 0,.int .i64 3,.int .i64 0,.bool false,.slice none 0 0] 33 (0,0))).heap[w4.heap.size]?=some (.cells (Ar au.cells [(⟨nk,none,0,0⟩:au)]).toArray 33 (0,0)):=Af _ _;have aY:=bk.out.drop bn
 have o:=Aio aY.tab bs (by decide) (fun W' _ x hx=>by
  rw [I7.1 hx]
  exact ⟨Tg W',Nat.le_refl _,by decide,by decide⟩)
 have b:=I6 ⟨⟨2,0,0,1,1,0,0,0,0⟩,some ⟨w4.heap.size,0,none⟩,1,1,[⟨nk,none,0,0⟩]⟩ aY ⟨o _ (Mod.refl _ _),Nat.le_refl _,fun i=>by unfold bz.get;split<;>simp⟩ o (fun c=>absurd (show (2:Int)=6 from c) (by decide)) (t':=Fu) (c:=⟨0,0,1,3⟩) (r:=0) (by rw [aW.out,aJ.out];exact fun _=>Awz);rw [<- aX.out] at b;replace ⟨bn,bs,aY,o,b⟩:=H5 bn bs aY o b;go_wp2_with fail;refine b.out.mono ?_;rintro e w6 ⟨T6,rfl,bv,p,bw⟩;have aZ:=bw.vs.trans aW.out;have a0:tb=T6.tb:=by rw [bw.tb];exact aX.out
 clear bw y0 y1 y2 y3 y4 y5 y6 y7 y8 y9 bJ bK bL;replace ⟨bv,p,aZ,a0⟩:=H4 bv p aZ a0;go_upto_region 8 with fail;obtain ⟨rb,bx⟩:=Ex (w6.heap.size);obtain ⟨W7,a1⟩:=Ex (w6.alloc (.cells #[.int .i64 0,.int .i64 1,.int .i64 3] 35 (0,0)));have bA:Below w6.heap.size w6 W7:=by rw [a1];exact Bn
 have a2:W7.heap[rb]?=some (.cells #[.int .i64 0,.int .i64 1,.int .i64 3] 35 (0,0)):=by rw [a1,bx];exact Af _ _
 have a3:=bv.out.drop bA;have bM:T6.js.length=3:=by have:=Ca (fun t:di=>t.ab.length) p.out;simpa [Tv.pl,Fu] using this
 have b:=I6 ⟨⟨6,0,1,0,0,0,0,0,0⟩,none,0,0,[]⟩ a3 (Kp _ _ (fun i=>by unfold bz.get;split<;>simp)) (fun W' _=>Kq W') (fun _=>by omega) (t':=Xk) (c:=⟨0,0,0,0⟩) (r:=0) (by rw [aZ.out,p.out];exact Aw7);rw [<- a0.out] at b;rw [<- a1,<- bx];clear a1 bx bM;replace ⟨bA,a2,a3,b⟩:=H4 bA a2 a3 b;go_wp2_with fail;refine b.out.mono ?_;rintro e w8 ⟨T8,rfl,bB,q,a4⟩;have a5:=a4.mod.aq a2.out (a3.out.tab.off a2.out (by decide) (by decide) (by decide) (by decide) (by decide));have bC:=a4.vs.trans aZ.out;have aK:tb=T8.tb:=by rw [a4.tb];exact a0.out
 clear a4;replace ⟨bB,q,a5,bC,aK⟩:=H5 bB q a5 bC aK;go_upto_region 9 with fail;obtain ⟨W9,bD⟩:=Ex (w8.alloc (.cells #[.int .i64 0,.int .i64 0,.int .i64 0] 35 (0,0)));have a6:Below w8.heap.size w8 W9:=by rw [bD];exact Bn
 obtain ⟨q8,bN⟩:=Ex (w8.heap.size);have a7:=Ae a6 a5.out (Ab a5.out);have a8:=bB.out.drop a6;have kj:=G3 a8 (k:=2) (jp:=vj) (by rw [q.out];rfl) 3 rfl;rw [<- aK.out] at kj;rw [<- bD,<- bN];clear bD bN;replace ⟨a6,a7,a8,kj⟩:=H4 a6 a7 a8 kj;go_wp2_with fail;refine kj.out.mono ?_;rintro e g ⟨y,rfl,hy,s⟩;have u:=Ae s a7.out (Ab a7.out);have v:=a8.out.drop s;have ys:y.pl.start=14:=by rw [hy];rfl
 have bE:y.pl.lf.st=1:=by rw [hy];rfl
 have z:(g.alloc (.cells Jz 46 (0,0))).heap[g.heap.size]?=some (.cells ai.zero.cells 46 (0,0)):=Af _ _;replace ⟨u,v,s,hy,ys,bE,z⟩:=H7 u v s hy ys bE z;go_upto_region 10 with (refine Df rfl 46 _ _ rfl g.heap.size y.cells rfl rfl 46 _ z.out Cj rfl (Dz y) ?_);obtain ⟨bO,hW⟩:=Ex ((g.alloc (.cells Jz 46 (0,0))).setRow g.heap.size y.cells);obtain ⟨jb,m⟩:=Ex (g.heap.size);have d:Below g.heap.size g bO:=by rw [hW];exact D9 Bn Ln _
 have a:bO.heap[jb]?=some (.cells y.cells 46 (0,0)):=by rw [hW,m];exact Dp _ _ _ _ 46 (0,0) z.out
 have n:¬ T8.ay jb:=fun c=>by have:=v.out.tab.mw c;omega
 rw [<- hW,<- m];clear hW m;have ac:=Ae d u.out (Ab u.out);have ad:=v.out.drop d;have b:=I6 ⟨⟨7,0,0,0,0,1,1,0,1⟩,none,0,0,[]⟩ ad (Kp _ _ (fun i=>by unfold bz.get;split<;>simp)) (fun W' _=>Kq W') (fun c=>absurd c (by decide)) (t':=Aa0) (c:=⟨0,0,0,0⟩) (r:=0) (by rw [bC.out,q.out];exact fun _=>Aw0);rw [<- aK.out] at b;clear d;replace ⟨ac,ad,a,b,n⟩:=H5 ac ad a b n;go_wp2_with fail;refine b.out.mono ?_;rintro e a9 ⟨bP,rfl,aL,f,al⟩;have am:=al.mod.aq ac.out (ad.out.tab.off ac.out (by decide) (by decide) (by decide) (by decide) (by decide));have an:=al.mod.aq a.out n.out;have ao:tb=bP.tb:=by rw [al.tb];exact aK.out
 clear al;replace ⟨aL,f,am,an,ao⟩:=H5 aL f am an ao;go_upto_region 11 with fail;obtain ⟨bT,aM⟩:=Ex (a9.alloc (.cells #[.int .i64 0,.int .i64 0,.int .i64 0] 35 (0,0)));have h:Below a9.heap.size a9 bT:=by rw [aM];exact Bn
 obtain ⟨bU,ba⟩:=Ex (a9.heap.size);have ap:=Ae h am.out (Ab am.out);have av:=Ae h an.out (Ab an.out);have aA:=aL.out.drop h;have kj:=G3 aA (k:=0) (jp:=xj) (by rw [f.out];rfl) 1 rfl;rw [<- ao.out] at kj;rw [<- aM,<- ba];clear aM ba;replace ⟨h,ap,av,aA,kj⟩:=H5 h ap av aA kj;go_wp2_with fail;refine kj.out.mono ?_;rintro e j ⟨y2,rfl,bF,l⟩;have aB:=Ae l ap.out (Ab ap.out);have aC:=Ae l av.out (Ab av.out);have aD:=aA.out.drop l;have aE:(j.alloc (.cells Jz 46 (0,0))).heap[j.heap.size]?=some (.cells ai.zero.cells 46 (0,0)):=Af _ _;replace ⟨aB,aC,aD,l,bF,aE⟩:=H6 aB aC aD l bF aE;go_upto_region 12 with (refine Df rfl 46 _ _ rfl j.heap.size y2.cells rfl rfl 46 _ aE.out Cj rfl (Dz y2) ?_);replace a:=a;clear a n;obtain ⟨aN,hW⟩:=Ex ((j.alloc (.cells Jz 46 (0,0))).setRow j.heap.size y2.cells);obtain ⟨bG,m⟩:=Ex (j.heap.size);have d:Below j.heap.size j aN:=by rw [hW];exact D9 Bn Ln _
 have a:aN.heap[bG]?=some (.cells y2.cells 46 (0,0)):=by rw [hW,m];exact Dp _ _ _ _ 46 (0,0) aE.out
 have n:¬ bP.ay bG:=fun c=>by have:=aD.out.tab.mw c;omega
 rw [<- hW,<- m];clear hW m;have aO:=Ae d aB.out (Ab aB.out);have aF:=Ae d aC.out (Ab aC.out);have aG:=aD.out.drop d;obtain ⟨b0,b1,b2⟩:=C3 aO;(try dsimp only at b0 b1 b2);have b3:aN.cell? ⟨jb,19,none⟩=some (.int .i64 14):=by rw [<- ys.out];exact Aa aF 19
 have b4:aN.cell? ⟨jb,14,none⟩=some (.int .i64 1):=by rw [<- bE.out];exact Aa aF 14
 have b5:aN.cell? ⟨bG,14,none⟩=some (.int .i64 5):=by
  have e:y2.pl.lf.st=5:=by rw [bF.out];rfl
  rw [<- e];exact Aa a 14
 have kb:=Aay aG 0;rw [f.out,<- ao.out,Aw1] at kb;have aH:=aQ.out.trans (aG.low.mono aQ.out.size);replace ⟨d,aO,aF,aG,a,kb,n,aH⟩:=H8 d aO aF aG a kb n aH
 have hq:∀ W:World,(Op.equalIn 10000 30 (.agg #[.int .i64 1,.int .i64 0,.int .i64 0,.int .i64 0]) (.agg #[.int .i64 1,.int .i64 0,.int .i64 0,.int .i64 0])).run Tryz.prog W=.ok true W:=fun W=>by
  have:=Te ⟨1,0,0,0⟩ ⟨1,0,0,0⟩ W;simpa using this
 go_wp2_with (go_at_call 17;(with_reducible refine (kb.out).mono ?_);rintro e bV ⟨rfl,aP⟩;replace aP:=Hh aP);go_ret;exact ⟨rfl,aH.out.trans (aP.out.mono aH.out.size)⟩
end Go.Proofs.YtimlcnhcjndijaaGreatDoor
