/- Parts of a proof. No condition. -/
import Derived.Test.YtimlcnhcjndijaaGreatDoorJ42
import Derived.Great.BuildSlice
set_option linter.all false
set_option maxRecDepth 100000
set_option maxHeartbeats 12800000
namespace Go.Proofs.YtimlcnhcjndijaaGreatDoor
open IntKind renaming i64->G
open Value renaming slice->V,int->Z,bool->Q,string->D,pointer->K
open Option renaming some->O,none->I
open Obj renaming cells->J
open Ending renaming returned->Y
open Go renaming World->WD
open Go.RowKit renaming Below->BW
open Go.Proofs.Tryz
section
open Go.RowKit Go.Maps Go.Lib
def A5a (A:Int):0<=bits .and G A 7/\bits .and G A 7<=7:=by
 show 0<=IntKind.i64.wrap ((BitVec.ofInt 64 A &&& BitVec.ofInt 64 7).toNat:Int)/\IntKind.i64.wrap ((BitVec.ofInt 64 A &&& BitVec.ofInt 64 7).toNat:Int)<=7;have h:(BitVec.ofInt 64 A &&& BitVec.ofInt 64 7).toNat<=7:=by rw[BitVec.toNat_and];exact Nat.and_le_right
 rw[IntKind.wrap_i64];omega
structure ue (w1:WD) (vs:List ar) (es:List dy) (i:Nat) (T:Tv) (wr:WD):Prop where
 di:Dt w1 T wr
 vs:T.vs=vs
 len:(T.js.length:Int)<=Jg (es.take i)
variable {w1 wr w':WD} {i:Nat} {vs:List ar} {es:List dy} {T T':Tv} {pv:Value} {L:List aj}
def ue.drop (h:ue w1 vs es i T wr) (a:BW wr.heap.size wr w'):ue w1 vs es i T w':=⟨h.di.drop a,h.vs,h.len⟩
def ue.fy {e a:dy} (h:ue w1 vs es i T wr) (g:Dt w1 T' w') (k:Eb wr T T' w') (b:T'.pl=(Bi T.vs T.pl a).1) (f:es.take (i+1)=es.take i++[e]) (j:a.specs=e.specs):ue w1 vs es (i+1) T' w':=by
 refine⟨g,k.vs.trans h.vs,?_⟩;have h1:=Ani (vs:=T.vs) (t:=T.pl) (e:=a);rw[<-b,j]at h1;have c:T'.pl.ab.length=T'.js.length:=by simp[Tv.pl]
 have d:T.pl.ab.length=T.js.length:=by simp[Tv.pl]
 rw[c,d]at h1;have:=h.len;rw[f,Aej];omega
structure j6 (pv:Value) (L:List aj) (T:Tv) (wr:WD):Prop where
 len:∃jo jc,pv=V jo L.length jc
 row:∀k y,L[k]?=O y->∃g cap,pv=V (O ⟨g,0,I⟩) L.length cap/\g<wr.heap.size/\¬T.ax g/\∀o,o<22->wr.cell? ⟨g,k*22+o,I⟩=y.cells[o]?
def j6.nil (T:Tv) (wr:WD):j6 (V I 0 0) [] T wr:=⟨⟨I,0,rfl⟩,λk y h=>by simp at h⟩
def j6.drop (h:j6 pv L T wr) (a:BW wr.heap.size wr w'):j6 pv L T w':=⟨h.len,λk y i=>by
 obtain⟨g,cap,e,b,d,c⟩:=h.row k y i
 exact⟨g,cap,e,Bq b a.size,d,λo f=>(Af a b).trans (c o f)⟩⟩
def j6.fy (h:j6 pv L T wr) (a:Eb wr T T' w'):j6 pv L T' w':=⟨h.len,λk y j=>by
 obtain⟨g,cap,e,b,d,f⟩:=h.row k y j;refine⟨g,cap,e,Bq b a.mod.size,λc=>?_,λo i=>?_⟩
 .rcases a.ax g c with c|c
  .exact d c
  .omega
 .rw [<-f o i]
  simp only[World.cell?,a.mod.block g b d]⟩
def j6.own {B:Nat} (h:Bc aj.cells 22 46 wr B pv L) (d:∀b,T.ax b->b<B):j6 pv L T wr:=by
 obtain⟨so,n,c,rfl,rfl,_⟩:=h.len;refine⟨⟨so,c,rfl⟩,λk y g=>?_⟩;obtain⟨b,i,rfl,a,rfl,e⟩:=Bc.cell (sz:=22) (cells:=aj.cells) (λ_=>rfl) h k y g;refine⟨b,c,rfl,a,λq=>?_,λo f=>?_⟩
 .have h1:=d b q;have j:=(h.lt b rfl).1;omega
 .rw [<-e o f];congr 2;omega
def j6.range (h:j6 pv L T wr) {k:Nat} {y:aj} (i:L[k]?=O y):∃g cap,pv=V (O ⟨g,0,I⟩) L.length cap/\∀W,BW wr.heap.size wr W->W.rangeAt g (k*22) y.cells.toList/\W.cell? ⟨g,k*22,I⟩=O (Z G y.pl.id)/\W.cell? ⟨g,k*22+19,I⟩=O (Z G y.pl.start):=by
 obtain⟨g,cap,e,c,_,b⟩:=h.row k y i;refine⟨g,cap,e,λW a=>⟨λj v d=>?_,?_,?_⟩⟩
 .have f:j<22:=(An.1 d).1;rw[Af a c,b j f,<-d,Pp]
 .exact (Af a c).trans (b 0 ad9)
 .exact (Af a c).trans (b 19 ad9)
def Ao6 {c:Array Oper} {rest:List Oper} {o:Oper} {a:Act} {w:WD} {Q9q:Exit->Act->WD->Prop} (f:o.guard=I) (x:Operand) (j:o.op=.buildSlice 57 1 #[(0,x)]) (y:aj) (k:a.eval x=.agg y.cells.toList.toArray)
  (h:wpList prog c Q9q rest (a.put o.dst (V (O ⟨w.heap.size,0,I⟩) 1 1)) (w.alloc (J y.cells 46 (0,0)))):wpList prog c Q9q (o :: rest) a w:=by
 obtain⟨m,g,d,b,l⟩:=Cf Ad0;have b:=b;refine wpList_buildSlice f 57 46 1 #[(0,x)] j y.cells m aj.zero.val Ws g d (by rw[b];decide) (by rw[b];decide) ?_ h;have e:(#[(0,x)].map λ(i,x)=>(i,a.eval x)).toList=[(0,.agg y.cells.toList.toArray)]:=by simp[k]
 rw[e,b];show _=_
 kernel_rfl
def Ao7 {α:Type} (p:α->Bool) {l:List α} {k:Nat} {x:α} (h:l[k]?=O x):(l.take (k+1)).filter p=(l.take k).filter p++if p x=true then[x]else[]:=by
 have e:l.take (k+1)=l.take k++[x]:=by obtain⟨a,e⟩:=An.1 h;rw[On,h];rfl
 rw[e,Nt];congr 1;by_cases c:p x=true
 .rw [Ad c,Km,Ad c];rfl
 .rw [Ac c,Km,Ac c];rfl
def Ao8 {vs:List ar} {t:dq} {e:dy} (h:(Bi vs t e).2.2≠0):(Bi vs t e).1=t:=by
 unfold Bi at h ⊢;split
 .rfl
 .rename_i c;rw[Ac c]at h;exact absurd rfl h
def Aac {vs:List ar} {t:dq} {e:dy} (h:(Bi vs t e).2.2=0):Ea vs t e=0:=by
 unfold Bi at h;split at h
 .exact h
 .rename_i c;by_cases q:Ea vs t e=0
  .exact q
  .exact absurd q c
def A5b {w:WD} {x:de} (h:x.ok w) {t:Int} (h1:-9223372036854775808<=t/\t<=9223372036854775807):({ x with n:={ x.n with tick:=t } }:de).ok w:=⟨h.dj,h.lr,λi=>by
 match i with
 | 0=>exact h.px 0
 | 1=>exact h.px 1
 | 2=>exact h1
 | 3=>exact h.px 3
 | 4=>exact h.px 4
 | 5=>exact h.px 5
 | 6=>exact h.px 6
 | 7=>exact h.px 7
 | 8=>exact h.px 8
 | n+9=>exact h.px (n+9)⟩
def A5c {vs:List ar} {t:dq} {e:dy} {L:List Jb} (m:Ec vs t) (d:vs.length<=16) (c:∀v,v∈vs->v.cap.right=true) (h:L=[]\/L0 vs t L) (h0:(Bi vs t e).2.2=0) (l:e.n.kind=6) (f:(∀p,p∈L->t.tick<p.start->e.n.tick<=p.start)\/t.tick<0) (s:Qs vs t e) :
  ∀p,p∈L->∃k:Nat,p.id=(k:Int)+1/\∃j,(Bi vs t e).1.ab[k]?=O j/\Lq p j:=by
 intro p g;rcases h with h|h
 .rw [h]at g;cases g
 .obtain ⟨a,b,_⟩:=h.stay p g;have u:=h.tick
  obtain⟨j,o,r⟩:=A48 m d c h (Aac h0) l (λq i=>by
   rcases f with f|f
   .exact f q i (h.stay q i).2.1
   .omega) s p g
  exact⟨(p.id-1).toNat,ao9,j,o,r⟩
def A5d {vs:List ar} {t:dq} {e:dy} {L:List Jb} (g:Ec vs t) (h:L=[]\/L0 vs t L) (h0:(Bi vs t e).2.2=0) (d:e.n.kind≠6) (c:e.n.kind≠5) (f:e.n.kind≠8) (a:e.n.kind≠10) (b:e.n.kind≠4):L=[]\/L0 vs (Bi vs t e).1 L:=by
 rcases h with h|h
 .exact .inl h
 .have:=Ao0 g h (Aac h0) d c f a;rw[Ac b]at this;exact .inr this
def A5e {vs:List ar} {t:dq} {e:dy} {L:List Jb} (b:Ec vs t) (h:L=[]\/L0 vs t L) (h0:(Bi vs t e).2.2=0) (a:e.n.kind=4):(L.filter λp=>decide (p.id≠e.n.br))=[]\/L0 vs (Bi vs t e).1 (L.filter λp=>decide (p.id≠e.n.br)):=by
 rcases h with h|h
 .rw [h];exact .inl rfl
 .have:=Ao0 b h (Aac h0) ao9 ao9 ao9 ao9;rw[Ad a]at this;exact .inr this
end
section
open Go.RowKit Go.Maps Go.Lib
structure zn (wi:WD) (eb:Nat) (x:de) (P:Int->Prop) (wx:WD):Prop where
 low:BW wi.heap.size wi wx
 ex:∃tk,P tk/\wx.heap[eb]?=O (J ({ x with n:={ x.n with tick:=tk } }:de).cells 40 (0,0))
def A5f (dE:∀W,Mx W->Calls prog 12 #[] W λe w'=>e=Y (Q true)/\BW W.heap.size W w') (w:WD) (hm:Mx w) (s:ByteArray) (so:Option Addr) (m c:Nat) (xs:List de) (hx:R0 w so m xs) (tk:Int) :
  Calls prog 6 #[D s,V so m c,Z G tk] w λe w'=>e=Y (Q true)/\BW w.heap.size w w':=by
 have ds:=dE w hm;replace⟨ds,hm,hx⟩:=H3 ds hm hx;clear dE;go_enter func6,ntmps6;go_wp2_with fail;refine ds.mono ?_;rintro e w1 ⟨rfl,b1⟩;have kb:=Am5 s w1 (hm.low b1);have cD:=hx.low b1;replace⟨b1,kb,cD⟩:=H3 b1 kb cD;go_wp2_with fail;refine kb.mono ?_;intro e w2 hB;rcases hB with⟨rfl,b2⟩|⟨T0,ns,fo,fn,fc,dW,n2,c2,rfl,hP,dc,hR,dF,cO⟩
 .unfold Rz;have cJ:BW w2.heap.size w2 (w2.alloc (J #[V I 0 0,Z G 0,Z G 0,V I 0 0,V I 0 0,V I 0 0] 59 (0,0))):=Bn;have ks:=Z0 so m c xs ((cD.low b2).low cJ);have d:=b1.trans ((b2.trans (cJ.mono b2.size)).mono b1.size);replace⟨b2,cJ,ks,d⟩:=H4 b2 cJ ks d;go_wp2_with fail;refine ks.mono ?_;rintro e w4 ⟨b,rfl,-,b4⟩;replace b4:=Hh b4;go_wp2_with fail;go_ret;exact⟨rfl,d.trans (b4.mono d.size)⟩
 replace⟨hP,dc,hR,dF,cO⟩:=H5 hP dc hR dF cO;go_upto_region 5 with fail;obtain⟨q,hq⟩:=Ex (w2.heap.size);obtain⟨W3,c1⟩:=Ex (w2.alloc (J #[V fo fn fc,Z G 0,Z G (-1),V I 0 0,V dW n2 c2,V I 0 0] 59 (0,0)));have b3:BW w2.heap.size w2 W3:=by rw[c1];exact Bn
 obtain⟨es,cs⟩:=Ex (xs.map de.pl);obtain⟨vs,cC⟩:=Ex (T0.vs);have ct:T0.js=[]:=by have:=Cv (λt:dq=>t.ab.length) dc.out;simpa[Tv.pl]using this
 have cG:ue w1 vs es 0 T0 W3:=⟨hP.drop b3,cC.symm,by rw[ct];simp[Jg]⟩;have ks:=Z0 so m c xs (cD.low (cG.di.low));rw[<-cs]at ks;rw[<-c1,<-hq];clear c1 hq;replace⟨b3,cG,ks,cs,cC,ct⟩:=H6 b3 cG ks cs cC ct;go_wp2_with fail;refine ks.mono ?_;rintro e w4 ⟨b,rfl,cQ,b4⟩;have cd:=cG.drop b4;have a8:=b1.trans (cd.di.low.mono b1.size);cases b
 .replace ⟨b4,cQ,cd,a8⟩:=H4 b4 cQ cd a8;go_wp2_with fail;go_ret;exact⟨rfl,a8.out⟩
 have bG:=cQ rfl;obtain⟨tb,ht⟩:=Ex (T0.tb);rw[<-ht];have da:=hx.len.symm;have dX:m<=60:=by have h1:=bG.len;rw[cs.out,Ar]at h1;omega
 have cB:vs.length<=16:=by have h1:=cO.len;rw[<-cC.out]at h1;exact h1
 have cp:=λv hv=>by
  have hv:v∈T0.vs:=by rw[<-cC.out];exact hv
  exact(cO.all v hv).ok.cap
 have cX:=j6.nil T0 w4;obtain⟨dI,b6,cb,bw,bx⟩:=Cf Ad0;obtain⟨qt,dR⟩:∃q,bits .and G tk 7=q:=⟨_,rfl⟩;have cP:=A5a tk;rw[dR]at cP;clear cQ;replace⟨b4,cd,a8,bG,ht,da,cB,cp⟩:=H8 b4 cd a8 bG ht da cB cp;replace⟨cX,b6,cb,bw,bx,cP⟩:=H6 cX b6 cb bw bx cP;go_wp2_with fail;go_loopw [12,13,14,15,16,17,18,19,20,21,22,23,24,25] (λpv iv _ _ _ _ _ _ _ _ _ _ _ _ wr=>∃(i:Nat) (T:Tv) (L:List aj) (po:Option Addr) (pc:Nat),pv=V po L.length pc/\iv=Z G i/\i<=m/\Hid (L.length<=100)/\Hid (tb=T.tb)/\Hid (j6 (V po L.length pc) L T wr)/\Hid (L.map (·.pl)=[]\/L0 vs T.pl (L.map (·.pl)))/\Hid (ue w1 vs es i T wr)) (λ_ iv _ _ _ _ _ _ _ _ _ _ _ _ _=>m-(intOf iv).toNat)
 case atStart=>exact⟨0,T0,[],I,0,rfl,rfl,As _,As _,ht,cX,.inl rfl,cd⟩
 case round=>
  rename WD=>wi
  obtain⟨i,T,L,po,pc,rfl,rfl,hi,aE,cx,cH,ck,hF⟩:=hrel;obtain⟨ln,av⟩:=Ex (L.length);rw[<-av]at cH aE ⊢;by_cases hc:i<m
  .have dO:(i:Int)<m:=ao9;have ea:(0:Int)<=(i:Int):=ao9;obtain⟨x,cS⟩:=Ge xs i (by have:=da.out;omega);obtain⟨b,ei,rfl,c9,c4,cf⟩:=cD.cell i x cS;have cR:es.take (i+1)=es.take i++[x.pl]:=Jq (by rw[cs.out,A7,cS];rfl);have bn:=hF.di;obtain⟨X,hX⟩:∃X:de,X=x:=⟨_,rfl⟩;obtain⟨⟨r,ai,tick,ag,seq,br,attempt,node,bq⟩,bI,em,ec,bA⟩:=x;obtain⟨e0,e1,e2,e3,e4,e5,e6,e7,e8,e9⟩:=Anj c4 bn.low c9 rfl;have dU:-1<=T.tick/\T.tick<1099511627776:=bn.ft.tick;obtain⟨tt,cA⟩:=Ex (T.tick);rw[<-cA]at dU;replace⟨cS,c9,c4,cf,cR,bn,hX,av⟩:=H8 cS c9 c4 cf cR bn hX av;replace cA:=Hh cA;go_upto_region 13 with fail;obtain⟨eb,bT⟩:=Ex (wi.heap.size);obtain⟨W0,cI⟩:=Ex (wi.alloc (J #[Z G r,Z G ai,Z G tick,Z G ag,Z G seq,Z G br,Z G attempt,Z G node,Z G bq,V bI em ec] 40 (0,0)));have b0:BW wi.heap.size wi W0:=(by rw[cI];exact Bn);have am:W0.heap[eb]?=O (J (⟨⟨r,ai,tick,ag,seq,br,attempt,node,bq⟩,bI,em,ec,bA⟩:de).cells 40 (0,0)):=(by rw[cI,bT];exact Ah _ _);rw[<-cI,<-bT];clear cI e0 e1 e2 e3 e4 e5 e6 e7 e8 e9;have aD:=hF.drop b0;have cv:=cf.px 2;by_cases h6:r=6
   .subst h6;have z0:=Bk am 0 (Z G 6) rfl
    have kt:∀W,BW W0.heap.size W0 W->Calls prog 28 #[K (O ⟨tb,0,I⟩)] W λe w'=>e=Y (Z G tt)/\w'=W:=λW hW=>by
     rw[cx.out,cA.out];exact Azn (aD.di.tab.low hW)
    replace⟨b0,am,aD,bT,cv,kt⟩:=H6 b0 am aD bT cv kt;go_upto_if 60 with(go_at_call 28;(with_reducible refine(kt.out _ (Below.refl _ _)).mono ?_);rintro e ej ⟨rfl,rfl⟩);go_cut [] (λwx=>zn wi eb (⟨⟨6,ai,tick,ag,seq,br,attempt,node,bq⟩,bI,em,ec,bA⟩:de) (λt=>(-9223372036854775808<=t/\t<=9223372036854775807)/\((∀p,p∈L.map (·.pl)->tt<p.start->t<=p.start)\/tt<0)) wx)
    case first=>
     by_cases ef:0<=tt
     .have dH:IntKind.i64.wrap (tt+1)=tt+1:=D4 _ ao9;have hq:=cP.out;have eg:IntKind.i64.wrap (tt+1+qt)=tt+1+qt:=D4 _ ao9;clear z0;go_wp2_with (go_at_call 28;(with_reducible refine(kt.out _ (Below.refl _ _)).mono ?_);rintro e wz ⟨rfl,rfl⟩)
      as_aux_lemma=>
       go_loopw [15,16] (λlv kv wr=>∃(k:Nat) (a:Int),lv=Z G a/\kv=Z G k/\k<=ln/\0<=a/\a<=1099511627790/\Hid (∀y,y∈L.take k->tt<y.pl.start->a<=y.pl.start)/\Hid (BW wz.heap.size wz wr)) (λ_ kv _=>ln-(intOf kv).toNat)
       case atStart=>exact⟨0,_,rfl,rfl,As _,ao9,ao9,λy hy=>by simp at hy,Below.refl _ _⟩
       case round=>
        rename WD=>wk
        obtain⟨k,a,rfl,rfl,hk,d7,d9,c8,d⟩:=hrel;have bY:=aE.out;by_cases c3:k<ln
        .have a7:(k:Int)<ln:=ao9;have c6:(0:Int)<=(k:Int):=ao9;obtain⟨y,hy⟩:=Ge L k (by have:=av.out;omega);obtain⟨g,cap,ew,aW⟩:=cH.range hy;injection ew with ew1 ew2 ew3;subst ew1;clear ew2 ew3;have bH:=(aW wk (b0.trans (d.mono b0.size))).2.2;have kq:=λq=>kt.out _ (d.trans ((A4 _ wk q).mono d.size));have ca:L.take (k+1)=L.take k++[y]:=(by rw[On,hy];rfl);obtain⟨ys,ch⟩:=Ex (y.pl.start);rw[<-ch]at bH;replace⟨hy,aW,kq,ca,ch⟩:=H5 hy aW kq ca ch;go_upto_region 18 with fail;go_quiet ((go_at_call 28;(with_reducible exact Gg (kq.out _))));rename_i nq;have f:=d.trans ((A4 _ wk nq).mono d.size);have bH:=(aW (wk.drewN nq) (b0.trans (f.mono b0.size))).2.2;rw[<-ch.out]at bH;replace f:=Hh f;by_cases hg:tt<ys
         .have hN:∀z,z∈L.take (k+1)->tt<z.pl.start->min a ys<=z.pl.start:=λz hz cE=>by
           rw[ca.out]at hz;rcases Dl.1 hz with hz|hz
           .have:=c8 z hz cE;omega
           .rw [Jj.1 hz,<-ch.out];omega
          replace hN:=Hh hN;go_wp2_with fail;go_roundw
          case rel=>exact⟨k+1,min a ys,rfl,by go_num,ao9,ao9,ao9,hN.out,f.out⟩
          case measure=>simp[intOf];omega
         .have hN:∀z,z∈L.take (k+1)->tt<z.pl.start->a<=z.pl.start:=λz hz cE=>by
           rw[ca.out]at hz;rcases Dl.1 hz with hz|hz
           .exact c8.out z hz cE
           .rw [Jj.1 hz,<-ch.out]at cE;exact absurd cE hg
          replace hN:=Hh hN;go_wp2_with fail;go_roundw
          case rel=>exact⟨k+1,a,rfl,by go_num,ao9,ao9,ao9,hN.out,f.out⟩
          case measure=>simp[intOf];omega
        .have a7:¬(k:Int)<ln:=ao9;have co:=Ae d.out am.out (Ab am.out);have z2:=Bk co 2 (Z G tick) rfl;have f2:=Ag co 2;have cr:BW wi.heap.size wi (wk.setCell ⟨eb,2,I⟩ (Z G a)):=E1 (b0.trans (d.mono b0.size)) (by rw[bT.out];exact Nat.le_refl _);have cw:=Ap co 2 (Z G a)
         have cm:∀p,p∈L.map (·.pl)->tt<p.start->a<=p.start:=λp hp dQ=>by
          obtain⟨y,hy,rfl⟩:=A5.1 hp;exact c8.out y (by rw[C4 (by have:=av.out;omega)];exact hy) dQ
         replace⟨co,cr,cw,cm⟩:=H4 co cr cw cm;go_wp2_with fail;go_meet
         case rel=>exact⟨cr.out,a,⟨ao9,.inl cm.out⟩,cw.out⟩
     .have d0:=cv.out;have dT:tt<0:=ao9;go_wp2_with fail;go_meet
      case rel=>exact⟨b0.out,tick,⟨cv.out,.inr dT⟩,am.out⟩
    case rest=>
    obtain⟨bl,dw,⟨cy,dd⟩,ap⟩:=hcut;have aN:=hF.drop bl;have b9:=A5b cf.out cy;have z0:=Aa ap 0;have z1:=Aa ap 1;have z2:=Aa ap 2;have z3:=Aa ap 3;have z4:=Aa ap 4;have z5:=Aa ap 5;have z6:=Aa ap 6;have z7:=Aa ap 7;have z8:=Aa ap 8;have z9:=Aa ap 9;simp at z0 z1 z2 z3 z4 z5 z6 z7 z8 z9;obtain⟨P,aR⟩:=Ex ((⟨⟨6,ai,dw,ag,seq,br,attempt,node,bq⟩,bI,em,ec,bA⟩:de).pl);have aS:P.n.kind=6:=(by rw[aR];rfl);have cZ:P.n.tick=dw:=(by rw[aR];rfl);have bP:P.specs=bA.map ay.pl:=by rw[aR];rfl
    have ka:=Zy (⟨⟨6,ai,dw,ag,seq,br,attempt,node,bq⟩,bI,em,ec,bA⟩:de) aN.di (b9.low aN.di.low) (aN.di.dj b9) (λ_=>by
     have h1:=aN.len;have h2:=Aeo es i;have h3:=bG.sum
     omega)
    obtain⟨⟨rs,re,rf,rl⟩,hR⟩:∃R,R=(Bi T.vs T.pl P).2.1:=⟨_,rfl⟩;obtain⟨er,aU⟩:=Ex ((Bi T.vs T.pl P).2.2);unfold Zx at ka;rw[<-aR,<-hR,<-aU,<-cx.out]at ka;clear kt am aD b0;replace⟨bl,cy,dd,ap,aN,b9,aR,aS⟩:=H8 bl cy dd ap aN b9 aR aS;replace⟨cZ,bP,hR,aU,ka⟩:=H5 cZ bP hR aU ka;go_wp2_with fail;refine ka.mono ?_;rintro e wA ⟨T',rfl,bN,aC,aT,bd⟩;have bK:=aN.fy bN aT aC cR.out bP.out;have bO:=(cH.drop bl.out).fy aT;have al:tb=T'.tb:=(by rw[aT.tb];exact cx.out);have ao:=aT.mod.au ap.out (aN.di.tab.off ap.out ad9 ad9 ad9 ad9 ad9);obtain⟨W8,bR⟩:=Ex (wA.alloc (J #[Z G re,Z G rf,Z G rl] 35 (0,0)));have b8:BW wA.heap.size wA W8:=(by rw[bR];exact Bn);have aF:=bK.drop b8;have be:=bO.drop b8;have bi:=Ae b8 ao (Ab ao);clear z0 z1 z2 z3 z4 z5 z6 z7 z8 z9;replace⟨bN,aC,aT,bd,bK,bO,al,ao⟩:=H8 bN aC aT bd bK bO al ao;replace⟨b8,aF,be,bi⟩:=H4 b8 aF be bi;go_upto_region 22 with fail;rw[<-bR];clear bR;by_cases bo:er=0
    .subst bo;have cT:(∀p,p∈L.map (·.pl)->T.pl.tick<p.start->P.n.tick<=p.start)\/T.pl.tick<0:=(by rw[cZ.out,show T.pl.tick=tt from cA.symm];exact dd.out);have bk:=A5c (L:=L.map (·.pl)) aN.di.ft (by rw[aN.vs];exact cB.out) (by rw[aN.vs];exact cp.out) (by rw[aN.vs];exact ck.out) aU.symm aS.out cT bd.out;have b7:=A49 aN.di.ft (Aac aU.symm) aS.out;rw[<-aC.out]at bk b7;clear cT;replace⟨bk,b7⟩:=H2 bk b7;have h:=aF.di.rows;have kj:=Ad1 aF.di.tab h.1 (by have:=h.2.2;omega);rw[<-al.out]at kj;replace⟨h,kj⟩:=H2 h kj;go_wp2_with fail;refine kj.mono ?_;intro e wJ hJ;obtain⟨sv,L',rfl,bM,hG⟩:=hJ;have bg:=Aep aF.di.tab ⟨h.1,h.2.1⟩ hG bM;obtain⟨jo,jc,rfl⟩:=Z3 hG;obtain⟨jl,aX⟩:=Ex (L'.length);rw[<-aX]at hG bg ⊢;have aQ:=aF.drop hG.low;have bC:=be.drop hG.low;have aZ:=Ae hG.low bi.out (Ab bi.out);have cM:jl<=100:=(by have:=h.2.2;omega);have z0:=Bk aZ 0 (Z G 6) rfl;replace⟨bM,hG,aX,aQ,bC,bg,aZ⟩:=H7 bM hG aX aQ bC bg aZ;go_wp2_with fail;clear z0
     as_aux_lemma=>
      go_loopw [20,21,22] (λkv _ _ wr=>∃(k:Nat),kv=Z G k/\k<=ln/\Hid (BW wJ.heap.size wJ wr)) (λkv _ _ _=>ln-(intOf kv).toNat)
      case atStart=>exact⟨0,rfl,As _,Below.refl _ _⟩
      case round=>
       rename WD=>wk
       obtain⟨k,rfl,hk,d⟩:=hrel;have bY:=aE.out;by_cases c3:k<ln
       .have a7:(k:Int)<ln:=ao9;have c6:(0:Int)<=(k:Int):=ao9;obtain⟨y,hy⟩:=Ge L k (by have:=av.out;omega);obtain⟨g,cap,ew,aW⟩:=bC.range hy;injection ew with ew1 ew2 ew3;subst ew1;clear ew2 ew3;have bs:=(aW wk d.out).1;obtain⟨qn,dk,j,cN,c7⟩:=bk y.pl (F1 (Ai hy));obtain⟨y2,bc,dV⟩:∃y2,L'[qn]?=O y2/\y2.pl=j:=(by rw[<-bg.fi,A7]at cN;obtain⟨z,a,b⟩:=K5.1 cN;exact⟨z,a,b⟩);subst dV;have ed:qn<jl:=(by rw[aX.out];exact(An.1 bc).1);have dY:(qn:Int)<jl:=ao9;have dZ:(0:Int)<=(qn:Int):=ao9;have dH:IntKind.i64.wrap (y.pl.id-1)=(qn:Int):=(by rw[dk,D4 _ ao9];omega);obtain⟨g2,dA,_,_,cj,_,a0⟩:=Z2 hG.out bc;rw[<-aX.out]at cj;injection cj with esv1 esv2 esv3;subst esv1;clear esv2 esv3;replace⟨hy,aW,bs,cN,c7,dk,bc,a0⟩:=H8 hy aW bs cN c7 dk bc a0;obtain⟨WZ,bf⟩:=Ex (wk.alloc (J Jz 46 (0,0)));have hz:WZ.heap[wk.heap.size]?=O (J aj.zero.cells 46 (0,0)):=(by rw[bf];exact Ah _ _);have aH:BW wk.heap.size wk (WZ.setRow wk.heap.size y.cells):=Og (by rw[bf];exact Bn) Ln _;have aL:=La WZ wk.heap.size _ y.cells 46 (0,0) hz;replace⟨hz,aH,aL⟩:=H3 hz aH aL;go_upto_region 28 with fail;go_upto_region 29 with(first|(refine wpList_load_mid rfl 46 _ rfl g (k*22) rfl y.cells.toList _ bs.out K8 rfl Fi ?_)|(rw[<-bf];refine L2 rfl 46 _ _ rfl wk.heap.size y.cells rfl rfl 46 _ hz.out Fi rfl (Lw y) ?_));simp only[Act.put];obtain⟨bp,cL⟩:=Ex (wk.heap.size);obtain⟨W5,dC⟩:=Ex (WZ.setRow bp y.cells);rw[<-cL]at aH aL ⊢;rw[<-dC]at aH aL ⊢;have cU:BW wk.heap.size wk W5:=(by rw[cL]at aH;exact aH.out);have bF:∀W,BW W5.heap.size W5 W->∀o,o<22->W.cell? ⟨bp,o,I⟩=y.cells[o]?:=λW hW o ho=>Aa (Ae hW aL.out (Ab aL.out)) o;clear dC aH aL hz bf;have a9:=d.trans (cU.mono d.size);have p0:=bF W5 (Below.refl _ _) 0 ad9;simp at p0
        have bv:W5.rangeAt g2 (qn*22) y2.cells.toList:=λo v hv=>by
         have ho:o<22:=(An.1 hv).1;rw[a0 W5 a9 o ho,<-hv,Pp]
        clear cU;replace⟨cL,bF,a9,bv⟩:=H4 cL bF a9 bv;obtain⟨WZ,bf⟩:=Ex (W5.alloc (J Jz 46 (0,0)));have hz:WZ.heap[W5.heap.size]?=O (J aj.zero.cells 46 (0,0)):=(by rw[bf];exact Ah _ _);have aH:BW W5.heap.size W5 (WZ.setRow W5.heap.size y2.cells):=Og (by rw[bf];exact Bn) Ln _;have aL:=La WZ W5.heap.size _ y2.cells 46 (0,0) hz;replace⟨hz,aH,aL⟩:=H3 hz aH aL;go_upto_region 29 with fail;go_upto_region 30 with(first|(refine wpList_load_mid rfl 46 _ rfl g2 (qn*22) rfl y2.cells.toList _ bv.out K8 rfl Fi ?_)|(rw[<-bf];refine L2 rfl 46 _ _ rfl W5.heap.size y2.cells rfl rfl 46 _ hz.out Fi rfl (Lw y2) ?_));simp only[Act.put];obtain⟨bj,cK⟩:=Ex (W5.heap.size);obtain⟨W7,dD⟩:=Ex (WZ.setRow bj y2.cells);rw[<-cK]at aH aL ⊢;rw[<-dD]at aH aL ⊢;have cc:BW W5.heap.size W5 W7:=(by rw[cK]at aH;exact aH.out);have bE:∀W,BW W7.heap.size W7 W->∀o,o<22->W.cell? ⟨bj,o,I⟩=y2.cells[o]?:=λW hW o ho=>Aa (Ae hW aL.out (Ab aL.out)) o;clear dD aH aL hz bf;have aV:=a9.trans (cc.mono a9.size);have dM:=bF W7 cc 15 ad9;have dN:=bF W7 cc 19 ad9;have dJ:=bE W7 (Below.refl _ _) 14 ad9;have dK:=bE W7 (Below.refl _ _) 15 ad9;have dL:=bE W7 (Below.refl _ _) 19 ad9;simp at dM dN dJ dK dL;obtain⟨pa,db⟩:=Ex (y.pl.lf.bh);obtain⟨ps,dg⟩:=Ex (y.pl.start);obtain⟨ja,c5⟩:=Ex (y2.pl.lf.bh);obtain⟨js,bV⟩:=Ex (y2.pl.start);obtain⟨jt,bW⟩:=Ex (y2.pl.lf.st);have an:=c7.out;unfold Lq at an;rw[<-db,<-dg,<-c5,<-bV,<-bW]at an;rw[<-db]at dM;rw[<-dg]at dN;rw[<-c5]at dK;rw[<-bV]at dL;rw[<-bW]at dJ;clear p0 db dg c5 bV bW cc dH;replace⟨aV,cK,bE⟩:=H3 aV cK bE;by_cases a1:ja=pa
        .subst a1;by_cases a2:jt=1
         .subst a2;have a3:¬js<0:=λc=>an.1 ⟨rfl,rfl,.inl c⟩;have a4:¬ps<js:=λc=>an.1 ⟨rfl,rfl,.inr c⟩;replace an:=Hh an;go_wp2_with fail;go_roundw
          case rel=>exact⟨k+1,by go_num,ao9,aV.out⟩
          case measure=>simp[intOf];omega
         .have d2:(jt == (1:Int))=false:=(by simpa using a2);replace⟨an,a2⟩:=H2 an a2;go_wp2_with fail;go_roundw
          case rel=>exact⟨k+1,by go_num,ao9,aV.out⟩
          case measure=>simp[intOf];omega
        .have d1:(ja == pa)=false:=(by simpa using a1);by_cases a5:pa<ja
         .have a6:¬ps<js:=λc=>an.2 ⟨a5,c⟩;replace⟨an,a1⟩:=H2 an a1;go_wp2_with fail;go_roundw
          case rel=>exact⟨k+1,by go_num,ao9,aV.out⟩
          case measure=>simp[intOf];omega
         .replace ⟨an,a1⟩:=H2 an a1;go_wp2_with fail;go_roundw
          case rel=>exact⟨k+1,by go_num,ao9,aV.out⟩
          case measure=>simp[intOf];omega
       .have a7:¬(k:Int)<ln:=ao9
        as_aux_lemma=>
         obtain⟨wB,dl⟩:=Ex (wk);have bZ:BW wJ.heap.size wJ wB:=(by rw[dl];exact d.out);rw[<-dl];clear dl d;have aI:Bc aj.cells 22 46 wB wB.heap.size (V I 0 0) []:=Bc.nil _ _ _ _ _;replace⟨bZ,aI⟩:=H2 bZ aI;go_wp2_with fail;go_loopw [12,23] (λrv kv wr=>∃(k:Nat) (R:List aj) (ro:Option Addr) (rn rc:Nat),rv=V ro rn rc/\kv=Z G k/\k<=jl/\rn<=k/\Hid (R.length=rn)/\Hid (R=(L'.take k).filter λz=>Gf z.pl)/\Hid (Bc aj.cells 22 46 wr wB.heap.size (V ro rn rc) R)/\Hid (BW wB.heap.size wB wr)) (λ_ kv _=>jl-(intOf kv).toNat)
         case atStart=>exact⟨0,[],I,0,0,rfl,rfl,As _,Nat.le_refl _,rfl,rfl,aI.out,Below.refl _ _⟩
         case round=>
          rename WD=>wr
          obtain⟨k,R,ro,rn,rc,rfl,rfl,hk,dS,aO,bD,bb,d⟩:=hrel;by_cases c3:k<jl
          .have a7:(k:Int)<jl:=ao9;have c6:(0:Int)<=(k:Int):=ao9;obtain⟨y2,bc⟩:=Ge L' k (by have:=aX.out;omega);obtain⟨g2,dA,_,_,cj,_,a0⟩:=Z2 hG.out bc;rw[<-aX.out]at cj;injection cj with esv1 esv2 esv3;subst esv1;clear esv2 esv3;have l:=bZ.trans (d.mono bZ.size);have cF:=a0 wr l 14 ad9;have bH:=a0 wr l 19 ad9;simp at cF bH
           have bv:wr.rangeAt g2 (k*22) y2.cells.toList:=λo v hv=>by
            have ho:o<22:=(An.1 hv).1;rw[a0 wr l o ho,<-hv,Pp]
           have ac:=Ao7 (λz:aj=>Gf z.pl) bc;by_cases a1:Gf y2.pl=true
           .obtain ⟨a2,a3⟩:=Jy.1 a1;rw[a2]at cF;rw[Ad a1]at ac;have ao:BW wr.heap.size wr (wr.alloc (J y2.cells 46 (0,0))):=Bn;have aB:=bb.low ao;have aA:=d.trans (ao.mono d.size);have b5:(wr.alloc (J y2.cells 46 (0,0))).heap[wr.heap.size]?=O (J y2.cells 46 (0,0)):=Ah _ _;have ba:∀u∈y2.cells.toList,u.oneCell'=true:=λu hu=>Aaf.1 (Lw y2) u (by simpa using hu);have aP:=aA.size;clear a1 a2;replace⟨bc,a0,l,bv,ac,ao,aB,aA⟩:=H8 bc a0 l bv ac ao aB aA;replace⟨b5,ba,aP⟩:=H3 b5 ba aP;go_upto_region 39 with fail;clear cF bH a3;go_wp2_with (first|(refine wpList_load_mid rfl 46 _ rfl g2 (k*22) rfl y2.cells.toList _ bv.out K8 rfl Fi ?_)|(refine Ao6 rfl _ rfl y2 (by first|rfl|simp) ?_)|(at_builtin;refine Vp (cells:=aj.cells) (sz:=22) rfl _ _ 57 rfl wB.heap.size dI _ 232 Ws b6.out cb.out bw.out bx.out rfl (Iy _) ad9 (λ_=>rfl) (V ro rn rc) rfl rn aB.out aO.out wr.heap.size 1 rfl y2 ba.out b5.out ao9 aP.out ?_;intro g9 ci w9 h9 bU cl;replace⟨h9,bU,cl⟩:=H3 h9 bU cl));have ad:=aA.trans ((Mod.grown (S:=λq=>(Value.slice ro rn rc).ownBlock=O q) bU.out (λq hq=>hq)).below aP.out λq hq=>(aB.lt q hq).1);replace ad:=Hh ad;go_roundw
            case rel=>exact⟨k+1,R++[y2],O ⟨g9,0,I⟩,rn+1,ci,rfl,by go_num,ao9,ao9,by rw[Cn,aO.out];rfl,by show R++[y2]=_;rw[ac.out,<-bD.out],h9.out,ad.out⟩
            case measure=>simp[intOf];omega
           .rw [Ac a1,Nv]at ac;have a2:Gf y2.pl=false:=(by simpa using a1);obtain⟨jt,bW⟩:=Ex (y2.pl.lf.st);obtain⟨js,bV⟩:=Ex (y2.pl.start);have a3:¬(jt=1/\0<=js):=λc=>a1 (Jy.2 (by rw[<-bW,<-bV];exact c));rw[<-bW]at cF;rw[<-bV]at bH;clear a1 a2 bW bV;replace⟨bc,a0,l,bv,ac⟩:=H5 bc a0 l bv ac;by_cases a4:jt=1
            .subst a4;have a5:¬0<=js:=λc=>a3 ⟨rfl,c⟩;have a6:js<0:=ao9;replace a3:=Hh a3;go_wp2_with fail;go_roundw
             case rel=>exact⟨k+1,R,ro,rn,rc,rfl,by go_num,ao9,ao9,aO.out,by rw[ac.out];exact bD.out,bb.out,d.out⟩
             case measure=>simp[intOf];omega
            .have d4:(jt == (1:Int))=false:=(by simpa using a4);replace⟨a3,a4⟩:=H2 a3 a4;go_wp2_with fail;go_roundw
             case rel=>exact⟨k+1,R,ro,rn,rc,rfl,by go_num,ao9,ao9,aO.out,by rw[ac.out];exact bD.out,bb.out,d.out⟩
             case measure=>simp[intOf];omega
          .have a7:¬(k:Int)<jl:=ao9;have bX:L'.take k=L':=C4 (by have:=aX.out;omega);have bQ:R.map (·.pl)=T'.pl.ab.filter Gf:=(by rw[bD.out,bX,<-bg.fi,Uc];rfl);have l:=bZ.trans (d.mono bZ.size);have bL:=aQ.drop l;have bS:=Ae l aZ.out (Ab aZ.out);have z0:=Bk bS 0 (Z G 6) rfl
           have aY:j6 (V ro R.length rc) R T' wr:=j6.own (B:=wB.heap.size) (by rw[aO.out];exact bb.out) λb c=>by
            have h1:=aQ.di.tab.iu c;have h2:=bZ.size;omega
           have bB:R.map (·.pl)=[]\/L0 vs T'.pl (R.map (·.pl)):=(by rw[bQ];have h1:=b7.out;rw[aN.vs]at h1;exact h1);have aG:R.length<=100:=(by have:=aO.out;omega);replace⟨bX,bQ,l,bL,bS,aY,bB,aG⟩:=H8 bX bQ l bL bS aY bB aG;go_wp2_with fail;go_roundw
           case rel=>exact⟨i+1,T',R,ro,rc,by rw[aO.out],by go_num,ao9,aG.out,al.out,aY.out,bB.out,bL.out⟩
           case measure=>simp[intOf];omega
    .have dG:=bo;have aK:T'.pl=T.pl:=(by rw[aC.out];exact Ao8 (by rw[<-aU.out];exact bo));have dP:(er != 0)=true:=(by simpa using bo);have aM:=ck.out;rw[<-aK]at aM;replace⟨aK,aM⟩:=H2 aK aM;go_wp2_with fail;go_roundw
     case rel=>exact⟨i+1,T',L,po,pc,by rw[<-av.out],by go_num,ao9,by rw[<-av.out];exact aE.out,al.out,by rw[<-av.out];exact be.out,aM.out,aF.out⟩
     case measure=>simp[intOf];omega
   .have d6:(r == (6:Int))=false:=(by simpa using h6);have z0:=Aa am 0;have z1:=Aa am 1;have z2:=Aa am 2;have z3:=Aa am 3;have z4:=Aa am 4;have z5:=Aa am 5;have z6:=Aa am 6;have z7:=Aa am 7;have z8:=Aa am 8;have z9:=Aa am 9;simp at z0 z1 z2 z3 z4 z5 z6 z7 z8 z9;obtain⟨P,aR⟩:=Ex ((⟨⟨r,ai,tick,ag,seq,br,attempt,node,bq⟩,bI,em,ec,bA⟩:de).pl);have aS:P.n.kind=r:=(by rw[aR];rfl);have cY:P.n.br=br:=(by rw[aR];rfl);have bP:P.specs=bA.map ay.pl:=by rw[aR];rfl
    have ka:=Zy (⟨⟨r,ai,tick,ag,seq,br,attempt,node,bq⟩,bI,em,ec,bA⟩:de) aD.di (cf.low aD.di.low) (aD.di.dj cf.out) (λ_=>by
     have h1:=aD.len;have h2:=Aeo es i;have h3:=bG.sum
     omega)
    obtain⟨⟨rs,re,rf,rl⟩,hR⟩:∃R,R=(Bi T.vs T.pl P).2.1:=⟨_,rfl⟩;obtain⟨er,aU⟩:=Ex ((Bi T.vs T.pl P).2.2);unfold Zx at ka;rw[<-aR,<-hR,<-aU,<-cx.out]at ka;have ap:=am;clear cv;replace⟨b0,am,ap,aD,bT,aR,aS,cY⟩:=H8 b0 am ap aD bT aR aS cY;replace⟨bP,hR,aU,ka⟩:=H4 bP hR aU ka;go_wp2_with fail;refine ka.mono ?_;rintro e wA ⟨T',rfl,bN,aC,aT,bd⟩;have bK:=aD.fy bN aT aC cR.out bP.out;have bO:=(cH.drop b0.out).fy aT;have al:tb=T'.tb:=(by rw[aT.tb];exact cx.out);have ao:=aT.mod.au ap.out (aD.di.tab.off ap.out ad9 ad9 ad9 ad9 ad9);obtain⟨W8,bR⟩:=Ex (wA.alloc (J #[Z G re,Z G rf,Z G rl] 35 (0,0)));have b8:BW wA.heap.size wA W8:=(by rw[bR];exact Bn);have aF:=bK.drop b8;have be:=bO.drop b8;have bi:=Ae b8 ao (Ab ao);clear z0 z1 z2 z3 z4 z5 z6 z7 z8 z9;replace⟨bN,aC,aT,bd,bK,bO,al,ao⟩:=H8 bN aC aT bd bK bO al ao;replace⟨b8,aF,be,bi⟩:=H4 b8 aF be bi;go_upto_region 22 with fail;rw[<-bR];clear bR;by_cases bo:er=0
    .subst bo;have h:=aF.di.rows;have kj:=Ad1 aF.di.tab h.1 (by have:=h.2.2;omega);rw[<-al.out]at kj;replace⟨h,kj⟩:=H2 h kj;go_wp2_with fail;refine kj.mono ?_;intro e wJ hJ;obtain⟨sv,L',rfl,bM,hG⟩:=hJ;have bg:=Aep aF.di.tab ⟨h.1,h.2.1⟩ hG bM;obtain⟨jo,jc,rfl⟩:=Z3 hG;obtain⟨jl,aX⟩:=Ex (L'.length);rw[<-aX]at hG bg ⊢;have aQ:=aF.drop hG.low;have bC:=be.drop hG.low;have aZ:=Ae hG.low bi.out (Ab bi.out);have cM:jl<=100:=(by have:=h.2.2;omega);have z0:=Bk aZ 0 (Z G r) rfl;replace⟨bM,hG,aX,aQ,bC,bg,aZ⟩:=H7 bM hG aX aQ bC bg aZ;by_cases ce:r=8
     .skip
      subst ce;go_wp2_with fail;go_roundw
      case rel=>exact⟨i+1,T',[],I,0,rfl,by go_num,ao9,As _,al.out,j6.nil _ _,.inl rfl,aQ.out⟩
      case measure=>simp[intOf];omega
     by_cases h8:r=10
     .have ce:=h8;subst ce;go_wp2_with fail;go_roundw
      case rel=>exact⟨i+1,T',[],I,0,rfl,by go_num,ao9,As _,al.out,j6.nil _ _,.inl rfl,aQ.out⟩
      case measure=>simp[intOf];omega
     by_cases bJ:r=5
     .have ce:=bJ;subst ce;go_wp2_with fail;go_roundw
      case rel=>exact⟨i+1,T',[],I,0,rfl,by go_num,ao9,As _,al.out,j6.nil _ _,.inl rfl,aQ.out⟩
      case measure=>simp[intOf];omega
     by_cases h5:r=4
     .subst h5
      as_aux_lemma=>
       have cV:(L.map (·.pl)).filter (λp=>decide (p.id≠br))=[]\/L0 vs T'.pl ((L.map (·.pl)).filter λp=>decide (p.id≠br)):=(by have h1:=A5e (e:=P) (L:=L.map (·.pl)) aD.di.ft (by rw[aD.vs];exact ck.out) aU.symm aS.out;rw[<-aC.out,aD.vs,cY.out]at h1;exact h1);have aI:Bc aj.cells 22 46 wJ wJ.heap.size (V I 0 0) []:=Bc.nil _ _ _ _ _;replace⟨cV,aI⟩:=H2 cV aI;go_wp2_with fail;go_loopw [24,25] (λrv kv wr=>∃(k:Nat) (R:List aj) (ro:Option Addr) (rn rc:Nat),rv=V ro rn rc/\kv=Z G k/\k<=ln/\rn<=k/\Hid (R.length=rn)/\Hid (R=(L.take k).filter λz=>decide (z.pl.id≠br))/\Hid (Bc aj.cells 22 46 wr wJ.heap.size (V ro rn rc) R)/\Hid (BW wJ.heap.size wJ wr)) (λ_ kv _=>ln-(intOf kv).toNat)
       case atStart=>exact⟨0,[],I,0,0,rfl,rfl,As _,Nat.le_refl _,rfl,rfl,aI.out,Below.refl _ _⟩
       case round=>
        rename WD=>wr
        obtain⟨k,R,ro,rn,rc,rfl,rfl,hk,dS,aO,bD,bb,d⟩:=hrel;by_cases c3:k<ln
        .have a7:(k:Int)<ln:=ao9;have c6:(0:Int)<=(k:Int):=ao9;have bY:=aE.out;obtain⟨y,hy⟩:=Ge L k (by have:=av.out;omega);obtain⟨g,cap,ew,aW⟩:=bC.range hy;injection ew with ew1 ew2 ew3;subst ew1;clear ew2 ew3;have c0:=(aW wr d.out).2.1;have bS:=Ae d.out aZ.out (Ab aZ.out);have z5:=Bk bS 5 (Z G br) rfl;have ac:=Ao7 (λz:aj=>decide (z.pl.id≠br)) hy;obtain⟨yi,dr⟩:=Ex (y.pl.id);rw[<-dr]at c0 ac;replace⟨hy,aW,bS,ac,dr⟩:=H5 hy aW bS ac dr;go_upto_region 47 with fail;go_quiet (fail);rename_i nq;clear c0 z5;have f:=d.trans ((A4 _ wr nq).mono d.size);have aJ:=bb.low (A4 _ wr nq);obtain⟨W2,dB⟩:=Ex (wr.drewN nq);rw[<-dB]at f aJ ⊢;clear dB;have bs:=(aW W2 f).1;have ac:=ac.out;by_cases a1:yi=br
         .have d1:(yi != br)=false:=(by simpa using a1);rw[Ac (by simpa using a1),Nv]at ac;replace⟨f,aJ,bs,ac,a1⟩:=H5 f aJ bs ac a1;go_wp2_with fail;go_roundw
          case rel=>exact⟨k+1,R,ro,rn,rc,rfl,by go_num,ao9,ao9,aO.out,by rw[ac.out];exact bD.out,aJ.out,f.out⟩
          case measure=>simp[intOf];omega
         .have d1:(yi != br)=true:=(by simpa using a1);rw[Ad (by simpa using a1)]at ac;have ao:BW W2.heap.size W2 (W2.alloc (J y.cells 46 (0,0))):=Bn;have aB:=aJ.low ao;have aA:=f.trans (ao.mono f.size);have b5:(W2.alloc (J y.cells 46 (0,0))).heap[W2.heap.size]?=O (J y.cells 46 (0,0)):=Ah _ _;have ba:∀u∈y.cells.toList,u.oneCell'=true:=λu hu=>Aaf.1 (Lw y) u (by simpa using hu);have aP:=aA.size;replace⟨f,aJ,bs,ac,a1,ao,aB,aA⟩:=H8 f aJ bs ac a1 ao aB aA;replace⟨b5,ba,aP⟩:=H3 b5 ba aP;go_upto_region 48 with fail;go_wp2_with (first|(refine wpList_load_mid rfl 46 _ rfl g (k*22) rfl y.cells.toList _ bs.out K8 rfl Fi ?_)|(refine Ao6 rfl _ rfl y (by first|rfl|simp) ?_)|(at_builtin;refine Vp (cells:=aj.cells) (sz:=22) rfl _ _ 57 rfl wJ.heap.size dI _ 232 Ws b6.out cb.out bw.out bx.out rfl (Iy _) ad9 (λ_=>rfl) (V ro rn rc) rfl rn aB.out aO.out W2.heap.size 1 rfl y ba.out b5.out ao9 aP.out ?_;intro g9 ci w9 h9 bU cl;replace⟨h9,bU,cl⟩:=H3 h9 bU cl));have ad:=aA.trans ((Mod.grown (S:=λq=>(Value.slice ro rn rc).ownBlock=O q) bU.out (λq hq=>hq)).below aP.out λq hq=>(aB.lt q hq).1);replace ad:=Hh ad;go_roundw
          case rel=>exact⟨k+1,R++[y],O ⟨g9,0,I⟩,rn+1,ci,rfl,by go_num,ao9,ao9,by rw[Cn,aO.out];rfl,by show R++[y]=_;rw[ac.out,<-bD.out],h9.out,ad.out⟩
          case measure=>simp[intOf];omega
        .have a7:¬(k:Int)<ln:=ao9;have bY:=aE.out;have bX:L.take k=L:=C4 (by have:=av.out;omega)
         have bQ:R.map (·.pl)=(L.map (·.pl)).filter λp=>decide (p.id≠br):=by rw[bD.out,bX,Uc];rfl
         have bL:=aQ.drop d.out;have aY:j6 (V ro R.length rc) R T' wr:=j6.own (B:=wJ.heap.size) (by rw[aO.out];exact bb.out) λb c=>aQ.di.tab.iu c;have bB:=cV.out;rw[<-bQ]at bB;have aG:R.length<=100:=(by have:=aO.out;omega);replace⟨bX,bQ,bL,aY,bB,aG⟩:=H6 bX bQ bL aY bB aG;go_wp2_with fail;go_roundw
         case rel=>exact⟨i+1,T',R,ro,rc,by rw[aO.out],by go_num,ao9,aG.out,al.out,aY.out,bB.out,bL.out⟩
         case measure=>simp[intOf];omega
     have h4:=h5;have h5:=bJ;have bJ:=h8;have h8:=ce;have cW:L.map (·.pl)=[]\/L0 vs T'.pl (L.map (·.pl)):=(by have h1:=A5d (e:=P) (L:=L.map (·.pl)) aD.di.ft (by rw[aD.vs];exact ck.out) aU.symm (by rw[aS.out];exact h6) (by rw[aS.out];exact h5) (by rw[aS.out];exact h8) (by rw[aS.out];exact bJ) (by rw[aS.out];exact h4);rw[<-aC.out,aD.vs]at h1;exact h1);have d5:(r == (5:Int))=false:=(by simpa using h5);have d8:(r == (8:Int))=false:=(by simpa using h8);have d3:(r == (10:Int))=false:=(by simpa using bJ);have d4:(r == (4:Int))=false:=(by simpa using h4);replace⟨cW,h4,h5,h8,bJ⟩:=H5 cW h4 h5 h8 bJ;go_wp2_with fail;go_roundw
     case rel=>exact⟨i+1,T',L,po,pc,by rw[<-av.out],by go_num,ao9,by rw[<-av.out];exact aE.out,al.out,by rw[<-av.out];exact bC.out,cW.out,aQ.out⟩
     case measure=>simp[intOf];omega
    .have dG:=bo;have aK:T'.pl=T.pl:=(by rw[aC.out];exact Ao8 (by rw[<-aU.out];exact bo));have dP:(er != 0)=true:=(by simpa using bo);have aM:=ck.out;rw[<-aK]at aM;replace⟨aK,aM⟩:=H2 aK aM;go_wp2_with fail;go_roundw
     case rel=>exact⟨i+1,T',L,po,pc,by rw[<-av.out],by go_num,ao9,by rw[<-av.out];exact aE.out,al.out,by rw[<-av.out];exact be.out,aM.out,aF.out⟩
     case measure=>simp[intOf];omega
  .have dO:¬(i:Int)<m:=ao9;have ad:=b1.trans (hF.di.low.mono b1.size);replace⟨ad,av⟩:=H2 ad av;go_wp2_with fail;go_ret;exact⟨rfl,ad.out⟩
