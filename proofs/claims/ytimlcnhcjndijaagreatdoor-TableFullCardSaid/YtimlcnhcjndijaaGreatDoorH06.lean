/- Parts of a proof. No condition. -/
import Derived.Test.YtimlcnhcjndijaaGreatDoorH04
import Derived.StillTailTactics
set_option linter.all false
set_option maxRecDepth 100000
set_option maxHeartbeats 6400000
namespace Go.Proofs.YtimlcnhcjndijaaGreatDoor
open IntKind renaming i64->G
open Value renaming int->Z,slice->V,string->E,tuple->D
open Option renaming none->I,some->O
open Obj renaming cells->J
open Ending renaming returned->Q
open Go renaming World->WD,Value->VL
open Go.RowKit renaming Below->BW
open Go.Proofs.Tryz
section
open Go.RowKit Go.Maps Go.Lib
variable{s:ByteArray}{base i k n:Nat}{α:Type}{w w' wr:WD}
structure aw where
 name:ByteArray
 cap:V4
 po:Option Addr
 pn:Nat
 pc:Nat
 parts:List ByteArray
abbrev aw.cells (x:aw):Array VL:=#[E x.name,Z G x.cap.a,Z G x.cap.b,Z G x.cap.c,Z G x.cap.d,V x.po x.pn x.pc]
abbrev aw.val (x:aw):VL:=.agg #[E x.name,Z G x.cap.a,Z G x.cap.b,Z G x.cap.c,Z G x.cap.d,V x.po x.pn x.pc]
def aw.zero:aw:=⟨ByteArray.empty,V4.zero,I,0,0,[]⟩
structure aw.ok (w:WD) (x:aw):Prop where
 parts:Fz w x.po x.pn x.parts
 nu:x.pn<=x.pc
def aw.ok.low  {x:aw} (h:x.ok w) (a:BW w.heap.size w w'):x.ok w':=⟨h.parts.low a,h.nu⟩
def Aab (w:WD):Fz w I 0 []:=⟨rfl,ao9,λi x h=>by simp at h⟩
def aw.ir (w:WD):aw.zero.ok w:=⟨Aab w,Nat.le_refl _⟩
structure ay where
 name:ByteArray
 cap:V4
 parts:List ByteArray
def aw.pl (x:aw):ay:=⟨x.name,x.cap,x.parts⟩
def F0 (s:ByteArray):List ByteArray:=(A9 32 s.data.toList).map au
def ik (s:ByteArray) (k:Nat):ByteArray:=(F0 s).getD k ByteArray.empty
def K1 (s:ByteArray):Prop:=3<=(F0 s).length/\C1 (ik s 0)=true/\(∀p,p∈(F0 s).drop 2->C1 p=true)/\(Kc (ik s 1)).2=0
instance (s:ByteArray):Decidable (K1 s):=by unfold K1;infer_instance
def I2 (s:ByteArray):Option ay:=if K1 s then O ⟨ik s 0,(Kc (ik s 1)).1,(F0 s).drop 2⟩else I
def R0  (h:¬K1 s):I2 s=I:=Ab h
def Aac  (h:K1 s):I2 s=O ⟨ik s 0,(Kc (ik s 1)).1,(F0 s).drop 2⟩:=Ad h
def Aec {x:UInt8}:∀ {l p:List UInt8},p∈A9 x l->p.length<=l.length:=by
 have c:∀(n:Nat) (l p:List UInt8),l.length<=n->p∈A9 x l->p.length<=l.length:=by
  intro n
  induction n with
  | zero=>
   intro l p h b;have:l=[]:=Fv.1 ao9;subst this
   have:p=[]:=by simpa[A9]using b
   subst this;simp
  | succ n ih=>
   intro l p h b;rcases Z5 x l with e|⟨a,r,rfl,d⟩
   .rw [Rx e]at b
    have:p=l:=by simpa using b
    rw[this];exact Nat.le_refl _
   .rw [Ry d]at b;simp at h;rcases Eh.1 b with rfl|b
    .simp
    .have:=ih r p ao9 b;simp;omega
 exact fun {l p} b=>c l.length l p Ln b
def Amu {x:UInt8} (l:List UInt8):(A9 x l).length<=l.length+1:=by
 induction l with
 | nil=>simp[A9]
 | cons b l ih=>
  have:=Ad2 x l;unfold A9;split
  .simp;omega
  .simp;omega
def Amv {s p:ByteArray} (h:p∈F0 s):p.size<=s.size:=by
 obtain⟨l,a,rfl⟩:=A7.1 h;rw[Gg];exact Aec a
def Aed (s:ByteArray):(F0 s).length<=s.size+1:=by
 unfold F0;rw[As];exact Amu _
def Xb   (h:k<(F0 s).length):(F0 s)[k]?=O (ik s k):=by
 unfold ik;simp[List.getD,Az h]
def Aad   (h:k<(F0 s).length):(ik s k).size<=s.size:=Amv (Ai (Xb h))
def Amw (s:ByteArray) (w:WD) (e:Ending) (w':WD):Prop:=
 ∃(x:aw) (r:Int),e=Q (D #[x.val,Z G r])/\x.ok w'/\BW w.heap.size w w'/\(∀b off,x.po=O ⟨b,off,I⟩->w.heap.size<=b/\∃c,w'.heap[b]?=O (J c 9 (0,0)))/\((I2 s=I/\r=50/\x=aw.zero)\/(I2 s=O x.pl/\r=0))
structure te (w:WD) (s:ByteArray) (wr:WD):Prop where
 low:BW w.heap.size w wr
 mx:Mx wr
 res:wr.heap[w.heap.size]?=O (J aw.zero.cells 69 (0,0))
 row:wr.heap[w.heap.size+1]?=O (J ((F0 s).map Value.string).toArray 9 (0,0))
def te.below   (h:te w s wr) (a:BW wr.heap.size wr w'):te w s w':=
 ⟨h.low.trans (a.mono h.low.size),h.mx.low a,Ae a h.res (Ac h.res),Ae a h.row (Ac h.row)⟩
def te.cell   (h:te w s wr)  (a:k<(F0 s).length):wr.cell? ⟨w.heap.size+1,k,I⟩=O (E (ik s k)):=by
 rw[Aa h.row];simp[Xb a]
def Amx (s:ByteArray) (w:WD) (hm:Mx w) (hs:s.size<=4294967200):Calls prog 41 #[E s] w (Amw s w):=by
 obtain⟨i9,aV,a3,aS,aY⟩:=B6 Xa;obtain⟨W0,ad⟩:=Ex (w.alloc (J aw.zero.cells 69 (0,0)));have af:BW w.heap.size w W0:=by rw[ad];exact Bn
 have aD:W0.heap[w.heap.size]?=O (J aw.zero.cells 69 (0,0)):=by rw[ad];exact Ah _ _
 have aG:W0.heap.size=w.heap.size+1:=by rw[ad];simp
 have av:=Amk s 32 W0 (hm.low af) ao9;rw[ad]at av;obtain⟨L,n⟩:=Ex ((F0 s).length);have aJ:(A9 32 s.data.toList).length=L:=by rw[n];unfold F0;rw[As]
 rw[aJ]at av;have aT:=Aed s;rw[<-n]at aT;replace⟨af,aD,aG,av,n,hm,aJ⟩:=H7 af aD aG av n hm aJ;have aP:=Hh ad;clear ad;go_enter func41,ntmps41;go_wp2_with fail;refine av.mono ?_;rw[<-aP.out];rintro e w1 ⟨rfl,aF⟩
 have hV:te w s w1:=by
  have aK:BW W0.heap.size W0 w1:=by rw[aF];exact Bn
  refine⟨af.trans (aK.mono af.size),(hm.low af.out).low aK,Ae aK aD.out (Ac aD.out),?_⟩;rw[aF,<-aG.out];exact Ah _ _
 rw[aG.out];replace⟨aF,hV⟩:=H2 aF hV;by_cases h3:L<3
 .have d3:decide ((L:Int)<3)=true:=Bs ao9
  have g:¬K1 s:=λh=>by have:=h.1;rw[<-n.out]at this;omega
  replace g:=Hh g;have t:=R0 g.out;have cx:=Aa (hV).out.res;have fx:=Ag (hV).out.res;have f:=(hV).out.low;replace⟨t,f⟩:=H2 t f;go_wp2;refine An (v:=D #[aw.zero.val,Z G 50]) (by simp[results,results41,go_sem,cx,aw.zero,V4.zero];rfl) rfl ⟨aw.zero,50,rfl,aw.ir _,?_,λb aH e=>(by cases e),.inl ⟨t.out,rfl,rfl⟩⟩;exact((((((f.out).setCell Ln _).setCell Ln _).setCell Ln _).setCell Ln _).setCell Ln _).setCell Ln _
 have d3:decide ((L:Int)<3)=false:=Bz ao9;have aZ:0<L:=ao9
 have c0:=hV.cell (k:=0) (by rw[<-n.out];omega);have o:=Wy (ik s 0) w1 (by have:=Aad (s:=s) (k:=0) (by rw[<-n.out];omega);have:maxLen=9223372036854775807:=rfl;omega);obtain⟨b0,x⟩:=Ex (C1 (ik s 0));rw[<-x]at o;replace⟨o,x⟩:=H2 o x;go_wp2_with fail;refine o.mono ?_;rintro e w2 ⟨rfl,aL⟩;have z:=hV.below aL;clear c0;replace⟨aL,z⟩:=H2 aL z
 cases b0 with
 | false=>
  have g:¬K1 s:=λh=>by have:=h.2.1;rw[<-x.out]at this;cases this
  replace g:=Hh g;have t:=R0 g.out;have cx:=Aa (z).out.res;have fx:=Ag (z).out.res;have f:=(z).out.low;replace⟨t,f⟩:=H2 t f;go_wp2;refine An (v:=D #[aw.zero.val,Z G 50]) (by simp[results,results41,go_sem,cx,aw.zero,V4.zero];rfl) rfl ⟨aw.zero,50,rfl,aw.ir _,?_,λb aH e=>(by cases e),.inl ⟨t.out,rfl,rfl⟩⟩;exact((((((f.out).setCell Ln _).setCell Ln _).setCell Ln _).setCell Ln _).setCell Ln _).setCell Ln _
 | true=>
 obtain⟨ta,aW,aR⟩:=Tz (P:=prog) Vm aV (w.heap.size+1) L L 2 2 rfl ao9;have aI:=aR ao9;rw[aS]at aI;subst aI;clear aR;simp only[P6]at aW;have am:=z.out;replace am:=Hh am;go_wp2;go_loopw [6,25] (λ_ i wr=>∃k:Nat,i=Z G k/\k<=L-2/\Hid (∀j,j<k->C1 (ik s (2+j))=true)/\Hid (te w s wr)) (λ_ i _=>(L-2)-(intOf i).toNat)
 case atStart=>exact⟨0,rfl,Ar _,λj hj=>absurd hj (P3 _),am.out⟩
 case round=>
  obtain⟨k,rfl,hk,hy,an⟩:=hrel;by_cases a2:k<L-2
  .have aU:(k:Int)<((L-2:Nat):Int):=ao9;have a1:(0:Int)<=(k:Int):=ao9;have c2:=an.cell (k:=2+k) (by rw[<-n.out];omega);have o:=Wy (ik s (2+k)) wr (by have:=Aad (s:=s) (k:=2+k) (by rw[<-n.out];omega);have:maxLen=9223372036854775807:=rfl;omega);obtain⟨bk,ap⟩:=Ex (C1 (ik s (2+k)));rw[<-ap]at o;replace⟨o,ap⟩:=H2 o ap;go_wp2_with fail;refine o.mono ?_;rintro e w4 ⟨rfl,aM⟩;have ac:=an.below aM;clear c2;replace⟨aM,ac⟩:=H2 aM ac
   cases bk with
   | false=>
    have g:¬K1 s:=λh=>by
     have:=h.2.2.1 (ik s (2+k)) (Ai (by rw[Py];exact Xb (by rw[<-n.out];omega)));rw[<-ap.out]at this;cases this
    replace g:=Hh g;have t:=R0 g.out;have cx:=Aa (ac).out.res;have fx:=Ag (ac).out.res;have f:=(ac).out.low;replace⟨t,f⟩:=H2 t f;go_wp2;refine An (v:=D #[aw.zero.val,Z G 50]) (by simp[results,results41,go_sem,cx,aw.zero,V4.zero];rfl) rfl ⟨aw.zero,50,rfl,aw.ir _,?_,λb aH e=>(by cases e),.inl ⟨t.out,rfl,rfl⟩⟩;exact((((((f.out).setCell Ln _).setCell Ln _).setCell Ln _).setCell Ln _).setCell Ln _).setCell Ln _
   | true=>
    have aO:∀j,j<k+1->C1 (ik s (2+j))=true:=λj hj=>by
     by_cases c:j=k
     .rw [c];exact ap.symm
     .exact hy.out j ao9
    replace aO:=Hh aO;go_wp2;go_roundw
    case rel=>exact⟨k+1,by go_num,ao9,aO.out,ac.out⟩
    case measure=>simp[intOf];omega
  .have aU:¬(k:Int)<((L-2:Nat):Int):=ao9
   have ao:∀p,p∈(F0 s).drop 2->C1 p=true:=λp hp=>by
    obtain⟨j,hj,e⟩:=List.getElem_of_mem hp;rw[Iv,<-n.out]at hj;have h1:=hy j ao9;rw[List.getElem_drop]at e;have h2:=Xb (s:=s) (k:=2+j) (by rw[<-n.out];omega);rw[Az (by rw[<-n.out];omega)]at h2;have h3:p=ik s (2+j):=(by rw[<-e];exact N4 h2);rw[h3];exact h1
   have a0:1<L:=ao9;have aX:(1:Int)<L:=ao9;have c1:=an.cell (k:=1) (by rw[<-n.out];omega);have aE:=Aml (ik s 1) wr an.mx (by have:=Aad (s:=s) (k:=1) (by rw[<-n.out];omega);omega);obtain⟨u,hu⟩:∃u:V4,u=(Kc (ik s 1)).1:=⟨_,rfl⟩;obtain⟨r,hr⟩:∃r:Int,r=(Kc (ik s 1)).2:=⟨_,rfl⟩;rw[<-hu,<-hr]at aE;replace⟨ao,aE,hu,hr⟩:=H4 ao aE hu hr;go_wp2_with fail;refine aE.mono ?_;rintro e w5 ⟨rfl,aN⟩;have aB:=an.below aN;clear c1;replace⟨aN,aB⟩:=H2 aN aB;by_cases m:r=0
   .have dr:(r != 0)=false:=(by simp[m]);have aA:K1 s:=⟨by rw[<-n.out];omega,x.symm,ao.out,by rw[<-hr.out];exact m⟩;have t:=Aac aA;obtain⟨W6,aC⟩:=Ex (w5.alloc (J u.cells 30 (0,0)));have l:te w s W6:=(by rw[aC];exact aB.below ((Below.refl _ _).alloc Ln (J u.cells 30 (0,0))));have c0:=l.cell (k:=0) (by rw[<-n.out];omega);have al:W6.heap[w5.heap.size]?=O (J u.cells 30 (0,0)):=(by rw[aC];exact Ah _ _);have cx:=Aa l.res;have fx:=Ag l.res;have q0:=Aa al 0;have q1:=Aa al 1;have q2:=Aa al 2;have q3:=Aa al 3;simp at q0 q1 q2 q3;replace⟨aA,t,l,al,m⟩:=H5 aA t l al m;have aQ:=Hh aC;clear aC;go_upto_region 13 with fail;rw[<-aQ.out];go_still_tail 7,(by kernel_rfl);change wpList _ _ _ _ _ W6.drew
    have q:∀v0 v1 v2 v3 v4 v5,(((((((W6.setCell ⟨w.heap.size,0,I⟩ v0).setCell ⟨w.heap.size,1,I⟩ v1).setCell ⟨w.heap.size,2,I⟩ v2).setCell ⟨w.heap.size,3,I⟩ v3).setCell ⟨w.heap.size,4,I⟩ v4).setCell ⟨w.heap.size,5,I⟩ v5).drew).heap[w.heap.size+1]?=O (J ((F0 s).map Value.string).toArray 9 (0,0)):=λv0 v1 v2 v3 v4 v5=>
     Tx (Dg ao9 _ (Dg ao9 _ (Dg ao9 _ (Dg ao9 _ (Dg ao9 _ (Dg ao9 _ l.row))))))
    have y:∀v0 v1 v2 v3 v4 v5,BW w.heap.size w (((((((W6.setCell ⟨w.heap.size,0,I⟩ v0).setCell ⟨w.heap.size,1,I⟩ v1).setCell ⟨w.heap.size,2,I⟩ v2).setCell ⟨w.heap.size,3,I⟩ v3).setCell ⟨w.heap.size,4,I⟩ v4).setCell ⟨w.heap.size,5,I⟩ v5).drew):=λv0 v1 v2 v3 v4 v5=>
     (((((((l.low).setCell Ln _).setCell Ln _).setCell Ln _).setCell Ln _).setCell Ln _).setCell Ln _).drew
    replace⟨q,y⟩:=H2 q y;go_wp2;refine An (v:=D #[(⟨ik s 0,u,O ⟨w.heap.size+1,2,I⟩,L-2,L-2,(F0 s).drop 2⟩:aw).val,Z G 0]) (by simp[results,results41,go_sem,cx]) rfl ⟨⟨ik s 0,u,O ⟨w.heap.size+1,2,I⟩,L-2,L-2,(F0 s).drop 2⟩,0,rfl,⟨?_,Nat.le_refl _⟩,y _ _ _ _ _ _,λb aH e=>(by cases e;exact⟨ao9,_,q _ _ _ _ _ _⟩),.inr ⟨by rw[t.out,<-hu.out];rfl,rfl⟩⟩;have h:=(Amo (q (E (ik s 0)) (Z G u.a) (Z G u.b) (Z G u.c) (Z G u.d) (V (O ⟨w.heap.size+1,2,I⟩) (L-2) (L-2))) (by rw[<-n.out];omega)).sub 2 (by rw[<-n.out];omega);rw[Dm,<-n.out]at h;exact h
   .have dr:(r != 0)=true:=by simp[m]
    have g:¬K1 s:=λh=>by have:=h.2.2.2;rw[<-hr.out]at this;exact m this
    have l:=aB.below ((Below.refl _ _).alloc Ln (J u.cells 30 (0,0)));replace⟨g,l,m⟩:=H3 g l m;have t:=R0 g.out;have cx:=Aa (l).out.res;have fx:=Ag (l).out.res;have f:=(l).out.low;replace⟨t,f⟩:=H2 t f;go_wp2;refine An (v:=D #[aw.zero.val,Z G 50]) (by simp[results,results41,go_sem,cx,aw.zero,V4.zero];rfl) rfl ⟨aw.zero,50,rfl,aw.ir _,?_,λb aH e=>(by cases e),.inl ⟨t.out,rfl,rfl⟩⟩;exact((((((f.out).setCell Ln _).setCell Ln _).setCell Ln _).setCell Ln _).setCell Ln _).setCell Ln _
def Aq  (cells:α->Array VL) (xs:List α):List VL:=xs.flatMap λx=>(cells x).toList
def O2  (cells:α->Array VL) (xs ys:List α):Aq cells (xs++ys)=Aq cells xs++Aq cells ys:=by simp[Aq]
def R1  (cells:α->Array VL) (x:α):Aq cells [x]=(cells x).toList:=by simp[Aq]
def I3  {cells:α->Array VL} {sz:Nat} (a:∀x,(cells x).size=sz) (xs:List α) {i j:Nat} {x:α} (b:xs[i]?=O x) (f:j<sz):(Aq cells xs)[i*sz+j]?=(cells x)[j]?:=by
 induction xs generalizing i with
 | nil=>simp at b
 | cons y ys ih=>
  have d:=a y;rw[show Aq cells (y :: ys)=(cells y).toList++Aq cells ys from by simp[Aq]]
  cases i with
  | zero=>
   have e:x=y:=(by simpa using b.symm);subst e;rw[Es (by simp;omega)];simp
  | succ i=>
   have c:ys[i]?=O x:=(by simpa using b);rw[Gb (by simp[d,Kx];omega)];have:=ih c;rw[show(i+1)*sz+j-(cells y).toList.length=i*sz+j by simp[d,Kx];omega,this]
def Amy (x:aw):x.cells.size=6:=rfl
abbrev DU:=DataW Unit
def Bw (s:ByteArray):Lit:=.string s.data.toList
def K2 (ns:List ByteArray):DU:=(ns.zipIdx).foldl (λm p=>m.put (Bw p.1) (.lit (.int G (p.2:Int)))) (.map [])
def Aae (a:List ByteArray) (x:ByteArray):K2 (a++[x])=(K2 a).put (Bw x) (.lit (.int G (a.length:Int))):=by
 unfold K2;rw[List.zipIdx_append,N1];simp
def Xc {a b:ByteArray} (h:Bw a=Bw b):a=b:=by
 unfold Bw at h;injection h with h;exact O1 h
def Aaf (s:ByteArray):WideAt.IsKeyLit (Bw s):=trivial
def P8  {p:List α->Prop} (h0:p []) (h1:∀l x,p l->p (l++[x])):∀l,p l:=by
 intro l
 have b:∀n (l:List α),l.length=n->p l:=by
  intro n
  induction n with
  | zero=>intro l a;rw[Fv.1 a];exact h0
  | succ n ih=>
   intro l a
   cases h:l.reverse with
   | nil=>have:=Ca List.length h;simp at this;rw[this]at a;cases a
   | cons x r=>
    have e:l=r.reverse++[x]:=(by rw[<-List.reverse_reverse l,h];simp);rw[e]at a ⊢;exact h1 _ _ (ih _ (by simpa using a))
 exact b _ l rfl
def Amz (a:List ByteArray):IsMap (K2 a):=by
 induction a using P8 with
 | h0=>exact isMap_empty
 | h1 l x ih=>rw[Aae];exact ih.put _ _
def Aee (a:List ByteArray) (s:ByteArray):has (K2 a) (Bw s)=true↔s∈a:=by
 induction a using P8 with
 | h0=>simp[K2,has]
 | h1 l x ih=>
  rw[Aae];by_cases e:s=x
  .subst e;rw[has_put_same (Amz l) (Aaf _)];simp
  .rw [has_put_other (λc=>e (Xc c)),ih];simp[e]
def R2 (W:WD) (x:aw):Prop:=∀b off,x.po=O ⟨b,off,I⟩->∃c,W.heap[b]?=O (J c 9 (0,0))
structure jm (W:WD) (fb mb base:Nat) (nv:VL) (xs:List aw):Prop where
 head:W.heap[fb]?=O (J #[nv,.map (O mb)] 101 (0,0))
 row:W.ownsRow base 69 6 nv xs.length (Aq aw.cells xs)
 map:W.ownsMap prog 9 (plainElem (H:=Unit) prog 3) mb xs.length (K2 (xs.map aw.name))
 ok:∀x,x∈xs->x.ok W/\R2 W x
def Xd  {so:Option Addr}  {xs:List ByteArray} (h:Fz w so n xs) (j:w.heap.size<=w'.heap.size) (f:∀b c,so=O ⟨b,c,I⟩->b<w.heap.size->w'.heap[b]?=w.heap[b]?):Fz w' so n xs:=
 ⟨h.len,h.max,λi x k=>by
  obtain⟨b,c,e,d,g⟩:=h.cell i x k
  exact⟨b,c,e,ao9,(Bl (a:=⟨b,c+i,I⟩) (w:=w) (f b c e d)).trans g⟩⟩
def jm.below   {o:VL} {xs:List aw} (h:jm w i n base o xs) (a:BW w.heap.size w w'):jm w' i n base o xs:=by
 refine⟨Ae a h.head (Ac h.head),⟨h.row.1,?_⟩,?_,λx m=>⟨(h.ok x m).1.low a,λb f e=>?_⟩⟩
 .rcases h.row.2 with h|⟨g,cap,d,s,p,l,r⟩
  .exact .inl h
  .exact .inr ⟨g,cap,d,s,p,Ae a l (Ac l),r⟩
 .exact h.map.kept (row:=I) ⟨a.os,a.tape,a.output,a.size,λk q _=>a.block k q⟩ as9
 .obtain ⟨c,j⟩:=(h.ok x m).2 b f e;exact⟨c,Ae a j (Ac j)⟩
def jm.cell {W:WD} {e m base:Nat} {c:VL} {xs:List aw} (h:jm W e m base c xs)  {x:aw} (b:xs[k]?=O x):∃g,c.ownBlock=O g/\g<W.heap.size/\base<=g/\∀j,j<6->W.cell? ⟨g,k*6+j,I⟩=(x.cells)[j]?:=by
 have n:=(Ap.1 b).1;rcases h.row.2 with⟨a,h0⟩|⟨g,cap,d,a,f,i,o⟩
 .have:xs.length=0:=h0;omega
 .subst a;refine⟨g,rfl,Ac i,f,λj l=>?_⟩
  rw[Fw h.row (k*6+j) (by
   have:(k+1)*6<=xs.length*6:=Zk _ ao9
   omega),I3 Amy xs b l]
