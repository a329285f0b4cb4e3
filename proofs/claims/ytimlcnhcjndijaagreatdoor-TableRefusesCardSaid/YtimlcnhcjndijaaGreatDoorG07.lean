/- Parts of a proof. No condition. -/
import Derived.Test.YtimlcnhcjndijaaGreatDoorG05
import Derived.StillTailTactics
set_option linter.all false
set_option maxRecDepth 100000
set_option maxHeartbeats 6400000
namespace Go.Proofs.YtimlcnhcjndijaaGreatDoor
open IntKind renaming i64->O
open Value renaming int->G,slice->J,string->Y,tuple->E
open Option renaming none->I,some->Z
open Obj renaming cells->V
open Ending renaming returned->K
open Go renaming World->WD,Value->VL
open Go.RowKit renaming Below->BW
open Go.Proofs.Tryz
section
open Go.RowKit Go.Maps Go.Lib
variable{s:ByteArray}{base i k n:Nat}{α:Type}{w w' wr:WD}
structure aq where
 name:ByteArray
 cap:V4
 po:Option Addr
 pn:Nat
 pc:Nat
 parts:List ByteArray
abbrev aq.cells (x:aq):Array VL:=#[Y x.name,G O x.cap.a,G O x.cap.b,G O x.cap.c,G O x.cap.d,J x.po x.pn x.pc]
abbrev aq.val (x:aq):VL:=.agg #[Y x.name,G O x.cap.a,G O x.cap.b,G O x.cap.c,G O x.cap.d,J x.po x.pn x.pc]
def aq.zero:aq:=⟨ByteArray.empty,V4.zero,I,0,0,[]⟩
structure aq.ok (w:WD) (x:aq):Prop where
 parts:D9 w x.po x.pn x.parts
 ni:x.pn<=x.pc
def aq.ok.low  {x:aq} (h:x.ok w) (a:BW w.heap.size w w'):x.ok w':=⟨h.parts.low a,h.ni⟩
def Sk (w:WD):D9 w I 0 []:=⟨rfl,ao9,λi x h=>by simp at h⟩
def aq.jd (w:WD):aq.zero.ok w:=⟨Sk w,Nat.le_refl _⟩
structure ax where
 name:ByteArray
 cap:V4
 parts:List ByteArray
def aq.pl (x:aq):ax:=⟨x.name,x.cap,x.parts⟩
def E8 (s:ByteArray):List ByteArray:=(Ao 32 s.data.toList).map au
def ia (s:ByteArray) (k:Nat):ByteArray:=(E8 s).getD k ByteArray.empty
def Jc (s:ByteArray):Prop:=3<=(E8 s).length/\Bp (ia s 0)=true/\(∀p,p∈(E8 s).drop 2->Bp p=true)/\(E7 (ia s 1)).2=0
instance (s:ByteArray):Decidable (Jc s):=by unfold Jc;infer_instance
def Iv (s:ByteArray):Option ax:=if Jc s then Z ⟨ia s 0,(E7 (ia s 1)).1,(E8 s).drop 2⟩else I
def Qt  (h:¬Jc s):Iv s=I:=Ac h
def Xy  (h:Jc s):Iv s=Z ⟨ia s 0,(E7 (ia s 1)).1,(E8 s).drop 2⟩:=Ad h
def Xz {x:UInt8}:∀ {l p:List UInt8},p∈Ao x l->p.length<=l.length:=by
 have c:∀(n:Nat) (l p:List UInt8),l.length<=n->p∈Ao x l->p.length<=l.length:=by
  intro n
  induction n with
  | zero=>
   intro l p h b;have:l=[]:=Gb.1 ao9;subst this
   have:p=[]:=by simpa[Ao]using b
   subst this;simp
  | succ n ih=>
   intro l p h b;rcases Aa1 x l with e|⟨a,r,rfl,d⟩
   .rw [Qr e]at b
    have:p=l:=by simpa using b
    rw[this];exact Nat.le_refl _
   .rw [Qs d]at b;simp at h;rcases Ei.1 b with rfl|b
    .simp
    .have:=ih r p ao9 b;simp;omega
 exact fun {l p} b=>c l.length l p Ln b
def Aog {x:UInt8} (l:List UInt8):(Ao x l).length<=l.length+1:=by
 induction l with
 | nil=>simp[Ao]
 | cons b l ih=>
  have:=Aa4 x l;unfold Ao;split
  .simp;omega
  .simp;omega
def Afg {s p:ByteArray} (h:p∈E8 s):p.size<=s.size:=by
 obtain⟨l,a,rfl⟩:=A8.1 h;rw[Fe];exact Xz a
def Aba (s:ByteArray):(E8 s).length<=s.size+1:=by
 unfold E8;rw[Ar];exact Aog _
def X3   (h:k<(E8 s).length):(E8 s)[k]?=Z (ia s k):=by
 unfold ia;simp[List.getD,A4 h]
def Abb   (h:k<(E8 s).length):(ia s k).size<=s.size:=Afg (Ai (X3 h))
def Afh (s:ByteArray) (w:WD) (e:Ending) (w':WD):Prop:=
 ∃(x:aq) (r:Int),e=K (E #[x.val,G O r])/\x.ok w'/\BW w.heap.size w w'/\(∀b off,x.po=Z ⟨b,off,I⟩->w.heap.size<=b/\∃c,w'.heap[b]?=Z (V c 9 (0,0)))/\((Iv s=I/\r=50/\x=aq.zero)\/(Iv s=Z x.pl/\r=0))
structure uj (w:WD) (s:ByteArray) (wr:WD):Prop where
 low:BW w.heap.size w wr
 mx:Mx wr
 res:wr.heap[w.heap.size]?=Z (V aq.zero.cells 69 (0,0))
 row:wr.heap[w.heap.size+1]?=Z (V ((E8 s).map Value.string).toArray 9 (0,0))
def uj.below   (h:uj w s wr) (a:BW wr.heap.size wr w'):uj w s w':=
 ⟨h.low.trans (a.mono h.low.size),h.mx.low a,Ae a h.res (Ab h.res),Ae a h.row (Ab h.row)⟩
def uj.cell   (h:uj w s wr)  (a:k<(E8 s).length):wr.cell? ⟨w.heap.size+1,k,I⟩=Z (Y (ia s k)):=by
 rw[Aa h.row];simp[X3 a]
def Aoh (s:ByteArray) (w:WD) (hm:Mx w) (hs:s.size<=4294967200):Calls prog 41 #[Y s] w (Afh s w):=by
 obtain⟨i9,aV,a3,aS,aY⟩:=B4 Si;obtain⟨W0,ad⟩:=Ex (w.alloc (V aq.zero.cells 69 (0,0)));have af:BW w.heap.size w W0:=by rw[ad];exact Bn
 have aD:W0.heap[w.heap.size]?=Z (V aq.zero.cells 69 (0,0)):=by rw[ad];exact Ah _ _
 have aG:W0.heap.size=w.heap.size+1:=by rw[ad];simp
 have av:=An4 s 32 W0 (hm.low af) ao9;rw[ad]at av;obtain⟨L,n⟩:=Ex ((E8 s).length);have aJ:(Ao 32 s.data.toList).length=L:=by rw[n];unfold E8;rw[Ar]
 rw[aJ]at av;have aT:=Aba s;rw[<-n]at aT;replace⟨af,aD,aG,av,n,hm,aJ⟩:=H7 af aD aG av n hm aJ;have aP:=Hh ad;clear ad;go_enter func41,ntmps41;go_wp2_with fail;refine av.mono ?_;rw[<-aP.out];rintro e w1 ⟨rfl,aF⟩
 have hV:uj w s w1:=by
  have aK:BW W0.heap.size W0 w1:=by rw[aF];exact Bn
  refine⟨af.trans (aK.mono af.size),(hm.low af.out).low aK,Ae aK aD.out (Ab aD.out),?_⟩;rw[aF,<-aG.out];exact Ah _ _
 rw[aG.out];replace⟨aF,hV⟩:=H2 aF hV;by_cases h3:L<3
 .have d3:decide ((L:Int)<3)=true:=At ao9
  have g:¬Jc s:=λh=>by have:=h.1;rw[<-n.out]at this;omega
  replace g:=Hh g;have t:=Qt g.out;have cx:=Aa (hV).out.res;have fx:=Af (hV).out.res;have f:=(hV).out.low;replace⟨t,f⟩:=H2 t f;go_wp2;refine Ak (v:=E #[aq.zero.val,G O 50]) (by simp[results,results41,go_sem,cx,aq.zero,V4.zero];rfl) rfl ⟨aq.zero,50,rfl,aq.jd _,?_,λb aH e=>(by cases e),.inl ⟨t.out,rfl,rfl⟩⟩;exact((((((f.out).setCell Ln _).setCell Ln _).setCell Ln _).setCell Ln _).setCell Ln _).setCell Ln _
 have d3:decide ((L:Int)<3)=false:=Au ao9;have aZ:0<L:=ao9
 have c0:=hV.cell (k:=0) (by rw[<-n.out];omega);have o:=Xu (ia s 0) w1 (by have:=Abb (s:=s) (k:=0) (by rw[<-n.out];omega);have:maxLen=9223372036854775807:=rfl;omega);obtain⟨b0,x⟩:=Ex (Bp (ia s 0));rw[<-x]at o;replace⟨o,x⟩:=H2 o x;go_wp2_with fail;refine o.mono ?_;rintro e w2 ⟨rfl,aL⟩;have z:=hV.below aL;clear c0;replace⟨aL,z⟩:=H2 aL z
 cases b0 with
 | false=>
  have g:¬Jc s:=λh=>by have:=h.2.1;rw[<-x.out]at this;cases this
  replace g:=Hh g;have t:=Qt g.out;have cx:=Aa (z).out.res;have fx:=Af (z).out.res;have f:=(z).out.low;replace⟨t,f⟩:=H2 t f;go_wp2;refine Ak (v:=E #[aq.zero.val,G O 50]) (by simp[results,results41,go_sem,cx,aq.zero,V4.zero];rfl) rfl ⟨aq.zero,50,rfl,aq.jd _,?_,λb aH e=>(by cases e),.inl ⟨t.out,rfl,rfl⟩⟩;exact((((((f.out).setCell Ln _).setCell Ln _).setCell Ln _).setCell Ln _).setCell Ln _).setCell Ln _
 | true=>
 obtain⟨ta,aW,aR⟩:=Sf (P:=prog) Qj aV (w.heap.size+1) L L 2 2 rfl ao9;have aI:=aR ao9;rw[aS]at aI;subst aI;clear aR;simp only[Oi]at aW;have am:=z.out;replace am:=Hh am;go_wp2;go_loopw [6,25] (λ_ i wr=>∃k:Nat,i=G O k/\k<=L-2/\Hid (∀j,j<k->Bp (ia s (2+j))=true)/\Hid (uj w s wr)) (λ_ i _=>(L-2)-(intOf i).toNat)
 case atStart=>exact⟨0,rfl,As _,λj hj=>absurd hj (Nc _),am.out⟩
 case round=>
  obtain⟨k,rfl,hk,hy,an⟩:=hrel;by_cases a2:k<L-2
  .have aU:(k:Int)<((L-2:Nat):Int):=ao9;have a1:(0:Int)<=(k:Int):=ao9;have c2:=an.cell (k:=2+k) (by rw[<-n.out];omega);have o:=Xu (ia s (2+k)) wr (by have:=Abb (s:=s) (k:=2+k) (by rw[<-n.out];omega);have:maxLen=9223372036854775807:=rfl;omega);obtain⟨bk,ap⟩:=Ex (Bp (ia s (2+k)));rw[<-ap]at o;replace⟨o,ap⟩:=H2 o ap;go_wp2_with fail;refine o.mono ?_;rintro e w4 ⟨rfl,aM⟩;have ac:=an.below aM;clear c2;replace⟨aM,ac⟩:=H2 aM ac
   cases bk with
   | false=>
    have g:¬Jc s:=λh=>by
     have:=h.2.2.1 (ia s (2+k)) (Ai (by rw[Oc];exact X3 (by rw[<-n.out];omega)));rw[<-ap.out]at this;cases this
    replace g:=Hh g;have t:=Qt g.out;have cx:=Aa (ac).out.res;have fx:=Af (ac).out.res;have f:=(ac).out.low;replace⟨t,f⟩:=H2 t f;go_wp2;refine Ak (v:=E #[aq.zero.val,G O 50]) (by simp[results,results41,go_sem,cx,aq.zero,V4.zero];rfl) rfl ⟨aq.zero,50,rfl,aq.jd _,?_,λb aH e=>(by cases e),.inl ⟨t.out,rfl,rfl⟩⟩;exact((((((f.out).setCell Ln _).setCell Ln _).setCell Ln _).setCell Ln _).setCell Ln _).setCell Ln _
   | true=>
    have aO:∀j,j<k+1->Bp (ia s (2+j))=true:=λj hj=>by
     by_cases c:j=k
     .rw [c];exact ap.symm
     .exact hy.out j ao9
    replace aO:=Hh aO;go_wp2;go_roundw
    case rel=>exact⟨k+1,by go_num,ao9,aO.out,ac.out⟩
    case measure=>simp[intOf];omega
  .have aU:¬(k:Int)<((L-2:Nat):Int):=ao9
   have ao:∀p,p∈(E8 s).drop 2->Bp p=true:=λp hp=>by
    obtain⟨j,hj,e⟩:=Aak hp;rw[G8,<-n.out]at hj;have h1:=hy j ao9;rw[List.getElem_drop]at e;have h2:=X3 (s:=s) (k:=2+j) (by rw[<-n.out];omega);rw[A4 (by rw[<-n.out];omega)]at h2;have h3:p=ia s (2+j):=(by rw[<-e];exact K5 h2);rw[h3];exact h1
   have a0:1<L:=ao9;have aX:(1:Int)<L:=ao9;have c1:=an.cell (k:=1) (by rw[<-n.out];omega);have aE:=An5 (ia s 1) wr an.mx (by have:=Abb (s:=s) (k:=1) (by rw[<-n.out];omega);omega);obtain⟨u,hu⟩:∃u:V4,u=(E7 (ia s 1)).1:=⟨_,rfl⟩;obtain⟨r,hr⟩:∃r:Int,r=(E7 (ia s 1)).2:=⟨_,rfl⟩;rw[<-hu,<-hr]at aE;replace⟨ao,aE,hu,hr⟩:=H4 ao aE hu hr;go_wp2_with fail;refine aE.mono ?_;rintro e w5 ⟨rfl,aN⟩;have aB:=an.below aN;clear c1;replace⟨aN,aB⟩:=H2 aN aB;by_cases m:r=0
   .have dr:(r != 0)=false:=(by simp[m]);have aA:Jc s:=⟨by rw[<-n.out];omega,x.symm,ao.out,by rw[<-hr.out];exact m⟩;have t:=Xy aA;obtain⟨W6,aC⟩:=Ex (w5.alloc (V u.cells 30 (0,0)));have l:uj w s W6:=(by rw[aC];exact aB.below ((Below.refl _ _).alloc Ln (V u.cells 30 (0,0))));have c0:=l.cell (k:=0) (by rw[<-n.out];omega);have al:W6.heap[w5.heap.size]?=Z (V u.cells 30 (0,0)):=(by rw[aC];exact Ah _ _);have cx:=Aa l.res;have fx:=Af l.res;have q0:=Aa al 0;have q1:=Aa al 1;have q2:=Aa al 2;have q3:=Aa al 3;simp at q0 q1 q2 q3;replace⟨aA,t,l,al,m⟩:=H5 aA t l al m;have aQ:=Hh aC;clear aC;go_upto_region 13 with fail;rw[<-aQ.out];go_still_tail 7,(by kernel_rfl);change wpList _ _ _ _ _ W6.drew
    have q:∀v0 v1 v2 v3 v4 v5,(((((((W6.setCell ⟨w.heap.size,0,I⟩ v0).setCell ⟨w.heap.size,1,I⟩ v1).setCell ⟨w.heap.size,2,I⟩ v2).setCell ⟨w.heap.size,3,I⟩ v3).setCell ⟨w.heap.size,4,I⟩ v4).setCell ⟨w.heap.size,5,I⟩ v5).drew).heap[w.heap.size+1]?=Z (V ((E8 s).map Value.string).toArray 9 (0,0)):=λv0 v1 v2 v3 v4 v5=>
     Ut (Cv ao9 _ (Cv ao9 _ (Cv ao9 _ (Cv ao9 _ (Cv ao9 _ (Cv ao9 _ l.row))))))
    have y:∀v0 v1 v2 v3 v4 v5,BW w.heap.size w (((((((W6.setCell ⟨w.heap.size,0,I⟩ v0).setCell ⟨w.heap.size,1,I⟩ v1).setCell ⟨w.heap.size,2,I⟩ v2).setCell ⟨w.heap.size,3,I⟩ v3).setCell ⟨w.heap.size,4,I⟩ v4).setCell ⟨w.heap.size,5,I⟩ v5).drew):=λv0 v1 v2 v3 v4 v5=>
     (((((((l.low).setCell Ln _).setCell Ln _).setCell Ln _).setCell Ln _).setCell Ln _).setCell Ln _).drew
    replace⟨q,y⟩:=H2 q y;go_wp2;refine Ak (v:=E #[(⟨ia s 0,u,Z ⟨w.heap.size+1,2,I⟩,L-2,L-2,(E8 s).drop 2⟩:aq).val,G O 0]) (by simp[results,results41,go_sem,cx]) rfl ⟨⟨ia s 0,u,Z ⟨w.heap.size+1,2,I⟩,L-2,L-2,(E8 s).drop 2⟩,0,rfl,⟨?_,Nat.le_refl _⟩,y _ _ _ _ _ _,λb aH e=>(by cases e;exact⟨ao9,_,q _ _ _ _ _ _⟩),.inr ⟨by rw[t.out,<-hu.out];rfl,rfl⟩⟩;have h:=(An6 (q (Y (ia s 0)) (G O u.a) (G O u.b) (G O u.c) (G O u.d) (J (Z ⟨w.heap.size+1,2,I⟩) (L-2) (L-2))) (by rw[<-n.out];omega)).sub 2 (by rw[<-n.out];omega);rw[Cn,<-n.out]at h;exact h
   .have dr:(r != 0)=true:=by simp[m]
    have g:¬Jc s:=λh=>by have:=h.2.2.2;rw[<-hr.out]at this;exact m this
    have l:=aB.below ((Below.refl _ _).alloc Ln (V u.cells 30 (0,0)));replace⟨g,l,m⟩:=H3 g l m;have t:=Qt g.out;have cx:=Aa (l).out.res;have fx:=Af (l).out.res;have f:=(l).out.low;replace⟨t,f⟩:=H2 t f;go_wp2;refine Ak (v:=E #[aq.zero.val,G O 50]) (by simp[results,results41,go_sem,cx,aq.zero,V4.zero];rfl) rfl ⟨aq.zero,50,rfl,aq.jd _,?_,λb aH e=>(by cases e),.inl ⟨t.out,rfl,rfl⟩⟩;exact((((((f.out).setCell Ln _).setCell Ln _).setCell Ln _).setCell Ln _).setCell Ln _).setCell Ln _
def Av  (cells:α->Array VL) (xs:List α):List VL:=xs.flatMap λx=>(cells x).toList
def Pm  (cells:α->Array VL) (xs ys:List α):Av cells (xs++ys)=Av cells xs++Av cells ys:=by simp[Av]
def Sl  (cells:α->Array VL) (x:α):Av cells [x]=(cells x).toList:=by simp[Av]
def Iw  {cells:α->Array VL} {sz:Nat} (a:∀x,(cells x).size=sz) (xs:List α) {i j:Nat} {x:α} (b:xs[i]?=Z x) (f:j<sz):(Av cells xs)[i*sz+j]?=(cells x)[j]?:=by
 induction xs generalizing i with
 | nil=>simp at b
 | cons y ys ih=>
  have d:=a y;rw[show Av cells (y :: ys)=(cells y).toList++Av cells ys from by simp[Av]]
  cases i with
  | zero=>
   have e:x=y:=(by simpa using b.symm);subst e;rw[Fd (by simp;omega)];simp
  | succ i=>
   have c:ys[i]?=Z x:=(by simpa using b);rw[G7 (by simp[d,K7];omega)];have:=ih c;rw[show(i+1)*sz+j-(cells y).toList.length=i*sz+j by simp[d,K7];omega,this]
def Afi (x:aq):x.cells.size=6:=rfl
abbrev DU:=DataW Unit
def B5 (s:ByteArray):Lit:=.string s.data.toList
def K9 (ns:List ByteArray):DU:=(ns.zipIdx).foldl (λm p=>m.put (B5 p.1) (.lit (.int O (p.2:Int)))) (.map [])
def Abc (a:List ByteArray) (x:ByteArray):K9 (a++[x])=(K9 a).put (B5 x) (.lit (.int O (a.length:Int))):=by
 unfold K9;rw[List.zipIdx_append,L8];simp
def X4 {a b:ByteArray} (h:B5 a=B5 b):a=b:=by
 unfold B5 at h;injection h with h;exact Nm h
def Abd (s:ByteArray):WideAt.IsKeyLit (B5 s):=trivial
def Qu  {p:List α->Prop} (h0:p []) (h1:∀l x,p l->p (l++[x])):∀l,p l:=by
 intro l
 have b:∀n (l:List α),l.length=n->p l:=by
  intro n
  induction n with
  | zero=>intro l a;rw[Gb.1 a];exact h0
  | succ n ih=>
   intro l a
   cases h:l.reverse with
   | nil=>have:=Cd List.length h;simp at this;rw[this]at a;cases a
   | cons x r=>
    have e:l=r.reverse++[x]:=(by rw[<-List.reverse_reverse l,h];simp);rw[e]at a ⊢;exact h1 _ _ (ih _ (by simpa using a))
 exact b _ l rfl
def Aoi (a:List ByteArray):IsMap (K9 a):=by
 induction a using Qu with
 | h0=>exact isMap_empty
 | h1 l x ih=>rw[Abc];exact ih.put _ _
def Afj (a:List ByteArray) (s:ByteArray):has (K9 a) (B5 s)=true↔s∈a:=by
 induction a using Qu with
 | h0=>simp[K9,has]
 | h1 l x ih=>
  rw[Abc];by_cases e:s=x
  .subst e;rw[has_put_same (Aoi l) (Abd _)];simp
  .rw [has_put_other (λc=>e (X4 c)),ih];simp[e]
def La (W:WD) (x:aq):Prop:=∀b off,x.po=Z ⟨b,off,I⟩->∃c,W.heap[b]?=Z (V c 9 (0,0))
structure j4 (W:WD) (fb mb base:Nat) (nv:VL) (xs:List aq):Prop where
 head:W.heap[fb]?=Z (V #[nv,.map (Z mb)] 101 (0,0))
 row:W.ownsRow base 69 6 nv xs.length (Av aq.cells xs)
 map:W.ownsMap prog 9 (plainElem (H:=Unit) prog 3) mb xs.length (K9 (xs.map aq.name))
 ok:∀x,x∈xs->x.ok W/\La W x
def Pn  {so:Option Addr}  {xs:List ByteArray} (h:D9 w so n xs) (j:w.heap.size<=w'.heap.size) (f:∀b c,so=Z ⟨b,c,I⟩->b<w.heap.size->w'.heap[b]?=w.heap[b]?):D9 w' so n xs:=
 ⟨h.len,h.max,λi x k=>by
  obtain⟨b,c,e,d,g⟩:=h.cell i x k
  exact⟨b,c,e,ao9,(Bs (a:=⟨b,c+i,I⟩) (w:=w) (f b c e d)).trans g⟩⟩
def j4.below   {o:VL} {xs:List aq} (h:j4 w i n base o xs) (a:BW w.heap.size w w'):j4 w' i n base o xs:=by
 refine⟨Ae a h.head (Ab h.head),⟨h.row.1,?_⟩,?_,λx m=>⟨(h.ok x m).1.low a,λb f e=>?_⟩⟩
 .rcases h.row.2 with h|⟨g,cap,d,s,p,l,r⟩
  .exact .inl h
  .exact .inr ⟨g,cap,d,s,p,Ae a l (Ab l),r⟩
 .exact h.map.kept (row:=I) ⟨a.os,a.tape,a.output,a.size,λk q _=>a.block k q⟩ as9
 .obtain ⟨c,j⟩:=(h.ok x m).2 b f e;exact⟨c,Ae a j (Ab j)⟩
def j4.cell {W:WD} {e m base:Nat} {c:VL} {xs:List aq} (h:j4 W e m base c xs)  {x:aq} (b:xs[k]?=Z x):∃g,c.ownBlock=Z g/\g<W.heap.size/\base<=g/\∀j,j<6->W.cell? ⟨g,k*6+j,I⟩=(x.cells)[j]?:=by
 have n:=(Aq.1 b).1;rcases h.row.2 with⟨a,h0⟩|⟨g,cap,d,a,f,i,o⟩
 .have:xs.length=0:=h0;omega
 .subst a;refine⟨g,rfl,Ab i,f,λj l=>?_⟩
  rw[Fo h.row (k*6+j) (by
   have:(k+1)*6<=xs.length*6:=Wr _ ao9
   omega),Iw Afi xs b l]
