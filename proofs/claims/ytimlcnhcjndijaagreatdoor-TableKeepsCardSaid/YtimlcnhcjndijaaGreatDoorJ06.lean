/- Parts of a proof. No condition. -/
import Derived.Test.YtimlcnhcjndijaaGreatDoorJ05
import Derived.StillTailTactics
set_option linter.all false
set_option maxRecDepth 100000
set_option maxHeartbeats 6400000
namespace Go.Proofs.YtimlcnhcjndijaaGreatDoor
open IntKind renaming i64->G
open Value renaming int->Z,slice->V,string->D,tuple->E
open Option renaming none->I,some->O
open Obj renaming cells->J
open Ending renaming returned->Y
open Go renaming World->WD,Value->VL
open Go.RowKit renaming Below->BW
open Go.Proofs.Tryz
section
open Go.RowKit Go.Maps Go.Lib
variable{s:ByteArray}{base i k n:Nat}{α:Type}{w w' wr:WD}
structure aq where
 name:ByteArray
 cap:V4
 po:Option Addr
 pn:Nat
 pc:Nat
 parts:List ByteArray
abbrev aq.cells (x:aq):Array VL:=#[D x.name,Z G x.cap.a,Z G x.cap.b,Z G x.cap.c,Z G x.cap.d,V x.po x.pn x.pc]
abbrev aq.val (x:aq):VL:=.agg #[D x.name,Z G x.cap.a,Z G x.cap.b,Z G x.cap.c,Z G x.cap.d,V x.po x.pn x.pc]
def aq.zero:aq:=⟨ByteArray.empty,V4.zero,I,0,0,[]⟩
structure aq.ok (w:WD) (x:aq):Prop where
 parts:Ej w x.po x.pn x.parts
 lr:x.pn<=x.pc
def aq.ok.low  {x:aq} (h:x.ok w) (a:BW w.heap.size w w'):x.ok w':=⟨h.parts.low a,h.lr⟩
def Sm (w:WD):Ej w I 0 []:=⟨rfl,ao9,λi x h=>by simp at h⟩
def aq.jq (w:WD):aq.zero.ok w:=⟨Sm w,Nat.le_refl _⟩
structure ar where
 name:ByteArray
 cap:V4
 parts:List ByteArray
def aq.pl (x:aq):ar:=⟨x.name,x.cap,x.parts⟩
def Fp (s:ByteArray):List ByteArray:=(Au 32 s.data.toList).map bu
def iq (s:ByteArray) (k:Nat):ByteArray:=(Fp s).getD k ByteArray.empty
def J4 (s:ByteArray):Prop:=3<=(Fp s).length/\Bu (iq s 0)=true/\(∀p,p∈(Fp s).drop 2->Bu p=true)/\(Fo (iq s 1)).2=0
instance (s:ByteArray):Decidable (J4 s):=by unfold J4;infer_instance
def Jp (s:ByteArray):Option ar:=if J4 s then O ⟨iq s 0,(Fo (iq s 1)).1,(Fp s).drop 2⟩else I
def Q2  (h:¬J4 s):Jp s=I:=Ac h
def Xs  (h:J4 s):Jp s=O ⟨iq s 0,(Fo (iq s 1)).1,(Fp s).drop 2⟩:=Ad h
def Xt {x:UInt8}:∀ {l p:List UInt8},p∈Au x l->p.length<=l.length:=by
 have c:∀(n:Nat) (l p:List UInt8),l.length<=n->p∈Au x l->p.length<=l.length:=by
  intro n
  induction n with
  | zero=>
   intro l p h b;have:l=[]:=Ib.1 ao9;subst this
   have:p=[]:=by simpa[Au]using b
   subst this;simp
  | succ n ih=>
   intro l p h b;rcases Aa9 x l with e|⟨a,r,rfl,d⟩
   .rw [Sk e]at b
    have:p=l:=by simpa using b
    rw[this];exact Nat.le_refl _
   .rw [Sl d]at b;simp at h;rcases Fm.1 b with rfl|b
    .simp
    .have:=ih r p ao9 b;simp;omega
 exact fun {l p} b=>c l.length l p Ln b
def Aps {x:UInt8} (l:List UInt8):(Au x l).length<=l.length+1:=by
 induction l with
 | nil=>simp[Au]
 | cons b l ih=>
  have:=Abc x l;unfold Au;split
  .simp;omega
  .simp;omega
def Afx {s p:ByteArray} (h:p∈Fp s):p.size<=s.size:=by
 obtain⟨l,a,rfl⟩:=A5.1 h;rw[L4];exact Xt a
def Abe (s:ByteArray):(Fp s).length<=s.size+1:=by
 unfold Fp;rw[Ar];exact Aps _
def Xu   (h:k<(Fp s).length):(Fp s)[k]?=O (iq s k):=by
 unfold iq;simp[List.getD,A3 h]
def Abf   (h:k<(Fp s).length):(iq s k).size<=s.size:=Afx (Ai (Xu h))
def Afy (s:ByteArray) (w:WD) (e:Ending) (w':WD):Prop:=
 ∃(x:aq) (r:Int),e=Y (E #[x.val,Z G r])/\x.ok w'/\BW w.heap.size w w'/\(∀b off,x.po=O ⟨b,off,I⟩->w.heap.size<=b/\∃c,w'.heap[b]?=O (J c 9 (0,0)))/\((Jp s=I/\r=50/\x=aq.zero)\/(Jp s=O x.pl/\r=0))
structure uf (w:WD) (s:ByteArray) (wr:WD):Prop where
 low:BW w.heap.size w wr
 mx:Mx wr
 res:wr.heap[w.heap.size]?=O (J aq.zero.cells 69 (0,0))
 row:wr.heap[w.heap.size+1]?=O (J ((Fp s).map Value.string).toArray 9 (0,0))
def uf.below   (h:uf w s wr) (a:BW wr.heap.size wr w'):uf w s w':=
 ⟨h.low.trans (a.mono h.low.size),h.mx.low a,Ae a h.res (Ab h.res),Ae a h.row (Ab h.row)⟩
def uf.cell   (h:uf w s wr)  (a:k<(Fp s).length):wr.cell? ⟨w.heap.size+1,k,I⟩=O (D (iq s k)):=by
 rw[Aa h.row];simp[Xu a]
def Apt (s:ByteArray) (w:WD) (hm:Mx w) (hs:s.size<=4294967200):Calls prog 41 #[D s] w (Afy s w):=by
 obtain⟨i9,aW,a4,aT,aZ⟩:=Cf Xr;obtain⟨W0,ad⟩:=Ex (w.alloc (J aq.zero.cells 69 (0,0)));have al:BW w.heap.size w W0:=by rw[ad];exact Bn
 have aE:W0.heap[w.heap.size]?=O (J aq.zero.cells 69 (0,0)):=by rw[ad];exact Ah _ _
 have aH:W0.heap.size=w.heap.size+1:=by rw[ad];simp
 have aA:=Apk s 32 W0 (hm.low al) ao9;rw[ad]at aA;obtain⟨L,n⟩:=Ex ((Fp s).length);have aK:(Au 32 s.data.toList).length=L:=by rw[n];unfold Fp;rw[Ar]
 rw[aK]at aA;have aU:=Abe s;rw[<-n]at aU;replace⟨al,aE,aH,aA,n,hm,aK⟩:=H7 al aE aH aA n hm aK;have aQ:=Hh ad;clear ad;go_enter func41,ntmps41;go_wp2_with fail;refine aA.mono ?_;rw[<-aQ.out];rintro e w1 ⟨rfl,aG⟩
 have hV:uf w s w1:=by
  have aL:BW W0.heap.size W0 w1:=by rw[aG];exact Bn
  refine⟨al.trans (aL.mono al.size),(hm.low al.out).low aL,Ae aL aE.out (Ab aE.out),?_⟩;rw[aG,<-aH.out];exact Ah _ _
 rw[aH.out];replace⟨aG,hV⟩:=H2 aG hV;by_cases h3:L<3
 .have d3:decide ((L:Int)<3)=true:=Az ao9
  have g:¬J4 s:=λh=>by have:=h.1;rw[<-n.out]at this;omega
  replace g:=Hh g;have t:=Q2 g.out;have cx:=Aa (hV).out.res;have fx:=Ag (hV).out.res;have f:=(hV).out.low;replace⟨t,f⟩:=H2 t f;go_wp2;refine Al (v:=E #[aq.zero.val,Z G 50]) (by simp[results,results41,go_sem,cx,aq.zero,V4.zero];rfl) rfl ⟨aq.zero,50,rfl,aq.jq _,?_,λb aI e=>(by cases e),.inl ⟨t.out,rfl,rfl⟩⟩;exact((((((f.out).setCell Ln _).setCell Ln _).setCell Ln _).setCell Ln _).setCell Ln _).setCell Ln _
 have d3:decide ((L:Int)<3)=false:=A2 ao9;have a0:0<L:=ao9
 have c0:=hV.cell (k:=0) (by rw[<-n.out];omega);have o:=Xp (iq s 0) w1 (by have:=Abf (s:=s) (k:=0) (by rw[<-n.out];omega);have:maxLen=9223372036854775807:=rfl;omega);obtain⟨b0,x⟩:=Ex (Bu (iq s 0));rw[<-x]at o;replace⟨o,x⟩:=H2 o x;go_wp2_with fail;refine o.mono ?_;rintro e w2 ⟨rfl,aM⟩;have z:=hV.below aM;clear c0;replace⟨aM,z⟩:=H2 aM z
 cases b0 with
 | false=>
  have g:¬J4 s:=λh=>by have:=h.2.1;rw[<-x.out]at this;cases this
  replace g:=Hh g;have t:=Q2 g.out;have cx:=Aa (z).out.res;have fx:=Ag (z).out.res;have f:=(z).out.low;replace⟨t,f⟩:=H2 t f;go_wp2;refine Al (v:=E #[aq.zero.val,Z G 50]) (by simp[results,results41,go_sem,cx,aq.zero,V4.zero];rfl) rfl ⟨aq.zero,50,rfl,aq.jq _,?_,λb aI e=>(by cases e),.inl ⟨t.out,rfl,rfl⟩⟩;exact((((((f.out).setCell Ln _).setCell Ln _).setCell Ln _).setCell Ln _).setCell Ln _).setCell Ln _
 | true=>
 obtain⟨ta,aX,aS⟩:=Si (P:=prog) Tz aW (w.heap.size+1) L L 2 2 rfl ao9;have aJ:=aS ao9;rw[aT]at aJ;subst aJ;clear aS;simp only[Sh]at aX;have an:=z.out;replace an:=Hh an;go_wp2;go_loopw [6,25] (λ_ i wr=>∃k:Nat,i=Z G k/\k<=L-2/\Hid (∀j,j<k->Bu (iq s (2+j))=true)/\Hid (uf w s wr)) (λ_ i _=>(L-2)-(intOf i).toNat)
 case atStart=>exact⟨0,rfl,As _,λj hj=>absurd hj (Nu _),an.out⟩
 case round=>
  obtain⟨k,rfl,hk,hy,ao⟩:=hrel;by_cases a3:k<L-2
  .have aV:(k:Int)<((L-2:Nat):Int):=ao9;have a2:(0:Int)<=(k:Int):=ao9;have c2:=ao.cell (k:=2+k) (by rw[<-n.out];omega);have o:=Xp (iq s (2+k)) wr (by have:=Abf (s:=s) (k:=2+k) (by rw[<-n.out];omega);have:maxLen=9223372036854775807:=rfl;omega);obtain⟨bk,av⟩:=Ex (Bu (iq s (2+k)));rw[<-av]at o;replace⟨o,av⟩:=H2 o av;go_wp2_with fail;refine o.mono ?_;rintro e w4 ⟨rfl,aN⟩;have ac:=ao.below aN;clear c2;replace⟨aN,ac⟩:=H2 aN ac
   cases bk with
   | false=>
    have g:¬J4 s:=λh=>by
     have:=h.2.2.1 (iq s (2+k)) (Ai (by rw[Om];exact Xu (by rw[<-n.out];omega)));rw[<-av.out]at this;cases this
    replace g:=Hh g;have t:=Q2 g.out;have cx:=Aa (ac).out.res;have fx:=Ag (ac).out.res;have f:=(ac).out.low;replace⟨t,f⟩:=H2 t f;go_wp2;refine Al (v:=E #[aq.zero.val,Z G 50]) (by simp[results,results41,go_sem,cx,aq.zero,V4.zero];rfl) rfl ⟨aq.zero,50,rfl,aq.jq _,?_,λb aI e=>(by cases e),.inl ⟨t.out,rfl,rfl⟩⟩;exact((((((f.out).setCell Ln _).setCell Ln _).setCell Ln _).setCell Ln _).setCell Ln _).setCell Ln _
   | true=>
    have aP:∀j,j<k+1->Bu (iq s (2+j))=true:=λj hj=>by
     by_cases c:j=k
     .rw [c];exact av.symm
     .exact hy.out j ao9
    replace aP:=Hh aP;go_wp2;go_roundw
    case rel=>exact⟨k+1,by go_num,ao9,aP.out,ac.out⟩
    case measure=>simp[intOf];omega
  .have aV:¬(k:Int)<((L-2:Nat):Int):=ao9
   have ap:∀p,p∈(Fp s).drop 2->Bu p=true:=λp hp=>by
    obtain⟨j,hj,e⟩:=Aaq hp;rw[Iw,<-n.out]at hj;have h1:=hy j ao9;rw[List.getElem_drop]at e;have h2:=Xu (s:=s) (k:=2+j) (by rw[<-n.out];omega);rw[A3 (by rw[<-n.out];omega)]at h2;have h3:p=iq s (2+j):=(by rw[<-e];exact Kn h2);rw[h3];exact h1
   have a1:1<L:=ao9;have aY:(1:Int)<L:=ao9;have c1:=ao.cell (k:=1) (by rw[<-n.out];omega);have aF:=Apl (iq s 1) wr ao.mx (by have:=Abf (s:=s) (k:=1) (by rw[<-n.out];omega);omega);obtain⟨u,hu⟩:∃u:V4,u=(Fo (iq s 1)).1:=⟨_,rfl⟩;obtain⟨r,hr⟩:∃r:Int,r=(Fo (iq s 1)).2:=⟨_,rfl⟩;rw[<-hu,<-hr]at aF;replace⟨ap,aF,hu,hr⟩:=H4 ap aF hu hr;go_wp2_with fail;refine aF.mono ?_;rintro e w5 ⟨rfl,aO⟩;have aC:=ao.below aO;clear c1;replace⟨aO,aC⟩:=H2 aO aC;by_cases m:r=0
   .have dr:(r != 0)=false:=(by simp[m]);have aB:J4 s:=⟨by rw[<-n.out];omega,x.symm,ap.out,by rw[<-hr.out];exact m⟩;have t:=Xs aB;obtain⟨W6,aD⟩:=Ex (w5.alloc (J u.cells 30 (0,0)));have l:uf w s W6:=(by rw[aD];exact aC.below ((Below.refl _ _).alloc Ln (J u.cells 30 (0,0))));have c0:=l.cell (k:=0) (by rw[<-n.out];omega);have am:W6.heap[w5.heap.size]?=O (J u.cells 30 (0,0)):=(by rw[aD];exact Ah _ _);have cx:=Aa l.res;have fx:=Ag l.res;have q0:=Aa am 0;have q1:=Aa am 1;have q2:=Aa am 2;have q3:=Aa am 3;simp at q0 q1 q2 q3;replace⟨aB,t,l,am,m⟩:=H5 aB t l am m;have aR:=Hh aD;clear aD;go_upto_region 13 with fail;rw[<-aR.out];go_still_tail 7,(by kernel_rfl);change wpList _ _ _ _ _ W6.drew
    have q:∀v0 v1 v2 v3 v4 v5,(((((((W6.setCell ⟨w.heap.size,0,I⟩ v0).setCell ⟨w.heap.size,1,I⟩ v1).setCell ⟨w.heap.size,2,I⟩ v2).setCell ⟨w.heap.size,3,I⟩ v3).setCell ⟨w.heap.size,4,I⟩ v4).setCell ⟨w.heap.size,5,I⟩ v5).drew).heap[w.heap.size+1]?=O (J ((Fp s).map Value.string).toArray 9 (0,0)):=λv0 v1 v2 v3 v4 v5=>
     Ul (Dn ao9 _ (Dn ao9 _ (Dn ao9 _ (Dn ao9 _ (Dn ao9 _ (Dn ao9 _ l.row))))))
    have y:∀v0 v1 v2 v3 v4 v5,BW w.heap.size w (((((((W6.setCell ⟨w.heap.size,0,I⟩ v0).setCell ⟨w.heap.size,1,I⟩ v1).setCell ⟨w.heap.size,2,I⟩ v2).setCell ⟨w.heap.size,3,I⟩ v3).setCell ⟨w.heap.size,4,I⟩ v4).setCell ⟨w.heap.size,5,I⟩ v5).drew):=λv0 v1 v2 v3 v4 v5=>
     (((((((l.low).setCell Ln _).setCell Ln _).setCell Ln _).setCell Ln _).setCell Ln _).setCell Ln _).drew
    replace⟨q,y⟩:=H2 q y;go_wp2;refine Al (v:=E #[(⟨iq s 0,u,O ⟨w.heap.size+1,2,I⟩,L-2,L-2,(Fp s).drop 2⟩:aq).val,Z G 0]) (by simp[results,results41,go_sem,cx]) rfl ⟨⟨iq s 0,u,O ⟨w.heap.size+1,2,I⟩,L-2,L-2,(Fp s).drop 2⟩,0,rfl,⟨?_,Nat.le_refl _⟩,y _ _ _ _ _ _,λb aI e=>(by cases e;exact⟨ao9,_,q _ _ _ _ _ _⟩),.inr ⟨by rw[t.out,<-hu.out];rfl,rfl⟩⟩;have h:=(Apm (q (D (iq s 0)) (Z G u.a) (Z G u.b) (Z G u.c) (Z G u.d) (V (O ⟨w.heap.size+1,2,I⟩) (L-2) (L-2))) (by rw[<-n.out];omega)).sub 2 (by rw[<-n.out];omega);rw[Db,<-n.out]at h;exact h
   .have dr:(r != 0)=true:=by simp[m]
    have g:¬J4 s:=λh=>by have:=h.2.2.2;rw[<-hr.out]at this;exact m this
    have l:=aC.below ((Below.refl _ _).alloc Ln (J u.cells 30 (0,0)));replace⟨g,l,m⟩:=H3 g l m;have t:=Q2 g.out;have cx:=Aa (l).out.res;have fx:=Ag (l).out.res;have f:=(l).out.low;replace⟨t,f⟩:=H2 t f;go_wp2;refine Al (v:=E #[aq.zero.val,Z G 50]) (by simp[results,results41,go_sem,cx,aq.zero,V4.zero];rfl) rfl ⟨aq.zero,50,rfl,aq.jq _,?_,λb aI e=>(by cases e),.inl ⟨t.out,rfl,rfl⟩⟩;exact((((((f.out).setCell Ln _).setCell Ln _).setCell Ln _).setCell Ln _).setCell Ln _).setCell Ln _
def Aw  (cells:α->Array VL) (xs:List α):List VL:=xs.flatMap λx=>(cells x).toList
def Ox  (cells:α->Array VL) (xs ys:List α):Aw cells (xs++ys)=Aw cells xs++Aw cells ys:=by simp[Aw]
def Q3  (cells:α->Array VL) (x:α):Aw cells [x]=(cells x).toList:=by simp[Aw]
def Gw  {cells:α->Array VL} {sz:Nat} (a:∀x,(cells x).size=sz) (xs:List α) {i j:Nat} {x:α} (b:xs[i]?=O x) (f:j<sz):(Aw cells xs)[i*sz+j]?=(cells x)[j]?:=by
 induction xs generalizing i with
 | nil=>simp at b
 | cons y ys ih=>
  have d:=a y;rw[show Aw cells (y :: ys)=(cells y).toList++Aw cells ys from by simp[Aw]]
  cases i with
  | zero=>
   have e:x=y:=(by simpa using b.symm);subst e;rw[Fb (by simp;omega)];simp
  | succ i=>
   have c:ys[i]?=O x:=(by simpa using b);rw[Ia (by simp[d,Mv];omega)];have:=ih c;rw[show(i+1)*sz+j-(cells y).toList.length=i*sz+j by simp[d,Mv];omega,this]
def Afz (x:aq):x.cells.size=6:=rfl
abbrev DU:=DataW Unit
def Cb (s:ByteArray):Lit:=.string s.data.toList
def L5 (ns:List ByteArray):DU:=(ns.zipIdx).foldl (λm p=>m.put (Cb p.1) (.lit (.int G (p.2:Int)))) (.map [])
def Abg (a:List ByteArray) (x:ByteArray):L5 (a++[x])=(L5 a).put (Cb x) (.lit (.int G (a.length:Int))):=by
 unfold L5;rw[List.zipIdx_append,Mt];simp
def Xv {a b:ByteArray} (h:Cb a=Cb b):a=b:=by
 unfold Cb at h;injection h with h;exact Py h
def Abh (s:ByteArray):WideAt.IsKeyLit (Cb s):=trivial
def Q4  {p:List α->Prop} (h0:p []) (h1:∀l x,p l->p (l++[x])):∀l,p l:=by
 intro l
 have b:∀n (l:List α),l.length=n->p l:=by
  intro n
  induction n with
  | zero=>intro l a;rw[Ib.1 a];exact h0
  | succ n ih=>
   intro l a
   cases h:l.reverse with
   | nil=>have:=Cv List.length h;simp at this;rw[this]at a;cases a
   | cons x r=>
    have e:l=r.reverse++[x]:=(by rw[<-List.reverse_reverse l,h];simp);rw[e]at a ⊢;exact h1 _ _ (ih _ (by simpa using a))
 exact b _ l rfl
def Apu (a:List ByteArray):IsMap (L5 a):=by
 induction a using Q4 with
 | h0=>exact isMap_empty
 | h1 l x ih=>rw[Abg];exact ih.put _ _
def Af0 (a:List ByteArray) (s:ByteArray):has (L5 a) (Cb s)=true↔s∈a:=by
 induction a using Q4 with
 | h0=>simp[L5,has]
 | h1 l x ih=>
  rw[Abg];by_cases e:s=x
  .subst e;rw[has_put_same (Apu l) (Abh _)];simp
  .rw [has_put_other (λc=>e (Xv c)),ih];simp[e]
def L6 (W:WD) (x:aq):Prop:=∀b off,x.po=O ⟨b,off,I⟩->∃c,W.heap[b]?=O (J c 9 (0,0))
structure lh (W:WD) (fb mb base:Nat) (nv:VL) (xs:List aq):Prop where
 head:W.heap[fb]?=O (J #[nv,.map (O mb)] 101 (0,0))
 row:W.ownsRow base 69 6 nv xs.length (Aw aq.cells xs)
 map:W.ownsMap prog 9 (plainElem (H:=Unit) prog 3) mb xs.length (L5 (xs.map aq.name))
 ok:∀x,x∈xs->x.ok W/\L6 W x
def Oy  {so:Option Addr}  {xs:List ByteArray} (h:Ej w so n xs) (j:w.heap.size<=w'.heap.size) (f:∀b c,so=O ⟨b,c,I⟩->b<w.heap.size->w'.heap[b]?=w.heap[b]?):Ej w' so n xs:=
 ⟨h.len,h.max,λi x k=>by
  obtain⟨b,c,e,d,g⟩:=h.cell i x k
  exact⟨b,c,e,ao9,(By (a:=⟨b,c+i,I⟩) (w:=w) (f b c e d)).trans g⟩⟩
def lh.below   {o:VL} {xs:List aq} (h:lh w i n base o xs) (a:BW w.heap.size w w'):lh w' i n base o xs:=by
 refine⟨Ae a h.head (Ab h.head),⟨h.row.1,?_⟩,?_,λx m=>⟨(h.ok x m).1.low a,λb f e=>?_⟩⟩
 .rcases h.row.2 with h|⟨g,cap,d,s,p,l,r⟩
  .exact .inl h
  .exact .inr ⟨g,cap,d,s,p,Ae a l (Ab l),r⟩
 .exact h.map.kept (row:=I) ⟨a.os,a.tape,a.output,a.size,λk q _=>a.block k q⟩ as9
 .obtain ⟨c,j⟩:=(h.ok x m).2 b f e;exact⟨c,Ae a j (Ab j)⟩
def lh.cell {W:WD} {e m base:Nat} {c:VL} {xs:List aq} (h:lh W e m base c xs)  {x:aq} (b:xs[k]?=O x):∃g,c.ownBlock=O g/\g<W.heap.size/\base<=g/\∀j,j<6->W.cell? ⟨g,k*6+j,I⟩=(x.cells)[j]?:=by
 have n:=(An.1 b).1;rcases h.row.2 with⟨a,h0⟩|⟨g,cap,d,a,f,i,o⟩
 .have:xs.length=0:=h0;omega
 .subst a;refine⟨g,rfl,Ab i,f,λj l=>?_⟩
  rw[F0 h.row (k*6+j) (by
   have:(k+1)*6<=xs.length*6:=T5 _ ao9
   omega),Gw Afz xs b l]
