/- Parts Nod, Flt. Plain theorems: no condition. -/
import Derived.Test.YtimlcnhcjndijaaGreatDoorQ05
import Derived.StillTailTactics
set_option linter.all false
set_option maxRecDepth 100000
set_option maxHeartbeats 6400000
namespace Go.Proofs.YtimlcnhcjndijaaGreatDoor
open Go.RowKit
structure ar where
 name:ByteArray
 cap:V4
 po:Option Addr
 pn:Nat
 pc:Nat
 parts:List ByteArray
abbrev ar.cells (x:ar):Array Value:=#[.string x.name,.int .i64 x.cap.a,.int .i64 x.cap.b,.int .i64 x.cap.c,.int .i64 x.cap.d,.slice x.po x.pn x.pc]
abbrev ar.val (x:ar):Value:=.agg #[.string x.name,.int .i64 x.cap.a,.int .i64 x.cap.b,.int .i64 x.cap.c,.int .i64 x.cap.d,.slice x.po x.pn x.pc]
def ar.zero:ar:=⟨ByteArray.empty,V4.zero,none,0,0,[]⟩
structure ar.ok (w:World) (x:ar):Prop where
 parts:Fx w x.po x.pn x.parts
 mh:x.pn<=x.pc
def ar.ok.low {w w':World} {x:ar} (h:x.ok w) (a:Below w.heap.size w w'):x.ok w':=⟨h.parts.low a,h.mh⟩
def X3 (w:World):Fx w none 0 []:=⟨rfl,by omega,fun i x h=>by simp at h⟩
def ar.gr (w:World):ar.zero.ok w:=⟨X3 w,Nat.le_refl _⟩
structure ax where
 name:ByteArray
 cap:V4
 parts:List ByteArray
def ar.pl (x:ar):ax:=⟨x.name,x.cap,x.parts⟩
def Fy (s:ByteArray):List ByteArray:=(Be 32 s.data.toList).map cn
def gp (s:ByteArray) (k:Nat):ByteArray:=(Fy s).getD k ByteArray.empty
def K1 (s:ByteArray):Prop:=3<=(Fy s).length/\C6 (gp s 0)=true/\(∀ p,p∈(Fy s).drop 2->C6 p=true)/\(J6 (gp s 1)).2=0
instance (s:ByteArray):Decidable (K1 s):=by unfold K1;infer_instance
def Ip (s:ByteArray):Option ax:=if K1 s then some ⟨gp s 0,(J6 (gp s 1)).1,(Fy s).drop 2⟩ else none
def Rl {s:ByteArray} (h:¬ K1 s):Ip s=none:=Ac h
def X4 {s:ByteArray} (h:K1 s):Ip s=some ⟨gp s 0,(J6 (gp s 1)).1,(Fy s).drop 2⟩:=Ad h
def Abj {x:UInt8}:∀ {l p:List UInt8},p∈Be x l->p.length<=l.length:=by
 have c:∀ (n:Nat) (l p:List UInt8),l.length<=n->p∈Be x l->p.length<=l.length:=by
  intro n
  induction n with
  | zero=>
   intro l p h b;have:l=[]:=Fw.1 (by omega);subst this
   have:p=[]:=by simpa [Be] using b
   subst this;simp
  | succ n ih=>
   intro l p h b;rcases Xx x l with d | ⟨a,r,rfl,e⟩
   .rw [S9 d] at b
    have:p=l:=by simpa using b
    rw [this];exact Nat.le_refl _
   .rw [Ta e] at b;simp at h;rcases Gu.1 b with rfl | b
    .simp
    .have:=ih r p (by omega) b;simp;omega
 exact fun {l p} b=>c l.length l p Ln b
def Ajr {x:UInt8} (l:List UInt8):(Be x l).length<=l.length+1:=by
 induction l with
 | nil=>simp [Be]
 | cons b l ih=>
  have:=Abg x l;unfold Be;split
  .simp;omega
  .simp;omega
def Ajs {s p:ByteArray} (h:p∈Fy s):p.size<=s.size:=by
 obtain ⟨l,a,rfl⟩:=Bd.1 h;rw [Nx];exact Abj a
def Abk (s:ByteArray):(Fy s).length<=s.size+1:=by
 unfold Fy;rw [Ax];exact Ajr _
def U4 {s:ByteArray} {k:Nat} (h:k<(Fy s).length):(Fy s)[k]?=some (gp s k):=by
 unfold gp;simp [List.getD,Am h]
def X5 {s:ByteArray} {k:Nat} (h:k<(Fy s).length):(gp s k).size<=s.size:=Ajs (Aj (U4 h))
def Ajt (s:ByteArray) (w:World) (e:Ending) (w':World):Prop:=
 ∃ (x:ar) (r:Int),e=.returned (.tuple #[x.val,.int .i64 r])/\x.ok w'/\Below w.heap.size w w'/\(∀ b off,x.po=some ⟨b,off,none⟩->w.heap.size<=b/\∃ c,w'.heap[b]?=some (.cells c 9 (0,0)))/\((Ip s=none/\r=50/\x=ar.zero)\/(Ip s=some x.pl/\r=0))
structure sw (w:World) (s:ByteArray) (wr:World):Prop where
 low:Below w.heap.size w wr
 mx:Mx wr
 res:wr.heap[w.heap.size]?=some (.cells ar.zero.cells 69 (0,0))
 row:wr.heap[w.heap.size+1]?=some (.cells ((Fy s).map Value.string).toArray 9 (0,0))
def sw.below {w wr w':World} {s:ByteArray} (h:sw w s wr) (a:Below wr.heap.size wr w'):sw w s w':=
 ⟨h.low.trans (a.mono h.low.size),h.mx.low a,Ae a h.res (Ab h.res),Ae a h.row (Ab h.row)⟩
def sw.cell {w wr:World} {s:ByteArray} (h:sw w s wr) {k:Nat} (a:k<(Fy s).length):wr.cell? ⟨w.heap.size+1,k,none⟩=some (.string (gp s k)):=by
 rw [Aa h.row];simp [U4 a]
def Aju (s:ByteArray) (w:World) (hm:Mx w) (hs:s.size<=4294967200):Calls Tryz.prog 41 #[.string s] w (Ajt s w):=by
 obtain ⟨i9,aU,a0,aQ,aY⟩:=C0 Abi;obtain ⟨W0,z⟩:=Ex (w.alloc (.cells ar.zero.cells 69 (0,0)));have ac:Below w.heap.size w W0:=by rw [z];exact Bn
 have aC:W0.heap[w.heap.size]?=some (.cells ar.zero.cells 69 (0,0)):=by rw [z];exact Af _ _
 have aD:W0.heap.size=w.heap.size+1:=by rw [z];simp
 have an:=Ajk s 32 W0 (hm.low ac) (by omega);rw [z] at an;obtain ⟨L,n⟩:=Ex ((Fy s).length);have aK:(Be 32 s.data.toList).length=L:=by rw [n];unfold Fy;rw [Ax]
 rw [aK] at an;have aV:=Abk s;rw [<- n] at aV;replace ⟨ac,aC,aD,an,n,hm,aK⟩:=H7 ac aC aD an n hm aK;have aR:=Hh z;clear z;go_enter Tryz.func41,Tryz.ntmps41;go_wp2_with fail;refine an.out.mono ?_;rw [<- aR.out];rintro e w1 ⟨rfl,aE⟩
 have hV:sw w s w1:=by
  have aL:Below W0.heap.size W0 w1:=by rw [aE];exact Bn
  refine ⟨ac.out.trans (aL.mono ac.out.size),(hm.out.low ac.out).low aL,Ae aL aC.out (Ab aC.out),?_⟩;rw [aE,<- aD.out];exact Af _ _
 rw [aD.out];replace ⟨aE,hV⟩:=H2 aE hV;by_cases h3:L<3
 .have d3:decide ((L:Int)<3)=true:=Az (by omega)
  have g:¬ K1 s:=fun h=>by have:=h.1;rw [<- n.out] at this;omega
  replace g:=Hh g;have o:=Rl g.out;have cx:=Aa (hV).out.res;have fx:=Ah (hV).out.res;have f:=(hV).out.low;replace ⟨o,f⟩:=H2 o f;go_wp2;refine Ao (v:=.tuple #[ar.zero.val,.int .i64 50]) (by simp [results,S4,go_sem,cx,ar.zero,V4.zero];rfl) rfl ⟨ar.zero,50,rfl,ar.gr _,?_,fun b aF e=>(by cases e),.inl ⟨o.out,rfl,rfl⟩⟩;exact ((((((f.out).setCell Ln _).setCell Ln _).setCell Ln _).setCell Ln _).setCell Ln _).setCell Ln _
 have d3:decide ((L:Int)<3)=false:=Aw (by omega);have a1:0<L:=by omega
 have c0:=hV.out.cell (k:=0) (by rw [<- n.out];omega);have q:=U2 (gp s 0) w1 (by have:=X5 (s:=s) (k:=0) (by rw [<- n.out];omega);have:maxLen=9223372036854775807:=rfl;omega);obtain ⟨b0,x⟩:=Ex (C6 (gp s 0));rw [<- x] at q;replace ⟨q,x⟩:=H2 q x;go_wp2_with fail;refine q.out.mono ?_;rintro e w2 ⟨rfl,aM⟩;have ad:=hV.out.below aM;clear c0;replace ⟨aM,ad⟩:=H2 aM ad
 cases b0 with
 | false=>
  have g:¬ K1 s:=fun h=>by have:=h.2.1;rw [<- x.out] at this;cases this
  replace g:=Hh g;have o:=Rl g.out;have cx:=Aa (ad).out.res;have fx:=Ah (ad).out.res;have f:=(ad).out.low;replace ⟨o,f⟩:=H2 o f;go_wp2;refine Ao (v:=.tuple #[ar.zero.val,.int .i64 50]) (by simp [results,S4,go_sem,cx,ar.zero,V4.zero];rfl) rfl ⟨ar.zero,50,rfl,ar.gr _,?_,fun b aF e=>(by cases e),.inl ⟨o.out,rfl,rfl⟩⟩;exact ((((((f.out).setCell Ln _).setCell Ln _).setCell Ln _).setCell Ln _).setCell Ln _).setCell Ln _
 | true=>
 obtain ⟨ta,aW,aS⟩:=S7 (P:=Tryz.prog) Aa8 aU (w.heap.size+1) L L 2 2 rfl (by omega);have aJ:=aS (by omega);rw [aQ] at aJ;subst aJ;clear aS;simp only [Nat.mul_one] at aW;have ao:=ad.out;replace ao:=Hh ao;go_wp2;go_loopw [6,25] (fun _ i wr=>∃ k:Nat,i=.int .i64 k/\k<=L-2/\Hid (∀ j,j<k->C6 (gp s (2+j))=true)/\Hid (sw w s wr)) (fun _ i _=>(L-2)-(intOf i).toNat)
 case atStart=>exact ⟨0,rfl,Av _,fun j hj=>absurd hj (Pq _),ao.out⟩
 case round=>
  obtain ⟨k,rfl,hk,hy,ap⟩:=hrel;by_cases a2:k<L-2
  .have aX:(k:Int)<((L-2:Nat):Int):=(by omega);have a3:(0:Int)<=(k:Int):=(by omega);have c2:=ap.out.cell (k:=2+k) (by rw [<- n.out];omega);have q:=U2 (gp s (2+k)) wr (by have:=X5 (s:=s) (k:=2+k) (by rw [<- n.out];omega);have:maxLen=9223372036854775807:=rfl;omega);obtain ⟨bk,av⟩:=Ex (C6 (gp s (2+k)));rw [<- av] at q;replace ⟨q,av⟩:=H2 q av;go_wp2_with fail;refine q.out.mono ?_;rintro e w4 ⟨rfl,aN⟩;have al:=ap.out.below aN;clear c2;replace ⟨aN,al⟩:=H2 aN al
   cases bk with
   | false=>
    have g:¬ K1 s:=fun h=>by
     have:=h.2.2.1 (gp s (2+k)) (Aj (by rw [Ol];exact U4 (by rw [<- n.out];omega)));rw [<- av.out] at this;cases this
    replace g:=Hh g;have o:=Rl g.out;have cx:=Aa (al).out.res;have fx:=Ah (al).out.res;have f:=(al).out.low;replace ⟨o,f⟩:=H2 o f;go_wp2;refine Ao (v:=.tuple #[ar.zero.val,.int .i64 50]) (by simp [results,S4,go_sem,cx,ar.zero,V4.zero];rfl) rfl ⟨ar.zero,50,rfl,ar.gr _,?_,fun b aF e=>(by cases e),.inl ⟨o.out,rfl,rfl⟩⟩;exact ((((((f.out).setCell Ln _).setCell Ln _).setCell Ln _).setCell Ln _).setCell Ln _).setCell Ln _
   | true=>
    have aO:∀ j,j<k+1->C6 (gp s (2+j))=true:=fun j hj=>by
     by_cases c:j=k
     .rw [c];exact av.out.symm
     .exact hy.out j (by omega)
    replace aO:=Hh aO;go_wp2;go_roundw
    case rel=>exact ⟨k+1,by go_num,by omega,aO.out,al.out⟩
    case measure=>simp [intOf];omega
  .have aX:¬ (k:Int)<((L-2:Nat):Int):=by omega
   have aA:∀ p,p∈(Fy s).drop 2->C6 p=true:=fun p hp=>by
    obtain ⟨j,hj,e⟩:=List.getElem_of_mem hp;rw [G7,<- n.out] at hj;have h1:=hy.out j (by omega);rw [List.getElem_drop] at e;have h2:=U4 (s:=s) (k:=2+j) (by rw [<- n.out];omega);rw [Am (by rw [<- n.out];omega)] at h2;have h3:p=gp s (2+j):=(by rw [<- e];exact J0 h2);rw [h3];exact h1
   have a4:1<L:=(by omega);have aZ:(1:Int)<L:=(by omega);have c1:=ap.out.cell (k:=1) (by rw [<- n.out];omega);have aG:=Ajl (gp s 1) wr ap.out.mx (by have:=X5 (s:=s) (k:=1) (by rw [<- n.out];omega);omega);obtain ⟨u,hu⟩:∃ u:V4,u=(J6 (gp s 1)).1:=⟨_,rfl⟩;obtain ⟨r,hr⟩:∃ r:Int,r=(J6 (gp s 1)).2:=⟨_,rfl⟩;rw [<- hu,<- hr] at aG;replace ⟨aA,aG,hu,hr⟩:=H4 aA aG hu hr;go_wp2_with fail;refine aG.out.mono ?_;rintro e w5 ⟨rfl,aP⟩;have aH:=ap.out.below aP;clear c1;replace ⟨aP,aH⟩:=H2 aP aH;by_cases m:r=0
   .have dr:(r != 0)=false:=(by simp [m]);have aB:K1 s:=⟨by rw [<- n.out];omega,x.out.symm,aA.out,by rw [<- hr.out];exact m⟩;have o:=X4 aB;obtain ⟨W6,aI⟩:=Ex (w5.alloc (.cells u.cells 30 (0,0)));have l:sw w s W6:=(by rw [aI];exact aH.out.below ((Below.refl _ _).alloc Ln (.cells u.cells 30 (0,0))));have c0:=l.cell (k:=0) (by rw [<- n.out];omega);have am:W6.heap[w5.heap.size]?=some (.cells u.cells 30 (0,0)):=(by rw [aI];exact Af _ _);have cx:=Aa l.res;have fx:=Ah l.res;have q0:=Aa am 0;have q1:=Aa am 1;have q2:=Aa am 2;have q3:=Aa am 3;simp at q0 q1 q2 q3;replace ⟨aB,o,l,am,m⟩:=H5 aB o l am m;have aT:=Hh aI;clear aI;go_upto_region 13 with fail;rw [<- aT.out];go_still_tail 7,(by kernel_rfl);change wpList _ _ _ _ _ W6.drew
    have t:∀ v0 v1 v2 v3 v4 v5,(((((((W6.setCell ⟨w.heap.size,0,none⟩ v0).setCell ⟨w.heap.size,1,none⟩ v1).setCell ⟨w.heap.size,2,none⟩ v2).setCell ⟨w.heap.size,3,none⟩ v3).setCell ⟨w.heap.size,4,none⟩ v4).setCell ⟨w.heap.size,5,none⟩ v5).drew).heap[w.heap.size+1]?=some (.cells ((Fy s).map Value.string).toArray 9 (0,0)):=fun v0 v1 v2 v3 v4 v5=>
     S6 (Dh (by omega) _ (Dh (by omega) _ (Dh (by omega) _ (Dh (by omega) _ (Dh (by omega) _ (Dh (by omega) _ l.out.row))))))
    have y:∀ v0 v1 v2 v3 v4 v5,Below w.heap.size w (((((((W6.setCell ⟨w.heap.size,0,none⟩ v0).setCell ⟨w.heap.size,1,none⟩ v1).setCell ⟨w.heap.size,2,none⟩ v2).setCell ⟨w.heap.size,3,none⟩ v3).setCell ⟨w.heap.size,4,none⟩ v4).setCell ⟨w.heap.size,5,none⟩ v5).drew):=fun v0 v1 v2 v3 v4 v5=>
     (((((((l.out.low).setCell Ln _).setCell Ln _).setCell Ln _).setCell Ln _).setCell Ln _).setCell Ln _).drew
    replace ⟨t,y⟩:=H2 t y;go_wp2;refine Ao (v:=.tuple #[(⟨gp s 0,u,some ⟨w.heap.size+1,2,none⟩,L-2,L-2,(Fy s).drop 2⟩:ar).val,.int .i64 0]) (by simp [results,S4,go_sem,cx]) rfl ⟨⟨gp s 0,u,some ⟨w.heap.size+1,2,none⟩,L-2,L-2,(Fy s).drop 2⟩,0,rfl,⟨?_,Nat.le_refl _⟩,y.out _ _ _ _ _ _,fun b aF e=>(by cases e;exact ⟨by omega,_,t.out _ _ _ _ _ _⟩),.inr ⟨by rw [o.out,<- hu.out];rfl,rfl⟩⟩;have h:=(Ajp (t.out (.string (gp s 0)) (.int .i64 u.a) (.int .i64 u.b) (.int .i64 u.c) (.int .i64 u.d) (.slice (some ⟨w.heap.size+1,2,none⟩) (L-2) (L-2))) (by rw [<- n.out];omega)).sub 2 (by rw [<- n.out];omega);rw [D2,<- n.out] at h;exact h
   .have dr:(r != 0)=true:=by simp [m]
    have g:¬ K1 s:=fun h=>by have:=h.2.2.2;rw [<- hr.out] at this;exact m this
    have l:=aH.out.below ((Below.refl _ _).alloc Ln (.cells u.cells 30 (0,0)));replace ⟨g,l,m⟩:=H3 g l m;have o:=Rl g.out;have cx:=Aa (l).out.res;have fx:=Ah (l).out.res;have f:=(l).out.low;replace ⟨o,f⟩:=H2 o f;go_wp2;refine Ao (v:=.tuple #[ar.zero.val,.int .i64 50]) (by simp [results,S4,go_sem,cx,ar.zero,V4.zero];rfl) rfl ⟨ar.zero,50,rfl,ar.gr _,?_,fun b aF e=>(by cases e),.inl ⟨o.out,rfl,rfl⟩⟩;exact ((((((f.out).setCell Ln _).setCell Ln _).setCell Ln _).setCell Ln _).setCell Ln _).setCell Ln _
open Go.Maps
def Ar {α:Type} (cells:α->Array Value) (xs:List α):List Value:=xs.flatMap fun x=>(cells x).toList
def Px {α:Type} (cells:α->Array Value) (xs ys:List α):Ar cells (xs++ys)=Ar cells xs++Ar cells ys:=by simp [Ar]
def Tb {α:Type} (cells:α->Array Value) (x:α):Ar cells [x]=(cells x).toList:=by simp [Ar]
def Iq {α:Type} {cells:α->Array Value} {sz:Nat} (a:∀ x,(cells x).size=sz) (xs:List α) {i j:Nat} {x:α} (b:xs[i]?=some x) (f:j<sz):(Ar cells xs)[i*sz+j]?=(cells x)[j]?:=by
 induction xs generalizing i with
 | nil=>simp at b
 | cons y ys ih=>
  have d:=a y;rw [show Ar cells (y :: ys)=(cells y).toList++Ar cells ys from by simp [Ar]]
  cases i with
  | zero=>
   have e:x=y:=(by simpa using b.symm);subst e;rw [Fv (by simp;omega)];simp
  | succ i=>
   have c:ys[i]?=some x:=(by simpa using b);rw [G5 (by simp [d,Kx];omega)];have:=ih c;rw [show (i+1)*sz+j-(cells y).toList.length=i*sz+j by simp [d,Kx];omega,this]
def Ajv (x:ar):x.cells.size=6:=rfl
abbrev DU:=DataW Unit
def Bz (s:ByteArray):Lit:=.string s.data.toList
def K2 (ns:List ByteArray):DU:=(ns.zipIdx).foldl (fun m p=>m.put (Bz p.1) (.lit (.int .i64 (p.2:Int)))) (.map [])
def X6 (a:List ByteArray) (x:ByteArray):K2 (a++[x])=(K2 a).put (Bz x) (.lit (.int .i64 (a.length:Int))):=by
 unfold K2;rw [List.zipIdx_append,Ms];simp
def U5 {a b:ByteArray} (h:Bz a=Bz b):a=b:=by
 unfold Bz at h;injection h with h;exact S8 h
def X7 (s:ByteArray):WideAt.IsKeyLit (Bz s):=By
def Py {α:Type} {p:List α->Prop} (h0:p []) (h1:∀ l x,p l->p (l++[x])):∀ l,p l:=by
 intro l
 have b:∀ n (l:List α),l.length=n->p l:=by
  intro n
  induction n with
  | zero=>intro l a;rw [Fw.1 a];exact h0
  | succ n ih=>
   intro l a
   cases h:l.reverse with
   | nil=>have:=Ca List.length h;simp at this;rw [this] at a;cases a
   | cons x r=>
    have e:l=r.reverse++[x]:=(by rw [<- List.reverse_reverse l,h];simp);rw [e] at a ⊢;exact h1 _ _ (ih _ (by simpa using a))
 exact b _ l rfl
def Ajw (a:List ByteArray):IsMap (K2 a):=by
 induction a using Py with
 | h0=>exact isMap_empty
 | h1 l x ih=>rw [X6];exact ih.put _ _
def Abl (a:List ByteArray) (s:ByteArray):has (K2 a) (Bz s)=true↔s∈a:=by
 induction a using Py with
 | h0=>simp [K2,has]
 | h1 l x ih=>
  rw [X6];by_cases e:s=x
  .subst e;rw [has_put_same (Ajw l) (X7 _)];simp
  .rw [has_put_other (fun c=>e (U5 c)),ih];simp [e]
def Rm (W:World) (x:ar):Prop:=∀ b off,x.po=some ⟨b,off,none⟩->∃ c,W.heap[b]?=some (.cells c 9 (0,0))
structure jf (W:World) (fb mb base:Nat) (nv:Value) (xs:List ar):Prop where
 head:W.heap[fb]?=some (.cells #[nv,.map (some mb)] 101 (0,0))
 row:W.ownsRow base 69 6 nv xs.length (Ar ar.cells xs)
 map:W.ownsMap Tryz.prog 9 (plainElem (H:=Unit) Tryz.prog 3) mb xs.length (K2 (xs.map ar.name))
 ok:∀ x,x∈xs->x.ok W/\Rm W x
def U6 {w w':World} {so:Option Addr} {n:Nat} {xs:List ByteArray} (h:Fx w so n xs) (f:w.heap.size<=w'.heap.size) (g:∀ b c,so=some ⟨b,c,none⟩->b<w.heap.size->w'.heap[b]?=w.heap[b]?):Fx w' so n xs:=
 ⟨h.len,h.max,fun i x j=>by
  obtain ⟨b,c,e,d,k⟩:=h.cell i x j
  exact ⟨b,c,e,by omega,(Bp (a:=⟨b,c+i,none⟩) (w:=w) (g b c e d)).trans k⟩⟩
def jf.below {w w':World} {i j base:Nat} {l:Value} {xs:List ar} (h:jf w i j base l xs) (a:Below w.heap.size w w'):jf w' i j base l xs:=by
 refine ⟨Ae a h.head (Ab h.head),⟨h.row.1,?_⟩,?_,fun x m=>⟨(h.ok x m).1.low a,fun b d e=>?_⟩⟩
 .rcases h.row.2 with h | ⟨g,cap,f,p,q,n,r⟩
  .exact .inl h
  .exact .inr ⟨g,cap,f,p,q,Ae a n (Ab n),r⟩
 .exact h.map.kept (row:=none) ⟨a.os,a.tape,a.output,a.size,fun k s _=>a.block k s⟩ (by simp)
 .obtain ⟨c,o⟩:=(h.ok x m).2 b d e;exact ⟨c,Ae a o (Ab o)⟩
def jf.cell {W:World} {d e base:Nat} {a:Value} {xs:List ar} (h:jf W d e base a xs) {k:Nat} {x:ar} (b:xs[k]?=some x):∃ g,a.ownBlock=some g/\g<W.heap.size/\base<=g/\∀ j,j<6->W.cell? ⟨g,k*6+j,none⟩=(x.cells)[j]?:=by
 have n:=(Aq.1 b).1;rcases h.row.2 with ⟨c,h0⟩ | ⟨g,cap,f,c,i,l,o⟩
 .have:xs.length=0:=h0;omega
 .subst c;refine ⟨g,rfl,Ab l,i,fun j m=>?_⟩
  rw [Gr h.row (k*6+j) (by
   have:(k+1)*6<=xs.length*6:=Nat.mul_le_mul_right _ (by omega)
   omega),Iq Ajv xs b m]
end Go.Proofs.YtimlcnhcjndijaaGreatDoor
