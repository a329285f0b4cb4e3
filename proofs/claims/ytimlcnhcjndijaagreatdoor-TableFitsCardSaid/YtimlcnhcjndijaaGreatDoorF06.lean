/- Parts of a proof. No condition. -/
import Derived.Test.YtimlcnhcjndijaaGreatDoorF05
import Derived.StillTailTactics
set_option linter.all false
set_option maxRecDepth 100000
set_option maxHeartbeats 6400000
namespace Go.Proofs.YtimlcnhcjndijaaGreatDoor
open Go renaming World->WD,Value->VL
open Go.RowKit renaming Below->BW
open Go.Proofs.Tryz
section
open Go.RowKit Go.Maps Go.Lib
variable{s:ByteArray}{base i k n:Nat}{α:Type}{w w' wr:WD}
structure aq where
 name:ByteArray
 cap:V4
 po:Option Addr
 pn:Nat
 pc:Nat
 parts:List ByteArray
abbrev aq.cells (x:aq):Array VL:=#[.string x.name,.int .i64 x.cap.a,.int .i64 x.cap.b,.int .i64 x.cap.c,.int .i64 x.cap.d,.slice x.po x.pn x.pc]
abbrev aq.val (x:aq):VL:=.agg #[.string x.name,.int .i64 x.cap.a,.int .i64 x.cap.b,.int .i64 x.cap.c,.int .i64 x.cap.d,.slice x.po x.pn x.pc]
def aq.zero:aq:=⟨ByteArray.empty,V4.zero,none,0,0,[]⟩
structure aq.ok (w:WD) (x:aq):Prop where
 parts:D3 w x.po x.pn x.parts
 lg:x.pn<=x.pc
def aq.ok.low  {x:aq} (h:x.ok w) (a:BW w.heap.size w w'):x.ok w':=⟨h.parts.low a,h.lg⟩
def Rs (w:WD):D3 w none 0 []:=⟨rfl,by omega,fun i x h=>by simp at h⟩
def aq.il (w:WD):aq.zero.ok w:=⟨Rs w,Nat.le_refl _⟩
structure au where
 name:ByteArray
 cap:V4
 parts:List ByteArray
def aq.pl (x:aq):au:=⟨x.name,x.cap,x.parts⟩
def E0 (s:ByteArray):List ByteArray:=(Ap 32 s.data.toList).map bp
def gj (s:ByteArray) (k:Nat):ByteArray:=(E0 s).getD k ByteArray.empty
def I6 (s:ByteArray):Prop:=3<=(E0 s).length/\Bm (gj s 0)=true/\(∀ p,p∈(E0 s).drop 2->Bm p=true)/\(Ez (gj s 1)).2=0
instance (s:ByteArray):Decidable (I6 s):=by unfold I6;infer_instance
def Ip (s:ByteArray):Option au:=if I6 s then some ⟨gj s 0,(Ez (gj s 1)).1,(E0 s).drop 2⟩ else none
def P6  (h:¬ I6 s):Ip s=none:=Ac h
def V5  (h:I6 s):Ip s=some ⟨gj s 0,(Ez (gj s 1)).1,(E0 s).drop 2⟩:=Ad h
def V6 {x:UInt8}:∀ {l p:List UInt8},p∈Ap x l->p.length<=l.length:=by
 have c:∀ (n:Nat) (l p:List UInt8),l.length<=n->p∈Ap x l->p.length<=l.length:=by
  intro n
  induction n with
  | zero=>
   intro l p h b;have:l=[]:=Gd.1 (by omega);subst this
   have:p=[]:=by simpa [Ap] using b
   subst this;simp
  | succ n ih=>
   intro l p h b;rcases Zf x l with e | ⟨a,r,rfl,d⟩
   .rw [Rq e] at b
    have:p=l:=by simpa using b
    rw [this];exact Nat.le_refl _
   .rw [Rr d] at b;simp at h;rcases Gf.1 b with rfl | b
    .simp
    .have:=ih r p (by omega) b;simp;omega
 exact fun {l p} b=>c l.length l p Ln b
def Al9 {x:UInt8} (l:List UInt8):(Ap x l).length<=l.length+1:=by
 induction l with
 | nil=>simp [Ap]
 | cons b l ih=>
  have:=Zi x l;unfold Ap;split
  .simp;omega
  .simp;omega
def Adk {s p:ByteArray} (h:p∈E0 s):p.size<=s.size:=by
 obtain ⟨l,a,rfl⟩:=Ba.1 h;rw [K2];exact V6 a
def Zk (s:ByteArray):(E0 s).length<=s.size+1:=by
 unfold E0;rw [At];exact Al9 _
def V7   (h:k<(E0 s).length):(E0 s)[k]?=some (gj s k):=by
 unfold gj;simp [List.getD,A4 h]
def Zl   (h:k<(E0 s).length):(gj s k).size<=s.size:=Adk (Ai (V7 h))
def Adl (s:ByteArray) (w:WD) (e:Ending) (w':WD):Prop:=
 ∃ (x:aq) (r:Int),e=.returned (.tuple #[x.val,.int .i64 r])/\x.ok w'/\BW w.heap.size w w'/\(∀ b off,x.po=some ⟨b,off,none⟩->w.heap.size<=b/\∃ c,w'.heap[b]?=some (.cells c 9 (0,0)))/\((Ip s=none/\r=50/\x=aq.zero)\/(Ip s=some x.pl/\r=0))
structure sd (w:WD) (s:ByteArray) (wr:WD):Prop where
 low:BW w.heap.size w wr
 mx:Mx wr
 res:wr.heap[w.heap.size]?=some (.cells aq.zero.cells 69 (0,0))
 row:wr.heap[w.heap.size+1]?=some (.cells ((E0 s).map Value.string).toArray 9 (0,0))
def sd.below   (h:sd w s wr) (a:BW wr.heap.size wr w'):sd w s w':=
 ⟨h.low.trans (a.mono h.low.size),h.mx.low a,Ae a h.res (Ab h.res),Ae a h.row (Ab h.row)⟩
def sd.cell   (h:sd w s wr)  (a:k<(E0 s).length):wr.cell? ⟨w.heap.size+1,k,none⟩=some (.string (gj s k)):=by
 rw [Aa h.row];simp [V7 a]
def Ama (s:ByteArray) (w:WD) (hm:Mx w) (hs:s.size<=4294967200):Calls prog 41 #[.string s] w (Adl s w):=by
 obtain ⟨i9,aW,a4,aT,aZ⟩:=Cb V3;obtain ⟨W0,ad⟩:=Ex (w.alloc (.cells aq.zero.cells 69 (0,0)));have al:BW w.heap.size w W0:=by rw [ad];exact Bn
 have aE:W0.heap[w.heap.size]?=some (.cells aq.zero.cells 69 (0,0)):=by rw [ad];exact Ah _ _
 have aH:W0.heap.size=w.heap.size+1:=by rw [ad];simp
 have aA:=Al1 s 32 W0 (hm.low al) (by omega);rw [ad] at aA;obtain ⟨L,n⟩:=Ex ((E0 s).length);have aK:(Ap 32 s.data.toList).length=L:=by rw [n];unfold E0;rw [At]
 rw [aK] at aA;have aU:=Zk s;rw [<- n] at aU;replace ⟨al,aE,aH,aA,n,hm,aK⟩:=H7 al aE aH aA n hm aK;have aQ:=Hh ad;clear ad;go_enter func41,ntmps41;go_wp2_with fail;refine aA.mono ?_;rw [<- aQ.out];rintro e w1 ⟨rfl,aG⟩
 have hV:sd w s w1:=by
  have aL:BW W0.heap.size W0 w1:=by rw [aG];exact Bn
  refine ⟨al.trans (aL.mono al.size),(hm.low al.out).low aL,Ae aL aE.out (Ab aE.out),?_⟩;rw [aG,<- aH.out];exact Ah _ _
 rw [aH.out];replace ⟨aG,hV⟩:=H2 aG hV;by_cases h3:L<3
 .have d3:decide ((L:Int)<3)=true:=Av (by omega)
  have g:¬ I6 s:=fun h=>by have:=h.1;rw [<- n.out] at this;omega
  replace g:=Hh g;have t:=P6 g.out;have cx:=Aa (hV).out.res;have fx:=Af (hV).out.res;have f:=(hV).out.low;replace ⟨t,f⟩:=H2 t f;go_wp2;refine Ak (v:=.tuple #[aq.zero.val,.int .i64 50]) (by simp [results,results41,go_sem,cx,aq.zero,V4.zero];rfl) rfl ⟨aq.zero,50,rfl,aq.il _,?_,fun b aI e=>(by cases e),.inl ⟨t.out,rfl,rfl⟩⟩;exact ((((((f.out).setCell Ln _).setCell Ln _).setCell Ln _).setCell Ln _).setCell Ln _).setCell Ln _
 have d3:decide ((L:Int)<3)=false:=Ax (by omega);have a0:0<L:=by omega
 have c0:=hV.cell (k:=0) (by rw [<- n.out];omega);have o:=V1 (gj s 0) w1 (by have:=Zl (s:=s) (k:=0) (by rw [<- n.out];omega);have:maxLen=9223372036854775807:=rfl;omega);obtain ⟨b0,x⟩:=Ex (Bm (gj s 0));rw [<- x] at o;replace ⟨o,x⟩:=H2 o x;go_wp2_with fail;refine o.mono ?_;rintro e w2 ⟨rfl,aM⟩;have z:=hV.below aM;clear c0;replace ⟨aM,z⟩:=H2 aM z
 cases b0 with
 | false=>
  have g:¬ I6 s:=fun h=>by have:=h.2.1;rw [<- x.out] at this;cases this
  replace g:=Hh g;have t:=P6 g.out;have cx:=Aa (z).out.res;have fx:=Af (z).out.res;have f:=(z).out.low;replace ⟨t,f⟩:=H2 t f;go_wp2;refine Ak (v:=.tuple #[aq.zero.val,.int .i64 50]) (by simp [results,results41,go_sem,cx,aq.zero,V4.zero];rfl) rfl ⟨aq.zero,50,rfl,aq.il _,?_,fun b aI e=>(by cases e),.inl ⟨t.out,rfl,rfl⟩⟩;exact ((((((f.out).setCell Ln _).setCell Ln _).setCell Ln _).setCell Ln _).setCell Ln _).setCell Ln _
 | true=>
 obtain ⟨ta,aX,aS⟩:=Ro (P:=prog) S5 aW (w.heap.size+1) L L 2 2 rfl (by omega);have aJ:=aS (by omega);rw [aT] at aJ;subst aJ;clear aS;simp only [Rm] at aX;have an:=z.out;replace an:=Hh an;go_wp2;go_loopw [6,25] (fun _ i wr=>∃ k:Nat,i=.int .i64 k/\k<=L-2/\Hid (∀ j,j<k->Bm (gj s (2+j))=true)/\Hid (sd w s wr)) (fun _ i _=>(L-2)-(intOf i).toNat)
 case atStart=>exact ⟨0,rfl,Aq _,fun j hj=>absurd hj (Mt _),an.out⟩
 case round=>
  obtain ⟨k,rfl,hk,hy,ao⟩:=hrel;by_cases a3:k<L-2
  .have aV:(k:Int)<((L-2:Nat):Int):=(by omega);have a2:(0:Int)<=(k:Int):=(by omega);have c2:=ao.cell (k:=2+k) (by rw [<- n.out];omega);have o:=V1 (gj s (2+k)) wr (by have:=Zl (s:=s) (k:=2+k) (by rw [<- n.out];omega);have:maxLen=9223372036854775807:=rfl;omega);obtain ⟨bk,av⟩:=Ex (Bm (gj s (2+k)));rw [<- av] at o;replace ⟨o,av⟩:=H2 o av;go_wp2_with fail;refine o.mono ?_;rintro e w4 ⟨rfl,aN⟩;have ac:=ao.below aN;clear c2;replace ⟨aN,ac⟩:=H2 aN ac
   cases bk with
   | false=>
    have g:¬ I6 s:=fun h=>by
     have:=h.2.2.1 (gj s (2+k)) (Ai (by rw [Ns];exact V7 (by rw [<- n.out];omega)));rw [<- av.out] at this;cases this
    replace g:=Hh g;have t:=P6 g.out;have cx:=Aa (ac).out.res;have fx:=Af (ac).out.res;have f:=(ac).out.low;replace ⟨t,f⟩:=H2 t f;go_wp2;refine Ak (v:=.tuple #[aq.zero.val,.int .i64 50]) (by simp [results,results41,go_sem,cx,aq.zero,V4.zero];rfl) rfl ⟨aq.zero,50,rfl,aq.il _,?_,fun b aI e=>(by cases e),.inl ⟨t.out,rfl,rfl⟩⟩;exact ((((((f.out).setCell Ln _).setCell Ln _).setCell Ln _).setCell Ln _).setCell Ln _).setCell Ln _
   | true=>
    have aP:∀ j,j<k+1->Bm (gj s (2+j))=true:=fun j hj=>by
     by_cases c:j=k
     .rw [c];exact av.symm
     .exact hy.out j (by omega)
    replace aP:=Hh aP;go_wp2;go_roundw
    case rel=>exact ⟨k+1,by go_num,by omega,aP.out,ac.out⟩
    case measure=>simp [intOf];omega
  .have aV:¬ (k:Int)<((L-2:Nat):Int):=by omega
   have ap:∀ p,p∈(E0 s).drop 2->Bm p=true:=fun p hp=>by
    obtain ⟨j,hj,e⟩:=Yw hp;rw [G2,<- n.out] at hj;have h1:=hy j (by omega);rw [List.getElem_drop] at e;have h2:=V7 (s:=s) (k:=2+j) (by rw [<- n.out];omega);rw [A4 (by rw [<- n.out];omega)] at h2;have h3:p=gj s (2+j):=(by rw [<- e];exact Lx h2);rw [h3];exact h1
   have a1:1<L:=(by omega);have aY:(1:Int)<L:=(by omega);have c1:=ao.cell (k:=1) (by rw [<- n.out];omega);have aF:=Al2 (gj s 1) wr ao.mx (by have:=Zl (s:=s) (k:=1) (by rw [<- n.out];omega);omega);obtain ⟨u,hu⟩:∃ u:V4,u=(Ez (gj s 1)).1:=⟨_,rfl⟩;obtain ⟨r,hr⟩:∃ r:Int,r=(Ez (gj s 1)).2:=⟨_,rfl⟩;rw [<- hu,<- hr] at aF;replace ⟨ap,aF,hu,hr⟩:=H4 ap aF hu hr;go_wp2_with fail;refine aF.mono ?_;rintro e w5 ⟨rfl,aO⟩;have aC:=ao.below aO;clear c1;replace ⟨aO,aC⟩:=H2 aO aC;by_cases m:r=0
   .have dr:(r != 0)=false:=(by simp [m]);have aB:I6 s:=⟨by rw [<- n.out];omega,x.symm,ap.out,by rw [<- hr.out];exact m⟩;have t:=V5 aB;obtain ⟨W6,aD⟩:=Ex (w5.alloc (.cells u.cells 30 (0,0)));have l:sd w s W6:=(by rw [aD];exact aC.below ((Below.refl _ _).alloc Ln (.cells u.cells 30 (0,0))));have c0:=l.cell (k:=0) (by rw [<- n.out];omega);have am:W6.heap[w5.heap.size]?=some (.cells u.cells 30 (0,0)):=(by rw [aD];exact Ah _ _);have cx:=Aa l.res;have fx:=Af l.res;have q0:=Aa am 0;have q1:=Aa am 1;have q2:=Aa am 2;have q3:=Aa am 3;simp at q0 q1 q2 q3;replace ⟨aB,t,l,am,m⟩:=H5 aB t l am m;have aR:=Hh aD;clear aD;go_upto_region 13 with fail;rw [<- aR.out];go_still_tail 7,(by kernel_rfl);change wpList _ _ _ _ _ W6.drew
    have q:∀ v0 v1 v2 v3 v4 v5,(((((((W6.setCell ⟨w.heap.size,0,none⟩ v0).setCell ⟨w.heap.size,1,none⟩ v1).setCell ⟨w.heap.size,2,none⟩ v2).setCell ⟨w.heap.size,3,none⟩ v3).setCell ⟨w.heap.size,4,none⟩ v4).setCell ⟨w.heap.size,5,none⟩ v5).drew).heap[w.heap.size+1]?=some (.cells ((E0 s).map Value.string).toArray 9 (0,0)):=fun v0 v1 v2 v3 v4 v5=>
     Rn (C0 (by omega) _ (C0 (by omega) _ (C0 (by omega) _ (C0 (by omega) _ (C0 (by omega) _ (C0 (by omega) _ l.row))))))
    have y:∀ v0 v1 v2 v3 v4 v5,BW w.heap.size w (((((((W6.setCell ⟨w.heap.size,0,none⟩ v0).setCell ⟨w.heap.size,1,none⟩ v1).setCell ⟨w.heap.size,2,none⟩ v2).setCell ⟨w.heap.size,3,none⟩ v3).setCell ⟨w.heap.size,4,none⟩ v4).setCell ⟨w.heap.size,5,none⟩ v5).drew):=fun v0 v1 v2 v3 v4 v5=>
     (((((((l.low).setCell Ln _).setCell Ln _).setCell Ln _).setCell Ln _).setCell Ln _).setCell Ln _).drew
    replace ⟨q,y⟩:=H2 q y;go_wp2;refine Ak (v:=.tuple #[(⟨gj s 0,u,some ⟨w.heap.size+1,2,none⟩,L-2,L-2,(E0 s).drop 2⟩:aq).val,.int .i64 0]) (by simp [results,results41,go_sem,cx]) rfl ⟨⟨gj s 0,u,some ⟨w.heap.size+1,2,none⟩,L-2,L-2,(E0 s).drop 2⟩,0,rfl,⟨?_,Nat.le_refl _⟩,y _ _ _ _ _ _,fun b aI e=>(by cases e;exact ⟨by omega,_,q _ _ _ _ _ _⟩),.inr ⟨by rw [t.out,<- hu.out];rfl,rfl⟩⟩;have h:=(Al3 (q (.string (gj s 0)) (.int .i64 u.a) (.int .i64 u.b) (.int .i64 u.c) (.int .i64 u.d) (.slice (some ⟨w.heap.size+1,2,none⟩) (L-2) (L-2))) (by rw [<- n.out];omega)).sub 2 (by rw [<- n.out];omega);rw [Da,<- n.out] at h;exact h
   .have dr:(r != 0)=true:=by simp [m]
    have g:¬ I6 s:=fun h=>by have:=h.2.2.2;rw [<- hr.out] at this;exact m this
    have l:=aC.below ((Below.refl _ _).alloc Ln (.cells u.cells 30 (0,0)));replace ⟨g,l,m⟩:=H3 g l m;have t:=P6 g.out;have cx:=Aa (l).out.res;have fx:=Af (l).out.res;have f:=(l).out.low;replace ⟨t,f⟩:=H2 t f;go_wp2;refine Ak (v:=.tuple #[aq.zero.val,.int .i64 50]) (by simp [results,results41,go_sem,cx,aq.zero,V4.zero];rfl) rfl ⟨aq.zero,50,rfl,aq.il _,?_,fun b aI e=>(by cases e),.inl ⟨t.out,rfl,rfl⟩⟩;exact ((((((f.out).setCell Ln _).setCell Ln _).setCell Ln _).setCell Ln _).setCell Ln _).setCell Ln _
def Au  (cells:α->Array VL) (xs:List α):List VL:=xs.flatMap fun x=>(cells x).toList
def N0  (cells:α->Array VL) (xs ys:List α):Au cells (xs++ys)=Au cells xs++Au cells ys:=by simp [Au]
def P7  (cells:α->Array VL) (x:α):Au cells [x]=(cells x).toList:=by simp [Au]
def F2  {cells:α->Array VL} {sz:Nat} (a:∀ x,(cells x).size=sz) (xs:List α) {i j:Nat} {x:α} (b:xs[i]?=some x) (f:j<sz):(Au cells xs)[i*sz+j]?=(cells x)[j]?:=by
 induction xs generalizing i with
 | nil=>simp at b
 | cons y ys ih=>
  have d:=a y;rw [show Au cells (y :: ys)=(cells y).toList++Au cells ys from by simp [Au]]
  cases i with
  | zero=>
   have e:x=y:=(by simpa using b.symm);subst e;rw [E5 (by simp;omega)];simp
  | succ i=>
   have c:ys[i]?=some x:=(by simpa using b);rw [Gc (by simp [d,Lz];omega)];have:=ih c;rw [show (i+1)*sz+j-(cells y).toList.length=i*sz+j by simp [d,Lz];omega,this]
def Adm (x:aq):x.cells.size=6:=rfl
abbrev DU:=DataW Unit
def By (s:ByteArray):Lit:=.string s.data.toList
def K3 (ns:List ByteArray):DU:=(ns.zipIdx).foldl (fun m p=>m.put (By p.1) (.lit (.int .i64 (p.2:Int)))) (.map [])
def Zm (a:List ByteArray) (x:ByteArray):K3 (a++[x])=(K3 a).put (By x) (.lit (.int .i64 (a.length:Int))):=by
 unfold K3;rw [List.zipIdx_append,Kw];simp
def V8 {a b:ByteArray} (h:By a=By b):a=b:=by
 unfold By at h;injection h with h;exact O4 h
def Zn (s:ByteArray):WideAt.IsKeyLit (By s):=trivial
def P8  {p:List α->Prop} (h0:p []) (h1:∀ l x,p l->p (l++[x])):∀ l,p l:=by
 intro l
 have b:∀ n (l:List α),l.length=n->p l:=by
  intro n
  induction n with
  | zero=>intro l a;rw [Gd.1 a];exact h0
  | succ n ih=>
   intro l a
   cases h:l.reverse with
   | nil=>have:=Ca List.length h;simp at this;rw [this] at a;cases a
   | cons x r=>
    have e:l=r.reverse++[x]:=(by rw [<- List.reverse_reverse l,h];simp);rw [e] at a ⊢;exact h1 _ _ (ih _ (by simpa using a))
 exact b _ l rfl
def Amb (a:List ByteArray):IsMap (K3 a):=by
 induction a using P8 with
 | h0=>exact isMap_empty
 | h1 l x ih=>rw [Zm];exact ih.put _ _
def Adn (a:List ByteArray) (s:ByteArray):has (K3 a) (By s)=true↔s∈a:=by
 induction a using P8 with
 | h0=>simp [K3,has]
 | h1 l x ih=>
  rw [Zm];by_cases e:s=x
  .subst e;rw [has_put_same (Amb l) (Zn _)];simp
  .rw [has_put_other (fun c=>e (V8 c)),ih];simp [e]
def K4 (W:WD) (x:aq):Prop:=∀ b off,x.po=some ⟨b,off,none⟩->∃ c,W.heap[b]?=some (.cells c 9 (0,0))
structure jk (W:WD) (fb mb base:Nat) (nv:VL) (xs:List aq):Prop where
 head:W.heap[fb]?=some (.cells #[nv,.map (some mb)] 101 (0,0))
 row:W.ownsRow base 69 6 nv xs.length (Au aq.cells xs)
 map:W.ownsMap prog 9 (plainElem (H:=Unit) prog 3) mb xs.length (K3 (xs.map aq.name))
 ok:∀ x,x∈xs->x.ok W/\K4 W x
def N1  {so:Option Addr}  {xs:List ByteArray} (h:D3 w so n xs) (j:w.heap.size<=w'.heap.size) (f:∀ b c,so=some ⟨b,c,none⟩->b<w.heap.size->w'.heap[b]?=w.heap[b]?):D3 w' so n xs:=
 ⟨h.len,h.max,fun i x k=>by
  obtain ⟨b,c,e,d,g⟩:=h.cell i x k
  exact ⟨b,c,e,by omega,(Bp (a:=⟨b,c+i,none⟩) (w:=w) (f b c e d)).trans g⟩⟩
def jk.below   {o:VL} {xs:List aq} (h:jk w i n base o xs) (a:BW w.heap.size w w'):jk w' i n base o xs:=by
 refine ⟨Ae a h.head (Ab h.head),⟨h.row.1,?_⟩,?_,fun x m=>⟨(h.ok x m).1.low a,fun b f e=>?_⟩⟩
 .rcases h.row.2 with h | ⟨g,cap,d,s,p,l,r⟩
  .exact .inl h
  .exact .inr ⟨g,cap,d,s,p,Ae a l (Ab l),r⟩
 .exact h.map.kept (row:=none) ⟨a.os,a.tape,a.output,a.size,fun k q _=>a.block k q⟩ (by simp)
 .obtain ⟨c,j⟩:=(h.ok x m).2 b f e;exact ⟨c,Ae a j (Ab j)⟩
def jk.cell {W:WD} {e m base:Nat} {c:VL} {xs:List aq} (h:jk W e m base c xs)  {x:aq} (b:xs[k]?=some x):∃ g,c.ownBlock=some g/\g<W.heap.size/\base<=g/\∀ j,j<6->W.cell? ⟨g,k*6+j,none⟩=(x.cells)[j]?:=by
 have n:=(Ao.1 b).1;rcases h.row.2 with ⟨a,h0⟩ | ⟨g,cap,d,a,f,i,o⟩
 .have:xs.length=0:=h0;omega
 .subst a;refine ⟨g,rfl,Ab i,f,fun j l=>?_⟩
  rw [E6 h.row (k*6+j) (by
   have:(k+1)*6<=xs.length*6:=S7 _ (by omega)
   omega),F2 Adm xs b l]
