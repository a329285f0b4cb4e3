/- Parts of a proof. No condition. -/
import Derived.Test.YtimlcnhcjndijaaGreatDoorG11
import Derived.Lib.OwnBridge
set_option linter.all false
set_option maxRecDepth 100000
set_option maxHeartbeats 6400000
namespace Go.Proofs.YtimlcnhcjndijaaGreatDoor
open Option renaming none->I,some->Z
open Value renaming slice->J,pointer->Q,int->G,string->Y,bool->D,tuple->E
open IntKind renaming i64->O
open Ending renaming returned->K
open Obj renaming cells->V
open Go renaming World->WD,Value->VL,Calls->CS
open Go.RowKit renaming Below->BW
open Go.Proofs.Tryz
section
open Go.RowKit Go.Maps Go.Shelf Go.Sort
def Qv (xs:List ByteArray):List VL:=xs.map Value.string
structure Qw (w:WD) (B:Nat) (v:VL) (xs:List ByteArray):Prop where
 row:w.ownsRow B 9 1 v xs.length (Qv xs)
def Af6 (w:WD) (B:Nat):Qw w B (J I 0 0) []:=⟨rfl,.inl ⟨rfl,rfl⟩⟩
end
section
open Go.RowKit Go.Maps Go.Shelf
variable{s:ByteArray}{vs:List ax}{B base k m n:Nat}{so:Option Addr}{W w w':WD}
structure Apc (v:ax):Prop where
 ok:Afw v
 gq:v.parts.length<=8
 once:Mc v.parts=false
structure Iy (vs:List ax):Prop where
 len:vs.length<=16
 all:∀v,v∈vs->Apc v
 nodup:(vs.map ax.name).Nodup
def Yc:Iy []:=⟨as9,λv h=>(by cases h),as9⟩
def Apd {b:List ByteArray}  {a:ByteArray} {parts:List ByteArray} (h:Di b m a parts=0):a∉b/\Mc parts=false/\m<16/\parts.length<=8:=by
 unfold Di at h;split at h
 .cases h
 .next h1=>
  split at h
  .cases h
  .next h2=>
   split at h
   .cases h
   .next h3=>exact⟨λc=>h1 (Ok.2 c),by simpa using h2,ao9,ao9⟩
def Abm (l:List (Int×ByteArray)):∀xs,Iy xs->Iy (Bh xs l).1:=by
 induction l with
 | nil=>intro xs h;exact h
 | cons x l ih=>
  intro xs h;obtain⟨i,b⟩:=x;simp only[Bh]
  cases hn:Iv b with
  | none=>exact h
  | some v=>
   simp only;by_cases c:Di (xs.map ax.name) xs.length v.name v.parts=0
   .rw [Ad c];obtain⟨f,g,n,j⟩:=Apd c;refine ih _ ⟨by simp;omega,λy d=>?_,?_⟩
    .rcases C4.1 d with d|d
     .exact h.all y d
     .have:y=v:=by simpa using d
      subst this;exact⟨Afx hn,j,g⟩
    .rw [C2,R6];refine⟨h.nodup,as9,λa k b m=>?_⟩
     have:b=v.name:=by simpa using m
     subst this;exact λe=>f (by rw[<-e];exact k)
   .rw [Ac c];exact h
def Uy {v:V4} (h:v.right=true):Ux v:=by
 simp only[V4.right,gr,Eh,In]at h;exact⟨h.1.1.1.1,h.1.1.1.2,h.1.1.2.1,h.1.1.2.2,h.1.2.1,h.1.2.2,h.2.1,h.2.2⟩
def Jf:List ByteArray->ByteArray->Nat->Int
 | [],_,_=>-1
 | n :: ns,s,k=>if n=s then(k:Int)else Jf ns s (k+1)
def Ape {a:List ByteArray}  (h:s∉a) (k:Nat):Jf a s k=-1:=by
 induction a generalizing k with
 | nil=>rfl
 | cons n a ih=>
  simp only[Jf];rw[Ac (λe=>h (by rw[e];exact D6 ..)),ih (λc=>h (Df _ c))]
def Af7  {a b base:Nat}  (h:kq w a b base vs):CS prog 43 #[Q (Z ⟨a,0,I⟩)] w λe w'=>e=K (G O (vs.length:Int))/\w'=w:=by
 obtain⟨c,xs,h1,rfl,d⟩:=h.ex;rw[Ar];exact Abj w a b base c xs h1
def Af8  {a c base:Nat}  (h:kq w a c base vs) (b:Iy vs) (p:ByteArray):CS prog 154 #[Q (Z ⟨a,0,I⟩),Y p] w (Af5 vs p w):=by
 obtain⟨d,xs,h1,rfl,e⟩:=h.ex;have:=b.len;rw[Ar]at this;exact Apb w a c base d xs p h1 ao9
def Yd {p q:ByteArray} (h:p=q):(p.toList == q.toList)=true:=by rw[h];simp
def Uz {p q:ByteArray} (h:p≠q):(p.toList == q.toList)=false:=by
 simp only[Bj];intro e;rw[Lib.toList_data,Lib.toList_data]at e;exact h (Nm e)
def A54 {p q:ByteArray} (h:p=q):(p.toList != q.toList)=false:=by simp[bne,Yd h]
def A55 {p q:ByteArray} (h:p≠q):(p.toList != q.toList)=true:=by simp[bne,Uz h]
def A56 (so:Option Addr) (n c:Nat) (xs:List ByteArray) (x:ByteArray) (w:WD) (h:D9 w so n xs):CS prog 51 #[J so n c,Y x] w λe w'=>e=K (D (Gq xs x))/\w'=w:=by
 have a:=h.len;have r:=h.max;replace⟨h,a⟩:=H2 h a;go_enter func51,ntmps51;go_wp2;go_loopw [5] (λi wr=>∃k:Nat,i=G O k/\k<=n/\Hid (∀j,j<k->xs[j]?≠Z x)/\wr=w) (λi _=>n-(intOf i).toNat)
 case atStart=>exact⟨0,rfl,As _,(λj h=>by omega),rfl⟩
 case round=>
  obtain⟨k,rfl,hk,f,rfl⟩:=hrel;by_cases s:k<n
  .have m:(k:Int)<n:=ao9;have t:(0:Int)<=(k:Int):=ao9;obtain⟨y,l⟩:=h.get s;obtain⟨b,u,rfl,z,v⟩:=h.cell k y l;by_cases q:y=x
   .have d:=Yd q;have g:Gq xs x=true:=Ok.2 (by rw[<-q];exact Ai l);replace⟨l,q,g⟩:=H3 l q g;go_wp2;go_ret;exact⟨by rw[g.out];rfl,rfl⟩
   .have d:=Uz q
    have o:∀j,j<k+1->xs[j]?≠Z x:=λj p e=>by
     by_cases c:j=k
     .subst c;rw[l]at e;exact q (K5 e)
     .exact f.out j ao9 e
    replace⟨l,q,o⟩:=H3 l q o;go_wp2;go_roundw
    case rel=>exact⟨k+1,by go_num,ao9,o.out,trivial⟩
    case measure=>simp[intOf];omega
  .have m:¬(k:Int)<n:=ao9;have g:Gq xs x=false:=(by rw[Gl];intro c;obtain⟨j,p,e⟩:=Pb.1 (Ok.1 c);have hl:=a.out;exact f.out j ao9 (by rw[A4 p,e]));replace g:=Hh g;go_wp2;go_ret;exact⟨by rw[g.out];rfl,rfl⟩
def Agb (xs:List ByteArray) (w:WD) (e:Ending) (w':WD):Prop:=e=K (D (Mc xs))/\BW w.heap.size w w'
def Apf (so:Option Addr) (n c:Nat) (xs:List ByteArray) (w:WD) (h:D9 w so n xs):CS prog 69 #[J so n c] w (Agb xs w):=by
 have f:=h.len;have ac:=h.max;replace⟨h,f⟩:=H2 h f;go_enter func69,ntmps69;go_wp2;go_loopw [3] (λi wr=>∃k:Nat,i=G O k/\k<=n/\Hid (¬Uu xs k)/\Hid (BW w.heap.size w wr)) (λi _=>n-(intOf i).toNat)
 case atStart=>exact⟨0,rfl,As _,(λ⟨i,j,s,h1,h2,_⟩=>absurd h2 (Nc _)),Below.refl _ _⟩
 case round=>
  obtain⟨k,rfl,hk,hD,hB⟩:=hrel;by_cases hc:k<n
  .have t:(k:Int)<n:=ao9;have am:(0:Int)<=(k:Int):=ao9;obtain⟨y,r⟩:=h.get hc;obtain⟨b,an,rfl,hb,a0⟩:=h.cell k y r;replace r:=Hh r;go_wp2;go_loopw [4] (λi wq=>∃j:Nat,i=G O j/\j<=k/\Hid (∀g,g<j->xs[g]?≠Z y)/\Hid (BW w.heap.size w wq)) (λi _=>k-(intOf i).toNat)
   case atStart=>exact⟨0,rfl,As _,(λg h=>absurd h (Nc _)),hB.out⟩
   case round=>
    obtain⟨j,rfl,hj,hN,a⟩:=hrel;by_cases v:j<k
    .have u:(j:Int)<k:=ao9;have al:(0:Int)<=(j:Int):=ao9;obtain⟨z,p⟩:=h.get (i:=j) ao9;obtain⟨b2,ad,e2,af,c0⟩:=h.cell j z p;cases e2;have q0:=(Ag a.out hb).trans a0;have q1:=(Ag a.out hb).trans c0;clear c0;by_cases q:y=z
     .have d:=Yd q;have o:Mc xs=true:=(by rw[X6];exact⟨k,j,y,v,by rw[f.out];exact hc,r.out,by rw[q];exact p⟩);replace⟨p,q,o⟩:=H3 p q o;go_wp2;go_quiet (fail);go_wp2;go_ret;exact⟨by rw[o.out];rfl,⟨a.os,a.tape,a.output,a.size,a.block⟩⟩
     .have d:=Uz q
      have m:∀g,g<j+1->xs[g]?≠Z y:=λg h e=>by
       by_cases c:g=j
       .subst c;rw[p]at e;exact q (K5 e).symm
       .exact hN.out g ao9 e
      replace⟨p,q,m⟩:=H3 p q m;go_wp2;go_quiet (fail);go_wp2;go_roundw
      case rel=>exact⟨j+1,by go_num,ao9,m.out,⟨a.os,a.tape,a.output,a.size,a.block⟩⟩
      case measure=>simp[intOf];omega
    .have u:¬(j:Int)<k:=ao9
     have l:¬Uu xs (k+1):=λ⟨i,g,s,h1,h2,h3,h4⟩=>by
      by_cases c:i=k
      .subst c;rw[r.out]at h3;exact hN.out g ao9 (by rw[h4,<-h3])
      .exact hD.out ⟨i,g,s,h1,ao9,h3,h4⟩
     replace l:=Hh l;go_wp2;go_roundw
     case rel=>exact⟨k+1,by go_num,ao9,l.out,a.out⟩
     case measure=>simp[intOf];omega
  .have t:¬(k:Int)<n:=ao9
   have o:Mc xs=false:=by
    rw[Gl];intro c;have hl:=f.out;have x:k=n:=ao9;exact hD.out (by rw[x,<-hl];exact(X6 xs).1 c)
   replace o:=Hh o;go_wp2;go_ret;exact⟨by rw[o.out];rfl,hB.out⟩
structure Ap (w:WD) (so:Option Addr) (n:Nat) (xs:List Int):Prop where
 len:xs.length=n
 max:n<=9223372036854775807
 cell:∀i x,xs[i]?=Z x->∃b off,so=Z ⟨b,off,I⟩/\b<w.heap.size/\w.cell? ⟨b,off+i,I⟩=Z (G O x)
def Ap.low    {xs:List Int} (h:Ap w so n xs) (d:BW w.heap.size w w'):Ap w' so n xs:=
 ⟨h.len,h.max,λi x g=>by
  obtain⟨b,c,e,a,f⟩:=h.cell i x g
  exact⟨b,c,e,By a d.size,(Ag d a).trans f⟩⟩
def Ap.get    {xs:List Int} (h:Ap w so n xs) {i:Nat} (a:i<n):=Ge xs i (by rw[h.len];exact a)
def Agc   {v:VL} {xs:List Int} (h:Al w B v xs):∃so c,v=J so xs.length c/\Ap w so xs.length xs:=by
 rcases h.row.2 with⟨a,h0⟩|⟨g,cap,e,a,j,f,m,l,n⟩
 .have:xs=[]:=Gb.1 h0;subst this;exact⟨I,0,a,rfl,as9,λi x b=>by simp at b⟩
 .refine ⟨Z ⟨g,0,I⟩,cap,a,rfl,by have:maxLen=9223372036854775807:=rfl;omega,λi x b=>⟨g,0,rfl,Ab f,?_⟩⟩;have k:=(Aq.1 b).1;have d:=h.row;rw[a]at d;rw[Cn,Fo d i ao9,Bu,Bg,b];rfl
def Apg (xs ys:List Int) (w:WD) (e:Ending) (w':WD):Prop:=e=K (D (decide (xs=ys)))/\BW w.heap.size w w'
def A57 (ao bo:Option Addr) (n m c c':Nat) (xs ys:List Int) (w:WD) (s:Ap w ao n xs) (t:Ap w bo m ys):CS prog 50 #[J ao n c,J bo m c'] w (Apg xs ys w):=by
 have o:=s.len;have p:=t.len;have af:=s.max;by_cases q:n=m;rotate_left
 .have d:((n:Int) != (m:Int))=true:=by rw[Fs];omega
  have f:decide (xs=ys)=false:=Au λh=>q (by rw[<-o,<-p,h]);replace⟨s,t,o,p,q,f⟩:=H6 s t o p q f;go_enter func50,ntmps50;go_wp2;go_ret;exact⟨by rw[f.out];rfl,Below.refl _ _⟩
 subst q;have d:((n:Int) != (n:Int))=false:=as9
 replace⟨s,t,o,p⟩:=H4 s t o p;go_enter func50,ntmps50;go_wp2;go_loopw [5] (λi wr=>∃k:Nat,i=G O k/\k<=n/\Hid (∀j,j<k->xs[j]?=ys[j]?)/\Hid (BW w.heap.size w wr)) (λi _=>n-(intOf i).toNat)
 case atStart=>exact⟨0,rfl,As _,(λj h=>by omega),Below.refl _ _⟩
 case round=>
  obtain⟨k,rfl,hk,r,l⟩:=hrel;by_cases hc:k<n
  .have v:(k:Int)<n:=ao9;have ad:(0:Int)<=(k:Int):=ao9;obtain⟨y,a⟩:=s.get hc;obtain⟨z,g⟩:=t.get hc;obtain⟨b,al,rfl,hb,a0⟩:=s.cell k y a;obtain⟨b',ac,rfl,u,a1⟩:=t.cell k z g;have b0:=(Ag l.out hb).trans a0;have b1:=(Ag l.out u).trans a1;clear a0 a1;by_cases q:y=z
   .have d2:(y != z)=false:=by simp[q]
    have hn:∀j,j<k+1->xs[j]?=ys[j]?:=λj hj=>by
     by_cases e:j=k
     .subst e;rw[a,g,q]
     .exact r.out j ao9
    replace⟨a,g,q,hn⟩:=H4 a g q hn;go_wp2;go_quiet (fail);go_wp2;go_roundw
    case rel=>exact⟨k+1,by go_num,ao9,hn.out,⟨l.os,l.tape,l.output,l.size,l.block⟩⟩
    case measure=>simp[intOf];omega
   .have d2:(y != z)=true:=by simp[q]
    have f:decide (xs=ys)=false:=Au λh=>by
     rw[h,g]at a;exact q (K5 a).symm
    replace⟨a,g,q,f⟩:=H4 a g q f;go_wp2;go_quiet (fail);go_wp2;go_ret;exact⟨by rw[f.out];rfl,⟨l.os,l.tape,l.output,l.size,l.block⟩⟩
  .have v:¬(k:Int)<n:=ao9
   have x:=At (Eg λj=>by
    by_cases hj:j<n
    .exact r.out j ao9
    .have h1:=o.out;have h2:=p.out
     rw[Pa ao9,Pa ao9])
   replace x:=Hh x;go_wp2;go_ret;exact⟨by rw[x.out];rfl,l.out⟩
structure jj (W:WD) (base:Nat) (nv:VL) (xs:List aq):Prop where
 row:W.ownsRow base 69 6 nv xs.length (Av aq.cells xs)
 ok:∀x,x∈xs->x.ok W/\La W x
def jj.below   {l:VL} {xs:List aq} (h:jj w base l xs) (d:BW w.heap.size w w'):jj w' base l xs:=by
 refine⟨⟨h.row.1,?_⟩,λx k=>⟨(h.ok x k).1.low d,λb f e=>?_⟩⟩
 .rcases h.row.2 with h|⟨g,cap,a,o,m,j,n⟩
  .exact .inl h
  .exact .inr ⟨g,cap,a,o,m,Ae d j (Ab j),n⟩
 .obtain ⟨c,i⟩:=(h.ok x k).2 b f e;exact⟨c,Ae d i (Ab i)⟩
def jj.cell   {c:VL} {xs:List aq} (h:jj W base c xs)  {x:aq} (b:xs[k]?=Z x):∃g cap,c=J (Z ⟨g,0,I⟩) xs.length cap/\g<W.heap.size/\base<=g/\∀j,j<6->W.cell? ⟨g,k*6+j,I⟩=(x.cells)[j]?:=by
 have l:=(Aq.1 b).1;rcases h.row.2 with⟨a,h0⟩|⟨g,cap,d,a,e,f,m⟩
 .have:xs.length=0:=h0;omega
 .subst a;refine⟨g,cap,rfl,Ab f,e,λj i=>?_⟩
  rw[Fo h.row (k*6+j) (by
   have:(k+1)*6<=xs.length*6:=Wr _ ao9
   omega),Iw Afi xs b i]
def Agd   {a:VL} {xs:List aq} (h:jj w base a xs):∀b w,(Builtin.len_ #[52] b #[a]).run prog w=.ok (G O (xs.length:Int)) w:=λb w=>by
 rcases Joins.ownsRow_forms h.row with⟨rfl,h0⟩|⟨g,cap,rfl⟩
 .rw [h0];simp[go_sem,Pe]
 .simp [go_sem,Pe]
def Aph (w:WD) (base:Nat) (u:VL) (xs:List aq) (s:ByteArray) (hF:jj w base u xs) (r:xs.length<=4096):CS prog 68 #[.agg #[u],Y s] w λe w'=>e=K (G O (Jf (xs.map aq.name) s 0))/\BW w.heap.size w w':=by
 have t:=Agd hF;obtain⟨n,l⟩:=Ex (xs.length);rw[<-l]at t r;obtain⟨W,o⟩:=Ex (w.alloc (V #[u] 54 (0,0)));have p:BW w.heap.size w W:=by rw[o];exact Bn
 have j:W.heap[w.heap.size]?=Z (V #[u] 54 (0,0)):=by rw[o];exact Ah _ _
 have h:=hF.below p;have f0:=Bk j 0 u rfl;replace⟨hF,l,p,j,h⟩:=H5 hF l p j h;go_enter func68,ntmps68;go_wp2;rw[<-o];have ac:=Hh o;clear o;go_loop [5] (λi=>∃k:Nat,i=G O k/\k<=n/\Hid (Jf (xs.map aq.name) s 0=Jf ((xs.map aq.name).drop k) s k)) (λi=>n-(intOf i).toNat)
 case atStart=>exact⟨0,rfl,As _,rfl⟩
 case round=>
  obtain⟨k,rfl,hk,v⟩:=hrel;by_cases hc:k<n
  .have y:(k:Int)<n:=ao9;have ad:(0:Int)<=(k:Int):=ao9;obtain⟨x,m⟩:=Ge xs k (by have:=l.out;omega);obtain⟨g,cap,rfl,_,_,a⟩:=h.cell m;have z:W.cell? ⟨g,k*6+0,I⟩=Z (Y x.name):=a 0 ao9;rw[Iu]at z;have c:(xs.map aq.name)[k]?=Z x.name:=(by rw[Bg,m];rfl);have b:(xs.map aq.name).drop k=x.name :: (xs.map aq.name).drop (k+1):=(by obtain⟨h1,h2⟩:=Aq.1 c;rw[Aac h1,h2]);rw[<-l.out]at f0;clear t;by_cases q:x.name=s
   .have d:=Yd q;have f:Jf (xs.map aq.name) s 0=(k:Int):=(by rw[v.out,b];simp only[Jf];rw[Ad q]);replace⟨m,a,c,b,q,f⟩:=H6 m a c b q f;go_wp2;go_ret;exact⟨by rw[f.out];rfl,p.out⟩
   .have d:=Uz q;have f:Jf (xs.map aq.name) s 0=Jf ((xs.map aq.name).drop (k+1)) s (k+1):=(by rw[v.out,b];simp only[Jf];rw[Ac q]);replace⟨m,a,c,b,q,f⟩:=H6 m a c b q f;go_wp2;go_round
    case rel=>exact⟨k+1,by go_num,ao9,f.out⟩
    case measure=>simp[intOf];omega
  .have y:¬(k:Int)<n:=ao9;have f:Jf (xs.map aq.name) s 0=-1:=(by rw[v.out,List.drop_eq_nil_of_le (by rw[Ar];have:=l.out;omega)];rfl);replace f:=Hh f;go_wp2;go_ret;exact⟨by rw[f.out];rfl,p.out⟩
def Age  {base a:Nat} {e:TypeId} {size:Nat} {v:VL}  {xs:List VL} (h:w.ownsRow base e size v n xs) (c:a<=base):w.ownsRow a e size v n xs:=by
 refine⟨h.1,?_⟩;rcases h.2 with h|⟨g,cap,b,i,d,f⟩
 .exact .inl h
 .exact .inr ⟨g,cap,b,i,Ay c d,f⟩
def pq (v:V4) (k:Nat):V4:=⟨if 0<k then v.a else 0,if 1<k then v.b else 0,if 2<k then v.c else 0,if 3<k then v.d else 0⟩
structure qx (w:WD) (vb:Nat) (so:Option Addr) (xs:List ByteArray) (v:V4) (W:WD):Prop where
 low:BW w.heap.size w W
 gt:w.heap.size<vb
 r0:W.heap[w.heap.size]?=Z (V V4.zero.cells 30 (0,0))
 r1:W.heap[vb]?=Z (V v.cells 30 (0,0))
 strs:D9 W so 4 xs
def qx.below {w W b:WD} {c:Nat}  {xs:List ByteArray} {v:V4} (h:qx w c so xs v W) (a:BW W.heap.size W b):qx w c so xs v b:=
 ⟨h.low.trans (a.mono h.low.size),h.gt,Ae a h.r0 (Ab h.r0),Ae a h.r1 (Ab h.r1),h.strs.low a⟩
def qx.set  {d:Nat}  {xs:List ByteArray} {v j:V4} (h:qx w d so xs v W) (o:Nat) (x:VL) (e:v.cells.setIfInBounds o x=j.cells) (g:∀b c,so=Z ⟨b,c,I⟩->b≠d):qx w d so xs j (W.setCell ⟨d,o,I⟩ x):=
 ⟨h.low.setCell (Qn h.gt) _,h.gt,Cv (Nat.ne_of_lt h.gt) _ h.r0,by rw[Am h.r1,e],h.strs.len,h.strs.max,λi x l=>by
  obtain⟨b,c,e,f,k⟩:=h.strs.cell i x l
  exact⟨b,c,e,by simpa[World.setCell]using f,(Bs (a:=⟨b,c+i,I⟩) (w:=W) (Ez (g b c e))).trans k⟩⟩
def Pp {x:Int} (h:x<0\/1073741824<x):gr x=false:=by
 unfold gr;rcases h with h|h
 .rw [Au ao9];rfl
 .rw [Au (p:=x<=1073741824) ao9];simp
def Apj  {j:Nat} (a:(Ao 44 s.data.toList).length=4) (b:j<4) (h:gr (Eo (Ao 44 s.data.toList) j)=false):E7 s=(V4.zero,11):=by
 unfold E7;rw[Ad a];unfold V4.told;rw[Ac];rw[V4.right,Pk]
 rcases(show j=0\/j=1\/j=2\/j=3 by omega)with rfl|rfl|rfl|rfl<;>rw[h]<;>simp
def Apk  (a:(Ao 44 s.data.toList).length=4) (h:∀j,j<4->gr (Eo (Ao 44 s.data.toList) j)=true):E7 s=(Pk (Ao 44 s.data.toList),0):=by
 unfold E7;rw[Ad a];unfold V4.told;rw[Ad];rw[V4.right,Pk,h 0 ao9,h 1 ao9,h 2 ao9,h 3 ao9];rfl
def Apl (s:ByteArray) (w:WD) (hs:s.size<=4294967200):CS prog 112 #[Y s] w λe w'=>e=K (E #[(E7 s).1.val,G O (E7 s).2])/\BW w.heap.size w w':=by
 obtain⟨W0,aJ⟩:=Ex (w.alloc (V V4.zero.cells 30 (0,0)));have aO:BW w.heap.size w W0:=by rw[aJ];exact Bn
 have aQ:W0.heap[w.heap.size]?=Z (V V4.zero.cells 30 (0,0)):=by rw[aJ];exact Ah _ _
 have aL:=Aa6 s 44 W0 ao9;have aV:(((44:UInt8).toNat:Nat):Int)=44:=rfl;rw[aV]at aL;clear aV
 have av:∀x,x∈(Ao 44 s.data.toList).map au->x.size<=maxLen:=λx o=>by
  obtain⟨p,hp,rfl⟩:=A8.1 o;have:=Xz hp;rw[Fe];have h2:=Km s;have:maxLen=9223372036854775807:=rfl;omega
 obtain⟨L,hL⟩:=Ex ((Ao 44 s.data.toList).length);rw[aJ]at aL;have aW:=Hh aJ;clear aJ;replace⟨aO,aQ,aL,hL⟩:=H4 aO aQ aL hL;have af:=Hh av;clear av;go_enter func112,ntmps112;go_wp2_with fail;refine aL.mono ?_;rintro e w1 ⟨so,n,c,rfl,a5,aA,aB,aE⟩;rw[<-aW.out]at aE aB;have al:(Ao 44 s.data.toList).length=n:=by have:=aA.len;rwa [Ar]at this
 have z:=aO.trans (aE.mono aO.size);have am:=Ae aE aQ.out (Ab aQ.out);have a4:=aA.max;by_cases h4:n=4
 .subst h4;have aY:=Ab am
  have aG:∀b ao,so=Z ⟨b,ao,I⟩->b≠w1.heap.size:=λb ao e=>by
   obtain⟨x,o⟩:=aA.get (i:=0) ao9;obtain⟨b',aZ,e',aX,_⟩:=aA.cell 0 x o;exact Nat.ne_of_lt (by rw[e]at e';cases e';exact aX)
  obtain⟨vb,aR⟩:=Ex (w1.heap.size)
  have aI:qx w vb so ((Ao 44 s.data.toList).map au) (pq (Pk (Ao 44 s.data.toList)) 0) (w1.alloc (V V4.zero.cells 30 (0,0))):=
   ⟨z.alloc z.size _,ao9,Aj _ am,A5 _ _ aR,aA.low Bn⟩
  rw[<-aR]at aG;have av:=af.out;have aK:∀j,j<4->gr (Eo (Ao 44 s.data.toList) j)=false->E7 s=(V4.zero,11):=λj hj h=>Apj al hj h;have aF:=Apk al
  have aM:∀j x,((Ao 44 s.data.toList).map au)[j]?=Z x->Bl x 10=Eo (Ao 44 s.data.toList) j:=λj x o=>by
   rw[Bg]at o;obtain⟨p,hp,rfl⟩:=Oa.1 o;unfold Eo;rw[List.getD,hp];rfl
  obtain⟨P,hP⟩:=Ex (Pk (Ao 44 s.data.toList));rw[<-hP]at aI aF;obtain⟨pa,pb,pc,pd⟩:=P
  have aU:∀j,j<4->Eo (Ao 44 s.data.toList) j=(V4.get ⟨pa,pb,pc,pd⟩ j):=λj hj=>by
   rw[hP]
   rcases(show j=0\/j=1\/j=2\/j=3 by omega)with rfl|rfl|rfl|rfl<;>rfl
  have aS:∀j x,((Ao 44 s.data.toList).map au)[j]?=Z x->Bl x 10=V4.get ⟨pa,pb,pc,pd⟩ j:=λj x o=>by
   rw[aM j x o];refine aU j ?_;have:=(Aq.1 o).1;rw[Ar,al]at this;exact this
  clear aM;have k:=Hh aK;have aP:=Hh aF;have ap:=Hh aS;have m:=Hh aU;clear aK aF aS aU av;replace⟨aG,z,am,aA,aB,aE,hP,aI⟩:=H8 aG z am aA aB aE hP aI;replace al:=Hh al;have aT:=Hh aR;rw[aT.out]at aI;go_wp2;rw[<-aT.out]at aI ⊢;clear aR;go_loopw [6] (λi wq=>∃j:Nat,j<=4/\i=G O j/\Hid (∀j',j'<j->gr (Eo (Ao 44 s.data.toList) j')=true)/\Hid (qx w vb so ((Ao 44 s.data.toList).map au) (pq ⟨pa,pb,pc,pd⟩ j) wq)) (λi _=>4-(intOf i).toNat)
  case atStart=>exact⟨0,ao9,rfl,λj h=>absurd h (Nc _),aI.out⟩
  case round=>
   obtain⟨j,hj,an,aN,hM⟩:=hrel;rcases(show j=0\/j=1\/j=2\/j=3\/j=4 by omega)with rfl|rfl|rfl|rfl|rfl
   .have ad:u6=G O 0:=an;clear an;subst ad;obtain⟨x,o⟩:=hM.strs.get (i:=0) ao9;obtain⟨b,ao,rfl,hb,a0⟩:=hM.strs.cell 0 x o
    try rw[Iu]at a0
    have ac:Bl x 10=pa:=ap 0 x o;have aH:=af x (Ai o);have d:CS prog 168 #[Y x,G O 10] wr λe w'=>e=K (G O (Bl x 10))/\BW wr.heap.size wr w':=Xv x 10 wr aH ao9;rw[ac]at d;replace⟨o,ac,d⟩:=H3 o ac d;go_wp2_with fail;refine d.mono ?_;rintro e wq ⟨rfl,t⟩;have f:=hM.below t;have r1:=f.r1;have l:=f.r0;have b0:=Bk l 0 (G O 0) rfl;have b1:=Bk l 1 (G O 0) rfl;have b2:=Bk l 2 (G O 0) rfl;have b3:=Bk l 3 (G O 0) rfl;have fr:=Af l;have fv:=Af r1;have q0:=Bk r1 0 (G O 0) rfl
    have he:∀v0 v1 v2 v3,BW w.heap.size w ((((wq.setCell ⟨w.heap.size,0,I⟩ v0).setCell ⟨w.heap.size,1,I⟩ v1).setCell ⟨w.heap.size,2,I⟩ v2).setCell ⟨w.heap.size,3,I⟩ v3):=λv0 v1 v2 v3=>
     (((f.low.setCell Ln _).setCell Ln _).setCell Ln _).setCell Ln _
    replace⟨f,r1,l,t,he⟩:=H5 f r1 l t he;by_cases y:pa<0
    .have aD:=At y;have a:=k 0 ao9 (by rw[m 0 ao9];exact Pp (.inl y));replace a:=Hh a;go_wp2;refine Ak (v:=E #[V4.zero.val,G O 11]) (by simp[results,results112,go_sem,b0,b1,b2,b3,V4.zero]) rfl ⟨by rw[a.out],he _ _ _ _⟩
    .have aD:=Au y;by_cases u:1073741824<pa
     .have aC:=At u;have a:=k 0 ao9 (by rw[m 0 ao9];exact Pp (.inr u));replace a:=Hh a;go_wp2;refine Ak (v:=E #[V4.zero.val,G O 11]) (by simp[results,results112,go_sem,b0,b1,b2,b3,V4.zero]) rfl ⟨by rw[a.out],he _ _ _ _⟩
     .have aC:=Au u;have r:qx w vb (Z ⟨b,ao,I⟩) ((Ao 44 s.data.toList).map au) (pq ⟨pa,pb,pc,pd⟩ 1) (wq.setCell ⟨vb,0,I⟩ (G O pa)):=f.set 0 _ rfl aG.out
      have g:∀j,j<1->gr (Eo (Ao 44 s.data.toList) j)=true:=λj hj=>by
       by_cases q:j=0
       .subst q;rw[m 0 ao9];show gr pa=true;unfold gr;rw[At (show(0:Int)<=pa by omega),At (show pa<=1073741824 by omega)];rfl
       .exact aN.out j ao9
      replace⟨r,g⟩:=H2 r g;go_wp2;go_roundw
      case rel=>exact⟨1,ao9,rfl,g.out,r.out⟩
      case measure=>simp[intOf]
   .have ad:u6=G O 1:=an;clear an;subst ad;obtain⟨x,o⟩:=hM.strs.get (i:=1) ao9;obtain⟨b,ao,rfl,hb,a0⟩:=hM.strs.cell 1 x o
    try rw[Iu]at a0
    have ac:Bl x 10=pb:=ap 1 x o;have aH:=af x (Ai o);have d:CS prog 168 #[Y x,G O 10] wr λe w'=>e=K (G O (Bl x 10))/\BW wr.heap.size wr w':=Xv x 10 wr aH ao9;rw[ac]at d;replace⟨o,ac,d⟩:=H3 o ac d;go_wp2_with fail;refine d.mono ?_;rintro e wq ⟨rfl,t⟩;have f:=hM.below t;have r1:=f.r1;have l:=f.r0;have b0:=Bk l 0 (G O 0) rfl;have b1:=Bk l 1 (G O 0) rfl;have b2:=Bk l 2 (G O 0) rfl;have b3:=Bk l 3 (G O 0) rfl;have fr:=Af l;have fv:=Af r1;have q0:=Bk r1 1 (G O 0) rfl
    have he:∀v0 v1 v2 v3,BW w.heap.size w ((((wq.setCell ⟨w.heap.size,0,I⟩ v0).setCell ⟨w.heap.size,1,I⟩ v1).setCell ⟨w.heap.size,2,I⟩ v2).setCell ⟨w.heap.size,3,I⟩ v3):=λv0 v1 v2 v3=>
     (((f.low.setCell Ln _).setCell Ln _).setCell Ln _).setCell Ln _
    replace⟨f,r1,l,t,he⟩:=H5 f r1 l t he;by_cases y:pb<0
    .have aD:=At y;have a:=k 1 ao9 (by rw[m 1 ao9];exact Pp (.inl y));replace a:=Hh a;go_wp2;refine Ak (v:=E #[V4.zero.val,G O 11]) (by simp[results,results112,go_sem,b0,b1,b2,b3,V4.zero]) rfl ⟨by rw[a.out],he _ _ _ _⟩
    .have aD:=Au y;by_cases u:1073741824<pb
     .have aC:=At u;have a:=k 1 ao9 (by rw[m 1 ao9];exact Pp (.inr u));replace a:=Hh a;go_wp2;refine Ak (v:=E #[V4.zero.val,G O 11]) (by simp[results,results112,go_sem,b0,b1,b2,b3,V4.zero]) rfl ⟨by rw[a.out],he _ _ _ _⟩
     .have aC:=Au u;have r:qx w vb (Z ⟨b,ao,I⟩) ((Ao 44 s.data.toList).map au) (pq ⟨pa,pb,pc,pd⟩ 2) (wq.setCell ⟨vb,1,I⟩ (G O pb)):=f.set 1 _ rfl aG.out
      have g:∀j,j<2->gr (Eo (Ao 44 s.data.toList) j)=true:=λj hj=>by
       by_cases q:j=1
       .subst q;rw[m 1 ao9];show gr pb=true;unfold gr;rw[At (show(0:Int)<=pb by omega),At (show pb<=1073741824 by omega)];rfl
       .exact aN.out j ao9
      replace⟨r,g⟩:=H2 r g;go_wp2;go_roundw
      case rel=>exact⟨2,ao9,rfl,g.out,r.out⟩
      case measure=>simp[intOf]
   .have ad:u6=G O 2:=an;clear an;subst ad;obtain⟨x,o⟩:=hM.strs.get (i:=2) ao9;obtain⟨b,ao,rfl,hb,a0⟩:=hM.strs.cell 2 x o
    try rw[Iu]at a0
    have ac:Bl x 10=pc:=ap 2 x o;have aH:=af x (Ai o);have d:CS prog 168 #[Y x,G O 10] wr λe w'=>e=K (G O (Bl x 10))/\BW wr.heap.size wr w':=Xv x 10 wr aH ao9;rw[ac]at d;replace⟨o,ac,d⟩:=H3 o ac d;go_wp2_with fail;refine d.mono ?_;rintro e wq ⟨rfl,t⟩;have f:=hM.below t;have r1:=f.r1;have l:=f.r0;have b0:=Bk l 0 (G O 0) rfl;have b1:=Bk l 1 (G O 0) rfl;have b2:=Bk l 2 (G O 0) rfl;have b3:=Bk l 3 (G O 0) rfl;have fr:=Af l;have fv:=Af r1;have q0:=Bk r1 2 (G O 0) rfl
    have he:∀v0 v1 v2 v3,BW w.heap.size w ((((wq.setCell ⟨w.heap.size,0,I⟩ v0).setCell ⟨w.heap.size,1,I⟩ v1).setCell ⟨w.heap.size,2,I⟩ v2).setCell ⟨w.heap.size,3,I⟩ v3):=λv0 v1 v2 v3=>
     (((f.low.setCell Ln _).setCell Ln _).setCell Ln _).setCell Ln _
    replace⟨f,r1,l,t,he⟩:=H5 f r1 l t he;by_cases y:pc<0
    .have aD:=At y;have a:=k 2 ao9 (by rw[m 2 ao9];exact Pp (.inl y));replace a:=Hh a;go_wp2;refine Ak (v:=E #[V4.zero.val,G O 11]) (by simp[results,results112,go_sem,b0,b1,b2,b3,V4.zero]) rfl ⟨by rw[a.out],he _ _ _ _⟩
    .have aD:=Au y;by_cases u:1073741824<pc
     .have aC:=At u;have a:=k 2 ao9 (by rw[m 2 ao9];exact Pp (.inr u));replace a:=Hh a;go_wp2;refine Ak (v:=E #[V4.zero.val,G O 11]) (by simp[results,results112,go_sem,b0,b1,b2,b3,V4.zero]) rfl ⟨by rw[a.out],he _ _ _ _⟩
     .have aC:=Au u;have r:qx w vb (Z ⟨b,ao,I⟩) ((Ao 44 s.data.toList).map au) (pq ⟨pa,pb,pc,pd⟩ 3) (wq.setCell ⟨vb,2,I⟩ (G O pc)):=f.set 2 _ rfl aG.out
      have g:∀j,j<3->gr (Eo (Ao 44 s.data.toList) j)=true:=λj hj=>by
       by_cases q:j=2
       .subst q;rw[m 2 ao9];show gr pc=true;unfold gr;rw[At (show(0:Int)<=pc by omega),At (show pc<=1073741824 by omega)];rfl
       .exact aN.out j ao9
      replace⟨r,g⟩:=H2 r g;go_wp2;go_roundw
      case rel=>exact⟨3,ao9,rfl,g.out,r.out⟩
      case measure=>simp[intOf]
   .have ad:u6=G O 3:=an;clear an;subst ad;obtain⟨x,o⟩:=hM.strs.get (i:=3) ao9;obtain⟨b,ao,rfl,hb,a0⟩:=hM.strs.cell 3 x o
    try rw[Iu]at a0
    have ac:Bl x 10=pd:=ap 3 x o;have aH:=af x (Ai o);have d:CS prog 168 #[Y x,G O 10] wr λe w'=>e=K (G O (Bl x 10))/\BW wr.heap.size wr w':=Xv x 10 wr aH ao9;rw[ac]at d;replace⟨o,ac,d⟩:=H3 o ac d;go_wp2_with fail;refine d.mono ?_;rintro e wq ⟨rfl,t⟩;have f:=hM.below t;have r1:=f.r1;have l:=f.r0;have b0:=Bk l 0 (G O 0) rfl;have b1:=Bk l 1 (G O 0) rfl;have b2:=Bk l 2 (G O 0) rfl;have b3:=Bk l 3 (G O 0) rfl;have fr:=Af l;have fv:=Af r1;have q0:=Bk r1 3 (G O 0) rfl
    have he:∀v0 v1 v2 v3,BW w.heap.size w ((((wq.setCell ⟨w.heap.size,0,I⟩ v0).setCell ⟨w.heap.size,1,I⟩ v1).setCell ⟨w.heap.size,2,I⟩ v2).setCell ⟨w.heap.size,3,I⟩ v3):=λv0 v1 v2 v3=>
     (((f.low.setCell Ln _).setCell Ln _).setCell Ln _).setCell Ln _
    replace⟨f,r1,l,t,he⟩:=H5 f r1 l t he;by_cases y:pd<0
    .have aD:=At y;have a:=k 3 ao9 (by rw[m 3 ao9];exact Pp (.inl y));replace a:=Hh a;go_wp2;refine Ak (v:=E #[V4.zero.val,G O 11]) (by simp[results,results112,go_sem,b0,b1,b2,b3,V4.zero]) rfl ⟨by rw[a.out],he _ _ _ _⟩
    .have aD:=Au y;by_cases u:1073741824<pd
     .have aC:=At u;have a:=k 3 ao9 (by rw[m 3 ao9];exact Pp (.inr u));replace a:=Hh a;go_wp2;refine Ak (v:=E #[V4.zero.val,G O 11]) (by simp[results,results112,go_sem,b0,b1,b2,b3,V4.zero]) rfl ⟨by rw[a.out],he _ _ _ _⟩
     .have aC:=Au u;have r:qx w vb (Z ⟨b,ao,I⟩) ((Ao 44 s.data.toList).map au) (pq ⟨pa,pb,pc,pd⟩ 4) (wq.setCell ⟨vb,3,I⟩ (G O pd)):=f.set 3 _ rfl aG.out
      have g:∀j,j<4->gr (Eo (Ao 44 s.data.toList) j)=true:=λj hj=>by
       by_cases q:j=3
       .subst q;rw[m 3 ao9];show gr pd=true;unfold gr;rw[At (show(0:Int)<=pd by omega),At (show pd<=1073741824 by omega)];rfl
       .exact aN.out j ao9
      replace⟨r,g⟩:=H2 r g;go_wp2;go_roundw
      case rel=>exact⟨4,ao9,rfl,g.out,r.out⟩
      case measure=>simp[intOf]
   .have ad:u6=G O 4:=an;clear an;subst ad;have hg:=aP aN.out;have r1:=hM.r1;have l:=hM.r0;have a0:=Bk r1 0 (G O pa) rfl;have a1:=Bk r1 1 (G O pb) rfl;have a2:=Bk r1 2 (G O pc) rfl;have a3:=Bk r1 3 (G O pd) rfl;have b0:=Bk l 0 (G O 0) rfl;have b1:=Bk l 1 (G O 0) rfl;have b2:=Bk l 2 (G O 0) rfl;have b3:=Bk l 3 (G O 0) rfl;have fr:=Af l
    have he:∀v0 v1 v2 v3,BW w.heap.size w ((((wr.setCell ⟨w.heap.size,0,I⟩ v0).setCell ⟨w.heap.size,1,I⟩ v1).setCell ⟨w.heap.size,2,I⟩ v2).setCell ⟨w.heap.size,3,I⟩ v3):=λv0 v1 v2 v3=>
     (((hM.low.setCell Ln _).setCell Ln _).setCell Ln _).setCell Ln _
    replace⟨r1,l,he,hg⟩:=H4 r1 l he hg;go_wp2;refine Ak (v:=E #[V4.val ⟨pa,pb,pc,pd⟩,G O 0]) (by simp[results,results112,go_sem,b0,b1,b2,b3]) rfl ⟨by rw[hg.out],he _ _ _ _⟩
 .have a:=Aa3 (s:=s) (by rw[al];exact h4);have d4:((n:Int) != 4)=true:=by rw[Fs];omega
  have b0:=Bk am 0 (G O 0) rfl;have b1:=Bk am 1 (G O 0) rfl;have b2:=Bk am 2 (G O 0) rfl;have b3:=Bk am 3 (G O 0) rfl;have fr:=Af am
  have he:∀v0 v1 v2 v3,BW w.heap.size w ((((w1.setCell ⟨w.heap.size,0,I⟩ v0).setCell ⟨w.heap.size,1,I⟩ v1).setCell ⟨w.heap.size,2,I⟩ v2).setCell ⟨w.heap.size,3,I⟩ v3):=λv0 v1 v2 v3=>
   (((z.setCell Ln _).setCell Ln _).setCell Ln _).setCell Ln _
  replace⟨z,am,aA,aB,aE,al,a,h4⟩:=H8 z am aA aB aE al a h4;replace he:=Hh he;go_wp2;refine Ak (v:=E #[V4.zero.val,G O 11]) (by simp[results,results112,go_sem,b0,b1,b2,b3,V4.zero]) rfl ⟨by rw[a.out],he _ _ _ _⟩
structure xi (w:WD) (vb b:Nat) (xs:List ByteArray) (v:V4) (W:WD):Prop where
 low:BW w.heap.size w W
 r0:W.heap[w.heap.size]?=Z (V aq.zero.cells 69 (0,0))
 r1:W.heap[vb]?=Z (V v.cells 30 (0,0))
 strs:D9 W (Z ⟨b,0,I⟩) xs.length xs
 aw:∃c,W.heap[b]?=Z (V c 9 (0,0))
def xi.below {w W d:WD} {f b:Nat} {xs:List ByteArray} {v:V4} (h:xi w f b xs v W) (a:BW W.heap.size W d):xi w f b xs v d:=by
 obtain⟨c,e⟩:=h.aw;exact⟨h.low.trans (a.mono h.low.size),Ae a h.r0 (Ab h.r0),Ae a h.r1 (Ab h.r1),h.strs.low a,c,Ae a e (Ab e)⟩
def Abp  (h:¬Jc s):Iv s=I:=Qt h
def Apm (s:ByteArray) (w:WD) (hs:s.size<=4294967200):CS prog 67 #[Y s] w (Afh s w):=by
 obtain⟨i9,bi,bC,bc,bw⟩:=B4 Si;obtain⟨W0,aM⟩:=Ex (w.alloc (V aq.zero.cells 69 (0,0)));have a2:BW w.heap.size w W0:=by rw[aM];exact Bn
 have aT:W0.heap[w.heap.size]?=Z (V aq.zero.cells 69 (0,0)):=by rw[aM];exact Ah _ _
 have aC:=Aa6 s 32 W0 ao9;have a9:(((32:UInt8).toNat:Nat):Int)=32:=rfl;rw[a9]at aC;clear a9;rw[show(Ao 32 s.data.toList).map au=E8 s from rfl]at aC;have aE:∀x,x∈E8 s->x.size<=s.size:=λx hx=>Afg hx;have aD:=Aba s;rw[aM]at aC;have ba:=Hh aM;clear aM;obtain⟨ws,av⟩:=Ex (E8 s);rw[<-av]at aC aE aD;have am:=Hh aE;clear aE;replace⟨a2,aT,aC,aD,av⟩:=H5 a2 aT aC aD av;go_enter func67,ntmps67;go_wp2_with fail;refine aC.mono ?_;rintro e w1 ⟨so,n,c,rfl,bB,t,ad,aB⟩;rw[<-ba.out]at aB ad;have ac:=t.len;have g:=a2.trans (aB.mono a2.size);have m:=Ae aB aT.out (Ab aT.out);have bA:=t.max;by_cases h3:n<3
 .have d3:decide ((n:Int)<3)=true:=At ao9
  have f:=Abp λh=>by have:=h.1;rw[<-av.out]at this;omega
  have b0:=Bk m 0 (Y ByteArray.empty) rfl;have b1:=Bk m 1 (G O 0) rfl;have b2:=Bk m 2 (G O 0) rfl;have b3:=Bk m 3 (G O 0) rfl;have b4:=Bk m 4 (G O 0) rfl;have b5:=Bk m 5 (J I 0 0) rfl;have fr:=Af m
  have he:∀v0 v1 v2 v3 v4 v5,BW w.heap.size w ((((((w1.setCell ⟨w.heap.size,0,I⟩ v0).setCell ⟨w.heap.size,1,I⟩ v1).setCell ⟨w.heap.size,2,I⟩ v2).setCell ⟨w.heap.size,3,I⟩ v3).setCell ⟨w.heap.size,4,I⟩ v4).setCell ⟨w.heap.size,5,I⟩ v5):=λv0 v1 v2 v3 v4 v5=>
   ((((((g).setCell Ln _).setCell Ln _).setCell Ln _).setCell Ln _).setCell Ln _).setCell Ln _
  replace⟨g,m,t,ad,aB,ac,f,he⟩:=H8 g m t ad aB ac f he;go_wp2;refine Ak (v:=E #[aq.zero.val,G O 50]) (by simp[results,results67,go_sem,b0,b1,b2,b3,b4,b5,aq.zero,V4.zero]<;>rfl) rfl ⟨aq.zero,50,rfl,⟨Sk _,Nat.le_refl _⟩,he _ _ _ _ _ _,λb a4 e=>(by cases e),.inl ⟨f.out,rfl,rfl⟩⟩
 have d3:decide ((n:Int)<3)=false:=Au ao9;obtain⟨x0,aK⟩:=t.get (i:=0) ao9;obtain⟨b,a4,rfl,bf,a0⟩:=t.cell 0 x0 aK;obtain⟨rfl,bs,aN⟩:=ad b a4 rfl;rw[Iu]at a0;have n0:0<n:=ao9
 have aX:ia s 0=x0:=by unfold ia;rw[<-av.out];simp[List.getD,aK]
 have bn:x0.size<=maxLen:=by have:=am x0 (Ai aK);have:maxLen=9223372036854775807:=rfl;omega
 have af:=Aez x0 w1 bn;obtain⟨q0,aS⟩:=Ex (Bp x0);rw[<-aS]at af;replace⟨g,m,t,ad,aB,ac,aK,aN⟩:=H8 g m t ad aB ac aK aN;replace⟨aX,af,aS⟩:=H3 aX af aS;go_wp2_with fail;refine af.mono ?_;rintro e w2 ⟨rfl,z⟩;have l:=g.trans (z.mono g.size);have o:=Ae z m.out (Ab m.out)
 cases q0 with
 | false=>
  have f:=Abp λh=>by have:=h.2.1;rw[aX.out,<-aS.out]at this;cases this
  have b0:=Bk o 0 (Y ByteArray.empty) rfl;have b1:=Bk o 1 (G O 0) rfl;have b2:=Bk o 2 (G O 0) rfl;have b3:=Bk o 3 (G O 0) rfl;have b4:=Bk o 4 (G O 0) rfl;have b5:=Bk o 5 (J I 0 0) rfl;have fr:=Af o
  have he:∀v0 v1 v2 v3 v4 v5,BW w.heap.size w ((((((w2.setCell ⟨w.heap.size,0,I⟩ v0).setCell ⟨w.heap.size,1,I⟩ v1).setCell ⟨w.heap.size,2,I⟩ v2).setCell ⟨w.heap.size,3,I⟩ v3).setCell ⟨w.heap.size,4,I⟩ v4).setCell ⟨w.heap.size,5,I⟩ v5):=λv0 v1 v2 v3 v4 v5=>
   ((((((l).setCell Ln _).setCell Ln _).setCell Ln _).setCell Ln _).setCell Ln _).setCell Ln _
  replace⟨l,o,z,f,he⟩:=H5 l o z f he;go_wp2;refine Ak (v:=E #[aq.zero.val,G O 50]) (by simp[results,results67,go_sem,b0,b1,b2,b3,b4,b5,aq.zero,V4.zero]<;>rfl) rfl ⟨aq.zero,50,rfl,⟨Sk _,Nat.le_refl _⟩,he _ _ _ _ _ _,λb a4 e=>(by cases e),.inl ⟨f.out,rfl,rfl⟩⟩
 | true=>
 obtain⟨x1,aY⟩:=t.get (i:=1) ao9;obtain⟨b',aF,e',_,a1⟩:=t.cell 1 x1 aY;cases e';have c1:=(Ag z bf).trans a1;have bD:(1:Int)<n:=ao9
 have a3:ia s 1=x1:=by unfold ia;rw[<-av.out];simp[List.getD,aY]
 have bv:=am x1 (Ai aY);have a6:=Apl x1 w2 ao9;have aU:=t.low z;replace⟨l,o,z,aY,a3,a6,aU⟩:=H7 l o z aY a3 a6 aU;clear a1;rw[Cn]at c1;go_wp2_with fail;refine a6.mono ?_;rintro e w3 ⟨rfl,aH⟩;obtain⟨u,hu⟩:∃u:V4,u=(E7 x1).1:=⟨_,rfl⟩;obtain⟨r,hr⟩:∃r:Int,r=(E7 x1).2:=⟨_,rfl⟩;rw[<-hu,<-hr];obtain⟨cb,aP⟩:=aN.out;have ap:=aU.low aH;have al:=l.trans (aH.mono l.size);obtain⟨vb,a8⟩:=Ex (w3.heap.size);have aR:=Ae aH (Ae z.out aP (Ab aP)) (By (Ab aP) z.size);have aL:xi w vb b ws u (w3.alloc (V u.cells 30 (0,0))):=⟨al.alloc al.size _,Aj _ (Ae aH o.out (Ab o.out)),A5 _ _ a8,by rw[<-ap.len]at ap;exact ap.low Bn,cb,Aj _ aR⟩;have be:w.heap.size<b:=by have:=Ab aT.out;omega
 have a7:∀w,(Instr.slice 67 (J (Z ⟨b,0,I⟩) n c) (Z (G O 2)) I I).run prog w=.ok (J (Z ⟨b,2,I⟩) (n-2) (c-2)) w:=by obtain⟨ta,h1,h2⟩:=Sf Qj bi b n c 2 2 rfl ao9;have h3:=h2 ao9;rw[bc,Oi]at h3;subst h3;exact h1
 have bb:=Hh a7;clear a7 c1 a0;replace⟨aH,hu,hr,aP,ap,al,aR,aL⟩:=H8 aH hu hr aP ap al aR aL;have a5:=Hh a8;rw[a5.out]at aL;go_wp2;rw[<-a5.out]at aL ⊢;clear a8;go_loopw [6,7,8] (λev i _ wr=>∃(k:Nat) (E9q:Int),ev=G O E9q/\i=G O k/\2<=k/\k<=n/\Hid (E9q=0↔(r=0/\∀j x,2<=j->j<k->ws[j]?=Z x->Bp x=true))/\Hid (xi w vb b ws u wr)) (λ_ i _ _=>n-(intOf i).toNat)
 case atStart=>exact⟨2,r,rfl,rfl,ao9,ao9,⟨λh=>⟨h,λj x h1 h2=>by omega⟩,λh=>h.1⟩,aL.out⟩
 case round=>
  obtain⟨k,E9q,rfl,rfl,bk,hk,hE,hM⟩:=hrel;by_cases hc:k<n
  .have bg:(k:Int)<n:=ao9;have bx:(0:Int)<=(k:Int):=ao9;have ao:=ac.out;obtain⟨y,hy⟩:=hM.strs.get (i:=k) ao9;obtain⟨b',aF,e',bl,a0⟩:=hM.strs.cell k y hy;cases e';rw[Cn]at a0;have bo:y.size<=maxLen:=(by have:=am y (Ai hy);have:maxLen=9223372036854775807:=rfl;omega);have af:=Aez y wr bo;obtain⟨q,hq⟩:=Ex (Bp y);rw[<-hq]at af;replace⟨af,hq,hy,ao⟩:=H4 af hq hy ao;go_wp2_with fail;refine af.mono ?_;rintro e wq ⟨rfl,aO⟩;have aG:=hM.below aO
   cases q with
   | true=>
    have aA:E9q=0↔(r=0/\∀j x,2<=j->j<k+1->ws[j]?=Z x->Bp x=true):=by
     rw[hE.out];refine⟨λh=>⟨h.1,λj x h1 h2 h3=>?_⟩,λh=>⟨h.1,λj x h1 h2 h3=>h.2 j x h1 ao9 h3⟩⟩;by_cases cc:j=k
     .subst cc;rw[hy.out]at h3;cases h3;exact hq.symm
     .exact h.2 j x h1 ao9 h3
    replace⟨aG,aA,aO⟩:=H3 aG aA aO;go_wp2;go_roundw
    case rel=>exact⟨k+1,E9q,rfl,by go_num,ao9,ao9,aA.out,aG.out⟩
    case measure=>simp[intOf];omega
   | false=>
    have aA:(50:Int)=0↔(r=0/\∀j x,2<=j->j<k+1->ws[j]?=Z x->Bp x=true):=(by refine⟨λh=>absurd h ad9,λh=>?_⟩;have:=h.2 k y bk ao9 hy.out;rw[<-hq.out]at this;cases this);replace⟨aG,aA,aO⟩:=H3 aG aA aO;go_wp2;go_roundw
    case rel=>exact⟨k+1,50,rfl,by go_num,ao9,ao9,aA.out,aG.out⟩
    case measure=>simp[intOf];omega
  .have bg:¬(k:Int)<n:=ao9;have ao:=ac.out
   have aJ:E9q=0↔Jc s:=by
    rw[hE.out];unfold Jc;rw[<-av.out,aX.out,a3.out,<-hr.out];refine⟨λh=>⟨ao9,aS.symm,λp hp=>?_,h.1⟩,λh=>⟨h.2.2.2,λj x h1 h2 h3=>h.2.2.1 x ?_⟩⟩
    .obtain ⟨j,hj,e⟩:=Aak hp;rw[G8]at hj;rw[List.getElem_drop]at e;exact h.2 (2+j) p ao9 ao9 (by rw[A4 ao9,e])
    .have h4:(ws.drop 2)[j-2]?=Z x:=(by rw[Oc,show 2+(j-2)=j by omega];exact h3);exact Ai h4
   have r0:=hM.r0;have b0:=Bk r0 0 (Y ByteArray.empty) rfl;have b1:=Bk r0 1 (G O 0) rfl;have b2:=Bk r0 2 (G O 0) rfl;have b3:=Bk r0 3 (G O 0) rfl;have b4:=Bk r0 4 (G O 0) rfl;have b5:=Bk r0 5 (J I 0 0) rfl;have fr:=Af r0;by_cases an:E9q=0
   .have dE:(E9q != 0)=false:=(by simp[an]);have aZ:=aJ.1 an;have hz:=Xy aZ;obtain⟨b',aF,e',bl,a0⟩:=hM.strs.cell 0 x0 aK.out;cases e';rw[Iu]at a0;have r1:=hM.r1;have bE:=Bk r1 0 (G O u.a) rfl;have bF:=Bk r1 1 (G O u.b) rfl;have bG:=Bk r1 2 (G O u.c) rfl;have bH:=Bk r1 3 (G O u.d) rfl;have a7:=bb.out;obtain⟨bd,aQ⟩:=hM.aw
    have aj:∀v0 v1 v2 v3 v4 v5,((((((wr.setCell ⟨w.heap.size,0,I⟩ v0).setCell ⟨w.heap.size,1,I⟩ v1).setCell ⟨w.heap.size,2,I⟩ v2).setCell ⟨w.heap.size,3,I⟩ v3).setCell ⟨w.heap.size,4,I⟩ v4).setCell ⟨w.heap.size,5,I⟩ v5).heap[b]?=wr.heap[b]?:=λv0 v1 v2 v3 v4 v5=>by
     have aI:b≠w.heap.size:=ao9;rw[Ez aI,Ez aI,Ez aI,Ez aI,Ez aI,Ez aI]
    have aW:∀v0 v1 v2 v3 v4 v5,((((((wr.setCell ⟨w.heap.size,0,I⟩ v0).setCell ⟨w.heap.size,1,I⟩ v1).setCell ⟨w.heap.size,2,I⟩ v2).setCell ⟨w.heap.size,3,I⟩ v3).setCell ⟨w.heap.size,4,I⟩ v4).setCell ⟨w.heap.size,5,I⟩ v5).heap.size=wr.heap.size:=λv0 v1 v2 v3 v4 v5=>by simp[World.setCell]
    have he:∀v0 v1 v2 v3 v4 v5,BW w.heap.size w ((((((wr.setCell ⟨w.heap.size,0,I⟩ v0).setCell ⟨w.heap.size,1,I⟩ v1).setCell ⟨w.heap.size,2,I⟩ v2).setCell ⟨w.heap.size,3,I⟩ v3).setCell ⟨w.heap.size,4,I⟩ v4).setCell ⟨w.heap.size,5,I⟩ v5):=λv0 v1 v2 v3 v4 v5=>
     ((((((hM.low).setCell Ln _).setCell Ln _).setCell Ln _).setCell Ln _).setCell Ln _).setCell Ln _
    have aV:=hM.strs.sub 2 ao9;replace⟨aj,aW,he,r1,r0,aQ,aJ,aZ⟩:=H8 aj aW he r1 r0 aQ aJ aZ;replace⟨hz,an,ao,aV⟩:=H4 hz an ao aV;go_upto_region 13 with fail;go_still_tail 7,(by kernel_rfl);change wpList _ _ _ _ _ wr.drew;go_wp2;refine Ak (v:=E #[(⟨x0,u,Z ⟨b,2,I⟩,n-2,c-2,ws.drop 2⟩:aq).val,G O 0]) (by simp[results,results67,go_sem,b0,b1,b2,b3,b4,b5]) rfl ⟨⟨x0,u,Z ⟨b,2,I⟩,n-2,c-2,ws.drop 2⟩,0,rfl,?_⟩;have hX:=aj (Y x0) (G O u.a) (G O u.b) (G O u.c) (G O u.d) (J (Z ⟨b,2,I⟩) (n-2) (c-2));have hY:=aW (Y x0) (G O u.a) (G O u.b) (G O u.c) (G O u.d) (J (Z ⟨b,2,I⟩) (n-2) (c-2));have hZ:=he (Y x0) (G O u.a) (G O u.b) (G O u.c) (G O u.d) (J (Z ⟨b,2,I⟩) (n-2) (c-2));generalize (((((wr.setCell ⟨w.heap.size,0,I⟩ (Y x0)).setCell ⟨w.heap.size,1,I⟩ (G O u.a)).setCell ⟨w.heap.size,2,I⟩ (G O u.b)).setCell ⟨w.heap.size,3,I⟩ (G O u.c)).setCell ⟨w.heap.size,4,I⟩ (G O u.d)).setCell ⟨w.heap.size,5,I⟩ (J (Z ⟨b,2,I⟩) (n-2) (c-2))=X at hX hY hZ ⊢
    have hS:D9 X (Z ⟨b,2,I⟩) (n-2) (ws.drop 2):=by
     have h:=aV.out;rw[Cn,ao.out]at h
     exact Pn h ao9 λb' aF e' _=>by cases e';exact hX
    refine⟨⟨⟨hS.len,hS.max,hS.cell⟩,by show n-2<=c-2;omega⟩,hZ.drew,λb' aF e'=>?_,.inr ⟨?_,rfl⟩⟩
    .have e2:b=b':=(by injection e' with e';injection e' with e');subst e2;exact⟨ao9,bd,hX.trans aQ.out⟩
    .rw [hz.out,aX.out,a3.out,<-hu.out,<-av.out];rfl
   .have dE:(E9q != 0)=true:=(by simp[an]);have f:=Abp λh=>an (aJ.2 h)
    have he:∀v0 v1 v2 v3 v4 v5,BW w.heap.size w ((((((wr.setCell ⟨w.heap.size,0,I⟩ v0).setCell ⟨w.heap.size,1,I⟩ v1).setCell ⟨w.heap.size,2,I⟩ v2).setCell ⟨w.heap.size,3,I⟩ v3).setCell ⟨w.heap.size,4,I⟩ v4).setCell ⟨w.heap.size,5,I⟩ v5):=λv0 v1 v2 v3 v4 v5=>
     ((((((hM.low).setCell Ln _).setCell Ln _).setCell Ln _).setCell Ln _).setCell Ln _).setCell Ln _
    replace⟨r0,f,he,aJ,an,ao⟩:=H6 r0 f he aJ an ao;go_wp2;refine Ak (v:=E #[aq.zero.val,G O 50]) (by simp[results,results67,go_sem,b0,b1,b2,b3,b4,b5,aq.zero,V4.zero]<;>rfl) rfl ⟨aq.zero,50,rfl,⟨Sk _,Nat.le_refl _⟩,he _ _ _ _ _ _,λb a4 e=>(by cases e),.inl ⟨f.out,rfl,rfl⟩⟩
def Agi (a b:List (List UInt8)) (n:Nat):Du n (a++b)=Du n a++Du (n+a.length) b:=by
 induction a generalizing n with
 | nil=>simp[Du]
 | cons p a ih=>
  simp only[Pf,Du,D7];rw[ih,show n+1+a.length=n+(a.length+1) by omega]
  split<;>simp
def Agj {a:List (List UInt8)}  {p:List UInt8} (h:a[k]?=Z p):Du 0 (a.take (k+1))=Du 0 (a.take k)++(if Lb p=true then[(((k:Int)+1),au p)]else[]):=by
 have b:=(Aq.1 h).1;rw[Je h,Agi,Dt,L9 ao9,Cn];simp only[Du]
def Apn (a:List (List UInt8)) (k:Nat):Du 0 a=Du 0 (a.take k)++Du (0+(a.take k).length) (a.drop k):=by
 rw[<-Agi,O9]
def fh (s:ByteArray) (k:Nat):List ax×Int×Int:=Bh [] (Du 0 ((Ao 10 s.data.toList).take k))
def Agk   (h:(fh s k).2.1≠0):Bh [] (Fu s)=fh s k:=by
 unfold Fu;rw[Apn _ k,Afr _ _ _ h];rfl
def Apo   (h:(Ao 10 s.data.toList).length<=k):Bh [] (Fu s)=fh s k:=by
 unfold Fu fh;rw[Cr h]
def Ye   {p:List UInt8} (h:(Ao 10 s.data.toList)[k]?=Z p) (a:Lb p=false):fh s (k+1)=fh s k:=by
 unfold fh;rw[Agj h,Ac (by rw[a];simp),Nf]
def App   {p:List UInt8} (h:(Ao 10 s.data.toList)[k]?=Z p) (a:Lb p=true) (h0:(fh s k).2.1=0):fh s (k+1)=Bh (fh s k).1 [(((k:Int)+1),au p)]:=by
 unfold fh at h0 ⊢;rw[Agj h,Ad a,X9 _ _ _ h0]
structure sj (w:WD) (b:Nat) (ls:List ByteArray) (vs:List ax) (nv:VL) (xs:List aq) (W:WD):Prop where
 low:BW w.heap.size w W
 res:W.heap[w.heap.size]?=Z (V #[J I 0 0] 54 (0,0))
 f:W.heap[w.heap.size+1]?=Z (V #[nv] 54 (0,0))
 row:jj W (w.heap.size+2) nv xs
 fy:xs.map aq.pl=vs
 po:∀x,x∈xs->∀b off,x.po=Z ⟨b,off,I⟩->w.heap.size+2<=b
 strs:D9 W (Z ⟨b,0,I⟩) ls.length ls
 aw:∃c,W.heap[b]?=Z (V c 9 (0,0))
 yu:w.heap.size+2<=b
def sj.below {w W d:WD} {b:Nat} {g:List ByteArray}  {i:VL} {xs:List aq} (h:sj w b g vs i xs W) (a:BW W.heap.size W d):sj w b g vs i xs d:=by
 obtain⟨c,e⟩:=h.aw;exact⟨h.low.trans (a.mono h.low.size),Ae a h.res (Ab h.res),Ae a h.f (Ab h.f),h.row.below a,h.fy,h.po,h.strs.low a,⟨c,Ae a e (Ab e)⟩,h.yu⟩
def Yf (s:ByteArray) (w:WD) (e:Ending) (w':WD):Prop:=
 ∃nv xs,e=K (E #[.agg #[nv],G O (Ep s).2.1,G O (Ep s).2.2])/\BW w.heap.size w w'/\jj w' w.heap.size nv xs/\((Ep s).2.1=0->xs.map aq.pl=(Ep s).1)
def Qx (w:WD) (B:Nat):jj w B (J I 0 0) []:=⟨⟨rfl,.inl ⟨rfl,rfl⟩⟩,λx h=>(by cases h)⟩
def Qy  {B b o:Nat} {y v:VL} {xs:List aq} {c:Array VL} {T:TypeId} {fr:Nat×Nat} (h:jj W B y xs) (hb:W.heap[b]?=Z (V c T fr)) (q:T≠69) (z:T≠9):jj (W.setCell ⟨b,o,I⟩ v) B y xs:=by
 have j:∀(k:Nat) (m:Array VL) (l:TypeId) (i:Nat×Nat),l≠T->W.heap[k]?=Z (V m l i)->(W.setCell ⟨b,o,I⟩ v).heap[k]?=Z (V m l i):=λk m l i s d=>
  Cv (λe=>by rw[e,hb]at d;injection d with d;injection d with _ d;exact s d.symm) _ d
 refine⟨⟨h.row.1,?_⟩,λx t=>?_⟩
 .rcases h.row.2 with h|⟨g,cap,n,hv,r,hh,hr⟩
  .exact .inl h
  .exact .inr ⟨g,cap,n,hv,r,j _ _ _ _ (λe=>q e.symm) hh,hr⟩
 .have d:∀f a,x.po=Z ⟨f,a,I⟩->∃c,W.heap[f]?=Z (V c 9 (0,0))/\(W.setCell ⟨b,o,I⟩ v).heap[f]?=Z (V c 9 (0,0)):=λf a e=>by
   obtain⟨c,u⟩:=(h.ok x t).2 f a e;exact⟨c,u,j _ _ _ _ (λe=>z e.symm) u⟩
  refine⟨⟨Pn (h.ok x t).1.parts (by simp[World.setCell]) λf a e _=>?_,(h.ok x t).1.ni⟩,λf a e=>?_⟩
  .obtain ⟨c,h1,p⟩:=d f a e;rw[h1,p]
  .obtain ⟨c,_,p⟩:=d f a e;exact⟨c,p⟩
def Apq  {B B':Nat} {a:VL} {xs:List aq} (h:jj w B a xs) (b:B'<=B):jj w B' a xs:=⟨Age h.row b,h.ok⟩
def Apr (s:ByteArray) (w:WD) (b:4096<s.size):CS prog 35 #[Y s] w (Yf s w):=by
 have a:Ep s=([],2,0):=Ad b;have c:decide ((4096:Int)<s.size)=true:=At ao9;replace a:=Hh a;go_enter func35,ntmps35;go_wp2;refine Ak (v:=E #[.agg #[J I 0 0],G O 2,G O 0]) (by simp[results,results35,go_sem]) rfl ?_;refine⟨J I 0 0,[],by rw[a.out],?_,Qx _ _,λh=>by rw[a.out]at h;cases h⟩;exact Bn.alloc as9 _
def Aps {a:List ByteArray}  (h:s∈a) (k:Nat):0<=Jf a s k:=by
 induction a generalizing k with
 | nil=>cases h
 | cons n a ih=>
  simp only[Jf];split
  .omega
  .next hne=>
   refine ih ?_ _;rcases Ei.1 h with h|h
   .exact absurd h.symm hne
   .exact h
def Apt {w d g:WD} {b m:Nat} {ls:List ByteArray}  {nv j:VL} {xs:List aq} {x:aq} (h:sj w b ls vs nv xs d) (hx:x.ok d) (hp:La d x) (ac:∀b a,x.po=Z ⟨b,a,I⟩->w.heap.size+2<=b) (hm:m=xs.length)
  (hg:(d.alloc (V x.cells 69 (0,0))).grownBy g nv.ownBlock) (ho:g.ownsRow (w.heap.size+2) 69 6 j (m+1) (Av aq.cells xs++x.cells.toList)):sj w b ls (vs++[x.pl]) j (xs++[x]) (g.setCell ⟨w.heap.size+1,0,I⟩ j):=by
 have an:d.heap.size+1<=g.heap.size:=by have:=hg.size;rwa [G9]at this
 have n:∀k,nv.ownBlock=Z k->w.heap.size+2<=k/\∃t,d.heap[k]?=Z (V t 69 (0,0)):=λk e=>⟨(h.row.row.lt k e).1,Abe h.row.row e⟩
 have o:∀(k:Nat) (c:Array VL) (T:TypeId) (fr:Nat×Nat),T≠69->d.heap[k]?=Z (V c T fr)->g.heap[k]?=Z (V c T fr):=λk c T fr hT hk=>
  (hg.block k (by have:=Ab hk;rw[G9];omega) (λe=>by
   obtain⟨_,t,r⟩:=n k e.symm;rw[hk]at r;injection r with r;injection r with _ r
   exact hT r)).trans (Aj _ hk)
 have z:=o _ _ _ _ ad9 h.f;have q:∀(k:Nat) (c:Array VL) (T:TypeId) (fr:Nat×Nat),T≠69->k≠w.heap.size+1->d.heap[k]?=Z (V c T fr)->(g.setCell ⟨w.heap.size+1,0,I⟩ j).heap[k]?=Z (V c T fr):=λk c T fr hT af hk=>Cv af _ (o k c T fr hT hk)
 have ad:d.heap.size<=(g.setCell ⟨w.heap.size+1,0,I⟩ j).heap.size:=by
  have:(g.setCell ⟨w.heap.size+1,0,I⟩ j).heap.size=g.heap.size:=by simp[World.setCell]
  omega
 have i:∀y:aq,y.ok d->La d y->(∀b a,y.po=Z ⟨b,a,I⟩->w.heap.size+2<=b)->y.ok (g.setCell ⟨w.heap.size+1,0,I⟩ j)/\La (g.setCell ⟨w.heap.size+1,0,I⟩ j) y:=λy s am al=>by
  have k2:∀b a,y.po=Z ⟨b,a,I⟩->∃c,d.heap[b]?=Z (V c 9 (0,0))/\(g.setCell ⟨w.heap.size+1,0,I⟩ j).heap[b]?=Z (V c 9 (0,0)):=λb a e=>by
   obtain⟨c,v⟩:=am b a e;have:=al b a e;exact⟨c,v,q b _ _ _ ad9 ao9 v⟩
  refine⟨⟨Pn s.parts ad λb a e _=>?_,s.ni⟩,λb a e=>?_⟩
  .obtain ⟨c,h1,h2⟩:=k2 b a e;rw[h1,h2]
  .obtain ⟨c,_,h2⟩:=k2 b a e;exact⟨c,h2⟩
 have p:=(h.low.alloc h.low.size _).grown hg (by have:=h.low.size;rw[G9];omega) (λk e=>by have:=(n k e).1;omega);obtain⟨c,v⟩:=h.aw;have u:=q b _ _ _ ad9 (by have:=h.yu;omega) v;refine⟨p.setCell (D8 _) _,q _ _ _ _ ad9 ao9 h.res,by rw[Am z];rfl,⟨?_,λy s=>?_⟩,by rw[C2,h.fy];rfl,λy s=>?_,?_,⟨c,u⟩,h.yu⟩
 .rw [Pm,Sl,Az,<-hm];exact Afo ho z ad9 0 j
 .rcases C4.1 s with l|l
  .exact i y (h.row.ok y l).1 (h.row.ok y l).2 (h.po y l)
  .have:y=x:=by simpa using l
   subst this;exact i y hx hp ac
 .rcases C4.1 s with l|l
  .exact h.po y l
  .have:y=x:=by simpa using l
   subst this;exact ac
 .exact Pn h.strs ad λb' a e _=>by cases e;rw[u,v]
def Apu (s:ByteArray) (w:WD) (hs:¬4096<s.size):CS prog 35 #[Y s] w (Yf s w):=by
 have hr:Ep s=Bh [] (Fu s):=Ac hs;have d1:decide ((4096:Int)<s.size)=false:=Au ao9;obtain⟨b3,bW,bY,bQ,bR⟩:=B4 Afl;obtain⟨W0,aS⟩:=Ex ((w.alloc (V #[J I 0 0] 54 (0,0))).alloc (V #[J I 0 0] 54 (0,0)));have bA:BW w.heap.size w W0:=by rw[aS];exact Bn.alloc as9 _
 have bC:W0.heap[w.heap.size]?=Z (V #[J I 0 0] 54 (0,0)):=by rw[aS];exact Aj _ (Ah _ _)
 have bD:W0.heap[w.heap.size+1]?=Z (V #[J I 0 0] 54 (0,0)):=by rw[aS];exact A5 _ _ as9
 have bP:W0.heap.size=w.heap.size+2:=by rw[aS];simp
 have bf:=Aa6 s 10 W0 ao9;have bS:(((10:UInt8).toNat:Nat):Int)=10:=rfl;rw[bS]at bf;clear bS;rw[aS]at bf;have bU:=Hh aS;clear aS;replace⟨bA,bC,bD,bf,hr,bP⟩:=H6 bA bC bD bf hr bP;go_enter func35,ntmps35;go_wp2_with fail;refine bf.mono ?_;rintro e w1 ⟨so,n,c,rfl,cj,a2,a5,a7⟩;rw[<-bU.out]at a7 a5;have aD:=a2.len;have b8:1<=n:=by rw[<-aD,Ar];exact Aa4 _ _
 obtain⟨y0,bO⟩:=a2.get (i:=0) ao9;obtain⟨b,aJ,rfl,cf,_⟩:=a2.cell 0 y0 bO;obtain⟨rfl,b5,be⟩:=a5 b aJ rfl;have aV:=bA.trans (a7.mono bA.size);have ci:=a2.max
 have bI:sj w b ((Ao 10 s.data.toList).map au) (fh s 0).1 (J I 0 0) [] w1:=
  ⟨aV,Ae a7 bC.out (Ab bC.out),Ae a7 bD.out (Ab bD.out),Qx _ _,rfl,λx h=>(by cases h),by rw[aD];exact a2,be,by have:=bP.out;omega⟩
 replace⟨a2,a5,a7,aD,aV,be,bO,bI⟩:=H8 a2 a5 a7 aD aV be bO bI;go_wp2;go_loopw [7,8,9] (λi _ _ wr=>∃(k:Nat) (nv:VL) (xs:List aq),i=G O k/\k<=n/\Hid ((fh s k).2.1=0)/\Hid (sj w b ((Ao 10 s.data.toList).map au) (fh s k).1 nv xs wr)) (λi _ _ _=>n-(intOf i).toNat)
 case atStart=>exact⟨0,J I 0 0,[],rfl,ao9,rfl,bI.out⟩
 case round=>
  obtain⟨k,nv,xs,rfl,hk,bi,hM⟩:=hrel;by_cases hc:k<n
  .have b0:(k:Int)<n:=ao9;have cg:(0:Int)<=(k:Int):=ao9;have aU:=aD.out;rw[Ar]at aU;obtain⟨p,hp⟩:=Ge ((Ao 10 s.data.toList)) k ao9;have bN:((Ao 10 s.data.toList).map au)[k]?=Z (au p):=(by rw[Bg,hp];rfl);obtain⟨b',ce,e',ch,a0⟩:=hM.strs.cell k _ bN;cases e';rw[Cn]at a0;have ck:p.length<=s.size:=(by have:=Xz (Ai hp);rw[<-Km s];exact this);replace⟨aU,hp,bN⟩:=H3 aU hp bN;by_cases aH:p=[]
   .have ad:Lb p=false:=(by rw[aH];rfl);have em:(au p).toList.isEmpty=true:=(by rw[Sm,aH];rfl);replace⟨ad,aH⟩:=H2 ad aH;have aR:sj w b ((Ao 10 s.data.toList).map au) (fh s (k+1)).1 nv xs wr:=(by rw[Ye hp.out ad.out];exact hM.out);have t:(fh s (k+1)).2.1=0:=(by rw[Ye hp.out ad.out];exact bi.out);replace⟨aR,t⟩:=H2 aR t;go_wp2;go_roundw
    case rel=>exact⟨k+1,nv,xs,by go_num,ao9,t.out,aR.out⟩
    case measure=>simp[intOf];omega
   obtain⟨x,hx⟩:=Ex (dv (au p) 0);have bM:=Wt.2 aH
   have em:(au p).toList.isEmpty=false:=by rw[Sm];cases p with|nil=>exact absurd rfl aH|cons c a=>rfl
   have bg:∀w,(Instr.index 9 (Y (au p)) (G O 0)).run prog w=.ok (G .u8 x) w:=λw=>by
    rw[hx];exact Qq Dr (au p) 0 0 rfl (by rw[Fe];exact bM) w
   have aE:Lb p=decide (x≠35):=by
    rw[hx]
    cases p with
    | nil=>exact absurd rfl aH
    | cons c a=>
     have b1:dv (au (c :: a)) 0=(c.toNat:Int):=(by unfold dv;rw[E6];rfl);rw[b1];unfold Lb;refine Aav.2 (not_congr ⟨λh=>by rw[h];rfl,λh=>Xb.1 (by have:(35:UInt8).toNat=35:=rfl;omega)⟩)
   have bE:=Hh bg;clear bg;replace⟨aH,hx,bM⟩:=H3 aH hx bM;by_cases aK:x=35
   .have ad:Lb p=false:=(by rw[aE,Au (by simp[aK])]);have bZ:(x == 35)=true:=(by simp[aK]);have bg:=bE.out;replace⟨ad,aK,aE⟩:=H3 ad aK aE;have aR:sj w b ((Ao 10 s.data.toList).map au) (fh s (k+1)).1 nv xs wr:=(by rw[Ye hp.out ad.out];exact hM.out);have t:(fh s (k+1)).2.1=0:=(by rw[Ye hp.out ad.out];exact bi.out);replace⟨aR,t⟩:=H2 aR t;go_wp2;go_roundw
    case rel=>exact⟨k+1,nv,xs,by go_num,ao9,t.out,aR.out⟩
    case measure=>simp[intOf];omega
   have ad:Lb p=true:=(by rw[aE,At aK]);have bZ:(x == 35)=false:=(by simp[aK]);have bg:=bE.out;have aA:=App hp.out ad bi.out;have aX:=Apm (au p) wr (by rw[Fe];omega);replace⟨ad,aK,aE,aA,aX⟩:=H5 ad aK aE aA aX;go_wp2_with fail;refine aX.mono ?_;rintro e w2 ⟨x5,r,rfl,aQ,aN,a8,bK⟩;have z:=hM.below aN;clear bg;have av:Iy (fh s k).1:=Abm _ _ Yc;rcases bK with⟨aY,rfl,rfl⟩|⟨aI,rfl⟩
   .have am:fh s (k+1)=((fh s k).1,50,(k:Int)+1):=(by rw[aA.out,Afs aY]);have l:Ep s=((fh s k).1,50,(k:Int)+1):=(by rw[hr.out,Agk (k:=k+1) (by rw[am];show(50:Int)≠0;decide),am]);have r0:=Bk z.res 0 (J I 0 0) rfl;have fr:=Af z.res;have b6:=Ab z.res;have d:BW w.heap.size w ((w2.setCell ⟨w.heap.size,0,I⟩ (J I 0 0)).alloc (V aq.zero.cells 69 (0,0))):=(z.low.setCell Ln _).alloc (z.low.setCell Ln _).size _;have rE:((w2.setCell ⟨w.heap.size,0,I⟩ (J I 0 0)).alloc (V aq.zero.cells 69 (0,0))).cell? ⟨w.heap.size,0,I⟩=Z (J I 0 0):=Aa (Aj _ (Am z.res 0 (J I 0 0))) 0;have b4:=Hh rE;clear rE;replace⟨z,aN,a8,aQ,aY,am,l,av⟩:=H8 z aN a8 aQ aY am l av;replace d:=Hh d;go_wp2
    try rw[Iq]
    have rE:=b4.out;refine Ak (v:=E #[.agg #[J I 0 0],G O 50,G O ((k:Int)+1)]) (by simp[results,results35,go_sem,rE]) rfl ?_;refine⟨J I 0 0,[],by rw[l.out],d.out,Qx _ _,λh=>?_⟩;rw[l.out]at h;exact absurd h (by show(50:Int)≠0;decide)
   .have b9:xs.length<=16:=(by have:=av.len;rw[<-z.fy,Ar]at this;exact this);have ap:xs.map aq.name=(fh s k).1.map ax.name:=(by rw[<-z.fy,Dg];rfl);have a6:xs.length=(fh s k).1.length:=(by rw[<-z.fy,Ar]);obtain⟨W3,bc⟩:=Ex (w2.alloc (V x5.cells 69 (0,0)));have aB:BW w2.heap.size w2 W3:=(by rw[bc];exact Bn);have ba:=z.below aB;have aO:=aQ.low aB
    have bl:La W3 x5:=λb aJ e=>by
     obtain⟨_,c,hc⟩:=a8 b aJ e;exact⟨c,Ae aB hc (Ab hc)⟩
    have bs:∀b aJ,x5.po=Z ⟨b,aJ,I⟩->w.heap.size+2<=b:=λb aJ e=>by
     have:=(a8 b aJ e).1;have:=hM.low.size;have:=Ab hM.f;omega
    have bB:=aO.parts.len;have bw:W3.heap[w2.heap.size]?=Z (V x5.cells 69 (0,0)):=(by rw[bc];exact Ah _ _);have aM:=Aph W3 (w.heap.size+2) nv xs x5.name ba.row ao9;have f1:=Bk ba.f 0 nv rfl;have z0:=Bk bw 0 (Y x5.name) rfl;obtain⟨E9q,hE⟩:=Ex (Di ((fh s k).1.map ax.name) (fh s k).1.length x5.name x5.parts)
    have ac:E9q≠0->Ep s=((fh s k).1,E9q,(k:Int)+1):=λbL=>by
     have am:fh s (k+1)=((fh s k).1,E9q,(k:Int)+1):=(by rw[aA.out,Afu aI (by rw[hE]at bL;exact bL),hE];rfl);rw[hr.out,Agk (k:=k+1) (by rw[am];exact bL),am]
    obtain⟨I9q,hI⟩:=Ex (Jf (xs.map aq.name) x5.name 0);rw[<-hI]at aM;obtain⟨nm,⟨ca,cb,cc,cd⟩,po,pn,pc,ps⟩:=x5;rw[bc]at aM f1 z0;have bV:=Hh bc;clear bc;replace⟨z,aN,a8,aQ,av,a6,ap,aB⟩:=H8 z aN a8 aQ av a6 ap aB;replace⟨ba,aO,bl,bs,bw,aM,hE,ac⟩:=H8 ba aO bl bs bw aM hE ac;replace⟨hI,aI,bB⟩:=H3 hI aI bB;go_wp2_with fail;refine aM.mono ?_;rintro e w4 ⟨rfl,aC⟩;rw[<-bV.out]at aC;have aL:=ba.below aC;have r0:=Bk aL.res 0 (J I 0 0) rfl;have fr:=Af aL.res;clear f1 z0;by_cases af:nm∈xs.map aq.name
    .have bG:0<=I9q:=(by rw[hI.out];exact Aps af 0);have dI:=At bG;have y:E9q=51:=(by rw[hE.out];unfold Di;rw[Ad (Ok.2 (by rw[<-ap.out];exact af))]);have l:=ac (by rw[y];decide);rw[y]at l;have d:BW w.heap.size w (w4.setCell ⟨w.heap.size,0,I⟩ (J I 0 0)):=aL.low.setCell Ln _;replace⟨aL,aC,af,y,l,d,bG⟩:=H7 aL aC af y l d bG;go_wp2
     try rw[Iq]
     refine Ak (v:=E #[.agg #[J I 0 0],G O 51,G O ((k:Int)+1)]) (by simp[results,results35,go_sem,r0]) rfl ?_;refine⟨J I 0 0,[],by rw[l.out],d.out,Qx _ _,λh=>?_⟩;rw[l.out]at h;exact absurd h (by show(51:Int)≠0;decide)
    have bH:I9q=-1:=(by rw[hI.out];exact Ape af 0);have dI:decide ((0:Int)<=-1)=false:=ad9;rw[bH];have aP:=Ae aC bw.out (Ab bw.out);have z5:=Bk aP 5 (J po pn pc) rfl;have bv:=Apf po pn pc ps w4 (aO.low aC).parts;obtain⟨T,hT⟩:=Ex (Mc ps);unfold Agb at bv;rw[<-hT]at bv;replace⟨aL,aC,af,bH,aP,bv,hT⟩:=H7 aL aC af bH aP bv hT;go_wp2_with fail;refine bv.mono ?_;rintro e w5 ⟨rfl,al⟩;have q:=aL.below al;have o:=Ae al aP.out (Ab aP.out);clear r0 fr z5;have r0:=Bk q.res 0 (J I 0 0) rfl;have f1:=Bk q.f 0 nv rfl;have z0:=Bk o 0 (Y nm) rfl;have z1:=Bk o 1 (G O ca) rfl;have z2:=Bk o 2 (G O cb) rfl;have z3:=Bk o 3 (G O cc) rfl;have z4:=Bk o 4 (G O cd) rfl;have z5:=Bk o 5 (J po pn pc) rfl;have fr:=Af q.res;have an:¬Gq ((fh s k).1.map ax.name) nm=true:=λc=>af.out (by rw[ap.out];exact Ok.1 c);have d:BW w.heap.size w (w5.setCell ⟨w.heap.size,0,I⟩ (J I 0 0)):=q.low.setCell Ln _
    cases T with
    | true=>
     have y:E9q=51:=(by rw[hE.out];unfold Di;rw[Ac an,Ad hT.symm]);have l:=ac (by rw[y];decide);rw[y]at l;replace⟨q,al,o,y,l,d,an⟩:=H7 q al o y l d an;go_wp2
     try rw[Iq]
     refine Ak (v:=E #[.agg #[J I 0 0],G O 51,G O ((k:Int)+1)]) (by simp[results,results35,go_sem,r0]) rfl ?_;refine⟨J I 0 0,[],by rw[l.out],d.out,Qx _ _,λh=>?_⟩;rw[l.out]at h;exact absurd h (by show(51:Int)≠0;decide)
    | false=>
     have bX:=Agd q.row;obtain⟨m,hm⟩:=Ex (xs.length);rw[<-hm]at bX;by_cases q1:16<=m
     .have d5:decide ((16:Int)<=m)=true:=At ao9;have aF:E9q=2:=(by rw[hE.out];unfold Di;rw[Ac an,Ac (by rw[<-hT.out];simp),Ad (.inl (by rw[<-a6.out,<-hm];exact q1))]);have l:=ac (by rw[aF];decide);rw[aF]at l;replace⟨q,al,o,aF,l,d,an,hm⟩:=H8 q al o aF l d an hm;go_wp2
      try rw[Iq]
      refine Ak (v:=E #[.agg #[J I 0 0],G O 2,G O ((k:Int)+1)]) (by simp[results,results35,go_sem,r0]) rfl ?_;refine⟨J I 0 0,[],by rw[l.out],d.out,Qx _ _,λh=>?_⟩;rw[l.out]at h;exact absurd h (by show(2:Int)≠0;decide)
     have d5:decide ((16:Int)<=m)=false:=Au ao9;by_cases q2:8<pn
     .have d6:decide ((8:Int)<pn)=true:=At ao9;have aF:E9q=2:=(by rw[hE.out];unfold Di;rw[Ac an,Ac (by rw[<-hT.out];simp),Ad (.inr (by have:ps.length=pn:=bB.out;show 8<ps.length;omega))]);have l:=ac (by rw[aF];decide);rw[aF]at l;replace⟨q,al,o,aF,l,d,an,hm⟩:=H8 q al o aF l d an hm;go_wp2
      try rw[Iq]
      refine Ak (v:=E #[.agg #[J I 0 0],G O 2,G O ((k:Int)+1)]) (by simp[results,results35,go_sem,r0]) rfl ?_;refine⟨J I 0 0,[],by rw[l.out],d.out,Qx _ _,λh=>?_⟩;rw[l.out]at h;exact absurd h (by show(2:Int)≠0;decide)
     have d6:decide ((8:Int)<pn)=false:=Au ao9;have bx:E9q=0:=(by rw[hE.out];unfold Di;rw[Ac an,Ac (by rw[<-hT.out];simp),Ac (by have:ps.length=pn:=bB.out;have:=a6.out;show ¬(16<=(fh s k).1.length\/8<ps.length);omega)]);have am:fh s (k+1)=((fh s k).1++[aq.pl ⟨nm,⟨ca,cb,cc,cd⟩,po,pn,pc,ps⟩],0,0):=(by rw[aA.out,Aft aI.out (by rw[hE.out]at bx;exact bx)]);have a3:=(aO.low aC.out).low al
     have bn:La w5 ⟨nm,⟨ca,cb,cc,cd⟩,po,pn,pc,ps⟩:=λb aJ e=>by
      obtain⟨c,hc⟩:=bl b aJ e;have h4:=Ae aC.out hc (Ab hc);exact⟨c,Ae al h4 (Ab h4)⟩
     have aZ:(w5.alloc (V (⟨nm,⟨ca,cb,cc,cd⟩,po,pn,pc,ps⟩:aq).cells 69 (0,0))).ownsRow (w.heap.size+2) 69 6 nv m (Av aq.cells xs):=(by rw[hm];exact q.row.row.alloc (V (⟨nm,⟨ca,cb,cc,cd⟩,po,pn,pc,ps⟩:aq).cells 69 (0,0)));have aW:∀j u,(⟨nm,⟨ca,cb,cc,cd⟩,po,pn,pc,ps⟩:aq).cells.toList[j]?=Z u->(w5.alloc (V (⟨nm,⟨ca,cb,cc,cd⟩,po,pn,pc,ps⟩:aq).cells 69 (0,0))).cell? ((⟨w5.heap.size,0,I⟩:Addr).add j)=Z u:=Afn w5 _;have bk:=Afm (⟨nm,⟨ca,cb,cc,cd⟩,po,pn,pc,ps⟩:aq);have bF:=Ff (n:=m) ao9;have bJ:(m+1)*72<=140737488355328:=ao9;have bd:w.heap.size+2<=(w5.alloc (V (⟨nm,⟨ca,cb,cc,cd⟩,po,pn,pc,ps⟩:aq).cells 69 (0,0))).heap.size:=(by have:=Ab q.f;rw[G9];omega);have t:(fh s (k+1)).2.1=0:=(by rw[am]);have b7:=Ab q.f
     have aT:∀w9:WD,(w5.alloc (V (⟨nm,⟨ca,cb,cc,cd⟩,po,pn,pc,ps⟩:aq).cells 69 (0,0))).grownBy w9 nv.ownBlock->w9.heap[w.heap.size+1]?=Z (V #[nv] 54 (0,0)):=λw9 hg=>by
      refine(hg.block _ (by rw[G9];omega) (λe=>?_)).trans (Aj _ q.f);have:=(q.row.row.lt _ e.symm).1;omega
     replace⟨q,al,o,bx,am,d,an,hm⟩:=H8 q al o bx am d an hm;replace⟨a3,bn,aZ,aW,bk,bF,bJ,bd⟩:=H8 a3 bn aZ aW bk bF bJ bd;replace⟨t,aT⟩:=H2 t aT;go_wp2_with (at_builtin;refine I7 _ rfl _ _ 52 rfl (w.heap.size+2) 69 b3 _ 6 72 Pe bW bY bQ bR rfl Afk nv m _ rfl aZ.out ⟨w5.heap.size,0,I⟩ 1 1 (⟨nm,⟨ca,cb,cc,cd⟩,po,pn,pc,ps⟩:aq).cells.toList rfl rfl aW.out bk.out bF.out bJ.out bd.out ?_;intro v1 w9 aG ao _;obtain⟨g9,a9,rfl⟩:=Joins.ownsRow_form aG (Gn _);have q9:=aT w9 ao;have f9:=Aa q9 0;have z9:=Af q9 0;simp at f9;replace⟨q9,aG,ao⟩:=H3 q9 aG ao);have bT:=Apt q.out a3.out bn.out bs.out hm.out ao.out aG.out;have bb:sj w b ((Ao 10 s.data.toList).map au) (fh s (k+1)).1 (J (Z ⟨g9,0,I⟩) (m+1) a9) (xs++[⟨nm,⟨ca,cb,cc,cd⟩,po,pn,pc,ps⟩]) (w9.setCell ⟨w.heap.size+1,0,I⟩ (J (Z ⟨g9,0,I⟩) (m+1) a9)):=(by rw[am.out];exact bT);clear bT;replace bb:=Hh bb;go_roundw
     case rel=>exact⟨k+1,(J (Z ⟨g9,0,I⟩) (m+1) a9),xs++[(⟨nm,⟨ca,cb,cc,cd⟩,po,pn,pc,ps⟩:aq)],by go_num,ao9,t.out,bb.out⟩
     case measure=>simp[intOf];omega
  .have b0:¬(k:Int)<n:=ao9;have aU:=aD.out;rw[Ar]at aU;have a4:Ep s=fh s k:=(by rw[hr.out,Apo (k:=k) ao9]);have hz:(fh s k).2.2=0:=Afy _ _ bi.out;have r0:=Bk hM.res 0 (J I 0 0) rfl;have f1:=Bk hM.f 0 nv rfl;have fr:=Af hM.res;have d:BW w.heap.size w (wr.setCell ⟨w.heap.size,0,I⟩ nv):=hM.low.setCell Ln _;have a1:jj (wr.setCell ⟨w.heap.size,0,I⟩ nv) w.heap.size nv xs:=Qy (Apq hM.row ao9) hM.res ad9 ad9;replace⟨aU,a4,hz,d,a1⟩:=H5 aU a4 hz d a1;have b2:=Joins.ownsRow_forms hM.row.row;have bo:=hM.fy;replace⟨bo,hM⟩:=H2 bo hM;rcases b2 with⟨rfl,h0⟩|⟨g,cap,rfl⟩
   all_goals
    try (replace h0:=Hh h0)
    go_wp2;refine Ak (v:=E #[.agg #[_],G O 0,G O 0]) (by simp[results,results35,go_sem,r0];rfl) rfl ?_;exact⟨_,xs,by rw[a4.out,bi.out,hz.out],d.out,a1.out,λ_=>by rw[a4.out];exact bo.out⟩
def Apv (s:ByteArray) (w:WD):CS prog 35 #[Y s] w (Yf s w):=by
 by_cases a:4096<s.size
 .exact Apr s w a
 .exact Apu s w a
def A0j   {v:ax} (p:ByteArray) (h:vs[k]?=Z v):Ea (vs.take (k+1)) p=if Ol v p=true then Ya (Ea (vs.take k) p) v.cap else Ea (vs.take k) p:=by
 unfold Ea;rw[Je h,L8];rfl
def Amk  (p:ByteArray) (h:∀v,v∈vs->Ux v.cap):Ao8 (Ea vs p) vs.length:=by
 induction vs using Qu with
 | h0=>constructor<;>simp[Ea,V4.zero]
 | h1 l x ih=>
  have a:=ih λv b=>h v (by simp[b]);have c:=h x as9;have e:Ea (l++[x]) p=if Ol x p=true then Ya (Ea l p) x.cap else Ea l p:=by unfold Ea;rw[L8];rfl
  rw[e,Az,D7,Ir];obtain⟨d,f,g,i,j,k,m,n⟩:=a;obtain⟨o,q,r,s,t,u,y,z⟩:=c
  split<;>constructor<;>(try simp only[Ya])<;>omega
def A0k  {v:V4} (h:jk w v W):BW w.heap.size w ((((W.setCell ⟨w.heap.size,0,I⟩ (G O v.a)).setCell ⟨w.heap.size,1,I⟩ (G O v.b)).setCell ⟨w.heap.size,2,I⟩ (G O v.c)).setCell ⟨w.heap.size,3,I⟩ (G O v.d)):=
 (((h.low.setCell Ln _).setCell Ln _).setCell Ln _).setCell Ln _
def Aml (a b c d:Int) (w:WD):(Instr.index 30 (.agg #[G O a,G O b,G O c,G O d]) (G O 0)).run prog w=.ok (G O a) w:=by kernel_rfl
def Amm (a b c d:Int) (w:WD):(Instr.index 30 (.agg #[G O a,G O b,G O c,G O d]) (G O 1)).run prog w=.ok (G O b) w:=by kernel_rfl
def Amn (a b c d:Int) (w:WD):(Instr.index 30 (.agg #[G O a,G O b,G O c,G O d]) (G O 2)).run prog w=.ok (G O c) w:=by kernel_rfl
def Amo (a b c d:Int) (w:WD):(Instr.index 30 (.agg #[G O a,G O b,G O c,G O d]) (G O 3)).run prog w=.ok (G O d) w:=by kernel_rfl
def A0l (w:WD) (fb mb base:Nat) (nv:VL) (xs:List aq) (p:ByteArray) (hF:j4 w fb mb base nv xs) (aH:xs.length<=4096) (al:∀x,x∈xs->Ux x.cap):CS prog 191 #[Q (Z ⟨fb,0,I⟩),Y p] w (Abl (xs.map aq.pl) p w):=by
 obtain⟨n,hn⟩:=Ex (xs.length);have ap:jk w V4.zero ((w.alloc (V V4.zero.cells 30 (0,0))).alloc (V V4.zero.cells 30 (0,0))):=⟨Bn.alloc as9 _,Aj _ (Ah _ _),A5 _ _ as9⟩;have av:=Abj _ fb mb base nv xs (hF.below ap.low);rw[<-hn]at av aH
 have aC:∀v,v∈xs.map aq.pl->Ux v.cap:=λv hv=>by
  obtain⟨x,hx,rfl⟩:=A8.1 hv;exact al x hx
 replace⟨hF,hn,av,ap,aC,al⟩:=H6 hF hn av ap aC al;go_enter func191,ntmps191;go_wp2_with fail;refine av.mono ?_;rintro e w1 ⟨rfl,rfl⟩;go_wp2;go_loopw [11] (λi wr=>∃k:Nat,i=G O k/\k<=n/\Hid (jk w (Ea ((xs.map aq.pl).take k) p) wr)) (λi _=>n-(intOf i).toNat)
 case atStart=>exact⟨0,rfl,As _,ap.out⟩
 case round=>
  obtain⟨k,rfl,hk,hT⟩:=hrel;by_cases hc:k<n
  .have aI:(k:Int)<n:=ao9;have aL:(0:Int)<=(k:Int):=ao9;have am:=hF.below hT.low;obtain⟨g,cap,rfl⟩:=Joins.ownsRow_form am.row (by have:=hn.out;omega);obtain⟨x,hx⟩:=Ge xs k (by have:=hn.out;omega);obtain⟨g',e1,aK,aJ,o⟩:=am.cell hx;have e2:g=g':=(by simpa[Value.ownBlock]using e1);subst e2;have c1:wr.cell? ⟨g,k*6+1,I⟩=Z (G O x.cap.a):=o 1 ao9;have c2:wr.cell? ⟨g,k*6+2,I⟩=Z (G O x.cap.b):=o 2 ao9;have c3:wr.cell? ⟨g,k*6+3,I⟩=Z (G O x.cap.c):=o 3 ao9;have c4:wr.cell? ⟨g,k*6+4,I⟩=Z (G O x.cap.d):=o 4 ao9;have c5:wr.cell? ⟨g,k*6+5,I⟩=Z (J x.po x.pn x.pc):=o 5 ao9;have f0:=Aa am.head 0;simp at f0;rw[<-hn.out]at f0;have an:=Af4 wr x.po x.pn x.pc x.parts p (am.ok x (Ai hx)).1.parts;obtain⟨b,hb⟩:=Ex (Gq x.parts p);rw[<-hb]at an;have aF:=Abk hx;have aG:=A0j p aF;have aA:=Amk (vs:=(xs.map aq.pl).take k) p (λv hv=>aC.out v (Na hv));have aD:=al x (Ai hx);have ao:((xs.map aq.pl).take k).length=k:=(by rw[Dt,Ar];have:=hn.out;omega);rw[ao]at aA;replace⟨am,hx,an,hb,aF,o,e1,aG⟩:=H8 am hx an hb aF o e1 aG;replace⟨aA,aD,ao⟩:=H3 aA aD ao;obtain⟨U,hU⟩:=Ex (Ea ((xs.map aq.pl).take k) p);have m:=hT.out;have aB:=aA.out;have ac:=aG.out;rw[<-hU]at m aB ac;obtain⟨nm,⟨r,s,t,u⟩,po,pn,pc,ps⟩:=x;obtain⟨ua,ub,uc,ud⟩:=U;obtain⟨v1,v2,v3,v4,v5,v6,v7,v8⟩:=aB;obtain⟨x1,x2,x3,x4,x5,x6,x7,x8⟩:=aD.out;simp only at v1 v2 v3 v4 v5 v6 v7 v8 x1 x2 x3 x4 x5 x6 x7 x8 c1 c2 c3 c4;have y1:ua<=4398046511104:=ao9;have y2:ub<=4398046511104:=ao9;have y3:uc<=4398046511104:=ao9;have y4:ud<=4398046511104:=ao9;clear v2 v4 v6 v8;replace⟨hU,m,ac,hT⟩:=H4 hU m ac hT
   cases hp:p.toList.isEmpty with
   | true=>
    have z:Ol (aq.pl ⟨nm,⟨r,s,t,u⟩,po,pn,pc,ps⟩) p=true:=(by unfold Ol;rw[hp];rfl);replace z:=Hh z;go_wp2_with fail;have y:jk w (Lc ⟨ua,ub,uc,ud⟩ ⟨r,s,t,u⟩ 0) wr:=m.out;replace y:=Hh y;go_loopw [37] (λi wq=>∃j:Nat,j<=4/\i=G O j/\Hid (jk w (Lc ⟨ua,ub,uc,ud⟩ ⟨r,s,t,u⟩ j) wq)) (λi _=>4-(intOf i).toNat)
    case atStart=>exact⟨0,ao9,rfl,y.out⟩
    case round=>
     obtain⟨j,hj,l,q⟩:=hrel;rcases(show j=0\/j=1\/j=2\/j=3\/j=4 by omega)with rfl|rfl|rfl|rfl|rfl
     .have h:u37=G O 0:=l;clear l;subst h;have af:=λw=>Aml r s t u w;have q0:=Bk q.r1 0 (G O ua) rfl;have f0:=Af q.r1 0;have f:jk w (Lc ⟨ua,ub,uc,ud⟩ ⟨r,s,t,u⟩ 1) (wr.setCell ⟨w.heap.size+1,0,I⟩ (G O (ua+r))):=q.set 0 _ rfl;replace f:=Hh f;go_wp2;go_roundw
      case rel=>exact⟨1,ao9,rfl,f.out⟩
      case measure=>simp[intOf]
     .have h:u37=G O 1:=l;clear l;subst h;have af:=λw=>Amm r s t u w;have q1:=Bk q.r1 1 (G O ub) rfl;have f1:=Af q.r1 1;have f:jk w (Lc ⟨ua,ub,uc,ud⟩ ⟨r,s,t,u⟩ 2) (wr.setCell ⟨w.heap.size+1,1,I⟩ (G O (ub+s))):=q.set 1 _ rfl;replace f:=Hh f;go_wp2;go_roundw
      case rel=>exact⟨2,ao9,rfl,f.out⟩
      case measure=>simp[intOf]
     .have h:u37=G O 2:=l;clear l;subst h;have af:=λw=>Amn r s t u w;have q2:=Bk q.r1 2 (G O uc) rfl;have f2:=Af q.r1 2;have f:jk w (Lc ⟨ua,ub,uc,ud⟩ ⟨r,s,t,u⟩ 3) (wr.setCell ⟨w.heap.size+1,2,I⟩ (G O (uc+t))):=q.set 2 _ rfl;replace f:=Hh f;go_wp2;go_roundw
      case rel=>exact⟨3,ao9,rfl,f.out⟩
      case measure=>simp[intOf]
     .have h:u37=G O 3:=l;clear l;subst h;have af:=λw=>Amo r s t u w;have q3:=Bk q.r1 3 (G O ud) rfl;have f3:=Af q.r1 3;have f:jk w (Lc ⟨ua,ub,uc,ud⟩ ⟨r,s,t,u⟩ 4) (wr.setCell ⟨w.heap.size+1,3,I⟩ (G O (ud+u))):=q.set 3 _ rfl;replace f:=Hh f;go_wp2;go_roundw
      case rel=>exact⟨4,ao9,rfl,f.out⟩
      case measure=>simp[intOf]
     .have h:u37=G O 4:=l;clear l;subst h;have ad:jk w (Ea ((xs.map aq.pl).take (k+1)) p) wr:=(by rw[ac.out,Ad z.out];exact q.out);replace ad:=Hh ad;go_wp2;go_roundw
      case rel=>exact⟨k+1,by go_num,ao9,ad.out⟩
      case measure=>simp[intOf];omega
   | false=>
    cases b with
    | true=>
     have z:Ol (aq.pl ⟨nm,⟨r,s,t,u⟩,po,pn,pc,ps⟩) p=true:=(by unfold Ol;rw[hp];exact hb.symm);replace z:=Hh z;go_wp2_with fail
     (with_reducible refine an.out.mono ?_)
     rintro e wr ⟨rfl,rfl⟩;go_wp2;have y:jk w (Lc ⟨ua,ub,uc,ud⟩ ⟨r,s,t,u⟩ 0) wr:=m.out;replace y:=Hh y;go_loopw [37] (λi wq=>∃j:Nat,j<=4/\i=G O j/\Hid (jk w (Lc ⟨ua,ub,uc,ud⟩ ⟨r,s,t,u⟩ j) wq)) (λi _=>4-(intOf i).toNat)
     case atStart=>exact⟨0,ao9,rfl,y.out⟩
     case round=>
      obtain⟨j,hj,l,q⟩:=hrel;rcases(show j=0\/j=1\/j=2\/j=3\/j=4 by omega)with rfl|rfl|rfl|rfl|rfl
      .have h:u37=G O 0:=l;clear l;subst h;have af:=λw=>Aml r s t u w;have q0:=Bk q.r1 0 (G O ua) rfl;have f0:=Af q.r1 0;have f:jk w (Lc ⟨ua,ub,uc,ud⟩ ⟨r,s,t,u⟩ 1) (wr.setCell ⟨w.heap.size+1,0,I⟩ (G O (ua+r))):=q.set 0 _ rfl;replace f:=Hh f;go_wp2;go_roundw
       case rel=>exact⟨1,ao9,rfl,f.out⟩
       case measure=>simp[intOf]
      .have h:u37=G O 1:=l;clear l;subst h;have af:=λw=>Amm r s t u w;have q1:=Bk q.r1 1 (G O ub) rfl;have f1:=Af q.r1 1;have f:jk w (Lc ⟨ua,ub,uc,ud⟩ ⟨r,s,t,u⟩ 2) (wr.setCell ⟨w.heap.size+1,1,I⟩ (G O (ub+s))):=q.set 1 _ rfl;replace f:=Hh f;go_wp2;go_roundw
       case rel=>exact⟨2,ao9,rfl,f.out⟩
       case measure=>simp[intOf]
      .have h:u37=G O 2:=l;clear l;subst h;have af:=λw=>Amn r s t u w;have q2:=Bk q.r1 2 (G O uc) rfl;have f2:=Af q.r1 2;have f:jk w (Lc ⟨ua,ub,uc,ud⟩ ⟨r,s,t,u⟩ 3) (wr.setCell ⟨w.heap.size+1,2,I⟩ (G O (uc+t))):=q.set 2 _ rfl;replace f:=Hh f;go_wp2;go_roundw
       case rel=>exact⟨3,ao9,rfl,f.out⟩
       case measure=>simp[intOf]
      .have h:u37=G O 3:=l;clear l;subst h;have af:=λw=>Amo r s t u w;have q3:=Bk q.r1 3 (G O ud) rfl;have f3:=Af q.r1 3;have f:jk w (Lc ⟨ua,ub,uc,ud⟩ ⟨r,s,t,u⟩ 4) (wr.setCell ⟨w.heap.size+1,3,I⟩ (G O (ud+u))):=q.set 3 _ rfl;replace f:=Hh f;go_wp2;go_roundw
       case rel=>exact⟨4,ao9,rfl,f.out⟩
       case measure=>simp[intOf]
      .have h:u37=G O 4:=l;clear l;subst h;have ad:jk w (Ea ((xs.map aq.pl).take (k+1)) p) wr:=(by rw[ac.out,Ad z.out];exact q.out);replace ad:=Hh ad;go_wp2;go_roundw
       case rel=>exact⟨k+1,by go_num,ao9,ad.out⟩
       case measure=>simp[intOf];omega
    | false=>
     have z:Ol (aq.pl ⟨nm,⟨r,s,t,u⟩,po,pn,pc,ps⟩) p=false:=(by unfold Ol;rw[hp];exact hb.symm);have y:jk w (Ea ((xs.map aq.pl).take (k+1)) p) wr:=(by rw[ac.out,Ac (by rw[z];simp)];exact m.out);replace⟨z,y⟩:=H2 z y;go_wp2_with fail
     (with_reducible refine an.out.mono ?_)
     rintro e wr ⟨rfl,rfl⟩;go_wp2;go_roundw
     case rel=>exact⟨k+1,by go_num,ao9,y.out⟩
     case measure=>simp[intOf];omega
  .have aI:¬(k:Int)<n:=ao9;have aE:(xs.map aq.pl).take k=xs.map aq.pl:=Cr (by rw[Ar];have:=hn.out;omega);have m:=hT.out;rw[aE]at m;obtain⟨U,hU⟩:=Ex (Ea (xs.map aq.pl) p);rw[<-hU]at m;obtain⟨ua,ub,uc,ud⟩:=U;have r1:=m.r1;have a0:=Bk r1 0 (G O ua) rfl;have a1:=Bk r1 1 (G O ub) rfl;have a2:=Bk r1 2 (G O uc) rfl;have a3:=Bk r1 3 (G O ud) rfl;have r0:=m.r0;have b0:=Bk r0 0 (G O 0) rfl;have b1:=Bk r0 1 (G O 0) rfl;have b2:=Bk r0 2 (G O 0) rfl;have b3:=Bk r0 3 (G O 0) rfl;have fr:=Af m.r0;have e:=A0k m;replace⟨aE,m,hU,hT,r1,r0,e⟩:=H7 aE m hU hT r1 r0 e;go_wp2;refine Ak (v:=V4.val ⟨ua,ub,uc,ud⟩) (by simp[results,results191,go_sem,b0,b1,b2,b3]) rfl ⟨?_,e.out⟩;rw[hU.out]
def A0m  {b c base:Nat}  (h:kq w b c base vs) (a:Iy vs) (p:ByteArray):CS prog 191 #[Q (Z ⟨b,0,I⟩),Y p] w (Abl vs p w):=by
 obtain⟨e,xs,h1,rfl,f⟩:=h.ex;have:=a.len;rw[Ar]at this;exact A0l w b c base e xs p h1 ao9 λx d=>Uy (a.all x.pl (Kg d)).ok.cap
