/- Parts of a proof. No condition. -/
import Derived.Test.YtimlcnhcjndijaaGreatDoorJ10
import Derived.Lib.OwnBridge
set_option linter.all false
set_option maxRecDepth 100000
set_option maxHeartbeats 6400000
namespace Go.Proofs.YtimlcnhcjndijaaGreatDoor
open Value renaming pointer->K,int->Z,string->D,slice->V,bool->Q,tuple->E
open Option renaming some->O,none->I
open IntKind renaming i64->G
open Ending renaming returned->Y
open Obj renaming cells->J
open Go renaming World->WD,Value->VL,Calls->CS
open Go.RowKit renaming Below->BW
open Go.Proofs.Tryz
section
open Go.RowKit Go.Maps Go.Shelf
variable{s:ByteArray}{vs:List ar}{B base k m n:Nat}{so:Option Addr}{W w w':WD}
structure Aqk (v:ar):Prop where
 ok:Agd v
 j8:v.parts.length<=8
 once:Mz v.parts=false
structure Jr (vs:List ar):Prop where
 len:vs.length<=16
 all:∀v,v∈vs->Aqk v
 nodup:(vs.map ar.name).Nodup
def X8:Jr []:=⟨as9,λv h=>(by cases h),as9⟩
def Aql {b:List ByteArray}  {a:ByteArray} {parts:List ByteArray} (h:Dv b m a parts=0):a∉b/\Mz parts=false/\m<16/\parts.length<=8:=by
 unfold Dv at h;split at h
 .cases h
 .next h1=>
  split at h
  .cases h
  .next h2=>
   split at h
   .cases h
   .next h3=>exact⟨λc=>h1 (Oz.2 c),by simpa using h2,ao9,ao9⟩
def Abq (l:List (Int×ByteArray)):∀xs,Jr xs->Jr (Bo xs l).1:=by
 induction l with
 | nil=>intro xs h;exact h
 | cons x l ih=>
  intro xs h;obtain⟨i,b⟩:=x;simp only[Bo]
  cases hn:Jp b with
  | none=>exact h
  | some v=>
   simp only;by_cases c:Dv (xs.map ar.name) xs.length v.name v.parts=0
   .rw [Ad c];obtain⟨f,g,n,j⟩:=Aql c;refine ih _ ⟨by simp;omega,λy d=>?_,?_⟩
    .rcases Dl.1 d with d|d
     .exact h.all y d
     .have:y=v:=by simpa using d
      subst this;exact⟨Age hn,j,g⟩
    .rw [Dk,Sa];refine⟨h.nodup,as9,λa k b m=>?_⟩
     have:b=v.name:=by simpa using m
     subst this;exact λe=>f (by rw[<-e];exact k)
   .rw [Ac c];exact h
def Abr {v:V4} (h:v.right=true):X5 v:=by
 simp only[V4.right,ib,Da,F2]at h;exact⟨h.1.1.1.1,h.1.1.1.2,h.1.1.2.1,h.1.1.2.2,h.1.2.1,h.1.2.2,h.2.1,h.2.2⟩
def J6:List ByteArray->ByteArray->Nat->Int
 | [],_,_=>-1
 | n :: ns,s,k=>if n=s then(k:Int)else J6 ns s (k+1)
def Aqm {a:List ByteArray}  (h:s∉a) (k:Nat):J6 a s k=-1:=by
 induction a generalizing k with
 | nil=>rfl
 | cons n a ih=>
  simp only[J6];rw[Ac (λe=>h (by rw[e];exact Ci ..)),ih (λc=>h (B2 _ c))]
def Agp  {a b base:Nat}  (h:lu w a b base vs):CS prog 43 #[K (O ⟨a,0,I⟩)] w λe w'=>e=Y (Z G (vs.length:Int))/\w'=w:=by
 obtain⟨c,xs,h1,rfl,d⟩:=h.ex;rw[Ar];exact Abn w a b base c xs h1
def Agq  {a c base:Nat}  (h:lu w a c base vs) (b:Jr vs) (p:ByteArray):CS prog 154 #[K (O ⟨a,0,I⟩),D p] w (Abo vs p w):=by
 obtain⟨d,xs,h1,rfl,e⟩:=h.ex;have:=b.len;rw[Ar]at this;exact Aqj w a c base d xs p h1 ao9
def X9 {p q:ByteArray} (h:p=q):(p.toList == q.toList)=true:=by rw[h];simp
def Ya {p q:ByteArray} (h:p≠q):(p.toList == q.toList)=false:=by
 simp only[Br];intro e;rw[Lib.toList_data,Lib.toList_data]at e;exact h (Py e)
def Aqn (so:Option Addr) (n c:Nat) (xs:List ByteArray) (x:ByteArray) (w:WD) (h:Ej w so n xs):CS prog 51 #[V so n c,D x] w λe w'=>e=Y (Q (Gx xs x))/\w'=w:=by
 have a:=h.len;have r:=h.max;replace⟨h,a⟩:=H2 h a;go_enter func51,ntmps51;go_wp2;go_loopw [5] (λi wr=>∃k:Nat,i=Z G k/\k<=n/\Hid (∀j,j<k->xs[j]?≠O x)/\wr=w) (λi _=>n-(intOf i).toNat)
 case atStart=>exact⟨0,rfl,As _,(λj h=>by omega),rfl⟩
 case round=>
  obtain⟨k,rfl,hk,f,rfl⟩:=hrel;by_cases s:k<n
  .have m:(k:Int)<n:=ao9;have t:(0:Int)<=(k:Int):=ao9;obtain⟨y,l⟩:=h.out.get s;obtain⟨b,u,rfl,z,v⟩:=h.out.cell k y l;by_cases q:y=x
   .have d:=X9 q;have g:Gx xs x=true:=Oz.2 (by rw[<-q];exact Ai l);replace⟨l,q,g⟩:=H3 l q g;go_wp2;go_ret;exact⟨by rw[g.out];rfl,rfl⟩
   .have d:=Ya q
    have o:∀j,j<k+1->xs[j]?≠O x:=λj p e=>by
     by_cases c:j=k
     .subst c;rw[l]at e;exact q (Kn e)
     .exact f.out j ao9 e
    replace⟨l,q,o⟩:=H3 l q o;go_wp2;go_roundw
    case rel=>exact⟨k+1,by go_num,ao9,o.out,trivial⟩
    case measure=>simp[intOf];omega
  .have m:¬(k:Int)<n:=ao9;have g:Gx xs x=false:=(by rw[Iu];intro c;obtain⟨j,p,e⟩:=Ol.1 (Oz.1 c);have hl:=a.out;exact f.out j ao9 (by rw[A3 p,e]));replace g:=Hh g;go_wp2;go_ret;exact⟨by rw[g.out];rfl,rfl⟩
def Agr (xs:List ByteArray) (w:WD) (e:Ending) (w':WD):Prop:=e=Y (Q (Mz xs))/\BW w.heap.size w w'
def Aqo (so:Option Addr) (n c:Nat) (xs:List ByteArray) (w:WD) (h:Ej w so n xs):CS prog 69 #[V so n c] w (Agr xs w):=by
 have f:=h.len;have ac:=h.max;replace⟨h,f⟩:=H2 h f;go_enter func69,ntmps69;go_wp2;go_loopw [3] (λi wr=>∃k:Nat,i=Z G k/\k<=n/\Hid (¬Un xs k)/\Hid (BW w.heap.size w wr)) (λi _=>n-(intOf i).toNat)
 case atStart=>exact⟨0,rfl,As _,(λ⟨i,j,s,h1,h2,_⟩=>absurd h2 (Nu _)),Below.refl _ _⟩
 case round=>
  obtain⟨k,rfl,hk,hD,hB⟩:=hrel;by_cases hc:k<n
  .have t:(k:Int)<n:=ao9;have an:(0:Int)<=(k:Int):=ao9;obtain⟨y,r⟩:=h.out.get hc;obtain⟨b,ao,rfl,hb,a0⟩:=h.out.cell k y r;replace r:=Hh r;go_wp2;go_loopw [4] (λi wq=>∃j:Nat,i=Z G j/\j<=k/\Hid (∀g,g<j->xs[g]?≠O y)/\Hid (BW w.heap.size w wq)) (λi _=>k-(intOf i).toNat)
   case atStart=>exact⟨0,rfl,As _,(λg h=>absurd h (Nu _)),hB.out⟩
   case round=>
    obtain⟨j,rfl,hj,hN,a⟩:=hrel;by_cases v:j<k
    .have u:(j:Int)<k:=ao9;have am:(0:Int)<=(j:Int):=ao9;obtain⟨z,p⟩:=h.out.get (i:=j) ao9;obtain⟨b2,ad,e2,al,c0⟩:=h.out.cell j z p;cases e2;have q0:=(Af a.out hb).trans a0;have q1:=(Af a.out hb).trans c0;clear c0;by_cases q:y=z
     .have d:=X9 q;have o:Mz xs=true:=(by rw[Xx];exact⟨k,j,y,v,by rw[f.out];exact hc,r.out,by rw[q];exact p⟩);replace⟨p,q,o⟩:=H3 p q o;go_wp2;go_quiet (fail);go_wp2;go_ret;exact⟨by rw[o.out];rfl,⟨a.out.os,a.out.tape,a.out.output,a.out.size,a.out.block⟩⟩
     .have d:=Ya q
      have m:∀g,g<j+1->xs[g]?≠O y:=λg h e=>by
       by_cases c:g=j
       .subst c;rw[p]at e;exact q (Kn e).symm
       .exact hN.out g ao9 e
      replace⟨p,q,m⟩:=H3 p q m;go_wp2;go_quiet (fail);go_wp2;go_roundw
      case rel=>exact⟨j+1,by go_num,ao9,m.out,⟨a.out.os,a.out.tape,a.out.output,a.out.size,a.out.block⟩⟩
      case measure=>simp[intOf];omega
    .have u:¬(j:Int)<k:=ao9
     have l:¬Un xs (k+1):=λ⟨i,g,s,h1,h2,h3,h4⟩=>by
      by_cases c:i=k
      .subst c;rw[r.out]at h3;exact hN.out g ao9 (by rw[h4,<-h3])
      .exact hD.out ⟨i,g,s,h1,ao9,h3,h4⟩
     replace l:=Hh l;go_wp2;go_roundw
     case rel=>exact⟨k+1,by go_num,ao9,l.out,a.out⟩
     case measure=>simp[intOf];omega
  .have t:¬(k:Int)<n:=ao9
   have o:Mz xs=false:=by
    rw[Iu];intro c;have hl:=f.out;have x:k=n:=ao9;exact hD.out (by rw[x,<-hl];exact(Xx xs).1 c)
   replace o:=Hh o;go_wp2;go_ret;exact⟨by rw[o.out];rfl,hB.out⟩
structure At (w:WD) (so:Option Addr) (n:Nat) (xs:List Int):Prop where
 len:xs.length=n
 max:n<=9223372036854775807
 cell:∀i x,xs[i]?=O x->∃b off,so=O ⟨b,off,I⟩/\b<w.heap.size/\w.cell? ⟨b,off+i,I⟩=O (Z G x)
def At.low    {xs:List Int} (h:At w so n xs) (d:BW w.heap.size w w'):At w' so n xs:=
 ⟨h.len,h.max,λi x g=>by
  obtain⟨b,c,e,a,f⟩:=h.cell i x g
  exact⟨b,c,e,Bq a d.size,(Af d a).trans f⟩⟩
def At.get    {xs:List Int} (h:At w so n xs) {i:Nat} (a:i<n):=Ge xs i (by rw[h.len];exact a)
def Ags   {v:VL} {xs:List Int} (h:Am w B v xs):∃so c,v=V so xs.length c/\At w so xs.length xs:=by
 rcases h.row.2 with⟨a,h0⟩|⟨g,cap,e,a,j,f,m,l,n⟩
 .have:xs=[]:=Ib.1 h0;subst this;exact⟨I,0,a,rfl,as9,λi x b=>by simp at b⟩
 .refine ⟨O ⟨g,0,I⟩,cap,a,rfl,by have:maxLen=9223372036854775807:=rfl;omega,λi x b=>⟨g,0,rfl,Ab f,?_⟩⟩;have k:=(An.1 b).1;have d:=h.row;rw[a]at d;rw[Db,F0 d i ao9,Bz,A7,b];rfl
def Abs (xs ys:List Int) (w:WD) (e:Ending) (w':WD):Prop:=e=Y (Q (decide (xs=ys)))/\BW w.heap.size w w'
def Agt (ao bo:Option Addr) (n m c c':Nat) (xs ys:List Int) (w:WD) (s:At w ao n xs) (t:At w bo m ys):CS prog 50 #[V ao n c,V bo m c'] w (Abs xs ys w):=by
 have o:=s.len;have p:=t.len;have al:=s.max;by_cases q:n=m;rotate_left
 .have d:((n:Int) != (m:Int))=true:=by rw[Gh];omega
  have f:decide (xs=ys)=false:=A2 λh=>q (by rw[<-o,<-p,h]);replace⟨s,t,o,p,q,f⟩:=H6 s t o p q f;go_enter func50,ntmps50;go_wp2;go_ret;exact⟨by rw[f.out];rfl,Below.refl _ _⟩
 subst q;have d:((n:Int) != (n:Int))=false:=as9
 replace⟨s,t,o,p⟩:=H4 s t o p;go_enter func50,ntmps50;go_wp2;go_loopw [5] (λi wr=>∃k:Nat,i=Z G k/\k<=n/\Hid (∀j,j<k->xs[j]?=ys[j]?)/\Hid (BW w.heap.size w wr)) (λi _=>n-(intOf i).toNat)
 case atStart=>exact⟨0,rfl,As _,(λj h=>by omega),Below.refl _ _⟩
 case round=>
  obtain⟨k,rfl,hk,r,l⟩:=hrel;by_cases hc:k<n
  .have v:(k:Int)<n:=ao9;have ad:(0:Int)<=(k:Int):=ao9;obtain⟨y,a⟩:=s.out.get hc;obtain⟨z,g⟩:=t.out.get hc;obtain⟨b,am,rfl,hb,a0⟩:=s.out.cell k y a;obtain⟨b',ac,rfl,u,a1⟩:=t.out.cell k z g;have b0:=(Af l.out hb).trans a0;have b1:=(Af l.out u).trans a1;clear a0 a1;by_cases q:y=z
   .have d2:(y != z)=false:=by simp[q]
    have hn:∀j,j<k+1->xs[j]?=ys[j]?:=λj hj=>by
     by_cases e:j=k
     .subst e;rw[a,g,q]
     .exact r.out j ao9
    replace⟨a,g,q,hn⟩:=H4 a g q hn;go_wp2;go_quiet (fail);go_wp2;go_roundw
    case rel=>exact⟨k+1,by go_num,ao9,hn.out,⟨l.out.os,l.out.tape,l.out.output,l.out.size,l.out.block⟩⟩
    case measure=>simp[intOf];omega
   .have d2:(y != z)=true:=by simp[q]
    have f:decide (xs=ys)=false:=A2 λh=>by
     rw[h,g]at a;exact q (Kn a).symm
    replace⟨a,g,q,f⟩:=H4 a g q f;go_wp2;go_quiet (fail);go_wp2;go_ret;exact⟨by rw[f.out];rfl,⟨l.out.os,l.out.tape,l.out.output,l.out.size,l.out.block⟩⟩
  .have v:¬(k:Int)<n:=ao9
   have x:=Az (Eh λj=>by
    by_cases hj:j<n
    .exact r.out j ao9
    .have h1:=o.out;have h2:=p.out
     rw[Pq ao9,Pq ao9])
   replace x:=Hh x;go_wp2;go_ret;exact⟨by rw[x.out];rfl,l.out⟩
structure iz (W:WD) (base:Nat) (nv:VL) (xs:List aq):Prop where
 row:W.ownsRow base 69 6 nv xs.length (Aw aq.cells xs)
 ok:∀x,x∈xs->x.ok W/\L6 W x
def iz.below   {l:VL} {xs:List aq} (h:iz w base l xs) (d:BW w.heap.size w w'):iz w' base l xs:=by
 refine⟨⟨h.row.1,?_⟩,λx k=>⟨(h.ok x k).1.low d,λb f e=>?_⟩⟩
 .rcases h.row.2 with h|⟨g,cap,a,o,m,j,n⟩
  .exact .inl h
  .exact .inr ⟨g,cap,a,o,m,Ae d j (Ab j),n⟩
 .obtain ⟨c,i⟩:=(h.ok x k).2 b f e;exact⟨c,Ae d i (Ab i)⟩
def iz.cell   {c:VL} {xs:List aq} (h:iz W base c xs)  {x:aq} (b:xs[k]?=O x):∃g cap,c=V (O ⟨g,0,I⟩) xs.length cap/\g<W.heap.size/\base<=g/\∀j,j<6->W.cell? ⟨g,k*6+j,I⟩=(x.cells)[j]?:=by
 have l:=(An.1 b).1;rcases h.row.2 with⟨a,h0⟩|⟨g,cap,d,a,e,f,m⟩
 .have:xs.length=0:=h0;omega
 .subst a;refine⟨g,cap,rfl,Ab f,e,λj i=>?_⟩
  rw[F0 h.row (k*6+j) (by
   have:(k+1)*6<=xs.length*6:=T5 _ ao9
   omega),Gw Afz xs b i]
def Abt   {a:VL} {xs:List aq} (h:iz w base a xs):∀b w,(Builtin.len_ #[52] b #[a]).run prog w=.ok (Z G (xs.length:Int)) w:=λb w=>by
 rcases Joins.ownsRow_forms h.row with⟨rfl,h0⟩|⟨g,cap,rfl⟩
 .rw [h0];simp[go_sem,Ps]
 .simp [go_sem,Ps]
def Aqp (w:WD) (base:Nat) (u:VL) (xs:List aq) (s:ByteArray) (hF:iz w base u xs) (r:xs.length<=4096):CS prog 68 #[.agg #[u],D s] w λe w'=>e=Y (Z G (J6 (xs.map aq.name) s 0))/\BW w.heap.size w w':=by
 have t:=Abt hF;obtain⟨n,l⟩:=Ex (xs.length);rw[<-l]at t r;obtain⟨W,o⟩:=Ex (w.alloc (J #[u] 54 (0,0)));have p:BW w.heap.size w W:=by rw[o];exact Bn
 have j:W.heap[w.heap.size]?=O (J #[u] 54 (0,0)):=by rw[o];exact Ah _ _
 have h:=hF.below p;have f0:=Bk j 0 u rfl;replace⟨hF,l,p,j,h⟩:=H5 hF l p j h;go_enter func68,ntmps68;go_wp2;rw[<-o];have ac:=Hh o;clear o;go_loop [5] (λi=>∃k:Nat,i=Z G k/\k<=n/\Hid (J6 (xs.map aq.name) s 0=J6 ((xs.map aq.name).drop k) s k)) (λi=>n-(intOf i).toNat)
 case atStart=>exact⟨0,rfl,As _,rfl⟩
 case round=>
  obtain⟨k,rfl,hk,v⟩:=hrel;by_cases hc:k<n
  .have y:(k:Int)<n:=ao9;have ad:(0:Int)<=(k:Int):=ao9;obtain⟨x,m⟩:=Ge xs k (by have:=l.out;omega);obtain⟨g,cap,rfl,_,_,a⟩:=h.out.cell m;have z:W.cell? ⟨g,k*6+0,I⟩=O (D x.name):=a 0 ao9;rw[Jo]at z;have c:(xs.map aq.name)[k]?=O x.name:=(by rw[A7,m];rfl);have b:(xs.map aq.name).drop k=x.name :: (xs.map aq.name).drop (k+1):=(by obtain⟨h1,h2⟩:=An.1 c;rw[Aag h1,h2]);rw[<-l.out]at f0;clear t;by_cases q:x.name=s
   .have d:=X9 q;have f:J6 (xs.map aq.name) s 0=(k:Int):=(by rw[v.out,b];simp only[J6];rw[Ad q]);replace⟨m,a,c,b,q,f⟩:=H6 m a c b q f;go_wp2;go_ret;exact⟨by rw[f.out];rfl,p.out⟩
   .have d:=Ya q;have f:J6 (xs.map aq.name) s 0=J6 ((xs.map aq.name).drop (k+1)) s (k+1):=(by rw[v.out,b];simp only[J6];rw[Ac q]);replace⟨m,a,c,b,q,f⟩:=H6 m a c b q f;go_wp2;go_round
    case rel=>exact⟨k+1,by go_num,ao9,f.out⟩
    case measure=>simp[intOf];omega
  .have y:¬(k:Int)<n:=ao9;have f:J6 (xs.map aq.name) s 0=-1:=(by rw[v.out,List.drop_eq_nil_of_le (by rw[Ar];have:=l.out;omega)];rfl);replace f:=Hh f;go_wp2;go_ret;exact⟨by rw[f.out];rfl,p.out⟩
def Abu  {base a:Nat} {e:TypeId} {size:Nat} {v:VL}  {xs:List VL} (h:w.ownsRow base e size v n xs) (c:a<=base):w.ownsRow a e size v n xs:=by
 refine⟨h.1,?_⟩;rcases h.2 with h|⟨g,cap,b,i,d,f⟩
 .exact .inl h
 .exact .inr ⟨g,cap,b,i,A8 c d,f⟩
structure Yb (w:WD) (nv ov:VL) (zs:List Int) (W:WD):Prop where
 low:BW w.heap.size w W
 box:W.heap[w.heap.size]?=O (J #[nv] 54 (0,0))
 out:Am W (w.heap.size+1) ov zs
 sz:w.heap.size+1<=W.heap.size
def Aqq (w:WD) (base:Nat) (nv:VL) (xs:List aq) (p:ByteArray) (hF:iz w base nv xs) (al:xs.length<=4096):CS prog 25 #[.agg #[nv],D p] w (Abo (xs.map aq.pl) p w):=by
 obtain⟨i3,aA,aB,ao,ap⟩:=Cf M0;have am:=Abt hF;obtain⟨n,hn⟩:=Ex (xs.length);rw[<-hn]at am al;have t:Yb w nv (V I 0 0) (B5 ((xs.map aq.pl).take 0) p) (w.alloc (J #[nv] 54 (0,0))):=⟨Bn,Ah _ _,⟨rfl,.inl ⟨rfl,rfl⟩⟩,as9⟩;replace⟨hF,hn,t⟩:=H3 hF hn t;go_enter func25,ntmps25;go_wp2;go_loopw [5,6] (λov i wr=>∃k:Nat,i=Z G k/\k<=n/\Hid (Yb w nv ov (B5 ((xs.map aq.pl).take k) p) wr)) (λ_ i _=>n-(intOf i).toNat)
 case atStart=>exact⟨0,rfl,As _,t.out⟩
 case round=>
  obtain⟨k,rfl,hk,m⟩:=hrel;have f0:=Bk m.out.box 0 nv rfl;by_cases hc:k<n
  .have av:(k:Int)<n:=ao9;have aD:(0:Int)<=(k:Int):=ao9;have q:=hF.out.below m.out.low;obtain⟨x,hx⟩:=Ge xs k (by have:=hn.out;omega);obtain⟨g,cap,rfl,_,_,f⟩:=q.cell hx;have c5:wr.cell? ⟨g,k*6+5,I⟩=O (V x.po x.pn x.pc):=f 5 ao9;rw[<-hn.out]at f0;clear am;have o:=Aqn x.po x.pn x.pc x.parts p wr (q.ok x (Ai hx)).1.parts;obtain⟨b,hb⟩:=Ex (Gx x.parts p);rw[<-hb]at o;have r:=X7 hx;replace⟨q,hx,o,hb,r,f⟩:=H6 q hx o hb r f
   cases b with
   | false=>
    have v:Yb w (V (O ⟨g,0,I⟩) xs.length cap) u5 (B5 ((xs.map aq.pl).take (k+1)) p) wr:=(by rw[Agl r.out hb.out.symm];exact m.out);replace v:=Hh v;go_wp2_with fail
    (with_reducible refine o.out.mono ?_)
    rintro e wr ⟨rfl,rfl⟩;go_wp2;go_roundw
    case rel=>exact⟨k+1,by go_num,ao9,v.out⟩
    case measure=>simp[intOf];omega
   | true=>
    obtain⟨L,hL⟩:=Ex ((B5 ((xs.map aq.pl).take k) p).length);have aC:L<=k:=(by rw[hL];refine A8 (Agn _ _) ?_;rw[Fl];omega);have l:(wr.alloc (J #[Z G (k:Int)] 3 (0,0))).ownsRow (w.heap.size+1) 3 1 u5 L (Bz (B5 ((xs.map aq.pl).take k) p)):=(by rw[hL];exact m.out.out.row.alloc (J #[Z G (k:Int)] 3 (0,0)));have h:=X6 wr (k:Int);have j:∀u∈([Z G (k:Int)]:List VL),u.oneCell'=true:=(by simp[Value.oneCell']);have s:=If (n:=L) ao9;have z:(L+1)*8<=140737488355328:=ao9;have d:w.heap.size+1<=(wr.alloc (J #[Z G (k:Int)] 3 (0,0))).heap.size:=(by have:=m.out.sz;simp;omega);replace⟨hL,l,h,j,s,z,d⟩:=H7 hL l h j s z d;go_wp2_with fail
    (with_reducible refine o.out.mono ?_)
    rintro e wr ⟨rfl,rfl⟩;go_wp2_with (at_builtin;refine Ms _ rfl _ _ 31 rfl (w.heap.size+1) 3 i3 _ 1 8 Ns aA aB ao ap rfl ad9 _ L _ rfl l.out ⟨wr.heap.size,0,I⟩ 1 1 [Z G (k:Int)] rfl rfl h.out j.out s.out z.out d.out ?_;intro v1 w7 c a _;obtain⟨g7,ad,rfl⟩:=Joins.ownsRow_form c ao9;replace⟨c,a⟩:=H2 c a)
    have y:Yb w (V (O ⟨g,0,I⟩) xs.length cap) (V (O ⟨g7,0,I⟩) (L+1) ad) (B5 ((xs.map aq.pl).take (k+1)) p) w7:=by
     have an:=m.out.out.row.lt;refine⟨?_,?_,⟨?_⟩,?_⟩
     .exact (m.out.low.alloc m.out.low.size _).grown a.out (by have:=d.out;omega) (λk hk=>by have:=(an k hk).1;omega)
     .exact (a.out.block _ (by have:=m.out.sz;simp;omega) (λe=>by have:=(an _ e.symm).1;omega)).trans (Aj _ m.out.box)
     .rw [Agk r.out hb.out.symm,Cn,<-hL.out];simpa[Bz]using c.out
     .have:=a.out.size;have:=d.out;omega
    replace y:=Hh y;go_roundw
    case rel=>exact⟨k+1,by go_num,ao9,y.out⟩
    case measure=>simp[intOf];omega
  .have av:¬(k:Int)<n:=ao9;have ac:(xs.map aq.pl).take k=xs.map aq.pl:=C4 (by rw[Ar];have:=hn.out;omega);replace ac:=Hh ac;go_wp2;go_ret;refine⟨u5,rfl,⟨?_⟩,m.out.low⟩;have:=m.out.out.row;rw[ac.out]at this;exact Abu this (D5 _)
def pw (v:V4) (k:Nat):V4:=⟨if 0<k then v.a else 0,if 1<k then v.b else 0,if 2<k then v.c else 0,if 3<k then v.d else 0⟩
structure qu (w:WD) (vb:Nat) (so:Option Addr) (xs:List ByteArray) (v:V4) (W:WD):Prop where
 low:BW w.heap.size w W
 gt:w.heap.size<vb
 r0:W.heap[w.heap.size]?=O (J V4.zero.cells 30 (0,0))
 r1:W.heap[vb]?=O (J v.cells 30 (0,0))
 strs:Ej W so 4 xs
def qu.below {w W b:WD} {c:Nat}  {xs:List ByteArray} {v:V4} (h:qu w c so xs v W) (a:BW W.heap.size W b):qu w c so xs v b:=
 ⟨h.low.trans (a.mono h.low.size),h.gt,Ae a h.r0 (Ab h.r0),Ae a h.r1 (Ab h.r1),h.strs.low a⟩
def qu.set  {d:Nat}  {xs:List ByteArray} {v j:V4} (h:qu w d so xs v W) (o:Nat) (x:VL) (e:v.cells.setIfInBounds o x=j.cells) (g:∀b c,so=O ⟨b,c,I⟩->b≠d):qu w d so xs j (W.setCell ⟨d,o,I⟩ x):=
 ⟨h.low.setCell (Sf h.gt) _,h.gt,Dn (Nat.ne_of_lt h.gt) _ h.r0,by rw[Ap h.r1,e],h.strs.len,h.strs.max,λi x l=>by
  obtain⟨b,c,e,f,k⟩:=h.strs.cell i x l
  exact⟨b,c,e,by simpa[World.setCell]using f,(By (a:=⟨b,c+i,I⟩) (w:=W) (Fd (g b c e))).trans k⟩⟩
def P2 {x:Int} (h:x<0\/1073741824<x):ib x=false:=by
 unfold ib;rcases h with h|h
 .rw [A2 ao9];rfl
 .rw [A2 (p:=x<=1073741824) ao9];simp
def Aqs  {j:Nat} (a:(Au 44 s.data.toList).length=4) (b:j<4) (h:ib (E4 (Au 44 s.data.toList) j)=false):Fo s=(V4.zero,11):=by
 unfold Fo;rw[Ad a];unfold V4.told;rw[Ac];rw[V4.right,Pz]
 rcases(show j=0\/j=1\/j=2\/j=3 by omega)with rfl|rfl|rfl|rfl<;>rw[h]<;>simp
def Aqt  (a:(Au 44 s.data.toList).length=4) (h:∀j,j<4->ib (E4 (Au 44 s.data.toList) j)=true):Fo s=(Pz (Au 44 s.data.toList),0):=by
 unfold Fo;rw[Ad a];unfold V4.told;rw[Ad];rw[V4.right,Pz,h 0 ao9,h 1 ao9,h 2 ao9,h 3 ao9];rfl
def Aqu (s:ByteArray) (w:WD) (hs:s.size<=4294967200):CS prog 112 #[D s] w λe w'=>e=Y (E #[(Fo s).1.val,Z G (Fo s).2])/\BW w.heap.size w w':=by
 obtain⟨W0,aK⟩:=Ex (w.alloc (J V4.zero.cells 30 (0,0)));have aP:BW w.heap.size w W0:=by rw[aK];exact Bn
 have aR:W0.heap[w.heap.size]?=O (J V4.zero.cells 30 (0,0)):=by rw[aK];exact Ah _ _
 have aM:=Abd s 44 W0 ao9;have aW:(((44:UInt8).toNat:Nat):Int)=44:=rfl;rw[aW]at aM;clear aW
 have aA:∀x,x∈(Au 44 s.data.toList).map bu->x.size<=maxLen:=λx o=>by
  obtain⟨p,hp,rfl⟩:=A5.1 o;have:=Xt hp;rw[L4];have h2:=Q0 s;have:maxLen=9223372036854775807:=rfl;omega
 obtain⟨L,hL⟩:=Ex ((Au 44 s.data.toList).length);rw[aK]at aM;have aX:=Hh aK;clear aK;replace⟨aP,aR,aM,hL⟩:=H4 aP aR aM hL;have al:=Hh aA;clear aA;go_enter func112,ntmps112;go_wp2_with fail;refine aM.out.mono ?_;rintro e w1 ⟨so,n,c,rfl,a6,aB,aC,aF⟩;rw[<-aX.out]at aF aC;have am:(Au 44 s.data.toList).length=n:=by have:=aB.len;rwa [Ar]at this
 have z:=aP.out.trans (aF.mono aP.out.size);have an:=Ae aF aR.out (Ab aR.out);have a5:=aB.max;by_cases h4:n=4
 .subst h4;have aZ:=Ab an
  have aH:∀b ap,so=O ⟨b,ap,I⟩->b≠w1.heap.size:=λb ap e=>by
   obtain⟨x,o⟩:=aB.get (i:=0) ao9;obtain⟨b',a4,e',aY,_⟩:=aB.cell 0 x o;exact Nat.ne_of_lt (by rw[e]at e';cases e';exact aY)
  obtain⟨vb,aS⟩:=Ex (w1.heap.size)
  have aJ:qu w vb so ((Au 44 s.data.toList).map bu) (pw (Pz (Au 44 s.data.toList)) 0) (w1.alloc (J V4.zero.cells 30 (0,0))):=
   ⟨z.alloc z.size _,ao9,Aj _ an,A6 _ _ aS,aB.low Bn⟩
  rw[<-aS]at aH;have aA:=al.out;have aL:∀j,j<4->ib (E4 (Au 44 s.data.toList) j)=false->Fo s=(V4.zero,11):=λj hj h=>Aqs am hj h;have aG:=Aqt am
  have aN:∀j x,((Au 44 s.data.toList).map bu)[j]?=O x->Cd x 10=E4 (Au 44 s.data.toList) j:=λj x o=>by
   rw[A7]at o;obtain⟨p,hp,rfl⟩:=K5.1 o;unfold E4;rw[List.getD,hp];rfl
  obtain⟨P,hP⟩:=Ex (Pz (Au 44 s.data.toList));rw[<-hP]at aJ aG;obtain⟨pa,pb,pc,pd⟩:=P
  have aV:∀j,j<4->E4 (Au 44 s.data.toList) j=(V4.get ⟨pa,pb,pc,pd⟩ j):=λj hj=>by
   rw[hP]
   rcases(show j=0\/j=1\/j=2\/j=3 by omega)with rfl|rfl|rfl|rfl<;>rfl
  have aT:∀j x,((Au 44 s.data.toList).map bu)[j]?=O x->Cd x 10=V4.get ⟨pa,pb,pc,pd⟩ j:=λj x o=>by
   rw[aN j x o];refine aV j ?_;have:=(An.1 o).1;rw[Ar,am]at this;exact this
  clear aN;have k:=Hh aL;have aQ:=Hh aG;have av:=Hh aT;have m:=Hh aV;clear aL aG aT aV aA;replace⟨aH,z,an,aB,aC,aF,hP,aJ⟩:=H8 aH z an aB aC aF hP aJ;replace am:=Hh am;have aU:=Hh aS;rw[aU.out]at aJ;go_wp2;rw[<-aU.out]at aJ ⊢;clear aS;go_loopw [6] (λi wq=>∃j:Nat,j<=4/\i=Z G j/\Hid (∀j',j'<j->ib (E4 (Au 44 s.data.toList) j')=true)/\Hid (qu w vb so ((Au 44 s.data.toList).map bu) (pw ⟨pa,pb,pc,pd⟩ j) wq)) (λi _=>4-(intOf i).toNat)
  case atStart=>exact⟨0,ao9,rfl,λj h=>absurd h (Nu _),aJ.out⟩
  case round=>
   obtain⟨j,hj,ao,aO,hM⟩:=hrel;rcases(show j=0\/j=1\/j=2\/j=3\/j=4 by omega)with rfl|rfl|rfl|rfl|rfl
   .have ad:u6=Z G 0:=ao;clear ao;subst ad;obtain⟨x,o⟩:=hM.out.strs.get (i:=0) ao9;obtain⟨b,ap,rfl,hb,a0⟩:=hM.out.strs.cell 0 x o
    try rw[Jo]at a0
    have ac:Cd x 10=pa:=av.out 0 x o;have aI:=al.out x (Ai o);have d:CS prog 168 #[D x,Z G 10] wr λe w'=>e=Y (Z G (Cd x 10))/\BW wr.heap.size wr w':=Xq x 10 wr aI ao9;rw[ac]at d;replace⟨o,ac,d⟩:=H3 o ac d;go_wp2_with fail;refine d.out.mono ?_;rintro e wq ⟨rfl,t⟩;have f:=hM.out.below t;have r1:=f.r1;have l:=f.r0;have b0:=Bk l 0 (Z G 0) rfl;have b1:=Bk l 1 (Z G 0) rfl;have b2:=Bk l 2 (Z G 0) rfl;have b3:=Bk l 3 (Z G 0) rfl;have fr:=Ag l;have fv:=Ag r1;have q0:=Bk r1 0 (Z G 0) rfl
    have he:∀v0 v1 v2 v3,BW w.heap.size w ((((wq.setCell ⟨w.heap.size,0,I⟩ v0).setCell ⟨w.heap.size,1,I⟩ v1).setCell ⟨w.heap.size,2,I⟩ v2).setCell ⟨w.heap.size,3,I⟩ v3):=λv0 v1 v2 v3=>
     (((f.low.setCell Ln _).setCell Ln _).setCell Ln _).setCell Ln _
    replace⟨f,r1,l,t,he⟩:=H5 f r1 l t he;by_cases y:pa<0
    .have aE:=Az y;have a:=k.out 0 ao9 (by rw[m.out 0 ao9];exact P2 (.inl y));replace a:=Hh a;go_wp2;refine Al (v:=E #[V4.zero.val,Z G 11]) (by simp[results,results112,go_sem,b0,b1,b2,b3,V4.zero]) rfl ⟨by rw[a.out],he.out _ _ _ _⟩
    .have aE:=A2 y;by_cases u:1073741824<pa
     .have aD:=Az u;have a:=k.out 0 ao9 (by rw[m.out 0 ao9];exact P2 (.inr u));replace a:=Hh a;go_wp2;refine Al (v:=E #[V4.zero.val,Z G 11]) (by simp[results,results112,go_sem,b0,b1,b2,b3,V4.zero]) rfl ⟨by rw[a.out],he.out _ _ _ _⟩
     .have aD:=A2 u;have r:qu w vb (O ⟨b,ap,I⟩) ((Au 44 s.data.toList).map bu) (pw ⟨pa,pb,pc,pd⟩ 1) (wq.setCell ⟨vb,0,I⟩ (Z G pa)):=f.out.set 0 _ rfl aH.out
      have g:∀j,j<1->ib (E4 (Au 44 s.data.toList) j)=true:=λj hj=>by
       by_cases q:j=0
       .subst q;rw[m.out 0 ao9];show ib pa=true;unfold ib;rw[Az (show(0:Int)<=pa by omega),Az (show pa<=1073741824 by omega)];rfl
       .exact aO.out j ao9
      replace⟨r,g⟩:=H2 r g;go_wp2;go_roundw
      case rel=>exact⟨1,ao9,rfl,g.out,r.out⟩
      case measure=>simp[intOf]
   .have ad:u6=Z G 1:=ao;clear ao;subst ad;obtain⟨x,o⟩:=hM.out.strs.get (i:=1) ao9;obtain⟨b,ap,rfl,hb,a0⟩:=hM.out.strs.cell 1 x o
    try rw[Jo]at a0
    have ac:Cd x 10=pb:=av.out 1 x o;have aI:=al.out x (Ai o);have d:CS prog 168 #[D x,Z G 10] wr λe w'=>e=Y (Z G (Cd x 10))/\BW wr.heap.size wr w':=Xq x 10 wr aI ao9;rw[ac]at d;replace⟨o,ac,d⟩:=H3 o ac d;go_wp2_with fail;refine d.out.mono ?_;rintro e wq ⟨rfl,t⟩;have f:=hM.out.below t;have r1:=f.r1;have l:=f.r0;have b0:=Bk l 0 (Z G 0) rfl;have b1:=Bk l 1 (Z G 0) rfl;have b2:=Bk l 2 (Z G 0) rfl;have b3:=Bk l 3 (Z G 0) rfl;have fr:=Ag l;have fv:=Ag r1;have q0:=Bk r1 1 (Z G 0) rfl
    have he:∀v0 v1 v2 v3,BW w.heap.size w ((((wq.setCell ⟨w.heap.size,0,I⟩ v0).setCell ⟨w.heap.size,1,I⟩ v1).setCell ⟨w.heap.size,2,I⟩ v2).setCell ⟨w.heap.size,3,I⟩ v3):=λv0 v1 v2 v3=>
     (((f.low.setCell Ln _).setCell Ln _).setCell Ln _).setCell Ln _
    replace⟨f,r1,l,t,he⟩:=H5 f r1 l t he;by_cases y:pb<0
    .have aE:=Az y;have a:=k.out 1 ao9 (by rw[m.out 1 ao9];exact P2 (.inl y));replace a:=Hh a;go_wp2;refine Al (v:=E #[V4.zero.val,Z G 11]) (by simp[results,results112,go_sem,b0,b1,b2,b3,V4.zero]) rfl ⟨by rw[a.out],he.out _ _ _ _⟩
    .have aE:=A2 y;by_cases u:1073741824<pb
     .have aD:=Az u;have a:=k.out 1 ao9 (by rw[m.out 1 ao9];exact P2 (.inr u));replace a:=Hh a;go_wp2;refine Al (v:=E #[V4.zero.val,Z G 11]) (by simp[results,results112,go_sem,b0,b1,b2,b3,V4.zero]) rfl ⟨by rw[a.out],he.out _ _ _ _⟩
     .have aD:=A2 u;have r:qu w vb (O ⟨b,ap,I⟩) ((Au 44 s.data.toList).map bu) (pw ⟨pa,pb,pc,pd⟩ 2) (wq.setCell ⟨vb,1,I⟩ (Z G pb)):=f.out.set 1 _ rfl aH.out
      have g:∀j,j<2->ib (E4 (Au 44 s.data.toList) j)=true:=λj hj=>by
       by_cases q:j=1
       .subst q;rw[m.out 1 ao9];show ib pb=true;unfold ib;rw[Az (show(0:Int)<=pb by omega),Az (show pb<=1073741824 by omega)];rfl
       .exact aO.out j ao9
      replace⟨r,g⟩:=H2 r g;go_wp2;go_roundw
      case rel=>exact⟨2,ao9,rfl,g.out,r.out⟩
      case measure=>simp[intOf]
   .have ad:u6=Z G 2:=ao;clear ao;subst ad;obtain⟨x,o⟩:=hM.out.strs.get (i:=2) ao9;obtain⟨b,ap,rfl,hb,a0⟩:=hM.out.strs.cell 2 x o
    try rw[Jo]at a0
    have ac:Cd x 10=pc:=av.out 2 x o;have aI:=al.out x (Ai o);have d:CS prog 168 #[D x,Z G 10] wr λe w'=>e=Y (Z G (Cd x 10))/\BW wr.heap.size wr w':=Xq x 10 wr aI ao9;rw[ac]at d;replace⟨o,ac,d⟩:=H3 o ac d;go_wp2_with fail;refine d.out.mono ?_;rintro e wq ⟨rfl,t⟩;have f:=hM.out.below t;have r1:=f.r1;have l:=f.r0;have b0:=Bk l 0 (Z G 0) rfl;have b1:=Bk l 1 (Z G 0) rfl;have b2:=Bk l 2 (Z G 0) rfl;have b3:=Bk l 3 (Z G 0) rfl;have fr:=Ag l;have fv:=Ag r1;have q0:=Bk r1 2 (Z G 0) rfl
    have he:∀v0 v1 v2 v3,BW w.heap.size w ((((wq.setCell ⟨w.heap.size,0,I⟩ v0).setCell ⟨w.heap.size,1,I⟩ v1).setCell ⟨w.heap.size,2,I⟩ v2).setCell ⟨w.heap.size,3,I⟩ v3):=λv0 v1 v2 v3=>
     (((f.low.setCell Ln _).setCell Ln _).setCell Ln _).setCell Ln _
    replace⟨f,r1,l,t,he⟩:=H5 f r1 l t he;by_cases y:pc<0
    .have aE:=Az y;have a:=k.out 2 ao9 (by rw[m.out 2 ao9];exact P2 (.inl y));replace a:=Hh a;go_wp2;refine Al (v:=E #[V4.zero.val,Z G 11]) (by simp[results,results112,go_sem,b0,b1,b2,b3,V4.zero]) rfl ⟨by rw[a.out],he.out _ _ _ _⟩
    .have aE:=A2 y;by_cases u:1073741824<pc
     .have aD:=Az u;have a:=k.out 2 ao9 (by rw[m.out 2 ao9];exact P2 (.inr u));replace a:=Hh a;go_wp2;refine Al (v:=E #[V4.zero.val,Z G 11]) (by simp[results,results112,go_sem,b0,b1,b2,b3,V4.zero]) rfl ⟨by rw[a.out],he.out _ _ _ _⟩
     .have aD:=A2 u;have r:qu w vb (O ⟨b,ap,I⟩) ((Au 44 s.data.toList).map bu) (pw ⟨pa,pb,pc,pd⟩ 3) (wq.setCell ⟨vb,2,I⟩ (Z G pc)):=f.out.set 2 _ rfl aH.out
      have g:∀j,j<3->ib (E4 (Au 44 s.data.toList) j)=true:=λj hj=>by
       by_cases q:j=2
       .subst q;rw[m.out 2 ao9];show ib pc=true;unfold ib;rw[Az (show(0:Int)<=pc by omega),Az (show pc<=1073741824 by omega)];rfl
       .exact aO.out j ao9
      replace⟨r,g⟩:=H2 r g;go_wp2;go_roundw
      case rel=>exact⟨3,ao9,rfl,g.out,r.out⟩
      case measure=>simp[intOf]
   .have ad:u6=Z G 3:=ao;clear ao;subst ad;obtain⟨x,o⟩:=hM.out.strs.get (i:=3) ao9;obtain⟨b,ap,rfl,hb,a0⟩:=hM.out.strs.cell 3 x o
    try rw[Jo]at a0
    have ac:Cd x 10=pd:=av.out 3 x o;have aI:=al.out x (Ai o);have d:CS prog 168 #[D x,Z G 10] wr λe w'=>e=Y (Z G (Cd x 10))/\BW wr.heap.size wr w':=Xq x 10 wr aI ao9;rw[ac]at d;replace⟨o,ac,d⟩:=H3 o ac d;go_wp2_with fail;refine d.out.mono ?_;rintro e wq ⟨rfl,t⟩;have f:=hM.out.below t;have r1:=f.r1;have l:=f.r0;have b0:=Bk l 0 (Z G 0) rfl;have b1:=Bk l 1 (Z G 0) rfl;have b2:=Bk l 2 (Z G 0) rfl;have b3:=Bk l 3 (Z G 0) rfl;have fr:=Ag l;have fv:=Ag r1;have q0:=Bk r1 3 (Z G 0) rfl
    have he:∀v0 v1 v2 v3,BW w.heap.size w ((((wq.setCell ⟨w.heap.size,0,I⟩ v0).setCell ⟨w.heap.size,1,I⟩ v1).setCell ⟨w.heap.size,2,I⟩ v2).setCell ⟨w.heap.size,3,I⟩ v3):=λv0 v1 v2 v3=>
     (((f.low.setCell Ln _).setCell Ln _).setCell Ln _).setCell Ln _
    replace⟨f,r1,l,t,he⟩:=H5 f r1 l t he;by_cases y:pd<0
    .have aE:=Az y;have a:=k.out 3 ao9 (by rw[m.out 3 ao9];exact P2 (.inl y));replace a:=Hh a;go_wp2;refine Al (v:=E #[V4.zero.val,Z G 11]) (by simp[results,results112,go_sem,b0,b1,b2,b3,V4.zero]) rfl ⟨by rw[a.out],he.out _ _ _ _⟩
    .have aE:=A2 y;by_cases u:1073741824<pd
     .have aD:=Az u;have a:=k.out 3 ao9 (by rw[m.out 3 ao9];exact P2 (.inr u));replace a:=Hh a;go_wp2;refine Al (v:=E #[V4.zero.val,Z G 11]) (by simp[results,results112,go_sem,b0,b1,b2,b3,V4.zero]) rfl ⟨by rw[a.out],he.out _ _ _ _⟩
     .have aD:=A2 u;have r:qu w vb (O ⟨b,ap,I⟩) ((Au 44 s.data.toList).map bu) (pw ⟨pa,pb,pc,pd⟩ 4) (wq.setCell ⟨vb,3,I⟩ (Z G pd)):=f.out.set 3 _ rfl aH.out
      have g:∀j,j<4->ib (E4 (Au 44 s.data.toList) j)=true:=λj hj=>by
       by_cases q:j=3
       .subst q;rw[m.out 3 ao9];show ib pd=true;unfold ib;rw[Az (show(0:Int)<=pd by omega),Az (show pd<=1073741824 by omega)];rfl
       .exact aO.out j ao9
      replace⟨r,g⟩:=H2 r g;go_wp2;go_roundw
      case rel=>exact⟨4,ao9,rfl,g.out,r.out⟩
      case measure=>simp[intOf]
   .have ad:u6=Z G 4:=ao;clear ao;subst ad;have hg:=aQ.out aO.out;have r1:=hM.out.r1;have l:=hM.out.r0;have a0:=Bk r1 0 (Z G pa) rfl;have a1:=Bk r1 1 (Z G pb) rfl;have a2:=Bk r1 2 (Z G pc) rfl;have a3:=Bk r1 3 (Z G pd) rfl;have b0:=Bk l 0 (Z G 0) rfl;have b1:=Bk l 1 (Z G 0) rfl;have b2:=Bk l 2 (Z G 0) rfl;have b3:=Bk l 3 (Z G 0) rfl;have fr:=Ag l
    have he:∀v0 v1 v2 v3,BW w.heap.size w ((((wr.setCell ⟨w.heap.size,0,I⟩ v0).setCell ⟨w.heap.size,1,I⟩ v1).setCell ⟨w.heap.size,2,I⟩ v2).setCell ⟨w.heap.size,3,I⟩ v3):=λv0 v1 v2 v3=>
     (((hM.out.low.setCell Ln _).setCell Ln _).setCell Ln _).setCell Ln _
    replace⟨r1,l,he,hg⟩:=H4 r1 l he hg;go_wp2;refine Al (v:=E #[V4.val ⟨pa,pb,pc,pd⟩,Z G 0]) (by simp[results,results112,go_sem,b0,b1,b2,b3]) rfl ⟨by rw[hg.out],he.out _ _ _ _⟩
 .have a:=Abb (s:=s) (by rw[am];exact h4);have d4:((n:Int) != 4)=true:=by rw[Gh];omega
  have b0:=Bk an 0 (Z G 0) rfl;have b1:=Bk an 1 (Z G 0) rfl;have b2:=Bk an 2 (Z G 0) rfl;have b3:=Bk an 3 (Z G 0) rfl;have fr:=Ag an
  have he:∀v0 v1 v2 v3,BW w.heap.size w ((((w1.setCell ⟨w.heap.size,0,I⟩ v0).setCell ⟨w.heap.size,1,I⟩ v1).setCell ⟨w.heap.size,2,I⟩ v2).setCell ⟨w.heap.size,3,I⟩ v3):=λv0 v1 v2 v3=>
   (((z.setCell Ln _).setCell Ln _).setCell Ln _).setCell Ln _
  replace⟨z,an,aB,aC,aF,am,a,h4⟩:=H8 z an aB aC aF am a h4;replace he:=Hh he;go_wp2;refine Al (v:=E #[V4.zero.val,Z G 11]) (by simp[results,results112,go_sem,b0,b1,b2,b3,V4.zero]) rfl ⟨by rw[a.out],he.out _ _ _ _⟩
structure vz (w:WD) (vb b:Nat) (xs:List ByteArray) (v:V4) (W:WD):Prop where
 low:BW w.heap.size w W
 r0:W.heap[w.heap.size]?=O (J aq.zero.cells 69 (0,0))
 r1:W.heap[vb]?=O (J v.cells 30 (0,0))
 strs:Ej W (O ⟨b,0,I⟩) xs.length xs
 au:∃c,W.heap[b]?=O (J c 9 (0,0))
def vz.below {w W d:WD} {f b:Nat} {xs:List ByteArray} {v:V4} (h:vz w f b xs v W) (a:BW W.heap.size W d):vz w f b xs v d:=by
 obtain⟨c,e⟩:=h.au;exact⟨h.low.trans (a.mono h.low.size),Ae a h.r0 (Ab h.r0),Ae a h.r1 (Ab h.r1),h.strs.low a,c,Ae a e (Ab e)⟩
def Abx  (h:¬J4 s):Jp s=I:=Q2 h
def Aqv (s:ByteArray) (w:WD) (hs:s.size<=4294967200):CS prog 67 #[D s] w (Afy s w):=by
 obtain⟨i9,bj,bB,bd,bv⟩:=Cf Xr;obtain⟨W0,aN⟩:=Ex (w.alloc (J aq.zero.cells 69 (0,0)));have a3:BW w.heap.size w W0:=by rw[aN];exact Bn
 have aU:W0.heap[w.heap.size]?=O (J aq.zero.cells 69 (0,0)):=by rw[aN];exact Ah _ _
 have aD:=Abd s 32 W0 ao9;have ba:(((32:UInt8).toNat:Nat):Int)=32:=rfl;rw[ba]at aD;clear ba;rw[show(Au 32 s.data.toList).map bu=Fp s from rfl]at aD;have aF:∀x,x∈Fp s->x.size<=s.size:=λx hx=>Afx hx;have aE:=Abe s;rw[aN]at aD;have bb:=Hh aN;clear aN;obtain⟨ws,aA⟩:=Ex (Fp s);rw[<-aA]at aD aF aE;have an:=Hh aF;clear aF;replace⟨a3,aU,aD,aE,aA⟩:=H5 a3 aU aD aE aA;go_enter func67,ntmps67;go_wp2_with fail;refine aD.out.mono ?_;rintro e w1 ⟨so,n,c,rfl,bA,t,ad,aC⟩;rw[<-bb.out]at aC ad;have ac:=t.len;have g:=a3.out.trans (aC.mono a3.out.size);have m:=Ae aC aU.out (Ab aU.out);have bx:=t.max;by_cases h3:n<3
 .have d3:decide ((n:Int)<3)=true:=Az ao9
  have f:=Abx λh=>by have:=h.1;rw[<-aA.out]at this;omega
  have b0:=Bk m 0 (D ByteArray.empty) rfl;have b1:=Bk m 1 (Z G 0) rfl;have b2:=Bk m 2 (Z G 0) rfl;have b3:=Bk m 3 (Z G 0) rfl;have b4:=Bk m 4 (Z G 0) rfl;have b5:=Bk m 5 (V I 0 0) rfl;have fr:=Ag m
  have he:∀v0 v1 v2 v3 v4 v5,BW w.heap.size w ((((((w1.setCell ⟨w.heap.size,0,I⟩ v0).setCell ⟨w.heap.size,1,I⟩ v1).setCell ⟨w.heap.size,2,I⟩ v2).setCell ⟨w.heap.size,3,I⟩ v3).setCell ⟨w.heap.size,4,I⟩ v4).setCell ⟨w.heap.size,5,I⟩ v5):=λv0 v1 v2 v3 v4 v5=>
   ((((((g).setCell Ln _).setCell Ln _).setCell Ln _).setCell Ln _).setCell Ln _).setCell Ln _
  replace⟨g,m,t,ad,aC,ac,f,he⟩:=H8 g m t ad aC ac f he;go_wp2;refine Al (v:=E #[aq.zero.val,Z G 50]) (by simp[results,results67,go_sem,b0,b1,b2,b3,b4,b5,aq.zero,V4.zero]<;>rfl) rfl ⟨aq.zero,50,rfl,⟨Sm _,Nat.le_refl _⟩,he.out _ _ _ _ _ _,λb a5 e=>(by cases e),.inl ⟨f.out,rfl,rfl⟩⟩
 have d3:decide ((n:Int)<3)=false:=A2 ao9;obtain⟨x0,aL⟩:=t.get (i:=0) ao9;obtain⟨b,a5,rfl,bg,a0⟩:=t.cell 0 x0 aL;obtain⟨rfl,bp,aO⟩:=ad b a5 rfl;rw[Jo]at a0;have n0:0<n:=ao9
 have aY:iq s 0=x0:=by unfold iq;rw[<-aA.out];simp[List.getD,aL]
 have bn:x0.size<=maxLen:=by have:=an.out x0 (Ai aL);have:maxLen=9223372036854775807:=rfl;omega
 have al:=Afj x0 w1 bn;obtain⟨q0,aT⟩:=Ex (Bu x0);rw[<-aT]at al;replace⟨g,m,t,ad,aC,ac,aL,aO⟩:=H8 g m t ad aC ac aL aO;replace⟨aY,al,aT⟩:=H3 aY al aT;go_wp2_with fail;refine al.out.mono ?_;rintro e w2 ⟨rfl,z⟩;have l:=g.out.trans (z.mono g.out.size);have o:=Ae z m.out (Ab m.out)
 cases q0 with
 | false=>
  have f:=Abx λh=>by have:=h.2.1;rw[aY.out,<-aT.out]at this;cases this
  have b0:=Bk o 0 (D ByteArray.empty) rfl;have b1:=Bk o 1 (Z G 0) rfl;have b2:=Bk o 2 (Z G 0) rfl;have b3:=Bk o 3 (Z G 0) rfl;have b4:=Bk o 4 (Z G 0) rfl;have b5:=Bk o 5 (V I 0 0) rfl;have fr:=Ag o
  have he:∀v0 v1 v2 v3 v4 v5,BW w.heap.size w ((((((w2.setCell ⟨w.heap.size,0,I⟩ v0).setCell ⟨w.heap.size,1,I⟩ v1).setCell ⟨w.heap.size,2,I⟩ v2).setCell ⟨w.heap.size,3,I⟩ v3).setCell ⟨w.heap.size,4,I⟩ v4).setCell ⟨w.heap.size,5,I⟩ v5):=λv0 v1 v2 v3 v4 v5=>
   ((((((l).setCell Ln _).setCell Ln _).setCell Ln _).setCell Ln _).setCell Ln _).setCell Ln _
  replace⟨l,o,z,f,he⟩:=H5 l o z f he;go_wp2;refine Al (v:=E #[aq.zero.val,Z G 50]) (by simp[results,results67,go_sem,b0,b1,b2,b3,b4,b5,aq.zero,V4.zero]<;>rfl) rfl ⟨aq.zero,50,rfl,⟨Sm _,Nat.le_refl _⟩,he.out _ _ _ _ _ _,λb a5 e=>(by cases e),.inl ⟨f.out,rfl,rfl⟩⟩
 | true=>
 obtain⟨x1,aZ⟩:=t.out.get (i:=1) ao9;obtain⟨b',aG,e',_,a1⟩:=t.out.cell 1 x1 aZ;cases e';have c1:=(Af z bg).trans a1;have bC:(1:Int)<n:=ao9
 have a4:iq s 1=x1:=by unfold iq;rw[<-aA.out];simp[List.getD,aZ]
 have bs:=an.out x1 (Ai aZ);have a7:=Aqu x1 w2 ao9;have aV:=t.out.low z;replace⟨l,o,z,aZ,a4,a7,aV⟩:=H7 l o z aZ a4 a7 aV;clear a1;rw[Db]at c1;go_wp2_with fail;refine a7.out.mono ?_;rintro e w3 ⟨rfl,aI⟩;obtain⟨u,hu⟩:∃u:V4,u=(Fo x1).1:=⟨_,rfl⟩;obtain⟨r,hr⟩:∃r:Int,r=(Fo x1).2:=⟨_,rfl⟩;rw[<-hu,<-hr];obtain⟨cb,aQ⟩:=aO.out;have av:=aV.out.low aI;have am:=l.out.trans (aI.mono l.out.size);obtain⟨vb,a9⟩:=Ex (w3.heap.size);have aS:=Ae aI (Ae z.out aQ (Ab aQ)) (Bq (Ab aQ) z.out.size);have aM:vz w vb b ws u (w3.alloc (J u.cells 30 (0,0))):=⟨am.alloc am.size _,Aj _ (Ae aI o.out (Ab o.out)),A6 _ _ a9,by rw[<-av.len]at av;exact av.low Bn,cb,Aj _ aS⟩;have bf:w.heap.size<b:=by have:=Ab aU.out;omega
 have a8:∀w,(Instr.slice 67 (V (O ⟨b,0,I⟩) n c) (O (Z G 2)) I I).run prog w=.ok (V (O ⟨b,2,I⟩) (n-2) (c-2)) w:=by obtain⟨ta,h1,h2⟩:=Si Tz bj b n c 2 2 rfl ao9;have h3:=h2 ao9;rw[bd,Sh]at h3;subst h3;exact h1
 have bc:=Hh a8;clear a8 c1 a0;replace⟨aI,hu,hr,aQ,av,am,aS,aM⟩:=H8 aI hu hr aQ av am aS aM;have a6:=Hh a9;rw[a6.out]at aM;go_wp2;rw[<-a6.out]at aM ⊢;clear a9;go_loopw [6,7,8] (λev i _ wr=>∃(k:Nat) (E9q:Int),ev=Z G E9q/\i=Z G k/\2<=k/\k<=n/\Hid (E9q=0↔(r=0/\∀j x,2<=j->j<k->ws[j]?=O x->Bu x=true))/\Hid (vz w vb b ws u wr)) (λ_ i _ _=>n-(intOf i).toNat)
 case atStart=>exact⟨2,r,rfl,rfl,ao9,ao9,⟨λh=>⟨h,λj x h1 h2=>by omega⟩,λh=>h.1⟩,aM.out⟩
 case round=>
  obtain⟨k,E9q,rfl,rfl,bk,hk,hE,hM⟩:=hrel;by_cases hc:k<n
  .have bi:(k:Int)<n:=ao9;have bw:(0:Int)<=(k:Int):=ao9;have ap:=ac.out;obtain⟨y,hy⟩:=hM.out.strs.get (i:=k) ao9;obtain⟨b',aG,e',bl,a0⟩:=hM.out.strs.cell k y hy;cases e';rw[Db]at a0;have bo:y.size<=maxLen:=(by have:=an.out y (Ai hy);have:maxLen=9223372036854775807:=rfl;omega);have al:=Afj y wr bo;obtain⟨q,hq⟩:=Ex (Bu y);rw[<-hq]at al;replace⟨al,hq,hy,ap⟩:=H4 al hq hy ap;go_wp2_with fail;refine al.out.mono ?_;rintro e wq ⟨rfl,aP⟩;have aH:=hM.out.below aP
   cases q with
   | true=>
    have aB:E9q=0↔(r=0/\∀j x,2<=j->j<k+1->ws[j]?=O x->Bu x=true):=by
     rw[hE.out];refine⟨λh=>⟨h.1,λj x h1 h2 h3=>?_⟩,λh=>⟨h.1,λj x h1 h2 h3=>h.2 j x h1 ao9 h3⟩⟩;by_cases cc:j=k
     .subst cc;rw[hy.out]at h3;cases h3;exact hq.out.symm
     .exact h.2 j x h1 ao9 h3
    replace⟨aH,aB,aP⟩:=H3 aH aB aP;go_wp2;go_roundw
    case rel=>exact⟨k+1,E9q,rfl,by go_num,ao9,ao9,aB.out,aH.out⟩
    case measure=>simp[intOf];omega
   | false=>
    have aB:(50:Int)=0↔(r=0/\∀j x,2<=j->j<k+1->ws[j]?=O x->Bu x=true):=(by refine⟨λh=>absurd h ad9,λh=>?_⟩;have:=h.2 k y bk ao9 hy.out;rw[<-hq.out]at this;cases this);replace⟨aH,aB,aP⟩:=H3 aH aB aP;go_wp2;go_roundw
    case rel=>exact⟨k+1,50,rfl,by go_num,ao9,ao9,aB.out,aH.out⟩
    case measure=>simp[intOf];omega
  .have bi:¬(k:Int)<n:=ao9;have ap:=ac.out
   have aK:E9q=0↔J4 s:=by
    rw[hE.out];unfold J4;rw[<-aA.out,aY.out,a4.out,<-hr.out];refine⟨λh=>⟨ao9,aT.out.symm,λp hp=>?_,h.1⟩,λh=>⟨h.2.2.2,λj x h1 h2 h3=>h.2.2.1 x ?_⟩⟩
    .obtain ⟨j,hj,e⟩:=Aaq hp;rw[Iw]at hj;rw[List.getElem_drop]at e;exact h.2 (2+j) p ao9 ao9 (by rw[A3 ao9,e])
    .have h4:(ws.drop 2)[j-2]?=O x:=(by rw[Om,show 2+(j-2)=j by omega];exact h3);exact Ai h4
   have r0:=hM.out.r0;have b0:=Bk r0 0 (D ByteArray.empty) rfl;have b1:=Bk r0 1 (Z G 0) rfl;have b2:=Bk r0 2 (Z G 0) rfl;have b3:=Bk r0 3 (Z G 0) rfl;have b4:=Bk r0 4 (Z G 0) rfl;have b5:=Bk r0 5 (V I 0 0) rfl;have fr:=Ag r0;by_cases ao:E9q=0
   .have dE:(E9q != 0)=false:=(by simp[ao]);have a2:=aK.1 ao;have hz:=Xs a2;obtain⟨b',aG,e',bl,a0⟩:=hM.out.strs.cell 0 x0 aL.out;cases e';rw[Jo]at a0;have r1:=hM.out.r1;have bD:=Bk r1 0 (Z G u.a) rfl;have bE:=Bk r1 1 (Z G u.b) rfl;have bF:=Bk r1 2 (Z G u.c) rfl;have bG:=Bk r1 3 (Z G u.d) rfl;have a8:=bc.out;obtain⟨be,aR⟩:=hM.out.au
    have ak:∀v0 v1 v2 v3 v4 v5,((((((wr.setCell ⟨w.heap.size,0,I⟩ v0).setCell ⟨w.heap.size,1,I⟩ v1).setCell ⟨w.heap.size,2,I⟩ v2).setCell ⟨w.heap.size,3,I⟩ v3).setCell ⟨w.heap.size,4,I⟩ v4).setCell ⟨w.heap.size,5,I⟩ v5).heap[b]?=wr.heap[b]?:=λv0 v1 v2 v3 v4 v5=>by
     have aJ:b≠w.heap.size:=ao9;rw[Fd aJ,Fd aJ,Fd aJ,Fd aJ,Fd aJ,Fd aJ]
    have aX:∀v0 v1 v2 v3 v4 v5,((((((wr.setCell ⟨w.heap.size,0,I⟩ v0).setCell ⟨w.heap.size,1,I⟩ v1).setCell ⟨w.heap.size,2,I⟩ v2).setCell ⟨w.heap.size,3,I⟩ v3).setCell ⟨w.heap.size,4,I⟩ v4).setCell ⟨w.heap.size,5,I⟩ v5).heap.size=wr.heap.size:=λv0 v1 v2 v3 v4 v5=>by simp[World.setCell]
    have he:∀v0 v1 v2 v3 v4 v5,BW w.heap.size w ((((((wr.setCell ⟨w.heap.size,0,I⟩ v0).setCell ⟨w.heap.size,1,I⟩ v1).setCell ⟨w.heap.size,2,I⟩ v2).setCell ⟨w.heap.size,3,I⟩ v3).setCell ⟨w.heap.size,4,I⟩ v4).setCell ⟨w.heap.size,5,I⟩ v5):=λv0 v1 v2 v3 v4 v5=>
     ((((((hM.out.low).setCell Ln _).setCell Ln _).setCell Ln _).setCell Ln _).setCell Ln _).setCell Ln _
    have aW:=hM.out.strs.sub 2 ao9;replace⟨ak,aX,he,r1,r0,aR,aK,a2⟩:=H8 ak aX he r1 r0 aR aK a2;replace⟨hz,ao,ap,aW⟩:=H4 hz ao ap aW;go_upto_region 13 with fail;go_still_tail 7,(by kernel_rfl);change wpList _ _ _ _ _ wr.drew;go_wp2;refine Al (v:=E #[(⟨x0,u,O ⟨b,2,I⟩,n-2,c-2,ws.drop 2⟩:aq).val,Z G 0]) (by simp[results,results67,go_sem,b0,b1,b2,b3,b4,b5]) rfl ⟨⟨x0,u,O ⟨b,2,I⟩,n-2,c-2,ws.drop 2⟩,0,rfl,?_⟩;have hX:=ak.out (D x0) (Z G u.a) (Z G u.b) (Z G u.c) (Z G u.d) (V (O ⟨b,2,I⟩) (n-2) (c-2));have hY:=aX.out (D x0) (Z G u.a) (Z G u.b) (Z G u.c) (Z G u.d) (V (O ⟨b,2,I⟩) (n-2) (c-2));have hZ:=he.out (D x0) (Z G u.a) (Z G u.b) (Z G u.c) (Z G u.d) (V (O ⟨b,2,I⟩) (n-2) (c-2));generalize (((((wr.setCell ⟨w.heap.size,0,I⟩ (D x0)).setCell ⟨w.heap.size,1,I⟩ (Z G u.a)).setCell ⟨w.heap.size,2,I⟩ (Z G u.b)).setCell ⟨w.heap.size,3,I⟩ (Z G u.c)).setCell ⟨w.heap.size,4,I⟩ (Z G u.d)).setCell ⟨w.heap.size,5,I⟩ (V (O ⟨b,2,I⟩) (n-2) (c-2))=X at hX hY hZ ⊢
    have hS:Ej X (O ⟨b,2,I⟩) (n-2) (ws.drop 2):=by
     have h:=aW.out;rw[Db,ap.out]at h
     exact Oy h ao9 λb' aG e' _=>by cases e';exact hX
    refine⟨⟨⟨hS.len,hS.max,hS.cell⟩,by show n-2<=c-2;omega⟩,hZ.drew,λb' aG e'=>?_,.inr ⟨?_,rfl⟩⟩
    .have e2:b=b':=(by injection e' with e';injection e' with e');subst e2;exact⟨ao9,be,hX.trans aR.out⟩
    .rw [hz.out,aY.out,a4.out,<-hu.out,<-aA.out];rfl
   .have dE:(E9q != 0)=true:=(by simp[ao]);have f:=Abx λh=>ao (aK.2 h)
    have he:∀v0 v1 v2 v3 v4 v5,BW w.heap.size w ((((((wr.setCell ⟨w.heap.size,0,I⟩ v0).setCell ⟨w.heap.size,1,I⟩ v1).setCell ⟨w.heap.size,2,I⟩ v2).setCell ⟨w.heap.size,3,I⟩ v3).setCell ⟨w.heap.size,4,I⟩ v4).setCell ⟨w.heap.size,5,I⟩ v5):=λv0 v1 v2 v3 v4 v5=>
     ((((((hM.out.low).setCell Ln _).setCell Ln _).setCell Ln _).setCell Ln _).setCell Ln _).setCell Ln _
    replace⟨r0,f,he,aK,ao,ap⟩:=H6 r0 f he aK ao ap;go_wp2;refine Al (v:=E #[aq.zero.val,Z G 50]) (by simp[results,results67,go_sem,b0,b1,b2,b3,b4,b5,aq.zero,V4.zero]<;>rfl) rfl ⟨aq.zero,50,rfl,⟨Sm _,Nat.le_refl _⟩,he.out _ _ _ _ _ _,λb a5 e=>(by cases e),.inl ⟨f.out,rfl,rfl⟩⟩
def Agw (a b:List (List UInt8)) (n:Nat):D6 n (a++b)=D6 n a++D6 (n+a.length) b:=by
 induction a generalizing n with
 | nil=>simp[D6]
 | cons p a ih=>
  simp only[Pt,D6,Jl];rw[ih,show n+1+a.length=n+(a.length+1) by omega]
  split<;>simp
def Agx {a:List (List UInt8)}  {p:List UInt8} (h:a[k]?=O p):D6 0 (a.take (k+1))=D6 0 (a.take k)++(if L7 p=true then[(((k:Int)+1),bu p)]else[]):=by
 have b:=(An.1 h).1;rw[Jq h,Agw,Fl,Mu ao9,Db];simp only[D6]
def Aqw (a:List (List UInt8)) (k:Nat):D6 0 a=D6 0 (a.take k)++D6 (0+(a.take k).length) (a.drop k):=by
 rw[<-Agw,Mn]
def fw (s:ByteArray) (k:Nat):List ar×Int×Int:=Bo [] (D6 0 ((Au 10 s.data.toList).take k))
def Agy   (h:(fw s k).2.1≠0):Bo [] (Gi s)=fw s k:=by
 unfold Gi;rw[Aqw _ k,Af8 _ _ _ h];rfl
def Aqx   (h:(Au 10 s.data.toList).length<=k):Bo [] (Gi s)=fw s k:=by
 unfold Gi fw;rw[C4 h]
def Yc   {p:List UInt8} (h:(Au 10 s.data.toList)[k]?=O p) (a:L7 p=false):fw s (k+1)=fw s k:=by
 unfold fw;rw[Agx h,Ac (by rw[a];simp),Nv]
def Aqy   {p:List UInt8} (h:(Au 10 s.data.toList)[k]?=O p) (a:L7 p=true) (h0:(fw s k).2.1=0):fw s (k+1)=Bo (fw s k).1 [(((k:Int)+1),bu p)]:=by
 unfold fw at h0 ⊢;rw[Agx h,Ad a,X3 _ _ _ h0]
structure sh (w:WD) (b:Nat) (ls:List ByteArray) (vs:List ar) (nv:VL) (xs:List aq) (W:WD):Prop where
 low:BW w.heap.size w W
 res:W.heap[w.heap.size]?=O (J #[V I 0 0] 54 (0,0))
 f:W.heap[w.heap.size+1]?=O (J #[nv] 54 (0,0))
 row:iz W (w.heap.size+2) nv xs
 fi:xs.map aq.pl=vs
 po:∀x,x∈xs->∀b off,x.po=O ⟨b,off,I⟩->w.heap.size+2<=b
 strs:Ej W (O ⟨b,0,I⟩) ls.length ls
 au:∃c,W.heap[b]?=O (J c 9 (0,0))
 xy:w.heap.size+2<=b
def sh.below {w W d:WD} {b:Nat} {g:List ByteArray}  {i:VL} {xs:List aq} (h:sh w b g vs i xs W) (a:BW W.heap.size W d):sh w b g vs i xs d:=by
 obtain⟨c,e⟩:=h.au;exact⟨h.low.trans (a.mono h.low.size),Ae a h.res (Ab h.res),Ae a h.f (Ab h.f),h.row.below a,h.fi,h.po,h.strs.low a,⟨c,Ae a e (Ab e)⟩,h.xy⟩
def Yd (s:ByteArray) (w:WD) (e:Ending) (w':WD):Prop:=
 ∃nv xs,e=Y (E #[.agg #[nv],Z G (E5 s).2.1,Z G (E5 s).2.2])/\BW w.heap.size w w'/\iz w' w.heap.size nv xs/\((E5 s).2.1=0->xs.map aq.pl=(E5 s).1)
def Q5 (w:WD) (B:Nat):iz w B (V I 0 0) []:=⟨⟨rfl,.inl ⟨rfl,rfl⟩⟩,λx h=>(by cases h)⟩
def Q6  {B b o:Nat} {y v:VL} {xs:List aq} {c:Array VL} {T:TypeId} {fr:Nat×Nat} (h:iz W B y xs) (hb:W.heap[b]?=O (J c T fr)) (q:T≠69) (z:T≠9):iz (W.setCell ⟨b,o,I⟩ v) B y xs:=by
 have j:∀(k:Nat) (m:Array VL) (l:TypeId) (i:Nat×Nat),l≠T->W.heap[k]?=O (J m l i)->(W.setCell ⟨b,o,I⟩ v).heap[k]?=O (J m l i):=λk m l i s d=>
  Dn (λe=>by rw[e,hb]at d;injection d with d;injection d with _ d;exact s d.symm) _ d
 refine⟨⟨h.row.1,?_⟩,λx t=>?_⟩
 .rcases h.row.2 with h|⟨g,cap,n,hv,r,hh,hr⟩
  .exact .inl h
  .exact .inr ⟨g,cap,n,hv,r,j _ _ _ _ (λe=>q e.symm) hh,hr⟩
 .have d:∀f a,x.po=O ⟨f,a,I⟩->∃c,W.heap[f]?=O (J c 9 (0,0))/\(W.setCell ⟨b,o,I⟩ v).heap[f]?=O (J c 9 (0,0)):=λf a e=>by
   obtain⟨c,u⟩:=(h.ok x t).2 f a e;exact⟨c,u,j _ _ _ _ (λe=>z e.symm) u⟩
  refine⟨⟨Oy (h.ok x t).1.parts (by simp[World.setCell]) λf a e _=>?_,(h.ok x t).1.lr⟩,λf a e=>?_⟩
  .obtain ⟨c,h1,p⟩:=d f a e;rw[h1,p]
  .obtain ⟨c,_,p⟩:=d f a e;exact⟨c,p⟩
def Aqz  {B B':Nat} {a:VL} {xs:List aq} (h:iz w B a xs) (b:B'<=B):iz w B' a xs:=⟨Abu h.row b,h.ok⟩
def Aq0 (s:ByteArray) (w:WD) (b:4096<s.size):CS prog 35 #[D s] w (Yd s w):=by
 have a:E5 s=([],2,0):=Ad b;have c:decide ((4096:Int)<s.size)=true:=Az ao9;replace a:=Hh a;go_enter func35,ntmps35;go_wp2;refine Al (v:=E #[.agg #[V I 0 0],Z G 2,Z G 0]) (by simp[results,results35,go_sem]) rfl ?_;refine⟨V I 0 0,[],by rw[a.out],?_,Q5 _ _,λh=>by rw[a.out]at h;cases h⟩;exact Bn.alloc as9 _
def Aq1 {a:List ByteArray}  (h:s∈a) (k:Nat):0<=J6 a s k:=by
 induction a generalizing k with
 | nil=>cases h
 | cons n a ih=>
  simp only[J6];split
  .omega
  .next hne=>
   refine ih ?_ _;rcases Fm.1 h with h|h
   .exact absurd h.symm hne
   .exact h
def Aq2 {w d g:WD} {b m:Nat} {ls:List ByteArray}  {nv j:VL} {xs:List aq} {x:aq} (h:sh w b ls vs nv xs d) (hx:x.ok d) (hp:L6 d x) (ac:∀b a,x.po=O ⟨b,a,I⟩->w.heap.size+2<=b) (hm:m=xs.length)
  (hg:(d.alloc (J x.cells 69 (0,0))).grownBy g nv.ownBlock) (ho:g.ownsRow (w.heap.size+2) 69 6 j (m+1) (Aw aq.cells xs++x.cells.toList)):sh w b ls (vs++[x.pl]) j (xs++[x]) (g.setCell ⟨w.heap.size+1,0,I⟩ j):=by
 have ao:d.heap.size+1<=g.heap.size:=by have:=hg.size;rwa [J0]at this
 have n:∀k,nv.ownBlock=O k->w.heap.size+2<=k/\∃t,d.heap[k]?=O (J t 69 (0,0)):=λk e=>⟨(h.row.row.lt k e).1,Abi h.row.row e⟩
 have o:∀(k:Nat) (c:Array VL) (T:TypeId) (fr:Nat×Nat),T≠69->d.heap[k]?=O (J c T fr)->g.heap[k]?=O (J c T fr):=λk c T fr hT hk=>
  (hg.block k (by have:=Ab hk;rw[J0];omega) (λe=>by
   obtain⟨_,t,r⟩:=n k e.symm;rw[hk]at r;injection r with r;injection r with _ r
   exact hT r)).trans (Aj _ hk)
 have z:=o _ _ _ _ ad9 h.f;have q:∀(k:Nat) (c:Array VL) (T:TypeId) (fr:Nat×Nat),T≠69->k≠w.heap.size+1->d.heap[k]?=O (J c T fr)->(g.setCell ⟨w.heap.size+1,0,I⟩ j).heap[k]?=O (J c T fr):=λk c T fr hT al hk=>Dn al _ (o k c T fr hT hk)
 have ad:d.heap.size<=(g.setCell ⟨w.heap.size+1,0,I⟩ j).heap.size:=by
  have:(g.setCell ⟨w.heap.size+1,0,I⟩ j).heap.size=g.heap.size:=by simp[World.setCell]
  omega
 have i:∀y:aq,y.ok d->L6 d y->(∀b a,y.po=O ⟨b,a,I⟩->w.heap.size+2<=b)->y.ok (g.setCell ⟨w.heap.size+1,0,I⟩ j)/\L6 (g.setCell ⟨w.heap.size+1,0,I⟩ j) y:=λy s an am=>by
  have k2:∀b a,y.po=O ⟨b,a,I⟩->∃c,d.heap[b]?=O (J c 9 (0,0))/\(g.setCell ⟨w.heap.size+1,0,I⟩ j).heap[b]?=O (J c 9 (0,0)):=λb a e=>by
   obtain⟨c,v⟩:=an b a e;have:=am b a e;exact⟨c,v,q b _ _ _ ad9 ao9 v⟩
  refine⟨⟨Oy s.parts ad λb a e _=>?_,s.lr⟩,λb a e=>?_⟩
  .obtain ⟨c,h1,h2⟩:=k2 b a e;rw[h1,h2]
  .obtain ⟨c,_,h2⟩:=k2 b a e;exact⟨c,h2⟩
 have p:=(h.low.alloc h.low.size _).grown hg (by have:=h.low.size;rw[J0];omega) (λk e=>by have:=(n k e).1;omega);obtain⟨c,v⟩:=h.au;have u:=q b _ _ _ ad9 (by have:=h.xy;omega) v;refine⟨p.setCell (D5 _) _,q _ _ _ _ ad9 ao9 h.res,by rw[Ap z];rfl,⟨?_,λy s=>?_⟩,by rw[Dk,h.fi];rfl,λy s=>?_,?_,⟨c,u⟩,h.xy⟩
 .rw [Ox,Q3,Cn,<-hm];exact Af5 ho z ad9 0 j
 .rcases Dl.1 s with l|l
  .exact i y (h.row.ok y l).1 (h.row.ok y l).2 (h.po y l)
  .have:y=x:=by simpa using l
   subst this;exact i y hx hp ac
 .rcases Dl.1 s with l|l
  .exact h.po y l
  .have:y=x:=by simpa using l
   subst this;exact ac
 .exact Oy h.strs ad λb' a e _=>by cases e;rw[u,v]
def Aq3 (s:ByteArray) (w:WD) (hs:¬4096<s.size):CS prog 35 #[D s] w (Yd s w):=by
 have hr:E5 s=Bo [] (Gi s):=Ac hs;have d1:decide ((4096:Int)<s.size)=false:=A2 ao9;obtain⟨b2,bV,bX,bP,bQ⟩:=Cf Af2;obtain⟨W0,aT⟩:=Ex ((w.alloc (J #[V I 0 0] 54 (0,0))).alloc (J #[V I 0 0] 54 (0,0)));have bx:BW w.heap.size w W0:=by rw[aT];exact Bn.alloc as9 _
 have bB:W0.heap[w.heap.size]?=O (J #[V I 0 0] 54 (0,0)):=by rw[aT];exact Aj _ (Ah _ _)
 have bC:W0.heap[w.heap.size+1]?=O (J #[V I 0 0] 54 (0,0)):=by rw[aT];exact A6 _ _ as9
 have bO:W0.heap.size=w.heap.size+2:=by rw[aT];simp
 have bg:=Abd s 10 W0 ao9;have bR:(((10:UInt8).toNat:Nat):Int)=10:=rfl;rw[bR]at bg;clear bR;rw[aT]at bg;have bT:=Hh aT;clear aT;replace⟨bx,bB,bC,bg,hr,bO⟩:=H6 bx bB bC bg hr bO;go_enter func35,ntmps35;go_wp2_with fail;refine bg.out.mono ?_;rintro e w1 ⟨so,n,c,rfl,cj,a3,a6,a8⟩;rw[<-bT.out]at a8 a6;have aE:=a3.len;have b7:1<=n:=by rw[<-aE,Ar];exact Abc _ _
 obtain⟨y0,bN⟩:=a3.get (i:=0) ao9;obtain⟨b,aK,rfl,ce,_⟩:=a3.cell 0 y0 bN;obtain⟨rfl,b4,bf⟩:=a6 b aK rfl;have aW:=bx.out.trans (a8.mono bx.out.size);have ci:=a3.max
 have bH:sh w b ((Au 10 s.data.toList).map bu) (fw s 0).1 (V I 0 0) [] w1:=
  ⟨aW,Ae a8 bB.out (Ab bB.out),Ae a8 bC.out (Ab bC.out),Q5 _ _,rfl,λx h=>(by cases h),by rw[aE];exact a3,bf,by have:=bO.out;omega⟩
 replace⟨a3,a6,a8,aE,aW,bf,bN,bH⟩:=H8 a3 a6 a8 aE aW bf bN bH;go_wp2;go_loopw [7,8,9] (λi _ _ wr=>∃(k:Nat) (nv:VL) (xs:List aq),i=Z G k/\k<=n/\Hid ((fw s k).2.1=0)/\Hid (sh w b ((Au 10 s.data.toList).map bu) (fw s k).1 nv xs wr)) (λi _ _ _=>n-(intOf i).toNat)
 case atStart=>exact⟨0,V I 0 0,[],rfl,ao9,rfl,bH.out⟩
 case round=>
  obtain⟨k,nv,xs,rfl,hk,bj,hM⟩:=hrel;by_cases hc:k<n
  .have bZ:(k:Int)<n:=ao9;have cf:(0:Int)<=(k:Int):=ao9;have aV:=aE.out;rw[Ar]at aV;obtain⟨p,hp⟩:=Ge ((Au 10 s.data.toList)) k ao9;have bM:((Au 10 s.data.toList).map bu)[k]?=O (bu p):=(by rw[A7,hp];rfl);obtain⟨b',b9,e',ch,a0⟩:=hM.out.strs.cell k _ bM;cases e';rw[Db]at a0;have ck:p.length<=s.size:=(by have:=Xt (Ai hp);rw[<-Q0 s];exact this);replace⟨aV,hp,bM⟩:=H3 aV hp bM;by_cases aI:p=[]
   .have ad:L7 p=false:=(by rw[aI];rfl);have em:(bu p).toList.isEmpty=true:=(by rw[Sn,aI];rfl);replace⟨ad,aI⟩:=H2 ad aI;have aS:sh w b ((Au 10 s.data.toList).map bu) (fw s (k+1)).1 nv xs wr:=(by rw[Yc hp.out ad.out];exact hM.out);have t:(fw s (k+1)).2.1=0:=(by rw[Yc hp.out ad.out];exact bj.out);replace⟨aS,t⟩:=H2 aS t;go_wp2;go_roundw
    case rel=>exact⟨k+1,nv,xs,by go_num,ao9,t.out,aS.out⟩
    case measure=>simp[intOf];omega
   obtain⟨x,hx⟩:=Ex (el (bu p) 0);have bL:=Wm.2 aI
   have em:(bu p).toList.isEmpty=false:=by rw[Sn];cases p with|nil=>exact absurd rfl aI|cons c a=>rfl
   have bi:∀w,(Instr.index 9 (D (bu p)) (Z G 0)).run prog w=.ok (Z .u8 x) w:=λw=>by
    rw[hx];exact Qz Ev (bu p) 0 0 rfl (by rw[L4];exact bL) w
   have aF:L7 p=decide (x≠35):=by
    rw[hx]
    cases p with
    | nil=>exact absurd rfl aI
    | cons c a=>
     have b0:el (bu (c :: a)) 0=(c.toNat:Int):=(by unfold el;rw[My];rfl);rw[b0];unfold L7;refine Aa1.2 (not_congr ⟨λh=>by rw[h];rfl,λh=>Aa5.1 (by have:(35:UInt8).toNat=35:=rfl;omega)⟩)
   have bD:=Hh bi;clear bi;replace⟨aI,hx,bL⟩:=H3 aI hx bL;by_cases aL:x=35
   .have ad:L7 p=false:=(by rw[aF,A2 (by simp[aL])]);have bY:(x == 35)=true:=(by simp[aL]);have bi:=bD.out;replace⟨ad,aL,aF⟩:=H3 ad aL aF;have aS:sh w b ((Au 10 s.data.toList).map bu) (fw s (k+1)).1 nv xs wr:=(by rw[Yc hp.out ad.out];exact hM.out);have t:(fw s (k+1)).2.1=0:=(by rw[Yc hp.out ad.out];exact bj.out);replace⟨aS,t⟩:=H2 aS t;go_wp2;go_roundw
    case rel=>exact⟨k+1,nv,xs,by go_num,ao9,t.out,aS.out⟩
    case measure=>simp[intOf];omega
   have ad:L7 p=true:=(by rw[aF,Az aL]);have bY:(x == 35)=false:=(by simp[aL]);have bi:=bD.out;have aB:=Aqy hp.out ad bj.out;have aY:=Aqv (bu p) wr (by rw[L4];omega);replace⟨ad,aL,aF,aB,aY⟩:=H5 ad aL aF aB aY;go_wp2_with fail;refine aY.out.mono ?_;rintro e w2 ⟨x5,r,rfl,aR,aO,a9,bJ⟩;have z:=hM.out.below aO;clear bi;have aA:Jr (fw s k).1:=Abq _ _ X8;rcases bJ with⟨aZ,rfl,rfl⟩|⟨aJ,rfl⟩
   .have an:fw s (k+1)=((fw s k).1,50,(k:Int)+1):=(by rw[aB.out,Af9 aZ]);have l:E5 s=((fw s k).1,50,(k:Int)+1):=(by rw[hr.out,Agy (k:=k+1) (by rw[an];show(50:Int)≠0;decide),an]);have r0:=Bk z.res 0 (V I 0 0) rfl;have fr:=Ag z.res;have b5:=Ab z.res;have d:BW w.heap.size w ((w2.setCell ⟨w.heap.size,0,I⟩ (V I 0 0)).alloc (J aq.zero.cells 69 (0,0))):=(z.low.setCell Ln _).alloc (z.low.setCell Ln _).size _;have rE:((w2.setCell ⟨w.heap.size,0,I⟩ (V I 0 0)).alloc (J aq.zero.cells 69 (0,0))).cell? ⟨w.heap.size,0,I⟩=O (V I 0 0):=Aa (Aj _ (Ap z.res 0 (V I 0 0))) 0;have b3:=Hh rE;clear rE;replace⟨z,aO,a9,aR,aZ,an,l,aA⟩:=H8 z aO a9 aR aZ an l aA;replace d:=Hh d;go_wp2
    try rw[Jm]
    have rE:=b3.out;refine Al (v:=E #[.agg #[V I 0 0],Z G 50,Z G ((k:Int)+1)]) (by simp[results,results35,go_sem,rE]) rfl ?_;refine⟨V I 0 0,[],by rw[l.out],d.out,Q5 _ _,λh=>?_⟩;rw[l.out]at h;exact absurd h (by show(50:Int)≠0;decide)
   .have b8:xs.length<=16:=(by have:=aA.len;rw[<-z.fi,Ar]at this;exact this);have av:xs.map aq.name=(fw s k).1.map ar.name:=(by rw[<-z.fi,Dm];rfl);have a7:xs.length=(fw s k).1.length:=(by rw[<-z.fi,Ar]);obtain⟨W3,bd⟩:=Ex (w2.alloc (J x5.cells 69 (0,0)));have aC:BW w2.heap.size w2 W3:=(by rw[bd];exact Bn);have bb:=z.below aC;have aP:=aR.low aC
    have bl:L6 W3 x5:=λb aK e=>by
     obtain⟨_,c,hc⟩:=a9 b aK e;exact⟨c,Ae aC hc (Ab hc)⟩
    have bp:∀b aK,x5.po=O ⟨b,aK,I⟩->w.heap.size+2<=b:=λb aK e=>by
     have:=(a9 b aK e).1;have:=hM.out.low.size;have:=Ab hM.out.f;omega
    have bA:=aP.parts.len;have bv:W3.heap[w2.heap.size]?=O (J x5.cells 69 (0,0)):=(by rw[bd];exact Ah _ _);have aN:=Aqp W3 (w.heap.size+2) nv xs x5.name bb.row ao9;have f1:=Bk bb.f 0 nv rfl;have z0:=Bk bv 0 (D x5.name) rfl;obtain⟨E9q,hE⟩:=Ex (Dv ((fw s k).1.map ar.name) (fw s k).1.length x5.name x5.parts)
    have ac:E9q≠0->E5 s=((fw s k).1,E9q,(k:Int)+1):=λbK=>by
     have an:fw s (k+1)=((fw s k).1,E9q,(k:Int)+1):=(by rw[aB.out,Agb aJ (by rw[hE]at bK;exact bK),hE];rfl);rw[hr.out,Agy (k:=k+1) (by rw[an];exact bK),an]
    obtain⟨I9q,hI⟩:=Ex (J6 (xs.map aq.name) x5.name 0);rw[<-hI]at aN;obtain⟨nm,⟨ca,cb,cc,cd⟩,po,pn,pc,ps⟩:=x5;rw[bd]at aN f1 z0;have bU:=Hh bd;clear bd;replace⟨z,aO,a9,aR,aA,a7,av,aC⟩:=H8 z aO a9 aR aA a7 av aC;replace⟨bb,aP,bl,bp,bv,aN,hE,ac⟩:=H8 bb aP bl bp bv aN hE ac;replace⟨hI,aJ,bA⟩:=H3 hI aJ bA;go_wp2_with fail;refine aN.out.mono ?_;rintro e w4 ⟨rfl,aD⟩;rw[<-bU.out]at aD;have aM:=bb.out.below aD;have r0:=Bk aM.res 0 (V I 0 0) rfl;have fr:=Ag aM.res;clear f1 z0;by_cases al:nm∈xs.map aq.name
    .have bF:0<=I9q:=(by rw[hI.out];exact Aq1 al 0);have dI:=Az bF;have y:E9q=51:=(by rw[hE.out];unfold Dv;rw[Ad (Oz.2 (by rw[<-av.out];exact al))]);have l:=ac.out (by rw[y];decide);rw[y]at l;have d:BW w.heap.size w (w4.setCell ⟨w.heap.size,0,I⟩ (V I 0 0)):=aM.low.setCell Ln _;replace⟨aM,aD,al,y,l,d,bF⟩:=H7 aM aD al y l d bF;go_wp2
     try rw[Jm]
     refine Al (v:=E #[.agg #[V I 0 0],Z G 51,Z G ((k:Int)+1)]) (by simp[results,results35,go_sem,r0]) rfl ?_;refine⟨V I 0 0,[],by rw[l.out],d.out,Q5 _ _,λh=>?_⟩;rw[l.out]at h;exact absurd h (by show(51:Int)≠0;decide)
    have bG:I9q=-1:=(by rw[hI.out];exact Aqm al 0);have dI:decide ((0:Int)<=-1)=false:=ad9;rw[bG];have aQ:=Ae aD bv.out (Ab bv.out);have z5:=Bk aQ 5 (V po pn pc) rfl;have bs:=Aqo po pn pc ps w4 (aP.out.low aD).parts;obtain⟨T,hT⟩:=Ex (Mz ps);unfold Agr at bs;rw[<-hT]at bs;replace⟨aM,aD,al,bG,aQ,bs,hT⟩:=H7 aM aD al bG aQ bs hT;go_wp2_with fail;refine bs.out.mono ?_;rintro e w5 ⟨rfl,am⟩;have q:=aM.out.below am;have o:=Ae am aQ.out (Ab aQ.out);clear r0 fr z5;have r0:=Bk q.res 0 (V I 0 0) rfl;have f1:=Bk q.f 0 nv rfl;have z0:=Bk o 0 (D nm) rfl;have z1:=Bk o 1 (Z G ca) rfl;have z2:=Bk o 2 (Z G cb) rfl;have z3:=Bk o 3 (Z G cc) rfl;have z4:=Bk o 4 (Z G cd) rfl;have z5:=Bk o 5 (V po pn pc) rfl;have fr:=Ag q.res;have ao:¬Gx ((fw s k).1.map ar.name) nm=true:=λc=>al.out (by rw[av.out];exact Oz.1 c);have d:BW w.heap.size w (w5.setCell ⟨w.heap.size,0,I⟩ (V I 0 0)):=q.low.setCell Ln _
    cases T with
    | true=>
     have y:E9q=51:=(by rw[hE.out];unfold Dv;rw[Ac ao,Ad hT.out.symm]);have l:=ac.out (by rw[y];decide);rw[y]at l;replace⟨q,am,o,y,l,d,ao⟩:=H7 q am o y l d ao;go_wp2
     try rw[Jm]
     refine Al (v:=E #[.agg #[V I 0 0],Z G 51,Z G ((k:Int)+1)]) (by simp[results,results35,go_sem,r0]) rfl ?_;refine⟨V I 0 0,[],by rw[l.out],d.out,Q5 _ _,λh=>?_⟩;rw[l.out]at h;exact absurd h (by show(51:Int)≠0;decide)
    | false=>
     have bW:=Abt q.row;obtain⟨m,hm⟩:=Ex (xs.length);rw[<-hm]at bW;by_cases q1:16<=m
     .have d5:decide ((16:Int)<=m)=true:=Az ao9;have aG:E9q=2:=(by rw[hE.out];unfold Dv;rw[Ac ao,Ac (by rw[<-hT.out];simp),Ad (.inl (by rw[<-a7.out,<-hm];exact q1))]);have l:=ac.out (by rw[aG];decide);rw[aG]at l;replace⟨q,am,o,aG,l,d,ao,hm⟩:=H8 q am o aG l d ao hm;go_wp2
      try rw[Jm]
      refine Al (v:=E #[.agg #[V I 0 0],Z G 2,Z G ((k:Int)+1)]) (by simp[results,results35,go_sem,r0]) rfl ?_;refine⟨V I 0 0,[],by rw[l.out],d.out,Q5 _ _,λh=>?_⟩;rw[l.out]at h;exact absurd h (by show(2:Int)≠0;decide)
     have d5:decide ((16:Int)<=m)=false:=A2 ao9;by_cases q2:8<pn
     .have d6:decide ((8:Int)<pn)=true:=Az ao9;have aG:E9q=2:=(by rw[hE.out];unfold Dv;rw[Ac ao,Ac (by rw[<-hT.out];simp),Ad (.inr (by have:ps.length=pn:=bA.out;show 8<ps.length;omega))]);have l:=ac.out (by rw[aG];decide);rw[aG]at l;replace⟨q,am,o,aG,l,d,ao,hm⟩:=H8 q am o aG l d ao hm;go_wp2
      try rw[Jm]
      refine Al (v:=E #[.agg #[V I 0 0],Z G 2,Z G ((k:Int)+1)]) (by simp[results,results35,go_sem,r0]) rfl ?_;refine⟨V I 0 0,[],by rw[l.out],d.out,Q5 _ _,λh=>?_⟩;rw[l.out]at h;exact absurd h (by show(2:Int)≠0;decide)
     have d6:decide ((8:Int)<pn)=false:=A2 ao9;have bw:E9q=0:=(by rw[hE.out];unfold Dv;rw[Ac ao,Ac (by rw[<-hT.out];simp),Ac (by have:ps.length=pn:=bA.out;have:=a7.out;show ¬(16<=(fw s k).1.length\/8<ps.length);omega)]);have an:fw s (k+1)=((fw s k).1++[aq.pl ⟨nm,⟨ca,cb,cc,cd⟩,po,pn,pc,ps⟩],0,0):=(by rw[aB.out,Aga aJ.out (by rw[hE.out]at bw;exact bw)]);have a4:=(aP.out.low aD.out).low am
     have bn:L6 w5 ⟨nm,⟨ca,cb,cc,cd⟩,po,pn,pc,ps⟩:=λb aK e=>by
      obtain⟨c,hc⟩:=bl.out b aK e;have h4:=Ae aD.out hc (Ab hc);exact⟨c,Ae am h4 (Ab h4)⟩
     have a1:(w5.alloc (J (⟨nm,⟨ca,cb,cc,cd⟩,po,pn,pc,ps⟩:aq).cells 69 (0,0))).ownsRow (w.heap.size+2) 69 6 nv m (Aw aq.cells xs):=(by rw[hm];exact q.row.row.alloc (J (⟨nm,⟨ca,cb,cc,cd⟩,po,pn,pc,ps⟩:aq).cells 69 (0,0)));have aX:∀j u,(⟨nm,⟨ca,cb,cc,cd⟩,po,pn,pc,ps⟩:aq).cells.toList[j]?=O u->(w5.alloc (J (⟨nm,⟨ca,cb,cc,cd⟩,po,pn,pc,ps⟩:aq).cells 69 (0,0))).cell? ((⟨w5.heap.size,0,I⟩:Addr).add j)=O u:=Af4 w5 _;have bk:=Af3 (⟨nm,⟨ca,cb,cc,cd⟩,po,pn,pc,ps⟩:aq);have bE:=If (n:=m) ao9;have bI:(m+1)*72<=140737488355328:=ao9;have be:w.heap.size+2<=(w5.alloc (J (⟨nm,⟨ca,cb,cc,cd⟩,po,pn,pc,ps⟩:aq).cells 69 (0,0))).heap.size:=(by have:=Ab q.f;rw[J0];omega);have t:(fw s (k+1)).2.1=0:=(by rw[an]);have b6:=Ab q.f
     have aU:∀w9:WD,(w5.alloc (J (⟨nm,⟨ca,cb,cc,cd⟩,po,pn,pc,ps⟩:aq).cells 69 (0,0))).grownBy w9 nv.ownBlock->w9.heap[w.heap.size+1]?=O (J #[nv] 54 (0,0)):=λw9 hg=>by
      refine(hg.block _ (by rw[J0];omega) (λe=>?_)).trans (Aj _ q.f);have:=(q.row.row.lt _ e.symm).1;omega
     replace⟨q,am,o,bw,an,d,ao,hm⟩:=H8 q am o bw an d ao hm;replace⟨a4,bn,a1,aX,bk,bE,bI,be⟩:=H8 a4 bn a1 aX bk bE bI be;replace⟨t,aU⟩:=H2 t aU;go_wp2_with (at_builtin;refine Ms _ rfl _ _ 52 rfl (w.heap.size+2) 69 b2 _ 6 72 Ps bV bX bP bQ rfl Af1 nv m _ rfl a1.out ⟨w5.heap.size,0,I⟩ 1 1 (⟨nm,⟨ca,cb,cc,cd⟩,po,pn,pc,ps⟩:aq).cells.toList rfl rfl aX.out bk.out bE.out bI.out be.out ?_;intro v1 w9 aH ap _;obtain⟨g9,ba,rfl⟩:=Joins.ownsRow_form aH (Iy _);have q9:=aU.out w9 ap;have f9:=Aa q9 0;have z9:=Ag q9 0;simp at f9;replace⟨q9,aH,ap⟩:=H3 q9 aH ap);have bS:=Aq2 q.out a4.out bn.out bp.out hm.out ap.out aH.out;have bc:sh w b ((Au 10 s.data.toList).map bu) (fw s (k+1)).1 (V (O ⟨g9,0,I⟩) (m+1) ba) (xs++[⟨nm,⟨ca,cb,cc,cd⟩,po,pn,pc,ps⟩]) (w9.setCell ⟨w.heap.size+1,0,I⟩ (V (O ⟨g9,0,I⟩) (m+1) ba)):=(by rw[an.out];exact bS);clear bS;replace bc:=Hh bc;go_roundw
     case rel=>exact⟨k+1,(V (O ⟨g9,0,I⟩) (m+1) ba),xs++[(⟨nm,⟨ca,cb,cc,cd⟩,po,pn,pc,ps⟩:aq)],by go_num,ao9,t.out,bc.out⟩
     case measure=>simp[intOf];omega
  .have bZ:¬(k:Int)<n:=ao9;have aV:=aE.out;rw[Ar]at aV;have a5:E5 s=fw s k:=(by rw[hr.out,Aqx (k:=k) ao9]);have hz:(fw s k).2.2=0:=Agf _ _ bj.out;have r0:=Bk hM.out.res 0 (V I 0 0) rfl;have f1:=Bk hM.out.f 0 nv rfl;have fr:=Ag hM.out.res;have d:BW w.heap.size w (wr.setCell ⟨w.heap.size,0,I⟩ nv):=hM.out.low.setCell Ln _;have a2:iz (wr.setCell ⟨w.heap.size,0,I⟩ nv) w.heap.size nv xs:=Q6 (Aqz hM.out.row ao9) hM.out.res ad9 ad9;replace⟨aV,a5,hz,d,a2⟩:=H5 aV a5 hz d a2;have b1:=Joins.ownsRow_forms hM.out.row.row;have bo:=hM.out.fi;replace⟨bo,hM⟩:=H2 bo hM;rcases b1 with⟨rfl,h0⟩|⟨g,cap,rfl⟩
   all_goals
    try (replace h0:=Hh h0)
    go_wp2;refine Al (v:=E #[.agg #[_],Z G 0,Z G 0]) (by simp[results,results35,go_sem,r0];rfl) rfl ?_;exact⟨_,xs,by rw[a5.out,bj.out,hz.out],d.out,a2.out,λ_=>by rw[a5.out];exact bo.out⟩
def Aq4 (s:ByteArray) (w:WD):CS prog 35 #[D s] w (Yd s w):=by
 by_cases a:4096<s.size
 .exact Aq0 s w a
 .exact Aq3 s w a
def A0u   {v:ar} (p:ByteArray) (h:vs[k]?=O v):Ee (vs.take (k+1)) p=if O0 v p=true then X4 (Ee (vs.take k) p) v.cap else Ee (vs.take k) p:=by
 unfold Ee;rw[Jq h,Mt];rfl
def Amj  (p:ByteArray) (h:∀v,v∈vs->X5 v.cap):Aqg (Ee vs p) vs.length:=by
 induction vs using Q4 with
 | h0=>constructor<;>simp[Ee,V4.zero]
 | h1 l x ih=>
  have a:=ih λv b=>h v (by simp[b]);have c:=h x as9;have e:Ee (l++[x]) p=if O0 x p=true then X4 (Ee l p) x.cap else Ee l p:=by unfold Ee;rw[Mt];rfl
  rw[e,Cn,Jl,Qw];obtain⟨d,f,g,i,j,k,m,n⟩:=a;obtain⟨o,q,r,s,t,u,y,z⟩:=c
  split<;>constructor<;>(try simp only[X4])<;>omega
def A0v  {v:V4} (h:j7 w v W):BW w.heap.size w ((((W.setCell ⟨w.heap.size,0,I⟩ (Z G v.a)).setCell ⟨w.heap.size,1,I⟩ (Z G v.b)).setCell ⟨w.heap.size,2,I⟩ (Z G v.c)).setCell ⟨w.heap.size,3,I⟩ (Z G v.d)):=
 (((h.low.setCell Ln _).setCell Ln _).setCell Ln _).setCell Ln _
def Amk (a b c d:Int) (w:WD):(Instr.index 30 (.agg #[Z G a,Z G b,Z G c,Z G d]) (Z G 0)).run prog w=.ok (Z G a) w:=by kernel_rfl
def Aml (a b c d:Int) (w:WD):(Instr.index 30 (.agg #[Z G a,Z G b,Z G c,Z G d]) (Z G 1)).run prog w=.ok (Z G b) w:=by kernel_rfl
def Amm (a b c d:Int) (w:WD):(Instr.index 30 (.agg #[Z G a,Z G b,Z G c,Z G d]) (Z G 2)).run prog w=.ok (Z G c) w:=by kernel_rfl
def Amn (a b c d:Int) (w:WD):(Instr.index 30 (.agg #[Z G a,Z G b,Z G c,Z G d]) (Z G 3)).run prog w=.ok (Z G d) w:=by kernel_rfl
def A0w (w:WD) (fb mb base:Nat) (nv:VL) (xs:List aq) (p:ByteArray) (hF:lh w fb mb base nv xs) (aI:xs.length<=4096) (am:∀x,x∈xs->X5 x.cap):CS prog 191 #[K (O ⟨fb,0,I⟩),D p] w (Abp (xs.map aq.pl) p w):=by
 obtain⟨n,hn⟩:=Ex (xs.length);have av:j7 w V4.zero ((w.alloc (J V4.zero.cells 30 (0,0))).alloc (J V4.zero.cells 30 (0,0))):=⟨Bn.alloc as9 _,Aj _ (Ah _ _),A6 _ _ as9⟩;have aA:=Abn _ fb mb base nv xs (hF.below av.low);rw[<-hn]at aA aI
 have aD:∀v,v∈xs.map aq.pl->X5 v.cap:=λv hv=>by
  obtain⟨x,hx,rfl⟩:=A5.1 hv;exact am x hx
 replace⟨hF,hn,aA,av,aD,am⟩:=H6 hF hn aA av aD am;go_enter func191,ntmps191;go_wp2_with fail;refine aA.out.mono ?_;rintro e w1 ⟨rfl,rfl⟩;go_wp2;go_loopw [11] (λi wr=>∃k:Nat,i=Z G k/\k<=n/\Hid (j7 w (Ee ((xs.map aq.pl).take k) p) wr)) (λi _=>n-(intOf i).toNat)
 case atStart=>exact⟨0,rfl,As _,av.out⟩
 case round=>
  obtain⟨k,rfl,hk,hT⟩:=hrel;by_cases hc:k<n
  .have aJ:(k:Int)<n:=ao9;have aM:(0:Int)<=(k:Int):=ao9;have an:=hF.out.below hT.out.low;obtain⟨g,cap,rfl⟩:=Joins.ownsRow_form an.row (by have:=hn.out;omega);obtain⟨x,hx⟩:=Ge xs k (by have:=hn.out;omega);obtain⟨g',e1,aL,aK,o⟩:=an.cell hx;have e2:g=g':=(by simpa[Value.ownBlock]using e1);subst e2;have c1:wr.cell? ⟨g,k*6+1,I⟩=O (Z G x.cap.a):=o 1 ao9;have c2:wr.cell? ⟨g,k*6+2,I⟩=O (Z G x.cap.b):=o 2 ao9;have c3:wr.cell? ⟨g,k*6+3,I⟩=O (Z G x.cap.c):=o 3 ao9;have c4:wr.cell? ⟨g,k*6+4,I⟩=O (Z G x.cap.d):=o 4 ao9;have c5:wr.cell? ⟨g,k*6+5,I⟩=O (V x.po x.pn x.pc):=o 5 ao9;have f0:=Aa an.head 0;simp at f0;rw[<-hn.out]at f0;have ao:=Ago wr x.po x.pn x.pc x.parts p (an.ok x (Ai hx)).1.parts;obtain⟨b,hb⟩:=Ex (Gx x.parts p);rw[<-hb]at ao;have aG:=X7 hx;have aH:=A0u p aG;have aB:=Amj (vs:=(xs.map aq.pl).take k) p (λv hv=>aD.out v (T9 hv));have aE:=am.out x (Ai hx);have ap:((xs.map aq.pl).take k).length=k:=(by rw[Fl,Ar];have:=hn.out;omega);rw[ap]at aB;replace⟨an,hx,ao,hb,aG,o,e1,aH⟩:=H8 an hx ao hb aG o e1 aH;replace⟨aB,aE,ap⟩:=H3 aB aE ap;obtain⟨U,hU⟩:=Ex (Ee ((xs.map aq.pl).take k) p);have m:=hT.out;have aC:=aB.out;have ac:=aH.out;rw[<-hU]at m aC ac;obtain⟨nm,⟨r,s,t,u⟩,po,pn,pc,ps⟩:=x;obtain⟨ua,ub,uc,ud⟩:=U;obtain⟨v1,v2,v3,v4,v5,v6,v7,v8⟩:=aC;obtain⟨x1,x2,x3,x4,x5,x6,x7,x8⟩:=aE.out;simp only at v1 v2 v3 v4 v5 v6 v7 v8 x1 x2 x3 x4 x5 x6 x7 x8 c1 c2 c3 c4;have y1:ua<=4398046511104:=ao9;have y2:ub<=4398046511104:=ao9;have y3:uc<=4398046511104:=ao9;have y4:ud<=4398046511104:=ao9;clear v2 v4 v6 v8;replace⟨hU,m,ac,hT⟩:=H4 hU m ac hT
   cases hp:p.toList.isEmpty with
   | true=>
    have z:O0 (aq.pl ⟨nm,⟨r,s,t,u⟩,po,pn,pc,ps⟩) p=true:=(by unfold O0;rw[hp];rfl);replace z:=Hh z;go_wp2_with fail;have y:j7 w (L8 ⟨ua,ub,uc,ud⟩ ⟨r,s,t,u⟩ 0) wr:=m.out;replace y:=Hh y;go_loopw [37] (λi wq=>∃j:Nat,j<=4/\i=Z G j/\Hid (j7 w (L8 ⟨ua,ub,uc,ud⟩ ⟨r,s,t,u⟩ j) wq)) (λi _=>4-(intOf i).toNat)
    case atStart=>exact⟨0,ao9,rfl,y.out⟩
    case round=>
     obtain⟨j,hj,l,q⟩:=hrel;rcases(show j=0\/j=1\/j=2\/j=3\/j=4 by omega)with rfl|rfl|rfl|rfl|rfl
     .have h:u37=Z G 0:=l;clear l;subst h;have al:=λw=>Amk r s t u w;have q0:=Bk q.out.r1 0 (Z G ua) rfl;have f0:=Ag q.out.r1 0;have f:j7 w (L8 ⟨ua,ub,uc,ud⟩ ⟨r,s,t,u⟩ 1) (wr.setCell ⟨w.heap.size+1,0,I⟩ (Z G (ua+r))):=q.out.set 0 _ rfl;replace f:=Hh f;go_wp2;go_roundw
      case rel=>exact⟨1,ao9,rfl,f.out⟩
      case measure=>simp[intOf]
     .have h:u37=Z G 1:=l;clear l;subst h;have al:=λw=>Aml r s t u w;have q1:=Bk q.out.r1 1 (Z G ub) rfl;have f1:=Ag q.out.r1 1;have f:j7 w (L8 ⟨ua,ub,uc,ud⟩ ⟨r,s,t,u⟩ 2) (wr.setCell ⟨w.heap.size+1,1,I⟩ (Z G (ub+s))):=q.out.set 1 _ rfl;replace f:=Hh f;go_wp2;go_roundw
      case rel=>exact⟨2,ao9,rfl,f.out⟩
      case measure=>simp[intOf]
     .have h:u37=Z G 2:=l;clear l;subst h;have al:=λw=>Amm r s t u w;have q2:=Bk q.out.r1 2 (Z G uc) rfl;have f2:=Ag q.out.r1 2;have f:j7 w (L8 ⟨ua,ub,uc,ud⟩ ⟨r,s,t,u⟩ 3) (wr.setCell ⟨w.heap.size+1,2,I⟩ (Z G (uc+t))):=q.out.set 2 _ rfl;replace f:=Hh f;go_wp2;go_roundw
      case rel=>exact⟨3,ao9,rfl,f.out⟩
      case measure=>simp[intOf]
     .have h:u37=Z G 3:=l;clear l;subst h;have al:=λw=>Amn r s t u w;have q3:=Bk q.out.r1 3 (Z G ud) rfl;have f3:=Ag q.out.r1 3;have f:j7 w (L8 ⟨ua,ub,uc,ud⟩ ⟨r,s,t,u⟩ 4) (wr.setCell ⟨w.heap.size+1,3,I⟩ (Z G (ud+u))):=q.out.set 3 _ rfl;replace f:=Hh f;go_wp2;go_roundw
      case rel=>exact⟨4,ao9,rfl,f.out⟩
      case measure=>simp[intOf]
     .have h:u37=Z G 4:=l;clear l;subst h;have ad:j7 w (Ee ((xs.map aq.pl).take (k+1)) p) wr:=(by rw[ac.out,Ad z.out];exact q.out);replace ad:=Hh ad;go_wp2;go_roundw
      case rel=>exact⟨k+1,by go_num,ao9,ad.out⟩
      case measure=>simp[intOf];omega
   | false=>
    cases b with
    | true=>
     have z:O0 (aq.pl ⟨nm,⟨r,s,t,u⟩,po,pn,pc,ps⟩) p=true:=(by unfold O0;rw[hp];exact hb.out.symm);replace z:=Hh z;go_wp2_with fail
     (with_reducible refine ao.out.mono ?_)
     rintro e wr ⟨rfl,rfl⟩;go_wp2;have y:j7 w (L8 ⟨ua,ub,uc,ud⟩ ⟨r,s,t,u⟩ 0) wr:=m.out;replace y:=Hh y;go_loopw [37] (λi wq=>∃j:Nat,j<=4/\i=Z G j/\Hid (j7 w (L8 ⟨ua,ub,uc,ud⟩ ⟨r,s,t,u⟩ j) wq)) (λi _=>4-(intOf i).toNat)
     case atStart=>exact⟨0,ao9,rfl,y.out⟩
     case round=>
      obtain⟨j,hj,l,q⟩:=hrel;rcases(show j=0\/j=1\/j=2\/j=3\/j=4 by omega)with rfl|rfl|rfl|rfl|rfl
      .have h:u37=Z G 0:=l;clear l;subst h;have al:=λw=>Amk r s t u w;have q0:=Bk q.out.r1 0 (Z G ua) rfl;have f0:=Ag q.out.r1 0;have f:j7 w (L8 ⟨ua,ub,uc,ud⟩ ⟨r,s,t,u⟩ 1) (wr.setCell ⟨w.heap.size+1,0,I⟩ (Z G (ua+r))):=q.out.set 0 _ rfl;replace f:=Hh f;go_wp2;go_roundw
       case rel=>exact⟨1,ao9,rfl,f.out⟩
       case measure=>simp[intOf]
      .have h:u37=Z G 1:=l;clear l;subst h;have al:=λw=>Aml r s t u w;have q1:=Bk q.out.r1 1 (Z G ub) rfl;have f1:=Ag q.out.r1 1;have f:j7 w (L8 ⟨ua,ub,uc,ud⟩ ⟨r,s,t,u⟩ 2) (wr.setCell ⟨w.heap.size+1,1,I⟩ (Z G (ub+s))):=q.out.set 1 _ rfl;replace f:=Hh f;go_wp2;go_roundw
       case rel=>exact⟨2,ao9,rfl,f.out⟩
       case measure=>simp[intOf]
      .have h:u37=Z G 2:=l;clear l;subst h;have al:=λw=>Amm r s t u w;have q2:=Bk q.out.r1 2 (Z G uc) rfl;have f2:=Ag q.out.r1 2;have f:j7 w (L8 ⟨ua,ub,uc,ud⟩ ⟨r,s,t,u⟩ 3) (wr.setCell ⟨w.heap.size+1,2,I⟩ (Z G (uc+t))):=q.out.set 2 _ rfl;replace f:=Hh f;go_wp2;go_roundw
       case rel=>exact⟨3,ao9,rfl,f.out⟩
       case measure=>simp[intOf]
      .have h:u37=Z G 3:=l;clear l;subst h;have al:=λw=>Amn r s t u w;have q3:=Bk q.out.r1 3 (Z G ud) rfl;have f3:=Ag q.out.r1 3;have f:j7 w (L8 ⟨ua,ub,uc,ud⟩ ⟨r,s,t,u⟩ 4) (wr.setCell ⟨w.heap.size+1,3,I⟩ (Z G (ud+u))):=q.out.set 3 _ rfl;replace f:=Hh f;go_wp2;go_roundw
       case rel=>exact⟨4,ao9,rfl,f.out⟩
       case measure=>simp[intOf]
      .have h:u37=Z G 4:=l;clear l;subst h;have ad:j7 w (Ee ((xs.map aq.pl).take (k+1)) p) wr:=(by rw[ac.out,Ad z.out];exact q.out);replace ad:=Hh ad;go_wp2;go_roundw
       case rel=>exact⟨k+1,by go_num,ao9,ad.out⟩
       case measure=>simp[intOf];omega
    | false=>
     have z:O0 (aq.pl ⟨nm,⟨r,s,t,u⟩,po,pn,pc,ps⟩) p=false:=(by unfold O0;rw[hp];exact hb.out.symm);have y:j7 w (Ee ((xs.map aq.pl).take (k+1)) p) wr:=(by rw[ac.out,Ac (by rw[z];simp)];exact m.out);replace⟨z,y⟩:=H2 z y;go_wp2_with fail
     (with_reducible refine ao.out.mono ?_)
     rintro e wr ⟨rfl,rfl⟩;go_wp2;go_roundw
     case rel=>exact⟨k+1,by go_num,ao9,y.out⟩
     case measure=>simp[intOf];omega
  .have aJ:¬(k:Int)<n:=ao9;have aF:(xs.map aq.pl).take k=xs.map aq.pl:=C4 (by rw[Ar];have:=hn.out;omega);have m:=hT.out;rw[aF]at m;obtain⟨U,hU⟩:=Ex (Ee (xs.map aq.pl) p);rw[<-hU]at m;obtain⟨ua,ub,uc,ud⟩:=U;have r1:=m.r1;have a0:=Bk r1 0 (Z G ua) rfl;have a1:=Bk r1 1 (Z G ub) rfl;have a2:=Bk r1 2 (Z G uc) rfl;have a3:=Bk r1 3 (Z G ud) rfl;have r0:=m.r0;have b0:=Bk r0 0 (Z G 0) rfl;have b1:=Bk r0 1 (Z G 0) rfl;have b2:=Bk r0 2 (Z G 0) rfl;have b3:=Bk r0 3 (Z G 0) rfl;have fr:=Ag m.r0;have e:=A0v m;replace⟨aF,m,hU,hT,r1,r0,e⟩:=H7 aF m hU hT r1 r0 e;go_wp2;refine Al (v:=V4.val ⟨ua,ub,uc,ud⟩) (by simp[results,results191,go_sem,b0,b1,b2,b3]) rfl ⟨?_,e.out⟩;rw[hU.out]
def A0x  {b c base:Nat}  (h:lu w b c base vs) (a:Jr vs) (p:ByteArray):CS prog 191 #[K (O ⟨b,0,I⟩),D p] w (Abp vs p w):=by
 obtain⟨e,xs,h1,rfl,f⟩:=h.ex;have:=a.len;rw[Ar]at this;exact A0w w b c base e xs p h1 ao9 λx d=>Abr (a.all x.pl (F1 d)).ok.cap
