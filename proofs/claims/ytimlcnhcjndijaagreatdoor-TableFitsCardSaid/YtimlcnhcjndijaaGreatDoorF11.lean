/- Parts of a proof. No condition. -/
import Derived.Test.YtimlcnhcjndijaaGreatDoorF10
import Derived.Lib.OwnBridge
set_option linter.all false
set_option maxRecDepth 100000
set_option maxHeartbeats 6400000
namespace Go.Proofs.YtimlcnhcjndijaaGreatDoor
open Go renaming World->WD,Value->VL,Calls->CS
open Go.RowKit renaming Below->BW
open Go.Proofs.Tryz
section
open Go.RowKit Go.Maps Go.Shelf
variable{s:ByteArray}{vs:List au}{B base k m n:Nat}{so:Option Addr}{W w w':WD}
structure Am4 (v:au):Prop where
 ok:Ad0 v
 ml:v.parts.length<=8
 once:L2 v.parts=false
structure Iq (vs:List au):Prop where
 len:vs.length<=16
 all:∀ v,v∈vs->Am4 v
 nodup:(vs.map au.name).Nodup
def Wg:Iq []:=⟨by simp,fun v h=>(by cases h),by simp⟩
def Am5 {b:List ByteArray}  {a:ByteArray} {parts:List ByteArray} (h:Db b m a parts=0):a∉b/\L2 parts=false/\m<16/\parts.length<=8:=by
 unfold Db at h;split at h
 .cases h
 .next h1=>
  split at h
  .cases h
  .next h2=>
   split at h
   .cases h
   .next h3=>exact ⟨fun c=>h1 (N3.2 c),by simpa using h2,by omega,by omega⟩
def Zx (l:List (Int×ByteArray)):∀ xs,Iq xs->Iq (Bf xs l).1:=by
 induction l with
 | nil=>intro xs h;exact h
 | cons x l ih=>
  intro xs h;obtain ⟨i,b⟩:=x;simp only [Bf]
  cases hn:Ip b with
  | none=>exact h
  | some v=>
   simp only;by_cases c:Db (xs.map au.name) xs.length v.name v.parts=0
   .rw [Ad c];obtain ⟨f,g,n,j⟩:=Am5 c;refine ih _ ⟨by simp;omega,fun y d=>?_,?_⟩
    .rcases Dh.1 d with d | d
     .exact h.all y d
     .have:y=v:=by simpa using d
      subst this;exact ⟨Ad1 hn,j,g⟩
    .rw [C9,Rd];refine ⟨h.nodup,by simp,fun a k b m=>?_⟩
     have:b=v.name:=by simpa using m
     subst this;exact fun e=>f (by rw [<- e];exact k)
   .rw [Ac c];exact h
def Zy {v:V4} (h:v.right=true):Wf v:=by
 simp only [V4.right,gd,E7,I1] at h;exact ⟨h.1.1.1.1,h.1.1.1.2,h.1.1.2.1,h.1.1.2.2,h.1.2.1,h.1.2.2,h.2.1,h.2.2⟩
def I8:List ByteArray->ByteArray->Nat->Int
 | [],_,_=>-1
 | n :: ns,s,k=>if n=s then (k:Int) else I8 ns s (k+1)
def Am6 {a:List ByteArray}  (h:s∉a) (k:Nat):I8 a s k=-1:=by
 induction a generalizing k with
 | nil=>rfl
 | cons n a ih=>
  simp only [I8];rw [Ac (fun e=>h (by rw [e];exact Dl ..)),ih (fun c=>h (Ce _ c))]
def Aea  {a b base:Nat}  (h:ju w a b base vs):CS prog 43 #[.pointer (some ⟨a,0,none⟩)] w fun e w'=>e=.returned (.int .i64 (vs.length:Int))/\w'=w:=by
 obtain ⟨c,xs,h1,rfl,d⟩:=h.ex;rw [At];exact Zt w a b base c xs h1
def Aeb  {a c base:Nat}  (h:ju w a c base vs) (b:Iq vs) (p:ByteArray):CS prog 154 #[.pointer (some ⟨a,0,none⟩),.string p] w (Ad9 vs p w):=by
 obtain ⟨d,xs,h1,rfl,e⟩:=h.ex;have:=b.len;rw [At] at this;exact Am3 w a c base d xs p h1 (by omega)
def Zz {p q:ByteArray} (h:p=q):(p.toList == q.toList)=true:=by rw [h];simp
def Z0 {p q:ByteArray} (h:p≠q):(p.toList == q.toList)=false:=by
 simp only [Bl];intro e;rw [Lib.toList_data,Lib.toList_data] at e;exact h (O4 e)
def A2c (so:Option Addr) (n c:Nat) (xs:List ByteArray) (x:ByteArray) (w:WD) (h:D3 w so n xs):CS prog 51 #[.slice so n c,.string x] w fun e w'=>e=.returned (.bool (Gi xs x))/\w'=w:=by
 have a:=h.len;have r:=h.max;replace ⟨h,a⟩:=H2 h a;go_enter func51,ntmps51;go_wp2;go_loopw [5] (fun i wr=>∃ k:Nat,i=.int .i64 k/\k<=n/\Hid (∀ j,j<k->xs[j]?≠some x)/\wr=w) (fun i _=>n-(intOf i).toNat)
 case atStart=>exact ⟨0,rfl,Aq _,(fun j h=>by omega),rfl⟩
 case round=>
  obtain ⟨k,rfl,hk,f,rfl⟩:=hrel;by_cases s:k<n
  .have m:(k:Int)<n:=(by omega);have t:(0:Int)<=(k:Int):=(by omega);obtain ⟨y,l⟩:=h.get s;obtain ⟨b,u,rfl,z,v⟩:=h.cell k y l;by_cases q:y=x
   .have d:=Zz q;have g:Gi xs x=true:=N3.2 (by rw [<- q];exact Ai l);replace ⟨l,q,g⟩:=H3 l q g;go_wp2;go_ret;exact ⟨by rw [g.out];rfl,rfl⟩
   .have d:=Z0 q
    have o:∀ j,j<k+1->xs[j]?≠some x:=fun j p e=>by
     by_cases c:j=k
     .subst c;rw [l] at e;exact q (Lx e)
     .exact f.out j (by omega) e
    replace ⟨l,q,o⟩:=H3 l q o;go_wp2;go_roundw
    case rel=>exact ⟨k+1,by go_num,by omega,o.out,trivial⟩
    case measure=>simp [intOf];omega
  .have m:¬ (k:Int)<n:=(by omega);have g:Gi xs x=false:=(by rw [Ij];intro c;obtain ⟨j,p,e⟩:=Py.1 (N3.1 c);have hl:=a.out;exact f.out j (by omega) (by rw [A4 p,e]));replace g:=Hh g;go_wp2;go_ret;exact ⟨by rw [g.out];rfl,rfl⟩
def Aec (xs:List ByteArray) (w:WD) (e:Ending) (w':WD):Prop:=e=.returned (.bool (L2 xs))/\BW w.heap.size w w'
def Am7 (so:Option Addr) (n c:Nat) (xs:List ByteArray) (w:WD) (h:D3 w so n xs):CS prog 69 #[.slice so n c] w (Aec xs w):=by
 have f:=h.len;have ac:=h.max;replace ⟨h,f⟩:=H2 h f;go_enter func69,ntmps69;go_wp2;go_loopw [3] (fun i wr=>∃ k:Nat,i=.int .i64 k/\k<=n/\Hid (¬ Tk xs k)/\Hid (BW w.heap.size w wr)) (fun i _=>n-(intOf i).toNat)
 case atStart=>exact ⟨0,rfl,Aq _,(fun ⟨i,j,s,h1,h2,_⟩=>absurd h2 (Mt _)),Below.refl _ _⟩
 case round=>
  obtain ⟨k,rfl,hk,hD,hB⟩:=hrel;by_cases hc:k<n
  .have t:(k:Int)<n:=(by omega);have an:(0:Int)<=(k:Int):=(by omega);obtain ⟨y,r⟩:=h.get hc;obtain ⟨b,ao,rfl,hb,a0⟩:=h.cell k y r;replace r:=Hh r;go_wp2;go_loopw [4] (fun i wq=>∃ j:Nat,i=.int .i64 j/\j<=k/\Hid (∀ g,g<j->xs[g]?≠some y)/\Hid (BW w.heap.size w wq)) (fun i _=>k-(intOf i).toNat)
   case atStart=>exact ⟨0,rfl,Aq _,(fun g h=>absurd h (Mt _)),hB.out⟩
   case round=>
    obtain ⟨j,rfl,hj,hN,a⟩:=hrel;by_cases v:j<k
    .have u:(j:Int)<k:=(by omega);have am:(0:Int)<=(j:Int):=(by omega);obtain ⟨z,p⟩:=h.get (i:=j) (by omega);obtain ⟨b2,ad,e2,al,c0⟩:=h.cell j z p;cases e2;have q0:=(Ag a.out hb).trans a0;have q1:=(Ag a.out hb).trans c0;clear c0;by_cases q:y=z
     .have d:=Zz q;have o:L2 xs=true:=(by rw [Wa];exact ⟨k,j,y,v,by rw [f.out];exact hc,r.out,by rw [q];exact p⟩);replace ⟨p,q,o⟩:=H3 p q o;go_wp2;go_quiet (fail);go_wp2;go_ret;exact ⟨by rw [o.out];rfl,⟨a.os,a.tape,a.output,a.size,a.block⟩⟩
     .have d:=Z0 q
      have m:∀ g,g<j+1->xs[g]?≠some y:=fun g h e=>by
       by_cases c:g=j
       .subst c;rw [p] at e;exact q (Lx e).symm
       .exact hN.out g (by omega) e
      replace ⟨p,q,m⟩:=H3 p q m;go_wp2;go_quiet (fail);go_wp2;go_roundw
      case rel=>exact ⟨j+1,by go_num,by omega,m.out,⟨a.os,a.tape,a.output,a.size,a.block⟩⟩
      case measure=>simp [intOf];omega
    .have u:¬ (j:Int)<k:=by omega
     have l:¬ Tk xs (k+1):=fun ⟨i,g,s,h1,h2,h3,h4⟩=>by
      by_cases c:i=k
      .subst c;rw [r.out] at h3;exact hN.out g (by omega) (by rw [h4,<- h3])
      .exact hD.out ⟨i,g,s,h1,by omega,h3,h4⟩
     replace l:=Hh l;go_wp2;go_roundw
     case rel=>exact ⟨k+1,by go_num,by omega,l.out,a.out⟩
     case measure=>simp [intOf];omega
  .have t:¬ (k:Int)<n:=by omega
   have o:L2 xs=false:=by
    rw [Ij];intro c;have hl:=f.out;have x:k=n:=(by omega);exact hD.out (by rw [x,<- hl];exact (Wa xs).1 c)
   replace o:=Hh o;go_wp2;go_ret;exact ⟨by rw [o.out];rfl,hB.out⟩
structure Ar (w:WD) (so:Option Addr) (n:Nat) (xs:List Int):Prop where
 len:xs.length=n
 max:n<=9223372036854775807
 cell:∀ i x,xs[i]?=some x->∃ b off,so=some ⟨b,off,none⟩/\b<w.heap.size/\w.cell? ⟨b,off+i,none⟩=some (.int .i64 x)
def Ar.low    {xs:List Int} (h:Ar w so n xs) (d:BW w.heap.size w w'):Ar w' so n xs:=
 ⟨h.len,h.max,fun i x g=>by
  obtain ⟨b,c,e,a,f⟩:=h.cell i x g
  exact ⟨b,c,e,Bx a d.size,(Ag d a).trans f⟩⟩
def Ar.get    {xs:List Int} (h:Ar w so n xs) {i:Nat} (a:i<n):=Ge xs i (by rw [h.len];exact a)
def Aed   {v:VL} {xs:List Int} (h:Al w B v xs):∃ so c,v=.slice so xs.length c/\Ar w so xs.length xs:=by
 rcases h.row.2 with ⟨a,h0⟩ | ⟨g,cap,e,a,j,f,m,l,n⟩
 .have:xs=[]:=Gd.1 h0;subst this;exact ⟨none,0,a,rfl,by simp,fun i x b=>by simp at b⟩
 .refine ⟨some ⟨g,0,none⟩,cap,a,rfl,by have:maxLen=9223372036854775807:=rfl;omega,fun i x b=>⟨g,0,rfl,Ab f,?_⟩⟩;have k:=(Ao.1 b).1;have d:=h.row;rw [a] at d;rw [Da,E6 d i (by omega),Bu,Bh,b];rfl
def Am8 (xs ys:List Int) (w:WD) (e:Ending) (w':WD):Prop:=e=.returned (.bool (decide (xs=ys)))/\BW w.heap.size w w'
def A2d (ao bo:Option Addr) (n m c c':Nat) (xs ys:List Int) (w:WD) (s:Ar w ao n xs) (t:Ar w bo m ys):CS prog 50 #[.slice ao n c,.slice bo m c'] w (Am8 xs ys w):=by
 have o:=s.len;have p:=t.len;have al:=s.max;by_cases q:n=m;rotate_left
 .have d:((n:Int) != (m:Int))=true:=by rw [Fp];omega
  have f:decide (xs=ys)=false:=Ax fun h=>q (by rw [<- o,<- p,h]);replace ⟨s,t,o,p,q,f⟩:=H6 s t o p q f;go_enter func50,ntmps50;go_wp2;go_ret;exact ⟨by rw [f.out];rfl,Below.refl _ _⟩
 subst q;have d:((n:Int) != (n:Int))=false:=by simp
 replace ⟨s,t,o,p⟩:=H4 s t o p;go_enter func50,ntmps50;go_wp2;go_loopw [5] (fun i wr=>∃ k:Nat,i=.int .i64 k/\k<=n/\Hid (∀ j,j<k->xs[j]?=ys[j]?)/\Hid (BW w.heap.size w wr)) (fun i _=>n-(intOf i).toNat)
 case atStart=>exact ⟨0,rfl,Aq _,(fun j h=>by omega),Below.refl _ _⟩
 case round=>
  obtain ⟨k,rfl,hk,r,l⟩:=hrel;by_cases hc:k<n
  .have v:(k:Int)<n:=(by omega);have ad:(0:Int)<=(k:Int):=(by omega);obtain ⟨y,a⟩:=s.get hc;obtain ⟨z,g⟩:=t.get hc;obtain ⟨b,am,rfl,hb,a0⟩:=s.cell k y a;obtain ⟨b',ac,rfl,u,a1⟩:=t.cell k z g;have b0:=(Ag l.out hb).trans a0;have b1:=(Ag l.out u).trans a1;clear a0 a1;by_cases q:y=z
   .have d2:(y != z)=false:=by simp [q]
    have hn:∀ j,j<k+1->xs[j]?=ys[j]?:=fun j hj=>by
     by_cases e:j=k
     .subst e;rw [a,g,q]
     .exact r.out j (by omega)
    replace ⟨a,g,q,hn⟩:=H4 a g q hn;go_wp2;go_quiet (fail);go_wp2;go_roundw
    case rel=>exact ⟨k+1,by go_num,by omega,hn.out,⟨l.os,l.tape,l.output,l.size,l.block⟩⟩
    case measure=>simp [intOf];omega
   .have d2:(y != z)=true:=by simp [q]
    have f:decide (xs=ys)=false:=Ax fun h=>by
     rw [h,g] at a;exact q (Lx a).symm
    replace ⟨a,g,q,f⟩:=H4 a g q f;go_wp2;go_quiet (fail);go_wp2;go_ret;exact ⟨by rw [f.out];rfl,⟨l.os,l.tape,l.output,l.size,l.block⟩⟩
  .have v:¬ (k:Int)<n:=by omega
   have x:=Av (Ea fun j=>by
    by_cases hj:j<n
    .exact r.out j (by omega)
    .have h1:=o.out;have h2:=p.out
     rw [Ot (by omega),Ot (by omega)])
   replace x:=Hh x;go_wp2;go_ret;exact ⟨by rw [x.out];rfl,l.out⟩
structure ib (W:WD) (base:Nat) (nv:VL) (xs:List aq):Prop where
 row:W.ownsRow base 69 6 nv xs.length (Au aq.cells xs)
 ok:∀ x,x∈xs->x.ok W/\K4 W x
def ib.below   {l:VL} {xs:List aq} (h:ib w base l xs) (d:BW w.heap.size w w'):ib w' base l xs:=by
 refine ⟨⟨h.row.1,?_⟩,fun x k=>⟨(h.ok x k).1.low d,fun b f e=>?_⟩⟩
 .rcases h.row.2 with h | ⟨g,cap,a,o,m,j,n⟩
  .exact .inl h
  .exact .inr ⟨g,cap,a,o,m,Ae d j (Ab j),n⟩
 .obtain ⟨c,i⟩:=(h.ok x k).2 b f e;exact ⟨c,Ae d i (Ab i)⟩
def ib.cell   {c:VL} {xs:List aq} (h:ib W base c xs)  {x:aq} (b:xs[k]?=some x):∃ g cap,c=.slice (some ⟨g,0,none⟩) xs.length cap/\g<W.heap.size/\base<=g/\∀ j,j<6->W.cell? ⟨g,k*6+j,none⟩=(x.cells)[j]?:=by
 have l:=(Ao.1 b).1;rcases h.row.2 with ⟨a,h0⟩ | ⟨g,cap,d,a,e,f,m⟩
 .have:xs.length=0:=h0;omega
 .subst a;refine ⟨g,cap,rfl,Ab f,e,fun j i=>?_⟩
  rw [E6 h.row (k*6+j) (by
   have:(k+1)*6<=xs.length*6:=S7 _ (by omega)
   omega),F2 Adm xs b i]
def Aee   {a:VL} {xs:List aq} (h:ib w base a xs):∀ b w,(Builtin.len_ #[52] b #[a]).run prog w=.ok (.int .i64 (xs.length:Int)) w:=fun b w=>by
 rcases Joins.ownsRow_forms h.row with ⟨rfl,h0⟩ | ⟨g,cap,rfl⟩
 .rw [h0];simp [go_sem,Ow]
 .simp [go_sem,Ow]
def Am9 (w:WD) (base:Nat) (u:VL) (xs:List aq) (s:ByteArray) (hF:ib w base u xs) (r:xs.length<=4096):CS prog 68 #[.agg #[u],.string s] w fun e w'=>e=.returned (.int .i64 (I8 (xs.map aq.name) s 0))/\BW w.heap.size w w':=by
 have t:=Aee hF;obtain ⟨n,l⟩:=Ex (xs.length);rw [<- l] at t r;obtain ⟨W,o⟩:=Ex (w.alloc (.cells #[u] 54 (0,0)));have p:BW w.heap.size w W:=by rw [o];exact Bn
 have j:W.heap[w.heap.size]?=some (.cells #[u] 54 (0,0)):=by rw [o];exact Ah _ _
 have h:=hF.below p;have f0:=Bk j 0 u rfl;replace ⟨hF,l,p,j,h⟩:=H5 hF l p j h;go_enter func68,ntmps68;go_wp2;rw [<- o];have ac:=Hh o;clear o;go_loop [5] (fun i=>∃ k:Nat,i=.int .i64 k/\k<=n/\Hid (I8 (xs.map aq.name) s 0=I8 ((xs.map aq.name).drop k) s k)) (fun i=>n-(intOf i).toNat)
 case atStart=>exact ⟨0,rfl,Aq _,rfl⟩
 case round=>
  obtain ⟨k,rfl,hk,v⟩:=hrel;by_cases hc:k<n
  .have y:(k:Int)<n:=(by omega);have ad:(0:Int)<=(k:Int):=(by omega);obtain ⟨x,m⟩:=Ge xs k (by have:=l.out;omega);obtain ⟨g,cap,rfl,_,_,a⟩:=h.cell m;have z:W.cell? ⟨g,k*6+0,none⟩=some (.string x.name):=a 0 (by omega);rw [Io] at z;have c:(xs.map aq.name)[k]?=some x.name:=(by rw [Bh,m];rfl);have b:(xs.map aq.name).drop k=x.name :: (xs.map aq.name).drop (k+1):=(by obtain ⟨h1,h2⟩:=Ao.1 c;rw [Ym h1,h2]);rw [<- l.out] at f0;clear t;by_cases q:x.name=s
   .have d:=Zz q;have f:I8 (xs.map aq.name) s 0=(k:Int):=(by rw [v.out,b];simp only [I8];rw [Ad q]);replace ⟨m,a,c,b,q,f⟩:=H6 m a c b q f;go_wp2;go_ret;exact ⟨by rw [f.out];rfl,p.out⟩
   .have d:=Z0 q;have f:I8 (xs.map aq.name) s 0=I8 ((xs.map aq.name).drop (k+1)) s (k+1):=(by rw [v.out,b];simp only [I8];rw [Ac q]);replace ⟨m,a,c,b,q,f⟩:=H6 m a c b q f;go_wp2;go_round
    case rel=>exact ⟨k+1,by go_num,by omega,f.out⟩
    case measure=>simp [intOf];omega
  .have y:¬ (k:Int)<n:=(by omega);have f:I8 (xs.map aq.name) s 0=-1:=(by rw [v.out,List.drop_eq_nil_of_le (by rw [At];have:=l.out;omega)];rfl);replace f:=Hh f;go_wp2;go_ret;exact ⟨by rw [f.out];rfl,p.out⟩
def Aef  {base a:Nat} {e:TypeId} {size:Nat} {v:VL}  {xs:List VL} (h:w.ownsRow base e size v n xs) (c:a<=base):w.ownsRow a e size v n xs:=by
 refine ⟨h.1,?_⟩;rcases h.2 with h | ⟨g,cap,b,i,d,f⟩
 .exact .inl h
 .exact .inr ⟨g,cap,b,i,A5 c d,f⟩
def od (v:V4) (k:Nat):V4:=⟨if 0<k then v.a else 0,if 1<k then v.b else 0,if 2<k then v.c else 0,if 3<k then v.d else 0⟩
structure oy (w:WD) (vb:Nat) (so:Option Addr) (xs:List ByteArray) (v:V4) (W:WD):Prop where
 low:BW w.heap.size w W
 gt:w.heap.size<vb
 r0:W.heap[w.heap.size]?=some (.cells V4.zero.cells 30 (0,0))
 r1:W.heap[vb]?=some (.cells v.cells 30 (0,0))
 strs:D3 W so 4 xs
def oy.below {w W b:WD} {c:Nat}  {xs:List ByteArray} {v:V4} (h:oy w c so xs v W) (a:BW W.heap.size W b):oy w c so xs v b:=
 ⟨h.low.trans (a.mono h.low.size),h.gt,Ae a h.r0 (Ab h.r0),Ae a h.r1 (Ab h.r1),h.strs.low a⟩
def oy.set  {d:Nat}  {xs:List ByteArray} {v j:V4} (h:oy w d so xs v W) (o:Nat) (x:VL) (e:v.cells.setIfInBounds o x=j.cells) (g:∀ b c,so=some ⟨b,c,none⟩->b≠d):oy w d so xs j (W.setCell ⟨d,o,none⟩ x):=
 ⟨h.low.setCell (Rk h.gt) _,h.gt,C0 (Nat.ne_of_lt h.gt) _ h.r0,by rw [Am h.r1,e],h.strs.len,h.strs.max,fun i x l=>by
  obtain ⟨b,c,e,f,k⟩:=h.strs.cell i x l
  exact ⟨b,c,e,by simpa [World.setCell] using f,(Bp (a:=⟨b,c+i,none⟩) (w:=W) (Er (g b c e))).trans k⟩⟩
def O7 {x:Int} (h:x<0\/1073741824<x):gd x=false:=by
 unfold gd;rcases h with h | h
 .rw [Ax (by omega)];rfl
 .rw [Ax (p:=x<=1073741824) (by omega)];simp
def Anb  {j:Nat} (a:(Ap 44 s.data.toList).length=4) (b:j<4) (h:gd (Ei (Ap 44 s.data.toList) j)=false):Ez s=(V4.zero,11):=by
 unfold Ez;rw [Ad a];unfold V4.told;rw [Ac];rw [V4.right,O5]
 rcases (show j=0\/j=1\/j=2\/j=3 by omega) with rfl | rfl | rfl | rfl<;>rw [h]<;>simp
def Anc  (a:(Ap 44 s.data.toList).length=4) (h:∀ j,j<4->gd (Ei (Ap 44 s.data.toList) j)=true):Ez s=(O5 (Ap 44 s.data.toList),0):=by
 unfold Ez;rw [Ad a];unfold V4.told;rw [Ad];rw [V4.right,O5,h 0 (by omega),h 1 (by omega),h 2 (by omega),h 3 (by omega)];rfl
def Ane (s:ByteArray) (w:WD) (hs:s.size<=4294967200):CS prog 112 #[.string s] w fun e w'=>e=.returned (.tuple #[(Ez s).1.val,.int .i64 (Ez s).2])/\BW w.heap.size w w':=by
 obtain ⟨W0,aK⟩:=Ex (w.alloc (.cells V4.zero.cells 30 (0,0)));have aP:BW w.heap.size w W0:=by rw [aK];exact Bn
 have aR:W0.heap[w.heap.size]?=some (.cells V4.zero.cells 30 (0,0)):=by rw [aK];exact Ah _ _
 have aM:=Zj s 44 W0 (by omega);have aW:(((44:UInt8).toNat:Nat):Int)=44:=rfl;rw [aW] at aM;clear aW
 have aA:∀ x,x∈(Ap 44 s.data.toList).map bp->x.size<=maxLen:=fun x o=>by
  obtain ⟨p,hp,rfl⟩:=Ba.1 o;have:=V6 hp;rw [K2];have h2:=P5 s;have:maxLen=9223372036854775807:=rfl;omega
 obtain ⟨L,hL⟩:=Ex ((Ap 44 s.data.toList).length);rw [aK] at aM;have aX:=Hh aK;clear aK;replace ⟨aP,aR,aM,hL⟩:=H4 aP aR aM hL;have al:=Hh aA;clear aA;go_enter func112,ntmps112;go_wp2_with fail;refine aM.mono ?_;rintro e w1 ⟨so,n,c,rfl,a6,aB,aC,aF⟩;rw [<- aX.out] at aF aC;have am:(Ap 44 s.data.toList).length=n:=by have:=aB.len;rwa [At] at this
 have z:=aP.trans (aF.mono aP.size);have an:=Ae aF aR.out (Ab aR.out);have a5:=aB.max;by_cases h4:n=4
 .subst h4;have aZ:=Ab an
  have aH:∀ b ap,so=some ⟨b,ap,none⟩->b≠w1.heap.size:=fun b ap e=>by
   obtain ⟨x,o⟩:=aB.get (i:=0) (by omega);obtain ⟨b',a4,e',aY,_⟩:=aB.cell 0 x o;exact Nat.ne_of_lt (by rw [e] at e';cases e';exact aY)
  obtain ⟨vb,aS⟩:=Ex (w1.heap.size)
  have aJ:oy w vb so ((Ap 44 s.data.toList).map bp) (od (O5 (Ap 44 s.data.toList)) 0) (w1.alloc (.cells V4.zero.cells 30 (0,0))):=
   ⟨z.alloc z.size _,by omega,Aj _ an,A3 _ _ aS,aB.low Bn⟩
  rw [<- aS] at aH;have aA:=al.out;have aL:∀ j,j<4->gd (Ei (Ap 44 s.data.toList) j)=false->Ez s=(V4.zero,11):=fun j hj h=>Anb am hj h;have aG:=Anc am
  have aN:∀ j x,((Ap 44 s.data.toList).map bp)[j]?=some x->B2 x 10=Ei (Ap 44 s.data.toList) j:=fun j x o=>by
   rw [Bh] at o;obtain ⟨p,hp,rfl⟩:=Nq.1 o;unfold Ei;rw [List.getD,hp];rfl
  obtain ⟨P,hP⟩:=Ex (O5 (Ap 44 s.data.toList));rw [<- hP] at aJ aG;obtain ⟨pa,pb,pc,pd⟩:=P
  have aV:∀ j,j<4->Ei (Ap 44 s.data.toList) j=(V4.get ⟨pa,pb,pc,pd⟩ j):=fun j hj=>by
   rw [hP]
   rcases (show j=0\/j=1\/j=2\/j=3 by omega) with rfl | rfl | rfl | rfl<;>rfl
  have aT:∀ j x,((Ap 44 s.data.toList).map bp)[j]?=some x->B2 x 10=V4.get ⟨pa,pb,pc,pd⟩ j:=fun j x o=>by
   rw [aN j x o];refine aV j ?_;have:=(Ao.1 o).1;rw [At,am] at this;exact this
  clear aN;have k:=Hh aL;have aQ:=Hh aG;have av:=Hh aT;have m:=Hh aV;clear aL aG aT aV aA;replace ⟨aH,z,an,aB,aC,aF,hP,aJ⟩:=H8 aH z an aB aC aF hP aJ;replace am:=Hh am;have aU:=Hh aS;rw [aU.out] at aJ;go_wp2;rw [<- aU.out] at aJ ⊢;clear aS;go_loopw [6] (fun i wq=>∃ j:Nat,j<=4/\i=.int .i64 j/\Hid (∀ j',j'<j->gd (Ei (Ap 44 s.data.toList) j')=true)/\Hid (oy w vb so ((Ap 44 s.data.toList).map bp) (od ⟨pa,pb,pc,pd⟩ j) wq)) (fun i _=>4-(intOf i).toNat)
  case atStart=>exact ⟨0,by omega,rfl,fun j h=>absurd h (Mt _),aJ.out⟩
  case round=>
   obtain ⟨j,hj,ao,aO,hM⟩:=hrel;rcases (show j=0\/j=1\/j=2\/j=3\/j=4 by omega) with rfl | rfl | rfl | rfl | rfl
   .have ad:u6=.int .i64 0:=ao;clear ao;subst ad;obtain ⟨x,o⟩:=hM.strs.get (i:=0) (by omega);obtain ⟨b,ap,rfl,hb,a0⟩:=hM.strs.cell 0 x o
    try rw [Io] at a0
    have ac:B2 x 10=pa:=av 0 x o;have aI:=al x (Ai o);have d:CS prog 168 #[.string x,.int .i64 10] wr fun e w'=>e=.returned (.int .i64 (B2 x 10))/\BW wr.heap.size wr w':=V2 x 10 wr aI (by omega);rw [ac] at d;replace ⟨o,ac,d⟩:=H3 o ac d;go_wp2_with fail;refine d.mono ?_;rintro e wq ⟨rfl,t⟩;have f:=hM.below t;have r1:=f.r1;have l:=f.r0;have b0:=Bk l 0 (.int .i64 0) rfl;have b1:=Bk l 1 (.int .i64 0) rfl;have b2:=Bk l 2 (.int .i64 0) rfl;have b3:=Bk l 3 (.int .i64 0) rfl;have fr:=Af l;have fv:=Af r1;have q0:=Bk r1 0 (.int .i64 0) rfl
    have he:∀ v0 v1 v2 v3,BW w.heap.size w ((((wq.setCell ⟨w.heap.size,0,none⟩ v0).setCell ⟨w.heap.size,1,none⟩ v1).setCell ⟨w.heap.size,2,none⟩ v2).setCell ⟨w.heap.size,3,none⟩ v3):=fun v0 v1 v2 v3=>
     (((f.low.setCell Ln _).setCell Ln _).setCell Ln _).setCell Ln _
    replace ⟨f,r1,l,t,he⟩:=H5 f r1 l t he;by_cases y:pa<0
    .have aE:=Av y;have a:=k 0 (by omega) (by rw [m 0 (by omega)];exact O7 (.inl y));replace a:=Hh a;go_wp2;refine Ak (v:=.tuple #[V4.zero.val,.int .i64 11]) (by simp [results,results112,go_sem,b0,b1,b2,b3,V4.zero]) rfl ⟨by rw [a.out],he _ _ _ _⟩
    .have aE:=Ax y;by_cases u:1073741824<pa
     .have aD:=Av u;have a:=k 0 (by omega) (by rw [m 0 (by omega)];exact O7 (.inr u));replace a:=Hh a;go_wp2;refine Ak (v:=.tuple #[V4.zero.val,.int .i64 11]) (by simp [results,results112,go_sem,b0,b1,b2,b3,V4.zero]) rfl ⟨by rw [a.out],he _ _ _ _⟩
     .have aD:=Ax u;have r:oy w vb (some ⟨b,ap,none⟩) ((Ap 44 s.data.toList).map bp) (od ⟨pa,pb,pc,pd⟩ 1) (wq.setCell ⟨vb,0,none⟩ (.int .i64 pa)):=f.set 0 _ rfl aH.out
      have g:∀ j,j<1->gd (Ei (Ap 44 s.data.toList) j)=true:=fun j hj=>by
       by_cases q:j=0
       .subst q;rw [m 0 (by omega)];show gd pa=true;unfold gd;rw [Av (show (0:Int)<=pa by omega),Av (show pa<=1073741824 by omega)];rfl
       .exact aO.out j (by omega)
      replace ⟨r,g⟩:=H2 r g;go_wp2;go_roundw
      case rel=>exact ⟨1,by omega,rfl,g.out,r.out⟩
      case measure=>simp [intOf]
   .have ad:u6=.int .i64 1:=ao;clear ao;subst ad;obtain ⟨x,o⟩:=hM.strs.get (i:=1) (by omega);obtain ⟨b,ap,rfl,hb,a0⟩:=hM.strs.cell 1 x o
    try rw [Io] at a0
    have ac:B2 x 10=pb:=av 1 x o;have aI:=al x (Ai o);have d:CS prog 168 #[.string x,.int .i64 10] wr fun e w'=>e=.returned (.int .i64 (B2 x 10))/\BW wr.heap.size wr w':=V2 x 10 wr aI (by omega);rw [ac] at d;replace ⟨o,ac,d⟩:=H3 o ac d;go_wp2_with fail;refine d.mono ?_;rintro e wq ⟨rfl,t⟩;have f:=hM.below t;have r1:=f.r1;have l:=f.r0;have b0:=Bk l 0 (.int .i64 0) rfl;have b1:=Bk l 1 (.int .i64 0) rfl;have b2:=Bk l 2 (.int .i64 0) rfl;have b3:=Bk l 3 (.int .i64 0) rfl;have fr:=Af l;have fv:=Af r1;have q0:=Bk r1 1 (.int .i64 0) rfl
    have he:∀ v0 v1 v2 v3,BW w.heap.size w ((((wq.setCell ⟨w.heap.size,0,none⟩ v0).setCell ⟨w.heap.size,1,none⟩ v1).setCell ⟨w.heap.size,2,none⟩ v2).setCell ⟨w.heap.size,3,none⟩ v3):=fun v0 v1 v2 v3=>
     (((f.low.setCell Ln _).setCell Ln _).setCell Ln _).setCell Ln _
    replace ⟨f,r1,l,t,he⟩:=H5 f r1 l t he;by_cases y:pb<0
    .have aE:=Av y;have a:=k 1 (by omega) (by rw [m 1 (by omega)];exact O7 (.inl y));replace a:=Hh a;go_wp2;refine Ak (v:=.tuple #[V4.zero.val,.int .i64 11]) (by simp [results,results112,go_sem,b0,b1,b2,b3,V4.zero]) rfl ⟨by rw [a.out],he _ _ _ _⟩
    .have aE:=Ax y;by_cases u:1073741824<pb
     .have aD:=Av u;have a:=k 1 (by omega) (by rw [m 1 (by omega)];exact O7 (.inr u));replace a:=Hh a;go_wp2;refine Ak (v:=.tuple #[V4.zero.val,.int .i64 11]) (by simp [results,results112,go_sem,b0,b1,b2,b3,V4.zero]) rfl ⟨by rw [a.out],he _ _ _ _⟩
     .have aD:=Ax u;have r:oy w vb (some ⟨b,ap,none⟩) ((Ap 44 s.data.toList).map bp) (od ⟨pa,pb,pc,pd⟩ 2) (wq.setCell ⟨vb,1,none⟩ (.int .i64 pb)):=f.set 1 _ rfl aH.out
      have g:∀ j,j<2->gd (Ei (Ap 44 s.data.toList) j)=true:=fun j hj=>by
       by_cases q:j=1
       .subst q;rw [m 1 (by omega)];show gd pb=true;unfold gd;rw [Av (show (0:Int)<=pb by omega),Av (show pb<=1073741824 by omega)];rfl
       .exact aO.out j (by omega)
      replace ⟨r,g⟩:=H2 r g;go_wp2;go_roundw
      case rel=>exact ⟨2,by omega,rfl,g.out,r.out⟩
      case measure=>simp [intOf]
   .have ad:u6=.int .i64 2:=ao;clear ao;subst ad;obtain ⟨x,o⟩:=hM.strs.get (i:=2) (by omega);obtain ⟨b,ap,rfl,hb,a0⟩:=hM.strs.cell 2 x o
    try rw [Io] at a0
    have ac:B2 x 10=pc:=av 2 x o;have aI:=al x (Ai o);have d:CS prog 168 #[.string x,.int .i64 10] wr fun e w'=>e=.returned (.int .i64 (B2 x 10))/\BW wr.heap.size wr w':=V2 x 10 wr aI (by omega);rw [ac] at d;replace ⟨o,ac,d⟩:=H3 o ac d;go_wp2_with fail;refine d.mono ?_;rintro e wq ⟨rfl,t⟩;have f:=hM.below t;have r1:=f.r1;have l:=f.r0;have b0:=Bk l 0 (.int .i64 0) rfl;have b1:=Bk l 1 (.int .i64 0) rfl;have b2:=Bk l 2 (.int .i64 0) rfl;have b3:=Bk l 3 (.int .i64 0) rfl;have fr:=Af l;have fv:=Af r1;have q0:=Bk r1 2 (.int .i64 0) rfl
    have he:∀ v0 v1 v2 v3,BW w.heap.size w ((((wq.setCell ⟨w.heap.size,0,none⟩ v0).setCell ⟨w.heap.size,1,none⟩ v1).setCell ⟨w.heap.size,2,none⟩ v2).setCell ⟨w.heap.size,3,none⟩ v3):=fun v0 v1 v2 v3=>
     (((f.low.setCell Ln _).setCell Ln _).setCell Ln _).setCell Ln _
    replace ⟨f,r1,l,t,he⟩:=H5 f r1 l t he;by_cases y:pc<0
    .have aE:=Av y;have a:=k 2 (by omega) (by rw [m 2 (by omega)];exact O7 (.inl y));replace a:=Hh a;go_wp2;refine Ak (v:=.tuple #[V4.zero.val,.int .i64 11]) (by simp [results,results112,go_sem,b0,b1,b2,b3,V4.zero]) rfl ⟨by rw [a.out],he _ _ _ _⟩
    .have aE:=Ax y;by_cases u:1073741824<pc
     .have aD:=Av u;have a:=k 2 (by omega) (by rw [m 2 (by omega)];exact O7 (.inr u));replace a:=Hh a;go_wp2;refine Ak (v:=.tuple #[V4.zero.val,.int .i64 11]) (by simp [results,results112,go_sem,b0,b1,b2,b3,V4.zero]) rfl ⟨by rw [a.out],he _ _ _ _⟩
     .have aD:=Ax u;have r:oy w vb (some ⟨b,ap,none⟩) ((Ap 44 s.data.toList).map bp) (od ⟨pa,pb,pc,pd⟩ 3) (wq.setCell ⟨vb,2,none⟩ (.int .i64 pc)):=f.set 2 _ rfl aH.out
      have g:∀ j,j<3->gd (Ei (Ap 44 s.data.toList) j)=true:=fun j hj=>by
       by_cases q:j=2
       .subst q;rw [m 2 (by omega)];show gd pc=true;unfold gd;rw [Av (show (0:Int)<=pc by omega),Av (show pc<=1073741824 by omega)];rfl
       .exact aO.out j (by omega)
      replace ⟨r,g⟩:=H2 r g;go_wp2;go_roundw
      case rel=>exact ⟨3,by omega,rfl,g.out,r.out⟩
      case measure=>simp [intOf]
   .have ad:u6=.int .i64 3:=ao;clear ao;subst ad;obtain ⟨x,o⟩:=hM.strs.get (i:=3) (by omega);obtain ⟨b,ap,rfl,hb,a0⟩:=hM.strs.cell 3 x o
    try rw [Io] at a0
    have ac:B2 x 10=pd:=av 3 x o;have aI:=al x (Ai o);have d:CS prog 168 #[.string x,.int .i64 10] wr fun e w'=>e=.returned (.int .i64 (B2 x 10))/\BW wr.heap.size wr w':=V2 x 10 wr aI (by omega);rw [ac] at d;replace ⟨o,ac,d⟩:=H3 o ac d;go_wp2_with fail;refine d.mono ?_;rintro e wq ⟨rfl,t⟩;have f:=hM.below t;have r1:=f.r1;have l:=f.r0;have b0:=Bk l 0 (.int .i64 0) rfl;have b1:=Bk l 1 (.int .i64 0) rfl;have b2:=Bk l 2 (.int .i64 0) rfl;have b3:=Bk l 3 (.int .i64 0) rfl;have fr:=Af l;have fv:=Af r1;have q0:=Bk r1 3 (.int .i64 0) rfl
    have he:∀ v0 v1 v2 v3,BW w.heap.size w ((((wq.setCell ⟨w.heap.size,0,none⟩ v0).setCell ⟨w.heap.size,1,none⟩ v1).setCell ⟨w.heap.size,2,none⟩ v2).setCell ⟨w.heap.size,3,none⟩ v3):=fun v0 v1 v2 v3=>
     (((f.low.setCell Ln _).setCell Ln _).setCell Ln _).setCell Ln _
    replace ⟨f,r1,l,t,he⟩:=H5 f r1 l t he;by_cases y:pd<0
    .have aE:=Av y;have a:=k 3 (by omega) (by rw [m 3 (by omega)];exact O7 (.inl y));replace a:=Hh a;go_wp2;refine Ak (v:=.tuple #[V4.zero.val,.int .i64 11]) (by simp [results,results112,go_sem,b0,b1,b2,b3,V4.zero]) rfl ⟨by rw [a.out],he _ _ _ _⟩
    .have aE:=Ax y;by_cases u:1073741824<pd
     .have aD:=Av u;have a:=k 3 (by omega) (by rw [m 3 (by omega)];exact O7 (.inr u));replace a:=Hh a;go_wp2;refine Ak (v:=.tuple #[V4.zero.val,.int .i64 11]) (by simp [results,results112,go_sem,b0,b1,b2,b3,V4.zero]) rfl ⟨by rw [a.out],he _ _ _ _⟩
     .have aD:=Ax u;have r:oy w vb (some ⟨b,ap,none⟩) ((Ap 44 s.data.toList).map bp) (od ⟨pa,pb,pc,pd⟩ 4) (wq.setCell ⟨vb,3,none⟩ (.int .i64 pd)):=f.set 3 _ rfl aH.out
      have g:∀ j,j<4->gd (Ei (Ap 44 s.data.toList) j)=true:=fun j hj=>by
       by_cases q:j=3
       .subst q;rw [m 3 (by omega)];show gd pd=true;unfold gd;rw [Av (show (0:Int)<=pd by omega),Av (show pd<=1073741824 by omega)];rfl
       .exact aO.out j (by omega)
      replace ⟨r,g⟩:=H2 r g;go_wp2;go_roundw
      case rel=>exact ⟨4,by omega,rfl,g.out,r.out⟩
      case measure=>simp [intOf]
   .have ad:u6=.int .i64 4:=ao;clear ao;subst ad;have hg:=aQ aO.out;have r1:=hM.r1;have l:=hM.r0;have a0:=Bk r1 0 (.int .i64 pa) rfl;have a1:=Bk r1 1 (.int .i64 pb) rfl;have a2:=Bk r1 2 (.int .i64 pc) rfl;have a3:=Bk r1 3 (.int .i64 pd) rfl;have b0:=Bk l 0 (.int .i64 0) rfl;have b1:=Bk l 1 (.int .i64 0) rfl;have b2:=Bk l 2 (.int .i64 0) rfl;have b3:=Bk l 3 (.int .i64 0) rfl;have fr:=Af l
    have he:∀ v0 v1 v2 v3,BW w.heap.size w ((((wr.setCell ⟨w.heap.size,0,none⟩ v0).setCell ⟨w.heap.size,1,none⟩ v1).setCell ⟨w.heap.size,2,none⟩ v2).setCell ⟨w.heap.size,3,none⟩ v3):=fun v0 v1 v2 v3=>
     (((hM.low.setCell Ln _).setCell Ln _).setCell Ln _).setCell Ln _
    replace ⟨r1,l,he,hg⟩:=H4 r1 l he hg;go_wp2;refine Ak (v:=.tuple #[V4.val ⟨pa,pb,pc,pd⟩,.int .i64 0]) (by simp [results,results112,go_sem,b0,b1,b2,b3]) rfl ⟨by rw [hg.out],he _ _ _ _⟩
 .have a:=Zh (s:=s) (by rw [am];exact h4);have d4:((n:Int) != 4)=true:=by rw [Fp];omega
  have b0:=Bk an 0 (.int .i64 0) rfl;have b1:=Bk an 1 (.int .i64 0) rfl;have b2:=Bk an 2 (.int .i64 0) rfl;have b3:=Bk an 3 (.int .i64 0) rfl;have fr:=Af an
  have he:∀ v0 v1 v2 v3,BW w.heap.size w ((((w1.setCell ⟨w.heap.size,0,none⟩ v0).setCell ⟨w.heap.size,1,none⟩ v1).setCell ⟨w.heap.size,2,none⟩ v2).setCell ⟨w.heap.size,3,none⟩ v3):=fun v0 v1 v2 v3=>
   (((z.setCell Ln _).setCell Ln _).setCell Ln _).setCell Ln _
  replace ⟨z,an,aB,aC,aF,am,a,h4⟩:=H8 z an aB aC aF am a h4;replace he:=Hh he;go_wp2;refine Ak (v:=.tuple #[V4.zero.val,.int .i64 11]) (by simp [results,results112,go_sem,b0,b1,b2,b3,V4.zero]) rfl ⟨by rw [a.out],he _ _ _ _⟩
structure uj (w:WD) (vb b:Nat) (xs:List ByteArray) (v:V4) (W:WD):Prop where
 low:BW w.heap.size w W
 r0:W.heap[w.heap.size]?=some (.cells aq.zero.cells 69 (0,0))
 r1:W.heap[vb]?=some (.cells v.cells 30 (0,0))
 strs:D3 W (some ⟨b,0,none⟩) xs.length xs
 ar:∃ c,W.heap[b]?=some (.cells c 9 (0,0))
def uj.below {w W d:WD} {f b:Nat} {xs:List ByteArray} {v:V4} (h:uj w f b xs v W) (a:BW W.heap.size W d):uj w f b xs v d:=by
 obtain ⟨c,e⟩:=h.ar;exact ⟨h.low.trans (a.mono h.low.size),Ae a h.r0 (Ab h.r0),Ae a h.r1 (Ab h.r1),h.strs.low a,c,Ae a e (Ab e)⟩
def Z3  (h:¬ I6 s):Ip s=none:=P6 h
def Anf (s:ByteArray) (w:WD) (hs:s.size<=4294967200):CS prog 67 #[.string s] w (Adl s w):=by
 obtain ⟨i9,bk,bD,bd,bx⟩:=Cb V3;obtain ⟨W0,aN⟩:=Ex (w.alloc (.cells aq.zero.cells 69 (0,0)));have a3:BW w.heap.size w W0:=by rw [aN];exact Bn
 have aU:W0.heap[w.heap.size]?=some (.cells aq.zero.cells 69 (0,0)):=by rw [aN];exact Ah _ _
 have aD:=Zj s 32 W0 (by omega);have ba:(((32:UInt8).toNat:Nat):Int)=32:=rfl;rw [ba] at aD;clear ba;rw [show (Ap 32 s.data.toList).map bp=E0 s from rfl] at aD;have aF:∀ x,x∈E0 s->x.size<=s.size:=fun x hx=>Adk hx;have aE:=Zk s;rw [aN] at aD;have bb:=Hh aN;clear aN;obtain ⟨ws,aA⟩:=Ex (E0 s);rw [<- aA] at aD aF aE;have an:=Hh aF;clear aF;replace ⟨a3,aU,aD,aE,aA⟩:=H5 a3 aU aD aE aA;go_enter func67,ntmps67;go_wp2_with fail;refine aD.mono ?_;rintro e w1 ⟨so,n,c,rfl,bC,t,ad,aC⟩;rw [<- bb.out] at aC ad;have ac:=t.len;have g:=a3.trans (aC.mono a3.size);have m:=Ae aC aU.out (Ab aU.out);have bB:=t.max;by_cases h3:n<3
 .have d3:decide ((n:Int)<3)=true:=Av (by omega)
  have f:=Z3 fun h=>by have:=h.1;rw [<- aA.out] at this;omega
  have b0:=Bk m 0 (.string ByteArray.empty) rfl;have b1:=Bk m 1 (.int .i64 0) rfl;have b2:=Bk m 2 (.int .i64 0) rfl;have b3:=Bk m 3 (.int .i64 0) rfl;have b4:=Bk m 4 (.int .i64 0) rfl;have b5:=Bk m 5 (.slice none 0 0) rfl;have fr:=Af m
  have he:∀ v0 v1 v2 v3 v4 v5,BW w.heap.size w ((((((w1.setCell ⟨w.heap.size,0,none⟩ v0).setCell ⟨w.heap.size,1,none⟩ v1).setCell ⟨w.heap.size,2,none⟩ v2).setCell ⟨w.heap.size,3,none⟩ v3).setCell ⟨w.heap.size,4,none⟩ v4).setCell ⟨w.heap.size,5,none⟩ v5):=fun v0 v1 v2 v3 v4 v5=>
   ((((((g).setCell Ln _).setCell Ln _).setCell Ln _).setCell Ln _).setCell Ln _).setCell Ln _
  replace ⟨g,m,t,ad,aC,ac,f,he⟩:=H8 g m t ad aC ac f he;go_wp2;refine Ak (v:=.tuple #[aq.zero.val,.int .i64 50]) (by simp [results,results67,go_sem,b0,b1,b2,b3,b4,b5,aq.zero,V4.zero]<;>rfl) rfl ⟨aq.zero,50,rfl,⟨Rs _,Nat.le_refl _⟩,he _ _ _ _ _ _,fun b a5 e=>(by cases e),.inl ⟨f.out,rfl,rfl⟩⟩
 have d3:decide ((n:Int)<3)=false:=Ax (by omega);obtain ⟨x0,aL⟩:=t.get (i:=0) (by omega);obtain ⟨b,a5,rfl,bg,a0⟩:=t.cell 0 x0 aL;obtain ⟨rfl,bv,aO⟩:=ad b a5 rfl;rw [Io] at a0;have n0:0<n:=by omega
 have aY:gj s 0=x0:=by unfold gj;rw [<- aA.out];simp [List.getD,aL]
 have bo:x0.size<=maxLen:=by have:=an x0 (Ai aL);have:maxLen=9223372036854775807:=rfl;omega
 have al:=Ac6 x0 w1 bo;obtain ⟨q0,aT⟩:=Ex (Bm x0);rw [<- aT] at al;replace ⟨g,m,t,ad,aC,ac,aL,aO⟩:=H8 g m t ad aC ac aL aO;replace ⟨aY,al,aT⟩:=H3 aY al aT;go_wp2_with fail;refine al.mono ?_;rintro e w2 ⟨rfl,z⟩;have l:=g.trans (z.mono g.size);have o:=Ae z m.out (Ab m.out)
 cases q0 with
 | false=>
  have f:=Z3 fun h=>by have:=h.2.1;rw [aY.out,<- aT.out] at this;cases this
  have b0:=Bk o 0 (.string ByteArray.empty) rfl;have b1:=Bk o 1 (.int .i64 0) rfl;have b2:=Bk o 2 (.int .i64 0) rfl;have b3:=Bk o 3 (.int .i64 0) rfl;have b4:=Bk o 4 (.int .i64 0) rfl;have b5:=Bk o 5 (.slice none 0 0) rfl;have fr:=Af o
  have he:∀ v0 v1 v2 v3 v4 v5,BW w.heap.size w ((((((w2.setCell ⟨w.heap.size,0,none⟩ v0).setCell ⟨w.heap.size,1,none⟩ v1).setCell ⟨w.heap.size,2,none⟩ v2).setCell ⟨w.heap.size,3,none⟩ v3).setCell ⟨w.heap.size,4,none⟩ v4).setCell ⟨w.heap.size,5,none⟩ v5):=fun v0 v1 v2 v3 v4 v5=>
   ((((((l).setCell Ln _).setCell Ln _).setCell Ln _).setCell Ln _).setCell Ln _).setCell Ln _
  replace ⟨l,o,z,f,he⟩:=H5 l o z f he;go_wp2;refine Ak (v:=.tuple #[aq.zero.val,.int .i64 50]) (by simp [results,results67,go_sem,b0,b1,b2,b3,b4,b5,aq.zero,V4.zero]<;>rfl) rfl ⟨aq.zero,50,rfl,⟨Rs _,Nat.le_refl _⟩,he _ _ _ _ _ _,fun b a5 e=>(by cases e),.inl ⟨f.out,rfl,rfl⟩⟩
 | true=>
 obtain ⟨x1,aZ⟩:=t.get (i:=1) (by omega);obtain ⟨b',aG,e',_,a1⟩:=t.cell 1 x1 aZ;cases e';have c1:=(Ag z bg).trans a1;have bE:(1:Int)<n:=by omega
 have a4:gj s 1=x1:=by unfold gj;rw [<- aA.out];simp [List.getD,aZ]
 have bw:=an x1 (Ai aZ);have a7:=Ane x1 w2 (by omega);have aV:=t.low z;replace ⟨l,o,z,aZ,a4,a7,aV⟩:=H7 l o z aZ a4 a7 aV;clear a1;rw [Da] at c1;go_wp2_with fail;refine a7.mono ?_;rintro e w3 ⟨rfl,aI⟩;obtain ⟨u,hu⟩:∃ u:V4,u=(Ez x1).1:=⟨_,rfl⟩;obtain ⟨r,hr⟩:∃ r:Int,r=(Ez x1).2:=⟨_,rfl⟩;rw [<- hu,<- hr];obtain ⟨cb,aQ⟩:=aO.out;have av:=aV.low aI;have am:=l.trans (aI.mono l.size);obtain ⟨vb,a9⟩:=Ex (w3.heap.size);have aS:=Ae aI (Ae z.out aQ (Ab aQ)) (Bx (Ab aQ) z.size);have aM:uj w vb b ws u (w3.alloc (.cells u.cells 30 (0,0))):=⟨am.alloc am.size _,Aj _ (Ae aI o.out (Ab o.out)),A3 _ _ a9,by rw [<- av.len] at av;exact av.low Bn,cb,Aj _ aS⟩;have bf:w.heap.size<b:=by have:=Ab aU.out;omega
 have a8:∀ w,(Instr.slice 67 (.slice (some ⟨b,0,none⟩) n c) (some (.int .i64 2)) none none).run prog w=.ok (.slice (some ⟨b,2,none⟩) (n-2) (c-2)) w:=by obtain ⟨ta,h1,h2⟩:=Ro S5 bk b n c 2 2 rfl (by omega);have h3:=h2 (by omega);rw [bd,Rm] at h3;subst h3;exact h1
 have bc:=Hh a8;clear a8 c1 a0;replace ⟨aI,hu,hr,aQ,av,am,aS,aM⟩:=H8 aI hu hr aQ av am aS aM;have a6:=Hh a9;rw [a6.out] at aM;go_wp2;rw [<- a6.out] at aM ⊢;clear a9;go_loopw [6,7,8] (fun ev i _ wr=>∃ (k:Nat) (E:Int),ev=.int .i64 E/\i=.int .i64 k/\2<=k/\k<=n/\Hid (E=0↔(r=0/\∀ j x,2<=j->j<k->ws[j]?=some x->Bm x=true))/\Hid (uj w vb b ws u wr)) (fun _ i _ _=>n-(intOf i).toNat)
 case atStart=>exact ⟨2,r,rfl,rfl,by omega,by omega,⟨fun h=>⟨h,fun j x h1 h2=>by omega⟩,fun h=>h.1⟩,aM.out⟩
 case round=>
  obtain ⟨k,E,rfl,rfl,bl,hk,hE,hM⟩:=hrel;by_cases hc:k<n
  .have bi:(k:Int)<n:=(by omega);have bA:(0:Int)<=(k:Int):=(by omega);have ap:=ac.out;obtain ⟨y,hy⟩:=hM.strs.get (i:=k) (by omega);obtain ⟨b',aG,e',bn,a0⟩:=hM.strs.cell k y hy;cases e';rw [Da] at a0;have bs:y.size<=maxLen:=(by have:=an y (Ai hy);have:maxLen=9223372036854775807:=rfl;omega);have al:=Ac6 y wr bs;obtain ⟨q,hq⟩:=Ex (Bm y);rw [<- hq] at al;replace ⟨al,hq,hy,ap⟩:=H4 al hq hy ap;go_wp2_with fail;refine al.mono ?_;rintro e wq ⟨rfl,aP⟩;have aH:=hM.below aP
   cases q with
   | true=>
    have aB:E=0↔(r=0/\∀ j x,2<=j->j<k+1->ws[j]?=some x->Bm x=true):=by
     rw [hE.out];refine ⟨fun h=>⟨h.1,fun j x h1 h2 h3=>?_⟩,fun h=>⟨h.1,fun j x h1 h2 h3=>h.2 j x h1 (by omega) h3⟩⟩;by_cases cc:j=k
     .subst cc;rw [hy.out] at h3;cases h3;exact hq.symm
     .exact h.2 j x h1 (by omega) h3
    replace ⟨aH,aB,aP⟩:=H3 aH aB aP;go_wp2;go_roundw
    case rel=>exact ⟨k+1,E,rfl,by go_num,by omega,by omega,aB.out,aH.out⟩
    case measure=>simp [intOf];omega
   | false=>
    have aB:(50:Int)=0↔(r=0/\∀ j x,2<=j->j<k+1->ws[j]?=some x->Bm x=true):=(by refine ⟨fun h=>absurd h (by decide),fun h=>?_⟩;have:=h.2 k y bl (by omega) hy.out;rw [<- hq.out] at this;cases this);replace ⟨aH,aB,aP⟩:=H3 aH aB aP;go_wp2;go_roundw
    case rel=>exact ⟨k+1,50,rfl,by go_num,by omega,by omega,aB.out,aH.out⟩
    case measure=>simp [intOf];omega
  .have bi:¬ (k:Int)<n:=(by omega);have ap:=ac.out
   have aK:E=0↔I6 s:=by
    rw [hE.out];unfold I6;rw [<- aA.out,aY.out,a4.out,<- hr.out];refine ⟨fun h=>⟨by omega,aT.symm,fun p hp=>?_,h.1⟩,fun h=>⟨h.2.2.2,fun j x h1 h2 h3=>h.2.2.1 x ?_⟩⟩
    .obtain ⟨j,hj,e⟩:=Yw hp;rw [G2] at hj;rw [List.getElem_drop] at e;exact h.2 (2+j) p (by omega) (by omega) (by rw [A4 (by omega),e])
    .have h4:(ws.drop 2)[j-2]?=some x:=(by rw [Ns,show 2+(j-2)=j by omega];exact h3);exact Ai h4
   have r0:=hM.r0;have b0:=Bk r0 0 (.string ByteArray.empty) rfl;have b1:=Bk r0 1 (.int .i64 0) rfl;have b2:=Bk r0 2 (.int .i64 0) rfl;have b3:=Bk r0 3 (.int .i64 0) rfl;have b4:=Bk r0 4 (.int .i64 0) rfl;have b5:=Bk r0 5 (.slice none 0 0) rfl;have fr:=Af r0;by_cases ao:E=0
   .have dE:(E != 0)=false:=(by simp [ao]);have a2:=aK.1 ao;have hz:=V5 a2;obtain ⟨b',aG,e',bn,a0⟩:=hM.strs.cell 0 x0 aL.out;cases e';rw [Io] at a0;have r1:=hM.r1;have bF:=Bk r1 0 (.int .i64 u.a) rfl;have bG:=Bk r1 1 (.int .i64 u.b) rfl;have bH:=Bk r1 2 (.int .i64 u.c) rfl;have bI:=Bk r1 3 (.int .i64 u.d) rfl;have a8:=bc.out;obtain ⟨be,aR⟩:=hM.ar
    have ai:∀ v0 v1 v2 v3 v4 v5,((((((wr.setCell ⟨w.heap.size,0,none⟩ v0).setCell ⟨w.heap.size,1,none⟩ v1).setCell ⟨w.heap.size,2,none⟩ v2).setCell ⟨w.heap.size,3,none⟩ v3).setCell ⟨w.heap.size,4,none⟩ v4).setCell ⟨w.heap.size,5,none⟩ v5).heap[b]?=wr.heap[b]?:=fun v0 v1 v2 v3 v4 v5=>by
     have aJ:b≠w.heap.size:=(by omega);rw [Er aJ,Er aJ,Er aJ,Er aJ,Er aJ,Er aJ]
    have aX:∀ v0 v1 v2 v3 v4 v5,((((((wr.setCell ⟨w.heap.size,0,none⟩ v0).setCell ⟨w.heap.size,1,none⟩ v1).setCell ⟨w.heap.size,2,none⟩ v2).setCell ⟨w.heap.size,3,none⟩ v3).setCell ⟨w.heap.size,4,none⟩ v4).setCell ⟨w.heap.size,5,none⟩ v5).heap.size=wr.heap.size:=fun v0 v1 v2 v3 v4 v5=>by simp [World.setCell]
    have he:∀ v0 v1 v2 v3 v4 v5,BW w.heap.size w ((((((wr.setCell ⟨w.heap.size,0,none⟩ v0).setCell ⟨w.heap.size,1,none⟩ v1).setCell ⟨w.heap.size,2,none⟩ v2).setCell ⟨w.heap.size,3,none⟩ v3).setCell ⟨w.heap.size,4,none⟩ v4).setCell ⟨w.heap.size,5,none⟩ v5):=fun v0 v1 v2 v3 v4 v5=>
     ((((((hM.low).setCell Ln _).setCell Ln _).setCell Ln _).setCell Ln _).setCell Ln _).setCell Ln _
    have aW:=hM.strs.sub 2 (by omega);replace ⟨ai,aX,he,r1,r0,aR,aK,a2⟩:=H8 ai aX he r1 r0 aR aK a2;replace ⟨hz,ao,ap,aW⟩:=H4 hz ao ap aW;go_upto_region 13 with fail;go_still_tail 7,(by kernel_rfl);change wpList _ _ _ _ _ wr.drew;go_wp2;refine Ak (v:=.tuple #[(⟨x0,u,some ⟨b,2,none⟩,n-2,c-2,ws.drop 2⟩:aq).val,.int .i64 0]) (by simp [results,results67,go_sem,b0,b1,b2,b3,b4,b5]) rfl ⟨⟨x0,u,some ⟨b,2,none⟩,n-2,c-2,ws.drop 2⟩,0,rfl,?_⟩;have hX:=ai (.string x0) (.int .i64 u.a) (.int .i64 u.b) (.int .i64 u.c) (.int .i64 u.d) (.slice (some ⟨b,2,none⟩) (n-2) (c-2));have hY:=aX (.string x0) (.int .i64 u.a) (.int .i64 u.b) (.int .i64 u.c) (.int .i64 u.d) (.slice (some ⟨b,2,none⟩) (n-2) (c-2));have hZ:=he (.string x0) (.int .i64 u.a) (.int .i64 u.b) (.int .i64 u.c) (.int .i64 u.d) (.slice (some ⟨b,2,none⟩) (n-2) (c-2));generalize (((((wr.setCell ⟨w.heap.size,0,none⟩ (.string x0)).setCell ⟨w.heap.size,1,none⟩ (.int .i64 u.a)).setCell ⟨w.heap.size,2,none⟩ (.int .i64 u.b)).setCell ⟨w.heap.size,3,none⟩ (.int .i64 u.c)).setCell ⟨w.heap.size,4,none⟩ (.int .i64 u.d)).setCell ⟨w.heap.size,5,none⟩ (.slice (some ⟨b,2,none⟩) (n-2) (c-2))=X at hX hY hZ ⊢
    have hS:D3 X (some ⟨b,2,none⟩) (n-2) (ws.drop 2):=by
     have h:=aW.out;rw [Da,ap.out] at h
     exact N1 h (by omega) fun b' aG e' _=>by cases e';exact hX
    refine ⟨⟨⟨hS.len,hS.max,hS.cell⟩,by show n-2<=c-2;omega⟩,hZ.drew,fun b' aG e'=>?_,.inr ⟨?_,rfl⟩⟩
    .have e2:b=b':=(by injection e' with e';injection e' with e');subst e2;exact ⟨by omega,be,hX.trans aR.out⟩
    .rw [hz.out,aY.out,a4.out,<- hu.out,<- aA.out];rfl
   .have dE:(E != 0)=true:=(by simp [ao]);have f:=Z3 fun h=>ao (aK.2 h)
    have he:∀ v0 v1 v2 v3 v4 v5,BW w.heap.size w ((((((wr.setCell ⟨w.heap.size,0,none⟩ v0).setCell ⟨w.heap.size,1,none⟩ v1).setCell ⟨w.heap.size,2,none⟩ v2).setCell ⟨w.heap.size,3,none⟩ v3).setCell ⟨w.heap.size,4,none⟩ v4).setCell ⟨w.heap.size,5,none⟩ v5):=fun v0 v1 v2 v3 v4 v5=>
     ((((((hM.low).setCell Ln _).setCell Ln _).setCell Ln _).setCell Ln _).setCell Ln _).setCell Ln _
    replace ⟨r0,f,he,aK,ao,ap⟩:=H6 r0 f he aK ao ap;go_wp2;refine Ak (v:=.tuple #[aq.zero.val,.int .i64 50]) (by simp [results,results67,go_sem,b0,b1,b2,b3,b4,b5,aq.zero,V4.zero]<;>rfl) rfl ⟨aq.zero,50,rfl,⟨Rs _,Nat.le_refl _⟩,he _ _ _ _ _ _,fun b a5 e=>(by cases e),.inl ⟨f.out,rfl,rfl⟩⟩
def Aei (a b:List (List UInt8)) (n:Nat):Dp n (a++b)=Dp n a++Dp (n+a.length) b:=by
 induction a generalizing n with
 | nil=>simp [Dp]
 | cons p a ih=>
  simp only [Ox,Dp,Il];rw [ih,show n+1+a.length=n+(a.length+1) by omega]
  split<;>simp
def Aej {a:List (List UInt8)}  {p:List UInt8} (h:a[k]?=some p):Dp 0 (a.take (k+1))=Dp 0 (a.take k)++(if K5 p=true then [(((k:Int)+1),bp p)] else []):=by
 have b:=(Ao.1 h).1;rw [I7 h,Aei,E8,Ly (by omega),Da];simp only [Dp]
def Ang (a:List (List UInt8)) (k:Nat):Dp 0 a=Dp 0 (a.take k)++Dp (0+(a.take k).length) (a.drop k):=by
 rw [<- Aei,Or]
def ek (s:ByteArray) (k:Nat):List au×Int×Int:=Bf [] (Dp 0 ((Ap 10 s.data.toList).take k))
def Aek   (h:(ek s k).2.1≠0):Bf [] (Fq s)=ek s k:=by
 unfold Fq;rw [Ang _ k,Adv _ _ _ h];rfl
def Anh   (h:(Ap 10 s.data.toList).length<=k):Bf [] (Fq s)=ek s k:=by
 unfold Fq ek;rw [C8 h]
def Wh   {p:List UInt8} (h:(Ap 10 s.data.toList)[k]?=some p) (a:K5 p=false):ek s (k+1)=ek s k:=by
 unfold ek;rw [Aej h,Ac (by rw [a];simp),Oz]
def Ani   {p:List UInt8} (h:(Ap 10 s.data.toList)[k]?=some p) (a:K5 p=true) (h0:(ek s k).2.1=0):ek s (k+1)=Bf (ek s k).1 [(((k:Int)+1),bp p)]:=by
 unfold ek at h0 ⊢;rw [Aej h,Ad a,Wd _ _ _ h0]
structure qj (w:WD) (b:Nat) (ls:List ByteArray) (vs:List au) (nv:VL) (xs:List aq) (W:WD):Prop where
 low:BW w.heap.size w W
 res:W.heap[w.heap.size]?=some (.cells #[.slice none 0 0] 54 (0,0))
 f:W.heap[w.heap.size+1]?=some (.cells #[nv] 54 (0,0))
 row:ib W (w.heap.size+2) nv xs
 fi:xs.map aq.pl=vs
 po:∀ x,x∈xs->∀ b off,x.po=some ⟨b,off,none⟩->w.heap.size+2<=b
 strs:D3 W (some ⟨b,0,none⟩) ls.length ls
 ar:∃ c,W.heap[b]?=some (.cells c 9 (0,0))
 vy:w.heap.size+2<=b
def qj.below {w W d:WD} {b:Nat} {g:List ByteArray}  {i:VL} {xs:List aq} (h:qj w b g vs i xs W) (a:BW W.heap.size W d):qj w b g vs i xs d:=by
 obtain ⟨c,e⟩:=h.ar;exact ⟨h.low.trans (a.mono h.low.size),Ae a h.res (Ab h.res),Ae a h.f (Ab h.f),h.row.below a,h.fi,h.po,h.strs.low a,⟨c,Ae a e (Ab e)⟩,h.vy⟩
def Wi (s:ByteArray) (w:WD) (e:Ending) (w':WD):Prop:=
 ∃ nv xs,e=.returned (.tuple #[.agg #[nv],.int .i64 (Ej s).2.1,.int .i64 (Ej s).2.2])/\BW w.heap.size w w'/\ib w' w.heap.size nv xs/\((Ej s).2.1=0->xs.map aq.pl=(Ej s).1)
def P9 (w:WD) (B:Nat):ib w B (.slice none 0 0) []:=⟨⟨rfl,.inl ⟨rfl,rfl⟩⟩,fun x h=>(by cases h)⟩
def Qa  {B b o:Nat} {y v:VL} {xs:List aq} {c:Array VL} {T:TypeId} {fr:Nat×Nat} (h:ib W B y xs) (hb:W.heap[b]?=some (.cells c T fr)) (q:T≠69) (z:T≠9):ib (W.setCell ⟨b,o,none⟩ v) B y xs:=by
 have j:∀ (k:Nat) (m:Array VL) (l:TypeId) (i:Nat×Nat),l≠T->W.heap[k]?=some (.cells m l i)->(W.setCell ⟨b,o,none⟩ v).heap[k]?=some (.cells m l i):=fun k m l i s d=>
  C0 (fun e=>by rw [e,hb] at d;injection d with d;injection d with _ d;exact s d.symm) _ d
 refine ⟨⟨h.row.1,?_⟩,fun x t=>?_⟩
 .rcases h.row.2 with h | ⟨g,cap,n,hv,r,hh,hr⟩
  .exact .inl h
  .exact .inr ⟨g,cap,n,hv,r,j _ _ _ _ (fun e=>q e.symm) hh,hr⟩
 .have d:∀ f a,x.po=some ⟨f,a,none⟩->∃ c,W.heap[f]?=some (.cells c 9 (0,0))/\(W.setCell ⟨b,o,none⟩ v).heap[f]?=some (.cells c 9 (0,0)):=fun f a e=>by
   obtain ⟨c,u⟩:=(h.ok x t).2 f a e;exact ⟨c,u,j _ _ _ _ (fun e=>z e.symm) u⟩
  refine ⟨⟨N1 (h.ok x t).1.parts (by simp [World.setCell]) fun f a e _=>?_,(h.ok x t).1.lg⟩,fun f a e=>?_⟩
  .obtain ⟨c,h1,p⟩:=d f a e;rw [h1,p]
  .obtain ⟨c,_,p⟩:=d f a e;exact ⟨c,p⟩
def Anj  {B B':Nat} {a:VL} {xs:List aq} (h:ib w B a xs) (b:B'<=B):ib w B' a xs:=⟨Aef h.row b,h.ok⟩
def Ank (s:ByteArray) (w:WD) (b:4096<s.size):CS prog 35 #[.string s] w (Wi s w):=by
 have a:Ej s=([],2,0):=Ad b;have c:decide ((4096:Int)<s.size)=true:=Av (by omega);replace a:=Hh a;go_enter func35,ntmps35;go_wp2;refine Ak (v:=.tuple #[.agg #[.slice none 0 0],.int .i64 2,.int .i64 0]) (by simp [results,results35,go_sem]) rfl ?_;refine ⟨.slice none 0 0,[],by rw [a.out],?_,P9 _ _,fun h=>by rw [a.out] at h;cases h⟩;exact Bn.alloc (by simp) _
def Anl {a:List ByteArray}  (h:s∈a) (k:Nat):0<=I8 a s k:=by
 induction a generalizing k with
 | nil=>cases h
 | cons n a ih=>
  simp only [I8];split
  .omega
  .next hne=>
   refine ih ?_ _;rcases Gf.1 h with h | h
   .exact absurd h.symm hne
   .exact h
def Anm {w d g:WD} {b m:Nat} {ls:List ByteArray}  {nv j:VL} {xs:List aq} {x:aq} (h:qj w b ls vs nv xs d) (hx:x.ok d) (hp:K4 d x) (ac:∀ b a,x.po=some ⟨b,a,none⟩->w.heap.size+2<=b) (hm:m=xs.length)
  (hg:(d.alloc (.cells x.cells 69 (0,0))).grownBy g nv.ownBlock) (ho:g.ownsRow (w.heap.size+2) 69 6 j (m+1) (Au aq.cells xs++x.cells.toList)):qj w b ls (vs++[x.pl]) j (xs++[x]) (g.setCell ⟨w.heap.size+1,0,none⟩ j):=by
 have ao:d.heap.size+1<=g.heap.size:=by have:=hg.size;rwa [I2] at this
 have n:∀ k,nv.ownBlock=some k->w.heap.size+2<=k/\∃ t,d.heap[k]?=some (.cells t 69 (0,0)):=fun k e=>⟨(h.row.row.lt k e).1,Zo h.row.row e⟩
 have o:∀ (k:Nat) (c:Array VL) (T:TypeId) (fr:Nat×Nat),T≠69->d.heap[k]?=some (.cells c T fr)->g.heap[k]?=some (.cells c T fr):=fun k c T fr hT hk=>
  (hg.block k (by have:=Ab hk;rw [I2];omega) (fun e=>by
   obtain ⟨_,t,r⟩:=n k e.symm;rw [hk] at r;injection r with r;injection r with _ r
   exact hT r)).trans (Aj _ hk)
 have z:=o _ _ _ _ (by decide) h.f;have q:∀ (k:Nat) (c:Array VL) (T:TypeId) (fr:Nat×Nat),T≠69->k≠w.heap.size+1->d.heap[k]?=some (.cells c T fr)->(g.setCell ⟨w.heap.size+1,0,none⟩ j).heap[k]?=some (.cells c T fr):=fun k c T fr hT al hk=>C0 al _ (o k c T fr hT hk)
 have ad:d.heap.size<=(g.setCell ⟨w.heap.size+1,0,none⟩ j).heap.size:=by
  have:(g.setCell ⟨w.heap.size+1,0,none⟩ j).heap.size=g.heap.size:=by simp [World.setCell]
  omega
 have i:∀ y:aq,y.ok d->K4 d y->(∀ b a,y.po=some ⟨b,a,none⟩->w.heap.size+2<=b)->y.ok (g.setCell ⟨w.heap.size+1,0,none⟩ j)/\K4 (g.setCell ⟨w.heap.size+1,0,none⟩ j) y:=fun y s an am=>by
  have k2:∀ b a,y.po=some ⟨b,a,none⟩->∃ c,d.heap[b]?=some (.cells c 9 (0,0))/\(g.setCell ⟨w.heap.size+1,0,none⟩ j).heap[b]?=some (.cells c 9 (0,0)):=fun b a e=>by
   obtain ⟨c,v⟩:=an b a e;have:=am b a e;exact ⟨c,v,q b _ _ _ (by decide) (by omega) v⟩
  refine ⟨⟨N1 s.parts ad fun b a e _=>?_,s.lg⟩,fun b a e=>?_⟩
  .obtain ⟨c,h1,h2⟩:=k2 b a e;rw [h1,h2]
  .obtain ⟨c,_,h2⟩:=k2 b a e;exact ⟨c,h2⟩
 have p:=(h.low.alloc h.low.size _).grown hg (by have:=h.low.size;rw [I2];omega) (fun k e=>by have:=(n k e).1;omega);obtain ⟨c,v⟩:=h.ar;have u:=q b _ _ _ (by decide) (by have:=h.vy;omega) v;refine ⟨p.setCell (Dx _) _,q _ _ _ _ (by decide) (by omega) h.res,by rw [Am z];rfl,⟨?_,fun y s=>?_⟩,by rw [C9,h.fi];rfl,fun y s=>?_,?_,⟨c,u⟩,h.vy⟩
 .rw [N0,P7,Cn,<- hm];exact Ads ho z (by decide) 0 j
 .rcases Dh.1 s with l | l
  .exact i y (h.row.ok y l).1 (h.row.ok y l).2 (h.po y l)
  .have:y=x:=by simpa using l
   subst this;exact i y hx hp ac
 .rcases Dh.1 s with l | l
  .exact h.po y l
  .have:y=x:=by simpa using l
   subst this;exact ac
 .exact N1 h.strs ad fun b' a e _=>by cases e;rw [u,v]
def Ann (s:ByteArray) (w:WD) (hs:¬ 4096<s.size):CS prog 35 #[.string s] w (Wi s w):=by
 have hr:Ej s=Bf [] (Fq s):=Ac hs;have d1:decide ((4096:Int)<s.size)=false:=Ax (by omega);obtain ⟨b4,bX,bZ,bR,bS⟩:=Cb Adp;obtain ⟨W0,aT⟩:=Ex ((w.alloc (.cells #[.slice none 0 0] 54 (0,0))).alloc (.cells #[.slice none 0 0] 54 (0,0)));have bB:BW w.heap.size w W0:=by rw [aT];exact Bn.alloc (by simp) _
 have bD:W0.heap[w.heap.size]?=some (.cells #[.slice none 0 0] 54 (0,0)):=by rw [aT];exact Aj _ (Ah _ _)
 have bE:W0.heap[w.heap.size+1]?=some (.cells #[.slice none 0 0] 54 (0,0)):=by rw [aT];exact A3 _ _ (by simp)
 have bQ:W0.heap.size=w.heap.size+2:=by rw [aT];simp
 have bg:=Zj s 10 W0 (by omega);have bT:(((10:UInt8).toNat:Nat):Int)=10:=rfl;rw [bT] at bg;clear bT;rw [aT] at bg;have bV:=Hh aT;clear aT;replace ⟨bB,bD,bE,bg,hr,bQ⟩:=H6 bB bD bE bg hr bQ;go_enter func35,ntmps35;go_wp2_with fail;refine bg.mono ?_;rintro e w1 ⟨so,n,c,rfl,cl,a3,a6,a8⟩;rw [<- bV.out] at a8 a6;have aE:=a3.len;have b9:1<=n:=by rw [<- aE,At];exact Zi _ _
 obtain ⟨y0,bP⟩:=a3.get (i:=0) (by omega);obtain ⟨b,aK,rfl,ch,_⟩:=a3.cell 0 y0 bP;obtain ⟨rfl,b6,bf⟩:=a6 b aK rfl;have aW:=bB.trans (a8.mono bB.size);have ck:=a3.max
 have bJ:qj w b ((Ap 10 s.data.toList).map bp) (ek s 0).1 (.slice none 0 0) [] w1:=
  ⟨aW,Ae a8 bD.out (Ab bD.out),Ae a8 bE.out (Ab bE.out),P9 _ _,rfl,fun x h=>(by cases h),by rw [aE];exact a3,bf,by have:=bQ.out;omega⟩
 replace ⟨a3,a6,a8,aE,aW,bf,bP,bJ⟩:=H8 a3 a6 a8 aE aW bf bP bJ;go_wp2;go_loopw [7,8,9] (fun i _ _ wr=>∃ (k:Nat) (nv:VL) (xs:List aq),i=.int .i64 k/\k<=n/\Hid ((ek s k).2.1=0)/\Hid (qj w b ((Ap 10 s.data.toList).map bp) (ek s k).1 nv xs wr)) (fun i _ _ _=>n-(intOf i).toNat)
 case atStart=>exact ⟨0,.slice none 0 0,[],rfl,by omega,rfl,bJ.out⟩
 case round=>
  obtain ⟨k,nv,xs,rfl,hk,bk,hM⟩:=hrel;by_cases hc:k<n
  .have b1:(k:Int)<n:=(by omega);have ci:(0:Int)<=(k:Int):=(by omega);have aV:=aE.out;rw [At] at aV;obtain ⟨p,hp⟩:=Ge ((Ap 10 s.data.toList)) k (by omega);have bO:((Ap 10 s.data.toList).map bp)[k]?=some (bp p):=(by rw [Bh,hp];rfl);obtain ⟨b',cf,e',cj,a0⟩:=hM.strs.cell k _ bO;cases e';rw [Da] at a0;have cm:p.length<=s.size:=(by have:=V6 (Ai hp);rw [<- P5 s];exact this);replace ⟨aV,hp,bO⟩:=H3 aV hp bO;by_cases aI:p=[]
   .have ad:K5 p=false:=(by rw [aI];rfl);have em:(bp p).toList.isEmpty=true:=(by rw [Rt,aI];rfl);replace ⟨ad,aI⟩:=H2 ad aI;have aS:qj w b ((Ap 10 s.data.toList).map bp) (ek s (k+1)).1 nv xs wr:=(by rw [Wh hp.out ad.out];exact hM.out);have t:(ek s (k+1)).2.1=0:=(by rw [Wh hp.out ad.out];exact bk.out);replace ⟨aS,t⟩:=H2 aS t;go_wp2;go_roundw
    case rel=>exact ⟨k+1,nv,xs,by go_num,by omega,t.out,aS.out⟩
    case measure=>simp [intOf];omega
   obtain ⟨x,hx⟩:=Ex (dy (bp p) 0);have bN:=List.length_pos_iff.2 aI
   have em:(bp p).toList.isEmpty=false:=by rw [Rt];cases p with | nil=>exact absurd rfl aI | cons c a=>rfl
   have bi:∀ w,(Instr.index 9 (.string (bp p)) (.int .i64 0)).run prog w=.ok (.int .u8 x) w:=fun w=>by
    rw [hx];exact P4 Eg (bp p) 0 0 rfl (by rw [K2];exact bN) w
   have aF:K5 p=decide (x≠35):=by
    rw [hx]
    cases p with
    | nil=>exact absurd rfl aI
    | cons c a=>
     have b2:dy (bp (c :: a)) 0=(c.toNat:Int):=(by unfold dy;rw [L1];rfl);rw [b2];unfold K5;refine Y8.2 (not_congr ⟨fun h=>by rw [h];rfl,fun h=>Zb.1 (by have:(35:UInt8).toNat=35:=rfl;omega)⟩)
   have bF:=Hh bi;clear bi;replace ⟨aI,hx,bN⟩:=H3 aI hx bN;by_cases aL:x=35
   .have ad:K5 p=false:=(by rw [aF,Ax (by simp [aL])]);have b0:(x == 35)=true:=(by simp [aL]);have bi:=bF.out;replace ⟨ad,aL,aF⟩:=H3 ad aL aF;have aS:qj w b ((Ap 10 s.data.toList).map bp) (ek s (k+1)).1 nv xs wr:=(by rw [Wh hp.out ad.out];exact hM.out);have t:(ek s (k+1)).2.1=0:=(by rw [Wh hp.out ad.out];exact bk.out);replace ⟨aS,t⟩:=H2 aS t;go_wp2;go_roundw
    case rel=>exact ⟨k+1,nv,xs,by go_num,by omega,t.out,aS.out⟩
    case measure=>simp [intOf];omega
   have ad:K5 p=true:=(by rw [aF,Av aL]);have b0:(x == 35)=false:=(by simp [aL]);have bi:=bF.out;have aB:=Ani hp.out ad bk.out;have aY:=Anf (bp p) wr (by rw [K2];omega);replace ⟨ad,aL,aF,aB,aY⟩:=H5 ad aL aF aB aY;go_wp2_with fail;refine aY.mono ?_;rintro e w2 ⟨x5,r,rfl,aR,aO,a9,bL⟩;have z:=hM.below aO;clear bi;have aA:Iq (ek s k).1:=Zx _ _ Wg;rcases bL with ⟨aZ,rfl,rfl⟩ | ⟨aJ,rfl⟩
   .have an:ek s (k+1)=((ek s k).1,50,(k:Int)+1):=(by rw [aB.out,Adw aZ]);have l:Ej s=((ek s k).1,50,(k:Int)+1):=(by rw [hr.out,Aek (k:=k+1) (by rw [an];show (50:Int)≠0;decide),an]);have r0:=Bk z.res 0 (.slice none 0 0) rfl;have fr:=Af z.res;have b7:=Ab z.res;have d:BW w.heap.size w ((w2.setCell ⟨w.heap.size,0,none⟩ (.slice none 0 0)).alloc (.cells aq.zero.cells 69 (0,0))):=(z.low.setCell Ln _).alloc (z.low.setCell Ln _).size _;have rE:((w2.setCell ⟨w.heap.size,0,none⟩ (.slice none 0 0)).alloc (.cells aq.zero.cells 69 (0,0))).cell? ⟨w.heap.size,0,none⟩=some (.slice none 0 0):=Aa (Aj _ (Am z.res 0 (.slice none 0 0))) 0;have b5:=Hh rE;clear rE;replace ⟨z,aO,a9,aR,aZ,an,l,aA⟩:=H8 z aO a9 aR aZ an l aA;replace d:=Hh d;go_wp2
    try rw [Im]
    have rE:=b5.out;refine Ak (v:=.tuple #[.agg #[.slice none 0 0],.int .i64 50,.int .i64 ((k:Int)+1)]) (by simp [results,results35,go_sem,rE]) rfl ?_;refine ⟨.slice none 0 0,[],by rw [l.out],d.out,P9 _ _,fun h=>?_⟩;rw [l.out] at h;exact absurd h (by show (50:Int)≠0;decide)
   .have ce:xs.length<=16:=(by have:=aA.len;rw [<- z.fi,At] at this;exact this);have av:xs.map aq.name=(ek s k).1.map au.name:=(by rw [<- z.fi,Dn];rfl);have a7:xs.length=(ek s k).1.length:=(by rw [<- z.fi,At]);obtain ⟨W3,bd⟩:=Ex (w2.alloc (.cells x5.cells 69 (0,0)));have aC:BW w2.heap.size w2 W3:=(by rw [bd];exact Bn);have bb:=z.below aC;have aP:=aR.low aC
    have bn:K4 W3 x5:=fun b aK e=>by
     obtain ⟨_,c,hc⟩:=a9 b aK e;exact ⟨c,Ae aC hc (Ab hc)⟩
    have bv:∀ b aK,x5.po=some ⟨b,aK,none⟩->w.heap.size+2<=b:=fun b aK e=>by
     have:=(a9 b aK e).1;have:=hM.low.size;have:=Ab hM.f;omega
    have bC:=aP.parts.len;have bx:W3.heap[w2.heap.size]?=some (.cells x5.cells 69 (0,0)):=(by rw [bd];exact Ah _ _);have aN:=Am9 W3 (w.heap.size+2) nv xs x5.name bb.row (by omega);have f1:=Bk bb.f 0 nv rfl;have z0:=Bk bx 0 (.string x5.name) rfl;obtain ⟨E,hE⟩:=Ex (Db ((ek s k).1.map au.name) (ek s k).1.length x5.name x5.parts)
    have ac:E≠0->Ej s=((ek s k).1,E,(k:Int)+1):=fun bM=>by
     have an:ek s (k+1)=((ek s k).1,E,(k:Int)+1):=(by rw [aB.out,Ady aJ (by rw [hE] at bM;exact bM),hE];rfl);rw [hr.out,Aek (k:=k+1) (by rw [an];exact bM),an]
    obtain ⟨I,hI⟩:=Ex (I8 (xs.map aq.name) x5.name 0);rw [<- hI] at aN;obtain ⟨nm,⟨ca,cb,cc,cd⟩,po,pn,pc,ps⟩:=x5;rw [bd] at aN f1 z0;have bW:=Hh bd;clear bd;replace ⟨z,aO,a9,aR,aA,a7,av,aC⟩:=H8 z aO a9 aR aA a7 av aC;replace ⟨bb,aP,bn,bv,bx,aN,hE,ac⟩:=H8 bb aP bn bv bx aN hE ac;replace ⟨hI,aJ,bC⟩:=H3 hI aJ bC;go_wp2_with fail;refine aN.mono ?_;rintro e w4 ⟨rfl,aD⟩;rw [<- bW.out] at aD;have aM:=bb.below aD;have r0:=Bk aM.res 0 (.slice none 0 0) rfl;have fr:=Af aM.res;clear f1 z0;by_cases al:nm∈xs.map aq.name
    .have bH:0<=I:=(by rw [hI.out];exact Anl al 0);have dI:=Av bH;have y:E=51:=(by rw [hE.out];unfold Db;rw [Ad (N3.2 (by rw [<- av.out];exact al))]);have l:=ac (by rw [y];decide);rw [y] at l;have d:BW w.heap.size w (w4.setCell ⟨w.heap.size,0,none⟩ (.slice none 0 0)):=aM.low.setCell Ln _;replace ⟨aM,aD,al,y,l,d,bH⟩:=H7 aM aD al y l d bH;go_wp2
     try rw [Im]
     refine Ak (v:=.tuple #[.agg #[.slice none 0 0],.int .i64 51,.int .i64 ((k:Int)+1)]) (by simp [results,results35,go_sem,r0]) rfl ?_;refine ⟨.slice none 0 0,[],by rw [l.out],d.out,P9 _ _,fun h=>?_⟩;rw [l.out] at h;exact absurd h (by show (51:Int)≠0;decide)
    have bI:I=-1:=(by rw [hI.out];exact Am6 al 0);have dI:decide ((0:Int)<=-1)=false:=(by decide);rw [bI];have aQ:=Ae aD bx.out (Ab bx.out);have z5:=Bk aQ 5 (.slice po pn pc) rfl;have bw:=Am7 po pn pc ps w4 (aP.low aD).parts;obtain ⟨T,hT⟩:=Ex (L2 ps);unfold Aec at bw;rw [<- hT] at bw;replace ⟨aM,aD,al,bI,aQ,bw,hT⟩:=H7 aM aD al bI aQ bw hT;go_wp2_with fail;refine bw.mono ?_;rintro e w5 ⟨rfl,am⟩;have q:=aM.below am;have o:=Ae am aQ.out (Ab aQ.out);clear r0 fr z5;have r0:=Bk q.res 0 (.slice none 0 0) rfl;have f1:=Bk q.f 0 nv rfl;have z0:=Bk o 0 (.string nm) rfl;have z1:=Bk o 1 (.int .i64 ca) rfl;have z2:=Bk o 2 (.int .i64 cb) rfl;have z3:=Bk o 3 (.int .i64 cc) rfl;have z4:=Bk o 4 (.int .i64 cd) rfl;have z5:=Bk o 5 (.slice po pn pc) rfl;have fr:=Af q.res;have ao:¬ Gi ((ek s k).1.map au.name) nm=true:=fun c=>al.out (by rw [av.out];exact N3.1 c);have d:BW w.heap.size w (w5.setCell ⟨w.heap.size,0,none⟩ (.slice none 0 0)):=q.low.setCell Ln _
    cases T with
    | true=>
     have y:E=51:=(by rw [hE.out];unfold Db;rw [Ac ao,Ad hT.symm]);have l:=ac (by rw [y];decide);rw [y] at l;replace ⟨q,am,o,y,l,d,ao⟩:=H7 q am o y l d ao;go_wp2
     try rw [Im]
     refine Ak (v:=.tuple #[.agg #[.slice none 0 0],.int .i64 51,.int .i64 ((k:Int)+1)]) (by simp [results,results35,go_sem,r0]) rfl ?_;refine ⟨.slice none 0 0,[],by rw [l.out],d.out,P9 _ _,fun h=>?_⟩;rw [l.out] at h;exact absurd h (by show (51:Int)≠0;decide)
    | false=>
     have bY:=Aee q.row;obtain ⟨m,hm⟩:=Ex (xs.length);rw [<- hm] at bY;by_cases q1:16<=m
     .have d5:decide ((16:Int)<=m)=true:=Av (by omega);have aG:E=2:=(by rw [hE.out];unfold Db;rw [Ac ao,Ac (by rw [<- hT.out];simp),Ad (.inl (by rw [<- a7.out,<- hm];exact q1))]);have l:=ac (by rw [aG];decide);rw [aG] at l;replace ⟨q,am,o,aG,l,d,ao,hm⟩:=H8 q am o aG l d ao hm;go_wp2
      try rw [Im]
      refine Ak (v:=.tuple #[.agg #[.slice none 0 0],.int .i64 2,.int .i64 ((k:Int)+1)]) (by simp [results,results35,go_sem,r0]) rfl ?_;refine ⟨.slice none 0 0,[],by rw [l.out],d.out,P9 _ _,fun h=>?_⟩;rw [l.out] at h;exact absurd h (by show (2:Int)≠0;decide)
     have d5:decide ((16:Int)<=m)=false:=Ax (by omega);by_cases q2:8<pn
     .have d6:decide ((8:Int)<pn)=true:=Av (by omega);have aG:E=2:=(by rw [hE.out];unfold Db;rw [Ac ao,Ac (by rw [<- hT.out];simp),Ad (.inr (by have:ps.length=pn:=bC.out;show 8<ps.length;omega))]);have l:=ac (by rw [aG];decide);rw [aG] at l;replace ⟨q,am,o,aG,l,d,ao,hm⟩:=H8 q am o aG l d ao hm;go_wp2
      try rw [Im]
      refine Ak (v:=.tuple #[.agg #[.slice none 0 0],.int .i64 2,.int .i64 ((k:Int)+1)]) (by simp [results,results35,go_sem,r0]) rfl ?_;refine ⟨.slice none 0 0,[],by rw [l.out],d.out,P9 _ _,fun h=>?_⟩;rw [l.out] at h;exact absurd h (by show (2:Int)≠0;decide)
     have d6:decide ((8:Int)<pn)=false:=Ax (by omega);have bA:E=0:=(by rw [hE.out];unfold Db;rw [Ac ao,Ac (by rw [<- hT.out];simp),Ac (by have:ps.length=pn:=bC.out;have:=a7.out;show ¬ (16<=(ek s k).1.length\/8<ps.length);omega)]);have an:ek s (k+1)=((ek s k).1++[aq.pl ⟨nm,⟨ca,cb,cc,cd⟩,po,pn,pc,ps⟩],0,0):=(by rw [aB.out,Adx aJ.out (by rw [hE.out] at bA;exact bA)]);have a4:=(aP.low aD.out).low am
     have bo:K4 w5 ⟨nm,⟨ca,cb,cc,cd⟩,po,pn,pc,ps⟩:=fun b aK e=>by
      obtain ⟨c,hc⟩:=bn b aK e;have h4:=Ae aD.out hc (Ab hc);exact ⟨c,Ae am h4 (Ab h4)⟩
     have a1:(w5.alloc (.cells (⟨nm,⟨ca,cb,cc,cd⟩,po,pn,pc,ps⟩:aq).cells 69 (0,0))).ownsRow (w.heap.size+2) 69 6 nv m (Au aq.cells xs):=(by rw [hm];exact q.row.row.alloc (.cells (⟨nm,⟨ca,cb,cc,cd⟩,po,pn,pc,ps⟩:aq).cells 69 (0,0)));have aX:∀ j u,(⟨nm,⟨ca,cb,cc,cd⟩,po,pn,pc,ps⟩:aq).cells.toList[j]?=some u->(w5.alloc (.cells (⟨nm,⟨ca,cb,cc,cd⟩,po,pn,pc,ps⟩:aq).cells 69 (0,0))).cell? ((⟨w5.heap.size,0,none⟩:Addr).add j)=some u:=Adr w5 _;have bl:=Adq (⟨nm,⟨ca,cb,cc,cd⟩,po,pn,pc,ps⟩:aq);have bG:=G4 (n:=m) (by omega);have bK:(m+1)*72<=140737488355328:=(by omega);have be:w.heap.size+2<=(w5.alloc (.cells (⟨nm,⟨ca,cb,cc,cd⟩,po,pn,pc,ps⟩:aq).cells 69 (0,0))).heap.size:=(by have:=Ab q.f;rw [I2];omega);have t:(ek s (k+1)).2.1=0:=(by rw [an]);have b8:=Ab q.f
     have aU:∀ w9:WD,(w5.alloc (.cells (⟨nm,⟨ca,cb,cc,cd⟩,po,pn,pc,ps⟩:aq).cells 69 (0,0))).grownBy w9 nv.ownBlock->w9.heap[w.heap.size+1]?=some (.cells #[nv] 54 (0,0)):=fun w9 hg=>by
      refine (hg.block _ (by rw [I2];omega) (fun e=>?_)).trans (Aj _ q.f);have:=(q.row.row.lt _ e.symm).1;omega
     replace ⟨q,am,o,bA,an,d,ao,hm⟩:=H8 q am o bA an d ao hm;replace ⟨a4,bo,a1,aX,bl,bG,bK,be⟩:=H8 a4 bo a1 aX bl bG bK be;replace ⟨t,aU⟩:=H2 t aU;go_wp2_with (at_builtin;refine Ms _ rfl _ _ 52 rfl (w.heap.size+2) 69 b4 _ 6 72 Ow bX bZ bR bS rfl Ado nv m _ rfl a1.out ⟨w5.heap.size,0,none⟩ 1 1 (⟨nm,⟨ca,cb,cc,cd⟩,po,pn,pc,ps⟩:aq).cells.toList rfl rfl aX.out bl.out bG.out bK.out be.out ?_;intro v1 w9 aH ap _;obtain ⟨g9,ba,rfl⟩:=Joins.ownsRow_form aH (I3 _);have q9:=aU w9 ap;have f9:=Aa q9 0;have z9:=Af q9 0;simp at f9;replace ⟨q9,aH,ap⟩:=H3 q9 aH ap);have bU:=Anm q.out a4.out bo.out bv.out hm.out ap.out aH.out;have bc:qj w b ((Ap 10 s.data.toList).map bp) (ek s (k+1)).1 (.slice (some ⟨g9,0,none⟩) (m+1) ba) (xs++[⟨nm,⟨ca,cb,cc,cd⟩,po,pn,pc,ps⟩]) (w9.setCell ⟨w.heap.size+1,0,none⟩ (.slice (some ⟨g9,0,none⟩) (m+1) ba)):=(by rw [an.out];exact bU);clear bU;replace bc:=Hh bc;go_roundw
     case rel=>exact ⟨k+1,(.slice (some ⟨g9,0,none⟩) (m+1) ba),xs++[(⟨nm,⟨ca,cb,cc,cd⟩,po,pn,pc,ps⟩:aq)],by go_num,by omega,t.out,bc.out⟩
     case measure=>simp [intOf];omega
  .have b1:¬ (k:Int)<n:=(by omega);have aV:=aE.out;rw [At] at aV;have a5:Ej s=ek s k:=(by rw [hr.out,Anh (k:=k) (by omega)]);have hz:(ek s k).2.2=0:=Ad2 _ _ bk.out;have r0:=Bk hM.res 0 (.slice none 0 0) rfl;have f1:=Bk hM.f 0 nv rfl;have fr:=Af hM.res;have d:BW w.heap.size w (wr.setCell ⟨w.heap.size,0,none⟩ nv):=hM.low.setCell Ln _;have a2:ib (wr.setCell ⟨w.heap.size,0,none⟩ nv) w.heap.size nv xs:=Qa (Anj hM.row (by omega)) hM.res (by decide) (by decide);replace ⟨aV,a5,hz,d,a2⟩:=H5 aV a5 hz d a2;have b3:=Joins.ownsRow_forms hM.row.row;have bs:=hM.fi;replace ⟨bs,hM⟩:=H2 bs hM;rcases b3 with ⟨rfl,h0⟩ | ⟨g,cap,rfl⟩
   all_goals
    try (replace h0:=Hh h0)
    go_wp2;refine Ak (v:=.tuple #[.agg #[_],.int .i64 0,.int .i64 0]) (by simp [results,results35,go_sem,r0];rfl) rfl ?_;exact ⟨_,xs,by rw [a5.out,bk.out,hz.out],d.out,a2.out,fun _=>by rw [a5.out];exact bs.out⟩
def Ano (s:ByteArray) (w:WD):CS prog 35 #[.string s] w (Wi s w):=by
 by_cases a:4096<s.size
 .exact Ank s w a
 .exact Ann s w a
def Axd   {v:au} (p:ByteArray) (h:vs[k]?=some v):D4 (vs.take (k+1)) p=if N4 v p=true then We (D4 (vs.take k) p) v.cap else D4 (vs.take k) p:=by
 unfold D4;rw [I7 h,Kw];rfl
def Aj3  (p:ByteArray) (h:∀ v,v∈vs->Wf v.cap):Am0 (D4 vs p) vs.length:=by
 induction vs using P8 with
 | h0=>constructor<;>simp [D4,V4.zero]
 | h1 l x ih=>
  have a:=ih fun v b=>h v (by simp [b]);have c:=h x (by simp);have e:D4 (l++[x]) p=if N4 x p=true then We (D4 l p) x.cap else D4 l p:=by unfold D4;rw [Kw];rfl
  rw [e,Cn,Il,P1];obtain ⟨d,f,g,i,j,k,m,n⟩:=a;obtain ⟨o,q,r,s,t,u,y,z⟩:=c
  split<;>constructor<;>(try simp only [We])<;>omega
def Axe  {v:V4} (h:ja w v W):BW w.heap.size w ((((W.setCell ⟨w.heap.size,0,none⟩ (.int .i64 v.a)).setCell ⟨w.heap.size,1,none⟩ (.int .i64 v.b)).setCell ⟨w.heap.size,2,none⟩ (.int .i64 v.c)).setCell ⟨w.heap.size,3,none⟩ (.int .i64 v.d)):=
 (((h.low.setCell Ln _).setCell Ln _).setCell Ln _).setCell Ln _
def Aj4 (a b c d:Int) (w:WD):(Instr.index 30 (.agg #[.int .i64 a,.int .i64 b,.int .i64 c,.int .i64 d]) (.int .i64 0)).run prog w=.ok (.int .i64 a) w:=by kernel_rfl
def Aj5 (a b c d:Int) (w:WD):(Instr.index 30 (.agg #[.int .i64 a,.int .i64 b,.int .i64 c,.int .i64 d]) (.int .i64 1)).run prog w=.ok (.int .i64 b) w:=by kernel_rfl
def Aj6 (a b c d:Int) (w:WD):(Instr.index 30 (.agg #[.int .i64 a,.int .i64 b,.int .i64 c,.int .i64 d]) (.int .i64 2)).run prog w=.ok (.int .i64 c) w:=by kernel_rfl
def Aj7 (a b c d:Int) (w:WD):(Instr.index 30 (.agg #[.int .i64 a,.int .i64 b,.int .i64 c,.int .i64 d]) (.int .i64 3)).run prog w=.ok (.int .i64 d) w:=by kernel_rfl
def Axf (w:WD) (fb mb base:Nat) (nv:VL) (xs:List aq) (p:ByteArray) (hF:jk w fb mb base nv xs) (aI:xs.length<=4096) (am:∀ x,x∈xs->Wf x.cap):CS prog 191 #[.pointer (some ⟨fb,0,none⟩),.string p] w (Zw (xs.map aq.pl) p w):=by
 obtain ⟨n,hn⟩:=Ex (xs.length);have av:ja w V4.zero ((w.alloc (.cells V4.zero.cells 30 (0,0))).alloc (.cells V4.zero.cells 30 (0,0))):=⟨Bn.alloc (by simp) _,Aj _ (Ah _ _),A3 _ _ (by simp)⟩;have aA:=Zt _ fb mb base nv xs (hF.below av.low);rw [<- hn] at aA aI
 have aD:∀ v,v∈xs.map aq.pl->Wf v.cap:=fun v hv=>by
  obtain ⟨x,hx,rfl⟩:=Ba.1 hv;exact am x hx
 replace ⟨hF,hn,aA,av,aD,am⟩:=H6 hF hn aA av aD am;go_enter func191,ntmps191;go_wp2_with fail;refine aA.mono ?_;rintro e w1 ⟨rfl,rfl⟩;go_wp2;go_loopw [11] (fun i wr=>∃ k:Nat,i=.int .i64 k/\k<=n/\Hid (ja w (D4 ((xs.map aq.pl).take k) p) wr)) (fun i _=>n-(intOf i).toNat)
 case atStart=>exact ⟨0,rfl,Aq _,av.out⟩
 case round=>
  obtain ⟨k,rfl,hk,hT⟩:=hrel;by_cases hc:k<n
  .have aJ:(k:Int)<n:=(by omega);have aM:(0:Int)<=(k:Int):=(by omega);have an:=hF.below hT.low;obtain ⟨g,cap,rfl⟩:=Joins.ownsRow_form an.row (by have:=hn.out;omega);obtain ⟨x,hx⟩:=Ge xs k (by have:=hn.out;omega);obtain ⟨g',e1,aL,aK,o⟩:=an.cell hx;have e2:g=g':=(by simpa [Value.ownBlock] using e1);subst e2;have c1:wr.cell? ⟨g,k*6+1,none⟩=some (.int .i64 x.cap.a):=o 1 (by omega);have c2:wr.cell? ⟨g,k*6+2,none⟩=some (.int .i64 x.cap.b):=o 2 (by omega);have c3:wr.cell? ⟨g,k*6+3,none⟩=some (.int .i64 x.cap.c):=o 3 (by omega);have c4:wr.cell? ⟨g,k*6+4,none⟩=some (.int .i64 x.cap.d):=o 4 (by omega);have c5:wr.cell? ⟨g,k*6+5,none⟩=some (.slice x.po x.pn x.pc):=o 5 (by omega);have f0:=Aa an.head 0;simp at f0;rw [<- hn.out] at f0;have ao:=Ad8 wr x.po x.pn x.pc x.parts p (an.ok x (Ai hx)).1.parts;obtain ⟨b,hb⟩:=Ex (Gi x.parts p);rw [<- hb] at ao;have aG:=Zv hx;have aH:=Axd p aG;have aB:=Aj3 (vs:=(xs.map aq.pl).take k) p (fun v hv=>aD.out v (Yv hv));have aE:=am x (Ai hx);have ap:((xs.map aq.pl).take k).length=k:=(by rw [E8,At];have:=hn.out;omega);rw [ap] at aB;replace ⟨an,hx,ao,hb,aG,o,e1,aH⟩:=H8 an hx ao hb aG o e1 aH;replace ⟨aB,aE,ap⟩:=H3 aB aE ap;obtain ⟨U,hU⟩:=Ex (D4 ((xs.map aq.pl).take k) p);have m:=hT.out;have aC:=aB.out;have ac:=aH.out;rw [<- hU] at m aC ac;obtain ⟨nm,⟨r,s,t,u⟩,po,pn,pc,ps⟩:=x;obtain ⟨ua,ub,uc,ud⟩:=U;obtain ⟨v1,v2,v3,v4,v5,v6,v7,v8⟩:=aC;obtain ⟨x1,x2,x3,x4,x5,x6,x7,x8⟩:=aE.out;simp only at v1 v2 v3 v4 v5 v6 v7 v8 x1 x2 x3 x4 x5 x6 x7 x8 c1 c2 c3 c4;have y1:ua<=4398046511104:=(by omega);have y2:ub<=4398046511104:=(by omega);have y3:uc<=4398046511104:=(by omega);have y4:ud<=4398046511104:=(by omega);clear v2 v4 v6 v8;replace ⟨hU,m,ac,hT⟩:=H4 hU m ac hT
   cases hp:p.toList.isEmpty with
   | true=>
    have z:N4 (aq.pl ⟨nm,⟨r,s,t,u⟩,po,pn,pc,ps⟩) p=true:=(by unfold N4;rw [hp];rfl);replace z:=Hh z;go_wp2_with fail;have y:ja w (K7 ⟨ua,ub,uc,ud⟩ ⟨r,s,t,u⟩ 0) wr:=m.out;replace y:=Hh y;go_loopw [37] (fun i wq=>∃ j:Nat,j<=4/\i=.int .i64 j/\Hid (ja w (K7 ⟨ua,ub,uc,ud⟩ ⟨r,s,t,u⟩ j) wq)) (fun i _=>4-(intOf i).toNat)
    case atStart=>exact ⟨0,by omega,rfl,y.out⟩
    case round=>
     obtain ⟨j,hj,l,q⟩:=hrel;rcases (show j=0\/j=1\/j=2\/j=3\/j=4 by omega) with rfl | rfl | rfl | rfl | rfl
     .have h:u37=.int .i64 0:=l;clear l;subst h;have al:=fun w=>Aj4 r s t u w;have q0:=Bk q.r1 0 (.int .i64 ua) rfl;have f0:=Af q.r1 0;have f:ja w (K7 ⟨ua,ub,uc,ud⟩ ⟨r,s,t,u⟩ 1) (wr.setCell ⟨w.heap.size+1,0,none⟩ (.int .i64 (ua+r))):=q.set 0 _ rfl;replace f:=Hh f;go_wp2;go_roundw
      case rel=>exact ⟨1,by omega,rfl,f.out⟩
      case measure=>simp [intOf]
     .have h:u37=.int .i64 1:=l;clear l;subst h;have al:=fun w=>Aj5 r s t u w;have q1:=Bk q.r1 1 (.int .i64 ub) rfl;have f1:=Af q.r1 1;have f:ja w (K7 ⟨ua,ub,uc,ud⟩ ⟨r,s,t,u⟩ 2) (wr.setCell ⟨w.heap.size+1,1,none⟩ (.int .i64 (ub+s))):=q.set 1 _ rfl;replace f:=Hh f;go_wp2;go_roundw
      case rel=>exact ⟨2,by omega,rfl,f.out⟩
      case measure=>simp [intOf]
     .have h:u37=.int .i64 2:=l;clear l;subst h;have al:=fun w=>Aj6 r s t u w;have q2:=Bk q.r1 2 (.int .i64 uc) rfl;have f2:=Af q.r1 2;have f:ja w (K7 ⟨ua,ub,uc,ud⟩ ⟨r,s,t,u⟩ 3) (wr.setCell ⟨w.heap.size+1,2,none⟩ (.int .i64 (uc+t))):=q.set 2 _ rfl;replace f:=Hh f;go_wp2;go_roundw
      case rel=>exact ⟨3,by omega,rfl,f.out⟩
      case measure=>simp [intOf]
     .have h:u37=.int .i64 3:=l;clear l;subst h;have al:=fun w=>Aj7 r s t u w;have q3:=Bk q.r1 3 (.int .i64 ud) rfl;have f3:=Af q.r1 3;have f:ja w (K7 ⟨ua,ub,uc,ud⟩ ⟨r,s,t,u⟩ 4) (wr.setCell ⟨w.heap.size+1,3,none⟩ (.int .i64 (ud+u))):=q.set 3 _ rfl;replace f:=Hh f;go_wp2;go_roundw
      case rel=>exact ⟨4,by omega,rfl,f.out⟩
      case measure=>simp [intOf]
     .have h:u37=.int .i64 4:=l;clear l;subst h;have ad:ja w (D4 ((xs.map aq.pl).take (k+1)) p) wr:=(by rw [ac.out,Ad z.out];exact q.out);replace ad:=Hh ad;go_wp2;go_roundw
      case rel=>exact ⟨k+1,by go_num,by omega,ad.out⟩
      case measure=>simp [intOf];omega
   | false=>
    cases b with
    | true=>
     have z:N4 (aq.pl ⟨nm,⟨r,s,t,u⟩,po,pn,pc,ps⟩) p=true:=(by unfold N4;rw [hp];exact hb.symm);replace z:=Hh z;go_wp2_with fail
     (with_reducible refine ao.out.mono ?_)
     rintro e wr ⟨rfl,rfl⟩;go_wp2;have y:ja w (K7 ⟨ua,ub,uc,ud⟩ ⟨r,s,t,u⟩ 0) wr:=m.out;replace y:=Hh y;go_loopw [37] (fun i wq=>∃ j:Nat,j<=4/\i=.int .i64 j/\Hid (ja w (K7 ⟨ua,ub,uc,ud⟩ ⟨r,s,t,u⟩ j) wq)) (fun i _=>4-(intOf i).toNat)
     case atStart=>exact ⟨0,by omega,rfl,y.out⟩
     case round=>
      obtain ⟨j,hj,l,q⟩:=hrel;rcases (show j=0\/j=1\/j=2\/j=3\/j=4 by omega) with rfl | rfl | rfl | rfl | rfl
      .have h:u37=.int .i64 0:=l;clear l;subst h;have al:=fun w=>Aj4 r s t u w;have q0:=Bk q.r1 0 (.int .i64 ua) rfl;have f0:=Af q.r1 0;have f:ja w (K7 ⟨ua,ub,uc,ud⟩ ⟨r,s,t,u⟩ 1) (wr.setCell ⟨w.heap.size+1,0,none⟩ (.int .i64 (ua+r))):=q.set 0 _ rfl;replace f:=Hh f;go_wp2;go_roundw
       case rel=>exact ⟨1,by omega,rfl,f.out⟩
       case measure=>simp [intOf]
      .have h:u37=.int .i64 1:=l;clear l;subst h;have al:=fun w=>Aj5 r s t u w;have q1:=Bk q.r1 1 (.int .i64 ub) rfl;have f1:=Af q.r1 1;have f:ja w (K7 ⟨ua,ub,uc,ud⟩ ⟨r,s,t,u⟩ 2) (wr.setCell ⟨w.heap.size+1,1,none⟩ (.int .i64 (ub+s))):=q.set 1 _ rfl;replace f:=Hh f;go_wp2;go_roundw
       case rel=>exact ⟨2,by omega,rfl,f.out⟩
       case measure=>simp [intOf]
      .have h:u37=.int .i64 2:=l;clear l;subst h;have al:=fun w=>Aj6 r s t u w;have q2:=Bk q.r1 2 (.int .i64 uc) rfl;have f2:=Af q.r1 2;have f:ja w (K7 ⟨ua,ub,uc,ud⟩ ⟨r,s,t,u⟩ 3) (wr.setCell ⟨w.heap.size+1,2,none⟩ (.int .i64 (uc+t))):=q.set 2 _ rfl;replace f:=Hh f;go_wp2;go_roundw
       case rel=>exact ⟨3,by omega,rfl,f.out⟩
       case measure=>simp [intOf]
      .have h:u37=.int .i64 3:=l;clear l;subst h;have al:=fun w=>Aj7 r s t u w;have q3:=Bk q.r1 3 (.int .i64 ud) rfl;have f3:=Af q.r1 3;have f:ja w (K7 ⟨ua,ub,uc,ud⟩ ⟨r,s,t,u⟩ 4) (wr.setCell ⟨w.heap.size+1,3,none⟩ (.int .i64 (ud+u))):=q.set 3 _ rfl;replace f:=Hh f;go_wp2;go_roundw
       case rel=>exact ⟨4,by omega,rfl,f.out⟩
       case measure=>simp [intOf]
      .have h:u37=.int .i64 4:=l;clear l;subst h;have ad:ja w (D4 ((xs.map aq.pl).take (k+1)) p) wr:=(by rw [ac.out,Ad z.out];exact q.out);replace ad:=Hh ad;go_wp2;go_roundw
       case rel=>exact ⟨k+1,by go_num,by omega,ad.out⟩
       case measure=>simp [intOf];omega
    | false=>
     have z:N4 (aq.pl ⟨nm,⟨r,s,t,u⟩,po,pn,pc,ps⟩) p=false:=(by unfold N4;rw [hp];exact hb.symm);have y:ja w (D4 ((xs.map aq.pl).take (k+1)) p) wr:=(by rw [ac.out,Ac (by rw [z];simp)];exact m.out);replace ⟨z,y⟩:=H2 z y;go_wp2_with fail
     (with_reducible refine ao.out.mono ?_)
     rintro e wr ⟨rfl,rfl⟩;go_wp2;go_roundw
     case rel=>exact ⟨k+1,by go_num,by omega,y.out⟩
     case measure=>simp [intOf];omega
  .have aJ:¬ (k:Int)<n:=(by omega);have aF:(xs.map aq.pl).take k=xs.map aq.pl:=C8 (by rw [At];have:=hn.out;omega);have m:=hT.out;rw [aF] at m;obtain ⟨U,hU⟩:=Ex (D4 (xs.map aq.pl) p);rw [<- hU] at m;obtain ⟨ua,ub,uc,ud⟩:=U;have r1:=m.r1;have a0:=Bk r1 0 (.int .i64 ua) rfl;have a1:=Bk r1 1 (.int .i64 ub) rfl;have a2:=Bk r1 2 (.int .i64 uc) rfl;have a3:=Bk r1 3 (.int .i64 ud) rfl;have r0:=m.r0;have b0:=Bk r0 0 (.int .i64 0) rfl;have b1:=Bk r0 1 (.int .i64 0) rfl;have b2:=Bk r0 2 (.int .i64 0) rfl;have b3:=Bk r0 3 (.int .i64 0) rfl;have fr:=Af m.r0;have e:=Axe m;replace ⟨aF,m,hU,hT,r1,r0,e⟩:=H7 aF m hU hT r1 r0 e;go_wp2;refine Ak (v:=V4.val ⟨ua,ub,uc,ud⟩) (by simp [results,results191,go_sem,b0,b1,b2,b3]) rfl ⟨?_,e.out⟩;rw [hU.out]
def Axg  {b c base:Nat}  (h:ju w b c base vs) (a:Iq vs) (p:ByteArray):CS prog 191 #[.pointer (some ⟨b,0,none⟩),.string p] w (Zw vs p w):=by
 obtain ⟨e,xs,h1,rfl,f⟩:=h.ex;have:=a.len;rw [At] at this;exact Axf w b c base e xs p h1 (by omega) fun x d=>Zy (a.all x.pl (Ku d)).ok.cap
