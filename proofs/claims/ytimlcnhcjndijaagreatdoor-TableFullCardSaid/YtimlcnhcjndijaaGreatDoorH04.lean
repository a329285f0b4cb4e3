/- Parts of a proof. No condition. -/
import Derived.Test.YtimlcnhcjndijaaGreatDoorH03
import Derived.Lib.SmallJoins
import Derived.Deep.DeepCutAuto
set_option linter.all false
set_option maxRecDepth 100000
set_option maxHeartbeats 1600000
namespace Go.Proofs.YtimlcnhcjndijaaGreatDoor
open Option renaming some->O,none->I
open Value renaming string->E,slice->V
open Obj renaming cells->J
open Go renaming World->WD
section
open Go.RowKit Go.Maps Go.Lib
variable{b:Nat}{so:Option Addr}{e:TypeId}{w w':WD}
structure Fz (w:WD) (so:Option Addr) (n:Nat) (xs:List ByteArray):Prop where
 len:xs.length=n
 max:n<=9223372036854775807
 cell:∀i x,xs[i]?=O x->∃b off,so=O ⟨b,off,I⟩/\b<w.heap.size/\w.cell? ⟨b,off+i,I⟩=O (E x)
def Fz.below  {B:Nat}  {n:Nat} {xs:List ByteArray} (h:Fz w so n xs) (d:Below B w w') (j:w.heap.size<=B):Fz w' so n xs:=
 ⟨h.len,h.max,λi x g=>by
  obtain⟨b,c,e,a,f⟩:=h.cell i x g
  exact⟨b,c,e,B4 a d.size,(Af d ao9).trans f⟩⟩
def Fz.low   {n:Nat} {xs:List ByteArray} (h:Fz w so n xs) (a:Below w.heap.size w w'):Fz w' so n xs:=h.below a Ln
def Fz.get   {n:Nat} {xs:List ByteArray} (h:Fz w so n xs) {i:Nat} (a:i<n):=Ge xs i (by rw[h.len];exact a)
def Ad4  {base g cap n m size:Nat}  {xs:List Value} (h:w.ownsRow base e size (V (O ⟨g,0,I⟩) n cap) m xs):m<=cap:=by
 rcases h.2 with⟨a,_⟩|⟨f,b,c,a,_,_,d,_⟩
 .cases a
 .cases a;exact d
def Amm  {base g cap n m size:Nat}  {xs:List Value} (h:w.ownsRow base e size (V (O ⟨g,0,I⟩) n cap) m xs):∃c,w.heap[g]?=O (J c e (0,0)):=by
 rcases h.2 with⟨b,_⟩|⟨i,d,a,b,_,f,_,_⟩
 .cases b
 .cases b;exact⟨a,f⟩
def Amn  {base g cap n:Nat} {xs:List ByteArray} (h:w.ownsRow base 9 1 (V (O ⟨g,0,I⟩) n cap) n (xs.map .string)) (c:n<=9223372036854775807):Fz w (O ⟨g,0,I⟩) n xs:=by
 have b:xs.length=n:=by have:=h.1;simpa using this
 refine⟨b,c,λi x a=>?_⟩;have d:=(Ap.1 a).1;refine⟨g,0,rfl,(h.lt g rfl).2,?_⟩;rw[Dm,Fw h i ao9,Bm,a];rfl
def Amo   {xs:List ByteArray} {fr:Nat×Nat} (h:w.heap[b]?=O (J (xs.map Value.string).toArray 9 fr)) (a:xs.length<=9223372036854775807):Fz w (O ⟨b,0,I⟩) xs.length xs:=
 ⟨rfl,a,λi x c=>⟨b,0,rfl,Ac h,by rw[Dm,Aa h];simp[c]⟩⟩
def Fz.sub  {b a n:Nat} {xs:List ByteArray} (h:Fz w (O ⟨b,a,I⟩) n xs) (k:Nat) (l:k<=n):Fz w (O ⟨b,a+k,I⟩) (n-k) (xs.drop k):=
 ⟨by rw[Iv,h.len],by have:=h.max;omega,λi x d=>by
  rw[Py]at d;obtain⟨j,f,e,c,g⟩:=h.cell (k+i) x d;cases e
  exact⟨b,a+k,rfl,c,by rw[Nat.add_assoc];exact g⟩⟩
def Xa:(Tryz.prog.info? 9).map (λi=>(i.zero,i.size,i.bytes))=O (O (E ByteArray.empty),1,16):=by kernel_rfl
def Gh {n:Nat} (h:n<=9000000000):n+1<=maxLen:=by have:maxLen=9223372036854775807:=rfl;omega
def Ad5 (w:WD) (x:ByteArray):∀j u,[Value.string x][j]?=O u->(w.alloc (J #[E x] 9 (0,0))).cell? ((⟨w.heap.size,0,I⟩:Addr).add j)=O u:=cell_one_new w (E x) 9
def Ad6 (x:ByteArray):∀u∈[Value.string x],u.oneCell'=true:=by simp[Value.oneCell']
def Ad7 (a b:List UInt8):au a++au b=au (a++b):=O1 (by rw[Fy];simp[au])
def Z8:∀(n u:Nat),u<10 ^ (n+1)->(Lib.decDigits u).length<=n+1
 | 0,u,h=>by rw[Lib.decDigits,M7 (by simpa using h)];simp
 | n+1,u,h=>by
  rw[Lib.decDigits];split
  .simp
  .have:=Z8 n (u / 10) (by rw[Nat.pow_succ]at h;omega);rw[Av];simp;omega
def Ad8 {u:Nat} (h:u<=9223372036854775808):(Lib.decDigits u).length<=19:=by
 refine Z8 18 u ?_
 have:(10:Nat) ^ (18+1)=10000000000000000000:=ad9
 rw[this];omega
def Rz {n:Int} (h0:-9223372036854775808<=n) (h1:n<=9223372036854775807):(Lib.itoa n).length<=20:=by
 unfold Lib.itoa;split
 .have:=Ad8 (u:=n.natAbs) ao9;simp;omega
 .have:=Ad8 (u:=n.toNat) ao9;omega
def I1 (v:V4):List UInt8:=Lib.itoa v.a++[44]++Lib.itoa v.b++[44]++Lib.itoa v.c++[44]++Lib.itoa v.d
structure vl (v:V4):Prop where
 a:-9223372036854775808<=v.a/\v.a<=9223372036854775807
 b:-9223372036854775808<=v.b/\v.b<=9223372036854775807
 c:-9223372036854775808<=v.c/\v.c<=9223372036854775807
 d:-9223372036854775808<=v.d/\v.d<=9223372036854775807
def Ad9 {v:V4} (h:vl v):(I1 v).length<=83:=by
 have a:=Rz h.a.1 h.a.2;have b:=Rz h.b.1 h.b.2;have c:=Rz h.c.1 h.c.2;have d:=Rz h.d.1 h.d.2;simp[I1];omega
