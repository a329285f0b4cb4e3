/- Parts of a proof. No condition. -/
import Derived.Test.YtimlcnhcjndijaaGreatDoorJ04
import Derived.Lib.SmallJoins
import Derived.Deep.DeepCutAuto
set_option linter.all false
set_option maxRecDepth 100000
set_option maxHeartbeats 3200000
namespace Go.Proofs.YtimlcnhcjndijaaGreatDoor
open Option renaming some->O,none->I
open Value renaming string->D,slice->V,int->Z
open Obj renaming cells->J
open Ending renaming returned->Y
open IntKind renaming i64->G
open Go renaming World->WD
open Go.Proofs.Tryz
section
open Go.RowKit Go.Maps Go.Lib
variable{b base cap g m n size:Nat}{so:Option Addr}{α:Type}{e:TypeId}{w w':WD}
structure Ej (w:WD) (so:Option Addr) (n:Nat) (xs:List ByteArray):Prop where
 len:xs.length=n
 max:n<=9223372036854775807
 cell:∀i x,xs[i]?=O x->∃b off,so=O ⟨b,off,I⟩/\b<w.heap.size/\w.cell? ⟨b,off+i,I⟩=O (D x)
def Ej.below  {B:Nat}   {xs:List ByteArray} (h:Ej w so n xs) (d:Below B w w') (j:w.heap.size<=B):Ej w' so n xs:=
 ⟨h.len,h.max,λi x g=>by
  obtain⟨b,c,e,a,f⟩:=h.cell i x g
  exact⟨b,c,e,Bq a d.size,(Af d ao9).trans f⟩⟩
def Ej.low    {xs:List ByteArray} (h:Ej w so n xs) (a:Below w.heap.size w w'):Ej w' so n xs:=h.below a Ln
def Ej.get    {xs:List ByteArray} (h:Ej w so n xs) {i:Nat} (a:i<n):=Ge xs i (by rw[h.len];exact a)
def Afs    {xs:List Value} (h:w.ownsRow base e size (V (O ⟨g,0,I⟩) n cap) m xs):m<=cap:=by
 rcases h.2 with⟨a,_⟩|⟨f,b,c,a,_,_,d,_⟩
 .cases a
 .cases a;exact d
def Aft    {xs:List Value} (h:w.ownsRow base e size (V (O ⟨g,0,I⟩) n cap) m xs):∃c,w.heap[g]?=O (J c e (0,0)):=by
 rcases h.2 with⟨b,_⟩|⟨i,d,a,b,_,f,_,_⟩
 .cases b
 .cases b;exact⟨a,f⟩
def Afu   {xs:List ByteArray} (h:w.ownsRow base 9 1 (V (O ⟨g,0,I⟩) n cap) n (xs.map .string)) (c:n<=9223372036854775807):Ej w (O ⟨g,0,I⟩) n xs:=by
 have b:xs.length=n:=by have:=h.1;simpa using this
 refine⟨b,c,λi x a=>?_⟩;have d:=(An.1 a).1;refine⟨g,0,rfl,(h.lt g rfl).2,?_⟩;rw[Db,F0 h i ao9,A7,a];rfl
def Apm   {xs:List ByteArray} {fr:Nat×Nat} (h:w.heap[b]?=O (J (xs.map Value.string).toArray 9 fr)) (a:xs.length<=9223372036854775807):Ej w (O ⟨b,0,I⟩) xs.length xs:=
 ⟨rfl,a,λi x c=>⟨b,0,rfl,Ab h,by rw[Db,Aa h];simp[c]⟩⟩
def Ej.sub  {b a n:Nat} {xs:List ByteArray} (h:Ej w (O ⟨b,a,I⟩) n xs) (k:Nat) (l:k<=n):Ej w (O ⟨b,a+k,I⟩) (n-k) (xs.drop k):=
 ⟨by rw[Iw,h.len],by have:=h.max;omega,λi x d=>by
  rw[Om]at d;obtain⟨j,f,e,c,g⟩:=h.cell (k+i) x d;cases e
  exact⟨b,a+k,rfl,c,by rw[Nat.add_assoc];exact g⟩⟩
def Xr:(prog.info? 9).map (λi=>(i.zero,i.size,i.bytes))=O (O (D ByteArray.empty),1,16):=by kernel_rfl
def If  (h:n<=9000000000):n+1<=maxLen:=by have:maxLen=9223372036854775807:=rfl;omega
def Afv (w:WD) (x:ByteArray):∀j u,[Value.string x][j]?=O u->(w.alloc (J #[D x] 9 (0,0))).cell? ((⟨w.heap.size,0,I⟩:Addr).add j)=O u:=cell_one_new w (D x) 9
def Afw (x:ByteArray):∀u∈[Value.string x],u.oneCell'=true:=by simp[Value.oneCell']
def Apn (s:ByteArray) (k:Nat) (a:k<s.size) (x:UInt8):(el s k == (x.toNat:Int))=decide (s.data.toList[k]?=O x):=by
 have b:k<s.data.toList.length:=a;have d:k<s.data.size:=a;have c:s.data.toList.getD k 0=s.data.toList[k]:=by simp only[List.getD,Pp,Array.getElem_toList];rw[Pn d];rfl
 unfold el;rw[c,A3 b];rw[Oq];simp only[Mw,F2,Wq];constructor
 .intro e;exact Aa5.1 ao9
 .intro e;rw[e]
def Apo  (l:List α) (k f:Nat) (x:α) (a:l[k]?=O x) (b:f<=k):(l.drop f).take (k+1-f)=(l.drop f).take (k-f)++[x]:=by
 obtain⟨d,rfl⟩:∃d,k=f+d:=⟨k-f,ao9⟩;rw[show f+d+1-f=d+1 by omega,show f+d-f=d by omega,On,Om,a];rfl
def App  (l:List α) (k f:Nat) (x:α) (a:l[k]?=O x) (c:f<=k):l.drop f=(l.drop f).take (k-f)++x :: l.drop (k+1):=by
 obtain⟨d,rfl⟩:∃d,k=f+d:=⟨k-f,ao9⟩;have b:=(An.1 a).1;have e:(l.drop f).drop d=x :: l.drop (f+d+1):=by rw[List.drop_drop,Aag b,(An.1 a).2]
 rw[show f+d-f=d by omega,<-e,Mn]
structure xf (w:WD) (s:ByteArray) (x:UInt8) (k f:Nat) (n:Nat) (done:List ByteArray) (ov:Value) (wr:WD):Prop where
 low:Below w.heap.size w wr
 own:wr.ownsRow w.heap.size 9 1 ov n (done.map Value.string)
 cut:(Au x s.data.toList).map bu=done++(Au x (s.data.toList.drop f)).map bu
 no:x∉(s.data.toList.drop f).take (k-f)
 fk:f<=k
 nk:n<=k
def Apq (xs:List ByteArray) (w:WD) (e:Ending) (w':WD):Prop:=
 ∃so n c,e=Y (V so n c)/\n<=c/\Ej w' so n xs/\(∀b off,so=O ⟨b,off,I⟩->off=0/\w.heap.size<=b/\∃c,w'.heap[b]?=O (J c 9 (0,0)))/\Below w.heap.size w w'
def Abd (s:ByteArray) (x:UInt8) (w:WD) (hs:s.size<=4294967280):Calls prog 66 #[D s,Z .u8 (x.toNat:Int)] w (Apq ((Au x s.data.toList).map bu) w):=by
 obtain⟨i9,aF,aH,an,ao⟩:=Cf Xr;have av:∀(k:Nat),k<s.size->∀w,(Instr.index 9 (D s) (Z G (k:Int))).run prog w=.ok (Z .u8 (el s k)) w:=λk hk w=>Qz Ev s k k rfl hk w
 have aE:∀(f k:Nat),f<=k->k<=s.size->∀w,(Instr.slice 9 (D s) (O (Z G (f:Int))) (O (Z G (k:Int))) I).run prog w=.ok (D (bu ((s.data.toList.drop f).take (k-f)))) w:=λf k h1 h2 w=>by
  rw[run_slice_string w 9 s G G f k Ev ao9 ao9 ao9];congr 2;exact Py (by rw[My,Lib.extract_data];rfl)
 have aD:∀(f:Nat),f<=s.size->∀w,(Instr.slice 9 (D s) (O (Z G (f:Int))) I I).run prog w=.ok (D (bu (s.data.toList.drop f))) w:=λf h1 w=>by
  rw[run_slice_string_from_if w 9 s G f Ev,Ad ⟨ao9,ao9⟩];congr 2;exact Py (by rw[My,Lib.extract_to_end];rfl)
 have ap:xf w s x 0 0 0 [] (V I 0 0) w:=⟨Below.refl _ _,Mr _ _ _ _,as9,as9,Nat.le_refl _,Nat.le_refl _⟩;replace⟨av,aE,aD,ap⟩:=H4 av aE aD ap;go_enter func66,ntmps66;go_wp2;go_loopw [5,6,7] (λov fv i wr=>∃(k f n:Nat) (r:List ByteArray),i=Z G k/\fv=Z G f/\k<=s.size/\f<=k/\n<=k/\Hid (xf w s x k f n r ov wr)) (λ_ _ i _=>s.size-(intOf i).toNat)
 case atStart=>exact⟨0,0,0,[],rfl,rfl,As _,Nat.le_refl _,Nat.le_refl _,ap.out⟩
 case round=>
  obtain⟨k,f,n,r,rfl,rfl,hk,hf,aK,t⟩:=hrel;by_cases aA:k<s.size
  .have aI:(k:Int)<s.size:=ao9;have aJ:=av k aA;have hq:=Apn s k aA x;obtain⟨c,hc⟩:=Ex (el s k);rw[<-hc]at aJ hq;by_cases he:s.data.toList[k]?=O x
   .have d:(c == (x.toNat:Int))=true:=(by rw[hq];exact Az he);have aC:=aE f k hf ao9;obtain⟨pc,v⟩:=Ex (bu ((s.data.toList.drop f).take (k-f)));rw[<-v]at aC;have o:=((t.out).own).alloc (J #[D pc] 9 (0,0));have m:=Afv wr pc;have q:=Afw pc;have z:=If (n:=n) ao9;have ad:(n+1)*16<=140737488355328:=ao9;have p:w.heap.size<=(wr.alloc (J #[D pc] 9 (0,0))).heap.size:=(by have:=(t.out).low.size;simp;omega);replace⟨o,m,q,z,ad,p,hc,he⟩:=H8 o m q z ad p hc he;replace⟨hq,v⟩:=H2 hq v;go_wp2_with (at_builtin;refine Ms _ rfl _ _ 67 rfl (w.heap.size) 9 i9 _ 1 16 Tz aF aH an ao rfl Nat.one_pos _ n _ rfl o.out ⟨wr.heap.size,0,I⟩ 1 1 [D pc] rfl rfl m.out q.out z.out ad.out p.out ?_;intro v1 w9 a l _;replace⟨a,l⟩:=H2 a l);have ac:xf w s x (k+1) (k+1) (n+1) (r++[pc]) v1 w9:=(by refine⟨(t.low.alloc t.low.size _).grown l.out (by have:=t.low.size;simp;omega) (λj e=>(t.own.lt j e).1),by rw[Dk];exact a.out,?_,as9,Nat.le_refl _,ao9⟩;rw[t.cut,App _ k f x he.out hf,Sl t.no,v.out];simp);replace ac:=Hh ac;go_wp2;go_roundw
    case rel=>exact⟨k+1,k+1,n+1,r++[pc],by go_num,by go_num,ao9,ao9,ao9,ac.out⟩
    case measure=>simp[intOf];omega
   .have d:(c == (x.toNat:Int))=false:=by rw[hq];exact A2 he
    have ac:xf w s x (k+1) f n r u5 wr:=by
     refine⟨t.low,t.own,t.cut,?_,ao9,ao9⟩;obtain⟨y,hy⟩:=Ge s.data.toList k aA;rw[Apo _ k f y hy hf];intro hm;rcases Dl.1 hm with h|h
     .exact t.no h
     .have:x=y:=by simpa using h
      rw[this]at he;exact he hy
    replace⟨hc,he,hq,ac⟩:=H4 hc he hq ac;go_wp2;go_roundw
    case rel=>exact⟨k+1,f,n,r,by go_num,rfl,ao9,ao9,ao9,ac.out⟩
    case measure=>simp[intOf];omega
  .have aI:¬(k:Int)<s.size:=ao9;have aB:k=s.size:=ao9;have aC:=aD f ao9;obtain⟨pc,v⟩:=Ex (bu (s.data.toList.drop f));rw[<-v]at aC;have o:=((t.out).own).alloc (J #[D pc] 9 (0,0));have m:=Afv wr pc;have q:=Afw pc;have z:=If (n:=n) ao9;have ad:(n+1)*16<=140737488355328:=ao9;have p:w.heap.size<=(wr.alloc (J #[D pc] 9 (0,0))).heap.size:=(by have:=(t.out).low.size;simp;omega);replace⟨o,m,q,z,ad,p,v,aB⟩:=H8 o m q z ad p v aB;go_wp2_with (at_builtin;refine Ms _ rfl _ _ 67 rfl (w.heap.size) 9 i9 _ 1 16 Tz aF aH an ao rfl Nat.one_pos _ n _ rfl o.out ⟨wr.heap.size,0,I⟩ 1 1 [D pc] rfl rfl m.out q.out z.out ad.out p.out ?_;intro v1 w9 a l _;obtain⟨g,am,rfl⟩:=Joins.ownsRow_form a (Iy _);replace⟨a,l⟩:=H2 a l);have al:=(t.low.alloc t.low.size _).grown l.out (by have:=t.low.size;simp;omega) (λj e=>(t.own.lt j e).1);have u:w9.ownsRow w.heap.size 9 1 (V (O ⟨g,0,I⟩) (n+1) am) (n+1) (((Au x s.data.toList).map bu).map Value.string):=(by have aG:=t.no;rw[C4 (by rw[Iw,Q0];have:=aB.out;omega)]at aG;rw[t.cut,Sk aG,Dk];have h:=a.out;rw[v.out]at h;exact h);replace⟨al,u⟩:=H2 al u;go_ret;exact⟨O ⟨g,0,I⟩,n+1,am,rfl,Afs u.out,Afu u.out ao9,λb aL e=>by cases e;exact⟨rfl,(u.lt g rfl).1,Aft u.out⟩,al.out⟩
