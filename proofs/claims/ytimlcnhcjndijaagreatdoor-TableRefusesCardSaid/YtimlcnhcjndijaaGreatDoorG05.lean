/- Parts of a proof. No condition. -/
import Derived.Test.YtimlcnhcjndijaaGreatDoorG04
import Derived.Lib.SmallJoins
import Derived.Deep.DeepCutAuto
set_option linter.all false
set_option maxRecDepth 100000
set_option maxHeartbeats 3200000
namespace Go.Proofs.YtimlcnhcjndijaaGreatDoor
open Option renaming some->Z,none->I
open Value renaming string->Y,slice->J,int->G
open Obj renaming cells->V
open Ending renaming returned->K
open IntKind renaming i64->O
open Go renaming World->WD
open Go.Proofs.Tryz
section
open Go.RowKit Go.Maps Go.Lib
variable{b:Nat}{so:Option Addr}{α:Type}{e:TypeId}{w w':WD}
structure D9 (w:WD) (so:Option Addr) (n:Nat) (xs:List ByteArray):Prop where
 len:xs.length=n
 max:n<=9223372036854775807
 cell:∀i x,xs[i]?=Z x->∃b off,so=Z ⟨b,off,I⟩/\b<w.heap.size/\w.cell? ⟨b,off+i,I⟩=Z (Y x)
def D9.below  {B:Nat}  {n:Nat} {xs:List ByteArray} (h:D9 w so n xs) (d:Below B w w') (j:w.heap.size<=B):D9 w' so n xs:=
 ⟨h.len,h.max,λi x g=>by
  obtain⟨b,c,e,a,f⟩:=h.cell i x g
  exact⟨b,c,e,By a d.size,(Ag d ao9).trans f⟩⟩
def D9.low   {n:Nat} {xs:List ByteArray} (h:D9 w so n xs) (a:Below w.heap.size w w'):D9 w' so n xs:=h.below a Ln
def D9.get   {n:Nat} {xs:List ByteArray} (h:D9 w so n xs) {i:Nat} (a:i<n):=Ge xs i (by rw[h.len];exact a)
def Aa5  {base g cap n m size:Nat}  {xs:List Value} (h:w.ownsRow base e size (J (Z ⟨g,0,I⟩) n cap) m xs):m<=cap:=by
 rcases h.2 with⟨a,_⟩|⟨f,b,c,a,_,_,d,_⟩
 .cases a
 .cases a;exact d
def Ae9  {base g cap n m size:Nat}  {xs:List Value} (h:w.ownsRow base e size (J (Z ⟨g,0,I⟩) n cap) m xs):∃c,w.heap[g]?=Z (V c e (0,0)):=by
 rcases h.2 with⟨b,_⟩|⟨i,d,a,b,_,f,_,_⟩
 .cases b
 .cases b;exact⟨a,f⟩
def Afa  {base g cap n:Nat} {xs:List ByteArray} (h:w.ownsRow base 9 1 (J (Z ⟨g,0,I⟩) n cap) n (xs.map .string)) (c:n<=9223372036854775807):D9 w (Z ⟨g,0,I⟩) n xs:=by
 have b:xs.length=n:=by have:=h.1;simpa using this
 refine⟨b,c,λi x a=>?_⟩;have d:=(Aq.1 a).1;refine⟨g,0,rfl,(h.lt g rfl).2,?_⟩;rw[Cn,Fo h i ao9,Bg,a];rfl
def An6   {xs:List ByteArray} {fr:Nat×Nat} (h:w.heap[b]?=Z (V (xs.map Value.string).toArray 9 fr)) (a:xs.length<=9223372036854775807):D9 w (Z ⟨b,0,I⟩) xs.length xs:=
 ⟨rfl,a,λi x c=>⟨b,0,rfl,Ab h,by rw[Cn,Aa h];simp[c]⟩⟩
def D9.sub  {b a n:Nat} {xs:List ByteArray} (h:D9 w (Z ⟨b,a,I⟩) n xs) (k:Nat) (l:k<=n):D9 w (Z ⟨b,a+k,I⟩) (n-k) (xs.drop k):=
 ⟨by rw[G8,h.len],by have:=h.max;omega,λi x d=>by
  rw[Oc]at d;obtain⟨j,f,e,c,g⟩:=h.cell (k+i) x d;cases e
  exact⟨b,a+k,rfl,c,by rw[Nat.add_assoc];exact g⟩⟩
def Si:(prog.info? 9).map (λi=>(i.zero,i.size,i.bytes))=Z (Z (Y ByteArray.empty),1,16):=by kernel_rfl
def Ff {n:Nat} (h:n<=9000000000):n+1<=maxLen:=by have:maxLen=9223372036854775807:=rfl;omega
def Xw (w:WD) (x:ByteArray):∀j u,[Value.string x][j]?=Z u->(w.alloc (V #[Y x] 9 (0,0))).cell? ((⟨w.heap.size,0,I⟩:Addr).add j)=Z u:=cell_one_new w (Y x) 9
def Xx (x:ByteArray):∀u∈[Value.string x],u.oneCell'=true:=by simp[Value.oneCell']
def An7 (s:ByteArray) (k:Nat) (a:k<s.size) (x:UInt8):(dv s k == (x.toNat:Int))=decide (s.data.toList[k]?=Z x):=by
 have b:k<s.data.toList.length:=a;have d:k<s.data.size:=a;have c:s.data.toList.getD k 0=s.data.toList[k]:=by simp only[List.getD,Array.getElem?_toList,Array.getElem_toList];rw[O6 d];rfl
 unfold dv;rw[c,A4 b];rw[Oe];simp only[Ma,In,Uh];constructor
 .intro e;exact Xb.1 ao9
 .intro e;rw[e]
def An8  (l:List α) (k f:Nat) (x:α) (a:l[k]?=Z x) (b:f<=k):(l.drop f).take (k+1-f)=(l.drop f).take (k-f)++[x]:=by
 obtain⟨d,rfl⟩:∃d,k=f+d:=⟨k-f,ao9⟩;rw[show f+d+1-f=d+1 by omega,show f+d-f=d by omega,L7,Oc,a];rfl
def An9  (l:List α) (k f:Nat) (x:α) (a:l[k]?=Z x) (c:f<=k):l.drop f=(l.drop f).take (k-f)++x :: l.drop (k+1):=by
 obtain⟨d,rfl⟩:∃d,k=f+d:=⟨k-f,ao9⟩;have b:=(Aq.1 a).1;have e:(l.drop f).drop d=x :: l.drop (f+d+1):=by rw[List.drop_drop,Aac b,(Aq.1 a).2]
 rw[show f+d-f=d by omega,<-e,O9]
structure xz (w:WD) (s:ByteArray) (x:UInt8) (k f:Nat) (n:Nat) (done:List ByteArray) (ov:Value) (wr:WD):Prop where
 low:Below w.heap.size w wr
 own:wr.ownsRow w.heap.size 9 1 ov n (done.map Value.string)
 cut:(Ao x s.data.toList).map au=done++(Ao x (s.data.toList.drop f)).map au
 no:x∉(s.data.toList.drop f).take (k-f)
 fk:f<=k
 nk:n<=k
def Aoa (xs:List ByteArray) (w:WD) (e:Ending) (w':WD):Prop:=
 ∃so n c,e=K (J so n c)/\n<=c/\D9 w' so n xs/\(∀b off,so=Z ⟨b,off,I⟩->off=0/\w.heap.size<=b/\∃c,w'.heap[b]?=Z (V c 9 (0,0)))/\Below w.heap.size w w'
def Aa6 (s:ByteArray) (x:UInt8) (w:WD) (hs:s.size<=4294967280):Calls prog 66 #[Y s,G .u8 (x.toNat:Int)] w (Aoa ((Ao x s.data.toList).map au) w):=by
 obtain⟨i9,aE,aG,am,an⟩:=B4 Si;have ap:∀(k:Nat),k<s.size->∀w,(Instr.index 9 (Y s) (G O (k:Int))).run prog w=.ok (G .u8 (dv s k)) w:=λk hk w=>Qq Dr s k k rfl hk w
 have aD:∀(f k:Nat),f<=k->k<=s.size->∀w,(Instr.slice 9 (Y s) (Z (G O (f:Int))) (Z (G O (k:Int))) I).run prog w=.ok (Y (au ((s.data.toList.drop f).take (k-f)))) w:=λf k h1 h2 w=>by
  rw[run_slice_string w 9 s O O f k Dr ao9 ao9 ao9];congr 2;exact Nm (by rw[E6,Lib.extract_data];rfl)
 have aC:∀(f:Nat),f<=s.size->∀w,(Instr.slice 9 (Y s) (Z (G O (f:Int))) I I).run prog w=.ok (Y (au (s.data.toList.drop f))) w:=λf h1 w=>by
  rw[run_slice_string_from_if w 9 s O f Dr,Ad ⟨ao9,ao9⟩];congr 2;exact Nm (by rw[E6,Lib.extract_to_end];rfl)
 have ao:xz w s x 0 0 0 [] (J I 0 0) w:=⟨Below.refl _ _,Nb _ _ _ _,as9,as9,Nat.le_refl _,Nat.le_refl _⟩;replace⟨ap,aD,aC,ao⟩:=H4 ap aD aC ao;go_enter func66,ntmps66;go_wp2;go_loopw [5,6,7] (λov fv i wr=>∃(k f n:Nat) (r:List ByteArray),i=G O k/\fv=G O f/\k<=s.size/\f<=k/\n<=k/\Hid (xz w s x k f n r ov wr)) (λ_ _ i _=>s.size-(intOf i).toNat)
 case atStart=>exact⟨0,0,0,[],rfl,rfl,As _,Nat.le_refl _,Nat.le_refl _,ao.out⟩
 case round=>
  obtain⟨k,f,n,r,rfl,rfl,hk,hf,aJ,t⟩:=hrel;by_cases av:k<s.size
  .have aH:(k:Int)<s.size:=ao9;have aI:=ap k av;have hq:=An7 s k av x;obtain⟨c,hc⟩:=Ex (dv s k);rw[<-hc]at aI hq;by_cases he:s.data.toList[k]?=Z x
   .have d:(c == (x.toNat:Int))=true:=(by rw[hq];exact At he);have aB:=aD f k hf ao9;obtain⟨pc,v⟩:=Ex (au ((s.data.toList.drop f).take (k-f)));rw[<-v]at aB;have o:=((t.out).own).alloc (V #[Y pc] 9 (0,0));have m:=Xw wr pc;have q:=Xx pc;have z:=Ff (n:=n) ao9;have ad:(n+1)*16<=140737488355328:=ao9;have p:w.heap.size<=(wr.alloc (V #[Y pc] 9 (0,0))).heap.size:=(by have:=(t.out).low.size;simp;omega);replace⟨o,m,q,z,ad,p,hc,he⟩:=H8 o m q z ad p hc he;replace⟨hq,v⟩:=H2 hq v;go_wp2_with (at_builtin;refine I7 _ rfl _ _ 67 rfl (w.heap.size) 9 i9 _ 1 16 Qj aE aG am an rfl Nat.one_pos _ n _ rfl o.out ⟨wr.heap.size,0,I⟩ 1 1 [Y pc] rfl rfl m.out q.out z.out ad.out p.out ?_;intro v1 w9 a l _;replace⟨a,l⟩:=H2 a l);have ac:xz w s x (k+1) (k+1) (n+1) (r++[pc]) v1 w9:=(by refine⟨(t.low.alloc t.low.size _).grown l.out (by have:=t.low.size;simp;omega) (λj e=>(t.own.lt j e).1),by rw[C2];exact a.out,?_,as9,Nat.le_refl _,ao9⟩;rw[t.cut,An9 _ k f x he.out hf,Qs t.no,v.out];simp);replace ac:=Hh ac;go_wp2;go_roundw
    case rel=>exact⟨k+1,k+1,n+1,r++[pc],by go_num,by go_num,ao9,ao9,ao9,ac.out⟩
    case measure=>simp[intOf];omega
   .have d:(c == (x.toNat:Int))=false:=by rw[hq];exact Au he
    have ac:xz w s x (k+1) f n r u5 wr:=by
     refine⟨t.low,t.own,t.cut,?_,ao9,ao9⟩;obtain⟨y,hy⟩:=Ge s.data.toList k av;rw[An8 _ k f y hy hf];intro hm;rcases C4.1 hm with h|h
     .exact t.no h
     .have:x=y:=by simpa using h
      rw[this]at he;exact he hy
    replace⟨hc,he,hq,ac⟩:=H4 hc he hq ac;go_wp2;go_roundw
    case rel=>exact⟨k+1,f,n,r,by go_num,rfl,ao9,ao9,ao9,ac.out⟩
    case measure=>simp[intOf];omega
  .have aH:¬(k:Int)<s.size:=ao9;have aA:k=s.size:=ao9;have aB:=aC f ao9;obtain⟨pc,v⟩:=Ex (au (s.data.toList.drop f));rw[<-v]at aB;have o:=((t.out).own).alloc (V #[Y pc] 9 (0,0));have m:=Xw wr pc;have q:=Xx pc;have z:=Ff (n:=n) ao9;have ad:(n+1)*16<=140737488355328:=ao9;have p:w.heap.size<=(wr.alloc (V #[Y pc] 9 (0,0))).heap.size:=(by have:=(t.out).low.size;simp;omega);replace⟨o,m,q,z,ad,p,v,aA⟩:=H8 o m q z ad p v aA;go_wp2_with (at_builtin;refine I7 _ rfl _ _ 67 rfl (w.heap.size) 9 i9 _ 1 16 Qj aE aG am an rfl Nat.one_pos _ n _ rfl o.out ⟨wr.heap.size,0,I⟩ 1 1 [Y pc] rfl rfl m.out q.out z.out ad.out p.out ?_;intro v1 w9 a l _;obtain⟨g,al,rfl⟩:=Joins.ownsRow_form a (Gn _);replace⟨a,l⟩:=H2 a l);have af:=(t.low.alloc t.low.size _).grown l.out (by have:=t.low.size;simp;omega) (λj e=>(t.own.lt j e).1);have u:w9.ownsRow w.heap.size 9 1 (J (Z ⟨g,0,I⟩) (n+1) al) (n+1) (((Ao x s.data.toList).map au).map Value.string):=(by have aF:=t.no;rw[Cr (by rw[G8,Km];have:=aA.out;omega)]at aF;rw[t.cut,Qr aF,C2];have h:=a.out;rw[v.out]at h;exact h);replace⟨af,u⟩:=H2 af u;go_ret;exact⟨Z ⟨g,0,I⟩,n+1,al,rfl,Aa5 u.out,Afa u.out ao9,λb aK e=>by cases e;exact⟨rfl,(u.lt g rfl).1,Ae9 u.out⟩,af.out⟩
def Afb (a b:List UInt8):au a++au b=au (a++b):=Nm (by rw[E6];simp[au])
def Aa7:∀(n u:Nat),u<10 ^ (n+1)->(Lib.decDigits u).length<=n+1
 | 0,u,h=>by rw[Lib.decDigits,Mb (by simpa using h)];simp
 | n+1,u,h=>by
  rw[Lib.decDigits];split
  .simp
  .have:=Aa7 n (u / 10) (by rw[Nat.pow_succ]at h;omega);rw[Az];simp;omega
def Afc {u:Nat} (h:u<=9223372036854775808):(Lib.decDigits u).length<=19:=by
 refine Aa7 18 u ?_
 have:(10:Nat) ^ (18+1)=10000000000000000000:=ad9
 rw[this];omega
def Sj {n:Int} (h0:-9223372036854775808<=n) (h1:n<=9223372036854775807):(Lib.itoa n).length<=20:=by
 unfold Lib.itoa;split
 .have:=Afc (u:=n.natAbs) ao9;simp;omega
 .have:=Afc (u:=n.toNat) ao9;omega
def Ja (v:V4):List UInt8:=Lib.itoa v.a++[44]++Lib.itoa v.b++[44]++Lib.itoa v.c++[44]++Lib.itoa v.d
structure xj (v:V4):Prop where
 a:-9223372036854775808<=v.a/\v.a<=9223372036854775807
 b:-9223372036854775808<=v.b/\v.b<=9223372036854775807
 c:-9223372036854775808<=v.c/\v.c<=9223372036854775807
 d:-9223372036854775808<=v.d/\v.d<=9223372036854775807
def Afd {v:V4} (h:xj v):(Ja v).length<=83:=by
 have a:=Sj h.a.1 h.a.2;have b:=Sj h.b.1 h.b.2;have c:=Sj h.c.1 h.c.2;have d:=Sj h.d.1 h.d.2;simp[Ja];omega
