/- Parts of a proof. No condition. -/
import Derived.Test.YtimlcnhcjndijaaGreatDoorF04
import Derived.Lib.SmallJoins
import Derived.Deep.DeepCutAuto
set_option linter.all false
set_option maxRecDepth 100000
set_option maxHeartbeats 3200000
namespace Go.Proofs.YtimlcnhcjndijaaGreatDoor
open Go renaming World->WD
open Go.Proofs.Tryz
section
open Go.RowKit Go.Maps Go.Lib
variable{b base cap g m n size:Nat}{so:Option Addr}{α:Type}{e:TypeId}{w w':WD}
structure D3 (w:WD) (so:Option Addr) (n:Nat) (xs:List ByteArray):Prop where
 len:xs.length=n
 max:n<=9223372036854775807
 cell:∀ i x,xs[i]?=some x->∃ b off,so=some ⟨b,off,none⟩/\b<w.heap.size/\w.cell? ⟨b,off+i,none⟩=some (.string x)
def D3.below  {B:Nat}   {xs:List ByteArray} (h:D3 w so n xs) (d:Below B w w') (j:w.heap.size<=B):D3 w' so n xs:=
 ⟨h.len,h.max,fun i x g=>by
  obtain ⟨b,c,e,a,f⟩:=h.cell i x g
  exact ⟨b,c,e,Bx a d.size,(Ag d (by omega)).trans f⟩⟩
def D3.low    {xs:List ByteArray} (h:D3 w so n xs) (a:Below w.heap.size w w'):D3 w' so n xs:=h.below a Ln
def D3.get    {xs:List ByteArray} (h:D3 w so n xs) {i:Nat} (a:i<n):=Ge xs i (by rw [h.len];exact a)
def Adf    {xs:List Value} (h:w.ownsRow base e size (.slice (some ⟨g,0,none⟩) n cap) m xs):m<=cap:=by
 rcases h.2 with ⟨a,_⟩ | ⟨f,b,c,a,_,_,d,_⟩
 .cases a
 .cases a;exact d
def Adg    {xs:List Value} (h:w.ownsRow base e size (.slice (some ⟨g,0,none⟩) n cap) m xs):∃ c,w.heap[g]?=some (.cells c e (0,0)):=by
 rcases h.2 with ⟨b,_⟩ | ⟨i,d,a,b,_,f,_,_⟩
 .cases b
 .cases b;exact ⟨a,f⟩
def Adh   {xs:List ByteArray} (h:w.ownsRow base 9 1 (.slice (some ⟨g,0,none⟩) n cap) n (xs.map .string)) (c:n<=9223372036854775807):D3 w (some ⟨g,0,none⟩) n xs:=by
 have b:xs.length=n:=by have:=h.1;simpa using this
 refine ⟨b,c,fun i x a=>?_⟩;have d:=(Ao.1 a).1;refine ⟨g,0,rfl,(h.lt g rfl).2,?_⟩;rw [Da,E6 h i (by omega),Bh,a];rfl
def Al3   {xs:List ByteArray} {fr:Nat×Nat} (h:w.heap[b]?=some (.cells (xs.map Value.string).toArray 9 fr)) (a:xs.length<=9223372036854775807):D3 w (some ⟨b,0,none⟩) xs.length xs:=
 ⟨rfl,a,fun i x c=>⟨b,0,rfl,Ab h,by rw [Da,Aa h];simp [c]⟩⟩
def D3.sub  {b a n:Nat} {xs:List ByteArray} (h:D3 w (some ⟨b,a,none⟩) n xs) (k:Nat) (l:k<=n):D3 w (some ⟨b,a+k,none⟩) (n-k) (xs.drop k):=
 ⟨by rw [G2,h.len],by have:=h.max;omega,fun i x d=>by
  rw [Ns] at d;obtain ⟨j,f,e,c,g⟩:=h.cell (k+i) x d;cases e
  exact ⟨b,a+k,rfl,c,by rw [Nat.add_assoc];exact g⟩⟩
def V3:(prog.info? 9).map (fun i=>(i.zero,i.size,i.bytes))=some (some (.string ByteArray.empty),1,16):=by kernel_rfl
def G4  (h:n<=9000000000):n+1<=maxLen:=by have:maxLen=9223372036854775807:=rfl;omega
def Adi (w:WD) (x:ByteArray):∀ j u,[Value.string x][j]?=some u->(w.alloc (.cells #[.string x] 9 (0,0))).cell? ((⟨w.heap.size,0,none⟩:Addr).add j)=some u:=cell_one_new w (.string x) 9
def Adj (x:ByteArray):∀ u∈[Value.string x],u.oneCell'=true:=by simp [Value.oneCell']
def Al4 (s:ByteArray) (k:Nat) (a:k<s.size) (x:UInt8):(dy s k == (x.toNat:Int))=decide (s.data.toList[k]?=some x):=by
 have b:k<s.data.toList.length:=a;have d:k<s.data.size:=a;have c:s.data.toList.getD k 0=s.data.toList[k]:=by simp only [List.getD,Array.getElem?_toList,Array.getElem_toList];rw [Oo d];rfl
 unfold dy;rw [c,A4 b];rw [Nw];simp only [L0,I1,Vd];constructor
 .intro e;exact Zb.1 (by omega)
 .intro e;rw [e]
def Al5  (l:List α) (k f:Nat) (x:α) (a:l[k]?=some x) (b:f<=k):(l.drop f).take (k+1-f)=(l.drop f).take (k-f)++[x]:=by
 obtain ⟨d,rfl⟩:∃ d,k=f+d:=⟨k-f,by omega⟩;rw [show f+d+1-f=d+1 by omega,show f+d-f=d by omega,Ov,Ns,a];rfl
def Al6  (l:List α) (k f:Nat) (x:α) (a:l[k]?=some x) (c:f<=k):l.drop f=(l.drop f).take (k-f)++x :: l.drop (k+1):=by
 obtain ⟨d,rfl⟩:∃ d,k=f+d:=⟨k-f,by omega⟩;have b:=(Ao.1 a).1;have e:(l.drop f).drop d=x :: l.drop (f+d+1):=by rw [List.drop_drop,Ym b,(Ao.1 a).2]
 rw [show f+d-f=d by omega,<- e,Or]
structure vd (w:WD) (s:ByteArray) (x:UInt8) (k f:Nat) (n:Nat) (done:List ByteArray) (ov:Value) (wr:WD):Prop where
 low:Below w.heap.size w wr
 own:wr.ownsRow w.heap.size 9 1 ov n (done.map Value.string)
 cut:(Ap x s.data.toList).map bp=done++(Ap x (s.data.toList.drop f)).map bp
 no:x∉(s.data.toList.drop f).take (k-f)
 fk:f<=k
 nk:n<=k
def Al7 (xs:List ByteArray) (w:WD) (e:Ending) (w':WD):Prop:=
 ∃ so n c,e=.returned (.slice so n c)/\n<=c/\D3 w' so n xs/\(∀ b off,so=some ⟨b,off,none⟩->off=0/\w.heap.size<=b/\∃ c,w'.heap[b]?=some (.cells c 9 (0,0)))/\Below w.heap.size w w'
def Zj (s:ByteArray) (x:UInt8) (w:WD) (hs:s.size<=4294967280):Calls prog 66 #[.string s,.int .u8 (x.toNat:Int)] w (Al7 ((Ap x s.data.toList).map bp) w):=by
 obtain ⟨i9,aF,aH,an,ao⟩:=Cb V3;have av:∀ (k:Nat),k<s.size->∀ w,(Instr.index 9 (.string s) (.int .i64 (k:Int))).run prog w=.ok (.int .u8 (dy s k)) w:=fun k hk w=>P4 Eg s k k rfl hk w
 have aE:∀ (f k:Nat),f<=k->k<=s.size->∀ w,(Instr.slice 9 (.string s) (some (.int .i64 (f:Int))) (some (.int .i64 (k:Int))) none).run prog w=.ok (.string (bp ((s.data.toList.drop f).take (k-f)))) w:=fun f k h1 h2 w=>by
  rw [run_slice_string w 9 s .i64 .i64 f k Eg (by omega) (by omega) (by omega)];congr 2;exact O4 (by rw [L1,Lib.extract_data];rfl)
 have aD:∀ (f:Nat),f<=s.size->∀ w,(Instr.slice 9 (.string s) (some (.int .i64 (f:Int))) none none).run prog w=.ok (.string (bp (s.data.toList.drop f))) w:=fun f h1 w=>by
  rw [run_slice_string_from_if w 9 s .i64 f Eg,Ad ⟨by omega,by omega⟩];congr 2;exact O4 (by rw [L1,Lib.extract_to_end];rfl)
 have ap:vd w s x 0 0 0 [] (.slice none 0 0) w:=⟨Below.refl _ _,Lv _ _ _ _,by simp,by simp,Nat.le_refl _,Nat.le_refl _⟩;replace ⟨av,aE,aD,ap⟩:=H4 av aE aD ap;go_enter func66,ntmps66;go_wp2;go_loopw [5,6,7] (fun ov fv i wr=>∃ (k f n:Nat) (r:List ByteArray),i=.int .i64 k/\fv=.int .i64 f/\k<=s.size/\f<=k/\n<=k/\Hid (vd w s x k f n r ov wr)) (fun _ _ i _=>s.size-(intOf i).toNat)
 case atStart=>exact ⟨0,0,0,[],rfl,rfl,Aq _,Nat.le_refl _,Nat.le_refl _,ap.out⟩
 case round=>
  obtain ⟨k,f,n,r,rfl,rfl,hk,hf,aK,t⟩:=hrel;by_cases aA:k<s.size
  .have aI:(k:Int)<s.size:=(by omega);have aJ:=av k aA;have hq:=Al4 s k aA x;obtain ⟨c,hc⟩:=Ex (dy s k);rw [<- hc] at aJ hq;by_cases he:s.data.toList[k]?=some x
   .have d:(c == (x.toNat:Int))=true:=(by rw [hq];exact Av he);have aC:=aE f k hf (by omega);obtain ⟨pc,v⟩:=Ex (bp ((s.data.toList.drop f).take (k-f)));rw [<- v] at aC;have o:=((t.out).own).alloc (.cells #[.string pc] 9 (0,0));have m:=Adi wr pc;have q:=Adj pc;have z:=G4 (n:=n) (by omega);have ad:(n+1)*16<=140737488355328:=(by omega);have p:w.heap.size<=(wr.alloc (.cells #[.string pc] 9 (0,0))).heap.size:=(by have:=(t.out).low.size;simp;omega);replace ⟨o,m,q,z,ad,p,hc,he⟩:=H8 o m q z ad p hc he;replace ⟨hq,v⟩:=H2 hq v;go_wp2_with (at_builtin;refine Ms _ rfl _ _ 67 rfl (w.heap.size) 9 i9 _ 1 16 S5 aF aH an ao rfl Nat.one_pos _ n _ rfl o.out ⟨wr.heap.size,0,none⟩ 1 1 [.string pc] rfl rfl m.out q.out z.out ad.out p.out ?_;intro v1 w9 a l _;replace ⟨a,l⟩:=H2 a l);have ac:vd w s x (k+1) (k+1) (n+1) (r++[pc]) v1 w9:=(by refine ⟨(t.low.alloc t.low.size _).grown l.out (by have:=t.low.size;simp;omega) (fun j e=>(t.own.lt j e).1),by rw [C9];exact a.out,?_,by simp,Nat.le_refl _,by omega⟩;rw [t.cut,Al6 _ k f x he.out hf,Rr t.no,v.out];simp);replace ac:=Hh ac;go_wp2;go_roundw
    case rel=>exact ⟨k+1,k+1,n+1,r++[pc],by go_num,by go_num,by omega,by omega,by omega,ac.out⟩
    case measure=>simp [intOf];omega
   .have d:(c == (x.toNat:Int))=false:=by rw [hq];exact Ax he
    have ac:vd w s x (k+1) f n r u5 wr:=by
     refine ⟨t.low,t.own,t.cut,?_,by omega,by omega⟩;obtain ⟨y,hy⟩:=Ge s.data.toList k aA;rw [Al5 _ k f y hy hf];intro hm;rcases Dh.1 hm with h | h
     .exact t.no h
     .have:x=y:=by simpa using h
      rw [this] at he;exact he hy
    replace ⟨hc,he,hq,ac⟩:=H4 hc he hq ac;go_wp2;go_roundw
    case rel=>exact ⟨k+1,f,n,r,by go_num,rfl,by omega,by omega,by omega,ac.out⟩
    case measure=>simp [intOf];omega
  .have aI:¬ (k:Int)<s.size:=(by omega);have aB:k=s.size:=(by omega);have aC:=aD f (by omega);obtain ⟨pc,v⟩:=Ex (bp (s.data.toList.drop f));rw [<- v] at aC;have o:=((t.out).own).alloc (.cells #[.string pc] 9 (0,0));have m:=Adi wr pc;have q:=Adj pc;have z:=G4 (n:=n) (by omega);have ad:(n+1)*16<=140737488355328:=(by omega);have p:w.heap.size<=(wr.alloc (.cells #[.string pc] 9 (0,0))).heap.size:=(by have:=(t.out).low.size;simp;omega);replace ⟨o,m,q,z,ad,p,v,aB⟩:=H8 o m q z ad p v aB;go_wp2_with (at_builtin;refine Ms _ rfl _ _ 67 rfl (w.heap.size) 9 i9 _ 1 16 S5 aF aH an ao rfl Nat.one_pos _ n _ rfl o.out ⟨wr.heap.size,0,none⟩ 1 1 [.string pc] rfl rfl m.out q.out z.out ad.out p.out ?_;intro v1 w9 a l _;obtain ⟨g,am,rfl⟩:=Joins.ownsRow_form a (I3 _);replace ⟨a,l⟩:=H2 a l);have al:=(t.low.alloc t.low.size _).grown l.out (by have:=t.low.size;simp;omega) (fun j e=>(t.own.lt j e).1);have u:w9.ownsRow w.heap.size 9 1 (.slice (some ⟨g,0,none⟩) (n+1) am) (n+1) (((Ap x s.data.toList).map bp).map Value.string):=(by have aG:=t.no;rw [C8 (by rw [G2,P5];have:=aB.out;omega)] at aG;rw [t.cut,Rq aG,C9];have h:=a.out;rw [v.out] at h;exact h);replace ⟨al,u⟩:=H2 al u;go_ret;exact ⟨some ⟨g,0,none⟩,n+1,am,rfl,Adf u.out,Adh u.out (by omega),fun b aL e=>by cases e;exact ⟨rfl,(u.lt g rfl).1,Adg u.out⟩,al.out⟩
