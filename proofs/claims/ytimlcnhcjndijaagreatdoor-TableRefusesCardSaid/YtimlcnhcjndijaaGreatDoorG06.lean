/- Parts of a proof. No condition. -/
import Derived.Test.YtimlcnhcjndijaaGreatDoorG05
import Derived.Laws.AppendOwnNone
set_option linter.all false
set_option maxRecDepth 100000
set_option maxHeartbeats 1600000
namespace Go.Proofs.YtimlcnhcjndijaaGreatDoor
open Value renaming int->G,string->Y,slice->J
open Option renaming some->Z,none->I
open Obj renaming cells->V
open IntKind renaming i64->O
open Ending renaming returned->K
open Go renaming World->WD
open Go.Proofs.Tryz
section
open Go.RowKit Go.Maps Go.Lib
def Tb (w:WD):Prop:=Lib.TabBelow prog w.heap.size w "internal/strconv.uint64pow10" .u64 Lib.pow10Tab
def Aob {B C:Nat} {w:WD} (h:Lib.TabBelow prog B w "internal/strconv.uint64pow10" .u64 Lib.pow10Tab) (b:B<=C):Lib.TabBelow prog C w "internal/strconv.uint64pow10" .u64 Lib.pow10Tab:=λw' a=>h w' (a.mono b)
def Tb.low {w w':WD} (h:Tb w) (a:Below w.heap.size w w'):Tb w':=Aob (Lib.TabBelow.on h a) a.size
def Nn (v:V4):Nat->List UInt8
 | 0=>[]
 | 1=>Lib.itoa v.a
 | 2=>Lib.itoa v.a++[44]++Lib.itoa v.b
 | 3=>Lib.itoa v.a++[44]++Lib.itoa v.b++[44]++Lib.itoa v.c
 | _=>Ja v
structure yh (w:WD) (bv:Value) (l:List UInt8) (W:WD):Prop where
 low:Below w.heap.size w W
 row:W.ownsRow w.heap.size 5 1 bv l.length (Lib.byteCells l)
def Aoc:(prog.info? 5).map (λi=>(i.zero,i.size,i.bytes))=Z (Z (G .u8 0),1,1):=by kernel_rfl
def Aa8 (a b:List UInt8):Lib.byteCells (a++b)=Lib.byteCells a++Lib.byteCells b:=by simp[Lib.byteCells]
def Aod (w:WD):∀j u,([G .u8 44]:List Value)[j]?=Z u->(w.alloc (V #[G .u8 44] 5 (0,0))).cell? ((⟨w.heap.size,0,I⟩:Addr).add j)=Z u:=by
 intro j u a
 match j,a with
 | 0,a=>
  have:=Aa (Ah w (V #[G .u8 44] 5 (0,0))) 0;simp at a;subst a;exact this
 | j+1,a=>simp at a
def Afe (a b c d:Int) (j:Nat) (e:j<4) (w:WD):(Instr.index 30 (.agg #[G O a,G O b,G O c,G O d]) (G O (j:Int))).run prog w=.ok (G O (V4.get ⟨a,b,c,d⟩ j)) w:=by
 rcases(show j=0\/j=1\/j=2\/j=3 by omega)with rfl|rfl|rfl|rfl<;>kernel_rfl
def Aa9 {v:V4} (h:xj v) (j:Nat):-9223372036854775808<=v.get j/\v.get j<=9223372036854775807:=by
 match j with
 | 0=>exact h.a
 | 1=>exact h.b
 | 2=>exact h.c
 | j+3=>exact h.d
def Aff (v:V4) (j:Nat) (a:j<4):Nn v (j+1)=Nn v j++(if j=0 then[]else[44])++Lib.itoa (v.get j):=by
 rcases(show j=0\/j=1\/j=2\/j=3 by omega)with rfl|rfl|rfl|rfl
 .rfl
 .rfl
 .rfl
 .rfl
def Aoe {v:V4} (h:xj v) (j:Nat) (c:j<=4):(Nn v j).length<=21*j:=by
 induction j with
 | zero=>simp[Nn]
 | succ j ih=>
  rw[Aff v j ao9,Az,Az];have h1:=ih ao9;have a:=Sj (Aa9 h j).1 (Aa9 h j).2
  have b:(if j=0 then([]:List UInt8)else[44]).length<=1:=by split<;>simp
  omega
def Aof (v:V4) (hv:xj v) (w:WD) (ht:Tb w):Calls prog 147 #[v.val] w λe w'=>e=K (Y (au (Ja v)))/\Below w.heap.size w w':=by
 obtain⟨i5,aK,aM,aH,aI⟩:=B4 Aoc;have aF:=λj (hj:j<4)=>Aff v j hj;have aD:=λj (hj:j<=4)=>Aoe hv j hj;have av:=Aa9 hv;obtain⟨va,vb,vc,vd⟩:=v;have an:yh w (J I 0 0) (Nn ⟨va,vb,vc,vd⟩ 0) (w.alloc (V #[G O va,G O vb,G O vc,G O vd] 30 (0,0))):=⟨Bn,rfl,.inl ⟨rfl,rfl⟩⟩;have aG:=Hh aF;have aE:=Hh aD;have aA:=Hh av;clear aF aD av;replace⟨hv,ht,an⟩:=H3 hv ht an;go_enter func147,ntmps147;go_wp2;go_loopw [3,4,5,7] (λbv _ _ i wr=>∃j:Nat,j<=4/\i=G O j/\Hid (yh w bv (Nn ⟨va,vb,vc,vd⟩ j) wr)) (λ_ _ _ i _=>4-(intOf i).toNat)
 case atStart=>exact⟨0,ao9,rfl,an.out⟩
 case round=>
  obtain⟨j,hj,rfl,hM⟩:=hrel;by_cases hc:j<4
  .have aJ:(j:Int)<4:=ao9;have af:=λw=>Afe va vb vc vd j hc w;obtain⟨x,hx⟩:=Ex (V4.get ⟨va,vb,vc,vd⟩ j);rw[<-hx]at af;have f:=aA j;rw[<-hx]at f;have hs:=aG j hc;rw[<-hx]at hs;obtain⟨l,z⟩:=Ex (Nn ⟨va,vb,vc,vd⟩ j);have aC:=aE j hj;rw[<-z]at aC hs;have h:=hM.out;rw[<-z]at h;obtain⟨n,hn⟩:=Ex (l.length);have s:=h.row;rw[<-hn]at s aC;have a:=h.low;by_cases h0:j=0
   .subst h0;have p:=Tryz.strconv_AppendInt_10 w.heap.size n x f.1 f.2 u3 (Lib.byteCells l) wr s a.size ao9 (Lib.TabBelow.on ht.out a);rw[Ad rfl,Nf]at hs;have aB:∀w,(Instr.index 30 (.agg #[G O va,G O vb,G O vc,G O vd]) (G O 0)).run prog w=.ok (G O x) w:=af;clear af;replace⟨hx,hs,z,h,hn,s,a,p⟩:=H8 hx hs z h hn s a p;replace⟨f,hM⟩:=H2 f hM;go_wp2_with fail;refine p.mono ?_;rintro e w2 ⟨v2,rfl,b,o,_⟩;have m:yh w v2 (Nn ⟨va,vb,vc,vd⟩ (0+1)) w2:=⟨a.trans o,by rw[hs.out,Aa8,Az,<-hn.out];exact b⟩;replace⟨m,b,o⟩:=H3 m b o;clear aB;go_wp2;go_roundw
    case rel=>exact⟨0+1,ao9,rfl,m.out⟩
    case measure=>simp[intOf]
   .have aP:(0:Int)<(j:Int):=ao9;have aN:decide (0<j)=true:=At ao9;rw[Ac h0]at hs;have r:=s.alloc (V #[G .u8 44] 5 (0,0));have q:=Aod wr;have ac:∀u∈([G .u8 44]:List Value),u.oneCell'=true:=(by simp[Value.oneCell']);have am:=Ff (n:=n) ao9;have ao:(n+1)*1<=140737488355328:=ao9;have t:w.heap.size<=(wr.alloc (V #[G .u8 44] 5 (0,0))).heap.size:=(by have:=a.size;rw[G9];omega);replace⟨hx,hs,z,h,hn,s,a,f⟩:=H8 hx hs z h hn s a f;replace⟨hM,r,q,ac,am,ao,t⟩:=H7 hM r q ac am ao t;go_upto_region 7 with(at_builtin;refine I7 _ rfl _ _ 79 rfl w.heap.size 5 i5 _ 1 1 N9 aK aM aH aI rfl Nat.one_pos u3 n _ rfl r.out ⟨wr.heap.size,0,I⟩ 1 1 [G .u8 44] rfl rfl q.out ac.out am.out ao.out t.out ?_;intro v1 w9 d c _;obtain⟨g9,ap,rfl⟩:=Joins.ownsRow_form d (Gn _);replace⟨d,c⟩:=H2 d c);have y:=(a.alloc a.size _).grown c.out t.out (λk e=>(s.lt k e).1);have p:=Tryz.strconv_AppendInt_10 w.heap.size (n+1) x f.1 f.2 (J (Z ⟨g9,0,I⟩) (n+1) ap) _ w9 d.out y.size ao9 (Lib.TabBelow.on ht.out y);replace⟨y,p⟩:=H2 y p;go_wp2_with fail;refine p.mono ?_;rintro e w2 ⟨v2,rfl,b,o,_⟩
    have m:yh w v2 (Nn ⟨va,vb,vc,vd⟩ (j+1)) w2:=⟨y.trans o,by
     rw[hs.out,Aa8,Aa8,Az,Az,<-hn.out]
     exact b⟩
    replace⟨m,b,o⟩:=H3 m b o;clear af;go_wp2;go_roundw
    case rel=>exact⟨j+1,ao9,by go_num,m.out⟩
    case measure=>simp[intOf];omega
  .have aJ:¬(j:Int)<4:=ao9;have aL:j=4:=ao9;subst aL;have s:=hM.row;have a:=hM.low;obtain⟨l,z⟩:=Ex (Nn ⟨va,vb,vc,vd⟩ 4);rw[<-z]at s;have al:l=Ja ⟨va,vb,vc,vd⟩:=z;have ad:0<l.length:=(by rw[al];simp[Ja];omega);obtain⟨g,cap,rfl⟩:=Joins.ownsRow_form s ad
   have aO:=run_convert_bytes_back (P:=prog) wr 79 9 5 ⟨g,0,I⟩ cap l N9 Z9 Dr (λi hi=>by
    rw[Un,Cn,Fo s i ao9,Lib.byteCells,Bg,A4 hi];rfl)
   replace⟨s,a,z,al,hM,ad⟩:=H6 s a z al hM ad;go_wp2;go_ret;exact⟨by rw[<-al.out];rfl,a.out⟩
