/- Parts of a proof. No condition. -/
import Derived.Test.YtimlcnhcjndijaaGreatDoorH04
import Derived.Laws.AppendOwnNone
set_option linter.all false
set_option maxRecDepth 100000
set_option maxHeartbeats 1600000
namespace Go.Proofs.YtimlcnhcjndijaaGreatDoor
open Option renaming some->O,none->I
open Value renaming int->Z,string->E,slice->V
open Obj renaming cells->J
open IntKind renaming i64->G
open Ending renaming returned->Q
open Go renaming World->WD
open Go.Proofs.Tryz
section
open Go.RowKit Go.Maps Go.Lib
def Tb (w:WD):Prop:=Lib.TabBelow prog w.heap.size w "internal/strconv.uint64pow10" .u64 Lib.pow10Tab
def Amp {B C:Nat} {w:WD} (h:Lib.TabBelow prog B w "internal/strconv.uint64pow10" .u64 Lib.pow10Tab) (b:B<=C):Lib.TabBelow prog C w "internal/strconv.uint64pow10" .u64 Lib.pow10Tab:=λw' a=>h w' (a.mono b)
def Tb.low {w w':WD} (h:Tb w) (a:Below w.heap.size w w'):Tb w':=Amp (Lib.TabBelow.on h a) a.size
def M9 (v:V4):Nat->List UInt8
 | 0=>[]
 | 1=>Lib.itoa v.a
 | 2=>Lib.itoa v.a++[44]++Lib.itoa v.b
 | 3=>Lib.itoa v.a++[44]++Lib.itoa v.b++[44]++Lib.itoa v.c
 | _=>I1 v
structure xg (w:WD) (bv:Value) (l:List UInt8) (W:WD):Prop where
 low:Below w.heap.size w W
 row:W.ownsRow w.heap.size 5 1 bv l.length (Lib.byteCells l)
def Amq:(prog.info? 5).map (λi=>(i.zero,i.size,i.bytes))=O (O (Z .u8 0),1,1):=by kernel_rfl
def Z9 (a b:List UInt8):Lib.byteCells (a++b)=Lib.byteCells a++Lib.byteCells b:=by simp[Lib.byteCells]
def Amr (w:WD):∀j u,([Z .u8 44]:List Value)[j]?=O u->(w.alloc (J #[Z .u8 44] 5 (0,0))).cell? ((⟨w.heap.size,0,I⟩:Addr).add j)=O u:=by
 intro j u a
 match j,a with
 | 0,a=>
  have:=Aa (Ah w (J #[Z .u8 44] 5 (0,0))) 0;simp at a;subst a;exact this
 | j+1,a=>simp at a
def Aea (a b c d:Int) (j:Nat) (e:j<4) (w:WD):(Instr.index 30 (.agg #[Z G a,Z G b,Z G c,Z G d]) (Z G (j:Int))).run prog w=.ok (Z G (V4.get ⟨a,b,c,d⟩ j)) w:=by
 rcases(show j=0\/j=1\/j=2\/j=3 by omega)with rfl|rfl|rfl|rfl<;>kernel_rfl
def Aaa {v:V4} (h:vl v) (j:Nat):-9223372036854775808<=v.get j/\v.get j<=9223372036854775807:=by
 match j with
 | 0=>exact h.a
 | 1=>exact h.b
 | 2=>exact h.c
 | j+3=>exact h.d
def Aeb (v:V4) (j:Nat) (a:j<4):M9 v (j+1)=M9 v j++(if j=0 then[]else[44])++Lib.itoa (v.get j):=by
 rcases(show j=0\/j=1\/j=2\/j=3 by omega)with rfl|rfl|rfl|rfl
 .rfl
 .rfl
 .rfl
 .rfl
def Ams {v:V4} (h:vl v) (j:Nat) (c:j<=4):(M9 v j).length<=21*j:=by
 induction j with
 | zero=>simp[M9]
 | succ j ih=>
  rw[Aeb v j ao9,Av,Av];have h1:=ih ao9;have a:=Rz (Aaa h j).1 (Aaa h j).2
  have b:(if j=0 then([]:List UInt8)else[44]).length<=1:=by split<;>simp
  omega
def Amt (v:V4) (hv:vl v) (w:WD) (ht:Tb w):Calls prog 147 #[v.val] w λe w'=>e=Q (E (au (I1 v)))/\Below w.heap.size w w':=by
 obtain⟨i5,aK,aM,aH,aI⟩:=B6 Amq;have aF:=λj (hj:j<4)=>Aeb v j hj;have aD:=λj (hj:j<=4)=>Ams hv j hj;have av:=Aaa hv;obtain⟨va,vb,vc,vd⟩:=v;have an:xg w (V I 0 0) (M9 ⟨va,vb,vc,vd⟩ 0) (w.alloc (J #[Z G va,Z G vb,Z G vc,Z G vd] 30 (0,0))):=⟨Bn,rfl,.inl ⟨rfl,rfl⟩⟩;have aG:=Hh aF;have aE:=Hh aD;have aA:=Hh av;clear aF aD av;replace⟨hv,ht,an⟩:=H3 hv ht an;go_enter func147,ntmps147;go_wp2;go_loopw [3,4,5,7] (λbv _ _ i wr=>∃j:Nat,j<=4/\i=Z G j/\Hid (xg w bv (M9 ⟨va,vb,vc,vd⟩ j) wr)) (λ_ _ _ i _=>4-(intOf i).toNat)
 case atStart=>exact⟨0,ao9,rfl,an.out⟩
 case round=>
  obtain⟨j,hj,rfl,hM⟩:=hrel;by_cases hc:j<4
  .have aJ:(j:Int)<4:=ao9;have af:=λw=>Aea va vb vc vd j hc w;obtain⟨x,hx⟩:=Ex (V4.get ⟨va,vb,vc,vd⟩ j);rw[<-hx]at af;have f:=aA j;rw[<-hx]at f;have hs:=aG j hc;rw[<-hx]at hs;obtain⟨l,z⟩:=Ex (M9 ⟨va,vb,vc,vd⟩ j);have aC:=aE j hj;rw[<-z]at aC hs;have h:=hM.out;rw[<-z]at h;obtain⟨n,hn⟩:=Ex (l.length);have s:=h.row;rw[<-hn]at s aC;have a:=h.low;by_cases h0:j=0
   .subst h0;have p:=Tryz.strconv_AppendInt_10 w.heap.size n x f.1 f.2 u3 (Lib.byteCells l) wr s a.size ao9 (Lib.TabBelow.on ht.out a);rw[Ad rfl,N3]at hs;have aB:∀w,(Instr.index 30 (.agg #[Z G va,Z G vb,Z G vc,Z G vd]) (Z G 0)).run prog w=.ok (Z G x) w:=af;clear af;replace⟨hx,hs,z,h,hn,s,a,p⟩:=H8 hx hs z h hn s a p;replace⟨f,hM⟩:=H2 f hM;go_wp2_with fail;refine p.mono ?_;rintro e w2 ⟨v2,rfl,b,o,_⟩;have m:xg w v2 (M9 ⟨va,vb,vc,vd⟩ (0+1)) w2:=⟨a.trans o,by rw[hs.out,Z9,Av,<-hn.out];exact b⟩;replace⟨m,b,o⟩:=H3 m b o;clear aB;go_wp2;go_roundw
    case rel=>exact⟨0+1,ao9,rfl,m.out⟩
    case measure=>simp[intOf]
   .have aP:(0:Int)<(j:Int):=ao9;have aN:decide (0<j)=true:=Bs ao9;rw[Ab h0]at hs;have r:=s.alloc (J #[Z .u8 44] 5 (0,0));have q:=Amr wr;have ac:∀u∈([Z .u8 44]:List Value),u.oneCell'=true:=(by simp[Value.oneCell']);have am:=Gh (n:=n) ao9;have ao:(n+1)*1<=140737488355328:=ao9;have t:w.heap.size<=(wr.alloc (J #[Z .u8 44] 5 (0,0))).heap.size:=(by have:=a.size;rw[Kt];omega);replace⟨hx,hs,z,h,hn,s,a,f⟩:=H8 hx hs z h hn s a f;replace⟨hM,r,q,ac,am,ao,t⟩:=H7 hM r q ac am ao t;go_upto_region 7 with(at_builtin;refine J6 _ rfl _ _ 79 rfl w.heap.size 5 i5 _ 1 1 Nz aK aM aH aI rfl Nat.one_pos u3 n _ rfl r.out ⟨wr.heap.size,0,I⟩ 1 1 [Z .u8 44] rfl rfl q.out ac.out am.out ao.out t.out ?_;intro v1 w9 d c _;obtain⟨g9,ap,rfl⟩:=Joins.ownsRow_form d (Iw _);replace⟨d,c⟩:=H2 d c);have y:=(a.alloc a.size _).grown c.out t.out (λk e=>(s.lt k e).1);have p:=Tryz.strconv_AppendInt_10 w.heap.size (n+1) x f.1 f.2 (V (O ⟨g9,0,I⟩) (n+1) ap) _ w9 d.out y.size ao9 (Lib.TabBelow.on ht.out y);replace⟨y,p⟩:=H2 y p;go_wp2_with fail;refine p.mono ?_;rintro e w2 ⟨v2,rfl,b,o,_⟩
    have m:xg w v2 (M9 ⟨va,vb,vc,vd⟩ (j+1)) w2:=⟨y.trans o,by
     rw[hs.out,Z9,Z9,Av,Av,<-hn.out]
     exact b⟩
    replace⟨m,b,o⟩:=H3 m b o;clear af;go_wp2;go_roundw
    case rel=>exact⟨j+1,ao9,by go_num,m.out⟩
    case measure=>simp[intOf];omega
  .have aJ:¬(j:Int)<4:=ao9;have aL:j=4:=ao9;subst aL;have s:=hM.row;have a:=hM.low;obtain⟨l,z⟩:=Ex (M9 ⟨va,vb,vc,vd⟩ 4);rw[<-z]at s;have al:l=I1 ⟨va,vb,vc,vd⟩:=z;have ad:0<l.length:=(by rw[al];simp[I1];omega);obtain⟨g,cap,rfl⟩:=Joins.ownsRow_form s ad
   have aO:=run_convert_bytes_back (P:=prog) wr 79 9 5 ⟨g,0,I⟩ cap l Nz Zd Fu (λi hi=>by
    rw[Tq,Dm,Fw s i ao9,Lib.byteCells,Bm,Az hi];rfl)
   replace⟨s,a,z,al,hM,ad⟩:=H6 s a z al hM ad;go_wp2;go_ret;exact⟨by rw[<-al.out];rfl,a.out⟩
