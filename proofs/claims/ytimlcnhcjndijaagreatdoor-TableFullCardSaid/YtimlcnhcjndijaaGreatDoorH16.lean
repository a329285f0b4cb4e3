/- Parts of a proof. No condition. -/
import Derived.Test.YtimlcnhcjndijaaGreatDoorH15
import Derived.Test.YtimlcnhcjndijaaGreatDoorH04
import Derived.Lib.VarintMem
import Derived.Laws.CopyOwn
import Derived.Lib.VarintBits
set_option linter.all false
set_option maxRecDepth 100000
set_option maxHeartbeats 3200000
namespace Go.Proofs.YtimlcnhcjndijaaGreatDoor
open Option renaming some->O,none->I
open Value renaming int->Z,slice->V,string->E,bool->Y
open Ending renaming returned->Q
open IntKind renaming i64->G
open Obj renaming cells->J
open Go renaming World->WD
open Go.RowKit renaming Below->BW
open Go.Proofs.Tryz
section
open Go.RowKit Go.Maps Go.Lib
variable{l:List UInt8}{n:Nat}{so:Option Addr}{w:WD}
structure Js (w:WD) (so:Option Addr) (n:Nat) (l:List UInt8):Prop where
 len:l.length=n
 max:n<=9223372036854775807
 cell:∀i x,l[i]?=O x->∃b off,so=O ⟨b,off,I⟩/\b<w.heap.size/\w.cell? ⟨b,off+i,I⟩=O (Z .u8 x.toNat)
def Js.low {w w':WD}    (h:Js w so n l) (d:BW w.heap.size w w'):Js w' so n l:=
 ⟨h.len,h.max,λi x g=>by
  obtain⟨b,c,e,a,f⟩:=h.cell i x g
  exact⟨b,c,e,B4 a d.size,(Af d a).trans f⟩⟩
def Afw (w:WD):Js w I 0 []:=⟨rfl,ao9,λi x h=>by simp at h⟩
structure L3 (w:WD) (B:Nat) (v:Value) (l:List UInt8):Prop where
 row:w.ownsRow B 5 1 v l.length (Lib.byteCells l)
def L3.form  {B:Nat} {v:Value}  (h:L3 w B v l):∃so c,v=V so l.length c/\Js w so l.length l:=by
 rcases h.row.2 with⟨a,h0⟩|⟨g,cap,j,a,p,d,m,k,o,n⟩
 .have e:=List.eq_nil_of_length_eq_zero h0;subst e;exact⟨I,0,a,Afw w⟩
 .refine ⟨O ⟨g,0,I⟩,cap,a,rfl,?_,λi x f=>⟨g,0,rfl,Ac d,?_⟩⟩
  .have:maxLen=9223372036854775807:=by kernel_rfl
   omega
  .have q:=(Ap.1 f).1;rw[Dm,Aa d];have b:(Lib.byteCells l)[i]?=O (Z .u8 x.toNat):=(by unfold Lib.byteCells;rw[Bm,f];rfl);rw[<-n,List.getElem?_take_of_lt ao9]at b;simpa using b
def Afx:(prog.info? 5).map (λi=>(i.zero,i.size,i.bytes))=O (O (Z .u8 0),1,1):=by kernel_rfl
def App:(prog.info? 5).map (·.size)=O 1:=by kernel_rfl
def Apq     (h:Js w so n l) (h0:0<(Lib.byteCells l).length):∃d,so=O d/\∀j v,(Lib.byteCells l)[j]?=O v->w.cell? (d.add j)=O v:=by
 rw[Vy]at h0;obtain⟨x,i⟩:=Ge l 0 h0;obtain⟨b,a,rfl,_,_⟩:=h.cell 0 x i;refine⟨_,rfl,λj v c=>?_⟩;unfold Lib.byteCells at c;rw[Bm]at c;obtain⟨y,k,rfl⟩:=Ou.1 c;obtain⟨m,f,e,_,g⟩:=h.cell j y k;simp only[Wb,Addr.mk.injEq,and_true]at e;obtain⟨rfl,rfl⟩:=e;rw[show(⟨b,a,I⟩:Addr).add j=⟨b,a+j,I⟩ by unfold Addr.add;cases j<;>rfl];exact g
structure zg (w:WD) (l:List UInt8) (v:Value) (wx:WD):Prop where
 own:L3 wx w.heap.size v l
 low:BW w.heap.size w wx
def Aa1 (so:Option Addr) (n c:Nat) (l:List UInt8) (x:Nat) (w:WD) (hx:x<18446744073709551616) (hb:Js w so n l) (hn:n<=1099511627776) :
  Calls prog 141 #[V so n c,Z .u64 x] w λe w'=>∃v,e=Q v/\L3 w' w.heap.size v (l++B2 x)/\BW w.heap.size w w':=by
 obtain⟨i0,hi,aB,aC,aD⟩:=B6 Afx;have aI:=Oc hx;have an:=hb.len;have mx:maxLen=9223372036854775807:=by kernel_rfl
 have aJ:=λu=>by
  have h:=Rv (P:=prog) u 79 5 i0 (Z .u8 0) Nz hi aB G G (n:Int) ((n:Int)+10) ao9 ao9 (by rw[aD];omega) ao9;have e:((n:Int)+10).toNat=n+10:=ao9
  rw[e]at h;simpa[aC,Value.cells]using h
 obtain⟨af,p⟩:=Ex (List.replicate (n+10) (Value.int .u8 0));obtain⟨cs,al⟩:=Ex (Lib.byteCells l);have z:cs.length=n:=by rw[al,Vy,an]
 have hg:(w.alloc (J (madeCells #[Z .u8 0] (n+10)) 5)).heap[w.heap.size]?=O (J af.toArray 5 (0,0)):=by
  rw[Ah]
  have:(madeCells #[Z .u8 0] (n+10))=af.toArray:=by apply Wc.1;rw[toList_madeCells_one,p]
  rw[this]
 have aE:BW w.heap.size w (w.alloc (J (madeCells #[Z .u8 0] (n+10)) 5)):=Bn
 have av:0<cs.length->∃ad,so=O ad/\∀j v,cs[j]?=O v->(w.alloc (J (madeCells #[Z .u8 0] (n+10)) 5)).cell? (ad.add j)=O v:=λh0=>by
  rw[al]at h0 ⊢;exact Apq (hb.low aE) h0
 have ac:0+cs.length<=af.length:=by rw[z,p,Vt];omega
 have ap:∀v∈cs,v.oneCell'=true:=by rw[al];exact Lib.byteCells_one l
 have ao:cs.length=Nat.min n n:=by rw[z];exact(Nat.min_self n).symm
 have i:∀w',w'.heap[w.heap.size]?=O (J (splice af 0 cs).toArray 5 (0,0))->L3 w' w.heap.size (V (O ⟨w.heap.size,0,I⟩) n (n+10)) l:=λw' h=>by
  refine⟨?_,.inr ⟨w.heap.size,n+10,_,?_,Nat.le_refl _,h,?_,?_,?_,?_⟩⟩
  .rw [Vy,P6]
  .rw [an]
  .omega
  .omega
  .rw [Tm,length_splice _ _ _ ac,p,Vt,P6]
  .show (splice af 0 cs).take _=_;unfold splice;rw[Wi,Oz,al,P6,List.take_left' (Vy l)]
 replace⟨hb,hi,aB,aC,aD,p,al,hg⟩:=H8 hb hi aB aC aD p al hg;replace⟨aE,av,ac,ap,ao,i,an,z⟩:=H8 aE av ac ap ao i an z;go_enter func141,ntmps141;go_wp2_with (refine wpList_copy_splice rfl (.tmp 12) (.tmp 13) 79 79 rfl 5 Nz App _ _ _ _ _ _ rfl rfl w.heap.size 0 af 5 hg.out cs ao.out (λh0=>⟨rfl,av h0⟩) ac.out ap.out w.heap.size w aE.out Ln ?_;intro w1 ak s;replace s:=Hh s;simp only[Act.put,goInt,List.setIfInBounds_toArray,V8,List.set_cons_zero]);have aF:=i w1 ak.out;replace aF:=Hh aF;go_wp2;go_loopw [1,5] (λvx vb wr=>∃(y:Nat) (m:List UInt8),vx=Z .u64 y/\y<=x/\Hid (B2 x=m++B2 y)/\Hid (zg w (l++m) vb wr)) (λvx _ _=>(intOf vx).toNat)
 case atStart=>exact⟨x,[],rfl,Nat.le_refl _,rfl,⟨by rw[N3];exact aF.out,s.out⟩⟩
 case round=>
  obtain⟨y,m,rfl,hy,t,hC⟩:=hrel;have aL:m.length+(B2 y).length<=10:=by have h2:=Ca List.length t.out;rw[Av]at h2;omega
  have aM:1<=(B2 y).length:=Lib.uvarint_pos y;have o:(l++m).length=n+m.length:=by rw[Av,an.out]
  have am:=hC.low.size;by_cases aH:128<=y
  .have aK:bits .or .u8 ((y:Int) % 256) 128=((y % 128+128:Nat):Int):=(by rw[Lib.u8_or128_any _ ao9 ao9];omega);have a:=hC.own.row;have g:=a.alloc (J #[Z .u8 ((y % 128+128:Nat):Int)] 5);have r:∀k,u5.ownBlock=O k->w.heap.size<=k/\k<wr.heap.size:=λk hk=>⟨(a.lt k hk).1,(a.lt k hk).2⟩;replace⟨t,hC,g,r,a,o⟩:=H6 t hC g r a o;go_wp2_with (at_builtin;refine J6 _ rfl _ _ 79 rfl w.heap.size 5 i0 (Z .u8 0) 1 1 Nz hi.out aB.out aC.out aD.out rfl ad9 _ _ _ rfl g.out ⟨wr.heap.size,0,I⟩ 1 1 [Value.int .u8 ((y % 128+128:Nat):Int)] rfl rfl ?c1 ?c2 ?c3 ?c4 ?c5 ?c6)
   case c1=>
    intro j u hj
    match j,hj with
    | 0,hj=>simp at hj;subst hj;simp[Addr.add]
   case c2=>intro u hu;simp at hu;subst hu;rfl
   case c3=>rw[o.out];omega
   case c4=>rw[o.out];omega
   case c5=>simp;omega
   case c6=>
    intro v' w2 b d _;have f:=(hC.low.alloc am _).grown d (by simp;omega) (λk hk=>(r k hk).1)
    have q:L3 w2 w.heap.size v' (l++(m++[(y % 128+128).toUInt8])):=by
     refine⟨?_⟩;have ec:((y % 128+128:Nat):Int)=(y:Int) % 128+128:=ao9;rw[<-Fd,Lib.byteCells_snoc _ ao9,Av,Av,Vu]
     first|exact b|(rw[ec];exact b)
    have aA:B2 x=(m++[(y % 128+128).toUInt8])++B2 (y / 128):=(by rw[t.out,show B2 y=_ from Lib.uvarint_big aH];simp);replace⟨b,d,f,q,aA⟩:=H5 b d f q aA;go_wp2;go_roundw
    case rel=>exact⟨y / 128,m++[(y % 128+128).toUInt8],by go_num,ao9,aA.out,⟨q.out,f.out⟩⟩
    case measure=>simp[intOf];omega
  .have a:=hC.own.row;have g:=a.alloc (J #[Z .u8 ((y:Nat):Int)] 5);have r:∀k,u5.ownBlock=O k->w.heap.size<=k/\k<wr.heap.size:=λk hk=>⟨(a.lt k hk).1,(a.lt k hk).2⟩;have aG:B2 y=[y.toUInt8]:=Lib.uvarint_small ao9;replace⟨t,hC,g,r,a,aG,o⟩:=H7 t hC g r a aG o;go_wp2_with (at_builtin;refine J6 _ rfl _ _ 79 rfl w.heap.size 5 i0 (Z .u8 0) 1 1 Nz hi.out aB.out aC.out aD.out rfl ad9 _ _ _ rfl g.out ⟨wr.heap.size,0,I⟩ 1 1 [Value.int .u8 ((y:Nat):Int)] rfl rfl ?c1 ?c2 ?c3 ?c4 ?c5 ?c6)
   case c1=>
    intro j u hj
    match j,hj with
    | 0,hj=>simp at hj;subst hj;simp[Addr.add]
   case c2=>intro u hu;simp at hu;subst hu;rfl
   case c3=>rw[o.out];omega
   case c4=>rw[o.out];omega
   case c5=>simp;omega
   case c6=>
    intro v' w2 b d _;have f:=(hC.low.alloc am _).grown d (by simp;omega) (λk hk=>(r k hk).1);have q:L3 w2 w.heap.size v' (l++B2 x):=(by refine⟨?_⟩;rw[t.out,aG.out,<-Fd,Lib.byteCells_snoc _ ao9,Av,Av,Vu];exact b);replace⟨b,d,f,q⟩:=H4 b d f q;go_wp2;go_ret;exact⟨v',rfl,q.out,f.out⟩
def Apr (n:Int) (h1:-9223372036854775808<=n) (c:n<=9223372036854775807):bits .xor .u64 (IntKind.u64.wrap (wrap64 (n*2))) (IntKind.u64.wrap (n / 9223372036854775808))=((zz n:Nat):Int):=by
 have b:IntKind.u64.wrap (wrap64 (n*2))=(((2*n) % 18446744073709551616).toNat:Nat):=by rw[<-IntWalk.i64_left,Zy,IntKind.wrap_i64];omega
 by_cases h:0<=n
 .have a:IntKind.u64.wrap (n / 9223372036854775808)=((0:Nat):Int):=by rw[Zy];omega
  rw[b,a,bits_xor_u64_nat _ _ ao9 ad9,Nat.xor_zero];unfold zz Lib.zigzag;rw[Ad h];omega
 .have a:IntKind.u64.wrap (n / 9223372036854775808)=((2 ^ 64-1:Nat):Int):=by rw[Zy];omega
  rw[b,a,bits_xor_u64_nat _ _ ao9 ad9,Nat.xor_comm,Lib.xor_ones64 _ ao9];unfold zz Lib.zigzag;rw[Ab h];omega
def Afy (so:Option Addr) (n c:Nat) (l:List UInt8) (x:Int) (w:WD) (h1:-9223372036854775808<=x) (g:x<=9223372036854775807) (d:Js w so n l) (h:n<=1099511627776) :
  Calls prog 89 #[V so n c,Z G x] w λe w'=>∃v,e=Q v/\L3 w' w.heap.size v (l++B2 (zz x))/\BW w.heap.size w w':=by
 have f:=Aa1 so n c l (zz x) w (Afv h1 g) d h;have i:=Apr x h1 g;replace⟨f,d⟩:=H2 f d;go_enter func89,ntmps89;go_wp2_with fail;refine f.mono ?_;rintro e w1 ⟨v,rfl,b,a⟩;replace⟨b,a⟩:=H2 b a;go_wp2;go_ret;exact⟨v,rfl,b.out,a.out⟩
def Aps (a b:List UInt8):Lib.byteCells (a++b)=Lib.byteCells a++Lib.byteCells b:=by simp[Lib.byteCells]
def Apt (so:Option Addr) (n c:Nat) (l:List UInt8) (s:ByteArray) (w:WD) (hs:s.size<=1099511627776) (x:Js w so n l) (hn:n<=1099511627776) :
  Calls prog 94 #[V so n c,E s] w λe w'=>∃v,e=Q v/\L3 w' w.heap.size v (l++B2 s.size++s.data.toList)/\BW w.heap.size w w':=by
 obtain⟨i0,z,r,t,u⟩:=B6 Afx;have hx:s.size<18446744073709551616:=ao9
 have m:=Aa1 so n c l s.size w hx x hn;have q:=x.len;have h:=Oc hx;have mx:maxLen=9223372036854775807:=by kernel_rfl
 have ac:=M8 s;replace⟨m,x,z,r,t,u,q⟩:=H7 m x z r t u q;go_enter func94,ntmps94;go_wp2_with fail;refine m.mono ?_;rintro e w1 ⟨v,rfl,y,g⟩;have a:=y.row;have i:=g.size;have j:(l++B2 s.size).length=n+(B2 s.size).length:=by rw[Av,q.out]
 have p:∀k,v.ownBlock=O k->w.heap.size<=k/\k<w1.heap.size:=λk m=>⟨(a.lt k m).1,(a.lt k m).2⟩;replace⟨y,g,a,p,j,h⟩:=H6 y g a p j h;go_wp2_with (at_builtin;refine Lib.wpList_append_own_string _ rfl _ _ 79 9 rfl w.heap.size 5 i0 Nz Fu z.out r.out t.out u.out _ _ _ rfl a.out s rfl ?c3 ?c4 i ?c6)
 case c3=>rw[j.out];have:=h.out;omega
 case c4=>rw[j.out];have:=h.out;omega
 case c6=>
  intro v' w2 f b _;have d:=g.grown b i (λk m=>(p k m).1);have o:L3 w2 w.heap.size v' (l++B2 s.size++s.data.toList):=by refine⟨?_⟩;rw[Av,ac,Aps (l++B2 s.size),Av];exact f
  replace⟨f,b,d,o⟩:=H4 f b d o;go_wp2;go_ret;exact⟨v',rfl,o.out,d.out⟩
structure zq (W:WD) (q:Bool) (bv:Value) (wx:WD):Prop where
 b:bv=Y q
 w:W=wx
def Afz     (h:Js w so n l) (c:Nat):(convert 79 9 (V so n c)).run prog w=.ok (E (au l)) w:=by
 cases so with
 | none=>
  have e:l=[]:=by
   cases l with
   | nil=>rfl
   | cons x l=>
    obtain⟨b,a,e,_⟩:=h.cell 0 x rfl;cases e
  subst e;exact run_convert_bytes_nil w 79 5 Nz Zd n c 9 Fu
 | some ad=>
  have g:=h.len;subst g;refine run_convert_bytes_back w 79 9 5 ad c l Nz Zd Fu λj f=>?_;obtain⟨b,a,e,_,d⟩:=h.cell j _ (Az f);rw[N4 e,show(⟨b,a,I⟩:Addr).add j=⟨b,a+j,I⟩ by unfold Addr.add;cases j<;>rfl];exact d
