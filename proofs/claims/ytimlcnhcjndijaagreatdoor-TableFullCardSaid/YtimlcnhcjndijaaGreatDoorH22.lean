/- Parts of a proof. No condition. -/
import Derived.Test.YtimlcnhcjndijaaGreatDoorH21
import Derived.Laws.AppendOwnNone
set_option linter.all false
set_option maxRecDepth 100000
set_option maxHeartbeats 6400000
namespace Go.Proofs.YtimlcnhcjndijaaGreatDoor
open Option renaming some->O,none->I
open IntKind renaming i64->G
open Value renaming int->Z,slice->V,bool->Y,pointer->K
open Obj renaming cells->J
open Ending renaming returned->Q
open Go renaming World->WD,Value->VL,Calls->CS
open Go.RowKit renaming Below->BW
open Go.Proofs.Tryz
namespace Pl
open Go.RowKit
structure Ch where
 fr:Int
 tt:Int
 v:V4
 back:Bool
def Ch.zero:Ch:=⟨0,0,V4.zero,false⟩
def ch (l:List Ch) (i:Nat):Ch:=l.getD i Ch.zero
def Aty {w w':WD} {base size n B:Nat} {e:TypeId} {v:VL} {xs:List VL} (h:w.ownsRow base e size v n xs) (f:BW B w w') (d:w.heap.size<=B):w'.ownsRow base e size v n xs:=by
 obtain⟨h1,c⟩:=h;refine⟨h1,?_⟩;rcases c with h|⟨g,cap,a,k,i,b,j⟩
 .exact .inl h
 .exact .inr ⟨g,cap,a,k,i,Ae f b (B4 (Ac b) d),j⟩
def Atz (w:WD) (a b c:Obj):BW w.heap.size w (((w.alloc a).alloc b).alloc c):=(Bn.alloc as9 _).alloc (by simp;omega) _

def Xk (w:WD) (n:Int):∀j u,([Z G n]:List VL)[j]?=O u->(w.alloc (J #[Z G n] 3 (0,0))).cell? ((⟨w.heap.size,0,I⟩:Addr).add j)=O u:=by
 intro j u a
 match j,a with
 | 0,a=>
  have:=Aa (Ah w (J #[Z G n] 3 (0,0))) 0;simp at a;subst a;exact this
 | j+1,a=>simp at a
def size_alloc {B:Nat} {w:WD} (h:B<=w.heap.size) (o:Obj):B<=(w.alloc o).heap.size:=by simp;omega

end Pl
namespace Pl

end Pl
namespace Pl
open Go.RowKit
variable{st:Int}{B c n sc:Nat}{so:Option Addr}{w w' wr:WD}

structure Ask where
 id:Int
 po:Option Addr
 pn:Nat
 pc:Nat
 gl:List Int
 nodes:Int
 v:V4
 aa:Int
 start:Int
 go:Option Addr
 gn:Nat
 gc:Nat
 eh:List Int
abbrev Ask.cells (a:Ask):Array VL:=#[Z G a.id,V a.po a.pn a.pc,Z G a.nodes,Z G a.v.a,Z G a.v.b,Z G a.v.c,Z G a.v.d,Z G a.aa,Z G a.start,V a.go a.gn a.gc]
abbrev Ask.val (a:Ask):VL:=.agg #[Z G a.id,V a.po a.pn a.pc,Z G a.nodes,Z G a.v.a,Z G a.v.b,Z G a.v.c,Z G a.v.d,Z G a.aa,Z G a.start,V a.go a.gn a.gc]
def Ask.obj (a:Ask):Obj:=J a.cells 266 (0,0)
structure Ask.ok (w:WD) (a:Ask):Prop where
 places:Ao w a.po a.pn a.gl
 nu:a.pn<=a.pc
 aj:Ao w a.go a.gn a.eh
 ou:a.gn<=a.gc
def Ask.ok.below  {a:Ask}  (h:a.ok w) (c:BW B w w') (b:w.heap.size<=B):a.ok w':=⟨h.places.below c b,h.nu,h.aj.below c b,h.ou⟩
def Oi  {b:Nat} {a:Ask} (h:w.heap[b]?=O a.obj):w.cell? ⟨b,0,I⟩=O (Z G a.id)/\w.cell? ⟨b,1,I⟩=O (V a.po a.pn a.pc)/\w.cell? ⟨b,2,I⟩=O (Z G a.nodes) /\
  w.cell? ⟨b,3,I⟩=O (Z G a.v.a)/\w.cell? ⟨b,4,I⟩=O (Z G a.v.b)/\w.cell? ⟨b,5,I⟩=O (Z G a.v.c)/\w.cell? ⟨b,6,I⟩=O (Z G a.v.d)/\w.cell? ⟨b,7,I⟩=O (Z G a.aa) /\
  w.cell? ⟨b,8,I⟩=O (Z G a.start)/\w.cell? ⟨b,9,I⟩=O (V a.go a.gn a.gc):=
 ⟨Aa h 0,Aa h 1,Aa h 2,Aa h 3,Aa h 4,Aa h 5,Aa h 6,Aa h 7,Aa h 8,Aa h 9⟩
def bi (bs:List Bool) (i:Nat):Bool:=bs.getD i false
structure Mj (w:WD) (ao:Option Addr) (n:Nat) (bs:List Bool):Prop where
 len:bs.length=n
 max:n<=9223372036854775807
 cell:∀i,i<n->∃b off,ao=O ⟨b,off,I⟩/\b<w.heap.size/\w.cell? ⟨b,off+i,I⟩=O (Y (bi bs i))
def Mj.below  {d:Option Addr}  {f:List Bool} (h:Mj w d n f)  (g:BW B w w') (l:w.heap.size<=B):Mj w' d n f:=
 ⟨h.len,h.max,λi k=>by
  obtain⟨b,c,e,a,j⟩:=h.cell i k
  exact⟨b,c,e,B4 a g.size,(Af g ao9).trans j⟩⟩
structure rh (w:WD) (tb gb:Nat) (uo:Option Addr) (un uc:Nat) (bs:List Bool) (now:Int):Prop where
 head:w.heap[tb]?=O (J #[K (O ⟨gb,0,I⟩),V uo un uc,Z G now] 270 (0,0))
 up:Mj w uo un bs
def rh.below  {e c g f:Nat} {i:Option Addr} {b:List Bool} {a:Int} (h:rh w e c i g f b a) (d:BW w.heap.size w w'):rh w' e c i g f b a:=⟨Ae d h.head (Ac h.head),h.up.below d Ln⟩
def At0 (zs:List Int) (x:Int) (w:WD) (e:Ending) (w':WD):Prop:=∃r:Int,e=Q (Z G r)/\(0<=r↔x∈zs)/\w'=w
def At1 (r:Option Addr) (n c:Nat) (zs:List Int) (x:Int) (w:WD) (m:Ao w r n zs):CS prog 216 #[V r n c,Z G x] w (At0 zs x w):=by
 have a:=m.len;have u:=m.max;replace⟨m,a⟩:=H2 m a;go_enter func216,ntmps216;go_wp2;go_loopw [5,8] (λ_ i wr=>∃k:Nat,i=Z G k/\k<=n/\Hid (∀j,j<k->zi zs j≠x)/\wr=w) (λ_ i _=>n-(intOf i).toNat)
 case atStart=>exact⟨0,rfl,Ar _,(λj h=>by omega),rfl⟩
 case round=>
  obtain⟨k,rfl,hk,f,rfl⟩:=hrel;by_cases s:k<n
  .have o:(k:Int)<n:=ao9;have z:(0:Int)<=(k:Int):=ao9;obtain⟨b,ac,rfl,hb,v⟩:=m.cell k s;obtain⟨y,l⟩:=Ex (zi zs k);rw[<-l]at v;by_cases q:x=y
   .have d:(x == y)=true:=(by simpa using q);have g:x∈zs:=Ah7.2 ⟨k,by rw[a.out];exact s,by rw[<-l];exact q.symm⟩;replace⟨l,q,g⟩:=H3 l q g;go_wp2;go_ret;exact⟨k,rfl,⟨λ_=>g.out,λ_=>by omega⟩,rfl⟩
   .have d:(x == y)=false:=by simpa using q
    have p:∀j,j<k+1->zi zs j≠x:=λj t=>by
     by_cases e:j=k
     .subst e;rw[<-l];exact λh=>q h.symm
     .exact f.out j ao9
    replace⟨l,q,p⟩:=H3 l q p;go_wp2;go_roundw
    case rel=>exact⟨k+1,by go_num,ao9,p.out,trivial⟩
    case measure=>simp[intOf];omega
  .have o:¬(k:Int)<n:=ao9
   have g:¬x∈zs:=λh=>by
    obtain⟨j,t,e⟩:=Ah7.1 h;exact f.out j (by rw[a.out]at t;omega) e
   replace g:=Hh g;go_wp2;go_ret;exact⟨-1,rfl,⟨λh=>(by omega),λh=>absurd h g.out⟩,rfl⟩
def Ah9 (f:Option Addr) (n c:Nat) (zs:List Int) (x:Int) (w:WD) (i:Ao w f n zs):CS prog 166 #[V f n c,Z G x] w (Att zs x w):=by
 have g:=At1 f n c zs x w i;replace g:=Hh g;go_enter func166,ntmps166;go_wp2_with fail;refine g.mono ?_;rintro e j ⟨r,rfl,b,rfl⟩;by_cases q:0<=r
 .have d:decide (0<=r)=true:=by simpa using q
  have a:=b.1 q;replace⟨q,a⟩:=H2 q a;clear b;go_wp2;go_ret;exact⟨true,rfl,⟨λ_=>a.out,λ_=>rfl⟩,rfl⟩
 .have d:decide (0<=r)=false:=by simpa using q
  have a:¬x∈zs:=λh=>q (b.2 h);replace⟨q,a⟩:=H2 q a;clear b;go_wp2;go_ret;exact⟨false,rfl,⟨λh=>(by cases h),λh=>absurd h a.out⟩,rfl⟩
def Ask.can (a:Ask):Bool:=decide (0<a.nodes) && decide (0<a.aa) && a.v.right
def Aia (a:Ask) (w:WD):CS prog 237 #[a.val] w λe w'=>e=Q (Y a.can)/\BW w.heap.size w w':=by
 have f:BW w.heap.size w (w.alloc a.obj):=Bn;replace f:=Hh f;by_cases b:0<a.nodes;rotate_left
 .have h:decide (0<a.nodes)=false:=by simpa using b
  have e:a.can=false:=by simp[Ask.can,h]
  rw[e];replace⟨b,e⟩:=H2 b e;go_enter func237,ntmps237;go_wp2;go_ret;exact⟨rfl,f.out⟩
 have h:decide (0<a.nodes)=true:=by simpa using b
 by_cases g:0<a.aa;rotate_left
 .have i:decide (0<a.aa)=false:=by simpa using g
  have e:a.can=false:=by simp[Ask.can,i]
  rw[e];replace⟨b,g,e⟩:=H3 b g e;go_enter func237,ntmps237;go_wp2;go_ret;exact⟨rfl,f.out⟩
 have i:decide (0<a.aa)=true:=by simpa using g
 have e:a.can=a.v.right:=by simp[Ask.can,h,i]
 rw[e];replace⟨b,g,e⟩:=H3 b g e;go_enter func237,ntmps237;go_wp2_with fail;refine(Iz a.v _).mono ?_;rintro j k ⟨rfl,d⟩;have c:=f.trans (d.mono f.size);replace⟨c,d⟩:=H2 c d;go_wp2;go_ret;exact⟨rfl,c.out⟩
def Nn (fr aa:Int):Int:=if 1099511627776-fr<aa then 1099511627777 else fr+aa
def X5 (fr a:Int) (w:WD) (h0:0<=fr) (h1:fr<=1099511627776) (f:-9223372036854775808<=a):CS prog 239 #[Z G fr,Z G a] w λe w'=>e=Q (Z G (Nn fr a))/\w'=w:=by
 have b:IntKind.i64.wrap (1099511627776-fr)=1099511627776-fr:=E0 _ ao9;unfold Nn;by_cases q:1099511627776-fr<a
 .have d:decide (1099511627776-fr<a)=true:=by simpa using q
  rw[Ad q];replace q:=Hh q;go_enter func239,ntmps239;go_wp2;go_ret;exact⟨rfl,rfl⟩
 .have d:decide (1099511627776-fr<a)=false:=by simpa using q
  have c:IntKind.i64.wrap (fr+a)=fr+a:=E0 _ ao9;rw[Ab q];replace q:=Hh q;go_enter func239,ntmps239;go_wp2;go_ret;exact⟨rfl,rfl⟩
def Qw (bs:List Bool) (zs:List Int) (i:Nat):Bool:=bi bs i && decide ((i:Int)∈zs)
def No (bs:List Bool) (zs:List Int) (k:Nat):List Nat:=(List.range k).filter (Qw bs zs)
def np (bs:List Bool) (zs:List Int):List Nat:=No bs zs bs.length
def Ab2 (a:List Bool) (zs:List Int) (k:Nat):No a zs (k+1)=if Qw a zs k=true then No a zs k++[k]else No a zs k:=by
 unfold No;rw[Wg,Ow];by_cases h:Qw a zs k=true
 .rw [Ad h];simp[h]
 .rw [Ab h];simp[h]
def At2 (bs:List Bool) (zs:List Int) (w:WD) (e:Ending) (w':WD):Prop:=
 ∃so n c,e=Q (V so n c)/\Ao w' so n (Bg (np bs zs))/\n<=c/\(∀b off,so=O ⟨b,off,I⟩->w.heap.size<=b)/\BW w.heap.size w w'
def Aib (tb gb un uc:Nat) (uo:Option Addr) (x:List Bool) (aJ:Int) (a:Ask) (w:WD) (ht:rh w tb gb uo un uc x aJ) (hz:Ao w a.po a.pn a.gl) (hu:un<=1000000) :
  CS prog 246 #[K (O ⟨tb,0,I⟩),a.val] w (At2 x a.gl w):=by
 obtain⟨i3,aH,aI,aC,aD⟩:=B6 Lx;have af:BW w.heap.size w (w.alloc a.obj):=Bn;have q:(w.alloc a.obj).heap[w.heap.size]?=O a.obj:=Ah _ _;have v:=ht.up.len;have t1:=Aa ht.head 1;simp at t1;have lt:=Ac ht.head;replace⟨ht,hz,af,q,v⟩:=H5 ht hz af q v;go_enter func246,ntmps246;go_wp2;go_loopw [5,6,7,13] (λov _ _ i wr=>∃(k L:Nat) (xs:List Nat),i=Z G k/\k<=un/\L<=k/\Hid (BW w.heap.size w wr)/\Hid (wr.heap[w.heap.size]?=O a.obj)/\Hid (Aj wr (w.heap.size+1) ov L xs)/\Hid (xs=No x a.gl k)) (λ_ _ _ i _=>un-(intOf i).toNat)
 case atStart=>exact⟨0,0,[],rfl,ao9,Nat.le_refl _,af.out,q.out,Aj.nil _ _,rfl⟩
 case round=>
  obtain⟨k,L,xs,rfl,hk,aK,hB,hx,f,z⟩:=hrel;by_cases hc:k<un
  .have aG:(k:Int)<un:=ao9;have aL:(0:Int)<=(k:Int):=ao9;obtain⟨b,aE,rfl,hb,a0⟩:=ht.up.cell k hc;have b0:=(Af hB.out hb).trans a0;clear a0;have sz:=hB.size;cases l:bi x k
   .rw [l]at b0;have c:xs=No x a.gl (k+1):=(by rw[Ab2,Ab (by simp[Qw,l]),z.out]);replace⟨c,l⟩:=H2 c l;go_wp2;go_roundw
    case rel=>exact⟨k+1,L,xs,by go_num,ao9,ao9,hB.out,hx.out,f.out,c.out⟩
    case measure=>simp[intOf];omega
   .rw [l]at b0;have x1:=(Oi hx.out).2.1;have lx:=Ac hx.out;have ao:=Ah9 a.po a.pn a.pc a.gl (k:Int) wr (hz.below hB.out Ln);replace ao:=Hh ao;go_wp2_with fail;refine ao.mono ?_;rintro e w2 ⟨r,rfl,hr,rfl⟩;have hp:Qw x a.gl k=r:=(by simp only[Qw,l,Bool.true_and];rw[P4,decide_eq_true_iff];exact hr.symm);clear hr;replace l:=Hh l;cases r
    .have c:xs=No x a.gl (k+1):=(by rw[Ab2,Ab (by rw[hp];simp),z.out]);replace⟨c,hp⟩:=H2 c hp;go_wp2;go_roundw
     case rel=>exact⟨k+1,L,xs,by go_num,ao9,ao9,hB.out,hx.out,f.out,c.out⟩
     case measure=>simp[intOf];omega
    .have c:xs++[k]=No x a.gl (k+1):=(by rw[Ab2,Ad hp,z.out]);have ac:w.heap.size+1<=w2.heap.size:=lx;have p:=f.2.alloc (J #[Z G (k:Int)] 3 (0,0));have n:=Xk w2 (k:Int);have o:∀u∈([Z G (k:Int)]:List VL),u.oneCell'=true:=by simp[Value.oneCell']
     have ad:L+1<=maxLen:=by
      have:maxLen=9223372036854775807:=by kernel_rfl
      omega
     have an:(L+1)*8<=140737488355328:=ao9;have s:=size_alloc ac (J #[Z G (k:Int)] 3 (0,0));have av:=f.2.lt;have aB:=f.1;replace⟨c,hp,p,n,o,ad,an,s⟩:=H8 c hp p n o ad an s;replace⟨av,aB⟩:=H2 av aB;go_wp2_with (at_builtin;refine J6 _ rfl _ _ 31 rfl (w.heap.size+1) 3 i3 _ 1 8 Nx aH aI aC aD rfl Nat.one_pos _ L _ rfl p.out ⟨w2.heap.size,0,I⟩ 1 1 [Z G (k:Int)] rfl rfl n.out o.out ad.out an.out s.out ?_;intro v1 w9 j m _;obtain⟨g,t,rfl⟩:=Joins.ownsRow_form j (Iw _);replace⟨j,m⟩:=H2 j m);have am:Aj w9 (w.heap.size+1) (V (O ⟨g,0,I⟩) (L+1) t) (L+1) (xs++[k]):=⟨by rw[Av,<-aB.out];rfl,by simpa[Bg]using j.out⟩;have hG:=((Below.refl _ _).alloc ac _).grown m.out s.out (λk hk=>(av k hk).1);have al:=hB.trans (hG.mono (D9 _));have aA:=Ae hG hx.out (Nat.lt_succ_self _);replace⟨am,al,aA,hG⟩:=H4 am al aA hG;go_roundw
     case rel=>exact⟨k+1,L+1,xs++[k],by go_num,ao9,ao9,al.out,aA.out,am.out,c.out⟩
     case measure=>simp[intOf];omega
  .have aG:¬(k:Int)<un:=ao9;have ap:k=x.length:=(by rw[v.out];omega);have y:xs=np x a.gl:=(by unfold np;rw[z.out,ap]);have aF:L<=9223372036854775807:=ao9;replace⟨ap,y⟩:=H2 ap y;have d:=f.out;rcases Joins.ownsRow_forms d.2 with⟨rfl,h0⟩|⟨g,t,rfl⟩
   .have q:xs=[]:=(by have:=d.1;rw[h0]at this;exact Fv.1 this.symm);replace⟨d,h0,q⟩:=H3 d h0 q;go_wp2;go_ret;refine⟨I,0,0,rfl,?_,Nat.le_refl _,(λb aE h=>by simp at h),hB.out⟩;rw[<-y.out,q.out];exact Uq _
   .obtain ⟨o1,o2,o3⟩:=d.at aF;replace⟨d,o1,o2,o3⟩:=H4 d o1 o2 o3;go_wp2;go_ret;refine⟨O ⟨g,0,I⟩,L,t,rfl,?_,o2.out,(λb aE e=>by cases e;exact Nat.le_of_succ_le o3.out),hB.out⟩;rw[<-y.out];exact o1.out
structure Np (bs:List Bool) (a:Ask) (zs:List Int):Prop where
 vh:∀i,i<zs.length->zi zs i∈Bg (np bs a.gl)
 bj:∀i,i+1<zs.length->zi zs i<zi zs (i+1)
 len:(zs.length:Int)=a.nodes
def At3 (bs:List Bool) (a:Ask) (zs:List Int) (w:WD) (e:Ending) (w':WD):Prop:=∃b:Bool,e=Q (Y b)/\(b=true↔Np bs a zs)/\BW w.heap.size w w'
def At4 (tb gb un uc:Nat) (uo:Option Addr) (p:List Bool) (av:Int) (a:Ask) (ao:Option Addr) (m c:Nat) (zs:List Int) (w:WD) (ht:rh w tb gb uo un uc p av) (hp:Ao w a.po a.pn a.gl) (hu:un<=1000000) (hz:Ao w ao m zs) :
  CS prog 238 #[K (O ⟨tb,0,I⟩),a.val,V ao m c] w (At3 p a zs w):=by
 obtain⟨W,hW⟩:=Ex (w.alloc a.obj);have o:BW w.heap.size w W:=by rw[hW];exact Bn
 have ac:W.heap[w.heap.size]?=O a.obj:=by rw[hW];exact Ah _ _
 have z:=Aib tb gb un uc uo p av a W (ht.below o) (hp.below o Ln) hu;rw[hW]at z;have l:=hz.len;have aD:=hz.max;replace⟨ht,hp,hz,o,ac,z,l,hW⟩:=H8 ht hp hz o ac z l hW;go_enter func238,ntmps238;go_wp2_with fail;refine z.mono ?_;rintro e w2 ⟨so,sn,sc,rfl,al,_,_,t⟩;rw[<-hW.out]at t;have n:=o.trans (t.mono o.size);have am:=Ae t ac.out (Ac ac.out);replace⟨al,t,n,am⟩:=H4 al t n am;go_wp2;go_loopw [8,9,15] (λ_ _ i wr=>∃k:Nat,i=Z G k/\k<=m/\Hid (∀i,i<k->zi zs i∈Bg (np p a.gl)/\(∀j,i=j+1->zi zs j<zi zs i))/\wr=w2) (λ_ _ i _=>m-(intOf i).toNat)
 case atStart=>exact⟨0,rfl,Ar _,(λi h=>absurd h (P3 i)),rfl⟩
 case round=>
  obtain⟨k,rfl,hk,s,rfl⟩:=hrel;by_cases hc:k<m
  .have aC:(k:Int)<m:=ao9;have aH:(0:Int)<=(k:Int):=ao9;obtain⟨b,aJ,rfl,hb,a0⟩:=hz.cell k hc;have b0:=(Af n.out hb).trans a0;clear a0;obtain⟨x,hx⟩:=Ex (zi zs k);rw[<-hx]at b0
   have an:Hid (¬(x∈Bg (np p a.gl)/\∀j,k=j+1->zi zs j<x)->¬Np p a zs):=λh hg=>by
    have ap:k<zs.length:=(by rw[l.out];exact hc);refine h ⟨by rw[hx];exact hg.vh k ap,λj e=>?_⟩;subst e;rw[hx];exact hg.bj j ap
   have ad:=Ah9 so sn sc (Bg (np p a.gl)) x wr al.out;replace⟨hx,ad⟩:=H2 hx ad;go_wp2_with fail;refine ad.mono ?_;rintro e w3 ⟨r,rfl,hr,rfl⟩
   cases r with
   | false=>
    have g:=an (λh=>by have:=hr.2 h.1;cases this);clear hr;replace g:=Hh g;go_wp2;go_ret;exact⟨false,rfl,⟨λh=>(by cases h),λh=>absurd h g.out⟩,n.out⟩
   | true=>
    have v:=hr.1 rfl;clear hr;replace v:=Hh v;by_cases k0:k=0
    .have dk:decide (0<(k:Int))=false:=(by simp;omega);have aA:decide (0<k)=false:=by simp;omega
     have f:∀i,i<k+1->zi zs i∈Bg (np p a.gl)/\(∀j,i=j+1->zi zs j<zi zs i):=λi hi=>by
      have:i=k:=ao9
      subst this;exact⟨by rw[<-hx.out];exact v.out,λj e=>by omega⟩
     replace⟨k0,f⟩:=H2 k0 f;go_wp2;go_roundw
     case rel=>exact⟨k+1,by go_num,ao9,f.out,trivial⟩
     case measure=>simp[intOf];omega
    .obtain ⟨j,hj⟩:∃j,k=j+1:=⟨k-1,ao9⟩;have dk:decide (0<(k:Int))=true:=(by simp;omega);have aA:decide (0<k)=true:=(by simp;omega);have ej:IntKind.i64.wrap ((k:Int)-1)=(j:Int):=(by rw[E0 _ ao9];omega);have aG:(j:Int)<m:=ao9;have aF:(0:Int)<=(j:Int):=ao9;obtain⟨b',aE,e',aB,a1⟩:=hz.cell j ao9;cases e';have b1:=(Af n.out aB).trans a1;clear a1;obtain⟨y,hy⟩:=Ex (zi zs j);rw[<-hy]at b1;by_cases q3:x<=y
     .have d3:decide (x<=y)=true:=(by simpa using q3);have g:=an (λh=>by have:=h.2 j hj;rw[<-hy]at this;omega);replace⟨q3,g,hy,hj,k0⟩:=H5 q3 g hy hj k0;go_wp2;go_ret;exact⟨false,rfl,⟨λh=>(by cases h),λh=>absurd h g.out⟩,n.out⟩
     .have d3:decide (x<=y)=false:=by simpa using q3
      have f:∀i,i<k+1->zi zs i∈Bg (np p a.gl)/\(∀j,i=j+1->zi zs j<zi zs i):=λi hi=>by
       by_cases e:i=k
       .subst e;refine⟨by rw[<-hx.out];exact v.out,λj2 e=>?_⟩
        have:j2=j:=ao9
        subst this;rw[<-hx.out,<-hy];omega
       .exact s.out i ao9
      replace⟨q3,f,hy,hj,k0⟩:=H5 q3 f hy hj k0;go_wp2;go_roundw
      case rel=>exact⟨k+1,by go_num,ao9,f.out,trivial⟩
      case measure=>simp[intOf];omega
  .have aC:¬(k:Int)<m:=ao9;have aI:k=m:=ao9;have x2:=(Oi am.out).2.2.1;by_cases q:(m:Int)=a.nodes
   .have d:((m:Int) == a.nodes)=true:=(by simpa using q);have u:Np p a zs:=⟨λi hi=>(s i (by rw[l.out]at hi;omega)).1,λi hi=>(s (i+1) (by rw[l.out]at hi;omega)).2 i rfl,by rw[l.out];exact q⟩;replace⟨q,u⟩:=H2 q u;go_wp2;go_ret;exact⟨true,rfl,⟨λ_=>u.out,λ_=>rfl⟩,n.out⟩
   .have d:((m:Int) == a.nodes)=false:=(by simpa using q);have af:¬Np p a zs:=λh=>q (by rw[<-l.out];exact h.len);replace⟨q,af⟩:=H2 q af;go_wp2;go_ret;exact⟨false,rfl,⟨λh=>(by cases h),λh=>absurd h af.out⟩,n.out⟩
def Mk (bs:List Bool) (now:Int) (a:Ask) (start:Int) (zs:List Int):Prop:=a.can=true/\now<=start/\start<=1099511627776/\Np bs a zs
def Aic (gb gs cap:Nat) (po:Option Addr) (ps:List Nd) (bs:List Bool) (now:Int) (a:Ask) (start:Int) (zs:List Int) (w:WD) (e:Ending) (w':WD):Prop:=
 ∃(b:Bool) (ps':List Nd),e=Q (Y b)/\By w' gb gs po cap ps'/\ia w ps ps'/\Mod (Bc ps) w w' /\
  ((¬Mk bs now a start zs/\b=false/\ps'=ps)\/(Mk bs now a start zs/\∃r,Lg ps zs start (Nn start a.aa) a.v r ps'/\(b=true↔r=0)))
def Jv  {j k cap b:Nat} {po:Option Addr} {h:List Nd} {o:Array VL} {T:TypeId} (g:By w j k po cap h) (e:w.heap[b]?=O (J o T (0,0))) (h1:T≠363) (l:T≠398):¬Bc h b:=by
 rintro⟨i,f,c|c⟩
 .have:=(g.fp i f).head;rw[<-c,e]at this;simp at this;exact h1 this.2
 .obtain ⟨d,a,_⟩:=(g.fp i f).row.ar;rw[<-c,e]at a;simp at a;exact l a.2
def Mod.cz {S:Nat->Prop}  (h:BW w.heap.size w w'):Mod S w w':=⟨h.os,h.tape,h.output,h.size,λb a _=>h.block b a⟩
def Mod.iu {S:Nat->Prop} {w w1 d:WD} (h:Mod S w w1) (k:Mod S w1 d):Mod S w d:=
 ⟨k.os.trans h.os,k.tape.trans h.tape,k.output.trans h.output,Aw h.size k.size,λb c a=>(k.block b (B4 c h.size) a).trans (h.block b c a)⟩
def At5 (gb gs cap:Nat) (po:Option Addr) (ps:List Nd) (tb un uc:Nat) (uo:Option Addr) (bs:List Bool) (k:Int) (a:Ask) (start:Int) (ao:Option Addr) (m c:Nat) (zs:List Int) (w:WD) (hP:By w gb gs po cap ps) (ht:rh w tb gb uo un uc bs k)
  (hp:Ao w a.po a.pn a.gl) (hu:un<=1000000) (hz:Ao w ao m zs) (al:0<m->vf ao (Bc ps)) (aK:m<=c) (aN:0<=k) :
  CS prog 186 #[K (O ⟨tb,0,I⟩),a.val,Z G start,V ao m c] w (Aic gb gs cap po ps bs k a start zs w):=by
 obtain⟨W,hW⟩:=Ex (w.alloc a.obj);have av:BW w.heap.size w W:=by rw[hW];exact Bn
 have aB:W.heap[w.heap.size]?=O a.obj:=by rw[hW];exact Ah _ _
 have s:¬Mk bs k a start zs->∀w',BW w.heap.size w w'->Aic gb gs cap po ps bs k a start zs w (Q (Y false)) w':=λh w' hb=>⟨false,ps,rfl,hP.below hb,ia.refl _ _,Mod.cz hb,.inl ⟨h,rfl,rfl⟩⟩;have aA:=Aia a W;rw[hW]at aA;replace⟨hP,ht,hp,hz,al,av,aB,aA⟩:=H8 hP ht hp hz al av aB aA;replace⟨hW,s⟩:=H2 hW s;go_enter func186,ntmps186;go_wp2_with fail;refine aA.mono ?_;rintro e w1 ⟨rfl,z⟩;rw[<-hW.out]at z;have j:=av.trans (z.mono av.size);have x:=Ae z aB.out (Ac aB.out);have an:=ht.below j;have c2:=Aa an.head 2;simp at c2;have lt:=Ac an.head;obtain⟨y0,y1,y2,y3,y4,y5,y6,y7,y8,y9⟩:=Oi x;have lx:=Ac x;replace⟨z,j,x,an⟩:=H4 z j x an;cases i:a.can
 .have f:=s (λh=>by have:=h.1;rw[i]at this;cases this) w1 j.out;replace⟨i,f⟩:=H2 i f;go_wp2;go_ret;exact f.out
 by_cases q1:start<k
 .have d1:decide (start<k)=true:=by simpa using q1
  have f:=s (λh=>by have:=h.2.1;omega) w1 j.out;replace⟨i,f,q1⟩:=H3 i f q1;go_wp2;go_ret;exact f.out
 have d1:decide (start<k)=false:=by simpa using q1
 by_cases q2:1099511627776<start
 .have d2:decide (1099511627776<start)=true:=by simpa using q2
  have f:=s (λh=>by have:=h.2.2.1;omega) w1 j.out;replace⟨i,f,q1,q2⟩:=H4 i f q1 q2;go_wp2;go_ret;exact f.out
 have d2:decide (1099511627776<start)=false:=by simpa using q2
 have aE:=At4 tb gb un uc uo bs k a ao m c zs w1 an.out (hp.below j.out Ln) hu (hz.below j.out Ln);have aL:0<=start:=ao9
 have aJ:start<=1099511627776:=ao9
 replace⟨aE,q1,q2⟩:=H3 aE q1 q2;have ac:=Hh i;clear i;go_wp2_with fail;refine aE.mono ?_;rintro e w2 ⟨b,rfl,hb,t⟩;have g:=j.trans (t.mono j.size);have n:=Ae t x.out (Ac x.out);have l:=ht.below g;clear c2 lt y0 y1 y2 y3 y4 y5 y6 y7 y8 y9 lx
 cases b with
 | false=>
  have f:=s (λh=>by have:=hb.2 h.2.2.2;cases this) w2 g;replace⟨f,g,n,l,t⟩:=H5 f g n l t;clear hb;go_wp2;go_ret;exact f.out
 | true=>
  have ap:=hb.1 rfl;clear hb
  have aH:∀W',BW w2.heap.size w2 W'->CS prog 236 #[K (O ⟨gb,0,I⟩),V ao m c,Z G start,Z G (Nn start a.aa),a.v.val] W' (Abx (Lg ps zs start (Nn start a.aa) a.v) gb gs cap po ps W'):=
   λW' h=>Aby gb gs cap po ps ao m c zs start (Nn start a.aa) a.v W' (hP.below (g.trans (h.mono g.size))) (hz.below (g.trans (h.mono g.size)) Ln) al.out aK
  have aG:-9223372036854775808<=a.aa:=by have:=ac.out;simp[Ask.can]at this;omega
  have aC:=λW'=>X5 start a.aa W' aL aJ aG;have c0:=Aa l.head 0;simp at c0;have lt:=Ac l.head;obtain⟨y0,y1,y2,y3,y4,y5,y6,y7,y8,y9⟩:=Oi n;have lx:=Ac n;have aI:=Jv (hP.below g) l.head ad9 ad9;have p:=Jv (hP.below g) n ad9 ad9;have y:BW w2.heap.size w2 w2.drew:=(Below.refl _ _).drew;replace⟨aI,p⟩:=H2 aI p;clear y0 y1 y2 y8 y9;replace⟨ap,g,n,l,t,aH,aC,y⟩:=H8 ap g n l t aH aC y;replace aG:=Hh aG;go_wp2_with fail;go_region_held3 (λw'=>w'.cell? ⟨tb,0,I⟩=O (K (O ⟨gb,0,I⟩))/\w'.cell? ⟨w.heap.size,3,I⟩=O (Z G a.v.a)/\w'.cell? ⟨w.heap.size,4,I⟩=O (Z G a.v.b)/\w'.cell? ⟨w.heap.size,5,I⟩=O (Z G a.v.c)/\w'.cell? ⟨w.heap.size,6,I⟩=O (Z G a.v.d)/\w'.cell? ⟨w.heap.size,7,I⟩=O (Z G a.aa))
   (first
     | (go_keep;done)
     | (refine⟨(u tb lt aI.out _).trans c0,(u _ lx p.out _).trans y3,(u _ lx p.out _).trans y4,(u _ lx p.out _).trans y5,(u _ lx p.out _).trans y6,(u _ lx p.out _).trans y7⟩))
   (first
     | (go_at_call 239;refine(aC _).mono ?_
        rintro e w4 ⟨rfl,rfl⟩)
     | (go_at_call 236;refine(aH _ y.out).mono ?_;rintro e w5 ⟨r,aM,rfl,hT,aF,aD,q⟩;have u:Hid (∀b,b<w2.heap.size->¬Bc ps b->∀o,w5.cell? ⟨b,o,I⟩=w2.cell? ⟨b,o,I⟩):=λb hb hn o=>Bl (a:=⟨b,o,I⟩) (w:=w2) (q.block b hb hn)
        replace⟨hT,aF,aD,q⟩:=H4 hT aF aD q))
  have af:=(Mod.cz g.out).iu ((Mod.cz y.out).iu q.out);have ad:=aD.back (Aw g.size y.size);have am:Mk bs k a start zs:=⟨ac.out,by have:=q1.out;omega,aJ,ap.out⟩;replace⟨af,ad,am⟩:=H3 af ad am;go_wp2;go_ret;exact⟨r == 0,aM,rfl,aF.out,ad.out,af.out,.inr ⟨am.out,r,hT.out,as9⟩⟩
def Qx (ps:List Nd) (bs:List Bool) (now:Int) (a:Ask) (st:Int) (so:Option Addr) (sn:Nat) (ps':List Nd) (w':WD):Prop:=
 (a.can=false/\st=-1/\so=I/\sn=0/\ps'=ps) \/
 (a.can=true/\∃t xs is,Fq ps (Bg (np bs a.gl)) a.nodes a.v a.aa now t xs is/\(is=false->st=-1/\so=I/\sn=0/\ps'=ps) /\
   (is=true->st=t/\Ao w' so sn (Bg xs)/\∃r,Lg ps (Bg xs) t (t+a.aa) a.v r ps'))
def Aid (gb gs cap:Nat) (po:Option Addr) (ps:List Nd) (bs:List Bool) (now:Int) (a:Ask) (w:WD) (e:Ending) (w':WD):Prop:=
 ∃st so sn sc ps',e=Q (.agg #[Z G a.id,Z G st,V so sn sc])/\By w' gb gs po cap ps'/\ia w ps ps'/\Mod (Bc ps) w w'/\sn<=sc/\(∀b off,so=O ⟨b,off,I⟩->w.heap.size<=b/\¬Bc ps' b)/\Qx ps bs now a st so sn ps' w'
structure pw (w:WD) (a:Ask) (st:Int) (so:Option Addr) (sn sc:Nat) (wr:WD):Prop where
 ask:wr.heap[w.heap.size]?=O a.obj
 r:wr.heap[w.heap.size+1]?=O (J #[Z G 0,Z G 0,V I 0 0] 224 (0,0))
 s:wr.heap[w.heap.size+1+1]?=O (J #[Z G a.id,Z G st,V so sn sc] 224 (0,0))
def pw.below  {a:Ask}    (h:pw w a st so c sc wr) (b:BW wr.heap.size wr w'):pw w a st so c sc w':=⟨Ae b h.ask (Ac h.ask),Ae b h.r (Ac h.r),Ae b h.s (Ac h.s)⟩
def pw.mod  {a:Ask}   {f sc:Nat} {S:Nat->Prop} (h:pw w a st so f sc wr) (d:Mod S wr w') (e:∀b,S b->b<w.heap.size):pw w a st so f sc w':=
 ⟨(d.block _ (Ac h.ask) (λc=>by have:=e _ c;omega)).trans h.ask,(d.block _ (Ac h.r) (λc=>by have:=e _ c;omega)).trans h.r,(d.block _ (Ac h.s) (λc=>by have:=e _ c;omega)).trans h.s⟩
def Ao.setCell  {f:Option Addr}  {zs:List Int} (h:Ao w f n zs) (c:Addr) (v:VL) (j:∀b d,f=O ⟨b,d,I⟩->b≠c.block):Ao (w.setCell c v) f n zs:=
 ⟨h.len,h.max,λi k=>by
  obtain⟨b,d,e,g,l⟩:=h.cell i k
  exact⟨b,d,e,by simpa[World.setCell]using g,(Bl (a:=⟨b,d+i,I⟩) (w:=w) (Ci _ _ _ _ (j b d e))).trans l⟩⟩
def pw.set  {a:Ask} {st f:Int} {so e:Option Addr} {j sc d c:Nat} (h:pw w a st so j sc wr) :
  pw w a f e d c ((wr.setCell ⟨w.heap.size+1+1,1,I⟩ (Z G f)).setCell ⟨w.heap.size+1+1,2,I⟩ (V e d c)):=by
 have g:∀b,b≠w.heap.size+1+1->((wr.setCell ⟨w.heap.size+1+1,1,I⟩ (Z G f)).setCell ⟨w.heap.size+1+1,2,I⟩ (V e d c)).heap[b]?=wr.heap[b]?:=λb i=>by
  rw[Ci _ _ _ _ i,Ci _ _ _ _ i]
 refine⟨(g _ ao9).trans h.ask,(g _ ao9).trans h.r,?_⟩;exact Am (Am h.s 1 _) 2 _
def Aie (gb gs cap:Nat) (po:Option Addr) (ps:List Nd) (tb un uc:Nat) (uo:Option Addr) (bs:List Bool) (n:Int) (a:Ask) (w:WD) (hP:By w gb gs po cap ps) (ht:rh w tb gb uo un uc bs n)
  (hp:Ao w a.po a.pn a.gl) (hu:un<=1000000) :
  CS prog 188 #[K (O ⟨tb,0,I⟩),a.val] w (Aid gb gs cap po ps bs n a w):=by
 obtain⟨W,hW⟩:=Ex (((w.alloc a.obj).alloc (J #[Z G 0,Z G 0,V I 0 0] 224 (0,0))).alloc (J #[Z G a.id,Z G (-1),V I 0 0] 224 (0,0)));have aN:BW w.heap.size w W:=by rw[hW];exact Atz w _ _ _
 have aT:pw w a (-1) I 0 0 W:=by rw[hW];exact⟨Ak _ (Ak _ (Ah _ _)),Ak _ (A2 _ _ as9),A2 _ _ as9⟩
 have aP:=Aia a W;rw[hW]at aP;have aJ:∀b,Bc ps b->b<w.heap.size:=λb hb=>hP.ki hb;replace⟨hP,ht,hp,aN,aT,aP,hW,aJ⟩:=H8 hP ht hp aN aT aP hW aJ;go_enter func188,ntmps188;go_wp2_with fail;refine aP.mono ?_;rintro e w1 ⟨rfl,aG⟩;rw[<-hW.out]at aG;have ac:=aN.trans (aG.mono aN.size);have j:=aT.below aG;have aO:=hP.below ac;have aB:=ht.below ac;have s0:=Aa j.s 0;have s1:=Aa j.s 1;have s2:=Aa j.s 2;have r0:=Aa j.r 0;have r1:=Aa j.r 1;have r2:=Aa j.r 2;have f0:=Ag j.r 0;have f1:=Ag j.r 1;have f2:=Ag j.r 2;simp at s0 s1 s2 r0 r1 r2;replace⟨aG,ac,j,aO,aB⟩:=H5 aG ac j aO aB
 have aS:Hid (∀(wr:WD) (st:Int) (so:Option Addr) (sn sc:Nat) (p:List Nd),By wr gb gs po cap p->ia w ps p->Mod (Bc ps) w wr->wr.heap[w.heap.size+1]?=O (J #[Z G 0,Z G 0,V I 0 0] 224 (0,0))->sn<=sc->(∀b f,so=O ⟨b,f,I⟩->w.heap.size<=b/\b≠w.heap.size+1/\¬Bc p b)->Qx ps bs n a st so sn p wr ->
   Aid gb gs cap po ps bs n a w (Q (.agg #[Z G a.id,Z G st,V so sn sc])) (((wr.setCell ⟨w.heap.size+1,0,I⟩ (Z G a.id)).setCell ⟨w.heap.size+1,1,I⟩ (Z G st)).setCell ⟨w.heap.size+1,2,I⟩ (V so sn sc))):=by
  intro wr st so sn sc p h1 h2 h3 h4 h5 h6 h7
  have aA:∀b,b≠w.heap.size+1->(((wr.setCell ⟨w.heap.size+1,0,I⟩ (Z G a.id)).setCell ⟨w.heap.size+1,1,I⟩ (Z G st)).setCell ⟨w.heap.size+1,2,I⟩ (V so sn sc)).heap[b]?=wr.heap[b]?:=λb hb=>by
   rw[Ci _ _ _ _ hb,Ci _ _ _ _ hb,Ci _ _ _ _ hb]
  have hm:=Jv h1 h4 ad9 ad9
  have bd:gb≠w.heap.size+1:=λe=>by have:=h1.head;rw[e,h4]at this;simp at this
  refine⟨st,so,sn,sc,p,rfl,⟨(aA _ bd).trans h1.head,h1.addr,λi hi=>?_,λi hi=>?_,h1.inv,h1.apart,h1.own,h1.gg⟩,h2,⟨h3.os,h3.tape,h3.output,by simpa[World.setCell]using h3.size,λb hb hS=>(aA b ao9).trans (h3.block b hb hS)⟩,h5,λb f e=>⟨(h6 b f e).1,(h6 b f e).2.2⟩,?_⟩
  .have h2:gs≠w.heap.size+1:=λe=>by
    have:=h1.ptr i hi;rw[e,Aa h4 i]at this
    match i,this with
    | 0,h=>simp at h
    | 1,h=>simp at h
    | 2,h=>simp at h
    | i+3,h=>simp at h
   exact(Bl (a:=⟨gs,i,I⟩) (w:=wr) (aA _ h2)).trans (h1.ptr i hi)
  .have hq:=h1.fp i hi;exact⟨(aA _ (λe=>hm ⟨i,hi,.inl e.symm⟩)).trans hq.head,hq.row.of_block (aA _ (λe=>hm ⟨i,hi,.inr e.symm⟩)),hq.ne⟩
  .rcases h7 with c|⟨c,t,xs,is,d1,d2,d3⟩
   .exact .inl c
   .refine .inr ⟨c,t,xs,is,d1,d2,λhi=>?_⟩;obtain⟨e1,e2,e3⟩:=d3 hi;refine⟨e1,⟨e2.len,e2.max,λi hi=>?_⟩,e3⟩;obtain⟨b,f,e,a8,hc⟩:=e2.cell i hi;exact⟨b,f,e,by simpa[World.setCell]using a8,(Bl (a:=⟨b,f+i,I⟩) (w:=wr) (aA b (h6 b f e).2.1)).trans hc⟩
 cases af:a.can
 .replace af:=Hh af;go_wp2;refine An (v:=.agg #[Z G a.id,Z G (-1),V I 0 0]) (by simp[results,results188,go_sem,r0,r1,r2]) rfl ?_;exact aS.out _ (-1) I 0 0 ps aO.out (ia.refl _ _) (Mod.cz ac.out) j.r Ln (λb f h=>by simp at h) (.inl ⟨af.out,rfl,rfl,rfl,rfl⟩)
 have aH:=Hh af;clear af s0 s1 s2 r0 r1 r2 f0 f1 f2;have a0:=Aib tb gb un uc uo bs n a w1.drew (aB.below (Below.refl _ _).drew) (hp.below ac.drew Ln) hu;have c0:=Aa aB.head 0;have c2:=Aa aB.head 2;simp at c0 c2;have lt:=Ac aB.head;obtain⟨y0,y1,y2,y3,y4,y5,y6,y7,y8,y9⟩:=Oi j.ask;have z:=Ac j.ask;have g:BW w1.heap.size w1 w1.drew:=(Below.refl _ _).drew
 have bb:Hid (∀w':WD,BW w1.heap.size w1 w'->w'.cell? ⟨tb,0,I⟩=O (K (O ⟨gb,0,I⟩))/\w'.cell? ⟨tb,2,I⟩=O (Z G n)/\w'.cell? ⟨w.heap.size,0,I⟩=O (Z G a.id)/\w'.cell? ⟨w.heap.size,1,I⟩=O (V a.po a.pn a.pc)/\w'.cell? ⟨w.heap.size,2,I⟩=O (Z G a.nodes)/\w'.cell? ⟨w.heap.size,3,I⟩=O (Z G a.v.a)/\w'.cell? ⟨w.heap.size,4,I⟩=O (Z G a.v.b)/\w'.cell? ⟨w.heap.size,5,I⟩=O (Z G a.v.c)/\w'.cell? ⟨w.heap.size,6,I⟩=O (Z G a.v.d)/\w'.cell? ⟨w.heap.size,7,I⟩=O (Z G a.aa)/\w'.cell? ⟨w.heap.size,8,I⟩=O (Z G a.start)/\w'.cell? ⟨w.heap.size,9,I⟩=O (V a.go a.gn a.gc)):=λw' h=>
  ⟨(Af h lt).trans c0,(Af h lt).trans c2,(Af h z).trans y0,(Af h z).trans y1,(Af h z).trans y2,(Af h z).trans y3,(Af h z).trans y4,(Af h z).trans y5,(Af h z).trans y6,(Af h z).trans y7,(Af h z).trans y8,(Af h z).trans y9⟩
 have aY:=
  λso sn sc W' h hz=>Atq gb gs cap po ps so sn sc (Bg (np bs a.gl)) a.nodes a.v a.aa n W' (aO.below h) hz
 replace⟨a0,g,aY⟩:=H3 a0 g aY;go_wp2_with fail;go_region_held3 (λw'=>w'.cell? ⟨tb,0,I⟩=O (K (O ⟨gb,0,I⟩))/\w'.cell? ⟨tb,2,I⟩=O (Z G n)/\w'.cell? ⟨w.heap.size,0,I⟩=O (Z G a.id)/\w'.cell? ⟨w.heap.size,1,I⟩=O (V a.po a.pn a.pc)/\w'.cell? ⟨w.heap.size,2,I⟩=O (Z G a.nodes)/\w'.cell? ⟨w.heap.size,3,I⟩=O (Z G a.v.a)/\w'.cell? ⟨w.heap.size,4,I⟩=O (Z G a.v.b)/\w'.cell? ⟨w.heap.size,5,I⟩=O (Z G a.v.c)/\w'.cell? ⟨w.heap.size,6,I⟩=O (Z G a.v.d)/\w'.cell? ⟨w.heap.size,7,I⟩=O (Z G a.aa)/\w'.cell? ⟨w.heap.size,8,I⟩=O (Z G a.start)/\w'.cell? ⟨w.heap.size,9,I⟩=O (V a.go a.gn a.gc))
  (first
    | with_reducible exact bb.out _ g.out)
  (first
    | (go_at_call 246;refine a0.mono ?_;rintro e w5 ⟨bl,bk,bi,rfl,a3,_,_,aV⟩;replace g:=Hh (g.trans (aV.mono g.size))
       replace⟨a3,aV⟩:=H2 a3 aV)
    | (go_at_call 245;refine(aY _ _ _ _ g.out a3.out).mono ?_;rintro e w6 ⟨t6,q,y,aM,aR,bf,rfl,aF,a4,a6,aX,aW⟩;have a7:Hid (∀b f,q=O ⟨b,f,I⟩->w1.heap.size<=b):=λb f e=>Aw g.size (aX b f e);replace g:=Hh (g.trans (aW.mono g.size))
       replace⟨aF,a4,aX,aW⟩:=H4 aF a4 aX aW))
 have k:=j.below g.out;have aD:=ac.trans (g.mono ac.size);have aU:=hP.below aD;have s0:=Aa k.s 0;have s1:=Aa k.s 1;have s2:=Aa k.s 2;have a9:=Ag k.s 1;have ba:=Ag k.s 2;have r0:=Aa k.r 0;have r1:=Aa k.r 1;have r2:=Aa k.r 2;have f0:=Ag k.r 0;have f1:=Ag k.r 1;have f2:=Ag k.r 2;simp at s0 s1 s2 r0 r1 r2;clear c0 c2 lt y0 y1 y2 y3 y4 y5 y6 y7 y8 y9 z;replace⟨k,aD,aU⟩:=H3 k aD aU
 cases bf with
 | false=>
  have m:Qx ps bs n a (-1) I 0 ps w6:=.inr ⟨aH.out,t6,aR,false,aF.out,λ_=>⟨rfl,rfl,rfl,rfl⟩,λh=>(by cases h)⟩;replace m:=Hh m;go_wp2;refine An (v:=.agg #[Z G a.id,Z G (-1),V I 0 0]) (by simp[results,results188,go_sem,r0,r1,r2]) rfl ?_;exact aS.out _ (-1) I 0 0 ps aU.out (ia.refl _ _) (Mod.cz aD.out) k.r Ln (λb f h=>by simp at h) m.out
 | true=>
  have hF:=aF.found;have ew:IntKind.i64.wrap (t6+a.aa)=t6+a.aa:=E0 _ (by have:=hF.ge;have:=hF.fin;have:=hF.ld;omega);have u:=λb f e=>B4 (Ac j.s) (a7 b f e);obtain⟨W7,av⟩:=Ex ((w6.setCell ⟨w.heap.size+1+1,1,I⟩ (Z G t6)).setCell ⟨w.heap.size+1+1,2,I⟩ (V q y aM));have ao:BW w.heap.size w W7:=by rw[av];exact(aD.setCell (by show w.heap.size<=w.heap.size+1+1;omega) _).setCell (by show w.heap.size<=w.heap.size+1+1;omega) _
  have ap:pw w a t6 q y aM W7:=by rw[av];exact k.set
  have aC:Ao W7 q y (Bg aR):=by rw[av];exact(a4.setCell _ _ (λb f e=>by have:=u b f e;show b≠w.heap.size+1+1;omega)).setCell _ _ (λb f e=>by have:=u b f e;show b≠w.heap.size+1+1;omega)
  have aL:=ht.below ao;have aE:=hP.below ao
  have an:0<y->vf q (Bc ps):=λ_ b f e hm=>by have:=u b f e;have:=aJ b hm;omega
  have a1:=
   λW' h=>Aby gb gs cap po ps q y aM (Bg aR) t6 (t6+a.aa) a.v W' (aE.below h) (aC.below h Ln) an a6
  have c0:=Aa aL.head 0;simp at c0;have lt:=Ac aL.head;obtain⟨y0,y1,y2,y3,y4,y5,y6,y7,y8,y9⟩:=Oi ap.ask;have z:=Ac ap.ask;have a2:=Jv aE aL.head ad9 ad9;have am:=Jv aE ap.ask ad9 ad9;have ad:BW W7.heap.size W7 W7.drew:=(Below.refl _ _).drew;clear y0 y1 y2 y8 y9;replace⟨hF,u,ao,ap,aC,aL,aE,an⟩:=H8 hF u ao ap aC aL aE an;replace⟨a1,a2,am,ad⟩:=H4 a1 a2 am ad
  have bc:Hid (∀w':WD,(∀b,b<W7.heap.size->¬Bc ps b->∀o,w'.cell? ⟨b,o,I⟩=W7.cell? ⟨b,o,I⟩)->w'.cell? ⟨tb,0,I⟩=O (K (O ⟨gb,0,I⟩))/\w'.cell? ⟨w.heap.size,3,I⟩=O (Z G a.v.a)/\w'.cell? ⟨w.heap.size,4,I⟩=O (Z G a.v.b)/\w'.cell? ⟨w.heap.size,5,I⟩=O (Z G a.v.c)/\w'.cell? ⟨w.heap.size,6,I⟩=O (Z G a.v.d)/\w'.cell? ⟨w.heap.size,7,I⟩=O (Z G a.aa)):=
   λw' h=>⟨(h tb lt a2.out _).trans c0,(h _ z am.out _).trans y3,(h _ z am.out _).trans y4,(h _ z am.out _).trans y5,(h _ z am.out _).trans y6,(h _ z am.out _).trans y7⟩
  go_wp2_with fail;rw[<-av];replace av:=Hh av;clear s0 s1 s2 a9 ba r0 r1 r2 f0 f1 f2;go_region_held3 (λw'=>w'.cell? ⟨tb,0,I⟩=O (K (O ⟨gb,0,I⟩))/\w'.cell? ⟨w.heap.size,3,I⟩=O (Z G a.v.a)/\w'.cell? ⟨w.heap.size,4,I⟩=O (Z G a.v.b)/\w'.cell? ⟨w.heap.size,5,I⟩=O (Z G a.v.c)/\w'.cell? ⟨w.heap.size,6,I⟩=O (Z G a.v.d)/\w'.cell? ⟨w.heap.size,7,I⟩=O (Z G a.aa))
   (first
     | (go_keep;done)
     | with_reducible exact bc.out _ be.out)
   (first
     | (go_at_call 236;refine(a1 _ ad.out).mono ?_;rintro e w8 ⟨r8,p,rfl,hT,aZ,aQ,x⟩;have be:Hid (∀b,b<W7.heap.size->¬Bc ps b->∀o,w8.cell? ⟨b,o,I⟩=W7.cell? ⟨b,o,I⟩):=λb hb hn o=>Bl (a:=⟨b,o,I⟩) (w:=W7) (x.block b hb hn)
        replace⟨hT,aZ,aQ,x⟩:=H4 hT aZ aQ x))
  have l:=ap.mod ((Mod.cz ad.out).iu x.out) aJ.out;have aK:=(Mod.cz ao.out).iu ((Mod.cz ad.out).iu x.out);have aI:=aQ.back (Aw ao.size ad.size);have a5:=aC.mod ((Mod.cz ad.out).iu x.out) an.out;have m:Qx ps bs n a t6 q y p w8:=.inr ⟨aH.out,t6,aR,true,aF.out,λh=>(by cases h),λ_=>⟨rfl,a5,r8,hT.out⟩⟩
  have al:∀b f,q=O ⟨b,f,I⟩->w.heap.size<=b/\b≠w.heap.size+1/\¬Bc p b:=λb f e=>by
   have h1:=u b f e;refine⟨ao9,ao9,λhm=>?_⟩;rcases aQ.fk hm with c|c
   .have:=aJ b c;omega
   .by_cases h0:0<y
    .obtain ⟨b',bg,e',a8,_⟩:=aC.cell 0 h0;rw[e]at e';cases e';have:=ad.size;omega
    .have:=hF.len;have:=hF.many1;have:=aC.len;simp[Bg]at this;omega
  have s0:=Aa l.s 0;have s1:=Aa l.s 1;have s2:=Aa l.s 2;have r0:=Aa l.r 0;have r1:=Aa l.r 1;have r2:=Aa l.r 2;have f0:=Ag l.r 0;have f1:=Ag l.r 1;have f2:=Ag l.r 2;simp at s0 s1 s2 r0 r1 r2;clear c0 lt y3 y4 y5 y6 y7 z;replace⟨l,aK,aI,a5,m,al⟩:=H6 l aK aI a5 m al;go_wp2;refine An (v:=.agg #[Z G a.id,Z G t6,V q y aM]) (by simp[results,results188,go_sem,r0,r1,r2]) rfl ?_;exact aS.out _ t6 q y aM p aZ.out aI.out aK.out l.r a6 al.out m.out
