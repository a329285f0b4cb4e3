/- Parts of a proof. No condition. -/
import Derived.Test.YtimlcnhcjndijaaGreatDoorJ22
import Derived.Laws.AppendOwnNone
set_option linter.all false
set_option maxRecDepth 100000
set_option maxHeartbeats 6400000
namespace Go.Proofs.YtimlcnhcjndijaaGreatDoor
open Option renaming some->O,none->I
open IntKind renaming i64->G
open Value renaming int->Z,slice->V,bool->Q,pointer->K
open Obj renaming cells->J
open Ending renaming returned->Y
open Go renaming World->WD,Value->VL,Calls->CS
open Go.RowKit renaming Below->BW
open Go.Proofs.Tryz
namespace Pl
open Go.RowKit
structure Ch where
 fr:Int
 tt:Int
 v:V4
 back:Bool
def Ch.zero:Ch:=⟨0,0,V4.zero,false⟩
def ch (l:List Ch) (i:Nat):Ch:=l.getD i Ch.zero
def Awb {w w':WD} {base size n B:Nat} {e:TypeId} {v:VL} {xs:List VL} (h:w.ownsRow base e size v n xs) (f:BW B w w') (d:w.heap.size<=B):w'.ownsRow base e size v n xs:=by
 obtain⟨h1,c⟩:=h;refine⟨h1,?_⟩;rcases c with h|⟨g,cap,a,k,i,b,j⟩
 .exact .inl h
 .exact .inr ⟨g,cap,a,k,i,Ae f b (Bq (Ab b) d),j⟩
def Awc (w:WD) (a b c:Obj):BW w.heap.size w (((w.alloc a).alloc b).alloc c):=(Bn.alloc as9 _).alloc (by simp;omega) _

def X6 (w:WD) (n:Int):∀j u,([Z G n]:List VL)[j]?=O u->(w.alloc (J #[Z G n] 3 (0,0))).cell? ((⟨w.heap.size,0,I⟩:Addr).add j)=O u:=by
 intro j u a
 match j,a with
 | 0,a=>
  have:=Aa (Ah w (J #[Z G n] 3 (0,0))) 0;simp at a;subst a;exact this
 | j+1,a=>simp at a
def size_alloc {B:Nat} {w:WD} (h:B<=w.heap.size) (o:Obj):B<=(w.alloc o).heap.size:=by simp;omega

end Pl
namespace Pl

end Pl
namespace Pl
open Go.RowKit
variable{st:Int}{bs:List Bool}{B b c n sc:Nat}{so:Option Addr}{w w' wr:WD}

structure Ask where
 id:Int
 po:Option Addr
 pn:Nat
 pc:Nat
 ie:List Int
 nodes:Int
 v:V4
 aa:Int
 start:Int
 go:Option Addr
 gn:Nat
 gc:Nat
 dn:List Int
abbrev Ask.cells (a:Ask):Array VL:=#[Z G a.id,V a.po a.pn a.pc,Z G a.nodes,Z G a.v.a,Z G a.v.b,Z G a.v.c,Z G a.v.d,Z G a.aa,Z G a.start,V a.go a.gn a.gc]
abbrev Ask.val (a:Ask):VL:=.agg #[Z G a.id,V a.po a.pn a.pc,Z G a.nodes,Z G a.v.a,Z G a.v.b,Z G a.v.c,Z G a.v.d,Z G a.aa,Z G a.start,V a.go a.gn a.gc]
def Ask.obj (a:Ask):Obj:=J a.cells 266 (0,0)
structure Ask.ok (w:WD) (a:Ask):Prop where
 places:At w a.po a.pn a.ie
 lr:a.pn<=a.pc
 ah:At w a.go a.gn a.dn
 qg:a.gn<=a.gc
def Ask.ok.below  {a:Ask}  (h:a.ok w) (c:BW B w w') (b:w.heap.size<=B):a.ok w':=⟨h.places.below c b,h.lr,h.ah.below c b,h.qg⟩
def Pa   {a:Ask} (h:w.heap[b]?=O a.obj):w.cell? ⟨b,0,I⟩=O (Z G a.id)/\w.cell? ⟨b,1,I⟩=O (V a.po a.pn a.pc)/\w.cell? ⟨b,2,I⟩=O (Z G a.nodes) /\
  w.cell? ⟨b,3,I⟩=O (Z G a.v.a)/\w.cell? ⟨b,4,I⟩=O (Z G a.v.b)/\w.cell? ⟨b,5,I⟩=O (Z G a.v.c)/\w.cell? ⟨b,6,I⟩=O (Z G a.v.d)/\w.cell? ⟨b,7,I⟩=O (Z G a.aa) /\
  w.cell? ⟨b,8,I⟩=O (Z G a.start)/\w.cell? ⟨b,9,I⟩=O (V a.go a.gn a.gc):=
 ⟨Aa h 0,Aa h 1,Aa h 2,Aa h 3,Aa h 4,Aa h 5,Aa h 6,Aa h 7,Aa h 8,Aa h 9⟩
def bi (bs:List Bool) (i:Nat):Bool:=bs.getD i false
structure Ni (w:WD) (ao:Option Addr) (n:Nat) (bs:List Bool):Prop where
 len:bs.length=n
 max:n<=9223372036854775807
 cell:∀i,i<n->∃b off,ao=O ⟨b,off,I⟩/\b<w.heap.size/\w.cell? ⟨b,off+i,I⟩=O (Q (bi bs i))
def Ni.below  {d:Option Addr}   (h:Ni w d n bs)  (f:BW B w w') (k:w.heap.size<=B):Ni w' d n bs:=
 ⟨h.len,h.max,λi j=>by
  obtain⟨b,c,e,a,g⟩:=h.cell i j
  exact⟨b,c,e,Bq a f.size,(Af f ao9).trans g⟩⟩
structure sw (w:WD) (tb gb:Nat) (uo:Option Addr) (un uc:Nat) (bs:List Bool) (now:Int):Prop where
 head:w.heap[tb]?=O (J #[K (O ⟨gb,0,I⟩),V uo un uc,Z G now] 270 (0,0))
 up:Ni w uo un bs
def sw.below  {d b f e:Nat} {g:Option Addr}  {a:Int} (h:sw w d b g f e bs a) (c:BW w.heap.size w w'):sw w' d b g f e bs a:=⟨Ae c h.head (Ab h.head),h.up.below c Ln⟩
def Awd (zs:List Int) (x:Int) (w:WD) (e:Ending) (w':WD):Prop:=∃r:Int,e=Y (Z G r)/\(0<=r↔x∈zs)/\w'=w
def Awe (r:Option Addr) (n c:Nat) (zs:List Int) (x:Int) (w:WD) (m:At w r n zs):CS prog 216 #[V r n c,Z G x] w (Awd zs x w):=by
 have a:=m.len;have u:=m.max;replace⟨m,a⟩:=H2 m a;go_enter func216,ntmps216;go_wp2;go_loopw [5,8] (λ_ i wr=>∃k:Nat,i=Z G k/\k<=n/\Hid (∀j,j<k->zi zs j≠x)/\wr=w) (λ_ i _=>n-(intOf i).toNat)
 case atStart=>exact⟨0,rfl,As _,(λj h=>by omega),rfl⟩
 case round=>
  obtain⟨k,rfl,hk,f,rfl⟩:=hrel;by_cases s:k<n
  .have o:(k:Int)<n:=ao9;have z:(0:Int)<=(k:Int):=ao9;obtain⟨b,ac,rfl,hb,v⟩:=m.cell k s;obtain⟨y,l⟩:=Ex (zi zs k);rw[<-l]at v;by_cases q:x=y
   .have d:(x == y)=true:=(by simpa using q);have g:x∈zs:=Ajo.2 ⟨k,by rw[a.out];exact s,by rw[<-l];exact q.symm⟩;replace⟨l,q,g⟩:=H3 l q g;go_wp2;go_ret;exact⟨k,rfl,⟨λ_=>g.out,λ_=>by omega⟩,rfl⟩
   .have d:(x == y)=false:=by simpa using q
    have p:∀j,j<k+1->zi zs j≠x:=λj t=>by
     by_cases e:j=k
     .subst e;rw[<-l];exact λh=>q h.symm
     .exact f.out j ao9
    replace⟨l,q,p⟩:=H3 l q p;go_wp2;go_roundw
    case rel=>exact⟨k+1,by go_num,ao9,p.out,trivial⟩
    case measure=>simp[intOf];omega
  .have o:¬(k:Int)<n:=ao9
   have g:¬x∈zs:=λh=>by
    obtain⟨j,t,e⟩:=Ajo.1 h;exact f.out j (by rw[a.out]at t;omega) e
   replace g:=Hh g;go_wp2;go_ret;exact⟨-1,rfl,⟨λh=>(by omega),λh=>absurd h g.out⟩,rfl⟩
def Ajq (f:Option Addr) (n c:Nat) (zs:List Int) (x:Int) (w:WD) (i:At w f n zs):CS prog 166 #[V f n c,Z G x] w (Av6 zs x w):=by
 have g:=Awe f n c zs x w i;replace g:=Hh g;go_enter func166,ntmps166;go_wp2_with fail;refine g.mono ?_;rintro e j ⟨r,rfl,b,rfl⟩;by_cases q:0<=r
 .have d:decide (0<=r)=true:=by simpa using q
  have a:=b.1 q;replace⟨q,a⟩:=H2 q a;clear b;go_wp2;go_ret;exact⟨true,rfl,⟨λ_=>a.out,λ_=>rfl⟩,rfl⟩
 .have d:decide (0<=r)=false:=by simpa using q
  have a:¬x∈zs:=λh=>q (b.2 h);replace⟨q,a⟩:=H2 q a;clear b;go_wp2;go_ret;exact⟨false,rfl,⟨λh=>(by cases h),λh=>absurd h a.out⟩,rfl⟩
def Ask.can (a:Ask):Bool:=decide (0<a.nodes) && decide (0<a.aa) && a.v.right
def Ajr (a:Ask) (w:WD):CS prog 237 #[a.val] w λe w'=>e=Y (Q a.can)/\BW w.heap.size w w':=by
 have f:BW w.heap.size w (w.alloc a.obj):=Bn;replace f:=Hh f;by_cases b:0<a.nodes;rotate_left
 .have h:decide (0<a.nodes)=false:=by simpa using b
  have e:a.can=false:=by simp[Ask.can,h]
  rw[e];replace⟨b,e⟩:=H2 b e;go_enter func237,ntmps237;go_wp2;go_ret;exact⟨rfl,f.out⟩
 have h:decide (0<a.nodes)=true:=by simpa using b
 by_cases g:0<a.aa;rotate_left
 .have i:decide (0<a.aa)=false:=by simpa using g
  have e:a.can=false:=by simp[Ask.can,i]
  rw[e];replace⟨b,g,e⟩:=H3 b g e;go_enter func237,ntmps237;go_wp2;go_ret;exact⟨rfl,f.out⟩
 have i:decide (0<a.aa)=true:=by simpa using g
 have e:a.can=a.v.right:=by simp[Ask.can,h,i]
 rw[e];replace⟨b,g,e⟩:=H3 b g e;go_enter func237,ntmps237;go_wp2_with fail;refine(J3 a.v _).mono ?_;rintro j k ⟨rfl,d⟩;have c:=f.trans (d.mono f.size);replace⟨c,d⟩:=H2 c d;go_wp2;go_ret;exact⟨rfl,c.out⟩
def Mg (fr aa:Int):Int:=if 1099511627776-fr<aa then 1099511627777 else fr+aa
def Yu (fr a:Int) (w:WD) (h0:0<=fr) (h1:fr<=1099511627776) (f:-9223372036854775808<=a):CS prog 239 #[Z G fr,Z G a] w λe w'=>e=Y (Z G (Mg fr a))/\w'=w:=by
 have b:IntKind.i64.wrap (1099511627776-fr)=1099511627776-fr:=D4 _ ao9;unfold Mg;by_cases q:1099511627776-fr<a
 .have d:decide (1099511627776-fr<a)=true:=by simpa using q
  rw[Ad q];replace q:=Hh q;go_enter func239,ntmps239;go_wp2;go_ret;exact⟨rfl,rfl⟩
 .have d:decide (1099511627776-fr<a)=false:=by simpa using q
  have c:IntKind.i64.wrap (fr+a)=fr+a:=D4 _ ao9;rw[Ac q];replace q:=Hh q;go_enter func239,ntmps239;go_wp2;go_ret;exact⟨rfl,rfl⟩
def Pb (bs:List Bool) (zs:List Int) (i:Nat):Bool:=bi bs i && decide ((i:Int)∈zs)
def Mh (bs:List Bool) (zs:List Int) (k:Nat):List Nat:=(List.range k).filter (Pb bs zs)
def ji (bs:List Bool) (zs:List Int):List Nat:=Mh bs zs bs.length
def Ac2 (bs:List Bool) (zs:List Int) (k:Nat):Mh bs zs (k+1)=if Pb bs zs k=true then Mh bs zs k++[k]else Mh bs zs k:=by
 unfold Mh;rw[Wv,Nt];by_cases h:Pb bs zs k=true
 .rw [Ad h];simp[h]
 .rw [Ac h];simp[h]
def Awf (bs:List Bool) (zs:List Int) (w:WD) (e:Ending) (w':WD):Prop:=
 ∃so n c,e=Y (V so n c)/\At w' so n (Bl (ji bs zs))/\n<=c/\(∀b off,so=O ⟨b,off,I⟩->w.heap.size<=b)/\BW w.heap.size w w'
def Ajs (tb gb un uc:Nat) (uo:Option Addr) (bs:List Bool) (aK:Int) (a:Ask) (w:WD) (ht:sw w tb gb uo un uc bs aK) (hz:At w a.po a.pn a.ie) (hu:un<=1000000) :
  CS prog 246 #[K (O ⟨tb,0,I⟩),a.val] w (Awf bs a.ie w):=by
 obtain⟨i3,aI,aJ,aD,aE⟩:=Cf M0;have al:BW w.heap.size w (w.alloc a.obj):=Bn;have q:(w.alloc a.obj).heap[w.heap.size]?=O a.obj:=Ah _ _;have v:=ht.up.len;have t1:=Aa ht.head 1;simp at t1;have lt:=Ab ht.head;replace⟨ht,hz,al,q,v⟩:=H5 ht hz al q v;go_enter func246,ntmps246;go_wp2;go_loopw [5,6,7,13] (λov _ _ i wr=>∃(k L:Nat) (xs:List Nat),i=Z G k/\k<=un/\L<=k/\Hid (BW w.heap.size w wr)/\Hid (wr.heap[w.heap.size]?=O a.obj)/\Hid (Am wr (w.heap.size+1) ov L xs)/\Hid (xs=Mh bs a.ie k)) (λ_ _ _ i _=>un-(intOf i).toNat)
 case atStart=>exact⟨0,0,[],rfl,ao9,Nat.le_refl _,al.out,q.out,Am.nil _ _,rfl⟩
 case round=>
  obtain⟨k,L,xs,rfl,hk,aL,z,hx,f,y⟩:=hrel;by_cases hc:k<un
  .have aH:(k:Int)<un:=ao9;have aM:(0:Int)<=(k:Int):=ao9;obtain⟨b,aF,rfl,hb,a0⟩:=ht.up.cell k hc;have b0:=(Af z.out hb).trans a0;clear a0;have sz:=z.size;cases l:bi bs k
   .rw [l]at b0;have c:xs=Mh bs a.ie (k+1):=(by rw[Ac2,Ac (by simp[Pb,l]),y.out]);replace⟨c,l⟩:=H2 c l;go_wp2;go_roundw
    case rel=>exact⟨k+1,L,xs,by go_num,ao9,ao9,z.out,hx.out,f.out,c.out⟩
    case measure=>simp[intOf];omega
   .rw [l]at b0;have x1:=(Pa hx.out).2.1;have lx:=Ab hx.out;have ap:=Ajq a.po a.pn a.pc a.ie (k:Int) wr (hz.below z.out Ln);replace ap:=Hh ap;go_wp2_with fail;refine ap.mono ?_;rintro e w2 ⟨r,rfl,hr,rfl⟩;have hp:Pb bs a.ie k=r:=(by simp only[Pb,l,Bool.true_and];rw[Oq,decide_eq_true_iff];exact hr.symm);clear hr;replace l:=Hh l;cases r
    .have c:xs=Mh bs a.ie (k+1):=(by rw[Ac2,Ac (by rw[hp];simp),y.out]);replace⟨c,hp⟩:=H2 c hp;go_wp2;go_roundw
     case rel=>exact⟨k+1,L,xs,by go_num,ao9,ao9,z.out,hx.out,f.out,c.out⟩
     case measure=>simp[intOf];omega
    .have c:xs++[k]=Mh bs a.ie (k+1):=(by rw[Ac2,Ad hp,y.out]);have ac:w.heap.size+1<=w2.heap.size:=lx;have p:=f.2.alloc (J #[Z G (k:Int)] 3 (0,0));have n:=X6 w2 (k:Int);have o:∀u∈([Z G (k:Int)]:List VL),u.oneCell'=true:=by simp[Value.oneCell']
     have ad:L+1<=maxLen:=by
      have:maxLen=9223372036854775807:=by kernel_rfl
      omega
     have ao:(L+1)*8<=140737488355328:=ao9;have s:=size_alloc ac (J #[Z G (k:Int)] 3 (0,0));have aA:=f.2.lt;have aC:=f.1;replace⟨c,hp,p,n,o,ad,ao,s⟩:=H8 c hp p n o ad ao s;replace⟨aA,aC⟩:=H2 aA aC;go_wp2_with (at_builtin;refine Ms _ rfl _ _ 31 rfl (w.heap.size+1) 3 i3 _ 1 8 Ns aI aJ aD aE rfl Nat.one_pos _ L _ rfl p.out ⟨w2.heap.size,0,I⟩ 1 1 [Z G (k:Int)] rfl rfl n.out o.out ad.out ao.out s.out ?_;intro v1 w9 j m _;obtain⟨g,t,rfl⟩:=Joins.ownsRow_form j (Iy _);replace⟨j,m⟩:=H2 j m);have an:Am w9 (w.heap.size+1) (V (O ⟨g,0,I⟩) (L+1) t) (L+1) (xs++[k]):=⟨by rw[Cn,<-aC.out];rfl,by simpa[Bl]using j.out⟩;have hG:=((Below.refl _ _).alloc ac _).grown m.out s.out (λk hk=>(aA k hk).1);have am:=z.trans (hG.mono (D5 _));have aB:=Ae hG hx.out (Nat.lt_succ_self _);replace⟨an,am,aB,hG⟩:=H4 an am aB hG;go_roundw
     case rel=>exact⟨k+1,L+1,xs++[k],by go_num,ao9,ao9,am.out,aB.out,an.out,c.out⟩
     case measure=>simp[intOf];omega
  .have aH:¬(k:Int)<un:=ao9;have av:k=bs.length:=(by rw[v.out];omega);have x:xs=ji bs a.ie:=(by unfold ji;rw[y.out,av]);have aG:L<=9223372036854775807:=ao9;replace⟨av,x⟩:=H2 av x;have d:=f.out;rcases Joins.ownsRow_forms d.2 with⟨rfl,h0⟩|⟨g,t,rfl⟩
   .have q:xs=[]:=(by have:=d.1;rw[h0]at this;exact Ib.1 this.symm);replace⟨d,h0,q⟩:=H3 d h0 q;go_wp2;go_ret;refine⟨I,0,0,rfl,?_,Nat.le_refl _,(λb aF h=>by simp at h),z.out⟩;rw[<-x.out,q.out];exact U7 _
   .obtain ⟨o1,o2,o3⟩:=d.at aG;replace⟨d,o1,o2,o3⟩:=H4 d o1 o2 o3;go_wp2;go_ret;refine⟨O ⟨g,0,I⟩,L,t,rfl,?_,o2.out,(λb aF e=>by cases e;exact Nat.le_of_succ_le o3.out),z.out⟩;rw[<-x.out];exact o1.out
structure Ga (bs:List Bool) (a:Ask) (zs:List Int):Prop where
 od:∀i,i<zs.length->zi zs i∈Bl (ji bs a.ie)
 aw:∀i,i+1<zs.length->zi zs i<zi zs (i+1)
 len:(zs.length:Int)=a.nodes
def Awg (bs:List Bool) (a:Ask) (zs:List Int) (w:WD) (e:Ending) (w':WD):Prop:=∃b:Bool,e=Y (Q b)/\(b=true↔Ga bs a zs)/\BW w.heap.size w w'
def Awh (tb gb un uc:Nat) (uo:Option Addr) (bs:List Bool) (av:Int) (a:Ask) (ao:Option Addr) (m c:Nat) (zs:List Int) (w:WD) (ht:sw w tb gb uo un uc bs av) (hp:At w a.po a.pn a.ie) (hu:un<=1000000) (hz:At w ao m zs) :
  CS prog 238 #[K (O ⟨tb,0,I⟩),a.val,V ao m c] w (Awg bs a zs w):=by
 obtain⟨W,hW⟩:=Ex (w.alloc a.obj);have o:BW w.heap.size w W:=by rw[hW];exact Bn
 have z:W.heap[w.heap.size]?=O a.obj:=by rw[hW];exact Ah _ _
 have v:=Ajs tb gb un uc uo bs av a W (ht.below o) (hp.below o Ln) hu;rw[hW]at v;have l:=hz.len;have aD:=hz.max;replace⟨ht,hp,hz,o,z,v,l,hW⟩:=H8 ht hp hz o z v l hW;go_enter func238,ntmps238;go_wp2_with fail;refine v.mono ?_;rintro e w2 ⟨so,sn,sc,rfl,al,_,_,s⟩;rw[<-hW.out]at s;have n:=o.trans (s.mono o.size);have am:=Ae s z.out (Ab z.out);replace⟨al,s,n,am⟩:=H4 al s n am;go_wp2;go_loopw [8,9,15] (λ_ _ i wr=>∃k:Nat,i=Z G k/\k<=m/\Hid (∀i,i<k->zi zs i∈Bl (ji bs a.ie)/\(∀j,i=j+1->zi zs j<zi zs i))/\wr=w2) (λ_ _ i _=>m-(intOf i).toNat)
 case atStart=>exact⟨0,rfl,As _,(λi h=>absurd h (Nu i)),rfl⟩
 case round=>
  obtain⟨k,rfl,hk,p,rfl⟩:=hrel;by_cases hc:k<m
  .have aC:(k:Int)<m:=ao9;have aH:(0:Int)<=(k:Int):=ao9;obtain⟨b,aJ,rfl,hb,a0⟩:=hz.cell k hc;have b0:=(Af n.out hb).trans a0;clear a0;obtain⟨x,hx⟩:=Ex (zi zs k);rw[<-hx]at b0
   have an:Hid (¬(x∈Bl (ji bs a.ie)/\∀j,k=j+1->zi zs j<x)->¬Ga bs a zs):=λh hg=>by
    have ap:k<zs.length:=(by rw[l.out];exact hc);refine h ⟨by rw[hx];exact hg.od k ap,λj e=>?_⟩;subst e;rw[hx];exact hg.aw j ap
   have ac:=Ajq so sn sc (Bl (ji bs a.ie)) x wr al.out;replace⟨hx,ac⟩:=H2 hx ac;go_wp2_with fail;refine ac.mono ?_;rintro e w3 ⟨r,rfl,hr,rfl⟩
   cases r with
   | false=>
    have g:=an (λh=>by have:=hr.2 h.1;cases this);clear hr;replace g:=Hh g;go_wp2;go_ret;exact⟨false,rfl,⟨λh=>(by cases h),λh=>absurd h g.out⟩,n.out⟩
   | true=>
    have u:=hr.1 rfl;clear hr;replace u:=Hh u;by_cases k0:k=0
    .have dk:decide (0<(k:Int))=false:=(by simp;omega);have aA:decide (0<k)=false:=by simp;omega
     have f:∀i,i<k+1->zi zs i∈Bl (ji bs a.ie)/\(∀j,i=j+1->zi zs j<zi zs i):=λi hi=>by
      have:i=k:=ao9
      subst this;exact⟨by rw[<-hx.out];exact u.out,λj e=>by omega⟩
     replace⟨k0,f⟩:=H2 k0 f;go_wp2;go_roundw
     case rel=>exact⟨k+1,by go_num,ao9,f.out,trivial⟩
     case measure=>simp[intOf];omega
    .obtain ⟨j,hj⟩:∃j,k=j+1:=⟨k-1,ao9⟩;have dk:decide (0<(k:Int))=true:=(by simp;omega);have aA:decide (0<k)=true:=(by simp;omega);have ej:IntKind.i64.wrap ((k:Int)-1)=(j:Int):=(by rw[D4 _ ao9];omega);have aG:(j:Int)<m:=ao9;have aF:(0:Int)<=(j:Int):=ao9;obtain⟨b',aE,e',aB,a1⟩:=hz.cell j ao9;cases e';have b1:=(Af n.out aB).trans a1;clear a1;obtain⟨y,hy⟩:=Ex (zi zs j);rw[<-hy]at b1;by_cases q3:x<=y
     .have d3:decide (x<=y)=true:=(by simpa using q3);have g:=an (λh=>by have:=h.2 j hj;rw[<-hy]at this;omega);replace⟨q3,g,hy,hj,k0⟩:=H5 q3 g hy hj k0;go_wp2;go_ret;exact⟨false,rfl,⟨λh=>(by cases h),λh=>absurd h g.out⟩,n.out⟩
     .have d3:decide (x<=y)=false:=by simpa using q3
      have f:∀i,i<k+1->zi zs i∈Bl (ji bs a.ie)/\(∀j,i=j+1->zi zs j<zi zs i):=λi hi=>by
       by_cases e:i=k
       .subst e;refine⟨by rw[<-hx.out];exact u.out,λj2 e=>?_⟩
        have:j2=j:=ao9
        subst this;rw[<-hx.out,<-hy];omega
       .exact p.out i ao9
      replace⟨q3,f,hy,hj,k0⟩:=H5 q3 f hy hj k0;go_wp2;go_roundw
      case rel=>exact⟨k+1,by go_num,ao9,f.out,trivial⟩
      case measure=>simp[intOf];omega
  .have aC:¬(k:Int)<m:=ao9;have aI:k=m:=ao9;have x2:=(Pa am.out).2.2.1;by_cases q:(m:Int)=a.nodes
   .have d:((m:Int) == a.nodes)=true:=(by simpa using q);have t:Ga bs a zs:=⟨λi hi=>(p i (by rw[l.out]at hi;omega)).1,λi hi=>(p (i+1) (by rw[l.out]at hi;omega)).2 i rfl,by rw[l.out];exact q⟩;replace⟨q,t⟩:=H2 q t;go_wp2;go_ret;exact⟨true,rfl,⟨λ_=>t.out,λ_=>rfl⟩,n.out⟩
   .have d:((m:Int) == a.nodes)=false:=(by simpa using q);have ad:¬Ga bs a zs:=λh=>q (by rw[<-l.out];exact h.len);replace⟨q,ad⟩:=H2 q ad;go_wp2;go_ret;exact⟨false,rfl,⟨λh=>(by cases h),λh=>absurd h ad.out⟩,n.out⟩
def Nj (bs:List Bool) (now:Int) (a:Ask) (start:Int) (zs:List Int):Prop:=a.can=true/\now<=start/\start<=1099511627776/\Ga bs a zs
def Ajt (gb gs cap:Nat) (po:Option Addr) (ps:List Nd) (bs:List Bool) (now:Int) (a:Ask) (start:Int) (zs:List Int) (w:WD) (e:Ending) (w':WD):Prop:=
 ∃(b:Bool) (ps':List Nd),e=Y (Q b)/\Cc w' gb gs po cap ps'/\je w ps ps'/\Mod (Bm ps) w w' /\
  ((¬Nj bs now a start zs/\b=false/\ps'=ps)\/(Nj bs now a start zs/\∃r,Kw ps zs start (Mg start a.aa) a.v r ps'/\(b=true↔r=0)))
def Kx  {j k cap b:Nat} {po:Option Addr} {h:List Nd} {o:Array VL} {T:TypeId} (g:Cc w j k po cap h) (e:w.heap[b]?=O (J o T (0,0))) (h1:T≠363) (l:T≠398):¬Bm h b:=by
 rintro⟨i,f,c|c⟩
 .have:=(g.gj i f).head;rw[<-c,e]at this;simp at this;exact h1 this.2
 .obtain ⟨d,a,_⟩:=(g.gj i f).row.au;rw[<-c,e]at a;simp at a;exact l a.2
def Mod.dh {S:Nat->Prop}  (h:BW w.heap.size w w'):Mod S w w':=⟨h.os,h.tape,h.output,h.size,λb a _=>h.block b a⟩
def Mod.jr {S:Nat->Prop} {w w1 d:WD} (h:Mod S w w1) (k:Mod S w1 d):Mod S w d:=
 ⟨k.os.trans h.os,k.tape.trans h.tape,k.output.trans h.output,A8 h.size k.size,λb c a=>(k.block b (Bq c h.size) a).trans (h.block b c a)⟩
def Awi (gb gs cap:Nat) (po:Option Addr) (ps:List Nd) (tb un uc:Nat) (uo:Option Addr) (bs:List Bool) (k:Int) (a:Ask) (start:Int) (ao:Option Addr) (m c:Nat) (zs:List Int) (w:WD) (hP:Cc w gb gs po cap ps) (ht:sw w tb gb uo un uc bs k)
  (hp:At w a.po a.pn a.ie) (hu:un<=1000000) (hz:At w ao m zs) (am:0<m->vw ao (Bm ps)) (aL:m<=c) (aO:0<=k) :
  CS prog 186 #[K (O ⟨tb,0,I⟩),a.val,Z G start,V ao m c] w (Ajt gb gs cap po ps bs k a start zs w):=by
 obtain⟨W,hW⟩:=Ex (w.alloc a.obj);have aA:BW w.heap.size w W:=by rw[hW];exact Bn
 have aC:W.heap[w.heap.size]?=O a.obj:=by rw[hW];exact Ah _ _
 have s:¬Nj bs k a start zs->∀w',BW w.heap.size w w'->Ajt gb gs cap po ps bs k a start zs w (Y (Q false)) w':=λh w' hb=>⟨false,ps,rfl,hP.below hb,je.refl _ _,Mod.dh hb,.inl ⟨h,rfl,rfl⟩⟩;have aB:=Ajr a W;rw[hW]at aB;replace⟨hP,ht,hp,hz,am,aA,aC,aB⟩:=H8 hP ht hp hz am aA aC aB;replace⟨hW,s⟩:=H2 hW s;go_enter func186,ntmps186;go_wp2_with fail;refine aB.mono ?_;rintro e w1 ⟨rfl,z⟩;rw[<-hW.out]at z;have j:=aA.trans (z.mono aA.size);have x:=Ae z aC.out (Ab aC.out);have ap:=ht.below j;have c2:=Aa ap.head 2;simp at c2;have lt:=Ab ap.head;obtain⟨y0,y1,y2,y3,y4,y5,y6,y7,y8,y9⟩:=Pa x;have lx:=Ab x;replace⟨z,j,x,ap⟩:=H4 z j x ap;cases i:a.can
 .have f:=s (λh=>by have:=h.1;rw[i]at this;cases this) w1 j.out;replace⟨i,f⟩:=H2 i f;go_wp2;go_ret;exact f.out
 by_cases q1:start<k
 .have d1:decide (start<k)=true:=by simpa using q1
  have f:=s (λh=>by have:=h.2.1;omega) w1 j.out;replace⟨i,f,q1⟩:=H3 i f q1;go_wp2;go_ret;exact f.out
 have d1:decide (start<k)=false:=by simpa using q1
 by_cases q2:1099511627776<start
 .have d2:decide (1099511627776<start)=true:=by simpa using q2
  have f:=s (λh=>by have:=h.2.2.1;omega) w1 j.out;replace⟨i,f,q1,q2⟩:=H4 i f q1 q2;go_wp2;go_ret;exact f.out
 have d2:decide (1099511627776<start)=false:=by simpa using q2
 have aF:=Awh tb gb un uc uo bs k a ao m c zs w1 ap.out (hp.below j.out Ln) hu (hz.below j.out Ln);have aM:0<=start:=ao9
 have aK:start<=1099511627776:=ao9
 replace⟨aF,q1,q2⟩:=H3 aF q1 q2;have ac:=Hh i;clear i;go_wp2_with fail;refine aF.mono ?_;rintro e w2 ⟨b,rfl,hb,t⟩;have g:=j.trans (t.mono j.size);have n:=Ae t x.out (Ab x.out);have l:=ht.below g;clear c2 lt y0 y1 y2 y3 y4 y5 y6 y7 y8 y9 lx
 cases b with
 | false=>
  have f:=s (λh=>by have:=hb.2 h.2.2.2;cases this) w2 g;replace⟨f,g,n,l,t⟩:=H5 f g n l t;clear hb;go_wp2;go_ret;exact f.out
 | true=>
  have av:=hb.1 rfl;clear hb
  have aI:∀W',BW w2.heap.size w2 W'->CS prog 236 #[K (O ⟨gb,0,I⟩),V ao m c,Z G start,Z G (Mg start a.aa),a.v.val] W' (Acx (Kw ps zs start (Mg start a.aa) a.v) gb gs cap po ps W'):=
   λW' h=>Acy gb gs cap po ps ao m c zs start (Mg start a.aa) a.v W' (hP.below (g.trans (h.mono g.size))) (hz.below (g.trans (h.mono g.size)) Ln) am.out aL
  have aH:-9223372036854775808<=a.aa:=by have:=ac.out;simp[Ask.can]at this;omega
  have aD:=λW'=>Yu start a.aa W' aM aK aH;have c0:=Aa l.head 0;simp at c0;have lt:=Ab l.head;obtain⟨y0,y1,y2,y3,y4,y5,y6,y7,y8,y9⟩:=Pa n;have lx:=Ab n;have aJ:=Kx (hP.below g) l.head ad9 ad9;have p:=Kx (hP.below g) n ad9 ad9;have y:BW w2.heap.size w2 w2.drew:=(Below.refl _ _).drew;replace⟨aJ,p⟩:=H2 aJ p;clear y0 y1 y2 y8 y9;replace⟨av,g,n,l,t,aI,aD,y⟩:=H8 av g n l t aI aD y;replace aH:=Hh aH;go_wp2_with fail;go_region_held3 (λw'=>w'.cell? ⟨tb,0,I⟩=O (K (O ⟨gb,0,I⟩))/\w'.cell? ⟨w.heap.size,3,I⟩=O (Z G a.v.a)/\w'.cell? ⟨w.heap.size,4,I⟩=O (Z G a.v.b)/\w'.cell? ⟨w.heap.size,5,I⟩=O (Z G a.v.c)/\w'.cell? ⟨w.heap.size,6,I⟩=O (Z G a.v.d)/\w'.cell? ⟨w.heap.size,7,I⟩=O (Z G a.aa))
   (first
     | (go_keep;done)
     | (refine⟨(u tb lt aJ.out _).trans c0,(u _ lx p.out _).trans y3,(u _ lx p.out _).trans y4,(u _ lx p.out _).trans y5,(u _ lx p.out _).trans y6,(u _ lx p.out _).trans y7⟩))
   (first
     | (go_at_call 239;refine(aD _).mono ?_
        rintro e w4 ⟨rfl,rfl⟩)
     | (go_at_call 236;refine(aI _ y.out).mono ?_;rintro e w5 ⟨r,aN,rfl,hT,aG,aE,q⟩;have u:Hid (∀b,b<w2.heap.size->¬Bm ps b->∀o,w5.cell? ⟨b,o,I⟩=w2.cell? ⟨b,o,I⟩):=λb hb hn o=>By (a:=⟨b,o,I⟩) (w:=w2) (q.block b hb hn)
        replace⟨hT,aG,aE,q⟩:=H4 hT aG aE q))
  have al:=(Mod.dh g.out).jr ((Mod.dh y.out).jr q.out);have ad:=aE.back (A8 g.size y.size);have an:Nj bs k a start zs:=⟨ac.out,by have:=q1.out;omega,aK,av.out⟩;replace⟨al,ad,an⟩:=H3 al ad an;go_wp2;go_ret;exact⟨r == 0,aN,rfl,aG.out,ad.out,al.out,.inr ⟨an.out,r,hT.out,as9⟩⟩
def Rl (ps:List Nd) (bs:List Bool) (now:Int) (a:Ask) (st:Int) (so:Option Addr) (sn:Nat) (ps':List Nd) (w':WD):Prop:=
 (a.can=false/\st=-1/\so=I/\sn=0/\ps'=ps) \/
 (a.can=true/\∃t xs is,Fx ps (Bl (ji bs a.ie)) a.nodes a.v a.aa now t xs is/\(is=false->st=-1/\so=I/\sn=0/\ps'=ps) /\
   (is=true->st=t/\At w' so sn (Bl xs)/\∃r,Kw ps (Bl xs) t (t+a.aa) a.v r ps'))
def Aju (gb gs cap:Nat) (po:Option Addr) (ps:List Nd) (bs:List Bool) (now:Int) (a:Ask) (w:WD) (e:Ending) (w':WD):Prop:=
 ∃st so sn sc ps',e=Y (.agg #[Z G a.id,Z G st,V so sn sc])/\Cc w' gb gs po cap ps'/\je w ps ps'/\Mod (Bm ps) w w'/\sn<=sc/\(∀b off,so=O ⟨b,off,I⟩->w.heap.size<=b/\¬Bm ps' b)/\Rl ps bs now a st so sn ps' w'
structure qz (w:WD) (a:Ask) (st:Int) (so:Option Addr) (sn sc:Nat) (wr:WD):Prop where
 ask:wr.heap[w.heap.size]?=O a.obj
 r:wr.heap[w.heap.size+1]?=O (J #[Z G 0,Z G 0,V I 0 0] 224 (0,0))
 s:wr.heap[w.heap.size+1+1]?=O (J #[Z G a.id,Z G st,V so sn sc] 224 (0,0))
def qz.below  {a:Ask}    (h:qz w a st so c sc wr) (b:BW wr.heap.size wr w'):qz w a st so c sc w':=⟨Ae b h.ask (Ab h.ask),Ae b h.r (Ab h.r),Ae b h.s (Ab h.s)⟩
def qz.mod  {a:Ask}   {f sc:Nat} {S:Nat->Prop} (h:qz w a st so f sc wr) (d:Mod S wr w') (e:∀b,S b->b<w.heap.size):qz w a st so f sc w':=
 ⟨(d.block _ (Ab h.ask) (λc=>by have:=e _ c;omega)).trans h.ask,(d.block _ (Ab h.r) (λc=>by have:=e _ c;omega)).trans h.r,(d.block _ (Ab h.s) (λc=>by have:=e _ c;omega)).trans h.s⟩
def At.setCell  {f:Option Addr}  {zs:List Int} (h:At w f n zs) (c:Addr) (v:VL) (j:∀b d,f=O ⟨b,d,I⟩->b≠c.block):At (w.setCell c v) f n zs:=
 ⟨h.len,h.max,λi k=>by
  obtain⟨b,d,e,g,l⟩:=h.cell i k
  exact⟨b,d,e,by simpa[World.setCell]using g,(By (a:=⟨b,d+i,I⟩) (w:=w) (C1 _ _ _ _ (j b d e))).trans l⟩⟩
def qz.set  {a:Ask} {st f:Int} {so e:Option Addr} {j sc d c:Nat} (h:qz w a st so j sc wr) :
  qz w a f e d c ((wr.setCell ⟨w.heap.size+1+1,1,I⟩ (Z G f)).setCell ⟨w.heap.size+1+1,2,I⟩ (V e d c)):=by
 have g:∀b,b≠w.heap.size+1+1->((wr.setCell ⟨w.heap.size+1+1,1,I⟩ (Z G f)).setCell ⟨w.heap.size+1+1,2,I⟩ (V e d c)).heap[b]?=wr.heap[b]?:=λb i=>by
  rw[C1 _ _ _ _ i,C1 _ _ _ _ i]
 refine⟨(g _ ao9).trans h.ask,(g _ ao9).trans h.r,?_⟩;exact Ap (Ap h.s 1 _) 2 _
def Ajv (gb gs cap:Nat) (po:Option Addr) (ps:List Nd) (tb un uc:Nat) (uo:Option Addr) (bs:List Bool) (n:Int) (a:Ask) (w:WD) (hP:Cc w gb gs po cap ps) (ht:sw w tb gb uo un uc bs n)
  (hp:At w a.po a.pn a.ie) (hu:un<=1000000) :
  CS prog 188 #[K (O ⟨tb,0,I⟩),a.val] w (Aju gb gs cap po ps bs n a w):=by
 obtain⟨W,hW⟩:=Ex (((w.alloc a.obj).alloc (J #[Z G 0,Z G 0,V I 0 0] 224 (0,0))).alloc (J #[Z G a.id,Z G (-1),V I 0 0] 224 (0,0)));have aO:BW w.heap.size w W:=by rw[hW];exact Awc w _ _ _
 have aU:qz w a (-1) I 0 0 W:=by rw[hW];exact⟨Aj _ (Aj _ (Ah _ _)),Aj _ (A6 _ _ as9),A6 _ _ as9⟩
 have aQ:=Ajr a W;rw[hW]at aQ;have aK:∀b,Bm ps b->b<w.heap.size:=λb hb=>hP.l9 hb;replace⟨hP,ht,hp,aO,aU,aQ,hW,aK⟩:=H8 hP ht hp aO aU aQ hW aK;go_enter func188,ntmps188;go_wp2_with fail;refine aQ.mono ?_;rintro e w1 ⟨rfl,aH⟩;rw[<-hW.out]at aH;have ac:=aO.trans (aH.mono aO.size);have j:=aU.below aH;have aP:=hP.below ac;have aC:=ht.below ac;have s0:=Aa j.s 0;have s1:=Aa j.s 1;have s2:=Aa j.s 2;have r0:=Aa j.r 0;have r1:=Aa j.r 1;have r2:=Aa j.r 2;have f0:=Ag j.r 0;have f1:=Ag j.r 1;have f2:=Ag j.r 2;simp at s0 s1 s2 r0 r1 r2;replace⟨aH,ac,j,aP,aC⟩:=H5 aH ac j aP aC
 have aT:Hid (∀(wr:WD) (st:Int) (so:Option Addr) (sn sc:Nat) (p:List Nd),Cc wr gb gs po cap p->je w ps p->Mod (Bm ps) w wr->wr.heap[w.heap.size+1]?=O (J #[Z G 0,Z G 0,V I 0 0] 224 (0,0))->sn<=sc->(∀b f,so=O ⟨b,f,I⟩->w.heap.size<=b/\b≠w.heap.size+1/\¬Bm p b)->Rl ps bs n a st so sn p wr ->
   Aju gb gs cap po ps bs n a w (Y (.agg #[Z G a.id,Z G st,V so sn sc])) (((wr.setCell ⟨w.heap.size+1,0,I⟩ (Z G a.id)).setCell ⟨w.heap.size+1,1,I⟩ (Z G st)).setCell ⟨w.heap.size+1,2,I⟩ (V so sn sc))):=by
  intro wr st so sn sc p h1 h2 h3 h4 h5 h6 h7
  have aB:∀b,b≠w.heap.size+1->(((wr.setCell ⟨w.heap.size+1,0,I⟩ (Z G a.id)).setCell ⟨w.heap.size+1,1,I⟩ (Z G st)).setCell ⟨w.heap.size+1,2,I⟩ (V so sn sc)).heap[b]?=wr.heap[b]?:=λb hb=>by
   rw[C1 _ _ _ _ hb,C1 _ _ _ _ hb,C1 _ _ _ _ hb]
  have hm:=Kx h1 h4 ad9 ad9
  have be:gb≠w.heap.size+1:=λe=>by have:=h1.head;rw[e,h4]at this;simp at this
  refine⟨st,so,sn,sc,p,rfl,⟨(aB _ be).trans h1.head,h1.addr,λi hi=>?_,λi hi=>?_,h1.inv,h1.apart,h1.own,h1.j8⟩,h2,⟨h3.os,h3.tape,h3.output,by simpa[World.setCell]using h3.size,λb hb hS=>(aB b ao9).trans (h3.block b hb hS)⟩,h5,λb f e=>⟨(h6 b f e).1,(h6 b f e).2.2⟩,?_⟩
  .have h2:gs≠w.heap.size+1:=λe=>by
    have:=h1.ptr i hi;rw[e,Aa h4 i]at this
    match i,this with
    | 0,h=>simp at h
    | 1,h=>simp at h
    | 2,h=>simp at h
    | i+3,h=>simp at h
   exact(By (a:=⟨gs,i,I⟩) (w:=wr) (aB _ h2)).trans (h1.ptr i hi)
  .have hq:=h1.gj i hi;exact⟨(aB _ (λe=>hm ⟨i,hi,.inl e.symm⟩)).trans hq.head,hq.row.of_block (aB _ (λe=>hm ⟨i,hi,.inr e.symm⟩)),hq.ne⟩
  .rcases h7 with c|⟨c,t,xs,is,d1,d2,d3⟩
   .exact .inl c
   .refine .inr ⟨c,t,xs,is,d1,d2,λhi=>?_⟩;obtain⟨e1,e2,e3⟩:=d3 hi;refine⟨e1,⟨e2.len,e2.max,λi hi=>?_⟩,e3⟩;obtain⟨b,f,e,a9,hc⟩:=e2.cell i hi;exact⟨b,f,e,by simpa[World.setCell]using a9,(By (a:=⟨b,f+i,I⟩) (w:=wr) (aB b (h6 b f e).2.1)).trans hc⟩
 cases al:a.can
 .replace al:=Hh al;go_wp2;refine Al (v:=.agg #[Z G a.id,Z G (-1),V I 0 0]) (by simp[results,results188,go_sem,r0,r1,r2]) rfl ?_;exact aT.out _ (-1) I 0 0 ps aP.out (je.refl _ _) (Mod.dh ac.out) j.r Ln (λb f h=>by simp at h) (.inl ⟨al.out,rfl,rfl,rfl,rfl⟩)
 have aI:=Hh al;clear al s0 s1 s2 r0 r1 r2 f0 f1 f2;have a1:=Ajs tb gb un uc uo bs n a w1.drew (aC.below (Below.refl _ _).drew) (hp.below ac.drew Ln) hu;have c0:=Aa aC.head 0;have c2:=Aa aC.head 2;simp at c0 c2;have lt:=Ab aC.head;obtain⟨y0,y1,y2,y3,y4,y5,y6,y7,y8,y9⟩:=Pa j.ask;have z:=Ab j.ask;have g:BW w1.heap.size w1 w1.drew:=(Below.refl _ _).drew
 have bc:Hid (∀w':WD,BW w1.heap.size w1 w'->w'.cell? ⟨tb,0,I⟩=O (K (O ⟨gb,0,I⟩))/\w'.cell? ⟨tb,2,I⟩=O (Z G n)/\w'.cell? ⟨w.heap.size,0,I⟩=O (Z G a.id)/\w'.cell? ⟨w.heap.size,1,I⟩=O (V a.po a.pn a.pc)/\w'.cell? ⟨w.heap.size,2,I⟩=O (Z G a.nodes)/\w'.cell? ⟨w.heap.size,3,I⟩=O (Z G a.v.a)/\w'.cell? ⟨w.heap.size,4,I⟩=O (Z G a.v.b)/\w'.cell? ⟨w.heap.size,5,I⟩=O (Z G a.v.c)/\w'.cell? ⟨w.heap.size,6,I⟩=O (Z G a.v.d)/\w'.cell? ⟨w.heap.size,7,I⟩=O (Z G a.aa)/\w'.cell? ⟨w.heap.size,8,I⟩=O (Z G a.start)/\w'.cell? ⟨w.heap.size,9,I⟩=O (V a.go a.gn a.gc)):=λw' h=>
  ⟨(Af h lt).trans c0,(Af h lt).trans c2,(Af h z).trans y0,(Af h z).trans y1,(Af h z).trans y2,(Af h z).trans y3,(Af h z).trans y4,(Af h z).trans y5,(Af h z).trans y6,(Af h z).trans y7,(Af h z).trans y8,(Af h z).trans y9⟩
 have aZ:=
  λso sn sc W' h hz=>Av3 gb gs cap po ps so sn sc (Bl (ji bs a.ie)) a.nodes a.v a.aa n W' (aP.below h) hz
 replace⟨a1,g,aZ⟩:=H3 a1 g aZ;go_wp2_with fail;go_region_held3 (λw'=>w'.cell? ⟨tb,0,I⟩=O (K (O ⟨gb,0,I⟩))/\w'.cell? ⟨tb,2,I⟩=O (Z G n)/\w'.cell? ⟨w.heap.size,0,I⟩=O (Z G a.id)/\w'.cell? ⟨w.heap.size,1,I⟩=O (V a.po a.pn a.pc)/\w'.cell? ⟨w.heap.size,2,I⟩=O (Z G a.nodes)/\w'.cell? ⟨w.heap.size,3,I⟩=O (Z G a.v.a)/\w'.cell? ⟨w.heap.size,4,I⟩=O (Z G a.v.b)/\w'.cell? ⟨w.heap.size,5,I⟩=O (Z G a.v.c)/\w'.cell? ⟨w.heap.size,6,I⟩=O (Z G a.v.d)/\w'.cell? ⟨w.heap.size,7,I⟩=O (Z G a.aa)/\w'.cell? ⟨w.heap.size,8,I⟩=O (Z G a.start)/\w'.cell? ⟨w.heap.size,9,I⟩=O (V a.go a.gn a.gc))
  (first
    | with_reducible exact bc.out _ g.out)
  (first
    | (go_at_call 246;refine a1.mono ?_;rintro e w5 ⟨bl,bk,bj,rfl,a4,_,_,aW⟩;replace g:=Hh (g.trans (aW.mono g.size))
       replace⟨a4,aW⟩:=H2 a4 aW)
    | (go_at_call 245;refine(aZ _ _ _ _ g.out a4.out).mono ?_;rintro e w6 ⟨t6,q,y,aN,aS,bg,rfl,aG,a5,a7,aY,aX⟩;have a8:Hid (∀b f,q=O ⟨b,f,I⟩->w1.heap.size<=b):=λb f e=>A8 g.size (aY b f e);replace g:=Hh (g.trans (aX.mono g.size))
       replace⟨aG,a5,aY,aX⟩:=H4 aG a5 aY aX))
 have k:=j.below g.out;have aE:=ac.trans (g.mono ac.size);have aV:=hP.below aE;have s0:=Aa k.s 0;have s1:=Aa k.s 1;have s2:=Aa k.s 2;have ba:=Ag k.s 1;have bb:=Ag k.s 2;have r0:=Aa k.r 0;have r1:=Aa k.r 1;have r2:=Aa k.r 2;have f0:=Ag k.r 0;have f1:=Ag k.r 1;have f2:=Ag k.r 2;simp at s0 s1 s2 r0 r1 r2;clear c0 c2 lt y0 y1 y2 y3 y4 y5 y6 y7 y8 y9 z;replace⟨k,aE,aV⟩:=H3 k aE aV
 cases bg with
 | false=>
  have m:Rl ps bs n a (-1) I 0 ps w6:=.inr ⟨aI.out,t6,aS,false,aG.out,λ_=>⟨rfl,rfl,rfl,rfl⟩,λh=>(by cases h)⟩;replace m:=Hh m;go_wp2;refine Al (v:=.agg #[Z G a.id,Z G (-1),V I 0 0]) (by simp[results,results188,go_sem,r0,r1,r2]) rfl ?_;exact aT.out _ (-1) I 0 0 ps aV.out (je.refl _ _) (Mod.dh aE.out) k.r Ln (λb f h=>by simp at h) m.out
 | true=>
  have hF:=aG.found;have ew:IntKind.i64.wrap (t6+a.aa)=t6+a.aa:=D4 _ (by have:=hF.ge;have:=hF.fin;have:=hF.mm;omega);have u:=λb f e=>Bq (Ab j.s) (a8 b f e);obtain⟨W7,aA⟩:=Ex ((w6.setCell ⟨w.heap.size+1+1,1,I⟩ (Z G t6)).setCell ⟨w.heap.size+1+1,2,I⟩ (V q y aN));have ap:BW w.heap.size w W7:=by rw[aA];exact(aE.setCell (by show w.heap.size<=w.heap.size+1+1;omega) _).setCell (by show w.heap.size<=w.heap.size+1+1;omega) _
  have av:qz w a t6 q y aN W7:=by rw[aA];exact k.set
  have aD:At W7 q y (Bl aS):=by rw[aA];exact(a5.setCell _ _ (λb f e=>by have:=u b f e;show b≠w.heap.size+1+1;omega)).setCell _ _ (λb f e=>by have:=u b f e;show b≠w.heap.size+1+1;omega)
  have aM:=ht.below ap;have aF:=hP.below ap
  have ao:0<y->vw q (Bm ps):=λ_ b f e hm=>by have:=u b f e;have:=aK b hm;omega
  have a2:=
   λW' h=>Acy gb gs cap po ps q y aN (Bl aS) t6 (t6+a.aa) a.v W' (aF.below h) (aD.below h Ln) ao a7
  have c0:=Aa aM.head 0;simp at c0;have lt:=Ab aM.head;obtain⟨y0,y1,y2,y3,y4,y5,y6,y7,y8,y9⟩:=Pa av.ask;have z:=Ab av.ask;have a3:=Kx aF aM.head ad9 ad9;have an:=Kx aF av.ask ad9 ad9;have ad:BW W7.heap.size W7 W7.drew:=(Below.refl _ _).drew;clear y0 y1 y2 y8 y9;replace⟨hF,u,ap,av,aD,aM,aF,ao⟩:=H8 hF u ap av aD aM aF ao;replace⟨a2,a3,an,ad⟩:=H4 a2 a3 an ad
  have bd:Hid (∀w':WD,(∀b,b<W7.heap.size->¬Bm ps b->∀o,w'.cell? ⟨b,o,I⟩=W7.cell? ⟨b,o,I⟩)->w'.cell? ⟨tb,0,I⟩=O (K (O ⟨gb,0,I⟩))/\w'.cell? ⟨w.heap.size,3,I⟩=O (Z G a.v.a)/\w'.cell? ⟨w.heap.size,4,I⟩=O (Z G a.v.b)/\w'.cell? ⟨w.heap.size,5,I⟩=O (Z G a.v.c)/\w'.cell? ⟨w.heap.size,6,I⟩=O (Z G a.v.d)/\w'.cell? ⟨w.heap.size,7,I⟩=O (Z G a.aa)):=
   λw' h=>⟨(h tb lt a3.out _).trans c0,(h _ z an.out _).trans y3,(h _ z an.out _).trans y4,(h _ z an.out _).trans y5,(h _ z an.out _).trans y6,(h _ z an.out _).trans y7⟩
  go_wp2_with fail;rw[<-aA];replace aA:=Hh aA;clear s0 s1 s2 ba bb r0 r1 r2 f0 f1 f2;go_region_held3 (λw'=>w'.cell? ⟨tb,0,I⟩=O (K (O ⟨gb,0,I⟩))/\w'.cell? ⟨w.heap.size,3,I⟩=O (Z G a.v.a)/\w'.cell? ⟨w.heap.size,4,I⟩=O (Z G a.v.b)/\w'.cell? ⟨w.heap.size,5,I⟩=O (Z G a.v.c)/\w'.cell? ⟨w.heap.size,6,I⟩=O (Z G a.v.d)/\w'.cell? ⟨w.heap.size,7,I⟩=O (Z G a.aa))
   (first
     | (go_keep;done)
     | with_reducible exact bd.out _ bf.out)
   (first
     | (go_at_call 236;refine(a2 _ ad.out).mono ?_;rintro e w8 ⟨r8,p,rfl,hT,a0,aR,x⟩;have bf:Hid (∀b,b<W7.heap.size->¬Bm ps b->∀o,w8.cell? ⟨b,o,I⟩=W7.cell? ⟨b,o,I⟩):=λb hb hn o=>By (a:=⟨b,o,I⟩) (w:=W7) (x.block b hb hn)
        replace⟨hT,a0,aR,x⟩:=H4 hT a0 aR x))
  have l:=av.mod ((Mod.dh ad.out).jr x.out) aK.out;have aL:=(Mod.dh ap.out).jr ((Mod.dh ad.out).jr x.out);have aJ:=aR.back (A8 ap.size ad.size);have a6:=aD.mod ((Mod.dh ad.out).jr x.out) ao.out;have m:Rl ps bs n a t6 q y p w8:=.inr ⟨aI.out,t6,aS,true,aG.out,λh=>(by cases h),λ_=>⟨rfl,a6,r8,hT.out⟩⟩
  have am:∀b f,q=O ⟨b,f,I⟩->w.heap.size<=b/\b≠w.heap.size+1/\¬Bm p b:=λb f e=>by
   have h1:=u b f e;refine⟨ao9,ao9,λhm=>?_⟩;rcases aR.gi hm with c|c
   .have:=aK b c;omega
   .by_cases h0:0<y
    .obtain ⟨b',bi,e',a9,_⟩:=aD.cell 0 h0;rw[e]at e';cases e';have:=ad.size;omega
    .have:=hF.len;have:=hF.many1;have:=aD.len;simp[Bl]at this;omega
  have s0:=Aa l.s 0;have s1:=Aa l.s 1;have s2:=Aa l.s 2;have r0:=Aa l.r 0;have r1:=Aa l.r 1;have r2:=Aa l.r 2;have f0:=Ag l.r 0;have f1:=Ag l.r 1;have f2:=Ag l.r 2;simp at s0 s1 s2 r0 r1 r2;clear c0 lt y3 y4 y5 y6 y7 z;replace⟨l,aL,aJ,a6,m,am⟩:=H6 l aL aJ a6 m am;go_wp2;refine Al (v:=.agg #[Z G a.id,Z G t6,V q y aN]) (by simp[results,results188,go_sem,r0,r1,r2]) rfl ?_;exact aT.out _ t6 q y aN p a0.out aJ.out aL.out l.r a7 am.out m.out
