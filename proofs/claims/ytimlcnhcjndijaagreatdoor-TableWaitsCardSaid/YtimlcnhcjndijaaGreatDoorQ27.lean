/- Parts PlRefa, PlPma. Plain theorems: no condition. -/
import Derived.Test.YtimlcnhcjndijaaGreatDoorQ26
import Derived.Laws.AppendOwnNone
set_option linter.all false
set_option maxRecDepth 100000
set_option maxHeartbeats 6400000
namespace Go.Proofs.YtimlcnhcjndijaaGreatDoor.Pl
open Go.RowKit
structure Ch where
 fr:Int
 tt:Int
 v:V4
 back:Bool
def Ch.zero:Ch:=⟨0,0,V4.zero,false⟩
def ch (l:List Ch) (i:Nat):Ch:=l.getD i Ch.zero
def Aqm {w w':World} {base size n B:Nat} {e:TypeId} {v:Value} {xs:List Value} (h:w.ownsRow base e size v n xs) (c:Below B w w') (d:w.heap.size<=B):w'.ownsRow base e size v n xs:=by
 obtain ⟨h1,f⟩:=h;refine ⟨h1,?_⟩;rcases f with h | ⟨g,cap,a,i,j,b,k⟩
 .exact .inl h
 .exact .inr ⟨g,cap,a,i,j,Ae c b (Br (Ab b) d),k⟩
end Go.Proofs.YtimlcnhcjndijaaGreatDoor.Pl
namespace Go.Proofs.YtimlcnhcjndijaaGreatDoor.Pl
open Go.RowKit
def Aqn (w:World) (a b c:Obj):Below w.heap.size w (((w.alloc a).alloc b).alloc c):=(Bn.alloc (by simp) _).alloc (by simp;omega) _
end Go.Proofs.YtimlcnhcjndijaaGreatDoor.Pl
namespace Go.Proofs.YtimlcnhcjndijaaGreatDoor.Pl
open Go.RowKit
end Go.Proofs.YtimlcnhcjndijaaGreatDoor.Pl
namespace Go.Proofs.YtimlcnhcjndijaaGreatDoor.Pl
open Go.RowKit
def Yg (w:World) (n:Int):∀ j u,([.int .i64 n]:List Value)[j]?=some u->(w.alloc (.cells #[.int .i64 n] 3 (0,0))).cell? ((⟨w.heap.size,0,none⟩:Addr).add j)=some u:=by
 intro j u a
 match j,a with
 | 0,a=>
  have:=Aa (Af w (.cells #[.int .i64 n] 3 (0,0))) 0;simp at a;subst a;exact this
 | j+1,a=>simp at a
def size_alloc {B:Nat} {w:World} (h:B<=w.heap.size) (o:Obj):B<=(w.alloc o).heap.size:=by simp;omega
end Go.Proofs.YtimlcnhcjndijaaGreatDoor.Pl
namespace Go.Proofs.YtimlcnhcjndijaaGreatDoor.Pl
open Go.RowKit
end Go.Proofs.YtimlcnhcjndijaaGreatDoor.Pl
namespace Go.Proofs.YtimlcnhcjndijaaGreatDoor.Pl
end Go.Proofs.YtimlcnhcjndijaaGreatDoor.Pl
namespace Go.Proofs.YtimlcnhcjndijaaGreatDoor.Pl
open Go.RowKit
end Go.Proofs.YtimlcnhcjndijaaGreatDoor.Pl
namespace Go.Proofs.YtimlcnhcjndijaaGreatDoor.Pl
open Go.RowKit
structure Ask where
 id:Int
 po:Option Addr
 pn:Nat
 pc:Nat
 ft:List Int
 nodes:Int
 v:V4
 aa:Int
 start:Int
 go:Option Addr
 gn:Nat
 gc:Nat
 dv:List Int
abbrev Ask.cells (a:Ask):Array Value:=#[.int .i64 a.id,.slice a.po a.pn a.pc,.int .i64 a.nodes,.int .i64 a.v.a,.int .i64 a.v.b,.int .i64 a.v.c,.int .i64 a.v.d,.int .i64 a.aa,.int .i64 a.start,.slice a.go a.gn a.gc]
abbrev Ask.val (a:Ask):Value:=.agg #[.int .i64 a.id,.slice a.po a.pn a.pc,.int .i64 a.nodes,.int .i64 a.v.a,.int .i64 a.v.b,.int .i64 a.v.c,.int .i64 a.v.d,.int .i64 a.aa,.int .i64 a.start,.slice a.go a.gn a.gc]
def Ask.obj (a:Ask):Obj:=.cells a.cells 266 (0,0)
structure Ask.ok (w:World) (a:Ask):Prop where
 places:Ap w a.po a.pn a.ft
 mh:a.pn<=a.pc
 aj:Ap w a.go a.gn a.dv
 oi:a.gn<=a.gc
def Ask.ok.below {w w':World} {a:Ask} {B:Nat} (h:a.ok w) (b:Below B w w') (c:w.heap.size<=B):a.ok w':=⟨h.places.below b c,h.mh,h.aj.below b c,h.oi⟩
def Oa {w:World} {b:Nat} {a:Ask} (h:w.heap[b]?=some a.obj):w.cell? ⟨b,0,none⟩=some (.int .i64 a.id)/\w.cell? ⟨b,1,none⟩=some (.slice a.po a.pn a.pc)/\w.cell? ⟨b,2,none⟩=some (.int .i64 a.nodes) /\
  w.cell? ⟨b,3,none⟩=some (.int .i64 a.v.a)/\w.cell? ⟨b,4,none⟩=some (.int .i64 a.v.b)/\w.cell? ⟨b,5,none⟩=some (.int .i64 a.v.c)/\w.cell? ⟨b,6,none⟩=some (.int .i64 a.v.d)/\w.cell? ⟨b,7,none⟩=some (.int .i64 a.aa) /\
  w.cell? ⟨b,8,none⟩=some (.int .i64 a.start)/\w.cell? ⟨b,9,none⟩=some (.slice a.go a.gn a.gc):=
 ⟨Aa h 0,Aa h 1,Aa h 2,Aa h 3,Aa h 4,Aa h 5,Aa h 6,Aa h 7,Aa h 8,Aa h 9⟩
def bi (bs:List Bool) (i:Nat):Bool:=bs.getD i false
structure Mf (w:World) (ao:Option Addr) (n:Nat) (bs:List Bool):Prop where
 len:bs.length=n
 max:n<=9223372036854775807
 cell:∀ i,i<n->∃ b off,ao=some ⟨b,off,none⟩/\b<w.heap.size/\w.cell? ⟨b,off+i,none⟩=some (.bool (bi bs i))
def Mf.below {w w':World} {d:Option Addr} {n:Nat} {f:List Bool} (h:Mf w d n f) {B:Nat} (g:Below B w w') (l:w.heap.size<=B):Mf w' d n f:=
 ⟨h.len,h.max,fun i j=>by
  obtain ⟨b,a,e,c,k⟩:=h.cell i j
  exact ⟨b,a,e,Br c g.size,(Ag g (by omega)).trans k⟩⟩
structure qg (w:World) (tb gb:Nat) (uo:Option Addr) (un uc:Nat) (bs:List Bool) (now:Int):Prop where
 head:w.heap[tb]?=some (.cells #[.pointer (some ⟨gb,0,none⟩),.slice uo un uc,.int .i64 now] 270 (0,0))
 up:Mf w uo un bs
def qg.below {w w':World} {b c d e:Nat} {f:Option Addr} {g:List Bool} {a:Int} (h:qg w b c f d e g a) (i:Below w.heap.size w w'):qg w' b c f d e g a:=⟨Ae i h.head (Ab h.head),h.up.below i Ln⟩
def Aqo (zs:List Int) (x:Int) (w:World) (e:Ending) (w':World):Prop:=∃ r:Int,e=.returned (.int .i64 r)/\(0<=r↔x∈zs)/\w'=w
def Aqp (r:Option Addr) (n c:Nat) (zs:List Int) (x:Int) (w:World) (m:Ap w r n zs):Calls Tryz.prog 216 #[.slice r n c,.int .i64 x] w (Aqo zs x w):=by
 have a:=m.len;have s:=m.max;replace ⟨m,a⟩:=H2 m a;go_enter Tryz.func216,Tryz.ntmps216;go_wp2;go_loopw [5,8] (fun _ i wr=>∃ k:Nat,i=.int .i64 k/\k<=n/\Hid (∀ j,j<k->zi zs j≠x)/\wr=w) (fun _ i _=>n-(intOf i).toNat)
 case atStart=>exact ⟨0,rfl,Av _,(fun j h=>by omega),rfl⟩
 case round=>
  obtain ⟨k,rfl,hk,f,rfl⟩:=hrel;by_cases t:k<n
  .have o:(k:Int)<n:=(by omega);have v:(0:Int)<=(k:Int):=(by omega);obtain ⟨b,z,rfl,hb,a0⟩:=m.out.cell k t;obtain ⟨y,g⟩:=Ex (zi zs k);rw [<- g] at a0;by_cases q:x=y
   .have d:(x == y)=true:=(by simpa using q);have l:x∈zs:=Aex.2 ⟨k,by rw [a.out];exact t,by rw [<- g];exact q.symm⟩;replace ⟨g,q,l⟩:=H3 g q l;go_wp2;go_ret;exact ⟨k,rfl,⟨fun _=>l.out,fun _=>by omega⟩,rfl⟩
   .have d:(x == y)=false:=by simpa using q
    have p:∀ j,j<k+1->zi zs j≠x:=fun j u=>by
     by_cases e:j=k
     .subst e;rw [<- g];exact fun h=>q h.symm
     .exact f.out j (by omega)
    replace ⟨g,q,p⟩:=H3 g q p;go_wp2;go_roundw
    case rel=>exact ⟨k+1,by go_num,by omega,p.out,trivial⟩
    case measure=>simp [intOf];omega
  .have o:¬ (k:Int)<n:=by omega
   have l:¬ x∈zs:=fun h=>by
    obtain ⟨j,u,e⟩:=Aex.1 h;exact f.out j (by rw [a.out] at u;omega) e
   replace l:=Hh l;go_wp2;go_ret;exact ⟨-1,rfl,⟨fun h=>(by omega),fun h=>absurd h l.out⟩,rfl⟩
def Aez (f:Option Addr) (n c:Nat) (zs:List Int) (x:Int) (w:World) (i:Ap w f n zs):Calls Tryz.prog 166 #[.slice f n c,.int .i64 x] w (Aqh zs x w):=by
 have g:=Aqp f n c zs x w i;replace g:=Hh g;go_enter Tryz.func166,Tryz.ntmps166;go_wp2_with fail;refine g.out.mono ?_;rintro e j ⟨r,rfl,b,rfl⟩;by_cases q:0<=r
 .have d:decide (0<=r)=true:=by simpa using q
  have a:=b.1 q;replace ⟨q,a⟩:=H2 q a;clear b;go_wp2;go_ret;exact ⟨true,rfl,⟨fun _=>a.out,fun _=>rfl⟩,rfl⟩
 .have d:decide (0<=r)=false:=by simpa using q
  have a:¬ x∈zs:=fun h=>q (b.2 h);replace ⟨q,a⟩:=H2 q a;clear b;go_wp2;go_ret;exact ⟨false,rfl,⟨fun h=>(by cases h),fun h=>absurd h a.out⟩,rfl⟩
def Ask.can (a:Ask):Bool:=decide (0<a.nodes) && decide (0<a.aa) && a.v.right
def Ae0 (a:Ask) (w:World):Calls Tryz.prog 237 #[a.val] w fun e w'=>e=.returned (.bool a.can)/\Below w.heap.size w w':=by
 have f:Below w.heap.size w (w.alloc a.obj):=Bn;replace f:=Hh f;by_cases b:0<a.nodes;rotate_left
 .have h:decide (0<a.nodes)=false:=by simpa using b
  have e:a.can=false:=by simp [Ask.can,h]
  rw [e];replace ⟨b,e⟩:=H2 b e;go_enter Tryz.func237,Tryz.ntmps237;go_wp2;go_ret;exact ⟨rfl,f.out⟩
 have h:decide (0<a.nodes)=true:=by simpa using b
 by_cases g:0<a.aa;rotate_left
 .have i:decide (0<a.aa)=false:=by simpa using g
  have e:a.can=false:=by simp [Ask.can,i]
  rw [e];replace ⟨b,g,e⟩:=H3 b g e;go_enter Tryz.func237,Tryz.ntmps237;go_wp2;go_ret;exact ⟨rfl,f.out⟩
 have i:decide (0<a.aa)=true:=by simpa using g
 have e:a.can=a.v.right:=by simp [Ask.can,h,i]
 rw [e];replace ⟨b,g,e⟩:=H3 b g e;go_enter Tryz.func237,Tryz.ntmps237;go_wp2_with fail;refine (In a.v _).mono ?_;rintro j k ⟨rfl,c⟩;have d:=f.out.trans (c.mono f.out.size);replace ⟨d,c⟩:=H2 d c;go_wp2;go_ret;exact ⟨rfl,d.out⟩
def Nc (fr aa:Int):Int:=if 1099511627776-fr<aa then 1099511627777 else fr+aa
def Vw (fr a:Int) (w:World) (h0:0<=fr) (h1:fr<=1099511627776) (b:-9223372036854775808<=a):Calls Tryz.prog 239 #[.int .i64 fr,.int .i64 a] w fun e w'=>e=.returned (.int .i64 (Nc fr a))/\w'=w:=by
 have c:IntKind.i64.wrap (1099511627776-fr)=1099511627776-fr:=Gt _ (by omega);unfold Nc;by_cases q:1099511627776-fr<a
 .have d:decide (1099511627776-fr<a)=true:=by simpa using q
  rw [Ad q];replace q:=Hh q;go_enter Tryz.func239,Tryz.ntmps239;go_wp2;go_ret;exact ⟨rfl,rfl⟩
 .have d:decide (1099511627776-fr<a)=false:=by simpa using q
  have f:IntKind.i64.wrap (fr+a)=fr+a:=Gt _ (by omega);rw [Ac q];replace q:=Hh q;go_enter Tryz.func239,Tryz.ntmps239;go_wp2;go_ret;exact ⟨rfl,rfl⟩
end Go.Proofs.YtimlcnhcjndijaaGreatDoor.Pl
namespace Go.Proofs.YtimlcnhcjndijaaGreatDoor.Pl
open Go.RowKit
def Qj (bs:List Bool) (zs:List Int) (i:Nat):Bool:=bi bs i && decide ((i:Int)∈zs)
def Nf (bs:List Bool) (zs:List Int) (k:Nat):List Nat:=(List.range k).filter (Qj bs zs)
def mr (bs:List Bool) (zs:List Int):List Nat:=Nf bs zs bs.length
def Zq (a:List Bool) (zs:List Int) (k:Nat):Nf a zs (k+1)=if Qj a zs k=true then Nf a zs k++[k] else Nf a zs k:=by
 unfold Nf;rw [List.range_succ,Om];by_cases h:Qj a zs k=true
 .rw [Ad h];simp [h]
 .rw [Ac h];simp [h]
def Aqq (bs:List Bool) (zs:List Int) (w:World) (e:Ending) (w':World):Prop:=
 ∃ so n c,e=.returned (.slice so n c)/\Ap w' so n (Bl (mr bs zs))/\n<=c/\(∀ b off,so=some ⟨b,off,none⟩->w.heap.size<=b)/\Below w.heap.size w w'
def Ae1 (tb gb un uc:Nat) (uo:Option Addr) (x:List Bool) (aG:Int) (a:Ask) (w:World) (ht:qg w tb gb uo un uc x aG) (hz:Ap w a.po a.pn a.ft) (hu:un<=1000000) :
  Calls Tryz.prog 246 #[.pointer (some ⟨tb,0,none⟩),a.val] w (Aqq x a.ft w):=by
 obtain ⟨i3,aH,aI,aD,aE⟩:=C0 M0;have ad:Below w.heap.size w (w.alloc a.obj):=Bn;have m:(w.alloc a.obj).heap[w.heap.size]?=some a.obj:=Af _ _;have t:=ht.up.len;have t1:=Aa ht.head 1;simp at t1;have lt:=Ab ht.head;replace ⟨ht,hz,ad,m,t⟩:=H5 ht hz ad m t;go_enter Tryz.func246,Tryz.ntmps246;go_wp2;go_loopw [5,6,7,13] (fun ov _ _ i wr=>∃ (k L:Nat) (xs:List Nat),i=.int .i64 k/\k<=un/\L<=k/\Hid (Below w.heap.size w wr)/\Hid (wr.heap[w.heap.size]?=some a.obj)/\Hid (Ak wr (w.heap.size+1) ov L xs)/\Hid (xs=Nf x a.ft k)) (fun _ _ _ i _=>un-(intOf i).toNat)
 case atStart=>exact ⟨0,0,[],rfl,by omega,Nat.le_refl _,ad.out,m.out,Ak.nil _ _,rfl⟩
 case round=>
  obtain ⟨k,L,xs,rfl,hk,aL,hB,hx,f,y⟩:=hrel;by_cases hc:k<un
  .have aJ:(k:Int)<un:=(by omega);have aM:(0:Int)<=(k:Int):=(by omega);obtain ⟨b,aF,rfl,hb,a0⟩:=ht.out.up.cell k hc;have b0:=(Ag hB.out hb).trans a0;clear a0;have sz:=hB.out.size;cases l:bi x k
   .rw [l] at b0;have c:xs=Nf x a.ft (k+1):=(by rw [Zq,Ac (by simp [Qj,l]),y.out]);replace ⟨c,l⟩:=H2 c l;go_wp2;go_roundw
    case rel=>exact ⟨k+1,L,xs,by go_num,by omega,by omega,hB.out,hx.out,f.out,c.out⟩
    case measure=>simp [intOf];omega
   .rw [l] at b0;have x1:=(Oa hx.out).2.1;have lx:=Ab hx.out;have al:=Aez a.po a.pn a.pc a.ft (k:Int) wr (hz.out.below hB.out Ln);replace al:=Hh al;go_wp2_with fail;refine al.out.mono ?_;rintro e w2 ⟨r,rfl,hr,rfl⟩;have hp:Qj x a.ft k=r:=(by simp only [Qj,l,Bool.true_and];rw [Pt,decide_eq_true_iff];exact hr.symm);clear hr;replace l:=Hh l;cases r
    .have c:xs=Nf x a.ft (k+1):=(by rw [Zq,Ac (by rw [hp];simp),y.out]);replace ⟨c,hp⟩:=H2 c hp;go_wp2;go_roundw
     case rel=>exact ⟨k+1,L,xs,by go_num,by omega,by omega,hB.out,hx.out,f.out,c.out⟩
     case measure=>simp [intOf];omega
    .have c:xs++[k]=Nf x a.ft (k+1):=(by rw [Zq,Ad hp,y.out]);have ac:w.heap.size+1<=w2.heap.size:=lx;have n:=f.out.2.alloc (.cells #[.int .i64 (k:Int)] 3 (0,0));have o:=Yg w2 (k:Int);have p:∀ u∈([.int .i64 (k:Int)]:List Value),u.oneCell'=true:=by simp [Value.oneCell']
     have am:L+1<=maxLen:=by
      have:maxLen=9223372036854775807:=by kernel_rfl
      omega
     have an:(L+1)*8<=140737488355328:=(by omega);have s:=size_alloc ac (.cells #[.int .i64 (k:Int)] 3 (0,0));have ao:=f.out.2.lt;have ap:=f.out.1;replace ⟨c,hp,n,o,p,am,an,s⟩:=H8 c hp n o p am an s;replace ⟨ao,ap⟩:=H2 ao ap;go_wp2_with (at_builtin;refine Rb _ rfl _ _ 31 rfl (w.heap.size+1) 3 i3 _ 1 8 Nm aH aI aD aE rfl Nat.one_pos _ L _ rfl n.out ⟨w2.heap.size,0,none⟩ 1 1 [.int .i64 (k:Int)] rfl rfl o.out p.out am.out an.out s.out ?_;intro v1 w9 j q _;obtain ⟨g,v,rfl⟩:=Joins.ownsRow_form j (Kw _);replace ⟨j,q⟩:=H2 j q);have av:Ak w9 (w.heap.size+1) (.slice (some ⟨g,0,none⟩) (L+1) v) (L+1) (xs++[k]):=⟨by rw [De,<- ap.out];rfl,by simpa [Bl] using j.out⟩;have hG:=((Below.refl _ _).alloc ac _).grown q.out s.out (fun k hk=>(ao.out k hk).1);have aA:=hB.out.trans (hG.mono (Ea _));have aB:=Ae hG hx.out (Nat.lt_succ_self _);replace ⟨av,aA,aB,hG⟩:=H4 av aA aB hG;go_roundw
     case rel=>exact ⟨k+1,L+1,xs++[k],by go_num,by omega,by omega,aA.out,aB.out,av.out,c.out⟩
     case measure=>simp [intOf];omega
  .have aJ:¬ (k:Int)<un:=(by omega);have aC:k=x.length:=(by rw [t.out];omega);have z:xs=mr x a.ft:=(by unfold mr;rw [y.out,aC]);have aK:L<=9223372036854775807:=(by omega);replace ⟨aC,z⟩:=H2 aC z;have d:=f.out;rcases Joins.ownsRow_forms d.2 with ⟨rfl,h0⟩ | ⟨g,v,rfl⟩
   .have m:xs=[]:=(by have:=d.1;rw [h0] at this;exact Fw.1 this.symm);replace ⟨d,h0,m⟩:=H3 d h0 m;go_wp2;go_ret;refine ⟨none,0,0,rfl,?_,Nat.le_refl _,(fun b aF h=>by simp at h),hB.out⟩;rw [<- z.out,m.out];exact Tr _
   .obtain ⟨o1,o2,o3⟩:=d.at aK;replace ⟨d,o1,o2,o3⟩:=H4 d o1 o2 o3;go_wp2;go_ret;refine ⟨some ⟨g,0,none⟩,L,v,rfl,?_,o2.out,(fun b aF e=>by cases e;exact Nat.le_of_succ_le o3.out),hB.out⟩;rw [<- z.out];exact o1.out
end Go.Proofs.YtimlcnhcjndijaaGreatDoor.Pl
namespace Go.Proofs.YtimlcnhcjndijaaGreatDoor.Pl
open Go.RowKit
structure Ng (bs:List Bool) (a:Ask) (zs:List Int):Prop where
 uh:∀ i,i<zs.length->zi zs i∈Bl (mr bs a.ft)
 bh:∀ i,i+1<zs.length->zi zs i<zi zs (i+1)
 len:(zs.length:Int)=a.nodes
def Aqr (bs:List Bool) (a:Ask) (zs:List Int) (w:World) (e:Ending) (w':World):Prop:=∃ b:Bool,e=.returned (.bool b)/\(b=true↔Ng bs a zs)/\Below w.heap.size w w'
def Aqs (tb gb un uc:Nat) (uo:Option Addr) (p:List Bool) (ap:Int) (a:Ask) (ao:Option Addr) (m c:Nat) (zs:List Int) (w:World) (ht:qg w tb gb uo un uc p ap) (hp:Ap w a.po a.pn a.ft) (hu:un<=1000000) (hz:Ap w ao m zs) :
  Calls Tryz.prog 238 #[.pointer (some ⟨tb,0,none⟩),a.val,.slice ao m c] w (Aqr p a zs w):=by
 obtain ⟨W,hW⟩:=Ex (w.alloc a.obj);have o:Below w.heap.size w W:=by rw [hW];exact Bn
 have v:W.heap[w.heap.size]?=some a.obj:=by rw [hW];exact Af _ _
 have z:=Ae1 tb gb un uc uo p ap a W (ht.below o) (hp.below o Ln) hu;rw [hW] at z;have g:=hz.len;have aE:=hz.max;replace ⟨ht,hp,hz,o,v,z,g,hW⟩:=H8 ht hp hz o v z g hW;go_enter Tryz.func238,Tryz.ntmps238;go_wp2_with fail;refine z.out.mono ?_;rintro e w2 ⟨so,sn,sc,rfl,ad,_,_,s⟩;rw [<- hW.out] at s;have n:=o.out.trans (s.mono o.out.size);have al:=Ae s v.out (Ab v.out);replace ⟨ad,s,n,al⟩:=H4 ad s n al;go_wp2;go_loopw [8,9,15] (fun _ _ i wr=>∃ k:Nat,i=.int .i64 k/\k<=m/\Hid (∀ i,i<k->zi zs i∈Bl (mr p a.ft)/\(∀ j,i=j+1->zi zs j<zi zs i))/\wr=w2) (fun _ _ i _=>m-(intOf i).toNat)
 case atStart=>exact ⟨0,rfl,Av _,(fun i h=>absurd h (Pq i)),rfl⟩
 case round=>
  obtain ⟨k,rfl,hk,t,rfl⟩:=hrel;by_cases hc:k<m
  .have aB:(k:Int)<m:=(by omega);have aG:(0:Int)<=(k:Int):=(by omega);obtain ⟨b,aH,rfl,hb,a0⟩:=hz.out.cell k hc;have b0:=(Ag n.out hb).trans a0;clear a0;obtain ⟨x,hx⟩:=Ex (zi zs k);rw [<- hx] at b0
   have av:Hid (¬ (x∈Bl (mr p a.ft)/\∀ j,k=j+1->zi zs j<x)->¬ Ng p a zs):=fun h hg=>by
    have aA:k<zs.length:=(by rw [g.out];exact hc);refine h ⟨by rw [hx];exact hg.uh k aA,fun j e=>?_⟩;subst e;rw [hx];exact hg.bh j aA
   have am:=Aez so sn sc (Bl (mr p a.ft)) x wr ad.out;replace ⟨hx,am⟩:=H2 hx am;go_wp2_with fail;refine am.out.mono ?_;rintro e w3 ⟨r,rfl,hr,rfl⟩
   cases r with
   | false=>
    have l:=av.out (fun h=>by have:=hr.2 h.1;cases this);clear hr;replace l:=Hh l;go_wp2;go_ret;exact ⟨false,rfl,⟨fun h=>(by cases h),fun h=>absurd h l.out⟩,n.out⟩
   | true=>
    have ac:=hr.1 rfl;clear hr;replace ac:=Hh ac;by_cases k0:k=0
    .have dk:decide (0<(k:Int))=false:=(by simp;omega);have aC:decide (0<k)=false:=by simp;omega
     have f:∀ i,i<k+1->zi zs i∈Bl (mr p a.ft)/\(∀ j,i=j+1->zi zs j<zi zs i):=fun i hi=>by
      have:i=k:=by omega
      subst this;exact ⟨by rw [<- hx.out];exact ac.out,fun j e=>by omega⟩
     replace ⟨k0,f⟩:=H2 k0 f;go_wp2;go_roundw
     case rel=>exact ⟨k+1,by go_num,by omega,f.out,trivial⟩
     case measure=>simp [intOf];omega
    .obtain ⟨j,hj⟩:∃ j,k=j+1:=⟨k-1,by omega⟩;have dk:decide (0<(k:Int))=true:=(by simp;omega);have aC:decide (0<k)=true:=(by simp;omega);have ej:IntKind.i64.wrap ((k:Int)-1)=(j:Int):=(by rw [Gt _ (by omega)];omega);have aI:(j:Int)<m:=(by omega);have aJ:(0:Int)<=(j:Int):=(by omega);obtain ⟨b',aF,e',aD,a1⟩:=hz.out.cell j (by omega);cases e';have b1:=(Ag n.out aD).trans a1;clear a1;obtain ⟨y,hy⟩:=Ex (zi zs j);rw [<- hy] at b1;by_cases q3:x<=y
     .have d3:decide (x<=y)=true:=(by simpa using q3);have l:=av.out (fun h=>by have:=h.2 j hj;rw [<- hy] at this;omega);replace ⟨q3,l,hy,hj,k0⟩:=H5 q3 l hy hj k0;go_wp2;go_ret;exact ⟨false,rfl,⟨fun h=>(by cases h),fun h=>absurd h l.out⟩,n.out⟩
     .have d3:decide (x<=y)=false:=by simpa using q3
      have f:∀ i,i<k+1->zi zs i∈Bl (mr p a.ft)/\(∀ j,i=j+1->zi zs j<zi zs i):=fun i hi=>by
       by_cases e:i=k
       .subst e;refine ⟨by rw [<- hx.out];exact ac.out,fun j2 e=>?_⟩
        have:j2=j:=by omega
        subst this;rw [<- hx.out,<- hy];omega
       .exact t.out i (by omega)
      replace ⟨q3,f,hy,hj,k0⟩:=H5 q3 f hy hj k0;go_wp2;go_roundw
      case rel=>exact ⟨k+1,by go_num,by omega,f.out,trivial⟩
      case measure=>simp [intOf];omega
  .have aB:¬ (k:Int)<m:=(by omega);have aK:k=m:=(by omega);have x2:=(Oa al.out).2.2.1;by_cases q:(m:Int)=a.nodes
   .have d:((m:Int) == a.nodes)=true:=(by simpa using q);have u:Ng p a zs:=⟨fun i hi=>(t.out i (by rw [g.out] at hi;omega)).1,fun i hi=>(t.out (i+1) (by rw [g.out] at hi;omega)).2 i rfl,by rw [g.out];exact q⟩;replace ⟨q,u⟩:=H2 q u;go_wp2;go_ret;exact ⟨true,rfl,⟨fun _=>u.out,fun _=>rfl⟩,n.out⟩
   .have d:((m:Int) == a.nodes)=false:=(by simpa using q);have an:¬ Ng p a zs:=fun h=>q (by rw [<- g.out];exact h.len);replace ⟨q,an⟩:=H2 q an;go_wp2;go_ret;exact ⟨false,rfl,⟨fun h=>(by cases h),fun h=>absurd h an.out⟩,n.out⟩
def Mg (bs:List Bool) (now:Int) (a:Ask) (start:Int) (zs:List Int):Prop:=a.can=true/\now<=start/\start<=1099511627776/\Ng bs a zs
def Ae2 (gb gs cap:Nat) (po:Option Addr) (ps:List Nd) (bs:List Bool) (now:Int) (a:Ask) (start:Int) (zs:List Int) (w:World) (e:Ending) (w':World):Prop:=
 ∃ (b:Bool) (ps':List Nd),e=.returned (.bool b)/\B4 w' gb gs po cap ps'/\gi w ps ps'/\Mod (Bc ps) w w' /\
  ((¬ Mg bs now a start zs/\b=false/\ps'=ps)\/(Mg bs now a start zs/\∃ r,Le ps zs start (Nc start a.aa) a.v r ps'/\(b=true↔r=0)))
def Jp {w:World} {j k cap b:Nat} {po:Option Addr} {d:List Nd} {o:Array Value} {T:TypeId} (e:B4 w j k po cap d) (f:w.heap[b]?=some (.cells o T (0,0))) (h1:T≠363) (l:T≠398):¬ Bc d b:=by
 rintro ⟨i,g,c | c⟩
 .have:=(e.el i g).head;rw [<- c,f] at this;simp at this;exact h1 this.2
 .obtain ⟨h,a,_⟩:=(e.el i g).row.aq;rw [<- c,f] at a;simp at a;exact l a.2
def Mod.cg {S:Nat->Prop} {w w':World} (h:Below w.heap.size w w'):Mod S w w':=⟨h.os,h.tape,h.output,h.size,fun b a _=>h.block b a⟩
def Mod.ik {S:Nat->Prop} {w w1 a:World} (h:Mod S w w1) (k:Mod S w1 a):Mod S w a:=
 ⟨k.os.trans h.os,k.tape.trans h.tape,k.output.trans h.output,A6 h.size k.size,fun b c d=>(k.block b (Br c h.size) d).trans (h.block b c d)⟩
def Aqt (gb gs cap:Nat) (po:Option Addr) (ps:List Nd) (tb un uc:Nat) (uo:Option Addr) (bs:List Bool) (j:Int) (a:Ask) (start:Int) (ao:Option Addr) (m c:Nat) (zs:List Int) (w:World) (hP:B4 w gb gs po cap ps) (ht:qg w tb gb uo un uc bs j)
  (hp:Ap w a.po a.pn a.ft) (hu:un<=1000000) (hz:Ap w ao m zs) (y:0<m->tw ao (Bc ps)) (aL:m<=c) (aO:0<=j) :
  Calls Tryz.prog 186 #[.pointer (some ⟨tb,0,none⟩),a.val,.int .i64 start,.slice ao m c] w (Ae2 gb gs cap po ps bs j a start zs w):=by
 obtain ⟨W,hW⟩:=Ex (w.alloc a.obj);have aA:Below w.heap.size w W:=by rw [hW];exact Bn
 have aB:W.heap[w.heap.size]?=some a.obj:=by rw [hW];exact Af _ _
 have s:¬ Mg bs j a start zs->∀ w',Below w.heap.size w w'->Ae2 gb gs cap po ps bs j a start zs w (.returned (.bool false)) w':=fun h w' hb=>⟨false,ps,rfl,hP.below hb,gi.refl _ _,Mod.cg hb,.inl ⟨h,rfl,rfl⟩⟩;have aC:=Ae0 a W;rw [hW] at aC;replace ⟨hP,ht,hp,hz,y,aA,aB,aC⟩:=H8 hP ht hp hz y aA aB aC;replace ⟨hW,s⟩:=H2 hW s;go_enter Tryz.func186,Tryz.ntmps186;go_wp2_with fail;refine aC.out.mono ?_;rintro e w1 ⟨rfl,z⟩;rw [<- hW.out] at z;have k:=aA.out.trans (z.mono aA.out.size);have t:=Ae z aB.out (Ab aB.out);have ac:=ht.out.below k;have c2:=Aa ac.head 2;simp at c2;have lt:=Ab ac.head;obtain ⟨y0,y1,y2,y3,y4,y5,y6,y7,y8,y9⟩:=Oa t;have lx:=Ab t;replace ⟨z,k,t,ac⟩:=H4 z k t ac;cases g:a.can
 .have f:=s.out (fun h=>by have:=h.1;rw [g] at this;cases this) w1 k.out;replace ⟨g,f⟩:=H2 g f;go_wp2;go_ret;exact f.out
 by_cases q1:start<j
 .have d1:decide (start<j)=true:=by simpa using q1
  have f:=s.out (fun h=>by have:=h.2.1;omega) w1 k.out;replace ⟨g,f,q1⟩:=H3 g f q1;go_wp2;go_ret;exact f.out
 have d1:decide (start<j)=false:=by simpa using q1
 by_cases q2:1099511627776<start
 .have d2:decide (1099511627776<start)=true:=by simpa using q2
  have f:=s.out (fun h=>by have:=h.2.2.1;omega) w1 k.out;replace ⟨g,f,q1,q2⟩:=H4 g f q1 q2;go_wp2;go_ret;exact f.out
 have d2:decide (1099511627776<start)=false:=by simpa using q2
 have aD:=Aqs tb gb un uc uo bs j a ao m c zs w1 ac.out (hp.out.below k.out Ln) hu (hz.out.below k.out Ln);have aM:0<=start:=by omega
 have aK:start<=1099511627776:=by omega
 replace ⟨aD,q1,q2⟩:=H3 aD q1 q2;have ad:=Hh g;clear g;go_wp2_with fail;refine aD.out.mono ?_;rintro e w2 ⟨b,rfl,hb,u⟩;have i:=k.out.trans (u.mono k.out.size);have l:=Ae u t.out (Ab t.out);have n:=ht.out.below i;clear c2 lt y0 y1 y2 y3 y4 y5 y6 y7 y8 y9 lx
 cases b with
 | false=>
  have f:=s.out (fun h=>by have:=hb.2 h.2.2.2;cases this) w2 i;replace ⟨f,i,l,n,u⟩:=H5 f i l n u;clear hb;go_wp2;go_ret;exact f.out
 | true=>
  have al:=hb.1 rfl;clear hb
  have aE:∀ W',Below w2.heap.size w2 W'->Calls Tryz.prog 236 #[.pointer (some ⟨gb,0,none⟩),.slice ao m c,.int .i64 start,.int .i64 (Nc start a.aa),a.v.val] W' (Zl (Le ps zs start (Nc start a.aa) a.v) gb gs cap po ps W'):=
   fun W' h=>Zm gb gs cap po ps ao m c zs start (Nc start a.aa) a.v W' (hP.out.below (i.trans (h.mono i.size))) (hz.out.below (i.trans (h.mono i.size)) Ln) y.out aL
  have aF:-9223372036854775808<=a.aa:=by have:=ad.out;simp [Ask.can] at this;omega
  have aG:=fun W'=>Vw start a.aa W' aM aK aF;have c0:=Aa n.head 0;simp at c0;have lt:=Ab n.head;obtain ⟨y0,y1,y2,y3,y4,y5,y6,y7,y8,y9⟩:=Oa l;have lx:=Ab l;have aH:=Jp (hP.out.below i) n.head (by decide) (by decide);have p:=Jp (hP.out.below i) l (by decide) (by decide);have am:Below w2.heap.size w2 w2.drew:=(Below.refl _ _).drew;replace ⟨aH,p⟩:=H2 aH p;clear y0 y1 y2 y8 y9;replace ⟨al,i,l,n,u,aE,aG,am⟩:=H8 al i l n u aE aG am;replace aF:=Hh aF;go_wp2_with fail;go_region_held3 (fun w'=>w'.cell? ⟨tb,0,none⟩=some (.pointer (some ⟨gb,0,none⟩))/\w'.cell? ⟨w.heap.size,3,none⟩=some (.int .i64 a.v.a)/\w'.cell? ⟨w.heap.size,4,none⟩=some (.int .i64 a.v.b)/\w'.cell? ⟨w.heap.size,5,none⟩=some (.int .i64 a.v.c)/\w'.cell? ⟨w.heap.size,6,none⟩=some (.int .i64 a.v.d)/\w'.cell? ⟨w.heap.size,7,none⟩=some (.int .i64 a.aa))
   (first
     | (go_keep;done)
     | (refine ⟨(x.out tb lt aH.out _).trans c0,(x.out _ lx p.out _).trans y3,(x.out _ lx p.out _).trans y4,(x.out _ lx p.out _).trans y5,(x.out _ lx p.out _).trans y6,(x.out _ lx p.out _).trans y7⟩))
   (first
     | (go_at_call 239;refine (aG.out _).mono ?_
        rintro e w4 ⟨rfl,rfl⟩)
     | (go_at_call 236;refine (aE.out _ am.out).mono ?_;rintro e w5 ⟨r,aN,rfl,hT,aI,aJ,q⟩;have x:Hid (∀ b,b<w2.heap.size->¬ Bc ps b->∀ o,w5.cell? ⟨b,o,none⟩=w2.cell? ⟨b,o,none⟩):=fun b hb hn o=>Bp (a:=⟨b,o,none⟩) (w:=w2) (q.block b hb hn)
        replace ⟨hT,aI,aJ,q⟩:=H4 hT aI aJ q))
  have an:=(Mod.cg i.out).ik ((Mod.cg am.out).ik q.out);have ap:=aJ.out.back (A6 i.out.size am.out.size);have av:Mg bs j a start zs:=⟨ad.out,by have:=q1.out;omega,aK,al.out⟩;replace ⟨an,ap,av⟩:=H3 an ap av;go_wp2;go_ret;exact ⟨r == 0,aN,rfl,aI.out,ap.out,an.out,.inr ⟨av.out,r,hT.out,by simp⟩⟩
end Go.Proofs.YtimlcnhcjndijaaGreatDoor.Pl
namespace Go.Proofs.YtimlcnhcjndijaaGreatDoor.Pl
open Go.RowKit
def Qk (ps:List Nd) (bs:List Bool) (now:Int) (a:Ask) (st:Int) (so:Option Addr) (sn:Nat) (ps':List Nd) (w':World):Prop:=
 (a.can=false/\st=-1/\so=none/\sn=0/\ps'=ps) \/
 (a.can=true/\∃ t xs is,Fp ps (Bl (mr bs a.ft)) a.nodes a.v a.aa now t xs is/\(is=false->st=-1/\so=none/\sn=0/\ps'=ps) /\
   (is=true->st=t/\Ap w' so sn (Bl xs)/\∃ r,Le ps (Bl xs) t (t+a.aa) a.v r ps'))
def Ae3 (gb gs cap:Nat) (po:Option Addr) (ps:List Nd) (bs:List Bool) (now:Int) (a:Ask) (w:World) (e:Ending) (w':World):Prop:=
 ∃ st so sn sc ps',e=.returned (.agg #[.int .i64 a.id,.int .i64 st,.slice so sn sc])/\B4 w' gb gs po cap ps'/\gi w ps ps'/\Mod (Bc ps) w w'/\sn<=sc/\(∀ b off,so=some ⟨b,off,none⟩->w.heap.size<=b/\¬ Bc ps' b)/\Qk ps bs now a st so sn ps' w'
structure py (w:World) (a:Ask) (st:Int) (so:Option Addr) (sn sc:Nat) (wr:World):Prop where
 ask:wr.heap[w.heap.size]?=some a.obj
 r:wr.heap[w.heap.size+1]?=some (.cells #[.int .i64 0,.int .i64 0,.slice none 0 0] 224 (0,0))
 s:wr.heap[w.heap.size+1+1]?=some (.cells #[.int .i64 a.id,.int .i64 st,.slice so sn sc] 224 (0,0))
def py.below {w wr w':World} {a:Ask} {st:Int} {so:Option Addr} {c sc:Nat} (h:py w a st so c sc wr) (b:Below wr.heap.size wr w'):py w a st so c sc w':=⟨Ae b h.ask (Ab h.ask),Ae b h.r (Ab h.r),Ae b h.s (Ab h.s)⟩
def py.mod {w wr w':World} {a:Ask} {st:Int} {so:Option Addr} {f sc:Nat} {S:Nat->Prop} (h:py w a st so f sc wr) (d:Mod S wr w') (e:∀ b,S b->b<w.heap.size):py w a st so f sc w':=
 ⟨(d.block _ (Ab h.ask) (fun c=>by have:=e _ c;omega)).trans h.ask,(d.block _ (Ab h.r) (fun c=>by have:=e _ c;omega)).trans h.r,(d.block _ (Ab h.s) (fun c=>by have:=e _ c;omega)).trans h.s⟩
def Ap.setCell {w:World} {f:Option Addr} {n:Nat} {zs:List Int} (h:Ap w f n zs) (c:Addr) (v:Value) (j:∀ b d,f=some ⟨b,d,none⟩->b≠c.block):Ap (w.setCell c v) f n zs:=
 ⟨h.len,h.max,fun i k=>by
  obtain ⟨b,d,e,g,l⟩:=h.cell i k
  exact ⟨b,d,e,by simpa [World.setCell] using g,(Bp (a:=⟨b,d+i,none⟩) (w:=w) (Cd _ _ _ _ (j b d e))).trans l⟩⟩
def py.set {w wr:World} {a:Ask} {st c:Int} {so d:Option Addr} {j sc e f:Nat} (h:py w a st so j sc wr) :
  py w a c d e f ((wr.setCell ⟨w.heap.size+1+1,1,none⟩ (.int .i64 c)).setCell ⟨w.heap.size+1+1,2,none⟩ (.slice d e f)):=by
 have g:∀ b,b≠w.heap.size+1+1->((wr.setCell ⟨w.heap.size+1+1,1,none⟩ (.int .i64 c)).setCell ⟨w.heap.size+1+1,2,none⟩ (.slice d e f)).heap[b]?=wr.heap[b]?:=fun b i=>by
  rw [Cd _ _ _ _ i,Cd _ _ _ _ i]
 refine ⟨(g _ (by omega)).trans h.ask,(g _ (by omega)).trans h.r,?_⟩;exact Al (Al h.s 1 _) 2 _
def Ae4 (gb gs cap:Nat) (po:Option Addr) (ps:List Nd) (tb un uc:Nat) (uo:Option Addr) (bs:List Bool) (n:Int) (a:Ask) (w:World) (hP:B4 w gb gs po cap ps) (ht:qg w tb gb uo un uc bs n)
  (hp:Ap w a.po a.pn a.ft) (hu:un<=1000000) :
  Calls Tryz.prog 188 #[.pointer (some ⟨tb,0,none⟩),a.val] w (Ae3 gb gs cap po ps bs n a w):=by
 obtain ⟨W,hW⟩:=Ex (((w.alloc a.obj).alloc (.cells #[.int .i64 0,.int .i64 0,.slice none 0 0] 224 (0,0))).alloc (.cells #[.int .i64 a.id,.int .i64 (-1),.slice none 0 0] 224 (0,0)));have aO:Below w.heap.size w W:=by rw [hW];exact Aqn w _ _ _
 have aT:py w a (-1) none 0 0 W:=by rw [hW];exact ⟨Ai _ (Ai _ (Af _ _)),Ai _ (A2 _ _ (by simp)),A2 _ _ (by simp)⟩
 have aP:=Ae0 a W;rw [hW] at aP;have aE:∀ b,Bc ps b->b<w.heap.size:=fun b hb=>hP.j5 hb;replace ⟨hP,ht,hp,aO,aT,aP,hW,aE⟩:=H8 hP ht hp aO aT aP hW aE;go_enter Tryz.func188,Tryz.ntmps188;go_wp2_with fail;refine aP.out.mono ?_;rintro e w1 ⟨rfl,aF⟩;rw [<- hW.out] at aF;have ac:=aO.out.trans (aF.mono aO.out.size);have j:=aT.out.below aF;have aQ:=hP.out.below ac;have ap:=ht.out.below ac;have s0:=Aa j.s 0;have s1:=Aa j.s 1;have s2:=Aa j.s 2;have r0:=Aa j.r 0;have r1:=Aa j.r 1;have r2:=Aa j.r 2;have f0:=Ah j.r 0;have f1:=Ah j.r 1;have f2:=Ah j.r 2;simp at s0 s1 s2 r0 r1 r2;replace ⟨aF,ac,j,aQ,ap⟩:=H5 aF ac j aQ ap
 have aU:Hid (∀ (wr:World) (st:Int) (so:Option Addr) (sn sc:Nat) (p:List Nd),B4 wr gb gs po cap p->gi w ps p->Mod (Bc ps) w wr->wr.heap[w.heap.size+1]?=some (.cells #[.int .i64 0,.int .i64 0,.slice none 0 0] 224 (0,0))->sn<=sc->(∀ b f,so=some ⟨b,f,none⟩->w.heap.size<=b/\b≠w.heap.size+1/\¬ Bc p b)->Qk ps bs n a st so sn p wr ->
   Ae3 gb gs cap po ps bs n a w (.returned (.agg #[.int .i64 a.id,.int .i64 st,.slice so sn sc])) (((wr.setCell ⟨w.heap.size+1,0,none⟩ (.int .i64 a.id)).setCell ⟨w.heap.size+1,1,none⟩ (.int .i64 st)).setCell ⟨w.heap.size+1,2,none⟩ (.slice so sn sc))):=by
  intro wr st so sn sc p h1 h2 h3 h4 h5 h6 h7
  have av:∀ b,b≠w.heap.size+1->(((wr.setCell ⟨w.heap.size+1,0,none⟩ (.int .i64 a.id)).setCell ⟨w.heap.size+1,1,none⟩ (.int .i64 st)).setCell ⟨w.heap.size+1,2,none⟩ (.slice so sn sc)).heap[b]?=wr.heap[b]?:=fun b hb=>by
   rw [Cd _ _ _ _ hb,Cd _ _ _ _ hb,Cd _ _ _ _ hb]
  have hm:=Jp h1 h4 (by decide) (by decide)
  have ba:gb≠w.heap.size+1:=fun e=>by have:=h1.head;rw [e,h4] at this;simp at this
  refine ⟨st,so,sn,sc,p,rfl,⟨(av _ ba).trans h1.head,h1.addr,fun i hi=>?_,fun i hi=>?_,h1.inv,h1.apart,h1.own,h1.l6⟩,h2,⟨h3.os,h3.tape,h3.output,by simpa [World.setCell] using h3.size,fun b hb hS=>(av b (by omega)).trans (h3.block b hb hS)⟩,h5,fun b f e=>⟨(h6 b f e).1,(h6 b f e).2.2⟩,?_⟩
  .have h2:gs≠w.heap.size+1:=fun e=>by
    have:=h1.ptr i hi;rw [e,Aa h4 i] at this
    match i,this with
    | 0,h=>simp at h
    | 1,h=>simp at h
    | 2,h=>simp at h
    | i+3,h=>simp at h
   exact (Bp (a:=⟨gs,i,none⟩) (w:=wr) (av _ h2)).trans (h1.ptr i hi)
  .have hq:=h1.el i hi;exact ⟨(av _ (fun e=>hm ⟨i,hi,.inl e.symm⟩)).trans hq.head,hq.row.of_block (av _ (fun e=>hm ⟨i,hi,.inr e.symm⟩)),hq.ne⟩
  .rcases h7 with c | ⟨c,t,xs,is,d1,d2,d3⟩
   .exact .inl c
   .refine .inr ⟨c,t,xs,is,d1,d2,fun hi=>?_⟩;obtain ⟨e1,e2,e3⟩:=d3 hi;refine ⟨e1,⟨e2.len,e2.max,fun i hi=>?_⟩,e3⟩;obtain ⟨b,f,e,a7,hc⟩:=e2.cell i hi;exact ⟨b,f,e,by simpa [World.setCell] using a7,(Bp (a:=⟨b,f+i,none⟩) (w:=wr) (av b (h6 b f e).2.1)).trans hc⟩
 cases ad:a.can
 .replace ad:=Hh ad;go_wp2;refine Ao (v:=.agg #[.int .i64 a.id,.int .i64 (-1),.slice none 0 0]) (by simp [results,Tryz.results188,go_sem,r0,r1,r2]) rfl ?_;exact aU.out _ (-1) none 0 0 ps aQ.out (gi.refl _ _) (Mod.cg ac.out) j.out.r Ln (fun b f h=>by simp at h) (.inl ⟨ad.out,rfl,rfl,rfl,rfl⟩)
 have aG:=Hh ad;clear ad s0 s1 s2 r0 r1 r2 f0 f1 f2;have aV:=Ae1 tb gb un uc uo bs n a w1.drew (ap.out.below (Below.refl _ _).drew) (hp.out.below ac.out.drew Ln) hu;have c0:=Aa ap.out.head 0;have c2:=Aa ap.out.head 2;simp at c0 c2;have lt:=Ab ap.out.head;obtain ⟨y0,y1,y2,y3,y4,y5,y6,y7,y8,y9⟩:=Oa j.out.ask;have z:=Ab j.out.ask;have g:Below w1.heap.size w1 w1.drew:=(Below.refl _ _).drew
 have bb:Hid (∀ w':World,Below w1.heap.size w1 w'->w'.cell? ⟨tb,0,none⟩=some (.pointer (some ⟨gb,0,none⟩))/\w'.cell? ⟨tb,2,none⟩=some (.int .i64 n)/\w'.cell? ⟨w.heap.size,0,none⟩=some (.int .i64 a.id)/\w'.cell? ⟨w.heap.size,1,none⟩=some (.slice a.po a.pn a.pc)/\w'.cell? ⟨w.heap.size,2,none⟩=some (.int .i64 a.nodes)/\w'.cell? ⟨w.heap.size,3,none⟩=some (.int .i64 a.v.a)/\w'.cell? ⟨w.heap.size,4,none⟩=some (.int .i64 a.v.b)/\w'.cell? ⟨w.heap.size,5,none⟩=some (.int .i64 a.v.c)/\w'.cell? ⟨w.heap.size,6,none⟩=some (.int .i64 a.v.d)/\w'.cell? ⟨w.heap.size,7,none⟩=some (.int .i64 a.aa)/\w'.cell? ⟨w.heap.size,8,none⟩=some (.int .i64 a.start)/\w'.cell? ⟨w.heap.size,9,none⟩=some (.slice a.go a.gn a.gc)):=fun w' h=>
  ⟨(Ag h lt).trans c0,(Ag h lt).trans c2,(Ag h z).trans y0,(Ag h z).trans y1,(Ag h z).trans y2,(Ag h z).trans y3,(Ag h z).trans y4,(Ag h z).trans y5,(Ag h z).trans y6,(Ag h z).trans y7,(Ag h z).trans y8,(Ag h z).trans y9⟩
 have aW:=
  fun so sn sc W' h hz=>Aqe gb gs cap po ps so sn sc (Bl (mr bs a.ft)) a.nodes a.v a.aa n W' (aQ.out.below h) hz
 replace ⟨aV,g,aW⟩:=H3 aV g aW;go_wp2_with fail;go_region_held3 (fun w'=>w'.cell? ⟨tb,0,none⟩=some (.pointer (some ⟨gb,0,none⟩))/\w'.cell? ⟨tb,2,none⟩=some (.int .i64 n)/\w'.cell? ⟨w.heap.size,0,none⟩=some (.int .i64 a.id)/\w'.cell? ⟨w.heap.size,1,none⟩=some (.slice a.po a.pn a.pc)/\w'.cell? ⟨w.heap.size,2,none⟩=some (.int .i64 a.nodes)/\w'.cell? ⟨w.heap.size,3,none⟩=some (.int .i64 a.v.a)/\w'.cell? ⟨w.heap.size,4,none⟩=some (.int .i64 a.v.b)/\w'.cell? ⟨w.heap.size,5,none⟩=some (.int .i64 a.v.c)/\w'.cell? ⟨w.heap.size,6,none⟩=some (.int .i64 a.v.d)/\w'.cell? ⟨w.heap.size,7,none⟩=some (.int .i64 a.aa)/\w'.cell? ⟨w.heap.size,8,none⟩=some (.int .i64 a.start)/\w'.cell? ⟨w.heap.size,9,none⟩=some (.slice a.go a.gn a.gc))
  (first
    | with_reducible exact bb.out _ g.out)
  (first
    | (go_at_call 246;refine aV.out.mono ?_;rintro e w5 ⟨bk,bl,bn,rfl,aX,_,_,aY⟩;replace g:=Hh (g.out.trans (aY.mono g.out.size))
       replace ⟨aX,aY⟩:=H2 aX aY)
    | (go_at_call 245;refine (aW.out _ _ _ _ g.out aX.out).mono ?_;rintro e w6 ⟨t6,q,y,aH,aR,bc,rfl,aI,aZ,a8,a0,a1⟩;have a9:Hid (∀ b f,q=some ⟨b,f,none⟩->w1.heap.size<=b):=fun b f e=>A6 g.out.size (a0 b f e);replace g:=Hh (g.out.trans (a1.mono g.out.size))
       replace ⟨aI,aZ,a0,a1⟩:=H4 aI aZ a0 a1))
 have k:=j.out.below g.out;have aJ:=ac.out.trans (g.out.mono ac.out.size);have a2:=hP.out.below aJ;have s0:=Aa k.s 0;have s1:=Aa k.s 1;have s2:=Aa k.s 2;have bd:=Ah k.s 1;have be:=Ah k.s 2;have r0:=Aa k.r 0;have r1:=Aa k.r 1;have r2:=Aa k.r 2;have f0:=Ah k.r 0;have f1:=Ah k.r 1;have f2:=Ah k.r 2;simp at s0 s1 s2 r0 r1 r2;clear c0 c2 lt y0 y1 y2 y3 y4 y5 y6 y7 y8 y9 z;replace ⟨k,aJ,a2⟩:=H3 k aJ a2
 cases bc with
 | false=>
  have m:Qk ps bs n a (-1) none 0 ps w6:=.inr ⟨aG.out,t6,aR,false,aI.out,fun _=>⟨rfl,rfl,rfl,rfl⟩,fun h=>(by cases h)⟩;replace m:=Hh m;go_wp2;refine Ao (v:=.agg #[.int .i64 a.id,.int .i64 (-1),.slice none 0 0]) (by simp [results,Tryz.results188,go_sem,r0,r1,r2]) rfl ?_;exact aU.out _ (-1) none 0 0 ps a2.out (gi.refl _ _) (Mod.cg aJ.out) k.out.r Ln (fun b f h=>by simp at h) m.out
 | true=>
  have hF:=aI.out.found;have ew:IntKind.i64.wrap (t6+a.aa)=t6+a.aa:=Gt _ (by have:=hF.ge;have:=hF.fin;have:=hF.jq;omega);have u:=fun b f e=>Br (Ab j.out.s) (a9.out b f e);obtain ⟨W7,aA⟩:=Ex ((w6.setCell ⟨w.heap.size+1+1,1,none⟩ (.int .i64 t6)).setCell ⟨w.heap.size+1+1,2,none⟩ (.slice q y aH));have aB:Below w.heap.size w W7:=by rw [aA];exact (aJ.out.setCell (by show w.heap.size<=w.heap.size+1+1;omega) _).setCell (by show w.heap.size<=w.heap.size+1+1;omega) _
  have aC:py w a t6 q y aH W7:=by rw [aA];exact k.out.set
  have aD:Ap W7 q y (Bl aR):=by rw [aA];exact (aZ.out.setCell _ _ (fun b f e=>by have:=u b f e;show b≠w.heap.size+1+1;omega)).setCell _ _ (fun b f e=>by have:=u b f e;show b≠w.heap.size+1+1;omega)
  have aK:=ht.out.below aB;have aL:=hP.out.below aB
  have ao:0<y->tw q (Bc ps):=fun _ b f e hm=>by have:=u b f e;have:=aE.out b hm;omega
  have a3:=
   fun W' h=>Zm gb gs cap po ps q y aH (Bl aR) t6 (t6+a.aa) a.v W' (aL.below h) (aD.below h Ln) ao a8
  have c0:=Aa aK.head 0;simp at c0;have lt:=Ab aK.head;obtain ⟨y0,y1,y2,y3,y4,y5,y6,y7,y8,y9⟩:=Oa aC.ask;have z:=Ab aC.ask;have a4:=Jp aL aK.head (by decide) (by decide);have am:=Jp aL aC.ask (by decide) (by decide);have al:Below W7.heap.size W7 W7.drew:=(Below.refl _ _).drew;clear y0 y1 y2 y8 y9;replace ⟨hF,u,aB,aC,aD,aK,aL,ao⟩:=H8 hF u aB aC aD aK aL ao;replace ⟨a3,a4,am,al⟩:=H4 a3 a4 am al
  have bf:Hid (∀ w':World,(∀ b,b<W7.heap.size->¬ Bc ps b->∀ o,w'.cell? ⟨b,o,none⟩=W7.cell? ⟨b,o,none⟩)->w'.cell? ⟨tb,0,none⟩=some (.pointer (some ⟨gb,0,none⟩))/\w'.cell? ⟨w.heap.size,3,none⟩=some (.int .i64 a.v.a)/\w'.cell? ⟨w.heap.size,4,none⟩=some (.int .i64 a.v.b)/\w'.cell? ⟨w.heap.size,5,none⟩=some (.int .i64 a.v.c)/\w'.cell? ⟨w.heap.size,6,none⟩=some (.int .i64 a.v.d)/\w'.cell? ⟨w.heap.size,7,none⟩=some (.int .i64 a.aa)):=
   fun w' h=>⟨(h tb lt a4.out _).trans c0,(h _ z am.out _).trans y3,(h _ z am.out _).trans y4,(h _ z am.out _).trans y5,(h _ z am.out _).trans y6,(h _ z am.out _).trans y7⟩
  go_wp2_with fail;rw [<- aA];replace aA:=Hh aA;clear s0 s1 s2 bd be r0 r1 r2 f0 f1 f2;go_region_held3 (fun w'=>w'.cell? ⟨tb,0,none⟩=some (.pointer (some ⟨gb,0,none⟩))/\w'.cell? ⟨w.heap.size,3,none⟩=some (.int .i64 a.v.a)/\w'.cell? ⟨w.heap.size,4,none⟩=some (.int .i64 a.v.b)/\w'.cell? ⟨w.heap.size,5,none⟩=some (.int .i64 a.v.c)/\w'.cell? ⟨w.heap.size,6,none⟩=some (.int .i64 a.v.d)/\w'.cell? ⟨w.heap.size,7,none⟩=some (.int .i64 a.aa))
   (first
     | (go_keep;done)
     | with_reducible exact bf.out _ bg.out)
   (first
     | (go_at_call 236;refine (a3.out _ al.out).mono ?_;rintro e w8 ⟨r8,p,rfl,hT,a5,aS,x⟩;have bg:Hid (∀ b,b<W7.heap.size->¬ Bc ps b->∀ o,w8.cell? ⟨b,o,none⟩=W7.cell? ⟨b,o,none⟩):=fun b hb hn o=>Bp (a:=⟨b,o,none⟩) (w:=W7) (x.block b hb hn)
        replace ⟨hT,a5,aS,x⟩:=H4 hT a5 aS x))
  have l:=aC.out.mod ((Mod.cg al.out).ik x.out) aE.out;have aM:=(Mod.cg aB.out).ik ((Mod.cg al.out).ik x.out);have aN:=aS.out.back (A6 aB.out.size al.out.size);have a6:=aD.out.mod ((Mod.cg al.out).ik x.out) ao.out;have m:Qk ps bs n a t6 q y p w8:=.inr ⟨aG.out,t6,aR,true,aI.out,fun h=>(by cases h),fun _=>⟨rfl,a6,r8,hT.out⟩⟩
  have an:∀ b f,q=some ⟨b,f,none⟩->w.heap.size<=b/\b≠w.heap.size+1/\¬ Bc p b:=fun b f e=>by
   have h1:=u.out b f e;refine ⟨by omega,by omega,fun hm=>?_⟩;rcases aS.out.ek hm with c | c
   .have:=aE.out b c;omega
   .by_cases h0:0<y
    .obtain ⟨b',bi,e',a7,_⟩:=aD.out.cell 0 h0;rw [e] at e';cases e';have:=al.out.size;omega
    .have:=hF.out.len;have:=hF.out.many1;have:=aD.out.len;simp [Bl] at this;omega
  have s0:=Aa l.s 0;have s1:=Aa l.s 1;have s2:=Aa l.s 2;have r0:=Aa l.r 0;have r1:=Aa l.r 1;have r2:=Aa l.r 2;have f0:=Ah l.r 0;have f1:=Ah l.r 1;have f2:=Ah l.r 2;simp at s0 s1 s2 r0 r1 r2;clear c0 lt y3 y4 y5 y6 y7 z;replace ⟨l,aM,aN,a6,m,an⟩:=H6 l aM aN a6 m an;go_wp2;refine Ao (v:=.agg #[.int .i64 a.id,.int .i64 t6,.slice q y aH]) (by simp [results,Tryz.results188,go_sem,r0,r1,r2]) rfl ?_;exact aU.out _ t6 q y aH p a5.out aN.out aM.out l.out.r a8 an.out m.out
end Go.Proofs.YtimlcnhcjndijaaGreatDoor.Pl
