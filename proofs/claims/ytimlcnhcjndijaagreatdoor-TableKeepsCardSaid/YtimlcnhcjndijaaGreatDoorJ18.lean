/- Parts of a proof. No condition. -/
import Derived.Test.YtimlcnhcjndijaaGreatDoorJ17
import Derived.Lib.VarintMem
import Derived.Laws.CopyOwn
import Derived.Lib.VarintBits
import Derived.Test.YtimlcnhcjndijaaGreatDoorJ12
set_option linter.all false
set_option maxRecDepth 100000
set_option maxHeartbeats 6400000
namespace Go.Proofs.YtimlcnhcjndijaaGreatDoor
open Value renaming bool->Q,pointer->K,int->Z,slice->V,tuple->E,string->D
open Option renaming some->O,none->I
open IntKind renaming i64->G
open Ending renaming returned->Y
open Obj renaming cells->J
open Go renaming World->WD,Value->VL
open Go.RowKit renaming Below->BW
open Go.Proofs.Tryz
section
open Go.RowKit Go.Maps Go.Lib
variable{row:Array VL}{g i:Nat}{w w' wr:WD}
structure zw (W:WD) (q:Bool) (bv:VL) (wx:WD):Prop where
 b:bv=Q q
 w:W=wx
structure dm where
 kind:Int
 ai:Int
 tick:Int
 ag:Int
 seq:Int
 br:Int
 attempt:Int
 node:Int
 bq:Int
deriving DecidableEq
def dm.get (e:dm):Nat->Int
 | 0=>e.kind
 | 1=>e.ai
 | 2=>e.tick
 | 3=>e.ag
 | 4=>e.seq
 | 5=>e.br
 | 6=>e.attempt
 | 7=>e.node
 | 8=>e.bq
 | _=>0
def dm.set (e:dm) (v:Int):Nat->dm
 | 1=>{ e with ai:=v }
 | 2=>{ e with tick:=v }
 | 3=>{ e with ag:=v }
 | 4=>{ e with seq:=v }
 | 5=>{ e with br:=v }
 | 6=>{ e with attempt:=v }
 | 7=>{ e with node:=v }
 | 8=>{ e with bq:=v }
 | _=>e
abbrev jd:=Nat×Int×Int
def Uu:jd:=(1,1,1099511627776)
def M5:jd:=(2,0,1099511627775)
def Dq:jd:=(3,1,16)
def Dr:jd:=(4,1,1099511627776)
def Fu:jd:=(5,1,100)
def Uv:jd:=(6,1,6)
def F5:jd:=(7,0,15)
def Uw:jd:=(8,1,3)
def D8 (k:Int):Option (List jd):=
 if k=1 then O [Uu]else if k=2 then O [Dq,Dr]else if k=3\/k=4\/k=5 then O [Dq,Dr,Fu]else if k=6 then O [M5]
 else if k=7 then O [Fu,Uv,F5,Uw]else if k=8\/k=9 then O [F5,M5]else if k=10\/k=11 then O [Dq,Dr,F5]else I
def Sv (eb:Nat) (f:jd):List VL:=[K (O ⟨eb,f.1,I⟩),Z G f.2.1,Z G f.2.2]
def M7 (so:Option Addr) (n c:Nat) (w:WD):Calls prog 150 #[V so n c] w λe w'=>e=Y (E #[V so n c,Q true])/\w'=w:=by
 go_enter func150,ntmps150;go_wp2;go_ret2;exact⟨rfl,rfl⟩
def Ab1 (eb:Nat) (fs:List jd) (w:WD) (e:Ending) (w':WD):Prop:=
 ∃g,e=Y (E #[V (O ⟨g,0,I⟩) fs.length fs.length,Q true])/\w.heap.size<=g/\w'.heap[g]?=O (J (fs.flatMap (Sv eb)).toArray 183 (0,0))/\BW w.heap.size w w'
def Sw (k:Int) (eb:Nat) (w:WD) (e:Ending) (w':WD):Prop:=match D8 k with
 | some fs=>Ab1 eb fs w e w'
 | none=>e=Y (E #[V I 0 0,Q false])/\BW w.heap.size w w'
def M8 {k:Int} {a:Nat} {fs:List jd}  {e:Ending} (b:D8 k=O fs) (h:Ab1 a fs w e w'):Sw k a w e w':=by unfold Sw;rw[b];exact h
def Ar3 {k:Int} {a:Nat}  {e:Ending} (b:D8 k=I) (h:e=Y (E #[V I 0 0,Q false])/\BW w.heap.size w w'):Sw k a w e w':=by unfold Sw;rw[b];exact h
def Ar4 (w:WD) (a b c d e f g h:Obj):((((((((w.alloc a).alloc b).alloc c).alloc d).alloc e).alloc f).alloc g).alloc h).heap[w.heap.size]?=O a/\((((((((w.alloc a).alloc b).alloc c).alloc d).alloc e).alloc f).alloc g).alloc h).heap[w.heap.size+1]?=O b/\((((((((w.alloc a).alloc b).alloc c).alloc d).alloc e).alloc f).alloc g).alloc h).heap[w.heap.size+1+1]?=O c/\((((((((w.alloc a).alloc b).alloc c).alloc d).alloc e).alloc f).alloc g).alloc h).heap[w.heap.size+1+1+1]?=O d/\((((((((w.alloc a).alloc b).alloc c).alloc d).alloc e).alloc f).alloc g).alloc h).heap[w.heap.size+1+1+1+1]?=O e/\((((((((w.alloc a).alloc b).alloc c).alloc d).alloc e).alloc f).alloc g).alloc h).heap[w.heap.size+1+1+1+1+1]?=O f/\((((((((w.alloc a).alloc b).alloc c).alloc d).alloc e).alloc f).alloc g).alloc h).heap[w.heap.size+1+1+1+1+1+1]?=O g/\((((((((w.alloc a).alloc b).alloc c).alloc d).alloc e).alloc f).alloc g).alloc h).heap[w.heap.size+1+1+1+1+1+1+1]?=O h/\BW w.heap.size w ((((((((w.alloc a).alloc b).alloc c).alloc d).alloc e).alloc f).alloc g).alloc h):=by
 exact⟨Aj h (Aj g (Aj f (Aj e (Aj d (Aj c (Aj b (A6 w a as9))))))),Aj h (Aj g (Aj f (Aj e (Aj d (Aj c (A6 (w.alloc a) b as9)))))),Aj h (Aj g (Aj f (Aj e (Aj d (A6 ((w.alloc a).alloc b) c as9))))),Aj h (Aj g (Aj f (Aj e (A6 (((w.alloc a).alloc b).alloc c) d as9)))),Aj h (Aj g (Aj f (A6 ((((w.alloc a).alloc b).alloc c).alloc d) e as9))),Aj h (Aj g (A6 (((((w.alloc a).alloc b).alloc c).alloc d).alloc e) f as9)),Aj h (A6 ((((((w.alloc a).alloc b).alloc c).alloc d).alloc e).alloc f) g as9),A6 (((((((w.alloc a).alloc b).alloc c).alloc d).alloc e).alloc f).alloc g) h as9,((((((((Below.refl _ _).alloc (by simp;try omega) _).alloc (by simp;try omega) _).alloc (by simp;try omega) _).alloc (by simp;try omega) _).alloc (by simp;try omega) _).alloc (by simp;try omega) _).alloc (by simp;try omega) _).alloc (by simp;try omega) _⟩
def Ar5  {c:Nat} {k:Int} (h0:w.cell? ⟨c,0,I⟩=O (Z G k)):Calls prog 96 #[K (O ⟨c,0,I⟩)] w (Sw k c w):=by
 have ac:=T3 w _ h0;obtain⟨W,hW⟩:=Ex (((((((((w.alloc (J #[K (O ⟨c,1,I⟩),Z G 1,Z G 1099511627776] 183 (0,0))).alloc (J #[K (O ⟨c,2,I⟩),Z G 0,Z G 1099511627775] 183 (0,0))).alloc (J #[K (O ⟨c,3,I⟩),Z G 1,Z G 16] 183 (0,0))).alloc (J #[K (O ⟨c,4,I⟩),Z G 1,Z G 1099511627776] 183 (0,0))).alloc (J #[K (O ⟨c,5,I⟩),Z G 1,Z G 100] 183 (0,0))).alloc (J #[K (O ⟨c,6,I⟩),Z G 1,Z G 6] 183 (0,0))).alloc (J #[K (O ⟨c,7,I⟩),Z G 0,Z G 15] 183 (0,0))).alloc (J #[K (O ⟨c,8,I⟩),Z G 1,Z G 3] 183 (0,0))));obtain⟨s,t,u,v,x,y,z,b7,a⟩:=Ar4 w (J #[K (O ⟨c,1,I⟩),Z G 1,Z G 1099511627776] 183 (0,0)) (J #[K (O ⟨c,2,I⟩),Z G 0,Z G 1099511627775] 183 (0,0)) (J #[K (O ⟨c,3,I⟩),Z G 1,Z G 16] 183 (0,0)) (J #[K (O ⟨c,4,I⟩),Z G 1,Z G 1099511627776] 183 (0,0)) (J #[K (O ⟨c,5,I⟩),Z G 1,Z G 100] 183 (0,0)) (J #[K (O ⟨c,6,I⟩),Z G 1,Z G 6] 183 (0,0)) (J #[K (O ⟨c,7,I⟩),Z G 0,Z G 15] 183 (0,0)) (J #[K (O ⟨c,8,I⟩),Z G 1,Z G 3] 183 (0,0));rw[<-hW]at s t u v x y z b7 a;have y0:W.cell? ⟨c,0,I⟩=O (Z G k):=(Af a ac).trans h0;obtain⟨ad,al,am⟩:=C3 s;(try dsimp only at ad al am);obtain⟨an,ao,ap⟩:=C3 t;(try dsimp only at an ao ap);obtain⟨av,aA,aB⟩:=C3 u;(try dsimp only at av aA aB);obtain⟨aC,aD,aE⟩:=C3 v;(try dsimp only at aC aD aE);obtain⟨aF,aG,aH⟩:=C3 x;(try dsimp only at aF aG aH);obtain⟨aI,aJ,aK⟩:=C3 y;(try dsimp only at aI aJ aK);obtain⟨aL,aM,aN⟩:=C3 z;(try dsimp only at aL aM aN);obtain⟨aO,aP,aQ⟩:=C3 b7;(try dsimp only at aO aP aQ);have h:=Hh hW;clear hW s t u v x y z b7;replace⟨a,h0⟩:=H2 a h0;go_enter func96,ntmps96;go_upto_region 10 with fail;rw[<-h.out];clear h;by_cases i:k=1
 .subst i;have b:D8 1=O [Uu]:=rfl;replace b:=Hh b;go_wp2_with fail;refine(M7 _ _ _ _).mono ?_;rintro e d ⟨rfl,rfl⟩;go_wp2;go_ret2;exact M8 b.out ⟨_,rfl,a.size,Ah _ _,a.alloc a.size _⟩
 by_cases j:k=2
 .subst j;have b:D8 2=O [Dq,Dr]:=rfl;replace b:=Hh b;go_wp2_with fail;refine(M7 _ _ _ _).mono ?_;rintro e d ⟨rfl,rfl⟩;go_wp2;go_ret2;exact M8 b.out ⟨_,rfl,a.size,Ah _ _,a.alloc a.size _⟩
 by_cases n:k=3
 .subst n;have b:D8 3=O [Dq,Dr,Fu]:=rfl;replace b:=Hh b;go_wp2_with fail;refine(M7 _ _ _ _).mono ?_;rintro e d ⟨rfl,rfl⟩;go_wp2;go_ret2;exact M8 b.out ⟨_,rfl,a.size,Ah _ _,a.alloc a.size _⟩
 by_cases o:k=4
 .subst o;have b:D8 4=O [Dq,Dr,Fu]:=rfl;replace b:=Hh b;go_wp2_with fail;refine(M7 _ _ _ _).mono ?_;rintro e d ⟨rfl,rfl⟩;go_wp2;go_ret2;exact M8 b.out ⟨_,rfl,a.size,Ah _ _,a.alloc a.size _⟩
 by_cases p:k=5
 .subst p;have b:D8 5=O [Dq,Dr,Fu]:=rfl;replace b:=Hh b;go_wp2_with fail;refine(M7 _ _ _ _).mono ?_;rintro e d ⟨rfl,rfl⟩;go_wp2;go_ret2;exact M8 b.out ⟨_,rfl,a.size,Ah _ _,a.alloc a.size _⟩
 by_cases l:k=6
 .subst l;have b:D8 6=O [M5]:=rfl;replace b:=Hh b;go_wp2_with fail;refine(M7 _ _ _ _).mono ?_;rintro e d ⟨rfl,rfl⟩;go_wp2;go_ret2;exact M8 b.out ⟨_,rfl,a.size,Ah _ _,a.alloc a.size _⟩
 by_cases m:k=7
 .subst m;have b:D8 7=O [Fu,Uv,F5,Uw]:=rfl;replace b:=Hh b;go_wp2_with fail;refine(M7 _ _ _ _).mono ?_;rintro e d ⟨rfl,rfl⟩;go_wp2;go_ret2;exact M8 b.out ⟨_,rfl,a.size,Ah _ _,a.alloc a.size _⟩
 by_cases q:k=8
 .subst q;have b:D8 8=O [F5,M5]:=rfl;replace b:=Hh b;go_wp2_with fail;refine(M7 _ _ _ _).mono ?_;rintro e d ⟨rfl,rfl⟩;go_wp2;go_ret2;exact M8 b.out ⟨_,rfl,a.size,Ah _ _,a.alloc a.size _⟩
 by_cases r:k=9
 .subst r;have b:D8 9=O [F5,M5]:=rfl;replace b:=Hh b;go_wp2_with fail;refine(M7 _ _ _ _).mono ?_;rintro e d ⟨rfl,rfl⟩;go_wp2;go_ret2;exact M8 b.out ⟨_,rfl,a.size,Ah _ _,a.alloc a.size _⟩
 by_cases f:k=10
 .subst f;have b:D8 10=O [Dq,Dr,F5]:=rfl;replace b:=Hh b;go_wp2_with fail;refine(M7 _ _ _ _).mono ?_;rintro e d ⟨rfl,rfl⟩;go_wp2;go_ret2;exact M8 b.out ⟨_,rfl,a.size,Ah _ _,a.alloc a.size _⟩
 by_cases g:k=11
 .subst g;have b:D8 11=O [Dq,Dr,F5]:=rfl;replace b:=Hh b;go_wp2_with fail;refine(M7 _ _ _ _).mono ?_;rintro e d ⟨rfl,rfl⟩;go_wp2;go_ret2;exact M8 b.out ⟨_,rfl,a.size,Ah _ _,a.alloc a.size _⟩
 have b:D8 k=I:=by unfold D8;rw[Ac i,Ac j,Ac ao9,Ac l,Ac m,Ac ao9,Ac ao9]
 replace b:=Hh b;have d1:=Br.2 i;have d2:=Br.2 j;have d3:=Br.2 n;have d4:=Br.2 o;have d5:=Br.2 p;have d6:=Br.2 l;have d7:=Br.2 m;have d8:=Br.2 q;have d9:=Br.2 r;have aR:=Br.2 f;have aS:=Br.2 g;replace⟨i,j,n,o,p,l,m,q⟩:=H8 i j n o p l m q;replace⟨r,f,g⟩:=H3 r f g;go_wp2;go_ret2;exact Ar3 b.out ⟨rfl,a.out⟩
structure dy where
 n:dm
 specs:List du
structure de where
 n:dm
 so:Option Addr
 m:Nat
 c:Nat
 dj:List ay
def de.pl (x:de):dy:=⟨x.n,x.dj.map ay.pl⟩
abbrev de.cells (x:de):Array VL:=#[Z G x.n.kind,Z G x.n.ai,Z G x.n.tick,Z G x.n.ag,Z G x.n.seq,Z G x.n.br,Z G x.n.attempt,Z G x.n.node,Z G x.n.bq,V x.so x.m x.c]
abbrev de.val (x:de):VL:=.agg #[Z G x.n.kind,Z G x.n.ai,Z G x.n.tick,Z G x.n.ag,Z G x.n.seq,Z G x.n.br,Z G x.n.attempt,Z G x.n.node,Z G x.n.bq,V x.so x.m x.c]
structure de.ok (w:WD) (x:de):Prop where
 dj:Kv w x.so x.m x.dj
 lr:x.m<=x.c
 px:∀i,-9223372036854775808<=x.n.get i/\x.n.get i<=9223372036854775807
def de.ok.low  {x:de} (h:x.ok w) (a:BW w.heap.size w w'):x.ok w':=⟨h.dj.low a,h.lr,h.px⟩
structure Na (w:WD) (x:de) (wr:WD):Prop where
 low:BW w.heap.size w wr
 box:wr.heap[w.heap.size]?=O (J x.cells 40 (0,0))
def Na.below  {x:de} (h:Na w x wr) (a:BW wr.heap.size wr w'):Na w x w':=
 ⟨h.low.trans (a.mono h.low.size),Ae a h.box (Ab h.box)⟩
def Na.new (w:WD) (x:de):Na w x (w.alloc (J x.cells 40 (0,0))):=⟨Bn,Ah _ _⟩
def Na.ok  {x:de} (h:Na w x wr) (a:x.ok w):x.ok wr:=a.low h.low
def Asa (x:de)  (a:i<=8):x.cells[i]?=O (Z G (x.n.get i)):=by
 have:i=0\/i=1\/i=2\/i=3\/i=4\/i=5\/i=6\/i=7\/i=8:=ao9
 rcases this with rfl|rfl|rfl|rfl|rfl|rfl|rfl|rfl|rfl<;>rfl
def Asb (x:de)  (h1:1<=i) (a:i<=8) (v:Int):x.cells.setIfInBounds i (Z G v)=(⟨x.n.set v i,x.so,x.m,x.c,x.dj⟩:de).cells:=by
 have:i=1\/i=2\/i=3\/i=4\/i=5\/i=6\/i=7\/i=8:=ao9
 rcases this with rfl|rfl|rfl|rfl|rfl|rfl|rfl|rfl<;>simp[dm.set]
def Asc (e:dm) (v:Int) (i:Nat):(e.set v i).kind=e.kind:=by
 unfold dm.set
 split<;>rfl
def ju (e:dm) (f:jd):Bool:=decide (f.2.1<=e.get f.1) && decide (e.get f.1<=f.2.2)
def Gp:dm->List jd->Option dm
 | e,[]=>O e
 | e,f :: fs=>if ju e f=true then Gp (e.set 0 f.1) fs else I
def Mb (e:dm):Bool:=decide (e.ai=0) && decide (e.tick=0) && decide (e.ag=0) && decide (e.seq=0) && decide (e.br=0) && decide (e.attempt=0) && decide (e.node=0) && decide (e.bq=0)
def U0 (e:dy):Bool:=decide (e.n.kind=2) == decide (0<e.specs.length)
def Gq (e:dy):Bool:=match D8 e.n.kind with
 | none=>false
 | some fs=>match Gp e.n fs with
  | none=>false
  | some e'=>U0 e && decide (e.specs.length<=8) && e.specs.all El && Mb e'
def Sz (e:dy):Int:=if Gq e=true then 0 else 130
def Yl {e:dy} (h:Gq e=false):Sz e=130:=Ac (by rw[h];simp)
def Ahh {e:dy} (h:Gq e=true):Sz e=0:=Ad h
def Ahi {e:dy} (h:D8 e.n.kind=I):Gq e=false:=by unfold Gq;rw[h]
def Ahj {e:dy} {fs:List jd} (h:D8 e.n.kind=O fs) (a:Gp e.n fs=I):Gq e=false:=by unfold Gq;rw[h];simp only[a]
def Ahk {e:dy} {fs:List jd} {a:dm} (h:D8 e.n.kind=O fs) (b:Gp e.n fs=O a):Gq e=(U0 e && decide (e.specs.length<=8) && e.specs.all El && Mb a):=by unfold Gq;rw[h];simp only[b]
def Asd {k:Int} {fs:List jd} (h:D8 k=O fs):fs.length<=4/\∀f,f∈fs->1<=f.1/\f.1<=8/\0<=f.2.1/\f.2.1<=f.2.2/\f.2.2<=1099511627776:=by
 unfold D8 at h
 repeat (split at h;(cases h;exact⟨ad9,ad9⟩))
 cases h
def Ase {e:dm} {fs:List jd} {k:Nat} {f:jd} (b:fs[k]?=O f):Gp e (fs.drop k)=if ju e f=true then Gp (e.set 0 f.1) (fs.drop (k+1))else I:=by
 obtain⟨c,a⟩:=An.1 b;rw[Aag c,a,Gp]
def Asf  {g a:Nat} {fs:List jd} (h:w.heap[g]?=O (J (fs.flatMap (Sv a)).toArray 183 (0,0))) {k:Nat} {f:jd} (e:fs[k]?=O f) :
  w.cell? ⟨g,k*3,I⟩=O (K (O ⟨a,f.1,I⟩))/\w.cell? ⟨g,k*3+1,I⟩=O (Z G f.2.1)/\w.cell? ⟨g,k*3+2,I⟩=O (Z G f.2.2):=by
 have b:=λj i=>Gw (cells:=λf=>(Sv a f).toArray) (sz:=3) (λ_=>rfl) fs (j:=j) e i;have d:Aw (λf=>(Sv a f).toArray) fs=fs.flatMap (Sv a):=rfl;rw[d]at b;have h0:=b 0 ao9;have h1:=b 1 ao9;have c:=b 2 ao9;rw[Mo]at h0 h1 c;refine⟨?_,?_,?_⟩
 .rw [Aa h];exact(Mo ..).trans h0
 .rw [Aa h];exact(Mo ..).trans h1
 .rw [Aa h];exact(Mo ..).trans c
structure N3 (w:WD) (g:Nat) (row:Array VL) (x:de) (wr:WD):Prop where
 bx:Na w x wr
 row:wr.heap[g]?=O (J row 183 (0,0))
def N3.below    {x:de} (h:N3 w g row x wr) (a:BW wr.heap.size wr w'):N3 w g row x w':=
 ⟨h.bx.below a,Ae a h.row (Ab h.row)⟩
def N3.set    {x:de} (h:N3 w g row x wr) (b:g≠w.heap.size)  (h1:1<=i) (a:i<=8):N3 w g row ⟨x.n.set 0 i,x.so,x.m,x.c,x.dj⟩ (wr.setCell ⟨w.heap.size,i,I⟩ (Z G 0)):=
 ⟨⟨h.bx.low.setCell Ln _,by rw[<-Asb x h1 a];exact Ap h.bx.box i _⟩,Dn b _ h.row⟩
def Ahl (x:de) (w:WD) (hx:x.ok w):Calls prog 57 #[x.val] w λe w'=>e=Y (Z G (Sz x.pl))/\BW w.heap.size w w':=by
 have aB:=Na.new w x;have aU:(w.alloc (J x.cells 40 (0,0))).cell? ⟨w.heap.size,0,I⟩=O (Z G x.n.kind):=Aa aB.box 0;have hc:=Ar5 aU;unfold Sw at hc
 cases hf:D8 x.n.kind with
 | none=>
  rw[hf]at hc;have he:Sz x.pl=130:=Yl (Ahi hf);obtain⟨⟨r,ai,tick,ag,seq,br,attempt,node,bq⟩,so,m,c,dj⟩:=x;replace⟨aB,hc,hx,hf,he,aU⟩:=H6 aB hc hx hf he aU;go_enter func57,ntmps57;go_wp2_with fail;refine hc.mono ?_;rintro e w1 ⟨rfl,aD⟩;have a9:=aB.below aD;replace⟨a9,aD⟩:=H2 a9 aD;go_wp2;go_ret;exact⟨by rw[he.out];rfl,a9.low⟩
 | some fs=>
  rw[hf]at hc;obtain⟨bF,be⟩:=Asd hf;obtain⟨n,hn⟩:=Ex (fs.length);unfold Ab1 at hc;simp only[<-hn]at hc;rw[<-hn]at bF;have bS:=hx.dj.max;have aV:=hx.dj.len;obtain⟨so,m,c,dj,bC⟩:∃so m c dj,x=⟨x.n,so,m,c,dj⟩:=⟨x.so,x.m,x.c,x.dj,rfl⟩;obtain⟨E9q,hE⟩:=Ex (Sz x.pl);rw[<-hE];obtain⟨row,ak⟩:=Ex ((fs.flatMap (Sv w.heap.size)).toArray);rw[<-ak]at hc;have av:∀w1 g,BW (w.heap.size+1) (w.alloc (J x.cells 40 (0,0))) w1->w1.heap[g]?=O (J row 183 (0,0))->N3 w g row x w1:=λw1 g hb hr=>⟨aB.below (by simpa using hb),hr⟩;obtain⟨⟨r,ai,tick,ag,seq,br,attempt,node,bq⟩,aF,u,c',t⟩:=x;simp only[de.mk.injEq,true_and]at bC;obtain⟨rfl,rfl,rfl,rfl⟩:=bC;obtain⟨X,hX⟩:∃X:de,X=⟨⟨r,ai,tick,ag,seq,br,attempt,node,bq⟩,aF,u,c',t⟩:=⟨_,rfl⟩;obtain⟨N,hN⟩:∃N:dm,N=⟨r,ai,tick,ag,seq,br,attempt,node,bq⟩:=⟨_,rfl⟩;replace⟨aB,hc,hx,hf,be,hn,aU,hE⟩:=H8 aB hc hx hf be hn aU hE;replace⟨aV,ak,av,hX,hN⟩:=H5 aV ak av hX hN;go_enter func57,ntmps57;go_wp2_with fail;refine hc.mono ?_;rintro e w1 ⟨g,rfl,bw,bg,aD⟩
  have bf:g≠w.heap.size:=by
   have h1:(w.alloc (J (⟨⟨r,ai,tick,ag,seq,br,attempt,node,bq⟩,aF,u,c',t⟩:de).cells 40 (0,0))).heap.size=w.heap.size+1:=as9;omega
  have a3:=av w1 g (by simpa using aD) bg;rw[<-hX.out]at a3;replace⟨bw,bg,aD,a3,bf⟩:=H5 bw bg aD a3 bf;go_wp2;go_loopw [17,6] (λiv _ wr=>∃(k:Nat) (a:dm),iv=Z G k/\k<=n/\Hid (Gp N fs=Gp a (fs.drop k))/\Hid (a.kind=r)/\Hid (N3 w g row ⟨a,aF,u,c',t⟩ wr)) (λiv _ _=>n-(intOf iv).toNat)
  case atStart=>exact⟨0,N,rfl,As _,rfl,(by rw[hN.out]:N.kind=r),by rw[hN.out,<-hX.out];exact a3.out⟩
  case round=>
   obtain⟨k,a,rfl,hk,bb,bo,hW⟩:=hrel;by_cases bQ:k<n
   .have bB:(k:Int)<n:=ao9;have bK:(0:Int)<=(k:Int):=ao9;obtain⟨f,aS⟩:=Ge fs k (by have:=hn.out;omega);obtain⟨q1,q8,_⟩:=be f (Ai aS);obtain⟨i,lo,hi⟩:=f;have a4:=hW.row;rw[ak.out]at a4;obtain⟨z0,z1,z2⟩:=Asf a4 aS;simp only at z0 z1 z2 q1 q8;have a5:=Ase (e:=a) aS;have bl:=Aa hW.bx.box i;rw[Asa _ q8]at bl;obtain⟨v,hv⟩:=Ex (a.get i);have a7:wr.cell? ⟨w.heap.size,i,I⟩=O (Z G v):=(by rw[hv];exact bl);clear bl;have hr:ju a (i,lo,hi)=(decide (lo<=v) && decide (v<=hi)):=(by rw[hv];rfl);obtain⟨W6,ao⟩:=Ex (wr.alloc (J #[K (O ⟨w.heap.size,i,I⟩),Z G lo,Z G hi] 183 (0,0)));have ap:BW wr.heap.size wr W6:=(by rw[ao];exact Bn);have aE:W6.heap[wr.heap.size]?=O (J #[K (O ⟨w.heap.size,i,I⟩),Z G lo,Z G hi] 183 (0,0)):=(by rw[ao];exact Ah _ _);have aL:=hW.below ap;obtain⟨c0,c1,c2⟩:=C3 aE;(try dsimp only at c0 c1 c2);have c6:=(Af ap (Ab hW.bx.box)).trans a7;have bM:=Ag aL.bx.box i
    have aI:ju a (i,lo,hi)=false->E9q=130:=λhq=>by
     rw[hE.out];refine Yl (Ahj hf.out ?_);show Gp (⟨r,ai,tick,ag,seq,br,attempt,node,bq⟩:dm) fs=I;have h:=bb.out;rw[hN.out]at h;rw[h,a5,Ac (by rw[hq];simp)]
    have aH:=Hh ao;clear ao;replace⟨aS,a4,a5,ap,aE,aL,aI,hv⟩:=H8 aS a4 a5 ap aE aL aI hv;go_upto_region 7 with fail;rw[<-aH.out];clear z0 z1 z2 a7 aH;by_cases g1:v<lo
    .have d1:=Az g1;have d:=aI (by rw[hr,A2 ao9];rfl);replace⟨hr,d,g1⟩:=H3 hr d g1;go_wp2;go_quiet (fail);go_wp2;go_ret;exact⟨by rw[d.out];rfl,(aL.bx.low).trans (A4 _ _ _)⟩
    have d1:=A2 g1;by_cases g2:hi<v
    .have d2:=Az g2;have d:=aI (by rw[hr,Az ao9,A2 ao9];rfl);replace⟨hr,d,g1,g2⟩:=H4 hr d g1 g2;go_wp2;go_quiet (fail);go_wp2;go_ret;exact⟨by rw[d.out];rfl,(aL.bx.low).trans (A4 _ _ _)⟩
    have d2:=A2 g2;have bi:ju a (i,lo,hi)=true:=(by rw[hr,Az ao9,Az ao9];rfl);have aP:Gp N fs=Gp (a.set 0 i) (fs.drop (k+1)):=(by rw[bb.out,a5.out,Ad bi]);have aN:(a.set 0 i).kind=r:=(by rw[Asc,bo.out]);have aX:∀q,N3 w g row ⟨a.set 0 i,aF,u,c',t⟩ ((W6.drewN q).setCell ⟨w.heap.size,i,I⟩ (Z G 0)):=λq=>(aL.below (A4 _ _ _)).set bf.out q1 q8;replace⟨hr,bi,aP,aN,aX,g1,g2⟩:=H7 hr bi aP aN aX g1 g2;go_wp2;go_quiet (fail);go_wp2;go_roundw
    case rel=>exact⟨k+1,a.set 0 i,by go_num,ao9,aP.out,aN.out,aX _⟩
    case measure=>simp[intOf];omega
   .have bB:¬(k:Int)<n:=ao9;have bc:fs.drop k=[]:=List.drop_of_length_le (by have:=hn.out;omega);have aT:Gp ⟨r,ai,tick,ag,seq,br,attempt,node,bq⟩ fs=O a:=(by rw[<-hN.out,bb.out,bc];rfl);have bj:=Ahk (e:=(⟨⟨r,ai,tick,ag,seq,br,attempt,node,bq⟩,aF,u,c',t⟩:de).pl) hf.out aT;obtain⟨k2,e2,t2,aJ,s2,j2,a2,n2,h2⟩:=a;have bp:k2=r:=bo.out;subst bp;have aW:(t.map ay.pl).length=u:=(by rw[Ar,aV.out]);obtain⟨K9q,hK⟩:=Ex ((decide (k2=2) == decide (0<u)));obtain⟨L,hL⟩:=Ex (decide (u<=8));obtain⟨A,hA⟩:=Ex ((t.map ay.pl).all El);obtain⟨R,hR⟩:=Ex (Mb ⟨k2,e2,t2,aJ,s2,j2,a2,n2,h2⟩);have a1:E9q=if (K9q && L && A && R)=true then 0 else 130:=(by rw[hE.out];unfold Sz;rw[bj,hK,hL,hA,hR,<-aW];rfl);have y0:=Bk hW.bx.box 0 (Z G k2) rfl;have y9:=Bk hW.bx.box 9 (V aF u c') rfl;obtain⟨q,hq⟩:∃q,q = !(K9q && L):=⟨_,rfl⟩;replace⟨bc,aT,bj,aW,hK,hL,hA,hR⟩:=H8 bc aT bj aW hK hL hA hR;replace⟨a1,hq⟩:=H2 a1 hq;go_upto_region 11 with fail;go_cut [54]from 41 to 55 (λbv wx=>zw wr q bv wx)
    case first=>
     by_cases g1:k2=2
     .have d1:(k2 == (2:Int))=true:=(by rw[g1];rfl);by_cases g2:0<u
      .have d2:decide ((0:Int)<(u:Int))=true:=Az ao9;have aA:=Az g2;by_cases g3:8<u
       .have d3:decide ((8:Int)<(u:Int))=true:=Az ao9;have o:q=true:=(by rw[hq.out,hK.out,hL.out,Az g1,aA,A2 (by omega:¬u<=8)];rfl);replace⟨g1,g2,g3,o⟩:=H4 g1 g2 g3 o;go_wp2;go_meet;exact⟨by rw[o.out],rfl⟩
       .have d3:decide ((8:Int)<(u:Int))=false:=A2 ao9;have o:q=false:=(by rw[hq.out,hK.out,hL.out,Az g1,aA,Az (by omega:u<=8)];rfl);replace⟨g1,g2,g3,o⟩:=H4 g1 g2 g3 o;go_wp2;go_meet;exact⟨by rw[o.out],rfl⟩
      .have d2:decide ((0:Int)<(u:Int))=false:=A2 ao9;have aA:=A2 g2;have o:q=true:=(by rw[hq.out,hK.out,Az g1,aA];rfl);replace⟨g1,g2,o⟩:=H3 g1 g2 o;go_wp2;go_meet;exact⟨by rw[o.out],rfl⟩
     .have d1:=Br.2 g1;by_cases g2:0<u
      .have d2:decide ((0:Int)<(u:Int))=true:=Az ao9;have aA:=Az g2;have o:q=true:=(by rw[hq.out,hK.out,A2 g1,aA];rfl);replace⟨g1,g2,o⟩:=H3 g1 g2 o;go_wp2;go_meet;exact⟨by rw[o.out],rfl⟩
      .have d2:decide ((0:Int)<(u:Int))=false:=A2 ao9;have aA:=A2 g2;have d3:decide ((8:Int)<(u:Int))=false:=A2 ao9;have o:q=false:=(by rw[hq.out,hK.out,hL.out,A2 g1,aA,Az (by omega:u<=8)];rfl);replace⟨g1,g2,o⟩:=H3 g1 g2 o;go_wp2;go_meet;exact⟨by rw[o.out],rfl⟩
    case rest=>
    obtain⟨rfl,bG⟩:=hcut;subst bG
    cases q with
    | true=>
     have d:E9q=130:=by
      have h:=hq.out;rw[a1.out];revert h
      cases K9q<;>cases L<;>intro h<;>first|rfl|cases h
     replace d:=Hh d;clear hq;go_wp2;go_ret;exact⟨by rw[d.out];rfl,hW.bx.low⟩
    | false=>
    have aM:K9q=true/\L=true:=by
     have h:=hq.out;revert h
     cases K9q<;>cases L<;>intro h<;>first|exact⟨rfl,rfl⟩|cases h
    have aG:E9q=if (A && R)=true then 0 else 130:=(by rw[a1.out,aM.1,aM.2];rfl);have bR:u<=8:=(by have h:=hL.out;rw[aM.2]at h;exact Kk h.symm);clear hq;replace⟨aM,aG⟩:=H2 aM aG;go_wp2;go_loopw [58,8] (λiv _ wz=>∃k:Nat,iv=Z G k/\k<=u/\Hid (∀j s,j<k->t[j]?=O s->El s.pl=true)/\Hid (N3 w g row ⟨⟨k2,e2,t2,aJ,s2,j2,a2,n2,h2⟩,aF,u,c',t⟩ wz)) (λiv _ _=>u-(intOf iv).toNat)
    case atStart=>exact⟨0,rfl,As _,(λj s h=>absurd h (Nu j)),hW.out⟩
    case round=>
     rename WD=>wz
     obtain⟨j,rfl,hj,a6,hZ⟩:=hrel;by_cases bP:j<u
     .have bA:(j:Int)<u:=ao9;have bO:(0:Int)<=(j:Int):=ao9;obtain⟨s,hs⟩:=Ge t j (by rw[aV.out];omega);have bn:=hx.dj.low hZ.bx.low;obtain⟨b,y,rfl,bL,l,aY⟩:=bn.cell j s hs;obtain⟨⟨am,ad,nodes,⟨da,db,dc,dd⟩,an,al,array,ae,ac,after⟩,a0,sn,aZ⟩:=s;have z0:wz.cell? ⟨b,y+j*13,I⟩=O (D am):=l 0 ao9;have z1:wz.cell? ⟨b,y+j*13+1,I⟩=O (D ad):=l 1 ao9;have z2:wz.cell? ⟨b,y+j*13+2,I⟩=O (Z G nodes):=l 2 ao9;have z3:wz.cell? ⟨b,y+j*13+3,I⟩=O (Z G da):=l 3 ao9;have z4:wz.cell? ⟨b,y+j*13+4,I⟩=O (Z G db):=l 4 ao9;have z5:wz.cell? ⟨b,y+j*13+5,I⟩=O (Z G dc):=l 5 ao9;have z6:wz.cell? ⟨b,y+j*13+6,I⟩=O (Z G dd):=l 6 ao9;have z7:wz.cell? ⟨b,y+j*13+7,I⟩=O (Z G an):=l 7 ao9;have z8:wz.cell? ⟨b,y+j*13+8,I⟩=O (Z G al):=l 8 ao9;have z9:wz.cell? ⟨b,y+j*13+9,I⟩=O (Z G array):=l 9 ao9;have bH:wz.cell? ⟨b,y+j*13+10,I⟩=O (Z G ae):=l 10 ao9;have bI:wz.cell? ⟨b,y+j*13+11,I⟩=O (Q ac):=l 11 ao9;have bJ:wz.cell? ⟨b,y+j*13+12,I⟩=O (V a0 sn aZ):=l 12 ao9;obtain⟨W6,ao⟩:=Ex (wz.alloc (J (⟨⟨am,ad,nodes,⟨da,db,dc,dd⟩,an,al,array,ae,ac,after⟩,a0,sn,aZ⟩:ay).cells 33 (0,0)));have ap:BW wz.heap.size wz W6:=(by rw[ao];exact Bn);have aE:W6.heap[wz.heap.size]?=O (J (⟨⟨am,ad,nodes,⟨da,db,dc,dd⟩,an,al,array,ae,ac,after⟩,a0,sn,aZ⟩:ay).cells 33 (0,0)):=(by rw[ao];exact Ah _ _);obtain⟨x0,x1,x2,x3,x4,x5,x6,x7,x8,x9,bD,x11,x12⟩:=C13 aE;(try dsimp only at x0 x1 x2 x3 x4 x5 x6 x7 x8 x9 bD x11 x12);have ba:=hZ.below ap;have bs:=Yj ⟨⟨am,ad,nodes,⟨da,db,dc,dd⟩,an,al,array,ae,ac,after⟩,a0,sn,aZ⟩ W6 (aY.low ap);obtain⟨er,aR⟩:=Ex (O1 (⟨am,ad,nodes,⟨da,db,dc,dd⟩,an,al,array,ae,ac,after⟩:du))
      have aQ:Calls prog 97 #[(⟨⟨am,ad,nodes,⟨da,db,dc,dd⟩,an,al,array,ae,ac,after⟩,a0,sn,aZ⟩:ay).val] W6 λe w'=>e=Y (Z G er)/\BW W6.heap.size W6 w':=by rw[aR];exact bs
      clear bs;have aH:=Hh ao;clear ao;replace⟨hs,bn,l,aY,ap,aE,ba,aQ⟩:=H8 hs bn l aY ap aE ba aQ;replace aR:=Hh aR;go_upto_region 16 with fail;rw[<-aH.out];clear z0 z1 z2 z3 z4 z5 z6 z7 z8 z9 bH bI bJ;go_wp2_with fail;refine aQ.mono ?_;rintro e w7 ⟨rfl,aO⟩;have aK:=ba.below aO;clear x0 x1 x2 x3 x4 x5 x6 x7 x8 x9 bD x11 x12;by_cases gm:El (⟨am,ad,nodes,⟨da,db,dc,dd⟩,an,al,array,ae,ac,after⟩:du)=true
      .have bd:er=0:=(by rw[aR.out];exact Ad gm);subst bd;have d7:((0:Int) != (0:Int))=false:=rfl
       have aC:∀i s,i<j+1->t[i]?=O s->El s.pl=true:=λi s hi bk=>by
        by_cases c:i=j
        .subst c;rw[hs.out]at bk;rw[<-Kn bk];exact gm
        .exact a6.out i s ao9 bk
       replace⟨aO,aK,gm,aC⟩:=H4 aO aK gm aC;go_wp2;go_roundw
       case rel=>exact⟨j+1,by go_num,ao9,aC.out,aK.out⟩
       case measure=>simp[intOf];omega
      .have bd:er=80:=(by rw[aR.out];exact Ac gm);subst bd;have d7:((80:Int) != (0:Int))=true:=rfl
       have d:E9q=130:=by
        have bE:A=false:=(by rw[hA.out,Iu];intro c;rw[Qv]at c;exact gm (c _ (A5.2 ⟨_,Ai hs.out,rfl⟩)));rw[aG.out,bE];rfl
       replace⟨aO,aK,gm,d⟩:=H4 aO aK gm d;go_wp2;go_ret;exact⟨by rw[d.out];rfl,aK.bx.low⟩
     .have bA:¬(j:Int)<u:=ao9;have a8:A=true:=(by rw[hA.out,Qv];intro s hs;obtain⟨z,hz,rfl⟩:=A5.1 hs;obtain⟨i,hi⟩:=List.mem_iff_getElem?.1 hz;have bN:=(An.1 hi).1;exact a6.out i z (by have:=aV.out;omega) hi);have p:E9q=if R=true then 0 else 130:=(by rw[aG.out,a8];rfl);have y1:=Bk hZ.bx.box 1 (Z G e2) rfl;have y2:=Bk hZ.bx.box 2 (Z G t2) rfl;have y3:=Bk hZ.bx.box 3 (Z G aJ) rfl;have y4:=Bk hZ.bx.box 4 (Z G s2) rfl;have y5:=Bk hZ.bx.box 5 (Z G j2) rfl;have y6:=Bk hZ.bx.box 6 (Z G a2) rfl;have y7:=Bk hZ.bx.box 7 (Z G n2) rfl;have y8:=Bk hZ.bx.box 8 (Z G h2) rfl;replace⟨a8,p⟩:=H2 a8 p;clear y0 y9;by_cases u0:e2=0;rotate_left
      .have d0:(e2 != (0:Int))=true:=(by rw[Gh];exact u0);have d:E9q=130:=(by rw[p.out,Ac];rw[hR.out];unfold Mb;simp[u0]);replace⟨u0,d⟩:=H2 u0 d;go_wp2;go_ret;exact⟨by rw[d.out];rfl,hZ.bx.low⟩
      have d0:(e2 != (0:Int))=false:=(by rw[u0];rfl);by_cases u1:t2=0;rotate_left
      .have d1:(t2 != (0:Int))=true:=(by rw[Gh];exact u1);have d:E9q=130:=(by rw[p.out,Ac];rw[hR.out];unfold Mb;simp[u1]);replace⟨u0,u1,d⟩:=H3 u0 u1 d;go_wp2;go_ret;exact⟨by rw[d.out];rfl,hZ.bx.low⟩
      have d1:(t2 != (0:Int))=false:=(by rw[u1];rfl);by_cases u2:aJ=0;rotate_left
      .have d2:(aJ != (0:Int))=true:=(by rw[Gh];exact u2);have d:E9q=130:=(by rw[p.out,Ac];rw[hR.out];unfold Mb;simp[u2]);replace⟨u0,u1,u2,d⟩:=H4 u0 u1 u2 d;go_wp2;go_ret;exact⟨by rw[d.out];rfl,hZ.bx.low⟩
      have d2:(aJ != (0:Int))=false:=(by rw[u2];rfl);by_cases u3:s2=0;rotate_left
      .have d3:(s2 != (0:Int))=true:=(by rw[Gh];exact u3);have d:E9q=130:=(by rw[p.out,Ac];rw[hR.out];unfold Mb;simp[u3]);replace⟨u0,u1,u2,u3,d⟩:=H5 u0 u1 u2 u3 d;go_wp2;go_ret;exact⟨by rw[d.out];rfl,hZ.bx.low⟩
      have d3:(s2 != (0:Int))=false:=(by rw[u3];rfl);by_cases u4:j2=0;rotate_left
      .have d4:(j2 != (0:Int))=true:=(by rw[Gh];exact u4);have d:E9q=130:=(by rw[p.out,Ac];rw[hR.out];unfold Mb;simp[u4]);replace⟨u0,u1,u2,u3,u4,d⟩:=H6 u0 u1 u2 u3 u4 d;go_wp2;go_ret;exact⟨by rw[d.out];rfl,hZ.bx.low⟩
      have d4:(j2 != (0:Int))=false:=(by rw[u4];rfl);by_cases u5:a2=0;rotate_left
      .have d5:(a2 != (0:Int))=true:=(by rw[Gh];exact u5);have d:E9q=130:=(by rw[p.out,Ac];rw[hR.out];unfold Mb;simp[u5]);replace⟨u0,u1,u2,u3,u4,u5,d⟩:=H7 u0 u1 u2 u3 u4 u5 d;go_wp2;go_ret;exact⟨by rw[d.out];rfl,hZ.bx.low⟩
      have d5:(a2 != (0:Int))=false:=(by rw[u5];rfl);by_cases u6:n2=0;rotate_left
      .have d6:(n2 != (0:Int))=true:=(by rw[Gh];exact u6);have d:E9q=130:=(by rw[p.out,Ac];rw[hR.out];unfold Mb;simp[u6]);replace⟨u0,u1,u2,u3,u4,u5,u6,d⟩:=H8 u0 u1 u2 u3 u4 u5 u6 d;go_wp2;go_ret;exact⟨by rw[d.out];rfl,hZ.bx.low⟩
      have d6:(n2 != (0:Int))=false:=(by rw[u6];rfl);by_cases u7:h2=0;rotate_left
      .have d7:(h2 != (0:Int))=true:=(by rw[Gh];exact u7);have d:E9q=130:=(by rw[p.out,Ac];rw[hR.out];unfold Mb;simp[u7]);replace⟨u0,u1,u2,u3,u4,u5,u6,u7⟩:=H8 u0 u1 u2 u3 u4 u5 u6 u7;replace d:=Hh d;go_wp2;go_ret;exact⟨by rw[d.out];rfl,hZ.bx.low⟩
      have d7:(h2 != (0:Int))=false:=(by rw[u7];rfl);have d:E9q=0:=(by rw[p.out,Ad];rw[hR.out];unfold Mb;simp[u0,u1,u2,u3,u4,u5,u6,u7]);replace⟨u0,u1,u2,u3,u4,u5,u6,u7⟩:=H8 u0 u1 u2 u3 u4 u5 u6 u7;replace d:=Hh d;go_wp2;go_ret;exact⟨by rw[d.out];rfl,hZ.bx.low⟩
def B6 (k:Int):Bool:=Ek k 2 5 || decide (k=10) || decide (k=11)
