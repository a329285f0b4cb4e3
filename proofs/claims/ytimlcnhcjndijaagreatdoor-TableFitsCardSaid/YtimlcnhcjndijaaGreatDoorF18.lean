/- Parts of a proof. No condition. -/
import Derived.Test.YtimlcnhcjndijaaGreatDoorF17
import Derived.Lib.VarintMem
import Derived.Laws.CopyOwn
import Derived.Lib.VarintBits
import Derived.Test.YtimlcnhcjndijaaGreatDoorF12
set_option linter.all false
set_option maxRecDepth 100000
set_option maxHeartbeats 6400000
namespace Go.Proofs.YtimlcnhcjndijaaGreatDoor
open Go renaming World->WD,Value->VL
open Go.RowKit renaming Below->BW
open Go.Proofs.Tryz
section
open Go.RowKit Go.Maps Go.Lib
variable{row:Array VL}{g i:Nat}{w w' wr:WD}
structure yi (W:WD) (q:Bool) (bv:VL) (wx:WD):Prop where
 b:bv=.bool q
 w:W=wx
structure cu where
 kind:Int
 ah:Int
 tick:Int
 ag:Int
 seq:Int
 br:Int
 attempt:Int
 node:Int
 bm:Int
deriving DecidableEq
def cu.get (e:cu):Nat->Int
 | 0=>e.kind
 | 1=>e.ah
 | 2=>e.tick
 | 3=>e.ag
 | 4=>e.seq
 | 5=>e.br
 | 6=>e.attempt
 | 7=>e.node
 | 8=>e.bm
 | _=>0
def cu.set (e:cu) (v:Int):Nat->cu
 | 1=>{ e with ah:=v }
 | 2=>{ e with tick:=v }
 | 3=>{ e with ag:=v }
 | 4=>{ e with seq:=v }
 | 5=>{ e with br:=v }
 | 6=>{ e with attempt:=v }
 | 7=>{ e with node:=v }
 | 8=>{ e with bm:=v }
 | _=>e
abbrev gy:=Nat×Int×Int
def Tp:gy:=(1,1,1099511627776)
def L7:gy:=(2,0,1099511627775)
def C2:gy:=(3,1,16)
def C4:gy:=(4,1,1099511627776)
def E3:gy:=(5,1,100)
def Tq:gy:=(6,1,6)
def Fe:gy:=(7,0,15)
def Tr:gy:=(8,1,3)
def Ds (k:Int):Option (List gy):=
 if k=1 then some [Tp] else if k=2 then some [C2,C4] else if k=3\/k=4\/k=5 then some [C2,C4,E3] else if k=6 then some [L7]
 else if k=7 then some [E3,Tq,Fe,Tr] else if k=8\/k=9 then some [Fe,L7] else if k=10\/k=11 then some [C2,C4,Fe] else none
def R1 (eb:Nat) (f:gy):List VL:=[.pointer (some ⟨eb,f.1,none⟩),.int .i64 f.2.1,.int .i64 f.2.2]
def L8 (so:Option Addr) (n c:Nat) (w:WD):Calls prog 150 #[.slice so n c] w fun e w'=>e=.returned (.tuple #[.slice so n c,.bool true])/\w'=w:=by
 go_enter func150,ntmps150;go_wp2;go_ret2;exact ⟨rfl,rfl⟩
def Z8 (eb:Nat) (fs:List gy) (w:WD) (e:Ending) (w':WD):Prop:=
 ∃ g,e=.returned (.tuple #[.slice (some ⟨g,0,none⟩) fs.length fs.length,.bool true])/\w.heap.size<=g/\w'.heap[g]?=some (.cells (fs.flatMap (R1 eb)).toArray 183 (0,0))/\BW w.heap.size w w'
def R2 (k:Int) (eb:Nat) (w:WD) (e:Ending) (w':WD):Prop:=match Ds k with
 | some fs=>Z8 eb fs w e w'
 | none=>e=.returned (.tuple #[.slice none 0 0,.bool false])/\BW w.heap.size w w'
def L9 {k:Int} {a:Nat} {fs:List gy}  {e:Ending} (b:Ds k=some fs) (h:Z8 a fs w e w'):R2 k a w e w':=by unfold R2;rw [b];exact h
def Aor {k:Int} {a:Nat}  {e:Ending} (b:Ds k=none) (h:e=.returned (.tuple #[.slice none 0 0,.bool false])/\BW w.heap.size w w'):R2 k a w e w':=by unfold R2;rw [b];exact h
def Aos (w:WD) (a b c d e f g h:Obj):((((((((w.alloc a).alloc b).alloc c).alloc d).alloc e).alloc f).alloc g).alloc h).heap[w.heap.size]?=some a/\((((((((w.alloc a).alloc b).alloc c).alloc d).alloc e).alloc f).alloc g).alloc h).heap[w.heap.size+1]?=some b/\((((((((w.alloc a).alloc b).alloc c).alloc d).alloc e).alloc f).alloc g).alloc h).heap[w.heap.size+1+1]?=some c/\((((((((w.alloc a).alloc b).alloc c).alloc d).alloc e).alloc f).alloc g).alloc h).heap[w.heap.size+1+1+1]?=some d/\((((((((w.alloc a).alloc b).alloc c).alloc d).alloc e).alloc f).alloc g).alloc h).heap[w.heap.size+1+1+1+1]?=some e/\((((((((w.alloc a).alloc b).alloc c).alloc d).alloc e).alloc f).alloc g).alloc h).heap[w.heap.size+1+1+1+1+1]?=some f/\((((((((w.alloc a).alloc b).alloc c).alloc d).alloc e).alloc f).alloc g).alloc h).heap[w.heap.size+1+1+1+1+1+1]?=some g/\((((((((w.alloc a).alloc b).alloc c).alloc d).alloc e).alloc f).alloc g).alloc h).heap[w.heap.size+1+1+1+1+1+1+1]?=some h/\BW w.heap.size w ((((((((w.alloc a).alloc b).alloc c).alloc d).alloc e).alloc f).alloc g).alloc h):=by
 exact ⟨Aj h (Aj g (Aj f (Aj e (Aj d (Aj c (Aj b (A3 w a (by simp)))))))),Aj h (Aj g (Aj f (Aj e (Aj d (Aj c (A3 (w.alloc a) b (by simp))))))),Aj h (Aj g (Aj f (Aj e (Aj d (A3 ((w.alloc a).alloc b) c (by simp)))))),Aj h (Aj g (Aj f (Aj e (A3 (((w.alloc a).alloc b).alloc c) d (by simp))))),Aj h (Aj g (Aj f (A3 ((((w.alloc a).alloc b).alloc c).alloc d) e (by simp)))),Aj h (Aj g (A3 (((((w.alloc a).alloc b).alloc c).alloc d).alloc e) f (by simp))),Aj h (A3 ((((((w.alloc a).alloc b).alloc c).alloc d).alloc e).alloc f) g (by simp)),A3 (((((((w.alloc a).alloc b).alloc c).alloc d).alloc e).alloc f).alloc g) h (by simp),((((((((Below.refl _ _).alloc (by simp;try omega) _).alloc (by simp;try omega) _).alloc (by simp;try omega) _).alloc (by simp;try omega) _).alloc (by simp;try omega) _).alloc (by simp;try omega) _).alloc (by simp;try omega) _).alloc (by simp;try omega) _⟩
def Aot  {c:Nat} {k:Int} (h0:w.cell? ⟨c,0,none⟩=some (.int .i64 k)):Calls prog 96 #[.pointer (some ⟨c,0,none⟩)] w (R2 k c w):=by
 have ac:=S6 w _ h0;obtain ⟨W,hW⟩:=Ex (((((((((w.alloc (.cells #[.pointer (some ⟨c,1,none⟩),.int .i64 1,.int .i64 1099511627776] 183 (0,0))).alloc (.cells #[.pointer (some ⟨c,2,none⟩),.int .i64 0,.int .i64 1099511627775] 183 (0,0))).alloc (.cells #[.pointer (some ⟨c,3,none⟩),.int .i64 1,.int .i64 16] 183 (0,0))).alloc (.cells #[.pointer (some ⟨c,4,none⟩),.int .i64 1,.int .i64 1099511627776] 183 (0,0))).alloc (.cells #[.pointer (some ⟨c,5,none⟩),.int .i64 1,.int .i64 100] 183 (0,0))).alloc (.cells #[.pointer (some ⟨c,6,none⟩),.int .i64 1,.int .i64 6] 183 (0,0))).alloc (.cells #[.pointer (some ⟨c,7,none⟩),.int .i64 0,.int .i64 15] 183 (0,0))).alloc (.cells #[.pointer (some ⟨c,8,none⟩),.int .i64 1,.int .i64 3] 183 (0,0))));obtain ⟨s,t,u,v,x,y,z,b7,a⟩:=Aos w (.cells #[.pointer (some ⟨c,1,none⟩),.int .i64 1,.int .i64 1099511627776] 183 (0,0)) (.cells #[.pointer (some ⟨c,2,none⟩),.int .i64 0,.int .i64 1099511627775] 183 (0,0)) (.cells #[.pointer (some ⟨c,3,none⟩),.int .i64 1,.int .i64 16] 183 (0,0)) (.cells #[.pointer (some ⟨c,4,none⟩),.int .i64 1,.int .i64 1099511627776] 183 (0,0)) (.cells #[.pointer (some ⟨c,5,none⟩),.int .i64 1,.int .i64 100] 183 (0,0)) (.cells #[.pointer (some ⟨c,6,none⟩),.int .i64 1,.int .i64 6] 183 (0,0)) (.cells #[.pointer (some ⟨c,7,none⟩),.int .i64 0,.int .i64 15] 183 (0,0)) (.cells #[.pointer (some ⟨c,8,none⟩),.int .i64 1,.int .i64 3] 183 (0,0));rw [<- hW] at s t u v x y z b7 a;have y0:W.cell? ⟨c,0,none⟩=some (.int .i64 k):=(Ag a ac).trans h0;obtain ⟨ad,al,am⟩:=C3 s;(try dsimp only at ad al am);obtain ⟨an,ao,ap⟩:=C3 t;(try dsimp only at an ao ap);obtain ⟨av,aA,aB⟩:=C3 u;(try dsimp only at av aA aB);obtain ⟨aC,aD,aE⟩:=C3 v;(try dsimp only at aC aD aE);obtain ⟨aF,aG,aH⟩:=C3 x;(try dsimp only at aF aG aH);obtain ⟨aI,aJ,aK⟩:=C3 y;(try dsimp only at aI aJ aK);obtain ⟨aL,aM,aN⟩:=C3 z;(try dsimp only at aL aM aN);obtain ⟨aO,aP,aQ⟩:=C3 b7;(try dsimp only at aO aP aQ);have h:=Hh hW;clear hW s t u v x y z b7;replace ⟨a,h0⟩:=H2 a h0;go_enter func96,ntmps96;go_upto_region 10 with fail;rw [<- h.out];clear h;by_cases i:k=1
 .subst i;have b:Ds 1=some [Tp]:=rfl;replace b:=Hh b;go_wp2_with fail;refine (L8 _ _ _ _).mono ?_;rintro e d ⟨rfl,rfl⟩;go_wp2;go_ret2;exact L9 b.out ⟨_,rfl,a.size,Ah _ _,a.alloc a.size _⟩
 by_cases j:k=2
 .subst j;have b:Ds 2=some [C2,C4]:=rfl;replace b:=Hh b;go_wp2_with fail;refine (L8 _ _ _ _).mono ?_;rintro e d ⟨rfl,rfl⟩;go_wp2;go_ret2;exact L9 b.out ⟨_,rfl,a.size,Ah _ _,a.alloc a.size _⟩
 by_cases n:k=3
 .subst n;have b:Ds 3=some [C2,C4,E3]:=rfl;replace b:=Hh b;go_wp2_with fail;refine (L8 _ _ _ _).mono ?_;rintro e d ⟨rfl,rfl⟩;go_wp2;go_ret2;exact L9 b.out ⟨_,rfl,a.size,Ah _ _,a.alloc a.size _⟩
 by_cases o:k=4
 .subst o;have b:Ds 4=some [C2,C4,E3]:=rfl;replace b:=Hh b;go_wp2_with fail;refine (L8 _ _ _ _).mono ?_;rintro e d ⟨rfl,rfl⟩;go_wp2;go_ret2;exact L9 b.out ⟨_,rfl,a.size,Ah _ _,a.alloc a.size _⟩
 by_cases p:k=5
 .subst p;have b:Ds 5=some [C2,C4,E3]:=rfl;replace b:=Hh b;go_wp2_with fail;refine (L8 _ _ _ _).mono ?_;rintro e d ⟨rfl,rfl⟩;go_wp2;go_ret2;exact L9 b.out ⟨_,rfl,a.size,Ah _ _,a.alloc a.size _⟩
 by_cases l:k=6
 .subst l;have b:Ds 6=some [L7]:=rfl;replace b:=Hh b;go_wp2_with fail;refine (L8 _ _ _ _).mono ?_;rintro e d ⟨rfl,rfl⟩;go_wp2;go_ret2;exact L9 b.out ⟨_,rfl,a.size,Ah _ _,a.alloc a.size _⟩
 by_cases m:k=7
 .subst m;have b:Ds 7=some [E3,Tq,Fe,Tr]:=rfl;replace b:=Hh b;go_wp2_with fail;refine (L8 _ _ _ _).mono ?_;rintro e d ⟨rfl,rfl⟩;go_wp2;go_ret2;exact L9 b.out ⟨_,rfl,a.size,Ah _ _,a.alloc a.size _⟩
 by_cases q:k=8
 .subst q;have b:Ds 8=some [Fe,L7]:=rfl;replace b:=Hh b;go_wp2_with fail;refine (L8 _ _ _ _).mono ?_;rintro e d ⟨rfl,rfl⟩;go_wp2;go_ret2;exact L9 b.out ⟨_,rfl,a.size,Ah _ _,a.alloc a.size _⟩
 by_cases r:k=9
 .subst r;have b:Ds 9=some [Fe,L7]:=rfl;replace b:=Hh b;go_wp2_with fail;refine (L8 _ _ _ _).mono ?_;rintro e d ⟨rfl,rfl⟩;go_wp2;go_ret2;exact L9 b.out ⟨_,rfl,a.size,Ah _ _,a.alloc a.size _⟩
 by_cases f:k=10
 .subst f;have b:Ds 10=some [C2,C4,Fe]:=rfl;replace b:=Hh b;go_wp2_with fail;refine (L8 _ _ _ _).mono ?_;rintro e d ⟨rfl,rfl⟩;go_wp2;go_ret2;exact L9 b.out ⟨_,rfl,a.size,Ah _ _,a.alloc a.size _⟩
 by_cases g:k=11
 .subst g;have b:Ds 11=some [C2,C4,Fe]:=rfl;replace b:=Hh b;go_wp2_with fail;refine (L8 _ _ _ _).mono ?_;rintro e d ⟨rfl,rfl⟩;go_wp2;go_ret2;exact L9 b.out ⟨_,rfl,a.size,Ah _ _,a.alloc a.size _⟩
 have b:Ds k=none:=by unfold Ds;rw [Ac i,Ac j,Ac (by omega),Ac l,Ac m,Ac (by omega),Ac (by omega)]
 replace b:=Hh b;have d1:=Bl.2 i;have d2:=Bl.2 j;have d3:=Bl.2 n;have d4:=Bl.2 o;have d5:=Bl.2 p;have d6:=Bl.2 l;have d7:=Bl.2 m;have d8:=Bl.2 q;have d9:=Bl.2 r;have aR:=Bl.2 f;have aS:=Bl.2 g;replace ⟨i,j,n,o,p,l,m,q⟩:=H8 i j n o p l m q;replace ⟨r,f,g⟩:=H3 r f g;go_wp2;go_ret2;exact Aor b.out ⟨rfl,a.out⟩
structure ee where
 n:cu
 specs:List dn
structure cz where
 n:cu
 so:Option Addr
 m:Nat
 c:Nat
 de:List ay
def cz.pl (x:cz):ee:=⟨x.n,x.de.map ay.pl⟩
abbrev cz.cells (x:cz):Array VL:=#[.int .i64 x.n.kind,.int .i64 x.n.ah,.int .i64 x.n.tick,.int .i64 x.n.ag,.int .i64 x.n.seq,.int .i64 x.n.br,.int .i64 x.n.attempt,.int .i64 x.n.node,.int .i64 x.n.bm,.slice x.so x.m x.c]
abbrev cz.val (x:cz):VL:=.agg #[.int .i64 x.n.kind,.int .i64 x.n.ah,.int .i64 x.n.tick,.int .i64 x.n.ag,.int .i64 x.n.seq,.int .i64 x.n.br,.int .i64 x.n.attempt,.int .i64 x.n.node,.int .i64 x.n.bm,.slice x.so x.m x.c]
structure cz.ok (w:WD) (x:cz):Prop where
 de:Jw w x.so x.m x.de
 lg:x.m<=x.c
 vj:∀ i,-9223372036854775808<=x.n.get i/\x.n.get i<=9223372036854775807
def cz.ok.low  {x:cz} (h:x.ok w) (a:BW w.heap.size w w'):x.ok w':=⟨h.de.low a,h.lg,h.vj⟩
structure Mb (w:WD) (x:cz) (wr:WD):Prop where
 low:BW w.heap.size w wr
 box:wr.heap[w.heap.size]?=some (.cells x.cells 40 (0,0))
def Mb.below  {x:cz} (h:Mb w x wr) (a:BW wr.heap.size wr w'):Mb w x w':=
 ⟨h.low.trans (a.mono h.low.size),Ae a h.box (Ab h.box)⟩
def Mb.new (w:WD) (x:cz):Mb w x (w.alloc (.cells x.cells 40 (0,0))):=⟨Bn,Ah _ _⟩
def Mb.ok  {x:cz} (h:Mb w x wr) (a:x.ok w):x.ok wr:=a.low h.low
def Aov (x:cz)  (a:i<=8):x.cells[i]?=some (.int .i64 (x.n.get i)):=by
 have:i=0\/i=1\/i=2\/i=3\/i=4\/i=5\/i=6\/i=7\/i=8:=by omega
 rcases this with rfl | rfl | rfl | rfl | rfl | rfl | rfl | rfl | rfl<;>rfl
def Aow (x:cz)  (h1:1<=i) (a:i<=8) (v:Int):x.cells.setIfInBounds i (.int .i64 v)=(⟨x.n.set v i,x.so,x.m,x.c,x.de⟩:cz).cells:=by
 have:i=1\/i=2\/i=3\/i=4\/i=5\/i=6\/i=7\/i=8:=by omega
 rcases this with rfl | rfl | rfl | rfl | rfl | rfl | rfl | rfl<;>simp [cu.set]
def Aox (e:cu) (v:Int) (i:Nat):(e.set v i).kind=e.kind:=by
 unfold cu.set
 split<;>rfl
def iq (e:cu) (f:gy):Bool:=decide (f.2.1<=e.get f.1) && decide (e.get f.1<=f.2.2)
def Fv:cu->List gy->Option cu
 | e,[]=>some e
 | e,f :: fs=>if iq e f=true then Fv (e.set 0 f.1) fs else none
def Lc (e:cu):Bool:=decide (e.ah=0) && decide (e.tick=0) && decide (e.ag=0) && decide (e.seq=0) && decide (e.br=0) && decide (e.attempt=0) && decide (e.node=0) && decide (e.bm=0)
def Tu (e:ee):Bool:=decide (e.n.kind=2) == decide (0<e.specs.length)
def Fw (e:ee):Bool:=match Ds e.n.kind with
 | none=>false
 | some fs=>match Fv e.n fs with
  | none=>false
  | some e'=>Tu e && decide (e.specs.length<=8) && e.specs.all D6 && Lc e'
def R5 (e:ee):Int:=if Fw e=true then 0 else 130
def Wo {e:ee} (h:Fw e=false):R5 e=130:=Ac (by rw [h];simp)
def Aez {e:ee} (h:Fw e=true):R5 e=0:=Ad h
def Ae0 {e:ee} (h:Ds e.n.kind=none):Fw e=false:=by unfold Fw;rw [h]
def Ae1 {e:ee} {fs:List gy} (h:Ds e.n.kind=some fs) (a:Fv e.n fs=none):Fw e=false:=by unfold Fw;rw [h];simp only [a]
def Ae2 {e:ee} {fs:List gy} {a:cu} (h:Ds e.n.kind=some fs) (b:Fv e.n fs=some a):Fw e=(Tu e && decide (e.specs.length<=8) && e.specs.all D6 && Lc a):=by unfold Fw;rw [h];simp only [b]
def Aoy {k:Int} {fs:List gy} (h:Ds k=some fs):fs.length<=4/\∀ f,f∈fs->1<=f.1/\f.1<=8/\0<=f.2.1/\f.2.1<=f.2.2/\f.2.2<=1099511627776:=by
 unfold Ds at h
 repeat (split at h;(cases h;exact ⟨by decide,by decide⟩))
 cases h
def Aoz {e:cu} {fs:List gy} {k:Nat} {f:gy} (b:fs[k]?=some f):Fv e (fs.drop k)=if iq e f=true then Fv (e.set 0 f.1) (fs.drop (k+1)) else none:=by
 obtain ⟨c,a⟩:=Ao.1 b;rw [Ym c,a,Fv]
def Ao0  {g a:Nat} {fs:List gy} (h:w.heap[g]?=some (.cells (fs.flatMap (R1 a)).toArray 183 (0,0))) {k:Nat} {f:gy} (e:fs[k]?=some f) :
  w.cell? ⟨g,k*3,none⟩=some (.pointer (some ⟨a,f.1,none⟩))/\w.cell? ⟨g,k*3+1,none⟩=some (.int .i64 f.2.1)/\w.cell? ⟨g,k*3+2,none⟩=some (.int .i64 f.2.2):=by
 have b:=fun j i=>F2 (cells:=fun f=>(R1 a f).toArray) (sz:=3) (fun _=>rfl) fs (j:=j) e i;have d:Au (fun f=>(R1 a f).toArray) fs=fs.flatMap (R1 a):=rfl;rw [d] at b;have h0:=b 0 (by omega);have h1:=b 1 (by omega);have c:=b 2 (by omega);rw [Lr] at h0 h1 c;refine ⟨?_,?_,?_⟩
 .rw [Aa h];exact (Lr ..).trans h0
 .rw [Aa h];exact (Lr ..).trans h1
 .rw [Aa h];exact (Lr ..).trans c
structure M5 (w:WD) (g:Nat) (row:Array VL) (x:cz) (wr:WD):Prop where
 bx:Mb w x wr
 row:wr.heap[g]?=some (.cells row 183 (0,0))
def M5.below    {x:cz} (h:M5 w g row x wr) (a:BW wr.heap.size wr w'):M5 w g row x w':=
 ⟨h.bx.below a,Ae a h.row (Ab h.row)⟩
def M5.set    {x:cz} (h:M5 w g row x wr) (b:g≠w.heap.size)  (h1:1<=i) (a:i<=8):M5 w g row ⟨x.n.set 0 i,x.so,x.m,x.c,x.de⟩ (wr.setCell ⟨w.heap.size,i,none⟩ (.int .i64 0)):=
 ⟨⟨h.bx.low.setCell Ln _,by rw [<- Aow x h1 a];exact Am h.bx.box i _⟩,C0 b _ h.row⟩
def Ae3 (x:cz) (w:WD) (hx:x.ok w):Calls prog 57 #[x.val] w fun e w'=>e=.returned (.int .i64 (R5 x.pl))/\BW w.heap.size w w':=by
 have aB:=Mb.new w x;have aU:(w.alloc (.cells x.cells 40 (0,0))).cell? ⟨w.heap.size,0,none⟩=some (.int .i64 x.n.kind):=Aa aB.box 0;have hc:=Aot aU;unfold R2 at hc
 cases hf:Ds x.n.kind with
 | none=>
  rw [hf] at hc;have he:R5 x.pl=130:=Wo (Ae0 hf);obtain ⟨⟨r,ah,tick,ag,seq,br,attempt,node,bm⟩,so,m,c,de⟩:=x;replace ⟨aB,hc,hx,hf,he,aU⟩:=H6 aB hc hx hf he aU;go_enter func57,ntmps57;go_wp2_with fail;refine hc.mono ?_;rintro e w1 ⟨rfl,aD⟩;have a9:=aB.below aD;replace ⟨a9,aD⟩:=H2 a9 aD;go_wp2;go_ret;exact ⟨by rw [he.out];rfl,a9.low⟩
 | some fs=>
  rw [hf] at hc;obtain ⟨bJ,be⟩:=Aoy hf;obtain ⟨n,hn⟩:=Ex (fs.length);unfold Z8 at hc;simp only [<- hn] at hc;rw [<- hn] at bJ;have bW:=hx.de.max;have aV:=hx.de.len;obtain ⟨so,m,c,de,bE⟩:∃ so m c de,x=⟨x.n,so,m,c,de⟩:=⟨x.so,x.m,x.c,x.de,rfl⟩;obtain ⟨E,hE⟩:=Ex (R5 x.pl);rw [<- hE];obtain ⟨row,ai⟩:=Ex ((fs.flatMap (R1 w.heap.size)).toArray);rw [<- ai] at hc;have av:∀ w1 g,BW (w.heap.size+1) (w.alloc (.cells x.cells 40 (0,0))) w1->w1.heap[g]?=some (.cells row 183 (0,0))->M5 w g row x w1:=fun w1 g hb hr=>⟨aB.below (by simpa using hb),hr⟩;obtain ⟨⟨r,ah,tick,ag,seq,br,attempt,node,bm⟩,aF,u,c',t⟩:=x;simp only [cz.mk.injEq,true_and] at bE;obtain ⟨rfl,rfl,rfl,rfl⟩:=bE;obtain ⟨X,hX⟩:∃ X:cz,X=⟨⟨r,ah,tick,ag,seq,br,attempt,node,bm⟩,aF,u,c',t⟩:=⟨_,rfl⟩;obtain ⟨N,hN⟩:∃ N:cu,N=⟨r,ah,tick,ag,seq,br,attempt,node,bm⟩:=⟨_,rfl⟩;replace ⟨aB,hc,hx,hf,be,hn,aU,hE⟩:=H8 aB hc hx hf be hn aU hE;replace ⟨aV,ai,av,hX,hN⟩:=H5 aV ai av hX hN;go_enter func57,ntmps57;go_wp2_with fail;refine hc.mono ?_;rintro e w1 ⟨g,rfl,bB,bg,aD⟩
  have bf:g≠w.heap.size:=by
   have h1:(w.alloc (.cells (⟨⟨r,ah,tick,ag,seq,br,attempt,node,bm⟩,aF,u,c',t⟩:cz).cells 40 (0,0))).heap.size=w.heap.size+1:=(by simp);omega
  have a3:=av w1 g (by simpa using aD) bg;rw [<- hX.out] at a3;replace ⟨bB,bg,aD,a3,bf⟩:=H5 bB bg aD a3 bf;go_wp2;go_loopw [17,6] (fun iv _ wr=>∃ (k:Nat) (a:cu),iv=.int .i64 k/\k<=n/\Hid (Fv N fs=Fv a (fs.drop k))/\Hid (a.kind=r)/\Hid (M5 w g row ⟨a,aF,u,c',t⟩ wr)) (fun iv _ _=>n-(intOf iv).toNat)
  case atStart=>exact ⟨0,N,rfl,Aq _,rfl,(by rw [hN.out]:N.kind=r),by rw [hN.out,<- hX.out];exact a3.out⟩
  case round=>
   obtain ⟨k,a,rfl,hk,bb,bs,hW⟩:=hrel;by_cases bU:k<n
   .have bD:(k:Int)<n:=(by omega);have bO:(0:Int)<=(k:Int):=(by omega);obtain ⟨f,aS⟩:=Ge fs k (by have:=hn.out;omega);obtain ⟨q1,q8,_⟩:=be f (Ai aS);obtain ⟨i,lo,hi⟩:=f;have a4:=hW.row;rw [ai.out] at a4;obtain ⟨z0,z1,z2⟩:=Ao0 a4 aS;simp only at z0 z1 z2 q1 q8;have a5:=Aoz (e:=a) aS;have bn:=Aa hW.bx.box i;rw [Aov _ q8] at bn;obtain ⟨v,hv⟩:=Ex (a.get i);have a7:wr.cell? ⟨w.heap.size,i,none⟩=some (.int .i64 v):=(by rw [hv];exact bn);clear bn;have hr:iq a (i,lo,hi)=(decide (lo<=v) && decide (v<=hi)):=(by rw [hv];rfl);obtain ⟨W6,ao⟩:=Ex (wr.alloc (.cells #[.pointer (some ⟨w.heap.size,i,none⟩),.int .i64 lo,.int .i64 hi] 183 (0,0)));have ap:BW wr.heap.size wr W6:=(by rw [ao];exact Bn);have aE:W6.heap[wr.heap.size]?=some (.cells #[.pointer (some ⟨w.heap.size,i,none⟩),.int .i64 lo,.int .i64 hi] 183 (0,0)):=(by rw [ao];exact Ah _ _);have aL:=hW.below ap;obtain ⟨c0,c1,c2⟩:=C3 aE;(try dsimp only at c0 c1 c2);have c6:=(Ag ap (Ab hW.bx.box)).trans a7;have bQ:=Af aL.bx.box i
    have aI:iq a (i,lo,hi)=false->E=130:=fun hq=>by
     rw [hE.out];refine Wo (Ae1 hf.out ?_);show Fv (⟨r,ah,tick,ag,seq,br,attempt,node,bm⟩:cu) fs=none;have h:=bb.out;rw [hN.out] at h;rw [h,a5,Ac (by rw [hq];simp)]
    have aH:=Hh ao;clear ao;replace ⟨aS,a4,a5,ap,aE,aL,aI,hv⟩:=H8 aS a4 a5 ap aE aL aI hv;go_upto_region 7 with fail;rw [<- aH.out];clear z0 z1 z2 a7 aH;by_cases g1:v<lo
    .have d1:=Av g1;have d:=aI (by rw [hr,Ax (by omega)];rfl);replace ⟨hr,d,g1⟩:=H3 hr d g1;go_wp2;go_quiet (fail);go_wp2;go_ret;exact ⟨by rw [d.out];rfl,(aL.bx.low).trans (A9 _ _ _)⟩
    have d1:=Ax g1;by_cases g2:hi<v
    .have d2:=Av g2;have d:=aI (by rw [hr,Av (by omega),Ax (by omega)];rfl);replace ⟨hr,d,g1,g2⟩:=H4 hr d g1 g2;go_wp2;go_quiet (fail);go_wp2;go_ret;exact ⟨by rw [d.out];rfl,(aL.bx.low).trans (A9 _ _ _)⟩
    have d2:=Ax g2;have bi:iq a (i,lo,hi)=true:=(by rw [hr,Av (by omega),Av (by omega)];rfl);have aP:Fv N fs=Fv (a.set 0 i) (fs.drop (k+1)):=(by rw [bb.out,a5.out,Ad bi]);have aN:(a.set 0 i).kind=r:=(by rw [Aox,bs.out]);have aX:∀ q,M5 w g row ⟨a.set 0 i,aF,u,c',t⟩ ((W6.drewN q).setCell ⟨w.heap.size,i,none⟩ (.int .i64 0)):=fun q=>(aL.below (A9 _ _ _)).set bf.out q1 q8;replace ⟨hr,bi,aP,aN,aX,g1,g2⟩:=H7 hr bi aP aN aX g1 g2;go_wp2;go_quiet (fail);go_wp2;go_roundw
    case rel=>exact ⟨k+1,a.set 0 i,by go_num,by omega,aP.out,aN.out,aX _⟩
    case measure=>simp [intOf];omega
   .have bD:¬ (k:Int)<n:=(by omega);have bc:fs.drop k=[]:=List.drop_of_length_le (by have:=hn.out;omega);have aT:Fv ⟨r,ah,tick,ag,seq,br,attempt,node,bm⟩ fs=some a:=(by rw [<- hN.out,bb.out,bc];rfl);have bk:=Ae2 (e:=(⟨⟨r,ah,tick,ag,seq,br,attempt,node,bm⟩,aF,u,c',t⟩:cz).pl) hf.out aT;obtain ⟨k2,e2,t2,aJ,s2,j2,a2,n2,h2⟩:=a;have bw:k2=r:=bs.out;subst bw;have aW:(t.map ay.pl).length=u:=(by rw [At,aV.out]);obtain ⟨K,hK⟩:=Ex ((decide (k2=2) == decide (0<u)));obtain ⟨L,hL⟩:=Ex (decide (u<=8));obtain ⟨A,hA⟩:=Ex ((t.map ay.pl).all D6);obtain ⟨R,hR⟩:=Ex (Lc ⟨k2,e2,t2,aJ,s2,j2,a2,n2,h2⟩);have a1:E=if (K && L && A && R)=true then 0 else 130:=(by rw [hE.out];unfold R5;rw [bk,hK,hL,hA,hR,<- aW];rfl);have y0:=Bk hW.bx.box 0 (.int .i64 k2) rfl;have y9:=Bk hW.bx.box 9 (.slice aF u c') rfl;obtain ⟨q,hq⟩:∃ q,q = !(K && L):=⟨_,rfl⟩;replace ⟨bc,aT,bk,aW,hK,hL,hA,hR⟩:=H8 bc aT bk aW hK hL hA hR;replace ⟨a1,hq⟩:=H2 a1 hq;go_upto_region 11 with fail;go_cut [54] from 41 to 55 (fun bv wx=>yi wr q bv wx)
    case first=>
     by_cases g1:k2=2
     .have d1:(k2 == (2:Int))=true:=(by rw [g1];rfl);by_cases g2:0<u
      .have d2:decide ((0:Int)<(u:Int))=true:=Av (by omega);have aA:=Av g2;by_cases g3:8<u
       .have d3:decide ((8:Int)<(u:Int))=true:=Av (by omega);have o:q=true:=(by rw [hq.out,hK.out,hL.out,Av g1,aA,Ax (by omega:¬ u<=8)];rfl);replace ⟨g1,g2,g3,o⟩:=H4 g1 g2 g3 o;go_wp2;go_meet;exact ⟨by rw [o.out],rfl⟩
       .have d3:decide ((8:Int)<(u:Int))=false:=Ax (by omega);have o:q=false:=(by rw [hq.out,hK.out,hL.out,Av g1,aA,Av (by omega:u<=8)];rfl);replace ⟨g1,g2,g3,o⟩:=H4 g1 g2 g3 o;go_wp2;go_meet;exact ⟨by rw [o.out],rfl⟩
      .have d2:decide ((0:Int)<(u:Int))=false:=Ax (by omega);have aA:=Ax g2;have o:q=true:=(by rw [hq.out,hK.out,Av g1,aA];rfl);replace ⟨g1,g2,o⟩:=H3 g1 g2 o;go_wp2;go_meet;exact ⟨by rw [o.out],rfl⟩
     .have d1:=Bl.2 g1;by_cases g2:0<u
      .have d2:decide ((0:Int)<(u:Int))=true:=Av (by omega);have aA:=Av g2;have o:q=true:=(by rw [hq.out,hK.out,Ax g1,aA];rfl);replace ⟨g1,g2,o⟩:=H3 g1 g2 o;go_wp2;go_meet;exact ⟨by rw [o.out],rfl⟩
      .have d2:decide ((0:Int)<(u:Int))=false:=Ax (by omega);have aA:=Ax g2;have d3:decide ((8:Int)<(u:Int))=false:=Ax (by omega);have o:q=false:=(by rw [hq.out,hK.out,hL.out,Ax g1,aA,Av (by omega:u<=8)];rfl);replace ⟨g1,g2,o⟩:=H3 g1 g2 o;go_wp2;go_meet;exact ⟨by rw [o.out],rfl⟩
    case rest=>
    obtain ⟨rfl,bK⟩:=hcut;subst bK
    cases q with
    | true=>
     have d:E=130:=by
      have h:=hq.out;rw [a1.out];revert h
      cases K<;>cases L<;>intro h<;>first | rfl | cases h
     replace d:=Hh d;clear hq;go_wp2;go_ret;exact ⟨by rw [d.out];rfl,hW.bx.low⟩
    | false=>
    have aM:K=true/\L=true:=by
     have h:=hq.out;revert h
     cases K<;>cases L<;>intro h<;>first | exact ⟨rfl,rfl⟩ | cases h
    have aG:E=if (A && R)=true then 0 else 130:=(by rw [a1.out,aM.1,aM.2];rfl);have bV:u<=8:=(by have h:=hL.out;rw [aM.2] at h;exact Kx h.symm);clear hq;replace ⟨aM,aG⟩:=H2 aM aG;go_wp2;go_loopw [58,8] (fun iv _ wz=>∃ k:Nat,iv=.int .i64 k/\k<=u/\Hid (∀ j s,j<k->t[j]?=some s->D6 s.pl=true)/\Hid (M5 w g row ⟨⟨k2,e2,t2,aJ,s2,j2,a2,n2,h2⟩,aF,u,c',t⟩ wz)) (fun iv _ _=>u-(intOf iv).toNat)
    case atStart=>exact ⟨0,rfl,Aq _,(fun j s h=>absurd h (Mt j)),hW.out⟩
    case round=>
     rename WD=>wz
     obtain ⟨j,rfl,hj,a6,hZ⟩:=hrel;by_cases bT:j<u
     .have bC:(j:Int)<u:=(by omega);have bS:(0:Int)<=(j:Int):=(by omega);obtain ⟨s,hs⟩:=Ge t j (by rw [aV.out];omega);have bo:=hx.de.low hZ.bx.low;obtain ⟨b,y,rfl,bP,l,aY⟩:=bo.cell j s hs;obtain ⟨⟨am,ad,nodes,⟨da,db,dc,dd⟩,an,al,array,ae,ac,after⟩,a0,sn,aZ⟩:=s;have z0:wz.cell? ⟨b,y+j*13,none⟩=some (.string am):=l 0 (by omega);have z1:wz.cell? ⟨b,y+j*13+1,none⟩=some (.string ad):=l 1 (by omega);have z2:wz.cell? ⟨b,y+j*13+2,none⟩=some (.int .i64 nodes):=l 2 (by omega);have z3:wz.cell? ⟨b,y+j*13+3,none⟩=some (.int .i64 da):=l 3 (by omega);have z4:wz.cell? ⟨b,y+j*13+4,none⟩=some (.int .i64 db):=l 4 (by omega);have z5:wz.cell? ⟨b,y+j*13+5,none⟩=some (.int .i64 dc):=l 5 (by omega);have z6:wz.cell? ⟨b,y+j*13+6,none⟩=some (.int .i64 dd):=l 6 (by omega);have z7:wz.cell? ⟨b,y+j*13+7,none⟩=some (.int .i64 an):=l 7 (by omega);have z8:wz.cell? ⟨b,y+j*13+8,none⟩=some (.int .i64 al):=l 8 (by omega);have z9:wz.cell? ⟨b,y+j*13+9,none⟩=some (.int .i64 array):=l 9 (by omega);have bL:wz.cell? ⟨b,y+j*13+10,none⟩=some (.int .i64 ae):=l 10 (by omega);have bM:wz.cell? ⟨b,y+j*13+11,none⟩=some (.bool ac):=l 11 (by omega);have bN:wz.cell? ⟨b,y+j*13+12,none⟩=some (.slice a0 sn aZ):=l 12 (by omega);obtain ⟨W6,ao⟩:=Ex (wz.alloc (.cells (⟨⟨am,ad,nodes,⟨da,db,dc,dd⟩,an,al,array,ae,ac,after⟩,a0,sn,aZ⟩:ay).cells 33 (0,0)));have ap:BW wz.heap.size wz W6:=(by rw [ao];exact Bn);have aE:W6.heap[wz.heap.size]?=some (.cells (⟨⟨am,ad,nodes,⟨da,db,dc,dd⟩,an,al,array,ae,ac,after⟩,a0,sn,aZ⟩:ay).cells 33 (0,0)):=(by rw [ao];exact Ah _ _);obtain ⟨x0,x1,x2,x3,x4,x5,x6,x7,x8,x9,bF,bG,bH⟩:=C13 aE;(try dsimp only at x0 x1 x2 x3 x4 x5 x6 x7 x8 x9 bF bG bH);have ba:=hZ.below ap;have bA:=Wm ⟨⟨am,ad,nodes,⟨da,db,dc,dd⟩,an,al,array,ae,ac,after⟩,a0,sn,aZ⟩ W6 (aY.low ap);obtain ⟨er,aR⟩:=Ex (N5 (⟨am,ad,nodes,⟨da,db,dc,dd⟩,an,al,array,ae,ac,after⟩:dn))
      have aQ:Calls prog 97 #[(⟨⟨am,ad,nodes,⟨da,db,dc,dd⟩,an,al,array,ae,ac,after⟩,a0,sn,aZ⟩:ay).val] W6 fun e w'=>e=.returned (.int .i64 er)/\BW W6.heap.size W6 w':=by rw [aR];exact bA
      clear bA;have aH:=Hh ao;clear ao;replace ⟨hs,bo,l,aY,ap,aE,ba,aQ⟩:=H8 hs bo l aY ap aE ba aQ;replace aR:=Hh aR;go_upto_region 16 with fail;rw [<- aH.out];clear z0 z1 z2 z3 z4 z5 z6 z7 z8 z9 bL bM bN;go_wp2_with fail;refine aQ.mono ?_;rintro e w7 ⟨rfl,aO⟩;have aK:=ba.below aO;clear x0 x1 x2 x3 x4 x5 x6 x7 x8 x9 bF bG bH;by_cases gm:D6 (⟨am,ad,nodes,⟨da,db,dc,dd⟩,an,al,array,ae,ac,after⟩:dn)=true
      .have bd:er=0:=(by rw [aR.out];exact Ad gm);subst bd;have d7:((0:Int) != (0:Int))=false:=rfl
       have aC:∀ i s,i<j+1->t[i]?=some s->D6 s.pl=true:=fun i s hi bl=>by
        by_cases c:i=j
        .subst c;rw [hs.out] at bl;rw [<- Lx bl];exact gm
        .exact a6.out i s (by omega) bl
       replace ⟨aO,aK,gm,aC⟩:=H4 aO aK gm aC;go_wp2;go_roundw
       case rel=>exact ⟨j+1,by go_num,by omega,aC.out,aK.out⟩
       case measure=>simp [intOf];omega
      .have bd:er=80:=(by rw [aR.out];exact Ac gm);subst bd;have d7:((80:Int) != (0:Int))=true:=rfl
       have d:E=130:=by
        have bI:A=false:=(by rw [hA.out,Ij];intro c;rw [Vf] at c;exact gm (c _ (Ba.2 ⟨_,Ai hs.out,rfl⟩)));rw [aG.out,bI];rfl
       replace ⟨aO,aK,gm,d⟩:=H4 aO aK gm d;go_wp2;go_ret;exact ⟨by rw [d.out];rfl,aK.bx.low⟩
     .have bC:¬ (j:Int)<u:=(by omega);have a8:A=true:=(by rw [hA.out,Vf];intro s hs;obtain ⟨z,hz,rfl⟩:=Ba.1 hs;obtain ⟨i,hi⟩:=List.mem_iff_getElem?.1 hz;have bR:=(Ao.1 hi).1;exact a6.out i z (by have:=aV.out;omega) hi);have p:E=if R=true then 0 else 130:=(by rw [aG.out,a8];rfl);have y1:=Bk hZ.bx.box 1 (.int .i64 e2) rfl;have y2:=Bk hZ.bx.box 2 (.int .i64 t2) rfl;have y3:=Bk hZ.bx.box 3 (.int .i64 aJ) rfl;have y4:=Bk hZ.bx.box 4 (.int .i64 s2) rfl;have y5:=Bk hZ.bx.box 5 (.int .i64 j2) rfl;have y6:=Bk hZ.bx.box 6 (.int .i64 a2) rfl;have y7:=Bk hZ.bx.box 7 (.int .i64 n2) rfl;have y8:=Bk hZ.bx.box 8 (.int .i64 h2) rfl;replace ⟨a8,p⟩:=H2 a8 p;clear y0 y9;by_cases u0:e2=0;rotate_left
      .have d0:(e2 != (0:Int))=true:=(by rw [Fp];exact u0);have d:E=130:=(by rw [p.out,Ac];rw [hR.out];unfold Lc;simp [u0]);replace ⟨u0,d⟩:=H2 u0 d;go_wp2;go_ret;exact ⟨by rw [d.out];rfl,hZ.bx.low⟩
      have d0:(e2 != (0:Int))=false:=(by rw [u0];rfl);by_cases u1:t2=0;rotate_left
      .have d1:(t2 != (0:Int))=true:=(by rw [Fp];exact u1);have d:E=130:=(by rw [p.out,Ac];rw [hR.out];unfold Lc;simp [u1]);replace ⟨u0,u1,d⟩:=H3 u0 u1 d;go_wp2;go_ret;exact ⟨by rw [d.out];rfl,hZ.bx.low⟩
      have d1:(t2 != (0:Int))=false:=(by rw [u1];rfl);by_cases u2:aJ=0;rotate_left
      .have d2:(aJ != (0:Int))=true:=(by rw [Fp];exact u2);have d:E=130:=(by rw [p.out,Ac];rw [hR.out];unfold Lc;simp [u2]);replace ⟨u0,u1,u2,d⟩:=H4 u0 u1 u2 d;go_wp2;go_ret;exact ⟨by rw [d.out];rfl,hZ.bx.low⟩
      have d2:(aJ != (0:Int))=false:=(by rw [u2];rfl);by_cases u3:s2=0;rotate_left
      .have d3:(s2 != (0:Int))=true:=(by rw [Fp];exact u3);have d:E=130:=(by rw [p.out,Ac];rw [hR.out];unfold Lc;simp [u3]);replace ⟨u0,u1,u2,u3,d⟩:=H5 u0 u1 u2 u3 d;go_wp2;go_ret;exact ⟨by rw [d.out];rfl,hZ.bx.low⟩
      have d3:(s2 != (0:Int))=false:=(by rw [u3];rfl);by_cases u4:j2=0;rotate_left
      .have d4:(j2 != (0:Int))=true:=(by rw [Fp];exact u4);have d:E=130:=(by rw [p.out,Ac];rw [hR.out];unfold Lc;simp [u4]);replace ⟨u0,u1,u2,u3,u4,d⟩:=H6 u0 u1 u2 u3 u4 d;go_wp2;go_ret;exact ⟨by rw [d.out];rfl,hZ.bx.low⟩
      have d4:(j2 != (0:Int))=false:=(by rw [u4];rfl);by_cases u5:a2=0;rotate_left
      .have d5:(a2 != (0:Int))=true:=(by rw [Fp];exact u5);have d:E=130:=(by rw [p.out,Ac];rw [hR.out];unfold Lc;simp [u5]);replace ⟨u0,u1,u2,u3,u4,u5,d⟩:=H7 u0 u1 u2 u3 u4 u5 d;go_wp2;go_ret;exact ⟨by rw [d.out];rfl,hZ.bx.low⟩
      have d5:(a2 != (0:Int))=false:=(by rw [u5];rfl);by_cases u6:n2=0;rotate_left
      .have d6:(n2 != (0:Int))=true:=(by rw [Fp];exact u6);have d:E=130:=(by rw [p.out,Ac];rw [hR.out];unfold Lc;simp [u6]);replace ⟨u0,u1,u2,u3,u4,u5,u6,d⟩:=H8 u0 u1 u2 u3 u4 u5 u6 d;go_wp2;go_ret;exact ⟨by rw [d.out];rfl,hZ.bx.low⟩
      have d6:(n2 != (0:Int))=false:=(by rw [u6];rfl);by_cases u7:h2=0;rotate_left
      .have d7:(h2 != (0:Int))=true:=(by rw [Fp];exact u7);have d:E=130:=(by rw [p.out,Ac];rw [hR.out];unfold Lc;simp [u7]);replace ⟨u0,u1,u2,u3,u4,u5,u6,u7⟩:=H8 u0 u1 u2 u3 u4 u5 u6 u7;replace d:=Hh d;go_wp2;go_ret;exact ⟨by rw [d.out];rfl,hZ.bx.low⟩
      have d7:(h2 != (0:Int))=false:=(by rw [u7];rfl);have d:E=0:=(by rw [p.out,Ad];rw [hR.out];unfold Lc;simp [u0,u1,u2,u3,u4,u5,u6,u7]);replace ⟨u0,u1,u2,u3,u4,u5,u6,u7⟩:=H8 u0 u1 u2 u3 u4 u5 u6 u7;replace d:=Hh d;go_wp2;go_ret;exact ⟨by rw [d.out];rfl,hZ.bx.low⟩
def B4 (k:Int):Bool:=D5 k 2 5 || decide (k=10) || decide (k=11)
