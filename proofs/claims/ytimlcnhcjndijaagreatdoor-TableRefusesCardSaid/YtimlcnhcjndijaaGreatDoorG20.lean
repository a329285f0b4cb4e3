/- Parts of a proof. No condition. -/
import Derived.Test.YtimlcnhcjndijaaGreatDoorG19
import Derived.Test.YtimlcnhcjndijaaGreatDoorG13
set_option linter.all false
set_option maxRecDepth 100000
set_option maxHeartbeats 6400000
namespace Go.Proofs.YtimlcnhcjndijaaGreatDoor
open Option renaming some->Z,none->I
open Value renaming pointer->Q,int->G,slice->J,bool->D,tuple->E,string->Y
open IntKind renaming i64->O
open Ending renaming returned->K
open Obj renaming cells->V
open Go renaming World->WD,Value->VL,Calls->CS
open Go.RowKit renaming Below->BW
open Go.Proofs.Tryz
section
open Go.RowKit Go.Maps Go.Lib
variable{row:Array VL}{z:Int}{g i:Nat}{w w' wr:WD}
structure dh where
 kind:Int
 ai:Int
 tick:Int
 ah:Int
 seq:Int
 bt:Int
 attempt:Int
 node:Int
 br:Int
deriving DecidableEq
def dh.get (e:dh):Nat->Int
 | 0=>e.kind
 | 1=>e.ai
 | 2=>e.tick
 | 3=>e.ah
 | 4=>e.seq
 | 5=>e.bt
 | 6=>e.attempt
 | 7=>e.node
 | 8=>e.br
 | _=>0
def dh.set (e:dh) (v:Int):Nat->dh
 | 1=>{ e with ai:=v }
 | 2=>{ e with tick:=v }
 | 3=>{ e with ah:=v }
 | 4=>{ e with seq:=v }
 | 5=>{ e with bt:=v }
 | 6=>{ e with attempt:=v }
 | 7=>{ e with node:=v }
 | 8=>{ e with br:=v }
 | _=>e
abbrev il:=Nat×Int×Int
def U6:il:=(1,1,1099511627776)
def Mk:il:=(2,0,1099511627775)
def Da:il:=(3,1,16)
def Db:il:=(4,1,1099511627776)
def Fa:il:=(5,1,100)
def U7:il:=(6,1,6)
def Fh:il:=(7,0,15)
def U8:il:=(8,1,3)
def Dw (k:Int):Option (List il):=
 if k=1 then Z [U6]else if k=2 then Z [Da,Db]else if k=3\/k=4\/k=5 then Z [Da,Db,Fa]else if k=6 then Z [Mk]
 else if k=7 then Z [Fa,U7,Fh,U8]else if k=8\/k=9 then Z [Fh,Mk]else if k=10\/k=11 then Z [Da,Db,Fh]else I
def S4 (eb:Nat) (f:il):List VL:=[Q (Z ⟨eb,f.1,I⟩),G O f.2.1,G O f.2.2]
def Ml (so:Option Addr) (n c:Nat) (w:WD):CS prog 150 #[J so n c] w λe w'=>e=K (E #[J so n c,D true])/\w'=w:=by
 go_enter func150,ntmps150;go_wp2;go_ret2;exact⟨rfl,rfl⟩
def Ab3 (eb:Nat) (fs:List il) (w:WD) (e:Ending) (w':WD):Prop:=
 ∃g,e=K (E #[J (Z ⟨g,0,I⟩) fs.length fs.length,D true])/\w.heap.size<=g/\w'.heap[g]?=Z (V (fs.flatMap (S4 eb)).toArray 183 (0,0))/\BW w.heap.size w w'
def S5 (k:Int) (eb:Nat) (w:WD) (e:Ending) (w':WD):Prop:=match Dw k with
 | some fs=>Ab3 eb fs w e w'
 | none=>e=K (E #[J I 0 0,D false])/\BW w.heap.size w w'
def Mm {k:Int} {a:Nat} {fs:List il}  {e:Ending} (b:Dw k=Z fs) (h:Ab3 a fs w e w'):S5 k a w e w':=by unfold S5;rw[b];exact h
def Arl {k:Int} {a:Nat}  {e:Ending} (b:Dw k=I) (h:e=K (E #[J I 0 0,D false])/\BW w.heap.size w w'):S5 k a w e w':=by unfold S5;rw[b];exact h
def Arm (w:WD) (a b c d e f g h:Obj):((((((((w.alloc a).alloc b).alloc c).alloc d).alloc e).alloc f).alloc g).alloc h).heap[w.heap.size]?=Z a/\((((((((w.alloc a).alloc b).alloc c).alloc d).alloc e).alloc f).alloc g).alloc h).heap[w.heap.size+1]?=Z b/\((((((((w.alloc a).alloc b).alloc c).alloc d).alloc e).alloc f).alloc g).alloc h).heap[w.heap.size+1+1]?=Z c/\((((((((w.alloc a).alloc b).alloc c).alloc d).alloc e).alloc f).alloc g).alloc h).heap[w.heap.size+1+1+1]?=Z d/\((((((((w.alloc a).alloc b).alloc c).alloc d).alloc e).alloc f).alloc g).alloc h).heap[w.heap.size+1+1+1+1]?=Z e/\((((((((w.alloc a).alloc b).alloc c).alloc d).alloc e).alloc f).alloc g).alloc h).heap[w.heap.size+1+1+1+1+1]?=Z f/\((((((((w.alloc a).alloc b).alloc c).alloc d).alloc e).alloc f).alloc g).alloc h).heap[w.heap.size+1+1+1+1+1+1]?=Z g/\((((((((w.alloc a).alloc b).alloc c).alloc d).alloc e).alloc f).alloc g).alloc h).heap[w.heap.size+1+1+1+1+1+1+1]?=Z h/\BW w.heap.size w ((((((((w.alloc a).alloc b).alloc c).alloc d).alloc e).alloc f).alloc g).alloc h):=by
 exact⟨Aj h (Aj g (Aj f (Aj e (Aj d (Aj c (Aj b (A5 w a as9))))))),Aj h (Aj g (Aj f (Aj e (Aj d (Aj c (A5 (w.alloc a) b as9)))))),Aj h (Aj g (Aj f (Aj e (Aj d (A5 ((w.alloc a).alloc b) c as9))))),Aj h (Aj g (Aj f (Aj e (A5 (((w.alloc a).alloc b).alloc c) d as9)))),Aj h (Aj g (Aj f (A5 ((((w.alloc a).alloc b).alloc c).alloc d) e as9))),Aj h (Aj g (A5 (((((w.alloc a).alloc b).alloc c).alloc d).alloc e) f as9)),Aj h (A5 ((((((w.alloc a).alloc b).alloc c).alloc d).alloc e).alloc f) g as9),A5 (((((((w.alloc a).alloc b).alloc c).alloc d).alloc e).alloc f).alloc g) h as9,((((((((Below.refl _ _).alloc (by simp;try omega) _).alloc (by simp;try omega) _).alloc (by simp;try omega) _).alloc (by simp;try omega) _).alloc (by simp;try omega) _).alloc (by simp;try omega) _).alloc (by simp;try omega) _).alloc (by simp;try omega) _⟩
def Arn  {c:Nat} {k:Int} (h0:w.cell? ⟨c,0,I⟩=Z (G O k)):CS prog 96 #[Q (Z ⟨c,0,I⟩)] w (S5 k c w):=by
 have ac:=Uc w _ h0;obtain⟨W,hW⟩:=Ex (((((((((w.alloc (V #[Q (Z ⟨c,1,I⟩),G O 1,G O 1099511627776] 183 (0,0))).alloc (V #[Q (Z ⟨c,2,I⟩),G O 0,G O 1099511627775] 183 (0,0))).alloc (V #[Q (Z ⟨c,3,I⟩),G O 1,G O 16] 183 (0,0))).alloc (V #[Q (Z ⟨c,4,I⟩),G O 1,G O 1099511627776] 183 (0,0))).alloc (V #[Q (Z ⟨c,5,I⟩),G O 1,G O 100] 183 (0,0))).alloc (V #[Q (Z ⟨c,6,I⟩),G O 1,G O 6] 183 (0,0))).alloc (V #[Q (Z ⟨c,7,I⟩),G O 0,G O 15] 183 (0,0))).alloc (V #[Q (Z ⟨c,8,I⟩),G O 1,G O 3] 183 (0,0))));obtain⟨s,t,u,v,x,y,z,b7,a⟩:=Arm w (V #[Q (Z ⟨c,1,I⟩),G O 1,G O 1099511627776] 183 (0,0)) (V #[Q (Z ⟨c,2,I⟩),G O 0,G O 1099511627775] 183 (0,0)) (V #[Q (Z ⟨c,3,I⟩),G O 1,G O 16] 183 (0,0)) (V #[Q (Z ⟨c,4,I⟩),G O 1,G O 1099511627776] 183 (0,0)) (V #[Q (Z ⟨c,5,I⟩),G O 1,G O 100] 183 (0,0)) (V #[Q (Z ⟨c,6,I⟩),G O 1,G O 6] 183 (0,0)) (V #[Q (Z ⟨c,7,I⟩),G O 0,G O 15] 183 (0,0)) (V #[Q (Z ⟨c,8,I⟩),G O 1,G O 3] 183 (0,0));rw[<-hW]at s t u v x y z b7 a;have y0:W.cell? ⟨c,0,I⟩=Z (G O k):=(Ag a ac).trans h0;obtain⟨ad,af,al⟩:=C3 s;(try dsimp only at ad af al);obtain⟨am,an,ao⟩:=C3 t;(try dsimp only at am an ao);obtain⟨ap,av,aA⟩:=C3 u;(try dsimp only at ap av aA);obtain⟨aB,aC,aD⟩:=C3 v;(try dsimp only at aB aC aD);obtain⟨aE,aF,aG⟩:=C3 x;(try dsimp only at aE aF aG);obtain⟨aH,aI,aJ⟩:=C3 y;(try dsimp only at aH aI aJ);obtain⟨aK,aL,aM⟩:=C3 z;(try dsimp only at aK aL aM);obtain⟨aN,aO,aP⟩:=C3 b7;(try dsimp only at aN aO aP);have h:=Hh hW;clear hW s t u v x y z b7;replace⟨a,h0⟩:=H2 a h0;go_enter func96,ntmps96;go_upto_region 10 with fail;rw[<-h.out];clear h;by_cases i:k=1
 .subst i;have b:Dw 1=Z [U6]:=rfl;replace b:=Hh b;go_wp2_with fail;refine(Ml _ _ _ _).mono ?_;rintro e d ⟨rfl,rfl⟩;go_wp2;go_ret2;exact Mm b.out ⟨_,rfl,a.size,Ah _ _,a.alloc a.size _⟩
 by_cases j:k=2
 .subst j;have b:Dw 2=Z [Da,Db]:=rfl;replace b:=Hh b;go_wp2_with fail;refine(Ml _ _ _ _).mono ?_;rintro e d ⟨rfl,rfl⟩;go_wp2;go_ret2;exact Mm b.out ⟨_,rfl,a.size,Ah _ _,a.alloc a.size _⟩
 by_cases n:k=3
 .subst n;have b:Dw 3=Z [Da,Db,Fa]:=rfl;replace b:=Hh b;go_wp2_with fail;refine(Ml _ _ _ _).mono ?_;rintro e d ⟨rfl,rfl⟩;go_wp2;go_ret2;exact Mm b.out ⟨_,rfl,a.size,Ah _ _,a.alloc a.size _⟩
 by_cases o:k=4
 .subst o;have b:Dw 4=Z [Da,Db,Fa]:=rfl;replace b:=Hh b;go_wp2_with fail;refine(Ml _ _ _ _).mono ?_;rintro e d ⟨rfl,rfl⟩;go_wp2;go_ret2;exact Mm b.out ⟨_,rfl,a.size,Ah _ _,a.alloc a.size _⟩
 by_cases p:k=5
 .subst p;have b:Dw 5=Z [Da,Db,Fa]:=rfl;replace b:=Hh b;go_wp2_with fail;refine(Ml _ _ _ _).mono ?_;rintro e d ⟨rfl,rfl⟩;go_wp2;go_ret2;exact Mm b.out ⟨_,rfl,a.size,Ah _ _,a.alloc a.size _⟩
 by_cases l:k=6
 .subst l;have b:Dw 6=Z [Mk]:=rfl;replace b:=Hh b;go_wp2_with fail;refine(Ml _ _ _ _).mono ?_;rintro e d ⟨rfl,rfl⟩;go_wp2;go_ret2;exact Mm b.out ⟨_,rfl,a.size,Ah _ _,a.alloc a.size _⟩
 by_cases m:k=7
 .subst m;have b:Dw 7=Z [Fa,U7,Fh,U8]:=rfl;replace b:=Hh b;go_wp2_with fail;refine(Ml _ _ _ _).mono ?_;rintro e d ⟨rfl,rfl⟩;go_wp2;go_ret2;exact Mm b.out ⟨_,rfl,a.size,Ah _ _,a.alloc a.size _⟩
 by_cases q:k=8
 .subst q;have b:Dw 8=Z [Fh,Mk]:=rfl;replace b:=Hh b;go_wp2_with fail;refine(Ml _ _ _ _).mono ?_;rintro e d ⟨rfl,rfl⟩;go_wp2;go_ret2;exact Mm b.out ⟨_,rfl,a.size,Ah _ _,a.alloc a.size _⟩
 by_cases r:k=9
 .subst r;have b:Dw 9=Z [Fh,Mk]:=rfl;replace b:=Hh b;go_wp2_with fail;refine(Ml _ _ _ _).mono ?_;rintro e d ⟨rfl,rfl⟩;go_wp2;go_ret2;exact Mm b.out ⟨_,rfl,a.size,Ah _ _,a.alloc a.size _⟩
 by_cases f:k=10
 .subst f;have b:Dw 10=Z [Da,Db,Fh]:=rfl;replace b:=Hh b;go_wp2_with fail;refine(Ml _ _ _ _).mono ?_;rintro e d ⟨rfl,rfl⟩;go_wp2;go_ret2;exact Mm b.out ⟨_,rfl,a.size,Ah _ _,a.alloc a.size _⟩
 by_cases g:k=11
 .subst g;have b:Dw 11=Z [Da,Db,Fh]:=rfl;replace b:=Hh b;go_wp2_with fail;refine(Ml _ _ _ _).mono ?_;rintro e d ⟨rfl,rfl⟩;go_wp2;go_ret2;exact Mm b.out ⟨_,rfl,a.size,Ah _ _,a.alloc a.size _⟩
 have b:Dw k=I:=by unfold Dw;rw[Ac i,Ac j,Ac ao9,Ac l,Ac m,Ac ao9,Ac ao9]
 replace b:=Hh b;have d1:=Bj.2 i;have d2:=Bj.2 j;have d3:=Bj.2 n;have d4:=Bj.2 o;have d5:=Bj.2 p;have d6:=Bj.2 l;have d7:=Bj.2 m;have d8:=Bj.2 q;have d9:=Bj.2 r;have aQ:=Bj.2 f;have aR:=Bj.2 g;replace⟨i,j,n,o,p,l,m,q⟩:=H8 i j n o p l m q;replace⟨r,f,g⟩:=H3 r f g;go_wp2;go_ret2;exact Arl b.out ⟨rfl,a.out⟩
structure ei where
 n:dh
 specs:List dm
structure de where
 n:dh
 so:Option Addr
 m:Nat
 c:Nat
 di:List ay
def de.pl (x:de):ei:=⟨x.n,x.di.map ay.pl⟩
abbrev de.cells (x:de):Array VL:=#[G O x.n.kind,G O x.n.ai,G O x.n.tick,G O x.n.ah,G O x.n.seq,G O x.n.bt,G O x.n.attempt,G O x.n.node,G O x.n.br,J x.so x.m x.c]
abbrev de.val (x:de):VL:=.agg #[G O x.n.kind,G O x.n.ai,G O x.n.tick,G O x.n.ah,G O x.n.seq,G O x.n.bt,G O x.n.attempt,G O x.n.node,G O x.n.br,J x.so x.m x.c]
structure de.ok (w:WD) (x:de):Prop where
 di:J6 w x.so x.m x.di
 ni:x.m<=x.c
 xw:∀i,-9223372036854775808<=x.n.get i/\x.n.get i<=9223372036854775807
def de.ok.low  {x:de} (h:x.ok w) (a:BW w.heap.size w w'):x.ok w':=⟨h.di.low a,h.ni,h.xw⟩
structure Ll (w:WD) (x:de) (wr:WD):Prop where
 low:BW w.heap.size w wr
 box:wr.heap[w.heap.size]?=Z (V x.cells 40 (0,0))
def Ll.below  {x:de} (h:Ll w x wr) (a:BW wr.heap.size wr w'):Ll w x w':=
 ⟨h.low.trans (a.mono h.low.size),Ae a h.box (Ab h.box)⟩
def Ll.new (w:WD) (x:de):Ll w x (w.alloc (V x.cells 40 (0,0))):=⟨Bn,Ah _ _⟩
def Ll.ok  {x:de} (h:Ll w x wr) (a:x.ok w):x.ok wr:=a.low h.low
def Arp (x:de)  (a:i<=8):x.cells[i]?=Z (G O (x.n.get i)):=by
 have:i=0\/i=1\/i=2\/i=3\/i=4\/i=5\/i=6\/i=7\/i=8:=ao9
 rcases this with rfl|rfl|rfl|rfl|rfl|rfl|rfl|rfl|rfl<;>rfl
def Arq (x:de)  (h1:1<=i) (a:i<=8) (v:Int):x.cells.setIfInBounds i (G O v)=(⟨x.n.set v i,x.so,x.m,x.c,x.di⟩:de).cells:=by
 have:i=1\/i=2\/i=3\/i=4\/i=5\/i=6\/i=7\/i=8:=ao9
 rcases this with rfl|rfl|rfl|rfl|rfl|rfl|rfl|rfl<;>simp[dh.set]
def Arr (e:dh) (v:Int) (i:Nat):(e.set v i).kind=e.kind:=by
 unfold dh.set
 split<;>rfl
def jf (e:dh) (f:il):Bool:=decide (f.2.1<=e.get f.1) && decide (e.get f.1<=f.2.2)
def F3:dh->List il->Option dh
 | e,[]=>Z e
 | e,f :: fs=>if jf e f=true then F3 (e.set 0 f.1) fs else I
def Lm (e:dh):Bool:=decide (e.ai=0) && decide (e.tick=0) && decide (e.ah=0) && decide (e.seq=0) && decide (e.bt=0) && decide (e.attempt=0) && decide (e.node=0) && decide (e.br=0)
def Vb (e:ei):Bool:=decide (e.n.kind=2) == decide (0<e.specs.length)
def F4 (e:ei):Bool:=match Dw e.n.kind with
 | none=>false
 | some fs=>match F3 e.n fs with
  | none=>false
  | some e'=>Vb e && decide (e.specs.length<=8) && e.specs.all Ct && Lm e'
def S8 (e:ei):Int:=if F4 e=true then 0 else 130
def Ym {e:ei} (h:F4 e=false):S8 e=130:=Ac (by rw[h];simp)
def Ahn {e:ei} (h:F4 e=true):S8 e=0:=Ad h
def Aho {e:ei} (h:Dw e.n.kind=I):F4 e=false:=by unfold F4;rw[h]
def Ahp {e:ei} {fs:List il} (h:Dw e.n.kind=Z fs) (a:F3 e.n fs=I):F4 e=false:=by unfold F4;rw[h];simp only[a]
def Ahq {e:ei} {fs:List il} {a:dh} (h:Dw e.n.kind=Z fs) (b:F3 e.n fs=Z a):F4 e=(Vb e && decide (e.specs.length<=8) && e.specs.all Ct && Lm a):=by unfold F4;rw[h];simp only[b]
def Ars {k:Int} {fs:List il} (h:Dw k=Z fs):fs.length<=4/\∀f,f∈fs->1<=f.1/\f.1<=8/\0<=f.2.1/\f.2.1<=f.2.2/\f.2.2<=1099511627776:=by
 unfold Dw at h
 repeat (split at h;(cases h;exact⟨ad9,ad9⟩))
 cases h
def Art {e:dh} {fs:List il} {k:Nat} {f:il} (b:fs[k]?=Z f):F3 e (fs.drop k)=if jf e f=true then F3 (e.set 0 f.1) (fs.drop (k+1))else I:=by
 obtain⟨c,a⟩:=Aq.1 b;rw[Aac c,a,F3]
def Aru  {g a:Nat} {fs:List il} (h:w.heap[g]?=Z (V (fs.flatMap (S4 a)).toArray 183 (0,0))) {k:Nat} {f:il} (e:fs[k]?=Z f) :
  w.cell? ⟨g,k*3,I⟩=Z (Q (Z ⟨a,f.1,I⟩))/\w.cell? ⟨g,k*3+1,I⟩=Z (G O f.2.1)/\w.cell? ⟨g,k*3+2,I⟩=Z (G O f.2.2):=by
 have b:=λj i=>Iw (cells:=λf=>(S4 a f).toArray) (sz:=3) (λ_=>rfl) fs (j:=j) e i;have d:Av (λf=>(S4 a f).toArray) fs=fs.flatMap (S4 a):=rfl;rw[d]at b;have h0:=b 0 ao9;have h1:=b 1 ao9;have c:=b 2 ao9;rw[L4]at h0 h1 c;refine⟨?_,?_,?_⟩
 .rw [Aa h];exact(L4 ..).trans h0
 .rw [Aa h];exact(L4 ..).trans h1
 .rw [Aa h];exact(L4 ..).trans c
structure Nr (w:WD) (g:Nat) (row:Array VL) (x:de) (wr:WD):Prop where
 bx:Ll w x wr
 row:wr.heap[g]?=Z (V row 183 (0,0))
def Nr.below    {x:de} (h:Nr w g row x wr) (a:BW wr.heap.size wr w'):Nr w g row x w':=
 ⟨h.bx.below a,Ae a h.row (Ab h.row)⟩
def Nr.set    {x:de} (h:Nr w g row x wr) (b:g≠w.heap.size)  (h1:1<=i) (a:i<=8):Nr w g row ⟨x.n.set 0 i,x.so,x.m,x.c,x.di⟩ (wr.setCell ⟨w.heap.size,i,I⟩ (G O 0)):=
 ⟨⟨h.bx.low.setCell Ln _,by rw[<-Arq x h1 a];exact Am h.bx.box i _⟩,Cv b _ h.row⟩
def Ahr (x:de) (w:WD) (hx:x.ok w):CS prog 57 #[x.val] w λe w'=>e=K (G O (S8 x.pl))/\BW w.heap.size w w':=by
 have aA:=Ll.new w x;have aT:(w.alloc (V x.cells 40 (0,0))).cell? ⟨w.heap.size,0,I⟩=Z (G O x.n.kind):=Aa aA.box 0;have hc:=Arn aT;unfold S5 at hc
 cases hf:Dw x.n.kind with
 | none=>
  rw[hf]at hc;have he:S8 x.pl=130:=Ym (Aho hf);obtain⟨⟨r,ai,tick,ah,seq,bt,attempt,node,br⟩,so,m,c,di⟩:=x;replace⟨aA,hc,hx,hf,he,aT⟩:=H6 aA hc hx hf he aT;go_enter func57,ntmps57;go_wp2_with fail;refine hc.mono ?_;rintro e w1 ⟨rfl,aC⟩;have a8:=aA.below aC;replace⟨a8,aC⟩:=H2 a8 aC;go_wp2;go_ret;exact⟨by rw[he.out];rfl,a8.low⟩
 | some fs=>
  rw[hf]at hc;obtain⟨bI,bd⟩:=Ars hf;obtain⟨n,hn⟩:=Ex (fs.length);unfold Ab3 at hc;simp only[<-hn]at hc;rw[<-hn]at bI;have bV:=hx.di.max;have aU:=hx.di.len;obtain⟨so,m,c,di,bD⟩:∃so m c di,x=⟨x.n,so,m,c,di⟩:=⟨x.so,x.m,x.c,x.di,rfl⟩;obtain⟨E9q,hE⟩:=Ex (S8 x.pl);rw[<-hE];obtain⟨row,aj⟩:=Ex ((fs.flatMap (S4 w.heap.size)).toArray);rw[<-aj]at hc;have ap:∀w1 g,BW (w.heap.size+1) (w.alloc (V x.cells 40 (0,0))) w1->w1.heap[g]?=Z (V row 183 (0,0))->Nr w g row x w1:=λw1 g hb hr=>⟨aA.below (by simpa using hb),hr⟩;obtain⟨⟨r,ai,tick,ah,seq,bt,attempt,node,br⟩,aE,u,c',t⟩:=x;simp only[de.mk.injEq,true_and]at bD;obtain⟨rfl,rfl,rfl,rfl⟩:=bD;obtain⟨X,hX⟩:∃X:de,X=⟨⟨r,ai,tick,ah,seq,bt,attempt,node,br⟩,aE,u,c',t⟩:=⟨_,rfl⟩;obtain⟨N,hN⟩:∃N:dh,N=⟨r,ai,tick,ah,seq,bt,attempt,node,br⟩:=⟨_,rfl⟩;replace⟨aA,hc,hx,hf,bd,hn,aT,hE⟩:=H8 aA hc hx hf bd hn aT hE;replace⟨aU,aj,ap,hX,hN⟩:=H5 aU aj ap hX hN;go_enter func57,ntmps57;go_wp2_with fail;refine hc.mono ?_;rintro e w1 ⟨g,rfl,bA,bf,aC⟩
  have be:g≠w.heap.size:=by
   have h1:(w.alloc (V (⟨⟨r,ai,tick,ah,seq,bt,attempt,node,br⟩,aE,u,c',t⟩:de).cells 40 (0,0))).heap.size=w.heap.size+1:=as9;omega
  have a1:=ap w1 g (by simpa using aC) bf;rw[<-hX.out]at a1;replace⟨bA,bf,aC,a1,be⟩:=H5 bA bf aC a1 be;go_wp2;go_loopw [17,6] (λiv _ wr=>∃(k:Nat) (a:dh),iv=G O k/\k<=n/\Hid (F3 N fs=F3 a (fs.drop k))/\Hid (a.kind=r)/\Hid (Nr w g row ⟨a,aE,u,c',t⟩ wr)) (λiv _ _=>n-(intOf iv).toNat)
  case atStart=>exact⟨0,N,rfl,As _,rfl,(by rw[hN.out]:N.kind=r),by rw[hN.out,<-hX.out];exact a1.out⟩
  case round=>
   obtain⟨k,a,rfl,hk,ba,bo,hW⟩:=hrel;by_cases bT:k<n
   .have bC:(k:Int)<n:=ao9;have bN:(0:Int)<=(k:Int):=ao9;obtain⟨f,aR⟩:=Ge fs k (by have:=hn.out;omega);obtain⟨q1,q8,_⟩:=bd f (Ai aR);obtain⟨i,lo,hi⟩:=f;have a3:=hW.row;rw[aj.out]at a3;obtain⟨z0,z1,z2⟩:=Aru a3 aR;simp only at z0 z1 z2 q1 q8;have a4:=Art (e:=a) aR;have bl:=Aa hW.bx.box i;rw[Arp _ q8]at bl;obtain⟨v,hv⟩:=Ex (a.get i);have a6:wr.cell? ⟨w.heap.size,i,I⟩=Z (G O v):=(by rw[hv];exact bl);clear bl;have hr:jf a (i,lo,hi)=(decide (lo<=v) && decide (v<=hi)):=(by rw[hv];rfl);obtain⟨W6,an⟩:=Ex (wr.alloc (V #[Q (Z ⟨w.heap.size,i,I⟩),G O lo,G O hi] 183 (0,0)));have ao:BW wr.heap.size wr W6:=(by rw[an];exact Bn);have aD:W6.heap[wr.heap.size]?=Z (V #[Q (Z ⟨w.heap.size,i,I⟩),G O lo,G O hi] 183 (0,0)):=(by rw[an];exact Ah _ _);have aK:=hW.below ao;obtain⟨c0,c1,c2⟩:=C3 aD;(try dsimp only at c0 c1 c2);have c6:=(Ag ao (Ab hW.bx.box)).trans a6;have bP:=Af aK.bx.box i
    have aH:jf a (i,lo,hi)=false->E9q=130:=λhq=>by
     rw[hE.out];refine Ym (Ahp hf.out ?_);show F3 (⟨r,ai,tick,ah,seq,bt,attempt,node,br⟩:dh) fs=I;have h:=ba.out;rw[hN.out]at h;rw[h,a4,Ac (by rw[hq];simp)]
    have aG:=Hh an;clear an;replace⟨aR,a3,a4,ao,aD,aK,aH,hv⟩:=H8 aR a3 a4 ao aD aK aH hv;go_upto_region 7 with fail;rw[<-aG.out];clear z0 z1 z2 a6 aG;by_cases g1:v<lo
    .have d1:=At g1;have d:=aH (by rw[hr,Au ao9];rfl);replace⟨hr,d,g1⟩:=H3 hr d g1;go_wp2;go_quiet (fail);go_wp2;go_ret;exact⟨by rw[d.out];rfl,(aK.bx.low).trans (Ba _ _ _)⟩
    have d1:=Au g1;by_cases g2:hi<v
    .have d2:=At g2;have d:=aH (by rw[hr,At ao9,Au ao9];rfl);replace⟨hr,d,g1,g2⟩:=H4 hr d g1 g2;go_wp2;go_quiet (fail);go_wp2;go_ret;exact⟨by rw[d.out];rfl,(aK.bx.low).trans (Ba _ _ _)⟩
    have d2:=Au g2;have bg:jf a (i,lo,hi)=true:=(by rw[hr,At ao9,At ao9];rfl);have aO:F3 N fs=F3 (a.set 0 i) (fs.drop (k+1)):=(by rw[ba.out,a4.out,Ad bg]);have aM:(a.set 0 i).kind=r:=(by rw[Arr,bo.out]);have aW:∀q,Nr w g row ⟨a.set 0 i,aE,u,c',t⟩ ((W6.drewN q).setCell ⟨w.heap.size,i,I⟩ (G O 0)):=λq=>(aK.below (Ba _ _ _)).set be.out q1 q8;replace⟨hr,bg,aO,aM,aW,g1,g2⟩:=H7 hr bg aO aM aW g1 g2;go_wp2;go_quiet (fail);go_wp2;go_roundw
    case rel=>exact⟨k+1,a.set 0 i,by go_num,ao9,aO.out,aM.out,aW _⟩
    case measure=>simp[intOf];omega
   .have bC:¬(k:Int)<n:=ao9;have bb:fs.drop k=[]:=List.drop_of_length_le (by have:=hn.out;omega);have aS:F3 ⟨r,ai,tick,ah,seq,bt,attempt,node,br⟩ fs=Z a:=(by rw[<-hN.out,ba.out,bb];rfl);have bi:=Ahq (e:=(⟨⟨r,ai,tick,ah,seq,bt,attempt,node,br⟩,aE,u,c',t⟩:de).pl) hf.out aS;obtain⟨k2,e2,t2,aI,s2,j2,a2,n2,h2⟩:=a;have bs:k2=r:=bo.out;subst bs;have aV:(t.map ay.pl).length=u:=(by rw[Ar,aU.out]);obtain⟨K9q,hK⟩:=Ex ((decide (k2=2) == decide (0<u)));obtain⟨L,hL⟩:=Ex (decide (u<=8));obtain⟨A,hA⟩:=Ex ((t.map ay.pl).all Ct);obtain⟨R,hR⟩:=Ex (Lm ⟨k2,e2,t2,aI,s2,j2,a2,n2,h2⟩);have a0:E9q=if (K9q && L && A && R)=true then 0 else 130:=(by rw[hE.out];unfold S8;rw[bi,hK,hL,hA,hR,<-aV];rfl);have y0:=Bk hW.bx.box 0 (G O k2) rfl;have y9:=Bk hW.bx.box 9 (J aE u c') rfl;obtain⟨q,hq⟩:∃q,q = !(K9q && L):=⟨_,rfl⟩;replace⟨bb,aS,bi,aV,hK,hL,hA,hR⟩:=H8 bb aS bi aV hK hL hA hR;replace⟨a0,hq⟩:=H2 a0 hq;go_upto_region 11 with fail;go_cut [54]from 41 to 55 (λbv wx=>RuB wr q bv wx)
    case first=>
     by_cases g1:k2=2
     .have d1:(k2 == (2:Int))=true:=(by rw[g1];rfl);by_cases g2:0<u
      .have d2:decide ((0:Int)<(u:Int))=true:=At ao9;have av:=At g2;by_cases g3:8<u
       .have d3:decide ((8:Int)<(u:Int))=true:=At ao9;have o:q=true:=(by rw[hq.out,hK.out,hL.out,At g1,av,Au (by omega:¬u<=8)];rfl);replace⟨g1,g2,g3,o⟩:=H4 g1 g2 g3 o;go_wp2;go_meet;exact⟨by rw[o.out],rfl⟩
       .have d3:decide ((8:Int)<(u:Int))=false:=Au ao9;have o:q=false:=(by rw[hq.out,hK.out,hL.out,At g1,av,At (by omega:u<=8)];rfl);replace⟨g1,g2,g3,o⟩:=H4 g1 g2 g3 o;go_wp2;go_meet;exact⟨by rw[o.out],rfl⟩
      .have d2:decide ((0:Int)<(u:Int))=false:=Au ao9;have av:=Au g2;have o:q=true:=(by rw[hq.out,hK.out,At g1,av];rfl);replace⟨g1,g2,o⟩:=H3 g1 g2 o;go_wp2;go_meet;exact⟨by rw[o.out],rfl⟩
     .have d1:=Bj.2 g1;by_cases g2:0<u
      .have d2:decide ((0:Int)<(u:Int))=true:=At ao9;have av:=At g2;have o:q=true:=(by rw[hq.out,hK.out,Au g1,av];rfl);replace⟨g1,g2,o⟩:=H3 g1 g2 o;go_wp2;go_meet;exact⟨by rw[o.out],rfl⟩
      .have d2:decide ((0:Int)<(u:Int))=false:=Au ao9;have av:=Au g2;have d3:decide ((8:Int)<(u:Int))=false:=Au ao9;have o:q=false:=(by rw[hq.out,hK.out,hL.out,Au g1,av,At (by omega:u<=8)];rfl);replace⟨g1,g2,o⟩:=H3 g1 g2 o;go_wp2;go_meet;exact⟨by rw[o.out],rfl⟩
    case rest=>
    obtain⟨rfl,bJ⟩:=hcut;subst bJ
    cases q with
    | true=>
     have d:E9q=130:=by
      have h:=hq.out;rw[a0.out];revert h
      cases K9q<;>cases L<;>intro h<;>first|rfl|cases h
     replace d:=Hh d;clear hq;go_wp2;go_ret;exact⟨by rw[d.out];rfl,hW.bx.low⟩
    | false=>
    have aL:K9q=true/\L=true:=by
     have h:=hq.out;revert h
     cases K9q<;>cases L<;>intro h<;>first|exact⟨rfl,rfl⟩|cases h
    have aF:E9q=if (A && R)=true then 0 else 130:=(by rw[a0.out,aL.1,aL.2];rfl);have bU:u<=8:=(by have h:=hL.out;rw[aL.2]at h;exact Io h.symm);clear hq;replace⟨aL,aF⟩:=H2 aL aF;go_wp2;go_loopw [58,8] (λiv _ wz=>∃k:Nat,iv=G O k/\k<=u/\Hid (∀j s,j<k->t[j]?=Z s->Ct s.pl=true)/\Hid (Nr w g row ⟨⟨k2,e2,t2,aI,s2,j2,a2,n2,h2⟩,aE,u,c',t⟩ wz)) (λiv _ _=>u-(intOf iv).toNat)
    case atStart=>exact⟨0,rfl,As _,(λj s h=>absurd h (Nc j)),hW.out⟩
    case round=>
     rename WD=>wz
     obtain⟨j,rfl,hj,a5,hZ⟩:=hrel;by_cases bS:j<u
     .have bB:(j:Int)<u:=ao9;have bR:(0:Int)<=(j:Int):=ao9;obtain⟨s,hs⟩:=Ge t j (by rw[aU.out];omega);have bn:=hx.di.low hZ.bx.low;obtain⟨b,y,rfl,bO,l,aX⟩:=bn.cell j s hs;obtain⟨⟨al,ad,nodes,⟨da,db,dc,dd⟩,am,af,array,ae,ac,after⟩,aZ,sn,aY⟩:=s;have z0:wz.cell? ⟨b,y+j*13,I⟩=Z (Y al):=l 0 ao9;have z1:wz.cell? ⟨b,y+j*13+1,I⟩=Z (Y ad):=l 1 ao9;have z2:wz.cell? ⟨b,y+j*13+2,I⟩=Z (G O nodes):=l 2 ao9;have z3:wz.cell? ⟨b,y+j*13+3,I⟩=Z (G O da):=l 3 ao9;have z4:wz.cell? ⟨b,y+j*13+4,I⟩=Z (G O db):=l 4 ao9;have z5:wz.cell? ⟨b,y+j*13+5,I⟩=Z (G O dc):=l 5 ao9;have z6:wz.cell? ⟨b,y+j*13+6,I⟩=Z (G O dd):=l 6 ao9;have z7:wz.cell? ⟨b,y+j*13+7,I⟩=Z (G O am):=l 7 ao9;have z8:wz.cell? ⟨b,y+j*13+8,I⟩=Z (G O af):=l 8 ao9;have z9:wz.cell? ⟨b,y+j*13+9,I⟩=Z (G O array):=l 9 ao9;have bK:wz.cell? ⟨b,y+j*13+10,I⟩=Z (G O ae):=l 10 ao9;have bL:wz.cell? ⟨b,y+j*13+11,I⟩=Z (D ac):=l 11 ao9;have bM:wz.cell? ⟨b,y+j*13+12,I⟩=Z (J aZ sn aY):=l 12 ao9;obtain⟨W6,an⟩:=Ex (wz.alloc (V (⟨⟨al,ad,nodes,⟨da,db,dc,dd⟩,am,af,array,ae,ac,after⟩,aZ,sn,aY⟩:ay).cells 33 (0,0)));have ao:BW wz.heap.size wz W6:=(by rw[an];exact Bn);have aD:W6.heap[wz.heap.size]?=Z (V (⟨⟨al,ad,nodes,⟨da,db,dc,dd⟩,am,af,array,ae,ac,after⟩,aZ,sn,aY⟩:ay).cells 33 (0,0)):=(by rw[an];exact Ah _ _);obtain⟨x0,x1,x2,x3,x4,x5,x6,x7,x8,x9,bE,bF,bG⟩:=C13 aD;(try dsimp only at x0 x1 x2 x3 x4 x5 x6 x7 x8 x9 bE bF bG);have a9:=hZ.below ao;have bw:=U3 ⟨⟨al,ad,nodes,⟨da,db,dc,dd⟩,am,af,array,ae,ac,after⟩,aZ,sn,aY⟩ W6 (aX.low ao);obtain⟨er,aQ⟩:=Ex (Mh (⟨al,ad,nodes,⟨da,db,dc,dd⟩,am,af,array,ae,ac,after⟩:dm))
      have aP:CS prog 97 #[(⟨⟨al,ad,nodes,⟨da,db,dc,dd⟩,am,af,array,ae,ac,after⟩,aZ,sn,aY⟩:ay).val] W6 λe w'=>e=K (G O er)/\BW W6.heap.size W6 w':=by rw[aQ];exact bw
      clear bw;have aG:=Hh an;clear an;replace⟨hs,bn,l,aX,ao,aD,a9,aP⟩:=H8 hs bn l aX ao aD a9 aP;replace aQ:=Hh aQ;go_upto_region 16 with fail;rw[<-aG.out];clear z0 z1 z2 z3 z4 z5 z6 z7 z8 z9 bK bL bM;go_wp2_with fail;refine aP.mono ?_;rintro e w7 ⟨rfl,aN⟩;have aJ:=a9.below aN;clear x0 x1 x2 x3 x4 x5 x6 x7 x8 x9 bE bF bG;by_cases gm:Ct (⟨al,ad,nodes,⟨da,db,dc,dd⟩,am,af,array,ae,ac,after⟩:dm)=true
      .have bc:er=0:=(by rw[aQ.out];exact Ad gm);subst bc;have d7:((0:Int) != (0:Int))=false:=rfl
       have aB:∀i s,i<j+1->t[i]?=Z s->Ct s.pl=true:=λi s hi bk=>by
        by_cases c:i=j
        .subst c;rw[hs.out]at bk;rw[<-K5 bk];exact gm
        .exact a5.out i s ao9 bk
       replace⟨aN,aJ,gm,aB⟩:=H4 aN aJ gm aB;go_wp2;go_roundw
       case rel=>exact⟨j+1,by go_num,ao9,aB.out,aJ.out⟩
       case measure=>simp[intOf];omega
      .have bc:er=80:=(by rw[aQ.out];exact Ac gm);subst bc;have d7:((80:Int) != (0:Int))=true:=rfl
       have d:E9q=130:=by
        have bH:A=false:=(by rw[hA.out,Gl];intro c;rw[Wz]at c;exact gm (c _ (A8.2 ⟨_,Ai hs.out,rfl⟩)));rw[aF.out,bH];rfl
       replace⟨aN,aJ,gm,d⟩:=H4 aN aJ gm d;go_wp2;go_ret;exact⟨by rw[d.out];rfl,aJ.bx.low⟩
     .have bB:¬(j:Int)<u:=ao9;have a7:A=true:=(by rw[hA.out,Wz];intro s hs;obtain⟨z,hz,rfl⟩:=A8.1 hs;obtain⟨i,hi⟩:=List.mem_iff_getElem?.1 hz;have bQ:=(Aq.1 hi).1;exact a5.out i z (by have:=aU.out;omega) hi);have p:E9q=if R=true then 0 else 130:=(by rw[aF.out,a7];rfl);have y1:=Bk hZ.bx.box 1 (G O e2) rfl;have y2:=Bk hZ.bx.box 2 (G O t2) rfl;have y3:=Bk hZ.bx.box 3 (G O aI) rfl;have y4:=Bk hZ.bx.box 4 (G O s2) rfl;have y5:=Bk hZ.bx.box 5 (G O j2) rfl;have y6:=Bk hZ.bx.box 6 (G O a2) rfl;have y7:=Bk hZ.bx.box 7 (G O n2) rfl;have y8:=Bk hZ.bx.box 8 (G O h2) rfl;replace⟨a7,p⟩:=H2 a7 p;clear y0 y9;by_cases u0:e2=0;rotate_left
      .have d0:(e2 != (0:Int))=true:=(by rw[Fs];exact u0);have d:E9q=130:=(by rw[p.out,Ac];rw[hR.out];unfold Lm;simp[u0]);replace⟨u0,d⟩:=H2 u0 d;go_wp2;go_ret;exact⟨by rw[d.out];rfl,hZ.bx.low⟩
      have d0:(e2 != (0:Int))=false:=(by rw[u0];rfl);by_cases u1:t2=0;rotate_left
      .have d1:(t2 != (0:Int))=true:=(by rw[Fs];exact u1);have d:E9q=130:=(by rw[p.out,Ac];rw[hR.out];unfold Lm;simp[u1]);replace⟨u0,u1,d⟩:=H3 u0 u1 d;go_wp2;go_ret;exact⟨by rw[d.out];rfl,hZ.bx.low⟩
      have d1:(t2 != (0:Int))=false:=(by rw[u1];rfl);by_cases u2:aI=0;rotate_left
      .have d2:(aI != (0:Int))=true:=(by rw[Fs];exact u2);have d:E9q=130:=(by rw[p.out,Ac];rw[hR.out];unfold Lm;simp[u2]);replace⟨u0,u1,u2,d⟩:=H4 u0 u1 u2 d;go_wp2;go_ret;exact⟨by rw[d.out];rfl,hZ.bx.low⟩
      have d2:(aI != (0:Int))=false:=(by rw[u2];rfl);by_cases u3:s2=0;rotate_left
      .have d3:(s2 != (0:Int))=true:=(by rw[Fs];exact u3);have d:E9q=130:=(by rw[p.out,Ac];rw[hR.out];unfold Lm;simp[u3]);replace⟨u0,u1,u2,u3,d⟩:=H5 u0 u1 u2 u3 d;go_wp2;go_ret;exact⟨by rw[d.out];rfl,hZ.bx.low⟩
      have d3:(s2 != (0:Int))=false:=(by rw[u3];rfl);by_cases u4:j2=0;rotate_left
      .have d4:(j2 != (0:Int))=true:=(by rw[Fs];exact u4);have d:E9q=130:=(by rw[p.out,Ac];rw[hR.out];unfold Lm;simp[u4]);replace⟨u0,u1,u2,u3,u4,d⟩:=H6 u0 u1 u2 u3 u4 d;go_wp2;go_ret;exact⟨by rw[d.out];rfl,hZ.bx.low⟩
      have d4:(j2 != (0:Int))=false:=(by rw[u4];rfl);by_cases u5:a2=0;rotate_left
      .have d5:(a2 != (0:Int))=true:=(by rw[Fs];exact u5);have d:E9q=130:=(by rw[p.out,Ac];rw[hR.out];unfold Lm;simp[u5]);replace⟨u0,u1,u2,u3,u4,u5,d⟩:=H7 u0 u1 u2 u3 u4 u5 d;go_wp2;go_ret;exact⟨by rw[d.out];rfl,hZ.bx.low⟩
      have d5:(a2 != (0:Int))=false:=(by rw[u5];rfl);by_cases u6:n2=0;rotate_left
      .have d6:(n2 != (0:Int))=true:=(by rw[Fs];exact u6);have d:E9q=130:=(by rw[p.out,Ac];rw[hR.out];unfold Lm;simp[u6]);replace⟨u0,u1,u2,u3,u4,u5,u6,d⟩:=H8 u0 u1 u2 u3 u4 u5 u6 d;go_wp2;go_ret;exact⟨by rw[d.out];rfl,hZ.bx.low⟩
      have d6:(n2 != (0:Int))=false:=(by rw[u6];rfl);by_cases u7:h2=0;rotate_left
      .have d7:(h2 != (0:Int))=true:=(by rw[Fs];exact u7);have d:E9q=130:=(by rw[p.out,Ac];rw[hR.out];unfold Lm;simp[u7]);replace⟨u0,u1,u2,u3,u4,u5,u6,u7⟩:=H8 u0 u1 u2 u3 u4 u5 u6 u7;replace d:=Hh d;go_wp2;go_ret;exact⟨by rw[d.out];rfl,hZ.bx.low⟩
      have d7:(h2 != (0:Int))=false:=(by rw[u7];rfl);have d:E9q=0:=(by rw[p.out,Ad];rw[hR.out];unfold Lm;simp[u0,u1,u2,u3,u4,u5,u6,u7]);replace⟨u0,u1,u2,u3,u4,u5,u6,u7⟩:=H8 u0 u1 u2 u3 u4 u5 u6 u7;replace d:=Hh d;go_wp2;go_ret;exact⟨by rw[d.out];rfl,hZ.bx.low⟩
def Arv (n h g:Int) (w:WD):CS prog 61 #[G O n,G O h,G O g] w λe w'=>e=K (D (Dm n h g))/\w'=w:=by
 by_cases a:h<=n
 .have d:=At a;by_cases b:n<=g
  .have i:=At b;have f:=C7.2 ⟨a,b⟩;replace⟨a,b,f⟩:=H3 a b f;go_enter func61,ntmps61;go_wp2;go_ret;exact⟨by rw[f.out];rfl,rfl⟩
  .have i:=Au b
   have f:Dm n h g=false:=by rw[Gl];exact λc=>b (C7.1 c).2
   replace⟨a,b,f⟩:=H3 a b f;go_enter func61,ntmps61;go_wp2;go_ret;exact⟨by rw[f.out];rfl,rfl⟩
 .have d:=Au a
  have f:Dm n h g=false:=by rw[Gl];exact λc=>a (C7.1 c).1
  replace⟨a,f⟩:=H2 a f;go_enter func61,ntmps61;go_wp2;go_ret;exact⟨by rw[f.out];rfl,rfl⟩
def Br (k:Int):Bool:=Dm k 2 5 || decide (k=10) || decide (k=11)
def Arw (k:Int) (w:WD):CS prog 33 #[G O k] w λe w'=>e=K (D (Br k))/\w'=w:=by
 have b:=Arv k 2 5 w;obtain⟨q,d⟩:=Ex (Dm k 2 5);obtain⟨z,c⟩:=Ex (Br k);rw[<-d]at b;rw[<-c]
 cases q with
 | true=>
  have a:z=true:=by rw[c];unfold Br;rw[<-d];rfl
  subst a;replace⟨b,d,c⟩:=H3 b d c;go_enter func33,ntmps33;go_wp2_with fail;refine b.mono ?_;rintro e w1 ⟨rfl,rfl⟩;go_wp2;go_ret;exact⟨rfl,rfl⟩
 | false=>
  by_cases h1:k=10
  .have f:(k == (10:Int))=true:=(by rw[h1];rfl);have a:z=true:=(by rw[c,h1];rfl);subst a;replace⟨b,d,c,h1⟩:=H4 b d c h1;go_enter func33,ntmps33;go_wp2_with fail;refine b.mono ?_;rintro e w1 ⟨rfl,rfl⟩;go_wp2;go_ret;exact⟨rfl,rfl⟩
  .have f:=Bj.2 h1;have a:z=(k == (11:Int)):=(by rw[c];unfold Br;rw[<-d,Au h1,Oe];simp);replace⟨b,d,c,h1,a⟩:=H5 b d c h1 a;go_enter func33,ntmps33;go_wp2_with fail;refine b.mono ?_;rintro e w1 ⟨rfl,rfl⟩;go_wp2;go_ret;exact⟨by rw[a.out];rfl,rfl⟩
def Cq (b:Bool):Int:=if b then 1 else 0
def Z5 (b:Bool) (w:WD):CS prog 55 #[D b] w λe w'=>e=K (G O (Cq b))/\w'=w:=by
 cases b
 all_goals
  go_enter func55,ntmps55;go_wp2;go_ret;exact⟨rfl,rfl⟩
def zB (zs:List Int):List UInt8:=zs.flatMap λz=>B7 (zz z)
abbrev I6 (zs:List Int):Prop:=∀z,z∈zs->-9223372036854775808<=z/\z<=9223372036854775807
def A2f  (h1:-9223372036854775808<=z) (a:z<=9223372036854775807):(B7 (zz z)).length<=10:=Oo (Ahg h1 a)
def Kf:∀(zs:List Int),I6 zs->(zB zs).length<=10*zs.length
 | [],_=>As _
 | z :: zs,h=>by
  have h1:=h z (D6 ..);have c:=A2f h1.1 h1.2;have a:=Kf zs λx b=>h x (Df _ b);simp only[zB,Ql,Az,D7]at a ⊢;omega
def Ane {zs:List Int}   (h:zs[i]?=Z z):zB (zs.take (i+1))=zB (zs.take i)++B7 (zz z):=by
 unfold zB;rw[L7,h,List.flatMap_append];simp
structure fi (w:WD) (l:List UInt8) (v:VL) (w':WD):Prop where
 own:∃so n c,v=J so n c/\J5 w' so n l
 low:BW w.heap.size w w'
def fi.lz  {B:Nat} {l:List UInt8} {v:VL} (h:Mj w' B v l) (b:BW w.heap.size w w'):fi w l v w':=by
 obtain⟨so,c,e,a⟩:=h.form;exact⟨⟨so,_,c,e,a⟩,b⟩
def Wf (so:Option Addr) (n c:Nat) (l:List UInt8) (zo:Option Addr) (k zc:Nat) (zs:List Int) (w:WD) (y:J5 w so n l) (t:Ap w zo k zs) (hr:I6 zs) (hn:n+10*k<=1099511627776) :
  CS prog 52 #[J so n c,J zo k zc] w λe w'=>∃v,e=K v/\fi w (l++zB zs) v w':=by
 have h:=t.len;have af:=t.max;have p:=y.len;have m:fi w (l++zB (zs.take 0)) (J so n c) w:=⟨⟨so,n,c,rfl,by simpa[zB]using y⟩,Below.refl _ _⟩;replace⟨y,t,hr,h,p,m⟩:=H6 y t hr h p m;go_enter func52,ntmps52;go_wp2;go_loopw [0,6,9] (λbv _ iv wr=>∃i:Nat,iv=G O i/\i<=k/\Hid (fi w (l++zB (zs.take i)) bv wr)) (λ_ _ iv _=>k-(intOf iv).toNat)
 case atStart=>exact⟨0,rfl,As _,m.out⟩
 case round=>
  rename WD=>wr
  obtain⟨i,rfl,hi,s⟩:=hrel;by_cases hc:i<k
  .have ac:(i:Int)<k:=ao9;have ad:(0:Int)<=(i:Int):=ao9;obtain⟨z,g⟩:=Ge zs i (by rw[h.out];exact hc);obtain⟨b,al,rfl,q,h0⟩:=t.cell i z g;have a0:=(Ag s.low q).trans h0;have j:=hr z (Ai g);obtain⟨bo,bn,bc,rfl,u⟩:=s.own;have o:=u.len
   have d:bn<=1099511627776:=by have h1:=Kf (zs.take i) λx hx=>hr.out x (Na hx);rw[Az,p.out]at o;rw[Dt,h.out]at h1;omega
   have kI:=Ahj bo bn bc _ z wr j.1 j.2 u d;have r:l++zB (zs.take (i+1))=l++zB (zs.take i)++B7 (zz z):=(by rw[Ane g];simp only[Fq]);replace⟨g,q,h0,j,u,d,kI,r⟩:=H8 g q h0 j u d kI r;replace o:=Hh o;go_wp2_with fail;refine kI.mono ?_;rintro e w1 ⟨v,rfl,hO,f⟩;have a:fi w (l++zB (zs.take (i+1))) v w1:=(by rw[r.out];exact .lz hO (s.low.trans (f.mono s.low.size)));replace⟨hO,f,a⟩:=H3 hO f a;go_wp2;go_roundw
   case rel=>exact⟨i+1,by go_num,ao9,a.out⟩
   case measure=>simp[intOf];omega
  .have ac:¬(i:Int)<k:=ao9;have a:fi w (l++zB zs) u0 wr:=(by have h1:=s.out;rw[Cr (by rw[h.out];omega)]at h1;exact h1);replace a:=Hh a;go_wp2;go_ret;exact⟨_,rfl,a.out⟩
def Aeh (so:Option Addr) (n c:Nat) (l:List UInt8) (zo:Option Addr) (a zc:Nat) (zs:List Int) (w:WD) (hb:J5 w so n l) (hz:Ap w zo a zs) (hr:I6 zs) (hn:n+10+10*a<=1099511627776) :
  CS prog 93 #[J so n c,J zo a zc] w λe w'=>∃v,e=K v/\fi w (l++(B7 a++zB zs)) v w':=by
 have m:=hz.len;have af:=hz.max;have t:=hb.len;have kU:=Ab1 so n c l a w ao9 hb ao9;have j:=Oo (n:=a) ao9;replace⟨hb,hz,hr,m,t,kU,j⟩:=H7 hb hz hr m t kU j;go_enter func93,ntmps93;go_wp2_with fail;refine kU.mono ?_;rintro e wu ⟨v0,rfl,p,f⟩;have q:fi w (l++B7 a++zB (zs.take 0)) v0 wu:=by have h1:=fi.lz p f;simpa[zB]using h1
 have s:(l++B7 a).length<=n+10:=by rw[Az,t.out];have:=j.out;omega
 replace⟨p,f,q,s⟩:=H4 p f q s;go_wp2;go_loopw [0,6,14] (λbv _ iv wr=>∃i:Nat,iv=G O i/\i<=a/\Hid (fi w (l++B7 a++zB (zs.take i)) bv wr)) (λ_ _ iv _=>a-(intOf iv).toNat)
 case atStart=>exact⟨0,rfl,As _,q.out⟩
 case round=>
  rename WD=>wr
  obtain⟨i,rfl,hi,hC⟩:=hrel;by_cases hc:i<a
  .have ac:(i:Int)<a:=ao9;have ad:(0:Int)<=(i:Int):=ao9;obtain⟨z,k⟩:=Ge zs i (by rw[m.out];exact hc);obtain⟨b,al,rfl,u,h0⟩:=hz.cell i z k;have a0:=(Ag hC.low u).trans h0;have o:=hr z (Ai k);obtain⟨bo,bn,bc,rfl,hB⟩:=hC.own;have r:=hB.len
   have g:bn<=1099511627776:=by have h1:=Kf (zs.take i) λx hx=>hr.out x (Na hx);have h2:=s.out;rw[Az]at r;rw[Dt,m.out]at h1;omega
   have kI:=Ahj bo bn bc _ z wr o.1 o.2 hB g;have y:l++B7 a++zB (zs.take (i+1))=l++B7 a++zB (zs.take i)++B7 (zz z):=(by rw[Ane k];simp only[Fq]);replace⟨k,u,h0,o,hB,g,kI,y⟩:=H8 k u h0 o hB g kI y;replace r:=Hh r;go_wp2_with fail;refine kI.mono ?_;rintro e w1 ⟨v,rfl,hO,h⟩;have d:fi w (l++B7 a++zB (zs.take (i+1))) v w1:=(by rw[y.out];exact .lz hO (hC.low.trans (h.mono hC.low.size)));replace⟨hO,h,d⟩:=H3 hO h d;go_wp2;go_roundw
   case rel=>exact⟨i+1,by go_num,ao9,d.out⟩
   case measure=>simp[intOf];omega
  .have ac:¬(i:Int)<a:=ao9;have d:fi w (l++(B7 a++zB zs)) u0 wr:=(by have h1:=hC.out;rw[Cr (by rw[m.out];omega),Fq]at h1;exact h1);replace d:=Hh d;go_wp2;go_ret;exact⟨_,rfl,d.out⟩
