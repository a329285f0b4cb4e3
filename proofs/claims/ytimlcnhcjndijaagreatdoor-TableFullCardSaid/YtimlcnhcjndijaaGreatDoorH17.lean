/- Parts of a proof. No condition. -/
import Derived.Test.YtimlcnhcjndijaaGreatDoorH16
import Derived.Test.YtimlcnhcjndijaaGreatDoorH11
set_option linter.all false
set_option maxRecDepth 100000
set_option maxHeartbeats 6400000
namespace Go.Proofs.YtimlcnhcjndijaaGreatDoor
open Option renaming some->O,none->I
open Value renaming pointer->K,int->Z,slice->V,bool->Y,tuple->D,string->E
open IntKind renaming i64->G
open Ending renaming returned->Q
open Obj renaming cells->J
open Go renaming World->WD,Value->VL,Calls->CS
open Go.RowKit renaming Below->BW
open Go.Proofs.Tryz
section
open Go.RowKit Go.Maps Go.Lib
variable{row:Array VL}{z:Int}{a g i:Nat}{w w' wr:WD}
structure de where
 kind:Int
 ai:Int
 tick:Int
 ah:Int
 seq:Int
 cq:Int
 attempt:Int
 node:Int
 br:Int
deriving DecidableEq
def de.get (e:de):Nat->Int
 | 0=>e.kind
 | 1=>e.ai
 | 2=>e.tick
 | 3=>e.ah
 | 4=>e.seq
 | 5=>e.cq
 | 6=>e.attempt
 | 7=>e.node
 | 8=>e.br
 | _=>0
def de.set (e:de) (v:Int):Nat->de
 | 1=>{ e with ai:=v }
 | 2=>{ e with tick:=v }
 | 3=>{ e with ah:=v }
 | 4=>{ e with seq:=v }
 | 5=>{ e with cq:=v }
 | 6=>{ e with attempt:=v }
 | 7=>{ e with node:=v }
 | 8=>{ e with br:=v }
 | _=>e
abbrev gz:=Nat×Int×Int
def Ug:gz:=(1,1,1099511627776)
def L4:gz:=(2,0,1099511627775)
def Cs:gz:=(3,1,16)
def Ct:gz:=(4,1,1099511627776)
def Ev:gz:=(5,1,100)
def Uh:gz:=(6,1,6)
def E4:gz:=(7,0,15)
def Ui:gz:=(8,1,3)
def Di (k:Int):Option (List gz):=
 if k=1 then O [Ug]else if k=2 then O [Cs,Ct]else if k=3\/k=4\/k=5 then O [Cs,Ct,Ev]else if k=6 then O [L4]
 else if k=7 then O [Ev,Uh,E4,Ui]else if k=8\/k=9 then O [E4,L4]else if k=10\/k=11 then O [Cs,Ct,E4]else I
def Sf (eb:Nat) (f:gz):List VL:=[K (O ⟨eb,f.1,I⟩),Z G f.2.1,Z G f.2.2]
def L5 (so:Option Addr) (n c:Nat) (w:WD):CS prog 150 #[V so n c] w λe w'=>e=Q (D #[V so n c,Y true])/\w'=w:=by
 go_enter func150,ntmps150;go_wp2;go_ret2;exact⟨rfl,rfl⟩
def Aa2 (eb:Nat) (fs:List gz) (w:WD) (e:Ending) (w':WD):Prop:=
 ∃g,e=Q (D #[V (O ⟨g,0,I⟩) fs.length fs.length,Y true])/\w.heap.size<=g/\w'.heap[g]?=O (J (fs.flatMap (Sf eb)).toArray 183 (0,0))/\BW w.heap.size w w'
def Sg (k:Int) (eb:Nat) (w:WD) (e:Ending) (w':WD):Prop:=match Di k with
 | some fs=>Aa2 eb fs w e w'
 | none=>e=Q (D #[V I 0 0,Y false])/\BW w.heap.size w w'
def L6 {k:Int}  {fs:List gz}  {e:Ending} (b:Di k=O fs) (h:Aa2 a fs w e w'):Sg k a w e w':=by unfold Sg;rw[b];exact h
def Apu {k:Int}   {e:Ending} (b:Di k=I) (h:e=Q (D #[V I 0 0,Y false])/\BW w.heap.size w w'):Sg k a w e w':=by unfold Sg;rw[b];exact h
def Apv (w:WD) (a b c d e f g h:Obj):((((((((w.alloc a).alloc b).alloc c).alloc d).alloc e).alloc f).alloc g).alloc h).heap[w.heap.size]?=O a/\((((((((w.alloc a).alloc b).alloc c).alloc d).alloc e).alloc f).alloc g).alloc h).heap[w.heap.size+1]?=O b/\((((((((w.alloc a).alloc b).alloc c).alloc d).alloc e).alloc f).alloc g).alloc h).heap[w.heap.size+1+1]?=O c/\((((((((w.alloc a).alloc b).alloc c).alloc d).alloc e).alloc f).alloc g).alloc h).heap[w.heap.size+1+1+1]?=O d/\((((((((w.alloc a).alloc b).alloc c).alloc d).alloc e).alloc f).alloc g).alloc h).heap[w.heap.size+1+1+1+1]?=O e/\((((((((w.alloc a).alloc b).alloc c).alloc d).alloc e).alloc f).alloc g).alloc h).heap[w.heap.size+1+1+1+1+1]?=O f/\((((((((w.alloc a).alloc b).alloc c).alloc d).alloc e).alloc f).alloc g).alloc h).heap[w.heap.size+1+1+1+1+1+1]?=O g/\((((((((w.alloc a).alloc b).alloc c).alloc d).alloc e).alloc f).alloc g).alloc h).heap[w.heap.size+1+1+1+1+1+1+1]?=O h/\BW w.heap.size w ((((((((w.alloc a).alloc b).alloc c).alloc d).alloc e).alloc f).alloc g).alloc h):=by
 exact⟨Ak h (Ak g (Ak f (Ak e (Ak d (Ak c (Ak b (A2 w a as9))))))),Ak h (Ak g (Ak f (Ak e (Ak d (Ak c (A2 (w.alloc a) b as9)))))),Ak h (Ak g (Ak f (Ak e (Ak d (A2 ((w.alloc a).alloc b) c as9))))),Ak h (Ak g (Ak f (Ak e (A2 (((w.alloc a).alloc b).alloc c) d as9)))),Ak h (Ak g (Ak f (A2 ((((w.alloc a).alloc b).alloc c).alloc d) e as9))),Ak h (Ak g (A2 (((((w.alloc a).alloc b).alloc c).alloc d).alloc e) f as9)),Ak h (A2 ((((((w.alloc a).alloc b).alloc c).alloc d).alloc e).alloc f) g as9),A2 (((((((w.alloc a).alloc b).alloc c).alloc d).alloc e).alloc f).alloc g) h as9,((((((((Below.refl _ _).alloc (by simp;try omega) _).alloc (by simp;try omega) _).alloc (by simp;try omega) _).alloc (by simp;try omega) _).alloc (by simp;try omega) _).alloc (by simp;try omega) _).alloc (by simp;try omega) _).alloc (by simp;try omega) _⟩
def Apw  {c:Nat} {k:Int} (h0:w.cell? ⟨c,0,I⟩=O (Z G k)):CS prog 96 #[K (O ⟨c,0,I⟩)] w (Sg k c w):=by
 have ac:=Vq w _ h0;obtain⟨W,hW⟩:=Ex (((((((((w.alloc (J #[K (O ⟨c,1,I⟩),Z G 1,Z G 1099511627776] 183 (0,0))).alloc (J #[K (O ⟨c,2,I⟩),Z G 0,Z G 1099511627775] 183 (0,0))).alloc (J #[K (O ⟨c,3,I⟩),Z G 1,Z G 16] 183 (0,0))).alloc (J #[K (O ⟨c,4,I⟩),Z G 1,Z G 1099511627776] 183 (0,0))).alloc (J #[K (O ⟨c,5,I⟩),Z G 1,Z G 100] 183 (0,0))).alloc (J #[K (O ⟨c,6,I⟩),Z G 1,Z G 6] 183 (0,0))).alloc (J #[K (O ⟨c,7,I⟩),Z G 0,Z G 15] 183 (0,0))).alloc (J #[K (O ⟨c,8,I⟩),Z G 1,Z G 3] 183 (0,0))));obtain⟨s,t,u,v,x,y,z,b7,a⟩:=Apv w (J #[K (O ⟨c,1,I⟩),Z G 1,Z G 1099511627776] 183 (0,0)) (J #[K (O ⟨c,2,I⟩),Z G 0,Z G 1099511627775] 183 (0,0)) (J #[K (O ⟨c,3,I⟩),Z G 1,Z G 16] 183 (0,0)) (J #[K (O ⟨c,4,I⟩),Z G 1,Z G 1099511627776] 183 (0,0)) (J #[K (O ⟨c,5,I⟩),Z G 1,Z G 100] 183 (0,0)) (J #[K (O ⟨c,6,I⟩),Z G 1,Z G 6] 183 (0,0)) (J #[K (O ⟨c,7,I⟩),Z G 0,Z G 15] 183 (0,0)) (J #[K (O ⟨c,8,I⟩),Z G 1,Z G 3] 183 (0,0));rw[<-hW]at s t u v x y z b7 a;have y0:W.cell? ⟨c,0,I⟩=O (Z G k):=(Af a ac).trans h0;obtain⟨ad,af,al⟩:=C3 s;(try dsimp only at ad af al);obtain⟨am,an,ao⟩:=C3 t;(try dsimp only at am an ao);obtain⟨ap,av,aA⟩:=C3 u;(try dsimp only at ap av aA);obtain⟨aB,aC,aD⟩:=C3 v;(try dsimp only at aB aC aD);obtain⟨aE,aF,aG⟩:=C3 x;(try dsimp only at aE aF aG);obtain⟨aH,aI,aJ⟩:=C3 y;(try dsimp only at aH aI aJ);obtain⟨aK,aL,aM⟩:=C3 z;(try dsimp only at aK aL aM);obtain⟨aN,aO,aP⟩:=C3 b7;(try dsimp only at aN aO aP);have h:=Hh hW;clear hW s t u v x y z b7;replace⟨a,h0⟩:=H2 a h0;go_enter func96,ntmps96;go_upto_region 10 with fail;rw[<-h.out];clear h;by_cases i:k=1
 .subst i;have b:Di 1=O [Ug]:=rfl;replace b:=Hh b;go_wp2_with fail;refine(L5 _ _ _ _).mono ?_;rintro e d ⟨rfl,rfl⟩;go_wp2;go_ret2;exact L6 b.out ⟨_,rfl,a.size,Ah _ _,a.alloc a.size _⟩
 by_cases j:k=2
 .subst j;have b:Di 2=O [Cs,Ct]:=rfl;replace b:=Hh b;go_wp2_with fail;refine(L5 _ _ _ _).mono ?_;rintro e d ⟨rfl,rfl⟩;go_wp2;go_ret2;exact L6 b.out ⟨_,rfl,a.size,Ah _ _,a.alloc a.size _⟩
 by_cases n:k=3
 .subst n;have b:Di 3=O [Cs,Ct,Ev]:=rfl;replace b:=Hh b;go_wp2_with fail;refine(L5 _ _ _ _).mono ?_;rintro e d ⟨rfl,rfl⟩;go_wp2;go_ret2;exact L6 b.out ⟨_,rfl,a.size,Ah _ _,a.alloc a.size _⟩
 by_cases o:k=4
 .subst o;have b:Di 4=O [Cs,Ct,Ev]:=rfl;replace b:=Hh b;go_wp2_with fail;refine(L5 _ _ _ _).mono ?_;rintro e d ⟨rfl,rfl⟩;go_wp2;go_ret2;exact L6 b.out ⟨_,rfl,a.size,Ah _ _,a.alloc a.size _⟩
 by_cases p:k=5
 .subst p;have b:Di 5=O [Cs,Ct,Ev]:=rfl;replace b:=Hh b;go_wp2_with fail;refine(L5 _ _ _ _).mono ?_;rintro e d ⟨rfl,rfl⟩;go_wp2;go_ret2;exact L6 b.out ⟨_,rfl,a.size,Ah _ _,a.alloc a.size _⟩
 by_cases l:k=6
 .subst l;have b:Di 6=O [L4]:=rfl;replace b:=Hh b;go_wp2_with fail;refine(L5 _ _ _ _).mono ?_;rintro e d ⟨rfl,rfl⟩;go_wp2;go_ret2;exact L6 b.out ⟨_,rfl,a.size,Ah _ _,a.alloc a.size _⟩
 by_cases m:k=7
 .subst m;have b:Di 7=O [Ev,Uh,E4,Ui]:=rfl;replace b:=Hh b;go_wp2_with fail;refine(L5 _ _ _ _).mono ?_;rintro e d ⟨rfl,rfl⟩;go_wp2;go_ret2;exact L6 b.out ⟨_,rfl,a.size,Ah _ _,a.alloc a.size _⟩
 by_cases q:k=8
 .subst q;have b:Di 8=O [E4,L4]:=rfl;replace b:=Hh b;go_wp2_with fail;refine(L5 _ _ _ _).mono ?_;rintro e d ⟨rfl,rfl⟩;go_wp2;go_ret2;exact L6 b.out ⟨_,rfl,a.size,Ah _ _,a.alloc a.size _⟩
 by_cases r:k=9
 .subst r;have b:Di 9=O [E4,L4]:=rfl;replace b:=Hh b;go_wp2_with fail;refine(L5 _ _ _ _).mono ?_;rintro e d ⟨rfl,rfl⟩;go_wp2;go_ret2;exact L6 b.out ⟨_,rfl,a.size,Ah _ _,a.alloc a.size _⟩
 by_cases f:k=10
 .subst f;have b:Di 10=O [Cs,Ct,E4]:=rfl;replace b:=Hh b;go_wp2_with fail;refine(L5 _ _ _ _).mono ?_;rintro e d ⟨rfl,rfl⟩;go_wp2;go_ret2;exact L6 b.out ⟨_,rfl,a.size,Ah _ _,a.alloc a.size _⟩
 by_cases g:k=11
 .subst g;have b:Di 11=O [Cs,Ct,E4]:=rfl;replace b:=Hh b;go_wp2_with fail;refine(L5 _ _ _ _).mono ?_;rintro e d ⟨rfl,rfl⟩;go_wp2;go_ret2;exact L6 b.out ⟨_,rfl,a.size,Ah _ _,a.alloc a.size _⟩
 have b:Di k=I:=by unfold Di;rw[Ab i,Ab j,Ab ao9,Ab l,Ab m,Ab ao9,Ab ao9]
 replace b:=Hh b;have d1:=Bh.2 i;have d2:=Bh.2 j;have d3:=Bh.2 n;have d4:=Bh.2 o;have d5:=Bh.2 p;have d6:=Bh.2 l;have d7:=Bh.2 m;have d8:=Bh.2 q;have d9:=Bh.2 r;have aQ:=Bh.2 f;have aR:=Bh.2 g;replace⟨i,j,n,o,p,l,m,q⟩:=H8 i j n o p l m q;replace⟨r,f,g⟩:=H3 r f g;go_wp2;go_ret2;exact Apu b.out ⟨rfl,a.out⟩
structure gh where
 n:de
 specs:List dn
structure dt where
 n:de
 so:Option Addr
 m:Nat
 c:Nat
 dm:List ax
def dt.pl (x:dt):gh:=⟨x.n,x.dm.map ax.pl⟩
abbrev dt.cells (x:dt):Array VL:=#[Z G x.n.kind,Z G x.n.ai,Z G x.n.tick,Z G x.n.ah,Z G x.n.seq,Z G x.n.cq,Z G x.n.attempt,Z G x.n.node,Z G x.n.br,V x.so x.m x.c]
abbrev dt.val (x:dt):VL:=.agg #[Z G x.n.kind,Z G x.n.ai,Z G x.n.tick,Z G x.n.ah,Z G x.n.seq,Z G x.n.cq,Z G x.n.attempt,Z G x.n.node,Z G x.n.br,V x.so x.m x.c]
structure dt.ok (w:WD) (x:dt):Prop where
 dm:L8 w x.so x.m x.dm
 nu:x.m<=x.c
 xj:∀i,-9223372036854775808<=x.n.get i/\x.n.get i<=9223372036854775807
def dt.ok.low  {x:dt} (h:x.ok w) (a:BW w.heap.size w w'):x.ok w':=⟨h.dm.low a,h.nu,h.xj⟩
structure L9 (w:WD) (x:dt) (wr:WD):Prop where
 low:BW w.heap.size w wr
 box:wr.heap[w.heap.size]?=O (J x.cells 40 (0,0))
def L9.below  {x:dt} (h:L9 w x wr) (a:BW wr.heap.size wr w'):L9 w x w':=
 ⟨h.low.trans (a.mono h.low.size),Ae a h.box (Ac h.box)⟩
def L9.new (w:WD) (x:dt):L9 w x (w.alloc (J x.cells 40 (0,0))):=⟨Bn,Ah _ _⟩
def L9.ok  {x:dt} (h:L9 w x wr) (a:x.ok w):x.ok wr:=a.low h.low
def Apy (x:dt)  (a:i<=8):x.cells[i]?=O (Z G (x.n.get i)):=by
 have:i=0\/i=1\/i=2\/i=3\/i=4\/i=5\/i=6\/i=7\/i=8:=ao9
 rcases this with rfl|rfl|rfl|rfl|rfl|rfl|rfl|rfl|rfl<;>rfl
def Apz (x:dt)  (h1:1<=i) (a:i<=8) (v:Int):x.cells.setIfInBounds i (Z G v)=(⟨x.n.set v i,x.so,x.m,x.c,x.dm⟩:dt).cells:=by
 have:i=1\/i=2\/i=3\/i=4\/i=5\/i=6\/i=7\/i=8:=ao9
 rcases this with rfl|rfl|rfl|rfl|rfl|rfl|rfl|rfl<;>simp[de.set]
def Ap0 (e:de) (v:Int) (i:Nat):(e.set v i).kind=e.kind:=by
 unfold de.set
 split<;>rfl
def iw (e:de) (f:gz):Bool:=decide (f.2.1<=e.get f.1) && decide (e.get f.1<=f.2.2)
def Fl:de->List gz->Option de
 | e,[]=>O e
 | e,f :: fs=>if iw e f=true then Fl (e.set 0 f.1) fs else I
def Jt (e:de):Bool:=decide (e.ai=0) && decide (e.tick=0) && decide (e.ah=0) && decide (e.seq=0) && decide (e.cq=0) && decide (e.attempt=0) && decide (e.node=0) && decide (e.br=0)
def Ql (e:gh):Bool:=decide (e.n.kind=2) == decide (0<e.specs.length)
def Ew (e:gh):Bool:=match Di e.n.kind with
 | none=>false
 | some fs=>match Fl e.n fs with
  | none=>false
  | some e'=>Ql e && decide (e.specs.length<=8) && e.specs.all Cb && Jt e'
def Sj (e:gh):Int:=if Ew e=true then 0 else 130
def Xr {e:gh} (h:Ew e=false):Sj e=130:=Ab (by rw[h];simp)
def Af3 {e:gh} (h:Ew e=true):Sj e=0:=Ad h
def Af4 {e:gh} (h:Di e.n.kind=I):Ew e=false:=by unfold Ew;rw[h]
def Af5 {e:gh} {fs:List gz} (h:Di e.n.kind=O fs) (a:Fl e.n fs=I):Ew e=false:=by unfold Ew;rw[h];simp only[a]
def Xs {e:gh} {fs:List gz} {e':de} (h:Di e.n.kind=O fs) (a:Fl e.n fs=O e'):Ew e=(Ql e && decide (e.specs.length<=8) && e.specs.all Cb && Jt e'):=by unfold Ew;rw[h];simp only[a]
def Ap1 {k:Int} {fs:List gz} (h:Di k=O fs):fs.length<=4/\∀f,f∈fs->1<=f.1/\f.1<=8/\0<=f.2.1/\f.2.1<=f.2.2/\f.2.2<=1099511627776:=by
 unfold Di at h
 repeat (split at h;(cases h;exact⟨ad9,ad9⟩))
 cases h
def Ap2 {e:de} {fs:List gz} {k:Nat} {f:gz} (b:fs[k]?=O f):Fl e (fs.drop k)=if iw e f=true then Fl (e.set 0 f.1) (fs.drop (k+1))else I:=by
 obtain⟨c,a⟩:=Ap.1 b;rw[List.drop_eq_getElem_cons c,a,Fl]
def Ap3   {fs:List gz} (h:w.heap[g]?=O (J (fs.flatMap (Sf a)).toArray 183 (0,0))) {k:Nat} {f:gz} (e:fs[k]?=O f) :
  w.cell? ⟨g,k*3,I⟩=O (K (O ⟨a,f.1,I⟩))/\w.cell? ⟨g,k*3+1,I⟩=O (Z G f.2.1)/\w.cell? ⟨g,k*3+2,I⟩=O (Z G f.2.2):=by
 have b:=λj i=>I3 (cells:=λf=>(Sf a f).toArray) (sz:=3) (λ_=>rfl) fs (j:=j) e i;have d:Aq (λf=>(Sf a f).toArray) fs=fs.flatMap (Sf a):=rfl;rw[d]at b;have h0:=b 0 ao9;have h1:=b 1 ao9;have c:=b 2 ao9;rw[Lp]at h0 h1 c;refine⟨?_,?_,?_⟩
 .rw [Aa h];exact(Lp ..).trans h0
 .rw [Aa h];exact(Lp ..).trans h1
 .rw [Aa h];exact(Lp ..).trans c
structure Ng (w:WD) (g:Nat) (row:Array VL) (x:dt) (wr:WD):Prop where
 bx:L9 w x wr
 row:wr.heap[g]?=O (J row 183 (0,0))
def Ng.below    {x:dt} (h:Ng w g row x wr) (a:BW wr.heap.size wr w'):Ng w g row x w':=
 ⟨h.bx.below a,Ae a h.row (Ac h.row)⟩
def Ng.set    {x:dt} (h:Ng w g row x wr) (b:g≠w.heap.size)  (h1:1<=i) (a:i<=8):Ng w g row ⟨x.n.set 0 i,x.so,x.m,x.c,x.dm⟩ (wr.setCell ⟨w.heap.size,i,I⟩ (Z G 0)):=
 ⟨⟨h.bx.low.setCell Ln _,by rw[<-Apz x h1 a];exact Am h.bx.box i _⟩,Dg b _ h.row⟩
def Af6 (x:dt) (w:WD) (hx:x.ok w):CS prog 57 #[x.val] w λe w'=>e=Q (Z G (Sj x.pl))/\BW w.heap.size w w':=by
 have aA:=L9.new w x;have aT:(w.alloc (J x.cells 40 (0,0))).cell? ⟨w.heap.size,0,I⟩=O (Z G x.n.kind):=Aa aA.box 0;have hc:=Apw aT;unfold Sg at hc
 cases hf:Di x.n.kind with
 | none=>
  rw[hf]at hc;have he:Sj x.pl=130:=Xr (Af4 hf);obtain⟨⟨r,ai,tick,ah,seq,cq,attempt,node,br⟩,so,m,c,dm⟩:=x;replace⟨aA,hc,hx,hf,he,aT⟩:=H6 aA hc hx hf he aT;go_enter func57,ntmps57;go_wp2_with fail;refine hc.mono ?_;rintro e w1 ⟨rfl,aC⟩;have a8:=aA.below aC;replace⟨a8,aC⟩:=H2 a8 aC;go_wp2;go_ret;exact⟨by rw[he.out];rfl,a8.low⟩
 | some fs=>
  rw[hf]at hc;obtain⟨bI,bd⟩:=Ap1 hf;obtain⟨n,hn⟩:=Ex (fs.length);unfold Aa2 at hc;simp only[<-hn]at hc;rw[<-hn]at bI;have bV:=hx.dm.max;have aU:=hx.dm.len;obtain⟨so,m,c,dm,bD⟩:∃so m c dm,x=⟨x.n,so,m,c,dm⟩:=⟨x.so,x.m,x.c,x.dm,rfl⟩;obtain⟨E9q,hE⟩:=Ex (Sj x.pl);rw[<-hE];obtain⟨row,ak⟩:=Ex ((fs.flatMap (Sf w.heap.size)).toArray);rw[<-ak]at hc;have ap:∀w1 g,BW (w.heap.size+1) (w.alloc (J x.cells 40 (0,0))) w1->w1.heap[g]?=O (J row 183 (0,0))->Ng w g row x w1:=λw1 g hb hr=>⟨aA.below (by simpa using hb),hr⟩;obtain⟨⟨r,ai,tick,ah,seq,cq,attempt,node,br⟩,aE,u,c',t⟩:=x;simp only[dt.mk.injEq,true_and]at bD;obtain⟨rfl,rfl,rfl,rfl⟩:=bD;obtain⟨X,hX⟩:∃X:dt,X=⟨⟨r,ai,tick,ah,seq,cq,attempt,node,br⟩,aE,u,c',t⟩:=⟨_,rfl⟩;obtain⟨N,hN⟩:∃N:de,N=⟨r,ai,tick,ah,seq,cq,attempt,node,br⟩:=⟨_,rfl⟩;replace⟨aA,hc,hx,hf,bd,hn,aT,hE⟩:=H8 aA hc hx hf bd hn aT hE;replace⟨aU,ak,ap,hX,hN⟩:=H5 aU ak ap hX hN;go_enter func57,ntmps57;go_wp2_with fail;refine hc.mono ?_;rintro e w1 ⟨g,rfl,bA,bf,aC⟩
  have be:g≠w.heap.size:=by
   have h1:(w.alloc (J (⟨⟨r,ai,tick,ah,seq,cq,attempt,node,br⟩,aE,u,c',t⟩:dt).cells 40 (0,0))).heap.size=w.heap.size+1:=as9;omega
  have a1:=ap w1 g (by simpa using aC) bf;rw[<-hX.out]at a1;replace⟨bA,bf,aC,a1,be⟩:=H5 bA bf aC a1 be;go_wp2;go_loopw [17,6] (λiv _ wr=>∃(k:Nat) (a:de),iv=Z G k/\k<=n/\Hid (Fl N fs=Fl a (fs.drop k))/\Hid (a.kind=r)/\Hid (Ng w g row ⟨a,aE,u,c',t⟩ wr)) (λiv _ _=>n-(intOf iv).toNat)
  case atStart=>exact⟨0,N,rfl,Ar _,rfl,(by rw[hN.out]:N.kind=r),by rw[hN.out,<-hX.out];exact a1.out⟩
  case round=>
   obtain⟨k,a,rfl,hk,ba,bo,hW⟩:=hrel;by_cases bT:k<n
   .have bC:(k:Int)<n:=ao9;have bN:(0:Int)<=(k:Int):=ao9;obtain⟨f,aR⟩:=Ge fs k (by have:=hn.out;omega);obtain⟨q1,q8,_⟩:=bd f (Ai aR);obtain⟨i,lo,hi⟩:=f;have a3:=hW.row;rw[ak.out]at a3;obtain⟨z0,z1,z2⟩:=Ap3 a3 aR;simp only at z0 z1 z2 q1 q8;have a4:=Ap2 (e:=a) aR;have bl:=Aa hW.bx.box i;rw[Apy _ q8]at bl;obtain⟨v,hv⟩:=Ex (a.get i);have a6:wr.cell? ⟨w.heap.size,i,I⟩=O (Z G v):=(by rw[hv];exact bl);clear bl;have hr:iw a (i,lo,hi)=(decide (lo<=v) && decide (v<=hi)):=(by rw[hv];rfl);obtain⟨W6,an⟩:=Ex (wr.alloc (J #[K (O ⟨w.heap.size,i,I⟩),Z G lo,Z G hi] 183 (0,0)));have ao:BW wr.heap.size wr W6:=(by rw[an];exact Bn);have aD:W6.heap[wr.heap.size]?=O (J #[K (O ⟨w.heap.size,i,I⟩),Z G lo,Z G hi] 183 (0,0)):=(by rw[an];exact Ah _ _);have aK:=hW.below ao;obtain⟨c0,c1,c2⟩:=C3 aD;(try dsimp only at c0 c1 c2);have c6:=(Af ao (Ac hW.bx.box)).trans a6;have bP:=Ag aK.bx.box i
    have aH:iw a (i,lo,hi)=false->E9q=130:=λhq=>by
     rw[hE.out];refine Xr (Af5 hf.out ?_);show Fl (⟨r,ai,tick,ah,seq,cq,attempt,node,br⟩:de) fs=I;have h:=ba.out;rw[hN.out]at h;rw[h,a4,Ab (by rw[hq];simp)]
    have aG:=Hh an;clear an;replace⟨aR,a3,a4,ao,aD,aK,aH,hv⟩:=H8 aR a3 a4 ao aD aK aH hv;go_upto_region 7 with fail;rw[<-aG.out];clear z0 z1 z2 a6 aG;by_cases g1:v<lo
    .have d1:=Bs g1;have d:=aH (by rw[hr,Bz ao9];rfl);replace⟨hr,d,g1⟩:=H3 hr d g1;go_wp2;go_quiet (fail);go_wp2;go_ret;exact⟨by rw[d.out];rfl,(aK.bx.low).trans (A6 _ _ _)⟩
    have d1:=Bz g1;by_cases g2:hi<v
    .have d2:=Bs g2;have d:=aH (by rw[hr,Bs ao9,Bz ao9];rfl);replace⟨hr,d,g1,g2⟩:=H4 hr d g1 g2;go_wp2;go_quiet (fail);go_wp2;go_ret;exact⟨by rw[d.out];rfl,(aK.bx.low).trans (A6 _ _ _)⟩
    have d2:=Bz g2;have bg:iw a (i,lo,hi)=true:=(by rw[hr,Bs ao9,Bs ao9];rfl);have aO:Fl N fs=Fl (a.set 0 i) (fs.drop (k+1)):=(by rw[ba.out,a4.out,Ad bg]);have aM:(a.set 0 i).kind=r:=(by rw[Ap0,bo.out]);have aW:∀q,Ng w g row ⟨a.set 0 i,aE,u,c',t⟩ ((W6.drewN q).setCell ⟨w.heap.size,i,I⟩ (Z G 0)):=λq=>(aK.below (A6 _ _ _)).set be.out q1 q8;replace⟨hr,bg,aO,aM,aW,g1,g2⟩:=H7 hr bg aO aM aW g1 g2;go_wp2;go_quiet (fail);go_wp2;go_roundw
    case rel=>exact⟨k+1,a.set 0 i,by go_num,ao9,aO.out,aM.out,aW _⟩
    case measure=>simp[intOf];omega
   .have bC:¬(k:Int)<n:=ao9;have bb:fs.drop k=[]:=List.drop_of_length_le (by have:=hn.out;omega);have aS:Fl ⟨r,ai,tick,ah,seq,cq,attempt,node,br⟩ fs=O a:=(by rw[<-hN.out,ba.out,bb];rfl);have bi:=Xs (e:=(⟨⟨r,ai,tick,ah,seq,cq,attempt,node,br⟩,aE,u,c',t⟩:dt).pl) hf.out aS;obtain⟨k2,e2,t2,aI,s2,j2,a2,n2,h2⟩:=a;have bs:k2=r:=bo.out;subst bs;have aV:(t.map ax.pl).length=u:=(by rw[As,aU.out]);obtain⟨K9q,hK⟩:=Ex ((decide (k2=2) == decide (0<u)));obtain⟨L,hL⟩:=Ex (decide (u<=8));obtain⟨A,hA⟩:=Ex ((t.map ax.pl).all Cb);obtain⟨R,hR⟩:=Ex (Jt ⟨k2,e2,t2,aI,s2,j2,a2,n2,h2⟩);have a0:E9q=if (K9q && L && A && R)=true then 0 else 130:=(by rw[hE.out];unfold Sj;rw[bi,hK,hL,hA,hR,<-aV];rfl);have y0:=Bk hW.bx.box 0 (Z G k2) rfl;have y9:=Bk hW.bx.box 9 (V aE u c') rfl;obtain⟨q,hq⟩:∃q,q = !(K9q && L):=⟨_,rfl⟩;replace⟨bb,aS,bi,aV,hK,hL,hA,hR⟩:=H8 bb aS bi aV hK hL hA hR;replace⟨a0,hq⟩:=H2 a0 hq;go_upto_region 11 with fail;go_cut [54]from 41 to 55 (λbv wx=>zq wr q bv wx)
    case first=>
     by_cases g1:k2=2
     .have d1:(k2 == (2:Int))=true:=(by rw[g1];rfl);by_cases g2:0<u
      .have d2:decide ((0:Int)<(u:Int))=true:=Bs ao9;have av:=Bs g2;by_cases g3:8<u
       .have d3:decide ((8:Int)<(u:Int))=true:=Bs ao9;have o:q=true:=(by rw[hq.out,hK.out,hL.out,Bs g1,av,Bz (by omega:¬u<=8)];rfl);replace⟨g1,g2,g3,o⟩:=H4 g1 g2 g3 o;go_wp2;go_meet;exact⟨by rw[o.out],rfl⟩
       .have d3:decide ((8:Int)<(u:Int))=false:=Bz ao9;have o:q=false:=(by rw[hq.out,hK.out,hL.out,Bs g1,av,Bs (by omega:u<=8)];rfl);replace⟨g1,g2,g3,o⟩:=H4 g1 g2 g3 o;go_wp2;go_meet;exact⟨by rw[o.out],rfl⟩
      .have d2:decide ((0:Int)<(u:Int))=false:=Bz ao9;have av:=Bz g2;have o:q=true:=(by rw[hq.out,hK.out,Bs g1,av];rfl);replace⟨g1,g2,o⟩:=H3 g1 g2 o;go_wp2;go_meet;exact⟨by rw[o.out],rfl⟩
     .have d1:=Bh.2 g1;by_cases g2:0<u
      .have d2:decide ((0:Int)<(u:Int))=true:=Bs ao9;have av:=Bs g2;have o:q=true:=(by rw[hq.out,hK.out,Bz g1,av];rfl);replace⟨g1,g2,o⟩:=H3 g1 g2 o;go_wp2;go_meet;exact⟨by rw[o.out],rfl⟩
      .have d2:decide ((0:Int)<(u:Int))=false:=Bz ao9;have av:=Bz g2;have d3:decide ((8:Int)<(u:Int))=false:=Bz ao9;have o:q=false:=(by rw[hq.out,hK.out,hL.out,Bz g1,av,Bs (by omega:u<=8)];rfl);replace⟨g1,g2,o⟩:=H3 g1 g2 o;go_wp2;go_meet;exact⟨by rw[o.out],rfl⟩
    case rest=>
    obtain⟨rfl,bJ⟩:=hcut;subst bJ
    cases q with
    | true=>
     have d:E9q=130:=by
      have h:=hq.out;rw[a0.out];revert h
      cases K9q<;>cases L<;>intro h<;>first|rfl|cases h
     replace d:=Hh d;clear hq;go_wp2;go_ret;exact⟨by rw[d.out];rfl,hW.bx.low⟩
    | false=>
    have aL:K9q=true/\L=true:=by
     have h:=hq.out;revert h
     cases K9q<;>cases L<;>intro h<;>first|exact⟨rfl,rfl⟩|cases h
    have aF:E9q=if (A && R)=true then 0 else 130:=(by rw[a0.out,aL.1,aL.2];rfl);have bU:u<=8:=(by have h:=hL.out;rw[aL.2]at h;exact G9 h.symm);clear hq;replace⟨aL,aF⟩:=H2 aL aF;go_wp2;go_loopw [58,8] (λiv _ wz=>∃k:Nat,iv=Z G k/\k<=u/\Hid (∀j s,j<k->t[j]?=O s->Cb s.pl=true)/\Hid (Ng w g row ⟨⟨k2,e2,t2,aI,s2,j2,a2,n2,h2⟩,aE,u,c',t⟩ wz)) (λiv _ _=>u-(intOf iv).toNat)
    case atStart=>exact⟨0,rfl,Ar _,(λj s h=>absurd h (P3 j)),hW.out⟩
    case round=>
     rename WD=>wz
     obtain⟨j,rfl,hj,a5,hZ⟩:=hrel;by_cases bS:j<u
     .have bB:(j:Int)<u:=ao9;have bR:(0:Int)<=(j:Int):=ao9;obtain⟨s,hs⟩:=Ge t j (by rw[aU.out];omega);have bn:=hx.dm.low hZ.bx.low;obtain⟨b,y,rfl,bO,l,aX⟩:=bn.cell j s hs;obtain⟨⟨al,ad,nodes,⟨da,db,dc,dd⟩,am,af,array,ae,ac,after⟩,aZ,sn,aY⟩:=s;have z0:wz.cell? ⟨b,y+j*13,I⟩=O (E al):=l 0 ao9;have z1:wz.cell? ⟨b,y+j*13+1,I⟩=O (E ad):=l 1 ao9;have z2:wz.cell? ⟨b,y+j*13+2,I⟩=O (Z G nodes):=l 2 ao9;have z3:wz.cell? ⟨b,y+j*13+3,I⟩=O (Z G da):=l 3 ao9;have z4:wz.cell? ⟨b,y+j*13+4,I⟩=O (Z G db):=l 4 ao9;have z5:wz.cell? ⟨b,y+j*13+5,I⟩=O (Z G dc):=l 5 ao9;have z6:wz.cell? ⟨b,y+j*13+6,I⟩=O (Z G dd):=l 6 ao9;have z7:wz.cell? ⟨b,y+j*13+7,I⟩=O (Z G am):=l 7 ao9;have z8:wz.cell? ⟨b,y+j*13+8,I⟩=O (Z G af):=l 8 ao9;have z9:wz.cell? ⟨b,y+j*13+9,I⟩=O (Z G array):=l 9 ao9;have bK:wz.cell? ⟨b,y+j*13+10,I⟩=O (Z G ae):=l 10 ao9;have bL:wz.cell? ⟨b,y+j*13+11,I⟩=O (Y ac):=l 11 ao9;have bM:wz.cell? ⟨b,y+j*13+12,I⟩=O (V aZ sn aY):=l 12 ao9;obtain⟨W6,an⟩:=Ex (wz.alloc (J (⟨⟨al,ad,nodes,⟨da,db,dc,dd⟩,am,af,array,ae,ac,after⟩,aZ,sn,aY⟩:ax).cells 33 (0,0)));have ao:BW wz.heap.size wz W6:=(by rw[an];exact Bn);have aD:W6.heap[wz.heap.size]?=O (J (⟨⟨al,ad,nodes,⟨da,db,dc,dd⟩,am,af,array,ae,ac,after⟩,aZ,sn,aY⟩:ax).cells 33 (0,0)):=(by rw[an];exact Ah _ _);obtain⟨x0,x1,x2,x3,x4,x5,x6,x7,x8,x9,bE,bF,bG⟩:=C13 aD;(try dsimp only at x0 x1 x2 x3 x4 x5 x6 x7 x8 x9 bE bF bG);have a9:=hZ.below ao;have bw:=Ud ⟨⟨al,ad,nodes,⟨da,db,dc,dd⟩,am,af,array,ae,ac,after⟩,aZ,sn,aY⟩ W6 (aX.low ao);obtain⟨er,aQ⟩:=Ex (L1 (⟨al,ad,nodes,⟨da,db,dc,dd⟩,am,af,array,ae,ac,after⟩:dn))
      have aP:CS prog 97 #[(⟨⟨al,ad,nodes,⟨da,db,dc,dd⟩,am,af,array,ae,ac,after⟩,aZ,sn,aY⟩:ax).val] W6 λe w'=>e=Q (Z G er)/\BW W6.heap.size W6 w':=by rw[aQ];exact bw
      clear bw;have aG:=Hh an;clear an;replace⟨hs,bn,l,aX,ao,aD,a9,aP⟩:=H8 hs bn l aX ao aD a9 aP;replace aQ:=Hh aQ;go_upto_region 16 with fail;rw[<-aG.out];clear z0 z1 z2 z3 z4 z5 z6 z7 z8 z9 bK bL bM;go_wp2_with fail;refine aP.mono ?_;rintro e w7 ⟨rfl,aN⟩;have aJ:=a9.below aN;clear x0 x1 x2 x3 x4 x5 x6 x7 x8 x9 bE bF bG;by_cases gm:Cb (⟨al,ad,nodes,⟨da,db,dc,dd⟩,am,af,array,ae,ac,after⟩:dn)=true
      .have bc:er=0:=(by rw[aQ.out];exact Ad gm);subst bc;have d7:((0:Int) != (0:Int))=false:=rfl
       have aB:∀i s,i<j+1->t[i]?=O s->Cb s.pl=true:=λi s hi bk=>by
        by_cases c:i=j
        .subst c;rw[hs.out]at bk;rw[<-N4 bk];exact gm
        .exact a5.out i s ao9 bk
       replace⟨aN,aJ,gm,aB⟩:=H4 aN aJ gm aB;go_wp2;go_roundw
       case rel=>exact⟨j+1,by go_num,ao9,aB.out,aJ.out⟩
       case measure=>simp[intOf];omega
      .have bc:er=80:=(by rw[aQ.out];exact Ab gm);subst bc;have d7:((80:Int) != (0:Int))=true:=rfl
       have d:E9q=130:=by
        have bH:A=false:=(by rw[hA.out,Jl];intro c;rw[Wd]at c;exact gm (c _ (A7.2 ⟨_,Ai hs.out,rfl⟩)));rw[aF.out,bH];rfl
       replace⟨aN,aJ,gm,d⟩:=H4 aN aJ gm d;go_wp2;go_ret;exact⟨by rw[d.out];rfl,aJ.bx.low⟩
     .have bB:¬(j:Int)<u:=ao9;have a7:A=true:=(by rw[hA.out,Wd];intro s hs;obtain⟨z,hz,rfl⟩:=A7.1 hs;obtain⟨i,hi⟩:=List.mem_iff_getElem?.1 hz;have bQ:=(Ap.1 hi).1;exact a5.out i z (by have:=aU.out;omega) hi);have p:E9q=if R=true then 0 else 130:=(by rw[aF.out,a7];rfl);have y1:=Bk hZ.bx.box 1 (Z G e2) rfl;have y2:=Bk hZ.bx.box 2 (Z G t2) rfl;have y3:=Bk hZ.bx.box 3 (Z G aI) rfl;have y4:=Bk hZ.bx.box 4 (Z G s2) rfl;have y5:=Bk hZ.bx.box 5 (Z G j2) rfl;have y6:=Bk hZ.bx.box 6 (Z G a2) rfl;have y7:=Bk hZ.bx.box 7 (Z G n2) rfl;have y8:=Bk hZ.bx.box 8 (Z G h2) rfl;replace⟨a7,p⟩:=H2 a7 p;clear y0 y9;by_cases u0:e2=0;rotate_left
      .have d0:(e2 != (0:Int))=true:=(by rw[Gf];exact u0);have d:E9q=130:=(by rw[p.out,Ab];rw[hR.out];unfold Jt;simp[u0]);replace⟨u0,d⟩:=H2 u0 d;go_wp2;go_ret;exact⟨by rw[d.out];rfl,hZ.bx.low⟩
      have d0:(e2 != (0:Int))=false:=(by rw[u0];rfl);by_cases u1:t2=0;rotate_left
      .have d1:(t2 != (0:Int))=true:=(by rw[Gf];exact u1);have d:E9q=130:=(by rw[p.out,Ab];rw[hR.out];unfold Jt;simp[u1]);replace⟨u0,u1,d⟩:=H3 u0 u1 d;go_wp2;go_ret;exact⟨by rw[d.out];rfl,hZ.bx.low⟩
      have d1:(t2 != (0:Int))=false:=(by rw[u1];rfl);by_cases u2:aI=0;rotate_left
      .have d2:(aI != (0:Int))=true:=(by rw[Gf];exact u2);have d:E9q=130:=(by rw[p.out,Ab];rw[hR.out];unfold Jt;simp[u2]);replace⟨u0,u1,u2,d⟩:=H4 u0 u1 u2 d;go_wp2;go_ret;exact⟨by rw[d.out];rfl,hZ.bx.low⟩
      have d2:(aI != (0:Int))=false:=(by rw[u2];rfl);by_cases u3:s2=0;rotate_left
      .have d3:(s2 != (0:Int))=true:=(by rw[Gf];exact u3);have d:E9q=130:=(by rw[p.out,Ab];rw[hR.out];unfold Jt;simp[u3]);replace⟨u0,u1,u2,u3,d⟩:=H5 u0 u1 u2 u3 d;go_wp2;go_ret;exact⟨by rw[d.out];rfl,hZ.bx.low⟩
      have d3:(s2 != (0:Int))=false:=(by rw[u3];rfl);by_cases u4:j2=0;rotate_left
      .have d4:(j2 != (0:Int))=true:=(by rw[Gf];exact u4);have d:E9q=130:=(by rw[p.out,Ab];rw[hR.out];unfold Jt;simp[u4]);replace⟨u0,u1,u2,u3,u4,d⟩:=H6 u0 u1 u2 u3 u4 d;go_wp2;go_ret;exact⟨by rw[d.out];rfl,hZ.bx.low⟩
      have d4:(j2 != (0:Int))=false:=(by rw[u4];rfl);by_cases u5:a2=0;rotate_left
      .have d5:(a2 != (0:Int))=true:=(by rw[Gf];exact u5);have d:E9q=130:=(by rw[p.out,Ab];rw[hR.out];unfold Jt;simp[u5]);replace⟨u0,u1,u2,u3,u4,u5,d⟩:=H7 u0 u1 u2 u3 u4 u5 d;go_wp2;go_ret;exact⟨by rw[d.out];rfl,hZ.bx.low⟩
      have d5:(a2 != (0:Int))=false:=(by rw[u5];rfl);by_cases u6:n2=0;rotate_left
      .have d6:(n2 != (0:Int))=true:=(by rw[Gf];exact u6);have d:E9q=130:=(by rw[p.out,Ab];rw[hR.out];unfold Jt;simp[u6]);replace⟨u0,u1,u2,u3,u4,u5,u6,d⟩:=H8 u0 u1 u2 u3 u4 u5 u6 d;go_wp2;go_ret;exact⟨by rw[d.out];rfl,hZ.bx.low⟩
      have d6:(n2 != (0:Int))=false:=(by rw[u6];rfl);by_cases u7:h2=0;rotate_left
      .have d7:(h2 != (0:Int))=true:=(by rw[Gf];exact u7);have d:E9q=130:=(by rw[p.out,Ab];rw[hR.out];unfold Jt;simp[u7]);replace⟨u0,u1,u2,u3,u4,u5,u6,u7⟩:=H8 u0 u1 u2 u3 u4 u5 u6 u7;replace d:=Hh d;go_wp2;go_ret;exact⟨by rw[d.out];rfl,hZ.bx.low⟩
      have d7:(h2 != (0:Int))=false:=(by rw[u7];rfl);have d:E9q=0:=(by rw[p.out,Ad];rw[hR.out];unfold Jt;simp[u0,u1,u2,u3,u4,u5,u6,u7]);replace⟨u0,u1,u2,u3,u4,u5,u6,u7⟩:=H8 u0 u1 u2 u3 u4 u5 u6 u7;replace d:=Hh d;go_wp2;go_ret;exact⟨by rw[d.out];rfl,hZ.bx.low⟩
def B7 (k:Int):Bool:=Dy k 2 5 || decide (k=10) || decide (k=11)
def Cm (b:Bool):Int:=if b then 1 else 0
def Zb (b:Bool) (w:WD):CS prog 55 #[Y b] w λe w'=>e=Q (Z G (Cm b))/\w'=w:=by
 cases b
 all_goals
  go_enter func55,ntmps55;go_wp2;go_ret;exact⟨rfl,rfl⟩
def zB (zs:List Int):List UInt8:=zs.flatMap λz=>B2 (zz z)
abbrev Ir (zs:List Int):Prop:=∀z,z∈zs->-9223372036854775808<=z/\z<=9223372036854775807
def A0q  (h1:-9223372036854775808<=z) (a:z<=9223372036854775807):(B2 (zz z)).length<=10:=Oc (Afv h1 a)
def J5:∀(zs:List Int),Ir zs->(zB zs).length<=10*zs.length
 | [],_=>Ar _
 | z :: zs,h=>by
  have h1:=h z (Ef ..);have c:=A0q h1.1 h1.2;have a:=J5 zs λx b=>h x (Dj _ b);simp only[zB,Pz,Av,D8]at a ⊢;omega
def Al1 {zs:List Int}   (h:zs[i]?=O z):zB (zs.take (i+1))=zB (zs.take i)++B2 (zz z):=by
 unfold zB;rw[Mt,h,List.flatMap_append];simp
structure fh (w:WD) (l:List UInt8) (v:VL) (w':WD):Prop where
 own:∃so n c,v=V so n c/\Js w' so n l
 low:BW w.heap.size w w'
def fh.ky  {B:Nat} {l:List UInt8} {v:VL} (h:L3 w' B v l) (b:BW w.heap.size w w'):fh w l v w':=by
 obtain⟨so,c,e,a⟩:=h.form;exact⟨⟨so,_,c,e,a⟩,b⟩
def Vj (so:Option Addr) (n c:Nat) (l:List UInt8) (zo:Option Addr) (k zc:Nat) (zs:List Int) (w:WD) (y:Js w so n l) (t:Ao w zo k zs) (hr:Ir zs) (hn:n+10*k<=1099511627776) :
  CS prog 52 #[V so n c,V zo k zc] w λe w'=>∃v,e=Q v/\fh w (l++zB zs) v w':=by
 have h:=t.len;have af:=t.max;have p:=y.len;have m:fh w (l++zB (zs.take 0)) (V so n c) w:=⟨⟨so,n,c,rfl,by simpa[zB]using y⟩,Below.refl _ _⟩;replace⟨y,t,hr,h,p,m⟩:=H6 y t hr h p m;go_enter func52,ntmps52;go_wp2;go_loopw [0,6,9] (λbv _ iv wr=>∃i:Nat,iv=Z G i/\i<=k/\Hid (fh w (l++zB (zs.take i)) bv wr)) (λ_ _ iv _=>k-(intOf iv).toNat)
 case atStart=>exact⟨0,rfl,Ar _,m.out⟩
 case round=>
  rename WD=>wr
  obtain⟨i,rfl,hi,s⟩:=hrel;by_cases hc:i<k
  .have ac:(i:Int)<k:=ao9;have ad:(0:Int)<=(i:Int):=ao9;obtain⟨z,g⟩:=Ge zs i (by rw[h.out];exact hc);obtain⟨b,al,rfl,q,h0⟩:=t.cell i z g;have a0:=(Af s.low q).trans h0;have j:=hr z (Ai g);obtain⟨bo,bn,bc,rfl,u⟩:=s.own;have o:=u.len
   have d:bn<=1099511627776:=by have h1:=J5 (zs.take i) λx hx=>hr.out x (Ms hx);rw[Av,p.out]at o;rw[Dt,h.out]at h1;omega
   have kI:=Afy bo bn bc _ z wr j.1 j.2 u d;have r:l++zB (zs.take (i+1))=l++zB (zs.take i)++B2 (zz z):=(by rw[Al1 g];simp only[Fd]);replace⟨g,q,h0,j,u,d,kI,r⟩:=H8 g q h0 j u d kI r;replace o:=Hh o;go_wp2_with fail;refine kI.mono ?_;rintro e w1 ⟨v,rfl,hO,f⟩;have a:fh w (l++zB (zs.take (i+1))) v w1:=(by rw[r.out];exact .ky hO (s.low.trans (f.mono s.low.size)));replace⟨hO,f,a⟩:=H3 hO f a;go_wp2;go_roundw
   case rel=>exact⟨i+1,by go_num,ao9,a.out⟩
   case measure=>simp[intOf];omega
  .have ac:¬(i:Int)<k:=ao9;have a:fh w (l++zB zs) u0 wr:=(by have h1:=s.out;rw[Dd (by rw[h.out];omega)]at h1;exact h1);replace a:=Hh a;go_wp2;go_ret;exact⟨_,rfl,a.out⟩
def Ado (so:Option Addr) (n c:Nat) (l:List UInt8) (zo:Option Addr) (a zc:Nat) (zs:List Int) (w:WD) (hb:Js w so n l) (hz:Ao w zo a zs) (hr:Ir zs) (hn:n+10+10*a<=1099511627776) :
  CS prog 93 #[V so n c,V zo a zc] w λe w'=>∃v,e=Q v/\fh w (l++(B2 a++zB zs)) v w':=by
 have m:=hz.len;have af:=hz.max;have t:=hb.len;have kU:=Aa1 so n c l a w ao9 hb ao9;have j:=Oc (n:=a) ao9;replace⟨hb,hz,hr,m,t,kU,j⟩:=H7 hb hz hr m t kU j;go_enter func93,ntmps93;go_wp2_with fail;refine kU.mono ?_;rintro e wu ⟨v0,rfl,p,f⟩;have q:fh w (l++B2 a++zB (zs.take 0)) v0 wu:=by have h1:=fh.ky p f;simpa[zB]using h1
 have s:(l++B2 a).length<=n+10:=by rw[Av,t.out];have:=j.out;omega
 replace⟨p,f,q,s⟩:=H4 p f q s;go_wp2;go_loopw [0,6,14] (λbv _ iv wr=>∃i:Nat,iv=Z G i/\i<=a/\Hid (fh w (l++B2 a++zB (zs.take i)) bv wr)) (λ_ _ iv _=>a-(intOf iv).toNat)
 case atStart=>exact⟨0,rfl,Ar _,q.out⟩
 case round=>
  rename WD=>wr
  obtain⟨i,rfl,hi,hC⟩:=hrel;by_cases hc:i<a
  .have ac:(i:Int)<a:=ao9;have ad:(0:Int)<=(i:Int):=ao9;obtain⟨z,k⟩:=Ge zs i (by rw[m.out];exact hc);obtain⟨b,al,rfl,u,h0⟩:=hz.cell i z k;have a0:=(Af hC.low u).trans h0;have o:=hr z (Ai k);obtain⟨bo,bn,bc,rfl,hB⟩:=hC.own;have r:=hB.len
   have g:bn<=1099511627776:=by have h1:=J5 (zs.take i) λx hx=>hr.out x (Ms hx);have h2:=s.out;rw[Av]at r;rw[Dt,m.out]at h1;omega
   have kI:=Afy bo bn bc _ z wr o.1 o.2 hB g;have y:l++B2 a++zB (zs.take (i+1))=l++B2 a++zB (zs.take i)++B2 (zz z):=(by rw[Al1 k];simp only[Fd]);replace⟨k,u,h0,o,hB,g,kI,y⟩:=H8 k u h0 o hB g kI y;replace r:=Hh r;go_wp2_with fail;refine kI.mono ?_;rintro e w1 ⟨v,rfl,hO,h⟩;have d:fh w (l++B2 a++zB (zs.take (i+1))) v w1:=(by rw[y.out];exact .ky hO (hC.low.trans (h.mono hC.low.size)));replace⟨hO,h,d⟩:=H3 hO h d;go_wp2;go_roundw
   case rel=>exact⟨i+1,by go_num,ao9,d.out⟩
   case measure=>simp[intOf];omega
  .have ac:¬(i:Int)<a:=ao9;have d:fh w (l++(B2 a++zB zs)) u0 wr:=(by have h1:=hC.out;rw[Dd (by rw[m.out];omega),Fd]at h1;exact h1);replace d:=Hh d;go_wp2;go_ret;exact⟨_,rfl,d.out⟩
