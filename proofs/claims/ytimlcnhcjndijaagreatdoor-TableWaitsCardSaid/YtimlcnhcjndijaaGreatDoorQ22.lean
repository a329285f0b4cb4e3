/- Parts Ev0, Evc, Evd, Rmy. Plain theorems: no condition. -/
import Derived.Test.YtimlcnhcjndijaaGreatDoorQ21
import Derived.Test.YtimlcnhcjndijaaGreatDoorQ14
set_option linter.all false
set_option maxRecDepth 100000
set_option maxHeartbeats 6400000
namespace Go.Proofs.YtimlcnhcjndijaaGreatDoor
open Go.RowKit Go.Maps
structure bz where
 kind:Int
 ah:Int
 tick:Int
 ag:Int
 seq:Int
 bp:Int
 attempt:Int
 node:Int
 bj:Int
deriving DecidableEq
def bz.get (e:bz):Nat->Int
 | 0=>e.kind
 | 1=>e.ah
 | 2=>e.tick
 | 3=>e.ag
 | 4=>e.seq
 | 5=>e.bp
 | 6=>e.attempt
 | 7=>e.node
 | 8=>e.bj
 | _=>0
def bz.set (e:bz) (v:Int):Nat->bz
 | 1=>{ e with ah:=v }
 | 2=>{ e with tick:=v }
 | 3=>{ e with ag:=v }
 | 4=>{ e with seq:=v }
 | 5=>{ e with bp:=v }
 | 6=>{ e with attempt:=v }
 | 7=>{ e with node:=v }
 | 8=>{ e with bj:=v }
 | _=>e
abbrev gl:=Nat×Int×Int
def Ti:gl:=(1,1,1099511627776)
def L3:gl:=(2,0,1099511627775)
def Cu:gl:=(3,1,16)
def Cv:gl:=(4,1,1099511627776)
def Eu:gl:=(5,1,100)
def Tj:gl:=(6,1,6)
def E5:gl:=(7,0,15)
def Tk:gl:=(8,1,3)
def Dj (k:Int):Option (List gl):=
 if k=1 then some [Ti] else if k=2 then some [Cu,Cv] else if k=3\/k=4\/k=5 then some [Cu,Cv,Eu] else if k=6 then some [L3]
 else if k=7 then some [Eu,Tj,E5,Tk] else if k=8\/k=9 then some [E5,L3] else if k=10\/k=11 then some [Cu,Cv,E5] else none
def Rt (eb:Nat) (f:gl):List Value:=[.pointer (some ⟨eb,f.1,none⟩),.int .i64 f.2.1,.int .i64 f.2.2]
def L4 (so:Option Addr) (n c:Nat) (w:World):Calls Tryz.prog 150 #[.slice so n c] w fun e w'=>e=.returned (.tuple #[.slice so n c,.bool true])/\w'=w:=by
 go_enter Tryz.func150,Tryz.ntmps150;go_wp2;go_ret2;exact ⟨rfl,rfl⟩
def Yq (eb:Nat) (fs:List gl) (w:World) (e:Ending) (w':World):Prop:=
 ∃ g,e=.returned (.tuple #[.slice (some ⟨g,0,none⟩) fs.length fs.length,.bool true])/\w.heap.size<=g/\w'.heap[g]?=some (.cells (fs.flatMap (Rt eb)).toArray 183 (0,0))/\Below w.heap.size w w'
def Ru (k:Int) (eb:Nat) (w:World) (e:Ending) (w':World):Prop:=match Dj k with
 | some fs=>Yq eb fs w e w'
 | none=>e=.returned (.tuple #[.slice none 0 0,.bool false])/\Below w.heap.size w w'
def L5 {k:Int} {a:Nat} {fs:List gl} {w w':World} {e:Ending} (b:Dj k=some fs) (h:Yq a fs w e w'):Ru k a w e w':=by unfold Ru;rw [b];exact h
def Amh {k:Int} {a:Nat} {w w':World} {e:Ending} (b:Dj k=none) (h:e=.returned (.tuple #[.slice none 0 0,.bool false])/\Below w.heap.size w w'):Ru k a w e w':=by unfold Ru;rw [b];exact h
def Ami (w:World) (a b c d e f g h:Obj):((((((((w.alloc a).alloc b).alloc c).alloc d).alloc e).alloc f).alloc g).alloc h).heap[w.heap.size]?=some a/\((((((((w.alloc a).alloc b).alloc c).alloc d).alloc e).alloc f).alloc g).alloc h).heap[w.heap.size+1]?=some b/\((((((((w.alloc a).alloc b).alloc c).alloc d).alloc e).alloc f).alloc g).alloc h).heap[w.heap.size+1+1]?=some c/\((((((((w.alloc a).alloc b).alloc c).alloc d).alloc e).alloc f).alloc g).alloc h).heap[w.heap.size+1+1+1]?=some d/\((((((((w.alloc a).alloc b).alloc c).alloc d).alloc e).alloc f).alloc g).alloc h).heap[w.heap.size+1+1+1+1]?=some e/\((((((((w.alloc a).alloc b).alloc c).alloc d).alloc e).alloc f).alloc g).alloc h).heap[w.heap.size+1+1+1+1+1]?=some f/\((((((((w.alloc a).alloc b).alloc c).alloc d).alloc e).alloc f).alloc g).alloc h).heap[w.heap.size+1+1+1+1+1+1]?=some g/\((((((((w.alloc a).alloc b).alloc c).alloc d).alloc e).alloc f).alloc g).alloc h).heap[w.heap.size+1+1+1+1+1+1+1]?=some h/\Below w.heap.size w ((((((((w.alloc a).alloc b).alloc c).alloc d).alloc e).alloc f).alloc g).alloc h):=by
 exact ⟨Ai h (Ai g (Ai f (Ai e (Ai d (Ai c (Ai b (A2 w a (by simp)))))))),Ai h (Ai g (Ai f (Ai e (Ai d (Ai c (A2 (w.alloc a) b (by simp))))))),Ai h (Ai g (Ai f (Ai e (Ai d (A2 ((w.alloc a).alloc b) c (by simp)))))),Ai h (Ai g (Ai f (Ai e (A2 (((w.alloc a).alloc b).alloc c) d (by simp))))),Ai h (Ai g (Ai f (A2 ((((w.alloc a).alloc b).alloc c).alloc d) e (by simp)))),Ai h (Ai g (A2 (((((w.alloc a).alloc b).alloc c).alloc d).alloc e) f (by simp))),Ai h (A2 ((((((w.alloc a).alloc b).alloc c).alloc d).alloc e).alloc f) g (by simp)),A2 (((((((w.alloc a).alloc b).alloc c).alloc d).alloc e).alloc f).alloc g) h (by simp),((((((((Below.refl _ _).alloc (by simp;try omega) _).alloc (by simp;try omega) _).alloc (by simp;try omega) _).alloc (by simp;try omega) _).alloc (by simp;try omega) _).alloc (by simp;try omega) _).alloc (by simp;try omega) _).alloc (by simp;try omega) _⟩
def Amj {w:World} {c:Nat} {k:Int} (h0:w.cell? ⟨c,0,none⟩=some (.int .i64 k)):Calls Tryz.prog 96 #[.pointer (some ⟨c,0,none⟩)] w (Ru k c w):=by
 have s:=Su w _ h0;obtain ⟨W,t⟩:=Ex (((((((((w.alloc (.cells #[.pointer (some ⟨c,1,none⟩),.int .i64 1,.int .i64 1099511627776] 183 (0,0))).alloc (.cells #[.pointer (some ⟨c,2,none⟩),.int .i64 0,.int .i64 1099511627775] 183 (0,0))).alloc (.cells #[.pointer (some ⟨c,3,none⟩),.int .i64 1,.int .i64 16] 183 (0,0))).alloc (.cells #[.pointer (some ⟨c,4,none⟩),.int .i64 1,.int .i64 1099511627776] 183 (0,0))).alloc (.cells #[.pointer (some ⟨c,5,none⟩),.int .i64 1,.int .i64 100] 183 (0,0))).alloc (.cells #[.pointer (some ⟨c,6,none⟩),.int .i64 1,.int .i64 6] 183 (0,0))).alloc (.cells #[.pointer (some ⟨c,7,none⟩),.int .i64 0,.int .i64 15] 183 (0,0))).alloc (.cells #[.pointer (some ⟨c,8,none⟩),.int .i64 1,.int .i64 3] 183 (0,0))));obtain ⟨u,v,x,y,z,b5,b6,b7,a⟩:=Ami w (.cells #[.pointer (some ⟨c,1,none⟩),.int .i64 1,.int .i64 1099511627776] 183 (0,0)) (.cells #[.pointer (some ⟨c,2,none⟩),.int .i64 0,.int .i64 1099511627775] 183 (0,0)) (.cells #[.pointer (some ⟨c,3,none⟩),.int .i64 1,.int .i64 16] 183 (0,0)) (.cells #[.pointer (some ⟨c,4,none⟩),.int .i64 1,.int .i64 1099511627776] 183 (0,0)) (.cells #[.pointer (some ⟨c,5,none⟩),.int .i64 1,.int .i64 100] 183 (0,0)) (.cells #[.pointer (some ⟨c,6,none⟩),.int .i64 1,.int .i64 6] 183 (0,0)) (.cells #[.pointer (some ⟨c,7,none⟩),.int .i64 0,.int .i64 15] 183 (0,0)) (.cells #[.pointer (some ⟨c,8,none⟩),.int .i64 1,.int .i64 3] 183 (0,0));rw [<- t] at u v x y z b5 b6 b7 a;have y0:W.cell? ⟨c,0,none⟩=some (.int .i64 k):=(Ag a s).trans h0;obtain ⟨ac,ad,al⟩:=C3 u;(try dsimp only at ac ad al);obtain ⟨am,an,ao⟩:=C3 v;(try dsimp only at am an ao);obtain ⟨ap,av,aA⟩:=C3 x;(try dsimp only at ap av aA);obtain ⟨aB,aC,aD⟩:=C3 y;(try dsimp only at aB aC aD);obtain ⟨aE,aF,aG⟩:=C3 z;(try dsimp only at aE aF aG);obtain ⟨aH,aI,aJ⟩:=C3 b5;(try dsimp only at aH aI aJ);obtain ⟨aK,aL,aM⟩:=C3 b6;(try dsimp only at aK aL aM);obtain ⟨aN,aO,aP⟩:=C3 b7;(try dsimp only at aN aO aP);have h:=Hh t;clear t u v x y z b5 b6 b7;replace ⟨a,h0⟩:=H2 a h0;go_enter Tryz.func96,Tryz.ntmps96;go_upto_region 10 with fail;rw [<- h.out];clear h;by_cases i:k=1
 .subst i;have b:Dj 1=some [Ti]:=rfl;replace b:=Hh b;go_wp2_with fail;refine (L4 _ _ _ _).mono ?_;rintro e d ⟨rfl,rfl⟩;go_wp2;go_ret2;exact L5 b.out ⟨_,rfl,a.out.size,Af _ _,a.out.alloc a.out.size _⟩
 by_cases j:k=2
 .subst j;have b:Dj 2=some [Cu,Cv]:=rfl;replace b:=Hh b;go_wp2_with fail;refine (L4 _ _ _ _).mono ?_;rintro e d ⟨rfl,rfl⟩;go_wp2;go_ret2;exact L5 b.out ⟨_,rfl,a.out.size,Af _ _,a.out.alloc a.out.size _⟩
 by_cases n:k=3
 .subst n;have b:Dj 3=some [Cu,Cv,Eu]:=rfl;replace b:=Hh b;go_wp2_with fail;refine (L4 _ _ _ _).mono ?_;rintro e d ⟨rfl,rfl⟩;go_wp2;go_ret2;exact L5 b.out ⟨_,rfl,a.out.size,Af _ _,a.out.alloc a.out.size _⟩
 by_cases o:k=4
 .subst o;have b:Dj 4=some [Cu,Cv,Eu]:=rfl;replace b:=Hh b;go_wp2_with fail;refine (L4 _ _ _ _).mono ?_;rintro e d ⟨rfl,rfl⟩;go_wp2;go_ret2;exact L5 b.out ⟨_,rfl,a.out.size,Af _ _,a.out.alloc a.out.size _⟩
 by_cases p:k=5
 .subst p;have b:Dj 5=some [Cu,Cv,Eu]:=rfl;replace b:=Hh b;go_wp2_with fail;refine (L4 _ _ _ _).mono ?_;rintro e d ⟨rfl,rfl⟩;go_wp2;go_ret2;exact L5 b.out ⟨_,rfl,a.out.size,Af _ _,a.out.alloc a.out.size _⟩
 by_cases l:k=6
 .subst l;have b:Dj 6=some [L3]:=rfl;replace b:=Hh b;go_wp2_with fail;refine (L4 _ _ _ _).mono ?_;rintro e d ⟨rfl,rfl⟩;go_wp2;go_ret2;exact L5 b.out ⟨_,rfl,a.out.size,Af _ _,a.out.alloc a.out.size _⟩
 by_cases m:k=7
 .subst m;have b:Dj 7=some [Eu,Tj,E5,Tk]:=rfl;replace b:=Hh b;go_wp2_with fail;refine (L4 _ _ _ _).mono ?_;rintro e d ⟨rfl,rfl⟩;go_wp2;go_ret2;exact L5 b.out ⟨_,rfl,a.out.size,Af _ _,a.out.alloc a.out.size _⟩
 by_cases q:k=8
 .subst q;have b:Dj 8=some [E5,L3]:=rfl;replace b:=Hh b;go_wp2_with fail;refine (L4 _ _ _ _).mono ?_;rintro e d ⟨rfl,rfl⟩;go_wp2;go_ret2;exact L5 b.out ⟨_,rfl,a.out.size,Af _ _,a.out.alloc a.out.size _⟩
 by_cases r:k=9
 .subst r;have b:Dj 9=some [E5,L3]:=rfl;replace b:=Hh b;go_wp2_with fail;refine (L4 _ _ _ _).mono ?_;rintro e d ⟨rfl,rfl⟩;go_wp2;go_ret2;exact L5 b.out ⟨_,rfl,a.out.size,Af _ _,a.out.alloc a.out.size _⟩
 by_cases f:k=10
 .subst f;have b:Dj 10=some [Cu,Cv,E5]:=rfl;replace b:=Hh b;go_wp2_with fail;refine (L4 _ _ _ _).mono ?_;rintro e d ⟨rfl,rfl⟩;go_wp2;go_ret2;exact L5 b.out ⟨_,rfl,a.out.size,Af _ _,a.out.alloc a.out.size _⟩
 by_cases g:k=11
 .subst g;have b:Dj 11=some [Cu,Cv,E5]:=rfl;replace b:=Hh b;go_wp2_with fail;refine (L4 _ _ _ _).mono ?_;rintro e d ⟨rfl,rfl⟩;go_wp2;go_ret2;exact L5 b.out ⟨_,rfl,a.out.size,Af _ _,a.out.alloc a.out.size _⟩
 have b:Dj k=none:=by unfold Dj;rw [Ac i,Ac j,Ac (by omega),Ac l,Ac m,Ac (by omega),Ac (by omega)]
 replace b:=Hh b;have d1:=Bg.2 i;have d2:=Bg.2 j;have d3:=Bg.2 n;have d4:=Bg.2 o;have d5:=Bg.2 p;have d6:=Bg.2 l;have d7:=Bg.2 m;have d8:=Bg.2 q;have d9:=Bg.2 r;have aQ:=Bg.2 f;have aR:=Bg.2 g;replace ⟨i,j,n,o,p,l,m,q⟩:=H8 i j n o p l m q;replace ⟨r,f,g⟩:=H3 r f g;go_wp2;go_ret2;exact Amh b.out ⟨rfl,a.out⟩
structure ed where
 n:bz
 specs:List dp
structure cu where
 n:bz
 so:Option Addr
 m:Nat
 c:Nat
 cq:List au
def cu.pl (x:cu):ed:=⟨x.n,x.cq.map au.pl⟩
abbrev cu.cells (x:cu):Array Value:=#[.int .i64 x.n.kind,.int .i64 x.n.ah,.int .i64 x.n.tick,.int .i64 x.n.ag,.int .i64 x.n.seq,.int .i64 x.n.bp,.int .i64 x.n.attempt,.int .i64 x.n.node,.int .i64 x.n.bj,.slice x.so x.m x.c]
abbrev cu.val (x:cu):Value:=.agg #[.int .i64 x.n.kind,.int .i64 x.n.ah,.int .i64 x.n.tick,.int .i64 x.n.ag,.int .i64 x.n.seq,.int .i64 x.n.bp,.int .i64 x.n.attempt,.int .i64 x.n.node,.int .i64 x.n.bj,.slice x.so x.m x.c]
structure cu.ok (w:World) (x:cu):Prop where
 cq:Kc w x.so x.m x.cq
 mh:x.m<=x.c
 vf:∀ i,-9223372036854775808<=x.n.get i/\x.n.get i<=9223372036854775807
def cu.ok.low {w w':World} {x:cu} (h:x.ok w) (a:Below w.heap.size w w'):x.ok w':=⟨h.cq.low a,h.mh,h.vf⟩
structure K8 (w:World) (x:cu) (wr:World):Prop where
 low:Below w.heap.size w wr
 box:wr.heap[w.heap.size]?=some (.cells x.cells 40 (0,0))
def K8.below {w wr w':World} {x:cu} (h:K8 w x wr) (a:Below wr.heap.size wr w'):K8 w x w':=
 ⟨h.low.trans (a.mono h.low.size),Ae a h.box (Ab h.box)⟩
def K8.new (w:World) (x:cu):K8 w x (w.alloc (.cells x.cells 40 (0,0))):=⟨Bn,Af _ _⟩
def K8.ok {w wr:World} {x:cu} (h:K8 w x wr) (a:x.ok w):x.ok wr:=a.low h.low
def Aml (x:cu) {i:Nat} (a:i<=8):x.cells[i]?=some (.int .i64 (x.n.get i)):=by
 have:i=0\/i=1\/i=2\/i=3\/i=4\/i=5\/i=6\/i=7\/i=8:=by omega
 rcases this with rfl | rfl | rfl | rfl | rfl | rfl | rfl | rfl | rfl<;>rfl
def Amm (x:cu) {i:Nat} (h1:1<=i) (a:i<=8) (v:Int):x.cells.setIfInBounds i (.int .i64 v)=(⟨x.n.set v i,x.so,x.m,x.c,x.cq⟩:cu).cells:=by
 have:i=1\/i=2\/i=3\/i=4\/i=5\/i=6\/i=7\/i=8:=by omega
 rcases this with rfl | rfl | rfl | rfl | rfl | rfl | rfl | rfl<;>simp [bz.set]
def Amn (e:bz) (v:Int) (i:Nat):(e.set v i).kind=e.kind:=by
 unfold bz.set
 split<;>rfl
def ig (e:bz) (f:gl):Bool:=decide (f.2.1<=e.get f.1) && decide (e.get f.1<=f.2.2)
def Fm:bz->List gl->Option bz
 | e,[]=>some e
 | e,f :: fs=>if ig e f=true then Fm (e.set 0 f.1) fs else none
def Kd (e:bz):Bool:=decide (e.ah=0) && decide (e.tick=0) && decide (e.ag=0) && decide (e.seq=0) && decide (e.bp=0) && decide (e.attempt=0) && decide (e.node=0) && decide (e.bj=0)
def Rx (e:ed):Bool:=decide (e.n.kind=2) == decide (0<e.specs.length)
def E6 (e:ed):Bool:=match Dj e.n.kind with
 | none=>false
 | some fs=>match Fm e.n fs with
  | none=>false
  | some e'=>Rx e && decide (e.specs.length<=8) && e.specs.all Di && Kd e'
def Ry (e:ed):Int:=if E6 e=true then 0 else 130
def Vm {e:ed} (h:E6 e=false):Ry e=130:=Ac (by rw [h];simp)
def Acr {e:ed} (h:E6 e=true):Ry e=0:=Ad h
def Acs {e:ed} (h:Dj e.n.kind=none):E6 e=false:=by unfold E6;rw [h]
def Acu {e:ed} {fs:List gl} (h:Dj e.n.kind=some fs) (a:Fm e.n fs=none):E6 e=false:=by unfold E6;rw [h];simp only [a]
def Yv {e:ed} {fs:List gl} {e':bz} (h:Dj e.n.kind=some fs) (a:Fm e.n fs=some e'):E6 e=(Rx e && decide (e.specs.length<=8) && e.specs.all Di && Kd e'):=by unfold E6;rw [h];simp only [a]
def Amo {k:Int} {fs:List gl} (h:Dj k=some fs):fs.length<=4/\∀ f,f∈fs->1<=f.1/\f.1<=8/\0<=f.2.1/\f.2.1<=f.2.2/\f.2.2<=1099511627776:=by
 unfold Dj at h
 repeat (split at h;(cases h;exact ⟨by decide,by decide⟩))
 cases h
def Amp {e:bz} {fs:List gl} {k:Nat} {f:gl} (a:fs[k]?=some f):Fm e (fs.drop k)=if ig e f=true then Fm (e.set 0 f.1) (fs.drop (k+1)) else none:=by
 obtain ⟨b,c⟩:=Aq.1 a;rw [List.drop_eq_getElem_cons b,c,Fm]
def Amq {w:World} {g a:Nat} {fs:List gl} (h:w.heap[g]?=some (.cells (fs.flatMap (Rt a)).toArray 183 (0,0))) {k:Nat} {f:gl} (d:fs[k]?=some f) :
  w.cell? ⟨g,k*3,none⟩=some (.pointer (some ⟨a,f.1,none⟩))/\w.cell? ⟨g,k*3+1,none⟩=some (.int .i64 f.2.1)/\w.cell? ⟨g,k*3+2,none⟩=some (.int .i64 f.2.2):=by
 have b:=fun j e=>Iq (cells:=fun f=>(Rt a f).toArray) (sz:=3) (fun _=>rfl) fs (j:=j) d e;have i:Ar (fun f=>(Rt a f).toArray) fs=fs.flatMap (Rt a):=rfl;rw [i] at b;have h0:=b 0 (by omega);have h1:=b 1 (by omega);have c:=b 2 (by omega);rw [Lo] at h0 h1 c;refine ⟨?_,?_,?_⟩
 .rw [Aa h];exact (Lo ..).trans h0
 .rw [Aa h];exact (Lo ..).trans h1
 .rw [Aa h];exact (Lo ..).trans c
structure M3 (w:World) (g:Nat) (row:Array Value) (x:cu) (wr:World):Prop where
 bx:K8 w x wr
 row:wr.heap[g]?=some (.cells row 183 (0,0))
def M3.below {w wr w':World} {g:Nat} {row:Array Value} {x:cu} (h:M3 w g row x wr) (a:Below wr.heap.size wr w'):M3 w g row x w':=
 ⟨h.bx.below a,Ae a h.row (Ab h.row)⟩
def M3.set {w wr:World} {g:Nat} {row:Array Value} {x:cu} (h:M3 w g row x wr) (a:g≠w.heap.size) {i:Nat} (h1:1<=i) (b:i<=8):M3 w g row ⟨x.n.set 0 i,x.so,x.m,x.c,x.cq⟩ (wr.setCell ⟨w.heap.size,i,none⟩ (.int .i64 0)):=
 ⟨⟨h.bx.low.setCell Ln _,by rw [<- Amm x h1 b];exact Al h.bx.box i _⟩,Dh a _ h.row⟩
def Acv (x:cu) (w:World) (hx:x.ok w):Calls Tryz.prog 57 #[x.val] w fun e w'=>e=.returned (.int .i64 (Ry x.pl))/\Below w.heap.size w w':=by
 have aB:=K8.new w x;have aM:(w.alloc (.cells x.cells 40 (0,0))).cell? ⟨w.heap.size,0,none⟩=some (.int .i64 x.n.kind):=Aa aB.box 0;have hc:=Amj aM;unfold Ru at hc
 cases hf:Dj x.n.kind with
 | none=>
  rw [hf] at hc;have he:Ry x.pl=130:=Vm (Acs hf);obtain ⟨⟨p,ah,tick,ag,seq,bp,attempt,node,bj⟩,so,m,c,cq⟩:=x;replace ⟨aB,hc,hx,hf,he,aM⟩:=H6 aB hc hx hf he aM;go_enter Tryz.func57,Tryz.ntmps57;go_wp2_with fail;refine hc.out.mono ?_;rintro e w1 ⟨rfl,aC⟩;have a8:=aB.out.below aC;replace ⟨a8,aC⟩:=H2 a8 aC;go_wp2;go_ret;exact ⟨by rw [he.out];rfl,a8.out.low⟩
 | some fs=>
  rw [hf] at hc;obtain ⟨bJ,a9⟩:=Amo hf;obtain ⟨n,hn⟩:=Ex (fs.length);unfold Yq at hc;simp only [<- hn] at hc;rw [<- hn] at bJ;have bQ:=hx.cq.max;have aN:=hx.cq.len;obtain ⟨so,m,c,cq,bw⟩:∃ so m c cq,x=⟨x.n,so,m,c,cq⟩:=⟨x.so,x.m,x.c,x.cq,rfl⟩;obtain ⟨E,hE⟩:=Ex (Ry x.pl);rw [<- hE];obtain ⟨row,ak⟩:=Ex ((fs.flatMap (Rt w.heap.size)).toArray);rw [<- ak] at hc;have ao:∀ w1 g,Below (w.heap.size+1) (w.alloc (.cells x.cells 40 (0,0))) w1->w1.heap[g]?=some (.cells row 183 (0,0))->M3 w g row x w1:=fun w1 g hb hr=>⟨aB.below (by simpa using hb),hr⟩;obtain ⟨⟨p,ah,tick,ag,seq,bp,attempt,node,bj⟩,aD,u,c',r⟩:=x;simp only [cu.mk.injEq,true_and] at bw;obtain ⟨rfl,rfl,rfl,rfl⟩:=bw;obtain ⟨X,hX⟩:∃ X:cu,X=⟨⟨p,ah,tick,ag,seq,bp,attempt,node,bj⟩,aD,u,c',r⟩:=⟨_,rfl⟩;obtain ⟨N,hN⟩:∃ N:bz,N=⟨p,ah,tick,ag,seq,bp,attempt,node,bj⟩:=⟨_,rfl⟩;replace ⟨aB,hc,hx,hf,a9,hn,aM,hE⟩:=H8 aB hc hx hf a9 hn aM hE;replace ⟨aN,ak,ao,hX,hN⟩:=H5 aN ak ao hX hN;go_enter Tryz.func57,Tryz.ntmps57;go_wp2_with fail;refine hc.out.mono ?_;rintro e w1 ⟨g,rfl,bA,ba,aC⟩
  have bb:g≠w.heap.size:=by
   have h1:(w.alloc (.cells (⟨⟨p,ah,tick,ag,seq,bp,attempt,node,bj⟩,aD,u,c',r⟩:cu).cells 40 (0,0))).heap.size=w.heap.size+1:=(by simp);omega
  have a1:=ao.out w1 g (by simpa using aC) ba;rw [<- hX.out] at a1;replace ⟨bA,ba,aC,a1,bb⟩:=H5 bA ba aC a1 bb;go_wp2;go_loopw [17,6] (fun iv _ wr=>∃ (k:Nat) (a:bz),iv=.int .i64 k/\k<=n/\Hid (Fm N fs=Fm a (fs.drop k))/\Hid (a.kind=p)/\Hid (M3 w g row ⟨a,aD,u,c',r⟩ wr)) (fun iv _ _=>n-(intOf iv).toNat)
  case atStart=>exact ⟨0,N,rfl,Av _,rfl,(by rw [hN.out]:N.kind=p),by rw [hN.out,<- hX.out];exact a1.out⟩
  case round=>
   obtain ⟨k,a,rfl,hk,bc,bB,hW⟩:=hrel;by_cases bR:k<n
   .have bC:(k:Int)<n:=(by omega);have bP:(0:Int)<=(k:Int):=(by omega);obtain ⟨f,aO⟩:∃ f,fs[k]?=some f:=⟨_,Am (by have:=hn.out;omega)⟩;obtain ⟨q1,q8,_⟩:=a9.out f (Aj aO);obtain ⟨i,lo,hi⟩:=f;have a3:=hW.out.row;rw [ak.out] at a3;obtain ⟨z0,z1,z2⟩:=Amq a3 aO;simp only at z0 z1 z2 q1 q8;have a4:=Amp (e:=a) aO;have bd:=Aa hW.out.bx.box i;rw [Aml _ q8] at bd;obtain ⟨v,hv⟩:=Ex (a.get i);have a6:wr.cell? ⟨w.heap.size,i,none⟩=some (.int .i64 v):=(by rw [hv];exact bd);clear bd;have hr:ig a (i,lo,hi)=(decide (lo<=v) && decide (v<=hi)):=(by rw [hv];rfl);obtain ⟨W6,ap⟩:=Ex (wr.alloc (.cells #[.pointer (some ⟨w.heap.size,i,none⟩),.int .i64 lo,.int .i64 hi] 183 (0,0)));have av:Below wr.heap.size wr W6:=(by rw [ap];exact Bn);have aE:W6.heap[wr.heap.size]?=some (.cells #[.pointer (some ⟨w.heap.size,i,none⟩),.int .i64 lo,.int .i64 hi] 183 (0,0)):=(by rw [ap];exact Af _ _);have aJ:=hW.out.below av;obtain ⟨c0,c1,c2⟩:=C3 aE;(try dsimp only at c0 c1 c2);have c6:=(Ag av (Ab hW.out.bx.box)).trans a6;have bS:=Ah aJ.bx.box i
    have aG:ig a (i,lo,hi)=false->E=130:=fun hq=>by
     rw [hE.out];refine Vm (Acu hf.out ?_);show Fm (⟨p,ah,tick,ag,seq,bp,attempt,node,bj⟩:bz) fs=none;have h:=bc.out;rw [hN.out] at h;rw [h,a4,Ac (by rw [hq];simp)]
    have aH:=Hh ap;clear ap;replace ⟨aO,a3,a4,av,aE,aJ,aG,hv⟩:=H8 aO a3 a4 av aE aJ aG hv;go_upto_region 7 with fail;rw [<- aH.out];clear z0 z1 z2 a6 aH;by_cases g1:v<lo
    .have d1:=Az g1;have d:=aG.out (by rw [hr,Aw (by omega)];rfl);replace ⟨hr,d,g1⟩:=H3 hr d g1;go_wp2;go_quiet (fail);go_wp2;go_ret;exact ⟨by rw [d.out];rfl,(aJ.out.bx.low).trans (A8 _ _ _)⟩
    have d1:=Aw g1;by_cases g2:hi<v
    .have d2:=Az g2;have d:=aG.out (by rw [hr,Az (by omega),Aw (by omega)];rfl);replace ⟨hr,d,g1,g2⟩:=H4 hr d g1 g2;go_wp2;go_quiet (fail);go_wp2;go_ret;exact ⟨by rw [d.out];rfl,(aJ.out.bx.low).trans (A8 _ _ _)⟩
    have d2:=Aw g2;have be:ig a (i,lo,hi)=true:=(by rw [hr,Az (by omega),Az (by omega)];rfl);have aP:Fm N fs=Fm (a.set 0 i) (fs.drop (k+1)):=(by rw [bc.out,a4.out,Ad be]);have aQ:(a.set 0 i).kind=p:=(by rw [Amn,bB.out]);have aR:∀ q,M3 w g row ⟨a.set 0 i,aD,u,c',r⟩ ((W6.drewN q).setCell ⟨w.heap.size,i,none⟩ (.int .i64 0)):=fun q=>(aJ.out.below (A8 _ _ _)).set bb.out q1 q8;replace ⟨hr,be,aP,aQ,aR,g1,g2⟩:=H7 hr be aP aQ aR g1 g2;go_wp2;go_quiet (fail);go_wp2;go_roundw
    case rel=>exact ⟨k+1,a.set 0 i,by go_num,by omega,aP.out,aQ.out,aR.out _⟩
    case measure=>simp [intOf];omega
   .have bC:¬ (k:Int)<n:=(by omega);have bf:fs.drop k=[]:=List.drop_of_length_le (by have:=hn.out;omega);have aS:Fm ⟨p,ah,tick,ag,seq,bp,attempt,node,bj⟩ fs=some a:=(by rw [<- hN.out,bc.out,bf];rfl);have bg:=Yv (e:=(⟨⟨p,ah,tick,ag,seq,bp,attempt,node,bj⟩,aD,u,c',r⟩:cu).pl) hf.out aS;obtain ⟨k2,e2,t2,aK,s2,j2,a2,n2,h2⟩:=a;have bD:k2=p:=bB.out;subst bD;have aT:(r.map au.pl).length=u:=(by rw [Ax,aN.out]);obtain ⟨K,hK⟩:=Ex ((decide (k2=2) == decide (0<u)));obtain ⟨L,hL⟩:=Ex (decide (u<=8));obtain ⟨A,hA⟩:=Ex ((r.map au.pl).all Di);obtain ⟨R,hR⟩:=Ex (Kd ⟨k2,e2,t2,aK,s2,j2,a2,n2,h2⟩);have a5:E=if (K && L && A && R)=true then 0 else 130:=(by rw [hE.out];unfold Ry;rw [bg,hK,hL,hA,hR,<- aT];rfl);have y0:=Bk hW.out.bx.box 0 (.int .i64 k2) rfl;have y9:=Bk hW.out.bx.box 9 (.slice aD u c') rfl;obtain ⟨q,hq⟩:∃ q,q = !(K && L):=⟨_,rfl⟩;replace ⟨bf,aS,bg,aT,hK,hL,hA,hR⟩:=H8 bf aS bg aT hK hL hA hR;replace ⟨a5,hq⟩:=H2 a5 hq;go_upto_region 11 with fail;go_cut [54] from 41 to 55 (fun bv wx=>xh wr q bv wx)
    case first=>
     by_cases g1:k2=2
     .have d1:(k2 == (2:Int))=true:=(by rw [g1];rfl);by_cases g2:0<u
      .have d2:decide ((0:Int)<(u:Int))=true:=Az (by omega);have aA:=Az g2;by_cases g3:8<u
       .have d3:decide ((8:Int)<(u:Int))=true:=Az (by omega);have o:q=true:=(by rw [hq.out,hK.out,hL.out,Az g1,aA,Aw (by omega:¬ u<=8)];rfl);replace ⟨g1,g2,g3,o⟩:=H4 g1 g2 g3 o;go_wp2;go_meet;exact ⟨by rw [o.out],rfl⟩
       .have d3:decide ((8:Int)<(u:Int))=false:=Aw (by omega);have o:q=false:=(by rw [hq.out,hK.out,hL.out,Az g1,aA,Az (by omega:u<=8)];rfl);replace ⟨g1,g2,g3,o⟩:=H4 g1 g2 g3 o;go_wp2;go_meet;exact ⟨by rw [o.out],rfl⟩
      .have d2:decide ((0:Int)<(u:Int))=false:=Aw (by omega);have aA:=Aw g2;have o:q=true:=(by rw [hq.out,hK.out,Az g1,aA];rfl);replace ⟨g1,g2,o⟩:=H3 g1 g2 o;go_wp2;go_meet;exact ⟨by rw [o.out],rfl⟩
     .have d1:=Bg.2 g1;by_cases g2:0<u
      .have d2:decide ((0:Int)<(u:Int))=true:=Az (by omega);have aA:=Az g2;have o:q=true:=(by rw [hq.out,hK.out,Aw g1,aA];rfl);replace ⟨g1,g2,o⟩:=H3 g1 g2 o;go_wp2;go_meet;exact ⟨by rw [o.out],rfl⟩
      .have d2:decide ((0:Int)<(u:Int))=false:=Aw (by omega);have aA:=Aw g2;have d3:decide ((8:Int)<(u:Int))=false:=Aw (by omega);have o:q=false:=(by rw [hq.out,hK.out,hL.out,Aw g1,aA,Az (by omega:u<=8)];rfl);replace ⟨g1,g2,o⟩:=H3 g1 g2 o;go_wp2;go_meet;exact ⟨by rw [o.out],rfl⟩
    case rest=>
    obtain ⟨rfl,bK⟩:=hcut;subst bK
    cases q with
    | true=>
     have d:E=130:=by
      have h:=hq.out;rw [a5.out];revert h
      cases K<;>cases L<;>intro h<;>first | rfl | cases h
     replace d:=Hh d;clear hq;go_wp2;go_ret;exact ⟨by rw [d.out];rfl,hW.out.bx.low⟩
    | false=>
    have aU:K=true/\L=true:=by
     have h:=hq.out;revert h
     cases K<;>cases L<;>intro h<;>first | exact ⟨rfl,rfl⟩ | cases h
    have aI:E=if (A && R)=true then 0 else 130:=(by rw [a5.out,aU.1,aU.2];rfl);have bT:u<=8:=(by have h:=hL.out;rw [aU.2] at h;exact I9 h.symm);clear hq;replace ⟨aU,aI⟩:=H2 aU aI;go_wp2;go_loopw [58,8] (fun iv _ wz=>∃ k:Nat,iv=.int .i64 k/\k<=u/\Hid (∀ j s,j<k->r[j]?=some s->Di s.pl=true)/\Hid (M3 w g row ⟨⟨k2,e2,t2,aK,s2,j2,a2,n2,h2⟩,aD,u,c',r⟩ wz)) (fun iv _ _=>u-(intOf iv).toNat)
    case atStart=>exact ⟨0,rfl,Av _,(fun j s h=>absurd h (Pq j)),hW.out⟩
    case round=>
     rename World=>wz
     obtain ⟨j,rfl,hj,a7,hZ⟩:=hrel;by_cases bU:j<u
     .have bE:(j:Int)<u:=(by omega);have bV:(0:Int)<=(j:Int):=(by omega);obtain ⟨s,hs⟩:∃ s,r[j]?=some s:=⟨_,Am (by rw [aN.out];omega)⟩;have bi:=hx.out.cq.low hZ.out.bx.low;obtain ⟨b,y,rfl,bW,l,aV⟩:=bi.cell j s hs;obtain ⟨⟨ac,ad,nodes,⟨da,db,dc,dd⟩,al,am,array,ae,an,after⟩,aW,sn,aX⟩:=s;have z0:wz.cell? ⟨b,y+j*13,none⟩=some (.string ac):=l 0 (by omega);have z1:wz.cell? ⟨b,y+j*13+1,none⟩=some (.string ad):=l 1 (by omega);have z2:wz.cell? ⟨b,y+j*13+2,none⟩=some (.int .i64 nodes):=l 2 (by omega);have z3:wz.cell? ⟨b,y+j*13+3,none⟩=some (.int .i64 da):=l 3 (by omega);have z4:wz.cell? ⟨b,y+j*13+4,none⟩=some (.int .i64 db):=l 4 (by omega);have z5:wz.cell? ⟨b,y+j*13+5,none⟩=some (.int .i64 dc):=l 5 (by omega);have z6:wz.cell? ⟨b,y+j*13+6,none⟩=some (.int .i64 dd):=l 6 (by omega);have z7:wz.cell? ⟨b,y+j*13+7,none⟩=some (.int .i64 al):=l 7 (by omega);have z8:wz.cell? ⟨b,y+j*13+8,none⟩=some (.int .i64 am):=l 8 (by omega);have z9:wz.cell? ⟨b,y+j*13+9,none⟩=some (.int .i64 array):=l 9 (by omega);have bL:wz.cell? ⟨b,y+j*13+10,none⟩=some (.int .i64 ae):=l 10 (by omega);have bM:wz.cell? ⟨b,y+j*13+11,none⟩=some (.bool an):=l 11 (by omega);have bN:wz.cell? ⟨b,y+j*13+12,none⟩=some (.slice aW sn aX):=l 12 (by omega);obtain ⟨W6,ap⟩:=Ex (wz.alloc (.cells (⟨⟨ac,ad,nodes,⟨da,db,dc,dd⟩,al,am,array,ae,an,after⟩,aW,sn,aX⟩:au).cells 33 (0,0)));have av:Below wz.heap.size wz W6:=(by rw [ap];exact Bn);have aE:W6.heap[wz.heap.size]?=some (.cells (⟨⟨ac,ad,nodes,⟨da,db,dc,dd⟩,al,am,array,ae,an,after⟩,aW,sn,aX⟩:au).cells 33 (0,0)):=(by rw [ap];exact Af _ _);obtain ⟨x0,x1,x2,x3,x4,x5,x6,x7,x8,x9,bF,bG,bH⟩:=C13 aE;(try dsimp only at x0 x1 x2 x3 x4 x5 x6 x7 x8 x9 bF bG bH);have bk:=hZ.out.below av;have bI:=Vh ⟨⟨ac,ad,nodes,⟨da,db,dc,dd⟩,al,am,array,ae,an,after⟩,aW,sn,aX⟩ W6 (aV.low av);obtain ⟨er,aY⟩:=Ex (Nz (⟨ac,ad,nodes,⟨da,db,dc,dd⟩,al,am,array,ae,an,after⟩:dp))
      have aZ:Calls Tryz.prog 97 #[(⟨⟨ac,ad,nodes,⟨da,db,dc,dd⟩,al,am,array,ae,an,after⟩,aW,sn,aX⟩:au).val] W6 fun e w'=>e=.returned (.int .i64 er)/\Below W6.heap.size W6 w':=by rw [aY];exact bI
      clear bI;have aH:=Hh ap;clear ap;replace ⟨hs,bi,l,aV,av,aE,bk,aZ⟩:=H8 hs bi l aV av aE bk aZ;replace aY:=Hh aY;go_upto_region 16 with fail;rw [<- aH.out];clear z0 z1 z2 z3 z4 z5 z6 z7 z8 z9 bL bM bN;go_wp2_with fail;refine aZ.out.mono ?_;rintro e w7 ⟨rfl,a0⟩;have aL:=bk.out.below a0;clear x0 x1 x2 x3 x4 x5 x6 x7 x8 x9 bF bG bH;by_cases gm:Di (⟨ac,ad,nodes,⟨da,db,dc,dd⟩,al,am,array,ae,an,after⟩:dp)=true
      .have bl:er=0:=(by rw [aY.out];exact Ad gm);subst bl;have d7:((0:Int) != (0:Int))=false:=rfl
       have aF:∀ i s,i<j+1->r[i]?=some s->Di s.pl=true:=fun i s hi bn=>by
        by_cases c:i=j
        .subst c;rw [hs.out] at bn;rw [<- J0 bn];exact gm
        .exact a7.out i s (by omega) bn
       replace ⟨a0,aL,gm,aF⟩:=H4 a0 aL gm aF;go_wp2;go_roundw
       case rel=>exact ⟨j+1,by go_num,by omega,aF.out,aL.out⟩
       case measure=>simp [intOf];omega
      .have bl:er=80:=(by rw [aY.out];exact Ac gm);subst bl;have d7:((80:Int) != (0:Int))=true:=rfl
       have d:E=130:=by
        have bO:A=false:=(by rw [hA.out,I8];intro c;rw [Re] at c;exact gm (c _ (Bd.2 ⟨_,Aj hs.out,rfl⟩)));rw [aI.out,bO];rfl
       replace ⟨a0,aL,gm,d⟩:=H4 a0 aL gm d;go_wp2;go_ret;exact ⟨by rw [d.out];rfl,aL.out.bx.low⟩
     .have bE:¬ (j:Int)<u:=(by omega);have bs:A=true:=(by rw [hA.out,Re];intro s hs;obtain ⟨z,hz,rfl⟩:=Bd.1 hs;obtain ⟨i,hi⟩:=List.mem_iff_getElem?.1 hz;have bX:=(Aq.1 hi).1;exact a7.out i z (by have:=aN.out;omega) hi);have t:E=if R=true then 0 else 130:=(by rw [aI.out,bs];rfl);have y1:=Bk hZ.out.bx.box 1 (.int .i64 e2) rfl;have y2:=Bk hZ.out.bx.box 2 (.int .i64 t2) rfl;have y3:=Bk hZ.out.bx.box 3 (.int .i64 aK) rfl;have y4:=Bk hZ.out.bx.box 4 (.int .i64 s2) rfl;have y5:=Bk hZ.out.bx.box 5 (.int .i64 j2) rfl;have y6:=Bk hZ.out.bx.box 6 (.int .i64 a2) rfl;have y7:=Bk hZ.out.bx.box 7 (.int .i64 n2) rfl;have y8:=Bk hZ.out.bx.box 8 (.int .i64 h2) rfl;replace ⟨bs,t⟩:=H2 bs t;clear y0 y9;by_cases u0:e2=0;rotate_left
      .have d0:(e2 != (0:Int))=true:=(by rw [Fg];exact u0);have d:E=130:=(by rw [t.out,Ac];rw [hR.out];unfold Kd;simp [u0]);replace ⟨u0,d⟩:=H2 u0 d;go_wp2;go_ret;exact ⟨by rw [d.out];rfl,hZ.out.bx.low⟩
      have d0:(e2 != (0:Int))=false:=(by rw [u0];rfl);by_cases u1:t2=0;rotate_left
      .have d1:(t2 != (0:Int))=true:=(by rw [Fg];exact u1);have d:E=130:=(by rw [t.out,Ac];rw [hR.out];unfold Kd;simp [u1]);replace ⟨u0,u1,d⟩:=H3 u0 u1 d;go_wp2;go_ret;exact ⟨by rw [d.out];rfl,hZ.out.bx.low⟩
      have d1:(t2 != (0:Int))=false:=(by rw [u1];rfl);by_cases u2:aK=0;rotate_left
      .have d2:(aK != (0:Int))=true:=(by rw [Fg];exact u2);have d:E=130:=(by rw [t.out,Ac];rw [hR.out];unfold Kd;simp [u2]);replace ⟨u0,u1,u2,d⟩:=H4 u0 u1 u2 d;go_wp2;go_ret;exact ⟨by rw [d.out];rfl,hZ.out.bx.low⟩
      have d2:(aK != (0:Int))=false:=(by rw [u2];rfl);by_cases u3:s2=0;rotate_left
      .have d3:(s2 != (0:Int))=true:=(by rw [Fg];exact u3);have d:E=130:=(by rw [t.out,Ac];rw [hR.out];unfold Kd;simp [u3]);replace ⟨u0,u1,u2,u3,d⟩:=H5 u0 u1 u2 u3 d;go_wp2;go_ret;exact ⟨by rw [d.out];rfl,hZ.out.bx.low⟩
      have d3:(s2 != (0:Int))=false:=(by rw [u3];rfl);by_cases u4:j2=0;rotate_left
      .have d4:(j2 != (0:Int))=true:=(by rw [Fg];exact u4);have d:E=130:=(by rw [t.out,Ac];rw [hR.out];unfold Kd;simp [u4]);replace ⟨u0,u1,u2,u3,u4,d⟩:=H6 u0 u1 u2 u3 u4 d;go_wp2;go_ret;exact ⟨by rw [d.out];rfl,hZ.out.bx.low⟩
      have d4:(j2 != (0:Int))=false:=(by rw [u4];rfl);by_cases u5:a2=0;rotate_left
      .have d5:(a2 != (0:Int))=true:=(by rw [Fg];exact u5);have d:E=130:=(by rw [t.out,Ac];rw [hR.out];unfold Kd;simp [u5]);replace ⟨u0,u1,u2,u3,u4,u5,d⟩:=H7 u0 u1 u2 u3 u4 u5 d;go_wp2;go_ret;exact ⟨by rw [d.out];rfl,hZ.out.bx.low⟩
      have d5:(a2 != (0:Int))=false:=(by rw [u5];rfl);by_cases u6:n2=0;rotate_left
      .have d6:(n2 != (0:Int))=true:=(by rw [Fg];exact u6);have d:E=130:=(by rw [t.out,Ac];rw [hR.out];unfold Kd;simp [u6]);replace ⟨u0,u1,u2,u3,u4,u5,u6,d⟩:=H8 u0 u1 u2 u3 u4 u5 u6 d;go_wp2;go_ret;exact ⟨by rw [d.out];rfl,hZ.out.bx.low⟩
      have d6:(n2 != (0:Int))=false:=(by rw [u6];rfl);by_cases u7:h2=0;rotate_left
      .have d7:(h2 != (0:Int))=true:=(by rw [Fg];exact u7);have d:E=130:=(by rw [t.out,Ac];rw [hR.out];unfold Kd;simp [u7]);replace ⟨u0,u1,u2,u3,u4,u5,u6,u7⟩:=H8 u0 u1 u2 u3 u4 u5 u6 u7;replace d:=Hh d;go_wp2;go_ret;exact ⟨by rw [d.out];rfl,hZ.out.bx.low⟩
      have d7:(h2 != (0:Int))=false:=(by rw [u7];rfl);have d:E=0:=(by rw [t.out,Ad];rw [hR.out];unfold Kd;simp [u0,u1,u2,u3,u4,u5,u6,u7]);replace ⟨u0,u1,u2,u3,u4,u5,u6,u7⟩:=H8 u0 u1 u2 u3 u4 u5 u6 u7;replace d:=Hh d;go_wp2;go_ret;exact ⟨by rw [d.out];rfl,hZ.out.bx.low⟩
def B8 (k:Int):Bool:=D3 k 2 5 || decide (k=10) || decide (k=11)
end Go.Proofs.YtimlcnhcjndijaaGreatDoor
