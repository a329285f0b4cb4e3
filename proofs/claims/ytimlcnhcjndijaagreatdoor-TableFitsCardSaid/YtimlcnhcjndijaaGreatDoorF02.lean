/- Parts of a proof. No condition. -/
import Derived.Test.YtimlcnhcjndijaaGreatDoorF01
set_option linter.all false
set_option maxRecDepth 100000
set_option maxHeartbeats 6400000
namespace Go.Proofs.YtimlcnhcjndijaaGreatDoor
open Go renaming World->WD,Value->VL,Calls->CS
open Go.RowKit renaming Below->BW
open Go.Proofs.Tryz
section
open Go.RowKit Go.Maps Go.Lib
variable{s:Int}
structure Lf where
 st:Int
 bj:Int
 left:Int
 wall:Bool
 stop:Bool
deriving DecidableEq
def Lf.zero:Lf:=⟨0,0,0,false,false⟩
def jt (s:Int):Bool:=decide (5<=s) && decide (s<=8)
def di (s:Int):Bool:=decide (s=3) || decide (s=4)
def ed (s:Int):Bool:=decide (s=1) || decide (s=2)
def Ew (s:Int):Int:=if ed s=true then 5 else 6
def K1 (l:Lf):Bool:=
 decide (1<=l.st) && decide (l.st<=8) && decide (0<=l.bj) && decide (0<=l.left) && decide (l.bj<=Ew l.st) && decide (l.left<=Ew l.st-l.bj)
  && !(decide (l.bj=0) && (di l.st || jt l.st && decide (l.st≠8))) && (decide (l.st=4) || !l.wall && !l.stop)
def Kc (ae:Int) (held:Bool):Lf×Int:=
 if ae<0\/5<ae then (Lf.zero,1) else (⟨if held=true then 2 else 1,0,ae,false,false⟩,0)
def Nz (l:Lf):Lf:=
 if l.stop=true then ⟨8,l.bj,l.left,false,false⟩ else if l.wall=true then ⟨6,l.bj,l.left,false,false⟩
 else if 0<l.left then ⟨1,l.bj,l.left-1,false,false⟩ else ⟨7,l.bj,l.left,false,false⟩
def Eh (l:Lf) (s:Int):Lf×Bool:=
 if l.st=1/\s=1 then (⟨2,l.bj,l.left,l.wall,l.stop⟩,true)
 else if l.st=2/\s=2 then (⟨1,l.bj,l.left,l.wall,l.stop⟩,true)
 else if l.st=1/\s=3 then (⟨3,l.bj+1,l.left,l.wall,l.stop⟩,true)
 else if s=6\/s=7 then (⟨8,l.bj,l.left,l.wall,l.stop⟩,true) else (l,false)
def Di (l:Lf) (s:Int):Lf×Bool:=
 if s=8 then (if l.st=3 then (⟨5,l.bj,l.left,l.wall,l.stop⟩,true) else (Nz l,true))
 else if (s=6/\l.stop=true)\/(s≠6/\s≠4/\s≠5) then (l,false)
 else (⟨4,l.bj,l.left,l.wall || decide (s=4),l.stop || decide (s=6)⟩,true)
def A2 (l:Lf) (s:Int):Lf×Int:=
 if K1 l=false then (Lf.zero,1)
 else if ed l.st=true then (if (Eh l s).2=true then ((Eh l s).1,0) else (Lf.zero,100))
 else if di l.st=true then (if (Di l s).2=true then ((Di l s).1,0) else (Lf.zero,100))
 else (Lf.zero,100)
def F5 (next m n:Int):Bool:=decide (n=0) || decide (next<=n) || decide (n < -m)
abbrev el:=Int×Int
def Ek (s:el):el:=(max s.1 0,max s.2 0)
def It (s:el):Int:=if s.1=0 then 0 else if s.2=0 then 2 else 1
def Gm (a b:Int):Int:=if a<b then -1 else if b<a then 1 else 0
def F6 (a b:el):Int:=
 if Ek a=Ek b then 0
 else if It (Ek a)≠1\/It (Ek b)≠1 then Gm (It (Ek a)) (It (Ek b))
 else Gm ((Ek a).1*(Ek b).2) ((Ek b).1*(Ek a).2)
def Fd (has whole:V4):Nat->el×Int
 | 0=>((0,0),0)
 | n+1=>if n=0\/0<F6 (Ek (has.get n,whole.get n)) (Fd has whole n).1 then (Ek (has.get n,whole.get n),(n:Int)) else Fd has whole n
def O9 (has whole:V4):el:=(Fd has whole 4).1
def E2 (n:Int):Int:=min (max n 0) 1152921504606846976
def Ju (a b:Int):Int:=E2 (E2 a+E2 b)
def Kg (u v:V4):V4:=⟨Ju u.a v.a,Ju u.b v.b,Ju u.c v.c,Ju u.d v.d⟩
structure df where
 id:Int
 user:ByteArray
 prio:Int
 nf:V4
structure eh where
 user:ByteArray
 has:V4
def A6 (ws:List df) (i:Nat):df:=(ws[i]?).getD ⟨0,ByteArray.empty,0,⟨0,0,0,0⟩⟩
def uu (a b:df):Bool:=decide (b.prio<a.prio) || (decide (a.prio=b.prio) && decide (a.id<=b.id))
def Gn (ws:List df) (l:List Nat):List Nat:=l.mergeSort fun a b=>uu (A6 ws a) (A6 ws b)
structure bt where
 name:ByteArray
 has:V4
 left:List Nat
def sj (s:ByteArray) (u:bt):Bool:=decide (u.name=s)
def Gp (us:List bt) (s:ByteArray):Option Nat:=us.findIdx? (sj s)
def Aw (us:List bt) (s:ByteArray) (i:Nat):List bt:=match Gp us s with
 | none=>us++[⟨s,⟨0,0,0,0⟩,[i]⟩]
 | some k=>us.modify k fun u=>⟨u.name,u.has,u.left++[i]⟩
def B8 (ws:List df):Nat->List bt
 | 0=>[]
 | i+1=>Aw (B8 ws i) (A6 ws i).user i
def Ct (us:List bt) (h:eh):List bt:=match Gp us h.user with
 | none=>us
 | some k=>us.modify k fun u=>⟨u.name,Kg u.has h.has,u.left⟩
def C1 (hs:List eh) (ws:List df):List bt:=
 ((hs.foldl Ct (B8 ws ws.length)).map fun u=>⟨u.name,u.has,Gn ws u.left⟩)
def Fu (us:List bt):List ByteArray:=((us.map fun u=>u.name.data.toList).mergeSort fun a b=>decide (a<=b)).map fun l=>⟨l.toArray⟩
def Cu (whole:V4) (us:List bt) (names:List ByteArray):Nat->Option (Nat×el)
 | 0=>none
 | n+1=>match (names[n]?).bind (Gp us) with
  | none=>Cu whole us names n
  | some k=>match us[k]? with
   | none=>Cu whole us names n
   | some u=>if u.left=[] then Cu whole us names n else match Cu whole us names n with
    | none=>some (k,O9 u.has whole)
    | some (i,s)=>if F6 (O9 u.has whole) s<0 then some (k,O9 u.has whole) else some (i,s)
def Jv (ws:List df) (u:bt):bt:=match u.left with
 | []=>u
 | p :: l=>⟨u.name,Kg u.has (A6 ws p).nf,l⟩
def Cr (whole:V4) (ws:List df) (us:List bt) (names:List ByteArray):Nat->List bt×List Nat
 | 0=>(us,[])
 | n+1=>match Cu whole (Cr whole ws us names n).1 names names.length with
  | none=>Cr whole ws us names n
  | some (k,_)=>match (Cr whole ws us names n).1[k]? with
   | none=>Cr whole ws us names n
   | some u=>((Cr whole ws us names n).1.modify k (Jv ws),(Cr whole ws us names n).2++[u.left.headD 0])
def Lb (whole:V4) (hs:List eh) (ws:List df):List Nat:=(Cr whole ws (C1 hs ws) (Fu (C1 hs ws)) ws.length).2
def Aad (s:Int) (w:WD):CS prog 211 #[.int .i64 s] w fun e w'=>e=.returned (.bool (jt s))/\w'=w:=by
 by_cases a:(5:Int)<=s
 .have d:=Av a;by_cases b:s<=(8:Int)
  .have f:=Av b;have c:jt s=true:=(by unfold jt;simp [a,b]);replace ⟨a,c,b⟩:=H3 a c b;go_enter func211,ntmps211;go_wp2;go_ret;exact ⟨by rw [c.out];rfl,rfl⟩
  .have f:=Ax b;have c:jt s=false:=(by unfold jt;simp [a,b]);replace ⟨a,c,b⟩:=H3 a c b;go_enter func211,ntmps211;go_wp2;go_ret;exact ⟨by rw [c.out];rfl,rfl⟩
 .have d:=Ax a;have c:jt s=false:=by unfold jt;simp [a]
  replace ⟨a,c⟩:=H2 a c;go_enter func211,ntmps211;go_wp2;go_ret;exact ⟨by rw [c.out];rfl,rfl⟩
def Qg (s:Int) (w:WD):CS prog 131 #[.int .i64 s] w fun e w'=>e=.returned (.bool (di s))/\w'=w:=by
 by_cases a:s=3
 .have d:=L0.2 a;have c:di s=true:=by unfold di;simp [a]
  replace ⟨a,c⟩:=H2 a c;go_enter func131,ntmps131;go_wp2;go_ret;exact ⟨by rw [c.out];rfl,rfl⟩
 .have d:=Bl.2 a;by_cases b:s=4
  .have f:=L0.2 b;have c:di s=true:=(by unfold di;simp [b]);replace ⟨a,c,b⟩:=H3 a c b;go_enter func131,ntmps131;go_wp2;go_ret;exact ⟨by rw [c.out];rfl,rfl⟩
  .have f:=Bl.2 b;have c:di s=false:=(by unfold di;simp [a,b]);replace ⟨a,c,b⟩:=H3 a c b;go_enter func131,ntmps131;go_wp2;go_ret;exact ⟨by rw [c.out];rfl,rfl⟩
def Ae4 (s:Int) (w:WD):CS prog 158 #[.int .i64 s] w fun e w'=>e=.returned (.bool (ed s))/\w'=w:=by
 by_cases a:s=1
 .have d:=L0.2 a;have c:ed s=true:=by unfold ed;simp [a]
  replace ⟨a,c⟩:=H2 a c;go_enter func158,ntmps158;go_wp2;go_ret;exact ⟨by rw [c.out];rfl,rfl⟩
 .have d:=Bl.2 a;by_cases b:s=2
  .have f:=L0.2 b;have c:ed s=true:=(by unfold ed;simp [b]);replace ⟨a,c,b⟩:=H3 a c b;go_enter func158,ntmps158;go_wp2;go_ret;exact ⟨by rw [c.out];rfl,rfl⟩
  .have f:=Bl.2 b;have c:ed s=false:=(by unfold ed;simp [a,b]);replace ⟨a,c,b⟩:=H3 a c b;go_enter func158,ntmps158;go_wp2;go_ret;exact ⟨by rw [c.out];rfl,rfl⟩
abbrev Lf.cells (l:Lf):Array VL:=#[.int .i64 l.st,.int .i64 l.bj,.int .i64 l.left,.bool l.wall,.bool l.stop]
abbrev Lf.val (l:Lf):VL:=.agg #[.int .i64 l.st,.int .i64 l.bj,.int .i64 l.left,.bool l.wall,.bool l.stop]
def Ae5 {a b:Bool} (h:a=b):Ending.returned (.bool a)=.returned (.bool b):=by rw [h]
def Wp (st c left:Int) (b a:Bool):K1 ⟨st,c,left,b,a⟩=true↔(1<=st/\st<=8/\0<=c/\0<=left/\c<=Ew st/\left<=Ew st-c)/\¬ (c=0/\(di st=true\/(jt st=true/\st≠8)))/\(st=4\/(b=false/\a=false)):=by
 unfold K1;simp only [E7,Bool.or_eq_true,I1,Bool.not_eq_true',Ij,ne_eq];constructor
 .rintro ⟨⟨⟨⟨⟨⟨⟨a1,a2⟩,a3⟩,d⟩,e⟩,f⟩,g⟩,h⟩;exact ⟨⟨a1,a2,a3,d,e,f⟩,g,h⟩
 .rintro ⟨⟨a1,a2,a3,d,e,f⟩,g,h⟩;exact ⟨⟨⟨⟨⟨⟨⟨a1,a2⟩,a3⟩,d⟩,e⟩,f⟩,g⟩,h⟩
def Ao1 (l:Lf) (w:WD):CS prog 157 #[l.val] w fun e w'=>e=.returned (.bool (K1 l))/\BW w.heap.size w w':=by
 obtain ⟨st,i,left,f,d⟩:=l;have b:=Wp st i left f d;obtain ⟨h,a⟩:=Ex (ed st);have c:=fun W=>Ae4 st W;rw [<- a] at c;have g:Ew st=if h=true then 5 else 6:=by rw [a];rfl
 rw [g] at b;replace ⟨c,b,g,a⟩:=H4 c b g a
 cases h with
 | true=>
  go_enter func157,ntmps157;go_wp2_with fail;refine (c _).mono ?_;rintro e w1 ⟨rfl,rfl⟩;go_wp2_with (first | (go_at_call 131;refine (Qg _ _).mono ?_;rintro e w1 ⟨rfl,rfl⟩) | (go_at_call 211;refine (Aad _ _).mono ?_;rintro e w1 ⟨rfl,rfl⟩))
  all_goals
   go_ret;refine ⟨Ae5 ?_,Bn⟩;rw [Nw,b.out]
   simp_all
   try omega
 | false=>
  go_enter func157,ntmps157;go_wp2_with fail;refine (c _).mono ?_;rintro e w1 ⟨rfl,rfl⟩;go_wp2_with (first | (go_at_call 131;refine (Qg _ _).mono ?_;rintro e w1 ⟨rfl,rfl⟩) | (go_at_call 211;refine (Aad _ _).mono ?_;rintro e w1 ⟨rfl,rfl⟩))
  all_goals
   go_ret;refine ⟨Ae5 ?_,Bn⟩;rw [Nw,b.out]
   simp_all
   try omega
def Ao2 (r:Int) (h:Bool) (w:WD):CS prog 129 #[.int .i64 r,.bool h] w fun e w'=>e=.returned (.tuple #[(Kc r h).1.val,.int .i64 (Kc r h).2])/\BW w.heap.size w w':=by
 by_cases a:r<0\/5<r
 .have b:Kc r h=(Lf.zero,1):=Ad a;rw [b];replace ⟨a,b⟩:=H2 a b;cases h
  all_goals
   go_enter func129,ntmps129;go_wp2
   all_goals first
    | (exfalso;have:=a.out;omega)
    | (refine Ak (v:=.tuple #[Lf.zero.val,.int .i64 1]) (by simp [results,results129,go_sem,Lf.zero]) rfl ⟨rfl,?_⟩;exact Bn)
 .have c:0<=r:=by omega
  have b:Kc r h=(⟨if h=true then 2 else 1,0,r,false,false⟩,0):=Ac a;rw [b];replace ⟨a,b⟩:=H2 a b;cases h
  .go_enter func129,ntmps129;go_wp2;refine Ak (v:=.tuple #[(⟨1,0,r,false,false⟩:Lf).val,.int .i64 0]) (by simp [results,results129,go_sem]) rfl ⟨rfl,?_⟩;exact Bn
  .go_enter func129,ntmps129;go_wp2;refine Ak (v:=.tuple #[(⟨2,0,r,false,false⟩:Lf).val,.int .i64 0]) (by simp [results,results129,go_sem]) rfl ⟨rfl,?_⟩;exact Bn
def Ao3 (l:Lf) (w:WD) (h1:-100<=l.left) (f:l.left<=100):CS prog 212 #[l.val] w fun e w'=>e=.returned (Nz l).val/\BW w.heap.size w w':=by
 obtain ⟨st,a,left,d,c⟩:=l;simp only at h1 f
 cases c with
 | true=>
  go_enter Vu,Vp;go_wp2;refine Ak (v:=(⟨8,a,left,false,false⟩:Lf).val) (by simp [results,results212,go_sem]) rfl ⟨rfl,?_⟩;exact Bn.alloc (by simp) _
 | false=>
  cases d with
  | true=>
   go_enter Vu,Vp;go_wp2;refine Ak (v:=(⟨6,a,left,false,false⟩:Lf).val) (by simp [results,results212,go_sem]) rfl ⟨rfl,?_⟩;exact Bn.alloc (by simp) _
  | false=>
   by_cases q:0<left
   .have b:Nz ⟨st,a,left,false,false⟩=⟨1,a,left-1,false,false⟩:=(by unfold Nz;simp [q]);rw [b];replace b:=Hh b;go_enter Vu,Vp;go_wp2;refine Ak (v:=(⟨1,a,left-1,false,false⟩:Lf).val) (by simp [results,results212,go_sem]) rfl ⟨rfl,?_⟩;exact Bn.alloc (by simp) _
   .have b:Nz ⟨st,a,left,false,false⟩=⟨7,a,left,false,false⟩:=(by unfold Nz;simp [q]);rw [b];replace b:=Hh b;go_enter Vu,Vp;go_wp2;refine Ak (v:=(⟨7,a,left,false,false⟩:Lf).val) (by simp [results,results212,go_sem]) rfl ⟨rfl,?_⟩;exact Bn.alloc (by simp) _
def Ae6  (h:1<=s/\s<=8):s=1\/s=2\/s=3\/s=4\/s=5\/s=6\/s=7\/s=8:=by omega
def Ao4 (l:Lf) (s:Int) (w:WD) (a:l.st=1\/l.st=2) (f:1<=s/\s<=8) (h1:-100<=l.bj) (h:l.bj<=100) :
  CS prog 159 #[l.val,.int .i64 s] w fun e w'=>e=.returned (.tuple #[(Eh l s).1.val,.bool (Eh l s).2])/\BW w.heap.size w w':=by
 obtain ⟨st,g,left,c,b⟩:=l;simp only at h1 h a;obtain ⟨z,d⟩:=Ex (Eh ⟨st,g,left,c,b⟩ s);rw [<- d];rcases a with rfl | rfl
 all_goals
  rcases Ae6 f with rfl | rfl | rfl | rfl | rfl | rfl | rfl | rfl
  all_goals
   clear f;simp [Eh] at d;subst d;go_enter func159,ntmps159;go_wp2;refine Ak (v:=.tuple #[_,_]) (by simp [results,results159,go_sem]) rfl ⟨rfl,?_⟩;exact (Bn.alloc (by simp) _).alloc (by simp;omega) _
def Ao5 (l:Lf) (s:Int) (w:WD) (k:l.st=3\/l.st=4) (f:1<=s/\s<=8) (h1:-100<=l.left) (x:l.left<=100) :
  CS prog 160 #[l.val,.int .i64 s] w fun e w'=>e=.returned (.tuple #[(Di l s).1.val,.bool (Di l s).2])/\BW w.heap.size w w':=by
 have i:=Ao3 l;obtain ⟨st,n,left,c,a⟩:=l;simp only at h1 x k;have i:=fun W=>i W h1 x;obtain ⟨y,m⟩:=Ex (Nz ⟨st,n,left,c,a⟩);rw [<- m] at i;by_cases h:s=8
 .subst h;rcases k with rfl | rfl
  .have d:Di ⟨3,n,left,c,a⟩ 8=(⟨5,n,left,c,a⟩,true):=rfl;rw [d];replace ⟨d,i,m,f⟩:=H4 d i m f;go_enter Ny,Nx;go_wp2;refine Ak (v:=.tuple #[_,_]) (by simp [results,results160,go_sem]) rfl ⟨rfl,?_⟩;exact Bn.alloc (by simp) _
  .have d:Di ⟨4,n,left,c,a⟩ 8=(y,true):=(by rw [m];rfl);rw [d];replace ⟨d,i,m,f⟩:=H4 d i m f;go_enter Ny,Nx;go_wp2_with fail;refine (i _).mono ?_;rintro e w1 ⟨rfl,o⟩;have j:=Ae o (b:=w.heap.size+1) (A3 _ _ (by simp)) (by simp);have fr:=Af j;have p:=Aa j 0;have q:=Aa j 1;have r:=Aa j 2;have t:=Aa j 3;have u:=Aa j 4;simp at p q r t u;have g:=(Bn.alloc (by simp) _).trans (o.mono (by simp;omega));obtain ⟨y1,y2,y3,y4,y5⟩:=y;replace ⟨j,g,o⟩:=H3 j g o;go_wp2;refine Ak (v:=.tuple #[(⟨y1,y2,y3,y4,y5⟩:Lf).val,.bool true]) (by simp [results,results160,go_sem,p,q,r,t,u]) rfl ⟨rfl,?_⟩;exact ((((g.setCell (Dx _) _).setCell (Dx _) _).setCell (Dx _) _).setCell (Dx _) _).setCell (Dx _) _
 .clear i m;obtain ⟨z,d⟩:=Ex (Di ⟨st,n,left,c,a⟩ s);rw [<- d];rcases k with rfl | rfl
  all_goals
   rcases Ae6 f with rfl | rfl | rfl | rfl | rfl | rfl | rfl | rfl
   .clear f h;simp [Di] at d;subst d;go_enter Ny,Nx;go_wp2;refine Ak (v:=.tuple #[_,_]) (by simp [results,results160,go_sem]) rfl ⟨rfl,?_⟩;exact Bn.alloc (by simp) _
   .clear f h;simp [Di] at d;subst d;go_enter Ny,Nx;go_wp2;refine Ak (v:=.tuple #[_,_]) (by simp [results,results160,go_sem]) rfl ⟨rfl,?_⟩;exact Bn.alloc (by simp) _
   .clear f h;simp [Di] at d;subst d;go_enter Ny,Nx;go_wp2;refine Ak (v:=.tuple #[_,_]) (by simp [results,results160,go_sem]) rfl ⟨rfl,?_⟩;exact Bn.alloc (by simp) _
   .cases c<;>cases a
    all_goals
     clear f h;simp [Di] at d;subst d;go_enter Ny,Nx;go_wp2;refine Ak (v:=.tuple #[_,_]) (by simp [results,results160,go_sem]) rfl ⟨rfl,?_⟩;exact Bn.alloc (by simp) _
   .cases c<;>cases a
    all_goals
     clear f h;simp [Di] at d;subst d;go_enter Ny,Nx;go_wp2;refine Ak (v:=.tuple #[_,_]) (by simp [results,results160,go_sem]) rfl ⟨rfl,?_⟩;exact Bn.alloc (by simp) _
   .cases c<;>cases a
    all_goals
     clear f h;simp [Di] at d;subst d;go_enter Ny,Nx;go_wp2;refine Ak (v:=.tuple #[_,_]) (by simp [results,results160,go_sem]) rfl ⟨rfl,?_⟩;exact Bn.alloc (by simp) _
   .clear f h;simp [Di] at d;subst d;go_enter Ny,Nx;go_wp2;refine Ak (v:=.tuple #[_,_]) (by simp [results,results160,go_sem]) rfl ⟨rfl,?_⟩;exact Bn.alloc (by simp) _
   .exact absurd rfl h
def Qh {l:Lf}  (a:K1 l=true) (b:ed l.st=true):A2 l s=if (Eh l s).2=true then ((Eh l s).1,0) else (Lf.zero,100):=by
 unfold A2;rw [Ac (by rw [a];simp),Ad b]
def R6 {l:Lf}  (b:K1 l=true) (c:ed l.st=false) (a:di l.st=true):A2 l s=if (Di l s).2=true then ((Di l s).1,0) else (Lf.zero,100):=by
 unfold A2;rw [Ac (by rw [b];simp),Ac (by rw [c];simp),Ad a]
def Ae7 {l:Lf}  (b:K1 l=true) (c:ed l.st=false) (a:di l.st=false):A2 l s=(Lf.zero,100):=by
 unfold A2;rw [Ac (by rw [b];simp),Ac (by rw [c];simp),Ac (by rw [a];simp)]
def Ao6 {l:Lf}  (a:K1 l=false):A2 l s=(Lf.zero,1):=by
 unfold A2;rw [Ad a]
def Ao7 {l:Lf} (h:K1 l=true):0<=l.bj/\l.bj<=6/\0<=l.left/\l.left<=6/\1<=l.st/\l.st<=8:=by
 obtain ⟨st,f,left,b,a⟩:=l;obtain ⟨⟨a1,a2,a3,c,g,i⟩,_,_⟩:=(Wp _ _ _ _ _).1 h
 have:Ew st=5\/Ew st=6:=by unfold Ew;split<;>simp
 have d:f<=6:=by omega
 have e:left<=6:=by omega
 exact ⟨a3,d,c,e,a1,a2⟩
def M7:ed s=true↔s=1\/s=2:=by simp [ed]
def Mc:di s=true↔s=3\/s=4:=by simp [di]
structure uf (w:WD) (l:Lf) (wr:WD):Prop where
 low:BW w.heap.size w wr
 box:wr.heap[w.heap.size]?=some (.cells l.cells 43 (0,0))
 res:wr.heap[w.heap.size+1]?=some (.cells Lf.zero.cells 43 (0,0))
def uf.jh {w wr w':WD} {l:Lf} (h:uf w l wr) (a:BW wr.heap.size wr w'):uf w l w':=⟨h.low.trans (a.mono h.low.size),Ae a h.box (Ab h.box),Ae a h.res (Ab h.res)⟩
def uf.new (w:WD) (l:Lf):uf w l ((w.alloc (.cells l.cells 43 (0,0))).alloc (.cells Lf.zero.cells 43 (0,0))):=
 ⟨Bn.alloc (by simp) _,Aj _ (Ah _ _),A3 _ _ (by simp)⟩
def M8 {w w1:WD} {b:Nat} (h:BW w.heap.size w w1) (a:w.heap.size<=b) (c d e f g:VL):BW w.heap.size w (((((w1.setCell ⟨b,0,none⟩ c).setCell ⟨b,1,none⟩ d).setCell ⟨b,2,none⟩ e).setCell ⟨b,3,none⟩ f).setCell ⟨b,4,none⟩ g):=
 ((((h.setCell a _).setCell a _).setCell a _).setCell a _).setCell a _
def Ae8 (l:Lf) (s:Int) (w:WD) (hs:1<=s/\s<=8):CS prog 100 #[l.val,.int .i64 s] w fun e w'=>e=.returned (.tuple #[(A2 l s).1.val,.int .i64 (A2 l s).2])/\BW w.heap.size w w':=by
 have d:=uf.new w l;have y:=fun W=>Ao1 l W;have hW:=fun W=>Ao4 l s W;have hV:=fun W=>Ao5 l s W;have n:=@Ao7 l;have n1:=@Ao6 s l;have n2:=@Qh s l;have n3:=@R6 s l;have n4:=@Ae7 s l;have kw:=fun W=>Ae4 l.st W;have kl:=fun W=>Qg l.st W;obtain ⟨q,z⟩:=Ex (K1 l);rw [<- z] at y;obtain ⟨qw,f⟩:=Ex (ed l.st);rw [<- f] at kw;obtain ⟨ql,g⟩:=Ex (di l.st);rw [<- g] at kl;obtain ⟨⟨p1,p2,p3,p4,p5⟩,hp⟩:∃ p,p=(Eh l s).1:=⟨_,rfl⟩;obtain ⟨qp,al⟩:=Ex ((Eh l s).2);obtain ⟨⟨v1,v2,v3,v4,v5⟩,hv⟩:∃ p,p=(Di l s).1:=⟨_,rfl⟩;obtain ⟨qv,am⟩:=Ex ((Di l s).2);rw [<- hp,<- al] at hW n2;rw [<- hv,<- am] at hV n3;clear hp al hv am
 cases q with
 | false=>
  rw [n1 z.symm];obtain ⟨st,bj,left,ad,ac⟩:=l;replace ⟨d,y,hW,hV,n,n1,n2,n3⟩:=H8 d y hW hV n n1 n2 n3;replace ⟨n4,kw,kl,z,f,g,hs⟩:=H7 n4 kw kl z f g hs;go_enter Rl,Ri;go_wp2_with fail;refine (y _).mono ?_;rintro e w1 ⟨rfl,c⟩;have a:=d.jh c;obtain ⟨h,i,j,k,m⟩:=C5 a.box;(try dsimp only at h i j k m);have o:=Bk a.res 0 (.int .i64 0) rfl;have r:=Bk a.res 1 (.int .i64 0) rfl;have t:=Bk a.res 2 (.int .i64 0) rfl;have u:=Bk a.res 3 (.bool false) rfl;have x:=Bk a.res 4 (.bool false) rfl;have fc:=Af a.box;have fr:=Af a.res;replace ⟨a,c⟩:=H2 a c;go_wp2;refine Ak (v:=.tuple #[Lf.zero.val,.int .i64 1]) (by simp [results,results100,go_sem,Lf.zero,o,r,t,u,x]) rfl ⟨rfl,?_⟩;exact M8 a.low (Dx _) _ _ _ _ _
 | true=>
  obtain ⟨b1,b2,b3,b4,b5,b6⟩:=n z.symm
  cases qw with
  | true=>
   have hW:=fun W=>hW W (M7.1 f.symm) hs (by omega) (by omega);rw [n2 z.symm f.symm];obtain ⟨st,bj,left,ad,ac⟩:=l;replace ⟨d,y,hW,hV,n,n1,n2,n3⟩:=H8 d y hW hV n n1 n2 n3;replace ⟨n4,kw,kl,z,f,g,hs,b1⟩:=H8 n4 kw kl z f g hs b1;replace ⟨b2,b3,b4,b5,b6⟩:=H5 b2 b3 b4 b5 b6
   cases qp with
   | true=>
    go_enter Rl,Ri;go_wp2_with fail;refine (y _).mono ?_;rintro e w1 ⟨rfl,c⟩;have a:=d.jh c;obtain ⟨h,i,j,k,m⟩:=C5 a.box;(try dsimp only at h i j k m);have o:=Bk a.res 0 (.int .i64 0) rfl;have r:=Bk a.res 1 (.int .i64 0) rfl;have t:=Bk a.res 2 (.int .i64 0) rfl;have u:=Bk a.res 3 (.bool false) rfl;have x:=Bk a.res 4 (.bool false) rfl;have fc:=Af a.box;have fr:=Af a.res;replace ⟨a,c⟩:=H2 a c;go_wp2_with fail;refine (kw _).mono ?_;rintro e w2 ⟨rfl,rfl⟩;go_wp2_with fail;refine (hW _).mono ?_;rintro e w3 ⟨rfl,c⟩;have b:=a.jh c;clear h i j k m o r t u x fc fr;obtain ⟨h,i,j,k,m⟩:=C5 b.box;(try dsimp only at h i j k m);have o:=Bk b.res 0 (.int .i64 0) rfl;have r:=Bk b.res 1 (.int .i64 0) rfl;have t:=Bk b.res 2 (.int .i64 0) rfl;have u:=Bk b.res 3 (.bool false) rfl;have x:=Bk b.res 4 (.bool false) rfl;have fc:=Af b.box;have fr:=Af b.res;replace ⟨b,c⟩:=H2 b c;go_wp2;refine Ak (v:=.tuple #[(⟨p1,p2,p3,p4,p5⟩:Lf).val,.int .i64 0]) (by simp [results,results100,go_sem,o,r,t,u,x]) rfl ⟨rfl,?_⟩;exact M8 (M8 b.low Ln _ _ _ _ _) (Dx _) _ _ _ _ _
   | false=>
    go_enter Rl,Ri;go_wp2_with fail;refine (y _).mono ?_;rintro e w1 ⟨rfl,c⟩;have a:=d.jh c;obtain ⟨h,i,j,k,m⟩:=C5 a.box;(try dsimp only at h i j k m);have o:=Bk a.res 0 (.int .i64 0) rfl;have r:=Bk a.res 1 (.int .i64 0) rfl;have t:=Bk a.res 2 (.int .i64 0) rfl;have u:=Bk a.res 3 (.bool false) rfl;have x:=Bk a.res 4 (.bool false) rfl;have fc:=Af a.box;have fr:=Af a.res;replace ⟨a,c⟩:=H2 a c;go_wp2_with fail;refine (kw _).mono ?_;rintro e w2 ⟨rfl,rfl⟩;go_wp2_with fail;refine (hW _).mono ?_;rintro e w3 ⟨rfl,c⟩;have b:=a.jh c;clear h i j k m o r t u x fc fr;obtain ⟨h,i,j,k,m⟩:=C5 b.box;(try dsimp only at h i j k m);have o:=Bk b.res 0 (.int .i64 0) rfl;have r:=Bk b.res 1 (.int .i64 0) rfl;have t:=Bk b.res 2 (.int .i64 0) rfl;have u:=Bk b.res 3 (.bool false) rfl;have x:=Bk b.res 4 (.bool false) rfl;have fc:=Af b.box;have fr:=Af b.res;replace ⟨b,c⟩:=H2 b c;go_wp2;refine Ak (v:=.tuple #[Lf.zero.val,.int .i64 100]) (by simp [results,results100,go_sem,Lf.zero,o,r,t,u,x]) rfl ⟨rfl,?_⟩;exact M8 (M8 b.low Ln _ _ _ _ _) (Dx _) _ _ _ _ _
  | false=>
   cases ql with
   | true=>
    have hV:=fun W=>hV W (Mc.1 g.symm) hs (by omega) (by omega);rw [n3 z.symm f.symm g.symm];obtain ⟨st,bj,left,ad,ac⟩:=l;replace ⟨d,y,hW,hV,n,n1,n2,n3⟩:=H8 d y hW hV n n1 n2 n3;replace ⟨n4,kw,kl,z,f,g,hs,b1⟩:=H8 n4 kw kl z f g hs b1;replace ⟨b2,b3,b4,b5,b6⟩:=H5 b2 b3 b4 b5 b6
    cases qv with
    | true=>
     go_enter Rl,Ri;go_wp2_with fail;refine (y _).mono ?_;rintro e w1 ⟨rfl,c⟩;have a:=d.jh c;obtain ⟨h,i,j,k,m⟩:=C5 a.box;(try dsimp only at h i j k m);have o:=Bk a.res 0 (.int .i64 0) rfl;have r:=Bk a.res 1 (.int .i64 0) rfl;have t:=Bk a.res 2 (.int .i64 0) rfl;have u:=Bk a.res 3 (.bool false) rfl;have x:=Bk a.res 4 (.bool false) rfl;have fc:=Af a.box;have fr:=Af a.res;replace ⟨a,c⟩:=H2 a c;go_wp2_with fail;refine (kw _).mono ?_;rintro e w2 ⟨rfl,rfl⟩;go_wp2_with fail;refine (kl _).mono ?_;rintro e w2 ⟨rfl,rfl⟩;go_wp2_with fail;refine (hV _).mono ?_;rintro e w3 ⟨rfl,c⟩;have b:=a.jh c;clear h i j k m o r t u x fc fr;obtain ⟨h,i,j,k,m⟩:=C5 b.box;(try dsimp only at h i j k m);have o:=Bk b.res 0 (.int .i64 0) rfl;have r:=Bk b.res 1 (.int .i64 0) rfl;have t:=Bk b.res 2 (.int .i64 0) rfl;have u:=Bk b.res 3 (.bool false) rfl;have x:=Bk b.res 4 (.bool false) rfl;have fc:=Af b.box;have fr:=Af b.res;replace ⟨b,c⟩:=H2 b c;go_wp2;refine Ak (v:=.tuple #[(⟨v1,v2,v3,v4,v5⟩:Lf).val,.int .i64 0]) (by simp [results,results100,go_sem,o,r,t,u,x]) rfl ⟨rfl,?_⟩;exact M8 (M8 b.low Ln _ _ _ _ _) (Dx _) _ _ _ _ _
    | false=>
     go_enter Rl,Ri;go_wp2_with fail;refine (y _).mono ?_;rintro e w1 ⟨rfl,c⟩;have a:=d.jh c;obtain ⟨h,i,j,k,m⟩:=C5 a.box;(try dsimp only at h i j k m);have o:=Bk a.res 0 (.int .i64 0) rfl;have r:=Bk a.res 1 (.int .i64 0) rfl;have t:=Bk a.res 2 (.int .i64 0) rfl;have u:=Bk a.res 3 (.bool false) rfl;have x:=Bk a.res 4 (.bool false) rfl;have fc:=Af a.box;have fr:=Af a.res;replace ⟨a,c⟩:=H2 a c;go_wp2_with fail;refine (kw _).mono ?_;rintro e w2 ⟨rfl,rfl⟩;go_wp2_with fail;refine (kl _).mono ?_;rintro e w2 ⟨rfl,rfl⟩;go_wp2_with fail;refine (hV _).mono ?_;rintro e w3 ⟨rfl,c⟩;have b:=a.jh c;clear h i j k m o r t u x fc fr;obtain ⟨h,i,j,k,m⟩:=C5 b.box;(try dsimp only at h i j k m);have o:=Bk b.res 0 (.int .i64 0) rfl;have r:=Bk b.res 1 (.int .i64 0) rfl;have t:=Bk b.res 2 (.int .i64 0) rfl;have u:=Bk b.res 3 (.bool false) rfl;have x:=Bk b.res 4 (.bool false) rfl;have fc:=Af b.box;have fr:=Af b.res;replace ⟨b,c⟩:=H2 b c;go_wp2;refine Ak (v:=.tuple #[Lf.zero.val,.int .i64 100]) (by simp [results,results100,go_sem,Lf.zero,o,r,t,u,x]) rfl ⟨rfl,?_⟩;exact M8 (M8 b.low Ln _ _ _ _ _) (Dx _) _ _ _ _ _
   | false=>
    rw [n4 z.symm f.symm g.symm];obtain ⟨st,bj,left,ad,ac⟩:=l;replace ⟨d,y,hW,hV,n,n1,n2,n3⟩:=H8 d y hW hV n n1 n2 n3;replace ⟨n4,kw,kl,z,f,g,hs,b1⟩:=H8 n4 kw kl z f g hs b1;replace ⟨b2,b3,b4,b5,b6⟩:=H5 b2 b3 b4 b5 b6;go_enter Rl,Ri;go_wp2_with fail;refine (y _).mono ?_;rintro e w1 ⟨rfl,c⟩;have a:=d.jh c;obtain ⟨h,i,j,k,m⟩:=C5 a.box;(try dsimp only at h i j k m);have o:=Bk a.res 0 (.int .i64 0) rfl;have r:=Bk a.res 1 (.int .i64 0) rfl;have t:=Bk a.res 2 (.int .i64 0) rfl;have u:=Bk a.res 3 (.bool false) rfl;have x:=Bk a.res 4 (.bool false) rfl;have fc:=Af a.box;have fr:=Af a.res;replace ⟨a,c⟩:=H2 a c;go_wp2_with fail;refine (kw _).mono ?_;rintro e w2 ⟨rfl,rfl⟩;go_wp2_with fail;refine (kl _).mono ?_;rintro e w2 ⟨rfl,rfl⟩;go_wp2;refine Ak (v:=.tuple #[Lf.zero.val,.int .i64 100]) (by simp [results,results100,go_sem,Lf.zero,o,r,t,u,x]) rfl ⟨rfl,?_⟩;exact M8 a.low (Dx _) _ _ _ _ _
def V4.sub (u v:V4):V4×Int:=if u.right=true/\v.right=true then V4.told ⟨u.a-v.a,u.b-v.b,u.c-v.c,u.d-v.d⟩ 31 else (V4.zero,1)
def Ap3 (u v:V4) (w:WD) :
  CS prog 280 #[u.val,v.val] w fun e w'=>e=.returned (.tuple #[(u.sub v).1.val,.int .i64 (u.sub v).2])/\BW w.heap.size w w':=by
 by_cases o:u.right=true/\v.right=true
 .have hs:u.sub v=V4.told ⟨u.a-v.a,u.b-v.b,u.c-v.c,u.d-v.d⟩ 31:=Ad o;obtain ⟨t,x⟩:=o;have p:=Hh hs;clear hs;have q:=Hh t;clear t;have s:=Hh x;clear x;go_enter func280,ntmps280;go_wp2_with fail;refine (I5 u _).mono ?_;rintro e w2 ⟨rfl,f⟩;rw [q.out];have j:=((Bn.alloc (by simp) _).alloc (by simp;omega) _).trans (f.mono (by simp;omega));have gu:=Ae f (Aj _ (Aj _ (Ah _ _))) (by simp;omega);have k:=Ae f (Aj _ (A3 (b:=w.heap.size+1) _ _ (by simp))) (by simp);have g:=Ae f (A3 (b:=w.heap.size+2) _ _ (by simp)) (by simp);have cv:=Aa k;have gu:=Hh gu;have k:=Hh k;have g:=Hh g;have f:=Hh f;go_wp2_with fail;refine (I5 v _).mono ?_;rintro e w3 ⟨rfl,h⟩;rw [s.out];have l:=j.trans (h.mono j.size);have ac:=Hh (Ae h gu.out (Ab gu.out));have ad:=Hh (Ae h k.out (Ab k.out));have y:=Hh (Ae h g.out (Ab g.out));clear cv;have h:=Hh h;go_wp2_with fail;refine (Aak 319 _ (fun i=>u.get i-v.get i) _ Apz ?_).mono ?_
  .intro i w1 hi hb;exact Ap0 u v w.heap.size (w.heap.size+1) i w1 hi q.out s.out (Ae hb ac.out (Ab ac.out)) (Ae hb ad.out (Ab ad.out))
  rintro e w4 ⟨rfl,m⟩;have al:=l.trans (m.mono l.size);have g4:=Hh (Ae m y.out (Ab y.out));have m:=Hh m;go_wp2_with fail;refine (Zd ⟨u.a-v.a,u.b-v.b,u.c-v.c,u.d-v.d⟩ 31 _).mono ?_;rintro e w5 ⟨rfl,n⟩;have am:=al.trans (n.mono al.size);have g5:=Ae n g4.out (Ab g4.out);have z:=Aa g5;have fx:=Af g5;clear g5;have n:=Hh n;rw [<- p.out];generalize o:u.sub v=r;have o:=Hh o;go_wp2;refine Ak (v:=.tuple #[r.1.val,.int .i64 r.2]) (by simp [results,results280,go_sem,z]) rfl ⟨by rw [o.out],?_⟩;refine Co ?_ (by simp;omega) _;refine Co ?_ (by simp;omega) _;refine Co ?_ (by simp;omega) _;refine Co ?_ (by simp;omega) _;exact am
 .have hs:u.sub v=(V4.zero,1):=Ac o;have p:=Hh hs;clear hs;have an:=Hh o;clear o;go_enter func280,ntmps280;go_wp2_with fail;refine (I5 u _).mono ?_;rintro e w2 ⟨rfl,f⟩;have j:=((Bn.alloc (by simp) _).alloc (by simp;omega) _).trans (f.mono (by simp;omega));have k:=Ae f (Aj _ (A3 (b:=w.heap.size+1) _ _ (by simp))) (by simp);have g:=Ae f (A3 (b:=w.heap.size+2) _ _ (by simp)) (by simp);have cv:=Aa k;have f:=Hh f;cases t:u.right
  .have q:=Hh t;clear t;have z:=Aa g;have fx:=Af g;clear g k cv;go_wp2;refine Ak (v:=.tuple #[V4.zero.val,.int .i64 1]) (by simp [results,results280,go_sem,z,V4.zero]) rfl ⟨by rw [p.out],?_⟩;refine Co ?_ (by simp;omega) _;refine Co ?_ (by simp;omega) _;refine Co ?_ (by simp;omega) _;refine Co ?_ (by simp;omega) _;exact j
  .have x:v.right=false:=by
    cases x:v.right
    .rfl
    .exact absurd ⟨t,x⟩ an.out
   have q:=Hh t;clear t;have s:=Hh x;clear x;have g:=Hh g;have k:=Hh k;go_wp2_with fail;refine (I5 v _).mono ?_;rintro e w3 ⟨rfl,h⟩;rw [s.out];have l:=j.trans (h.mono j.size);have y:=Ae h g.out (Ab g.out);have z:=Aa y;have fx:=Af y;clear y cv;have h:=Hh h;go_wp2;refine Ak (v:=.tuple #[V4.zero.val,.int .i64 1]) (by simp [results,results280,go_sem,z,V4.zero]) rfl ⟨by rw [p.out],?_⟩;refine Co ?_ (by simp;omega) _;refine Co ?_ (by simp;omega) _;refine Co ?_ (by simp;omega) _;refine Co ?_ (by simp;omega) _;exact l
def V4.add (u v:V4):V4×Int:=if u.right=true/\v.right=true then V4.told ⟨u.a+v.a,u.b+v.b,u.c+v.c,u.d+v.d⟩ 30 else (V4.zero,1)
def Aft (u v:V4) (w:WD) :
  CS prog 281 #[u.val,v.val] w fun e w'=>e=.returned (.tuple #[(u.add v).1.val,.int .i64 (u.add v).2])/\BW w.heap.size w w':=by
 by_cases o:u.right=true/\v.right=true
 .have hs:u.add v=V4.told ⟨u.a+v.a,u.b+v.b,u.c+v.c,u.d+v.d⟩ 30:=Ad o;obtain ⟨t,x⟩:=o;have p:=Hh hs;clear hs;have q:=Hh t;clear t;have s:=Hh x;clear x;go_enter func281,ntmps281;go_wp2_with fail;refine (I5 u _).mono ?_;rintro e w2 ⟨rfl,f⟩;rw [q.out];have j:=((Bn.alloc (by simp) _).alloc (by simp;omega) _).trans (f.mono (by simp;omega));have gu:=Ae f (Aj _ (Aj _ (Ah _ _))) (by simp;omega);have k:=Ae f (Aj _ (A3 (b:=w.heap.size+1) _ _ (by simp))) (by simp);have g:=Ae f (A3 (b:=w.heap.size+2) _ _ (by simp)) (by simp);have cv:=Aa k;have gu:=Hh gu;have k:=Hh k;have g:=Hh g;have f:=Hh f;go_wp2_with fail;refine (I5 v _).mono ?_;rintro e w3 ⟨rfl,h⟩;rw [s.out];have l:=j.trans (h.mono j.size);have ac:=Hh (Ae h gu.out (Ab gu.out));have ad:=Hh (Ae h k.out (Ab k.out));have y:=Hh (Ae h g.out (Ab g.out));clear cv;have h:=Hh h;go_wp2_with fail;refine (Aak 320 _ (fun i=>u.get i+v.get i) _ Ap1 ?_).mono ?_
  .intro i w1 hi hb;exact Ap2 u v w.heap.size (w.heap.size+1) i w1 hi q.out s.out (Ae hb ac.out (Ab ac.out)) (Ae hb ad.out (Ab ad.out))
  rintro e w4 ⟨rfl,m⟩;have al:=l.trans (m.mono l.size);have g4:=Hh (Ae m y.out (Ab y.out));have m:=Hh m;go_wp2_with fail;refine (Zd ⟨u.a+v.a,u.b+v.b,u.c+v.c,u.d+v.d⟩ 30 _).mono ?_;rintro e w5 ⟨rfl,n⟩;have am:=al.trans (n.mono al.size);have g5:=Ae n g4.out (Ab g4.out);have z:=Aa g5;have fx:=Af g5;clear g5;have n:=Hh n;rw [<- p.out];generalize o:u.add v=r;have o:=Hh o;go_wp2;refine Ak (v:=.tuple #[r.1.val,.int .i64 r.2]) (by simp [results,results281,go_sem,z]) rfl ⟨by rw [o.out],?_⟩;refine Co ?_ (by simp;omega) _;refine Co ?_ (by simp;omega) _;refine Co ?_ (by simp;omega) _;refine Co ?_ (by simp;omega) _;exact am
 .have hs:u.add v=(V4.zero,1):=Ac o;have p:=Hh hs;clear hs;have an:=Hh o;clear o;go_enter func281,ntmps281;go_wp2_with fail;refine (I5 u _).mono ?_;rintro e w2 ⟨rfl,f⟩;have j:=((Bn.alloc (by simp) _).alloc (by simp;omega) _).trans (f.mono (by simp;omega));have k:=Ae f (Aj _ (A3 (b:=w.heap.size+1) _ _ (by simp))) (by simp);have g:=Ae f (A3 (b:=w.heap.size+2) _ _ (by simp)) (by simp);have cv:=Aa k;have f:=Hh f;cases t:u.right
  .have q:=Hh t;clear t;have z:=Aa g;have fx:=Af g;clear g k cv;go_wp2;refine Ak (v:=.tuple #[V4.zero.val,.int .i64 1]) (by simp [results,results281,go_sem,z,V4.zero]) rfl ⟨by rw [p.out],?_⟩;refine Co ?_ (by simp;omega) _;refine Co ?_ (by simp;omega) _;refine Co ?_ (by simp;omega) _;refine Co ?_ (by simp;omega) _;exact j
  .have x:v.right=false:=by
    cases x:v.right
    .rfl
    .exact absurd ⟨t,x⟩ an.out
   have q:=Hh t;clear t;have s:=Hh x;clear x;have g:=Hh g;have k:=Hh k;go_wp2_with fail;refine (I5 v _).mono ?_;rintro e w3 ⟨rfl,h⟩;rw [s.out];have l:=j.trans (h.mono j.size);have y:=Ae h g.out (Ab g.out);have z:=Aa y;have fx:=Af y;clear y cv;have h:=Hh h;go_wp2;refine Ak (v:=.tuple #[V4.zero.val,.int .i64 1]) (by simp [results,results281,go_sem,z,V4.zero]) rfl ⟨by rw [p.out],?_⟩;refine Co ?_ (by simp;omega) _;refine Co ?_ (by simp;omega) _;refine Co ?_ (by simp;omega) _;refine Co ?_ (by simp;omega) _;exact l
end
namespace Pl
open Go.RowKit
variable{b cap i:Nat}{w w':WD}
structure St where
 t:Int
 f:V4
deriving DecidableEq
def St.zero:St:=⟨0,V4.zero⟩
abbrev St.val (s:St):VL:=.agg #[.int .i64 s.t,.int .i64 s.f.a,.int .i64 s.f.b,.int .i64 s.f.c,.int .i64 s.f.d]
def St.cells (s:St):List VL:=[.int .i64 s.t,.int .i64 s.f.a,.int .i64 s.f.b,.int .i64 s.f.c,.int .i64 s.f.d]
def Bg (l:List St):List VL:=l.flatMap St.cells
def Oa (l:List St):(Bg l).length=l.length*5:=by
 induction l with
 | nil=>rfl
 | cons s l ih=>simp only [Bg,Ta,Cn] at *;rw [ih];simp [St.cells];omega
def Aal (l m:List St):Bg (l++m)=Bg l++Bg m:=by simp [Bg]
def nth (l:List St) (i:Nat):St:=l.getD i St.zero
def Ap4 (l:List St) (i j:Nat) (a:i<l.length) (b:j<5):(Bg l)[i*5+j]?=(nth l i).cells[j]?:=by
 induction l generalizing i with
 | nil=>simp at a
 | cons s l ih=>
  cases i with
  | zero=>
   simp only [nth,Bg,Ta,Nat.zero_mul,Da,List.getD_cons_zero];rw [E5 (by simp [St.cells];omega)]
  | succ i=>
   have e:(i+1)*5+j=s.cells.length+(i*5+j):=(by simp [St.cells];omega);simp only [nth,Bg,Ta,List.getD_cons_succ];rw [e,Gc (by omega),Nat.add_sub_cancel_left];exact ih i (by simpa using a)
structure Row (w:WD) (sb cap:Nat) (l:List St):Prop where
 le:l.length<=cap
 max:cap<=9223372036854775807
 ar:∃ cur:Array VL,w.heap[sb]?=some (.cells cur 398 (0,0))/\cur.size=cap*5/\cur.toList.take (l.length*5)=Bg l
def Row.cell   {l:List St} (h:Row w b cap l) {i j:Nat} (d:i<l.length) (e:j<5) :
  w.cell? ⟨b,i*5+j,none⟩=(nth l i).cells[j]?:=by
 obtain ⟨a,c,g,f⟩:=h.ar;rw [Aa c]
 have:(Bg l)[i*5+j]?=a[i*5+j]?:=by rw [<- f,Ls,Ad (by omega)];simp
 rw [<- this];exact Ap4 l i j d e
def Row.cells  {e cap:Nat} {l:List St} (h:Row w e cap l)  (g:i<l.length) :
  w.cell? ⟨e,i*5,none⟩=some (.int .i64 (nth l i).t)/\w.cell? ⟨e,i*5+1,none⟩=some (.int .i64 (nth l i).f.a) /\
  w.cell? ⟨e,i*5+2,none⟩=some (.int .i64 (nth l i).f.b)/\w.cell? ⟨e,i*5+3,none⟩=some (.int .i64 (nth l i).f.c) /\
  w.cell? ⟨e,i*5+4,none⟩=some (.int .i64 (nth l i).f.d):=
 ⟨h.cell g (j:=0) (by omega),h.cell g (j:=1) (by omega),h.cell g (j:=2) (by omega),h.cell g (j:=3) (by omega),h.cell g (j:=4) (by omega)⟩
def Row.of_block  {c cap:Nat} {l:List St} (h:Row w c cap l) (f:w'.heap[c]?=w.heap[c]?):Row w' c cap l:=by
 obtain ⟨a,b,d,h1,e⟩:=h;exact ⟨a,b,d,f.trans h1,e⟩
def Row.lt  {a cap:Nat} {l:List St} (h:Row w a cap l):a<w.heap.size:=by
 obtain ⟨_,_,b,h1,c⟩:=h;exact Ab h1
def Row.below {B:Nat}   {l:List St} (h:Row w b cap l) (c:BW B w w') (a:b<B):Row w' b cap l:=h.of_block (c.block _ a)
def Afu (s:St) (t:Int) (w:WD) (h1:-1099511627776<=s.t) (a:s.t<=1099511627776) (b:-1099511627776<=t) (c:t<=1099511627776) :
  CS prog 332 #[s.val,.int .i64 t] w fun e w'=>e=.returned (.int .i64 (s.t-t))/\BW w.heap.size w w':=by
 go_enter func332,ntmps332;go_wp2;go_ret;exact ⟨rfl,Bn⟩
def Ap5 (n:Nat) (T:Nat->Int) (t:Int) (w:WD) (e:Ending) (w':WD):Prop:=
 ∃ r:Nat,e=.returned (.tuple #[.int .i64 r,.bool (decide (r<n/\T r=t))])/\r<=n/\(∀ k,k<r->T k<t)/\(∀ k,r<=k->k<n->t<=T k)/\BW w.heap.size w w'
def Md (l:List St):Prop:=∀ i j,i<j->j<l.length->(nth l i).t<(nth l j).t
def Ap6 (l:List St) (sb cap:Nat) (t:Int) (w:WD) (n:Row w sb cap l) (p:∀ i,i<l.length->0<=(nth l i).t/\(nth l i).t<=1099511627776) (c:Md l)
  (h3:0<=t) (u:t<=1099511627776) (z:l.length<=1099511627776) :
  CS prog 331 #[.slice (some ⟨sb,0,none⟩) l.length cap,.int .i64 t,.func (.func 332) #[] #[]] w (Ap5 l.length (fun i=>(nth l i).t) t w):=by
 have n:=Hh n;have p:=Hh p;have c:=Hh c;go_enter func331,ntmps331;go_wp2;go_loopw [9,10,11] (fun i j _ wr=>∃ a b:Nat,a<=b/\b<=l.length/\i=.int .i64 a/\j=.int .i64 b/\BW w.heap.size w wr/\Hid (∀ k,k<a->(nth l k).t<t)/\Hid (∀ k,b<=k->k<l.length->t<=(nth l k).t)) (fun i j _ _=>(intOf j).toNat-(intOf i).toNat)
 case atStart=>exact ⟨0,l.length,by omega,by omega,rfl,rfl,Below.refl _ _,by intro k r;omega,by intro k r;omega⟩
 case round=>
  obtain ⟨a,b,al,y,rfl,rfl,f,q,m⟩:=hrel;by_cases an:a<b
  .have ac:(a:Int)<b:=(by omega);have x:(a:Int)+b<=2199023255552:=(by omega);have v:(0:Int)<=(a:Int)+b:=(by omega);have ao:((a:Int)+b) / 2<l.length:=(by omega);obtain ⟨c0,c1,c2,c3,c4⟩:=(n.of_block (f.block _ n.lt)).cells (i:=(a+b) / 2) (by omega);obtain ⟨l1,l2⟩:=p ((a+b) / 2) (by omega);go_wp2_with fail;refine (Afu (nth l ((a+b) / 2)) t wr (by omega) (by omega) (by omega) u).mono ?_;rintro e w2 ⟨rfl,d⟩;have g:=Hh (f.trans (d.mono f.size));have d:=Hh d;clear f;by_cases ad:(nth l ((a+b) / 2)).t-t<0
   .go_wp2;go_roundw
    case rel=>
     refine ⟨(a+b) / 2+1,b,by omega,by omega,by go_num,rfl,g.out,?_,m⟩;intro k r;by_cases h:k=(a+b) / 2
     .subst h;omega
     .have:=c k ((a+b) / 2) (by omega) (by omega);omega
    case measure=>simp [intOf];omega
   .go_wp2;go_roundw
    case rel=>
     refine ⟨a,(a+b) / 2,by omega,by omega,rfl,by go_num,g.out,q,?_⟩;intro k r am;by_cases h:k=(a+b) / 2
     .subst h;omega
     .have:=c ((a+b) / 2) k (by omega) (by omega);omega
    case measure=>simp [intOf];omega
  .have o:a=b:=(by omega);subst o;by_cases hn:a<l.length
   .have s:(a:Int)<l.length:=(by omega);obtain ⟨c0,c1,c2,c3,c4⟩:=(n.of_block (f.block _ n.lt)).cells (i:=a) (by omega);obtain ⟨l1,l2⟩:=p a (by omega);go_wp2_with fail;refine (Afu (nth l a) t wr (by omega) (by omega) (by omega) u).mono ?_;rintro e w2 ⟨rfl,d⟩;have g:=Hh (f.trans (d.mono f.size));have d:=Hh d;clear f;go_wp2;go_ret2;refine ⟨a,?_,y,q,m,g.out⟩;have e:((nth l a).t-t == 0)=decide (a<l.length/\(nth l a).t=t):=(by rw [Nw];simp [hn];omega);rw [<- e];rfl
   .have s:¬ (a:Int)<l.length:=(by omega);go_wp2;go_ret2;refine ⟨a,?_,y,q,m,f⟩;simp [hn]
def Kk (l:List St) (t:Int) (k:Nat):Prop:=k<l.length/\(nth l k).t<=t/\∀ j,k<j->j<l.length->t<(nth l j).t
def Ap7 {l:List St} (h:Md l) (h0:0<=(nth l 0).t):∀ i,i<l.length->(i:Int)<=(nth l i).t:=by
 intro i
 induction i with
 | zero=>intro _;simpa using h0
 | succ i ih=>intro a;have:=h i (i+1) (by omega) a;have:=ih (by omega);omega
structure Ci (w:WD) (pb sb cap:Nat) (whole:V4) (l:List St):Prop where
 head:w.heap[pb]?=some (.cells #[.int .i64 whole.a,.int .i64 whole.b,.int .i64 whole.c,.int .i64 whole.d,.slice (some ⟨sb,0,none⟩) l.length cap] 363 (0,0))
 row:Row w sb cap l
 ne:pb≠sb
structure Cc (l:List St):Prop where
 pos:0<l.length
 zero:(nth l 0).t=0
 az:Md l
 last:∀ i,i<l.length->(nth l i).t<1099511627776
def Cc.ge {l:List St} (h:Cc l) (i:Nat) (a:i<l.length):(i:Int)<=(nth l i).t:=Ap7 h.az (by rw [h.zero];omega) i a
def Cc.len {l:List St} (h:Cc l):l.length<=1099511627776:=by
 have h1:=h.ge (l.length-1) (by have:=h.pos;omega);have a:=h.last (l.length-1) (by have:=h.pos;omega);have:=h.pos;omega
def Ap8 (l:List St) (t:Int) (w:WD) (e:Ending) (w':WD):Prop:=∃ k:Nat,e=.returned (.int .i64 k)/\Kk l t k/\BW w.heap.size w w'
def Xb (q s cap:Nat) (whole:V4) (l:List St) (t:Int) (w:WD) (m:Ci w q s cap whole l) (c:Cc l) (v:0<=t) (x:t<=1099511627776) :
  CS prog 313 #[.pointer (some ⟨q,0,none⟩),.int .i64 t] w (Ap8 l t w):=by
 have u:=Aa m.head 4;simp at u;have k:=c.len;have m:=Hh m;have c:=Hh c;go_enter func313,ntmps313;go_wp2_with fail;refine (Ap6 l s cap t w m.row (fun i o=>⟨by have:=c.ge i o;omega,by have:=c.last i o;omega⟩) c.az v x k).mono ?_;rintro e w2 ⟨r,rfl,hr,h1,f,d⟩;have h1:=Hh h1;have f:=Hh f;have d:=Hh d;by_cases a:r<l.length/\(nth l r).t=t
 .have g:decide (r<l.length/\(nth l r).t=t)=true:=by simpa using a
  simp only [g];have a:=Hh a;clear g;go_wp2;go_ret;refine ⟨r,rfl,⟨a.1,by rw [a.2];omega,?_⟩,d.out⟩;intro j p b;have:=c.az r j p b;rw [a.2] at this;exact this
 .have g:decide (r<l.length/\(nth l r).t=t)=false:=by simpa using a
  simp only [g]
  have h0:0<r:=by
   apply Ii;intro hc
   have:r=0:=by omega
   subst this;have z:t<=(nth l 0).t:=f 0 Ln c.pos;have hz:=c.zero;have y:(nth l 0).t=t:=(by omega);exact a ⟨c.pos,y⟩
  have a:=Hh a;clear g;go_wp2;go_ret;refine ⟨r-1,?_,⟨by omega,?_,?_⟩,d.out⟩
  .have e:((r:Int)-1)=((r-1:Nat):Int):=(by omega);rw [<- e];rfl
  .have:=h1 (r-1) (by omega);omega
  .intro j p b;have hq:=f j (by omega) b;by_cases n:j=r
   .subst n;have:(nth l j).t≠t:=fun h=>a.out ⟨b,h⟩;omega
   .have:=f r Ln (by omega);have:=c.az r j (by omega) b;omega
def Fy (p:V4):List St->List St
 | []=>[]
 | s :: r=>if s.f=p then Fy s.f r else s :: Fy s.f r
def B6:List St->List St
 | []=>[]
 | s :: r=>s :: Fy s.f r
def Pc (p:V4):List St->V4
 | []=>p
 | s :: r=>Pc s.f r
def Aqe (p:V4) (l:List St) (x:St):Fy p (l++[x])=Fy p l++(if x.f=Pc p l then [] else [x]):=by
 induction l generalizing p with
 | nil=>by_cases h:x.f=p<;>simp [Fy,Pc,h]
 | cons s r ih=>
  simp only [Ox,Fy,Pc];rw [ih]
  by_cases h:s.f=p<;>by_cases a:x.f=Pc s.f r<;>simp [h,a]
def Aqf (l:List St) (x:St) (h:0<l.length):B6 (l++[x])=B6 l++(if x.f=(nth l (l.length-1)).f then [] else [x]):=by
 have a:∀ (l:List St) (p:V4),Pc p l=if 0<l.length then (nth l (l.length-1)).f else p:=by
  intro l
  induction l with
  | nil=>intro p;simp [Pc]
  | cons s r ih=>
   intro p;simp only [Pc];rw [ih]
   cases r with
   | nil=>simp [nth]
   | cons s2 r2=>simp [nth]
 cases l with
 | nil=>simp at h
 | cons s r=>
  simp only [Ox,B6];rw [Aqe,a]
  cases r with
  | nil=>simp [nth]
  | cons s2 r2=>simp [nth]
def Aqg (l m:List St) (i:Nat) (h:i<l.length):nth (l++m) i=nth l i:=by
 simp [nth,E5 h]
def Xd (l:List St) (n i:Nat) (h:i<n):nth (l.take n) i=nth l i:=by
 simp [nth,h]
def Aan (l:List St) (n i:Nat) (s:St) (h:n<l.length):nth (l.set n s) i=if i=n then s else nth l i:=by
 simp only [nth,Yl,Do];by_cases e:n=i
 .subst e;simp [h]
 .simp [e,P3 e]
def Tz (l:List St) (n:Nat) (h:n<l.length):l.take (n+1)=l.take n++[nth l n]:=by
 rw [List.take_succ_eq_append_getElem h];simp [nth,h]
def Aao (l:List St) (n:Nat) (h0:0<n) (h:n<l.length):B6 (l.take (n+1))=B6 (l.take n)++(if (nth l n).f=(nth l (n-1)).f then [] else [nth l n]):=by
 rw [Tz l n h,Aqf _ _ (by rw [E8];omega)];congr 2;rw [E8,Ly (by omega),Xd l n (n-1) (by omega)]
def Aap:∀ (l:List St) (n:Nat),n<=l.length->(∀ i,0<i->i<n->(nth l i).f≠(nth l (i-1)).f)->B6 (l.take n)=l.take n:=by
 intro l n a h
 induction n with
 | zero=>simp [B6]
 | succ n ih=>
  cases n with
  | zero=>
   cases l with
   | nil=>simp at a
   | cons s r=>simp [B6,Fy]
  | succ n=>
   rw [Aao l (n+1) (by omega) (by omega),ih (by omega) (fun i h1 b=>h i h1 (by omega)),Ac (h (n+1) (by omega) (by omega)),<- Tz l (n+1) (by omega)]
def Wy (l:List St) (i:Nat) (s:St) (c:i<l.length):Bg (l.set i s)=(Bg l).take (i*5)++s.cells++(Bg l).drop (i*5+5):=by
 induction l generalizing i with
 | nil=>simp at c
 | cons a l ih=>
  cases i with
  | zero=>simp [Bg,St.cells]
  | succ i=>
   have d:(i+1)*5=5+i*5:=(by omega);have e:5+i*5+5=5+(i*5+5):=(by omega);have b:=ih i (by simpa using c);simp only [Bg] at b ⊢;simp only [Y0,Ta,b];rw [d,e];show _=List.take (a.cells.length+i*5) _++_++List.drop (a.cells.length+(i*5+5)) _;rw [List.take_length_add_append,List.drop_length_add_append];simp
def Aqh (f:Array VL) (o:Nat) (a b c d e:VL) (h:o+5<=f.size) :
  (((((f.setIfInBounds o a).setIfInBounds (o+1) b).setIfInBounds (o+2) c).setIfInBounds (o+3) d).setIfInBounds (o+4) e).toList=f.toList.take o++[a,b,c,d,e]++f.toList.drop (o+5):=by
 apply Ea;intro i;simp only [Array.toList_setIfInBounds,Do,Dm,Array.length_toList];rw [Ky];by_cases h1:i<o
 .rw [E5 (by simp;omega)];simp [h1,show o≠i by omega,show o+1≠i by omega,show o+2≠i by omega,show o+3≠i by omega,show o+4≠i by omega]
 .rw [Gc (by simp;omega)];have g:(f.toList.take o).length=o:=by simp;omega
  rw [g];by_cases j:i<o+5
  .rw [E5 (by simp;omega)]
   have:i=o\/i=o+1\/i=o+2\/i=o+3\/i=o+4:=by omega
   rcases this with rfl | rfl | rfl | rfl | rfl
   .simp;omega
   .simp [show o+1-o=1 by omega];omega
   .simp [show o+2-o=2 by omega];omega
   .simp [show o+3-o=3 by omega];omega
   .simp [show o+4-o=4 by omega];omega
  .rw [Gc (by simp;omega)];simp [show o≠i by omega,show o+1≠i by omega,show o+2≠i by omega,show o+3≠i by omega,show o+4≠i by omega];congr 1;omega
def World.l9 (w:WD) (sb i:Nat) (s:St):WD:=
 ((((w.setCell ⟨sb,i*5,none⟩ (.int .i64 s.t)).setCell ⟨sb,i*5+1,none⟩ (.int .i64 s.f.a)).setCell ⟨sb,i*5+2,none⟩ (.int .i64 s.f.b)).setCell ⟨sb,i*5+3,none⟩ (.int .i64 s.f.c)).setCell ⟨sb,i*5+4,none⟩ (.int .i64 s.f.d)
def Row.l9   {l:List St} (h:Row w b cap l) (i:Nat) (s:St) (e:i<l.length):Row (World.l9 w b i s) b cap (l.set i s):=by
 obtain ⟨h1,c,a,d,f,g⟩:=h;refine ⟨by simpa using h1,c,_,Am (Am (Am (Am (Am d _ _) _ _) _ _) _ _) _ _,by simpa using f,?_⟩;rw [Aqh a (i*5) _ _ _ _ _ (by omega),Wy l i s e,<- g];simp only [Dm,St.cells];have m:l.length*5=i*5+(5+(l.length*5-(i*5+5))):=by omega
 rw [Ky,Ky,List.take_append,List.take_append];have j:(a.toList.take (i*5)).length=i*5:=by simp;omega
 rw [j];have k:l.length*5-i*5-5=l.length*5-(i*5+5):=by omega
 simp only [Il,P1,Da,Nat.reduceAdd,k];rw [C8 (by simp;omega),C8 (l:=[_,_,_,_,_]) (by simp;omega),Vk,Ly (by omega),List.drop_take]
def vz (d:Nat) (a b:Int) (w:WD):(Op.equalIn (d+1) 3 (.int .i64 a) (.int .i64 b)).run prog w=.ok (a == b) w:=by
 simp [Op.equalIn,Mu D2]
def M1:(prog.info? 3).map (fun i=>(i.zero,i.size,i.bytes))=some (some (.int .i64 0),1,8):=by kernel_rfl
def Z1:prog.cellsOf 3=1:=by kernel_rfl
def Aqi (f:Nat) (u v:V4) (w:WD):(Op.equalIn (f+2) 30 u.val v.val).run prog w=.ok (decide (u=v)) w:=by
 obtain ⟨q,e,o,g,p⟩:=Cb M1;show (Op.equalIn ((f+1)+1) 30 u.val v.val).run prog w=_;rw [run_equalIn_array w (f+1) _ _ Y5 e,Z1];show (Op.eqItems (f+1) 3 1 _ _ [0,1,2,3]).run prog w=_;obtain ⟨a,b,c,d⟩:=u;obtain ⟨h,i,j,k⟩:=v
 by_cases h1:a=h<;>by_cases l:b=i<;>by_cases m:c=j<;>by_cases n:d=k
 all_goals
  simp [Op.eqItems,vz,part,sizeOf,typeInfo,e,g,h1,l,m,n]
def Aqj (u v:V4) (w:WD):(Op.equalIn 10000 30 u.val v.val).run prog w=.ok (decide (u=v)) w:=Aqi 9998 u v w
end Pl
section
open Go.RowKit Go.Maps Go.Lib
variable{k r:Int}{M i n:Nat}{α:Type}
def Pp (n i:Nat) (st:List Int×List (List Int)) (k:Int):List Int×List (List Int):=
 if 0<=k/\k<(n:Int) then (st.1.modify i (·+1),st.2.modify k.toNat (·++[(i:Int)])) else st
def Kp (n i:Nat) (st:List Int×List (List Int)) (l:List Int):Nat->List Int×List (List Int)
 | 0=>st
 | j+1=>Pp n i (Kp n i st l j) ((l[j]?).getD 0)
def Jh (after:List (List Int)):Nat->List Int×List (List Int)
 | 0=>(List.replicate after.length 0,List.replicate after.length [])
 | i+1=>Kp after.length i (Jh after i) ((after[i]?).getD []) ((after[i]?).getD []).length
def Ie (left:List Int):Nat->List Int
 | 0=>[]
 | i+1=>if (left[i]?).getD 0=0 then Ie left i++[(i:Int)] else Ie left i
def gh (k:Int) (l:List Int):List Int:=l.take (l.countP (·<k))++k :: l.drop (l.countP (·<k))
def Qy (st:List Int×List Int) (k:Int):List Int×List Int:=
 (st.1.modify k.toNat (· - 1),if ((st.1.modify k.toNat (· - 1))[k.toNat]?).getD 0=0 then gh k st.2 else st.2)
def Dz (st:List Int×List Int) (l:List Int):Nat->List Int×List Int
 | 0=>st
 | j+1=>Qy (Dz st l j) ((l[j]?).getD 0)
structure qk where
 left:List Int
 free:List Int
 out:List Int
def Ss (back:List (List Int)) (s:qk):qk:=match s.free with
 | []=>s
 | i :: r=>let b:=(back[i.toNat]?).getD [];let st:=Dz (s.left,r) b b.length;⟨st.1,st.2,s.out++[i]⟩
def Gs (back:List (List Int)) (s:qk):Nat->qk
 | 0=>s
 | n+1=>Ss back (Gs back s n)
def Aih (after:List (List Int)):qk:=
 Gs (Jh after after.length).2 ⟨(Jh after after.length).1,Ie (Jh after after.length).1 after.length,[]⟩ (2*after.length)
def Ji (after:List (List Int)):Bool:=!decide ((Aih after).out.length<after.length)
def Gt (lo hi:Int) (l:List Int):Prop:=∀ x,x∈l->lo<=x/\x<=hi
def Gt.mono {d c b a:Int} {l:List Int} (h:Gt d c l) (h1:b<=d) (f:c<=a):Gt b a l:=fun x e=>by have:=h x e;omega
def Gt.at {b a:Int} {l:List Int} (h:Gt b a l)  {x:Int} (c:l[i]?=some x):b<=x/\x<=a:=h x (Ai c)
def Oj  {l:List α}  {f:α->α} {x:α} (h:x∈l.modify i f):x∈l\/∃ y,y∈l/\x=f y:=by
 obtain ⟨j,a⟩:=Dg h;rw [Ev] at a
 cases hy:l[j]? with
 | none=>rw [hy] at a;cases a
 | some y=>
  rw [hy] at a;have b:=Ai hy;split at a
  .simp at a;exact .inr ⟨y,b,a.symm⟩
  .simp at a;exact .inl (a▸b)
def Qz  (l:List α) (i:Nat) (f:α->α) {x:α} (a:l[i]?=some x):l.modify i f=l.set i (f x):=by
 apply Ea;intro j;rw [Ev,Do];by_cases h:i=j
 .subst h;have:=(Ao.1 a).1;rw [a,Ad rfl,Ad this];simp
 .simp [h]
def Gu  {l:List α}  {x d:α} (a:l[i]?=some x):(l[i]?).getD d=x:=by rw [a];rfl
structure Tok (n M:Nat) (st:List Int×List (List Int)):Prop where
 left:Gt 0 M st.1
 back:∀ l,l∈st.2->l.length<=M/\Gt 0 ((n:Int)-1) l
def Tok.mono {n M a:Nat} {st:List Int×List (List Int)} (h:Tok n M st) (c:M<=a):Tok n a st:=⟨h.left.mono (Cz _) (by omega),fun l b=>⟨A5 (h.back l b).1 c,(h.back l b).2⟩⟩
def Tok.step  {st:List Int×List (List Int)} (h:Tok n M st) (d:i<n) (k:Int):Tok n (M+1) (Pp n i st k):=by
 unfold Pp;split
 .refine ⟨fun x a=>?_,fun l b=>?_⟩
  .rcases Oj a with c | ⟨y,c,rfl⟩
   .have:=h.left x c;omega
   .have:=h.left y c;omega
  .rcases Oj b with c | ⟨y,c,rfl⟩
   .exact ⟨by have:=(h.back l c).1;omega,(h.back l c).2⟩
   .refine ⟨by have:=(h.back y c).1;simp;omega,fun x a=>?_⟩;rcases Dh.1 a with a | a
    .exact (h.back y c).2 x a
    .simp at a;omega
 .exact h.mono (by omega)
def Tok.row  {st:List Int×List (List Int)} (h:Tok n M st) (a:i<n) (l:List Int) (j:Nat):Tok n (M+j) (Kp n i st l j):=by
 induction j with
 | zero=>exact h
 | succ j ih=>exact ih.step a _
def Tok.start (n:Nat):Tok n 0 (List.replicate n 0,List.replicate n []):=
 ⟨fun x a=>by simp [Vc] at a;omega,fun l b=>by simp [Vc] at b;obtain ⟨_,rfl⟩:=b;exact ⟨by simp,fun x a=>by cases a⟩⟩
def Tok.to {after:List (List Int)} {b:Nat} (a:∀ l,l∈after->l.length<=b):∀ {i:Nat},i<=after.length->Tok after.length (b*i) (Jh after i)
 | 0,_=>Tok.start _
 | i+1,hi=>by
  have h:=(Tok.to a (i:=i) (by omega)).row (i:=i) (by omega) ((after[i]?).getD []) ((after[i]?).getD []).length;refine h.mono ?_;have c:after[i]?=some (after[i]'(by omega)):=A4 _;have:=a _ (Ai c);rw [Gu c];rw [Nat.mul_succ];omega
structure lh (n:Nat) (l:List Int):Prop where
 az:l.Pairwise (·<=·)
 tq:Gt 0 ((n:Int)-1) l
def lh.start (left:List Int):∀ i:Nat,lh i (Ie left i)/\(Ie left i).length<=i
 | 0=>⟨⟨List.Pairwise.nil,fun x c=>by cases c⟩,Nat.le_refl _⟩
 | i+1=>by
  obtain ⟨h,f⟩:=lh.start left i;unfold Ie;split
  .refine ⟨⟨?_,fun x c=>?_⟩,by simp;omega⟩
   .rw [S8];exact ⟨h.az,List.pairwise_singleton _ _,fun a d b e=>by simp at e;have:=h.tq a d;omega⟩
   .rcases Dh.1 c with c | c
    .have:=h.tq x c;omega
    .simp at c;omega
  .exact ⟨⟨h.az,fun x c=>by have:=h.tq x c;omega⟩,by omega⟩
def lh.tail  {x:Int} {l:List Int} (h:lh n (x :: l)):lh n l:=⟨(Ou.1 h.az).2,fun y a=>h.tq y (Ce _ a)⟩
def Aii {k:Int}:∀ {l:List Int},l.Pairwise (·<=·)->(∀ x,x∈l.take (l.countP (·<k))->x<k)/\∀ x,x∈l.drop (l.countP (·<k))->k<=x
 | [],_=>⟨fun x c=>by simp at c,fun x c=>by simp at c⟩
 | y :: l,h=>by
  obtain ⟨h1,e⟩:=Ou.1 h;obtain ⟨a,b⟩:=Aii (k:=k) e;by_cases d:y<k
  .rw [List.countP_cons_of_pos (by simpa using d)];refine ⟨fun x c=>?_,fun x c=>b x (by simpa using c)⟩;simp at c;rcases c with rfl | c
   .exact d
   .exact a x c
  .have h0:(y :: l).countP (·<k)=0:=by
    rw [List.countP_eq_zero];intro x c;rcases Gf.1 c with rfl | c
    .simpa using d
    .have:=h1 x c;simp;omega
   rw [h0];refine ⟨fun x c=>by simp at c,fun x c=>?_⟩;simp at c;rcases c with rfl | c
   .omega
   .have:=h1 x c;omega
def Aui (k:Int) (l:List Int):(gh k l).length=l.length+1:=by
 unfold gh;have:l.countP (·<k)<=l.length:=U8;simp;omega
def lh.ins   {l:List Int} (h:lh n l) (h0:0<=k) (e:k<n):lh n (gh k l):=by
 obtain ⟨a,b⟩:=Aii (k:=k) h.az;unfold gh;refine ⟨?_,fun x c=>?_⟩
 .rw [S8,Ou];refine ⟨h.az.sublist (List.take_sublist _ _),⟨b,h.az.sublist (List.drop_sublist _ _)⟩,fun x c y d=>?_⟩;have:=a x c;rcases Gf.1 d with rfl | d
  .omega
  .have:=b y d;omega
 .rcases Dh.1 c with c | c
  .exact h.tq x (Yv c)
  .rcases Gf.1 c with rfl | c
   .omega
   .exact h.tq x (List.mem_of_mem_drop c)
def J4 (st:List Int×List Int):Nat:=st.1.countP (fun x=>decide (0<x))+st.2.length
def Aij {p:Int->Bool}:∀ {l:List Int} {i:Nat} {x y:Int},l[i]?=some x->(l.set i y).countP p+(if p x=true then 1 else 0)=l.countP p+(if p y=true then 1 else 0)
 | [],i,x,y,h=>by simp at h
 | z :: l,0,x,y,h=>by
  simp at h;subst h;simp only [List.set_cons_zero,Vg];omega
 | z :: l,i+1,x,y,h=>by
  have:=Aij (p:=p) (l:=l) (i:=i) (x:=x) (y:=y) (by simpa using h);simp only [Y0,Vg];omega
def Auj {st:List Int×List Int} {k x:Int} (b:st.1[k.toNat]?=some x):J4 (Qy st k)<=J4 st:=by
 unfold Qy;rw [Qz _ _ _ b];have d:=(Ao.1 b).1;have a:=Aij (p:=fun x=>decide (0<x)) (y:=x-1) b;have c:((st.1.set k.toNat (x-1))[k.toNat]?).getD 0=x-1:=by simp [d]
 rw [c];unfold J4;simp only [I1] at a;split
 .rename_i e;rw [Aui];simp only;rw [Ad (by omega),Ac (by omega)] at a;omega
 .simp only
  split at a<;>split at a<;>omega
def Auk {st:List Int×List Int} {k x:Int} (a:st.1[k.toNat]?=some x):Qy st k=(st.1.set k.toNat (x-1),if x-1=0 then gh k st.2 else st.2):=by
 have c:=(Ao.1 a).1;unfold Qy;rw [Qz _ _ _ a];have b:((st.1.set k.toNat (x-1))[k.toNat]?).getD 0=x-1:=by simp [c]
 rw [b]
def Gt.set {e d b a:Int} {l:List Int}  {y:Int} (h:Gt e d l) (k:b<=e) (j:d<=a) (h1:b<=y) (f:y<=a):Gt b a (l.set i y):=fun x g=>by
 rcases U4 g with c | rfl
 .have:=h x c;omega
 .exact ⟨h1,f⟩
def Aik {a:List (List Int)} {s:qk} {p:Nat} (h:(Gs a s p).free=[]):∀ n,p<=n->Gs a s n=Gs a s p
 | 0,hn=>by
  obtain rfl:p=0:=by omega
  rfl
 | n+1,hn=>by
  by_cases e:p=n+1
  .rw [e]
  .have b:=Aik h n (by omega);show Ss a (Gs a s n)=_;rw [b];unfold Ss;rw [h]
structure Fk (l:Lf) (r:Int):Prop where
 right:K1 l=true
 wait:ed l.st=true->l.bj+l.left=r
 live:di l.st=true->l.bj+l.left=r+1
 dt:l.bj+l.left<=r+1
def Ok {st a left r:Int} {c b:Bool} (h:(1<=st/\st<=8/\0<=a/\0<=left/\a<=Ew st/\left<=Ew st-a)/\¬ (a=0/\(di st=true\/(jt st=true/\st≠8)))/\(st=4\/(c=false/\b=false)))
  (h1:ed st=true->a+left=r) (d:di st=true->a+left=r+1) (e:a+left<=r+1):Fk ⟨st,a,left,c,b⟩ r:=⟨(Wp _ _ _ _ _).2 h,h1,d,e⟩
def Ur:Ew 1=5:=rfl
def Abr:Ew 2=5:=rfl
def Au0:Ew 3=6:=rfl
def Au1:Ew 4=6:=rfl
def Au2:Ew 8=6:=rfl
def Au3  {h:Bool} (h1:0<=r) (a:r<=5):Fk (Kc r h).1 r/\ed (Kc r h).1.st=true:=by
 unfold Kc;rw [Ac (by omega)];cases h
 .exact ⟨Ok ⟨by simp only [Bool.false_eq_true,if_false];rw [Ur];omega,by simp [di,jt],.inr ⟨rfl,rfl⟩⟩ (fun _=>by omega) (fun c=>by simp [di] at c) (by omega),by simp [ed]⟩
 .exact ⟨Ok ⟨by simp only [K0];rw [Abr];omega,by simp [di,jt],.inr ⟨rfl,rfl⟩⟩ (fun _=>by omega) (fun c=>by simp [di] at c) (by omega),by simp [ed]⟩
def Sw {st d left r:Int} {f e:Bool} (h:Fk ⟨st,d,left,f,e⟩ r):(1<=st/\st<=8/\0<=d/\0<=left/\d<=Ew st/\left<=Ew st-d)/\¬ (d=0/\(di st=true\/(jt st=true/\st≠8)))/\(st=4\/(f=false/\e=false))/\(ed st=true->d+left=r)/\(di st=true->d+left=r+1)/\d+left<=r+1:=by
 obtain ⟨a,b,c⟩:=(Wp _ _ _ _ _).1 h.right;exact ⟨a,b,c,h.wait,h.live,h.dt⟩
def Aio {l:Lf} {r s:Int} (h:Fk l r) (m:ed l.st=true) (p:s=6\/s=7):Fk (A2 l s).1 r/\(A2 l s).1.st=8:=by
 rw [Qh h.right m];obtain ⟨st,k,left,i,g⟩:=l
 have e:Eh ⟨st,k,left,i,g⟩ s=(⟨8,k,left,i,g⟩,true):=by
  unfold Eh
  rcases p with rfl | rfl<;>simp
 obtain ⟨a,b,c,d,_,f⟩:=Sw h;rw [e];simp only [K0];have j:st=1\/st=2:=M7.1 m
 have n:i=false/\g=false:=by
  rcases c with c | c
  .omega
  .exact c
 have o:Ew st=5:=by rcases j with rfl | rfl<;>rfl
 rw [o] at a;exact ⟨Ok ⟨by rw [Au2];omega,by simp [di,jt],.inr n⟩ (fun c=>by simp [ed] at c) (fun c=>by simp [di] at c) f,by first | rfl | trivial⟩
def Au4 {l:Lf}  (h:Fk l r) (j:l.st=1):Fk (A2 l 1).1 r/\(A2 l 1).1.st=2:=by
 rw [Qh h.right (M7.2 (.inl j))];obtain ⟨st,k,left,i,g⟩:=l;have j:st=1:=j;subst j;have e:Eh ⟨1,k,left,i,g⟩ 1=(⟨2,k,left,i,g⟩,true):=by simp [Eh]
 obtain ⟨a,b,c,d,_,f⟩:=Sw h;rw [e];simp only [K0]
 have m:i=false/\g=false:=by
  rcases c with c | c
  .omega
  .exact c
 rw [Ur] at a;exact ⟨Ok ⟨by rw [Abr];omega,by simp [di,jt],.inr m⟩ (fun _=>d (by decide)) (fun c=>by simp [di] at c) f,by first | rfl | trivial⟩
def Au5 {l:Lf}  (h:Fk l r) (j:l.st=2):Fk (A2 l 2).1 r/\(A2 l 2).1.st=1:=by
 rw [Qh h.right (M7.2 (.inr j))];obtain ⟨st,k,left,i,g⟩:=l;have j:st=2:=j;subst j;have e:Eh ⟨2,k,left,i,g⟩ 2=(⟨1,k,left,i,g⟩,true):=by simp [Eh]
 obtain ⟨a,b,c,d,_,f⟩:=Sw h;rw [e];simp only [K0]
 have m:i=false/\g=false:=by
  rcases c with c | c
  .omega
  .exact c
 rw [Abr] at a;exact ⟨Ok ⟨by rw [Ur];omega,by simp [di,jt],.inr m⟩ (fun _=>d (by decide)) (fun c=>by simp [di] at c) f,by first | rfl | trivial⟩
def Au6 {l:Lf}  (h:Fk l r) (j:l.st=1):Fk (A2 l 3).1 r/\(A2 l 3).1.st=3:=by
 rw [Qh h.right (M7.2 (.inl j))];obtain ⟨st,k,left,i,g⟩:=l;have j:st=1:=j;subst j;have e:Eh ⟨1,k,left,i,g⟩ 3=(⟨3,k+1,left,i,g⟩,true):=by simp [Eh]
 obtain ⟨a,b,c,d,_,f⟩:=Sw h;rw [e];simp only [K0]
 have m:i=false/\g=false:=by
  rcases c with c | c
  .omega
  .exact c
 have d:=d (by decide);rw [Ur] at a;exact ⟨Ok ⟨by rw [Au0];omega,by simp [di,jt];omega,.inr m⟩ (fun c=>by simp [ed] at c) (fun _=>by omega) (by omega),by first | rfl | trivial⟩
def Abs {l:Lf} {r s:Int} (h:Fk l r) (n:di l.st=true) (m:s=4\/s=5\/(s=6/\l.stop=false)):Fk (A2 l s).1 r/\(A2 l s).1.st=4/\(A2 l s).2=0:=by
 have i:=Mc.1 n;rw [R6 h.right (by rcases i with e | e<;>rw [e]<;>rfl) n];obtain ⟨st,k,left,j,g⟩:=l;have i:st=3\/st=4:=i;have m:s=4\/s=5\/(s=6/\g=false):=m
 have e:Di ⟨st,k,left,j,g⟩ s=(⟨4,k,left,j || decide (s=4),g || decide (s=6)⟩,true):=by
  unfold Di
  rcases m with rfl | rfl | ⟨rfl,rfl⟩<;>simp
 obtain ⟨a,b,c,_,d,f⟩:=Sw h;have o:di st=true:=n;have d:=d o
 have q:Ew st=6:=by rcases i with rfl | rfl<;>rfl
 have p:k≠0:=fun e=>b ⟨e,.inl o⟩;rw [e];simp only [K0];rw [q] at a;exact ⟨Ok ⟨by rw [Au1];omega,fun c=>p c.1,.inl rfl⟩ (fun c=>by simp [ed] at c) (fun _=>d) f,by first | rfl | trivial,by first | rfl | trivial⟩
def Au7 {l:Lf}  (h:Fk l r) (o:di l.st=true):Fk (A2 l 8).1 r/\((A2 l 8).1.st=1\/(5<=(A2 l 8).1.st/\(A2 l 8).1.st<=8)):=by
 have i:=Mc.1 o;rw [R6 h.right (by rcases i with e | e<;>rw [e]<;>rfl) o];obtain ⟨st,n,left,m,k⟩:=l;have i:st=3\/st=4:=i;obtain ⟨a,b,c,_,d,f⟩:=Sw h;have q:di st=true:=o;have d:=d q
 have s:Ew st=6:=by rcases i with rfl | rfl<;>rfl
 have p:n≠0:=fun e=>b ⟨e,.inl q⟩;rw [s] at a
 have g:∀ (j:Int),5<=j->j<=8->Fk ⟨j,n,left,false,false⟩ r:=fun j h1 t=>by
  have e:Ew j=6:=by unfold Ew;rw [Ac];intro c;rw [M7] at c;omega
  exact Ok ⟨by rw [e];omega,fun c=>p c.1,.inr ⟨rfl,rfl⟩⟩ (fun c=>by rw [M7] at c;omega) (fun c=>by rw [Mc] at c;omega) f
 rcases i with rfl | rfl
 .obtain ⟨rfl,rfl⟩:m=false/\k=false:=by
   rcases c with c | c
   .omega
   .exact c
  have e:Di ⟨3,n,left,false,false⟩ 8=(⟨5,n,left,false,false⟩,true):=by simp [Di]
  rw [e];exact ⟨g 5 (by omega) (by omega),.inr ⟨by show (5:Int)<=5;omega,by show (5:Int)<=8;omega⟩⟩
 .have e:Di ⟨4,n,left,m,k⟩ 8=(Nz ⟨4,n,left,m,k⟩,true):=by simp [Di]
  rw [e];simp only [K0];unfold Nz;split
  .exact ⟨g 8 (by omega) (by omega),.inr ⟨by show (5:Int)<=8;omega,by show (8:Int)<=8;omega⟩⟩
  split
  .exact ⟨g 6 (by omega) (by omega),.inr ⟨by show (5:Int)<=6;omega,by show (6:Int)<=8;omega⟩⟩
  split
  .rename_i h1;have h1:0<left:=h1;refine ⟨Ok ⟨?_,fun c=>p c.1,.inr ⟨rfl,rfl⟩⟩ (fun _=>?_) (fun c=>by simp [di] at c) ?_,.inl rfl⟩
   .rw [Ur];simp only;omega
   .simp only;omega
   .simp only;omega
  .exact ⟨g 7 (by omega) (by omega),.inr ⟨by show (5:Int)<=7;omega,by show (7:Int)<=8;omega⟩⟩
def Au8 {l:Lf} {r s:Int} (h:Fk l r) (h0:(A2 l s).2=0) (j:s=6\/s=1\/s=2):Fk (A2 l s).1 r/\((di l.st=true/\(A2 l s).1.st=4)\/(di l.st=false/\ed l.st=true/\di (A2 l s).1.st=false/\((A2 l s).1.st=1\/(A2 l s).1.st=2\/(A2 l s).1.st=8))):=by
 by_cases f:ed l.st=true
 .have c:=M7.1 f
  have g:di l.st=false:=by rcases c with e | e<;>rw [e]<;>rfl
  rcases j with rfl | rfl | rfl
  .obtain ⟨a,b⟩:=Aio h f (.inl rfl);exact ⟨a,.inr ⟨g,f,by rw [b];rfl,.inr (.inr b)⟩⟩
  .by_cases q:l.st=1
   .obtain ⟨a,b⟩:=Au4 h q;exact ⟨a,.inr ⟨g,f,by rw [b];rfl,.inr (.inl b)⟩⟩
   .rw [Qh h.right f] at h0;have e:(Eh l 1).2=false:=(by unfold Eh;simp [q]);rw [e] at h0;simp at h0
  .by_cases q:l.st=2
   .obtain ⟨a,b⟩:=Au5 h q;exact ⟨a,.inr ⟨g,f,by rw [b];rfl,.inl b⟩⟩
   .rw [Qh h.right f] at h0;have e:(Eh l 2).2=false:=(by unfold Eh;simp [q]);rw [e] at h0;simp at h0
 .have d:ed l.st=false:=by simpa using f
  by_cases i:di l.st=true
  .rcases j with rfl | rfl | rfl
   .cases c:l.stop with
    | true=>
     rw [R6 h.right d i] at h0;have e:(Di l 6).2=false:=(by unfold Di;simp [c]);rw [e] at h0;simp at h0
    | false=>
     obtain ⟨a,b,_⟩:=Abs h i (.inr (.inr ⟨rfl,c⟩));exact ⟨a,.inl ⟨i,b⟩⟩
   .rw [R6 h.right d i] at h0;have e:(Di l 1).2=false:=(by unfold Di;simp);rw [e] at h0;simp at h0
   .rw [R6 h.right d i] at h0;have e:(Di l 2).2=false:=(by unfold Di;simp);rw [e] at h0;simp at h0
  .rw [Ae7 h.right d (by simpa using i)] at h0;simp at h0
