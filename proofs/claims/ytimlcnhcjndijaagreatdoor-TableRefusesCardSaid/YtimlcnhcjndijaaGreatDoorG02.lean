/- Parts of a proof. No condition. -/
import Derived.Test.YtimlcnhcjndijaaGreatDoorG01
set_option linter.all false
set_option maxRecDepth 100000
set_option maxHeartbeats 6400000
namespace Go.Proofs.YtimlcnhcjndijaaGreatDoor
open Option renaming none->I,some->Z
open IntKind renaming i64->O
open Value renaming int->G,bool->D,tuple->E,slice->J,pointer->Q
open Ending renaming returned->K
open Obj renaming cells->V
open Go renaming World->WD,Value->VL,Calls->CS
open Go.RowKit renaming Below->BW
open Go.Proofs.Tryz
section
open Go.RowKit Go.Maps Go.Lib
variable{s:Int}
structure Lf where
 st:Int
 bp:Int
 left:Int
 wall:Bool
 stop:Bool
deriving DecidableEq
def Lf.zero:Lf:=⟨0,0,0,false,false⟩
def ki (s:Int):Bool:=decide (5<=s) && decide (s<=8)
def dp (s:Int):Bool:=decide (s=3) || decide (s=4)
def el (s:Int):Bool:=decide (s=1) || decide (s=2)
def E4 (s:Int):Int:=if el s=true then 5 else 6
def K8 (l:Lf):Bool:=
 decide (1<=l.st) && decide (l.st<=8) && decide (0<=l.bp) && decide (0<=l.left) && decide (l.bp<=E4 l.st) && decide (l.left<=E4 l.st-l.bp)
  && !(decide (l.bp=0) && (dp l.st || ki l.st && decide (l.st≠8))) && (decide (l.st=4) || !l.wall && !l.stop)
def Kl (ae:Int) (held:Bool):Lf×Int:=
 if ae<0\/5<ae then(Lf.zero,1)else(⟨if held=true then 2 else 1,0,ae,false,false⟩,0)
def Oj (l:Lf):Lf:=
 if l.stop=true then⟨8,l.bp,l.left,false,false⟩else if l.wall=true then⟨6,l.bp,l.left,false,false⟩
 else if 0<l.left then⟨1,l.bp,l.left-1,false,false⟩else⟨7,l.bp,l.left,false,false⟩
def Em (l:Lf) (s:Int):Lf×Bool:=
 if l.st=1/\s=1 then(⟨2,l.bp,l.left,l.wall,l.stop⟩,true)
 else if l.st=2/\s=2 then(⟨1,l.bp,l.left,l.wall,l.stop⟩,true)
 else if l.st=1/\s=3 then(⟨3,l.bp+1,l.left,l.wall,l.stop⟩,true)
 else if s=6\/s=7 then(⟨8,l.bp,l.left,l.wall,l.stop⟩,true)else(l,false)
def Dl (l:Lf) (s:Int):Lf×Bool:=
 if s=8 then(if l.st=3 then(⟨5,l.bp,l.left,l.wall,l.stop⟩,true)else(Oj l,true))
 else if (s=6/\l.stop=true)\/(s≠6/\s≠4/\s≠5)then(l,false)
 else(⟨4,l.bp,l.left,l.wall || decide (s=4),l.stop || decide (s=6)⟩,true)
def A3 (l:Lf) (s:Int):Lf×Int:=
 if K8 l=false then(Lf.zero,1)
 else if el l.st=true then(if (Em l s).2=true then((Em l s).1,0)else(Lf.zero,100))
 else if dp l.st=true then(if (Dl l s).2=true then((Dl l s).1,0)else(Lf.zero,100))
 else(Lf.zero,100)
def Gf (next m n:Int):Bool:=decide (n=0) || decide (next<=n) || decide (n < -m)
abbrev fj:=Int×Int
def Es (s:fj):fj:=(max s.1 0,max s.2 0)
def Iz (s:fj):Int:=if s.1=0 then 0 else if s.2=0 then 2 else 1
def Gv (a b:Int):Int:=if a<b then -1 else if b<a then 1 else 0
def Gg (a b:fj):Int:=
 if Es a=Es b then 0
 else if Iz (Es a)≠1\/Iz (Es b)≠1 then Gv (Iz (Es a)) (Iz (Es b))
 else Gv ((Es a).1*(Es b).2) ((Es b).1*(Es a).2)
def Fg (has whole:V4):Nat->fj×Int
 | 0=>((0,0),0)
 | n+1=>if n=0\/0<Gg (Es (has.get n,whole.get n)) (Fg has whole n).1 then(Es (has.get n,whole.get n),(n:Int))else Fg has whole n
def Pt (has whole:V4):fj:=(Fg has whole 4).1
def E9 (n:Int):Int:=min (max n 0) 1152921504606846976
def J3 (a b:Int):Int:=E9 (E9 a+E9 b)
def Ko (u v:V4):V4:=⟨J3 u.a v.a,J3 u.b v.b,J3 u.c v.c,J3 u.d v.d⟩
structure dj where
 id:Int
 user:ByteArray
 prio:Int
 om:V4
structure eo where
 user:ByteArray
 has:V4
def A7 (ws:List dj) (i:Nat):dj:=(ws[i]?).getD ⟨0,ByteArray.empty,0,⟨0,0,0,0⟩⟩
def xq (a b:dj):Bool:=decide (b.prio<a.prio) || (decide (a.prio=b.prio) && decide (a.id<=b.id))
def Gw (ws:List dj) (l:List Nat):List Nat:=l.mergeSort λa b=>xq (A7 ws a) (A7 ws b)
structure bu where
 name:ByteArray
 has:V4
 left:List Nat
def uq (s:ByteArray) (u:bu):Bool:=decide (u.name=s)
def Gx (us:List bu) (s:ByteArray):Option Nat:=us.findIdx? (uq s)
def Aw (us:List bu) (s:ByteArray) (i:Nat):List bu:=match Gx us s with
 | none=>us++[⟨s,⟨0,0,0,0⟩,[i]⟩]
 | some k=>us.modify k λu=>⟨u.name,u.has,u.left++[i]⟩
def Cb (ws:List dj):Nat->List bu
 | 0=>[]
 | i+1=>Aw (Cb ws i) (A7 ws i).user i
def Cw (us:List bu) (h:eo):List bu:=match Gx us h.user with
 | none=>us
 | some k=>us.modify k λu=>⟨u.name,Ko u.has h.has,u.left⟩
def C9 (hs:List eo) (ws:List dj):List bu:=
 ((hs.foldl Cw (Cb ws ws.length)).map λu=>⟨u.name,u.has,Gw ws u.left⟩)
def F2 (us:List bu):List ByteArray:=((us.map λu=>u.name.data.toList).mergeSort λa b=>decide (a<=b)).map λl=>⟨l.toArray⟩
def Cx (whole:V4) (us:List bu) (names:List ByteArray):Nat->Option (Nat×fj)
 | 0=>I
 | n+1=>match (names[n]?).bind (Gx us)with
  | none=>Cx whole us names n
  | some k=>match us[k]? with
   | none=>Cx whole us names n
   | some u=>if u.left=[]then Cx whole us names n else match Cx whole us names n with
    | none=>Z (k,Pt u.has whole)
    | some (i,s)=>if Gg (Pt u.has whole) s<0 then Z (k,Pt u.has whole)else Z (i,s)
def J4 (ws:List dj) (u:bu):bu:=match u.left with
 | []=>u
 | p :: l=>⟨u.name,Ko u.has (A7 ws p).om,l⟩
def Cu (whole:V4) (ws:List dj) (us:List bu) (names:List ByteArray):Nat->List bu×List Nat
 | 0=>(us,[])
 | n+1=>match Cx whole (Cu whole ws us names n).1 names names.length with
  | none=>Cu whole ws us names n
  | some (k,_)=>match (Cu whole ws us names n).1[k]? with
   | none=>Cu whole ws us names n
   | some u=>((Cu whole ws us names n).1.modify k (J4 ws),(Cu whole ws us names n).2++[u.left.headD 0])
def Lj (whole:V4) (hs:List eo) (ws:List dj):List Nat:=(Cu whole ws (C9 hs ws) (F2 (C9 hs ws)) ws.length).2
def Ab8 (s:Int) (w:WD):CS prog 211 #[G O s] w λe w'=>e=K (D (ki s))/\w'=w:=by
 by_cases a:(5:Int)<=s
 .have d:=At a;by_cases b:s<=(8:Int)
  .have f:=At b;have c:ki s=true:=(by unfold ki;simp[a,b]);replace⟨a,c,b⟩:=H3 a c b;go_enter func211,ntmps211;go_wp2;go_ret;exact⟨by rw[c.out];rfl,rfl⟩
  .have f:=Au b;have c:ki s=false:=(by unfold ki;simp[a,b]);replace⟨a,c,b⟩:=H3 a c b;go_enter func211,ntmps211;go_wp2;go_ret;exact⟨by rw[c.out];rfl,rfl⟩
 .have d:=Au a;have c:ki s=false:=by unfold ki;simp[a]
  replace⟨a,c⟩:=H2 a c;go_enter func211,ntmps211;go_wp2;go_ret;exact⟨by rw[c.out];rfl,rfl⟩
def Q8 (s:Int) (w:WD):CS prog 131 #[G O s] w λe w'=>e=K (D (dp s))/\w'=w:=by
 by_cases a:s=3
 .have d:=Ma.2 a;have c:dp s=true:=by unfold dp;simp[a]
  replace⟨a,c⟩:=H2 a c;go_enter func131,ntmps131;go_wp2;go_ret;exact⟨by rw[c.out];rfl,rfl⟩
 .have d:=Bj.2 a;by_cases b:s=4
  .have f:=Ma.2 b;have c:dp s=true:=(by unfold dp;simp[b]);replace⟨a,c,b⟩:=H3 a c b;go_enter func131,ntmps131;go_wp2;go_ret;exact⟨by rw[c.out];rfl,rfl⟩
  .have f:=Bj.2 b;have c:dp s=false:=(by unfold dp;simp[a,b]);replace⟨a,c,b⟩:=H3 a c b;go_enter func131,ntmps131;go_wp2;go_ret;exact⟨by rw[c.out];rfl,rfl⟩
def Ahs (s:Int) (w:WD):CS prog 158 #[G O s] w λe w'=>e=K (D (el s))/\w'=w:=by
 by_cases a:s=1
 .have d:=Ma.2 a;have c:el s=true:=by unfold el;simp[a]
  replace⟨a,c⟩:=H2 a c;go_enter func158,ntmps158;go_wp2;go_ret;exact⟨by rw[c.out];rfl,rfl⟩
 .have d:=Bj.2 a;by_cases b:s=2
  .have f:=Ma.2 b;have c:el s=true:=(by unfold el;simp[b]);replace⟨a,c,b⟩:=H3 a c b;go_enter func158,ntmps158;go_wp2;go_ret;exact⟨by rw[c.out];rfl,rfl⟩
  .have f:=Bj.2 b;have c:el s=false:=(by unfold el;simp[a,b]);replace⟨a,c,b⟩:=H3 a c b;go_enter func158,ntmps158;go_wp2;go_ret;exact⟨by rw[c.out];rfl,rfl⟩
abbrev Lf.cells (l:Lf):Array VL:=#[G O l.st,G O l.bp,G O l.left,D l.wall,D l.stop]
abbrev Lf.val (l:Lf):VL:=.agg #[G O l.st,G O l.bp,G O l.left,D l.wall,D l.stop]
def Aht {a b:Bool} (h:a=b):Ending.returned (D a)=K (D b):=by rw[h]
def Vc (st c left:Int) (b a:Bool):K8 ⟨st,c,left,b,a⟩=true↔(1<=st/\st<=8/\0<=c/\0<=left/\c<=E4 st/\left<=E4 st-c)/\¬(c=0/\(dp st=true\/(ki st=true/\st≠8)))/\(st=4\/(b=false/\a=false)):=by
 unfold K8;simp only[Eh,Bool.or_eq_true,In,Bool.not_eq_true',Gl,ne_eq];constructor
 .rintro ⟨⟨⟨⟨⟨⟨⟨a1,a2⟩,a3⟩,d⟩,e⟩,f⟩,g⟩,h⟩;exact⟨⟨a1,a2,a3,d,e,f⟩,g,h⟩
 .rintro ⟨⟨a1,a2,a3,d,e,f⟩,g,h⟩;exact⟨⟨⟨⟨⟨⟨⟨a1,a2⟩,a3⟩,d⟩,e⟩,f⟩,g⟩,h⟩
def Arx (l:Lf) (w:WD):CS prog 157 #[l.val] w λe w'=>e=K (D (K8 l))/\BW w.heap.size w w':=by
 obtain⟨st,i,left,f,d⟩:=l;have b:=Vc st i left f d;obtain⟨h,a⟩:=Ex (el st);have c:=λW=>Ahs st W;rw[<-a]at c;have g:E4 st=if h=true then 5 else 6:=by rw[a];rfl
 rw[g]at b;replace⟨c,b,g,a⟩:=H4 c b g a
 cases h with
 | true=>
  go_enter func157,ntmps157;go_wp2_with fail;refine(c.out _).mono ?_;rintro e w1 ⟨rfl,rfl⟩;go_wp2_with (first|(go_at_call 131;refine(Q8 _ _).mono ?_;rintro e w1 ⟨rfl,rfl⟩)|(go_at_call 211;refine(Ab8 _ _).mono ?_;rintro e w1 ⟨rfl,rfl⟩))
  all_goals
   go_ret;refine⟨Aht ?_,Bn⟩;rw[Oe,b.out]
   simp_all
   try omega
 | false=>
  go_enter func157,ntmps157;go_wp2_with fail;refine(c.out _).mono ?_;rintro e w1 ⟨rfl,rfl⟩;go_wp2_with (first|(go_at_call 131;refine(Q8 _ _).mono ?_;rintro e w1 ⟨rfl,rfl⟩)|(go_at_call 211;refine(Ab8 _ _).mono ?_;rintro e w1 ⟨rfl,rfl⟩))
  all_goals
   go_ret;refine⟨Aht ?_,Bn⟩;rw[Oe,b.out]
   simp_all
   try omega
def Ary (r:Int) (h:Bool) (w:WD):CS prog 129 #[G O r,D h] w λe w'=>e=K (E #[(Kl r h).1.val,G O (Kl r h).2])/\BW w.heap.size w w':=by
 by_cases a:r<0\/5<r
 .have b:Kl r h=(Lf.zero,1):=Ad a;rw[b];replace⟨a,b⟩:=H2 a b;cases h
  all_goals
   go_enter func129,ntmps129;go_wp2
   all_goals first
    | (exfalso;have:=a.out;omega)
    | (refine Ak (v:=E #[Lf.zero.val,G O 1]) (by simp[results,results129,go_sem,Lf.zero]) rfl ⟨rfl,?_⟩;exact Bn)
 .have c:0<=r:=ao9
  have b:Kl r h=(⟨if h=true then 2 else 1,0,r,false,false⟩,0):=Ac a;rw[b];replace⟨a,b⟩:=H2 a b;cases h
  .go_enter func129,ntmps129;go_wp2;refine Ak (v:=E #[(⟨1,0,r,false,false⟩:Lf).val,G O 0]) (by simp[results,results129,go_sem]) rfl ⟨rfl,?_⟩;exact Bn
  .go_enter func129,ntmps129;go_wp2;refine Ak (v:=E #[(⟨2,0,r,false,false⟩:Lf).val,G O 0]) (by simp[results,results129,go_sem]) rfl ⟨rfl,?_⟩;exact Bn
def Arz (l:Lf) (w:WD) (h1:-100<=l.left) (f:l.left<=100):CS prog 212 #[l.val] w λe w'=>e=K (Oj l).val/\BW w.heap.size w w':=by
 obtain⟨st,a,left,d,c⟩:=l;simp only at h1 f
 cases c with
 | true=>
  go_enter Xp,Xl;go_wp2;refine Ak (v:=(⟨8,a,left,false,false⟩:Lf).val) (by simp[results,results212,go_sem]) rfl ⟨rfl,?_⟩;exact Bn.alloc as9 _
 | false=>
  cases d with
  | true=>
   go_enter Xp,Xl;go_wp2;refine Ak (v:=(⟨6,a,left,false,false⟩:Lf).val) (by simp[results,results212,go_sem]) rfl ⟨rfl,?_⟩;exact Bn.alloc as9 _
  | false=>
   by_cases q:0<left
   .have b:Oj ⟨st,a,left,false,false⟩=⟨1,a,left-1,false,false⟩:=(by unfold Oj;simp[q]);rw[b];replace b:=Hh b;go_enter Xp,Xl;go_wp2;refine Ak (v:=(⟨1,a,left-1,false,false⟩:Lf).val) (by simp[results,results212,go_sem]) rfl ⟨rfl,?_⟩;exact Bn.alloc as9 _
   .have b:Oj ⟨st,a,left,false,false⟩=⟨7,a,left,false,false⟩:=(by unfold Oj;simp[q]);rw[b];replace b:=Hh b;go_enter Xp,Xl;go_wp2;refine Ak (v:=(⟨7,a,left,false,false⟩:Lf).val) (by simp[results,results212,go_sem]) rfl ⟨rfl,?_⟩;exact Bn.alloc as9 _
def Ahu  (h:1<=s/\s<=8):s=1\/s=2\/s=3\/s=4\/s=5\/s=6\/s=7\/s=8:=ao9
def Ar0 (l:Lf) (s:Int) (w:WD) (a:l.st=1\/l.st=2) (f:1<=s/\s<=8) (h1:-100<=l.bp) (h:l.bp<=100) :
  CS prog 159 #[l.val,G O s] w λe w'=>e=K (E #[(Em l s).1.val,D (Em l s).2])/\BW w.heap.size w w':=by
 obtain⟨st,g,left,c,b⟩:=l;simp only at h1 h a;obtain⟨z,d⟩:=Ex (Em ⟨st,g,left,c,b⟩ s);rw[<-d];rcases a with rfl|rfl
 all_goals
  rcases Ahu f with rfl|rfl|rfl|rfl|rfl|rfl|rfl|rfl
  all_goals
   clear f;simp[Em]at d;subst d;go_enter func159,ntmps159;go_wp2;refine Ak (v:=E #[_,_]) (by simp[results,results159,go_sem]) rfl ⟨rfl,?_⟩;exact(Bn.alloc as9 _).alloc (by simp;omega) _
def Ar1 (l:Lf) (s:Int) (w:WD) (k:l.st=3\/l.st=4) (f:1<=s/\s<=8) (h1:-100<=l.left) (x:l.left<=100) :
  CS prog 160 #[l.val,G O s] w λe w'=>e=K (E #[(Dl l s).1.val,D (Dl l s).2])/\BW w.heap.size w w':=by
 have i:=Arz l;obtain⟨st,n,left,c,a⟩:=l;simp only at h1 x k;have i:=λW=>i W h1 x;obtain⟨y,m⟩:=Ex (Oj ⟨st,n,left,c,a⟩);rw[<-m]at i;by_cases h:s=8
 .subst h;rcases k with rfl|rfl
  .have d:Dl ⟨3,n,left,c,a⟩ 8=(⟨5,n,left,c,a⟩,true):=rfl;rw[d];replace⟨d,i,m,f⟩:=H4 d i m f;go_enter Oh,Og;go_wp2;refine Ak (v:=E #[_,_]) (by simp[results,results160,go_sem]) rfl ⟨rfl,?_⟩;exact Bn.alloc as9 _
  .have d:Dl ⟨4,n,left,c,a⟩ 8=(y,true):=(by rw[m];rfl);rw[d];replace⟨d,i,m,f⟩:=H4 d i m f;go_enter Oh,Og;go_wp2_with fail;refine(i.out _).mono ?_;rintro e w1 ⟨rfl,o⟩;have j:=Ae o (b:=w.heap.size+1) (A5 _ _ as9) as9;have fr:=Af j;have p:=Aa j 0;have q:=Aa j 1;have r:=Aa j 2;have t:=Aa j 3;have u:=Aa j 4;simp at p q r t u;have g:=(Bn.alloc as9 _).trans (o.mono (by simp;omega));obtain⟨y1,y2,y3,y4,y5⟩:=y;replace⟨j,g,o⟩:=H3 j g o;go_wp2;refine Ak (v:=E #[(⟨y1,y2,y3,y4,y5⟩:Lf).val,D true]) (by simp[results,results160,go_sem,p,q,r,t,u]) rfl ⟨rfl,?_⟩;exact((((g.out.setCell (D8 _) _).setCell (D8 _) _).setCell (D8 _) _).setCell (D8 _) _).setCell (D8 _) _
 .clear i m;obtain⟨z,d⟩:=Ex (Dl ⟨st,n,left,c,a⟩ s);rw[<-d];rcases k with rfl|rfl
  all_goals
   rcases Ahu f with rfl|rfl|rfl|rfl|rfl|rfl|rfl|rfl
   .clear f h;simp[Dl]at d;subst d;go_enter Oh,Og;go_wp2;refine Ak (v:=E #[_,_]) (by simp[results,results160,go_sem]) rfl ⟨rfl,?_⟩;exact Bn.alloc as9 _
   .clear f h;simp[Dl]at d;subst d;go_enter Oh,Og;go_wp2;refine Ak (v:=E #[_,_]) (by simp[results,results160,go_sem]) rfl ⟨rfl,?_⟩;exact Bn.alloc as9 _
   .clear f h;simp[Dl]at d;subst d;go_enter Oh,Og;go_wp2;refine Ak (v:=E #[_,_]) (by simp[results,results160,go_sem]) rfl ⟨rfl,?_⟩;exact Bn.alloc as9 _
   .cases c<;>cases a
    all_goals
     clear f h;simp[Dl]at d;subst d;go_enter Oh,Og;go_wp2;refine Ak (v:=E #[_,_]) (by simp[results,results160,go_sem]) rfl ⟨rfl,?_⟩;exact Bn.alloc as9 _
   .cases c<;>cases a
    all_goals
     clear f h;simp[Dl]at d;subst d;go_enter Oh,Og;go_wp2;refine Ak (v:=E #[_,_]) (by simp[results,results160,go_sem]) rfl ⟨rfl,?_⟩;exact Bn.alloc as9 _
   .cases c<;>cases a
    all_goals
     clear f h;simp[Dl]at d;subst d;go_enter Oh,Og;go_wp2;refine Ak (v:=E #[_,_]) (by simp[results,results160,go_sem]) rfl ⟨rfl,?_⟩;exact Bn.alloc as9 _
   .clear f h;simp[Dl]at d;subst d;go_enter Oh,Og;go_wp2;refine Ak (v:=E #[_,_]) (by simp[results,results160,go_sem]) rfl ⟨rfl,?_⟩;exact Bn.alloc as9 _
   .exact absurd rfl h
def Q9 {l:Lf} {s:Int} (a:K8 l=true) (b:el l.st=true):A3 l s=if (Em l s).2=true then((Em l s).1,0)else(Lf.zero,100):=by
 unfold A3;rw[Ac (by rw[a];simp),Ad b]
def S9 {l:Lf} {s:Int} (b:K8 l=true) (c:el l.st=false) (a:dp l.st=true):A3 l s=if (Dl l s).2=true then((Dl l s).1,0)else(Lf.zero,100):=by
 unfold A3;rw[Ac (by rw[b];simp),Ac (by rw[c];simp),Ad a]
def Ahv {l:Lf} {s:Int} (b:K8 l=true) (c:el l.st=false) (a:dp l.st=false):A3 l s=(Lf.zero,100):=by
 unfold A3;rw[Ac (by rw[b];simp),Ac (by rw[c];simp),Ac (by rw[a];simp)]
def Ar2 {l:Lf} {s:Int} (a:K8 l=false):A3 l s=(Lf.zero,1):=by
 unfold A3;rw[Ad a]
def Ar3 {l:Lf} (h:K8 l=true):0<=l.bp/\l.bp<=6/\0<=l.left/\l.left<=6/\1<=l.st/\l.st<=8:=by
 obtain⟨st,f,left,b,a⟩:=l;obtain⟨⟨a1,a2,a3,c,g,i⟩,_,_⟩:=(Vc _ _ _ _ _).1 h
 have:E4 st=5\/E4 st=6:=by unfold E4;split<;>simp
 have d:f<=6:=ao9
 have e:left<=6:=ao9
 exact⟨a3,d,c,e,a1,a2⟩
def Ns:el s=true↔s=1\/s=2:=by simp[el]
def Mo:dp s=true↔s=3\/s=4:=by simp[dp]
structure wt (w:WD) (l:Lf) (wr:WD):Prop where
 low:BW w.heap.size w wr
 box:wr.heap[w.heap.size]?=Z (V l.cells 43 (0,0))
 res:wr.heap[w.heap.size+1]?=Z (V Lf.zero.cells 43 (0,0))
def wt.ju {w wr w':WD} {l:Lf} (h:wt w l wr) (a:BW wr.heap.size wr w'):wt w l w':=⟨h.low.trans (a.mono h.low.size),Ae a h.box (Ab h.box),Ae a h.res (Ab h.res)⟩
def wt.new (w:WD) (l:Lf):wt w l ((w.alloc (V l.cells 43 (0,0))).alloc (V Lf.zero.cells 43 (0,0))):=
 ⟨Bn.alloc as9 _,Aj _ (Ah _ _),A5 _ _ as9⟩
def Nt {w w1:WD} {b:Nat} (h:BW w.heap.size w w1) (a:w.heap.size<=b) (c d e f g:VL):BW w.heap.size w (((((w1.setCell ⟨b,0,I⟩ c).setCell ⟨b,1,I⟩ d).setCell ⟨b,2,I⟩ e).setCell ⟨b,3,I⟩ f).setCell ⟨b,4,I⟩ g):=
 ((((h.setCell a _).setCell a _).setCell a _).setCell a _).setCell a _
def Ahw (l:Lf) (s:Int) (w:WD) (hs:1<=s/\s<=8):CS prog 100 #[l.val,G O s] w λe w'=>e=K (E #[(A3 l s).1.val,G O (A3 l s).2])/\BW w.heap.size w w':=by
 have d:=wt.new w l;have y:=λW=>Arx l W;have hW:=λW=>Ar0 l s W;have hV:=λW=>Ar1 l s W;have n:=@Ar3 l;have n1:=@Ar2 l s;have n2:=@Q9 l s;have n3:=@S9 l s;have n4:=@Ahv l s;have kw:=λW=>Ahs l.st W;have kl:=λW=>Q8 l.st W;obtain⟨q,z⟩:=Ex (K8 l);rw[<-z]at y;obtain⟨qw,f⟩:=Ex (el l.st);rw[<-f]at kw;obtain⟨ql,g⟩:=Ex (dp l.st);rw[<-g]at kl;obtain⟨⟨p1,p2,p3,p4,p5⟩,hp⟩:∃p,p=(Em l s).1:=⟨_,rfl⟩;obtain⟨qp,af⟩:=Ex ((Em l s).2);obtain⟨⟨v1,v2,v3,v4,v5⟩,hv⟩:∃p,p=(Dl l s).1:=⟨_,rfl⟩;obtain⟨qv,al⟩:=Ex ((Dl l s).2);rw[<-hp,<-af]at hW n2;rw[<-hv,<-al]at hV n3;clear hp af hv al
 cases q with
 | false=>
  rw[n1 z.symm];obtain⟨st,bp,left,ad,ac⟩:=l;replace⟨d,y,hW,hV,n,n1,n2,n3⟩:=H8 d y hW hV n n1 n2 n3;replace⟨n4,kw,kl,z,f,g,hs⟩:=H7 n4 kw kl z f g hs;go_enter Sc,R9;go_wp2_with fail;refine(y.out _).mono ?_;rintro e w1 ⟨rfl,c⟩;have a:=d.out.ju c;obtain⟨h,i,j,k,m⟩:=C5 a.box;(try dsimp only at h i j k m);have o:=Bk a.res 0 (G O 0) rfl;have r:=Bk a.res 1 (G O 0) rfl;have t:=Bk a.res 2 (G O 0) rfl;have u:=Bk a.res 3 (D false) rfl;have x:=Bk a.res 4 (D false) rfl;have fc:=Af a.box;have fr:=Af a.res;replace⟨a,c⟩:=H2 a c;go_wp2;refine Ak (v:=E #[Lf.zero.val,G O 1]) (by simp[results,results100,go_sem,Lf.zero,o,r,t,u,x]) rfl ⟨rfl,?_⟩;exact Nt a.out.low (D8 _) _ _ _ _ _
 | true=>
  obtain⟨b1,b2,b3,b4,b5,b6⟩:=n z.symm
  cases qw with
  | true=>
   have hW:=λW=>hW W (Ns.1 f.symm) hs ao9 ao9;rw[n2 z.symm f.symm];obtain⟨st,bp,left,ad,ac⟩:=l;replace⟨d,y,hW,hV,n,n1,n2,n3⟩:=H8 d y hW hV n n1 n2 n3;replace⟨n4,kw,kl,z,f,g,hs,b1⟩:=H8 n4 kw kl z f g hs b1;replace⟨b2,b3,b4,b5,b6⟩:=H5 b2 b3 b4 b5 b6
   cases qp with
   | true=>
    go_enter Sc,R9;go_wp2_with fail;refine(y.out _).mono ?_;rintro e w1 ⟨rfl,c⟩;have a:=d.out.ju c;obtain⟨h,i,j,k,m⟩:=C5 a.box;(try dsimp only at h i j k m);have o:=Bk a.res 0 (G O 0) rfl;have r:=Bk a.res 1 (G O 0) rfl;have t:=Bk a.res 2 (G O 0) rfl;have u:=Bk a.res 3 (D false) rfl;have x:=Bk a.res 4 (D false) rfl;have fc:=Af a.box;have fr:=Af a.res;replace⟨a,c⟩:=H2 a c;go_wp2_with fail;refine(kw.out _).mono ?_;rintro e w2 ⟨rfl,rfl⟩;go_wp2_with fail;refine(hW.out _).mono ?_;rintro e w3 ⟨rfl,c⟩;have b:=a.out.ju c;clear h i j k m o r t u x fc fr;obtain⟨h,i,j,k,m⟩:=C5 b.box;(try dsimp only at h i j k m);have o:=Bk b.res 0 (G O 0) rfl;have r:=Bk b.res 1 (G O 0) rfl;have t:=Bk b.res 2 (G O 0) rfl;have u:=Bk b.res 3 (D false) rfl;have x:=Bk b.res 4 (D false) rfl;have fc:=Af b.box;have fr:=Af b.res;replace⟨b,c⟩:=H2 b c;go_wp2;refine Ak (v:=E #[(⟨p1,p2,p3,p4,p5⟩:Lf).val,G O 0]) (by simp[results,results100,go_sem,o,r,t,u,x]) rfl ⟨rfl,?_⟩;exact Nt (Nt b.out.low Ln _ _ _ _ _) (D8 _) _ _ _ _ _
   | false=>
    go_enter Sc,R9;go_wp2_with fail;refine(y.out _).mono ?_;rintro e w1 ⟨rfl,c⟩;have a:=d.out.ju c;obtain⟨h,i,j,k,m⟩:=C5 a.box;(try dsimp only at h i j k m);have o:=Bk a.res 0 (G O 0) rfl;have r:=Bk a.res 1 (G O 0) rfl;have t:=Bk a.res 2 (G O 0) rfl;have u:=Bk a.res 3 (D false) rfl;have x:=Bk a.res 4 (D false) rfl;have fc:=Af a.box;have fr:=Af a.res;replace⟨a,c⟩:=H2 a c;go_wp2_with fail;refine(kw.out _).mono ?_;rintro e w2 ⟨rfl,rfl⟩;go_wp2_with fail;refine(hW.out _).mono ?_;rintro e w3 ⟨rfl,c⟩;have b:=a.out.ju c;clear h i j k m o r t u x fc fr;obtain⟨h,i,j,k,m⟩:=C5 b.box;(try dsimp only at h i j k m);have o:=Bk b.res 0 (G O 0) rfl;have r:=Bk b.res 1 (G O 0) rfl;have t:=Bk b.res 2 (G O 0) rfl;have u:=Bk b.res 3 (D false) rfl;have x:=Bk b.res 4 (D false) rfl;have fc:=Af b.box;have fr:=Af b.res;replace⟨b,c⟩:=H2 b c;go_wp2;refine Ak (v:=E #[Lf.zero.val,G O 100]) (by simp[results,results100,go_sem,Lf.zero,o,r,t,u,x]) rfl ⟨rfl,?_⟩;exact Nt (Nt b.out.low Ln _ _ _ _ _) (D8 _) _ _ _ _ _
  | false=>
   cases ql with
   | true=>
    have hV:=λW=>hV W (Mo.1 g.symm) hs ao9 ao9;rw[n3 z.symm f.symm g.symm];obtain⟨st,bp,left,ad,ac⟩:=l;replace⟨d,y,hW,hV,n,n1,n2,n3⟩:=H8 d y hW hV n n1 n2 n3;replace⟨n4,kw,kl,z,f,g,hs,b1⟩:=H8 n4 kw kl z f g hs b1;replace⟨b2,b3,b4,b5,b6⟩:=H5 b2 b3 b4 b5 b6
    cases qv with
    | true=>
     go_enter Sc,R9;go_wp2_with fail;refine(y.out _).mono ?_;rintro e w1 ⟨rfl,c⟩;have a:=d.out.ju c;obtain⟨h,i,j,k,m⟩:=C5 a.box;(try dsimp only at h i j k m);have o:=Bk a.res 0 (G O 0) rfl;have r:=Bk a.res 1 (G O 0) rfl;have t:=Bk a.res 2 (G O 0) rfl;have u:=Bk a.res 3 (D false) rfl;have x:=Bk a.res 4 (D false) rfl;have fc:=Af a.box;have fr:=Af a.res;replace⟨a,c⟩:=H2 a c;go_wp2_with fail;refine(kw.out _).mono ?_;rintro e w2 ⟨rfl,rfl⟩;go_wp2_with fail;refine(kl.out _).mono ?_;rintro e w2 ⟨rfl,rfl⟩;go_wp2_with fail;refine(hV.out _).mono ?_;rintro e w3 ⟨rfl,c⟩;have b:=a.out.ju c;clear h i j k m o r t u x fc fr;obtain⟨h,i,j,k,m⟩:=C5 b.box;(try dsimp only at h i j k m);have o:=Bk b.res 0 (G O 0) rfl;have r:=Bk b.res 1 (G O 0) rfl;have t:=Bk b.res 2 (G O 0) rfl;have u:=Bk b.res 3 (D false) rfl;have x:=Bk b.res 4 (D false) rfl;have fc:=Af b.box;have fr:=Af b.res;replace⟨b,c⟩:=H2 b c;go_wp2;refine Ak (v:=E #[(⟨v1,v2,v3,v4,v5⟩:Lf).val,G O 0]) (by simp[results,results100,go_sem,o,r,t,u,x]) rfl ⟨rfl,?_⟩;exact Nt (Nt b.out.low Ln _ _ _ _ _) (D8 _) _ _ _ _ _
    | false=>
     go_enter Sc,R9;go_wp2_with fail;refine(y.out _).mono ?_;rintro e w1 ⟨rfl,c⟩;have a:=d.out.ju c;obtain⟨h,i,j,k,m⟩:=C5 a.box;(try dsimp only at h i j k m);have o:=Bk a.res 0 (G O 0) rfl;have r:=Bk a.res 1 (G O 0) rfl;have t:=Bk a.res 2 (G O 0) rfl;have u:=Bk a.res 3 (D false) rfl;have x:=Bk a.res 4 (D false) rfl;have fc:=Af a.box;have fr:=Af a.res;replace⟨a,c⟩:=H2 a c;go_wp2_with fail;refine(kw.out _).mono ?_;rintro e w2 ⟨rfl,rfl⟩;go_wp2_with fail;refine(kl.out _).mono ?_;rintro e w2 ⟨rfl,rfl⟩;go_wp2_with fail;refine(hV.out _).mono ?_;rintro e w3 ⟨rfl,c⟩;have b:=a.out.ju c;clear h i j k m o r t u x fc fr;obtain⟨h,i,j,k,m⟩:=C5 b.box;(try dsimp only at h i j k m);have o:=Bk b.res 0 (G O 0) rfl;have r:=Bk b.res 1 (G O 0) rfl;have t:=Bk b.res 2 (G O 0) rfl;have u:=Bk b.res 3 (D false) rfl;have x:=Bk b.res 4 (D false) rfl;have fc:=Af b.box;have fr:=Af b.res;replace⟨b,c⟩:=H2 b c;go_wp2;refine Ak (v:=E #[Lf.zero.val,G O 100]) (by simp[results,results100,go_sem,Lf.zero,o,r,t,u,x]) rfl ⟨rfl,?_⟩;exact Nt (Nt b.out.low Ln _ _ _ _ _) (D8 _) _ _ _ _ _
   | false=>
    rw[n4 z.symm f.symm g.symm];obtain⟨st,bp,left,ad,ac⟩:=l;replace⟨d,y,hW,hV,n,n1,n2,n3⟩:=H8 d y hW hV n n1 n2 n3;replace⟨n4,kw,kl,z,f,g,hs,b1⟩:=H8 n4 kw kl z f g hs b1;replace⟨b2,b3,b4,b5,b6⟩:=H5 b2 b3 b4 b5 b6;go_enter Sc,R9;go_wp2_with fail;refine(y.out _).mono ?_;rintro e w1 ⟨rfl,c⟩;have a:=d.out.ju c;obtain⟨h,i,j,k,m⟩:=C5 a.box;(try dsimp only at h i j k m);have o:=Bk a.res 0 (G O 0) rfl;have r:=Bk a.res 1 (G O 0) rfl;have t:=Bk a.res 2 (G O 0) rfl;have u:=Bk a.res 3 (D false) rfl;have x:=Bk a.res 4 (D false) rfl;have fc:=Af a.box;have fr:=Af a.res;replace⟨a,c⟩:=H2 a c;go_wp2_with fail;refine(kw.out _).mono ?_;rintro e w2 ⟨rfl,rfl⟩;go_wp2_with fail;refine(kl.out _).mono ?_;rintro e w2 ⟨rfl,rfl⟩;go_wp2;refine Ak (v:=E #[Lf.zero.val,G O 100]) (by simp[results,results100,go_sem,Lf.zero,o,r,t,u,x]) rfl ⟨rfl,?_⟩;exact Nt a.out.low (D8 _) _ _ _ _ _
def V4.sub (u v:V4):V4×Int:=if u.right=true/\v.right=true then V4.told ⟨u.a-v.a,u.b-v.b,u.c-v.c,u.d-v.d⟩ 31 else(V4.zero,1)
def As1 (u v:V4) (w:WD) :
  CS prog 280 #[u.val,v.val] w λe w'=>e=K (E #[(u.sub v).1.val,G O (u.sub v).2])/\BW w.heap.size w w':=by
 by_cases o:u.right=true/\v.right=true
 .have hs:u.sub v=V4.told ⟨u.a-v.a,u.b-v.b,u.c-v.c,u.d-v.d⟩ 31:=Ad o;obtain⟨t,x⟩:=o;have p:=Hh hs;clear hs;have q:=Hh t;clear t;have s:=Hh x;clear x;go_enter func280,ntmps280;go_wp2_with fail;refine(I9 u _).mono ?_;rintro e w2 ⟨rfl,f⟩;rw[q.out];have j:=((Bn.alloc as9 _).alloc (by simp;omega) _).trans (f.mono (by simp;omega));have gu:=Ae f (Aj _ (Aj _ (Ah _ _))) (by simp;omega);have k:=Ae f (Aj _ (A5 (b:=w.heap.size+1) _ _ as9)) as9;have g:=Ae f (A5 (b:=w.heap.size+2) _ _ as9) as9;have cv:=Aa k;have gu:=Hh gu;have k:=Hh k;have g:=Hh g;have f:=Hh f;go_wp2_with fail;refine(I9 v _).mono ?_;rintro e w3 ⟨rfl,h⟩;rw[s.out];have l:=j.trans (h.mono j.size);have ac:=Hh (Ae h gu.out (Ab gu.out));have ad:=Hh (Ae h k.out (Ab k.out));have y:=Hh (Ae h g.out (Ab g.out));clear cv;have h:=Hh h;go_wp2_with fail;refine(Acf 319 _ (λi=>u.get i-v.get i) _ Asx ?_).mono ?_
  .intro i w1 hi hb;exact Asy u v w.heap.size (w.heap.size+1) i w1 hi q.out s.out (Ae hb ac.out (Ab ac.out)) (Ae hb ad.out (Ab ad.out))
  rintro e w4 ⟨rfl,m⟩;have af:=l.trans (m.mono l.size);have g4:=Hh (Ae m y.out (Ab y.out));have m:=Hh m;go_wp2_with fail;refine(Aaz ⟨u.a-v.a,u.b-v.b,u.c-v.c,u.d-v.d⟩ 31 _).mono ?_;rintro e w5 ⟨rfl,n⟩;have al:=af.trans (n.mono af.size);have g5:=Ae n g4.out (Ab g4.out);have z:=Aa g5;have fx:=Af g5;clear g5;have n:=Hh n;rw[<-p.out];generalize o:u.sub v=r;have o:=Hh o;go_wp2;refine Ak (v:=E #[r.1.val,G O r.2]) (by simp[results,results280,go_sem,z]) rfl ⟨by rw[o.out],?_⟩;refine Cs ?_ (by simp;omega) _;refine Cs ?_ (by simp;omega) _;refine Cs ?_ (by simp;omega) _;refine Cs ?_ (by simp;omega) _;exact al
 .have hs:u.sub v=(V4.zero,1):=Ac o;have p:=Hh hs;clear hs;have am:=Hh o;clear o;go_enter func280,ntmps280;go_wp2_with fail;refine(I9 u _).mono ?_;rintro e w2 ⟨rfl,f⟩;have j:=((Bn.alloc as9 _).alloc (by simp;omega) _).trans (f.mono (by simp;omega));have k:=Ae f (Aj _ (A5 (b:=w.heap.size+1) _ _ as9)) as9;have g:=Ae f (A5 (b:=w.heap.size+2) _ _ as9) as9;have cv:=Aa k;have f:=Hh f;cases t:u.right
  .have q:=Hh t;clear t;have z:=Aa g;have fx:=Af g;clear g k cv;go_wp2;refine Ak (v:=E #[V4.zero.val,G O 1]) (by simp[results,results280,go_sem,z,V4.zero]) rfl ⟨by rw[p.out],?_⟩;refine Cs ?_ (by simp;omega) _;refine Cs ?_ (by simp;omega) _;refine Cs ?_ (by simp;omega) _;refine Cs ?_ (by simp;omega) _;exact j
  .have x:v.right=false:=by
    cases x:v.right
    .rfl
    .exact absurd ⟨t,x⟩ am.out
   have q:=Hh t;clear t;have s:=Hh x;clear x;have g:=Hh g;have k:=Hh k;go_wp2_with fail;refine(I9 v _).mono ?_;rintro e w3 ⟨rfl,h⟩;rw[s.out];have l:=j.trans (h.mono j.size);have y:=Ae h g.out (Ab g.out);have z:=Aa y;have fx:=Af y;clear y cv;have h:=Hh h;go_wp2;refine Ak (v:=E #[V4.zero.val,G O 1]) (by simp[results,results280,go_sem,z,V4.zero]) rfl ⟨by rw[p.out],?_⟩;refine Cs ?_ (by simp;omega) _;refine Cs ?_ (by simp;omega) _;refine Cs ?_ (by simp;omega) _;refine Cs ?_ (by simp;omega) _;exact l
def V4.add (u v:V4):V4×Int:=if u.right=true/\v.right=true then V4.told ⟨u.a+v.a,u.b+v.b,u.c+v.c,u.d+v.d⟩ 30 else(V4.zero,1)
def Aig (u v:V4) (w:WD) :
  CS prog 281 #[u.val,v.val] w λe w'=>e=K (E #[(u.add v).1.val,G O (u.add v).2])/\BW w.heap.size w w':=by
 by_cases o:u.right=true/\v.right=true
 .have hs:u.add v=V4.told ⟨u.a+v.a,u.b+v.b,u.c+v.c,u.d+v.d⟩ 30:=Ad o;obtain⟨t,x⟩:=o;have p:=Hh hs;clear hs;have q:=Hh t;clear t;have s:=Hh x;clear x;go_enter func281,ntmps281;go_wp2_with fail;refine(I9 u _).mono ?_;rintro e w2 ⟨rfl,f⟩;rw[q.out];have j:=((Bn.alloc as9 _).alloc (by simp;omega) _).trans (f.mono (by simp;omega));have gu:=Ae f (Aj _ (Aj _ (Ah _ _))) (by simp;omega);have k:=Ae f (Aj _ (A5 (b:=w.heap.size+1) _ _ as9)) as9;have g:=Ae f (A5 (b:=w.heap.size+2) _ _ as9) as9;have cv:=Aa k;have gu:=Hh gu;have k:=Hh k;have g:=Hh g;have f:=Hh f;go_wp2_with fail;refine(I9 v _).mono ?_;rintro e w3 ⟨rfl,h⟩;rw[s.out];have l:=j.trans (h.mono j.size);have ac:=Hh (Ae h gu.out (Ab gu.out));have ad:=Hh (Ae h k.out (Ab k.out));have y:=Hh (Ae h g.out (Ab g.out));clear cv;have h:=Hh h;go_wp2_with fail;refine(Acf 320 _ (λi=>u.get i+v.get i) _ Asz ?_).mono ?_
  .intro i w1 hi hb;exact As0 u v w.heap.size (w.heap.size+1) i w1 hi q.out s.out (Ae hb ac.out (Ab ac.out)) (Ae hb ad.out (Ab ad.out))
  rintro e w4 ⟨rfl,m⟩;have af:=l.trans (m.mono l.size);have g4:=Hh (Ae m y.out (Ab y.out));have m:=Hh m;go_wp2_with fail;refine(Aaz ⟨u.a+v.a,u.b+v.b,u.c+v.c,u.d+v.d⟩ 30 _).mono ?_;rintro e w5 ⟨rfl,n⟩;have al:=af.trans (n.mono af.size);have g5:=Ae n g4.out (Ab g4.out);have z:=Aa g5;have fx:=Af g5;clear g5;have n:=Hh n;rw[<-p.out];generalize o:u.add v=r;have o:=Hh o;go_wp2;refine Ak (v:=E #[r.1.val,G O r.2]) (by simp[results,results281,go_sem,z]) rfl ⟨by rw[o.out],?_⟩;refine Cs ?_ (by simp;omega) _;refine Cs ?_ (by simp;omega) _;refine Cs ?_ (by simp;omega) _;refine Cs ?_ (by simp;omega) _;exact al
 .have hs:u.add v=(V4.zero,1):=Ac o;have p:=Hh hs;clear hs;have am:=Hh o;clear o;go_enter func281,ntmps281;go_wp2_with fail;refine(I9 u _).mono ?_;rintro e w2 ⟨rfl,f⟩;have j:=((Bn.alloc as9 _).alloc (by simp;omega) _).trans (f.mono (by simp;omega));have k:=Ae f (Aj _ (A5 (b:=w.heap.size+1) _ _ as9)) as9;have g:=Ae f (A5 (b:=w.heap.size+2) _ _ as9) as9;have cv:=Aa k;have f:=Hh f;cases t:u.right
  .have q:=Hh t;clear t;have z:=Aa g;have fx:=Af g;clear g k cv;go_wp2;refine Ak (v:=E #[V4.zero.val,G O 1]) (by simp[results,results281,go_sem,z,V4.zero]) rfl ⟨by rw[p.out],?_⟩;refine Cs ?_ (by simp;omega) _;refine Cs ?_ (by simp;omega) _;refine Cs ?_ (by simp;omega) _;refine Cs ?_ (by simp;omega) _;exact j
  .have x:v.right=false:=by
    cases x:v.right
    .rfl
    .exact absurd ⟨t,x⟩ am.out
   have q:=Hh t;clear t;have s:=Hh x;clear x;have g:=Hh g;have k:=Hh k;go_wp2_with fail;refine(I9 v _).mono ?_;rintro e w3 ⟨rfl,h⟩;rw[s.out];have l:=j.trans (h.mono j.size);have y:=Ae h g.out (Ab g.out);have z:=Aa y;have fx:=Af y;clear y cv;have h:=Hh h;go_wp2;refine Ak (v:=E #[V4.zero.val,G O 1]) (by simp[results,results281,go_sem,z,V4.zero]) rfl ⟨by rw[p.out],?_⟩;refine Cs ?_ (by simp;omega) _;refine Cs ?_ (by simp;omega) _;refine Cs ?_ (by simp;omega) _;refine Cs ?_ (by simp;omega) _;exact l
end
namespace Pl
open Go.RowKit
variable{b cap i:Nat}{w w':WD}
structure St where
 t:Int
 f:V4
deriving DecidableEq
def St.zero:St:=⟨0,V4.zero⟩
abbrev St.val (s:St):VL:=.agg #[G O s.t,G O s.f.a,G O s.f.b,G O s.f.c,G O s.f.d]
def St.cells (s:St):List VL:=[G O s.t,G O s.f.a,G O s.f.b,G O s.f.c,G O s.f.d]
def Bi (l:List St):List VL:=l.flatMap St.cells
def Or (l:List St):(Bi l).length=l.length*5:=by
 induction l with
 | nil=>rfl
 | cons s l ih=>simp only[Bi,Ql,Az]at *;rw[ih];simp[St.cells];omega
def Acg (l m:List St):Bi (l++m)=Bi l++Bi m:=by simp[Bi]
def nth (l:List St) (i:Nat):St:=l.getD i St.zero
def As2 (l:List St) (i j:Nat) (a:i<l.length) (b:j<5):(Bi l)[i*5+j]?=(nth l i).cells[j]?:=by
 induction l generalizing i with
 | nil=>simp at a
 | cons s l ih=>
  cases i with
  | zero=>
   simp only[nth,Bi,Ql,Nat.zero_mul,Cn,List.getD_cons_zero];rw[Fd (by simp[St.cells];omega)]
  | succ i=>
   have e:(i+1)*5+j=s.cells.length+(i*5+j):=(by simp[St.cells];omega);simp only[nth,Bi,Ql,List.getD_cons_succ];rw[e,G7 ao9,Nat.add_sub_cancel_left];exact ih i (by simpa using a)
structure Row (w:WD) (sb cap:Nat) (l:List St):Prop where
 le:l.length<=cap
 max:cap<=9223372036854775807
 aw:∃cur:Array VL,w.heap[sb]?=Z (V cur 398 (0,0))/\cur.size=cap*5/\cur.toList.take (l.length*5)=Bi l
def Row.cell   {l:List St} (h:Row w b cap l) {i j:Nat} (d:i<l.length) (e:j<5) :
  w.cell? ⟨b,i*5+j,I⟩=(nth l i).cells[j]?:=by
 obtain⟨a,c,g,f⟩:=h.aw;rw[Aa c]
 have:(Bi l)[i*5+j]?=a[i*5+j]?:=by rw[<-f,L5,Ad ao9];simp
 rw[<-this];exact As2 l i j d e
def Row.cells  {e cap:Nat} {l:List St} (h:Row w e cap l)  (g:i<l.length) :
  w.cell? ⟨e,i*5,I⟩=Z (G O (nth l i).t)/\w.cell? ⟨e,i*5+1,I⟩=Z (G O (nth l i).f.a) /\
  w.cell? ⟨e,i*5+2,I⟩=Z (G O (nth l i).f.b)/\w.cell? ⟨e,i*5+3,I⟩=Z (G O (nth l i).f.c) /\
  w.cell? ⟨e,i*5+4,I⟩=Z (G O (nth l i).f.d):=
 ⟨h.cell g (j:=0) ao9,h.cell g (j:=1) ao9,h.cell g (j:=2) ao9,h.cell g (j:=3) ao9,h.cell g (j:=4) ao9⟩
def Row.of_block  {c cap:Nat} {l:List St} (h:Row w c cap l) (f:w'.heap[c]?=w.heap[c]?):Row w' c cap l:=by
 obtain⟨a,b,d,h1,e⟩:=h;exact⟨a,b,d,f.trans h1,e⟩
def Row.lt  {a cap:Nat} {l:List St} (h:Row w a cap l):a<w.heap.size:=by
 obtain⟨_,_,b,h1,c⟩:=h;exact Ab h1
def Row.below {B:Nat}   {l:List St} (h:Row w b cap l) (c:BW B w w') (a:b<B):Row w' b cap l:=h.of_block (c.block _ a)
def Aih (s:St) (t:Int) (w:WD) (h1:-1099511627776<=s.t) (a:s.t<=1099511627776) (b:-1099511627776<=t) (c:t<=1099511627776) :
  CS prog 332 #[s.val,G O t] w λe w'=>e=K (G O (s.t-t))/\BW w.heap.size w w':=by
 go_enter func332,ntmps332;go_wp2;go_ret;exact⟨rfl,Bn⟩
def As3 (n:Nat) (T:Nat->Int) (t:Int) (w:WD) (e:Ending) (w':WD):Prop:=
 ∃r:Nat,e=K (E #[G O r,D (decide (r<n/\T r=t))])/\r<=n/\(∀k,k<r->T k<t)/\(∀k,r<=k->k<n->t<=T k)/\BW w.heap.size w w'
def Mp (l:List St):Prop:=∀i j,i<j->j<l.length->(nth l i).t<(nth l j).t
def As4 (l:List St) (sb cap:Nat) (t:Int) (w:WD) (n:Row w sb cap l) (p:∀i,i<l.length->0<=(nth l i).t/\(nth l i).t<=1099511627776) (c:Mp l)
  (h3:0<=t) (u:t<=1099511627776) (z:l.length<=1099511627776) :
  CS prog 331 #[J (Z ⟨sb,0,I⟩) l.length cap,G O t,.func (.func 332) #[] #[]] w (As3 l.length (λi=>(nth l i).t) t w):=by
 have n:=Hh n;have p:=Hh p;have c:=Hh c;go_enter func331,ntmps331;go_wp2;go_loopw [9,10,11] (λi j _ wr=>∃a b:Nat,a<=b/\b<=l.length/\i=G O a/\j=G O b/\BW w.heap.size w wr/\Hid (∀k,k<a->(nth l k).t<t)/\Hid (∀k,b<=k->k<l.length->t<=(nth l k).t)) (λi j _ _=>(intOf j).toNat-(intOf i).toNat)
 case atStart=>exact⟨0,l.length,ao9,ao9,rfl,rfl,Below.refl _ _,by intro k r;omega,by intro k r;omega⟩
 case round=>
  obtain⟨a,b,af,y,rfl,rfl,f,q,m⟩:=hrel;by_cases am:a<b
  .have ac:(a:Int)<b:=ao9;have x:(a:Int)+b<=2199023255552:=ao9;have v:(0:Int)<=(a:Int)+b:=ao9;have an:((a:Int)+b) / 2<l.length:=ao9;obtain⟨c0,c1,c2,c3,c4⟩:=(n.out.of_block (f.block _ n.out.lt)).cells (i:=(a+b) / 2) ao9;obtain⟨l1,l2⟩:=p.out ((a+b) / 2) ao9;go_wp2_with fail;refine(Aih (nth l ((a+b) / 2)) t wr ao9 ao9 ao9 u).mono ?_;rintro e w2 ⟨rfl,d⟩;have g:=Hh (f.trans (d.mono f.size));have d:=Hh d;clear f;by_cases ad:(nth l ((a+b) / 2)).t-t<0
   .go_wp2;go_roundw
    case rel=>
     refine⟨(a+b) / 2+1,b,ao9,ao9,by go_num,rfl,g.out,?_,m⟩;intro k r;by_cases h:k=(a+b) / 2
     .subst h;omega
     .have:=c.out k ((a+b) / 2) ao9 ao9;omega
    case measure=>simp[intOf];omega
   .go_wp2;go_roundw
    case rel=>
     refine⟨a,(a+b) / 2,ao9,ao9,rfl,by go_num,g.out,q,?_⟩;intro k r al;by_cases h:k=(a+b) / 2
     .subst h;omega
     .have:=c.out ((a+b) / 2) k ao9 ao9;omega
    case measure=>simp[intOf];omega
  .have o:a=b:=ao9;subst o;by_cases hn:a<l.length
   .have s:(a:Int)<l.length:=ao9;obtain⟨c0,c1,c2,c3,c4⟩:=(n.out.of_block (f.block _ n.out.lt)).cells (i:=a) ao9;obtain⟨l1,l2⟩:=p.out a ao9;go_wp2_with fail;refine(Aih (nth l a) t wr ao9 ao9 ao9 u).mono ?_;rintro e w2 ⟨rfl,d⟩;have g:=Hh (f.trans (d.mono f.size));have d:=Hh d;clear f;go_wp2;go_ret2;refine⟨a,?_,y,q,m,g.out⟩;have e:((nth l a).t-t == 0)=decide (a<l.length/\(nth l a).t=t):=(by rw[Oe];simp[hn];omega);rw[<-e];rfl
   .have s:¬(a:Int)<l.length:=ao9;go_wp2;go_ret2;refine⟨a,?_,y,q,m,f⟩;simp[hn]
def Ks (l:List St) (t:Int) (k:Nat):Prop:=k<l.length/\(nth l k).t<=t/\∀j,k<j->j<l.length->t<(nth l j).t
def As5 {l:List St} (h:Mp l) (h0:0<=(nth l 0).t):∀i,i<l.length->(i:Int)<=(nth l i).t:=by
 intro i
 induction i with
 | zero=>intro _;simpa using h0
 | succ i ih=>intro a;have:=h i (i+1) ao9 a;have:=ih ao9;omega
structure Ci (w:WD) (pb sb cap:Nat) (whole:V4) (l:List St):Prop where
 head:w.heap[pb]?=Z (V #[G O whole.a,G O whole.b,G O whole.c,G O whole.d,J (Z ⟨sb,0,I⟩) l.length cap] 363 (0,0))
 row:Row w sb cap l
 ne:pb≠sb
structure Ce (l:List St):Prop where
 pos:0<l.length
 zero:(nth l 0).t=0
 bj:Mp l
 last:∀i,i<l.length->(nth l i).t<1099511627776
def Ce.ge {l:List St} (h:Ce l) (i:Nat) (a:i<l.length):(i:Int)<=(nth l i).t:=As5 h.bj (by rw[h.zero];omega) i a
def Ce.len {l:List St} (h:Ce l):l.length<=1099511627776:=by
 have h1:=h.ge (l.length-1) (by have:=h.pos;omega);have a:=h.last (l.length-1) (by have:=h.pos;omega);have:=h.pos;omega
def As6 (l:List St) (t:Int) (w:WD) (e:Ending) (w':WD):Prop:=∃k:Nat,e=K (G O k)/\Ks l t k/\BW w.heap.size w w'
def Yy (q s cap:Nat) (whole:V4) (l:List St) (t:Int) (w:WD) (m:Ci w q s cap whole l) (c:Ce l) (v:0<=t) (x:t<=1099511627776) :
  CS prog 313 #[Q (Z ⟨q,0,I⟩),G O t] w (As6 l t w):=by
 have u:=Aa m.head 4;simp at u;have k:=c.len;have m:=Hh m;have c:=Hh c;go_enter func313,ntmps313;go_wp2_with fail;refine(As4 l s cap t w m.out.row (λi o=>⟨by have:=c.out.ge i o;omega,by have:=c.out.last i o;omega⟩) c.out.bj v x k).mono ?_;rintro e w2 ⟨r,rfl,hr,h1,f,d⟩;have h1:=Hh h1;have f:=Hh f;have d:=Hh d;by_cases a:r<l.length/\(nth l r).t=t
 .have g:decide (r<l.length/\(nth l r).t=t)=true:=by simpa using a
  simp only[g];have a:=Hh a;clear g;go_wp2;go_ret;refine⟨r,rfl,⟨a.out.1,by rw[a.out.2];omega,?_⟩,d.out⟩;intro j p b;have:=c.out.bj r j p b;rw[a.out.2]at this;exact this
 .have g:decide (r<l.length/\(nth l r).t=t)=false:=by simpa using a
  simp only[g]
  have h0:0<r:=by
   apply Im;intro hc
   have:r=0:=ao9
   subst this;have z:t<=(nth l 0).t:=f.out 0 Ln c.out.pos;have hz:=c.out.zero;have y:(nth l 0).t=t:=ao9;exact a ⟨c.out.pos,y⟩
  have a:=Hh a;clear g;go_wp2;go_ret;refine⟨r-1,?_,⟨ao9,?_,?_⟩,d.out⟩
  .have e:((r:Int)-1)=((r-1:Nat):Int):=ao9;rw[<-e];rfl
  .have:=h1.out (r-1) ao9;omega
  .intro j p b;have hq:=f.out j ao9 b;by_cases n:j=r
   .subst n;have:(nth l j).t≠t:=λh=>a.out ⟨b,h⟩;omega
   .have:=f.out r Ln ao9;have:=c.out.bj r j ao9 b;omega
def F6 (p:V4):List St->List St
 | []=>[]
 | s :: r=>if s.f=p then F6 s.f r else s :: F6 s.f r
def B8:List St->List St
 | []=>[]
 | s :: r=>s :: F6 s.f r
def Py (p:V4):List St->V4
 | []=>p
 | s :: r=>Py s.f r
def Atc (p:V4) (l:List St) (x:St):F6 p (l++[x])=F6 p l++(if x.f=Py p l then[]else[x]):=by
 induction l generalizing p with
 | nil=>by_cases h:x.f=p<;>simp[F6,Py,h]
 | cons s r ih=>
  simp only[Pf,F6,Py];rw[ih]
  by_cases h:s.f=p<;>by_cases a:x.f=Py s.f r<;>simp[h,a]
def Atd (l:List St) (x:St) (h:0<l.length):B8 (l++[x])=B8 l++(if x.f=(nth l (l.length-1)).f then[]else[x]):=by
 have a:∀(l:List St) (p:V4),Py p l=if 0<l.length then(nth l (l.length-1)).f else p:=by
  intro l
  induction l with
  | nil=>intro p;simp[Py]
  | cons s r ih=>
   intro p;simp only[Py];rw[ih]
   cases r with
   | nil=>simp[nth]
   | cons s2 r2=>simp[nth]
 cases l with
 | nil=>simp at h
 | cons s r=>
  simp only[Pf,B8];rw[Atc,a]
  cases r with
  | nil=>simp[nth]
  | cons s2 r2=>simp[nth]
def Ate (l m:List St) (i:Nat) (h:i<l.length):nth (l++m) i=nth l i:=by
 simp[nth,Fd h]
def Y0 (l:List St) (n i:Nat) (h:i<n):nth (l.take n) i=nth l i:=by
 simp[nth,h]
def Aci (l:List St) (n i:Nat) (s:St) (h:n<l.length):nth (l.set n s) i=if i=n then s else nth l i:=by
 simp only[nth,Aab,Ds];by_cases e:n=i
 .subst e;simp[h]
 .simp [e,Qp e]
def Vf (l:List St) (n:Nat) (h:n<l.length):l.take (n+1)=l.take n++[nth l n]:=by
 rw[List.take_succ_eq_append_getElem h];simp[nth,h]
def Acj (l:List St) (n:Nat) (h0:0<n) (h:n<l.length):B8 (l.take (n+1))=B8 (l.take n)++(if (nth l n).f=(nth l (n-1)).f then[]else[nth l n]):=by
 rw[Vf l n h,Atd _ _ (by rw[Dt];omega)];congr 2;rw[Dt,L9 ao9,Y0 l n (n-1) ao9]
def Ack:∀(l:List St) (n:Nat),n<=l.length->(∀i,0<i->i<n->(nth l i).f≠(nth l (i-1)).f)->B8 (l.take n)=l.take n:=by
 intro l n a h
 induction n with
 | zero=>simp[B8]
 | succ n ih=>
  cases n with
  | zero=>
   cases l with
   | nil=>simp at a
   | cons s r=>simp[B8,F6]
  | succ n=>
   rw[Acj l (n+1) ao9 ao9,ih ao9 (λi h1 b=>h i h1 ao9),Ac (h (n+1) ao9 ao9),<-Vf l (n+1) ao9]
def Yu (l:List St) (i:Nat) (s:St) (c:i<l.length):Bi (l.set i s)=(Bi l).take (i*5)++s.cells++(Bi l).drop (i*5+5):=by
 induction l generalizing i with
 | nil=>simp at c
 | cons a l ih=>
  cases i with
  | zero=>simp[Bi,St.cells]
  | succ i=>
   have d:(i+1)*5=5+i*5:=ao9;have e:5+i*5+5=5+(i*5+5):=ao9;have b:=ih i (by simpa using c);simp only[Bi]at b ⊢;simp only[Wv,Ql,b];rw[d,e];show _=List.take (a.cells.length+i*5) _++_++List.drop (a.cells.length+(i*5+5)) _;rw[List.take_length_add_append,List.drop_length_add_append];simp
def Atf (f:Array VL) (o:Nat) (a b c d e:VL) (h:o+5<=f.size) :
  (((((f.setIfInBounds o a).setIfInBounds (o+1) b).setIfInBounds (o+2) c).setIfInBounds (o+3) d).setIfInBounds (o+4) e).toList=f.toList.take o++[a,b,c,d,e]++f.toList.drop (o+5):=by
 apply Eg;intro i;simp only[Array.toList_setIfInBounds,Ds,Do,Array.length_toList];rw[Fq];by_cases h1:i<o
 .rw [Fd (by simp;omega)];simp[h1,show o≠i by omega,show o+1≠i by omega,show o+2≠i by omega,show o+3≠i by omega,show o+4≠i by omega]
 .rw [G7 (by simp;omega)];have g:(f.toList.take o).length=o:=by simp;omega
  rw[g];by_cases j:i<o+5
  .rw [Fd (by simp;omega)]
   have:i=o\/i=o+1\/i=o+2\/i=o+3\/i=o+4:=ao9
   rcases this with rfl|rfl|rfl|rfl|rfl
   .simp;omega
   .simp [show o+1-o=1 by omega];omega
   .simp [show o+2-o=2 by omega];omega
   .simp [show o+3-o=3 by omega];omega
   .simp [show o+4-o=4 by omega];omega
  .rw [G7 (by simp;omega)];simp[show o≠i by omega,show o+1≠i by omega,show o+2≠i by omega,show o+3≠i by omega,show o+4≠i by omega];congr 1;omega
def World.nj (w:WD) (sb i:Nat) (s:St):WD:=
 ((((w.setCell ⟨sb,i*5,I⟩ (G O s.t)).setCell ⟨sb,i*5+1,I⟩ (G O s.f.a)).setCell ⟨sb,i*5+2,I⟩ (G O s.f.b)).setCell ⟨sb,i*5+3,I⟩ (G O s.f.c)).setCell ⟨sb,i*5+4,I⟩ (G O s.f.d)
def Row.nj   {l:List St} (h:Row w b cap l) (i:Nat) (s:St) (e:i<l.length):Row (World.nj w b i s) b cap (l.set i s):=by
 obtain⟨h1,c,a,d,f,g⟩:=h;refine⟨by simpa using h1,c,_,Am (Am (Am (Am (Am d _ _) _ _) _ _) _ _) _ _,by simpa using f,?_⟩;rw[Atf a (i*5) _ _ _ _ _ ao9,Yu l i s e,<-g];simp only[Do,St.cells];have m:l.length*5=i*5+(5+(l.length*5-(i*5+5))):=ao9
 rw[Fq,Fq,List.take_append,List.take_append];have j:(a.toList.take (i*5)).length=i*5:=by simp;omega
 rw[j];have k:l.length*5-i*5-5=l.length*5-(i*5+5):=ao9
 simp only[D7,Ir,Cn,Nat.reduceAdd,k];rw[Cr (by simp;omega),Cr (l:=[_,_,_,_,_]) (by simp;omega),Xg,L9 ao9,List.drop_take]
def yw (d:Nat) (a b:Int) (w:WD):(Op.equalIn (d+1) 3 (G O a) (G O b)).run prog w=.ok (a == b) w:=by
 simp[Op.equalIn,Ng D5]
def Md:(prog.info? 3).map (λi=>(i.zero,i.size,i.bytes))=Z (Z (G O 0),1,8):=by kernel_rfl
def Abo:prog.cellsOf 3=1:=by kernel_rfl
def Atg (f:Nat) (u v:V4) (w:WD):(Op.equalIn (f+2) 30 u.val v.val).run prog w=.ok (decide (u=v)) w:=by
 obtain⟨q,e,o,g,p⟩:=B4 Md;show(Op.equalIn ((f+1)+1) 30 u.val v.val).run prog w=_;rw[run_equalIn_array w (f+1) _ _ Aas e,Abo];show(Op.eqItems (f+1) 3 1 _ _ [0,1,2,3]).run prog w=_;obtain⟨a,b,c,d⟩:=u;obtain⟨h,i,j,k⟩:=v
 by_cases h1:a=h<;>by_cases l:b=i<;>by_cases m:c=j<;>by_cases n:d=k
 all_goals
  simp[Op.eqItems,yw,part,sizeOf,typeInfo,e,g,h1,l,m,n]
def Ath (u v:V4) (w:WD):(Op.equalIn 10000 30 u.val v.val).run prog w=.ok (decide (u=v)) w:=Atg 9998 u v w
end Pl
section
open Go.RowKit Go.Maps Go.Lib
variable{k r:Int}{M i n:Nat}{α:Type}
def Qb (n i:Nat) (st:List Int×List (List Int)) (k:Int):List Int×List (List Int):=
 if 0<=k/\k<(n:Int)then(st.1.modify i (·+1),st.2.modify k.toNat (·++[(i:Int)]))else st
def Kx (n i:Nat) (st:List Int×List (List Int)) (l:List Int):Nat->List Int×List (List Int)
 | 0=>st
 | j+1=>Qb n i (Kx n i st l j) ((l[j]?).getD 0)
def Jr (after:List (List Int)):Nat->List Int×List (List Int)
 | 0=>(List.replicate after.length 0,List.replicate after.length [])
 | i+1=>Kx after.length i (Jr after i) ((after[i]?).getD []) ((after[i]?).getD []).length
def Ih (left:List Int):Nat->List Int
 | 0=>[]
 | i+1=>if (left[i]?).getD 0=0 then Ih left i++[(i:Int)]else Ih left i
def gy (k:Int) (l:List Int):List Int:=l.take (l.countP (·<k))++k :: l.drop (l.countP (·<k))
def Rq (st:List Int×List Int) (k:Int):List Int×List Int:=
 (st.1.modify k.toNat (· - 1),if ((st.1.modify k.toNat (· - 1))[k.toNat]?).getD 0=0 then gy k st.2 else st.2)
def D3 (st:List Int×List Int) (l:List Int):Nat->List Int×List Int
 | 0=>st
 | j+1=>Rq (D3 st l j) ((l[j]?).getD 0)
structure sk where
 left:List Int
 free:List Int
 out:List Int
def Tw (back:List (List Int)) (s:sk):sk:=match s.free with
 | []=>s
 | i :: r=>let b:=(back[i.toNat]?).getD [];let st:=D3 (s.left,r) b b.length;⟨st.1,st.2,s.out++[i]⟩
def G2 (back:List (List Int)) (s:sk):Nat->sk
 | 0=>s
 | n+1=>Tw back (G2 back s n)
def Ak4 (after:List (List Int)):sk:=
 G2 (Jr after after.length).2 ⟨(Jr after after.length).1,Ih (Jr after after.length).1 after.length,[]⟩ (2*after.length)
def Js (after:List (List Int)):Bool:=!decide ((Ak4 after).out.length<after.length)
def G3 (lo hi:Int) (l:List Int):Prop:=∀x,x∈l->lo<=x/\x<=hi
def G3.mono {d c b a:Int} {l:List Int} (h:G3 d c l) (h1:b<=d) (f:c<=a):G3 b a l:=λx e=>by have:=h x e;omega
def G3.at {b a:Int} {l:List Int} (h:G3 b a l)  {x:Int} (c:l[i]?=Z x):b<=x/\x<=a:=h x (Ai c)
def O0  {l:List α}  {f:α->α} {x:α} (h:x∈l.modify i f):x∈l\/∃y,y∈l/\x=f y:=by
 obtain⟨j,a⟩:=Dn h;rw[Fp]at a
 cases hy:l[j]? with
 | none=>rw[hy]at a;cases a
 | some y=>
  rw[hy]at a;have b:=Ai hy;split at a
  .simp at a;exact .inr ⟨y,b,a.symm⟩
  .simp at a;exact .inl (a▸b)
def Rr  (l:List α) (i:Nat) (f:α->α) {x:α} (a:l[i]?=Z x):l.modify i f=l.set i (f x):=by
 apply Eg;intro j;rw[Fp,Ds];by_cases h:i=j
 .subst h;have:=(Aq.1 a).1;rw[a,Ad rfl,Ad this];simp
 .simp [h]
def G4  {l:List α}  {x d:α} (a:l[i]?=Z x):(l[i]?).getD d=x:=by rw[a];rfl
structure Tok (n M:Nat) (st:List Int×List (List Int)):Prop where
 left:G3 0 M st.1
 back:∀l,l∈st.2->l.length<=M/\G3 0 ((n:Int)-1) l
def Tok.mono {n M a:Nat} {st:List Int×List (List Int)} (h:Tok n M st) (c:M<=a):Tok n a st:=⟨h.left.mono (Dh _) ao9,λl b=>⟨Ay (h.back l b).1 c,(h.back l b).2⟩⟩
def Tok.step  {st:List Int×List (List Int)} (h:Tok n M st) (d:i<n) (k:Int):Tok n (M+1) (Qb n i st k):=by
 unfold Qb;split
 .refine ⟨λx a=>?_,λl b=>?_⟩
  .rcases O0 a with c|⟨y,c,rfl⟩
   .have:=h.left x c;omega
   .have:=h.left y c;omega
  .rcases O0 b with c|⟨y,c,rfl⟩
   .exact ⟨by have:=(h.back l c).1;omega,(h.back l c).2⟩
   .refine ⟨by have:=(h.back y c).1;simp;omega,λx a=>?_⟩;rcases C4.1 a with a|a
    .exact (h.back y c).2 x a
    .simp at a;omega
 .exact h.mono ao9
def Tok.row  {st:List Int×List (List Int)} (h:Tok n M st) (a:i<n) (l:List Int) (j:Nat):Tok n (M+j) (Kx n i st l j):=by
 induction j with
 | zero=>exact h
 | succ j ih=>exact ih.step a _
def Tok.start (n:Nat):Tok n 0 (List.replicate n 0,List.replicate n []):=
 ⟨λx a=>by simp[Wy]at a;omega,λl b=>by simp[Wy]at b;obtain⟨_,rfl⟩:=b;exact⟨as9,λx a=>by cases a⟩⟩
def Tok.to {after:List (List Int)} {b:Nat} (a:∀l,l∈after->l.length<=b):∀ {i:Nat},i<=after.length->Tok after.length (b*i) (Jr after i)
 | 0,_=>Tok.start _
 | i+1,hi=>by
  have h:=(Tok.to a (i:=i) ao9).row (i:=i) ao9 ((after[i]?).getD []) ((after[i]?).getD []).length;refine h.mono ?_;have c:after[i]?=Z (after[i]'(by omega)):=A4 _;have:=a _ (Ai c);rw[G4 c];rw[Nat.mul_succ];omega
structure ml (n:Nat) (l:List Int):Prop where
 bj:l.Pairwise (·<=·)
 vu:G3 0 ((n:Int)-1) l
def ml.start (left:List Int):∀i:Nat,ml i (Ih left i)/\(Ih left i).length<=i
 | 0=>⟨⟨List.Pairwise.nil,λx c=>by cases c⟩,Nat.le_refl _⟩
 | i+1=>by
  obtain⟨h,f⟩:=ml.start left i;unfold Ih;split
  .refine ⟨⟨?_,λx c=>?_⟩,by simp;omega⟩
   .rw [Ue];exact⟨h.bj,List.pairwise_singleton _ _,λa d b e=>by simp at e;have:=h.vu a d;omega⟩
   .rcases C4.1 c with c|c
    .have:=h.vu x c;omega
    .simp at c;omega
  .exact ⟨⟨h.bj,λx c=>by have:=h.vu x c;omega⟩,ao9⟩
def ml.tail  {x:Int} {l:List Int} (h:ml n (x :: l)):ml n l:=⟨(Pd.1 h.bj).2,λy a=>h.vu y (Df _ a)⟩
def Ak5 {k:Int}:∀ {l:List Int},l.Pairwise (·<=·)->(∀x,x∈l.take (l.countP (·<k))->x<k)/\∀x,x∈l.drop (l.countP (·<k))->k<=x
 | [],_=>⟨λx c=>by simp at c,λx c=>by simp at c⟩
 | y :: l,h=>by
  obtain⟨h1,e⟩:=Pd.1 h;obtain⟨a,b⟩:=Ak5 (k:=k) e;by_cases d:y<k
  .rw [List.countP_cons_of_pos (by simpa using d)];refine⟨λx c=>?_,λx c=>b x (by simpa using c)⟩;simp at c;rcases c with rfl|c
   .exact d
   .exact a x c
  .have h0:(y :: l).countP (·<k)=0:=by
    rw[List.countP_eq_zero];intro x c;rcases Ei.1 c with rfl|c
    .simpa using d
    .have:=h1 x c;simp;omega
   rw[h0];refine⟨λx c=>by simp at c,λx c=>?_⟩;simp at c;rcases c with rfl|c
   .omega
   .have:=h1 x c;omega
def Axj (k:Int) (l:List Int):(gy k l).length=l.length+1:=by
 unfold gy;have:l.countP (·<k)<=l.length:=Wp;simp;omega
def ml.ins   {l:List Int} (h:ml n l) (h0:0<=k) (e:k<n):ml n (gy k l):=by
 obtain⟨a,b⟩:=Ak5 (k:=k) h.bj;unfold gy;refine⟨?_,λx c=>?_⟩
 .rw [Ue,Pd];refine⟨h.bj.sublist (List.take_sublist _ _),⟨b,h.bj.sublist (List.drop_sublist _ _)⟩,λx c y d=>?_⟩;have:=a x c;rcases Ei.1 d with rfl|d
  .omega
  .have:=b y d;omega
 .rcases C4.1 c with c|c
  .exact h.vu x (Na c)
  .rcases Ei.1 c with rfl|c
   .omega
   .exact h.vu x (List.mem_of_mem_drop c)
def J9 (st:List Int×List Int):Nat:=st.1.countP (λx=>decide (0<x))+st.2.length
def Ak6 {p:Int->Bool}:∀ {l:List Int} {i:Nat} {x y:Int},l[i]?=Z x->(l.set i y).countP p+(if p x=true then 1 else 0)=l.countP p+(if p y=true then 1 else 0)
 | [],i,x,y,h=>by simp at h
 | z :: l,0,x,y,h=>by
  simp at h;subst h;simp only[List.set_cons_zero,Xa];omega
 | z :: l,i+1,x,y,h=>by
  have:=Ak6 (p:=p) (l:=l) (i:=i) (x:=x) (y:=y) (by simpa using h);simp only[Wv,Xa];omega
def Axk {st:List Int×List Int} {k x:Int} (b:st.1[k.toNat]?=Z x):J9 (Rq st k)<=J9 st:=by
 unfold Rq;rw[Rr _ _ _ b];have d:=(Aq.1 b).1;have a:=Ak6 (p:=λx=>decide (0<x)) (y:=x-1) b;have c:((st.1.set k.toNat (x-1))[k.toNat]?).getD 0=x-1:=by simp[d]
 rw[c];unfold J9;simp only[In]at a;split
 .rename_i e;rw[Axj];simp only;rw[Ad ao9,Ac ao9]at a;omega
 .simp only
  split at a<;>split at a<;>omega
def Axl {st:List Int×List Int} {k x:Int} (a:st.1[k.toNat]?=Z x):Rq st k=(st.1.set k.toNat (x-1),if x-1=0 then gy k st.2 else st.2):=by
 have c:=(Aq.1 a).1;unfold Rq;rw[Rr _ _ _ a];have b:((st.1.set k.toNat (x-1))[k.toNat]?).getD 0=x-1:=by simp[c]
 rw[b]
def G3.set {e d b a:Int} {l:List Int}  {y:Int} (h:G3 e d l) (k:b<=e) (j:d<=a) (h1:b<=y) (f:y<=a):G3 b a (l.set i y):=λx g=>by
 rcases Wk g with c|rfl
 .have:=h x c;omega
 .exact ⟨h1,f⟩
def Ak7 {a:List (List Int)} {s:sk} {p:Nat} (h:(G2 a s p).free=[]):∀n,p<=n->G2 a s n=G2 a s p
 | 0,hn=>by
  obtain rfl:p=0:=ao9
  rfl
 | n+1,hn=>by
  by_cases e:p=n+1
  .rw [e]
  .have b:=Ak7 h n ao9;show Tw a (G2 a s n)=_;rw[b];unfold Tw;rw[h]
structure Fm (l:Lf) (r:Int):Prop where
 right:K8 l=true
 wait:el l.st=true->l.bp+l.left=r
 live:dp l.st=true->l.bp+l.left=r+1
 dx:l.bp+l.left<=r+1
def O1 {st a left r:Int} {c b:Bool} (h:(1<=st/\st<=8/\0<=a/\0<=left/\a<=E4 st/\left<=E4 st-a)/\¬(a=0/\(dp st=true\/(ki st=true/\st≠8)))/\(st=4\/(c=false/\b=false)))
  (h1:el st=true->a+left=r) (d:dp st=true->a+left=r+1) (e:a+left<=r+1):Fm ⟨st,a,left,c,b⟩ r:=⟨(Vc _ _ _ _ _).2 h,h1,d,e⟩
def Vz:E4 1=5:=rfl
def Adm:E4 2=5:=rfl
def Ax1:E4 3=6:=rfl
def Ax2:E4 4=6:=rfl
def Ax3:E4 8=6:=rfl
def Ax4  {h:Bool} (h1:0<=r) (a:r<=5):Fm (Kl r h).1 r/\el (Kl r h).1.st=true:=by
 unfold Kl;rw[Ac ao9];cases h
 .exact ⟨O1 ⟨by simp only[Bool.false_eq_true,if_false];rw[Vz];omega,by simp[dp,ki],.inr ⟨rfl,rfl⟩⟩ (λ_=>by omega) (λc=>by simp[dp]at c) ao9,by simp[el]⟩
 .exact ⟨O1 ⟨by simp only[Kk];rw[Adm];omega,by simp[dp,ki],.inr ⟨rfl,rfl⟩⟩ (λ_=>by omega) (λc=>by simp[dp]at c) ao9,by simp[el]⟩
def T3 {st d left r:Int} {f e:Bool} (h:Fm ⟨st,d,left,f,e⟩ r):(1<=st/\st<=8/\0<=d/\0<=left/\d<=E4 st/\left<=E4 st-d)/\¬(d=0/\(dp st=true\/(ki st=true/\st≠8)))/\(st=4\/(f=false/\e=false))/\(el st=true->d+left=r)/\(dp st=true->d+left=r+1)/\d+left<=r+1:=by
 obtain⟨a,b,c⟩:=(Vc _ _ _ _ _).1 h.right;exact⟨a,b,c,h.wait,h.live,h.dx⟩
def Alb {l:Lf} {r s:Int} (h:Fm l r) (m:el l.st=true) (p:s=6\/s=7):Fm (A3 l s).1 r/\(A3 l s).1.st=8:=by
 rw[Q9 h.right m];obtain⟨st,k,left,i,g⟩:=l
 have e:Em ⟨st,k,left,i,g⟩ s=(⟨8,k,left,i,g⟩,true):=by
  unfold Em
  rcases p with rfl|rfl<;>simp
 obtain⟨a,b,c,d,_,f⟩:=T3 h;rw[e];simp only[Kk];have j:st=1\/st=2:=Ns.1 m
 have n:i=false/\g=false:=by
  rcases c with c|c
  .omega
  .exact c
 have o:E4 st=5:=by rcases j with rfl|rfl<;>rfl
 rw[o]at a;exact⟨O1 ⟨by rw[Ax3];omega,by simp[dp,ki],.inr n⟩ (λc=>by simp[el]at c) (λc=>by simp[dp]at c) f,by first|rfl|trivial⟩
def Ax5 {l:Lf}  (h:Fm l r) (j:l.st=1):Fm (A3 l 1).1 r/\(A3 l 1).1.st=2:=by
 rw[Q9 h.right (Ns.2 (.inl j))];obtain⟨st,k,left,i,g⟩:=l;have j:st=1:=j;subst j;have e:Em ⟨1,k,left,i,g⟩ 1=(⟨2,k,left,i,g⟩,true):=by simp[Em]
 obtain⟨a,b,c,d,_,f⟩:=T3 h;rw[e];simp only[Kk]
 have m:i=false/\g=false:=by
  rcases c with c|c
  .omega
  .exact c
 rw[Vz]at a;exact⟨O1 ⟨by rw[Adm];omega,by simp[dp,ki],.inr m⟩ (λ_=>d ad9) (λc=>by simp[dp]at c) f,by first|rfl|trivial⟩
def Ax6 {l:Lf}  (h:Fm l r) (j:l.st=2):Fm (A3 l 2).1 r/\(A3 l 2).1.st=1:=by
 rw[Q9 h.right (Ns.2 (.inr j))];obtain⟨st,k,left,i,g⟩:=l;have j:st=2:=j;subst j;have e:Em ⟨2,k,left,i,g⟩ 2=(⟨1,k,left,i,g⟩,true):=by simp[Em]
 obtain⟨a,b,c,d,_,f⟩:=T3 h;rw[e];simp only[Kk]
 have m:i=false/\g=false:=by
  rcases c with c|c
  .omega
  .exact c
 rw[Adm]at a;exact⟨O1 ⟨by rw[Vz];omega,by simp[dp,ki],.inr m⟩ (λ_=>d ad9) (λc=>by simp[dp]at c) f,by first|rfl|trivial⟩
def Ax7 {l:Lf}  (h:Fm l r) (j:l.st=1):Fm (A3 l 3).1 r/\(A3 l 3).1.st=3:=by
 rw[Q9 h.right (Ns.2 (.inl j))];obtain⟨st,k,left,i,g⟩:=l;have j:st=1:=j;subst j;have e:Em ⟨1,k,left,i,g⟩ 3=(⟨3,k+1,left,i,g⟩,true):=by simp[Em]
 obtain⟨a,b,c,d,_,f⟩:=T3 h;rw[e];simp only[Kk]
 have m:i=false/\g=false:=by
  rcases c with c|c
  .omega
  .exact c
 have d:=d ad9;rw[Vz]at a;exact⟨O1 ⟨by rw[Ax1];omega,by simp[dp,ki];omega,.inr m⟩ (λc=>by simp[el]at c) (λ_=>by omega) ao9,by first|rfl|trivial⟩
def Adn {l:Lf} {r s:Int} (h:Fm l r) (n:dp l.st=true) (m:s=4\/s=5\/(s=6/\l.stop=false)):Fm (A3 l s).1 r/\(A3 l s).1.st=4/\(A3 l s).2=0:=by
 have i:=Mo.1 n;rw[S9 h.right (by rcases i with e|e<;>rw[e]<;>rfl) n];obtain⟨st,k,left,j,g⟩:=l;have i:st=3\/st=4:=i;have m:s=4\/s=5\/(s=6/\g=false):=m
 have e:Dl ⟨st,k,left,j,g⟩ s=(⟨4,k,left,j || decide (s=4),g || decide (s=6)⟩,true):=by
  unfold Dl
  rcases m with rfl|rfl|⟨rfl,rfl⟩<;>simp
 obtain⟨a,b,c,_,d,f⟩:=T3 h;have o:dp st=true:=n;have d:=d o
 have q:E4 st=6:=by rcases i with rfl|rfl<;>rfl
 have p:k≠0:=λe=>b ⟨e,.inl o⟩;rw[e];simp only[Kk];rw[q]at a;exact⟨O1 ⟨by rw[Ax2];omega,λc=>p c.1,.inl rfl⟩ (λc=>by simp[el]at c) (λ_=>d) f,by first|rfl|trivial,by first|rfl|trivial⟩
def Ax8 {l:Lf}  (h:Fm l r) (o:dp l.st=true):Fm (A3 l 8).1 r/\((A3 l 8).1.st=1\/(5<=(A3 l 8).1.st/\(A3 l 8).1.st<=8)):=by
 have i:=Mo.1 o;rw[S9 h.right (by rcases i with e|e<;>rw[e]<;>rfl) o];obtain⟨st,n,left,m,k⟩:=l;have i:st=3\/st=4:=i;obtain⟨a,b,c,_,d,f⟩:=T3 h;have q:dp st=true:=o;have d:=d q
 have s:E4 st=6:=by rcases i with rfl|rfl<;>rfl
 have p:n≠0:=λe=>b ⟨e,.inl q⟩;rw[s]at a
 have g:∀(j:Int),5<=j->j<=8->Fm ⟨j,n,left,false,false⟩ r:=λj h1 t=>by
  have e:E4 j=6:=by unfold E4;rw[Ac];intro c;rw[Ns]at c;omega
  exact O1 ⟨by rw[e];omega,λc=>p c.1,.inr ⟨rfl,rfl⟩⟩ (λc=>by rw[Ns]at c;omega) (λc=>by rw[Mo]at c;omega) f
 rcases i with rfl|rfl
 .obtain ⟨rfl,rfl⟩:m=false/\k=false:=by
   rcases c with c|c
   .omega
   .exact c
  have e:Dl ⟨3,n,left,false,false⟩ 8=(⟨5,n,left,false,false⟩,true):=by simp[Dl]
  rw[e];exact⟨g 5 ao9 ao9,.inr ⟨by show(5:Int)<=5;omega,by show(5:Int)<=8;omega⟩⟩
 .have e:Dl ⟨4,n,left,m,k⟩ 8=(Oj ⟨4,n,left,m,k⟩,true):=by simp[Dl]
  rw[e];simp only[Kk];unfold Oj;split
  .exact ⟨g 8 ao9 ao9,.inr ⟨by show(5:Int)<=8;omega,by show(8:Int)<=8;omega⟩⟩
  split
  .exact ⟨g 6 ao9 ao9,.inr ⟨by show(5:Int)<=6;omega,by show(6:Int)<=8;omega⟩⟩
  split
  .rename_i h1;have h1:0<left:=h1;refine⟨O1 ⟨?_,λc=>p c.1,.inr ⟨rfl,rfl⟩⟩ (λ_=>?_) (λc=>by simp[dp]at c) ?_,.inl rfl⟩
   .rw [Vz];simp only;omega
   .simp only;omega
   .simp only;omega
  .exact ⟨g 7 ao9 ao9,.inr ⟨by show(5:Int)<=7;omega,by show(7:Int)<=8;omega⟩⟩
def Ax9 {l:Lf} {r s:Int} (h:Fm l r) (h0:(A3 l s).2=0) (j:s=6\/s=1\/s=2):Fm (A3 l s).1 r/\((dp l.st=true/\(A3 l s).1.st=4)\/(dp l.st=false/\el l.st=true/\dp (A3 l s).1.st=false/\((A3 l s).1.st=1\/(A3 l s).1.st=2\/(A3 l s).1.st=8))):=by
 by_cases f:el l.st=true
 .have c:=Ns.1 f
  have g:dp l.st=false:=by rcases c with e|e<;>rw[e]<;>rfl
  rcases j with rfl|rfl|rfl
  .obtain ⟨a,b⟩:=Alb h f (.inl rfl);exact⟨a,.inr ⟨g,f,by rw[b];rfl,.inr (.inr b)⟩⟩
  .by_cases q:l.st=1
   .obtain ⟨a,b⟩:=Ax5 h q;exact⟨a,.inr ⟨g,f,by rw[b];rfl,.inr (.inl b)⟩⟩
   .rw [Q9 h.right f]at h0;have e:(Em l 1).2=false:=(by unfold Em;simp[q]);rw[e]at h0;simp at h0
  .by_cases q:l.st=2
   .obtain ⟨a,b⟩:=Ax6 h q;exact⟨a,.inr ⟨g,f,by rw[b];rfl,.inl b⟩⟩
   .rw [Q9 h.right f]at h0;have e:(Em l 2).2=false:=(by unfold Em;simp[q]);rw[e]at h0;simp at h0
 .have d:el l.st=false:=by simpa using f
  by_cases i:dp l.st=true
  .rcases j with rfl|rfl|rfl
   .cases c:l.stop with
    | true=>
     rw[S9 h.right d i]at h0;have e:(Dl l 6).2=false:=(by unfold Dl;simp[c]);rw[e]at h0;simp at h0
    | false=>
     obtain⟨a,b,_⟩:=Adn h i (.inr (.inr ⟨rfl,c⟩));exact⟨a,.inl ⟨i,b⟩⟩
   .rw [S9 h.right d i]at h0;have e:(Dl l 1).2=false:=(by unfold Dl;simp);rw[e]at h0;simp at h0
   .rw [S9 h.right d i]at h0;have e:(Dl l 2).2=false:=(by unfold Dl;simp);rw[e]at h0;simp at h0
  .rw [Ahv h.right d (by simpa using i)]at h0;simp at h0
