/- Parts of a proof. No condition. -/
import Derived.Test.YtimlcnhcjndijaaGreatDoorJ01
set_option linter.all false
set_option maxRecDepth 100000
set_option maxHeartbeats 6400000
namespace Go.Proofs.YtimlcnhcjndijaaGreatDoor
open Option renaming none->I,some->O
open IntKind renaming i64->G
open Value renaming int->Z,bool->Q,tuple->E,slice->V,pointer->K
open Ending renaming returned->Y
open Obj renaming cells->J
open Go renaming World->WD,Value->VL,Calls->CS
open Go.RowKit renaming Below->BW
open Go.Proofs.Tryz
section
open Go.RowKit Go.Maps Go.Lib
variable{s:Int}
structure Lf where
 st:Int
 bh:Int
 left:Int
 wall:Bool
 stop:Bool
deriving DecidableEq
def Lf.zero:Lf:=⟨0,0,0,false,false⟩
def ia (s:Int):Bool:=decide (5<=s) && decide (s<=8)
def cu (s:Int):Bool:=decide (s=3) || decide (s=4)
def dz (s:Int):Bool:=decide (s=1) || decide (s=2)
def Ei (s:Int):Int:=if dz s=true then 5 else 6
def Kp (l:Lf):Bool:=
 decide (1<=l.st) && decide (l.st<=8) && decide (0<=l.bh) && decide (0<=l.left) && decide (l.bh<=Ei l.st) && decide (l.left<=Ei l.st-l.bh)
  && !(decide (l.bh=0) && (cu l.st || ia l.st && decide (l.st≠8))) && (decide (l.st=4) || !l.wall && !l.stop)
def Lb (ae:Int) (held:Bool):Lf×Int:=
 if ae<0\/5<ae then(Lf.zero,1)else(⟨if held=true then 2 else 1,0,ae,false,false⟩,0)
def Ow (l:Lf):Lf:=
 if l.stop=true then⟨8,l.bh,l.left,false,false⟩else if l.wall=true then⟨6,l.bh,l.left,false,false⟩
 else if 0<l.left then⟨1,l.bh,l.left-1,false,false⟩else⟨7,l.bh,l.left,false,false⟩
def Dz (l:Lf) (s:Int):Lf×Bool:=
 if l.st=1/\s=1 then(⟨2,l.bh,l.left,l.wall,l.stop⟩,true)
 else if l.st=2/\s=2 then(⟨1,l.bh,l.left,l.wall,l.stop⟩,true)
 else if l.st=1/\s=3 then(⟨3,l.bh+1,l.left,l.wall,l.stop⟩,true)
 else if s=6\/s=7 then(⟨8,l.bh,l.left,l.wall,l.stop⟩,true)else(l,false)
def Du (l:Lf) (s:Int):Lf×Bool:=
 if s=8 then(if l.st=3 then(⟨5,l.bh,l.left,l.wall,l.stop⟩,true)else(Ow l,true))
 else if (s=6/\l.stop=true)\/(s≠6/\s≠4/\s≠5)then(l,false)
 else(⟨4,l.bh,l.left,l.wall || decide (s=4),l.stop || decide (s=6)⟩,true)
def Ay (l:Lf) (s:Int):Lf×Int:=
 if Kp l=false then(Lf.zero,1)
 else if dz l.st=true then(if (Dz l s).2=true then((Dz l s).1,0)else(Lf.zero,100))
 else if cu l.st=true then(if (Du l s).2=true then((Du l s).1,0)else(Lf.zero,100))
 else(Lf.zero,100)
def G4 (next m n:Int):Bool:=decide (n=0) || decide (next<=n) || decide (n < -m)
abbrev gd:=Int×Int
def E9 (s:gd):gd:=(max s.1 0,max s.2 0)
def Jt (s:gd):Int:=if s.1=0 then 0 else if s.2=0 then 2 else 1
def Ih (a b:Int):Int:=if a<b then -1 else if b<a then 1 else 0
def G5 (a b:gd):Int:=
 if E9 a=E9 b then 0
 else if Jt (E9 a)≠1\/Jt (E9 b)≠1 then Ih (Jt (E9 a)) (Jt (E9 b))
 else Ih ((E9 a).1*(E9 b).2) ((E9 b).1*(E9 a).2)
def F4 (has whole:V4):Nat->gd×Int
 | 0=>((0,0),0)
 | n+1=>if n=0\/0<G5 (E9 (has.get n,whole.get n)) (F4 has whole n).1 then(E9 (has.get n,whole.get n),(n:Int))else F4 has whole n
def P4 (has whole:V4):gd:=(F4 has whole 4).1
def Fs (n:Int):Int:=min (max n 0) 1152921504606846976
def Kt (a b:Int):Int:=Fs (Fs a+Fs b)
def Ld (u v:V4):V4:=⟨Kt u.a v.a,Kt u.b v.b,Kt u.c v.c,Kt u.d v.d⟩
structure dp where
 id:Int
 user:ByteArray
 prio:Int
 ox:V4
structure fp where
 user:ByteArray
 has:V4
def A9 (ws:List dp) (i:Nat):dp:=(ws[i]?).getD ⟨0,ByteArray.empty,0,⟨0,0,0,0⟩⟩
def wy (a b:dp):Bool:=decide (b.prio<a.prio) || (decide (a.prio=b.prio) && decide (a.id<=b.id))
def Ii (ws:List dp) (l:List Nat):List Nat:=l.mergeSort λa b=>wy (A9 ws a) (A9 ws b)
structure bz where
 name:ByteArray
 has:V4
 left:List Nat
def uh (s:ByteArray) (u:bz):Bool:=decide (u.name=s)
def Ij (us:List bz) (s:ByteArray):Option Nat:=us.findIdx? (uh s)
def Ak (us:List bz) (s:ByteArray) (i:Nat):List bz:=match Ij us s with
 | none=>us++[⟨s,⟨0,0,0,0⟩,[i]⟩]
 | some k=>us.modify k λu=>⟨u.name,u.has,u.left++[i]⟩
def Cq (ws:List dp):Nat->List bz
 | 0=>[]
 | i+1=>Ak (Cq ws i) (A9 ws i).user i
def Dd (us:List bz) (h:fp):List bz:=match Ij us h.user with
 | none=>us
 | some k=>us.modify k λu=>⟨u.name,Ld u.has h.has,u.left⟩
def Dp (hs:List fp) (ws:List dp):List bz:=
 ((hs.foldl Dd (Cq ws ws.length)).map λu=>⟨u.name,u.has,Ii ws u.left⟩)
def Gn (us:List bz):List ByteArray:=((us.map λu=>u.name.data.toList).mergeSort λa b=>decide (a<=b)).map λl=>⟨l.toArray⟩
def De (whole:V4) (us:List bz) (names:List ByteArray):Nat->Option (Nat×gd)
 | 0=>I
 | n+1=>match (names[n]?).bind (Ij us)with
  | none=>De whole us names n
  | some k=>match us[k]? with
   | none=>De whole us names n
   | some u=>if u.left=[]then De whole us names n else match De whole us names n with
    | none=>O (k,P4 u.has whole)
    | some (i,s)=>if G5 (P4 u.has whole) s<0 then O (k,P4 u.has whole)else O (i,s)
def Ku (ws:List dp) (u:bz):bz:=match u.left with
 | []=>u
 | p :: l=>⟨u.name,Ld u.has (A9 ws p).ox,l⟩
def C8 (whole:V4) (ws:List dp) (us:List bz) (names:List ByteArray):Nat->List bz×List Nat
 | 0=>(us,[])
 | n+1=>match De whole (C8 whole ws us names n).1 names names.length with
  | none=>C8 whole ws us names n
  | some (k,_)=>match (C8 whole ws us names n).1[k]? with
   | none=>C8 whole ws us names n
   | some u=>((C8 whole ws us names n).1.modify k (Ku ws),(C8 whole ws us names n).2++[u.left.headD 0])
def Le (whole:V4) (hs:List fp) (ws:List dp):List Nat:=(C8 whole ws (Dp hs ws) (Gn (Dp hs ws)) ws.length).2
def Ab7 (s:Int) (w:WD):CS prog 211 #[Z G s] w λe w'=>e=Y (Q (ia s))/\w'=w:=by
 by_cases a:(5:Int)<=s
 .have d:=Az a;by_cases b:s<=(8:Int)
  .have f:=Az b;have c:ia s=true:=(by unfold ia;simp[a,b]);replace⟨a,c,b⟩:=H3 a c b;go_enter func211,ntmps211;go_wp2;go_ret;exact⟨by rw[c.out];rfl,rfl⟩
  .have f:=A2 b;have c:ia s=false:=(by unfold ia;simp[a,b]);replace⟨a,c,b⟩:=H3 a c b;go_enter func211,ntmps211;go_wp2;go_ret;exact⟨by rw[c.out];rfl,rfl⟩
 .have d:=A2 a;have c:ia s=false:=by unfold ia;simp[a]
  replace⟨a,c⟩:=H2 a c;go_enter func211,ntmps211;go_wp2;go_ret;exact⟨by rw[c.out];rfl,rfl⟩
def Ra (s:Int) (w:WD):CS prog 131 #[Z G s] w λe w'=>e=Y (Q (cu s))/\w'=w:=by
 by_cases a:s=3
 .have d:=Mw.2 a;have c:cu s=true:=by unfold cu;simp[a]
  replace⟨a,c⟩:=H2 a c;go_enter func131,ntmps131;go_wp2;go_ret;exact⟨by rw[c.out];rfl,rfl⟩
 .have d:=Br.2 a;by_cases b:s=4
  .have f:=Mw.2 b;have c:cu s=true:=(by unfold cu;simp[b]);replace⟨a,c,b⟩:=H3 a c b;go_enter func131,ntmps131;go_wp2;go_ret;exact⟨by rw[c.out];rfl,rfl⟩
  .have f:=Br.2 b;have c:cu s=false:=(by unfold cu;simp[a,b]);replace⟨a,c,b⟩:=H3 a c b;go_enter func131,ntmps131;go_wp2;go_ret;exact⟨by rw[c.out];rfl,rfl⟩
def Ahm (s:Int) (w:WD):CS prog 158 #[Z G s] w λe w'=>e=Y (Q (dz s))/\w'=w:=by
 by_cases a:s=1
 .have d:=Mw.2 a;have c:dz s=true:=by unfold dz;simp[a]
  replace⟨a,c⟩:=H2 a c;go_enter func158,ntmps158;go_wp2;go_ret;exact⟨by rw[c.out];rfl,rfl⟩
 .have d:=Br.2 a;by_cases b:s=2
  .have f:=Mw.2 b;have c:dz s=true:=(by unfold dz;simp[b]);replace⟨a,c,b⟩:=H3 a c b;go_enter func158,ntmps158;go_wp2;go_ret;exact⟨by rw[c.out];rfl,rfl⟩
  .have f:=Br.2 b;have c:dz s=false:=(by unfold dz;simp[a,b]);replace⟨a,c,b⟩:=H3 a c b;go_enter func158,ntmps158;go_wp2;go_ret;exact⟨by rw[c.out];rfl,rfl⟩
abbrev Lf.cells (l:Lf):Array VL:=#[Z G l.st,Z G l.bh,Z G l.left,Q l.wall,Q l.stop]
abbrev Lf.val (l:Lf):VL:=.agg #[Z G l.st,Z G l.bh,Z G l.left,Q l.wall,Q l.stop]
def Ahn {a b:Bool} (h:a=b):Ending.returned (Q a)=Y (Q b):=by rw[h]
def S1 (st c left:Int) (b a:Bool):Kp ⟨st,c,left,b,a⟩=true↔(1<=st/\st<=8/\0<=c/\0<=left/\c<=Ei st/\left<=Ei st-c)/\¬(c=0/\(cu st=true\/(ia st=true/\st≠8)))/\(st=4\/(b=false/\a=false)):=by
 unfold Kp;simp only[Da,Aa6,F2,Bool.not_eq_true',Iu,ne_eq];constructor
 .rintro ⟨⟨⟨⟨⟨⟨⟨a1,a2⟩,a3⟩,d⟩,e⟩,f⟩,g⟩,h⟩;exact⟨⟨a1,a2,a3,d,e,f⟩,g,h⟩
 .rintro ⟨⟨a1,a2,a3,d,e,f⟩,g,h⟩;exact⟨⟨⟨⟨⟨⟨⟨a1,a2⟩,a3⟩,d⟩,e⟩,f⟩,g⟩,h⟩
def Asg (l:Lf) (w:WD):CS prog 157 #[l.val] w λe w'=>e=Y (Q (Kp l))/\BW w.heap.size w w':=by
 obtain⟨st,i,left,f,d⟩:=l;have b:=S1 st i left f d;obtain⟨h,a⟩:=Ex (dz st);have c:=λW=>Ahm st W;rw[<-a]at c;have g:Ei st=if h=true then 5 else 6:=by rw[a];rfl
 rw[g]at b;replace⟨c,b,g,a⟩:=H4 c b g a
 cases h with
 | true=>
  go_enter func157,ntmps157;go_wp2_with fail;refine(c.out _).mono ?_;rintro e w1 ⟨rfl,rfl⟩;go_wp2_with (first|(go_at_call 131;refine(Ra _ _).mono ?_;rintro e w1 ⟨rfl,rfl⟩)|(go_at_call 211;refine(Ab7 _ _).mono ?_;rintro e w1 ⟨rfl,rfl⟩))
  all_goals
   go_ret;refine⟨Ahn ?_,Bn⟩;rw[Oq,b.out]
   simp_all
   try omega
 | false=>
  go_enter func157,ntmps157;go_wp2_with fail;refine(c.out _).mono ?_;rintro e w1 ⟨rfl,rfl⟩;go_wp2_with (first|(go_at_call 131;refine(Ra _ _).mono ?_;rintro e w1 ⟨rfl,rfl⟩)|(go_at_call 211;refine(Ab7 _ _).mono ?_;rintro e w1 ⟨rfl,rfl⟩))
  all_goals
   go_ret;refine⟨Ahn ?_,Bn⟩;rw[Oq,b.out]
   simp_all
   try omega
def Ash (r:Int) (h:Bool) (w:WD):CS prog 129 #[Z G r,Q h] w λe w'=>e=Y (E #[(Lb r h).1.val,Z G (Lb r h).2])/\BW w.heap.size w w':=by
 by_cases a:r<0\/5<r
 .have b:Lb r h=(Lf.zero,1):=Ad a;rw[b];replace⟨a,b⟩:=H2 a b;cases h
  all_goals
   go_enter func129,ntmps129;go_wp2
   all_goals first
    | (exfalso;have:=a.out;omega)
    | (refine Al (v:=E #[Lf.zero.val,Z G 1]) (by simp[results,results129,go_sem,Lf.zero]) rfl ⟨rfl,?_⟩;exact Bn)
 .have c:0<=r:=ao9
  have b:Lb r h=(⟨if h=true then 2 else 1,0,r,false,false⟩,0):=Ac a;rw[b];replace⟨a,b⟩:=H2 a b;cases h
  .go_enter func129,ntmps129;go_wp2;refine Al (v:=E #[(⟨1,0,r,false,false⟩:Lf).val,Z G 0]) (by simp[results,results129,go_sem]) rfl ⟨rfl,?_⟩;exact Bn
  .go_enter func129,ntmps129;go_wp2;refine Al (v:=E #[(⟨2,0,r,false,false⟩:Lf).val,Z G 0]) (by simp[results,results129,go_sem]) rfl ⟨rfl,?_⟩;exact Bn
def Asi (l:Lf) (w:WD) (h1:-100<=l.left) (f:l.left<=100):CS prog 212 #[l.val] w λe w'=>e=Y (Ow l).val/\BW w.heap.size w w':=by
 obtain⟨st,a,left,d,c⟩:=l;simp only at h1 f
 cases c with
 | true=>
  go_enter Xi,Xd;go_wp2;refine Al (v:=(⟨8,a,left,false,false⟩:Lf).val) (by simp[results,results212,go_sem]) rfl ⟨rfl,?_⟩;exact Bn.alloc as9 _
 | false=>
  cases d with
  | true=>
   go_enter Xi,Xd;go_wp2;refine Al (v:=(⟨6,a,left,false,false⟩:Lf).val) (by simp[results,results212,go_sem]) rfl ⟨rfl,?_⟩;exact Bn.alloc as9 _
  | false=>
   by_cases q:0<left
   .have b:Ow ⟨st,a,left,false,false⟩=⟨1,a,left-1,false,false⟩:=(by unfold Ow;simp[q]);rw[b];replace b:=Hh b;go_enter Xi,Xd;go_wp2;refine Al (v:=(⟨1,a,left-1,false,false⟩:Lf).val) (by simp[results,results212,go_sem]) rfl ⟨rfl,?_⟩;exact Bn.alloc as9 _
   .have b:Ow ⟨st,a,left,false,false⟩=⟨7,a,left,false,false⟩:=(by unfold Ow;simp[q]);rw[b];replace b:=Hh b;go_enter Xi,Xd;go_wp2;refine Al (v:=(⟨7,a,left,false,false⟩:Lf).val) (by simp[results,results212,go_sem]) rfl ⟨rfl,?_⟩;exact Bn.alloc as9 _
def U1  (h:1<=s/\s<=8):s=1\/s=2\/s=3\/s=4\/s=5\/s=6\/s=7\/s=8:=ao9
def Asj (l:Lf) (s:Int) (w:WD) (a:l.st=1\/l.st=2) (f:1<=s/\s<=8) (h1:-100<=l.bh) (h:l.bh<=100) :
  CS prog 159 #[l.val,Z G s] w λe w'=>e=Y (E #[(Dz l s).1.val,Q (Dz l s).2])/\BW w.heap.size w w':=by
 obtain⟨st,g,left,c,b⟩:=l;simp only at h1 h a;obtain⟨z,d⟩:=Ex (Dz ⟨st,g,left,c,b⟩ s);rw[<-d];rcases a with rfl|rfl
 all_goals
  rcases U1 f with rfl|rfl|rfl|rfl|rfl|rfl|rfl|rfl
  all_goals
   clear f;simp[Dz]at d;subst d;go_enter func159,ntmps159;go_wp2;refine Al (v:=E #[_,_]) (by simp[results,results159,go_sem]) rfl ⟨rfl,?_⟩;exact(Bn.alloc as9 _).alloc (by simp;omega) _
def Asl (l:Lf) (s:Int) (w:WD) (k:l.st=3\/l.st=4) (f:1<=s/\s<=8) (h1:-100<=l.left) (x:l.left<=100) :
  CS prog 160 #[l.val,Z G s] w λe w'=>e=Y (E #[(Du l s).1.val,Q (Du l s).2])/\BW w.heap.size w w':=by
 have i:=Asi l;obtain⟨st,n,left,c,a⟩:=l;simp only at h1 x k;have i:=λW=>i W h1 x;obtain⟨y,m⟩:=Ex (Ow ⟨st,n,left,c,a⟩);rw[<-m]at i;by_cases h:s=8
 .subst h;rcases k with rfl|rfl
  .have d:Du ⟨3,n,left,c,a⟩ 8=(⟨5,n,left,c,a⟩,true):=rfl;rw[d];replace⟨d,i,m,f⟩:=H4 d i m f;go_enter Ov,Ou;go_wp2;refine Al (v:=E #[_,_]) (by simp[results,results160,go_sem]) rfl ⟨rfl,?_⟩;exact Bn.alloc as9 _
  .have d:Du ⟨4,n,left,c,a⟩ 8=(y,true):=(by rw[m];rfl);rw[d];replace⟨d,i,m,f⟩:=H4 d i m f;go_enter Ov,Ou;go_wp2_with fail;refine(i.out _).mono ?_;rintro e w1 ⟨rfl,o⟩;have j:=Ae o (b:=w.heap.size+1) (A6 _ _ as9) as9;have fr:=Ag j;have p:=Aa j 0;have q:=Aa j 1;have r:=Aa j 2;have t:=Aa j 3;have u:=Aa j 4;simp at p q r t u;have g:=(Bn.alloc as9 _).trans (o.mono (by simp;omega));obtain⟨y1,y2,y3,y4,y5⟩:=y;replace⟨j,g,o⟩:=H3 j g o;go_wp2;refine Al (v:=E #[(⟨y1,y2,y3,y4,y5⟩:Lf).val,Q true]) (by simp[results,results160,go_sem,p,q,r,t,u]) rfl ⟨rfl,?_⟩;exact((((g.out.setCell (D5 _) _).setCell (D5 _) _).setCell (D5 _) _).setCell (D5 _) _).setCell (D5 _) _
 .clear i m;obtain⟨z,d⟩:=Ex (Du ⟨st,n,left,c,a⟩ s);rw[<-d];rcases k with rfl|rfl
  all_goals
   rcases U1 f with rfl|rfl|rfl|rfl|rfl|rfl|rfl|rfl
   .clear f h;simp[Du]at d;subst d;go_enter Ov,Ou;go_wp2;refine Al (v:=E #[_,_]) (by simp[results,results160,go_sem]) rfl ⟨rfl,?_⟩;exact Bn.alloc as9 _
   .clear f h;simp[Du]at d;subst d;go_enter Ov,Ou;go_wp2;refine Al (v:=E #[_,_]) (by simp[results,results160,go_sem]) rfl ⟨rfl,?_⟩;exact Bn.alloc as9 _
   .clear f h;simp[Du]at d;subst d;go_enter Ov,Ou;go_wp2;refine Al (v:=E #[_,_]) (by simp[results,results160,go_sem]) rfl ⟨rfl,?_⟩;exact Bn.alloc as9 _
   .cases c<;>cases a
    all_goals
     clear f h;simp[Du]at d;subst d;go_enter Ov,Ou;go_wp2;refine Al (v:=E #[_,_]) (by simp[results,results160,go_sem]) rfl ⟨rfl,?_⟩;exact Bn.alloc as9 _
   .cases c<;>cases a
    all_goals
     clear f h;simp[Du]at d;subst d;go_enter Ov,Ou;go_wp2;refine Al (v:=E #[_,_]) (by simp[results,results160,go_sem]) rfl ⟨rfl,?_⟩;exact Bn.alloc as9 _
   .cases c<;>cases a
    all_goals
     clear f h;simp[Du]at d;subst d;go_enter Ov,Ou;go_wp2;refine Al (v:=E #[_,_]) (by simp[results,results160,go_sem]) rfl ⟨rfl,?_⟩;exact Bn.alloc as9 _
   .clear f h;simp[Du]at d;subst d;go_enter Ov,Ou;go_wp2;refine Al (v:=E #[_,_]) (by simp[results,results160,go_sem]) rfl ⟨rfl,?_⟩;exact Bn.alloc as9 _
   .exact absurd rfl h
def Rb {l:Lf} {s:Int} (a:Kp l=true) (b:dz l.st=true):Ay l s=if (Dz l s).2=true then((Dz l s).1,0)else(Lf.zero,100):=by
 unfold Ay;rw[Ac (by rw[a];simp),Ad b]
def S2 {l:Lf} {s:Int} (b:Kp l=true) (c:dz l.st=false) (a:cu l.st=true):Ay l s=if (Du l s).2=true then((Du l s).1,0)else(Lf.zero,100):=by
 unfold Ay;rw[Ac (by rw[b];simp),Ac (by rw[c];simp),Ad a]
def Aho {l:Lf} {s:Int} (b:Kp l=true) (c:dz l.st=false) (a:cu l.st=false):Ay l s=(Lf.zero,100):=by
 unfold Ay;rw[Ac (by rw[b];simp),Ac (by rw[c];simp),Ac (by rw[a];simp)]
def Asm {l:Lf} {s:Int} (a:Kp l=false):Ay l s=(Lf.zero,1):=by
 unfold Ay;rw[Ad a]
def Asn {l:Lf} (h:Kp l=true):0<=l.bh/\l.bh<=6/\0<=l.left/\l.left<=6/\1<=l.st/\l.st<=8:=by
 obtain⟨st,f,left,b,a⟩:=l;obtain⟨⟨a1,a2,a3,c,g,i⟩,_,_⟩:=(S1 _ _ _ _ _).1 h
 have:Ei st=5\/Ei st=6:=by unfold Ei;split<;>simp
 have d:f<=6:=ao9
 have e:left<=6:=ao9
 exact⟨a3,d,c,e,a1,a2⟩
def N4:dz s=true↔s=1\/s=2:=by simp[dz]
def I3:cu s=true↔s=3\/s=4:=by simp[cu]
structure vu (w:WD) (l:Lf) (wr:WD):Prop where
 low:BW w.heap.size w wr
 box:wr.heap[w.heap.size]?=O (J l.cells 43 (0,0))
 res:wr.heap[w.heap.size+1]?=O (J Lf.zero.cells 43 (0,0))
def vu.ld {w wr w':WD} {l:Lf} (h:vu w l wr) (a:BW wr.heap.size wr w'):vu w l w':=⟨h.low.trans (a.mono h.low.size),Ae a h.box (Ab h.box),Ae a h.res (Ab h.res)⟩
def vu.new (w:WD) (l:Lf):vu w l ((w.alloc (J l.cells 43 (0,0))).alloc (J Lf.zero.cells 43 (0,0))):=
 ⟨Bn.alloc as9 _,Aj _ (Ah _ _),A6 _ _ as9⟩
def N5 {w w1:WD} {b:Nat} (h:BW w.heap.size w w1) (a:w.heap.size<=b) (c d e f g:VL):BW w.heap.size w (((((w1.setCell ⟨b,0,I⟩ c).setCell ⟨b,1,I⟩ d).setCell ⟨b,2,I⟩ e).setCell ⟨b,3,I⟩ f).setCell ⟨b,4,I⟩ g):=
 ((((h.setCell a _).setCell a _).setCell a _).setCell a _).setCell a _
def Ahp (l:Lf) (s:Int) (w:WD) (hs:1<=s/\s<=8):CS prog 100 #[l.val,Z G s] w λe w'=>e=Y (E #[(Ay l s).1.val,Z G (Ay l s).2])/\BW w.heap.size w w':=by
 have d:=vu.new w l;have y:=λW=>Asg l W;have hW:=λW=>Asj l s W;have hV:=λW=>Asl l s W;have n:=@Asn l;have n1:=@Asm l s;have n2:=@Rb l s;have n3:=@S2 l s;have n4:=@Aho l s;have kw:=λW=>Ahm l.st W;have kl:=λW=>Ra l.st W;obtain⟨q,z⟩:=Ex (Kp l);rw[<-z]at y;obtain⟨qw,f⟩:=Ex (dz l.st);rw[<-f]at kw;obtain⟨ql,g⟩:=Ex (cu l.st);rw[<-g]at kl;obtain⟨⟨p1,p2,p3,p4,p5⟩,hp⟩:∃p,p=(Dz l s).1:=⟨_,rfl⟩;obtain⟨qp,al⟩:=Ex ((Dz l s).2);obtain⟨⟨v1,v2,v3,v4,v5⟩,hv⟩:∃p,p=(Du l s).1:=⟨_,rfl⟩;obtain⟨qv,am⟩:=Ex ((Du l s).2);rw[<-hp,<-al]at hW n2;rw[<-hv,<-am]at hV n3;clear hp al hv am
 cases q with
 | false=>
  rw[n1 z.symm];obtain⟨st,bh,left,ad,ac⟩:=l;replace⟨d,y,hW,hV,n,n1,n2,n3⟩:=H8 d y hW hV n n1 n2 n3;replace⟨n4,kw,kl,z,f,g,hs⟩:=H7 n4 kw kl z f g hs;go_enter Sg,Sd;go_wp2_with fail;refine(y.out _).mono ?_;rintro e w1 ⟨rfl,c⟩;have a:=d.out.ld c;obtain⟨h,i,j,k,m⟩:=C5 a.box;(try dsimp only at h i j k m);have o:=Bk a.res 0 (Z G 0) rfl;have r:=Bk a.res 1 (Z G 0) rfl;have t:=Bk a.res 2 (Z G 0) rfl;have u:=Bk a.res 3 (Q false) rfl;have x:=Bk a.res 4 (Q false) rfl;have fc:=Ag a.box;have fr:=Ag a.res;replace⟨a,c⟩:=H2 a c;go_wp2;refine Al (v:=E #[Lf.zero.val,Z G 1]) (by simp[results,results100,go_sem,Lf.zero,o,r,t,u,x]) rfl ⟨rfl,?_⟩;exact N5 a.out.low (D5 _) _ _ _ _ _
 | true=>
  obtain⟨b1,b2,b3,b4,b5,b6⟩:=n z.symm
  cases qw with
  | true=>
   have hW:=λW=>hW W (N4.1 f.symm) hs ao9 ao9;rw[n2 z.symm f.symm];obtain⟨st,bh,left,ad,ac⟩:=l;replace⟨d,y,hW,hV,n,n1,n2,n3⟩:=H8 d y hW hV n n1 n2 n3;replace⟨n4,kw,kl,z,f,g,hs,b1⟩:=H8 n4 kw kl z f g hs b1;replace⟨b2,b3,b4,b5,b6⟩:=H5 b2 b3 b4 b5 b6
   cases qp with
   | true=>
    go_enter Sg,Sd;go_wp2_with fail;refine(y.out _).mono ?_;rintro e w1 ⟨rfl,c⟩;have a:=d.out.ld c;obtain⟨h,i,j,k,m⟩:=C5 a.box;(try dsimp only at h i j k m);have o:=Bk a.res 0 (Z G 0) rfl;have r:=Bk a.res 1 (Z G 0) rfl;have t:=Bk a.res 2 (Z G 0) rfl;have u:=Bk a.res 3 (Q false) rfl;have x:=Bk a.res 4 (Q false) rfl;have fc:=Ag a.box;have fr:=Ag a.res;replace⟨a,c⟩:=H2 a c;go_wp2_with fail;refine(kw.out _).mono ?_;rintro e w2 ⟨rfl,rfl⟩;go_wp2_with fail;refine(hW.out _).mono ?_;rintro e w3 ⟨rfl,c⟩;have b:=a.out.ld c;clear h i j k m o r t u x fc fr;obtain⟨h,i,j,k,m⟩:=C5 b.box;(try dsimp only at h i j k m);have o:=Bk b.res 0 (Z G 0) rfl;have r:=Bk b.res 1 (Z G 0) rfl;have t:=Bk b.res 2 (Z G 0) rfl;have u:=Bk b.res 3 (Q false) rfl;have x:=Bk b.res 4 (Q false) rfl;have fc:=Ag b.box;have fr:=Ag b.res;replace⟨b,c⟩:=H2 b c;go_wp2;refine Al (v:=E #[(⟨p1,p2,p3,p4,p5⟩:Lf).val,Z G 0]) (by simp[results,results100,go_sem,o,r,t,u,x]) rfl ⟨rfl,?_⟩;exact N5 (N5 b.out.low Ln _ _ _ _ _) (D5 _) _ _ _ _ _
   | false=>
    go_enter Sg,Sd;go_wp2_with fail;refine(y.out _).mono ?_;rintro e w1 ⟨rfl,c⟩;have a:=d.out.ld c;obtain⟨h,i,j,k,m⟩:=C5 a.box;(try dsimp only at h i j k m);have o:=Bk a.res 0 (Z G 0) rfl;have r:=Bk a.res 1 (Z G 0) rfl;have t:=Bk a.res 2 (Z G 0) rfl;have u:=Bk a.res 3 (Q false) rfl;have x:=Bk a.res 4 (Q false) rfl;have fc:=Ag a.box;have fr:=Ag a.res;replace⟨a,c⟩:=H2 a c;go_wp2_with fail;refine(kw.out _).mono ?_;rintro e w2 ⟨rfl,rfl⟩;go_wp2_with fail;refine(hW.out _).mono ?_;rintro e w3 ⟨rfl,c⟩;have b:=a.out.ld c;clear h i j k m o r t u x fc fr;obtain⟨h,i,j,k,m⟩:=C5 b.box;(try dsimp only at h i j k m);have o:=Bk b.res 0 (Z G 0) rfl;have r:=Bk b.res 1 (Z G 0) rfl;have t:=Bk b.res 2 (Z G 0) rfl;have u:=Bk b.res 3 (Q false) rfl;have x:=Bk b.res 4 (Q false) rfl;have fc:=Ag b.box;have fr:=Ag b.res;replace⟨b,c⟩:=H2 b c;go_wp2;refine Al (v:=E #[Lf.zero.val,Z G 100]) (by simp[results,results100,go_sem,Lf.zero,o,r,t,u,x]) rfl ⟨rfl,?_⟩;exact N5 (N5 b.out.low Ln _ _ _ _ _) (D5 _) _ _ _ _ _
  | false=>
   cases ql with
   | true=>
    have hV:=λW=>hV W (I3.1 g.symm) hs ao9 ao9;rw[n3 z.symm f.symm g.symm];obtain⟨st,bh,left,ad,ac⟩:=l;replace⟨d,y,hW,hV,n,n1,n2,n3⟩:=H8 d y hW hV n n1 n2 n3;replace⟨n4,kw,kl,z,f,g,hs,b1⟩:=H8 n4 kw kl z f g hs b1;replace⟨b2,b3,b4,b5,b6⟩:=H5 b2 b3 b4 b5 b6
    cases qv with
    | true=>
     go_enter Sg,Sd;go_wp2_with fail;refine(y.out _).mono ?_;rintro e w1 ⟨rfl,c⟩;have a:=d.out.ld c;obtain⟨h,i,j,k,m⟩:=C5 a.box;(try dsimp only at h i j k m);have o:=Bk a.res 0 (Z G 0) rfl;have r:=Bk a.res 1 (Z G 0) rfl;have t:=Bk a.res 2 (Z G 0) rfl;have u:=Bk a.res 3 (Q false) rfl;have x:=Bk a.res 4 (Q false) rfl;have fc:=Ag a.box;have fr:=Ag a.res;replace⟨a,c⟩:=H2 a c;go_wp2_with fail;refine(kw.out _).mono ?_;rintro e w2 ⟨rfl,rfl⟩;go_wp2_with fail;refine(kl.out _).mono ?_;rintro e w2 ⟨rfl,rfl⟩;go_wp2_with fail;refine(hV.out _).mono ?_;rintro e w3 ⟨rfl,c⟩;have b:=a.out.ld c;clear h i j k m o r t u x fc fr;obtain⟨h,i,j,k,m⟩:=C5 b.box;(try dsimp only at h i j k m);have o:=Bk b.res 0 (Z G 0) rfl;have r:=Bk b.res 1 (Z G 0) rfl;have t:=Bk b.res 2 (Z G 0) rfl;have u:=Bk b.res 3 (Q false) rfl;have x:=Bk b.res 4 (Q false) rfl;have fc:=Ag b.box;have fr:=Ag b.res;replace⟨b,c⟩:=H2 b c;go_wp2;refine Al (v:=E #[(⟨v1,v2,v3,v4,v5⟩:Lf).val,Z G 0]) (by simp[results,results100,go_sem,o,r,t,u,x]) rfl ⟨rfl,?_⟩;exact N5 (N5 b.out.low Ln _ _ _ _ _) (D5 _) _ _ _ _ _
    | false=>
     go_enter Sg,Sd;go_wp2_with fail;refine(y.out _).mono ?_;rintro e w1 ⟨rfl,c⟩;have a:=d.out.ld c;obtain⟨h,i,j,k,m⟩:=C5 a.box;(try dsimp only at h i j k m);have o:=Bk a.res 0 (Z G 0) rfl;have r:=Bk a.res 1 (Z G 0) rfl;have t:=Bk a.res 2 (Z G 0) rfl;have u:=Bk a.res 3 (Q false) rfl;have x:=Bk a.res 4 (Q false) rfl;have fc:=Ag a.box;have fr:=Ag a.res;replace⟨a,c⟩:=H2 a c;go_wp2_with fail;refine(kw.out _).mono ?_;rintro e w2 ⟨rfl,rfl⟩;go_wp2_with fail;refine(kl.out _).mono ?_;rintro e w2 ⟨rfl,rfl⟩;go_wp2_with fail;refine(hV.out _).mono ?_;rintro e w3 ⟨rfl,c⟩;have b:=a.out.ld c;clear h i j k m o r t u x fc fr;obtain⟨h,i,j,k,m⟩:=C5 b.box;(try dsimp only at h i j k m);have o:=Bk b.res 0 (Z G 0) rfl;have r:=Bk b.res 1 (Z G 0) rfl;have t:=Bk b.res 2 (Z G 0) rfl;have u:=Bk b.res 3 (Q false) rfl;have x:=Bk b.res 4 (Q false) rfl;have fc:=Ag b.box;have fr:=Ag b.res;replace⟨b,c⟩:=H2 b c;go_wp2;refine Al (v:=E #[Lf.zero.val,Z G 100]) (by simp[results,results100,go_sem,Lf.zero,o,r,t,u,x]) rfl ⟨rfl,?_⟩;exact N5 (N5 b.out.low Ln _ _ _ _ _) (D5 _) _ _ _ _ _
   | false=>
    rw[n4 z.symm f.symm g.symm];obtain⟨st,bh,left,ad,ac⟩:=l;replace⟨d,y,hW,hV,n,n1,n2,n3⟩:=H8 d y hW hV n n1 n2 n3;replace⟨n4,kw,kl,z,f,g,hs,b1⟩:=H8 n4 kw kl z f g hs b1;replace⟨b2,b3,b4,b5,b6⟩:=H5 b2 b3 b4 b5 b6;go_enter Sg,Sd;go_wp2_with fail;refine(y.out _).mono ?_;rintro e w1 ⟨rfl,c⟩;have a:=d.out.ld c;obtain⟨h,i,j,k,m⟩:=C5 a.box;(try dsimp only at h i j k m);have o:=Bk a.res 0 (Z G 0) rfl;have r:=Bk a.res 1 (Z G 0) rfl;have t:=Bk a.res 2 (Z G 0) rfl;have u:=Bk a.res 3 (Q false) rfl;have x:=Bk a.res 4 (Q false) rfl;have fc:=Ag a.box;have fr:=Ag a.res;replace⟨a,c⟩:=H2 a c;go_wp2_with fail;refine(kw.out _).mono ?_;rintro e w2 ⟨rfl,rfl⟩;go_wp2_with fail;refine(kl.out _).mono ?_;rintro e w2 ⟨rfl,rfl⟩;go_wp2;refine Al (v:=E #[Lf.zero.val,Z G 100]) (by simp[results,results100,go_sem,Lf.zero,o,r,t,u,x]) rfl ⟨rfl,?_⟩;exact N5 a.out.low (D5 _) _ _ _ _ _
def V4.sub (u v:V4):V4×Int:=if u.right=true/\v.right=true then V4.told ⟨u.a-v.a,u.b-v.b,u.c-v.c,u.d-v.d⟩ 31 else(V4.zero,1)
def Atm (u v:V4) (w:WD) :
  CS prog 280 #[u.val,v.val] w λe w'=>e=Y (E #[(u.sub v).1.val,Z G (u.sub v).2])/\BW w.heap.size w w':=by
 by_cases o:u.right=true/\v.right=true
 .have hs:u.sub v=V4.told ⟨u.a-v.a,u.b-v.b,u.c-v.c,u.d-v.d⟩ 31:=Ad o;obtain⟨t,x⟩:=o;have p:=Hh hs;clear hs;have q:=Hh t;clear t;have s:=Hh x;clear x;go_enter func280,ntmps280;go_wp2_with fail;refine(J3 u _).mono ?_;rintro e w2 ⟨rfl,f⟩;rw[q.out];have j:=((Bn.alloc as9 _).alloc (by simp;omega) _).trans (f.mono (by simp;omega));have gu:=Ae f (Aj _ (Aj _ (Ah _ _))) (by simp;omega);have k:=Ae f (Aj _ (A6 (b:=w.heap.size+1) _ _ as9)) as9;have g:=Ae f (A6 (b:=w.heap.size+2) _ _ as9) as9;have cv:=Aa k;have gu:=Hh gu;have k:=Hh k;have g:=Hh g;have f:=Hh f;go_wp2_with fail;refine(J3 v _).mono ?_;rintro e w3 ⟨rfl,h⟩;rw[s.out];have l:=j.trans (h.mono j.size);have ac:=Hh (Ae h gu.out (Ab gu.out));have ad:=Hh (Ae h k.out (Ab k.out));have y:=Hh (Ae h g.out (Ab g.out));clear cv;have h:=Hh h;go_wp2_with fail;refine(Ace 319 _ (λi=>u.get i-v.get i) _ Ati ?_).mono ?_
  .intro i w1 hi hb;exact Atj u v w.heap.size (w.heap.size+1) i w1 hi q.out s.out (Ae hb ac.out (Ab ac.out)) (Ae hb ad.out (Ab ad.out))
  rintro e w4 ⟨rfl,m⟩;have al:=l.trans (m.mono l.size);have g4:=Hh (Ae m y.out (Ab y.out));have m:=Hh m;go_wp2_with fail;refine(Aa7 ⟨u.a-v.a,u.b-v.b,u.c-v.c,u.d-v.d⟩ 31 _).mono ?_;rintro e w5 ⟨rfl,n⟩;have am:=al.trans (n.mono al.size);have g5:=Ae n g4.out (Ab g4.out);have z:=Aa g5;have fx:=Ag g5;clear g5;have n:=Hh n;rw[<-p.out];generalize o:u.sub v=r;have o:=Hh o;go_wp2;refine Al (v:=E #[r.1.val,Z G r.2]) (by simp[results,results280,go_sem,z]) rfl ⟨by rw[o.out],?_⟩;refine C6 ?_ (by simp;omega) _;refine C6 ?_ (by simp;omega) _;refine C6 ?_ (by simp;omega) _;refine C6 ?_ (by simp;omega) _;exact am
 .have hs:u.sub v=(V4.zero,1):=Ac o;have p:=Hh hs;clear hs;have an:=Hh o;clear o;go_enter func280,ntmps280;go_wp2_with fail;refine(J3 u _).mono ?_;rintro e w2 ⟨rfl,f⟩;have j:=((Bn.alloc as9 _).alloc (by simp;omega) _).trans (f.mono (by simp;omega));have k:=Ae f (Aj _ (A6 (b:=w.heap.size+1) _ _ as9)) as9;have g:=Ae f (A6 (b:=w.heap.size+2) _ _ as9) as9;have cv:=Aa k;have f:=Hh f;cases t:u.right
  .have q:=Hh t;clear t;have z:=Aa g;have fx:=Ag g;clear g k cv;go_wp2;refine Al (v:=E #[V4.zero.val,Z G 1]) (by simp[results,results280,go_sem,z,V4.zero]) rfl ⟨by rw[p.out],?_⟩;refine C6 ?_ (by simp;omega) _;refine C6 ?_ (by simp;omega) _;refine C6 ?_ (by simp;omega) _;refine C6 ?_ (by simp;omega) _;exact j
  .have x:v.right=false:=by
    cases x:v.right
    .rfl
    .exact absurd ⟨t,x⟩ an.out
   have q:=Hh t;clear t;have s:=Hh x;clear x;have g:=Hh g;have k:=Hh k;go_wp2_with fail;refine(J3 v _).mono ?_;rintro e w3 ⟨rfl,h⟩;rw[s.out];have l:=j.trans (h.mono j.size);have y:=Ae h g.out (Ab g.out);have z:=Aa y;have fx:=Ag y;clear y cv;have h:=Hh h;go_wp2;refine Al (v:=E #[V4.zero.val,Z G 1]) (by simp[results,results280,go_sem,z,V4.zero]) rfl ⟨by rw[p.out],?_⟩;refine C6 ?_ (by simp;omega) _;refine C6 ?_ (by simp;omega) _;refine C6 ?_ (by simp;omega) _;refine C6 ?_ (by simp;omega) _;exact l
def V4.add (u v:V4):V4×Int:=if u.right=true/\v.right=true then V4.told ⟨u.a+v.a,u.b+v.b,u.c+v.c,u.d+v.d⟩ 30 else(V4.zero,1)
def Aia (u v:V4) (w:WD) :
  CS prog 281 #[u.val,v.val] w λe w'=>e=Y (E #[(u.add v).1.val,Z G (u.add v).2])/\BW w.heap.size w w':=by
 by_cases o:u.right=true/\v.right=true
 .have hs:u.add v=V4.told ⟨u.a+v.a,u.b+v.b,u.c+v.c,u.d+v.d⟩ 30:=Ad o;obtain⟨t,x⟩:=o;have p:=Hh hs;clear hs;have q:=Hh t;clear t;have s:=Hh x;clear x;go_enter func281,ntmps281;go_wp2_with fail;refine(J3 u _).mono ?_;rintro e w2 ⟨rfl,f⟩;rw[q.out];have j:=((Bn.alloc as9 _).alloc (by simp;omega) _).trans (f.mono (by simp;omega));have gu:=Ae f (Aj _ (Aj _ (Ah _ _))) (by simp;omega);have k:=Ae f (Aj _ (A6 (b:=w.heap.size+1) _ _ as9)) as9;have g:=Ae f (A6 (b:=w.heap.size+2) _ _ as9) as9;have cv:=Aa k;have gu:=Hh gu;have k:=Hh k;have g:=Hh g;have f:=Hh f;go_wp2_with fail;refine(J3 v _).mono ?_;rintro e w3 ⟨rfl,h⟩;rw[s.out];have l:=j.trans (h.mono j.size);have ac:=Hh (Ae h gu.out (Ab gu.out));have ad:=Hh (Ae h k.out (Ab k.out));have y:=Hh (Ae h g.out (Ab g.out));clear cv;have h:=Hh h;go_wp2_with fail;refine(Ace 320 _ (λi=>u.get i+v.get i) _ Atk ?_).mono ?_
  .intro i w1 hi hb;exact Atl u v w.heap.size (w.heap.size+1) i w1 hi q.out s.out (Ae hb ac.out (Ab ac.out)) (Ae hb ad.out (Ab ad.out))
  rintro e w4 ⟨rfl,m⟩;have al:=l.trans (m.mono l.size);have g4:=Hh (Ae m y.out (Ab y.out));have m:=Hh m;go_wp2_with fail;refine(Aa7 ⟨u.a+v.a,u.b+v.b,u.c+v.c,u.d+v.d⟩ 30 _).mono ?_;rintro e w5 ⟨rfl,n⟩;have am:=al.trans (n.mono al.size);have g5:=Ae n g4.out (Ab g4.out);have z:=Aa g5;have fx:=Ag g5;clear g5;have n:=Hh n;rw[<-p.out];generalize o:u.add v=r;have o:=Hh o;go_wp2;refine Al (v:=E #[r.1.val,Z G r.2]) (by simp[results,results281,go_sem,z]) rfl ⟨by rw[o.out],?_⟩;refine C6 ?_ (by simp;omega) _;refine C6 ?_ (by simp;omega) _;refine C6 ?_ (by simp;omega) _;refine C6 ?_ (by simp;omega) _;exact am
 .have hs:u.add v=(V4.zero,1):=Ac o;have p:=Hh hs;clear hs;have an:=Hh o;clear o;go_enter func281,ntmps281;go_wp2_with fail;refine(J3 u _).mono ?_;rintro e w2 ⟨rfl,f⟩;have j:=((Bn.alloc as9 _).alloc (by simp;omega) _).trans (f.mono (by simp;omega));have k:=Ae f (Aj _ (A6 (b:=w.heap.size+1) _ _ as9)) as9;have g:=Ae f (A6 (b:=w.heap.size+2) _ _ as9) as9;have cv:=Aa k;have f:=Hh f;cases t:u.right
  .have q:=Hh t;clear t;have z:=Aa g;have fx:=Ag g;clear g k cv;go_wp2;refine Al (v:=E #[V4.zero.val,Z G 1]) (by simp[results,results281,go_sem,z,V4.zero]) rfl ⟨by rw[p.out],?_⟩;refine C6 ?_ (by simp;omega) _;refine C6 ?_ (by simp;omega) _;refine C6 ?_ (by simp;omega) _;refine C6 ?_ (by simp;omega) _;exact j
  .have x:v.right=false:=by
    cases x:v.right
    .rfl
    .exact absurd ⟨t,x⟩ an.out
   have q:=Hh t;clear t;have s:=Hh x;clear x;have g:=Hh g;have k:=Hh k;go_wp2_with fail;refine(J3 v _).mono ?_;rintro e w3 ⟨rfl,h⟩;rw[s.out];have l:=j.trans (h.mono j.size);have y:=Ae h g.out (Ab g.out);have z:=Aa y;have fx:=Ag y;clear y cv;have h:=Hh h;go_wp2;refine Al (v:=E #[V4.zero.val,Z G 1]) (by simp[results,results281,go_sem,z,V4.zero]) rfl ⟨by rw[p.out],?_⟩;refine C6 ?_ (by simp;omega) _;refine C6 ?_ (by simp;omega) _;refine C6 ?_ (by simp;omega) _;refine C6 ?_ (by simp;omega) _;exact l
end
namespace Pl
open Go.RowKit
variable{b cap i:Nat}{w w':WD}
structure St where
 t:Int
 f:V4
deriving DecidableEq
def St.zero:St:=⟨0,V4.zero⟩
abbrev St.val (s:St):VL:=.agg #[Z G s.t,Z G s.f.a,Z G s.f.b,Z G s.f.c,Z G s.f.d]
def St.cells (s:St):List VL:=[Z G s.t,Z G s.f.a,Z G s.f.b,Z G s.f.c,Z G s.f.d]
def Bp (l:List St):List VL:=l.flatMap St.cells
def O5 (l:List St):(Bp l).length=l.length*5:=by
 induction l with
 | nil=>rfl
 | cons s l ih=>simp only[Bp,Ub,Cn]at *;rw[ih];simp[St.cells];omega
def Acf (l m:List St):Bp (l++m)=Bp l++Bp m:=by simp[Bp]
def nth (l:List St) (i:Nat):St:=l.getD i St.zero
def Atn (l:List St) (i j:Nat) (a:i<l.length) (b:j<5):(Bp l)[i*5+j]?=(nth l i).cells[j]?:=by
 induction l generalizing i with
 | nil=>simp at a
 | cons s l ih=>
  cases i with
  | zero=>
   simp only[nth,Bp,Ub,Nat.zero_mul,Db,List.getD_cons_zero];rw[Fb (by simp[St.cells];omega)]
  | succ i=>
   have e:(i+1)*5+j=s.cells.length+(i*5+j):=(by simp[St.cells];omega);simp only[nth,Bp,Ub,List.getD_cons_succ];rw[e,Ia ao9,Nat.add_sub_cancel_left];exact ih i (by simpa using a)
structure Row (w:WD) (sb cap:Nat) (l:List St):Prop where
 le:l.length<=cap
 max:cap<=9223372036854775807
 au:∃cur:Array VL,w.heap[sb]?=O (J cur 398 (0,0))/\cur.size=cap*5/\cur.toList.take (l.length*5)=Bp l
def Row.cell   {l:List St} (h:Row w b cap l) {i j:Nat} (d:i<l.length) (e:j<5) :
  w.cell? ⟨b,i*5+j,I⟩=(nth l i).cells[j]?:=by
 obtain⟨a,c,g,f⟩:=h.au;rw[Aa c]
 have:(Bp l)[i*5+j]?=a[i*5+j]?:=by rw[<-f,Mp,Ad ao9];simp
 rw[<-this];exact Atn l i j d e
def Row.cells  {e cap:Nat} {l:List St} (h:Row w e cap l)  (g:i<l.length) :
  w.cell? ⟨e,i*5,I⟩=O (Z G (nth l i).t)/\w.cell? ⟨e,i*5+1,I⟩=O (Z G (nth l i).f.a) /\
  w.cell? ⟨e,i*5+2,I⟩=O (Z G (nth l i).f.b)/\w.cell? ⟨e,i*5+3,I⟩=O (Z G (nth l i).f.c) /\
  w.cell? ⟨e,i*5+4,I⟩=O (Z G (nth l i).f.d):=
 ⟨h.cell g (j:=0) ao9,h.cell g (j:=1) ao9,h.cell g (j:=2) ao9,h.cell g (j:=3) ao9,h.cell g (j:=4) ao9⟩
def Row.of_block  {c cap:Nat} {l:List St} (h:Row w c cap l) (f:w'.heap[c]?=w.heap[c]?):Row w' c cap l:=by
 obtain⟨a,b,d,h1,e⟩:=h;exact⟨a,b,d,f.trans h1,e⟩
def Row.lt  {a cap:Nat} {l:List St} (h:Row w a cap l):a<w.heap.size:=by
 obtain⟨_,_,b,h1,c⟩:=h;exact Ab h1
def Row.below {B:Nat}   {l:List St} (h:Row w b cap l) (c:BW B w w') (a:b<B):Row w' b cap l:=h.of_block (c.block _ a)
def Aib (s:St) (t:Int) (w:WD) (h1:-1099511627776<=s.t) (a:s.t<=1099511627776) (b:-1099511627776<=t) (c:t<=1099511627776) :
  CS prog 332 #[s.val,Z G t] w λe w'=>e=Y (Z G (s.t-t))/\BW w.heap.size w w':=by
 go_enter func332,ntmps332;go_wp2;go_ret;exact⟨rfl,Bn⟩
def Ato (n:Nat) (T:Nat->Int) (t:Int) (w:WD) (e:Ending) (w':WD):Prop:=
 ∃r:Nat,e=Y (E #[Z G r,Q (decide (r<n/\T r=t))])/\r<=n/\(∀k,k<r->T k<t)/\(∀k,r<=k->k<n->t<=T k)/\BW w.heap.size w w'
def Nb (l:List St):Prop:=∀i j,i<j->j<l.length->(nth l i).t<(nth l j).t
def Atp (l:List St) (sb cap:Nat) (t:Int) (w:WD) (n:Row w sb cap l) (p:∀i,i<l.length->0<=(nth l i).t/\(nth l i).t<=1099511627776) (c:Nb l)
  (h3:0<=t) (u:t<=1099511627776) (z:l.length<=1099511627776) :
  CS prog 331 #[V (O ⟨sb,0,I⟩) l.length cap,Z G t,.func (.func 332) #[] #[]] w (Ato l.length (λi=>(nth l i).t) t w):=by
 have n:=Hh n;have p:=Hh p;have c:=Hh c;go_enter func331,ntmps331;go_wp2;go_loopw [9,10,11] (λi j _ wr=>∃a b:Nat,a<=b/\b<=l.length/\i=Z G a/\j=Z G b/\BW w.heap.size w wr/\Hid (∀k,k<a->(nth l k).t<t)/\Hid (∀k,b<=k->k<l.length->t<=(nth l k).t)) (λi j _ _=>(intOf j).toNat-(intOf i).toNat)
 case atStart=>exact⟨0,l.length,ao9,ao9,rfl,rfl,Below.refl _ _,by intro k r;omega,by intro k r;omega⟩
 case round=>
  obtain⟨a,b,al,y,rfl,rfl,f,q,m⟩:=hrel;by_cases an:a<b
  .have ac:(a:Int)<b:=ao9;have x:(a:Int)+b<=2199023255552:=ao9;have v:(0:Int)<=(a:Int)+b:=ao9;have ao:((a:Int)+b) / 2<l.length:=ao9;obtain⟨c0,c1,c2,c3,c4⟩:=(n.out.of_block (f.block _ n.out.lt)).cells (i:=(a+b) / 2) ao9;obtain⟨l1,l2⟩:=p.out ((a+b) / 2) ao9;go_wp2_with fail;refine(Aib (nth l ((a+b) / 2)) t wr ao9 ao9 ao9 u).mono ?_;rintro e w2 ⟨rfl,d⟩;have g:=Hh (f.trans (d.mono f.size));have d:=Hh d;clear f;by_cases ad:(nth l ((a+b) / 2)).t-t<0
   .go_wp2;go_roundw
    case rel=>
     refine⟨(a+b) / 2+1,b,ao9,ao9,by go_num,rfl,g.out,?_,m⟩;intro k r;by_cases h:k=(a+b) / 2
     .subst h;omega
     .have:=c.out k ((a+b) / 2) ao9 ao9;omega
    case measure=>simp[intOf];omega
   .go_wp2;go_roundw
    case rel=>
     refine⟨a,(a+b) / 2,ao9,ao9,rfl,by go_num,g.out,q,?_⟩;intro k r am;by_cases h:k=(a+b) / 2
     .subst h;omega
     .have:=c.out ((a+b) / 2) k ao9 ao9;omega
    case measure=>simp[intOf];omega
  .have o:a=b:=ao9;subst o;by_cases hn:a<l.length
   .have s:(a:Int)<l.length:=ao9;obtain⟨c0,c1,c2,c3,c4⟩:=(n.out.of_block (f.block _ n.out.lt)).cells (i:=a) ao9;obtain⟨l1,l2⟩:=p.out a ao9;go_wp2_with fail;refine(Aib (nth l a) t wr ao9 ao9 ao9 u).mono ?_;rintro e w2 ⟨rfl,d⟩;have g:=Hh (f.trans (d.mono f.size));have d:=Hh d;clear f;go_wp2;go_ret2;refine⟨a,?_,y,q,m,g.out⟩;have e:((nth l a).t-t == 0)=decide (a<l.length/\(nth l a).t=t):=(by rw[Oq];simp[hn];omega);rw[<-e];rfl
   .have s:¬(a:Int)<l.length:=ao9;go_wp2;go_ret2;refine⟨a,?_,y,q,m,f⟩;simp[hn]
def Lj (l:List St) (t:Int) (k:Nat):Prop:=k<l.length/\(nth l k).t<=t/\∀j,k<j->j<l.length->t<(nth l j).t
def Atq {l:List St} (h:Nb l) (h0:0<=(nth l 0).t):∀i,i<l.length->(i:Int)<=(nth l i).t:=by
 intro i
 induction i with
 | zero=>intro _;simpa using h0
 | succ i ih=>intro a;have:=h i (i+1) ao9 a;have:=ih ao9;omega
structure Cx (w:WD) (pb sb cap:Nat) (whole:V4) (l:List St):Prop where
 head:w.heap[pb]?=O (J #[Z G whole.a,Z G whole.b,Z G whole.c,Z G whole.d,V (O ⟨sb,0,I⟩) l.length cap] 363 (0,0))
 row:Row w sb cap l
 ne:pb≠sb
structure Ct (l:List St):Prop where
 pos:0<l.length
 zero:(nth l 0).t=0
 aw:Nb l
 last:∀i,i<l.length->(nth l i).t<1099511627776
def Ct.ge {l:List St} (h:Ct l) (i:Nat) (a:i<l.length):(i:Int)<=(nth l i).t:=Atq h.aw (by rw[h.zero];omega) i a
def Ct.len {l:List St} (h:Ct l):l.length<=1099511627776:=by
 have h1:=h.ge (l.length-1) (by have:=h.pos;omega);have a:=h.last (l.length-1) (by have:=h.pos;omega);have:=h.pos;omega
def Atr (l:List St) (t:Int) (w:WD) (e:Ending) (w':WD):Prop:=∃k:Nat,e=Y (Z G k)/\Lj l t k/\BW w.heap.size w w'
def Yx (q s cap:Nat) (whole:V4) (l:List St) (t:Int) (w:WD) (m:Cx w q s cap whole l) (c:Ct l) (v:0<=t) (x:t<=1099511627776) :
  CS prog 313 #[K (O ⟨q,0,I⟩),Z G t] w (Atr l t w):=by
 have u:=Aa m.head 4;simp at u;have k:=c.len;have m:=Hh m;have c:=Hh c;go_enter func313,ntmps313;go_wp2_with fail;refine(Atp l s cap t w m.out.row (λi o=>⟨by have:=c.out.ge i o;omega,by have:=c.out.last i o;omega⟩) c.out.aw v x k).mono ?_;rintro e w2 ⟨r,rfl,hr,h1,f,d⟩;have h1:=Hh h1;have f:=Hh f;have d:=Hh d;by_cases a:r<l.length/\(nth l r).t=t
 .have g:decide (r<l.length/\(nth l r).t=t)=true:=by simpa using a
  simp only[g];have a:=Hh a;clear g;go_wp2;go_ret;refine⟨r,rfl,⟨a.out.1,by rw[a.out.2];omega,?_⟩,d.out⟩;intro j p b;have:=c.out.aw r j p b;rw[a.out.2]at this;exact this
 .have g:decide (r<l.length/\(nth l r).t=t)=false:=by simpa using a
  simp only[g]
  have h0:0<r:=by
   apply Gv;intro hc
   have:r=0:=ao9
   subst this;have z:t<=(nth l 0).t:=f.out 0 Ln c.out.pos;have hz:=c.out.zero;have y:(nth l 0).t=t:=ao9;exact a ⟨c.out.pos,y⟩
  have a:=Hh a;clear g;go_wp2;go_ret;refine⟨r-1,?_,⟨ao9,?_,?_⟩,d.out⟩
  .have e:((r:Int)-1)=((r-1:Nat):Int):=ao9;rw[<-e];rfl
  .have:=h1.out (r-1) ao9;omega
  .intro j p b;have hq:=f.out j ao9 b;by_cases n:j=r
   .subst n;have:(nth l j).t≠t:=λh=>a.out ⟨b,h⟩;omega
   .have:=f.out r Ln ao9;have:=c.out.aw r j ao9 b;omega
def Gr (p:V4):List St->List St
 | []=>[]
 | s :: r=>if s.f=p then Gr s.f r else s :: Gr s.f r
def Cg:List St->List St
 | []=>[]
 | s :: r=>s :: Gr s.f r
def P8 (p:V4):List St->V4
 | []=>p
 | s :: r=>P8 s.f r
def Atx (p:V4) (l:List St) (x:St):Gr p (l++[x])=Gr p l++(if x.f=P8 p l then[]else[x]):=by
 induction l generalizing p with
 | nil=>by_cases h:x.f=p<;>simp[Gr,P8,h]
 | cons s r ih=>
  simp only[Pt,Gr,P8];rw[ih]
  by_cases h:s.f=p<;>by_cases a:x.f=P8 s.f r<;>simp[h,a]
def Aty (l:List St) (x:St) (h:0<l.length):Cg (l++[x])=Cg l++(if x.f=(nth l (l.length-1)).f then[]else[x]):=by
 have a:∀(l:List St) (p:V4),P8 p l=if 0<l.length then(nth l (l.length-1)).f else p:=by
  intro l
  induction l with
  | nil=>intro p;simp[P8]
  | cons s r ih=>
   intro p;simp only[P8];rw[ih]
   cases r with
   | nil=>simp[nth]
   | cons s2 r2=>simp[nth]
 cases l with
 | nil=>simp at h
 | cons s r=>
  simp only[Pt,Cg];rw[Atx,a]
  cases r with
  | nil=>simp[nth]
  | cons s2 r2=>simp[nth]
def Atz (l m:List St) (i:Nat) (h:i<l.length):nth (l++m) i=nth l i:=by
 simp[nth,Fb h]
def Yz (l:List St) (n i:Nat) (h:i<n):nth (l.take n) i=nth l i:=by
 simp[nth,h]
def Ach (l:List St) (n i:Nat) (s:St) (h:n<l.length):nth (l.set n s) i=if i=n then s else nth l i:=by
 simp only[nth,Wb,D3];by_cases e:n=i
 .subst e;simp[h]
 .simp [e,Qy e]
def U4 (l:List St) (n:Nat) (h:n<l.length):l.take (n+1)=l.take n++[nth l n]:=by
 rw[List.take_succ_eq_append_getElem h];simp[nth,h]
def Aci (l:List St) (n:Nat) (h0:0<n) (h:n<l.length):Cg (l.take (n+1))=Cg (l.take n)++(if (nth l n).f=(nth l (n-1)).f then[]else[nth l n]):=by
 rw[U4 l n h,Aty _ _ (by rw[Fl];omega)];congr 2;rw[Fl,Mu ao9,Yz l n (n-1) ao9]
def Acj:∀(l:List St) (n:Nat),n<=l.length->(∀i,0<i->i<n->(nth l i).f≠(nth l (i-1)).f)->Cg (l.take n)=l.take n:=by
 intro l n a h
 induction n with
 | zero=>simp[Cg]
 | succ n ih=>
  cases n with
  | zero=>
   cases l with
   | nil=>simp at a
   | cons s r=>simp[Cg,Gr]
  | succ n=>
   rw[Aci l (n+1) ao9 ao9,ih ao9 (λi h1 b=>h i h1 ao9),Ac (h (n+1) ao9 ao9),<-U4 l (n+1) ao9]
def Yt (l:List St) (i:Nat) (s:St) (c:i<l.length):Bp (l.set i s)=(Bp l).take (i*5)++s.cells++(Bp l).drop (i*5+5):=by
 induction l generalizing i with
 | nil=>simp at c
 | cons a l ih=>
  cases i with
  | zero=>simp[Bp,St.cells]
  | succ i=>
   have d:(i+1)*5=5+i*5:=ao9;have e:5+i*5+5=5+(i*5+5):=ao9;have b:=ih i (by simpa using c);simp only[Bp]at b ⊢;simp only[Ew,Ub,b];rw[d,e];show _=List.take (a.cells.length+i*5) _++_++List.drop (a.cells.length+(i*5+5)) _;rw[List.take_length_add_append,List.drop_length_add_append];simp
def At0 (f:Array VL) (o:Nat) (a b c d e:VL) (h:o+5<=f.size) :
  (((((f.setIfInBounds o a).setIfInBounds (o+1) b).setIfInBounds (o+2) c).setIfInBounds (o+3) d).setIfInBounds (o+4) e).toList=f.toList.take o++[a,b,c,d,e]++f.toList.drop (o+5):=by
 apply Eh;intro i;simp only[Array.toList_setIfInBounds,D3,Dy,Array.length_toList];rw[K6];by_cases h1:i<o
 .rw [Fb (by simp;omega)];simp[h1,show o≠i by omega,show o+1≠i by omega,show o+2≠i by omega,show o+3≠i by omega,show o+4≠i by omega]
 .rw [Ia (by simp;omega)];have g:(f.toList.take o).length=o:=by simp;omega
  rw[g];by_cases j:i<o+5
  .rw [Fb (by simp;omega)]
   have:i=o\/i=o+1\/i=o+2\/i=o+3\/i=o+4:=ao9
   rcases this with rfl|rfl|rfl|rfl|rfl
   .simp;omega
   .simp [show o+1-o=1 by omega];omega
   .simp [show o+2-o=2 by omega];omega
   .simp [show o+3-o=3 by omega];omega
   .simp [show o+4-o=4 by omega];omega
  .rw [Ia (by simp;omega)];simp[show o≠i by omega,show o+1≠i by omega,show o+2≠i by omega,show o+3≠i by omega,show o+4≠i by omega];congr 1;omega
def World.ny (w:WD) (sb i:Nat) (s:St):WD:=
 ((((w.setCell ⟨sb,i*5,I⟩ (Z G s.t)).setCell ⟨sb,i*5+1,I⟩ (Z G s.f.a)).setCell ⟨sb,i*5+2,I⟩ (Z G s.f.b)).setCell ⟨sb,i*5+3,I⟩ (Z G s.f.c)).setCell ⟨sb,i*5+4,I⟩ (Z G s.f.d)
def Row.ny   {l:List St} (h:Row w b cap l) (i:Nat) (s:St) (e:i<l.length):Row (World.ny w b i s) b cap (l.set i s):=by
 obtain⟨h1,c,a,d,f,g⟩:=h;refine⟨by simpa using h1,c,_,Ap (Ap (Ap (Ap (Ap d _ _) _ _) _ _) _ _) _ _,by simpa using f,?_⟩;rw[At0 a (i*5) _ _ _ _ _ ao9,Yt l i s e,<-g];simp only[Dy,St.cells];have m:l.length*5=i*5+(5+(l.length*5-(i*5+5))):=ao9
 rw[K6,K6,List.take_append,List.take_append];have j:(a.toList.take (i*5)).length=i*5:=by simp;omega
 rw[j];have k:l.length*5-i*5-5=l.length*5-(i*5+5):=ao9
 simp only[Jl,Qw,Db,Nat.reduceAdd,k];rw[C4 (by simp;omega),C4 (l:=[_,_,_,_,_]) (by simp;omega),Wz,Mu ao9,List.drop_take]
def xz (d:Nat) (a b:Int) (w:WD):(Op.equalIn (d+1) 3 (Z G a) (Z G b)).run prog w=.ok (a == b) w:=by
 simp[Op.equalIn,Nw Ed]
def M0:(prog.info? 3).map (λi=>(i.zero,i.size,i.bytes))=O (O (Z G 0),1,8):=by kernel_rfl
def Abv:prog.cellsOf 3=1:=by kernel_rfl
def At1 (f:Nat) (u v:V4) (w:WD):(Op.equalIn (f+2) 30 u.val v.val).run prog w=.ok (decide (u=v)) w:=by
 obtain⟨q,e,o,g,p⟩:=Cf M0;show(Op.equalIn ((f+1)+1) 30 u.val v.val).run prog w=_;rw[run_equalIn_array w (f+1) _ _ Aay e,Abv];show(Op.eqItems (f+1) 3 1 _ _ [0,1,2,3]).run prog w=_;obtain⟨a,b,c,d⟩:=u;obtain⟨h,i,j,k⟩:=v
 by_cases h1:a=h<;>by_cases l:b=i<;>by_cases m:c=j<;>by_cases n:d=k
 all_goals
  simp[Op.eqItems,xz,part,sizeOf,typeInfo,e,g,h1,l,m,n]
def At2 (u v:V4) (w:WD):(Op.equalIn 10000 30 u.val v.val).run prog w=.ok (decide (u=v)) w:=At1 9998 u v w
end Pl
section
open Go.RowKit Go.Maps Go.Lib
variable{k r:Int}{M i n:Nat}{α:Type}
def Qm (n i:Nat) (st:List Int×List (List Int)) (k:Int):List Int×List (List Int):=
 if 0<=k/\k<(n:Int)then(st.1.modify i (·+1),st.2.modify k.toNat (·++[(i:Int)]))else st
def Lu (n i:Nat) (st:List Int×List (List Int)) (l:List Int):Nat->List Int×List (List Int)
 | 0=>st
 | j+1=>Qm n i (Lu n i st l j) ((l[j]?).getD 0)
def Ke (after:List (List Int)):Nat->List Int×List (List Int)
 | 0=>(List.replicate after.length 0,List.replicate after.length [])
 | i+1=>Lu after.length i (Ke after i) ((after[i]?).getD []) ((after[i]?).getD []).length
def Jc (left:List Int):Nat->List Int
 | 0=>[]
 | i+1=>if (left[i]?).getD 0=0 then Jc left i++[(i:Int)]else Jc left i
def ij (k:Int) (l:List Int):List Int:=l.take (l.countP (·<k))++k :: l.drop (l.countP (·<k))
def Rs (st:List Int×List Int) (k:Int):List Int×List Int:=
 (st.1.modify k.toNat (· - 1),if ((st.1.modify k.toNat (· - 1))[k.toNat]?).getD 0=0 then ij k st.2 else st.2)
def Ef (st:List Int×List Int) (l:List Int):Nat->List Int×List Int
 | 0=>st
 | j+1=>Rs (Ef st l j) ((l[j]?).getD 0)
structure sj where
 left:List Int
 free:List Int
 out:List Int
def Tj (back:List (List Int)) (s:sj):sj:=match s.free with
 | []=>s
 | i :: r=>let b:=(back[i.toNat]?).getD [];let st:=Ef (s.left,r) b b.length;⟨st.1,st.2,s.out++[i]⟩
def Io (back:List (List Int)) (s:sj):Nat->sj
 | 0=>s
 | n+1=>Tj back (Io back s n)
def Ak2 (after:List (List Int)):sj:=
 Io (Ke after after.length).2 ⟨(Ke after after.length).1,Jc (Ke after after.length).1 after.length,[]⟩ (2*after.length)
def Kf (after:List (List Int)):Bool:=!decide ((Ak2 after).out.length<after.length)
def Ip (lo hi:Int) (l:List Int):Prop:=∀x,x∈l->lo<=x/\x<=hi
def Ip.mono {d c b a:Int} {l:List Int} (h:Ip d c l) (h1:b<=d) (f:c<=a):Ip b a l:=λx e=>by have:=h x e;omega
def Ip.at {b a:Int} {l:List Int} (h:Ip b a l)  {x:Int} (c:l[i]?=O x):b<=x/\x<=a:=h x (Ai c)
def Pf  {l:List α}  {f:α->α} {x:α} (h:x∈l.modify i f):x∈l\/∃y,y∈l/\x=f y:=by
 obtain⟨j,a⟩:=B4 h;rw[Dj]at a
 cases hy:l[j]? with
 | none=>rw[hy]at a;cases a
 | some y=>
  rw[hy]at a;have b:=Ai hy;split at a
  .simp at a;exact .inr ⟨y,b,a.symm⟩
  .simp at a;exact .inl (a▸b)
def Rt  (l:List α) (i:Nat) (f:α->α) {x:α} (a:l[i]?=O x):l.modify i f=l.set i (f x):=by
 apply Eh;intro j;rw[Dj,D3];by_cases h:i=j
 .subst h;have:=(An.1 a).1;rw[a,Ad rfl,Ad this];simp
 .simp [h]
def Iq  {l:List α}  {x d:α} (a:l[i]?=O x):(l[i]?).getD d=x:=by rw[a];rfl
structure Tok (n M:Nat) (st:List Int×List (List Int)):Prop where
 left:Ip 0 M st.1
 back:∀l,l∈st.2->l.length<=M/\Ip 0 ((n:Int)-1) l
def Tok.mono {n M a:Nat} {st:List Int×List (List Int)} (h:Tok n M st) (c:M<=a):Tok n a st:=⟨h.left.mono (Dc _) ao9,λl b=>⟨A8 (h.back l b).1 c,(h.back l b).2⟩⟩
def Tok.step  {st:List Int×List (List Int)} (h:Tok n M st) (d:i<n) (k:Int):Tok n (M+1) (Qm n i st k):=by
 unfold Qm;split
 .refine ⟨λx a=>?_,λl b=>?_⟩
  .rcases Pf a with c|⟨y,c,rfl⟩
   .have:=h.left x c;omega
   .have:=h.left y c;omega
  .rcases Pf b with c|⟨y,c,rfl⟩
   .exact ⟨by have:=(h.back l c).1;omega,(h.back l c).2⟩
   .refine ⟨by have:=(h.back y c).1;simp;omega,λx a=>?_⟩;rcases Dl.1 a with a|a
    .exact (h.back y c).2 x a
    .simp at a;omega
 .exact h.mono ao9
def Tok.row  {st:List Int×List (List Int)} (h:Tok n M st) (a:i<n) (l:List Int) (j:Nat):Tok n (M+j) (Lu n i st l j):=by
 induction j with
 | zero=>exact h
 | succ j ih=>exact ih.step a _
def Tok.start (n:Nat):Tok n 0 (List.replicate n 0,List.replicate n []):=
 ⟨λx a=>by simp[Wp]at a;omega,λl b=>by simp[Wp]at b;obtain⟨_,rfl⟩:=b;exact⟨as9,λx a=>by cases a⟩⟩
def Tok.to {after:List (List Int)} {b:Nat} (a:∀l,l∈after->l.length<=b):∀ {i:Nat},i<=after.length->Tok after.length (b*i) (Ke after i)
 | 0,_=>Tok.start _
 | i+1,hi=>by
  have h:=(Tok.to a (i:=i) ao9).row (i:=i) ao9 ((after[i]?).getD []) ((after[i]?).getD []).length;refine h.mono ?_;have c:after[i]?=O (after[i]'(by omega)):=A3 _;have:=a _ (Ai c);rw[Iq c];rw[Nat.mul_succ];omega
structure mu (n:Nat) (l:List Int):Prop where
 aw:l.Pairwise (·<=·)
 vg:Ip 0 ((n:Int)-1) l
def mu.start (left:List Int):∀i:Nat,mu i (Jc left i)/\(Jc left i).length<=i
 | 0=>⟨⟨List.Pairwise.nil,λx c=>by cases c⟩,Nat.le_refl _⟩
 | i+1=>by
  obtain⟨h,f⟩:=mu.start left i;unfold Jc;split
  .refine ⟨⟨?_,λx c=>?_⟩,by simp;omega⟩
   .rw [T7];exact⟨h.aw,List.pairwise_singleton _ _,λa d b e=>by simp at e;have:=h.vg a d;omega⟩
   .rcases Dl.1 c with c|c
    .have:=h.vg x c;omega
    .simp at c;omega
  .exact ⟨⟨h.aw,λx c=>by have:=h.vg x c;omega⟩,ao9⟩
def mu.tail  {x:Int} {l:List Int} (h:mu n (x :: l)):mu n l:=⟨(Pr.1 h.aw).2,λy a=>h.vg y (B2 _ a)⟩
def Ak3 {k:Int}:∀ {l:List Int},l.Pairwise (·<=·)->(∀x,x∈l.take (l.countP (·<k))->x<k)/\∀x,x∈l.drop (l.countP (·<k))->k<=x
 | [],_=>⟨λx c=>by simp at c,λx c=>by simp at c⟩
 | y :: l,h=>by
  obtain⟨h1,e⟩:=Pr.1 h;obtain⟨a,b⟩:=Ak3 (k:=k) e;by_cases d:y<k
  .rw [List.countP_cons_of_pos (by simpa using d)];refine⟨λx c=>?_,λx c=>b x (by simpa using c)⟩;simp at c;rcases c with rfl|c
   .exact d
   .exact a x c
  .have h0:(y :: l).countP (·<k)=0:=by
    rw[List.countP_eq_zero];intro x c;rcases Fm.1 c with rfl|c
    .simpa using d
    .have:=h1 x c;simp;omega
   rw[h0];refine⟨λx c=>by simp at c,λx c=>?_⟩;simp at c;rcases c with rfl|c
   .omega
   .have:=h1 x c;omega
def Ax0 (k:Int) (l:List Int):(ij k l).length=l.length+1:=by
 unfold ij;have:l.countP (·<k)<=l.length:=Wj;simp;omega
def mu.ins   {l:List Int} (h:mu n l) (h0:0<=k) (e:k<n):mu n (ij k l):=by
 obtain⟨a,b⟩:=Ak3 (k:=k) h.aw;unfold ij;refine⟨?_,λx c=>?_⟩
 .rw [T7,Pr];refine⟨h.aw.sublist (List.take_sublist _ _),⟨b,h.aw.sublist (List.drop_sublist _ _)⟩,λx c y d=>?_⟩;have:=a x c;rcases Fm.1 d with rfl|d
  .omega
  .have:=b y d;omega
 .rcases Dl.1 c with c|c
  .exact h.vg x (T9 c)
  .rcases Fm.1 c with rfl|c
   .omega
   .exact h.vg x (Wl c)
def Kz (st:List Int×List Int):Nat:=st.1.countP (λx=>decide (0<x))+st.2.length
def Ak4 {p:Int->Bool}:∀ {l:List Int} {i:Nat} {x y:Int},l[i]?=O x->(l.set i y).countP p+(if p x=true then 1 else 0)=l.countP p+(if p y=true then 1 else 0)
 | [],i,x,y,h=>by simp at h
 | z :: l,0,x,y,h=>by
  simp at h;subst h;simp only[Fc,Wt];omega
 | z :: l,i+1,x,y,h=>by
  have:=Ak4 (p:=p) (l:=l) (i:=i) (x:=x) (y:=y) (by simpa using h);simp only[Ew,Wt];omega
def Ax1 {st:List Int×List Int} {k x:Int} (b:st.1[k.toNat]?=O x):Kz (Rs st k)<=Kz st:=by
 unfold Rs;rw[Rt _ _ _ b];have d:=(An.1 b).1;have a:=Ak4 (p:=λx=>decide (0<x)) (y:=x-1) b;have c:((st.1.set k.toNat (x-1))[k.toNat]?).getD 0=x-1:=by simp[d]
 rw[c];unfold Kz;simp only[F2]at a;split
 .rename_i e;rw[Ax0];simp only;rw[Ad ao9,Ac ao9]at a;omega
 .simp only
  split at a<;>split at a<;>omega
def Ax2 {st:List Int×List Int} {k x:Int} (a:st.1[k.toNat]?=O x):Rs st k=(st.1.set k.toNat (x-1),if x-1=0 then ij k st.2 else st.2):=by
 have c:=(An.1 a).1;unfold Rs;rw[Rt _ _ _ a];have b:((st.1.set k.toNat (x-1))[k.toNat]?).getD 0=x-1:=by simp[c]
 rw[b]
def Ip.set {e d b a:Int} {l:List Int}  {y:Int} (h:Ip e d l) (k:b<=e) (j:d<=a) (h1:b<=y) (f:y<=a):Ip b a (l.set i y):=λx g=>by
 rcases Wd g with c|rfl
 .have:=h x c;omega
 .exact ⟨h1,f⟩
def Ak5 {a:List (List Int)} {s:sj} {p:Nat} (h:(Io a s p).free=[]):∀n,p<=n->Io a s n=Io a s p
 | 0,hn=>by
  obtain rfl:p=0:=ao9
  rfl
 | n+1,hn=>by
  by_cases e:p=n+1
  .rw [e]
  .have b:=Ak5 h n ao9;show Tj a (Io a s n)=_;rw[b];unfold Tj;rw[h]
structure Gc (l:Lf) (r:Int):Prop where
 right:Kp l=true
 wait:dz l.st=true->l.bh+l.left=r
 live:cu l.st=true->l.bh+l.left=r+1
 ee:l.bh+l.left<=r+1
def Pg {st a left r:Int} {c b:Bool} (h:(1<=st/\st<=8/\0<=a/\0<=left/\a<=Ei st/\left<=Ei st-a)/\¬(a=0/\(cu st=true\/(ia st=true/\st≠8)))/\(st=4\/(c=false/\b=false)))
  (h1:dz st=true->a+left=r) (d:cu st=true->a+left=r+1) (e:a+left<=r+1):Gc ⟨st,a,left,c,b⟩ r:=⟨(S1 _ _ _ _ _).2 h,h1,d,e⟩
def Vq:Ei 1=5:=rfl
def Adn:Ei 2=5:=rfl
def Ayi:Ei 3=6:=rfl
def Ayj:Ei 4=6:=rfl
def Ayk:Ei 8=6:=rfl
def Ayl  {h:Bool} (h1:0<=r) (a:r<=5):Gc (Lb r h).1 r/\dz (Lb r h).1.st=true:=by
 unfold Lb;rw[Ac ao9];cases h
 .exact ⟨Pg ⟨by simp only[Bool.false_eq_true,if_false];rw[Vq];omega,by simp[cu,ia],.inr ⟨rfl,rfl⟩⟩ (λ_=>by omega) (λc=>by simp[cu]at c) ao9,by simp[dz]⟩
 .exact ⟨Pg ⟨by simp only[L3];rw[Adn];omega,by simp[cu,ia],.inr ⟨rfl,rfl⟩⟩ (λ_=>by omega) (λc=>by simp[cu]at c) ao9,by simp[dz]⟩
def Tm {st d left r:Int} {f e:Bool} (h:Gc ⟨st,d,left,f,e⟩ r):(1<=st/\st<=8/\0<=d/\0<=left/\d<=Ei st/\left<=Ei st-d)/\¬(d=0/\(cu st=true\/(ia st=true/\st≠8)))/\(st=4\/(f=false/\e=false))/\(dz st=true->d+left=r)/\(cu st=true->d+left=r+1)/\d+left<=r+1:=by
 obtain⟨a,b,c⟩:=(S1 _ _ _ _ _).1 h.right;exact⟨a,b,c,h.wait,h.live,h.ee⟩
def Ak9 {l:Lf} {r s:Int} (h:Gc l r) (m:dz l.st=true) (p:s=6\/s=7):Gc (Ay l s).1 r/\(Ay l s).1.st=8:=by
 rw[Rb h.right m];obtain⟨st,k,left,i,g⟩:=l
 have e:Dz ⟨st,k,left,i,g⟩ s=(⟨8,k,left,i,g⟩,true):=by
  unfold Dz
  rcases p with rfl|rfl<;>simp
 obtain⟨a,b,c,d,_,f⟩:=Tm h;rw[e];simp only[L3];have j:st=1\/st=2:=N4.1 m
 have n:i=false/\g=false:=by
  rcases c with c|c
  .omega
  .exact c
 have o:Ei st=5:=by rcases j with rfl|rfl<;>rfl
 rw[o]at a;exact⟨Pg ⟨by rw[Ayk];omega,by simp[cu,ia],.inr n⟩ (λc=>by simp[dz]at c) (λc=>by simp[cu]at c) f,by first|rfl|trivial⟩
def Aym {l:Lf}  (h:Gc l r) (j:l.st=1):Gc (Ay l 1).1 r/\(Ay l 1).1.st=2:=by
 rw[Rb h.right (N4.2 (.inl j))];obtain⟨st,k,left,i,g⟩:=l;have j:st=1:=j;subst j;have e:Dz ⟨1,k,left,i,g⟩ 1=(⟨2,k,left,i,g⟩,true):=by simp[Dz]
 obtain⟨a,b,c,d,_,f⟩:=Tm h;rw[e];simp only[L3]
 have m:i=false/\g=false:=by
  rcases c with c|c
  .omega
  .exact c
 rw[Vq]at a;exact⟨Pg ⟨by rw[Adn];omega,by simp[cu,ia],.inr m⟩ (λ_=>d ad9) (λc=>by simp[cu]at c) f,by first|rfl|trivial⟩
def Ayn {l:Lf}  (h:Gc l r) (j:l.st=2):Gc (Ay l 2).1 r/\(Ay l 2).1.st=1:=by
 rw[Rb h.right (N4.2 (.inr j))];obtain⟨st,k,left,i,g⟩:=l;have j:st=2:=j;subst j;have e:Dz ⟨2,k,left,i,g⟩ 2=(⟨1,k,left,i,g⟩,true):=by simp[Dz]
 obtain⟨a,b,c,d,_,f⟩:=Tm h;rw[e];simp only[L3]
 have m:i=false/\g=false:=by
  rcases c with c|c
  .omega
  .exact c
 rw[Adn]at a;exact⟨Pg ⟨by rw[Vq];omega,by simp[cu,ia],.inr m⟩ (λ_=>d ad9) (λc=>by simp[cu]at c) f,by first|rfl|trivial⟩
def Ayo {l:Lf}  (h:Gc l r) (j:l.st=1):Gc (Ay l 3).1 r/\(Ay l 3).1.st=3:=by
 rw[Rb h.right (N4.2 (.inl j))];obtain⟨st,k,left,i,g⟩:=l;have j:st=1:=j;subst j;have e:Dz ⟨1,k,left,i,g⟩ 3=(⟨3,k+1,left,i,g⟩,true):=by simp[Dz]
 obtain⟨a,b,c,d,_,f⟩:=Tm h;rw[e];simp only[L3]
 have m:i=false/\g=false:=by
  rcases c with c|c
  .omega
  .exact c
 have d:=d ad9;rw[Vq]at a;exact⟨Pg ⟨by rw[Ayi];omega,by simp[cu,ia];omega,.inr m⟩ (λc=>by simp[dz]at c) (λ_=>by omega) ao9,by first|rfl|trivial⟩
def Ado {l:Lf} {r s:Int} (h:Gc l r) (n:cu l.st=true) (m:s=4\/s=5\/(s=6/\l.stop=false)):Gc (Ay l s).1 r/\(Ay l s).1.st=4/\(Ay l s).2=0:=by
 have i:=I3.1 n;rw[S2 h.right (by rcases i with e|e<;>rw[e]<;>rfl) n];obtain⟨st,k,left,j,g⟩:=l;have i:st=3\/st=4:=i;have m:s=4\/s=5\/(s=6/\g=false):=m
 have e:Du ⟨st,k,left,j,g⟩ s=(⟨4,k,left,j || decide (s=4),g || decide (s=6)⟩,true):=by
  unfold Du
  rcases m with rfl|rfl|⟨rfl,rfl⟩<;>simp
 obtain⟨a,b,c,_,d,f⟩:=Tm h;have o:cu st=true:=n;have d:=d o
 have q:Ei st=6:=by rcases i with rfl|rfl<;>rfl
 have p:k≠0:=λe=>b ⟨e,.inl o⟩;rw[e];simp only[L3];rw[q]at a;exact⟨Pg ⟨by rw[Ayj];omega,λc=>p c.1,.inl rfl⟩ (λc=>by simp[dz]at c) (λ_=>d) f,by first|rfl|trivial,by first|rfl|trivial⟩
def Ala {l:Lf}  (h:Gc l r) (o:cu l.st=true):Gc (Ay l 8).1 r/\((Ay l 8).1.st=1\/(5<=(Ay l 8).1.st/\(Ay l 8).1.st<=8)):=by
 have i:=I3.1 o;rw[S2 h.right (by rcases i with e|e<;>rw[e]<;>rfl) o];obtain⟨st,n,left,m,k⟩:=l;have i:st=3\/st=4:=i;obtain⟨a,b,c,_,d,f⟩:=Tm h;have q:cu st=true:=o;have d:=d q
 have s:Ei st=6:=by rcases i with rfl|rfl<;>rfl
 have p:n≠0:=λe=>b ⟨e,.inl q⟩;rw[s]at a
 have g:∀(j:Int),5<=j->j<=8->Gc ⟨j,n,left,false,false⟩ r:=λj h1 t=>by
  have e:Ei j=6:=by unfold Ei;rw[Ac];intro c;rw[N4]at c;omega
  exact Pg ⟨by rw[e];omega,λc=>p c.1,.inr ⟨rfl,rfl⟩⟩ (λc=>by rw[N4]at c;omega) (λc=>by rw[I3]at c;omega) f
 rcases i with rfl|rfl
 .obtain ⟨rfl,rfl⟩:m=false/\k=false:=by
   rcases c with c|c
   .omega
   .exact c
  have e:Du ⟨3,n,left,false,false⟩ 8=(⟨5,n,left,false,false⟩,true):=by simp[Du]
  rw[e];exact⟨g 5 ao9 ao9,.inr ⟨by show(5:Int)<=5;omega,by show(5:Int)<=8;omega⟩⟩
 .have e:Du ⟨4,n,left,m,k⟩ 8=(Ow ⟨4,n,left,m,k⟩,true):=by simp[Du]
  rw[e];simp only[L3];unfold Ow;split
  .exact ⟨g 8 ao9 ao9,.inr ⟨by show(5:Int)<=8;omega,by show(8:Int)<=8;omega⟩⟩
  split
  .exact ⟨g 6 ao9 ao9,.inr ⟨by show(5:Int)<=6;omega,by show(6:Int)<=8;omega⟩⟩
  split
  .rename_i h1;have h1:0<left:=h1;refine⟨Pg ⟨?_,λc=>p c.1,.inr ⟨rfl,rfl⟩⟩ (λ_=>?_) (λc=>by simp[cu]at c) ?_,.inl rfl⟩
   .rw [Vq];simp only;omega
   .simp only;omega
   .simp only;omega
  .exact ⟨g 7 ao9 ao9,.inr ⟨by show(5:Int)<=7;omega,by show(7:Int)<=8;omega⟩⟩
def Ayp {l:Lf} {r s:Int} (h:Gc l r) (h0:(Ay l s).2=0) (j:s=6\/s=1\/s=2):Gc (Ay l s).1 r/\((cu l.st=true/\(Ay l s).1.st=4)\/(cu l.st=false/\dz l.st=true/\cu (Ay l s).1.st=false/\((Ay l s).1.st=1\/(Ay l s).1.st=2\/(Ay l s).1.st=8))):=by
 by_cases f:dz l.st=true
 .have c:=N4.1 f
  have g:cu l.st=false:=by rcases c with e|e<;>rw[e]<;>rfl
  rcases j with rfl|rfl|rfl
  .obtain ⟨a,b⟩:=Ak9 h f (.inl rfl);exact⟨a,.inr ⟨g,f,by rw[b];rfl,.inr (.inr b)⟩⟩
  .by_cases q:l.st=1
   .obtain ⟨a,b⟩:=Aym h q;exact⟨a,.inr ⟨g,f,by rw[b];rfl,.inr (.inl b)⟩⟩
   .rw [Rb h.right f]at h0;have e:(Dz l 1).2=false:=(by unfold Dz;simp[q]);rw[e]at h0;simp at h0
  .by_cases q:l.st=2
   .obtain ⟨a,b⟩:=Ayn h q;exact⟨a,.inr ⟨g,f,by rw[b];rfl,.inl b⟩⟩
   .rw [Rb h.right f]at h0;have e:(Dz l 2).2=false:=(by unfold Dz;simp[q]);rw[e]at h0;simp at h0
 .have d:dz l.st=false:=by simpa using f
  by_cases i:cu l.st=true
  .rcases j with rfl|rfl|rfl
   .cases c:l.stop with
    | true=>
     rw[S2 h.right d i]at h0;have e:(Du l 6).2=false:=(by unfold Du;simp[c]);rw[e]at h0;simp at h0
    | false=>
     obtain⟨a,b,_⟩:=Ado h i (.inr (.inr ⟨rfl,c⟩));exact⟨a,.inl ⟨i,b⟩⟩
   .rw [S2 h.right d i]at h0;have e:(Du l 1).2=false:=(by unfold Du;simp);rw[e]at h0;simp at h0
   .rw [S2 h.right d i]at h0;have e:(Du l 2).2=false:=(by unfold Du;simp);rw[e]at h0;simp at h0
  .rw [Aho h.right d (by simpa using i)]at h0;simp at h0
