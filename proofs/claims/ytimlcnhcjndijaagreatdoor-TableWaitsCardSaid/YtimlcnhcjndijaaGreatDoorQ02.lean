/- Parts Lf0, Num, De0, Or0, Lfa, Lfb, Lfc, Lfn, Lfx, PlSteps, PlCompp, PlEqv, De1, Gd0. Plain theorems: no condition. -/
import Derived.Test.YtimlcnhcjndijaaGreatDoorQ01
set_option linter.all false
set_option maxRecDepth 100000
set_option maxHeartbeats 6400000
namespace Go.Proofs.YtimlcnhcjndijaaGreatDoor
structure Lf where
 st:Int
 bm:Int
 left:Int
 wall:Bool
 stop:Bool
deriving DecidableEq
def Lf.zero:Lf:=⟨0,0,0,false,false⟩
def jk (s:Int):Bool:=decide (5<=s) && decide (s<=8)
def df (s:Int):Bool:=decide (s=3) || decide (s=4)
def dx (s:Int):Bool:=decide (s=1) || decide (s=2)
def Ep (s:Int):Int:=if dx s=true then 5 else 6
def Kz (l:Lf):Bool:=
 decide (1<=l.st) && decide (l.st<=8) && decide (0<=l.bm) && decide (0<=l.left) && decide (l.bm<=Ep l.st) && decide (l.left<=Ep l.st-l.bm)
  && !(decide (l.bm=0) && (df l.st || jk l.st && decide (l.st≠8))) && (decide (l.st=4) || !l.wall && !l.stop)
def J3 (ae:Int) (held:Bool):Lf×Int:=
 if ae<0\/5<ae then (Lf.zero,1) else (⟨if held=true then 2 else 1,0,ae,false,false⟩,0)
def Nw (l:Lf):Lf:=
 if l.stop=true then ⟨8,l.bm,l.left,false,false⟩ else if l.wall=true then ⟨6,l.bm,l.left,false,false⟩
 else if 0<l.left then ⟨1,l.bm,l.left-1,false,false⟩ else ⟨7,l.bm,l.left,false,false⟩
def Ef (l:Lf) (s:Int):Lf×Bool:=
 if l.st=1/\s=1 then (⟨2,l.bm,l.left,l.wall,l.stop⟩,true)
 else if l.st=2/\s=2 then (⟨1,l.bm,l.left,l.wall,l.stop⟩,true)
 else if l.st=1/\s=3 then (⟨3,l.bm+1,l.left,l.wall,l.stop⟩,true)
 else if s=6\/s=7 then (⟨8,l.bm,l.left,l.wall,l.stop⟩,true) else (l,false)
def Dc (l:Lf) (s:Int):Lf×Bool:=
 if s=8 then (if l.st=3 then (⟨5,l.bm,l.left,l.wall,l.stop⟩,true) else (Nw l,true))
 else if (s=6/\l.stop=true)\/(s≠6/\s≠4/\s≠5) then (l,false)
 else (⟨4,l.bm,l.left,l.wall || decide (s=4),l.stop || decide (s=6)⟩,true)
def Ay (l:Lf) (s:Int):Lf×Int:=
 if Kz l=false then (Lf.zero,1)
 else if dx l.st=true then (if (Ef l s).2=true then ((Ef l s).1,0) else (Lf.zero,100))
 else if df l.st=true then (if (Dc l s).2=true then ((Dc l s).1,0) else (Lf.zero,100))
 else (Lf.zero,100)
open Go.RowKit
def Rk (c:Int):Bool:=decide (48<=c) && decide (c<=57)
def Jd (s:ByteArray):Nat->Bool
 | 0=>true
 | k+1=>Jd s k && Rk (gh s k)
def J4 (s:ByteArray):Nat->Int
 | 0=>0
 | k+1=>10*J4 s k+(gh s k-48)
def Fh (s:ByteArray) (d:Nat):Int:=
 if s.size=0\/d<s.size\/(1<s.size/\gh s 0=48) then -1 else if Jd s s.size=true then J4 s s.size else -1
def Ajc {s:ByteArray} {k n:Nat} (h:Jd s n=true) (a:k<=n):Jd s k=true:=by
 induction n with
 | zero=>
  have:k=0:=by omega
  subst this;rfl
 | succ n ih=>
  simp only [Jd,Eo] at h;by_cases c:k=n+1
  .subst c;simp [Jd,h]
  .exact ih h.1 (by omega)
def Ajd {s:ByteArray} {k:Nat} (a:k<s.size) (h:Rk (gh s k)=false):¬ Jd s s.size=true:=by
 intro c;have:=Ajc c (show k+1<=s.size by omega);simp [Jd,h] at this
def Xv {c:Int}:Rk c=true↔48<=c/\c<=57:=by simp [Rk]
def Aje {s:ByteArray} {k:Nat} (h:Jd s k=true):0<=J4 s k/\J4 s k<10 ^ k:=by
 induction k with
 | zero=>simp [J4]
 | succ k ih=>
  simp only [Jd,Eo] at h;obtain ⟨h1,a⟩:=ih h.1;obtain ⟨b,c⟩:=Xv.1 h.2;rw [Int.pow_succ];simp only [J4];omega
def Ajf {s:ByteArray} {k:Nat} (h:Jd s k=true) (b:k<=13):0<=J4 s k/\J4 s k<10000000000000:=by
 obtain ⟨h1,a⟩:=Aje h;refine ⟨h1,Int.lt_of_lt_of_le a ?_⟩
 rcases (show k=0\/k=1\/k=2\/k=3\/k=4\/k=5\/k=6\/k=7\/k=8\/k=9\/k=10\/k=11\/k=12\/k=13 by omega) with rfl | rfl | rfl | rfl | rfl | rfl | rfl | rfl | rfl | rfl | rfl | rfl | rfl | rfl<;>decide
def Aba (s:ByteArray) (w:World) (l:s.size<=maxLen):Calls Tryz.prog 126 #[.string s] w fun e w'=>e=.returned (.int .i64 (Fh s 10))/\Below w.heap.size w w':=by
 have a:∀ (k:Nat),k<s.size->∀ w,(Instr.index 9 (.string s) (.int .i64 (k:Int))).run Tryz.prog w=.ok (.int .u8 (gh s k)) w:=fun k hk w=>Xu Gq s k k rfl hk w;by_cases h0:s.size=0
 .have k0:((s.size:Int) == 0)=true:=by rw [h0];rfl
  have b:Fh s 10=-1:=by unfold Fh;rw [Ad (.inl h0)]
  replace ⟨h0,b,l,a⟩:=H4 h0 b l a;go_enter Tryz.func126,Tryz.ntmps126;go_wp2;go_ret;exact ⟨by rw [b.out];rfl,Below.refl _ _⟩
 have k0:((s.size:Int) == 0)=false:=by simp only [Bg];omega
 by_cases h1:10<s.size
 .have u:decide ((10:Int)<s.size)=true:=Az (by omega);have b:Fh s 10=-1:=by unfold Fh;rw [Ad (.inr (.inl h1))]
  replace ⟨h0,b,l,a⟩:=H4 h0 b l a;go_enter Tryz.func126,Tryz.ntmps126;go_wp2;go_ret;exact ⟨by rw [b.out];rfl,Below.refl _ _⟩
 have u:decide ((10:Int)<s.size)=false:=Aw (by omega);have v:∀ w,(Instr.index 9 (.string s) (.int .i64 0)).run Tryz.prog w=.ok (.int .u8 (gh s 0)) w:=a 0 (by omega);obtain ⟨c0,d⟩:=Ex (gh s 0);rw [<- d] at v;by_cases t:1<s.size/\c0=48
 .have x:decide ((1:Int)<s.size)=true:=Az (by omega);have k3:(c0 == 48)=true:=by simp [t.2]
  have b:Fh s 10=-1:=by unfold Fh;rw [Ad (.inr (.inr (by rw [<- d];exact t)))]
  replace ⟨h0,h1,t,b,l,a,d⟩:=H7 h0 h1 t b l a d;go_enter Tryz.func126,Tryz.ntmps126;go_wp2;go_ret;exact ⟨by rw [b.out];rfl,Below.refl _ _⟩
 have ac:decide ((1:Int)<s.size)=false\/(decide ((1:Int)<s.size)=true/\(c0 == 48)=false):=by
  by_cases c:1<s.size
  .refine .inr ⟨Az (by omega),?_⟩;simp only [Bg];intro e;exact t ⟨c,e⟩
  .exact .inl (Aw (by omega))
 have g:¬ (s.size=0\/10<s.size\/(1<s.size/\gh s 0=48)):=by rw [<- d];omega
 have m:s.size<=13:=by omega
 have ao:s.size<=13:=by omega
 clear t h1 h0 l;replace ⟨a,g,m,d⟩:=H4 a g m d;rcases ac with x | ⟨x,k3⟩
 all_goals
  go_enter Tryz.func126,Tryz.ntmps126;go_wp2;go_loopw [3,4,25] (fun n _ i wr=>∃ k:Nat,i=.int .i64 k/\n=.int .i64 (J4 s k)/\k<=s.size/\Hid (Jd s k=true)/\Hid (Below w.heap.size w wr)) (fun _ _ i _=>s.size-(intOf i).toNat)
  case atStart=>exact ⟨0,rfl,rfl,Av _,rfl,Below.refl _ _⟩
  case round=>
   obtain ⟨k,rfl,rfl,hk,hy,hB⟩:=hrel;clear k0 u v
   try clear k3
   clear x;by_cases y:k<s.size
   .have ad:(k:Int)<s.size:=(by omega);have al:=a.out k y;obtain ⟨c,h⟩:=Ex (gh s k);rw [<- h] at al;by_cases j:Rk c=true
    .obtain ⟨q1,q2⟩:=Xv.1 j;have u:decide (c<48)=false:=Aw (by omega);have x:decide (57<c)=false:=Aw (by omega);have o:Jd s (k+1)=true:=(by simp only [Jd,hy.out,<- h,j,Bool.and_self]);obtain ⟨n,z⟩:=Ex (J4 s k);rw [<- z];have p:=Ajf hy.out (by have:=m.out;omega);rw [<- z] at p;have ap:IntKind.i64.wrap (n*10)=n*10:=Gt _ (by omega);have av:IntKind.u8.wrap (c-48)=c-48:=IntWalk.u8_in _ (by omega);have aA:IntKind.i64.wrap (c-48)=c-48:=Gt _ (by omega);have aB:IntKind.i64.wrap (n*10+(c-48))=n*10+(c-48):=Gt _ (by omega);have f:J4 s (k+1)=10*n+(c-48):=(by simp only [J4,<- z,<- h]);replace ⟨h,j,q1,q2,o,z,p,f⟩:=H8 h j q1 q2 o z p f;go_wp2;go_roundw
     case rel=>exact ⟨k+1,by go_num,by first | rfl | (rw [f.out];done) | (rw [f.out];go_num) | (rw [f.out];congr 1;omega) | (rw [f.out];congr 1),by omega,o.out,hB.out⟩
     case measure=>simp [intOf];omega
    .have r:Rk (gh s k)=false:=(by rw [<- h];simpa using j);have b:Fh s 10=-1:=(by unfold Fh;rw [Ac g.out,Ac (Ajd y r)]);have am:c<48\/57<c:=(by apply Il;intro q;exact j (Xv.2 (by omega)));replace ⟨h,j,r,b⟩:=H4 h j r b;rcases am with q | q
     .have u:=Az q;go_wp2;go_ret;exact ⟨by rw [b.out];rfl,hB.out⟩
     .have u:decide (c<48)=false:=Aw (by omega);have x:=Az q;go_wp2;go_ret;exact ⟨by rw [b.out];rfl,hB.out⟩
   .have ad:¬ (k:Int)<s.size:=(by omega);have an:k=s.size:=(by omega);subst an;have b:Fh s 10=J4 s s.size:=(by unfold Fh;rw [Ac g.out,Ad hy.out]);replace b:=Hh b;go_wp2;go_ret;exact ⟨by rw [b.out];rfl,hB.out⟩
end Go.Proofs.YtimlcnhcjndijaaGreatDoor
namespace Go.Proofs.YtimlcnhcjndijaaGreatDoor
def F1 (next m n:Int):Bool:=decide (n=0) || decide (next<=n) || decide (n < -m)
abbrev ee:=Int×Int
def Eg (s:ee):ee:=(max s.1 0,max s.2 0)
def Id (s:ee):Int:=if s.1=0 then 0 else if s.2=0 then 2 else 1
def Ge (a b:Int):Int:=if a<b then -1 else if b<a then 1 else 0
def F2 (a b:ee):Int:=
 if Eg a=Eg b then 0
 else if Id (Eg a)≠1\/Id (Eg b)≠1 then Ge (Id (Eg a)) (Id (Eg b))
 else Ge ((Eg a).1*(Eg b).2) ((Eg b).1*(Eg a).2)
def E4 (has whole:V4):Nat->ee×Int
 | 0=>((0,0),0)
 | n+1=>if n=0\/0<F2 (Eg (has.get n,whole.get n)) (E4 has whole n).1 then (Eg (has.get n,whole.get n),(n:Int)) else E4 has whole n
def Ox (has whole:V4):ee:=(E4 has whole 4).1
def Es (n:Int):Int:=min (max n 0) 1152921504606846976
def Jk (a b:Int):Int:=Es (Es a+Es b)
def Ka (u v:V4):V4:=⟨Jk u.a v.a,Jk u.b v.b,Jk u.c v.c,Jk u.d v.d⟩
structure cz where
 id:Int
 user:ByteArray
 prio:Int
 ml:V4
structure dy where
 user:ByteArray
 has:V4
def A5 (ws:List cz) (i:Nat):cz:=(ws[i]?).getD ⟨0,ByteArray.empty,0,⟨0,0,0,0⟩⟩
def ur (a b:cz):Bool:=decide (b.prio<a.prio) || (decide (a.prio=b.prio) && decide (a.id<=b.id))
def F3 (ws:List cz) (l:List Nat):List Nat:=l.mergeSort fun a b=>ur (A5 ws a) (A5 ws b)
structure bq where
 name:ByteArray
 has:V4
 left:List Nat
def td (s:ByteArray) (u:bq):Bool:=decide (u.name=s)
def Gf (us:List bq) (s:ByteArray):Option Nat:=us.findIdx? (td s)
def As (us:List bq) (s:ByteArray) (i:Nat):List bq:=match Gf us s with
 | none=>us++[⟨s,⟨0,0,0,0⟩,[i]⟩]
 | some k=>us.modify k fun u=>⟨u.name,u.has,u.left++[i]⟩
def B6 (ws:List cz):Nat->List bq
 | 0=>[]
 | i+1=>As (B6 ws i) (A5 ws i).user i
def Co (us:List bq) (h:dy):List bq:=match Gf us h.user with
 | none=>us
 | some k=>us.modify k fun u=>⟨u.name,Ka u.has h.has,u.left⟩
def Cq (hs:List dy) (ws:List cz):List bq:=
 ((hs.foldl Co (B6 ws ws.length)).map fun u=>⟨u.name,u.has,F3 ws u.left⟩)
def Et (us:List bq):List ByteArray:=((us.map fun u=>u.name.data.toList).mergeSort fun a b=>decide (a<=b)).map fun l=>⟨l.toArray⟩
def Cs (whole:V4) (us:List bq) (names:List ByteArray):Nat->Option (Nat×ee)
 | 0=>none
 | n+1=>match (names[n]?).bind (Gf us) with
  | none=>Cs whole us names n
  | some k=>match us[k]? with
   | none=>Cs whole us names n
   | some u=>if u.left=[] then Cs whole us names n else match Cs whole us names n with
    | none=>some (k,Ox u.has whole)
    | some (i,s)=>if F2 (Ox u.has whole) s<0 then some (k,Ox u.has whole) else some (i,s)
def Jl (ws:List cz) (u:bq):bq:=match u.left with
 | []=>u
 | p :: l=>⟨u.name,Ka u.has (A5 ws p).ml,l⟩
def Cr (whole:V4) (ws:List cz) (us:List bq) (names:List ByteArray):Nat->List bq×List Nat
 | 0=>(us,[])
 | n+1=>match Cs whole (Cr whole ws us names n).1 names names.length with
  | none=>Cr whole ws us names n
  | some (k,_)=>match (Cr whole ws us names n).1[k]? with
   | none=>Cr whole ws us names n
   | some u=>((Cr whole ws us names n).1.modify k (Jl ws),(Cr whole ws us names n).2++[u.left.headD 0])
def Jm (whole:V4) (hs:List dy) (ws:List cz):List Nat:=(Cr whole ws (Cq hs ws) (Et (Cq hs ws)) ws.length).2
open Go.RowKit
def Yw (s:Int) (w:World):Calls Tryz.prog 211 #[.int .i64 s] w fun e w'=>e=.returned (.bool (jk s))/\w'=w:=by
 by_cases a:(5:Int)<=s
 .have d:=Az a;by_cases b:s<=(8:Int)
  .have f:=Az b;have c:jk s=true:=(by unfold jk;simp [a,b]);replace ⟨a,c,b⟩:=H3 a c b;go_enter Tryz.func211,Tryz.ntmps211;go_wp2;go_ret;exact ⟨by rw [c.out];rfl,rfl⟩
  .have f:=Aw b;have c:jk s=false:=(by unfold jk;simp [a,b]);replace ⟨a,c,b⟩:=H3 a c b;go_enter Tryz.func211,Tryz.ntmps211;go_wp2;go_ret;exact ⟨by rw [c.out];rfl,rfl⟩
 .have d:=Aw a;have c:jk s=false:=by unfold jk;simp [a]
  replace ⟨a,c⟩:=H2 a c;go_enter Tryz.func211,Tryz.ntmps211;go_wp2;go_ret;exact ⟨by rw [c.out];rfl,rfl⟩
def P8 (s:Int) (w:World):Calls Tryz.prog 131 #[.int .i64 s] w fun e w'=>e=.returned (.bool (df s))/\w'=w:=by
 by_cases a:s=3
 .have d:=My.2 a;have c:df s=true:=by unfold df;simp [a]
  replace ⟨a,c⟩:=H2 a c;go_enter Tryz.func131,Tryz.ntmps131;go_wp2;go_ret;exact ⟨by rw [c.out];rfl,rfl⟩
 .have d:=Bg.2 a;by_cases b:s=4
  .have f:=My.2 b;have c:df s=true:=(by unfold df;simp [b]);replace ⟨a,c,b⟩:=H3 a c b;go_enter Tryz.func131,Tryz.ntmps131;go_wp2;go_ret;exact ⟨by rw [c.out];rfl,rfl⟩
  .have f:=Bg.2 b;have c:df s=false:=(by unfold df;simp [a,b]);replace ⟨a,c,b⟩:=H3 a c b;go_enter Tryz.func131,Tryz.ntmps131;go_wp2;go_ret;exact ⟨by rw [c.out];rfl,rfl⟩
def Acw (s:Int) (w:World):Calls Tryz.prog 158 #[.int .i64 s] w fun e w'=>e=.returned (.bool (dx s))/\w'=w:=by
 by_cases a:s=1
 .have d:=My.2 a;have c:dx s=true:=by unfold dx;simp [a]
  replace ⟨a,c⟩:=H2 a c;go_enter Tryz.func158,Tryz.ntmps158;go_wp2;go_ret;exact ⟨by rw [c.out];rfl,rfl⟩
 .have d:=Bg.2 a;by_cases b:s=2
  .have f:=My.2 b;have c:dx s=true:=(by unfold dx;simp [b]);replace ⟨a,c,b⟩:=H3 a c b;go_enter Tryz.func158,Tryz.ntmps158;go_wp2;go_ret;exact ⟨by rw [c.out];rfl,rfl⟩
  .have f:=Bg.2 b;have c:dx s=false:=(by unfold dx;simp [a,b]);replace ⟨a,c,b⟩:=H3 a c b;go_enter Tryz.func158,Tryz.ntmps158;go_wp2;go_ret;exact ⟨by rw [c.out];rfl,rfl⟩
abbrev Lf.cells (l:Lf):Array Value:=#[.int .i64 l.st,.int .i64 l.bm,.int .i64 l.left,.bool l.wall,.bool l.stop]
abbrev Lf.val (l:Lf):Value:=.agg #[.int .i64 l.st,.int .i64 l.bm,.int .i64 l.left,.bool l.wall,.bool l.stop]
def Acx {a b:Bool} (h:a=b):Ending.returned (.bool a)=.returned (.bool b):=by rw [h]
def Vn (st c left:Int) (a b:Bool):Kz ⟨st,c,left,a,b⟩=true↔(1<=st/\st<=8/\0<=c/\0<=left/\c<=Ep st/\left<=Ep st-c)/\¬ (c=0/\(df st=true\/(jk st=true/\st≠8)))/\(st=4\/(a=false/\b=false)):=by
 unfold Kz;simp only [Eo,Bool.or_eq_true,Ja,Bool.not_eq_true',I8,ne_eq];constructor
 .rintro ⟨⟨⟨⟨⟨⟨⟨a1,a2⟩,a3⟩,d⟩,e⟩,f⟩,g⟩,h⟩;exact ⟨⟨a1,a2,a3,d,e,f⟩,g,h⟩
 .rintro ⟨⟨a1,a2,a3,d,e,f⟩,g,h⟩;exact ⟨⟨⟨⟨⟨⟨⟨a1,a2⟩,a3⟩,d⟩,e⟩,f⟩,g⟩,h⟩
def Amr (l:Lf) (w:World):Calls Tryz.prog 157 #[l.val] w fun e w'=>e=.returned (.bool (Kz l))/\Below w.heap.size w w':=by
 obtain ⟨st,i,left,b,c⟩:=l;have d:=Vn st i left b c;obtain ⟨h,a⟩:=Ex (dx st);have f:=fun W=>Acw st W;rw [<- a] at f;have g:Ep st=if h=true then 5 else 6:=by rw [a];rfl
 rw [g] at d;replace ⟨f,d,g,a⟩:=H4 f d g a
 cases h with
 | true=>
  go_enter Tryz.func157,Tryz.ntmps157;go_wp2_with fail;refine (f.out _).mono ?_;rintro e w1 ⟨rfl,rfl⟩;go_wp2_with (first | (go_at_call 131;refine (P8 _ _).mono ?_;rintro e w1 ⟨rfl,rfl⟩) | (go_at_call 211;refine (Yw _ _).mono ?_;rintro e w1 ⟨rfl,rfl⟩))
  all_goals
   go_ret;refine ⟨Acx ?_,Bn⟩;rw [Pt,d.out]
   simp_all
   try omega
 | false=>
  go_enter Tryz.func157,Tryz.ntmps157;go_wp2_with fail;refine (f.out _).mono ?_;rintro e w1 ⟨rfl,rfl⟩;go_wp2_with (first | (go_at_call 131;refine (P8 _ _).mono ?_;rintro e w1 ⟨rfl,rfl⟩) | (go_at_call 211;refine (Yw _ _).mono ?_;rintro e w1 ⟨rfl,rfl⟩))
  all_goals
   go_ret;refine ⟨Acx ?_,Bn⟩;rw [Pt,d.out]
   simp_all
   try omega
def Ams (r:Int) (h:Bool) (w:World):Calls Tryz.prog 129 #[.int .i64 r,.bool h] w fun e w'=>e=.returned (.tuple #[(J3 r h).1.val,.int .i64 (J3 r h).2])/\Below w.heap.size w w':=by
 by_cases a:r<0\/5<r
 .have b:J3 r h=(Lf.zero,1):=Ad a;rw [b];replace ⟨a,b⟩:=H2 a b;cases h
  all_goals
   go_enter Tryz.func129,Tryz.ntmps129;go_wp2
   all_goals first
    | (exfalso;have:=a.out;omega)
    | (refine Ao (v:=.tuple #[Lf.zero.val,.int .i64 1]) (by simp [results,Tryz.results129,go_sem,Lf.zero]) rfl ⟨rfl,?_⟩;exact Bn)
 .have c:0<=r:=by omega
  have b:J3 r h=(⟨if h=true then 2 else 1,0,r,false,false⟩,0):=Ac a;rw [b];replace ⟨a,b⟩:=H2 a b;cases h
  .go_enter Tryz.func129,Tryz.ntmps129;go_wp2;refine Ao (v:=.tuple #[(⟨1,0,r,false,false⟩:Lf).val,.int .i64 0]) (by simp [results,Tryz.results129,go_sem]) rfl ⟨rfl,?_⟩;exact Bn
  .go_enter Tryz.func129,Tryz.ntmps129;go_wp2;refine Ao (v:=.tuple #[(⟨2,0,r,false,false⟩:Lf).val,.int .i64 0]) (by simp [results,Tryz.results129,go_sem]) rfl ⟨rfl,?_⟩;exact Bn
def Amt (l:Lf) (w:World) (h1:-100<=l.left) (f:l.left<=100):Calls Tryz.prog 212 #[l.val] w fun e w'=>e=.returned (Nw l).val/\Below w.heap.size w w':=by
 obtain ⟨st,a,left,c,d⟩:=l;simp only at h1 f
 cases d with
 | true=>
  go_enter Tryz.func212,Tryz.ntmps212;go_wp2;refine Ao (v:=(⟨8,a,left,false,false⟩:Lf).val) (by simp [results,Tryz.results212,go_sem]) rfl ⟨rfl,?_⟩;exact Bn.alloc (by simp) _
 | false=>
  cases c with
  | true=>
   go_enter Tryz.func212,Tryz.ntmps212;go_wp2;refine Ao (v:=(⟨6,a,left,false,false⟩:Lf).val) (by simp [results,Tryz.results212,go_sem]) rfl ⟨rfl,?_⟩;exact Bn.alloc (by simp) _
  | false=>
   by_cases q:0<left
   .have b:Nw ⟨st,a,left,false,false⟩=⟨1,a,left-1,false,false⟩:=(by unfold Nw;simp [q]);rw [b];replace b:=Hh b;go_enter Tryz.func212,Tryz.ntmps212;go_wp2;refine Ao (v:=(⟨1,a,left-1,false,false⟩:Lf).val) (by simp [results,Tryz.results212,go_sem]) rfl ⟨rfl,?_⟩;exact Bn.alloc (by simp) _
   .have b:Nw ⟨st,a,left,false,false⟩=⟨7,a,left,false,false⟩:=(by unfold Nw;simp [q]);rw [b];replace b:=Hh b;go_enter Tryz.func212,Tryz.ntmps212;go_wp2;refine Ao (v:=(⟨7,a,left,false,false⟩:Lf).val) (by simp [results,Tryz.results212,go_sem]) rfl ⟨rfl,?_⟩;exact Bn.alloc (by simp) _
def Acy {s:Int} (h:1<=s/\s<=8):s=1\/s=2\/s=3\/s=4\/s=5\/s=6\/s=7\/s=8:=by omega
def Amu (l:Lf) (s:Int) (w:World) (a:l.st=1\/l.st=2) (f:1<=s/\s<=8) (h1:-100<=l.bm) (g:l.bm<=100) :
  Calls Tryz.prog 159 #[l.val,.int .i64 s] w fun e w'=>e=.returned (.tuple #[(Ef l s).1.val,.bool (Ef l s).2])/\Below w.heap.size w w':=by
 obtain ⟨st,h,left,b,c⟩:=l;simp only at h1 g a;obtain ⟨z,d⟩:=Ex (Ef ⟨st,h,left,b,c⟩ s);rw [<- d];rcases a with rfl | rfl
 all_goals
  rcases Acy f with rfl | rfl | rfl | rfl | rfl | rfl | rfl | rfl
  all_goals
   clear f;simp [Ef] at d;subst d;go_enter Tryz.func159,Tryz.ntmps159;go_wp2;refine Ao (v:=.tuple #[_,_]) (by simp [results,Tryz.results159,go_sem]) rfl ⟨rfl,?_⟩;exact (Bn.alloc (by simp) _).alloc (by simp;omega) _
def Amv (l:Lf) (s:Int) (w:World) (k:l.st=3\/l.st=4) (f:1<=s/\s<=8) (h1:-100<=l.left) (p:l.left<=100) :
  Calls Tryz.prog 160 #[l.val,.int .i64 s] w fun e w'=>e=.returned (.tuple #[(Dc l s).1.val,.bool (Dc l s).2])/\Below w.heap.size w w':=by
 have h:=Amt l;obtain ⟨st,n,left,a,c⟩:=l;simp only at h1 p k;have h:=fun W=>h W h1 p;obtain ⟨y,m⟩:=Ex (Nw ⟨st,n,left,a,c⟩);rw [<- m] at h;by_cases i:s=8
 .subst i;rcases k with rfl | rfl
  .have d:Dc ⟨3,n,left,a,c⟩ 8=(⟨5,n,left,a,c⟩,true):=rfl;rw [d];replace ⟨d,h,m,f⟩:=H4 d h m f;go_enter Nu,Ns;go_wp2;refine Ao (v:=.tuple #[_,_]) (by simp [results,Nq,go_sem]) rfl ⟨rfl,?_⟩;exact Bn.alloc (by simp) _
  .have d:Dc ⟨4,n,left,a,c⟩ 8=(y,true):=(by rw [m];rfl);rw [d];replace ⟨d,h,m,f⟩:=H4 d h m f;go_enter Nu,Ns;go_wp2_with fail;refine (h.out _).mono ?_;rintro e w1 ⟨rfl,o⟩;have j:=Ae o (b:=w.heap.size+1) (A2 _ _ (by simp)) (by simp);have fr:=Ah j;have q:=Aa j 0;have r:=Aa j 1;have t:=Aa j 2;have u:=Aa j 3;have x:=Aa j 4;simp at q r t u x;have g:=(Bn.alloc (by simp) _).trans (o.mono (by simp;omega));obtain ⟨y1,y2,y3,y4,y5⟩:=y;replace ⟨j,g,o⟩:=H3 j g o;go_wp2;refine Ao (v:=.tuple #[(⟨y1,y2,y3,y4,y5⟩:Lf).val,.bool true]) (by simp [results,Nq,go_sem,q,r,t,u,x]) rfl ⟨rfl,?_⟩;exact ((((g.out.setCell (Ea _) _).setCell (Ea _) _).setCell (Ea _) _).setCell (Ea _) _).setCell (Ea _) _
 .clear h m;obtain ⟨z,d⟩:=Ex (Dc ⟨st,n,left,a,c⟩ s);rw [<- d];rcases k with rfl | rfl
  all_goals
   rcases Acy f with rfl | rfl | rfl | rfl | rfl | rfl | rfl | rfl
   .clear f i;simp [Dc] at d;subst d;go_enter Nu,Ns;go_wp2;refine Ao (v:=.tuple #[_,_]) (by simp [results,Nq,go_sem]) rfl ⟨rfl,?_⟩;exact Bn.alloc (by simp) _
   .clear f i;simp [Dc] at d;subst d;go_enter Nu,Ns;go_wp2;refine Ao (v:=.tuple #[_,_]) (by simp [results,Nq,go_sem]) rfl ⟨rfl,?_⟩;exact Bn.alloc (by simp) _
   .clear f i;simp [Dc] at d;subst d;go_enter Nu,Ns;go_wp2;refine Ao (v:=.tuple #[_,_]) (by simp [results,Nq,go_sem]) rfl ⟨rfl,?_⟩;exact Bn.alloc (by simp) _
   .cases a<;>cases c
    all_goals
     clear f i;simp [Dc] at d;subst d;go_enter Nu,Ns;go_wp2;refine Ao (v:=.tuple #[_,_]) (by simp [results,Nq,go_sem]) rfl ⟨rfl,?_⟩;exact Bn.alloc (by simp) _
   .cases a<;>cases c
    all_goals
     clear f i;simp [Dc] at d;subst d;go_enter Nu,Ns;go_wp2;refine Ao (v:=.tuple #[_,_]) (by simp [results,Nq,go_sem]) rfl ⟨rfl,?_⟩;exact Bn.alloc (by simp) _
   .cases a<;>cases c
    all_goals
     clear f i;simp [Dc] at d;subst d;go_enter Nu,Ns;go_wp2;refine Ao (v:=.tuple #[_,_]) (by simp [results,Nq,go_sem]) rfl ⟨rfl,?_⟩;exact Bn.alloc (by simp) _
   .clear f i;simp [Dc] at d;subst d;go_enter Nu,Ns;go_wp2;refine Ao (v:=.tuple #[_,_]) (by simp [results,Nq,go_sem]) rfl ⟨rfl,?_⟩;exact Bn.alloc (by simp) _
   .exact absurd rfl i
def P9 {l:Lf} {s:Int} (a:Kz l=true) (b:dx l.st=true):Ay l s=if (Ef l s).2=true then ((Ef l s).1,0) else (Lf.zero,100):=by
 unfold Ay;rw [Ac (by rw [a];simp),Ad b]
def Rz {l:Lf} {s:Int} (a:Kz l=true) (b:dx l.st=false) (c:df l.st=true):Ay l s=if (Dc l s).2=true then ((Dc l s).1,0) else (Lf.zero,100):=by
 unfold Ay;rw [Ac (by rw [a];simp),Ac (by rw [b];simp),Ad c]
def Acz {l:Lf} {s:Int} (a:Kz l=true) (b:dx l.st=false) (c:df l.st=false):Ay l s=(Lf.zero,100):=by
 unfold Ay;rw [Ac (by rw [a];simp),Ac (by rw [b];simp),Ac (by rw [c];simp)]
def Amw {l:Lf} {s:Int} (a:Kz l=false):Ay l s=(Lf.zero,1):=by
 unfold Ay;rw [Ad a]
def Amx {l:Lf} (h:Kz l=true):0<=l.bm/\l.bm<=6/\0<=l.left/\l.left<=6/\1<=l.st/\l.st<=8:=by
 obtain ⟨st,c,left,a,b⟩:=l;obtain ⟨⟨a1,a2,a3,d,g,i⟩,_,_⟩:=(Vn _ _ _ _ _).1 h
 have:Ep st=5\/Ep st=6:=by unfold Ep;split<;>simp
 have e:c<=6:=by omega
 have f:left<=6:=by omega
 exact ⟨a3,e,d,f,a1,a2⟩
def M5 {s:Int}:dx s=true↔s=1\/s=2:=by simp [dx]
def L7 {s:Int}:df s=true↔s=3\/s=4:=by simp [df]
structure tx (w:World) (l:Lf) (wr:World):Prop where
 low:Below w.heap.size w wr
 box:wr.heap[w.heap.size]?=some (.cells l.cells 43 (0,0))
 res:wr.heap[w.heap.size+1]?=some (.cells Lf.zero.cells 43 (0,0))
def tx.iq {w wr w':World} {l:Lf} (h:tx w l wr) (a:Below wr.heap.size wr w'):tx w l w':=⟨h.low.trans (a.mono h.low.size),Ae a h.box (Ab h.box),Ae a h.res (Ab h.res)⟩
def tx.new (w:World) (l:Lf):tx w l ((w.alloc (.cells l.cells 43 (0,0))).alloc (.cells Lf.zero.cells 43 (0,0))):=
 ⟨Bn.alloc (by simp) _,Ai _ (Af _ _),A2 _ _ (by simp)⟩
def M7 {w w1:World} {b:Nat} (h:Below w.heap.size w w1) (a:w.heap.size<=b) (c d e f g:Value):Below w.heap.size w (((((w1.setCell ⟨b,0,none⟩ c).setCell ⟨b,1,none⟩ d).setCell ⟨b,2,none⟩ e).setCell ⟨b,3,none⟩ f).setCell ⟨b,4,none⟩ g):=
 ((((h.setCell a _).setCell a _).setCell a _).setCell a _).setCell a _
def Ac0 (l:Lf) (s:Int) (w:World) (hs:1<=s/\s<=8):Calls Tryz.prog 100 #[l.val,.int .i64 s] w fun e w'=>e=.returned (.tuple #[(Ay l s).1.val,.int .i64 (Ay l s).2])/\Below w.heap.size w w':=by
 have d:=tx.new w l;have y:=fun W=>Amr l W;have hW:=fun W=>Amu l s W;have hV:=fun W=>Amv l s W;have n:=@Amx l;have n1:=@Amw l s;have n2:=@P9 l s;have n3:=@Rz l s;have n4:=@Acz l s;have z:=fun W=>Acw l.st W;have kl:=fun W=>P8 l.st W;obtain ⟨q,hq⟩:=Ex (Kz l);rw [<- hq] at y;obtain ⟨qw,f⟩:=Ex (dx l.st);rw [<- f] at z;obtain ⟨ql,g⟩:=Ex (df l.st);rw [<- g] at kl;obtain ⟨⟨p1,p2,p3,p4,p5⟩,hp⟩:∃ p,p=(Ef l s).1:=⟨_,rfl⟩;obtain ⟨qp,al⟩:=Ex ((Ef l s).2);obtain ⟨⟨v1,v2,v3,v4,v5⟩,hv⟩:∃ p,p=(Dc l s).1:=⟨_,rfl⟩;obtain ⟨qv,am⟩:=Ex ((Dc l s).2);rw [<- hp,<- al] at hW n2;rw [<- hv,<- am] at hV n3;clear hp al hv am
 cases q with
 | false=>
  rw [n1 hq.symm];obtain ⟨st,bm,left,ac,ad⟩:=l;replace ⟨d,y,hW,hV,n,n1,n2,n3⟩:=H8 d y hW hV n n1 n2 n3;replace ⟨n4,z,kl,hq,f,g,hs⟩:=H7 n4 z kl hq f g hs;go_enter Ri,Rh;go_wp2_with fail;refine (y.out _).mono ?_;rintro e w1 ⟨rfl,c⟩;have a:=d.out.iq c;obtain ⟨h,i,j,k,m⟩:=C5 a.box;(try dsimp only at h i j k m);have o:=Bk a.res 0 (.int .i64 0) rfl;have r:=Bk a.res 1 (.int .i64 0) rfl;have t:=Bk a.res 2 (.int .i64 0) rfl;have u:=Bk a.res 3 (.bool false) rfl;have x:=Bk a.res 4 (.bool false) rfl;have fc:=Ah a.box;have fr:=Ah a.res;replace ⟨a,c⟩:=H2 a c;go_wp2;refine Ao (v:=.tuple #[Lf.zero.val,.int .i64 1]) (by simp [results,Rg,go_sem,Lf.zero,o,r,t,u,x]) rfl ⟨rfl,?_⟩;exact M7 a.out.low (Ea _) _ _ _ _ _
 | true=>
  obtain ⟨b1,b2,b3,b4,b5,b6⟩:=n hq.symm
  cases qw with
  | true=>
   have hW:=fun W=>hW W (M5.1 f.symm) hs (by omega) (by omega);rw [n2 hq.symm f.symm];obtain ⟨st,bm,left,ac,ad⟩:=l;replace ⟨d,y,hW,hV,n,n1,n2,n3⟩:=H8 d y hW hV n n1 n2 n3;replace ⟨n4,z,kl,hq,f,g,hs,b1⟩:=H8 n4 z kl hq f g hs b1;replace ⟨b2,b3,b4,b5,b6⟩:=H5 b2 b3 b4 b5 b6
   cases qp with
   | true=>
    go_enter Ri,Rh;go_wp2_with fail;refine (y.out _).mono ?_;rintro e w1 ⟨rfl,c⟩;have a:=d.out.iq c;obtain ⟨h,i,j,k,m⟩:=C5 a.box;(try dsimp only at h i j k m);have o:=Bk a.res 0 (.int .i64 0) rfl;have r:=Bk a.res 1 (.int .i64 0) rfl;have t:=Bk a.res 2 (.int .i64 0) rfl;have u:=Bk a.res 3 (.bool false) rfl;have x:=Bk a.res 4 (.bool false) rfl;have fc:=Ah a.box;have fr:=Ah a.res;replace ⟨a,c⟩:=H2 a c;go_wp2_with fail;refine (z.out _).mono ?_;rintro e w2 ⟨rfl,rfl⟩;go_wp2_with fail;refine (hW.out _).mono ?_;rintro e w3 ⟨rfl,c⟩;have b:=a.out.iq c;clear h i j k m o r t u x fc fr;obtain ⟨h,i,j,k,m⟩:=C5 b.box;(try dsimp only at h i j k m);have o:=Bk b.res 0 (.int .i64 0) rfl;have r:=Bk b.res 1 (.int .i64 0) rfl;have t:=Bk b.res 2 (.int .i64 0) rfl;have u:=Bk b.res 3 (.bool false) rfl;have x:=Bk b.res 4 (.bool false) rfl;have fc:=Ah b.box;have fr:=Ah b.res;replace ⟨b,c⟩:=H2 b c;go_wp2;refine Ao (v:=.tuple #[(⟨p1,p2,p3,p4,p5⟩:Lf).val,.int .i64 0]) (by simp [results,Rg,go_sem,o,r,t,u,x]) rfl ⟨rfl,?_⟩;exact M7 (M7 b.out.low Ln _ _ _ _ _) (Ea _) _ _ _ _ _
   | false=>
    go_enter Ri,Rh;go_wp2_with fail;refine (y.out _).mono ?_;rintro e w1 ⟨rfl,c⟩;have a:=d.out.iq c;obtain ⟨h,i,j,k,m⟩:=C5 a.box;(try dsimp only at h i j k m);have o:=Bk a.res 0 (.int .i64 0) rfl;have r:=Bk a.res 1 (.int .i64 0) rfl;have t:=Bk a.res 2 (.int .i64 0) rfl;have u:=Bk a.res 3 (.bool false) rfl;have x:=Bk a.res 4 (.bool false) rfl;have fc:=Ah a.box;have fr:=Ah a.res;replace ⟨a,c⟩:=H2 a c;go_wp2_with fail;refine (z.out _).mono ?_;rintro e w2 ⟨rfl,rfl⟩;go_wp2_with fail;refine (hW.out _).mono ?_;rintro e w3 ⟨rfl,c⟩;have b:=a.out.iq c;clear h i j k m o r t u x fc fr;obtain ⟨h,i,j,k,m⟩:=C5 b.box;(try dsimp only at h i j k m);have o:=Bk b.res 0 (.int .i64 0) rfl;have r:=Bk b.res 1 (.int .i64 0) rfl;have t:=Bk b.res 2 (.int .i64 0) rfl;have u:=Bk b.res 3 (.bool false) rfl;have x:=Bk b.res 4 (.bool false) rfl;have fc:=Ah b.box;have fr:=Ah b.res;replace ⟨b,c⟩:=H2 b c;go_wp2;refine Ao (v:=.tuple #[Lf.zero.val,.int .i64 100]) (by simp [results,Rg,go_sem,Lf.zero,o,r,t,u,x]) rfl ⟨rfl,?_⟩;exact M7 (M7 b.out.low Ln _ _ _ _ _) (Ea _) _ _ _ _ _
  | false=>
   cases ql with
   | true=>
    have hV:=fun W=>hV W (L7.1 g.symm) hs (by omega) (by omega);rw [n3 hq.symm f.symm g.symm];obtain ⟨st,bm,left,ac,ad⟩:=l;replace ⟨d,y,hW,hV,n,n1,n2,n3⟩:=H8 d y hW hV n n1 n2 n3;replace ⟨n4,z,kl,hq,f,g,hs,b1⟩:=H8 n4 z kl hq f g hs b1;replace ⟨b2,b3,b4,b5,b6⟩:=H5 b2 b3 b4 b5 b6
    cases qv with
    | true=>
     go_enter Ri,Rh;go_wp2_with fail;refine (y.out _).mono ?_;rintro e w1 ⟨rfl,c⟩;have a:=d.out.iq c;obtain ⟨h,i,j,k,m⟩:=C5 a.box;(try dsimp only at h i j k m);have o:=Bk a.res 0 (.int .i64 0) rfl;have r:=Bk a.res 1 (.int .i64 0) rfl;have t:=Bk a.res 2 (.int .i64 0) rfl;have u:=Bk a.res 3 (.bool false) rfl;have x:=Bk a.res 4 (.bool false) rfl;have fc:=Ah a.box;have fr:=Ah a.res;replace ⟨a,c⟩:=H2 a c;go_wp2_with fail;refine (z.out _).mono ?_;rintro e w2 ⟨rfl,rfl⟩;go_wp2_with fail;refine (kl.out _).mono ?_;rintro e w2 ⟨rfl,rfl⟩;go_wp2_with fail;refine (hV.out _).mono ?_;rintro e w3 ⟨rfl,c⟩;have b:=a.out.iq c;clear h i j k m o r t u x fc fr;obtain ⟨h,i,j,k,m⟩:=C5 b.box;(try dsimp only at h i j k m);have o:=Bk b.res 0 (.int .i64 0) rfl;have r:=Bk b.res 1 (.int .i64 0) rfl;have t:=Bk b.res 2 (.int .i64 0) rfl;have u:=Bk b.res 3 (.bool false) rfl;have x:=Bk b.res 4 (.bool false) rfl;have fc:=Ah b.box;have fr:=Ah b.res;replace ⟨b,c⟩:=H2 b c;go_wp2;refine Ao (v:=.tuple #[(⟨v1,v2,v3,v4,v5⟩:Lf).val,.int .i64 0]) (by simp [results,Rg,go_sem,o,r,t,u,x]) rfl ⟨rfl,?_⟩;exact M7 (M7 b.out.low Ln _ _ _ _ _) (Ea _) _ _ _ _ _
    | false=>
     go_enter Ri,Rh;go_wp2_with fail;refine (y.out _).mono ?_;rintro e w1 ⟨rfl,c⟩;have a:=d.out.iq c;obtain ⟨h,i,j,k,m⟩:=C5 a.box;(try dsimp only at h i j k m);have o:=Bk a.res 0 (.int .i64 0) rfl;have r:=Bk a.res 1 (.int .i64 0) rfl;have t:=Bk a.res 2 (.int .i64 0) rfl;have u:=Bk a.res 3 (.bool false) rfl;have x:=Bk a.res 4 (.bool false) rfl;have fc:=Ah a.box;have fr:=Ah a.res;replace ⟨a,c⟩:=H2 a c;go_wp2_with fail;refine (z.out _).mono ?_;rintro e w2 ⟨rfl,rfl⟩;go_wp2_with fail;refine (kl.out _).mono ?_;rintro e w2 ⟨rfl,rfl⟩;go_wp2_with fail;refine (hV.out _).mono ?_;rintro e w3 ⟨rfl,c⟩;have b:=a.out.iq c;clear h i j k m o r t u x fc fr;obtain ⟨h,i,j,k,m⟩:=C5 b.box;(try dsimp only at h i j k m);have o:=Bk b.res 0 (.int .i64 0) rfl;have r:=Bk b.res 1 (.int .i64 0) rfl;have t:=Bk b.res 2 (.int .i64 0) rfl;have u:=Bk b.res 3 (.bool false) rfl;have x:=Bk b.res 4 (.bool false) rfl;have fc:=Ah b.box;have fr:=Ah b.res;replace ⟨b,c⟩:=H2 b c;go_wp2;refine Ao (v:=.tuple #[Lf.zero.val,.int .i64 100]) (by simp [results,Rg,go_sem,Lf.zero,o,r,t,u,x]) rfl ⟨rfl,?_⟩;exact M7 (M7 b.out.low Ln _ _ _ _ _) (Ea _) _ _ _ _ _
   | false=>
    rw [n4 hq.symm f.symm g.symm];obtain ⟨st,bm,left,ac,ad⟩:=l;replace ⟨d,y,hW,hV,n,n1,n2,n3⟩:=H8 d y hW hV n n1 n2 n3;replace ⟨n4,z,kl,hq,f,g,hs,b1⟩:=H8 n4 z kl hq f g hs b1;replace ⟨b2,b3,b4,b5,b6⟩:=H5 b2 b3 b4 b5 b6;go_enter Ri,Rh;go_wp2_with fail;refine (y.out _).mono ?_;rintro e w1 ⟨rfl,c⟩;have a:=d.out.iq c;obtain ⟨h,i,j,k,m⟩:=C5 a.box;(try dsimp only at h i j k m);have o:=Bk a.res 0 (.int .i64 0) rfl;have r:=Bk a.res 1 (.int .i64 0) rfl;have t:=Bk a.res 2 (.int .i64 0) rfl;have u:=Bk a.res 3 (.bool false) rfl;have x:=Bk a.res 4 (.bool false) rfl;have fc:=Ah a.box;have fr:=Ah a.res;replace ⟨a,c⟩:=H2 a c;go_wp2_with fail;refine (z.out _).mono ?_;rintro e w2 ⟨rfl,rfl⟩;go_wp2_with fail;refine (kl.out _).mono ?_;rintro e w2 ⟨rfl,rfl⟩;go_wp2;refine Ao (v:=.tuple #[Lf.zero.val,.int .i64 100]) (by simp [results,Rg,go_sem,Lf.zero,o,r,t,u,x]) rfl ⟨rfl,?_⟩;exact M7 a.out.low (Ea _) _ _ _ _ _
end Go.Proofs.YtimlcnhcjndijaaGreatDoor
namespace Go.Proofs.YtimlcnhcjndijaaGreatDoor.Pl
open Go.RowKit
structure St where
 t:Int
 f:V4
deriving DecidableEq
def St.zero:St:=⟨0,V4.zero⟩
abbrev St.val (s:St):Value:=.agg #[.int .i64 s.t,.int .i64 s.f.a,.int .i64 s.f.b,.int .i64 s.f.c,.int .i64 s.f.d]
def St.cells (s:St):List Value:=[.int .i64 s.t,.int .i64 s.f.a,.int .i64 s.f.b,.int .i64 s.f.c,.int .i64 s.f.d]
def Bf (l:List St):List Value:=l.flatMap St.cells
def N5 (l:List St):(Bf l).length=l.length*5:=by
 induction l with
 | nil=>rfl
 | cons s l ih=>simp only [Bf,S1,De] at *;rw [ih];simp [St.cells];omega
def Y5 (l m:List St):Bf (l++m)=Bf l++Bf m:=by simp [Bf]
def nth (l:List St) (i:Nat):St:=l.getD i St.zero
def Anw (l:List St) (i j:Nat) (a:i<l.length) (b:j<5):(Bf l)[i*5+j]?=(nth l i).cells[j]?:=by
 induction l generalizing i with
 | nil=>simp at a
 | cons s l ih=>
  cases i with
  | zero=>
   simp only [nth,Bf,S1,Nat.zero_mul,D2,List.getD_cons_zero];rw [Fv (by simp [St.cells];omega)]
  | succ i=>
   have e:(i+1)*5+j=s.cells.length+(i*5+j):=(by simp [St.cells];omega);simp only [nth,Bf,S1,List.getD_cons_succ];rw [e,G5 (by omega),Nat.add_sub_cancel_left];exact ih i (by simpa using a)
structure Row (w:World) (sb cap:Nat) (l:List St):Prop where
 le:l.length<=cap
 max:cap<=9223372036854775807
 aq:∃ cur:Array Value,w.heap[sb]?=some (.cells cur 398 (0,0))/\cur.size=cap*5/\cur.toList.take (l.length*5)=Bf l
def Row.cell {w:World} {b cap:Nat} {l:List St} (h:Row w b cap l) {i j:Nat} (c:i<l.length) (d:j<5) :
  w.cell? ⟨b,i*5+j,none⟩=(nth l i).cells[j]?:=by
 obtain ⟨a,e,g,f⟩:=h.aq;rw [Aa e]
 have:(Bf l)[i*5+j]?=a[i*5+j]?:=by rw [<- f,Lq,Ad (by omega)];simp
 rw [<- this];exact Anw l i j c d
def Row.cells {w:World} {e cap:Nat} {l:List St} (h:Row w e cap l) {i:Nat} (g:i<l.length) :
  w.cell? ⟨e,i*5,none⟩=some (.int .i64 (nth l i).t)/\w.cell? ⟨e,i*5+1,none⟩=some (.int .i64 (nth l i).f.a) /\
  w.cell? ⟨e,i*5+2,none⟩=some (.int .i64 (nth l i).f.b)/\w.cell? ⟨e,i*5+3,none⟩=some (.int .i64 (nth l i).f.c) /\
  w.cell? ⟨e,i*5+4,none⟩=some (.int .i64 (nth l i).f.d):=
 ⟨h.cell g (j:=0) (by omega),h.cell g (j:=1) (by omega),h.cell g (j:=2) (by omega),h.cell g (j:=3) (by omega),h.cell g (j:=4) (by omega)⟩
def Row.of_block {w w':World} {c cap:Nat} {l:List St} (h:Row w c cap l) (e:w'.heap[c]?=w.heap[c]?):Row w' c cap l:=by
 obtain ⟨a,b,d,h1,f⟩:=h;exact ⟨a,b,d,e.trans h1,f⟩
def Row.lt {w:World} {a cap:Nat} {l:List St} (h:Row w a cap l):a<w.heap.size:=by
 obtain ⟨_,_,b,h1,c⟩:=h;exact Ab h1
def Row.below {B:Nat} {w w':World} {a cap:Nat} {l:List St} (h:Row w a cap l) (c:Below B w w') (b:a<B):Row w' a cap l:=h.of_block (c.block _ b)
def Adl (s:St) (t:Int) (w:World) (h1:-1099511627776<=s.t) (a:s.t<=1099511627776) (b:-1099511627776<=t) (c:t<=1099511627776) :
  Calls Tryz.prog 332 #[s.val,.int .i64 t] w fun e w'=>e=.returned (.int .i64 (s.t-t))/\Below w.heap.size w w':=by
 go_enter Tryz.func332,Tryz.ntmps332;go_wp2;go_ret;exact ⟨rfl,Bn⟩
def Anx (n:Nat) (T:Nat->Int) (t:Int) (w:World) (e:Ending) (w':World):Prop:=
 ∃ r:Nat,e=.returned (.tuple #[.int .i64 r,.bool (decide (r<n/\T r=t))])/\r<=n/\(∀ k,k<r->T k<t)/\(∀ k,r<=k->k<n->t<=T k)/\Below w.heap.size w w'
def Ma (l:List St):Prop:=∀ i j,i<j->j<l.length->(nth l i).t<(nth l j).t
def Anz (l:List St) (u cap:Nat) (t:Int) (w:World) (n:Row w u cap l) (p:∀ i,i<l.length->0<=(nth l i).t/\(nth l i).t<=1099511627776) (c:Ma l)
  (h3:0<=t) (v:t<=1099511627776) (x:l.length<=1099511627776) :
  Calls Tryz.prog 331 #[.slice (some ⟨u,0,none⟩) l.length cap,.int .i64 t,.func (.func 332) #[] #[]] w (Anx l.length (fun i=>(nth l i).t) t w):=by
 have n:=Hh n;have p:=Hh p;have c:=Hh c;go_enter Tryz.func331,Tryz.ntmps331;go_wp2;go_loopw [9,10,11] (fun i j _ wr=>∃ a b:Nat,a<=b/\b<=l.length/\i=.int .i64 a/\j=.int .i64 b/\Below w.heap.size w wr/\Hid (∀ k,k<a->(nth l k).t<t)/\Hid (∀ k,b<=k->k<l.length->t<=(nth l k).t)) (fun i j _ _=>(intOf j).toNat-(intOf i).toNat)
 case atStart=>exact ⟨0,l.length,by omega,by omega,rfl,rfl,Below.refl _ _,by intro k q;omega,by intro k q;omega⟩
 case round=>
  obtain ⟨a,b,am,y,rfl,rfl,f,r,m⟩:=hrel;by_cases an:a<b
  .have z:(a:Int)<b:=(by omega);have ac:(a:Int)+b<=2199023255552:=(by omega);have ad:(0:Int)<=(a:Int)+b:=(by omega);have ao:((a:Int)+b) / 2<l.length:=(by omega);obtain ⟨c0,c1,c2,c3,c4⟩:=(n.out.of_block (f.block _ n.out.lt)).cells (i:=(a+b) / 2) (by omega);obtain ⟨l1,l2⟩:=p.out ((a+b) / 2) (by omega);go_wp2_with fail;refine (Adl (nth l ((a+b) / 2)) t wr (by omega) (by omega) (by omega) v).mono ?_;rintro e w2 ⟨rfl,d⟩;have g:=Hh (f.trans (d.mono f.size));have d:=Hh d;clear f;by_cases al:(nth l ((a+b) / 2)).t-t<0
   .go_wp2;go_roundw
    case rel=>
     refine ⟨(a+b) / 2+1,b,by omega,by omega,by go_num,rfl,g.out,?_,m⟩;intro k q;by_cases h:k=(a+b) / 2
     .subst h;omega
     .have:=c.out k ((a+b) / 2) (by omega) (by omega);omega
    case measure=>simp [intOf];omega
   .go_wp2;go_roundw
    case rel=>
     refine ⟨a,(a+b) / 2,by omega,by omega,rfl,by go_num,g.out,r,?_⟩;intro k q ap;by_cases h:k=(a+b) / 2
     .subst h;omega
     .have:=c.out ((a+b) / 2) k (by omega) (by omega);omega
    case measure=>simp [intOf];omega
  .have o:a=b:=(by omega);subst o;by_cases hn:a<l.length
   .have s:(a:Int)<l.length:=(by omega);obtain ⟨c0,c1,c2,c3,c4⟩:=(n.out.of_block (f.block _ n.out.lt)).cells (i:=a) (by omega);obtain ⟨l1,l2⟩:=p.out a (by omega);go_wp2_with fail;refine (Adl (nth l a) t wr (by omega) (by omega) (by omega) v).mono ?_;rintro e w2 ⟨rfl,d⟩;have g:=Hh (f.trans (d.mono f.size));have d:=Hh d;clear f;go_wp2;go_ret2;refine ⟨a,?_,y,r,m,g.out⟩;have e:((nth l a).t-t == 0)=decide (a<l.length/\(nth l a).t=t):=(by rw [Pt];simp [hn];omega);rw [<- e];rfl
   .have s:¬ (a:Int)<l.length:=(by omega);go_wp2;go_ret2;refine ⟨a,?_,y,r,m,f⟩;simp [hn]
def Kh (l:List St) (t:Int) (k:Nat):Prop:=k<l.length/\(nth l k).t<=t/\∀ j,k<j->j<l.length->t<(nth l j).t
def An0 {l:List St} (h:Ma l) (h0:0<=(nth l 0).t):∀ i,i<l.length->(i:Int)<=(nth l i).t:=by
 intro i
 induction i with
 | zero=>intro _;simpa using h0
 | succ i ih=>intro a;have:=h i (i+1) (by omega) a;have:=ih (by omega);omega
structure Cg (w:World) (pb sb cap:Nat) (whole:V4) (l:List St):Prop where
 head:w.heap[pb]?=some (.cells #[.int .i64 whole.a,.int .i64 whole.b,.int .i64 whole.c,.int .i64 whole.d,.slice (some ⟨sb,0,none⟩) l.length cap] 363 (0,0))
 row:Row w sb cap l
 ne:pb≠sb
structure Cb (l:List St):Prop where
 pos:0<l.length
 zero:(nth l 0).t=0
 bh:Ma l
 last:∀ i,i<l.length->(nth l i).t<1099511627776
def Cb.ge {l:List St} (h:Cb l) (i:Nat) (a:i<l.length):(i:Int)<=(nth l i).t:=An0 h.bh (by rw [h.zero];omega) i a
def Cb.len {l:List St} (h:Cb l):l.length<=1099511627776:=by
 have h1:=h.ge (l.length-1) (by have:=h.pos;omega);have a:=h.last (l.length-1) (by have:=h.pos;omega);have:=h.pos;omega
def An1 (l:List St) (t:Int) (w:World) (e:Ending) (w':World):Prop:=∃ k:Nat,e=.returned (.int .i64 k)/\Kh l t k/\Below w.heap.size w w'
def Vz (o p cap:Nat) (whole:V4) (l:List St) (t:Int) (w:World) (m:Cg w o p cap whole l) (a:Cb l) (u:0<=t) (v:t<=1099511627776) :
  Calls Tryz.prog 313 #[.pointer (some ⟨o,0,none⟩),.int .i64 t] w (An1 l t w):=by
 have x:=Aa m.head 4;simp at x;have f:=a.len;have m:=Hh m;have a:=Hh a;go_enter Tryz.func313,Tryz.ntmps313;go_wp2_with fail;refine (Anz l p cap t w m.out.row (fun i q=>⟨by have:=a.out.ge i q;omega,by have:=a.out.last i q;omega⟩) a.out.bh u v f).mono ?_;rintro e z ⟨r,rfl,hr,h1,g,d⟩;have h1:=Hh h1;have g:=Hh g;have d:=Hh d;by_cases b:r<l.length/\(nth l r).t=t
 .have k:decide (r<l.length/\(nth l r).t=t)=true:=by simpa using b
  simp only [k];have b:=Hh b;clear k;go_wp2;go_ret;refine ⟨r,rfl,⟨b.out.1,by rw [b.out.2];omega,?_⟩,d.out⟩;intro j s c;have:=a.out.bh r j s c;rw [b.out.2] at this;exact this
 .have k:decide (r<l.length/\(nth l r).t=t)=false:=by simpa using b
  simp only [k]
  have h0:0<r:=by
   apply Il;intro hc
   have:r=0:=by omega
   subst this;have h5:t<=(nth l 0).t:=g.out 0 Ln a.out.pos;have hz:=a.out.zero;have y:(nth l 0).t=t:=(by omega);exact b ⟨a.out.pos,y⟩
  have b:=Hh b;clear k;go_wp2;go_ret;refine ⟨r-1,?_,⟨by omega,?_,?_⟩,d.out⟩
  .have e:((r:Int)-1)=((r-1:Nat):Int):=(by omega);rw [<- e];rfl
  .have:=h1.out (r-1) (by omega);omega
  .intro j s c;have hq:=g.out j (by omega) c;by_cases n:j=r
   .subst n;have:(nth l j).t≠t:=fun h=>b.out ⟨c,h⟩;omega
   .have:=g.out r Ln (by omega);have:=a.out.bh r j (by omega) c;omega
def Fo (p:V4):List St->List St
 | []=>[]
 | s :: r=>if s.f=p then Fo s.f r else s :: Fo s.f r
def B7:List St->List St
 | []=>[]
 | s :: r=>s :: Fo s.f r
def Oz (p:V4):List St->V4
 | []=>p
 | s :: r=>Oz s.f r
def An7 (p:V4) (l:List St) (x:St):Fo p (l++[x])=Fo p l++(if x.f=Oz p l then [] else [x]):=by
 induction l generalizing p with
 | nil=>by_cases h:x.f=p<;>simp [Fo,Oz,h]
 | cons s r ih=>
  simp only [Pp,Fo,Oz];rw [ih]
  by_cases h:s.f=p<;>by_cases a:x.f=Oz s.f r<;>simp [h,a]
def An8 (l:List St) (x:St) (h:0<l.length):B7 (l++[x])=B7 l++(if x.f=(nth l (l.length-1)).f then [] else [x]):=by
 have a:∀ (l:List St) (p:V4),Oz p l=if 0<l.length then (nth l (l.length-1)).f else p:=by
  intro l
  induction l with
  | nil=>intro p;simp [Oz]
  | cons s r ih=>
   intro p;simp only [Oz];rw [ih]
   cases r with
   | nil=>simp [nth]
   | cons s2 r2=>simp [nth]
 cases l with
 | nil=>simp at h
 | cons s r=>
  simp only [Pp,B7];rw [An7,a]
  cases r with
  | nil=>simp [nth]
  | cons s2 r2=>simp [nth]
def An9 (l m:List St) (i:Nat) (h:i<l.length):nth (l++m) i=nth l i:=by
 simp [nth,Fv h]
def V1 (l:List St) (n i:Nat) (h:i<n):nth (l.take n) i=nth l i:=by
 simp [nth,h]
def Y7 (l:List St) (n i:Nat) (s:St) (h:n<l.length):nth (l.set n s) i=if i=n then s else nth l i:=by
 simp only [nth,Xq,Do];by_cases e:n=i
 .subst e;simp [h]
 .simp [e,Ne.symm e]
def To (l:List St) (n:Nat) (h:n<l.length):l.take (n+1)=l.take n++[nth l n]:=by
 rw [List.take_succ_eq_append_getElem h];simp [nth,h]
def Y8 (l:List St) (n:Nat) (h0:0<n) (h:n<l.length):B7 (l.take (n+1))=B7 (l.take n)++(if (nth l n).f=(nth l (n-1)).f then [] else [nth l n]):=by
 rw [To l n h,An8 _ _ (by rw [Ff];omega)];congr 2;rw [Ff,Mu (by omega),V1 l n (n-1) (by omega)]
def Y9:∀ (l:List St) (n:Nat),n<=l.length->(∀ i,0<i->i<n->(nth l i).f≠(nth l (i-1)).f)->B7 (l.take n)=l.take n:=by
 intro l n a h
 induction n with
 | zero=>simp [B7]
 | succ n ih=>
  cases n with
  | zero=>
   cases l with
   | nil=>simp at a
   | cons s r=>simp [B7,Fo]
  | succ n=>
   rw [Y8 l (n+1) (by omega) (by omega),ih (by omega) (fun i h1 b=>h i h1 (by omega)),Ac (h (n+1) (by omega) (by omega)),<- To l (n+1) (by omega)]
def Vv (l:List St) (i:Nat) (s:St) (c:i<l.length):Bf (l.set i s)=(Bf l).take (i*5)++s.cells++(Bf l).drop (i*5+5):=by
 induction l generalizing i with
 | nil=>simp at c
 | cons a l ih=>
  cases i with
  | zero=>simp [Bf,St.cells]
  | succ i=>
   have d:(i+1)*5=5+i*5:=(by omega);have e:5+i*5+5=5+(i*5+5):=(by omega);have b:=ih i (by simpa using c);simp only [Bf] at b ⊢;simp only [List.set_cons_succ,S1,b];rw [d,e];show _=List.take (a.cells.length+i*5) _++_++List.drop (a.cells.length+(i*5+5)) _;rw [List.take_length_add_append,List.drop_length_add_append];simp
def Aoa (f:Array Value) (o:Nat) (a b c d e:Value) (h:o+5<=f.size) :
  (((((f.setIfInBounds o a).setIfInBounds (o+1) b).setIfInBounds (o+2) c).setIfInBounds (o+3) d).setIfInBounds (o+4) e).toList=f.toList.take o++[a,b,c,d,e]++f.toList.drop (o+5):=by
 apply Ee;intro i;simp only [Array.toList_setIfInBounds,Do,Dg,Array.length_toList];rw [Ku];by_cases h1:i<o
 .rw [Fv (by simp;omega)];simp [h1,show o≠i by omega,show o+1≠i by omega,show o+2≠i by omega,show o+3≠i by omega,show o+4≠i by omega]
 .rw [G5 (by simp;omega)];have g:(f.toList.take o).length=o:=by simp;omega
  rw [g];by_cases j:i<o+5
  .rw [Fv (by simp;omega)]
   have:i=o\/i=o+1\/i=o+2\/i=o+3\/i=o+4:=by omega
   rcases this with rfl | rfl | rfl | rfl | rfl
   .simp;omega
   .simp [show o+1-o=1 by omega];omega
   .simp [show o+2-o=2 by omega];omega
   .simp [show o+3-o=3 by omega];omega
   .simp [show o+4-o=4 by omega];omega
  .rw [G5 (by simp;omega)];simp [show o≠i by omega,show o+1≠i by omega,show o+2≠i by omega,show o+3≠i by omega,show o+4≠i by omega];congr 1;omega
def World.ki (w:World) (sb i:Nat) (s:St):World:=
 ((((w.setCell ⟨sb,i*5,none⟩ (.int .i64 s.t)).setCell ⟨sb,i*5+1,none⟩ (.int .i64 s.f.a)).setCell ⟨sb,i*5+2,none⟩ (.int .i64 s.f.b)).setCell ⟨sb,i*5+3,none⟩ (.int .i64 s.f.c)).setCell ⟨sb,i*5+4,none⟩ (.int .i64 s.f.d)
def Row.ki {w:World} {b cap:Nat} {l:List St} (h:Row w b cap l) (i:Nat) (s:St) (c:i<l.length):Row (World.ki w b i s) b cap (l.set i s):=by
 obtain ⟨h1,d,a,e,f,g⟩:=h;refine ⟨by simpa using h1,d,_,Al (Al (Al (Al (Al e _ _) _ _) _ _) _ _) _ _,by simpa using f,?_⟩;rw [Aoa a (i*5) _ _ _ _ _ (by omega),Vv l i s c,<- g];simp only [Dg,St.cells];have m:l.length*5=i*5+(5+(l.length*5-(i*5+5))):=by omega
 rw [Ku,Ku,List.take_append,List.take_append];have j:(a.toList.take (i*5)).length=i*5:=by simp;omega
 rw [j];have k:l.length*5-i*5-5=l.length*5-(i*5+5):=by omega
 simp only [Jy,Pr,D2,Nat.reduceAdd,k];rw [Dn (by simp;omega),Dn (l:=[_,_,_,_,_]) (by simp;omega),List.take_take,Mu (by omega),List.drop_take]
def wy (d:Nat) (a b:Int) (w:World):(Op.equalIn (d+1) 3 (.int .i64 a) (.int .i64 b)).run Tryz.prog w=.ok (a == b) w:=by
 simp [Op.equalIn,Mv Da]
def M0:(Tryz.prog.info? 3).map (fun i=>(i.zero,i.size,i.bytes))=some (some (.int .i64 0),1,8):=by kernel_rfl
def Yl:Tryz.prog.cellsOf 3=1:=by kernel_rfl
def Aob (f:Nat) (u v:V4) (w:World):(Op.equalIn (f+2) 30 u.val v.val).run Tryz.prog w=.ok (decide (u=v)) w:=by
 obtain ⟨q,e,h,g,i⟩:=C0 M0;show (Op.equalIn ((f+1)+1) 30 u.val v.val).run Tryz.prog w=_;rw [run_equalIn_array w (f+1) _ _ Tryz.underlying30 e,Yl];show (Op.eqItems (f+1) 3 1 _ _ [0,1,2,3]).run Tryz.prog w=_;obtain ⟨a,b,c,d⟩:=u;obtain ⟨j,k,l,m⟩:=v
 by_cases h1:a=j<;>by_cases n:b=k<;>by_cases o:c=l<;>by_cases p:d=m
 all_goals
  simp [Op.eqItems,wy,part,sizeOf,typeInfo,e,g,h1,n,o,p]
def Aoc (u v:V4) (w:World):(Op.equalIn 10000 30 u.val v.val).run Tryz.prog w=.ok (decide (u=v)) w:=Aob 9998 u v w
end Go.Proofs.YtimlcnhcjndijaaGreatDoor.Pl
namespace Go.Proofs.YtimlcnhcjndijaaGreatDoor
def Pb (n i:Nat) (st:List Int×List (List Int)) (k:Int):List Int×List (List Int):=
 if 0<=k/\k<(n:Int) then (st.1.modify i (·+1),st.2.modify k.toNat (·++[(i:Int)])) else st
def Km (n i:Nat) (st:List Int×List (List Int)) (l:List Int):Nat->List Int×List (List Int)
 | 0=>st
 | j+1=>Pb n i (Km n i st l j) ((l[j]?).getD 0)
def I3 (after:List (List Int)):Nat->List Int×List (List Int)
 | 0=>(List.replicate after.length 0,List.replicate after.length [])
 | i+1=>Km after.length i (I3 after i) ((after[i]?).getD []) ((after[i]?).getD []).length
def Gy (left:List Int):Nat->List Int
 | 0=>[]
 | i+1=>if (left[i]?).getD 0=0 then Gy left i++[(i:Int)] else Gy left i
def fk (k:Int) (l:List Int):List Int:=l.take (l.countP (·<k))++k :: l.drop (l.countP (·<k))
def Qt (st:List Int×List Int) (k:Int):List Int×List Int:=
 (st.1.modify k.toNat (· - 1),if ((st.1.modify k.toNat (· - 1))[k.toNat]?).getD 0=0 then fk k st.2 else st.2)
def Dx (st:List Int×List Int) (l:List Int):Nat->List Int×List Int
 | 0=>st
 | j+1=>Qt (Dx st l j) ((l[j]?).getD 0)
structure qh where
 left:List Int
 free:List Int
 out:List Int
def Si (back:List (List Int)) (s:qh):qh:=match s.free with
 | []=>s
 | i :: r=>let b:=(back[i.toNat]?).getD [];let st:=Dx (s.left,r) b b.length;⟨st.1,st.2,s.out++[i]⟩
def Gl (back:List (List Int)) (s:qh):Nat->qh
 | 0=>s
 | n+1=>Si back (Gl back s n)
def Af7 (after:List (List Int)):qh:=
 Gl (I3 after after.length).2 ⟨(I3 after after.length).1,Gy (I3 after after.length).1 after.length,[]⟩ (2*after.length)
def Ij (after:List (List Int)):Bool:=!decide ((Af7 after).out.length<after.length)
def Gm (lo hi:Int) (l:List Int):Prop:=∀ x,x∈l->lo<=x/\x<=hi
def Gm.mono {c d a b:Int} {l:List Int} (h:Gm c d l) (h1:a<=c) (f:d<=b):Gm a b l:=fun x e=>by have:=h x e;omega
def Gm.at {a b:Int} {l:List Int} (h:Gm a b l) {i:Nat} {x:Int} (c:l[i]?=some x):a<=x/\x<=b:=h x (Aj c)
def Oe {α:Type} {l:List α} {i:Nat} {f:α->α} {x:α} (h:x∈l.modify i f):x∈l\/∃ y,y∈l/\x=f y:=by
 obtain ⟨j,a⟩:=Dr h;rw [Fe] at a
 cases hy:l[j]? with
 | none=>rw [hy] at a;cases a
 | some y=>
  rw [hy] at a;have b:=Aj hy;split at a
  .simp at a;exact .inr ⟨y,b,a.symm⟩
  .simp at a;exact .inl (a▸b)
def Qu {α:Type} (l:List α) (i:Nat) (f:α->α) {x:α} (a:l[i]?=some x):l.modify i f=l.set i (f x):=by
 apply Ee;intro j;rw [Fe,Do];by_cases h:i=j
 .subst h;have:=(Aq.1 a).1;rw [a,Ad rfl,Ad this];simp
 .simp [h]
def Gn {α:Type} {l:List α} {i:Nat} {x d:α} (a:l[i]?=some x):(l[i]?).getD d=x:=by rw [a];rfl
structure Tok (n M:Nat) (st:List Int×List (List Int)):Prop where
 left:Gm 0 M st.1
 back:∀ l,l∈st.2->l.length<=M/\Gm 0 ((n:Int)-1) l
def Tok.mono {n M a:Nat} {st:List Int×List (List Int)} (h:Tok n M st) (c:M<=a):Tok n a st:=⟨h.left.mono (Db _) (by omega),fun l b=>⟨A6 (h.back l b).1 c,(h.back l b).2⟩⟩
def Tok.step {n M i:Nat} {st:List Int×List (List Int)} (h:Tok n M st) (d:i<n) (k:Int):Tok n (M+1) (Pb n i st k):=by
 unfold Pb;split
 .refine ⟨fun x a=>?_,fun l b=>?_⟩
  .rcases Oe a with c | ⟨y,c,rfl⟩
   .have:=h.left x c;omega
   .have:=h.left y c;omega
  .rcases Oe b with c | ⟨y,c,rfl⟩
   .exact ⟨by have:=(h.back l c).1;omega,(h.back l c).2⟩
   .refine ⟨by have:=(h.back y c).1;simp;omega,fun x a=>?_⟩;rcases Dt.1 a with a | a
    .exact (h.back y c).2 x a
    .simp at a;omega
 .exact h.mono (by omega)
def Tok.row {n M i:Nat} {st:List Int×List (List Int)} (h:Tok n M st) (a:i<n) (l:List Int) (j:Nat):Tok n (M+j) (Km n i st l j):=by
 induction j with
 | zero=>exact h
 | succ j ih=>exact ih.step a _
def Tok.start (n:Nat):Tok n 0 (List.replicate n 0,List.replicate n []):=
 ⟨fun x a=>by simp [U0] at a;omega,fun l b=>by simp [U0] at b;obtain ⟨_,rfl⟩:=b;exact ⟨by simp,fun x a=>by cases a⟩⟩
def Tok.to {after:List (List Int)} {b:Nat} (a:∀ l,l∈after->l.length<=b):∀ {i:Nat},i<=after.length->Tok after.length (b*i) (I3 after i)
 | 0,_=>Tok.start _
 | i+1,hi=>by
  have h:=(Tok.to a (i:=i) (by omega)).row (i:=i) (by omega) ((after[i]?).getD []) ((after[i]?).getD []).length;refine h.mono ?_;have c:after[i]?=some (after[i]'(by omega)):=Am _;have:=a _ (Aj c);rw [Gn c];rw [Nat.mul_succ];omega
structure lu (n:Nat) (l:List Int):Prop where
 bh:l.Pairwise (·<=·)
 tp:Gm 0 ((n:Int)-1) l
def lu.start (left:List Int):∀ i:Nat,lu i (Gy left i)/\(Gy left i).length<=i
 | 0=>⟨⟨List.Pairwise.nil,fun x c=>by cases c⟩,Nat.le_refl _⟩
 | i+1=>by
  obtain ⟨h,f⟩:=lu.start left i;unfold Gy;split
  .refine ⟨⟨?_,fun x c=>?_⟩,by simp;omega⟩
   .rw [Sx];exact ⟨h.bh,List.pairwise_singleton _ _,fun a d b e=>by simp at e;have:=h.tp a d;omega⟩
   .rcases Dt.1 c with c | c
    .have:=h.tp x c;omega
    .simp at c;omega
  .exact ⟨⟨h.bh,fun x c=>by have:=h.tp x c;omega⟩,by omega⟩
def lu.tail {n:Nat} {x:Int} {l:List Int} (h:lu n (x :: l)):lu n l:=⟨(Po.1 h.bh).2,fun y a=>h.tp y (D1 _ a)⟩
def Af8 {k:Int}:∀ {l:List Int},l.Pairwise (·<=·)->(∀ x,x∈l.take (l.countP (·<k))->x<k)/\∀ x,x∈l.drop (l.countP (·<k))->k<=x
 | [],_=>⟨fun x c=>by simp at c,fun x c=>by simp at c⟩
 | y :: l,h=>by
  obtain ⟨h1,e⟩:=Po.1 h;obtain ⟨a,b⟩:=Af8 (k:=k) e;by_cases d:y<k
  .rw [List.countP_cons_of_pos (by simpa using d)];refine ⟨fun x c=>?_,fun x c=>b x (by simpa using c)⟩;simp at c;rcases c with rfl | c
   .exact d
   .exact a x c
  .have h0:(y :: l).countP (·<k)=0:=by
    rw [List.countP_eq_zero];intro x c;rcases Gu.1 c with rfl | c
    .simpa using d
    .have:=h1 x c;simp;omega
   rw [h0];refine ⟨fun x c=>by simp at c,fun x c=>?_⟩;simp at c;rcases c with rfl | c
   .omega
   .have:=h1 x c;omega
def Asd (k:Int) (l:List Int):(fk k l).length=l.length+1:=by
 unfold fk;have:l.countP (·<k)<=l.length:=Ux;simp;omega
def lu.ins {n:Nat} {k:Int} {l:List Int} (h:lu n l) (h0:0<=k) (e:k<n):lu n (fk k l):=by
 obtain ⟨a,b⟩:=Af8 (k:=k) h.bh;unfold fk;refine ⟨?_,fun x c=>?_⟩
 .rw [Sx,Po];refine ⟨h.bh.sublist (List.take_sublist _ _),⟨b,h.bh.sublist (List.drop_sublist _ _)⟩,fun x c y d=>?_⟩;have:=a x c;rcases Gu.1 d with rfl | d
  .omega
  .have:=b y d;omega
 .rcases Dt.1 c with c | c
  .exact h.tp x (List.mem_of_mem_take c)
  .rcases Gu.1 c with rfl | c
   .omega
   .exact h.tp x (List.mem_of_mem_drop c)
def Jq (st:List Int×List Int):Nat:=st.1.countP (fun x=>decide (0<x))+st.2.length
def Af9 {p:Int->Bool}:∀ {l:List Int} {i:Nat} {x y:Int},l[i]?=some x->(l.set i y).countP p+(if p x=true then 1 else 0)=l.countP p+(if p y=true then 1 else 0)
 | [],i,x,y,h=>by simp at h
 | z :: l,0,x,y,h=>by
  simp at h;subst h;simp only [List.set_cons_zero,List.countP_cons];omega
 | z :: l,i+1,x,y,h=>by
  have:=Af9 (p:=p) (l:=l) (i:=i) (x:=x) (y:=y) (by simpa using h);simp only [List.set_cons_succ,List.countP_cons];omega
def Ase {st:List Int×List Int} {k x:Int} (b:st.1[k.toNat]?=some x):Jq (Qt st k)<=Jq st:=by
 unfold Qt;rw [Qu _ _ _ b];have c:=(Aq.1 b).1;have a:=Af9 (p:=fun x=>decide (0<x)) (y:=x-1) b;have d:((st.1.set k.toNat (x-1))[k.toNat]?).getD 0=x-1:=by simp [c]
 rw [d];unfold Jq;simp only [Ja] at a;split
 .rename_i e;rw [Asd];simp only;rw [Ad (by omega),Ac (by omega)] at a;omega
 .simp only
  split at a<;>split at a<;>omega
def Asf {st:List Int×List Int} {k x:Int} (a:st.1[k.toNat]?=some x):Qt st k=(st.1.set k.toNat (x-1),if x-1=0 then fk k st.2 else st.2):=by
 have b:=(Aq.1 a).1;unfold Qt;rw [Qu _ _ _ a];have c:((st.1.set k.toNat (x-1))[k.toNat]?).getD 0=x-1:=by simp [b]
 rw [c]
def Gm.set {d e a b:Int} {l:List Int} {i:Nat} {y:Int} (h:Gm d e l) (j:a<=d) (k:e<=b) (h1:a<=y) (f:y<=b):Gm a b (l.set i y):=fun x g=>by
 rcases Uu g with c | rfl
 .have:=h x c;omega
 .exact ⟨h1,f⟩
def Aga {a:List (List Int)} {s:qh} {p:Nat} (h:(Gl a s p).free=[]):∀ n,p<=n->Gl a s n=Gl a s p
 | 0,hn=>by
  obtain rfl:p=0:=by omega
  rfl
 | n+1,hn=>by
  by_cases e:p=n+1
  .rw [e]
  .have b:=Aga h n (by omega);show Si a (Gl a s n)=_;rw [b];unfold Si;rw [h]
structure Fc (l:Lf) (r:Int):Prop where
 right:Kz l=true
 wait:dx l.st=true->l.bm+l.left=r
 live:df l.st=true->l.bm+l.left=r+1
 dq:l.bm+l.left<=r+1
def Of {st a left r:Int} {b c:Bool} (h:(1<=st/\st<=8/\0<=a/\0<=left/\a<=Ep st/\left<=Ep st-a)/\¬ (a=0/\(df st=true\/(jk st=true/\st≠8)))/\(st=4\/(b=false/\c=false)))
  (h1:dx st=true->a+left=r) (d:df st=true->a+left=r+1) (e:a+left<=r+1):Fc ⟨st,a,left,b,c⟩ r:=⟨(Vn _ _ _ _ _).2 h,h1,d,e⟩
def Uj:Ep 1=5:=rfl
def Aaa:Ep 2=5:=rfl
def Asw:Ep 3=6:=rfl
def Asx:Ep 4=6:=rfl
def Asy:Ep 8=6:=rfl
def Asz {r:Int} {h:Bool} (h1:0<=r) (a:r<=5):Fc (J3 r h).1 r/\dx (J3 r h).1.st=true:=by
 unfold J3;rw [Ac (by omega)];cases h
 .exact ⟨Of ⟨by simp only [Bool.false_eq_true,if_false];rw [Uj];omega,by simp [df,jk],.inr ⟨rfl,rfl⟩⟩ (fun _=>by omega) (fun c=>by simp [df] at c) (by omega),by simp [dx]⟩
 .exact ⟨Of ⟨by simp only [Ky];rw [Aaa];omega,by simp [df,jk],.inr ⟨rfl,rfl⟩⟩ (fun _=>by omega) (fun c=>by simp [df] at c) (by omega),by simp [dx]⟩
def Sl {st d left r:Int} {e f:Bool} (h:Fc ⟨st,d,left,e,f⟩ r):(1<=st/\st<=8/\0<=d/\0<=left/\d<=Ep st/\left<=Ep st-d)/\¬ (d=0/\(df st=true\/(jk st=true/\st≠8)))/\(st=4\/(e=false/\f=false))/\(dx st=true->d+left=r)/\(df st=true->d+left=r+1)/\d+left<=r+1:=by
 obtain ⟨a,b,c⟩:=(Vn _ _ _ _ _).1 h.right;exact ⟨a,b,c,h.wait,h.live,h.dq⟩
def Agf {l:Lf} {r s:Int} (h:Fc l r) (k:dx l.st=true) (n:s=6\/s=7):Fc (Ay l s).1 r/\(Ay l s).1.st=8:=by
 rw [P9 h.right k];obtain ⟨st,m,left,g,i⟩:=l
 have e:Ef ⟨st,m,left,g,i⟩ s=(⟨8,m,left,g,i⟩,true):=by
  unfold Ef
  rcases n with rfl | rfl<;>simp
 obtain ⟨a,b,c,d,_,f⟩:=Sl h;rw [e];simp only [Ky];have j:st=1\/st=2:=M5.1 k
 have o:g=false/\i=false:=by
  rcases c with c | c
  .omega
  .exact c
 have p:Ep st=5:=by rcases j with rfl | rfl<;>rfl
 rw [p] at a;exact ⟨Of ⟨by rw [Asy];omega,by simp [df,jk],.inr o⟩ (fun c=>by simp [dx] at c) (fun c=>by simp [df] at c) f,by first | rfl | trivial⟩
def As0 {l:Lf} {r:Int} (h:Fc l r) (j:l.st=1):Fc (Ay l 1).1 r/\(Ay l 1).1.st=2:=by
 rw [P9 h.right (M5.2 (.inl j))];obtain ⟨st,k,left,g,i⟩:=l;have j:st=1:=j;subst j;have e:Ef ⟨1,k,left,g,i⟩ 1=(⟨2,k,left,g,i⟩,true):=by simp [Ef]
 obtain ⟨a,b,c,d,_,f⟩:=Sl h;rw [e];simp only [Ky]
 have m:g=false/\i=false:=by
  rcases c with c | c
  .omega
  .exact c
 rw [Uj] at a;exact ⟨Of ⟨by rw [Aaa];omega,by simp [df,jk],.inr m⟩ (fun _=>d (by decide)) (fun c=>by simp [df] at c) f,by first | rfl | trivial⟩
def As1 {l:Lf} {r:Int} (h:Fc l r) (j:l.st=2):Fc (Ay l 2).1 r/\(Ay l 2).1.st=1:=by
 rw [P9 h.right (M5.2 (.inr j))];obtain ⟨st,k,left,g,i⟩:=l;have j:st=2:=j;subst j;have e:Ef ⟨2,k,left,g,i⟩ 2=(⟨1,k,left,g,i⟩,true):=by simp [Ef]
 obtain ⟨a,b,c,d,_,f⟩:=Sl h;rw [e];simp only [Ky]
 have m:g=false/\i=false:=by
  rcases c with c | c
  .omega
  .exact c
 rw [Aaa] at a;exact ⟨Of ⟨by rw [Uj];omega,by simp [df,jk],.inr m⟩ (fun _=>d (by decide)) (fun c=>by simp [df] at c) f,by first | rfl | trivial⟩
def As2 {l:Lf} {r:Int} (h:Fc l r) (j:l.st=1):Fc (Ay l 3).1 r/\(Ay l 3).1.st=3:=by
 rw [P9 h.right (M5.2 (.inl j))];obtain ⟨st,k,left,g,i⟩:=l;have j:st=1:=j;subst j;have e:Ef ⟨1,k,left,g,i⟩ 3=(⟨3,k+1,left,g,i⟩,true):=by simp [Ef]
 obtain ⟨a,b,c,d,_,f⟩:=Sl h;rw [e];simp only [Ky]
 have m:g=false/\i=false:=by
  rcases c with c | c
  .omega
  .exact c
 have d:=d (by decide);rw [Uj] at a;exact ⟨Of ⟨by rw [Asw];omega,by simp [df,jk];omega,.inr m⟩ (fun c=>by simp [dx] at c) (fun _=>by omega) (by omega),by first | rfl | trivial⟩
def Aab {l:Lf} {r s:Int} (h:Fc l r) (k:df l.st=true) (m:s=4\/s=5\/(s=6/\l.stop=false)):Fc (Ay l s).1 r/\(Ay l s).1.st=4/\(Ay l s).2=0:=by
 have i:=L7.1 k;rw [Rz h.right (by rcases i with e | e<;>rw [e]<;>rfl) k];obtain ⟨st,n,left,j,g⟩:=l;have i:st=3\/st=4:=i;have m:s=4\/s=5\/(s=6/\g=false):=m
 have e:Dc ⟨st,n,left,j,g⟩ s=(⟨4,n,left,j || decide (s=4),g || decide (s=6)⟩,true):=by
  unfold Dc
  rcases m with rfl | rfl | ⟨rfl,rfl⟩<;>simp
 obtain ⟨a,b,c,_,d,f⟩:=Sl h;have o:df st=true:=k;have d:=d o
 have p:Ep st=6:=by rcases i with rfl | rfl<;>rfl
 have q:n≠0:=fun e=>b ⟨e,.inl o⟩;rw [e];simp only [Ky];rw [p] at a;exact ⟨Of ⟨by rw [Asx];omega,fun c=>q c.1,.inl rfl⟩ (fun c=>by simp [dx] at c) (fun _=>d) f,by first | rfl | trivial,by first | rfl | trivial⟩
def As3 {l:Lf} {r:Int} (h:Fc l r) (o:df l.st=true):Fc (Ay l 8).1 r/\((Ay l 8).1.st=1\/(5<=(Ay l 8).1.st/\(Ay l 8).1.st<=8)):=by
 have i:=L7.1 o;rw [Rz h.right (by rcases i with e | e<;>rw [e]<;>rfl) o];obtain ⟨st,n,left,j,k⟩:=l;have i:st=3\/st=4:=i;obtain ⟨a,b,c,_,d,f⟩:=Sl h;have p:df st=true:=o;have d:=d p
 have s:Ep st=6:=by rcases i with rfl | rfl<;>rfl
 have q:n≠0:=fun e=>b ⟨e,.inl p⟩;rw [s] at a
 have g:∀ (m:Int),5<=m->m<=8->Fc ⟨m,n,left,false,false⟩ r:=fun m h1 t=>by
  have e:Ep m=6:=by unfold Ep;rw [Ac];intro c;rw [M5] at c;omega
  exact Of ⟨by rw [e];omega,fun c=>q c.1,.inr ⟨rfl,rfl⟩⟩ (fun c=>by rw [M5] at c;omega) (fun c=>by rw [L7] at c;omega) f
 rcases i with rfl | rfl
 .obtain ⟨rfl,rfl⟩:j=false/\k=false:=by
   rcases c with c | c
   .omega
   .exact c
  have e:Dc ⟨3,n,left,false,false⟩ 8=(⟨5,n,left,false,false⟩,true):=by simp [Dc]
  rw [e];exact ⟨g 5 (by omega) (by omega),.inr ⟨by show (5:Int)<=5;omega,by show (5:Int)<=8;omega⟩⟩
 .have e:Dc ⟨4,n,left,j,k⟩ 8=(Nw ⟨4,n,left,j,k⟩,true):=by simp [Dc]
  rw [e];simp only [Ky];unfold Nw;split
  .exact ⟨g 8 (by omega) (by omega),.inr ⟨by show (5:Int)<=8;omega,by show (8:Int)<=8;omega⟩⟩
  split
  .exact ⟨g 6 (by omega) (by omega),.inr ⟨by show (5:Int)<=6;omega,by show (6:Int)<=8;omega⟩⟩
  split
  .rename_i h1;have h1:0<left:=h1;refine ⟨Of ⟨?_,fun c=>q c.1,.inr ⟨rfl,rfl⟩⟩ (fun _=>?_) (fun c=>by simp [df] at c) ?_,.inl rfl⟩
   .rw [Uj];simp only;omega
   .simp only;omega
   .simp only;omega
  .exact ⟨g 7 (by omega) (by omega),.inr ⟨by show (5:Int)<=7;omega,by show (7:Int)<=8;omega⟩⟩
def As4 {l:Lf} {r s:Int} (h:Fc l r) (h0:(Ay l s).2=0) (j:s=6\/s=1\/s=2):Fc (Ay l s).1 r/\((df l.st=true/\(Ay l s).1.st=4)\/(df l.st=false/\dx l.st=true/\df (Ay l s).1.st=false/\((Ay l s).1.st=1\/(Ay l s).1.st=2\/(Ay l s).1.st=8))):=by
 by_cases f:dx l.st=true
 .have c:=M5.1 f
  have g:df l.st=false:=by rcases c with e | e<;>rw [e]<;>rfl
  rcases j with rfl | rfl | rfl
  .obtain ⟨a,b⟩:=Agf h f (.inl rfl);exact ⟨a,.inr ⟨g,f,by rw [b];rfl,.inr (.inr b)⟩⟩
  .by_cases q:l.st=1
   .obtain ⟨a,b⟩:=As0 h q;exact ⟨a,.inr ⟨g,f,by rw [b];rfl,.inr (.inl b)⟩⟩
   .rw [P9 h.right f] at h0;have e:(Ef l 1).2=false:=(by unfold Ef;simp [q]);rw [e] at h0;simp at h0
  .by_cases q:l.st=2
   .obtain ⟨a,b⟩:=As1 h q;exact ⟨a,.inr ⟨g,f,by rw [b];rfl,.inl b⟩⟩
   .rw [P9 h.right f] at h0;have e:(Ef l 2).2=false:=(by unfold Ef;simp [q]);rw [e] at h0;simp at h0
 .have d:dx l.st=false:=by simpa using f
  by_cases i:df l.st=true
  .rcases j with rfl | rfl | rfl
   .cases c:l.stop with
    | true=>
     rw [Rz h.right d i] at h0;have e:(Dc l 6).2=false:=(by unfold Dc;simp [c]);rw [e] at h0;simp at h0
    | false=>
     obtain ⟨a,b,_⟩:=Aab h i (.inr (.inr ⟨rfl,c⟩));exact ⟨a,.inl ⟨i,b⟩⟩
   .rw [Rz h.right d i] at h0;have e:(Dc l 1).2=false:=(by unfold Dc;simp);rw [e] at h0;simp at h0
   .rw [Rz h.right d i] at h0;have e:(Dc l 2).2=false:=(by unfold Dc;simp);rw [e] at h0;simp at h0
  .rw [Acz h.right d (by simpa using i)] at h0;simp at h0
end Go.Proofs.YtimlcnhcjndijaaGreatDoor
