/- Parts of a proof. No condition. -/
import Derived.Test.YtimlcnhcjndijaaGreatDoorF02
import Derived.Test.YtimlcnhcjndijaaGreatDoorF03
import Derived.Deep.DeepCutAuto
import Derived.Deep.RegionHeld3
set_option linter.all false
set_option maxRecDepth 100000
set_option maxHeartbeats 6400000
namespace Go.Proofs.YtimlcnhcjndijaaGreatDoor
open Go renaming World->WD,Calls->CS
open Go.RowKit renaming Below->BW
open Go.Proofs.Tryz
section
open Go.RowKit Go.Maps Go.Lib
variable{w w' wr:WD}
abbrev Sr (s:el):Array Value:=#[.int .i64 s.1,.int .i64 s.2]
abbrev Qx (s:el):Value:=.agg #[.int .i64 s.1,.int .i64 s.2]
def Abi (s:el) (w:WD):CS prog 293 #[Qx s] w fun e w'=>e=.returned (Qx (Ek s))/\BW w.heap.size w w':=by
 obtain ⟨a,b⟩:=s;go_enter func293,ntmps293;go_wp2;refine Ak (v:=Qx (Ek (a,b))) (by simp [results,results293,go_sem,Ek]) rfl ⟨rfl,?_⟩;exact Bn.alloc (by simp) _
def Abj {k:IntKind} {a b:Int} (h:a=b):Ending.returned (.int k a)=.returned (.int k b):=by rw [h]
def Aic (s:el) (w:WD):CS prog 294 #[Qx s] w fun e w'=>e=.returned (.int .i64 (It s))/\BW w.heap.size w w':=by
 obtain ⟨a,b⟩:=s;go_enter func294,ntmps294;go_wp2
 all_goals
  go_ret;exact ⟨Abj (by simp_all [It]),Bn⟩
def Pm (a b:Int) (w:WD):CS prog 295 #[.int .u64 a,.int .u64 b] w fun e w'=>e=.returned (.int .i64 (Gm a b))/\w'=w:=by
 go_enter func295,ntmps295;go_wp2
 all_goals
  go_ret;exact ⟨Abj (by unfold Gm;split<;>(try split)<;>omega),rfl⟩
def Aid (s:el):It s=0\/It s=1\/It s=2:=by
 unfold It;split
 .exact .inl rfl
 .split
  .exact .inr (.inr rfl)
  .exact .inr (.inl rfl)
structure mh (w:WD) (a b:el) (wr:WD):Prop where
 low:BW w.heap.size w wr
 ba:wr.heap[w.heap.size]?=some (.cells (Sr a) 333 (0,0))
 bb:wr.heap[w.heap.size+1]?=some (.cells (Sr b) 333 (0,0))
def mh.lt  {a b:el} (h:mh w a b wr):w.heap.size+1<wr.heap.size:=Ab h.bb
def mh.below  {a b:el} (h:mh w a b wr) (c:BW wr.heap.size wr w'):mh w a b w':=⟨h.low.trans (c.mono h.low.size),Ae c h.ba (Ab h.ba),Ae c h.bb (Ab h.bb)⟩
def mh.dx  {a b:el} (h:mh w a b wr) (c:BW wr.drew.heap.size wr.drew w'):mh w a b w':=
 h.below ((⟨rfl,rfl,rfl,Nat.le_refl _,fun _ _=>rfl⟩:BW wr.heap.size wr wr.drew).trans c)
def mh.new (w:WD) (a b:el):mh w a b ((w.alloc (.cells (Sr a) 333 (0,0))).alloc (.cells (Sr b) 333 (0,0))):=
 ⟨Bn.alloc (by simp) _,Aj _ (Ah _ _),A3 _ _ (by simp)⟩
def Aug  {a b:el} (h:mh w a b wr) (p r:el):mh w p r ((((wr.setCell ⟨w.heap.size,0,none⟩ (.int .i64 p.1)).setCell ⟨w.heap.size,1,none⟩ (.int .i64 p.2)).setCell ⟨w.heap.size+1,0,none⟩ (.int .i64 r.1)).setCell ⟨w.heap.size+1,1,none⟩ (.int .i64 r.2)):=
 ⟨(((h.low.setCell Ln _).setCell Ln _).setCell (Dx _) _).setCell (Dx _) _,
  C0 (by omega) _ (C0 (by omega) _ (Am (Am h.ba 0 _) 1 _)),Am (Am (C0 (by omega) _ (C0 (by omega) _ h.bb)) 0 _) 1 _⟩
def Aie (a b c d:Nat) :
  Gm ((a:Int)*b) ((c:Int)*d)=if a*b / 18446744073709551616=c*d / 18446744073709551616 then Gm ((a*b % 18446744073709551616:Nat):Int) ((c*d % 18446744073709551616:Nat):Int) else Gm ((a*b / 18446744073709551616:Nat):Int) ((c*d / 18446744073709551616:Nat):Int):=by
 have e:=(Int.natCast_mul a b).symm;have f:=(Int.natCast_mul c d).symm;rw [e,f];generalize a*b=x;generalize c*d=y;unfold Gm
 split<;>split<;>(try split)<;>(try split)<;>omega
structure xl (w:WD) (a b:el) (x y:Int) (xv yv:Value) (wr:WD):Prop where
 ex:xv=.int .i64 x
 ey:yv=.int .i64 y
 cm:mh w a b wr
def Aif (s t:el) (w:WD) (h1:s.1<=9223372036854775807) (h2:s.2<=9223372036854775807) (h3:t.1<=9223372036854775807) (h4:t.2<=9223372036854775807):CS prog 251 #[Qx s,Qx t] w fun e w'=>e=.returned (.int .i64 (F6 s t))/\BW w.heap.size w w':=by
 obtain ⟨a1,a2⟩:=s;obtain ⟨b1,b2⟩:=t;have g:=mh.new w (a1,a2) (b1,b2);obtain ⟨W0,i⟩:=Ex ((w.alloc (.cells (Sr (a1,a2)) 333 (0,0))).alloc (.cells (Sr (b1,b2)) 333 (0,0)));have ka:=fun W=>Abi (a1,a2) W;have kb:=fun W=>Abi (b1,b2) W;obtain ⟨⟨j,k⟩,hp⟩:∃ p,p=Ek (a1,a2):=⟨_,rfl⟩;obtain ⟨⟨y,l⟩,hr⟩:∃ p,p=Ek (b1,b2):=⟨_,rfl⟩;rw [<- hp] at ka;rw [<- hr] at kb;replace ka:∀ W,CS prog 293 #[.agg #[.int .i64 a1,.int .i64 a2]] W fun e w'=>e=.returned (.agg #[.int .i64 j,.int .i64 k])/\BW W.heap.size W w':=ka;replace kb:∀ W,CS prog 293 #[.agg #[.int .i64 b1,.int .i64 b2]] W fun e w'=>e=.returned (.agg #[.int .i64 y,.int .i64 l])/\BW W.heap.size W w':=kb;have x0:W0.cell? ⟨w.heap.size,0,none⟩=some (.int .i64 a1):=by rw [i];exact Aa g.ba 0
 have x1:W0.cell? ⟨w.heap.size,1,none⟩=some (.int .i64 a2):=by rw [i];exact Aa g.ba 1
 have x2:W0.cell? ⟨w.heap.size+1,0,none⟩=some (.int .i64 b1):=by rw [i];exact Aa g.bb 0
 have x3:W0.cell? ⟨w.heap.size+1,1,none⟩=some (.int .i64 b2):=by rw [i];exact Aa g.bb 1
 have hs:w.heap.size+1<W0.heap.size:=by rw [i];exact g.lt
 have f0:∀ o,W0.frozen? ⟨w.heap.size,o,none⟩=false:=by rw [i];exact Af g.ba
 have f1:∀ o,W0.frozen? ⟨w.heap.size+1,o,none⟩=false:=by rw [i];exact Af g.bb
 rw [<- i] at g;replace ⟨g,ka,kb,hp,hr⟩:=H5 g ka kb hp hr;go_enter func251,ntmps251;go_upto_region 1 with fail;rw [<- i];clear i;go_cut [] (fun wx=>mh w (j,k) (y,l) wx)
 case first=>
  go_region_with (go_at_call 293;((first | (with_reducible refine (ka.out _).mono ?_) | (with_reducible refine (kb.out _).mono ?_));rintro e w1 ⟨rfl,v⟩;have g:=(by first | exact Hh (g.below v) | exact Hh (g.dx v));have x0:=(Ag v (by first | omega | (simp;omega))).trans x0;have x1:=(Ag v (by first | omega | (simp;omega))).trans x1;have x2:=(Ag v (by first | omega | (simp;omega))).trans x2;have x3:=(Ag v (by first | omega | (simp;omega))).trans x3;have hs:=Bx hs v.size;have f0:=fun o=>(v.frozen (p:=⟨w.heap.size,o,none⟩) (by first | (show w.heap.size<_;omega) | (simp;omega))).trans (f0 o);have f1:=fun o=>(v.frozen (p:=⟨w.heap.size+1,o,none⟩) (by first | (show w.heap.size+1<_;omega) | (simp;omega))).trans (f1 o)))
  all_goals
   go_wp2_with fail;go_meet;exact Aug g.out (j,k) (y,l)
 case rest=>
  obtain ⟨hl,al,am⟩:=hcut;have c0:=Bk al 0 (.int .i64 j) rfl;have c1:=Bk al 1 (.int .i64 k) rfl;have c2:=Bk am 0 (.int .i64 y) rfl;have c3:=Bk am 1 (.int .i64 l) rfl;have ac:F6 (a1,a2) (b1,b2)=if (j,k)=(y,l) then 0 else if It (j,k)≠1\/It (y,l)≠1 then Gm (It (j,k)) (It (y,l)) else Gm (j*l) (y*k):=by unfold F6;rw [<- hp.out,<- hr.out]
  have av:0<=j/\0<=k/\j<=9223372036854775807/\k<=9223372036854775807:=by have:=hp.out;simp only [Ek,Rj] at this;simp only at h1 h2;omega
  have aA:0<=y/\0<=l/\y<=9223372036854775807/\l<=9223372036854775807:=by have:=hr.out;simp only [Ek,Rj] at this;simp only at h3 h4;omega
  have hC:=mh.mk hl al am;clear hl al am h1 h2 h3 h4;replace ⟨ac,hC⟩:=H2 ac hC;have kh:=fun W=>Aic (j,k) W;have kg:=fun W=>Aic (y,l) W;obtain ⟨ha,an⟩:=Ex (It (j,k));obtain ⟨f,ao⟩:=Ex (It (y,l));have ca:=Aid (j,k);have cb:=Aid (y,l);rw [<- an] at kh ca ac;rw [<- ao] at kg cb ac;replace kh:∀ W,CS prog 294 #[.agg #[.int .i64 j,.int .i64 k]] W fun e w'=>e=.returned (.int .i64 ha)/\BW W.heap.size W w':=kh;replace kg:∀ W,CS prog 294 #[.agg #[.int .i64 y,.int .i64 l]] W fun e w'=>e=.returned (.int .i64 f)/\BW W.heap.size W w':=kg;have hs:=hC.lt;replace ⟨kh,kg,an,ao⟩:=H4 kh kg an ao;by_cases qe:(j,k)=(y,l)
  .have hz:F6 (a1,a2) (b1,b2)=0:=(by rw [ac.out,Ad qe]);simp only [Rj] at qe;obtain ⟨rfl,rfl⟩:=qe;replace ⟨hz,ca,cb⟩:=H3 hz ca cb;go_wp2
   all_goals first
    | (exfalso;rename_i hh;exact hh rfl)
    | (go_ret;exact ⟨by rw [hz.out];rfl,hC.low⟩)
  .have hz:F6 (a1,a2) (b1,b2)=if ha≠1\/f≠1 then Gm ha f else Gm (j*l) (y*k):=(by rw [ac.out,Ac qe]);clear ac;by_cases q1:j=y
   .subst q1;have q2:¬ k=l:=fun e=>qe (by rw [e]);obtain ⟨h,rfl⟩:∃ n:Nat,j=(n:Int):=⟨j.toNat,by omega⟩;obtain ⟨n2,rfl⟩:∃ n:Nat,k=(n:Int):=⟨k.toNat,by omega⟩;obtain ⟨z,rfl⟩:∃ n:Nat,l=(n:Int):=⟨l.toNat,by omega⟩;have mA:=Tryz.bits_Mul64 h z (by omega) (by omega);have mB:=Tryz.bits_Mul64 h n2 (by omega) (by omega);have x:=Aie h z h n2
    have hS:∀ W,BW wc.drew.heap.size wc.drew W->W.cell? ⟨w.heap.size,0,none⟩=some (.int .i64 h)/\W.cell? ⟨w.heap.size,1,none⟩=some (.int .i64 n2)/\W.cell? ⟨w.heap.size+1,0,none⟩=some (.int .i64 h)/\W.cell? ⟨w.heap.size+1,1,none⟩=some (.int .i64 z):=fun W f=>
     ⟨Aa (hC.dx f).ba 0,Aa (hC.dx f).ba 1,Aa (hC.dx f).bb 0,Aa (hC.dx f).bb 1⟩
    have b:=Below.refl wc.drew.heap.size wc.drew;have q2:=q2;replace ⟨hz,ca,cb,mA,mB,hS,b,x⟩:=H8 hz ca cb mA mB hS b x;replace qe:=Hh qe;go_upto_region 4 with fail;go_cut [5,6] (fun xv yv wx=>xl w (h,n2) (h,z) ha f xv yv wx)
    case first=>
     go_region_held3 (fun W'=>W'.cell? ⟨w.heap.size,0,none⟩=some (.int .i64 h)/\W'.cell? ⟨w.heap.size,1,none⟩=some (.int .i64 n2)/\W'.cell? ⟨w.heap.size+1,0,none⟩=some (.int .i64 h)/\W'.cell? ⟨w.heap.size+1,1,none⟩=some (.int .i64 z))
      (first
        | with_reducible exact hS.out _ b.out)
      (first
        | (go_at_call 294
           (first | (with_reducible refine (kh.out _).mono ?_) | (with_reducible refine (kg.out _).mono ?_))
           rintro e wz ⟨rfl,ad⟩;replace b:=Hh (b.trans (ad.mono b.size))
           clear ad))
     all_goals
      go_wp2_with fail;go_meet;exact ⟨rfl,rfl,hC.dx b.out⟩
    case rest=>
     obtain ⟨rfl,rfl,c⟩:=hcut;clear c0 c1 c2 c3;have c0:=Aa c.ba 0;have c1:=Aa c.ba 1;have c2:=Aa c.bb 0;have c3:=Aa c.bb 1;simp at c0 c1 c2 c3;clear hS b kh kg;obtain ⟨A1,q⟩:=Ex (h*z / 18446744073709551616);obtain ⟨A0,m⟩:=Ex (h*z % 18446744073709551616);obtain ⟨B1,u⟩:=Ex (h*n2 / 18446744073709551616);obtain ⟨B0,r⟩:=Ex (h*n2 % 18446744073709551616);rw [<- q,<- m] at mA;rw [<- u,<- r] at mB;rw [<- q,<- m,<- u,<- r] at x;replace ⟨c,q,m,u,r⟩:=H5 c q m u r;by_cases x1:ha=1
     .subst x1;by_cases x2:f=1
      .subst x2;have a:F6 (a1,a2) (b1,b2)=Gm (↑h*↑z) (↑h*↑n2):=(by rw [hz.out,Ac (by omega)]);rw [x.out] at a;by_cases x3:A1=B1
       .subst x3;rw [Ad rfl] at a;replace a:=Hh a;go_wp2_with (first | (go_at_call 295;(with_reducible refine (Pm _ _ _).mono ?_);rintro e w1 ⟨rfl,rfl⟩) | (go_at_call 296;(first | (with_reducible refine (mA.out _).mono ?_) | (with_reducible refine (mB.out _).mono ?_));rintro e w1 ⟨rfl,rfl⟩));go_ret;exact ⟨by rw [a.out];rfl,c.low⟩
       .have x4:((A1:Int) != (B1:Int))=true:=(by rw [Fp];omega);rw [Ac x3] at a;replace ⟨a,x3⟩:=H2 a x3;go_wp2_with (first | (go_at_call 295;(with_reducible refine (Pm _ _ _).mono ?_);rintro e w1 ⟨rfl,rfl⟩) | (go_at_call 296;(first | (with_reducible refine (mA.out _).mono ?_) | (with_reducible refine (mB.out _).mono ?_));rintro e w1 ⟨rfl,rfl⟩));go_ret;exact ⟨by rw [a.out];rfl,c.low⟩
      .have d:(f != 1)=true:=(by rw [Fp];exact x2);have a:F6 (a1,a2) (b1,b2)=Gm 1 f:=(by rw [hz.out,Ad (.inr x2)]);obtain ⟨hn,rfl⟩:∃ n:Nat,f=(n:Int):=⟨f.toNat,by have:=cb.out;omega⟩;have bd:hn<=2:=(by have:=cb.out;omega);replace ⟨a,x2⟩:=H2 a x2;go_wp2_with ((go_at_call 295;(with_reducible refine (Pm _ _ _).mono ?_);rintro e w1 ⟨rfl,rfl⟩));go_ret;exact ⟨by rw [a.out];rfl,c.low⟩
     .have d:(ha != 1)=true:=(by rw [Fp];exact x1);have a:F6 (a1,a2) (b1,b2)=Gm ha f:=(by rw [hz.out,Ad (.inl x1)]);obtain ⟨hn,rfl⟩:∃ n:Nat,f=(n:Int):=⟨f.toNat,by have:=cb.out;omega⟩;have bd:hn<=2:=(by have:=cb.out;omega);obtain ⟨hm,rfl⟩:∃ n:Nat,ha=(n:Int):=⟨ha.toNat,by have:=ca.out;omega⟩;have ap:hm<=2:=(by have:=ca.out;omega);replace ⟨a,x1⟩:=H2 a x1;go_wp2_with ((go_at_call 295;(with_reducible refine (Pm _ _ _).mono ?_);rintro e w1 ⟨rfl,rfl⟩));go_ret;exact ⟨by rw [a.out];rfl,c.low⟩
   .skip
    obtain ⟨h,rfl⟩:∃ n:Nat,j=(n:Int):=⟨j.toNat,by omega⟩;obtain ⟨n2,rfl⟩:∃ n:Nat,k=(n:Int):=⟨k.toNat,by omega⟩;obtain ⟨m1,rfl⟩:∃ n:Nat,y=(n:Int):=⟨y.toNat,by omega⟩;obtain ⟨z,rfl⟩:∃ n:Nat,l=(n:Int):=⟨l.toNat,by omega⟩;have mA:=Tryz.bits_Mul64 h z (by omega) (by omega);have mB:=Tryz.bits_Mul64 m1 n2 (by omega) (by omega);have x:=Aie h z m1 n2
    have hS:∀ W,BW wc.drew.heap.size wc.drew W->W.cell? ⟨w.heap.size,0,none⟩=some (.int .i64 h)/\W.cell? ⟨w.heap.size,1,none⟩=some (.int .i64 n2)/\W.cell? ⟨w.heap.size+1,0,none⟩=some (.int .i64 m1)/\W.cell? ⟨w.heap.size+1,1,none⟩=some (.int .i64 z):=fun W f=>
     ⟨Aa (hC.dx f).ba 0,Aa (hC.dx f).ba 1,Aa (hC.dx f).bb 0,Aa (hC.dx f).bb 1⟩
    have b:=Below.refl wc.drew.heap.size wc.drew;have q1:=q1;replace ⟨hz,ca,cb,mA,mB,hS,b,x⟩:=H8 hz ca cb mA mB hS b x;replace qe:=Hh qe;go_upto_region 4 with fail;go_cut [5,6] (fun xv yv wx=>xl w (h,n2) (m1,z) ha f xv yv wx)
    case first=>
     go_region_held3 (fun W'=>W'.cell? ⟨w.heap.size,0,none⟩=some (.int .i64 h)/\W'.cell? ⟨w.heap.size,1,none⟩=some (.int .i64 n2)/\W'.cell? ⟨w.heap.size+1,0,none⟩=some (.int .i64 m1)/\W'.cell? ⟨w.heap.size+1,1,none⟩=some (.int .i64 z))
      (first
        | with_reducible exact hS.out _ b.out)
      (first
        | (go_at_call 294
           (first | (with_reducible refine (kh.out _).mono ?_) | (with_reducible refine (kg.out _).mono ?_))
           rintro e wz ⟨rfl,ad⟩;replace b:=Hh (b.trans (ad.mono b.size))
           clear ad))
     all_goals
      go_wp2_with fail;go_meet;exact ⟨rfl,rfl,hC.dx b.out⟩
    case rest=>
     obtain ⟨rfl,rfl,c⟩:=hcut;clear c0 c1 c2 c3;have c0:=Aa c.ba 0;have c1:=Aa c.ba 1;have c2:=Aa c.bb 0;have c3:=Aa c.bb 1;simp at c0 c1 c2 c3;clear hS b kh kg;obtain ⟨A1,q⟩:=Ex (h*z / 18446744073709551616);obtain ⟨A0,m⟩:=Ex (h*z % 18446744073709551616);obtain ⟨B1,u⟩:=Ex (m1*n2 / 18446744073709551616);obtain ⟨B0,r⟩:=Ex (m1*n2 % 18446744073709551616);rw [<- q,<- m] at mA;rw [<- u,<- r] at mB;rw [<- q,<- m,<- u,<- r] at x;replace ⟨c,q,m,u,r⟩:=H5 c q m u r;by_cases x1:ha=1
     .subst x1;by_cases x2:f=1
      .subst x2;have a:F6 (a1,a2) (b1,b2)=Gm (↑h*↑z) (↑m1*↑n2):=(by rw [hz.out,Ac (by omega)]);rw [x.out] at a;by_cases x3:A1=B1
       .subst x3;rw [Ad rfl] at a;replace a:=Hh a;go_wp2_with (first | (go_at_call 295;(with_reducible refine (Pm _ _ _).mono ?_);rintro e w1 ⟨rfl,rfl⟩) | (go_at_call 296;(first | (with_reducible refine (mA.out _).mono ?_) | (with_reducible refine (mB.out _).mono ?_));rintro e w1 ⟨rfl,rfl⟩));go_ret;exact ⟨by rw [a.out];rfl,c.low⟩
       .have x4:((A1:Int) != (B1:Int))=true:=(by rw [Fp];omega);rw [Ac x3] at a;replace ⟨a,x3⟩:=H2 a x3;go_wp2_with (first | (go_at_call 295;(with_reducible refine (Pm _ _ _).mono ?_);rintro e w1 ⟨rfl,rfl⟩) | (go_at_call 296;(first | (with_reducible refine (mA.out _).mono ?_) | (with_reducible refine (mB.out _).mono ?_));rintro e w1 ⟨rfl,rfl⟩));go_ret;exact ⟨by rw [a.out];rfl,c.low⟩
      .have d:(f != 1)=true:=(by rw [Fp];exact x2);have a:F6 (a1,a2) (b1,b2)=Gm 1 f:=(by rw [hz.out,Ad (.inr x2)]);obtain ⟨hn,rfl⟩:∃ n:Nat,f=(n:Int):=⟨f.toNat,by have:=cb.out;omega⟩;have bd:hn<=2:=(by have:=cb.out;omega);replace ⟨a,x2⟩:=H2 a x2;go_wp2_with ((go_at_call 295;(with_reducible refine (Pm _ _ _).mono ?_);rintro e w1 ⟨rfl,rfl⟩));go_ret;exact ⟨by rw [a.out];rfl,c.low⟩
     .have d:(ha != 1)=true:=(by rw [Fp];exact x1);have a:F6 (a1,a2) (b1,b2)=Gm ha f:=(by rw [hz.out,Ad (.inl x1)]);obtain ⟨hn,rfl⟩:∃ n:Nat,f=(n:Int):=⟨f.toNat,by have:=cb.out;omega⟩;have bd:hn<=2:=(by have:=cb.out;omega);obtain ⟨hm,rfl⟩:∃ n:Nat,ha=(n:Int):=⟨ha.toNat,by have:=ca.out;omega⟩;have ap:hm<=2:=(by have:=ca.out;omega);replace ⟨a,x1⟩:=H2 a x1;go_wp2_with ((go_at_call 295;(with_reducible refine (Pm _ _ _).mono ?_);rintro e w1 ⟨rfl,rfl⟩));go_ret;exact ⟨by rw [a.out];rfl,c.low⟩
