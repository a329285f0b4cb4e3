/- share: plain, height, sign, Compare. Plain theorems: no condition. -/
import Derived.Test.YtimlcnhcjndijaaGreatDoorQ02
import Derived.Test.YtimlcnhcjndijaaGreatDoorQ03
import Derived.Deep.DeepCutAuto
import Derived.Deep.RegionHeld3
set_option linter.all false
set_option maxRecDepth 100000
set_option maxHeartbeats 6400000
namespace Go.Proofs.YtimlcnhcjndijaaGreatDoor
open Go.RowKit
abbrev Sh (s:ee):Array Value:=#[.int .i64 s.1,.int .i64 s.2]
abbrev Qs (s:ee):Value:=.agg #[.int .i64 s.1,.int .i64 s.2]
def Z2 (s:ee) (w:World):Calls Tryz.prog 293 #[Qs s] w fun e w'=>e=.returned (Qs (Eg s))/\Below w.heap.size w w':=by
 obtain ⟨a,b⟩:=s;go_enter Tryz.func293,Tryz.ntmps293;go_wp2;refine Ao (v:=Qs (Eg (a,b))) (by simp [results,Tryz.results293,go_sem,Eg]) rfl ⟨rfl,?_⟩;exact Bn.alloc (by simp) _
def Z3 {k:IntKind} {a b:Int} (h:a=b):Ending.returned (.int k a)=.returned (.int k b):=by rw [h]
def Af2 (s:ee) (w:World):Calls Tryz.prog 294 #[Qs s] w fun e w'=>e=.returned (.int .i64 (Id s))/\Below w.heap.size w w':=by
 obtain ⟨a,b⟩:=s;go_enter Tryz.func294,Tryz.ntmps294;go_wp2
 all_goals
  go_ret;exact ⟨Z3 (by simp_all [Id]),Bn⟩
def O8 (a b:Int) (w:World):Calls Tryz.prog 295 #[.int .u64 a,.int .u64 b] w fun e w'=>e=.returned (.int .i64 (Ge a b))/\w'=w:=by
 go_enter Tryz.func295,Tryz.ntmps295;go_wp2
 all_goals
  go_ret;exact ⟨Z3 (by unfold Ge;split<;>(try split)<;>omega),rfl⟩
def Af3 (s:ee):Id s=0\/Id s=1\/Id s=2:=by
 unfold Id;split
 .exact .inl rfl
 .split
  .exact .inr (.inr rfl)
  .exact .inr (.inl rfl)
structure lz (w:World) (a b:ee) (wr:World):Prop where
 low:Below w.heap.size w wr
 ba:wr.heap[w.heap.size]?=some (.cells (Sh a) 333 (0,0))
 bb:wr.heap[w.heap.size+1]?=some (.cells (Sh b) 333 (0,0))
def lz.lt {w wr:World} {a b:ee} (h:lz w a b wr):w.heap.size+1<wr.heap.size:=Ab h.bb
def lz.below {w wr w':World} {a b:ee} (h:lz w a b wr) (c:Below wr.heap.size wr w'):lz w a b w':=⟨h.low.trans (c.mono h.low.size),Ae c h.ba (Ab h.ba),Ae c h.bb (Ab h.bb)⟩
def lz.dt {w wr w':World} {a b:ee} (h:lz w a b wr) (c:Below wr.drew.heap.size wr.drew w'):lz w a b w':=
 h.below ((⟨rfl,rfl,rfl,Nat.le_refl _,fun _ _=>rfl⟩:Below wr.heap.size wr wr.drew).trans c)
def lz.new (w:World) (a b:ee):lz w a b ((w.alloc (.cells (Sh a) 333 (0,0))).alloc (.cells (Sh b) 333 (0,0))):=
 ⟨Bn.alloc (by simp) _,Ai _ (Af _ _),A2 _ _ (by simp)⟩
def Asb {w wr:World} {a b:ee} (h:lz w a b wr) (p r:ee):lz w p r ((((wr.setCell ⟨w.heap.size,0,none⟩ (.int .i64 p.1)).setCell ⟨w.heap.size,1,none⟩ (.int .i64 p.2)).setCell ⟨w.heap.size+1,0,none⟩ (.int .i64 r.1)).setCell ⟨w.heap.size+1,1,none⟩ (.int .i64 r.2)):=
 ⟨(((h.low.setCell Ln _).setCell Ln _).setCell (Ea _) _).setCell (Ea _) _,
  Dh (by omega) _ (Dh (by omega) _ (Al (Al h.ba 0 _) 1 _)),Al (Al (Dh (by omega) _ (Dh (by omega) _ h.bb)) 0 _) 1 _⟩
def Af4 (a b c d:Nat) :
  Ge ((a:Int)*b) ((c:Int)*d)=if a*b / 18446744073709551616=c*d / 18446744073709551616 then Ge ((a*b % 18446744073709551616:Nat):Int) ((c*d % 18446744073709551616:Nat):Int) else Ge ((a*b / 18446744073709551616:Nat):Int) ((c*d / 18446744073709551616:Nat):Int):=by
 have e:=(Int.natCast_mul a b).symm;have f:=(Int.natCast_mul c d).symm;rw [e,f];generalize a*b=x;generalize c*d=y;unfold Ge
 split<;>split<;>(try split)<;>(try split)<;>omega
structure xk (w:World) (a b:ee) (x y:Int) (xv yv:Value) (wr:World):Prop where
 ex:xv=.int .i64 x
 ey:yv=.int .i64 y
 cm:lz w a b wr
def Af5 (s t:ee) (w:World) (h1:s.1<=9223372036854775807) (h2:s.2<=9223372036854775807) (h3:t.1<=9223372036854775807) (h4:t.2<=9223372036854775807):Calls Tryz.prog 251 #[Qs s,Qs t] w fun e w'=>e=.returned (.int .i64 (F2 s t))/\Below w.heap.size w w':=by
 obtain ⟨a1,a2⟩:=s;obtain ⟨b1,b2⟩:=t;have g:=lz.new w (a1,a2) (b1,b2);obtain ⟨W0,i⟩:=Ex ((w.alloc (.cells (Sh (a1,a2)) 333 (0,0))).alloc (.cells (Sh (b1,b2)) 333 (0,0)));have ka:=fun W=>Z2 (a1,a2) W;have kb:=fun W=>Z2 (b1,b2) W;obtain ⟨⟨j,k⟩,hp⟩:∃ p,p=Eg (a1,a2):=⟨_,rfl⟩;obtain ⟨⟨m,l⟩,hr⟩:∃ p,p=Eg (b1,b2):=⟨_,rfl⟩;rw [<- hp] at ka;rw [<- hr] at kb;replace ka:∀ W,Calls Tryz.prog 293 #[.agg #[.int .i64 a1,.int .i64 a2]] W fun e w'=>e=.returned (.agg #[.int .i64 j,.int .i64 k])/\Below W.heap.size W w':=ka;replace kb:∀ W,Calls Tryz.prog 293 #[.agg #[.int .i64 b1,.int .i64 b2]] W fun e w'=>e=.returned (.agg #[.int .i64 m,.int .i64 l])/\Below W.heap.size W w':=kb;have x0:W0.cell? ⟨w.heap.size,0,none⟩=some (.int .i64 a1):=by rw [i];exact Aa g.ba 0
 have x1:W0.cell? ⟨w.heap.size,1,none⟩=some (.int .i64 a2):=by rw [i];exact Aa g.ba 1
 have x2:W0.cell? ⟨w.heap.size+1,0,none⟩=some (.int .i64 b1):=by rw [i];exact Aa g.bb 0
 have x3:W0.cell? ⟨w.heap.size+1,1,none⟩=some (.int .i64 b2):=by rw [i];exact Aa g.bb 1
 have hs:w.heap.size+1<W0.heap.size:=by rw [i];exact g.lt
 have f0:∀ o,W0.frozen? ⟨w.heap.size,o,none⟩=false:=by rw [i];exact Ah g.ba
 have f1:∀ o,W0.frozen? ⟨w.heap.size+1,o,none⟩=false:=by rw [i];exact Ah g.bb
 rw [<- i] at g;replace ⟨g,ka,kb,hp,hr⟩:=H5 g ka kb hp hr;go_enter Tryz.func251,Tryz.ntmps251;go_upto_region 1 with fail;rw [<- i];clear i;go_cut [] (fun wx=>lz w (j,k) (m,l) wx)
 case first=>
  go_region_with (go_at_call 293;((first | (with_reducible refine (ka.out _).mono ?_) | (with_reducible refine (kb.out _).mono ?_));rintro e w1 ⟨rfl,q⟩;have g:=(by first | exact Hh (g.out.below q) | exact Hh (g.out.dt q));have x0:=(Ag q (by first | omega | (simp;omega))).trans x0;have x1:=(Ag q (by first | omega | (simp;omega))).trans x1;have x2:=(Ag q (by first | omega | (simp;omega))).trans x2;have x3:=(Ag q (by first | omega | (simp;omega))).trans x3;have hs:=Br hs q.size;have f0:=fun o=>(q.frozen (p:=⟨w.heap.size,o,none⟩) (by first | (show w.heap.size<_;omega) | (simp;omega))).trans (f0 o);have f1:=fun o=>(q.frozen (p:=⟨w.heap.size+1,o,none⟩) (by first | (show w.heap.size+1<_;omega) | (simp;omega))).trans (f1 o)))
  all_goals
   go_wp2_with fail;go_meet;exact Asb g.out (j,k) (m,l)
 case rest=>
  obtain ⟨hl,al,am⟩:=hcut;have c0:=Bk al 0 (.int .i64 j) rfl;have c1:=Bk al 1 (.int .i64 k) rfl;have c2:=Bk am 0 (.int .i64 m) rfl;have c3:=Bk am 1 (.int .i64 l) rfl;have ac:F2 (a1,a2) (b1,b2)=if (j,k)=(m,l) then 0 else if Id (j,k)≠1\/Id (m,l)≠1 then Ge (Id (j,k)) (Id (m,l)) else Ge (j*l) (m*k):=by unfold F2;rw [<- hp.out,<- hr.out]
  have av:0<=j/\0<=k/\j<=9223372036854775807/\k<=9223372036854775807:=by have:=hp.out;simp only [Eg,Pu] at this;simp only at h1 h2;omega
  have aA:0<=m/\0<=l/\m<=9223372036854775807/\l<=9223372036854775807:=by have:=hr.out;simp only [Eg,Pu] at this;simp only at h3 h4;omega
  have hC:=lz.mk hl al am;clear hl al am h1 h2 h3 h4;replace ⟨ac,hC⟩:=H2 ac hC;have kh:=fun W=>Af2 (j,k) W;have kg:=fun W=>Af2 (m,l) W;obtain ⟨ha,an⟩:=Ex (Id (j,k));obtain ⟨f,ao⟩:=Ex (Id (m,l));have ca:=Af3 (j,k);have cb:=Af3 (m,l);rw [<- an] at kh ca ac;rw [<- ao] at kg cb ac;replace kh:∀ W,Calls Tryz.prog 294 #[.agg #[.int .i64 j,.int .i64 k]] W fun e w'=>e=.returned (.int .i64 ha)/\Below W.heap.size W w':=kh;replace kg:∀ W,Calls Tryz.prog 294 #[.agg #[.int .i64 m,.int .i64 l]] W fun e w'=>e=.returned (.int .i64 f)/\Below W.heap.size W w':=kg;have hs:=hC.out.lt;replace ⟨kh,kg,an,ao⟩:=H4 kh kg an ao;by_cases qe:(j,k)=(m,l)
  .have hz:F2 (a1,a2) (b1,b2)=0:=(by rw [ac.out,Ad qe]);simp only [Pu] at qe;obtain ⟨rfl,rfl⟩:=qe;replace ⟨hz,ca,cb⟩:=H3 hz ca cb;go_wp2
   all_goals first
    | (exfalso;rename_i hh;exact hh rfl)
    | (go_ret;exact ⟨by rw [hz.out];rfl,hC.out.low⟩)
  .have hz:F2 (a1,a2) (b1,b2)=if ha≠1\/f≠1 then Ge ha f else Ge (j*l) (m*k):=(by rw [ac.out,Ac qe]);clear ac;by_cases q1:j=m
   .subst q1;have q2:¬ k=l:=fun e=>qe (by rw [e]);obtain ⟨h,rfl⟩:∃ n:Nat,j=(n:Int):=⟨j.toNat,by omega⟩;obtain ⟨z,rfl⟩:∃ n:Nat,k=(n:Int):=⟨k.toNat,by omega⟩;obtain ⟨m2,rfl⟩:∃ n:Nat,l=(n:Int):=⟨l.toNat,by omega⟩;have mA:=Tryz.bits_Mul64 h m2 (by omega) (by omega);have mB:=Tryz.bits_Mul64 h z (by omega) (by omega);have r:=Af4 h m2 h z
    have hS:∀ W,Below wc.drew.heap.size wc.drew W->W.cell? ⟨w.heap.size,0,none⟩=some (.int .i64 h)/\W.cell? ⟨w.heap.size,1,none⟩=some (.int .i64 z)/\W.cell? ⟨w.heap.size+1,0,none⟩=some (.int .i64 h)/\W.cell? ⟨w.heap.size+1,1,none⟩=some (.int .i64 m2):=fun W f=>
     ⟨Aa (hC.out.dt f).ba 0,Aa (hC.out.dt f).ba 1,Aa (hC.out.dt f).bb 0,Aa (hC.out.dt f).bb 1⟩
    have b:=Below.refl wc.drew.heap.size wc.drew;have q2:=q2;replace ⟨hz,ca,cb,mA,mB,hS,b,r⟩:=H8 hz ca cb mA mB hS b r;replace qe:=Hh qe;go_upto_region 4 with fail;go_cut [5,6] (fun xv yv wx=>xk w (h,z) (h,m2) ha f xv yv wx)
    case first=>
     go_region_held3 (fun W'=>W'.cell? ⟨w.heap.size,0,none⟩=some (.int .i64 h)/\W'.cell? ⟨w.heap.size,1,none⟩=some (.int .i64 z)/\W'.cell? ⟨w.heap.size+1,0,none⟩=some (.int .i64 h)/\W'.cell? ⟨w.heap.size+1,1,none⟩=some (.int .i64 m2))
      (first
        | with_reducible exact hS.out _ b.out)
      (first
        | (go_at_call 294
           (first | (with_reducible refine (kh.out _).mono ?_) | (with_reducible refine (kg.out _).mono ?_))
           rintro e wz ⟨rfl,ad⟩;replace b:=Hh (b.out.trans (ad.mono b.out.size))
           clear ad))
     all_goals
      go_wp2_with fail;go_meet;exact ⟨rfl,rfl,hC.out.dt b.out⟩
    case rest=>
     obtain ⟨rfl,rfl,c⟩:=hcut;clear c0 c1 c2 c3;have c0:=Aa c.ba 0;have c1:=Aa c.ba 1;have c2:=Aa c.bb 0;have c3:=Aa c.bb 1;simp at c0 c1 c2 c3;clear hS b kh kg;obtain ⟨A1,u⟩:=Ex (h*m2 / 18446744073709551616);obtain ⟨A0,v⟩:=Ex (h*m2 % 18446744073709551616);obtain ⟨B1,x⟩:=Ex (h*z / 18446744073709551616);obtain ⟨B0,y⟩:=Ex (h*z % 18446744073709551616);rw [<- u,<- v] at mA;rw [<- x,<- y] at mB;rw [<- u,<- v,<- x,<- y] at r;replace ⟨c,u,v,x,y⟩:=H5 c u v x y;by_cases x1:ha=1
     .subst x1;by_cases x2:f=1
      .subst x2;have a:F2 (a1,a2) (b1,b2)=Ge (↑h*↑m2) (↑h*↑z):=(by rw [hz.out,Ac (by omega)]);rw [r.out] at a;by_cases x3:A1=B1
       .subst x3;rw [Ad rfl] at a;replace a:=Hh a;go_wp2_with (first | (go_at_call 295;(with_reducible refine (O8 _ _ _).mono ?_);rintro e w1 ⟨rfl,rfl⟩) | (go_at_call 296;(first | (with_reducible refine (mA.out _).mono ?_) | (with_reducible refine (mB.out _).mono ?_));rintro e w1 ⟨rfl,rfl⟩));go_ret;exact ⟨by rw [a.out];rfl,c.out.low⟩
       .have x4:((A1:Int) != (B1:Int))=true:=(by rw [Fg];omega);rw [Ac x3] at a;replace ⟨a,x3⟩:=H2 a x3;go_wp2_with (first | (go_at_call 295;(with_reducible refine (O8 _ _ _).mono ?_);rintro e w1 ⟨rfl,rfl⟩) | (go_at_call 296;(first | (with_reducible refine (mA.out _).mono ?_) | (with_reducible refine (mB.out _).mono ?_));rintro e w1 ⟨rfl,rfl⟩));go_ret;exact ⟨by rw [a.out];rfl,c.out.low⟩
      .have d:(f != 1)=true:=(by rw [Fg];exact x2);have a:F2 (a1,a2) (b1,b2)=Ge 1 f:=(by rw [hz.out,Ad (.inr x2)]);obtain ⟨hn,rfl⟩:∃ n:Nat,f=(n:Int):=⟨f.toNat,by have:=cb.out;omega⟩;have bd:hn<=2:=(by have:=cb.out;omega);replace ⟨a,x2⟩:=H2 a x2;go_wp2_with ((go_at_call 295;(with_reducible refine (O8 _ _ _).mono ?_);rintro e w1 ⟨rfl,rfl⟩));go_ret;exact ⟨by rw [a.out];rfl,c.out.low⟩
     .have d:(ha != 1)=true:=(by rw [Fg];exact x1);have a:F2 (a1,a2) (b1,b2)=Ge ha f:=(by rw [hz.out,Ad (.inl x1)]);obtain ⟨hn,rfl⟩:∃ n:Nat,f=(n:Int):=⟨f.toNat,by have:=cb.out;omega⟩;have bd:hn<=2:=(by have:=cb.out;omega);obtain ⟨hm,rfl⟩:∃ n:Nat,ha=(n:Int):=⟨ha.toNat,by have:=ca.out;omega⟩;have ap:hm<=2:=(by have:=ca.out;omega);replace ⟨a,x1⟩:=H2 a x1;go_wp2_with ((go_at_call 295;(with_reducible refine (O8 _ _ _).mono ?_);rintro e w1 ⟨rfl,rfl⟩));go_ret;exact ⟨by rw [a.out];rfl,c.out.low⟩
   .skip
    obtain ⟨h,rfl⟩:∃ n:Nat,j=(n:Int):=⟨j.toNat,by omega⟩;obtain ⟨z,rfl⟩:∃ n:Nat,k=(n:Int):=⟨k.toNat,by omega⟩;obtain ⟨m1,rfl⟩:∃ n:Nat,m=(n:Int):=⟨m.toNat,by omega⟩;obtain ⟨m2,rfl⟩:∃ n:Nat,l=(n:Int):=⟨l.toNat,by omega⟩;have mA:=Tryz.bits_Mul64 h m2 (by omega) (by omega);have mB:=Tryz.bits_Mul64 m1 z (by omega) (by omega);have r:=Af4 h m2 m1 z
    have hS:∀ W,Below wc.drew.heap.size wc.drew W->W.cell? ⟨w.heap.size,0,none⟩=some (.int .i64 h)/\W.cell? ⟨w.heap.size,1,none⟩=some (.int .i64 z)/\W.cell? ⟨w.heap.size+1,0,none⟩=some (.int .i64 m1)/\W.cell? ⟨w.heap.size+1,1,none⟩=some (.int .i64 m2):=fun W f=>
     ⟨Aa (hC.out.dt f).ba 0,Aa (hC.out.dt f).ba 1,Aa (hC.out.dt f).bb 0,Aa (hC.out.dt f).bb 1⟩
    have b:=Below.refl wc.drew.heap.size wc.drew;have q1:=q1;replace ⟨hz,ca,cb,mA,mB,hS,b,r⟩:=H8 hz ca cb mA mB hS b r;replace qe:=Hh qe;go_upto_region 4 with fail;go_cut [5,6] (fun xv yv wx=>xk w (h,z) (m1,m2) ha f xv yv wx)
    case first=>
     go_region_held3 (fun W'=>W'.cell? ⟨w.heap.size,0,none⟩=some (.int .i64 h)/\W'.cell? ⟨w.heap.size,1,none⟩=some (.int .i64 z)/\W'.cell? ⟨w.heap.size+1,0,none⟩=some (.int .i64 m1)/\W'.cell? ⟨w.heap.size+1,1,none⟩=some (.int .i64 m2))
      (first
        | with_reducible exact hS.out _ b.out)
      (first
        | (go_at_call 294
           (first | (with_reducible refine (kh.out _).mono ?_) | (with_reducible refine (kg.out _).mono ?_))
           rintro e wz ⟨rfl,ad⟩;replace b:=Hh (b.out.trans (ad.mono b.out.size))
           clear ad))
     all_goals
      go_wp2_with fail;go_meet;exact ⟨rfl,rfl,hC.out.dt b.out⟩
    case rest=>
     obtain ⟨rfl,rfl,c⟩:=hcut;clear c0 c1 c2 c3;have c0:=Aa c.ba 0;have c1:=Aa c.ba 1;have c2:=Aa c.bb 0;have c3:=Aa c.bb 1;simp at c0 c1 c2 c3;clear hS b kh kg;obtain ⟨A1,u⟩:=Ex (h*m2 / 18446744073709551616);obtain ⟨A0,v⟩:=Ex (h*m2 % 18446744073709551616);obtain ⟨B1,x⟩:=Ex (m1*z / 18446744073709551616);obtain ⟨B0,y⟩:=Ex (m1*z % 18446744073709551616);rw [<- u,<- v] at mA;rw [<- x,<- y] at mB;rw [<- u,<- v,<- x,<- y] at r;replace ⟨c,u,v,x,y⟩:=H5 c u v x y;by_cases x1:ha=1
     .subst x1;by_cases x2:f=1
      .subst x2;have a:F2 (a1,a2) (b1,b2)=Ge (↑h*↑m2) (↑m1*↑z):=(by rw [hz.out,Ac (by omega)]);rw [r.out] at a;by_cases x3:A1=B1
       .subst x3;rw [Ad rfl] at a;replace a:=Hh a;go_wp2_with (first | (go_at_call 295;(with_reducible refine (O8 _ _ _).mono ?_);rintro e w1 ⟨rfl,rfl⟩) | (go_at_call 296;(first | (with_reducible refine (mA.out _).mono ?_) | (with_reducible refine (mB.out _).mono ?_));rintro e w1 ⟨rfl,rfl⟩));go_ret;exact ⟨by rw [a.out];rfl,c.out.low⟩
       .have x4:((A1:Int) != (B1:Int))=true:=(by rw [Fg];omega);rw [Ac x3] at a;replace ⟨a,x3⟩:=H2 a x3;go_wp2_with (first | (go_at_call 295;(with_reducible refine (O8 _ _ _).mono ?_);rintro e w1 ⟨rfl,rfl⟩) | (go_at_call 296;(first | (with_reducible refine (mA.out _).mono ?_) | (with_reducible refine (mB.out _).mono ?_));rintro e w1 ⟨rfl,rfl⟩));go_ret;exact ⟨by rw [a.out];rfl,c.out.low⟩
      .have d:(f != 1)=true:=(by rw [Fg];exact x2);have a:F2 (a1,a2) (b1,b2)=Ge 1 f:=(by rw [hz.out,Ad (.inr x2)]);obtain ⟨hn,rfl⟩:∃ n:Nat,f=(n:Int):=⟨f.toNat,by have:=cb.out;omega⟩;have bd:hn<=2:=(by have:=cb.out;omega);replace ⟨a,x2⟩:=H2 a x2;go_wp2_with ((go_at_call 295;(with_reducible refine (O8 _ _ _).mono ?_);rintro e w1 ⟨rfl,rfl⟩));go_ret;exact ⟨by rw [a.out];rfl,c.out.low⟩
     .have d:(ha != 1)=true:=(by rw [Fg];exact x1);have a:F2 (a1,a2) (b1,b2)=Ge ha f:=(by rw [hz.out,Ad (.inl x1)]);obtain ⟨hn,rfl⟩:∃ n:Nat,f=(n:Int):=⟨f.toNat,by have:=cb.out;omega⟩;have bd:hn<=2:=(by have:=cb.out;omega);obtain ⟨hm,rfl⟩:∃ n:Nat,ha=(n:Int):=⟨ha.toNat,by have:=ca.out;omega⟩;have ap:hm<=2:=(by have:=ca.out;omega);replace ⟨a,x1⟩:=H2 a x1;go_wp2_with ((go_at_call 295;(with_reducible refine (O8 _ _ _).mono ?_);rintro e w1 ⟨rfl,rfl⟩));go_ret;exact ⟨by rw [a.out];rfl,c.out.low⟩
end Go.Proofs.YtimlcnhcjndijaaGreatDoor
