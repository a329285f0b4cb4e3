/- Parts of a proof. No condition. -/
import Derived.Test.YtimlcnhcjndijaaGreatDoorJ02
import Derived.Test.YtimlcnhcjndijaaGreatDoorJ03
import Derived.Deep.DeepCutAuto
import Derived.Deep.RegionHeld3
set_option linter.all false
set_option maxRecDepth 100000
set_option maxHeartbeats 6400000
namespace Go.Proofs.YtimlcnhcjndijaaGreatDoor
open IntKind renaming i64->G
open Value renaming int->Z
open Ending renaming returned->Y
open Option renaming some->O,none->I
open Obj renaming cells->J
open Go renaming World->WD,Calls->CS
open Go.RowKit renaming Below->BW
open Go.Proofs.Tryz
section
open Go.RowKit Go.Maps Go.Lib
variable{w w' wr:WD}
abbrev Ti (s:gd):Array Value:=#[Z G s.1,Z G s.2]
abbrev Rr (s:gd):Value:=.agg #[Z G s.1,Z G s.2]
def Adf (s:gd) (w:WD):CS prog 293 #[Rr s] w λe w'=>e=Y (Rr (E9 s))/\BW w.heap.size w w':=by
 obtain⟨a,b⟩:=s;go_enter func293,ntmps293;go_wp2;refine Al (v:=Rr (E9 (a,b))) (by simp[results,results293,go_sem,E9]) rfl ⟨rfl,?_⟩;exact Bn.alloc as9 _
def Adg {k:IntKind} {a b:Int} (h:a=b):Ending.returned (Z k a)=Y (Z k b):=by rw[h]
def Akx (s:gd) (w:WD):CS prog 294 #[Rr s] w λe w'=>e=Y (Z G (Jt s))/\BW w.heap.size w w':=by
 obtain⟨a,b⟩:=s;go_enter func294,ntmps294;go_wp2
 all_goals
  go_ret;exact⟨Adg (by simp_all [Jt]),Bn⟩
def Qj (a b:Int) (w:WD):CS prog 295 #[Z .u64 a,Z .u64 b] w λe w'=>e=Y (Z G (Ih a b))/\w'=w:=by
 go_enter func295,ntmps295;go_wp2
 all_goals
  go_ret;exact⟨Adg (by unfold Ih;split<;>(try split)<;>omega),rfl⟩
def Aky (s:gd):Jt s=0\/Jt s=1\/Jt s=2:=by
 unfold Jt;split
 .exact .inl rfl
 .split
  .exact .inr (.inr rfl)
  .exact .inr (.inl rfl)
structure nz (w:WD) (a b:gd) (wr:WD):Prop where
 low:BW w.heap.size w wr
 ba:wr.heap[w.heap.size]?=O (J (Ti a) 333 (0,0))
 bb:wr.heap[w.heap.size+1]?=O (J (Ti b) 333 (0,0))
def nz.lt  {a b:gd} (h:nz w a b wr):w.heap.size+1<wr.heap.size:=Ab h.bb
def nz.below  {a b:gd} (h:nz w a b wr) (c:BW wr.heap.size wr w'):nz w a b w':=⟨h.low.trans (c.mono h.low.size),Ae c h.ba (Ab h.ba),Ae c h.bb (Ab h.bb)⟩
def nz.eh  {a b:gd} (h:nz w a b wr) (c:BW wr.drew.heap.size wr.drew w'):nz w a b w':=
 h.below ((⟨rfl,rfl,rfl,Nat.le_refl _,λ_ _=>rfl⟩:BW wr.heap.size wr wr.drew).trans c)
def nz.new (w:WD) (a b:gd):nz w a b ((w.alloc (J (Ti a) 333 (0,0))).alloc (J (Ti b) 333 (0,0))):=
 ⟨Bn.alloc as9 _,Aj _ (Ah _ _),A6 _ _ as9⟩
def Axy  {a b:gd} (h:nz w a b wr) (p r:gd):nz w p r ((((wr.setCell ⟨w.heap.size,0,I⟩ (Z G p.1)).setCell ⟨w.heap.size,1,I⟩ (Z G p.2)).setCell ⟨w.heap.size+1,0,I⟩ (Z G r.1)).setCell ⟨w.heap.size+1,1,I⟩ (Z G r.2)):=
 ⟨(((h.low.setCell Ln _).setCell Ln _).setCell (D5 _) _).setCell (D5 _) _,
  Dn ao9 _ (Dn ao9 _ (Ap (Ap h.ba 0 _) 1 _)),Ap (Ap (Dn ao9 _ (Dn ao9 _ h.bb)) 0 _) 1 _⟩
def Akz (a b c d:Nat) :
  Ih ((a:Int)*b) ((c:Int)*d)=if a*b / 18446744073709551616=c*d / 18446744073709551616 then Ih ((a*b % 18446744073709551616:Nat):Int) ((c*d % 18446744073709551616:Nat):Int)else Ih ((a*b / 18446744073709551616:Nat):Int) ((c*d / 18446744073709551616:Nat):Int):=by
 have e:=(Int.natCast_mul a b).symm;have f:=(Int.natCast_mul c d).symm;rw[e,f];generalize a*b=x;generalize c*d=y;unfold Ih
 split<;>split<;>(try split)<;>(try split)<;>omega
structure yr (w:WD) (a b:gd) (x y:Int) (xv yv:Value) (wr:WD):Prop where
 ex:xv=Z G x
 ey:yv=Z G y
 cm:nz w a b wr
def Ak0 (s t:gd) (w:WD) (h1:s.1<=9223372036854775807) (h2:s.2<=9223372036854775807) (h3:t.1<=9223372036854775807) (h4:t.2<=9223372036854775807):CS prog 251 #[Rr s,Rr t] w λe w'=>e=Y (Z G (G5 s t))/\BW w.heap.size w w':=by
 obtain⟨a1,a2⟩:=s;obtain⟨b1,b2⟩:=t;have g:=nz.new w (a1,a2) (b1,b2);obtain⟨W0,i⟩:=Ex ((w.alloc (J (Ti (a1,a2)) 333 (0,0))).alloc (J (Ti (b1,b2)) 333 (0,0)));have ka:=λW=>Adf (a1,a2) W;have kb:=λW=>Adf (b1,b2) W;obtain⟨⟨j,k⟩,hp⟩:∃p,p=E9 (a1,a2):=⟨_,rfl⟩;obtain⟨⟨y,l⟩,hr⟩:∃p,p=E9 (b1,b2):=⟨_,rfl⟩;rw[<-hp]at ka;rw[<-hr]at kb;replace ka:∀W,CS prog 293 #[.agg #[Z G a1,Z G a2]] W λe w'=>e=Y (.agg #[Z G j,Z G k])/\BW W.heap.size W w':=ka;replace kb:∀W,CS prog 293 #[.agg #[Z G b1,Z G b2]] W λe w'=>e=Y (.agg #[Z G y,Z G l])/\BW W.heap.size W w':=kb;have x0:W0.cell? ⟨w.heap.size,0,I⟩=O (Z G a1):=by rw[i];exact Aa g.ba 0
 have x1:W0.cell? ⟨w.heap.size,1,I⟩=O (Z G a2):=by rw[i];exact Aa g.ba 1
 have x2:W0.cell? ⟨w.heap.size+1,0,I⟩=O (Z G b1):=by rw[i];exact Aa g.bb 0
 have x3:W0.cell? ⟨w.heap.size+1,1,I⟩=O (Z G b2):=by rw[i];exact Aa g.bb 1
 have hs:w.heap.size+1<W0.heap.size:=by rw[i];exact g.lt
 have f0:∀o,W0.frozen? ⟨w.heap.size,o,I⟩=false:=by rw[i];exact Ag g.ba
 have f1:∀o,W0.frozen? ⟨w.heap.size+1,o,I⟩=false:=by rw[i];exact Ag g.bb
 rw[<-i]at g;replace⟨g,ka,kb,hp,hr⟩:=H5 g ka kb hp hr;go_enter func251,ntmps251;go_upto_region 1 with fail;rw[<-i];clear i;go_cut [] (λwx=>nz w (j,k) (y,l) wx)
 case first=>
  go_region_with (go_at_call 293;((first|(with_reducible refine(ka.out _).mono ?_)|(with_reducible refine(kb.out _).mono ?_));rintro e w1 ⟨rfl,v⟩;have g:=(by first|exact Hh (g.below v)|exact Hh (g.eh v));have x0:=(Af v (by first|omega|(simp;omega))).trans x0;have x1:=(Af v (by first|omega|(simp;omega))).trans x1;have x2:=(Af v (by first|omega|(simp;omega))).trans x2;have x3:=(Af v (by first|omega|(simp;omega))).trans x3;have hs:=Bq hs v.size;have f0:=λo=>(v.frozen (p:=⟨w.heap.size,o,I⟩) (by first|(show w.heap.size<_;omega)|(simp;omega))).trans (f0 o);have f1:=λo=>(v.frozen (p:=⟨w.heap.size+1,o,I⟩) (by first|(show w.heap.size+1<_;omega)|(simp;omega))).trans (f1 o)))
  all_goals
   go_wp2_with fail;go_meet;exact Axy g.out (j,k) (y,l)
 case rest=>
  obtain⟨hl,al,am⟩:=hcut;have c0:=Bk al 0 (Z G j) rfl;have c1:=Bk al 1 (Z G k) rfl;have c2:=Bk am 0 (Z G y) rfl;have c3:=Bk am 1 (Z G l) rfl;have ac:G5 (a1,a2) (b1,b2)=if (j,k)=(y,l)then 0 else if Jt (j,k)≠1\/Jt (y,l)≠1 then Ih (Jt (j,k)) (Jt (y,l))else Ih (j*l) (y*k):=by unfold G5;rw[<-hp.out,<-hr.out]
  have av:0<=j/\0<=k/\j<=9223372036854775807/\k<=9223372036854775807:=by have:=hp.out;simp only[E9,Se]at this;simp only at h1 h2;omega
  have aA:0<=y/\0<=l/\y<=9223372036854775807/\l<=9223372036854775807:=by have:=hr.out;simp only[E9,Se]at this;simp only at h3 h4;omega
  have hC:=nz.mk hl al am;clear hl al am h1 h2 h3 h4;replace⟨ac,hC⟩:=H2 ac hC;have kh:=λW=>Akx (j,k) W;have kg:=λW=>Akx (y,l) W;obtain⟨ha,an⟩:=Ex (Jt (j,k));obtain⟨f,ao⟩:=Ex (Jt (y,l));have ca:=Aky (j,k);have cb:=Aky (y,l);rw[<-an]at kh ca ac;rw[<-ao]at kg cb ac;replace kh:∀W,CS prog 294 #[.agg #[Z G j,Z G k]] W λe w'=>e=Y (Z G ha)/\BW W.heap.size W w':=kh;replace kg:∀W,CS prog 294 #[.agg #[Z G y,Z G l]] W λe w'=>e=Y (Z G f)/\BW W.heap.size W w':=kg;have hs:=hC.lt;replace⟨kh,kg,an,ao⟩:=H4 kh kg an ao;by_cases qe:(j,k)=(y,l)
  .have hz:G5 (a1,a2) (b1,b2)=0:=(by rw[ac.out,Ad qe]);simp only[Se]at qe;obtain⟨rfl,rfl⟩:=qe;replace⟨hz,ca,cb⟩:=H3 hz ca cb;go_wp2
   all_goals first
    | (exfalso;rename_i hh;exact hh rfl)
    | (go_ret;exact⟨by rw[hz.out];rfl,hC.low⟩)
  .have hz:G5 (a1,a2) (b1,b2)=if ha≠1\/f≠1 then Ih ha f else Ih (j*l) (y*k):=(by rw[ac.out,Ac qe]);clear ac;by_cases q1:j=y
   .subst q1;have q2:¬k=l:=λe=>qe (by rw[e]);obtain⟨h,rfl⟩:∃n:Nat,j=(n:Int):=⟨j.toNat,ao9⟩;obtain⟨n2,rfl⟩:∃n:Nat,k=(n:Int):=⟨k.toNat,ao9⟩;obtain⟨z,rfl⟩:∃n:Nat,l=(n:Int):=⟨l.toNat,ao9⟩;have mA:=Tryz.bits_Mul64 h z ao9 ao9;have mB:=Tryz.bits_Mul64 h n2 ao9 ao9;have x:=Akz h z h n2
    have hS:∀W,BW wc.drew.heap.size wc.drew W->W.cell? ⟨w.heap.size,0,I⟩=O (Z G h)/\W.cell? ⟨w.heap.size,1,I⟩=O (Z G n2)/\W.cell? ⟨w.heap.size+1,0,I⟩=O (Z G h)/\W.cell? ⟨w.heap.size+1,1,I⟩=O (Z G z):=λW f=>
     ⟨Aa (hC.eh f).ba 0,Aa (hC.eh f).ba 1,Aa (hC.eh f).bb 0,Aa (hC.eh f).bb 1⟩
    have b:=Below.refl wc.drew.heap.size wc.drew;have q2:=q2;replace⟨hz,ca,cb,mA,mB,hS,b,x⟩:=H8 hz ca cb mA mB hS b x;replace qe:=Hh qe;go_upto_region 4 with fail;go_cut [5,6] (λxv yv wx=>yr w (h,n2) (h,z) ha f xv yv wx)
    case first=>
     go_region_held3 (λW'=>W'.cell? ⟨w.heap.size,0,I⟩=O (Z G h)/\W'.cell? ⟨w.heap.size,1,I⟩=O (Z G n2)/\W'.cell? ⟨w.heap.size+1,0,I⟩=O (Z G h)/\W'.cell? ⟨w.heap.size+1,1,I⟩=O (Z G z))
      (first
        | with_reducible exact hS.out _ b.out)
      (first
        | (go_at_call 294
           (first|(with_reducible refine(kh.out _).mono ?_)|(with_reducible refine(kg.out _).mono ?_))
           rintro e wz ⟨rfl,ad⟩;replace b:=Hh (b.trans (ad.mono b.size))
           clear ad))
     all_goals
      go_wp2_with fail;go_meet;exact⟨rfl,rfl,hC.eh b.out⟩
    case rest=>
     obtain⟨rfl,rfl,c⟩:=hcut;clear c0 c1 c2 c3;have c0:=Aa c.ba 0;have c1:=Aa c.ba 1;have c2:=Aa c.bb 0;have c3:=Aa c.bb 1;simp at c0 c1 c2 c3;clear hS b kh kg;obtain⟨A1,q⟩:=Ex (h*z / 18446744073709551616);obtain⟨A0,m⟩:=Ex (h*z % 18446744073709551616);obtain⟨B1,u⟩:=Ex (h*n2 / 18446744073709551616);obtain⟨B0,r⟩:=Ex (h*n2 % 18446744073709551616);rw[<-q,<-m]at mA;rw[<-u,<-r]at mB;rw[<-q,<-m,<-u,<-r]at x;replace⟨c,q,m,u,r⟩:=H5 c q m u r;by_cases x1:ha=1
     .subst x1;by_cases x2:f=1
      .subst x2;have a:G5 (a1,a2) (b1,b2)=Ih (↑h*↑z) (↑h*↑n2):=(by rw[hz.out,Ac ao9]);rw[x.out]at a;by_cases x3:A1=B1
       .subst x3;rw[Ad rfl]at a;replace a:=Hh a;go_wp2_with (first|(go_at_call 295;(with_reducible refine(Qj _ _ _).mono ?_);rintro e w1 ⟨rfl,rfl⟩)|(go_at_call 296;(first|(with_reducible refine(mA.out _).mono ?_)|(with_reducible refine(mB.out _).mono ?_));rintro e w1 ⟨rfl,rfl⟩));go_ret;exact⟨by rw[a.out];rfl,c.low⟩
       .have x4:((A1:Int) != (B1:Int))=true:=(by rw[Gh];omega);rw[Ac x3]at a;replace⟨a,x3⟩:=H2 a x3;go_wp2_with (first|(go_at_call 295;(with_reducible refine(Qj _ _ _).mono ?_);rintro e w1 ⟨rfl,rfl⟩)|(go_at_call 296;(first|(with_reducible refine(mA.out _).mono ?_)|(with_reducible refine(mB.out _).mono ?_));rintro e w1 ⟨rfl,rfl⟩));go_ret;exact⟨by rw[a.out];rfl,c.low⟩
      .have d:(f != 1)=true:=(by rw[Gh];exact x2);have a:G5 (a1,a2) (b1,b2)=Ih 1 f:=(by rw[hz.out,Ad (.inr x2)]);obtain⟨hn,rfl⟩:∃n:Nat,f=(n:Int):=⟨f.toNat,by have:=cb.out;omega⟩;have bd:hn<=2:=(by have:=cb.out;omega);replace⟨a,x2⟩:=H2 a x2;go_wp2_with ((go_at_call 295;(with_reducible refine(Qj _ _ _).mono ?_);rintro e w1 ⟨rfl,rfl⟩));go_ret;exact⟨by rw[a.out];rfl,c.low⟩
     .have d:(ha != 1)=true:=(by rw[Gh];exact x1);have a:G5 (a1,a2) (b1,b2)=Ih ha f:=(by rw[hz.out,Ad (.inl x1)]);obtain⟨hn,rfl⟩:∃n:Nat,f=(n:Int):=⟨f.toNat,by have:=cb.out;omega⟩;have bd:hn<=2:=(by have:=cb.out;omega);obtain⟨hm,rfl⟩:∃n:Nat,ha=(n:Int):=⟨ha.toNat,by have:=ca.out;omega⟩;have ap:hm<=2:=(by have:=ca.out;omega);replace⟨a,x1⟩:=H2 a x1;go_wp2_with ((go_at_call 295;(with_reducible refine(Qj _ _ _).mono ?_);rintro e w1 ⟨rfl,rfl⟩));go_ret;exact⟨by rw[a.out];rfl,c.low⟩
   .skip
    obtain⟨h,rfl⟩:∃n:Nat,j=(n:Int):=⟨j.toNat,ao9⟩;obtain⟨n2,rfl⟩:∃n:Nat,k=(n:Int):=⟨k.toNat,ao9⟩;obtain⟨m1,rfl⟩:∃n:Nat,y=(n:Int):=⟨y.toNat,ao9⟩;obtain⟨z,rfl⟩:∃n:Nat,l=(n:Int):=⟨l.toNat,ao9⟩;have mA:=Tryz.bits_Mul64 h z ao9 ao9;have mB:=Tryz.bits_Mul64 m1 n2 ao9 ao9;have x:=Akz h z m1 n2
    have hS:∀W,BW wc.drew.heap.size wc.drew W->W.cell? ⟨w.heap.size,0,I⟩=O (Z G h)/\W.cell? ⟨w.heap.size,1,I⟩=O (Z G n2)/\W.cell? ⟨w.heap.size+1,0,I⟩=O (Z G m1)/\W.cell? ⟨w.heap.size+1,1,I⟩=O (Z G z):=λW f=>
     ⟨Aa (hC.eh f).ba 0,Aa (hC.eh f).ba 1,Aa (hC.eh f).bb 0,Aa (hC.eh f).bb 1⟩
    have b:=Below.refl wc.drew.heap.size wc.drew;have q1:=q1;replace⟨hz,ca,cb,mA,mB,hS,b,x⟩:=H8 hz ca cb mA mB hS b x;replace qe:=Hh qe;go_upto_region 4 with fail;go_cut [5,6] (λxv yv wx=>yr w (h,n2) (m1,z) ha f xv yv wx)
    case first=>
     go_region_held3 (λW'=>W'.cell? ⟨w.heap.size,0,I⟩=O (Z G h)/\W'.cell? ⟨w.heap.size,1,I⟩=O (Z G n2)/\W'.cell? ⟨w.heap.size+1,0,I⟩=O (Z G m1)/\W'.cell? ⟨w.heap.size+1,1,I⟩=O (Z G z))
      (first
        | with_reducible exact hS.out _ b.out)
      (first
        | (go_at_call 294
           (first|(with_reducible refine(kh.out _).mono ?_)|(with_reducible refine(kg.out _).mono ?_))
           rintro e wz ⟨rfl,ad⟩;replace b:=Hh (b.trans (ad.mono b.size))
           clear ad))
     all_goals
      go_wp2_with fail;go_meet;exact⟨rfl,rfl,hC.eh b.out⟩
    case rest=>
     obtain⟨rfl,rfl,c⟩:=hcut;clear c0 c1 c2 c3;have c0:=Aa c.ba 0;have c1:=Aa c.ba 1;have c2:=Aa c.bb 0;have c3:=Aa c.bb 1;simp at c0 c1 c2 c3;clear hS b kh kg;obtain⟨A1,q⟩:=Ex (h*z / 18446744073709551616);obtain⟨A0,m⟩:=Ex (h*z % 18446744073709551616);obtain⟨B1,u⟩:=Ex (m1*n2 / 18446744073709551616);obtain⟨B0,r⟩:=Ex (m1*n2 % 18446744073709551616);rw[<-q,<-m]at mA;rw[<-u,<-r]at mB;rw[<-q,<-m,<-u,<-r]at x;replace⟨c,q,m,u,r⟩:=H5 c q m u r;by_cases x1:ha=1
     .subst x1;by_cases x2:f=1
      .subst x2;have a:G5 (a1,a2) (b1,b2)=Ih (↑h*↑z) (↑m1*↑n2):=(by rw[hz.out,Ac ao9]);rw[x.out]at a;by_cases x3:A1=B1
       .subst x3;rw[Ad rfl]at a;replace a:=Hh a;go_wp2_with (first|(go_at_call 295;(with_reducible refine(Qj _ _ _).mono ?_);rintro e w1 ⟨rfl,rfl⟩)|(go_at_call 296;(first|(with_reducible refine(mA.out _).mono ?_)|(with_reducible refine(mB.out _).mono ?_));rintro e w1 ⟨rfl,rfl⟩));go_ret;exact⟨by rw[a.out];rfl,c.low⟩
       .have x4:((A1:Int) != (B1:Int))=true:=(by rw[Gh];omega);rw[Ac x3]at a;replace⟨a,x3⟩:=H2 a x3;go_wp2_with (first|(go_at_call 295;(with_reducible refine(Qj _ _ _).mono ?_);rintro e w1 ⟨rfl,rfl⟩)|(go_at_call 296;(first|(with_reducible refine(mA.out _).mono ?_)|(with_reducible refine(mB.out _).mono ?_));rintro e w1 ⟨rfl,rfl⟩));go_ret;exact⟨by rw[a.out];rfl,c.low⟩
      .have d:(f != 1)=true:=(by rw[Gh];exact x2);have a:G5 (a1,a2) (b1,b2)=Ih 1 f:=(by rw[hz.out,Ad (.inr x2)]);obtain⟨hn,rfl⟩:∃n:Nat,f=(n:Int):=⟨f.toNat,by have:=cb.out;omega⟩;have bd:hn<=2:=(by have:=cb.out;omega);replace⟨a,x2⟩:=H2 a x2;go_wp2_with ((go_at_call 295;(with_reducible refine(Qj _ _ _).mono ?_);rintro e w1 ⟨rfl,rfl⟩));go_ret;exact⟨by rw[a.out];rfl,c.low⟩
     .have d:(ha != 1)=true:=(by rw[Gh];exact x1);have a:G5 (a1,a2) (b1,b2)=Ih ha f:=(by rw[hz.out,Ad (.inl x1)]);obtain⟨hn,rfl⟩:∃n:Nat,f=(n:Int):=⟨f.toNat,by have:=cb.out;omega⟩;have bd:hn<=2:=(by have:=cb.out;omega);obtain⟨hm,rfl⟩:∃n:Nat,ha=(n:Int):=⟨ha.toNat,by have:=ca.out;omega⟩;have ap:hm<=2:=(by have:=ca.out;omega);replace⟨a,x1⟩:=H2 a x1;go_wp2_with ((go_at_call 295;(with_reducible refine(Qj _ _ _).mono ?_);rintro e w1 ⟨rfl,rfl⟩));go_ret;exact⟨by rw[a.out];rfl,c.low⟩
