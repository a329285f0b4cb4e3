/- Parts of a proof. No condition. -/
import Derived.Test.YtimlcnhcjndijaaGreatDoorG07
import Derived.Test.YtimlcnhcjndijaaGreatDoorG09
import Derived.RangeFuncNested
import Derived.RangeFuncBound
set_option linter.all false
set_option maxRecDepth 100000
set_option maxHeartbeats 6400000
namespace Go.Proofs.YtimlcnhcjndijaaGreatDoor
open IntKind renaming i64->O
open Value renaming int->G,string->Y,pointer->Q
open Option renaming some->Z,none->I
open Obj renaming cells->V
open Go renaming World->WD
section
open Go.RowKit Go.Shelf
attribute [local go_sem] Oper.semAt_some
def Lb (l:List UInt8):Bool:=match l with | []=>false|c :: _=>decide (c≠35)
def Du:Nat->List (List UInt8)->List (Int×ByteArray)
 | _,[]=>[]
 | n,p :: ps=>if Lb p=true then(((n:Int)+1),au p)::Du (n+1) ps else Du (n+1) ps
def Fu (s:ByteArray):List (Int×ByteArray):=Du 0 (Ao 10 s.data.toList)
abbrev Aoo (x:Int×ByteArray):Array Value:=#[G O x.1,Y x.2]
def Afq (n:Nat):Du n (Ao 10 [])=[]:=rfl
structure su (W0:WD) (Bt:Nat) (rest:List UInt8) (W:WD):Prop where
 box:W.heap[Bt]?=Z (V #[Y (au rest)] 9 (0,0))
 mx:Mx W
def Mx.lu {w w':WD} (h:Mx w) (b:w'.heap[0]?=w.heap[0]?):Mx w':=by
 obtain⟨m,h⟩:=h;exact⟨m,(Bs (a:=⟨0,0,I⟩) (w:=w) b).trans h⟩
def Aop (w:WD) (n:Nat) (row:Option Nat):w.grownBy (w.drewN n) row:=⟨rfl,rfl,rfl,Nat.le_refl _,λ_ _ _=>rfl⟩
def Abf (w:WD) (b o:Nat) (v:Value):w.grownBy (w.setCell ⟨b,o,I⟩ v) (Z b):=
 ⟨rfl,rfl,rfl,by simp[World.setCell],λk _ a=>Cm _ _ _ _ (λe=>a (by rw[e]))⟩
def Sm (l:List UInt8):(au l).toList.isEmpty=l.isEmpty:=by rw[Lib.toList_data,E6]
def Abg {b w1:WD} {a:Nat} {rest r:List UInt8} (h:su b a rest w1) (c:0<a):su b a r (w1.setCell ⟨a,0,I⟩ (Y (au r))):=
 ⟨by rw[Am h.box];rfl,h.mx.lu (Cm _ _ _ _ (by simp;omega))⟩
def Aoq (n:Nat) (hn:3<=n) (p:Nat) (s:ByteArray) (w0:WD) (hs:s.size<=4294967200) (af:w0.heap[p]?=Z (V #[Y s] 9 (0,0))) (aM:Mx w0) (ap:0<p) :
  Afp Fence.wide n Tryz.prog 75 #[Q (Z ⟨p,0,I⟩)] Aoo p (Fu s) w0:=by
 intro l J9q Jx W aF hJ aK hY h0;have aC:su w0 p s.data.toList W:=⟨Ae aF af (Ab af),aM.low aF⟩;clear af aM aF;replace⟨hJ,aK,aC⟩:=H3 hJ aK aC;have aS:=Hh hY;clear hY;have aR:=Hh h0;clear h0;refine callsIn_of_wp Tryz.func75 rfl trivial ?_ rfl;simp only[Tryz.ntmps75,Ui,D7,Ir,Nat.reduceAdd,Nat.reduceSub,Aai,Aaj,Aar,Aal,Ph,Pf]
 gi_wp2
 gi_loopw [3,4,5,6] (λi _ _ _ wr=>∃(k:Nat) (d:List (Int×ByteArray)) (rest:List UInt8),i=G O k/\k+rest.length<=s.size/\Hid (Fu s=d++Du k (Ao 10 rest))/\Hid (su w0 p rest wr)/\Hid (J9q d wr)) (λi _ _ _ wr=>s.size-(intOf i).toNat)
 case atStart=>exact⟨0,[],s.data.toList,rfl,by rw[Km];omega,rfl,aC.out,aR.out⟩
 case round=>
  obtain⟨k,d,rest,rfl,hk,hD,hL,aJ⟩:=hrel;have bx:=Aa hL.box 0;have bf:=Af hL.box 0;simp at bx
  cases rest with
  | nil=>
   have v:(Fu s)=d:=(by rw[hD.out,Afq,Nf]);have em:(au ([]:List UInt8)).toList.isEmpty=true:=Sm [];replace v:=Hh v
   gi_wp2
   go_end0;exact⟨⟨_,rfl⟩,.inl (by rw[v.out];exact aJ.out)⟩
  | cons c rs=>
   have em:(au (c :: rs)).toList.isEmpty=false:=Sm (c :: rs);have al:=Ae5 (au (c :: rs)) 10 wr hL.mx (by rw[Fe];omega);rw[E6]at al;obtain⟨rest,u⟩:=Ex (c :: rs);have aV:1<=rest.length:=(by rw[u];simp);rw[<-u]at bx em al hk hD hL;clear u;replace al:=Hh al
   gi_wp2
   refine⟨trivial,λ_=>by omega,(K6.2 al.out).mono ?_⟩;rintro e w1 ⟨⟨a,r,b,rfl,ad⟩,nd,rfl⟩
   have z:Du k (Ao 10 rest)=(if Lb a=true then[(((k:Int)+1),au a)]else[])++Du (k+1) (Ao 10 r):=by
    rcases ad with⟨_,v,e2,e3⟩|⟨_,v,e3⟩
    .rw [<-v,Qr e3,e2,Afq];unfold Du
     split<;>rfl
    .rw [v,Qs e3,Du]
     split<;>rfl
   have aH:(k+1)+r.length<=s.size:=by
    rcases ad with⟨_,v,e2,e3⟩|⟨_,v,e3⟩
    .rw [e2];simp;omega
    .have:=Cd List.length v;simp at this;omega
   have aD:su w0 p rest (wr.drewN nd):=⟨hL.box,hL.mx⟩;have av:=hJ d wr _ aJ.out (Aop wr nd _)
   have aT:a.length<=s.size:=by
    rcases ad with⟨_,v,e2,e3⟩|⟨_,v,e3⟩
    .rw [v];omega
    .have:=Cd List.length v;simp at this;omega
   replace⟨ad,z,aD,av⟩:=H4 ad z aD av;obtain⟨w1,am⟩:=Ex (wr.drewN nd);have aO:w1.cell? ⟨p,0,I⟩=Z (Y (au rest)):=(by rw[am];exact bx);have aN:w1.frozen? ⟨p,0,I⟩=false:=(by rw[am];exact bf);have j:=aD.out;have o:=av.out;rw[<-am]at j o ⊢;replace⟨j,o,am⟩:=H3 j o am;clear bx bf em
   cases a with
   | nil=>
    have aI:(au ([]:List UInt8)).toList.isEmpty=true:=Sm [];have f:Fu s=d++Du (k+1) (Ao 10 r):=(by rw[hD.out,z.out];rfl);have m:su w0 p r (w1.setCell ⟨p,0,I⟩ (Y (au r))):=Abg j.out ap;have g:J9q d (w1.setCell ⟨p,0,I⟩ (Y (au r))):=hJ d w1 _ o.out (Abf _ _ _ _);replace⟨f,m,g⟩:=H3 f m g
    gi_wp2
    refine⟨λ_ h=>(by cases h),?_⟩
    gi_wp2
    go_roundw
    case rel=>exact⟨k+1,d,r,by go_num,aH,f.out,m.out,g.out⟩
    case measure=>simp[intOf];omega
   | cons c' a'=>
    have aI:(au (c' :: a')).toList.isEmpty=false:=Sm (c' :: a');have aL:∀w,(Instr.index 9 (Y (au (c' :: a'))) (G O 0)).run Tryz.prog w=.ok (G .u8 (dv (au (c' :: a')) 0)) w:=λw=>Qq Dr (au (c' :: a')) 0 0 rfl (by rw[Fe];simp) w;have aG:dv (au (c' :: a')) 0=(c'.toNat:Int):=(by unfold dv;rw[E6];rfl);have t:Lb (c' :: a')=decide (dv (au (c' :: a')) 0≠35):=(by rw[aG];unfold Lb;refine Aav.2 (not_congr ⟨λh=>by rw[h];rfl,λh=>Xb.1 (by have:(35:UInt8).toNat=35:=rfl;omega)⟩));obtain⟨x,hx⟩:=Ex (dv (au (c' :: a')) 0);rw[<-hx]at aL t;obtain⟨a,ha⟩:=Ex (c' :: a');rw[<-ha]at aI aL t z aT;rw[<-ha];replace⟨aG,hx,ha⟩:=H3 aG hx ha;by_cases q:x=35
    .have aQ:(x != 35)=false:=(by simp[q]);have f:Fu s=d++Du (k+1) (Ao 10 r):=(by rw[hD.out,z.out,Ac (by rw[t];simp[q])];rfl);have m:su w0 p r (w1.setCell ⟨p,0,I⟩ (Y (au r))):=Abg j.out ap;have g:J9q d (w1.setCell ⟨p,0,I⟩ (Y (au r))):=hJ d w1 _ o.out (Abf _ _ _ _);replace⟨f,m,g,q,t⟩:=H5 f m g q t
     gi_wp2
     refine⟨λ_ h=>(by cases h),?_⟩
     gi_wp2
     go_roundw
     case rel=>exact⟨k+1,d,r,by go_num,aH,f.out,m.out,g.out⟩
     case measure=>simp[intOf];omega
    .have aQ:(x != 35)=true:=(by simp[q]);have f:Fu s=(d++[(((k:Int)+1),au a)])++Du (k+1) (Ao 10 r):=(by rw[hD.out,z.out,Ad (by rw[t];simp[q]),Fq]);have y:(d++[(((k:Int)+1),au a)]) <+: Fu s:=⟨_,f.symm⟩;obtain⟨fn,tmps,assign,body,hy,hR⟩:=aS d (((k:Int)+1),au a) w1 o.out y;replace⟨f,y,q,t⟩:=H4 f y q t
     gi_wp2
     refine⟨λ_=>by omega,hR.mono ?_⟩;rintro e W3 (⟨rfl,aA,aE,ao⟩|⟨rfl,an⟩)
     .have ac:su w0 p rest W3:=⟨aE.trans j.box,j.mx.lu ao⟩;have aP:=Aa ac.box 0;have aU:=Af ac.box 0;simp at aP;have m:su w0 p r (W3.setCell ⟨p,0,I⟩ (Y (au r))):=Abg ac ap;have g:J9q (d++[(((k:Int)+1),au a)]) (W3.setCell ⟨p,0,I⟩ (Y (au r))):=hJ _ W3 _ aA (Abf _ _ _ _);clear aO aN;replace⟨ac,aA,aE,ao,m,g⟩:=H6 ac aA aE ao m g
      gi_wp2
      go_roundw
      case rel=>exact⟨k+1,d++[(((k:Int)+1),au a)],r,by go_num,aH,f.out,m.out,g.out⟩
      case measure=>simp[intOf];omega
     .have aB:=Hh an;clear an
      gi_wp2
      refine Ak (results_none rfl _ _ _) rfl ?_;exact⟨⟨_,rfl⟩,.inr ⟨d,(((k:Int)+1),au a),y.out,aB.out⟩⟩
