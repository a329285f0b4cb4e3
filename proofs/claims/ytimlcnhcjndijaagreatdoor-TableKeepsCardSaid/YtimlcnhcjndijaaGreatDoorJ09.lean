/- Parts of a proof. No condition. -/
import Derived.Test.YtimlcnhcjndijaaGreatDoorJ06
import Derived.Test.YtimlcnhcjndijaaGreatDoorJ08
import Derived.RangeFuncNested
import Derived.RangeFuncBound
set_option linter.all false
set_option maxRecDepth 100000
set_option maxHeartbeats 6400000
namespace Go.Proofs.YtimlcnhcjndijaaGreatDoor
open IntKind renaming i64->G
open Value renaming int->Z,string->D,pointer->K
open Option renaming some->O,none->I
open Obj renaming cells->J
open Go renaming World->WD
section
open Go.RowKit Go.Shelf
attribute [local go_sem] Oper.semAt_some
def L7 (l:List UInt8):Bool:=match l with | []=>false|c :: _=>decide (c≠35)
def D6:Nat->List (List UInt8)->List (Int×ByteArray)
 | _,[]=>[]
 | n,p :: ps=>if L7 p=true then(((n:Int)+1),bu p)::D6 (n+1) ps else D6 (n+1) ps
def Gi (s:ByteArray):List (Int×ByteArray):=D6 0 (Au 10 s.data.toList)
abbrev Ap0 (x:Int×ByteArray):Array Value:=#[Z G x.1,D x.2]
def Af7 (n:Nat):D6 n (Au 10 [])=[]:=rfl
structure sk (W0:WD) (Bt:Nat) (rest:List UInt8) (W:WD):Prop where
 box:W.heap[Bt]?=O (J #[D (bu rest)] 9 (0,0))
 mx:Mx W
def Mx.mh {w w':WD} (h:Mx w) (b:w'.heap[0]?=w.heap[0]?):Mx w':=by
 obtain⟨m,h⟩:=h;exact⟨m,(By (a:=⟨0,0,I⟩) (w:=w) b).trans h⟩
def Ap1 (w:WD) (n:Nat) (row:Option Nat):w.grownBy (w.drewN n) row:=⟨rfl,rfl,rfl,Nat.le_refl _,λ_ _ _=>rfl⟩
def Abj (w:WD) (b o:Nat) (v:Value):w.grownBy (w.setCell ⟨b,o,I⟩ v) (O b):=
 ⟨rfl,rfl,rfl,by simp[World.setCell],λk _ a=>C1 _ _ _ _ (λe=>a (by rw[e]))⟩
def Sn (l:List UInt8):(bu l).toList.isEmpty=l.isEmpty:=by rw[Lib.toList_data,My]
def Abk {b w1:WD} {a:Nat} {rest r:List UInt8} (h:sk b a rest w1) (c:0<a):sk b a r (w1.setCell ⟨a,0,I⟩ (D (bu r))):=
 ⟨by rw[Ap h.box];rfl,h.mx.mh (C1 _ _ _ _ (by simp;omega))⟩
def Ap2 (n:Nat) (hn:3<=n) (p:Nat) (s:ByteArray) (w0:WD) (hs:s.size<=4294967200) (al:w0.heap[p]?=O (J #[D s] 9 (0,0))) (aN:Mx w0) (av:0<p) :
  Af6 Fence.wide n Tryz.prog 75 #[K (O ⟨p,0,I⟩)] Ap0 p (Gi s) w0:=by
 intro l J9q Jx W aG hJ aL hY h0;have aD:sk w0 p s.data.toList W:=⟨Ae aG al (Ab al),aN.low aG⟩;clear al aN aG;replace⟨hJ,aL,aD⟩:=H3 hJ aL aD;have aT:=Hh hY;clear hY;have aS:=Hh h0;clear h0;refine callsIn_of_wp Tryz.func75 rfl trivial ?_ rfl;simp only[Tryz.ntmps75,Wr,Jl,Qw,Nat.reduceAdd,Nat.reduceSub,Aao,Aap,Aax,Aar,Sb,Pt]
 gi_wp2
 gi_loopw [3,4,5,6] (λi _ _ _ wr=>∃(k:Nat) (d:List (Int×ByteArray)) (rest:List UInt8),i=Z G k/\k+rest.length<=s.size/\Hid (Gi s=d++D6 k (Au 10 rest))/\Hid (sk w0 p rest wr)/\Hid (J9q d wr)) (λi _ _ _ wr=>s.size-(intOf i).toNat)
 case atStart=>exact⟨0,[],s.data.toList,rfl,by rw[Q0];omega,rfl,aD.out,aS.out⟩
 case round=>
  obtain⟨k,d,rest,rfl,hk,hD,hL,aK⟩:=hrel;have bx:=Aa hL.box 0;have bf:=Ag hL.box 0;simp at bx
  cases rest with
  | nil=>
   have v:(Gi s)=d:=(by rw[hD.out,Af7,Nv]);have em:(bu ([]:List UInt8)).toList.isEmpty=true:=Sn [];replace v:=Hh v
   gi_wp2
   go_end0;exact⟨⟨_,rfl⟩,.inl (by rw[v.out];exact aK.out)⟩
  | cons c rs=>
   have em:(bu (c :: rs)).toList.isEmpty=false:=Sn (c :: rs);have am:=Afo (bu (c :: rs)) 10 wr hL.mx (by rw[L4];omega);rw[My]at am;obtain⟨rest,u⟩:=Ex (c :: rs);have aW:1<=rest.length:=(by rw[u];simp);rw[<-u]at bx em am hk hD hL;clear u;replace am:=Hh am
   gi_wp2
   refine⟨trivial,λ_=>by omega,(Pw.2 am.out).mono ?_⟩;rintro e w1 ⟨⟨a,r,b,rfl,ad⟩,nd,rfl⟩
   have z:D6 k (Au 10 rest)=(if L7 a=true then[(((k:Int)+1),bu a)]else[])++D6 (k+1) (Au 10 r):=by
    rcases ad with⟨_,v,e2,e3⟩|⟨_,v,e3⟩
    .rw [<-v,Sk e3,e2,Af7];unfold D6
     split<;>rfl
    .rw [v,Sl e3,D6]
     split<;>rfl
   have aI:(k+1)+r.length<=s.size:=by
    rcases ad with⟨_,v,e2,e3⟩|⟨_,v,e3⟩
    .rw [e2];simp;omega
    .have:=Cv List.length v;simp at this;omega
   have aE:sk w0 p rest (wr.drewN nd):=⟨hL.box,hL.mx⟩;have aA:=hJ d wr _ aK.out (Ap1 wr nd _)
   have aU:a.length<=s.size:=by
    rcases ad with⟨_,v,e2,e3⟩|⟨_,v,e3⟩
    .rw [v];omega
    .have:=Cv List.length v;simp at this;omega
   replace⟨ad,z,aE,aA⟩:=H4 ad z aE aA;obtain⟨w1,an⟩:=Ex (wr.drewN nd);have aP:w1.cell? ⟨p,0,I⟩=O (D (bu rest)):=(by rw[an];exact bx);have aO:w1.frozen? ⟨p,0,I⟩=false:=(by rw[an];exact bf);have j:=aE.out;have o:=aA.out;rw[<-an]at j o ⊢;replace⟨j,o,an⟩:=H3 j o an;clear bx bf em
   cases a with
   | nil=>
    have aJ:(bu ([]:List UInt8)).toList.isEmpty=true:=Sn [];have f:Gi s=d++D6 (k+1) (Au 10 r):=(by rw[hD.out,z.out];rfl);have m:sk w0 p r (w1.setCell ⟨p,0,I⟩ (D (bu r))):=Abk j.out av;have g:J9q d (w1.setCell ⟨p,0,I⟩ (D (bu r))):=hJ d w1 _ o.out (Abj _ _ _ _);replace⟨f,m,g⟩:=H3 f m g
    gi_wp2
    refine⟨λ_ h=>(by cases h),?_⟩
    gi_wp2
    go_roundw
    case rel=>exact⟨k+1,d,r,by go_num,aI,f.out,m.out,g.out⟩
    case measure=>simp[intOf];omega
   | cons c' a'=>
    have aJ:(bu (c' :: a')).toList.isEmpty=false:=Sn (c' :: a');have aM:∀w,(Instr.index 9 (D (bu (c' :: a'))) (Z G 0)).run Tryz.prog w=.ok (Z .u8 (el (bu (c' :: a')) 0)) w:=λw=>Qz Ev (bu (c' :: a')) 0 0 rfl (by rw[L4];simp) w;have aH:el (bu (c' :: a')) 0=(c'.toNat:Int):=(by unfold el;rw[My];rfl);have t:L7 (c' :: a')=decide (el (bu (c' :: a')) 0≠35):=(by rw[aH];unfold L7;refine Aa1.2 (not_congr ⟨λh=>by rw[h];rfl,λh=>Aa5.1 (by have:(35:UInt8).toNat=35:=rfl;omega)⟩));obtain⟨x,hx⟩:=Ex (el (bu (c' :: a')) 0);rw[<-hx]at aM t;obtain⟨a,ha⟩:=Ex (c' :: a');rw[<-ha]at aJ aM t z aU;rw[<-ha];replace⟨aH,hx,ha⟩:=H3 aH hx ha;by_cases q:x=35
    .have aR:(x != 35)=false:=(by simp[q]);have f:Gi s=d++D6 (k+1) (Au 10 r):=(by rw[hD.out,z.out,Ac (by rw[t];simp[q])];rfl);have m:sk w0 p r (w1.setCell ⟨p,0,I⟩ (D (bu r))):=Abk j.out av;have g:J9q d (w1.setCell ⟨p,0,I⟩ (D (bu r))):=hJ d w1 _ o.out (Abj _ _ _ _);replace⟨f,m,g,q,t⟩:=H5 f m g q t
     gi_wp2
     refine⟨λ_ h=>(by cases h),?_⟩
     gi_wp2
     go_roundw
     case rel=>exact⟨k+1,d,r,by go_num,aI,f.out,m.out,g.out⟩
     case measure=>simp[intOf];omega
    .have aR:(x != 35)=true:=(by simp[q]);have f:Gi s=(d++[(((k:Int)+1),bu a)])++D6 (k+1) (Au 10 r):=(by rw[hD.out,z.out,Ad (by rw[t];simp[q]),K6]);have y:(d++[(((k:Int)+1),bu a)]) <+: Gi s:=⟨_,f.symm⟩;obtain⟨fn,tmps,assign,body,hy,hR⟩:=aT d (((k:Int)+1),bu a) w1 o.out y;replace⟨f,y,q,t⟩:=H4 f y q t
     gi_wp2
     refine⟨λ_=>by omega,hR.mono ?_⟩;rintro e W3 (⟨rfl,aB,aF,ap⟩|⟨rfl,ao⟩)
     .have ac:sk w0 p rest W3:=⟨aF.trans j.box,j.mx.mh ap⟩;have aQ:=Aa ac.box 0;have aV:=Ag ac.box 0;simp at aQ;have m:sk w0 p r (W3.setCell ⟨p,0,I⟩ (D (bu r))):=Abk ac av;have g:J9q (d++[(((k:Int)+1),bu a)]) (W3.setCell ⟨p,0,I⟩ (D (bu r))):=hJ _ W3 _ aB (Abj _ _ _ _);clear aP aO;replace⟨ac,aB,aF,ap,m,g⟩:=H6 ac aB aF ap m g
      gi_wp2
      go_roundw
      case rel=>exact⟨k+1,d++[(((k:Int)+1),bu a)],r,by go_num,aI,f.out,m.out,g.out⟩
      case measure=>simp[intOf];omega
     .have aC:=Hh ao;clear ao
      gi_wp2
      refine Al (results_none rfl _ _ _) rfl ?_;exact⟨⟨_,rfl⟩,.inr ⟨d,(((k:Int)+1),bu a),y.out,aC.out⟩⟩
