/- Parts of a proof. No condition. -/
import Derived.Test.YtimlcnhcjndijaaGreatDoorH06
import Derived.Test.YtimlcnhcjndijaaGreatDoorH08
import Derived.RangeFuncNested
import Derived.RangeFuncBound
set_option linter.all false
set_option maxRecDepth 100000
set_option maxHeartbeats 6400000
namespace Go.Proofs.YtimlcnhcjndijaaGreatDoor
open IntKind renaming i64->G
open Value renaming int->Z,string->E,pointer->K
open Option renaming some->O,none->I
open Obj renaming cells->J
open Go renaming World->WD
section
open Go.RowKit Go.Shelf
attribute [local go_sem] Oper.semAt_some
def Xh (l:List UInt8):Bool:=match l with | []=>false|c :: _=>decide (c≠35)
def Ie:Nat->List (List UInt8)->List (Int×ByteArray)
 | _,[]=>[]
 | n,p :: ps=>if Xh p=true then(((n:Int)+1),au p)::Ie (n+1) ps else Ie (n+1) ps
def I4 (s:ByteArray):List (Int×ByteArray):=Ie 0 (A9 10 s.data.toList)
abbrev Ana (x:Int×ByteArray):Array Value:=#[Z G x.1,E x.2]
def Aei (n:Nat):Ie n (A9 10 [])=[]:=rfl
structure re (W0:WD) (Bt:Nat) (rest:List UInt8) (W:WD):Prop where
 box:W.heap[Bt]?=O (J #[E (au rest)] 9 (0,0))
 mx:Mx W
def Mx.kq {w w':WD} (h:Mx w) (b:w'.heap[0]?=w.heap[0]?):Mx w':=by
 obtain⟨m,h⟩:=h;exact⟨m,(Bl (a:=⟨0,0,I⟩) (w:=w) b).trans h⟩
def Anb (w:WD) (n:Nat) (row:Option Nat):w.grownBy (w.drewN n) row:=⟨rfl,rfl,rfl,Nat.le_refl _,λ_ _ _=>rfl⟩
def Aah (w:WD) (b o:Nat) (v:Value):w.grownBy (w.setCell ⟨b,o,I⟩ v) (O b):=
 ⟨rfl,rfl,rfl,by simp[World.setCell],λk _ a=>Ci _ _ _ _ (λe=>a (by rw[e]))⟩
def Xi (l:List UInt8):(au l).toList.isEmpty=l.isEmpty:=by rw[Lib.toList_data,Fy]
def Aai {b w1:WD} {a:Nat} {rest r:List UInt8} (h:re b a rest w1) (c:0<a):re b a r (w1.setCell ⟨a,0,I⟩ (E (au r))):=
 ⟨by rw[Am h.box];rfl,h.mx.kq (Ci _ _ _ _ (by simp;omega))⟩
def Anc (n:Nat) (hn:3<=n) (p:Nat) (s:ByteArray) (w0:WD) (hs:s.size<=4294967200) (af:w0.heap[p]?=O (J #[E s] 9 (0,0))) (aM:Mx w0) (ap:0<p) :
  Aeh Fence.wide n Tryz.prog 75 #[K (O ⟨p,0,I⟩)] Ana p (I4 s) w0:=by
 intro l J9q Jx W aF hJ aK hY h0;have aC:re w0 p s.data.toList W:=⟨Ae aF af (Ac af),aM.low aF⟩;clear af aM aF;replace⟨hJ,aK,aC⟩:=H3 hJ aK aC;have aS:=Hh hY;clear hY;have aR:=Hh h0;clear h0;refine callsIn_of_wp Tryz.func75 rfl trivial ?_ rfl;simp only[Tryz.ntmps75,Tm,D8,Ib,Nat.reduceAdd,Nat.reduceSub,Zm,Zn,Zv,Zo,Oz,P1]
 gi_wp2
 gi_loopw [3,4,5,6] (λi _ _ _ wr=>∃(k:Nat) (d:List (Int×ByteArray)) (rest:List UInt8),i=Z G k/\k+rest.length<=s.size/\Hid (I4 s=d++Ie k (A9 10 rest))/\Hid (re w0 p rest wr)/\Hid (J9q d wr)) (λi _ _ _ wr=>s.size-(intOf i).toNat)
 case atStart=>exact⟨0,[],s.data.toList,rfl,by rw[M8];omega,rfl,aC.out,aR.out⟩
 case round=>
  obtain⟨k,d,rest,rfl,hk,hD,hL,aJ⟩:=hrel;have bx:=Aa hL.box 0;have bf:=Ag hL.box 0;simp at bx
  cases rest with
  | nil=>
   have v:(I4 s)=d:=(by rw[hD.out,Aei,N3]);have em:(au ([]:List UInt8)).toList.isEmpty=true:=Xi [];replace v:=Hh v
   gi_wp2
   go_end0;exact⟨⟨_,rfl⟩,.inl (by rw[v.out];exact aJ.out)⟩
  | cons c rs=>
   have em:(au (c :: rs)).toList.isEmpty=false:=Xi (c :: rs);have al:=Ady (au (c :: rs)) 10 wr hL.mx (by rw[Gg];omega);rw[Fy]at al;obtain⟨rest,u⟩:=Ex (c :: rs);have aV:1<=rest.length:=(by rw[u];simp);rw[<-u]at bx em al hk hD hL;clear u;replace al:=Hh al
   gi_wp2
   refine⟨trivial,λ_=>by omega,(Kw.2 al.out).mono ?_⟩;rintro e w1 ⟨⟨a,r,b,rfl,ad⟩,nd,rfl⟩
   have z:Ie k (A9 10 rest)=(if Xh a=true then[(((k:Int)+1),au a)]else[])++Ie (k+1) (A9 10 r):=by
    rcases ad with⟨_,v,e2,e3⟩|⟨_,v,e3⟩
    .rw [<-v,Rx e3,e2,Aei];unfold Ie
     split<;>rfl
    .rw [v,Ry e3,Ie]
     split<;>rfl
   have aH:(k+1)+r.length<=s.size:=by
    rcases ad with⟨_,v,e2,e3⟩|⟨_,v,e3⟩
    .rw [e2];simp;omega
    .have:=Ca List.length v;simp at this;omega
   have aD:re w0 p rest (wr.drewN nd):=⟨hL.box,hL.mx⟩;have av:=hJ d wr _ aJ.out (Anb wr nd _)
   have aT:a.length<=s.size:=by
    rcases ad with⟨_,v,e2,e3⟩|⟨_,v,e3⟩
    .rw [v];omega
    .have:=Ca List.length v;simp at this;omega
   replace⟨ad,z,aD,av⟩:=H4 ad z aD av;obtain⟨w1,am⟩:=Ex (wr.drewN nd);have aO:w1.cell? ⟨p,0,I⟩=O (E (au rest)):=(by rw[am];exact bx);have aN:w1.frozen? ⟨p,0,I⟩=false:=(by rw[am];exact bf);have j:=aD.out;have o:=av.out;rw[<-am]at j o ⊢;replace⟨j,o,am⟩:=H3 j o am;clear bx bf em
   cases a with
   | nil=>
    have aI:(au ([]:List UInt8)).toList.isEmpty=true:=Xi [];have f:I4 s=d++Ie (k+1) (A9 10 r):=(by rw[hD.out,z.out];rfl);have m:re w0 p r (w1.setCell ⟨p,0,I⟩ (E (au r))):=Aai j.out ap;have g:J9q d (w1.setCell ⟨p,0,I⟩ (E (au r))):=hJ d w1 _ o.out (Aah _ _ _ _);replace⟨f,m,g⟩:=H3 f m g
    gi_wp2
    refine⟨λ_ h=>(by cases h),?_⟩
    gi_wp2
    go_roundw
    case rel=>exact⟨k+1,d,r,by go_num,aH,f.out,m.out,g.out⟩
    case measure=>simp[intOf];omega
   | cons c' a'=>
    have aI:(au (c' :: a')).toList.isEmpty=false:=Xi (c' :: a');have aL:∀w,(Instr.index 9 (E (au (c' :: a'))) (Z G 0)).run Tryz.prog w=.ok (Z .u8 (ft (au (c' :: a')) 0)) w:=λw=>Z3 Fu (au (c' :: a')) 0 0 rfl (by rw[Gg];simp) w;have aG:ft (au (c' :: a')) 0=(c'.toNat:Int):=(by unfold ft;rw[Fy];rfl);have t:Xh (c' :: a')=decide (ft (au (c' :: a')) 0≠35):=(by rw[aG];unfold Xh;refine decide_eq_decide.2 (not_congr ⟨λh=>by rw[h];rfl,λh=>UInt8.toNat_inj.1 (by have:(35:UInt8).toNat=35:=rfl;omega)⟩));obtain⟨x,hx⟩:=Ex (ft (au (c' :: a')) 0);rw[<-hx]at aL t;obtain⟨a,ha⟩:=Ex (c' :: a');rw[<-ha]at aI aL t z aT;rw[<-ha];replace⟨aG,hx,ha⟩:=H3 aG hx ha;by_cases q:x=35
    .have aQ:(x != 35)=false:=(by simp[q]);have f:I4 s=d++Ie (k+1) (A9 10 r):=(by rw[hD.out,z.out,Ab (by rw[t];simp[q])];rfl);have m:re w0 p r (w1.setCell ⟨p,0,I⟩ (E (au r))):=Aai j.out ap;have g:J9q d (w1.setCell ⟨p,0,I⟩ (E (au r))):=hJ d w1 _ o.out (Aah _ _ _ _);replace⟨f,m,g,q,t⟩:=H5 f m g q t
     gi_wp2
     refine⟨λ_ h=>(by cases h),?_⟩
     gi_wp2
     go_roundw
     case rel=>exact⟨k+1,d,r,by go_num,aH,f.out,m.out,g.out⟩
     case measure=>simp[intOf];omega
    .have aQ:(x != 35)=true:=(by simp[q]);have f:I4 s=(d++[(((k:Int)+1),au a)])++Ie (k+1) (A9 10 r):=(by rw[hD.out,z.out,Ad (by rw[t];simp[q]),Fd]);have y:(d++[(((k:Int)+1),au a)]) <+: I4 s:=⟨_,f.symm⟩;obtain⟨fn,tmps,assign,body,hy,hR⟩:=aS d (((k:Int)+1),au a) w1 o.out y;replace⟨f,y,q,t⟩:=H4 f y q t
     gi_wp2
     refine⟨λ_=>by omega,hR.mono ?_⟩;rintro e W3 (⟨rfl,aA,aE,ao⟩|⟨rfl,an⟩)
     .have ac:re w0 p rest W3:=⟨aE.trans j.box,j.mx.kq ao⟩;have aP:=Aa ac.box 0;have aU:=Ag ac.box 0;simp at aP;have m:re w0 p r (W3.setCell ⟨p,0,I⟩ (E (au r))):=Aai ac ap;have g:J9q (d++[(((k:Int)+1),au a)]) (W3.setCell ⟨p,0,I⟩ (E (au r))):=hJ _ W3 _ aA (Aah _ _ _ _);clear aO aN;replace⟨ac,aA,aE,ao,m,g⟩:=H6 ac aA aE ao m g
      gi_wp2
      go_roundw
      case rel=>exact⟨k+1,d++[(((k:Int)+1),au a)],r,by go_num,aH,f.out,m.out,g.out⟩
      case measure=>simp[intOf];omega
     .have aB:=Hh an;clear an
      gi_wp2
      refine An (results_none rfl _ _ _) rfl ?_;exact⟨⟨_,rfl⟩,.inr ⟨d,(((k:Int)+1),au a),y.out,aB.out⟩⟩
