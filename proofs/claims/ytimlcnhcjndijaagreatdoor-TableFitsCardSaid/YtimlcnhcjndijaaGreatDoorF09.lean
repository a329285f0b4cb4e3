/- Parts of a proof. No condition. -/
import Derived.Test.YtimlcnhcjndijaaGreatDoorF06
import Derived.Test.YtimlcnhcjndijaaGreatDoorF08
import Derived.RangeFuncNested
import Derived.RangeFuncBound
set_option linter.all false
set_option maxRecDepth 100000
set_option maxHeartbeats 6400000
namespace Go.Proofs.YtimlcnhcjndijaaGreatDoor
open Go renaming World->WD
section
open Go.RowKit Go.Shelf
attribute [local go_sem] Oper.semAt_some
def K5 (l:List UInt8):Bool:=match l with | []=>false | c :: _=>decide (c≠35)
def Dp:Nat->List (List UInt8)->List (Int×ByteArray)
 | _,[]=>[]
 | n,p :: ps=>if K5 p=true then (((n:Int)+1),bp p) :: Dp (n+1) ps else Dp (n+1) ps
def Fq (s:ByteArray):List (Int×ByteArray):=Dp 0 (Ap 10 s.data.toList)
abbrev Amh (x:Int×ByteArray):Array Value:=#[.int .i64 x.1,.string x.2]
def Adu (n:Nat):Dp n (Ap 10 [])=[]:=rfl
structure qq (W0:WD) (Bt:Nat) (rest:List UInt8) (W:WD):Prop where
 box:W.heap[Bt]?=some (.cells #[.string (bp rest)] 9 (0,0))
 mx:Mx W
def Mx.j9 {w w':WD} (h:Mx w) (b:w'.heap[0]?=w.heap[0]?):Mx w':=by
 obtain ⟨m,h⟩:=h;exact ⟨m,(Bp (a:=⟨0,0,none⟩) (w:=w) b).trans h⟩
def Ami (w:WD) (n:Nat) (row:Option Nat):w.grownBy (w.drewN n) row:=⟨rfl,rfl,rfl,Nat.le_refl _,fun _ _ _=>rfl⟩
def Zp (w:WD) (b o:Nat) (v:Value):w.grownBy (w.setCell ⟨b,o,none⟩ v) (some b):=
 ⟨rfl,rfl,rfl,by simp [World.setCell],fun k _ a=>Cm _ _ _ _ (fun e=>a (by rw [e]))⟩
def Rt (l:List UInt8):(bp l).toList.isEmpty=l.isEmpty:=by rw [Lib.toList_data,L1]
def Zq {b w1:WD} {a:Nat} {rest r:List UInt8} (h:qq b a rest w1) (c:0<a):qq b a r (w1.setCell ⟨a,0,none⟩ (.string (bp r))):=
 ⟨by rw [Am h.box];rfl,h.mx.j9 (Cm _ _ _ _ (by simp;omega))⟩
def Amj (n:Nat) (hn:3<=n) (p:Nat) (s:ByteArray) (w0:WD) (hs:s.size<=4294967200) (al:w0.heap[p]?=some (.cells #[.string s] 9 (0,0))) (aN:Mx w0) (av:0<p) :
  Adt Fence.wide n Tryz.prog 75 #[.pointer (some ⟨p,0,none⟩)] Amh p (Fq s) w0:=by
 intro l J Jx W aG hJ aL hY h0;have aD:qq w0 p s.data.toList W:=⟨Ae aG al (Ab al),aN.low aG⟩;clear al aN aG;replace ⟨hJ,aL,aD⟩:=H3 hJ aL aD;have aT:=Hh hY;clear hY;have aS:=Hh h0;clear h0;refine callsIn_of_wp Tryz.func75 rfl trivial ?_ rfl;simp only [Tryz.ntmps75,Ve,Il,P1,Nat.reduceAdd,Nat.reduceSub,Yt,Yu,Y4,Yx,Rg,Ox]
 gi_wp2
 gi_loopw [3,4,5,6] (fun i _ _ _ wr=>∃ (k:Nat) (d:List (Int×ByteArray)) (rest:List UInt8),i=.int .i64 k/\k+rest.length<=s.size/\Hid (Fq s=d++Dp k (Ap 10 rest))/\Hid (qq w0 p rest wr)/\Hid (J d wr)) (fun i _ _ _ wr=>s.size-(intOf i).toNat)
 case atStart=>exact ⟨0,[],s.data.toList,rfl,by rw [P5];omega,rfl,aD.out,aS.out⟩
 case round=>
  obtain ⟨k,d,rest,rfl,hk,hD,hL,aK⟩:=hrel;have bx:=Aa hL.box 0;have bf:=Af hL.box 0;simp at bx
  cases rest with
  | nil=>
   have v:(Fq s)=d:=(by rw [hD.out,Adu,Oz]);have em:(bp ([]:List UInt8)).toList.isEmpty=true:=Rt [];replace v:=Hh v
   gi_wp2
   go_end0;exact ⟨⟨_,rfl⟩,.inl (by rw [v.out];exact aK.out)⟩
  | cons c rs=>
   have em:(bp (c :: rs)).toList.isEmpty=false:=Rt (c :: rs);have am:=Adb (bp (c :: rs)) 10 wr hL.mx (by rw [K2];omega);rw [L1] at am;obtain ⟨rest,u⟩:=Ex (c :: rs);have aW:1<=rest.length:=(by rw [u];simp);rw [<- u] at bx em am hk hD hL;clear u;replace am:=Hh am
   gi_wp2
   refine ⟨trivial,fun _=>by omega,(O2.2 am.out).mono ?_⟩;rintro e w1 ⟨⟨a,r,b,rfl,ad⟩,nd,rfl⟩
   have z:Dp k (Ap 10 rest)=(if K5 a=true then [(((k:Int)+1),bp a)] else [])++Dp (k+1) (Ap 10 r):=by
    rcases ad with ⟨_,v,e2,e3⟩ | ⟨_,v,e3⟩
    .rw [<- v,Rq e3,e2,Adu];unfold Dp
     split<;>rfl
    .rw [v,Rr e3,Dp]
     split<;>rfl
   have aI:(k+1)+r.length<=s.size:=by
    rcases ad with ⟨_,v,e2,e3⟩ | ⟨_,v,e3⟩
    .rw [e2];simp;omega
    .have:=Ca List.length v;simp at this;omega
   have aE:qq w0 p rest (wr.drewN nd):=⟨hL.box,hL.mx⟩;have aA:=hJ d wr _ aK.out (Ami wr nd _)
   have aU:a.length<=s.size:=by
    rcases ad with ⟨_,v,e2,e3⟩ | ⟨_,v,e3⟩
    .rw [v];omega
    .have:=Ca List.length v;simp at this;omega
   replace ⟨ad,z,aE,aA⟩:=H4 ad z aE aA;obtain ⟨w1,an⟩:=Ex (wr.drewN nd);have aP:w1.cell? ⟨p,0,none⟩=some (.string (bp rest)):=(by rw [an];exact bx);have aO:w1.frozen? ⟨p,0,none⟩=false:=(by rw [an];exact bf);have j:=aE.out;have o:=aA.out;rw [<- an] at j o ⊢;replace ⟨j,o,an⟩:=H3 j o an;clear bx bf em
   cases a with
   | nil=>
    have aJ:(bp ([]:List UInt8)).toList.isEmpty=true:=Rt [];have f:Fq s=d++Dp (k+1) (Ap 10 r):=(by rw [hD.out,z.out];rfl);have m:qq w0 p r (w1.setCell ⟨p,0,none⟩ (.string (bp r))):=Zq j.out av;have g:J d (w1.setCell ⟨p,0,none⟩ (.string (bp r))):=hJ d w1 _ o.out (Zp _ _ _ _);replace ⟨f,m,g⟩:=H3 f m g
    gi_wp2
    refine ⟨fun _ h=>(by cases h),?_⟩
    gi_wp2
    go_roundw
    case rel=>exact ⟨k+1,d,r,by go_num,aI,f.out,m.out,g.out⟩
    case measure=>simp [intOf];omega
   | cons c' a'=>
    have aJ:(bp (c' :: a')).toList.isEmpty=false:=Rt (c' :: a');have aM:∀ w,(Instr.index 9 (.string (bp (c' :: a'))) (.int .i64 0)).run Tryz.prog w=.ok (.int .u8 (dy (bp (c' :: a')) 0)) w:=fun w=>P4 Eg (bp (c' :: a')) 0 0 rfl (by rw [K2];simp) w;have aH:dy (bp (c' :: a')) 0=(c'.toNat:Int):=(by unfold dy;rw [L1];rfl);have t:K5 (c' :: a')=decide (dy (bp (c' :: a')) 0≠35):=(by rw [aH];unfold K5;refine Y8.2 (not_congr ⟨fun h=>by rw [h];rfl,fun h=>Zb.1 (by have:(35:UInt8).toNat=35:=rfl;omega)⟩));obtain ⟨x,hx⟩:=Ex (dy (bp (c' :: a')) 0);rw [<- hx] at aM t;obtain ⟨a,ha⟩:=Ex (c' :: a');rw [<- ha] at aJ aM t z aU;rw [<- ha];replace ⟨aH,hx,ha⟩:=H3 aH hx ha;by_cases q:x=35
    .have aR:(x != 35)=false:=(by simp [q]);have f:Fq s=d++Dp (k+1) (Ap 10 r):=(by rw [hD.out,z.out,Ac (by rw [t];simp [q])];rfl);have m:qq w0 p r (w1.setCell ⟨p,0,none⟩ (.string (bp r))):=Zq j.out av;have g:J d (w1.setCell ⟨p,0,none⟩ (.string (bp r))):=hJ d w1 _ o.out (Zp _ _ _ _);replace ⟨f,m,g,q,t⟩:=H5 f m g q t
     gi_wp2
     refine ⟨fun _ h=>(by cases h),?_⟩
     gi_wp2
     go_roundw
     case rel=>exact ⟨k+1,d,r,by go_num,aI,f.out,m.out,g.out⟩
     case measure=>simp [intOf];omega
    .have aR:(x != 35)=true:=(by simp [q]);have f:Fq s=(d++[(((k:Int)+1),bp a)])++Dp (k+1) (Ap 10 r):=(by rw [hD.out,z.out,Ad (by rw [t];simp [q]),Ky]);have y:(d++[(((k:Int)+1),bp a)]) <+: Fq s:=⟨_,f.symm⟩;obtain ⟨fn,tmps,assign,body,hy,hR⟩:=aT d (((k:Int)+1),bp a) w1 o.out y;replace ⟨f,y,q,t⟩:=H4 f y q t
     gi_wp2
     refine ⟨fun _=>by omega,hR.mono ?_⟩;rintro e W3 (⟨rfl,aB,aF,ap⟩ | ⟨rfl,ao⟩)
     .have ac:qq w0 p rest W3:=⟨aF.trans j.box,j.mx.j9 ap⟩;have aQ:=Aa ac.box 0;have aV:=Af ac.box 0;simp at aQ;have m:qq w0 p r (W3.setCell ⟨p,0,none⟩ (.string (bp r))):=Zq ac av;have g:J (d++[(((k:Int)+1),bp a)]) (W3.setCell ⟨p,0,none⟩ (.string (bp r))):=hJ _ W3 _ aB (Zp _ _ _ _);clear aP aO;replace ⟨ac,aB,aF,ap,m,g⟩:=H6 ac aB aF ap m g
      gi_wp2
      go_roundw
      case rel=>exact ⟨k+1,d++[(((k:Int)+1),bp a)],r,by go_num,aI,f.out,m.out,g.out⟩
      case measure=>simp [intOf];omega
     .have aC:=Hh ao;clear ao
      gi_wp2
      refine Ak (results_none rfl _ _ _) rfl ?_;exact ⟨⟨_,rfl⟩,.inr ⟨d,(((k:Int)+1),bp a),y.out,aC.out⟩⟩
