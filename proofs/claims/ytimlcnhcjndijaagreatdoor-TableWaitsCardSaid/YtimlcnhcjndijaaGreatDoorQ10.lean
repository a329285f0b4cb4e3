/- fleet.lines: the lines of a text that say something, with their numbers: the iterator's contract. -/
import Derived.Test.YtimlcnhcjndijaaGreatDoorQ07
import Derived.Test.YtimlcnhcjndijaaGreatDoorQ09
import Derived.RangeFuncNested
import Derived.RangeFuncBound
set_option linter.all false
set_option maxRecDepth 100000
set_option maxHeartbeats 6400000
namespace Go.Proofs.YtimlcnhcjndijaaGreatDoor
open Go.RowKit Go.Shelf
attribute [local go_sem] Oper.semAt_some
def Va (l:List UInt8):Bool:=match l with | []=>false | c :: _=>decide (c≠35)
def G9:Nat->List (List UInt8)->List (Int×ByteArray)
 | _,[]=>[]
 | n,p :: ps=>if Va p=true then (((n:Int)+1),cn p) :: G9 (n+1) ps else G9 (n+1) ps
def Gv (s:ByteArray):List (Int×ByteArray):=G9 0 (Be 10 s.data.toList)
abbrev Aj7 (x:Int×ByteArray):Array Value:=#[.int .i64 x.1,.string x.2]
def Abp (n:Nat):G9 n (Be 10 [])=[]:=rfl
structure qi (W0:World) (Bt:Nat) (rest:List UInt8) (W:World):Prop where
 box:W.heap[Bt]?=some (.cells #[.string (cn rest)] 9 (0,0))
 mx:Mx W
def Mx.jz {w w':World} (h:Mx w) (b:w'.heap[0]?=w.heap[0]?):Mx w':=by
 obtain ⟨m,h⟩:=h;exact ⟨m,(Bp (a:=⟨0,0,none⟩) (w:=w) b).trans h⟩
def Aj8 (w:World) (n:Nat) (row:Option Nat):w.grownBy (w.drewN n) row:=⟨rfl,rfl,rfl,Nat.le_refl _,fun _ _ _=>rfl⟩
def X9 (w:World) (b o:Nat) (v:Value):w.grownBy (w.setCell ⟨b,o,none⟩ v) (some b):=
 ⟨rfl,rfl,rfl,by simp [World.setCell],fun k _ a=>Cd _ _ _ _ (fun e=>a (by rw [e]))⟩
def Vb (l:List UInt8):(cn l).toList.isEmpty=l.isEmpty:=by rw [Lib.toList_data,Ot]
def Ya {b w1:World} {a:Nat} {rest r:List UInt8} (h:qi b a rest w1) (c:0<a):qi b a r (w1.setCell ⟨a,0,none⟩ (.string (cn r))):=
 ⟨by rw [Al h.box];rfl,h.mx.jz (Cd _ _ _ _ (by simp;omega))⟩
def Aj9 (n:Nat) (hn:3<=n) (p:Nat) (s:ByteArray) (w0:World) (hs:s.size<=4294967200) (ac:w0.heap[p]?=some (.cells #[.string s] 9 (0,0))) (aJ:Mx w0) (ap:0<p) :
  Abo Fence.wide n Tryz.prog 75 #[.pointer (some ⟨p,0,none⟩)] Aj7 p (Gv s) w0:=by
 intro l J Jx W av hJ aK hY h0;have aA:qi w0 p s.data.toList W:=⟨Ae av ac (Ab ac),aJ.low av⟩;clear ac aJ av;replace ⟨hJ,aK,aA⟩:=H3 hJ aK aA;have aO:=Hh hY;clear hY;have aP:=Hh h0;clear h0;refine callsIn_of_wp Tryz.func75 rfl By ?_ rfl;simp only [Tryz.ntmps75,List.size_toArray,Jy,Pr,Nat.reduceAdd,Nat.reduceSub,Array.replicate_succ,Array.replicate_zero,List.push_toArray,List.append_toArray,Rf,Pp]
 gi_wp2
 gi_loopw [3,4,5,6] (fun i _ _ _ wr=>∃ (k:Nat) (d:List (Int×ByteArray)) (rest:List UInt8),i=.int .i64 k/\k+rest.length<=s.size/\Hid (Gv s=d++G9 k (Be 10 rest))/\Hid (qi w0 p rest wr)/\Hid (J d wr)) (fun i _ _ _ wr=>s.size-(intOf i).toNat)
 case atStart=>exact ⟨0,[],s.data.toList,rfl,by rw [U3];omega,rfl,aA.out,aP.out⟩
 case round=>
  obtain ⟨k,d,rest,rfl,hk,hD,hL,aL⟩:=hrel;have bx:=Aa hL.out.box 0;have bf:=Ah hL.out.box 0;simp at bx
  cases rest with
  | nil=>
   have v:(Gv s)=d:=(by rw [hD.out,Abp,Ps]);have em:(cn ([]:List UInt8)).toList.isEmpty=true:=Vb [];replace v:=Hh v
   gi_wp2
   go_end0;exact ⟨⟨_,rfl⟩,.inl (by rw [v.out];exact aL.out)⟩
  | cons c rs=>
   have em:(cn (c :: rs)).toList.isEmpty=false:=Vb (c :: rs);have ad:=Abc (cn (c :: rs)) 10 wr hL.out.mx (by rw [Nx];omega);rw [Ot] at ad;obtain ⟨rest,u⟩:=Ex (c :: rs);have aV:1<=rest.length:=(by rw [u];simp);rw [<- u] at bx em ad hk hD hL;clear u;replace ad:=Hh ad
   gi_wp2
   refine ⟨By,fun _=>by omega,(Or.2 ad.out).mono ?_⟩;rintro e w1 ⟨⟨a,r,b,rfl,al⟩,nd,rfl⟩
   have z:G9 k (Be 10 rest)=(if Va a=true then [(((k:Int)+1),cn a)] else [])++G9 (k+1) (Be 10 r):=by
    rcases al with ⟨_,v,e2,e3⟩ | ⟨_,v,e3⟩
    .rw [<- v,S9 e3,e2,Abp];unfold G9
     split<;>rfl
    .rw [v,Ta e3,G9]
     split<;>rfl
   have aB:(k+1)+r.length<=s.size:=by
    rcases al with ⟨_,v,e2,e3⟩ | ⟨_,v,e3⟩
    .rw [e2];simp;omega
    .have:=Ca List.length v;simp at this;omega
   have aC:qi w0 p rest (wr.drewN nd):=⟨hL.out.box,hL.out.mx⟩;have aD:=hJ.out d wr _ aL.out (Aj8 wr nd _)
   have aQ:a.length<=s.size:=by
    rcases al with ⟨_,v,e2,e3⟩ | ⟨_,v,e3⟩
    .rw [v];omega
    .have:=Ca List.length v;simp at this;omega
   replace ⟨al,z,aC,aD⟩:=H4 al z aC aD;obtain ⟨w1,am⟩:=Ex (wr.drewN nd);have aR:w1.cell? ⟨p,0,none⟩=some (.string (cn rest)):=(by rw [am];exact bx);have aS:w1.frozen? ⟨p,0,none⟩=false:=(by rw [am];exact bf);have g:=aC.out;have o:=aD.out;rw [<- am] at g o ⊢;replace ⟨g,o,am⟩:=H3 g o am;clear bx bf em
   cases a with
   | nil=>
    have aM:(cn ([]:List UInt8)).toList.isEmpty=true:=Vb [];have f:Gv s=d++G9 (k+1) (Be 10 r):=(by rw [hD.out,z.out];rfl);have j:qi w0 p r (w1.setCell ⟨p,0,none⟩ (.string (cn r))):=Ya g.out ap;have m:J d (w1.setCell ⟨p,0,none⟩ (.string (cn r))):=hJ.out d w1 _ o.out (X9 _ _ _ _);replace ⟨f,j,m⟩:=H3 f j m
    gi_wp2
    refine ⟨fun _ h=>(by cases h),?_⟩
    gi_wp2
    go_roundw
    case rel=>exact ⟨k+1,d,r,by go_num,aB,f.out,j.out,m.out⟩
    case measure=>simp [intOf];omega
   | cons c' a'=>
    have aM:(cn (c' :: a')).toList.isEmpty=false:=Vb (c' :: a');have aN:∀ w,(Instr.index 9 (.string (cn (c' :: a'))) (.int .i64 0)).run Tryz.prog w=.ok (.int .u8 (gh (cn (c' :: a')) 0)) w:=fun w=>Xu Gq (cn (c' :: a')) 0 0 rfl (by rw [Nx];simp) w;have aE:gh (cn (c' :: a')) 0=(c'.toNat:Int):=(by unfold gh;rw [Ot];rfl);have q:Va (c' :: a')=decide (gh (cn (c' :: a')) 0≠35):=(by rw [aE];unfold Va;refine decide_eq_decide.2 (not_congr ⟨fun h=>by rw [h];rfl,fun h=>UInt8.toNat_inj.1 (by have:(35:UInt8).toNat=35:=rfl;omega)⟩));obtain ⟨x,hx⟩:=Ex (gh (cn (c' :: a')) 0);rw [<- hx] at aN q;obtain ⟨a,ha⟩:=Ex (c' :: a');rw [<- ha] at aM aN q z aQ;rw [<- ha];replace ⟨aE,hx,ha⟩:=H3 aE hx ha;by_cases t:x=35
    .have aT:(x != 35)=false:=(by simp [t]);have f:Gv s=d++G9 (k+1) (Be 10 r):=(by rw [hD.out,z.out,Ac (by rw [q];simp [t])];rfl);have j:qi w0 p r (w1.setCell ⟨p,0,none⟩ (.string (cn r))):=Ya g.out ap;have m:J d (w1.setCell ⟨p,0,none⟩ (.string (cn r))):=hJ.out d w1 _ o.out (X9 _ _ _ _);replace ⟨f,j,m,t,q⟩:=H5 f j m t q
     gi_wp2
     refine ⟨fun _ h=>(by cases h),?_⟩
     gi_wp2
     go_roundw
     case rel=>exact ⟨k+1,d,r,by go_num,aB,f.out,j.out,m.out⟩
     case measure=>simp [intOf];omega
    .have aT:(x != 35)=true:=(by simp [t]);have f:Gv s=(d++[(((k:Int)+1),cn a)])++G9 (k+1) (Be 10 r):=(by rw [hD.out,z.out,Ad (by rw [q];simp [t]),Ku]);have y:(d++[(((k:Int)+1),cn a)]) <+: Gv s:=⟨_,f.symm⟩;obtain ⟨fn,tmps,assign,body,hy,hR⟩:=aO.out d (((k:Int)+1),cn a) w1 o.out y;replace ⟨f,y,t,q⟩:=H4 f y t q
     gi_wp2
     refine ⟨fun _=>by omega,hR.mono ?_⟩;rintro e W3 (⟨rfl,aF,aG,aH⟩ | ⟨rfl,ao⟩)
     .have an:qi w0 p rest W3:=⟨aG.trans g.out.box,g.out.mx.jz aH⟩;have aU:=Aa an.box 0;have aW:=Ah an.box 0;simp at aU;have j:qi w0 p r (W3.setCell ⟨p,0,none⟩ (.string (cn r))):=Ya an ap;have m:J (d++[(((k:Int)+1),cn a)]) (W3.setCell ⟨p,0,none⟩ (.string (cn r))):=hJ.out _ W3 _ aF (X9 _ _ _ _);clear aR aS;replace ⟨an,aF,aG,aH,j,m⟩:=H6 an aF aG aH j m
      gi_wp2
      go_roundw
      case rel=>exact ⟨k+1,d++[(((k:Int)+1),cn a)],r,by go_num,aB,f.out,j.out,m.out⟩
      case measure=>simp [intOf];omega
     .have aI:=Hh ao;clear ao
      gi_wp2
      refine Ao (results_none rfl _ _ _) rfl ?_;exact ⟨⟨_,rfl⟩,.inr ⟨d,(((k:Int)+1),cn a),y.out,aI.out⟩⟩
end Go.Proofs.YtimlcnhcjndijaaGreatDoor
