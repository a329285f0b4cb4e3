/- What an argument that is a spec reads as, opened. Plain theorems: no condition. -/
import Derived.Test.YtimlcnhcjndijaaGreatDoorQ16
import Derived.Test.YtimlcnhcjndijaaGreatDoorQ14
set_option linter.all false
set_option maxRecDepth 100000
set_option maxHeartbeats 1600000
namespace Go.Proofs.YtimlcnhcjndijaaGreatDoor
open Go.ChangeShapes Go.WideShapes Go.ChangeAt Go.RowKit
def Oi {n:Int} (h:(Lit.int .i64 n).wf=true):-9223372036854775808<=n/\n<=9223372036854775807:=by
 simp [Lit.wf,IntKind.min,IntKind.max,IntKind.signed,IntKind.bits] at h;omega
def Ayn:Tryz.prog.cellsOf 4=1:=by kernel_rfl
def Ayo:Tryz.prog.cellsOf 31=1:=by kernel_rfl
def Ai0:Tryz.prog.cellsOf 33=13:=by kernel_rfl
def Ayp {α:Type} {l:List α} (h:l.length=13):∃ a b c d e f g i j k m n o,l=[a,b,c,d,e,f,g,i,j,k,m,n,o]:=by
 match l,h with
 | [a,b,c,d,e,f,g,i,j,k,m,n,o],_=>exact ⟨a,b,c,d,e,f,g,i,j,k,m,n,o,rfl⟩
section
variable {H:Type} {enc:TypeId×Value->H} {w:World} {held:Bool} {fuel:Nat} {cs:List Value} {x:DataW H×List MemPlace}
def Ayq {c:Value} (h:DataW.trod enc Tryz.prog w 0 (fun _=>true) held fuel 31 [c]=some x):∃ d n f xs,c=.slice d n f/\Ap w d n xs/\n<=f:=by
 obtain ⟨d,n,f,xs,e,g,l⟩:=Acc (0:Int) (fun s=>#[.int .i64 s]) 1 (fun _ _=>True) Nm P4 (by decide) (fun _=>rfl) (fun a cs x h=>by
  obtain ⟨s,e,_⟩:=G8 Da h
  exact ⟨s,e,trivial⟩) h
 refine ⟨d,n,f,xs,e,⟨g.len,g.max,fun i x m=>?_⟩,l⟩;obtain ⟨b,j,e,k,o,_⟩:=g.cell i x m;have:=o 0 (by omega);rw [Nat.mul_one,Nt] at this;exact ⟨b,j,e,k,this⟩
def Ayr (h:DataW.trod enc Tryz.prog w 0 (fun _=>true) held fuel 33 cs=some x):∃ a:au,cs=a.cells.toList/\a.ok w:=by
 obtain ⟨xs,n,_,rfl,g,c,b⟩:=DataW.trod_struct Tryz.underlying33 h;rw [Ai0] at g;obtain ⟨c0,c1,c2,c3,c4,c5,c6,c7,c8,c9,ac,ad,al,rfl⟩:=Ayp g
 match xs,c with
 | [y0,y1,y2,y3,y4,y5,y6,y7,y8,y9],_=>
  have h0:=b 0 _ rfl;have h1:=b 1 _ rfl;have i:=b 2 _ rfl;have j:=b 3 _ rfl;have k:=b 4 _ rfl;have l:=b 5 _ rfl;have o:=b 6 _ rfl;have p:=b 7 _ rfl;have q:=b 8 _ rfl;have r:=b 9 _ rfl;simp [Alc,Aca,P4,Ayn,Ayo] at h0 h1 i j k l o p q r;obtain ⟨s0,s,_,d⟩:=DataW.trod_string Gq h0;obtain ⟨s1,t,_,e⟩:=DataW.trod_string Gq h1;obtain ⟨n2,u,_⟩:=G8 Da i;obtain ⟨v,y⟩:=Alg j;obtain ⟨n4,z,_⟩:=G8 Da k;obtain ⟨n5,e5,_⟩:=G8 Da l;obtain ⟨n6,e6,_⟩:=G8 Da o;obtain ⟨n7,e7,_⟩:=G8 Da p;obtain ⟨b8,e8,_⟩:=DataW.trod_bool Xo q;obtain ⟨so,m,cp,zs,rfl,hz,f⟩:=Ayq r;simp at s t u y z e5 e6 e7 e8;obtain ⟨rfl,rfl,rfl,rfl⟩:=y;subst s t u z e5 e6 e7 e8;exact ⟨⟨⟨s0,s1,n2,v,n4,n5,n6,n7,b8,zs⟩,so,m,cp⟩,rfl,⟨hz,f,d,e⟩⟩
end
section
variable {H:Type} {enc:TypeId×Value->H} {w:World} {held:Bool} {b0:Nat} {r:Reach} {v:Value} {d:DataW H} {p:List MemPlace}
end
end Go.Proofs.YtimlcnhcjndijaaGreatDoor
