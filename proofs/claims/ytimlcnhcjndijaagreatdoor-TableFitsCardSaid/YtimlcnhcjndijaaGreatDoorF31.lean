/- Parts of a proof. No condition. -/
import Derived.Test.YtimlcnhcjndijaaGreatDoorF16
import Derived.Sort.OwnSortedInts
set_option linter.all false
set_option maxRecDepth 100000
set_option maxHeartbeats 1600000
namespace Go.Proofs.YtimlcnhcjndijaaGreatDoor
section
open Go.RowKit Go.Maps Go.Lib Go.Sort
variable {w:World} {B:Nat}
def J5 (l:List Int):List Int:=l.mergeSort fun x y=>decide (x<=y)
def Xu (l:List Int):(J5 l).length=l.length:=U9 l
def Avc (l:List Int):(Lib.compact l).length<=l.length:=by
 unfold Lib.compact Lib.compactUpTo;rw [At];refine A5 (Nr _ _) ?_;simp
def Avd {w:World} {g q:Nat} (d:Array Int):Mod (fun b=>b=g) w (putRow (Value.int .i64) (Sort.ahead w q) g 0 d):=
 ⟨rfl,rfl,rfl,by simp [putRow,mapBlock,Sort.ahead],fun k _ a=>by
  have:g≠k:=fun e=>a e.symm
  simp [putRow,mapBlock,Sort.ahead,U6,this]⟩
def Ave {v:Value} {l:List Int} (h:Al w B v l) (s:l.length<=1000000) :
  Calls Tryz.prog 91 #[v] w fun e w'=>e=.returned (.tuple #[])/\Al w' B v (J5 l)/\Mod (fun b=>v.ownBlock=some b) w w':=by
 rcases h.row.2 with ⟨rfl,h0⟩ | ⟨g,cap,f,rfl,o,p,h1,i,j,r⟩
 .refine (Tryz.slices_Sort_int_none none 0 w).mono ?_;rintro e w' ⟨rfl,rfl⟩;have:l=[]:=Gd.1 h0;subst this;have e:J5 []=[]:=by simp [J5]
  exact ⟨rfl,by rw [e];exact h,Mod.refl _ _⟩
 .obtain ⟨q,d,e,_,c,_,_,_,m⟩:=holds_of_ownsRow (enc:=Value.int .i64) (zs:=l) h.row (by simp);injection e with e1 _ e3;injection e1 with e1;injection e1 with e1;subst e1 e3;refine (Tryz.slices_Sort_int g 0 cap l w m c (by omega)).mono ?_;rintro e w' ⟨rfl,n,os,rfl⟩;refine ⟨rfl,⟨?_⟩,(Mod.grown (grownBy_sortedI _) (S:=fun b=>b=g) (fun k a=>by injection a with a;exact a.symm)).mono fun b _ e=>by rw [e];rfl⟩;have:=ownsRow_sortedI (w:=w) (n:=n) (os:=os) (e:=3) (base:=B) (ss:=l) (ts:=J5 l) (Xu l) o p h1 i j;rw [Xu];exact this
def Avf {v:Value} {l:List Int} (h:Al w B v l) (t:l.length<=1000000) :
  Calls Tryz.prog 155 #[v] w fun e w'=>∃ c,e=.returned c/\Al w' B c (Lib.compact l)/\Mod (fun b=>v.ownBlock=some b) w w'/\c.ownBlock=v.ownBlock:=by
 rcases h.row.2 with ⟨rfl,h0⟩ | ⟨g,cap,f,rfl,r,s,h1,n,o,p⟩
 .refine (Tryz.slices_Compact_int_empty none 0 w).mono ?_;rintro e w' ⟨rfl,rfl⟩;have:l=[]:=Gd.1 h0;subst this;exact ⟨_,rfl,h,Mod.refl _ _,rfl⟩
 .obtain ⟨m,d,e,_,j,_,_,_,i⟩:=holds_of_ownsRow (enc:=Value.int .i64) (zs:=l) h.row (by simp);injection e with e1 _ e3;injection e1 with e1;injection e1 with e1;subst e1 e3;refine (Tryz.slices_Compact_int g 0 cap l w i (by omega) h1).mono ?_;rintro e w' ⟨rfl,q,rfl⟩;have a:=Avc l;refine ⟨_,rfl,⟨?_⟩,(Avd _).mono fun b _ e=>by rw [e];rfl,rfl⟩;have:=ownsRow_putRow (q:=q) (k:=(Lib.compact l).length) (ys:=Lib.compact l++List.replicate (l.length-(Lib.compact l).length) 0) h.row (by simp;omega) a;rw [List.take_left'] at this
  .exact this
  .rfl
