/- slices.Sort, slices.Compact over a row of numbers of one's own. Plain theorems: no condition. -/
import Derived.Test.YtimlcnhcjndijaaGreatDoorQ18
import Derived.Sort.OwnSortedInts
set_option linter.all false
set_option maxRecDepth 100000
set_option maxHeartbeats 1600000
namespace Go.Proofs.YtimlcnhcjndijaaGreatDoor
open Go.RowKit Go.Maps Go.Lib Go.Sort
variable {w:World} {B:Nat}
def Ez (l:List Int):List Int:=l.mergeSort fun x y=>decide (x<=y)
def Wn (l:List Int):(Ez l).length=l.length:=Uy l
def As8 (l:List Int):(Lib.compact l).length<=l.length:=by
 unfold Lib.compact Lib.compactUpTo;rw [Ax];refine A6 (Nn _ _) ?_;simp
def As9 {w:World} {g q:Nat} (d:Array Int):Mod (fun b=>b=g) w (putRow (Value.int .i64) (Sort.ahead w q) g 0 d):=
 ⟨rfl,rfl,rfl,by simp [putRow,mapBlock,Sort.ahead],fun k _ a=>by
  have:g≠k:=fun e=>a e.symm
  simp [putRow,mapBlock,Sort.ahead,Sv,this]⟩
def Ata {v:Value} {l:List Int} (h:Ak w B v l) (q:l.length<=1000000) :
  Calls Tryz.prog 91 #[v] w fun e w'=>e=.returned (.tuple #[])/\Ak w' B v (Ez l)/\Mod (fun b=>v.ownBlock=some b) w w':=by
 rcases h.row.2 with ⟨rfl,h0⟩ | ⟨g,cap,f,rfl,i,j,h1,m,o,r⟩
 .refine (Tryz.slices_Sort_int_none none 0 w).mono ?_;rintro e w' ⟨rfl,rfl⟩;have:l=[]:=Fw.1 h0;subst this;have e:Ez []=[]:=by simp [Ez]
  exact ⟨rfl,by rw [e];exact h,Mod.refl _ _⟩
 .obtain ⟨s,d,e,_,a,_,_,_,p⟩:=holds_of_ownsRow (enc:=Value.int .i64) (zs:=l) h.row (by simp);injection e with e1 _ e3;injection e1 with e1;injection e1 with e1;subst e1 e3;refine (Tryz.slices_Sort_int g 0 cap l w p a (by omega)).mono ?_;rintro e w' ⟨rfl,n,os,rfl⟩;refine ⟨rfl,⟨?_⟩,(Mod.grown (grownBy_sortedI _) (S:=fun b=>b=g) (fun k c=>by injection c with c;exact c.symm)).mono fun b _ e=>by rw [e];rfl⟩;have:=ownsRow_sortedI (w:=w) (n:=n) (os:=os) (e:=3) (base:=B) (ss:=l) (ts:=Ez l) (Wn l) i j h1 m o;rw [Wn];exact this
def Atb {v:Value} {l:List Int} (h:Ak w B v l) (m:l.length<=1000000) :
  Calls Tryz.prog 155 #[v] w fun e w'=>∃ a,e=.returned a/\Ak w' B a (Lib.compact l)/\Mod (fun b=>v.ownBlock=some b) w w'/\a.ownBlock=v.ownBlock:=by
 rcases h.row.2 with ⟨rfl,h0⟩ | ⟨g,cap,f,rfl,n,o,h1,p,r,s⟩
 .refine (Tryz.slices_Compact_int_empty none 0 w).mono ?_;rintro e w' ⟨rfl,rfl⟩;have:l=[]:=Fw.1 h0;subst this;exact ⟨_,rfl,h,Mod.refl _ _,rfl⟩
 .obtain ⟨t,d,e,_,i,_,_,_,j⟩:=holds_of_ownsRow (enc:=Value.int .i64) (zs:=l) h.row (by simp);injection e with e1 _ e3;injection e1 with e1;injection e1 with e1;subst e1 e3;refine (Tryz.slices_Compact_int g 0 cap l w j (by omega) h1).mono ?_;rintro e w' ⟨rfl,q,rfl⟩;have c:=As8 l;refine ⟨_,rfl,⟨?_⟩,(As9 _).mono fun b _ e=>by rw [e];rfl,rfl⟩;have:=ownsRow_putRow (q:=q) (k:=(Lib.compact l).length) (ys:=Lib.compact l++List.replicate (l.length-(Lib.compact l).length) 0) h.row (by simp;omega) c;rw [List.take_left'] at this
  .exact this
  .rfl
end Go.Proofs.YtimlcnhcjndijaaGreatDoor
