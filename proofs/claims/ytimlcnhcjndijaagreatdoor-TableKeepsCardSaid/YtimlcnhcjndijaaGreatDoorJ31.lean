/- Parts of a proof. No condition. -/
import Derived.Test.YtimlcnhcjndijaaGreatDoorJ16
import Derived.Sort.OwnSortedInts
set_option linter.all false
set_option maxRecDepth 100000
set_option maxHeartbeats 1600000
namespace Go.Proofs.YtimlcnhcjndijaaGreatDoor
open IntKind renaming i64->G
open Option renaming some->O,none->I
open Ending renaming returned->Y
section
open Go.RowKit Go.Maps Go.Lib Go.Sort
variable {w:World} {B:Nat}
def K0 (l:List Int):List Int:=l.mergeSort λx y=>decide (x<=y)
def Zf (l:List Int):(K0 l).length=l.length:=Wk l
def Ayt (l:List Int):(Lib.compact l).length<=l.length:=by
 unfold Lib.compact Lib.compactUpTo;rw[Ar];refine A8 (Ok _ _) ?_;simp
def Ayu {w:World} {g q:Nat} (d:Array Int):Mod (λb=>b=g) w (putRow (Value.int G) (Sort.ahead w q) g 0 d):=
 ⟨rfl,rfl,rfl,by simp[putRow,mapBlock,Sort.ahead],λk _ a=>by
  have:g≠k:=λe=>a e.symm
  simp[putRow,mapBlock,Sort.ahead,Wh,this]⟩
def Ayv {v:Value} {l:List Int} (h:Am w B v l) (s:l.length<=1000000) :
  Calls Tryz.prog 91 #[v] w λe w'=>e=Y (.tuple #[])/\Am w' B v (K0 l)/\Mod (λb=>v.ownBlock=O b) w w':=by
 rcases h.row.2 with⟨rfl,h0⟩|⟨g,cap,f,rfl,o,p,h1,i,j,r⟩
 .refine (Tryz.slices_Sort_int_none I 0 w).mono ?_;rintro e w' ⟨rfl,rfl⟩;have:l=[]:=Ib.1 h0;subst this;have e:K0 []=[]:=by simp[K0]
  exact⟨rfl,by rw[e];exact h,Mod.refl _ _⟩
 .obtain ⟨q,d,e,_,c,_,_,_,m⟩:=holds_of_ownsRow (enc:=Value.int G) (zs:=l) h.row as9;injection e with e1 _ e3;injection e1 with e1;injection e1 with e1;subst e1 e3;refine(Tryz.slices_Sort_int g 0 cap l w m c ao9).mono ?_;rintro e w' ⟨rfl,n,os,rfl⟩;refine⟨rfl,⟨?_⟩,(Mod.grown (grownBy_sortedI _) (S:=λb=>b=g) (λk a=>by injection a with a;exact a.symm)).mono λb _ e=>by rw[e];rfl⟩;have:=ownsRow_sortedI (w:=w) (n:=n) (os:=os) (e:=3) (base:=B) (ss:=l) (ts:=K0 l) (Zf l) o p h1 i j;rw[Zf];exact this
def Ayw {v:Value} {l:List Int} (h:Am w B v l) (t:l.length<=1000000) :
  Calls Tryz.prog 155 #[v] w λe w'=>∃c,e=Y c/\Am w' B c (Lib.compact l)/\Mod (λb=>v.ownBlock=O b) w w'/\c.ownBlock=v.ownBlock:=by
 rcases h.row.2 with⟨rfl,h0⟩|⟨g,cap,f,rfl,r,s,h1,n,o,p⟩
 .refine (Tryz.slices_Compact_int_empty I 0 w).mono ?_;rintro e w' ⟨rfl,rfl⟩;have:l=[]:=Ib.1 h0;subst this;exact⟨_,rfl,h,Mod.refl _ _,rfl⟩
 .obtain ⟨m,d,e,_,j,_,_,_,i⟩:=holds_of_ownsRow (enc:=Value.int G) (zs:=l) h.row as9;injection e with e1 _ e3;injection e1 with e1;injection e1 with e1;subst e1 e3;refine(Tryz.slices_Compact_int g 0 cap l w i ao9 h1).mono ?_;rintro e w' ⟨rfl,q,rfl⟩;have a:=Ayt l;refine⟨_,rfl,⟨?_⟩,(Ayu _).mono λb _ e=>by rw[e];rfl,rfl⟩;have:=ownsRow_putRow (q:=q) (k:=(Lib.compact l).length) (ys:=Lib.compact l++List.replicate (l.length-(Lib.compact l).length) 0) h.row (by simp;omega) a;rw[List.take_left']at this
  .exact this
  .rfl
