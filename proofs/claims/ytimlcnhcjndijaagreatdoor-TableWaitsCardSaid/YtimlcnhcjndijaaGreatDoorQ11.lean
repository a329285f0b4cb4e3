/- fleet.Read: the fleet of a text: parts. -/
import Derived.Test.YtimlcnhcjndijaaGreatDoorQ08
import Derived.Test.YtimlcnhcjndijaaGreatDoorQ10
set_option linter.all false
set_option maxRecDepth 100000
set_option maxHeartbeats 1600000
namespace Go.Proofs.YtimlcnhcjndijaaGreatDoor
open Go.RowKit Go.Maps
def Aka (s:ByteArray) (w:World):Calls Tryz.prog 40 #[.string s] w fun e w'=>e=.returned (.func (.func 75) #[] #[.pointer (some ⟨w.heap.size,0,none⟩)])/\w'=w.alloc (.cells #[.string s] 9 (0,0)):=by
 go_enter Tryz.func40,Tryz.ntmps40;go_wp2;go_ret;exact ⟨rfl,rfl⟩
def Bo:List ax->List (Int×ByteArray)->List ax×Int×Int
 | xs,[]=>(xs,0,0)
 | xs,(i,l) :: ls=>
  match Ip l with
  | none=>(xs,50,i)
  | some v=>if Eb (xs.map ax.name) xs.length v.name v.parts=0 then Bo (xs++[v]) ls else (xs,Eb (xs.map ax.name) xs.length v.name v.parts,i)
def Mz (s:ByteArray):List ax×Int×Int:=if 4096<s.size then ([],2,0) else Bo [] (Gv s)
def Yb (xs:List ax) (l m:List (Int×ByteArray)) (h:(Bo xs l).2.1=0):Bo xs (l++m)=Bo (Bo xs l).1 m:=by
 induction l generalizing xs with
 | nil=>rfl
 | cons x l ih=>
  obtain ⟨i,b⟩:=x;show Bo xs ((i,b) :: (l++m))=_;simp only [Bo] at h ⊢
  cases hn:Ip b with
  | none=>rw [hn] at h;simp at h
  | some v=>
   rw [hn] at h;simp only at h ⊢;by_cases c:Eb (xs.map ax.name) xs.length v.name v.parts=0
   .rw [Ad c] at h ⊢;rw [Ad c];exact ih _ h
   .rw [Ac c] at h;exact absurd h c
end Go.Proofs.YtimlcnhcjndijaaGreatDoor
