/- Parts of a proof. No condition. -/
import Derived.Test.YtimlcnhcjndijaaGreatDoorF03
import Derived.Shelf.Slices.Empties
import Derived.Shelf.SlSortCmp.Insertion
set_option linter.all false
set_option maxRecDepth 100000
set_option maxHeartbeats 1600000
namespace Go.Proofs
open Go.Shelf
def Tryz.jg:Go.Shelf.Ren:=⟨fun | 25=>264 | 31=>198 | 32=>306 | 37=>258 | n=>n,fun | 22=>31 | 3=>3 | 4=>4 | 40=>230 | 0=>0 | n=>n,fun | n=>n⟩
def Tryz.jr:Go.Proofs.Lays2.n25 Tryz.prog Tryz.jg:={
 mixed:=by kernel_rfl
 f25:=Tryz.func264.trans (congrArg some (by kernel_rfl))
 f31:=Tryz.func198.trans (congrArg some (by kernel_rfl))
 f32:=Tryz.func306.trans (congrArg some (by kernel_rfl))
 f37:=Tryz.func258.trans (congrArg some (by kernel_rfl))
 t0:=Tryz.underlying0
 a0:=Tryz.isAgg0
 z0:=Tryz.sizeOf0
 v0:=Tryz.zeroValue0
 t3:=Tryz.underlying3
 a3:=Tryz.isAgg3
 z3:=Tryz.sizeOf3
 v3:=Tryz.zeroValue3
 t4:=Tryz.underlying4
 a4:=Tryz.isAgg4
 z4:=Tryz.sizeOf4
 v4:=Tryz.zeroValue4
 t22:=Tryz.underlying31
 a22:=Tryz.isAgg31
 z22:=Tryz.sizeOf31
 v22:=Tryz.zeroValue31
 t40:=Tryz.underlying230
 a40:=Tryz.isAgg230
 z40:=Tryz.sizeOf230
 v40:=Tryz.zeroValue230 }
def Tryz.slices_BinarySearch_int (b a n c:Nat) (zs:List Int) (x:Int) (w:World) (h:n<=zs.length) (d:n<4611686018427387904) (f:∀ j,j<zs.length->w.cell? ⟨b,a+j,none⟩=some (.int .i64 (zs.getD j 0))) (g:(zs.take n).Pairwise (·<=·)) :
  Calls Tryz.prog 264 #[.slice (some ⟨b,a,none⟩) n c,.int .i64 x] w fun e w'=>e=.returned (.tuple #[.int .i64 ((zs.take n).countP (·<x):Nat),.bool ((zs.take n).contains x)])/\∃ q,w'=w.drewN q:=Any.slices_BinarySearch_int Tryz.jr b a n c zs x w h d f g
def Tryz.slices_BinarySearch_int_empty (a:Option Addr) (c:Nat) (x:Int) (w:World) :
  Calls Tryz.prog 264 #[.slice a 0 c,.int .i64 x] w fun e w'=>e=.returned (.tuple #[.int .i64 0,.bool false])/\w'=w:=Any.slices_BinarySearch_int_empty Tryz.jr a c x w
