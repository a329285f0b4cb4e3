/- Parts of a proof. No condition. -/
import Derived.Test.YtimlcnhcjndijaaGreatDoorJ03
import Derived.Shelf.Slices.Empties
import Derived.Shelf.SlSortCmp.Insertion
set_option linter.all false
set_option maxRecDepth 100000
set_option maxHeartbeats 1600000
namespace Go.Proofs
open Go.Shelf Tryz
def Tryz.kz:Go.Shelf.Ren:=⟨fun|25=>264|31=>198|32=>306|37=>258|n=>n,fun|22=>31|3=>3|4=>4|40=>230|0=>0|n=>n,fun|n=>n⟩
def Tryz.lq:Go.Proofs.Lays2.n25 prog kz:=by constructor<;>first|kernel_rfl|intro _;kernel_rfl
def Tryz.slices_BinarySearch_int (b a n c:Nat) (zs:List Int) (x:Int) (w:World) (h:n<=zs.length) (d:n<4611686018427387904) (f:∀j,j<zs.length->w.cell? ⟨b,a+j,none⟩=some (.int .i64 (zs.getD j 0))) (g:(zs.take n).Pairwise (·<=·)) :
  Calls prog 264 #[.slice (some ⟨b,a,none⟩) n c,.int .i64 x] w λe w'=>e=.returned (.tuple #[.int .i64 ((zs.take n).countP (·<x):Nat),.bool ((zs.take n).contains x)])/\∃q,w'=w.drewN q:=Any.slices_BinarySearch_int lq b a n c zs x w h d f g
def Tryz.slices_BinarySearch_int_empty (a:Option Addr) (c:Nat) (x:Int) (w:World) :
  Calls prog 264 #[.slice a 0 c,.int .i64 x] w λe w'=>e=.returned (.tuple #[.int .i64 0,.bool false])/\w'=w:=Any.slices_BinarySearch_int_empty lq a c x w
