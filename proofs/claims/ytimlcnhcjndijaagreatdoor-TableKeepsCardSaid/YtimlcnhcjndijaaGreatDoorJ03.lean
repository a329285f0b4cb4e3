/- Parts of a proof. No condition. -/
import Derived.Shelf.Strings.OnBuilder
import Derived.Shelf.Small.Bits
import Derived.Shelf.Small.Wraps
import Derived.Shelf.Utf8.RuneCount
import Derived.Shelf.Strconv.Itoa3
import Derived.Shelf.Strings.Shaped
import Derived.Shelf.Sort.Plain
import Derived.Shelf.Strconv.AppendIntPublic10
import Derived.Shelf.Strings.SplitShaped
import Derived.Shelf.Strings.Explode
import Derived.Shelf.Bits.Mul64
import Derived.Shelf.Unicode.DecodeAny
import Derived.Shelf.Strings.BuilderCap
import Derived.Shelf.Slices.Turned
import Derived.Shelf.Slices.Clone
import Derived.Shelf.Slices.Cells
import Derived.Shelf.Slices.In.SortNone
import Derived.Shelf.SlicesE.Clone
import Derived.Test.YtimlcnhcjndijaaGreatDoorProg
set_option linter.all false
set_option maxRecDepth 100000
set_option maxHeartbeats 1600000
namespace Go.Proofs
open Go.Shelf Tryz
def Tryz.uj:Go.Shelf.Ren:=⟨fun|215=>258|n=>n,fun|3=>3|4=>4|n=>n,fun|n=>n⟩
def Tryz.ni:Go.Shelf.Ren:=⟨fun|122=>290|215=>258|n=>n,fun|3=>3|4=>4|n=>n,fun|n=>n⟩
def Tryz.th:Go.Proofs.Lays.n122 prog ni:=by constructor<;>first|kernel_rfl|intro _;kernel_rfl
open Go.RowKit in
def Tryz.cmp_Compare_int (x y:Int) (w:World) :
  Calls prog 290 #[.int .i64 x,.int .i64 y] w λe w'=>e=.returned (.int .i64 (Lib.compareInt x y))/\w'=w:=Any.cmp_Compare_int th x y w
def Tryz.uk:Go.Shelf.Ren:=⟨fun|219=>176|217=>224|225=>225|224=>226|267=>227|266=>269|314=>270|n=>n,fun|9=>9|3=>3|4=>4|5=>5|46=>230|146=>349|51=>286|n=>n,fun|1=>0|n=>n⟩
def Tryz.nj:Go.Shelf.Ren:=⟨fun|145=>76|220=>124|219=>176|217=>224|225=>225|224=>226|267=>227|266=>269|314=>270|n=>n,fun|9=>9|4=>4|59=>162|3=>3|5=>5|46=>230|146=>349|51=>286|n=>n,fun|1=>0|n=>n⟩
def Tryz.ti:Go.Proofs.Lays.n145 prog nj:=by constructor<;>first|kernel_rfl|intro _;kernel_rfl
open Go.RowKit Go.Lib in
def Tryz.strings_Cut (s a:ByteArray) (m:Int) (w:World) (c:s.size<4294967281) (b:w.cell? ⟨0,0,none⟩=some (.int .i64 m)) :
  Calls prog 76 #[.string s,.string a] w λe w'=>e=.returned (.tuple #[.string ⟨(Lib.cut s.data.toList a.data.toList).1.toArray⟩,.string ⟨(Lib.cut s.data.toList a.data.toList).2.1.toArray⟩,.bool (Lib.cut s.data.toList a.data.toList).2.2])/\∃n,w'=w.drewN n:=Any.strings_Cut ti s a m w c b
def Tryz.nu:Go.Shelf.Ren:=⟨fun|189=>91|125=>144|257=>143|128=>201|129=>202|294=>192|295=>193|296=>194|297=>195|298=>196|299=>197|216=>198|300=>199|301=>200|328=>253|329=>254|330=>255|331=>256|332=>257|215=>258|343=>298|n=>n,fun|28=>31|3=>3|46=>230|0=>0|51=>286|53=>229|4=>4|183=>280|182=>279|131=>168|5=>5|9=>9|218=>340|222=>181|228=>377|229=>378|n=>n,fun|n=>n⟩
def Tryz.pq:Go.Proofs.Lays.n189 prog nu:=by constructor<;>first|kernel_rfl|intro _;kernel_rfl
open Go.Sort Go.RowKit in
def Tryz.slices_Sort_int (b a cap:Nat) (zs:List Int) (w:World) (f:Holds (Value.int .i64) w b a zs.toArray) (c:b<w.heap.size) (d:zs.length<4611686018427387904) :
  Calls prog 91 #[.slice (some ⟨b,a,none⟩) zs.length cap] w λe w'=>
   e=.returned (.tuple #[])/\∃n os,w'=grow (putRow (Value.int .i64) (Sort.ahead w n) b a (zs.mergeSort λx y=>decide (x<=y)).toArray) os:=Any.slices_Sort_int pq b a cap zs w f c d
def Tryz.um:Go.Shelf.Ren:=⟨fun|221=>125|268=>177|138=>178|143=>179|195=>228|197=>229|218=>230|219=>176|260=>271|217=>224|225=>225|224=>226|267=>227|266=>269|314=>270|n=>n,fun|9=>9|3=>3|31=>67|4=>4|0=>0|105=>313|21=>21|5=>5|46=>230|119=>393|139=>396|138=>395|146=>349|51=>286|n=>n,fun|1=>0|3=>1|4=>2|n=>n⟩
def Tryz.np:Go.Shelf.Ren:=⟨fun|146=>77|221=>125|268=>177|138=>178|143=>179|195=>228|197=>229|218=>230|219=>176|260=>271|217=>224|225=>225|224=>226|267=>227|266=>269|314=>270|n=>n,fun|9=>9|31=>67|3=>3|4=>4|0=>0|105=>313|21=>21|5=>5|46=>230|119=>393|139=>396|138=>395|146=>349|51=>286|n=>n,fun|1=>0|3=>1|4=>2|n=>n⟩
def Tryz.tj:Go.Proofs.Lays.n146 prog np:=by constructor<;>first|kernel_rfl|intro _;kernel_rfl
open Go.RowKit Go.Lib in
def Tryz.strings_Split (s a:ByteArray) (m:Int) (w:World) (c:s.size<4294967281) (b:w.cell? ⟨0,0,none⟩=some (.int .i64 m)) (h1:1<=a.size) :
  Calls prog 77 #[.string s,.string a] w λe w'=>
   e=.returned (.slice (some ⟨w.heap.size,0,none⟩) (Lib.countB s a+1) (Lib.countB s a+1))/\w'=w.alloc (.cells ((Lib.splitB a 0 (Lib.countB s a) s).map Value.string).toArray 9):=Any.strings_Split tj (by kernel_rfl) s a m w c b h1
def Tryz.nw:Go.Shelf.Ren:=⟨fun|264=>296|n=>n,fun|53=>229|46=>230|n=>n,fun|n=>n⟩
def Tryz.tl:Go.Proofs.Lays.n264 prog nw:=by constructor<;>first|kernel_rfl|intro _;kernel_rfl
open Go.RowKit Go.Lib in
def Tryz.bits_Mul64 (x y:Nat) (a:x<18446744073709551616) (b:y<18446744073709551616) (w:World) :
  Calls prog 296 #[.int .u64 x,.int .u64 y] w λe w'=>e=.returned (.tuple #[.int .u64 ((x*y / 18446744073709551616:Nat):Int),.int .u64 ((x*y % 18446744073709551616:Nat):Int)])/\w'=w:=Any.bits_Mul64 tl x y a b w
def Tryz.nf:Go.Shelf.Ren:=⟨fun|107=>166|108=>216|n=>n,fun|28=>31|3=>3|4=>4|0=>0|n=>n,fun|n=>n⟩
def Tryz.tg:Go.Proofs.Lays.n107 prog nf:=by constructor<;>first|kernel_rfl|intro _;kernel_rfl
open Go.Lib in
def Tryz.slices_Contains_int (b a n c:Nat) (zs:List Int) (x:Int) (w:World) (g:n<=zs.length) (d:n<=9223372036854775807) (f:∀j,j<zs.length->w.cell? ⟨b,a+j,none⟩=some (.int .i64 (zs.getD j 0))) :
  Calls prog 166 #[.slice (some ⟨b,a,none⟩) n c,.int .i64 x] w λe w'=>e=.returned (.bool ((zs.take n).contains x))/\w'=w:=Any.slices_Contains_int tg b a n c zs x w g d f
def Tryz.nh:Go.Shelf.Ren:=⟨fun|110=>209|109=>263|n=>n,fun|31=>67|9=>9|4=>4|3=>3|0=>0|n=>n,fun|n=>n⟩
def Tryz.pj:Go.Proofs.Lays.n110 prog nh:=by constructor<;>first|kernel_rfl|intro _;kernel_rfl
open Go.Lib in
def Tryz.slices_Contains_string (b a n c:Nat) (zs:List ByteArray) (x:ByteArray) (w:World) (g:n<=zs.length) (d:n<=9223372036854775807) (f:∀j,j<zs.length->w.cell? ⟨b,a+j,none⟩=some (.string (zs.getD j ByteArray.empty))) :
  Calls prog 209 #[.slice (some ⟨b,a,none⟩) n c,.string x] w λe w'=>e=.returned (.bool (Lib.containsS (zs.take n) x))/\w'=w:=Any.slices_Contains_string pj b a n c zs x w g d f
open Go.Lib in
def Tryz.slices_Contains_string_empty (a:Option Addr) (c:Nat) (x:ByteArray) (w:World) :
  Calls prog 209 #[.slice a 0 c,.string x] w λe w'=>e=.returned (.bool false)/\w'=w:=Any.slices_Contains_string_empty pj a c x w
def Tryz.j9:Go.Shelf.Ren:=⟨fun|15=>87|n=>n,fun|22=>31|3=>3|4=>4|n=>n,fun|n=>n⟩
def Tryz.iw:Go.Proofs.Lays2.n15 prog j9:=by constructor<;>first|kernel_rfl|intro _;kernel_rfl
open Go.RowKit Go.Lib in
def Tryz.slices_Clone_int (b a n c:Nat) (zs:List Int) (w:World) (h:n<=zs.length) (d:n*8<=140737488355328) (g:∀j,j<zs.length->w.cell? ⟨b,a+j,none⟩=some (.int .i64 (zs.getD j 0))) :
  Calls prog 87 #[.slice (some ⟨b,a,none⟩) n c] w λe w'=>∃f,e=.returned f/\w'.ownsRow w.heap.size 3 1 f n ((zs.take n).map (Value.int .i64))/\f≠.slice none 0 0/\Below w.heap.size w w':=Any.slices_Clone_int iw b a n c zs w h d g
open Go.RowKit Go.Lib in
def Tryz.slices_Clone_int_nil (n c:Nat) (w:World) :
  Calls prog 87 #[.slice none n c] w λe w'=>e=.returned (.slice none 0 0)/\w'=w:=Any.slices_Clone_int_nil iw n c w
def Tryz.ki:Go.Shelf.Ren:=⟨fun|16=>80|n=>n,fun|24=>67|9=>9|4=>4|n=>n,fun|n=>n⟩
def Tryz.qh:Go.Proofs.Lays2.n16 prog ki:=by constructor<;>first|kernel_rfl|intro _;kernel_rfl
open Go.RowKit Go.Lib in
def Tryz.slices_Clone_string (b a n c:Nat) (zs:List ByteArray) (w:World) (h:n<=zs.length) (d:n*16<=140737488355328) (g:∀j,j<zs.length->w.cell? ⟨b,a+j,none⟩=some (.string (zs.getD j ByteArray.empty))) :
  Calls prog 80 #[.slice (some ⟨b,a,none⟩) n c] w λe w'=>∃f,e=.returned f/\w'.ownsRow w.heap.size 9 1 f n ((zs.take n).map (Value.string))/\f≠.slice none 0 0/\Below w.heap.size w w':=Any.slices_Clone_string qh b a n c zs w h d g
open Go.RowKit Go.Lib in
def Tryz.slices_Clone_int_zero (a:Addr) (c:Nat) (w:World) :
  Calls prog 87 #[.slice (some a) 0 c] w λe w'=>∃b,e=.returned b/\w'.ownsRow w.heap.size 3 1 b 0 []/\b≠.slice none 0 0/\Below w.heap.size w w':=Any.slices_Clone_int_zero iw a c w
def Tryz.ky:Go.Shelf.Ren:=⟨fun|20=>155|n=>n,fun|22=>31|3=>3|4=>4|0=>0|n=>n,fun|n=>n⟩
def Tryz.ll:Go.Proofs.Lays2.n20 prog ky:=by constructor<;>first|kernel_rfl|intro _;kernel_rfl
open Go.RowKit Go.Lib Go.Sort in
def Tryz.slices_Compact_int (b a cap:Nat) (zs:List Int) (w:World) (f:Holds (Value.int .i64) w b a zs.toArray) (d:zs.length<=9223372036854775807) (c:zs.length<=cap) :
  Calls prog 155 #[.slice (some ⟨b,a,none⟩) zs.length cap] w λe w'=>e=.returned (.slice (some ⟨b,a,none⟩) (Lib.compact zs).length cap)/\∃q,w'=putRow (Value.int .i64) (Sort.ahead w q) b a (Lib.compact zs++List.replicate (zs.length-(Lib.compact zs).length) 0).toArray:=Any.slices_Compact_int ll b a cap zs w f d c
open Go.RowKit Go.Lib Go.Sort in
def Tryz.slices_Compact_int_empty (a:Option Addr) (cap:Nat) (w:World) :
  Calls prog 155 #[.slice a 0 cap] w λe w'=>e=.returned (.slice a 0 cap)/\w'=w:=Any.slices_Compact_int_empty ll a cap w
open Go.RowKit Go.Sort in
def Tryz.slices_Sort_int_none (p:Option Addr) (cap:Nat) (w:World) :
  Calls prog 91 #[.slice p 0 cap] w λe w'=>e=.returned (.tuple #[])/\w'=w:=Any.slices_Sort_int_none pq p cap w
