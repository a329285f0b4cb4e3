/- Parts of a proof. No condition. -/
import Derived.Shelf.Strings.OnBuilder
import Derived.Shelf.Small.Bits
import Derived.Shelf.Small.Wraps
import Derived.Shelf.Utf8.RuneCount
import Derived.Shelf.Strconv.Itoa3
import Derived.Shelf.Strings.Shaped
import Derived.Shelf.Sort.Plain
import Derived.Shelf.Strconv.AppendIntPublic10
import Derived.Shelf.Strings.SplitShaped
import Derived.Shelf.Strings.Explode
import Derived.Shelf.Bits.Mul64
import Derived.Shelf.Unicode.DecodeAny
import Derived.Shelf.Strings.BuilderCap
import Derived.Shelf.Slices.Turned
import Derived.Shelf.Slices.Clone
import Derived.Shelf.Slices.Cells
import Derived.Shelf.Slices.In.SortNone
import Derived.Shelf.SlicesE.Clone
import Derived.Test.YtimlcnhcjndijaaGreatDoorProg
set_option linter.all false
set_option maxRecDepth 100000
set_option maxHeartbeats 1600000
namespace Go.Proofs
open Go.Shelf Tryz
def Tryz.ib:Go.Shelf.Ren:=⟨fun|156=>149|165=>205|166=>206|169=>207|240=>261|241=>262|276=>304|277=>305|n=>n,fun|31=>67|9=>9|3=>3|4=>4|0=>0|20=>20|72=>291|76=>295|70=>289|37=>79|75=>294|127=>345|164=>385|5=>5|80=>297|n=>n,fun|n=>n⟩
def Tryz.og:Go.Proofs.Lays.n156 prog ib:=by constructor<;>first|kernel_rfl|intro _;kernel_rfl
def Tryz.ee:Builder.Extra prog ib:={
 sizeBuilder:=by kernel_rfl
 liesBuilder:=by kernel_rfl
 t5:=underlying5
 a5:=isAgg5
 z5:=sizeOf5
 v5:=zeroValue5
 infoByte:=by kernel_rfl
 cellsByte:=by kernel_rfl
 sizeByte:=by kernel_rfl
 neB5:=by decide }
open Go.RowKit in
def Tryz.strings_Join_none (a:Option Addr) (c:Nat) (b:ByteArray) (w:World) :
  Calls prog 149 #[.slice a 0 c,.string b] w λe w'=>e=.returned (.string ⟨#[]⟩)/\w'=w:=Any.strings_Join_none og ee a c b w
open Go.RowKit in
def Tryz.strings_Join (g o c:Nat) (xs:List ByteArray) (b:ByteArray) (w:World) (a:∀(j:Nat) x,xs[j]?=some x->w.cell? ⟨g,o+j,none⟩=some (.string x)) (h:g<w.heap.size) (i:xs.length<=140737488355328) (d:xs.length<=c) (f:(Lib.join (xs.map (·.data.toList)) b.data.toList).length<=140737488355328) :
  Calls prog 149 #[.slice (some ⟨g,o,none⟩) xs.length c,.string b] w λe w'=>e=.returned (.string ⟨(Lib.join (xs.map (·.data.toList)) b.data.toList).toArray⟩)/\Below w.heap.size w w':=Any.strings_Join og ee g o c xs b w a h i d f
def Tryz.tm:Go.Shelf.Ren:=⟨fun|215=>258|n=>n,fun|3=>3|4=>4|n=>n,fun|n=>n⟩
def Tryz.l7:Go.Shelf.Ren:=⟨fun|122=>290|215=>258|n=>n,fun|3=>3|4=>4|n=>n,fun|n=>n⟩
def Tryz.rq:Go.Proofs.Lays.n122 prog l7:=by constructor<;>first|kernel_rfl|intro _;kernel_rfl
open Go.RowKit in
def Tryz.cmp_Compare_int (x y:Int) (w:World) :
  Calls prog 290 #[.int .i64 x,.int .i64 y] w λe w'=>e=.returned (.int .i64 (Lib.compareInt x y))/\w'=w:=Any.cmp_Compare_int rq x y w
def Tryz.sd:Go.Shelf.Ren:=⟨fun|246=>259|283=>299|284=>300|285=>301|286=>302|129=>202|317=>325|318=>326|319=>327|320=>328|337=>338|338=>339|n=>n,fun|2=>2|3=>3|9=>9|4=>4|171=>380|0=>0|53=>229|37=>79|5=>5|173=>382|212=>404|51=>286|20=>20|213=>405|46=>230|232=>417|233=>418|n=>n,fun|17=>3|18=>4|19=>5|n=>n⟩
def Tryz.sa:Go.Shelf.Ren:=⟨fun|243=>203|246=>259|283=>299|284=>300|285=>301|286=>302|129=>202|317=>325|318=>326|319=>327|320=>328|337=>338|338=>339|n=>n,fun|3=>3|9=>9|2=>2|4=>4|171=>380|0=>0|53=>229|37=>79|5=>5|173=>382|212=>404|51=>286|20=>20|213=>405|46=>230|232=>417|233=>418|n=>n,fun|17=>3|18=>4|19=>5|n=>n⟩
def Tryz.j8:Go.Shelf.Ren:=⟨fun|171=>146|243=>203|246=>259|283=>299|284=>300|285=>301|286=>302|129=>202|317=>325|318=>326|319=>327|320=>328|337=>338|338=>339|n=>n,fun|3=>3|9=>9|2=>2|4=>4|171=>380|0=>0|53=>229|37=>79|5=>5|173=>382|212=>404|51=>286|20=>20|213=>405|46=>230|232=>417|233=>418|n=>n,fun|17=>3|18=>4|19=>5|n=>n⟩
def Tryz.qh:Go.Proofs.LaysM.n171 prog j8:=by constructor<;>first|kernel_rfl|(intro _;kernel_rfl)|constructor<;>first|kernel_rfl|intro _;kernel_rfl
open Go.RowKit Go.Sort Go.Lib in
def Tryz.strconv_Itoa (n:Int) (h0:-9223372036854775808<=n) (h1:n<=9223372036854775807) (w:World) (a:Lib.TabIs prog w "internal/strconv.uint64pow10" .u64 Lib.pow10Tab) :
  Calls prog 146 #[.int .i64 n] w λe w'=>e=.returned (.string ⟨(Lib.itoa n).toArray⟩)/\∃k os,w'=grow (w.drewN k) os:=Any.strconv_Itoa qh n h0 h1 w a
def Tryz.tp:Go.Shelf.Ren:=⟨fun|219=>176|217=>224|225=>225|224=>226|267=>227|266=>269|314=>270|n=>n,fun|9=>9|3=>3|4=>4|5=>5|46=>230|146=>349|51=>286|n=>n,fun|1=>0|n=>n⟩
def Tryz.l8:Go.Shelf.Ren:=⟨fun|145=>76|220=>124|219=>176|217=>224|225=>225|224=>226|267=>227|266=>269|314=>270|n=>n,fun|9=>9|4=>4|59=>162|3=>3|5=>5|46=>230|146=>349|51=>286|n=>n,fun|1=>0|n=>n⟩
def Tryz.ry:Go.Proofs.Lays.n145 prog l8:=by constructor<;>first|kernel_rfl|intro _;kernel_rfl
open Go.RowKit Go.Lib in
def Tryz.strings_Cut (s a:ByteArray) (m:Int) (w:World) (c:s.size<4294967281) (b:w.cell? ⟨0,0,none⟩=some (.int .i64 m)) :
  Calls prog 76 #[.string s,.string a] w λe w'=>e=.returned (.tuple #[.string ⟨(Lib.cut s.data.toList a.data.toList).1.toArray⟩,.string ⟨(Lib.cut s.data.toList a.data.toList).2.1.toArray⟩,.bool (Lib.cut s.data.toList a.data.toList).2.2])/\∃n,w'=w.drewN n:=Any.strings_Cut ry s a m w c b
def Tryz.mg:Go.Shelf.Ren:=⟨fun|189=>91|125=>144|257=>143|128=>201|129=>202|294=>192|295=>193|296=>194|297=>195|298=>196|299=>197|216=>198|300=>199|301=>200|328=>253|329=>254|330=>255|331=>256|332=>257|215=>258|343=>298|n=>n,fun|28=>31|3=>3|46=>230|0=>0|51=>286|53=>229|4=>4|183=>280|182=>279|131=>168|5=>5|9=>9|218=>340|222=>181|228=>377|229=>378|n=>n,fun|n=>n⟩
def Tryz.oh:Go.Proofs.Lays.n189 prog mg:=by constructor<;>first|kernel_rfl|intro _;kernel_rfl
open Go.Sort Go.RowKit in
def Tryz.slices_Sort_int (b a cap:Nat) (zs:List Int) (w:World) (f:Holds (Value.int .i64) w b a zs.toArray) (c:b<w.heap.size) (d:zs.length<4611686018427387904) :
  Calls prog 91 #[.slice (some ⟨b,a,none⟩) zs.length cap] w λe w'=>
   e=.returned (.tuple #[])/\∃n os,w'=grow (putRow (Value.int .i64) (Sort.ahead w n) b a (zs.mergeSort λx y=>decide (x<=y)).toArray) os:=Any.slices_Sort_int oh b a cap zs w f c d
def Tryz.se:Go.Shelf.Ren:=⟨fun|249=>260|288=>303|283=>299|284=>300|285=>301|286=>302|129=>202|317=>325|318=>326|319=>327|320=>328|337=>338|338=>339|n=>n,fun|37=>79|2=>2|3=>3|53=>229|4=>4|9=>9|171=>380|0=>0|173=>382|212=>404|51=>286|5=>5|20=>20|213=>405|46=>230|232=>417|233=>418|n=>n,fun|17=>3|18=>4|19=>5|n=>n⟩
def Tryz.j9:Go.Shelf.Ren:=⟨fun|176=>204|249=>260|288=>303|283=>299|284=>300|285=>301|286=>302|129=>202|317=>325|318=>326|319=>327|320=>328|337=>338|338=>339|n=>n,fun|37=>79|2=>2|3=>3|53=>229|4=>4|9=>9|171=>380|0=>0|173=>382|212=>404|51=>286|5=>5|20=>20|213=>405|46=>230|232=>417|233=>418|n=>n,fun|17=>3|18=>4|19=>5|n=>n⟩
def Tryz.qi:Go.Proofs.LaysM.n176 prog j9:=by constructor<;>first|kernel_rfl|(intro _;kernel_rfl)|constructor<;>first|kernel_rfl|intro _;kernel_rfl
open Go.RowKit Go.Sort Go.Lib in
def Tryz.strconv_AppendInt_10 (B n:Nat) (i:Int) (h0:-9223372036854775808<=i) (h1:i<=9223372036854775807) (f:Value) (xs:List Value) (w:World) (b:w.ownsRow B 5 1 f n xs) (d:B<=w.heap.size) (a:n+21<=140737488355328) (c:Lib.TabBelow prog B w "internal/strconv.uint64pow10" .u64 Lib.pow10Tab) :
  Calls prog 204 #[f,.int .i64 i,.int .i64 10] w λe w'=>∃g,e=.returned g/\w'.ownsRow B 5 1 g (n+(Lib.itoa i).length) (xs++Lib.byteCells (Lib.itoa i))/\Below B w w'/\Lib.OthersKept 5 none w w':=Any.strconv_AppendInt_10 qi B n i h0 h1 f xs w b d a c
def Tryz.tq:Go.Shelf.Ren:=⟨fun|221=>125|268=>177|138=>178|143=>179|195=>228|197=>229|218=>230|219=>176|260=>271|217=>224|225=>225|224=>226|267=>227|266=>269|314=>270|n=>n,fun|9=>9|3=>3|31=>67|4=>4|0=>0|105=>313|21=>21|5=>5|46=>230|119=>393|139=>396|138=>395|146=>349|51=>286|n=>n,fun|1=>0|3=>1|4=>2|n=>n⟩
def Tryz.l9:Go.Shelf.Ren:=⟨fun|146=>77|221=>125|268=>177|138=>178|143=>179|195=>228|197=>229|218=>230|219=>176|260=>271|217=>224|225=>225|224=>226|267=>227|266=>269|314=>270|n=>n,fun|9=>9|31=>67|3=>3|4=>4|0=>0|105=>313|21=>21|5=>5|46=>230|119=>393|139=>396|138=>395|146=>349|51=>286|n=>n,fun|1=>0|3=>1|4=>2|n=>n⟩
def Tryz.rz:Go.Proofs.Lays.n146 prog l9:=by constructor<;>first|kernel_rfl|intro _;kernel_rfl
open Go.RowKit Go.Lib in
def Tryz.strings_Split (s a:ByteArray) (m:Int) (w:World) (c:s.size<4294967281) (b:w.cell? ⟨0,0,none⟩=some (.int .i64 m)) (h1:1<=a.size) :
  Calls prog 77 #[.string s,.string a] w λe w'=>
   e=.returned (.slice (some ⟨w.heap.size,0,none⟩) (Lib.countB s a+1) (Lib.countB s a+1))/\w'=w.alloc (.cells ((Lib.splitB a 0 (Lib.countB s a) s).map Value.string).toArray 9):=Any.strings_Split rz (by kernel_rfl) s a m w c b h1
def Tryz.mh:Go.Shelf.Ren:=⟨fun|264=>296|n=>n,fun|53=>229|46=>230|n=>n,fun|n=>n⟩
def Tryz.r9:Go.Proofs.Lays.n264 prog mh:=by constructor<;>first|kernel_rfl|intro _;kernel_rfl
open Go.RowKit Go.Lib in
def Tryz.bits_Mul64 (x y:Nat) (a:x<18446744073709551616) (b:y<18446744073709551616) (w:World) :
  Calls prog 296 #[.int .u64 x,.int .u64 y] w λe w'=>e=.returned (.tuple #[.int .u64 ((x*y / 18446744073709551616:Nat):Int),.int .u64 ((x*y % 18446744073709551616:Nat):Int)])/\w'=w:=Any.bits_Mul64 r9 x y a b w
def Tryz.lz:Go.Shelf.Ren:=⟨fun|107=>166|108=>216|n=>n,fun|28=>31|3=>3|4=>4|0=>0|n=>n,fun|n=>n⟩
def Tryz.rp:Go.Proofs.Lays.n107 prog lz:=by constructor<;>first|kernel_rfl|intro _;kernel_rfl
open Go.Lib in
def Tryz.slices_Contains_int (b a n c:Nat) (zs:List Int) (x:Int) (w:World) (g:n<=zs.length) (d:n<=9223372036854775807) (f:∀j,j<zs.length->w.cell? ⟨b,a+j,none⟩=some (.int .i64 (zs.getD j 0))) :
  Calls prog 166 #[.slice (some ⟨b,a,none⟩) n c,.int .i64 x] w λe w'=>e=.returned (.bool ((zs.take n).contains x))/\w'=w:=Any.slices_Contains_int rp b a n c zs x w g d f
def Tryz.l6:Go.Shelf.Ren:=⟨fun|110=>209|109=>263|n=>n,fun|31=>67|9=>9|4=>4|3=>3|0=>0|n=>n,fun|n=>n⟩
def Tryz.od:Go.Proofs.Lays.n110 prog l6:=by constructor<;>first|kernel_rfl|intro _;kernel_rfl
open Go.Lib in
def Tryz.slices_Contains_string (b a n c:Nat) (zs:List ByteArray) (x:ByteArray) (w:World) (g:n<=zs.length) (d:n<=9223372036854775807) (f:∀j,j<zs.length->w.cell? ⟨b,a+j,none⟩=some (.string (zs.getD j ByteArray.empty))) :
  Calls prog 209 #[.slice (some ⟨b,a,none⟩) n c,.string x] w λe w'=>e=.returned (.bool (Lib.containsS (zs.take n) x))/\w'=w:=Any.slices_Contains_string od b a n c zs x w g d f
open Go.Lib in
def Tryz.slices_Contains_string_empty (a:Option Addr) (c:Nat) (x:ByteArray) (w:World) :
  Calls prog 209 #[.slice a 0 c,.string x] w λe w'=>e=.returned (.bool false)/\w'=w:=Any.slices_Contains_string_empty od a c x w
def Tryz.jg:Go.Shelf.Ren:=⟨fun|15=>87|n=>n,fun|22=>31|3=>3|4=>4|n=>n,fun|n=>n⟩
def Tryz.gr:Go.Proofs.Lays2.n15 prog jg:=by constructor<;>first|kernel_rfl|intro _;kernel_rfl
open Go.RowKit Go.Lib in
def Tryz.slices_Clone_int (b a n c:Nat) (zs:List Int) (w:World) (h:n<=zs.length) (d:n*8<=140737488355328) (g:∀j,j<zs.length->w.cell? ⟨b,a+j,none⟩=some (.int .i64 (zs.getD j 0))) :
  Calls prog 87 #[.slice (some ⟨b,a,none⟩) n c] w λe w'=>∃f,e=.returned f/\w'.ownsRow w.heap.size 3 1 f n ((zs.take n).map (Value.int .i64))/\f≠.slice none 0 0/\Below w.heap.size w w':=Any.slices_Clone_int gr b a n c zs w h d g
open Go.RowKit Go.Lib in
def Tryz.slices_Clone_int_nil (n c:Nat) (w:World) :
  Calls prog 87 #[.slice none n c] w λe w'=>e=.returned (.slice none 0 0)/\w'=w:=Any.slices_Clone_int_nil gr n c w
def Tryz.jh:Go.Shelf.Ren:=⟨fun|16=>80|n=>n,fun|24=>67|9=>9|4=>4|n=>n,fun|n=>n⟩
def Tryz.ow:Go.Proofs.Lays2.n16 prog jh:=by constructor<;>first|kernel_rfl|intro _;kernel_rfl
open Go.RowKit Go.Lib in
def Tryz.slices_Clone_string (b a n c:Nat) (zs:List ByteArray) (w:World) (h:n<=zs.length) (d:n*16<=140737488355328) (g:∀j,j<zs.length->w.cell? ⟨b,a+j,none⟩=some (.string (zs.getD j ByteArray.empty))) :
  Calls prog 80 #[.slice (some ⟨b,a,none⟩) n c] w λe w'=>∃f,e=.returned f/\w'.ownsRow w.heap.size 9 1 f n ((zs.take n).map (Value.string))/\f≠.slice none 0 0/\Below w.heap.size w w':=Any.slices_Clone_string ow b a n c zs w h d g
open Go.RowKit Go.Lib in
def Tryz.slices_Clone_int_zero (a:Addr) (c:Nat) (w:World) :
  Calls prog 87 #[.slice (some a) 0 c] w λe w'=>∃b,e=.returned b/\w'.ownsRow w.heap.size 3 1 b 0 []/\b≠.slice none 0 0/\Below w.heap.size w w':=Any.slices_Clone_int_zero gr a c w
def Tryz.ji:Go.Shelf.Ren:=⟨fun|20=>155|n=>n,fun|22=>31|3=>3|4=>4|0=>0|n=>n,fun|n=>n⟩
def Tryz.ju:Go.Proofs.Lays2.n20 prog ji:=by constructor<;>first|kernel_rfl|intro _;kernel_rfl
open Go.RowKit Go.Lib Go.Sort in
def Tryz.slices_Compact_int (b a cap:Nat) (zs:List Int) (w:World) (f:Holds (Value.int .i64) w b a zs.toArray) (d:zs.length<=9223372036854775807) (c:zs.length<=cap) :
  Calls prog 155 #[.slice (some ⟨b,a,none⟩) zs.length cap] w λe w'=>e=.returned (.slice (some ⟨b,a,none⟩) (Lib.compact zs).length cap)/\∃q,w'=putRow (Value.int .i64) (Sort.ahead w q) b a (Lib.compact zs++List.replicate (zs.length-(Lib.compact zs).length) 0).toArray:=Any.slices_Compact_int ju b a cap zs w f d c
open Go.RowKit Go.Lib Go.Sort in
def Tryz.slices_Compact_int_empty (a:Option Addr) (cap:Nat) (w:World) :
  Calls prog 155 #[.slice a 0 cap] w λe w'=>e=.returned (.slice a 0 cap)/\w'=w:=Any.slices_Compact_int_empty ju a cap w
open Go.RowKit Go.Sort in
def Tryz.slices_Sort_int_none (p:Option Addr) (cap:Nat) (w:World) :
  Calls prog 91 #[.slice p 0 cap] w λe w'=>e=.returned (.tuple #[])/\w'=w:=Any.slices_Sort_int_none oh p cap w
