/- Parts of a proof. No condition. -/
import Derived.Shelf.Strings.OnBuilder
import Derived.Shelf.Small.Bits
import Derived.Shelf.Small.Wraps
import Derived.Shelf.Utf8.RuneCount
import Derived.Shelf.Strconv.Itoa3
import Derived.Shelf.Strings.Shaped
import Derived.Shelf.Sort.Plain
import Derived.Shelf.Strconv.AppendIntPublic10
import Derived.Shelf.Strings.SplitShaped
import Derived.Shelf.Strings.Explode
import Derived.Shelf.Bits.Mul64
import Derived.Shelf.Unicode.DecodeAny
import Derived.Shelf.Strings.BuilderCap
import Derived.Shelf.Slices.Turned
import Derived.Shelf.Slices.Clone
import Derived.Shelf.Slices.Cells
import Derived.Shelf.Slices.In.SortNone
import Derived.Shelf.SlicesE.Clone
import Derived.Test.YtimlcnhcjndijaaGreatDoorProg
set_option linter.all false
set_option maxRecDepth 100000
set_option maxHeartbeats 1600000
namespace Go.Proofs
open Go.Shelf
def Tryz.su:Go.Shelf.Ren:=⟨fun | 215=>258 | n=>n,fun | 3=>3 | 4=>4 | n=>n,fun | n=>n⟩
def Tryz.ly:Go.Shelf.Ren:=⟨fun | 122=>290 | 215=>258 | n=>n,fun | 3=>3 | 4=>4 | n=>n,fun | n=>n⟩
def Tryz.ri:Go.Proofs.Lays.n122 Tryz.prog Tryz.ly:={
 mixed:=by kernel_rfl
 f122:=Tryz.func290.trans (congrArg some (by kernel_rfl))
 f215:=Tryz.func258.trans (congrArg some (by kernel_rfl))
 t3:=Tryz.underlying3
 a3:=Tryz.isAgg3
 z3:=Tryz.sizeOf3
 v3:=Tryz.zeroValue3
 t4:=Tryz.underlying4
 a4:=Tryz.isAgg4
 z4:=Tryz.sizeOf4
 v4:=Tryz.zeroValue4 }
open Go.RowKit in
def Tryz.cmp_Compare_int (x y:Int) (w:World) :
  Calls Tryz.prog 290 #[.int .i64 x,.int .i64 y] w fun e w'=>e=.returned (.int .i64 (Lib.compareInt x y))/\w'=w:=Any.cmp_Compare_int Tryz.ri x y w
def Tryz.sw:Go.Shelf.Ren:=⟨fun | 219=>176 | 217=>224 | 225=>225 | 224=>226 | 267=>227 | 266=>269 | 314=>270 | n=>n,fun | 9=>9 | 3=>3 | 4=>4 | 5=>5 | 46=>230 | 146=>349 | 51=>286 | n=>n,fun | 1=>0 | n=>n⟩
def Tryz.lz:Go.Shelf.Ren:=⟨fun | 145=>76 | 220=>124 | 219=>176 | 217=>224 | 225=>225 | 224=>226 | 267=>227 | 266=>269 | 314=>270 | n=>n,fun | 9=>9 | 4=>4 | 59=>162 | 3=>3 | 5=>5 | 46=>230 | 146=>349 | 51=>286 | n=>n,fun | 1=>0 | n=>n⟩
def Tryz.rj:Go.Proofs.Lays.n145 Tryz.prog Tryz.lz:={
 mixed:=by kernel_rfl
 f145:=Tryz.func76.trans (congrArg some (by kernel_rfl))
 f217:=Tryz.func224.trans (congrArg some (by kernel_rfl))
 f219:=Tryz.func176.trans (congrArg some (by kernel_rfl))
 f220:=Tryz.func124.trans (congrArg some (by kernel_rfl))
 f224:=Tryz.func226.trans (congrArg some (by kernel_rfl))
 f225:=Tryz.func225.trans (congrArg some (by kernel_rfl))
 f266:=Tryz.func269.trans (congrArg some (by kernel_rfl))
 f267:=Tryz.func227.trans (congrArg some (by kernel_rfl))
 f314:=Tryz.func270.trans (congrArg some (by kernel_rfl))
 t3:=Tryz.underlying3
 a3:=Tryz.isAgg3
 z3:=Tryz.sizeOf3
 v3:=Tryz.zeroValue3
 t4:=Tryz.underlying4
 a4:=Tryz.isAgg4
 z4:=Tryz.sizeOf4
 v4:=Tryz.zeroValue4
 t5:=Tryz.underlying5
 a5:=Tryz.isAgg5
 z5:=Tryz.sizeOf5
 v5:=Tryz.zeroValue5
 t9:=Tryz.underlying9
 a9:=Tryz.isAgg9
 z9:=Tryz.sizeOf9
 v9:=Tryz.zeroValue9
 t46:=Tryz.underlying230
 a46:=Tryz.isAgg230
 z46:=Tryz.sizeOf230
 v46:=Tryz.zeroValue230
 t51:=Tryz.underlying286
 a51:=Tryz.isAgg286
 z51:=Tryz.sizeOf286
 v51:=Tryz.zeroValue286
 t59:=Tryz.underlying162
 a59:=Tryz.isAgg162
 z59:=Tryz.sizeOf162
 v59:=Tryz.zeroValue162
 t146:=Tryz.underlying349
 a146:=Tryz.isAgg349
 z146:=Tryz.sizeOf349
 v146:=Tryz.zeroValue349
 g1:=by kernel_rfl }
open Go.RowKit Go.Lib in
def Tryz.strings_Cut (s a:ByteArray) (m:Int) (w:World) (c:s.size<4294967281) (b:w.cell? ⟨0,0,none⟩=some (.int .i64 m)) :
  Calls Tryz.prog 76 #[.string s,.string a] w fun e w'=>e=.returned (.tuple #[.string ⟨(Lib.cut s.data.toList a.data.toList).1.toArray⟩,.string ⟨(Lib.cut s.data.toList a.data.toList).2.1.toArray⟩,.bool (Lib.cut s.data.toList a.data.toList).2.2])/\∃ n,w'=w.drewN n:=Any.strings_Cut Tryz.rj s a m w c b
def Tryz.l7:Go.Shelf.Ren:=⟨fun | 189=>91 | 125=>144 | 257=>143 | 128=>201 | 129=>202 | 294=>192 | 295=>193 | 296=>194 | 297=>195 | 298=>196 | 299=>197 | 216=>198 | 300=>199 | 301=>200 | 328=>253 | 329=>254 | 330=>255 | 331=>256 | 332=>257 | 215=>258 | 343=>298 | n=>n,fun | 28=>31 | 3=>3 | 46=>230 | 0=>0 | 51=>286 | 53=>229 | 4=>4 | 183=>280 | 182=>279 | 131=>168 | 5=>5 | 9=>9 | 218=>340 | 222=>181 | 228=>377 | 229=>378 | n=>n,fun | n=>n⟩
def Tryz.oc:Go.Proofs.Lays.n189 Tryz.prog Tryz.l7:={
 mixed:=by kernel_rfl
 f125:=Tryz.func144.trans (congrArg some (by kernel_rfl))
 f128:=Tryz.func201.trans (congrArg some (by kernel_rfl))
 f129:=Tryz.func202.trans (congrArg some (by kernel_rfl))
 f189:=Tryz.func91.trans (congrArg some (by kernel_rfl))
 f215:=Tryz.func258.trans (congrArg some (by kernel_rfl))
 f216:=Tryz.func198.trans (congrArg some (by kernel_rfl))
 f257:=Tryz.func143.trans (congrArg some (by kernel_rfl))
 f294:=Tryz.func192.trans (congrArg some (by kernel_rfl))
 f295:=Tryz.func193.trans (congrArg some (by kernel_rfl))
 f296:=Tryz.func194.trans (congrArg some (by kernel_rfl))
 f297:=Tryz.func195.trans (congrArg some (by kernel_rfl))
 f298:=Tryz.func196.trans (congrArg some (by kernel_rfl))
 f299:=Tryz.func197.trans (congrArg some (by kernel_rfl))
 f300:=Tryz.func199.trans (congrArg some (by kernel_rfl))
 f301:=Tryz.func200.trans (congrArg some (by kernel_rfl))
 f328:=Tryz.func253.trans (congrArg some (by kernel_rfl))
 f329:=Tryz.func254.trans (congrArg some (by kernel_rfl))
 f330:=Tryz.func255.trans (congrArg some (by kernel_rfl))
 f331:=Tryz.func256.trans (congrArg some (by kernel_rfl))
 f332:=Tryz.func257.trans (congrArg some (by kernel_rfl))
 f343:=Tryz.func298.trans (congrArg some (by kernel_rfl))
 t0:=Tryz.underlying0
 a0:=Tryz.isAgg0
 z0:=Tryz.sizeOf0
 v0:=Tryz.zeroValue0
 t3:=Tryz.underlying3
 a3:=Tryz.isAgg3
 z3:=Tryz.sizeOf3
 v3:=Tryz.zeroValue3
 t4:=Tryz.underlying4
 a4:=Tryz.isAgg4
 z4:=Tryz.sizeOf4
 v4:=Tryz.zeroValue4
 t5:=Tryz.underlying5
 a5:=Tryz.isAgg5
 z5:=Tryz.sizeOf5
 v5:=Tryz.zeroValue5
 t9:=Tryz.underlying9
 a9:=Tryz.isAgg9
 z9:=Tryz.sizeOf9
 v9:=Tryz.zeroValue9
 t28:=Tryz.underlying31
 a28:=Tryz.isAgg31
 z28:=Tryz.sizeOf31
 v28:=Tryz.zeroValue31
 t46:=Tryz.underlying230
 a46:=Tryz.isAgg230
 z46:=Tryz.sizeOf230
 v46:=Tryz.zeroValue230
 t51:=Tryz.underlying286
 a51:=Tryz.isAgg286
 z51:=Tryz.sizeOf286
 v51:=Tryz.zeroValue286
 t53:=Tryz.underlying229
 a53:=Tryz.isAgg229
 z53:=Tryz.sizeOf229
 v53:=Tryz.zeroValue229
 t131:=Tryz.underlying168
 a131:=Tryz.isAgg168
 z131:=Tryz.sizeOf168
 v131:=Tryz.zeroValue168
 t182:=Tryz.underlying279
 a182:=Tryz.isAgg279
 z182:=Tryz.sizeOf279
 v182:=Tryz.zeroValue279
 t183:=Tryz.underlying280
 a183:=Tryz.isAgg280
 z183:=Tryz.sizeOf280
 v183:=Tryz.zeroValue280
 t218:=Tryz.underlying340
 a218:=Tryz.isAgg340
 z218:=Tryz.sizeOf340
 v218:=Tryz.zeroValue340
 t222:=Tryz.underlying181
 a222:=Tryz.isAgg181
 z222:=Tryz.sizeOf181
 v222:=Tryz.zeroValue181
 t228:=Tryz.underlying377
 a228:=Tryz.isAgg377
 z228:=Tryz.sizeOf377
 v228:=Tryz.zeroValue377
 t229:=Tryz.underlying378
 a229:=Tryz.isAgg378
 z229:=Tryz.sizeOf378
 v229:=Tryz.zeroValue378 }
open Go.Sort Go.RowKit in
def Tryz.slices_Sort_int (b a cap:Nat) (zs:List Int) (w:World) (f:Holds (Value.int .i64) w b a zs.toArray) (c:b<w.heap.size) (d:zs.length<4611686018427387904) :
  Calls Tryz.prog 91 #[.slice (some ⟨b,a,none⟩) zs.length cap] w fun e w'=>
   e=.returned (.tuple #[])/\∃ n os,w'=grow (putRow (Value.int .i64) (Sort.ahead w n) b a (zs.mergeSort fun x y=>decide (x<=y)).toArray) os:=Any.slices_Sort_int Tryz.oc b a cap zs w f c d
def Tryz.sy:Go.Shelf.Ren:=⟨fun | 221=>125 | 268=>177 | 138=>178 | 143=>179 | 195=>228 | 197=>229 | 218=>230 | 219=>176 | 260=>271 | 217=>224 | 225=>225 | 224=>226 | 267=>227 | 266=>269 | 314=>270 | n=>n,fun | 9=>9 | 3=>3 | 31=>67 | 4=>4 | 0=>0 | 105=>313 | 21=>21 | 5=>5 | 46=>230 | 119=>393 | 139=>396 | 138=>395 | 146=>349 | 51=>286 | n=>n,fun | 1=>0 | 3=>1 | 4=>2 | n=>n⟩
def Tryz.l6:Go.Shelf.Ren:=⟨fun | 146=>77 | 221=>125 | 268=>177 | 138=>178 | 143=>179 | 195=>228 | 197=>229 | 218=>230 | 219=>176 | 260=>271 | 217=>224 | 225=>225 | 224=>226 | 267=>227 | 266=>269 | 314=>270 | n=>n,fun | 9=>9 | 31=>67 | 3=>3 | 4=>4 | 0=>0 | 105=>313 | 21=>21 | 5=>5 | 46=>230 | 119=>393 | 139=>396 | 138=>395 | 146=>349 | 51=>286 | n=>n,fun | 1=>0 | 3=>1 | 4=>2 | n=>n⟩
def Tryz.rk:Go.Proofs.Lays.n146 Tryz.prog Tryz.l6:={
 mixed:=by kernel_rfl
 f138:=Tryz.func178.trans (congrArg some (by kernel_rfl))
 f143:=Tryz.func179.trans (congrArg some (by kernel_rfl))
 f146:=Tryz.func77.trans (congrArg some (by kernel_rfl))
 f195:=Tryz.func228.trans (congrArg some (by kernel_rfl))
 f197:=Tryz.func229.trans (congrArg some (by kernel_rfl))
 f217:=Tryz.func224.trans (congrArg some (by kernel_rfl))
 f218:=Tryz.func230.trans (congrArg some (by kernel_rfl))
 f219:=Tryz.func176.trans (congrArg some (by kernel_rfl))
 f221:=Tryz.func125.trans (congrArg some (by kernel_rfl))
 f224:=Tryz.func226.trans (congrArg some (by kernel_rfl))
 f225:=Tryz.func225.trans (congrArg some (by kernel_rfl))
 f260:=Tryz.func271.trans (congrArg some (by kernel_rfl))
 f266:=Tryz.func269.trans (congrArg some (by kernel_rfl))
 f267:=Tryz.func227.trans (congrArg some (by kernel_rfl))
 f268:=Tryz.func177.trans (congrArg some (by kernel_rfl))
 f314:=Tryz.func270.trans (congrArg some (by kernel_rfl))
 t0:=Tryz.underlying0
 a0:=Tryz.isAgg0
 z0:=Tryz.sizeOf0
 v0:=Tryz.zeroValue0
 t3:=Tryz.underlying3
 a3:=Tryz.isAgg3
 z3:=Tryz.sizeOf3
 v3:=Tryz.zeroValue3
 t4:=Tryz.underlying4
 a4:=Tryz.isAgg4
 z4:=Tryz.sizeOf4
 v4:=Tryz.zeroValue4
 t5:=Tryz.underlying5
 a5:=Tryz.isAgg5
 z5:=Tryz.sizeOf5
 v5:=Tryz.zeroValue5
 t9:=Tryz.underlying9
 a9:=Tryz.isAgg9
 z9:=Tryz.sizeOf9
 v9:=Tryz.zeroValue9
 t21:=Tryz.underlying21
 a21:=Tryz.isAgg21
 z21:=Tryz.sizeOf21
 v21:=Tryz.zeroValue21
 t31:=Tryz.underlying67
 a31:=Tryz.isAgg67
 z31:=Tryz.sizeOf67
 v31:=Tryz.zeroValue67
 t46:=Tryz.underlying230
 a46:=Tryz.isAgg230
 z46:=Tryz.sizeOf230
 v46:=Tryz.zeroValue230
 t51:=Tryz.underlying286
 a51:=Tryz.isAgg286
 z51:=Tryz.sizeOf286
 v51:=Tryz.zeroValue286
 t105:=Tryz.underlying313
 a105:=Tryz.isAgg313
 z105:=Tryz.sizeOf313
 v105:=Tryz.zeroValue313
 t119:=Tryz.underlying393
 a119:=Tryz.isAgg393
 z119:=Tryz.sizeOf393
 t138:=Tryz.underlying395
 a138:=Tryz.isAgg395
 z138:=Tryz.sizeOf395
 v138:=Tryz.zeroValue395
 t139:=Tryz.underlying396
 a139:=Tryz.isAgg396
 z139:=Tryz.sizeOf396
 v139:=Tryz.zeroValue396
 t146:=Tryz.underlying349
 a146:=Tryz.isAgg349
 z146:=Tryz.sizeOf349
 v146:=Tryz.zeroValue349
 g1:=by kernel_rfl
 g3:=by kernel_rfl
 g4:=by kernel_rfl }
open Go.RowKit Go.Lib in
def Tryz.strings_Split (s a:ByteArray) (m:Int) (w:World) (c:s.size<4294967281) (b:w.cell? ⟨0,0,none⟩=some (.int .i64 m)) (h1:1<=a.size) :
  Calls Tryz.prog 77 #[.string s,.string a] w fun e w'=>
   e=.returned (.slice (some ⟨w.heap.size,0,none⟩) (Lib.countB s a+1) (Lib.countB s a+1))/\w'=w.alloc (.cells ((Lib.splitB a 0 (Lib.countB s a) s).map Value.string).toArray 9):=Any.strings_Split Tryz.rk (by kernel_rfl) s a m w c b h1
def Tryz.l8:Go.Shelf.Ren:=⟨fun | 264=>296 | n=>n,fun | 53=>229 | 46=>230 | n=>n,fun | n=>n⟩
def Tryz.rm:Go.Proofs.Lays.n264 Tryz.prog Tryz.l8:={
 mixed:=by kernel_rfl
 f264:=Tryz.func296.trans (congrArg some (by kernel_rfl))
 t46:=Tryz.underlying230
 a46:=Tryz.isAgg230
 z46:=Tryz.sizeOf230
 v46:=Tryz.zeroValue230
 t53:=Tryz.underlying229
 a53:=Tryz.isAgg229
 z53:=Tryz.sizeOf229
 v53:=Tryz.zeroValue229 }
open Go.RowKit Go.Lib in
def Tryz.bits_Mul64 (x y:Nat) (a:x<18446744073709551616) (b:y<18446744073709551616) (w:World) :
  Calls Tryz.prog 296 #[.int .u64 x,.int .u64 y] w fun e w'=>e=.returned (.tuple #[.int .u64 ((x*y / 18446744073709551616:Nat):Int),.int .u64 ((x*y % 18446744073709551616:Nat):Int)])/\w'=w:=Any.bits_Mul64 Tryz.rm x y a b w
def Tryz.lr:Go.Shelf.Ren:=⟨fun | 107=>166 | 108=>216 | n=>n,fun | 28=>31 | 3=>3 | 4=>4 | 0=>0 | n=>n,fun | n=>n⟩
def Tryz.rh:Go.Proofs.Lays.n107 Tryz.prog Tryz.lr:={
 mixed:=by kernel_rfl
 f107:=Tryz.func166.trans (congrArg some (by kernel_rfl))
 f108:=Tryz.func216.trans (congrArg some (by kernel_rfl))
 t0:=Tryz.underlying0
 a0:=Tryz.isAgg0
 z0:=Tryz.sizeOf0
 v0:=Tryz.zeroValue0
 t3:=Tryz.underlying3
 a3:=Tryz.isAgg3
 z3:=Tryz.sizeOf3
 v3:=Tryz.zeroValue3
 t4:=Tryz.underlying4
 a4:=Tryz.isAgg4
 z4:=Tryz.sizeOf4
 v4:=Tryz.zeroValue4
 t28:=Tryz.underlying31
 a28:=Tryz.isAgg31
 z28:=Tryz.sizeOf31
 v28:=Tryz.zeroValue31 }
open Go.Lib in
def Tryz.slices_Contains_int (b a n c:Nat) (zs:List Int) (x:Int) (w:World) (g:n<=zs.length) (d:n<=9223372036854775807) (f:∀ j,j<zs.length->w.cell? ⟨b,a+j,none⟩=some (.int .i64 (zs.getD j 0))) :
  Calls Tryz.prog 166 #[.slice (some ⟨b,a,none⟩) n c,.int .i64 x] w fun e w'=>e=.returned (.bool ((zs.take n).contains x))/\w'=w:=Any.slices_Contains_int Tryz.rh b a n c zs x w g d f
def Tryz.lu:Go.Shelf.Ren:=⟨fun | 110=>209 | 109=>263 | n=>n,fun | 31=>67 | 9=>9 | 4=>4 | 3=>3 | 0=>0 | n=>n,fun | n=>n⟩
def Tryz.nz:Go.Proofs.Lays.n110 Tryz.prog Tryz.lu:={
 mixed:=by kernel_rfl
 f109:=Tryz.func263.trans (congrArg some (by kernel_rfl))
 f110:=Tryz.func209.trans (congrArg some (by kernel_rfl))
 t0:=Tryz.underlying0
 a0:=Tryz.isAgg0
 z0:=Tryz.sizeOf0
 v0:=Tryz.zeroValue0
 t3:=Tryz.underlying3
 a3:=Tryz.isAgg3
 z3:=Tryz.sizeOf3
 v3:=Tryz.zeroValue3
 t4:=Tryz.underlying4
 a4:=Tryz.isAgg4
 z4:=Tryz.sizeOf4
 v4:=Tryz.zeroValue4
 t9:=Tryz.underlying9
 a9:=Tryz.isAgg9
 z9:=Tryz.sizeOf9
 v9:=Tryz.zeroValue9
 t31:=Tryz.underlying67
 a31:=Tryz.isAgg67
 z31:=Tryz.sizeOf67
 v31:=Tryz.zeroValue67 }
open Go.Lib in
def Tryz.slices_Contains_string (b a n c:Nat) (zs:List ByteArray) (x:ByteArray) (w:World) (g:n<=zs.length) (d:n<=9223372036854775807) (f:∀ j,j<zs.length->w.cell? ⟨b,a+j,none⟩=some (.string (zs.getD j ByteArray.empty))) :
  Calls Tryz.prog 209 #[.slice (some ⟨b,a,none⟩) n c,.string x] w fun e w'=>e=.returned (.bool (Lib.containsS (zs.take n) x))/\w'=w:=Any.slices_Contains_string Tryz.nz b a n c zs x w g d f
open Go.Lib in
def Tryz.slices_Contains_string_empty (a:Option Addr) (c:Nat) (x:ByteArray) (w:World) :
  Calls Tryz.prog 209 #[.slice a 0 c,.string x] w fun e w'=>e=.returned (.bool false)/\w'=w:=Any.slices_Contains_string_empty Tryz.nz a c x w
def Tryz.jd:Go.Shelf.Ren:=⟨fun | 15=>87 | n=>n,fun | 22=>31 | 3=>3 | 4=>4 | n=>n,fun | n=>n⟩
def Tryz.gr:Go.Proofs.Lays2.n15 Tryz.prog Tryz.jd:={
 mixed:=by kernel_rfl
 f15:=Tryz.func87.trans (congrArg some (by kernel_rfl))
 t3:=Tryz.underlying3
 a3:=Tryz.isAgg3
 z3:=Tryz.sizeOf3
 v3:=Tryz.zeroValue3
 t4:=Tryz.underlying4
 a4:=Tryz.isAgg4
 z4:=Tryz.sizeOf4
 v4:=Tryz.zeroValue4
 t22:=Tryz.underlying31
 a22:=Tryz.isAgg31
 z22:=Tryz.sizeOf31
 v22:=Tryz.zeroValue31
 i3:=by kernel_rfl }
open Go.RowKit Go.Lib in
def Tryz.slices_Clone_int (b a n c:Nat) (zs:List Int) (w:World) (h:n<=zs.length) (d:n*8<=140737488355328) (g:∀ j,j<zs.length->w.cell? ⟨b,a+j,none⟩=some (.int .i64 (zs.getD j 0))) :
  Calls Tryz.prog 87 #[.slice (some ⟨b,a,none⟩) n c] w fun e w'=>∃ f,e=.returned f/\w'.ownsRow w.heap.size 3 1 f n ((zs.take n).map (Value.int .i64))/\f≠.slice none 0 0/\Below w.heap.size w w':=Any.slices_Clone_int Tryz.gr b a n c zs w h d g
open Go.RowKit Go.Lib in
def Tryz.slices_Clone_int_nil (n c:Nat) (w:World) :
  Calls Tryz.prog 87 #[.slice none n c] w fun e w'=>e=.returned (.slice none 0 0)/\w'=w:=Any.slices_Clone_int_nil Tryz.gr n c w
def Tryz.je:Go.Shelf.Ren:=⟨fun | 16=>80 | n=>n,fun | 24=>67 | 9=>9 | 4=>4 | n=>n,fun | n=>n⟩
def Tryz.oo:Go.Proofs.Lays2.n16 Tryz.prog Tryz.je:={
 mixed:=by kernel_rfl
 f16:=Tryz.func80.trans (congrArg some (by kernel_rfl))
 t4:=Tryz.underlying4
 a4:=Tryz.isAgg4
 z4:=Tryz.sizeOf4
 v4:=Tryz.zeroValue4
 t9:=Tryz.underlying9
 a9:=Tryz.isAgg9
 z9:=Tryz.sizeOf9
 v9:=Tryz.zeroValue9
 t24:=Tryz.underlying67
 a24:=Tryz.isAgg67
 z24:=Tryz.sizeOf67
 v24:=Tryz.zeroValue67
 i9:=by kernel_rfl }
open Go.RowKit Go.Lib in
def Tryz.slices_Clone_string (b a n c:Nat) (zs:List ByteArray) (w:World) (h:n<=zs.length) (d:n*16<=140737488355328) (g:∀ j,j<zs.length->w.cell? ⟨b,a+j,none⟩=some (.string (zs.getD j ByteArray.empty))) :
  Calls Tryz.prog 80 #[.slice (some ⟨b,a,none⟩) n c] w fun e w'=>∃ f,e=.returned f/\w'.ownsRow w.heap.size 9 1 f n ((zs.take n).map (Value.string))/\f≠.slice none 0 0/\Below w.heap.size w w':=Any.slices_Clone_string Tryz.oo b a n c zs w h d g
open Go.RowKit Go.Lib in
def Tryz.slices_Clone_int_zero (a:Addr) (c:Nat) (w:World) :
  Calls Tryz.prog 87 #[.slice (some a) 0 c] w fun e w'=>∃ b,e=.returned b/\w'.ownsRow w.heap.size 3 1 b 0 []/\b≠.slice none 0 0/\Below w.heap.size w w':=Any.slices_Clone_int_zero Tryz.gr a c w
def Tryz.jf:Go.Shelf.Ren:=⟨fun | 20=>155 | n=>n,fun | 22=>31 | 3=>3 | 4=>4 | 0=>0 | n=>n,fun | n=>n⟩
def Tryz.jq:Go.Proofs.Lays2.n20 Tryz.prog Tryz.jf:={
 mixed:=by kernel_rfl
 f20:=Tryz.func155.trans (congrArg some (by kernel_rfl))
 t0:=Tryz.underlying0
 a0:=Tryz.isAgg0
 z0:=Tryz.sizeOf0
 v0:=Tryz.zeroValue0
 t3:=Tryz.underlying3
 a3:=Tryz.isAgg3
 z3:=Tryz.sizeOf3
 v3:=Tryz.zeroValue3
 t4:=Tryz.underlying4
 a4:=Tryz.isAgg4
 z4:=Tryz.sizeOf4
 v4:=Tryz.zeroValue4
 t22:=Tryz.underlying31
 a22:=Tryz.isAgg31
 z22:=Tryz.sizeOf31
 v22:=Tryz.zeroValue31
 i3:=by kernel_rfl }
open Go.RowKit Go.Lib Go.Sort in
def Tryz.slices_Compact_int (b a cap:Nat) (zs:List Int) (w:World) (f:Holds (Value.int .i64) w b a zs.toArray) (d:zs.length<=9223372036854775807) (c:zs.length<=cap) :
  Calls Tryz.prog 155 #[.slice (some ⟨b,a,none⟩) zs.length cap] w fun e w'=>e=.returned (.slice (some ⟨b,a,none⟩) (Lib.compact zs).length cap)/\∃ q,w'=putRow (Value.int .i64) (Sort.ahead w q) b a (Lib.compact zs++List.replicate (zs.length-(Lib.compact zs).length) 0).toArray:=Any.slices_Compact_int Tryz.jq b a cap zs w f d c
open Go.RowKit Go.Lib Go.Sort in
def Tryz.slices_Compact_int_empty (a:Option Addr) (cap:Nat) (w:World) :
  Calls Tryz.prog 155 #[.slice a 0 cap] w fun e w'=>e=.returned (.slice a 0 cap)/\w'=w:=Any.slices_Compact_int_empty Tryz.jq a cap w
open Go.RowKit Go.Sort in
def Tryz.slices_Sort_int_none (p:Option Addr) (cap:Nat) (w:World) :
  Calls Tryz.prog 91 #[.slice p 0 cap] w fun e w'=>e=.returned (.tuple #[])/\w'=w:=Any.slices_Sort_int_none Tryz.oc p cap w
