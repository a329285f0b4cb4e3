/- Parts of a proof. No condition. -/
import Derived.Shelf.SlIterI.Nil
import Derived.Shelf.SortM.Plain
import Derived.Shelf.SortM.SortNone
import Derived.Shelf.SlSortCmp.Insertion
import Derived.Shelf.Spec.SlicesInsertGrow
import Derived.Test.YtimlcnhcjndijaaGreatDoorProg
set_option linter.all false
set_option maxRecDepth 100000
set_option maxHeartbeats 1600000
namespace Go.Proofs
open Go.Shelf Tryz
def Tryz.lj:Go.Shelf.Ren:=⟨fun|7=>292|10=>324|n=>n,fun|23=>328|26=>9|3=>331|28=>370|0=>0|27=>369|33=>165|4=>4|n=>n,fun|n=>n⟩
def Tryz.ui:Go.Proofs.SlLaysZ.n7 prog lj:=by refine'{f7:=⟨f292.name,by decide,func292.trans (congrArg some (by kernel_rfl))⟩,f10:=⟨f324.name,by decide,func324.trans (congrArg some (by kernel_rfl))⟩,..}<;>first|kernel_rfl|intro _;kernel_rfl
def Tryz.jf:Go.Shelf.Ren:=⟨fun|6=>291|8=>322|9=>323|11=>336|13=>144|12=>337|23=>201|24=>202|14=>343|15=>344|16=>345|17=>346|18=>347|19=>348|20=>349|21=>350|22=>351|25=>353|26=>254|27=>255|28=>354|29=>355|30=>356|31=>357|n=>n,fun|26=>9|28=>370|24=>67|0=>0|3=>3|37=>230|48=>286|50=>229|4=>4|40=>280|39=>279|45=>168|5=>5|9=>9|51=>340|55=>181|57=>377|58=>378|33=>165|n=>n,fun|n=>n⟩
def Tryz.tw:Go.Proofs.SlLaysZ.n6 prog jf:=by refine'{f6:=⟨f291.name,by decide,func291.trans (congrArg some (by kernel_rfl))⟩,f8:=⟨f322.name,by decide,func322.trans (congrArg some (by kernel_rfl))⟩,f11:=⟨f336.name,by decide,func336.trans (congrArg some (by kernel_rfl))⟩,..}<;>first|kernel_rfl|intro _;kernel_rfl
def Tryz.qk:Go.Shelf.Ren:=⟨fun|6=>323|8=>144|9=>337|19=>201|20=>202|21=>343|22=>344|23=>345|24=>346|25=>347|26=>348|27=>349|28=>350|29=>351|36=>353|31=>254|32=>255|37=>354|38=>355|39=>356|41=>357|n=>n,fun|27=>67|29=>9|3=>3|32=>230|26=>67|0=>0|44=>286|46=>229|4=>4|36=>280|35=>279|41=>168|5=>5|9=>9|53=>340|57=>181|63=>377|64=>378|n=>n,fun|n=>n⟩
def Tryz.va:Go.Proofs.SlLaysM.n6 prog qk:=by refine'{f6:=⟨f323.name,by decide,func323.trans (congrArg some (by kernel_rfl))⟩,f9:=⟨f337.name,by decide,func337.trans (congrArg some (by kernel_rfl))⟩,f21:=⟨f343.name,by decide,func343.trans (congrArg some (by kernel_rfl))⟩,f22:=⟨f344.name,by decide,func344.trans (congrArg some (by kernel_rfl))⟩,f23:=⟨f345.name,by decide,func345.trans (congrArg some (by kernel_rfl))⟩,f24:=⟨f346.name,by decide,func346.trans (congrArg some (by kernel_rfl))⟩,f25:=⟨f347.name,by decide,func347.trans (congrArg some (by kernel_rfl))⟩,f26:=⟨f348.name,by decide,func348.trans (congrArg some (by kernel_rfl))⟩,f27:=⟨f349.name,by decide,func349.trans (congrArg some (by kernel_rfl))⟩,f28:=⟨f350.name,by decide,func350.trans (congrArg some (by kernel_rfl))⟩,f29:=⟨f351.name,by decide,func351.trans (congrArg some (by kernel_rfl))⟩,f36:=⟨f353.name,by decide,func353.trans (congrArg some (by kernel_rfl))⟩,f37:=⟨f354.name,by decide,func354.trans (congrArg some (by kernel_rfl))⟩,f38:=⟨f355.name,by decide,func355.trans (congrArg some (by kernel_rfl))⟩,f39:=⟨f356.name,by decide,func356.trans (congrArg some (by kernel_rfl))⟩,f41:=⟨f357.name,by decide,func357.trans (congrArg some (by kernel_rfl))⟩,..}<;>first|kernel_rfl|intro _;kernel_rfl
def Tryz.rp:Go.Shelf.Ren:=⟨fun|20=>334|n=>n,fun|24=>3|22=>31|3=>3|25=>155|4=>4|0=>0|n=>n,fun|n=>n⟩
def Tryz.yh:Go.Proofs.SlLaysF.n20 prog rp:=by refine'{f20:=⟨f334.name,by decide,func334.trans (congrArg some (by kernel_rfl))⟩,..}<;>first|kernel_rfl|intro _;kernel_rfl
def Tryz.rq:Go.Shelf.Ren:=⟨fun|21=>265|27=>307|28=>308|35=>329|39=>340|n=>n,fun|22=>31|3=>3|4=>4|0=>0|n=>n,fun|n=>n⟩
def Tryz.ij:Go.Proofs.Lays2.n21 prog rq:=by constructor<;>first|kernel_rfl|intro _;kernel_rfl
