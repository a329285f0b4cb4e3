/- Parts of a proof. No condition. -/
import Derived.Test.YtimlcnhcjndijaaGreatDoorH01
import Derived.Lib.Zigzag
set_option linter.all false
set_option maxRecDepth 100000
set_option maxHeartbeats 1600000
namespace Go.Proofs.YtimlcnhcjndijaaGreatDoor
section
open Go.RowKit Go.Maps Go.Lib
abbrev B2 (n:Nat):List UInt8:=Lib.uvarint n
def Oc {n:Nat} (h:n<18446744073709551616):(B2 n).length<=10:=Lib.uvarint_length64 h
def p9:128 ^ 9=9223372036854775808:=ad9
abbrev zz (n:Int):Nat:=Lib.zigzag n
def Afv {n:Int} (h1:-9223372036854775808<=n) (a:n<=9223372036854775807):zz n<18446744073709551616:=by
 unfold zz Lib.zigzag
 split<;>omega
