/- Parts of a proof. No condition. -/
import Derived.Test.YtimlcnhcjndijaaGreatDoorJ01
import Derived.Lib.Zigzag
set_option linter.all false
set_option maxRecDepth 100000
set_option maxHeartbeats 1600000
namespace Go.Proofs.YtimlcnhcjndijaaGreatDoor
section
open Go.RowKit Go.Maps Go.Lib
def p9:128 ^ 9=9223372036854775808:=ad9
