/- vec.Text: an amount as a text. -/
import Derived.Test.YtimlcnhcjndijaaGreatDoorQ05
import Derived.Laws.AppendOwnNone
set_option linter.all false
set_option maxRecDepth 100000
set_option maxHeartbeats 1600000
namespace Go.Proofs.YtimlcnhcjndijaaGreatDoor
open Go.RowKit
def Ajq (a b c d:Int) (j:Nat) (e:j<4) (w:World):(Instr.index 30 (.agg #[.int .i64 a,.int .i64 b,.int .i64 c,.int .i64 d]) (.int .i64 (j:Int))).run Tryz.prog w=.ok (.int .i64 (V4.get ⟨a,b,c,d⟩ j)) w:=by
 rcases (show j=0\/j=1\/j=2\/j=3 by omega) with rfl | rfl | rfl | rfl<;>kernel_rfl
end Go.Proofs.YtimlcnhcjndijaaGreatDoor
