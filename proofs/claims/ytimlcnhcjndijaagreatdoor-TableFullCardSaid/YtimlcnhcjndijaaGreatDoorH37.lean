/- Parts of a proof. No condition. -/
import Derived.Test.YtimlcnhcjndijaaGreatDoorH05
import Derived.Test.YtimlcnhcjndijaaGreatDoorH12
import Derived.Stop.LaidErr
set_option linter.all false
set_option maxRecDepth 100000
set_option maxHeartbeats 1600000
namespace Go.Proofs.YtimlcnhcjndijaaGreatDoor
section
open Go.RowKit Go.Maps Go.Lib
def A19:(Rows.laid_internal_strconv_uint64pow10:DataW Unit)=Lib.tabData .u64 Lib.pow10Tab:=by kernel_rfl
def A2a {W:World} {a b:String×DataW Unit} {r:List (String×DataW Unit)} (d:∀w,laidMetH Tryz.prog (a :: b :: ("internal/strconv.uint64pow10",Rows.laid_internal_strconv_uint64pow10)::r) w=laidMet Tryz.prog (a :: b :: ("internal/strconv.uint64pow10",Rows.laid_internal_strconv_uint64pow10)::r) w)
  (h:laidMetH Tryz.prog (a :: b :: ("internal/strconv.uint64pow10",Rows.laid_internal_strconv_uint64pow10)::r) W):Tb W:=by
 rw[d]at h;have c:=h.tail.tail;rw[A19]at c;exact Lib.tabBelow_of_tabIs (Lib.tabIs_of_head (g:=3) (t:=404) (e:=229) (n:=20) (by kernel_rfl) (by kernel_rfl) (by kernel_rfl) (by kernel_rfl) (by kernel_rfl) (by kernel_rfl) c)
