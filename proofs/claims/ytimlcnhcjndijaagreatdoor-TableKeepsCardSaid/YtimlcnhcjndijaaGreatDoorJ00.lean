/- Parts of a proof. No condition. -/
import Derived.KernelRfl
namespace Go.Proofs.YtimlcnhcjndijaaGreatDoor
theorem ao9{p:Prop}(h:p:=by omega):p:=h
theorem ad9{p:Prop}(h:p:=by decide):p:=h
theorem as9{p:Prop}(h:p:=by simp):p:=h
