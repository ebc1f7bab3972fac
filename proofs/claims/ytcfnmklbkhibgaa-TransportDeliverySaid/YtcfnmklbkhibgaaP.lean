/- What the walker wants of this seat's program. -/
import Derived.Test.YtcfnmklbkhibgaaRows
import Derived.Test.YtcfnmklbkhibgaaLG
namespace Go.Proofs.Ytcfnmklbkhibgaa
theorem Try_mixed : Try.prog.follows .mixedOrders = true := by kernel_rfl
theorem elem_eInt : Elem Try.prog 3 (.int .i64 0) 1 8 := by unfold Elem; kernel_rfl
theorem elem_eByte : Elem Try.prog 5 (.int .u8 0) 1 1 := by unfold Elem; kernel_rfl
theorem elem_eBool : Elem Try.prog 4 (.bool false) 1 1 := by unfold Elem; kernel_rfl
end Go.Proofs.Ytcfnmklbkhibgaa
