/- HistorySwaps: the closed facts of its row, each by the kernel, in a text of their own (beside the walks' texts they do not fit the memory). -/
import Derived.Test.YtoakknkmjnebjaaGreatDoorRows
import Derived.JoinedOf
namespace Go.Proofs.YtoakknkmjnebjaaGreatDoor.historySwaps
theorem named : Tryz.pinned.checked.prog.funcNamed Rows.historySwapsRow.func = some 3 := by kernel_rfl
theorem closed : joinedFacts Tryz.pinned.checked.prog 3 Tryz.f3 Rows.historySwapsSpec Rows.historySwapsRow = true := by kernel_rfl
end Go.Proofs.YtoakknkmjnebjaaGreatDoor.historySwaps
