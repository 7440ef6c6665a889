/- HistoryReads: the closed facts of its row, each by the kernel, in a text of their own (beside the walks' texts they do not fit the memory). -/
import Derived.Test.YtapanepkfbamhaaGreatDoorRows
import Derived.JoinedOf
namespace Go.Proofs.YtapanepkfbamhaaGreatDoor.historyReads
theorem named : Tryz.pinned.checked.prog.funcNamed Rows.historyReadsRow.func = some 4 := by kernel_rfl
theorem closed : joinedFacts Tryz.pinned.checked.prog 4 Tryz.f4 Rows.historyReadsSpec Rows.historyReadsRow = true := by kernel_rfl
end Go.Proofs.YtapanepkfbamhaaGreatDoor.historyReads
