/- HistoryConflicts: the closed facts of its row, each by the kernel, in a text of their own (beside the walks' texts they do not fit the memory). -/
import Derived.Test.YtoiocnpamplhdaaGreatDoorRows
import Derived.JoinedOf
namespace Go.Proofs.YtoiocnpamplhdaaGreatDoor.historyConflicts
theorem named : Tryz.pinned.checked.prog.funcNamed Rows.historyConflictsRow.func = some 4 := by kernel_rfl
theorem closed : joinedFacts Tryz.pinned.checked.prog 4 Tryz.f4 Rows.historyConflictsSpec Rows.historyConflictsRow = true := by kernel_rfl
end Go.Proofs.YtoiocnpamplhdaaGreatDoor.historyConflicts
