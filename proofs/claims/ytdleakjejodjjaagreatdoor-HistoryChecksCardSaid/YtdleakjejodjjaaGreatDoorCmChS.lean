/- HistoryChecks: what its card asks of the kernel, one by one. -/
import Derived.Test.YtdleakjejodjjaaGreatDoorRows
import Derived.SevenTiedAt
namespace Go.Proofs.YtdleakjejodjjaaGreatDoor.historyChecks
theorem q0 : Rows.historyChecksRow.wfByText (OpenSpec.ofChange Rows.historyChecksSpec) = true := by kernel_rfl
theorem q1 : Tryz.pinned.checked.prog.mainIs = some (true, "f7b7e15f139b61cff0fa1a3bd9aedef7a3ea027cf0bb867d46e77df450adcdb3".toList) := by kernel_rfl
theorem q2 : false = Tryz.pinned.checked.prog.looks [] := by kernel_rfl
theorem q3 : false = Rows.historyChecksRow.goesBy Tryz.pinned.checked.prog := by kernel_rfl
end Go.Proofs.YtdleakjejodjjaaGreatDoor.historyChecks
