/- hexadecimal of the program. -/
import Derived.Test.YtphpkmjobhohfaaGreatDoorH
import Derived.Test.YtphpkmjobhohfaaGreatDoorAppend
namespace Go.Proofs.YtphpkmjobhohfaaGreatDoor
open Go.RowKit

theorem conv_bytes (W : World) (t : ByteArray) : ∃ c W', (convert 9 61 (.string t)).run Tryz.prog W = .ok (.slice (some ⟨W.heap.size, 0, none⟩) t.size c) W' ∧
    (∀ j (h : j < t.size), W'.cell? ⟨W.heap.size, j, none⟩ = some (.int .u8 ((t[j]).toNat : Int))) ∧ W.grownBy W' none := by
  refine ⟨_, _, run_bytes_of_string (P := Tryz.prog) W 9 61 5 t Tryz.underlying9 Tryz.underlying61 Tryz.underlying5, fun j h => ?_, ?_⟩
  · rw [show W.heap.size = W.drew.heap.size from rfl, World.cell?_alloc_mark]
    exact bytesRow_at t _ j h
  · exact ⟨rfl, rfl, rfl, by simp, fun i hi _ => Below.heap_alloc W.drew _ i hi⟩
end Go.Proofs.YtphpkmjobhohfaaGreatDoor
