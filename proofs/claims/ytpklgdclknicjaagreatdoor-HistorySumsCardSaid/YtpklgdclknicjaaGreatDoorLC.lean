/- History, awake: the fields of an archive's description. -/
import Derived.Test.YtpklgdclknicjaaGreatDoorLB
namespace Go.Proofs.YtpklgdclknicjaaGreatDoor
open Go.RowKit

def fPtrs (g : Nat) : List Value := [.pointer (some ⟨g, 0, none⟩), .pointer (some ⟨g, 1, none⟩), .pointer (some ⟨g, 2, none⟩), .pointer (some ⟨g, 3, none⟩), .pointer (some ⟨g, 4, none⟩), .pointer (some ⟨g, 5, none⟩), .pointer (some ⟨g, 6, none⟩), .pointer (some ⟨g, 7, none⟩), .pointer (some ⟨g, 8, none⟩), .pointer (some ⟨g, 9, none⟩), .pointer (some ⟨g, 10, none⟩), .pointer (some ⟨g, 11, none⟩), .pointer (some ⟨g, 12, none⟩), .pointer (some ⟨g, 13, none⟩)]
set_option maxRecDepth 100000 in
set_option maxHeartbeats 2000000 in
theorem fields_any (g : Nat) (w : World) : Calls Tryz.prog 116 #[.pointer (some ⟨g, 0, none⟩)] w fun e w' => e = .returned (.slice (some ⟨w.heap.size, 0, none⟩) 14 14) ∧ w' = (w.alloc (.cells (fPtrs g).toArray 188)).drew := by
  unfold fPtrs
  go_enter Tryz.func116, Tryz.ntmps116
  go_wp2_with fail
  go_region_held3 (fun _ => True) (trivial) (fail)
  all_goals
    go_wp2
    go_ret
    exact ⟨rfl, rfl⟩
end Go.Proofs.YtpklgdclknicjaaGreatDoor
