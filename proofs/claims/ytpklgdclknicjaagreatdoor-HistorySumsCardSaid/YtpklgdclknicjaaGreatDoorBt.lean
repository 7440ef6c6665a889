/- A new block, by its number. -/
import Derived.Test.YtpklgdclknicjaaGreatDoorBlk
namespace Go.Proofs.YtpklgdclknicjaaGreatDoor
theorem blk_at (w : World) (t : TypeId) (cs : Array Value) (b : Nat) (h : b = w.heap.size) : Blk (w.alloc (.cells cs t)) b t cs := by subst h; exact Blk.new w t cs
end Go.Proofs.YtpklgdclknicjaaGreatDoor
