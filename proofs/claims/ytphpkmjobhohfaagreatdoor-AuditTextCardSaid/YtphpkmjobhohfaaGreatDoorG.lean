/- Text of the reference: other kinds. -/
import Derived.Test.YtphpkmjobhohfaaGreatDoorF
namespace Go.Proofs.YtphpkmjobhohfaaGreatDoor
open Go.RowKit

set_option maxRecDepth 100000 in
set_option maxHeartbeats 1000000 in
theorem rText_none (k : Int) (vol name key : ByteArray) (id unit sec : Int) (w : World) (hk : k < 0 ∨ 10 < k) (hid0 : -9223372036854775807 ≤ id) (hid1 : id ≤ 9223372036854775807) :
    Calls Tryz.prog 6 #[.agg #[.int .i64 k, .string vol, .int .i64 id, .int .i64 unit, .string name, .int .i64 sec, .string key]] w fun e w' => e = .returned (.string ⟨#[]⟩) ∧ Below w.heap.size w w' := by
  have d0 : (k == 0) = false := by simp; omega
  have d1 : (k == 1) = false := by simp; omega
  have d2 : (k == 2) = false := by simp; omega
  have d3 : (k == 3) = false := by simp; omega
  have d4 : (k == 4) = false := by simp; omega
  have d5 : (k == 5) = false := by simp; omega
  have d6 : (k == 6) = false := by simp; omega
  have d7 : (k == 7) = false := by simp; omega
  have d8 : (k == 8) = false := by simp; omega
  have d9 : (k == 9) = false := by simp; omega
  have d10 : (k == 10) = false := by simp; omega
  clear hk
  obtain ⟨t0, ht0⟩ : ∃ t, itoaB id = t := ⟨_, rfl⟩
  have hts0 : t0.size ≤ 20 := by rw [← ht0]; exact itoaB_size hid0 hid1
  have HC0 : Hid (∀ W : World, Calls Tryz.prog 10 #[.int .i64 id] W fun e w' => e = .returned (.string t0) ∧ Below W.heap.size W w') := Lib.hid (fun W => by rw [← ht0]; exact rdecimal_any id hid0 hid1 W)
  clear ht0
  have q4 : 1 + t0.size ≤ 9223372036854775807 := by omega
  go_enter Tryz.func6, Tryz.ntmps6
  go_wp2_with fail
  refine (HC0.out _).mono ?_
  rintro e w1 ⟨rfl, hb1⟩
  have hB : Blk w1 w.heap.size 23 #[.int .i64 k, .string vol, .int .i64 id, .int .i64 unit, .string name, .int .i64 sec, .string key] := (Blk.new w 23 _).below hb1 (by simp)
  have b0 := (Below.refl w.heap.size w).alloc (Nat.le_refl _) (.cells #[.int .i64 k, .string vol, .int .i64 id, .int .i64 unit, .string name, .int .i64 sec, .string key] 23)
  have B1 := Lib.hid (below_next b0 hb1 b0.size)
  have c0 := hB.cell 0
  simp at c0
  clear hb1 b0 hB
  go_wp2
  go_ret
  exact ⟨rfl, B1.out⟩
end Go.Proofs.YtphpkmjobhohfaaGreatDoor
