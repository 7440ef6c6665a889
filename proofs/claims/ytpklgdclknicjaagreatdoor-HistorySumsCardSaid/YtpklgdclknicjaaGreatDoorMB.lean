/- History, awake: what a put does to no pairs. -/
import Derived.Test.YtpklgdclknicjaaGreatDoorMA
import Derived.Deep.QuietTactic
import Derived.BigQuiet
namespace Go.Proofs.YtpklgdclknicjaaGreatDoor
open Go.RowKit

theorem infoPair : (Tryz.prog.info? 143).map (fun i => (i.zero, i.size, i.bytes)) = some (some (.agg #[.string ⟨#[]⟩, .string ⟨#[]⟩]), 2, 32) := by kernel_rfl
theorem cloneP_nil (w : World) : Calls Tryz.prog 70 #[.slice none 0 0] w fun e w' => e = .returned (.slice none 0 0) ∧ w = w' := by
  have qq : ∀ (w : World) (a : Option Addr) (n c n' c' : Nat), (binOp .eql 39 (.slice a n c) (.slice none n' c')).run Tryz.prog w = .ok (.bool a.isNone) w := fun w a n c n' c' => Lib.run_eql_slice_nil w _ _ a n c n' c' Tryz.underlying39
  go_enter Tryz.func70, Tryz.ntmps70
  go_wp2
  go_ret
  exact ⟨rfl, rfl⟩
theorem pairsIndex_none (f : Value) (w : World) : Calls Tryz.prog 141 #[.slice none 0 0, f] w fun e w' => e = .returned (.int .i64 (-1)) ∧ w = w' := by
  go_enter Tryz.func141, Tryz.ntmps141
  go_wp2
  refine wp_loop_rounds 1 ?_
  rw [rounds_succ]
  go_wp2
  go_ret
  exact ⟨rfl, rfl⟩
theorem find_nil (k : ByteArray) (w : World) : Calls Tryz.prog 161 #[.slice none 0 0, .string k] w fun e w' => e = .returned (.tuple #[.int .i64 0, .bool false]) ∧ Below w.heap.size w w' := by
  go_enter Tryz.func161, Tryz.ntmps161
  go_wp2_with (go_at_call 141; refine (pairsIndex_none _ _).mono ?_; rintro e w' ⟨rfl, rfl⟩)
  go_ret2
  exact ⟨rfl, (Below.refl _ _).alloc (Nat.le_refl _) _⟩
theorem direct_a (id : Int) (w : World) : Calls Tryz.prog 160 #[.agg (dV id).toArray] w fun e w' => e = .returned (.bool true) ∧ Below w.heap.size w w' := by
  have c1 : (w.alloc (.cells (dV id).toArray 38)).cell? ⟨w.heap.size, 1, none⟩ = some (.int .i64 3) := ((Blk.new w 38 (dV id).toArray).cell 1).trans rfl
  go_enter Tryz.func160, Tryz.ntmps160
  go_wp2
  go_ret
  exact ⟨rfl, (Below.refl _ _).alloc (Nat.le_refl _) _⟩
structure DV (id : Int) (w W : World) : Prop where
  b1 : Blk W w.heap.size 38 (dV id).toArray
  sz : w.heap.size + 1 ≤ W.heap.size
  be : Below w.heap.size w W
theorem dv_start (id : Int) (w : World) : DV id w (w.alloc (.cells (dV id).toArray 38)) := ⟨Blk.new w _ _, by simp, (Below.refl _ _).alloc (Nat.le_refl _) _⟩
theorem dv_next (id : Int) (w W W' : World) (h : DV id w W) (hb : Below W.heap.size W W') : DV id w W' :=
  ⟨h.b1.below hb (by have := h.sz; omega), Nat.le_trans h.sz hb.size, below_next h.be hb (by have := h.sz; omega)⟩
theorem dv_cell {id : Int} {w W : World} (h : DV id w W) (i : Nat) : W.cell? ⟨w.heap.size, i, none⟩ = (dV id)[i]? := by
  rw [h.b1.cell, List.getElem?_toArray]

set_option maxRecDepth 100000 in
set_option maxHeartbeats 2000000 in
theorem keyOf_a (w : World) : Calls Tryz.prog 122 #[.agg (dV 200).toArray, .string ⟨#[107, 49]⟩] w fun e w' => e = .returned (.tuple #[.string ⟨#[107]⟩, .int .i64 0]) ∧ Below w.heap.size w w' := by
  have HB := Lib.hid (Blk.new w 38 (dV 200).toArray)
  have HX := Lib.hid (dv_start 200 w)
  have HV : Hid (∀ W, Calls Tryz.prog 115 #[.agg (dV 200).toArray] W fun e w' => e = .returned (.bool true) ∧ Below W.heap.size W w') := Lib.hid fun W => keyValid_a 200 W
  have s1 : ∀ W : World, (Instr.slice 9 (.string ⟨#[107, 49]⟩) (some (.int .i64 0)) none none).run Tryz.prog W = .ok (.string ⟨#[107, 49]⟩) W := fun W => by kernel_rfl
  have s2 : ∀ W : World, (Instr.slice 9 (.string ⟨#[107, 49]⟩) none (some (.int .i64 1)) none).run Tryz.prog W = .ok (.string ⟨#[107]⟩) W := fun W => by kernel_rfl
  go_enter Tryz.func122, Tryz.ntmps122
  go_wp2_with (first | (refine wpList_load_row rfl 38 _ rfl w.heap.size rfl 38 _ (0, 0) _ HB.out Tryz.underlying38 rfl (by kernel_rfl) ?_) | (go_at_call 115; refine (HV.out _).mono ?_; rintro e w2 ⟨rfl, hb⟩; have HX2 := Lib.hid (dv_next 200 w _ _ HX.out hb); clear hb; have c1 := (dv_cell HX2.out 1).trans (show (dV 200)[1]? = some (.int .i64 3) from rfl); have c3 := (dv_cell HX2.out 3).trans (show (dV 200)[3]? = some (.int .i64 8) from rfl); have c5 := (dv_cell HX2.out 5).trans (show (dV 200)[5]? = some (.int .i64 0) from rfl); have c6 := (dv_cell HX2.out 6).trans (show (dV 200)[6]? = some (.int .i64 1) from rfl)) | (go_at_call 125; refine (within_yes _ _ _ (by decide) (by decide) _).mono ?_; rintro e w' ⟨rfl, rfl⟩))
  go_quiet (fail)
  go_wp2
  go_ret2
  exact ⟨rfl, below_drewN HX2.out.be _⟩
end Go.Proofs.YtpklgdclknicjaaGreatDoor
