/- awake, and the walk of AuditText. -/
import Derived.Test.YtphpkmjobhohfaaGreatDoorU
namespace Go.Proofs.YtphpkmjobhohfaaGreatDoor
open Go.RowKit

theorem textV1 : rTextB 1 4194320 0 3 ⟨#[86, 49]⟩ ⟨#[]⟩ ⟨#[]⟩ = ⟨#[115, 101, 99, 116, 111, 114, 32, 86, 49, 32, 52, 49, 57, 52, 51, 50, 48, 32, 48, 32, 51]⟩ := by
  have e1 : itoaB 4194320 = ⟨#[52, 49, 57, 52, 51, 50, 48]⟩ := by
    simp [itoaB, Lib.itoa, Lib.decDigits]
  have e2 : itoaB 0 = ⟨#[48]⟩ := by simp [itoaB, Lib.itoa, Lib.decDigits]
  have e3 : itoaB 3 = ⟨#[51]⟩ := by simp [itoaB, Lib.itoa, Lib.decDigits]
  simp only [rTextB]
  rw [e1, e2, e3]
  rfl

theorem text_V1 (w : World) (ht : Tab w) : Calls Tryz.prog 5 #[.agg #[.int .i64 1, .string ⟨#[86, 49]⟩, .int .i64 4194320, .int .i64 0, .string ⟨#[]⟩, .int .i64 3, .string ⟨#[]⟩]] w fun e w' => e = .returned (.string ⟨#[115, 101, 99, 116, 111, 114, 32, 86, 49, 32, 52, 49, 57, 52, 51, 50, 48, 32, 48, 32, 51]⟩) ∧ Below w.heap.size w w' := by
  refine (agree 1 4194320 0 3 ⟨#[86, 49]⟩ ⟨#[]⟩ ⟨#[]⟩ w ht ⟨by decide, by decide, by decide, by decide, by decide, by decide, by decide, by decide, by decide⟩).mono ?_
  rintro e w' ⟨rfl, hb⟩
  exact ⟨by rw [textV1], hb⟩

set_option maxRecDepth 100000 in
set_option maxHeartbeats 2000000 in
theorem awake_any (w : World) (ht : Tab w) : Calls Tryz.prog 4 #[] w fun e w' => e = .returned (.bool true) ∧ Below w.heap.size w w' := by
  have hmm := @run_makeMap Tryz.prog
  have hm := heap_alloc_new (w.alloc (.cells #[.string ⟨#[86, 57]⟩] 9)) (.map #[] 0)
  rw [World.size_alloc] at hm
  have hv := volumes_one w.heap.size (w.heap.size + 1) 0 ((w.alloc (.cells #[.string ⟨#[86, 57]⟩] 9)).alloc (.map #[] 0)) hm (by simp; omega) (((Blk.new w 9 #[.string ⟨#[86, 57]⟩]).alloc _).cell 0)
  have HV := Lib.hid hv
  have HT := Lib.hid ht
  clear hv ht hm
  go_enter Tryz.func4, Tryz.ntmps4
  go_wp2_with (first | (go_at_call 7; refine HV.out.mono ?_; rintro e w1 ⟨g, cap, rfl, hg, hf, hb⟩; have a0 := hf 0 _ rfl; have a1 := hf 1 _ rfl; have a2 := hf 2 _ rfl; have a3 := hf 3 _ rfl; have a4 := hf 4 _ rfl; have a5 := hf 5 _ rfl; have a6 := hf 6 _ rfl; have B1 := Lib.hid ((((Below.refl w.heap.size w).alloc (Nat.le_refl _) _).alloc (by simp) _).trans (hb.mono (by simp; omega))); clear hf hb) | (go_at_call 5; refine (text_V1 _ (HT.out.below B1.out (Nat.le_refl _))).mono ?_; rintro e w2 ⟨rfl, hb2⟩))
  go_ret
  exact ⟨rfl, below_next B1.out hb2 B1.out.size⟩

end Go.Proofs.YtphpkmjobhohfaaGreatDoor
