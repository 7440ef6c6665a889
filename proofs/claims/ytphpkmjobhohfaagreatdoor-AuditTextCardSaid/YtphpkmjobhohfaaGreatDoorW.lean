/- The walk of AuditText. -/
import Derived.Test.YtphpkmjobhohfaaGreatDoorV
namespace Go.Proofs.YtphpkmjobhohfaaGreatDoor
open Go.RowKit

set_option maxRecDepth 100000 in
set_option maxHeartbeats 2000000 in
theorem law_small (k id unit sec : Int) (vol name key : ByteArray) (w : World) (ht : Tab w) (hv : vol.size ≤ 60) (hn : name.size ≤ 60) (hk : key.size ≤ 60) (hi0 : -1099511627776 ≤ id) (hi1 : id ≤ 9223372036854775807) (hu0 : -1099511627776 ≤ unit) (hu1 : unit ≤ 9223372036854775807) (hs0 : -1099511627776 ≤ sec) (hs1 : sec ≤ 9223372036854775807) :
    Calls Tryz.prog 3 #[.agg #[.int .i64 k, .string vol, .int .i64 id, .int .i64 unit, .string name, .int .i64 sec, .string key]] w fun e w' => e = .returned (.bool true) ∧ Below w.heap.size w w' := by
  obtain ⟨t, hT⟩ : ∃ t, rTextB k id unit sec vol name key = t := ⟨_, rfl⟩
  have HC5 : Hid (∀ W : World, Tab W → Calls Tryz.prog 5 #[.agg #[.int .i64 k, .string vol, .int .i64 id, .int .i64 unit, .string name, .int .i64 sec, .string key]] W fun e w' => e = .returned (.string t) ∧ Below W.heap.size W w') := Lib.hid fun W h => by
    rw [← hT]
    exact agree k id unit sec vol name key W h ⟨hv, hn, hk, by omega, hi1, by omega, hu1, by omega, hs1⟩
  have HC6 : Hid (∀ W : World, Tab W → Calls Tryz.prog 6 #[.agg #[.int .i64 k, .string vol, .int .i64 id, .int .i64 unit, .string name, .int .i64 sec, .string key]] W fun e w' => e = .returned (.string t) ∧ Below W.heap.size W w') := Lib.hid fun W _ => by
    rw [← hT]
    exact rText_any k id unit sec vol name key W hv hn hk (by omega) hi1 (by omega) hu1 (by omega) hs1
  have HA : Hid (∀ W : World, Tab W → Calls Tryz.prog 4 #[] W fun e w' => e = .returned (.bool true) ∧ Below W.heap.size W w') := Lib.hid fun W h => awake_any W h
  have HT := Lib.hid (ht.alloc (.cells #[.int .i64 k, .string vol, .int .i64 id, .int .i64 unit, .string name, .int .i64 sec, .string key] 23))
  have HZ : Hid ((w.alloc (.cells #[.int .i64 k, .string vol, .int .i64 id, .int .i64 unit, .string name, .int .i64 sec, .string key] 23)).heap.size ≤ w.heap.size + 1) := Lib.hid (by simp)
  have Z0 : True := trivial
  have b1 : decide (id < -1099511627776) = false := by simp; omega
  have b2 : decide (unit < -1099511627776) = false := by simp; omega
  have b3 : decide (sec < -1099511627776) = false := by simp; omega
  clear ht hT hi0 hu0 hs0
  go_enter Tryz.func3, Tryz.ntmps3
  go_wp2_with fail
  go_region_held3 (fun w' => w'.cell? ⟨w.heap.size, 0, none⟩ = some (.int .i64 k) ∧ w'.cell? ⟨w.heap.size, 1, none⟩ = some (.string vol) ∧ w'.cell? ⟨w.heap.size, 2, none⟩ = some (.int .i64 id) ∧ w'.cell? ⟨w.heap.size, 3, none⟩ = some (.int .i64 unit) ∧ w'.cell? ⟨w.heap.size, 4, none⟩ = some (.string name) ∧ w'.cell? ⟨w.heap.size, 5, none⟩ = some (.int .i64 sec) ∧ w'.cell? ⟨w.heap.size, 6, none⟩ = some (.string key)) (first | go_keep | exact ⟨c0, c1, c2, c3, c4, c5, c6⟩ | exact ⟨d0, d1, d2, d3, d4, d5, d6⟩ | exact ⟨e0, e1, e2, e3, e4, e5, e6⟩) (first | (go_at_call 5; have _t := Z0; (with_reducible refine (HC5.out _ HT.out.drew).mono ?_); rintro e w1 ⟨rfl, hb1⟩; have x1 := bxd hb1; have c0 := bx_cell x1 0; have c1 := bx_cell x1 1; have c2 := bx_cell x1 2; have c3 := bx_cell x1 3; have c4 := bx_cell x1 4; have c5 := bx_cell x1 5; have c6 := bx_cell x1 6; simp at c0 c1 c2 c3 c4 c5 c6; have T1 := Lib.hid (HT.out.below x1 HZ.out); have X1 := Lib.hid x1; have Z1 : True := trivial; clear hb1 x1 Z0) | (go_at_call 6; have _t := Z0; (with_reducible refine (HC6.out _ HT.out.drew).mono ?_); rintro e w1 ⟨rfl, hb1⟩; have x1 := bxd hb1; have c0 := bx_cell x1 0; have c1 := bx_cell x1 1; have c2 := bx_cell x1 2; have c3 := bx_cell x1 3; have c4 := bx_cell x1 4; have c5 := bx_cell x1 5; have c6 := bx_cell x1 6; simp at c0 c1 c2 c3 c4 c5 c6; have T1 := Lib.hid (HT.out.below x1 HZ.out); have X1 := Lib.hid x1; have Z1 : True := trivial; clear hb1 x1 Z0) | (go_at_call 6; have _t := Z1; (with_reducible refine (HC6.out _ T1.out).mono ?_); rintro e w2 ⟨rfl, hb2⟩; have x2 := below_next X1.out hb2 (bx_size X1.out); have d0 := bx_cell x2 0; have d1 := bx_cell x2 1; have d2 := bx_cell x2 2; have d3 := bx_cell x2 3; have d4 := bx_cell x2 4; have d5 := bx_cell x2 5; have d6 := bx_cell x2 6; simp at d0 d1 d2 d3 d4 d5 d6; have T2 := Lib.hid (HT.out.below x2 HZ.out); have X2 := Lib.hid x2; have Z2 : True := trivial; clear hb2 x2 Z1) | (go_at_call 5; have _t := Z1; (with_reducible refine (HC5.out _ T1.out).mono ?_); rintro e w2 ⟨rfl, hb2⟩; have x2 := below_next X1.out hb2 (bx_size X1.out); have d0 := bx_cell x2 0; have d1 := bx_cell x2 1; have d2 := bx_cell x2 2; have d3 := bx_cell x2 3; have d4 := bx_cell x2 4; have d5 := bx_cell x2 5; have d6 := bx_cell x2 6; simp at d0 d1 d2 d3 d4 d5 d6; have T2 := Lib.hid (HT.out.below x2 HZ.out); have X2 := Lib.hid x2; have Z2 : True := trivial; clear hb2 x2 Z1) | (go_at_call 4; have _t := Z2; (with_reducible refine (HA.out _ T2.out).mono ?_); rintro e w3 ⟨rfl, hb3⟩; have x3 := below_next X2.out hb3 (bx_size X2.out); have e0 := bx_cell x3 0; have e1 := bx_cell x3 1; have e2 := bx_cell x3 2; have e3 := bx_cell x3 3; have e4 := bx_cell x3 4; have e5 := bx_cell x3 5; have e6 := bx_cell x3 6; simp at e0 e1 e2 e3 e4 e5 e6; have X3 := Lib.hid x3; clear hb3 x3 Z2))
  all_goals
    go_wp2
    go_ret
    exact ⟨rfl, bx_below X3.out⟩
end Go.Proofs.YtphpkmjobhohfaaGreatDoor
