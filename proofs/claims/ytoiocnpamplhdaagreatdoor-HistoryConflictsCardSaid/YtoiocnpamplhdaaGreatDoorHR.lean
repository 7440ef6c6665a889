/- History, the reference: a change is valid. Printed by wip/history/gen_hr.py. -/
import Derived.Test.YtoiocnpamplhdaaGreatDoorHQ
import Derived.Deep.Light
namespace Go.Proofs.YtoiocnpamplhdaaGreatDoor
open Go.RowKit
theorem isE_dec (t : ByteArray) : t.toList.isEmpty = decide (t.size = 0) := by rw [nil_dec]; cases t.toList <;> simp

set_option maxRecDepth 100000 in
set_option maxHeartbeats 1000000 in
theorem rch_0 (id : Int) (key rcd vol : ByteArray) (w : World) (i1 : 1 ≤ id) (i2 : id ≤ 1099511627776) (hv : vol.size ≤ maxLen) (hk : key.size ≤ maxLen) (hr : rcd.size ≤ maxLen) :
    Calls Tryz.prog 48 #[.agg #[.int .i64 0, .int .i64 id, .string key, .string rcd, .string vol]] w fun e w' => e = .returned (.bool (chkB id 1 32 1 200 false key rcd vol)) ∧ Below w.heap.size w w' := by
  obtain ⟨R, hR⟩ : ∃ R, chkB id 1 32 1 200 false key rcd vol = R := ⟨_, rfl⟩
  rw [hR]
  have HV : Hid (∀ W : World, Calls Tryz.prog 68 #[.string vol] W fun e w' => e = .returned (.bool (volB vol)) ∧ W = w') := Lib.hid fun W => rvol_any vol W hv
  have d1 : decide (id < 1) = false := by simp; omega
  have d2 : decide (1099511627776 < id) = false := by simp; omega
  have hn : numB id = true := by unfold numB; rw [decide_eq_true i1, decide_eq_true i2]; rfl
  have hve := isE_dec vol
  obtain ⟨vz, hvz⟩ : ∃ vz : Bool, vol.toList.isEmpty = vz := ⟨_, rfl⟩
  obtain ⟨kn, hkn⟩ : ∃ n, key.size = n := ⟨_, rfl⟩
  obtain ⟨rn, hrn⟩ : ∃ n, rcd.size = n := ⟨_, rfl⟩
  have hve2 : decide (vol.toList = []) = vz := by rw [← hvz]; cases vol.toList <;> simp
  have hr2 : R = (decide (1 ≤ (kn : Int)) && decide ((kn : Int) ≤ 32) && (decide (1 ≤ (rn : Int)) && decide ((rn : Int) ≤ 200)) && vz) := by
    rw [← hR, ← hkn, ← hrn, ← hvz, hve]
    simp [chkB, hn, fitB]
  have _h := And.intro hk hr
  clear _h
  unfold maxLen at hk hr
  rw [hkn] at hk
  rw [hrn] at hr
  generalize volB vol = vb at HV hr2
  have HRR := Lib.hid hr2
  have HVZ := Lib.hid hve2
  have BB := Lib.hid (bx_below (bx_start w #[.int .i64 0, .int .i64 id, .string key, .string rcd, .string vol] 52))
  clear hr2 hR hn hve hve2 hv i1 i2
  go_enter Tryz.func48, Tryz.ntmps48
  go_wp2_with fail
  go_quiet (fail)
  go_wp2_with (fail)
  all_goals
    go_ret
    refine ⟨?_, below_drewN BB.out _⟩
    rw [HRR.out]
    clear HV HRR HVZ BB d1 d2
    first
      | (show Ending.returned (.bool vz) = _; congr 2; go_light; simp_all; done)
      | (show Ending.returned (.bool vz) = _; congr 2; go_light; simp_all; intros; omega)
      | (show Ending.returned (.bool false) = _; congr 2; go_light; simp_all; done)
      | (show Ending.returned (.bool false) = _; congr 2; go_light; simp_all; intros; omega)

set_option maxRecDepth 100000 in
set_option maxHeartbeats 1000000 in
theorem rch_1 (id : Int) (key rcd vol : ByteArray) (w : World) (i1 : 1 ≤ id) (i2 : id ≤ 1099511627776) (hv : vol.size ≤ maxLen) (hk : key.size ≤ maxLen) (hr : rcd.size ≤ maxLen) :
    Calls Tryz.prog 48 #[.agg #[.int .i64 1, .int .i64 id, .string key, .string rcd, .string vol]] w fun e w' => e = .returned (.bool (chkB id 1 32 0 0 false key rcd vol)) ∧ Below w.heap.size w w' := by
  obtain ⟨R, hR⟩ : ∃ R, chkB id 1 32 0 0 false key rcd vol = R := ⟨_, rfl⟩
  rw [hR]
  have HV : Hid (∀ W : World, Calls Tryz.prog 68 #[.string vol] W fun e w' => e = .returned (.bool (volB vol)) ∧ W = w') := Lib.hid fun W => rvol_any vol W hv
  have d1 : decide (id < 1) = false := by simp; omega
  have d2 : decide (1099511627776 < id) = false := by simp; omega
  have hn : numB id = true := by unfold numB; rw [decide_eq_true i1, decide_eq_true i2]; rfl
  have hve := isE_dec vol
  obtain ⟨vz, hvz⟩ : ∃ vz : Bool, vol.toList.isEmpty = vz := ⟨_, rfl⟩
  obtain ⟨kn, hkn⟩ : ∃ n, key.size = n := ⟨_, rfl⟩
  obtain ⟨rn, hrn⟩ : ∃ n, rcd.size = n := ⟨_, rfl⟩
  have hve2 : decide (vol.toList = []) = vz := by rw [← hvz]; cases vol.toList <;> simp
  have hr2 : R = (decide (1 ≤ (kn : Int)) && decide ((kn : Int) ≤ 32) && (decide (0 ≤ (rn : Int)) && decide ((rn : Int) ≤ 0)) && vz) := by
    rw [← hR, ← hkn, ← hrn, ← hvz, hve]
    simp [chkB, hn, fitB]
  have _h := And.intro hk hr
  clear _h
  unfold maxLen at hk hr
  rw [hkn] at hk
  rw [hrn] at hr
  generalize volB vol = vb at HV hr2
  have HRR := Lib.hid hr2
  have HVZ := Lib.hid hve2
  have BB := Lib.hid (bx_below (bx_start w #[.int .i64 1, .int .i64 id, .string key, .string rcd, .string vol] 52))
  clear hr2 hR hn hve hve2 hv i1 i2
  go_enter Tryz.func48, Tryz.ntmps48
  go_wp2_with fail
  go_quiet (fail)
  go_wp2_with (fail)
  all_goals
    go_ret
    refine ⟨?_, below_drewN BB.out _⟩
    rw [HRR.out]
    clear HV HRR HVZ BB d1 d2
    first
      | (show Ending.returned (.bool vz) = _; congr 2; go_light; simp_all; done)
      | (show Ending.returned (.bool vz) = _; congr 2; go_light; simp_all; intros; omega)
      | (show Ending.returned (.bool false) = _; congr 2; go_light; simp_all; done)
      | (show Ending.returned (.bool false) = _; congr 2; go_light; simp_all; intros; omega)

set_option maxRecDepth 100000 in
set_option maxHeartbeats 1000000 in
theorem rch_2 (id : Int) (key rcd vol : ByteArray) (w : World) (i1 : 1 ≤ id) (i2 : id ≤ 1099511627776) (hv : vol.size ≤ maxLen) (hk : key.size ≤ maxLen) (hr : rcd.size ≤ maxLen) :
    Calls Tryz.prog 48 #[.agg #[.int .i64 2, .int .i64 id, .string key, .string rcd, .string vol]] w fun e w' => e = .returned (.bool (chkB id 0 0 0 1000 false key rcd vol)) ∧ Below w.heap.size w w' := by
  obtain ⟨R, hR⟩ : ∃ R, chkB id 0 0 0 1000 false key rcd vol = R := ⟨_, rfl⟩
  rw [hR]
  have HV : Hid (∀ W : World, Calls Tryz.prog 68 #[.string vol] W fun e w' => e = .returned (.bool (volB vol)) ∧ W = w') := Lib.hid fun W => rvol_any vol W hv
  have d1 : decide (id < 1) = false := by simp; omega
  have d2 : decide (1099511627776 < id) = false := by simp; omega
  have hn : numB id = true := by unfold numB; rw [decide_eq_true i1, decide_eq_true i2]; rfl
  have hve := isE_dec vol
  obtain ⟨vz, hvz⟩ : ∃ vz : Bool, vol.toList.isEmpty = vz := ⟨_, rfl⟩
  obtain ⟨kn, hkn⟩ : ∃ n, key.size = n := ⟨_, rfl⟩
  obtain ⟨rn, hrn⟩ : ∃ n, rcd.size = n := ⟨_, rfl⟩
  have hve2 : decide (vol.toList = []) = vz := by rw [← hvz]; cases vol.toList <;> simp
  have hr2 : R = (decide (0 ≤ (kn : Int)) && decide ((kn : Int) ≤ 0) && (decide (0 ≤ (rn : Int)) && decide ((rn : Int) ≤ 1000)) && vz) := by
    rw [← hR, ← hkn, ← hrn, ← hvz, hve]
    simp [chkB, hn, fitB]
  have _h := And.intro hk hr
  clear _h
  unfold maxLen at hk hr
  rw [hkn] at hk
  rw [hrn] at hr
  generalize volB vol = vb at HV hr2
  have HRR := Lib.hid hr2
  have HVZ := Lib.hid hve2
  have BB := Lib.hid (bx_below (bx_start w #[.int .i64 2, .int .i64 id, .string key, .string rcd, .string vol] 52))
  clear hr2 hR hn hve hve2 hv i1 i2
  go_enter Tryz.func48, Tryz.ntmps48
  go_wp2_with fail
  go_quiet (fail)
  go_wp2_with (fail)
  all_goals
    go_ret
    refine ⟨?_, below_drewN BB.out _⟩
    rw [HRR.out]
    clear HV HRR HVZ BB d1 d2
    first
      | (show Ending.returned (.bool vz) = _; congr 2; go_light; simp_all; done)
      | (show Ending.returned (.bool vz) = _; congr 2; go_light; simp_all; intros; omega)
      | (show Ending.returned (.bool false) = _; congr 2; go_light; simp_all; done)
      | (show Ending.returned (.bool false) = _; congr 2; go_light; simp_all; intros; omega)

set_option maxRecDepth 100000 in
set_option maxHeartbeats 1000000 in
theorem rch_3 (id : Int) (key rcd vol : ByteArray) (w : World) (i1 : 1 ≤ id) (i2 : id ≤ 1099511627776) (hv : vol.size ≤ maxLen) (hk : key.size ≤ maxLen) (hr : rcd.size ≤ maxLen) :
    Calls Tryz.prog 48 #[.agg #[.int .i64 3, .int .i64 id, .string key, .string rcd, .string vol]] w fun e w' => e = .returned (.bool (chkB id 0 0 0 0 false key rcd vol)) ∧ Below w.heap.size w w' := by
  obtain ⟨R, hR⟩ : ∃ R, chkB id 0 0 0 0 false key rcd vol = R := ⟨_, rfl⟩
  rw [hR]
  have HV : Hid (∀ W : World, Calls Tryz.prog 68 #[.string vol] W fun e w' => e = .returned (.bool (volB vol)) ∧ W = w') := Lib.hid fun W => rvol_any vol W hv
  have d1 : decide (id < 1) = false := by simp; omega
  have d2 : decide (1099511627776 < id) = false := by simp; omega
  have hn : numB id = true := by unfold numB; rw [decide_eq_true i1, decide_eq_true i2]; rfl
  have hve := isE_dec vol
  obtain ⟨vz, hvz⟩ : ∃ vz : Bool, vol.toList.isEmpty = vz := ⟨_, rfl⟩
  obtain ⟨kn, hkn⟩ : ∃ n, key.size = n := ⟨_, rfl⟩
  obtain ⟨rn, hrn⟩ : ∃ n, rcd.size = n := ⟨_, rfl⟩
  have hve2 : decide (vol.toList = []) = vz := by rw [← hvz]; cases vol.toList <;> simp
  have hr2 : R = (decide (0 ≤ (kn : Int)) && decide ((kn : Int) ≤ 0) && (decide (0 ≤ (rn : Int)) && decide ((rn : Int) ≤ 0)) && vz) := by
    rw [← hR, ← hkn, ← hrn, ← hvz, hve]
    simp [chkB, hn, fitB]
  have _h := And.intro hk hr
  clear _h
  unfold maxLen at hk hr
  rw [hkn] at hk
  rw [hrn] at hr
  generalize volB vol = vb at HV hr2
  have HRR := Lib.hid hr2
  have HVZ := Lib.hid hve2
  have BB := Lib.hid (bx_below (bx_start w #[.int .i64 3, .int .i64 id, .string key, .string rcd, .string vol] 52))
  clear hr2 hR hn hve hve2 hv i1 i2
  go_enter Tryz.func48, Tryz.ntmps48
  go_wp2_with fail
  go_quiet (fail)
  go_wp2_with (fail)
  all_goals
    go_ret
    refine ⟨?_, below_drewN BB.out _⟩
    rw [HRR.out]
    clear HV HRR HVZ BB d1 d2
    first
      | (show Ending.returned (.bool vz) = _; congr 2; go_light; simp_all; done)
      | (show Ending.returned (.bool vz) = _; congr 2; go_light; simp_all; intros; omega)
      | (show Ending.returned (.bool false) = _; congr 2; go_light; simp_all; done)
      | (show Ending.returned (.bool false) = _; congr 2; go_light; simp_all; intros; omega)

set_option maxRecDepth 100000 in
set_option maxHeartbeats 1000000 in
theorem rch_4 (id : Int) (key rcd vol : ByteArray) (w : World) (i1 : 1 ≤ id) (i2 : id ≤ 1099511627776) (hv : vol.size ≤ maxLen) (hk : key.size ≤ maxLen) (hr : rcd.size ≤ maxLen) :
    Calls Tryz.prog 48 #[.agg #[.int .i64 4, .int .i64 id, .string key, .string rcd, .string vol]] w fun e w' => e = .returned (.bool (chkB id 0 0 0 400 true key rcd vol)) ∧ Below w.heap.size w w' := by
  obtain ⟨R, hR⟩ : ∃ R, chkB id 0 0 0 400 true key rcd vol = R := ⟨_, rfl⟩
  rw [hR]
  have HV : Hid (∀ W : World, Calls Tryz.prog 68 #[.string vol] W fun e w' => e = .returned (.bool (volB vol)) ∧ W = w') := Lib.hid fun W => rvol_any vol W hv
  have d1 : decide (id < 1) = false := by simp; omega
  have d2 : decide (1099511627776 < id) = false := by simp; omega
  have hn : numB id = true := by unfold numB; rw [decide_eq_true i1, decide_eq_true i2]; rfl
  have hve := isE_dec vol
  obtain ⟨vz, hvz⟩ : ∃ vz : Bool, vol.toList.isEmpty = vz := ⟨_, rfl⟩
  obtain ⟨kn, hkn⟩ : ∃ n, key.size = n := ⟨_, rfl⟩
  obtain ⟨rn, hrn⟩ : ∃ n, rcd.size = n := ⟨_, rfl⟩
  have hve2 : decide (vol.toList = []) = vz := by rw [← hvz]; cases vol.toList <;> simp
  have hr2 : R = (decide (0 ≤ (kn : Int)) && decide ((kn : Int) ≤ 0) && (decide (0 ≤ (rn : Int)) && decide ((rn : Int) ≤ 400)) && volB vol) := by
    rw [← hR, ← hkn, ← hrn]
    simp [chkB, hn, fitB]
  have _h := And.intro hk hr
  clear _h
  unfold maxLen at hk hr
  rw [hkn] at hk
  rw [hrn] at hr
  generalize volB vol = vb at HV hr2
  have HRR := Lib.hid hr2
  have HVZ := Lib.hid hve2
  have BB := Lib.hid (bx_below (bx_start w #[.int .i64 4, .int .i64 id, .string key, .string rcd, .string vol] 52))
  clear hr2 hR hn hve hve2 hv i1 i2
  go_enter Tryz.func48, Tryz.ntmps48
  go_wp2_with fail
  go_quiet (fail)
  go_wp2_with ((go_at_call 68; refine (HV.out _).mono ?_; rintro e w' ⟨rfl, rfl⟩))
  all_goals
    go_ret
    refine ⟨?_, below_drewN BB.out _⟩
    rw [HRR.out]
    clear HV HRR HVZ BB d1 d2
    first
      | (show Ending.returned (.bool vb) = _; congr 2; go_light; simp_all; done)
      | (show Ending.returned (.bool vb) = _; congr 2; go_light; simp_all; intros; omega)
      | (show Ending.returned (.bool false) = _; congr 2; go_light; simp_all; done)
      | (show Ending.returned (.bool false) = _; congr 2; go_light; simp_all; intros; omega)

set_option maxRecDepth 100000 in
set_option maxHeartbeats 1000000 in
theorem rch_5 (id : Int) (key rcd vol : ByteArray) (w : World) (i1 : 1 ≤ id) (i2 : id ≤ 1099511627776) (hv : vol.size ≤ maxLen) (hk : key.size ≤ maxLen) (hr : rcd.size ≤ maxLen) :
    Calls Tryz.prog 48 #[.agg #[.int .i64 5, .int .i64 id, .string key, .string rcd, .string vol]] w fun e w' => e = .returned (.bool (chkB id 0 0 0 0 true key rcd vol)) ∧ Below w.heap.size w w' := by
  obtain ⟨R, hR⟩ : ∃ R, chkB id 0 0 0 0 true key rcd vol = R := ⟨_, rfl⟩
  rw [hR]
  have HV : Hid (∀ W : World, Calls Tryz.prog 68 #[.string vol] W fun e w' => e = .returned (.bool (volB vol)) ∧ W = w') := Lib.hid fun W => rvol_any vol W hv
  have d1 : decide (id < 1) = false := by simp; omega
  have d2 : decide (1099511627776 < id) = false := by simp; omega
  have hn : numB id = true := by unfold numB; rw [decide_eq_true i1, decide_eq_true i2]; rfl
  have hve := isE_dec vol
  obtain ⟨vz, hvz⟩ : ∃ vz : Bool, vol.toList.isEmpty = vz := ⟨_, rfl⟩
  obtain ⟨kn, hkn⟩ : ∃ n, key.size = n := ⟨_, rfl⟩
  obtain ⟨rn, hrn⟩ : ∃ n, rcd.size = n := ⟨_, rfl⟩
  have hve2 : decide (vol.toList = []) = vz := by rw [← hvz]; cases vol.toList <;> simp
  have hr2 : R = (decide (0 ≤ (kn : Int)) && decide ((kn : Int) ≤ 0) && (decide (0 ≤ (rn : Int)) && decide ((rn : Int) ≤ 0)) && volB vol) := by
    rw [← hR, ← hkn, ← hrn]
    simp [chkB, hn, fitB]
  have _h := And.intro hk hr
  clear _h
  unfold maxLen at hk hr
  rw [hkn] at hk
  rw [hrn] at hr
  generalize volB vol = vb at HV hr2
  have HRR := Lib.hid hr2
  have HVZ := Lib.hid hve2
  have BB := Lib.hid (bx_below (bx_start w #[.int .i64 5, .int .i64 id, .string key, .string rcd, .string vol] 52))
  clear hr2 hR hn hve hve2 hv i1 i2
  go_enter Tryz.func48, Tryz.ntmps48
  go_wp2_with fail
  go_quiet (fail)
  go_wp2_with ((go_at_call 68; refine (HV.out _).mono ?_; rintro e w' ⟨rfl, rfl⟩))
  all_goals
    go_ret
    refine ⟨?_, below_drewN BB.out _⟩
    rw [HRR.out]
    clear HV HRR HVZ BB d1 d2
    first
      | (show Ending.returned (.bool vb) = _; congr 2; go_light; simp_all; done)
      | (show Ending.returned (.bool vb) = _; congr 2; go_light; simp_all; intros; omega)
      | (show Ending.returned (.bool false) = _; congr 2; go_light; simp_all; done)
      | (show Ending.returned (.bool false) = _; congr 2; go_light; simp_all; intros; omega)

set_option maxRecDepth 100000 in
set_option maxHeartbeats 1000000 in
theorem rch_6 (id : Int) (key rcd vol : ByteArray) (w : World) (i1 : 1 ≤ id) (i2 : id ≤ 1099511627776) (hv : vol.size ≤ maxLen) (hk : key.size ≤ maxLen) (hr : rcd.size ≤ maxLen) :
    Calls Tryz.prog 48 #[.agg #[.int .i64 6, .int .i64 id, .string key, .string rcd, .string vol]] w fun e w' => e = .returned (.bool (chkB id 0 0 0 400 true key rcd vol)) ∧ Below w.heap.size w w' := by
  obtain ⟨R, hR⟩ : ∃ R, chkB id 0 0 0 400 true key rcd vol = R := ⟨_, rfl⟩
  rw [hR]
  have HV : Hid (∀ W : World, Calls Tryz.prog 68 #[.string vol] W fun e w' => e = .returned (.bool (volB vol)) ∧ W = w') := Lib.hid fun W => rvol_any vol W hv
  have d1 : decide (id < 1) = false := by simp; omega
  have d2 : decide (1099511627776 < id) = false := by simp; omega
  have hn : numB id = true := by unfold numB; rw [decide_eq_true i1, decide_eq_true i2]; rfl
  have hve := isE_dec vol
  obtain ⟨vz, hvz⟩ : ∃ vz : Bool, vol.toList.isEmpty = vz := ⟨_, rfl⟩
  obtain ⟨kn, hkn⟩ : ∃ n, key.size = n := ⟨_, rfl⟩
  obtain ⟨rn, hrn⟩ : ∃ n, rcd.size = n := ⟨_, rfl⟩
  have hve2 : decide (vol.toList = []) = vz := by rw [← hvz]; cases vol.toList <;> simp
  have hr2 : R = (decide (0 ≤ (kn : Int)) && decide ((kn : Int) ≤ 0) && (decide (0 ≤ (rn : Int)) && decide ((rn : Int) ≤ 400)) && volB vol) := by
    rw [← hR, ← hkn, ← hrn]
    simp [chkB, hn, fitB]
  have _h := And.intro hk hr
  clear _h
  unfold maxLen at hk hr
  rw [hkn] at hk
  rw [hrn] at hr
  generalize volB vol = vb at HV hr2
  have HRR := Lib.hid hr2
  have HVZ := Lib.hid hve2
  have BB := Lib.hid (bx_below (bx_start w #[.int .i64 6, .int .i64 id, .string key, .string rcd, .string vol] 52))
  clear hr2 hR hn hve hve2 hv i1 i2
  go_enter Tryz.func48, Tryz.ntmps48
  go_wp2_with fail
  go_quiet (fail)
  go_wp2_with ((go_at_call 68; refine (HV.out _).mono ?_; rintro e w' ⟨rfl, rfl⟩))
  all_goals
    go_ret
    refine ⟨?_, below_drewN BB.out _⟩
    rw [HRR.out]
    clear HV HRR HVZ BB d1 d2
    first
      | (show Ending.returned (.bool vb) = _; congr 2; go_light; simp_all; done)
      | (show Ending.returned (.bool vb) = _; congr 2; go_light; simp_all; intros; omega)
      | (show Ending.returned (.bool false) = _; congr 2; go_light; simp_all; done)
      | (show Ending.returned (.bool false) = _; congr 2; go_light; simp_all; intros; omega)

set_option maxRecDepth 100000 in
set_option maxHeartbeats 1000000 in
theorem rch_7 (id : Int) (key rcd vol : ByteArray) (w : World) (i1 : 1 ≤ id) (i2 : id ≤ 1099511627776) (hv : vol.size ≤ maxLen) (hk : key.size ≤ maxLen) (hr : rcd.size ≤ maxLen) :
    Calls Tryz.prog 48 #[.agg #[.int .i64 7, .int .i64 id, .string key, .string rcd, .string vol]] w fun e w' => e = .returned (.bool (chkB id 0 0 0 400 true key rcd vol)) ∧ Below w.heap.size w w' := by
  obtain ⟨R, hR⟩ : ∃ R, chkB id 0 0 0 400 true key rcd vol = R := ⟨_, rfl⟩
  rw [hR]
  have HV : Hid (∀ W : World, Calls Tryz.prog 68 #[.string vol] W fun e w' => e = .returned (.bool (volB vol)) ∧ W = w') := Lib.hid fun W => rvol_any vol W hv
  have d1 : decide (id < 1) = false := by simp; omega
  have d2 : decide (1099511627776 < id) = false := by simp; omega
  have hn : numB id = true := by unfold numB; rw [decide_eq_true i1, decide_eq_true i2]; rfl
  have hve := isE_dec vol
  obtain ⟨vz, hvz⟩ : ∃ vz : Bool, vol.toList.isEmpty = vz := ⟨_, rfl⟩
  obtain ⟨kn, hkn⟩ : ∃ n, key.size = n := ⟨_, rfl⟩
  obtain ⟨rn, hrn⟩ : ∃ n, rcd.size = n := ⟨_, rfl⟩
  have hve2 : decide (vol.toList = []) = vz := by rw [← hvz]; cases vol.toList <;> simp
  have hr2 : R = (decide (0 ≤ (kn : Int)) && decide ((kn : Int) ≤ 0) && (decide (0 ≤ (rn : Int)) && decide ((rn : Int) ≤ 400)) && volB vol) := by
    rw [← hR, ← hkn, ← hrn]
    simp [chkB, hn, fitB]
  have _h := And.intro hk hr
  clear _h
  unfold maxLen at hk hr
  rw [hkn] at hk
  rw [hrn] at hr
  generalize volB vol = vb at HV hr2
  have HRR := Lib.hid hr2
  have HVZ := Lib.hid hve2
  have BB := Lib.hid (bx_below (bx_start w #[.int .i64 7, .int .i64 id, .string key, .string rcd, .string vol] 52))
  clear hr2 hR hn hve hve2 hv i1 i2
  go_enter Tryz.func48, Tryz.ntmps48
  go_wp2_with fail
  go_quiet (fail)
  go_wp2_with ((go_at_call 68; refine (HV.out _).mono ?_; rintro e w' ⟨rfl, rfl⟩))
  all_goals
    go_ret
    refine ⟨?_, below_drewN BB.out _⟩
    rw [HRR.out]
    clear HV HRR HVZ BB d1 d2
    first
      | (show Ending.returned (.bool vb) = _; congr 2; go_light; simp_all; done)
      | (show Ending.returned (.bool vb) = _; congr 2; go_light; simp_all; intros; omega)
      | (show Ending.returned (.bool false) = _; congr 2; go_light; simp_all; done)
      | (show Ending.returned (.bool false) = _; congr 2; go_light; simp_all; intros; omega)

set_option maxRecDepth 100000 in
set_option maxHeartbeats 1000000 in
theorem rch_low (k id : Int) (key rcd vol : ByteArray) (w : World) (hi : id < 1 ∨ 1099511627776 < id) :
    Calls Tryz.prog 48 #[.agg #[.int .i64 k, .int .i64 id, .string key, .string rcd, .string vol]] w fun e w' => e = .returned (.bool false) ∧ Below w.heap.size w w' := by
  have BB := Lib.hid (bx_below (bx_start w #[.int .i64 k, .int .i64 id, .string key, .string rcd, .string vol] 52))
  by_cases h1 : id < 1
  · have d1 : decide (id < 1) = true := by simpa using h1
    clear hi h1
    go_enter Tryz.func48, Tryz.ntmps48
    go_wp2
    go_ret
    exact ⟨rfl, BB.out⟩
  · have d1 : decide (id < 1) = false := by simpa using h1
    have d2 : decide (1099511627776 < id) = true := by simp; omega
    clear hi h1
    go_enter Tryz.func48, Tryz.ntmps48
    go_wp2
    go_ret
    exact ⟨rfl, BB.out⟩
set_option maxRecDepth 100000 in
set_option maxHeartbeats 1000000 in
theorem rch_none (k id : Int) (key rcd vol : ByteArray) (w : World) (i1 : 1 ≤ id) (i2 : id ≤ 1099511627776) (hk : k < 0 ∨ 7 < k) :
    Calls Tryz.prog 48 #[.agg #[.int .i64 k, .int .i64 id, .string key, .string rcd, .string vol]] w fun e w' => e = .returned (.bool false) ∧ Below w.heap.size w w' := by
  have BB := Lib.hid (bx_below (bx_start w #[.int .i64 k, .int .i64 id, .string key, .string rcd, .string vol] 52))
  have d1 : decide (id < 1) = false := by simp; omega
  have d2 : decide (1099511627776 < id) = false := by simp; omega
  have e0 : (k == 0) = false := by simp; omega
  have e1 : (k == 1) = false := by simp; omega
  have e2 : (k == 2) = false := by simp; omega
  have e3 : (k == 3) = false := by simp; omega
  have e4 : (k == 4) = false := by simp; omega
  have e5 : (k == 5) = false := by simp; omega
  have e6 : (k == 6) = false := by simp; omega
  have e7 : (k == 7) = false := by simp; omega
  clear hk i1 i2
  go_enter Tryz.func48, Tryz.ntmps48
  go_wp2_with fail
  go_quiet (fail)
  go_wp2
  go_ret
  exact ⟨rfl, below_drewN BB.out _⟩
def StrOk (x : Chg) : Prop := x.vol.size ≤ maxLen ∧ x.key.size ≤ maxLen ∧ x.rcd.size ≤ maxLen
theorem numB_false {id : Int} (h : id < 1 ∨ 1099511627776 < id) : numB id = false := by
  unfold numB
  rw [Bool.and_eq_false_iff]
  simp
  omega
theorem rch_any (x : Chg) (w : World) (hs : StrOk x) :
    Calls Tryz.prog 48 #[.agg #[.int .i64 x.kind, .int .i64 x.id, .string x.key, .string x.rcd, .string x.vol]] w fun e w' => e = .returned (.bool (chgB x)) ∧ Below w.heap.size w w' := by
  obtain ⟨k, id, key, rcd, vol⟩ := x
  obtain ⟨hv, hk, hr⟩ := hs
  simp only [chgB] at hv hk hr ⊢
  by_cases hi : id < 1 ∨ 1099511627776 < id
  · have e : chB k id key rcd vol = false := by
      unfold chB chkB
      rw [numB_false hi]
      simp
    rw [e]
    exact rch_low k id key rcd vol w hi
  have i1 : 1 ≤ id := by omega
  have i2 : id ≤ 1099511627776 := by omega
  by_cases h0 : k = 0
  · subst h0
    exact rch_0 id key rcd vol w i1 i2 hv hk hr
  by_cases h1 : k = 1
  · subst h1
    exact rch_1 id key rcd vol w i1 i2 hv hk hr
  by_cases h2 : k = 2
  · subst h2
    exact rch_2 id key rcd vol w i1 i2 hv hk hr
  by_cases h3 : k = 3
  · subst h3
    exact rch_3 id key rcd vol w i1 i2 hv hk hr
  by_cases h4 : k = 4
  · subst h4
    exact rch_4 id key rcd vol w i1 i2 hv hk hr
  by_cases h5 : k = 5
  · subst h5
    exact rch_5 id key rcd vol w i1 i2 hv hk hr
  by_cases h6 : k = 6
  · subst h6
    exact rch_6 id key rcd vol w i1 i2 hv hk hr
  by_cases h7 : k = 7
  · subst h7
    exact rch_7 id key rcd vol w i1 i2 hv hk hr
  have e : chB k id key rcd vol = false := by
    unfold chB
    rw [if_neg h0, if_neg h1, if_neg h2, if_neg h3, if_neg h4, if_neg h5, if_neg h6, if_neg h7]
  rw [e]
  exact rch_none k id key rcd vol w i1 i2 (by omega)
end Go.Proofs.YtoiocnpamplhdaaGreatDoor
