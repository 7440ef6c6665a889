/- History, the reference: a read is valid. -/
import Derived.Test.YtoiocnpamplhdaaGreatDoorHP
namespace Go.Proofs.YtoiocnpamplhdaaGreatDoor
open Go.RowKit

set_option maxRecDepth 100000 in
set_option maxHeartbeats 1000000 in
theorem rvread_any (x : Rdd) (w : World) : Calls Tryz.prog 49 #[.agg #[.int .i64 x.kind, .int .i64 x.id, .string x.key, .string x.ak, .string x.ar, .int .i64 x.code]] w fun e w' => e = .returned (.bool (rdB x)) ∧ Below w.heap.size w w' := by
  obtain ⟨k, id, key, ak, ar, code⟩ := x
  simp only
  have BB := Lib.hid (bx_below (bx_start w #[.int .i64 k, .int .i64 id, .string key, .string ak, .string ar, .int .i64 code] 50))
  by_cases hk : k = 0 ∨ k = 1
  rotate_left
  · have k0 : (k == 0) = false := by simp; omega
    have k1 : (k == 1) = false := by simp; omega
    have k2 : (k != 0) = true := by simp; omega
    have k3 : (k != 1) = true := by simp; omega
    have hkd : (decide (k = 0) || decide (k = 1)) = false := by simp; omega
    simp only [rdB, hkd, Bool.false_and]
    clear hkd hk
    go_enter Tryz.func49, Tryz.ntmps49
    go_wp2
    go_ret
    exact ⟨rfl, BB.out⟩
  have hkd : (decide (k = 0) || decide (k = 1)) = true := by simpa using hk
  have e0 : rdB ⟨k, id, key, ak, ar, code⟩ = (numB id && decide (key.size ≤ 32) && (decide (code = 0) || (decide (ak.size = 0) && decide (ar.size = 0) && decide (code = 6)))) := by
    simp only [rdB, hkd, Bool.true_and]
  rw [e0]
  clear hkd e0
  by_cases i1 : id < 1
  · have d1 : decide (id < 1) = true := by simpa using i1
    have hn : numB id = false := by unfold numB; rw [decide_eq_false (by omega : ¬ 1 ≤ id)]; rfl
    simp only [hn, Bool.false_and]
    clear hn i1
    rcases hk with rfl | rfl
    all_goals
      go_enter Tryz.func49, Tryz.ntmps49
      go_wp2
      go_ret
      exact ⟨rfl, BB.out⟩
  have d1 : decide (id < 1) = false := by simpa using i1
  by_cases i2 : 1099511627776 < id
  · have d2 : decide (1099511627776 < id) = true := by simpa using i2
    have hn : numB id = false := by unfold numB; rw [decide_eq_false (by omega : ¬ id ≤ 1099511627776)]; simp
    simp only [hn, Bool.false_and]
    clear hn i1 i2
    rcases hk with rfl | rfl
    all_goals
      go_enter Tryz.func49, Tryz.ntmps49
      go_wp2
      go_ret
      exact ⟨rfl, BB.out⟩
  have d2 : decide (1099511627776 < id) = false := by simpa using i2
  have hn : numB id = true := by unfold numB; rw [decide_eq_true (by omega : 1 ≤ id), decide_eq_true (by omega : id ≤ 1099511627776)]; rfl
  simp only [hn, Bool.true_and]
  clear hn i1 i2
  by_cases h32 : key.size ≤ 32
  · simp only [h32, decide_true, Bool.true_and]
    have d3 : decide ((32 : Int) < (key.size : Int)) = false := by simp; omega
    have d4 : decide (32 < key.size) = false := by simp; omega
    by_cases hc : code = 0
    · subst hc
      simp only [decide_true, Bool.true_or]
      rcases hk with rfl | rfl
      all_goals
        go_enter Tryz.func49, Tryz.ntmps49
        go_wp2
        go_ret
        exact ⟨rfl, BB.out⟩
    · have hc0 : (code == 0) = false := by simpa using hc
      obtain ⟨R, hR⟩ : ∃ R : Bool, (decide (code = 0) || (decide (ak.size = 0) && decide (ar.size = 0) && decide (code = 6))) = R := ⟨_, rfl⟩
      rw [hR]
      have hR : (decide (ak.toList = []) && decide (ar.toList = []) && decide (code = 6)) = R := by
        rw [← hR, nil_dec ak, nil_dec ar]
        simp [hc]
      have HR := Lib.hid hR
      clear hR hc
      rcases hk with rfl | rfl
      all_goals
        go_enter Tryz.func49, Tryz.ntmps49
        go_wp2
        all_goals
          go_ret
          refine ⟨?_, (Below.refl _ _).alloc (Nat.le_refl _) _⟩
          rw [← HR.out]
          first
            | (show Ending.returned (.bool true) = _; congr 2; simp_all; done)
            | (show Ending.returned (.bool false) = _; congr 2; simp_all; done)
  · simp only [h32, decide_false, Bool.false_and]
    have d3 : decide ((32 : Int) < (key.size : Int)) = true := by simp; omega
    have d4 : decide (32 < key.size) = true := by simp; omega
    rcases hk with rfl | rfl
    all_goals
      go_enter Tryz.func49, Tryz.ntmps49
      go_wp2
      go_ret
      exact ⟨rfl, BB.out⟩
end Go.Proofs.YtoiocnpamplhdaaGreatDoor
