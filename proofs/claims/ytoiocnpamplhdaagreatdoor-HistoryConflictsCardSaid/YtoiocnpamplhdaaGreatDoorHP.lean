/- History, the reference: names of volumes, reads, changes. -/
import Derived.Test.YtoiocnpamplhdaaGreatDoorHO
namespace Go.Proofs.YtoiocnpamplhdaaGreatDoor
open Go.RowKit

theorem volB_first {s : ByteArray} (h1 : 0 < s.size) (h : ¬ (65 ≤ bAt s 0 ∧ bAt s 0 ≤ 90)) : volB s = false := by
  unfold volB
  rw [range_all_false h1 (by simp [vokB]; omega)]
  simp
set_option maxRecDepth 100000 in
set_option maxHeartbeats 400000 in
theorem rvol_any (s : ByteArray) (w : World) (hs : s.size ≤ maxLen) : Calls Tryz.prog 68 #[.string s] w fun e w' => e = .returned (.bool (volB s)) ∧ w = w' := by
  unfold maxLen at hs
  obtain ⟨R, hR⟩ : ∃ R, volB s = R := ⟨_, rfl⟩
  rw [hR]
  by_cases h1 : 0 < s.size
  rotate_left
  · have hr : R = false := by rw [← hR]; unfold volB; rw [decide_eq_false (by omega : ¬ 1 ≤ s.size)]; rfl
    have HR := Lib.hid hr
    have d1 : decide ((s.size : Int) < 1) = true := by simp; omega
    have d2 : s.size = 0 := by omega
    clear hR hr h1
    go_enter Tryz.func68, Tryz.ntmps68
    go_wp2
    go_ret
    exact ⟨by rw [HR.out]; rfl, rfl⟩
  by_cases h8 : s.size ≤ 8
  rotate_left
  · have hr : R = false := by rw [← hR]; unfold volB; rw [decide_eq_false (by omega : ¬ s.size ≤ 8)]; simp
    have HR := Lib.hid hr
    have d1 : decide ((s.size : Int) < 1) = false := by simp; omega
    have d2 : decide ((8 : Int) < (s.size : Int)) = true := by simp; omega
    have d3 : decide (8 < s.size) = true := by simp; omega
    have d4 : ¬ s.size = 0 := by omega
    clear hR hr
    go_enter Tryz.func68, Tryz.ntmps68
    go_wp2
    go_ret
    exact ⟨by rw [HR.out]; rfl, rfl⟩
  have d1 : decide ((s.size : Int) < 1) = false := by simp; omega
  have d2 : decide ((8 : Int) < (s.size : Int)) = false := by simp; omega
  have d3 : decide (8 < s.size) = false := by simp; omega
  have d4 : ¬ s.size = 0 := by omega
  obtain ⟨b, hb⟩ : ∃ b, (s[0]'h1).toNat = b := ⟨_, rfl⟩
  have hbb : bAt s 0 = b := by rw [bAt_get s 0 h1, hb]
  obtain ⟨z, hz⟩ : ∃ z : Int, (b : Int) = z := ⟨_, rfl⟩
  by_cases l1 : 65 ≤ z ∧ z ≤ 90
  rotate_left
  · have hr : R = false := by rw [← hR]; exact volB_first h1 (by rw [hbb]; omega)
    have HR := Lib.hid hr
    by_cases l2 : z < 65
    · have l3 : decide (z < 65) = true := by simpa using l2
      clear hR hr l1 hbb
      go_enter Tryz.func68, Tryz.ntmps68
      go_wp2
      go_ret
      exact ⟨by rw [HR.out]; rfl, rfl⟩
    · have l3 : decide (z < 65) = false := by simpa using l2
      have l4 : decide (90 < z) = true := by simp; omega
      clear hR hr l1 l2 hbb
      go_enter Tryz.func68, Tryz.ntmps68
      go_wp2
      go_ret
      exact ⟨by rw [HR.out]; rfl, rfl⟩
  obtain ⟨l2, l3⟩ := l1
  have H0 : Hid (65 ≤ bAt s 0 ∧ bAt s 0 ≤ 90) := Lib.hid (by rw [hbb]; omega)
  have HR := Lib.hid hR
  have l4 : decide (z < 65) = false := by simp; omega
  have l5 : decide (90 < z) = false := by simp; omega
  clear hR hbb
  go_enter Tryz.func68, Tryz.ntmps68
  go_wp2
  go_loop [3] (fun i => ∃ j : Nat, j ≤ s.size ∧ i = .int .i64 j ∧ ∀ t, t < j → vokB t (bAt s t) = true) (fun i => s.size - (intOf i).toNat)
  case atStart => exact ⟨0, Nat.zero_le _, rfl, fun t h => absurd h (by omega)⟩
  case round =>
    clear hb hz l2 l3 l4 l5
    obtain ⟨j, hj, rfl, hall⟩ := hrel
    have HA := Lib.hid hall
    clear hall
    by_cases hlt : j < s.size
    · obtain ⟨b', hb⟩ : ∃ b, (s[j]).toNat = b := ⟨_, rfl⟩
      have hbb : bAt s j = b' := by rw [bAt_get s j hlt, hb]
      have HBB := Lib.hid hbb
      obtain ⟨z', hz⟩ : ∃ z : Int, (b' : Int) = z := ⟨_, rfl⟩
      have HZ := Lib.hid hz
      have hno : vokB j b' = false → R = false := fun h => by rw [← HR.out]; unfold volB; rw [range_all_false hlt (by rw [HBB.out]; exact h)]; simp
      have HNO := Lib.hid hno
      have hyes : vokB j b' = true → ∀ t, t < j + 1 → vokB t (bAt s t) = true := fun h t ht => by
        by_cases e : t = j
        · subst e; rw [HBB.out]; exact h
        · exact HA.out t (by omega)
      have HYES := Lib.hid hyes
      have i0 : (0 : Int) ≤ (j : Int) := by omega
      have i1 : (j : Int) < (s.size : Int) := by omega
      clear hno hyes hbb
      by_cases k1 : z' < 65
      · have k2 : decide (z' < 65) = true := by simpa using k1
        by_cases m1 : z' < 48
        · have m2 : decide (z' < 48) = true := by simpa using m1
          clear k1 m1
          go_wp2
          go_ret
          exact ⟨by rw [HNO.out (by have := HZ.out; have m := of_decide_eq_true m2; simp [vokB]; omega)]; rfl, rfl⟩
        · have m2 : decide (z' < 48) = false := by simpa using m1
          by_cases m3 : 57 < z'
          · have m4 : decide (57 < z') = true := by simpa using m3
            clear m1
            go_wp2
            go_ret
            exact ⟨by rw [HNO.out (by have := HZ.out; simp [vokB]; omega)]; rfl, rfl⟩
          · have m4 : decide (57 < z') = false := by simpa using m3
            have hj0 : j ≠ 0 := by
              rintro rfl
              have := H0.out; have e1 := HBB.out; have e2 := HZ.out
              omega
            have HJ0 := Lib.hid hj0
            have M1 := Lib.hid m1
            have M3 := Lib.hid m3
            clear m1 m3 hj0
            go_wp2
            go_round
            case rel => exact ⟨j + 1, by omega, by go_num, HYES.out (by have := HZ.out; have := M1.out; have := M3.out; have := HJ0.out; simp [vokB]; omega)⟩
            case measure => simp [intOf]; omega
      · have k2 : decide (z' < 65) = false := by simpa using k1
        by_cases m1 : 90 < z'
        · have m2 : decide (90 < z') = true := by simpa using m1
          have m3 : decide (z' < 48) = false := by simp; omega
          have m4 : decide (57 < z') = true := by simp; omega
          clear k1
          go_wp2
          go_ret
          exact ⟨by rw [HNO.out (by have := HZ.out; simp [vokB]; omega)]; rfl, rfl⟩
        · have m2 : decide (90 < z') = false := by simpa using m1
          have K1 := Lib.hid k1
          have M1 := Lib.hid m1
          clear k1 m1
          go_wp2
          go_round
          case rel => exact ⟨j + 1, by omega, by go_num, HYES.out (by have := HZ.out; have := M1.out; have := K1.out; simp [vokB]; omega)⟩
          case measure => simp [intOf]; omega
    · have hr : R = true := by
        rw [← HR.out]; unfold volB
        rw [range_all_true fun t ht => HA.out t (by omega)]
        simp; omega
      have HRR := Lib.hid hr
      clear hr
      go_wp2
      go_ret
      exact ⟨by rw [HRR.out]; rfl, rfl⟩
end Go.Proofs.YtoiocnpamplhdaaGreatDoor
