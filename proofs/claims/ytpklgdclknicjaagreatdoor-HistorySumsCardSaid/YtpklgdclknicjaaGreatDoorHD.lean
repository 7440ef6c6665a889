/- History: the reads of a unit are valid. -/
import Derived.Test.YtpklgdclknicjaaGreatDoorHI
namespace Go.Proofs.YtpklgdclknicjaaGreatDoor
open Go.RowKit

def rdB (x : Rdd) : Bool := (decide (x.kind = 0) || decide (x.kind = 1)) && numB x.id && decide (x.key.size ≤ 32) && (decide (x.code = 0) || (decide (x.ak.size = 0) && decide (x.ar.size = 0) && decide (x.code = 6)))
theorem ba_nil {t : ByteArray} (h : t.size = 0) : t = ⟨#[]⟩ := by
  obtain ⟨a⟩ := t
  simp [ByteArray.size] at h
  simp [h]
theorem nil_iff (t : ByteArray) : t.size = 0 ↔ t.toList = [] := by
  constructor
  · intro h; rw [ba_nil h, ba_list]
  · intro h
    rw [ba_list] at h
    simpa using congrArg List.length h
theorem nil_dec (t : ByteArray) : decide (t.size = 0) = decide (t.toList = []) := decide_eq_decide.2 (nil_iff t)

set_option maxRecDepth 100000 in
set_option maxHeartbeats 1000000 in
theorem validRead_any (x : Rdd) (w : World) : Calls Tryz.prog 44 #[.agg #[.int .i64 x.kind, .int .i64 x.id, .string x.key, .string x.ak, .string x.ar, .int .i64 x.code]] w fun e w' => e = .returned (.bool (rdB x)) ∧ Below w.heap.size w w' := by
  obtain ⟨k, id, key, ak, ar, code⟩ := x
  simp only
  have HN : Hid (∀ W : World, Calls Tryz.prog 38 #[.int .i64 id] W fun e w' => e = .returned (.bool (numB id)) ∧ W = w') := Lib.hid fun W => number_any id W
  by_cases hk : k = 0 ∨ k = 1
  · have hkd : (decide (k = 0) || decide (k = 1)) = true := by simpa using hk
    have e0 : rdB ⟨k, id, key, ak, ar, code⟩ = (numB id && decide (key.size ≤ 32) && (decide (code = 0) || (decide (ak.size = 0) && decide (ar.size = 0) && decide (code = 6)))) := by
      simp only [rdB, hkd, Bool.true_and]
    rw [e0]
    have T : ∀ W : World, True := fun _ => trivial
    cases hn : numB id with
    | false =>
      rw [hn] at HN
      simp only [Bool.false_and]
      clear hn e0 hkd T
      rcases hk with rfl | rfl
      all_goals
        go_enter Tryz.func44, Tryz.ntmps44
        go_wp2_with (go_at_call 38; refine (HN.out _).mono ?_; rintro e w' ⟨rfl, rfl⟩)
        go_ret
        exact ⟨rfl, (Below.refl _ _).alloc (Nat.le_refl _) _⟩
    | true =>
      rw [hn] at HN
      simp only [Bool.true_and]
      clear hn e0 hkd T
      by_cases h32 : key.size ≤ 32
      · simp only [h32, decide_true, Bool.true_and]
        by_cases hc : code = 0
        · subst hc
          simp only [decide_true, Bool.true_or]
          rcases hk with rfl | rfl
          all_goals
            go_enter Tryz.func44, Tryz.ntmps44
            go_wp2_with (go_at_call 38; refine (HN.out _).mono ?_; rintro e w' ⟨rfl, rfl⟩)
            go_ret
            exact ⟨rfl, (Below.refl _ _).alloc (Nat.le_refl _) _⟩
        · have hc0 : (code == 0) = false := by simpa using hc
          obtain ⟨R, hR⟩ : ∃ R : Bool, (decide (code = 0) || (decide (ak.size = 0) && decide (ar.size = 0) && decide (code = 6))) = R := ⟨_, rfl⟩
          rw [hR]
          have hR : (decide (ak.toList = []) && decide (ar.toList = []) && decide (code = 6)) = R := by
            rw [← hR, nil_dec ak, nil_dec ar]
            simp [hc]
          have HR := Lib.hid hR
          clear hR hc
          rcases hk with rfl | rfl
          all_goals
            go_enter Tryz.func44, Tryz.ntmps44
            go_wp2_with (go_at_call 38; refine (HN.out _).mono ?_; rintro e w' ⟨rfl, rfl⟩)
            all_goals
              go_ret
              refine ⟨?_, (Below.refl _ _).alloc (Nat.le_refl _) _⟩
              rw [← HR.out]
              first
                | (show Ending.returned (.bool true) = _; congr 2; simp_all; done)
                | (show Ending.returned (.bool false) = _; congr 2; simp_all; done)
      · simp only [h32, decide_false, Bool.false_and]
        have h33 : 32 < key.size := by omega
        rcases hk with rfl | rfl
        all_goals
          go_enter Tryz.func44, Tryz.ntmps44
          go_wp2_with (go_at_call 38; refine (HN.out _).mono ?_; rintro e w' ⟨rfl, rfl⟩)
          go_ret
          exact ⟨rfl, (Below.refl _ _).alloc (Nat.le_refl _) _⟩
  · have k0 : (k == 0) = false := by simp; omega
    have k1 : (k == 1) = false := by simp; omega
    have k2 : (k != 0) = true := by simp; omega
    have k3 : (k != 1) = true := by simp; omega
    have hkd : (decide (k = 0) || decide (k = 1)) = false := by simp; omega
    simp only [rdB, hkd, Bool.false_and]
    clear hkd hk
    go_enter Tryz.func44, Tryz.ntmps44
    go_wp2
    go_ret
    exact ⟨rfl, (Below.refl _ _).alloc (Nat.le_refl _) _⟩
end Go.Proofs.YtpklgdclknicjaaGreatDoor
