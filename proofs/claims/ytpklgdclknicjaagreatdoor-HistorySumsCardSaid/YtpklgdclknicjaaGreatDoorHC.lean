/- History: small contracts: number, last, fits, volumeName. -/
import Derived.Test.YtpklgdclknicjaaGreatDoorProg
import Derived.Test.YtpklgdclknicjaaGreatDoorHA
import Derived.Test.YtpklgdclknicjaaGreatDoorBytes
import Derived.Test.YtpklgdclknicjaaGreatDoorBlk
import Derived.Test.YtpklgdclknicjaaGreatDoorAppend
import Derived.WalkSpells
import Derived.WalkLawsBesides
import Derived.BigQuiet
import Derived.Deep.QuietTactic
import Derived.Lib.UnsafeStr
namespace Go.Proofs.YtpklgdclknicjaaGreatDoor
open Go.RowKit

def numB (n : Int) : Bool := decide (1 ≤ n) && decide (n ≤ 1099511627776)
theorem numB_true {n : Int} (h : numB n = true) : 1 ≤ n ∧ n ≤ 1099511627776 := by simpa [numB] using h

theorem number_any (n : Int) (w : World) : Calls Tryz.prog 38 #[.int .i64 n] w fun e w' => e = .returned (.bool (numB n)) ∧ w = w' := by
  by_cases h1 : 1 ≤ n
  · by_cases h2 : n ≤ 1099511627776
    · go_enter Tryz.func38, Tryz.ntmps38
      go_wp2
      go_ret
      exact ⟨by simp [numB, h1, h2], rfl⟩
    · go_enter Tryz.func38, Tryz.ntmps38
      go_wp2
      go_ret
      exact ⟨by simp [numB, h1, h2], rfl⟩
  · go_enter Tryz.func38, Tryz.ntmps38
    go_wp2
    go_ret
    exact ⟨by simp [numB]; omega, rfl⟩

theorem last_any (x : Com) (w : World) (h1 : 1 ≤ x.num) (h2 : x.num ≤ 1099511627776) (h3 : x.cn ≤ 300) :
    Calls Tryz.prog 24 #[comV x] w fun e w' => e = .returned (.int .i64 (x.num + x.cn - 1)) ∧ Below w.heap.size w w' := by
  unfold comV
  go_enter Tryz.func24, Tryz.ntmps24
  go_wp2
  go_ret
  exact ⟨rfl, (Below.refl _ _).alloc (Nat.le_refl _) _⟩

theorem fits_any (lo hi : Int) (s : ByteArray) (w : World) :
    Calls Tryz.prog 62 #[.agg #[.int .i64 lo, .int .i64 hi], .string s] w fun e w' => e = .returned (.bool (decide (lo ≤ (s.size : Int)) && decide ((s.size : Int) ≤ hi))) ∧ Below w.heap.size w w' := by
  by_cases h1 : lo ≤ (s.size : Int)
  · by_cases h2 : (s.size : Int) ≤ hi
    all_goals
      go_enter Tryz.func62, Tryz.ntmps62
      go_wp2
      go_ret
      exact ⟨by simp [h1, h2], (Below.refl _ _).alloc (Nat.le_refl _) _⟩
  · go_enter Tryz.func62, Tryz.ntmps62
    go_wp2
    go_ret
    exact ⟨by simp; omega, (Below.refl _ _).alloc (Nat.le_refl _) _⟩

/-! ### the name of a volume -/
def bAt (s : ByteArray) (i : Nat) : Nat := if h : i < s.size then (s[i]).toNat else 0
theorem bAt_get (s : ByteArray) (i : Nat) (h : i < s.size) : bAt s i = (s[i]).toNat := by simp [bAt, h]
def vokB (i b : Nat) : Bool := (decide (65 ≤ b) && decide (b ≤ 90)) || (decide (48 ≤ b) && decide (b ≤ 57) && decide (i ≠ 0))
def volB (s : ByteArray) : Bool := decide (1 ≤ s.size) && decide (s.size ≤ 8) && (List.range s.size).all fun i => vokB i (bAt s i)
theorem range_all_false {p : Nat → Bool} {n j : Nat} (hj : j < n) (h : p j = false) : (List.range n).all p = false := by
  rw [List.all_eq_false]
  exact ⟨j, List.mem_range.2 hj, by simp [h]⟩
theorem range_all_true {p : Nat → Bool} {n : Nat} (h : ∀ j, j < n → p j = true) : (List.range n).all p = true := by
  rw [List.all_eq_true]
  exact fun j hj => h j (List.mem_range.1 hj)
theorem conv_bytes (W : World) (t : ByteArray) : ∃ c W', (convert 9 89 (.string t)).run Tryz.prog W = .ok (.slice (some ⟨W.heap.size, 0, none⟩) t.size c) W' ∧
    (∀ j (h : j < t.size), W'.cell? ⟨W.heap.size, j, none⟩ = some (.int .u8 ((t[j]).toNat : Int))) ∧ W.grownBy W' none := by
  refine ⟨_, _, run_bytes_of_string (P := Tryz.prog) W 9 89 5 t Tryz.underlying9 Tryz.underlying89 Tryz.underlying5, fun j h => ?_, ?_⟩
  · rw [show W.heap.size = W.drew.heap.size from rfl, World.cell?_alloc_mark]
    exact bytesRow_at t _ j h
  · exact ⟨rfl, rfl, rfl, by simp, fun i hi _ => Below.heap_alloc W.drew _ i hi⟩

set_option maxRecDepth 100000 in
set_option maxHeartbeats 400000 in
theorem volumeName_any (s : ByteArray) (w : World) (hs : s.size ≤ maxLen) : Calls Tryz.prog 63 #[.string s] w fun e w' => e = .returned (.bool (volB s)) ∧ Below w.heap.size w w' := by
  unfold maxLen at hs
  obtain ⟨c, W', hrun, hcells, hgr⟩ := conv_bytes w s
  have HC := Lib.hid hcells
  have HG := Lib.hid hgr
  clear hcells hgr
  obtain ⟨R, hR⟩ : ∃ R, volB s = R := ⟨_, rfl⟩
  rw [hR]
  have HR := Lib.hid hR
  clear hR
  go_enter Tryz.func63, Tryz.ntmps63
  go_wp2
  clear hrun
  go_loop [10] (fun i => ∃ j : Nat, j ≤ s.size ∧ i = .int .i64 j ∧ ∀ t, t < j → vokB t (bAt s t) = true) (fun i => s.size - (intOf i).toNat)
  case atStart => exact ⟨0, Nat.zero_le _, rfl, fun t h => absurd h (by omega)⟩
  case round =>
    obtain ⟨j, hj, rfl, hall⟩ := hrel
    have HA := Lib.hid hall
    clear hall
    by_cases hlt : j < s.size
    · have hc := HC.out j hlt
      obtain ⟨b, hb⟩ : ∃ b, (s[j]).toNat = b := ⟨_, rfl⟩
      have hbb : bAt s j = b := by rw [bAt_get s j hlt, hb]
      have HBB := Lib.hid hbb
      have hb3 := (s[j]).toNat_lt
      rw [hb] at hb3 hc
      clear hb hbb
      have hno : vokB j b = false → R = false := fun h => by rw [← HR.out]; unfold volB; rw [range_all_false hlt (by rw [HBB.out]; exact h)]; simp
      have HNO := Lib.hid hno
      have hyes : vokB j b = true → ∀ t, t < j + 1 → vokB t (bAt s t) = true := fun h t ht => by
        by_cases e : t = j
        · subst e; rw [HBB.out]; exact h
        · exact HA.out t (by omega)
      have HYES := Lib.hid hyes
      clear hno hyes
      obtain ⟨z, hz⟩ : ∃ z : Int, (b : Int) = z := ⟨_, rfl⟩
      rw [hz] at hc
      have HZ := Lib.hid hz
      clear hz
      by_cases l1 : 65 ≤ z ∧ z ≤ 90
      · obtain ⟨l1, l2⟩ := l1
        go_wp2
        go_round
        case rel => exact ⟨j + 1, by omega, by go_num, HYES.out (by have := HZ.out; simp [vokB]; omega)⟩
        case measure => simp [intOf]; omega
      · by_cases d1 : 48 ≤ z ∧ z ≤ 57
        · obtain ⟨d1, d2⟩ := d1
          clear l1
          have l1 : z < 65 := by omega
          by_cases hz : j = 0
          · subst hz
            go_wp2
            go_ret
            exact ⟨by rw [HNO.out (by have := HZ.out; simp [vokB]; omega)]; rfl, (Below.refl w.heap.size w).grown HG.out (Nat.le_refl _) (by rintro k ⟨⟩)⟩
          · have hz' : ((j : Int) == 0) = false := by simp; omega
            go_wp2
            go_round
            case rel => exact ⟨j + 1, by omega, by go_num, HYES.out (by have := HZ.out; simp [vokB]; omega)⟩
            case measure => simp [intOf]; omega
        · have hf : R = false := HNO.out (by have := HZ.out; simp [vokB]; omega)
          have HF := Lib.hid hf
          clear hf
          by_cases k1 : 65 ≤ z
          · have k2 : 90 < z := by omega
            have k3 : 57 < z := by omega
            have k4 : 48 ≤ z := by omega
            have k5 : decide (z ≤ 90) = false := by simp; omega
            have k6 : decide (z ≤ 57) = false := by simp; omega
            clear l1 d1
            go_wp2
            go_ret
            exact ⟨by rw [HF.out]; rfl, (Below.refl w.heap.size w).grown HG.out (Nat.le_refl _) (by rintro k ⟨⟩)⟩
          · have k1' : z < 65 := by omega
            by_cases k2 : 48 ≤ z
            · have k3 : 57 < z := by omega
              have k6 : decide (z ≤ 57) = false := by simp; omega
              clear l1 d1 k1
              go_wp2
              go_ret
              exact ⟨by rw [HF.out]; rfl, (Below.refl w.heap.size w).grown HG.out (Nat.le_refl _) (by rintro k ⟨⟩)⟩
            · have k3 : z < 48 := by omega
              clear l1 d1 k1 k2
              go_wp2
              go_ret
              exact ⟨by rw [HF.out]; rfl, (Below.refl w.heap.size w).grown HG.out (Nat.le_refl _) (by rintro k ⟨⟩)⟩
    · obtain rfl : j = s.size := by omega
      have hr : R = (decide (1 ≤ s.size) && decide (s.size ≤ 8)) := by rw [← HR.out]; unfold volB; rw [range_all_true HA.out]; simp
      have HRR := Lib.hid hr
      clear hr
      by_cases h1 : 1 ≤ s.size
      · by_cases h2 : s.size ≤ 8
        all_goals
          go_wp2
          go_ret
          exact ⟨by rw [HRR.out]; simp [h1, h2]; omega, (Below.refl w.heap.size w).grown HG.out (Nat.le_refl _) (by rintro k ⟨⟩)⟩
      · go_wp2
        go_ret
        exact ⟨by rw [HRR.out]; simp; omega, (Below.refl w.heap.size w).grown HG.out (Nat.le_refl _) (by rintro k ⟨⟩)⟩
end Go.Proofs.YtpklgdclknicjaaGreatDoor
