/- History, awake: the numbers of an archive, behind pointers. -/
import Derived.Test.YtpklgdclknicjaaGreatDoorLA
namespace Go.Proofs.YtpklgdclknicjaaGreatDoor
open Go.RowKit

theorem archNum_yes (n : Int) (h1 : 0 ≤ n) (h2 : n ≤ 1099511627776) (w : World) : Calls Tryz.prog 119 #[.int .i64 n] w fun e w' => e = .returned (.bool true) ∧ w = w' := by
  have d1 : decide (0 ≤ n) = true := by simpa using h1
  have d2 : decide (n ≤ 1099511627776) = true := by simpa using h2
  clear h1 h2
  go_enter Tryz.func119, Tryz.ntmps119
  go_wp2
  go_ret
  exact ⟨rfl, rfl⟩
theorem av1_no (b o : Nat) (n : Int) (w : World) (hc : w.cell? ⟨b, o, none⟩ = some (.int .i64 n)) (h1 : 0 ≤ n) (h2 : n ≤ 1099511627776) :
    Calls Tryz.prog 118 #[.pointer (some ⟨b, o, none⟩)] w fun e w' => e = .returned (.bool false) ∧ w = w' := by
  have HN := Lib.hid fun W => archNum_yes n h1 h2 W
  clear h1 h2
  go_enter Tryz.func118, Tryz.ntmps118
  go_wp2_with (go_at_call 119; refine (HN.out _).mono ?_; rintro e w' ⟨rfl, rfl⟩)
  go_ret
  exact ⟨rfl, rfl⟩
/-- the slice holds pointers to numbers that can be stored -/
def Ptrs (w : World) (g o n : Nat) : Prop := ∀ j, j < n → ∃ b q v, w.cell? ⟨g, o + j, none⟩ = some (.pointer (some ⟨b, q, none⟩)) ∧ w.cell? ⟨b, q, none⟩ = some (.int .i64 v) ∧ 0 ≤ v ∧ v ≤ 1099511627776
set_option maxRecDepth 100000 in
theorem ptrs_index (g o n c : Nat) (w : World) (hp : Ptrs w g o n) (hn : n ≤ 9223372036854775807) :
    Calls Tryz.prog 140 #[.slice (some ⟨g, o, none⟩) n c, .func (.func 118) #[] #[]] w fun e w' => e = .returned (.int .i64 (-1)) ∧ w = w' := by
  have HP := Lib.hid hp
  clear hp
  go_enter Tryz.func140, Tryz.ntmps140
  go_wp2
  go_loop [8] (fun i => ∃ j : Nat, j ≤ n ∧ i = .int .i64 j) (fun i => n - (intOf i).toNat)
  case atStart => exact ⟨0, Nat.zero_le _, rfl⟩
  case round =>
    obtain ⟨j, hj, rfl⟩ := hrel
    by_cases hlt : j < n
    · obtain ⟨b, q, v, c1, c2, v1, v2⟩ := HP.out j hlt
      have HA := Lib.hid (av1_no b q v w c2 v1 v2)
      clear c2 v1 v2
      go_wp2_with fail
      refine HA.out.mono ?_
      rintro e w' ⟨rfl, rfl⟩
      go_wp2
      go_round
      case rel => exact ⟨j + 1, by omega, by go_num⟩
      case measure => simp [intOf]; omega
    · go_wp2
      go_ret
      exact ⟨rfl, rfl⟩
set_option maxRecDepth 100000 in
theorem ptrs_any (g o n c : Nat) (w : World) (hp : Ptrs w g o n) (hn : n ≤ 9223372036854775807) :
    Calls Tryz.prog 117 #[.slice (some ⟨g, o, none⟩) n c, .func (.func 118) #[] #[]] w fun e w' => e = .returned (.bool false) ∧ w = w' := by
  have HI := Lib.hid (ptrs_index g o n c w hp hn)
  clear hp
  go_enter Tryz.func117, Tryz.ntmps117
  go_wp2_with (go_at_call 140; refine HI.out.mono ?_; rintro e w' ⟨rfl, rfl⟩)
  go_ret
  exact ⟨rfl, rfl⟩
end Go.Proofs.YtpklgdclknicjaaGreatDoor
