/- Contracts of Valid and Most, of the program and of the reference. -/
import Derived.Test.YtehagkkmkbjpcaaProg
import Derived.WalkKit
import Derived.Lib.Hide
import Derived.WalkSpells
import Derived.WalkLawsBesides
import Derived.BigQuiet
import Derived.Deep.QuietTactic
namespace Go.Proofs.Ytehagkkmkbjpcaa
open Go.RowKit

def vldB (l b : Int) : Bool := decide (1 ≤ l ∧ l ≤ 1000 ∧ l ≤ b ∧ b ≤ 1024)
def mostI (l b : Int) : Int := if vldB l b then b / l else 0

theorem vld_iff {l b : Int} : vldB l b = true ↔ (1 ≤ l ∧ l ≤ 1000 ∧ l ≤ b ∧ b ≤ 1024) := by simp [vldB]
theorem vld_not {l b : Int} : vldB l b = false ↔ ¬ (1 ≤ l ∧ l ≤ 1000 ∧ l ≤ b ∧ b ≤ 1024) := by simp [vldB]

theorem valid_any (l b : Int) (w : World) : Calls Try.prog 14 #[.int .i64 l, .int .i64 b] w fun e w' => e = .returned (.bool (vldB l b)) ∧ w = w' := by
  by_cases h1 : 1 ≤ l <;> by_cases h2 : l ≤ 1000 <;> by_cases h3 : l ≤ b <;> by_cases h4 : b ≤ 1024 <;>
  · go_enter Try.func14, Try.ntmps14
    go_wp2
    go_ret
    exact ⟨by simp [vldB, h1, h2, h3, h4], rfl⟩

theorem rvalid_any (l b : Int) (w : World) : Calls Try.prog 15 #[.int .i64 l, .int .i64 b] w fun e w' => e = .returned (.bool (vldB l b)) ∧ w = w' := by
  by_cases h1 : 1 ≤ l <;> by_cases h2 : l ≤ 1000 <;> by_cases h3 : l ≤ b <;> by_cases h4 : b ≤ 1024 <;>
  · go_enter Try.func15, Try.ntmps15
    go_wp2
    go_ret
    exact ⟨by simp [vldB, h1, h2, h3, h4], rfl⟩

theorem most_any (l b : Int) (w : World) : Calls Try.prog 16 #[.int .i64 l, .int .i64 b] w fun e w' => e = .returned (.int .i64 (mostI l b)) ∧ w = w' := by
  by_cases hv : vldB l b = true
  · obtain ⟨h1, h2, h3, h4⟩ := vld_iff.1 hv
    have H := Lib.hid hv
    have e : mostI l b = b / l := by simp [mostI, hv]
    have E := Lib.hid e
    clear e hv
    go_enter Try.func16, Try.ntmps16
    go_wp2_with (go_at_call 14; refine (valid_any _ _ _).mono ?_; rintro e w' ⟨rfl, rfl⟩; rw [H.out])
    go_ret
    exact ⟨by rw [E.out]; rfl, rfl⟩
  · have hv : vldB l b = false := by simpa using hv
    have H := Lib.hid hv
    have e : mostI l b = 0 := by simp [mostI, hv]
    have E := Lib.hid e
    clear e hv
    go_enter Try.func16, Try.ntmps16
    go_wp2_with (go_at_call 14; refine (valid_any _ _ _).mono ?_; rintro e w' ⟨rfl, rfl⟩; rw [H.out])
    go_ret
    exact ⟨by rw [E.out]; rfl, rfl⟩

theorem rmost_any (l b : Int) (w : World) : Calls Try.prog 17 #[.int .i64 l, .int .i64 b] w fun e w' => e = .returned (.int .i64 (mostI l b)) ∧ w = w' := by
  by_cases hv : vldB l b = true
  · obtain ⟨h1, h2, h3, h4⟩ := vld_iff.1 hv
    have H := Lib.hid hv
    have e : mostI l b = b / l := by simp [mostI, hv]
    have E := Lib.hid e
    clear e hv
    go_enter Try.func17, Try.ntmps17
    go_wp2_with (go_at_call 15; refine (rvalid_any _ _ _).mono ?_; rintro e w' ⟨rfl, rfl⟩; rw [H.out])
    go_ret
    exact ⟨by rw [E.out]; rfl, rfl⟩
  · have hv : vldB l b = false := by simpa using hv
    have H := Lib.hid hv
    have e : mostI l b = 0 := by simp [mostI, hv]
    have E := Lib.hid e
    clear e hv
    go_enter Try.func17, Try.ntmps17
    go_wp2_with (go_at_call 15; refine (rvalid_any _ _ _).mono ?_; rintro e w' ⟨rfl, rfl⟩; rw [H.out])
    go_ret
    exact ⟨by rw [E.out]; rfl, rfl⟩
end Go.Proofs.Ytehagkkmkbjpcaa
