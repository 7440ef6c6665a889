/- hex of the reference. -/
import Derived.Test.YtphpkmjobhohfaaGreatDoorB
namespace Go.Proofs.YtphpkmjobhohfaaGreatDoor
open Go.RowKit

def hexDg : ByteArray := ⟨#[48, 49, 50, 51, 52, 53, 54, 55, 56, 57, 97, 98, 99, 100, 101, 102]⟩
def bAt (s : ByteArray) (j : Nat) : Nat := (s.data.toList.getD j 0).toNat
/-- the first j bytes of s in hexadecimal -/
def hexT (s : ByteArray) : Nat → ByteArray
  | 0 => ⟨#[]⟩
  | j + 1 => hexT s j ++ hexDg.extract (bAt s j / 16) (bAt s j / 16 + 1) ++ hexDg.extract (bAt s j % 16) (bAt s j % 16 + 1)
theorem bAt_get (s : ByteArray) (j : Nat) (h : j < s.size) : (s[j]).toNat = bAt s j := by
  unfold bAt
  rw [List.getD_eq_getElem?_getD, List.getElem?_eq_getElem (by rw [ba_len]; exact h)]
  rfl
theorem hexT_size (s : ByteArray) : ∀ j, (hexT s j).size ≤ 2 * j
  | 0 => by show (0 : Nat) ≤ 0; omega
  | j + 1 => by
    have := hexT_size s j
    simp only [hexT, ByteArray.size_append, ByteArray.size_extract]
    omega

set_option maxRecDepth 100000 in
set_option maxHeartbeats 1000000 in
theorem rhex_any (s : ByteArray) (hs : s.size ≤ 100) (w : World) : Calls Tryz.prog 11 #[.string s] w fun e w' => e = .returned (.string (hexT s s.size)) ∧ ∃ d, w' = w.drewN d := by
  go_enter Tryz.func11, Tryz.ntmps11
  go_wp2
  go_loopw [4, 5] (fun o i wr => ∃ j : Nat, j ≤ s.size ∧ i = .int .i64 j ∧ o = .string (hexT s j) ∧ ∃ d, wr = w.drewN d) (fun _ i _ => s.size - (intOf i).toNat)
  case atStart => exact ⟨0, Nat.zero_le _, rfl, rfl, 0, rfl⟩
  case round =>
    obtain ⟨j, hj, rfl, rfl, d, rfl⟩ := hrel
    by_cases hlt : j < s.size
    · obtain ⟨b, hb⟩ : ∃ b, (s[j]).toNat = b := ⟨_, rfl⟩
      have hb2 : bAt s j = b := by rw [← bAt_get s j hlt, hb]
      have hb3 := (s[j]).toNat_lt
      rw [hb] at hb3
      obtain ⟨D1, hD1⟩ : ∃ D, hexDg.extract (b / 16) (b / 16 + 1) = D := ⟨_, rfl⟩
      obtain ⟨D2, hD2⟩ : ∃ D, hexDg.extract (b % 16) (b % 16 + 1) = D := ⟨_, rfl⟩
      have HT : Hid (hexT s (j + 1) = hexT s j ++ D1 ++ D2) := Lib.hid (by simp only [hexT, hb2, hD1, hD2])
      have z0 := hexT_size s j
      have z1 : D1.size ≤ 1 := by rw [← hD1, ByteArray.size_extract]; omega
      have z2 : D2.size ≤ 1 := by rw [← hD2, ByteArray.size_extract]; omega
      obtain ⟨T, hT⟩ : ∃ T, hexT s j = T := ⟨_, rfl⟩
      rw [hT] at HT z0 ⊢
      have z3 : T.size + D1.size ≤ 9223372036854775807 := by omega
      have z4 : T.size + D1.size + D2.size ≤ 9223372036854775807 := by omega
      unfold hexDg at hD1 hD2
      have i0 : (0 : Int) ≤ (j : Int) := by omega
      have i1 : (j : Int) < (s.size : Int) := by omega
      have a1 : IntKind.u8.wrap ((b : Int) / 16) = ((b / 16 : Nat) : Int) := by rw [IntKind.wrap_u8]; omega
      have a2 : IntKind.u8.wrap (((b / 16 : Nat) : Int) + 1) = ((b / 16 + 1 : Nat) : Int) := by rw [IntKind.wrap_u8]; omega
      have a3 : IntKind.u8.wrap ((b : Int) % 16) = ((b % 16 : Nat) : Int) := by rw [IntKind.wrap_u8]; omega
      have a4 : IntKind.u8.wrap (((b % 16 : Nat) : Int) + 1) = ((b % 16 + 1 : Nat) : Int) := by rw [IntKind.wrap_u8]; omega
      have d1 : decide (j < s.size) = true := by simp [hlt]
      clear hb2 hT z0 z1 z2
      go_wp2
      go_quiet (fail)
      go_wp2
      go_roundw
      case rel => exact ⟨j + 1, by omega, by go_num, by rw [HT.out], _, rfl⟩
      case measure => simp [intOf]; omega
    · obtain rfl : j = s.size := by omega
      go_wp2
      go_ret
      exact ⟨rfl, d, rfl⟩
end Go.Proofs.YtphpkmjobhohfaaGreatDoor
