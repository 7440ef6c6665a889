/- decimal and hex of the reference. -/
import Derived.Test.YtphpkmjobhohfaaGreatDoorA
namespace Go.Proofs.YtphpkmjobhohfaaGreatDoor
open Go.RowKit

set_option maxRecDepth 100000 in
set_option maxHeartbeats 1000000 in
theorem rdecimal_any (n : Int) (h0 : -9223372036854775807 ≤ n) (h1 : n ≤ 9223372036854775807) (w : World) :
    Calls Tryz.prog 10 #[.int .i64 n] w fun e w' => e = .returned (.string ⟨(Lib.itoa n).toArray⟩) ∧ Below w.heap.size w w' := by
  by_cases hn : n < 0
  · obtain ⟨m, hm⟩ : ∃ m : Nat, n.natAbs = m := ⟨_, rfl⟩
    obtain ⟨t, ht⟩ : ∃ t : ByteArray, t = ⟨(Lib.decDigits m).toArray⟩ := ⟨_, rfl⟩
    have HC : Hid (∀ W : World, Calls Tryz.prog 28 #[.int .i64 m] W fun e w' => e = .returned (.string t) ∧ Below W.heap.size W w') := Lib.hid (fun W => by rw [ht]; exact rDecimal_any m (by omega) W)
    have HD : Hid ((⟨(Lib.itoa n).toArray⟩ : ByteArray) = ⟨#[45]⟩ ++ t) := Lib.hid (by
      apply ba_ext
      rw [ba_app, ht, Lib.itoa, if_pos hn, hm]; rfl)
    have hts : (⟨#[45]⟩ : ByteArray).size + t.size ≤ 9223372036854775807 := by
      have h1 : t.size ≤ 19 := by rw [ht]; show (Lib.decDigits m).toArray.size ≤ 19; rw [List.size_toArray]; exact dec_len 18 _ (by omega)
      have h2 : (⟨#[45]⟩ : ByteArray).size = 1 := rfl
      omega
    have q1 : IntKind.i64.wrap (-n) = (m : Int) := by rw [IntKind.wrap_i64]; omega
    have d1 : decide (n < 0) = true := by simpa using hn
    clear ht hm
    go_enter Tryz.func10, Tryz.ntmps10
    go_wp2_with fail
    refine (HC.out _).mono ?_
    rintro e w2 ⟨rfl, hb2⟩
    have B2 := Lib.hid hb2
    clear hb2
    go_wp2
    go_ret
    exact ⟨by rw [HD.out]; rfl, B2.out⟩
  · obtain ⟨m, rfl⟩ : ∃ m : Nat, n = (m : Int) := ⟨n.toNat, by omega⟩
    have HD : Hid (Lib.itoa m = Lib.decDigits m) := Lib.hid (by rw [Lib.itoa, if_neg hn, Int.toNat_natCast])
    obtain ⟨t, ht⟩ : ∃ t : ByteArray, t = ⟨(Lib.decDigits m).toArray⟩ := ⟨_, rfl⟩
    have HC : Hid (∀ W : World, Calls Tryz.prog 28 #[.int .i64 m] W fun e w' => e = .returned (.string t) ∧ Below W.heap.size W w') := Lib.hid (fun W => by rw [ht]; exact rDecimal_any m (by omega) W)
    have HT := Lib.hid ht
    have d1 : decide ((m : Int) < 0) = false := by simp
    clear ht
    go_enter Tryz.func10, Tryz.ntmps10
    go_wp2_with fail
    refine (HC.out _).mono ?_
    rintro e w2 ⟨rfl, hb2⟩
    have B2 := Lib.hid hb2
    clear hb2
    go_wp2
    go_ret
    exact ⟨by rw [HD.out, ← HT.out]; rfl, B2.out⟩
end Go.Proofs.YtphpkmjobhohfaaGreatDoor
