/- Decimal and decimal of the reference. -/
import Derived.Test.YtpklgdclknicjaaGreatDoorProg
import Derived.Test.YtpklgdclknicjaaGreatDoorBase
import Derived.Test.YtpklgdclknicjaaGreatDoorBytes
import Derived.Test.YtpklgdclknicjaaGreatDoorBlk
import Derived.WalkSpells
import Derived.WalkLawsBesides
import Derived.BigQuiet
import Derived.Deep.QuietTactic
import Derived.Lib.ItoaNum
import Derived.Lib.UnsafeStr
namespace Go.Proofs.YtpklgdclknicjaaGreatDoor
open Go.RowKit

theorem u8_of {m : Nat} (h : m ≤ 255) : (UInt8.ofNat m).toNat = m := by rw [UInt8.toNat_ofNat']; omega
theorem add_is (b o j : Nat) : (⟨b, o, none⟩ : Addr).add j = ⟨b, o + j, none⟩ := by unfold Addr.add; split <;> simp_all
theorem cv_blk {W : World} {g : Nat} {l : List UInt8} (hb : Blk W g 5 (Lib.byteCells l).toArray) : (convert 89 9 (.slice (some ⟨g, 0, none⟩) l.length l.length)).run Tryz.prog W = .ok (.string ⟨l.toArray⟩) W := by
  refine run_convert_bytes_back W 89 9 5 ⟨g, 0, none⟩ l.length l Tryz.underlying89 Tryz.underlying5 Tryz.underlying9 (fun j hj => ?_)
  rw [add_is, Nat.zero_add, hb.cell]
  simp [Lib.byteCells, hj]
theorem dec_big {n : Nat} (h : ¬ n < 10) : Lib.decDigits n = Lib.decDigits (n / 10) ++ [UInt8.ofNat (48 + n % 10)] := by rw [Lib.decDigits, dif_neg h]
theorem dec_len : ∀ (k n : Nat), n < 10 ^ (k + 1) → (Lib.decDigits n).length ≤ k + 1
  | 0, n, h => by rw [Lib.decDigits_one (by omega)]; simp
  | k + 1, n, h => by
    by_cases h0 : n < 10
    · rw [Lib.decDigits_one h0]; simp
    · rw [dec_big h0, List.length_append]
      have := dec_len k (n / 10) (by rw [Nat.pow_succ] at h; omega)
      simp; omega

set_option maxRecDepth 100000 in
set_option maxHeartbeats 1000000 in
theorem rDecimal_any (n : Nat) : n ≤ 9223372036854775807 → ∀ w : World, Calls Tryz.prog 14 #[.int .i64 n] w fun e w' => e = .returned (.string ⟨(Lib.decDigits n).toArray⟩) ∧ Below w.heap.size w w' := by
  induction n using Nat.strongRecOn with
  | ind n ih =>
    intro hn w
    have w1 : IntKind.i64.wrap ((n : Int) % 10) = (n : Int) % 10 := by rw [IntKind.wrap_i64]; omega
    have w2 : IntKind.i64.wrap (48 + (n : Int) % 10) = 48 + (n : Int) % 10 := by rw [IntKind.wrap_i64]; omega
    have w3 : IntKind.u8.wrap (48 + (n : Int) % 10) = 48 + (n : Int) % 10 := by rw [IntKind.wrap_u8]; omega
    obtain ⟨s, hs⟩ : ∃ s : ByteArray, s = ⟨#[UInt8.ofNat (48 + n % 10)]⟩ := ⟨_, rfl⟩
    have hcv : (convert 89 9 (.slice (some ⟨w.heap.size, 0, none⟩) 1 1)).run Tryz.prog (w.alloc (.cells #[.int .u8 (48 + (n : Int) % 10)] 5)) = .ok (.string s) (w.alloc (.cells #[.int .u8 (48 + (n : Int) % 10)] 5)) := by
      rw [hs]
      refine cv_blk (l := [UInt8.ofNat (48 + n % 10)]) ?_
      have e : Lib.byteCells [UInt8.ofNat (48 + n % 10)] = [.int .u8 (48 + (n : Int) % 10)] := by
        simp only [Lib.byteCells, List.map_cons, List.map_nil, u8_of (show 48 + n % 10 ≤ 255 by omega)]
        simp
      rw [e]
      exact Blk.new _ _ _
    have HS := Lib.hid hs
    clear hs
    have B1 := Lib.hid ((Below.refl w.heap.size w).alloc (Nat.le_refl _) (.cells #[.int .u8 (48 + (n : Int) % 10)] 5))
    by_cases h : n < 10
    · have HD : Hid (Lib.decDigits n = [UInt8.ofNat (48 + n % 10)]) := Lib.hid (by rw [Lib.decDigits_one h, Nat.mod_eq_of_lt h])
      have d1 : decide ((10 : Int) ≤ (n : Int)) = false := by simp; omega
      clear ih
      go_enter Tryz.func14, Tryz.ntmps14
      go_wp2
      go_ret
      exact ⟨by rw [HD.out, ← show s = ⟨[UInt8.ofNat (48 + n % 10)].toArray⟩ from HS.out]; rfl, B1.out⟩
    · have IH := Lib.hid (ih (n / 10) (by omega) (by omega))
      obtain ⟨t, ht⟩ : ∃ t : ByteArray, t = ⟨(Lib.decDigits (n / 10)).toArray⟩ := ⟨_, rfl⟩
      rw [← ht] at IH
      have HD : Hid ((⟨(Lib.decDigits n).toArray⟩ : ByteArray) = t ++ s) := Lib.hid (by
        apply ba_ext
        rw [ba_app, HS.out, ht, dec_big h])
      have hts : t.size + s.size ≤ 9223372036854775807 := by
        have h1 : t.size ≤ 19 := by rw [ht]; show (Lib.decDigits (n / 10)).toArray.size ≤ 19; rw [List.size_toArray]; exact dec_len 18 _ (by omega)
        have h2 : s.size = 1 := by rw [HS.out]; rfl
        omega
      have d1 : decide ((10 : Int) ≤ (n : Int)) = true := by simp; omega
      have q1 : IntKind.i64.wrap ((n : Int) / 10) = ((n / 10 : Nat) : Int) := by rw [IntKind.wrap_i64]; omega
      clear ih ht
      go_enter Tryz.func14, Tryz.ntmps14
      go_wp2_with fail
      refine (IH.out _).mono ?_
      rintro e w2 ⟨rfl, hb2⟩
      have B2 := Lib.hid (below_next B1.out hb2 B1.out.size)
      clear hb2
      go_wp2
      go_ret
      exact ⟨by rw [HD.out]; rfl, B2.out⟩
end Go.Proofs.YtpklgdclknicjaaGreatDoor
