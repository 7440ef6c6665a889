/- number of the reference. -/
import Derived.Test.YtjfinkfikebjbaaEa
import Derived.Test.YtjfinkfikebjbaaP
namespace Go.Proofs.Ytjfinkfikebjbaa
open Go.RowKit
attribute [local go_sem ↓] Go.wp_at_zero Go.wp_at_succ

theorem rdN_four (s : ByteArray) (k : Nat) (h : k + 4 ≤ s.size) : (rdN (drB s k) 4 : Int) = (s[k]).toNat + 256 * (s[k + 1]).toNat + 65536 * (s[k + 2]).toNat + 16777216 * (s[k + 3]).toNat := by
  unfold rdN
  rw [drB_list]
  have hl : s.data.toList.length = s.size := ba_len s
  have e : (s.data.toList.drop k).take 4 = [s[k], s[k + 1], s[k + 2], s[k + 3]] := by
    rw [List.drop_eq_getElem_cons (by omega), List.drop_eq_getElem_cons (by omega), List.drop_eq_getElem_cons (by omega), List.drop_eq_getElem_cons (by omega)]
    rfl
  rw [e]
  simp only [numN]
  omega
theorem rdN_one (s : ByteArray) (k : Nat) (h : k < s.size) : rdN (drB s k) 1 = (s[k]).toNat := by
  unfold rdN
  rw [drB_list]
  have hl : s.data.toList.length = s.size := ba_len s
  rw [List.drop_eq_getElem_cons (by omega)]
  simp only [List.take_succ_cons, List.take_zero, numN]
  rfl

set_option maxRecDepth 100000 in
set_option maxHeartbeats 4000000 in
theorem rnumber_any (s : ByteArray) (k : Nat) (w : World) (h : k + 4 ≤ s.size) (hs : s.size ≤ 600) :
    Calls Try.prog 34 #[.string s, .int .i64 k] w fun e w' => e = .returned (.int .i64 (rdN (drB s k) 4)) ∧ ∃ d, w' = w.drewN d := by
  have HR := Lib.hid (rdN_four s k h)
  have a0 : k < s.size := by omega
  have a1 : k + 1 < s.size := by omega
  have a2 : k + 2 < s.size := by omega
  have a3 : k + 3 < s.size := by omega
  have c0 := (s[k]).toNat_lt
  have c1 := (s[k + 1]).toNat_lt
  have c2 := (s[k + 2]).toNat_lt
  have c3 := (s[k + 3]).toNat_lt
  have i0 : (0 : Int) ≤ (k : Int) := by omega
  have i1 : (k : Int) < (s.size : Int) := by omega
  have j1 : (0 : Int) ≤ (k : Int) + 1 := by omega
  have j2 : (k : Int) + 1 < (s.size : Int) := by omega
  have k1 : (0 : Int) ≤ (k : Int) + 2 := by omega
  have k2 : (k : Int) + 2 < (s.size : Int) := by omega
  have l1 : (0 : Int) ≤ (k : Int) + 3 := by omega
  have l2 : (k : Int) + 3 < (s.size : Int) := by omega
  have t1 : ((k : Int) + 1).toNat = k + 1 := by omega
  have t2 : ((k : Int) + 2).toNat = k + 2 := by omega
  have t3 : ((k : Int) + 3).toNat = k + 3 := by omega
  have w1 : IntKind.i64.wrap ((k : Int) + 1) = (k : Int) + 1 := by rw [IntKind.wrap_i64]; omega
  have w2 : IntKind.i64.wrap ((k : Int) + 2) = (k : Int) + 2 := by rw [IntKind.wrap_i64]; omega
  have w3 : IntKind.i64.wrap ((k : Int) + 3) = (k : Int) + 3 := by rw [IntKind.wrap_i64]; omega
  have v1 : IntKind.i64.wrap (256 * ((s[k + 1]).toNat : Int)) = 256 * ((s[k + 1]).toNat : Int) := by rw [IntKind.wrap_i64]; omega
  have v2 : IntKind.i64.wrap (65536 * ((s[k + 2]).toNat : Int)) = 65536 * ((s[k + 2]).toNat : Int) := by rw [IntKind.wrap_i64]; omega
  have v3 : IntKind.i64.wrap (16777216 * ((s[k + 3]).toNat : Int)) = 16777216 * ((s[k + 3]).toNat : Int) := by rw [IntKind.wrap_i64]; omega
  have u0 : IntKind.i64.wrap ((s[k]).toNat : Int) = ((s[k]).toNat : Int) := by rw [IntKind.wrap_i64]; omega
  have u1 : IntKind.i64.wrap ((s[k + 1]).toNat : Int) = ((s[k + 1]).toNat : Int) := by rw [IntKind.wrap_i64]; omega
  have u2 : IntKind.i64.wrap ((s[k + 2]).toNat : Int) = ((s[k + 2]).toNat : Int) := by rw [IntKind.wrap_i64]; omega
  have u3 : IntKind.i64.wrap ((s[k + 3]).toNat : Int) = ((s[k + 3]).toNat : Int) := by rw [IntKind.wrap_i64]; omega
  have x1 : IntKind.i64.wrap (((s[k]).toNat : Int) + 256 * ((s[k + 1]).toNat : Int)) = ((s[k]).toNat : Int) + 256 * ((s[k + 1]).toNat : Int) := by rw [IntKind.wrap_i64]; omega
  have x2 : IntKind.i64.wrap (((s[k]).toNat : Int) + 256 * ((s[k + 1]).toNat : Int) + 65536 * ((s[k + 2]).toNat : Int)) = ((s[k]).toNat : Int) + 256 * ((s[k + 1]).toNat : Int) + 65536 * ((s[k + 2]).toNat : Int) := by rw [IntKind.wrap_i64]; omega
  have x3 : IntKind.i64.wrap (((s[k]).toNat : Int) + 256 * ((s[k + 1]).toNat : Int) + 65536 * ((s[k + 2]).toNat : Int) + 16777216 * ((s[k + 3]).toNat : Int)) = ((s[k]).toNat : Int) + 256 * ((s[k + 1]).toNat : Int) + 65536 * ((s[k + 2]).toNat : Int) + 16777216 * ((s[k + 3]).toNat : Int) := by rw [IntKind.wrap_i64]; omega
  go_enter Try.func34, Try.ntmps34
  go_wp2
  go_quiet (fail)
  go_wp2
  go_ret
  exact ⟨by rw [HR.out]; rfl, _, rfl⟩
end Go.Proofs.Ytjfinkfikebjbaa
