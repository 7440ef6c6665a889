/- Find of the reference. -/
import Derived.Test.YtjfinkfikebjbaaIe
namespace Go.Proofs.Ytjfinkfikebjbaa
open Go.RowKit
attribute [local go_sem ↓] Go.wp_at_zero Go.wp_at_succ

theorem gtr_yes {a b : ByteArray} (h : lessB b a = true) : Op.bytesLess a.toList b.toList = false ∧ (a.toList == b.toList) = false ∧ ¬ a.toList = b.toList := less_no h

set_option maxHeartbeats 1000000 in
theorem rfind_any (lv nx : Int) (A : Option Addr) (n c : Nat) (es : List Ent) (k : ByteArray) (w : World) (hs : Es w w.heap.size A n c es) (hn : n ≤ 9223372036854775807) :
    Calls Try.prog 28 #[.agg #[.int .i64 lv, .int .i64 nx, .slice A n c], .string k] w fun e w' => e = .returned (.int .i64 (findI es k)) ∧ Below w.heap.size w w' := by
  have HL := Lib.hid hs.len
  have HS := Lib.hid hs
  clear hs
  go_enter Try.func28, Try.ntmps28
  go_wp2
  go_loop [5] (fun i => ∃ j : Nat, j ≤ n ∧ i = .int .i64 j ∧ ∀ t, t < j → ∀ e, es[t]? = some e → lessB k e.1 = false) (fun i => n - (intOf i).toNat)
  case atStart => exact ⟨0, Nat.zero_le _, rfl, fun t h => absurd h (by omega)⟩
  case round =>
    obtain ⟨j, hj, rfl, hall⟩ := hrel
    have HA := Lib.hid hall
    clear hall
    by_cases hlt : j < n
    · obtain ⟨b, o, x, p, rfl, hb, hg, hc, hc2⟩ := HS.out.cell hlt
      have HG := Lib.hid hg
      clear hg hc2
      cases hl : lessB k x with
      | true =>
        have HF : Hid (findI es k = (j : Int)) := Lib.hid (by
          have := fidx_hit HA.out HG.out hl
          unfold findI; rw [this, HL.out, if_pos hlt])
        obtain ⟨l1, l2, l3⟩ := less_no hl
        clear hl
        go_wp2
        go_ret
        exact ⟨by rw [HF.out]; rfl, (Below.refl _ _).alloc (Nat.le_refl _) _⟩
      | false =>
        have HNX : Hid (∀ t, t < j + 1 → ∀ e, es[t]? = some e → lessB k e.1 = false) := Lib.hid (fun t ht e he => by
          by_cases h : t = j
          · subst h; rw [HG.out] at he; injection he with he; subst he; exact hl
          · exact HA.out t (by omega) e he)
        rcases less_yes hl with l1 | l1
        · clear hl
          go_wp2
          go_round
          case rel => exact ⟨j + 1, by omega, by go_num, HNX.out⟩
          case measure => simp [intOf]; omega
        · subst l1
          clear hl
          go_wp2
          go_round
          case rel => exact ⟨j + 1, by omega, by go_num, HNX.out⟩
          case measure => simp [intOf]; omega
    · have HF : Hid (findI es k = (n : Int) - 1) := Lib.hid (by
        have := fidx_miss HL.out (fun t ht => HA.out t (by omega))
        unfold findI; rw [this, HL.out, if_neg (by omega)])
      go_wp2
      go_ret
      exact ⟨by rw [HF.out]; rfl, (Below.refl _ _).alloc (Nat.le_refl _) _⟩
end Go.Proofs.Ytjfinkfikebjbaa
