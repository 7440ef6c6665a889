/- History, the reference: before. -/
import Derived.Test.YtoiocnpamplhdaaGreatDoorHS
namespace Go.Proofs.YtoiocnpamplhdaaGreatDoor
open Go.RowKit

set_option maxRecDepth 100000 in
theorem before_any (x y : Com) (w : World) :
    Calls Tryz.prog 25 #[comV x, comV y] w fun e w' => e = .returned (.bool (befB x y)) ∧ Below w.heap.size w w' := by
  obtain ⟨unit, num, rA, rn, rc, cA, cn, cc, rs, cs⟩ := x
  obtain ⟨unit', num', rA', rn', rc', cA', cn', cc', rs', cs'⟩ := y
  unfold comV befB
  simp only
  have BB : Hid (Below w.heap.size w ((w.alloc (.cells #[.int .i64 unit, .int .i64 num, .slice rA rn rc, .slice cA cn cc] 43)).alloc (.cells #[.int .i64 unit', .int .i64 num', .slice rA' rn' rc', .slice cA' cn' cc'] 43))) := Lib.hid (((Below.refl _ _).alloc (Nat.le_refl _) _).alloc (by simp) _)
  rcases Int.lt_trichotomy num num' with h | h | h
  · have d1 : decide (num < num') = true := by simpa using h
    simp only [d1, Bool.true_or]
    clear h
    go_enter Tryz.func25, Tryz.ntmps25
    go_wp2
    go_ret
    exact ⟨rfl, BB.out⟩
  · subst h
    have d1 : decide (num < num) = false := by simp
    simp only [d1, decide_true, Bool.false_or, Bool.true_and]
    by_cases h1 : cn = 0
    · subst h1
      by_cases h2 : 0 < cn'
      · have d2 : decide (0 < cn') = true := by simpa using h2
        have d3 : decide ((0 : Int) < (cn' : Int)) = true := by simpa using h2
        simp only [d2, decide_true, Bool.true_and]
        clear h2
        go_enter Tryz.func25, Tryz.ntmps25
        go_wp2
        go_ret
        exact ⟨rfl, BB.out⟩
      · obtain rfl : cn' = 0 := by omega
        simp only [decide_true, Bool.true_and]
        go_enter Tryz.func25, Tryz.ntmps25
        go_wp2
        go_ret
        exact ⟨rfl, BB.out⟩
    · have d2 : decide (cn = 0) = false := by simpa using h1
      have d3 : ((cn : Int) == 0) = false := by simp; omega
      have d4 : (cn == 0) = false := by simpa using h1
      simp only [d2, Bool.false_and]
      clear h1
      go_enter Tryz.func25, Tryz.ntmps25
      go_wp2
      go_ret
      exact ⟨rfl, BB.out⟩
  · have d1 : decide (num < num') = false := by simp; omega
    have d2 : decide (num = num') = false := by simp; omega
    have d3 : (num == num') = false := by simp; omega
    simp only [d1, d2, Bool.false_or, Bool.false_and]
    clear h
    go_enter Tryz.func25, Tryz.ntmps25
    go_wp2
    go_ret
    exact ⟨rfl, BB.out⟩
end Go.Proofs.YtoiocnpamplhdaaGreatDoor
