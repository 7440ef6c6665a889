/- History: the order of units: the closure of the sort. -/
import Derived.Test.YtpklgdclknicjaaGreatDoorBt
import Derived.Test.YtpklgdclknicjaaGreatDoorHK
import Derived.Test.YtpklgdclknicjaaGreatDoorHB
import Derived.Test.YtpklgdclknicjaaGreatDoorIns
import Derived.Sort.Grow
namespace Go.Proofs.YtpklgdclknicjaaGreatDoor
open Go.RowKit Go.Sort

def cI (a b : Int) : Int := if a < b then -1 else if b < a then 1 else 0
theorem nanI (x : Int) (w : World) : Calls Tryz.prog 46 #[.int .i64 x] w fun e w' => e = .returned (.bool false) ∧ w = w' := by
  go_enter Tryz.func46, Tryz.ntmps46
  go_wp2
  go_ret
  exact ⟨by simp, rfl⟩
set_option maxRecDepth 100000 in
theorem compI (a b : Int) (w : World) : Calls Tryz.prog 23 #[.int .i64 a, .int .i64 b] w fun e w' => e = .returned (.int .i64 (cI a b)) ∧ w = w' := by
  rcases Int.lt_trichotomy a b with h | h | h
  · have hc : Hid (cI a b = -1) := Lib.hid (by unfold cI; rw [if_pos h])
    have d1 : decide (a < b) = true := by simpa using h
    clear h
    go_enter Tryz.func23, Tryz.ntmps23
    go_wp2_with (go_at_call 46; refine (nanI _ _).mono ?_; rintro e w' ⟨rfl, rfl⟩)
    go_ret
    exact ⟨by rw [hc.out]; rfl, rfl⟩
  · subst h
    have hc : Hid (cI a a = 0) := Lib.hid (by unfold cI; rw [if_neg (by omega), if_neg (by omega)])
    have d1 : decide (a < a) = false := by simp
    go_enter Tryz.func23, Tryz.ntmps23
    go_wp2_with (go_at_call 46; refine (nanI _ _).mono ?_; rintro e w' ⟨rfl, rfl⟩)
    go_ret
    exact ⟨by rw [hc.out]; rfl, rfl⟩
  · have hc : Hid (cI a b = 1) := Lib.hid (by unfold cI; rw [if_neg (by omega), if_pos h])
    have d1 : decide (a < b) = false := by simp; omega
    have d2 : decide (b < a) = true := by simpa using h
    clear h
    go_enter Tryz.func23, Tryz.ntmps23
    go_wp2_with (go_at_call 46; refine (nanI _ _).mono ?_; rintro e w' ⟨rfl, rfl⟩)
    go_ret
    exact ⟨by rw [hc.out]; rfl, rfl⟩
/-- cmp.Or of two -/
theorem or2_any (a b : Int) (g : Nat) (w : World) (h0 : w.cell? ⟨g, 0, none⟩ = some (.int .i64 a)) (h1 : w.cell? ⟨g, 1, none⟩ = some (.int .i64 b)) :
    Calls Tryz.prog 22 #[.slice (some ⟨g, 0, none⟩) 2 2] w fun e w' => e = .returned (.int .i64 (if a = 0 then b else a)) ∧ w = w' := by
  obtain ⟨R, hR⟩ : ∃ R : Int, (if a = 0 then b else a) = R := ⟨_, rfl⟩
  rw [hR]
  by_cases ha : a = 0
  · rw [if_pos ha] at hR
    subst ha
    have HR := Lib.hid hR.symm
    clear hR
    by_cases hb : b = 0
    · subst hb
      go_enter Tryz.func22, Tryz.ntmps22
      go_wp2
      refine wp_loop_rounds 3 ?_
      rw [rounds_succ]
      go_wp2
      rw [rounds_succ]
      go_wp2
      rw [rounds_succ]
      go_wp2
      go_ret
      exact ⟨by rw [HR.out]; rfl, rfl⟩
    · have d1 : (b != 0) = true := by simpa using hb
      have d2 : (b == 0) = false := by simpa using hb
      clear hb
      go_enter Tryz.func22, Tryz.ntmps22
      go_wp2
      refine wp_loop_rounds 2 ?_
      rw [rounds_succ]
      go_wp2
      rw [rounds_succ]
      go_wp2
      go_ret
      exact ⟨by rw [HR.out]; rfl, rfl⟩
  · rw [if_neg ha] at hR
    have HR := Lib.hid hR.symm
    have d1 : (a != 0) = true := by simpa using ha
    have d2 : (a == 0) = false := by simpa using ha
    clear ha hR
    go_enter Tryz.func22, Tryz.ntmps22
    go_wp2
    refine wp_loop_rounds 1 ?_
    rw [rounds_succ]
    go_wp2
    go_ret
    exact ⟨by rw [HR.out]; rfl, rfl⟩

/-! ### the closure of the sort -/
def cfC (a b : Com) : Int := if cI a.num b.num = 0 then min 1 (a.cn : Int) - min 1 (b.cn : Int) else cI a.num b.num
theorem ltOf_cfC : Go.Proofs.ltOf cfC = befB := by
  funext a b
  unfold Go.Proofs.ltOf cfC befB cI
  rcases Int.lt_trichotomy a.num b.num with h | h | h
  · simp [h]
  · simp only [h, Int.lt_irrefl, if_false, if_true, decide_false, decide_true, Bool.false_or, Bool.true_and]
    rw [Bool.eq_iff_iff]
    simp only [decide_eq_true_eq, Bool.and_eq_true]
    omega
  · have h1 : ¬ a.num < b.num := by omega
    have h2 : ¬ a.num = b.num := by omega
    simp [h, h1, h2]
theorem alloc_grow (w : World) (o : Obj) : w.alloc o = grow w #[o] := alloc_eq_grow w o
set_option maxRecDepth 100000 in
set_option maxHeartbeats 1000000 in
theorem ord2_any (x y : Com) (W : World) : Calls Tryz.prog 21 (#[.agg (comC x).toArray, .agg (comC y).toArray] ++ #[]) W fun e w' => e = .returned (.int .i64 (cfC x y)) ∧ ∃ q os', w' = grow (W.drewN q) os' := by
  obtain ⟨R, hR⟩ : ∃ R, cfC x y = R := ⟨_, rfl⟩
  rw [hR]
  obtain ⟨unit, num, rA, rn, rc, cA, cn, cc, rs, cs⟩ := x
  obtain ⟨unit', num', rA', rn', rc', cA', cn', cc', rs', cs'⟩ := y
  show Calls Tryz.prog 21 #[.agg #[.int .i64 unit, .int .i64 num, .slice rA rn rc, .slice cA cn cc], .agg #[.int .i64 unit', .int .i64 num', .slice rA' rn' rc', .slice cA' cn' cc']] W fun e w' => e = .returned (.int .i64 R) ∧ ∃ q os', w' = grow (W.drewN q) os'
  obtain ⟨c, hc⟩ : ∃ c, cI num num' = c := ⟨_, rfl⟩
  have HC : Hid (∀ W : World, Calls Tryz.prog 23 #[.int .i64 num, .int .i64 num'] W fun e w' => e = .returned (.int .i64 c) ∧ W = w') := Lib.hid fun W => by rw [← hc]; exact compI num num' W
  obtain ⟨q, hq⟩ : ∃ q : Int, min 1 (cn : Int) - min 1 (cn' : Int) = q := ⟨_, rfl⟩
  have w1 : IntKind.i64.wrap (min 1 (cn : Int) - min 1 (cn' : Int)) = q := by rw [IntKind.wrap_i64]; omega
  have hr : R = if c = 0 then q else c := by rw [← hR, ← hq, ← hc]; rfl
  have HO : Hid (∀ (g : Nat) (W : World), W.cell? ⟨g, 0, none⟩ = some (.int .i64 c) → W.cell? ⟨g, 1, none⟩ = some (.int .i64 q) → Calls Tryz.prog 22 #[.slice (some ⟨g, 0, none⟩) 2 2] W fun e w' => e = .returned (.int .i64 R) ∧ W = w') := Lib.hid fun g W a b => by rw [hr]; exact or2_any c q g W a b
  clear hc hq hR hr
  go_enter Tryz.func21, Tryz.ntmps21
  go_wp2_with fail
  go_region_held3 (fun w' => w'.cell? ⟨W.heap.size, 1, none⟩ = some (.int .i64 num) ∧ w'.cell? ⟨W.heap.size, 3, none⟩ = some (.slice cA cn cc) ∧ w'.cell? ⟨W.heap.size + 1, 1, none⟩ = some (.int .i64 num') ∧ w'.cell? ⟨W.heap.size + 1, 3, none⟩ = some (.slice cA' cn' cc')) (first | go_keep) (first | (go_at_call 23; refine (HC.out _).mono ?_; rintro e w' ⟨rfl, rfl⟩) | (go_at_call 22; refine (HO.out _ _ ((blk_at _ 3 #[.int .i64 c, .int .i64 q] _ (by simp)).drew.cell 0) ((blk_at _ 3 #[.int .i64 c, .int .i64 q] _ (by simp)).drew.cell 1)).mono ?_; rintro e w' ⟨rfl, rfl⟩))
  all_goals
    go_wp2
    go_ret
    exact ⟨rfl, 1, _, by rw [alloc_grow, alloc_grow, alloc_grow, grow_grow, grow_grow]; rfl⟩
end Go.Proofs.YtpklgdclknicjaaGreatDoor
