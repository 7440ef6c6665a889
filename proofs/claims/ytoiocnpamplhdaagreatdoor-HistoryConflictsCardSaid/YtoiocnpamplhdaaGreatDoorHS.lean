/- History, the reference: a unit is valid. Printed by wip/history/gen_hs.py. -/
import Derived.Test.YtoiocnpamplhdaaGreatDoorHR
namespace Go.Proofs.YtoiocnpamplhdaaGreatDoor
open Go.RowKit

theorem rlast_any (x : Com) (w : World) (h1 : 1 ≤ x.num) (h2 : x.num ≤ 1099511627776) (h3 : x.cn ≤ 300) :
    Calls Tryz.prog 26 #[comV x] w fun e w' => e = .returned (.int .i64 (x.num + x.cn - 1)) ∧ Below w.heap.size w w' := by
  unfold comV
  go_enter Tryz.func26, Tryz.ntmps26
  go_wp2
  go_ret
  exact ⟨rfl, (Below.refl _ _).alloc (Nat.le_refl _) _⟩

theorem any_true {α : Type} {p : α → Bool} {l : List α} {j : Nat} {e : α} (h : l[j]? = some e) (hp : p e = false) : (l.any fun x => !p x) = true := by
  rw [List.any_eq_true]
  exact ⟨e, List.mem_of_getElem? h, by rw [hp]; rfl⟩
theorem any_false {α : Type} {p : α → Bool} {l : List α} {n : Nat} (hl : l.length = n) (h : ∀ t, t < n → ∀ e, l[t]? = some e → p e = true) : (l.any fun x => !p x) = false := by
  rw [List.any_eq_false]
  intro x hx
  obtain ⟨t, ht, rfl⟩ := List.getElem_of_mem hx
  rw [h t (by omega) _ (List.getElem?_eq_getElem ht)]
  simp
theorem all_step {α : Type} {p : α → Bool} {l : List α} {j : Nat} {e : α} (h : ∀ t, t < j → ∀ e, l[t]? = some e → p e = true) (hg : l[j]? = some e) (hp : p e = true) : ∀ t, t < j + 1 → ∀ e, l[t]? = some e → p e = true := by
  intro t ht e' he
  by_cases hj : t = j
  · subst hj; rw [hg] at he; injection he with he; subst he; exact hp
  · exact h t (by omega) e' he

set_option maxRecDepth 100000 in
theorem rval_u1 (unit num : Int) (rA : Option Addr) (rn rc : Nat) (cA : Option Addr) (cn cc : Nat) (w : World) (h1 : unit < 1) :
    Calls Tryz.prog 24 #[.agg #[.int .i64 unit, .int .i64 num, .slice rA rn rc, .slice cA cn cc]] w fun e w' => e = .returned (.bool false) ∧ Below w.heap.size w w' := by
  have B0 := Lib.hid (bx_start w #[.int .i64 unit, .int .i64 num, .slice rA rn rc, .slice cA cn cc] 43)
  have d1 : decide (unit < 1) = true := by simp; omega
  clear h1
  go_enter Tryz.func24, Tryz.ntmps24
  go_wp2_with (fail)
  go_ret
  exact ⟨rfl, bx_below B0.out⟩

set_option maxRecDepth 100000 in
theorem rval_u2 (unit num : Int) (rA : Option Addr) (rn rc : Nat) (cA : Option Addr) (cn cc : Nat) (w : World) (h1 : 1 ≤ unit) (h2 : 1099511627776 < unit) :
    Calls Tryz.prog 24 #[.agg #[.int .i64 unit, .int .i64 num, .slice rA rn rc, .slice cA cn cc]] w fun e w' => e = .returned (.bool false) ∧ Below w.heap.size w w' := by
  have B0 := Lib.hid (bx_start w #[.int .i64 unit, .int .i64 num, .slice rA rn rc, .slice cA cn cc] 43)
  have d1 : decide (unit < 1) = false := by simp; omega
  have d2 : decide ((1099511627776 : Int) < unit) = true := by simp; omega
  clear h1 h2
  go_enter Tryz.func24, Tryz.ntmps24
  go_wp2_with (fail)
  go_ret
  exact ⟨rfl, bx_below B0.out⟩

set_option maxRecDepth 100000 in
theorem rval_c (unit num : Int) (rA : Option Addr) (rn rc : Nat) (cA : Option Addr) (cn cc : Nat) (w : World) (h1 : 1 ≤ unit) (h2 : unit ≤ 1099511627776) (h3 : 300 < cn) :
    Calls Tryz.prog 24 #[.agg #[.int .i64 unit, .int .i64 num, .slice rA rn rc, .slice cA cn cc]] w fun e w' => e = .returned (.bool false) ∧ Below w.heap.size w w' := by
  have B0 := Lib.hid (bx_start w #[.int .i64 unit, .int .i64 num, .slice rA rn rc, .slice cA cn cc] 43)
  have d1 : decide (unit < 1) = false := by simp; omega
  have d2 : decide ((1099511627776 : Int) < unit) = false := by simp; omega
  have d3 : decide ((300 : Int) < (cn : Int)) = true := by simp; omega
  have d7 : decide (300 < cn) = true := by simp; omega
  clear h1 h2 h3
  go_enter Tryz.func24, Tryz.ntmps24
  go_wp2_with (fail)
  go_ret
  exact ⟨rfl, bx_below B0.out⟩

set_option maxRecDepth 100000 in
theorem rval_n1 (unit num : Int) (rA : Option Addr) (rn rc : Nat) (cA : Option Addr) (cn cc : Nat) (w : World) (h1 : 1 ≤ unit) (h2 : unit ≤ 1099511627776) (h3 : cn ≤ 300) (h4 : num < 1) :
    Calls Tryz.prog 24 #[.agg #[.int .i64 unit, .int .i64 num, .slice rA rn rc, .slice cA cn cc]] w fun e w' => e = .returned (.bool false) ∧ Below w.heap.size w w' := by
  have B0 := Lib.hid (bx_start w #[.int .i64 unit, .int .i64 num, .slice rA rn rc, .slice cA cn cc] 43)
  have d1 : decide (unit < 1) = false := by simp; omega
  have d2 : decide ((1099511627776 : Int) < unit) = false := by simp; omega
  have d3 : decide ((300 : Int) < (cn : Int)) = false := by simp; omega
  have d7 : decide (300 < cn) = false := by simp; omega
  have d4 : decide (num < 1) = true := by simp; omega
  clear h1 h2 h3 h4
  go_enter Tryz.func24, Tryz.ntmps24
  go_wp2_with (fail)
  go_ret
  exact ⟨rfl, bx_below B0.out⟩

set_option maxRecDepth 100000 in
theorem rval_n2 (unit num : Int) (rA : Option Addr) (rn rc : Nat) (cA : Option Addr) (cn cc : Nat) (w : World) (h1 : 1 ≤ unit) (h2 : unit ≤ 1099511627776) (h3 : cn ≤ 300) (h4 : 1 ≤ num) (h5 : 1099511627776 < num) :
    Calls Tryz.prog 24 #[.agg #[.int .i64 unit, .int .i64 num, .slice rA rn rc, .slice cA cn cc]] w fun e w' => e = .returned (.bool false) ∧ Below w.heap.size w w' := by
  have B0 := Lib.hid (bx_start w #[.int .i64 unit, .int .i64 num, .slice rA rn rc, .slice cA cn cc] 43)
  have d1 : decide (unit < 1) = false := by simp; omega
  have d2 : decide ((1099511627776 : Int) < unit) = false := by simp; omega
  have d3 : decide ((300 : Int) < (cn : Int)) = false := by simp; omega
  have d7 : decide (300 < cn) = false := by simp; omega
  have d4 : decide (num < 1) = false := by simp; omega
  have d5 : decide ((1099511627776 : Int) < num) = true := by simp; omega
  clear h1 h2 h3 h4 h5
  go_enter Tryz.func24, Tryz.ntmps24
  go_wp2_with (fail)
  go_ret
  exact ⟨rfl, bx_below B0.out⟩

set_option maxRecDepth 100000 in
theorem rval_last (unit num : Int) (rA : Option Addr) (rn rc : Nat) (cA : Option Addr) (cn cc : Nat) (w : World) (h1 : 1 ≤ unit) (h2 : unit ≤ 1099511627776) (h3 : cn ≤ 300) (h4 : 1 ≤ num) (h5 : num ≤ 1099511627776) (h6 : 1099511627776 < num + cn - 1) :
    Calls Tryz.prog 24 #[.agg #[.int .i64 unit, .int .i64 num, .slice rA rn rc, .slice cA cn cc]] w fun e w' => e = .returned (.bool false) ∧ Below w.heap.size w w' := by
  have B0 := Lib.hid (bx_start w #[.int .i64 unit, .int .i64 num, .slice rA rn rc, .slice cA cn cc] 43)
  have HL := Lib.hid (rlast_any ⟨unit, num, rA, rn, rc, cA, cn, cc, [], []⟩ (w.alloc (.cells #[.int .i64 unit, .int .i64 num, .slice rA rn rc, .slice cA cn cc] 43)) (by simp only; omega) (by simp only; omega) (by simp only; omega))
  unfold comV at HL
  simp only at HL
  obtain ⟨q, hq⟩ : ∃ q : Int, num + cn - 1 = q := ⟨_, rfl⟩
  rw [hq] at HL
  have d6 : decide ((1099511627776 : Int) < q) = true := by simp; omega
  have d1 : decide (unit < 1) = false := by simp; omega
  have d2 : decide ((1099511627776 : Int) < unit) = false := by simp; omega
  have d3 : decide ((300 : Int) < (cn : Int)) = false := by simp; omega
  have d7 : decide (300 < cn) = false := by simp; omega
  have d4 : decide (num < 1) = false := by simp; omega
  have d5 : decide ((1099511627776 : Int) < num) = false := by simp; omega
  clear h1 h2 h3 h4 h5 h6 hq
  go_enter Tryz.func24, Tryz.ntmps24
  go_wp2_with (go_at_call 26; refine HL.out.mono ?_; rintro e w1 ⟨rfl, hb1⟩; have x1 := Lib.hid (show Below (w.heap.size + 1) (w.alloc (.cells #[.int .i64 unit, .int .i64 num, .slice rA rn rc, .slice cA cn cc] 43)) w1 by simpa using hb1); clear hb1)
  go_ret
  exact ⟨rfl, bx_below x1.out⟩

set_option maxRecDepth 100000 in
set_option maxHeartbeats 1000000 in
theorem rval_main (unit num : Int) (rA : Option Addr) (rn rc : Nat) (cA : Option Addr) (cn cc : Nat) (rs : List Rdd) (cs : List Chg) (w : World) (hr0 : Sl rdC 6 w w.heap.size rA rn rc rs) (hc0 : Sl chC 5 w w.heap.size cA cn cc cs) (hv : ∀ c ∈ cs, StrOk c) (hrn : rn ≤ 9223372036854775807)
    (h1 : 1 ≤ unit) (h2 : unit ≤ 1099511627776) (h3 : cn ≤ 300) (h4 : 1 ≤ num) (h5 : num ≤ 1099511627776) (h6 : num + cn - 1 ≤ 1099511627776) :
    Calls Tryz.prog 24 #[.agg #[.int .i64 unit, .int .i64 num, .slice rA rn rc, .slice cA cn cc]] w fun e w' => e = .returned (.bool (!(cs.any fun c => !chgB c) && !(rs.any fun r => !rdB r))) ∧ Below w.heap.size w w' := by
  obtain ⟨R, hR⟩ : ∃ R, (!(cs.any fun c => !chgB c) && !(rs.any fun r => !rdB r)) = R := ⟨_, rfl⟩
  rw [hR]
  have HRR := Lib.hid hR.symm
  have HCL := Lib.hid hc0.len
  have HRL := Lib.hid hr0.len
  have HC := Lib.hid hc0
  have HRD := Lib.hid hr0
  have HV := Lib.hid hv
  have HL := Lib.hid (rlast_any ⟨unit, num, rA, rn, rc, cA, cn, cc, [], []⟩ (w.alloc (.cells #[.int .i64 unit, .int .i64 num, .slice rA rn rc, .slice cA cn cc] 43)) (by simp only; omega) (by simp only; omega) (by simp only; omega))
  unfold comV at HL
  simp only at HL
  obtain ⟨q, hq⟩ : ∃ q : Int, num + cn - 1 = q := ⟨_, rfl⟩
  rw [hq] at HL
  have d1 : decide (unit < 1) = false := by simp; omega
  have d2 : decide ((1099511627776 : Int) < unit) = false := by simp; omega
  have d3 : decide ((300 : Int) < (cn : Int)) = false := by simp; omega
  have d7 : decide (300 < cn) = false := by simp; omega
  have d4 : decide (num < 1) = false := by simp; omega
  have d5 : decide ((1099511627776 : Int) < num) = false := by simp; omega
  have d6 : decide ((1099511627776 : Int) < q) = false := by simp; omega
  clear h1 h2 h4 h5 h6 hq hR hr0 hc0 hv
  go_enter Tryz.func24, Tryz.ntmps24
  go_wp2_with (go_at_call 26; refine HL.out.mono ?_; rintro e w1 ⟨rfl, hb1⟩; have x1 := Lib.hid (show Below (w.heap.size + 1) (w.alloc (.cells #[.int .i64 unit, .int .i64 num, .slice rA rn rc, .slice cA cn cc] 43)) w1 by simpa using hb1); clear hb1)
  clear d1 d2 d3 d4 d5 d6 d7

  go_loopw [3] (fun i wr => ∃ j : Nat, j ≤ cn ∧ i = .int .i64 j ∧ (∀ t, t < j → ∀ e, cs[t]? = some e → chgB e = true) ∧ Below (w.heap.size + 1) (w.alloc (.cells #[.int .i64 unit, .int .i64 num, .slice rA rn rc, .slice cA cn cc] 43)) wr) (fun i _ => cn - (intOf i).toNat)
  case atStart => exact ⟨0, Nat.zero_le _, rfl, fun t h => absurd h (by omega), x1.out⟩
  case round =>
    obtain ⟨j, hj, rfl, hall, hbel⟩ := hrel
    have HA := Lib.hid hall
    have HB := Lib.hid hbel
    have hf := bx_cell hbel 3
    simp at hf
    clear hall hbel
    by_cases hlt : j < cn
    · obtain ⟨b, o, x, rfl, hb, hg, hcell⟩ := Sl.cell (f := chC) (k := 5) (fun _ => rfl) (HC.out.after (bx_below HB.out) (Nat.le_of_succ_le (bx_size HB.out))) hlt
      have c0 := hcell 0 _ rfl; have c1 := hcell 1 _ rfl; have c2 := hcell 2 _ rfl; have c3 := hcell 3 _ rfl; have c4 := hcell 4 _ rfl
      simp only [Nat.add_zero] at c0
      have HX := Lib.hid (rch_any x wr (HV.out x (List.mem_of_getElem? hg)))
      have HG := Lib.hid hg
      have HXS := Lib.hid (bx_size HB.out)
      clear hg hcell hb
      cases hp : chgB x with
      | false =>
        rw [hp] at HX
        have hr : R = false := by rw [HRR.out, any_true HG.out hp]; rfl
        have HF := Lib.hid hr
        clear hr hp
        go_wp2_with fail
        refine HX.out.mono ?_
        rintro e w2 ⟨rfl, hb2⟩
        have X2 := Lib.hid (below_next HB.out hb2 HXS.out)
        clear hb2
        go_wp2
        go_ret
        exact ⟨by rw [HF.out]; rfl, bx_below X2.out⟩
      | true =>
        rw [hp] at HX
        have HP := Lib.hid hp
        clear hp
        go_wp2_with fail
        refine HX.out.mono ?_
        rintro e w2 ⟨rfl, hb2⟩
        have X2 := Lib.hid (below_next HB.out hb2 HXS.out)
        clear hb2
        go_wp2
        go_roundw
        case rel => exact ⟨j + 1, by omega, by go_num, all_step HA.out HG.out HP.out, X2.out⟩
        case measure => simp [intOf]; omega
    · obtain rfl : cn = j := by omega
      have HCA := Lib.hid (any_false HCL.out HA.out)
      have HB2 := HB
      clear HA
      go_wp2

      go_loopw [4] (fun i wr => ∃ j : Nat, j ≤ rn ∧ i = .int .i64 j ∧ (∀ t, t < j → ∀ e, rs[t]? = some e → rdB e = true) ∧ Below (w.heap.size + 1) (w.alloc (.cells #[.int .i64 unit, .int .i64 num, .slice rA rn rc, .slice cA cn cc] 43)) wr) (fun i _ => rn - (intOf i).toNat)
      case atStart => exact ⟨0, Nat.zero_le _, rfl, fun t h => absurd h (by omega), HB2.out⟩
      case round =>
        obtain ⟨j, hj, rfl, hall, hbel⟩ := hrel
        have HA := Lib.hid hall
        have HB := Lib.hid hbel
        have hf := bx_cell hbel 2
        simp at hf
        clear hall hbel
        by_cases hlt : j < rn
        · obtain ⟨b, o, x, rfl, hb, hg, hcell⟩ := Sl.cell (f := rdC) (k := 6) (fun _ => rfl) (HRD.out.after (bx_below HB.out) (Nat.le_of_succ_le (bx_size HB.out))) hlt
          have c0 := hcell 0 _ rfl; have c1 := hcell 1 _ rfl; have c2 := hcell 2 _ rfl; have c3 := hcell 3 _ rfl; have c4 := hcell 4 _ rfl; have c5 := hcell 5 _ rfl
          simp only [Nat.add_zero] at c0
          have HX := Lib.hid (rvread_any x wr)
          have HG := Lib.hid hg
          have HXS := Lib.hid (bx_size HB.out)
          clear hg hcell hb
          cases hp : rdB x with
          | false =>
            rw [hp] at HX
            have hr : R = false := by rw [HRR.out, any_true HG.out hp]; simp
            have HF := Lib.hid hr
            clear hr hp
            go_wp2_with fail
            refine HX.out.mono ?_
            rintro e w2 ⟨rfl, hb2⟩
            have X2 := Lib.hid (below_next HB.out hb2 HXS.out)
            clear hb2
            go_wp2
            go_ret
            exact ⟨by rw [HF.out]; rfl, bx_below X2.out⟩
          | true =>
            rw [hp] at HX
            have HP := Lib.hid hp
            clear hp
            go_wp2_with fail
            refine HX.out.mono ?_
            rintro e w2 ⟨rfl, hb2⟩
            have X2 := Lib.hid (below_next HB.out hb2 HXS.out)
            clear hb2
            go_wp2
            go_roundw
            case rel => exact ⟨j + 1, by omega, by go_num, all_step HA.out HG.out HP.out, X2.out⟩
            case measure => simp [intOf]; omega
        · obtain rfl : rn = j := by omega
          have hr : R = true := by rw [HRR.out, HCA.out, any_false HRL.out HA.out]; rfl
          have HT := Lib.hid hr
          clear hr
          go_wp2
          go_ret
          exact ⟨by rw [HT.out]; rfl, bx_below HB.out⟩

theorem rvalid_any (x : Com) (w : World) (hok : ComOk w w.heap.size x) (hv : ∀ c ∈ x.cs, StrOk c) :
    Calls Tryz.prog 24 #[comV x] w fun e w' => e = .returned (.bool (comB x)) ∧ Below w.heap.size w w' := by
  obtain ⟨unit, num, rA, rn, rc, cA, cn, cc, rs, cs⟩ := x
  obtain ⟨ho1, ho2, ho3, ho4⟩ := hok
  unfold comV
  simp only [comB] at ho1 ho2 ho3 ho4 hv ⊢
  unfold maxLen at ho3 ho4
  by_cases h1 : unit < 1
  · rw [numB_false (.inl h1)]
    exact rval_u1 unit num rA rn rc cA cn cc w h1
  by_cases h2 : 1099511627776 < unit
  · rw [numB_false (.inr h2)]
    exact rval_u2 unit num rA rn rc cA cn cc w (by omega) h2
  have hu : numB unit = true := by unfold numB; rw [decide_eq_true (by omega : 1 ≤ unit), decide_eq_true (by omega : unit ≤ 1099511627776)]; rfl
  by_cases h3 : 300 < cn
  · rw [decide_eq_false (by omega : ¬ cn ≤ 300)]
    simp only [Bool.and_false, Bool.false_and]
    exact rval_c unit num rA rn rc cA cn cc w (by omega) (by omega) h3
  by_cases h4 : num < 1
  · rw [numB_false (.inl h4)]
    simp only [Bool.and_false, Bool.false_and]
    exact rval_n1 unit num rA rn rc cA cn cc w (by omega) (by omega) (by omega) h4
  by_cases h5 : 1099511627776 < num
  · rw [numB_false (.inr h5)]
    simp only [Bool.and_false, Bool.false_and]
    exact rval_n2 unit num rA rn rc cA cn cc w (by omega) (by omega) (by omega) (by omega) h5
  have hm : numB num = true := by unfold numB; rw [decide_eq_true (by omega : 1 ≤ num), decide_eq_true (by omega : num ≤ 1099511627776)]; rfl
  by_cases h6 : 1099511627776 < num + cn - 1
  · rw [decide_eq_false (by omega : ¬ num + cn - 1 ≤ 1099511627776)]
    simp only [Bool.and_false, Bool.false_and]
    exact rval_last unit num rA rn rc cA cn cc w (by omega) (by omega) (by omega) (by omega) (by omega) h6
  rw [hu, hm, decide_eq_true (by omega : cn ≤ 300), decide_eq_true (by omega : num + cn - 1 ≤ 1099511627776)]
  simp only [Bool.true_and]
  exact rval_main unit num rA rn rc cA cn cc rs cs w ho1 ho2 hv (by omega) (by omega) (by omega) (by omega) (by omega) (by omega) (by omega)
end Go.Proofs.YtoiocnpamplhdaaGreatDoor
