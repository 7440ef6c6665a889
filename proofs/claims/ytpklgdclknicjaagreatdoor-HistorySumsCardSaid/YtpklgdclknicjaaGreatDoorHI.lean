/- History: IndexFunc and ContainsFunc at lists of units, changes, reads. Printed by wip/history/gen_hi.py. -/
import Derived.Test.YtpklgdclknicjaaGreatDoorHC
namespace Go.Proofs.YtpklgdclknicjaaGreatDoor
open Go.RowKit

theorem findIdx_hit {α : Type} {p : α → Bool} {l : List α} {x : α} {j : Nat} (hall : ∀ t, t < j → ∀ e, l[t]? = some e → p e = false) (hg : l[j]? = some x) (h : p x = true) : l.findIdx p = j := by
  have hj : j < l.length := (List.getElem?_eq_some_iff.1 hg).1
  rw [List.findIdx_eq hj]
  have hg' : l[j] = x := (List.getElem?_eq_some_iff.1 hg).2
  refine ⟨by rw [hg']; exact h, fun t ht => ?_⟩
  exact hall t ht _ (List.getElem?_eq_getElem (by omega))
theorem findIdx_miss {α : Type} {p : α → Bool} {l : List α} {n : Nat} (hl : l.length = n) (hall : ∀ t, t < n → ∀ e, l[t]? = some e → p e = false) : l.findIdx p = n := by
  rw [← hl, List.findIdx_eq_length]
  intro e he
  obtain ⟨t, ht, rfl⟩ := List.getElem_of_mem he
  exact hall t (by omega) _ (List.getElem?_eq_getElem ht)
theorem any_findIdx {α : Type} (p : α → Bool) (l : List α) : l.any p = decide (l.findIdx p < l.length) := by
  rw [Bool.eq_iff_iff]
  simp [List.findIdx_lt_length]

set_option maxRecDepth 100000 in
set_option maxHeartbeats 1000000 in
theorem units_index  (p : Com → Bool) (A : Option Addr) (n c : Nat) (l : List Com) (w : World) (hs : Sl comC 4 w w.heap.size A n c l) (hn : n ≤ 9223372036854775807)
    (hC : ∀ x ∈ l, ∀ W : World, Below w.heap.size w W → Calls Tryz.prog 17 #[.agg #[.int .i64 x.unit, .int .i64 x.num, .slice x.rA x.rn x.rc, .slice x.cA x.cn x.cc]] W fun e w' => e = .returned (.bool (p x)) ∧ Below W.heap.size W w') :
    Calls Tryz.prog 37 #[.slice A n c, .func (.func 17) #[] #[]] w fun e w' => e = .returned (.int .i64 (if l.findIdx p < n then (l.findIdx p : Int) else -1)) ∧ Below w.heap.size w w' := by
  have HS := Lib.hid hs
  have HL := Lib.hid hs.len
  have HC := Lib.hid hC
  clear hs hC
  obtain ⟨R, hR⟩ : ∃ R : Int, (if l.findIdx p < n then (l.findIdx p : Int) else -1) = R := ⟨_, rfl⟩
  rw [hR]
  have HR := Lib.hid hR
  clear hR
  go_enter Tryz.func37, Tryz.ntmps37
  go_wp2
  go_loopw [8] (fun i wr => ∃ j : Nat, j ≤ n ∧ i = .int .i64 j ∧ (∀ t, t < j → ∀ e, l[t]? = some e → p e = false) ∧ Below w.heap.size w wr) (fun i _ => n - (intOf i).toNat)
  case atStart => exact ⟨0, Nat.zero_le _, rfl, fun t h => absurd h (by omega), Below.refl _ _⟩
  case round =>
    obtain ⟨j, hj, rfl, hall, hbel⟩ := hrel
    have HA := Lib.hid hall
    have hsz := hbel.size
    clear hall
    by_cases hlt : j < n
    · obtain ⟨b, o, x, rfl, hb, hg, hcell⟩ := Sl.cell (f := comC) (k := 4) (fun _ => rfl) (HS.out.below hbel) hlt
      have c0 := hcell 0 _ rfl; have c1 := hcell 1 _ rfl; have c2 := hcell 2 _ rfl; have c3 := hcell 3 _ rfl
      simp only [Nat.add_zero] at c0
      have HCX := Lib.hid (HC.out x (List.mem_of_getElem? hg) wr hbel)
      have HG := Lib.hid hg
      clear hg hcell
      cases hl : p x with
      | true =>
        have hr : R = (j : Int) := by rw [← HR.out, findIdx_hit HA.out HG.out hl, if_pos hlt]
        have HRR := Lib.hid hr
        have HLB := Lib.hid hl
        clear hr hl
        go_wp2_with fail
        refine HCX.out.mono ?_
        rintro e w1 ⟨rfl, hb1⟩
        rw [HLB.out]
        have hb2 := below_next hbel hb1 hsz
        clear hb1
        go_wp2
        go_ret
        exact ⟨by rw [HRR.out]; rfl, hb2⟩
      | false =>
        have HLB := Lib.hid hl
        clear hl
        go_wp2_with fail
        refine HCX.out.mono ?_
        rintro e w1 ⟨rfl, hb1⟩
        rw [HLB.out]
        have hb2 := below_next hbel hb1 hsz
        clear hb1
        go_wp2
        go_roundw
        case rel =>
          refine ⟨j + 1, by omega, by go_num, fun t ht e he => ?_, hb2⟩
          by_cases h : t = j
          · subst h; rw [HG.out] at he; injection he with he; subst he; exact HLB.out
          · exact HA.out t (by omega) e he
        case measure => simp [intOf]; omega
    · have hr : R = -1 := by rw [← HR.out, findIdx_miss HL.out (fun t ht => HA.out t (by omega)), if_neg (by omega)]
      have HRR := Lib.hid hr
      clear hr
      go_wp2
      go_ret
      exact ⟨by rw [HRR.out]; rfl, hbel⟩

set_option maxRecDepth 100000 in
theorem units_any  (p : Com → Bool) (A : Option Addr) (n c : Nat) (l : List Com) (w : World) (hs : Sl comC 4 w w.heap.size A n c l) (hn : n ≤ 9223372036854775807)
    (hC : ∀ x ∈ l, ∀ W : World, Below w.heap.size w W → Calls Tryz.prog 17 #[.agg #[.int .i64 x.unit, .int .i64 x.num, .slice x.rA x.rn x.rc, .slice x.cA x.cn x.cc]] W fun e w' => e = .returned (.bool (p x)) ∧ Below W.heap.size W w') :
    Calls Tryz.prog 16 #[.slice A n c, .func (.func 17) #[] #[]] w fun e w' => e = .returned (.bool (l.any p)) ∧ Below w.heap.size w w' := by
  have H := Lib.hid (units_index p A n c l w hs hn hC)
  have ha := any_findIdx p l
  rw [hs.len] at ha
  have HA := Lib.hid ha
  clear hs hC ha
  generalize l.findIdx p = q at H HA
  go_enter Tryz.func16, Tryz.ntmps16
  by_cases hq : q < n
  · rw [if_pos hq] at H
    go_wp2_with (go_at_call 37; refine H.out.mono ?_; rintro e w1 ⟨rfl, hb⟩)
    go_ret
    exact ⟨by rw [HA.out]; simp [hq], hb⟩
  · rw [if_neg hq] at H
    go_wp2_with (go_at_call 37; refine H.out.mono ?_; rintro e w1 ⟨rfl, hb⟩)
    go_ret
    exact ⟨by rw [HA.out]; simp [hq], hb⟩

set_option maxRecDepth 100000 in
set_option maxHeartbeats 1000000 in
theorem chgs_index  (p : Chg → Bool) (A : Option Addr) (n c : Nat) (l : List Chg) (w : World) (hs : Sl chC 5 w w.heap.size A n c l) (hn : n ≤ 9223372036854775807)
    (hC : ∀ x ∈ l, ∀ W : World, Below w.heap.size w W → Calls Tryz.prog 40 #[.agg #[.int .i64 x.kind, .int .i64 x.id, .string x.key, .string x.rcd, .string x.vol]] W fun e w' => e = .returned (.bool (p x)) ∧ Below W.heap.size W w') :
    Calls Tryz.prog 60 #[.slice A n c, .func (.func 40) #[] #[]] w fun e w' => e = .returned (.int .i64 (if l.findIdx p < n then (l.findIdx p : Int) else -1)) ∧ Below w.heap.size w w' := by
  have HS := Lib.hid hs
  have HL := Lib.hid hs.len
  have HC := Lib.hid hC
  clear hs hC
  obtain ⟨R, hR⟩ : ∃ R : Int, (if l.findIdx p < n then (l.findIdx p : Int) else -1) = R := ⟨_, rfl⟩
  rw [hR]
  have HR := Lib.hid hR
  clear hR
  go_enter Tryz.func60, Tryz.ntmps60
  go_wp2
  go_loopw [8] (fun i wr => ∃ j : Nat, j ≤ n ∧ i = .int .i64 j ∧ (∀ t, t < j → ∀ e, l[t]? = some e → p e = false) ∧ Below w.heap.size w wr) (fun i _ => n - (intOf i).toNat)
  case atStart => exact ⟨0, Nat.zero_le _, rfl, fun t h => absurd h (by omega), Below.refl _ _⟩
  case round =>
    obtain ⟨j, hj, rfl, hall, hbel⟩ := hrel
    have HA := Lib.hid hall
    have hsz := hbel.size
    clear hall
    by_cases hlt : j < n
    · obtain ⟨b, o, x, rfl, hb, hg, hcell⟩ := Sl.cell (f := chC) (k := 5) (fun _ => rfl) (HS.out.below hbel) hlt
      have c0 := hcell 0 _ rfl; have c1 := hcell 1 _ rfl; have c2 := hcell 2 _ rfl; have c3 := hcell 3 _ rfl; have c4 := hcell 4 _ rfl
      simp only [Nat.add_zero] at c0
      have HCX := Lib.hid (HC.out x (List.mem_of_getElem? hg) wr hbel)
      have HG := Lib.hid hg
      clear hg hcell
      cases hl : p x with
      | true =>
        have hr : R = (j : Int) := by rw [← HR.out, findIdx_hit HA.out HG.out hl, if_pos hlt]
        have HRR := Lib.hid hr
        have HLB := Lib.hid hl
        clear hr hl
        go_wp2_with fail
        refine HCX.out.mono ?_
        rintro e w1 ⟨rfl, hb1⟩
        rw [HLB.out]
        have hb2 := below_next hbel hb1 hsz
        clear hb1
        go_wp2
        go_ret
        exact ⟨by rw [HRR.out]; rfl, hb2⟩
      | false =>
        have HLB := Lib.hid hl
        clear hl
        go_wp2_with fail
        refine HCX.out.mono ?_
        rintro e w1 ⟨rfl, hb1⟩
        rw [HLB.out]
        have hb2 := below_next hbel hb1 hsz
        clear hb1
        go_wp2
        go_roundw
        case rel =>
          refine ⟨j + 1, by omega, by go_num, fun t ht e he => ?_, hb2⟩
          by_cases h : t = j
          · subst h; rw [HG.out] at he; injection he with he; subst he; exact HLB.out
          · exact HA.out t (by omega) e he
        case measure => simp [intOf]; omega
    · have hr : R = -1 := by rw [← HR.out, findIdx_miss HL.out (fun t ht => HA.out t (by omega)), if_neg (by omega)]
      have HRR := Lib.hid hr
      clear hr
      go_wp2
      go_ret
      exact ⟨by rw [HRR.out]; rfl, hbel⟩

set_option maxRecDepth 100000 in
theorem chgs_any  (p : Chg → Bool) (A : Option Addr) (n c : Nat) (l : List Chg) (w : World) (hs : Sl chC 5 w w.heap.size A n c l) (hn : n ≤ 9223372036854775807)
    (hC : ∀ x ∈ l, ∀ W : World, Below w.heap.size w W → Calls Tryz.prog 40 #[.agg #[.int .i64 x.kind, .int .i64 x.id, .string x.key, .string x.rcd, .string x.vol]] W fun e w' => e = .returned (.bool (p x)) ∧ Below W.heap.size W w') :
    Calls Tryz.prog 39 #[.slice A n c, .func (.func 40) #[] #[]] w fun e w' => e = .returned (.bool (l.any p)) ∧ Below w.heap.size w w' := by
  have H := Lib.hid (chgs_index p A n c l w hs hn hC)
  have ha := any_findIdx p l
  rw [hs.len] at ha
  have HA := Lib.hid ha
  clear hs hC ha
  generalize l.findIdx p = q at H HA
  go_enter Tryz.func39, Tryz.ntmps39
  by_cases hq : q < n
  · rw [if_pos hq] at H
    go_wp2_with (go_at_call 60; refine H.out.mono ?_; rintro e w1 ⟨rfl, hb⟩)
    go_ret
    exact ⟨by rw [HA.out]; simp [hq], hb⟩
  · rw [if_neg hq] at H
    go_wp2_with (go_at_call 60; refine H.out.mono ?_; rintro e w1 ⟨rfl, hb⟩)
    go_ret
    exact ⟨by rw [HA.out]; simp [hq], hb⟩

set_option maxRecDepth 100000 in
set_option maxHeartbeats 1000000 in
theorem rdds_index  (p : Rdd → Bool) (A : Option Addr) (n c : Nat) (l : List Rdd) (w : World) (hs : Sl rdC 6 w w.heap.size A n c l) (hn : n ≤ 9223372036854775807)
    (hC : ∀ x ∈ l, ∀ W : World, Below w.heap.size w W → Calls Tryz.prog 43 #[.agg #[.int .i64 x.kind, .int .i64 x.id, .string x.key, .string x.ak, .string x.ar, .int .i64 x.code]] W fun e w' => e = .returned (.bool (p x)) ∧ Below W.heap.size W w') :
    Calls Tryz.prog 27 #[.slice A n c, .func (.func 43) #[] #[]] w fun e w' => e = .returned (.int .i64 (if l.findIdx p < n then (l.findIdx p : Int) else -1)) ∧ Below w.heap.size w w' := by
  have HS := Lib.hid hs
  have HL := Lib.hid hs.len
  have HC := Lib.hid hC
  clear hs hC
  obtain ⟨R, hR⟩ : ∃ R : Int, (if l.findIdx p < n then (l.findIdx p : Int) else -1) = R := ⟨_, rfl⟩
  rw [hR]
  have HR := Lib.hid hR
  clear hR
  go_enter Tryz.func27, Tryz.ntmps27
  go_wp2
  go_loopw [8] (fun i wr => ∃ j : Nat, j ≤ n ∧ i = .int .i64 j ∧ (∀ t, t < j → ∀ e, l[t]? = some e → p e = false) ∧ Below w.heap.size w wr) (fun i _ => n - (intOf i).toNat)
  case atStart => exact ⟨0, Nat.zero_le _, rfl, fun t h => absurd h (by omega), Below.refl _ _⟩
  case round =>
    obtain ⟨j, hj, rfl, hall, hbel⟩ := hrel
    have HA := Lib.hid hall
    have hsz := hbel.size
    clear hall
    by_cases hlt : j < n
    · obtain ⟨b, o, x, rfl, hb, hg, hcell⟩ := Sl.cell (f := rdC) (k := 6) (fun _ => rfl) (HS.out.below hbel) hlt
      have c0 := hcell 0 _ rfl; have c1 := hcell 1 _ rfl; have c2 := hcell 2 _ rfl; have c3 := hcell 3 _ rfl; have c4 := hcell 4 _ rfl; have c5 := hcell 5 _ rfl
      simp only [Nat.add_zero] at c0
      have HCX := Lib.hid (HC.out x (List.mem_of_getElem? hg) wr hbel)
      have HG := Lib.hid hg
      clear hg hcell
      cases hl : p x with
      | true =>
        have hr : R = (j : Int) := by rw [← HR.out, findIdx_hit HA.out HG.out hl, if_pos hlt]
        have HRR := Lib.hid hr
        have HLB := Lib.hid hl
        clear hr hl
        go_wp2_with fail
        refine HCX.out.mono ?_
        rintro e w1 ⟨rfl, hb1⟩
        rw [HLB.out]
        have hb2 := below_next hbel hb1 hsz
        clear hb1
        go_wp2
        go_ret
        exact ⟨by rw [HRR.out]; rfl, hb2⟩
      | false =>
        have HLB := Lib.hid hl
        clear hl
        go_wp2_with fail
        refine HCX.out.mono ?_
        rintro e w1 ⟨rfl, hb1⟩
        rw [HLB.out]
        have hb2 := below_next hbel hb1 hsz
        clear hb1
        go_wp2
        go_roundw
        case rel =>
          refine ⟨j + 1, by omega, by go_num, fun t ht e he => ?_, hb2⟩
          by_cases h : t = j
          · subst h; rw [HG.out] at he; injection he with he; subst he; exact HLB.out
          · exact HA.out t (by omega) e he
        case measure => simp [intOf]; omega
    · have hr : R = -1 := by rw [← HR.out, findIdx_miss HL.out (fun t ht => HA.out t (by omega)), if_neg (by omega)]
      have HRR := Lib.hid hr
      clear hr
      go_wp2
      go_ret
      exact ⟨by rw [HRR.out]; rfl, hbel⟩

set_option maxRecDepth 100000 in
theorem rdds_any  (p : Rdd → Bool) (A : Option Addr) (n c : Nat) (l : List Rdd) (w : World) (hs : Sl rdC 6 w w.heap.size A n c l) (hn : n ≤ 9223372036854775807)
    (hC : ∀ x ∈ l, ∀ W : World, Below w.heap.size w W → Calls Tryz.prog 43 #[.agg #[.int .i64 x.kind, .int .i64 x.id, .string x.key, .string x.ak, .string x.ar, .int .i64 x.code]] W fun e w' => e = .returned (.bool (p x)) ∧ Below W.heap.size W w') :
    Calls Tryz.prog 42 #[.slice A n c, .func (.func 43) #[] #[]] w fun e w' => e = .returned (.bool (l.any p)) ∧ Below w.heap.size w w' := by
  have H := Lib.hid (rdds_index p A n c l w hs hn hC)
  have ha := any_findIdx p l
  rw [hs.len] at ha
  have HA := Lib.hid ha
  clear hs hC ha
  generalize l.findIdx p = q at H HA
  go_enter Tryz.func42, Tryz.ntmps42
  by_cases hq : q < n
  · rw [if_pos hq] at H
    go_wp2_with (go_at_call 27; refine H.out.mono ?_; rintro e w1 ⟨rfl, hb⟩)
    go_ret
    exact ⟨by rw [HA.out]; simp [hq], hb⟩
  · rw [if_neg hq] at H
    go_wp2_with (go_at_call 27; refine H.out.mono ?_; rintro e w1 ⟨rfl, hb⟩)
    go_ret
    exact ⟨by rw [HA.out]; simp [hq], hb⟩
end Go.Proofs.YtpklgdclknicjaaGreatDoor
