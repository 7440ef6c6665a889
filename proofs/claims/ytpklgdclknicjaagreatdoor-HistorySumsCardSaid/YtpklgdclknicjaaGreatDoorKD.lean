/- History: two lists of touches meet. Printed by wip/history/gen_kd.py. -/
import Derived.Test.YtpklgdclknicjaaGreatDoorKC
namespace Go.Proofs.YtpklgdclknicjaaGreatDoor
open Go.RowKit

set_option maxRecDepth 100000 in
set_option maxHeartbeats 1000000 in
theorem tin_index (cg : Nat) (p : Tch → Bool) (A : Option Addr) (n c : Nat) (l : List Tch) (w : World) (hs : Sl tchC 4 w w.heap.size A n c l) (hn : n ≤ 9223372036854775807)
    (hC : ∀ x ∈ l, ∀ W : World, Below w.heap.size w W → Calls Tryz.prog 52 #[.agg #[.int .i64 x.id, .string x.r.lo, .string x.r.hi, .bool x.r.en], .pointer (some ⟨cg, 0, none⟩)] W fun e w' => e = .returned (.bool (p x)) ∧ Below W.heap.size W w') :
    Calls Tryz.prog 71 #[.slice A n c, .func (.func 52) #[] #[.pointer (some ⟨cg, 0, none⟩)]] w fun e w' => e = .returned (.int .i64 (if l.findIdx p < n then (l.findIdx p : Int) else -1)) ∧ Below w.heap.size w w' := by
  have HS := Lib.hid hs
  have HL := Lib.hid hs.len
  have HC := Lib.hid hC
  clear hs hC
  obtain ⟨R, hR⟩ : ∃ R : Int, (if l.findIdx p < n then (l.findIdx p : Int) else -1) = R := ⟨_, rfl⟩
  rw [hR]
  have HR := Lib.hid hR
  clear hR
  go_enter Tryz.func71, Tryz.ntmps71
  go_wp2
  go_loopw [8] (fun i wr => ∃ j : Nat, j ≤ n ∧ i = .int .i64 j ∧ (∀ t, t < j → ∀ e, l[t]? = some e → p e = false) ∧ Below w.heap.size w wr) (fun i _ => n - (intOf i).toNat)
  case atStart => exact ⟨0, Nat.zero_le _, rfl, fun t h => absurd h (by omega), Below.refl _ _⟩
  case round =>
    obtain ⟨j, hj, rfl, hall, hbel⟩ := hrel
    have HA := Lib.hid hall
    have hsz := hbel.size
    clear hall
    by_cases hlt : j < n
    · obtain ⟨b, o, x, rfl, hb, hg, hcell⟩ := Sl.cell (f := tchC) (k := 4) (fun _ => rfl) (HS.out.below hbel) hlt
      have c0 := hcell 0 _ rfl; have c1 := hcell 1 _ rfl; have c2 := hcell 2 _ rfl; have c3 := hcell 3 _ rfl
      simp only [Nat.add_zero] at c0
      have HCX := Lib.hid (HC.out x (List.mem_of_getElem? hg) wr hbel)
      have HG := Lib.hid hg
      clear hg hcell
      cases hl : p x with
      | true =>
        have hr : R = (j : Int) := by rw [← HR.out, findIdx_hit HA.out HG.out hl, if_pos hlt]
        have HRR := Lib.hid hr
        have HLB := Lib.hid hl
        clear hr hl
        go_wp2_with fail
        refine HCX.out.mono ?_
        rintro e w1 ⟨rfl, hb1⟩
        rw [HLB.out]
        have hb2 := below_next hbel hb1 hsz
        clear hb1
        go_wp2
        go_ret
        exact ⟨by rw [HRR.out]; rfl, hb2⟩
      | false =>
        have HLB := Lib.hid hl
        clear hl
        go_wp2_with fail
        refine HCX.out.mono ?_
        rintro e w1 ⟨rfl, hb1⟩
        rw [HLB.out]
        have hb2 := below_next hbel hb1 hsz
        clear hb1
        go_wp2
        go_roundw
        case rel =>
          refine ⟨j + 1, by omega, by go_num, fun t ht e he => ?_, hb2⟩
          by_cases h : t = j
          · subst h; rw [HG.out] at he; injection he with he; subst he; exact HLB.out
          · exact HA.out t (by omega) e he
        case measure => simp [intOf]; omega
    · have hr : R = -1 := by rw [← HR.out, findIdx_miss HL.out (fun t ht => HA.out t (by omega)), if_neg (by omega)]
      have HRR := Lib.hid hr
      clear hr
      go_wp2
      go_ret
      exact ⟨by rw [HRR.out]; rfl, hbel⟩

set_option maxRecDepth 100000 in
theorem tin_any (cg : Nat) (p : Tch → Bool) (A : Option Addr) (n c : Nat) (l : List Tch) (w : World) (hs : Sl tchC 4 w w.heap.size A n c l) (hn : n ≤ 9223372036854775807)
    (hC : ∀ x ∈ l, ∀ W : World, Below w.heap.size w W → Calls Tryz.prog 52 #[.agg #[.int .i64 x.id, .string x.r.lo, .string x.r.hi, .bool x.r.en], .pointer (some ⟨cg, 0, none⟩)] W fun e w' => e = .returned (.bool (p x)) ∧ Below W.heap.size W w') :
    Calls Tryz.prog 50 #[.slice A n c, .func (.func 52) #[] #[.pointer (some ⟨cg, 0, none⟩)]] w fun e w' => e = .returned (.bool (l.any p)) ∧ Below w.heap.size w w' := by
  have H := Lib.hid (tin_index cg p A n c l w hs hn hC)
  have ha := any_findIdx p l
  rw [hs.len] at ha
  have HA := Lib.hid ha
  clear hs hC ha
  generalize l.findIdx p = q at H HA
  go_enter Tryz.func50, Tryz.ntmps50
  by_cases hq : q < n
  · rw [if_pos hq] at H
    go_wp2_with (go_at_call 71; refine H.out.mono ?_; rintro e w1 ⟨rfl, hb⟩)
    go_ret
    exact ⟨by rw [HA.out]; simp [hq], hb⟩
  · rw [if_neg hq] at H
    go_wp2_with (go_at_call 71; refine H.out.mono ?_; rintro e w1 ⟨rfl, hb⟩)
    go_ret
    exact ⟨by rw [HA.out]; simp [hq], hb⟩

set_option maxRecDepth 100000 in
set_option maxHeartbeats 1000000 in
theorem tout_index (cg : Nat) (p : Tch → Bool) (A : Option Addr) (n c : Nat) (l : List Tch) (w : World) (hs : Sl tchC 4 w w.heap.size A n c l) (hn : n ≤ 9223372036854775807)
    (hC : ∀ x ∈ l, ∀ W : World, Below w.heap.size w W → Calls Tryz.prog 51 #[.agg #[.int .i64 x.id, .string x.r.lo, .string x.r.hi, .bool x.r.en], .pointer (some ⟨cg, 0, none⟩)] W fun e w' => e = .returned (.bool (p x)) ∧ Below W.heap.size W w') :
    Calls Tryz.prog 71 #[.slice A n c, .func (.func 51) #[] #[.pointer (some ⟨cg, 0, none⟩)]] w fun e w' => e = .returned (.int .i64 (if l.findIdx p < n then (l.findIdx p : Int) else -1)) ∧ Below w.heap.size w w' := by
  have HS := Lib.hid hs
  have HL := Lib.hid hs.len
  have HC := Lib.hid hC
  clear hs hC
  obtain ⟨R, hR⟩ : ∃ R : Int, (if l.findIdx p < n then (l.findIdx p : Int) else -1) = R := ⟨_, rfl⟩
  rw [hR]
  have HR := Lib.hid hR
  clear hR
  go_enter Tryz.func71, Tryz.ntmps71
  go_wp2
  go_loopw [8] (fun i wr => ∃ j : Nat, j ≤ n ∧ i = .int .i64 j ∧ (∀ t, t < j → ∀ e, l[t]? = some e → p e = false) ∧ Below w.heap.size w wr) (fun i _ => n - (intOf i).toNat)
  case atStart => exact ⟨0, Nat.zero_le _, rfl, fun t h => absurd h (by omega), Below.refl _ _⟩
  case round =>
    obtain ⟨j, hj, rfl, hall, hbel⟩ := hrel
    have HA := Lib.hid hall
    have hsz := hbel.size
    clear hall
    by_cases hlt : j < n
    · obtain ⟨b, o, x, rfl, hb, hg, hcell⟩ := Sl.cell (f := tchC) (k := 4) (fun _ => rfl) (HS.out.below hbel) hlt
      have c0 := hcell 0 _ rfl; have c1 := hcell 1 _ rfl; have c2 := hcell 2 _ rfl; have c3 := hcell 3 _ rfl
      simp only [Nat.add_zero] at c0
      have HCX := Lib.hid (HC.out x (List.mem_of_getElem? hg) wr hbel)
      have HG := Lib.hid hg
      clear hg hcell
      cases hl : p x with
      | true =>
        have hr : R = (j : Int) := by rw [← HR.out, findIdx_hit HA.out HG.out hl, if_pos hlt]
        have HRR := Lib.hid hr
        have HLB := Lib.hid hl
        clear hr hl
        go_wp2_with fail
        refine HCX.out.mono ?_
        rintro e w1 ⟨rfl, hb1⟩
        rw [HLB.out]
        have hb2 := below_next hbel hb1 hsz
        clear hb1
        go_wp2
        go_ret
        exact ⟨by rw [HRR.out]; rfl, hb2⟩
      | false =>
        have HLB := Lib.hid hl
        clear hl
        go_wp2_with fail
        refine HCX.out.mono ?_
        rintro e w1 ⟨rfl, hb1⟩
        rw [HLB.out]
        have hb2 := below_next hbel hb1 hsz
        clear hb1
        go_wp2
        go_roundw
        case rel =>
          refine ⟨j + 1, by omega, by go_num, fun t ht e he => ?_, hb2⟩
          by_cases h : t = j
          · subst h; rw [HG.out] at he; injection he with he; subst he; exact HLB.out
          · exact HA.out t (by omega) e he
        case measure => simp [intOf]; omega
    · have hr : R = -1 := by rw [← HR.out, findIdx_miss HL.out (fun t ht => HA.out t (by omega)), if_neg (by omega)]
      have HRR := Lib.hid hr
      clear hr
      go_wp2
      go_ret
      exact ⟨by rw [HRR.out]; rfl, hbel⟩

set_option maxRecDepth 100000 in
theorem tout_any (cg : Nat) (p : Tch → Bool) (A : Option Addr) (n c : Nat) (l : List Tch) (w : World) (hs : Sl tchC 4 w w.heap.size A n c l) (hn : n ≤ 9223372036854775807)
    (hC : ∀ x ∈ l, ∀ W : World, Below w.heap.size w W → Calls Tryz.prog 51 #[.agg #[.int .i64 x.id, .string x.r.lo, .string x.r.hi, .bool x.r.en], .pointer (some ⟨cg, 0, none⟩)] W fun e w' => e = .returned (.bool (p x)) ∧ Below W.heap.size W w') :
    Calls Tryz.prog 50 #[.slice A n c, .func (.func 51) #[] #[.pointer (some ⟨cg, 0, none⟩)]] w fun e w' => e = .returned (.bool (l.any p)) ∧ Below w.heap.size w w' := by
  have H := Lib.hid (tout_index cg p A n c l w hs hn hC)
  have ha := any_findIdx p l
  rw [hs.len] at ha
  have HA := Lib.hid ha
  clear hs hC ha
  generalize l.findIdx p = q at H HA
  go_enter Tryz.func50, Tryz.ntmps50
  by_cases hq : q < n
  · rw [if_pos hq] at H
    go_wp2_with (go_at_call 71; refine H.out.mono ?_; rintro e w1 ⟨rfl, hb⟩)
    go_ret
    exact ⟨by rw [HA.out]; simp [hq], hb⟩
  · rw [if_neg hq] at H
    go_wp2_with (go_at_call 71; refine H.out.mono ?_; rintro e w1 ⟨rfl, hb⟩)
    go_ret
    exact ⟨by rw [HA.out]; simp [hq], hb⟩

def tmB (x y : Tch) : Bool := decide (x.id = y.id) && overlapB x.r y.r
def XF (x : Tch) (g : Nat) (w : World) : Prop := w.cell? ⟨g, 0, none⟩ = some (.int .i64 x.id) ∧ w.cell? ⟨g, 1, none⟩ = some (.string x.r.lo) ∧ w.cell? ⟨g, 2, none⟩ = some (.string x.r.hi) ∧ w.cell? ⟨g, 3, none⟩ = some (.bool x.r.en)
set_option maxRecDepth 100000 in
theorem m11_any (x y : Tch) (g : Nat) (w : World) (hx : XF x g w) :
    Calls Tryz.prog 52 #[.agg #[.int .i64 y.id, .string y.r.lo, .string y.r.hi, .bool y.r.en], .pointer (some ⟨g, 0, none⟩)] w fun e w' => e = .returned (.bool (tmB x y)) ∧ Below w.heap.size w w' := by
  obtain ⟨x0, x1, x2, x3⟩ := hx
  have lt := block_lt_of_cell x0
  simp only at lt
  obtain ⟨xi, xl, xh, xe⟩ := x
  obtain ⟨yi, yl, yh, ye⟩ := y
  unfold tmB
  simp only at x0 x1 x2 x3 ⊢
  have B0 := Lib.hid (bx_start w #[.int .i64 yi, .string yl, .string yh, .bool ye] 111)
  by_cases hi : xi = yi
  · rw [decide_eq_true hi, Bool.true_and]
    have d0 : (xi == yi) = true := by simpa using hi
    have HO : Hid (∀ W : World, Calls Tryz.prog 53 #[.agg #[.string xl, .string xh, .bool xe], .agg #[.string yl, .string yh, .bool ye]] W fun e w' => e = .returned (.bool (overlapB ⟨xl, xh, xe⟩ ⟨yl, yh, ye⟩)) ∧ Below W.heap.size W w') := Lib.hid fun W => overlap_any ⟨xl, xh, xe⟩ ⟨yl, yh, ye⟩ W
    generalize overlapB ⟨xl, xh, xe⟩ ⟨yl, yh, ye⟩ = R at HO ⊢
    subst hi
    clear d0
    go_enter Tryz.func52, Tryz.ntmps52
    go_wp2_with (go_at_call 53; refine (HO.out _).mono ?_; rintro e w2 ⟨rfl, hb2⟩; have X2 := Lib.hid (below_next (bx_below B0.out) hb2 (Nat.le_of_succ_le (bx_size B0.out))); clear hb2)
    go_ret
    exact ⟨rfl, X2.out⟩
  · rw [decide_eq_false hi, Bool.false_and]
    have d0 : (xi == yi) = false := by simpa using hi
    clear hi
    go_enter Tryz.func52, Tryz.ntmps52
    go_wp2
    go_ret
    exact ⟨rfl, bx_below B0.out⟩
set_option maxRecDepth 100000 in
theorem m1_any (x : Tch) (A : Option Addr) (n c : Nat) (l : List Tch) (g : Nat) (w : World) (hg : w.cell? ⟨g, 0, none⟩ = some (.slice A n c)) (hs : Sl tchC 4 w w.heap.size A n c l) (hn : n ≤ 1000) :
    Calls Tryz.prog 51 #[.agg #[.int .i64 x.id, .string x.r.lo, .string x.r.hi, .bool x.r.en], .pointer (some ⟨g, 0, none⟩)] w fun e w' => e = .returned (.bool (l.any fun y => tmB x y)) ∧ Below w.heap.size w w' := by
  have lt := block_lt_of_cell hg
  simp only at lt
  have B0 := Lib.hid (bx_start w #[.int .i64 x.id, .string x.r.lo, .string x.r.hi, .bool x.r.en] 111)
  have kX := Blk.new w 111 #[.int .i64 x.id, .string x.r.lo, .string x.r.hi, .bool x.r.en]
  have HA := Lib.hid (tin_any w.heap.size (fun y => tmB x y) A n c l (w.alloc (.cells #[.int .i64 x.id, .string x.r.lo, .string x.r.hi, .bool x.r.en] 111)) (hs.after (bx_below B0.out) (Nat.le_of_succ_le (bx_size B0.out))) (by omega) (fun y _ W hb => m11_any x y w.heap.size W ⟨(kX.below hb kX.lt).cell 0, (kX.below hb kX.lt).cell 1, (kX.below hb kX.lt).cell 2, (kX.below hb kX.lt).cell 3⟩))
  generalize (l.any fun y => tmB x y) = R at HA ⊢
  clear kX hs
  go_enter Tryz.func51, Tryz.ntmps51
  go_wp2_with (go_at_call 50; refine HA.out.mono ?_; rintro e w2 ⟨rfl, hb2⟩; have X2 := Lib.hid (below_next (bx_below B0.out) hb2 (Nat.le_of_succ_le (bx_size B0.out))); clear hb2)
  go_ret
  exact ⟨rfl, X2.out⟩
def meetB (a b : List Tch) : Bool := a.any fun x => b.any fun y => tmB x y
set_option maxRecDepth 100000 in
theorem hmeet_any (A A' : Option Addr) (n c n' c' : Nat) (a b : List Tch) (w : World) (ha : Sl tchC 4 w w.heap.size A n c a) (hb : Sl tchC 4 w w.heap.size A' n' c' b) (hn : n ≤ 1000) (hn' : n' ≤ 1000) :
    Calls Tryz.prog 30 #[.slice A n c, .slice A' n' c'] w fun e w' => e = .returned (.bool (meetB a b)) ∧ Below w.heap.size w w' := by
  have B0 := Lib.hid (bx_start w #[.slice A' n' c'] 85)
  have kB := Blk.new w 85 #[.slice A' n' c']
  have HA := Lib.hid (tout_any w.heap.size (fun x => b.any fun y => tmB x y) A n c a (w.alloc (.cells #[.slice A' n' c'] 85)) (ha.after (bx_below B0.out) (Nat.le_of_succ_le (bx_size B0.out))) (by omega) (fun x _ W hbw => m1_any x A' n' c' b w.heap.size W ((kB.below hbw kB.lt).cell 0) (hb.after ((bx_below B0.out).trans (hbw.mono (Nat.le_of_succ_le (bx_size B0.out)))) (Nat.le_trans (Nat.le_of_succ_le (bx_size B0.out)) hbw.size)) hn'))
  unfold meetB
  generalize (a.any fun x => b.any fun y => tmB x y) = R at HA ⊢
  clear kB ha hb
  go_enter Tryz.func30, Tryz.ntmps30
  go_wp2_with (go_at_call 50; refine HA.out.mono ?_; rintro e w2 ⟨rfl, hb2⟩; have X2 := Lib.hid (below_next (bx_below B0.out) hb2 (Nat.le_of_succ_le (bx_size B0.out))); clear hb2)
  go_ret
  exact ⟨rfl, X2.out⟩
end Go.Proofs.YtpklgdclknicjaaGreatDoor
