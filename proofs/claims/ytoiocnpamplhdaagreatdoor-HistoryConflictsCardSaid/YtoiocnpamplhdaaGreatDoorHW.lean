/- History, the reference: few units with short fields. -/
import Derived.Test.YtoiocnpamplhdaaGreatDoorHV
namespace Go.Proofs.YtoiocnpamplhdaaGreatDoor
open Go.RowKit

def fewH (c : Chg) : Bool := decide (c.key.size ≤ 50) && decide (c.rcd.size ≤ 1200) && decide (c.vol.size ≤ 20)
def fewR (r : Rdd) : Bool := decide (r.key.size ≤ 60) && decide (r.ak.size ≤ 60) && decide (r.ar.size ≤ 300)
def few47 (n : Nat) (l : List Chg) : Bool := decide (n ≤ 8) && !(l.any fun x => !fewH x)
def fewC (x : Com) : Bool := few47 x.cn x.cs && decide (x.rn ≤ 8) && !(x.rs.any fun r => !fewR r)
def fewB (n : Nat) (l : List Com) : Bool := decide (n ≤ 12) && !(l.any fun x => !fewC x)

set_option maxRecDepth 100000 in
set_option maxHeartbeats 1000000 in
theorem few47_any (A : Option Addr) (n c : Nat) (l : List Chg) (w : World) (hs : Sl chC 5 w w.heap.size A n c l) :
    Calls Tryz.prog 13 #[.agg #[.int .i64 0, .int .i64 0, .slice A n c], .int .i64 8] w fun e w' => e = .returned (.bool (few47 n l)) ∧ Below w.heap.size w w' := by
  obtain ⟨R, hR⟩ : ∃ R, few47 n l = R := ⟨_, rfl⟩
  rw [hR]
  have B0 := Lib.hid (bx_start w #[.int .i64 0, .int .i64 0, .slice A n c] 45)
  have HS := Lib.hid hs
  have HL := Lib.hid hs.len
  by_cases h8 : n ≤ 8
  rotate_left
  · have hr : R = false := by rw [← hR]; unfold few47; rw [decide_eq_false h8]; rfl
    have HR := Lib.hid hr
    have d1 : decide ((8 : Int) < (n : Int)) = true := by simp; omega
    have d2 : decide (8 < n) = true := by simp; omega
    clear hR hr hs
    go_enter Tryz.func13, Tryz.ntmps13
    go_wp2
    go_ret
    exact ⟨by rw [HR.out]; rfl, bx_below B0.out⟩
  have d1 : decide ((8 : Int) < (n : Int)) = false := by simp; omega
  have d2 : decide (8 < n) = false := by simp; omega
  have hR2 : R = !(l.any fun x => !fewH x) := by rw [← hR]; unfold few47; rw [decide_eq_true h8]; rfl
  have HR := Lib.hid hR2
  clear hR hR2 hs
  go_enter Tryz.func13, Tryz.ntmps13
  go_wp2
  go_loopw [5] (fun i wr => ∃ j : Nat, j ≤ n ∧ i = .int .i64 j ∧ (∀ t, t < j → ∀ e, l[t]? = some e → fewH e = true) ∧ Below (w.heap.size + 1) (w.alloc (.cells #[.int .i64 0, .int .i64 0, .slice A n c] 45)) wr) (fun i _ => n - (intOf i).toNat)
  case atStart => exact ⟨0, Nat.zero_le _, rfl, fun t h => absurd h (by omega), Below.refl _ _⟩
  case round =>
    obtain ⟨j, hj, rfl, hall, hbel⟩ := hrel
    have HA := Lib.hid hall
    have HB := Lib.hid hbel
    have hf := bx_cell hbel 2
    simp at hf
    have hsz := bx_size hbel
    have hlt0 : w.heap.size < wr.heap.size := by omega
    clear hall hbel
    by_cases hlt : j < n
    · obtain ⟨b, o, x, rfl, hb, hg, hcell⟩ := Sl.cell (f := chC) (k := 5) chC_len (HS.out.after (bx_below HB.out) (Nat.le_of_succ_le hsz)) hlt
      have c0 := hcell 0 _ rfl; have c1 := hcell 1 _ rfl; have c2 := hcell 2 _ rfl; have c3 := hcell 3 _ rfl; have c4 := hcell 4 _ rfl
      simp only [Nat.add_zero] at c0
      have HG := Lib.hid hg
      clear hg hcell hb
      by_cases k1 : x.key.size ≤ 50
      rotate_left
      · have hp : fewH x = false := by unfold fewH; rw [decide_eq_false k1]; rfl
        have HF : Hid (R = false) := Lib.hid (by rw [HR.out, any_true HG.out hp]; rfl)
        have e1 : decide ((50 : Int) < (x.key.size : Int)) = true := by simp; omega
        have e2 : decide (50 < x.key.size) = true := by simp; omega
        clear hp k1
        go_wp2
        go_ret
        exact ⟨by rw [HF.out]; rfl, bx_below (HB.out.alloc hsz _)⟩
      have e1 : decide ((50 : Int) < (x.key.size : Int)) = false := by simp; omega
      have e2 : decide (50 < x.key.size) = false := by simp; omega
      by_cases k2 : x.rcd.size ≤ 1200
      rotate_left
      · have hp : fewH x = false := by unfold fewH; rw [decide_eq_false k2]; simp
        have HF : Hid (R = false) := Lib.hid (by rw [HR.out, any_true HG.out hp]; rfl)
        have e3 : decide ((1200 : Int) < (x.rcd.size : Int)) = true := by simp; omega
        have e4 : decide (1200 < x.rcd.size) = true := by simp; omega
        clear hp k1 k2
        go_wp2
        go_ret
        exact ⟨by rw [HF.out]; rfl, bx_below (HB.out.alloc hsz _)⟩
      have e3 : decide ((1200 : Int) < (x.rcd.size : Int)) = false := by simp; omega
      have e4 : decide (1200 < x.rcd.size) = false := by simp; omega
      by_cases k3 : x.vol.size ≤ 20
      rotate_left
      · have hp : fewH x = false := by unfold fewH; rw [decide_eq_false k3]; simp
        have HF : Hid (R = false) := Lib.hid (by rw [HR.out, any_true HG.out hp]; rfl)
        have e5 : decide ((20 : Int) < (x.vol.size : Int)) = true := by simp; omega
        have e6 : decide (20 < x.vol.size) = true := by simp; omega
        clear hp k1 k2 k3
        go_wp2
        go_ret
        exact ⟨by rw [HF.out]; rfl, bx_below (HB.out.alloc hsz _)⟩
      have e5 : decide ((20 : Int) < (x.vol.size : Int)) = false := by simp; omega
      have e6 : decide (20 < x.vol.size) = false := by simp; omega
      have HP : Hid (fewH x = true) := Lib.hid (by unfold fewH; rw [decide_eq_true k1, decide_eq_true k2, decide_eq_true k3]; rfl)
      have X2 := Lib.hid (HB.out.alloc hsz (.cells #[.int .i64 x.kind, .int .i64 x.id, .string x.key, .string x.rcd, .string x.vol] 52))
      clear k1 k2 k3
      go_wp2
      go_roundw
      case rel => exact ⟨j + 1, by omega, by go_num, all_step HA.out HG.out HP.out, X2.out⟩
      case measure => simp [intOf]; omega
    · have hjn : n = j := by omega
      subst hjn
      have HT : Hid (R = true) := Lib.hid (by rw [HR.out, any_false HL.out HA.out]; rfl)
      go_wp2
      go_ret
      exact ⟨by rw [HT.out]; rfl, bx_below HB.out⟩

theorem fewC_facts {x : Com} (h : fewC x = true) : VolsOk x ∧ (∀ c ∈ x.cs, StrOk c) := by
  unfold fewC few47 at h
  simp only [Bool.and_eq_true, Bool.not_eq_true', List.any_eq_false] at h
  have hc : ∀ c ∈ x.cs, StrOk c := fun c hc => by
    have := h.1.1.2 c hc
    simp only [fewH, Bool.not_eq_false, Bool.and_eq_true, decide_eq_true_eq] at this
    unfold StrOk maxLen
    omega
  exact ⟨fun c hx => (hc c hx).1, hc⟩
theorem fewB_facts {n : Nat} {l : List Com} (h : fewB n l = true) : n ≤ 12 ∧ (∀ x ∈ l, VolsOk x) ∧ (∀ x ∈ l, ∀ c ∈ x.cs, StrOk c) := by
  unfold fewB at h
  simp only [Bool.and_eq_true, decide_eq_true_eq, Bool.not_eq_true', List.any_eq_false] at h
  have hc : ∀ x ∈ l, fewC x = true := fun x hx => by simpa using h.2 x hx
  exact ⟨h.1, fun x hx => (fewC_facts (hc x hx)).1, fun x hx => (fewC_facts (hc x hx)).2⟩
end Go.Proofs.YtoiocnpamplhdaaGreatDoor
