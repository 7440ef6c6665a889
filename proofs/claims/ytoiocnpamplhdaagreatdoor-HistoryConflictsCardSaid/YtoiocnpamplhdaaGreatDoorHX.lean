/- History, the reference: few units. -/
import Derived.Test.YtoiocnpamplhdaaGreatDoorHW
namespace Go.Proofs.YtoiocnpamplhdaaGreatDoor
open Go.RowKit

set_option maxRecDepth 100000 in
set_option maxHeartbeats 2000000 in
theorem few_any (A : Option Addr) (n c : Nat) (l : List Com) (w : World) (hs : Cs w w.heap.size A n c l) :
    Calls Tryz.prog 5 #[.slice none 0 0, .slice A n c] w fun e w' => e = .returned (.bool (fewB n l)) ∧ Below w.heap.size w w' := by
  obtain ⟨R, hR⟩ : ∃ R, fewB n l = R := ⟨_, rfl⟩
  rw [hR]
  have HS := Lib.hid hs
  have HL := Lib.hid hs.1.len
  by_cases h8 : n ≤ 12
  rotate_left
  · have hr : R = false := by rw [← hR]; unfold fewB; rw [decide_eq_false h8]; rfl
    have HR := Lib.hid hr
    have d1 : decide ((12 : Int) < (n : Int)) = true := by simp; omega
    have d2 : decide (12 < n) = true := by simp; omega
    clear hR hr hs
    go_enter Tryz.func5, Tryz.ntmps5
    go_wp2
    go_ret
    exact ⟨by rw [HR.out]; rfl, Below.refl _ _⟩
  have d1 : decide ((12 : Int) < (n : Int)) = false := by simp; omega
  have d2 : decide (12 < n) = false := by simp; omega
  have hR2 : R = !(l.any fun x => !fewC x) := by rw [← hR]; unfold fewB; rw [decide_eq_true h8]; rfl
  have HR := Lib.hid hR2
  clear hR hR2 hs
  go_enter Tryz.func5, Tryz.ntmps5
  go_wp2
  refine wp_loop_rounds 1 ?_
  rw [rounds_succ]
  go_wp2
  go_loopw [6] (fun i wr => ∃ j : Nat, j ≤ n ∧ i = .int .i64 j ∧ (∀ t, t < j → ∀ e, l[t]? = some e → fewC e = true) ∧ Below w.heap.size w wr) (fun i _ => n - (intOf i).toNat)
  case atStart => exact ⟨0, Nat.zero_le _, rfl, fun t h => absurd h (by omega), Below.refl _ _⟩
  case round =>
    obtain ⟨j, hj, rfl, hall, hbel⟩ := hrel
    have HA := Lib.hid hall
    have HB := Lib.hid hbel
    clear hall hbel
    by_cases hlt : j < n
    · obtain ⟨b, o, x, rfl, hb, hg, hcell⟩ := Sl.cell (f := comC) (k := 4) comC_len HS.out.1 hlt
      have HCELL := Lib.hid hcell
      have HLT := Lib.hid hlt
      have HBL := Lib.hid hb
      have HG := Lib.hid hg
      have hok := HS.out.2 x (List.mem_of_getElem? hg)
      have HOK := Lib.hid hok
      have c2 := (HB.out.cell (p := ⟨b, o + j * 4 + 2, none⟩) hb).trans (hcell 2 _ rfl)
      have c3 := (HB.out.cell (p := ⟨b, o + j * 4 + 3, none⟩) hb).trans (hcell 3 _ rfl)
      have HF := Lib.hid (few47_any x.cA x.cn x.cc x.cs wr (hok.2.1.after HB.out HB.out.size))
      clear hb hg hcell hok
      cases hf : few47 x.cn x.cs with
      | false =>
        rw [hf] at HF
        have hp : fewC x = false := by unfold fewC; rw [hf]; rfl
        have HFF : Hid (R = false) := Lib.hid (by rw [HR.out, any_true HG.out hp]; rfl)
        clear hf hp
        go_wp2_with (go_at_call 13; refine HF.out.mono ?_; rintro e w2 ⟨rfl, hb2⟩; have X2 := Lib.hid (below_next HB.out hb2 HB.out.size); clear hb2)
        go_ret
        exact ⟨by rw [HFF.out]; rfl, X2.out⟩
      | true =>
        rw [hf] at HF
        have HFT := Lib.hid hf
        clear hf
        go_wp2_with fail
        refine HF.out.mono ?_
        rintro e w2 ⟨rfl, hb2⟩
        have X2 := Lib.hid (below_next HB.out hb2 HB.out.size)
        clear hb2 c2 c3
        have c2 := (X2.out.cell (p := ⟨b, o + j * 4 + 2, none⟩) HBL.out).trans (HCELL.out 2 _ rfl)
        by_cases hrn : x.rn ≤ 8
        rotate_left
        · have hp : fewC x = false := by unfold fewC; rw [decide_eq_false hrn]; simp
          have HFF : Hid (R = false) := Lib.hid (by rw [HR.out, any_true HG.out hp]; rfl)
          have e1 : decide ((8 : Int) < (x.rn : Int)) = true := by simp; omega
          have e2 : decide (8 < x.rn) = true := by simp; omega
          clear hp hrn
          go_wp2
          go_ret
          exact ⟨by rw [HFF.out]; rfl, X2.out⟩
        have e1 : decide ((8 : Int) < (x.rn : Int)) = false := by simp; omega
        have e2 : decide (8 < x.rn) = false := by simp; omega
        have HC2 : Hid (fewC x = !(x.rs.any fun r => !fewR r)) := Lib.hid (by unfold fewC; rw [HFT.out, decide_eq_true hrn]; rfl)
        go_wp2
        go_loopw [7] (fun i wx => ∃ q : Nat, q ≤ x.rn ∧ i = .int .i64 q ∧ (∀ t, t < q → ∀ e, x.rs[t]? = some e → fewR e = true) ∧ Below w.heap.size w wx) (fun i _ => x.rn - (intOf i).toNat)
        case atStart => exact ⟨0, Nat.zero_le _, rfl, fun t h => absurd h (by omega), X2.out⟩
        case round =>
          obtain ⟨q, hq, rfl, hall, hbx⟩ := hrel
          have HA2 := Lib.hid hall
          have HBX := Lib.hid hbx
          have bsz := hbx.size
          clear hall hbx c2 e1 e2
          have c2 := (HBX.out.cell (p := ⟨b, o + j * 4 + 2, none⟩) HBL.out).trans (HCELL.out 2 _ rfl)
          by_cases hlq : q < x.rn
          · obtain ⟨b', o', y, hA', hb', hg', hcell'⟩ := Sl.cell (f := rdC) (k := 6) rdC_len (HOK.out.1.after HBX.out HBX.out.size) hlq
            rw [hA'] at c2
            have y0 := hcell' 0 _ rfl; have y1 := hcell' 1 _ rfl; have y2 := hcell' 2 _ rfl; have y3 := hcell' 3 _ rfl; have y4 := hcell' 4 _ rfl; have y5 := hcell' 5 _ rfl
            simp only [Nat.add_zero] at y0
            have HG2 := Lib.hid hg'
            clear hg' hcell' hb' hA'
            by_cases k1 : y.key.size ≤ 60
            rotate_left
            · have hp : fewR y = false := by unfold fewR; rw [decide_eq_false k1]; rfl
              have hp2 : fewC x = false := by rw [HC2.out, any_true HG2.out hp]; rfl
              have HFF : Hid (R = false) := Lib.hid (by rw [HR.out, any_true HG.out hp2]; rfl)
              have e1 : decide ((60 : Int) < (y.key.size : Int)) = true := by simp; omega
              have e2 : decide (60 < y.key.size) = true := by simp; omega
              clear hp hp2 k1
              go_wp2
              go_ret
              exact ⟨by rw [HFF.out]; rfl, HBX.out.alloc bsz _⟩
            have e1 : decide ((60 : Int) < (y.key.size : Int)) = false := by simp; omega
            have e2 : decide (60 < y.key.size) = false := by simp; omega
            by_cases k2 : y.ak.size ≤ 60
            rotate_left
            · have hp : fewR y = false := by unfold fewR; rw [decide_eq_false k2]; simp
              have hp2 : fewC x = false := by rw [HC2.out, any_true HG2.out hp]; rfl
              have HFF : Hid (R = false) := Lib.hid (by rw [HR.out, any_true HG.out hp2]; rfl)
              have e3 : decide ((60 : Int) < (y.ak.size : Int)) = true := by simp; omega
              have e4 : decide (60 < y.ak.size) = true := by simp; omega
              clear hp hp2 k1 k2
              go_wp2
              go_ret
              exact ⟨by rw [HFF.out]; rfl, HBX.out.alloc bsz _⟩
            have e3 : decide ((60 : Int) < (y.ak.size : Int)) = false := by simp; omega
            have e4 : decide (60 < y.ak.size) = false := by simp; omega
            by_cases k3 : y.ar.size ≤ 300
            rotate_left
            · have hp : fewR y = false := by unfold fewR; rw [decide_eq_false k3]; simp
              have hp2 : fewC x = false := by rw [HC2.out, any_true HG2.out hp]; rfl
              have HFF : Hid (R = false) := Lib.hid (by rw [HR.out, any_true HG.out hp2]; rfl)
              have e5 : decide ((300 : Int) < (y.ar.size : Int)) = true := by simp; omega
              have e6 : decide (300 < y.ar.size) = true := by simp; omega
              clear hp hp2 k1 k2 k3
              go_wp2
              go_ret
              exact ⟨by rw [HFF.out]; rfl, HBX.out.alloc bsz _⟩
            have e5 : decide ((300 : Int) < (y.ar.size : Int)) = false := by simp; omega
            have e6 : decide (300 < y.ar.size) = false := by simp; omega
            have HP : Hid (fewR y = true) := Lib.hid (by unfold fewR; rw [decide_eq_true k1, decide_eq_true k2, decide_eq_true k3]; rfl)
            clear k1 k2 k3
            go_wp2
            go_roundw
            case rel => exact ⟨q + 1, by omega, by go_num, all_step HA2.out HG2.out HP.out, HBX.out.alloc bsz _⟩
            case measure => simp [intOf]; omega
          · have HP : Hid (fewC x = true) := Lib.hid (by rw [HC2.out, any_false HOK.out.1.len (fun t ht => HA2.out t (by omega))]; rfl)
            go_wp2
            go_roundw
            case rel => exact ⟨j + 1, by have := HLT.out; omega, by go_num, all_step HA.out HG.out HP.out, HBX.out⟩
            case measure => have := HLT.out; simp [intOf]; omega
    · have hjn : n = j := by omega
      subst hjn
      have HT : Hid (R = true) := Lib.hid (by rw [HR.out, any_false HL.out HA.out]; rfl)
      go_wp2
      go_ret
      exact ⟨by rw [HT.out]; rfl, HB.out⟩
end Go.Proofs.YtoiocnpamplhdaaGreatDoor
