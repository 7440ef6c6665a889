/- History, the reference: the same units are equal. -/
import Derived.Test.YtoiocnpamplhdaaGreatDoorHU
namespace Go.Proofs.YtoiocnpamplhdaaGreatDoor
open Go.RowKit

set_option maxRecDepth 100000 in
set_option maxHeartbeats 1000000 in
theorem changes_same (A : Option Addr) (n c B : Nat) (l : List Chg) (w : World) (a : Nat) (hs : Sl chC 5 w B A n c l) (hn : n ≤ 9223372036854775807) :
    Calls Tryz.prog 27 #[.slice A n c, .slice A n c] (w.drewN a) fun e w' => e = .returned (.bool true) ∧ ∃ m, w' = w.drewN m := by
  have HS := Lib.hid hs
  clear hs
  go_enter Tryz.func27, Tryz.ntmps27
  go_wp2
  go_loopw [5] (fun i wr => ∃ j : Nat, j ≤ n ∧ i = .int .i64 j ∧ ∃ d, wr = w.drewN d) (fun i _ => n - (intOf i).toNat)
  case atStart => exact ⟨0, Nat.zero_le _, rfl, a, rfl⟩
  case round =>
    obtain ⟨j, hj, rfl, d, rfl⟩ := hrel
    by_cases hlt : j < n
    · obtain ⟨b, o, x, rfl, hb, hg, hcell⟩ := Sl.cell (f := chC) (k := 5) chC_len HS.out hlt
      have c0 := hcell 0 _ rfl; have c1 := hcell 1 _ rfl; have c2 := hcell 2 _ rfl; have c3 := hcell 3 _ rfl; have c4 := hcell 4 _ rfl
      simp only [Nat.add_zero] at c0
      have i0 : (0 : Int) ≤ (j : Int) := by omega
      have i1 : (j : Int) < (n : Int) := by omega
      clear hb hg hcell
      go_wp2_with fail
      go_quiet (fail)
      go_wp2
      go_roundw
      case rel => exact ⟨j + 1, by omega, by go_num, _, rfl⟩
      case measure => simp [intOf]; omega
    · go_wp2
      go_ret
      exact ⟨rfl, d, rfl⟩
set_option maxRecDepth 100000 in
set_option maxHeartbeats 1000000 in
theorem reads_same (A : Option Addr) (n c B : Nat) (l : List Rdd) (w : World) (a : Nat) (hs : Sl rdC 6 w B A n c l) (hn : n ≤ 9223372036854775807) :
    Calls Tryz.prog 28 #[.slice A n c, .slice A n c] (w.drewN a) fun e w' => e = .returned (.bool true) ∧ ∃ m, w' = w.drewN m := by
  have HS := Lib.hid hs
  clear hs
  go_enter Tryz.func28, Tryz.ntmps28
  go_wp2
  go_loopw [5] (fun i wr => ∃ j : Nat, j ≤ n ∧ i = .int .i64 j ∧ ∃ d, wr = w.drewN d) (fun i _ => n - (intOf i).toNat)
  case atStart => exact ⟨0, Nat.zero_le _, rfl, a, rfl⟩
  case round =>
    obtain ⟨j, hj, rfl, d, rfl⟩ := hrel
    by_cases hlt : j < n
    · obtain ⟨b, o, x, rfl, hb, hg, hcell⟩ := Sl.cell (f := rdC) (k := 6) rdC_len HS.out hlt
      have c0 := hcell 0 _ rfl; have c1 := hcell 1 _ rfl; have c2 := hcell 2 _ rfl; have c3 := hcell 3 _ rfl; have c4 := hcell 4 _ rfl; have c5 := hcell 5 _ rfl
      simp only [Nat.add_zero] at c0
      have i0 : (0 : Int) ≤ (j : Int) := by omega
      have i1 : (j : Int) < (n : Int) := by omega
      clear hb hg hcell
      go_wp2_with fail
      go_quiet (fail)
      go_wp2
      go_roundw
      case rel => exact ⟨j + 1, by omega, by go_num, _, rfl⟩
      case measure => simp [intOf]; omega
    · go_wp2
      go_ret
      exact ⟨rfl, d, rfl⟩

set_option maxRecDepth 100000 in
set_option maxHeartbeats 1000000 in
theorem units_same (A A' : Option Addr) (n c c' : Nat) (s : List Com) (w : World) (h1 : Cs w w.heap.size A n c s) (h2 : Cs w w.heap.size A' n c' s) (hn : n ≤ 12) :
    Calls Tryz.prog 9 #[.slice A n c, .slice A' n c'] w fun e w' => e = .returned (.bool true) ∧ Below w.heap.size w w' := by
  have H1 := Lib.hid h1
  have H2 := Lib.hid h2
  clear h1 h2
  go_enter Tryz.func9, Tryz.ntmps9
  go_wp2
  go_loopw [5] (fun i wr => ∃ j : Nat, j ≤ n ∧ i = .int .i64 j ∧ Below w.heap.size w wr) (fun i _ => n - (intOf i).toNat)
  case atStart => exact ⟨0, Nat.zero_le _, rfl, Below.refl _ _⟩
  case round =>
    obtain ⟨j, hj, rfl, hbel⟩ := hrel
    have HB := Lib.hid hbel
    clear hbel
    by_cases hlt : j < n
    · obtain ⟨b, o, x, rfl, hb, hg, hcell⟩ := Sl.cell (f := comC) (k := 4) comC_len (H1.out.1.below HB.out) hlt
      obtain ⟨b', o', x', rfl, hb', hg', hcell'⟩ := Sl.cell (f := comC) (k := 4) comC_len (H2.out.1.below HB.out) hlt
      have hxx : x' = x := by rw [hg] at hg'; injection hg' with hg'; exact hg'.symm
      subst hxx
      have c0 := hcell 0 _ rfl; have c1 := hcell 1 _ rfl; have c2 := hcell 2 _ rfl; have c3 := hcell 3 _ rfl
      have e0 := hcell' 0 _ rfl; have e1 := hcell' 1 _ rfl; have e2 := hcell' 2 _ rfl; have e3 := hcell' 3 _ rfl
      simp only [Nat.add_zero] at c0 e0
      have hok := (H1.out.2 x' (List.mem_of_getElem? hg)).after HB.out HB.out.size
      obtain ⟨k1, k2, k3, k4⟩ := hok
      unfold maxLen at k3 k4
      have HC := Lib.hid fun a => changes_same x'.cA x'.cn x'.cc wr.heap.size x'.cs wr a k2 (by omega)
      have HRD := Lib.hid fun a => reads_same x'.rA x'.rn x'.rc wr.heap.size x'.rs wr a k1 (by omega)
      have i0 : (0 : Int) ≤ (j : Int) := by omega
      have i1 : (j : Int) < (n : Int) := by omega
      clear hb hg hcell hb' hg' hcell' k1 k2 k3 k4
      go_wp2_with fail
      go_quiet ((first | (go_at_call 27; exact HC.out _) | (go_at_call 28; exact HRD.out _)))
      go_wp2
      go_roundw
      case rel => exact ⟨j + 1, by omega, by go_num, below_drewN HB.out _⟩
      case measure => simp [intOf]; omega
    · go_wp2
      go_ret
      exact ⟨rfl, HB.out⟩
end Go.Proofs.YtoiocnpamplhdaaGreatDoor
