/- HistorySums: two lists of strings that read the same are equal (the reference's Strings). -/
import Derived.Test.YtpklgdclknicjaaGreatDoorSA
import Derived.Test.YtpklgdclknicjaaGreatDoorProg
import Derived.WalkSpells
import Derived.WalkLawsBesides
import Derived.Deep.QuietTactic
import Derived.BigQuiet
import Derived.Lib.Hide
namespace Go.Proofs.YtpklgdclknicjaaGreatDoor
open Go.RowKit

def stC (s : ByteArray) : List Value := [.string s]
theorem stC_len (s : ByteArray) : (stC s).length = 1 := rfl
theorem stC_one (l : List ByteArray) : ∀ u ∈ flat stC l, u.oneCell' = true := by
  intro u hu
  obtain ⟨c, _, h⟩ := List.mem_flatMap.1 hu
  simp [stC] at h
  subst h; rfl
theorem st_flat (l : List ByteArray) : flat stC l = l.map Value.string := by
  induction l with
  | nil => rfl
  | cons x l ih => rw [flat_cons, ih]; rfl
set_option maxRecDepth 100000 in
theorem strings_same (A A' : Option Addr) (n c c' : Nat) (s : List ByteArray) (w : World) (h1 : Sl stC 1 w w.heap.size A n c s) (h2 : Sl stC 1 w w.heap.size A' n c' s) (hn : n ≤ 1000) :
    Calls Tryz.prog 5 #[.slice A n c, .slice A' n c'] w fun e w' => e = .returned (.bool true) ∧ Below w.heap.size w w' := by
  have S1 := Lib.hid h1
  have S2 := Lib.hid h2
  clear h1 h2
  go_enter Tryz.func5, Tryz.ntmps5
  go_wp2
  go_loopw [5] (fun v wr => ∃ i : Nat, i ≤ n ∧ v = .int .i64 i ∧ Below w.heap.size w wr) (fun v _ => n - (intOf v).toNat)
  case atStart => exact ⟨0, Nat.zero_le _, rfl, Below.refl _ _⟩
  case round =>
    obtain ⟨i, hi, rfl, hbel⟩ := hrel
    have HB := Lib.hid hbel
    clear hbel
    by_cases hlt : i < n
    · obtain ⟨b, o, x, rfl, hb, hg, hcell⟩ := Sl.cell (f := stC) (k := 1) stC_len S1.out hlt
      obtain ⟨b2, o2, x2, rfl, hb2, hg2, hcell2⟩ := Sl.cell (f := stC) (k := 1) stC_len S2.out hlt
      rw [hg] at hg2
      cases hg2
      have c0 := (HB.out.cell (p := ⟨b, o + i * 1 + 0, none⟩) hb).trans (hcell 0 _ rfl)
      have d0 := (HB.out.cell (p := ⟨b2, o2 + i * 1 + 0, none⟩) hb2).trans (hcell2 0 _ rfl)
      simp only [Nat.add_zero, Nat.mul_one] at c0 d0
      have i1 : (0 : Int) ≤ (i : Int) := by omega
      have i2 : (i : Int) < (n : Int) := by omega
      clear hb hg hcell hb2 hcell2
      go_wp2_with fail
      go_quiet (fail)
      go_wp2
      go_roundw
      case rel => exact ⟨i + 1, by omega, by go_num, below_drewN HB.out _⟩
      case measure => simp [intOf]; omega
    · go_wp2
      go_ret
      exact ⟨rfl, HB.out⟩
end Go.Proofs.YtpklgdclknicjaaGreatDoor
