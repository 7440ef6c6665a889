/- Contracts of Unpack, of the program and of the reference. -/
import Derived.Test.YtehagkkmkbjpcaaF
namespace Go.Proofs.Ytehagkkmkbjpcaa
open Go.RowKit

def unpE (l b : Int) (d : ByteArray) : Int := if vldB l b then (if okU l.toNat (b / l).toNat d.size then 0 else 11) else 1
def unpL (l b : Int) (d : ByteArray) : List ByteArray := if vldB l b && okU l.toNat (b / l).toNat d.size then cuts l.toNat d (d.size / l.toNat) else []

theorem two_nil {w : World} {x : Int} : Two w [] x (.returned (.tuple #[.slice none 0 0, .int .i64 x])) w := ⟨none, 0, rfl, ss_nil _ _, Below.refl _ _⟩

theorem mul_bd {i n L z : Nat} (h : i < n) (hz : n * L ≤ z) : i * L ≤ z ∧ (i + 1) * L ≤ z ∧ i * L ≤ (i + 1) * L := by
  have h1 : (i + 1) * L ≤ n * L := Nat.mul_le_mul_right _ h
  have h2 : i * L ≤ (i + 1) * L := Nat.mul_le_mul_right _ (by omega)
  omega

set_option maxHeartbeats 1000000 in
theorem unpack_any (l b : Int) (d : ByteArray) (w : World) (hd : d.size ≤ 100000) :
    Calls Try.prog 19 #[.int .i64 l, .int .i64 b, .string d] w (Two w (unpL l b d) (unpE l b d)) := by
  obtain ⟨i0, hi0, hz0, hz1, hz2⟩ := info_parts Try.info9
  by_cases hv : vldB l b = true
  · obtain ⟨h1, h2, h3, h4⟩ := vld_iff.1 hv
    have HV := Lib.hid hv
    clear hv
    obtain ⟨L, rfl⟩ := Int.eq_ofNat_of_zero_le (show 0 ≤ l by omega)
    have hm1 : 1 ≤ b / L := Int.le_ediv_of_mul_le (by omega) (by omega)
    have hm2 : b / L ≤ b := Int.ediv_le_self _ (by omega)
    obtain ⟨m, hm⟩ : ∃ m : Nat, b / L = (m : Int) := ⟨(b / L).toNat, by omega⟩
    have hmo : mostI L b = (m : Int) := by unfold mostI; rw [HV.out]; simpa using hm
    have HM := Lib.hid hm
    have HMO := Lib.hid hmo
    rw [hm] at hm1 hm2
    clear hm hmo
    have hq : ((d.size : Int) / (L : Int)) = ((d.size / L : Nat) : Int) := by simp
    have hr : ((d.size : Int) % (L : Int)) = ((d.size % L : Nat) : Int) := by simp
    have hdm := Nat.div_add_mod d.size L
    have hrl := Nat.mod_lt d.size (show 0 < L by omega)
    have hql := Nat.div_le_self d.size L
    generalize hqe : d.size / L = q at *
    generalize hre : d.size % L = r at *
    have hu : unpL L b d = if okU L m d.size then cuts L d q else [] := by unfold unpL; rw [HV.out, HM.out]; simp [hqe]
    have he : unpE L b d = if okU L m d.size then 0 else 11 := by unfold unpE; rw [HV.out, HM.out]; simp
    have hok : okU L m d.size = decide (1 ≤ q ∧ q ≤ m ∧ r = 0) := by unfold okU; rw [hqe, hre]
    have HQE := Lib.hid hqe
    have HDM := Lib.hid hdm
    clear hqe hre hdm
    by_cases hk : 1 ≤ q ∧ q ≤ m ∧ r = 0
    · obtain ⟨k1, k2, k3⟩ := hk
      have hb0 : okU L m d.size = true := by rw [hok]; simp; omega
      rw [hb0] at hu he
      have HU := Lib.hid hu
      have HE := Lib.hid he
      have k3' : ((r : Int) != 0) = false := by simp; omega
      have k1' : decide ((q : Int) < 1) = false := by simp; omega
      have k2' : decide (m < q) = false := by simp; omega
      have hqL : q * L ≤ d.size := by have := HDM.out; rw [Nat.mul_comm]; omega
      clear hok hb0 hu he k3
      go_enter Try.func19, Try.ntmps19
      go_wp2_with (first | (go_at_call 14; refine (valid_any _ _ _).mono ?_; rintro e w' ⟨rfl, rfl⟩; rw [HV.out]) | (go_at_call 16; refine (most_any _ _ _).mono ?_; rintro e w' ⟨rfl, rfl⟩; rw [HMO.out]) | (at_make; refine wpList_make_full _ rfl _ _ 22 rfl w.heap.size 9 i0 (.string ⟨#[]⟩) 1 Try.underlying22 hi0 hz0 hz1 _ _ _ _ q rfl rfl rfl rfl ?c1 ?c2 (Nat.le_refl _) ?_))
      case c1 => rw [hz2]; omega
      case c2 => unfold maxLen; omega
      intro w1 hown1 hg1
      have hb1 : Below w.heap.size w w1 := (Below.refl _ _).grown hg1 (Nat.le_refl _) (by simp)
      have HOW := Lib.hid hown1
      clear hown1 hg1
      go_wp2
      go_loopw [38] (fun i wr => ∃ j : Nat, j ≤ q ∧ i = .int .i64 j ∧ Below w.heap.size w wr ∧ wr.ownsRow w.heap.size 9 1 (.slice (some ⟨w.heap.size, 0, none⟩) q q) q ((cuts L d j ++ List.replicate (q - j) (⟨#[]⟩ : ByteArray)).map Value.string)) (fun i _ => q - (intOf i).toNat)
      case atStart =>
        refine ⟨0, Nat.zero_le _, rfl, hb1, ?_⟩
        have := HOW.out
        rw [toList_madeCells_one] at this
        simpa [cuts] using this
      case round =>
        obtain ⟨j, hj, rfl, hbel, hown⟩ := hrel
        by_cases hlt : j < q
        · obtain ⟨e1, e2, e3⟩ := mul_bd hlt hqL
          have f1 : ((j : Int) * (L : Int)) = ((j * L : Nat) : Int) := by simp
          have f2 : (((j : Int) + 1) * (L : Int)) = (((j + 1) * L : Nat) : Int) := by simp
          have hcf := hown.frozenAt j
          obtain ⟨u0, hcu⟩ : ∃ u0, wr.cell? ⟨w.heap.size, j, none⟩ = some u0 := by
            have hl := hown.1
            exact ⟨_, (hown.cellAt j (by omega)).trans (List.getElem?_eq_getElem (by rw [hl]; omega))⟩
          have hst := hown.stored j (.string (cutB L d j))
          rw [cuts_set L d hlt] at hst
          unfold cutB at hst
          generalize j * L = p1 at *
          generalize (j + 1) * L = p2 at *
          have HST := Lib.hid hst
          clear hst hown
          go_wp2
          go_roundw
          case rel => exact ⟨j + 1, by omega, by go_num, hbel.grown HST.out.2 hbel.size (by rintro k ⟨⟩; exact Nat.le_refl _), HST.out.1⟩
          case measure => simp [intOf]; omega
        · obtain rfl : j = q := by omega
          have HOW2 := Lib.hid hown
          clear hown
          go_wp2
          go_ret2
          have hU := HU.out
          have hE := HE.out
          simp only [if_true] at hU hE
          rw [hU, hE]
          have := HOW2.out
          simp only [Nat.sub_self, List.replicate_zero, List.append_nil] at this
          refine ⟨some ⟨w.heap.size, 0, none⟩, j, ?_, ⟨?_, ?_⟩, hbel⟩
          · rw [cuts_len]; rfl
          · rw [cuts_len]; exact Nat.le_refl _
          · rw [cuts_len]; exact Rd.of_own this
    · have hb0 : okU L m d.size = false := by rw [hok]; simp; omega
      rw [hb0] at hu he
      have HU := Lib.hid hu
      have HE := Lib.hid he
      clear hok hb0 hu he
      simp only [if_false, Bool.false_eq_true] at HU HE
      rw [HU.out, HE.out]
      by_cases k1 : q < 1
      · have k1' : decide ((q : Int) < 1) = true := by simp; omega
        clear hk
        go_enter Try.func19, Try.ntmps19
        go_wp2_with (first | (go_at_call 14; refine (valid_any _ _ _).mono ?_; rintro e w' ⟨rfl, rfl⟩; rw [HV.out]) | (go_at_call 16; refine (most_any _ _ _).mono ?_; rintro e w' ⟨rfl, rfl⟩; rw [HMO.out]))
        go_ret2
        exact two_nil
      · have k1' : decide ((q : Int) < 1) = false := by simp; omega
        by_cases k2 : m < q
        · have k2' : decide (m < q) = true := by simp; omega
          clear hk
          go_enter Try.func19, Try.ntmps19
          go_wp2_with (first | (go_at_call 14; refine (valid_any _ _ _).mono ?_; rintro e w' ⟨rfl, rfl⟩; rw [HV.out]) | (go_at_call 16; refine (most_any _ _ _).mono ?_; rintro e w' ⟨rfl, rfl⟩; rw [HMO.out]))
          go_ret2
          exact two_nil
        · have k2' : decide (m < q) = false := by simp; omega
          have k3' : ((r : Int) != 0) = true := by simp; omega
          clear hk
          go_enter Try.func19, Try.ntmps19
          go_wp2_with (first | (go_at_call 14; refine (valid_any _ _ _).mono ?_; rintro e w' ⟨rfl, rfl⟩; rw [HV.out]) | (go_at_call 16; refine (most_any _ _ _).mono ?_; rintro e w' ⟨rfl, rfl⟩; rw [HMO.out]))
          go_ret2
          exact two_nil
  · have hv : vldB l b = false := by simpa using hv
    have HV := Lib.hid hv
    have hu : unpL l b d = [] := by unfold unpL; rw [hv]; rfl
    have he : unpE l b d = 1 := by unfold unpE; rw [hv]; rfl
    rw [hu, he]
    clear hv hu he
    go_enter Try.func19, Try.ntmps19
    go_wp2_with (go_at_call 14; refine (valid_any _ _ _).mono ?_; rintro e w' ⟨rfl, rfl⟩; rw [HV.out])
    go_ret2
    exact two_nil
end Go.Proofs.Ytehagkkmkbjpcaa
