/- Contract of the reference's Unpack. -/
import Derived.Test.YtehagkkmkbjpcaaG
namespace Go.Proofs.Ytehagkkmkbjpcaa
open Go.RowKit

theorem rmost_is {l b x : Int} (h : mostI l b = x) (w : World) : Calls Try.prog 17 #[.int .i64 l, .int .i64 b] w fun e w' => e = .returned (.int .i64 x) ∧ w = w' := by
  have := rmost_any l b w
  rwa [h] at this

theorem two_drew {w : World} {x : Int} {n : Nat} : Two w [] x (.returned (.tuple #[.slice none 0 0, .int .i64 x])) (w.drewN n) := ⟨none, 0, rfl, ss_nil _ _, below_drewN (Below.refl _ _) _⟩

set_option maxHeartbeats 1000000 in
theorem runpack_any (l b : Int) (d : ByteArray) (w : World) (hd : d.size ≤ 100000) :
    Calls Try.prog 23 #[.int .i64 l, .int .i64 b, .string d] w (Two w (unpL l b d) (unpE l b d)) := by
  obtain ⟨i0, hi0, hz0, hz1, hz2⟩ := info_parts Try.info9
  by_cases hv : vldB l b = true
  · obtain ⟨h1, h2, h3, h4⟩ := vld_iff.1 hv
    have HV := Lib.hid hv
    clear hv
    obtain ⟨L, rfl⟩ := Int.eq_ofNat_of_zero_le (show 0 ≤ l by omega)
    have hm1 : 1 ≤ b / L := Int.le_ediv_of_mul_le (by omega) (by omega)
    have hm2 : b / L ≤ b := Int.ediv_le_self _ (by omega)
    obtain ⟨m, hm⟩ : ∃ m : Nat, b / L = (m : Int) := ⟨(b / L).toNat, by omega⟩
    have hmo : mostI L b = (m : Int) := by unfold mostI; rw [HV.out]; simpa using hm
    have HM := Lib.hid hm
    have HMO := Lib.hid hmo
    rw [hm] at hm1 hm2
    clear hm hmo
    have hq : ((d.size : Int) / (L : Int)) = ((d.size / L : Nat) : Int) := by simp
    have hr : ((d.size : Int) % (L : Int)) = ((d.size % L : Nat) : Int) := by simp
    have hdm := Nat.div_add_mod d.size L
    have hrl := Nat.mod_lt d.size (show 0 < L by omega)
    have hql := Nat.div_le_self d.size L
    generalize hqe : d.size / L = q at *
    generalize hre : d.size % L = r at *
    have hu : unpL L b d = if okU L m d.size then cuts L d q else [] := by unfold unpL; rw [HV.out, HM.out]; simp [hqe]
    have he : unpE L b d = if okU L m d.size then 0 else 11 := by unfold unpE; rw [HV.out, HM.out]; simp
    have hok : okU L m d.size = decide (1 ≤ q ∧ q ≤ m ∧ r = 0) := by unfold okU; rw [hqe, hre]
    have HQE := Lib.hid hqe
    have HDM := Lib.hid hdm
    clear hqe hre hdm
    by_cases hk : 1 ≤ q ∧ q ≤ m ∧ r = 0
    · obtain ⟨k1, k2, k3⟩ := hk
      have hb0 : okU L m d.size = true := by rw [hok]; simp; omega
      rw [hb0] at hu he
      have HU := Lib.hid hu
      have HE := Lib.hid he
      have k3' : ((r : Int) != 0) = false := by simp; omega
      have k2' : decide (m < q) = false := by simp; omega
      have hqL : q * L = d.size := by have := HDM.out; rw [Nat.mul_comm]; omega
      have hqpos : L ≤ q * L := Nat.le_mul_of_pos_left _ (by omega)
      have k1' : ((d.size : Int) == 0) = false := beq_eq_false_iff_ne.2 (by omega)
      have t1 : (d.size : Int).tmod (L : Int) = (r : Int) := by rw [Int.tmod_eq_emod_of_nonneg (by omega)]; exact hr
      have t2 : (d.size : Int).tdiv (L : Int) = (q : Int) := by rw [Int.tdiv_eq_ediv_of_nonneg (by omega)]; exact hq
      have t3 : IntKind.i64.wrap (q : Int) = (q : Int) := IntWalk.i64_in _ (by omega)
      have hL0 : ¬ L = 0 := by omega
      have hL1 : ((L : Int) == 0) = false := beq_eq_false_iff_ne.2 (by omega)
      have HQL := Lib.hid hqL
      clear hok hb0 hu he k3 hqL hqpos
      go_enter Try.func23, Try.ntmps23
      go_wp2_with (first | (go_at_call 15; refine (rvalid_any _ _ _).mono ?_; rintro e w' ⟨rfl, rfl⟩; rw [HV.out]))
      clear hq hr
      go_quiet ((go_at_call 17; exact quiet_l (rmost_is HMO.out _)))
      go_wp2
      clear t1 t2 t3
      go_loopw [8, 9] (fun v i wr => ∃ j p : Nat, j ≤ q ∧ p = j * L ∧ i = .int .i64 p ∧ wr.ownsRow w.heap.size 9 1 v j ((cuts L d j).map Value.string) ∧ Below w.heap.size w wr) (fun _ i _ => d.size - (intOf i).toNat)
      case atStart =>
        refine ⟨0, 0, Nat.zero_le _, by simp, rfl, ?_, (below_drewN (Below.refl _ _) _).alloc (by simp) _⟩
        exact World.ownsRow_lit _ _ _ (Nat.le_refl _) (by omega) rfl
      case round =>
        obtain ⟨j, p, hj, hp, rfl, hown, hbel⟩ := hrel
        have HP := Lib.hid hp
        have HOW := Lib.hid hown
        have hsz := hbel.size
        by_cases hlt : j < q
        · obtain ⟨e1, e2, e3⟩ := mul_bd hlt (Nat.le_of_eq HQL.out)
          rw [Nat.succ_mul, ← hp] at e2
          clear hp hown e1 e3
          go_wp2_with (at_builtin; refine wpList_append_own _ rfl _ _ 22 rfl w.heap.size 9 i0 (.string ⟨#[]⟩) 1 16 Try.underlying22 hi0 hz0 hz1 hz2 rfl (by decide) _ _ _ rfl (HOW.out.alloc _) ⟨wr.heap.size, 0, none⟩ 1 1 [.string (d.extract p (p + L))] rfl rfl (cell_one_new _ _ _) (str_oneCell _) ?c3 ?c4 ?c5 ?_)
          case c3 => unfold maxLen; omega
          case c4 => omega
          case c5 => simp; omega
          intro v2 w2 hown2 hg2 _
          have hbel2 := below_push hbel HOW.out (Nat.le_refl _) hsz hg2
          have HOW2 := Lib.hid hown2
          clear hown2 hg2
          go_wp2
          go_roundw
          case rel =>
            refine ⟨j + 1, p + L, by omega, by rw [Nat.succ_mul, HP.out], by go_num, ?_, hbel2⟩
            have := HOW2.out
            rw [cuts_succ]
            unfold cutB
            rw [Nat.succ_mul, ← HP.out]
            simpa using this
          case measure => simp [intOf]; omega
        · obtain rfl : j = q := by omega
          have hpd : p = d.size := by rw [hp]; exact HQL.out
          have hpd' : d.size ≤ p := by omega
          clear hp hpd hown
          go_wp2
          go_ret2
          have hU := HU.out
          have hE := HE.out
          simp only [if_true] at hU hE
          rw [hU, hE]
          obtain ⟨A1, c1, hv1, hn1c, hc1m⟩ := own_form HOW.out
          subst hv1
          refine ⟨A1, c1, ?_, ⟨?_, ?_⟩, hbel⟩
          · rw [cuts_len]; rfl
          · rw [cuts_len]; exact hn1c
          · rw [cuts_len]; exact Rd.of_own HOW.out
    · have hb0 : okU L m d.size = false := by rw [hok]; simp; omega
      rw [hb0] at hu he
      have HU := Lib.hid hu
      have HE := Lib.hid he
      clear hok hb0 hu he
      simp only [if_false, Bool.false_eq_true] at HU HE
      rw [HU.out, HE.out]
      have hL0 : ¬ L = 0 := by omega
      have hL1 : ((L : Int) == 0) = false := beq_eq_false_iff_ne.2 (by omega)
      have t1 : (d.size : Int).tmod (L : Int) = (r : Int) := by rw [Int.tmod_eq_emod_of_nonneg (by omega)]; exact hr
      have t2 : (d.size : Int).tdiv (L : Int) = (q : Int) := by rw [Int.tdiv_eq_ediv_of_nonneg (by omega)]; exact hq
      have t3 : IntKind.i64.wrap (q : Int) = (q : Int) := IntWalk.i64_in _ (by omega)
      by_cases k1 : d.size = 0
      · have k1' : ((d.size : Int) == 0) = true := beq_iff_eq.2 (by omega)
        clear hk k1 hq hr
        go_enter Try.func23, Try.ntmps23
        go_wp2_with (first | (go_at_call 15; refine (rvalid_any _ _ _).mono ?_; rintro e w' ⟨rfl, rfl⟩; rw [HV.out]))
        go_quiet ((go_at_call 17; exact quiet_l (rmost_is HMO.out _)))
        go_wp2
        go_ret2
        exact two_drew
      · have k1' : ((d.size : Int) == 0) = false := beq_eq_false_iff_ne.2 (by omega)
        by_cases k3 : r = 0
        · have k3' : ((r : Int) != 0) = false := by simp; omega
          have hd0 := HDM.out
          have k4 : 1 ≤ q := by
            rcases Nat.eq_zero_or_pos q with h | h
            · rw [h, k3] at hd0; simp at hd0; omega
            · exact h
          have k2' : decide (m < q) = true := by simp; omega
          clear hk k1 hq hr k3 hd0
          go_enter Try.func23, Try.ntmps23
          go_wp2_with (first | (go_at_call 15; refine (rvalid_any _ _ _).mono ?_; rintro e w' ⟨rfl, rfl⟩; rw [HV.out]))
          go_quiet ((go_at_call 17; exact quiet_l (rmost_is HMO.out _)))
          go_wp2
          go_ret2
          exact two_drew
        · have k3' : ((r : Int) != 0) = true := by simp; omega
          clear hk k1 hq hr k3
          go_enter Try.func23, Try.ntmps23
          go_wp2_with (first | (go_at_call 15; refine (rvalid_any _ _ _).mono ?_; rintro e w' ⟨rfl, rfl⟩; rw [HV.out]))
          go_quiet ((go_at_call 17; exact quiet_l (rmost_is HMO.out _)))
          go_wp2
          go_ret2
          exact two_drew
  · have hv : vldB l b = false := by simpa using hv
    have HV := Lib.hid hv
    have hu : unpL l b d = [] := by unfold unpL; rw [hv]; rfl
    have he : unpE l b d = 1 := by unfold unpE; rw [hv]; rfl
    rw [hu, he]
    clear hv hu he
    go_enter Try.func23, Try.ntmps23
    go_wp2_with (go_at_call 15; refine (rvalid_any _ _ _).mono ?_; rintro e w' ⟨rfl, rfl⟩; rw [HV.out])
    go_ret2
    exact two_nil
end Go.Proofs.Ytehagkkmkbjpcaa
