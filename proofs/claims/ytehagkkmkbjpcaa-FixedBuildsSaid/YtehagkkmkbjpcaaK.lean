/- The walks of FixedStrict, FixedAdds, FixedPads and FixedUnpacks. -/
import Derived.Test.YtehagkkmkbjpcaaJ
namespace Go.Proofs.Ytehagkkmkbjpcaa
open Go.RowKit

theorem unp_ok {l b : Int} {d : ByteArray} (h : unpE l b d = 0) : vldB l b = true ∧ okU l.toNat (b / l).toNat d.size = true := by
  unfold unpE at h
  split at h
  · rename_i hv
    split at h
    · rename_i ho; exact ⟨hv, ho⟩
    · cases h
  · cases h
theorem unp_bad {l b : Int} {d : ByteArray} (h : ¬ unpE l b d = 0) : unpL l b d = [] ∧ (unpE l b d == 1) = !vldB l b := by
  unfold unpE unpL at *
  cases hv : vldB l b with
  | false => simp
  | true =>
    cases ho : okU l.toNat (b / l).toNat d.size with
    | false => simp
    | true => rw [hv, ho] at h; simp at h
/-- what Unpack accepts is the block of its records -/
theorem strict_law {l b : Int} {d : ByteArray} (h : unpE l b d = 0) : packL l b (unpL l b d) = [d] ∧ packE l b (unpL l b d) = 0 ∧ (unpL l b d).length ≤ 2000 ∧ ∀ s ∈ unpL l b d, s.size ≤ 10000 := by
  obtain ⟨hv, ho⟩ := unp_ok h
  obtain ⟨h1, h2, h3, h4⟩ := vld_iff.1 hv
  obtain ⟨L, rfl⟩ := Int.eq_ofNat_of_zero_le (show 0 ≤ l by omega)
  have hm2 : b / L ≤ b := Int.ediv_le_self _ (by omega)
  have hu : unpL L b d = cuts L d (d.size / L) := by unfold unpL; rw [hv, ho]; simp
  rw [hu]
  simp only [Int.toNat_natCast] at ho
  generalize hm : (b / (L : Int)).toNat = m at *
  unfold okU at ho
  simp only [decide_eq_true_eq] at ho
  obtain ⟨o1, o2, o3⟩ := ho
  have hdm := Nat.div_add_mod d.size L
  generalize hq : d.size / L = q at *
  have hqL : q * L = d.size := by rw [Nat.mul_comm]; omega
  have hmem := cuts_mem (L := L) (n := q) (d := d) (by omega)
  have hok : okR L (cuts L d q) = true := by
    unfold okR
    rw [List.all_eq_true]
    intro s hs
    simp [hmem s hs]
  have hlen := cuts_len L d q
  refine ⟨?_, ?_, ?_, ?_⟩
  · unfold packL
    rw [hv, hok, hm]
    simp only [Bool.and_self, if_true]
    rw [blocks_one (by omega) (by omega), cat_cuts q (by omega), hqL, extract_all]
  · unfold packE; rw [hv, hok]; rfl
  · omega
  · intro s hs
    have := hmem s hs
    omega

set_option maxHeartbeats 1000000 in
theorem strict_walk (l b : Int) (d : ByteArray) (w : World) (_ : (Lit.int .i64 l).wf = true) (_ : (Lit.int .i64 b).wf = true) (_ : d.size ≤ maxLen) :
    Calls Try.prog 4 #[.int .i64 l, .int .i64 b, .string d] w fun e w' => e = .returned (.bool true) ∧ Below w.heap.size w w' := by
  by_cases hd : d.size ≤ 1100
  · by_cases he : unpE l b d = 0
    · obtain ⟨s1, s2, s3, s4⟩ := strict_law he
      have HE := Lib.hid he
      have S1 := Lib.hid s1
      have S2 := Lib.hid s2
      have S4 := Lib.hid s4
      obtain ⟨n1, hn1⟩ : ∃ n, (unpL l b d).length = n := ⟨_, rfl⟩
      rw [hn1] at s3
      have HN := Lib.hid hn1
      clear he s1 s2 s4 hn1
      go_enter Try.func4, Try.ntmps4
      go_wp2_with fail
      refine (awake_any _).mono ?_
      rintro e w1 ⟨rfl, hb1⟩
      go_wp2_with fail
      refine (unpack_any l b d _ (by omega)).mono ?_
      rintro e w2 ⟨A2, c2, rfl, hs2, hb2⟩
      rw [HE.out, HN.out]
      rw [HN.out] at hs2
      have hB2 := below_next hb1 hb2 hb1.size
      have HS2 := Lib.hid hs2
      clear hs2 hb2
      go_wp2_with fail
      refine (pack_any l b A2 n1 c2 (unpL l b d) w2 HS2.out s3 S4.out).mono ?_
      rintro e w3 ⟨A3, c3, rfl, hs3, hb3⟩
      rw [S1.out] at hs3
      rw [S1.out, S2.out]
      have hB3 := below_next hB2 hb3 hB2.size
      have HS3 := Lib.hid hs3
      clear hs3 hb3
      rw [show [d].length = 1 from rfl]
      go_wp2_with fail
      refine (same_true A3 _ 1 c3 1 [d] _ _ (Ss.after HS3.out ((Below.refl _ _).alloc (Nat.le_refl _) _)) (ss_built w3 [d] 9 _ 1 rfl rfl) (by omega)).mono ?_
      rintro e w4 ⟨rfl, hb4⟩
      have hB4 := below_next (hB3.alloc hB3.size _) hb4 (by have := hB3.size; simp; omega)
      clear hb4
      go_wp2
      go_ret
      exact ⟨rfl, hB4⟩
    · obtain ⟨s1, s2⟩ := unp_bad he
      have he' : (unpE l b d != 0) = true := by simp [he]
      have S1 := Lib.hid s1
      have S2 := Lib.hid s2
      clear s1 s2 he
      go_enter Try.func4, Try.ntmps4
      go_wp2_with fail
      refine (awake_any _).mono ?_
      rintro e w1 ⟨rfl, hb1⟩
      go_wp2_with fail
      refine (unpack_any l b d _ (by omega)).mono ?_
      rintro e w2 ⟨A2, c2, rfl, hs2, hb2⟩
      rw [S1.out, show ([] : List ByteArray).length = 0 from rfl]
      have hB2 := below_next hb1 hb2 hb1.size
      clear hs2 hb2
      go_wp2_with fail
      refine (valid_any l b w2).mono ?_
      rintro e w' ⟨rfl, rfl⟩
      have hs2 := S2.out
      go_wp2
      go_ret
      refine ⟨?_, hB2⟩
      cases hv : vldB l b <;> simp
  · have hd' : 1100 < d.size := by omega
    go_enter Try.func4, Try.ntmps4
    go_wp2_with fail
    refine (awake_any _).mono ?_
    rintro e w1 ⟨rfl, hb1⟩
    go_wp2_with fail
    refine (awake_any _).mono ?_
    rintro e w2 ⟨rfl, hb2⟩
    have hB2 := below_next hb1 hb2 hb1.size
    clear hb2
    go_wp2
    go_ret
    exact ⟨rfl, hB2⟩

set_option maxHeartbeats 1000000 in
theorem adds_walk (l b : Int) (d r : ByteArray) (w : World) (_ : (Lit.int .i64 l).wf = true) (_ : (Lit.int .i64 b).wf = true) (_ : d.size ≤ maxLen) (_ : r.size ≤ maxLen) :
    Calls Try.prog 5 #[.int .i64 l, .int .i64 b, .string d, .string r] w fun e w' => e = .returned (.bool true) ∧ Below w.heap.size w w' := by
  by_cases hd : d.size ≤ 1100
  · by_cases hr : r.size ≤ 1100
    · go_enter Try.func5, Try.ntmps5
      go_wp2_with fail
      refine (awake_any _).mono ?_
      rintro e w1 ⟨rfl, hb1⟩
      go_wp2_with fail
      refine (add_any l b d r _ (by omega) (by omega)).mono ?_
      rintro e w2 ⟨rfl, hb2⟩
      have hB2 := below_next hb1 hb2 hb1.size
      clear hb2
      generalize hs : addS l b d r = s
      generalize ho : addB l b d r = o
      go_wp2_with fail
      refine (radd_any l b d r _ (by omega) (by omega)).mono ?_
      rintro e w3 ⟨rfl, hb3⟩
      have hB3 := below_next hB2 hb3 hB2.size
      clear hb3
      rw [hs, ho]
      clear hs ho
      go_wp2
      go_ret
      exact ⟨rfl, hB3⟩
    · have hr' : 1100 < r.size := by omega
      go_enter Try.func5, Try.ntmps5
      go_wp2_with fail
      refine (awake_any _).mono ?_
      rintro e w1 ⟨rfl, hb1⟩
      go_wp2_with fail
      refine (awake_any _).mono ?_
      rintro e w2 ⟨rfl, hb2⟩
      have hB2 := below_next hb1 hb2 hb1.size
      clear hb2
      go_wp2
      go_ret
      exact ⟨rfl, hB2⟩
  · have hd' : 1100 < d.size := by omega
    go_enter Try.func5, Try.ntmps5
    go_wp2_with fail
    refine (awake_any _).mono ?_
    rintro e w1 ⟨rfl, hb1⟩
    go_wp2_with fail
    refine (awake_any _).mono ?_
    rintro e w2 ⟨rfl, hb2⟩
    have hB2 := below_next hb1 hb2 hb1.size
    clear hb2
    go_wp2
    go_ret
    exact ⟨rfl, hB2⟩

set_option maxHeartbeats 1000000 in
theorem unpacks_walk (l b : Int) (d : ByteArray) (w : World) (_ : (Lit.int .i64 l).wf = true) (_ : (Lit.int .i64 b).wf = true) (_ : d.size ≤ maxLen) :
    Calls Try.prog 7 #[.int .i64 l, .int .i64 b, .string d] w fun e w' => e = .returned (.bool true) ∧ Below w.heap.size w w' := by
  by_cases hd : d.size ≤ 1100
  · go_enter Try.func7, Try.ntmps7
    go_wp2_with fail
    refine (awake_any _).mono ?_
    rintro e w1 ⟨rfl, hb1⟩
    go_wp2_with fail
    refine (unpack_any l b d _ (by omega)).mono ?_
    rintro e w2 ⟨A2, c2, rfl, hs2, hb2⟩
    have hB2 := below_next hb1 hb2 hb1.size
    have HS2 := Lib.hid hs2
    clear hs2 hb2
    have hlen : (unpL l b d).length ≤ 2000 := by
      by_cases he : unpE l b d = 0
      · exact (strict_law he).2.2.1
      · rw [(unp_bad he).1]; simp
    obtain ⟨n1, hn1⟩ : ∃ n, (unpL l b d).length = n := ⟨_, rfl⟩
    rw [hn1] at hlen
    rw [hn1]
    have HN := Lib.hid hn1
    clear hn1
    go_wp2_with fail
    refine (runpack_any l b d _ (by omega)).mono ?_
    rintro e w3 ⟨A3, c3, rfl, hs3, hb3⟩
    have hB3 := below_next hB2 hb3 hB2.size
    have hs2 := Ss.after HS2.out hb3
    rw [HN.out] at hs2 hs3
    have HS3 := Lib.hid hs3
    have HS2 := Lib.hid hs2
    clear hs3 hb3 hs2
    rw [HN.out]
    go_wp2_with fail
    refine (same_true A2 A3 n1 c2 c3 (unpL l b d) w3 w3.heap.size HS2.out HS3.out (by omega)).mono ?_
    rintro e w4 ⟨rfl, hb4⟩
    have hB4 := below_next hB3 hb4 hB3.size
    clear hb4
    go_wp2_with fail
    refine (pad_any l d _ (by omega)).mono ?_
    rintro e w5 ⟨rfl, hb5⟩
    have hB5 := below_next hB4 hb5 hB4.size
    clear hb5
    generalize hp : padS l d = s
    go_wp2_with fail
    refine (rpad_any l d _ (by omega)).mono ?_
    rintro e w6 ⟨rfl, rfl⟩
    rw [hp]
    clear hp
    go_wp2
    go_ret
    exact ⟨rfl, hB5⟩
  · have hd' : 1100 < d.size := by omega
    go_enter Try.func7, Try.ntmps7
    go_wp2_with fail
    refine (awake_any _).mono ?_
    rintro e w1 ⟨rfl, hb1⟩
    go_wp2_with fail
    refine (awake_any _).mono ?_
    rintro e w2 ⟨rfl, hb2⟩
    have hB2 := below_next hb1 hb2 hb1.size
    clear hb2
    go_wp2
    go_ret
    exact ⟨rfl, hB2⟩
end Go.Proofs.Ytehagkkmkbjpcaa
