/- The walk of FixedPacks. -/
import Derived.Test.YtehagkkmkbjpcaaE
namespace Go.Proofs.Ytehagkkmkbjpcaa
open Go.RowKit

theorem few_le {ss : List ByteArray} {k m : Int} (h : fewB ss k m = true) : (ss.length : Int) ≤ k ∧ ∀ s ∈ ss, (s.size : Int) ≤ m := by
  unfold fewB at h
  simp at h
  exact ⟨h.2, h.1⟩

theorem packL_len (l b : Int) (ss : List ByteArray) : (packL l b ss).length ≤ ss.length := by
  unfold packL
  split
  · rename_i h
    simp only [Bool.and_eq_true] at h
    obtain ⟨h1, h2, h3, h4⟩ := vld_iff.1 h.1
    have hm1 : 1 ≤ b / l := Int.le_ediv_of_mul_le (by omega) (by omega)
    exact blocks_len (by omega)
  · simp

set_option maxHeartbeats 1000000 in
theorem packs_walk (l b : Int) (A : Option Addr) (n c : Nat) (ss : List ByteArray) (w : World) (_ : (Lit.int .i64 l).wf = true) (_ : (Lit.int .i64 b).wf = true) (hs : Ss w w.heap.size A n c ss) (hc : c ≤ maxLen) :
    Calls Try.prog 3 #[.int .i64 l, .int .i64 b, .slice A n c] w fun e w' => e = .returned (.bool true) ∧ Below w.heap.size w w' := by
  unfold maxLen at hc
  have hnc := hs.1
  have hln := hs.len
  have HS := Lib.hid hs
  clear hs
  by_cases hf : fewB ss 60 1100 = true
  · obtain ⟨hf1, hf2⟩ := few_le hf
    have hz : ∀ s ∈ ss, s.size ≤ 10000 := fun s hs => by have := hf2 s hs; omega
    have hn : n ≤ 2000 := by omega
    have HF := Lib.hid hf
    have HZ := Lib.hid hz
    clear hf hf1 hf2 hz hln
    go_enter Try.func3, Try.ntmps3
    go_wp2_with fail
    refine (awake_any _).mono ?_
    rintro e w1 ⟨rfl, hb1⟩
    go_wp2_with fail
    refine (few_any A n c ss 60 1100 w1 w.heap.size (Ss.below HS.out hb1) (by omega)).mono ?_
    rintro e w' ⟨rfl, rfl⟩
    rw [HF.out]
    go_wp2_with fail
    refine (pack_any l b A n c ss w1 (Ss.after HS.out hb1) hn HZ.out).mono ?_
    rintro e w2 ⟨A2, c2, rfl, hs2, hb2⟩
    have hB2 := below_next hb1 hb2 hb1.size
    have HS2 := Lib.hid hs2
    clear hs2 hb2
    have hA : ∃ n2, (packL l b ss).length = n2 := ⟨_, rfl⟩
    obtain ⟨n2, hn2⟩ := hA
    rw [hn2]
    have HN2 := Lib.hid hn2
    clear hn2
    go_wp2_with fail
    refine (rpack_any l b A n c ss w2 (Ss.after HS.out hB2) hn HZ.out).mono ?_
    rintro e w3 ⟨A3, c3, rfl, hs3, hb3⟩
    have hB3 := below_next hB2 hb3 hB2.size
    have hs2 := Ss.after HS2.out hb3
    have HS3 := Lib.hid hs3
    have HS2 := Lib.hid hs2
    clear hs3 hb3 hs2
    rw [HN2.out]
    go_wp2_with (first | (go_at_call 14; refine (valid_any _ _ _).mono ?_; rintro e w' ⟨rfl, rfl⟩) | (go_at_call 15; refine (rvalid_any _ _ _).mono ?_; rintro e w' ⟨rfl, rfl⟩) | (go_at_call 16; refine (most_any _ _ _).mono ?_; rintro e w' ⟨rfl, rfl⟩) | (go_at_call 17; refine (rmost_any _ _ _).mono ?_; rintro e w' ⟨rfl, rfl⟩))
    refine (same_true A2 A3 n2 c2 c3 (packL l b ss) w3 w3.heap.size (by rw [← HN2.out]; exact HS2.out) (by rw [← HN2.out]; exact HS3.out) ?_).mono ?_
    · have := packL_len l b ss
      have h2 := HS.out.len
      have h3 := HN2.out
      omega
    rintro e w4 ⟨rfl, hb4⟩
    have hB4 := below_next hB3 hb4 hB3.size
    clear hb4
    go_wp2
    go_ret
    exact ⟨rfl, hB4⟩
  · have hf : fewB ss 60 1100 = false := by simpa using hf
    have HF := Lib.hid hf
    clear hf hln
    go_enter Try.func3, Try.ntmps3
    go_wp2_with fail
    refine (awake_any _).mono ?_
    rintro e w1 ⟨rfl, hb1⟩
    go_wp2_with fail
    refine (few_any A n c ss 60 1100 w1 w.heap.size (Ss.below HS.out hb1) (by omega)).mono ?_
    rintro e w' ⟨rfl, rfl⟩
    rw [HF.out]
    go_wp2_with fail
    refine (awake_any _).mono ?_
    rintro e w2 ⟨rfl, hb2⟩
    have hB2 := below_next hb1 hb2 hb1.size
    clear hb2
    go_wp2
    go_ret
    exact ⟨rfl, hB2⟩
end Go.Proofs.Ytehagkkmkbjpcaa
