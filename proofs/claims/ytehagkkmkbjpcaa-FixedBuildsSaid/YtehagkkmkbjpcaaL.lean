/- The walk of FixedPads; the contract of records. -/
import Derived.Test.YtehagkkmkbjpcaaK
namespace Go.Proofs.Ytehagkkmkbjpcaa
open Go.RowKit

theorem padS_size (l : Int) (s : ByteArray) : (padS l s).size = padN l := by
  unfold padS
  split
  · rw [ByteArray.size_extract]; omega
  · rw [ByteArray.size_append, bl_size]; omega
theorem ba_get (t : ByteArray) (i : Nat) (h : i < t.size) : t.data.toList[i]? = some t[i] := by
  rw [List.getElem?_eq_getElem (by rw [ba_len]; exact h)]; rfl
theorem repeat_get : ∀ (k i : Nat) (u : UInt8), (Lib.repeatL [32] k)[i]? = some u → u = 32
  | 0, i, u, h => by simp [Lib.repeatL] at h
  | k + 1, i, u, h => by
    rw [show Lib.repeatL [32] (k + 1) = 32 :: Lib.repeatL [32] k from rfl] at h
    rcases i with _ | i
    · simpa using h.symm
    · exact repeat_get k i u (by simpa using h)
theorem padS_blank (l : Int) (s : ByteArray) (i : Nat) (h : i < (padS l s).size) (hs : s.size ≤ i) : (padS l s)[i] = 32 := by
  have hz := padS_size l s
  have hg := ba_get (padS l s) i h
  generalize (padS l s)[i] = u at hg ⊢
  unfold padS at hg
  split at hg
  · omega
  · rw [ba_app, List.getElem?_append_right (by rw [ba_len]; exact hs)] at hg
    have := repeat_get _ _ _ hg
    exact this
theorem padS_head (l : Int) (s : ByteArray) (k : Nat) (h1 : k ≤ s.size) (h2 : k ≤ padN l) : (padS l s).extract 0 k = s.extract 0 k := by
  unfold padS
  split
  · apply ba_ext
    rw [ba_extract, ba_extract, ba_extract]
    simp only [List.drop_zero, Nat.sub_zero, List.take_take]
    rw [Nat.min_eq_left h2]
  · apply ba_ext
    rw [ba_extract, ba_extract, ba_app]
    simp only [List.drop_zero, Nat.sub_zero]
    rw [List.take_append_of_le_length (by rw [ba_len]; exact h1)]

set_option maxHeartbeats 1000000 in
theorem pads_walk (l : Int) (s : ByteArray) (w : World) (_ : (Lit.int .i64 l).wf = true) (hs0 : s.size ≤ maxLen) :
    Calls Try.prog 6 #[.int .i64 l, .string s] w fun e w' => e = .returned (.bool true) ∧ Below w.heap.size w w' := by
  by_cases hs : s.size ≤ 1100
  · obtain ⟨N, hN⟩ : ∃ N, padN l = N := ⟨_, rfl⟩
    have hN1 : max 0 (min l 1000) = (N : Int) := by rw [← hN, min_max]; unfold padN; omega
    have hN2 := padN_le l
    have hz := padS_size l s
    have hbk := padS_blank l s
    have hhd := padS_head l s
    rw [hN] at hN2 hz hhd
    clear hN hs0
    obtain ⟨k, hk⟩ : ∃ k : Nat, k = min N s.size := ⟨_, rfl⟩
    have hk1 : min (N : Int) (s.size : Int) = (k : Int) := by omega
    have hk2 : k ≤ N := by omega
    have hk3 : k ≤ s.size := by omega
    have hh := hhd k hk3 hk2
    obtain ⟨t, ht⟩ : ∃ t, padS l s = t := ⟨_, rfl⟩
    have hb2 : ∀ i (h : i < t.size), k ≤ i → t[i] = 32 := by subst ht; exact fun i h hi => hbk i h (by omega)
    rw [ht] at hh hz
    have HT := Lib.hid ht
    have HH := Lib.hid hh
    have HZ := Lib.hid hz
    have HB := Lib.hid hb2
    clear ht hh hz hb2 hbk hhd hk
    go_enter Try.func6, Try.ntmps6
    go_wp2_with fail
    refine (awake_any _).mono ?_
    rintro e w1 ⟨rfl, hb1⟩
    go_wp2_with fail
    refine (pad_any l s _ (by omega)).mono ?_
    rintro e w2 ⟨rfl, hb2⟩
    rw [HT.out]
    have hB2 := below_next hb1 hb2 hb1.size
    clear hb2
    have hz := HZ.out
    have hz' : ((t.size : Int) != (N : Int)) = false := by simp [hz]
    have hz1 : N ≤ t.size := by omega
    have hz2 : t.size ≤ N := by omega
    clear hz
    go_wp2
    go_loop [8] (fun i => ∃ j : Nat, k ≤ j ∧ j ≤ N ∧ i = .int .i64 j) (fun i => N - (intOf i).toNat)
    case atStart => exact ⟨k, by omega, by omega, rfl⟩
    case round =>
      obtain ⟨j, hj1, hj2, rfl⟩ := hrel
      by_cases hlt : j < N
      · have hjt : j < t.size := by omega
        have hb := HB.out j hjt hj1
        have hb' : (((t[j]'hjt).toNat : Int) != 32) = false := by rw [hb]; rfl
        clear hb
        go_wp2
        go_round
        case rel => exact ⟨j + 1, by omega, by omega, by go_num⟩
        case measure => simp [intOf]; omega
      · have hcmp : (t.extract 0 k).toList == (s.extract 0 k).toList := by rw [HH.out]; simp
        go_wp2
        go_quiet (fail)
        go_wp2
        go_ret
        exact ⟨rfl, below_drewN hB2 _⟩
  · have hd' : 1100 < s.size := by omega
    unfold maxLen at hs0
    go_enter Try.func6, Try.ntmps6
    go_wp2_with fail
    refine (awake_any _).mono ?_
    rintro e w1 ⟨rfl, hb1⟩
    go_wp2_with fail
    refine (awake_any _).mono ?_
    rintro e w2 ⟨rfl, hb2⟩
    have hB2 := below_next hb1 hb2 hb1.size
    clear hb2
    go_wp2
    go_ret
    exact ⟨rfl, hB2⟩

set_option maxHeartbeats 1000000 in
theorem records_any (l : Int) (A : Option Addr) (n c : Nat) (ss : List ByteArray) (w : World) (hs : Ss w w.heap.size A n c ss) (hn : n ≤ 2000) (hz : ∀ s ∈ ss, s.size ≤ 100000) :
    Calls Try.prog 25 #[.int .i64 l, .slice A n c] w fun e w' => ∃ A' c', e = .returned (.slice A' n c') ∧ Ss w' w'.heap.size A' n c' (ss.map (padS l)) ∧ Below w.heap.size w w' := by
  obtain ⟨i0, hi0, hz0, hz1, hz2⟩ := info_parts Try.info9
  have HL := Lib.hid hs.len
  have HS := Lib.hid hs
  have hnc := hs.1
  clear hs
  go_enter Try.func25, Try.ntmps25
  go_wp2
  go_loopw [5, 11] (fun v i wr => ∃ j : Nat, j ≤ n ∧ i = .int .i64 j ∧ wr.ownsRow w.heap.size 9 1 v j (((ss.take j).map (padS l)).map Value.string) ∧ Below w.heap.size w wr) (fun _ i _ => n - (intOf i).toNat)
  case atStart =>
    refine ⟨0, Nat.zero_le _, rfl, ?_, (Below.refl _ _).alloc (Nat.le_refl _) _⟩
    exact World.ownsRow_lit _ _ _ (Nat.le_refl _) (by omega) rfl
  case round =>
    obtain ⟨j, hj, rfl, hown, hbel⟩ := hrel
    have HOW := Lib.hid hown
    clear hown
    have hsz := hbel.size
    by_cases hlt : j < n
    · obtain ⟨bb, o, s, rfl, hb, hg, hc⟩ := HS.out.cell hlt
      have hc' := (hbel.cell (p := ⟨bb, o + j, none⟩) hb).trans hc
      have hsz2 := hz s (List.mem_of_getElem? hg)
      have HG := Lib.hid hg
      clear hg hc
      go_wp2_with fail
      refine (pad_any l s _ hsz2).mono ?_
      rintro e w1 ⟨rfl, hb1⟩
      have hown1 := own_below HOW.out hb1
      have hsz1 := hb1.size
      go_wp2_with (at_builtin; refine wpList_append_own _ rfl _ _ 22 rfl w.heap.size 9 i0 (.string ⟨#[]⟩) 1 16 Try.underlying22 hi0 hz0 hz1 hz2 rfl (by decide) _ _ _ rfl (hown1.alloc _) ⟨w1.heap.size, 0, none⟩ 1 1 [.string (padS l s)] rfl rfl (cell_one_new _ _ _) (str_oneCell _) ?c3 ?c4 ?c5 ?_)
      case c3 => unfold maxLen; omega
      case c4 => omega
      case c5 => simp; omega
      intro v2 w2 hown2 hg2 _
      have hbel2 := below_push (below_next hbel hb1 hsz) hown1 (Nat.le_refl _) (by omega) hg2
      have HOW2 := Lib.hid hown2
      clear hown2 hg2 hown1 hb1
      go_wp2
      go_roundw
      case rel =>
        refine ⟨j + 1, by omega, by go_num, ?_, hbel2⟩
        have := HOW2.out
        rw [List.take_add_one, HG.out]
        simpa using this
      case measure => simp [intOf]; omega
    · obtain rfl : j = n := by omega
      go_wp2
      go_ret
      obtain ⟨A1, c1, hv1, hn1c, hc1m⟩ := own_form HOW.out
      subst hv1
      refine ⟨A1, c1, rfl, ⟨hn1c, ?_⟩, hbel⟩
      have := Rd.of_own HOW.out
      rw [List.take_of_length_le (by rw [HL.out]; exact Nat.le_refl _)] at this
      exact this
end Go.Proofs.Ytehagkkmkbjpcaa
