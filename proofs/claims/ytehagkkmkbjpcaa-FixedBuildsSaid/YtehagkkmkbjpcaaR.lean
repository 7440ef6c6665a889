/- The walk of FixedReturns. -/
import Derived.Test.YtehagkkmkbjpcaaQ
namespace Go.Proofs.Ytehagkkmkbjpcaa
open Go.RowKit

theorem cells_at {w : World} {b o : Nat} {xs : List Value} (h : ∀ j u, xs[j]? = some u → w.cell? ⟨b, o + j, none⟩ = some u) : ∀ j u, xs[j]? = some u → w.cell? ((⟨b, o, none⟩ : Addr).add j) = some u := by
  intro j u hu
  rw [show ((⟨b, o, none⟩ : Addr).add j) = ⟨b, o + j, none⟩ from by unfold Addr.add; split <;> simp_all]
  exact h j u hu

/-- the law's early way out -/
theorem out_few (l b : Int) (A : Option Addr) (n c : Nat) (ss : List ByteArray) (w : World) (hs : Ss w w.heap.size A n c ss) (hn : n ≤ 9223372036854775807) (hf : fewB ss 40 300 = false) :
    Calls Try.prog 8 #[.int .i64 l, .int .i64 b, .slice A n c] w fun e w' => e = .returned (.bool true) ∧ Below w.heap.size w w' := by
  have HS := Lib.hid hs
  have HF := Lib.hid hf
  clear hs hf
  go_enter Try.func8, Try.ntmps8
  go_wp2_with fail
  refine (awake_any _).mono ?_
  rintro e w1 ⟨rfl, hb1⟩
  go_wp2_with fail
  refine (few_any A n c ss 40 300 w1 w.heap.size (Ss.below HS.out hb1) (by omega)).mono ?_
  rintro e w' ⟨rfl, rfl⟩
  rw [HF.out]
  go_wp2_with fail
  refine (awake_any _).mono ?_
  rintro e w2 ⟨rfl, hb2⟩
  have hB2 := below_next hb1 hb2 hb1.size
  clear hb2
  go_wp2
  go_ret
  exact ⟨rfl, hB2⟩
theorem out_valid (l b : Int) (A : Option Addr) (n c : Nat) (ss : List ByteArray) (w : World) (hs : Ss w w.heap.size A n c ss) (hn : n ≤ 9223372036854775807) (hf : fewB ss 40 300 = true) (hv : vldB l b = false) :
    Calls Try.prog 8 #[.int .i64 l, .int .i64 b, .slice A n c] w fun e w' => e = .returned (.bool true) ∧ Below w.heap.size w w' := by
  have HS := Lib.hid hs
  have HF := Lib.hid hf
  have HV := Lib.hid hv
  clear hs hf hv
  go_enter Try.func8, Try.ntmps8
  go_wp2_with fail
  refine (awake_any _).mono ?_
  rintro e w1 ⟨rfl, hb1⟩
  go_wp2_with fail
  refine (few_any A n c ss 40 300 w1 w.heap.size (Ss.below HS.out hb1) (by omega)).mono ?_
  rintro e w' ⟨rfl, rfl⟩
  rw [HF.out]
  go_wp2_with fail
  refine (valid_any l b w1).mono ?_
  rintro e w' ⟨rfl, rfl⟩
  rw [HV.out]
  go_wp2_with fail
  refine (awake_any _).mono ?_
  rintro e w2 ⟨rfl, hb2⟩
  have hB2 := below_next hb1 hb2 hb1.size
  clear hb2
  go_wp2
  go_ret
  exact ⟨rfl, hB2⟩

set_option maxRecDepth 100000 in
set_option maxHeartbeats 2000000 in
theorem returns_main (l b : Int) (A : Option Addr) (n c : Nat) (ss : List ByteArray) (w : World) (hs : Ss w w.heap.size A n c ss) (hf : fewB ss 40 300 = true) (hv : vldB l b = true) :
    Calls Try.prog 8 #[.int .i64 l, .int .i64 b, .slice A n c] w fun e w' => e = .returned (.bool true) ∧ Below w.heap.size w w' := by
  obtain ⟨i0, hi0, hz0, hz1, hz2⟩ := info_parts Try.info9
  obtain ⟨hf1, hf2⟩ := few_le hf
  have hlen := hs.len
  have hz : ∀ s ∈ ss, s.size ≤ 100000 := fun s hs => by have := hf2 s hs; omega
  have hn : n ≤ 40 := by omega
  obtain ⟨h1, h2, h3, h4⟩ := vld_iff.1 hv
  have hm1 : 1 ≤ b / l := Int.le_ediv_of_mul_le (by omega) (by omega)
  have hm2 : b / l ≤ b := Int.ediv_le_self _ (by omega)
  obtain ⟨m, hm⟩ : ∃ m : Nat, b / l = (m : Int) := ⟨(b / l).toNat, by omega⟩
  have hmo : mostI l b = (m : Int) := by unfold mostI; rw [hv]; simpa using hm
  obtain ⟨rs, hrs⟩ : ∃ rs, ss.map (padS l) = rs := ⟨_, rfl⟩
  have hrm : ∀ s ∈ rs, (s.size : Int) = l := by rw [← hrs]; exact padS_mem hv ss
  have hrl : rs.length = n := by rw [← hrs]; simpa using hlen
  obtain ⟨hpe, hpl⟩ := pack_ok hv hrm
  have hm3 : (b / l).toNat = m := by omega
  rw [hm3] at hpl
  obtain ⟨K, hK⟩ : ∃ K, blkN m n = K := ⟨_, rfl⟩
  have hmp : 0 < m := by omega
  have hge : n ≤ m * K := by rw [← hK]; exact blkN_ge hmp
  have hlt : ∀ k, k < K → m * k < n := fun k hk => blkN_lt hmp (by rw [hK]; exact hk)
  have hKn : K ≤ n := by
    have := blocks_len (m := m) (ss := rs) hmp
    rw [blocks_length, hrl, hK] at this; exact this
  have hz' : ∀ s ∈ rs, s.size ≤ 10000 := fun s hs => by have := hrm s hs; omega
  rw [hm] at hm1 hm2
  have p1 : ((K : Int) * (m : Int)) = ((m * K : Nat) : Int) := by rw [Nat.mul_comm]; simp
  have hKb : m * K ≤ 2000000 := by
    have : m * K ≤ 1024 * 40 := Nat.mul_le_mul (by omega) (by omega)
    omega
  have p2 : ((K : Int) - 1) * (m : Int) = ((m * K : Nat) : Int) - (m : Int) := by rw [Int.sub_mul, p1]; omega
  have p3 : ((m * K : Nat) : Int) - (m : Int) < max 1 (n : Int) := by
    rcases K with _ | k
    · simp; omega
    · have := hlt k (by omega)
      rw [Nat.mul_succ]; omega
  generalize hMK : m * K = MK at *
  have p4 : decide (max 1 (n : Int) ≤ (MK : Int) - (m : Int)) = false := by simp only [decide_eq_false_iff_not]; omega
  have p5 : decide (MK < n) = false := by simp only [decide_eq_false_iff_not]; omega
  have HS := Lib.hid hs
  have HF := Lib.hid hf
  have HV := Lib.hid hv
  have HMO := Lib.hid hmo
  have HRS := Lib.hid hrs
  have HRM := Lib.hid hrm
  have HRL := Lib.hid hrl
  have HPE := Lib.hid hpe
  have HPL := Lib.hid hpl
  have HK := Lib.hid hK
  have HLT := Lib.hid hlt
  have HZ := Lib.hid hz
  have HZ' := Lib.hid hz'
  have HM := Lib.hid hm
  have HMK := Lib.hid hMK
  clear hs hf hv hmo hrs hrm hrl hpe hpl hK hlt hz hz' hm hm3 hf1 hf2 hlen hMK
  go_enter Try.func8, Try.ntmps8
  go_wp2_with fail
  refine (awake_any _).mono ?_
  rintro e w1 ⟨rfl, hb1⟩
  go_wp2_with fail
  refine (few_any A n c ss 40 300 w1 w.heap.size (Ss.below HS.out hb1) (by omega)).mono ?_
  rintro e w' ⟨rfl, rfl⟩
  rw [HF.out]
  go_wp2_with fail
  refine (valid_any l b w1).mono ?_
  rintro e w' ⟨rfl, rfl⟩
  rw [HV.out]
  go_wp2_with fail
  refine (records_any l A n c ss w1 (Ss.after HS.out hb1) (by omega) HZ.out).mono ?_
  rintro e w2 ⟨A2, c2, rfl, hs2, hb2⟩
  rw [HRS.out] at hs2
  have hB2 := below_next hb1 hb2 hb1.size
  have HS2 := Lib.hid hs2
  clear hs2 hb2
  go_wp2_with fail
  refine (pack_any l b A2 n c2 rs w2 HS2.out (by omega) HZ'.out).mono ?_
  rintro e w3 ⟨A3, c3, rfl, hs3, hb3⟩
  rw [HPL.out, blocks_length, HRL.out, HK.out] at hs3
  rw [HPL.out, HPE.out, blocks_length, HRL.out, HK.out]
  have hB3 := below_next hB2 hb3 hB2.size
  have hs2 := Ss.after HS2.out hb3
  have HS2 := Lib.hid hs2
  have HS3 := Lib.hid hs3
  clear hs3 hb3 hs2
  go_wp2_with (go_at_call 16; refine (most_any _ _ _).mono ?_; rintro e w' ⟨rfl, rfl⟩; rw [HMO.out])
  clear p1 p2 p3 p4 p5
  go_loopw [10, 68] (fun v i wr => ∃ k : Nat, k ≤ K ∧ i = .int .i64 k ∧ wr.ownsRow w3.heap.size 9 1 v (rs.take (m * k)).length ((rs.take (m * k)).map Value.string) ∧ Below w3.heap.size w3 wr) (fun _ i _ => K - (intOf i).toNat)
  case atStart =>
    refine ⟨0, Nat.zero_le _, rfl, ?_, (Below.refl _ _).alloc (Nat.le_refl _) _⟩
    exact World.ownsRow_lit _ _ _ (Nat.le_refl _) (by omega) rfl
  case round =>
    obtain ⟨k, hk, rfl, hown, hbel⟩ := hrel
    have HOW := Lib.hid hown
    have hsz := hbel.size
    clear hown
    by_cases hlt : k < K
    · obtain ⟨bb, o, s, rfl, hb, hg, hc⟩ := HS3.out.cell hlt
      have hc' := (hbel.cell (p := ⟨bb, o + k, none⟩) hb).trans hc
      have hkb : k < blkN m rs.length := by rw [HRL.out, HK.out]; exact hlt
      obtain ⟨q1, q2⟩ := blk_part hmp hkb
      rw [blocks_get hkb] at hg
      have htk : rs.take (m * (k + 1)) = rs.take (m * k) ++ (rs.drop (m * k)).take m := by rw [Nat.mul_succ, List.take_add]
      have hpm : ∀ s ∈ (rs.drop (m * k)).take m, (s.size : Int) = l := fun s hs => HRM.out s (List.mem_of_mem_drop (List.mem_of_mem_take hs))
      obtain ⟨tt, htt⟩ : ∃ tt, (rs.drop (m * k)).take m = tt := ⟨_, rfl⟩
      rw [htt] at q1 q2 hg htk hpm
      obtain ⟨u1, u2, u3, u4⟩ := unp_cat HV.out hpm q1 (by rw [HM.out]; omega)
      injection hg with hg
      rw [hg] at u1 u2 u3 u4
      have htl : (rs.take (m * k)).length ≤ 40 := by rw [List.length_take, HRL.out]; omega
      have hm40 : tt.length ≤ 40 := by
        have := congrArg List.length htt
        rw [List.length_take, List.length_drop, HRL.out] at this; omega
      have U1 := Lib.hid u1
      have U2 := Lib.hid u2
      have HTK := Lib.hid htk
      clear hg hc u1 u2 htk hpm htt hkb
      generalize hT : rs.take (m * k) = T at *
      have HT := Lib.hid hT
      clear hT
      go_wp2_with fail
      refine (unpack_any l b s _ (by omega)).mono ?_
      rintro e w4 ⟨A4, c4, rfl, hs4, hb4⟩
      rw [U1.out, U2.out]
      rw [U2.out] at hs4
      have hown4 := own_below HOW.out hb4
      have hbel4 := below_next hbel hb4 hsz
      have hsz4 := hbel4.size
      obtain ⟨bb4, o4, rfl, hbb4, hcc4⟩ := hs4.2.2 (by omega)
      have hcc5 := cells_at hcc4
      have hcl := hs4.1
      clear hs4 hb4 hcc4
      generalize hN4 : tt.length = n4 at *
      have HN4 := Lib.hid hN4
      clear hN4
      have U5 := Lib.hid hcc5
      clear hcc5
      go_wp2_with (at_builtin; refine wpList_append_own _ rfl _ _ 22 rfl w3.heap.size 9 i0 (.string ⟨#[]⟩) 1 16 Try.underlying22 hi0 hz0 hz1 hz2 rfl (by decide) _ _ _ rfl hown4 ⟨bb4, o4, none⟩ n4 c4 (tt.map Value.string) rfl ?c1 U5.out (strs_oneCell _) ?c3 ?c4 hsz4 ?_)
      case c1 => rw [List.length_map, HN4.out]; omega
      case c3 => unfold maxLen; omega
      case c4 => omega
      intro v2 w5 hown5 hg5 _
      have hbel5 : Below w3.heap.size w3 w5 := hbel4.grown hg5 hsz4 (own_row hown4 (Nat.le_refl _))
      have HOW5 := Lib.hid hown5
      clear hown5 hg5 hown4
      go_wp2
      go_roundw
      case rel =>
        refine ⟨k + 1, by omega, by go_num, ?_, hbel5⟩
        rw [HTK.out, List.length_append, HN4.out, List.map_append]
        exact HOW5.out
      case measure => simp [intOf]; omega
    · obtain rfl : k = K := by omega
      have how := HOW.out
      have hB4 := below_next hB3 hbel hB3.size
      rw [List.take_of_length_le (by rw [HMK.out, HRL.out]; exact hge), HRL.out] at how
      obtain ⟨A5, c5, hv5, hc5, _⟩ := own_form how
      subst hv5
      have HS5 : Ss wr wr.heap.size A5 n c5 rs := ⟨hc5, Rd.of_own how⟩
      have HS6 := Ss.after HS2.out hbel
      have H5 := Lib.hid HS5
      have H6 := Lib.hid HS6
      clear HS5 HS6 how
      go_wp2_with fail
      refine (same_true A5 A2 n c5 c2 rs wr wr.heap.size H5.out H6.out (by omega)).mono ?_
      rintro e w6 ⟨rfl, hb6⟩
      have hB6 := below_next hB4 hb6 hB4.size
      clear hb6
      go_wp2
      go_ret
      exact ⟨rfl, hB6⟩

theorem returns_walk (l b : Int) (A : Option Addr) (n c : Nat) (ss : List ByteArray) (w : World) (_ : (Lit.int .i64 l).wf = true) (_ : (Lit.int .i64 b).wf = true) (hs : Ss w w.heap.size A n c ss) (hc : c ≤ maxLen) :
    Calls Try.prog 8 #[.int .i64 l, .int .i64 b, .slice A n c] w fun e w' => e = .returned (.bool true) ∧ Below w.heap.size w w' := by
  unfold maxLen at hc
  have hnc := hs.1
  cases hf : fewB ss 40 300 with
  | false => exact out_few l b A n c ss w hs (by omega) hf
  | true =>
    cases hv : vldB l b with
    | false => exact out_valid l b A n c ss w hs (by omega) hf hv
    | true => exact returns_main l b A n c ss w hs hf hv
end Go.Proofs.Ytehagkkmkbjpcaa
