/- The walk of FixedBuilds. -/
import Derived.Test.YtehagkkmkbjpcaaR
namespace Go.Proofs.Ytehagkkmkbjpcaa
open Go.RowKit

/-- behind j records: the blocks that are closed, and the last one -/
def Bld (m : Nat) (rs : List ByteArray) (j : Nat) (outs : List ByteArray) (lst : ByteArray) : Prop :=
  (j = 0 ∧ outs = [] ∧ lst = ⟨#[]⟩) ∨ (0 < j ∧ blocks m (rs.take j) = outs ++ [lst])

theorem nil_app (x : ByteArray) : (⟨#[]⟩ : ByteArray) ++ x = x := by apply ba_ext; rw [ba_app]; rfl

theorem builds_step {l b : Int} {m j : Nat} {rs outs : List ByteArray} {lst x : ByteArray} (hv : vldB l b = true) (hm : b / l = (m : Int)) (hr : ∀ s ∈ rs, (s.size : Int) = l) (hx : rs[j]? = some x) (h : Bld m rs j outs lst) :
    (addB l b lst x = true ∧ Bld m rs (j + 1) outs (lst ++ x)) ∨
    (addB l b lst x = false ∧ addB l b ⟨#[]⟩ x = true ∧ Bld m rs (j + 1) (outs ++ [lst]) (⟨#[]⟩ ++ x)) := by
  obtain ⟨h1, h2, h3, h4⟩ := vld_iff.1 hv
  have hm1 : 1 ≤ b / l := Int.le_ediv_of_mul_le (by omega) (by omega)
  have hmp : 0 < m := by omega
  have hxs := hr x (List.mem_of_getElem? hx)
  have hl : j < rs.length := (List.getElem?_eq_some_iff.1 hx).1
  have hz : (⟨#[]⟩ : ByteArray).size = 0 := rfl
  have hmo : mostI l b = (m : Int) := by unfold mostI; rw [hv]; simpa using hm
  have hadd0 : addB l b ⟨#[]⟩ x = true := by unfold addB; rw [hv, hz]; simp [hxs]
  rcases h with ⟨rfl, rfl, rfl⟩ | ⟨hj, hb⟩
  · left
    refine ⟨hadd0, .inr ⟨by omega, ?_⟩⟩
    have e : blocks m (rs.take 0) = [] := by simp [blocks, blkN_zero m hmp]
    rw [blocks_new hmp hx (by simp), e, nil_app]
  · obtain ⟨ys, tt, e1, e2, e3⟩ := last_block hmp hj (by omega : j ≤ rs.length)
    rw [hb] at e1
    obtain ⟨rfl, hlst⟩ := List.append_inj' e1 rfl
    injection hlst with hlst _
    have hml := Nat.mod_lt j hmp
    have htl : 1 ≤ tt.length ∧ tt.length ≤ m := by
      by_cases h0 : j % m = 0
      · rw [if_pos h0] at e3; omega
      · rw [if_neg h0] at e3; omega
    obtain ⟨u1, u2, u3, u4⟩ := unp_cat (l := l) (b := b) (tt := tt) hv (fun s hs => hr s (e2 s hs)) htl.1 (by omega)
    have hsz : (cat tt).size ≠ 0 := by
      have := cat_size_eq (l := l.toNat) (ss := tt) (fun s hs => by have := hr s (e2 s hs); omega)
      have h5 : 1 * 1 ≤ tt.length * l.toNat := Nat.mul_le_mul htl.1 (by omega)
      omega
    subst hlst
    by_cases h0 : j % m = 0
    · right
      rw [if_pos h0] at e3
      refine ⟨?_, hadd0, .inr ⟨by omega, ?_⟩⟩
      · unfold addB; rw [u1, u2, hmo, e3]; simp [hsz]
      · rw [blocks_new hmp hx h0, hb, nil_app]
    · left
      rw [if_neg h0] at e3
      refine ⟨?_, .inr ⟨by omega, ?_⟩⟩
      · unfold addB; rw [hv, u1, u2, hmo, e3]; simp [hxs]; omega
      · obtain ⟨y, ys, f1, f2⟩ := blocks_more hmp hx h0
        rw [hb] at f1
        obtain ⟨rfl, hy⟩ := List.append_inj' f1 rfl
        injection hy with hy _
        subst hy
        exact f2
theorem bld_size {l b : Int} {m j : Nat} {rs outs : List ByteArray} {lst : ByteArray} (hv : vldB l b = true) (hm : b / l = (m : Int)) (hr : ∀ s ∈ rs, (s.size : Int) = l) (hj : j ≤ rs.length) (h : Bld m rs j outs lst) :
    lst.size ≤ 2000 ∧ (0 < j → lst.size ≠ 0) ∧ outs.length ≤ j := by
  obtain ⟨h1, h2, h3, h4⟩ := vld_iff.1 hv
  have hm1 : 1 ≤ b / l := Int.le_ediv_of_mul_le (by omega) (by omega)
  have hmp : 0 < m := by omega
  rcases h with ⟨rfl, rfl, rfl⟩ | ⟨hj0, hb⟩
  · exact ⟨by decide, by omega, by simp⟩
  · obtain ⟨ys, tt, e1, e2, e3⟩ := last_block hmp hj0 hj
    have hbl := blocks_len (m := m) (ss := rs.take j) hmp
    rw [hb, List.length_append, List.length_take] at hbl
    rw [hb] at e1
    obtain ⟨rfl, hlst⟩ := List.append_inj' e1 rfl
    injection hlst with hlst _
    subst hlst
    have hml := Nat.mod_lt j hmp
    have htl : 1 ≤ tt.length ∧ tt.length ≤ m := by
      by_cases h0 : j % m = 0
      · rw [if_pos h0] at e3; omega
      · rw [if_neg h0] at e3; omega
    obtain ⟨u1, u2, u3, u4⟩ := unp_cat (l := l) (b := b) (tt := tt) hv (fun s hs => hr s (e2 s hs)) htl.1 (by omega)
    refine ⟨u4, fun _ => ?_, by omega⟩
    have := cat_size_eq (l := l.toNat) (ss := tt) (fun s hs => by have := hr s (e2 s hs); omega)
    have h5 : 1 * 1 ≤ tt.length * l.toNat := Nat.mul_le_mul htl.1 (by omega)
    omega
/-- the law's early way out -/
theorem bout_few (l b : Int) (A : Option Addr) (n c : Nat) (ss : List ByteArray) (w : World) (hs : Ss w w.heap.size A n c ss) (hn : n ≤ 9223372036854775807) (hf : fewB ss 40 300 = false) :
    Calls Try.prog 9 #[.int .i64 l, .int .i64 b, .slice A n c] w fun e w' => e = .returned (.bool true) ∧ Below w.heap.size w w' := by
  have HS := Lib.hid hs
  have HF := Lib.hid hf
  clear hs hf
  go_enter Try.func9, Try.ntmps9
  go_wp2_with fail
  refine (awake_any _).mono ?_
  rintro e w1 ⟨rfl, hb1⟩
  go_wp2_with fail
  refine (few_any A n c ss 40 300 w1 w.heap.size (Ss.below HS.out hb1) (by omega)).mono ?_
  rintro e w' ⟨rfl, rfl⟩
  rw [HF.out]
  go_wp2_with fail
  refine (awake_any _).mono ?_
  rintro e w2 ⟨rfl, hb2⟩
  have hB2 := below_next hb1 hb2 hb1.size
  clear hb2
  go_wp2
  go_ret
  exact ⟨rfl, hB2⟩
theorem bout_valid (l b : Int) (A : Option Addr) (n c : Nat) (ss : List ByteArray) (w : World) (hs : Ss w w.heap.size A n c ss) (hn : n ≤ 9223372036854775807) (hf : fewB ss 40 300 = true) (hv : vldB l b = false) :
    Calls Try.prog 9 #[.int .i64 l, .int .i64 b, .slice A n c] w fun e w' => e = .returned (.bool true) ∧ Below w.heap.size w w' := by
  have HS := Lib.hid hs
  have HF := Lib.hid hf
  have HV := Lib.hid hv
  clear hs hf hv
  go_enter Try.func9, Try.ntmps9
  go_wp2_with fail
  refine (awake_any _).mono ?_
  rintro e w1 ⟨rfl, hb1⟩
  go_wp2_with fail
  refine (few_any A n c ss 40 300 w1 w.heap.size (Ss.below HS.out hb1) (by omega)).mono ?_
  rintro e w' ⟨rfl, rfl⟩
  rw [HF.out]
  go_wp2_with fail
  refine (valid_any l b w1).mono ?_
  rintro e w' ⟨rfl, rfl⟩
  rw [HV.out]
  go_wp2_with fail
  refine (awake_any _).mono ?_
  rintro e w2 ⟨rfl, hb2⟩
  have hB2 := below_next hb1 hb2 hb1.size
  clear hb2
  go_wp2
  go_ret
  exact ⟨rfl, hB2⟩


set_option maxRecDepth 100000 in
set_option maxHeartbeats 2000000 in
theorem builds_main (l b : Int) (A : Option Addr) (n c : Nat) (ss : List ByteArray) (w : World) (hs : Ss w w.heap.size A n c ss) (hf : fewB ss 40 300 = true) (hv : vldB l b = true) :
    Calls Try.prog 9 #[.int .i64 l, .int .i64 b, .slice A n c] w fun e w' => e = .returned (.bool true) ∧ Below w.heap.size w w' := by
  obtain ⟨i0, hi0, hz0, hz1, hz2⟩ := info_parts Try.info9
  obtain ⟨hf1, hf2⟩ := few_le hf
  have hlen := hs.len
  have hz : ∀ s ∈ ss, s.size ≤ 100000 := fun s hs => by have := hf2 s hs; omega
  have hn : n ≤ 40 := by omega
  obtain ⟨h1, h2, h3, h4⟩ := vld_iff.1 hv
  have hm1 : 1 ≤ b / l := Int.le_ediv_of_mul_le (by omega) (by omega)
  obtain ⟨m, hm⟩ : ∃ m : Nat, b / l = (m : Int) := ⟨(b / l).toNat, by omega⟩
  obtain ⟨rs, hrs⟩ : ∃ rs, ss.map (padS l) = rs := ⟨_, rfl⟩
  have hrm : ∀ s ∈ rs, (s.size : Int) = l := by rw [← hrs]; exact padS_mem hv ss
  have hrl : rs.length = n := by rw [← hrs]; simpa using hlen
  obtain ⟨hpe, hpl⟩ := pack_ok hv hrm
  have hm3 : (b / l).toNat = m := by omega
  rw [hm3] at hpl
  have hz' : ∀ s ∈ rs, s.size ≤ 10000 := fun s hs => by have := hrm s hs; omega
  have HS := Lib.hid hs
  have HF := Lib.hid hf
  have HV := Lib.hid hv
  have HRS := Lib.hid hrs
  have HRM := Lib.hid hrm
  have HRL := Lib.hid hrl
  have HPE := Lib.hid hpe
  have HPL := Lib.hid hpl
  have HZ := Lib.hid hz
  have HZ' := Lib.hid hz'
  have HM := Lib.hid hm
  clear hs hf hv hrs hrm hrl hpe hpl hz hz' hm hm3 hf1 hf2 hlen hm1
  go_enter Try.func9, Try.ntmps9
  go_wp2_with fail
  refine (awake_any _).mono ?_
  rintro e w1 ⟨rfl, hb1⟩
  go_wp2_with fail
  refine (few_any A n c ss 40 300 w1 w.heap.size (Ss.below HS.out hb1) (by omega)).mono ?_
  rintro e w' ⟨rfl, rfl⟩
  rw [HF.out]
  go_wp2_with fail
  refine (valid_any l b w1).mono ?_
  rintro e w' ⟨rfl, rfl⟩
  rw [HV.out]
  go_wp2_with fail
  refine (records_any l A n c ss w1 (Ss.after HS.out hb1) (by omega) HZ.out).mono ?_
  rintro e w2 ⟨A2, c2, rfl, hs2, hb2⟩
  rw [HRS.out] at hs2
  have hB2 := below_next hb1 hb2 hb1.size
  have HS2 := Lib.hid hs2
  clear hs2 hb2
  go_wp2
  go_loopw [8, 9, 36] (fun v u i wr => ∃ (j : Nat) (outs : List ByteArray) (lst : ByteArray), j ≤ n ∧ i = .int .i64 j ∧ u = .string lst ∧ Bld m rs j outs lst ∧ wr.ownsRow w2.heap.size 9 1 v outs.length (outs.map Value.string) ∧ Below w2.heap.size w2 wr) (fun _ _ i _ => n - (intOf i).toNat)
  case atStart =>
    refine ⟨0, [], ⟨#[]⟩, Nat.zero_le _, rfl, rfl, .inl ⟨rfl, rfl, rfl⟩, ?_, (Below.refl _ _).alloc (Nat.le_refl _) _⟩
    exact World.ownsRow_lit _ _ _ (Nat.le_refl _) (by omega) rfl
  case round =>
    obtain ⟨j, outs, lst, hj, rfl, rfl, hbld, hown, hbel⟩ := hrel
    have HOW := Lib.hid hown
    have HBLD := Lib.hid hbld
    have hsz := hbel.size
    obtain ⟨z1, z2, z3⟩ := bld_size HV.out HM.out HRM.out (by rw [HRL.out]; exact hj) hbld
    clear hown hbld
    generalize hO : outs.length = O at *
    have HO := Lib.hid hO
    clear hO
    by_cases hlt : j < n
    · obtain ⟨bb, o, x, rfl, hb, hg, hc⟩ := HS2.out.cell hlt
      have hc' := (hbel.cell (p := ⟨bb, o + j, none⟩) hb).trans hc
      have hx1 := HZ'.out x (List.mem_of_getElem? hg)
      have hstep := builds_step HV.out HM.out HRM.out hg HBLD.out
      clear hc hg z2
      rcases hstep with ⟨s1, s2⟩ | ⟨s1, s2, s3⟩
      · have S1 := Lib.hid s1
        have S2 := Lib.hid s2
        clear s1 s2
        go_wp2_with fail
        refine (add_any l b lst x _ (by omega) (by omega)).mono ?_
        rintro e w3 ⟨rfl, hb3⟩
        rw [show addS l b lst x = lst ++ x from by unfold addS; rw [S1.out]; rfl, S1.out]
        have hown3 := own_below HOW.out hb3
        have hbel3 := below_next hbel hb3 hsz
        have HOW3 := Lib.hid hown3
        clear hown3 hb3
        go_wp2
        go_roundw
        case rel =>
          refine ⟨j + 1, outs, lst ++ x, by omega, by go_num, rfl, S2.out, ?_, hbel3⟩
          rw [HO.out]; exact HOW3.out
        case measure => simp [intOf]; omega
      · have S1 := Lib.hid s1
        have S2 := Lib.hid s2
        have S3 := Lib.hid s3
        clear s1 s2 s3
        go_wp2_with fail
        refine (add_any l b lst x _ (by omega) (by omega)).mono ?_
        rintro e w3 ⟨rfl, hb3⟩
        rw [show addS l b lst x = ⟨#[]⟩ from by unfold addS; rw [S1.out]; rfl, S1.out]
        have hown3 := own_below HOW.out hb3
        have hbel3 := below_next hbel hb3 hsz
        have hsz3 := hbel3.size
        clear hb3
        go_wp2_with (at_builtin; refine wpList_append_own _ rfl _ _ 22 rfl w2.heap.size 9 i0 (.string ⟨#[]⟩) 1 16 Try.underlying22 hi0 hz0 hz1 hz2 rfl (by decide) _ _ _ rfl (hown3.alloc _) ⟨w3.heap.size, 0, none⟩ 1 1 [.string lst] rfl rfl (cell_one_new _ _ _) (str_oneCell _) ?c3 ?c4 ?c5 ?_)
        case c3 => unfold maxLen; omega
        case c4 => omega
        case c5 => simp; omega
        intro v4 w4 hown4 hg4 _
        have hbel4 := below_push hbel3 hown3 (Nat.le_refl _) hsz3 hg4
        have HOW4 := Lib.hid hown4
        clear hown4 hg4 hown3
        go_wp2_with fail
        refine (add_any l b ⟨#[]⟩ x _ (by decide) (by omega)).mono ?_
        rintro e w5 ⟨rfl, hb5⟩
        rw [show addS l b ⟨#[]⟩ x = ⟨#[]⟩ ++ x from by unfold addS; rw [S2.out]; rfl, S2.out]
        have hown5 := own_below HOW4.out hb5
        have hbel5 := below_next hbel4 hb5 hbel4.size
        have HOW5 := Lib.hid hown5
        clear hown5 hb5
        go_wp2
        go_roundw
        case rel =>
          refine ⟨j + 1, outs ++ [lst], ⟨#[]⟩ ++ x, by omega, by go_num, rfl, S3.out, ?_, hbel5⟩
          rw [List.length_append, HO.out, List.map_append]; exact HOW5.out
        case measure => simp [intOf]; omega
    · obtain rfl : j = n := by omega
      have hB3 := below_next hB2 hbel hB2.size
      have hss := Ss.after HS2.out hbel
      have HSS := Lib.hid hss
      clear hss
      by_cases h0 : lst.size = 0
      · obtain ⟨e1, e2⟩ := empty_list h0
        have hj0 : j = 0 := by
          rcases Nat.eq_zero_or_pos j with h | h
          · exact h
          · exact absurd h0 (z2 h)
        have hbe : blocks m rs = outs := by
          rcases HBLD.out with ⟨_, ho, _⟩ | ⟨hp, _⟩
          · have : rs = [] := List.eq_nil_of_length_eq_zero (by rw [HRL.out]; exact hj0)
            rw [this, ho]; simp [blocks, blkN]
            omega
          · omega
        have HBE := Lib.hid hbe
        clear hbe hj0 h0 z2
        obtain ⟨A8, c8, hv8, hn8, _⟩ := own_form HOW.out
        subst hv8
        have hs8 : Ss wr wr.heap.size A8 O c8 outs := ⟨hn8, Rd.of_own HOW.out⟩
        have HS8 := Lib.hid hs8
        clear hs8 hn8
        go_wp2_with fail
        refine (pack_any l b A2 j c2 rs wr HSS.out (by omega) HZ'.out).mono ?_
        rintro e w3 ⟨A3, c3, rfl, hs3, hb3⟩
        rw [HPL.out, HBE.out, HO.out] at hs3
        rw [HPL.out, HPE.out, HBE.out, HO.out]
        have hB4 := below_next hB3 hb3 hB3.size
        have hs8 := Ss.after HS8.out hb3
        have HS8 := Lib.hid hs8
        have HS3 := Lib.hid hs3
        clear hs3 hs8 hb3
        go_wp2_with fail
        refine (same_true A8 A3 O c8 c3 outs w3 w3.heap.size HS8.out HS3.out (by omega)).mono ?_
        rintro e w4 ⟨rfl, hb4⟩
        have hB5 := below_next hB4 hb4 hB4.size
        clear hb4
        go_wp2
        go_ret
        exact ⟨rfl, hB5⟩
      · obtain ⟨e1, e2⟩ := full_list h0
        have hbe : blocks m rs = outs ++ [lst] := by
          rcases HBLD.out with ⟨_, _, ho⟩ | ⟨_, hb⟩
          · exact absurd (by rw [ho]; rfl) h0
          · rw [← hb, List.take_of_length_le (by rw [HRL.out]; exact Nat.le_refl _)]
        have HBE := Lib.hid hbe
        have how := HOW.out
        have hl1 : (outs ++ [lst]).length = O + 1 := by rw [List.length_append, HO.out]; rfl
        have HL1 := Lib.hid hl1
        clear hbe z2 hl1
        go_wp2_with (at_builtin; refine wpList_append_own _ rfl _ _ 22 rfl w2.heap.size 9 i0 (.string ⟨#[]⟩) 1 16 Try.underlying22 hi0 hz0 hz1 hz2 rfl (by decide) _ _ _ rfl (how.alloc _) ⟨wr.heap.size, 0, none⟩ 1 1 [.string lst] rfl rfl (cell_one_new _ _ _) (str_oneCell _) ?c3b ?c4b ?c5b ?_)
        case c3b => unfold maxLen; omega
        case c4b => omega
        case c5b => simp; omega
        intro v4 w4 hown4 hg4 _
        have hbel4 := below_push hbel how (Nat.le_refl _) hsz hg4
        have hss4 := Ss.after HS2.out hbel4
        have HSS4 := Lib.hid hss4
        have hB4 := below_next hB2 hbel4 hB2.size
        obtain ⟨A8, c8, hv8, hn8, _⟩ := own_form hown4
        subst hv8
        have hs8 : Ss w4 w4.heap.size A8 (O + 1) c8 (outs ++ [lst]) := ⟨hn8, by rw [List.map_append]; exact Rd.of_own hown4⟩
        have HS8 := Lib.hid hs8
        clear hs8 hn8 hown4 hg4 how hss4
        go_wp2_with fail
        refine (pack_any l b A2 j c2 rs w4 HSS4.out (by omega) HZ'.out).mono ?_
        rintro e w5 ⟨A5, c5, rfl, hs5, hb5⟩
        rw [HPL.out, HBE.out, HL1.out] at hs5
        rw [HPL.out, HPE.out, HBE.out, HL1.out]
        have hB5 := below_next hB4 hb5 hB4.size
        have hs8 := Ss.after HS8.out hb5
        have HS8 := Lib.hid hs8
        have HS5 := Lib.hid hs5
        clear hs5 hs8 hb5
        go_wp2_with fail
        refine (same_true A8 A5 (O + 1) c8 c5 (outs ++ [lst]) w5 w5.heap.size HS8.out HS5.out (by omega)).mono ?_
        rintro e w6 ⟨rfl, hb6⟩
        have hB6 := below_next hB5 hb6 hB5.size
        clear hb6
        go_wp2
        go_ret
        exact ⟨rfl, hB6⟩

theorem builds_walk (l b : Int) (A : Option Addr) (n c : Nat) (ss : List ByteArray) (w : World) (_ : (Lit.int .i64 l).wf = true) (_ : (Lit.int .i64 b).wf = true) (hs : Ss w w.heap.size A n c ss) (hc : c ≤ maxLen) :
    Calls Try.prog 9 #[.int .i64 l, .int .i64 b, .slice A n c] w fun e w' => e = .returned (.bool true) ∧ Below w.heap.size w w' := by
  unfold maxLen at hc
  have hnc := hs.1
  cases hf : fewB ss 40 300 with
  | false => exact bout_few l b A n c ss w hs (by omega) hf
  | true =>
    cases hv : vldB l b with
    | false => exact bout_valid l b A n c ss w hs (by omega) hf hv
    | true => exact builds_main l b A n c ss w hs hf hv
end Go.Proofs.Ytehagkkmkbjpcaa
