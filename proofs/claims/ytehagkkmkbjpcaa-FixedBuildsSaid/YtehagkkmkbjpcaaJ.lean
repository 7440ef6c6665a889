/- Contracts of Add, of the program and of the reference. -/
import Derived.Test.YtehagkkmkbjpcaaI
namespace Go.Proofs.Ytehagkkmkbjpcaa
open Go.RowKit

def addB (l b : Int) (d r : ByteArray) : Bool := vldB l b && decide ((r.size : Int) = l) && (decide (d.size = 0) || (decide (unpE l b d = 0) && !decide (((unpL l b d).length : Int) = mostI l b)))
def addS (l b : Int) (d r : ByteArray) : ByteArray := if addB l b d r then d ++ r else ⟨#[]⟩
/-- the two results of Add -/
def AddR (l b : Int) (d r : ByteArray) (w : World) (e : Ending) (w' : World) : Prop := e = .returned (.tuple #[.string (addS l b d r), .bool (addB l b d r)]) ∧ Below w.heap.size w w'

theorem addR_no {l b : Int} {d r : ByteArray} {w w' : World} (h : addB l b d r = false) (hb : Below w.heap.size w w') : AddR l b d r w (.returned (.tuple #[.string ⟨#[]⟩, .bool false])) w' := by
  refine ⟨?_, hb⟩; unfold addS; rw [h]; rfl
theorem addR_yes {l b : Int} {d r : ByteArray} {w w' : World} (h : addB l b d r = true) (hb : Below w.heap.size w w') : AddR l b d r w (.returned (.tuple #[.string (d ++ r), .bool true])) w' := by
  refine ⟨?_, hb⟩; unfold addS; rw [h]; rfl

theorem ba_list (d : ByteArray) : d.toList = d.data.toList := ByteArray.toList_eq d
theorem empty_list {d : ByteArray} (h : d.size = 0) : d.toList.isEmpty = true ∧ d.toList = [] := by
  have : d.toList = [] := by rw [ba_list]; apply List.eq_nil_of_length_eq_zero; rw [ba_len]; exact h
  exact ⟨by rw [this]; rfl, this⟩
theorem full_list {d : ByteArray} (h : d.size ≠ 0) : d.toList.isEmpty = false ∧ ¬ d.toList = [] := by
  have : ¬ d.toList = [] := by
    intro e
    have := ba_len d
    rw [← ba_list, e] at this
    simp at this; omega
  exact ⟨by simpa using this, this⟩

theorem no_len {l b : Int} {d : ByteArray} (hv : vldB l b = true) (h0 : d.size = 0) : (((unpL l b d).length : Int) == mostI l b) = false := by
  obtain ⟨h1, h2, h3, h4⟩ := vld_iff.1 hv
  have hm1 : 1 ≤ b / l := Int.le_ediv_of_mul_le (by omega) (by omega)
  have hu : unpL l b d = [] := by unfold unpL okU; rw [h0]; simp
  rw [hu]
  unfold mostI
  rw [hv]
  apply beq_eq_false_iff_ne.2
  simp only [List.length_nil, if_true]
  omega

set_option maxHeartbeats 1000000 in
theorem add_any (l b : Int) (d r : ByteArray) (w : World) (hd : d.size ≤ 100000) (hr : r.size ≤ 100000) :
    Calls Try.prog 20 #[.int .i64 l, .int .i64 b, .string d, .string r] w (AddR l b d r w) := by
  by_cases hv : vldB l b = true
  · have HV := Lib.hid hv
    by_cases hs : (r.size : Int) = l
    · have hs' : ((r.size : Int) != l) = false := by simp [hs]
      have HS := Lib.hid hs
      clear hs hv
      by_cases h0 : d.size = 0
      · obtain ⟨h1, h2⟩ := empty_list h0
        have hb : addB l b d r = true := by unfold addB; rw [HV.out]; simp [HS.out, h0]
        have HB := Lib.hid hb
        clear h0 hb
        go_enter Try.func20, Try.ntmps20
        go_wp2_with (first | (go_at_call 14; refine (valid_any _ _ _).mono ?_; rintro e w' ⟨rfl, rfl⟩; rw [HV.out]))
        go_ret2
        exact addR_yes HB.out (Below.refl _ _)
      · obtain ⟨h1, h2⟩ := full_list h0
        by_cases he : unpE l b d = 0
        · have HE := Lib.hid he
          clear he
          by_cases hm : ((unpL l b d).length : Int) = mostI l b
          · have hb : addB l b d r = false := by unfold addB; simp [h0, hm]
            have HB := Lib.hid hb
            have hm' : (((unpL l b d).length : Int) == mostI l b) = true := by simp [hm]
            clear hb hm
            go_enter Try.func20, Try.ntmps20
            go_wp2_with (first | (go_at_call 14; refine (valid_any _ _ _).mono ?_; rintro e w' ⟨rfl, rfl⟩; rw [HV.out]))
            refine (unpack_any l b d _ hd).mono ?_
            rintro e w1 ⟨A, c, rfl, hss, hbl⟩
            rw [HE.out]
            go_wp2_with (first | (go_at_call 16; refine (most_any _ _ _).mono ?_; rintro e w' ⟨rfl, rfl⟩))
            go_ret2
            exact addR_no HB.out hbl
          · have hb : addB l b d r = true := by unfold addB; rw [HV.out]; simp [HS.out, HE.out, hm]
            have HB := Lib.hid hb
            have hm' : (((unpL l b d).length : Int) == mostI l b) = false := by simp [hm]
            clear hb hm
            go_enter Try.func20, Try.ntmps20
            go_wp2_with (first | (go_at_call 14; refine (valid_any _ _ _).mono ?_; rintro e w' ⟨rfl, rfl⟩; rw [HV.out]))
            refine (unpack_any l b d _ hd).mono ?_
            rintro e w1 ⟨A, c, rfl, hss, hbl⟩
            rw [HE.out]
            go_wp2_with (first | (go_at_call 16; refine (most_any _ _ _).mono ?_; rintro e w' ⟨rfl, rfl⟩))
            go_ret2
            exact addR_yes HB.out hbl
        · have he' : (unpE l b d != 0) = true := by simp [he]
          have hb : addB l b d r = false := by unfold addB; simp [h0, he]
          have HB := Lib.hid hb
          clear he hb
          go_enter Try.func20, Try.ntmps20
          go_wp2_with (first | (go_at_call 14; refine (valid_any _ _ _).mono ?_; rintro e w' ⟨rfl, rfl⟩; rw [HV.out]))
          refine (unpack_any l b d _ hd).mono ?_
          rintro e w1 ⟨A, c, rfl, hss, hbl⟩
          go_wp2_with (first | (go_at_call 16; refine (most_any _ _ _).mono ?_; rintro e w' ⟨rfl, rfl⟩))
          go_ret2
          exact addR_no HB.out hbl
    · have hs' : ((r.size : Int) != l) = true := by simp [hs]
      have hb : addB l b d r = false := by unfold addB; simp [hs]
      have HB := Lib.hid hb
      clear hs hv hb
      go_enter Try.func20, Try.ntmps20
      go_wp2_with (first | (go_at_call 14; refine (valid_any _ _ _).mono ?_; rintro e w' ⟨rfl, rfl⟩; rw [HV.out]))
      go_ret2
      exact addR_no HB.out (Below.refl _ _)
  · have hv : vldB l b = false := by simpa using hv
    have HV := Lib.hid hv
    have hb : addB l b d r = false := by unfold addB; simp [hv]
    have HB := Lib.hid hb
    clear hv hb
    go_enter Try.func20, Try.ntmps20
    go_wp2_with (first | (go_at_call 14; refine (valid_any _ _ _).mono ?_; rintro e w' ⟨rfl, rfl⟩; rw [HV.out]))
    go_ret2
    exact addR_no HB.out (Below.refl _ _)
set_option maxHeartbeats 1000000 in
theorem radd_any (l b : Int) (d r : ByteArray) (w : World) (hd : d.size ≤ 100000) (hr : r.size ≤ 100000) :
    Calls Try.prog 21 #[.int .i64 l, .int .i64 b, .string d, .string r] w (AddR l b d r w) := by
  by_cases hv : vldB l b = true
  · have HV := Lib.hid hv
    by_cases hs : (r.size : Int) = l
    · have hs' : ((r.size : Int) != l) = false := by simp [hs]
      have HS := Lib.hid hs
      clear hs hv
      by_cases h0 : d.size = 0
      · obtain ⟨h1, h2⟩ := empty_list h0
        have hb : addB l b d r = true := by unfold addB; rw [HV.out]; simp [HS.out, h0]
        have HB := Lib.hid hb
        have hm' := no_len HV.out h0
        clear h0 hb
        go_enter Try.func21, Try.ntmps21
        go_wp2_with fail
        refine (runpack_any l b d _ hd).mono ?_
        rintro e w1 ⟨A, c, rfl, hss, hbl⟩
        go_wp2_with (first | (go_at_call 15; refine (rvalid_any _ _ _).mono ?_; rintro e w' ⟨rfl, rfl⟩; rw [HV.out]) | (go_at_call 17; refine (rmost_any _ _ _).mono ?_; rintro e w' ⟨rfl, rfl⟩))
        go_ret2
        exact addR_yes HB.out hbl
      · obtain ⟨h1, h2⟩ := full_list h0
        by_cases he : unpE l b d = 0
        · have HE := Lib.hid he
          clear he
          by_cases hm : ((unpL l b d).length : Int) = mostI l b
          · have hb : addB l b d r = false := by unfold addB; simp [h0, hm]
            have HB := Lib.hid hb
            have hm' : (((unpL l b d).length : Int) == mostI l b) = true := by simp [hm]
            clear hb hm
            go_enter Try.func21, Try.ntmps21
            go_wp2_with fail
            refine (runpack_any l b d _ hd).mono ?_
            rintro e w1 ⟨A, c, rfl, hss, hbl⟩
            rw [HE.out]
            go_wp2_with (first | (go_at_call 15; refine (rvalid_any _ _ _).mono ?_; rintro e w' ⟨rfl, rfl⟩; rw [HV.out]) | (go_at_call 17; refine (rmost_any _ _ _).mono ?_; rintro e w' ⟨rfl, rfl⟩))
            go_ret2
            exact addR_no HB.out hbl
          · have hb : addB l b d r = true := by unfold addB; rw [HV.out]; simp [HS.out, HE.out, hm]
            have HB := Lib.hid hb
            have hm' : (((unpL l b d).length : Int) == mostI l b) = false := by simp [hm]
            clear hb hm
            go_enter Try.func21, Try.ntmps21
            go_wp2_with fail
            refine (runpack_any l b d _ hd).mono ?_
            rintro e w1 ⟨A, c, rfl, hss, hbl⟩
            rw [HE.out]
            go_wp2_with (first | (go_at_call 15; refine (rvalid_any _ _ _).mono ?_; rintro e w' ⟨rfl, rfl⟩; rw [HV.out]) | (go_at_call 17; refine (rmost_any _ _ _).mono ?_; rintro e w' ⟨rfl, rfl⟩))
            go_ret2
            exact addR_yes HB.out hbl
        · have he' : (unpE l b d != 0) = true := by simp [he]
          have hb : addB l b d r = false := by unfold addB; simp [h0, he]
          have HB := Lib.hid hb
          clear he hb
          go_enter Try.func21, Try.ntmps21
          go_wp2_with fail
          refine (runpack_any l b d _ hd).mono ?_
          rintro e w1 ⟨A, c, rfl, hss, hbl⟩
          go_wp2_with (first | (go_at_call 15; refine (rvalid_any _ _ _).mono ?_; rintro e w' ⟨rfl, rfl⟩; rw [HV.out]) | (go_at_call 17; refine (rmost_any _ _ _).mono ?_; rintro e w' ⟨rfl, rfl⟩))
          go_ret2
          exact addR_no HB.out hbl
    · have hs' : ((r.size : Int) != l) = true := by simp [hs]
      have hb : addB l b d r = false := by unfold addB; simp [hs]
      have HB := Lib.hid hb
      clear hs hv hb
      go_enter Try.func21, Try.ntmps21
      go_wp2_with fail
      refine (runpack_any l b d _ hd).mono ?_
      rintro e w1 ⟨A, c, rfl, hss, hbl⟩
      go_wp2_with (first | (go_at_call 15; refine (rvalid_any _ _ _).mono ?_; rintro e w' ⟨rfl, rfl⟩; rw [HV.out]) | (go_at_call 17; refine (rmost_any _ _ _).mono ?_; rintro e w' ⟨rfl, rfl⟩))
      go_ret2
      exact addR_no HB.out hbl
  · have hv : vldB l b = false := by simpa using hv
    have HV := Lib.hid hv
    have hb : addB l b d r = false := by unfold addB; simp [hv]
    have HB := Lib.hid hb
    clear hv hb
    go_enter Try.func21, Try.ntmps21
    go_wp2_with fail
    refine (runpack_any l b d _ hd).mono ?_
    rintro e w1 ⟨A, c, rfl, hss, hbl⟩
    go_wp2_with (first | (go_at_call 15; refine (rvalid_any _ _ _).mono ?_; rintro e w' ⟨rfl, rfl⟩; rw [HV.out]) | (go_at_call 17; refine (rmost_any _ _ _).mono ?_; rintro e w' ⟨rfl, rfl⟩))
    go_ret2
    exact addR_no HB.out hbl
end Go.Proofs.Ytehagkkmkbjpcaa
