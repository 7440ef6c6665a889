/- History: Order. -/
import Derived.Test.YtpklgdclknicjaaGreatDoorHN
namespace Go.Proofs.YtpklgdclknicjaaGreatDoor
open Go.RowKit

set_option maxRecDepth 100000 in
theorem o1_any (x : Com) (w : World) (hok : ComOk w w.heap.size x) (hv : VolsOk x) :
    Calls Tryz.prog 17 #[.agg #[.int .i64 x.unit, .int .i64 x.num, .slice x.rA x.rn x.rc, .slice x.cA x.cn x.cc]] w fun e w' => e = .returned (.bool (!comB x)) ∧ Below w.heap.size w w' := by
  have h := valid_any x (w.alloc (.cells #[.int .i64 x.unit, .int .i64 x.num, .slice x.rA x.rn x.rc, .slice x.cA x.cn x.cc] 47)) (hok.after ((Below.refl _ _).alloc (Nat.le_refl _) _) (by simp)) hv
  unfold comV at h
  generalize comB x = R at h ⊢
  have H := Lib.hid h
  clear h hok hv
  generalize x.unit = a1 at H ⊢
  generalize x.num = a2 at H ⊢
  generalize x.rA = a3 at H ⊢
  generalize x.rn = a4 at H ⊢
  generalize x.rc = a5 at H ⊢
  generalize x.cA = a6 at H ⊢
  generalize x.cn = a7 at H ⊢
  generalize x.cc = a8 at H ⊢
  go_enter Tryz.func17, Tryz.ntmps17
  go_wp2_with fail
  refine H.out.mono ?_
  rintro e w1 ⟨rfl, hb1⟩
  have X1 := Lib.hid (bx_below (show Below (w.heap.size + 1) (w.alloc (.cells #[.int .i64 a1, .int .i64 a2, .slice a3 a4 a5, .slice a6 a7 a8] 47)) w1 by simpa using hb1))
  clear hb1
  go_wp2
  go_ret
  exact ⟨rfl, X1.out⟩

/-- the numbers of a list of units, in its order -/
def chkL (n : Int) : List Com → Bool
  | [] => true
  | c :: r => if c.num ≤ n then false else chkL (if 0 < c.cn then c.num + c.cn - 1 else n) r
def ordB (l : List Com) : Option (List Com) := if (l.any fun x => !comB x) = true then none else if chkL 0 (sortB befB [] l) = true then some (sortB befB [] l) else none
def OrdNo (w : World) (e : Ending) (w' : World) : Prop := e = .returned (.tuple #[.slice none 0 0, .bool false]) ∧ Below w.heap.size w w'
def OrdYes (w : World) (s : List Com) (e : Ending) (w' : World) : Prop := ∃ A c, e = .returned (.tuple #[.slice A s.length c, .bool true]) ∧ Cs w' w'.heap.size A s.length c s ∧ Below w.heap.size w w'
def OrdP (r : Option (List Com)) (w : World) (e : Ending) (w' : World) : Prop := (r = none ∧ OrdNo w e w') ∨ (∃ s, r = some s ∧ OrdYes w s e w')
theorem comB_num {x : Com} (h : comB x = true) : 1 ≤ x.num ∧ x.num ≤ 1099511627776 ∧ x.cn ≤ 300 := by
  unfold comB at h
  simp only [Bool.and_eq_true, decide_eq_true_eq] at h
  have := numB_true h.1.1.1.2
  exact ⟨this.1, this.2, h.1.1.1.1.2⟩

set_option maxRecDepth 100000 in
set_option maxHeartbeats 1000000 in
theorem order_any (A : Option Addr) (n c : Nat) (l : List Com) (w : World) (hs : Cs w w.heap.size A n c l) (hv : ∀ x ∈ l, VolsOk x) (hn : n ≤ 12) :
    Calls Tryz.prog 8 #[.slice A n c] w (OrdP (ordB l) w) := by
  have hl := hs.1.len
  have HC := Lib.hid (units_any (fun x => !comB x) A n c l w hs.1 (by omega) fun x hx W hb => o1_any x W ((hs.2 x hx).after hb hb.size) (hv x hx))
  cases ha : (l.any fun x => !comB x) with
  | true =>
    rw [ha] at HC
    have HO : Hid (ordB l = none) := Lib.hid (by unfold ordB; rw [if_pos ha])
    clear hs hv hn hl ha
    go_enter Tryz.func8, Tryz.ntmps8
    go_wp2_with (go_at_call 16; refine HC.out.mono ?_; rintro e w1 ⟨rfl, hb1⟩)
    go_ret2
    exact .inl ⟨HO.out, rfl, hb1⟩
  | false =>
    rw [ha] at HC
    have hall : ∀ x ∈ l, comB x = true := fun x hx => by
      have := List.any_eq_false.1 ha x hx
      simpa using this
    obtain ⟨s, hsort⟩ : ∃ s, sortB befB [] l = s := ⟨_, rfl⟩
    have hmem : ∀ x ∈ s, x ∈ l := fun x hx => by
      rw [← hsort, mem_sortB] at hx
      rcases hx with hx | hx
      · cases hx
      · exact hx
    have hsl : s.length = n := by rw [← hsort, sortB_len]; simpa using hl
    obtain ⟨r, hr⟩ : ∃ r, ordB l = r := ⟨_, rfl⟩
    have hr2 : r = if chkL 0 s = true then some s else none := by rw [← hr, ← hsort]; unfold ordB; rw [ha]; simp
    rw [hr]
    have HALL := Lib.hid hall
    have HMEM := Lib.hid hmem
    have HSL := Lib.hid hsl
    have HRR := Lib.hid hr2
    have HL := Lib.hid hl
    have HSORT := Lib.hid hsort
    have HS := Lib.hid hs
    have hn' : n ≤ 1000 := by omega
    have HN := Lib.hid hn
    clear hall hmem hsl hr hr2 hl hsort ha hs hv hn
    go_enter Tryz.func8, Tryz.ntmps8
    go_wp2_with fail
    refine HC.out.mono ?_
    rintro e w1 ⟨rfl, hb1⟩
    have HCL := Lib.hid (clone_any A n c l w1 (HS.out.1.after hb1 hb1.size) hn')
    have B1 := Lib.hid hb1
    clear hb1
    go_wp2_with fail
    refine HCL.out.mono ?_
    rintro e w2 ⟨v, rfl, ho, hb2⟩
    have HSO := Lib.hid (sort_any v n l w2 w1.heap.size ho HL.out HN.out hb2.size)
    obtain ⟨A2, c2, rfl, hc1, hc2⟩ := own_form ho
    have B2 := Lib.hid hb2
    clear ho hb2 hc1 hc2
    go_wp2_with fail
    refine HSO.out.mono ?_
    rintro e w3 ⟨rfl, ho, hb3⟩
    rw [HSORT.out] at ho
    have HSL3 := Lib.hid (Sl.of_own (f := comC) (k := 4) comC_len (by decide) ho)
    have B3 := Lib.hid (below_next B1.out (B2.out.trans hb3) (B1.out.size))
    have HCS := Lib.hid (show Cs w3 w3.heap.size A2 n c2 s from ⟨HSL3.out, fun x hx => (HS.out.2 x (HMEM.out x hx)).after B3.out B3.out.size⟩)
    clear ho hb3
    go_wp2
    go_loopw [5, 16] (fun v5 i wr => ∃ (j : Nat) (nv : Int), j ≤ n ∧ i = .int .i64 j ∧ v5 = .int .i64 nv ∧ chkL 0 s = chkL nv (s.drop j) ∧ Below w3.heap.size w3 wr) (fun _ i _ => n - (intOf i).toNat)
    case atStart => exact ⟨0, 0, Nat.zero_le _, rfl, rfl, rfl, Below.refl _ _⟩
    case round =>
      obtain ⟨j, nv, hj, rfl, rfl, hchk, hbel⟩ := hrel
      have HCHK := Lib.hid hchk
      have HB := Lib.hid hbel
      clear hchk hbel
      by_cases hlt : j < n
      · obtain ⟨b, o, x, rfl, hb, hg, hcell⟩ := Sl.cell (f := comC) (k := 4) comC_len (HSL3.out.below HB.out) hlt
        have c0 := hcell 0 _ rfl; have c1 := hcell 1 _ rfl; have c2 := hcell 2 _ rfl; have c3 := hcell 3 _ rfl
        simp only [Nat.add_zero] at c0
        have hx := HALL.out x (HMEM.out x (List.mem_of_getElem? hg))
        obtain ⟨n1, n2, n3⟩ := comB_num hx
        have hd : s.drop j = x :: s.drop (j + 1) := by
          have hjs : j < s.length := by rw [HSL.out]; exact hlt
          rw [List.drop_eq_getElem_cons hjs]
          congr 1
          exact (List.getElem?_eq_some_iff.1 hg).2
        have hstep : chkL 0 s = if x.num ≤ nv then false else chkL (if 0 < x.cn then x.num + x.cn - 1 else nv) (s.drop (j + 1)) := by rw [HCHK.out, hd]; rfl
        have HLA := Lib.hid fun W => last_any x W n1 n2 n3
        have bsz := HB.out.size
        unfold comV at HLA
        clear hb hg hcell hx n2 hd
        by_cases hle : x.num ≤ nv
        · rw [if_pos hle] at hstep
          have HST : Hid (r = none) := Lib.hid (by rw [HRR.out, hstep]; rfl)
          have d1 : decide (x.num ≤ nv) = true := by simpa using hle
          clear hstep hle n1 n3
          go_wp2
          go_ret2
          exact .inl ⟨HST.out, rfl, (B3.out.trans (HB.out.mono B3.out.size)).alloc (Nat.le_trans B3.out.size bsz) _⟩
        · rw [if_neg hle] at hstep
          have d1 : decide (x.num ≤ nv) = false := by simpa using hle
          by_cases hc : 0 < x.cn
          · rw [if_pos hc] at hstep
            have HST := Lib.hid hstep
            have d2 : decide (0 < x.cn) = true := by simpa using hc
            have d3 : decide ((0 : Int) < (x.cn : Int)) = true := by simpa using hc
            have HLB := Lib.hid (HLA.out (wr.alloc (.cells #[.int .i64 x.num, .int .i64 x.num] 47)))
            clear HLB
            clear hstep hle hc n1 n3
            go_wp2_with (go_at_call 24; refine (HLA.out _).mono ?_; rintro e w4 ⟨rfl, hb4⟩; have HB4 := Lib.hid (show Below w3.heap.size w3 w4 from below_next (HB.out.alloc bsz _) hb4 (Nat.le_trans bsz (by simp))); clear hb4)
            go_roundw
            case rel => exact ⟨j + 1, _, by omega, by go_num, rfl, HST.out, HB4.out⟩
            case measure => simp [intOf]; omega
          · rw [if_neg hc] at hstep
            have HST := Lib.hid hstep
            have d2 : decide (0 < x.cn) = false := by simpa using hc
            have d3 : decide ((0 : Int) < (x.cn : Int)) = false := by simp; omega
            clear hstep hle hc n1 n3
            go_wp2
            go_roundw
            case rel => exact ⟨j + 1, _, by omega, by go_num, rfl, HST.out, HB.out.alloc bsz _⟩
            case measure => simp [intOf]; omega
      · have hst : chkL 0 s = true := by rw [HCHK.out, List.drop_of_length_le (by rw [HSL.out]; omega)]; rfl
        have HST : Hid (r = some s) := Lib.hid (by rw [HRR.out, hst]; rfl)
        have BW := Lib.hid (B3.out.trans (HB.out.mono B3.out.size))
        clear hst
        go_wp2
        go_ret2
        exact .inr ⟨s, HST.out, A2, c2, by rw [HSL.out]; rfl, by rw [HSL.out]; exact HCS.out.after HB.out HB.out.size, BW.out⟩
end Go.Proofs.YtpklgdclknicjaaGreatDoor
