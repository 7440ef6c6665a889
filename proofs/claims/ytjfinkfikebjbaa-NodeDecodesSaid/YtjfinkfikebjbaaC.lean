/- Contract of the reference's IsNode. -/
import Derived.Test.YtjfinkfikebjbaaB
namespace Go.Proofs.Ytjfinkfikebjbaa
open Go.RowKit

theorem isnode_head (lv nx : Int) (A : Option Addr) (n c : Nat) (w : World) (hn : n ≤ 9223372036854775807) (h : headB lv nx n = false) :
    Calls Try.prog 14 #[.agg #[.int .i64 lv, .int .i64 nx, .slice A n c]] w fun e w' => e = .returned (.bool false) ∧ Below w.heap.size w w' := by
  have h : ¬ (1 ≤ n ∧ n ≤ 120 ∧ 0 ≤ lv ∧ lv ≤ 6 ∧ 0 ≤ nx ∧ nx ≤ 16777216) := by simpa [headB] using h
  by_cases h1 : n < 1
  · have d1 : decide ((n : Int) < 1) = true := by simp; omega
    clear h
    go_enter Try.func14, Try.ntmps14
    go_wp2
    go_ret
    exact ⟨rfl, (Below.refl _ _).alloc (Nat.le_refl _) _⟩
  have d1 : decide ((n : Int) < 1) = false := by simp; omega
  by_cases h2 : 120 < n
  · have d2 : decide (120 < (n : Int)) = true := by simp; omega
    clear h
    go_enter Try.func14, Try.ntmps14
    go_wp2
    go_ret
    exact ⟨rfl, (Below.refl _ _).alloc (Nat.le_refl _) _⟩
  have d2 : decide (120 < (n : Int)) = false := by simp; omega
  by_cases h3 : lv < 0
  · have d3 : decide (lv < 0) = true := by simp; omega
    clear h
    go_enter Try.func14, Try.ntmps14
    go_wp2
    go_ret
    exact ⟨rfl, (Below.refl _ _).alloc (Nat.le_refl _) _⟩
  have d3 : decide (lv < 0) = false := by simp; omega
  by_cases h4 : 6 < lv
  · have d4 : decide (6 < lv) = true := by simp; omega
    clear h
    go_enter Try.func14, Try.ntmps14
    go_wp2
    go_ret
    exact ⟨rfl, (Below.refl _ _).alloc (Nat.le_refl _) _⟩
  have d4 : decide (6 < lv) = false := by simp; omega
  by_cases h5 : nx < 0
  · have d5 : decide (nx < 0) = true := by simp; omega
    clear h
    go_enter Try.func14, Try.ntmps14
    go_wp2
    go_ret
    exact ⟨rfl, (Below.refl _ _).alloc (Nat.le_refl _) _⟩
  have d5 : decide (nx < 0) = false := by simp; omega
  have h6 : 16777216 < nx := by omega
  have d6 : decide (16777216 < nx) = true := by simp; omega
  clear h
  go_enter Try.func14, Try.ntmps14
  go_wp2
  go_ret
  exact ⟨rfl, (Below.refl _ _).alloc (Nat.le_refl _) _⟩

set_option maxRecDepth 100000 in
set_option maxHeartbeats 4000000 in
theorem isnode_any (lv nx : Int) (A : Option Addr) (n c : Nat) (es : List Ent) (w : World) (hs : Es w w.heap.size A n c es) (hn : n ≤ 9223372036854775807) :
    Calls Try.prog 14 #[.agg #[.int .i64 lv, .int .i64 nx, .slice A n c]] w fun e w' => e = .returned (.bool (plainB lv nx es)) ∧ Below w.heap.size w w' := by
  have hl := hs.len
  have HL := Lib.hid hl
  have HS := Lib.hid hs
  cases hh : headB lv nx n with
  | false =>
    have hp : plainB lv nx es = false := by unfold plainB; rw [hl, hh]; rfl
    rw [hp]
    exact isnode_head lv nx A n c w hn hh
  | true =>
    have hp : plainB lv nx es = (List.range n).all (entB es) := by unfold plainB; rw [hl, hh]; rfl
    rw [hp]
    obtain ⟨q, hq⟩ : ∃ q, (List.range n).all (entB es) = q := ⟨_, rfl⟩
    rw [hq]
    have HQ := Lib.hid hq
    clear hq
    have h : 1 ≤ n ∧ n ≤ 120 ∧ 0 ≤ lv ∧ lv ≤ 6 ∧ 0 ≤ nx ∧ nx ≤ 16777216 := by simpa [headB] using hh
    obtain ⟨h1, h2, h3, h4, h5, h6⟩ := h
    obtain ⟨m, rfl⟩ : ∃ m, n = m + 1 := ⟨n - 1, by omega⟩
    have d1 : decide ((m : Int) + 1 < 1) = false := by simp; omega
    have d2 : decide (120 < (m : Int) + 1) = false := by simp; omega
    have d3 : decide (lv < 0) = false := by simp; omega
    have d4 : decide (6 < lv) = false := by simp; omega
    have d5 : decide (nx < 0) = false := by simp; omega
    have d6 : decide (16777216 < nx) = false := by simp; omega
    clear hs hl hh hp
    go_enter Try.func14, Try.ntmps14
    go_wp2
    clear d1 d2 d3 d4 d5 d6
    go_loopw [3] (fun i wr => ∃ j : Nat, j ≤ m + 1 ∧ i = .int .i64 j ∧ (∀ t, t < j → entB es t = true) ∧ Below (w.heap.size + 1) (w.alloc (.cells #[.int .i64 lv, .int .i64 nx, .slice A (m + 1) c] 25)) wr) (fun i _ => m + 1 - (intOf i).toNat)
    case atStart => exact ⟨0, Nat.zero_le _, rfl, fun t h => absurd h (by omega), bx_start _ _ _⟩
    case round =>
      obtain ⟨j, hj, rfl, hall, hbel⟩ := hrel
      have HA := Lib.hid hall
      have hsz := bx_size hbel
      have hsz1 : w.heap.size < wr.heap.size := hsz
      have hbx : wr.cell? ⟨w.heap.size, 2, none⟩ = some (.slice A (m + 1) c) := bx_cell hbel 2
      clear hall
      by_cases hlt : j < m + 1
      · obtain ⟨b, o, x, p, rfl, hb, hg, hc, hc2⟩ := HS.out.cell hlt
        have k1 := (bx_old hbel (p := ⟨b, o + j * 2, none⟩) hb).trans hc
        have k2 := (bx_old hbel (p := ⟨b, o + j * 2 + 1, none⟩) hb).trans hc2
        have he := entAt_get hg
        have hE := entB_iff he HL.out
        have HE := Lib.hid hE
        have HB := Lib.hid hbel
        have hb2 : b < wr.heap.size := by omega
        clear hg he hE hc hc2 hbel
        by_cases c1 : 1 ≤ p
        · have p1 : decide (p < 1) = false := by simp; omega
          by_cases c2 : p ≤ 16777216
          · have p2 : decide (16777216 < p) = false := by simp; omega
            by_cases c3 : x.size ≤ 32
            · have x3 : decide (32 < (x.size : Int)) = false := by simp; omega
              by_cases cj : j = m
              · have j1 : ((j : Int) == (m : Int)) = true := by simp [cj]
                have CJ := Lib.hid cj
                clear cj
                by_cases cx : x.size = 0
                · obtain ⟨x1, x2⟩ := empty_list cx
                  have hok : entB es j = true := HE.out.2 ⟨⟨c1, c2⟩, by omega, ⟨fun _ => CJ.out, fun _ => cx⟩, .inr (.inl CJ.out)⟩
                  clear cx
                  by_cases cj0 : j = 0
                  · have j0 : decide (0 < j) = false := by simp [cj0]
                    clear cj0
                    have HT := Lib.hid hok
                    clear hok
                    go_wp2
                    go_quiet (fail)
                    go_wp2
                    go_roundw
                    case rel => exact ⟨j + 1, by omega, by go_num, step_all HA.out HT.out, below_drewN (HB.out.alloc hsz _) _⟩
                    case measure => simp [intOf]; omega
                  · have j0 : decide (0 < j) = true := by simp; omega
                    clear cj0
                    have HT := Lib.hid hok
                    clear hok
                    go_wp2
                    go_quiet (fail)
                    go_wp2
                    go_roundw
                    case rel => exact ⟨j + 1, by omega, by go_num, step_all HA.out HT.out, below_drewN (HB.out.alloc hsz _) _⟩
                    case measure => simp [intOf]; omega
                · obtain ⟨x1, x2⟩ := full_list cx
                  have hf : entB es j = false := by rw [← Bool.not_eq_true]; intro h; exact cx ((HE.out.1 h).2.2.1.2 CJ.out)
                  clear cx
                  have HF := Lib.hid (HQ.out.symm.trans (all_false hlt hf))
                  clear hf
                  go_wp2
                  go_ret
                  exact ⟨by rw [HF.out]; rfl, bx_below (HB.out.alloc hsz _)⟩
              · have j1 : ((j : Int) == (m : Int)) = false := by simp; omega
                by_cases cx : x.size = 0
                · obtain ⟨x1, x2⟩ := empty_list cx
                  have hf : entB es j = false := by rw [← Bool.not_eq_true]; intro h; exact cj ((HE.out.1 h).2.2.1.1 cx)
                  clear cx cj
                  have HF := Lib.hid (HQ.out.symm.trans (all_false hlt hf))
                  clear hf
                  go_wp2
                  go_ret
                  exact ⟨by rw [HF.out]; rfl, bx_below (HB.out.alloc hsz _)⟩
                · obtain ⟨x1, x2⟩ := full_list cx
                  by_cases cj0 : j = 0
                  · have j0 : decide (0 < j) = false := by simp [cj0]
                    have hok : entB es j = true := HE.out.2 ⟨⟨c1, c2⟩, c3, ⟨fun h => absurd h cx, fun h => absurd h cj⟩, .inl cj0⟩
                    clear cj0 cj cx
                    have HT := Lib.hid hok
                    clear hok
                    go_wp2
                    go_quiet (fail)
                    go_wp2
                    go_roundw
                    case rel => exact ⟨j + 1, by omega, by go_num, step_all HA.out HT.out, below_drewN (HB.out.alloc hsz _) _⟩
                    case measure => simp [intOf]; omega
                  · have j0 : decide (0 < j) = true := by simp; omega
                    obtain ⟨b', o', x', p', hA', hb', hg', hc', hc2'⟩ := HS.out.cell (show j - 1 < m + 1 by omega)
                    injection hA' with hA'
                    injection hA' with e1 e2 _
                    subst e1 e2
                    have k3 := (bx_old HB.out (p := ⟨b, o + (j - 1) * 2, none⟩) hb).trans hc'
                    have hpr := entAt_get hg'
                    obtain ⟨i, rfl⟩ : ∃ i, j = i + 1 := ⟨j - 1, by omega⟩
                    rw [Nat.add_sub_cancel] at k3 hpr HE
                    rw [hpr] at HE
                    clear hc' hc2' hb' hg' hpr
                    cases hlx : lessB x' x with
                    | true =>
                      have hok : entB es (i + 1) = true := HE.out.2 ⟨⟨c1, c2⟩, c3, ⟨fun h => absurd h cx, fun h => absurd h cj⟩, .inr (.inr hlx)⟩
                      have l1 : Op.bytesLess x'.toList x.toList = true := hlx
                      clear hlx cj0 cj cx
                      have HT := Lib.hid hok
                      clear hok
                      go_wp2
                      go_quiet (fail)
                      go_wp2
                      go_roundw
                      case rel => exact ⟨i + 1 + 1, by omega, by go_num, step_all HA.out HT.out, below_drewN (HB.out.alloc hsz _) _⟩
                      case measure => simp [intOf]; omega
                    | false =>
                      have hf : entB es (i + 1) = false := by
                        rw [← Bool.not_eq_true]; intro h
                        rcases (HE.out.1 h).2.2.2 with h | h | h
                        · omega
                        · exact cj h
                        · rw [hlx] at h; cases h
                      have l1 : Op.bytesLess x'.toList x.toList = false := hlx
                      clear hlx cj0 cj cx
                      have HF := Lib.hid (HQ.out.symm.trans (all_false hlt hf))
                      clear hf
                      go_wp2
                      go_quiet (fail)
                      go_wp2
                      go_ret
                      exact ⟨by rw [HF.out]; rfl, bx_below (below_drewN (HB.out.alloc hsz _) _)⟩
            · have x3 : decide (32 < (x.size : Int)) = true := by simp; omega
              have hf : entB es j = false := by rw [← Bool.not_eq_true]; intro h; exact c3 (HE.out.1 h).2.1
              have HF := Lib.hid (HQ.out.symm.trans (all_false hlt hf))
              clear hf
              go_wp2
              go_ret
              exact ⟨by rw [HF.out]; rfl, bx_below (HB.out.alloc hsz _)⟩
          · have p2 : decide (16777216 < p) = true := by simp; omega
            have hf : entB es j = false := by rw [← Bool.not_eq_true]; intro h; exact c2 (HE.out.1 h).1.2
            have HF := Lib.hid (HQ.out.symm.trans (all_false hlt hf))
            clear hf
            go_wp2
            go_ret
            exact ⟨by rw [HF.out]; rfl, bx_below (HB.out.alloc hsz _)⟩
        · have p1 : decide (p < 1) = true := by simp; omega
          have hf : entB es j = false := by rw [← Bool.not_eq_true]; intro h; exact c1 (HE.out.1 h).1.1
          have HF := Lib.hid (HQ.out.symm.trans (all_false hlt hf))
          clear hf
          go_wp2
          go_ret
          exact ⟨by rw [HF.out]; rfl, bx_below (HB.out.alloc hsz _)⟩
      · have hall := all_range (es := es) (n := m + 1) (fun t ht => HA.out t (by omega))
        have HAL := Lib.hid (HQ.out.symm.trans hall)
        clear hall
        go_wp2
        go_ret
        exact ⟨by rw [HAL.out]; rfl, bx_below hbel⟩
end Go.Proofs.Ytjfinkfikebjbaa
