/- HistorySums: the reference's Summary. Printed by wip/sums/gen_sr.py. -/
import Derived.Test.YtpklgdclknicjaaGreatDoorSB
import Derived.Test.YtpklgdclknicjaaGreatDoorSC
import Derived.Test.YtpklgdclknicjaaGreatDoorSS
namespace Go.Proofs.YtpklgdclknicjaaGreatDoor
open Go.RowKit

theorem words_at {k : Nat} (h : k < 10) : (#[.string ⟨#[114, 101, 103, 105, 111, 110, 115]⟩, .string ⟨#[117, 110, 105, 116, 115]⟩, .string ⟨#[97, 110, 115, 119, 101, 114, 115]⟩, .string ⟨#[99, 111, 109, 109, 105, 116, 115]⟩, .string ⟨#[100, 114, 111, 112, 115]⟩, .string ⟨#[106, 111, 98, 32, 108, 105, 110, 101, 115]⟩, .string ⟨#[100, 111, 119, 110, 115]⟩, .string ⟨#[117, 112, 115]⟩, .string ⟨#[102, 105, 110, 100, 105, 110, 103, 115]⟩, .string ⟨#[108, 111, 115, 115, 101, 115]⟩] : Array Value)[k]? = some (.string (wordsL.getD k ⟨#[]⟩)) := by
  match k, h with
  | 0, _ => rfl
  | 1, _ => rfl
  | 2, _ => rfl
  | 3, _ => rfl
  | 4, _ => rfl
  | 5, _ => rfl
  | 6, _ => rfl
  | 7, _ => rfl
  | 8, _ => rfl
  | 9, _ => rfl
theorem words_size {k : Nat} (h : k < 10) : (wordsL.getD k ⟨#[]⟩).size ≤ 9 := by
  match k, h with
  | 0, _ => decide
  | 1, _ => decide
  | 2, _ => decide
  | 3, _ => decide
  | 4, _ => decide
  | 5, _ => decide
  | 6, _ => decide
  | 7, _ => decide
  | 8, _ => decide
  | 9, _ => decide
theorem infoStr : (Tryz.prog.info? 9).map (fun i => (i.zero, i.size, i.bytes)) = some (some (.string ⟨#[]⟩), 1, 16) := by kernel_rfl
/-- the call returns a slice that reads as these strings -/
def GivesS (w : World) (l : List ByteArray) (e : Ending) (w' : World) : Prop := ∃ A c, e = .returned (.slice A l.length c) ∧ Sl stC 1 w' w'.heap.size A l.length c l ∧ Below w.heap.size w w'
theorem add_run (a b : ByteArray) (h : a.size + b.size ≤ 9223372036854775807) (W : World) : (binOp .add 9 (.string a) (.string b)).run Tryz.prog W = .ok (.string (a ++ b)) W := by
  have := run_string_add_sum (P := Tryz.prog) (w := W) a b h
  simpa [binOp] using this
theorem itoaS_nat (n : Nat) : itoaS (n : Int) = ⟨(Lib.decDigits n).toArray⟩ := by unfold itoaS; rw [Lib.itoa, if_neg (by omega), Int.toNat_natCast]
theorem dec_small {n : Nat} (h : n ≤ 1099511627776) : (⟨(Lib.decDigits n).toArray⟩ : ByteArray).size ≤ 19 := by
  show (Lib.decDigits n).toArray.size ≤ 19
  rw [List.size_toArray]
  exact dec_len 18 _ (by omega)
theorem linesC_len (l : List Ev) (s : List Int) : (linesC l s).length = s.length := by unfold linesC; rw [List.length_map]
theorem linesC_snoc (l : List Ev) (s : List Int) (c : Int) : linesC l (s ++ [c]) = linesC l s ++ [cLine c ((codesL l).count c)] := by simp [linesC]
theorem cLine_nn {c : Int} {m q : Nat} (h : c = (m : Int)) : cLine c q = ⟨#[99, 111, 100, 101, 32]⟩ ++ ⟨(Lib.decDigits m).toArray⟩ ++ ⟨#[58, 32]⟩ ++ ⟨(Lib.decDigits q).toArray⟩ := by
  unfold cLine
  rw [h, itoaS_nat, itoaS_nat]
theorem cLine_neg {c : Int} {m q : Nat} (h : c < 0) (hm : c.natAbs = m) : cLine c q = ⟨#[99, 111, 100, 101, 32, 45]⟩ ++ ⟨(Lib.decDigits m).toArray⟩ ++ ⟨#[58, 32]⟩ ++ ⟨(Lib.decDigits q).toArray⟩ := by
  unfold cLine
  rw [itoaS_nat]
  have e : itoaS c = ⟨#[45]⟩ ++ ⟨(Lib.decDigits m).toArray⟩ := by
    apply ba_ext
    unfold itoaS
    rw [ba_app, Lib.itoa, if_pos h, hm]; rfl
  rw [e]
  congr 2
theorem code_range {l : List Ev} (hc : ∀ e ∈ l, -1099511627776 ≤ e.code ∧ e.code ≤ 9223372036854775807) {c : Int} (h : c ∈ setB [] (codesL l)) : -1099511627776 ≤ c ∧ c ≤ 9223372036854775807 := by
  rw [mem_setB] at h
  rcases h with h | h
  · simp at h
  · unfold codesL at h
    obtain ⟨e, he, rfl⟩ := List.mem_map.1 h
    exact hc e (List.mem_filter.1 he).1
theorem linesK_len (l : List Ev) : ∀ k, (linesK l k).length ≤ k
  | 0 => by simp [linesK]
  | k + 1 => by
    rw [linesK_succ, List.length_append]
    have := linesK_len l k
    split <;> simp <;> omega
set_option maxRecDepth 100000 in
set_option maxHeartbeats 4000000 in
theorem rsum_any (A : Option Addr) (n c : Nat) (l : List Ev) (w : World) (hs : Sl evC 20 w w.heap.size A n c l) (hn : n ≤ 40) (hc : ∀ e ∈ l, -1099511627776 ≤ e.code ∧ e.code ≤ 9223372036854775807) :
    Calls Tryz.prog 7 #[.slice A n c] w (GivesS w (sumL l)) := by
  have HS := Lib.hid hs
  have HL := Lib.hid hs.len
  have HC := Lib.hid hc
  obtain ⟨i0, hi0, hz0, hz1, hz2⟩ := info_parts infoStr
  obtain ⟨i1, gi0, gz0, gz1, gz2⟩ := info_parts infoInt
  have HKW := Lib.hid (Blk.new w 9 #[.string ⟨#[114, 101, 103, 105, 111, 110, 115]⟩, .string ⟨#[117, 110, 105, 116, 115]⟩, .string ⟨#[97, 110, 115, 119, 101, 114, 115]⟩, .string ⟨#[99, 111, 109, 109, 105, 116, 115]⟩, .string ⟨#[100, 114, 111, 112, 115]⟩, .string ⟨#[106, 111, 98, 32, 108, 105, 110, 101, 115]⟩, .string ⟨#[100, 111, 119, 110, 115]⟩, .string ⟨#[117, 112, 115]⟩, .string ⟨#[102, 105, 110, 100, 105, 110, 103, 115]⟩, .string ⟨#[108, 111, 115, 115, 101, 115]⟩])
  have HO0 : Hid (((w.alloc (.cells #[.string ⟨#[114, 101, 103, 105, 111, 110, 115]⟩, .string ⟨#[117, 110, 105, 116, 115]⟩, .string ⟨#[97, 110, 115, 119, 101, 114, 115]⟩, .string ⟨#[99, 111, 109, 109, 105, 116, 115]⟩, .string ⟨#[100, 114, 111, 112, 115]⟩, .string ⟨#[106, 111, 98, 32, 108, 105, 110, 101, 115]⟩, .string ⟨#[100, 111, 119, 110, 115]⟩, .string ⟨#[117, 112, 115]⟩, .string ⟨#[102, 105, 110, 100, 105, 110, 103, 115]⟩, .string ⟨#[108, 111, 115, 115, 101, 115]⟩] 9)).alloc (.cells #[] 9)).ownsRow (w.heap.size + 1) 9 1 (.slice (some ⟨w.heap.size + 1, 0, none⟩) 0 0) 0 []) := Lib.hid (by have h := World.ownsRow_lit (e := 9) (base := w.heap.size + 1) (size := 1) (w.alloc (.cells #[.string ⟨#[114, 101, 103, 105, 111, 110, 115]⟩, .string ⟨#[117, 110, 105, 116, 115]⟩, .string ⟨#[97, 110, 115, 119, 101, 114, 115]⟩, .string ⟨#[99, 111, 109, 109, 105, 116, 115]⟩, .string ⟨#[100, 114, 111, 112, 115]⟩, .string ⟨#[106, 111, 98, 32, 108, 105, 110, 101, 115]⟩, .string ⟨#[100, 111, 119, 110, 115]⟩, .string ⟨#[117, 112, 115]⟩, .string ⟨#[102, 105, 110, 100, 105, 110, 103, 115]⟩, .string ⟨#[108, 111, 115, 115, 101, 115]⟩] 9)) #[] 0 (by simp) (by decide) rfl; rwa [alloc_size] at h)
  clear hs hc
  go_enter Tryz.func7, Tryz.ntmps7
  go_wp2
  go_loopw [4, 5] (fun v4 v5 wr => ∃ k : Nat, k ≤ 10 ∧ v5 = .int .i64 k ∧ wr.ownsRow (w.heap.size + 1) 9 1 v4 (linesK l k).length (flat stC (linesK l k)) ∧ Below (w.heap.size + 1) (w.alloc (.cells #[.string ⟨#[114, 101, 103, 105, 111, 110, 115]⟩, .string ⟨#[117, 110, 105, 116, 115]⟩, .string ⟨#[97, 110, 115, 119, 101, 114, 115]⟩, .string ⟨#[99, 111, 109, 109, 105, 116, 115]⟩, .string ⟨#[100, 114, 111, 112, 115]⟩, .string ⟨#[106, 111, 98, 32, 108, 105, 110, 101, 115]⟩, .string ⟨#[100, 111, 119, 110, 115]⟩, .string ⟨#[117, 112, 115]⟩, .string ⟨#[102, 105, 110, 100, 105, 110, 103, 115]⟩, .string ⟨#[108, 111, 115, 115, 101, 115]⟩] 9)) wr) (fun _ v5 _ => 10 - (intOf v5).toNat)
  case atStart => exact ⟨0, by decide, rfl, HO0.out, (Below.refl _ _).alloc (by simp) _⟩
  case round =>
    obtain ⟨w2, hw2⟩ : ∃ w2, w2 = wr := ⟨_, rfl⟩
    subst hw2
    obtain ⟨k, hk, rfl, hown, hbel⟩ := hrel
    have HOW := Lib.hid hown
    have HB := Lib.hid hbel
    have HZ : Hid (w.heap.size + 1 ≤ w2.heap.size) := Lib.hid (bx_size hbel)
    have HEV : Hid (Sl evC 20 w2 w2.heap.size A n c l) := Lib.hid (HS.out.after (bx_below hbel) (Nat.le_of_succ_le (bx_size hbel)))
    clear hown hbel
    by_cases hk10 : k < 10
    · obtain ⟨wd, hwd⟩ : ∃ wd, wordsL.getD k ⟨#[]⟩ = wd := ⟨_, rfl⟩
      have HWD := Lib.hid hwd
      have hws : wd.size ≤ 9 := by rw [← hwd]; exact words_size hk10
      have kW : Hid (∀ W, Below (w.heap.size + 1) (w.alloc (.cells #[.string ⟨#[114, 101, 103, 105, 111, 110, 115]⟩, .string ⟨#[117, 110, 105, 116, 115]⟩, .string ⟨#[97, 110, 115, 119, 101, 114, 115]⟩, .string ⟨#[99, 111, 109, 109, 105, 116, 115]⟩, .string ⟨#[100, 114, 111, 112, 115]⟩, .string ⟨#[106, 111, 98, 32, 108, 105, 110, 101, 115]⟩, .string ⟨#[100, 111, 119, 110, 115]⟩, .string ⟨#[117, 112, 115]⟩, .string ⟨#[102, 105, 110, 100, 105, 110, 103, 115]⟩, .string ⟨#[108, 111, 115, 115, 101, 115]⟩] 9)) W → W.cell? ⟨w.heap.size, k, none⟩ = some (.string wd)) := Lib.hid fun W hW => ((HKW.out.below hW (Nat.lt_succ_self _)).cell k).trans (by rw [words_at hk10, hwd])
      have ka : (0 : Int) ≤ (k : Int) := by omega
      have kb : (k : Int) < 10 := by omega
      clear hwd
      go_wp2_with fail
      go_loopw [6, 7] (fun v6 v7 wx => ∃ i q : Nat, i ≤ n ∧ v7 = .int .i64 i ∧ v6 = .int .i64 q ∧ Hid (cntK (l.take i) (k : Int) = q) ∧ w2 = wx) (fun _ v7 _ => n - (intOf v7).toNat)
      case atStart => exact ⟨0, 0, Nat.zero_le _, rfl, rfl, Lib.hid rfl, rfl⟩
      case round =>
        obtain ⟨i, q, hi, rfl, rfl, HQ, hww⟩ := hrel
        subst hww
        have hq40 : q ≤ 40 := by rw [← HQ.out]; have := cntK_le (l.take i) (k : Int); rw [List.length_take] at this; omega
        by_cases hin : i < n
        · obtain ⟨b, o, e, hA, hb, hg, hcell⟩ := Sl.cell (f := evC) (k := 20) evC_len HEV.out hin
          have HAE := Lib.hid hA
          have c0 := hcell 0 _ rfl
          simp only [Nat.add_zero] at c0
          have HSTEP : Hid (cntK (l.take (i + 1)) (k : Int) = q + if e.kind = (k : Int) then 1 else 0) := Lib.hid (by rw [take_step hg, cntK_app, HQ.out, cntK_one])
          have ia : (0 : Int) ≤ (i : Int) := by omega
          have ib : (i : Int) < (n : Int) := by omega
          subst hA
          clear hb hg hcell
          by_cases he : e.kind = (k : Int)
          · rw [if_pos he] at HSTEP
            rw [he] at c0
            clear he
            go_wp2
            go_roundw
            case rel => exact ⟨i + 1, q + 1, by omega, by go_num, by go_num, HSTEP, trivial⟩
            case measure => simp [intOf]; omega
          · rw [if_neg he, Nat.add_zero] at HSTEP
            have d0 : (e.kind == (k : Int)) = false := by simpa using he
            clear he
            go_wp2
            go_roundw
            case rel => exact ⟨i + 1, q, by omega, by go_num, rfl, HSTEP, trivial⟩
            case measure => simp [intOf]; omega
        · have hin' : i = n := by omega
          have HQL : Hid (cntK l (k : Int) = q) := Lib.hid (by rw [← HQ.out, hin', List.take_of_length_le (by rw [HL.out]; exact Nat.le_refl _)])
          clear hin'
          by_cases hq : 0 < q
          · obtain ⟨t, ht⟩ : ∃ t : ByteArray, t = ⟨(Lib.decDigits q).toArray⟩ := ⟨_, rfl⟩
            have HD : Hid (∀ W : World, Calls Tryz.prog 14 #[.int .i64 q] W fun e w' => e = .returned (.string t) ∧ Below W.heap.size W w') := Lib.hid fun W => by rw [ht]; exact rDecimal_any q (by omega) W
            have hts : t.size ≤ 19 := by rw [ht]; exact dec_small (by omega)
            have hsz3 : ¬ (9223372036854775807 < wd.size + 2) := by omega
            have hsz4 : ¬ (9223372036854775807 < wd.size + 2 + t.size) := by omega
            have HN : Hid (linesK l (k + 1) = linesK l k ++ [wd ++ ⟨#[58, 32]⟩ ++ t]) := Lib.hid (by rw [linesK_succ, HQL.out, if_pos hq, HWD.out, ht]; unfold kLine; rw [itoaS_nat])
            have HLN : Hid ((linesK l k).length ≤ 10) := Lib.hid (Nat.le_trans (linesK_len l k) hk)
            have XON : Hid (∀ u ∈ ([.string (wd ++ ⟨#[58, 32]⟩ ++ t)] : List Value), u.oneCell' = true) := Lib.hid (by intro u hu; simp at hu; subst hu; rfl)
            have ZS : Hid (((.string ⟨#[]⟩) : Value).cells.size = 1) := Lib.hid rfl
            have Z1 : Hid (0 < 1) := Lib.hid (by decide)
            have Mb : Hid ((linesK l k).length + 1 ≤ maxLen) := Lib.hid (by have := HLN.out; simp only [maxLen]; omega)
            have Bb : Hid (((linesK l k).length + 1) * 16 ≤ 140737488355328) := Lib.hid (by have := HLN.out; omega)
            have dq : decide (0 < q) = true := by simpa using hq
            have dq2 : decide ((0 : Int) < (q : Int)) = true := by simp; omega
            clear ht hts hq
            go_wp2_with fail
            go_region_held3 (fun w' => w'.cell? ⟨w.heap.size, k, none⟩ = some (.string wd)) (first | exact kW.out _ HB.out.drew | exact kW.out _ HX9.out | exact kW.out _ (HX9.out.alloc HZ9.out _) | exact kW.out _ HX10.out) (first | (go_at_call 14; refine (HD.out _).mono ?_; rintro e w9 ⟨rfl, hb9⟩; have HO9 := Lib.hid (own_below (own_drew HOW.out) hb9); have HX9 := Lib.hid (below_next HB.out.drew hb9 HZ.out); have HZ9 : Hid (w.heap.size + 1 ≤ w9.heap.size) := Lib.hid (Nat.le_trans HZ.out hb9.size); clear hb9) | (refine step_app _ (by rfl) (.tmp 40) (.tmp 49) 34 (by rfl) (w.heap.size + 1) 9 i0 (.string ⟨#[]⟩) 1 16 Tryz.underlying34 hi0 hz0 hz1 hz2 ZS.out Z1.out u4 (linesK l k).length (flat stC (linesK l k)) (by rfl) (HO9.out.alloc _) _ _ 1 1 [.string (wd ++ ⟨#[58, 32]⟩ ++ t)] (by rfl) (rd_new w9 [.string (wd ++ ⟨#[58, 32]⟩ ++ t)] 9 1 1 rfl) XON.out Mb.out Bb.out (by exact Nat.le_trans HZ9.out (alloc_le _ _)) ?_; intro v4 w10 ho hg _; have HX10 := Lib.hid ((HX9.out.alloc HZ9.out _).grown hg (Nat.le_trans HZ9.out (alloc_le _ _)) (own_row HOW.out (Nat.le_refl _))); have HO10 : Hid (w10.ownsRow (w.heap.size + 1) 9 1 v4 (linesK l (k + 1)).length (flat stC (linesK l (k + 1)))) := Lib.hid (by rw [HN.out, flat_app, flat_one, List.length_append]; exact ho); clear ho hg))
            all_goals
              go_wp2
              go_roundw
              case rel => exact ⟨k + 1, by omega, by go_num, HO10.out, HX10.out⟩
              case measure => simp [intOf]; omega
          · have HN : Hid (linesK l (k + 1) = linesK l k) := Lib.hid (by rw [linesK_succ, HQL.out, if_neg hq, List.append_nil])
            go_wp2
            go_roundw
            case rel => exact ⟨k + 1, by omega, by go_num, by rw [HN.out]; exact HOW.out, HB.out⟩
            case measure => simp [intOf]; omega
    · have hk' : k = 10 := by omega
      subst hk'
      have HO8 := Lib.hid (World.ownsRow_lit (e := 3) (base := w2.heap.size) (size := 1) w2 #[] 0 (Nat.le_refl _) (by decide) rfl)
      go_wp2_with fail
      go_loopw [8, 9] (fun v8 v9 wx => ∃ i : Nat, i ≤ n ∧ v9 = .int .i64 i ∧ wx.ownsRow w2.heap.size 3 1 v8 (codesL (l.take i)).length (flat iC (codesL (l.take i))) ∧ Below w2.heap.size w2 wx) (fun _ v9 _ => n - (intOf v9).toNat)
      case atStart => exact ⟨0, Nat.zero_le _, rfl, HO8.out, (Below.refl _ _).alloc (Nat.le_refl _) _⟩
      case round =>
        obtain ⟨w3, hw3⟩ : ∃ w3, w3 = wr := ⟨_, rfl⟩
        subst hw3
        obtain ⟨i, hi, rfl, hown, hbel⟩ := hrel
        have HOI := Lib.hid hown
        have HB3 := Lib.hid hbel
        have HCL : Hid ((codesL (l.take i)).length ≤ 40) := Lib.hid (by have := codesL_len (l.take i); rw [List.length_take] at this; omega)
        clear hown hbel
        by_cases hin : i < n
        · obtain ⟨b, o, e, hA, hb, hg, hcell⟩ := Sl.cell (f := evC) (k := 20) evC_len HEV.out hin
          have c0 := (HB3.out.cell (p := ⟨b, o + i * 20 + 0, none⟩) hb).trans (hcell 0 _ rfl)
          have c11 := (HB3.out.cell (p := ⟨b, o + i * 20 + 11, none⟩) hb).trans (hcell 11 _ rfl)
          simp only [Nat.add_zero] at c0
          have HSTEP : Hid (codesL (l.take (i + 1)) = codesL (l.take i) ++ if e.kind = 2 then [e.code] else []) := Lib.hid (by rw [take_step hg, codesL_app, codesL_one])
          have ia : (0 : Int) ≤ (i : Int) := by omega
          have ib : (i : Int) < (n : Int) := by omega
          subst hA
          clear hb hg hcell
          by_cases he : e.kind = 2
          · rw [if_pos he] at HSTEP
            rw [he] at c0
            clear he
            go_wp2_with (at_builtin; go_must (refine wpList_app _ rfl _ _ 67 rfl w2.heap.size 3 i1 _ 1 8 Tryz.underlying67 gi0 gz0 gz1 gz2 rfl (by decide) _ _ _ rfl (HOI.out.alloc _) _ _ 1 1 [.int .i64 e.code] rfl (rd_new w3 [.int .i64 e.code] 3 1 1 rfl) ?c1 ?c2 ?c3 ?c4 ?_))
            case c1 => intro u hu; simp at hu; subst hu; rfl
            case c2 => have := HCL.out; simp only [maxLen]; omega
            case c3 => have := HCL.out; omega
            case c4 => have := HB3.out.size; simp; omega
            intro v4 w4 ho4 hg4 _
            have B4 := Lib.hid ((HB3.out.alloc HB3.out.size _).grown hg4 (Nat.le_trans HB3.out.size (alloc_le _ _)) (own_row HOI.out (Nat.le_refl _)))
            have HO4 : Hid (w4.ownsRow w2.heap.size 3 1 v4 (codesL (l.take (i + 1))).length (flat iC (codesL (l.take (i + 1))))) := Lib.hid (by rw [HSTEP.out, flat_app, flat_one, List.length_append]; exact ho4)
            clear ho4 hg4
            go_wp2
            go_roundw
            case rel => exact ⟨i + 1, by omega, by go_num, HO4.out, B4.out⟩
            case measure => simp [intOf]; omega
          · rw [if_neg he, List.append_nil] at HSTEP
            have d0 : (e.kind == 2) = false := by simpa using he
            clear he
            go_wp2
            go_roundw
            case rel => exact ⟨i + 1, by omega, by go_num, by rw [HSTEP.out]; exact HOI.out, HB3.out⟩
            case measure => simp [intOf]; omega
        · have hin' : l.take i = l := List.take_of_length_le (by rw [HL.out]; omega)
          rw [hin'] at HOI HCL
          clear hin'
          obtain ⟨m0, hm0⟩ : ∃ m0, (codesL l).length = m0 := ⟨_, rfl⟩
          rw [hm0] at HOI HCL
          have HM0 := Lib.hid hm0
          have hm40 := HCL.out
          clear hm0
          obtain ⟨A8, c8, hv8, _, _⟩ := own_form HOI.out
          subst hv8
          have HST : Hid (∀ W : World, Sl iC 1 W W.heap.size A8 m0 c8 (codesL l) → Calls Tryz.prog 15 #[.slice A8 m0 c8] W (GivesI W (setB [] (codesL l)))) := Lib.hid fun W hW => rset_any A8 m0 c8 (codesL l) W hW hm40
          have HSC := Lib.hid (Sl.of_own (f := iC) (k := 1) iC_len (by decide) HOI.out)
          obtain ⟨s, hs⟩ : ∃ s, setB [] (codesL l) = s := ⟨_, rfl⟩
          rw [hs] at HST
          have HRG : Hid (∀ c ∈ s, -1099511627776 ≤ c ∧ c ≤ 9223372036854775807) := Lib.hid fun c h => code_range HC.out (by rw [hs]; exact h)
          have HSS := Lib.hid hs
          have HSM : Hid (s.length ≤ 40) := Lib.hid (by rw [← hs]; have := setB_len (codesL l) []; rw [HM0.out] at this; simp at this; omega)
          clear hs
          obtain ⟨m, hm⟩ : ∃ m, s.length = m := ⟨_, rfl⟩
          have HM := Lib.hid hm
          rw [hm] at HSM
          have hm41 := HSM.out
          have HST2 : Hid (Calls Tryz.prog 15 #[.slice A8 m0 c8] w3 fun e w' => ∃ A c, e = .returned (.slice A m c) ∧ w'.ownsRow w3.heap.size 3 1 (.slice A m c) m (flat iC s) ∧ Below w3.heap.size w3 w') := Lib.hid (by have := HST.out w3 HSC.out; unfold GivesI at this; rw [hm] at this; exact this)
          clear hm HST
          go_wp2_with (go_at_call 15; refine HST2.out.mono ?_; rintro e w4 ⟨A9, c9, rfl, ho9, hb9⟩; have HO9 := Lib.hid (own_low ho9 HB3.out.size); have HOC := Lib.hid (own_below HOI.out hb9); have HX4 := Lib.hid (below_next HB3.out hb9 HB3.out.size); clear ho9 hb9)
          have HL0 : Hid (w4.ownsRow (w.heap.size + 1) 9 1 u4 (linesK l 10 ++ linesC l (s.take 0)).length (flat stC (linesK l 10 ++ linesC l (s.take 0)))) := Lib.hid (by rw [show linesC l (s.take 0) = [] from rfl, List.append_nil]; exact own_below HOW.out HX4.out)
          have HB4 := Lib.hid (below_next HB.out HX4.out HZ.out)
          have HZ4 : Hid (w2.heap.size ≤ w4.heap.size) := Lib.hid HX4.out.size
          clear HOI HSC HST2 HX4
          go_loopw [4, 11] (fun v4 v11 wx => ∃ k : Nat, k ≤ m ∧ v11 = .int .i64 k ∧ wx.ownsRow (w.heap.size + 1) 9 1 v4 (linesK l 10 ++ linesC l (s.take k)).length (flat stC (linesK l 10 ++ linesC l (s.take k))) ∧ wx.ownsRow w2.heap.size 3 1 (.slice A8 m0 c8) m0 (flat iC (codesL l)) ∧ wx.ownsRow w2.heap.size 3 1 (.slice A9 m c9) m (flat iC s) ∧ Below (w.heap.size + 1) (w.alloc (.cells #[.string ⟨#[114, 101, 103, 105, 111, 110, 115]⟩, .string ⟨#[117, 110, 105, 116, 115]⟩, .string ⟨#[97, 110, 115, 119, 101, 114, 115]⟩, .string ⟨#[99, 111, 109, 109, 105, 116, 115]⟩, .string ⟨#[100, 114, 111, 112, 115]⟩, .string ⟨#[106, 111, 98, 32, 108, 105, 110, 101, 115]⟩, .string ⟨#[100, 111, 119, 110, 115]⟩, .string ⟨#[117, 112, 115]⟩, .string ⟨#[102, 105, 110, 100, 105, 110, 103, 115]⟩, .string ⟨#[108, 111, 115, 115, 101, 115]⟩] 9)) wx) (fun _ v11 _ => m - (intOf v11).toNat)
          case atStart => exact ⟨0, Nat.zero_le _, rfl, HL0.out, HOC.out, HO9.out, HB4.out⟩
          case round =>
            obtain ⟨w5, hw5⟩ : ∃ w5, w5 = wr := ⟨_, rfl⟩
            subst hw5
            obtain ⟨k, hk, rfl, hown, hoc, hos, hbel⟩ := hrel
            have HO5 := Lib.hid hown
            have HC5 := Lib.hid hoc
            have HS5 := Lib.hid hos
            have HB5 := Lib.hid hbel
            have HZ5 : Hid (w.heap.size + 1 ≤ w5.heap.size) := Lib.hid (bx_size hbel)
            have HLN5 : Hid ((linesK l 10 ++ linesC l (s.take k)).length ≤ 60) := Lib.hid (by rw [List.length_append, linesC_len, List.length_take]; have := linesK_len l 10; omega)
            clear hown hoc hos hbel HL0 HOC HO9 HB4 HZ4
            by_cases hkm : k < m
            · have SC5 := Lib.hid (Sl.of_own (f := iC) (k := 1) iC_len (by decide) HC5.out)
              have SS5 := Lib.hid (Sl.of_own (f := iC) (k := 1) iC_len (by decide) HS5.out)
              obtain ⟨bs, os, c, hA9, hbs, hgs, hcs⟩ := Sl.cell (f := iC) (k := 1) iC_len SS5.out hkm
              have hc0 := hcs 0 _ rfl
              simp only [Nat.add_zero, Nat.mul_one] at hc0
              have HCS : Hid (∀ W : World, Below w5.heap.size w5 W → W.cell? ⟨bs, os + k, none⟩ = some (.int .i64 c)) := Lib.hid fun W hW => (hW.cell (p := ⟨bs, os + k, none⟩) hbs).trans hc0
              have HGS := Lib.hid hgs
              obtain ⟨hr1, hr2⟩ := HRG.out c (List.mem_of_getElem? hgs)
              have ka : (0 : Int) ≤ (k : Int) := by omega
              have kb : (k : Int) < (m : Int) := by omega
              subst hA9
              clear hcs hc0 hgs hbs
              go_wp2_with fail
              go_loopw [12, 13] (fun v12 v13 wx => ∃ i q : Nat, i ≤ m0 ∧ v13 = .int .i64 i ∧ v12 = .int .i64 q ∧ Hid (((codesL l).take i).count c = q) ∧ Below w5.heap.size w5 wx) (fun _ v13 _ => m0 - (intOf v13).toNat)
              case atStart => exact ⟨0, 0, Nat.zero_le _, rfl, rfl, Lib.hid rfl, Below.refl _ _⟩
              case round =>
                obtain ⟨i, q, hi, rfl, rfl, HQ, hbx⟩ := hrel
                have HX := Lib.hid hbx
                have hq40 : q ≤ 40 := by rw [← HQ.out]; have := List.count_le_length (a := c) (l := (codesL l).take i); rw [List.length_take] at this; omega
                clear hbx
                by_cases him : i < m0
                · obtain ⟨bc, oc, z, hA8, hbc, hgc, hcc⟩ := Sl.cell (f := iC) (k := 1) iC_len SC5.out him
                  have hz0 := hcc 0 _ rfl
                  simp only [Nat.add_zero, Nat.mul_one] at hz0
                  have y0 := (HX.out.cell (p := ⟨bc, oc + i, none⟩) hbc).trans hz0
                  have y1 := HCS.out _ HX.out
                  have HSTEP : Hid (((codesL l).take (i + 1)).count c = q + if z = c then 1 else 0) := Lib.hid (by rw [take_step hgc, List.count_append, HQ.out, List.count_singleton]; simp)
                  have ia : (0 : Int) ≤ (i : Int) := by omega
                  have ib : (i : Int) < (m0 : Int) := by omega
                  subst hA8
                  clear hbc hgc hcc hz0
                  by_cases hzc : z = c
                  · rw [if_pos hzc] at HSTEP
                    rw [hzc] at y0
                    clear hzc
                    go_wp2_with fail
                    go_quiet (fail)
                    go_wp2
                    go_roundw
                    case rel => exact ⟨i + 1, q + 1, by omega, by go_num, by go_num, HSTEP, below_drewN HX.out _⟩
                    case measure => simp [intOf]; omega
                  · rw [if_neg hzc, Nat.add_zero] at HSTEP
                    have d0 : (z == c) = false := by simpa using hzc
                    clear hzc
                    go_wp2_with fail
                    go_quiet (fail)
                    go_wp2
                    go_roundw
                    case rel => exact ⟨i + 1, q, by omega, by go_num, rfl, HSTEP, below_drewN HX.out _⟩
                    case measure => simp [intOf]; omega
                · have HQL : Hid ((codesL l).count c = q) := Lib.hid (by rw [← HQ.out, List.take_of_length_le (by rw [HM0.out]; omega)])
                  obtain ⟨t, ht⟩ : ∃ t : ByteArray, t = ⟨(Lib.decDigits q).toArray⟩ := ⟨_, rfl⟩
                  have HD : Hid (∀ W : World, Calls Tryz.prog 14 #[.int .i64 q] W fun e w' => e = .returned (.string t) ∧ Below W.heap.size W w') := Lib.hid fun W => by rw [ht]; exact rDecimal_any q (by omega) W
                  have hts : t.size ≤ 19 := by rw [ht]; exact dec_small (by omega)
                  have HT := Lib.hid ht
                  obtain ⟨p, hp⟩ : ∃ p : Nat, c.natAbs = p := ⟨_, rfl⟩
                  obtain ⟨r, hr⟩ : ∃ r : ByteArray, r = ⟨(Lib.decDigits p).toArray⟩ := ⟨_, rfl⟩
                  have HDP : Hid (∀ W : World, Calls Tryz.prog 14 #[.int .i64 p] W fun e w' => e = .returned (.string r) ∧ Below W.heap.size W w') := Lib.hid fun W => by rw [hr]; exact rDecimal_any p (by omega) W
                  have hrs : r.size ≤ 19 := by rw [hr, ← ba_len]; have := dec_len 18 p (by omega); simpa using this
                  have HR := Lib.hid hr
                  have y1 := HCS.out _ HX.out
                  have z1 : 6 + r.size ≤ 9223372036854775807 := by omega
                  have z2 : 5 + r.size ≤ 9223372036854775807 := by omega
                  have z3 : 6 + r.size + 2 ≤ 9223372036854775807 := by omega
                  have z4 : 5 + r.size + 2 ≤ 9223372036854775807 := by omega
                  have z5 : 6 + r.size + 2 + t.size ≤ 9223372036854775807 := by omega
                  have z6 : 5 + r.size + 2 + t.size ≤ 9223372036854775807 := by omega
                  clear ht hr hts hrs
                  by_cases hneg : c < 0
                  · have d1 : decide (c < 0) = true := by simpa using hneg
                    have q1 : IntKind.i64.wrap (-c) = (p : Int) := by rw [IntKind.wrap_i64]; omega
                    have HLINE : Hid (cLine c q = ⟨#[99, 111, 100, 101, 32, 45]⟩ ++ r ++ ⟨#[58, 32]⟩ ++ t) := Lib.hid (by rw [cLine_neg hneg hp, HR.out, HT.out])
                    clear hneg hp
                    go_wp2_with fail
                    refine (HDP.out _).mono ?_
                    rintro e w6 ⟨rfl, hb6⟩
                    have HX6 := Lib.hid (below_next HX.out hb6 HX.out.size)
                    clear hb6 y1
                    go_wp2_with fail
                    refine (HD.out _).mono ?_
                    rintro e w7 ⟨rfl, hb7⟩
                    have HX7 := Lib.hid (below_next HX6.out hb7 HX6.out.size)
                    clear hb7
                    have HO7 := Lib.hid (own_below HO5.out HX7.out)
                    have HC7 := Lib.hid (own_below HC5.out HX7.out)
                    have HS7 := Lib.hid (own_below HS5.out HX7.out)
                    have HB7 := Lib.hid (below_next HB5.out HX7.out HZ5.out)
                    have HZ7 : Hid (w.heap.size + 1 ≤ w7.heap.size) := Lib.hid (Nat.le_trans HZ5.out HX7.out.size)
                    go_wp2_with (at_builtin; go_must (refine wpList_app _ rfl _ _ 34 rfl (w.heap.size + 1) 9 i0 _ 1 16 Tryz.underlying34 hi0 hz0 hz1 hz2 rfl (by decide) _ _ _ rfl (HO7.out.alloc _) _ _ 1 1 [.string (⟨#[99, 111, 100, 101, 32, 45]⟩ ++ r ++ ⟨#[58, 32]⟩ ++ t)] rfl (rd_new w7 [.string (⟨#[99, 111, 100, 101, 32, 45]⟩ ++ r ++ ⟨#[58, 32]⟩ ++ t)] 9 1 1 rfl) ?c1 ?c2 ?c3 ?c4 ?_))
                    case c1 => intro u hu; simp only [List.mem_singleton] at hu; subst hu; rfl
                    case c2 => have := HLN5.out; simp only [maxLen]; omega
                    case c3 => have := HLN5.out; omega
                    case c4 => have := HZ7.out; simp; omega
                    intro v8 w8 ho8 hg8 _
                    have B8 := Lib.hid ((HB7.out.alloc HZ7.out _).grown hg8 (Nat.le_trans HZ7.out (alloc_le _ _)) (own_row HO7.out (Nat.le_refl _)))
                    have HC8 := Lib.hid ((HC7.out.alloc _).kept hg8 (own_apart HC7.out HO7.out (by decide)))
                    have HS8 := Lib.hid ((HS7.out.alloc _).kept hg8 (own_apart HS7.out HO7.out (by decide)))
                    have HLL : Hid (linesK l 10 ++ linesC l (s.take (k + 1)) = (linesK l 10 ++ linesC l (s.take k)) ++ [(⟨#[99, 111, 100, 101, 32, 45]⟩ ++ r ++ ⟨#[58, 32]⟩ ++ t)]) := Lib.hid (by rw [take_step HGS.out, linesC_snoc, HQL.out, HLINE.out, List.append_assoc])
                    have HO8 : Hid (w8.ownsRow (w.heap.size + 1) 9 1 v8 (linesK l 10 ++ linesC l (s.take (k + 1))).length (flat stC (linesK l 10 ++ linesC l (s.take (k + 1))))) := Lib.hid (by rw [HLL.out, flat_app, flat_one, List.length_append, List.length_append]; exact ho8)
                    clear ho8 hg8
                    go_wp2
                    go_roundw
                    case rel => exact ⟨k + 1, by omega, by go_num, HO8.out, HC8.out, HS8.out, B8.out⟩
                    case measure => simp [intOf]; omega
                  · have d1 : decide (c < 0) = false := by simpa using hneg
                    have hcp : c = (p : Int) := by omega
                    have HLINE : Hid (cLine c q = ⟨#[99, 111, 100, 101, 32]⟩ ++ r ++ ⟨#[58, 32]⟩ ++ t) := Lib.hid (by rw [cLine_nn hcp, HR.out, HT.out])
                    clear hneg hp
                    rw [hcp] at y1
                    go_wp2_with fail
                    refine (HDP.out _).mono ?_
                    rintro e w6 ⟨rfl, hb6⟩
                    have HX6 := Lib.hid (below_next HX.out hb6 HX.out.size)
                    clear hb6 y1
                    go_wp2_with fail
                    refine (HD.out _).mono ?_
                    rintro e w7 ⟨rfl, hb7⟩
                    have HX7 := Lib.hid (below_next HX6.out hb7 HX6.out.size)
                    clear hb7
                    have HO7 := Lib.hid (own_below HO5.out HX7.out)
                    have HC7 := Lib.hid (own_below HC5.out HX7.out)
                    have HS7 := Lib.hid (own_below HS5.out HX7.out)
                    have HB7 := Lib.hid (below_next HB5.out HX7.out HZ5.out)
                    have HZ7 : Hid (w.heap.size + 1 ≤ w7.heap.size) := Lib.hid (Nat.le_trans HZ5.out HX7.out.size)
                    go_wp2_with (at_builtin; go_must (refine wpList_app _ rfl _ _ 34 rfl (w.heap.size + 1) 9 i0 _ 1 16 Tryz.underlying34 hi0 hz0 hz1 hz2 rfl (by decide) _ _ _ rfl (HO7.out.alloc _) _ _ 1 1 [.string (⟨#[99, 111, 100, 101, 32]⟩ ++ r ++ ⟨#[58, 32]⟩ ++ t)] rfl (rd_new w7 [.string (⟨#[99, 111, 100, 101, 32]⟩ ++ r ++ ⟨#[58, 32]⟩ ++ t)] 9 1 1 rfl) ?c1 ?c2 ?c3 ?c4 ?_))
                    case c1 => intro u hu; simp only [List.mem_singleton] at hu; subst hu; rfl
                    case c2 => have := HLN5.out; simp only [maxLen]; omega
                    case c3 => have := HLN5.out; omega
                    case c4 => have := HZ7.out; simp; omega
                    intro v8 w8 ho8 hg8 _
                    have B8 := Lib.hid ((HB7.out.alloc HZ7.out _).grown hg8 (Nat.le_trans HZ7.out (alloc_le _ _)) (own_row HO7.out (Nat.le_refl _)))
                    have HC8 := Lib.hid ((HC7.out.alloc _).kept hg8 (own_apart HC7.out HO7.out (by decide)))
                    have HS8 := Lib.hid ((HS7.out.alloc _).kept hg8 (own_apart HS7.out HO7.out (by decide)))
                    have HLL : Hid (linesK l 10 ++ linesC l (s.take (k + 1)) = (linesK l 10 ++ linesC l (s.take k)) ++ [(⟨#[99, 111, 100, 101, 32]⟩ ++ r ++ ⟨#[58, 32]⟩ ++ t)]) := Lib.hid (by rw [take_step HGS.out, linesC_snoc, HQL.out, HLINE.out, List.append_assoc])
                    have HO8 : Hid (w8.ownsRow (w.heap.size + 1) 9 1 v8 (linesK l 10 ++ linesC l (s.take (k + 1))).length (flat stC (linesK l 10 ++ linesC l (s.take (k + 1))))) := Lib.hid (by rw [HLL.out, flat_app, flat_one, List.length_append, List.length_append]; exact ho8)
                    clear ho8 hg8
                    go_wp2
                    go_roundw
                    case rel => exact ⟨k + 1, by omega, by go_num, HO8.out, HC8.out, HS8.out, B8.out⟩
                    case measure => simp [intOf]; omega
            · have HALL : Hid (linesK l 10 ++ linesC l (s.take k) = sumL l) := Lib.hid (by rw [List.take_of_length_le (by rw [HM.out]; omega)]; unfold sumL; rw [HSS.out])
              rw [HALL.out] at HO5
              obtain ⟨A7, c7, hv7, _, _⟩ := own_form HO5.out
              subst hv7
              have HSL := Lib.hid (Sl.of_own (f := stC) (k := 1) stC_len (by decide) HO5.out)
              go_wp2
              go_ret
              exact ⟨A7, c7, rfl, HSL.out, bx_below HB5.out⟩
end Go.Proofs.YtpklgdclknicjaaGreatDoor
