/- HistorySums: the law, given the two Summaries and the chapter's example. Printed by wip/sums/gen_sk.py. -/
import Derived.Test.YtpklgdclknicjaaGreatDoorSR
import Derived.Laws.Rows
import Derived.Deep.WholeRow
import Derived.Deep.MidRow
namespace Go.Proofs.YtpklgdclknicjaaGreatDoor
open Go.RowKit

theorem setRow_new2 (X : World) (old cs : Array Value) (t : TypeId) : (X.alloc (.cells old t)).setRow X.heap.size cs = X.alloc (.cells cs t) := World.setRow_alloc_new X old cs t
theorem low_step {l : List Ev} {i : Nat} {e : Ev} (h : l[i]? = some e) (hl : ∀ x ∈ l.take i, -1099511627776 ≤ x.code) (he : -1099511627776 ≤ e.code) : ∀ x ∈ l.take (i + 1), -1099511627776 ≤ x.code := by
  intro x hx
  rw [take_step h, List.mem_append] at hx
  rcases hx with hx | hx
  · exact hl x hx
  · rw [List.mem_singleton] at hx
    rw [hx]; exact he
theorem sumL_len (l : List Ev) (h : l.length ≤ 40) : (sumL l).length ≤ 1000 := by
  unfold sumL
  rw [List.length_append, linesC_len]
  have h1 := linesK_len l 10
  have h2 := setB_len (codesL l) []
  have h3 := codesL_len l
  simp at h2
  omega
set_option maxRecDepth 100000 in
set_option maxHeartbeats 4000000 in
theorem sums_any (A : Option Addr) (n c : Nat) (l : List Ev) (w : World) (hs : Sl evC 20 w w.heap.size A n c l) (hc : ∀ e ∈ l, e.code ≤ 9223372036854775807)
    (haw : ∀ W : World, Calls Tryz.prog 4 #[] W fun e w' => e = .returned (.bool true) ∧ Below W.heap.size W w')
    (hS : n ≤ 40 → ∀ W : World, Below w.heap.size w W → Calls Tryz.prog 6 #[.slice A n c] W (GivesS W (sumL l)))
    (hR : n ≤ 40 → (∀ e ∈ l, -1099511627776 ≤ e.code ∧ e.code ≤ 9223372036854775807) → ∀ W : World, Below w.heap.size w W → Calls Tryz.prog 7 #[.slice A n c] W (GivesS W (sumL l))) :
    Calls Tryz.prog 3 #[.slice A n c] w fun e w' => e = .returned (.bool true) ∧ Below w.heap.size w w' := by
  have HS := Lib.hid hs
  have HL := Lib.hid hs.len
  have HAW := Lib.hid haw
  have HSU := Lib.hid hS
  have HRE := Lib.hid hR
  have HC := Lib.hid hc
  clear hs haw hS hR hc
  by_cases hn : 40 < n
  · have d1 : decide (40 < n) = true := by simpa using hn
    have d2 : decide ((40 : Int) < (n : Int)) = true := by simp; omega
    clear hn
    go_enter Tryz.func3, Tryz.ntmps3
    go_wp2_with (go_at_call 4; refine (HAW.out _).mono ?_; rintro e w2 ⟨rfl, hb2⟩; have X2 := Lib.hid hb2; clear hb2)
    go_ret
    exact ⟨rfl, X2.out⟩
  · have d1 : decide (40 < n) = false := by simpa using hn
    have d2 : decide ((40 : Int) < (n : Int)) = false := by simp; omega
    have hn40 : n ≤ 40 := by omega
    have HN := Lib.hid hn40
    clear hn
    go_enter Tryz.func3, Tryz.ntmps3
    go_wp2_with fail
    go_loopw [11] (fun v11 wr => ∃ i : Nat, i ≤ n ∧ v11 = .int .i64 i ∧ (∀ e ∈ l.take i, -1099511627776 ≤ e.code) ∧ Below w.heap.size w wr) (fun v11 _ => n - (intOf v11).toNat)
    case atStart => exact ⟨0, Nat.zero_le _, rfl, fun e he => by simp at he, Below.refl _ _⟩
    case round =>
      obtain ⟨w2, hw2⟩ : ∃ w2, w2 = wr := ⟨_, rfl⟩
      subst hw2
      obtain ⟨i, hi, rfl, hlo, hbel⟩ := hrel
      have HLO := Lib.hid hlo
      have HB := Lib.hid hbel
      clear hlo hbel
      by_cases hin : i < n
      · obtain ⟨b, o, e, rfl, hb, hg, hcell⟩ := Sl.cell (f := evC) (k := 20) evC_len (HS.out.after HB.out HB.out.size) hin
        have HRG : Hid (w2.rangeAt b (o + i * 20) (evC e)) := Lib.hid fun j v hv => hcell j v hv
        have HG := Lib.hid hg
        have H1 := Lib.hid (evC_one e)
        have HBK := Lib.hid fun old => Blk.new w2 32 old
        have HSR := Lib.hid fun old => setRow_new2 w2 old (evC e).toArray 32
        have ia : (0 : Int) ≤ (i : Int) := by omega
        have ib : (i : Int) < (n : Int) := by omega
        have k11 : (w2.alloc (.cells (evC e).toArray 32)).cell? ⟨w2.heap.size, 11, none⟩ = some (.int .i64 e.code) := (Blk.new w2 32 (evC e).toArray).cell 11
        have HX := Lib.hid (HB.out.alloc HB.out.size (.cells (evC e).toArray 32))
        clear hb hg hcell
        by_cases hlow : e.code < -1099511627776
        · have d3 : decide (e.code < -1099511627776) = true := by simpa using hlow
          clear hlow
          go_wp2_with (first | ((with_reducible show wpList _ _ _ (⟨_, .load 32 (.tmp 13), _, _, _, _⟩ :: _) _ _); refine wpList_load_mid rfl 32 _ rfl b (o + i * 20) rfl (evC e) _ HRG.out Tryz.underlying32 rfl (by kernel_rfl) ?_) | ((with_reducible show wpList _ _ _ (⟨_, .store 32 (.tmp 4) _, _, _, _, _⟩ :: _) _ _); refine wpList_store_row rfl 32 _ _ rfl w2.heap.size (evC e).toArray rfl rfl 32 _ (HBK.out _) (by kernel_rfl) rfl H1.out ?_; rw [HSR.out]) | (go_at_call 4; refine (HAW.out _).mono ?_; rintro e w3 ⟨rfl, hb3⟩; have X3 := Lib.hid (below_next HX.out hb3 HX.out.size); clear hb3))
          go_ret
          exact ⟨rfl, X3.out⟩
        · have d3 : decide (e.code < -1099511627776) = false := by simpa using hlow
          have HLO2 : Hid (∀ x ∈ l.take (i + 1), -1099511627776 ≤ x.code) := Lib.hid (low_step HG.out HLO.out (by omega))
          clear hlow
          go_wp2_with (first | ((with_reducible show wpList _ _ _ (⟨_, .load 32 (.tmp 13), _, _, _, _⟩ :: _) _ _); refine wpList_load_mid rfl 32 _ rfl b (o + i * 20) rfl (evC e) _ HRG.out Tryz.underlying32 rfl (by kernel_rfl) ?_) | ((with_reducible show wpList _ _ _ (⟨_, .store 32 (.tmp 4) _, _, _, _, _⟩ :: _) _ _); refine wpList_store_row rfl 32 _ _ rfl w2.heap.size (evC e).toArray rfl rfl 32 _ (HBK.out _) (by kernel_rfl) rfl H1.out ?_; rw [HSR.out]))
          go_roundw
          case rel => exact ⟨i + 1, by omega, by go_num, HLO2.out, HX.out⟩
          case measure => simp [intOf]; omega
      · have hin' : l.take i = l := List.take_of_length_le (by rw [HL.out]; omega)
        rw [hin'] at HLO
        clear hin'
        have HCC : Hid (∀ e ∈ l, -1099511627776 ≤ e.code ∧ e.code ≤ 9223372036854775807) := Lib.hid fun e he => ⟨HLO.out e he, HC.out e he⟩
        have HSL := Lib.hid (sumL_len l (by rw [HL.out]; exact hn40))
        obtain ⟨p, hp⟩ : ∃ p, sumL l = p := ⟨_, rfl⟩
        have HS2 := Lib.hid (HSU.out hn40)
        have HR2 := Lib.hid (HRE.out hn40 HCC.out)
        rw [hp] at HS2 HR2 HSL
        clear hp
        obtain ⟨q, hq⟩ : ∃ q, p.length = q := ⟨_, rfl⟩
        unfold GivesS at HS2 HR2
        rw [hq] at HS2 HR2 HSL
        clear hq HSU HRE
        go_wp2_with (first | (go_at_call 6; refine (HS2.out _ HB.out).mono ?_; rintro e w3 ⟨A1, c1, rfl, hs1, hb3⟩; have S1 := Lib.hid hs1; have X3 := Lib.hid (below_next HB.out hb3 HB.out.size); clear hs1 hb3) | (go_at_call 7; refine (HR2.out _ X3.out).mono ?_; rintro e w4 ⟨A2, c2, rfl, hs2, hb4⟩; have S2 := Lib.hid hs2; have S3 := Lib.hid (S1.out.after hb4 hb4.size); have X4 := Lib.hid (below_next X3.out hb4 X3.out.size); clear hs2 hb4) | (go_at_call 5; refine (strings_same A1 A2 _ c1 c2 p _ S3.out S2.out HSL.out).mono ?_; rintro e w5 ⟨rfl, hb5⟩; have X5 := Lib.hid (below_next X4.out hb5 X4.out.size); clear hb5) | (go_at_call 4; refine (HAW.out _).mono ?_; rintro e w6 ⟨rfl, hb6⟩; have X6 := Lib.hid (below_next X5.out hb6 X5.out.size); clear hb6))
        go_ret
        exact ⟨rfl, X6.out⟩
end Go.Proofs.YtpklgdclknicjaaGreatDoor
