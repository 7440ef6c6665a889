/- NodeEncodes: the walk. -/
import Derived.Test.YtjfinkfikebjbaaEa
import Derived.Test.YtjfinkfikebjbaaP
namespace Go.Proofs.Ytjfinkfikebjbaa
open Go.RowKit
attribute [local go_sem ↓] Go.wp_at_zero Go.wp_at_succ

theorem few_100 {es : List Ent} (h : fewB es = true) : es.length ≤ 200 ∧ ∀ e ∈ es, e.1.size ≤ 100 := by
  unfold fewB at h
  simp only [Bool.and_eq_true, List.all_eq_true, decide_eq_true_eq] at h
  exact ⟨h.2, h.1⟩

set_option maxRecDepth 100000 in
set_option maxHeartbeats 4000000 in
theorem encodes_any (z lv nx : Int) (A : Option Addr) (n c : Nat) (es : List Ent) (w : World) (hs : Es w w.heap.size A n c es) (hn : n ≤ 9223372036854775807) :
    Calls Try.prog 5 #[.int .i64 z, .agg #[.int .i64 lv, .int .i64 nx, .slice A n c]] w fun e w' => e = .returned (.bool true) ∧ Below w.heap.size w w' := by
  have HS := Lib.hid hs
  have HL := Lib.hid hs.len
  clear hs
  have HN := Lib.hid hn
  clear hn
  go_enter Try.func5, Try.ntmps5
  go_wp2_with fail
  refine (awake_any _).mono ?_
  rintro e w1 ⟨rfl, hb1⟩
  have x1 : Below (w.heap.size + 1) (w.alloc (.cells #[.int .i64 lv, .int .i64 nx, .slice A n c] 25)) w1 := by simpa using hb1
  have k1a := bx_cell x1 0
  have k1b := bx_cell x1 1
  have k1c := bx_cell x1 2
  have X1 := Lib.hid x1
  clear hb1 x1
  go_wp2_with fail
  refine (few_any lv nx A n c es _ (Es.after HS.out (bx_below X1.out)) HN.out).mono ?_
  rintro e w2 ⟨rfl, hb2⟩
  have x2 := below_next X1.out hb2 (bx_size X1.out)
  have k2a := bx_cell x2 0
  have k2b := bx_cell x2 1
  have k2c := bx_cell x2 2
  have X2 := Lib.hid x2
  clear hb2 x2 k1a k1b k1c
  cases hf : fewB es with
  | false =>
    clear hf
    go_wp2
    go_ret
    exact ⟨rfl, bx_below X2.out⟩
  | true =>
    obtain ⟨f1, f2⟩ := few_100 hf
    have hn2 : n ≤ 200 := by rw [← HL.out]; exact f1
    have HZ := Lib.hid f2
    clear hf f1 f2
    go_wp2_with fail
    refine (encode_any z lv nx A n c es _ (Es.after HS.out (bx_below X2.out)) HN.out).mono ?_
    rintro e w3 ⟨rfl, hb3⟩
    have x3 := below_next X2.out hb3 (bx_size X2.out)
    have k3a := bx_cell x3 0
    have k3b := bx_cell x3 1
    have k3c := bx_cell x3 2
    have X3 := Lib.hid x3
    clear hb3 x3 k2a k2b k2c
    have REN := Lib.hid (rencode_any z lv nx A n c es)
    unfold EncR at REN
    generalize encS z lv nx es = s at *
    generalize encE z lv nx es = er at *
    go_wp2_with fail
    refine (REN.out _ (Es.after HS.out (bx_below X3.out)) HN.out).mono ?_
    rintro e w4 ⟨rfl, hb4⟩
    have x4 := below_next X3.out hb4 (bx_size X3.out)
    have k4a := bx_cell x4 0
    have k4b := bx_cell x4 1
    have k4c := bx_cell x4 2
    have X4 := Lib.hid x4.drew
    clear hb4 x4 k3a k3b k3c REN
    have RSZ := Lib.hid (rsize_any lv nx A n c es)
    have SZ := Lib.hid (size_any lv nx A n c es)
    generalize sizeI lv nx es = si at *
    have RVA := Lib.hid (rvalid_any z lv nx A n c es)
    have VA := Lib.hid (valid_any z lv nx A n c es)
    generalize okE z lv nx es = ok at *
    go_wp2_with fail
    go_region_held3 (fun w' => w'.cell? ⟨w.heap.size, 0, none⟩ = some (.int .i64 lv) ∧ w'.cell? ⟨w.heap.size, 1, none⟩ = some (.int .i64 nx) ∧ w'.cell? ⟨w.heap.size, 2, none⟩ = some (.slice A n c)) (go_keep) (first | (go_at_call 19; refine (SZ.out _ (Es.after HS.out (bx_below X4.out)) hn2 HZ.out).mono ?_; rintro e w5 ⟨rfl, hb5⟩; have x5 := below_next X4.out hb5 (bx_size X4.out); have k5a := bx_cell x5 0; have k5b := bx_cell x5 1; have k5c := bx_cell x5 2; have X5 := Lib.hid x5; clear hb5 x5 X4) | (go_at_call 20; refine (RSZ.out _ (Es.after HS.out (bx_below X5.out)) HN.out).mono ?_; rintro e w6 ⟨rfl, hb6⟩; have x6 := below_next X5.out hb6 (bx_size X5.out); have k6a := bx_cell x6 0; have k6b := bx_cell x6 1; have k6c := bx_cell x6 2; have X6 := Lib.hid x6; clear hb6 x6 X5) | (go_at_call 21; refine (VA.out _ (Es.after HS.out (bx_below X6.out)) HN.out).mono ?_; rintro e w7 ⟨rfl, hb7⟩; have x7 := below_next X6.out hb7 (bx_size X6.out); have k7a := bx_cell x7 0; have k7b := bx_cell x7 1; have k7c := bx_cell x7 2; have X7 := Lib.hid x7; clear hb7 x7 X6) | (go_at_call 22; refine (RVA.out _ (Es.after HS.out (bx_below X7.out)) HN.out).mono ?_; rintro e w8 ⟨rfl, hb8⟩; have x8 := below_next X7.out hb8 (bx_size X7.out); have k8a := bx_cell x8 0; have k8b := bx_cell x8 1; have k8c := bx_cell x8 2; have X8 := Lib.hid x8; clear hb8 x8 X7))
    go_wp2
    go_ret
    exact ⟨by simp [go_sem], bx_below X8.out⟩
end Go.Proofs.Ytjfinkfikebjbaa
