/- The chapter's example: contracts of Example and awake. -/
import Derived.Test.YtjfinkfikebjbaaJ
import Derived.Test.YtjfinkfikebjbaaK
namespace Go.Proofs.Ytjfinkfikebjbaa
open Go.RowKit
attribute [local go_sem ↓] Go.wp_at_zero Go.wp_at_succ

def exEs : List Ent := [(⟨#[97, 98, 99]⟩, 2), (⟨#[97, 98, 120]⟩, 3), (⟨#[]⟩, 4)]
def exS : ByteArray := encS 128 0 9 exEs
theorem ex_E : encE 128 0 9 exEs = 0 := by decide +kernel
theorem ex_size : exS.size = 128 := by decide +kernel
theorem ex_head : exS.extract 0 28 = ⟨#[0, 9, 0, 0, 0, 3, 0, 3, 97, 98, 99, 2, 0, 0, 0, 2, 1, 120, 3, 0, 0, 0, 0, 0, 4, 0, 0, 0]⟩ := by decide +kernel
theorem ex_lv : dLv exS = 0 := by decide +kernel
theorem ex_nx : dNx exS = 9 := by decide +kernel
theorem ex_es : dEs exS = exEs := by decide +kernel
theorem ex_ok : decOk 128 exS = true := by
  unfold decOk
  rw [ex_lv, ex_nx, ex_es]
  decide +kernel
theorem ex_find : findI exEs ⟨#[97, 98, 99]⟩ = 1 := by decide +kernel
theorem ex_sizeI : sizeI 0 9 exEs = 28 := by decide +kernel

theorem example_any (w : World) : Calls Try.prog 29 #[] w fun e w' => ∃ A c, e = .returned (.agg #[.int .i64 0, .int .i64 9, .slice A 3 c]) ∧ Es w' w'.heap.size A 3 c exEs ∧ Below w.heap.size w w' := by
  go_enter Try.func29, Try.ntmps29
  go_wp2
  refine bodyPost_ret (v := .agg #[.int .i64 0, .int .i64 9, .slice (some ⟨w.heap.size + 1, 0, none⟩) 3 3]) (by simp [results, Try.results29, go_sem]) rfl ?_
  refine ⟨_, 3, rfl, ⟨by omega, ?_⟩, ((Below.refl _ _).alloc (Nat.le_refl _) _).alloc (by simp) _⟩
  have := rd_new (w.alloc (.cells #[.int .i64 0, .int .i64 9, .slice (some ⟨w.heap.size + 1, 0, none⟩) 3 3] 25)) (eCells exEs) 34 3 2 rfl
  rw [World.size_alloc] at this
  refine this.more (by simp)

set_option maxRecDepth 100000 in
set_option maxHeartbeats 4000000 in
theorem awake_any (w : World) : Calls Try.prog 10 #[] w fun e w' => e = .returned (.bool true) ∧ Below w.heap.size w w' := by
  go_enter Try.func10, Try.ntmps10
  go_wp2_with fail
  refine (example_any w).mono ?_
  rintro e w1 ⟨A1, c1, rfl, hs1, hb1⟩
  have HS1 := Lib.hid hs1
  have HB1 := Lib.hid hb1
  clear hs1 hb1
  go_wp2_with fail
  refine (encode_any 128 0 9 A1 3 c1 exEs w1 HS1.out (by omega)).mono ?_
  rintro e w2 ⟨rfl, hb2⟩
  have HB2 := Lib.hid (below_next HB1.out hb2 HB1.out.size)
  have HE := Lib.hid ex_E
  rw [HE.out, show encS 128 0 9 exEs = exS from rfl]
  clear hb2
  obtain ⟨s, hs⟩ : ∃ s, exS = s := ⟨_, rfl⟩
  have h1 := ex_size
  have h2 := ex_head
  have h3 : decLv 128 exS = 0 := by unfold decLv; rw [ex_ok, ex_lv]; rfl
  have h4 : decNx 128 exS = 9 := by unfold decNx; rw [ex_ok, ex_nx]; rfl
  have h5 : decEs 128 exS = exEs := by unfold decEs; rw [ex_ok, ex_es]; rfl
  have h6 : decE 128 exS = 0 := by unfold decE; rw [ex_ok]; rfl
  rw [hs]
  rw [hs] at h1 h2 h3 h4 h5 h6
  have H1 := Lib.hid h1
  have H2 := Lib.hid h2
  have H3 := Lib.hid h3
  have H4 := Lib.hid h4
  have H5 := Lib.hid h5
  have H6 := Lib.hid h6
  clear hs h1 h2 h3 h4 h5 h6
  go_wp2_with fail
  refine (decode_any 128 s w2).mono ?_
  rintro e w3 ⟨A3, c3, rfl, hs3, hb3⟩
  rw [H3.out, H4.out, H5.out, H6.out]
  rw [H5.out] at hs3
  have e3 : exEs.length = 3 := rfl
  rw [e3]
  rw [e3] at hs3
  have HB3 := Lib.hid (below_next HB2.out hb3 HB2.out.size)
  have HS3 := Lib.hid hs3
  clear hs3 hb3 e3
  have l1 : (((s.size : Nat) : Int) == 128) = true := by rw [H1.out]; rfl
  have l2 : (28 : Int) ≤ ((s.size : Nat) : Int) := by rw [H1.out]; decide
  have l4 : 28 ≤ s.size := by rw [H1.out]; decide
  have l3 : s.extract 0 28 = ⟨#[0, 9, 0, 0, 0, 3, 0, 3, 97, 98, 99, 2, 0, 0, 0, 2, 1, 120, 3, 0, 0, 0, 0, 0, 4, 0, 0, 0]⟩ := H2.out
  have l5 : (findI exEs ⟨#[97, 98, 99]⟩ == 1) = true := by rw [ex_find]; rfl
  have l6 : (sizeI 0 9 exEs == 28) = true := by rw [ex_sizeI]; rfl
  have q0 : w.heap.size ≤ w3.heap.size := HB3.out.size
  obtain ⟨fi, hfi⟩ : ∃ fi, findI exEs ⟨#[97, 98, 99]⟩ = fi := ⟨_, rfl⟩
  obtain ⟨si, hsi⟩ : ∃ si, sizeI 0 9 exEs = si := ⟨_, rfl⟩
  rw [hfi] at l5
  rw [hsi] at l6
  have HFI := Lib.hid hfi
  have HSI := Lib.hid hsi
  clear hfi hsi
  have HZ := Lib.hid (show ∀ e ∈ exEs, e.1.size ≤ 100 by decide)
  go_wp2_with fail
  go_region_held3 (fun w' => w'.cell? ⟨w3.heap.size, 0, none⟩ = some (.int .i64 0) ∧ w'.cell? ⟨w3.heap.size, 1, none⟩ = some (.int .i64 9) ∧ w'.cell? ⟨w3.heap.size, 2, none⟩ = some (.slice A3 3 c3)) (go_keep) (first | (go_at_call 29; refine (example_any _).mono ?_; rintro e w4 ⟨A4, c4, rfl, hs4, hb4⟩; have HS4 := Lib.hid hs4; have x4 : Below (w3.heap.size + 1) (w3.alloc (.cells #[.int .i64 0, .int .i64 9, .slice A3 3 c3] 25)) w4 := (below_next (bx_start w3 _ 25).drew hb4 (by simp)); have k4a := bx_cell x4 0; have k4b := bx_cell x4 1; have k4c := bx_cell x4 2; have X4 := Lib.hid x4; clear hs4 hb4 x4) | (go_at_call 13; refine (same_true 0 9 A3 A4 3 c3 c4 exEs _ (Es.after HS3.out (bx_below X4.out)) HS4.out (by omega)).mono ?_; rintro e w5 ⟨rfl, hb5⟩; have x5 := (below_next X4.out hb5 (bx_size X4.out)); have k5a := bx_cell x5 0; have k5b := bx_cell x5 1; have k5c := bx_cell x5 2; have X5 := Lib.hid x5; clear hb5 x5) | (go_at_call 15; refine (find_any 0 9 A3 3 c3 exEs ⟨#[97, 98, 99]⟩ _ (Es.after HS3.out (bx_below X5.out)) (by omega)).mono ?_; rintro e w6 ⟨rfl, hb6⟩; rw [HFI.out]; have x6 := (below_next X5.out hb6 (bx_size X5.out)); have k6a := bx_cell x6 0; have k6b := bx_cell x6 1; have k6c := bx_cell x6 2; have X6 := Lib.hid x6; clear hb6 x6) | (go_at_call 19; refine (size_any 0 9 A3 3 c3 exEs _ (Es.after HS3.out (bx_below X6.out)) (by omega) HZ.out).mono ?_; rintro e w7 ⟨rfl, hb7⟩; rw [HSI.out]; have x7 := (below_next X6.out hb7 (bx_size X6.out)); have k7a := bx_cell x7 0; have k7b := bx_cell x7 1; have k7c := bx_cell x7 2; have X7 := Lib.hid x7; clear hb7 x7))
  go_wp2
  go_ret
  exact ⟨rfl, below_next HB3.out (bx_below X7.out) HB3.out.size⟩
end Go.Proofs.Ytjfinkfikebjbaa
