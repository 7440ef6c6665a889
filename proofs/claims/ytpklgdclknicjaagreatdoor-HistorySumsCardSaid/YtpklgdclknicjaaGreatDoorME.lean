/- History, awake: forward.Do at the example. -/
import Derived.Test.YtpklgdclknicjaaGreatDoorMD
namespace Go.Proofs.YtpklgdclknicjaaGreatDoor
open Go.RowKit

theorem ev_set {w W : World} (h : EV w W) : EV w (W.setCell ⟨w.heap.size, 22, none⟩ (.slice none 0 0)) := by
  have e : (aV 200).toArray.setIfInBounds 22 (.slice none 0 0) = (aV 200).toArray := rfl
  have hz := h.sz
  obtain ⟨o, h1, h2⟩ := h.b3
  refine ⟨?_, h.b2.far (by simp) _, ⟨o, h1, h2.far (by simp) _⟩, by simpa using hz, h.be.setCell (Nat.le_refl _) _⟩
  have := h.b1.set 22 (.slice none 0 0)
  rwa [e] at this
theorem do_split (w W W' : World) (h : EV w W) (e : Ending) (hp : DoP W e W') : ∃ g c, e = .returned (.tuple #[.agg (bV (.slice (some ⟨g, 0, none⟩) 1 c)).toArray, .int .i64 0]) ∧ EV w W' ∧ W'.ownsRow (w.heap.size + 3) 143 2 (.slice (some ⟨g, 0, none⟩) 1 c) 1 [.string ⟨#[107]⟩, .string ⟨#[107, 49]⟩] := by
  obtain ⟨g, c, rfl, h2, h3⟩ := hp
  exact ⟨g, c, rfl, ev_next w _ _ h h3, own_lowM h2 h.sz⟩
theorem chPut_a (W : World) : Calls Tryz.prog 41 #[.agg cV.toArray] W fun e w' => e = .returned (.bool true) ∧ Below W.heap.size W w' :=
  chValid_any 0 200 ⟨#[107]⟩ ⟨#[107, 49]⟩ ⟨#[]⟩ W (by decide)
set_option maxRecDepth 100000 in
set_option maxHeartbeats 4000000 in
theorem Do_a (w : World) : Calls Tryz.prog 69 #[.agg (aV 200).toArray, .agg nV.toArray] w (DoP w) := by
  have HX : Hid (EV w (((w.alloc (.cells (aV 200).toArray 41)).alloc (.cells nV.toArray 139)).alloc (.cells zV.toArray 41))) := Lib.hid (ev_start w _ rfl)
  unfold zV at HX
  have HV := Lib.hid fun W => fwdValid_a 200 W (by decide) (by decide)
  have HN := Lib.hid fun W W' h hb => ev_next w W W' h hb
  have HP := Lib.hid fun W W' h e hp => do_split w W W' h e hp
  have HD := Lib.hid fun W g c h ho cs => do_end w W g c h ho cs
  go_enter Tryz.func69, Tryz.ntmps69
  go_wp2_with (first | (refine wpList_load_row rfl 41 _ rfl w.heap.size rfl 41 _ (0, 0) _ HX.out.b1 Tryz.underlying41 rfl (by kernel_rfl) ?_) | (go_at_call 66; refine (HV.out _).mono ?_; rintro e w2 ⟨rfl, hb⟩; have HX2 := Lib.hid (HN.out _ _ HX.out hb); clear hb) | (refine wpList_load_mid_held (by kernel_rfl) 43 _ rfl (w.heap.size + 1) 1 rfl cV _ (ev_r2 HX2.out) Tryz.underlying43 rfl (by kernel_rfl) ?_) | (go_at_call 41; refine (chPut_a _).mono ?_; rintro e w3 ⟨rfl, hb⟩; have HX3 := Lib.hid (HN.out _ _ HX2.out hb); clear hb; have n0 := ev_n0 HX3.out; have c22 := ev_22 HX3.out; have fz := HX3.out.b1.free 22) | (go_at_call 70; refine (cloneP_nil _).mono ?_; rintro e w' ⟨rfl, rfl⟩; have HX4 := Lib.hid (ev_set HX3.out)) | (refine wpList_load_row rfl 41 _ rfl w.heap.size rfl 41 _ (0, 0) _ HX4.out.b1 Tryz.underlying41 rfl (by kernel_rfl) ?_) | (refine wpList_load_row rfl 139 _ rfl (w.heap.size + 1) rfl 139 _ (0, 0) _ HX4.out.b2 Tryz.underlying139 rfl (by kernel_rfl) ?_) | (go_at_call 101; refine (do_a _).mono ?_; intro e w5 hp; obtain ⟨g, c, rfl, h5, ho⟩ := HP.out _ _ HX4.out _ hp; have HX5 := Lib.hid h5; have HO := Lib.hid ho; obtain ⟨old, hos, hob⟩ := h5.b3; have HOS := Lib.hid hos; have HOB := Lib.hid hob; clear hp ho h5 hos hob n0 c22 fz) | (refine wpList_store_row rfl 41 _ _ rfl (w.heap.size + 1 + 1) (bV (.slice (some ⟨g, 0, none⟩) 1 c)).toArray rfl rfl 41 old HOB.out (by kernel_rfl) HOS.out (bV_one g c) ?_))
  have hr := results_do (w5.setRow (w.heap.size + 1 + 1) (bV (.slice (some ⟨g, 0, none⟩) 1 c)).toArray) (w.heap.size + 1 + 1) (bV (.slice (some ⟨g, 0, none⟩) 1 c)).toArray (setRow_heap _ _ _ _ _ _ HOB.out) rfl
  exact bodyPost_ret (v := .tuple #[.agg (bV (.slice (some ⟨g, 0, none⟩) 1 c)).toArray, .int .i64 0]) (results_cell_tmp Tryz.results69 rfl rfl hr) rfl ⟨g, c, rfl, HD.out _ _ _ HX5.out HO.out _⟩
end Go.Proofs.YtpklgdclknicjaaGreatDoor
