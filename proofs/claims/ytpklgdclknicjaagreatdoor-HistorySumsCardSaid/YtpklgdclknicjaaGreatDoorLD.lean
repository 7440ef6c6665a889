/- History, awake: archive.Valid at the example's description. -/
import Derived.Test.YtpklgdclknicjaaGreatDoorLC
import Derived.Deep.MidRow
import Derived.Deep.WholeRow
namespace Go.Proofs.YtpklgdclknicjaaGreatDoor
open Go.RowKit

theorem pairsIndex_nil (w : World) : Calls Tryz.prog 141 #[.slice none 0 0, .func (.func 121) #[] #[]] w fun e w' => e = .returned (.int .i64 (-1)) ∧ w = w' := by
  go_enter Tryz.func141, Tryz.ntmps141
  go_wp2
  refine wp_loop_rounds 1 ?_
  rw [rounds_succ]
  go_wp2
  go_ret
  exact ⟨rfl, rfl⟩
theorem pairsAny_nil (w : World) : Calls Tryz.prog 120 #[.slice none 0 0, .func (.func 121) #[] #[]] w fun e w' => e = .returned (.bool false) ∧ w = w' := by
  go_enter Tryz.func120, Tryz.ntmps120
  go_wp2_with (go_at_call 141; refine (pairsIndex_nil _).mono ?_; rintro e w' ⟨rfl, rfl⟩)
  go_ret
  exact ⟨rfl, rfl⟩
theorem infoPtr : (Tryz.prog.info? 188).map (fun i => (i.zero, i.size, i.bytes)) = some (some (.pointer none), 1, 8) := by kernel_rfl
/-- the words of the example's description -/
def dV (id : Int) : List Value := [.int .i64 id, .int .i64 3, .int .i64 0, .int .i64 8, .int .i64 0, .int .i64 0, .int .i64 1, .int .i64 128, .int .i64 2, .int .i64 0, .int .i64 0, .int .i64 0, .int .i64 0, .int .i64 0, .bool false, .int .i64 0, .string ⟨#[]⟩, .string ⟨#[]⟩, .int .i64 0, .int .i64 0, .bool false]
def aV (id : Int) : List Value := dV id ++ [.int .i64 4, .slice none 0 0]
theorem aV_range (id : Int) (w : World) (t : TypeId) : (w.alloc (.cells (aV id).toArray t)).rangeAt w.heap.size 0 (dV id) := by
  intro j v hv
  rw [(blk_at w t (aV id).toArray w.heap.size rfl).cell (0 + j)]
  rw [List.getElem?_toArray, Nat.zero_add]
  obtain ⟨hj, hv'⟩ := List.getElem?_eq_some_iff.1 hv
  rw [aV, List.getElem?_append_left hj, hv]
/-- behind the first two regions -/
structure AV (id : Int) (w W : World) : Prop where
  b1 : Blk W w.heap.size 168 (aV id).toArray
  b2 : Blk W (w.heap.size + 1) 38 (dV id).toArray
  own : W.ownsRow (w.heap.size + 2) 188 1 (.slice (some ⟨w.heap.size + 2, 0, none⟩) 14 14) 14 (fPtrs (w.heap.size + 1))
  sz : W.heap.size = w.heap.size + 3
  be : Below w.heap.size w W
theorem aV_mk (id : Int) (w W1 : World) (h1 : W1 = (w.alloc (.cells (aV id).toArray 168)).alloc (.cells (dV id).toArray 38)) : AV id w (W1.alloc (.cells (fPtrs (w.heap.size + 1)).toArray 188)).drew := by
  have hs : W1.heap.size = w.heap.size + 2 := by rw [h1]; simp
  have hb : Below w.heap.size w W1 := by rw [h1]; exact ((Below.refl w.heap.size w).alloc (Nat.le_refl _) _).alloc (by simp) _
  have q1 : Blk W1 w.heap.size 168 (aV id).toArray := by rw [h1]; exact (Blk.new w 168 _).alloc _
  have q2 : Blk W1 (w.heap.size + 1) 38 (dV id).toArray := by rw [h1]; exact blk_at _ _ _ _ (by simp)
  have q3 := World.ownsRow_lit (e := 188) (base := W1.heap.size) (size := 1) W1 (fPtrs (w.heap.size + 1)).toArray 14 (Nat.le_refl _) (by decide) rfl
  rw [hs] at q3
  exact ⟨(q1.alloc _).drew, (q2.alloc _).drew, q3.drew, by simp [World.drew, hs], (hb.alloc (by omega) _).drew⟩
theorem dV_one (id : Int) : (dV id).toArray.all (·.oneCell') = true := by simp [dV, Value.oneCell']
theorem setRow_two (X : World) (b : Nat) (h : b = X.heap.size) (old cs : Array Value) (t : TypeId) : (X.alloc (.cells old t)).setRow b cs = X.alloc (.cells cs t) := by
  subst h
  exact World.setRow_alloc_new X old cs t
theorem fields_at (id : Int) (w : World) : Calls Tryz.prog 116 #[.pointer (some ⟨w.heap.size + 1, 0, none⟩)] ((w.alloc (.cells (aV id).toArray 168)).alloc (.cells (dV id).toArray 38)) fun e W => e = .returned (.slice (some ⟨w.heap.size + 2, 0, none⟩) 14 14) ∧ AV id w W := by
  refine (fields_any (w.heap.size + 1) _).mono ?_
  rintro e W ⟨rfl, rfl⟩
  exact ⟨by simp, aV_mk id w _ rfl⟩
def four (A B : Nat) : List Value := [.pointer (some ⟨B, 15, none⟩), .pointer (some ⟨B, 18, none⟩), .pointer (some ⟨B, 19, none⟩), .pointer (some ⟨A, 21, none⟩)]
theorem four_rd (A B : Nat) (W : World) : Rd (W.alloc (.cells (four A B).toArray 188)) (W.heap.size + 1) 1 (some ⟨W.heap.size, 0, none⟩) 4 (four A B) := by
  refine ⟨rfl, fun _ => ⟨W.heap.size, 0, rfl, by omega, fun j u hu => ?_⟩⟩
  rw [(Blk.new W 188 (four A B).toArray).cell, Nat.zero_add, List.getElem?_toArray]
  exact hu
theorem av_app (id : Int) (w W3 w' : World) (v' : Value) (i1 : 0 ≤ id) (i2 : id ≤ 1099511627776) (HA : AV id w W3)
    (hown : w'.ownsRow (w.heap.size + 2) 188 1 v' 18 (fPtrs (w.heap.size + 1) ++ four w.heap.size (w.heap.size + 1)))
    (hgr : (W3.alloc (.cells (four w.heap.size (w.heap.size + 1)).toArray 188)).grownBy w' (Value.slice (some ⟨w.heap.size + 2, 0, none⟩) 14 14).ownBlock) :
    ∃ g cap, v' = .slice (some ⟨g, 0, none⟩) 18 cap ∧ Blk w' w.heap.size 168 (aV id).toArray ∧ Blk w' (w.heap.size + 1) 38 (dV id).toArray ∧ Ptrs w' g 0 18 ∧ Below w.heap.size w w' := by
  have q1 : Blk w' w.heap.size 168 (aV id).toArray := (HA.b1.alloc _).grown hgr (by simp [Value.ownBlock])
  have q2 : Blk w' (w.heap.size + 1) 38 (dV id).toArray := (HA.b2.alloc _).grown hgr (by simp [Value.ownBlock])
  have hb : Below w.heap.size w w' := (HA.be.alloc (by have := HA.sz; omega) _).grown hgr (by have := HA.sz; simp; omega) (by intro k hk; simp [Value.ownBlock] at hk; omega)
  obtain ⟨g, cap, rfl⟩ : ∃ g cap, v' = .slice (some ⟨g, 0, none⟩) 18 cap := by
    rcases hown.2 with ⟨_, h0⟩ | ⟨g, cap, cur, rfl, _⟩
    · exact absurd h0 (by decide)
    · exact ⟨g, cap, rfl⟩
  refine ⟨g, cap, rfl, q1, q2, fun j hj => ?_, hb⟩
  rw [Nat.zero_add, hown.cellAt j (by omega)]
  have hj' : j = 0 ∨ j = 1 ∨ j = 2 ∨ j = 3 ∨ j = 4 ∨ j = 5 ∨ j = 6 ∨ j = 7 ∨ j = 8 ∨ j = 9 ∨ j = 10 ∨ j = 11 ∨ j = 12 ∨ j = 13 ∨ j = 14 ∨ j = 15 ∨ j = 16 ∨ j = 17 := by omega
  clear hgr hown hb
  rcases hj' with rfl | rfl | rfl | rfl | rfl | rfl | rfl | rfl | rfl | rfl | rfl | rfl | rfl | rfl | rfl | rfl | rfl | rfl
  all_goals
    refine ⟨_, _, _, rfl, (by first | (rw [q2.cell]; rfl) | (rw [q1.cell]; rfl)), ?_, ?_⟩ <;> first | exact i1 | exact i2 | decide
set_option maxRecDepth 100000 in
set_option maxHeartbeats 2000000 in
theorem archValid_a (id : Int) (w : World) (i1 : 0 ≤ id) (i2 : id ≤ 1099511627776) : Calls Tryz.prog 96 #[.agg (aV id).toArray] w fun e w' => e = .returned (.bool true) ∧ Below w.heap.size w w' := by
  obtain ⟨i0, hi0, hz0, hz1, hz2⟩ := info_parts infoPtr
  have HM := Lib.hid (aV_range id w 168)
  have H1 := Lib.hid (dV_one id)
  have HF := Lib.hid (fields_at id w)
  have HB := Lib.hid fun old => blk_at (w.alloc (.cells (aV id).toArray 168)) 38 old (w.heap.size + 1) (by simp)
  have HS := Lib.hid fun old => setRow_two (w.alloc (.cells (aV id).toArray 168)) (w.heap.size + 1) (by simp) old (dV id).toArray 38
  have HP := Lib.hid fun W3 w' v' => av_app id w W3 w' v' i1 i2
  clear i1 i2
  go_enter Tryz.func96, Tryz.ntmps96
  go_wp2_with (first | (refine wpList_load_mid rfl 38 _ rfl w.heap.size 0 rfl (dV id) _ HM.out Tryz.underlying38 rfl (by kernel_rfl) ?_) | (refine wpList_store_row rfl 38 _ _ rfl (w.heap.size + 1) (dV id).toArray rfl rfl 38 _ (HB.out _) (by kernel_rfl) rfl H1.out ?_; rw [HS.out]) | (go_at_call 116; refine HF.out.mono ?_; rintro e W3 ⟨rfl, H3⟩; have HA := Lib.hid H3; clear H3; have HO := Lib.hid (HA.out.own.alloc (.cells (four w.heap.size (w.heap.size + 1)).toArray 188)); have HR := Lib.hid (four_rd w.heap.size (w.heap.size + 1) W3)) | (at_builtin; go_must (refine wpList_app _ rfl _ _ 190 rfl (w.heap.size + 2) 188 i0 _ 1 8 Tryz.underlying190 hi0 hz0 hz1 hz2 rfl (by decide) _ 14 _ rfl HO.out (W3.heap.size + 1) (some ⟨W3.heap.size, 0, none⟩) 4 4 (four w.heap.size (w.heap.size + 1)) rfl HR.out (by simp [four, Value.oneCell']) (by decide) (by decide) (by have := HA.out.sz; simp; omega) ?_; intro v' w4 hown hgr _; obtain ⟨g, cap, rfl, q1, q2, q3, q4⟩ := HP.out _ _ _ HA.out hown hgr; clear hown hgr HO HR HA; have c17 : w4.cell? ⟨w.heap.size + 1, 17, none⟩ = some (.string ⟨#[]⟩) := (q2.cell 17).trans rfl; have c16 : w4.cell? ⟨w.heap.size + 1, 16, none⟩ = some (.string ⟨#[]⟩) := (q2.cell 16).trans rfl; have c22 : w4.cell? ⟨w.heap.size, 22, none⟩ = some (.slice none 0 0) := (q1.cell 22).trans rfl; have HC := Lib.hid (ptrs_any g 0 18 cap w4 q3 (by decide)); have HE := Lib.hid q4; clear q1 q2 q3 q4)) | (go_at_call 117; refine HC.out.mono ?_; rintro e w5 ⟨rfl, rfl⟩) | (go_at_call 120; refine (pairsAny_nil _).mono ?_; rintro e w6 ⟨rfl, rfl⟩))
  go_ret
  exact ⟨rfl, HE.out⟩
end Go.Proofs.YtpklgdclknicjaaGreatDoor
