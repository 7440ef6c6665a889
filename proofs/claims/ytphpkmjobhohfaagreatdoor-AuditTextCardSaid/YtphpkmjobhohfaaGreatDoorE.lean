/- Text of the reference: orphan and behind. -/
import Derived.Test.YtphpkmjobhohfaaGreatDoorD
import Derived.Deep.RegionHeld3
namespace Go.Proofs.YtphpkmjobhohfaaGreatDoor
open Go.RowKit

set_option maxRecDepth 100000 in
set_option maxHeartbeats 1000000 in
theorem rText_orphan (vol name key : ByteArray) (id unit sec : Int) (w : World) (hv : vol.size ≤ 60) (hid0 : -9223372036854775807 ≤ id) (hid1 : id ≤ 9223372036854775807) (hunit0 : -9223372036854775807 ≤ unit) (hunit1 : unit ≤ 9223372036854775807) :
    Calls Tryz.prog 6 #[.agg #[.int .i64 6, .string vol, .int .i64 id, .int .i64 unit, .string name, .int .i64 sec, .string key]] w fun e w' => e = .returned (.string (⟨#[111, 114, 112, 104, 97, 110, 32]⟩ ++ vol ++ (⟨#[32]⟩ ++ itoaB id) ++ ⟨#[32]⟩ ++ itoaB unit)) ∧ Below w.heap.size w w' := by
  obtain ⟨t0, ht0⟩ : ∃ t, itoaB id = t := ⟨_, rfl⟩
  have hts0 : t0.size ≤ 20 := by rw [← ht0]; exact itoaB_size hid0 hid1
  obtain ⟨t1, ht1⟩ : ∃ t, itoaB unit = t := ⟨_, rfl⟩
  have hts1 : t1.size ≤ 20 := by rw [← ht1]; exact itoaB_size hunit0 hunit1
  rw [ht0, ht1]
  have HC0 : Hid (∀ W : World, Calls Tryz.prog 10 #[.int .i64 id] W fun e w' => e = .returned (.string t0) ∧ Below W.heap.size W w') := Lib.hid (fun W => by rw [← ht0]; exact rdecimal_any id hid0 hid1 W)
  have HC1 : Hid (∀ W : World, Calls Tryz.prog 10 #[.int .i64 unit] W fun e w' => e = .returned (.string t1) ∧ Below W.heap.size W w') := Lib.hid (fun W => by rw [← ht1]; exact rdecimal_any unit hunit0 hunit1 W)
  clear ht0 ht1
  have q0 : 7 + vol.size ≤ 9223372036854775807 := by omega
  have q1 : 7 + vol.size + (1 + t0.size) ≤ 9223372036854775807 := by omega
  have q2 : 7 + vol.size + (1 + t0.size) + 1 ≤ 9223372036854775807 := by omega
  have q3 : 7 + vol.size + (1 + t0.size) + 1 + t1.size ≤ 9223372036854775807 := by omega
  have q4 : 1 + t0.size ≤ 9223372036854775807 := by omega
  go_enter Tryz.func6, Tryz.ntmps6
  go_wp2_with fail
  refine (HC0.out _).mono ?_
  rintro e w1 ⟨rfl, hb1⟩
  have hB : Blk w1 w.heap.size 23 #[.int .i64 6, .string vol, .int .i64 id, .int .i64 unit, .string name, .int .i64 sec, .string key] := (Blk.new w 23 _).below hb1 (by simp)
  have b0 := (Below.refl w.heap.size w).alloc (Nat.le_refl _) (.cells #[.int .i64 6, .string vol, .int .i64 id, .int .i64 unit, .string name, .int .i64 sec, .string key] 23)
  have B1 := Lib.hid (below_next b0 hb1 b0.size)
  have c0 := hB.cell 0
  simp at c0
  have HB := Lib.hid hB
  clear hb1 b0 hB
  go_wp2_with fail
  refine wp_region_held_drew (S := fun w' => Blk w' w.heap.size 23 #[.int .i64 6, .string vol, .int .i64 id, .int .i64 unit, .string name, .int .i64 sec, .string key]) (by kernel_rfl) HB.out.drew (fun hHeld => ?_)
  refine wpAnyH_take (i := 0) (oi := ?_) (v := .pointer (some ⟨w.heap.size, 1, none⟩)) ?_ (by kernel_rfl) ?_ ?_ ?_ ?_ hHeld ?_
  rotate_left
  · simp only [List.getElem?_toArray, List.getElem?_cons_zero]; rfl
  · kernel_rfl
  · kernel_rfl
  · exact fun _ _ _ h => h
  · exact Or.inl ⟨by rfl, by intro w' hSw; go_simp⟩
  simp only [Act.put, List.setIfInBounds_toArray, List.set_cons_zero, List.set_cons_succ]
  refine wpAnyH_take (i := 1) (oi := ?_) (v := .string vol) ?_ (by kernel_rfl) ?_ ?_ ?_ ?_ hHeld ?_
  rotate_left
  · simp only [List.getElem?_toArray, List.getElem?_cons_zero, List.getElem?_cons_succ]; rfl
  · kernel_rfl
  · kernel_rfl
  · exact fun _ _ _ h => h
  · exact Or.inl ⟨by rfl, by intro w' hSw; have hq := Blk.cell hSw 1; simp at hq; go_simp⟩
  simp only [Act.put, List.setIfInBounds_toArray, List.set_cons_zero, List.set_cons_succ]
  refine wpAnyH_take (i := 2) (oi := ?_) (v := .string (⟨#[111, 114, 112, 104, 97, 110, 32]⟩ ++ vol)) ?_ (by kernel_rfl) ?_ ?_ ?_ ?_ hHeld ?_
  rotate_left
  · simp only [List.getElem?_toArray, List.getElem?_cons_zero, List.getElem?_cons_succ]; rfl
  · kernel_rfl
  · kernel_rfl
  · exact fun _ _ _ h => h
  · exact Or.inl ⟨by rfl, by intro w' hSw; go_simp⟩
  simp only [Act.put, List.setIfInBounds_toArray, List.set_cons_zero, List.set_cons_succ]
  refine wpAnyH_take (i := 3) (oi := ?_) (v := .string (⟨#[32]⟩ ++ t0)) ?_ (by kernel_rfl) ?_ ?_ ?_ ?_ hHeld ?_
  rotate_left
  · simp only [List.getElem?_toArray, List.getElem?_cons_zero, List.getElem?_cons_succ]; rfl
  · kernel_rfl
  · kernel_rfl
  · exact fun _ _ _ h => h
  · exact Or.inl ⟨by rfl, by intro w' hSw; go_simp⟩
  simp only [Act.put, List.setIfInBounds_toArray, List.set_cons_zero, List.set_cons_succ]
  refine wpAnyH_take (i := 4) (oi := ?_) (v := .string (⟨#[111, 114, 112, 104, 97, 110, 32]⟩ ++ vol ++ (⟨#[32]⟩ ++ t0))) ?_ (by kernel_rfl) ?_ ?_ ?_ ?_ hHeld ?_
  rotate_left
  · simp only [List.getElem?_toArray, List.getElem?_cons_zero, List.getElem?_cons_succ]; rfl
  · kernel_rfl
  · kernel_rfl
  · exact fun _ _ _ h => h
  · exact Or.inl ⟨by rfl, by intro w' hSw; go_simp⟩
  simp only [Act.put, List.setIfInBounds_toArray, List.set_cons_zero, List.set_cons_succ]
  refine wpAnyH_take (i := 5) (oi := ?_) (v := .string (⟨#[111, 114, 112, 104, 97, 110, 32]⟩ ++ vol ++ (⟨#[32]⟩ ++ t0) ++ ⟨#[32]⟩)) ?_ (by kernel_rfl) ?_ ?_ ?_ ?_ hHeld ?_
  rotate_left
  · simp only [List.getElem?_toArray, List.getElem?_cons_zero, List.getElem?_cons_succ]; rfl
  · kernel_rfl
  · kernel_rfl
  · exact fun _ _ _ h => h
  · exact Or.inl ⟨by rfl, by intro w' hSw; go_simp⟩
  simp only [Act.put, List.setIfInBounds_toArray, List.set_cons_zero, List.set_cons_succ]
  refine wpAnyH_take (i := 6) (oi := ?_) (v := .pointer (some ⟨w.heap.size, 3, none⟩)) ?_ (by kernel_rfl) ?_ ?_ ?_ ?_ hHeld ?_
  rotate_left
  · simp only [List.getElem?_toArray, List.getElem?_cons_zero, List.getElem?_cons_succ]; rfl
  · kernel_rfl
  · kernel_rfl
  · exact fun _ _ _ h => h
  · exact Or.inl ⟨by rfl, by intro w' hSw; go_simp⟩
  simp only [Act.put, List.setIfInBounds_toArray, List.set_cons_zero, List.set_cons_succ]
  refine wpAnyH_take (i := 7) (oi := ?_) (v := .int .i64 unit) ?_ (by kernel_rfl) ?_ ?_ ?_ ?_ hHeld ?_
  rotate_left
  · simp only [List.getElem?_toArray, List.getElem?_cons_zero, List.getElem?_cons_succ]; rfl
  · kernel_rfl
  · kernel_rfl
  · exact fun _ _ _ h => h
  · exact Or.inl ⟨by rfl, by intro w' hSw; have hq := Blk.cell hSw 3; simp at hq; go_simp⟩
  simp only [Act.put, List.setIfInBounds_toArray, List.set_cons_zero, List.set_cons_succ]
  refine wpAnyH_ready (rs := [8]) (by kernel_rfl) (by simp) ?_
  refine AllReadyH.cons (o := ?_) ?_ (fun K hK => ?_) ?_
  rotate_left
  · simp only [List.getElem?_toArray, List.getElem?_cons_zero, List.getElem?_cons_succ]; rfl
  · go_simp
    refine (HC1.out _).mono ?_
    rintro e w2 ⟨rfl, hb2⟩
    simp only []
    have B2 := Lib.hid (below_next B1.out.drew hb2 B1.out.drew.size)
    refine hK.out _ _ (Blk.below hHeld hb2 (Blk.lt hHeld)) (fun hHeld => ?_)
    clear hK K hb2
    try simp only [Act.put, List.setIfInBounds_toArray, List.set_cons_zero, List.set_cons_succ]
    refine wpAnyH_take (i := 9) (oi := ?_) (v := .string (⟨#[111, 114, 112, 104, 97, 110, 32]⟩ ++ vol ++ (⟨#[32]⟩ ++ t0) ++ ⟨#[32]⟩ ++ t1)) ?_ (by kernel_rfl) ?_ ?_ ?_ ?_ hHeld ?_
    rotate_left
    · simp only [List.getElem?_toArray, List.getElem?_cons_zero, List.getElem?_cons_succ]; rfl
    · kernel_rfl
    · kernel_rfl
    · exact fun _ _ _ h => h
    · exact Or.inl ⟨by rfl, by intro w' hSw; go_simp⟩
    simp only [Act.put, List.setIfInBounds_toArray, List.set_cons_zero, List.set_cons_succ]
    refine wpAnyH_take (i := 10) (oi := ?_) (v := .string (⟨#[111, 114, 112, 104, 97, 110, 32]⟩ ++ vol ++ (⟨#[32]⟩ ++ t0) ++ ⟨#[32]⟩ ++ t1)) ?_ (by kernel_rfl) ?_ ?_ ?_ ?_ hHeld ?_
    rotate_left
    · simp only [List.getElem?_toArray, List.getElem?_cons_zero, List.getElem?_cons_succ]; rfl
    · kernel_rfl
    · kernel_rfl
    · exact fun _ _ _ h => h
    · exact Or.inl ⟨by rfl, by intro w' hSw; go_simp⟩
    simp only [Act.put, List.setIfInBounds_toArray, List.set_cons_zero, List.set_cons_succ]
    refine wpAnyH_done (by kernel_rfl) ?_ _
    go_wp2
    go_ret
    exact ⟨rfl, B2.out⟩
  exact AllReadyH.nil

set_option maxRecDepth 100000 in
set_option maxHeartbeats 1000000 in
theorem rText_behind (vol name key : ByteArray) (id unit sec : Int) (w : World) (hv : vol.size ≤ 60) (hid0 : -9223372036854775807 ≤ id) (hid1 : id ≤ 9223372036854775807) (hunit0 : -9223372036854775807 ≤ unit) (hunit1 : unit ≤ 9223372036854775807) :
    Calls Tryz.prog 6 #[.agg #[.int .i64 7, .string vol, .int .i64 id, .int .i64 unit, .string name, .int .i64 sec, .string key]] w fun e w' => e = .returned (.string (⟨#[98, 101, 104, 105, 110, 100, 32]⟩ ++ vol ++ (⟨#[32]⟩ ++ itoaB id) ++ ⟨#[32]⟩ ++ itoaB unit)) ∧ Below w.heap.size w w' := by
  obtain ⟨t0, ht0⟩ : ∃ t, itoaB id = t := ⟨_, rfl⟩
  have hts0 : t0.size ≤ 20 := by rw [← ht0]; exact itoaB_size hid0 hid1
  obtain ⟨t1, ht1⟩ : ∃ t, itoaB unit = t := ⟨_, rfl⟩
  have hts1 : t1.size ≤ 20 := by rw [← ht1]; exact itoaB_size hunit0 hunit1
  rw [ht0, ht1]
  have HC0 : Hid (∀ W : World, Calls Tryz.prog 10 #[.int .i64 id] W fun e w' => e = .returned (.string t0) ∧ Below W.heap.size W w') := Lib.hid (fun W => by rw [← ht0]; exact rdecimal_any id hid0 hid1 W)
  have HC1 : Hid (∀ W : World, Calls Tryz.prog 10 #[.int .i64 unit] W fun e w' => e = .returned (.string t1) ∧ Below W.heap.size W w') := Lib.hid (fun W => by rw [← ht1]; exact rdecimal_any unit hunit0 hunit1 W)
  clear ht0 ht1
  have q0 : 7 + vol.size ≤ 9223372036854775807 := by omega
  have q1 : 7 + vol.size + (1 + t0.size) ≤ 9223372036854775807 := by omega
  have q2 : 7 + vol.size + (1 + t0.size) + 1 ≤ 9223372036854775807 := by omega
  have q3 : 7 + vol.size + (1 + t0.size) + 1 + t1.size ≤ 9223372036854775807 := by omega
  have q4 : 1 + t0.size ≤ 9223372036854775807 := by omega
  go_enter Tryz.func6, Tryz.ntmps6
  go_wp2_with fail
  refine (HC0.out _).mono ?_
  rintro e w1 ⟨rfl, hb1⟩
  have hB : Blk w1 w.heap.size 23 #[.int .i64 7, .string vol, .int .i64 id, .int .i64 unit, .string name, .int .i64 sec, .string key] := (Blk.new w 23 _).below hb1 (by simp)
  have b0 := (Below.refl w.heap.size w).alloc (Nat.le_refl _) (.cells #[.int .i64 7, .string vol, .int .i64 id, .int .i64 unit, .string name, .int .i64 sec, .string key] 23)
  have B1 := Lib.hid (below_next b0 hb1 b0.size)
  have c0 := hB.cell 0
  simp at c0
  have HB := Lib.hid hB
  clear hb1 b0 hB
  go_wp2_with fail
  refine wp_region_held_drew (S := fun w' => Blk w' w.heap.size 23 #[.int .i64 7, .string vol, .int .i64 id, .int .i64 unit, .string name, .int .i64 sec, .string key]) (by kernel_rfl) HB.out.drew (fun hHeld => ?_)
  refine wpAnyH_take (i := 0) (oi := ?_) (v := .pointer (some ⟨w.heap.size, 1, none⟩)) ?_ (by kernel_rfl) ?_ ?_ ?_ ?_ hHeld ?_
  rotate_left
  · simp only [List.getElem?_toArray, List.getElem?_cons_zero]; rfl
  · kernel_rfl
  · kernel_rfl
  · exact fun _ _ _ h => h
  · exact Or.inl ⟨by rfl, by intro w' hSw; go_simp⟩
  simp only [Act.put, List.setIfInBounds_toArray, List.set_cons_zero, List.set_cons_succ]
  refine wpAnyH_take (i := 1) (oi := ?_) (v := .string vol) ?_ (by kernel_rfl) ?_ ?_ ?_ ?_ hHeld ?_
  rotate_left
  · simp only [List.getElem?_toArray, List.getElem?_cons_zero, List.getElem?_cons_succ]; rfl
  · kernel_rfl
  · kernel_rfl
  · exact fun _ _ _ h => h
  · exact Or.inl ⟨by rfl, by intro w' hSw; have hq := Blk.cell hSw 1; simp at hq; go_simp⟩
  simp only [Act.put, List.setIfInBounds_toArray, List.set_cons_zero, List.set_cons_succ]
  refine wpAnyH_take (i := 2) (oi := ?_) (v := .string (⟨#[98, 101, 104, 105, 110, 100, 32]⟩ ++ vol)) ?_ (by kernel_rfl) ?_ ?_ ?_ ?_ hHeld ?_
  rotate_left
  · simp only [List.getElem?_toArray, List.getElem?_cons_zero, List.getElem?_cons_succ]; rfl
  · kernel_rfl
  · kernel_rfl
  · exact fun _ _ _ h => h
  · exact Or.inl ⟨by rfl, by intro w' hSw; go_simp⟩
  simp only [Act.put, List.setIfInBounds_toArray, List.set_cons_zero, List.set_cons_succ]
  refine wpAnyH_take (i := 3) (oi := ?_) (v := .string (⟨#[32]⟩ ++ t0)) ?_ (by kernel_rfl) ?_ ?_ ?_ ?_ hHeld ?_
  rotate_left
  · simp only [List.getElem?_toArray, List.getElem?_cons_zero, List.getElem?_cons_succ]; rfl
  · kernel_rfl
  · kernel_rfl
  · exact fun _ _ _ h => h
  · exact Or.inl ⟨by rfl, by intro w' hSw; go_simp⟩
  simp only [Act.put, List.setIfInBounds_toArray, List.set_cons_zero, List.set_cons_succ]
  refine wpAnyH_take (i := 4) (oi := ?_) (v := .string (⟨#[98, 101, 104, 105, 110, 100, 32]⟩ ++ vol ++ (⟨#[32]⟩ ++ t0))) ?_ (by kernel_rfl) ?_ ?_ ?_ ?_ hHeld ?_
  rotate_left
  · simp only [List.getElem?_toArray, List.getElem?_cons_zero, List.getElem?_cons_succ]; rfl
  · kernel_rfl
  · kernel_rfl
  · exact fun _ _ _ h => h
  · exact Or.inl ⟨by rfl, by intro w' hSw; go_simp⟩
  simp only [Act.put, List.setIfInBounds_toArray, List.set_cons_zero, List.set_cons_succ]
  refine wpAnyH_take (i := 5) (oi := ?_) (v := .string (⟨#[98, 101, 104, 105, 110, 100, 32]⟩ ++ vol ++ (⟨#[32]⟩ ++ t0) ++ ⟨#[32]⟩)) ?_ (by kernel_rfl) ?_ ?_ ?_ ?_ hHeld ?_
  rotate_left
  · simp only [List.getElem?_toArray, List.getElem?_cons_zero, List.getElem?_cons_succ]; rfl
  · kernel_rfl
  · kernel_rfl
  · exact fun _ _ _ h => h
  · exact Or.inl ⟨by rfl, by intro w' hSw; go_simp⟩
  simp only [Act.put, List.setIfInBounds_toArray, List.set_cons_zero, List.set_cons_succ]
  refine wpAnyH_take (i := 6) (oi := ?_) (v := .pointer (some ⟨w.heap.size, 3, none⟩)) ?_ (by kernel_rfl) ?_ ?_ ?_ ?_ hHeld ?_
  rotate_left
  · simp only [List.getElem?_toArray, List.getElem?_cons_zero, List.getElem?_cons_succ]; rfl
  · kernel_rfl
  · kernel_rfl
  · exact fun _ _ _ h => h
  · exact Or.inl ⟨by rfl, by intro w' hSw; go_simp⟩
  simp only [Act.put, List.setIfInBounds_toArray, List.set_cons_zero, List.set_cons_succ]
  refine wpAnyH_take (i := 7) (oi := ?_) (v := .int .i64 unit) ?_ (by kernel_rfl) ?_ ?_ ?_ ?_ hHeld ?_
  rotate_left
  · simp only [List.getElem?_toArray, List.getElem?_cons_zero, List.getElem?_cons_succ]; rfl
  · kernel_rfl
  · kernel_rfl
  · exact fun _ _ _ h => h
  · exact Or.inl ⟨by rfl, by intro w' hSw; have hq := Blk.cell hSw 3; simp at hq; go_simp⟩
  simp only [Act.put, List.setIfInBounds_toArray, List.set_cons_zero, List.set_cons_succ]
  refine wpAnyH_ready (rs := [8]) (by kernel_rfl) (by simp) ?_
  refine AllReadyH.cons (o := ?_) ?_ (fun K hK => ?_) ?_
  rotate_left
  · simp only [List.getElem?_toArray, List.getElem?_cons_zero, List.getElem?_cons_succ]; rfl
  · go_simp
    refine (HC1.out _).mono ?_
    rintro e w2 ⟨rfl, hb2⟩
    simp only []
    have B2 := Lib.hid (below_next B1.out.drew hb2 B1.out.drew.size)
    refine hK.out _ _ (Blk.below hHeld hb2 (Blk.lt hHeld)) (fun hHeld => ?_)
    clear hK K hb2
    try simp only [Act.put, List.setIfInBounds_toArray, List.set_cons_zero, List.set_cons_succ]
    refine wpAnyH_take (i := 9) (oi := ?_) (v := .string (⟨#[98, 101, 104, 105, 110, 100, 32]⟩ ++ vol ++ (⟨#[32]⟩ ++ t0) ++ ⟨#[32]⟩ ++ t1)) ?_ (by kernel_rfl) ?_ ?_ ?_ ?_ hHeld ?_
    rotate_left
    · simp only [List.getElem?_toArray, List.getElem?_cons_zero, List.getElem?_cons_succ]; rfl
    · kernel_rfl
    · kernel_rfl
    · exact fun _ _ _ h => h
    · exact Or.inl ⟨by rfl, by intro w' hSw; go_simp⟩
    simp only [Act.put, List.setIfInBounds_toArray, List.set_cons_zero, List.set_cons_succ]
    refine wpAnyH_take (i := 10) (oi := ?_) (v := .string (⟨#[98, 101, 104, 105, 110, 100, 32]⟩ ++ vol ++ (⟨#[32]⟩ ++ t0) ++ ⟨#[32]⟩ ++ t1)) ?_ (by kernel_rfl) ?_ ?_ ?_ ?_ hHeld ?_
    rotate_left
    · simp only [List.getElem?_toArray, List.getElem?_cons_zero, List.getElem?_cons_succ]; rfl
    · kernel_rfl
    · kernel_rfl
    · exact fun _ _ _ h => h
    · exact Or.inl ⟨by rfl, by intro w' hSw; go_simp⟩
    simp only [Act.put, List.setIfInBounds_toArray, List.set_cons_zero, List.set_cons_succ]
    refine wpAnyH_done (by kernel_rfl) ?_ _
    go_wp2
    go_ret
    exact ⟨rfl, B2.out⟩
  exact AllReadyH.nil

end Go.Proofs.YtphpkmjobhohfaaGreatDoor
