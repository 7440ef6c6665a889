/- The reference's form. -/
import Derived.Test.YtjfinkfikebjbaaH
import Derived.Test.YtjfinkfikebjbaaBlk
import Derived.Deep.RegionHeld3
import Derived.Deep.DeepCutAuto
namespace Go.Proofs.Ytjfinkfikebjbaa
open Go.RowKit
attribute [local go_sem ↓] Go.wp_at_zero Go.wp_at_succ

theorem wpAnyH_grow {P : Program} {md : Region.Mode} {ops : Array Oper} {Q : Exit → Act → World → Prop} {S S' : World → Prop} (hS : ∀ w, S' w → S w) :
    ∀ (fuel : Nat) (listed : Array Bool) (a : Act) (w : World), wpAnyH P md ops Q S' fuel listed a w → wpAnyH P md ops Q S fuel listed a w
  | 0, _, _, _, h => h
  | fuel + 1, _, _, _, h => ⟨h.1, fun i hi => wpOp_mono (fun a' w' h' => ⟨hS _ h'.1, wpAnyH_grow hS fuel _ a' w' h'.2⟩) (h.2 i hi)⟩

theorem u8_of {m : Nat} (h : m ≤ 255) : (UInt8.ofNat m).toNat = m := by rw [UInt8.toNat_ofNat']; omega
theorem cv_blk {W : World} {g : Nat} {l : List UInt8} (hb : Blk W g 5 (Lib.byteCells l).toArray) : (convert 56 9 (.slice (some ⟨g, 0, none⟩) l.length l.length)).run Try.prog W = .ok (.string ⟨l.toArray⟩) W := by
  refine conv_str W g 0 l.length l.length l rfl (fun j u hu => ?_)
  rw [Nat.zero_add, hb.cell]
  simpa using hu
def bT (lv nx : Int) (es : List Ent) (j : Nat) : ByteArray := ⟨(headL lv nx es.length ++ entsL es j).toArray⟩

set_option maxRecDepth 100000 in
set_option maxHeartbeats 4000000 in
theorem rform_any (lv nx : Int) (A : Option Addr) (n c : Nat) (es : List Ent) (w : World) (hs : Es w w.heap.size A n c es) (hp : plainB lv nx es = true) :
    Calls Try.prog 41 #[.agg #[.int .i64 lv, .int .i64 nx, .slice A n c]] w fun e w' => e = .returned (.string ⟨(formL lv nx es).toArray⟩) ∧ Below w.heap.size w w' := by
  obtain ⟨h1, h2, h3, h4, h5, h6, h7⟩ := plain_yes hp
  have HL := Lib.hid hs.len
  rw [HL.out] at h1 h2 h7
  have HS := Lib.hid hs
  have HE := Lib.hid h7
  have HP := Lib.hid hp
  clear hs h7 hp
  obtain ⟨nxn, rfl⟩ : ∃ k : Nat, nx = (k : Int) := ⟨nx.toNat, by omega⟩
  obtain ⟨lvn, rfl⟩ : ∃ k : Nat, lv = (k : Int) := ⟨lv.toNat, by omega⟩
  obtain ⟨S1, hS1⟩ : ∃ s : ByteArray, s = ⟨#[UInt8.ofNat lvn]⟩ := ⟨_, rfl⟩
  obtain ⟨S2, hS2⟩ : ∃ s : ByteArray, s = ⟨(fourL nxn).toArray⟩ := ⟨_, rfl⟩
  obtain ⟨S3, hS3⟩ : ∃ s : ByteArray, s = ⟨#[UInt8.ofNat n]⟩ := ⟨_, rfl⟩
  have hcv : ∀ (W : World) (g m : Nat), m ≤ 255 → Blk W g 5 #[.int .u8 m] → (convert 56 9 (.slice (some ⟨g, 0, none⟩) 1 1)).run Try.prog W = .ok (.string ⟨#[UInt8.ofNat m]⟩) W := fun W g m hm hb => cv_blk (l := [UInt8.ofNat m]) (by simpa [Lib.byteCells, u8_of hm] using hb)
  have HC1 : Hid (∀ (W : World) (g : Nat), Blk W g 5 #[.int .u8 lvn] → (convert 56 9 (.slice (some ⟨g, 0, none⟩) 1 1)).run Try.prog W = .ok (.string S1) W) := Lib.hid (fun W g h => by rw [hS1]; exact hcv W g lvn (by omega) h)
  have HC3 : Hid (∀ (W : World) (g : Nat), Blk W g 5 #[.int .u8 n] → (convert 56 9 (.slice (some ⟨g, 0, none⟩) 1 1)).run Try.prog W = .ok (.string S3) W) := Lib.hid (fun W g h => by rw [hS3]; exact hcv W g n (by omega) h)
  have HFR : Hid (∀ W, Calls Try.prog 52 #[.int .i64 nxn] W fun e w' => e = .returned (.string S2) ∧ Below W.heap.size W w') := Lib.hid (fun W => by rw [hS2]; exact rfour_any nxn W (by omega))
  have hz1 : S1.size = 1 := by rw [hS1]; rfl
  have hz2 : S2.size = 4 := by rw [hS2]; rfl
  have hz3 : S3.size = 1 := by rw [hS3]; rfl
  have hsz1 : S1.size + S2.size ≤ 9223372036854775807 := by omega
  have hsz2 : S1.size + S2.size + S3.size ≤ 9223372036854775807 := by omega
  clear hz1 hz2 hz3
  have HS1 := Lib.hid hS1
  have HS2 := Lib.hid hS2
  have HS3 := Lib.hid hS3
  have hw8 : IntKind.u8.wrap (lvn : Int) = (lvn : Int) := by rw [IntKind.wrap_u8]; omega
  have hwn : IntKind.u8.wrap (n : Int) = (n : Int) := by rw [IntKind.wrap_u8]; omega
  clear hS1 hS2 hS3 hcv
  go_enter Try.func41, Try.ntmps41
  go_upto_region 1 with (fail)
  go_cut [3] (fun s3 wx => s3 = .string (S1 ++ S2 ++ S3) ∧ Blk wx w.heap.size 25 #[.int .i64 lvn, .int .i64 nxn, .slice A n c] ∧ Below w.heap.size w wx)
  case first =>
    have B0 := Lib.hid ((Below.refl w.heap.size w).alloc (Nat.le_refl _) (.cells #[.int .i64 lvn, .int .i64 nxn, .slice A n c] 25)).drew
    refine wp_region_held_drew (S := fun w' => Blk w' w.heap.size 25 #[.int .i64 lvn, .int .i64 nxn, .slice A n c]) (by kernel_rfl) (Blk.new w 25 #[.int .i64 lvn, .int .i64 nxn, .slice A n c]).drew (fun hHeld => ?_)
    refine wpAnyH_take (i := 0) (oi := ?_) (v := .pointer (some ⟨w.heap.size, 0, none⟩)) ?_ (by kernel_rfl) ?_ ?_ ?_ ?_ hHeld ?_
    rotate_left
    · simp only [List.getElem?_toArray, List.getElem?_cons_zero]; rfl
    · kernel_rfl
    · kernel_rfl
    · exact fun _ _ _ h => h
    · exact Or.inl ⟨by rfl, by intro w' hSw; go_simp⟩
    simp only [Act.put, List.setIfInBounds_toArray, List.set_cons_zero, List.set_cons_succ]
    refine wpAnyH_take (i := 1) (oi := ?_) (v := .int .i64 lvn) ?_ (by kernel_rfl) ?_ ?_ ?_ ?_ hHeld ?_
    rotate_left
    · simp only [List.getElem?_toArray, List.getElem?_cons_zero, List.getElem?_cons_succ]; rfl
    · kernel_rfl
    · kernel_rfl
    · exact fun _ _ _ h => h
    · exact Or.inl ⟨by rfl, by intro w' hSw; have hq := Blk.cell hSw 0; simp at hq; go_simp⟩
    simp only [Act.put, List.setIfInBounds_toArray, List.set_cons_zero, List.set_cons_succ]
    refine wpAnyH_take (i := 2) (oi := ?_) (v := .int .u8 lvn) ?_ (by kernel_rfl) ?_ ?_ ?_ ?_ hHeld ?_
    rotate_left
    · simp only [List.getElem?_toArray, List.getElem?_cons_zero, List.getElem?_cons_succ]; rfl
    · kernel_rfl
    · kernel_rfl
    · exact fun _ _ _ h => h
    · exact Or.inl ⟨by rfl, by intro w' hSw; go_simp⟩
    simp only [Act.put, List.setIfInBounds_toArray, List.set_cons_zero, List.set_cons_succ]
    refine wpAnyH_take (i := 5) (oi := ?_) (v := .pointer (some ⟨w.heap.size, 1, none⟩)) ?_ (by kernel_rfl) ?_ ?_ ?_ ?_ hHeld ?_
    rotate_left
    · simp only [List.getElem?_toArray, List.getElem?_cons_zero, List.getElem?_cons_succ]; rfl
    · kernel_rfl
    · kernel_rfl
    · exact fun _ _ _ h => h
    · exact Or.inl ⟨by rfl, by intro w' hSw; go_simp⟩
    simp only [Act.put, List.setIfInBounds_toArray, List.set_cons_zero, List.set_cons_succ]
    refine wpAnyH_take (i := 6) (oi := ?_) (v := .int .i64 nxn) ?_ (by kernel_rfl) ?_ ?_ ?_ ?_ hHeld ?_
    rotate_left
    · simp only [List.getElem?_toArray, List.getElem?_cons_zero, List.getElem?_cons_succ]; rfl
    · kernel_rfl
    · kernel_rfl
    · exact fun _ _ _ h => h
    · exact Or.inl ⟨by rfl, by intro w' hSw; have hq := Blk.cell hSw 1; simp at hq; go_simp⟩
    simp only [Act.put, List.setIfInBounds_toArray, List.set_cons_zero, List.set_cons_succ]
    refine wpAnyH_take (i := 9) (oi := ?_) (v := .pointer (some ⟨w.heap.size, 2, none⟩)) ?_ (by kernel_rfl) ?_ ?_ ?_ ?_ hHeld ?_
    rotate_left
    · simp only [List.getElem?_toArray, List.getElem?_cons_zero, List.getElem?_cons_succ]; rfl
    · kernel_rfl
    · kernel_rfl
    · exact fun _ _ _ h => h
    · exact Or.inl ⟨by rfl, by intro w' hSw; go_simp⟩
    simp only [Act.put, List.setIfInBounds_toArray, List.set_cons_zero, List.set_cons_succ]
    refine wpAnyH_take (i := 10) (oi := ?_) (v := .slice A n c) ?_ (by kernel_rfl) ?_ ?_ ?_ ?_ hHeld ?_
    rotate_left
    · simp only [List.getElem?_toArray, List.getElem?_cons_zero, List.getElem?_cons_succ]; rfl
    · kernel_rfl
    · kernel_rfl
    · exact fun _ _ _ h => h
    · exact Or.inl ⟨by rfl, by intro w' hSw; have hq := Blk.cell hSw 2; simp at hq; go_simp⟩
    simp only [Act.put, List.setIfInBounds_toArray, List.set_cons_zero, List.set_cons_succ]
    refine wpAnyH_take (i := 11) (oi := ?_) (v := .int .i64 n) ?_ (by kernel_rfl) ?_ ?_ ?_ ?_ hHeld ?_
    rotate_left
    · simp only [List.getElem?_toArray, List.getElem?_cons_zero, List.getElem?_cons_succ]; rfl
    · kernel_rfl
    · kernel_rfl
    · exact fun _ _ _ h => h
    · exact Or.inl ⟨by rfl, by intro w' hSw; go_simp⟩
    simp only [Act.put, List.setIfInBounds_toArray, List.set_cons_zero, List.set_cons_succ]
    refine wpAnyH_take (i := 12) (oi := ?_) (v := .int .u8 n) ?_ (by kernel_rfl) ?_ ?_ ?_ ?_ hHeld ?_
    rotate_left
    · simp only [List.getElem?_toArray, List.getElem?_cons_zero, List.getElem?_cons_succ]; rfl
    · kernel_rfl
    · kernel_rfl
    · exact fun _ _ _ h => h
    · exact Or.inl ⟨by rfl, by intro w' hSw; go_simp⟩
    simp only [Act.put, List.setIfInBounds_toArray, List.set_cons_zero, List.set_cons_succ]
    refine wpAnyH_ready (rs := [3, 7, 13]) (by kernel_rfl) (by simp) ?_
    refine AllReadyH.cons (o := ?_) ?_ (fun K hK => ?_) ?_
    rotate_left
    · simp only [List.getElem?_toArray, List.getElem?_cons_zero, List.getElem?_cons_succ]; rfl
    · skip
      go_simp
      have B0x := Lib.hid (B0.out.alloc B0.out.size (.cells #[.int .u8 lvn] 5))
      have hg : Blk ((w.alloc (.cells #[.int .i64 lvn, .int .i64 nxn, .slice A n c] 25)).drew.alloc (.cells #[.int .u8 lvn] 5)) (w.heap.size + 1) 5 #[.int .u8 lvn] := by have h := Blk.new (w.alloc (.cells #[.int .i64 lvn, .int .i64 nxn, .slice A n c] 25)).drew 5 #[.int .u8 lvn]; simpa using h
      refine hK.out _ _ (Blk.alloc hHeld _) (fun hHeld => ?_)
      refine wpAnyH_grow (S' := fun w' => Blk w' w.heap.size 25 #[.int .i64 lvn, .int .i64 nxn, .slice A n c] ∧ Blk w' (w.heap.size + 1) 5 #[.int .u8 lvn]) (fun _ h => h.1) _ _ _ _ ?_
      replace hHeld : Blk ((w.alloc (.cells #[.int .i64 lvn, .int .i64 nxn, .slice A n c] 25)).drew.alloc (.cells #[.int .u8 lvn] 5)) w.heap.size 25 #[.int .i64 lvn, .int .i64 nxn, .slice A n c] ∧ Blk ((w.alloc (.cells #[.int .i64 lvn, .int .i64 nxn, .slice A n c] 25)).drew.alloc (.cells #[.int .u8 lvn] 5)) (w.heap.size + 1) 5 #[.int .u8 lvn] := ⟨hHeld, hg⟩
      clear hK K hg
      try simp only [Act.put, List.setIfInBounds_toArray, List.set_cons_zero, List.set_cons_succ]
      refine wpAnyH_take (i := 4) (oi := ?_) (v := .string S1) ?_ (by kernel_rfl) ?_ ?_ ?_ ?_ hHeld ?_
      rotate_left
      · simp only [List.getElem?_toArray, List.getElem?_cons_zero, List.getElem?_cons_succ]; rfl
      · kernel_rfl
      · kernel_rfl
      · exact fun _ _ _ h => h
      · exact Or.inl ⟨by rfl, by intro w' hSw; have hq := HC1.out w' _ (hSw.2); go_simp⟩
      simp only [Act.put, List.setIfInBounds_toArray, List.set_cons_zero, List.set_cons_succ]
      refine wpAnyH_ready (rs := [7, 13]) (by kernel_rfl) (by simp) ?_
      refine AllReadyH.cons (o := ?_) ?_ (fun K hK => ?_) ?_
      rotate_left
      · simp only [List.getElem?_toArray, List.getElem?_cons_zero, List.getElem?_cons_succ]; rfl
      · skip
        go_simp
        refine (HFR.out _).mono ?_
        rintro e w1x ⟨rfl, hb⟩
        simp only []
        have B1x := Lib.hid (below_next B0x.out hb B0x.out.size)
        obtain ⟨q0, q1⟩ := hHeld
        refine hK.out _ _ ⟨q0.below hb q0.lt, q1.below hb q1.lt⟩ (fun hHeld => ?_)
        clear hK K hb q0 q1
        try simp only [Act.put, List.setIfInBounds_toArray, List.set_cons_zero, List.set_cons_succ]
        refine wpAnyH_take (i := 8) (oi := ?_) (v := .string (S1 ++ S2)) ?_ (by kernel_rfl) ?_ ?_ ?_ ?_ hHeld ?_
        rotate_left
        · simp only [List.getElem?_toArray, List.getElem?_cons_zero, List.getElem?_cons_succ]; rfl
        · kernel_rfl
        · kernel_rfl
        · exact fun _ _ _ h => h
        · exact Or.inl ⟨by rfl, by intro w' hSw; go_simp⟩
        simp only [Act.put, List.setIfInBounds_toArray, List.set_cons_zero, List.set_cons_succ]
        refine wpAnyH_ready (rs := [13]) (by kernel_rfl) (by simp) ?_
        refine AllReadyH.cons (o := ?_) ?_ (fun K hK => ?_) ?_
        rotate_left
        · simp only [List.getElem?_toArray, List.getElem?_cons_zero, List.getElem?_cons_succ]; rfl
        · skip
          go_simp
          have B2x := Lib.hid (B1x.out.alloc B1x.out.size (.cells #[.int .u8 n] 5))
          obtain ⟨q0, q1⟩ := hHeld
          have hg : Blk (w1x.alloc (.cells #[.int .u8 n] 5)) (w1x.heap.size) 5 #[.int .u8 n] := by have h := Blk.new w1x 5 #[.int .u8 n]; simpa using h
          refine hK.out _ _ ⟨q0.alloc _, q1.alloc _⟩ (fun hHeld => ?_)
          obtain ⟨q0, q1⟩ := hHeld
          refine wpAnyH_grow (S' := fun w' => Blk w' w.heap.size 25 #[.int .i64 lvn, .int .i64 nxn, .slice A n c] ∧ Blk w' (w.heap.size + 1) 5 #[.int .u8 lvn] ∧ Blk w' (w1x.heap.size) 5 #[.int .u8 n]) (fun _ h => ⟨h.1, h.2.1⟩) _ _ _ _ ?_
          have hHeld : Blk (w1x.alloc (.cells #[.int .u8 n] 5)) w.heap.size 25 #[.int .i64 lvn, .int .i64 nxn, .slice A n c] ∧ Blk (w1x.alloc (.cells #[.int .u8 n] 5)) (w.heap.size + 1) 5 #[.int .u8 lvn] ∧ Blk (w1x.alloc (.cells #[.int .u8 n] 5)) (w1x.heap.size) 5 #[.int .u8 n] := ⟨q0, q1, hg⟩
          clear hK K hg q0 q1
          try simp only [Act.put, List.setIfInBounds_toArray, List.set_cons_zero, List.set_cons_succ]
          refine wpAnyH_take (i := 14) (oi := ?_) (v := .string S3) ?_ (by kernel_rfl) ?_ ?_ ?_ ?_ hHeld ?_
          rotate_left
          · simp only [List.getElem?_toArray, List.getElem?_cons_zero, List.getElem?_cons_succ]; rfl
          · kernel_rfl
          · kernel_rfl
          · exact fun _ _ _ h => h
          · exact Or.inl ⟨by rfl, by intro w' hSw; have hq := HC3.out w' _ (hSw.2.2); go_simp⟩
          simp only [Act.put, List.setIfInBounds_toArray, List.set_cons_zero, List.set_cons_succ]
          refine wpAnyH_take (i := 15) (oi := ?_) (v := .string (S1 ++ S2 ++ S3)) ?_ (by kernel_rfl) ?_ ?_ ?_ ?_ hHeld ?_
          rotate_left
          · simp only [List.getElem?_toArray, List.getElem?_cons_zero, List.getElem?_cons_succ]; rfl
          · kernel_rfl
          · kernel_rfl
          · exact fun _ _ _ h => h
          · exact Or.inl ⟨by rfl, by intro w' hSw; go_simp⟩
          simp only [Act.put, List.setIfInBounds_toArray, List.set_cons_zero, List.set_cons_succ]
          refine wpAnyH_take (i := 16) (oi := ?_) (v := .string (S1 ++ S2 ++ S3)) ?_ (by kernel_rfl) ?_ ?_ ?_ ?_ hHeld ?_
          rotate_left
          · simp only [List.getElem?_toArray, List.getElem?_cons_zero, List.getElem?_cons_succ]; rfl
          · kernel_rfl
          · kernel_rfl
          · exact fun _ _ _ h => h
          · exact Or.inl ⟨by rfl, by intro w' hSw; go_simp⟩
          simp only [Act.put, List.setIfInBounds_toArray, List.set_cons_zero, List.set_cons_succ]
          refine wpAnyH_done (by kernel_rfl) ?_ _
          go_wp2_with fail
          go_meet
          exact ⟨rfl, hHeld.1, B2x.out⟩
        exact AllReadyH.nil
      refine AllReadyH.cons (o := ?_) ?_ (fun K hK => ?_) ?_
      rotate_left
      · simp only [List.getElem?_toArray, List.getElem?_cons_zero, List.getElem?_cons_succ]; rfl
      · skip
        go_simp
        have B1x := Lib.hid (B0x.out.alloc B0x.out.size (.cells #[.int .u8 n] 5))
        obtain ⟨q0, q1⟩ := hHeld
        have hg : Blk (((w.alloc (.cells #[.int .i64 lvn, .int .i64 nxn, .slice A n c] 25)).drew.alloc (.cells #[.int .u8 lvn] 5)).alloc (.cells #[.int .u8 n] 5)) (w.heap.size + 1 + 1) 5 #[.int .u8 n] := by have h := Blk.new ((w.alloc (.cells #[.int .i64 lvn, .int .i64 nxn, .slice A n c] 25)).drew.alloc (.cells #[.int .u8 lvn] 5)) 5 #[.int .u8 n]; simpa using h
        refine hK.out _ _ ⟨q0.alloc _, q1.alloc _⟩ (fun hHeld => ?_)
        obtain ⟨q0, q1⟩ := hHeld
        refine wpAnyH_grow (S' := fun w' => Blk w' w.heap.size 25 #[.int .i64 lvn, .int .i64 nxn, .slice A n c] ∧ Blk w' (w.heap.size + 1) 5 #[.int .u8 lvn] ∧ Blk w' (w.heap.size + 1 + 1) 5 #[.int .u8 n]) (fun _ h => ⟨h.1, h.2.1⟩) _ _ _ _ ?_
        have hHeld : Blk (((w.alloc (.cells #[.int .i64 lvn, .int .i64 nxn, .slice A n c] 25)).drew.alloc (.cells #[.int .u8 lvn] 5)).alloc (.cells #[.int .u8 n] 5)) w.heap.size 25 #[.int .i64 lvn, .int .i64 nxn, .slice A n c] ∧ Blk (((w.alloc (.cells #[.int .i64 lvn, .int .i64 nxn, .slice A n c] 25)).drew.alloc (.cells #[.int .u8 lvn] 5)).alloc (.cells #[.int .u8 n] 5)) (w.heap.size + 1) 5 #[.int .u8 lvn] ∧ Blk (((w.alloc (.cells #[.int .i64 lvn, .int .i64 nxn, .slice A n c] 25)).drew.alloc (.cells #[.int .u8 lvn] 5)).alloc (.cells #[.int .u8 n] 5)) (w.heap.size + 1 + 1) 5 #[.int .u8 n] := ⟨q0, q1, hg⟩
        clear hK K hg q0 q1
        try simp only [Act.put, List.setIfInBounds_toArray, List.set_cons_zero, List.set_cons_succ]
        refine wpAnyH_take (i := 14) (oi := ?_) (v := .string S3) ?_ (by kernel_rfl) ?_ ?_ ?_ ?_ hHeld ?_
        rotate_left
        · simp only [List.getElem?_toArray, List.getElem?_cons_zero, List.getElem?_cons_succ]; rfl
        · kernel_rfl
        · kernel_rfl
        · exact fun _ _ _ h => h
        · exact Or.inl ⟨by rfl, by intro w' hSw; have hq := HC3.out w' _ (hSw.2.2); go_simp⟩
        simp only [Act.put, List.setIfInBounds_toArray, List.set_cons_zero, List.set_cons_succ]
        refine wpAnyH_ready (rs := [7]) (by kernel_rfl) (by simp) ?_
        refine AllReadyH.cons (o := ?_) ?_ (fun K hK => ?_) ?_
        rotate_left
        · simp only [List.getElem?_toArray, List.getElem?_cons_zero, List.getElem?_cons_succ]; rfl
        · skip
          go_simp
          refine (HFR.out _).mono ?_
          rintro e w2x ⟨rfl, hb⟩
          simp only []
          have B2x := Lib.hid (below_next B1x.out hb B1x.out.size)
          obtain ⟨q0, q1, q2⟩ := hHeld
          refine hK.out _ _ ⟨q0.below hb q0.lt, q1.below hb q1.lt, q2.below hb q2.lt⟩ (fun hHeld => ?_)
          clear hK K hb q0 q1 q2
          try simp only [Act.put, List.setIfInBounds_toArray, List.set_cons_zero, List.set_cons_succ]
          refine wpAnyH_take (i := 8) (oi := ?_) (v := .string (S1 ++ S2)) ?_ (by kernel_rfl) ?_ ?_ ?_ ?_ hHeld ?_
          rotate_left
          · simp only [List.getElem?_toArray, List.getElem?_cons_zero, List.getElem?_cons_succ]; rfl
          · kernel_rfl
          · kernel_rfl
          · exact fun _ _ _ h => h
          · exact Or.inl ⟨by rfl, by intro w' hSw; go_simp⟩
          simp only [Act.put, List.setIfInBounds_toArray, List.set_cons_zero, List.set_cons_succ]
          refine wpAnyH_take (i := 15) (oi := ?_) (v := .string (S1 ++ S2 ++ S3)) ?_ (by kernel_rfl) ?_ ?_ ?_ ?_ hHeld ?_
          rotate_left
          · simp only [List.getElem?_toArray, List.getElem?_cons_zero, List.getElem?_cons_succ]; rfl
          · kernel_rfl
          · kernel_rfl
          · exact fun _ _ _ h => h
          · exact Or.inl ⟨by rfl, by intro w' hSw; go_simp⟩
          simp only [Act.put, List.setIfInBounds_toArray, List.set_cons_zero, List.set_cons_succ]
          refine wpAnyH_take (i := 16) (oi := ?_) (v := .string (S1 ++ S2 ++ S3)) ?_ (by kernel_rfl) ?_ ?_ ?_ ?_ hHeld ?_
          rotate_left
          · simp only [List.getElem?_toArray, List.getElem?_cons_zero, List.getElem?_cons_succ]; rfl
          · kernel_rfl
          · kernel_rfl
          · exact fun _ _ _ h => h
          · exact Or.inl ⟨by rfl, by intro w' hSw; go_simp⟩
          simp only [Act.put, List.setIfInBounds_toArray, List.set_cons_zero, List.set_cons_succ]
          refine wpAnyH_done (by kernel_rfl) ?_ _
          go_wp2_with fail
          go_meet
          exact ⟨rfl, hHeld.1, B2x.out⟩
        exact AllReadyH.nil
      exact AllReadyH.nil
    refine AllReadyH.cons (o := ?_) ?_ (fun K hK => ?_) ?_
    rotate_left
    · simp only [List.getElem?_toArray, List.getElem?_cons_zero, List.getElem?_cons_succ]; rfl
    · skip
      go_simp
      refine (HFR.out _).mono ?_
      rintro e w0x ⟨rfl, hb⟩
      simp only []
      have B0x := Lib.hid (below_next B0.out hb B0.out.size)
      refine hK.out _ _ (Blk.below hHeld hb (Blk.lt hHeld)) (fun hHeld => ?_)
      clear hK K hb
      try simp only [Act.put, List.setIfInBounds_toArray, List.set_cons_zero, List.set_cons_succ]
      refine wpAnyH_ready (rs := [3, 13]) (by kernel_rfl) (by simp) ?_
      refine AllReadyH.cons (o := ?_) ?_ (fun K hK => ?_) ?_
      rotate_left
      · simp only [List.getElem?_toArray, List.getElem?_cons_zero, List.getElem?_cons_succ]; rfl
      · skip
        go_simp
        have B1x := Lib.hid (B0x.out.alloc B0x.out.size (.cells #[.int .u8 lvn] 5))
        have hg : Blk (w0x.alloc (.cells #[.int .u8 lvn] 5)) (w0x.heap.size) 5 #[.int .u8 lvn] := by have h := Blk.new w0x 5 #[.int .u8 lvn]; simpa using h
        refine hK.out _ _ (Blk.alloc hHeld _) (fun hHeld => ?_)
        refine wpAnyH_grow (S' := fun w' => Blk w' w.heap.size 25 #[.int .i64 lvn, .int .i64 nxn, .slice A n c] ∧ Blk w' (w0x.heap.size) 5 #[.int .u8 lvn]) (fun _ h => h.1) _ _ _ _ ?_
        replace hHeld : Blk (w0x.alloc (.cells #[.int .u8 lvn] 5)) w.heap.size 25 #[.int .i64 lvn, .int .i64 nxn, .slice A n c] ∧ Blk (w0x.alloc (.cells #[.int .u8 lvn] 5)) (w0x.heap.size) 5 #[.int .u8 lvn] := ⟨hHeld, hg⟩
        clear hK K hg
        try simp only [Act.put, List.setIfInBounds_toArray, List.set_cons_zero, List.set_cons_succ]
        refine wpAnyH_take (i := 4) (oi := ?_) (v := .string S1) ?_ (by kernel_rfl) ?_ ?_ ?_ ?_ hHeld ?_
        rotate_left
        · simp only [List.getElem?_toArray, List.getElem?_cons_zero, List.getElem?_cons_succ]; rfl
        · kernel_rfl
        · kernel_rfl
        · exact fun _ _ _ h => h
        · exact Or.inl ⟨by rfl, by intro w' hSw; have hq := HC1.out w' _ (hSw.2); go_simp⟩
        simp only [Act.put, List.setIfInBounds_toArray, List.set_cons_zero, List.set_cons_succ]
        refine wpAnyH_take (i := 8) (oi := ?_) (v := .string (S1 ++ S2)) ?_ (by kernel_rfl) ?_ ?_ ?_ ?_ hHeld ?_
        rotate_left
        · simp only [List.getElem?_toArray, List.getElem?_cons_zero, List.getElem?_cons_succ]; rfl
        · kernel_rfl
        · kernel_rfl
        · exact fun _ _ _ h => h
        · exact Or.inl ⟨by rfl, by intro w' hSw; go_simp⟩
        simp only [Act.put, List.setIfInBounds_toArray, List.set_cons_zero, List.set_cons_succ]
        refine wpAnyH_ready (rs := [13]) (by kernel_rfl) (by simp) ?_
        refine AllReadyH.cons (o := ?_) ?_ (fun K hK => ?_) ?_
        rotate_left
        · simp only [List.getElem?_toArray, List.getElem?_cons_zero, List.getElem?_cons_succ]; rfl
        · skip
          go_simp
          have B2x := Lib.hid (B1x.out.alloc B1x.out.size (.cells #[.int .u8 n] 5))
          obtain ⟨q0, q1⟩ := hHeld
          have hg : Blk ((w0x.alloc (.cells #[.int .u8 lvn] 5)).alloc (.cells #[.int .u8 n] 5)) (w0x.heap.size + 1) 5 #[.int .u8 n] := by have h := Blk.new (w0x.alloc (.cells #[.int .u8 lvn] 5)) 5 #[.int .u8 n]; simpa using h
          refine hK.out _ _ ⟨q0.alloc _, q1.alloc _⟩ (fun hHeld => ?_)
          obtain ⟨q0, q1⟩ := hHeld
          refine wpAnyH_grow (S' := fun w' => Blk w' w.heap.size 25 #[.int .i64 lvn, .int .i64 nxn, .slice A n c] ∧ Blk w' (w0x.heap.size) 5 #[.int .u8 lvn] ∧ Blk w' (w0x.heap.size + 1) 5 #[.int .u8 n]) (fun _ h => ⟨h.1, h.2.1⟩) _ _ _ _ ?_
          have hHeld : Blk ((w0x.alloc (.cells #[.int .u8 lvn] 5)).alloc (.cells #[.int .u8 n] 5)) w.heap.size 25 #[.int .i64 lvn, .int .i64 nxn, .slice A n c] ∧ Blk ((w0x.alloc (.cells #[.int .u8 lvn] 5)).alloc (.cells #[.int .u8 n] 5)) (w0x.heap.size) 5 #[.int .u8 lvn] ∧ Blk ((w0x.alloc (.cells #[.int .u8 lvn] 5)).alloc (.cells #[.int .u8 n] 5)) (w0x.heap.size + 1) 5 #[.int .u8 n] := ⟨q0, q1, hg⟩
          clear hK K hg q0 q1
          try simp only [Act.put, List.setIfInBounds_toArray, List.set_cons_zero, List.set_cons_succ]
          refine wpAnyH_take (i := 14) (oi := ?_) (v := .string S3) ?_ (by kernel_rfl) ?_ ?_ ?_ ?_ hHeld ?_
          rotate_left
          · simp only [List.getElem?_toArray, List.getElem?_cons_zero, List.getElem?_cons_succ]; rfl
          · kernel_rfl
          · kernel_rfl
          · exact fun _ _ _ h => h
          · exact Or.inl ⟨by rfl, by intro w' hSw; have hq := HC3.out w' _ (hSw.2.2); go_simp⟩
          simp only [Act.put, List.setIfInBounds_toArray, List.set_cons_zero, List.set_cons_succ]
          refine wpAnyH_take (i := 15) (oi := ?_) (v := .string (S1 ++ S2 ++ S3)) ?_ (by kernel_rfl) ?_ ?_ ?_ ?_ hHeld ?_
          rotate_left
          · simp only [List.getElem?_toArray, List.getElem?_cons_zero, List.getElem?_cons_succ]; rfl
          · kernel_rfl
          · kernel_rfl
          · exact fun _ _ _ h => h
          · exact Or.inl ⟨by rfl, by intro w' hSw; go_simp⟩
          simp only [Act.put, List.setIfInBounds_toArray, List.set_cons_zero, List.set_cons_succ]
          refine wpAnyH_take (i := 16) (oi := ?_) (v := .string (S1 ++ S2 ++ S3)) ?_ (by kernel_rfl) ?_ ?_ ?_ ?_ hHeld ?_
          rotate_left
          · simp only [List.getElem?_toArray, List.getElem?_cons_zero, List.getElem?_cons_succ]; rfl
          · kernel_rfl
          · kernel_rfl
          · exact fun _ _ _ h => h
          · exact Or.inl ⟨by rfl, by intro w' hSw; go_simp⟩
          simp only [Act.put, List.setIfInBounds_toArray, List.set_cons_zero, List.set_cons_succ]
          refine wpAnyH_done (by kernel_rfl) ?_ _
          go_wp2_with fail
          go_meet
          exact ⟨rfl, hHeld.1, B2x.out⟩
        exact AllReadyH.nil
      refine AllReadyH.cons (o := ?_) ?_ (fun K hK => ?_) ?_
      rotate_left
      · simp only [List.getElem?_toArray, List.getElem?_cons_zero, List.getElem?_cons_succ]; rfl
      · skip
        go_simp
        have B1x := Lib.hid (B0x.out.alloc B0x.out.size (.cells #[.int .u8 n] 5))
        have hg : Blk (w0x.alloc (.cells #[.int .u8 n] 5)) (w0x.heap.size) 5 #[.int .u8 n] := by have h := Blk.new w0x 5 #[.int .u8 n]; simpa using h
        refine hK.out _ _ (Blk.alloc hHeld _) (fun hHeld => ?_)
        refine wpAnyH_grow (S' := fun w' => Blk w' w.heap.size 25 #[.int .i64 lvn, .int .i64 nxn, .slice A n c] ∧ Blk w' (w0x.heap.size) 5 #[.int .u8 n]) (fun _ h => h.1) _ _ _ _ ?_
        replace hHeld : Blk (w0x.alloc (.cells #[.int .u8 n] 5)) w.heap.size 25 #[.int .i64 lvn, .int .i64 nxn, .slice A n c] ∧ Blk (w0x.alloc (.cells #[.int .u8 n] 5)) (w0x.heap.size) 5 #[.int .u8 n] := ⟨hHeld, hg⟩
        clear hK K hg
        try simp only [Act.put, List.setIfInBounds_toArray, List.set_cons_zero, List.set_cons_succ]
        refine wpAnyH_take (i := 14) (oi := ?_) (v := .string S3) ?_ (by kernel_rfl) ?_ ?_ ?_ ?_ hHeld ?_
        rotate_left
        · simp only [List.getElem?_toArray, List.getElem?_cons_zero, List.getElem?_cons_succ]; rfl
        · kernel_rfl
        · kernel_rfl
        · exact fun _ _ _ h => h
        · exact Or.inl ⟨by rfl, by intro w' hSw; have hq := HC3.out w' _ (hSw.2); go_simp⟩
        simp only [Act.put, List.setIfInBounds_toArray, List.set_cons_zero, List.set_cons_succ]
        refine wpAnyH_ready (rs := [3]) (by kernel_rfl) (by simp) ?_
        refine AllReadyH.cons (o := ?_) ?_ (fun K hK => ?_) ?_
        rotate_left
        · simp only [List.getElem?_toArray, List.getElem?_cons_zero, List.getElem?_cons_succ]; rfl
        · skip
          go_simp
          have B2x := Lib.hid (B1x.out.alloc B1x.out.size (.cells #[.int .u8 lvn] 5))
          obtain ⟨q0, q1⟩ := hHeld
          have hg : Blk ((w0x.alloc (.cells #[.int .u8 n] 5)).alloc (.cells #[.int .u8 lvn] 5)) (w0x.heap.size + 1) 5 #[.int .u8 lvn] := by have h := Blk.new (w0x.alloc (.cells #[.int .u8 n] 5)) 5 #[.int .u8 lvn]; simpa using h
          refine hK.out _ _ ⟨q0.alloc _, q1.alloc _⟩ (fun hHeld => ?_)
          obtain ⟨q0, q1⟩ := hHeld
          refine wpAnyH_grow (S' := fun w' => Blk w' w.heap.size 25 #[.int .i64 lvn, .int .i64 nxn, .slice A n c] ∧ Blk w' (w0x.heap.size) 5 #[.int .u8 n] ∧ Blk w' (w0x.heap.size + 1) 5 #[.int .u8 lvn]) (fun _ h => ⟨h.1, h.2.1⟩) _ _ _ _ ?_
          have hHeld : Blk ((w0x.alloc (.cells #[.int .u8 n] 5)).alloc (.cells #[.int .u8 lvn] 5)) w.heap.size 25 #[.int .i64 lvn, .int .i64 nxn, .slice A n c] ∧ Blk ((w0x.alloc (.cells #[.int .u8 n] 5)).alloc (.cells #[.int .u8 lvn] 5)) (w0x.heap.size) 5 #[.int .u8 n] ∧ Blk ((w0x.alloc (.cells #[.int .u8 n] 5)).alloc (.cells #[.int .u8 lvn] 5)) (w0x.heap.size + 1) 5 #[.int .u8 lvn] := ⟨q0, q1, hg⟩
          clear hK K hg q0 q1
          try simp only [Act.put, List.setIfInBounds_toArray, List.set_cons_zero, List.set_cons_succ]
          refine wpAnyH_take (i := 4) (oi := ?_) (v := .string S1) ?_ (by kernel_rfl) ?_ ?_ ?_ ?_ hHeld ?_
          rotate_left
          · simp only [List.getElem?_toArray, List.getElem?_cons_zero, List.getElem?_cons_succ]; rfl
          · kernel_rfl
          · kernel_rfl
          · exact fun _ _ _ h => h
          · exact Or.inl ⟨by rfl, by intro w' hSw; have hq := HC1.out w' _ (hSw.2.2); go_simp⟩
          simp only [Act.put, List.setIfInBounds_toArray, List.set_cons_zero, List.set_cons_succ]
          refine wpAnyH_take (i := 8) (oi := ?_) (v := .string (S1 ++ S2)) ?_ (by kernel_rfl) ?_ ?_ ?_ ?_ hHeld ?_
          rotate_left
          · simp only [List.getElem?_toArray, List.getElem?_cons_zero, List.getElem?_cons_succ]; rfl
          · kernel_rfl
          · kernel_rfl
          · exact fun _ _ _ h => h
          · exact Or.inl ⟨by rfl, by intro w' hSw; go_simp⟩
          simp only [Act.put, List.setIfInBounds_toArray, List.set_cons_zero, List.set_cons_succ]
          refine wpAnyH_take (i := 15) (oi := ?_) (v := .string (S1 ++ S2 ++ S3)) ?_ (by kernel_rfl) ?_ ?_ ?_ ?_ hHeld ?_
          rotate_left
          · simp only [List.getElem?_toArray, List.getElem?_cons_zero, List.getElem?_cons_succ]; rfl
          · kernel_rfl
          · kernel_rfl
          · exact fun _ _ _ h => h
          · exact Or.inl ⟨by rfl, by intro w' hSw; go_simp⟩
          simp only [Act.put, List.setIfInBounds_toArray, List.set_cons_zero, List.set_cons_succ]
          refine wpAnyH_take (i := 16) (oi := ?_) (v := .string (S1 ++ S2 ++ S3)) ?_ (by kernel_rfl) ?_ ?_ ?_ ?_ hHeld ?_
          rotate_left
          · simp only [List.getElem?_toArray, List.getElem?_cons_zero, List.getElem?_cons_succ]; rfl
          · kernel_rfl
          · kernel_rfl
          · exact fun _ _ _ h => h
          · exact Or.inl ⟨by rfl, by intro w' hSw; go_simp⟩
          simp only [Act.put, List.setIfInBounds_toArray, List.set_cons_zero, List.set_cons_succ]
          refine wpAnyH_done (by kernel_rfl) ?_ _
          go_wp2_with fail
          go_meet
          exact ⟨rfl, hHeld.1, B2x.out⟩
        exact AllReadyH.nil
      exact AllReadyH.nil
    refine AllReadyH.cons (o := ?_) ?_ (fun K hK => ?_) ?_
    rotate_left
    · simp only [List.getElem?_toArray, List.getElem?_cons_zero, List.getElem?_cons_succ]; rfl
    · skip
      go_simp
      have B0x := Lib.hid (B0.out.alloc B0.out.size (.cells #[.int .u8 n] 5))
      have hg : Blk ((w.alloc (.cells #[.int .i64 lvn, .int .i64 nxn, .slice A n c] 25)).drew.alloc (.cells #[.int .u8 n] 5)) (w.heap.size + 1) 5 #[.int .u8 n] := by have h := Blk.new (w.alloc (.cells #[.int .i64 lvn, .int .i64 nxn, .slice A n c] 25)).drew 5 #[.int .u8 n]; simpa using h
      refine hK.out _ _ (Blk.alloc hHeld _) (fun hHeld => ?_)
      refine wpAnyH_grow (S' := fun w' => Blk w' w.heap.size 25 #[.int .i64 lvn, .int .i64 nxn, .slice A n c] ∧ Blk w' (w.heap.size + 1) 5 #[.int .u8 n]) (fun _ h => h.1) _ _ _ _ ?_
      replace hHeld : Blk ((w.alloc (.cells #[.int .i64 lvn, .int .i64 nxn, .slice A n c] 25)).drew.alloc (.cells #[.int .u8 n] 5)) w.heap.size 25 #[.int .i64 lvn, .int .i64 nxn, .slice A n c] ∧ Blk ((w.alloc (.cells #[.int .i64 lvn, .int .i64 nxn, .slice A n c] 25)).drew.alloc (.cells #[.int .u8 n] 5)) (w.heap.size + 1) 5 #[.int .u8 n] := ⟨hHeld, hg⟩
      clear hK K hg
      try simp only [Act.put, List.setIfInBounds_toArray, List.set_cons_zero, List.set_cons_succ]
      refine wpAnyH_take (i := 14) (oi := ?_) (v := .string S3) ?_ (by kernel_rfl) ?_ ?_ ?_ ?_ hHeld ?_
      rotate_left
      · simp only [List.getElem?_toArray, List.getElem?_cons_zero, List.getElem?_cons_succ]; rfl
      · kernel_rfl
      · kernel_rfl
      · exact fun _ _ _ h => h
      · exact Or.inl ⟨by rfl, by intro w' hSw; have hq := HC3.out w' _ (hSw.2); go_simp⟩
      simp only [Act.put, List.setIfInBounds_toArray, List.set_cons_zero, List.set_cons_succ]
      refine wpAnyH_ready (rs := [3, 7]) (by kernel_rfl) (by simp) ?_
      refine AllReadyH.cons (o := ?_) ?_ (fun K hK => ?_) ?_
      rotate_left
      · simp only [List.getElem?_toArray, List.getElem?_cons_zero, List.getElem?_cons_succ]; rfl
      · skip
        go_simp
        have B1x := Lib.hid (B0x.out.alloc B0x.out.size (.cells #[.int .u8 lvn] 5))
        obtain ⟨q0, q1⟩ := hHeld
        have hg : Blk (((w.alloc (.cells #[.int .i64 lvn, .int .i64 nxn, .slice A n c] 25)).drew.alloc (.cells #[.int .u8 n] 5)).alloc (.cells #[.int .u8 lvn] 5)) (w.heap.size + 1 + 1) 5 #[.int .u8 lvn] := by have h := Blk.new ((w.alloc (.cells #[.int .i64 lvn, .int .i64 nxn, .slice A n c] 25)).drew.alloc (.cells #[.int .u8 n] 5)) 5 #[.int .u8 lvn]; simpa using h
        refine hK.out _ _ ⟨q0.alloc _, q1.alloc _⟩ (fun hHeld => ?_)
        obtain ⟨q0, q1⟩ := hHeld
        refine wpAnyH_grow (S' := fun w' => Blk w' w.heap.size 25 #[.int .i64 lvn, .int .i64 nxn, .slice A n c] ∧ Blk w' (w.heap.size + 1) 5 #[.int .u8 n] ∧ Blk w' (w.heap.size + 1 + 1) 5 #[.int .u8 lvn]) (fun _ h => ⟨h.1, h.2.1⟩) _ _ _ _ ?_
        have hHeld : Blk (((w.alloc (.cells #[.int .i64 lvn, .int .i64 nxn, .slice A n c] 25)).drew.alloc (.cells #[.int .u8 n] 5)).alloc (.cells #[.int .u8 lvn] 5)) w.heap.size 25 #[.int .i64 lvn, .int .i64 nxn, .slice A n c] ∧ Blk (((w.alloc (.cells #[.int .i64 lvn, .int .i64 nxn, .slice A n c] 25)).drew.alloc (.cells #[.int .u8 n] 5)).alloc (.cells #[.int .u8 lvn] 5)) (w.heap.size + 1) 5 #[.int .u8 n] ∧ Blk (((w.alloc (.cells #[.int .i64 lvn, .int .i64 nxn, .slice A n c] 25)).drew.alloc (.cells #[.int .u8 n] 5)).alloc (.cells #[.int .u8 lvn] 5)) (w.heap.size + 1 + 1) 5 #[.int .u8 lvn] := ⟨q0, q1, hg⟩
        clear hK K hg q0 q1
        try simp only [Act.put, List.setIfInBounds_toArray, List.set_cons_zero, List.set_cons_succ]
        refine wpAnyH_take (i := 4) (oi := ?_) (v := .string S1) ?_ (by kernel_rfl) ?_ ?_ ?_ ?_ hHeld ?_
        rotate_left
        · simp only [List.getElem?_toArray, List.getElem?_cons_zero, List.getElem?_cons_succ]; rfl
        · kernel_rfl
        · kernel_rfl
        · exact fun _ _ _ h => h
        · exact Or.inl ⟨by rfl, by intro w' hSw; have hq := HC1.out w' _ (hSw.2.2); go_simp⟩
        simp only [Act.put, List.setIfInBounds_toArray, List.set_cons_zero, List.set_cons_succ]
        refine wpAnyH_ready (rs := [7]) (by kernel_rfl) (by simp) ?_
        refine AllReadyH.cons (o := ?_) ?_ (fun K hK => ?_) ?_
        rotate_left
        · simp only [List.getElem?_toArray, List.getElem?_cons_zero, List.getElem?_cons_succ]; rfl
        · skip
          go_simp
          refine (HFR.out _).mono ?_
          rintro e w2x ⟨rfl, hb⟩
          simp only []
          have B2x := Lib.hid (below_next B1x.out hb B1x.out.size)
          obtain ⟨q0, q1, q2⟩ := hHeld
          refine hK.out _ _ ⟨q0.below hb q0.lt, q1.below hb q1.lt, q2.below hb q2.lt⟩ (fun hHeld => ?_)
          clear hK K hb q0 q1 q2
          try simp only [Act.put, List.setIfInBounds_toArray, List.set_cons_zero, List.set_cons_succ]
          refine wpAnyH_take (i := 8) (oi := ?_) (v := .string (S1 ++ S2)) ?_ (by kernel_rfl) ?_ ?_ ?_ ?_ hHeld ?_
          rotate_left
          · simp only [List.getElem?_toArray, List.getElem?_cons_zero, List.getElem?_cons_succ]; rfl
          · kernel_rfl
          · kernel_rfl
          · exact fun _ _ _ h => h
          · exact Or.inl ⟨by rfl, by intro w' hSw; go_simp⟩
          simp only [Act.put, List.setIfInBounds_toArray, List.set_cons_zero, List.set_cons_succ]
          refine wpAnyH_take (i := 15) (oi := ?_) (v := .string (S1 ++ S2 ++ S3)) ?_ (by kernel_rfl) ?_ ?_ ?_ ?_ hHeld ?_
          rotate_left
          · simp only [List.getElem?_toArray, List.getElem?_cons_zero, List.getElem?_cons_succ]; rfl
          · kernel_rfl
          · kernel_rfl
          · exact fun _ _ _ h => h
          · exact Or.inl ⟨by rfl, by intro w' hSw; go_simp⟩
          simp only [Act.put, List.setIfInBounds_toArray, List.set_cons_zero, List.set_cons_succ]
          refine wpAnyH_take (i := 16) (oi := ?_) (v := .string (S1 ++ S2 ++ S3)) ?_ (by kernel_rfl) ?_ ?_ ?_ ?_ hHeld ?_
          rotate_left
          · simp only [List.getElem?_toArray, List.getElem?_cons_zero, List.getElem?_cons_succ]; rfl
          · kernel_rfl
          · kernel_rfl
          · exact fun _ _ _ h => h
          · exact Or.inl ⟨by rfl, by intro w' hSw; go_simp⟩
          simp only [Act.put, List.setIfInBounds_toArray, List.set_cons_zero, List.set_cons_succ]
          refine wpAnyH_done (by kernel_rfl) ?_ _
          go_wp2_with fail
          go_meet
          exact ⟨rfl, hHeld.1, B2x.out⟩
        exact AllReadyH.nil
      refine AllReadyH.cons (o := ?_) ?_ (fun K hK => ?_) ?_
      rotate_left
      · simp only [List.getElem?_toArray, List.getElem?_cons_zero, List.getElem?_cons_succ]; rfl
      · skip
        go_simp
        refine (HFR.out _).mono ?_
        rintro e w1x ⟨rfl, hb⟩
        simp only []
        have B1x := Lib.hid (below_next B0x.out hb B0x.out.size)
        obtain ⟨q0, q1⟩ := hHeld
        refine hK.out _ _ ⟨q0.below hb q0.lt, q1.below hb q1.lt⟩ (fun hHeld => ?_)
        clear hK K hb q0 q1
        try simp only [Act.put, List.setIfInBounds_toArray, List.set_cons_zero, List.set_cons_succ]
        refine wpAnyH_ready (rs := [3]) (by kernel_rfl) (by simp) ?_
        refine AllReadyH.cons (o := ?_) ?_ (fun K hK => ?_) ?_
        rotate_left
        · simp only [List.getElem?_toArray, List.getElem?_cons_zero, List.getElem?_cons_succ]; rfl
        · skip
          go_simp
          have B2x := Lib.hid (B1x.out.alloc B1x.out.size (.cells #[.int .u8 lvn] 5))
          obtain ⟨q0, q1⟩ := hHeld
          have hg : Blk (w1x.alloc (.cells #[.int .u8 lvn] 5)) (w1x.heap.size) 5 #[.int .u8 lvn] := by have h := Blk.new w1x 5 #[.int .u8 lvn]; simpa using h
          refine hK.out _ _ ⟨q0.alloc _, q1.alloc _⟩ (fun hHeld => ?_)
          obtain ⟨q0, q1⟩ := hHeld
          refine wpAnyH_grow (S' := fun w' => Blk w' w.heap.size 25 #[.int .i64 lvn, .int .i64 nxn, .slice A n c] ∧ Blk w' (w.heap.size + 1) 5 #[.int .u8 n] ∧ Blk w' (w1x.heap.size) 5 #[.int .u8 lvn]) (fun _ h => ⟨h.1, h.2.1⟩) _ _ _ _ ?_
          have hHeld : Blk (w1x.alloc (.cells #[.int .u8 lvn] 5)) w.heap.size 25 #[.int .i64 lvn, .int .i64 nxn, .slice A n c] ∧ Blk (w1x.alloc (.cells #[.int .u8 lvn] 5)) (w.heap.size + 1) 5 #[.int .u8 n] ∧ Blk (w1x.alloc (.cells #[.int .u8 lvn] 5)) (w1x.heap.size) 5 #[.int .u8 lvn] := ⟨q0, q1, hg⟩
          clear hK K hg q0 q1
          try simp only [Act.put, List.setIfInBounds_toArray, List.set_cons_zero, List.set_cons_succ]
          refine wpAnyH_take (i := 4) (oi := ?_) (v := .string S1) ?_ (by kernel_rfl) ?_ ?_ ?_ ?_ hHeld ?_
          rotate_left
          · simp only [List.getElem?_toArray, List.getElem?_cons_zero, List.getElem?_cons_succ]; rfl
          · kernel_rfl
          · kernel_rfl
          · exact fun _ _ _ h => h
          · exact Or.inl ⟨by rfl, by intro w' hSw; have hq := HC1.out w' _ (hSw.2.2); go_simp⟩
          simp only [Act.put, List.setIfInBounds_toArray, List.set_cons_zero, List.set_cons_succ]
          refine wpAnyH_take (i := 8) (oi := ?_) (v := .string (S1 ++ S2)) ?_ (by kernel_rfl) ?_ ?_ ?_ ?_ hHeld ?_
          rotate_left
          · simp only [List.getElem?_toArray, List.getElem?_cons_zero, List.getElem?_cons_succ]; rfl
          · kernel_rfl
          · kernel_rfl
          · exact fun _ _ _ h => h
          · exact Or.inl ⟨by rfl, by intro w' hSw; go_simp⟩
          simp only [Act.put, List.setIfInBounds_toArray, List.set_cons_zero, List.set_cons_succ]
          refine wpAnyH_take (i := 15) (oi := ?_) (v := .string (S1 ++ S2 ++ S3)) ?_ (by kernel_rfl) ?_ ?_ ?_ ?_ hHeld ?_
          rotate_left
          · simp only [List.getElem?_toArray, List.getElem?_cons_zero, List.getElem?_cons_succ]; rfl
          · kernel_rfl
          · kernel_rfl
          · exact fun _ _ _ h => h
          · exact Or.inl ⟨by rfl, by intro w' hSw; go_simp⟩
          simp only [Act.put, List.setIfInBounds_toArray, List.set_cons_zero, List.set_cons_succ]
          refine wpAnyH_take (i := 16) (oi := ?_) (v := .string (S1 ++ S2 ++ S3)) ?_ (by kernel_rfl) ?_ ?_ ?_ ?_ hHeld ?_
          rotate_left
          · simp only [List.getElem?_toArray, List.getElem?_cons_zero, List.getElem?_cons_succ]; rfl
          · kernel_rfl
          · kernel_rfl
          · exact fun _ _ _ h => h
          · exact Or.inl ⟨by rfl, by intro w' hSw; go_simp⟩
          simp only [Act.put, List.setIfInBounds_toArray, List.set_cons_zero, List.set_cons_succ]
          refine wpAnyH_done (by kernel_rfl) ?_ _
          go_wp2_with fail
          go_meet
          exact ⟨rfl, hHeld.1, B2x.out⟩
        exact AllReadyH.nil
      exact AllReadyH.nil
    exact AllReadyH.nil
  case rest =>
    obtain ⟨rfl, hB, hbel⟩ := hcut
    have hst : S1 ++ S2 ++ S3 = bT lvn nxn es 0 := by
      apply ba_ext
      rw [ba_app, ba_app, HS1.out, HS2.out, HS3.out, bT, HL.out]
      simp [headL, entsL]
    rw [hst]
    have HB0 := Lib.hid hB
    have HBE := Lib.hid hbel
    clear hst hB hbel HC1 HC3 HFR HS1 HS2 HS3 hw8 hwn hsz1 hsz2
    go_wp2_with fail
    go_loopw [3, 4, 5] (fun s3 s4 s5 wr => ∃ j : Nat, j ≤ n ∧ s5 = .int .i64 j ∧ s3 = .string (bT lvn nxn es j) ∧ s4 = .string (befB es j) ∧ Blk wr w.heap.size 25 #[.int .i64 lvn, .int .i64 nxn, .slice A n c] ∧ Below w.heap.size w wr) (fun _ _ s5 _ => n - (intOf s5).toNat)
    case atStart => exact ⟨0, Nat.zero_le _, rfl, rfl, rfl, HB0.out, HBE.out⟩
    case round =>
      obtain ⟨j, hj, rfl, rfl, rfl, hB, hbel⟩ := hrel
      have q2 := hB.cell 2
      simp at q2
      have lt0 := hB.lt
      by_cases hlt : j < n
      · obtain ⟨b, o, x, p, rfl, hb, hg, hc, hc2⟩ := (Es.after HS.out hbel).cell hlt
        have he := entAt_get hg
        have hEB := HE.out j hlt
        obtain ⟨m0, hm0⟩ : ∃ m0, es.length = m0 + 1 := ⟨es.length - 1, by rw [HL.out]; omega⟩
        have hEB := (entB_iff he hm0).1 hEB
        have hbf : (befB es j).size ≤ 9223372036854775807 := by
          unfold befB
          split
          · decide
          · have := ((entB_iff (es := es) (j := j - 1) (x := (entAt es (j - 1)).1) (p := (entAt es (j - 1)).2) rfl hm0).1 (HE.out (j - 1) (by omega))).2.1
            omega
        obtain ⟨⟨hp1, hp2⟩, hx32, _, _⟩ := hEB
        obtain ⟨pn, rfl⟩ := Int.eq_ofNat_of_zero_le (show 0 ≤ p by omega)
        have hff : frE es j = frontB (befB es j) x := by unfold frE; rw [he]
        have hfx := (front_le (befB es j) x).2
        have hTz : (bT lvn nxn es j).size ≤ 100000 := by
          have h100 : ∀ e ∈ es, e.1.size ≤ 100 := by
            intro e hem
            obtain ⟨t, ht, rfl⟩ := List.getElem_of_mem hem
            have hg' : es[t]? = some (es[t]) := List.getElem?_eq_getElem ht
            have := ((entB_iff (es := es) (j := t) (x := (es[t]).1) (p := (es[t]).2) (entAt_get hg') hm0).1 (HE.out t (by have := HL.out; omega))).2.1
            omega
          have := entsL_len_le h100 j
          show (headL lvn nxn es.length ++ entsL es j).toArray.size ≤ 100000
          simp only [List.size_toArray, List.length_append, headL_len]
          omega
        have hent : entL es j = [UInt8.ofNat (frE es j), UInt8.ofNat (x.size - frE es j)] ++ (x.extract (frE es j) x.size).data.toList ++ fourL pn := by
          unfold entL; rw [he, ba_extract]
          simp only [Int.toNat_natCast]
          rw [List.take_of_length_le (by rw [List.length_drop, ba_len]; have := frE_le es j; rw [he] at this; omega)]
        have hTn : bT lvn nxn es (j + 1) = bT lvn nxn es j ++ ⟨#[UInt8.ofNat (frE es j), UInt8.ofNat (x.size - frE es j)]⟩ ++ x.extract (frE es j) x.size ++ ⟨(fourL pn).toArray⟩ := by
          apply ba_ext
          rw [ba_app, ba_app, ba_app]
          simp only [bT]
          rw [entsL_succ, hent]
          simp
        have hbn : befB es (j + 1) = x := by unfold befB; rw [if_neg (by omega), Nat.add_sub_cancel, he]
        rw [hff] at hTn
        obtain ⟨T, hT⟩ : ∃ T, bT lvn nxn es j = T := ⟨_, rfl⟩
        obtain ⟨bf, hbfe⟩ : ∃ bf, befB es j = bf := ⟨_, rfl⟩
        rw [hT] at hTn hTz
        rw [hbfe] at hTn hbf hfx
        rw [hT, hbfe]
        obtain ⟨f, hf⟩ : ∃ f, frontB bf x = f := ⟨_, rfl⟩
        rw [hf] at hTn hfx
        obtain ⟨S4, hS4⟩ : ∃ s : ByteArray, s = ⟨#[UInt8.ofNat f, UInt8.ofNat (x.size - f)]⟩ := ⟨_, rfl⟩
        obtain ⟨R, hR⟩ : ∃ s : ByteArray, s = x.extract f x.size := ⟨_, rfl⟩
        obtain ⟨S5, hS5⟩ : ∃ s : ByteArray, s = ⟨(fourL pn).toArray⟩ := ⟨_, rfl⟩
        obtain ⟨m, hm⟩ : ∃ m, m = x.size - f := ⟨_, rfl⟩
        rw [← hS4, ← hR, ← hS5] at hTn
        have hR4 : S4.size = 2 := by rw [hS4]; rfl
        have hR5 : S5.size = 4 := by rw [hS5]; rfl
        have hRR : R.size ≤ 32 := by rw [hR, ByteArray.size_extract]; omega
        have z1 : T.size + S4.size ≤ 9223372036854775807 := by omega
        have z2 : T.size + S4.size + R.size ≤ 9223372036854775807 := by omega
        have z3 : T.size + S4.size + R.size + S5.size ≤ 9223372036854775807 := by omega
        have HC4 : Hid (∀ (W : World) (g : Nat), Blk W g 5 #[.int .u8 f, .int .u8 m] → (convert 56 9 (.slice (some ⟨g, 0, none⟩) 2 2)).run Try.prog W = .ok (.string S4) W) := Lib.hid (fun W g h => by
          rw [hS4, ← hm]
          exact cv_blk (l := [UInt8.ofNat f, UInt8.ofNat m]) (by simpa [Lib.byteCells, u8_of (show f ≤ 255 by omega), u8_of (show m ≤ 255 by omega)] using h))
        have HFR : Hid (∀ W, Calls Try.prog 52 #[.int .i64 pn] W fun e w' => e = .returned (.string S5) ∧ Below W.heap.size W w') := Lib.hid (fun W => by rw [hS5]; exact rfour_any pn W (by omega))
        have hsub : (x.size : Int) - (f : Int) = (m : Int) := by omega
        have wf : IntKind.u8.wrap (f : Int) = (f : Int) := by rw [IntKind.wrap_u8]; omega
        have wm : IntKind.u8.wrap (m : Int) = (m : Int) := by rw [IntKind.wrap_u8]; omega
        have wi : IntKind.i64.wrap (m : Int) = (m : Int) := by rw [IntKind.wrap_i64]; omega
        have fi1 : (0 : Int) ≤ (f : Int) := by omega
        have fi2 : (f : Int) ≤ (x.size : Int) := by omega
        have HTN := Lib.hid hTn
        have HBN := Lib.hid hbn
        have HR := Lib.hid hR.symm
        have HF := Lib.hid hf
        have HBX := Lib.hid hB
        have HBL := Lib.hid hbel
        have hszr := hbel.size
        have n1 : w.heap.size ≠ wr.heap.size := by omega
        clear hg he hEB hm0 hTn hbn hR hf hB hbel hff hent hT hbfe hS4 hS5 hm hR4 hR5 hRR hp1
        go_wp2_with fail
        refine (rfront_any bf x _ hbf).mono ?_
        rintro e wq ⟨rfl, d, rfl⟩
        rw [HF.out]
        go_wp2_with fail
        have B0 : Hid (Below w.heap.size w ((wr.alloc (.cells #[.string x, .int .i64 pn] 34)).drewN d).drew) := Lib.hid (below_drewN (HBL.out.alloc hszr (.cells #[.string x, .int .i64 pn] 34)) d).drew
        have hst : Blk ((wr.alloc (.cells #[.string x, .int .i64 pn] 34)).drewN d).drew w.heap.size 25 #[.int .i64 lvn, .int .i64 nxn, .slice (some ⟨b, o, none⟩) n c] ∧ Blk ((wr.alloc (.cells #[.string x, .int .i64 pn] 34)).drewN d).drew wr.heap.size 34 #[.string x, .int .i64 pn] := ⟨((HBX.out.alloc (.cells #[.string x, .int .i64 pn] 34)).drewN d).drew, ((Blk.new wr 34 #[.string x, .int .i64 pn]).drewN d).drew⟩
        refine wp_region_held_drew (S := fun w' => Blk w' w.heap.size 25 #[.int .i64 lvn, .int .i64 nxn, .slice (some ⟨b, o, none⟩) n c] ∧ Blk w' wr.heap.size 34 #[.string x, .int .i64 pn]) (by kernel_rfl) hst (fun hHeld => ?_)
        clear hst
        refine wpAnyH_take (i := 0) (oi := ?_) (v := .string T) ?_ (by kernel_rfl) ?_ ?_ ?_ ?_ hHeld ?_
        rotate_left
        · simp only [List.getElem?_toArray, List.getElem?_cons_zero]; rfl
        · kernel_rfl
        · kernel_rfl
        · exact fun _ _ _ h => h
        · exact Or.inl ⟨by rfl, by intro w' hSw; go_simp⟩
        simp only [Act.put, List.setIfInBounds_toArray, List.set_cons_zero, List.set_cons_succ]
        refine wpAnyH_take (i := 1) (oi := ?_) (v := .int .i64 f) ?_ (by kernel_rfl) ?_ ?_ ?_ ?_ hHeld ?_
        rotate_left
        · simp only [List.getElem?_toArray, List.getElem?_cons_zero, List.getElem?_cons_succ]; rfl
        · kernel_rfl
        · kernel_rfl
        · exact fun _ _ _ h => h
        · exact Or.inl ⟨by rfl, by intro w' hSw; go_simp⟩
        simp only [Act.put, List.setIfInBounds_toArray, List.set_cons_zero, List.set_cons_succ]
        refine wpAnyH_take (i := 2) (oi := ?_) (v := .int .u8 f) ?_ (by kernel_rfl) ?_ ?_ ?_ ?_ hHeld ?_
        rotate_left
        · simp only [List.getElem?_toArray, List.getElem?_cons_zero, List.getElem?_cons_succ]; rfl
        · kernel_rfl
        · kernel_rfl
        · exact fun _ _ _ h => h
        · exact Or.inl ⟨by rfl, by intro w' hSw; go_simp⟩
        simp only [Act.put, List.setIfInBounds_toArray, List.set_cons_zero, List.set_cons_succ]
        refine wpAnyH_take (i := 3) (oi := ?_) (v := .pointer (some ⟨wr.heap.size, 0, none⟩)) ?_ (by kernel_rfl) ?_ ?_ ?_ ?_ hHeld ?_
        rotate_left
        · simp only [List.getElem?_toArray, List.getElem?_cons_zero, List.getElem?_cons_succ]; rfl
        · kernel_rfl
        · kernel_rfl
        · exact fun _ _ _ h => h
        · exact Or.inl ⟨by rfl, by intro w' hSw; go_simp⟩
        simp only [Act.put, List.setIfInBounds_toArray, List.set_cons_zero, List.set_cons_succ]
        refine wpAnyH_take (i := 4) (oi := ?_) (v := .string x) ?_ (by kernel_rfl) ?_ ?_ ?_ ?_ hHeld ?_
        rotate_left
        · simp only [List.getElem?_toArray, List.getElem?_cons_zero, List.getElem?_cons_succ]; rfl
        · kernel_rfl
        · kernel_rfl
        · exact fun _ _ _ h => h
        · exact Or.inl ⟨by rfl, by intro w' hSw; have hq := Blk.cell hSw.2 0; simp at hq; go_simp⟩
        simp only [Act.put, List.setIfInBounds_toArray, List.set_cons_zero, List.set_cons_succ]
        refine wpAnyH_take (i := 5) (oi := ?_) (v := .int .i64 x.size) ?_ (by kernel_rfl) ?_ ?_ ?_ ?_ hHeld ?_
        rotate_left
        · simp only [List.getElem?_toArray, List.getElem?_cons_zero, List.getElem?_cons_succ]; rfl
        · kernel_rfl
        · kernel_rfl
        · exact fun _ _ _ h => h
        · exact Or.inl ⟨by rfl, by intro w' hSw; go_simp⟩
        simp only [Act.put, List.setIfInBounds_toArray, List.set_cons_zero, List.set_cons_succ]
        refine wpAnyH_take (i := 6) (oi := ?_) (v := .int .i64 f) ?_ (by kernel_rfl) ?_ ?_ ?_ ?_ hHeld ?_
        rotate_left
        · simp only [List.getElem?_toArray, List.getElem?_cons_zero, List.getElem?_cons_succ]; rfl
        · kernel_rfl
        · kernel_rfl
        · exact fun _ _ _ h => h
        · exact Or.inl ⟨by rfl, by intro w' hSw; go_simp⟩
        simp only [Act.put, List.setIfInBounds_toArray, List.set_cons_zero, List.set_cons_succ]
        refine wpAnyH_take (i := 7) (oi := ?_) (v := .int .i64 m) ?_ (by kernel_rfl) ?_ ?_ ?_ ?_ hHeld ?_
        rotate_left
        · simp only [List.getElem?_toArray, List.getElem?_cons_zero, List.getElem?_cons_succ]; rfl
        · kernel_rfl
        · kernel_rfl
        · exact fun _ _ _ h => h
        · exact Or.inl ⟨by rfl, by intro w' hSw; go_simp⟩
        simp only [Act.put, List.setIfInBounds_toArray, List.set_cons_zero, List.set_cons_succ]
        refine wpAnyH_take (i := 8) (oi := ?_) (v := .int .u8 m) ?_ (by kernel_rfl) ?_ ?_ ?_ ?_ hHeld ?_
        rotate_left
        · simp only [List.getElem?_toArray, List.getElem?_cons_zero, List.getElem?_cons_succ]; rfl
        · kernel_rfl
        · kernel_rfl
        · exact fun _ _ _ h => h
        · exact Or.inl ⟨by rfl, by intro w' hSw; go_simp⟩
        simp only [Act.put, List.setIfInBounds_toArray, List.set_cons_zero, List.set_cons_succ]
        refine wpAnyH_take (i := 12) (oi := ?_) (v := .pointer (some ⟨wr.heap.size, 0, none⟩)) ?_ (by kernel_rfl) ?_ ?_ ?_ ?_ hHeld ?_
        rotate_left
        · simp only [List.getElem?_toArray, List.getElem?_cons_zero, List.getElem?_cons_succ]; rfl
        · kernel_rfl
        · kernel_rfl
        · exact fun _ _ _ h => h
        · exact Or.inl ⟨by rfl, by intro w' hSw; go_simp⟩
        simp only [Act.put, List.setIfInBounds_toArray, List.set_cons_zero, List.set_cons_succ]
        refine wpAnyH_take (i := 13) (oi := ?_) (v := .string x) ?_ (by kernel_rfl) ?_ ?_ ?_ ?_ hHeld ?_
        rotate_left
        · simp only [List.getElem?_toArray, List.getElem?_cons_zero, List.getElem?_cons_succ]; rfl
        · kernel_rfl
        · kernel_rfl
        · exact fun _ _ _ h => h
        · exact Or.inl ⟨by rfl, by intro w' hSw; have hq := Blk.cell hSw.2 0; simp at hq; go_simp⟩
        simp only [Act.put, List.setIfInBounds_toArray, List.set_cons_zero, List.set_cons_succ]
        refine wpAnyH_take (i := 14) (oi := ?_) (v := .int .i64 f) ?_ (by kernel_rfl) ?_ ?_ ?_ ?_ hHeld ?_
        rotate_left
        · simp only [List.getElem?_toArray, List.getElem?_cons_zero, List.getElem?_cons_succ]; rfl
        · kernel_rfl
        · kernel_rfl
        · exact fun _ _ _ h => h
        · exact Or.inl ⟨by rfl, by intro w' hSw; go_simp⟩
        simp only [Act.put, List.setIfInBounds_toArray, List.set_cons_zero, List.set_cons_succ]
        refine wpAnyH_take (i := 15) (oi := ?_) (v := .string R) ?_ (by kernel_rfl) ?_ ?_ ?_ ?_ hHeld ?_
        rotate_left
        · simp only [List.getElem?_toArray, List.getElem?_cons_zero, List.getElem?_cons_succ]; rfl
        · kernel_rfl
        · kernel_rfl
        · exact fun _ _ _ h => h
        · exact Or.inl ⟨by rfl, by intro w' hSw; have hq := HR.out; go_simp⟩
        simp only [Act.put, List.setIfInBounds_toArray, List.set_cons_zero, List.set_cons_succ]
        refine wpAnyH_take (i := 17) (oi := ?_) (v := .pointer (some ⟨wr.heap.size, 1, none⟩)) ?_ (by kernel_rfl) ?_ ?_ ?_ ?_ hHeld ?_
        rotate_left
        · simp only [List.getElem?_toArray, List.getElem?_cons_zero, List.getElem?_cons_succ]; rfl
        · kernel_rfl
        · kernel_rfl
        · exact fun _ _ _ h => h
        · exact Or.inl ⟨by rfl, by intro w' hSw; go_simp⟩
        simp only [Act.put, List.setIfInBounds_toArray, List.set_cons_zero, List.set_cons_succ]
        refine wpAnyH_take (i := 18) (oi := ?_) (v := .int .i64 pn) ?_ (by kernel_rfl) ?_ ?_ ?_ ?_ hHeld ?_
        rotate_left
        · simp only [List.getElem?_toArray, List.getElem?_cons_zero, List.getElem?_cons_succ]; rfl
        · kernel_rfl
        · kernel_rfl
        · exact fun _ _ _ h => h
        · exact Or.inl ⟨by rfl, by intro w' hSw; have hq := Blk.cell hSw.2 1; simp at hq; go_simp⟩
        simp only [Act.put, List.setIfInBounds_toArray, List.set_cons_zero, List.set_cons_succ]
        refine wpAnyH_ready (rs := [9, 19]) (by kernel_rfl) (by simp) ?_
        refine AllReadyH.cons (o := ?_) ?_ (fun K hK => ?_) ?_
        rotate_left
        · simp only [List.getElem?_toArray, List.getElem?_cons_zero, List.getElem?_cons_succ]; rfl
        · skip
          go_simp
          have B1 : Hid (Below w.heap.size w (((wr.alloc (.cells #[.string x, .int .i64 pn] 34)).drewN d).drew.alloc (.cells #[.int .u8 f, .int .u8 m] 5))) := Lib.hid (B0.out.alloc B0.out.size (.cells #[.int .u8 f, .int .u8 m] 5))
          obtain ⟨q0, q1⟩ := hHeld
          have hg : Blk (((wr.alloc (.cells #[.string x, .int .i64 pn] 34)).drewN d).drew.alloc (.cells #[.int .u8 f, .int .u8 m] 5)) (wr.heap.size + 1) 5 #[.int .u8 f, .int .u8 m] := by have h := Blk.new ((wr.alloc (.cells #[.string x, .int .i64 pn] 34)).drewN d).drew 5 #[.int .u8 f, .int .u8 m]; simpa using h
          have hst : Blk (((wr.alloc (.cells #[.string x, .int .i64 pn] 34)).drewN d).drew.alloc (.cells #[.int .u8 f, .int .u8 m] 5)) w.heap.size 25 #[.int .i64 lvn, .int .i64 nxn, .slice (some ⟨b, o, none⟩) n c] ∧ Blk (((wr.alloc (.cells #[.string x, .int .i64 pn] 34)).drewN d).drew.alloc (.cells #[.int .u8 f, .int .u8 m] 5)) wr.heap.size 34 #[.string x, .int .i64 pn] := ⟨q0.alloc _, q1.alloc _⟩
          refine hK.out _ _ hst (fun hHeld => ?_)
          refine wpAnyH_grow (S' := fun w' => Blk w' w.heap.size 25 #[.int .i64 lvn, .int .i64 nxn, .slice (some ⟨b, o, none⟩) n c] ∧ Blk w' wr.heap.size 34 #[.string x, .int .i64 pn] ∧ Blk w' (wr.heap.size + 1) 5 #[.int .u8 f, .int .u8 m]) (fun _ h => ⟨h.1, h.2.1⟩) _ _ _ _ ?_
          replace hHeld : Blk (((wr.alloc (.cells #[.string x, .int .i64 pn] 34)).drewN d).drew.alloc (.cells #[.int .u8 f, .int .u8 m] 5)) w.heap.size 25 #[.int .i64 lvn, .int .i64 nxn, .slice (some ⟨b, o, none⟩) n c] ∧ Blk (((wr.alloc (.cells #[.string x, .int .i64 pn] 34)).drewN d).drew.alloc (.cells #[.int .u8 f, .int .u8 m] 5)) wr.heap.size 34 #[.string x, .int .i64 pn] ∧ Blk (((wr.alloc (.cells #[.string x, .int .i64 pn] 34)).drewN d).drew.alloc (.cells #[.int .u8 f, .int .u8 m] 5)) (wr.heap.size + 1) 5 #[.int .u8 f, .int .u8 m] := ⟨hst.1, hst.2, hg⟩
          clear hK K hg hst q0 q1
          try simp only [Act.put, List.setIfInBounds_toArray, List.set_cons_zero, List.set_cons_succ]
          refine wpAnyH_take (i := 10) (oi := ?_) (v := .string S4) ?_ (by kernel_rfl) ?_ ?_ ?_ ?_ hHeld ?_
          rotate_left
          · simp only [List.getElem?_toArray, List.getElem?_cons_zero, List.getElem?_cons_succ]; rfl
          · kernel_rfl
          · kernel_rfl
          · exact fun _ _ _ h => h
          · exact Or.inl ⟨by rfl, by intro w' hSw; have hq := HC4.out w' _ hSw.2.2; go_simp⟩
          simp only [Act.put, List.setIfInBounds_toArray, List.set_cons_zero, List.set_cons_succ]
          refine wpAnyH_take (i := 11) (oi := ?_) (v := .string (T ++ S4)) ?_ (by kernel_rfl) ?_ ?_ ?_ ?_ hHeld ?_
          rotate_left
          · simp only [List.getElem?_toArray, List.getElem?_cons_zero, List.getElem?_cons_succ]; rfl
          · kernel_rfl
          · kernel_rfl
          · exact fun _ _ _ h => h
          · exact Or.inl ⟨by rfl, by intro w' hSw; go_simp⟩
          simp only [Act.put, List.setIfInBounds_toArray, List.set_cons_zero, List.set_cons_succ]
          refine wpAnyH_take (i := 16) (oi := ?_) (v := .string (T ++ S4 ++ R)) ?_ (by kernel_rfl) ?_ ?_ ?_ ?_ hHeld ?_
          rotate_left
          · simp only [List.getElem?_toArray, List.getElem?_cons_zero, List.getElem?_cons_succ]; rfl
          · kernel_rfl
          · kernel_rfl
          · exact fun _ _ _ h => h
          · exact Or.inl ⟨by rfl, by intro w' hSw; go_simp⟩
          simp only [Act.put, List.setIfInBounds_toArray, List.set_cons_zero, List.set_cons_succ]
          refine wpAnyH_ready (rs := [19]) (by kernel_rfl) (by simp) ?_
          refine AllReadyH.cons (o := ?_) ?_ (fun K hK => ?_) ?_
          rotate_left
          · simp only [List.getElem?_toArray, List.getElem?_cons_zero, List.getElem?_cons_succ]; rfl
          · skip
            go_simp
            refine (HFR.out _).mono ?_
            rintro e w9 ⟨rfl, hb9⟩
            simp only []
            have B2 := Lib.hid (below_next B1.out hb9 B1.out.size)
            obtain ⟨q0, q1, q2⟩ := hHeld
            refine hK.out _ _ ⟨q0.below hb9 q0.lt, q1.below hb9 q1.lt, q2.below hb9 q2.lt⟩ (fun hHeld => ?_)
            clear hK K hb9 q0 q1 q2
            try simp only [Act.put, List.setIfInBounds_toArray, List.set_cons_zero, List.set_cons_succ]
            refine wpAnyH_take (i := 20) (oi := ?_) (v := .string (T ++ S4 ++ R ++ S5)) ?_ (by kernel_rfl) ?_ ?_ ?_ ?_ hHeld ?_
            rotate_left
            · simp only [List.getElem?_toArray, List.getElem?_cons_zero, List.getElem?_cons_succ]; rfl
            · kernel_rfl
            · kernel_rfl
            · exact fun _ _ _ h => h
            · exact Or.inl ⟨by rfl, by intro w' hSw; go_simp⟩
            simp only [Act.put, List.setIfInBounds_toArray, List.set_cons_zero, List.set_cons_succ]
            refine wpAnyH_take (i := 21) (oi := ?_) (v := .string (T ++ S4 ++ R ++ S5)) ?_ (by kernel_rfl) ?_ ?_ ?_ ?_ hHeld ?_
            rotate_left
            · simp only [List.getElem?_toArray, List.getElem?_cons_zero, List.getElem?_cons_succ]; rfl
            · kernel_rfl
            · kernel_rfl
            · exact fun _ _ _ h => h
            · exact Or.inl ⟨by rfl, by intro w' hSw; go_simp⟩
            simp only [Act.put, List.setIfInBounds_toArray, List.set_cons_zero, List.set_cons_succ]
            refine wpAnyH_done (by kernel_rfl) ?_ _
            obtain ⟨e0, e1, e2⟩ := hHeld
            have k0 := e1.cell 0
            simp at k0
            have E0 := Lib.hid e0
            clear e0 e1 e2
            go_wp2_with fail
            go_roundw
            case rel => exact ⟨j + 1, by omega, by go_num, by rw [HTN.out], by rw [HBN.out], E0.out, B2.out⟩
            case measure => simp [intOf]; omega
          exact AllReadyH.nil
        refine AllReadyH.cons (o := ?_) ?_ (fun K hK => ?_) ?_
        rotate_left
        · simp only [List.getElem?_toArray, List.getElem?_cons_zero, List.getElem?_cons_succ]; rfl
        · skip
          go_simp
          refine (HFR.out _).mono ?_
          rintro e w9 ⟨rfl, hb9⟩
          simp only []
          have B1 := Lib.hid (below_next B0.out hb9 B0.out.size)
          obtain ⟨q0, q1⟩ := hHeld
          refine hK.out _ _ ⟨q0.below hb9 q0.lt, q1.below hb9 q1.lt⟩ (fun hHeld => ?_)
          clear hK K hb9 q0 q1
          try simp only [Act.put, List.setIfInBounds_toArray, List.set_cons_zero, List.set_cons_succ]
          refine wpAnyH_ready (rs := [9]) (by kernel_rfl) (by simp) ?_
          refine AllReadyH.cons (o := ?_) ?_ (fun K hK => ?_) ?_
          rotate_left
          · simp only [List.getElem?_toArray, List.getElem?_cons_zero, List.getElem?_cons_succ]; rfl
          · skip
            go_simp
            have B2 : Hid (Below w.heap.size w (w9.alloc (.cells #[.int .u8 f, .int .u8 m] 5))) := Lib.hid (B1.out.alloc B1.out.size (.cells #[.int .u8 f, .int .u8 m] 5))
            obtain ⟨q0, q1⟩ := hHeld
            have hg : Blk (w9.alloc (.cells #[.int .u8 f, .int .u8 m] 5)) (w9.heap.size) 5 #[.int .u8 f, .int .u8 m] := by have h := Blk.new w9 5 #[.int .u8 f, .int .u8 m]; simpa using h
            have hst : Blk (w9.alloc (.cells #[.int .u8 f, .int .u8 m] 5)) w.heap.size 25 #[.int .i64 lvn, .int .i64 nxn, .slice (some ⟨b, o, none⟩) n c] ∧ Blk (w9.alloc (.cells #[.int .u8 f, .int .u8 m] 5)) wr.heap.size 34 #[.string x, .int .i64 pn] := ⟨q0.alloc _, q1.alloc _⟩
            refine hK.out _ _ hst (fun hHeld => ?_)
            refine wpAnyH_grow (S' := fun w' => Blk w' w.heap.size 25 #[.int .i64 lvn, .int .i64 nxn, .slice (some ⟨b, o, none⟩) n c] ∧ Blk w' wr.heap.size 34 #[.string x, .int .i64 pn] ∧ Blk w' (w9.heap.size) 5 #[.int .u8 f, .int .u8 m]) (fun _ h => ⟨h.1, h.2.1⟩) _ _ _ _ ?_
            replace hHeld : Blk (w9.alloc (.cells #[.int .u8 f, .int .u8 m] 5)) w.heap.size 25 #[.int .i64 lvn, .int .i64 nxn, .slice (some ⟨b, o, none⟩) n c] ∧ Blk (w9.alloc (.cells #[.int .u8 f, .int .u8 m] 5)) wr.heap.size 34 #[.string x, .int .i64 pn] ∧ Blk (w9.alloc (.cells #[.int .u8 f, .int .u8 m] 5)) (w9.heap.size) 5 #[.int .u8 f, .int .u8 m] := ⟨hst.1, hst.2, hg⟩
            clear hK K hg hst q0 q1
            try simp only [Act.put, List.setIfInBounds_toArray, List.set_cons_zero, List.set_cons_succ]
            refine wpAnyH_take (i := 10) (oi := ?_) (v := .string S4) ?_ (by kernel_rfl) ?_ ?_ ?_ ?_ hHeld ?_
            rotate_left
            · simp only [List.getElem?_toArray, List.getElem?_cons_zero, List.getElem?_cons_succ]; rfl
            · kernel_rfl
            · kernel_rfl
            · exact fun _ _ _ h => h
            · exact Or.inl ⟨by rfl, by intro w' hSw; have hq := HC4.out w' _ hSw.2.2; go_simp⟩
            simp only [Act.put, List.setIfInBounds_toArray, List.set_cons_zero, List.set_cons_succ]
            refine wpAnyH_take (i := 11) (oi := ?_) (v := .string (T ++ S4)) ?_ (by kernel_rfl) ?_ ?_ ?_ ?_ hHeld ?_
            rotate_left
            · simp only [List.getElem?_toArray, List.getElem?_cons_zero, List.getElem?_cons_succ]; rfl
            · kernel_rfl
            · kernel_rfl
            · exact fun _ _ _ h => h
            · exact Or.inl ⟨by rfl, by intro w' hSw; go_simp⟩
            simp only [Act.put, List.setIfInBounds_toArray, List.set_cons_zero, List.set_cons_succ]
            refine wpAnyH_take (i := 16) (oi := ?_) (v := .string (T ++ S4 ++ R)) ?_ (by kernel_rfl) ?_ ?_ ?_ ?_ hHeld ?_
            rotate_left
            · simp only [List.getElem?_toArray, List.getElem?_cons_zero, List.getElem?_cons_succ]; rfl
            · kernel_rfl
            · kernel_rfl
            · exact fun _ _ _ h => h
            · exact Or.inl ⟨by rfl, by intro w' hSw; go_simp⟩
            simp only [Act.put, List.setIfInBounds_toArray, List.set_cons_zero, List.set_cons_succ]
            refine wpAnyH_take (i := 20) (oi := ?_) (v := .string (T ++ S4 ++ R ++ S5)) ?_ (by kernel_rfl) ?_ ?_ ?_ ?_ hHeld ?_
            rotate_left
            · simp only [List.getElem?_toArray, List.getElem?_cons_zero, List.getElem?_cons_succ]; rfl
            · kernel_rfl
            · kernel_rfl
            · exact fun _ _ _ h => h
            · exact Or.inl ⟨by rfl, by intro w' hSw; go_simp⟩
            simp only [Act.put, List.setIfInBounds_toArray, List.set_cons_zero, List.set_cons_succ]
            refine wpAnyH_take (i := 21) (oi := ?_) (v := .string (T ++ S4 ++ R ++ S5)) ?_ (by kernel_rfl) ?_ ?_ ?_ ?_ hHeld ?_
            rotate_left
            · simp only [List.getElem?_toArray, List.getElem?_cons_zero, List.getElem?_cons_succ]; rfl
            · kernel_rfl
            · kernel_rfl
            · exact fun _ _ _ h => h
            · exact Or.inl ⟨by rfl, by intro w' hSw; go_simp⟩
            simp only [Act.put, List.setIfInBounds_toArray, List.set_cons_zero, List.set_cons_succ]
            refine wpAnyH_done (by kernel_rfl) ?_ _
            obtain ⟨e0, e1, e2⟩ := hHeld
            have k0 := e1.cell 0
            simp at k0
            have E0 := Lib.hid e0
            clear e0 e1 e2
            go_wp2_with fail
            go_roundw
            case rel => exact ⟨j + 1, by omega, by go_num, by rw [HTN.out], by rw [HBN.out], E0.out, B2.out⟩
            case measure => simp [intOf]; omega
          exact AllReadyH.nil
        exact AllReadyH.nil
      · obtain rfl : j = n := by omega
        have HBL := Lib.hid hbel
        clear hbel hB
        go_wp2
        go_ret
        exact ⟨by simp only [bT, formL, HL.out]; rfl, HBL.out⟩
end Go.Proofs.Ytjfinkfikebjbaa
