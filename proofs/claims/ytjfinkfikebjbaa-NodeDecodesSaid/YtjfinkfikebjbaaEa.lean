/- Size, Valid and Encode of the reference. -/
import Derived.Test.YtjfinkfikebjbaaN
import Derived.Test.YtjfinkfikebjbaaC
namespace Go.Proofs.Ytjfinkfikebjbaa
open Go.RowKit
attribute [local go_sem ↓] Go.wp_at_zero Go.wp_at_succ

theorem isnode_is0 {lv nx : Int} {A : Option Addr} {n c : Nat} {es : List Ent} {w : World} {q : Bool} (hq : plainB lv nx es = q) (hs : Es w w.heap.size A n c es) (hn : n ≤ 9223372036854775807) :
    Calls Try.prog 14 #[.agg #[.int .i64 lv, .int .i64 nx, .slice A n c]] w fun e w' => e = .returned (.bool q) ∧ Below w.heap.size w w' := by
  rw [← hq]; exact isnode_any lv nx A n c es w hs hn
theorem rform_is {lv nx : Int} {A : Option Addr} {n c : Nat} {es : List Ent} {w : World} {s : ByteArray} (hs : Es w w.heap.size A n c es) (hp : plainB lv nx es = true) (h : s = ⟨(formL lv nx es).toArray⟩) :
    Calls Try.prog 41 #[.agg #[.int .i64 lv, .int .i64 nx, .slice A n c]] w fun e w' => e = .returned (.string s) ∧ Below w.heap.size w w' := by
  rw [h]; exact rform_any lv nx A n c es w hs hp

set_option maxHeartbeats 1000000 in
theorem rsize_any (lv nx : Int) (A : Option Addr) (n c : Nat) (es : List Ent) (w : World) (hs : Es w w.heap.size A n c es) (hn : n ≤ 9223372036854775807) :
    Calls Try.prog 20 #[.agg #[.int .i64 lv, .int .i64 nx, .slice A n c]] w fun e w' => e = .returned (.int .i64 (sizeI lv nx es)) ∧ Below w.heap.size w w' := by
  have HS := Lib.hid hs
  clear hs
  cases hp : plainB lv nx es with
  | false =>
    have HI : Hid (sizeI lv nx es = 0) := Lib.hid (by unfold sizeI; rw [hp]; rfl)
    have HP := Lib.hid hp
    clear hp
    go_enter Try.func20, Try.ntmps20
    go_wp2_with fail
    refine (isnode_is0 HP.out (es_alloc HS.out _) hn).mono ?_
    rintro e w1 ⟨rfl, hb1⟩
    have HB := Lib.hid (bx_from hb1)
    clear hb1
    go_wp2
    go_ret
    exact ⟨by rw [HI.out]; rfl, bx_below HB.out⟩
  | true =>
    obtain ⟨s, hs⟩ : ∃ s : ByteArray, s = ⟨(formL lv nx es).toArray⟩ := ⟨_, rfl⟩
    have HI : Hid (sizeI lv nx es = s.size) := Lib.hid (by unfold sizeI; rw [hp, hs]; rfl)
    have HP := Lib.hid hp
    have HSS := Lib.hid hs
    clear hp hs
    go_enter Try.func20, Try.ntmps20
    go_wp2_with fail
    refine (isnode_is0 HP.out (es_alloc HS.out _) hn).mono ?_
    rintro e w1 ⟨rfl, hb1⟩
    have hb := bx_from hb1
    have q0 := bx_cell hb 0
    have q1 := bx_cell hb 1
    have q2 := bx_cell hb 2
    have HB := Lib.hid hb
    clear hb1 hb
    go_wp2_with fail
    refine (rform_is (HS.out.after (bx_below HB.out)) HP.out HSS.out).mono ?_
    rintro e w2 ⟨rfl, hb2⟩
    have HB2 := Lib.hid (below_next HB.out hb2 (bx_size HB.out))
    clear hb2
    go_wp2
    go_ret
    exact ⟨by rw [HI.out]; rfl, bx_below HB2.out⟩

theorem rsize_is {lv nx : Int} {A : Option Addr} {n c : Nat} {es : List Ent} {w : World} {z : Int} (hz : sizeI lv nx es = z) (hs : Es w w.heap.size A n c es) (hn : n ≤ 9223372036854775807) :
    Calls Try.prog 20 #[.agg #[.int .i64 lv, .int .i64 nx, .slice A n c]] w fun e w' => e = .returned (.int .i64 z) ∧ Below w.heap.size w w' := by
  rw [← hz]; exact rsize_any lv nx A n c es w hs hn

set_option maxHeartbeats 1000000 in
theorem rvalid_any (z lv nx : Int) (A : Option Addr) (n c : Nat) (es : List Ent) (w : World) (hs : Es w w.heap.size A n c es) (hn : n ≤ 9223372036854775807) :
    Calls Try.prog 22 #[.int .i64 z, .agg #[.int .i64 lv, .int .i64 nx, .slice A n c]] w fun e w' => e = .returned (.bool (okE z lv nx es)) ∧ Below w.heap.size w w' := by
  have HS := Lib.hid hs
  clear hs
  cases hsz : szB z with
  | false =>
    have HO : Hid (okE z lv nx es = false) := Lib.hid (by unfold okE; rw [hsz]; rfl)
    have HSZ := Lib.hid hsz
    clear hsz
    go_enter Try.func22, Try.ntmps22
    go_wp2_with fail
    refine (risSize_any z _).mono ?_
    rintro e w' ⟨rfl, rfl⟩
    rw [HSZ.out]
    go_wp2
    go_ret
    exact ⟨by rw [HO.out]; rfl, (Below.refl _ _).alloc (Nat.le_refl _) _⟩
  | true =>
    have HSZ := Lib.hid hsz
    cases hp : plainB lv nx es with
    | false =>
      have HO : Hid (okE z lv nx es = false) := Lib.hid (by unfold okE; rw [hsz, hp]; rfl)
      have HP := Lib.hid hp
      clear hp hsz
      go_enter Try.func22, Try.ntmps22
      go_wp2_with fail
      refine (risSize_any z _).mono ?_
      rintro e w' ⟨rfl, rfl⟩
      rw [HSZ.out]
      go_wp2_with fail
      refine (isnode_is0 HP.out (es_alloc HS.out _) hn).mono ?_
      rintro e w1 ⟨rfl, hb1⟩
      have HB := Lib.hid (bx_from hb1)
      clear hb1
      go_wp2
      go_ret
      exact ⟨by rw [HO.out]; rfl, bx_below HB.out⟩
    | true =>
      obtain ⟨F, hF⟩ : ∃ F, sizeI lv nx es = F := ⟨_, rfl⟩
      have HO : Hid (okE z lv nx es = decide (F ≤ z)) := Lib.hid (by unfold okE; rw [hsz, hp, ← hF]; unfold sizeI; rw [hp]; rfl)
      have HP := Lib.hid hp
      have HF := Lib.hid hF
      clear hp hsz hF
      go_enter Try.func22, Try.ntmps22
      go_wp2_with fail
      refine (risSize_any z _).mono ?_
      rintro e w' ⟨rfl, rfl⟩
      rw [HSZ.out]
      go_wp2_with fail
      refine (isnode_is0 HP.out (es_alloc HS.out _) hn).mono ?_
      rintro e w1 ⟨rfl, hb1⟩
      have hb := bx_from hb1
      have q0 := bx_cell hb 0
      have q1 := bx_cell hb 1
      have q2 := bx_cell hb 2
      have HB := Lib.hid hb
      clear hb1 hb
      go_wp2_with fail
      refine (rsize_is HF.out (HS.out.after (bx_below HB.out)) hn).mono ?_
      rintro e w2 ⟨rfl, hb2⟩
      have HB2 := Lib.hid (below_next HB.out hb2 (bx_size HB.out))
      clear hb2
      go_wp2
      go_ret
      exact ⟨by rw [HO.out]; rfl, bx_below HB2.out⟩

set_option maxHeartbeats 2000000 in
theorem rencode_any (z lv nx : Int) (A : Option Addr) (n c : Nat) (es : List Ent) (w : World) (hs : Es w w.heap.size A n c es) (hn : n ≤ 9223372036854775807) :
    Calls Try.prog 18 #[.int .i64 z, .agg #[.int .i64 lv, .int .i64 nx, .slice A n c]] w (EncR z lv nx es w) := by
  obtain ⟨i0, hi0, hz0, hz1, hz2⟩ := info_parts Try.info5
  have HS := Lib.hid hs
  clear hs
  cases hsz : szB z with
  | false =>
    have H1 : Hid (encS z lv nx es = ⟨#[]⟩) := Lib.hid (by unfold encS okE; rw [hsz]; rfl)
    have H2 : Hid (encE z lv nx es = 1) := Lib.hid (by unfold encE; rw [hsz]; rfl)
    have HSZ := Lib.hid hsz
    clear hsz
    go_enter Try.func18, Try.ntmps18
    go_wp2_with fail
    refine (risSize_any z _).mono ?_
    rintro e w' ⟨rfl, rfl⟩
    rw [HSZ.out]
    go_wp2_with fail
    go_ret2
    exact ⟨by rw [H1.out, H2.out]; rfl, (Below.refl _ _).alloc (Nat.le_refl _) _⟩
  | true =>
    have HSZ := Lib.hid hsz
    cases hp : plainB lv nx es with
    | false =>
      have H1 : Hid (encS z lv nx es = ⟨#[]⟩) := Lib.hid (by unfold encS okE; rw [hsz, hp]; rfl)
      have H2 : Hid (encE z lv nx es = 1) := Lib.hid (by unfold encE; rw [hsz, hp]; rfl)
      have HP := Lib.hid hp
      clear hp hsz
      go_enter Try.func18, Try.ntmps18
      go_wp2_with fail
      refine (risSize_any z _).mono ?_
      rintro e w' ⟨rfl, rfl⟩
      rw [HSZ.out]
      go_wp2_with fail
      refine (isnode_is0 HP.out (es_alloc HS.out _) hn).mono ?_
      rintro e w1 ⟨rfl, hb1⟩
      have HB := Lib.hid (bx_from hb1)
      clear hb1
      go_wp2_with fail
      go_ret2
      exact ⟨by rw [H1.out, H2.out]; rfl, bx_below HB.out⟩
    | true =>
      obtain ⟨zn, rfl⟩ : ∃ k : Nat, z = (k : Int) := ⟨z.toNat, by unfold szB at hsz; simp at hsz; omega⟩
      have hz512 : zn ≤ 512 := by unfold szB at hsz; simp at hsz; omega
      obtain ⟨s, hs⟩ : ∃ s : ByteArray, s = ⟨(formL lv nx es).toArray⟩ := ⟨_, rfl⟩
      have hfl : (formL lv nx es).length = s.size := by rw [hs]; rfl
      have HP := Lib.hid hp
      have HSS := Lib.hid hs
      by_cases hle : s.size ≤ zn
      rotate_left
      · have H1 : Hid (encS zn lv nx es = ⟨#[]⟩) := Lib.hid (by unfold encS okE; rw [hsz, hp, hfl]; simp; omega)
        have H2 : Hid (encE zn lv nx es = 8) := Lib.hid (by unfold encE; rw [hsz, hp, hfl]; simp; omega)
        clear hp hs hsz hfl
        have hd : decide ((zn : Int) < (s.size : Int)) = true := by simp; omega
        go_enter Try.func18, Try.ntmps18
        go_wp2_with fail
        refine (risSize_any zn _).mono ?_
        rintro e w' ⟨rfl, rfl⟩
        rw [HSZ.out]
        go_wp2_with fail
        refine (isnode_is0 HP.out (es_alloc HS.out _) hn).mono ?_
        rintro e w1 ⟨rfl, hb1⟩
        have hb := bx_from hb1
        have q0 := bx_cell hb 0
        have q1 := bx_cell hb 1
        have q2 := bx_cell hb 2
        have HB := Lib.hid hb
        clear hb1 hb
        go_wp2_with fail
        refine (rform_is (HS.out.after (bx_below HB.out)) HP.out HSS.out).mono ?_
        rintro e w2 ⟨rfl, hb2⟩
        have HB2 := Lib.hid (below_next HB.out hb2 (bx_size HB.out))
        clear hb2
        go_wp2_with fail
        go_ret2
        exact ⟨by rw [H1.out, H2.out]; rfl, bx_below HB2.out⟩
      · have H1 : Hid (encS zn lv nx es = ⟨(encL zn lv nx es).toArray⟩) := Lib.hid (by unfold encS okE; rw [hsz, hp, hfl]; simp; omega)
        have H2 : Hid (encE zn lv nx es = 0) := Lib.hid (by unfold encE; rw [hsz, hp, hfl]; simp; omega)
        obtain ⟨k, hk⟩ : ∃ k, k = zn - s.size := ⟨_, rfl⟩
        obtain ⟨rs, hrs⟩ : ∃ rs : ByteArray, rs = ⟨(List.replicate k 0).toArray⟩ := ⟨_, rfl⟩
        have HEN : Hid ((⟨(encL zn lv nx es).toArray⟩ : ByteArray) = s ++ rs) := Lib.hid (by
          apply ba_ext
          rw [ba_app, hs, hrs]
          simp only [encL, hfl, Int.toNat_natCast, ← hk])
        have hrz : rs.size = k := by rw [hrs]; show (List.replicate k 0).toArray.size = k; simp
        have hsub : (zn : Int) - (s.size : Int) = (k : Int) := by omega
        have hwk : IntKind.i64.wrap (k : Int) = (k : Int) := by rw [IntKind.wrap_i64]; omega
        have hsum : s.size + rs.size ≤ 9223372036854775807 := by omega
        have hkz : k ≤ 512 := by omega
        have HRS := Lib.hid hrs
        clear hp hs hsz hfl hk hrs hrz
        have hd : decide ((zn : Int) < (s.size : Int)) = false := by simp; omega
        go_enter Try.func18, Try.ntmps18
        go_wp2_with fail
        refine (risSize_any zn _).mono ?_
        rintro e w' ⟨rfl, rfl⟩
        rw [HSZ.out]
        go_wp2_with fail
        refine (isnode_is0 HP.out (es_alloc HS.out _) hn).mono ?_
        rintro e w1 ⟨rfl, hb1⟩
        have hb := bx_from hb1
        have q0 := bx_cell hb 0
        have q1 := bx_cell hb 1
        have q2 := bx_cell hb 2
        have HB := Lib.hid hb
        clear hb1 hb
        go_wp2_with fail
        refine (rform_is (HS.out.after (bx_below HB.out)) HP.out HSS.out).mono ?_
        rintro e w2 ⟨rfl, hb2⟩
        have HB2 := Lib.hid (below_next HB.out hb2 (bx_size HB.out))
        clear hb2
        go_wp2_with (at_make; refine wpList_make_full _ rfl _ _ 56 rfl w2.heap.size 5 i0 (.int .u8 0) 1 Try.underlying56 hi0 hz0 hz1 _ _ _ _ k rfl rfl rfl rfl ?c1 ?c2 (Nat.le_refl _) ?_)
        case c1 => rw [hz2]; omega
        case c2 => unfold maxLen; omega
        intro w3 hown3 hg3
        have hcv : (convert 56 9 (.slice (some ⟨w2.heap.size, 0, none⟩) k k)).run Try.prog w3 = .ok (.string rs) w3 := by
          rw [HRS.out]
          refine cv_own (base := w2.heap.size) (by simp) ?_
          rw [toList_madeCells_one] at hown3
          simpa [Lib.byteCells] using hown3
        have HB3 : Hid (Below w.heap.size w w3) := Lib.hid ((bx_below HB2.out).grown hg3 (bx_below HB2.out).size (by simp))
        clear hown3 hg3
        go_wp2_with fail
        go_ret2
        exact ⟨by rw [H1.out, H2.out, HEN.out]; rfl, HB3.out⟩
end Go.Proofs.Ytjfinkfikebjbaa
