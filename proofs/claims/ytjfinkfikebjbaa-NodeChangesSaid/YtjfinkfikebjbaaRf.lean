/- NodeChanges: the walk. -/
import Derived.Test.YtjfinkfikebjbaaRe
import Derived.Test.YtjfinkfikebjbaaP
namespace Go.Proofs.Ytjfinkfikebjbaa
open Go.RowKit
attribute [local go_sem ↓] Go.wp_at_zero Go.wp_at_succ

/-- a node in its box -/
def Nd (W : World) (g : Nat) (lv nx : Int) (A : Option Addr) (n c : Nat) (es : List Ent) : Prop := Blk W g 25 #[.int .i64 lv, .int .i64 nx, .slice A n c] ∧ Es W W.heap.size A n c es
section
variable {W W' : World} {g : Nat} {lv nx : Int} {A : Option Addr} {n c : Nat} {es : List Ent}
theorem Nd.next (h : Nd W g lv nx A n c es) (hb : Below W.heap.size W W') : Nd W' g lv nx A n c es := ⟨h.1.below hb h.1.lt, h.2.after hb⟩
theorem Nd.drew (h : Nd W g lv nx A n c es) : Nd W.drew g lv nx A n c es := h
theorem Nd.alloc (h : Nd W g lv nx A n c es) (o : Obj) : Nd (W.alloc o) g lv nx A n c es := h.next ((Below.refl _ _).alloc (Nat.le_refl _) o)
theorem Nd.cells (h : Nd W g lv nx A n c es) : W.cell? ⟨g, 0, none⟩ = some (.int .i64 lv) ∧ W.cell? ⟨g, 1, none⟩ = some (.int .i64 nx) ∧ W.cell? ⟨g, 2, none⟩ = some (.slice A n c) := ⟨h.1.cell 0, h.1.cell 1, h.1.cell 2⟩
theorem Nd.lt (h : Nd W g lv nx A n c es) : g < W.heap.size := h.1.lt
theorem nd_new (hs : Es W W.heap.size A n c es) (lv nx : Int) : Nd (W.alloc (.cells #[.int .i64 lv, .int .i64 nx, .slice A n c] 25)) W.heap.size lv nx A n c es := ⟨Blk.new _ _ _, hs.after ((Below.refl _ _).alloc (Nat.le_refl _) _)⟩
end

set_option maxRecDepth 100000 in
set_option maxHeartbeats 4000000 in
theorem changes_any (lv nx : Int) (A : Option Addr) (n c : Nat) (es : List Ent) (k : ByteArray) (i p : Int) (w : World) (hs : Es w w.heap.size A n c es) (hn : n ≤ 9223372036854775807) :
    Calls Try.prog 9 #[.agg #[.int .i64 lv, .int .i64 nx, .slice A n c], .string k, .int .i64 i, .int .i64 p] w fun e w' => e = .returned (.bool true) ∧ Below w.heap.size w w' := by
  have HS := Lib.hid hs
  have HL := Lib.hid hs.len
  clear hs
  have HN := Lib.hid hn
  clear hn
  go_enter Try.func9, Try.ntmps9
  go_wp2_with fail
  have b0 := (Below.refl w.heap.size w).alloc (Nat.le_refl _) (.cells #[.int .i64 lv, .int .i64 nx, .slice A n c] 25)
  have n0 := nd_new HS.out lv nx
  refine (awake_any _).mono ?_
  rintro e w1 ⟨rfl, hb1⟩
  have N1 := Lib.hid (n0.next hb1)
  have B1 := Lib.hid (below_next b0 hb1 b0.size)
  clear hb1 n0 b0
  obtain ⟨a0, a1, a2⟩ := N1.out.cells
  go_wp2_with fail
  refine (few_any lv nx A n c es _ N1.out.2 HN.out).mono ?_
  rintro e w2 ⟨rfl, hb2⟩
  have N2 := Lib.hid (N1.out.next hb2)
  have B2 := Lib.hid (below_next B1.out hb2 B1.out.size)
  clear hb2 a0 a1 a2
  obtain ⟨a0, a1, a2⟩ := N2.out.cells
  cases hf : fewB es with
  | false =>
    clear hf
    go_wp2
    go_ret
    exact ⟨rfl, B2.out⟩
  | true =>
  clear hf
  by_cases hk : 100 < k.size
  · go_wp2
    go_ret
    exact ⟨rfl, B2.out⟩
  go_wp2_with fail
  refine (insert_res lv nx A n c es i k p _ N2.out.2 HN.out).mono ?_
  rintro e w3 ⟨A1, c1, rfl, he3, hb3⟩
  have RI := Lib.hid (rinsert_res lv nx A n c es i k p)
  have hsm := insEs_small (lv := lv) (nx := nx) (es := es) (i := i) (x := k) (p := p)
  generalize (if insErr lv nx es i k p = 0 then lv else 0) = la at *
  generalize (if insErr lv nx es i k p = 0 then nx else 0) = na at *
  generalize insErr lv nx es i k p = er at *
  generalize insEs lv nx es i k p = es1 at *
  generalize hm1 : es1.length = m1 at *
  have HM1 := Lib.hid hm1
  clear hm1
  have N3 := Lib.hid (N2.out.next hb3)
  have B3 := Lib.hid (below_next B2.out hb3 B2.out.size)
  have E3 := Lib.hid he3
  clear hb3 he3 a0 a1 a2
  obtain ⟨a0, a1, a2⟩ := N3.out.cells
  have lt3 := N3.out.lt
  go_wp2_with fail
  have N4 := Lib.hid (N3.out.alloc (.cells #[.int .i64 la, .int .i64 na, .slice A1 m1 c1] 25))
  have M4 := Lib.hid (nd_new E3.out la na)
  have B4 := Lib.hid (B3.out.alloc B3.out.size (.cells #[.int .i64 la, .int .i64 na, .slice A1 m1 c1] 25))
  refine (RI.out _ N4.out.2 HN.out).mono ?_
  rintro e w5 ⟨A2, c2, rfl, he5, hb5⟩
  have N5 := Lib.hid (N4.out.next hb5)
  have M5 := Lib.hid (M4.out.next hb5)
  have B5 := Lib.hid (below_next B4.out hb5 B4.out.size)
  have E5 := Lib.hid he5
  clear hb5 he5 a0 a1 a2 N4 M4 B4 RI
  obtain ⟨a0, a1, a2⟩ := N5.out.cells
  have lt5 := N5.out.lt
  go_wp2_with fail
  have N6 := Lib.hid (N5.out.alloc (.cells #[.int .i64 la, .int .i64 na, .slice A2 m1 c2] 25))
  have M6 := Lib.hid (M5.out.alloc (.cells #[.int .i64 la, .int .i64 na, .slice A2 m1 c2] 25))
  have O6 := Lib.hid (nd_new E5.out la na)
  have B6 := Lib.hid (B5.out.alloc B5.out.size (.cells #[.int .i64 la, .int .i64 na, .slice A2 m1 c2] 25))
  refine (split_res lv nx A n c es _ N6.out.2 HN.out).mono ?_
  rintro e w7 ⟨A3, c3, A4, c4, rfl, he7, hf7, hb7⟩
  have RS := Lib.hid (rsplit_res lv nx A n c es)
  have hsp := spl_small (lv := lv) (nx := nx) (es := es)
  generalize (if splErr lv nx es = 0 then lv else 0) = ll at *
  generalize (if splErr lv nx es = 0 then nx else 0) = nl at *
  generalize splErr lv nx es = es_ at *
  generalize lefts lv nx es = es3 at *
  generalize rights lv nx es = es4 at *
  generalize bounds lv nx es = bd at *
  generalize hm3 : es3.length = m3 at *
  generalize hm4 : es4.length = m4 at *
  obtain ⟨hsp1, hsp2⟩ := hsp
  have HM3 := Lib.hid hm3
  have HM4 := Lib.hid hm4
  clear hm3 hm4
  have N7 := Lib.hid (N6.out.next hb7)
  have M7 := Lib.hid (M6.out.next hb7)
  have O7 := Lib.hid (O6.out.next hb7)
  have B7 := Lib.hid (below_next B6.out hb7 B6.out.size)
  have E7 := Lib.hid he7
  have F7 := Lib.hid hf7
  clear hb7 he7 hf7 a0 a1 a2 N6 M6 O6 B6
  obtain ⟨a0, a1, a2⟩ := N7.out.cells
  have lt7 := N7.out.lt
  go_wp2_with fail
  have hE : ∀ a b, Below w7.heap.size w7 ((w7.alloc a).alloc b) := fun a b => ((Below.refl _ _).alloc (Nat.le_refl _) _).alloc (by simp) _
  have N8 := Lib.hid (N7.out.next (hE (.cells #[.int .i64 ll, .int .i64 0, .slice A3 m3 c3] 25) (.cells #[.int .i64 ll, .int .i64 nl, .slice A4 m4 c4] 25)))
  have M8 := Lib.hid (M7.out.next (hE (.cells #[.int .i64 ll, .int .i64 0, .slice A3 m3 c3] 25) (.cells #[.int .i64 ll, .int .i64 nl, .slice A4 m4 c4] 25)))
  have O8 := Lib.hid (O7.out.next (hE (.cells #[.int .i64 ll, .int .i64 0, .slice A3 m3 c3] 25) (.cells #[.int .i64 ll, .int .i64 nl, .slice A4 m4 c4] 25)))
  have L8 := Lib.hid ((nd_new E7.out ll 0).alloc (.cells #[.int .i64 ll, .int .i64 nl, .slice A4 m4 c4] 25))
  have R8 : Hid (Nd ((w7.alloc (.cells #[.int .i64 ll, .int .i64 0, .slice A3 m3 c3] 25)).alloc (.cells #[.int .i64 ll, .int .i64 nl, .slice A4 m4 c4] 25)) (w7.heap.size + 1) ll nl A4 m4 c4 es4) := Lib.hid (by simpa using nd_new (W := w7.alloc (.cells #[.int .i64 ll, .int .i64 0, .slice A3 m3 c3] 25)) (F7.out.after ((Below.refl _ _).alloc (Nat.le_refl _) _)) ll nl)
  have B8 := Lib.hid (below_next B7.out (hE (.cells #[.int .i64 ll, .int .i64 0, .slice A3 m3 c3] 25) (.cells #[.int .i64 ll, .int .i64 nl, .slice A4 m4 c4] 25)) B7.out.size)
  clear hE
  refine (RS.out _ N8.out.2 HN.out).mono ?_
  rintro e w9 ⟨A5, c5, A6, c6, rfl, he9, hf9, hb9⟩
  have N9 := Lib.hid (N8.out.next hb9)
  have M9 := Lib.hid (M8.out.next hb9)
  have O9 := Lib.hid (O8.out.next hb9)
  have L9 := Lib.hid (L8.out.next hb9)
  have R9 := Lib.hid (R8.out.next hb9)
  have B9 := Lib.hid (below_next B8.out hb9 B8.out.size)
  have E9 := Lib.hid he9
  have F9 := Lib.hid hf9
  clear hb9 he9 hf9 a0 a1 a2 N8 M8 O8 L8 R8 B8 RS N7 M7 O7 B7
  go_wp2_with fail
  have hE : ∀ a b, Below w9.heap.size w9 ((w9.alloc a).alloc b).drew := fun a b => (((Below.refl _ _).alloc (Nat.le_refl _) _).alloc (by simp) _).drew
  have N0 := Lib.hid (N9.out.next (hE (.cells #[.int .i64 ll, .int .i64 0, .slice A5 m3 c5] 25) (.cells #[.int .i64 ll, .int .i64 nl, .slice A6 m4 c6] 25)))
  have M0 := Lib.hid (M9.out.next (hE (.cells #[.int .i64 ll, .int .i64 0, .slice A5 m3 c5] 25) (.cells #[.int .i64 ll, .int .i64 nl, .slice A6 m4 c6] 25)))
  have O0 := Lib.hid (O9.out.next (hE (.cells #[.int .i64 ll, .int .i64 0, .slice A5 m3 c5] 25) (.cells #[.int .i64 ll, .int .i64 nl, .slice A6 m4 c6] 25)))
  have L0 := Lib.hid (L9.out.next (hE (.cells #[.int .i64 ll, .int .i64 0, .slice A5 m3 c5] 25) (.cells #[.int .i64 ll, .int .i64 nl, .slice A6 m4 c6] 25)))
  have R0 := Lib.hid (R9.out.next (hE (.cells #[.int .i64 ll, .int .i64 0, .slice A5 m3 c5] 25) (.cells #[.int .i64 ll, .int .i64 nl, .slice A6 m4 c6] 25)))
  have X0 := Lib.hid ((nd_new E9.out ll 0).alloc (.cells #[.int .i64 ll, .int .i64 nl, .slice A6 m4 c6] 25)).drew
  have Y0 : Hid (Nd ((w9.alloc (.cells #[.int .i64 ll, .int .i64 0, .slice A5 m3 c5] 25)).alloc (.cells #[.int .i64 ll, .int .i64 nl, .slice A6 m4 c6] 25)).drew (w9.heap.size + 1) ll nl A6 m4 c6 es4) := Lib.hid (Nd.drew (by simpa using nd_new (W := w9.alloc (.cells #[.int .i64 ll, .int .i64 0, .slice A5 m3 c5] 25)) (F9.out.after ((Below.refl _ _).alloc (Nat.le_refl _) _)) ll nl))
  have B0x := Lib.hid (below_next B9.out (hE (.cells #[.int .i64 ll, .int .i64 0, .slice A5 m3 c5] 25) (.cells #[.int .i64 ll, .int .i64 nl, .slice A6 m4 c6] 25)) B9.out.size)
  have K0 := Lib.hid (And.intro N0.out.cells (And.intro M0.out.cells (And.intro O0.out.cells (And.intro L0.out.cells (And.intro R0.out.cells (And.intro X0.out.cells Y0.out.cells))))))
  clear hE N9 M9 O9 L9 R9 B9 E9 F9
  go_region_held3 (fun w' => (w'.cell? ⟨w.heap.size, 0, none⟩ = some (.int .i64 lv) ∧ w'.cell? ⟨w.heap.size, 1, none⟩ = some (.int .i64 nx) ∧ w'.cell? ⟨w.heap.size, 2, none⟩ = some (.slice A n c)) ∧ (w'.cell? ⟨w3.heap.size, 0, none⟩ = some (.int .i64 la) ∧ w'.cell? ⟨w3.heap.size, 1, none⟩ = some (.int .i64 na) ∧ w'.cell? ⟨w3.heap.size, 2, none⟩ = some (.slice A1 m1 c1)) ∧ (w'.cell? ⟨w5.heap.size, 0, none⟩ = some (.int .i64 la) ∧ w'.cell? ⟨w5.heap.size, 1, none⟩ = some (.int .i64 na) ∧ w'.cell? ⟨w5.heap.size, 2, none⟩ = some (.slice A2 m1 c2)) ∧ (w'.cell? ⟨w7.heap.size, 0, none⟩ = some (.int .i64 ll) ∧ w'.cell? ⟨w7.heap.size, 1, none⟩ = some (.int .i64 0) ∧ w'.cell? ⟨w7.heap.size, 2, none⟩ = some (.slice A3 m3 c3)) ∧ (w'.cell? ⟨(w7.heap.size + 1), 0, none⟩ = some (.int .i64 ll) ∧ w'.cell? ⟨(w7.heap.size + 1), 1, none⟩ = some (.int .i64 nl) ∧ w'.cell? ⟨(w7.heap.size + 1), 2, none⟩ = some (.slice A4 m4 c4)) ∧ (w'.cell? ⟨w9.heap.size, 0, none⟩ = some (.int .i64 ll) ∧ w'.cell? ⟨w9.heap.size, 1, none⟩ = some (.int .i64 0) ∧ w'.cell? ⟨w9.heap.size, 2, none⟩ = some (.slice A5 m3 c5)) ∧ (w'.cell? ⟨(w9.heap.size + 1), 0, none⟩ = some (.int .i64 ll) ∧ w'.cell? ⟨(w9.heap.size + 1), 1, none⟩ = some (.int .i64 nl) ∧ w'.cell? ⟨(w9.heap.size + 1), 2, none⟩ = some (.slice A6 m4 c6))) (first | exact K0.out | exact K1.out | exact K2.out | exact K3.out | exact K4.out | exact K5.out) (first | (go_at_call 15; refine (find_any lv nx A n c es k _ N0.out.2 HN.out).mono ?_; rintro e wz1 ⟨rfl, hb⟩; have N1 := Lib.hid (N0.out.next hb); have M1 := Lib.hid (M0.out.next hb); have O1 := Lib.hid (O0.out.next hb); have L1 := Lib.hid (L0.out.next hb); have R1 := Lib.hid (R0.out.next hb); have X1 := Lib.hid (X0.out.next hb); have Y1 := Lib.hid (Y0.out.next hb); have B1x := Lib.hid (below_next B0x.out hb B0x.out.size); have K1 := Lib.hid (And.intro N1.out.cells (And.intro M1.out.cells (And.intro O1.out.cells (And.intro L1.out.cells (And.intro R1.out.cells (And.intro X1.out.cells Y1.out.cells)))))); clear hb N0 M0 O0 L0 R0 X0 Y0 B0x K0) | (go_at_call 28; refine (rfind_any lv nx A n c es k _ N1.out.2 HN.out).mono ?_; rintro e wz2 ⟨rfl, hb⟩; have N2 := Lib.hid (N1.out.next hb); have M2 := Lib.hid (M1.out.next hb); have O2 := Lib.hid (O1.out.next hb); have L2 := Lib.hid (L1.out.next hb); have R2 := Lib.hid (R1.out.next hb); have X2 := Lib.hid (X1.out.next hb); have Y2 := Lib.hid (Y1.out.next hb); have B2x := Lib.hid (below_next B1x.out hb B1x.out.size); have K2 := Lib.hid (And.intro N2.out.cells (And.intro M2.out.cells (And.intro O2.out.cells (And.intro L2.out.cells (And.intro R2.out.cells (And.intro X2.out.cells Y2.out.cells)))))); clear hb N1 M1 O1 L1 R1 X1 Y1 B1x K1) | (go_at_call 13; refine (same_true la na A1 A2 m1 c1 c2 es1 _ M2.out.2 O2.out.2 (by omega)).mono ?_; rintro e wz3 ⟨rfl, hb⟩; have N3 := Lib.hid (N2.out.next hb); have M3 := Lib.hid (M2.out.next hb); have O3 := Lib.hid (O2.out.next hb); have L3 := Lib.hid (L2.out.next hb); have R3 := Lib.hid (R2.out.next hb); have X3 := Lib.hid (X2.out.next hb); have Y3 := Lib.hid (Y2.out.next hb); have B3x := Lib.hid (below_next B2x.out hb B2x.out.size); have K3 := Lib.hid (And.intro N3.out.cells (And.intro M3.out.cells (And.intro O3.out.cells (And.intro L3.out.cells (And.intro R3.out.cells (And.intro X3.out.cells Y3.out.cells)))))); clear hb N2 M2 O2 L2 R2 X2 Y2 B2x K2) | (go_at_call 13; refine (same_true ll 0 A3 A5 m3 c3 c5 es3 _ L3.out.2 X3.out.2 (by omega)).mono ?_; rintro e wz4 ⟨rfl, hb⟩; have N4 := Lib.hid (N3.out.next hb); have M4 := Lib.hid (M3.out.next hb); have O4 := Lib.hid (O3.out.next hb); have L4 := Lib.hid (L3.out.next hb); have R4 := Lib.hid (R3.out.next hb); have X4 := Lib.hid (X3.out.next hb); have Y4 := Lib.hid (Y3.out.next hb); have B4x := Lib.hid (below_next B3x.out hb B3x.out.size); have K4 := Lib.hid (And.intro N4.out.cells (And.intro M4.out.cells (And.intro O4.out.cells (And.intro L4.out.cells (And.intro R4.out.cells (And.intro X4.out.cells Y4.out.cells)))))); clear hb N3 M3 O3 L3 R3 X3 Y3 B3x K3) | (go_at_call 13; refine (same_true ll nl A4 A6 m4 c4 c6 es4 _ R4.out.2 Y4.out.2 (by omega)).mono ?_; rintro e wz5 ⟨rfl, hb⟩; have N5 := Lib.hid (N4.out.next hb); have M5 := Lib.hid (M4.out.next hb); have O5 := Lib.hid (O4.out.next hb); have L5 := Lib.hid (L4.out.next hb); have R5 := Lib.hid (R4.out.next hb); have X5 := Lib.hid (X4.out.next hb); have Y5 := Lib.hid (Y4.out.next hb); have B5x := Lib.hid (below_next B4x.out hb B4x.out.size); have K5 := Lib.hid (And.intro N5.out.cells (And.intro M5.out.cells (And.intro O5.out.cells (And.intro L5.out.cells (And.intro R5.out.cells (And.intro X5.out.cells Y5.out.cells)))))); clear hb N4 M4 O4 L4 R4 X4 Y4 B4x K4))
  go_wp2
  go_ret
  exact ⟨by simp [go_sem], B5x.out⟩
end Go.Proofs.Ytjfinkfikebjbaa
