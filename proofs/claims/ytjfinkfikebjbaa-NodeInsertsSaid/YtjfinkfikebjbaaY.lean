/- NodeHalves: the walk. -/
import Derived.Test.YtjfinkfikebjbaaX
namespace Go.Proofs.Ytjfinkfikebjbaa
open Go.RowKit
attribute [local go_sem ↓] Go.wp_at_zero Go.wp_at_succ

theorem isnode_is {lv nx : Int} {A : Option Addr} {n c : Nat} {es : List Ent} {w : World} {q : Bool} (hq : plainB lv nx es = q) (hs : Es w w.heap.size A n c es) (hn : n ≤ 9223372036854775807) :
    Calls Try.prog 14 #[.agg #[.int .i64 lv, .int .i64 nx, .slice A n c]] w fun e w' => e = .returned (.bool q) ∧ Below w.heap.size w w' := by
  rw [← hq]; exact isnode_any lv nx A n c es w hs hn

/-- the node and its halves in their boxes -/
structure Hv (w W : World) (lv nx : Int) (A : Option Addr) (n c : Nat) (es : List Ent) (g : Nat) (A1 : Option Addr) (n1 c1 : Nat) (A2 : Option Addr) (n2 c2 : Nat) : Prop where
  b : Below w.heap.size w W
  u0 : Blk W w.heap.size 25 #[.int .i64 lv, .int .i64 nx, .slice A n c]
  u1 : Blk W g 25 #[.int .i64 lv, .int .i64 0, .slice A1 n1 c1]
  u2 : Blk W (g + 1) 25 #[.int .i64 lv, .int .i64 nx, .slice A2 n2 c2]
  e0 : Es W W.heap.size A n c es
  e1 : Es W W.heap.size A1 n1 c1 (leftE es)
  e2 : Es W W.heap.size A2 n2 c2 (rightE es)
theorem Hv.next {w W W' : World} {lv nx : Int} {A : Option Addr} {n c : Nat} {es : List Ent} {g : Nat} {A1 : Option Addr} {n1 c1 : Nat} {A2 : Option Addr} {n2 c2 : Nat} (h : Hv w W lv nx A n c es g A1 n1 c1 A2 n2 c2) (hb : Below W.heap.size W W') : Hv w W' lv nx A n c es g A1 n1 c1 A2 n2 c2 :=
  ⟨below_next h.b hb h.b.size, h.u0.below hb h.u0.lt, h.u1.below hb h.u1.lt, h.u2.below hb h.u2.lt, h.e0.after hb, h.e1.after hb, h.e2.after hb⟩

set_option maxRecDepth 100000 in
set_option maxHeartbeats 4000000 in
theorem halves_any (lv nx : Int) (A : Option Addr) (n c : Nat) (es : List Ent) (k : ByteArray) (w : World) (hs : Es w w.heap.size A n c es) (hn : n ≤ 9223372036854775807) :
    Calls Try.prog 7 #[.agg #[.int .i64 lv, .int .i64 nx, .slice A n c], .string k] w fun e w' => e = .returned (.bool true) ∧ Below w.heap.size w w' := by
  have HS := Lib.hid hs
  have HL := Lib.hid hs.len
  clear hs
  have HN := Lib.hid hn
  clear hn
  go_enter Try.func7, Try.ntmps7
  go_wp2_with fail
  refine (awake_any _).mono ?_
  rintro e w1 ⟨rfl, hb1⟩
  have x1 : Below (w.heap.size + 1) (w.alloc (.cells #[.int .i64 lv, .int .i64 nx, .slice A n c] 25)) w1 := by simpa using hb1
  have k1a := bx_cell x1 0
  have k1b := bx_cell x1 1
  have k1c := bx_cell x1 2
  have X1 := Lib.hid x1
  clear hb1 x1
  go_wp2_with fail
  refine (isnode_any lv nx A n c es _ (Es.after HS.out (bx_below X1.out)) HN.out).mono ?_
  rintro e w2 ⟨rfl, hb2⟩
  have x2 := below_next X1.out hb2 (bx_size X1.out)
  have k2a := bx_cell x2 0
  have k2b := bx_cell x2 1
  have k2c := bx_cell x2 2
  have X2 := Lib.hid x2
  clear hb2 x2 k1a k1b k1c
  cases hq : plainB lv nx es with
  | false =>
    clear hq
    go_wp2
    go_ret
    exact ⟨rfl, bx_below X2.out⟩
  | true =>
    obtain ⟨g1, g2⟩ := plain_len hq
    rw [HL.out] at g1 g2
    have HQ := Lib.hid hq
    clear hq
    by_cases hk : 100 < k.size
    · go_wp2
      go_ret
      exact ⟨rfl, bx_below X2.out⟩
    · by_cases h1 : n = 1
      · subst h1
        go_wp2_with fail
        refine (split_one lv nx A c es _ (Es.after HS.out (bx_below X2.out)) HQ.out).mono ?_
        rintro e w3 ⟨rfl, hb3⟩
        have x3 := below_next X2.out hb3 (bx_size X2.out)
        have k3c := bx_cell x3 2
        have s3 : w.heap.size < w3.heap.size := bx_size x3
        have X3 := Lib.hid x3
        clear hb3 x3 k2a k2b k2c
        go_wp2
        go_ret
        exact ⟨rfl, ((bx_below X3.out).alloc (bx_below X3.out).size _).alloc (by simp; have := (bx_below X3.out).size; omega) _⟩
      · go_wp2_with fail
        refine (split_ok lv nx A n c es _ (Es.after HS.out (bx_below X2.out)) HQ.out (by omega)).mono ?_
        rintro e w3 ⟨A1, c1, A2, c2, rfl, hl, hr, hb3⟩
        have hlp := left_plain HQ.out (by rw [HL.out]; omega)
        have hrp := right_plain HQ.out (by rw [HL.out]; omega)
        have hbf := full_list (bound_full HQ.out (by rw [HL.out]; omega))
        have hpl := left_page (es := es) (by rw [HL.out]; omega) (k := k)
        have hpr := right_page HQ.out (by rw [HL.out]; omega) (k := k)
        have hh1 : 1 ≤ halfN es ∧ halfN es < n ∧ (2 * halfN es = n ∨ 2 * halfN es = n + 1) := by unfold halfN; rw [HL.out]; omega
        have hln := hl.len
        generalize halfN es = n1 at hl hr hh1 ⊢
        obtain ⟨n2, hn2⟩ : ∃ n2, n2 = n - n1 := ⟨_, rfl⟩
        rw [← hn2] at hr ⊢
        obtain ⟨j1, j2, j3⟩ := hh1
        have x3 := below_next X2.out hb3 (bx_size X2.out)
        have q0 : Blk w3 w.heap.size 25 #[.int .i64 lv, .int .i64 nx, .slice A n c] := (Blk.new w 25 _).below x3 (by simp)
        have b3 := bx_below x3
        have hv : Hv w ((w3.alloc (.cells #[.int .i64 lv, .int .i64 0, .slice A1 n1 c1] 25)).alloc (.cells #[.int .i64 lv, .int .i64 nx, .slice A2 n2 c2] 25)) lv nx A n c es w3.heap.size A1 n1 c1 A2 n2 c2 := by
          have b34 := ((Below.refl w3.heap.size w3).alloc (Nat.le_refl _) (.cells #[.int .i64 lv, .int .i64 0, .slice A1 n1 c1] 25)).alloc (by simp) (.cells #[.int .i64 lv, .int .i64 nx, .slice A2 n2 c2] 25)
          exact ⟨below_next b3 b34 b3.size, (q0.alloc _).alloc _, (Blk.new _ _ _).alloc _, by simpa using Blk.new (w3.alloc (.cells #[.int .i64 lv, .int .i64 0, .slice A1 n1 c1] 25)) 25 #[.int .i64 lv, .int .i64 nx, .slice A2 n2 c2], Es.after HS.out (below_next b3 b34 b3.size), hl.after b34, hr.after b34⟩
        have k0 := q0.cell 0
        have k1 := q0.cell 1
        have k2 := q0.cell 2
        have s3 : w.heap.size < w3.heap.size := q0.lt
        have Q0 := Lib.hid q0
        have j4 : (n1 : Int) + (n2 : Int) = (n : Int) := by omega
        have j5 : decide ((n1 : Int) - (n2 : Int) < 0) = false := by simp; omega
        have j6 : decide (1 < (n1 : Int) - (n2 : Int)) = false := by simp; omega
        have j7 : 1 ≤ n2 := by omega
        have J2 := Lib.hid hn2
        have J3 := Lib.hid j3
        clear hn2 j3
        have HPL := Lib.hid hpl
        have HPR := Lib.hid hpr
        have HLP := Lib.hid hlp
        have HRP := Lib.hid hrp
        have HLN := Lib.hid hln
        have HV := Lib.hid hv
        clear hb3 x3 k2a k2b k2c hl hr q0 hpl hpr hlp hrp hln b3 hv
        simp at k0 k1 k2
        go_wp2_with fail
        clear k0 k1 k2 Q0
        refine (isnode_is HLP.out HV.out.e1 (by omega)).mono ?_
        rintro e w5 ⟨rfl, hb5⟩
        have hv5 := HV.out.next hb5
        have HV5 := Lib.hid hv5
        have k0 := hv5.u2.cell 0
        have k1 := hv5.u2.cell 1
        have k2 := hv5.u2.cell 2
        simp at k0 k1 k2
        clear hb5 hv5 HV
        go_wp2_with fail
        clear k0 k1 k2
        refine (isnode_is HRP.out HV5.out.e2 (by omega)).mono ?_
        rintro e w6 ⟨rfl, hb6⟩
        have hv6 := HV5.out.next hb6
        have HV6 := Lib.hid hv6
        have m0 := hv6.u0.cell 1
        have m1 := hv6.u0.cell 2
        have k0 := hv6.u1.cell 0
        have k1 := hv6.u1.cell 1
        have k2 := hv6.u1.cell 2
        have k3 := hv6.u2.cell 0
        have k4 := hv6.u2.cell 1
        have k5 := hv6.u2.cell 2
        have lt6 := hv6.u1.lt
        simp at k0 k1 k2 k3 k4 k5 m0 m1
        clear hb6 hv6 HV5
        obtain ⟨hbf1, hbf2⟩ := hbf
        cases hkb : lessB k (boundE es) with
        | true =>
          have hkb' : Op.bytesLess k.toList (boundE es).toList = true := hkb
          have HPP := Lib.hid (HPL.out hkb)
          clear hkb HPL HPR
          go_wp2_with fail
          have hv7 := HV6.out.next (((Below.refl w6.heap.size w6).alloc (Nat.le_refl _) (.cells #[.int .i64 lv, .int .i64 0, .slice A1 n1 c1] 25)).drew)
          have HV7 := Lib.hid hv7
          have p0 := hv7.u0.cell 0
          have p1 := hv7.u0.cell 1
          have p2 := hv7.u0.cell 2
          have z7 := Blk.new w6 25 #[.int .i64 lv, .int .i64 0, .slice A1 n1 c1]
          have p3 := z7.cell 0
          have p4 := z7.cell 1
          have p5 := z7.cell 2
          have lt7 := hv7.u0.lt
          simp at p0 p1 p2 p3 p4 p5
          have Z7 := Lib.hid z7.drew
          clear hv7 z7
          go_region_held3 (fun w' => w'.cell? ⟨w.heap.size, 0, none⟩ = some (.int .i64 lv) ∧ w'.cell? ⟨w.heap.size, 1, none⟩ = some (.int .i64 nx) ∧ w'.cell? ⟨w.heap.size, 2, none⟩ = some (.slice A n c) ∧ w'.cell? ⟨w6.heap.size, 0, none⟩ = some (.int .i64 lv) ∧ w'.cell? ⟨w6.heap.size, 1, none⟩ = some (.int .i64 0) ∧ w'.cell? ⟨w6.heap.size, 2, none⟩ = some (.slice A1 n1 c1)) (go_keep) (first | (go_at_call 24; refine (page_any lv 0 A1 n1 c1 (leftE es) k _ HV7.out.e1 (by omega) (by omega)).mono ?_; rintro e w8 ⟨rfl, hb8⟩; have hv8 := HV7.out.next hb8; have HV8 := Lib.hid hv8; have z8 := Z7.out.below hb8 Z7.out.lt; have Z8 := Lib.hid z8; have p80 := hv8.u0.cell 0; have p81 := hv8.u0.cell 1; have p82 := hv8.u0.cell 2; have p83 := z8.cell 0; have p84 := z8.cell 1; have p85 := z8.cell 2; clear hb8 hv8 z8 HV7 Z7) | (go_at_call 24; refine (page_any lv nx A n c es k _ HV8.out.e0 (by omega) (by omega)).mono ?_; rintro e w9 ⟨rfl, hb9⟩; have hv9 := HV8.out.next hb9; have HV9 := Lib.hid hv9; have z9 := Z8.out.below hb9 Z8.out.lt; have p90 := hv9.u0.cell 0; have p91 := hv9.u0.cell 1; have p92 := hv9.u0.cell 2; have p93 := z9.cell 0; have p94 := z9.cell 1; have p95 := z9.cell 2; clear hb9 hv9 z9))
          rw [HPP.out]
          go_wp2
          go_ret
          exact ⟨by simp [go_sem], HV9.out.b⟩
        | false =>
          have hkb' : Op.bytesLess k.toList (boundE es).toList = false := hkb
          have HPP := Lib.hid (HPR.out hkb)
          clear hkb HPL HPR
          go_wp2_with fail
          have hv7 := HV6.out.next (((Below.refl w6.heap.size w6).alloc (Nat.le_refl _) (.cells #[.int .i64 lv, .int .i64 nx, .slice A2 n2 c2] 25)).drew)
          have HV7 := Lib.hid hv7
          have p0 := hv7.u0.cell 0
          have p1 := hv7.u0.cell 1
          have p2 := hv7.u0.cell 2
          have z7 := Blk.new w6 25 #[.int .i64 lv, .int .i64 nx, .slice A2 n2 c2]
          have p3 := z7.cell 0
          have p4 := z7.cell 1
          have p5 := z7.cell 2
          have lt7 := hv7.u0.lt
          simp at p0 p1 p2 p3 p4 p5
          have Z7 := Lib.hid z7.drew
          clear hv7 z7
          go_region_held3 (fun w' => w'.cell? ⟨w.heap.size, 0, none⟩ = some (.int .i64 lv) ∧ w'.cell? ⟨w.heap.size, 1, none⟩ = some (.int .i64 nx) ∧ w'.cell? ⟨w.heap.size, 2, none⟩ = some (.slice A n c) ∧ w'.cell? ⟨w6.heap.size, 0, none⟩ = some (.int .i64 lv) ∧ w'.cell? ⟨w6.heap.size, 1, none⟩ = some (.int .i64 nx) ∧ w'.cell? ⟨w6.heap.size, 2, none⟩ = some (.slice A2 n2 c2)) (go_keep) (first | (go_at_call 24; refine (page_any lv nx A2 n2 c2 (rightE es) k _ HV7.out.e2 (by omega) (by omega)).mono ?_; rintro e w8 ⟨rfl, hb8⟩; have hv8 := HV7.out.next hb8; have HV8 := Lib.hid hv8; have z8 := Z7.out.below hb8 Z7.out.lt; have Z8 := Lib.hid z8; have p80 := hv8.u0.cell 0; have p81 := hv8.u0.cell 1; have p82 := hv8.u0.cell 2; have p83 := z8.cell 0; have p84 := z8.cell 1; have p85 := z8.cell 2; clear hb8 hv8 z8 HV7 Z7) | (go_at_call 24; refine (page_any lv nx A n c es k _ HV8.out.e0 (by omega) (by omega)).mono ?_; rintro e w9 ⟨rfl, hb9⟩; have hv9 := HV8.out.next hb9; have HV9 := Lib.hid hv9; have z9 := Z8.out.below hb9 Z8.out.lt; have p90 := hv9.u0.cell 0; have p91 := hv9.u0.cell 1; have p92 := hv9.u0.cell 2; have p93 := z9.cell 0; have p94 := z9.cell 1; have p95 := z9.cell 2; clear hb9 hv9 z9))
          rw [HPP.out]
          go_wp2
          go_ret
          exact ⟨by simp [go_sem], HV9.out.b⟩
end Go.Proofs.Ytjfinkfikebjbaa
