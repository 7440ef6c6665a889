/- NodeInserts: the walk. -/
import Derived.Test.YtjfinkfikebjbaaIe
import Derived.Test.YtjfinkfikebjbaaY
namespace Go.Proofs.Ytjfinkfikebjbaa
open Go.RowKit
attribute [local go_sem ↓] Go.wp_at_zero Go.wp_at_succ

/-- the node and the one behind the insertion in their boxes -/
structure Mv (w W : World) (lv nx : Int) (A : Option Addr) (n c : Nat) (es : List Ent) (g : Nat) (A1 : Option Addr) (n1 c1 : Nat) (es1 : List Ent) : Prop where
  b : Below w.heap.size w W
  u0 : Blk W w.heap.size 25 #[.int .i64 lv, .int .i64 nx, .slice A n c]
  u1 : Blk W g 25 #[.int .i64 lv, .int .i64 nx, .slice A1 n1 c1]
  e0 : Es W W.heap.size A n c es
  e1 : Es W W.heap.size A1 n1 c1 es1
theorem Mv.next {w W W' : World} {lv nx : Int} {A : Option Addr} {n c : Nat} {es : List Ent} {g : Nat} {A1 : Option Addr} {n1 c1 : Nat} {es1 : List Ent} (h : Mv w W lv nx A n c es g A1 n1 c1 es1) (hb : Below W.heap.size W W') : Mv w W' lv nx A n c es g A1 n1 c1 es1 :=
  ⟨below_next h.b hb h.b.size, h.u0.below hb h.u0.lt, h.u1.below hb h.u1.lt, h.e0.after hb, h.e1.after hb⟩

set_option maxRecDepth 100000 in
set_option maxHeartbeats 4000000 in
theorem inserts_any (lv nx : Int) (A : Option Addr) (n c : Nat) (es : List Ent) (x k : ByteArray) (p : Int) (w : World) (hs : Es w w.heap.size A n c es) (hn : n ≤ 9223372036854775807) :
    Calls Try.prog 8 #[.agg #[.int .i64 lv, .int .i64 nx, .slice A n c], .string x, .string k, .int .i64 p] w fun e w' => e = .returned (.bool true) ∧ Below w.heap.size w w' := by
  have HS := Lib.hid hs
  have HL := Lib.hid hs.len
  clear hs
  have HN := Lib.hid hn
  clear hn
  go_enter Try.func8, Try.ntmps8
  go_wp2_with fail
  refine (awake_any _).mono ?_
  rintro e w1 ⟨rfl, hb1⟩
  have x1 : Below (w.heap.size + 1) (w.alloc (.cells #[.int .i64 lv, .int .i64 nx, .slice A n c] 25)) w1 := by simpa using hb1
  have k1a := bx_cell x1 0
  have k1b := bx_cell x1 1
  have k1c := bx_cell x1 2
  have X1 := Lib.hid x1
  clear hb1 x1
  go_wp2_with fail
  refine (isnode_any lv nx A n c es _ (Es.after HS.out (bx_below X1.out)) HN.out).mono ?_
  rintro e w2 ⟨rfl, hb2⟩
  have x2 := below_next X1.out hb2 (bx_size X1.out)
  have k2a := bx_cell x2 0
  have k2b := bx_cell x2 1
  have k2c := bx_cell x2 2
  have X2 := Lib.hid x2
  clear hb2 x2 k1a k1b k1c
  cases hq : plainB lv nx es with
  | false =>
    clear hq
    go_wp2
    go_ret
    exact ⟨rfl, bx_below X2.out⟩
  | true =>
    obtain ⟨g1, g2⟩ := plain_len hq
    rw [HL.out] at g1 g2
    have HQ := Lib.hid hq
    clear hq
    by_cases hk : 100 < k.size
    · go_wp2
      go_ret
      exact ⟨rfl, bx_below X2.out⟩
    by_cases hx : 100 < x.size
    · go_wp2
      go_ret
      exact ⟨rfl, bx_below X2.out⟩
    go_wp2_with fail
    refine (find_any lv nx A n c es x _ (Es.after HS.out (bx_below X2.out)) HN.out).mono ?_
    rintro e w3 ⟨rfl, hb3⟩
    have x3 := below_next X2.out hb3 (bx_size X2.out)
    have k3a := bx_cell x3 0
    have k3b := bx_cell x3 1
    have k3c := bx_cell x3 2
    have X3 := Lib.hid x3
    clear hb3 x3 k2a k2b k2c
    have hfi := findI_N (es := es) x (by rw [HL.out]; exact g1)
    have hin := (isF_find (es := es) x (by rw [HL.out]; exact g1)).1
    rw [HL.out] at hin
    rw [hfi]
    clear hfi
    have HWHY := Lib.hid (fun h => insErr_why (x := x) (p := p) HQ.out h)
    have HPLN := Lib.hid (fun h => ins_plain (lv := lv) (nx := nx) (es := es) (i := findN es x) (x := x) (p := p) h)
    have HPG := Lib.hid (fun h => ins_page (lv := lv) (nx := nx) (es := es) (x := x) (p := p) h k)
    by_cases herr : insErr lv nx es (findN es x : Int) x p = 0
    · have hpln := HPLN.out herr
      have hpg := HPG.out herr
      have HERR := Lib.hid herr
      generalize findN es x = i at *
      obtain ⟨_, pl2, pl3⟩ := hpln
      have HP3 := Lib.hid pl3
      have HPA := Lib.hid hpg
      clear pl3 hpg HWHY HPLN HPG herr
      go_wp2_with fail
      refine (insert_ok lv nx A n c es i x p _ (Es.after HS.out (bx_below X3.out)) HN.out HERR.out).mono ?_
      rintro e w4 ⟨A1, c1, rfl, he4, hb4⟩
      have x4 := below_next X3.out hb4 (bx_size X3.out)
      have q0 : Blk w4 w.heap.size 25 #[.int .i64 lv, .int .i64 nx, .slice A n c] := (Blk.new w 25 _).below x4 (by simp)
      have mv : Mv w (w4.alloc (.cells #[.int .i64 lv, .int .i64 nx, .slice A1 (n + 1) c1] 25)) lv nx A n c es w4.heap.size A1 (n + 1) c1 (insP es i x p) := by
        have b45 := (Below.refl w4.heap.size w4).alloc (Nat.le_refl _) (.cells #[.int .i64 lv, .int .i64 nx, .slice A1 (n + 1) c1] 25)
        have b4 := bx_below x4
        exact ⟨below_next b4 b45 b4.size, q0.alloc _, Blk.new _ _ _, Es.after HS.out (below_next b4 b45 b4.size), he4.after b45⟩
      have MV := Lib.hid mv
      have p0 := q0.cell 0
      have p1 := q0.cell 1
      have p2 := q0.cell 2
      have s4 := q0.lt
      simp at p0 p1 p2
      clear hb4 x4 q0 mv he4 k3a k3b k3c
      go_wp2_with fail
      refine (page_any lv nx A n c es k _ MV.out.e0 g1 (by omega)).mono ?_
      rintro e w5 ⟨rfl, hb5⟩
      have mv5 := MV.out.next hb5
      have MV5 := Lib.hid mv5
      replace p0 := mv5.u0.cell 0
      replace p1 := mv5.u0.cell 1
      replace p2 := mv5.u0.cell 2
      simp at p0 p1 p2
      clear hb5 mv5 MV
      go_wp2_with fail
      refine (find_any lv nx A n c es k _ MV5.out.e0 HN.out).mono ?_
      rintro e w6 ⟨rfl, hb6⟩
      have mv6 := MV5.out.next hb6
      have MV6 := Lib.hid mv6
      replace p0 := mv6.u1.cell 0
      replace p1 := mv6.u1.cell 1
      replace p2 := mv6.u1.cell 2
      simp at p0 p1 p2
      clear hb6 mv6 MV5
      have hfk := findI_N (es := es) k (by rw [HL.out]; exact g1)
      rw [hfk]
      clear hfk
      generalize findN es k = j at *
      by_cases hji : j = i
      · subst hji
        cases hkx : lessB k x with
        | true =>
          have HV : Hid (pageI (insP es j x p) k = pageI es k) := Lib.hid (by rw [HPA.out, if_neg (fun e => by rw [hkx] at e; cases e.2)])
          have l1 : Op.bytesLess k.toList x.toList = true := hkx
          clear hkx
          go_wp2_with fail
          refine (isnode_is HP3.out MV6.out.e1 (by omega)).mono ?_
          rintro e w7 ⟨rfl, hb7⟩
          have mv7 := MV6.out.next hb7
          have MV7 := Lib.hid mv7
          replace p0 := mv7.u1.cell 0
          replace p1 := mv7.u1.cell 1
          replace p2 := mv7.u1.cell 2
          have r2 := mv7.u0.cell 2
          simp at p0 p1 p2 r2
          clear hb7 mv7 MV6
          go_wp2_with fail
          refine (page_any lv nx A1 (n + 1) c1 _ k _ MV7.out.e1 (by omega) (by omega)).mono ?_
          rintro e w8 ⟨rfl, hb8⟩
          have MV8 := Lib.hid (MV7.out.next hb8)
          clear hb8 MV7
          rw [HV.out]
          go_wp2
          go_ret
          exact ⟨by simp [go_sem], MV8.out.b⟩
        | false =>
          have HV : Hid (pageI (insP es j x p) k = p) := Lib.hid (by rw [HPA.out, if_pos ⟨rfl, hkx⟩])
          have l1 : Op.bytesLess k.toList x.toList = false := hkx
          clear hkx
          go_wp2_with fail
          refine (isnode_is HP3.out MV6.out.e1 (by omega)).mono ?_
          rintro e w7 ⟨rfl, hb7⟩
          have mv7 := MV6.out.next hb7
          have MV7 := Lib.hid mv7
          replace p0 := mv7.u1.cell 0
          replace p1 := mv7.u1.cell 1
          replace p2 := mv7.u1.cell 2
          have r2 := mv7.u0.cell 2
          simp at p0 p1 p2 r2
          clear hb7 mv7 MV6
          go_wp2_with fail
          refine (page_any lv nx A1 (n + 1) c1 _ k _ MV7.out.e1 (by omega) (by omega)).mono ?_
          rintro e w8 ⟨rfl, hb8⟩
          have MV8 := Lib.hid (MV7.out.next hb8)
          clear hb8 MV7
          rw [HV.out]
          go_wp2
          go_ret
          exact ⟨by simp [go_sem], MV8.out.b⟩
      · have HV : Hid (pageI (insP es i x p) k = pageI es k) := Lib.hid (by rw [HPA.out, if_neg (fun e => hji e.1)])
        have d1 : ((j : Int) == (i : Int)) = false := by simp; omega
        clear hji
        go_wp2_with fail
        refine (isnode_is HP3.out MV6.out.e1 (by omega)).mono ?_
        rintro e w7 ⟨rfl, hb7⟩
        have mv7 := MV6.out.next hb7
        have MV7 := Lib.hid mv7
        replace p0 := mv7.u1.cell 0
        replace p1 := mv7.u1.cell 1
        replace p2 := mv7.u1.cell 2
        have r2 := mv7.u0.cell 2
        simp at p0 p1 p2 r2
        clear hb7 mv7 MV6
        go_wp2_with fail
        refine (page_any lv nx A1 (n + 1) c1 _ k _ MV7.out.e1 (by omega) (by omega)).mono ?_
        rintro e w8 ⟨rfl, hb8⟩
        have MV8 := Lib.hid (MV7.out.next hb8)
        clear hb8 MV7
        rw [HV.out]
        go_wp2
        go_ret
        exact ⟨by simp [go_sem], MV8.out.b⟩
    · have hwhy := HWHY.out herr
      obtain ⟨er, her⟩ : ∃ er, insErr lv nx es (findN es x : Int) x p = er := ⟨_, rfl⟩
      rw [her] at herr
      have HERR := Lib.hid her
      clear her HWHY HPLN HPG
      generalize findN es x = i at *
      have HWHY := Lib.hid hwhy
      clear hwhy
      go_wp2_with fail
      refine (insert_no lv nx A n c es i x p _ er (Es.after HS.out (bx_below X3.out)) HN.out HERR.out herr).mono ?_
      rintro e w4 ⟨rfl, hb4⟩
      have x4 := below_next X3.out hb4 (bx_size X3.out)
      have q2 := bx_cell x4 2
      have s4 : w.heap.size < w4.heap.size := bx_size x4
      have hs4 := Es.after HS.out (bx_below x4)
      have X4 := Lib.hid x4
      have HS4 := Lib.hid hs4
      simp at q2
      clear hb4 x4 k3a k3b k3c hs4
      have d0 : decide ((i : Int) < 0) = false := by simp
      have d1 : decide ((n : Int) ≤ (i : Int)) = false := by simp; omega
      by_cases y0 : x.size = 0
      · obtain ⟨y1, y2⟩ := empty_list y0
        clear y0
        go_wp2
        go_ret
        exact ⟨rfl, (bx_below X4.out).alloc (bx_below X4.out).size _⟩
      obtain ⟨y1, y2⟩ := full_list y0
      by_cases y3 : 32 < x.size
      · have d4 : decide (32 < (x.size : Int)) = true := by simp; omega
        clear y3 y0
        go_wp2
        go_ret
        exact ⟨rfl, (bx_below X4.out).alloc (bx_below X4.out).size _⟩
      have d4 : decide (32 < (x.size : Int)) = false := by simp; omega
      by_cases y4 : p < 1
      · clear y3 y0
        go_wp2
        go_ret
        exact ⟨rfl, (bx_below X4.out).alloc (bx_below X4.out).size _⟩
      by_cases y5 : 16777216 < p
      · clear y3 y0
        go_wp2
        go_ret
        exact ⟨rfl, (bx_below X4.out).alloc (bx_below X4.out).size _⟩
      by_cases y6 : n = 120
      · have d6 : ((n : Int) == 120) = true := by simp; omega
        clear y3 y0 y6
        go_wp2
        go_ret
        exact ⟨rfl, (bx_below X4.out).alloc (bx_below X4.out).size _⟩
      have d6 : ((n : Int) == 120) = false := by simp; omega
      obtain ⟨z1, z2⟩ : 0 < i ∧ (entAt es (i - 1)).1 = x := by
        rcases HWHY.out with h | h | h | h | h | h
        · exact absurd h y0
        · exact absurd h y3
        · exact absurd h y4
        · exact absurd h y5
        · rw [HL.out] at h; exact absurd h y6
        · exact h
      obtain ⟨t, rfl⟩ : ∃ t, i = t + 1 := ⟨i - 1, by omega⟩
      obtain ⟨b, o, z, q, rfl, hb, hg, hc, _⟩ := HS4.out.cell (k := t) (by omega)
      rw [Nat.add_sub_cancel, entAt_get hg] at z2
      obtain rfl : z = x := z2
      clear y3 y0 y6 hg z1
      go_wp2
      go_ret
      exact ⟨rfl, (bx_below X4.out).alloc (bx_below X4.out).size _⟩
end Go.Proofs.Ytjfinkfikebjbaa
