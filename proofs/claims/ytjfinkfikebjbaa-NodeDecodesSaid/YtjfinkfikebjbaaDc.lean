/- Decode of the reference. -/
import Derived.Test.YtjfinkfikebjbaaDb
import Derived.Test.YtjfinkfikebjbaaS
namespace Go.Proofs.Ytjfinkfikebjbaa
open Go.RowKit
attribute [local go_sem ↓] Go.wp_at_zero Go.wp_at_succ

theorem dec_no {z : Int} {d : ByteArray} (h : decOk z d = false) {w w' : World} (code : Int) (hc : code = if szB z then 11 else 1) (hb : Below w.heap.size w w') :
    DecR (decLv z d) (decNx z d) (decEs z d) (decE z d) w (.returned (.tuple #[.agg #[.int .i64 0, .int .i64 0, .slice none 0 0], .int .i64 code])) w' := by
  unfold DecR decLv decNx decEs decE
  rw [h, hc]
  exact ⟨none, 0, rfl, es_nil, hb⟩
theorem dec_sz {z : Int} {d : ByteArray} (h : szB z = false) : decOk z d = false := by unfold decOk; rw [h]; rfl
theorem dec_len {z : Int} {d : ByteArray} (h : (d.size : Int) ≠ z) : decOk z d = false := by
  cases hq : decOk z d with
  | false => rfl
  | true =>
    obtain ⟨h1, h2⟩ := dec_again hq
    have hok : okE z (dLv d) (dNx d) (dEs d) = true := by
      cases hk : okE z (dLv d) (dNx d) (dEs d) with
      | true => rfl
      | false => exact absurd h2 (enc_no hk)
    have := enc_size hok
    rw [h1] at this
    exact absurd this h

theorem rnumber_is {s : ByteArray} {k : Nat} {n : Nat} {w : World} (h : k + 4 ≤ s.size) (hs : s.size ≤ 600) (hn : rdN (drB s k) 4 = n) (kv : Int) (hk : kv = (k : Int)) :
    Calls Try.prog 34 #[.string s, .int .i64 kv] w fun e w' => e = .returned (.int .i64 n) ∧ ∃ d, w' = w.drewN d := by
  rw [hk, ← hn]; exact rnumber_any s k w h hs

theorem es_box3 {W : World} {g : Nat} {A : Option Addr} {n c : Nat} {es : List Ent} (hE : Es W W.heap.size A n c es) (hR : Blk W g 25 #[.int .i64 0, .int .i64 0, .slice none 0 0]) (u0 u1 u2 : Value) :
    Es (((W.setCell ⟨g, 0, none⟩ u0).setCell ⟨g, 1, none⟩ u1).setCell ⟨g, 2, none⟩ u2) (((W.setCell ⟨g, 0, none⟩ u0).setCell ⟨g, 1, none⟩ u1).setCell ⟨g, 2, none⟩ u2).heap.size A n c es := by
  have hs : (((W.setCell ⟨g, 0, none⟩ u0).setCell ⟨g, 1, none⟩ u1).setCell ⟨g, 2, none⟩ u2).heap.size = W.heap.size := by simp [World.setCell]
  rw [hs]
  refine ⟨hE.1, hE.2.1, fun hn => ?_⟩
  obtain ⟨b, o, x, p, hA, hb, hg, hc, _⟩ := hE.cell (k := 0) hn
  obtain ⟨b', o', hA', hb', hcell⟩ := hE.2.2 hn
  rw [hA] at hA'
  injection hA' with hA'
  injection hA' with e1 e2
  subst e1 e2
  have hne : g ≠ b := by
    rintro rfl
    rw [hR.cell] at hc
    have h3 : ∀ i : Nat, (#[Value.int .i64 0, Value.int .i64 0, Value.slice none 0 0] : Array Value)[i]? ≠ some (.string x) := by
      intro i
      match i with
      | 0 => simp
      | 1 => simp
      | 2 => simp
      | i + 3 => simp
    exact h3 _ hc
  refine ⟨b, o, hA, hb, fun j u hu => ?_⟩
  rw [World.cell?_setCell_far _ _ _ _ hne, World.cell?_setCell_far _ _ _ _ hne, World.cell?_setCell_far _ _ _ _ hne]
  exact hcell j u hu

set_option maxRecDepth 100000 in
set_option maxHeartbeats 1000000 in
theorem rdecode_any (z : Int) (d : ByteArray) (w : World) : Calls Try.prog 12 #[.int .i64 z, .string d] w (DecR (decLv z d) (decNx z d) (decEs z d) (decE z d) w) := by
  cases hsz : szB z with
  | false =>
    have HO := Lib.hid (dec_sz (d := d) hsz)
    have HSZ := Lib.hid hsz
    clear hsz
    go_enter Try.func12, Try.ntmps12
    go_wp2_with fail
    refine (risSize_any z _).mono ?_
    rintro e w' ⟨rfl, rfl⟩
    rw [HSZ.out]
    go_wp2_with fail
    refine bodyPost_ret (v := .tuple #[.agg #[.int .i64 0, .int .i64 0, .slice none 0 0], .int .i64 1]) (by simp [results, Try.results12, go_sem]) rfl ?_
    exact dec_no HO.out 1 (by rw [HSZ.out]; rfl) ((Below.refl _ _).alloc (Nat.le_refl _) _)
  | true =>
  have HSZ := Lib.hid hsz
  by_cases hl : (d.size : Int) = z
  rotate_left
  · have HO := Lib.hid (dec_len hl)
    have hd : ¬ ((d.size : Int) = z) := hl
    clear hsz hl
    go_enter Try.func12, Try.ntmps12
    go_wp2_with fail
    refine (risSize_any z _).mono ?_
    rintro e w' ⟨rfl, rfl⟩
    rw [HSZ.out]
    go_wp2_with fail
    refine bodyPost_ret (v := .tuple #[.agg #[.int .i64 0, .int .i64 0, .slice none 0 0], .int .i64 11]) (by simp [results, Try.results12, go_sem]) rfl ?_
    exact dec_no HO.out 11 (by rw [HSZ.out]; rfl) ((Below.refl _ _).alloc (Nat.le_refl _) _)
  subst hl
  have hz1 : 128 ≤ d.size ∧ d.size ≤ 512 := by unfold szB at hsz; simp at hsz; omega
  obtain ⟨hz1, hz2⟩ := hz1
  obtain ⟨LV, hLV⟩ : ∃ L, dLv d = L := ⟨_, rfl⟩
  obtain ⟨NX, hNX⟩ : ∃ L, dNx d = L := ⟨_, rfl⟩
  obtain ⟨CN, hCN⟩ : ∃ L, dCnt d = L := ⟨_, rfl⟩
  have hd00 : drB d 0 = d := by apply ba_ext; rw [drB_list, List.drop_zero]
  have hd0 : (d[0]).toNat = LV := by
    rw [← hLV, ← rdN_one d 0 (by omega), hd00]; rfl
  have hd5 : (d[5]).toNat = CN := by
    rw [← hCN, ← rdN_one d 5 (by omega)]; unfold dCnt; rw [drB_drB]
  clear hd00
  have HN1 : Hid (rdN (drB d 1) 4 = NX) := Lib.hid hNX
  have HLV := Lib.hid hLV
  have HNX := Lib.hid hNX
  have HCN := Lib.hid hCN
  have hc0 := (d[5]).toNat_lt
  rw [hd5] at hc0
  have i0 : (0 : Int) < (d.size : Int) := by omega
  have hpos : 0 < d.size := by omega
  have i5 : (5 : Int) < (d.size : Int) := by omega
  have l0 := (d[0]).toNat_lt
  rw [hd0] at l0
  have w0 : IntKind.i64.wrap (LV : Int) = (LV : Int) := by rw [IntKind.wrap_i64]; omega
  have w5 : IntKind.i64.wrap (CN : Int) = (CN : Int) := by rw [IntKind.wrap_i64]; omega
  have HNU : Hid (∀ W, Calls Try.prog 34 #[.string d, .int .i64 1] W fun e w' => e = .returned (.int .i64 NX) ∧ ∃ d, w' = W.drewN d) := Lib.hid (fun W => rnumber_is (k := 1) (n := NX) (by omega) (by omega) HN1.out 1 rfl)
  have HD5 := Lib.hid hd5
  clear hLV hNX hCN hsz hd5 i5 w5
  go_enter Try.func12, Try.ntmps12
  go_wp2_with fail
  refine (risSize_any _ _).mono ?_
  rintro e w' ⟨rfl, rfl⟩
  rw [HSZ.out]
  go_upto_region 5 with (fail)
  go_cut [6] (fun s6 wx => ∃ g, s6 = .pointer (some ⟨g, 0, none⟩) ∧ w.heap.size ≤ g ∧ w.heap.size ≠ g ∧ Blk wx g 25 #[.int .i64 LV, .int .i64 NX, .slice none 0 0] ∧ Blk wx w.heap.size 25 #[.int .i64 0, .int .i64 0, .slice none 0 0] ∧ Below w.heap.size w wx)
  case first =>
    have HA : Hid (∀ k : Nat, Blk (((w.alloc (.cells #[.int .i64 0, .int .i64 0, .slice none 0 0] 25)).drewN k).alloc (.cells #[.int .i64 LV, .int .i64 NX, .slice none 0 0] 25)) (w.heap.size + 1) 25 #[.int .i64 LV, .int .i64 NX, .slice none 0 0] ∧ Blk (((w.alloc (.cells #[.int .i64 0, .int .i64 0, .slice none 0 0] 25)).drewN k).alloc (.cells #[.int .i64 LV, .int .i64 NX, .slice none 0 0] 25)) w.heap.size 25 #[.int .i64 0, .int .i64 0, .slice none 0 0] ∧ Below w.heap.size w (((w.alloc (.cells #[.int .i64 0, .int .i64 0, .slice none 0 0] 25)).drewN k).alloc (.cells #[.int .i64 LV, .int .i64 NX, .slice none 0 0] 25))) := Lib.hid (fun k => by
      have b := below_drewN ((Below.refl w.heap.size w).alloc (Nat.le_refl _) (.cells #[.int .i64 0, .int .i64 0, .slice none 0 0] 25)) k
      refine ⟨?_, ((Blk.new w 25 #[.int .i64 0, .int .i64 0, .slice none 0 0]).drewN k).alloc _, b.alloc b.size _⟩
      have h := Blk.new ((w.alloc (.cells #[.int .i64 0, .int .i64 0, .slice none 0 0] 25)).drewN k) 25 #[.int .i64 LV, .int .i64 NX, .slice none 0 0]
      have e : ((w.alloc (.cells #[.int .i64 0, .int .i64 0, .slice none 0 0] 25)).drewN k).heap.size = w.heap.size + 1 := by show (w.alloc (.cells #[.int .i64 0, .int .i64 0, .slice none 0 0] 25)).heap.size = _; simp
      rw [e] at h
      exact h)
    have HB : Hid (∀ k : Nat, Blk ((((((w.alloc (.cells #[.int .i64 0, .int .i64 0, .slice none 0 0] 25)).alloc (.cells #[.int .i64 0, .int .i64 0, .slice none 0 0] 25)).drewN k).setCell ⟨w.heap.size + 1, 0, none⟩ (.int .i64 LV)).setCell ⟨w.heap.size + 1, 1, none⟩ (.int .i64 NX)).setCell ⟨w.heap.size + 1, 2, none⟩ (.slice none 0 0)) (w.heap.size + 1) 25 #[.int .i64 LV, .int .i64 NX, .slice none 0 0] ∧ Blk ((((((w.alloc (.cells #[.int .i64 0, .int .i64 0, .slice none 0 0] 25)).alloc (.cells #[.int .i64 0, .int .i64 0, .slice none 0 0] 25)).drewN k).setCell ⟨w.heap.size + 1, 0, none⟩ (.int .i64 LV)).setCell ⟨w.heap.size + 1, 1, none⟩ (.int .i64 NX)).setCell ⟨w.heap.size + 1, 2, none⟩ (.slice none 0 0)) w.heap.size 25 #[.int .i64 0, .int .i64 0, .slice none 0 0] ∧ Below w.heap.size w ((((((w.alloc (.cells #[.int .i64 0, .int .i64 0, .slice none 0 0] 25)).alloc (.cells #[.int .i64 0, .int .i64 0, .slice none 0 0] 25)).drewN k).setCell ⟨w.heap.size + 1, 0, none⟩ (.int .i64 LV)).setCell ⟨w.heap.size + 1, 1, none⟩ (.int .i64 NX)).setCell ⟨w.heap.size + 1, 2, none⟩ (.slice none 0 0))) := Lib.hid (fun k => by
      have b := below_drewN (((Below.refl w.heap.size w).alloc (Nat.le_refl _) (.cells #[.int .i64 0, .int .i64 0, .slice none 0 0] 25)).alloc (by simp) (.cells #[.int .i64 0, .int .i64 0, .slice none 0 0] 25)) k
      have h := Blk.new (w.alloc (.cells #[.int .i64 0, .int .i64 0, .slice none 0 0] 25)) 25 #[.int .i64 0, .int .i64 0, .slice none 0 0]
      have e : (w.alloc (.cells #[.int .i64 0, .int .i64 0, .slice none 0 0] 25)).heap.size = w.heap.size + 1 := by simp
      rw [e] at h
      refine ⟨?_, (((((Blk.new w 25 #[.int .i64 0, .int .i64 0, .slice none 0 0]).alloc _).drewN k).far (by simp) _).far (by simp) _).far (by simp) _, ((b.setCell (by simp) _).setCell (by simp) _).setCell (by simp) _⟩
      have h2 := ((((h.drewN k).set 0 (.int .i64 LV)).set 1 (.int .i64 NX)).set 2 (.slice none 0 0))
      exact h2)
    go_region_held3 (fun _ => True) (trivial) ((go_at_call 34; refine (HNU.out _).mono ?_; rintro e wq ⟨rfl, dd, rfl⟩))
    all_goals
      go_wp2_with fail
      go_meet
      first
        | with_reducible exact ⟨w.heap.size + 1, rfl, Nat.le_succ _, Nat.ne_of_lt (Nat.lt_succ_self _), HA.out _⟩
        | with_reducible exact ⟨w.heap.size + 1, rfl, Nat.le_succ _, Nat.ne_of_lt (Nat.lt_succ_self _), HB.out _⟩
  case rest =>
    obtain ⟨g, rfl, hge, hgn, hG, hR, hbel⟩ := hcut
    have hd5 := HD5.out
    have h5 : 5 < d.size := by omega
    have i5 : (5 : Int) < (d.size : Int) := by omega
    have w5 : IntKind.i64.wrap (CN : Int) = (CN : Int) := by rw [IntKind.wrap_i64]; omega
    have HG := Lib.hid hG
    have HR := Lib.hid hR
    have HBE := Lib.hid hbel
    have HGE : Hid (w.heap.size ≤ g) := Lib.hid hge
    have HGN : Hid (w.heap.size ≠ g) := Lib.hid hgn
    clear hge hgn
    clear hG hR hbel hd0 w0 HNU i0
    go_wp2_with fail
    go_loopw [7, 8, 9] (fun s7 s8 s9 wr => ∃ (j a : Nat) (A : Option Addr) (c : Nat), j ≤ CN ∧ s9 = .int .i64 j ∧ s7 = .int .i64 a ∧ s8 = .string (pst d j).2.1 ∧ (pst d j).1 = drB d a ∧ a ≤ d.size ∧ Blk wr g 25 #[.int .i64 LV, .int .i64 NX, .slice A j c] ∧ Es wr wr.heap.size A j c (pst d j).2.2 ∧ Blk wr w.heap.size 25 #[.int .i64 0, .int .i64 0, .slice none 0 0] ∧ Below w.heap.size w wr) (fun _ _ s9 _ => CN - (intOf s9).toNat)
    case atStart => exact ⟨0, 6, none, 0, Nat.zero_le _, rfl, rfl, rfl, pst_start d, by omega, HG.out, es_nil, HR.out, HBE.out⟩
    case round =>
      obtain ⟨j, a, A, c, hj, rfl, rfl, rfl, hpos1, ha, hG, hE, hR, hbel⟩ := hrel
      have hbs := pst_size d j
      have hNO : decOk d.size d = true → j < CN → rdN (drB d a) 1 ≤ (pst d j).2.1.size ∧ stepM (drB d a) + 6 ≤ (drB d a).size := by
        intro h1 h2
        have := no_exit h1 (j := j) (by rw [HCN.out]; exact h2)
        rw [hpos1] at this
        exact this
      have hsz : (drB d a).size = d.size - a := by rw [← ba_len, drB_list, List.length_drop, ba_len]
      rw [hsz] at hNO
      obtain ⟨bf, hbf⟩ : ∃ bf, (pst d j).2.1 = bf := ⟨_, rfl⟩
      obtain ⟨es, hes⟩ : ∃ es, (pst d j).2.2 = es := ⟨_, rfl⟩
      rw [hbf] at hNO hbs
      rw [hes] at hE
      rw [hbf]
      have HNO := Lib.hid hNO
      have HBF := Lib.hid hbf
      have HES := Lib.hid hes
      have HP1 := Lib.hid hpos1
      have HEE := Lib.hid hE
      have HRR := Lib.hid hR
      have HGG := Lib.hid hG
      have HBL := Lib.hid hbel
      have r0 := hR.cell 0
      have r1 := hR.cell 1
      have r2 := hR.cell 2
      have rf := hR.free
      have g0 := hG.cell 0
      have g1 := hG.cell 1
      have g2 := hG.cell 2
      have gf := hG.free
      have ltg := hG.lt
      have ltr := hR.lt
      simp at r0 r1 r2 g0 g1 g2
      clear hNO hbf hes hpos1 hE hR hG hbel hsz
      by_cases hlt : j < CN
      · have wa2 : IntKind.i64.wrap ((a : Int) + 2) = (a : Int) + 2 := by rw [IntKind.wrap_i64]; omega
        by_cases ha2 : a + 2 ≤ d.size
        rotate_left
        · have HO : Hid (decOk d.size d = false) := Lib.hid (by
            cases hq : decOk d.size d with
            | false => rfl
            | true => have := HNO.out hq hlt; omega)
          have d2 : decide ((d.size : Int) < (a : Int) + 2) = true := by simp; omega
          go_wp2_with fail
          refine bodyPost_ret (v := .tuple #[.agg #[.int .i64 0, .int .i64 0, .slice none 0 0], .int .i64 11]) (by simp [results, Try.results12, go_sem, *]) rfl ?_
          exact dec_no HO.out 11 (by rw [HSZ.out]; rfl) (((HBL.out.setCell (Nat.le_refl _) _).setCell (Nat.le_refl _) _).setCell (Nat.le_refl _) _)
        have d2 : decide ((d.size : Int) < (a : Int) + 2) = false := by simp; omega
        have hFa : a < d.size := by omega
        have hMa : a + 1 < d.size := by omega
        obtain ⟨F, hF⟩ : ∃ F, (d[a]).toNat = F := ⟨_, rfl⟩
        obtain ⟨M, hM⟩ : ∃ M, (d[a + 1]).toNat = M := ⟨_, rfl⟩
        have hF2 : rdN (drB d a) 1 = F := by rw [rdN_one d a hFa, hF]
        have hM2 : stepM (drB d a) = M := by rw [step_m, rdN_one d (a + 1) hMa, hM]
        have hF3 := (d[a]).toNat_lt
        have hM3 := (d[a + 1]).toNat_lt
        rw [hF] at hF3
        rw [hM] at hM3
        have HF2 := Lib.hid hF2
        have HM2 := Lib.hid hM2
        have ia : (0 : Int) ≤ (a : Int) := by omega
        have ia2 : (a : Int) < (d.size : Int) := by omega
        have ib : (0 : Int) ≤ (a : Int) + 1 := by omega
        have ib2 : (a : Int) + 1 < (d.size : Int) := by omega
        have ta1 : ((a : Int) + 1).toNat = a + 1 := by omega
        have wa1 : IntKind.i64.wrap ((a : Int) + 1) = (a : Int) + 1 := by rw [IntKind.wrap_i64]; omega
        have wF : IntKind.i64.wrap (F : Int) = (F : Int) := by rw [IntKind.wrap_i64]; omega
        have wM : IntKind.i64.wrap (M : Int) = (M : Int) := by rw [IntKind.wrap_i64]; omega
        clear hF2 hM2
        go_upto_region 12 with (fail)
        go_cut [10, 11] (fun s10 s11 wx => s10 = .int .i64 F ∧ s11 = .int .i64 M ∧ ∃ k, wx = wr.drewN k)
        case first =>
          go_quiet (fail)
          go_wp2
          go_meet
          exact ⟨rfl, rfl, _, rfl⟩
        case rest =>
          obtain ⟨rfl, rfl, dk, rfl⟩ := hcut
          have w22 : IntKind.i64.wrap ((a : Int) + 2 + (M : Int)) = (a : Int) + 2 + (M : Int) := by rw [IntKind.wrap_i64]; omega
          have w23 : IntKind.i64.wrap ((a : Int) + 2 + (M : Int) + 4) = (a : Int) + 2 + (M : Int) + 4 := by rw [IntKind.wrap_i64]; omega
          clear hF hM ia ia2 ib ib2 ta1 wa1 wF wM
          by_cases hFb : bf.size < F
          · have HO : Hid (decOk d.size d = false) := Lib.hid (by
              cases hq : decOk d.size d with
              | false => rfl
              | true => have := HNO.out hq hlt; rw [HF2.out] at this; omega)
            have e1 : decide (bf.size < F) = true := by simp; omega
            have e2 : decide ((bf.size : Int) < (F : Int)) = true := by simp; omega
            go_wp2_with fail
            refine bodyPost_ret (v := .tuple #[.agg #[.int .i64 0, .int .i64 0, .slice none 0 0], .int .i64 11]) (by simp [results, Try.results12, go_sem, *]) rfl ?_
            exact dec_no HO.out 11 (by rw [HSZ.out]; rfl) (((((below_drewN HBL.out dk).setCell (Nat.le_refl _) _).setCell (Nat.le_refl _) _).setCell (Nat.le_refl _) _))
          have e1 : decide (bf.size < F) = false := by simp; omega
          have e2 : decide ((bf.size : Int) < (F : Int)) = false := by simp; omega
          by_cases hMb : d.size < a + 2 + M + 4
          · have HO : Hid (decOk d.size d = false) := Lib.hid (by
              cases hq : decOk d.size d with
              | false => rfl
              | true => have := HNO.out hq hlt; rw [HM2.out] at this; omega)
            have e3 : decide ((d.size : Int) < (a : Int) + 2 + (M : Int) + 4) = true := by simp; omega
            go_wp2_with fail
            refine bodyPost_ret (v := .tuple #[.agg #[.int .i64 0, .int .i64 0, .slice none 0 0], .int .i64 11]) (by simp [results, Try.results12, go_sem, *]) rfl ?_
            exact dec_no HO.out 11 (by rw [HSZ.out]; rfl) (((((below_drewN HBL.out dk).setCell (Nat.le_refl _) _).setCell (Nat.le_refl _) _).setCell (Nat.le_refl _) _))
          have e3 : decide ((d.size : Int) < (a : Int) + 2 + (M : Int) + 4) = false := by simp; omega
          obtain ⟨P1, hP1⟩ : ∃ P, bf.extract 0 F = P := ⟨_, rfl⟩
          obtain ⟨P2, hP2⟩ : ∃ P, d.extract (a + 2) (a + 2 + M) = P := ⟨_, rfl⟩
          have HX : Hid (stepB (drB d a) bf = P1 ++ P2) := Lib.hid (by rw [step_b (by rw [HF2.out]; omega), HF2.out, HM2.out, hP1, hP2])
          obtain ⟨PG, hPG⟩ : ∃ P, rdN (drB d (a + 2 + M)) 4 = P := ⟨_, rfl⟩
          have HST : Hid (stepR (drB d a) = drB d (a + 2 + M)) := Lib.hid (by rw [step_r, HM2.out])
          have HPG := Lib.hid hPG
          have HNB : Hid (∀ W, Calls Try.prog 34 #[.string d, .int .i64 ((a : Int) + 2 + (M : Int))] W fun e w' => e = .returned (.int .i64 PG) ∧ ∃ d, w' = W.drewN d) := Lib.hid (fun W => rnumber_is (k := a + 2 + M) (n := PG) (by omega) (by omega) HPG.out _ (by omega))
          have q1 : P1.size ≤ 600 := by rw [← hP1, ByteArray.size_extract]; omega
          have q2 : P2.size ≤ 600 := by rw [← hP2, ByteArray.size_extract]; omega
          have q3 : P1.size + P2.size ≤ 9223372036854775807 := by omega
          have f1 : (0 : Int) ≤ (F : Int) := by omega
          have f2 : (F : Int) ≤ (bf.size : Int) := by omega
          have f3 : (0 : Int) ≤ (a : Int) + 2 := by omega
          have f4 : (a : Int) + 2 ≤ (a : Int) + 2 + (M : Int) := by omega
          have f5 : (a : Int) + 2 + (M : Int) ≤ (d.size : Int) := by omega
          have t2 : ((a : Int) + 2).toNat = a + 2 := by omega
          have t3 : ((a : Int) + 2 + (M : Int)).toNat = a + 2 + M := by omega
          clear hPG q1 q2
          go_upto_region 15 with (fail)
          go_cut [8] (fun s8 wx => s8 = .string (P1 ++ P2) ∧ ∃ k, wx = wr.drewN k)
          case first =>
            go_quiet (fail)
            go_wp2
            go_meet
            exact ⟨rfl, _, World.drewN_drewN _ _ _⟩
          case rest =>
            obtain ⟨rfl, dm, rfl⟩ := hcut
            clear hP1 hP2 f1 f2 f3 f4 f5 t2 t3 e1 e2 e3 q3
            obtain ⟨X, hX⟩ : ∃ X, P1 ++ P2 = X := ⟨_, rfl⟩
            rw [hX] at HX ⊢
            clear hX
            obtain ⟨i0, hi0, hz0, hzs, hzb⟩ := info_parts Try.info34
            have hE : Es (wr.drewN dm) (wr.drewN dm).heap.size A j c es := HEE.out
            have hG := HGG.out.drewN dm
            have hR := HRR.out.drewN dm
            have hB := below_drewN HBL.out dm
            generalize wr.drewN dm = W at *
            clear HEE HGG HRR HBL r0 r1 r2 rf g0 g1 g2 gf ltg ltr
            have g2 := hG.cell 2
            have ltg := hG.lt
            have ltr := hR.lt
            simp at g2
            have HO1 := Lib.hid (World.ownsRow_lit (e := 34) (base := W.heap.size) (size := 2) W #[] 0 (Nat.le_refl _) (by decide) rfl)
            have HR1 := Lib.hid (hE.2.alloc (Nat.le_refl _) (.cells #[] 34))
            have H1 := Lib.hid (eCells_one es)
            have H2 : Hid (∀ u ∈ ([.string X, .int .i64 PG] : List Value), u.oneCell' = true) := Lib.hid (ent_one _ _)
            have HEW := Lib.hid hE
            have HGW := Lib.hid hG
            have HRW := Lib.hid hR
            have HBW := Lib.hid hB
            clear hE hG hR hB
            have w61 : IntKind.i64.wrap ((a : Int) + 6) = (a : Int) + 6 := by rw [IntKind.wrap_i64]; omega
            have w62 : IntKind.i64.wrap ((a : Int) + 6 + (M : Int)) = (a : Int) + 6 + (M : Int) := by rw [IntKind.wrap_i64]; omega
            go_wp2_with (at_builtin; go_must (refine wpList_app _ rfl _ _ 23 rfl W.heap.size 34 i0 _ 2 24 Try.underlying23 hi0 hz0 hzs hzb rfl (by decide) _ _ _ rfl HO1.out W.heap.size A j c (eCells es) rfl HR1.out H1.out (by simp only [maxLen]; omega) (by omega) (by simp) ?_))
            intro v2 w2 hown2 hgr2 _
            have ho2 : w2.ownsRow W.heap.size 34 2 v2 j (eCells es) := by simpa using hown2
            have hb2 : Below W.heap.size W w2 := ((Below.refl _ _).alloc (Nat.le_refl _) _).grown hgr2 (by simp) (by intro k hk; simp [Value.ownBlock] at hk; omega)
            have hG2 := HGW.out.below hb2 ltg
            have sz2 := hb2.size
            have HO2 := Lib.hid ho2
            have HB2 := Lib.hid hb2
            clear hown2 hgr2 ho2 hb2
            go_wp2_with fail
            refine (HNB.out _).mono ?_
            rintro e wq ⟨rfl, dn, rfl⟩
            have ho3 : (w2.drewN dn).ownsRow W.heap.size 34 2 v2 j (eCells es) := HO2.out
            have hb3 := below_drewN HB2.out dn
            have sz3 : W.heap.size ≤ (w2.drewN dn).heap.size := sz2
            generalize w2.drewN dn = w3 at *
            have hG3 := HGW.out.below hb3 ltg
            have g3 := hG3.cell 2
            simp at g3
            have ltg3 := hG3.lt
            have HO3 := Lib.hid (ho3.alloc (.cells #[.string X, .int .i64 PG] 34))
            have HR3 := Lib.hid (rd_new w3 [.string X, .int .i64 PG] 34 1 2 rfl)
            have HO3' := Lib.hid ho3
            have HB3 := Lib.hid hb3
            clear ho3 hb3 hG2 hG3 HO2 HB2 g2
            go_wp2_with (at_builtin; go_must (refine wpList_app _ rfl _ _ 23 rfl W.heap.size 34 i0 _ 2 24 Try.underlying23 hi0 hz0 hzs hzb rfl (by decide) v2 j (eCells es) rfl HO3.out (w3.heap.size + 1) (some ⟨w3.heap.size, 0, none⟩) 1 1 [.string X, .int .i64 PG] rfl HR3.out H2.out (by simp only [maxLen]; omega) (by omega) (by simp; omega) ?_))
            intro v4 w4 ho4 hgr4 _
            have hb4 : Below W.heap.size W w4 := (HB3.out.alloc sz3 _).grown hgr4 (by simp; omega) (own_row HO3'.out (Nat.le_refl _))
            have ho4' : w4.ownsRow W.heap.size 34 2 v4 (j + 1) (eCells (es ++ [(X, (PG : Int))])) := by rw [eCells_snoc]; exact ho4
            obtain ⟨A4, c4, rfl, hc4, _⟩ := own_form ho4'
            have hG4 := HGW.out.below hb4 ltg
            have hR4 := HRW.out.below hb4 ltr
            have g4 := hG4.cell 2
            have gf4 := hG4.free
            simp at g4
            have HG4 := Lib.hid hG4
            have HR4 := Lib.hid hR4
            have HO4 := Lib.hid ho4'
            have HB4 := Lib.hid (below_next HBW.out hb4 HBW.out.size)
            have hgw : w.heap.size ≤ g := HGE.out
            have hgne : w.heap.size ≠ g := HGN.out
            clear ho4 hgr4 hb4 ho4' hG4 hR4 g3
            go_wp2_with fail
            go_roundw
            case rel =>
              have e1 : (pst d (j + 1)).1 = drB d (a + 6 + M) := by
                show drB (stepR (pst d j).1) 4 = _
                rw [HP1.out, HST.out, drB_drB, show a + 2 + M + 4 = a + 6 + M from by omega]
              have e2 : (pst d (j + 1)).2.1 = X := by
                show stepB (pst d j).1 (pst d j).2.1 = _
                rw [HP1.out, HBF.out, HX.out]
              have e3 : (pst d (j + 1)).2.2 = es ++ [(X, (PG : Int))] := by
                show (pst d j).2.2 ++ [(stepB (pst d j).1 (pst d j).2.1, (rdN (stepR (pst d j).1) 4 : Int))] = _
                rw [HES.out, HP1.out, HBF.out, HX.out, HST.out, HPG.out]
              refine ⟨j + 1, a + 6 + M, A4, c4, by omega, by go_num, by go_num, by rw [e2], e1, by omega, ?_, ?_, HR4.out.far hgne _, HB4.out.setCell hgw _⟩
              · simpa using HG4.out.set 2 (.slice A4 (j + 1) c4)
              · rw [e3]
                exact ⟨hc4, Rd.of_own (ownsRow_setCell_below HO4.out ltg _)⟩
            case measure => simp [intOf]; omega
      · obtain rfl : j = CN := by omega
        have hE2 : dEs d = es := by unfold dEs; rw [HCN.out, HES.out]
        have REN := Lib.hid (rencode_any d.size LV NX A j c es)
        unfold EncR at REN
        obtain ⟨s, hs⟩ : ∃ s, encS d.size LV NX es = s := ⟨_, rfl⟩
        obtain ⟨er, her⟩ : ∃ er, encE d.size LV NX es = er := ⟨_, rfl⟩
        rw [hs, her] at REN
        have HDK : Hid (decOk d.size d = decide (er = 0 ∧ s = d)) := Lib.hid (by
          unfold decOk
          rw [HSZ.out, HLV.out, HNX.out, hE2, hs, her]
          simp)
        have HE2 := Lib.hid hE2
        have HLE := Lib.hid HEE.out.len
        clear hE2 hs her
        go_wp2_with fail
        refine (REN.out _ HEE.out (by omega)).mono ?_
        rintro e w2 ⟨rfl, hb2⟩
        have hR := HRR.out.below hb2 ltr
        have hG := HGG.out.below hb2 ltg
        have HE3 := Lib.hid (HEE.out.after hb2)
        have HR3 := Lib.hid hR
        have HB3 := Lib.hid (below_next HBL.out hb2 HBL.out.size)
        clear r0 r1 r2 rf g0 g1 g2 gf hb2
        have r0 := hR.cell 0
        have r1 := hR.cell 1
        have r2 := hR.cell 2
        have rf := hR.free
        have g0 := hG.cell 0
        have g1 := hG.cell 1
        have g2 := hG.cell 2
        simp at r0 r1 r2 g0 g1 g2
        clear hR hG
        by_cases he0 : er = 0
        · subst he0
          by_cases hsd : s = d
          · subst hsd
            have HOK : Hid (decOk s.size s = true) := Lib.hid (by rw [HDK.out]; simp)
            go_wp2_with fail
            refine bodyPost_ret (v := .tuple #[.agg #[.int .i64 LV, .int .i64 NX, .slice A j c], .int .i64 0]) (by simp [results, Try.results12, go_sem, *]) rfl ?_
            unfold DecR decLv decNx decEs decE
            simp only [HOK.out, HLV.out, HNX.out, HE2.out, HLE.out, if_true]
            refine ⟨A, c, rfl, es_box3 HE3.out HR3.out _ _ _, (((HB3.out.setCell (Nat.le_refl _) _).setCell (Nat.le_refl _) _).setCell (Nat.le_refl _) _)⟩
          · have HO : Hid (decOk d.size d = false) := Lib.hid (by rw [HDK.out]; simp [hsd])
            have l1 : (s.toList == d.toList) = false := by rw [beq_ba]; simp [hsd]
            have l2 : ¬ s.toList = d.toList := fun e => hsd (ba_inj e)
            clear hsd
            go_wp2_with fail
            refine bodyPost_ret (v := .tuple #[.agg #[.int .i64 0, .int .i64 0, .slice none 0 0], .int .i64 11]) (by simp [results, Try.results12, go_sem, *]) rfl ?_
            exact dec_no HO.out 11 (by rw [HSZ.out]; rfl) (((HB3.out.setCell (Nat.le_refl _) _).setCell (Nat.le_refl _) _).setCell (Nat.le_refl _) _)
        · have HO : Hid (decOk d.size d = false) := Lib.hid (by rw [HDK.out]; simp [he0])
          go_wp2_with fail
          refine bodyPost_ret (v := .tuple #[.agg #[.int .i64 0, .int .i64 0, .slice none 0 0], .int .i64 11]) (by simp [results, Try.results12, go_sem, *]) rfl ?_
          exact dec_no HO.out 11 (by rw [HSZ.out]; rfl) (((HB3.out.setCell (Nat.le_refl _) _).setCell (Nat.le_refl _) _).setCell (Nat.le_refl _) _)
end Go.Proofs.Ytjfinkfikebjbaa
