/- Insert of the reference, where it inserts. -/
import Derived.Test.YtjfinkfikebjbaaRc
namespace Go.Proofs.Ytjfinkfikebjbaa
open Go.RowKit
attribute [local go_sem ↓] Go.wp_at_zero Go.wp_at_succ

set_option maxRecDepth 100000 in
set_option maxHeartbeats 4000000 in
theorem rinsert_ok (lv nx : Int) (A : Option Addr) (n c : Nat) (es : List Ent) (k : Nat) (x : ByteArray) (p : Int) (w : World) (hs : Es w w.heap.size A n c es) (hn : n ≤ 9223372036854775807) (he : insErr lv nx es (k : Int) x p = 0) :
    Calls Try.prog 26 #[.agg #[.int .i64 lv, .int .i64 nx, .slice A n c], .int .i64 k, .string x, .int .i64 p] w fun r w' => ∃ A' c', r = .returned (.tuple #[.agg #[.int .i64 lv, .int .i64 nx, .slice A' (n + 1) c'], .int .i64 0]) ∧ Es w' w'.heap.size A' (n + 1) c' (insP es k x p) ∧ Below w.heap.size w w' := by
  have HS := Lib.hid hs
  have HL := Lib.hid hs.len
  obtain ⟨hp, c1, k', hkk, c3, x0, x3, hz, hy, n0⟩ := insErr_ok he
  obtain rfl : k = k' := by omega
  clear hkk he
  rw [HL.out] at c3 n0
  have hlen := plain_len hp
  rw [HL.out] at hlen
  obtain ⟨hn1, hn2⟩ := hlen
  clear hs
  go_enter Try.func26, Try.ntmps26
  go_wp2_with fail
  refine (isnode_is' hp (Nb.start lv nx HS.out).e hn).mono ?_
  rintro r w1 ⟨rfl, hb1⟩
  have nb := (Nb.start lv nx HS.out).next hb1
  have NB := Lib.hid nb
  have lt0 := nb.u0.lt
  have lt1 := nb.u1.lt
  have k0 := nb.u0.cell 0
  have k1 := nb.u0.cell 1
  have k2 := nb.u0.cell 2
  simp at k0 k1 k2
  clear nb hb1
  have HP := Lib.hid hp
  clear hp
  obtain ⟨p1, p2⟩ := c1
  have pd1 : decide (p < 1) = false := by simp; omega
  have pd2 : decide (16777216 < p) = false := by simp; omega
  have d3 : decide ((n : Int) ≤ (k : Int)) = false := by simp; omega
  have d5 : ((n : Int) == 120) = false := by simp; omega
  obtain ⟨b, o, y, q, rfl, hb, hg, hc, hc2⟩ := NB.out.e.cell c3
  have hent := entAt_get hg
  rw [hent] at hy
  have hyk : y.size = 0 ↔ k + 1 = n := by
    obtain ⟨m, hm⟩ : ∃ m, es.length = m + 1 := ⟨es.length - 1, by rw [HL.out]; omega⟩
    have q := ((entB_parts (es := es) (j := k) hm).1 ((plain_yes HP.out).2.2.2.2.2.2 k (by rw [HL.out]; exact c3))).2.2.1
    rw [hent] at q
    have := HL.out
    exact ⟨fun h => by have := q.1 h; omega, fun h => q.2 (by omega)⟩
  have HYK := Lib.hid hyk
  clear hyk
  have HENT := Lib.hid hent
  have HG := Lib.hid hg
  have hnc := NB.out.e.1
  obtain ⟨i0, hi0, hz0, hz1, hz2⟩ := info_parts Try.info34
  have HR1 := Lib.hid ((NB.out.e.2.take (k := k) (by omega)).alloc (Nat.le_refl _) (.cells #[] 34))
  rw [eCells_take] at HR1
  have HO1 := Lib.hid (World.ownsRow_lit (e := 34) (base := w1.heap.size) (size := 2) w1 #[] 0 (Nat.le_refl _) (by decide) rfl)
  have H1 := Lib.hid (eCells_one (es.take k))
  have H4 : Hid (∀ u ∈ ([.string x, .int .i64 q, .string y, .int .i64 p] : List Value), u.oneCell' = true) := Lib.hid (eCells_one [(x, q), (y, p)])
  have H7 := Lib.hid (eCells_one (es.drop (k + 1)))
  clear hg hent n0
  obtain ⟨x1, x2⟩ := full_list x0
  have d4 : decide (32 < (x.size : Int)) = false := by simp; omega
  have X0 := Lib.hid x0
  clear x0 x3
  have HZ := Lib.hid hz
  have HY := Lib.hid hy
  clear hz hy
  cases k with
  | zero =>
    have hc0 : w1.cell? ⟨b, o, none⟩ = some (.string y) := by simpa using hc
    have hc20 : w1.cell? ⟨b, o + 1, none⟩ = some (.int .i64 q) := by simpa using hc2
    by_cases y0 : y.size = 0
    · have dl : decide ((0 : Int) < (n : Int) - 1) = false := by have := HYK.out.1 y0; simp; omega
      have dl2 : decide (1 < n) = false := by have := HYK.out.1 y0; simp; omega
      have dl3 : decide ((1 : Int) < (n : Int)) = false := by have := HYK.out.1 y0; simp; omega
      clear y0
      go_wp2_with (at_builtin; go_must (refine wpList_app _ rfl _ _ 23 rfl w1.heap.size 34 i0 _ 2 24 Try.underlying23 hi0 hz0 hz1 hz2 rfl (by decide) _ _ _ rfl HO1.out w1.heap.size (some ⟨b, o, none⟩) 0 c (eCells (es.take 0)) rfl HR1.out H1.out (by simp only [maxLen]; omega) (by omega) (by simp) ?_))
      intro v2 w2 hown2 hgr2 _
      have ho2 : w2.ownsRow w1.heap.size 34 2 v2 0 (eCells (es.take 0)) := by simpa using hown2
      have hb2 : Below w1.heap.size w1 w2 := ((Below.refl _ _).alloc (Nat.le_refl _) _).grown hgr2 (by simp) (by intro k hk; simp [Value.ownBlock] at hk; omega)
      have nb2 := NB.out.next hb2
      have q2 := nb2.u0.cell 2
      have sz2 := hb2.size
      have qa := (hb2.cell (p := ⟨b, o, none⟩) hb).trans hc0
      have qb := (hb2.cell (p := ⟨b, o + 1, none⟩) hb).trans hc20
      have ltb : b < w2.heap.size := by omega
      have lt2 : w.heap.size < w2.heap.size := by omega
      simp at q2
      have HO2 := Lib.hid ho2
      have NB2 := Lib.hid nb2
      have HB2 := Lib.hid hb2
      clear hown2 hgr2 ho2 nb2 hb2
      go_wp2_with fail
      go_region_held3 (fun w' => w'.cell? ⟨w.heap.size, 2, none⟩ = some (.slice (some ⟨b, o, none⟩) n c) ∧ w'.cell? ⟨b, o, none⟩ = some (.string y) ∧ w'.cell? ⟨b, o + 1, none⟩ = some (.int .i64 q)) (first | go_keep | exact ⟨k5a, k5b, k5c⟩) (first | (refine step_app _ (by rfl) _ _ 23 (by rfl) w1.heap.size 34 i0 (.agg #[.string ⟨#[]⟩, .int .i64 0]) 2 24 Try.underlying23 hi0 hz0 hz1 hz2 rfl (by decide) v2 0 (eCells (es.take 0)) (by rfl) (HO2.out.drew.alloc _) (w2.heap.size + 1) (some ⟨w2.heap.size, 0, none⟩) 2 2 [.string x, .int .i64 q, .string y, .int .i64 p] (by rfl) (rd_new w2.drew [.string x, .int .i64 q, .string y, .int .i64 p] 34 2 2 rfl) H4.out (by simp only [maxLen]; omega) (by omega) (by simp; omega) ?_; intro v5 w5 ho5 hg5 _; have k5a := ((hg5.cell_far ⟨w.heap.size, 2, none⟩ (Nat.lt_of_lt_of_le lt2 (alloc_le _ _)) (far_own HO2.out lt0)).trans (World.cell?_alloc_lt _ _ _ lt2)).trans q2; have k5b := ((hg5.cell_far ⟨b, o, none⟩ (Nat.lt_of_lt_of_le ltb (alloc_le _ _)) (far_own HO2.out hb)).trans (World.cell?_alloc_lt _ _ _ ltb)).trans qa; have k5c := ((hg5.cell_far ⟨b, o + 1, none⟩ (Nat.lt_of_lt_of_le ltb (alloc_le _ _)) (far_own HO2.out hb)).trans (World.cell?_alloc_lt _ _ _ ltb)).trans qb))
      have ho5' : w5.ownsRow w1.heap.size 34 2 v5 (0 + 2) (eCells (es.take 0) ++ eCells [(x, q), (y, p)]) := ho5
      have hb5 : Below w1.heap.size w1 w5 := (HB2.out.drew.alloc sz2 _).grown hg5 (by simp; omega) (own_row HO2.out (Nat.le_refl _))
      have HO5 := Lib.hid ho5'
      have HB5 := Lib.hid hb5
      have sz5 := hb5.size
      have hrd5 := (NB.out.e.2.below hb5).drop (k := 0 + 1) (cap := c) (by omega) hnc
      rw [eCells_drop] at hrd5
      clear ho5 hg5 ho5' hb5 q2 qa qb
      by_cases hcc : c = 0 + 1
      · obtain rfl : n = 0 + 1 := by omega
        obtain rfl : c = 0 + 1 := hcc
        have hl0 : es.drop (0 + 1) = [] := List.drop_eq_nil_of_le (by rw [HL.out]; exact Nat.le_refl _)
        rw [hl0] at hrd5
        have HL0 := Lib.hid hl0
        clear hrd5 hl0
        go_wp2_with (at_builtin; go_must (refine wpList_app _ rfl _ _ 23 rfl w1.heap.size 34 i0 _ 2 24 Try.underlying23 hi0 hz0 hz1 hz2 rfl (by decide) _ (0 + 2) _ rfl HO5.out w1.heap.size (some ⟨b, o, none⟩) 0 0 [] (by simp [Act.eval]) Rd.none_ (by simp) (by simp only [maxLen]; omega) (by omega) sz5 ?_))
        intro v7 w7 ho7 hg7 _
        have ho7' : w7.ownsRow w1.heap.size 34 2 v7 (0 + 1 + 1) (eCells (insP es 0 x p)) := by
          rw [insP, HENT.out, show es.take 0 ++ (x, q) :: (y, p) :: es.drop (0 + 1) = es.take 0 ++ ([(x, q), (y, p)] ++ es.drop (0 + 1)) from rfl, eCells_append, eCells_append]
          rw [HL0.out, show eCells [] = [] from rfl]; first | (simpa only [List.append_nil, List.append_assoc] using ho7) | (simpa using ho7)
        have hb7 := HB5.out.grown hg7 HB5.out.size (own_row HO5.out (Nat.le_refl _))
        obtain ⟨A7, c7, rfl, hc7, _⟩ := own_form ho7'
        have nb7 := NB.out.next hb7
        have a0 := nb7.u0.cell 0
        have a1 := nb7.u0.cell 1
        have a2 := nb7.u0.cell 2
        have af := nb7.u0.free
        have b0 := nb7.u1.cell 0
        have b1 := nb7.u1.cell 1
        have b2 := nb7.u1.cell 2
        have bf := nb7.u1.free
        simp at a0 a1 a2 b0 b1 b2
        have HO7 := Lib.hid ho7'
        have NB7 := Lib.hid nb7
        clear ho7 hg7 ho7' hb7 nb7 k5a k5b k5c
        go_wp2_with fail
        refine bodyPost_ret (v := .tuple #[.agg #[.int .i64 lv, .int .i64 nx, .slice A7 (0 + 1 + 1) c7], .int .i64 0]) (by simp [results, Try.results26, go_sem, *]) rfl ?_
        have own := ownsRow_setCell_below (ownsRow_setCell_below (ownsRow_setCell_below (ownsRow_setCell_below HO7.out (a := ⟨w.heap.size, 2, none⟩) lt0 (.slice A7 (0 + 1 + 1) c7)) (a := ⟨w.heap.size + 1, 0, none⟩) lt1 (.int .i64 lv)) (a := ⟨w.heap.size + 1, 1, none⟩) lt1 (.int .i64 nx)) (a := ⟨w.heap.size + 1, 2, none⟩) lt1 (.slice A7 (0 + 1 + 1) c7)
        exact ⟨_, _, rfl, ⟨hc7, Rd.of_own own⟩, ((((NB7.out.b.setCell (by simp) _).setCell (by simp) _).setCell (by simp) _).setCell (by simp) _)⟩
      · rw [if_neg hcc] at hrd5
        have hrd6 : Rd w5 w1.heap.size 2 (some ⟨b, o + (0 + 1) * 2, none⟩) (n - (0 + 1)) (eCells (es.drop (0 + 1))) := by simpa [Addr.add] using hrd5
        have HRD := Lib.hid hrd6
        clear hrd5 hrd6
        go_wp2_with (at_builtin; go_must (refine wpList_app _ rfl _ _ 23 rfl w1.heap.size 34 i0 _ 2 24 Try.underlying23 hi0 hz0 hz1 hz2 rfl (by decide) _ (0 + 2) _ rfl HO5.out w1.heap.size (some ⟨b, o + (0 + 1) * 2, none⟩) (n - (0 + 1)) (c - (0 + 1)) (eCells (es.drop (0 + 1))) rfl HRD.out H7.out (by simp only [maxLen]; omega) (by omega) sz5 ?_))
        intro v7 w7 ho7 hg7 _
        have ho7' : w7.ownsRow w1.heap.size 34 2 v7 (n + 1) (eCells (insP es 0 x p)) := by
          rw [insP, HENT.out, show es.take 0 ++ (x, q) :: (y, p) :: es.drop (0 + 1) = es.take 0 ++ ([(x, q), (y, p)] ++ es.drop (0 + 1)) from rfl, eCells_append, eCells_append]
          rw [show n + 1 = 0 + 2 + (n - (0 + 1)) from by omega]; first | (simpa only [List.append_assoc] using ho7) | (simpa using ho7)
        have hb7 := HB5.out.grown hg7 HB5.out.size (own_row HO5.out (Nat.le_refl _))
        obtain ⟨A7, c7, rfl, hc7, _⟩ := own_form ho7'
        have nb7 := NB.out.next hb7
        have a0 := nb7.u0.cell 0
        have a1 := nb7.u0.cell 1
        have a2 := nb7.u0.cell 2
        have af := nb7.u0.free
        have b0 := nb7.u1.cell 0
        have b1 := nb7.u1.cell 1
        have b2 := nb7.u1.cell 2
        have bf := nb7.u1.free
        simp at a0 a1 a2 b0 b1 b2
        have HO7 := Lib.hid ho7'
        have NB7 := Lib.hid nb7
        clear ho7 hg7 ho7' hb7 nb7 k5a k5b k5c
        go_wp2_with fail
        refine bodyPost_ret (v := .tuple #[.agg #[.int .i64 lv, .int .i64 nx, .slice A7 (n + 1) c7], .int .i64 0]) (by simp [results, Try.results26, go_sem, *]) rfl ?_
        have own := ownsRow_setCell_below (ownsRow_setCell_below (ownsRow_setCell_below (ownsRow_setCell_below HO7.out (a := ⟨w.heap.size, 2, none⟩) lt0 (.slice A7 (n + 1) c7)) (a := ⟨w.heap.size + 1, 0, none⟩) lt1 (.int .i64 lv)) (a := ⟨w.heap.size + 1, 1, none⟩) lt1 (.int .i64 nx)) (a := ⟨w.heap.size + 1, 2, none⟩) lt1 (.slice A7 (n + 1) c7)
        exact ⟨_, _, rfl, ⟨hc7, Rd.of_own own⟩, ((((NB7.out.b.setCell (by simp) _).setCell (by simp) _).setCell (by simp) _).setCell (by simp) _)⟩
    · have dl : decide ((0 : Int) < (n : Int) - 1) = true := by have : ¬ (0 + 1 = n) := (fun h => y0 (HYK.out.2 h)); simp; omega
      have dl2 : decide (1 < n) = true := by have : ¬ (0 + 1 = n) := (fun h => y0 (HYK.out.2 h)); simp; omega
      have dl3 : decide ((1 : Int) < (n : Int)) = true := by have : ¬ (0 + 1 = n) := (fun h => y0 (HYK.out.2 h)); simp; omega
      have l1 : Op.bytesLess x.toList y.toList = true := HY.out.resolve_left y0
      clear y0
      go_wp2_with (at_builtin; go_must (refine wpList_app _ rfl _ _ 23 rfl w1.heap.size 34 i0 _ 2 24 Try.underlying23 hi0 hz0 hz1 hz2 rfl (by decide) _ _ _ rfl HO1.out w1.heap.size (some ⟨b, o, none⟩) 0 c (eCells (es.take 0)) rfl HR1.out H1.out (by simp only [maxLen]; omega) (by omega) (by simp) ?_))
      intro v2 w2 hown2 hgr2 _
      have ho2 : w2.ownsRow w1.heap.size 34 2 v2 0 (eCells (es.take 0)) := by simpa using hown2
      have hb2 : Below w1.heap.size w1 w2 := ((Below.refl _ _).alloc (Nat.le_refl _) _).grown hgr2 (by simp) (by intro k hk; simp [Value.ownBlock] at hk; omega)
      have nb2 := NB.out.next hb2
      have q2 := nb2.u0.cell 2
      have sz2 := hb2.size
      have qa := (hb2.cell (p := ⟨b, o, none⟩) hb).trans hc0
      have qb := (hb2.cell (p := ⟨b, o + 1, none⟩) hb).trans hc20
      have ltb : b < w2.heap.size := by omega
      have lt2 : w.heap.size < w2.heap.size := by omega
      simp at q2
      have HO2 := Lib.hid ho2
      have NB2 := Lib.hid nb2
      have HB2 := Lib.hid hb2
      clear hown2 hgr2 ho2 nb2 hb2
      go_wp2_with fail
      go_region_held3 (fun w' => w'.cell? ⟨w.heap.size, 2, none⟩ = some (.slice (some ⟨b, o, none⟩) n c) ∧ w'.cell? ⟨b, o, none⟩ = some (.string y) ∧ w'.cell? ⟨b, o + 1, none⟩ = some (.int .i64 q)) (first | go_keep | exact ⟨k5a, k5b, k5c⟩) (first | (refine step_app _ (by rfl) _ _ 23 (by rfl) w1.heap.size 34 i0 (.agg #[.string ⟨#[]⟩, .int .i64 0]) 2 24 Try.underlying23 hi0 hz0 hz1 hz2 rfl (by decide) v2 0 (eCells (es.take 0)) (by rfl) (HO2.out.drew.alloc _) (w2.heap.size + 1) (some ⟨w2.heap.size, 0, none⟩) 2 2 [.string x, .int .i64 q, .string y, .int .i64 p] (by rfl) (rd_new w2.drew [.string x, .int .i64 q, .string y, .int .i64 p] 34 2 2 rfl) H4.out (by simp only [maxLen]; omega) (by omega) (by simp; omega) ?_; intro v5 w5 ho5 hg5 _; have k5a := ((hg5.cell_far ⟨w.heap.size, 2, none⟩ (Nat.lt_of_lt_of_le lt2 (alloc_le _ _)) (far_own HO2.out lt0)).trans (World.cell?_alloc_lt _ _ _ lt2)).trans q2; have k5b := ((hg5.cell_far ⟨b, o, none⟩ (Nat.lt_of_lt_of_le ltb (alloc_le _ _)) (far_own HO2.out hb)).trans (World.cell?_alloc_lt _ _ _ ltb)).trans qa; have k5c := ((hg5.cell_far ⟨b, o + 1, none⟩ (Nat.lt_of_lt_of_le ltb (alloc_le _ _)) (far_own HO2.out hb)).trans (World.cell?_alloc_lt _ _ _ ltb)).trans qb))
      have ho5' : w5.ownsRow w1.heap.size 34 2 v5 (0 + 2) (eCells (es.take 0) ++ eCells [(x, q), (y, p)]) := ho5
      have hb5 : Below w1.heap.size w1 w5 := (HB2.out.drew.alloc sz2 _).grown hg5 (by simp; omega) (own_row HO2.out (Nat.le_refl _))
      have HO5 := Lib.hid ho5'
      have HB5 := Lib.hid hb5
      have sz5 := hb5.size
      have hrd5 := (NB.out.e.2.below hb5).drop (k := 0 + 1) (cap := c) (by omega) hnc
      rw [eCells_drop] at hrd5
      clear ho5 hg5 ho5' hb5 q2 qa qb
      by_cases hcc : c = 0 + 1
      · obtain rfl : n = 0 + 1 := by omega
        obtain rfl : c = 0 + 1 := hcc
        have hl0 : es.drop (0 + 1) = [] := List.drop_eq_nil_of_le (by rw [HL.out]; exact Nat.le_refl _)
        rw [hl0] at hrd5
        have HL0 := Lib.hid hl0
        clear hrd5 hl0
        go_wp2_with (at_builtin; go_must (refine wpList_app _ rfl _ _ 23 rfl w1.heap.size 34 i0 _ 2 24 Try.underlying23 hi0 hz0 hz1 hz2 rfl (by decide) _ (0 + 2) _ rfl HO5.out w1.heap.size (some ⟨b, o, none⟩) 0 0 [] (by simp [Act.eval]) Rd.none_ (by simp) (by simp only [maxLen]; omega) (by omega) sz5 ?_))
        intro v7 w7 ho7 hg7 _
        have ho7' : w7.ownsRow w1.heap.size 34 2 v7 (0 + 1 + 1) (eCells (insP es 0 x p)) := by
          rw [insP, HENT.out, show es.take 0 ++ (x, q) :: (y, p) :: es.drop (0 + 1) = es.take 0 ++ ([(x, q), (y, p)] ++ es.drop (0 + 1)) from rfl, eCells_append, eCells_append]
          rw [HL0.out, show eCells [] = [] from rfl]; first | (simpa only [List.append_nil, List.append_assoc] using ho7) | (simpa using ho7)
        have hb7 := HB5.out.grown hg7 HB5.out.size (own_row HO5.out (Nat.le_refl _))
        obtain ⟨A7, c7, rfl, hc7, _⟩ := own_form ho7'
        have nb7 := NB.out.next hb7
        have a0 := nb7.u0.cell 0
        have a1 := nb7.u0.cell 1
        have a2 := nb7.u0.cell 2
        have af := nb7.u0.free
        have b0 := nb7.u1.cell 0
        have b1 := nb7.u1.cell 1
        have b2 := nb7.u1.cell 2
        have bf := nb7.u1.free
        simp at a0 a1 a2 b0 b1 b2
        have HO7 := Lib.hid ho7'
        have NB7 := Lib.hid nb7
        clear ho7 hg7 ho7' hb7 nb7 k5a k5b k5c
        go_wp2_with fail
        refine bodyPost_ret (v := .tuple #[.agg #[.int .i64 lv, .int .i64 nx, .slice A7 (0 + 1 + 1) c7], .int .i64 0]) (by simp [results, Try.results26, go_sem, *]) rfl ?_
        have own := ownsRow_setCell_below (ownsRow_setCell_below (ownsRow_setCell_below (ownsRow_setCell_below HO7.out (a := ⟨w.heap.size, 2, none⟩) lt0 (.slice A7 (0 + 1 + 1) c7)) (a := ⟨w.heap.size + 1, 0, none⟩) lt1 (.int .i64 lv)) (a := ⟨w.heap.size + 1, 1, none⟩) lt1 (.int .i64 nx)) (a := ⟨w.heap.size + 1, 2, none⟩) lt1 (.slice A7 (0 + 1 + 1) c7)
        exact ⟨_, _, rfl, ⟨hc7, Rd.of_own own⟩, ((((NB7.out.b.setCell (by simp) _).setCell (by simp) _).setCell (by simp) _).setCell (by simp) _)⟩
      · rw [if_neg hcc] at hrd5
        have hrd6 : Rd w5 w1.heap.size 2 (some ⟨b, o + (0 + 1) * 2, none⟩) (n - (0 + 1)) (eCells (es.drop (0 + 1))) := by simpa [Addr.add] using hrd5
        have HRD := Lib.hid hrd6
        clear hrd5 hrd6
        go_wp2_with (at_builtin; go_must (refine wpList_app _ rfl _ _ 23 rfl w1.heap.size 34 i0 _ 2 24 Try.underlying23 hi0 hz0 hz1 hz2 rfl (by decide) _ (0 + 2) _ rfl HO5.out w1.heap.size (some ⟨b, o + (0 + 1) * 2, none⟩) (n - (0 + 1)) (c - (0 + 1)) (eCells (es.drop (0 + 1))) rfl HRD.out H7.out (by simp only [maxLen]; omega) (by omega) sz5 ?_))
        intro v7 w7 ho7 hg7 _
        have ho7' : w7.ownsRow w1.heap.size 34 2 v7 (n + 1) (eCells (insP es 0 x p)) := by
          rw [insP, HENT.out, show es.take 0 ++ (x, q) :: (y, p) :: es.drop (0 + 1) = es.take 0 ++ ([(x, q), (y, p)] ++ es.drop (0 + 1)) from rfl, eCells_append, eCells_append]
          rw [show n + 1 = 0 + 2 + (n - (0 + 1)) from by omega]; first | (simpa only [List.append_assoc] using ho7) | (simpa using ho7)
        have hb7 := HB5.out.grown hg7 HB5.out.size (own_row HO5.out (Nat.le_refl _))
        obtain ⟨A7, c7, rfl, hc7, _⟩ := own_form ho7'
        have nb7 := NB.out.next hb7
        have a0 := nb7.u0.cell 0
        have a1 := nb7.u0.cell 1
        have a2 := nb7.u0.cell 2
        have af := nb7.u0.free
        have b0 := nb7.u1.cell 0
        have b1 := nb7.u1.cell 1
        have b2 := nb7.u1.cell 2
        have bf := nb7.u1.free
        simp at a0 a1 a2 b0 b1 b2
        have HO7 := Lib.hid ho7'
        have NB7 := Lib.hid nb7
        clear ho7 hg7 ho7' hb7 nb7 k5a k5b k5c
        go_wp2_with fail
        refine bodyPost_ret (v := .tuple #[.agg #[.int .i64 lv, .int .i64 nx, .slice A7 (n + 1) c7], .int .i64 0]) (by simp [results, Try.results26, go_sem, *]) rfl ?_
        have own := ownsRow_setCell_below (ownsRow_setCell_below (ownsRow_setCell_below (ownsRow_setCell_below HO7.out (a := ⟨w.heap.size, 2, none⟩) lt0 (.slice A7 (n + 1) c7)) (a := ⟨w.heap.size + 1, 0, none⟩) lt1 (.int .i64 lv)) (a := ⟨w.heap.size + 1, 1, none⟩) lt1 (.int .i64 nx)) (a := ⟨w.heap.size + 1, 2, none⟩) lt1 (.slice A7 (n + 1) c7)
        exact ⟨_, _, rfl, ⟨hc7, Rd.of_own own⟩, ((((NB7.out.b.setCell (by simp) _).setCell (by simp) _).setCell (by simp) _).setCell (by simp) _)⟩
  | succ t =>
    obtain ⟨b', o', z, q', hA', hb', hg', hc', _⟩ := NB.out.e.cell (k := t) (by omega)
    injection hA' with hA'
    injection hA' with e1 e2
    subst e1 e2
    have hzx := HZ.out (by omega)
    rw [Nat.add_sub_cancel, entAt_get hg'] at hzx
    obtain ⟨l1, l2, l3⟩ := less_no hzx
    clear hg' hzx
    by_cases y0 : y.size = 0
    · have dl : decide ((t : Int) + 1 < (n : Int) - 1) = false := by have := HYK.out.1 y0; simp; omega
      clear y0
      go_wp2_with (at_builtin; go_must (refine wpList_app _ rfl _ _ 23 rfl w1.heap.size 34 i0 _ 2 24 Try.underlying23 hi0 hz0 hz1 hz2 rfl (by decide) _ _ _ rfl HO1.out w1.heap.size (some ⟨b, o, none⟩) (t + 1) c (eCells (es.take (t + 1))) rfl HR1.out H1.out (by simp only [maxLen]; omega) (by omega) (by simp) ?_))
      intro v2 w2 hown2 hgr2 _
      have ho2 : w2.ownsRow w1.heap.size 34 2 v2 (t + 1) (eCells (es.take (t + 1))) := by simpa using hown2
      have hb2 : Below w1.heap.size w1 w2 := ((Below.refl _ _).alloc (Nat.le_refl _) _).grown hgr2 (by simp) (by intro k hk; simp [Value.ownBlock] at hk; omega)
      have nb2 := NB.out.next hb2
      have q2 := nb2.u0.cell 2
      have sz2 := hb2.size
      have qa := (hb2.cell (p := ⟨b, o + (t + 1) * 2, none⟩) hb).trans hc
      have qb := (hb2.cell (p := ⟨b, o + (t + 1) * 2 + 1, none⟩) hb).trans hc2
      have ltb : b < w2.heap.size := by omega
      have lt2 : w.heap.size < w2.heap.size := by omega
      simp at q2
      have HO2 := Lib.hid ho2
      have NB2 := Lib.hid nb2
      have HB2 := Lib.hid hb2
      clear hown2 hgr2 ho2 nb2 hb2
      go_wp2_with fail
      go_region_held3 (fun w' => w'.cell? ⟨w.heap.size, 2, none⟩ = some (.slice (some ⟨b, o, none⟩) n c) ∧ w'.cell? ⟨b, o + (t + 1) * 2, none⟩ = some (.string y) ∧ w'.cell? ⟨b, o + (t + 1) * 2 + 1, none⟩ = some (.int .i64 q)) (first | go_keep | exact ⟨k5a, k5b, k5c⟩) (first | (refine step_app _ (by rfl) _ _ 23 (by rfl) w1.heap.size 34 i0 (.agg #[.string ⟨#[]⟩, .int .i64 0]) 2 24 Try.underlying23 hi0 hz0 hz1 hz2 rfl (by decide) v2 (t + 1) (eCells (es.take (t + 1))) (by rfl) (HO2.out.drew.alloc _) (w2.heap.size + 1) (some ⟨w2.heap.size, 0, none⟩) 2 2 [.string x, .int .i64 q, .string y, .int .i64 p] (by rfl) (rd_new w2.drew [.string x, .int .i64 q, .string y, .int .i64 p] 34 2 2 rfl) H4.out (by simp only [maxLen]; omega) (by omega) (by simp; omega) ?_; intro v5 w5 ho5 hg5 _; have k5a := ((hg5.cell_far ⟨w.heap.size, 2, none⟩ (Nat.lt_of_lt_of_le lt2 (alloc_le _ _)) (far_own HO2.out lt0)).trans (World.cell?_alloc_lt _ _ _ lt2)).trans q2; have k5b := ((hg5.cell_far ⟨b, o + (t + 1) * 2, none⟩ (Nat.lt_of_lt_of_le ltb (alloc_le _ _)) (far_own HO2.out hb)).trans (World.cell?_alloc_lt _ _ _ ltb)).trans qa; have k5c := ((hg5.cell_far ⟨b, o + (t + 1) * 2 + 1, none⟩ (Nat.lt_of_lt_of_le ltb (alloc_le _ _)) (far_own HO2.out hb)).trans (World.cell?_alloc_lt _ _ _ ltb)).trans qb))
      have ho5' : w5.ownsRow w1.heap.size 34 2 v5 ((t + 1) + 2) (eCells (es.take (t + 1)) ++ eCells [(x, q), (y, p)]) := ho5
      have hb5 : Below w1.heap.size w1 w5 := (HB2.out.drew.alloc sz2 _).grown hg5 (by simp; omega) (own_row HO2.out (Nat.le_refl _))
      have HO5 := Lib.hid ho5'
      have HB5 := Lib.hid hb5
      have sz5 := hb5.size
      have hrd5 := (NB.out.e.2.below hb5).drop (k := (t + 1) + 1) (cap := c) (by omega) hnc
      rw [eCells_drop] at hrd5
      clear ho5 hg5 ho5' hb5 q2 qa qb
      by_cases hcc : c = (t + 1) + 1
      · obtain rfl : n = (t + 1) + 1 := by omega
        obtain rfl : c = (t + 1) + 1 := hcc
        have hl0 : es.drop ((t + 1) + 1) = [] := List.drop_eq_nil_of_le (by rw [HL.out]; exact Nat.le_refl _)
        rw [hl0] at hrd5
        have HL0 := Lib.hid hl0
        clear hrd5 hl0
        go_wp2_with (at_builtin; go_must (refine wpList_app _ rfl _ _ 23 rfl w1.heap.size 34 i0 _ 2 24 Try.underlying23 hi0 hz0 hz1 hz2 rfl (by decide) _ ((t + 1) + 2) _ rfl HO5.out w1.heap.size (some ⟨b, o, none⟩) 0 0 [] (by simp [Act.eval]) Rd.none_ (by simp) (by simp only [maxLen]; omega) (by omega) sz5 ?_))
        intro v7 w7 ho7 hg7 _
        have ho7' : w7.ownsRow w1.heap.size 34 2 v7 ((t + 1) + 1 + 1) (eCells (insP es (t + 1) x p)) := by
          rw [insP, HENT.out, show es.take (t + 1) ++ (x, q) :: (y, p) :: es.drop ((t + 1) + 1) = es.take (t + 1) ++ ([(x, q), (y, p)] ++ es.drop ((t + 1) + 1)) from rfl, eCells_append, eCells_append]
          rw [HL0.out, show eCells [] = [] from rfl]; first | (simpa only [List.append_nil, List.append_assoc] using ho7) | (simpa using ho7)
        have hb7 := HB5.out.grown hg7 HB5.out.size (own_row HO5.out (Nat.le_refl _))
        obtain ⟨A7, c7, rfl, hc7, _⟩ := own_form ho7'
        have nb7 := NB.out.next hb7
        have a0 := nb7.u0.cell 0
        have a1 := nb7.u0.cell 1
        have a2 := nb7.u0.cell 2
        have af := nb7.u0.free
        have b0 := nb7.u1.cell 0
        have b1 := nb7.u1.cell 1
        have b2 := nb7.u1.cell 2
        have bf := nb7.u1.free
        simp at a0 a1 a2 b0 b1 b2
        have HO7 := Lib.hid ho7'
        have NB7 := Lib.hid nb7
        clear ho7 hg7 ho7' hb7 nb7 k5a k5b k5c
        go_wp2_with fail
        refine bodyPost_ret (v := .tuple #[.agg #[.int .i64 lv, .int .i64 nx, .slice A7 ((t + 1) + 1 + 1) c7], .int .i64 0]) (by simp [results, Try.results26, go_sem, *]) rfl ?_
        have own := ownsRow_setCell_below (ownsRow_setCell_below (ownsRow_setCell_below (ownsRow_setCell_below HO7.out (a := ⟨w.heap.size, 2, none⟩) lt0 (.slice A7 ((t + 1) + 1 + 1) c7)) (a := ⟨w.heap.size + 1, 0, none⟩) lt1 (.int .i64 lv)) (a := ⟨w.heap.size + 1, 1, none⟩) lt1 (.int .i64 nx)) (a := ⟨w.heap.size + 1, 2, none⟩) lt1 (.slice A7 ((t + 1) + 1 + 1) c7)
        exact ⟨_, _, rfl, ⟨hc7, Rd.of_own own⟩, ((((NB7.out.b.setCell (by simp) _).setCell (by simp) _).setCell (by simp) _).setCell (by simp) _)⟩
      · rw [if_neg hcc] at hrd5
        have hrd6 : Rd w5 w1.heap.size 2 (some ⟨b, o + ((t + 1) + 1) * 2, none⟩) (n - ((t + 1) + 1)) (eCells (es.drop ((t + 1) + 1))) := by simpa [Addr.add] using hrd5
        have HRD := Lib.hid hrd6
        clear hrd5 hrd6
        go_wp2_with (at_builtin; go_must (refine wpList_app _ rfl _ _ 23 rfl w1.heap.size 34 i0 _ 2 24 Try.underlying23 hi0 hz0 hz1 hz2 rfl (by decide) _ ((t + 1) + 2) _ rfl HO5.out w1.heap.size (some ⟨b, o + ((t + 1) + 1) * 2, none⟩) (n - ((t + 1) + 1)) (c - ((t + 1) + 1)) (eCells (es.drop ((t + 1) + 1))) rfl HRD.out H7.out (by simp only [maxLen]; omega) (by omega) sz5 ?_))
        intro v7 w7 ho7 hg7 _
        have ho7' : w7.ownsRow w1.heap.size 34 2 v7 (n + 1) (eCells (insP es (t + 1) x p)) := by
          rw [insP, HENT.out, show es.take (t + 1) ++ (x, q) :: (y, p) :: es.drop ((t + 1) + 1) = es.take (t + 1) ++ ([(x, q), (y, p)] ++ es.drop ((t + 1) + 1)) from rfl, eCells_append, eCells_append]
          rw [show n + 1 = (t + 1) + 2 + (n - ((t + 1) + 1)) from by omega]; first | (simpa only [List.append_assoc] using ho7) | (simpa using ho7)
        have hb7 := HB5.out.grown hg7 HB5.out.size (own_row HO5.out (Nat.le_refl _))
        obtain ⟨A7, c7, rfl, hc7, _⟩ := own_form ho7'
        have nb7 := NB.out.next hb7
        have a0 := nb7.u0.cell 0
        have a1 := nb7.u0.cell 1
        have a2 := nb7.u0.cell 2
        have af := nb7.u0.free
        have b0 := nb7.u1.cell 0
        have b1 := nb7.u1.cell 1
        have b2 := nb7.u1.cell 2
        have bf := nb7.u1.free
        simp at a0 a1 a2 b0 b1 b2
        have HO7 := Lib.hid ho7'
        have NB7 := Lib.hid nb7
        clear ho7 hg7 ho7' hb7 nb7 k5a k5b k5c
        go_wp2_with fail
        refine bodyPost_ret (v := .tuple #[.agg #[.int .i64 lv, .int .i64 nx, .slice A7 (n + 1) c7], .int .i64 0]) (by simp [results, Try.results26, go_sem, *]) rfl ?_
        have own := ownsRow_setCell_below (ownsRow_setCell_below (ownsRow_setCell_below (ownsRow_setCell_below HO7.out (a := ⟨w.heap.size, 2, none⟩) lt0 (.slice A7 (n + 1) c7)) (a := ⟨w.heap.size + 1, 0, none⟩) lt1 (.int .i64 lv)) (a := ⟨w.heap.size + 1, 1, none⟩) lt1 (.int .i64 nx)) (a := ⟨w.heap.size + 1, 2, none⟩) lt1 (.slice A7 (n + 1) c7)
        exact ⟨_, _, rfl, ⟨hc7, Rd.of_own own⟩, ((((NB7.out.b.setCell (by simp) _).setCell (by simp) _).setCell (by simp) _).setCell (by simp) _)⟩
    · have dl : decide ((t : Int) + 1 < (n : Int) - 1) = true := by have : ¬ (t + 1 + 1 = n) := (fun h => y0 (HYK.out.2 h)); simp; omega
      have r1 : Op.bytesLess x.toList y.toList = true := HY.out.resolve_left y0
      clear y0
      go_wp2_with (at_builtin; go_must (refine wpList_app _ rfl _ _ 23 rfl w1.heap.size 34 i0 _ 2 24 Try.underlying23 hi0 hz0 hz1 hz2 rfl (by decide) _ _ _ rfl HO1.out w1.heap.size (some ⟨b, o, none⟩) (t + 1) c (eCells (es.take (t + 1))) rfl HR1.out H1.out (by simp only [maxLen]; omega) (by omega) (by simp) ?_))
      intro v2 w2 hown2 hgr2 _
      have ho2 : w2.ownsRow w1.heap.size 34 2 v2 (t + 1) (eCells (es.take (t + 1))) := by simpa using hown2
      have hb2 : Below w1.heap.size w1 w2 := ((Below.refl _ _).alloc (Nat.le_refl _) _).grown hgr2 (by simp) (by intro k hk; simp [Value.ownBlock] at hk; omega)
      have nb2 := NB.out.next hb2
      have q2 := nb2.u0.cell 2
      have sz2 := hb2.size
      have qa := (hb2.cell (p := ⟨b, o + (t + 1) * 2, none⟩) hb).trans hc
      have qb := (hb2.cell (p := ⟨b, o + (t + 1) * 2 + 1, none⟩) hb).trans hc2
      have ltb : b < w2.heap.size := by omega
      have lt2 : w.heap.size < w2.heap.size := by omega
      simp at q2
      have HO2 := Lib.hid ho2
      have NB2 := Lib.hid nb2
      have HB2 := Lib.hid hb2
      clear hown2 hgr2 ho2 nb2 hb2
      go_wp2_with fail
      go_region_held3 (fun w' => w'.cell? ⟨w.heap.size, 2, none⟩ = some (.slice (some ⟨b, o, none⟩) n c) ∧ w'.cell? ⟨b, o + (t + 1) * 2, none⟩ = some (.string y) ∧ w'.cell? ⟨b, o + (t + 1) * 2 + 1, none⟩ = some (.int .i64 q)) (first | go_keep | exact ⟨k5a, k5b, k5c⟩) (first | (refine step_app _ (by rfl) _ _ 23 (by rfl) w1.heap.size 34 i0 (.agg #[.string ⟨#[]⟩, .int .i64 0]) 2 24 Try.underlying23 hi0 hz0 hz1 hz2 rfl (by decide) v2 (t + 1) (eCells (es.take (t + 1))) (by rfl) (HO2.out.drew.alloc _) (w2.heap.size + 1) (some ⟨w2.heap.size, 0, none⟩) 2 2 [.string x, .int .i64 q, .string y, .int .i64 p] (by rfl) (rd_new w2.drew [.string x, .int .i64 q, .string y, .int .i64 p] 34 2 2 rfl) H4.out (by simp only [maxLen]; omega) (by omega) (by simp; omega) ?_; intro v5 w5 ho5 hg5 _; have k5a := ((hg5.cell_far ⟨w.heap.size, 2, none⟩ (Nat.lt_of_lt_of_le lt2 (alloc_le _ _)) (far_own HO2.out lt0)).trans (World.cell?_alloc_lt _ _ _ lt2)).trans q2; have k5b := ((hg5.cell_far ⟨b, o + (t + 1) * 2, none⟩ (Nat.lt_of_lt_of_le ltb (alloc_le _ _)) (far_own HO2.out hb)).trans (World.cell?_alloc_lt _ _ _ ltb)).trans qa; have k5c := ((hg5.cell_far ⟨b, o + (t + 1) * 2 + 1, none⟩ (Nat.lt_of_lt_of_le ltb (alloc_le _ _)) (far_own HO2.out hb)).trans (World.cell?_alloc_lt _ _ _ ltb)).trans qb))
      have ho5' : w5.ownsRow w1.heap.size 34 2 v5 ((t + 1) + 2) (eCells (es.take (t + 1)) ++ eCells [(x, q), (y, p)]) := ho5
      have hb5 : Below w1.heap.size w1 w5 := (HB2.out.drew.alloc sz2 _).grown hg5 (by simp; omega) (own_row HO2.out (Nat.le_refl _))
      have HO5 := Lib.hid ho5'
      have HB5 := Lib.hid hb5
      have sz5 := hb5.size
      have hrd5 := (NB.out.e.2.below hb5).drop (k := (t + 1) + 1) (cap := c) (by omega) hnc
      rw [eCells_drop] at hrd5
      clear ho5 hg5 ho5' hb5 q2 qa qb
      by_cases hcc : c = (t + 1) + 1
      · obtain rfl : n = (t + 1) + 1 := by omega
        obtain rfl : c = (t + 1) + 1 := hcc
        have hl0 : es.drop ((t + 1) + 1) = [] := List.drop_eq_nil_of_le (by rw [HL.out]; exact Nat.le_refl _)
        rw [hl0] at hrd5
        have HL0 := Lib.hid hl0
        clear hrd5 hl0
        go_wp2_with (at_builtin; go_must (refine wpList_app _ rfl _ _ 23 rfl w1.heap.size 34 i0 _ 2 24 Try.underlying23 hi0 hz0 hz1 hz2 rfl (by decide) _ ((t + 1) + 2) _ rfl HO5.out w1.heap.size (some ⟨b, o, none⟩) 0 0 [] (by simp [Act.eval]) Rd.none_ (by simp) (by simp only [maxLen]; omega) (by omega) sz5 ?_))
        intro v7 w7 ho7 hg7 _
        have ho7' : w7.ownsRow w1.heap.size 34 2 v7 ((t + 1) + 1 + 1) (eCells (insP es (t + 1) x p)) := by
          rw [insP, HENT.out, show es.take (t + 1) ++ (x, q) :: (y, p) :: es.drop ((t + 1) + 1) = es.take (t + 1) ++ ([(x, q), (y, p)] ++ es.drop ((t + 1) + 1)) from rfl, eCells_append, eCells_append]
          rw [HL0.out, show eCells [] = [] from rfl]; first | (simpa only [List.append_nil, List.append_assoc] using ho7) | (simpa using ho7)
        have hb7 := HB5.out.grown hg7 HB5.out.size (own_row HO5.out (Nat.le_refl _))
        obtain ⟨A7, c7, rfl, hc7, _⟩ := own_form ho7'
        have nb7 := NB.out.next hb7
        have a0 := nb7.u0.cell 0
        have a1 := nb7.u0.cell 1
        have a2 := nb7.u0.cell 2
        have af := nb7.u0.free
        have b0 := nb7.u1.cell 0
        have b1 := nb7.u1.cell 1
        have b2 := nb7.u1.cell 2
        have bf := nb7.u1.free
        simp at a0 a1 a2 b0 b1 b2
        have HO7 := Lib.hid ho7'
        have NB7 := Lib.hid nb7
        clear ho7 hg7 ho7' hb7 nb7 k5a k5b k5c
        go_wp2_with fail
        refine bodyPost_ret (v := .tuple #[.agg #[.int .i64 lv, .int .i64 nx, .slice A7 ((t + 1) + 1 + 1) c7], .int .i64 0]) (by simp [results, Try.results26, go_sem, *]) rfl ?_
        have own := ownsRow_setCell_below (ownsRow_setCell_below (ownsRow_setCell_below (ownsRow_setCell_below HO7.out (a := ⟨w.heap.size, 2, none⟩) lt0 (.slice A7 ((t + 1) + 1 + 1) c7)) (a := ⟨w.heap.size + 1, 0, none⟩) lt1 (.int .i64 lv)) (a := ⟨w.heap.size + 1, 1, none⟩) lt1 (.int .i64 nx)) (a := ⟨w.heap.size + 1, 2, none⟩) lt1 (.slice A7 ((t + 1) + 1 + 1) c7)
        exact ⟨_, _, rfl, ⟨hc7, Rd.of_own own⟩, ((((NB7.out.b.setCell (by simp) _).setCell (by simp) _).setCell (by simp) _).setCell (by simp) _)⟩
      · rw [if_neg hcc] at hrd5
        have hrd6 : Rd w5 w1.heap.size 2 (some ⟨b, o + ((t + 1) + 1) * 2, none⟩) (n - ((t + 1) + 1)) (eCells (es.drop ((t + 1) + 1))) := by simpa [Addr.add] using hrd5
        have HRD := Lib.hid hrd6
        clear hrd5 hrd6
        go_wp2_with (at_builtin; go_must (refine wpList_app _ rfl _ _ 23 rfl w1.heap.size 34 i0 _ 2 24 Try.underlying23 hi0 hz0 hz1 hz2 rfl (by decide) _ ((t + 1) + 2) _ rfl HO5.out w1.heap.size (some ⟨b, o + ((t + 1) + 1) * 2, none⟩) (n - ((t + 1) + 1)) (c - ((t + 1) + 1)) (eCells (es.drop ((t + 1) + 1))) rfl HRD.out H7.out (by simp only [maxLen]; omega) (by omega) sz5 ?_))
        intro v7 w7 ho7 hg7 _
        have ho7' : w7.ownsRow w1.heap.size 34 2 v7 (n + 1) (eCells (insP es (t + 1) x p)) := by
          rw [insP, HENT.out, show es.take (t + 1) ++ (x, q) :: (y, p) :: es.drop ((t + 1) + 1) = es.take (t + 1) ++ ([(x, q), (y, p)] ++ es.drop ((t + 1) + 1)) from rfl, eCells_append, eCells_append]
          rw [show n + 1 = (t + 1) + 2 + (n - ((t + 1) + 1)) from by omega]; first | (simpa only [List.append_assoc] using ho7) | (simpa using ho7)
        have hb7 := HB5.out.grown hg7 HB5.out.size (own_row HO5.out (Nat.le_refl _))
        obtain ⟨A7, c7, rfl, hc7, _⟩ := own_form ho7'
        have nb7 := NB.out.next hb7
        have a0 := nb7.u0.cell 0
        have a1 := nb7.u0.cell 1
        have a2 := nb7.u0.cell 2
        have af := nb7.u0.free
        have b0 := nb7.u1.cell 0
        have b1 := nb7.u1.cell 1
        have b2 := nb7.u1.cell 2
        have bf := nb7.u1.free
        simp at a0 a1 a2 b0 b1 b2
        have HO7 := Lib.hid ho7'
        have NB7 := Lib.hid nb7
        clear ho7 hg7 ho7' hb7 nb7 k5a k5b k5c
        go_wp2_with fail
        refine bodyPost_ret (v := .tuple #[.agg #[.int .i64 lv, .int .i64 nx, .slice A7 (n + 1) c7], .int .i64 0]) (by simp [results, Try.results26, go_sem, *]) rfl ?_
        have own := ownsRow_setCell_below (ownsRow_setCell_below (ownsRow_setCell_below (ownsRow_setCell_below HO7.out (a := ⟨w.heap.size, 2, none⟩) lt0 (.slice A7 (n + 1) c7)) (a := ⟨w.heap.size + 1, 0, none⟩) lt1 (.int .i64 lv)) (a := ⟨w.heap.size + 1, 1, none⟩) lt1 (.int .i64 nx)) (a := ⟨w.heap.size + 1, 2, none⟩) lt1 (.slice A7 (n + 1) c7)
        exact ⟨_, _, rfl, ⟨hc7, Rd.of_own own⟩, ((((NB7.out.b.setCell (by simp) _).setCell (by simp) _).setCell (by simp) _).setCell (by simp) _)⟩
end Go.Proofs.Ytjfinkfikebjbaa