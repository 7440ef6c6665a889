/- Insert of the program, where it inserts. -/
import Derived.Test.YtjfinkfikebjbaaIc
namespace Go.Proofs.Ytjfinkfikebjbaa
open Go.RowKit
attribute [local go_sem ↓] Go.wp_at_zero Go.wp_at_succ

theorem insErr_ok {lv nx : Int} {es : List Ent} {i : Int} {x : ByteArray} {p : Int} (h : insErr lv nx es i x p = 0) :
    plainB lv nx es = true ∧ (1 ≤ p ∧ p ≤ 16777216) ∧ (∃ k : Nat, i = (k : Int) ∧ k < es.length ∧ x.size ≠ 0 ∧ x.size ≤ 32 ∧ (0 < k → lessB (entAt es (k - 1)).1 x = true) ∧ ((entAt es k).1.size = 0 ∨ lessB x (entAt es k).1 = true) ∧ es.length ≠ 120) := by
  unfold insErr at h
  split at h
  · rename_i h1
    split at h
    · cases h
    · rename_i h2
      split at h
      · cases h
      · rename_i h3
        refine ⟨h1.1, h1.2.1, i.toNat, by omega, by omega, fun e => h2 (.inl e), by omega, fun hk => ?_, ?_, h3⟩
        · cases hq : lessB (entAt es (i.toNat - 1)).1 x with
          | true => rfl
          | false => exact absurd (.inr (.inr (.inl ⟨by omega, hq⟩))) h2
        · cases hq : lessB x (entAt es i.toNat).1 with
          | true => exact .inr rfl
          | false =>
            left
            by_cases h0 : (entAt es i.toNat).1.size = 0
            · exact h0
            · exact absurd (.inr (.inr (.inr ⟨h0, hq⟩))) h2
  · cases h

theorem own_more {w : World} {base base' : Nat} {e : TypeId} {size n : Nat} {v : Value} {xs : List Value} (h : w.ownsRow base e size v n xs) (hb : base' ≤ base) : w.ownsRow base' e size v n xs := by
  obtain ⟨h1, h2⟩ := h
  refine ⟨h1, ?_⟩
  rcases h2 with h2 | ⟨g, cap, cur, a, b, c⟩
  · exact .inl h2
  · exact .inr ⟨g, cap, cur, a, by omega, c⟩
theorem ins_all (base g n cap i vb : Nat) (iv : Int) (es : List Ent) (x : ByteArray) (p : Int) (w : World) (hown : w.ownsRow base 34 2 (.slice (some ⟨g, 0, none⟩) n cap) n (eCells es)) (hv : Blk w vb 34 #[.string x, .int .i64 p]) (hvg : vb ≠ g)
    (hi : i < n) (hn : n ≤ 200) (hiv : iv = (i : Int)) :
    Calls Try.prog 44 #[.slice (some ⟨g, 0, none⟩) n cap, .int .i64 iv, .slice (some ⟨vb, 0, none⟩) 1 1] w fun e w' => ∃ A c, e = .returned (.slice A (n + 1) c) ∧ w'.ownsRow base 34 2 (.slice A (n + 1) c) (n + 1) (eCells (insE es i x p)) ∧ w.grownBy w' (some g) := by
  subst hiv
  by_cases hc : n + 1 ≤ cap
  · refine (ins_room base g n cap i vb es x p w hown hv hvg hi hn hc).mono ?_
    rintro e w' ⟨v, rfl, h1, h2⟩
    obtain ⟨A, c, rfl, _⟩ := own_form h1
    exact ⟨A, c, rfl, h1, h2⟩
  · refine (ins_grow base g n cap i vb es x p w hown hv hi hn (by omega)).mono ?_
    rintro e w' ⟨v, rfl, h1, h2⟩
    obtain ⟨A, c, rfl, _⟩ := own_form h1
    exact ⟨A, c, rfl, h1, ⟨h2.os, h2.tape, h2.output, h2.size, fun k hk _ => h2.block k hk (by simp)⟩⟩
theorem eCells_set2 : ∀ (es : List Ent) (k : Nat) (x : ByteArray) (q p : Int), es[k]? = some (x, q) → (eCells es).set (k * 2 + 1) (.int .i64 p) = eCells (es.set k (x, p))
  | [], k, x, q, p, h => by simp at h
  | e :: es, 0, x, q, p, h => by
    have : e = (x, q) := by simpa using h
    subst this; rfl
  | e :: es, k + 1, x, q, p, h => by
    have ih := eCells_set2 es k x q p (by simpa using h)
    rw [show (k + 1) * 2 + 1 = k * 2 + 1 + 1 + 1 from by omega, eCells_cons, List.set_cons_succ, List.set_cons_succ, ih, List.set_cons_succ, eCells_cons]
theorem insE_next {es : List Ent} {k : Nat} {y : ByteArray} {q : Int} (hg : es[k]? = some (y, q)) (x : ByteArray) (r : Int) : (insE es k x r)[k + 1]? = some (y, q) := by
  have hk : k < es.length := (List.getElem?_eq_some_iff.1 hg).1
  unfold insE
  rw [List.getElem?_append_right (by simp; omega), List.length_take, Nat.min_eq_left (by omega), show k + 1 - k = 0 + 1 from by omega, List.getElem?_cons_succ, List.getElem?_drop]
  simpa using hg
theorem insE_set {es : List Ent} {k : Nat} {y : ByteArray} {q : Int} (hg : es[k]? = some (y, q)) (x : ByteArray) (p : Int) : (insE es k x q).set (k + 1) (y, p) = insP es k x p := by
  have hk : k < es.length := (List.getElem?_eq_some_iff.1 hg).1
  have hl : (es.take k).length = k := by simp; omega
  unfold insE insP
  rw [entAt_get hg, List.set_append_right _ _ (by omega), hl, show k + 1 - k = 0 + 1 from by omega, List.set_cons_succ, List.drop_eq_getElem_cons hk]
  rfl

set_option maxRecDepth 100000 in
set_option maxHeartbeats 4000000 in
theorem insert_ok (lv nx : Int) (A : Option Addr) (n c : Nat) (es : List Ent) (k : Nat) (x : ByteArray) (p : Int) (w : World) (hs : Es w w.heap.size A n c es) (hn : n ≤ 9223372036854775807) (he : insErr lv nx es (k : Int) x p = 0) :
    Calls Try.prog 25 #[.agg #[.int .i64 lv, .int .i64 nx, .slice A n c], .int .i64 k, .string x, .int .i64 p] w fun r w' => ∃ A' c', r = .returned (.tuple #[.agg #[.int .i64 lv, .int .i64 nx, .slice A' (n + 1) c'], .int .i64 0]) ∧ Es w' w'.heap.size A' (n + 1) c' (insP es k x p) ∧ Below w.heap.size w w' := by
  have HS := Lib.hid hs
  have HL := Lib.hid hs.len
  obtain ⟨hp, c1, k', hkk, c3, x0, x3, hz, hy, n0⟩ := insErr_ok he
  obtain rfl : k = k' := by omega
  clear hkk he
  rw [HL.out] at c3 n0
  have hlen := plain_len hp
  rw [HL.out] at hlen
  obtain ⟨hn1, hn2⟩ := hlen
  clear hs
  go_enter Try.func25, Try.ntmps25
  go_wp2_with fail
  refine (plain_is hp (Nb.start lv nx HS.out).e hn).mono ?_
  rintro r w1 ⟨rfl, hb1⟩
  have nb := (Nb.start lv nx HS.out).next hb1
  have NB := Lib.hid nb
  have lt0 := nb.u0.lt
  have lt1 := nb.u1.lt
  have k0 := nb.u0.cell 0
  have k1 := nb.u0.cell 1
  have k2 := nb.u0.cell 2
  simp at k0 k1 k2
  clear nb hb1
  have HP := Lib.hid hp
  clear hp
  go_wp2_with fail
  refine (isPage_is (q := true) (by simpa using c1) _).mono ?_
  rintro r w2 ⟨rfl, rfl⟩
  have d3 : decide ((n : Int) ≤ (k : Int)) = false := by simp; omega
  have d5 : ((n : Int) == 120) = false := by simp; omega
  obtain ⟨b, o, y, q, rfl, hb, hg, hc, hc2⟩ := NB.out.e.cell c3
  have hent := entAt_get hg
  rw [hent] at hy
  have HENT := Lib.hid hent
  have HG := Lib.hid hg
  have HBA : Hid (Below w1.heap.size w1 (w1.alloc (.cells #[.string y, .int .i64 q] 34)).drew) := Lib.hid ((Below.refl _ _).alloc (Nat.le_refl _) _).drew
  have HBB : Hid (Below w1.heap.size w1 ((w1.alloc (.cells #[.string y, .int .i64 q] 34)).alloc (.cells #[.string x, .int .i64 q] 34)).drew) := Lib.hid (((Below.refl _ _).alloc (Nat.le_refl _) _).alloc (by simp) _).drew
  have HVB : Hid (Blk ((w1.alloc (.cells #[.string y, .int .i64 q] 34)).alloc (.cells #[.string x, .int .i64 q] 34)).drew (w1.heap.size + 1) 34 #[.string x, .int .i64 q]) := Lib.hid (Blk.drew (by simpa using Blk.new (w1.alloc (.cells #[.string y, .int .i64 q] 34)) 34 #[.string x, .int .i64 q]))
  have HOA : Hid (Blk (w1.alloc (.cells #[.string y, .int .i64 q] 34)).drew w1.heap.size 34 #[.string y, .int .i64 q]) := Lib.hid (Blk.new _ _ _).drew
  have HOB : Hid (Blk ((w1.alloc (.cells #[.string y, .int .i64 q] 34)).alloc (.cells #[.string x, .int .i64 q] 34)).drew w1.heap.size 34 #[.string y, .int .i64 q]) := Lib.hid ((Blk.new _ _ _).alloc _).drew
  clear c1 hg hent n0
  obtain ⟨x1, x2⟩ := full_list x0
  have d4 : decide (32 < (x.size : Int)) = false := by simp; omega
  have X0 := Lib.hid x0
  clear x0 x3
  have HZ := Lib.hid hz
  have HY := Lib.hid hy
  clear hz hy
  cases k with
  | zero =>
    have hc0 : w1.cell? ⟨b, o, none⟩ = some (.string y) := by simpa using hc
    have hc20 : w1.cell? ⟨b, o + 1, none⟩ = some (.int .i64 q) := by simpa using hc2
    by_cases y0 : y.size = 0
    · obtain ⟨y1, y2⟩ := empty_list y0
      clear y0
      go_wp2_with fail
      go_cut [] (fun wx => ∃ A' c', Blk wx w.heap.size 25 #[.int .i64 lv, .int .i64 nx, .slice A' (n + 1) c'] ∧ wx.ownsRow w1.heap.size 34 2 (.slice A' (n + 1) c') (n + 1) (eCells (insE es 0 x q)) ∧ Blk wx (w.heap.size + 1) 25 #[.int .i64 0, .int .i64 0, .slice none 0 0] ∧ Below w.heap.size w wx)
      case first =>
        go_region_with (first | (go_at_call 42; refine (clone_any _ n c es _ (NB.out.e.after (by first | exact HBA.out | exact HBB.out)) (by omega) (by omega)).mono ?_; rintro e w3 ⟨v, rfl, hown, hb3⟩; obtain ⟨g, cap, rfl, hg1, hg2, hcap⟩ := own_at hown (by omega); (first | (have hbx := below_next HBA.out hb3 HBA.out.size; have ob3 := HOA.out.below hb3 HOA.out.lt; have ho3 := own_more hown HBA.out.size) | (have hbx := below_next HBB.out hb3 HBB.out.size; have HV3 := Lib.hid (HVB.out.below hb3 HVB.out.lt); have ob3 := HOB.out.below hb3 HOB.out.lt; have ho3 := own_more hown HBB.out.size; have hvg : w1.heap.size + 1 ≠ g := by (simp at hg1; omega))); have HB3 := Lib.hid hbx; have HO3 := Lib.hid ho3; have nb3 := NB.out.next hbx; have oc := ob3.cell 1; have nc := nb3.u0.cell 2; have nl := nb3.u0.lt; (simp at oc nc); clear hown hb3 hbx ho3 nb3 ob3) | (go_at_call 44; refine (ins_all w1.heap.size g n cap 0 (w1.heap.size + 1) _ es x q _ HO3.out HV3.out hvg c3 (by omega) (by simp)).mono ?_; rintro e w4 ⟨A4, c4, rfl, ho4, hg4⟩; have hb4 := HB3.out.grown hg4 HB3.out.size (by intro k hk; injection hk with hk; subst hk; exact (HO3.out.lt g rfl).1); have HO4 := Lib.hid ho4; have nb4 := NB.out.next hb4; have NB4 := Lib.hid nb4; have nc4 := nb4.u0.cell 2; have nf4 := nb4.u0.free; have nl4 := nb4.u0.lt; (simp at nc4); clear ho4 hb4 hg4 nb4) | (go_at_call 44; refine (ins_all w1.heap.size g n cap 0 w3.heap.size _ es x q _ (HO3.out.alloc _) (Blk.new w3 34 _) (Nat.ne_of_gt hg2) c3 (by omega) (by simp)).mono ?_; rintro e w4 ⟨A4, c4, rfl, ho4, hg4⟩; have hb4 := (HB3.out.alloc HB3.out.size _).grown hg4 (by have := HB3.out.size; simp; omega) (by intro k hk; injection hk with hk; subst hk; exact (HO3.out.lt g rfl).1); have HO4 := Lib.hid ho4; have nb4 := NB.out.next hb4; have NB4 := Lib.hid nb4; have nc4 := nb4.u0.cell 2; have nf4 := nb4.u0.free; have nl4 := nb4.u0.lt; (simp at nc4); clear ho4 hb4 hg4 nb4))
        all_goals
          go_wp2_with fail
          go_meet
          exact ⟨A4, c4, by simpa using NB4.out.u0.set 2 (.slice A4 (n + 1) c4), ownsRow_setCell_below HO4.out (by simpa using lt0) _, NB4.out.u1.far (by simp) _, NB4.out.b.setCell (by simp) _⟩
      case rest =>
        obtain ⟨A', c', q0, qo, q1, qb⟩ := hcut
        obtain ⟨g, cap, hA, hg1, hg2, hcap⟩ := own_at qo (by omega)
        injection hA with hA hA2 hA3
        subst hA hA3
        have hq := insE_next HG.out x q
        have z1 := (qo.cellAt ((0 + 1) * 2 + 1) (by omega)).trans (eCells_get _ _ _ hq).2
        have z2 := qo.frozenAt ((0 + 1) * 2 + 1)
        have zs := (qo.stored ((0 + 1) * 2 + 1) (.int .i64 p)).1
        rw [eCells_set2 _ _ _ _ _ hq, insE_set HG.out] at zs
        have a0 := q0.cell 0
        have a1 := q0.cell 1
        have a2 := q0.cell 2
        have b0 := q1.cell 0
        have b1 := q1.cell 1
        have b2 := q1.cell 2
        have bf := q1.free
        simp at a0 a1 a2 b0 b1 b2
        have ne1 : g ≠ w.heap.size := by omega
        have ne2 : g ≠ w.heap.size + 1 := by omega
        have QB := Lib.hid qb
        have ZS := Lib.hid zs
        clear qb zs qo q0 q1 hq
        go_wp2_with fail
        refine bodyPost_ret (v := .tuple #[.agg #[.int .i64 lv, .int .i64 nx, .slice (some ⟨g, 0, none⟩) (n + 1) c'], .int .i64 0]) (by simp [results, Try.results25, go_sem, *]) rfl ?_
        have nb1 : ∀ i, (Value.slice (some ⟨g, 0, none⟩) (n + 1) c').ownBlock ≠ some (Addr.block ⟨w.heap.size + 1, i, none⟩) := by intro i; show some g ≠ _; simpa using ne2
        have own := ownsRow_setCell_other (ownsRow_setCell_other (ownsRow_setCell_other ZS.out (nb1 0) (.int .i64 lv)) (nb1 1) (.int .i64 nx)) (nb1 2) (.slice (some ⟨g, 0, none⟩) (n + 1) c')
        exact ⟨_, _, rfl, ⟨hcap, Rd.of_own own⟩, ((((QB.out.setCell (by show w.heap.size ≤ g; omega) _).setCell (by simp) _).setCell (by simp) _).setCell (by simp) _)⟩
    · obtain ⟨y1, y2⟩ := full_list y0
      have l1 : Op.bytesLess x.toList y.toList = true := HY.out.resolve_left y0
      clear y0
      go_wp2_with fail
      go_cut [] (fun wx => ∃ A' c', Blk wx w.heap.size 25 #[.int .i64 lv, .int .i64 nx, .slice A' (n + 1) c'] ∧ wx.ownsRow w1.heap.size 34 2 (.slice A' (n + 1) c') (n + 1) (eCells (insE es 0 x q)) ∧ Blk wx (w.heap.size + 1) 25 #[.int .i64 0, .int .i64 0, .slice none 0 0] ∧ Below w.heap.size w wx)
      case first =>
        go_region_with (first | (go_at_call 42; refine (clone_any _ n c es _ (NB.out.e.after (by first | exact HBA.out | exact HBB.out)) (by omega) (by omega)).mono ?_; rintro e w3 ⟨v, rfl, hown, hb3⟩; obtain ⟨g, cap, rfl, hg1, hg2, hcap⟩ := own_at hown (by omega); (first | (have hbx := below_next HBA.out hb3 HBA.out.size; have ob3 := HOA.out.below hb3 HOA.out.lt; have ho3 := own_more hown HBA.out.size) | (have hbx := below_next HBB.out hb3 HBB.out.size; have HV3 := Lib.hid (HVB.out.below hb3 HVB.out.lt); have ob3 := HOB.out.below hb3 HOB.out.lt; have ho3 := own_more hown HBB.out.size; have hvg : w1.heap.size + 1 ≠ g := by (simp at hg1; omega))); have HB3 := Lib.hid hbx; have HO3 := Lib.hid ho3; have nb3 := NB.out.next hbx; have oc := ob3.cell 1; have nc := nb3.u0.cell 2; have nl := nb3.u0.lt; (simp at oc nc); clear hown hb3 hbx ho3 nb3 ob3) | (go_at_call 44; refine (ins_all w1.heap.size g n cap 0 (w1.heap.size + 1) _ es x q _ HO3.out HV3.out hvg c3 (by omega) (by simp)).mono ?_; rintro e w4 ⟨A4, c4, rfl, ho4, hg4⟩; have hb4 := HB3.out.grown hg4 HB3.out.size (by intro k hk; injection hk with hk; subst hk; exact (HO3.out.lt g rfl).1); have HO4 := Lib.hid ho4; have nb4 := NB.out.next hb4; have NB4 := Lib.hid nb4; have nc4 := nb4.u0.cell 2; have nf4 := nb4.u0.free; have nl4 := nb4.u0.lt; (simp at nc4); clear ho4 hb4 hg4 nb4) | (go_at_call 44; refine (ins_all w1.heap.size g n cap 0 w3.heap.size _ es x q _ (HO3.out.alloc _) (Blk.new w3 34 _) (Nat.ne_of_gt hg2) c3 (by omega) (by simp)).mono ?_; rintro e w4 ⟨A4, c4, rfl, ho4, hg4⟩; have hb4 := (HB3.out.alloc HB3.out.size _).grown hg4 (by have := HB3.out.size; simp; omega) (by intro k hk; injection hk with hk; subst hk; exact (HO3.out.lt g rfl).1); have HO4 := Lib.hid ho4; have nb4 := NB.out.next hb4; have NB4 := Lib.hid nb4; have nc4 := nb4.u0.cell 2; have nf4 := nb4.u0.free; have nl4 := nb4.u0.lt; (simp at nc4); clear ho4 hb4 hg4 nb4))
        all_goals
          go_wp2_with fail
          go_meet
          exact ⟨A4, c4, by simpa using NB4.out.u0.set 2 (.slice A4 (n + 1) c4), ownsRow_setCell_below HO4.out (by simpa using lt0) _, NB4.out.u1.far (by simp) _, NB4.out.b.setCell (by simp) _⟩
      case rest =>
        obtain ⟨A', c', q0, qo, q1, qb⟩ := hcut
        obtain ⟨g, cap, hA, hg1, hg2, hcap⟩ := own_at qo (by omega)
        injection hA with hA hA2 hA3
        subst hA hA3
        have hq := insE_next HG.out x q
        have z1 := (qo.cellAt ((0 + 1) * 2 + 1) (by omega)).trans (eCells_get _ _ _ hq).2
        have z2 := qo.frozenAt ((0 + 1) * 2 + 1)
        have zs := (qo.stored ((0 + 1) * 2 + 1) (.int .i64 p)).1
        rw [eCells_set2 _ _ _ _ _ hq, insE_set HG.out] at zs
        have a0 := q0.cell 0
        have a1 := q0.cell 1
        have a2 := q0.cell 2
        have b0 := q1.cell 0
        have b1 := q1.cell 1
        have b2 := q1.cell 2
        have bf := q1.free
        simp at a0 a1 a2 b0 b1 b2
        have ne1 : g ≠ w.heap.size := by omega
        have ne2 : g ≠ w.heap.size + 1 := by omega
        have QB := Lib.hid qb
        have ZS := Lib.hid zs
        clear qb zs qo q0 q1 hq
        go_wp2_with fail
        refine bodyPost_ret (v := .tuple #[.agg #[.int .i64 lv, .int .i64 nx, .slice (some ⟨g, 0, none⟩) (n + 1) c'], .int .i64 0]) (by simp [results, Try.results25, go_sem, *]) rfl ?_
        have nb1 : ∀ i, (Value.slice (some ⟨g, 0, none⟩) (n + 1) c').ownBlock ≠ some (Addr.block ⟨w.heap.size + 1, i, none⟩) := by intro i; show some g ≠ _; simpa using ne2
        have own := ownsRow_setCell_other (ownsRow_setCell_other (ownsRow_setCell_other ZS.out (nb1 0) (.int .i64 lv)) (nb1 1) (.int .i64 nx)) (nb1 2) (.slice (some ⟨g, 0, none⟩) (n + 1) c')
        exact ⟨_, _, rfl, ⟨hcap, Rd.of_own own⟩, ((((QB.out.setCell (by show w.heap.size ≤ g; omega) _).setCell (by simp) _).setCell (by simp) _).setCell (by simp) _)⟩
  | succ t =>
    obtain ⟨b', o', z, q', hA', hb', hg', hc', _⟩ := NB.out.e.cell (k := t) (by omega)
    injection hA' with hA'
    injection hA' with e1 e2
    subst e1 e2
    have hzx := HZ.out (by omega)
    rw [Nat.add_sub_cancel, entAt_get hg'] at hzx
    obtain ⟨l1, l2, l3⟩ := less_no hzx
    clear hg' hzx
    by_cases y0 : y.size = 0
    · obtain ⟨y1, y2⟩ := empty_list y0
      clear y0
      go_wp2_with fail
      go_cut [] (fun wx => ∃ A' c', Blk wx w.heap.size 25 #[.int .i64 lv, .int .i64 nx, .slice A' (n + 1) c'] ∧ wx.ownsRow w1.heap.size 34 2 (.slice A' (n + 1) c') (n + 1) (eCells (insE es (t + 1) x q)) ∧ Blk wx (w.heap.size + 1) 25 #[.int .i64 0, .int .i64 0, .slice none 0 0] ∧ Below w.heap.size w wx)
      case first =>
        go_region_with (first | (go_at_call 42; refine (clone_any _ n c es _ (NB.out.e.after (by first | exact HBA.out | exact HBB.out)) (by omega) (by omega)).mono ?_; rintro e w3 ⟨v, rfl, hown, hb3⟩; obtain ⟨g, cap, rfl, hg1, hg2, hcap⟩ := own_at hown (by omega); (first | (have hbx := below_next HBA.out hb3 HBA.out.size; have ob3 := HOA.out.below hb3 HOA.out.lt; have ho3 := own_more hown HBA.out.size) | (have hbx := below_next HBB.out hb3 HBB.out.size; have HV3 := Lib.hid (HVB.out.below hb3 HVB.out.lt); have ob3 := HOB.out.below hb3 HOB.out.lt; have ho3 := own_more hown HBB.out.size; have hvg : w1.heap.size + 1 ≠ g := by (simp at hg1; omega))); have HB3 := Lib.hid hbx; have HO3 := Lib.hid ho3; have nb3 := NB.out.next hbx; have oc := ob3.cell 1; have nc := nb3.u0.cell 2; have nl := nb3.u0.lt; (simp at oc nc); clear hown hb3 hbx ho3 nb3 ob3) | (go_at_call 44; refine (ins_all w1.heap.size g n cap (t + 1) (w1.heap.size + 1) _ es x q _ HO3.out HV3.out hvg c3 (by omega) (by simp)).mono ?_; rintro e w4 ⟨A4, c4, rfl, ho4, hg4⟩; have hb4 := HB3.out.grown hg4 HB3.out.size (by intro k hk; injection hk with hk; subst hk; exact (HO3.out.lt g rfl).1); have HO4 := Lib.hid ho4; have nb4 := NB.out.next hb4; have NB4 := Lib.hid nb4; have nc4 := nb4.u0.cell 2; have nf4 := nb4.u0.free; have nl4 := nb4.u0.lt; (simp at nc4); clear ho4 hb4 hg4 nb4) | (go_at_call 44; refine (ins_all w1.heap.size g n cap (t + 1) w3.heap.size _ es x q _ (HO3.out.alloc _) (Blk.new w3 34 _) (Nat.ne_of_gt hg2) c3 (by omega) (by simp)).mono ?_; rintro e w4 ⟨A4, c4, rfl, ho4, hg4⟩; have hb4 := (HB3.out.alloc HB3.out.size _).grown hg4 (by have := HB3.out.size; simp; omega) (by intro k hk; injection hk with hk; subst hk; exact (HO3.out.lt g rfl).1); have HO4 := Lib.hid ho4; have nb4 := NB.out.next hb4; have NB4 := Lib.hid nb4; have nc4 := nb4.u0.cell 2; have nf4 := nb4.u0.free; have nl4 := nb4.u0.lt; (simp at nc4); clear ho4 hb4 hg4 nb4))
        all_goals
          go_wp2_with fail
          go_meet
          exact ⟨A4, c4, by simpa using NB4.out.u0.set 2 (.slice A4 (n + 1) c4), ownsRow_setCell_below HO4.out (by simpa using lt0) _, NB4.out.u1.far (by simp) _, NB4.out.b.setCell (by simp) _⟩
      case rest =>
        obtain ⟨A', c', q0, qo, q1, qb⟩ := hcut
        obtain ⟨g, cap, hA, hg1, hg2, hcap⟩ := own_at qo (by omega)
        injection hA with hA hA2 hA3
        subst hA hA3
        have hq := insE_next HG.out x q
        have z1 := (qo.cellAt (((t + 1) + 1) * 2 + 1) (by omega)).trans (eCells_get _ _ _ hq).2
        have z2 := qo.frozenAt (((t + 1) + 1) * 2 + 1)
        have zs := (qo.stored (((t + 1) + 1) * 2 + 1) (.int .i64 p)).1
        rw [eCells_set2 _ _ _ _ _ hq, insE_set HG.out] at zs
        have a0 := q0.cell 0
        have a1 := q0.cell 1
        have a2 := q0.cell 2
        have b0 := q1.cell 0
        have b1 := q1.cell 1
        have b2 := q1.cell 2
        have bf := q1.free
        simp at a0 a1 a2 b0 b1 b2
        have ne1 : g ≠ w.heap.size := by omega
        have ne2 : g ≠ w.heap.size + 1 := by omega
        have QB := Lib.hid qb
        have ZS := Lib.hid zs
        clear qb zs qo q0 q1 hq
        go_wp2_with fail
        refine bodyPost_ret (v := .tuple #[.agg #[.int .i64 lv, .int .i64 nx, .slice (some ⟨g, 0, none⟩) (n + 1) c'], .int .i64 0]) (by simp [results, Try.results25, go_sem, *]) rfl ?_
        have nb1 : ∀ i, (Value.slice (some ⟨g, 0, none⟩) (n + 1) c').ownBlock ≠ some (Addr.block ⟨w.heap.size + 1, i, none⟩) := by intro i; show some g ≠ _; simpa using ne2
        have own := ownsRow_setCell_other (ownsRow_setCell_other (ownsRow_setCell_other ZS.out (nb1 0) (.int .i64 lv)) (nb1 1) (.int .i64 nx)) (nb1 2) (.slice (some ⟨g, 0, none⟩) (n + 1) c')
        exact ⟨_, _, rfl, ⟨hcap, Rd.of_own own⟩, ((((QB.out.setCell (by show w.heap.size ≤ g; omega) _).setCell (by simp) _).setCell (by simp) _).setCell (by simp) _)⟩
    · obtain ⟨y1, y2⟩ := full_list y0
      have r1 : Op.bytesLess x.toList y.toList = true := HY.out.resolve_left y0
      clear y0
      go_wp2_with fail
      go_cut [] (fun wx => ∃ A' c', Blk wx w.heap.size 25 #[.int .i64 lv, .int .i64 nx, .slice A' (n + 1) c'] ∧ wx.ownsRow w1.heap.size 34 2 (.slice A' (n + 1) c') (n + 1) (eCells (insE es (t + 1) x q)) ∧ Blk wx (w.heap.size + 1) 25 #[.int .i64 0, .int .i64 0, .slice none 0 0] ∧ Below w.heap.size w wx)
      case first =>
        go_region_with (first | (go_at_call 42; refine (clone_any _ n c es _ (NB.out.e.after (by first | exact HBA.out | exact HBB.out)) (by omega) (by omega)).mono ?_; rintro e w3 ⟨v, rfl, hown, hb3⟩; obtain ⟨g, cap, rfl, hg1, hg2, hcap⟩ := own_at hown (by omega); (first | (have hbx := below_next HBA.out hb3 HBA.out.size; have ob3 := HOA.out.below hb3 HOA.out.lt; have ho3 := own_more hown HBA.out.size) | (have hbx := below_next HBB.out hb3 HBB.out.size; have HV3 := Lib.hid (HVB.out.below hb3 HVB.out.lt); have ob3 := HOB.out.below hb3 HOB.out.lt; have ho3 := own_more hown HBB.out.size; have hvg : w1.heap.size + 1 ≠ g := by (simp at hg1; omega))); have HB3 := Lib.hid hbx; have HO3 := Lib.hid ho3; have nb3 := NB.out.next hbx; have oc := ob3.cell 1; have nc := nb3.u0.cell 2; have nl := nb3.u0.lt; (simp at oc nc); clear hown hb3 hbx ho3 nb3 ob3) | (go_at_call 44; refine (ins_all w1.heap.size g n cap (t + 1) (w1.heap.size + 1) _ es x q _ HO3.out HV3.out hvg c3 (by omega) (by simp)).mono ?_; rintro e w4 ⟨A4, c4, rfl, ho4, hg4⟩; have hb4 := HB3.out.grown hg4 HB3.out.size (by intro k hk; injection hk with hk; subst hk; exact (HO3.out.lt g rfl).1); have HO4 := Lib.hid ho4; have nb4 := NB.out.next hb4; have NB4 := Lib.hid nb4; have nc4 := nb4.u0.cell 2; have nf4 := nb4.u0.free; have nl4 := nb4.u0.lt; (simp at nc4); clear ho4 hb4 hg4 nb4) | (go_at_call 44; refine (ins_all w1.heap.size g n cap (t + 1) w3.heap.size _ es x q _ (HO3.out.alloc _) (Blk.new w3 34 _) (Nat.ne_of_gt hg2) c3 (by omega) (by simp)).mono ?_; rintro e w4 ⟨A4, c4, rfl, ho4, hg4⟩; have hb4 := (HB3.out.alloc HB3.out.size _).grown hg4 (by have := HB3.out.size; simp; omega) (by intro k hk; injection hk with hk; subst hk; exact (HO3.out.lt g rfl).1); have HO4 := Lib.hid ho4; have nb4 := NB.out.next hb4; have NB4 := Lib.hid nb4; have nc4 := nb4.u0.cell 2; have nf4 := nb4.u0.free; have nl4 := nb4.u0.lt; (simp at nc4); clear ho4 hb4 hg4 nb4))
        all_goals
          go_wp2_with fail
          go_meet
          exact ⟨A4, c4, by simpa using NB4.out.u0.set 2 (.slice A4 (n + 1) c4), ownsRow_setCell_below HO4.out (by simpa using lt0) _, NB4.out.u1.far (by simp) _, NB4.out.b.setCell (by simp) _⟩
      case rest =>
        obtain ⟨A', c', q0, qo, q1, qb⟩ := hcut
        obtain ⟨g, cap, hA, hg1, hg2, hcap⟩ := own_at qo (by omega)
        injection hA with hA hA2 hA3
        subst hA hA3
        have hq := insE_next HG.out x q
        have z1 := (qo.cellAt (((t + 1) + 1) * 2 + 1) (by omega)).trans (eCells_get _ _ _ hq).2
        have z2 := qo.frozenAt (((t + 1) + 1) * 2 + 1)
        have zs := (qo.stored (((t + 1) + 1) * 2 + 1) (.int .i64 p)).1
        rw [eCells_set2 _ _ _ _ _ hq, insE_set HG.out] at zs
        have a0 := q0.cell 0
        have a1 := q0.cell 1
        have a2 := q0.cell 2
        have b0 := q1.cell 0
        have b1 := q1.cell 1
        have b2 := q1.cell 2
        have bf := q1.free
        simp at a0 a1 a2 b0 b1 b2
        have ne1 : g ≠ w.heap.size := by omega
        have ne2 : g ≠ w.heap.size + 1 := by omega
        have QB := Lib.hid qb
        have ZS := Lib.hid zs
        clear qb zs qo q0 q1 hq
        go_wp2_with fail
        refine bodyPost_ret (v := .tuple #[.agg #[.int .i64 lv, .int .i64 nx, .slice (some ⟨g, 0, none⟩) (n + 1) c'], .int .i64 0]) (by simp [results, Try.results25, go_sem, *]) rfl ?_
        have nb1 : ∀ i, (Value.slice (some ⟨g, 0, none⟩) (n + 1) c').ownBlock ≠ some (Addr.block ⟨w.heap.size + 1, i, none⟩) := by intro i; show some g ≠ _; simpa using ne2
        have own := ownsRow_setCell_other (ownsRow_setCell_other (ownsRow_setCell_other ZS.out (nb1 0) (.int .i64 lv)) (nb1 1) (.int .i64 nx)) (nb1 2) (.slice (some ⟨g, 0, none⟩) (n + 1) c')
        exact ⟨_, _, rfl, ⟨hcap, Rd.of_own own⟩, ((((QB.out.setCell (by show w.heap.size ≤ g; omega) _).setCell (by simp) _).setCell (by simp) _).setCell (by simp) _)⟩
end Go.Proofs.Ytjfinkfikebjbaa