/- Insert of the reference, where it refuses. -/
import Derived.Test.YtjfinkfikebjbaaRb
namespace Go.Proofs.Ytjfinkfikebjbaa
open Go.RowKit
attribute [local go_sem ↓] Go.wp_at_zero Go.wp_at_succ

set_option maxRecDepth 100000 in
set_option maxHeartbeats 4000000 in
theorem rinsert_no (lv nx : Int) (A : Option Addr) (n c : Nat) (es : List Ent) (i : Int) (x : ByteArray) (p : Int) (w : World) (e : Int) (hs : Es w w.heap.size A n c es) (hn : n ≤ 9223372036854775807) (he : insErr lv nx es i x p = e) (h0 : e ≠ 0) :
    Calls Try.prog 26 #[.agg #[.int .i64 lv, .int .i64 nx, .slice A n c], .int .i64 i, .string x, .int .i64 p] w fun r w' => r = .returned (.tuple #[.agg #[.int .i64 0, .int .i64 0, .slice none 0 0], .int .i64 e]) ∧ Below w.heap.size w w' := by
  have HS := Lib.hid hs
  have HL := Lib.hid hs.len
  have HE := Lib.hid he
  have H0 := Lib.hid h0
  clear hs he h0
  go_enter Try.func26, Try.ntmps26
  go_wp2_with fail
  cases hp : plainB lv nx es with
  | false =>
    refine (isnode_is' hp (Nb.start lv nx HS.out).e hn).mono ?_
    rintro r w1 ⟨rfl, hb1⟩
    have nb := (Nb.start lv nx HS.out).next hb1
    have NB := Lib.hid nb
    have f1 := nb.u1.free
    have lt0 := nb.u0.lt
    have lt1 := nb.u1.lt
    have m0 := nb.u1.cell 0
    have m1 := nb.u1.cell 1
    have m2 := nb.u1.cell 2
    have k2 := nb.u0.cell 2
    simp at m0 m1 m2 k2
    clear nb hb1
    have HX : Hid (e = 1) := Lib.hid (by rw [← HE.out]; simp [insErr, hp])
    clear hp
    go_wp2_with fail
    refine bodyPost_ret (v := .tuple #[.agg #[.int .i64 0, .int .i64 0, .slice none 0 0], .int .i64 1]) (by simp [results, Try.results26, go_sem, *]) rfl ?_
    exact ⟨by rw [HX.out], nb_end NB.out _ _ _⟩
  | true =>
    have hlen := plain_len hp
    rw [HL.out] at hlen
    obtain ⟨hn1, hn2⟩ := hlen
    refine (isnode_is' hp (Nb.start lv nx HS.out).e hn).mono ?_
    rintro r w1 ⟨rfl, hb1⟩
    have nb := (Nb.start lv nx HS.out).next hb1
    have NB := Lib.hid nb
    have f1 := nb.u1.free
    have lt0 := nb.u0.lt
    have lt1 := nb.u1.lt
    have m0 := nb.u1.cell 0
    have m1 := nb.u1.cell 1
    have m2 := nb.u1.cell 2
    have k2 := nb.u0.cell 2
    simp at m0 m1 m2 k2
    clear nb hb1
    have HP := Lib.hid hp
    clear hp
    by_cases c1 : 1 ≤ p ∧ p ≤ 16777216
    rotate_left
    · have HX : Hid (e = 1) := Lib.hid (by rw [← HE.out]; simp [insErr, c1])
      by_cases p1 : p < 1
      · clear c1
        go_wp2_with fail
        refine bodyPost_ret (v := .tuple #[.agg #[.int .i64 0, .int .i64 0, .slice none 0 0], .int .i64 1]) (by simp [results, Try.results26, go_sem, *]) rfl ?_
        exact ⟨by rw [HX.out], nb_end NB.out _ _ _⟩
      · have p2 : 16777216 < p := by omega
        clear c1
        go_wp2_with fail
        refine bodyPost_ret (v := .tuple #[.agg #[.int .i64 0, .int .i64 0, .slice none 0 0], .int .i64 1]) (by simp [results, Try.results26, go_sem, *]) rfl ?_
        exact ⟨by rw [HX.out], nb_end NB.out _ _ _⟩
    obtain ⟨p1, p2⟩ := c1
    have c1 : 1 ≤ p ∧ p ≤ 16777216 := ⟨p1, p2⟩
    have pd1 : decide (p < 1) = false := by simp; omega
    have pd2 : decide (16777216 < p) = false := by simp; omega
    by_cases c2 : i < 0
    · have HX : Hid (e = 1) := Lib.hid (by rw [← HE.out]; unfold insErr; rw [if_neg (by omega)])
      have d2 : decide (i < 0) = true := by simpa using c2
      clear c1
      go_wp2_with fail
      refine bodyPost_ret (v := .tuple #[.agg #[.int .i64 0, .int .i64 0, .slice none 0 0], .int .i64 1]) (by simp [results, Try.results26, go_sem, *]) rfl ?_
      exact ⟨by rw [HX.out], nb_end NB.out _ _ _⟩
    obtain ⟨k, rfl⟩ : ∃ k : Nat, i = (k : Int) := ⟨i.toNat, by omega⟩
    by_cases c3 : k < n
    rotate_left
    · have HX : Hid (e = 1) := Lib.hid (by rw [← HE.out]; unfold insErr; rw [if_neg (by rw [HL.out]; omega)])
      have d3 : decide ((n : Int) ≤ (k : Int)) = true := by simp; omega
      clear c1
      go_wp2_with fail
      refine bodyPost_ret (v := .tuple #[.agg #[.int .i64 0, .int .i64 0, .slice none 0 0], .int .i64 1]) (by simp [results, Try.results26, go_sem, *]) rfl ?_
      exact ⟨by rw [HX.out], nb_end NB.out _ _ _⟩
    clear c2
    have d3 : decide ((n : Int) ≤ (k : Int)) = false := by simp; omega
    obtain ⟨b, o, y, q, rfl, hb, hg, hc, hc2⟩ := NB.out.e.cell c3
    have hent := entAt_get hg
    have hyk : y.size = 0 ↔ k + 1 = n := by
      obtain ⟨m, hm⟩ : ∃ m, es.length = m + 1 := ⟨es.length - 1, by rw [HL.out]; omega⟩
      have q := ((entB_parts (es := es) (j := k) hm).1 ((plain_yes HP.out).2.2.2.2.2.2 k (by rw [HL.out]; exact c3))).2.2.1
      rw [hent] at q
      have := HL.out
      exact ⟨fun h => by have := q.1 h; omega, fun h => q.2 (by omega)⟩
    have HYK := Lib.hid hyk
    clear hyk
    have HINS : Hid (insErr lv nx es (k : Int) x p = if x.size = 0 ∨ 32 < x.size ∨ (0 < (k : Int) ∧ lessB (entAt es (k - 1)).1 x = false) ∨ (y.size ≠ 0 ∧ lessB x y = false) then 2 else if n = 120 then 8 else 0) := Lib.hid (by
      unfold insErr; rw [if_pos ⟨HP.out, c1, by omega, by rw [HL.out]; omega⟩, Int.toNat_natCast, hent, HL.out])
    clear c1 hg hent
    by_cases x0 : x.size = 0
    · have HX : Hid (e = 2) := Lib.hid (by rw [← HE.out, HINS.out, if_pos (.inl x0)])
      obtain ⟨x1, x2⟩ := empty_list x0
      clear x0
      go_wp2_with fail
      refine bodyPost_ret (v := .tuple #[.agg #[.int .i64 0, .int .i64 0, .slice none 0 0], .int .i64 2]) (by simp [results, Try.results26, go_sem, *]) rfl ?_
      exact ⟨by rw [HX.out], nb_end NB.out _ _ _⟩
    by_cases x3 : 32 < x.size
    · have HX : Hid (e = 2) := Lib.hid (by rw [← HE.out, HINS.out, if_pos (.inr (.inl x3))])
      obtain ⟨x1, x2⟩ := full_list x0
      clear x0
      have d4 : decide (32 < (x.size : Int)) = true := by simp; omega
      clear x3
      go_wp2_with fail
      refine bodyPost_ret (v := .tuple #[.agg #[.int .i64 0, .int .i64 0, .slice none 0 0], .int .i64 2]) (by simp [results, Try.results26, go_sem, *]) rfl ?_
      exact ⟨by rw [HX.out], nb_end NB.out _ _ _⟩
    obtain ⟨x1, x2⟩ := full_list x0
    have d4 : decide (32 < (x.size : Int)) = false := by simp; omega
    have X0 := Lib.hid x0
    have X3 := Lib.hid x3
    clear x0 x3
    cases k with
    | zero =>
      have hc0 : w1.cell? ⟨b, o, none⟩ = some (.string y) := by simpa using hc
      have hc20 : w1.cell? ⟨b, o + 1, none⟩ = some (.int .i64 q) := by simpa using hc2
      by_cases y0 : y.size = 0
      · have yk := HYK.out.1 y0
        have dl : decide ((0 : Int) < (n : Int) - 1) = false := by simp; omega
        by_cases n0 : n = 120
        · omega
        · exfalso
          refine H0.out ?_
          rw [← HE.out, HINS.out, if_neg (or4 X0.out X3.out (fun h => absurd h.1 (by omega)) (fun h => h.1 y0)), if_neg n0]
      · have yk : ¬ (0 + 1 = n) := fun h => y0 (HYK.out.2 h)
        have dl : decide ((0 : Int) < (n : Int) - 1) = true := by simp; omega
        cases hxy : lessB x y with
        | false =>
          have HX : Hid (e = 2) := Lib.hid (by rw [← HE.out, HINS.out, if_pos (.inr (.inr (.inr ⟨y0, hxy⟩)))])
          have l1 : Op.bytesLess x.toList y.toList = false := hxy
          clear y0 hxy
          go_wp2_with fail
          refine bodyPost_ret (v := .tuple #[.agg #[.int .i64 0, .int .i64 0, .slice none 0 0], .int .i64 2]) (by simp [results, Try.results26, go_sem, *]) rfl ?_
          exact ⟨by rw [HX.out], nb_end NB.out _ _ _⟩
        | true =>
          have l1 : Op.bytesLess x.toList y.toList = true := hxy
          by_cases n0 : n = 120
          · have d5 : ((n : Int) == 120) = true := by simp; omega
            have HX : Hid (e = 8) := Lib.hid (by rw [← HE.out, HINS.out, if_neg (or4 X0.out X3.out (fun h => absurd h.1 (by omega)) (fun h => by rw [hxy] at h; cases h.2)), if_pos n0])
            clear n0 y0 hxy
            go_wp2_with fail
            refine bodyPost_ret (v := .tuple #[.agg #[.int .i64 0, .int .i64 0, .slice none 0 0], .int .i64 8]) (by simp [results, Try.results26, go_sem, *]) rfl ?_
            exact ⟨by rw [HX.out], nb_end NB.out _ _ _⟩
          · exfalso
            refine H0.out ?_
            rw [← HE.out, HINS.out, if_neg (or4 X0.out X3.out (fun h => absurd h.1 (by omega)) (fun h => by rw [hxy] at h; cases h.2)), if_neg n0]
    | succ t =>
      obtain ⟨b', o', z, q', hA', hb', hg', hc', _⟩ := NB.out.e.cell (k := t) (by omega)
      injection hA' with hA'
      injection hA' with e1 e2
      subst e1 e2
      have hz : (entAt es (t + 1 - 1)).1 = z := by rw [Nat.add_sub_cancel, entAt_get hg']
      rw [hz] at HINS
      clear hz hg'
      cases hzx : lessB z x with
      | false =>
        have HX : Hid (e = 2) := Lib.hid (by rw [← HE.out, HINS.out, if_pos (.inr (.inr (.inl ⟨by omega, hzx⟩)))])
        rcases less_yes hzx with l1 | l1
        · clear hzx
          go_wp2_with fail
          refine bodyPost_ret (v := .tuple #[.agg #[.int .i64 0, .int .i64 0, .slice none 0 0], .int .i64 2]) (by simp [results, Try.results26, go_sem, *]) rfl ?_
          exact ⟨by rw [HX.out], nb_end NB.out _ _ _⟩
        · subst l1
          clear hzx
          go_wp2_with fail
          refine bodyPost_ret (v := .tuple #[.agg #[.int .i64 0, .int .i64 0, .slice none 0 0], .int .i64 2]) (by simp [results, Try.results26, go_sem, *]) rfl ?_
          exact ⟨by rw [HX.out], nb_end NB.out _ _ _⟩
      | true =>
        obtain ⟨l1, l2, l3⟩ := less_no hzx
        by_cases y0 : y.size = 0
        · have yk := HYK.out.1 y0
          have dl : decide ((t : Int) + 1 < (n : Int) - 1) = false := by simp; omega
          clear yk
          by_cases n0 : n = 120
          · have d5 : ((n : Int) == 120) = true := by simp; omega
            have HX : Hid (e = 8) := Lib.hid (by rw [← HE.out, HINS.out, if_neg (or4 X0.out X3.out (fun h => by rw [hzx] at h; cases h.2) (fun h => h.1 y0)), if_pos n0])
            clear n0 y0 hzx
            go_wp2_with fail
            refine bodyPost_ret (v := .tuple #[.agg #[.int .i64 0, .int .i64 0, .slice none 0 0], .int .i64 8]) (by simp [results, Try.results26, go_sem, *]) rfl ?_
            exact ⟨by rw [HX.out], nb_end NB.out _ _ _⟩
          · exfalso
            refine H0.out ?_
            rw [← HE.out, HINS.out, if_neg (or4 X0.out X3.out (fun h => by rw [hzx] at h; cases h.2) (fun h => h.1 y0)), if_neg n0]
        · have yk : ¬ (t + 1 + 1 = n) := fun h => y0 (HYK.out.2 h)
          have dl : decide ((t : Int) + 1 < (n : Int) - 1) = true := by simp; omega
          cases hxy : lessB x y with
          | false =>
            have HX : Hid (e = 2) := Lib.hid (by rw [← HE.out, HINS.out, if_pos (.inr (.inr (.inr ⟨y0, hxy⟩)))])
            have r1 : Op.bytesLess x.toList y.toList = false := hxy
            clear y0 hxy hzx
            go_wp2_with fail
            refine bodyPost_ret (v := .tuple #[.agg #[.int .i64 0, .int .i64 0, .slice none 0 0], .int .i64 2]) (by simp [results, Try.results26, go_sem, *]) rfl ?_
            exact ⟨by rw [HX.out], nb_end NB.out _ _ _⟩
          | true =>
            have r1 : Op.bytesLess x.toList y.toList = true := hxy
            by_cases n0 : n = 120
            · have d5 : ((n : Int) == 120) = true := by simp; omega
              have HX : Hid (e = 8) := Lib.hid (by rw [← HE.out, HINS.out, if_neg (or4 X0.out X3.out (fun h => by rw [hzx] at h; cases h.2) (fun h => by rw [hxy] at h; cases h.2)), if_pos n0])
              clear n0 y0 hxy hzx
              go_wp2_with fail
              refine bodyPost_ret (v := .tuple #[.agg #[.int .i64 0, .int .i64 0, .slice none 0 0], .int .i64 8]) (by simp [results, Try.results26, go_sem, *]) rfl ?_
              exact ⟨by rw [HX.out], nb_end NB.out _ _ _⟩
            · exfalso
              refine H0.out ?_
              rw [← HE.out, HINS.out, if_neg (or4 X0.out X3.out (fun h => by rw [hzx] at h; cases h.2) (fun h => by rw [hxy] at h; cases h.2)), if_neg n0]
end Go.Proofs.Ytjfinkfikebjbaa