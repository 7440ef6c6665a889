/- NodeLeads: the walk. -/
import Derived.Test.YtjfinkfikebjbaaL
import Derived.Test.YtjfinkfikebjbaaC
namespace Go.Proofs.Ytjfinkfikebjbaa
open Go.RowKit
attribute [local go_sem ↓] Go.wp_at_zero Go.wp_at_succ

theorem fidx_le (es : List Ent) (k : ByteArray) : fidx es k ≤ es.length := List.findIdx_le_length
theorem fidx_at {es : List Ent} {k : ByteArray} {e : Ent} (hg : es[fidx es k]? = some e) : lessB k e.1 = true := by
  obtain ⟨h, rfl⟩ := List.getElem?_eq_some_iff.1 hg
  exact List.findIdx_getElem (w := h)
theorem fidx_under {es : List Ent} {k : ByteArray} {t : Nat} {e : Ent} (ht : t < fidx es k) (hg : es[t]? = some e) : lessB k e.1 = false := by
  obtain ⟨h, rfl⟩ := List.getElem?_eq_some_iff.1 hg
  have := List.not_of_lt_findIdx (p := fun e : Ent => lessB k e.1) ht
  simpa using this
theorem plain_len {lv nx : Int} {es : List Ent} (h : plainB lv nx es = true) : 1 ≤ es.length ∧ es.length ≤ 120 := by
  simp [plainB, headB] at h
  omega

theorem find_at {es : List Ent} (k : ByteArray) {n : Nat} (hl : es.length = n) (h1 : 1 ≤ n) :
    ∃ i : Nat, findI es k = (i : Int) ∧ i < n ∧ (∀ e, es[i]? = some e → i + 1 = n ∨ lessB k e.1 = true) ∧ (∀ t, t + 1 = i → ∀ e, es[t]? = some e → lessB k e.1 = false) := by
  have hle := fidx_le es k
  rw [hl] at hle
  by_cases hlt : fidx es k < n
  · exact ⟨fidx es k, by unfold findI; rw [hl, if_pos hlt], hlt, fun e he => .inr (fidx_at he), fun t ht e he => fidx_under (by omega) he⟩
  · exact ⟨n - 1, by unfold findI; rw [hl, if_neg hlt]; omega, by omega, fun e he => .inl (by omega), fun t ht e he => fidx_under (by omega) he⟩

set_option maxRecDepth 100000 in
set_option maxHeartbeats 4000000 in
theorem leads_any (lv nx : Int) (A : Option Addr) (n c : Nat) (es : List Ent) (k : ByteArray) (w : World) (hs : Es w w.heap.size A n c es) (hn : n ≤ 9223372036854775807) :
    Calls Try.prog 4 #[.agg #[.int .i64 lv, .int .i64 nx, .slice A n c], .string k] w fun e w' => e = .returned (.bool true) ∧ Below w.heap.size w w' := by
  have HS := Lib.hid hs
  have HL := Lib.hid hs.len
  clear hs
  have HN := Lib.hid hn
  clear hn
  go_enter Try.func4, Try.ntmps4
  go_wp2_with fail
  refine (awake_any _).mono ?_
  rintro e w1 ⟨rfl, hb1⟩
  have x1 : Below (w.heap.size + 1) (w.alloc (.cells #[.int .i64 lv, .int .i64 nx, .slice A n c] 25)) w1 := by simpa using hb1
  have k1a := bx_cell x1 0
  have k1b := bx_cell x1 1
  have k1c := bx_cell x1 2
  have X1 := Lib.hid x1
  clear hb1 x1
  go_wp2_with fail
  refine (isnode_any lv nx A n c es _ (Es.after HS.out (bx_below X1.out)) HN.out).mono ?_
  rintro e w2 ⟨rfl, hb2⟩
  have x2 := below_next X1.out hb2 (bx_size X1.out)
  have k2a := bx_cell x2 0
  have k2b := bx_cell x2 1
  have k2c := bx_cell x2 2
  have X2 := Lib.hid x2
  clear hb2 x2 k1a k1b k1c
  cases hq : plainB lv nx es with
  | false =>
    clear hq
    go_wp2
    go_ret
    exact ⟨rfl, bx_below X2.out⟩
  | true =>
    obtain ⟨g1, g2⟩ := plain_len hq
    rw [HL.out] at g1 g2
    clear hq
    by_cases hk : 100 < k.size
    · go_wp2
      go_ret
      exact ⟨rfl, bx_below X2.out⟩
    · go_wp2_with fail
      refine (find_any lv nx A n c es k _ (Es.after HS.out (bx_below X2.out)) HN.out).mono ?_
      rintro e w3 ⟨rfl, hb3⟩
      have x3 := below_next X2.out hb3 (bx_size X2.out)
      have k3a := bx_cell x3 0
      have k3b := bx_cell x3 1
      have k3c := bx_cell x3 2
      have s3 : w.heap.size < w3.heap.size := bx_size x3
      have hs3 := Es.after HS.out (bx_below x3)
      have X3 := Lib.hid x3
      clear hb3 x3 k2a k2b k2c
      obtain ⟨i, hfi, hin, P1, P2⟩ := find_at k HL.out g1
      rw [hfi]
      clear hfi
      obtain ⟨b, o, x, p, hA, hb, hg, hc, hc2⟩ := hs3.cell hin
      have p1 := P1 _ hg
      clear P1 hg hc2
      by_cases hlast : i + 1 = n
      · have t1 : ((i : Int) == (n : Int) - 1) = true := by simp; omega
        clear p1
        cases i with
        | zero =>
          subst hA
          clear P2 hs3
          go_wp2
          go_ret
          exact ⟨rfl, bx_below X3.out⟩
        | succ t =>
          obtain ⟨b', o', y, p', hA', hb', hg', hc', _⟩ := hs3.cell (k := t) (by omega)
          rw [hA] at hA'
          injection hA' with hA'
          injection hA' with e1 e2
          subst e1 e2 hA
          have p2 : Op.bytesLess k.toList y.toList = false := P2 t rfl _ hg'
          clear P2 hg' hs3 t1
          subst hlast
          go_wp2
          go_ret
          exact ⟨rfl, bx_below X3.out⟩
      · have t1 : ((i : Int) == (n : Int) - 1) = false := by simp; omega
        have p1 : Op.bytesLess k.toList x.toList = true := p1.resolve_left hlast
        cases i with
        | zero =>
          subst hA
          have hc0 : w3.cell? ⟨b, o, none⟩ = some (.string x) := by simpa using hc
          clear P2 hs3
          go_wp2
          go_ret
          exact ⟨rfl, bx_below X3.out⟩
        | succ t =>
          obtain ⟨b', o', y, p', hA', hb', hg', hc', _⟩ := hs3.cell (k := t) (by omega)
          rw [hA] at hA'
          injection hA' with hA'
          injection hA' with e1 e2
          subst e1 e2 hA
          have p2 : Op.bytesLess k.toList y.toList = false := P2 t rfl _ hg'
          clear P2 hg' hs3
          go_wp2
          go_ret
          exact ⟨rfl, bx_below X3.out⟩
end Go.Proofs.Ytjfinkfikebjbaa
