/- Contract of Find. -/
import Derived.Test.YtjfinkfikebjbaaD
import Derived.Test.YtjfinkfikebjbaaBlk
namespace Go.Proofs.Ytjfinkfikebjbaa
open Go.RowKit

def fidx (es : List Ent) (k : ByteArray) : Nat := es.findIdx (fun e => lessB k e.1)
theorem fidx_hit {es : List Ent} {k x : ByteArray} {p : Int} {j : Nat} (hall : ∀ t, t < j → ∀ e, es[t]? = some e → lessB k e.1 = false) (hg : es[j]? = some (x, p)) (h : lessB k x = true) : fidx es k = j := by
  unfold fidx
  have hj : j < es.length := (List.getElem?_eq_some_iff.1 hg).1
  rw [List.findIdx_eq hj]
  have hg' : es[j] = (x, p) := (List.getElem?_eq_some_iff.1 hg).2
  refine ⟨by rw [hg']; exact h, fun t ht => ?_⟩
  exact hall t ht _ (List.getElem?_eq_getElem (by omega))
theorem fidx_miss {es : List Ent} {k : ByteArray} {n : Nat} (hl : es.length = n) (hall : ∀ t, t < n → ∀ e, es[t]? = some e → lessB k e.1 = false) : fidx es k = n := by
  unfold fidx
  rw [← hl, List.findIdx_eq_length]
  intro e he
  obtain ⟨t, ht, rfl⟩ := List.getElem_of_mem he
  exact hall t (by omega) _ (List.getElem?_eq_getElem ht)
def findI (es : List Ent) (k : ByteArray) : Int := if fidx es k < es.length then fidx es k else (es.length : Int) - 1

theorem clo_any (x k : ByteArray) (p : Int) (kb : Nat) (w : World) (hk : w.cell? ⟨kb, 0, none⟩ = some (.string k)) (hkb : kb < w.heap.size) :
    Calls Try.prog 36 #[.agg #[.string x, .int .i64 p], .pointer (some ⟨kb, 0, none⟩)] w fun e w' => e = .returned (.bool (lessB k x)) ∧ Below w.heap.size w w' := by
  have hl := less_total x k
  have HLT := Lib.hid (show (!Op.bytesLess x.toList k.toList && !x.toList == k.toList) = lessB k x by rw [hl, ← Bool.not_or, beq_ba]; rfl)
  clear hl
  go_enter Try.func36, Try.ntmps36
  go_wp2
  go_ret
  exact ⟨by rw [← HLT.out]; rfl, (Below.refl _ _).alloc (Nat.le_refl _) _⟩

set_option maxHeartbeats 1000000 in
theorem indexFunc_any (A : Option Addr) (n c : Nat) (es : List Ent) (k : ByteArray) (kb : Nat) (w : World) (hs : Es w w.heap.size A n c es) (hk : w.cell? ⟨kb, 0, none⟩ = some (.string k)) (hkb : kb < w.heap.size) (hn : n ≤ 9223372036854775807) :
    Calls Try.prog 35 #[.slice A n c, .func (.func 36) #[] #[.pointer (some ⟨kb, 0, none⟩)]] w fun e w' => e = .returned (.int .i64 (if fidx es k < n then (fidx es k : Int) else -1)) ∧ Below w.heap.size w w' := by
  have HS := Lib.hid hs
  have HL := Lib.hid hs.len
  have HK := Lib.hid hk
  clear hs hk
  obtain ⟨R, hR⟩ : ∃ R : Int, (if fidx es k < n then (fidx es k : Int) else -1) = R := ⟨_, rfl⟩
  rw [hR]
  have HR := Lib.hid hR
  clear hR
  go_enter Try.func35, Try.ntmps35
  go_wp2
  go_loopw [8] (fun i wr => ∃ j : Nat, j ≤ n ∧ i = .int .i64 j ∧ (∀ t, t < j → ∀ e, es[t]? = some e → lessB k e.1 = false) ∧ Below w.heap.size w wr) (fun i _ => n - (intOf i).toNat)
  case atStart => exact ⟨0, Nat.zero_le _, rfl, fun t h => absurd h (by omega), Below.refl _ _⟩
  case round =>
    obtain ⟨j, hj, rfl, hall, hbel⟩ := hrel
    have HA := Lib.hid hall
    have hsz := hbel.size
    clear hall
    by_cases hlt : j < n
    · obtain ⟨b, o, x, p, rfl, hb, hg, hc, hc2⟩ := (Es.below HS.out hbel).cell hlt
      have hkr := (hbel.cell (p := ⟨kb, 0, none⟩) hkb).trans HK.out
      have HKR := Lib.hid hkr
      have HG := Lib.hid hg
      clear hg hkr
      cases hl : lessB k x with
      | true =>
        have hf := fidx_hit HA.out HG.out hl
        have hr : R = (j : Int) := by rw [← HR.out, hf, if_pos hlt]
        have HRR := Lib.hid hr
        have HLB := Lib.hid hl
        clear hf hr hl
        go_wp2_with fail
        refine (clo_any x k p kb wr HKR.out (by omega)).mono ?_
        rintro e w1 ⟨rfl, hb1⟩
        rw [HLB.out]
        have hb2 := below_next hbel hb1 hsz
        clear hb1
        go_wp2
        go_ret
        exact ⟨by rw [HRR.out]; rfl, hb2⟩
      | false =>
        have HLB := Lib.hid hl
        clear hl
        go_wp2_with fail
        refine (clo_any x k p kb wr HKR.out (by omega)).mono ?_
        rintro e w1 ⟨rfl, hb1⟩
        rw [HLB.out]
        have hb2 := below_next hbel hb1 hsz
        clear hb1
        go_wp2
        go_roundw
        case rel =>
          refine ⟨j + 1, by omega, by go_num, fun t ht e he => ?_, hb2⟩
          by_cases h : t = j
          · subst h; rw [HG.out] at he; injection he with he; subst he; exact HLB.out
          · exact HA.out t (by omega) e he
        case measure => simp [intOf]; omega
    · have hf := fidx_miss HL.out (fun t ht => HA.out t (by omega))
      have hr : R = -1 := by rw [← HR.out, hf, if_neg (by omega)]
      have HRR := Lib.hid hr
      clear hf hr
      go_wp2
      go_ret
      exact ⟨by rw [HRR.out]; rfl, hbel⟩

set_option maxHeartbeats 1000000 in
theorem find_any (lv nx : Int) (A : Option Addr) (n c : Nat) (es : List Ent) (k : ByteArray) (w : World) (hs : Es w w.heap.size A n c es) (hn : n ≤ 9223372036854775807) :
    Calls Try.prog 15 #[.agg #[.int .i64 lv, .int .i64 nx, .slice A n c], .string k] w fun e w' => e = .returned (.int .i64 (findI es k)) ∧ Below w.heap.size w w' := by
  have HS := Lib.hid hs
  have HL := Lib.hid hs.len
  clear hs
  have a1 : Below w.heap.size w ((w.alloc (.cells #[.int .i64 lv, .int .i64 nx, .slice A n c] 25)).alloc (.cells #[.string k] 9)) := ((Below.refl _ _).alloc (Nat.le_refl _) _).alloc (by simp) _
  have a2 : ((w.alloc (.cells #[.int .i64 lv, .int .i64 nx, .slice A n c] 25)).alloc (.cells #[.string k] 9)).cell? ⟨w.heap.size + 1, 0, none⟩ = some (.string k) := by
    rw [World.cell?_alloc_at _ _ _ _ (by simp)]; rfl
  have A1 := Lib.hid a1
  have A2 := Lib.hid a2
  clear a1 a2
  go_enter Try.func15, Try.ntmps15
  go_wp2_with fail
  refine (indexFunc_any A n c es k (w.heap.size + 1) _ (Es.after HS.out A1.out) A2.out (by simp) hn).mono ?_
  rintro e w1 ⟨rfl, hb1⟩
  have hbw := below_next A1.out hb1 (by simp; omega)
  have hnd : w1.cell? ⟨w.heap.size, 2, none⟩ = some (.slice A n c) := by
    rw [hb1.cell (p := ⟨w.heap.size, 2, none⟩) (by simp; omega), World.cell?_alloc_past _ _ _ (by simp), World.cell?_alloc_at _ _ _ _ rfl]; rfl
  clear hb1
  obtain ⟨fi, hfi⟩ : ∃ fi, fidx es k = fi := ⟨_, rfl⟩
  have hF : findI es k = if fi < n then (fi : Int) else (n : Int) - 1 := by unfold findI; rw [hfi, HL.out]
  have hfl : fi ≤ n := by rw [← hfi, ← HL.out]; exact List.findIdx_le_length
  rw [hfi]
  by_cases hlt : fi < n
  · rw [if_pos hlt] at hF
    rw [if_pos hlt]
    have HF := Lib.hid hF
    have d0 : decide ((fi : Int) < 0) = false := by simp
    clear hF hfi
    go_wp2
    go_ret
    exact ⟨by rw [HF.out]; rfl, hbw⟩
  · rw [if_neg hlt] at hF
    rw [if_neg hlt]
    have HF := Lib.hid hF
    clear hF hfi
    go_wp2
    go_ret
    exact ⟨by rw [HF.out]; rfl, hbw⟩
end Go.Proofs.Ytjfinkfikebjbaa
