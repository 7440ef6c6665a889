/- Contract of fronts. -/
import Derived.Test.YtjfinkfikebjbaaD
import Derived.Deep.RegionHeld3
import Derived.Deep.DrawnRows
namespace Go.Proofs.Ytjfinkfikebjbaa
open Go.RowKit
attribute [local go_sem ↓] Go.wp_at_zero Go.wp_at_succ

theorem Try.info3 : (Try.prog.info? 3).map (fun i => (i.zero, i.size, i.bytes)) = some (some (.int .i64 0), 1, 8) := by kernel_rfl

/-- the length of the common beginning of entry i's Below with the one before -/
def frE (es : List Ent) (i : Nat) : Nat := frontB (befB es i) (entAt es i).1
theorem frE_zero (es : List Ent) : frE es 0 = 0 := by unfold frE befB; rw [if_pos rfl]; rfl
theorem frE_succ {es : List Ent} {i : Nat} {x y : ByteArray} {p q : Int} (h1 : es[i]? = some (x, p)) (h2 : es[i + 1]? = some (y, q)) : frE es (i + 1) = frontB x y := by
  unfold frE befB
  rw [if_neg (by omega), Nat.add_sub_cancel, entAt_get h1, entAt_get h2]
def frCells (es : List Ent) (n : Nat) : List Value := (List.range n).map fun i => Value.int .i64 (frE es i)
theorem fr_set (es : List Ent) {j n : Nat} (h : j < n) : (frCells es j ++ List.replicate (n - j) (Value.int .i64 0)).set j (.int .i64 (frE es j)) = frCells es (j + 1) ++ List.replicate (n - (j + 1)) (Value.int .i64 0) := by
  obtain ⟨e, rfl⟩ : ∃ e, n = j + e + 1 := ⟨n - j - 1, by omega⟩
  rw [show j + e + 1 - j = e + 1 from by omega, show j + e + 1 - (j + 1) = e from by omega, List.replicate_succ]
  simp [frCells, List.range_succ]
theorem fr_keep (es : List Ent) {n : Nat} (h : 0 < n) : frCells es 0 ++ List.replicate n (Value.int .i64 0) = frCells es 1 ++ List.replicate (n - 1) (Value.int .i64 0) := by
  obtain ⟨e, rfl⟩ : ∃ e, n = e + 1 := ⟨n - 1, by omega⟩
  simp [frCells, List.replicate_succ, frE_zero]

theorem below_set_drewN {B : Nat} {w wr : World} {a : Addr} {v : Value} (h : Below B w (wr.setCell a v)) (n : Nat) : Below B w ((wr.drewN n).setCell a v) := ⟨h.os, h.tape, h.output, h.size, h.block⟩
theorem own_set_drewN {base : Nat} {e : TypeId} {size n : Nat} {u : Value} {xs : List Value} {wr : World} {a : Addr} {v : Value} (h : (wr.setCell a v).ownsRow base e size u n xs) (k : Nat) : ((wr.drewN k).setCell a v).ownsRow base e size u n xs := h

set_option maxRecDepth 100000 in
set_option maxHeartbeats 2000000 in
theorem fronts_any (A : Option Addr) (n c : Nat) (es : List Ent) (w : World) (hs : Es w w.heap.size A n c es) (hn : n ≤ 200) (hz : ∀ e ∈ es, e.1.size ≤ 100) :
    Calls Try.prog 39 #[.slice A n c] w fun e w' => ∃ A', e = .returned (.slice A' n n) ∧ w'.ownsRow w.heap.size 3 1 (.slice A' n n) n (frCells es n) ∧ Below w.heap.size w w' := by
  obtain ⟨i0, hi0, hz0, hz1, hz2⟩ := info_parts Try.info3
  have HS := Lib.hid hs
  clear hs
  go_enter Try.func39, Try.ntmps39
  go_wp2_with (at_make; refine wpList_make_full _ rfl _ _ 58 rfl w.heap.size 3 i0 (.int .i64 0) 1 Try.underlying58 hi0 hz0 hz1 _ _ _ _ n rfl rfl rfl rfl ?c1 ?c2 (Nat.le_refl _) ?_)
  case c1 => rw [hz2]; omega
  case c2 => unfold maxLen; omega
  intro w1 hown1 hg1
  have hb1 : Below w.heap.size w w1 := (Below.refl _ _).grown hg1 (Nat.le_refl _) (by simp)
  have HOW := Lib.hid hown1
  clear hown1 hg1
  go_wp2
  go_loopw [10] (fun i wr => ∃ j : Nat, j ≤ n ∧ i = .int .i64 j ∧ Below w.heap.size w wr ∧ wr.ownsRow w.heap.size 3 1 (.slice (some ⟨w.heap.size, 0, none⟩) n n) n (frCells es j ++ List.replicate (n - j) (Value.int .i64 0))) (fun i _ => n - (intOf i).toNat)
  case atStart =>
    refine ⟨0, Nat.zero_le _, rfl, hb1, ?_⟩
    have := HOW.out
    rw [toList_madeCells_one] at this
    simpa [frCells] using this
  case round =>
    obtain ⟨j, hj, rfl, hbel, hown⟩ := hrel
    have hsz := hbel.size
    by_cases hlt : j < n
    · rcases Nat.eq_zero_or_pos j with h0 | h0
      · have d0 : decide (0 < j) = false := by simp [h0]
        have HO := Lib.hid hown
        have H0 := Lib.hid h0
        clear hown h0
        go_wp2
        go_roundw
        case rel =>
          refine ⟨j + 1, by omega, by go_num, hbel, ?_⟩
          have := HO.out
          rw [H0.out] at this hlt
          rw [H0.out]
          rw [Nat.sub_zero, fr_keep es hlt] at this
          exact this
        case measure => simp [intOf]; omega
      · obtain ⟨i, rfl⟩ : ∃ i, j = i + 1 := ⟨j - 1, by omega⟩
        obtain ⟨b, o, y, q, rfl, hb, hg, hc, _⟩ := HS.out.cell hlt
        obtain ⟨b', o', x, p, hA', hb', hg', hc', _⟩ := HS.out.cell (show i < n by omega)
        injection hA' with hA'
        injection hA' with e1 e2 _
        subst e1 e2
        have k1 := (hbel.cell (p := ⟨b, o + (i + 1) * 2, none⟩) hb).trans hc
        have k2 := (hbel.cell (p := ⟨b, o + i * 2, none⟩) hb).trans hc'
        have hx : x.size ≤ 100 := hz _ (List.mem_of_getElem? hg')
        have hx2 : x.size ≤ 9223372036854775807 := by omega
        have HF := Lib.hid (frE_succ hg' hg)
        have hcf := hown.frozenAt (i + 1)
        obtain ⟨u0, hcu⟩ : ∃ u0, wr.cell? ⟨w.heap.size, i + 1, none⟩ = some u0 := by
          have hl := hown.1
          exact ⟨_, (hown.cellAt (i + 1) (by omega)).trans (List.getElem?_eq_getElem (by rw [hl]; omega))⟩
        have hst := hown.stored (i + 1) (.int .i64 (frE es (i + 1)))
        rw [fr_set es hlt, HF.out] at hst
        have HST := Lib.hid hst
        clear hst hown hg hg' hc hc' hb'
        have i1 : (0 : Int) ≤ (i : Int) + 1 := by omega
        have i2 : (i : Int) + 1 < (n : Int) := by omega
        have i3 : (0 : Int) ≤ (i : Int) := by omega
        have i4 : (i : Int) < (n : Int) := by omega
        have i5 : IntKind.i64.wrap ((i : Int) + 1 - 1) = (i : Int) := by rw [IntWalk.i64_in _ (by omega)]; omega
        have i6 : IntKind.i64.wrap (i : Int) = (i : Int) := IntWalk.i64_in _ (by omega)
        have n1 : ¬ b = w.heap.size := by omega
        have n2 : ¬ w.heap.size = b := by omega
        go_wp2
        go_region_held3 (fun w' => w'.cell? ⟨b, o + (i + 1) * 2, none⟩ = some (.string y) ∧ w'.cell? ⟨b, o + i * 2, none⟩ = some (.string x)) (go_keep) (first | (go_at_call 45; refine (front_any x y _ hx2).mono ?_; rintro e w' ⟨rfl, d, rfl⟩))
        clear i5 i6
        go_wp2
        go_roundw
        case rel =>
          refine ⟨i + 1 + 1, by omega, by go_num, ?_, ?_⟩
          · exact (below_set_drewN (hbel.grown HST.out.2 hsz (by rintro k ⟨⟩; exact Nat.le_refl _)) _)
          · exact own_set_drewN HST.out.1 _
        case measure => simp [intOf]; omega
    · obtain rfl : j = n := by omega
      have HO := Lib.hid hown
      clear hown
      go_wp2
      go_ret
      have := HO.out
      rw [Nat.sub_self, List.replicate_zero, List.append_nil] at this
      exact ⟨some ⟨w.heap.size, 0, none⟩, rfl, this, hbel⟩
end Go.Proofs.Ytjfinkfikebjbaa
