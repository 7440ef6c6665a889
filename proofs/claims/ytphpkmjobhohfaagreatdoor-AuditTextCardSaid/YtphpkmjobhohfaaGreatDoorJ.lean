/- hexadecimal of the program. -/
import Derived.Test.YtphpkmjobhohfaaGreatDoorI
import Derived.Deep.RegionHeld3
namespace Go.Proofs.YtphpkmjobhohfaaGreatDoor
open Go.RowKit
theorem infoU8 : (Tryz.prog.info? 5).map (fun i => (i.zero, i.size, i.bytes)) = some (some (.int .u8 0), 1, 1) := by kernel_rfl
theorem own_drew {w : World} {base : Nat} {e : TypeId} {size n : Nat} {v : Value} {xs : List Value} (h : w.ownsRow base e size v n xs) : w.drew.ownsRow base e size v n xs := h
theorem alloc_le (w : World) (o : Obj) : w.heap.size ≤ (w.alloc o).heap.size := by simp
theorem two_ints (a b : Int) : ∀ u ∈ [Value.int .u8 a, Value.int .u8 b], u.oneCell' = true := by
  intro u hu
  simp at hu
  rcases hu with rfl | rfl <;> rfl
theorem hexT_next (s : ByteArray) (j q m : Nat) (hq : bAt s j / 16 = q) (hm : bAt s j % 16 = m) (h1 : q < 16) (h2 : m < 16) :
    (hexT s (j + 1)).size = (hexT s j).size + 2 ∧ Lib.byteCells (hexT s j).data.toList ++ [Value.int .u8 ((⟨#[48, 49, 50, 51, 52, 53, 54, 55, 56, 57, 97, 98, 99, 100, 101, 102]⟩ : ByteArray)[q]'h1).toNat, Value.int .u8 ((⟨#[48, 49, 50, 51, 52, 53, 54, 55, 56, 57, 97, 98, 99, 100, 101, 102]⟩ : ByteArray)[m]'h2).toNat] = Lib.byteCells (hexT s (j + 1)).data.toList := by
  have one : ∀ k : Fin 16, (hexDg.extract k.val (k.val + 1)).data.toList = [hexDg[k.val]'k.isLt] := by decide
  have e : (hexT s (j + 1)).data.toList = (hexT s j).data.toList ++ [hexDg[q]'h1, hexDg[m]'h2] := by
    simp only [hexT, hq, hm, ba_app]
    rw [one ⟨q, h1⟩, one ⟨m, h2⟩, List.append_assoc]
    rfl
  refine ⟨?_, ?_⟩
  · rw [← ba_len, e, List.length_append, ba_len]; rfl
  · rw [e]
    simp only [Lib.byteCells, List.map_append]
    rfl
theorem own_string {w : World} {base : Nat} {v : Value} {t : ByteArray} (h : w.ownsRow base 5 1 v t.size (Lib.byteCells t.data.toList)) : (convert 61 9 v).run Tryz.prog w = .ok (.string t) w := by
  rcases Nat.eq_zero_or_pos t.size with h0 | h0
  · have ht : t = ⟨#[]⟩ := ba_empty h0
    subst ht
    obtain ⟨A, c, rfl, hc, hm⟩ := own_form h
    cases A with
    | none =>
      show (convert 61 9 (.slice none 0 c)).run Tryz.prog w = .ok (.string ⟨#[]⟩) w
      simp [convert, run_underlying Tryz.underlying61, run_underlying Tryz.underlying9, run_underlying Tryz.underlying5]
      rfl
    | some a => exact run_convert_bytes_back w 61 9 5 a c [] Tryz.underlying61 Tryz.underlying5 Tryz.underlying9 (fun j hj => absurd hj (by simp))
  · obtain ⟨g, cap, rfl, hb, hg, hn⟩ := own_at h h0
    have := run_convert_bytes_back w 61 9 5 ⟨g, 0, none⟩ cap t.data.toList Tryz.underlying61 Tryz.underlying5 Tryz.underlying9 (fun j hj => h.cells (g := g) rfl j _ (by simp [Lib.byteCells, List.getElem?_eq_getElem hj]))
    rw [ba_len] at this
    exact this
theorem and15 (b : Nat) (h : b < 256) : bits .and .u8 (b : Int) 15 = ((b % 16 : Nat) : Int) := by
  have : ∀ b : Fin 256, bits .and .u8 ((b.val : Nat) : Int) 15 = ((b.val % 16 : Nat) : Int) := by decide +kernel
  exact this ⟨b, h⟩
set_option maxRecDepth 100000 in
set_option maxHeartbeats 400000 in
theorem hexa_any (s : ByteArray) (hs : s.size ≤ 100) (w : World) : Calls Tryz.prog 24 #[.string s] w fun e w' => e = .returned (.string (hexT s s.size)) ∧ Below w.heap.size w w' := by
  obtain ⟨i0, hi0, hz0, hz1, hz2⟩ := info_parts infoU8
  obtain ⟨c, W', hrun, hcells, hgr⟩ := conv_bytes w s
  have HC := Lib.hid hcells
  have HG := Lib.hid hgr
  clear hcells hgr
  go_enter Tryz.func24, Tryz.ntmps24
  go_wp2
  clear hrun
  go_loopw [3, 9] (fun o i wr => ∃ j : Nat, j ≤ s.size ∧ i = .int .i64 j ∧ wr.ownsRow W'.heap.size 5 1 o (hexT s j).size (Lib.byteCells (hexT s j).data.toList) ∧ Below W'.heap.size W' wr) (fun _ i _ => s.size - (intOf i).toNat)
  case atStart => exact ⟨0, Nat.zero_le _, rfl, ⟨rfl, .inl ⟨rfl, rfl⟩⟩, Below.refl _ _⟩
  case round =>
    obtain ⟨j, hj, rfl, hown, hbel⟩ := hrel
    have HO := Lib.hid hown
    have HB := Lib.hid hbel
    clear hown hbel
    by_cases hlt : j < s.size
    · have hc := (HB.out.cell (p := ⟨w.heap.size, j, none⟩) (Nat.lt_of_lt_of_le (block_lt_of_cell (HC.out j hlt)) (Nat.le_refl _))).trans (HC.out j hlt)
      obtain ⟨b, hb⟩ : ∃ b, (s[j]).toNat = b := ⟨_, rfl⟩
      have hb3 := (s[j]).toNat_lt
      rw [hb] at hb3 hc
      obtain ⟨q, hq⟩ : ∃ q : Nat, b / 16 = q := ⟨_, rfl⟩
      obtain ⟨m, hm⟩ : ∃ m : Nat, b % 16 = m := ⟨_, rfl⟩
      have s1 : (b : Int) / 16 = (q : Int) := by omega
      have s2 : bits .and .u8 (b : Int) 15 = (m : Int) := by rw [← hm]; exact and15 b hb3
      have q0 : (0 : Int) ≤ (q : Int) := by omega
      have q1 : (q : Int) < 16 := by omega
      have q2 : q < 16 := by omega
      have m0 : (0 : Int) ≤ (m : Int) := by omega
      have m1 : (m : Int) < 16 := by omega
      have m2 : m < 16 := by omega
      have HX := Lib.hid (hexT_next s j q m (by rw [← bAt_get s j hlt, hb, hq]) (by rw [← bAt_get s j hlt, hb, hm]) q2 m2)
      clear hb hq hm
      go_wp2_with fail
      have t1 : (hexT s j).size + 2 ≤ maxLen := by have := hexT_size s j; unfold maxLen; omega
      have t2 : ((hexT s j).size + 2) * 1 ≤ 140737488355328 := by have := hexT_size s j; omega
      have T3 := Lib.hid (HB.out.size)
      go_region_held3 (fun _ => True) (trivial) ((refine step_app _ (by rfl) _ _ 61 (by rfl) W'.heap.size 5 i0 (.int .u8 0) 1 1 Tryz.underlying61 hi0 hz0 hz1 hz2 rfl (by decide) _ (hexT s j).size _ (by rfl) (by first | exact HO.out.alloc _ | exact own_drew (HO.out.alloc _)) _ _ 2 2 _ (by rfl) (by first | exact rd_new _ _ 5 2 1 rfl | exact (rd_new _ _ 5 2 1 rfl).drew) (two_ints _ _) t1 t2 (by first | exact Nat.le_succ_of_le T3.out | exact Nat.le_trans T3.out (alloc_le _ _)) ?_; intro v1 w1 ho1 hg1 _; have O1 := Lib.hid ho1; have G1 := Lib.hid hg1; clear ho1 hg1))
      all_goals
        have hO := O1.out
        rw [HX.out.2] at hO
        have HO2 := Lib.hid hO
        have HB2 := Lib.hid (show Below W'.heap.size W' w1 from ((HB.out.alloc T3.out _).drew.grown G1.out (Nat.le_trans T3.out (alloc_le _ _)) (own_row HO.out (Nat.le_refl _))))
        clear hO
        go_wp2
        go_roundw
        case rel => exact ⟨j + 1, by omega, by go_num, by rw [HX.out.1]; exact HO2.out, HB2.out⟩
        case measure => simp [intOf]; omega
    · obtain rfl : j = s.size := by omega
      have hcv := own_string HO.out
      have HB2 := Lib.hid (show Below w.heap.size w wr from ((Below.refl w.heap.size w).grown HG.out (Nat.le_refl _) (by rintro k ⟨⟩)).trans (HB.out.mono HG.out.size))
      go_wp2
      go_ret
      exact ⟨rfl, HB2.out⟩
end Go.Proofs.YtphpkmjobhohfaaGreatDoor
