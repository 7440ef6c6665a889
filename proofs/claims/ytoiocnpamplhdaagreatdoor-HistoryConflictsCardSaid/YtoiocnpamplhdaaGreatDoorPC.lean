/- History: ranges, lists of touches, meet, Conflict and Conflicts of the reference (printed in part by wip/history/gen_qb.py, gen_qd.py); HistoryConflicts for every list. -/
import Derived.Test.YtoiocnpamplhdaaGreatDoorKA
import Derived.Test.YtoiocnpamplhdaaGreatDoorKC
import Derived.Test.YtoiocnpamplhdaaGreatDoorHU
import Derived.Deep.RegionHeld3
import Derived.Test.YtoiocnpamplhdaaGreatDoorKD
import Derived.Deep.QuietTactic
import Derived.BigQuiet
import Derived.Test.YtoiocnpamplhdaaGreatDoorPB
import Derived.Test.YtoiocnpamplhdaaGreatDoorMN
import Derived.ChangeKeysEq
namespace Go.Proofs.YtoiocnpamplhdaaGreatDoor
open Go.RowKit

theorem less_self (a : ByteArray) : lessB a a = false := by
  have := leq_is a a
  simp at this
  exact this
theorem emptyB_is (lo hi : ByteArray) (en : Bool) : emptyB ⟨lo, hi, en⟩ = (!en && lessB hi lo) := by
  unfold emptyB inB
  simp only [less_self]
  cases en <;> cases lessB hi lo <;> rfl
set_option maxRecDepth 100000 in
theorem rempty_any (r : Rg) (w : World) : Calls Tryz.prog 87 #[rgV r] w fun e w' => e = .returned (.bool (emptyB r)) ∧ Below w.heap.size w w' := by
  obtain ⟨lo, hi, en⟩ := r
  rw [emptyB_is]
  unfold rgV
  simp only
  have B0 := Lib.hid (bx_start w #[.string lo, .string hi, .bool en] 87)
  cases en with
  | true =>
    go_enter Tryz.func87, Tryz.ntmps87
    go_wp2
    go_ret
    exact ⟨rfl, bx_below B0.out⟩
  | false =>
    obtain ⟨R, hR⟩ : ∃ R, lessB hi lo = R := ⟨_, rfl⟩
    have d1 : Op.bytesLess hi.toList lo.toList = R := hR
    rw [hR]
    clear hR
    go_enter Tryz.func87, Tryz.ntmps87
    go_wp2
    go_ret
    exact ⟨rfl, bx_below B0.out⟩
set_option maxRecDepth 100000 in
theorem rmeetR_any (a b : Rg) (w : World) : Calls Tryz.prog 88 #[rgV a, rgV b] w fun e w' => e = .returned (rgV (meetR a b)) ∧ Below w.heap.size w w' := by
  obtain ⟨lo, hi, en⟩ := a
  obtain ⟨lo', hi', en'⟩ := b
  unfold rgV meetR
  simp only
  obtain ⟨M, hM⟩ : ∃ M, mxS lo lo' = M := ⟨_, rfl⟩
  obtain ⟨N, hN⟩ : ∃ N, mnS hi hi' = N := ⟨_, rfl⟩
  have m1 := fun W => run_maxS W lo lo'
  have m2 := fun W => run_minS W hi hi'
  rw [hM] at m1 ⊢
  rw [hN] at m2 ⊢
  clear hM hN
  have BB : Hid (∀ o1 o2 o3 o4, Below w.heap.size w ((((w.alloc o1).alloc o2).alloc o3).alloc o4)) := Lib.hid fun o1 o2 o3 o4 => ((((Below.refl w.heap.size w).alloc (Nat.le_refl _) _).alloc (by simp) _).alloc (by simp; omega) _).alloc (by simp; omega) _
  cases en <;> cases en'
  · go_enter Tryz.func88, Tryz.ntmps88
    go_wp2
    exact bodyPost_ret (v := .agg #[.string M, .string N, .bool false]) (by simp [results, Tryz.results88, go_sem]) rfl ⟨rfl, BB.out _ _ _ _⟩
  · go_enter Tryz.func88, Tryz.ntmps88
    go_wp2
    exact bodyPost_ret (v := .agg #[.string M, .string hi, .bool false]) (by simp [results, Tryz.results88, go_sem]) rfl ⟨rfl, BB.out _ _ _ _⟩
  · go_enter Tryz.func88, Tryz.ntmps88
    go_wp2
    exact bodyPost_ret (v := .agg #[.string M, .string hi', .bool false]) (by simp [results, Tryz.results88, go_sem]) rfl ⟨rfl, BB.out _ _ _ _⟩
  · go_enter Tryz.func88, Tryz.ntmps88
    go_wp2
    exact bodyPost_ret (v := .agg #[.string M, .string ⟨#[]⟩, .bool true]) (by simp [results, Tryz.results88, go_sem]) rfl ⟨rfl, BB.out _ _ _ _⟩
set_option maxRecDepth 100000 in
theorem roverlap_any (a b : Rg) (w : World) : Calls Tryz.prog 72 #[rgV a, rgV b] w fun e w' => e = .returned (.bool (overlapB a b)) ∧ Below w.heap.size w w' := by
  have HM := Lib.hid fun W => rmeetR_any a b W
  have HE := Lib.hid fun W => rempty_any (meetR a b) W
  unfold overlapB
  generalize emptyB (meetR a b) = R at HE ⊢
  generalize meetR a b = m at HM HE
  obtain ⟨lo, hi, en⟩ := a
  obtain ⟨lo', hi', en'⟩ := b
  obtain ⟨lo2, hi2, en2⟩ := m
  unfold rgV at HM HE ⊢
  simp only at HM HE ⊢
  have B0 : Hid (Below w.heap.size w ((w.alloc (.cells #[.string lo, .string hi, .bool en] 87)).alloc (.cells #[.string lo', .string hi', .bool en'] 87))) := Lib.hid (((Below.refl w.heap.size w).alloc (Nat.le_refl _) _).alloc (by simp) _)
  go_enter Tryz.func72, Tryz.ntmps72
  go_wp2_with (first | (go_at_call 88; refine (HM.out _).mono ?_; rintro e w2 ⟨rfl, hb2⟩; have X2 := Lib.hid (below_next B0.out hb2 B0.out.size); clear hb2) | (go_at_call 87; refine (HE.out _).mono ?_; rintro e w3 ⟨rfl, hb3⟩; have X3 := Lib.hid (below_next X2.out hb3 X2.out.size); clear hb3))
  go_ret
  exact ⟨rfl, X3.out⟩
end Go.Proofs.YtoiocnpamplhdaaGreatDoor
namespace Go.Proofs.YtoiocnpamplhdaaGreatDoor
open Go.RowKit

theorem infoRT : (Tryz.prog.info? 123).map (fun i => (i.zero, i.size, i.bytes)) = some (some (.agg #[.int .i64 0, .string ⟨#[]⟩, .string ⟨#[]⟩, .bool false]), 4, 48) := by kernel_rfl
theorem rpoint_any (k : ByteArray) (w : World) : Calls Tryz.prog 73 #[.string k] w fun e w' => e = .returned (.agg #[.string k, .string k, .bool false]) ∧ w.alloc (.cells #[.string k, .string k, .bool false] 87) = w' := by
  go_enter Tryz.func73, Tryz.ntmps73
  go_wp2
  exact bodyPost_ret (v := .agg #[.string k, .string k, .bool false]) (by simp [results, Tryz.results73, go_sem]) rfl ⟨rfl, rfl⟩
set_option maxRecDepth 100000 in
set_option maxHeartbeats 2000000 in
theorem rchanges_any (x : Com) (w : World) (hok : ComOk w w.heap.size x) (hn : x.cn ≤ 1000) :
    Calls Tryz.prog 57 #[.agg #[.int .i64 x.unit, .int .i64 x.num, .slice x.rA x.rn x.rc, .slice x.cA x.cn x.cc]] w (GivesT w x.cn (x.cs.map chT)) := by
  have HS := Lib.hid hok.2.1
  have HL := Lib.hid hok.2.1.len
  obtain ⟨i0, hi0, hz0, hz1, hz2⟩ := info_parts infoRT
  have HO0 := Lib.hid (World.ownsRow_lit (e := 123) (base := w.heap.size + 1) (size := 4) (w.alloc (.cells #[.int .i64 x.unit, .int .i64 x.num, .slice x.rA x.rn x.rc, .slice x.cA x.cn x.cc] 43)) #[] 0 (by simp) (by decide) rfl)
  have HX0 := Lib.hid (bx_start w #[.int .i64 x.unit, .int .i64 x.num, .slice x.rA x.rn x.rc, .slice x.cA x.cn x.cc] 43)
  clear hok
  go_enter Tryz.func57, Tryz.ntmps57
  go_wp2
  go_loopw [3, 4] (fun v3 i wr => ∃ j : Nat, j ≤ x.cn ∧ i = .int .i64 j ∧ wr.ownsRow (w.heap.size + 1) 123 4 v3 j (flat tchC ((x.cs.map chT).take j)) ∧ Below (w.heap.size + 1) (w.alloc (.cells #[.int .i64 x.unit, .int .i64 x.num, .slice x.rA x.rn x.rc, .slice x.cA x.cn x.cc] 43)) wr) (fun _ i _ => x.cn - (intOf i).toNat)
  case atStart => exact ⟨0, Nat.zero_le _, rfl, by rw [show flat tchC ((x.cs.map chT).take 0) = [] from rfl]; simpa using HO0.out, (Below.refl _ _).alloc (by simp) _⟩
  case round =>
    obtain ⟨j, hj, rfl, hown, hbel⟩ := hrel
    have HOW := Lib.hid hown
    have HB := Lib.hid hbel
    have hsz := bx_size hbel
    have b3 := bx_cell hbel 3
    simp at b3
    have HZ : Hid (w.heap.size + 1 ≤ wr.heap.size) := Lib.hid hsz
    clear hown hbel
    by_cases hlt : j < x.cn
    · obtain ⟨b, o, y, hA, hb, hg, hcell⟩ := Sl.cell (f := chC) (k := 5) chC_len (HS.out.after (bx_below HB.out) (Nat.le_of_succ_le hsz)) hlt
      have HG := Lib.hid hg
      have HMT : Hid (flat tchC ((x.cs.map chT).take (j + 1)) = flat tchC ((x.cs.map chT).take j) ++ tchC (chT y)) := Lib.hid (by rw [map_take_succ chT HG.out, flat_app, flat_one])
      have HAE := Lib.hid hA
      rw [hA] at b3
      have c0 := hcell 0 _ rfl; have c1 := hcell 1 _ rfl; have c2 := hcell 2 _ rfl; have c3 := hcell 3 _ rfl; have c4 := hcell 4 _ rfl
      simp only [Nat.add_zero] at c0
      clear hg hcell hb hA
      obtain ⟨K1, hK⟩ : ∃ K1 : Int, y.kind = K1 := ⟨_, rfl⟩
      rw [hK] at c0
      by_cases hk : K1 = 0 ∨ K1 = 1
      · have HCT : Hid (chT y = ⟨y.id, ⟨y.key, y.key, false⟩⟩) := Lib.hid (by unfold chT; rw [hK, if_pos hk]; rfl)
        clear hK
        rcases hk with rfl | rfl
        · skip
          have XON : Hid (∀ u ∈ ([.int .i64 y.id, .string y.key, .string y.key, .bool false] : List Value), u.oneCell' = true) := Lib.hid (by intro u hu; simp at hu; rcases hu with rfl | rfl | rfl | rfl <;> rfl)
          have ZS : Hid (((.agg #[.int .i64 0, .string ⟨#[]⟩, .string ⟨#[]⟩, .bool false]) : Value).cells.size = 4) := Lib.hid rfl
          have Z4 : Hid (0 < 4) := Lib.hid (by decide)
          have Mb : Hid (j + 1 ≤ maxLen) := Lib.hid (by simp only [maxLen]; omega)
          have Bb : Hid ((j + 1) * 48 ≤ 140737488355328) := Lib.hid (by omega)
          have HPT : Hid (∀ W : World, Calls Tryz.prog 73 #[.string y.key] W fun e w' => e = .returned (.agg #[.string y.key, .string y.key, .bool false]) ∧ W.alloc (.cells #[.string y.key, .string y.key, .bool false] 87) = w') := Lib.hid fun W => rpoint_any y.key W
          have HO3 : Hid (World.ownsRow (((wr.alloc (.cells #[.int .i64 0, .int .i64 y.id, .string y.key, .string y.rcd, .string y.vol] 52)).alloc (.cells #[.string y.key, .string y.key, .bool false] 87)).alloc (.cells #[.int .i64 y.id, .string y.key, .string y.key, .bool false] 123)).drew (w.heap.size + 1) 123 4 u3 j (flat tchC ((x.cs.map chT).take j))) := Lib.hid (own_drew (((HOW.out.alloc _).alloc _).alloc _))
          have HL3 : Hid (w.heap.size + 1 ≤ ((((wr.alloc (.cells #[.int .i64 0, .int .i64 y.id, .string y.key, .string y.rcd, .string y.vol] 52)).alloc (.cells #[.string y.key, .string y.key, .bool false] 87)).alloc (.cells #[.int .i64 y.id, .string y.key, .string y.key, .bool false] 123)).drew).heap.size) := Lib.hid (by simp; have := HZ.out; omega)
          have HB3 : Hid (Below (w.heap.size + 1) (w.alloc (.cells #[.int .i64 x.unit, .int .i64 x.num, .slice x.rA x.rn x.rc, .slice x.cA x.cn x.cc] 43)) (((wr.alloc (.cells #[.int .i64 0, .int .i64 y.id, .string y.key, .string y.rcd, .string y.vol] 52)).alloc (.cells #[.string y.key, .string y.key, .bool false] 87)).alloc (.cells #[.int .i64 y.id, .string y.key, .string y.key, .bool false] 123)).drew) := Lib.hid ((((HB.out.alloc HZ.out _).alloc (by simp; have := HZ.out; omega) _).alloc (by simp; have := HZ.out; omega) _).drew)
          have RX : Hid (Rd (((wr.alloc (.cells #[.int .i64 0, .int .i64 y.id, .string y.key, .string y.rcd, .string y.vol] 52)).alloc (.cells #[.string y.key, .string y.key, .bool false] 87)).alloc (.cells #[.int .i64 y.id, .string y.key, .string y.key, .bool false] 123)).drew (wr.heap.size + 1 + 1 + 1) 4 (some ⟨wr.heap.size + 1 + 1, 0, none⟩) 1 [.int .i64 y.id, .string y.key, .string y.key, .bool false]) := Lib.hid (rd_newz ((wr.alloc (.cells #[.int .i64 0, .int .i64 y.id, .string y.key, .string y.rcd, .string y.vol] 52)).alloc (.cells #[.string y.key, .string y.key, .bool false] 87)) (wr.heap.size + 1 + 1) [.int .i64 y.id, .string y.key, .string y.key, .bool false] 123 1 4 rfl (by simp))
          have KA : Hid (Blk (((wr.alloc (.cells #[.int .i64 0, .int .i64 y.id, .string y.key, .string y.rcd, .string y.vol] 52)).alloc (.cells #[.string y.key, .string y.key, .bool false] 87)).alloc (.cells #[.int .i64 y.id, .string y.key, .string y.key, .bool false] 123)).drew wr.heap.size 52 #[.int .i64 0, .int .i64 y.id, .string y.key, .string y.rcd, .string y.vol]) := Lib.hid ((((Blk.new wr 52 #[.int .i64 0, .int .i64 y.id, .string y.key, .string y.rcd, .string y.vol]).alloc _).alloc _).drew)
          go_wp2_with fail
          go_region_held3 (fun w' => w'.cell? ⟨wr.heap.size, 1, none⟩ = some (.int .i64 y.id) ∧ w'.cell? ⟨wr.heap.size, 2, none⟩ = some (.string y.key)) (first | go_keep | exact ⟨r0, r1⟩) (first | (go_at_call 73; refine (HPT.out _).mono ?_; rintro e w2 ⟨rfl, rfl⟩) | (refine step_app _ (by rfl) (.tmp 27) (.tmp 34) 94 (by rfl) (w.heap.size + 1) 123 i0 (.agg #[.int .i64 0, .string ⟨#[]⟩, .string ⟨#[]⟩, .bool false]) 4 48 Tryz.underlying94 hi0 hz0 hz1 hz2 ZS.out Z4.out u3 j _ (by rfl) HO3.out _ _ 1 1 [.int .i64 y.id, .string y.key, .string y.key, .bool false] (by rfl) RX.out XON.out Mb.out Bb.out HL3.out ?_; intro v4 w4 ho4 hg4 _; have B4 := Lib.hid (HB3.out.grown hg4 HL3.out (own_row HOW.out (Nat.le_refl _))); have HO4 : Hid (w4.ownsRow (w.heap.size + 1) 123 4 v4 (j + 1) (flat tchC ((x.cs.map chT).take (j + 1)))) := Lib.hid (by rw [HMT.out, HCT.out]; exact ho4); have kA := KA.out.grown hg4 (own_blk HO3.out KA.out (by decide)).symm; have r0 := kA.cell 1; have r1 := kA.cell 2; simp at r0 r1; clear ho4 hg4 kA))
          go_wp2
          go_roundw
          case rel => exact ⟨j + 1, by omega, by go_num, HO4.out, B4.out⟩
          case measure => simp [intOf]; omega
        · skip
          have XON : Hid (∀ u ∈ ([.int .i64 y.id, .string y.key, .string y.key, .bool false] : List Value), u.oneCell' = true) := Lib.hid (by intro u hu; simp at hu; rcases hu with rfl | rfl | rfl | rfl <;> rfl)
          have ZS : Hid (((.agg #[.int .i64 0, .string ⟨#[]⟩, .string ⟨#[]⟩, .bool false]) : Value).cells.size = 4) := Lib.hid rfl
          have Z4 : Hid (0 < 4) := Lib.hid (by decide)
          have Mb : Hid (j + 1 ≤ maxLen) := Lib.hid (by simp only [maxLen]; omega)
          have Bb : Hid ((j + 1) * 48 ≤ 140737488355328) := Lib.hid (by omega)
          have HPT : Hid (∀ W : World, Calls Tryz.prog 73 #[.string y.key] W fun e w' => e = .returned (.agg #[.string y.key, .string y.key, .bool false]) ∧ W.alloc (.cells #[.string y.key, .string y.key, .bool false] 87) = w') := Lib.hid fun W => rpoint_any y.key W
          have HO3 : Hid (World.ownsRow (((wr.alloc (.cells #[.int .i64 1, .int .i64 y.id, .string y.key, .string y.rcd, .string y.vol] 52)).alloc (.cells #[.string y.key, .string y.key, .bool false] 87)).alloc (.cells #[.int .i64 y.id, .string y.key, .string y.key, .bool false] 123)).drew (w.heap.size + 1) 123 4 u3 j (flat tchC ((x.cs.map chT).take j))) := Lib.hid (own_drew (((HOW.out.alloc _).alloc _).alloc _))
          have HL3 : Hid (w.heap.size + 1 ≤ ((((wr.alloc (.cells #[.int .i64 1, .int .i64 y.id, .string y.key, .string y.rcd, .string y.vol] 52)).alloc (.cells #[.string y.key, .string y.key, .bool false] 87)).alloc (.cells #[.int .i64 y.id, .string y.key, .string y.key, .bool false] 123)).drew).heap.size) := Lib.hid (by simp; have := HZ.out; omega)
          have HB3 : Hid (Below (w.heap.size + 1) (w.alloc (.cells #[.int .i64 x.unit, .int .i64 x.num, .slice x.rA x.rn x.rc, .slice x.cA x.cn x.cc] 43)) (((wr.alloc (.cells #[.int .i64 1, .int .i64 y.id, .string y.key, .string y.rcd, .string y.vol] 52)).alloc (.cells #[.string y.key, .string y.key, .bool false] 87)).alloc (.cells #[.int .i64 y.id, .string y.key, .string y.key, .bool false] 123)).drew) := Lib.hid ((((HB.out.alloc HZ.out _).alloc (by simp; have := HZ.out; omega) _).alloc (by simp; have := HZ.out; omega) _).drew)
          have RX : Hid (Rd (((wr.alloc (.cells #[.int .i64 1, .int .i64 y.id, .string y.key, .string y.rcd, .string y.vol] 52)).alloc (.cells #[.string y.key, .string y.key, .bool false] 87)).alloc (.cells #[.int .i64 y.id, .string y.key, .string y.key, .bool false] 123)).drew (wr.heap.size + 1 + 1 + 1) 4 (some ⟨wr.heap.size + 1 + 1, 0, none⟩) 1 [.int .i64 y.id, .string y.key, .string y.key, .bool false]) := Lib.hid (rd_newz ((wr.alloc (.cells #[.int .i64 1, .int .i64 y.id, .string y.key, .string y.rcd, .string y.vol] 52)).alloc (.cells #[.string y.key, .string y.key, .bool false] 87)) (wr.heap.size + 1 + 1) [.int .i64 y.id, .string y.key, .string y.key, .bool false] 123 1 4 rfl (by simp))
          have KA : Hid (Blk (((wr.alloc (.cells #[.int .i64 1, .int .i64 y.id, .string y.key, .string y.rcd, .string y.vol] 52)).alloc (.cells #[.string y.key, .string y.key, .bool false] 87)).alloc (.cells #[.int .i64 y.id, .string y.key, .string y.key, .bool false] 123)).drew wr.heap.size 52 #[.int .i64 1, .int .i64 y.id, .string y.key, .string y.rcd, .string y.vol]) := Lib.hid ((((Blk.new wr 52 #[.int .i64 1, .int .i64 y.id, .string y.key, .string y.rcd, .string y.vol]).alloc _).alloc _).drew)
          go_wp2_with fail
          go_region_held3 (fun w' => w'.cell? ⟨wr.heap.size, 1, none⟩ = some (.int .i64 y.id) ∧ w'.cell? ⟨wr.heap.size, 2, none⟩ = some (.string y.key)) (first | go_keep | exact ⟨r0, r1⟩) (first | (go_at_call 73; refine (HPT.out _).mono ?_; rintro e w2 ⟨rfl, rfl⟩) | (refine step_app _ (by rfl) (.tmp 27) (.tmp 34) 94 (by rfl) (w.heap.size + 1) 123 i0 (.agg #[.int .i64 0, .string ⟨#[]⟩, .string ⟨#[]⟩, .bool false]) 4 48 Tryz.underlying94 hi0 hz0 hz1 hz2 ZS.out Z4.out u3 j _ (by rfl) HO3.out _ _ 1 1 [.int .i64 y.id, .string y.key, .string y.key, .bool false] (by rfl) RX.out XON.out Mb.out Bb.out HL3.out ?_; intro v4 w4 ho4 hg4 _; have B4 := Lib.hid (HB3.out.grown hg4 HL3.out (own_row HOW.out (Nat.le_refl _))); have HO4 : Hid (w4.ownsRow (w.heap.size + 1) 123 4 v4 (j + 1) (flat tchC ((x.cs.map chT).take (j + 1)))) := Lib.hid (by rw [HMT.out, HCT.out]; exact ho4); have kA := KA.out.grown hg4 (own_blk HO3.out KA.out (by decide)).symm; have r0 := kA.cell 1; have r1 := kA.cell 2; simp at r0 r1; clear ho4 hg4 kA))
          go_wp2
          go_roundw
          case rel => exact ⟨j + 1, by omega, by go_num, HO4.out, B4.out⟩
          case measure => simp [intOf]; omega
      · have HCT : Hid (chT y = ⟨y.id, ⟨⟨#[]⟩, ⟨#[]⟩, true⟩⟩) := Lib.hid (by unfold chT; rw [hK, if_neg hk]; rfl)
        have d0 : (K1 == 0) = false := by simp; omega
        have d1 : (K1 == 1) = false := by simp; omega
        clear hk hK
        go_wp2_with (at_builtin; go_must (refine wpList_app _ rfl _ _ 94 rfl (w.heap.size + 1) 123 i0 _ 4 48 Tryz.underlying94 hi0 hz0 hz1 hz2 rfl (by decide) _ j _ rfl ((HOW.out.alloc _).alloc _) _ _ 1 1 [.int .i64 y.id, .string ⟨#[]⟩, .string ⟨#[]⟩, .bool true] rfl (rd_newz _ _ [.int .i64 y.id, .string ⟨#[]⟩, .string ⟨#[]⟩, .bool true] 123 1 4 rfl ?c5) ?c1 ?c2 ?c3 ?c4 ?_))
        case c5 => simp
        case c1 => intro u hu; simp at hu; rcases hu with rfl | rfl | rfl | rfl <;> rfl
        case c2 => simp only [maxLen]; omega
        case c3 => omega
        case c4 => simp; omega
        intro v4 w4 ho4 hg4 _
        have B4 := Lib.hid (((HB.out.alloc HZ.out _).alloc (Nat.le_trans HZ.out (alloc_le _ _)) _).grown hg4 (by simp; have := HZ.out; omega) (own_row HOW.out (Nat.le_refl _)))
        have HO4 : Hid (w4.ownsRow (w.heap.size + 1) 123 4 v4 (j + 1) (flat tchC ((x.cs.map chT).take (j + 1)))) := Lib.hid (by rw [HMT.out, HCT.out]; exact ho4)
        clear ho4 hg4
        go_wp2
        go_roundw
        case rel => exact ⟨j + 1, by omega, by go_num, HO4.out, B4.out⟩
        case measure => simp [intOf]; omega
    · have hjn : x.cn = j := by omega
      have htk : (x.cs.map chT).take j = x.cs.map chT := List.take_of_length_le (by rw [List.length_map, HL.out]; omega)
      rw [htk] at HOW
      obtain ⟨A5, c5, hv5, _, _⟩ := own_form HOW.out
      subst hv5
      have HSL := Lib.hid (Sl.of_own (f := tchC) (k := 4) tchC_len (by decide) HOW.out)
      have HJN := Lib.hid hjn
      clear htk hjn
      go_wp2
      go_ret
      exact ⟨A5, c5, by rw [HJN.out]; rfl, by rw [HJN.out]; exact HSL.out, bx_below HB.out⟩
set_option maxRecDepth 100000 in
set_option maxHeartbeats 2000000 in
theorem rreads_any (x : Com) (w : World) (hok : ComOk w w.heap.size x) (hn : x.rn ≤ 1000) :
    Calls Tryz.prog 58 #[.agg #[.int .i64 x.unit, .int .i64 x.num, .slice x.rA x.rn x.rc, .slice x.cA x.cn x.cc]] w (GivesT w x.rn (x.rs.map rdT)) := by
  have HS := Lib.hid hok.1
  have HL := Lib.hid hok.1.len
  obtain ⟨i0, hi0, hz0, hz1, hz2⟩ := info_parts infoRT
  have HO0 := Lib.hid (World.ownsRow_lit (e := 123) (base := w.heap.size + 1) (size := 4) (w.alloc (.cells #[.int .i64 x.unit, .int .i64 x.num, .slice x.rA x.rn x.rc, .slice x.cA x.cn x.cc] 43)) #[] 0 (by simp) (by decide) rfl)
  have HX0 := Lib.hid (bx_start w #[.int .i64 x.unit, .int .i64 x.num, .slice x.rA x.rn x.rc, .slice x.cA x.cn x.cc] 43)
  clear hok
  go_enter Tryz.func58, Tryz.ntmps58
  go_wp2
  go_loopw [3, 4] (fun v3 i wr => ∃ j : Nat, j ≤ x.rn ∧ i = .int .i64 j ∧ wr.ownsRow (w.heap.size + 1) 123 4 v3 j (flat tchC ((x.rs.map rdT).take j)) ∧ Below (w.heap.size + 1) (w.alloc (.cells #[.int .i64 x.unit, .int .i64 x.num, .slice x.rA x.rn x.rc, .slice x.cA x.cn x.cc] 43)) wr) (fun _ i _ => x.rn - (intOf i).toNat)
  case atStart => exact ⟨0, Nat.zero_le _, rfl, by rw [show flat tchC ((x.rs.map rdT).take 0) = [] from rfl]; simpa using HO0.out, (Below.refl _ _).alloc (by simp) _⟩
  case round =>
    obtain ⟨j, hj, rfl, hown, hbel⟩ := hrel
    have HOW := Lib.hid hown
    have HB := Lib.hid hbel
    have hsz := bx_size hbel
    have b2 := bx_cell hbel 2
    simp at b2
    have HZ : Hid (w.heap.size + 1 ≤ wr.heap.size) := Lib.hid hsz
    clear hown hbel
    by_cases hlt : j < x.rn
    · obtain ⟨b, o, y, hA, hb, hg, hcell⟩ := Sl.cell (f := rdC) (k := 6) rdC_len (HS.out.after (bx_below HB.out) (Nat.le_of_succ_le hsz)) hlt
      have HG := Lib.hid hg
      have HMT : Hid (flat tchC ((x.rs.map rdT).take (j + 1)) = flat tchC ((x.rs.map rdT).take j) ++ tchC (rdT y)) := Lib.hid (by rw [map_take_succ rdT HG.out, flat_app, flat_one])
      have HAE := Lib.hid hA
      rw [hA] at b2
      have c0 := hcell 0 _ rfl; have c1 := hcell 1 _ rfl; have c2 := hcell 2 _ rfl; have c3 := hcell 3 _ rfl; have c4 := hcell 4 _ rfl; have c5 := hcell 5 _ rfl
      simp only [Nat.add_zero] at c0
      clear hg hcell hb hA
      obtain ⟨K1, hK⟩ : ∃ K1 : Int, y.kind = K1 := ⟨_, rfl⟩
      rw [hK] at c0
      by_cases hk : K1 = 0
      · have HCT : Hid (rdT y = ⟨y.id, ⟨y.key, y.key, false⟩⟩) := Lib.hid (by unfold rdT; rw [hK, if_pos hk]; rfl)
        clear hK
        subst hk
        have XON : Hid (∀ u ∈ ([.int .i64 y.id, .string y.key, .string y.key, .bool false] : List Value), u.oneCell' = true) := Lib.hid (by intro u hu; simp at hu; rcases hu with rfl | rfl | rfl | rfl <;> rfl)
        have ZS : Hid (((.agg #[.int .i64 0, .string ⟨#[]⟩, .string ⟨#[]⟩, .bool false]) : Value).cells.size = 4) := Lib.hid rfl
        have Z4 : Hid (0 < 4) := Lib.hid (by decide)
        have Mb : Hid (j + 1 ≤ maxLen) := Lib.hid (by simp only [maxLen]; omega)
        have Bb : Hid ((j + 1) * 48 ≤ 140737488355328) := Lib.hid (by omega)
        have HPT : Hid (∀ W : World, Calls Tryz.prog 73 #[.string y.key] W fun e w' => e = .returned (.agg #[.string y.key, .string y.key, .bool false]) ∧ W.alloc (.cells #[.string y.key, .string y.key, .bool false] 87) = w') := Lib.hid fun W => rpoint_any y.key W
        have HO3 : Hid (World.ownsRow (((wr.alloc (.cells #[.int .i64 0, .int .i64 y.id, .string y.key, .string y.ak, .string y.ar, .int .i64 y.code] 50)).alloc (.cells #[.string y.key, .string y.key, .bool false] 87)).alloc (.cells #[.int .i64 y.id, .string y.key, .string y.key, .bool false] 123)).drew (w.heap.size + 1) 123 4 u3 j (flat tchC ((x.rs.map rdT).take j))) := Lib.hid (own_drew (((HOW.out.alloc _).alloc _).alloc _))
        have HL3 : Hid (w.heap.size + 1 ≤ ((((wr.alloc (.cells #[.int .i64 0, .int .i64 y.id, .string y.key, .string y.ak, .string y.ar, .int .i64 y.code] 50)).alloc (.cells #[.string y.key, .string y.key, .bool false] 87)).alloc (.cells #[.int .i64 y.id, .string y.key, .string y.key, .bool false] 123)).drew).heap.size) := Lib.hid (by simp; have := HZ.out; omega)
        have HB3 : Hid (Below (w.heap.size + 1) (w.alloc (.cells #[.int .i64 x.unit, .int .i64 x.num, .slice x.rA x.rn x.rc, .slice x.cA x.cn x.cc] 43)) (((wr.alloc (.cells #[.int .i64 0, .int .i64 y.id, .string y.key, .string y.ak, .string y.ar, .int .i64 y.code] 50)).alloc (.cells #[.string y.key, .string y.key, .bool false] 87)).alloc (.cells #[.int .i64 y.id, .string y.key, .string y.key, .bool false] 123)).drew) := Lib.hid ((((HB.out.alloc HZ.out _).alloc (by simp; have := HZ.out; omega) _).alloc (by simp; have := HZ.out; omega) _).drew)
        have RX : Hid (Rd (((wr.alloc (.cells #[.int .i64 0, .int .i64 y.id, .string y.key, .string y.ak, .string y.ar, .int .i64 y.code] 50)).alloc (.cells #[.string y.key, .string y.key, .bool false] 87)).alloc (.cells #[.int .i64 y.id, .string y.key, .string y.key, .bool false] 123)).drew (wr.heap.size + 1 + 1 + 1) 4 (some ⟨wr.heap.size + 1 + 1, 0, none⟩) 1 [.int .i64 y.id, .string y.key, .string y.key, .bool false]) := Lib.hid (rd_newz ((wr.alloc (.cells #[.int .i64 0, .int .i64 y.id, .string y.key, .string y.ak, .string y.ar, .int .i64 y.code] 50)).alloc (.cells #[.string y.key, .string y.key, .bool false] 87)) (wr.heap.size + 1 + 1) [.int .i64 y.id, .string y.key, .string y.key, .bool false] 123 1 4 rfl (by simp))
        have KA : Hid (Blk (((wr.alloc (.cells #[.int .i64 0, .int .i64 y.id, .string y.key, .string y.ak, .string y.ar, .int .i64 y.code] 50)).alloc (.cells #[.string y.key, .string y.key, .bool false] 87)).alloc (.cells #[.int .i64 y.id, .string y.key, .string y.key, .bool false] 123)).drew wr.heap.size 50 #[.int .i64 0, .int .i64 y.id, .string y.key, .string y.ak, .string y.ar, .int .i64 y.code]) := Lib.hid ((((Blk.new wr 50 #[.int .i64 0, .int .i64 y.id, .string y.key, .string y.ak, .string y.ar, .int .i64 y.code]).alloc _).alloc _).drew)
        go_wp2_with fail
        go_region_held3 (fun w' => w'.cell? ⟨wr.heap.size, 1, none⟩ = some (.int .i64 y.id) ∧ w'.cell? ⟨wr.heap.size, 2, none⟩ = some (.string y.key)) (first | go_keep | exact ⟨r0, r1⟩) (first | (go_at_call 73; refine (HPT.out _).mono ?_; rintro e w2 ⟨rfl, rfl⟩) | (refine step_app _ (by rfl) (.tmp 35) (.tmp 42) 94 (by rfl) (w.heap.size + 1) 123 i0 (.agg #[.int .i64 0, .string ⟨#[]⟩, .string ⟨#[]⟩, .bool false]) 4 48 Tryz.underlying94 hi0 hz0 hz1 hz2 ZS.out Z4.out u3 j _ (by rfl) HO3.out _ _ 1 1 [.int .i64 y.id, .string y.key, .string y.key, .bool false] (by rfl) RX.out XON.out Mb.out Bb.out HL3.out ?_; intro v4 w4 ho4 hg4 _; have B4 := Lib.hid (HB3.out.grown hg4 HL3.out (own_row HOW.out (Nat.le_refl _))); have HO4 : Hid (w4.ownsRow (w.heap.size + 1) 123 4 v4 (j + 1) (flat tchC ((x.rs.map rdT).take (j + 1)))) := Lib.hid (by rw [HMT.out, HCT.out]; exact ho4); have kA := KA.out.grown hg4 (own_blk HO3.out KA.out (by decide)).symm; have r0 := kA.cell 1; have r1 := kA.cell 2; simp at r0 r1; clear ho4 hg4 kA))
        go_wp2
        go_roundw
        case rel => exact ⟨j + 1, by omega, by go_num, HO4.out, B4.out⟩
        case measure => simp [intOf]; omega
      · obtain ⟨K2, hK2⟩ : ∃ K2 : Int, y.code = K2 := ⟨_, rfl⟩
        rw [hK2] at c5
        have d0 : (K1 == 0) = false := by simp; omega
        by_cases hk2 : K2 = 0
        · have HCT : Hid (rdT y = ⟨y.id, ⟨y.key, y.ak, false⟩⟩) := Lib.hid (by unfold rdT; rw [hK, if_neg hk, hK2, if_neg (by simp [hk2])])
          subst hk2
          clear hk hK hK2
          go_wp2_with (at_builtin; go_must (refine wpList_app _ rfl _ _ 94 rfl (w.heap.size + 1) 123 i0 _ 4 48 Tryz.underlying94 hi0 hz0 hz1 hz2 rfl (by decide) _ j _ rfl ((HOW.out.alloc _).alloc _) _ _ 1 1 [.int .i64 y.id, .string y.key, .string y.ak, .bool false] rfl (rd_newz _ _ [.int .i64 y.id, .string y.key, .string y.ak, .bool false] 123 1 4 rfl ?c5) ?c1 ?c2 ?c3 ?c4 ?_))
          case c5 => simp
          case c1 => intro u hu; simp at hu; rcases hu with rfl | rfl | rfl | rfl <;> rfl
          case c2 => simp only [maxLen]; omega
          case c3 => omega
          case c4 => simp; omega
          intro v4 w4 ho4 hg4 _
          have B4 := Lib.hid (((HB.out.alloc HZ.out _).alloc (Nat.le_trans HZ.out (alloc_le _ _)) _).grown hg4 (by simp; have := HZ.out; omega) (own_row HOW.out (Nat.le_refl _)))
          have HO4 : Hid (w4.ownsRow (w.heap.size + 1) 123 4 v4 (j + 1) (flat tchC ((x.rs.map rdT).take (j + 1)))) := Lib.hid (by rw [HMT.out, HCT.out]; exact ho4)
          clear ho4 hg4
          go_wp2
          go_roundw
          case rel => exact ⟨j + 1, by omega, by go_num, HO4.out, B4.out⟩
          case measure => simp [intOf]; omega
        · have HCT : Hid (rdT y = ⟨y.id, ⟨y.key, ⟨#[]⟩, true⟩⟩) := Lib.hid (by unfold rdT; rw [hK, if_neg hk, hK2, if_pos hk2]; rfl)
          have d1 : (K2 == 0) = false := by simp; omega
          clear hk hk2 hK hK2
          go_wp2_with (at_builtin; go_must (refine wpList_app _ rfl _ _ 94 rfl (w.heap.size + 1) 123 i0 _ 4 48 Tryz.underlying94 hi0 hz0 hz1 hz2 rfl (by decide) _ j _ rfl ((HOW.out.alloc _).alloc _) _ _ 1 1 [.int .i64 y.id, .string y.key, .string ⟨#[]⟩, .bool true] rfl (rd_newz _ _ [.int .i64 y.id, .string y.key, .string ⟨#[]⟩, .bool true] 123 1 4 rfl ?c5) ?c1 ?c2 ?c3 ?c4 ?_))
          case c5 => simp
          case c1 => intro u hu; simp at hu; rcases hu with rfl | rfl | rfl | rfl <;> rfl
          case c2 => simp only [maxLen]; omega
          case c3 => omega
          case c4 => simp; omega
          intro v4 w4 ho4 hg4 _
          have B4 := Lib.hid (((HB.out.alloc HZ.out _).alloc (Nat.le_trans HZ.out (alloc_le _ _)) _).grown hg4 (by simp; have := HZ.out; omega) (own_row HOW.out (Nat.le_refl _)))
          have HO4 : Hid (w4.ownsRow (w.heap.size + 1) 123 4 v4 (j + 1) (flat tchC ((x.rs.map rdT).take (j + 1)))) := Lib.hid (by rw [HMT.out, HCT.out]; exact ho4)
          clear ho4 hg4
          go_wp2
          go_roundw
          case rel => exact ⟨j + 1, by omega, by go_num, HO4.out, B4.out⟩
          case measure => simp [intOf]; omega
    · have hjn : x.rn = j := by omega
      have htk : (x.rs.map rdT).take j = x.rs.map rdT := List.take_of_length_le (by rw [List.length_map, HL.out]; omega)
      rw [htk] at HOW
      obtain ⟨A5, c5, hv5, _, _⟩ := own_form HOW.out
      subst hv5
      have HSL := Lib.hid (Sl.of_own (f := tchC) (k := 4) tchC_len (by decide) HOW.out)
      have HJN := Lib.hid hjn
      clear htk hjn
      go_wp2
      go_ret
      exact ⟨A5, c5, by rw [HJN.out]; rfl, by rw [HJN.out]; exact HSL.out, bx_below HB.out⟩
end Go.Proofs.YtoiocnpamplhdaaGreatDoor
namespace Go.Proofs.YtoiocnpamplhdaaGreatDoor
open Go.RowKit

theorem any_no {α : Type} {p : α → Bool} {l : List α} {n : Nat} (hl : l.length = n) (h : ∀ q, q < n → ∀ y, l[q]? = some y → p y = false) : l.any p = false := by
  rw [List.any_eq_false]
  intro y hy
  obtain ⟨q, hq, rfl⟩ := List.getElem_of_mem hy
  rw [h q (by omega) _ (List.getElem?_eq_getElem hq)]
  simp
theorem any_step {α : Type} {p : α → Bool} {l : List α} {k : Nat} {y : α} (h : ∀ q, q < k → ∀ y, l[q]? = some y → p y = false) (hg : l[k]? = some y) (hp : p y = false) : ∀ q, q < k + 1 → ∀ y, l[q]? = some y → p y = false := by
  intro q hq z hz
  by_cases h1 : q < k
  · exact h q h1 z hz
  · have : q = k := by omega
    subst this
    rw [hg] at hz
    cases hz
    exact hp
theorem any_yes {α : Type} {p : α → Bool} {l : List α} {k : Nat} {y : α} (hg : l[k]? = some y) (hp : p y = true) : l.any p = true := by
  rw [List.any_eq_true]
  exact ⟨y, List.mem_of_getElem? hg, hp⟩
set_option maxRecDepth 100000 in
set_option maxHeartbeats 2000000 in
theorem rmeet_any (A A' : Option Addr) (n c n' c' : Nat) (a b : List Tch) (w : World) (ha : Sl tchC 4 w w.heap.size A n c a) (hb : Sl tchC 4 w w.heap.size A' n' c' b) (hn : n ≤ 1000) (hn' : n' ≤ 1000) :
    Calls Tryz.prog 56 #[.slice A n c, .slice A' n' c'] w fun e w' => e = .returned (.bool (meetB a b)) ∧ Below w.heap.size w w' := by
  have HSA := Lib.hid ha
  have HSB := Lib.hid hb
  clear ha hb
  go_enter Tryz.func56, Tryz.ntmps56
  go_wp2
  go_loopw [5] (fun v5 wr => ∃ i : Nat, i ≤ n ∧ v5 = .int .i64 i ∧ Hid (∀ p, p < i → ∀ x, a[p]? = some x → (b.any fun y => tmB x y) = false) ∧ Below w.heap.size w wr) (fun v5 _ => n - (intOf v5).toNat)
  case atStart => exact ⟨0, Nat.zero_le _, rfl, Lib.hid fun p hp => absurd hp (by omega), Below.refl _ _⟩
  case round =>
    obtain ⟨w2, hw2⟩ : ∃ w2, w2 = wr := ⟨_, rfl⟩
    subst hw2
    obtain ⟨i, hi, rfl, HF, hbel⟩ := hrel
    have HB := Lib.hid hbel
    clear hbel
    by_cases hlt : i < n
    · obtain ⟨p1, o1, x, rfl, hp1, hgx, hcx⟩ := Sl.cell (f := tchC) (k := 4) tchC_len HSA.out hlt
      have HP1 := Lib.hid hp1
      have HGX := Lib.hid hgx
      have HCX := Lib.hid hcx
      have i1 : (0 : Int) ≤ (i : Int) := by omega
      have i2 : (i : Int) < (n : Int) := by omega
      clear hp1 hgx hcx
      go_wp2_with fail
      go_loopw [6] (fun v6 wx => ∃ k : Nat, k ≤ n' ∧ v6 = .int .i64 k ∧ Hid (∀ q, q < k → ∀ y, b[q]? = some y → tmB x y = false) ∧ Below w.heap.size w wx) (fun v6 _ => n' - (intOf v6).toNat)
      case atStart => exact ⟨0, Nat.zero_le _, rfl, Lib.hid fun p hp => absurd hp (by omega), HB.out⟩
      case round =>
        obtain ⟨k, hk, rfl, HK, hbel⟩ := hrel
        have HW := Lib.hid hbel
        clear hbel
        by_cases hkt : k < n'
        · obtain ⟨p2, o2, y, rfl, hp2, hgy, hcy⟩ := Sl.cell (f := tchC) (k := 4) tchC_len HSB.out hkt
          have HP2 := Lib.hid hp2
          have HGY := Lib.hid hgy
          have HCY := Lib.hid hcy
          have k1 : (0 : Int) ≤ (k : Int) := by omega
          have k2 : (k : Int) < (n' : Int) := by omega
          have HE : Hid (∀ W : World, Below w.heap.size w W → W.cell? ⟨p1, o1 + i * 4, none⟩ = some (.int .i64 x.id) ∧ W.cell? ⟨p1, o1 + i * 4 + 1, none⟩ = some (.string x.r.lo) ∧ W.cell? ⟨p1, o1 + i * 4 + 2, none⟩ = some (.string x.r.hi) ∧ W.cell? ⟨p1, o1 + i * 4 + 3, none⟩ = some (.bool x.r.en) ∧
              W.cell? ⟨p2, o2 + k * 4, none⟩ = some (.int .i64 y.id) ∧ W.cell? ⟨p2, o2 + k * 4 + 1, none⟩ = some (.string y.r.lo) ∧ W.cell? ⟨p2, o2 + k * 4 + 2, none⟩ = some (.string y.r.hi) ∧ W.cell? ⟨p2, o2 + k * 4 + 3, none⟩ = some (.bool y.r.en)) := Lib.hid fun W hW =>
            ⟨(hW.cell (p := ⟨p1, o1 + i * 4, none⟩) HP1.out).trans (HCX.out 0 _ rfl), (hW.cell (p := ⟨p1, o1 + i * 4 + 1, none⟩) HP1.out).trans (HCX.out 1 _ rfl), (hW.cell (p := ⟨p1, o1 + i * 4 + 2, none⟩) HP1.out).trans (HCX.out 2 _ rfl), (hW.cell (p := ⟨p1, o1 + i * 4 + 3, none⟩) HP1.out).trans (HCX.out 3 _ rfl),
             (hW.cell (p := ⟨p2, o2 + k * 4, none⟩) HP2.out).trans (HCY.out 0 _ rfl), (hW.cell (p := ⟨p2, o2 + k * 4 + 1, none⟩) HP2.out).trans (HCY.out 1 _ rfl), (hW.cell (p := ⟨p2, o2 + k * 4 + 2, none⟩) HP2.out).trans (HCY.out 2 _ rfl), (hW.cell (p := ⟨p2, o2 + k * 4 + 3, none⟩) HP2.out).trans (HCY.out 3 _ rfl)⟩
          clear hp2 hgy hcy
          by_cases hid : x.id = y.id
          · obtain ⟨R, hR⟩ : ∃ R, overlapB x.r y.r = R := ⟨_, rfl⟩
            have HT : Hid (tmB x y = R) := Lib.hid (by unfold tmB; rw [decide_eq_true hid, Bool.true_and, hR])
            have HO : Hid (∀ W : World, Calls Tryz.prog 72 #[.agg #[.string x.r.lo, .string x.r.hi, .bool x.r.en], .agg #[.string y.r.lo, .string y.r.hi, .bool y.r.en]] W fun e w' => e = .returned (.bool R) ∧ Below W.heap.size W w') := Lib.hid fun W => by rw [← hR]; exact roverlap_any x.r y.r W
            have hdd : (x.id == y.id) = true := by simpa using hid
            rw [hid] at HE
            clear hR hdd hid
            go_wp2_with fail
            go_region_held3 (fun w' => w'.cell? ⟨p1, o1 + i * 4, none⟩ = some (.int .i64 y.id) ∧ w'.cell? ⟨p1, o1 + i * 4 + 1, none⟩ = some (.string x.r.lo) ∧ w'.cell? ⟨p1, o1 + i * 4 + 2, none⟩ = some (.string x.r.hi) ∧ w'.cell? ⟨p1, o1 + i * 4 + 3, none⟩ = some (.bool x.r.en) ∧ w'.cell? ⟨p2, o2 + k * 4, none⟩ = some (.int .i64 y.id) ∧ w'.cell? ⟨p2, o2 + k * 4 + 1, none⟩ = some (.string y.r.lo) ∧ w'.cell? ⟨p2, o2 + k * 4 + 2, none⟩ = some (.string y.r.hi) ∧ w'.cell? ⟨p2, o2 + k * 4 + 3, none⟩ = some (.bool y.r.en)) (first | exact HE.out _ HW.out | exact HE.out _ HW.out.drew | exact HE.out _ HX.out) (first | (go_at_call 72; refine (HO.out _).mono ?_; rintro e w9 ⟨rfl, hb9⟩; have HX : Hid (Below w.heap.size w w9) := Lib.hid (below_next HW.out.drew hb9 HW.out.size); clear hb9))
            cases R with
            | true =>
              go_wp2
              go_ret
              exact ⟨by rw [show meetB a b = true from any_yes HGX.out (any_yes HGY.out HT.out)]; rfl, HX.out⟩
            | false =>
              go_wp2
              go_roundw
              case rel => exact ⟨k + 1, by omega, by go_num, Lib.hid (any_step HK.out HGY.out HT.out), HX.out⟩
              case measure => simp [intOf]; omega
          · have HT : Hid (tmB x y = false) := Lib.hid (by unfold tmB; rw [decide_eq_false hid, Bool.false_and])
            have hdd : (x.id == y.id) = false := by simpa using hid
            obtain ⟨e0, e1, e2, e3, f0, f1, f2, f3⟩ := HE.out _ HW.out
            clear hid
            go_wp2_with fail
            go_quiet (fail)
            go_wp2
            go_roundw
            case rel => exact ⟨k + 1, by omega, by go_num, Lib.hid (any_step HK.out HGY.out HT.out), below_drewN HW.out _⟩
            case measure => simp [intOf]; omega
        · have HR : Hid ((b.any fun y => tmB x y) = false) := Lib.hid (any_no HSB.out.len fun q hq => HK.out q (by omega))
          go_wp2_with fail
          go_roundw
          case rel => exact ⟨i + 1, by omega, by go_num, Lib.hid (any_step (p := fun x => b.any fun y => tmB x y) HF.out HGX.out HR.out), HW.out⟩
          case measure => simp [intOf]; omega
    · have HR : Hid (meetB a b = false) := Lib.hid (any_no (p := fun x => b.any fun y => tmB x y) HSA.out.len fun q hq => HF.out q (by omega))
      go_wp2
      go_ret
      exact ⟨by rw [HR.out]; rfl, HB.out⟩
end Go.Proofs.YtoiocnpamplhdaaGreatDoor
namespace Go.Proofs.YtoiocnpamplhdaaGreatDoor
open Go.RowKit

theorem ord_yes {s : List Com} {w w' : World} {e : Ending} (h : OrdP (some s) w e w') : OrdYes w s e w' := by
  rcases h with ⟨h, _⟩ | ⟨s', h, hy⟩
  · cases h
  · cases h; exact hy
theorem ord_no {w w' : World} {e : Ending} (h : OrdP none w e w') : OrdNo w e w' := by
  rcases h with ⟨_, h⟩ | ⟨s', h, _⟩
  · exact h
  · cases h
set_option maxRecDepth 100000 in
set_option maxHeartbeats 2000000 in
theorem rconflict_any (a x : Com) (w : World) (ha : ComOk w w.heap.size a) (hx : ComOk w w.heap.size x) (hsa : Sm a) (hsx : Sm x) :
    Calls Tryz.prog 32 #[.agg #[.int .i64 a.unit, .int .i64 a.num, .slice a.rA a.rn a.rc, .slice a.cA a.cn a.cc], .agg #[.int .i64 x.unit, .int .i64 x.num, .slice x.rA x.rn x.rc, .slice x.cA x.cn x.cc]] w fun e w' => e = .returned (.bool (confB a x)) ∧ Below w.heap.size w w' := by
  obtain ⟨C1, hC1⟩ : ∃ C1, meetB (a.cs.map chT) (x.cs.map chT) = C1 := ⟨_, rfl⟩
  obtain ⟨C2, hC2⟩ : ∃ C2, meetB (a.cs.map chT) (x.rs.map rdT) = C2 := ⟨_, rfl⟩
  obtain ⟨C3, hC3⟩ : ∃ C3, meetB (a.rs.map rdT) (x.cs.map chT) = C3 := ⟨_, rfl⟩
  have HCF : Hid (confB a x = (C1 || (C2 || C3))) := Lib.hid (by unfold confB; rw [hC1, hC2, hC3])
  have HCA : Hid (∀ W : World, Below w.heap.size w W → Calls Tryz.prog 57 #[.agg #[.int .i64 a.unit, .int .i64 a.num, .slice a.rA a.rn a.rc, .slice a.cA a.cn a.cc]] W (GivesT W a.cn (a.cs.map chT))) := Lib.hid fun W hW => rchanges_any a W (ha.after hW hW.size) hsa.1
  have HRA : Hid (∀ W : World, Below w.heap.size w W → Calls Tryz.prog 58 #[.agg #[.int .i64 a.unit, .int .i64 a.num, .slice a.rA a.rn a.rc, .slice a.cA a.cn a.cc]] W (GivesT W a.rn (a.rs.map rdT))) := Lib.hid fun W hW => rreads_any a W (ha.after hW hW.size) hsa.2
  have HCX : Hid (∀ W : World, Below w.heap.size w W → Calls Tryz.prog 57 #[.agg #[.int .i64 x.unit, .int .i64 x.num, .slice x.rA x.rn x.rc, .slice x.cA x.cn x.cc]] W (GivesT W x.cn (x.cs.map chT))) := Lib.hid fun W hW => rchanges_any x W (hx.after hW hW.size) hsx.1
  have HRX : Hid (∀ W : World, Below w.heap.size w W → Calls Tryz.prog 58 #[.agg #[.int .i64 x.unit, .int .i64 x.num, .slice x.rA x.rn x.rc, .slice x.cA x.cn x.cc]] W (GivesT W x.rn (x.rs.map rdT))) := Lib.hid fun W hW => rreads_any x W (hx.after hW hW.size) hsx.2
  have HM1 : Hid (∀ (W : World) (A : Option Addr) (c : Nat) (A' : Option Addr) (c' : Nat), Sl tchC 4 W W.heap.size A a.cn c (a.cs.map chT) → Sl tchC 4 W W.heap.size A' x.cn c' (x.cs.map chT) → Calls Tryz.prog 56 #[.slice A a.cn c, .slice A' x.cn c'] W fun e w' => e = .returned (.bool C1) ∧ Below W.heap.size W w') := Lib.hid fun W A c A' c' h h' => by rw [← hC1]; exact rmeet_any A A' _ c _ c' _ _ W h h' hsa.1 hsx.1
  have HM2 : Hid (∀ (W : World) (A : Option Addr) (c : Nat) (A' : Option Addr) (c' : Nat), Sl tchC 4 W W.heap.size A a.cn c (a.cs.map chT) → Sl tchC 4 W W.heap.size A' x.rn c' (x.rs.map rdT) → Calls Tryz.prog 56 #[.slice A a.cn c, .slice A' x.rn c'] W fun e w' => e = .returned (.bool C2) ∧ Below W.heap.size W w') := Lib.hid fun W A c A' c' h h' => by rw [← hC2]; exact rmeet_any A A' _ c _ c' _ _ W h h' hsa.1 hsx.2
  have HM3 : Hid (∀ (W : World) (A : Option Addr) (c : Nat) (A' : Option Addr) (c' : Nat), Sl tchC 4 W W.heap.size A a.rn c (a.rs.map rdT) → Sl tchC 4 W W.heap.size A' x.cn c' (x.cs.map chT) → Calls Tryz.prog 56 #[.slice A a.rn c, .slice A' x.cn c'] W fun e w' => e = .returned (.bool C3) ∧ Below W.heap.size W w') := Lib.hid fun W A c A' c' h h' => by rw [← hC3]; exact rmeet_any A A' _ c _ c' _ _ W h h' hsa.2 hsx.1
  have HBW := Lib.hid (Below.refl w.heap.size w)
  have HBK : Hid (Blk ((w.alloc (.cells #[.int .i64 a.unit, .int .i64 a.num, .slice a.rA a.rn a.rc, .slice a.cA a.cn a.cc] 43)).alloc (.cells #[.int .i64 x.unit, .int .i64 x.num, .slice x.rA x.rn x.rc, .slice x.cA x.cn x.cc] 43)).drew w.heap.size 43 #[.int .i64 a.unit, .int .i64 a.num, .slice a.rA a.rn a.rc, .slice a.cA a.cn a.cc] ∧ Blk ((w.alloc (.cells #[.int .i64 a.unit, .int .i64 a.num, .slice a.rA a.rn a.rc, .slice a.cA a.cn a.cc] 43)).alloc (.cells #[.int .i64 x.unit, .int .i64 x.num, .slice x.rA x.rn x.rc, .slice x.cA x.cn x.cc] 43)).drew (w.heap.size + 1) 43 #[.int .i64 x.unit, .int .i64 x.num, .slice x.rA x.rn x.rc, .slice x.cA x.cn x.cc]) := Lib.hid ⟨((Blk.new w 43 #[.int .i64 a.unit, .int .i64 a.num, .slice a.rA a.rn a.rc, .slice a.cA a.cn a.cc]).alloc _).drew, (blk_at (w.alloc (.cells #[.int .i64 a.unit, .int .i64 a.num, .slice a.rA a.rn a.rc, .slice a.cA a.cn a.cc] 43)) 43 #[.int .i64 x.unit, .int .i64 x.num, .slice x.rA x.rn x.rc, .slice x.cA x.cn x.cc] _ (by simp)).drew⟩
  clear hC1 hC2 hC3 ha hx hsa hsx
  go_enter Tryz.func32, Tryz.ntmps32
  go_wp2_with fail
  cases C1 with
  | true =>
    have HX0 : Hid (Below w.heap.size w ((w.alloc (.cells #[.int .i64 a.unit, .int .i64 a.num, .slice a.rA a.rn a.rc, .slice a.cA a.cn a.cc] 43)).alloc (.cells #[.int .i64 x.unit, .int .i64 x.num, .slice x.rA x.rn x.rc, .slice x.cA x.cn x.cc] 43)).drew) := Lib.hid (((Below.refl _ _).alloc (Nat.le_refl _) _).alloc (by simp) _).drew
    refine wp_region_held_drew (S := fun w' => Blk w' w.heap.size 43 #[.int .i64 a.unit, .int .i64 a.num, .slice a.rA a.rn a.rc, .slice a.cA a.cn a.cc] ∧ Blk w' (w.heap.size + 1) 43 #[.int .i64 x.unit, .int .i64 x.num, .slice x.rA x.rn x.rc, .slice x.cA x.cn x.cc]) (by kernel_rfl) HBK.out (fun hHeld => ?_)
    refine wpAnyH_take (i := 0) (oi := ?_) (v := .agg #[.int .i64 a.unit, .int .i64 a.num, .slice a.rA a.rn a.rc, .slice a.cA a.cn a.cc]) ?_ (by kernel_rfl) ?_ ?_ ?_ ?_ hHeld ?_
    rotate_left
    · simp only [List.getElem?_toArray, List.getElem?_cons_zero]; rfl
    · kernel_rfl
    · kernel_rfl
    · exact fun _ _ _ h => h
    · exact Or.inl ⟨by rfl, by intro w' hSw; have h0 := hSw.1.cell 0; have h1 := hSw.1.cell 1; have h2 := hSw.1.cell 2; have h3 := hSw.1.cell 3; simp at h0 h1 h2 h3; go_simp⟩
    simp only [Act.put, List.setIfInBounds_toArray, List.set_cons_zero, List.set_cons_succ]
    refine wpAnyH_take (i := 2) (oi := ?_) (v := .agg #[.int .i64 x.unit, .int .i64 x.num, .slice x.rA x.rn x.rc, .slice x.cA x.cn x.cc]) ?_ (by kernel_rfl) ?_ ?_ ?_ ?_ hHeld ?_
    rotate_left
    · simp only [List.getElem?_toArray, List.getElem?_cons_zero, List.getElem?_cons_succ]; rfl
    · kernel_rfl
    · kernel_rfl
    · exact fun _ _ _ h => h
    · exact Or.inl ⟨by rfl, by intro w' hSw; have h0 := hSw.2.cell 0; have h1 := hSw.2.cell 1; have h2 := hSw.2.cell 2; have h3 := hSw.2.cell 3; simp at h0 h1 h2 h3; go_simp⟩
    simp only [Act.put, List.setIfInBounds_toArray, List.set_cons_zero, List.set_cons_succ]
    refine wpAnyH_ready (rs := [1]) (by kernel_rfl) (by simp) ?_
    refine AllReadyH.cons (o := ?_) ?_ (fun K hK => ?_) ?_
    rotate_left
    · simp only [List.getElem?_toArray, List.getElem?_cons_zero, List.getElem?_cons_succ]; rfl
    · go_simp
      refine (HCA.out _ (below_next HBW.out HX0.out HBW.out.size)).mono ?_
      rintro e y1 ⟨Aa1, ca1, rfl, hs, hb⟩
      simp only []
      have HX1 := Lib.hid (below_next HX0.out hb HX0.out.size)
      have Sa1 := Lib.hid hs
      clear hs
      obtain ⟨q0, q1⟩ := hHeld
      refine hK.out _ _ ⟨q0.below hb q0.lt, q1.below hb q1.lt⟩ (fun hHeld => ?_)
      clear hK K hb q0 q1
      try simp only [Act.put, List.setIfInBounds_toArray, List.set_cons_zero, List.set_cons_succ]
      refine wpAnyH_ready (rs := [3]) (by kernel_rfl) (by simp) ?_
      refine AllReadyH.cons (o := ?_) ?_ (fun K hK => ?_) ?_
      rotate_left
      · simp only [List.getElem?_toArray, List.getElem?_cons_zero, List.getElem?_cons_succ]; rfl
      · go_simp
        refine (HCX.out _ (below_next HBW.out HX1.out HBW.out.size)).mono ?_
        rintro e y2 ⟨Ax1, cx1, rfl, hs, hb⟩
        simp only []
        have HX2 := Lib.hid (below_next HX1.out hb HX1.out.size)
        have Sa1n := Lib.hid (Sa1.out.after hb hb.size)
        have Sx1 := Lib.hid hs
        clear hs
        obtain ⟨q0, q1⟩ := hHeld
        refine hK.out _ _ ⟨q0.below hb q0.lt, q1.below hb q1.lt⟩ (fun hHeld => ?_)
        clear hK K hb q0 q1
        try simp only [Act.put, List.setIfInBounds_toArray, List.set_cons_zero, List.set_cons_succ]
        refine wpAnyH_ready (rs := [4]) (by kernel_rfl) (by simp) ?_
        refine AllReadyH.cons (o := ?_) ?_ (fun K hK => ?_) ?_
        rotate_left
        · simp only [List.getElem?_toArray, List.getElem?_cons_zero, List.getElem?_cons_succ]; rfl
        · go_simp
          refine (HM1.out _ _ _ _ _ Sa1n.out Sx1.out).mono ?_
          rintro e y3 ⟨rfl, hb⟩
          simp only []
          have HX3 := Lib.hid (below_next HX2.out hb HX2.out.size)
          obtain ⟨q0, q1⟩ := hHeld
          refine hK.out _ _ ⟨q0.below hb q0.lt, q1.below hb q1.lt⟩ (fun hHeld => ?_)
          clear hK K hb q0 q1
          try simp only [Act.put, List.setIfInBounds_toArray, List.set_cons_zero, List.set_cons_succ]
          refine wpAnyH_take (i := 5) (oi := ?_) (v := .bool true) ?_ (by kernel_rfl) ?_ ?_ ?_ ?_ hHeld ?_
          rotate_left
          · simp only [List.getElem?_toArray, List.getElem?_cons_zero, List.getElem?_cons_succ]; rfl
          · kernel_rfl
          · kernel_rfl
          · exact fun _ _ _ h => h
          · exact Or.inl ⟨by rfl, by intro w' hSw; go_simp⟩
          simp only [Act.put, List.setIfInBounds_toArray, List.set_cons_zero, List.set_cons_succ]
          refine wpAnyH_take (i := 6) (oi := ?_) (v := undef) ?_ (by kernel_rfl) ?_ ?_ ?_ ?_ hHeld ?_
          rotate_left
          · simp only [List.getElem?_toArray, List.getElem?_cons_zero, List.getElem?_cons_succ]; rfl
          · kernel_rfl
          · kernel_rfl
          · exact fun _ _ _ h => h
          · exact Or.inr ⟨by rfl, rfl⟩
          simp only [Act.put, List.setIfInBounds_toArray, List.set_cons_zero, List.set_cons_succ]
          refine wpAnyH_take (i := 8) (oi := ?_) (v := undef) ?_ (by kernel_rfl) ?_ ?_ ?_ ?_ hHeld ?_
          rotate_left
          · simp only [List.getElem?_toArray, List.getElem?_cons_zero, List.getElem?_cons_succ]; rfl
          · kernel_rfl
          · kernel_rfl
          · exact fun _ _ _ h => h
          · exact Or.inr ⟨by rfl, rfl⟩
          simp only [Act.put, List.setIfInBounds_toArray, List.set_cons_zero, List.set_cons_succ]
          refine wpAnyH_take (i := 7) (oi := ?_) (v := undef) ?_ (by kernel_rfl) ?_ ?_ ?_ ?_ hHeld ?_
          rotate_left
          · simp only [List.getElem?_toArray, List.getElem?_cons_zero, List.getElem?_cons_succ]; rfl
          · kernel_rfl
          · kernel_rfl
          · exact fun _ _ _ h => h
          · exact Or.inr ⟨by rfl, rfl⟩
          simp only [Act.put, List.setIfInBounds_toArray, List.set_cons_zero, List.set_cons_succ]
          refine wpAnyH_take (i := 9) (oi := ?_) (v := undef) ?_ (by kernel_rfl) ?_ ?_ ?_ ?_ hHeld ?_
          rotate_left
          · simp only [List.getElem?_toArray, List.getElem?_cons_zero, List.getElem?_cons_succ]; rfl
          · kernel_rfl
          · kernel_rfl
          · exact fun _ _ _ h => h
          · exact Or.inr ⟨by rfl, rfl⟩
          simp only [Act.put, List.setIfInBounds_toArray, List.set_cons_zero, List.set_cons_succ]
          refine wpAnyH_take (i := 10) (oi := ?_) (v := undef) ?_ (by kernel_rfl) ?_ ?_ ?_ ?_ hHeld ?_
          rotate_left
          · simp only [List.getElem?_toArray, List.getElem?_cons_zero, List.getElem?_cons_succ]; rfl
          · kernel_rfl
          · kernel_rfl
          · exact fun _ _ _ h => h
          · exact Or.inr ⟨by rfl, rfl⟩
          simp only [Act.put, List.setIfInBounds_toArray, List.set_cons_zero, List.set_cons_succ]
          refine wpAnyH_take (i := 11) (oi := ?_) (v := .bool true) ?_ (by kernel_rfl) ?_ ?_ ?_ ?_ hHeld ?_
          rotate_left
          · simp only [List.getElem?_toArray, List.getElem?_cons_zero, List.getElem?_cons_succ]; rfl
          · kernel_rfl
          · kernel_rfl
          · exact fun _ _ _ h => h
          · exact Or.inl ⟨by rfl, by intro w' hSw; go_simp⟩
          simp only [Act.put, List.setIfInBounds_toArray, List.set_cons_zero, List.set_cons_succ]
          refine wpAnyH_take (i := 12) (oi := ?_) (v := .bool true) ?_ (by kernel_rfl) ?_ ?_ ?_ ?_ hHeld ?_
          rotate_left
          · simp only [List.getElem?_toArray, List.getElem?_cons_zero, List.getElem?_cons_succ]; rfl
          · kernel_rfl
          · kernel_rfl
          · exact fun _ _ _ h => h
          · exact Or.inl ⟨by rfl, by intro w' hSw; go_simp⟩
          simp only [Act.put, List.setIfInBounds_toArray, List.set_cons_zero, List.set_cons_succ]
          refine wpAnyH_take (i := 13) (oi := ?_) (v := undef) ?_ (by kernel_rfl) ?_ ?_ ?_ ?_ hHeld ?_
          rotate_left
          · simp only [List.getElem?_toArray, List.getElem?_cons_zero, List.getElem?_cons_succ]; rfl
          · kernel_rfl
          · kernel_rfl
          · exact fun _ _ _ h => h
          · exact Or.inr ⟨by rfl, rfl⟩
          simp only [Act.put, List.setIfInBounds_toArray, List.set_cons_zero, List.set_cons_succ]
          refine wpAnyH_take (i := 15) (oi := ?_) (v := undef) ?_ (by kernel_rfl) ?_ ?_ ?_ ?_ hHeld ?_
          rotate_left
          · simp only [List.getElem?_toArray, List.getElem?_cons_zero, List.getElem?_cons_succ]; rfl
          · kernel_rfl
          · kernel_rfl
          · exact fun _ _ _ h => h
          · exact Or.inr ⟨by rfl, rfl⟩
          simp only [Act.put, List.setIfInBounds_toArray, List.set_cons_zero, List.set_cons_succ]
          refine wpAnyH_take (i := 14) (oi := ?_) (v := undef) ?_ (by kernel_rfl) ?_ ?_ ?_ ?_ hHeld ?_
          rotate_left
          · simp only [List.getElem?_toArray, List.getElem?_cons_zero, List.getElem?_cons_succ]; rfl
          · kernel_rfl
          · kernel_rfl
          · exact fun _ _ _ h => h
          · exact Or.inr ⟨by rfl, rfl⟩
          simp only [Act.put, List.setIfInBounds_toArray, List.set_cons_zero, List.set_cons_succ]
          refine wpAnyH_take (i := 16) (oi := ?_) (v := undef) ?_ (by kernel_rfl) ?_ ?_ ?_ ?_ hHeld ?_
          rotate_left
          · simp only [List.getElem?_toArray, List.getElem?_cons_zero, List.getElem?_cons_succ]; rfl
          · kernel_rfl
          · kernel_rfl
          · exact fun _ _ _ h => h
          · exact Or.inr ⟨by rfl, rfl⟩
          simp only [Act.put, List.setIfInBounds_toArray, List.set_cons_zero, List.set_cons_succ]
          refine wpAnyH_take (i := 17) (oi := ?_) (v := undef) ?_ (by kernel_rfl) ?_ ?_ ?_ ?_ hHeld ?_
          rotate_left
          · simp only [List.getElem?_toArray, List.getElem?_cons_zero, List.getElem?_cons_succ]; rfl
          · kernel_rfl
          · kernel_rfl
          · exact fun _ _ _ h => h
          · exact Or.inr ⟨by rfl, rfl⟩
          simp only [Act.put, List.setIfInBounds_toArray, List.set_cons_zero, List.set_cons_succ]
          refine wpAnyH_take (i := 18) (oi := ?_) (v := .bool true) ?_ (by kernel_rfl) ?_ ?_ ?_ ?_ hHeld ?_
          rotate_left
          · simp only [List.getElem?_toArray, List.getElem?_cons_zero, List.getElem?_cons_succ]; rfl
          · kernel_rfl
          · kernel_rfl
          · exact fun _ _ _ h => h
          · exact Or.inl ⟨by rfl, by intro w' hSw; go_simp⟩
          simp only [Act.put, List.setIfInBounds_toArray, List.set_cons_zero, List.set_cons_succ]
          refine wpAnyH_take (i := 19) (oi := ?_) (v := .bool true) ?_ (by kernel_rfl) ?_ ?_ ?_ ?_ hHeld ?_
          rotate_left
          · simp only [List.getElem?_toArray, List.getElem?_cons_zero, List.getElem?_cons_succ]; rfl
          · kernel_rfl
          · kernel_rfl
          · exact fun _ _ _ h => h
          · exact Or.inl ⟨by rfl, by intro w' hSw; go_simp⟩
          simp only [Act.put, List.setIfInBounds_toArray, List.set_cons_zero, List.set_cons_succ]
          refine wpAnyH_done (by kernel_rfl) ?_ _
          clear hHeld
          go_wp2
          go_ret
          exact ⟨by rw [HCF.out]; rfl, HX3.out⟩
        exact AllReadyH.nil
      exact AllReadyH.nil
    exact AllReadyH.nil
  | false =>
    cases C2 with
    | true =>
      have HX0 : Hid (Below w.heap.size w ((w.alloc (.cells #[.int .i64 a.unit, .int .i64 a.num, .slice a.rA a.rn a.rc, .slice a.cA a.cn a.cc] 43)).alloc (.cells #[.int .i64 x.unit, .int .i64 x.num, .slice x.rA x.rn x.rc, .slice x.cA x.cn x.cc] 43)).drew) := Lib.hid (((Below.refl _ _).alloc (Nat.le_refl _) _).alloc (by simp) _).drew
      refine wp_region_held_drew (S := fun w' => Blk w' w.heap.size 43 #[.int .i64 a.unit, .int .i64 a.num, .slice a.rA a.rn a.rc, .slice a.cA a.cn a.cc] ∧ Blk w' (w.heap.size + 1) 43 #[.int .i64 x.unit, .int .i64 x.num, .slice x.rA x.rn x.rc, .slice x.cA x.cn x.cc]) (by kernel_rfl) HBK.out (fun hHeld => ?_)
      refine wpAnyH_take (i := 0) (oi := ?_) (v := .agg #[.int .i64 a.unit, .int .i64 a.num, .slice a.rA a.rn a.rc, .slice a.cA a.cn a.cc]) ?_ (by kernel_rfl) ?_ ?_ ?_ ?_ hHeld ?_
      rotate_left
      · simp only [List.getElem?_toArray, List.getElem?_cons_zero]; rfl
      · kernel_rfl
      · kernel_rfl
      · exact fun _ _ _ h => h
      · exact Or.inl ⟨by rfl, by intro w' hSw; have h0 := hSw.1.cell 0; have h1 := hSw.1.cell 1; have h2 := hSw.1.cell 2; have h3 := hSw.1.cell 3; simp at h0 h1 h2 h3; go_simp⟩
      simp only [Act.put, List.setIfInBounds_toArray, List.set_cons_zero, List.set_cons_succ]
      refine wpAnyH_take (i := 2) (oi := ?_) (v := .agg #[.int .i64 x.unit, .int .i64 x.num, .slice x.rA x.rn x.rc, .slice x.cA x.cn x.cc]) ?_ (by kernel_rfl) ?_ ?_ ?_ ?_ hHeld ?_
      rotate_left
      · simp only [List.getElem?_toArray, List.getElem?_cons_zero, List.getElem?_cons_succ]; rfl
      · kernel_rfl
      · kernel_rfl
      · exact fun _ _ _ h => h
      · exact Or.inl ⟨by rfl, by intro w' hSw; have h0 := hSw.2.cell 0; have h1 := hSw.2.cell 1; have h2 := hSw.2.cell 2; have h3 := hSw.2.cell 3; simp at h0 h1 h2 h3; go_simp⟩
      simp only [Act.put, List.setIfInBounds_toArray, List.set_cons_zero, List.set_cons_succ]
      refine wpAnyH_ready (rs := [1]) (by kernel_rfl) (by simp) ?_
      refine AllReadyH.cons (o := ?_) ?_ (fun K hK => ?_) ?_
      rotate_left
      · simp only [List.getElem?_toArray, List.getElem?_cons_zero, List.getElem?_cons_succ]; rfl
      · go_simp
        refine (HCA.out _ (below_next HBW.out HX0.out HBW.out.size)).mono ?_
        rintro e y1 ⟨Aa1, ca1, rfl, hs, hb⟩
        simp only []
        have HX1 := Lib.hid (below_next HX0.out hb HX0.out.size)
        have Sa1 := Lib.hid hs
        clear hs
        obtain ⟨q0, q1⟩ := hHeld
        refine hK.out _ _ ⟨q0.below hb q0.lt, q1.below hb q1.lt⟩ (fun hHeld => ?_)
        clear hK K hb q0 q1
        try simp only [Act.put, List.setIfInBounds_toArray, List.set_cons_zero, List.set_cons_succ]
        refine wpAnyH_ready (rs := [3]) (by kernel_rfl) (by simp) ?_
        refine AllReadyH.cons (o := ?_) ?_ (fun K hK => ?_) ?_
        rotate_left
        · simp only [List.getElem?_toArray, List.getElem?_cons_zero, List.getElem?_cons_succ]; rfl
        · go_simp
          refine (HCX.out _ (below_next HBW.out HX1.out HBW.out.size)).mono ?_
          rintro e y2 ⟨Ax1, cx1, rfl, hs, hb⟩
          simp only []
          have HX2 := Lib.hid (below_next HX1.out hb HX1.out.size)
          have Sa1n := Lib.hid (Sa1.out.after hb hb.size)
          have Sx1 := Lib.hid hs
          clear hs
          obtain ⟨q0, q1⟩ := hHeld
          refine hK.out _ _ ⟨q0.below hb q0.lt, q1.below hb q1.lt⟩ (fun hHeld => ?_)
          clear hK K hb q0 q1
          try simp only [Act.put, List.setIfInBounds_toArray, List.set_cons_zero, List.set_cons_succ]
          refine wpAnyH_ready (rs := [4]) (by kernel_rfl) (by simp) ?_
          refine AllReadyH.cons (o := ?_) ?_ (fun K hK => ?_) ?_
          rotate_left
          · simp only [List.getElem?_toArray, List.getElem?_cons_zero, List.getElem?_cons_succ]; rfl
          · go_simp
            refine (HM1.out _ _ _ _ _ Sa1n.out Sx1.out).mono ?_
            rintro e y3 ⟨rfl, hb⟩
            simp only []
            have HX3 := Lib.hid (below_next HX2.out hb HX2.out.size)
            obtain ⟨q0, q1⟩ := hHeld
            refine hK.out _ _ ⟨q0.below hb q0.lt, q1.below hb q1.lt⟩ (fun hHeld => ?_)
            clear hK K hb q0 q1
            try simp only [Act.put, List.setIfInBounds_toArray, List.set_cons_zero, List.set_cons_succ]
            refine wpAnyH_take (i := 5) (oi := ?_) (v := .bool false) ?_ (by kernel_rfl) ?_ ?_ ?_ ?_ hHeld ?_
            rotate_left
            · simp only [List.getElem?_toArray, List.getElem?_cons_zero, List.getElem?_cons_succ]; rfl
            · kernel_rfl
            · kernel_rfl
            · exact fun _ _ _ h => h
            · exact Or.inl ⟨by rfl, by intro w' hSw; go_simp⟩
            simp only [Act.put, List.setIfInBounds_toArray, List.set_cons_zero, List.set_cons_succ]
            refine wpAnyH_take (i := 6) (oi := ?_) (v := .agg #[.int .i64 a.unit, .int .i64 a.num, .slice a.rA a.rn a.rc, .slice a.cA a.cn a.cc]) ?_ (by kernel_rfl) ?_ ?_ ?_ ?_ hHeld ?_
            rotate_left
            · simp only [List.getElem?_toArray, List.getElem?_cons_zero, List.getElem?_cons_succ]; rfl
            · kernel_rfl
            · kernel_rfl
            · exact fun _ _ _ h => h
            · exact Or.inl ⟨by rfl, by intro w' hSw; have h0 := hSw.1.cell 0; have h1 := hSw.1.cell 1; have h2 := hSw.1.cell 2; have h3 := hSw.1.cell 3; simp at h0 h1 h2 h3; go_simp⟩
            simp only [Act.put, List.setIfInBounds_toArray, List.set_cons_zero, List.set_cons_succ]
            refine wpAnyH_take (i := 8) (oi := ?_) (v := .agg #[.int .i64 x.unit, .int .i64 x.num, .slice x.rA x.rn x.rc, .slice x.cA x.cn x.cc]) ?_ (by kernel_rfl) ?_ ?_ ?_ ?_ hHeld ?_
            rotate_left
            · simp only [List.getElem?_toArray, List.getElem?_cons_zero, List.getElem?_cons_succ]; rfl
            · kernel_rfl
            · kernel_rfl
            · exact fun _ _ _ h => h
            · exact Or.inl ⟨by rfl, by intro w' hSw; have h0 := hSw.2.cell 0; have h1 := hSw.2.cell 1; have h2 := hSw.2.cell 2; have h3 := hSw.2.cell 3; simp at h0 h1 h2 h3; go_simp⟩
            simp only [Act.put, List.setIfInBounds_toArray, List.set_cons_zero, List.set_cons_succ]
            refine wpAnyH_ready (rs := [7]) (by kernel_rfl) (by simp) ?_
            refine AllReadyH.cons (o := ?_) ?_ (fun K hK => ?_) ?_
            rotate_left
            · simp only [List.getElem?_toArray, List.getElem?_cons_zero, List.getElem?_cons_succ]; rfl
            · go_simp
              refine (HCA.out _ (below_next HBW.out HX3.out HBW.out.size)).mono ?_
              rintro e y4 ⟨Aa2, ca2, rfl, hs, hb⟩
              simp only []
              have HX4 := Lib.hid (below_next HX3.out hb HX3.out.size)
              have Sa2 := Lib.hid hs
              clear hs
              obtain ⟨q0, q1⟩ := hHeld
              refine hK.out _ _ ⟨q0.below hb q0.lt, q1.below hb q1.lt⟩ (fun hHeld => ?_)
              clear hK K hb q0 q1
              try simp only [Act.put, List.setIfInBounds_toArray, List.set_cons_zero, List.set_cons_succ]
              refine wpAnyH_ready (rs := [9]) (by kernel_rfl) (by simp) ?_
              refine AllReadyH.cons (o := ?_) ?_ (fun K hK => ?_) ?_
              rotate_left
              · simp only [List.getElem?_toArray, List.getElem?_cons_zero, List.getElem?_cons_succ]; rfl
              · go_simp
                refine (HRX.out _ (below_next HBW.out HX4.out HBW.out.size)).mono ?_
                rintro e y5 ⟨Ax2, cx2, rfl, hs, hb⟩
                simp only []
                have HX5 := Lib.hid (below_next HX4.out hb HX4.out.size)
                have Sa2n := Lib.hid (Sa2.out.after hb hb.size)
                have Sx2 := Lib.hid hs
                clear hs
                obtain ⟨q0, q1⟩ := hHeld
                refine hK.out _ _ ⟨q0.below hb q0.lt, q1.below hb q1.lt⟩ (fun hHeld => ?_)
                clear hK K hb q0 q1
                try simp only [Act.put, List.setIfInBounds_toArray, List.set_cons_zero, List.set_cons_succ]
                refine wpAnyH_ready (rs := [10]) (by kernel_rfl) (by simp) ?_
                refine AllReadyH.cons (o := ?_) ?_ (fun K hK => ?_) ?_
                rotate_left
                · simp only [List.getElem?_toArray, List.getElem?_cons_zero, List.getElem?_cons_succ]; rfl
                · go_simp
                  refine (HM2.out _ _ _ _ _ Sa2n.out Sx2.out).mono ?_
                  rintro e y6 ⟨rfl, hb⟩
                  simp only []
                  have HX6 := Lib.hid (below_next HX5.out hb HX5.out.size)
                  obtain ⟨q0, q1⟩ := hHeld
                  refine hK.out _ _ ⟨q0.below hb q0.lt, q1.below hb q1.lt⟩ (fun hHeld => ?_)
                  clear hK K hb q0 q1
                  try simp only [Act.put, List.setIfInBounds_toArray, List.set_cons_zero, List.set_cons_succ]
                  refine wpAnyH_take (i := 11) (oi := ?_) (v := .bool true) ?_ (by kernel_rfl) ?_ ?_ ?_ ?_ hHeld ?_
                  rotate_left
                  · simp only [List.getElem?_toArray, List.getElem?_cons_zero, List.getElem?_cons_succ]; rfl
                  · kernel_rfl
                  · kernel_rfl
                  · exact fun _ _ _ h => h
                  · exact Or.inl ⟨by rfl, by intro w' hSw; go_simp⟩
                  simp only [Act.put, List.setIfInBounds_toArray, List.set_cons_zero, List.set_cons_succ]
                  refine wpAnyH_take (i := 12) (oi := ?_) (v := .bool true) ?_ (by kernel_rfl) ?_ ?_ ?_ ?_ hHeld ?_
                  rotate_left
                  · simp only [List.getElem?_toArray, List.getElem?_cons_zero, List.getElem?_cons_succ]; rfl
                  · kernel_rfl
                  · kernel_rfl
                  · exact fun _ _ _ h => h
                  · exact Or.inl ⟨by rfl, by intro w' hSw; go_simp⟩
                  simp only [Act.put, List.setIfInBounds_toArray, List.set_cons_zero, List.set_cons_succ]
                  refine wpAnyH_take (i := 13) (oi := ?_) (v := undef) ?_ (by kernel_rfl) ?_ ?_ ?_ ?_ hHeld ?_
                  rotate_left
                  · simp only [List.getElem?_toArray, List.getElem?_cons_zero, List.getElem?_cons_succ]; rfl
                  · kernel_rfl
                  · kernel_rfl
                  · exact fun _ _ _ h => h
                  · exact Or.inr ⟨by rfl, rfl⟩
                  simp only [Act.put, List.setIfInBounds_toArray, List.set_cons_zero, List.set_cons_succ]
                  refine wpAnyH_take (i := 15) (oi := ?_) (v := undef) ?_ (by kernel_rfl) ?_ ?_ ?_ ?_ hHeld ?_
                  rotate_left
                  · simp only [List.getElem?_toArray, List.getElem?_cons_zero, List.getElem?_cons_succ]; rfl
                  · kernel_rfl
                  · kernel_rfl
                  · exact fun _ _ _ h => h
                  · exact Or.inr ⟨by rfl, rfl⟩
                  simp only [Act.put, List.setIfInBounds_toArray, List.set_cons_zero, List.set_cons_succ]
                  refine wpAnyH_take (i := 14) (oi := ?_) (v := undef) ?_ (by kernel_rfl) ?_ ?_ ?_ ?_ hHeld ?_
                  rotate_left
                  · simp only [List.getElem?_toArray, List.getElem?_cons_zero, List.getElem?_cons_succ]; rfl
                  · kernel_rfl
                  · kernel_rfl
                  · exact fun _ _ _ h => h
                  · exact Or.inr ⟨by rfl, rfl⟩
                  simp only [Act.put, List.setIfInBounds_toArray, List.set_cons_zero, List.set_cons_succ]
                  refine wpAnyH_take (i := 16) (oi := ?_) (v := undef) ?_ (by kernel_rfl) ?_ ?_ ?_ ?_ hHeld ?_
                  rotate_left
                  · simp only [List.getElem?_toArray, List.getElem?_cons_zero, List.getElem?_cons_succ]; rfl
                  · kernel_rfl
                  · kernel_rfl
                  · exact fun _ _ _ h => h
                  · exact Or.inr ⟨by rfl, rfl⟩
                  simp only [Act.put, List.setIfInBounds_toArray, List.set_cons_zero, List.set_cons_succ]
                  refine wpAnyH_take (i := 17) (oi := ?_) (v := undef) ?_ (by kernel_rfl) ?_ ?_ ?_ ?_ hHeld ?_
                  rotate_left
                  · simp only [List.getElem?_toArray, List.getElem?_cons_zero, List.getElem?_cons_succ]; rfl
                  · kernel_rfl
                  · kernel_rfl
                  · exact fun _ _ _ h => h
                  · exact Or.inr ⟨by rfl, rfl⟩
                  simp only [Act.put, List.setIfInBounds_toArray, List.set_cons_zero, List.set_cons_succ]
                  refine wpAnyH_take (i := 18) (oi := ?_) (v := .bool true) ?_ (by kernel_rfl) ?_ ?_ ?_ ?_ hHeld ?_
                  rotate_left
                  · simp only [List.getElem?_toArray, List.getElem?_cons_zero, List.getElem?_cons_succ]; rfl
                  · kernel_rfl
                  · kernel_rfl
                  · exact fun _ _ _ h => h
                  · exact Or.inl ⟨by rfl, by intro w' hSw; go_simp⟩
                  simp only [Act.put, List.setIfInBounds_toArray, List.set_cons_zero, List.set_cons_succ]
                  refine wpAnyH_take (i := 19) (oi := ?_) (v := .bool true) ?_ (by kernel_rfl) ?_ ?_ ?_ ?_ hHeld ?_
                  rotate_left
                  · simp only [List.getElem?_toArray, List.getElem?_cons_zero, List.getElem?_cons_succ]; rfl
                  · kernel_rfl
                  · kernel_rfl
                  · exact fun _ _ _ h => h
                  · exact Or.inl ⟨by rfl, by intro w' hSw; go_simp⟩
                  simp only [Act.put, List.setIfInBounds_toArray, List.set_cons_zero, List.set_cons_succ]
                  refine wpAnyH_done (by kernel_rfl) ?_ _
                  clear hHeld
                  go_wp2
                  go_ret
                  exact ⟨by rw [HCF.out]; rfl, HX6.out⟩
                exact AllReadyH.nil
              exact AllReadyH.nil
            exact AllReadyH.nil
          exact AllReadyH.nil
        exact AllReadyH.nil
      exact AllReadyH.nil
    | false =>
      cases C3 with
      | true =>
        have HX0 : Hid (Below w.heap.size w ((w.alloc (.cells #[.int .i64 a.unit, .int .i64 a.num, .slice a.rA a.rn a.rc, .slice a.cA a.cn a.cc] 43)).alloc (.cells #[.int .i64 x.unit, .int .i64 x.num, .slice x.rA x.rn x.rc, .slice x.cA x.cn x.cc] 43)).drew) := Lib.hid (((Below.refl _ _).alloc (Nat.le_refl _) _).alloc (by simp) _).drew
        refine wp_region_held_drew (S := fun w' => Blk w' w.heap.size 43 #[.int .i64 a.unit, .int .i64 a.num, .slice a.rA a.rn a.rc, .slice a.cA a.cn a.cc] ∧ Blk w' (w.heap.size + 1) 43 #[.int .i64 x.unit, .int .i64 x.num, .slice x.rA x.rn x.rc, .slice x.cA x.cn x.cc]) (by kernel_rfl) HBK.out (fun hHeld => ?_)
        refine wpAnyH_take (i := 0) (oi := ?_) (v := .agg #[.int .i64 a.unit, .int .i64 a.num, .slice a.rA a.rn a.rc, .slice a.cA a.cn a.cc]) ?_ (by kernel_rfl) ?_ ?_ ?_ ?_ hHeld ?_
        rotate_left
        · simp only [List.getElem?_toArray, List.getElem?_cons_zero]; rfl
        · kernel_rfl
        · kernel_rfl
        · exact fun _ _ _ h => h
        · exact Or.inl ⟨by rfl, by intro w' hSw; have h0 := hSw.1.cell 0; have h1 := hSw.1.cell 1; have h2 := hSw.1.cell 2; have h3 := hSw.1.cell 3; simp at h0 h1 h2 h3; go_simp⟩
        simp only [Act.put, List.setIfInBounds_toArray, List.set_cons_zero, List.set_cons_succ]
        refine wpAnyH_take (i := 2) (oi := ?_) (v := .agg #[.int .i64 x.unit, .int .i64 x.num, .slice x.rA x.rn x.rc, .slice x.cA x.cn x.cc]) ?_ (by kernel_rfl) ?_ ?_ ?_ ?_ hHeld ?_
        rotate_left
        · simp only [List.getElem?_toArray, List.getElem?_cons_zero, List.getElem?_cons_succ]; rfl
        · kernel_rfl
        · kernel_rfl
        · exact fun _ _ _ h => h
        · exact Or.inl ⟨by rfl, by intro w' hSw; have h0 := hSw.2.cell 0; have h1 := hSw.2.cell 1; have h2 := hSw.2.cell 2; have h3 := hSw.2.cell 3; simp at h0 h1 h2 h3; go_simp⟩
        simp only [Act.put, List.setIfInBounds_toArray, List.set_cons_zero, List.set_cons_succ]
        refine wpAnyH_ready (rs := [1]) (by kernel_rfl) (by simp) ?_
        refine AllReadyH.cons (o := ?_) ?_ (fun K hK => ?_) ?_
        rotate_left
        · simp only [List.getElem?_toArray, List.getElem?_cons_zero, List.getElem?_cons_succ]; rfl
        · go_simp
          refine (HCA.out _ (below_next HBW.out HX0.out HBW.out.size)).mono ?_
          rintro e y1 ⟨Aa1, ca1, rfl, hs, hb⟩
          simp only []
          have HX1 := Lib.hid (below_next HX0.out hb HX0.out.size)
          have Sa1 := Lib.hid hs
          clear hs
          obtain ⟨q0, q1⟩ := hHeld
          refine hK.out _ _ ⟨q0.below hb q0.lt, q1.below hb q1.lt⟩ (fun hHeld => ?_)
          clear hK K hb q0 q1
          try simp only [Act.put, List.setIfInBounds_toArray, List.set_cons_zero, List.set_cons_succ]
          refine wpAnyH_ready (rs := [3]) (by kernel_rfl) (by simp) ?_
          refine AllReadyH.cons (o := ?_) ?_ (fun K hK => ?_) ?_
          rotate_left
          · simp only [List.getElem?_toArray, List.getElem?_cons_zero, List.getElem?_cons_succ]; rfl
          · go_simp
            refine (HCX.out _ (below_next HBW.out HX1.out HBW.out.size)).mono ?_
            rintro e y2 ⟨Ax1, cx1, rfl, hs, hb⟩
            simp only []
            have HX2 := Lib.hid (below_next HX1.out hb HX1.out.size)
            have Sa1n := Lib.hid (Sa1.out.after hb hb.size)
            have Sx1 := Lib.hid hs
            clear hs
            obtain ⟨q0, q1⟩ := hHeld
            refine hK.out _ _ ⟨q0.below hb q0.lt, q1.below hb q1.lt⟩ (fun hHeld => ?_)
            clear hK K hb q0 q1
            try simp only [Act.put, List.setIfInBounds_toArray, List.set_cons_zero, List.set_cons_succ]
            refine wpAnyH_ready (rs := [4]) (by kernel_rfl) (by simp) ?_
            refine AllReadyH.cons (o := ?_) ?_ (fun K hK => ?_) ?_
            rotate_left
            · simp only [List.getElem?_toArray, List.getElem?_cons_zero, List.getElem?_cons_succ]; rfl
            · go_simp
              refine (HM1.out _ _ _ _ _ Sa1n.out Sx1.out).mono ?_
              rintro e y3 ⟨rfl, hb⟩
              simp only []
              have HX3 := Lib.hid (below_next HX2.out hb HX2.out.size)
              obtain ⟨q0, q1⟩ := hHeld
              refine hK.out _ _ ⟨q0.below hb q0.lt, q1.below hb q1.lt⟩ (fun hHeld => ?_)
              clear hK K hb q0 q1
              try simp only [Act.put, List.setIfInBounds_toArray, List.set_cons_zero, List.set_cons_succ]
              refine wpAnyH_take (i := 5) (oi := ?_) (v := .bool false) ?_ (by kernel_rfl) ?_ ?_ ?_ ?_ hHeld ?_
              rotate_left
              · simp only [List.getElem?_toArray, List.getElem?_cons_zero, List.getElem?_cons_succ]; rfl
              · kernel_rfl
              · kernel_rfl
              · exact fun _ _ _ h => h
              · exact Or.inl ⟨by rfl, by intro w' hSw; go_simp⟩
              simp only [Act.put, List.setIfInBounds_toArray, List.set_cons_zero, List.set_cons_succ]
              refine wpAnyH_take (i := 6) (oi := ?_) (v := .agg #[.int .i64 a.unit, .int .i64 a.num, .slice a.rA a.rn a.rc, .slice a.cA a.cn a.cc]) ?_ (by kernel_rfl) ?_ ?_ ?_ ?_ hHeld ?_
              rotate_left
              · simp only [List.getElem?_toArray, List.getElem?_cons_zero, List.getElem?_cons_succ]; rfl
              · kernel_rfl
              · kernel_rfl
              · exact fun _ _ _ h => h
              · exact Or.inl ⟨by rfl, by intro w' hSw; have h0 := hSw.1.cell 0; have h1 := hSw.1.cell 1; have h2 := hSw.1.cell 2; have h3 := hSw.1.cell 3; simp at h0 h1 h2 h3; go_simp⟩
              simp only [Act.put, List.setIfInBounds_toArray, List.set_cons_zero, List.set_cons_succ]
              refine wpAnyH_take (i := 8) (oi := ?_) (v := .agg #[.int .i64 x.unit, .int .i64 x.num, .slice x.rA x.rn x.rc, .slice x.cA x.cn x.cc]) ?_ (by kernel_rfl) ?_ ?_ ?_ ?_ hHeld ?_
              rotate_left
              · simp only [List.getElem?_toArray, List.getElem?_cons_zero, List.getElem?_cons_succ]; rfl
              · kernel_rfl
              · kernel_rfl
              · exact fun _ _ _ h => h
              · exact Or.inl ⟨by rfl, by intro w' hSw; have h0 := hSw.2.cell 0; have h1 := hSw.2.cell 1; have h2 := hSw.2.cell 2; have h3 := hSw.2.cell 3; simp at h0 h1 h2 h3; go_simp⟩
              simp only [Act.put, List.setIfInBounds_toArray, List.set_cons_zero, List.set_cons_succ]
              refine wpAnyH_ready (rs := [7]) (by kernel_rfl) (by simp) ?_
              refine AllReadyH.cons (o := ?_) ?_ (fun K hK => ?_) ?_
              rotate_left
              · simp only [List.getElem?_toArray, List.getElem?_cons_zero, List.getElem?_cons_succ]; rfl
              · go_simp
                refine (HCA.out _ (below_next HBW.out HX3.out HBW.out.size)).mono ?_
                rintro e y4 ⟨Aa2, ca2, rfl, hs, hb⟩
                simp only []
                have HX4 := Lib.hid (below_next HX3.out hb HX3.out.size)
                have Sa2 := Lib.hid hs
                clear hs
                obtain ⟨q0, q1⟩ := hHeld
                refine hK.out _ _ ⟨q0.below hb q0.lt, q1.below hb q1.lt⟩ (fun hHeld => ?_)
                clear hK K hb q0 q1
                try simp only [Act.put, List.setIfInBounds_toArray, List.set_cons_zero, List.set_cons_succ]
                refine wpAnyH_ready (rs := [9]) (by kernel_rfl) (by simp) ?_
                refine AllReadyH.cons (o := ?_) ?_ (fun K hK => ?_) ?_
                rotate_left
                · simp only [List.getElem?_toArray, List.getElem?_cons_zero, List.getElem?_cons_succ]; rfl
                · go_simp
                  refine (HRX.out _ (below_next HBW.out HX4.out HBW.out.size)).mono ?_
                  rintro e y5 ⟨Ax2, cx2, rfl, hs, hb⟩
                  simp only []
                  have HX5 := Lib.hid (below_next HX4.out hb HX4.out.size)
                  have Sa2n := Lib.hid (Sa2.out.after hb hb.size)
                  have Sx2 := Lib.hid hs
                  clear hs
                  obtain ⟨q0, q1⟩ := hHeld
                  refine hK.out _ _ ⟨q0.below hb q0.lt, q1.below hb q1.lt⟩ (fun hHeld => ?_)
                  clear hK K hb q0 q1
                  try simp only [Act.put, List.setIfInBounds_toArray, List.set_cons_zero, List.set_cons_succ]
                  refine wpAnyH_ready (rs := [10]) (by kernel_rfl) (by simp) ?_
                  refine AllReadyH.cons (o := ?_) ?_ (fun K hK => ?_) ?_
                  rotate_left
                  · simp only [List.getElem?_toArray, List.getElem?_cons_zero, List.getElem?_cons_succ]; rfl
                  · go_simp
                    refine (HM2.out _ _ _ _ _ Sa2n.out Sx2.out).mono ?_
                    rintro e y6 ⟨rfl, hb⟩
                    simp only []
                    have HX6 := Lib.hid (below_next HX5.out hb HX5.out.size)
                    obtain ⟨q0, q1⟩ := hHeld
                    refine hK.out _ _ ⟨q0.below hb q0.lt, q1.below hb q1.lt⟩ (fun hHeld => ?_)
                    clear hK K hb q0 q1
                    try simp only [Act.put, List.setIfInBounds_toArray, List.set_cons_zero, List.set_cons_succ]
                    refine wpAnyH_take (i := 11) (oi := ?_) (v := .bool false) ?_ (by kernel_rfl) ?_ ?_ ?_ ?_ hHeld ?_
                    rotate_left
                    · simp only [List.getElem?_toArray, List.getElem?_cons_zero, List.getElem?_cons_succ]; rfl
                    · kernel_rfl
                    · kernel_rfl
                    · exact fun _ _ _ h => h
                    · exact Or.inl ⟨by rfl, by intro w' hSw; go_simp⟩
                    simp only [Act.put, List.setIfInBounds_toArray, List.set_cons_zero, List.set_cons_succ]
                    refine wpAnyH_take (i := 12) (oi := ?_) (v := .bool false) ?_ (by kernel_rfl) ?_ ?_ ?_ ?_ hHeld ?_
                    rotate_left
                    · simp only [List.getElem?_toArray, List.getElem?_cons_zero, List.getElem?_cons_succ]; rfl
                    · kernel_rfl
                    · kernel_rfl
                    · exact fun _ _ _ h => h
                    · exact Or.inl ⟨by rfl, by intro w' hSw; go_simp⟩
                    simp only [Act.put, List.setIfInBounds_toArray, List.set_cons_zero, List.set_cons_succ]
                    refine wpAnyH_take (i := 13) (oi := ?_) (v := .agg #[.int .i64 a.unit, .int .i64 a.num, .slice a.rA a.rn a.rc, .slice a.cA a.cn a.cc]) ?_ (by kernel_rfl) ?_ ?_ ?_ ?_ hHeld ?_
                    rotate_left
                    · simp only [List.getElem?_toArray, List.getElem?_cons_zero, List.getElem?_cons_succ]; rfl
                    · kernel_rfl
                    · kernel_rfl
                    · exact fun _ _ _ h => h
                    · exact Or.inl ⟨by rfl, by intro w' hSw; have h0 := hSw.1.cell 0; have h1 := hSw.1.cell 1; have h2 := hSw.1.cell 2; have h3 := hSw.1.cell 3; simp at h0 h1 h2 h3; go_simp⟩
                    simp only [Act.put, List.setIfInBounds_toArray, List.set_cons_zero, List.set_cons_succ]
                    refine wpAnyH_take (i := 15) (oi := ?_) (v := .agg #[.int .i64 x.unit, .int .i64 x.num, .slice x.rA x.rn x.rc, .slice x.cA x.cn x.cc]) ?_ (by kernel_rfl) ?_ ?_ ?_ ?_ hHeld ?_
                    rotate_left
                    · simp only [List.getElem?_toArray, List.getElem?_cons_zero, List.getElem?_cons_succ]; rfl
                    · kernel_rfl
                    · kernel_rfl
                    · exact fun _ _ _ h => h
                    · exact Or.inl ⟨by rfl, by intro w' hSw; have h0 := hSw.2.cell 0; have h1 := hSw.2.cell 1; have h2 := hSw.2.cell 2; have h3 := hSw.2.cell 3; simp at h0 h1 h2 h3; go_simp⟩
                    simp only [Act.put, List.setIfInBounds_toArray, List.set_cons_zero, List.set_cons_succ]
                    refine wpAnyH_ready (rs := [14]) (by kernel_rfl) (by simp) ?_
                    refine AllReadyH.cons (o := ?_) ?_ (fun K hK => ?_) ?_
                    rotate_left
                    · simp only [List.getElem?_toArray, List.getElem?_cons_zero, List.getElem?_cons_succ]; rfl
                    · go_simp
                      refine (HRA.out _ (below_next HBW.out HX6.out HBW.out.size)).mono ?_
                      rintro e y7 ⟨Aa3, ca3, rfl, hs, hb⟩
                      simp only []
                      have HX7 := Lib.hid (below_next HX6.out hb HX6.out.size)
                      have Sa3 := Lib.hid hs
                      clear hs
                      obtain ⟨q0, q1⟩ := hHeld
                      refine hK.out _ _ ⟨q0.below hb q0.lt, q1.below hb q1.lt⟩ (fun hHeld => ?_)
                      clear hK K hb q0 q1
                      try simp only [Act.put, List.setIfInBounds_toArray, List.set_cons_zero, List.set_cons_succ]
                      refine wpAnyH_ready (rs := [16]) (by kernel_rfl) (by simp) ?_
                      refine AllReadyH.cons (o := ?_) ?_ (fun K hK => ?_) ?_
                      rotate_left
                      · simp only [List.getElem?_toArray, List.getElem?_cons_zero, List.getElem?_cons_succ]; rfl
                      · go_simp
                        refine (HCX.out _ (below_next HBW.out HX7.out HBW.out.size)).mono ?_
                        rintro e y8 ⟨Ax3, cx3, rfl, hs, hb⟩
                        simp only []
                        have HX8 := Lib.hid (below_next HX7.out hb HX7.out.size)
                        have Sa3n := Lib.hid (Sa3.out.after hb hb.size)
                        have Sx3 := Lib.hid hs
                        clear hs
                        obtain ⟨q0, q1⟩ := hHeld
                        refine hK.out _ _ ⟨q0.below hb q0.lt, q1.below hb q1.lt⟩ (fun hHeld => ?_)
                        clear hK K hb q0 q1
                        try simp only [Act.put, List.setIfInBounds_toArray, List.set_cons_zero, List.set_cons_succ]
                        refine wpAnyH_ready (rs := [17]) (by kernel_rfl) (by simp) ?_
                        refine AllReadyH.cons (o := ?_) ?_ (fun K hK => ?_) ?_
                        rotate_left
                        · simp only [List.getElem?_toArray, List.getElem?_cons_zero, List.getElem?_cons_succ]; rfl
                        · go_simp
                          refine (HM3.out _ _ _ _ _ Sa3n.out Sx3.out).mono ?_
                          rintro e y9 ⟨rfl, hb⟩
                          simp only []
                          have HX9 := Lib.hid (below_next HX8.out hb HX8.out.size)
                          obtain ⟨q0, q1⟩ := hHeld
                          refine hK.out _ _ ⟨q0.below hb q0.lt, q1.below hb q1.lt⟩ (fun hHeld => ?_)
                          clear hK K hb q0 q1
                          try simp only [Act.put, List.setIfInBounds_toArray, List.set_cons_zero, List.set_cons_succ]
                          refine wpAnyH_take (i := 18) (oi := ?_) (v := .bool true) ?_ (by kernel_rfl) ?_ ?_ ?_ ?_ hHeld ?_
                          rotate_left
                          · simp only [List.getElem?_toArray, List.getElem?_cons_zero, List.getElem?_cons_succ]; rfl
                          · kernel_rfl
                          · kernel_rfl
                          · exact fun _ _ _ h => h
                          · exact Or.inl ⟨by rfl, by intro w' hSw; go_simp⟩
                          simp only [Act.put, List.setIfInBounds_toArray, List.set_cons_zero, List.set_cons_succ]
                          refine wpAnyH_take (i := 19) (oi := ?_) (v := .bool true) ?_ (by kernel_rfl) ?_ ?_ ?_ ?_ hHeld ?_
                          rotate_left
                          · simp only [List.getElem?_toArray, List.getElem?_cons_zero, List.getElem?_cons_succ]; rfl
                          · kernel_rfl
                          · kernel_rfl
                          · exact fun _ _ _ h => h
                          · exact Or.inl ⟨by rfl, by intro w' hSw; go_simp⟩
                          simp only [Act.put, List.setIfInBounds_toArray, List.set_cons_zero, List.set_cons_succ]
                          refine wpAnyH_done (by kernel_rfl) ?_ _
                          clear hHeld
                          go_wp2
                          go_ret
                          exact ⟨by rw [HCF.out]; rfl, HX9.out⟩
                        exact AllReadyH.nil
                      exact AllReadyH.nil
                    exact AllReadyH.nil
                  exact AllReadyH.nil
                exact AllReadyH.nil
              exact AllReadyH.nil
            exact AllReadyH.nil
          exact AllReadyH.nil
        exact AllReadyH.nil
      | false =>
        have HX0 : Hid (Below w.heap.size w ((w.alloc (.cells #[.int .i64 a.unit, .int .i64 a.num, .slice a.rA a.rn a.rc, .slice a.cA a.cn a.cc] 43)).alloc (.cells #[.int .i64 x.unit, .int .i64 x.num, .slice x.rA x.rn x.rc, .slice x.cA x.cn x.cc] 43)).drew) := Lib.hid (((Below.refl _ _).alloc (Nat.le_refl _) _).alloc (by simp) _).drew
        refine wp_region_held_drew (S := fun w' => Blk w' w.heap.size 43 #[.int .i64 a.unit, .int .i64 a.num, .slice a.rA a.rn a.rc, .slice a.cA a.cn a.cc] ∧ Blk w' (w.heap.size + 1) 43 #[.int .i64 x.unit, .int .i64 x.num, .slice x.rA x.rn x.rc, .slice x.cA x.cn x.cc]) (by kernel_rfl) HBK.out (fun hHeld => ?_)
        refine wpAnyH_take (i := 0) (oi := ?_) (v := .agg #[.int .i64 a.unit, .int .i64 a.num, .slice a.rA a.rn a.rc, .slice a.cA a.cn a.cc]) ?_ (by kernel_rfl) ?_ ?_ ?_ ?_ hHeld ?_
        rotate_left
        · simp only [List.getElem?_toArray, List.getElem?_cons_zero]; rfl
        · kernel_rfl
        · kernel_rfl
        · exact fun _ _ _ h => h
        · exact Or.inl ⟨by rfl, by intro w' hSw; have h0 := hSw.1.cell 0; have h1 := hSw.1.cell 1; have h2 := hSw.1.cell 2; have h3 := hSw.1.cell 3; simp at h0 h1 h2 h3; go_simp⟩
        simp only [Act.put, List.setIfInBounds_toArray, List.set_cons_zero, List.set_cons_succ]
        refine wpAnyH_take (i := 2) (oi := ?_) (v := .agg #[.int .i64 x.unit, .int .i64 x.num, .slice x.rA x.rn x.rc, .slice x.cA x.cn x.cc]) ?_ (by kernel_rfl) ?_ ?_ ?_ ?_ hHeld ?_
        rotate_left
        · simp only [List.getElem?_toArray, List.getElem?_cons_zero, List.getElem?_cons_succ]; rfl
        · kernel_rfl
        · kernel_rfl
        · exact fun _ _ _ h => h
        · exact Or.inl ⟨by rfl, by intro w' hSw; have h0 := hSw.2.cell 0; have h1 := hSw.2.cell 1; have h2 := hSw.2.cell 2; have h3 := hSw.2.cell 3; simp at h0 h1 h2 h3; go_simp⟩
        simp only [Act.put, List.setIfInBounds_toArray, List.set_cons_zero, List.set_cons_succ]
        refine wpAnyH_ready (rs := [1]) (by kernel_rfl) (by simp) ?_
        refine AllReadyH.cons (o := ?_) ?_ (fun K hK => ?_) ?_
        rotate_left
        · simp only [List.getElem?_toArray, List.getElem?_cons_zero, List.getElem?_cons_succ]; rfl
        · go_simp
          refine (HCA.out _ (below_next HBW.out HX0.out HBW.out.size)).mono ?_
          rintro e y1 ⟨Aa1, ca1, rfl, hs, hb⟩
          simp only []
          have HX1 := Lib.hid (below_next HX0.out hb HX0.out.size)
          have Sa1 := Lib.hid hs
          clear hs
          obtain ⟨q0, q1⟩ := hHeld
          refine hK.out _ _ ⟨q0.below hb q0.lt, q1.below hb q1.lt⟩ (fun hHeld => ?_)
          clear hK K hb q0 q1
          try simp only [Act.put, List.setIfInBounds_toArray, List.set_cons_zero, List.set_cons_succ]
          refine wpAnyH_ready (rs := [3]) (by kernel_rfl) (by simp) ?_
          refine AllReadyH.cons (o := ?_) ?_ (fun K hK => ?_) ?_
          rotate_left
          · simp only [List.getElem?_toArray, List.getElem?_cons_zero, List.getElem?_cons_succ]; rfl
          · go_simp
            refine (HCX.out _ (below_next HBW.out HX1.out HBW.out.size)).mono ?_
            rintro e y2 ⟨Ax1, cx1, rfl, hs, hb⟩
            simp only []
            have HX2 := Lib.hid (below_next HX1.out hb HX1.out.size)
            have Sa1n := Lib.hid (Sa1.out.after hb hb.size)
            have Sx1 := Lib.hid hs
            clear hs
            obtain ⟨q0, q1⟩ := hHeld
            refine hK.out _ _ ⟨q0.below hb q0.lt, q1.below hb q1.lt⟩ (fun hHeld => ?_)
            clear hK K hb q0 q1
            try simp only [Act.put, List.setIfInBounds_toArray, List.set_cons_zero, List.set_cons_succ]
            refine wpAnyH_ready (rs := [4]) (by kernel_rfl) (by simp) ?_
            refine AllReadyH.cons (o := ?_) ?_ (fun K hK => ?_) ?_
            rotate_left
            · simp only [List.getElem?_toArray, List.getElem?_cons_zero, List.getElem?_cons_succ]; rfl
            · go_simp
              refine (HM1.out _ _ _ _ _ Sa1n.out Sx1.out).mono ?_
              rintro e y3 ⟨rfl, hb⟩
              simp only []
              have HX3 := Lib.hid (below_next HX2.out hb HX2.out.size)
              obtain ⟨q0, q1⟩ := hHeld
              refine hK.out _ _ ⟨q0.below hb q0.lt, q1.below hb q1.lt⟩ (fun hHeld => ?_)
              clear hK K hb q0 q1
              try simp only [Act.put, List.setIfInBounds_toArray, List.set_cons_zero, List.set_cons_succ]
              refine wpAnyH_take (i := 5) (oi := ?_) (v := .bool false) ?_ (by kernel_rfl) ?_ ?_ ?_ ?_ hHeld ?_
              rotate_left
              · simp only [List.getElem?_toArray, List.getElem?_cons_zero, List.getElem?_cons_succ]; rfl
              · kernel_rfl
              · kernel_rfl
              · exact fun _ _ _ h => h
              · exact Or.inl ⟨by rfl, by intro w' hSw; go_simp⟩
              simp only [Act.put, List.setIfInBounds_toArray, List.set_cons_zero, List.set_cons_succ]
              refine wpAnyH_take (i := 6) (oi := ?_) (v := .agg #[.int .i64 a.unit, .int .i64 a.num, .slice a.rA a.rn a.rc, .slice a.cA a.cn a.cc]) ?_ (by kernel_rfl) ?_ ?_ ?_ ?_ hHeld ?_
              rotate_left
              · simp only [List.getElem?_toArray, List.getElem?_cons_zero, List.getElem?_cons_succ]; rfl
              · kernel_rfl
              · kernel_rfl
              · exact fun _ _ _ h => h
              · exact Or.inl ⟨by rfl, by intro w' hSw; have h0 := hSw.1.cell 0; have h1 := hSw.1.cell 1; have h2 := hSw.1.cell 2; have h3 := hSw.1.cell 3; simp at h0 h1 h2 h3; go_simp⟩
              simp only [Act.put, List.setIfInBounds_toArray, List.set_cons_zero, List.set_cons_succ]
              refine wpAnyH_take (i := 8) (oi := ?_) (v := .agg #[.int .i64 x.unit, .int .i64 x.num, .slice x.rA x.rn x.rc, .slice x.cA x.cn x.cc]) ?_ (by kernel_rfl) ?_ ?_ ?_ ?_ hHeld ?_
              rotate_left
              · simp only [List.getElem?_toArray, List.getElem?_cons_zero, List.getElem?_cons_succ]; rfl
              · kernel_rfl
              · kernel_rfl
              · exact fun _ _ _ h => h
              · exact Or.inl ⟨by rfl, by intro w' hSw; have h0 := hSw.2.cell 0; have h1 := hSw.2.cell 1; have h2 := hSw.2.cell 2; have h3 := hSw.2.cell 3; simp at h0 h1 h2 h3; go_simp⟩
              simp only [Act.put, List.setIfInBounds_toArray, List.set_cons_zero, List.set_cons_succ]
              refine wpAnyH_ready (rs := [7]) (by kernel_rfl) (by simp) ?_
              refine AllReadyH.cons (o := ?_) ?_ (fun K hK => ?_) ?_
              rotate_left
              · simp only [List.getElem?_toArray, List.getElem?_cons_zero, List.getElem?_cons_succ]; rfl
              · go_simp
                refine (HCA.out _ (below_next HBW.out HX3.out HBW.out.size)).mono ?_
                rintro e y4 ⟨Aa2, ca2, rfl, hs, hb⟩
                simp only []
                have HX4 := Lib.hid (below_next HX3.out hb HX3.out.size)
                have Sa2 := Lib.hid hs
                clear hs
                obtain ⟨q0, q1⟩ := hHeld
                refine hK.out _ _ ⟨q0.below hb q0.lt, q1.below hb q1.lt⟩ (fun hHeld => ?_)
                clear hK K hb q0 q1
                try simp only [Act.put, List.setIfInBounds_toArray, List.set_cons_zero, List.set_cons_succ]
                refine wpAnyH_ready (rs := [9]) (by kernel_rfl) (by simp) ?_
                refine AllReadyH.cons (o := ?_) ?_ (fun K hK => ?_) ?_
                rotate_left
                · simp only [List.getElem?_toArray, List.getElem?_cons_zero, List.getElem?_cons_succ]; rfl
                · go_simp
                  refine (HRX.out _ (below_next HBW.out HX4.out HBW.out.size)).mono ?_
                  rintro e y5 ⟨Ax2, cx2, rfl, hs, hb⟩
                  simp only []
                  have HX5 := Lib.hid (below_next HX4.out hb HX4.out.size)
                  have Sa2n := Lib.hid (Sa2.out.after hb hb.size)
                  have Sx2 := Lib.hid hs
                  clear hs
                  obtain ⟨q0, q1⟩ := hHeld
                  refine hK.out _ _ ⟨q0.below hb q0.lt, q1.below hb q1.lt⟩ (fun hHeld => ?_)
                  clear hK K hb q0 q1
                  try simp only [Act.put, List.setIfInBounds_toArray, List.set_cons_zero, List.set_cons_succ]
                  refine wpAnyH_ready (rs := [10]) (by kernel_rfl) (by simp) ?_
                  refine AllReadyH.cons (o := ?_) ?_ (fun K hK => ?_) ?_
                  rotate_left
                  · simp only [List.getElem?_toArray, List.getElem?_cons_zero, List.getElem?_cons_succ]; rfl
                  · go_simp
                    refine (HM2.out _ _ _ _ _ Sa2n.out Sx2.out).mono ?_
                    rintro e y6 ⟨rfl, hb⟩
                    simp only []
                    have HX6 := Lib.hid (below_next HX5.out hb HX5.out.size)
                    obtain ⟨q0, q1⟩ := hHeld
                    refine hK.out _ _ ⟨q0.below hb q0.lt, q1.below hb q1.lt⟩ (fun hHeld => ?_)
                    clear hK K hb q0 q1
                    try simp only [Act.put, List.setIfInBounds_toArray, List.set_cons_zero, List.set_cons_succ]
                    refine wpAnyH_take (i := 11) (oi := ?_) (v := .bool false) ?_ (by kernel_rfl) ?_ ?_ ?_ ?_ hHeld ?_
                    rotate_left
                    · simp only [List.getElem?_toArray, List.getElem?_cons_zero, List.getElem?_cons_succ]; rfl
                    · kernel_rfl
                    · kernel_rfl
                    · exact fun _ _ _ h => h
                    · exact Or.inl ⟨by rfl, by intro w' hSw; go_simp⟩
                    simp only [Act.put, List.setIfInBounds_toArray, List.set_cons_zero, List.set_cons_succ]
                    refine wpAnyH_take (i := 12) (oi := ?_) (v := .bool false) ?_ (by kernel_rfl) ?_ ?_ ?_ ?_ hHeld ?_
                    rotate_left
                    · simp only [List.getElem?_toArray, List.getElem?_cons_zero, List.getElem?_cons_succ]; rfl
                    · kernel_rfl
                    · kernel_rfl
                    · exact fun _ _ _ h => h
                    · exact Or.inl ⟨by rfl, by intro w' hSw; go_simp⟩
                    simp only [Act.put, List.setIfInBounds_toArray, List.set_cons_zero, List.set_cons_succ]
                    refine wpAnyH_take (i := 13) (oi := ?_) (v := .agg #[.int .i64 a.unit, .int .i64 a.num, .slice a.rA a.rn a.rc, .slice a.cA a.cn a.cc]) ?_ (by kernel_rfl) ?_ ?_ ?_ ?_ hHeld ?_
                    rotate_left
                    · simp only [List.getElem?_toArray, List.getElem?_cons_zero, List.getElem?_cons_succ]; rfl
                    · kernel_rfl
                    · kernel_rfl
                    · exact fun _ _ _ h => h
                    · exact Or.inl ⟨by rfl, by intro w' hSw; have h0 := hSw.1.cell 0; have h1 := hSw.1.cell 1; have h2 := hSw.1.cell 2; have h3 := hSw.1.cell 3; simp at h0 h1 h2 h3; go_simp⟩
                    simp only [Act.put, List.setIfInBounds_toArray, List.set_cons_zero, List.set_cons_succ]
                    refine wpAnyH_take (i := 15) (oi := ?_) (v := .agg #[.int .i64 x.unit, .int .i64 x.num, .slice x.rA x.rn x.rc, .slice x.cA x.cn x.cc]) ?_ (by kernel_rfl) ?_ ?_ ?_ ?_ hHeld ?_
                    rotate_left
                    · simp only [List.getElem?_toArray, List.getElem?_cons_zero, List.getElem?_cons_succ]; rfl
                    · kernel_rfl
                    · kernel_rfl
                    · exact fun _ _ _ h => h
                    · exact Or.inl ⟨by rfl, by intro w' hSw; have h0 := hSw.2.cell 0; have h1 := hSw.2.cell 1; have h2 := hSw.2.cell 2; have h3 := hSw.2.cell 3; simp at h0 h1 h2 h3; go_simp⟩
                    simp only [Act.put, List.setIfInBounds_toArray, List.set_cons_zero, List.set_cons_succ]
                    refine wpAnyH_ready (rs := [14]) (by kernel_rfl) (by simp) ?_
                    refine AllReadyH.cons (o := ?_) ?_ (fun K hK => ?_) ?_
                    rotate_left
                    · simp only [List.getElem?_toArray, List.getElem?_cons_zero, List.getElem?_cons_succ]; rfl
                    · go_simp
                      refine (HRA.out _ (below_next HBW.out HX6.out HBW.out.size)).mono ?_
                      rintro e y7 ⟨Aa3, ca3, rfl, hs, hb⟩
                      simp only []
                      have HX7 := Lib.hid (below_next HX6.out hb HX6.out.size)
                      have Sa3 := Lib.hid hs
                      clear hs
                      obtain ⟨q0, q1⟩ := hHeld
                      refine hK.out _ _ ⟨q0.below hb q0.lt, q1.below hb q1.lt⟩ (fun hHeld => ?_)
                      clear hK K hb q0 q1
                      try simp only [Act.put, List.setIfInBounds_toArray, List.set_cons_zero, List.set_cons_succ]
                      refine wpAnyH_ready (rs := [16]) (by kernel_rfl) (by simp) ?_
                      refine AllReadyH.cons (o := ?_) ?_ (fun K hK => ?_) ?_
                      rotate_left
                      · simp only [List.getElem?_toArray, List.getElem?_cons_zero, List.getElem?_cons_succ]; rfl
                      · go_simp
                        refine (HCX.out _ (below_next HBW.out HX7.out HBW.out.size)).mono ?_
                        rintro e y8 ⟨Ax3, cx3, rfl, hs, hb⟩
                        simp only []
                        have HX8 := Lib.hid (below_next HX7.out hb HX7.out.size)
                        have Sa3n := Lib.hid (Sa3.out.after hb hb.size)
                        have Sx3 := Lib.hid hs
                        clear hs
                        obtain ⟨q0, q1⟩ := hHeld
                        refine hK.out _ _ ⟨q0.below hb q0.lt, q1.below hb q1.lt⟩ (fun hHeld => ?_)
                        clear hK K hb q0 q1
                        try simp only [Act.put, List.setIfInBounds_toArray, List.set_cons_zero, List.set_cons_succ]
                        refine wpAnyH_ready (rs := [17]) (by kernel_rfl) (by simp) ?_
                        refine AllReadyH.cons (o := ?_) ?_ (fun K hK => ?_) ?_
                        rotate_left
                        · simp only [List.getElem?_toArray, List.getElem?_cons_zero, List.getElem?_cons_succ]; rfl
                        · go_simp
                          refine (HM3.out _ _ _ _ _ Sa3n.out Sx3.out).mono ?_
                          rintro e y9 ⟨rfl, hb⟩
                          simp only []
                          have HX9 := Lib.hid (below_next HX8.out hb HX8.out.size)
                          obtain ⟨q0, q1⟩ := hHeld
                          refine hK.out _ _ ⟨q0.below hb q0.lt, q1.below hb q1.lt⟩ (fun hHeld => ?_)
                          clear hK K hb q0 q1
                          try simp only [Act.put, List.setIfInBounds_toArray, List.set_cons_zero, List.set_cons_succ]
                          refine wpAnyH_take (i := 18) (oi := ?_) (v := .bool false) ?_ (by kernel_rfl) ?_ ?_ ?_ ?_ hHeld ?_
                          rotate_left
                          · simp only [List.getElem?_toArray, List.getElem?_cons_zero, List.getElem?_cons_succ]; rfl
                          · kernel_rfl
                          · kernel_rfl
                          · exact fun _ _ _ h => h
                          · exact Or.inl ⟨by rfl, by intro w' hSw; go_simp⟩
                          simp only [Act.put, List.setIfInBounds_toArray, List.set_cons_zero, List.set_cons_succ]
                          refine wpAnyH_take (i := 19) (oi := ?_) (v := .bool false) ?_ (by kernel_rfl) ?_ ?_ ?_ ?_ hHeld ?_
                          rotate_left
                          · simp only [List.getElem?_toArray, List.getElem?_cons_zero, List.getElem?_cons_succ]; rfl
                          · kernel_rfl
                          · kernel_rfl
                          · exact fun _ _ _ h => h
                          · exact Or.inl ⟨by rfl, by intro w' hSw; go_simp⟩
                          simp only [Act.put, List.setIfInBounds_toArray, List.set_cons_zero, List.set_cons_succ]
                          refine wpAnyH_done (by kernel_rfl) ?_ _
                          clear hHeld
                          go_wp2
                          go_ret
                          exact ⟨by rw [HCF.out]; rfl, HX9.out⟩
                        exact AllReadyH.nil
                      exact AllReadyH.nil
                    exact AllReadyH.nil
                  exact AllReadyH.nil
                exact AllReadyH.nil
              exact AllReadyH.nil
            exact AllReadyH.nil
          exact AllReadyH.nil
        exact AllReadyH.nil
set_option maxRecDepth 100000 in
set_option maxHeartbeats 2000000 in
theorem rconf_any (A : Option Addr) (n c : Nat) (l : List Com) (w : World) (hs : Cs w w.heap.size A n c l) (hv : ∀ x ∈ l, ∀ c ∈ x.cs, StrOk c) (hn : n ≤ 12) (hsm : ∀ x ∈ l, Sm x) :
    Calls Tryz.prog 11 #[.slice A n c] w (GivesP w (confL (ordS l) (ordS l).length)) := by
  have HO := Lib.hid (rorder_any A n c l w hs hv hn)
  have HM : Hid (∀ x ∈ ordS l, Sm x) := Lib.hid fun x hx => hsm x (ordS_mem hx)
  have HLN : Hid ((ordS l).length ≤ 12) := Lib.hid (Nat.le_trans (ordS_len l) (by rw [hs.1.len]; exact hn))
  obtain ⟨i0, hi0, hz0, hz1, hz2⟩ := info_parts infoPP
  clear hs hv hsm hn
  cases hr : ordB l with
  | none =>
    have hS : ordS l = [] := by unfold ordS; rw [hr]; rfl
    rw [hr] at HO
    rw [hS]
    clear hr hS HM HLN
    go_enter Tryz.func11, Tryz.ntmps11
    go_wp2_with (go_at_call 8; refine HO.out.mono ?_; intro e w1 hp; obtain ⟨rfl, hb1⟩ := ord_no hp; have HB1 := Lib.hid hb1; clear hp hb1)
    go_ret
    exact ⟨none, 0, rfl, Sl.nil, HB1.out⟩
  | some s =>
    have hS : ordS l = s := by unfold ordS; rw [hr]; rfl
    rw [hr] at HO
    rw [hS] at HM HLN ⊢
    clear hr hS
    obtain ⟨m, hm⟩ : ∃ m, s.length = m := ⟨_, rfl⟩
    rw [hm] at HLN ⊢
    have hm12 := HLN.out
    have HMM := Lib.hid hm
    have HG : Hid (∀ e w', OrdP (some s) w e w' → ∃ A c, e = .returned (.tuple #[.slice A m c, .bool true]) ∧ Cs w' w'.heap.size A m c s ∧ Below w.heap.size w w') := Lib.hid fun e w' h => by have := ord_yes h; unfold OrdYes at this; rw [hm] at this; exact this
    clear hm HLN
    go_enter Tryz.func11, Tryz.ntmps11
    go_wp2_with (go_at_call 8; refine HO.out.mono ?_; intro e w1 hp; obtain ⟨A1, c1, rfl, hcs, hb1⟩ := HG.out _ _ hp; have HCS := Lib.hid hcs; have HB1 := Lib.hid hb1; clear hp hcs hb1 HG HO)
    have HO1 := Lib.hid (World.ownsRow_lit (e := 31) (base := w1.heap.size) (size := 2) w1 #[] 0 (Nat.le_refl _) (by decide) rfl)
    go_loopw [5, 6] (fun v5 v6 wr => ∃ i : Nat, i ≤ m ∧ v6 = .int .i64 i ∧ wr.ownsRow w1.heap.size 31 2 v5 (confL s i).length (flat pC (confL s i)) ∧ Below w1.heap.size w1 wr) (fun _ v6 _ => m - (intOf v6).toNat)
    case atStart => exact ⟨0, Nat.zero_le _, rfl, HO1.out, (Below.refl _ _).alloc (Nat.le_refl _) _⟩
    case round =>
      obtain ⟨w2, hw2⟩ : ∃ w2, w2 = wr := ⟨_, rfl⟩
      subst hw2
      obtain ⟨i, hi, rfl, hown, hbel⟩ := hrel
      have HOW := Lib.hid hown
      have HB := Lib.hid hbel
      clear hown hbel
      by_cases hlt : i < m
      · obtain ⟨b, o, a, rfl, hb, hg, hcell⟩ := Sl.cell (f := comC) (k := 4) comC_len HCS.out.1 hlt
        have HBL := Lib.hid hb
        have HGA := Lib.hid hg
        have HCA := Lib.hid hcell
        have HMA := Lib.hid (List.mem_of_getElem? hg)
        clear hb hg hcell
        go_wp2_with fail
        go_loopw [5, 7] (fun v5 v7 wx => ∃ k : Nat, i < k ∧ k ≤ m ∧ v7 = .int .i64 k ∧ wx.ownsRow w1.heap.size 31 2 v5 ((confL s i ++ rowL s i k).length) (flat pC (confL s i ++ rowL s i k)) ∧ Below w1.heap.size w1 wx) (fun _ v7 _ => m - (intOf v7).toNat)
        case atStart => exact ⟨i + 1, Nat.lt_succ_self _, hlt, by go_num, by rw [rowL_start, List.append_nil]; exact HOW.out, HB.out⟩
        case round =>
          obtain ⟨k, hik, hk, rfl, hown, hbel⟩ := hrel
          have HOX := Lib.hid hown
          have HBW := Lib.hid hbel
          have HLE : Hid ((confL s i ++ rowL s i k).length ≤ 156) := Lib.hid (by rw [List.length_append]; have h1 := confL_len s i; have h2 := rowL_len s i k; rw [HMM.out] at h1; have h3 : i * m ≤ 144 := Nat.mul_le_mul (Nat.le_trans (Nat.le_of_lt hlt) hm12) hm12; omega)
          clear hown hbel
          by_cases hkm : k < m
          · obtain ⟨b9, o9, x, hA9, hb9, hg9, hcell9⟩ := Sl.cell (f := comC) (k := 4) comC_len HCS.out.1 hkm
            cases hA9
            have HMX := Lib.hid (List.mem_of_getElem? hg9)
            have HCX := Lib.hid hcell9
            obtain ⟨C, hC⟩ : ∃ C, confB a x = C := ⟨_, rfl⟩
            have HCF : Hid (confAt s i k = C) := Lib.hid (by rw [confAt_is HGA.out hg9, hC])
            have HE : Hid (∀ W : World, Below w1.heap.size w1 W → W.cell? ⟨b, o + i * 4, none⟩ = some (.int .i64 a.unit) ∧ W.cell? ⟨b, o + i * 4 + 1, none⟩ = some (.int .i64 a.num) ∧ W.cell? ⟨b, o + i * 4 + 2, none⟩ = some (.slice a.rA a.rn a.rc) ∧ W.cell? ⟨b, o + i * 4 + 3, none⟩ = some (.slice a.cA a.cn a.cc) ∧ W.cell? ⟨b, o + k * 4, none⟩ = some (.int .i64 x.unit) ∧ W.cell? ⟨b, o + k * 4 + 1, none⟩ = some (.int .i64 x.num) ∧ W.cell? ⟨b, o + k * 4 + 2, none⟩ = some (.slice x.rA x.rn x.rc) ∧ W.cell? ⟨b, o + k * 4 + 3, none⟩ = some (.slice x.cA x.cn x.cc)) := Lib.hid fun W hW => ⟨(hW.cell (p := ⟨b, o + i * 4, none⟩) HBL.out).trans (HCA.out 0 _ rfl), (hW.cell (p := ⟨b, o + i * 4 + 1, none⟩) HBL.out).trans (HCA.out 1 _ rfl), (hW.cell (p := ⟨b, o + i * 4 + 2, none⟩) HBL.out).trans (HCA.out 2 _ rfl), (hW.cell (p := ⟨b, o + i * 4 + 3, none⟩) HBL.out).trans (HCA.out 3 _ rfl), (hW.cell (p := ⟨b, o + k * 4, none⟩) HBL.out).trans (HCX.out 0 _ rfl), (hW.cell (p := ⟨b, o + k * 4 + 1, none⟩) HBL.out).trans (HCX.out 1 _ rfl), (hW.cell (p := ⟨b, o + k * 4 + 2, none⟩) HBL.out).trans (HCX.out 2 _ rfl), (hW.cell (p := ⟨b, o + k * 4 + 3, none⟩) HBL.out).trans (HCX.out 3 _ rfl)⟩
            have HCO : Hid (∀ W : World, Below w1.heap.size w1 W → Calls Tryz.prog 32 #[.agg #[.int .i64 a.unit, .int .i64 a.num, .slice a.rA a.rn a.rc, .slice a.cA a.cn a.cc], .agg #[.int .i64 x.unit, .int .i64 x.num, .slice x.rA x.rn x.rc, .slice x.cA x.cn x.cc]] W fun e w' => e = .returned (.bool C) ∧ Below W.heap.size W w') := Lib.hid fun W hW => by rw [← hC]; exact rconflict_any a x W ((HCS.out.2 a HMA.out).after hW hW.size) ((HCS.out.2 x HMX.out).after hW hW.size) (HM.out a HMA.out) (HM.out x HMX.out)
            have i1 : (0 : Int) ≤ (i : Int) := by omega
            have i2 : (i : Int) < (m : Int) := by omega
            have k1 : (0 : Int) ≤ (k : Int) := by omega
            have k2 : (k : Int) < (m : Int) := by omega
            clear hC hb9 hg9 hcell9
            go_wp2_with fail
            go_region_held3 (fun w' => w'.cell? ⟨b, o + i * 4, none⟩ = some (.int .i64 a.unit) ∧ w'.cell? ⟨b, o + i * 4 + 1, none⟩ = some (.int .i64 a.num) ∧ w'.cell? ⟨b, o + i * 4 + 2, none⟩ = some (.slice a.rA a.rn a.rc) ∧ w'.cell? ⟨b, o + i * 4 + 3, none⟩ = some (.slice a.cA a.cn a.cc) ∧ w'.cell? ⟨b, o + k * 4, none⟩ = some (.int .i64 x.unit) ∧ w'.cell? ⟨b, o + k * 4 + 1, none⟩ = some (.int .i64 x.num) ∧ w'.cell? ⟨b, o + k * 4 + 2, none⟩ = some (.slice x.rA x.rn x.rc) ∧ w'.cell? ⟨b, o + k * 4 + 3, none⟩ = some (.slice x.cA x.cn x.cc)) (first | exact HE.out _ HBW.out.drew | exact HE.out _ HBW.out | exact HE.out _ HX.out) (first | (go_at_call 32; refine (HCO.out _ (by first | exact HBW.out.drew | exact HBW.out)).mono ?_; rintro e w9 ⟨rfl, hb9⟩; have HX0 : Hid (Below wr.heap.size wr w9) := Lib.hid (by first | exact (Below.refl wr.heap.size wr).drew.trans hb9 | exact hb9); have HX : Hid (Below w1.heap.size w1 w9) := Lib.hid (below_next HBW.out HX0.out HBW.out.size); clear hb9))
            cases C with
            | true =>
              have HRL : Hid (confL s i ++ rowL s i (k + 1) = (confL s i ++ rowL s i k) ++ [(i, k)]) := Lib.hid (by rw [rowL_yes hik HCF.out, List.append_assoc])
              have HOY := Lib.hid (own_below HOX.out HX0.out)
              go_wp2_with (at_builtin; go_must (refine wpList_app _ rfl _ _ 29 rfl w1.heap.size 31 i0 _ 2 16 Tryz.underlying29 hi0 hz0 hz1 hz2 rfl (by decide) _ _ _ rfl (HOY.out.alloc _) _ _ 1 1 [.int .i64 i, .int .i64 k] rfl (rd_newz _ _ [.int .i64 i, .int .i64 k] 31 1 2 rfl ?c5) ?c1 ?c2 ?c3 ?c4 ?_))
              case c5 => simp
              case c1 => intro u hu; simp at hu; rcases hu with rfl | rfl <;> rfl
              case c2 => have := HLE.out; simp only [maxLen]; omega
              case c3 => have := HLE.out; omega
              case c4 => have := HX.out.size; simp; omega
              intro v4 w4 ho4 hg4 _
              have B4 := Lib.hid ((HX.out.alloc HX.out.size _).grown hg4 (Nat.le_trans HX.out.size (alloc_le _ _)) (own_row HOX.out (Nat.le_refl _)))
              have HO4 : Hid (w4.ownsRow w1.heap.size 31 2 v4 ((confL s i ++ rowL s i (k + 1)).length) (flat pC (confL s i ++ rowL s i (k + 1)))) := Lib.hid (by rw [HRL.out, flat_app, flat_one, List.length_append, List.length_append]; exact ho4)
              clear ho4 hg4
              go_wp2
              go_roundw
              case rel => exact ⟨k + 1, by omega, by omega, by go_num, HO4.out, B4.out⟩
              case measure => simp [intOf]; omega
            | false =>
              have HRL : Hid (confL s i ++ rowL s i (k + 1) = confL s i ++ rowL s i k) := Lib.hid (by rw [rowL_no HCF.out])
              have HO4 : Hid (w9.ownsRow w1.heap.size 31 2 u5 ((confL s i ++ rowL s i (k + 1)).length) (flat pC (confL s i ++ rowL s i (k + 1)))) := Lib.hid (by rw [HRL.out]; exact own_below HOX.out HX0.out)
              go_wp2
              go_roundw
              case rel => exact ⟨k + 1, by omega, by omega, by go_num, HO4.out, HX.out⟩
              case measure => simp [intOf]; omega
          · have hkm' : k = m := by omega
            have HC : Hid (confL s i ++ rowL s i k = confL s (i + 1)) := Lib.hid (by rw [confL_succ, HMM.out, hkm'])
            rw [HC.out] at HOX
            clear hkm'
            go_wp2_with fail
            go_roundw
            case rel => exact ⟨i + 1, hlt, by go_num, HOX.out, HBW.out⟩
            case measure => simp [intOf]; omega
      · have hin : i = m := by omega
        subst hin
        obtain ⟨A5, c5, hv5, _, _⟩ := own_form HOW.out
        subst hv5
        have HSL := Lib.hid (Sl.of_own (f := pC) (k := 2) pC_len (by decide) HOW.out)
        go_wp2
        go_ret
        exact ⟨A5, c5, rfl, HSL.out, below_next HB1.out HB.out HB1.out.size⟩
end Go.Proofs.YtoiocnpamplhdaaGreatDoor
namespace Go.Proofs.YtoiocnpamplhdaaGreatDoor
open Go.RowKit

theorem neq_same (W : World) (a b : Int) : (binOp .neq 31 (.agg #[.int .i64 a, .int .i64 b]) (.agg #[.int .i64 a, .int .i64 b])).run Tryz.prog W = .ok (.bool false) W := by
  obtain ⟨i, hi, _, _, _⟩ := info_parts (show (Tryz.prog.info? 3).map (fun i => (i.zero, i.size, i.bytes)) = some (some (.int .i64 0), 1, 8) from by kernel_rfl)
  have h : (Op.equalIn (9999 + 1) 31 (.agg #[.int .i64 a, .int .i64 b]) (.agg #[.int .i64 a, .int .i64 b])).run Tryz.prog W = .ok true W := by
    rw [run_equalIn_array W 9999 _ _ Tryz.underlying31 hi, show Tryz.prog.cellsOf 3 = 1 from by kernel_rfl, show List.range 2 = [0, 1] from rfl]
    have p0 : (part 3 #[.int .i64 a, .int .i64 b] 0).run Tryz.prog W = .ok (.int .i64 a) W := by kernel_rfl
    have p1 : (part 3 #[.int .i64 a, .int .i64 b] 1).run Tryz.prog W = .ok (.int .i64 b) W := by kernel_rfl
    have q0 := run_equalIn_int (P := Tryz.prog) W 9998 3 .i64 .i64 a a Tryz.underlying3
    have q1 := run_equalIn_int (P := Tryz.prog) W 9998 3 .i64 .i64 b b Tryz.underlying3
    simp [Op.eqItems, p0, p1, q0, q1]
  rw [run_neq_struct, show (10000 : Nat) = 9999 + 1 from rfl, h]
  rfl
theorem fewB_sm {n : Nat} {l : List Com} (h : fewB n l = true) : ∀ x ∈ l, Sm x := by
  intro x hx
  unfold fewB at h
  simp only [Bool.and_eq_true, decide_eq_true_eq, Bool.not_eq_true', List.any_eq_false] at h
  have hc : fewC x = true := by simpa using h.2 x hx
  unfold fewC few47 at hc
  simp only [Bool.and_eq_true, decide_eq_true_eq] at hc
  exact ⟨Nat.le_trans hc.1.1.1 (by decide), Nat.le_trans hc.1.2 (by decide)⟩
theorem ordS_small (l : List Com) (n : Nat) (hl : l.length = n) (hn : n ≤ 12) : (confL (ordS l) (ordS l).length).length ≤ 144 := by
  have h1 := confL_len (ordS l) (ordS l).length
  have h2 := ordS_len l
  have h3 : (ordS l).length ≤ 12 := by omega
  exact Nat.le_trans h1 (Nat.mul_le_mul h3 h3)

set_option maxRecDepth 100000 in
set_option maxHeartbeats 1000000 in
theorem conflicts_law (A : Option Addr) (n c : Nat) (l : List Com) (w : World) (hs : Cs w w.heap.size A n c l) :
    Calls Tryz.prog 4 #[.slice A n c] w fun e w' => e = .returned (.bool true) ∧ Below w.heap.size w w' := by
  have HF := Lib.hid (few_any A n c l w hs)
  have HS := Lib.hid hs
  have HL := Lib.hid hs.1.len
  clear hs
  cases hf : fewB n l with
  | false =>
    rw [hf] at HF
    clear hf
    go_enter Tryz.func4, Tryz.ntmps4
    go_wp2_with (first | (go_at_call 5; refine HF.out.mono ?_; rintro e w1 ⟨rfl, hb1⟩; have X1 := Lib.hid hb1; clear hb1) | (go_at_call 6; refine (awake_any _).mono ?_; rintro e w2 ⟨rfl, hb2⟩; have X2 := Lib.hid (below_next X1.out hb2 X1.out.size); clear hb2))
    go_ret
    exact ⟨rfl, X2.out⟩
  | true =>
    rw [hf] at HF
    obtain ⟨hn, hv1, hv2⟩ := fewB_facts hf
    have HC := Lib.hid fun W hW => hconf_any A n c l W hW hv1 hn (fewB_sm hf)
    have HR := Lib.hid fun W hW => rconf_any A n c l W hW hv2 hn (fewB_sm hf)
    have HSM := Lib.hid (ordS_small l n HL.out hn)
    clear hf hv1 hv2 hn
    obtain ⟨p, hp⟩ : ∃ p, confL (ordS l) (ordS l).length = p := ⟨_, rfl⟩
    rw [hp] at HC HR HSM
    clear hp
    obtain ⟨q, hq⟩ : ∃ q, p.length = q := ⟨_, rfl⟩
    have HQ := Lib.hid hq
    have hq144 : q ≤ 144 := by rw [← hq]; exact HSM.out
    have HC2 : Hid (∀ W : World, Cs W W.heap.size A n c l → Calls Tryz.prog 10 #[.slice A n c] W fun e w' => ∃ A c, e = .returned (.slice A q c) ∧ Sl pC 2 w' w'.heap.size A q c p ∧ Below W.heap.size W w') := Lib.hid fun W hW => by have := HC.out W hW; unfold GivesP at this; rw [hq] at this; exact this
    have HR2 : Hid (∀ W : World, Cs W W.heap.size A n c l → Calls Tryz.prog 11 #[.slice A n c] W fun e w' => ∃ A c, e = .returned (.slice A q c) ∧ Sl pC 2 w' w'.heap.size A q c p ∧ Below W.heap.size W w') := Lib.hid fun W hW => by have := HR.out W hW; unfold GivesP at this; rw [hq] at this; exact this
    clear hq HC HR HSM
    go_enter Tryz.func4, Tryz.ntmps4
    go_wp2_with (first | (go_at_call 5; refine HF.out.mono ?_; rintro e w1 ⟨rfl, hb1⟩; have X1 := Lib.hid hb1; clear hb1) | (go_at_call 10; refine (HC2.out _ (HS.out.after X1.out X1.out.size)).mono ?_; rintro e w2 ⟨A1, c1, rfl, hs1, hb2⟩; have S1 := Lib.hid hs1; have X2 := Lib.hid (below_next X1.out hb2 X1.out.size); clear hs1 hb2) | (go_at_call 11; refine (HR2.out _ (HS.out.after X2.out X2.out.size)).mono ?_; rintro e w3 ⟨A2, c2, rfl, hs2, hb3⟩; have S2 := Lib.hid hs2; have S3 := Lib.hid (S1.out.after hb3 hb3.size); have X3 := Lib.hid (below_next X2.out hb3 X2.out.size); clear hs2 hb3))
    go_loopw [21] (fun v wr => ∃ i : Nat, i ≤ q ∧ v = .int .i64 i ∧ Below w3.heap.size w3 wr) (fun v _ => q - (intOf v).toNat)
    case atStart => exact ⟨0, Nat.zero_le _, rfl, Below.refl _ _⟩
    case round =>
      obtain ⟨i, hi, rfl, hbel⟩ := hrel
      have HB := Lib.hid hbel
      clear hbel
      by_cases hlt : i < q
      · obtain ⟨b, o, x, rfl, hb, hg, hcell⟩ := Sl.cell (f := pC) (k := 2) pC_len S3.out hlt
        obtain ⟨b2, o2, x2, rfl, hb2, hg2, hcell2⟩ := Sl.cell (f := pC) (k := 2) pC_len S2.out hlt
        rw [hg] at hg2
        cases hg2
        have c0 := (HB.out.cell (p := ⟨b, o + i * 2 + 0, none⟩) hb).trans (hcell 0 _ rfl)
        have c1 := (HB.out.cell (p := ⟨b, o + i * 2 + 1, none⟩) hb).trans (hcell 1 _ rfl)
        have d0 := (HB.out.cell (p := ⟨b2, o2 + i * 2 + 0, none⟩) hb2).trans (hcell2 0 _ rfl)
        have d1 := (HB.out.cell (p := ⟨b2, o2 + i * 2 + 1, none⟩) hb2).trans (hcell2 1 _ rfl)
        simp only [Nat.add_zero] at c0 d0
        have i1 : (0 : Int) ≤ (i : Int) := by omega
        have i2 : (i : Int) < (q : Int) := by omega
        have nq := fun W => neq_same W x.1 x.2
        clear hb hg hcell hb2 hcell2
        go_wp2_with fail
        go_quiet (fail)
        go_wp2
        go_roundw
        case rel => exact ⟨i + 1, by omega, by go_num, below_drewN HB.out _⟩
        case measure => simp [intOf]; omega
      · go_wp2_with (go_at_call 6; refine (awake_any _).mono ?_; rintro e w4 ⟨rfl, hb4⟩; have X4 := Lib.hid (below_next (below_next X3.out HB.out X3.out.size) hb4 (Nat.le_trans X3.out.size HB.out.size)); clear hb4)
        go_ret
        exact ⟨rfl, X4.out⟩
end Go.Proofs.YtoiocnpamplhdaaGreatDoor
