/- History: what the reads of a unit touch. Printed by wip/history/gen_kc.py. -/
import Derived.Test.YtpklgdclknicjaaGreatDoorKB
namespace Go.Proofs.YtpklgdclknicjaaGreatDoor
open Go.RowKit

def rdT (r : Rdd) : Tch := ⟨r.id, if r.kind = 0 then pointR r.key else if r.code ≠ 0 then fromR r.key else ⟨r.key, r.ak, false⟩⟩

set_option maxRecDepth 100000 in
set_option maxHeartbeats 2000000 in
theorem read_any (x : Com) (w : World) (hok : ComOk w w.heap.size x) (hn : x.rn ≤ 1000) :
    Calls Tryz.prog 32 #[.agg #[.int .i64 x.unit, .int .i64 x.num, .slice x.rA x.rn x.rc, .slice x.cA x.cn x.cc]] w (GivesT w x.rn (x.rs.map rdT)) := by
  have HS := Lib.hid hok.1
  have HL := Lib.hid hok.1.len
  obtain ⟨i0, hi0, hz0, hz1, hz2⟩ := info_parts infoTch
  clear hok
  go_enter Tryz.func32, Tryz.ntmps32
  go_wp2
  go_loopw [3, 10] (fun v3 i wr => ∃ j : Nat, j ≤ x.rn ∧ i = .int .i64 j ∧ wr.ownsRow (w.heap.size + 1) 111 4 v3 j (flat tchC ((x.rs.map rdT).take j)) ∧ Below (w.heap.size + 1) (w.alloc (.cells #[.int .i64 x.unit, .int .i64 x.num, .slice x.rA x.rn x.rc, .slice x.cA x.cn x.cc] 47)) wr) (fun _ i _ => x.rn - (intOf i).toNat)
  case atStart => exact ⟨0, Nat.zero_le _, rfl, ⟨rfl, .inl ⟨rfl, rfl⟩⟩, Below.refl _ _⟩
  case round =>
    obtain ⟨j, hj, rfl, hown, hbel⟩ := hrel
    have HOW := Lib.hid hown
    have HB := Lib.hid hbel
    have hsz := bx_size hbel
    clear hown hbel
    by_cases hlt : j < x.rn
    · obtain ⟨b, o, y, hA, hb, hg, hcell⟩ := Sl.cell (f := rdC) (k := 6) rdC_len (HS.out.after (bx_below HB.out) (Nat.le_of_succ_le hsz)) hlt
      have HG := Lib.hid hg
      have HMT : Hid (flat tchC ((x.rs.map rdT).take (j + 1)) = flat tchC ((x.rs.map rdT).take j) ++ tchC (rdT y)) := Lib.hid (by rw [map_take_succ rdT HG.out, flat_app, flat_one])
      have HAE := Lib.hid hA
      rw [hA]
      have c0 := hcell 0 _ rfl; have c1 := hcell 1 _ rfl; have c2 := hcell 2 _ rfl; have c3 := hcell 3 _ rfl; have c4 := hcell 4 _ rfl; have c5 := hcell 5 _ rfl
      simp only [Nat.add_zero] at c0
      clear hg hcell hb hA
      have HPT : Hid (∀ W : World, Calls Tryz.prog 55 #[.string y.key] W fun e w' => e = .returned (.agg #[.string y.key, .string y.key, .bool false]) ∧ Below W.heap.size W w') := Lib.hid fun W => point_any y.key W
      have HFR : Hid (∀ W : World, Calls Tryz.prog 54 #[.string y.key] W fun e w' => e = .returned (.agg #[.string y.key, .string ⟨#[]⟩, .bool true]) ∧ Below W.heap.size W w') := Lib.hid fun W => from_any y.key W
      obtain ⟨K1, hK⟩ : ∃ K1 : Int, y.kind = K1 := ⟨_, rfl⟩
      rw [hK] at c0
      by_cases hk : K1 = 0
      · have HCT : Hid (rdT y = ⟨y.id, ⟨y.key, y.key, false⟩⟩) := Lib.hid (by unfold rdT; rw [hK, if_pos hk]; rfl)
        have d0 : (K1 == 0) = true := by simpa using hk
        clear hk hK
        go_wp2_with fail
        refine (HPT.out _).mono ?_
        rintro e w3 ⟨rfl, hb3⟩
        have kA3 := ((Blk.new wr 49 #[.int .i64 K1, .int .i64 y.id, .string y.key, .string y.ak, .string y.ar, .int .i64 y.code]).alloc (.cells #[.string y.key, .string y.ak, .bool false] 109)).below hb3 (by simp; omega)
        have kR := (blk_at (wr.alloc (.cells #[.int .i64 K1, .int .i64 y.id, .string y.key, .string y.ak, .string y.ar, .int .i64 y.code] 49)) 109 #[.string y.key, .string y.ak, .bool false] (wr.heap.size + 1) (by simp)).below hb3 (by simp)
        have a3 := kA3.cell 1
        have a5 := kA3.cell 5
        have r0 := kR.cell 0
        have r1 := kR.cell 1
        have r2 := kR.cell 2
        have f0 := kR.free 0
        have f1 := kR.free 1
        have f2 := kR.free 2
        simp at a3 a5 r0 r1 r2
        have l2 := kR.lt
        have B3 := Lib.hid (below_next (((Below.refl wr.heap.size wr).alloc (Nat.le_refl _) (.cells #[.int .i64 K1, .int .i64 y.id, .string y.key, .string y.ak, .string y.ar, .int .i64 y.code] 49)).alloc (alloc_le _ _) (.cells #[.string y.key, .string y.ak, .bool false] 109)) hb3 (by simp; omega))
        have B9 := Lib.hid (((B3.out.setCell (p := ⟨wr.heap.size + 1, 0, none⟩) (Nat.le_succ _) (.string y.key)).setCell (p := ⟨wr.heap.size + 1, 1, none⟩) (Nat.le_succ _) (.string y.key)).setCell (p := ⟨wr.heap.size + 1, 2, none⟩) (Nat.le_succ _) (.bool false))
        clear kA3 kR hb3
        go_wp2_with (at_builtin; go_must (refine wpList_app _ rfl _ _ 85 rfl (w.heap.size + 1) 111 i0 _ 4 48 Tryz.underlying85 hi0 hz0 hz1 hz2 rfl (by decide) _ j _ rfl ((own_below HOW.out B9.out).alloc _) _ _ 1 1 [.int .i64 y.id, .string y.key, .string y.key, .bool false] rfl (rd_newz _ _ [.int .i64 y.id, .string y.key, .string y.key, .bool false] 111 1 4 rfl ?c5) ?c1 ?c2 ?c3 ?c4 ?_))
        case c5 => simp
        case c1 => intro u hu; simp at hu; rcases hu with rfl | rfl | rfl | rfl <;> rfl
        case c2 => simp only [maxLen]; omega
        case c3 => omega
        case c4 => simp; omega
        intro v4 w4 ho4 hg4 _
        have B4 := Lib.hid (((HB.out.trans (B9.out.mono hsz)).alloc (Nat.le_trans hsz B9.out.size) _).grown hg4 (Nat.le_trans (Nat.le_trans hsz B9.out.size) (alloc_le _ _)) (own_row HOW.out (Nat.le_refl _)))
        have HO4 : Hid (w4.ownsRow (w.heap.size + 1) 111 4 v4 (j + 1) (flat tchC ((x.rs.map rdT).take (j + 1)))) := Lib.hid (by rw [HMT.out, HCT.out]; exact ho4)
        clear ho4 hg4
        go_wp2
        go_roundw
        case rel => exact ⟨j + 1, by omega, by go_num, HO4.out, by have h := B4.out; rw [HAE.out] at h; exact h⟩
        case measure => simp [intOf]; omega
      · have d0 : (K1 == 0) = false := by simpa using hk
        by_cases hc : y.code = 0
        · have HCT : Hid (rdT y = ⟨y.id, ⟨y.key, y.ak, false⟩⟩) := Lib.hid (by unfold rdT; rw [hK, if_neg hk, if_neg (by simpa using hc)])
          have d1 : (y.code == 0) = true := by simpa using hc
          have d2 : (y.code != 0) = false := by simpa using hc
          have B9 := Lib.hid (((Below.refl wr.heap.size wr).alloc (Nat.le_refl _) (.cells #[.int .i64 K1, .int .i64 y.id, .string y.key, .string y.ak, .string y.ar, .int .i64 y.code] 49)).alloc (alloc_le _ _) (.cells #[.string y.key, .string y.ak, .bool false] 109))
          clear hk hK hc
          go_wp2_with (at_builtin; go_must (refine wpList_app _ rfl _ _ 85 rfl (w.heap.size + 1) 111 i0 _ 4 48 Tryz.underlying85 hi0 hz0 hz1 hz2 rfl (by decide) _ j _ rfl ((own_below HOW.out B9.out).alloc _) _ _ 1 1 [.int .i64 y.id, .string y.key, .string y.ak, .bool false] rfl (rd_newz _ _ [.int .i64 y.id, .string y.key, .string y.ak, .bool false] 111 1 4 rfl ?c5) ?c1 ?c2 ?c3 ?c4 ?_))
          case c5 => simp
          case c1 => intro u hu; simp at hu; rcases hu with rfl | rfl | rfl | rfl <;> rfl
          case c2 => simp only [maxLen]; omega
          case c3 => omega
          case c4 => simp; omega
          intro v4 w4 ho4 hg4 _
          have B4 := Lib.hid (((HB.out.trans (B9.out.mono hsz)).alloc (Nat.le_trans hsz B9.out.size) _).grown hg4 (Nat.le_trans (Nat.le_trans hsz B9.out.size) (alloc_le _ _)) (own_row HOW.out (Nat.le_refl _)))
          have HO4 : Hid (w4.ownsRow (w.heap.size + 1) 111 4 v4 (j + 1) (flat tchC ((x.rs.map rdT).take (j + 1)))) := Lib.hid (by rw [HMT.out, HCT.out]; exact ho4)
          clear ho4 hg4
          go_wp2
          go_roundw
          case rel => exact ⟨j + 1, by omega, by go_num, HO4.out, by have h := B4.out; rw [HAE.out] at h; exact h⟩
          case measure => simp [intOf]; omega
        · have HCT : Hid (rdT y = ⟨y.id, ⟨y.key, ⟨#[]⟩, true⟩⟩) := Lib.hid (by unfold rdT; rw [hK, if_neg hk, if_pos (by simpa using hc)]; rfl)
          have d1 : (y.code == 0) = false := by simpa using hc
          have d2 : (y.code != 0) = true := by simpa using hc
          clear hk hK hc
          go_wp2_with fail
          refine (HFR.out _).mono ?_
          rintro e w3 ⟨rfl, hb3⟩
          have kA3 := ((Blk.new wr 49 #[.int .i64 K1, .int .i64 y.id, .string y.key, .string y.ak, .string y.ar, .int .i64 y.code]).alloc (.cells #[.string y.key, .string y.ak, .bool false] 109)).below hb3 (by simp; omega)
          have kR := (blk_at (wr.alloc (.cells #[.int .i64 K1, .int .i64 y.id, .string y.key, .string y.ak, .string y.ar, .int .i64 y.code] 49)) 109 #[.string y.key, .string y.ak, .bool false] (wr.heap.size + 1) (by simp)).below hb3 (by simp)
          have a3 := kA3.cell 1
          have a5 := kA3.cell 5
          have r0 := kR.cell 0
          have r1 := kR.cell 1
          have r2 := kR.cell 2
          have f0 := kR.free 0
          have f1 := kR.free 1
          have f2 := kR.free 2
          simp at a3 a5 r0 r1 r2
          have l2 := kR.lt
          have B3 := Lib.hid (below_next (((Below.refl wr.heap.size wr).alloc (Nat.le_refl _) (.cells #[.int .i64 K1, .int .i64 y.id, .string y.key, .string y.ak, .string y.ar, .int .i64 y.code] 49)).alloc (alloc_le _ _) (.cells #[.string y.key, .string y.ak, .bool false] 109)) hb3 (by simp; omega))
          have B9 := Lib.hid (((B3.out.setCell (p := ⟨wr.heap.size + 1, 0, none⟩) (Nat.le_succ _) (.string y.key)).setCell (p := ⟨wr.heap.size + 1, 1, none⟩) (Nat.le_succ _) (.string ⟨#[]⟩)).setCell (p := ⟨wr.heap.size + 1, 2, none⟩) (Nat.le_succ _) (.bool true))
          clear kA3 kR hb3
          go_wp2_with (at_builtin; go_must (refine wpList_app _ rfl _ _ 85 rfl (w.heap.size + 1) 111 i0 _ 4 48 Tryz.underlying85 hi0 hz0 hz1 hz2 rfl (by decide) _ j _ rfl ((own_below HOW.out B9.out).alloc _) _ _ 1 1 [.int .i64 y.id, .string y.key, .string ⟨#[]⟩, .bool true] rfl (rd_newz _ _ [.int .i64 y.id, .string y.key, .string ⟨#[]⟩, .bool true] 111 1 4 rfl ?c5) ?c1 ?c2 ?c3 ?c4 ?_))
          case c5 => simp
          case c1 => intro u hu; simp at hu; rcases hu with rfl | rfl | rfl | rfl <;> rfl
          case c2 => simp only [maxLen]; omega
          case c3 => omega
          case c4 => simp; omega
          intro v4 w4 ho4 hg4 _
          have B4 := Lib.hid (((HB.out.trans (B9.out.mono hsz)).alloc (Nat.le_trans hsz B9.out.size) _).grown hg4 (Nat.le_trans (Nat.le_trans hsz B9.out.size) (alloc_le _ _)) (own_row HOW.out (Nat.le_refl _)))
          have HO4 : Hid (w4.ownsRow (w.heap.size + 1) 111 4 v4 (j + 1) (flat tchC ((x.rs.map rdT).take (j + 1)))) := Lib.hid (by rw [HMT.out, HCT.out]; exact ho4)
          clear ho4 hg4
          go_wp2
          go_roundw
          case rel => exact ⟨j + 1, by omega, by go_num, HO4.out, by have h := B4.out; rw [HAE.out] at h; exact h⟩
          case measure => simp [intOf]; omega
    · have hjn : x.rn = j := by omega
      have htk : (x.rs.map rdT).take j = x.rs.map rdT := List.take_of_length_le (by rw [List.length_map, HL.out]; omega)
      rw [htk] at HOW
      obtain ⟨A5, c5, hv5, _, _⟩ := own_form HOW.out
      subst hv5
      have HSL := Lib.hid (Sl.of_own (f := tchC) (k := 4) tchC_len (by decide) HOW.out)
      have HJN := Lib.hid hjn
      clear htk hjn
      go_wp2
      go_ret
      exact ⟨A5, c5, by rw [HJN.out]; rfl, by rw [HJN.out]; exact HSL.out, bx_below HB.out⟩
end Go.Proofs.YtpklgdclknicjaaGreatDoor
