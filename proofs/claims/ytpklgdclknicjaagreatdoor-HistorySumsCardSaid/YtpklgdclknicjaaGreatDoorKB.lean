/- History: what the changes of a unit touch. Printed by wip/history/gen_kb.py. -/
import Derived.Test.YtpklgdclknicjaaGreatDoorKA
namespace Go.Proofs.YtpklgdclknicjaaGreatDoor
open Go.RowKit

structure Tch where
  id : Int
  r : Rg
def tchC (t : Tch) : List Value := [.int .i64 t.id, .string t.r.lo, .string t.r.hi, .bool t.r.en]
theorem tchC_len (t : Tch) : (tchC t).length = 4 := rfl
theorem tchC_one (l : List Tch) : ∀ u ∈ flat tchC l, u.oneCell' = true := by
  intro u hu
  obtain ⟨c, _, h⟩ := List.mem_flatMap.1 hu
  simp [tchC] at h
  rcases h with rfl | rfl | rfl | rfl <;> rfl
theorem rd_newz (W : World) (k : Nat) (cs : List Value) (t : TypeId) (n size : Nat) (h : cs.length = n * size) (hz : W.heap.size = k) : Rd (W.alloc (.cells cs.toArray t)) (k + 1) size (some ⟨k, 0, none⟩) n cs := by
  subst hz
  exact rd_new W cs t n size h
def chT (c : Chg) : Tch := ⟨c.id, if c.kind = 0 ∨ c.kind = 1 then pointR c.key else fromR ⟨#[]⟩⟩
theorem infoTch : (Tryz.prog.info? 111).map (fun i => (i.zero, i.size, i.bytes)) = some (some (.agg #[.int .i64 0, .string ⟨#[]⟩, .string ⟨#[]⟩, .bool false]), 4, 48) := by kernel_rfl
theorem map_take_succ {α β : Type} (f : α → β) {l : List α} {j : Nat} {x : α} (h : l[j]? = some x) : (l.map f).take (j + 1) = (l.map f).take j ++ [f x] := by
  rw [List.take_add_one, List.getElem?_map, h]; rfl
/-- the call returns a slice that reads as these touches -/
def GivesT (w : World) (n : Nat) (l : List Tch) (e : Ending) (w' : World) : Prop := ∃ A c, e = .returned (.slice A n c) ∧ Sl tchC 4 w' w'.heap.size A n c l ∧ Below w.heap.size w w'

set_option maxRecDepth 100000 in
set_option maxHeartbeats 2000000 in
theorem changed_any (x : Com) (w : World) (hok : ComOk w w.heap.size x) (hn : x.cn ≤ 1000) :
    Calls Tryz.prog 31 #[.agg #[.int .i64 x.unit, .int .i64 x.num, .slice x.rA x.rn x.rc, .slice x.cA x.cn x.cc]] w (GivesT w x.cn (x.cs.map chT)) := by
  have HS := Lib.hid hok.2.1
  have HL := Lib.hid hok.2.1.len
  obtain ⟨i0, hi0, hz0, hz1, hz2⟩ := info_parts infoTch
  have HFR : Hid (∀ W : World, Calls Tryz.prog 54 #[.string ⟨#[]⟩] W fun e w' => e = .returned (.agg #[.string ⟨#[]⟩, .string ⟨#[]⟩, .bool true]) ∧ Below W.heap.size W w') := Lib.hid fun W => from_any ⟨#[]⟩ W
  clear hok
  go_enter Tryz.func31, Tryz.ntmps31
  have hfX := bx_cell (bx_start w #[.int .i64 x.unit, .int .i64 x.num, .slice x.rA x.rn x.rc, .slice x.cA x.cn x.cc] 47) 3
  clear hfX
  go_wp2
  go_loopw [3, 10] (fun v3 i wr => ∃ j : Nat, j ≤ x.cn ∧ i = .int .i64 j ∧ wr.ownsRow (w.heap.size + 1) 111 4 v3 j (flat tchC ((x.cs.map chT).take j)) ∧ Below (w.heap.size + 1) (w.alloc (.cells #[.int .i64 x.unit, .int .i64 x.num, .slice x.rA x.rn x.rc, .slice x.cA x.cn x.cc] 47)) wr) (fun _ i _ => x.cn - (intOf i).toNat)
  case atStart => exact ⟨0, Nat.zero_le _, rfl, ⟨rfl, .inl ⟨rfl, rfl⟩⟩, Below.refl _ _⟩
  case round =>
    obtain ⟨j, hj, rfl, hown, hbel⟩ := hrel
    have HOW := Lib.hid hown
    have HB := Lib.hid hbel
    have hsz := bx_size hbel
    clear hown hbel
    by_cases hlt : j < x.cn
    · obtain ⟨b, o, y, hA, hb, hg, hcell⟩ := Sl.cell (f := chC) (k := 5) chC_len (HS.out.after (bx_below HB.out) (Nat.le_of_succ_le hsz)) hlt
      have HG := Lib.hid hg
      have HCA := Lib.hid hcell
      have HBL := Lib.hid hb
      have HMT : Hid (flat tchC ((x.cs.map chT).take (j + 1)) = flat tchC ((x.cs.map chT).take j) ++ tchC (chT y)) := Lib.hid (by rw [map_take_succ chT HG.out, flat_app, flat_one])
      have HAE := Lib.hid hA
      rw [hA]
      have c0 := hcell 0 _ rfl; have c1 := hcell 1 _ rfl; have c2 := hcell 2 _ rfl; have c3 := hcell 3 _ rfl; have c4 := hcell 4 _ rfl
      simp only [Nat.add_zero] at c0
      clear hg hcell hb hA
      by_cases hk : y.kind = 0 ∨ y.kind = 1
      · have HCT : Hid (chT y = ⟨y.id, ⟨y.key, y.key, false⟩⟩) := Lib.hid (by unfold chT; rw [if_pos hk]; rfl)
        have HPT : Hid (∀ W : World, Calls Tryz.prog 55 #[.string y.key] W fun e w' => e = .returned (.agg #[.string y.key, .string y.key, .bool false]) ∧ Below W.heap.size W w') := Lib.hid fun W => point_any y.key W
        obtain ⟨K1, hK⟩ : ∃ K1 : Int, y.kind = K1 := ⟨_, rfl⟩
        rw [hK] at hk c0
        have HK := Lib.hid hK
        clear hK
        rcases hk with rfl | rfl
        all_goals
          go_wp2_with fail
          refine (HFR.out _).mono ?_
          rintro e w2 ⟨rfl, hb2⟩
          have kA := (Blk.new wr 43 #[.int .i64 _, .int .i64 y.id, .string y.key, .string y.rcd, .string y.vol]).below hb2 (by simp)
          have a0 := kA.cell 0
          have a1 := kA.cell 1
          have a2 := kA.cell 2
          simp at a0 a1 a2
          have l1 := kA.lt
          have B2 := Lib.hid (below_next ((Below.refl wr.heap.size wr).alloc (Nat.le_refl _) _) hb2 (by simp))
          clear hb2
          go_wp2_with fail
          refine (HPT.out _).mono ?_
          rintro e w3 ⟨rfl, hb3⟩
          have kA3 := (kA.alloc (.cells #[.string ⟨#[]⟩, .string ⟨#[]⟩, .bool true] 109)).below hb3 (by simp; omega)
          have kR := (Blk.new w2 109 #[.string ⟨#[]⟩, .string ⟨#[]⟩, .bool true]).below hb3 (by simp)
          have a3 := kA3.cell 1
          have r0 := kR.cell 0
          have r1 := kR.cell 1
          have r2 := kR.cell 2
          have f0 := kR.free 0
          have f1 := kR.free 1
          have f2 := kR.free 2
          simp at a3 r0 r1 r2
          have l2 := kR.lt
          have l3 : wr.heap.size ≠ w2.heap.size := by omega
          have l4 : ¬ wr.heap.size = w2.heap.size := l3
          have B3 := Lib.hid (below_next (B2.out.alloc B2.out.size _) hb3 (Nat.le_trans B2.out.size (alloc_le _ _)))
          have B9 := Lib.hid (((B3.out.setCell (p := ⟨w2.heap.size, 0, none⟩) B2.out.size (.string y.key)).setCell (p := ⟨w2.heap.size, 1, none⟩) B2.out.size (.string y.key)).setCell (p := ⟨w2.heap.size, 2, none⟩) B2.out.size (.bool false))
          clear kA kA3 kR hb3
          go_wp2_with (at_builtin; go_must (refine wpList_app _ rfl _ _ 85 rfl (w.heap.size + 1) 111 i0 _ 4 48 Tryz.underlying85 hi0 hz0 hz1 hz2 rfl (by decide) _ j _ rfl ((own_below HOW.out B9.out).alloc _) _ _ 1 1 [.int .i64 y.id, .string y.key, .string y.key, .bool false] rfl (rd_newz _ _ [.int .i64 y.id, .string y.key, .string y.key, .bool false] 111 1 4 rfl ?c5) ?c1 ?c2 ?c3 ?c4 ?_))
          case c5 => simp
          case c1 => intro u hu; simp at hu; rcases hu with rfl | rfl | rfl | rfl <;> rfl
          case c2 => simp only [maxLen]; omega
          case c3 => omega
          case c4 => simp; omega
          intro v4 w4 ho4 hg4 _
          have B4 := Lib.hid (((HB.out.trans (B9.out.mono hsz)).alloc (Nat.le_trans hsz B9.out.size) _).grown hg4 (Nat.le_trans (Nat.le_trans hsz B9.out.size) (alloc_le _ _)) (own_row HOW.out (Nat.le_refl _)))
          have HO4 : Hid (w4.ownsRow (w.heap.size + 1) 111 4 v4 (j + 1) (flat tchC ((x.cs.map chT).take (j + 1)))) := Lib.hid (by rw [HMT.out, HCT.out]; exact ho4)
          clear ho4 hg4
          go_wp2
          go_roundw
          case rel => exact ⟨j + 1, by omega, by go_num, HO4.out, by have h := B4.out; rw [HAE.out] at h; exact h⟩
          case measure => simp [intOf]; omega
      · have d0 : (y.kind == 0) = false := by simp; omega
        have d1 : (y.kind == 1) = false := by simp; omega
        have HCT : Hid (chT y = ⟨y.id, ⟨⟨#[]⟩, ⟨#[]⟩, true⟩⟩) := Lib.hid (by unfold chT; rw [if_neg hk]; rfl)
        clear hk
        go_wp2_with fail
        refine (HFR.out _).mono ?_
        rintro e w2 ⟨rfl, hb2⟩
        have kA := (Blk.new wr 43 #[.int .i64 y.kind, .int .i64 y.id, .string y.key, .string y.rcd, .string y.vol]).below hb2 (by simp)
        have a0 := kA.cell 0; have a1 := kA.cell 1; have a2 := kA.cell 2
        simp at a0 a1 a2
        have l1 := kA.lt
        have B2 := Lib.hid (below_next ((Below.refl wr.heap.size wr).alloc (Nat.le_refl _) _) hb2 (by simp))
        clear kA hb2
        go_wp2_with (at_builtin; go_must (refine wpList_app _ rfl _ _ 85 rfl (w.heap.size + 1) 111 i0 _ 4 48 Tryz.underlying85 hi0 hz0 hz1 hz2 rfl (by decide) _ j _ rfl (((own_below HOW.out B2.out).alloc _).alloc _) _ _ 1 1 [.int .i64 y.id, .string ⟨#[]⟩, .string ⟨#[]⟩, .bool true] rfl (rd_newz _ _ [.int .i64 y.id, .string ⟨#[]⟩, .string ⟨#[]⟩, .bool true] 111 1 4 rfl ?c5) ?c1 ?c2 ?c3 ?c4 ?_))
        case c5 => simp
        case c1 => intro u hu; simp at hu; rcases hu with rfl | rfl | rfl | rfl <;> rfl
        case c2 => simp only [maxLen]; omega
        case c3 => omega
        case c4 => simp; omega
        intro v4 w4 ho4 hg4 _
        have B4 := Lib.hid ((((HB.out.trans (B2.out.mono hsz)).alloc (Nat.le_trans hsz B2.out.size) _).alloc (Nat.le_trans (Nat.le_trans hsz B2.out.size) (alloc_le _ _)) _).grown hg4 (Nat.le_trans (Nat.le_trans (Nat.le_trans hsz B2.out.size) (alloc_le _ _)) (alloc_le _ _)) (own_row HOW.out (Nat.le_refl _)))
        have HO4 : Hid (w4.ownsRow (w.heap.size + 1) 111 4 v4 (j + 1) (flat tchC ((x.cs.map chT).take (j + 1)))) := Lib.hid (by rw [HMT.out, HCT.out]; exact ho4)
        clear ho4 hg4
        go_wp2
        go_roundw
        case rel => exact ⟨j + 1, by omega, by go_num, HO4.out, by have h := B4.out; rw [HAE.out] at h; exact h⟩
        case measure => simp [intOf]; omega
    · have hjn : x.cn = j := by omega
      have htk : (x.cs.map chT).take j = x.cs.map chT := List.take_of_length_le (by rw [List.length_map, HL.out]; omega)
      rw [htk] at HOW
      obtain ⟨A5, c5, hv5, _, _⟩ := own_form HOW.out
      subst hv5
      have HSL := Lib.hid (Sl.of_own (f := tchC) (k := 4) tchC_len (by decide) HOW.out)
      have HJN := Lib.hid hjn
      clear htk hjn
      go_wp2
      go_ret
      exact ⟨A5, c5, by rw [HJN.out]; rfl, by rw [HJN.out]; exact HSL.out, bx_below HB.out⟩
end Go.Proofs.YtpklgdclknicjaaGreatDoor
