/- Split of the reference. -/
import Derived.Test.YtjfinkfikebjbaaRa
namespace Go.Proofs.Ytjfinkfikebjbaa
open Go.RowKit
attribute [local go_sem ↓] Go.wp_at_zero Go.wp_at_succ

theorem isnode_is' {lv nx : Int} {A : Option Addr} {n c : Nat} {es : List Ent} {w : World} {q : Bool} (hq : plainB lv nx es = q) (hs : Es w w.heap.size A n c es) (hn : n ≤ 9223372036854775807) :
    Calls Try.prog 14 #[.agg #[.int .i64 lv, .int .i64 nx, .slice A n c]] w fun e w' => e = .returned (.bool q) ∧ Below w.heap.size w w' := by
  rw [← hq]; exact isnode_any lv nx A n c es w hs hn

set_option maxRecDepth 100000 in
set_option maxHeartbeats 2000000 in
theorem rsplit_bad (lv nx : Int) (A : Option Addr) (n c : Nat) (es : List Ent) (w : World) (hs : Es w w.heap.size A n c es) (hp : plainB lv nx es = false) (hn : n ≤ 9223372036854775807) :
    Calls Try.prog 27 #[.agg #[.int .i64 lv, .int .i64 nx, .slice A n c]] w fun e w' => e = .returned (.tuple #[.agg #[.int .i64 0, .int .i64 0, .slice none 0 0], .agg #[.int .i64 0, .int .i64 0, .slice none 0 0], .string ⟨#[]⟩, .int .i64 1]) ∧ Below w.heap.size w w' := by
  have HS := Lib.hid hs
  have HP := Lib.hid hp
  clear hs hp
  go_enter Try.func27, Try.ntmps27
  go_wp2_with fail
  have b0 : Below w.heap.size w (((w.alloc (.cells #[.int .i64 lv, .int .i64 nx, .slice A n c] 25)).alloc (.cells #[.int .i64 0, .int .i64 0, .slice none 0 0] 25)).alloc (.cells #[.int .i64 0, .int .i64 0, .slice none 0 0] 25)) :=
    (((Below.refl _ _).alloc (Nat.le_refl _) _).alloc (by simp) _).alloc (by simp; omega) _
  have r0 : Blk (((w.alloc (.cells #[.int .i64 lv, .int .i64 nx, .slice A n c] 25)).alloc (.cells #[.int .i64 0, .int .i64 0, .slice none 0 0] 25)).alloc (.cells #[.int .i64 0, .int .i64 0, .slice none 0 0] 25)) w.heap.size 25 #[.int .i64 lv, .int .i64 nx, .slice A n c] := ((Blk.new _ _ _).alloc _).alloc _
  have r1 : Blk (((w.alloc (.cells #[.int .i64 lv, .int .i64 nx, .slice A n c] 25)).alloc (.cells #[.int .i64 0, .int .i64 0, .slice none 0 0] 25)).alloc (.cells #[.int .i64 0, .int .i64 0, .slice none 0 0] 25)) (w.heap.size + 1) 25 #[.int .i64 0, .int .i64 0, .slice none 0 0] := by
    have h := (Blk.new (w.alloc (.cells #[.int .i64 lv, .int .i64 nx, .slice A n c] 25)) 25 #[.int .i64 0, .int .i64 0, .slice none 0 0]).alloc (.cells #[.int .i64 0, .int .i64 0, .slice none 0 0] 25)
    simpa using h
  have r2 : Blk (((w.alloc (.cells #[.int .i64 lv, .int .i64 nx, .slice A n c] 25)).alloc (.cells #[.int .i64 0, .int .i64 0, .slice none 0 0] 25)).alloc (.cells #[.int .i64 0, .int .i64 0, .slice none 0 0] 25)) (w.heap.size + 1 + 1) 25 #[.int .i64 0, .int .i64 0, .slice none 0 0] := by
    have h := Blk.new ((w.alloc (.cells #[.int .i64 lv, .int .i64 nx, .slice A n c] 25)).alloc (.cells #[.int .i64 0, .int .i64 0, .slice none 0 0] 25)) 25 #[.int .i64 0, .int .i64 0, .slice none 0 0]
    simpa using h
  refine (isnode_is' HP.out (Es.after HS.out b0) (by omega)).mono ?_
  rintro e w1 ⟨rfl, hb1⟩
  have E1 := Lib.hid (below_next b0 hb1 b0.size)
  replace r0 := r0.below hb1 r0.lt
  replace r1 := r1.below hb1 r1.lt
  replace r2 := r2.below hb1 r2.lt
  clear hb1 b0
  have lt3 : w.heap.size + 1 < w1.heap.size := r1.lt
  have lt4 : w.heap.size + 1 + 1 < w1.heap.size := r2.lt
  have k2' := r0.cell 2
  have f1 := r1.free
  have m0 := r1.cell 0
  have m1 := r1.cell 1
  have m2 := r1.cell 2
  have f2 := r2.free
  have n0 := r2.cell 0
  have n1 := r2.cell 1
  have n2 := r2.cell 2
  simp at k2' m0 m1 m2 n0 n1 n2
  clear r0 r1 r2
  go_wp2_with fail
  refine bodyPost_ret (v := .tuple #[.agg #[.int .i64 0, .int .i64 0, .slice none 0 0], .agg #[.int .i64 0, .int .i64 0, .slice none 0 0], .string ⟨#[]⟩, .int .i64 1]) (by simp [results, Try.results27, go_sem, *]) rfl ?_
  exact ⟨rfl, ((((((E1.out.setCell (by simp) _).setCell (by simp) _).setCell (by simp) _).setCell (by simp; omega) _).setCell (by simp; omega) _).setCell (by simp; omega) _)⟩

set_option maxRecDepth 100000 in
set_option maxHeartbeats 2000000 in
theorem rsplit_one (lv nx : Int) (A : Option Addr) (c : Nat) (es : List Ent) (w : World) (hs : Es w w.heap.size A 1 c es) (hp : plainB lv nx es = true) :
    Calls Try.prog 27 #[.agg #[.int .i64 lv, .int .i64 nx, .slice A 1 c]] w fun e w' => e = .returned (.tuple #[.agg #[.int .i64 0, .int .i64 0, .slice none 0 0], .agg #[.int .i64 0, .int .i64 0, .slice none 0 0], .string ⟨#[]⟩, .int .i64 9]) ∧ Below w.heap.size w w' := by
  have HS := Lib.hid hs
  have HP := Lib.hid hp
  clear hs hp
  go_enter Try.func27, Try.ntmps27
  go_wp2_with fail
  have b0 : Below w.heap.size w (((w.alloc (.cells #[.int .i64 lv, .int .i64 nx, .slice A 1 c] 25)).alloc (.cells #[.int .i64 0, .int .i64 0, .slice none 0 0] 25)).alloc (.cells #[.int .i64 0, .int .i64 0, .slice none 0 0] 25)) :=
    (((Below.refl _ _).alloc (Nat.le_refl _) _).alloc (by simp) _).alloc (by simp; omega) _
  have r0 : Blk (((w.alloc (.cells #[.int .i64 lv, .int .i64 nx, .slice A 1 c] 25)).alloc (.cells #[.int .i64 0, .int .i64 0, .slice none 0 0] 25)).alloc (.cells #[.int .i64 0, .int .i64 0, .slice none 0 0] 25)) w.heap.size 25 #[.int .i64 lv, .int .i64 nx, .slice A 1 c] := ((Blk.new _ _ _).alloc _).alloc _
  have r1 : Blk (((w.alloc (.cells #[.int .i64 lv, .int .i64 nx, .slice A 1 c] 25)).alloc (.cells #[.int .i64 0, .int .i64 0, .slice none 0 0] 25)).alloc (.cells #[.int .i64 0, .int .i64 0, .slice none 0 0] 25)) (w.heap.size + 1) 25 #[.int .i64 0, .int .i64 0, .slice none 0 0] := by
    have h := (Blk.new (w.alloc (.cells #[.int .i64 lv, .int .i64 nx, .slice A 1 c] 25)) 25 #[.int .i64 0, .int .i64 0, .slice none 0 0]).alloc (.cells #[.int .i64 0, .int .i64 0, .slice none 0 0] 25)
    simpa using h
  have r2 : Blk (((w.alloc (.cells #[.int .i64 lv, .int .i64 nx, .slice A 1 c] 25)).alloc (.cells #[.int .i64 0, .int .i64 0, .slice none 0 0] 25)).alloc (.cells #[.int .i64 0, .int .i64 0, .slice none 0 0] 25)) (w.heap.size + 1 + 1) 25 #[.int .i64 0, .int .i64 0, .slice none 0 0] := by
    have h := Blk.new ((w.alloc (.cells #[.int .i64 lv, .int .i64 nx, .slice A 1 c] 25)).alloc (.cells #[.int .i64 0, .int .i64 0, .slice none 0 0] 25)) 25 #[.int .i64 0, .int .i64 0, .slice none 0 0]
    simpa using h
  refine (isnode_is' HP.out (Es.after HS.out b0) (by omega)).mono ?_
  rintro e w1 ⟨rfl, hb1⟩
  have E1 := Lib.hid (below_next b0 hb1 b0.size)
  replace r0 := r0.below hb1 r0.lt
  replace r1 := r1.below hb1 r1.lt
  replace r2 := r2.below hb1 r2.lt
  clear hb1 b0
  have lt3 : w.heap.size + 1 < w1.heap.size := r1.lt
  have lt4 : w.heap.size + 1 + 1 < w1.heap.size := r2.lt
  have k2' := r0.cell 2
  have f1 := r1.free
  have m0 := r1.cell 0
  have m1 := r1.cell 1
  have m2 := r1.cell 2
  have f2 := r2.free
  have n0 := r2.cell 0
  have n1 := r2.cell 1
  have n2 := r2.cell 2
  simp at k2' m0 m1 m2 n0 n1 n2
  clear r0 r1 r2
  go_wp2_with fail
  refine bodyPost_ret (v := .tuple #[.agg #[.int .i64 0, .int .i64 0, .slice none 0 0], .agg #[.int .i64 0, .int .i64 0, .slice none 0 0], .string ⟨#[]⟩, .int .i64 9]) (by simp [results, Try.results27, go_sem, *]) rfl ?_
  exact ⟨rfl, ((((((E1.out.setCell (by simp) _).setCell (by simp) _).setCell (by simp) _).setCell (by simp; omega) _).setCell (by simp; omega) _).setCell (by simp; omega) _)⟩

theorem take_set' {es : List Ent} {kk : Nat} {x : ByteArray} {p : Int} (hx : es[kk]? = some (x, p)) (y : Ent) : (es.take (kk + 1)).set kk y = es.take kk ++ [y] := by
  rw [← List.take_set]; exact set_take _ _ _ _ hx

theorem rsplit_end {lv nx : Int} {es : List Ent} {w W : World} {b1 b2 g g' n cap cap' kk : Nat} {x : ByteArray} {p : Int} (o1 : W.ownsRow b1 34 2 (.slice (some ⟨g, 0, none⟩) (kk + 1) cap) (kk + 1) (eCells (es.take kk ++ [(⟨#[]⟩, p)])))
    (o2 : W.ownsRow b2 34 2 (.slice (some ⟨g', 0, none⟩) (n - (kk + 1)) cap') (n - (kk + 1)) (eCells (es.drop (kk + 1)))) (hx : es[kk]? = some (x, p)) (hk : kk + 1 = halfN es) (hc : kk + 1 ≤ cap) (hc' : n - (kk + 1) ≤ cap') (hb : Below w.heap.size w W) :
    ∃ A1 c1 A2 c2, Ending.returned (.tuple #[.agg #[.int .i64 lv, .int .i64 0, .slice (some ⟨g, 0, none⟩) (kk + 1) cap], .agg #[.int .i64 lv, .int .i64 nx, .slice (some ⟨g', 0, none⟩) (n - (kk + 1)) cap'], .string x, .int .i64 0]) =
        .returned (.tuple #[.agg #[.int .i64 lv, .int .i64 0, .slice A1 (halfN es) c1], .agg #[.int .i64 lv, .int .i64 nx, .slice A2 (n - halfN es) c2], .string (boundE es), .int .i64 0]) ∧
      Es W W.heap.size A1 (halfN es) c1 (leftE es) ∧ Es W W.heap.size A2 (n - halfN es) c2 (rightE es) ∧ Below w.heap.size w W := by
  have hent : entAt es kk = (x, p) := entAt_get hx
  refine ⟨some ⟨g, 0, none⟩, cap, some ⟨g', 0, none⟩, cap', ?_, ⟨by omega, ?_⟩, ⟨by omega, ?_⟩, hb⟩
  · simp only [boundE, ← hk, Nat.add_sub_cancel, hent]
  · rw [leftE, ← hk, Nat.add_sub_cancel, hent]; exact Rd.of_own o1
  · rw [rightE, ← hk]; exact Rd.of_own o2

set_option maxRecDepth 100000 in
set_option maxHeartbeats 4000000 in
theorem rsplit_ok (lv nx : Int) (A : Option Addr) (n c : Nat) (es : List Ent) (w : World) (hs : Es w w.heap.size A n c es) (hp : plainB lv nx es = true) (h2 : 2 ≤ n) :
    Calls Try.prog 27 #[.agg #[.int .i64 lv, .int .i64 nx, .slice A n c]] w fun e w' => ∃ A1 c1 A2 c2, e = .returned (.tuple #[.agg #[.int .i64 lv, .int .i64 0, .slice A1 (halfN es) c1], .agg #[.int .i64 lv, .int .i64 nx, .slice A2 (n - halfN es) c2], .string (boundE es), .int .i64 0]) ∧
      Es w' w'.heap.size A1 (halfN es) c1 (leftE es) ∧ Es w' w'.heap.size A2 (n - halfN es) c2 (rightE es) ∧ Below w.heap.size w w' := by
  have HS := Lib.hid hs
  have HL := Lib.hid hs.len
  have hnc := hs.1
  have hle := (plain_len hp).2
  rw [HL.out] at hle
  have HP := Lib.hid hp
  obtain ⟨k, hk⟩ : ∃ k : Nat, k = halfN es := ⟨_, rfl⟩
  have hk1 : ((n : Int) + 1) / 2 = (k : Int) := by rw [hk]; unfold halfN; rw [HL.out]; omega
  have hk2 : 1 ≤ k ∧ k < n := by rw [hk]; unfold halfN; rw [HL.out]; omega
  obtain ⟨hk2, hk3⟩ := hk2
  obtain ⟨kk, rfl⟩ : ∃ kk, k = kk + 1 := ⟨k - 1, by omega⟩
  have HK := Lib.hid hk
  clear hs hp hk
  go_enter Try.func27, Try.ntmps27
  go_wp2_with fail
  have b0 : Below w.heap.size w (((w.alloc (.cells #[.int .i64 lv, .int .i64 nx, .slice A n c] 25)).alloc (.cells #[.int .i64 0, .int .i64 0, .slice none 0 0] 25)).alloc (.cells #[.int .i64 0, .int .i64 0, .slice none 0 0] 25)) :=
    (((Below.refl _ _).alloc (Nat.le_refl _) _).alloc (by simp) _).alloc (by simp; omega) _
  have r0 : Blk (((w.alloc (.cells #[.int .i64 lv, .int .i64 nx, .slice A n c] 25)).alloc (.cells #[.int .i64 0, .int .i64 0, .slice none 0 0] 25)).alloc (.cells #[.int .i64 0, .int .i64 0, .slice none 0 0] 25)) w.heap.size 25 #[.int .i64 lv, .int .i64 nx, .slice A n c] := ((Blk.new _ _ _).alloc _).alloc _
  have r1 : Blk (((w.alloc (.cells #[.int .i64 lv, .int .i64 nx, .slice A n c] 25)).alloc (.cells #[.int .i64 0, .int .i64 0, .slice none 0 0] 25)).alloc (.cells #[.int .i64 0, .int .i64 0, .slice none 0 0] 25)) (w.heap.size + 1) 25 #[.int .i64 0, .int .i64 0, .slice none 0 0] := by
    have h := (Blk.new (w.alloc (.cells #[.int .i64 lv, .int .i64 nx, .slice A n c] 25)) 25 #[.int .i64 0, .int .i64 0, .slice none 0 0]).alloc (.cells #[.int .i64 0, .int .i64 0, .slice none 0 0] 25)
    simpa using h
  have r2 : Blk (((w.alloc (.cells #[.int .i64 lv, .int .i64 nx, .slice A n c] 25)).alloc (.cells #[.int .i64 0, .int .i64 0, .slice none 0 0] 25)).alloc (.cells #[.int .i64 0, .int .i64 0, .slice none 0 0] 25)) (w.heap.size + 1 + 1) 25 #[.int .i64 0, .int .i64 0, .slice none 0 0] := by
    have h := Blk.new ((w.alloc (.cells #[.int .i64 lv, .int .i64 nx, .slice A n c] 25)).alloc (.cells #[.int .i64 0, .int .i64 0, .slice none 0 0] 25)) 25 #[.int .i64 0, .int .i64 0, .slice none 0 0]
    simpa using h
  refine (isnode_is' HP.out (Es.after HS.out b0) (by omega)).mono ?_
  rintro e w1 ⟨rfl, hb1⟩
  have e1 : Below w.heap.size w w1 := below_next b0 hb1 b0.size
  replace r0 := r0.below hb1 r0.lt
  replace r1 := r1.below hb1 r1.lt
  replace r2 := r2.below hb1 r2.lt
  have lt0 := r0.lt
  have lt2 := r2.lt
  clear hb1 b0
  have k2 := r0.cell 2
  simp at k2
  have hs1 := HS.out.after e1
  obtain ⟨b, o, x, p, rfl, hb, hx, _, _⟩ := hs1.cell (k := kk) (by omega)
  have HX := Lib.hid hx
  obtain ⟨i0, hi0, hz0, hz1, hz2⟩ := info_parts Try.info34
  have HR1 := Lib.hid ((hs1.2.take (k := kk + 1) (by omega)).alloc (Nat.le_refl _) (.cells #[] 34))
  rw [eCells_take] at HR1
  have HS1 := Lib.hid hs1
  have HO1 := Lib.hid (World.ownsRow_lit (e := 34) (base := w1.heap.size) (size := 2) w1 #[] 0 (Nat.le_refl _) (by decide) rfl)
  have H1 := Lib.hid (eCells_one (es.take (kk + 1)))
  have E1 := Lib.hid e1
  have R0 := Lib.hid r0
  have R1 := Lib.hid r1
  have R2 := Lib.hid r2
  clear e1 r0 r1 r2 hs1 hx
  go_wp2_with (at_builtin; go_must (refine wpList_app _ rfl _ _ 23 rfl w1.heap.size 34 i0 _ 2 24 Try.underlying23 hi0 hz0 hz1 hz2 rfl (by decide) _ _ _ rfl HO1.out w1.heap.size (some ⟨b, o, none⟩) (kk + 1) c (eCells (es.take (kk + 1))) rfl HR1.out H1.out ?c2 ?c3 ?c4 ?_))
  case c2 => simp [maxLen]; omega
  case c3 => omega
  case c4 => simp
  intro v2 w2 hown2 hgr2 _
  have ho2 : w2.ownsRow w1.heap.size 34 2 v2 (kk + 1) (eCells (es.take (kk + 1))) := by simpa using hown2
  have hb2 : Below w1.heap.size w1 w2 := ((Below.refl _ _).alloc (Nat.le_refl _) _).grown hgr2 (by simp) (by intro k hk; simp [Value.ownBlock] at hk; omega)
  obtain ⟨g, cap, rfl, hg1, hg2, hcap⟩ := own_at ho2 (by omega)
  have hx2 : (es.take (kk + 1))[kk]? = some (x, p) := by rw [List.getElem?_take, if_pos (by omega)]; exact HX.out
  have hcx : w2.cell? ⟨g, kk * 2, none⟩ = some (.string x) := (ho2.cellAt (kk * 2) (by omega)).trans (eCells_get _ kk _ hx2).1
  have hfx : w2.frozen? ⟨g, kk * 2, none⟩ = false := ho2.frozenAt _
  have hst := (ho2.stored (kk * 2) (.string ⟨#[]⟩)).1
  rw [eCells_set _ kk x ⟨#[]⟩ p hx2, take_set' HX.out] at hst
  have e2 := below_next E1.out hb2 E1.out.size
  have r0 := R0.out.below hb2 R0.out.lt
  have r1 := R1.out.below hb2 R1.out.lt
  have r2 := R2.out.below hb2 R2.out.lt
  have hne0 : g ≠ w.heap.size := by omega
  have hne1 : g ≠ w.heap.size + 1 := by omega
  have hne2 : g ≠ w.heap.size + 1 + 1 := by omega
  have s0 := r0.far (p := ⟨g, kk * 2, none⟩) (Ne.symm hne0) (.string ⟨#[]⟩)
  have s1 := r1.far (p := ⟨g, kk * 2, none⟩) (Ne.symm hne1) (.string ⟨#[]⟩)
  have s2 := r2.far (p := ⟨g, kk * 2, none⟩) (Ne.symm hne2) (.string ⟨#[]⟩)
  have e3 := e2.setCell (p := ⟨g, kk * 2, none⟩) (by show w.heap.size ≤ g; omega) (.string ⟨#[]⟩)
  have hrd := ((HS1.out.2.below hb2).setCell (p := ⟨g, kk * 2, none⟩) hg1 (.string ⟨#[]⟩)).drop (k := kk + 1) (cap := c) (by omega) hnc
  rw [if_neg (by omega), eCells_drop] at hrd
  have hrd' : Rd (w2.setCell ⟨g, kk * 2, none⟩ (.string ⟨#[]⟩)) w1.heap.size 2 (some ⟨b, o + (kk + 1) * 2, none⟩) (n - (kk + 1)) (eCells (es.drop (kk + 1))) := by simpa [Addr.add] using hrd
  have hsz : (w2.setCell ⟨g, kk * 2, none⟩ (.string ⟨#[]⟩)).heap.size = w2.heap.size := by simp [World.setCell]
  have HR2 := Lib.hid (hrd'.alloc (by rw [hsz]; exact hb2.size) (.cells #[] 34))
  have ho := World.ownsRow_lit (e := 34) (base := w2.heap.size) (size := 2) (w2.setCell ⟨g, kk * 2, none⟩ (.string ⟨#[]⟩)) #[] 0 (by rw [hsz]; exact Nat.le_refl _) (by decide) rfl
  rw [hsz] at ho
  have HO2 := Lib.hid ho
  clear ho
  have H2 := Lib.hid (eCells_one (es.drop (kk + 1)))
  have q0 := s0.cell 2
  have lt3 : w.heap.size < w2.heap.size := by have := hb2.size; omega
  simp at q0
  have HSZ := Lib.hid hsz
  have HST := Lib.hid hst
  have E3 := Lib.hid e3
  have S0 := Lib.hid s0
  have S1 := Lib.hid s1
  have S2 := Lib.hid s2
  have a2 := r0.cell 2
  simp at a2
  clear hown2 ho2 hx2 hst e2 e3 s0 s1 s2 r0 r1 r2 hrd hrd' hsz hgr2
  have HB2 := Lib.hid hb2
  clear hb2
  go_wp2_with (at_builtin; go_must (refine wpList_app _ rfl _ _ 23 rfl w2.heap.size 34 i0 _ 2 24 Try.underlying23 hi0 hz0 hz1 hz2 rfl (by decide) _ _ _ rfl HO2.out w1.heap.size (some ⟨b, o + (kk + 1) * 2, none⟩) (n - (kk + 1)) (c - (kk + 1)) (eCells (es.drop (kk + 1))) rfl HR2.out H2.out ?d2 ?d3 ?d4 ?_))
  case d2 => simp [maxLen]; omega
  case d3 => omega
  intro v4 w4 hown4 hgr4 _
  have ho4 : w4.ownsRow w2.heap.size 34 2 v4 (n - (kk + 1)) (eCells (es.drop (kk + 1))) := by simpa using hown4
  obtain ⟨g', cap', rfl, hg1', hg2', hcap'⟩ := own_at ho4 (by omega)
  have hrow : ∀ k, (Value.slice (some ⟨w2.heap.size, 0, none⟩) 0 0).ownBlock = some k → k = w2.heap.size := by intro k hk; simp [Value.ownBlock] at hk; omega
  have ho1 : w4.ownsRow w1.heap.size 34 2 (.slice (some ⟨g, 0, none⟩) (kk + 1) cap) (kk + 1) (eCells (es.take kk ++ [(⟨#[]⟩, p)])) :=
    (HST.out.alloc (.cells #[] 34)).kept hgr4 (.inr (by intro e; have := hrow g e.symm; omega))
  have gb : ∀ {k : Nat}, k < w2.heap.size → some k ≠ (Value.slice (some ⟨w2.heap.size, 0, none⟩) 0 0).ownBlock := by intro k hk e; have := hrow k e.symm; omega
  have t0 := (S0.out.alloc (.cells #[] 34)).grown hgr4 (gb lt3)
  have t1 := (S1.out.alloc (.cells #[] 34)).grown hgr4 (gb (by have := HB2.out.size; omega))
  have t2 := (S2.out.alloc (.cells #[] 34)).grown hgr4 (gb (by have := HB2.out.size; omega))
  have e4 := (E3.out.alloc (by rw [HSZ.out]; omega) (.cells #[] 34)).grown hgr4 (by simp; have := HSZ.out; omega) (by intro k hk; have := hrow k hk; omega)
  have lt5 : w.heap.size < w4.heap.size := t0.lt
  have p0 := t0.cell 0
  have p1 := t0.cell 1
  have f1 := t1.free
  have m0 := t1.cell 0
  have m1 := t1.cell 1
  have m2 := t1.cell 2
  have f2 := t2.free
  have n0 := t2.cell 0
  have n1 := t2.cell 1
  have n2 := t2.cell 2
  simp at p0 p1 m0 m1 m2 n0 n1 n2
  have T1 := Lib.hid ho1
  have T2 := Lib.hid ho4
  have E4 := Lib.hid e4
  have hn1' : g' ≠ w.heap.size + 1 := by have := HB2.out.size; omega
  have hn2' : g' ≠ w.heap.size + 1 + 1 := by have := HB2.out.size; omega
  clear hown4 hgr4 ho4 ho1 t0 t1 t2 e4 q0 a2 hcx hfx hrow
  go_wp2_with fail
  go_region
  all_goals
    go_wp2_with fail
    refine bodyPost_ret (v := .tuple #[.agg #[.int .i64 lv, .int .i64 0, .slice (some ⟨g, 0, none⟩) (kk + 1) cap], .agg #[.int .i64 lv, .int .i64 nx, .slice (some ⟨g', 0, none⟩) (n - (kk + 1)) cap'], .string x, .int .i64 0]) (by simp [results, Try.results27, go_sem, *]) rfl ?_
    have nb1 : ∀ i, (Value.slice (some ⟨g, 0, none⟩) (kk + 1) cap).ownBlock ≠ some (Addr.block ⟨w.heap.size + 1, i, none⟩) := by intro i; show some g ≠ _; simpa using hne1
    have nb2 : ∀ i, (Value.slice (some ⟨g, 0, none⟩) (kk + 1) cap).ownBlock ≠ some (Addr.block ⟨w.heap.size + 1 + 1, i, none⟩) := by intro i; show some g ≠ _; simpa using hne2
    have nb3 : ∀ i, (Value.slice (some ⟨g', 0, none⟩) (n - (kk + 1)) cap').ownBlock ≠ some (Addr.block ⟨w.heap.size + 1, i, none⟩) := by intro i; show some g' ≠ _; simpa using hn1'
    have nb4 : ∀ i, (Value.slice (some ⟨g', 0, none⟩) (n - (kk + 1)) cap').ownBlock ≠ some (Addr.block ⟨w.heap.size + 1 + 1, i, none⟩) := by intro i; show some g' ≠ _; simpa using hn2'
    exact rsplit_end ((ownsRow_setCell_other (ownsRow_setCell_other (ownsRow_setCell_other (ownsRow_setCell_other (ownsRow_setCell_other (ownsRow_setCell_other T1.out (nb1 _) _) (nb1 _) _) (nb1 _) _) (nb2 _) _) (nb2 _) _) (nb2 _) _).drew)
      ((ownsRow_setCell_other (ownsRow_setCell_other (ownsRow_setCell_other (ownsRow_setCell_other (ownsRow_setCell_other (ownsRow_setCell_other T2.out (nb3 _) _) (nb3 _) _) (nb3 _) _) (nb4 _) _) (nb4 _) _) (nb4 _) _).drew) HX.out HK.out hcap hcap'
      ((((((E4.out.setCell (by simp) _).setCell (by simp) _).setCell (by simp) _).setCell (by simp; omega) _).setCell (by simp; omega) _).setCell (by simp; omega) _).drew
end Go.Proofs.Ytjfinkfikebjbaa
