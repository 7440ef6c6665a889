/- page; Split where it refuses. -/
import Derived.Test.YtjfinkfikebjbaaV
namespace Go.Proofs.Ytjfinkfikebjbaa
open Go.RowKit
attribute [local go_sem ↓] Go.wp_at_zero Go.wp_at_succ

set_option maxRecDepth 100000 in
set_option maxHeartbeats 2000000 in
theorem page_any (lv nx : Int) (A : Option Addr) (n c : Nat) (es : List Ent) (k : ByteArray) (w : World) (hs : Es w w.heap.size A n c es) (h1 : 1 ≤ n) (hn : n ≤ 200) :
    Calls Try.prog 24 #[.agg #[.int .i64 lv, .int .i64 nx, .slice A n c], .string k] w fun e w' => e = .returned (.int .i64 (pageI es k)) ∧ Below w.heap.size w w' := by
  have HS := Lib.hid hs
  have HL := Lib.hid hs.len
  clear hs
  go_enter Try.func24, Try.ntmps24
  go_wp2_with fail
  refine (find_any lv nx A n c es k _ (Es.after HS.out ((Below.refl _ _).alloc (Nat.le_refl _) _)) (by omega)).mono ?_
  rintro e w1 ⟨rfl, hb1⟩
  have x1 : Below (w.heap.size + 1) (w.alloc (.cells #[.int .i64 lv, .int .i64 nx, .slice A n c] 25)) w1 := by simpa using hb1
  have k1c := bx_cell x1 2
  have s1 : w.heap.size < w1.heap.size := bx_size x1
  have hs1 := Es.after HS.out (bx_below x1)
  have X1 := Lib.hid x1
  clear hb1 x1
  have hf := findI_N (es := es) k (by rw [HL.out]; exact h1)
  have hi := (isF_find (es := es) k (by rw [HL.out]; exact h1)).1
  rw [HL.out] at hi
  have HP := Lib.hid (show pageI es k = (entAt es (findN es k)).2 from rfl)
  rw [hf]
  clear hf
  generalize findN es k = i at hi HP ⊢
  obtain ⟨b, o, x, p, rfl, hb, hg, hc, hc2⟩ := hs1.cell hi
  have HG := Lib.hid (entAt_get hg)
  clear hg hs1 hc
  go_wp2
  go_ret
  exact ⟨by rw [HP.out, HG.out]; rfl, bx_below X1.out⟩

set_option maxRecDepth 100000 in
set_option maxHeartbeats 2000000 in
theorem split_bad (lv nx : Int) (A : Option Addr) (n c : Nat) (es : List Ent) (w : World) (hs : Es w w.heap.size A n c es) (hp : plainB lv nx es = false) (hn : n ≤ 9223372036854775807) :
    Calls Try.prog 23 #[.agg #[.int .i64 lv, .int .i64 nx, .slice A n c]] w fun e w' => e = .returned (.tuple #[.agg #[.int .i64 0, .int .i64 0, .slice none 0 0], .agg #[.int .i64 0, .int .i64 0, .slice none 0 0], .string ⟨#[]⟩, .int .i64 1]) ∧ Below w.heap.size w w' := by
  have HS := Lib.hid hs
  have HP := Lib.hid hp
  clear hs hp
  go_enter Try.func23, Try.ntmps23
  go_wp2_with fail
  have b0 : Below w.heap.size w (((w.alloc (.cells #[.int .i64 lv, .int .i64 nx, .slice A n c] 25)).alloc (.cells #[.int .i64 0, .int .i64 0, .slice none 0 0] 25)).alloc (.cells #[.int .i64 0, .int .i64 0, .slice none 0 0] 25)) :=
    (((Below.refl _ _).alloc (Nat.le_refl _) _).alloc (by simp) _).alloc (by simp; omega) _
  have r0 : Blk (((w.alloc (.cells #[.int .i64 lv, .int .i64 nx, .slice A n c] 25)).alloc (.cells #[.int .i64 0, .int .i64 0, .slice none 0 0] 25)).alloc (.cells #[.int .i64 0, .int .i64 0, .slice none 0 0] 25)) w.heap.size 25 #[.int .i64 lv, .int .i64 nx, .slice A n c] := ((Blk.new _ _ _).alloc _).alloc _
  have r1 : Blk (((w.alloc (.cells #[.int .i64 lv, .int .i64 nx, .slice A n c] 25)).alloc (.cells #[.int .i64 0, .int .i64 0, .slice none 0 0] 25)).alloc (.cells #[.int .i64 0, .int .i64 0, .slice none 0 0] 25)) (w.heap.size + 1) 25 #[.int .i64 0, .int .i64 0, .slice none 0 0] := by
    have h := (Blk.new (w.alloc (.cells #[.int .i64 lv, .int .i64 nx, .slice A n c] 25)) 25 #[.int .i64 0, .int .i64 0, .slice none 0 0]).alloc (.cells #[.int .i64 0, .int .i64 0, .slice none 0 0] 25)
    simpa using h
  have r2 : Blk (((w.alloc (.cells #[.int .i64 lv, .int .i64 nx, .slice A n c] 25)).alloc (.cells #[.int .i64 0, .int .i64 0, .slice none 0 0] 25)).alloc (.cells #[.int .i64 0, .int .i64 0, .slice none 0 0] 25)) (w.heap.size + 1 + 1) 25 #[.int .i64 0, .int .i64 0, .slice none 0 0] := by
    have h := Blk.new ((w.alloc (.cells #[.int .i64 lv, .int .i64 nx, .slice A n c] 25)).alloc (.cells #[.int .i64 0, .int .i64 0, .slice none 0 0] 25)) 25 #[.int .i64 0, .int .i64 0, .slice none 0 0]
    simpa using h
  refine (plain_is HP.out (Es.after HS.out b0) (by omega)).mono ?_
  rintro e w1 ⟨rfl, hb1⟩
  have E1 := Lib.hid (below_next b0 hb1 b0.size)
  replace r0 := r0.below hb1 r0.lt
  replace r1 := r1.below hb1 r1.lt
  replace r2 := r2.below hb1 r2.lt
  clear hb1 b0
  have lt3 : w.heap.size + 1 < w1.heap.size := r1.lt
  have lt4 : w.heap.size + 1 + 1 < w1.heap.size := r2.lt
  have k2' := r0.cell 2
  have f1 := r1.free
  have m0 := r1.cell 0
  have m1 := r1.cell 1
  have m2 := r1.cell 2
  have f2 := r2.free
  have n0 := r2.cell 0
  have n1 := r2.cell 1
  have n2 := r2.cell 2
  simp at k2' m0 m1 m2 n0 n1 n2
  clear r0 r1 r2
  go_wp2_with fail
  refine bodyPost_ret (v := .tuple #[.agg #[.int .i64 0, .int .i64 0, .slice none 0 0], .agg #[.int .i64 0, .int .i64 0, .slice none 0 0], .string ⟨#[]⟩, .int .i64 1]) (by simp [results, Try.results23, go_sem, *]) rfl ?_
  exact ⟨rfl, ((((((E1.out.setCell (by simp) _).setCell (by simp) _).setCell (by simp) _).setCell (by simp; omega) _).setCell (by simp; omega) _).setCell (by simp; omega) _)⟩

set_option maxRecDepth 100000 in
set_option maxHeartbeats 2000000 in
theorem split_one (lv nx : Int) (A : Option Addr) (c : Nat) (es : List Ent) (w : World) (hs : Es w w.heap.size A 1 c es) (hp : plainB lv nx es = true) :
    Calls Try.prog 23 #[.agg #[.int .i64 lv, .int .i64 nx, .slice A 1 c]] w fun e w' => e = .returned (.tuple #[.agg #[.int .i64 0, .int .i64 0, .slice none 0 0], .agg #[.int .i64 0, .int .i64 0, .slice none 0 0], .string ⟨#[]⟩, .int .i64 9]) ∧ Below w.heap.size w w' := by
  have HS := Lib.hid hs
  have HP := Lib.hid hp
  clear hs hp
  go_enter Try.func23, Try.ntmps23
  go_wp2_with fail
  have b0 : Below w.heap.size w (((w.alloc (.cells #[.int .i64 lv, .int .i64 nx, .slice A 1 c] 25)).alloc (.cells #[.int .i64 0, .int .i64 0, .slice none 0 0] 25)).alloc (.cells #[.int .i64 0, .int .i64 0, .slice none 0 0] 25)) :=
    (((Below.refl _ _).alloc (Nat.le_refl _) _).alloc (by simp) _).alloc (by simp; omega) _
  have r0 : Blk (((w.alloc (.cells #[.int .i64 lv, .int .i64 nx, .slice A 1 c] 25)).alloc (.cells #[.int .i64 0, .int .i64 0, .slice none 0 0] 25)).alloc (.cells #[.int .i64 0, .int .i64 0, .slice none 0 0] 25)) w.heap.size 25 #[.int .i64 lv, .int .i64 nx, .slice A 1 c] := ((Blk.new _ _ _).alloc _).alloc _
  have r1 : Blk (((w.alloc (.cells #[.int .i64 lv, .int .i64 nx, .slice A 1 c] 25)).alloc (.cells #[.int .i64 0, .int .i64 0, .slice none 0 0] 25)).alloc (.cells #[.int .i64 0, .int .i64 0, .slice none 0 0] 25)) (w.heap.size + 1) 25 #[.int .i64 0, .int .i64 0, .slice none 0 0] := by
    have h := (Blk.new (w.alloc (.cells #[.int .i64 lv, .int .i64 nx, .slice A 1 c] 25)) 25 #[.int .i64 0, .int .i64 0, .slice none 0 0]).alloc (.cells #[.int .i64 0, .int .i64 0, .slice none 0 0] 25)
    simpa using h
  have r2 : Blk (((w.alloc (.cells #[.int .i64 lv, .int .i64 nx, .slice A 1 c] 25)).alloc (.cells #[.int .i64 0, .int .i64 0, .slice none 0 0] 25)).alloc (.cells #[.int .i64 0, .int .i64 0, .slice none 0 0] 25)) (w.heap.size + 1 + 1) 25 #[.int .i64 0, .int .i64 0, .slice none 0 0] := by
    have h := Blk.new ((w.alloc (.cells #[.int .i64 lv, .int .i64 nx, .slice A 1 c] 25)).alloc (.cells #[.int .i64 0, .int .i64 0, .slice none 0 0] 25)) 25 #[.int .i64 0, .int .i64 0, .slice none 0 0]
    simpa using h
  refine (plain_is HP.out (Es.after HS.out b0) (by omega)).mono ?_
  rintro e w1 ⟨rfl, hb1⟩
  have E1 := Lib.hid (below_next b0 hb1 b0.size)
  replace r0 := r0.below hb1 r0.lt
  replace r1 := r1.below hb1 r1.lt
  replace r2 := r2.below hb1 r2.lt
  clear hb1 b0
  have lt3 : w.heap.size + 1 < w1.heap.size := r1.lt
  have lt4 : w.heap.size + 1 + 1 < w1.heap.size := r2.lt
  have k2' := r0.cell 2
  have f1 := r1.free
  have m0 := r1.cell 0
  have m1 := r1.cell 1
  have m2 := r1.cell 2
  have f2 := r2.free
  have n0 := r2.cell 0
  have n1 := r2.cell 1
  have n2 := r2.cell 2
  simp at k2' m0 m1 m2 n0 n1 n2
  clear r0 r1 r2
  go_wp2_with fail
  refine bodyPost_ret (v := .tuple #[.agg #[.int .i64 0, .int .i64 0, .slice none 0 0], .agg #[.int .i64 0, .int .i64 0, .slice none 0 0], .string ⟨#[]⟩, .int .i64 9]) (by simp [results, Try.results23, go_sem, *]) rfl ?_
  exact ⟨rfl, ((((((E1.out.setCell (by simp) _).setCell (by simp) _).setCell (by simp) _).setCell (by simp; omega) _).setCell (by simp; omega) _).setCell (by simp; omega) _)⟩
end Go.Proofs.Ytjfinkfikebjbaa
