/- Split of the program. -/
import Derived.Test.YtjfinkfikebjbaaS
namespace Go.Proofs.Ytjfinkfikebjbaa
open Go.RowKit
attribute [local go_sem ↓] Go.wp_at_zero Go.wp_at_succ

def halfN (es : List Ent) : Nat := (es.length + 1) / 2
def leftE (es : List Ent) : List Ent := es.take (halfN es - 1) ++ [(⟨#[]⟩, (entAt es (halfN es - 1)).2)]
def rightE (es : List Ent) : List Ent := es.drop (halfN es)
def boundE (es : List Ent) : ByteArray := (entAt es (halfN es - 1)).1

theorem eCells_cons (e : Ent) (es : List Ent) : eCells (e :: es) = .string e.1 :: .int .i64 e.2 :: eCells es := rfl
theorem eCells_append (a b : List Ent) : eCells (a ++ b) = eCells a ++ eCells b := by simp [eCells]
theorem eCells_take : ∀ (es : List Ent) (k : Nat), (eCells es).take (k * 2) = eCells (es.take k)
  | [], k => by simp [eCells]
  | e :: es, 0 => by simp [eCells]
  | e :: es, k + 1 => by
    rw [show (k + 1) * 2 = k * 2 + 1 + 1 from by omega, eCells_cons, List.take_succ_cons, List.take_succ_cons, eCells_take es k, List.take_succ_cons, eCells_cons]
theorem eCells_drop : ∀ (es : List Ent) (k : Nat), (eCells es).drop (k * 2) = eCells (es.drop k)
  | [], k => by simp [eCells]
  | e :: es, 0 => by simp
  | e :: es, k + 1 => by
    rw [show (k + 1) * 2 = k * 2 + 1 + 1 from by omega, eCells_cons, List.drop_succ_cons, List.drop_succ_cons, eCells_drop es k, List.drop_succ_cons]
theorem eCells_set : ∀ (es : List Ent) (k : Nat) (x y : ByteArray) (p : Int), es[k]? = some (x, p) → (eCells es).set (k * 2) (.string y) = eCells (es.set k (y, p))
  | [], k, x, y, p, h => by simp at h
  | e :: es, 0, x, y, p, h => by
    have : e = (x, p) := by simpa using h
    subst this; rfl
  | e :: es, k + 1, x, y, p, h => by
    have ih := eCells_set es k x y p (by simpa using h)
    rw [show (k + 1) * 2 = k * 2 + 1 + 1 from by omega, eCells_cons, List.set_cons_succ, List.set_cons_succ, ih, List.set_cons_succ, eCells_cons]
theorem set_take {α : Type} : ∀ (l : List α) (k : Nat) (x y : α), l[k]? = some x → (l.set k y).take (k + 1) = l.take k ++ [y]
  | [], k, x, y, h => by simp at h
  | a :: l, 0, x, y, h => by simp
  | a :: l, k + 1, x, y, h => by
    have ih := set_take l k x y (by simpa using h)
    rw [List.set_cons_succ, List.take_succ_cons, ih, List.take_succ_cons]; rfl
theorem set_drop {α : Type} : ∀ (l : List α) (k : Nat) (y : α), (l.set k y).drop (k + 1) = l.drop (k + 1)
  | [], k, y => by simp
  | a :: l, 0, y => by simp
  | a :: l, k + 1, y => by simpa using set_drop l k y

theorem split_end {lv nx : Int} {es : List Ent} {w W : World} {base g n cap kk : Nat} {x : ByteArray} {p : Int} (own : W.ownsRow base 34 2 (.slice (some ⟨g, 0, none⟩) n cap) n (eCells (es.set kk (⟨#[]⟩, p)))) (hx : es[kk]? = some (x, p))
    (hk : kk + 1 = halfN es) (hkn : kk + 1 < n) (hnc : n ≤ cap) (hb : Below w.heap.size w W) :
    ∃ A1 c1 A2 c2, Ending.returned (.tuple #[.agg #[.int .i64 lv, .int .i64 0, .slice (some ⟨g, 0, none⟩) (kk + 1) (kk + 1)], .agg #[.int .i64 lv, .int .i64 nx, .slice (some ⟨g, (kk + 1) * 2, none⟩) (n - (kk + 1)) (cap - (kk + 1))], .string x, .int .i64 0]) =
        .returned (.tuple #[.agg #[.int .i64 lv, .int .i64 0, .slice A1 (halfN es) c1], .agg #[.int .i64 lv, .int .i64 nx, .slice A2 (n - halfN es) c2], .string (boundE es), .int .i64 0]) ∧
      Es W W.heap.size A1 (halfN es) c1 (leftE es) ∧ Es W W.heap.size A2 (n - halfN es) c2 (rightE es) ∧ Below w.heap.size w W := by
  have hent : entAt es kk = (x, p) := entAt_get hx
  have rd := Rd.of_own own
  have r1 := rd.take (k := kk + 1) (by omega)
  have r2 := rd.drop (k := kk + 1) (cap := cap) (by omega) hnc
  rw [eCells_take, set_take _ _ _ _ hx] at r1
  rw [eCells_drop, set_drop, if_neg (by omega)] at r2
  refine ⟨some ⟨g, 0, none⟩, kk + 1, some ⟨g, (kk + 1) * 2, none⟩, cap - (kk + 1), ?_, ⟨by omega, ?_⟩, ⟨by omega, ?_⟩, hb⟩
  · simp only [boundE, ← hk, Nat.add_sub_cancel, hent]
  · rw [leftE, ← hk, Nat.add_sub_cancel, hent]; exact r1
  · rw [rightE, ← hk]
    simpa [Addr.add] using r2

set_option maxRecDepth 100000 in
set_option maxHeartbeats 2000000 in
theorem split_ok (lv nx : Int) (A : Option Addr) (n c : Nat) (es : List Ent) (w : World) (hs : Es w w.heap.size A n c es) (hp : plainB lv nx es = true) (h2 : 2 ≤ n) :
    Calls Try.prog 23 #[.agg #[.int .i64 lv, .int .i64 nx, .slice A n c]] w fun e w' => ∃ A1 c1 A2 c2, e = .returned (.tuple #[.agg #[.int .i64 lv, .int .i64 0, .slice A1 (halfN es) c1], .agg #[.int .i64 lv, .int .i64 nx, .slice A2 (n - halfN es) c2], .string (boundE es), .int .i64 0]) ∧
      Es w' w'.heap.size A1 (halfN es) c1 (leftE es) ∧ Es w' w'.heap.size A2 (n - halfN es) c2 (rightE es) ∧ Below w.heap.size w w' := by
  have HS := Lib.hid hs
  have HL := Lib.hid hs.len
  have hle := (plain_len hp).2
  rw [HL.out] at hle
  have HP := Lib.hid hp
  obtain ⟨k, hk⟩ : ∃ k : Nat, k = halfN es := ⟨_, rfl⟩
  have hk1 : ((n : Int) + 1) / 2 = (k : Int) := by rw [hk]; unfold halfN; rw [HL.out]; omega
  have hk2 : 1 ≤ k ∧ k < n := by rw [hk]; unfold halfN; rw [HL.out]; omega
  obtain ⟨hk2, hk3⟩ := hk2
  obtain ⟨kk, rfl⟩ : ∃ kk, k = kk + 1 := ⟨k - 1, by omega⟩
  have HK := Lib.hid hk
  clear hs hp hk
  go_enter Try.func23, Try.ntmps23
  go_wp2_with fail
  have b0 : Below w.heap.size w (((w.alloc (.cells #[.int .i64 lv, .int .i64 nx, .slice A n c] 25)).alloc (.cells #[.int .i64 0, .int .i64 0, .slice none 0 0] 25)).alloc (.cells #[.int .i64 0, .int .i64 0, .slice none 0 0] 25)) :=
    (((Below.refl _ _).alloc (Nat.le_refl _) _).alloc (by simp) _).alloc (by simp; omega) _
  have r0 : Blk (((w.alloc (.cells #[.int .i64 lv, .int .i64 nx, .slice A n c] 25)).alloc (.cells #[.int .i64 0, .int .i64 0, .slice none 0 0] 25)).alloc (.cells #[.int .i64 0, .int .i64 0, .slice none 0 0] 25)) w.heap.size 25 #[.int .i64 lv, .int .i64 nx, .slice A n c] := ((Blk.new _ _ _).alloc _).alloc _
  have r1 : Blk (((w.alloc (.cells #[.int .i64 lv, .int .i64 nx, .slice A n c] 25)).alloc (.cells #[.int .i64 0, .int .i64 0, .slice none 0 0] 25)).alloc (.cells #[.int .i64 0, .int .i64 0, .slice none 0 0] 25)) (w.heap.size + 1) 25 #[.int .i64 0, .int .i64 0, .slice none 0 0] := by
    have h := (Blk.new (w.alloc (.cells #[.int .i64 lv, .int .i64 nx, .slice A n c] 25)) 25 #[.int .i64 0, .int .i64 0, .slice none 0 0]).alloc (.cells #[.int .i64 0, .int .i64 0, .slice none 0 0] 25)
    simpa using h
  have r2 : Blk (((w.alloc (.cells #[.int .i64 lv, .int .i64 nx, .slice A n c] 25)).alloc (.cells #[.int .i64 0, .int .i64 0, .slice none 0 0] 25)).alloc (.cells #[.int .i64 0, .int .i64 0, .slice none 0 0] 25)) (w.heap.size + 1 + 1) 25 #[.int .i64 0, .int .i64 0, .slice none 0 0] := by
    have h := Blk.new ((w.alloc (.cells #[.int .i64 lv, .int .i64 nx, .slice A n c] 25)).alloc (.cells #[.int .i64 0, .int .i64 0, .slice none 0 0] 25)) 25 #[.int .i64 0, .int .i64 0, .slice none 0 0]
    simpa using h
  refine (plain_is HP.out (Es.after HS.out b0) (by omega)).mono ?_
  rintro e w1 ⟨rfl, hb1⟩
  have e1 : Below w.heap.size w w1 := below_next b0 hb1 b0.size
  replace r0 := r0.below hb1 r0.lt
  replace r1 := r1.below hb1 r1.lt
  replace r2 := r2.below hb1 r2.lt
  clear hb1 b0
  have k2 := r0.cell 2
  simp at k2
  have E1 := Lib.hid e1
  have R0 := Lib.hid r0
  have R1 := Lib.hid r1
  have R2 := Lib.hid r2
  clear e1 r0 r1 r2
  go_wp2_with fail
  refine (clone_any A n c es w1 (HS.out.after E1.out) (by omega) (by omega)).mono ?_
  rintro e w2 ⟨v, rfl, hown, hb2⟩
  obtain ⟨g, cap, rfl, hg1, hg2, hcap⟩ := own_at hown (by omega)
  have r0 := R0.out.below hb2 R0.out.lt
  have r1 := R1.out.below hb2 R1.out.lt
  have r2 := R2.out.below hb2 R2.out.lt
  have lt2 : w.heap.size < w2.heap.size := r0.lt
  have lt3 : w.heap.size + 1 < w2.heap.size := r1.lt
  have lt4 : w.heap.size + 1 + 1 < w2.heap.size := r2.lt
  have gr0 := R2.out.lt
  have hg5 : g ≠ w.heap.size + 1 := by omega
  have hg6 : g ≠ w.heap.size + 1 + 1 := by omega
  have hg7 : g ≠ w.heap.size := by omega
  have HGW : Hid (w.heap.size ≤ g) := Lib.hid (by omega)
  clear gr0
  have f0 := r0.free
  have k0 := r0.cell 0
  have k1 := r0.cell 1
  have k2' := r0.cell 2
  have f1 := r1.free
  have m0 := r1.cell 0
  have m1 := r1.cell 1
  have m2 := r1.cell 2
  have f2 := r2.free
  have n0 := r2.cell 0
  have n1 := r2.cell 1
  have n2 := r2.cell 2
  simp at k0 k1 k2' m0 m1 m2 n0 n1 n2
  replace E1 := Lib.hid (below_next E1.out hb2 E1.out.size)
  replace R0 := Lib.hid r0
  replace R1 := Lib.hid r1
  replace R2 := Lib.hid r2
  clear hb2 k2 r0 r1 r2
  have hg3 : g ≠ w2.heap.size := by omega
  have hg4 : g ≠ w2.heap.size + 1 := by omega
  obtain ⟨x, p, hx⟩ : ∃ x p, es[kk]? = some (x, p) := ⟨_, _, List.getElem?_eq_getElem (by have := HL.out; omega)⟩
  have hcx : w2.cell? ⟨g, kk * 2, none⟩ = some (.string x) := (hown.cellAt (kk * 2) (by omega)).trans (eCells_get es kk _ hx).1
  have hfx : w2.frozen? ⟨g, kk * 2, none⟩ = false := hown.frozenAt _
  have HX := Lib.hid hx
  have HO := Lib.hid hown
  clear hown hx
  go_wp2_with fail
  go_region
  all_goals
    go_wp2_with fail
    go_region
  all_goals go_wp2_with fail
  all_goals
    go_region
    go_wp2_with fail
  all_goals
    refine bodyPost_ret (v := .tuple #[.agg #[.int .i64 lv, .int .i64 0, .slice (some ⟨g, 0, none⟩) (kk + 1) (kk + 1)], .agg #[.int .i64 lv, .int .i64 nx, .slice (some ⟨g, (kk + 1) * 2, none⟩) (n - (kk + 1)) (cap - (kk + 1))], .string x, .int .i64 0]) (by simp [results, Try.results23, go_sem, *]) rfl ?_
    have own := HO.out.stored (kk * 2) (.string ⟨#[]⟩)
    have l1 := (eCells_set es kk x ⟨#[]⟩ p HX.out)
    rw [l1] at own
    have gb : (Value.slice (some ⟨g, 0, none⟩) n cap).ownBlock = some g := rfl
    have nb1 : ∀ i, (Value.slice (some ⟨g, 0, none⟩) n cap).ownBlock ≠ some (Addr.block ⟨w.heap.size + 1, i, none⟩) := by intro i; rw [gb]; simpa using hg5
    have nb2 : ∀ i, (Value.slice (some ⟨g, 0, none⟩) n cap).ownBlock ≠ some (Addr.block ⟨w.heap.size + 1 + 1, i, none⟩) := by intro i; rw [gb]; simpa using hg6
    exact split_end (((ownsRow_setCell_other (ownsRow_setCell_other (ownsRow_setCell_other (ownsRow_setCell_other (ownsRow_setCell_other (ownsRow_setCell_other own.1 (nb1 _) _) (nb1 _) _) (nb1 _) _) (nb2 _) _) (nb2 _) _) (nb2 _) _).alloc _).alloc _).drew.drew.drew HX.out HK.out hk3 hcap
      ((((((((((E1.out.setCell HGW.out _).setCell (by simp) _).setCell (by simp) _).setCell (by simp) _).setCell (by simp; omega) _).setCell (by simp; omega) _).setCell (by simp; omega) _).alloc (by simp; omega) _).alloc (by simp; omega) _).drew.drew.drew)
end Go.Proofs.Ytjfinkfikebjbaa
