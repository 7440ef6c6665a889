/- History, awake: the state begins with the example's one content. -/
import Derived.Test.YtpklgdclknicjaaGreatDoorLE
import Derived.MapKept
import Derived.Laws.EntriesVeiled
namespace Go.Proofs.YtpklgdclknicjaaGreatDoor
open Go.RowKit

/-- the cells of no content -/
def zV : List Value := [.int .i64 0, .int .i64 0, .int .i64 0, .int .i64 0, .int .i64 0, .int .i64 0, .int .i64 0, .int .i64 0, .int .i64 0, .int .i64 0, .int .i64 0, .int .i64 0, .int .i64 0, .int .i64 0, .bool false, .int .i64 0, .string ⟨#[]⟩, .string ⟨#[]⟩, .int .i64 0, .int .i64 0, .bool false, .int .i64 0, .slice none 0 0]
theorem zV_one : zV.toArray.all (·.oneCell') = true := by simp [zV, Value.oneCell']
theorem aV_one (id : Int) : (aV id).toArray.all (·.oneCell') = true := by simp [aV, dV, Value.oneCell']
def stE (v : List Value) : Array MapEntry := #[⟨.int .i64 200, .agg v.toArray, 0⟩]
/-- block b is the state that holds v at 200 -/
def St (w : World) (b : Nat) (v : List Value) : Prop := w.heap[b]? = some (.map (stE v) 1)
theorem St.lt {w : World} {b : Nat} {v : List Value} (h : St w b v) : b < w.heap.size := by
  rcases Nat.lt_or_ge b w.heap.size with hlt | hge
  · exact hlt
  · unfold St at h; rw [Array.getElem?_eq_none hge] at h; cases h
theorem St.below {w w' : World} {b B : Nat} {v : List Value} (h : St w b v) (hb : Below B w w') (hB : b < B) : St w' b v := (hb.block b hB).trans h
theorem St.alloc {w : World} {b : Nat} {v : List Value} (h : St w b v) (o : Obj) : St (w.alloc o) b v := (Below.heap_alloc w o b h.lt).trans h
theorem sLook_no (w : World) (b : Nat) (hb : w.heap[b]? = some (.map #[] 0)) :
    (Instr.lookup 78 (.map (some b)) (.int .i64 200) true).run Tryz.prog w = .ok (.tuple #[.agg zV.toArray, .bool false]) w := by
  have hf : Instr.findNow (.int .i64) (.int .i64 200) (#[] : Array MapEntry).toList 0 = some none := rfl
  have hc : (Instr.checkKey true 10000 3 (.int .i64 200)).run Tryz.prog w = .ok () w := MapKept.run_checkKey (k := .int .i64 200) Tryz.underlying3 (by simp [MapKept.IsKey]) _ 9999
  unfold zV
  simp [Instr.lookup, run_underlying Tryz.underlying78, MapKept.run_getObj_map hb, hc, MapKept.run_findKey Tryz.underlying3 hf]
theorem sLook_gen (w : World) (b : Nat) (es : Array MapEntry) (c : Nat) (key : Int) (v : Value) (i : Nat) (hb : w.heap[b]? = some (.map es c)) (hf : Instr.findNow (.int .i64) (.int .i64 key) es.toList 0 = some (some (i, v))) :
    (Instr.lookup 78 (.map (some b)) (.int .i64 key) true).run Tryz.prog w = .ok (.tuple #[v, .bool true]) w := by
  have hc : (Instr.checkKey es.isEmpty 10000 3 (.int .i64 key)).run Tryz.prog w = .ok () w := MapKept.run_checkKey (k := .int .i64 key) Tryz.underlying3 (by simp [MapKept.IsKey]) _ 9999
  simp [Instr.lookup, run_underlying Tryz.underlying78, MapKept.run_getObj_map hb, hc, MapKept.run_findKey Tryz.underlying3 hf]
theorem sLook_yes (w : World) (b : Nat) (v : List Value) (hb : St w b v) :
    (Instr.lookup 78 (.map (some b)) (.int .i64 200) true).run Tryz.prog w = .ok (.tuple #[.agg v.toArray, .bool true]) w :=
  sLook_gen w b (stE v) 1 200 _ 0 hb rfl
/-- the world with the state's block written -/
def setSt (w : World) (b : Nat) (v : List Value) : World := { w with heap := w.heap.setIfInBounds b (.map (stE v) 1) }
theorem setSt_st (w : World) (b : Nat) (v : List Value) (h : b < w.heap.size) : St (setSt w b v) b v := by
  unfold St setSt
  simp [h]
theorem setSt_below {a w : World} {B b : Nat} (v : List Value) (h : Below B a w) (hb : B ≤ b) : Below B a (setSt w b v) :=
  ⟨h.os, h.tape, h.output, by simpa [setSt] using h.size, fun k hk => by
    show (w.heap.setIfInBounds b (.map (stE v) 1))[k]? = _
    rw [Array.getElem?_setIfInBounds_ne (by omega)]
    exact h.block k hk⟩
theorem sPut_new (w : World) (b : Nat) (v : List Value) (hb : w.heap[b]? = some (.map #[] 0)) :
    (Instr.mapUpdate 78 (.map (some b)) (.int .i64 200) (.agg v.toArray)).run Tryz.prog w = .ok () (setSt w b v) := by
  have hf : Instr.findNow (.int .i64) (.int .i64 200) (#[] : Array MapEntry).toList 0 = some none := rfl
  have hc : (Instr.checkKey false 10000 3 (.int .i64 200)).run Tryz.prog w = .ok () w := MapKept.run_checkKey (k := .int .i64 200) Tryz.underlying3 (by simp [MapKept.IsKey]) false 9999
  simp [Instr.mapUpdate, run_underlying Tryz.underlying78, MapKept.run_getObj_map hb, hc, MapKept.run_findKey Tryz.underlying3 hf, MapKept.run_setObj_map _ hb, Result.andThen]
  rfl
theorem sPut_old (w : World) (b : Nat) (v u : List Value) (hb : St w b u) :
    (Instr.mapUpdate 78 (.map (some b)) (.int .i64 200) (.agg v.toArray)).run Tryz.prog w = .ok () (setSt w b v) := by
  have hf : Instr.findNow (.int .i64) (.int .i64 200) (stE u).toList 0 = some (some (0, .agg u.toArray)) := rfl
  have hk : (Instr.keyThatStays ((Option.map (fun x => x.key) (stE u)[0]?).getD (.int .i64 200)) (.int .i64 200)).run Tryz.prog w = .ok (.int .i64 200) w := rfl
  have hc : (Instr.checkKey false 10000 3 (.int .i64 200)).run Tryz.prog w = .ok () w := MapKept.run_checkKey (k := .int .i64 200) Tryz.underlying3 (by simp [MapKept.IsKey]) false 9999
  simp [Instr.mapUpdate, run_underlying Tryz.underlying78, MapKept.run_getObj_map hb, hc, MapKept.run_findKey Tryz.underlying3 hf, MapKept.run_setObj_map _ hb, hk, Result.andThen]
  rfl

def bX (w : World) : World := (w.alloc (.map #[] 0)).alloc (.cells (aV 200).toArray 41)
def bY (w : World) : World := (bX w).alloc (.cells zV.toArray 41)
structure BV (w W : World) : Prop where
  b1 : W.heap[w.heap.size]? = some (.map #[] 0)
  b2 : Blk W (w.heap.size + 1) 41 (aV 200).toArray
  sz : w.heap.size + 3 ≤ W.heap.size
  be : Below w.heap.size w W
theorem bX_size (w : World) : (bX w).heap.size = w.heap.size + 2 := by simp [bX]
theorem bX_map (w : World) : (bX w).heap[w.heap.size]? = some (.map #[] 0) := by
  unfold bX
  rw [Below.heap_alloc _ _ _ (by simp)]
  exact heap_alloc_new w _
theorem bX_blk (w : World) : Blk (bX w) (w.heap.size + 1) 41 (aV 200).toArray := blk_at _ _ _ _ (by simp)
theorem bY_bv (w : World) : BV w (bY w) :=
  ⟨by unfold bY; rw [Below.heap_alloc _ _ _ (by rw [bX_size]; omega)]; exact bX_map w, (bX_blk w).alloc _, by simp [bY, bX_size],
    (((Below.refl w.heap.size w).alloc (Nat.le_refl _) _).alloc (by simp) _).alloc (by show _ ≤ (bX w).heap.size; rw [bX_size]; omega) _⟩
theorem bv_next (w W W' : World) (h : BV w W) (hb : Below W.heap.size W W') : BV w W' :=
  ⟨(hb.block _ (by have := h.sz; omega)).trans h.b1, h.b2.below hb (by have := h.sz; omega), Nat.le_trans h.sz hb.size, below_next h.be hb (by have := h.sz; omega)⟩
/-- what begin gives -/
def BegP (w : World) (e : Ending) (w' : World) : Prop := e = .returned (.tuple #[.map (some w.heap.size), .bool true]) ∧ St w' w.heap.size (aV 200) ∧ Below w.heap.size w w'
theorem bv_end (w W : World) (h : BV w W) : St (setSt W w.heap.size (aV 200)) w.heap.size (aV 200) ∧ Below w.heap.size w (setSt W w.heap.size (aV 200)) :=
  ⟨setSt_st _ _ _ (by have := h.sz; omega), setSt_below _ h.be (Nat.le_refl _)⟩

set_option maxRecDepth 100000 in
set_option maxHeartbeats 2000000 in
theorem begin_a (g : Nat) (w : World) (hg : g < w.heap.size) (hr : w.rangeAt g 0 (aV 200)) : Calls Tryz.prog 47 #[.slice (some ⟨g, 0, none⟩) 1 1] w (BegP w) := by
  have HM := Lib.hid (show (w.alloc (.map #[] 0)).rangeAt g 0 (aV 200) from fun j v hv => (World.cell?_alloc_lt w _ _ hg).trans (hr j v hv))
  clear hr hg
  have HA := Lib.hid (aV_one 200)
  have HZ := Lib.hid zV_one
  have HB1 := Lib.hid fun old => blk_at (w.alloc (.map #[] 0)) 41 old (w.heap.size + 1) (by simp)
  have HS1 : Hid (∀ old, ((w.alloc (.map #[] 0)).alloc (.cells old 41)).setRow (w.heap.size + 1) (aV 200).toArray = bX w) := Lib.hid fun old => setRow_two (w.alloc (.map #[] 0)) (w.heap.size + 1) (by simp) old (aV 200).toArray 41
  have HB2 := Lib.hid fun old => blk_at (bX w) 41 old (w.heap.size + 2) (by simp [bX_size])
  have HS2 : Hid (∀ old, ((bX w).alloc (.cells old 41)).setRow (w.heap.size + 2) zV.toArray = bY w) := Lib.hid fun old => setRow_two (bX w) (w.heap.size + 2) (by simp [bX_size]) old zV.toArray 41
  have HY := Lib.hid (bY_bv w)
  have HV := Lib.hid fun W => fwdValid_a 200 W (by decide) (by decide)
  have HE := Lib.hid fun W => bv_end w W
  have hz := bX_size w
  have c0 : (bX w).cell? ⟨w.heap.size + 1, 0, none⟩ = some (.int .i64 200) := ((bX_blk w).cell 0).trans rfl
  have hl := sLook_no (bX w) w.heap.size (bX_map w)
  have hmm := @run_makeMap Tryz.prog
  go_enter Tryz.func47, Tryz.ntmps47
  go_wp2
  refine wp_loop_rounds 2 ?_
  rw [rounds_succ]
  go_wp2_with (first | (refine wpList_load_mid rfl 41 _ rfl g 0 rfl (aV 200) _ HM.out Tryz.underlying41 rfl (by kernel_rfl) ?_) | (refine wpList_store_row rfl 41 _ _ rfl (w.heap.size + 1) (aV 200).toArray rfl rfl 41 _ (HB1.out _) (by kernel_rfl) rfl HA.out ?_; rw [HS1.out]) | (refine wpList_store_row rfl 41 _ _ rfl (w.heap.size + 2) zV.toArray rfl rfl 41 _ (HB2.out _) (by kernel_rfl) rfl HZ.out ?_; rw [HS2.out]) | (refine wpList_load_row_held (by kernel_rfl) 41 _ rfl (w.heap.size + 1) rfl 41 _ (0, 0) _ HY.out.b2 Tryz.underlying41 rfl (by kernel_rfl) ?_) | (go_at_call 66; refine (HV.out _).mono ?_; rintro e w2 ⟨rfl, hb⟩; have HX2 := Lib.hid (bv_next w _ _ HY.out hb); clear hb c0 hl hz; have c0 : w2.cell? ⟨w.heap.size + 1, 0, none⟩ = some (.int .i64 200) := (HX2.out.b2.cell 0).trans rfl; have hp := sPut_new w2 w.heap.size (aV 200) HX2.out.b1) | (refine wpList_load_row rfl 41 _ rfl (w.heap.size + 1) rfl 41 _ (0, 0) _ HX2.out.b2 Tryz.underlying41 rfl (by kernel_rfl) ?_))
  rw [rounds_succ]
  go_wp2
  go_ret2
  obtain ⟨f1, f2⟩ := HE.out _ HX2.out
  exact ⟨rfl, f1, f2⟩
end Go.Proofs.YtpklgdclknicjaaGreatDoor
