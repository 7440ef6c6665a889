/- History, awake: forward.Valid at the example's description. -/
import Derived.Test.YtpklgdclknicjaaGreatDoorLD
import Derived.Great.BuildSlice
namespace Go.Proofs.YtpklgdclknicjaaGreatDoor
open Go.RowKit

section
variable {P : Program} {ops : Array Oper} {rest : List Oper} {o : Oper} {a : Act} {w : World} {Q : Exit → Act → World → Prop}
theorem wpList_held (hw : Region.wanted o (yielded ops a.tmps) = true) (h : ∀ K : Act → World → Prop, (∀ a w, wpList P ops Q rest a w → K a w) → o.wp P a w K Q) : wpList P ops Q (o :: rest) a w :=
  wpList_step fun K hK => by simp only [hw, if_true]; exact h K hK
theorem wpList_load_row_held (hw : Region.wanted o (yielded ops a.tmps) = true) (ty : TypeId) (x : Operand) (ho : o.op = .load ty x)
    (g : Nat) (hx : a.eval x = .pointer (some ⟨g, 0, none⟩)) (t : TypeId) (cs : Array Value) (fr : Nat × Nat) (d : TypeDesc) (hg : w.heap[g]? = some (.cells cs t fr))
    (hu : P.underlying ty = some d) (hd : (match d with | .struct _ | .array _ _ => true | _ => false) = true) (hi : (P.info? ty).map (·.size) = some cs.size)
    (h : wpList P ops Q rest (a.put o.dst (.agg cs)) w) : wpList P ops Q (o :: rest) a w :=
  wpList_held hw fun _ hK => wp_load_row ty x ho g hx t cs fr d hg hu hd hi (hK _ _ h)
theorem wpList_build_held (hw : Region.wanted o (yielded ops a.tmps) = true) (t : TypeId) (parts : Array (Nat × Operand)) (ho : o.op = .build t parts)
    (cells : Array Value) (hf : P.built t (parts.map fun (i, x) => (i, a.eval x)).toList = some cells)
    (h : wpList P ops Q rest (a.put o.dst (.agg cells)) w) : wpList P ops Q (o :: rest) a w :=
  wpList_held hw fun _ hK => by
    unfold Oper.wp execOp
    simp only [ho, Sem.run_bind, run_build w t _ _ hf, Result.andThen_ok]
    exact hK _ _ h
end
def fX (id : Int) (w : World) : World := (w.alloc (.cells (aV id).toArray 41)).alloc (.cells (dV id).toArray 38)
structure FV (id : Int) (w W : World) : Prop where
  b1 : Blk W w.heap.size 41 (aV id).toArray
  b2 : Blk W (w.heap.size + 1) 38 (dV id).toArray
  sz : w.heap.size + 2 ≤ W.heap.size
  be : Below w.heap.size w W
theorem fv_start (id : Int) (w : World) : FV id w (fX id w) :=
  ⟨(Blk.new w 41 _).alloc _, blk_at _ _ _ _ (by simp), by simp [fX], ((Below.refl w.heap.size w).alloc (Nat.le_refl _) _).alloc (by simp) _⟩
theorem fv_next (id : Int) (w W W' : World) (h : FV id w W) (hb : Below W.heap.size W W') : FV id w W' :=
  ⟨h.b1.below hb (by have := h.sz; omega), h.b2.below hb (by have := h.sz; omega), Nat.le_trans h.sz hb.size, below_next h.be hb (by have := h.sz; omega)⟩
theorem fv_21 {id : Int} {w W : World} (h : FV id w W) : W.cell? ⟨w.heap.size, 21, none⟩ = some (.int .i64 4) := (h.b1.cell 21).trans rfl
theorem fv_22 {id : Int} {w W : World} (h : FV id w W) : W.cell? ⟨w.heap.size, 22, none⟩ = some (.slice none 0 0) := (h.b1.cell 22).trans rfl
theorem fv_load {id : Int} {w W : World} (h : FV id w W) : (Instr.loadAt 38 (.pointer (some ⟨w.heap.size + 1, 0, none⟩))).run Tryz.prog W = .ok (.agg (dV id).toArray) W :=
  run_loadAt_mid W (w.heap.size + 1) 0 38 (dV id) _ (fun j v hv => by rw [h.b2.cell, Nat.zero_add, List.getElem?_toArray]; exact hv) Tryz.underlying38 rfl (by kernel_rfl)
set_option maxRecDepth 100000 in
set_option maxHeartbeats 2000000 in
theorem fwdValid_a (id : Int) (w : World) (i1 : 1 ≤ id) (i2 : id ≤ 1099511627776) : Calls Tryz.prog 66 #[.agg (aV id).toArray] w fun e w' => e = .returned (.bool true) ∧ Below w.heap.size w w' := by
  have HM := Lib.hid (aV_range id w 41)
  have H1 := Lib.hid (dV_one id)
  have HB := Lib.hid fun old => blk_at (w.alloc (.cells (aV id).toArray 41)) 38 old (w.heap.size + 1) (by simp)
  have HS : Hid (∀ old, ((w.alloc (.cells (aV id).toArray 41)).alloc (.cells old 38)).setRow (w.heap.size + 1) (dV id).toArray = fX id w) := Lib.hid fun old => setRow_two (w.alloc (.cells (aV id).toArray 41)) (w.heap.size + 1) (by simp) old (dV id).toArray 38
  have HX := Lib.hid (fv_start id w)
  have HD : Hid (∀ W, Calls Tryz.prog 95 #[.agg (dV id).toArray] W fun e w' => e = .returned (.bool true) ∧ Below W.heap.size W w') := Lib.hid fun W => described_a id W i1 i2
  have HV := Lib.hid fun W => archValid_a id W (by omega) i2
  clear i1 i2
  go_enter Tryz.func66, Tryz.ntmps66
  go_wp2_with (first | (refine wpList_load_mid rfl 38 _ rfl w.heap.size 0 rfl (dV id) _ HM.out Tryz.underlying38 rfl (by kernel_rfl) ?_) | (refine wpList_store_row rfl 38 _ _ rfl (w.heap.size + 1) (dV id).toArray rfl rfl 38 _ (HB.out _) (by kernel_rfl) rfl H1.out ?_; rw [HS.out]) | (refine wpList_load_row_held (by kernel_rfl) 38 _ rfl (w.heap.size + 1) rfl 38 _ (0, 0) _ HX2.out.b2 Tryz.underlying38 rfl (by kernel_rfl) ?_) | (refine wpList_load_row rfl 38 _ rfl (w.heap.size + 1) rfl 38 _ (0, 0) _ HX.out.b2 Tryz.underlying38 rfl (by kernel_rfl) ?_) | (refine wpList_build_held (by kernel_rfl) 168 _ rfl (aV id).toArray (by kernel_rfl) ?_) | (go_at_call 95; refine (HD.out _).mono ?_; rintro e w2 ⟨rfl, hb⟩; have HX2 := Lib.hid (fv_next id w _ _ HX.out hb); clear hb; have c21 := fv_21 HX2.out; have c22 := fv_22 HX2.out) | (go_at_call 96; refine (HV.out _).mono ?_; rintro e w3 ⟨rfl, hb⟩; have HX3 := Lib.hid (fv_next id w _ _ HX2.out hb); clear hb c21 c22; have c22 := fun ob => ((HX3.out.b1.alloc ob).cell 22).trans (show (aV id).toArray[22]? = some (.slice none 0 0) from rfl)))
  refine wp_loop_rounds 1 ?_
  rw [rounds_succ]
  go_wp2
  go_ret
  exact ⟨rfl, HX3.out.be.alloc (by have := HX3.out.sz; omega) _⟩
end Go.Proofs.YtpklgdclknicjaaGreatDoor
