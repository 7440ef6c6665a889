/- History, awake: effects, and the put through its closure. -/
import Derived.Test.YtpklgdclknicjaaGreatDoorMB
namespace Go.Proofs.YtpklgdclknicjaaGreatDoor
open Go.RowKit

theorem own_lowM {w : World} {base base' : Nat} {e : TypeId} {size : Nat} {v : Value} {n : Nat} {xs : List Value} (h : w.ownsRow base e size v n xs) (hb : base' ≤ base) : w.ownsRow base' e size v n xs :=
  ⟨h.1, h.2.imp id fun ⟨g, cap, cur, h1, h2, h3⟩ => ⟨g, cap, cur, h1, Nat.le_trans hb h2, h3⟩⟩
abbrev sk : ByteArray := ⟨#[107]⟩
abbrev sk1 : ByteArray := ⟨#[107, 49]⟩
set_option maxRecDepth 100000 in
set_option maxHeartbeats 2000000 in
theorem allowed_a (w : World) : Calls Tryz.prog 97 #[.agg (dV 200).toArray, .agg #[.string ⟨#[107]⟩, .string ⟨#[107, 49]⟩]] w fun e w' => e = .returned (.bool true) ∧ Below w.heap.size w w' := by
  have HB := Lib.hid ((Blk.new w 38 (dV 200).toArray).alloc (.cells #[.string ⟨#[107]⟩, .string ⟨#[107, 49]⟩] 143))
  have HP := Lib.hid (blk_at (w.alloc (.cells (dV 200).toArray 38)) 143 #[.string ⟨#[107]⟩, .string ⟨#[107, 49]⟩] (w.heap.size + 1) (by simp))
  have HX : Hid (Below w.heap.size w ((w.alloc (.cells (dV 200).toArray 38)).alloc (.cells #[.string ⟨#[107]⟩, .string ⟨#[107, 49]⟩] 143))) := Lib.hid (((Below.refl _ _).alloc (Nat.le_refl _) _).alloc (by simp) _)
  have c1 : ((w.alloc (.cells (dV 200).toArray 38)).alloc (.cells #[.string ⟨#[107]⟩, .string ⟨#[107, 49]⟩] 143)).cell? ⟨w.heap.size, 1, none⟩ = some (.int .i64 3) := (HB.out.cell 1).trans rfl
  go_enter Tryz.func97, Tryz.ntmps97
  go_wp2_with (first | (refine wpList_load_row rfl 38 _ rfl w.heap.size rfl 38 _ (0, 0) _ HB.out Tryz.underlying38 rfl (by kernel_rfl) ?_) | (go_at_call 122; refine (keyOf_a _).mono ?_; rintro e w2 ⟨rfl, hb⟩; have HX2 := Lib.hid (below_next HX.out hb (by simp; omega)); have d0 := ((HP.out.below hb (by simp)).cell 0).trans (show (#[.string ⟨#[107]⟩, .string ⟨#[107, 49]⟩] : Array Value)[0]? = some (.string ⟨#[107]⟩) from rfl); clear hb))
  go_ret
  exact ⟨rfl, HX2.out⟩
/-- a call that returns a row of its own -/
def GivesRow (w : World) (t : TypeId) (k n : Nat) (xs : List Value) (e : Ending) (w' : World) : Prop := ∃ v, e = .returned v ∧ w'.ownsRow w.heap.size t k v n xs ∧ Below w.heap.size w w'
set_option maxRecDepth 100000 in
theorem insert_nil (vb : Nat) (xs : List Value) (w : World) (hs : Rd w w.heap.size 2 (some ⟨vb, 0, none⟩) 1 xs) (h1 : ∀ u ∈ xs, u.oneCell' = true) :
    Calls Tryz.prog 162 #[.slice none 0 0, .int .i64 0, .slice (some ⟨vb, 0, none⟩) 1 1] w (GivesRow w 143 2 1 xs) := by
  obtain ⟨i0, hi0, hz0, hz1, hz2⟩ := info_parts infoPair
  have HR := Lib.hid hs
  have H1 := Lib.hid h1
  have HO : Hid (w.ownsRow w.heap.size 143 2 (.slice none 0 0) 0 []) := Lib.hid ⟨rfl, .inl ⟨rfl, rfl⟩⟩
  clear hs h1
  go_enter Tryz.func162, Tryz.ntmps162
  go_wp2_with (at_builtin; go_must (refine wpList_app _ rfl _ _ 39 rfl w.heap.size 143 i0 _ 2 32 Tryz.underlying39 hi0 hz0 hz1 hz2 rfl (by decide) _ 0 [] rfl HO.out w.heap.size (some ⟨vb, 0, none⟩) 1 1 xs rfl HR.out H1.out (by decide) (by decide) (Nat.le_refl _) ?_; intro v' w' hown hgr _; have HOWN := Lib.hid hown; have HGR : Hid (w.grownBy w' (Value.slice none 0 0).ownBlock) := Lib.hid hgr; clear hown hgr))
  go_ret
  exact ⟨v', rfl, by simpa using HOWN.out, (Below.refl _ _).grown HGR.out (Nat.le_refl _) (by intro k hk; simp [Value.ownBlock] at hk)⟩

/-! ### effects -/
def ef1 : Array MapEntry := #[⟨.int .i64 0, .func (.func 159) #[] #[], 0⟩]
def ef2 : Array MapEntry := ef1.push ⟨.int .i64 1, .func (.func 163) #[] #[], 1⟩
def ef3 : Array MapEntry := ef2.push ⟨.int .i64 2, .func (.func 166) #[] #[], 2⟩
def ef4 : Array MapEntry := ef3.push ⟨.int .i64 3, .func (.func 168) #[] #[], 3⟩
theorem eIns_run (w : World) (es : Array MapEntry) (c : Nat) (key : Int) (val : Value) (hf : Instr.findNow (.int .i64) (.int .i64 key) es.toList 0 = some none) :
    (Instr.mapUpdate 214 (.map (some w.heap.size)) (.int .i64 key) val).run Tryz.prog (w.alloc (.map es c)) = .ok () (w.alloc (.map (es.push ⟨.int .i64 key, val, c⟩) (c + 1))) := by
  have hb : (w.alloc (.map es c)).heap[w.heap.size]? = some (.map es c) := heap_alloc_new w _
  have hc : (Instr.checkKey false 10000 3 (.int .i64 key)).run Tryz.prog (w.alloc (.map es c)) = .ok () (w.alloc (.map es c)) := MapKept.run_checkKey (k := .int .i64 key) Tryz.underlying3 (by simp [MapKept.IsKey]) false 9999
  have hs : ({ w.alloc (.map es c) with heap := (w.alloc (.map es c)).heap.setIfInBounds w.heap.size (.map (es.push ⟨.int .i64 key, val, c⟩) (c + 1)) } : World) = w.alloc (.map (es.push ⟨.int .i64 key, val, c⟩) (c + 1)) := by
    unfold World.alloc
    simp only [push_set]
  simp [Instr.mapUpdate, run_underlying Tryz.underlying214, MapKept.run_getObj_map hb, hc, MapKept.run_findKey Tryz.underlying3 hf, MapKept.run_setObj_map _ hb, Result.andThen]
  exact hs
theorem eLook (w : World) (b : Nat) (hb : w.heap[b]? = some (.map ef4 4)) :
    (Instr.lookup 214 (.map (some b)) (.int .i64 0) true).run Tryz.prog w = .ok (.tuple #[.func (.func 159) #[] #[], .bool true]) w := by
  have hf : Instr.findNow (.int .i64) (.int .i64 0) ef4.toList 0 = some (some (0, .func (.func 159) #[] #[])) := rfl
  have hc : (Instr.checkKey ef4.isEmpty 10000 3 (.int .i64 0)).run Tryz.prog w = .ok () w := MapKept.run_checkKey (k := .int .i64 0) Tryz.underlying3 (by simp [MapKept.IsKey]) _ 9999
  simp [Instr.lookup, run_underlying Tryz.underlying214, MapKept.run_getObj_map hb, hc, MapKept.run_findKey Tryz.underlying3 hf]
set_option maxRecDepth 100000 in
theorem effects_any (w : World) : Calls Tryz.prog 133 #[] w fun e w' => e = .returned (.map (some w.heap.size)) ∧ w.alloc (.map ef4 4) = w' := by
  have hmm := @run_makeMap Tryz.prog
  have e0 := eIns_run w #[] 0 0 (.func (.func 159) #[] #[]) rfl
  have e1 := eIns_run w ef1 1 1 (.func (.func 163) #[] #[]) rfl
  have e2 := eIns_run w ef2 2 2 (.func (.func 166) #[] #[]) rfl
  have e3 := eIns_run w ef3 3 3 (.func (.func 168) #[] #[]) rfl
  rw [show (#[] : Array MapEntry).push ⟨.int .i64 0, .func (.func 159) #[] #[], 0⟩ = ef1 from rfl] at e0
  rw [show ef1.push ⟨.int .i64 1, .func (.func 163) #[] #[], 1⟩ = ef2 from rfl] at e1
  rw [show ef2.push ⟨.int .i64 2, .func (.func 166) #[] #[], 2⟩ = ef3 from rfl] at e2
  rw [show ef3.push ⟨.int .i64 3, .func (.func 168) #[] #[], 3⟩ = ef4 from rfl] at e3
  go_enter Tryz.func133, Tryz.ntmps133
  go_wp2
  go_ret
  exact ⟨rfl, rfl⟩

/-! ### the put -/
def PutP (w : World) (e : Ending) (w' : World) : Prop := ∃ v, e = .returned (.tuple #[v, .int .i64 0]) ∧ w'.ownsRow w.heap.size 143 2 v 1 [.string ⟨#[107]⟩, .string ⟨#[107, 49]⟩] ∧ Below w.heap.size w w'
structure PV (w W : World) : Prop where
  b1 : Blk W w.heap.size 38 (dV 200).toArray
  b2 : Blk W (w.heap.size + 1) 43 #[.int .i64 0, .int .i64 200, .string ⟨#[107]⟩, .string ⟨#[107, 49]⟩, .string ⟨#[]⟩]
  b3 : Blk W (w.heap.size + 2) 143 #[.string ⟨#[107]⟩, .string ⟨#[107, 49]⟩]
  sz : w.heap.size + 3 ≤ W.heap.size
  be : Below w.heap.size w W
def pX (w : World) : World := ((w.alloc (.cells (dV 200).toArray 38)).alloc (.cells #[.int .i64 0, .int .i64 200, .string ⟨#[107]⟩, .string ⟨#[107, 49]⟩, .string ⟨#[]⟩] 43)).alloc (.cells #[.string ⟨#[107]⟩, .string ⟨#[107, 49]⟩] 143)
theorem pv_start (w : World) : PV w (pX w) :=
  ⟨((Blk.new w _ _).alloc _).alloc _, (blk_at (w.alloc (.cells (dV 200).toArray 38)) _ _ (w.heap.size + 1) (by simp)).alloc _, blk_at _ _ _ _ (by simp), by simp [pX], (((Below.refl _ _).alloc (Nat.le_refl _) _).alloc (by simp) _).alloc (by simp; omega) _⟩
theorem pv_next (w W W' : World) (h : PV w W) (hb : Below W.heap.size W W') : PV w W' :=
  have hz := h.sz
  ⟨h.b1.below hb (by omega), h.b2.below hb (by omega), h.b3.below hb (by omega), Nat.le_trans h.sz hb.size, below_next h.be hb (by omega)⟩
theorem pv_0 {w W : World} (h : PV w W) : W.cell? ⟨w.heap.size + 2, 0, none⟩ = some (.string ⟨#[107]⟩) := (h.b3.cell 0).trans rfl
theorem pv_1 {w W : World} (h : PV w W) : W.cell? ⟨w.heap.size + 2, 1, none⟩ = some (.string ⟨#[107, 49]⟩) := (h.b3.cell 1).trans rfl
theorem pv_2 {w W : World} (h : PV w W) : W.cell? ⟨w.heap.size + 1, 2, none⟩ = some (.string ⟨#[107]⟩) := (h.b2.cell 2).trans rfl
theorem pair_rd (W : World) : Rd (W.alloc (.cells #[.string ⟨#[107]⟩, .string ⟨#[107, 49]⟩] 143)) (W.alloc (.cells #[.string ⟨#[107]⟩, .string ⟨#[107, 49]⟩] 143)).heap.size 2 (some ⟨W.heap.size, 0, none⟩) 1 [.string ⟨#[107]⟩, .string ⟨#[107, 49]⟩] :=
  (rd_new W [.string ⟨#[107]⟩, .string ⟨#[107, 49]⟩] 143 1 2 rfl).more (by simp)
theorem pair_one : ∀ u ∈ ([.string ⟨#[107]⟩, .string ⟨#[107, 49]⟩] : List Value), u.oneCell' = true := by
  intro u hu
  simp at hu
  rcases hu with rfl | rfl <;> rfl
theorem put_end (w W w' : World) (h : PV w W) (e : Ending) (hg : GivesRow (W.alloc (.cells #[.string ⟨#[107]⟩, .string ⟨#[107, 49]⟩] 143)) 143 2 1 [.string ⟨#[107]⟩, .string ⟨#[107, 49]⟩] e w') :
    ∃ v, e = .returned v ∧ w'.ownsRow w.heap.size 143 2 v 1 [.string ⟨#[107]⟩, .string ⟨#[107, 49]⟩] ∧ Below w.heap.size w w' := by
  obtain ⟨v, h1, h2, h3⟩ := hg
  have hz := h.sz
  refine ⟨v, h1, own_lowM h2 (by simp; omega), below_next (h.be.alloc (by omega) _) h3 (by simp; omega)⟩
set_option maxRecDepth 100000 in
set_option maxHeartbeats 2000000 in
theorem put_a (w : World) : Calls Tryz.prog 159 #[.agg (dV 200).toArray, .slice none 0 0, .agg #[.int .i64 0, .int .i64 200, .string ⟨#[107]⟩, .string ⟨#[107, 49]⟩, .string ⟨#[]⟩]] w (PutP w) := by
  have HX : Hid (PV w (((w.alloc (.cells (dV 200).toArray 38)).alloc (.cells #[.int .i64 0, .int .i64 200, .string ⟨#[107]⟩, .string ⟨#[107, 49]⟩, .string ⟨#[]⟩] 43)).alloc (.cells #[.string ⟨#[107]⟩, .string ⟨#[107, 49]⟩] 143))) := Lib.hid (pv_start w)
  have HD := Lib.hid fun W => direct_a 200 W
  have HI := Lib.hid fun vb W hs => insert_nil vb [.string ⟨#[107]⟩, .string ⟨#[107, 49]⟩] W hs pair_one
  have HE := Lib.hid fun W w' h e hg => put_end w W w' h e hg
  go_enter Tryz.func159, Tryz.ntmps159
  go_wp2_with (first | (refine wpList_load_row rfl 38 _ rfl w.heap.size rfl 38 _ (0, 0) _ HX.out.b1 Tryz.underlying38 rfl (by kernel_rfl) ?_) | (refine wpList_load_row rfl 38 _ rfl w.heap.size rfl 38 _ (0, 0) _ HX2.out.b1 Tryz.underlying38 rfl (by kernel_rfl) ?_) | (go_at_call 160; refine (HD.out _).mono ?_; rintro e w2 ⟨rfl, hb⟩; have HX2 := Lib.hid (pv_next w _ _ HX.out hb); clear hb; have c0 := pv_0 HX2.out; have c1 := pv_1 HX2.out) | (go_at_call 97; refine (allowed_a _).mono ?_; rintro e w3 ⟨rfl, hb⟩; have HX3 := Lib.hid (pv_next w _ _ HX2.out hb); clear hb c0 c1; have c2 := pv_2 HX3.out) | (go_at_call 161; refine (find_nil _ _).mono ?_; rintro e w4 ⟨rfl, hb⟩; have HX4 := Lib.hid (pv_next w _ _ HX3.out hb); clear hb c2; have c0 := pv_0 HX4.out; have c1 := pv_1 HX4.out) | (go_at_call 162; refine (HI.out _ _ (pair_rd _)).mono ?_; intro e w5 hgv; obtain ⟨v, rfl, hown, hbel⟩ := HE.out _ _ HX4.out _ hgv; have HOW := Lib.hid hown; have HBE := Lib.hid hbel; clear hgv hown hbel))
  go_ret2
  exact ⟨v, rfl, HOW.out, HBE.out⟩
end Go.Proofs.YtpklgdclknicjaaGreatDoor
