/- History, awake: forward.Do puts the example's record. -/
import Derived.Test.YtpklgdclknicjaaGreatDoorMC
import Derived.Test.YtpklgdclknicjaaGreatDoorHJ
namespace Go.Proofs.YtpklgdclknicjaaGreatDoor
open Go.RowKit

section
variable {P : Program} {ops : Array Oper} {rest : List Oper} {o : Oper} {a : Act} {w : World} {Q : Exit → Act → World → Prop}
theorem wpList_load_mid_held (hw : Region.wanted o (yielded ops a.tmps) = true) (ty : TypeId) (x : Operand) (ho : o.op = .load ty x)
    (b s : Nat) (hx : a.eval x = .pointer (some ⟨b, s, none⟩)) (cs : List Value) (d : TypeDesc) (hc : w.rangeAt b s cs)
    (hu : P.underlying ty = some d) (hd : d.isRow = true) (hi : (P.info? ty).map (·.size) = some cs.length)
    (h : wpList P ops Q rest (a.put o.dst (.agg cs.toArray)) w) : wpList P ops Q (o :: rest) a w :=
  wpList_held hw fun _ hK => wp_load_mid ty x ho b s hx cs d hc hu hd hi (hK _ _ h)
end
theorem Blk.range {w : World} {g : Nat} {t : TypeId} {cs : Array Value} (h : Blk w g t cs) (o : Nat) (xs : List Value) (hx : ∀ j v, xs[j]? = some v → cs[o + j]? = some v) : w.rangeAt g o xs :=
  fun j v hv => (h.cell (o + j)).trans (hx j v hv)
/-- the content behind the put -/
def bV (v : Value) : List Value := dV 200 ++ [.int .i64 5, v]
def nV : List Value := [.int .i64 5, .int .i64 0, .int .i64 200, .string ⟨#[107]⟩, .string ⟨#[107, 49]⟩, .string ⟨#[]⟩]
def cV : List Value := [.int .i64 0, .int .i64 200, .string ⟨#[107]⟩, .string ⟨#[107, 49]⟩, .string ⟨#[]⟩]
theorem app_at {xs ys : List Value} {j : Nat} {v : Value} (h : xs[j]? = some v) : (xs ++ ys).toArray[0 + j]? = some v := by
  obtain ⟨hj, _⟩ := List.getElem?_eq_some_iff.1 h
  rw [List.getElem?_toArray, Nat.zero_add, List.getElem?_append_left hj, h]
theorem nV_at {j : Nat} {v : Value} (h : cV[j]? = some v) : nV.toArray[1 + j]? = some v := by
  rw [List.getElem?_toArray, Nat.add_comm]
  exact h
theorem bV_one (g c : Nat) : (bV (.slice (some ⟨g, 0, none⟩) 1 c)).toArray.all (·.oneCell') = true := by simp [bV, dV, Value.oneCell']
structure EV (w W : World) : Prop where
  b1 : Blk W w.heap.size 41 (aV 200).toArray
  b2 : Blk W (w.heap.size + 1) 139 nV.toArray
  b3 : ∃ old, old.size = 23 ∧ Blk W (w.heap.size + 2) 41 old
  sz : w.heap.size + 3 ≤ W.heap.size
  be : Below w.heap.size w W
theorem ev_start (w : World) (old : Array Value) (h : old.size = 23) : EV w (((w.alloc (.cells (aV 200).toArray 41)).alloc (.cells nV.toArray 139)).alloc (.cells old 41)) :=
  ⟨((Blk.new w _ _).alloc _).alloc _, (blk_at (w.alloc (.cells (aV 200).toArray 41)) _ _ (w.heap.size + 1) (by simp)).alloc _, ⟨old, h, blk_at _ _ _ _ (by simp)⟩, by simp, (((Below.refl _ _).alloc (Nat.le_refl _) _).alloc (by simp) _).alloc (by simp; omega) _⟩
theorem ev_next (w W W' : World) (h : EV w W) (hb : Below W.heap.size W W') : EV w W' :=
  have hz := h.sz
  ⟨h.b1.below hb (by omega), h.b2.below hb (by omega), let ⟨o, h1, h2⟩ := h.b3; ⟨o, h1, h2.below hb (by omega)⟩, Nat.le_trans h.sz hb.size, below_next h.be hb (by omega)⟩
theorem ev_r1 {w W : World} (h : EV w W) : W.rangeAt w.heap.size 0 (dV 200) := h.b1.range 0 _ fun _ _ hv => app_at hv
theorem ev_r2 {w W : World} (h : EV w W) : W.rangeAt (w.heap.size + 1) 1 cV := h.b2.range 1 _ fun _ _ hv => nV_at hv
theorem ev_0 {w W : World} (h : EV w W) : W.cell? ⟨w.heap.size, 0, none⟩ = some (.int .i64 200) := (h.b1.cell 0).trans rfl
theorem ev_21 {w W : World} (h : EV w W) : W.cell? ⟨w.heap.size, 21, none⟩ = some (.int .i64 4) := (h.b1.cell 21).trans rfl
theorem ev_22 {w W : World} (h : EV w W) : W.cell? ⟨w.heap.size, 22, none⟩ = some (.slice none 0 0) := (h.b1.cell 22).trans rfl
theorem ev_n0 {w W : World} (h : EV w W) : W.cell? ⟨w.heap.size + 1, 0, none⟩ = some (.int .i64 5) := (h.b2.cell 0).trans rfl
theorem ev_n1 {w W : World} (h : EV w W) : W.cell? ⟨w.heap.size + 1, 1, none⟩ = some (.int .i64 0) := (h.b2.cell 1).trans rfl
theorem ev_n2 {w W : World} (h : EV w W) : W.cell? ⟨w.heap.size + 1, 2, none⟩ = some (.int .i64 200) := (h.b2.cell 2).trans rfl
/-- a content came back, with one pair of the call's own -/
def DoP (w : World) (e : Ending) (w' : World) : Prop := ∃ g c, e = .returned (.tuple #[.agg (bV (.slice (some ⟨g, 0, none⟩) 1 c)).toArray, .int .i64 0]) ∧
  w'.ownsRow w.heap.size 143 2 (.slice (some ⟨g, 0, none⟩) 1 c) 1 [.string ⟨#[107]⟩, .string ⟨#[107, 49]⟩] ∧ Below w.heap.size w w'
theorem below_row {B g : Nat} {w0 w : World} (hb : Below B w0 w) (hBg : B ≤ g) (cs : Array Value) : Below B w0 (w.setRow g cs) :=
  hb.trans ⟨rfl, rfl, rfl, by simp, fun k hk => setRow_other w g k cs (by omega)⟩
theorem do_end (w W : World) (g c : Nat) (h : EV w W) (ho : W.ownsRow (w.heap.size + 3) 143 2 (.slice (some ⟨g, 0, none⟩) 1 c) 1 [.string ⟨#[107]⟩, .string ⟨#[107, 49]⟩]) (cs : Array Value) :
    (W.setRow (w.heap.size + 2) cs).ownsRow w.heap.size 143 2 (.slice (some ⟨g, 0, none⟩) 1 c) 1 [.string ⟨#[107]⟩, .string ⟨#[107, 49]⟩] ∧ Below w.heap.size w (W.setRow (w.heap.size + 2) cs) := by
  have hg := (ho.lt g rfl).1
  refine ⟨own_lowM (base := w.heap.size + 3) ?_ (by omega), below_row h.be (by omega) _⟩
  refine ho.kept (row := some (w.heap.size + 2)) ⟨rfl, rfl, rfl, by simp, fun k _ hk => setRow_other W _ k cs (fun e => hk (by rw [e]))⟩ (.inr ?_)
  simp [Value.ownBlock]
  omega
theorem results_do (W : World) (b : Nat) (cs : Array Value) (h : Blk W b 41 cs) (hs : cs.size = 23) : (loadVar 41 ⟨b, 0, none⟩).run Tryz.prog W = .ok (.agg cs) W :=
  run_loadVar_row W b 41 41 cs (0, 0) _ h Tryz.underlying41 rfl (by rw [hs]; kernel_rfl)
theorem results_cell_tmp {P : Program} {fn : Func} {tmps : Array Value} {p q : Nat} {t : TypeId} {b : Nat} {c v : Value} {W : World} (h : fn.results = #[.cell p t, .tmp q]) (hp : tmps.getD p undef = .pointer (some ⟨b, 0, none⟩)) (hq : tmps.getD q undef = v)
    (hl : (loadVar t ⟨b, 0, none⟩).run P W = .ok c W) : (results fn tmps).run P W = .ok (.tuple #[c, v]) W := by
  have hp' : tmps[p]?.getD undef = .pointer (some ⟨b, 0, none⟩) := by simpa using hp
  have hq' : tmps[q]?.getD undef = v := by simpa using hq
  simp [results, h, hp', hq', asAddr, hl]
theorem put_split (w W W' : World) (h : EV w W) (e : Ending) (hp : PutP W e W') : ∃ g c, e = .returned (.tuple #[.slice (some ⟨g, 0, none⟩) 1 c, .int .i64 0]) ∧ EV w W' ∧ W'.ownsRow (w.heap.size + 3) 143 2 (.slice (some ⟨g, 0, none⟩) 1 c) 1 [.string ⟨#[107]⟩, .string ⟨#[107, 49]⟩] := by
  obtain ⟨v, rfl, h2, h3⟩ := hp
  obtain ⟨g, c, rfl, _⟩ := own_at h2 (by decide)
  exact ⟨g, c, rfl, ev_next w _ _ h h3, own_lowM h2 h.sz⟩
theorem effW_below (W : World) : Below W.heap.size W (W.alloc (.map ef4 4)) := (Below.refl _ _).alloc (Nat.le_refl _) _

theorem blk_drew {w : World} {g : Nat} {t : TypeId} {cs : Array Value} (h : Blk w g t cs) : Blk w.drew g t cs := h
theorem ev_drew {w W : World} (h : EV w W) : EV w W.drew := ⟨h.b1, h.b2, h.b3, h.sz, h.be.drew⟩
set_option maxRecDepth 100000 in
set_option maxHeartbeats 4000000 in
theorem do_a (w : World) : Calls Tryz.prog 101 #[.agg (aV 200).toArray, .agg nV.toArray] w (DoP w) := by
  have c0 : (((w.alloc (.cells (aV 200).toArray 41)).alloc (.cells nV.toArray 139)).alloc (.cells zV.toArray 41)).cell? ⟨w.heap.size, 0, none⟩ = some (.int .i64 200) := ev_0 (ev_start w _ rfl)
  have c21 : (((w.alloc (.cells (aV 200).toArray 41)).alloc (.cells nV.toArray 139)).alloc (.cells zV.toArray 41)).cell? ⟨w.heap.size, 21, none⟩ = some (.int .i64 4) := ev_21 (ev_start w _ rfl)
  have c22 : (((w.alloc (.cells (aV 200).toArray 41)).alloc (.cells nV.toArray 139)).alloc (.cells zV.toArray 41)).cell? ⟨w.heap.size, 22, none⟩ = some (.slice none 0 0) := ev_22 (ev_start w _ rfl)
  have n0 : (((w.alloc (.cells (aV 200).toArray 41)).alloc (.cells nV.toArray 139)).alloc (.cells zV.toArray 41)).cell? ⟨w.heap.size + 1, 0, none⟩ = some (.int .i64 5) := ev_n0 (ev_start w _ rfl)
  have n1 : (((w.alloc (.cells (aV 200).toArray 41)).alloc (.cells nV.toArray 139)).alloc (.cells zV.toArray 41)).cell? ⟨w.heap.size + 1, 1, none⟩ = some (.int .i64 0) := ev_n1 (ev_start w _ rfl)
  have n2 : (((w.alloc (.cells (aV 200).toArray 41)).alloc (.cells nV.toArray 139)).alloc (.cells zV.toArray 41)).cell? ⟨w.heap.size + 1, 2, none⟩ = some (.int .i64 200) := ev_n2 (ev_start w _ rfl)
  have n1e : ((((w.alloc (.cells (aV 200).toArray 41)).alloc (.cells nV.toArray 139)).alloc (.cells zV.toArray 41)).alloc (.map ef4 4)).cell? ⟨w.heap.size + 1, 1, none⟩ = some (.int .i64 0) := ev_n1 (ev_next w _ _ (ev_start w _ rfl) (effW_below _))
  have l1 : (Instr.lookup 214 (.map (some (w.heap.size + 1 + 1 + 1))) (.int .i64 0) true).run Tryz.prog ((((w.alloc (.cells (aV 200).toArray 41)).alloc (.cells nV.toArray 139)).alloc (.cells zV.toArray 41)).alloc (.map ef4 4)) = .ok (.tuple #[.func (.func 159) #[] #[], .bool true]) ((((w.alloc (.cells (aV 200).toArray 41)).alloc (.cells nV.toArray 139)).alloc (.cells zV.toArray 41)).alloc (.map ef4 4)) := eLook ((((w.alloc (.cells (aV 200).toArray 41)).alloc (.cells nV.toArray 139)).alloc (.cells zV.toArray 41)).alloc (.map ef4 4)) (w.heap.size + 3) (heap_at (((w.alloc (.cells (aV 200).toArray 41)).alloc (.cells nV.toArray 139)).alloc (.cells zV.toArray 41)) _ (w.heap.size + 3) (by simp))
  have l2 : (Instr.lookup 214 (.map (some (w.heap.size + 1 + 1 + 1))) (.int .i64 0) true).run Tryz.prog ((((w.alloc (.cells (aV 200).toArray 41)).alloc (.cells nV.toArray 139)).alloc (.cells zV.toArray 41)).alloc (.map ef4 4)).drew = .ok (.tuple #[.func (.func 159) #[] #[], .bool true]) ((((w.alloc (.cells (aV 200).toArray 41)).alloc (.cells nV.toArray 139)).alloc (.cells zV.toArray 41)).alloc (.map ef4 4)).drew := eLook ((((w.alloc (.cells (aV 200).toArray 41)).alloc (.cells nV.toArray 139)).alloc (.cells zV.toArray 41)).alloc (.map ef4 4)).drew (w.heap.size + 3) (heap_at (((w.alloc (.cells (aV 200).toArray 41)).alloc (.cells nV.toArray 139)).alloc (.cells zV.toArray 41)) _ (w.heap.size + 3) (by simp))
  have HE : Hid (EV w ((((w.alloc (.cells (aV 200).toArray 41)).alloc (.cells nV.toArray 139)).alloc (.cells zV.toArray 41)).alloc (.map ef4 4)).drew) := Lib.hid (ev_drew (ev_next w _ _ (ev_start w _ rfl) (effW_below _)))
  have HP := Lib.hid fun W W' h e hp => put_split w W W' h e hp
  have HD := Lib.hid fun W g c h ho cs => do_end w W g c h ho cs
  unfold zV at c0 c21 c22 n0 n1 n2 n1e l1 l2 HE
  go_enter Tryz.func101, Tryz.ntmps101
  go_wp2_with (go_at_call 70; refine (cloneP_nil _).mono ?_; rintro e w' ⟨rfl, rfl⟩)
  go_region_held3 (fun w' => w'.cell? ⟨w.heap.size + 1, 1, none⟩ = some (.int .i64 0)) (first | go_keep | exact n1 | exact n1e) ((go_at_call 133; refine (effects_any _).mono ?_; rintro e w' ⟨rfl, rfl⟩))
  all_goals
    clear l1 l2 c0 c21 c22 n0 n1 n2 n1e
    go_wp2_with (first | (refine wpList_load_mid rfl 38 _ rfl w.heap.size 0 rfl (dV 200) _ (ev_r1 HE.out) Tryz.underlying38 rfl (by kernel_rfl) ?_) | (refine wpList_load_mid rfl 43 _ rfl (w.heap.size + 1) 1 rfl cV _ (ev_r2 HE.out) Tryz.underlying43 rfl (by kernel_rfl) ?_) | (go_at_call 159; refine (put_a _).mono ?_; intro e w5 hp; obtain ⟨g, c, rfl, h5, ho⟩ := HP.out _ _ HE.out _ hp; have HX5 := Lib.hid h5; have HO := Lib.hid ho; clear hp ho; obtain ⟨old, hos, hob⟩ := h5.b3; have HOS := Lib.hid hos; have HOB := Lib.hid hob; clear h5 hos hob; have n0 := ev_n0 HX5.out) | (refine wpList_load_mid rfl 38 _ rfl w.heap.size 0 rfl (dV 200) _ (ev_r1 HX5.out) Tryz.underlying38 rfl (by kernel_rfl) ?_) | (refine wpList_build_held (by kernel_rfl) 41 _ rfl (bV (.slice (some ⟨g, 0, none⟩) 1 c)).toArray (by kernel_rfl) ?_) | (refine wpList_store_row rfl 41 _ _ rfl (w.heap.size + 1 + 1) (bV (.slice (some ⟨g, 0, none⟩) 1 c)).toArray rfl rfl 41 old HOB.out (by kernel_rfl) HOS.out (bV_one g c) ?_))
    have hr := results_do (w5.setRow (w.heap.size + 1 + 1) (bV (.slice (some ⟨g, 0, none⟩) 1 c)).toArray) (w.heap.size + 1 + 1) (bV (.slice (some ⟨g, 0, none⟩) 1 c)).toArray (setRow_heap _ _ _ _ _ _ HOB.out) rfl
    exact bodyPost_ret (v := .tuple #[.agg (bV (.slice (some ⟨g, 0, none⟩) 1 c)).toArray, .int .i64 0]) (results_cell_tmp Tryz.results101 rfl rfl hr) rfl ⟨g, c, rfl, HD.out _ _ _ HX5.out HO.out _⟩
end Go.Proofs.YtpklgdclknicjaaGreatDoor
