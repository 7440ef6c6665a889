/- History, awake: the state after a unit. -/
import Derived.Test.YtpklgdclknicjaaGreatDoorME
namespace Go.Proofs.YtpklgdclknicjaaGreatDoor
open Go.RowKit

set_option maxRecDepth 100000 in
set_option maxHeartbeats 2000000 in
theorem after_none (bs : Nat) (u n : Int) (rA : Option Addr) (rn rc : Nat) (w : World) : Calls Tryz.prog 48 #[.map (some bs), .agg #[.int .i64 u, .int .i64 n, .slice rA rn rc, .slice none 0 0]] w fun e w' => e = .returned (.int .i64 0) ∧ Below w.heap.size w w' := by
  go_enter Tryz.func48, Tryz.ntmps48
  go_wp2
  refine wp_loop_rounds 1 ?_
  rw [rounds_succ]
  go_wp2
  refine wp_loop_rounds 1 ?_
  rw [rounds_succ]
  go_wp2
  go_ret
  exact ⟨rfl, (Below.refl _ _).alloc (Nat.le_refl _) _⟩

/-- behind a unit that puts -/
def AftP (bs : Nat) (w : World) (e : Ending) (w' : World) : Prop := ∃ g c, e = .returned (.int .i64 0) ∧ St w' bs (bV (.slice (some ⟨g, 0, none⟩) 1 c)) ∧
  w'.ownsRow (bs + 1) 143 2 (.slice (some ⟨g, 0, none⟩) 1 c) 1 [.string ⟨#[107]⟩, .string ⟨#[107, 49]⟩] ∧ Below bs w w'
structure XV (bs : Nat) (w W : World) : Prop where
  b1 : Blk W (w.heap.size + 1 + 1 + 1) 43 cV.toArray
  st : St W bs (aV 200)
  lt : bs < w.heap.size
  sz : w.heap.size + 5 ≤ W.heap.size
  be : Below w.heap.size w W
theorem xv_next (bs : Nat) (w W W' : World) (h : XV bs w W) (hb : Below W.heap.size W W') : XV bs w W' :=
  have hz := h.sz
  have hl := h.lt
  ⟨h.b1.below hb (by omega), h.st.below hb (by omega), hl, Nat.le_trans hz hb.size, below_next h.be hb (by omega)⟩
theorem xv_start (bs : Nat) (w : World) (o1 o2 o3 o5 : Obj) (h : St w bs (aV 200)) : XV bs w (((((w.alloc o1).alloc o2).alloc o3).alloc (.cells cV.toArray 43)).alloc o5) :=
  ⟨(blk_at (((w.alloc o1).alloc o2).alloc o3) _ _ _ (by simp)).alloc _, ((((h.alloc _).alloc _).alloc _).alloc _).alloc _, h.lt, by simp, (((((Below.refl _ _).alloc (Nat.le_refl _) _).alloc (by simp) _).alloc (by simp; omega) _).alloc (by simp; omega) _).alloc (by simp; omega) _⟩
theorem aft_end (bs g c : Nat) (w W : World) (h : XV bs w W) (ho : W.ownsRow (w.heap.size + 5) 143 2 (.slice (some ⟨g, 0, none⟩) 1 c) 1 [.string ⟨#[107]⟩, .string ⟨#[107, 49]⟩]) (o : Obj) :
    AftP bs w (.returned (.int .i64 0)) (setSt (W.alloc o) bs (bV (.slice (some ⟨g, 0, none⟩) 1 c))) := by
  have hl := h.lt
  have hz := h.sz
  have hg := (ho.lt g rfl).1
  refine ⟨g, c, rfl, setSt_st _ _ _ (by simp; omega), own_lowM (base := w.heap.size + 5) ?_ (by omega), setSt_below _ ((h.be.mono (by omega)).alloc (by omega) _) (Nat.le_refl _)⟩
  refine (ho.alloc o).kept (row := some bs) ⟨rfl, rfl, rfl, by simp [setSt], fun k _ hk => ?_⟩ (.inr (by simp [Value.ownBlock]; omega))
  show ((W.alloc o).heap.setIfInBounds bs _)[k]? = _
  rw [Array.getElem?_setIfInBounds_ne (fun e => hk (by rw [e]))]
theorem aft_do (bs : Nat) (w W W' : World) (h : XV bs w W) (e : Ending) (hp : DoP W e W') : ∃ g c, e = .returned (.tuple #[.agg (bV (.slice (some ⟨g, 0, none⟩) 1 c)).toArray, .int .i64 0]) ∧ XV bs w W' ∧ W'.ownsRow (w.heap.size + 5) 143 2 (.slice (some ⟨g, 0, none⟩) 1 c) 1 [.string ⟨#[107]⟩, .string ⟨#[107, 49]⟩] := by
  obtain ⟨g, c, rfl, h2, h3⟩ := hp
  exact ⟨g, c, rfl, xv_next bs w _ _ h h3, own_lowM h2 h.sz⟩
theorem setRow_newF (X : World) (old cs : Array Value) (t : TypeId) : (X.alloc (.cells old t)).setRow X.heap.size cs = X.alloc (.cells cs t) := World.setRow_alloc_new X old cs t
set_option maxRecDepth 100000 in
set_option maxHeartbeats 4000000 in
theorem after_put (bs g cc : Nat) (w : World) (hs : St w bs (aV 200)) (hg : g < w.heap.size) (hr : w.rangeAt g 0 cV) :
    Calls Tryz.prog 48 #[.map (some bs), .agg #[.int .i64 9, .int .i64 5, .slice none 0 0, .slice (some ⟨g, 0, none⟩) 1 cc]] w (AftP bs w) := by
  have hk : ∀ (o : Obj) (j : Nat) (W : World), g < W.heap.size → (W.alloc o).cell? ⟨g, j, none⟩ = W.cell? ⟨g, j, none⟩ := fun o j W h => World.cell?_alloc_lt W o _ h
  have hc : ∀ j v, cV[j]? = some v → w.cell? ⟨g, j, none⟩ = some v := fun j v h => by have := hr j v h; rwa [Nat.zero_add] at this
  have HR1 : Hid (∀ o1, (w.alloc o1).rangeAt g 0 cV) := Lib.hid fun o1 j v h => by rw [hk _ _ _ hg]; exact hr j v h
  have HR3 : Hid (∀ o1 o2 o3, (((w.alloc o1).alloc o2).alloc o3).rangeAt g 0 cV) := Lib.hid fun o1 o2 o3 j v h => by
    rw [hk _ _ _ (by simp; omega), hk _ _ _ (by simp; omega), hk _ _ _ hg]; exact hr j v h
  have l2 : ∀ o1 o2, (Instr.lookup 78 (.map (some bs)) (.int .i64 200) true).run Tryz.prog ((w.alloc o1).alloc o2) = .ok (.tuple #[.agg (aV 200).toArray, .bool true]) ((w.alloc o1).alloc o2) := fun o1 o2 => sLook_yes _ bs _ ((hs.alloc _).alloc _)
  have l4 : ∀ o1 o2 o3 o4, (Instr.lookup 78 (.map (some bs)) (.int .i64 200) true).run Tryz.prog ((((w.alloc o1).alloc o2).alloc o3).alloc o4) = .ok (.tuple #[.agg (aV 200).toArray, .bool true]) ((((w.alloc o1).alloc o2).alloc o3).alloc o4) := fun o1 o2 o3 o4 => sLook_yes _ bs _ ((((hs.alloc _).alloc _).alloc _).alloc _)
  have HA := Lib.hid (aV_one 200)
  have HC : Hid (cV.toArray.all (·.oneCell') = true) := Lib.hid (by simp [cV, Value.oneCell'])
  have HX := Lib.hid fun o1 o2 o3 o5 => xv_start bs w o1 o2 o3 o5 hs
  have HD := Lib.hid fun W W' h e hp => aft_do bs w W W' h e hp
  have HF := Lib.hid fun g c W h ho o => aft_end bs g c w W h ho o
  have B1 : Hid (∀ o1 old, Blk ((w.alloc o1).alloc (.cells old 43)) (w.heap.size + 1) 43 old) := Lib.hid fun o1 old => blk_at (w.alloc o1) _ old _ (by simp)
  have S1 : Hid (∀ o1 old cs, ((w.alloc o1).alloc (.cells old 43)).setRow (w.heap.size + 1) cs = (w.alloc o1).alloc (.cells cs 43)) := Lib.hid fun o1 old cs => setRow_two (w.alloc o1) _ (by simp) old cs _
  have B2 : Hid (∀ o1 o2 old, Blk (((w.alloc o1).alloc o2).alloc (.cells old 41)) (w.heap.size + 1 + 1) 41 old) := Lib.hid fun o1 o2 old => blk_at ((w.alloc o1).alloc o2) _ old _ (by simp)
  have S2 : Hid (∀ o1 o2 old cs, (((w.alloc o1).alloc o2).alloc (.cells old 41)).setRow (w.heap.size + 1 + 1) cs = ((w.alloc o1).alloc o2).alloc (.cells cs 41)) := Lib.hid fun o1 o2 old cs => setRow_two ((w.alloc o1).alloc o2) _ (by simp) old cs _
  have B3 : Hid (∀ o1 o2 o3 old, Blk ((((w.alloc o1).alloc o2).alloc o3).alloc (.cells old 43)) (w.heap.size + 1 + 1 + 1) 43 old) := Lib.hid fun o1 o2 o3 old => blk_at (((w.alloc o1).alloc o2).alloc o3) _ old _ (by simp)
  have S3 : Hid (∀ o1 o2 o3 old cs, ((((w.alloc o1).alloc o2).alloc o3).alloc (.cells old 43)).setRow (w.heap.size + 1 + 1 + 1) cs = (((w.alloc o1).alloc o2).alloc o3).alloc (.cells cs 43)) := Lib.hid fun o1 o2 o3 old cs => setRow_two (((w.alloc o1).alloc o2).alloc o3) _ (by simp) old cs _
  have B4 : Hid (∀ o1 o2 o3 o4 old, Blk (((((w.alloc o1).alloc o2).alloc o3).alloc o4).alloc (.cells old 41)) (w.heap.size + 1 + 1 + 1 + 1) 41 old) := Lib.hid fun o1 o2 o3 o4 old => blk_at ((((w.alloc o1).alloc o2).alloc o3).alloc o4) _ old _ (by simp)
  have S4 : Hid (∀ o1 o2 o3 o4 old cs, (((((w.alloc o1).alloc o2).alloc o3).alloc o4).alloc (.cells old 41)).setRow (w.heap.size + 1 + 1 + 1 + 1) cs = ((((w.alloc o1).alloc o2).alloc o3).alloc o4).alloc (.cells cs 41)) := Lib.hid fun o1 o2 o3 o4 old cs => setRow_two ((((w.alloc o1).alloc o2).alloc o3).alloc o4) _ (by simp) old cs _
  have c1 : ∀ o1, ((w.alloc o1).alloc (.cells cV.toArray 43)).cell? ⟨w.heap.size + 1, 1, none⟩ = some (.int .i64 200) := fun o1 => ((B1.out o1 cV.toArray).cell 1).trans rfl
  have c2 : ∀ o1 o2 o3, ((((w.alloc o1).alloc o2).alloc o3).alloc (.cells cV.toArray 43)).cell? ⟨w.heap.size + 1 + 1 + 1, 1, none⟩ = some (.int .i64 200) := fun o1 o2 o3 => ((B3.out o1 o2 o3 cV.toArray).cell 1).trans rfl
  have c3 : ∀ o1 o2 o3 o4, (((((w.alloc o1).alloc o2).alloc o3).alloc (.cells cV.toArray 43)).alloc o4).cell? ⟨w.heap.size + 1 + 1 + 1, 0, none⟩ = some (.int .i64 0) := fun o1 o2 o3 o4 => (((B3.out o1 o2 o3 cV.toArray).alloc o4).cell 0).trans rfl
  have HB3 : Hid (∀ o1 o2 o3 o4, Blk (((((w.alloc o1).alloc o2).alloc o3).alloc (.cells cV.toArray 43)).alloc o4) (w.heap.size + 1 + 1 + 1) 43 cV.toArray) := Lib.hid fun o1 o2 o3 o4 => (B3.out o1 o2 o3 cV.toArray).alloc o4
  have HDo : Hid (∀ W, Calls Tryz.prog 69 #[.agg (aV 200).toArray, .agg nV.toArray] W (DoP W)) := Lib.hid fun W => Do_a W
  clear hk hc hr hs hg
  go_enter Tryz.func48, Tryz.ntmps48
  go_wp2
  refine wp_loop_rounds 2 ?_
  rw [rounds_succ]
  go_wp2_with (first | ((with_reducible show wpList _ _ _ (⟨_, .load 43 (.tmp 24), _, _, _, _⟩ :: _) _ _); refine wpList_load_mid rfl 43 _ rfl g 0 rfl cV _ (HR1.out _) Tryz.underlying43 rfl (by kernel_rfl) ?_) | ((with_reducible show wpList _ _ _ (⟨_, .store 43 (.tmp 6) _, _, _, _, _⟩ :: _) _ _); refine wpList_store_row rfl 43 _ _ rfl (w.heap.size + 1) cV.toArray rfl rfl 43 _ (B1.out _ _) (by kernel_rfl) rfl HC.out ?_; rw [S1.out]) | ((with_reducible show wpList _ _ _ (⟨_, .store 41 (.tmp 7) _, _, _, _, _⟩ :: _) _ _); refine wpList_store_row rfl 41 _ _ rfl (w.heap.size + 1 + 1) (aV 200).toArray rfl rfl 41 _ (B2.out _ _ _) (by kernel_rfl) rfl HA.out ?_; rw [S2.out]))
  rw [rounds_succ]
  go_wp2
  refine wp_loop_rounds 2 ?_
  rw [rounds_succ]
  go_wp2_with (first | ((with_reducible show wpList _ _ _ (⟨_, .load 43 (.tmp 61), _, _, _, _⟩ :: _) _ _); refine wpList_load_mid rfl 43 _ rfl g 0 rfl cV _ (HR3.out _ _ _) Tryz.underlying43 rfl (by kernel_rfl) ?_) | ((with_reducible show wpList _ _ _ (⟨_, .store 43 (.tmp 12) _, _, _, _, _⟩ :: _) _ _); refine wpList_store_row rfl 43 _ _ rfl (w.heap.size + 1 + 1 + 1) cV.toArray rfl rfl 43 _ (B3.out _ _ _ _) (by kernel_rfl) rfl HC.out ?_; rw [S3.out]) | ((with_reducible show wpList _ _ _ (⟨_, .store 41 (.tmp 13) _, _, _, _, _⟩ :: _) _ _); refine wpList_store_row rfl 41 _ _ rfl (w.heap.size + 1 + 1 + 1 + 1) (aV 200).toArray rfl rfl 41 _ (B4.out _ _ _ _ _) (by kernel_rfl) rfl HA.out ?_; rw [S4.out]) | ((with_reducible show wpList _ _ _ (⟨_, .load 41 (.tmp 13), _, _, _, _⟩ :: _) _ _); refine wpList_load_row rfl 41 _ rfl (w.heap.size + 1 + 1 + 1 + 1) rfl 41 _ (0, 0) _ (B4.out _ _ _ _ _) Tryz.underlying41 rfl (by kernel_rfl) ?_) | ((with_reducible show wpList _ _ _ (⟨_, .load 43 (.tmp 12), _, _, _, _⟩ :: _) _ _); refine wpList_load_row rfl 43 _ rfl (w.heap.size + 1 + 1 + 1) rfl 43 _ (0, 0) _ (HB3.out _ _ _ _) Tryz.underlying43 rfl (by kernel_rfl) ?_) | ((with_reducible show wpList _ _ _ (⟨_, .build 139 _, _, _, _, _⟩ :: _) _ _); refine wpList_build_held (by kernel_rfl) 139 _ rfl nV.toArray (by kernel_rfl) ?_))
  refine (HDo.out _).mono ?_
  intro e w5 hp
  obtain ⟨g', c, rfl, h5, ho⟩ := HD.out _ _ (HX.out _ _ _ _) _ hp
  have HX5 := Lib.hid h5
  have HO := Lib.hid ho
  clear hp h5 ho l2 l4 c1 c2 c3
  have c4 : ∀ o, (w5.alloc o).cell? ⟨w.heap.size + 1 + 1 + 1, 1, none⟩ = some (.int .i64 200) := fun o => ((HX5.out.b1.alloc o).cell 1).trans rfl
  have hp := fun o => sPut_old (w5.alloc o) bs (bV (.slice (some ⟨g', 0, none⟩) 1 c)) _ (HX5.out.st.alloc o)
  have HB := Lib.hid fun old => Blk.new w5 41 old
  have HS := Lib.hid fun old => setRow_newF w5 old (bV (.slice (some ⟨g', 0, none⟩) 1 c)).toArray 41
  go_wp2_with (first | ((with_reducible show wpList _ _ _ (⟨_, .store 41 (.tmp 17) _, _, _, _, _⟩ :: _) _ _); refine wpList_store_row rfl 41 _ _ rfl w5.heap.size (bV (.slice (some ⟨g', 0, none⟩) 1 c)).toArray rfl rfl 41 _ (HB.out _) (by kernel_rfl) rfl (bV_one g' c) ?_; rw [HS.out]) | ((with_reducible show wpList _ _ _ (⟨_, .load 41 (.tmp 17), _, _, _, _⟩ :: _) _ _); refine wpList_load_row rfl 41 _ rfl w5.heap.size rfl 41 _ (0, 0) _ (HB.out _) Tryz.underlying41 rfl (by kernel_rfl) ?_))
  rw [rounds_succ]
  go_wp2
  go_ret
  exact HF.out _ _ _ HX5.out HO.out _
end Go.Proofs.YtpklgdclknicjaaGreatDoor
