/- History, awake: a reader of one content. -/
import Derived.Test.YtpklgdclknicjaaGreatDoorMF
namespace Go.Proofs.YtpklgdclknicjaaGreatDoor
open Go.RowKit

/-- the example's pairs: none, or the one that was put -/
def PR (b : Bool) (w : World) (A : Option Addr) (n c : Nat) : Prop :=
  if b = true then ∃ g, A = some ⟨g, 0, none⟩ ∧ n = 1 ∧ 1 ≤ c ∧ c ≤ maxLen ∧ g < w.heap.size ∧ w.rangeAt g 0 [.string ⟨#[107]⟩, .string ⟨#[107, 49]⟩] else A = none ∧ n = 0 ∧ c = 0
theorem range_below {w w' : World} {B g o : Nat} {xs : List Value} (h : w.rangeAt g o xs) (hb : Below B w w') (hg : g < B) : w'.rangeAt g o xs := fun j v hv => (hb.cell (p := ⟨g, o + j, none⟩) hg).trans (h j v hv)
theorem PR.below {b : Bool} {w w' : World} {A : Option Addr} {n c : Nat} (h : PR b w A n c) (hb : Below w.heap.size w w') : PR b w' A n c := by
  cases b with
  | false => exact h
  | true =>
    obtain ⟨g, h1, h2, h3, h3', h4, h5⟩ := h
    exact ⟨g, h1, h2, h3, h3', Nat.lt_of_lt_of_le h4 hb.size, range_below h5 hb h4⟩
theorem PR.of_own {w : World} {base g c : Nat} (h : w.ownsRow base 143 2 (.slice (some ⟨g, 0, none⟩) 1 c) 1 [.string ⟨#[107]⟩, .string ⟨#[107, 49]⟩]) : PR true w (some ⟨g, 0, none⟩) 1 c := by
  obtain ⟨A', c', e, h2, h2'⟩ := own_form h
  injection e with _ _ e
  subst e
  refine ⟨g, rfl, rfl, h2, h2', (h.lt g rfl).2, fun j v hv => ?_⟩
  rw [Nat.zero_add]
  have := h.cells (g := g) rfl j v hv
  rwa [show ((⟨g, 0, none⟩ : Addr).add j) = ⟨g, j, none⟩ from by unfold Addr.add; split <;> simp_all] at this
theorem PR.rd {w : World} {A : Option Addr} {n c : Nat} (h : PR true w A n c) : Rd w w.heap.size 2 A n [.string ⟨#[107]⟩, .string ⟨#[107, 49]⟩] := by
  obtain ⟨g, rfl, rfl, _, _, h4, h5⟩ := h
  exact ⟨rfl, fun _ => ⟨g, 0, rfl, h4, fun j u hu => h5 j u hu⟩⟩
/-- a call that returns the pairs -/
def GivesPR (b : Bool) (w : World) (e : Ending) (w' : World) : Prop := ∃ A n c, e = .returned (.slice A n c) ∧ PR b w' A n c ∧ Below w.heap.size w w' ∧ ∀ a, A = some a → w.heap.size ≤ a.block
theorem PR.set {b : Bool} {w : World} {A : Option Addr} {n c : Nat} (h : PR b w A n c) (p : Addr) (v : Value) (hp : ∀ a, A = some a → p.block < a.block) : PR b (w.setCell p v) A n c := by
  cases b with
  | false => exact h
  | true =>
    obtain ⟨g, h1, h2, h3, h3', h4, h5⟩ := h
    have hg : p.block < g := hp _ h1
    exact ⟨g, h1, h2, h3, h3', by simpa using h4, fun j u hu => (World.cell?_setCell_other w p _ v (fun e => by subst e; simp at hg)).trans (h5 j u hu)⟩
theorem below_grown {w w' : World} (h : w.grownBy w' none) : Below w.heap.size w w' := ⟨h.os, h.tape, h.output, h.size, fun k hk => h.block k hk (by simp)⟩
set_option maxRecDepth 100000 in
theorem cloneP_any (b : Bool) (A : Option Addr) (n c : Nat) (w : World) (hp : PR b w A n c) : Calls Tryz.prog 70 #[.slice A n c] w (GivesPR b w) := by
  cases b with
  | false =>
    obtain ⟨rfl, rfl, rfl⟩ := hp
    exact (cloneP_nil w).mono fun e w' ⟨h1, h2⟩ => ⟨none, 0, 0, h1, ⟨rfl, rfl, rfl⟩, h2 ▸ Below.refl _ _, fun a ha => by cases ha⟩
  | true =>
    have qq : ∀ (w : World) (a : Option Addr) (n c n' c' : Nat), (binOp .eql 39 (.slice a n c) (.slice none n' c')).run Tryz.prog w = .ok (.bool a.isNone) w := fun w a n c n' c' => Lib.run_eql_slice_nil w _ _ a n c n' c' Tryz.underlying39
    obtain ⟨i0, hi0, hz0, hz1, hz2⟩ := info_parts infoPair
    have HR := Lib.hid ((PR.rd hp).alloc (Nat.le_refl _) (.cells #[] 143))
    have HO := Lib.hid (World.ownsRow_lit (e := 143) (base := w.heap.size) (size := 2) w #[] 0 (Nat.le_refl _) (by decide) rfl)
    obtain ⟨g, rfl, rfl, _, _, _, _⟩ := hp
    go_enter Tryz.func70, Tryz.ntmps70
    go_wp2_with (at_builtin; go_must (refine wpList_app _ rfl _ _ 39 rfl w.heap.size 143 i0 _ 2 32 Tryz.underlying39 hi0 hz0 hz1 hz2 rfl (by decide) _ _ _ rfl HO.out w.heap.size (some ⟨g, 0, none⟩) 1 c [.string ⟨#[107]⟩, .string ⟨#[107, 49]⟩] rfl HR.out pair_one (by decide) (by decide) (by simp) ?_; intro v' w' hown hgr _; have HOWN := Lib.hid hown; have HGR : Hid (World.grownBy _ w' (Value.slice (some ⟨w.heap.size, 0, none⟩) 0 0).ownBlock) := Lib.hid hgr; clear hown hgr))
    go_ret
    obtain ⟨g', c', rfl, _⟩ := own_at HOWN.out (by decide)
    exact ⟨_, _, _, rfl, PR.of_own (by simpa using HOWN.out), ((Below.refl _ _).alloc (Nat.le_refl _) _).grown HGR.out (by simp) (by intro k hk; simp [Value.ownBlock] at hk; omega), fun a ha => by cases ha; exact (HOWN.out.lt g' rfl).1⟩
def kV (ap : Int) (A : Option Addr) (n c : Nat) : List Value := dV 200 ++ [.int .i64 ap, .slice A n c]
theorem kV_one (ap : Int) (A : Option Addr) (n c : Nat) : (kV ap A n c).toArray.all (·.oneCell') = true := by simp [kV, dV, Value.oneCell']
theorem kV_ones (ap : Int) (A : Option Addr) (n c : Nat) : ∀ u ∈ kV ap A n c, u.oneCell' = true := by
  intro u hu
  have := kV_one ap A n c
  simp only [List.all_toArray, List.all_eq_true] at this
  exact this u hu
theorem infoCont : (Tryz.prog.info? 41).map (fun i => (i.zero, i.size, i.bytes)) = some (some (.agg zV.toArray), 23, 216) := by kernel_rfl
/-- the reader -/
def RdP (b : Bool) (ap : Int) (w : World) (e : Ending) (w' : World) : Prop := ∃ h c' A n c, e = .returned (.iface 140 (.slice (some ⟨h, 0, none⟩) 1 c')) ∧ h < w'.heap.size ∧ w'.rangeAt h 0 (kV ap A n c) ∧ PR b w' A n c ∧ Below w.heap.size w w'
theorem kv_cell {W : World} {b : Nat} {ap : Int} {A : Option Addr} {n c : Nat} (h : Blk W b 41 (kV ap A n c).toArray) : W.cell? ⟨b, 22, none⟩ = some (.slice A n c) := (h.cell 22).trans rfl
theorem kv_set {W : World} {b : Nat} {ap : Int} {A A' : Option Addr} {n c n' c' : Nat} (h : Blk W b 41 (kV ap A n c).toArray) : Blk (W.setCell ⟨b, 22, none⟩ (.slice A' n' c')) b 41 (kV ap A' n' c').toArray := by
  have e : (kV ap A n c).toArray.setIfInBounds 22 (.slice A' n' c') = (kV ap A' n' c').toArray := rfl
  have := h.set 22 (.slice A' n' c')
  rwa [e] at this
theorem rd_end (b : Bool) (ap : Int) (A : Option Addr) (n c n' h c'' : Nat) (w w2 w3 : World) (o o' : Obj) (hb : Below (w.alloc o).heap.size (w.alloc o) w2) (hp : PR b w2 A n c) (hq : ∀ a, A = some a → (w.alloc o).heap.size ≤ a.block)
    (ho : w3.ownsRow w.heap.size 41 23 (.slice (some ⟨h, 0, none⟩) 1 c'') n' (kV ap A n c)) (hg : ((w2.setCell ⟨w.heap.size, 22, none⟩ (.slice A n c)).alloc o').grownBy w3 none) :
    RdP b ap w (.returned (.iface 140 (.slice (some ⟨h, 0, none⟩) 1 c''))) w3 := by
  have hz := hb.size
  simp at hz
  refine ⟨h, c'', A, n, c, rfl, (ho.lt h rfl).2, fun j v hv => ?_, ?_, ?_⟩
  · rw [Nat.zero_add]
    have := ho.cells (g := h) rfl j v hv
    rwa [show ((⟨h, 0, none⟩ : Addr).add j) = ⟨h, j, none⟩ from by unfold Addr.add; split <;> simp_all] at this
  · refine ((hp.set ⟨w.heap.size, 22, none⟩ (.slice A n c) fun a ha => ?_).below ((Below.refl _ _).alloc (Nat.le_refl _) o')).below (below_grown hg)
    have := hq a ha
    simp at this
    exact this
  · refine Below.trans ?_ ((below_grown hg).mono (by simp; omega))
    exact (((((Below.refl w.heap.size w).alloc (Nat.le_refl _) o).trans (hb.mono (by simp))).setCell (Nat.le_refl _) _)).alloc (by simp; omega) _
theorem size_ok {w w2 : World} {o o' : Obj} {p : Addr} {v : Value} (h : Below (w.alloc o).heap.size (w.alloc o) w2) : w.heap.size ≤ ((w2.setCell p v).alloc o').heap.size := by
  have := h.size
  simp at this ⊢
  omega
set_option maxRecDepth 100000 in
set_option maxHeartbeats 1000000 in
theorem Reader_any (b : Bool) (ap : Int) (A : Option Addr) (n c g cc : Nat) (w : World) (hp : PR b w A n c) (hr : w.rangeAt g 0 (kV ap A n c)) :
    Calls Tryz.prog 49 #[.slice (some ⟨g, 0, none⟩) 1 cc] w (RdP b ap w) := by
  obtain ⟨i0, hi0, hz0, hz1, hz2⟩ := info_parts infoCont
  have HR := Lib.hid hr
  have H1 := Lib.hid (kV_one ap A n c)
  have HB := Lib.hid fun old => Blk.new w 41 old
  have HS := Lib.hid fun old => setRow_newF w old (kV ap A n c).toArray 41
  have HC : Hid (∀ o, Calls Tryz.prog 70 #[.slice A n c] (w.alloc o) (GivesPR b (w.alloc o))) := Lib.hid fun o => cloneP_any b A n c (w.alloc o) (hp.below ((Below.refl _ _).alloc (Nat.le_refl _) _))
  have c22 := kv_cell (Blk.new w 41 (kV ap A n c).toArray)
  clear hr hp
  go_enter Tryz.func49, Tryz.ntmps49
  go_wp2
  refine wp_loop_rounds 2 ?_
  rw [rounds_succ]
  go_wp2_with (first | ((with_reducible show wpList _ _ _ (⟨_, .load 41 (.tmp 10), _, _, _, _⟩ :: _) _ _); refine wpList_load_mid rfl 41 _ rfl g 0 rfl (kV ap A n c) _ HR.out Tryz.underlying41 rfl (by kernel_rfl) ?_) | ((with_reducible show wpList _ _ _ (⟨_, .store 41 (.tmp 5) _, _, _, _, _⟩ :: _) _ _); refine wpList_store_row rfl 41 _ _ rfl w.heap.size (kV ap A n c).toArray rfl rfl 41 _ (HB.out _) (by kernel_rfl) rfl H1.out ?_; rw [HS.out]) | (go_at_call 70; refine (HC.out _).mono ?_; rintro e w2 ⟨A', n', c', rfl, hp2, hb2, hq2⟩; have HQ2 := Lib.hid hq2; have HP2 := Lib.hid hp2; have HB2 := Lib.hid hb2; clear c22 hp2 hq2; have d22 := kv_cell ((Blk.new w 41 (kV ap A n c).toArray).below hb2 (by simp)); have f22 := ((Blk.new w 41 (kV ap A n c).toArray).below hb2 (by simp)).free 22; have HK := Lib.hid (kv_set (A' := A') (n' := n') (c' := c') ((Blk.new w 41 (kV ap A n c).toArray).below hb2 (by simp))); have HRD := Lib.hid (rd_new (w2.setCell ⟨w.heap.size, 22, none⟩ (.slice A' n' c')) (kV ap A' n' c') 41 1 23 rfl); clear hb2) | ((with_reducible show wpList _ _ _ (⟨_, .load 41 (.tmp 5), _, _, _, _⟩ :: _) _ _); refine wpList_load_row rfl 41 _ rfl w.heap.size rfl 41 _ (0, 0) _ HK.out Tryz.underlying41 rfl (by kernel_rfl) ?_) | ((with_reducible show wpList _ _ _ (⟨_, .buildSlice 140 _ _, _, _, _, _⟩ :: _) _ _); refine wpList_buildSlice rfl 140 41 1 _ rfl (kV ap A' n' c').toArray i0 (.agg zV.toArray) Tryz.underlying140 hi0 hz0 (by rw [hz1]; decide) (by rw [hz1]; decide) (by rw [hz1]; kernel_rfl) ?_) | (at_builtin; go_must (refine wpList_app _ rfl _ _ 140 rfl w.heap.size 41 i0 _ 23 216 Tryz.underlying140 hi0 hz0 hz1 hz2 rfl (by decide) (.slice none 0 0) 0 [] rfl ⟨rfl, .inl ⟨rfl, rfl⟩⟩ ((w2.setCell ⟨w.heap.size, 22, none⟩ (.slice A' n' c')).heap.size + 1) (some ⟨(w2.setCell ⟨w.heap.size, 22, none⟩ (.slice A' n' c')).heap.size, 0, none⟩) 1 1 (kV ap A' n' c') rfl HRD.out (kV_ones ap A' n' c') (by decide) (by decide) (size_ok HB2.out) ?_; intro v' w3 hown hgr _; have HOWN := Lib.hid hown; have HGR : Hid (World.grownBy _ w3 (Value.slice none 0 0).ownBlock) := Lib.hid hgr; clear hown hgr)))
  rw [rounds_succ]
  go_wp2
  go_ret
  obtain ⟨h, c'', rfl, _⟩ := own_at HOWN.out (by decide)
  exact rd_end b ap _ _ _ _ h c'' w w2 w3 _ _ HB2.out HP2.out HQ2.out HOWN.out HGR.out
end Go.Proofs.YtpklgdclknicjaaGreatDoor
