/- History: Check at the example, play and the function that it is handed; the chapter's example holds (awake). -/
import Derived.Test.YtpklgdclknicjaaGreatDoorMI
import Derived.Test.YtpklgdclknicjaaGreatDoorHO
import Derived.Deep.QuietTactic
import Derived.BigQuiet
import Derived.Test.YtpklgdclknicjaaGreatDoorPB
namespace Go.Proofs.YtpklgdclknicjaaGreatDoor
open Go.RowKit

set_option maxRecDepth 100000 in
theorem c11_any (b : Bool) (ap : Int) (A : Option Addr) (n c bs g : Nat) (w : World) (hg : w.cell? ⟨g, 0, none⟩ = some (.map (some bs))) (hs : St w bs (kV ap A n c)) (hp : PR b w A n c) :
    Calls Tryz.prog 28 #[.agg #[.int .i64 0, .int .i64 200, .string ⟨#[107]⟩, .string ⟨#[]⟩, .string ⟨#[]⟩, .int .i64 6], .pointer (some ⟨g, 0, none⟩)] w fun e w' => e = .returned (.bool b) ∧ Below w.heap.size w w' := by
  have lt := block_lt_of_cell hg
  simp only at lt
  have B0 := Lib.hid (bx_start w rV.toArray 49)
  have HX := Lib.hid (explained_any b ap A n c bs (w.alloc (.cells rV.toArray 49)) (hs.alloc _) (hp.below ((Below.refl _ _).alloc (Nat.le_refl _) _)))
  have k0 : (w.alloc (.cells rV.toArray 49)).cell? ⟨g, 0, none⟩ = some (.map (some bs)) := (World.cell?_alloc_lt w _ _ lt).trans hg
  clear hg hs hp
  unfold rV at HX k0 B0
  cases b
  all_goals
    go_enter Tryz.func28, Tryz.ntmps28
    go_wp2_with (go_at_call 29; refine HX.out.mono ?_; rintro e w2 ⟨rfl, hb2⟩; have X2 := Lib.hid (below_next (bx_below B0.out) hb2 (Nat.le_of_succ_le (bx_size B0.out))); clear hb2)
    go_ret
    exact ⟨rfl, X2.out⟩
theorem ridx_none (A : Option Addr) (c : Nat) (f : Value) (w : World) : Calls Tryz.prog 27 #[.slice A 0 c, f] w fun e w' => e = .returned (.int .i64 (-1)) ∧ w = w' := by
  go_enter Tryz.func27, Tryz.ntmps27
  go_wp2
  refine wp_loop_rounds 1 ?_
  rw [rounds_succ]
  go_wp2
  go_ret
  exact ⟨rfl, rfl⟩
set_option maxRecDepth 100000 in
theorem ridx_one (b : Bool) (ap : Int) (A : Option Addr) (n c bs g gr cc : Nat) (w : World) (hg : w.cell? ⟨g, 0, none⟩ = some (.map (some bs))) (hs : St w bs (kV ap A n c)) (hp : PR b w A n c) (hr : w.rangeAt gr 0 rV) :
    Calls Tryz.prog 27 #[.slice (some ⟨gr, 0, none⟩) 1 cc, .func (.func 28) #[] #[.pointer (some ⟨g, 0, none⟩)]] w fun e w' => e = .returned (.int .i64 (if b then 0 else -1)) ∧ Below w.heap.size w w' := by
  have HR := Lib.hid hr
  have HC := Lib.hid (c11_any b ap A n c bs g w hg hs hp)
  clear hr hg hs hp
  cases b with
  | true =>
    go_enter Tryz.func27, Tryz.ntmps27
    go_wp2
    refine wp_loop_rounds 1 ?_
    rw [rounds_succ]
    go_wp2_with (first | ((with_reducible show wpList _ _ _ (⟨_, .load 49 (.tmp 14), _, _, _, _⟩ :: _) _ _); refine wpList_load_mid rfl 49 _ rfl gr 0 rfl rV _ HR.out Tryz.underlying49 rfl (by kernel_rfl) ?_) | (go_at_call 28; refine HC.out.mono ?_; rintro e w2 ⟨rfl, hb⟩; have HB := Lib.hid hb; clear hb))
    go_ret
    exact ⟨rfl, HB.out⟩
  | false =>
    go_enter Tryz.func27, Tryz.ntmps27
    go_wp2
    refine wp_loop_rounds 2 ?_
    rw [rounds_succ]
    go_wp2_with (first | ((with_reducible show wpList _ _ _ (⟨_, .load 49 (.tmp 14), _, _, _, _⟩ :: _) _ _); refine wpList_load_mid rfl 49 _ rfl gr 0 rfl rV _ HR.out Tryz.underlying49 rfl (by kernel_rfl) ?_) | (go_at_call 28; refine HC.out.mono ?_; rintro e w2 ⟨rfl, hb⟩; have HB := Lib.hid hb; clear hb))
    rw [rounds_succ]
    go_wp2
    go_ret
    exact ⟨rfl, HB.out⟩
theorem chk_none (bs : Nat) (i x y : Int) (cA : Option Addr) (cn cc : Nat) (f1 f2 : Value) (w : World) :
    Calls Tryz.prog 26 #[.map (some bs), .int .i64 i, .agg #[.int .i64 x, .int .i64 y, .slice none 0 0, .slice cA cn cc], f1, f2] w fun e w' => e = .returned (.bool true) ∧ Below w.heap.size w w' := by
  have k1 : ((w.alloc (.cells #[.map (some bs)] 78)).alloc (.cells #[.int .i64 x, .int .i64 y, .slice none 0 0, .slice cA cn cc] 47)).cell? ⟨w.heap.size + 1, 2, none⟩ = some (.slice none 0 0) := (blk_at (w.alloc (.cells #[.map (some bs)] 78)) 47 #[.int .i64 x, .int .i64 y, .slice none 0 0, .slice cA cn cc] (w.heap.size + 1) (by simp)).cell 2
  go_enter Tryz.func26, Tryz.ntmps26
  go_wp2_with (go_at_call 27; refine (ridx_none _ _ _ _).mono ?_; rintro e w2 ⟨rfl, rfl⟩)
  go_ret
  exact ⟨rfl, ((Below.refl _ _).alloc (Nat.le_refl _) _).alloc (by simp) _⟩
def chkW (b : Bool) (u r : Nat) (i : Int) (W : World) : World := if b then (W.setCell ⟨u, 0, none⟩ (.int .i64 i)).setCell ⟨r, 0, none⟩ (.int .i64 0) else W
set_option maxRecDepth 100000 in
theorem chk_read (b : Bool) (ap : Int) (A : Option Addr) (n c bs gr u r : Nat) (i x y u0 r0 : Int) (w : World) (hu : Blk w u 3 #[.int .i64 u0]) (hr0 : Blk w r 3 #[.int .i64 r0]) (hne : u ≠ r) (hs : St w bs (kV ap A n c)) (hp : PR b w A n c) (hg : gr < w.heap.size) (hr : w.rangeAt gr 0 rV) :
    Calls Tryz.prog 26 #[.map (some bs), .int .i64 i, .agg #[.int .i64 x, .int .i64 y, .slice (some ⟨gr, 0, none⟩) 1 1, .slice none 0 0], .pointer (some ⟨u, 0, none⟩), .pointer (some ⟨r, 0, none⟩)] w fun e w' => e = .returned (.bool (!b)) ∧ ∃ W, Below w.heap.size w W ∧ w' = chkW b u r i W := by
  have k1 : ((w.alloc (.cells #[.map (some bs)] 78)).alloc (.cells #[.int .i64 x, .int .i64 y, .slice (some ⟨gr, 0, none⟩) 1 1, .slice none 0 0] 47)).cell? ⟨w.heap.size + 1, 2, none⟩ = some (.slice (some ⟨gr, 0, none⟩) 1 1) := (blk_at (w.alloc (.cells #[.map (some bs)] 78)) 47 #[.int .i64 x, .int .i64 y, .slice (some ⟨gr, 0, none⟩) 1 1, .slice none 0 0] (w.heap.size + 1) (by simp)).cell 2
  have hb0 : Below w.heap.size w ((w.alloc (.cells #[.map (some bs)] 78)).alloc (.cells #[.int .i64 x, .int .i64 y, .slice (some ⟨gr, 0, none⟩) 1 1, .slice none 0 0] 47)) := ((Below.refl _ _).alloc (Nat.le_refl _) _).alloc (by simp) _
  have HB0 := Lib.hid hb0
  have HI := Lib.hid (ridx_one b ap A n c bs w.heap.size gr 1 ((w.alloc (.cells #[.map (some bs)] 78)).alloc (.cells #[.int .i64 x, .int .i64 y, .slice (some ⟨gr, 0, none⟩) 1 1, .slice none 0 0] 47)) (((Blk.new w 78 #[.map (some bs)]).alloc _).cell 0) ((hs.alloc _).alloc _) (hp.below hb0) (range_below hr hb0 hg))
  have HU := Lib.hid hu
  have HR0 := Lib.hid hr0
  have HNE := Lib.hid hne
  clear hs hp hr hg hb0 hu hr0 hne
  cases b with
  | false =>
    go_enter Tryz.func26, Tryz.ntmps26
    go_wp2_with (go_at_call 27; refine HI.out.mono ?_; rintro e w2 ⟨rfl, hb⟩; have HB := Lib.hid (below_next HB0.out hb HB0.out.size); clear hb)
    go_ret
    exact ⟨rfl, _, HB.out, rfl⟩
  | true =>
    go_enter Tryz.func26, Tryz.ntmps26
    go_wp2_with (go_at_call 27; refine HI.out.mono ?_; rintro e w2 ⟨rfl, hb⟩; have HB := Lib.hid (below_next HB0.out hb HB0.out.size); clear hb; have c1 := (HU.out.below HB.out HU.out.lt).cell 0; have f1 := (HU.out.below HB.out HU.out.lt).free 0; have c2 := ((HR0.out.below HB.out HR0.out.lt).far (p := ⟨u, 0, none⟩) HNE.out.symm (.int .i64 i)).cell 0; have f2 := ((HR0.out.below HB.out HR0.out.lt).far (p := ⟨u, 0, none⟩) HNE.out.symm (.int .i64 i)).free 0; simp at c1 c2)
    go_ret
    exact ⟨rfl, _, HB.out, rfl⟩
end Go.Proofs.YtpklgdclknicjaaGreatDoor
namespace Go.Proofs.YtpklgdclknicjaaGreatDoor
open Go.RowKit

def putC (gc : Nat) : Com := ⟨9, 5, none, 0, 0, some ⟨gc, 0, none⟩, 1, 1, [], [⟨0, 200, ⟨#[107]⟩, ⟨#[107, 49]⟩, ⟨#[]⟩⟩]⟩
def readC (gr : Nat) (k : Int) : Com := ⟨8, k, some ⟨gr, 0, none⟩, 1, 1, none, 0, 0, [⟨0, 200, ⟨#[107]⟩, ⟨#[]⟩, ⟨#[]⟩, 6⟩], []⟩
theorem ord5 (gc gr : Nat) : ordB [putC gc, readC gr 5] = some [readC gr 5, putC gc] := by kernel_rfl
theorem ord6 (gc gr : Nat) : ordB [putC gc, readC gr 6] = some [putC gc, readC gr 6] := by kernel_rfl
theorem vols_ex (gc gr : Nat) (k : Int) : ∀ x ∈ [putC gc, readC gr k], VolsOk x := by
  intro x hx
  simp at hx
  rcases hx with rfl | rfl
  · intro c hc
    simp [putC] at hc
    subst hc
    exact Nat.zero_le _
  · intro c hc
    simp [readC] at hc
theorem sl_one {α : Type} {f : α → List Value} {k : Nat} {w : World} {B g c : Nat} {x : α} (h : Sl f k w B (some ⟨g, 0, none⟩) 1 c [x]) : g < B ∧ w.rangeAt g 0 (f x) := by
  obtain ⟨b, o, e, hb, hc⟩ := h.2.2.2 (by decide)
  injection e with e
  injection e with e1 e2 _
  subst e1 e2
  refine ⟨hb, fun j v hv => hc j v (by rw [flat_one]; exact hv)⟩
theorem sl_two {α : Type} {f : α → List Value} {k : Nat} (hk : ∀ x, (f x).length = k) {w : World} {B n c : Nat} {A : Option Addr} {x y : α} (h : Sl f k w B A n c [x, y]) : n = 2 ∧ ∃ b o, A = some ⟨b, o, none⟩ ∧ b < B ∧ w.rangeAt b o (f x) ∧ w.rangeAt b (o + k) (f y) := by
  have hn : n = 2 := h.len.symm
  subst hn
  obtain ⟨b, o, e, hb, hc⟩ := h.2.2.2 (by decide)
  refine ⟨rfl, b, o, e, hb, fun j v hv => hc j v ?_, fun j v hv => ?_⟩
  · have hj : j < k := by have := (List.getElem?_eq_some_iff.1 hv).1; rwa [hk] at this
    have := flat_get hk [x, y] 0 x rfl j hj
    rw [Nat.zero_mul, Nat.zero_add] at this
    rw [this]; exact hv
  · have hj : j < k := by have := (List.getElem?_eq_some_iff.1 hv).1; rwa [hk] at this
    have := flat_get hk [x, y] 1 y rfl j hj
    rw [Nat.one_mul] at this
    rw [Nat.add_assoc]
    exact hc _ v (by rw [this]; exact hv)
/-- what holds in every world of the play -/
structure PI (w : World) (bs b o gc gr u r : Nat) (x y : Com) (v : List Value) (W : World) : Prop where
  st : St W bs v
  r0 : W.rangeAt b o (comC x)
  r1 : W.rangeAt b (o + 4) (comC y)
  rc : W.rangeAt gc 0 cV
  rr : W.rangeAt gr 0 rV
  bu : Blk W u 3 #[.int .i64 (-1)]
  br : Blk W r 3 #[.int .i64 (-1)]
  l1 : b < bs
  lc : gc < bs
  lr : gr < bs
  lu : u < bs
  lr' : r < bs
  lw : w.heap.size ≤ bs
  be : Below w.heap.size w W
section
variable {w W W' : World} {bs b o gc gr u r : Nat} {x y : Com} {v : List Value}
theorem PI.next (h : PI w bs b o gc gr u r x y v W) (hb : Below W.heap.size W W') : PI w bs b o gc gr u r x y v W' :=
  have hl := h.st.lt
  ⟨h.st.below hb hl, range_below h.r0 hb (Nat.lt_trans h.l1 hl), range_below h.r1 hb (Nat.lt_trans h.l1 hl), range_below h.rc hb (Nat.lt_trans h.lc hl), range_below h.rr hb (Nat.lt_trans h.lr hl), h.bu.below hb (Nat.lt_trans h.lu hl), h.br.below hb (Nat.lt_trans h.lr' hl), h.l1, h.lc, h.lr, h.lu, h.lr', h.lw, below_next h.be hb (Nat.le_of_lt (Nat.lt_of_le_of_lt h.lw hl))⟩
theorem PI.alloc (h : PI w bs b o gc gr u r x y v W) (ob : Obj) : PI w bs b o gc gr u r x y v (W.alloc ob) := h.next ((Below.refl _ _).alloc (Nat.le_refl _) _)
theorem PI.put {v' : List Value} (h : PI w bs b o gc gr u r x y v W) (hb : Below bs W W') (hs : St W' bs v') : PI w bs b o gc gr u r x y v' W' :=
  ⟨hs, range_below h.r0 hb h.l1, range_below h.r1 hb h.l1, range_below h.rc hb h.lc, range_below h.rr hb h.lr, h.bu.below hb h.lu, h.br.below hb h.lr', h.l1, h.lc, h.lr, h.lu, h.lr', h.lw, h.be.trans (hb.mono h.lw)⟩
theorem PI.start {w1 W : World} {gc gr : Nat} {A : Option Addr} {n c : Nat} (hcs : Cs w1 w1.heap.size A n c [x, y]) (hb1 : Below w.heap.size w w1) (hs : St W w1.heap.size v) (hb2 : Below w1.heap.size w1 W) (hc : gc < w.heap.size) (hcr : w.rangeAt gc 0 cV) (hr : gr < w.heap.size) (hrr : w.rangeAt gr 0 rV)
    (hu : Blk w u 3 #[.int .i64 (-1)]) (hr0 : Blk w r 3 #[.int .i64 (-1)]) :
    n = 2 ∧ ∃ b o, A = some ⟨b, o, none⟩ ∧ PI w w1.heap.size b o gc gr u r x y v W := by
  obtain ⟨hn, b, o, hA, hbl, h0, h1⟩ := sl_two comC_len hcs.1
  have hz := hb1.size
  have hbb := hb1.trans (hb2.mono hz)
  exact ⟨hn, b, o, hA, hs, range_below h0 hb2 hbl, range_below h1 hb2 hbl, range_below hcr hbb hc, range_below hrr hbb hr, hu.below hbb hu.lt, hr0.below hbb hr0.lt, hbl, Nat.lt_of_lt_of_le hc hz, Nat.lt_of_lt_of_le hr hz, Nat.lt_of_lt_of_le hu.lt hz, Nat.lt_of_lt_of_le hr0.lt hz, hz, hbb⟩
end
theorem ord_get {l s : List Com} {w w' : World} {e : Ending} (h : OrdP (ordB l) w e w') (hl : ordB l = some s) : OrdYes w s e w' := by
  rcases h with ⟨h, _⟩ | ⟨s', h, hy⟩
  · rw [hl] at h; cases h
  · rw [hl] at h; cases h; exact hy
theorem aV_kV : aV 200 = kV 4 none 0 0 := rfl
theorem bV_kV (g c : Nat) : bV (.slice (some ⟨g, 0, none⟩) 1 c) = kV 5 (some ⟨g, 0, none⟩) 1 c := rfl
def PlayP (b : Bool) (u r : Nat) (w : World) (e : Ending) (w' : World) : Prop := ∃ v W, e = .returned (.tuple #[v, .int .i64 0]) ∧ Below w.heap.size w W ∧ w' = chkW b u r 1 W
theorem chk_no (ap : Int) (A : Option Addr) (n c bs gr u r : Nat) (i x y u0 r0 : Int) (w : World) (hu : Blk w u 3 #[.int .i64 u0]) (hr0 : Blk w r 3 #[.int .i64 r0]) (hne : u ≠ r) (hs : St w bs (kV ap A n c)) (hp : PR false w A n c) (hg : gr < w.heap.size) (hr : w.rangeAt gr 0 rV) :
    Calls Tryz.prog 26 #[.map (some bs), .int .i64 i, .agg #[.int .i64 x, .int .i64 y, .slice (some ⟨gr, 0, none⟩) 1 1, .slice none 0 0], .pointer (some ⟨u, 0, none⟩), .pointer (some ⟨r, 0, none⟩)] w fun e w' => e = .returned (.bool true) ∧ Below w.heap.size w w' :=
  (chk_read false ap A n c bs gr u r i x y u0 r0 w hu hr0 hne hs hp hg hr).mono fun _ _ ⟨h, _, hb, hw⟩ => ⟨h, hw ▸ hb⟩
theorem chk_yes (ap : Int) (A : Option Addr) (n c bs gr u r : Nat) (i x y u0 r0 : Int) (w : World) (hu : Blk w u 3 #[.int .i64 u0]) (hr0 : Blk w r 3 #[.int .i64 r0]) (hne : u ≠ r) (hs : St w bs (kV ap A n c)) (hp : PR true w A n c) (hg : gr < w.heap.size) (hr : w.rangeAt gr 0 rV) :
    Calls Tryz.prog 26 #[.map (some bs), .int .i64 i, .agg #[.int .i64 x, .int .i64 y, .slice (some ⟨gr, 0, none⟩) 1 1, .slice none 0 0], .pointer (some ⟨u, 0, none⟩), .pointer (some ⟨r, 0, none⟩)] w fun e w' => e = .returned (.bool false) ∧ ∃ W, Below w.heap.size w W ∧ w' = (W.setCell ⟨u, 0, none⟩ (.int .i64 i)).setCell ⟨r, 0, none⟩ (.int .i64 0) :=
  chk_read true ap A n c bs gr u r i x y u0 r0 w hu hr0 hne hs hp hg hr
set_option maxRecDepth 100000 in
set_option maxHeartbeats 1000000 in
theorem play_5 (g gc gr u r c : Nat) (A : Option Addr) (w : World) (hg : g < w.heap.size) (hgr : w.rangeAt g 0 (aV 200)) (hs : Cs w w.heap.size A 2 c [putC gc, readC gr 5]) (hu : Blk w u 3 #[.int .i64 (-1)]) (hr : Blk w r 3 #[.int .i64 (-1)]) (hne : u ≠ r) :
    Calls Tryz.prog 25 #[.slice (some ⟨g, 0, none⟩) 1 1, .slice A 2 c, .func (.func 26) #[] #[.pointer (some ⟨u, 0, none⟩), .pointer (some ⟨r, 0, none⟩)]] w (PlayP false u r w) := by
  have HO := Lib.hid (order_any A 2 c _ w hs (vols_ex gc gr 5) (by decide))
  obtain ⟨hgc, hcr⟩ := sl_one (hs.2 (putC gc) (by simp)).2.1
  obtain ⟨hgr1, hrr⟩ := sl_one (hs.2 (readC gr 5) (by simp)).1
  have HG := Lib.hid hg
  have HGR := Lib.hid hgr
  have HST := Lib.hid fun w1 W A' n c' hcs hb1 hst hb2 => PI.start (v := aV 200) (w := w) (w1 := w1) (W := W) (A := A') (n := n) (c := c') (x := (readC gr 5)) (y := (putC gc)) hcs hb1 hst hb2 hgc hcr hgr1 hrr hu hr
  have HNE := Lib.hid hne
  clear hs hgc hcr hgr1 hrr hg hgr hu hr hne
  go_enter Tryz.func25, Tryz.ntmps25
  go_wp2_with (first | (go_at_call 8; refine HO.out.mono ?_; intro e w1 hp; obtain ⟨A', c', rfl, hcs, hb1⟩ := ord_get hp (ord5 gc gr); have HCS := Lib.hid hcs; have HB1 := Lib.hid hb1; clear hp hcs hb1) | (go_at_call 47; refine (begin_a g w1 (Nat.lt_of_lt_of_le HG.out HB1.out.size) (range_below HGR.out HB1.out HG.out)).mono ?_; rintro e w2 ⟨rfl, hst, hb2⟩; obtain ⟨_, b, o, rfl, hpi⟩ := HST.out _ _ _ _ _ HCS.out HB1.out hst hb2; have HPI := Lib.hid hpi; clear hst hb2 hpi))
  refine wp_loop_rounds 3 ?_
  rw [rounds_succ]
  go_wp2_with (first | ((with_reducible show wpList _ _ _ (⟨_, .load 47 (.tmp 36), _, _, _, _⟩ :: _) _ _); refine wpList_load_mid rfl 47 _ rfl b o rfl [.int .i64 8, .int .i64 5, .slice (some ⟨gr, 0, none⟩) 1 1, .slice none 0 0] _ HPI.out.r0 Tryz.underlying47 rfl (by kernel_rfl) ?_) | (go_at_call 26; refine (chk_no 4 none 0 0 w1.heap.size gr u r 0 8 5 (-1) (-1) _ (HPI.out.alloc _).bu (HPI.out.alloc _).br HNE.out (HPI.out.alloc _).st ⟨rfl, rfl, rfl⟩ (Nat.lt_trans HPI.out.lr (HPI.out.alloc _).st.lt) (HPI.out.alloc _).rr).mono ?_; rintro e w3 ⟨rfl, hb⟩; have HPI3 := Lib.hid ((HPI.out.alloc _).next hb); have kb := (Blk.new w2 47 #[.int .i64 8, .int .i64 5, .slice (some ⟨gr, 0, none⟩) 1 1, .slice none 0 0]).below hb (by simp); have d0 := kb.cell 0; have d1 := kb.cell 1; have d2 := kb.cell 2; have d3 := kb.cell 3; simp at d0 d1 d2 d3; clear hb kb) | (go_at_call 48; refine (after_none w1.heap.size 8 5 _ _ _ _).mono ?_; rintro e w4 ⟨rfl, hb⟩; have HPI4 := Lib.hid (HPI3.out.next hb); clear hb d0 d1 d2 d3))
  rw [rounds_succ]
  go_wp2_with (first | ((with_reducible show wpList _ _ _ (⟨_, .load 47 (.tmp 36), _, _, _, _⟩ :: _) _ _); refine wpList_load_mid rfl 47 _ rfl b (o + 4) rfl [.int .i64 9, .int .i64 5, .slice none 0 0, .slice (some ⟨gc, 0, none⟩) 1 1] _ HPI4.out.r1 Tryz.underlying47 rfl (by kernel_rfl) ?_) | (go_at_call 26; refine (chk_none w1.heap.size 1 9 5 _ _ _ _ _ _).mono ?_; rintro e w5 ⟨rfl, hb⟩; have HPI5 := Lib.hid ((HPI4.out.alloc _).next hb); have kb := (Blk.new w4 47 #[.int .i64 9, .int .i64 5, .slice none 0 0, .slice (some ⟨gc, 0, none⟩) 1 1]).below hb (by simp); have d0 := kb.cell 0; have d1 := kb.cell 1; have d2 := kb.cell 2; have d3 := kb.cell 3; simp at d0 d1 d2 d3; clear hb kb) | (go_at_call 48; refine (after_put w1.heap.size gc 1 w5 HPI5.out.st (Nat.lt_trans HPI5.out.lc HPI5.out.st.lt) HPI5.out.rc).mono ?_; rintro e w6 ⟨g', c6, rfl, hst, hown, hb⟩; have HPI6 := Lib.hid (HPI5.out.put hb hst); clear hb hst hown d0 d1 d2 d3))
  rw [rounds_succ]
  go_wp2
  go_ret2
  exact ⟨_, _, rfl, HPI6.out.be, rfl⟩
set_option maxRecDepth 100000 in
set_option maxHeartbeats 1000000 in
theorem play_6 (g gc gr u r c : Nat) (A : Option Addr) (w : World) (hg : g < w.heap.size) (hgr : w.rangeAt g 0 (aV 200)) (hs : Cs w w.heap.size A 2 c [putC gc, readC gr 6]) (hu : Blk w u 3 #[.int .i64 (-1)]) (hr : Blk w r 3 #[.int .i64 (-1)]) (hne : u ≠ r) :
    Calls Tryz.prog 25 #[.slice (some ⟨g, 0, none⟩) 1 1, .slice A 2 c, .func (.func 26) #[] #[.pointer (some ⟨u, 0, none⟩), .pointer (some ⟨r, 0, none⟩)]] w (PlayP true u r w) := by
  have HO := Lib.hid (order_any A 2 c _ w hs (vols_ex gc gr 6) (by decide))
  obtain ⟨hgc, hcr⟩ := sl_one (hs.2 (putC gc) (by simp)).2.1
  obtain ⟨hgr1, hrr⟩ := sl_one (hs.2 (readC gr 6) (by simp)).1
  have HG := Lib.hid hg
  have HGR := Lib.hid hgr
  have HST := Lib.hid fun w1 W A' n c' hcs hb1 hst hb2 => PI.start (v := aV 200) (w := w) (w1 := w1) (W := W) (A := A') (n := n) (c := c') (x := (putC gc)) (y := (readC gr 6)) hcs hb1 hst hb2 hgc hcr hgr1 hrr hu hr
  have HNE := Lib.hid hne
  clear hs hgc hcr hgr1 hrr hg hgr hu hr hne
  go_enter Tryz.func25, Tryz.ntmps25
  go_wp2_with (first | (go_at_call 8; refine HO.out.mono ?_; intro e w1 hp; obtain ⟨A', c', rfl, hcs, hb1⟩ := ord_get hp (ord6 gc gr); have HCS := Lib.hid hcs; have HB1 := Lib.hid hb1; clear hp hcs hb1) | (go_at_call 47; refine (begin_a g w1 (Nat.lt_of_lt_of_le HG.out HB1.out.size) (range_below HGR.out HB1.out HG.out)).mono ?_; rintro e w2 ⟨rfl, hst, hb2⟩; obtain ⟨_, b, o, rfl, hpi⟩ := HST.out _ _ _ _ _ HCS.out HB1.out hst hb2; have HPI := Lib.hid hpi; clear hst hb2 hpi))
  refine wp_loop_rounds 3 ?_
  rw [rounds_succ]
  go_wp2_with (first | ((with_reducible show wpList _ _ _ (⟨_, .load 47 (.tmp 36), _, _, _, _⟩ :: _) _ _); refine wpList_load_mid rfl 47 _ rfl b o rfl [.int .i64 9, .int .i64 5, .slice none 0 0, .slice (some ⟨gc, 0, none⟩) 1 1] _ HPI.out.r0 Tryz.underlying47 rfl (by kernel_rfl) ?_) | (go_at_call 26; refine (chk_none w1.heap.size 0 9 5 _ _ _ _ _ _).mono ?_; rintro e w3 ⟨rfl, hb⟩; have HPI3 := Lib.hid ((HPI.out.alloc _).next hb); have kb := (Blk.new w2 47 #[.int .i64 9, .int .i64 5, .slice none 0 0, .slice (some ⟨gc, 0, none⟩) 1 1]).below hb (by simp); have d0 := kb.cell 0; have d1 := kb.cell 1; have d2 := kb.cell 2; have d3 := kb.cell 3; simp at d0 d1 d2 d3; clear hb kb) | (go_at_call 48; refine (after_put w1.heap.size gc 1 w3 HPI3.out.st (Nat.lt_trans HPI3.out.lc HPI3.out.st.lt) HPI3.out.rc).mono ?_; rintro e w4 ⟨g', c6, rfl, hst, hown, hb⟩; have HPI4 := Lib.hid (HPI3.out.put hb hst); have HPR := Lib.hid (PR.of_own hown); clear hb hst hown d0 d1 d2 d3))
  rw [rounds_succ]
  go_wp2_with (first | ((with_reducible show wpList _ _ _ (⟨_, .load 47 (.tmp 36), _, _, _, _⟩ :: _) _ _); refine wpList_load_mid rfl 47 _ rfl b (o + 4) rfl [.int .i64 8, .int .i64 6, .slice (some ⟨gr, 0, none⟩) 1 1, .slice none 0 0] _ HPI4.out.r1 Tryz.underlying47 rfl (by kernel_rfl) ?_) | (go_at_call 26; refine (chk_yes 5 (some ⟨g', 0, none⟩) 1 c6 w1.heap.size gr u r 1 8 6 (-1) (-1) _ (HPI4.out.alloc _).bu (HPI4.out.alloc _).br HNE.out (HPI4.out.alloc _).st (HPR.out.below ((Below.refl _ _).alloc (Nat.le_refl _) _)) (Nat.lt_trans HPI4.out.lr (HPI4.out.alloc _).st.lt) (HPI4.out.alloc _).rr).mono ?_; rintro e w5 ⟨rfl, W, hb, rfl⟩; have HPI5 := Lib.hid ((HPI4.out.alloc _).next hb); clear hb))
  go_ret2
  exact ⟨_, W, rfl, HPI5.out.be, rfl⟩
end Go.Proofs.YtpklgdclknicjaaGreatDoor
namespace Go.Proofs.YtpklgdclknicjaaGreatDoor
open Go.RowKit

def cW (w : World) : World := (w.alloc (.cells #[.int .i64 (-1)] 3)).alloc (.cells #[.int .i64 (-1)] 3)
theorem cW_below (w : World) : Below w.heap.size w (cW w) := ((Below.refl _ _).alloc (Nat.le_refl _) _).alloc (by simp) _
theorem cW_u (w : World) : Blk (cW w) w.heap.size 3 #[.int .i64 (-1)] := (Blk.new w 3 _).alloc _
theorem cW_r (w : World) : Blk (cW w) (w.heap.size + 1) 3 #[.int .i64 (-1)] := blk_at (w.alloc (.cells #[.int .i64 (-1)] 3)) 3 _ _ (by simp)
def CheckP (b : Bool) (w : World) (e : Ending) (w' : World) : Prop := e = .returned (.tuple #[.int .i64 (if b then 1 else -1), .int .i64 (if b then 0 else -1), .int .i64 0]) ∧ Below w.heap.size w w'
theorem play_end (b : Bool) (w : World) (e : Ending) (w' : World) (h : PlayP b w.heap.size (w.heap.size + 1) (cW w) e w') :
    ∃ v, e = .returned (.tuple #[v, .int .i64 0]) ∧ w'.cell? ⟨w.heap.size, 0, none⟩ = some (.int .i64 (if b then 1 else -1)) ∧ w'.cell? ⟨w.heap.size + 1, 0, none⟩ = some (.int .i64 (if b then 0 else -1)) ∧ Below w.heap.size w w' := by
  obtain ⟨v, W, rfl, hb, rfl⟩ := h
  have hu := (cW_u w).below hb (cW_u w).lt
  have hr := (cW_r w).below hb (cW_r w).lt
  have hz : w.heap.size ≤ (cW w).heap.size := (cW_below w).size
  have hbb := below_next (cW_below w) hb hz
  cases b with
  | false => exact ⟨v, rfl, hu.cell 0, hr.cell 0, hbb⟩
  | true =>
    refine ⟨v, rfl, ?_, ?_, ?_⟩
    · exact ((hu.set 0 (.int .i64 1)).far (p := ⟨w.heap.size + 1, 0, none⟩) (by simp) _).cell 0
    · exact ((hr.far (p := ⟨w.heap.size, 0, none⟩) (by simp) _).set 0 (.int .i64 0)).cell 0
    · exact (hbb.setCell (Nat.le_refl _) _).setCell (by simp) _
set_option maxRecDepth 100000 in
theorem check_of (b : Bool) (g : Nat) (A : Option Addr) (c : Nat) (w : World)
    (hp : Calls Tryz.prog 25 #[.slice (some ⟨g, 0, none⟩) 1 1, .slice A 2 c, .func (.func 26) #[] #[.pointer (some ⟨w.heap.size, 0, none⟩), .pointer (some ⟨w.heap.size + 1, 0, none⟩)]] (cW w) (PlayP b w.heap.size (w.heap.size + 1) (cW w))) :
    Calls Tryz.prog 9 #[.slice (some ⟨g, 0, none⟩) 1 1, .slice A 2 c] w (CheckP b w) := by
  have HP := Lib.hid hp
  clear hp
  unfold cW at HP
  cases b
  all_goals
    go_enter Tryz.func9, Tryz.ntmps9
    go_wp2_with (go_at_call 25; refine HP.out.mono ?_; intro e w3 hq; obtain ⟨v, rfl, c1, c2, hb⟩ := play_end _ w _ _ hq; have HB := Lib.hid hb; clear hq hb; simp at c1 c2)
    go_quiet (fail)
    go_wp2
    go_ret3
    exact ⟨rfl, below_drewN HB.out _⟩
theorem check_5 (g gc gr : Nat) (A : Option Addr) (c : Nat) (w : World) (hg : g < w.heap.size) (hgr : w.rangeAt g 0 (aV 200)) (hs : Cs w w.heap.size A 2 c [putC gc, readC gr 5]) :
    Calls Tryz.prog 9 #[.slice (some ⟨g, 0, none⟩) 1 1, .slice A 2 c] w (CheckP false w) :=
  check_of false g A c w (play_5 g gc gr _ _ c A (cW w) (Nat.lt_of_lt_of_le hg (cW_below w).size) (range_below hgr (cW_below w) hg) (hs.after (cW_below w) (cW_below w).size) (cW_u w) (cW_r w) (by omega))
theorem check_6 (g gc gr : Nat) (A : Option Addr) (c : Nat) (w : World) (hg : g < w.heap.size) (hgr : w.rangeAt g 0 (aV 200)) (hs : Cs w w.heap.size A 2 c [putC gc, readC gr 6]) :
    Calls Tryz.prog 9 #[.slice (some ⟨g, 0, none⟩) 1 1, .slice A 2 c] w (CheckP true w) :=
  check_of true g A c w (play_6 g gc gr _ _ c A (cW w) (Nat.lt_of_lt_of_le hg (cW_below w).size) (range_below hgr (cW_below w) hg) (hs.after (cW_below w) (cW_below w).size) (cW_u w) (cW_r w) (by omega))
end Go.Proofs.YtpklgdclknicjaaGreatDoor
namespace Go.Proofs.YtpklgdclknicjaaGreatDoor
open Go.RowKit

theorem conf_ex (gc gr : Nat) : confL (ordS [putC gc, readC gr 6]) (ordS [putC gc, readC gr 6]).length = [(0, 1)] := by kernel_rfl
theorem sm_ex (gc gr : Nat) (k : Int) : ∀ x ∈ [putC gc, readC gr k], Sm x := by
  intro x hx
  simp at hx
  rcases hx with rfl | rfl <;> exact ⟨by simp [putC, readC], by simp [putC, readC]⟩
def pU (gc : Nat) : List Value := [.int .i64 9, .int .i64 5, .slice none 0 0, .slice (some ⟨gc, 0, none⟩) 1 1]
def rU (gr : Nat) (k : Int) : List Value := [.int .i64 8, .int .i64 k, .slice (some ⟨gr, 0, none⟩) 1 1, .slice none 0 0]
/-- what holds in every world of awake -/
structure AW (w W : World) (k : Int) : Prop where
  b0 : Blk W w.heap.size 41 (aV 200).toArray
  b1 : Blk W (w.heap.size + 1) 43 cV.toArray
  b2 : Blk W (w.heap.size + 1 + 1) 47 #[.int .i64 9, .int .i64 5, .slice none 0 0, .slice (some ⟨w.heap.size + 1, 0, none⟩) 1 1]
  b3 : Blk W (w.heap.size + 1 + 1 + 1) 49 rV.toArray
  b4 : Blk W (w.heap.size + 1 + 1 + 1 + 1) 47 #[.int .i64 8, .int .i64 k, .slice (some ⟨w.heap.size + 1 + 1 + 1, 0, none⟩) 1 1, .slice none 0 0]
  sz : w.heap.size + 5 ≤ W.heap.size
  be : Below w.heap.size w W
section
variable {w W W' : World} {k : Int}
theorem AW.next (h : AW w W k) (hb : Below W.heap.size W W') : AW w W' k :=
  have hz := h.sz
  ⟨h.b0.below hb (by omega), h.b1.below hb (by omega), h.b2.below hb (by omega), h.b3.below hb (by omega), h.b4.below hb (by omega), Nat.le_trans hz hb.size, below_next h.be hb (by omega)⟩
theorem AW.alloc (h : AW w W k) (o : Obj) : AW w (W.alloc o) k := h.next ((Below.refl _ _).alloc (Nat.le_refl _) _)
theorem AW.start (w : World) : AW w (((((w.alloc (.cells (aV 200).toArray 41)).alloc (.cells cV.toArray 43)).alloc (.cells #[.int .i64 9, .int .i64 5, .slice none 0 0, .slice (some ⟨w.heap.size + 1, 0, none⟩) 1 1] 47)).alloc (.cells rV.toArray 49)).alloc (.cells #[.int .i64 8, .int .i64 5, .slice (some ⟨w.heap.size + 1 + 1 + 1, 0, none⟩) 1 1, .slice none 0 0] 47)) 5 :=
  ⟨((((Blk.new w _ _).alloc _).alloc _).alloc _).alloc _, (((blk_at (w.alloc _) _ _ (w.heap.size + 1) (by simp)).alloc _).alloc _).alloc _, ((blk_at ((w.alloc _).alloc _) _ _ (w.heap.size + 1 + 1) (by simp)).alloc _).alloc _, (blk_at (((w.alloc _).alloc _).alloc _) _ _ (w.heap.size + 1 + 1 + 1) (by simp)).alloc _, blk_at ((((w.alloc _).alloc _).alloc _).alloc _) _ _ (w.heap.size + 1 + 1 + 1 + 1) (by simp), by simp,
   (((((Below.refl _ _).alloc (Nat.le_refl _) _).alloc (by simp) _).alloc (by simp; omega) _).alloc (by simp; omega) _).alloc (by simp; omega) _⟩
theorem AW.set (h : AW w W k) (k' : Int) : AW w (W.setCell ⟨w.heap.size + 1 + 1 + 1 + 1, 1, none⟩ (.int .i64 k')) k' :=
  ⟨h.b0.far (by simp <;> omega) _, h.b1.far (by simp <;> omega) _, h.b2.far (by simp <;> omega) _, h.b3.far (by simp <;> omega) _, h.b4.set 1 _, by simpa using h.sz, h.be.setCell (by simp <;> omega) _⟩
theorem AW.units (h : AW w W k) : Cs (W.alloc (.cells #[.int .i64 9, .int .i64 5, .slice none 0 0, .slice (some ⟨w.heap.size + 1, 0, none⟩) 1 1, .int .i64 8, .int .i64 k, .slice (some ⟨w.heap.size + 1 + 1 + 1, 0, none⟩) 1 1, .slice none 0 0] 47))
    (W.alloc (.cells #[.int .i64 9, .int .i64 5, .slice none 0 0, .slice (some ⟨w.heap.size + 1, 0, none⟩) 1 1, .int .i64 8, .int .i64 k, .slice (some ⟨w.heap.size + 1 + 1 + 1, 0, none⟩) 1 1, .slice none 0 0] 47)).heap.size (some ⟨W.heap.size, 0, none⟩) 2 2 [putC (w.heap.size + 1), readC (w.heap.size + 1 + 1 + 1) k] := by
  have hz := h.sz
  refine ⟨?_, fun x hx => ?_⟩
  · have := Sl.new comC_len W 47 [putC (w.heap.size + 1), readC (w.heap.size + 1 + 1 + 1) k]
    exact this.more (by simp)
  · simp at hx
    rcases hx with rfl | rfl
    · refine ⟨Sl.nil, ⟨Nat.le_refl _, rfl, rfl, fun _ => ⟨w.heap.size + 1, 0, rfl, by simp; omega, fun j u hu => ?_⟩⟩, show (0 : Nat) ≤ maxLen from Nat.zero_le _, show (1 : Nat) ≤ maxLen by decide⟩
      exact (h.b1.alloc _).range 0 _ (fun j v hv => by rw [List.getElem?_toArray, Nat.zero_add]; exact hv) j u hu
    · refine ⟨⟨Nat.le_refl _, rfl, rfl, fun _ => ⟨w.heap.size + 1 + 1 + 1, 0, rfl, by simp; omega, fun j u hu => ?_⟩⟩, Sl.nil, show (1 : Nat) ≤ maxLen by decide, show (0 : Nat) ≤ maxLen from Nat.zero_le _⟩
      exact (h.b3.alloc _).range 0 _ (fun j v hv => by rw [List.getElem?_toArray, Nat.zero_add]; exact hv) j u hu
theorem chk5 (h : AW w W 5) : Calls Tryz.prog 9 #[.slice (some ⟨W.heap.size, 0, none⟩) 1 1, .slice (some ⟨W.heap.size + 1, 0, none⟩) 2 2] ((W.alloc (.cells (aV 200).toArray 41)).alloc (.cells #[.int .i64 9, .int .i64 5, .slice none 0 0, .slice (some ⟨w.heap.size + 1, 0, none⟩) 1 1, .int .i64 8, .int .i64 5, .slice (some ⟨w.heap.size + 1 + 1 + 1, 0, none⟩) 1 1, .slice none 0 0] 47)) fun e w' => e = .returned (.tuple #[.int .i64 (-1), .int .i64 (-1), .int .i64 0]) ∧ AW w w' 5 ∧ Below W.heap.size W w' := by
  have hz : (W.alloc (.cells (aV 200).toArray 41)).heap.size = W.heap.size + 1 := by simp
  have hu := (h.alloc (.cells (aV 200).toArray 41)).units
  rw [hz] at hu
  have hb0 : Below W.heap.size W ((W.alloc (.cells (aV 200).toArray 41)).alloc (.cells #[.int .i64 9, .int .i64 5, .slice none 0 0, .slice (some ⟨w.heap.size + 1, 0, none⟩) 1 1, .int .i64 8, .int .i64 5, .slice (some ⟨w.heap.size + 1 + 1 + 1, 0, none⟩) 1 1, .slice none 0 0] 47)) := ((Below.refl _ _).alloc (Nat.le_refl _) _).alloc (by simp) _
  refine (check_5 W.heap.size _ _ _ 2 _ (by simp; omega) (((Blk.new W 41 (aV 200).toArray).alloc _).range 0 _ fun j v hv => by rw [List.getElem?_toArray, Nat.zero_add]; exact hv) hu).mono ?_
  rintro e w' ⟨rfl, hb⟩
  exact ⟨rfl, ((h.alloc _).alloc _).next hb, below_next hb0 hb hb0.size⟩
theorem chk6 (h : AW w W 6) : Calls Tryz.prog 9 #[.slice (some ⟨W.heap.size, 0, none⟩) 1 1, .slice (some ⟨W.heap.size + 1, 0, none⟩) 2 2] ((W.alloc (.cells (aV 200).toArray 41)).alloc (.cells #[.int .i64 9, .int .i64 5, .slice none 0 0, .slice (some ⟨w.heap.size + 1, 0, none⟩) 1 1, .int .i64 8, .int .i64 6, .slice (some ⟨w.heap.size + 1 + 1 + 1, 0, none⟩) 1 1, .slice none 0 0] 47)) fun e w' => e = .returned (.tuple #[.int .i64 (1), .int .i64 (0), .int .i64 0]) ∧ AW w w' 6 ∧ Below W.heap.size W w' := by
  have hz : (W.alloc (.cells (aV 200).toArray 41)).heap.size = W.heap.size + 1 := by simp
  have hu := (h.alloc (.cells (aV 200).toArray 41)).units
  rw [hz] at hu
  have hb0 : Below W.heap.size W ((W.alloc (.cells (aV 200).toArray 41)).alloc (.cells #[.int .i64 9, .int .i64 5, .slice none 0 0, .slice (some ⟨w.heap.size + 1, 0, none⟩) 1 1, .int .i64 8, .int .i64 6, .slice (some ⟨w.heap.size + 1 + 1 + 1, 0, none⟩) 1 1, .slice none 0 0] 47)) := ((Below.refl _ _).alloc (Nat.le_refl _) _).alloc (by simp) _
  refine (check_6 W.heap.size _ _ _ 2 _ (by simp; omega) (((Blk.new W 41 (aV 200).toArray).alloc _).range 0 _ fun j v hv => by rw [List.getElem?_toArray, Nat.zero_add]; exact hv) hu).mono ?_
  rintro e w' ⟨rfl, hb⟩
  exact ⟨rfl, ((h.alloc _).alloc _).next hb, below_next hb0 hb hb0.size⟩
end

/-- the first unit in its order lies on -/
structure AZ (w : World) (b o : Nat) (W : World) : Prop where
  lb : b < W.heap.size
  ne : b ≠ w.heap.size + 1 + 1 + 1 + 1
  c : W.cell? ⟨b, o, none⟩ = some (.int .i64 8)
theorem AZ.next {w W W' : World} {b o : Nat} (h : AZ w b o W) (hb : Below W.heap.size W W') : AZ w b o W' := ⟨Nat.lt_of_lt_of_le h.lb hb.size, h.ne, (hb.cell (p := ⟨b, o, none⟩) h.lb).trans h.c⟩
theorem AZ.alloc {w W : World} {b o : Nat} (h : AZ w b o W) (ob : Obj) : AZ w b o (W.alloc ob) := h.next ((Below.refl _ _).alloc (Nat.le_refl _) _)
theorem AZ.set {w W : World} {b o : Nat} (h : AZ w b o W) (v : Value) : AZ w b o (W.setCell ⟨w.heap.size + 1 + 1 + 1 + 1, 1, none⟩ v) :=
  ⟨by simpa using h.lb, h.ne, (World.cell?_setCell_other W _ _ v (fun e => by injection e with e _ _; exact h.ne e.symm)).trans h.c⟩
theorem AZ.start {w W : World} {k k' : Int} {b o gc gr : Nat} (h : AW w W k) (hbl : b < W.heap.size) (h0 : W.rangeAt b o (comC (readC gr k'))) (h1 : W.rangeAt b (o + 4) (comC (putC gc))) : AZ w b o W := by
  refine ⟨hbl, fun e => ?_, h0 0 _ rfl⟩
  subst e
  have hc := h1 0 _ rfl
  rw [h.b4.cell] at hc
  simp at hc
theorem sl_one' {W : World} {A : Option Addr} {n c : Nat} (h : Sl pC 2 W W.heap.size A n c [(0, 1)]) : ∃ b o, A = some ⟨b, o, none⟩ ∧ W.cell? ⟨b, o, none⟩ = some (.int .i64 0) ∧ W.cell? ⟨b, o + 1, none⟩ = some (.int .i64 1) := by
  have hn : n = 1 := h.len.symm
  subst hn
  obtain ⟨b, o, e, _, hc⟩ := h.2.2.2 (by decide)
  exact ⟨b, o, e, hc 0 _ rfl, hc 1 _ rfl⟩

set_option maxRecDepth 100000 in
set_option maxHeartbeats 2000000 in
theorem awake_any (w : World) : Calls Tryz.prog 4 #[] w fun e w' => e = .returned (.bool true) ∧ Below w.heap.size w w' := by
  obtain ⟨i0, hi0, hz0, hz1, hz2⟩ := info_parts infoCont
  have HST : Hid (AW w (((((w.alloc (.cells (aV 200).toArray 41)).alloc (.cells #[.int .i64 0, .int .i64 200, .string ⟨#[107]⟩, .string ⟨#[107, 49]⟩, .string ⟨#[]⟩] 43)).alloc (.cells #[.int .i64 9, .int .i64 5, .slice none 0 0, .slice (some ⟨w.heap.size + 1, 0, none⟩) 1 1] 47)).alloc (.cells #[.int .i64 0, .int .i64 200, .string ⟨#[107]⟩, .string ⟨#[]⟩, .string ⟨#[]⟩, .int .i64 6] 49)).alloc (.cells #[.int .i64 8, .int .i64 5, .slice (some ⟨w.heap.size + 1 + 1 + 1, 0, none⟩) 1 1, .slice none 0 0] 47)) 5) := Lib.hid (AW.start w)
  have HA := Lib.hid (aV_one 200)
  have HB := Lib.hid fun old => Blk.new w 41 old
  have HSR := Lib.hid fun old => setRow_newF w old (aV 200).toArray 41
  go_enter Tryz.func4, Tryz.ntmps4
  go_upto_region 4 with (first | ((with_reducible show wpList _ _ _ (⟨_, .build 38 _, _, _, _, _⟩ :: _) _ _); refine wpList_build_held (by kernel_rfl) 38 _ rfl (dV 200).toArray (by kernel_rfl) ?_) | ((with_reducible show wpList _ _ _ (⟨_, .build 41 _, _, _, _, _⟩ :: _) _ _); refine wpList_build_held (by kernel_rfl) 41 _ rfl (aV 200).toArray (by kernel_rfl) ?_) | ((with_reducible show wpList _ _ _ (⟨_, .store 41 (.tmp 1) _, _, _, _, _⟩ :: _) _ _); refine wpList_store_row rfl 41 _ _ rfl w.heap.size (aV 200).toArray rfl rfl 41 _ (HB.out _) (by kernel_rfl) rfl HA.out ?_; rw [HSR.out]))
  obtain ⟨W, hW, hx⟩ : ∃ W, W = (((((w.alloc (.cells (aV 200).toArray 41)).alloc (.cells #[.int .i64 0, .int .i64 200, .string ⟨#[107]⟩, .string ⟨#[107, 49]⟩, .string ⟨#[]⟩] 43)).alloc (.cells #[.int .i64 9, .int .i64 5, .slice none 0 0, .slice (some ⟨w.heap.size + 1, 0, none⟩) 1 1] 47)).alloc (.cells #[.int .i64 0, .int .i64 200, .string ⟨#[107]⟩, .string ⟨#[]⟩, .string ⟨#[]⟩, .int .i64 6] 49)).alloc (.cells #[.int .i64 8, .int .i64 5, .slice (some ⟨w.heap.size + 1 + 1 + 1, 0, none⟩) 1 1, .slice none 0 0] 47)) ∧ AW w W 5 := ⟨_, rfl, HST.out⟩
  rw [← hW]
  have HW := Lib.hid hx
  clear hW hx HST HB HSR HA
  go_upto_region 5 with (first | ((with_reducible show wpList _ _ _ (⟨_, .load 47 (.tmp 2), _, _, _, _⟩ :: _) _ _); refine wpList_load_row rfl 47 _ rfl (w.heap.size + 1 + 1) rfl 47 _ (0, 0) _ (by first | exact HW.out.b2 | exact (HW.out.alloc _).b2) Tryz.underlying47 rfl (by kernel_rfl) ?_) | ((with_reducible show wpList _ _ _ (⟨_, .load 47 (.tmp 3), _, _, _, _⟩ :: _) _ _); refine wpList_load_row rfl 47 _ rfl (w.heap.size + 1 + 1 + 1 + 1) rfl 47 _ (0, 0) _ (by first | exact HW.out.b4 | exact (HW.out.alloc _).b4) Tryz.underlying47 rfl (by kernel_rfl) ?_) | (go_at_call 8; refine (order_any _ 2 2 _ _ HW.out.units (vols_ex _ _ _) (by decide)).mono ?_; intro e w1 hp; obtain ⟨A1, c1, rfl, hcs, hb1⟩ := ord_get hp (ord5 _ _); obtain ⟨_, b, o, rfl, hbl, h0, h1⟩ := sl_two comC_len hcs.1; have HWn := Lib.hid ((HW.out.alloc _).next hb1); clear HW; have HW := HWn; clear HWn; have HZ := Lib.hid (AZ.start HW.out hbl h0 h1); clear hp hcs hb1 hbl h0 h1))
  go_upto_region 6 with (first | ((with_reducible show wpList _ _ _ (⟨_, .load 41 (.tmp 1), _, _, _, _⟩ :: _) _ _); refine wpList_load_row rfl 41 _ rfl w.heap.size rfl 41 _ (0, 0) _ (by first | exact HW.out.b0 | exact (HW.out.alloc _).b0) Tryz.underlying41 rfl (by kernel_rfl) ?_) | ((with_reducible show wpList _ _ _ (⟨_, .buildSlice 55 _ _, _, _, _, _⟩ :: _) _ _); refine wpList_buildSlice rfl 55 41 1 _ rfl (aV 200).toArray i0 (.agg zV.toArray) Tryz.underlying55 hi0 hz0 (by rw [hz1]; decide) (by rw [hz1]; decide) (by rw [hz1]; kernel_rfl) ?_) | ((with_reducible show wpList _ _ _ (⟨_, .load 47 (.tmp 2), _, _, _, _⟩ :: _) _ _); refine wpList_load_row rfl 47 _ rfl (w.heap.size + 1 + 1) rfl 47 _ (0, 0) _ (by first | exact HW.out.b2 | exact (HW.out.alloc _).b2) Tryz.underlying47 rfl (by kernel_rfl) ?_) | ((with_reducible show wpList _ _ _ (⟨_, .load 47 (.tmp 3), _, _, _, _⟩ :: _) _ _); refine wpList_load_row rfl 47 _ rfl (w.heap.size + 1 + 1 + 1 + 1) rfl 47 _ (0, 0) _ (by first | exact HW.out.b4 | exact (HW.out.alloc _).b4) Tryz.underlying47 rfl (by kernel_rfl) ?_) | (go_at_call 9; refine (chk5 HW.out).mono ?_; rintro e w2 ⟨rfl, hx, hb⟩; have HWn := Lib.hid (hx); clear HW; have HW := HWn; clear HWn; have HZn := Lib.hid (HZ.out.next hb); clear HZ; have HZ := HZn; clear HZn; clear hx hb))
  have s1 := HW.out.b4.cell 1
  have s2 := HW.out.b4.free 1
  simp at s1
  go_upto_region 7 with (fail)
  obtain ⟨W3, hW3, hx, hb⟩ : ∃ W3, W3 = w2.setCell ⟨w.heap.size + 1 + 1 + 1 + 1, 1, none⟩ (.int .i64 6) ∧ AW w W3 6 ∧ AZ w b o W3 := ⟨_, rfl, HW.out.set 6, HZ.out.set _⟩
  rw [← hW3]
  have HWn := Lib.hid (hx); clear HW; have HW := HWn; clear HWn; have HZn := Lib.hid hb; clear HZ; have HZ := HZn; clear HZn
  clear hW3 hx hb s1 s2
  go_upto_region 8 with (first | ((with_reducible show wpList _ _ _ (⟨_, .load 41 (.tmp 1), _, _, _, _⟩ :: _) _ _); refine wpList_load_row rfl 41 _ rfl w.heap.size rfl 41 _ (0, 0) _ (by first | exact HW.out.b0 | exact (HW.out.alloc _).b0) Tryz.underlying41 rfl (by kernel_rfl) ?_) | ((with_reducible show wpList _ _ _ (⟨_, .buildSlice 55 _ _, _, _, _, _⟩ :: _) _ _); refine wpList_buildSlice rfl 55 41 1 _ rfl (aV 200).toArray i0 (.agg zV.toArray) Tryz.underlying55 hi0 hz0 (by rw [hz1]; decide) (by rw [hz1]; decide) (by rw [hz1]; kernel_rfl) ?_) | ((with_reducible show wpList _ _ _ (⟨_, .load 47 (.tmp 2), _, _, _, _⟩ :: _) _ _); refine wpList_load_row rfl 47 _ rfl (w.heap.size + 1 + 1) rfl 47 _ (0, 0) _ (by first | exact HW.out.b2 | exact (HW.out.alloc _).b2) Tryz.underlying47 rfl (by kernel_rfl) ?_) | ((with_reducible show wpList _ _ _ (⟨_, .load 47 (.tmp 3), _, _, _, _⟩ :: _) _ _); refine wpList_load_row rfl 47 _ rfl (w.heap.size + 1 + 1 + 1 + 1) rfl 47 _ (0, 0) _ (by first | exact HW.out.b4 | exact (HW.out.alloc _).b4) Tryz.underlying47 rfl (by kernel_rfl) ?_) | (go_at_call 9; refine (chk6 HW.out).mono ?_; rintro e w4 ⟨rfl, hx, hb⟩; have HWn := Lib.hid (hx); clear HW; have HW := HWn; clear HWn; have HZn := Lib.hid (HZ.out.next hb); clear HZ; have HZ := HZn; clear HZn; clear hx hb))
  go_upto_region 9 with (first | ((with_reducible show wpList _ _ _ (⟨_, .load 47 (.tmp 2), _, _, _, _⟩ :: _) _ _); refine wpList_load_row rfl 47 _ rfl (w.heap.size + 1 + 1) rfl 47 _ (0, 0) _ (by first | exact HW.out.b2 | exact (HW.out.alloc _).b2) Tryz.underlying47 rfl (by kernel_rfl) ?_) | ((with_reducible show wpList _ _ _ (⟨_, .load 47 (.tmp 3), _, _, _, _⟩ :: _) _ _); refine wpList_load_row rfl 47 _ rfl (w.heap.size + 1 + 1 + 1 + 1) rfl 47 _ (0, 0) _ (by first | exact HW.out.b4 | exact (HW.out.alloc _).b4) Tryz.underlying47 rfl (by kernel_rfl) ?_) | (go_at_call 10; refine (hconf_any _ 2 2 _ _ HW.out.units (vols_ex _ _ _) (by decide) (sm_ex _ _ _)).mono ?_; intro e w5 hp; rw [conf_ex] at hp; obtain ⟨A5, c5, rfl, hs5, hb⟩ := hp; obtain ⟨b5, o5, rfl, x0, x1⟩ := sl_one' hs5; have HWn := Lib.hid ((HW.out.alloc _).next hb); clear HW; have HW := HWn; clear HWn; have HZn := Lib.hid ((HZ.out.alloc _).next hb); clear HZ; have HZ := HZn; clear HZn; clear hb hs5))
  have l0 := HZ.out.c
  have qq : ∀ W : World, (binOp .eql 58 (.agg #[.int .i64 0, .int .i64 1]) (.agg #[.int .i64 0, .int .i64 1])).run Tryz.prog W = .ok (.bool true) W := fun W => by kernel_rfl
  go_wp2
  go_ret
  exact ⟨rfl, HW.out.be⟩
end Go.Proofs.YtpklgdclknicjaaGreatDoor
