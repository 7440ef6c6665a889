/- History, awake: the example's read, explained or not. -/
import Derived.Test.YtpklgdclknicjaaGreatDoorMH
namespace Go.Proofs.YtpklgdclknicjaaGreatDoor
open Go.RowKit

theorem own_range {w : World} {base h c n k : Nat} {t : TypeId} {xs : List Value} (ho : w.ownsRow base t k (.slice (some ⟨h, 0, none⟩) n c) n xs) : w.rangeAt h 0 xs := fun j v hv => by
  rw [Nat.zero_add]
  have := ho.cells (g := h) rfl j v hv
  rwa [show ((⟨h, 0, none⟩ : Addr).add j) = ⟨h, j, none⟩ from by unfold Addr.add; split <;> simp_all] at this
def rV : List Value := [.int .i64 0, .int .i64 200, .string ⟨#[107]⟩, .string ⟨#[]⟩, .string ⟨#[]⟩, .int .i64 6]
theorem ex_box {w w3 w5 : World} {o2 o3 : Obj} (h1 : Below (((w.alloc (.cells rV.toArray 49)).alloc o2).alloc o3).heap.size (((w.alloc (.cells rV.toArray 49)).alloc o2).alloc o3) w3) (h2 : Below w3.heap.size w3 w5) :
    Blk w5 w.heap.size 49 rV.toArray ∧ Below w.heap.size w w5 ∧ w.heap.size < w5.heap.size := by
  have e1 := h1.size
  have e2 := h2.size
  simp at e1
  refine ⟨((((Blk.new w 49 rV.toArray).alloc o2).alloc o3).below h1 (by simp; omega)).below h2 (by omega), ?_, by omega⟩
  exact (((((Below.refl _ _).alloc (Nat.le_refl _) _).alloc (by simp) _).alloc (by simp; omega) _).trans (h1.mono (by simp; omega))).trans (h2.mono (by omega))
theorem ex_get {w5 w7 : World} {b : Nat} (hbx : Blk w5 b 49 rV.toArray) (hb : Below (w5.alloc (.cells #[.string ⟨#[107]⟩, .string ⟨#[]⟩, .int .i64 0] 28)).heap.size (w5.alloc (.cells #[.string ⟨#[107]⟩, .string ⟨#[]⟩, .int .i64 0] 28)) w7) :
    Blk w7 b 49 rV.toArray ∧ Blk w7 w5.heap.size 28 #[.string ⟨#[107]⟩, .string ⟨#[]⟩, .int .i64 0] :=
  ⟨(hbx.alloc _).below hb (by have := hbx.lt; simp; omega), (Blk.new w5 _ _).below hb (by simp)⟩
theorem ex_next {w w5 w7 : World} {o : Obj} (h5 : Below w.heap.size w w5) (hl : w.heap.size < w5.heap.size) (hb : Below (w5.alloc o).heap.size (w5.alloc o) w7) : Below w.heap.size w w7 :=
  (h5.alloc (by omega) _).trans (hb.mono (by simp; omega))
theorem Get_at (b : Bool) (ap : Int) (A : Option Addr) (n c h cc : Nat) (w : World) (o : Obj) (hh : h < w.heap.size) (hr : w.rangeAt h 0 (kV ap A n c)) (hp : PR b w A n c) :
    Calls Tryz.prog 331 #[.slice (some ⟨h, 0, none⟩) 1 cc, .int .i64 200, .string ⟨#[107]⟩] (w.alloc o) fun e w' => e = .returned (getV b) ∧ Below (w.alloc o).heap.size (w.alloc o) w' :=
  Get_any b ap A n c h cc _ (by simp; omega) (range_below hr ((Below.refl _ _).alloc (Nat.le_refl _) _) hh) (hp.below ((Below.refl _ _).alloc (Nat.le_refl _) _))
structure EX (w W : World) (g : Nat) (x : ByteArray) (y : Int) : Prop where
  b1 : Blk W w.heap.size 49 rV.toArray
  b2 : Blk W g 28 #[.string ⟨#[107]⟩, .string x, .int .i64 y]
  lt : w.heap.size < g
  be : Below w.heap.size w W
theorem ex_set {w w7 : World} {g : Nat} (h1 : Blk w7 w.heap.size 49 rV.toArray) (h2 : Blk w7 g 28 #[.string ⟨#[107]⟩, .string ⟨#[]⟩, .int .i64 0]) (hl : w.heap.size < g) (hb : Below w.heap.size w w7) (x : ByteArray) (y : Int) :
    ∃ W, W = (w7.setCell ⟨g, 1, none⟩ (.string x)).setCell ⟨g, 2, none⟩ (.int .i64 y) ∧ EX w W g x y :=
  ⟨_, rfl, (h1.far (by simp; omega) _).far (by simp; omega) _, (h2.set 1 _).set 2 _, hl, (hb.setCell (by simp; omega) _).setCell (by simp; omega) _⟩
theorem ex_row {w W : World} {g : Nat} {x : ByteArray} {y : Int} (h : EX w W g x y) (cs : Array Value) : (W.setRow g cs).rangeAt w.heap.size 3 [.string ⟨#[]⟩, .string ⟨#[]⟩, .int .i64 6] := by
  have hl := h.lt
  have : Blk (W.setRow g cs) w.heap.size 49 rV.toArray := (setRow_other W g w.heap.size cs (by omega)).trans h.b1
  refine this.range 3 _ fun j v hv => ?_
  match j, hv with
  | 0, hv => exact hv
  | 1, hv => exact hv
  | 2, hv => exact hv
theorem ex_rg {w W : World} {g : Nat} {x : ByteArray} {y : Int} (h : EX w W g x y) : W.rangeAt w.heap.size 3 [.string ⟨#[]⟩, .string ⟨#[]⟩, .int .i64 6] := by
  refine h.b1.range 3 _ fun j v hv => ?_
  match j, hv with
  | 0, hv => exact hv
  | 1, hv => exact hv
  | 2, hv => exact hv
theorem method_get (h c : Nat) (w : World) : (method 490 140 (.slice (some ⟨h, 0, none⟩) 1 c) "Get").run Tryz.prog w = .ok (331, .slice (some ⟨h, 0, none⟩) 1 c) w := by kernel_rfl
set_option maxRecDepth 100000 in
set_option maxHeartbeats 400000 in
theorem explained_any (b : Bool) (ap : Int) (A : Option Addr) (n c bs : Nat) (w : World) (hs : St w bs (kV ap A n c)) (hp : PR b w A n c) :
    Calls Tryz.prog 29 #[.map (some bs), .agg #[.int .i64 0, .int .i64 200, .string ⟨#[107]⟩, .string ⟨#[]⟩, .string ⟨#[]⟩, .int .i64 6]] w fun e w' => e = .returned (.bool (!b)) ∧ Below w.heap.size w w' := by
  obtain ⟨i0, hi0, hz0, hz1, hz2⟩ := info_parts infoCont
  have hl : ∀ o1, (Instr.lookup 78 (.map (some bs)) (.int .i64 200) true).run Tryz.prog (w.alloc o1) = .ok (.tuple #[.agg (kV ap A n c).toArray, .bool true]) (w.alloc o1) := fun o1 => sLook_yes _ bs _ (hs.alloc _)
  have H1 := Lib.hid (kV_one ap A n c)
  have HB : Hid (∀ o1 old, Blk ((w.alloc o1).alloc (.cells old 41)) (w.heap.size + 1) 41 old) := Lib.hid fun o1 old => blk_at (w.alloc o1) _ old _ (by simp)
  have HS : Hid (∀ o1 old cs, ((w.alloc o1).alloc (.cells old 41)).setRow (w.heap.size + 1) cs = (w.alloc o1).alloc (.cells cs 41)) := Lib.hid fun o1 old cs => setRow_two (w.alloc o1) _ (by simp) old cs _
  have HRD : Hid (∀ o1 o2, Rd (((w.alloc o1).alloc o2).alloc (.cells (kV ap A n c).toArray 41)) (((w.alloc o1).alloc o2).heap.size + 1) 23 (some ⟨((w.alloc o1).alloc o2).heap.size, 0, none⟩) 1 (kV ap A n c)) := Lib.hid fun o1 o2 => rd_new ((w.alloc o1).alloc o2) (kV ap A n c) 41 1 23 rfl
  have HP : Hid (∀ o1 o2 o3, PR b (((w.alloc o1).alloc o2).alloc o3) A n c) := Lib.hid fun o1 o2 o3 => hp.below ((((Below.refl _ _).alloc (Nat.le_refl _) _).alloc (by simp) _).alloc (by simp; omega) _)
  clear hs hp
  have hm := method_get
  cases b
  all_goals
    go_enter Tryz.func29, Tryz.ntmps29
    go_wp2_with (first | ((with_reducible show wpList _ _ _ (⟨_, .store 41 (.tmp 6) _, _, _, _, _⟩ :: _) _ _); refine wpList_store_row rfl 41 _ _ rfl (w.heap.size + 1) (kV ap A n c).toArray rfl rfl 41 _ (HB.out _ _) (by kernel_rfl) rfl H1.out ?_; rw [HS.out]) | ((with_reducible show wpList _ _ _ (⟨_, .load 41 (.tmp 6), _, _, _, _⟩ :: _) _ _); refine wpList_load_row rfl 41 _ rfl (w.heap.size + 1) rfl 41 _ (0, 0) _ (HB.out _ _) Tryz.underlying41 rfl (by kernel_rfl) ?_) | ((with_reducible show wpList _ _ _ (⟨_, .buildSlice 55 _ _, _, _, _, _⟩ :: _) _ _); refine wpList_buildSlice rfl 55 41 1 _ rfl (kV ap A n c).toArray i0 (.agg zV.toArray) Tryz.underlying55 hi0 hz0 (by rw [hz1]; decide) (by rw [hz1]; decide) (by rw [hz1]; kernel_rfl) ?_) | (at_builtin; go_must (refine wpList_app _ rfl _ _ 55 rfl w.heap.size 41 i0 _ 23 216 Tryz.underlying55 hi0 hz0 hz1 hz2 rfl (by decide) (.slice none 0 0) 0 [] rfl ⟨rfl, .inl ⟨rfl, rfl⟩⟩ _ _ 1 1 (kV ap A n c) rfl (HRD.out _ _) (kV_ones ap A n c) (by decide) (by decide) (by simp; omega) ?_; intro v' w3 hown hgr _; obtain ⟨h, c'', rfl, _⟩ := own_at hown (by decide); have HOWN := Lib.hid hown; have HBE := Lib.hid (below_grown (show World.grownBy _ w3 none from hgr)); have HP3 := Lib.hid ((HP.out _ _ _).below HBE.out); clear hown hgr)) | (go_at_call 49; refine (Reader_any _ ap A n c h c'' w3 HP3.out (own_range HOWN.out)).mono ?_; rintro e w5 ⟨h5, c5, A5, n5, m5, rfl, hh5, hr5, hp5, hb5⟩; have HH5 := Lib.hid hh5; have HR5 := Lib.hid hr5; have HP5 := Lib.hid hp5; obtain ⟨hbx, hbe, hlt⟩ := ex_box HBE.out hb5; have HBX := Lib.hid hbx; have HBE5 := Lib.hid hbe; have HLT := Lib.hid hlt; clear hh5 hr5 hp5 hb5 hbe hlt hl; have k2 : w5.cell? ⟨w.heap.size, 2, none⟩ = some (.string ⟨#[107]⟩) := (hbx.cell 2).trans rfl; have a0 : ∀ o, (w5.alloc o).cell? ⟨w.heap.size, 0, none⟩ = some (.int .i64 0) := fun o => ((hbx.alloc o).cell 0).trans rfl; have a1 : ∀ o, (w5.alloc o).cell? ⟨w.heap.size, 1, none⟩ = some (.int .i64 200) := fun o => ((hbx.alloc o).cell 1).trans rfl; have a2 : ∀ o, (w5.alloc o).cell? ⟨w.heap.size, 2, none⟩ = some (.string ⟨#[107]⟩) := fun o => ((hbx.alloc o).cell 2).trans rfl; clear hbx))
    refine (Get_at _ ap A5 n5 m5 h5 c5 w5 _ HH5.out HR5.out HP5.out).mono ?_
    rintro e w7 ⟨rfl, hb⟩
    obtain ⟨hbx, hba⟩ := ex_get HBX.out hb
    have HB7 := Lib.hid (ex_next HBE5.out HLT.out hb)
    have q0 : w7.cell? ⟨w5.heap.size, 0, none⟩ = some (.string ⟨#[107]⟩) := (hba.cell 0).trans rfl
    have q1 : w7.cell? ⟨w5.heap.size, 1, none⟩ = some (.string ⟨#[]⟩) := (hba.cell 1).trans rfl
    have q2 : w7.cell? ⟨w5.heap.size, 2, none⟩ = some (.int .i64 0) := (hba.cell 2).trans rfl
    have f0 := hba.free 0
    have f1 := hba.free 1
    have f2 := hba.free 2
    have HBA := Lib.hid hba
    have HBX7 := Lib.hid hbx
    clear hb hbx hba k2 a0 a1 a2 hm
  · have e : getV false = .tuple #[.string ⟨#[]⟩, .int .i64 6] := rfl
    rw [e]
    clear e
    go_upto_region 10 with (fail)
    obtain ⟨W, hW, hx⟩ := ex_set HBX7.out HBA.out HLT.out HB7.out ⟨#[]⟩ 6
    rw [← hW]
    clear hW q0 q1 q2 f0 f1 f2
    have HX := Lib.hid hx
    have HQ : Hid ((#[.string ⟨#[]⟩, .string ⟨#[]⟩, .int .i64 6] : Array Value).all (·.oneCell') = true) := Lib.hid (by simp [Value.oneCell'])
    have r2 : W.cell? ⟨w5.heap.size, 2, none⟩ = some (.int .i64 6) := (hx.b2.cell 2).trans rfl
    clear hx
    go_wp2_with (first | ((with_reducible show wpList _ _ _ (⟨_, .store 28 (.tmp 9) _, _, _, _, _⟩ :: _) _ _); refine wpList_store_row rfl 28 _ _ rfl w5.heap.size #[.string ⟨#[]⟩, .string ⟨#[]⟩, .int .i64 6] rfl rfl 28 _ HX.out.b2 (by kernel_rfl) rfl HQ.out ?_) | ((with_reducible show wpList _ _ _ (⟨_, .load 28 (.tmp 58), _, _, _, _⟩ :: _) _ _); refine wpList_load_mid rfl 28 _ rfl w.heap.size 3 rfl _ _ (ex_row HX.out _) Tryz.underlying28 rfl (by kernel_rfl) ?_) | ((with_reducible show wpList _ _ _ (⟨_, .load 28 (.tmp 9), _, _, _, _⟩ :: _) _ _); refine wpList_load_row rfl 28 _ rfl w5.heap.size rfl 28 _ (0, 0) _ (setRow_heap _ _ _ _ _ _ HX.out.b2) Tryz.underlying28 rfl (by kernel_rfl) ?_))
    go_ret
    exact ⟨rfl, below_row HX.out.be (Nat.le_of_lt HX.out.lt) _⟩
  · have e : getV true = .tuple #[.string ⟨#[107, 49]⟩, .int .i64 0] := rfl
    rw [e]
    clear e
    go_upto_region 10 with (fail)
    obtain ⟨W, hW, hx⟩ := ex_set HBX7.out HBA.out HLT.out HB7.out ⟨#[107, 49]⟩ 0
    rw [← hW]
    clear hW q0 q1 q2 f0 f1 f2
    have HX := Lib.hid hx
    have r2 : W.cell? ⟨w5.heap.size, 2, none⟩ = some (.int .i64 0) := (hx.b2.cell 2).trans rfl
    clear hx
    go_wp2_with (first | ((with_reducible show wpList _ _ _ (⟨_, .load 28 (.tmp 58), _, _, _, _⟩ :: _) _ _); refine wpList_load_mid rfl 28 _ rfl w.heap.size 3 rfl _ _ (ex_rg HX.out) Tryz.underlying28 rfl (by kernel_rfl) ?_) | ((with_reducible show wpList _ _ _ (⟨_, .load 28 (.tmp 9), _, _, _, _⟩ :: _) _ _); refine wpList_load_row rfl 28 _ rfl w5.heap.size rfl 28 _ (0, 0) _ HX.out.b2 Tryz.underlying28 rfl (by kernel_rfl) ?_))
    go_ret
    exact ⟨rfl, HX.out.be⟩
end Go.Proofs.YtpklgdclknicjaaGreatDoor
