/- History, awake: what the reader gives. -/
import Derived.Test.YtpklgdclknicjaaGreatDoorMG
namespace Go.Proofs.YtpklgdclknicjaaGreatDoor
open Go.RowKit

theorem pairs1_any (ap : Int) (A : Option Addr) (n c b : Nat) (w : World) (h : w.cell? ⟨b, 0, none⟩ = some (.int .i64 200)) :
    Calls Tryz.prog 335 #[.agg (kV ap A n c).toArray, .pointer (some ⟨b, 0, none⟩)] w fun e w' => e = .returned (.bool true) ∧ Below w.heap.size w w' := by
  have hb : b < w.heap.size := by
    rcases Nat.lt_or_ge b w.heap.size with hlt | hge
    · exact hlt
    · simp [World.cell?, Array.getElem?_eq_none hge] at h
  have c0 : (w.alloc (.cells (kV ap A n c).toArray 41)).cell? ⟨w.heap.size, 0, none⟩ = some (.int .i64 200) := ((Blk.new w 41 (kV ap A n c).toArray).cell 0).trans rfl
  have c1 : (w.alloc (.cells (kV ap A n c).toArray 41)).cell? ⟨b, 0, none⟩ = some (.int .i64 200) := (World.cell?_alloc_lt w _ _ hb).trans h
  clear h hb
  go_enter Tryz.func335, Tryz.ntmps335
  go_wp2
  go_ret
  exact ⟨rfl, (Below.refl _ _).alloc (Nat.le_refl _) _⟩
set_option maxRecDepth 100000 in
theorem rindex_any (ap : Int) (A : Option Addr) (n c b h cc : Nat) (w : World) (hb : w.cell? ⟨b, 0, none⟩ = some (.int .i64 200)) (hr : w.rangeAt h 0 (kV ap A n c)) :
    Calls Tryz.prog 334 #[.slice (some ⟨h, 0, none⟩) 1 cc, .func (.func 335) #[] #[.pointer (some ⟨b, 0, none⟩)]] w fun e w' => e = .returned (.int .i64 0) ∧ Below w.heap.size w w' := by
  have HR := Lib.hid hr
  have HC := Lib.hid (pairs1_any ap A n c b w hb)
  clear hr hb
  go_enter Tryz.func334, Tryz.ntmps334
  go_wp2
  refine wp_loop_rounds 1 ?_
  rw [rounds_succ]
  go_wp2_with (first | ((with_reducible show wpList _ _ _ (⟨_, .load 41 (.tmp 14), _, _, _, _⟩ :: _) _ _); refine wpList_load_mid rfl 41 _ rfl h 0 rfl (kV ap A n c) _ HR.out Tryz.underlying41 rfl (by kernel_rfl) ?_) | (go_at_call 335; refine HC.out.mono ?_; rintro e w2 ⟨rfl, hb⟩; have HB := Lib.hid hb; clear hb))
  go_ret
  exact ⟨rfl, HB.out⟩
set_option maxRecDepth 100000 in
theorem pairs_any (ap : Int) (A : Option Addr) (n c h cc : Nat) (w : World) (hh : h < w.heap.size) (hr : w.rangeAt h 0 (kV ap A n c)) :
    Calls Tryz.prog 333 #[.slice (some ⟨h, 0, none⟩) 1 cc, .int .i64 200] w fun e w' => e = .returned (.slice A n c) ∧ Below w.heap.size w w' := by
  have HR := Lib.hid hr
  have HH := Lib.hid hh
  have HC := Lib.hid (rindex_any ap A n c w.heap.size h cc (w.alloc (.cells #[.int .i64 200] 3)) ((Blk.new w 3 #[.int .i64 200]).cell 0) (range_below hr ((Below.refl _ _).alloc (Nat.le_refl _) _) hh))
  clear hr hh
  go_enter Tryz.func333, Tryz.ntmps333
  go_wp2_with (go_at_call 334; refine HC.out.mono ?_; rintro e w2 ⟨rfl, hb⟩; have HB := Lib.hid (((Below.refl w.heap.size w).alloc (Nat.le_refl _) _).trans (hb.mono (by simp))); clear hb; have c22 := (range_below HR.out HB.out HH.out 22 (.slice A n c) rfl))
  go_ret
  exact ⟨rfl, HB.out⟩
theorem find1_a (b : Nat) (w : World) (h : w.cell? ⟨b, 0, none⟩ = some (.string ⟨#[107]⟩)) : Calls Tryz.prog 220 #[.agg #[.string ⟨#[107]⟩, .string ⟨#[107, 49]⟩], .pointer (some ⟨b, 0, none⟩)] w fun e w' => e = .returned (.bool true) ∧ Below w.heap.size w w' := by
  have hb : b < w.heap.size := by
    rcases Nat.lt_or_ge b w.heap.size with hlt | hge
    · exact hlt
    · simp [World.cell?, Array.getElem?_eq_none hge] at h
  have hl : Op.bytesLess (⟨#[107]⟩ : ByteArray).toList (⟨#[107]⟩ : ByteArray).toList = false := by kernel_rfl
  go_enter Tryz.func220, Tryz.ntmps220
  go_wp2
  go_ret
  exact ⟨rfl, (Below.refl _ _).alloc (Nat.le_refl _) _⟩
set_option maxRecDepth 100000 in
theorem pindex_a (b g c : Nat) (w : World) (hb : w.cell? ⟨b, 0, none⟩ = some (.string ⟨#[107]⟩)) (h0 : w.cell? ⟨g, 0, none⟩ = some (.string ⟨#[107]⟩)) (h1 : w.cell? ⟨g, 1, none⟩ = some (.string ⟨#[107, 49]⟩)) :
    Calls Tryz.prog 141 #[.slice (some ⟨g, 0, none⟩) 1 c, .func (.func 220) #[] #[.pointer (some ⟨b, 0, none⟩)]] w fun e w' => e = .returned (.int .i64 0) ∧ Below w.heap.size w w' := by
  have HC := Lib.hid (find1_a b w hb)
  clear hb
  go_enter Tryz.func141, Tryz.ntmps141
  go_wp2
  refine wp_loop_rounds 1 ?_
  rw [rounds_succ]
  go_wp2_with (go_at_call 220; refine HC.out.mono ?_; rintro e w2 ⟨rfl, hb⟩; have HB := Lib.hid hb; clear hb)
  go_ret
  exact ⟨rfl, HB.out⟩
set_option maxRecDepth 100000 in
theorem find_one (g c : Nat) (w : World) (hg : g < w.heap.size) (hr : w.rangeAt g 0 [.string ⟨#[107]⟩, .string ⟨#[107, 49]⟩]) :
    Calls Tryz.prog 161 #[.slice (some ⟨g, 0, none⟩) 1 c, .string ⟨#[107]⟩] w fun e w' => e = .returned (.tuple #[.int .i64 0, .bool true]) ∧ Below w.heap.size w w' := by
  have HR := Lib.hid hr
  have HG := Lib.hid hg
  have HC := Lib.hid (pindex_a w.heap.size g c (w.alloc (.cells #[.string ⟨#[107]⟩] 9)) ((Blk.new w 9 #[.string ⟨#[107]⟩]).cell 0) ((World.cell?_alloc_lt w _ _ hg).trans (hr 0 _ rfl)) ((World.cell?_alloc_lt w _ _ hg).trans (hr 1 _ rfl)))
  clear hr hg
  go_enter Tryz.func161, Tryz.ntmps161
  go_wp2_with (go_at_call 141; refine HC.out.mono ?_; rintro e w2 ⟨rfl, hb⟩; have HB := Lib.hid (((Below.refl w.heap.size w).alloc (Nat.le_refl _) _).trans (hb.mono (by simp))); have c0 := (range_below HR.out HB.out HG.out 0 (.string ⟨#[107]⟩) rfl); have c1 : w2.cell? ⟨w.heap.size, 0, none⟩ = some (.string ⟨#[107]⟩) := ((Blk.new w 9 #[.string ⟨#[107]⟩]).below hb (by simp)).cell 0; clear hb)
  go_quiet (fail)
  go_wp2
  go_ret2
  exact ⟨rfl, below_drewN HB.out _⟩
/-- what Get gives -/
def getV (b : Bool) : Value := if b then .tuple #[.string ⟨#[107, 49]⟩, .int .i64 0] else .tuple #[.string ⟨#[]⟩, .int .i64 6]
set_option maxRecDepth 100000 in
theorem Get_any (b : Bool) (ap : Int) (A : Option Addr) (n c h cc : Nat) (w : World) (hh : h < w.heap.size) (hr : w.rangeAt h 0 (kV ap A n c)) (hp : PR b w A n c) :
    Calls Tryz.prog 331 #[.slice (some ⟨h, 0, none⟩) 1 cc, .int .i64 200, .string ⟨#[107]⟩] w fun e w' => e = .returned (getV b) ∧ Below w.heap.size w w' := by
  have HC := Lib.hid (pairs_any ap A n c h cc w hh hr)
  clear hh hr
  cases b with
  | false =>
    obtain ⟨rfl, rfl, rfl⟩ := hp
    go_enter Tryz.func331, Tryz.ntmps331
    go_wp2_with (first | (go_at_call 333; refine HC.out.mono ?_; rintro e w2 ⟨rfl, hb⟩; have HB := Lib.hid hb; clear hb) | (go_at_call 161; refine (find_nil _ _).mono ?_; rintro e w3 ⟨rfl, hb⟩; have HB3 := Lib.hid (below_next HB.out hb HB.out.size); clear hb))
    go_ret2
    exact ⟨rfl, HB3.out⟩
  | true =>
    have HP := Lib.hid hp
    obtain ⟨g, rfl, rfl, _, _, hg, hr⟩ := hp
    have HG := Lib.hid hg
    have HR := Lib.hid hr
    clear hg hr
    go_enter Tryz.func331, Tryz.ntmps331
    go_wp2_with (first | (go_at_call 333; refine HC.out.mono ?_; rintro e w2 ⟨rfl, hb⟩; have HB := Lib.hid hb; clear hb) | (go_at_call 161; refine (find_one g c _ (Nat.lt_of_lt_of_le HG.out HB.out.size) (range_below HR.out HB.out HG.out)).mono ?_; rintro e w3 ⟨rfl, hb⟩; have HB3 := Lib.hid (below_next HB.out hb HB.out.size); have c1 := (range_below HR.out HB3.out HG.out 1 (.string ⟨#[107, 49]⟩) rfl); clear hb))
    go_ret2
    exact ⟨rfl, HB3.out⟩
end Go.Proofs.YtpklgdclknicjaaGreatDoor
