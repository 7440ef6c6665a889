/- History: ranges of keys. -/
import Derived.Test.YtpklgdclknicjaaGreatDoorHL
namespace Go.Proofs.YtpklgdclknicjaaGreatDoor
open Go.RowKit

structure Rg where
  lo : ByteArray
  hi : ByteArray
  en : Bool
def rgV (r : Rg) : Value := .agg #[.string r.lo, .string r.hi, .bool r.en]
def fromR (k : ByteArray) : Rg := ⟨k, ⟨#[]⟩, true⟩
def pointR (k : ByteArray) : Rg := ⟨k, k, false⟩

theorem from_any (k : ByteArray) (w : World) : Calls Tryz.prog 54 #[.string k] w fun e w' => e = .returned (rgV (fromR k)) ∧ Below w.heap.size w w' := by
  unfold rgV fromR
  go_enter Tryz.func54, Tryz.ntmps54
  go_wp2
  exact bodyPost_ret (v := .agg #[.string k, .string ⟨#[]⟩, .bool true]) (by simp [results, Tryz.results54, go_sem]) rfl ⟨rfl, (Below.refl _ _).alloc (Nat.le_refl _) _⟩
theorem point_any (k : ByteArray) (w : World) : Calls Tryz.prog 55 #[.string k] w fun e w' => e = .returned (rgV (pointR k)) ∧ Below w.heap.size w w' := by
  unfold rgV pointR
  go_enter Tryz.func55, Tryz.ntmps55
  go_wp2
  exact bodyPost_ret (v := .agg #[.string k, .string k, .bool false]) (by simp [results, Tryz.results55, go_sem]) rfl ⟨rfl, (Below.refl _ _).alloc (Nat.le_refl _) _⟩

def inB (r : Rg) (k : ByteArray) : Bool := !lessB k r.lo && !(!r.en && lessB r.hi k)
theorem gt_is (a b : ByteArray) : (!Op.bytesLess a.toList b.toList && !(a.toList == b.toList)) = lessB b a := by
  rw [less_total]; unfold lessB; rw [beq_ba, Bool.not_or]
theorem ge_is (a b : ByteArray) : (!Op.bytesLess a.toList b.toList) = !lessB a b := rfl
theorem in1_any (lo hi k : ByteArray) (en : Bool) (b1 b2 : Nat) (w : World) (h0 : w.cell? ⟨b1, 0, none⟩ = some (.string lo)) (h1 : w.cell? ⟨b1, 1, none⟩ = some (.string hi)) (h2 : w.cell? ⟨b1, 2, none⟩ = some (.bool en)) (h3 : w.cell? ⟨b2, 0, none⟩ = some (.string k)) :
    Calls Tryz.prog 134 #[.pointer (some ⟨b1, 0, none⟩), .pointer (some ⟨b2, 0, none⟩)] w fun e w' => e = .returned (.bool (!en && lessB hi k)) ∧ Below w.heap.size w w' := by
  have _h := h0
  clear h0 _h
  obtain ⟨R, hR⟩ : ∃ R, lessB hi k = R := ⟨_, rfl⟩
  have HR : Hid ((!Op.bytesLess k.toList hi.toList && !(k.toList == hi.toList)) = R) := Lib.hid (by rw [gt_is, hR])
  rw [hR]
  clear hR
  cases en with
  | true =>
    go_enter Tryz.func134, Tryz.ntmps134
    go_wp2
    go_ret
    exact ⟨rfl, Below.refl _ _⟩
  | false =>
    go_enter Tryz.func134, Tryz.ntmps134
    go_wp2
    go_ret
    refine ⟨?_, Below.refl _ _⟩
    rw [← HR.out]
    rfl
set_option maxRecDepth 100000 in
theorem in_any (r : Rg) (k : ByteArray) (w : World) : Calls Tryz.prog 102 #[rgV r, .string k] w fun e w' => e = .returned (.bool (inB r k)) ∧ Below w.heap.size w w' := by
  obtain ⟨lo, hi, en⟩ := r
  unfold rgV inB
  simp only
  have B0 := Lib.hid (bx_start w #[.string lo, .string hi, .bool en] 109)
  have B1 := Lib.hid ((bx_below B0.out).alloc (Nat.le_of_succ_le (bx_size B0.out)) (.cells #[.string k] 9))
  have K0 := (Blk.new w 109 #[.string lo, .string hi, .bool en]).alloc (.cells #[.string k] 9)
  have K1 := blk_at (w.alloc (.cells #[.string lo, .string hi, .bool en] 109)) 9 #[.string k] (w.heap.size + 1) (by simp)
  have HI := Lib.hid (in1_any lo hi k en w.heap.size (w.heap.size + 1) _ (K0.cell 0) (K0.cell 1) (K0.cell 2) (K1.cell 0))
  clear K0 K1
  obtain ⟨R, hR⟩ : ∃ R, (!en && lessB hi k) = R := ⟨_, rfl⟩
  rw [hR] at HI ⊢
  clear hR
  cases hl : lessB k lo with
  | true =>
    have d1 : Op.bytesLess k.toList lo.toList = true := hl
    clear hl
    go_enter Tryz.func102, Tryz.ntmps102
    go_wp2
    go_ret
    exact ⟨rfl, B1.out⟩
  | false =>
    have d1 : Op.bytesLess k.toList lo.toList = false := hl
    clear hl
    go_enter Tryz.func102, Tryz.ntmps102
    go_wp2_with (go_at_call 134; refine HI.out.mono ?_; rintro e w2 ⟨rfl, hb2⟩; have X2 := Lib.hid (below_next B1.out hb2 B1.out.size); clear hb2)
    go_ret
    exact ⟨rfl, X2.out⟩
def emptyB (r : Rg) : Bool := !inB r r.lo
set_option maxRecDepth 100000 in
theorem isEmpty_any (r : Rg) (w : World) : Calls Tryz.prog 72 #[rgV r] w fun e w' => e = .returned (.bool (emptyB r)) ∧ Below w.heap.size w w' := by
  have HI := fun W => Lib.hid (in_any r r.lo W)
  unfold emptyB
  generalize inB r r.lo = R at HI ⊢
  obtain ⟨lo, hi, en⟩ := r
  unfold rgV at HI ⊢
  simp only at HI ⊢
  have HI := HI (w.alloc (.cells #[.string lo, .string hi, .bool en] 109))
  have B0 := Lib.hid (bx_start w #[.string lo, .string hi, .bool en] 109)
  go_enter Tryz.func72, Tryz.ntmps72
  go_wp2_with (go_at_call 102; refine HI.out.mono ?_; rintro e w2 ⟨rfl, hb2⟩; have X2 := Lib.hid (below_next (bx_below B0.out) hb2 (Nat.le_of_succ_le (bx_size B0.out))); clear hb2)
  go_ret
  exact ⟨rfl, X2.out⟩
def mxS (a b : ByteArray) : ByteArray := if lessB a b then b else a
def mnS (a b : ByteArray) : ByteArray := if lessB b a then b else a
def meetR (a b : Rg) : Rg := ⟨mxS a.lo b.lo, if a.en && b.en then ⟨#[]⟩ else if a.en then b.hi else if b.en then a.hi else mnS a.hi b.hi, a.en && b.en⟩
theorem run_maxS (W : World) (a b : ByteArray) : (Builtin.max_ #[9, 9] 9 #[.string a, .string b]).run Tryz.prog W = .ok (.string (mxS a b)) W := by
  cases h : Op.bytesLess a.toList b.toList <;> simp [Builtin.max_, Builtin.max2, Op.stringOp, mxS, lessB, asBool, h]
theorem run_minS (W : World) (a b : ByteArray) : (Builtin.min_ #[9, 9] 9 #[.string a, .string b]).run Tryz.prog W = .ok (.string (mnS a b)) W := by
  have hq := leq_is a b
  cases h : lessB b a <;> rw [h] at hq <;> simp [Builtin.min_, Builtin.min2, Op.stringOp, mnS, asBool, h]
  · simp at hq
    intro h1 h2
    rcases hq with h3 | h3
    · rw [h1] at h3; cases h3
    · exact absurd h3 h2
  · simp_all
set_option maxRecDepth 100000 in
theorem meet_any (a b : Rg) (w : World) : Calls Tryz.prog 73 #[rgV a, rgV b] w fun e w' => e = .returned (rgV (meetR a b)) ∧ Below w.heap.size w w' := by
  obtain ⟨lo, hi, en⟩ := a
  obtain ⟨lo', hi', en'⟩ := b
  unfold rgV meetR
  simp only
  obtain ⟨M, hM⟩ : ∃ M, mxS lo lo' = M := ⟨_, rfl⟩
  obtain ⟨N, hN⟩ : ∃ N, mnS hi hi' = N := ⟨_, rfl⟩
  have m1 := fun W => run_maxS W lo lo'
  have m2 := fun W => run_minS W hi hi'
  rw [hM] at m1 ⊢
  rw [hN] at m2 ⊢
  clear hM hN
  have BB : Hid (∀ o1 o2 o3 o4, Below w.heap.size w ((((w.alloc o1).alloc o2).alloc o3).alloc o4)) := Lib.hid fun o1 o2 o3 o4 => ((((Below.refl w.heap.size w).alloc (Nat.le_refl _) _).alloc (by simp) _).alloc (by simp; omega) _).alloc (by simp; omega) _
  cases en <;> cases en'
  · go_enter Tryz.func73, Tryz.ntmps73
    go_wp2
    exact bodyPost_ret (v := .agg #[.string M, .string N, .bool false]) (by simp [results, Tryz.results73, go_sem]) rfl ⟨rfl, BB.out _ _ _ _⟩
  · go_enter Tryz.func73, Tryz.ntmps73
    go_wp2
    exact bodyPost_ret (v := .agg #[.string M, .string hi, .bool false]) (by simp [results, Tryz.results73, go_sem]) rfl ⟨rfl, BB.out _ _ _ _⟩
  · go_enter Tryz.func73, Tryz.ntmps73
    go_wp2
    exact bodyPost_ret (v := .agg #[.string M, .string hi', .bool false]) (by simp [results, Tryz.results73, go_sem]) rfl ⟨rfl, BB.out _ _ _ _⟩
  · go_enter Tryz.func73, Tryz.ntmps73
    go_wp2
    exact bodyPost_ret (v := .agg #[.string M, .string ⟨#[]⟩, .bool true]) (by simp [results, Tryz.results73, go_sem]) rfl ⟨rfl, BB.out _ _ _ _⟩
def overlapB (a b : Rg) : Bool := !emptyB (meetR a b)
set_option maxRecDepth 100000 in
theorem overlap_any (a b : Rg) (w : World) : Calls Tryz.prog 53 #[rgV a, rgV b] w fun e w' => e = .returned (.bool (overlapB a b)) ∧ Below w.heap.size w w' := by
  have HM := Lib.hid fun W => meet_any a b W
  have HE := Lib.hid fun W => isEmpty_any (meetR a b) W
  unfold overlapB
  generalize emptyB (meetR a b) = R at HE ⊢
  generalize meetR a b = m at HM HE
  obtain ⟨lo, hi, en⟩ := a
  obtain ⟨lo', hi', en'⟩ := b
  obtain ⟨lo2, hi2, en2⟩ := m
  unfold rgV at HM HE ⊢
  simp only at HM HE ⊢
  have B0 : Hid (Below w.heap.size w ((w.alloc (.cells #[.string lo, .string hi, .bool en] 109)).alloc (.cells #[.string lo', .string hi', .bool en'] 109))) := Lib.hid (((Below.refl w.heap.size w).alloc (Nat.le_refl _) _).alloc (by simp) _)
  go_enter Tryz.func53, Tryz.ntmps53
  go_wp2_with (first | (go_at_call 73; refine (HM.out _).mono ?_; rintro e w2 ⟨rfl, hb2⟩; have X2 := Lib.hid (below_next B0.out hb2 B0.out.size); clear hb2) | (go_at_call 72; refine (HE.out _).mono ?_; rintro e w3 ⟨rfl, hb3⟩; have X3 := Lib.hid (below_next X2.out hb3 X2.out.size); clear hb3))
  go_ret
  exact ⟨rfl, X3.out⟩
end Go.Proofs.YtpklgdclknicjaaGreatDoor
