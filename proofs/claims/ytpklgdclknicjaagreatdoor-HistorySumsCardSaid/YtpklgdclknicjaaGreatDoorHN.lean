/- History: the stable sort of at most 12 units. -/
import Derived.Test.YtpklgdclknicjaaGreatDoorHM
namespace Go.Proofs.YtpklgdclknicjaaGreatDoor
open Go.RowKit Go.Sort Go.Proofs

theorem comC_one' : ∀ (x : Com), ∀ v ∈ comC x, v.oneCell' = true := by
  intro x v hv
  simp [comC] at hv
  rcases hv with rfl | rfl | rfl | rfl <;> rfl
theorem cmp_lays (blk off size : Nat) (w : World) : CmpLays Tryz.prog 21 #[] comC 4 cfC blk off size w := fun _ _ _ _ x y => ord2_any x y _
theorem ins_any (g n cap : Nat) (l : List Com) (w : World) (base : Nat) (h : w.ownsRow base 47 4 (.slice (some ⟨g, 0, none⟩) n cap) n (flat comC l)) (hl : l.length = n) (hn : n ≤ 1000) :
    Calls Tryz.prog 64 #[.slice (some ⟨g, 0, none⟩) n cap, .int .i64 0, .int .i64 n, .func (.func 21) #[] #[]] w fun e w' => e = .returned (.tuple #[]) ∧ w'.ownsRow base 47 4 (.slice (some ⟨g, 0, none⟩) n cap) n (flat comC (sortB befB [] l)) ∧ (base ≤ w.heap.size → Below base w w') := by
  subst hl
  have eg : ∀ args w, (callFunc 21 args).run Tryz.prog w = .ok (.enter 21 args) w := enters_of Tryz.func21 (by kernel_rfl) rfl
  have hb : base ≤ g ∧ g < w.heap.size := h.lt g rfl
  have hH := holdsK_of_own (enc := comC) (k := 4) comC_len h
  have hc := AnyQ.insertionSortCmpFunc (P := Tryz.prog) Tryz.insort 4 Tryz.isAgg47 Tryz.sizeOf47 comC comC_len comC_one' cfC 21 #[] g 0 cap 0 l.length l.toArray w eg (cmp_lays _ _ _ _) hH hb.2 (Nat.zero_le _) (by simp) (by simp; omega)
  change Calls Tryz.prog 64 _ _ _ at hc
  simp only [List.size_toArray] at hc
  refine hc.mono ?_
  rintro e w' ⟨rfl, m, os, rfl⟩
  rw [ltOf_cfC]
  have hs := insertionSort_list (lt := befB) l
  have e1 : Go.Sort.insertionSort befB l.toArray 0 l.length = (sortB befB [] l).toArray := by rw [← hs]
  rw [e1]
  exact ⟨rfl, own_sortK (enc := comC) (k := 4) comC_len h (by rw [sortB_len]; simp), fun hB => below_sortK hB hb.1⟩
theorem ins_none (p : Option Addr) (cap : Nat) (w : World) :
    Calls Tryz.prog 64 #[.slice p 0 cap, .int .i64 0, .int .i64 0, .func (.func 21) #[] #[]] w fun e w' => e = .returned (.tuple #[]) ∧ w = w' :=
  (AnyF.insertionSortCmpFunc_none (P := Tryz.prog) Tryz.insort p cap _ w).mono fun _ _ ⟨he, hw⟩ => ⟨he, hw.symm⟩

/-- the sort leaves a row of the units in their order -/
theorem stable_any (v : Value) (n : Nat) (l : List Com) (w : World) (base : Nat) (h : w.ownsRow base 47 4 v n (flat comC l)) (hl : l.length = n) (hn : n ≤ 12) (hB : base ≤ w.heap.size) :
    Calls Tryz.prog 45 #[v, .int .i64 n, .func (.func 21) #[] #[]] w fun e w' => e = .returned (.tuple #[]) ∧ w'.ownsRow base 47 4 v n (flat comC (sortB befB [] l)) ∧ Below base w w' := by
  have d1 : decide ((20 : Int) ≤ (n : Int)) = false := by simp; omega
  have d2 : decide ((20 : Int) < (n : Int)) = false := by simp; omega
  have d3 : decide (20 ≤ n) = false := by simp; omega
  have d4 : decide (20 < n) = false := by simp; omega
  rcases h.2 with ⟨rfl, hz⟩ | ⟨g, cap, cur, rfl, hg⟩
  · subst hz
    have : l = [] := List.eq_nil_of_length_eq_zero hl
    subst this
    have HH := Lib.hid h
    have HBB := Lib.hid hB
    clear hl h hn hB
    go_enter Tryz.func45, Tryz.ntmps45
    go_wp2
    refine wp_loop_rounds 1 ?_
    rw [rounds_succ]
    go_wp2_with (go_at_call 64; refine (ins_none _ _ _).mono ?_; rintro e w' ⟨rfl, rfl⟩)
    refine wp_loop_rounds 1 ?_
    rw [rounds_succ]
    go_wp2
    go_end0
    exact ⟨rfl, HH.out, Below.refl _ _⟩
  · have HI := Lib.hid (ins_any g n cap l w base h hl (by omega))
    have HBB := Lib.hid hB
    clear hg h hl hn hB
    go_enter Tryz.func45, Tryz.ntmps45
    go_wp2
    refine wp_loop_rounds 1 ?_
    rw [rounds_succ]
    go_wp2_with (go_at_call 64; refine HI.out.mono ?_; rintro e w' ⟨rfl, ho, hb⟩; have HO := Lib.hid ho; have HB := Lib.hid (hb HBB.out); clear ho hb)
    refine wp_loop_rounds 1 ?_
    rw [rounds_succ]
    go_wp2
    go_end0
    exact ⟨rfl, HO.out, HB.out⟩
theorem sort_any (v : Value) (n : Nat) (l : List Com) (w : World) (base : Nat) (h : w.ownsRow base 47 4 v n (flat comC l)) (hl : l.length = n) (hn : n ≤ 12) (hB : base ≤ w.heap.size) :
    Calls Tryz.prog 20 #[v, .func (.func 21) #[] #[]] w fun e w' => e = .returned (.tuple #[]) ∧ w'.ownsRow base 47 4 v n (flat comC (sortB befB [] l)) ∧ Below base w w' := by
  have HS := Lib.hid (stable_any v n l w base h hl hn hB)
  obtain ⟨A, c, rfl, h1, h2⟩ := own_form h
  clear h hl hn hB h1 h2
  go_enter Tryz.func20, Tryz.ntmps20
  go_wp2_with (go_at_call 45; refine HS.out.mono ?_; rintro e w' ⟨rfl, ho, hb⟩; have HO := Lib.hid ho; have HB := Lib.hid hb; clear ho hb)
  go_end0
  exact ⟨rfl, HO.out, HB.out⟩
end Go.Proofs.YtpklgdclknicjaaGreatDoor
