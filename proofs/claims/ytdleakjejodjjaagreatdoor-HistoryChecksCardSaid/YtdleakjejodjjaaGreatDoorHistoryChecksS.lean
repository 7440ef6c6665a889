/- HistoryChecks: for every input the law returns true, and its arguments read behind the call as they read before; the listed tables of the library and of the program read as their text lays them (tied, and one held against a constant). No other condition. -/
import Derived.Test.YtdleakjejodjjaaGreatDoorCards
import Derived.Test.YtdleakjejodjjaaGreatDoorTie
import Derived.Test.YtdleakjejodjjaaGreatDoorSAX
import Derived.Test.YtdleakjejodjjaaGreatDoorClChS
import Derived.Test.YtdleakjejodjjaaGreatDoorCmChS
import Derived.Test.YtdleakjejodjjaaGreatDoorSCB
namespace Go.Proofs.YtdleakjejodjjaaGreatDoor.historyChecks
open Go.ChangeShapes Go.WideShapes Go.ChangeAt Go.RowKit
set_option linter.unusedVariables false
theorem own : ownKnob Tryz.prog.godebug = none := by kernel_rfl
theorem laidOut : laidOutB Tryz.prog = true := by kernel_rfl
theorem the_law (iA : Option Addr) (im ic : Nat) (ini : List Cnt) (A : Option Addr) (n c : Nat) (l : List Com) (w : World) (hi : Sl cnC 23 w w.heap.size iA im ic ini) (hic : ∀ x ∈ ini, CIn w x) (hs : Cs w w.heap.size A n c l) (ht : Sta w) (hc : Cod w) :
    Calls Tryz.prog 3 #[.slice iA im ic, .slice A n c] w fun e w' => e = .returned (.bool true) ∧ Below w.heap.size w w' := by
  cases hb : fewA im ini n l with
  | false => exact (rp_big iA im ic ini A n c l w hi (fun x hx => (hic x hx).1) hs (fun W h => awake_any W (ht.after h) (hc.after h)) hb).2
  | true =>
    refine checks_few iA im ic ini A n c l w ⟨hi, fun x hx => ?_, fun x hx => (hic x hx).2.2.2.1.1, hs, hb, ht, hc⟩ fun W h => awake_any W (ht.after h) (hc.after h)
    obtain ⟨h1, _, h3, _⟩ := hic x hx
    have f3 := (fewA_facts hb).2.2.1 x hx
    exact ⟨h1, by have := f3.1; omega, h3, fun q hq => by have := (f3.2 q hq).2; unfold maxLen; omega⟩
set_option maxRecDepth 100000 in
theorem lifted (os : Os) (started : os.Started) (H : Type) (enc : TypeId × Value → H) :
    ReturnsInHanded {} Tryz.checked os 3 .any (fun w args => (Rows.historyChecksSpec.pre enc Tryz.prog Tryz.f3 [] false w args ∧ laidMetH Tryz.prog Rows.historyChecksRow.laid w) ∧ sizedMet enc Tryz.prog Tryz.f3 (OpenSpec.ofChange Rows.historyChecksSpec) false w args)
      (Rows.historyChecksSpec.post enc Tryz.prog Tryz.f3 false true false false) := by
  refine wrapped (X := fun w _ => laidMetH Tryz.prog Rows.historyChecksRow.laid w) (fun _ _ _ hh h => h.of_heap hh) own started (by kernel_rfl) Tryz.func3
    (ChangeSpec.witness_shaped (enc := enc) (C := Tryz.checked) (os := os) (X := fun w _ => laidMetH Tryz.prog Rows.historyChecksRow.laid w) false (World.laidAll Tryz.prog os Rows.historyChecksRow.laid) #[.slice none 0 0, .slice none 0 0] 8 (World.laidAll_os _ _ _)
      (World.shaped_of_ZipB (by kernel_rfl) (by kernel_rfl)) (by kernel_rfl) (by kernel_rfl) (by kernel_rfl)
      (by rw [MakeChecks.laidMetH_plain _ _ _ (by kernel_rfl)]; exact laidMet_laidAll _ (by kernel_rfl) (by kernel_rfl))) ?_
  intro W base args ds gs before hval0 hW hL hsh
  have hval : ∀ (j : Nat) t v, Tryz.f3.params[j]? = some t → args[j]? = some v → Value.okWide Tryz.prog W .any base t v := hval0
  have hW' := hW
  obtain ⟨p, q, hA0, hV, rfl, hfz, hnd⟩ := hW
  have hA : DataW.TrodAll enc Tryz.prog W 0 (fun _ => true) true Tryz.f3.params.toList args.toList ds p := hA0
  rw [Tryz.params3] at hA hval
  obtain ⟨v0, v1, d0, d1, p0, p1, rfl, rfl, rfl, h0, h1⟩ := trodAll_two hA
  obtain ⟨rfl, rfl⟩ := trodVars_none hV
  have k0 := h0
  have k1 := h1
  have lt0 : ∀ x ∈ p0, x.block < W.heap.size := by obtain ⟨m, hm⟩ := k0; exact DataW.trod_lt m _ _ _ hm
  have lt1 : ∀ x ∈ p1, x.block < W.heap.size := by obtain ⟨m, hm⟩ := k1; exact DataW.trod_lt m _ _ _ hm
  obtain ⟨iA, im, ic, ini, rfl, hi, hic⟩ := open_contents (hval 0 22 v0 rfl rfl) h0
  obtain ⟨A, n, c, l, rfl, hs⟩ := open_units (hval 1 23 v1 rfl rfl) h1
  clear hA0 hval0
  obtain ⟨hst, hcod⟩ := of_laid hL hsh
  refine (the_law iA im ic ini A n c l W hi hic hs hst hcod).mono fun e W' ⟨he, bel⟩ => ?_
  subst he
  exact ⟨_, rfl, _, _, _, [], _, [], hW', trodAll_mk1 (shut_bool Tryz.underlying4 _), trodAll_mk2 (Below.trod laidOut (by kernel_rfl) (of_decide_eq_true (by kernel_rfl)) k0 bel lt0) (Below.trod laidOut (by kernel_rfl) (of_decide_eq_true (by kernel_rfl)) k1 bel lt1), rfl, bel.frame _, fun h => by cases h⟩
theorem over : Rows.historyChecksRow.holds Tryz.pinned (OpenSpec.ofChange Rows.historyChecksSpec) :=
  OpenClaim.holds_of_wide 3 Tryz.f3 rfl rfl rfl rfl rfl rfl rfl ⟨rfl, rfl, rfl, rfl, rfl⟩ rfl rfl rfl rfl rfl named Tryz.func3 closed
    (of_decide_eq_true (by kernel_rfl)) (by unfold Func.isWrapper; first | (rw [if_pos (by decide +kernel)]; kernel_rfl) | (rw [if_neg (by decide +kernel)]; exact ⟨rfl, rfl⟩))
    (fun os started H enc _ => lifted os started H enc)
theorem proved : Rows.HistoryChecksCardSaid :=
  Claim7.holds_tied_plain_at .later [] [.data, .data, .data, .data, .widerDeep, .pinned] true (true, "f7b7e15f139b61cff0fa1a3bd9aedef7a3ea027cf0bb867d46e77df450adcdb3") false
    over (fun _ h => by cases h) q0 (fun _ h => by cases h) historyChecks_row_tie rfl ⟨rfl, rfl⟩ q1 rfl
    (fun f fn hf hfn => by
      obtain rfl : f = 3 := Option.some.inj ((show Tryz.prog.funcNamed Tryz.f3.name = some 3 by kernel_rfl).symm.trans hf) |>.symm
      obtain rfl : fn = Tryz.f3 := (Option.some.inj (Tryz.func3.symm.trans hfn)).symm
      exact ⟨q2, fun j t ht => by
        rw [Tryz.params3] at ht
        have hm : t ∈ [22, 23] := by simpa using Array.mem_of_getElem? ht
        have hall : ([22, 23].all fun u => !Tryz.prog.wantsStandIn u) = true := by kernel_rfl
        exact (show Tryz.prog.wantsStandIn t = false by simpa using List.all_eq_true.1 hall t hm)⟩)
    q3
#print axioms proved
end Go.Proofs.YtdleakjejodjjaaGreatDoor.historyChecks
