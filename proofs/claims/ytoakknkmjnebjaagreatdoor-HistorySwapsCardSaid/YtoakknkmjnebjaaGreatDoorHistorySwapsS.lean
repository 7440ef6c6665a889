/- HistorySwaps: for every input the law returns true, and its arguments read behind the call as they read before; the listed tables of the library and of the program read as their text lays them (tied, and one held against a constant). No other condition. -/
import Derived.Test.YtoakknkmjnebjaaGreatDoorCards
import Derived.Test.YtoakknkmjnebjaaGreatDoorTie
import Derived.Test.YtoakknkmjnebjaaGreatDoorSBE
import Derived.Test.YtoakknkmjnebjaaGreatDoorClSwS
namespace Go.Proofs.YtoakknkmjnebjaaGreatDoor.historySwaps
open Go.ChangeShapes Go.WideShapes Go.ChangeAt Go.RowKit
set_option linter.unusedVariables false
theorem own : ownKnob Tryz.prog.godebug = none := by kernel_rfl
theorem laidOut : laidOutB Tryz.prog = true := by kernel_rfl
theorem swaps_law (iA : Option Addr) (im ic : Nat) (ini : List Cnt) (A : Option Addr) (n c : Nat) (l : List Com) (at0 : Nat) (w : World) (hi : Sl cnC 23 w w.heap.size iA im ic ini) (hic : ∀ x ∈ ini, CIn w x) (hs : Cs w w.heap.size A n c l) (ht : Sta w) (hc : Cod w) (hat : at0 < 256) :
    Calls Tryz.prog 3 #[.slice iA im ic, .slice A n c, .int .u8 at0] w fun e w' => e = .returned (.bool true) ∧ Below w.heap.size w w' := by
  cases hb : fewA im ini n l with
  | false => exact swaps_big iA im ic ini A n c l at0 w hi (fun x hx => (hic x hx).1) hs (fun W _ => awake_any W) (Or.inl hb)
  | true =>
    by_cases h2 : n < 2
    · exact swaps_big iA im ic ini A n c l at0 w hi (fun x hx => (hic x hx).1) hs (fun W _ => awake_any W) (Or.inr h2)
    · obtain ⟨f1, f2, f3, f4⟩ := fewA_facts hb
      refine swaps_few iA im ic ini A n c l at0 w ⟨hi, fun x hx => ?_, fun x hx => (hic x hx).2.2.2.1.1, f1, hs, fun x hx y hy => ?_, fun x hx => ⟨(fewC_facts' (f4 x hx)).1, (fewC_facts' (f4 x hx)).2.1⟩, f2, ht, hc⟩ (fun W _ => awake_any W) hb (by omega) hat
      · obtain ⟨h1, _, h3, _⟩ := hic x hx
        exact ⟨h1, by have := (f3 x hx).1; omega, h3, fun q hq => by have := ((f3 x hx).2 q hq).2; unfold maxLen; omega⟩
      · have := (fewC_facts' (f4 x hx)).2.2.1 y hy
        unfold maxLen
        omega
set_option maxRecDepth 100000 in
theorem lifted (os : Os) (started : os.Started) (H : Type) (enc : TypeId × Value → H) :
    ReturnsInHanded {} Tryz.checked os 3 .any (fun w args => (Rows.historySwapsSpec.pre enc Tryz.prog Tryz.f3 [] false w args ∧ laidMetH Tryz.prog Rows.historySwapsRow.laid w) ∧ sizedMet enc Tryz.prog Tryz.f3 (OpenSpec.ofChange Rows.historySwapsSpec) false w args)
      (Rows.historySwapsSpec.post enc Tryz.prog Tryz.f3 false true false false) := by
  refine wrapped (X := fun w _ => laidMetH Tryz.prog Rows.historySwapsRow.laid w) (fun _ _ _ hh h => h.of_heap hh) own started (by kernel_rfl) Tryz.func3
    (ChangeSpec.witness_shaped (enc := enc) (C := Tryz.checked) (os := os) (X := fun w _ => laidMetH Tryz.prog Rows.historySwapsRow.laid w) false (World.laidAll Tryz.prog os Rows.historySwapsRow.laid) #[.slice none 0 0, .slice none 0 0, .int .u8 0] 8 (World.laidAll_os _ _ _)
      (World.shaped_of_ZipB (by kernel_rfl) (by kernel_rfl)) (by kernel_rfl) (by kernel_rfl) (by kernel_rfl)
      (by rw [MakeChecks.laidMetH_plain _ _ _ (by kernel_rfl)]; exact laidMet_laidAll _ (by kernel_rfl) (by kernel_rfl))) ?_
  intro W base args ds gs before hval0 hW hL hsh
  have hval : ∀ (j : Nat) t v, Tryz.f3.params[j]? = some t → args[j]? = some v → Value.okWide Tryz.prog W .any base t v := hval0
  have hW' := hW
  obtain ⟨p, q, hA0, hV, rfl, hfz, hnd⟩ := hW
  have hA : DataW.TrodAll enc Tryz.prog W 0 (fun _ => true) true Tryz.f3.params.toList args.toList ds p := hA0
  rw [Tryz.params3] at hA hval
  obtain ⟨v0, v1, v2, d0, d1, d2, p0, p1, p2, rfl, rfl, rfl, h0, h1, h2⟩ := trodAll_three hA
  obtain ⟨rfl, rfl⟩ := trodVars_none hV
  have k0 := h0
  have k1 := h1
  have k2 := h2
  have lt0 : ∀ x ∈ p0, x.block < W.heap.size := by obtain ⟨m, hm⟩ := k0; exact DataW.trod_lt m _ _ _ hm
  have lt1 : ∀ x ∈ p1, x.block < W.heap.size := by obtain ⟨m, hm⟩ := k1; exact DataW.trod_lt m _ _ _ hm
  have lt2 : ∀ x ∈ p2, x.block < W.heap.size := by obtain ⟨m, hm⟩ := k2; exact DataW.trod_lt m _ _ _ hm
  obtain ⟨iA, im, ic, ini, rfl, hi, hic⟩ := open_contents (hval 0 22 v0 rfl rfl) h0
  obtain ⟨A, n, c, l, rfl, hs⟩ := open_units (hval 1 23 v1 rfl rfl) h1
  obtain ⟨x0, rfl⟩ := okWide_int Tryz.underlying5 (hval 2 5 v2 rfl rfl)
  obtain ⟨fu, hf2⟩ := h2
  obtain ⟨y0, ey, _, wy⟩ := DataW.trod_int Tryz.underlying5 hf2
  have hxy : x0 = y0 := by simpa [Value.cells] using ey
  rw [← hxy] at wy
  have hw : 0 ≤ x0 ∧ x0 < 256 := by
    have := wy
    simp only [Lit.wf, Bool.and_eq_true, decide_eq_true_eq, show IntKind.u8.min = 0 from rfl, show IntKind.u8.max = 255 from rfl] at this
    omega
  obtain ⟨at0, rfl⟩ : ∃ k : Nat, x0 = k := ⟨x0.toNat, by omega⟩
  clear hA0 hval0
  obtain ⟨hst, hcod⟩ := of_laid hL hsh
  refine (swaps_law iA im ic ini A n c l at0 W hi hic hs hst hcod (by omega)).mono fun e W' ⟨he, bel⟩ => ?_
  subst he
  exact ⟨_, rfl, _, _, _, [], _, [], hW', trodAll_mk1 (shut_bool Tryz.underlying4 _), trodAll_mk3 (Below.trod laidOut (by kernel_rfl) (of_decide_eq_true (by kernel_rfl)) k0 bel lt0) (Below.trod laidOut (by kernel_rfl) (of_decide_eq_true (by kernel_rfl)) k1 bel lt1) (Below.trod laidOut (by kernel_rfl) (of_decide_eq_true (by kernel_rfl)) k2 bel lt2), rfl, bel.frame _, fun h => by cases h⟩
theorem over : Rows.historySwapsRow.holds Tryz.pinned (OpenSpec.ofChange Rows.historySwapsSpec) :=
  OpenClaim.holds_of_wide 3 Tryz.f3 rfl rfl rfl rfl rfl rfl rfl ⟨rfl, rfl, rfl, rfl, rfl⟩ rfl rfl rfl rfl rfl named Tryz.func3 closed
    (of_decide_eq_true (by kernel_rfl)) (by unfold Func.isWrapper; first | (rw [if_pos (by decide +kernel)]; kernel_rfl) | (rw [if_neg (by decide +kernel)]; exact ⟨rfl, rfl⟩))
    (fun os started H enc _ => lifted os started H enc)
theorem proved : Rows.HistorySwapsCardSaid :=
  Claim7.holds_tied_plain_at .later [] [.data, .data, .data, .data, .widerDeep, .pinned] true (true, "df9fbd7182fe0038e49c091bc21ed4e244724516c9de09265a7a5605e54b7a68") false
    over (fun _ h => by cases h) (by kernel_rfl) (fun _ h => by cases h) historySwaps_row_tie rfl ⟨rfl, rfl⟩ (by kernel_rfl) rfl
    (fun f fn hf hfn => by
      obtain rfl : f = 3 := Option.some.inj ((show Tryz.prog.funcNamed Tryz.f3.name = some 3 by kernel_rfl).symm.trans hf) |>.symm
      obtain rfl : fn = Tryz.f3 := (Option.some.inj (Tryz.func3.symm.trans hfn)).symm
      exact ⟨by kernel_rfl, fun j t ht => by
        rw [Tryz.params3] at ht
        have hm : t ∈ [22, 23, 5] := by simpa using Array.mem_of_getElem? ht
        have hall : ([22, 23, 5].all fun u => !Tryz.prog.wantsStandIn u) = true := by kernel_rfl
        exact (show Tryz.prog.wantsStandIn t = false by simpa using List.all_eq_true.1 hall t hm)⟩)
    (by kernel_rfl)
#print axioms proved
end Go.Proofs.YtoakknkmjnebjaaGreatDoor.historySwaps
