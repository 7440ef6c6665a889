/- The law for every finding; a finding that came in, opened. -/
import Derived.Test.YtphpkmjobhohfaaGreatDoorW
import Derived.Lib.SmallJoins
namespace Go.Proofs.YtphpkmjobhohfaaGreatDoor
set_option maxRecDepth 100000
open Go.Joins Go.ChangeShapes Go.WideShapes Go.RowKit Go.Deep

theorem i64_bounds {n : Int} (h : (Lit.int .i64 n).wf = true) : -9223372036854775808 ≤ n ∧ n ≤ 9223372036854775807 := by
  simp [Lit.wf] at h
  have h1 : IntKind.i64.min = -9223372036854775808 := rfl
  have h2 : IntKind.i64.max = 9223372036854775807 := rfl
  omega

set_option maxRecDepth 100000 in
set_option maxHeartbeats 2000000 in
theorem law_1 (k id unit sec : Int) (vol name key : ByteArray) (w : World) (ht : Tab w)  (h1 : 60 < vol.size) :
    Calls Tryz.prog 3 #[.agg #[.int .i64 k, .string vol, .int .i64 id, .int .i64 unit, .string name, .int .i64 sec, .string key]] w fun e w' => e = .returned (.bool true) ∧ Below w.heap.size w w' := by
  have HA := Lib.hid (awake_any (w.alloc (.cells #[.int .i64 k, .string vol, .int .i64 id, .int .i64 unit, .string name, .int .i64 sec, .string key] 23)) (ht.alloc _))
  clear ht
  go_enter Tryz.func3, Tryz.ntmps3
  go_wp2_with (go_at_call 4; refine HA.out.mono ?_; rintro e w1 ⟨rfl, hb⟩)
  go_ret
  exact ⟨rfl, ((Below.refl w.heap.size w).alloc (Nat.le_refl _) _).trans (hb.mono (by simp))⟩

set_option maxRecDepth 100000 in
set_option maxHeartbeats 2000000 in
theorem law_2 (k id unit sec : Int) (vol name key : ByteArray) (w : World) (ht : Tab w) (h1 : vol.size ≤ 60) (h2 : 60 < name.size) :
    Calls Tryz.prog 3 #[.agg #[.int .i64 k, .string vol, .int .i64 id, .int .i64 unit, .string name, .int .i64 sec, .string key]] w fun e w' => e = .returned (.bool true) ∧ Below w.heap.size w w' := by
  have HA := Lib.hid (awake_any (w.alloc (.cells #[.int .i64 k, .string vol, .int .i64 id, .int .i64 unit, .string name, .int .i64 sec, .string key] 23)) (ht.alloc _))
  clear ht
  go_enter Tryz.func3, Tryz.ntmps3
  go_wp2_with (go_at_call 4; refine HA.out.mono ?_; rintro e w1 ⟨rfl, hb⟩)
  go_ret
  exact ⟨rfl, ((Below.refl w.heap.size w).alloc (Nat.le_refl _) _).trans (hb.mono (by simp))⟩

set_option maxRecDepth 100000 in
set_option maxHeartbeats 2000000 in
theorem law_3 (k id unit sec : Int) (vol name key : ByteArray) (w : World) (ht : Tab w) (h1 : vol.size ≤ 60) (h2 : name.size ≤ 60) (h3 : 60 < key.size) :
    Calls Tryz.prog 3 #[.agg #[.int .i64 k, .string vol, .int .i64 id, .int .i64 unit, .string name, .int .i64 sec, .string key]] w fun e w' => e = .returned (.bool true) ∧ Below w.heap.size w w' := by
  have HA := Lib.hid (awake_any (w.alloc (.cells #[.int .i64 k, .string vol, .int .i64 id, .int .i64 unit, .string name, .int .i64 sec, .string key] 23)) (ht.alloc _))
  clear ht
  go_enter Tryz.func3, Tryz.ntmps3
  go_wp2_with (go_at_call 4; refine HA.out.mono ?_; rintro e w1 ⟨rfl, hb⟩)
  go_ret
  exact ⟨rfl, ((Below.refl w.heap.size w).alloc (Nat.le_refl _) _).trans (hb.mono (by simp))⟩

set_option maxRecDepth 100000 in
set_option maxHeartbeats 2000000 in
theorem law_4 (k id unit sec : Int) (vol name key : ByteArray) (w : World) (ht : Tab w) (h1 : vol.size ≤ 60) (h2 : name.size ≤ 60) (h3 : key.size ≤ 60) (h4 : id < -1099511627776) :
    Calls Tryz.prog 3 #[.agg #[.int .i64 k, .string vol, .int .i64 id, .int .i64 unit, .string name, .int .i64 sec, .string key]] w fun e w' => e = .returned (.bool true) ∧ Below w.heap.size w w' := by
  have HA := Lib.hid (awake_any (w.alloc (.cells #[.int .i64 k, .string vol, .int .i64 id, .int .i64 unit, .string name, .int .i64 sec, .string key] 23)) (ht.alloc _))
  clear ht
  go_enter Tryz.func3, Tryz.ntmps3
  go_wp2_with (go_at_call 4; refine HA.out.mono ?_; rintro e w1 ⟨rfl, hb⟩)
  go_ret
  exact ⟨rfl, ((Below.refl w.heap.size w).alloc (Nat.le_refl _) _).trans (hb.mono (by simp))⟩

set_option maxRecDepth 100000 in
set_option maxHeartbeats 2000000 in
theorem law_5 (k id unit sec : Int) (vol name key : ByteArray) (w : World) (ht : Tab w) (h1 : vol.size ≤ 60) (h2 : name.size ≤ 60) (h3 : key.size ≤ 60) (h4 : -1099511627776 ≤ id) (h5 : unit < -1099511627776) :
    Calls Tryz.prog 3 #[.agg #[.int .i64 k, .string vol, .int .i64 id, .int .i64 unit, .string name, .int .i64 sec, .string key]] w fun e w' => e = .returned (.bool true) ∧ Below w.heap.size w w' := by
  have HA := Lib.hid (awake_any (w.alloc (.cells #[.int .i64 k, .string vol, .int .i64 id, .int .i64 unit, .string name, .int .i64 sec, .string key] 23)) (ht.alloc _))
  clear ht
  have dh4 : decide (id < -1099511627776) = false := by simp; omega
  clear h4
  go_enter Tryz.func3, Tryz.ntmps3
  go_wp2_with (go_at_call 4; refine HA.out.mono ?_; rintro e w1 ⟨rfl, hb⟩)
  go_ret
  exact ⟨rfl, ((Below.refl w.heap.size w).alloc (Nat.le_refl _) _).trans (hb.mono (by simp))⟩

set_option maxRecDepth 100000 in
set_option maxHeartbeats 2000000 in
theorem law_6 (k id unit sec : Int) (vol name key : ByteArray) (w : World) (ht : Tab w) (h1 : vol.size ≤ 60) (h2 : name.size ≤ 60) (h3 : key.size ≤ 60) (h4 : -1099511627776 ≤ id) (h5 : -1099511627776 ≤ unit) (h6 : sec < -1099511627776) :
    Calls Tryz.prog 3 #[.agg #[.int .i64 k, .string vol, .int .i64 id, .int .i64 unit, .string name, .int .i64 sec, .string key]] w fun e w' => e = .returned (.bool true) ∧ Below w.heap.size w w' := by
  have HA := Lib.hid (awake_any (w.alloc (.cells #[.int .i64 k, .string vol, .int .i64 id, .int .i64 unit, .string name, .int .i64 sec, .string key] 23)) (ht.alloc _))
  clear ht
  have dh4 : decide (id < -1099511627776) = false := by simp; omega
  clear h4
  have dh5 : decide (unit < -1099511627776) = false := by simp; omega
  clear h5
  go_enter Tryz.func3, Tryz.ntmps3
  go_wp2_with (go_at_call 4; refine HA.out.mono ?_; rintro e w1 ⟨rfl, hb⟩)
  go_ret
  exact ⟨rfl, ((Below.refl w.heap.size w).alloc (Nat.le_refl _) _).trans (hb.mono (by simp))⟩

theorem law_any (k id unit sec : Int) (vol name key : ByteArray) (w : World) (ht : Tab w) (hi : (Lit.int .i64 id).wf = true) (hu : (Lit.int .i64 unit).wf = true) (hs : (Lit.int .i64 sec).wf = true) :
    Calls Tryz.prog 3 #[.agg #[.int .i64 k, .string vol, .int .i64 id, .int .i64 unit, .string name, .int .i64 sec, .string key]] w fun e w' => e = .returned (.bool true) ∧ Below w.heap.size w w' := by
  have bi : id ≤ 9223372036854775807 := by have := i64_bounds hi; omega
  have bu : unit ≤ 9223372036854775807 := by have := i64_bounds hu; omega
  have bs : sec ≤ 9223372036854775807 := by have := i64_bounds hs; omega
  by_cases h1 : 60 < vol.size
  · exact law_1 k id unit sec vol name key w ht h1
  by_cases h2 : 60 < name.size
  · exact law_2 k id unit sec vol name key w ht (by omega) h2
  by_cases h3 : 60 < key.size
  · exact law_3 k id unit sec vol name key w ht (by omega) (by omega) h3
  by_cases h4 : id < -1099511627776
  · exact law_4 k id unit sec vol name key w ht (by omega) (by omega) (by omega) h4
  by_cases h5 : unit < -1099511627776
  · exact law_5 k id unit sec vol name key w ht (by omega) (by omega) (by omega) (by omega) h5
  by_cases h6 : sec < -1099511627776
  · exact law_6 k id unit sec vol name key w ht (by omega) (by omega) (by omega) (by omega) (by omega) h6
  exact law_small k id unit sec vol name key w ht (by omega) (by omega) (by omega) (by omega) bi (by omega) bu (by omega) bs

section
variable {H : Type} {enc : TypeId × Value → H} {P : Program} {w : World} {base : Nat} {spare : Nat → Bool} {held : Bool}
theorem open_agg7 {r : Reach} {b0 : Nat} {t : TypeId} {f0 f1 f2 f3 f4 f5 f6 : Field} {v : Value} {d : DataW H} {p : List MemPlace} (hs : P.underlying t = some (.struct #[f0, f1, f2, f3, f4, f5, f6])) (hone : oneCellFields P #[f0, f1, f2, f3, f4, f5, f6] = true) (hC : P.cellsOf t = 7)
    (hv : Value.okWide P w r b0 t v) (h : DataW.Trod enc P w base spare held t v d p) :
    ∃ (v0 v1 v2 v3 v4 v5 v6 : Value) (y0 y1 y2 y3 y4 y5 y6 : DataW H × List MemPlace) (n : Nat), v = .agg #[v0, v1, v2, v3, v4, v5, v6] ∧ d = .agg [y0.1, y1.1, y2.1, y3.1, y4.1, y5.1, y6.1] ∧ p = y0.2 ++ (y1.2 ++ (y2.2 ++ (y3.2 ++ (y4.2 ++ (y5.2 ++ y6.2))))) ∧
      DataW.trod enc P w base spare held n f0.type [v0] = some y0 ∧ DataW.trod enc P w base spare held n f1.type [v1] = some y1 ∧ DataW.trod enc P w base spare held n f2.type [v2] = some y2 ∧ DataW.trod enc P w base spare held n f3.type [v3] = some y3 ∧ DataW.trod enc P w base spare held n f4.type [v4] = some y4 ∧ DataW.trod enc P w base spare held n f5.type [v5] = some y5 ∧ DataW.trod enc P w base spare held n f6.type [v6] = some y6 := by
  obtain ⟨cs, rfl, hsz⟩ := okWide_struct hs hv
  obtain ⟨l⟩ := cs
  match l, hsz.trans hC with
  | [c0, c1, c2, c3, c4, c5, c6], _ =>
    obtain ⟨fuel, hf⟩ := h
    obtain ⟨xs, n, _, hx, _, hlen, hg⟩ := DataW.trod_struct hs hf
    obtain ⟨o0, k0⟩ := hone_of hone 0 f0 rfl
    obtain ⟨o1, k1⟩ := hone_of hone 1 f1 rfl
    obtain ⟨o2, k2⟩ := hone_of hone 2 f2 rfl
    obtain ⟨o3, k3⟩ := hone_of hone 3 f3 rfl
    obtain ⟨o4, k4⟩ := hone_of hone 4 f4 rfl
    obtain ⟨o5, k5⟩ := hone_of hone 5 f5 rfl
    obtain ⟨o6, k6⟩ := hone_of hone 6 f6 rfl
    match xs, hlen with
    | [y0, y1, y2, y3, y4, y5, y6], _ =>
      simp only [Prod.mk.injEq] at hx
      exact ⟨c0, c1, c2, c3, c4, c5, c6, y0, y1, y2, y3, y4, y5, y6, n, rfl, by simpa using hx.1, by simpa using hx.2, by simpa [Value.cells, o0, k0] using hg 0 f0 rfl, by simpa [Value.cells, o1, k1] using hg 1 f1 rfl, by simpa [Value.cells, o2, k2] using hg 2 f2 rfl, by simpa [Value.cells, o3, k3] using hg 3 f3 rfl, by simpa [Value.cells, o4, k4] using hg 4 f4 rfl, by simpa [Value.cells, o5, k5] using hg 5 f5 rfl, by simpa [Value.cells, o6, k6] using hg 6 f6 rfl⟩

end
section
variable {H : Type} {enc : TypeId × Value → H} {w : World} {base : Nat} {spare : Nat → Bool} {held : Bool}
set_option maxRecDepth 100000 in
theorem open_finding {r : Reach} {b0 : Nat} {v : Value} {d : DataW H} {p : List MemPlace} (hv : Value.okWide Tryz.prog w r b0 23 v) (h : DataW.Trod enc Tryz.prog w base spare held 23 v d p) :
    ∃ (k id unit sec : Int) (vol name key : ByteArray), v = .agg #[.int .i64 k, .string vol, .int .i64 id, .int .i64 unit, .string name, .int .i64 sec, .string key] ∧ (Lit.int .i64 id).wf = true ∧ (Lit.int .i64 unit).wf = true ∧ (Lit.int .i64 sec).wf = true := by
  obtain ⟨v0, v1, v2, v3, v4, v5, v6, y0, y1, y2, y3, y4, y5, y6, m, rfl, _, _, t0, t1, t2, t3, t4, t5, t6⟩ := open_agg7 Tryz.underlying23 (by kernel_rfl) (by kernel_rfl) hv h
  obtain ⟨a0, e0, _, _⟩ := DataW.trod_int Tryz.underlying3 t0
  obtain ⟨a1, e1, _, _⟩ := DataW.trod_string Tryz.underlying9 t1
  obtain ⟨a2, e2, _, w2⟩ := DataW.trod_int Tryz.underlying3 t2
  obtain ⟨a3, e3, _, w3⟩ := DataW.trod_int Tryz.underlying3 t3
  obtain ⟨a4, e4, _, _⟩ := DataW.trod_string Tryz.underlying9 t4
  obtain ⟨a5, e5, _, w5⟩ := DataW.trod_int Tryz.underlying3 t5
  obtain ⟨a6, e6, _, _⟩ := DataW.trod_string Tryz.underlying9 t6
  simp at e0 e1 e2 e3 e4 e5 e6
  subst e0 e1 e2 e3 e4 e5 e6
  exact ⟨a0, a2, a3, a5, a1, a4, a6, rfl, w2, w3, w5⟩
end
end Go.Proofs.YtphpkmjobhohfaaGreatDoor
