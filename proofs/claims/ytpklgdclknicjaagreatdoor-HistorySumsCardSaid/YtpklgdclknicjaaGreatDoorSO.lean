/- History: a slice of events that came in, opened: every event, each of its cells. -/
import Derived.Test.YtpklgdclknicjaaGreatDoorSA
import Derived.Test.YtpklgdclknicjaaGreatDoorProg
import Derived.Lib.SmallJoins
import Derived.Deep.Slices
import Derived.Deep.Fields
import Derived.ChangeSame
namespace Go.Proofs.YtpklgdclknicjaaGreatDoor
open Go.Joins Go.ChangeShapes Go.WideShapes Go.RowKit Go.Deep

theorem build_list {α : Type} {P : Nat → α → Prop} : ∀ (m : Nat), (∀ i, i < m → ∃ x, P i x) → ∃ l : List α, l.length = m ∧ ∀ i x, l[i]? = some x → P i x
  | 0, _ => ⟨[], rfl, fun i x h => by simp at h⟩
  | m + 1, h => by
    obtain ⟨l, hl, ih⟩ := build_list m fun i hi => h i (by omega)
    obtain ⟨x, hx⟩ := h m (by omega)
    refine ⟨l ++ [x], by simp [hl], fun i y hy => ?_⟩
    rw [List.getElem?_append] at hy
    split at hy
    · exact ih i y hy
    · have : i = m := by
        have := (List.getElem?_eq_some_iff.1 hy).1
        simp at this; omega
      subst this
      rw [hl, Nat.sub_self] at hy
      injection hy with hy
      subst hy
      exact hx
theorem sl_came {α : Type} {f : α → List Value} {k : Nat} (hk : ∀ x, (f x).length = k) (hk0 : 0 < k) {w : World} {a : Addr} {n c : Nat} {l : List α} (hz : l.length = n) (hl : n ≤ c)
    (hcell : ∀ i x, l[i]? = some x → ∀ j u, (f x)[j]? = some u → w.cell? (a.add (i * k + j)) = some u) : Sl f k w w.heap.size (some a) n c l := by
  refine ⟨hl, hz, by rw [flat_len hk, hz], fun hn => ?_⟩
  obtain ⟨b, off, spot⟩ := a
  have hg : l[0]? = some l[0] := List.getElem?_eq_getElem (by omega)
  have hu0 : (f l[0])[0]? = some ((f l[0])[0]'(by rw [hk]; exact hk0)) := List.getElem?_eq_getElem _
  have h0 := hcell 0 _ hg 0 _ hu0
  have hspot : spot = none := by simpa [Addr.add] using World.cell?_spot h0
  subst hspot
  have hadd : ∀ j, (⟨b, off, none⟩ : Addr).add j = ⟨b, off + j, none⟩ := fun j => by unfold Addr.add; split <;> simp_all
  refine ⟨b, off, rfl, ?_, fun j u hu => ?_⟩
  · rw [hadd] at h0
    by_cases hlt : b < w.heap.size
    · exact hlt
    · simp [World.cell?, Array.getElem?_eq_none (Nat.not_lt.1 hlt)] at h0
  · have hj : j < n * k := by have := (List.getElem?_eq_some_iff.1 hu).1; rwa [flat_len hk, hz] at this
    have hi : j / k < l.length := by rw [hz]; exact Nat.div_lt_of_lt_mul (by rwa [Nat.mul_comm] at hj)
    have hgi : l[j / k]? = some l[j / k] := List.getElem?_eq_getElem hi
    have hr : j % k < k := Nat.mod_lt _ hk0
    have he : j / k * k + j % k = j := by rw [Nat.mul_comm]; exact Nat.div_add_mod j k
    have h1 := flat_get hk l (j / k) _ hgi (j % k) hr
    rw [he, hu] at h1
    have h2 := hcell (j / k) _ hgi (j % k) u h1.symm
    rwa [he, hadd] at h2
section
variable {H : Type} {enc : TypeId × Value → H} {w : World} {base : Nat} {spare : Nat → Bool} {held : Bool}
/-- a struct whose fields are one cell each -/
theorem open_row {P : Program} {t : TypeId} {fs : Array Field} {n : Nat} {cs : List Value} {x : DataW H × List MemPlace} (ht : P.underlying t = some (.struct fs))
    (hone : ∀ (i : Nat) (f : Field), fs[i]? = some f → f.offset = i ∧ P.cellsOf f.type = 1) (hC : P.cellsOf t = fs.size) (h : DataW.trod enc P w base spare held n t cs = some x) :
    cs.length = fs.size ∧ ∃ m, ∀ (i : Nat) (f : Field), fs[i]? = some f → ∃ v y, cs[i]? = some v ∧ DataW.trod enc P w base spare held m f.type [v] = some y := by
  obtain ⟨xs, m, _, rfl, hlen, hxl, hf⟩ := DataW.trod_struct ht h
  refine ⟨hlen.trans hC, m, fun i f hi => ?_⟩
  have hlt : i < fs.size := (Array.getElem?_eq_some_iff.1 hi).1
  obtain ⟨ho, hc1⟩ := hone i f hi
  have g := hf i f hi
  have hl' : i < cs.length := by omega
  rw [ho, hc1, take1_drop cs i undef hl', List.getElem?_eq_getElem (by omega)] at g
  exact ⟨_, _, by simp [List.getD, List.getElem?_eq_getElem hl'], g⟩
theorem open_op {n : Nat} {cs : List Value} {x : DataW H × List MemPlace} (h : DataW.trod enc Tryz.prog w base spare held n 25 cs = some x) : ∃ a b c d, cs = [.int .i64 a, .string b, .string c, .string d] := by
  obtain ⟨hl, m, hf⟩ := open_row Tryz.underlying25 (hone_of (by kernel_rfl)) (by kernel_rfl) h
  have hl' : cs.length = 4 := hl
  obtain ⟨v0, y0, g0, t0⟩ := hf 0 _ rfl
  obtain ⟨v1, y1, g1, t1⟩ := hf 1 _ rfl
  obtain ⟨v2, y2, g2, t2⟩ := hf 2 _ rfl
  obtain ⟨v3, y3, g3, t3⟩ := hf 3 _ rfl
  obtain ⟨a0, e0, _, _⟩ := DataW.trod_int Tryz.underlying3 t0
  obtain ⟨a1, e1, _, _⟩ := DataW.trod_string Tryz.underlying9 t1
  obtain ⟨a2, e2, _, _⟩ := DataW.trod_string Tryz.underlying9 t2
  obtain ⟨a3, e3, _, _⟩ := DataW.trod_string Tryz.underlying9 t3
  match cs, hl' with
  | [c0, c1, c2, c3], _ =>
    simp at g0 g1 g2 g3 e0 e1 e2 e3
    subst g0 g1 g2 g3 e0 e1 e2 e3
    exact ⟨a0, a1, a2, a3, rfl⟩
theorem open_finding {n : Nat} {cs : List Value} {x : DataW H × List MemPlace} (h : DataW.trod enc Tryz.prog w base spare held n 30 cs = some x) :
    ∃ a b c d e f g, cs = [.int .i64 a, .string b, .int .i64 c, .int .i64 d, .string e, .int .i64 f, .string g] := by
  obtain ⟨hl, m, hf⟩ := open_row Tryz.underlying30 (hone_of (by kernel_rfl)) (by kernel_rfl) h
  have hl' : cs.length = 7 := hl
  obtain ⟨v0, y0, g0, t0⟩ := hf 0 _ rfl
  obtain ⟨v1, y1, g1, t1⟩ := hf 1 _ rfl
  obtain ⟨v2, y2, g2, t2⟩ := hf 2 _ rfl
  obtain ⟨v3, y3, g3, t3⟩ := hf 3 _ rfl
  obtain ⟨v4, y4, g4, t4⟩ := hf 4 _ rfl
  obtain ⟨v5, y5, g5, t5⟩ := hf 5 _ rfl
  obtain ⟨v6, y6, g6, t6⟩ := hf 6 _ rfl
  obtain ⟨a0, e0, _, _⟩ := DataW.trod_int Tryz.underlying3 t0
  obtain ⟨a1, e1, _, _⟩ := DataW.trod_string Tryz.underlying9 t1
  obtain ⟨a2, e2, _, _⟩ := DataW.trod_int Tryz.underlying3 t2
  obtain ⟨a3, e3, _, _⟩ := DataW.trod_int Tryz.underlying3 t3
  obtain ⟨a4, e4, _, _⟩ := DataW.trod_string Tryz.underlying9 t4
  obtain ⟨a5, e5, _, _⟩ := DataW.trod_int Tryz.underlying3 t5
  obtain ⟨a6, e6, _, _⟩ := DataW.trod_string Tryz.underlying9 t6
  match cs, hl' with
  | [c0, c1, c2, c3, c4, c5, c6], _ =>
    simp at g0 g1 g2 g3 g4 g5 g6 e0 e1 e2 e3 e4 e5 e6
    subst g0 g1 g2 g3 g4 g5 g6 e0 e1 e2 e3 e4 e5 e6
    exact ⟨a0, a1, a2, a3, a4, a5, a6, rfl⟩
theorem open_answer {n : Nat} {cs : List Value} {x : DataW H × List MemPlace} (h : DataW.trod enc Tryz.prog w base spare held n 28 cs = some x) : ∃ a b c, cs = [.string a, .string b, .int .i64 c] ∧ (Lit.int .i64 c).wf = true := by
  obtain ⟨hl, m, hf⟩ := open_row Tryz.underlying28 (hone_of (by kernel_rfl)) (by kernel_rfl) h
  have hl' : cs.length = 3 := hl
  obtain ⟨v0, y0, g0, t0⟩ := hf 0 _ rfl
  obtain ⟨v1, y1, g1, t1⟩ := hf 1 _ rfl
  obtain ⟨v2, y2, g2, t2⟩ := hf 2 _ rfl
  obtain ⟨a0, e0, _, _⟩ := DataW.trod_string Tryz.underlying9 t0
  obtain ⟨a1, e1, _, _⟩ := DataW.trod_string Tryz.underlying9 t1
  obtain ⟨a2, e2, _, wf⟩ := DataW.trod_int Tryz.underlying26 t2
  match cs, hl' with
  | [c0, c1, c2], _ =>
    simp at g0 g1 g2 e0 e1 e2
    subst g0 g1 g2 e0 e1 e2
    exact ⟨a0, a1, a2, rfl, wf⟩
def EvOk (e : Ev) : Prop := (Lit.int .i64 e.kind).wf = true ∧ (Lit.int .i64 e.code).wf = true
set_option maxRecDepth 100000 in
theorem open_event {n : Nat} {cs : List Value} {x : DataW H × List MemPlace} (h : DataW.trod enc Tryz.prog w base spare held n 32 cs = some x) : ∃ r : Ev, cs = evC r ∧ EvOk r := by
  obtain ⟨xs, m, _, rfl, hlen, hxl, hf⟩ := DataW.trod_struct Tryz.underlying32 h
  have hl' : cs.length = 20 := hlen.trans (by kernel_rfl)
  have hxl' : xs.length = 9 := hxl
  have k3 : Tryz.prog.cellsOf 3 = 1 := by kernel_rfl
  have k9 : Tryz.prog.cellsOf 9 = 1 := by kernel_rfl
  have kO : Tryz.prog.cellsOf 25 = 4 := by kernel_rfl
  have kA : Tryz.prog.cellsOf 28 = 3 := by kernel_rfl
  have kF : Tryz.prog.cellsOf 30 = 7 := by kernel_rfl
  match cs, hl', xs, hxl' with
  | [c0, c1, c2, c3, c4, c5, c6, c7, c8, c9, c10, c11, c12, c13, c14, c15, c16, c17, c18, c19], _, [y0, y1, y2, y3, y4, y5, y6, y7, y8], _ =>
    have g0 := hf 0 _ rfl
    have g1 := hf 1 _ rfl
    have g2 := hf 2 _ rfl
    have g3 := hf 3 _ rfl
    have g4 := hf 4 _ rfl
    have g5 := hf 5 _ rfl
    have g6 := hf 6 _ rfl
    have g7 := hf 7 _ rfl
    have g8 := hf 8 _ rfl
    simp [k3, k9, kO, kA, kF] at g0 g1 g2 g3 g4 g5 g6 g7 g8
    obtain ⟨a0, e0, _, w0⟩ := DataW.trod_int Tryz.underlying3 g0
    obtain ⟨a1, e1, _, _⟩ := DataW.trod_int Tryz.underlying3 g1
    obtain ⟨a2, e2, _, _⟩ := DataW.trod_int Tryz.underlying3 g2
    obtain ⟨a3, e3, _, _⟩ := DataW.trod_int Tryz.underlying3 g3
    obtain ⟨o0, o1, o2, o3, e4⟩ := open_op g4
    obtain ⟨a8, e5, _, _⟩ := DataW.trod_int Tryz.underlying3 g5
    obtain ⟨n0, n1, n2, e6, w6⟩ := open_answer g6
    obtain ⟨a12, e7, _, _⟩ := DataW.trod_string Tryz.underlying9 g7
    obtain ⟨f0, f1, f2, f3, f4, f5, f6, e8⟩ := open_finding g8
    simp at e0 e1 e2 e3 e4 e5 e6 e7 e8
    obtain ⟨r0, r1, r2, r3⟩ := e4
    obtain ⟨s0, s1, s2⟩ := e6
    obtain ⟨u0, u1, u2, u3, u4, u5, u6⟩ := e8
    subst e0 e1 e2 e3 e5 e7 r0 r1 r2 r3 s0 s1 s2 u0 u1 u2 u3 u4 u5 u6
    exact ⟨⟨a0, a1, a2, a3, o0, o1, o2, o3, a8, n0, n1, n2, a12, f0, f1, f2, f3, f4, f5, f6⟩, rfl, w0, w6⟩
/-- a slice of structs, opened as a list -/
theorem open_rows {α : Type} {f : α → List Value} {k : Nat} {Q : α → Prop} (hk : ∀ x, (f x).length = k) (hk0 : 0 < k) {t e : TypeId} {n : Nat} {cs : List Value} {x : DataW H × List MemPlace}
    (ht : Tryz.prog.underlying t = some (.slice e)) (hc : Tryz.prog.cellsOf e = k)
    (ho : ∀ m cs y, DataW.trod enc Tryz.prog w base spare held m e cs = some y → ∃ r : α, cs = f r ∧ Q r) (h : DataW.trod enc Tryz.prog w base spare held n t cs = some x) :
    ∃ (A : Option Addr) (n c : Nat) (l : List α), cs = [.slice A n c] ∧ Sl f k w w.heap.size A n c l ∧ n ≤ maxLen ∧ ∀ x ∈ l, Q x := by
  rcases open_slice ht h with ⟨rfl, _⟩ | ⟨a, len, cap, m, n', D, Pl, rfl, _, hl, hm, hmm, _, hx⟩
  · exact ⟨none, 0, 0, [], rfl, Sl.nil, by omega, fun x hx => by simp at hx⟩
  have hlm : len ≤ m := by rw [hmm]; split <;> omega
  obtain ⟨l, hll, hall⟩ := build_list (P := fun i r => (∀ j u, (f r)[j]? = some u → w.cell? (a.add (i * k + j)) = some u) ∧ Q r) len fun i hi => by
    obtain ⟨cs', h1, h2⟩ := hx i (by omega)
    obtain ⟨r, rfl, hq⟩ := ho _ _ _ h2
    rw [hc] at h1
    obtain ⟨_, hlen, hcell⟩ := World.cells?_some h1
    refine ⟨r, fun j u hu => ?_, hq⟩
    have hj : j < k := by have := (List.getElem?_eq_some_iff.1 hu).1; rwa [hk] at this
    have := hcell j hj
    rw [add_add, hu] at this
    exact this
  refine ⟨some a, len, cap, l, rfl, sl_came hk hk0 hll hl fun i x hi => (hall i x hi).1, by omega, fun x hx => ?_⟩
  obtain ⟨i, hi, rfl⟩ := List.getElem_of_mem hx
  exact (hall i _ (List.getElem?_eq_getElem hi)).2
set_option maxRecDepth 100000 in
/-- the argument of the law -/
theorem open_events {r : Reach} {b0 : Nat} {v : Value} {d : DataW H} {p : List MemPlace} (hv : Value.okWide Tryz.prog w r b0 22 v) (h : DataW.Trod enc Tryz.prog w base spare held 22 v d p) :
    ∃ (A : Option Addr) (n c : Nat) (l : List Ev), v = .slice A n c ∧ Sl evC 20 w w.heap.size A n c l ∧ ∀ e ∈ l, EvOk e := by
  obtain ⟨a0, len, cap, rfl⟩ := okWide_slice Tryz.underlying22 hv
  obtain ⟨fuel, hf⟩ := h
  obtain ⟨A, n, c, l, e, hs, _, hq⟩ := open_rows evC_len (by decide) Tryz.underlying22 (by kernel_rfl) (fun m cs y h => open_event h) hf
  simp [Value.cells] at e
  obtain ⟨rfl, rfl, rfl⟩ := e
  exact ⟨_, _, _, l, rfl, hs, hq⟩
end
end Go.Proofs.YtpklgdclknicjaaGreatDoor
