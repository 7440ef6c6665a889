/- A node that came in, opened: its fields, and its entries as a list. -/
import Derived.Test.YtjfinkfikebjbaaA
import Derived.Lib.SmallJoins
import Derived.Deep.SlicePairs
import Derived.ChangeSame
namespace Go.Proofs.Ytjfinkfikebjbaa
open Go.Joins Go.ChangeShapes Go.WideShapes Go.RowKit Go.Deep

theorem eCells_at {es : List Ent} {j : Nat} {u : Value} (h : (eCells es)[j]? = some u) : ∃ k e, es[k]? = some e ∧ ((j = k * 2 ∧ u = .string e.1) ∨ (j = k * 2 + 1 ∧ u = .int .i64 e.2)) := by
  have hj := (List.getElem?_eq_some_iff.1 h).1
  rw [eCells_len] at hj
  have hk : j / 2 < es.length := by omega
  have hg : es[j / 2]? = some (es[j / 2]) := List.getElem?_eq_getElem hk
  obtain ⟨h1, h2⟩ := eCells_get es _ _ hg
  refine ⟨j / 2, _, hg, ?_⟩
  rcases Nat.mod_two_eq_zero_or_one j with h0 | h0
  · have e : j = j / 2 * 2 := by omega
    rw [← e, h] at h1
    exact .inl ⟨e, by injection h1⟩
  · have e : j = j / 2 * 2 + 1 := by omega
    rw [← e, h] at h2
    exact .inr ⟨e, by injection h2⟩

theorem es_build {w : World} {a : Addr} : ∀ (m : Nat), (∀ i, i < m → ∃ x p, w.cell? (a.add (i * 2)) = some (.string x) ∧ w.cell? (a.add (i * 2 + 1)) = some (.int .i64 p) ∧ x.size ≤ maxLen ∧ (Lit.int .i64 p).wf = true) →
    ∃ es : List Ent, es.length = m ∧ ∀ k e, es[k]? = some e → w.cell? (a.add (k * 2)) = some (.string e.1) ∧ w.cell? (a.add (k * 2 + 1)) = some (.int .i64 e.2) ∧ e.1.size ≤ maxLen ∧ (Lit.int .i64 e.2).wf = true
  | 0, _ => ⟨[], rfl, fun k e h => by simp at h⟩
  | m + 1, h => by
    obtain ⟨es, hl, ih⟩ := es_build m fun i hi => h i (by omega)
    obtain ⟨x, p, h1, h2, h3, h4⟩ := h m (by omega)
    refine ⟨es ++ [(x, p)], by simp [hl], fun k e hk => ?_⟩
    rw [List.getElem?_append] at hk
    split at hk
    · exact ih k e hk
    · have : k = m := by
        have := (List.getElem?_eq_some_iff.1 hk).1
        simp at this; omega
      subst this
      rw [hl, Nat.sub_self] at hk
      injection hk with hk
      subst hk
      exact ⟨h1, h2, h3, h4⟩

theorem es_came {w : World} {a : Addr} {n c : Nat} {es : List Ent} (hz : es.length = n) (hl : n ≤ c) (hcell : ∀ k e, es[k]? = some e → w.cell? (a.add (k * 2)) = some (.string e.1) ∧ w.cell? (a.add (k * 2 + 1)) = some (.int .i64 e.2)) :
    Es w w.heap.size (some a) n c es := by
  refine ⟨hl, by rw [eCells_len, hz], fun hn => ?_⟩
  obtain ⟨b, off, spot⟩ := a
  have hg : es[0]? = some es[0] := List.getElem?_eq_getElem (by omega)
  have h0 := (hcell 0 _ hg).1
  have hspot : spot = none := by simpa [Addr.add] using World.cell?_spot h0
  subst hspot
  have hadd : ∀ j, (⟨b, off, none⟩ : Addr).add j = ⟨b, off + j, none⟩ := fun j => by unfold Addr.add; split <;> simp_all
  refine ⟨b, off, rfl, ?_, fun j u hu => ?_⟩
  · rw [hadd] at h0
    by_cases hlt : b < w.heap.size
    · exact hlt
    · simp [World.cell?, Array.getElem?_eq_none (Nat.not_lt.1 hlt)] at h0
  · obtain ⟨k, e, hk, ⟨rfl, rfl⟩ | ⟨rfl, rfl⟩⟩ := eCells_at hu
    · have := (hcell k e hk).1; rwa [hadd] at this
    · have := (hcell k e hk).2; rwa [hadd] at this
section
variable {H : Type} {enc : TypeId × Value → H} {w : World} {base : Nat} {spare : Nat → Bool} {held : Bool}
theorem open_node {r : Reach} {b0 : Nat} {v : Value} {d : DataW H} {p : List MemPlace} (hv : Value.okWide Try.prog w r b0 25 v) (h : DataW.Trod enc Try.prog w base spare held 25 v d p) :
    ∃ (lv nx : Int) (A : Option Addr) (n c : Nat) (es : List Ent), v = .agg #[.int .i64 lv, .int .i64 nx, .slice A n c] ∧ Es w w.heap.size A n c es ∧ c ≤ maxLen ∧ (Lit.int .i64 lv).wf = true ∧ (Lit.int .i64 nx).wf = true ∧
      ∀ e ∈ es, e.1.size ≤ maxLen ∧ (Lit.int .i64 e.2).wf = true := by
  obtain ⟨v0, v1, v2, y0, y1, y2, m, rfl, _, _, t0, t1, t2⟩ := open_agg3 Try.underlying25 (by kernel_rfl) (by kernel_rfl) hv h
  obtain ⟨lv, e0, _, w0⟩ := DataW.trod_int Try.underlying3 t0
  obtain ⟨nx, e1, _, w1⟩ := DataW.trod_int Try.underlying3 t1
  simp at e0 e1
  subst e0 e1
  rcases open_slice_pairs Try.underlying23 Try.underlying34 (by kernel_rfl) rfl rfl (by kernel_rfl) (by kernel_rfl) t2 with ⟨hcs, _⟩ | ⟨a, len, cap, q, k, V0, V1, D0, D1, P0, P1, hcs, _, hl, hm, hq, _, hi⟩
  · simp at hcs
    subst hcs
    exact ⟨lv, nx, none, 0, 0, [], rfl, es_nil, by omega, w0, w1, fun e he => by simp at he⟩
  · simp at hcs
    subst hcs
    have hlq : len ≤ q := by rw [hq]; split <;> omega
    obtain ⟨es, hes, hall⟩ := es_build (w := w) (a := a) len fun i hi' => by
      obtain ⟨c0, c1, r0, r1⟩ := hi i (by omega)
      obtain ⟨s, es0, _, z0⟩ := DataW.trod_string Try.underlying9 r0
      obtain ⟨z, es1, _, z1⟩ := DataW.trod_int Try.underlying3 r1
      simp at es0 es1
      rw [es0] at c0
      rw [es1] at c1
      exact ⟨s, z, c0, c1, z0, z1⟩
    refine ⟨lv, nx, some a, len, cap, es, rfl, es_came hes hl fun k e hk => ⟨(hall k e hk).1, (hall k e hk).2.1⟩, hm, w0, w1, fun e he => ?_⟩
    obtain ⟨t, ht, rfl⟩ := List.getElem_of_mem he
    exact (hall t _ (List.getElem?_eq_getElem ht)).2.2
end
end Go.Proofs.Ytjfinkfikebjbaa
