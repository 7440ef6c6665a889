/- awake: Volumes over one name and no volume. -/
import Derived.Test.YtphpkmjobhohfaaGreatDoorT
namespace Go.Proofs.YtphpkmjobhohfaaGreatDoor
open Go.RowKit

set_option maxHeartbeats 1000000 in
theorem compact_one (a : Addr) (cap : Nat) (w : World) :
    Calls Tryz.prog 12 #[.slice (some a) 1 cap] w fun e w' => e = .returned (.slice (some a) 1 cap) ∧ w = w' := by
  go_enter Tryz.func12, Tryz.ntmps12
  go_wp2
  go_ret
  exact ⟨rfl, rfl⟩

theorem look31 (w : World) (b : Nat) (c : Nat) (key : ByteArray) (hb : w.heap[b]? = some (.map #[] c)) :
    (Instr.lookup 31 (.map (some b)) (.string key) true).run Tryz.prog w = .ok (.tuple #[.pointer none, .bool false]) w := by
  have hc : (Instr.checkKey true 10000 9 (.string key)).run Tryz.prog w = .ok () w := MapKept.run_checkKey (k := .string key) Tryz.underlying9 (by simp [MapKept.IsKey]) _ 9999
  simp [Instr.lookup, run_underlying Tryz.underlying31, MapKept.run_getObj_map hb, hc, MapKept.run_findKey Tryz.underlying9 (show Instr.findNow .string (.string key) (#[] : Array MapEntry).toList 0 = some none from rfl)]

abbrev tab0 : Array Value := #[.string ⟨#[]⟩, .int .i64 0, .slice none 0 0]
set_option maxRecDepth 100000 in
set_option maxHeartbeats 1000000 in
theorem table_none (b c : Nat) (key : ByteArray) (w : World) (hb : w.heap[b]? = some (.map #[] c)) :
    Calls Tryz.prog 15 #[.map (some b), .string key] w fun e w' => e = .returned (.tuple #[.agg #[.string ⟨#[]⟩, .int .i64 0, .slice none 0 0], .bool false]) ∧ Below w.heap.size w w' := by
  have hlt : b < w.heap.size := (Array.getElem?_eq_some_iff.1 hb).1
  have l1 := look31 (w.alloc (.cells #[.string ⟨#[]⟩, .int .i64 0, .slice none 0 0] 48)) b c key ((Below.heap_alloc _ _ b hlt).trans hb)
  clear hb
  go_enter Tryz.func15, Tryz.ntmps15
  go_wp2
  exact bodyPost_ret (v := .tuple #[.agg #[.string ⟨#[]⟩, .int .i64 0, .slice none 0 0], .bool false]) (by simp [results, Tryz.results15, go_sem]) rfl ⟨rfl, (Below.refl _ _).alloc (Nat.le_refl _) _⟩

/-- the finding of Volumes -/
def found : List Value := [.int .i64 0, .string ⟨#[86, 57]⟩, .int .i64 0, .int .i64 0, .string ⟨#[]⟩, .int .i64 0, .string ⟨#[]⟩]
/-- behind Volumes: one finding, in new memory -/
def OneF (w : World) (e : Ending) (w' : World) : Prop := ∃ g cap, e = .returned (.slice (some ⟨g, 0, none⟩) 1 cap) ∧ g < w'.heap.size ∧ (∀ j x, found[j]? = some x → w'.cell? ⟨g, j, none⟩ = some x) ∧ Below w.heap.size w w'
theorem infoF : (Tryz.prog.info? 23).map (fun i => (i.zero, i.size, i.bytes)) = some (some (.agg #[.int .i64 0, .string ⟨#[]⟩, .int .i64 0, .int .i64 0, .string ⟨#[]⟩, .int .i64 0, .string ⟨#[]⟩]), 7, 80) := by kernel_rfl
theorem sorted_at (Bs b : Nat) (v : ByteArray) (w : World) (h1 : Bs < w.heap.size) (h2 : b < w.heap.size)
    (hBs : w.cell? ⟨Bs, 0, none⟩ = some (.slice (some ⟨b, 0, none⟩) 1 1)) (hc : w.cell? ⟨b, 0, none⟩ = some (.string v)) :
    Calls Tryz.prog 13 #[.func (.func 31) #[] #[.pointer (some ⟨Bs, 0, none⟩)]] w fun e w' => ∃ g cap, e = .returned (.slice (some ⟨g, 0, none⟩) 1 cap) ∧ g < w'.heap.size ∧ w'.cell? ⟨g, 0, none⟩ = some (.string v) ∧ Below w.heap.size w w' := by
  refine (sorted_one Bs b v.data.toList w h1 h2 hBs hc).mono ?_
  rintro e w' ⟨x, rfl, ho, hb⟩
  obtain ⟨g, cap, rfl, _, hlt, _⟩ := own_at ho (by omega)
  refine ⟨g, cap, rfl, hlt, ?_, hb⟩
  have := ho.cells (g := g) rfl 0 (encStr v.data.toList) rfl
  rwa [add_is] at this

theorem front_cells (W : World) (x y : Obj) (z : Array Value) (g : Nat) (hg : g = W.heap.size + 1 + 1) (j : Nat) (u : Value) (h : found[j]? = some u) :
    (((W.alloc x).alloc y).alloc (.cells (found.toArray ++ z) 23)).drew.cell? ⟨g, j, none⟩ = some u := by
  subst hg
  have hb : Blk (((W.alloc x).alloc y).alloc (.cells (found.toArray ++ z) 23)).drew (W.heap.size + 1 + 1) 23 (found.toArray ++ z) := heap_at _ _ _ (by simp)
  rw [hb.cell j]
  have hj : j < 7 := (List.getElem?_eq_some_iff.1 h).1
  rw [Array.getElem?_append_left (by simpa [found] using hj)]
  simpa using h
set_option maxRecDepth 100000 in
set_option maxHeartbeats 2000000 in
theorem volumes_one (b m c : Nat) (w : World) (hb : w.heap[m]? = some (.map #[] c)) (hlb : b < w.heap.size) (hs : w.cell? ⟨b, 0, none⟩ = some (.string ⟨#[86, 57]⟩)) :
    Calls Tryz.prog 7 #[.slice (some ⟨b, 0, none⟩) 1 1, .map (some m)] w (OneF w) := by
  obtain ⟨i0, hi, hz0, hz1, hz2⟩ := info_parts infoF
  have hlt : m < w.heap.size := (Array.getElem?_eq_some_iff.1 hb).1
  have hS := sorted_at w.heap.size b ⟨#[86, 57]⟩ (w.alloc (.cells #[.slice (some ⟨b, 0, none⟩) 1 1] 29)) (by simp) (by simp; omega) ((Blk.new w 29 #[.slice (some ⟨b, 0, none⟩) 1 1]).cell 0) (((Below.refl w.heap.size w).alloc (Nat.le_refl _) (.cells #[.slice (some ⟨b, 0, none⟩) 1 1] 29)).cell (p := ⟨b, 0, none⟩) hlb |>.trans hs)
  have HM := Lib.hid hb
  have HH := Lib.hid hS
  clear hb hs hS
  go_enter Tryz.func7, Tryz.ntmps7
  go_wp2_with (first | (go_at_call 14; refine (values_any _ _ _ _).mono ?_; rintro e w' ⟨rfl, rfl⟩) | (go_at_call 13; refine HH.out.mono ?_; rintro e w1 ⟨g, cap, rfl, hg, hc, hb1⟩) | (go_at_call 12; refine (compact_one _ _ _).mono ?_; rintro e w2 ⟨rfl, rfl⟩))
  have hB1 : Below w.heap.size w w1 := ((Below.refl w.heap.size w).alloc (Nat.le_refl _) _).trans (hb1.mono (by simp))
  have HM1 := Lib.hid ((hB1.block m hlt).trans HM.out)
  have HB1 := Lib.hid hB1
  clear hb1 hB1 HM HH
  go_loopw [5, 19] (fun o i wr => (o = .slice none 0 0 ∧ i = .int .i64 0 ∧ wr = w1) ∨ (i = .int .i64 1 ∧ OneF w (.returned o) wr)) (fun _ i _ => 1 - (intOf i).toNat)
  case atStart => exact .inl ⟨rfl, rfl, rfl⟩
  case round =>
    rcases hrel with ⟨rfl, rfl, rfl⟩ | ⟨rfl, h1⟩
    · go_wp2_with (first | (go_at_call 15; refine (table_none m c _ _ (by exact HM1.out)).mono ?_; rintro e w2 ⟨rfl, hb2⟩))
      have HB2 := Lib.hid (below_next HB1.out hb2 HB1.out.size)
      refine ⟨.inr ⟨rfl, _, _, rfl, by simp, front_cells _ _ _ _ _ rfl, (((HB2.out.alloc HB2.out.size _).alloc (Nat.le_trans HB2.out.size (by simp)) _).alloc (Nat.le_trans HB2.out.size (by simp; omega)) _).drew⟩, by simp [intOf]⟩
    · obtain ⟨g', cap', e1, h2, h3, h4⟩ := h1
      injection e1 with e1
      subst e1
      have H3 := Lib.hid h3
      have H4 := Lib.hid h4
      clear h3 h4
      go_wp2
      go_ret
      exact ⟨g', cap', rfl, h2, H3.out, H4.out⟩
end Go.Proofs.YtphpkmjobhohfaaGreatDoor
