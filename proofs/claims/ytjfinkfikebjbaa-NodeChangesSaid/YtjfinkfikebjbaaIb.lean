/- slices.Insert of one entry. -/
import Derived.Test.YtjfinkfikebjbaaIa
namespace Go.Proofs.Ytjfinkfikebjbaa
open Go.RowKit
attribute [local go_sem ↓] Go.wp_at_zero Go.wp_at_succ

theorem info2 : (Try.prog.info? 34).map (·.size) = some 2 := by
  obtain ⟨i0, hi0, hz0, hz1, hz2⟩ := info_parts Try.info34
  rw [hi0]; simp [hz1]
theorem add_lit (b o j : Nat) : (⟨b, o, none⟩ : Addr).add j = ⟨b, o + j, none⟩ := by unfold Addr.add; split <;> simp_all

theorem grown2 {w w1 w2 : World} {r : Option Nat} (h : w.grownBy w1 r) (k : w1.grownBy w2 r) : w.grownBy w2 r :=
  ⟨k.os.trans h.os, k.tape.trans h.tape, k.output.trans h.output, Nat.le_trans h.size k.size, fun b hb hr => (k.block b (Nat.lt_of_lt_of_le hb h.size) hr).trans (h.block b hb hr)⟩
theorem grown_drew {w w1 : World} {r : Option Nat} (h : w.drew.grownBy w1 r) : w.grownBy w1 r := ⟨h.os, h.tape, h.output, h.size, h.block⟩
theorem sp_take {α : Type} (L : List α) (off : Nat) (cs : List α) {k : Nat} (h : k ≤ off) (hl : off ≤ L.length) : (splice L off cs).take k = L.take k := by
  unfold splice
  rw [List.take_append_of_le_length (by rw [List.length_take]; omega), List.take_take, Nat.min_eq_left h]
theorem sp_drop {α : Type} (L : List α) (off : Nat) (cs : List α) (hl : off ≤ L.length) : (splice L off cs).drop off = cs ++ L.drop (off + cs.length) := by
  unfold splice
  rw [List.drop_left' (by rw [List.length_take]; omega)]

set_option maxRecDepth 100000 in
set_option maxHeartbeats 2000000 in
theorem ins_room (base g n cap i vb : Nat) (es : List Ent) (x : ByteArray) (p : Int) (w : World) (hown : w.ownsRow base 34 2 (.slice (some ⟨g, 0, none⟩) n cap) n (eCells es)) (hv : Blk w vb 34 #[.string x, .int .i64 p]) (hvg : vb ≠ g)
    (hi : i < n) (hn : n ≤ 200) (hc : n + 1 ≤ cap) :
    Calls Try.prog 44 #[.slice (some ⟨g, 0, none⟩) n cap, .int .i64 i, .slice (some ⟨vb, 0, none⟩) 1 1] w fun e w' => ∃ v, e = .returned v ∧ w'.ownsRow base 34 2 v (n + 1) (eCells (insE es i x p)) ∧ w.grownBy w' (some g) := by
  have hl : es.length = n := by have := hown.1; rw [eCells_len] at this; omega
  obtain ⟨cur, hbase, hg, hmax, hcs, htk⟩ : ∃ cur : List Value, base ≤ g ∧ Blk w g 34 cur.toArray ∧ cap ≤ maxLen ∧ cur.length = cap * 2 ∧ cur.take (n * 2) = eCells es := by
    rcases hown.2 with ⟨h, _⟩ | ⟨g', cap', cur, hv', hb, hh, h1, h2, h3, h4⟩
    · cases h
    · injection hv' with e1 e2 e3
      injection e1 with e1
      injection e1 with e1 _ _
      subst e1 e3
      exact ⟨cur.toList, hb, hh, h2, by simpa using h3, h4⟩
  have hz : ∀ w, (Go.sizeOf 34).run Try.prog w = .ok 2 w := fun w => by
    obtain ⟨i0, hi0, hz0, hz1, hz2⟩ := info_parts Try.info34
    simp [sizeOf, typeInfo, hi0, hz1]
  have hov : ∀ lb cb, (callFunc 54 #[.slice (some ⟨vb, 0, none⟩) 1 1, .slice (some ⟨g, (i + 1) * 2, none⟩) lb cb]).run Try.prog w = .ok (.value (.bool false)) w := fun lb cb => by
    rw [run_callFunc_extern Try.func54 (by kernel_rfl) (by kernel_rfl) (by kernel_rfl) (e := Extern.SlicesOverlaps.overlaps #[23, 23] #[4]) (by kernel_rfl),
      Lib.run_overlaps_apart w 23 4 34 Try.underlying23 2 hz ⟨vb, 0, none⟩ ⟨g, (i + 1) * 2, none⟩ 1 1 lb cb hvg 34 34 2 cur.length (by unfold Blk at hv; simp [World.shape?, hv]) (by unfold Blk at hg; simp [World.shape?, hg]) (by omega) (hv.free _) (hv.free _)]
    rfl
  have hdl : (eCells (es.drop i)).length = (n - i) * 2 := by rw [eCells_len]; simp; omega
  have hmin1 : Nat.min (n + 1 - i) (n + 1 - (i + 1)) = n - i := by simp only [Nat.min_def]; split <;> omega
  have hmin2 : Nat.min 1 (n + 1 - i) = 1 := by simp only [Nat.min_def]; split <;> omega
  have hsrc1 : ∀ W : World, (∀ a, W.cell? a = w.cell? a) → ∀ (j : Nat) (v : Value), (eCells (es.drop i))[j]? = some v → W.cell? ((⟨g, i * 2, none⟩ : Addr).add j) = some v := by
    intro W hW j v hj
    rw [add_lit, hW, hg.cell]
    have e : (eCells es)[i * 2 + j]? = some v := by rw [← eCells_drop, List.getElem?_drop] at hj; exact hj
    rw [← htk, List.getElem?_take] at e
    split at e
    · simpa using e
    · cases e
  have hmax' := hmax
  unfold maxLen at hmax'
  have H1 := Lib.hid hown
  have HG := Lib.hid hg
  have HV := Lib.hid hv
  have HT := Lib.hid htk
  have HS := Lib.hid hsrc1
  have HDL := Lib.hid hdl
  have HM1 := Lib.hid hmin1
  have HM2 := Lib.hid hmin2
  have HL := Lib.hid hl
  have HC := Lib.hid hcs
  have HZ := Lib.hid hz
  have HMX := Lib.hid hmax
  clear hown hg hv htk hsrc1 hdl hmin1 hmin2 hl hcs hz hmax
  go_enter Try.func44, Try.ntmps44
  go_wp2_with (simp only [hov])
  have hw1 : IntKind.i64.wrap ((i : Int) + 1) = (i : Int) + 1 := by rw [IntKind.wrap_i64]; omega
  have hb1 : (0 : Int) ≤ (i : Int) + 1 := by omega
  have htn : ((i : Int) + 1).toNat = i + 1 := by omega
  have hb2 : ¬ (cap = i + 1) := by omega
  have hb3 : (i : Int) ≤ (n : Int) + 1 := by omega
  have hb4 : ¬ (cap = i) := by omega
  have hb5 : i ≤ n := by omega
  go_region_law (refine step_copy2 (P := Try.prog) rfl _ _ 23 23 rfl 34 Try.underlying23 info2 g ((i + 1) * 2) (n + 1 - (i + 1)) (cap - (i + 1)) ⟨g, i * 2, none⟩ (n + 1 - i) (cap - i) (by simp [Act.eval, Act.put]) (by simp [Act.eval, Act.put]) cur 34 (HG.out.drewN 1) (eCells (es.drop i)) (by rw [HDL.out, HM1.out]) (HS.out _ (fun _ => rfl)) (by rw [HDL.out, HC.out]; omega) (eCells_one _) ?_; intro w1 hB1 hG1; have HB1 := Lib.hid hB1; have HG1 := Lib.hid hG1; clear hB1 hG1)
  have hv1 : Blk w1 vb 34 #[.string x, .int .i64 p] := HV.out.drew.grown HG1.out (by simpa using hvg)
  have hsrc2 : ∀ W : World, (∀ a, W.cell? a = w1.cell? a) → ∀ (j : Nat) (v : Value), ([.string x, .int .i64 p] : List Value)[j]? = some v → W.cell? ((⟨vb, 0, none⟩ : Addr).add j) = some v := by
    intro W hW j v hj
    rw [add_lit, hW, hv1.cell]
    simpa using hj
  have HS2 := Lib.hid hsrc2
  have h1c : ∀ v ∈ ([.string x, .int .i64 p] : List Value), v.oneCell' = true := ent_one _ _
  have H1C := Lib.hid h1c
  obtain ⟨row1, hrow1⟩ : ∃ r, r = splice cur ((i + 1) * 2) (eCells (es.drop i)) := ⟨_, rfl⟩
  have hrl : row1.length = cap * 2 := by rw [hrow1, length_splice _ _ _ (by rw [HDL.out, HC.out]; omega), HC.out]
  have HRL := Lib.hid hrl
  rw [← hrow1] at HB1
  have HR1 := Lib.hid hrow1
  have HN2 : Hid (([.string x, .int .i64 p] : List Value).length = Nat.min 1 (n + 1 - i) * 2) := Lib.hid (HM2.out.symm ▸ rfl)
  have HF2 : Hid (i * 2 + ([.string x, .int .i64 p] : List Value).length ≤ row1.length) := Lib.hid (by rw [hrl, List.length_cons, List.length_cons, List.length_nil]; omega)
  clear hv1 hsrc2 h1c hrl hrow1
  go_wp2_with ((refine wpList_copy2 (P := Try.prog) rfl _ _ 23 23 rfl 34 Try.underlying23 info2 g (i * 2) (n + 1 - i) (cap - i) ⟨vb, 0, none⟩ 1 1 rfl rfl row1 34 HB1.out [.string x, .int .i64 p] HN2.out (HS2.out _ (fun _ => rfl)) HF2.out H1C.out ?_; intro w2 hB2 hG2; have HB2 := Lib.hid hB2; have HG2 := Lib.hid hG2; clear hB2 hG2))
  go_ret
  have e1 : cur.take (i * 2) = eCells (es.take i) := by rw [← eCells_take, ← HT.out, List.take_take, Nat.min_eq_left (by omega)]
  refine ⟨_, rfl, ins_own (T := cur.drop ((i + 1) * 2 + (eCells (es.drop i)).length)) HB2.out ?_ (by omega) HL.out hbase hc HMX.out (by rw [length_splice _ _ _ HF2.out, HRL.out]), grown2 (grown_drew HG1.out) HG2.out⟩
  show row1.take (i * 2) ++ ([.string x, .int .i64 p] ++ row1.drop (i * 2 + 2)) = _
  rw [show i * 2 + 2 = (i + 1) * 2 from by omega, HR1.out, sp_take _ _ _ (by omega) (by rw [HC.out]; omega), sp_drop _ _ _ (by rw [HC.out]; omega), e1]

set_option maxRecDepth 100000 in
set_option maxHeartbeats 2000000 in
theorem ins_grow (base g n cap i vb : Nat) (es : List Ent) (x : ByteArray) (p : Int) (w : World) (hown : w.ownsRow base 34 2 (.slice (some ⟨g, 0, none⟩) n cap) n (eCells es)) (hv : Blk w vb 34 #[.string x, .int .i64 p])
    (hi : i < n) (hn : n ≤ 200) (hc : cap < n + 1) :
    Calls Try.prog 44 #[.slice (some ⟨g, 0, none⟩) n cap, .int .i64 i, .slice (some ⟨vb, 0, none⟩) 1 1] w fun e w' => ∃ v, e = .returned v ∧ w'.ownsRow base 34 2 v (n + 1) (eCells (insE es i x p)) ∧ w.grownBy w' none := by
  have hl : es.length = n := by have := hown.1; rw [eCells_len] at this; omega
  obtain ⟨cur, hbase, hg, hnc, hcs, htk⟩ : ∃ cur : List Value, base ≤ g ∧ Blk w g 34 cur.toArray ∧ n ≤ cap ∧ cur.length = cap * 2 ∧ cur.take (n * 2) = eCells es := by
    rcases hown.2 with ⟨h, _⟩ | ⟨g', cap', cur, hv', hb, hh, h1, h2, h3, h4⟩
    · cases h
    · injection hv' with e1 e2 e3
      injection e1 with e1
      injection e1 with e1 _ _
      subst e1 e3
      exact ⟨cur.toList, hb, hh, h1, by simpa using h3, h4⟩
  obtain ⟨i0, hi0, hz0, hzs, hzb⟩ := info_parts Try.info34
  have e1 : cur.take (i * 2) = eCells (es.take i) := by rw [← eCells_take, ← htk, List.take_take, Nat.min_eq_left (by omega)]
  have hel : (eCells (es.take i)).length = i * 2 := by rw [eCells_len]; simp; omega
  have hkk : (n : Int) + 1 - (i : Int) = ((n + 1 - i : Nat) : Int) := by omega
  have hik : i + (n + 1 - i) = n + 1 := by omega
  have hold : (Builtin.firstCells i0.size i (.slice (some ⟨g, 0, none⟩) i cap)).run Try.prog w.drew = .ok (eCells (es.take i)).toArray w.drew := by
    rw [hzs]
    exact run_firstCells_some w.drew 2 i ⟨g, 0, none⟩ i cap (eCells (es.take i)) hel (fun j v hj => by
      rw [add_lit]
      show w.cell? _ = _
      rw [hg.cell]
      rw [← e1, List.getElem?_take] at hj
      split at hj
      · simpa using hj
      · cases hj)
  have hrz : ∃ G ROW, n + 1 ≤ G ∧ G ≤ maxLen ∧ ROW.length = G * 2 ∧ ROW.take (i * 2) = eCells (es.take i) ∧ ∀ ty, (Builtin.append_ #[23, 3] ty #[.slice (some ⟨g, 0, none⟩) i cap, .int .i64 ((n : Int) + 1 - (i : Int))]).run Try.prog w =
      .ok (.slice (some ⟨w.heap.size, 0, none⟩) (n + 1) G) (w.drew.alloc (.cells (List.toArray ROW) 34)) := by
    have h := fun ty => Lib.run_append_grow_zeros w 23 3 ty 34 i0 _ .i64 .i64 Try.underlying23 Try.underlying3 hi0 hz0 (some ⟨g, 0, none⟩) i cap (eCells (es.take i)) hold (n + 1 - i) (by omega) (by omega) (by omega) (by omega) (by rw [hzb]; omega) (by rw [hzb, hik]; exact growslice_fits hc (by omega))
    rw [hik] at h
    have g1 := grownCap_ge w (n + 1) cap 34
    have g2 := grownCap_le_maxLen w (n + 1) cap 34 (by unfold maxLen; omega)
    generalize grownCap w (n + 1) cap 34 = G at h g1 g2
    refine ⟨G, ((eCells (es.take i)).toArray ++ Builtin.zeroCells (Value.agg #[.string ⟨#[]⟩, .int .i64 0]).cells (n + 1 - i) ++ Builtin.zeroCells (Value.agg #[.string ⟨#[]⟩, .int .i64 0]).cells (G - (n + 1))).toList, g1, g2, ?_, ?_, fun ty => ?_⟩
    · simp [Builtin.zeroCells, Value.cells, hel]
      omega
    · simp only [Array.toList_append, List.append_assoc]
      rw [List.take_left' hel]
    · rw [hkk, h ty]
  obtain ⟨G, ROW, hG1, hG2, hRL, hRT, hrz⟩ := hrz
  have hdl : (eCells (es.drop i)).length = (n - i) * 2 := by rw [eCells_len]; simp; omega
  have hgw : g ≠ w.heap.size := Nat.ne_of_lt hg.lt
  have hvw : vb ≠ w.heap.size := Nat.ne_of_lt hv.lt
  have hmin1 : Nat.min (n - i) (n + 1 - (i + 1)) = n - i := by simp only [Nat.min_def]; split <;> omega
  have hmin2 : Nat.min 1 (n + 1 - i) = 1 := by simp only [Nat.min_def]; split <;> omega
  have hmax' := hG2
  unfold maxLen at hmax'
  have hB0 : Blk (w.drew.alloc (.cells ROW.toArray 34)) w.heap.size 34 ROW.toArray := Blk.new w.drew 34 _
  have hv0 : Blk (w.drew.alloc (.cells ROW.toArray 34)) vb 34 #[.string x, .int .i64 p] := hv.drew.alloc _
  have hg0 : Blk (w.drew.alloc (.cells ROW.toArray 34)) g 34 cur.toArray := hg.drew.alloc _
  have hgr0 : w.grownBy (w.drew.alloc (.cells ROW.toArray 34)) none := ⟨rfl, rfl, rfl, by simp, fun k hk _ => Below.heap_alloc w.drew _ k hk⟩
  have HN1 : Hid (([.string x, .int .i64 p] : List Value).length = Nat.min 1 (n + 1 - i) * 2) := Lib.hid (hmin2.symm ▸ rfl)
  have HF1 : Hid (i * 2 + ([.string x, .int .i64 p] : List Value).length ≤ ROW.length) := Lib.hid (by rw [hRL, List.length_cons, List.length_cons, List.length_nil]; omega)
  have HS1 : Hid (∀ W : World, (∀ a, W.cell? a = (w.drew.alloc (.cells ROW.toArray 34)).cell? a) → ∀ (j : Nat) (v : Value), ([.string x, .int .i64 p] : List Value)[j]? = some v → W.cell? ((⟨vb, 0, none⟩ : Addr).add j) = some v) := Lib.hid (by
    intro W hW j v hj
    rw [add_lit, hW, hv0.cell]
    simpa using hj)
  have H1C : Hid (∀ v ∈ ([.string x, .int .i64 p] : List Value), v.oneCell' = true) := Lib.hid (ent_one _ _)
  have HB0 := Lib.hid hB0
  have HG0 := Lib.hid hg0
  have HGR0 := Lib.hid hgr0
  have HT := Lib.hid htk
  have HE := Lib.hid e1
  have HRT := Lib.hid hRT
  have HRL := Lib.hid hRL
  have HDL := Lib.hid hdl
  have HM1 := Lib.hid hmin1
  have HL := Lib.hid hl
  have HC := Lib.hid hcs
  have HMX := Lib.hid hG2
  have HGB := Lib.hid hg
  clear hown hg hv htk hdl hmin1 hmin2 hl hcs hG2 hRT hRL hB0 hv0 hg0 hgr0 e1 hold hel hik hkk hi0 hz0 hzs hzb i0
  have hw1 : IntKind.i64.wrap ((i : Int) + 1) = (i : Int) + 1 := by rw [IntKind.wrap_i64]; omega
  have hb1 : (0 : Int) ≤ (i : Int) + 1 := by omega
  have htn : ((i : Int) + 1).toNat = i + 1 := by omega
  have hb2 : ¬ (G = i + 1) := by omega
  have hb6 : ¬ (G = i) := by omega
  have hb3 : (i : Int) ≤ (n : Int) := by omega
  have hb4 : ¬ (cap = i) := by omega
  have hb5 : i ≤ n := by omega
  go_enter Try.func44, Try.ntmps44
  go_wp2_with (first
    | (at_builtin; refine Lib.wpList_append_run _ rfl _ _ _ _ rfl _ _ rfl rfl _ _ (hrz _) ?_)
    | ((refine wpList_copy2 (P := Try.prog) rfl _ _ 23 23 rfl 34 Try.underlying23 info2 w.heap.size (i * 2) (n + 1 - i) (G - i) ⟨vb, 0, none⟩ 1 1 rfl rfl ROW 34 HB0.out [.string x, .int .i64 p] HN1.out (HS1.out _ (fun _ => rfl)) HF1.out H1C.out ?_; intro w1 hB1 hG1; have HB1 := Lib.hid hB1; have HG1 := Lib.hid hG1; clear hB1 hG1)))
  have HS2 : Hid (∀ W : World, (∀ a, W.cell? a = w1.cell? a) → ∀ (j : Nat) (v : Value), (eCells (es.drop i))[j]? = some v → W.cell? ((⟨g, i * 2, none⟩ : Addr).add j) = some v) := Lib.hid (by
    intro W hW j v hj
    rw [add_lit, hW, (HG0.out.grown HG1.out (by simpa using hgw)).cell]
    have e : (eCells es)[i * 2 + j]? = some v := by rw [← eCells_drop, List.getElem?_drop] at hj; exact hj
    rw [← HT.out, List.getElem?_take] at e
    split at e
    · simpa using e
    · cases e)
  obtain ⟨row1, hrow1⟩ : ∃ r, r = splice ROW (i * 2) [.string x, .int .i64 p] := ⟨_, rfl⟩
  have hrl : row1.length = G * 2 := by rw [hrow1, length_splice _ _ _ HF1.out, HRL.out]
  rw [← hrow1] at HB1
  have HR1 := Lib.hid hrow1
  have HRL1 := Lib.hid hrl
  have HN2 : Hid ((eCells (es.drop i)).length = Nat.min (n - i) (n + 1 - (i + 1)) * 2) := Lib.hid (by rw [HDL.out, HM1.out])
  have HF2 : Hid ((i + 1) * 2 + (eCells (es.drop i)).length ≤ row1.length) := Lib.hid (by rw [HDL.out, hrl]; omega)
  clear hrow1 hrl
  go_region_law (refine step_copy2 (P := Try.prog) rfl _ _ 23 23 rfl 34 Try.underlying23 info2 w.heap.size ((i + 1) * 2) (n + 1 - (i + 1)) (G - (i + 1)) ⟨g, i * 2, none⟩ (n - i) (cap - i) (by simp [Act.eval, Act.put]) (by simp [Act.eval, Act.put]) row1 34 HB1.out.drew (eCells (es.drop i)) HN2.out (HS2.out _ (fun _ => rfl)) HF2.out (eCells_one _) ?_; intro w2 hB2 hG2; have HB2 := Lib.hid hB2; have HG2 := Lib.hid hG2; clear hB2 hG2)
  go_wp2
  go_ret
  have hb := HGB.out.lt
  refine ⟨_, rfl, ins_own (T := row1.drop ((i + 1) * 2 + (eCells (es.drop i)).length)) HB2.out ?_ hb5 HL.out (by omega) hG1 HMX.out (by rw [length_splice _ _ _ HF2.out, HRL1.out]), ?_⟩
  · show row1.take ((i + 1) * 2) ++ (eCells (es.drop i) ++ _) = _
    have e2 : row1.take ((i + 1) * 2) = eCells (es.take i) ++ [.string x, .int .i64 p] := by
      rw [HR1.out, splice, HRT.out, ← List.append_assoc]
      have hel : (eCells (es.take i)).length = i * 2 := by rw [eCells_len]; have := HL.out; simp; omega
      exact List.take_left' (by rw [List.length_append, hel]; simp; omega)
    rw [e2, List.append_assoc]
  · have hs1 : w.heap.size + 1 ≤ w1.heap.size := by have := HG1.out.size; simpa using this
    refine ⟨HG2.out.os.trans (HG1.out.os.trans HGR0.out.os), HG2.out.tape.trans (HG1.out.tape.trans HGR0.out.tape), HG2.out.output.trans (HG1.out.output.trans HGR0.out.output), by have := HG2.out.size; simp at this; omega, fun k hk _ => ?_⟩
    have hne : some k ≠ some w.heap.size := by simp; omega
    exact (HG2.out.block k (by show k < w1.heap.size; omega) hne).trans ((HG1.out.block k (by simp; omega) hne).trans (HGR0.out.block k hk (by simp)))
end Go.Proofs.Ytjfinkfikebjbaa
