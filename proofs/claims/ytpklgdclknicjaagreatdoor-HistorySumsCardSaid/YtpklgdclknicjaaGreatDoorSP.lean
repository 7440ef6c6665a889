/- HistorySums: the program's Summary. Printed by wip/sums/gen_sp.py. -/
import Derived.Test.YtpklgdclknicjaaGreatDoorSR
import Derived.Test.YtpklgdclknicjaaGreatDoorSJ
import Derived.Test.YtpklgdclknicjaaGreatDoorShelf
import Derived.Lib.SmallJoins
import Derived.Lib.AppendIntMem
import Derived.Laws.Rows
namespace Go.Proofs.YtpklgdclknicjaaGreatDoor
open Go.RowKit Go.Maps

def Tab (w : World) : Prop := Lib.TabIs Tryz.prog w "internal/strconv.uint64pow10" .u64 Lib.pow10Tab
theorem gTab : Tryz.prog.globalNamed "internal/strconv.uint64pow10" = some 0 := by kernel_rfl
theorem Tab.below {w w' : World} {B : Nat} (h : Tab w) (hb : Below B w w') (hB : w.heap.size ≤ B) : Tab w' := Joins.tab_stays gTab h hb hB
theorem itoa_any (n : Int) (h0 : -9223372036854775808 ≤ n) (h1 : n ≤ 9223372036854775807) (w : World) (ht : Tab w) :
    Calls Tryz.prog 11 #[.int .i64 n] w fun e w' => e = .returned (.string (itoaS n)) ∧ Below w.heap.size w w' :=
  (Tryz.strconv_Itoa n h0 h1 w ht).mono fun _ _ ⟨he, k, os, hw⟩ => ⟨he, by rw [hw]; exact Lib.below_grow _ _ (Nat.le_refl _) k os⟩
noncomputable abbrev eI : Value → Option (DataW Unit × List MemPlace) := plainElem Tryz.prog 3
theorem kK : Keyed Tryz.prog 3 := int_keyed Tryz.underlying3
theorem kE : Keyed Tryz.prog 26 := int_keyed Tryz.underlying26
theorem zero_int (W : World) : (zeroValue 3).run Tryz.prog W = .ok (.int .i64 0) W := Tryz.zeroValue3 W
theorem setRow_new (X : World) (old cs : Array Value) (t : TypeId) : (X.alloc (.cells old t)).setRow X.heap.size cs = X.alloc (.cells cs t) := World.setRow_alloc_new X old cs t
set_option maxRecDepth 100000 in
/-- the lookup in a map that counts -/
theorem look_k {W : World} {b n : Nat} {ks : List Int} (h : W.ownsMap Tryz.prog 3 eI b n (dCnt ks)) {k : Int} (hw : (Lit.int .i64 k).wf = true) :
    (Instr.lookup 59 (.map (some b)) (.int .i64 k) false).run Tryz.prog W = .ok (.int .i64 ((ks.count k : Nat) : Int)) W := by
  obtain ⟨c, h1, h2, _⟩ := h.lookup_int kK Tryz.underlying59 Tryz.underlying3 (zero_int W) (keyOf_int_mk Tryz.underlying3 hw)
  rw [dCnt_at] at h2
  injection h2 with h2
  injection h2 with _ h2
  rw [h1, h2]
set_option maxRecDepth 100000 in
theorem look_c {W : World} {b n : Nat} {ks : List Int} (h : W.ownsMap Tryz.prog 26 eI b n (dCnt ks)) {k : Int} (hw : (Lit.int .i64 k).wf = true) :
    (Instr.lookup 60 (.map (some b)) (.int .i64 k) false).run Tryz.prog W = .ok (.int .i64 ((ks.count k : Nat) : Int)) W := by
  obtain ⟨c, h1, h2, _⟩ := h.lookup_int kE Tryz.underlying60 Tryz.underlying3 (zero_int W) (keyOf_int_mk Tryz.underlying26 hw)
  rw [dCnt_at] at h2
  injection h2 with h2
  injection h2 with _ h2
  rw [h1, h2]
theorem map_below {k : TypeId} {R : Value → Option (DataW Unit × List MemPlace)} {w w' : World} {b n B : Nat} {D : DataW Unit} (h : w.ownsMap Tryz.prog k R b n D) (hb : Below B w w') (hB : b < B) : w'.ownsMap Tryz.prog k R b n D := by
  obtain ⟨es, clock, h1, F, hs, hD⟩ := h
  exact ⟨es, clock, (hb.block b hB).trans h1, F, hs, hD⟩
theorem set_nodup (ks : List Int) : (setB [] ks).Nodup := (setB_up ks [] List.Pairwise.nil).imp fun h => by omega
theorem keys_set {W : World} {b n : Nat} {ks ss : List Int} (h : W.ownsMap Tryz.prog 26 eI b n (dCnt ks)) (hp : ss.Perm (intKeys (dCnt ks))) : (ss.mergeSort fun x y => decide (x ≤ y)) = setB [] ks := by
  obtain ⟨es, hD, hpw, _⟩ := h.entries kE
  obtain ⟨es', hD', hko⟩ := h.keysOf
  obtain rfl : es = es' := by rw [hD] at hD'; simpa using hD'
  have hq : (setB [] ks).Perm (intKeys (dCnt ks)) := by
    rw [hD]
    refine perm_intKeys hpw (fun p hp => ?_) (set_nodup ks) fun x => ?_
    · obtain ⟨v, hv⟩ := hko p hp
      obtain ⟨x, _, hx, _⟩ := Maps.keyOf_i64 Tryz.underlying26 hv
      exact ⟨x, hx⟩
    · rw [← hD, dCnt_has, mem_setB]; simp
  have hr := hp.trans hq.symm
  exact keys_sorted (hr.nodup_iff.2 (set_nodup ks)) fun x => by rw [hr.mem_iff, mem_setB]; simp
theorem flat_ints (s : List Int) : s.map encZ = flat iC s := by
  induction s with
  | nil => rfl
  | cons x s ih => show _ :: _ = _ ; rw [ih]; rfl
theorem int_rng {n : Int} (h : (Lit.int .i64 n).wf = true) : -9223372036854775808 ≤ n ∧ n ≤ 9223372036854775807 := by
  simp [Lit.wf, IntKind.min, IntKind.max, IntKind.signed, IntKind.bits] at h
  omega
theorem code_wf {l : List Ev} (hc : ∀ e ∈ l, (Lit.int .i64 e.code).wf = true) {c : Int} (h : c ∈ setB [] (codesL l)) : (Lit.int .i64 c).wf = true := by
  rw [mem_setB] at h
  rcases h with h | h
  · simp at h
  · unfold codesL at h
    obtain ⟨e, he, rfl⟩ := List.mem_map.1 h
    exact hc e (List.mem_filter.1 he).1
theorem itoa_size {n : Int} (h0 : -9223372036854775808 ≤ n) (h1 : n ≤ 9223372036854775807) : (itoaS n).size ≤ 21 := by
  show (Lib.itoa n).toArray.size ≤ 21
  rw [List.size_toArray, Lib.itoa]
  split
  · have := dec_len 19 n.natAbs (by omega)
    rw [List.length_cons]; omega
  · have := dec_len 19 n.toNat (by omega)
    omega
theorem int_wf {n : Int} (h0 : -9223372036854775808 ≤ n) (h1 : n ≤ 9223372036854775807) : (Lit.int .i64 n).wf = true := by
  simp [Lit.wf, IntKind.min, IntKind.max, IntKind.signed, IntKind.bits]
  omega
set_option maxRecDepth 100000 in
set_option maxHeartbeats 8000000 in
theorem hsum_any (A : Option Addr) (n c : Nat) (l : List Ev) (w : World) (ht : Tab w) (hs : Sl evC 20 w w.heap.size A n c l) (hn : n ≤ 40) (hok : ∀ e ∈ l, (Lit.int .i64 e.kind).wf = true ∧ (Lit.int .i64 e.code).wf = true) :
    Calls Tryz.prog 6 #[.slice A n c] w (GivesS w (sumL l)) := by
  have HS := Lib.hid hs
  have HL := Lib.hid hs.len
  have HT := Lib.hid ht
  have HOK := Lib.hid hok
  obtain ⟨i0, hi0, hz0, hz1, hz2⟩ := info_parts infoStr
  have HKW := Lib.hid (Blk.new w 9 #[.string ⟨#[114, 101, 103, 105, 111, 110, 115]⟩, .string ⟨#[117, 110, 105, 116, 115]⟩, .string ⟨#[97, 110, 115, 119, 101, 114, 115]⟩, .string ⟨#[99, 111, 109, 109, 105, 116, 115]⟩, .string ⟨#[100, 114, 111, 112, 115]⟩, .string ⟨#[106, 111, 98, 32, 108, 105, 110, 101, 115]⟩, .string ⟨#[100, 111, 119, 110, 115]⟩, .string ⟨#[117, 112, 115]⟩, .string ⟨#[102, 105, 110, 100, 105, 110, 103, 115]⟩, .string ⟨#[108, 111, 115, 115, 101, 115]⟩])
  have hmm := @run_makeMap Tryz.prog
  have HM1 : Hid (((w.alloc (.cells #[.string ⟨#[114, 101, 103, 105, 111, 110, 115]⟩, .string ⟨#[117, 110, 105, 116, 115]⟩, .string ⟨#[97, 110, 115, 119, 101, 114, 115]⟩, .string ⟨#[99, 111, 109, 109, 105, 116, 115]⟩, .string ⟨#[100, 114, 111, 112, 115]⟩, .string ⟨#[106, 111, 98, 32, 108, 105, 110, 101, 115]⟩, .string ⟨#[100, 111, 119, 110, 115]⟩, .string ⟨#[117, 112, 115]⟩, .string ⟨#[102, 105, 110, 100, 105, 110, 103, 115]⟩, .string ⟨#[108, 111, 115, 115, 101, 115]⟩] 9)).alloc (.map #[] 0)).ownsMap Tryz.prog 3 eI (w.heap.size + 1) 0 (dCnt [])) := Lib.hid (by have h := World.ownsMap_made (w.alloc (.cells #[.string ⟨#[114, 101, 103, 105, 111, 110, 115]⟩, .string ⟨#[117, 110, 105, 116, 115]⟩, .string ⟨#[97, 110, 115, 119, 101, 114, 115]⟩, .string ⟨#[99, 111, 109, 109, 105, 116, 115]⟩, .string ⟨#[100, 114, 111, 112, 115]⟩, .string ⟨#[106, 111, 98, 32, 108, 105, 110, 101, 115]⟩, .string ⟨#[100, 111, 119, 110, 115]⟩, .string ⟨#[117, 112, 115]⟩, .string ⟨#[102, 105, 110, 100, 105, 110, 103, 115]⟩, .string ⟨#[108, 111, 115, 115, 101, 115]⟩] 9)) Tryz.prog 3 eI; rw [alloc_size] at h; exact h)
  have HM2 : Hid ((((w.alloc (.cells #[.string ⟨#[114, 101, 103, 105, 111, 110, 115]⟩, .string ⟨#[117, 110, 105, 116, 115]⟩, .string ⟨#[97, 110, 115, 119, 101, 114, 115]⟩, .string ⟨#[99, 111, 109, 109, 105, 116, 115]⟩, .string ⟨#[100, 114, 111, 112, 115]⟩, .string ⟨#[106, 111, 98, 32, 108, 105, 110, 101, 115]⟩, .string ⟨#[100, 111, 119, 110, 115]⟩, .string ⟨#[117, 112, 115]⟩, .string ⟨#[102, 105, 110, 100, 105, 110, 103, 115]⟩, .string ⟨#[108, 111, 115, 115, 101, 115]⟩] 9)).alloc (.map #[] 0)).alloc (.map #[] 0)).ownsMap Tryz.prog 26 eI (w.heap.size + 1 + 1) 0 (dCnt [])) := Lib.hid (by have h := World.ownsMap_made ((w.alloc (.cells #[.string ⟨#[114, 101, 103, 105, 111, 110, 115]⟩, .string ⟨#[117, 110, 105, 116, 115]⟩, .string ⟨#[97, 110, 115, 119, 101, 114, 115]⟩, .string ⟨#[99, 111, 109, 109, 105, 116, 115]⟩, .string ⟨#[100, 114, 111, 112, 115]⟩, .string ⟨#[106, 111, 98, 32, 108, 105, 110, 101, 115]⟩, .string ⟨#[100, 111, 119, 110, 115]⟩, .string ⟨#[117, 112, 115]⟩, .string ⟨#[102, 105, 110, 100, 105, 110, 103, 115]⟩, .string ⟨#[108, 111, 115, 115, 101, 115]⟩] 9)).alloc (.map #[] 0)) Tryz.prog 26 eI; rw [alloc_size, alloc_size] at h; exact h)
  clear hs ht hok
  go_enter Tryz.func6, Tryz.ntmps6
  go_wp2
  go_loopw [18] (fun v18 wr => ∃ i : Nat, i ≤ n ∧ v18 = .int .i64 i ∧ wr.ownsMap Tryz.prog 3 eI (w.heap.size + 1) i (dCnt ((l.take i).map Ev.kind)) ∧ wr.ownsMap Tryz.prog 26 eI (w.heap.size + 1 + 1) i (dCnt (codesL (l.take i))) ∧ Below (w.heap.size + 1) (w.alloc (.cells #[.string ⟨#[114, 101, 103, 105, 111, 110, 115]⟩, .string ⟨#[117, 110, 105, 116, 115]⟩, .string ⟨#[97, 110, 115, 119, 101, 114, 115]⟩, .string ⟨#[99, 111, 109, 109, 105, 116, 115]⟩, .string ⟨#[100, 114, 111, 112, 115]⟩, .string ⟨#[106, 111, 98, 32, 108, 105, 110, 101, 115]⟩, .string ⟨#[100, 111, 119, 110, 115]⟩, .string ⟨#[117, 112, 115]⟩, .string ⟨#[102, 105, 110, 100, 105, 110, 103, 115]⟩, .string ⟨#[108, 111, 115, 115, 101, 115]⟩] 9)) wr) (fun v18 _ => n - (intOf v18).toNat)
  case atStart => exact ⟨0, Nat.zero_le _, rfl, HM1.out.alloc _, HM2.out, ((Below.refl _ _).alloc (by simp) _).alloc (by simp <;> omega) _⟩
  case round =>
    obtain ⟨w2, hw2⟩ : ∃ w2, w2 = wr := ⟨_, rfl⟩
    subst hw2
    obtain ⟨i, hi, rfl, hm1, hm2, hbel⟩ := hrel
    have M1 := Lib.hid hm1
    have M2 := Lib.hid hm2
    have HB := Lib.hid hbel
    have HLT1 := Lib.hid hm1.lt
    have HLT2 := Lib.hid hm2.lt
    have HZ : Hid (w.heap.size + 1 ≤ w2.heap.size) := Lib.hid (bx_size hbel)
    clear hm1 hm2 hbel
    by_cases hin : i < n
    · obtain ⟨b, o, e, rfl, hb, hg, hcell⟩ := Sl.cell (f := evC) (k := 20) evC_len (HS.out.after (bx_below HB.out) (Nat.le_of_succ_le HZ.out)) hin
      have HRG : Hid (w2.rangeAt b (o + i * 20) (evC e)) := Lib.hid fun j v hv => hcell j v hv
      have HG := Lib.hid hg
      obtain ⟨hwk, hwc⟩ := HOK.out e (List.mem_of_getElem? hg)
      have HWK := Lib.hid hwk
      have HWC := Lib.hid hwc
      have H1 := Lib.hid (evC_one e)
      have HBK := Lib.hid fun old => Blk.new w2 32 old
      have HSR := Lib.hid fun old => setRow_new w2 old (evC e).toArray 32
      have ia : (0 : Int) ≤ (i : Int) := by omega
      have ib : (i : Int) < (n : Int) := by omega
      obtain ⟨q, hq⟩ : ∃ q, ((l.take i).map Ev.kind).count e.kind = q := ⟨_, rfl⟩
      have hq40 : q ≤ 40 := by rw [← hq]; have := List.count_le_length (a := e.kind) (l := (l.take i).map Ev.kind); rw [List.length_map, List.length_take] at this; omega
      have hl1 := look_k (M1.out.alloc (.cells (evC e).toArray 32)) hwk
      rw [hq] at hl1
      have HP1 : Hid (dCnt ((l.take (i + 1)).map Ev.kind) = (dCnt ((l.take i).map Ev.kind)).put (.int .i64 e.kind) (.lit (.int .i64 ((q + 1 : Nat) : Int)))) := Lib.hid (by rw [take_step hg, List.map_append, List.map_cons, List.map_nil, dCnt_snoc, hq])
      have HP2 : Hid (codesL (l.take (i + 1)) = codesL (l.take i) ++ if e.kind = 2 then [e.code] else []) := Lib.hid (by rw [take_step hg, codesL_app, codesL_one])
      have k0 : (w2.alloc (.cells (evC e).toArray 32)).cell? ⟨w2.heap.size, 0, none⟩ = some (.int .i64 e.kind) := (Blk.new w2 32 (evC e).toArray).cell 0
      have wq : IntKind.i64.wrap ((q : Int) + 1) = ((q + 1 : Nat) : Int) := by rw [IntKind.wrap_i64]; omega
      have HK1 := Lib.hid (keyOf_int_mk (P := Tryz.prog) Tryz.underlying3 hwk)
      have HV1 : Hid (eI (.int .i64 ((q + 1 : Nat) : Int)) = some (.lit (.int .i64 ((q + 1 : Nat) : Int)), [])) := Lib.hid (plainElem_int Tryz.underlying3 (int_wf (by omega) (by omega)))
      clear hb hg hcell hwk hwc hq
      go_upto_region 7 with (first | ((with_reducible show wpList _ _ _ (⟨_, .load 32 (.tmp 20), _, _, _, _⟩ :: _) _ _); refine wpList_load_mid rfl 32 _ rfl b (o + i * 20) rfl (evC e) _ HRG.out Tryz.underlying32 rfl (by kernel_rfl) ?_) | ((with_reducible show wpList _ _ _ (⟨_, .store 32 (.tmp 7) _, _, _, _, _⟩ :: _) _ _); refine wpList_store_row rfl 32 _ _ rfl w2.heap.size (evC e).toArray rfl rfl 32 _ (HBK.out _) (by kernel_rfl) rfl H1.out ?_; rw [HSR.out]) | ((with_reducible show wpList _ _ _ (⟨_, .mapUpdate _ _ _ _, _, _, _, _⟩ :: _) _ _); refine wpList_mapUpdate_own _ rfl _ _ _ 59 rfl 3 3 kK Tryz.underlying59 eI (w.heap.size + 1) i (dCnt ((l.take i).map Ev.kind)) rfl (M1.out.alloc _) (by simp only [maxLen]; omega) (.int .i64 e.kind) (.int .i64 ((q + 1 : Nat) : Int)) (.int .i64 e.kind) rfl (by first | rfl | simp [wq]) HK1.out _ _ HV1.out ?_; intro w3 hm3 hg3))
      clear hl1 k0 wq
      have HK3 := Lib.hid ((HBK.out (evC e).toArray).grown hg3 (by have := HLT1.out; intro h; injection h with h; omega))
      have HM3 : Hid (w3.ownsMap Tryz.prog 3 eI (w.heap.size + 1) (i + 1) (dCnt ((l.take (i + 1)).map Ev.kind))) := Lib.hid (by rw [HP1.out]; exact hm3)
      have HM4 := Lib.hid ((M2.out.alloc (.cells (evC e).toArray 32)).kept hg3 (by intro h; injection h with h; omega))
      have HB4 := Lib.hid ((HB.out.alloc HZ.out (.cells (evC e).toArray 32)).grown hg3 (Nat.le_trans HZ.out (alloc_le _ _)) (by intro k h; injection h with h; omega))
      have HZ3 : Hid (w.heap.size + 1 ≤ w3.heap.size) := Lib.hid (Nat.le_trans HZ.out (Nat.le_trans (alloc_le _ _) hg3.size))
      clear hm3 hg3
      by_cases he : e.kind = 2
      · rw [if_pos he] at HP2
        have k0 : w3.cell? ⟨w2.heap.size, 0, none⟩ = some (.int .i64 2) := (HK3.out.cell 0).trans (by show some (Value.int .i64 e.kind) = _; rw [he])
        have k11 : w3.cell? ⟨w2.heap.size, 11, none⟩ = some (.int .i64 e.code) := HK3.out.cell 11
        obtain ⟨r, hr⟩ : ∃ r, (codesL (l.take i)).count e.code = r := ⟨_, rfl⟩
        have hr40 : r ≤ 40 := by rw [← hr]; have h1 := List.count_le_length (a := e.code) (l := codesL (l.take i)); have h2 := codesL_len (l.take i); rw [List.length_take] at h2; omega
        have hl2 := look_c HM4.out HWC.out
        rw [hr] at hl2
        have HP3 : Hid (dCnt (codesL (l.take (i + 1))) = (dCnt (codesL (l.take i))).put (.int .i64 e.code) (.lit (.int .i64 ((r + 1 : Nat) : Int)))) := Lib.hid (by rw [HP2.out, dCnt_snoc, hr])
        have wr2 : IntKind.i64.wrap ((r : Int) + 1) = ((r + 1 : Nat) : Int) := by rw [IntKind.wrap_i64]; omega
        have HK2 := Lib.hid (keyOf_int_mk (P := Tryz.prog) Tryz.underlying26 HWC.out)
        have HV2 : Hid (eI (.int .i64 ((r + 1 : Nat) : Int)) = some (.lit (.int .i64 ((r + 1 : Nat) : Int)), [])) := Lib.hid (plainElem_int Tryz.underlying3 (int_wf (by omega) (by omega)))
        clear he hr
        go_wp2_with (first | ((with_reducible show wpList _ _ _ (⟨_, .mapUpdate _ _ _ _, _, _, _, _⟩ :: _) _ _); refine wpList_mapUpdate_own _ rfl _ _ _ 60 rfl 26 3 kE Tryz.underlying60 eI (w.heap.size + 1 + 1) i (dCnt (codesL (l.take i))) rfl HM4.out (by simp only [maxLen]; omega) (.int .i64 e.code) (.int .i64 ((r + 1 : Nat) : Int)) (.int .i64 e.code) rfl (by first | rfl | simp [wr2]) HK2.out _ _ HV2.out ?_; intro w4 hm4 hg4))
        have HM5 := Lib.hid (HM3.out.kept hg4 (by intro h; injection h with h; omega))
        have HM6 : Hid (w4.ownsMap Tryz.prog 26 eI (w.heap.size + 1 + 1) (i + 1) (dCnt (codesL (l.take (i + 1))))) := Lib.hid (by rw [HP3.out]; exact hm4)
        have HB5 := Lib.hid (HB4.out.grown hg4 HZ3.out (by intro k h; injection h with h; omega))
        clear hm4 hg4 hl2 k0 k11
        go_wp2
        go_roundw
        case rel => exact ⟨i + 1, by omega, by go_num, HM5.out, HM6.out, HB5.out⟩
        case measure => simp [intOf]; omega
      · rw [if_neg he, List.append_nil] at HP2
        have k0 : w3.cell? ⟨w2.heap.size, 0, none⟩ = some (.int .i64 e.kind) := HK3.out.cell 0
        have d0 : (e.kind == 2) = false := by simpa using he
        clear he
        go_wp2
        go_roundw
        case rel => exact ⟨i + 1, by omega, by go_num, HM3.out, by rw [HP2.out]; exact HM4.out.mono (Nat.le_succ _), HB4.out⟩
        case measure => simp [intOf]; omega
    · have hin' : l.take i = l := List.take_of_length_le (by rw [HL.out]; omega)
      rw [hin'] at M1 M2
      have hi40 : i ≤ 40 := Nat.le_trans hi hn
      clear hin'
      go_wp2_with fail
      go_loopw [8, 39] (fun v8 v39 wr => ∃ k : Nat, k ≤ 10 ∧ v39 = .int .i64 k ∧ wr.ownsRow w2.heap.size 9 1 v8 (linesK l k).length (flat stC (linesK l k)) ∧ Below w2.heap.size w2 wr) (fun _ v39 _ => 10 - (intOf v39).toNat)
      case atStart => exact ⟨0, by decide, rfl, ⟨rfl, .inl ⟨rfl, rfl⟩⟩, Below.refl _ _⟩
      case round =>
        obtain ⟨w5, hw5⟩ : ∃ w5, w5 = wr := ⟨_, rfl⟩
        subst hw5
        obtain ⟨k, hk, rfl, hown, hbel⟩ := hrel
        have HOW := Lib.hid hown
        have HB5 := Lib.hid hbel
        have HZ5 : Hid (w2.heap.size ≤ w5.heap.size) := Lib.hid hbel.size
        clear hown hbel
        by_cases hk10 : k < 10
        · obtain ⟨wd, hwd⟩ : ∃ wd, wordsL.getD k ⟨#[]⟩ = wd := ⟨_, rfl⟩
          have HWD := Lib.hid hwd
          have hws : wd.size ≤ 9 := by rw [← hwd]; exact words_size hk10
          have kW : w5.cell? ⟨w.heap.size, k, none⟩ = some (.string wd) := ((HKW.out.below (below_next HB.out HB5.out HZ.out) (Nat.lt_succ_self _)).cell k).trans (by rw [words_at hk10, hwd])
          obtain ⟨q, hq⟩ : ∃ q, cntK l (k : Int) = q := ⟨_, rfl⟩
          have HQ := Lib.hid hq
          have hq40 : q ≤ 40 := by rw [← hq]; have := cntK_le l (k : Int); rw [HL.out] at this; omega
          have HLK : Hid (∀ W : World, Below w2.heap.size w2 W → (Instr.lookup 59 (.map (some (w.heap.size + 1))) (.int .i64 (k : Int)) false).run Tryz.prog W = .ok (.int .i64 (q : Int)) W) := Lib.hid fun W hW => by rw [look_k (map_below M1.out hW HLT1.out) (int_wf (by omega) (by omega)), ← cntK_count, hq]
          have ka : (0 : Int) ≤ (k : Int) := by omega
          have kb : (k : Int) < 10 := by omega
          have hl5 := HLK.out _ HB5.out
          clear hwd hq
          by_cases hq : 0 < q
          · have dq : decide (0 < q) = true := by simpa using hq
            have dq2 : decide ((0 : Int) < (q : Int)) = true := by simp; omega
            obtain ⟨t, ht⟩ : ∃ t : ByteArray, t = itoaS q := ⟨_, rfl⟩
            have HD : Hid (∀ W : World, Tab W → Calls Tryz.prog 11 #[.int .i64 q] W fun e w' => e = .returned (.string t) ∧ Below W.heap.size W w') := Lib.hid fun W hW => by rw [ht]; exact itoa_any q (by omega) (by omega) W hW
            have HTB : Hid (∀ W : World, Below w2.heap.size w2 W → Tab W) := Lib.hid fun W hW => HT.out.below (below_next (bx_below HB.out) hW (Nat.le_of_succ_le HZ.out)) (Nat.le_refl _)
            have hts : t.size ≤ 19 := by rw [ht, itoaS_nat]; exact dec_small (by omega)
            have hsz3 : ¬ (9223372036854775807 < wd.size + 2) := by omega
            have hsz4 : ¬ (9223372036854775807 < wd.size + 2 + t.size) := by omega
            have HN : Hid (linesK l (k + 1) = linesK l k ++ [wd ++ ⟨#[58, 32]⟩ ++ t]) := Lib.hid (by rw [linesK_succ, HQ.out, if_pos hq, HWD.out, ht]; unfold kLine; rfl)
            have HLN : Hid ((linesK l k).length ≤ 10) := Lib.hid (Nat.le_trans (linesK_len l k) hk)
            have XON : Hid (∀ u ∈ ([.string (wd ++ ⟨#[58, 32]⟩ ++ t)] : List Value), u.oneCell' = true) := Lib.hid (by intro u hu; simp at hu; subst hu; rfl)
            have ZS : Hid (((.string ⟨#[]⟩) : Value).cells.size = 1) := Lib.hid rfl
            have Z1 : Hid (0 < 1) := Lib.hid (by decide)
            have Mb : Hid ((linesK l k).length + 1 ≤ maxLen) := Lib.hid (by have := HLN.out; simp only [maxLen]; omega)
            have Bb : Hid (((linesK l k).length + 1) * 16 ≤ 140737488355328) := Lib.hid (by have := HLN.out; omega)
            clear ht hts hq
            go_wp2_with fail
            refine (HD.out _ (HTB.out _ HB5.out)).mono ?_
            rintro e w9 ⟨rfl, hb9⟩
            have HO9 := Lib.hid (own_below HOW.out hb9)
            have HX9 := Lib.hid (below_next HB5.out hb9 HZ5.out)
            have HZ9 : Hid (w2.heap.size ≤ w9.heap.size) := Lib.hid (Nat.le_trans HZ5.out hb9.size)
            clear hb9
            go_wp2_with (at_builtin; go_must (refine wpList_app _ rfl _ _ 34 rfl w2.heap.size 9 i0 _ 1 16 Tryz.underlying34 hi0 hz0 hz1 hz2 rfl (by decide) _ _ _ rfl (HO9.out.alloc _) _ _ 1 1 [.string (wd ++ ⟨#[58, 32]⟩ ++ t)] rfl (rd_new w9 [.string (wd ++ ⟨#[58, 32]⟩ ++ t)] 9 1 1 rfl) XON.out Mb.out Bb.out (Nat.le_trans HZ9.out (alloc_le _ _)) ?_))
            intro v8 w10 ho hg _
            have HX10 := Lib.hid ((HX9.out.alloc HZ9.out _).grown hg (Nat.le_trans HZ9.out (alloc_le _ _)) (own_row HOW.out (Nat.le_refl _)))
            have HO10 : Hid (w10.ownsRow w2.heap.size 9 1 v8 (linesK l (k + 1)).length (flat stC (linesK l (k + 1)))) := Lib.hid (by rw [HN.out, flat_app, flat_one, List.length_append]; exact ho)
            clear ho hg
            go_wp2
            go_roundw
            case rel => exact ⟨k + 1, by omega, by go_num, HO10.out, HX10.out⟩
            case measure => simp [intOf]; omega
          · have hq0 : q = 0 := by omega
            subst hq0
            have HN : Hid (linesK l (k + 1) = linesK l k) := Lib.hid (by rw [linesK_succ, HQ.out, if_neg hq, List.append_nil])
            go_wp2
            go_roundw
            case rel => exact ⟨k + 1, by omega, by go_num, by rw [HN.out]; exact HOW.out, HB5.out⟩
            case measure => simp [intOf]; omega
        · have hk' : k = 10 := by omega
          subst hk'
          go_wp2_with fail
          refine (keys_call _ _).mono ?_
          rintro e w6 ⟨rfl, rfl⟩
          have M3 := Lib.hid (map_below M2.out HB5.out HLT2.out)
          have HSZ : Hid (Maps.size (dCnt (codesL l)) ≤ 40) := Lib.hid (Nat.le_trans M2.out.size_le hi40)
          have HSC := Lib.hid (sorted_call _ _ _ _ w5 M3.out (by have := HSZ.out; simp only [maxLen]; omega) (by have := HSZ.out; omega))
          obtain ⟨s, hs⟩ : ∃ s, setB [] (codesL l) = s := ⟨_, rfl⟩
          have HSS := Lib.hid hs
          obtain ⟨m, hm⟩ : ∃ m, s.length = m := ⟨_, rfl⟩
          have HM := Lib.hid hm
          have hm40 : m ≤ 40 := by rw [← hm, ← hs]; have h1 := setB_len (codesL l) []; have h2 := codesL_len l; rw [HL.out] at h2; simp at h1; omega
          have HRG : Hid (∀ c ∈ s, (Lit.int .i64 c).wf = true) := Lib.hid fun c h => code_wf (fun e he => (HOK.out e he).2) (by rw [hs]; exact h)
          have HST : Hid (Calls Tryz.prog 12 #[.func (.func 36) #[] #[.pointer (some ⟨w5.heap.size, 0, none⟩)]] (w5.alloc (.cells #[.map (some (w.heap.size + 1 + 1))] 60)) fun e w' => ∃ A c, e = .returned (.slice A m c) ∧ w'.ownsRow (w5.heap.size + 1) 26 1 (.slice A m c) m (flat iC s) ∧ Below (w5.heap.size + 1) (w5.alloc (.cells #[.map (some (w.heap.size + 1 + 1))] 60)) w') := Lib.hid (by
            refine HSC.out.mono ?_
            rintro e w6 ⟨v, ss, rfl, hp, hrow, _, hb6⟩
            have hks := keys_set M3.out hp
            have hln : ss.length = m := by rw [← hm, ← hs, ← hks, List.length_mergeSort]
            rw [hks, hs, flat_ints, hln, alloc_size] at hrow
            rw [alloc_size] at hb6
            obtain ⟨A, c, rfl, _, _⟩ := own_form hrow
            exact ⟨A, c, rfl, hrow, hb6⟩)
          clear HSC hs hm
          go_wp2_with (go_at_call 12; refine HST.out.mono ?_; rintro e w6 ⟨A9, c9, rfl, ho9, hb9⟩; have HO9 := Lib.hid ho9; have HB6 := Lib.hid ((HB5.out.alloc HZ5.out (.cells #[.map (some (w.heap.size + 1 + 1))] 60)).trans (hb9.mono (Nat.le_succ_of_le HZ5.out))); have HOW6 := Lib.hid (own_below (HOW.out.alloc (.cells #[.map (some (w.heap.size + 1 + 1))] 60)) (by rw [alloc_size]; exact hb9)); clear ho9 hb9)
          have HL0 : Hid (w6.ownsRow w2.heap.size 9 1 u8 (linesK l 10 ++ linesC l (s.take 0)).length (flat stC (linesK l 10 ++ linesC l (s.take 0)))) := Lib.hid (by rw [show linesC l (s.take 0) = [] from rfl, List.append_nil]; exact HOW6.out)
          clear HOW6 HST
          go_loopw [8, 63] (fun v8 v63 wx => ∃ k : Nat, k ≤ m ∧ v63 = .int .i64 k ∧ wx.ownsRow w2.heap.size 9 1 v8 (linesK l 10 ++ linesC l (s.take k)).length (flat stC (linesK l 10 ++ linesC l (s.take k))) ∧ wx.ownsRow (w5.heap.size + 1) 26 1 (.slice A9 m c9) m (flat iC s) ∧ Below w2.heap.size w2 wx) (fun _ v63 _ => m - (intOf v63).toNat)
          case atStart => exact ⟨0, Nat.zero_le _, rfl, HL0.out, HO9.out, HB6.out⟩
          case round =>
            obtain ⟨w7, hw7⟩ : ∃ w7, w7 = wr := ⟨_, rfl⟩
            subst hw7
            obtain ⟨k, hk, rfl, hown, hos, hbel⟩ := hrel
            have HO7 := Lib.hid hown
            have HS7 := Lib.hid hos
            have HB7 := Lib.hid hbel
            have HZ7 : Hid (w2.heap.size ≤ w7.heap.size) := Lib.hid hbel.size
            have HLN7 : Hid ((linesK l 10 ++ linesC l (s.take k)).length ≤ 60) := Lib.hid (by rw [List.length_append, linesC_len, List.length_take]; have := linesK_len l 10; omega)
            clear hown hos hbel HL0 HO9 HB6
            by_cases hkm : k < m
            · have SS7 := Lib.hid (Sl.of_own (f := iC) (k := 1) iC_len (by decide) HS7.out)
              obtain ⟨bs, os, c1, hA9, hbs, hgs, hcs⟩ := Sl.cell (f := iC) (k := 1) iC_len SS7.out hkm
              have hc0 := hcs 0 _ rfl
              simp only [Nat.add_zero, Nat.mul_one] at hc0
              have HGS := Lib.hid hgs
              have hwf := HRG.out c1 (List.mem_of_getElem? hgs)
              have hcr : -9223372036854775808 ≤ c1 ∧ c1 ≤ 9223372036854775807 := int_rng hwf
              obtain ⟨q, hq⟩ : ∃ q, (codesL l).count c1 = q := ⟨_, rfl⟩
              have HQ := Lib.hid hq
              have hq40 : q ≤ 40 := by rw [← hq]; have h1 := List.count_le_length (a := c1) (l := codesL l); have h2 := codesL_len l; rw [HL.out] at h2; omega
              have HLK : Hid (∀ W : World, Below w2.heap.size w2 W → (Instr.lookup 60 (.map (some (w.heap.size + 1 + 1))) (.int .i64 c1) false).run Tryz.prog W = .ok (.int .i64 (q : Int)) W) := Lib.hid fun W hW => by rw [look_c (map_below M2.out hW HLT2.out) hwf, hq]
              have ka : (0 : Int) ≤ (k : Int) := by omega
              have kb : (k : Int) < (m : Int) := by omega
              subst hA9
              clear hcs hgs hbs hq
              go_wp2_with fail
              obtain ⟨t1, ht1⟩ : ∃ t : ByteArray, t = itoaS c1 := ⟨_, rfl⟩
              obtain ⟨t2, ht2⟩ : ∃ t : ByteArray, t = itoaS q := ⟨_, rfl⟩
              have HD1 : Hid (∀ W : World, Tab W → Calls Tryz.prog 11 #[.int .i64 c1] W fun e w' => e = .returned (.string t1) ∧ Below W.heap.size W w') := Lib.hid fun W hW => by rw [ht1]; exact itoa_any c1 hcr.1 hcr.2 W hW
              have HD2 : Hid (∀ W : World, Tab W → Calls Tryz.prog 11 #[.int .i64 q] W fun e w' => e = .returned (.string t2) ∧ Below W.heap.size W w') := Lib.hid fun W hW => by rw [ht2]; exact itoa_any q (by omega) (by omega) W hW
              have HTB : Hid (∀ W : World, Below w2.heap.size w2 W → Tab W) := Lib.hid fun W hW => HT.out.below (below_next (bx_below HB.out) hW (Nat.le_of_succ_le HZ.out)) (Nat.le_refl _)
              have hts2 : t2.size ≤ 19 := by rw [ht2, itoaS_nat]; exact dec_small (by omega)
              have hts1 : t1.size ≤ 21 := by rw [ht1]; exact itoa_size hcr.1 hcr.2
              have z1 : ¬ (9223372036854775807 < 5 + t1.size) := by omega
              have z2 : ¬ (9223372036854775807 < 5 + t1.size + 2) := by omega
              have z3 : ¬ (9223372036854775807 < 5 + t1.size + 2 + t2.size) := by omega
              have HN : Hid (linesK l 10 ++ linesC l (s.take (k + 1)) = (linesK l 10 ++ linesC l (s.take k)) ++ [(⟨#[99, 111, 100, 101, 32]⟩ ++ t1 ++ ⟨#[58, 32]⟩ ++ t2)]) := Lib.hid (by rw [take_step HGS.out, linesC_snoc, HQ.out, ht1, ht2, List.append_assoc]; rfl)
              have XON : Hid (∀ u ∈ ([.string (⟨#[99, 111, 100, 101, 32]⟩ ++ t1 ++ ⟨#[58, 32]⟩ ++ t2)] : List Value), u.oneCell' = true) := Lib.hid (by intro u hu; simp only [List.mem_singleton] at hu; subst hu; rfl)
              have ZS : Hid (((.string ⟨#[]⟩) : Value).cells.size = 1) := Lib.hid rfl
              have Z1 : Hid (0 < 1) := Lib.hid (by decide)
              have Mb : Hid ((linesK l 10 ++ linesC l (s.take k)).length + 1 ≤ maxLen) := Lib.hid (by have := HLN7.out; simp only [maxLen]; omega)
              have Bb : Hid (((linesK l 10 ++ linesC l (s.take k)).length + 1) * 16 ≤ 140737488355328) := Lib.hid (by have := HLN7.out; omega)
              clear ht1 ht2 hts1 hts2 hwf hcr hc0
              go_region_held3 (fun w' => (Instr.lookup 60 (.map (some (w.heap.size + 1 + 1))) (.int .i64 c1) false).run Tryz.prog w' = .ok (.int .i64 (q : Int)) w') (first | exact HLK.out _ HB7.out.drew | exact HLK.out _ HX8.out | exact HLK.out _ HX9.out | exact HLK.out _ (HX9.out.alloc HZ9.out _) | exact HLK.out _ HX10.out) (first | (go_at_call 11; refine (HD1.out _ (HTB.out _ HB7.out.drew)).mono ?_; rintro e w8 ⟨rfl, hb8⟩; have HX8 := Lib.hid (below_next HB7.out.drew hb8 HZ7.out); have HO8 := Lib.hid (own_below (own_drew HO7.out) hb8); have HS8 := Lib.hid (own_below (own_drew HS7.out) hb8); have HZ8 : Hid (w2.heap.size ≤ w8.heap.size) := Lib.hid (Nat.le_trans HZ7.out hb8.size); clear hb8) | (go_at_call 11; refine (HD2.out _ (HTB.out _ HX8.out)).mono ?_; rintro e w9 ⟨rfl, hb9⟩; have HX9 := Lib.hid (below_next HX8.out hb9 HZ8.out); have HO9 := Lib.hid (own_below HO8.out hb9); have HS9 := Lib.hid (own_below HS8.out hb9); have HZ9 : Hid (w2.heap.size ≤ w9.heap.size) := Lib.hid (Nat.le_trans HZ8.out hb9.size); clear hb9) | (refine step_app _ (by rfl) (.tmp 67) (.tmp 77) 34 (by rfl) w2.heap.size 9 i0 (.string ⟨#[]⟩) 1 16 Tryz.underlying34 hi0 hz0 hz1 hz2 ZS.out Z1.out u8 (linesK l 10 ++ linesC l (s.take k)).length (flat stC (linesK l 10 ++ linesC l (s.take k))) (by rfl) (HO9.out.alloc _) _ _ 1 1 [.string (⟨#[99, 111, 100, 101, 32]⟩ ++ t1 ++ ⟨#[58, 32]⟩ ++ t2)] (by rfl) (rd_new w9 [.string (⟨#[99, 111, 100, 101, 32]⟩ ++ t1 ++ ⟨#[58, 32]⟩ ++ t2)] 9 1 1 rfl) XON.out Mb.out Bb.out (by exact Nat.le_trans HZ9.out (alloc_le _ _)) ?_; intro v8 w10 ho hg _; have HX10 := Lib.hid ((HX9.out.alloc HZ9.out _).grown hg (Nat.le_trans HZ9.out (alloc_le _ _)) (own_row HO7.out (Nat.le_refl _))); have HS10 := Lib.hid ((HS9.out.alloc _).kept hg (own_apart HS9.out HO9.out (by decide))); have HO10 : Hid (w10.ownsRow w2.heap.size 9 1 v8 (linesK l 10 ++ linesC l (s.take (k + 1))).length (flat stC (linesK l 10 ++ linesC l (s.take (k + 1))))) := Lib.hid (by rw [HN.out, flat_app, flat_one, List.length_append]; exact ho); clear ho hg))
              all_goals
                go_wp2
                go_roundw
                case rel => exact ⟨k + 1, by omega, by go_num, HO10.out, HS10.out, HX10.out⟩
                case measure => simp [intOf]; omega
            · have HALL : Hid (linesK l 10 ++ linesC l (s.take k) = sumL l) := Lib.hid (by rw [List.take_of_length_le (by rw [HM.out]; omega)]; unfold sumL; rw [HSS.out])
              rw [HALL.out] at HO7
              obtain ⟨A7, c7, hv7, _, _⟩ := own_form HO7.out
              subst hv7
              have HSL := Lib.hid (Sl.of_own (f := stC) (k := 1) stC_len (by decide) HO7.out)
              go_wp2
              go_ret
              exact ⟨A7, c7, rfl, HSL.out, below_next (bx_below HB.out) HB7.out (Nat.le_of_succ_le HZ.out)⟩
end Go.Proofs.YtpklgdclknicjaaGreatDoor
