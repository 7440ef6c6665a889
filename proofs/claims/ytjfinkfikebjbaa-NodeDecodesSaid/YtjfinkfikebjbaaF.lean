/- The form of a node, and the contract of Size. -/
import Derived.Test.YtjfinkfikebjbaaE
namespace Go.Proofs.Ytjfinkfikebjbaa
open Go.RowKit

/-- entry i in the form -/
def entL (es : List Ent) (i : Nat) : List UInt8 :=
  [UInt8.ofNat (frE es i), UInt8.ofNat ((entAt es i).1.size - frE es i)] ++ (entAt es i).1.data.toList.drop (frE es i) ++ fourL (entAt es i).2.toNat
def entsL (es : List Ent) (n : Nat) : List UInt8 := (List.range n).flatMap (entL es)
def headL (lv nx : Int) (n : Nat) : List UInt8 := UInt8.ofNat lv.toNat :: (fourL nx.toNat ++ [UInt8.ofNat n])
def formL (lv nx : Int) (es : List Ent) : List UInt8 := headL lv nx es.length ++ entsL es es.length

theorem entsL_succ (es : List Ent) (n : Nat) : entsL es (n + 1) = entsL es n ++ entL es n := by simp [entsL, List.range_succ]
theorem frE_le (es : List Ent) (i : Nat) : frE es i ≤ (entAt es i).1.size := (front_le _ _).2
theorem entL_len (es : List Ent) (i : Nat) : (entL es i).length = 6 + (entAt es i).1.size - frE es i := by
  have := frE_le es i
  simp only [entL, fourL, List.length_append, List.length_cons, List.length_nil, List.length_drop, ba_len]; omega
theorem headL_len (lv nx : Int) (n : Nat) : (headL lv nx n).length = 6 := rfl
theorem entsL_len_le {es : List Ent} (hz : ∀ e ∈ es, e.1.size ≤ 100) : ∀ n, (entsL es n).length ≤ n * 106
  | 0 => by simp [entsL]
  | n + 1 => by
    have := entsL_len_le hz n
    have h2 := entL_len es n
    have h3 : (entAt es n).1.size ≤ 100 := by
      unfold entAt
      rw [List.getD_eq_getElem?_getD]
      cases h : es[n]? with
      | none => exact Nat.zero_le _
      | some e => exact hz e (List.mem_of_getElem? h)
    rw [entsL_succ, List.length_append]; omega
def sizeI (lv nx : Int) (es : List Ent) : Int := if plainB lv nx es then ((formL lv nx es).length : Int) else 0

theorem bx_from {w wr : World} {cs : Array Value} {t : TypeId} (h : Below (w.alloc (.cells cs t)).heap.size (w.alloc (.cells cs t)) wr) : Below (w.heap.size + 1) (w.alloc (.cells cs t)) wr := by simpa using h
theorem es_alloc {w : World} {A : Option Addr} {n c : Nat} {es : List Ent} (h : Es w w.heap.size A n c es) (o : Obj) : Es (w.alloc o) (w.alloc o).heap.size A n c es := h.after ((Below.refl _ _).alloc (Nat.le_refl _) _)
theorem rd_after {w w' : World} {size : Nat} {A : Option Addr} {n : Nat} {xs : List Value} (h : Rd w w.heap.size size A n xs) (hb : Below w.heap.size w w') : Rd w' w'.heap.size size A n xs := (h.below hb).more hb.size
theorem plain_is {lv nx : Int} {A : Option Addr} {n c : Nat} {es : List Ent} {w : World} {q : Bool} (hq : plainB lv nx es = q) (hs : Es w w.heap.size A n c es) (hn : n ≤ 9223372036854775807) :
    Calls Try.prog 37 #[.agg #[.int .i64 lv, .int .i64 nx, .slice A n c]] w fun e w' => e = .returned (.bool q) ∧ Below w.heap.size w w' := by
  rw [← hq]; exact plain_any lv nx A n c es w hs hn
theorem plain_yes {lv nx : Int} {es : List Ent} (h : plainB lv nx es = true) : 1 ≤ es.length ∧ es.length ≤ 120 ∧ 0 ≤ lv ∧ lv ≤ 6 ∧ 0 ≤ nx ∧ nx ≤ 16777216 ∧ ∀ i, i < es.length → entB es i = true := by
  unfold plainB at h
  simp only [Bool.and_eq_true, headB, decide_eq_true_eq, List.all_eq_true, List.mem_range] at h
  exact ⟨h.1.1, h.1.2.1, h.1.2.2.1, h.1.2.2.2.1, h.1.2.2.2.2.1, h.1.2.2.2.2.2, h.2⟩

set_option maxRecDepth 100000 in
set_option maxHeartbeats 2000000 in
theorem size_any (lv nx : Int) (A : Option Addr) (n c : Nat) (es : List Ent) (w : World) (hs : Es w w.heap.size A n c es) (hn : n ≤ 200) (hz : ∀ e ∈ es, e.1.size ≤ 100) :
    Calls Try.prog 19 #[.agg #[.int .i64 lv, .int .i64 nx, .slice A n c]] w fun e w' => e = .returned (.int .i64 (sizeI lv nx es)) ∧ Below w.heap.size w w' := by
  have HS := Lib.hid hs
  have HL := Lib.hid hs.len
  clear hs
  cases hp : plainB lv nx es with
  | false =>
    have hsz : sizeI lv nx es = 0 := by unfold sizeI; rw [hp]; rfl
    have HP := Lib.hid hp
    rw [hsz]
    clear hp hsz
    go_enter Try.func19, Try.ntmps19
    go_wp2_with fail
    refine (plain_is HP.out (es_alloc HS.out _) (by omega)).mono ?_
    rintro e w1 ⟨rfl, hb1⟩
    have hb := bx_from hb1
    clear hb1
    go_wp2
    go_ret
    exact ⟨rfl, bx_below hb⟩
  | true =>
    have hsz : sizeI lv nx es = ((6 + (entsL es n).length : Nat) : Int) := by unfold sizeI formL; rw [hp, List.length_append, headL_len, HL.out]; rfl
    have HSZ := Lib.hid hsz
    have HP := Lib.hid hp
    clear hp hsz
    go_enter Try.func19, Try.ntmps19
    go_wp2_with fail
    refine (plain_is HP.out (es_alloc HS.out _) (by omega)).mono ?_
    rintro e w1 ⟨rfl, hb1⟩
    have hb := bx_from hb1
    have hbx := bx_cell hb 2
    simp only [List.getElem?_toArray, List.getElem?_cons_succ, List.getElem?_cons_zero] at hbx
    have hes := Es.after HS.out (bx_below hb)
    have HES := Lib.hid hes
    clear hb1 hes
    go_wp2_with fail
    refine (fronts_any A n c es w1 HES.out hn hz).mono ?_
    rintro e w2 ⟨A2, rfl, hr2, hb2⟩
    have hbb := below_next hb hb2 (bx_size hb)
    have hbx2 := bx_cell hbb 2
    simp only [List.getElem?_toArray, List.getElem?_cons_succ, List.getElem?_cons_zero] at hbx2
    have hes := Es.after HES.out hb2
    have HES := Lib.hid hes
    have HR := Lib.hid (Rd.of_own hr2)
    have HB := Lib.hid hbb
    clear hes hr2 hb2 hbb hb hbx
    go_wp2
    go_loop [3, 13] (fun v i => ∃ j : Nat, j ≤ n ∧ i = .int .i64 j ∧ v = .int .i64 ((6 + (entsL es j).length : Nat) : Int)) (fun _ i => n - (intOf i).toNat)
    case atStart => exact ⟨0, Nat.zero_le _, rfl, rfl⟩
    case round =>
      obtain ⟨j, hj, rfl, rfl⟩ := hrel
      have hlj := entsL_len_le hz j
      by_cases hlt : j < n
      · obtain ⟨b, o, x, p, rfl, hb, hg, hc, _⟩ := HES.out.cell hlt
        obtain ⟨b2, o2, u, rfl, hb2, hu, hc2⟩ := HR.out.at_ hlt
        obtain rfl : u = .int .i64 (frE es j) := by
          unfold frCells at hu
          rw [List.getElem?_map, List.getElem?_range hlt] at hu
          injection hu with hu; exact hu.symm
        have hx : x.size ≤ 100 := hz _ (List.mem_of_getElem? hg)
        have he := entAt_get hg
        have hl2 := entL_len es j
        have hl3 := frE_le es j
        have hl4 : (entsL es (j + 1)).length = (entsL es j).length + (6 + x.size - frE es j) := by rw [entsL_succ, List.length_append, hl2, he]
        rw [he] at hl3
        have hl5 : frE es j ≤ x.size := hl3
        have HL4 := Lib.hid hl4
        generalize frE es j = f at *
        generalize (entsL es j).length = L at *
        clear hg he hl2 hl4 hu
        go_wp2
        go_round
        case rel => exact ⟨j + 1, by omega, by go_num, by rw [HL4.out]; congr 1; omega⟩
        case measure => simp [intOf]; omega
      · obtain rfl : j = n := by omega
        go_wp2
        go_ret
        exact ⟨by rw [HSZ.out]; rfl, bx_below HB.out⟩
end Go.Proofs.Ytjfinkfikebjbaa
