/- Contract of Encode. -/
import Derived.Test.YtjfinkfikebjbaaF
import Derived.Test.YtjfinkfikebjbaaShelf
import Derived.Deep.DeepCutAuto
namespace Go.Proofs.Ytjfinkfikebjbaa
open Go.RowKit
attribute [local go_sem ↓] Go.wp_at_zero Go.wp_at_succ

theorem Try.info5 : (Try.prog.info? 5).map (fun i => (i.zero, i.size, i.bytes)) = some (some (.int .u8 0), 1, 1) := by kernel_rfl

def okE (z lv nx : Int) (es : List Ent) : Bool := szB z && plainB lv nx es && decide (((formL lv nx es).length : Int) ≤ z)
def encE (z lv nx : Int) (es : List Ent) : Int := if szB z && plainB lv nx es then (if ((formL lv nx es).length : Int) ≤ z then 0 else 8) else 1
def encL (z lv nx : Int) (es : List Ent) : List UInt8 := formL lv nx es ++ List.replicate (z.toNat - (formL lv nx es).length) 0
def encS (z lv nx : Int) (es : List Ent) : ByteArray := if okE z lv nx es then ⟨(encL z lv nx es).toArray⟩ else ⟨#[]⟩

theorem bytes_one (l : List UInt8) : ∀ u ∈ Lib.byteCells l, u.oneCell' = true := by
  intro u hu
  simp only [Lib.byteCells, List.mem_map] at hu
  obtain ⟨b, _, rfl⟩ := hu
  rfl

/-- the bytes that Encode has gathered, in a row of the call's own -/
def Bts (w : World) (base : Nat) (v : Value) (l : List UInt8) : Prop := w.ownsRow base 5 1 v l.length (Lib.byteCells l)

theorem rd_four (w : World) (p : Nat) : Rd (w.alloc (.cells (Lib.byteCells (fourL p)).toArray 5)) (w.heap.size + 1) 1 (some ⟨w.heap.size, 0, none⟩) 4 (Lib.byteCells (fourL p)) := by
  refine ⟨rfl, fun _ => ⟨w.heap.size, 0, rfl, by omega, fun j u hu => ?_⟩⟩
  rw [World.cell?_alloc_at _ _ _ _ rfl]
  simpa using hu
theorem four_one (p : Nat) : (Lib.byteCells (fourL p)).length = 4 := rfl

theorem first_a (w2 : World) (base : Nat) (u : Value) (p : Nat) (hb : base ≤ w2.heap.size) :
    (((w2.alloc (.cells #[u] 5)).alloc (.cells (Lib.byteCells (fourL p)).toArray 5)).drew).ownsRow base 5 1 (.slice (some ⟨w2.heap.size, 0, none⟩) 1 1) 1 [u] ∧
    Rd (((w2.alloc (.cells #[u] 5)).alloc (.cells (Lib.byteCells (fourL p)).toArray 5)).drew) (w2.heap.size + 2) 1 (some ⟨w2.heap.size + 1, 0, none⟩) 4 (Lib.byteCells (fourL p)) := by
  refine ⟨((World.ownsRow_lit w2 #[u] 1 hb (by decide) rfl).alloc _).drew, ?_⟩
  have := rd_four (w2.alloc (.cells #[u] 5)) p
  simp only [World.size_alloc] at this
  exact this
theorem first_b (w2 : World) (base : Nat) (u : Value) (p : Nat) (hb : base ≤ w2.heap.size) :
    (((w2.alloc (.cells (Lib.byteCells (fourL p)).toArray 5)).alloc (.cells #[u] 5)).drew).ownsRow base 5 1 (.slice (some ⟨w2.heap.size + 1, 0, none⟩) 1 1) 1 [u] ∧
    Rd (((w2.alloc (.cells (Lib.byteCells (fourL p)).toArray 5)).alloc (.cells #[u] 5)).drew) (w2.heap.size + 2) 1 (some ⟨w2.heap.size, 0, none⟩) 4 (Lib.byteCells (fourL p)) := by
  constructor
  · have := World.ownsRow_lit (base := base) (e := 5) (size := 1) (w2.alloc (.cells (Lib.byteCells (fourL p)).toArray 5)) #[u] 1 (by simp; omega) (by decide) rfl
    simp only [World.size_alloc] at this
    exact this.drew
  · exact (((rd_four w2 p).alloc (by simp) _).more (by omega)).drew

theorem two_one (a b : Int) : ∀ u ∈ [Value.int .u8 a, Value.int .u8 b], u.oneCell' = true := by
  intro u hu
  simp at hu
  rcases hu with rfl | rfl <;> rfl
theorem alloc_le (w : World) (o : Obj) : w.heap.size ≤ (w.alloc o).heap.size := by simp
theorem far_own {w : World} {base : Nat} {e : TypeId} {size n g : Nat} {v : Value} {xs : List Value} (h : w.ownsRow base e size v n xs) (hg : g < base) : some g ≠ v.ownBlock := fun e => by
  have := (h.lt _ e.symm).1; omega
theorem cv_own {w : World} {base g n cap : Nat} {l : List UInt8} (hl : l.length = n) (h : w.ownsRow base 5 1 (.slice (some ⟨g, 0, none⟩) n cap) n (Lib.byteCells l)) :
    (convert 56 9 (.slice (some ⟨g, 0, none⟩) n cap)).run Try.prog w = .ok (.string ⟨l.toArray⟩) w := by
  refine conv_str w g 0 n cap l hl (fun j u hu => ?_)
  have := h.cells (g := g) rfl j u hu
  rwa [add_is] at this
theorem repeat_zero (k : Nat) : Lib.repeatL [0] k = List.replicate k 0 := by
  induction k with
  | zero => rfl
  | succ k ih => rw [Lib.repeatL, ih]; rfl
theorem below_next2 {B : Nat} {a w w' : World} (h : Below B a w) (k : Below B w w') : Below B a w' := h.trans k

set_option maxRecDepth 100000 in
set_option maxHeartbeats 4000000 in
theorem encode_ok (z lv nx : Int) (A : Option Addr) (n c : Nat) (es : List Ent) (w : World) (hs : Es w w.heap.size A n c es) (hsz : szB z = true) (hp : plainB lv nx es = true) (hle : ((formL lv nx es).length : Int) ≤ z) (hz : ∀ e ∈ es, e.1.size ≤ 32) :
    Calls Try.prog 17 #[.int .i64 z, .agg #[.int .i64 lv, .int .i64 nx, .slice A n c]] w fun e w' => e = .returned (.tuple #[.string ⟨(encL z lv nx es).toArray⟩, .int .i64 0]) ∧ Below w.heap.size w w' := by
  obtain ⟨i0, hi0, hz0, hz1, hz2⟩ := info_parts Try.info5
  have hln := hs.len
  obtain ⟨g1, g2, g3, g4, g5, g6, g7⟩ := plain_yes hp
  rw [hln] at g1 g2
  have hz3 : z ≤ 512 := by unfold szB at hsz; simp at hsz; omega
  have hsi : sizeI lv nx es = ((formL lv nx es).length : Int) := by unfold sizeI; rw [hp]; rfl
  obtain ⟨F, hF⟩ : ∃ F, (formL lv nx es).length = F := ⟨_, rfl⟩
  rw [hF] at hle hsi
  have HF := Lib.hid hF
  have HSI := Lib.hid hsi
  have HS := Lib.hid hs
  have HL := Lib.hid hln
  have HSZ := Lib.hid hsz
  have HP := Lib.hid hp
  have HZ : ∀ e ∈ es, e.1.size ≤ 100 := fun e he => by have := hz e he; omega
  have HZ100 := Lib.hid HZ
  have G7 := Lib.hid g7
  have hdz : decide (z < (F : Int)) = false := by simp; omega
  obtain ⟨lvn, rfl⟩ := Int.eq_ofNat_of_zero_le g3
  obtain ⟨nxn, rfl⟩ := Int.eq_ofNat_of_zero_le g5
  clear hs hln hsz hp hF hsi g7 HZ
  go_enter Try.func17, Try.ntmps17
  go_wp2_with fail
  refine (isSize_any z _).mono ?_
  rintro e w' ⟨rfl, rfl⟩
  rw [HSZ.out]
  go_wp2_with fail
  refine (plain_is HP.out (es_alloc HS.out _) (by omega)).mono ?_
  rintro e w1 ⟨rfl, hb1⟩
  have hb := bx_from hb1
  have q0 := bx_cell hb 0
  have q1 := bx_cell hb 1
  have q2 := bx_cell hb 2
  simp only [List.getElem?_toArray, List.getElem?_cons_succ, List.getElem?_cons_zero] at q0 q1 q2
  have HES := Lib.hid (Es.after HS.out (bx_below hb))
  clear hb1
  go_wp2_with fail
  refine (size_any lvn nxn A n c es w1 HES.out (by omega) HZ100.out).mono ?_
  rintro e w2 ⟨rfl, hb2⟩
  have hbb := below_next hb hb2 (bx_size hb)
  rw [HSI.out]
  have q0 := bx_cell hbb 0
  have q1 := bx_cell hbb 1
  have q2 := bx_cell hbb 2
  simp only [List.getElem?_toArray, List.getElem?_cons_succ, List.getElem?_cons_zero] at q0 q1 q2
  have HES := Lib.hid (Es.after HES.out hb2)
  have hsz2 := bx_size hbb
  have HBB := Lib.hid hbb
  clear hb2 hb hbb
  go_upto_region 5 with (fail)
  go_cut [6] (fun s6 wx => Bts wx (w.heap.size + 1) s6 (UInt8.ofNat lvn :: fourL nxn) ∧ Below (w.heap.size + 1) w2 wx)
  case first =>
    have n1 : w.heap.size < w2.heap.size := by omega
    have n2 : w.heap.size < w2.heap.size + 1 := by omega
    have hw8 : IntKind.u8.wrap (lvn : Int) = (lvn : Int) := by rw [IntKind.wrap_u8]; omega
    have HOA := Lib.hid (first_a w2 (w.heap.size + 1) (.int .u8 lvn) nxn (by omega))
    have HOB := Lib.hid (first_b w2 (w.heap.size + 1) (.int .u8 lvn) nxn (by omega))
    go_region_held3 (fun w' => w'.cell? ⟨w.heap.size, 0, none⟩ = some (.int .i64 lvn) ∧ w'.cell? ⟨w.heap.size, 1, none⟩ = some (.int .i64 nxn)) (first | go_keep | (go_split_ands; refine ⟨?_, ?_⟩ <;> (rw [hg5.cell_far _ (by simp; omega) (by simp [Value.ownBlock]; omega)]; simp [*]))) (first | (refine step_app _ (by rfl) _ _ 56 (by rfl) (w.heap.size + 1) 5 i0 (.int .u8 0) 1 1 Try.underlying56 hi0 hz0 hz1 hz2 rfl (by decide) (.slice (some ⟨w2.heap.size, 0, none⟩) 1 1) 1 [.int .u8 lvn] (by rfl) HOA.out.1 (w2.heap.size + 2) (some ⟨w2.heap.size + 1, 0, none⟩) 4 4 (Lib.byteCells (fourL nxn)) (by rfl) HOA.out.2 (bytes_one _) (by decide) (by decide) (by simp; omega) ?_; intro v5 w5 ho5 hg5 _) | (refine step_app _ (by rfl) _ _ 56 (by rfl) (w.heap.size + 1) 5 i0 (.int .u8 0) 1 1 Try.underlying56 hi0 hz0 hz1 hz2 rfl (by decide) (.slice (some ⟨w2.heap.size + 1, 0, none⟩) 1 1) 1 [.int .u8 lvn] (by rfl) HOB.out.1 (w2.heap.size + 2) (some ⟨w2.heap.size, 0, none⟩) 4 4 (Lib.byteCells (fourL nxn)) (by rfl) HOB.out.2 (bytes_one _) (by decide) (by decide) (by simp; omega) ?_; intro v5 w5 ho5 hg5 _) | (go_at_call 38; refine (four_any nxn _ (by omega)).mono ?_; rintro e w' ⟨rfl, rfl⟩))
    all_goals
      go_wp2_with fail
      go_meet
      refine ⟨?_, ?_⟩
      · unfold Bts
        have e8 : (UInt8.ofNat lvn).toNat = lvn := by rw [UInt8.toNat_ofNat']; omega
        rw [show Lib.byteCells (UInt8.ofNat lvn :: fourL nxn) = [.int .u8 lvn] ++ Lib.byteCells (fourL nxn) from by simp [Lib.byteCells, e8]]
        exact ho5
      · exact ((((Below.refl _ _).alloc hsz2 _).alloc (by simp; omega) _).drew).grown hg5 (by simp; omega) (by intro k hk; simp [Value.ownBlock] at hk; omega)
  case rest =>
    obtain ⟨hbt, hbw⟩ := hcut
    have hbb := below_next2 HBB.out hbw
    have q0 := bx_cell hbb 0
    have q1 := bx_cell hbb 1
    have q2 := bx_cell hbb 2
    simp only [List.getElem?_toArray, List.getElem?_cons_succ, List.getElem?_cons_zero] at q0 q1 q2
    have hsz3 := bx_size hbb
    have HBW := Lib.hid hbb
    have hbt' : _ := hbt
    unfold Bts at hbt'
    have HBT := Lib.hid hbt'
    clear hbt hbw hbb hbt'
    go_wp2_with (at_builtin; go_must (refine wpList_append_own _ rfl _ _ 56 rfl (w.heap.size + 1) 5 i0 (.int .u8 0) 1 1 Try.underlying56 hi0 hz0 hz1 hz2 rfl (by decide) _ _ _ rfl (HBT.out.alloc _) ⟨wc.heap.size, 0, none⟩ 1 1 [.int .u8 n] rfl rfl (cell_one_new _ _ _) ?c2 ?c3 ?c4 ?c5 ?_))
    case c2 => intro u hu; simp at hu; subst hu; rfl
    case c3 => simp only [List.length_cons, maxLen]; have := four_one nxn; simp [Lib.byteCells] at this; omega
    case c4 => simp only [List.length_cons]; have := four_one nxn; simp [Lib.byteCells] at this; omega
    case c5 => simp; omega
    intro v6 w6 hown6 hg6 _
    have hb6 := below_push HBW.out HBT.out (Nat.le_refl _) hsz3 hg6
    have q0 := bx_cell hb6 0
    have q1 := bx_cell hb6 1
    have q2 := bx_cell hb6 2
    simp only [List.getElem?_toArray, List.getElem?_cons_succ, List.getElem?_cons_zero] at q0 q1 q2
    have hb62 := hb6
    have hsz6 := bx_size hb6
    have hown6' : Bts w6 (w.heap.size + 1) v6 (headL lvn nxn n) := by
      unfold Bts
      have e8 : (UInt8.ofNat n).toNat = n := by rw [UInt8.toNat_ofNat']; omega
      have e9 : Lib.byteCells (headL lvn nxn n) = Lib.byteCells (UInt8.ofNat lvn :: fourL nxn) ++ [.int .u8 n] := by simp [Lib.byteCells, headL, e8]
      rw [e9]; exact hown6
    have HES := Lib.hid (Es.after HS.out (bx_below hb6))
    have HB6 := Lib.hid hb6
    have HO6 := Lib.hid hown6'
    clear hown6 hown6' hg6 hb6 hb62
    go_wp2_with fail
    refine (fronts_any A n c es w6 HES.out (by omega) HZ100.out).mono ?_
    rintro e w7 ⟨A7, rfl, hr7, hb7⟩
    have hbb7 := below_next HB6.out hb7 hsz6
    have q0 := bx_cell hbb7 0
    have q1 := bx_cell hbb7 1
    have q2 := bx_cell hbb7 2
    simp only [List.getElem?_toArray, List.getElem?_cons_succ, List.getElem?_cons_zero] at q0 q1 q2
    have hr7' := hr7
    have hO7 : Bts w7 (w.heap.size + 1) v6 (headL lvn nxn n) := own_below HO6.out hb7
    have HO7 := Lib.hid hO7
    have HR7 := Lib.hid hr7
    have HB7 := Lib.hid hbb7
    have HES7 := Lib.hid (Es.after HES.out hb7)
    have hsz7 := bx_size hbb7
    clear hO7 hr7 hr7' hb7 hbb7
    go_wp2
    go_loopw [6, 43] (fun v i wr => ∃ j : Nat, j ≤ n ∧ i = .int .i64 j ∧ Bts wr (w.heap.size + 1) v (headL lvn nxn n ++ entsL es j) ∧ wr.ownsRow w6.heap.size 3 1 (.slice A7 n n) n (frCells es n) ∧ Below (w.heap.size + 1) (w.alloc (.cells #[.int .i64 lvn, .int .i64 nxn, .slice A n c] 25)) wr) (fun _ i _ => n - (intOf i).toNat)
    case atStart => exact ⟨0, Nat.zero_le _, rfl, by simpa [entsL] using HO7.out, HR7.out, HB7.out⟩
    case round =>
      obtain ⟨j, hj, rfl, hbt, hfr, hbel⟩ := hrel
      have hszr := bx_size hbel
      have q2 := bx_cell hbel 2
      simp only [List.getElem?_toArray, List.getElem?_cons_succ, List.getElem?_cons_zero] at q2
      have hlj := entsL_len_le HZ100.out j
      by_cases hlt : j < n
      · have hesr := Es.below HS.out (bx_below hbel)
        obtain ⟨b, o, x, p, rfl, hb, hg, hc, hc2⟩ := hesr.cell hlt
        obtain ⟨b2, o2, u, rfl, hb2, hu, hc3⟩ := (Rd.of_own hfr).at_ hlt
        obtain rfl : u = .int .i64 (frE es j) := by
          unfold frCells at hu
          rw [List.getElem?_map, List.getElem?_range hlt] at hu
          injection hu with hu; exact hu.symm
        have hx : x.size ≤ 32 := hz _ (List.mem_of_getElem? hg)
        have he := entAt_get hg
        have hl3 := frE_le es j
        rw [he] at hl3
        have hl5 : frE es j ≤ x.size := hl3
        have hpg : 1 ≤ p ∧ p ≤ 16777216 := by
          have := G7.out j (by rw [HL.out]; exact hlt)
          unfold entB at this
          rw [he] at this
          simp only [Bool.and_eq_true, decide_eq_true_eq] at this
          exact ⟨this.1.1.1.1, this.1.1.1.2⟩
        obtain ⟨pn, rfl⟩ := Int.eq_ofNat_of_zero_le (show 0 ≤ p by omega)
        have hent : entL es j = [UInt8.ofNat (frE es j), UInt8.ofNat (x.size - frE es j)] ++ (x.extract (frE es j) x.size).data.toList ++ fourL pn := by
          unfold entL; rw [he, ba_extract]
          simp only [Int.toNat_natCast]
          rw [List.take_of_length_le (by rw [List.length_drop, ba_len]; omega)]
        have hxl : (x.extract (frE es j) x.size).size = x.size - frE es j := by rw [ByteArray.size_extract]; omega
        obtain ⟨T, hT⟩ : ∃ T, headL lvn nxn n ++ entsL es j = T := ⟨_, rfl⟩
        have hTl : T.length ≤ 20000 := by rw [← hT, List.length_append, headL_len]; omega
        rw [hT] at hbt
        have hT2 : headL lvn nxn n ++ entsL es (j + 1) = T ++ entL es j := by rw [entsL_succ, ← hT, List.append_assoc]
        rw [hent] at hT2
        have HT2 := Lib.hid hT2
        have HBEL := Lib.hid hbel
        have HFR := Lib.hid hfr
        have HXL := Lib.hid hxl
        have hbt' : _ := hbt
        unfold Bts at hbt'
        have HBT := Lib.hid hbt'
        generalize frE es j = f at *
        clear hbt hbt' hfr hbel hg he hl3 hent hxl hT hT2 hu hesr
        have f1 : (f : Int) ≤ (x.size : Int) := by omega
        have s1 : T.length + 2 ≤ maxLen := by simp only [maxLen]; omega
        have s2 : (T.length + 2) * 1 ≤ 140737488355328 := by omega
        have s3 : w.heap.size + 1 ≤ (wr.alloc (.cells #[.int .u8 (f : Int), .int .u8 ((x.size - f : Nat) : Int)] 5)).heap.size := by simp; omega
        go_upto_region 12 with (at_builtin; go_must (refine wpList_app _ rfl _ _ 56 rfl (w.heap.size + 1) 5 i0 (.int .u8 0) 1 1 Try.underlying56 hi0 hz0 hz1 hz2 rfl (by decide) _ _ _ rfl (HBT.out.alloc _) (wr.heap.size + 1) (some ⟨wr.heap.size, 0, none⟩) 2 2 [.int .u8 f, .int .u8 ((x.size - f : Nat) : Int)] rfl (rd_new wr [.int .u8 f, .int .u8 ((x.size - f : Nat) : Int)] 5 2 1 rfl) (two_one _ _) s1 s2 s3 ?_; intro v8 w8 ho8 hg8 _))
        have hbel8 := below_push HBEL.out HBT.out (Nat.le_refl _) hszr hg8
        have hfr8 := (HFR.out.alloc (.cells #[.int .u8 (f : Int), .int .u8 ((x.size - f : Nat) : Int)] 5)).kept hg8 (own_apart (HFR.out.alloc (.cells #[.int .u8 (f : Int), .int .u8 ((x.size - f : Nat) : Int)] 5)) (HBT.out.alloc _) (by decide))
        have q2 := bx_cell hbel8 2
        simp only [List.getElem?_toArray, List.getElem?_cons_succ, List.getElem?_cons_zero] at q2
        have hp8 : w8.cell? ⟨b, o + j * 2 + 1, none⟩ = some (.int .i64 pn) := by
          rw [← hc2, bx_old hbel8 (p := ⟨b, o + j * 2 + 1, none⟩) hb, bx_old HBEL.out (p := ⟨b, o + j * 2 + 1, none⟩) hb]
        have hsz8 := bx_size hbel8
        have HO8 := Lib.hid ho8
        have HB8 := Lib.hid hbel8
        have HF8 := Lib.hid hfr8
        clear ho8 hg8 hbel8 hfr8 hc hc2 hc3 s1 s2 s3
        have hv8a : some w.heap.size ≠ v8.ownBlock := fun e => by have := own_row HO8.out (Nat.le_refl _) _ e.symm; omega
        have hv8b : some b ≠ v8.ownBlock := fun e => by have := own_row HO8.out (Nat.le_refl _) _ e.symm; omega
        have hv8c : some w8.heap.size ≠ v8.ownBlock := fun e => by have := (HO8.out.lt _ e.symm).2; omega
        have n1 : w.heap.size < w8.heap.size := by omega
        have n2 : b < w8.heap.size := by omega
        have n3 : b < w8.heap.size + 1 := by omega
        have n4 : w.heap.size < w8.heap.size + 1 := by omega
        have j1 : (0 : Int) ≤ (j : Int) := by omega
        have j2 : (j : Int) < (n : Int) := by omega
        have hxl := HXL.out
        have s1 : T.length + 2 + (x.extract f x.size).size ≤ maxLen := by simp only [maxLen]; omega
        have s2 : T.length + 2 + (x.extract f x.size).size ≤ 140737488355328 := by omega
        have s4 : T.length + 2 + (x.extract f x.size).size + 4 ≤ maxLen := by simp only [maxLen]; omega
        have s5 : (T.length + 2 + (x.extract f x.size).size + 4) * 1 ≤ 140737488355328 := by omega
        have hpn : pn ≤ 16777216 := by omega
        generalize x.extract f x.size = r at *
        clear hxl
        go_region_held3 (fun w' => w'.cell? ⟨w.heap.size, 2, none⟩ = some (.slice (some ⟨b, o, none⟩) n c) ∧ w'.cell? ⟨b, o + j * 2 + 1, none⟩ = some (.int .i64 pn)) (first | go_keep | exact ⟨k10a, k10b⟩ | exact ⟨k9a, k9b⟩) (first | (refine step_apps _ (by rfl) _ _ 56 9 (by rfl) (w.heap.size + 1) 5 i0 Try.underlying56 Try.underlying9 hi0 hz0 hz1 hz2 v8 (T.length + 2) (Lib.byteCells T ++ [.int .u8 f, .int .u8 ((x.size - f : Nat) : Int)]) (by rfl) (by first | exact HO8.out | exact HO8.out.alloc _) r (by rfl) s1 s2 (by simp; omega) ?_; intro v9 w9 ho9 hg9; have n9 : w8.heap.size ≤ w9.heap.size := hg9.size; have n5 : w.heap.size < w9.heap.size := (Nat.lt_of_lt_of_le n1 n9); have n6 : b < w9.heap.size := (Nat.lt_of_lt_of_le n2 n9); have k9a := (hg9.cell_far ⟨w.heap.size, 2, none⟩ n1 hv8a).trans q2; have k9b := (hg9.cell_far ⟨b, o + j * 2 + 1, none⟩ n2 hv8b).trans hp8) | (refine step_app _ (by rfl) _ _ 56 (by rfl) (w.heap.size + 1) 5 i0 (.int .u8 0) 1 1 Try.underlying56 hi0 hz0 hz1 hz2 rfl (by decide) v9 (T.length + 2 + r.size) (Lib.byteCells T ++ [.int .u8 f, .int .u8 ((x.size - f : Nat) : Int)] ++ Lib.strCells r) (by rfl) (ho9.alloc _) (w9.heap.size + 1) (some ⟨w9.heap.size, 0, none⟩) 4 4 (Lib.byteCells (fourL pn)) (by rfl) (rd_four w9 pn) (bytes_one _) s4 s5 (by simp; omega) ?_; intro v10 w10 ho10 hg10 _; have k10a := ((hg10.cell_far ⟨w.heap.size, 2, none⟩ (Nat.lt_of_lt_of_le n5 (alloc_le _ _)) (far_own ho9 (Nat.lt_succ_self _))).trans (World.cell?_alloc_lt _ _ _ n5)).trans k9a; have k10b := ((hg10.cell_far ⟨b, o + j * 2 + 1, none⟩ (Nat.lt_of_lt_of_le n6 (alloc_le _ _)) (far_own ho9 (Nat.lt_succ_of_lt hb))).trans (World.cell?_alloc_lt _ _ _ n6)).trans k9b) | (go_at_call 38; refine (four_any pn _ hpn).mono ?_; rintro e w' ⟨rfl, rfl⟩))
        have hB9 := HB8.out.drew.grown hg9 hsz8 (own_row HO8.out (Nat.le_refl _))
        have hB10 := (hB9.alloc (by omega) _).grown hg10 (by simp; omega) (own_row ho9 (Nat.le_refl _))
        have hF9 := HF8.out.drew.kept hg9 (own_apart HF8.out HO8.out (by decide))
        have hF10 := (hF9.alloc (.cells (Lib.byteCells (fourL pn)).toArray 5)).kept hg10 (own_apart hF9 ho9 (by decide))
        have HO10 := Lib.hid ho10
        have HF10 := Lib.hid hF10
        have HB10 := Lib.hid hB10
        clear hB9 hB10 hF9 hF10 ho9 ho10 hg9 hg10 k9a k9b k10a k10b
        go_wp2
        go_roundw
        case rel =>
          refine ⟨j + 1, by omega, by go_num, ?_, HF10.out, HB10.out⟩
          rw [HT2.out]
          unfold Bts
          have e1 : (UInt8.ofNat f).toNat = f := by rw [UInt8.toNat_ofNat']; omega
          have e2 : (UInt8.ofNat (x.size - f)).toNat = x.size - f := by rw [UInt8.toNat_ofNat']; omega
          have e3 : Lib.byteCells (T ++ ([UInt8.ofNat f, UInt8.ofNat (x.size - f)] ++ r.data.toList ++ fourL pn)) = Lib.byteCells T ++ [.int .u8 f, .int .u8 ((x.size - f : Nat) : Int)] ++ Lib.strCells r ++ Lib.byteCells (fourL pn) := by
            simp [Lib.byteCells, Lib.strCells, e1, e2]
          have e4 : (T ++ ([UInt8.ofNat f, UInt8.ofNat (x.size - f)] ++ r.data.toList ++ fourL pn)).length = T.length + 2 + r.size + 4 := by
            simp only [List.length_append, List.length_cons, List.length_nil, ba_len, fourL]; omega
          rw [e3, e4]
          exact HO10.out
        case measure => simp [intOf]; omega
      · obtain rfl : j = n := by omega
        have hfl : headL lvn nxn j ++ entsL es j = formL lvn nxn es := by unfold formL; rw [HL.out]
        rw [hfl] at hbt
        have hlen := HF.out
        have hbt' : _ := hbt
        unfold Bts at hbt'
        rw [hlen] at hbt'
        have HBT := Lib.hid hbt'
        have HBEL := Lib.hid hbel
        clear hbt hbt' hbel hfl hlen hfr hlj
        have hFp : 6 ≤ F := by have := HF.out; unfold formL at this; rw [List.length_append, headL_len] at this; omega
        obtain ⟨g, cap, rfl, hg1, hg2, hg3⟩ := own_at HBT.out (by omega)
        obtain ⟨zn, rfl⟩ := Int.eq_ofNat_of_zero_le (show 0 ≤ z by omega)
        have z1 : IntKind.i64.wrap ((zn : Int) - (F : Int)) = ((zn - F : Nat) : Int) := by rw [IntWalk.i64_in _ (by omega)]; omega
        obtain ⟨K, hK⟩ : ∃ K, zn - F = K := ⟨_, rfl⟩
        rw [hK] at z1
        have hK2 : K ≤ 512 := by omega
        have HK := Lib.hid hK
        obtain ⟨fs, hfs⟩ : ∃ fs : ByteArray, fs = ⟨(formL lvn nxn es).toArray⟩ := ⟨_, rfl⟩
        obtain ⟨rs, hrs⟩ : ∃ rs : ByteArray, rs = ⟨(Lib.repeatL [0] K).toArray⟩ := ⟨_, rfl⟩
        have hf1 : fs.size ≤ 512 := by rw [hfs, ← ba_len]; simp only []; have := HF.out; omega
        have hr1 : rs.size ≤ 512 := by rw [hrs, ← ba_len]; have := Lib.repeatL_length [0] K; simp only [] at *; simp at this; omega
        have hrep : ∀ W : World, Calls Try.prog 40 #[.string ⟨#[0]⟩, .int .i64 K] W fun e w' => e = .returned (.string rs) ∧ Below W.heap.size W w' := by rw [hrs]; exact fun W => Try.strings_Repeat ⟨#[0]⟩ K W (by omega) (by show 1 * K ≤ _; omega)
        have hcv : ∀ W : World, W.ownsRow (w.heap.size + 1) 5 1 (.slice (some ⟨g, 0, none⟩) F cap) F (Lib.byteCells (formL lvn nxn es)) → (convert 56 9 (.slice (some ⟨g, 0, none⟩) F cap)).run Try.prog W = .ok (.string fs) W := by rw [hfs]; exact fun W h => cv_own HF.out h
        have hend : (⟨(encL zn lvn nxn es).toArray⟩ : ByteArray) = fs ++ rs := by
          apply ba_ext; rw [ba_app, hfs, hrs]; unfold encL; rw [HF.out, Int.toNat_natCast, HK.out, repeat_zero]
        have hsum : ¬ ((9223372036854775807 : Int) < (fs.size : Int) + (rs.size : Int)) := by omega
        have hadd : ∀ W : World, (binOp .add 9 (.string fs) (.string rs)).run Try.prog W = .ok (.string (fs ++ rs)) W := fun W => by
          have := run_string_add_sum (P := Try.prog) (w := W) fs rs (by omega)
          simpa [binOp] using this
        have HREP := Lib.hid hrep
        have HCV := Lib.hid hcv
        have HEND := Lib.hid hend
        clear hK hrep hcv hend hfs hrs
        go_wp2
        have hcv0 := HCV.out wr.drew HBT.out
        go_region_with (go_at_call 40; refine (HREP.out _).mono ?_; rintro e w11 ⟨rfl, hb11⟩; have hcv1 := HCV.out w11 (own_below HBT.out.drew hb11))
        all_goals
          go_wp2
          go_ret2
          exact ⟨by rw [HEND.out]; rfl, bx_below (below_next HBEL.out.drew hb11 hszr)⟩
end Go.Proofs.Ytjfinkfikebjbaa
