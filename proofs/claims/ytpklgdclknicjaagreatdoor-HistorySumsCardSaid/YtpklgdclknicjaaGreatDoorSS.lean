/- HistorySums: the reference's Set. Printed by wip/sums/gen_ss.py. -/
import Derived.Test.YtpklgdclknicjaaGreatDoorSA
import Derived.Test.YtpklgdclknicjaaGreatDoorAppend
import Derived.Test.YtpklgdclknicjaaGreatDoorBt
import Derived.Test.YtpklgdclknicjaaGreatDoorProg
import Derived.WalkSpells
import Derived.WalkLawsBesides
import Derived.Deep.QuietTactic
import Derived.BigQuiet
import Derived.Deep.RegionHeld3
import Derived.Lib.Hide
namespace Go.Proofs.YtpklgdclknicjaaGreatDoor
open Go.RowKit

def iC (z : Int) : List Value := [.int .i64 z]
theorem iC_len (z : Int) : (iC z).length = 1 := rfl
theorem iC_one (l : List Int) : ∀ u ∈ flat iC l, u.oneCell' = true := by
  intro u hu
  obtain ⟨c, _, h⟩ := List.mem_flatMap.1 hu
  simp [iC] at h
  subst h; rfl
theorem alloc_le (w : World) (o : Obj) : w.heap.size ≤ (w.alloc o).heap.size := by simp
theorem alloc_size (w : World) (o : Obj) : (w.alloc o).heap.size = w.heap.size + 1 := by simp
theorem own_drew {w : World} {base : Nat} {e : TypeId} {size n : Nat} {v : Value} {xs : List Value} (h : w.ownsRow base e size v n xs) : w.drew.ownsRow base e size v n xs := h
theorem own_low {w : World} {b b' : Nat} {e : TypeId} {size n : Nat} {v : Value} {xs : List Value} (h : w.ownsRow b e size v n xs) (hb : b' ≤ b) : w.ownsRow b' e size v n xs :=
  ⟨h.1, h.2.imp id fun ⟨g, cap, cur, h1, h2, h3⟩ => ⟨g, cap, cur, h1, Nat.le_trans hb h2, h3⟩⟩
theorem infoInt : (Tryz.prog.info? 3).map (fun i => (i.zero, i.size, i.bytes)) = some (some (.int .i64 0), 1, 8) := by kernel_rfl
theorem insS_at {x : Int} {l : List Int} {k : Nat} (hk : k ≤ l.length) (h1 : ∀ p, p < k → ∀ y, l[p]? = some y → y < x) (h2 : ∀ y, l[k]? = some y → x < y) : insS x l = l.take k ++ x :: l.drop k := by
  conv => lhs; rw [← List.take_append_drop k l]
  refine insS_split _ _ (fun y hy => ?_) (fun y hy => ?_)
  · obtain ⟨i, hi, rfl⟩ := List.getElem_of_mem hy
    rw [List.length_take] at hi
    rw [List.getElem_take]
    exact h1 i (by omega) _ (List.getElem?_eq_getElem _)
  · rw [List.head?_drop] at hy
    exact h2 y hy
theorem insS_in {x : Int} {l : List Int} {k : Nat} (hg : l[k]? = some x) (h1 : ∀ p, p < k → ∀ y, l[p]? = some y → y < x) : insS x l = l := by
  have hk := (List.getElem?_eq_some_iff.1 hg).1
  have hx : l[k] = x := (List.getElem?_eq_some_iff.1 hg).2
  have e : l = l.take k ++ x :: l.drop (k + 1) := by
    conv => lhs; rw [← List.take_append_drop k l, List.drop_eq_getElem_cons hk, hx]
  rw [e]
  refine insS_same _ _ fun y hy => ?_
  obtain ⟨i, hi, rfl⟩ := List.getElem_of_mem hy
  rw [List.length_take] at hi
  rw [List.getElem_take]
  exact h1 i (by omega) _ (List.getElem?_eq_getElem _)
set_option maxRecDepth 100000 in
theorem slice_fromI (W : World) (a : Option Addr) (j cap k : Nat) (hk : k ≤ j) : (Instr.slice 67 (.slice a j cap) (some (.int .i64 (k : Int))) none none).run Tryz.prog W = .ok (.slice (if cap = k then a else a.map (·.add (k * 1))) (j - k) (cap - k)) W := by
  have h := run_slice_l (P := Tryz.prog) (w := W) 67 a j cap Tryz.underlying67 .i64 (k : Int) (by omega) (by omega)
  rw [h, show Tryz.prog.elem 67 = 3 from by kernel_rfl, Tryz.sizeOf3 W]
  simp [Result.andThen, sliced]
/-- the call returns a slice that reads as these numbers -/
def GivesI (w : World) (l : List Int) (e : Ending) (w' : World) : Prop := ∃ A c, e = .returned (.slice A l.length c) ∧ w'.ownsRow w.heap.size 3 1 (.slice A l.length c) l.length (flat iC l) ∧ Below w.heap.size w w'

set_option maxRecDepth 100000 in
set_option maxHeartbeats 8000000 in
theorem rset_any (A : Option Addr) (n c : Nat) (l : List Int) (w : World) (hs : Sl iC 1 w w.heap.size A n c l) (hn : n ≤ 40) :
    Calls Tryz.prog 15 #[.slice A n c] w (GivesI w (setB [] l)) := by
  have HS := Lib.hid hs
  have HL := Lib.hid hs.len
  have HO1 := Lib.hid (World.ownsRow_lit (e := 3) (base := w.heap.size) (size := 1) w #[] 0 (Nat.le_refl _) (by decide) rfl)
  obtain ⟨i0, hi0, hz0, hz1, hz2⟩ := info_parts infoInt
  clear hs
  go_enter Tryz.func15, Tryz.ntmps15
  go_wp2
  go_loopw [3, 4] (fun v3 v4 wr => ∃ (i j g o cap : Nat), i ≤ n ∧ v4 = .int .i64 i ∧ v3 = .slice (some ⟨g, o, none⟩) j cap ∧ Hid ((setB [] (l.take i)).length = j) ∧ wr.ownsRow w.heap.size 3 1 (.slice (some ⟨g, o, none⟩) j cap) j (flat iC (setB [] (l.take i))) ∧ Below w.heap.size w wr) (fun _ v4 _ => n - (intOf v4).toNat)
  case atStart => exact ⟨0, 0, w.heap.size, 0, 0, Nat.zero_le _, rfl, rfl, Lib.hid rfl, HO1.out, (Below.refl _ _).alloc (Nat.le_refl _) _⟩
  case round =>
    obtain ⟨w1, hw1⟩ : ∃ w1, w1 = wr := ⟨_, rfl⟩
    subst hw1
    obtain ⟨i, j, g, o2, cap, hi, rfl, rfl, HJ, hown, hbel⟩ := hrel
    have HOW1 := Lib.hid hown
    have X1 := Lib.hid hbel
    have HJ40 : Hid (j ≤ 40) := Lib.hid (by have := setB_len (l.take i) []; rw [HJ.out] at this; simp at this; omega)
    have hj40 := HJ40.out
    clear hown hbel
    by_cases hlt : i < n
    · obtain ⟨b, o, x, rfl, hb, hg, hcell⟩ := Sl.cell (f := iC) (k := 1) iC_len HS.out hlt
      have hcw := hcell 0 _ rfl
      simp only [Nat.add_zero, Nat.mul_one] at hcw
      have HCELL := Lib.hid hcw
      have HG := Lib.hid hg
      have HBL := Lib.hid hb
      obtain ⟨outl, hout⟩ : ∃ outl, setB [] (l.take i) = outl := ⟨_, rfl⟩
      have HOUT := Lib.hid hout
      rw [hout] at HOW1 HJ
      have HOL : Hid (outl.length = j) := HJ
      have HSL := Lib.hid (Sl.of_own (f := iC) (k := 1) iC_len (by decide) HOW1.out)
      have hcap := HSL.out.cap
      have ia : (0 : Int) ≤ (i : Int) := by omega
      have ib : (i : Int) < (n : Int) := by omega
      clear hcell hcw hg hb hout HJ
      go_wp2_with fail
      go_loopw [5] (fun v5 wx => ∃ k : Nat, k ≤ j ∧ v5 = .int .i64 k ∧ Hid (∀ p, p < k → ∀ y, outl[p]? = some y → y < x) ∧ Below w1.heap.size w1 wx) (fun v _ => j - (intOf v).toNat)
      case atStart => exact ⟨0, Nat.zero_le _, rfl, Lib.hid fun p hp => absurd hp (by omega), Below.refl _ _⟩
      case round =>
        obtain ⟨k, hk, rfl, HF, hbx⟩ := hrel
        have HBX := Lib.hid hbx
        clear hbx
        by_cases hkj : k < j
        · obtain ⟨b2, o3, y, hA, hgl, hgy, hcy⟩ := Sl.cell (f := iC) (k := 1) iC_len (HSL.out.below HBX.out) hkj
          cases hA
          have BX := Lib.hid (below_next X1.out HBX.out X1.out.size)
          have y0 := hcy 0 _ rfl
          have c0 := (BX.out.cell (p := ⟨b, o + i, none⟩) HBL.out).trans HCELL.out
          simp only [Nat.add_zero, Nat.mul_one] at y0
          have HGY := Lib.hid hgy
          have HY0 := Lib.hid (show ∀ W : World, Below wr.heap.size wr W → W.cell? ⟨g, o2 + k, none⟩ = some (.int .i64 y) from fun W hW => (hW.cell (p := ⟨g, o2 + k, none⟩) (Nat.lt_of_lt_of_le hgl HBX.out.size)).trans y0)
          have HC0 := Lib.hid (show ∀ W : World, Below wr.heap.size wr W → W.cell? ⟨b, o + i, none⟩ = some (.int .i64 x) from fun W hW => (hW.cell (p := ⟨b, o + i, none⟩) (Nat.lt_of_lt_of_le HBL.out BX.out.size)).trans c0)
          have d1 : decide (k < j) = true := by simpa using hkj
          have d2 : decide ((k : Int) < (j : Int)) = true := by simp; omega
          have ka : (0 : Int) ≤ (k : Int) := by omega
          have kb : (k : Int) < (j : Int) := by omega
          clear hcy hgl hgy
          by_cases hyx : y < x
          · have d3 : decide (y < x) = true := by simpa using hyx
            have HYX := Lib.hid hyx
            clear hyx
            go_wp2_with fail
            go_quiet (fail)
            go_wp2
            go_roundw
            case rel => exact ⟨k + 1, by omega, by go_num, Lib.hid (fun p hp z hz => by by_cases h : p < k; exact HF.out p h z hz; (have : p = k := by omega); subst this; rw [HGY.out] at hz; cases hz; exact HYX.out), below_drewN HBX.out _⟩
            case measure => simp [intOf]; omega
          · have d3 : decide (y < x) = false := by simpa using hyx
            by_cases heq : y = x
            · have d4 : (y == x) = true := by simpa using heq
              have HSAME : Hid (setB [] (l.take (i + 1)) = outl) := Lib.hid (by rw [setB_take HG.out, HOUT.out]; exact insS_in (k := k) (by rw [HGY.out, heq]) HF.out)
              clear hyx
              subst heq
              clear d3 d4
              go_wp2_with fail
              go_quiet (fail)
              go_wp2_with fail
              have HB8 := Lib.hid (below_drewN HBX.out nq)
              have e0 := HY0.out _ (below_drewN (Below.refl wr.heap.size wr) nq)
              have e1 := HC0.out _ (below_drewN (Below.refl wr.heap.size wr) nq)
              clear y0 c0
              generalize wr.drewN nq = W8 at HB8 e0 e1 ⊢
              clear HBX
              go_quiet (fail)
              go_wp2
              go_roundw
              case rel => exact ⟨i + 1, j, g, o2, cap, by omega, by go_num, rfl, Lib.hid (by rw [HSAME.out]; exact HOL.out), by rw [HSAME.out]; exact own_below HOW1.out (below_drewN HB8.out _), below_drewN (below_next X1.out HB8.out X1.out.size) _⟩
              case measure => simp [intOf]; omega
            · have d4 : (y == x) = false := by simpa using heq
              have HF2 : Hid (∀ z, outl[k]? = some z → x < z) := Lib.hid fun z hz => by rw [HGY.out] at hz; cases hz; omega
              clear hyx heq
              go_wp2_with fail
              go_quiet (fail)
              go_wp2_with fail
              have HB8 := Lib.hid (below_drewN HBX.out nq)
              have e0 := HY0.out _ (below_drewN (Below.refl wr.heap.size wr) nq)
              have e1 := HC0.out _ (below_drewN (Below.refl wr.heap.size wr) nq)
              clear y0 c0
              generalize wr.drewN nq = W8 at HB8 e0 e1 ⊢
              go_quiet (fail)
              go_wp2_with fail
              have HB9 := Lib.hid (below_drewN HB8.out nq)
              generalize W8.drewN nq = W9 at HB9 ⊢
              clear HBX HB8 e0 e1
              have HLN : Hid ((setB [] (l.take (i + 1))).length = j + 1) := Lib.hid (by rw [setB_take HG.out, HOUT.out, insS_at (k := k) (by rw [HOL.out]; exact hk) HF.out HF2.out]; simp; have := HOL.out; omega)
              have HOW9 := Lib.hid (own_below HOW1.out HB9.out)
              have HR9 := Lib.hid (Rd.of_own HOW9.out)
              have hbs : w.heap.size ≤ W9.heap.size := Nat.le_trans X1.out.size HB9.out.size
              have HBS := Lib.hid hbs
              have HBL9 : Hid (b < W9.heap.size) := Lib.hid (Nat.lt_of_lt_of_le HBL.out hbs)
              have BX9 := Lib.hid (below_next X1.out HB9.out X1.out.size)
              have c0 := (BX9.out.cell (p := ⟨b, o + i, none⟩) HBL.out).trans HCELL.out
              have C9 := Lib.hid c0
              have HTK := Lib.hid (show Rd W9 W9.heap.size 1 (some ⟨g, o2, none⟩) (k) (flat iC (outl.take k)) from by rw [← flat_take iC_len]; exact HR9.out.take (by omega))
              obtain ⟨A7, hA7⟩ : ∃ A7 : Option Addr, (if cap = k then (some ⟨g, o2, none⟩ : Option Addr) else (some ⟨g, o2, none⟩ : Option Addr).map (·.add (k * 1))) = A7 := ⟨_, rfl⟩
              have HDR : Hid (Rd W9 W9.heap.size 1 A7 (j - k) (flat iC (outl.drop k))) := Lib.hid (by have h := HR9.out.drop (k := k) (cap := cap) hk hcap; rw [flat_drop iC_len, hA7] at h; exact h)
              have hsl : ∀ W : World, (Instr.slice 67 (.slice (some ⟨g, o2, none⟩) j cap) (some (.int .i64 (k : Int))) none none).run Tryz.prog W = .ok (.slice A7 (j - k) (cap - k)) W := fun W => by rw [← hA7]; exact slice_fromI W (some ⟨g, o2, none⟩) j cap k hk
              clear hA7
              have HLA : Hid ((W9.alloc (.cells #[] 3)).ownsRow W9.heap.size 3 1 (.slice (some ⟨W9.heap.size, 0, none⟩) 0 0) 0 []) := Lib.hid (World.ownsRow_lit (e := 3) (base := W9.heap.size) (size := 1) W9 #[] 0 (Nat.le_refl _) (by decide) rfl)
              have HLB := Lib.hid (HLA.out.alloc (.cells #[.int .i64 x] 3))
              have HLC : Hid (((W9.alloc (.cells #[.int .i64 x] 3)).alloc (.cells #[] 3)).ownsRow W9.heap.size 3 1 (.slice (some ⟨W9.heap.size + 1, 0, none⟩) 0 0) 0 []) := Lib.hid (by have h := World.ownsRow_lit (e := 3) (base := W9.heap.size) (size := 1) (W9.alloc (.cells #[.int .i64 x] 3)) #[] 0 (alloc_le _ _) (by decide) rfl; rwa [alloc_size] at h)
              have HTA := Lib.hid (HTK.out.alloc (Nat.le_refl _) (.cells #[] 3))
              have HTB := Lib.hid (HTA.out.alloc (alloc_le _ _) (.cells #[.int .i64 x] 3))
              have HTC := Lib.hid ((HTK.out.alloc (Nat.le_refl _) (.cells #[.int .i64 x] 3)).alloc (alloc_le _ _) (.cells #[] 3))
              have HBA := Lib.hid ((Below.refl W9.heap.size W9).alloc (Nat.le_refl _) (.cells #[] 3))
              have HBB := Lib.hid (HBA.out.alloc (alloc_le _ _) (.cells #[.int .i64 x] 3))
              have HBC := Lib.hid (((Below.refl W9.heap.size W9).alloc (Nat.le_refl _) (.cells #[.int .i64 x] 3)).alloc (alloc_le _ _) (.cells #[] 3))
              have RXB : Hid (Rd ((W9.alloc (.cells #[] 3)).alloc (.cells #[.int .i64 x] 3)) (W9.heap.size + 1 + 1) 1 (some ⟨W9.heap.size + 1, 0, none⟩) 1 [.int .i64 x]) := Lib.hid (by have h := rd_new (W9.alloc (.cells #[] 3)) [.int .i64 x] 3 1 1 rfl; rwa [alloc_size] at h)
              have RXC : Hid (Rd ((W9.alloc (.cells #[.int .i64 x] 3)).alloc (.cells #[] 3)) (W9.heap.size + 1) 1 (some ⟨W9.heap.size, 0, none⟩) 1 [.int .i64 x]) := Lib.hid ((rd_new W9 [.int .i64 x] 3 1 1 rfl).alloc (by simp) _)
              have XON : Hid (∀ u ∈ ([.int .i64 x] : List Value), u.oneCell' = true) := Lib.hid (by intro u hu; simp at hu; subst hu; rfl)
              have HT1 := Lib.hid (iC_one (outl.take (k)))
              have HD1 := Lib.hid (iC_one (outl.drop k))
              have EQ : Hid (([] ++ (flat iC (outl.take k))) ++ [.int .i64 x] ++ (flat iC (outl.drop k)) = flat iC (setB [] (l.take (i + 1)))) := Lib.hid (by rw [setB_take HG.out, HOUT.out, insS_at (k := k) (by rw [HOL.out]; exact hk) HF.out HF2.out, flat_app, flat_cons]; simp [iC])
              clear HR9 c0
              have kb0 : (0 : Int) ≤ (k : Int) := by omega
              have kb1 : (k : Int) ≤ (j : Int) := by omega
              have kb2 : (k : Int) ≤ (cap : Int) := by omega
              have c0 := C9.out
              have NEB : Hid (some (W9.heap.size + 1) ≠ (Value.slice (some ⟨W9.heap.size, 0, none⟩) 0 0).ownBlock) := Lib.hid (by simp [Value.ownBlock])
              have NEC : Hid (some W9.heap.size ≠ (Value.slice (some ⟨W9.heap.size + 1, 0, none⟩) 0 0).ownBlock) := Lib.hid (by simp [Value.ownBlock])
              have LTB : Hid (W9.heap.size + 1 < ((W9.alloc (.cells #[] 3)).alloc (.cells #[.int .i64 x] 3)).heap.size) := Lib.hid (by simp)
              have LTC : Hid (W9.heap.size < ((W9.alloc (.cells #[.int .i64 x] 3)).alloc (.cells #[] 3)).heap.size) := Lib.hid (by simp; omega)
              have NK : Hid (0 + k + 1 + (j - k) = j + 1) := Lib.hid (by omega)
              have ZS : Hid (((.int .i64 0) : Value).cells.size = 1) := Lib.hid rfl
              have Z4 : Hid (0 < 1) := Lib.hid (by decide)
              have Ma : Hid (0 + k ≤ maxLen) := Lib.hid (by simp only [maxLen]; omega)
              have Ba : Hid ((0 + k) * 8 ≤ 140737488355328) := Lib.hid (by omega)
              have Mb : Hid (0 + k + 1 ≤ maxLen) := Lib.hid (by simp only [maxLen]; omega)
              have Bb : Hid ((0 + k + 1) * 8 ≤ 140737488355328) := Lib.hid (by omega)
              have Mc : Hid (0 + k + 1 + (j - k) ≤ maxLen) := Lib.hid (by simp only [maxLen]; omega)
              have Bc : Hid ((0 + k + 1 + (j - k)) * 8 ≤ 140737488355328) := Lib.hid (by omega)
              go_region_held3 (fun w' => w'.cell? ⟨b, o + i, none⟩ = some (.int .i64 x)) (first | go_keep | exact p0 | exact q0 | exact r0) (first | (have _t := Y6; refine step_app _ (by rfl) (.tmp 55) (.tmp 58) 67 (by rfl) W9.heap.size 3 i0 (.int .i64 0) 1 8 Tryz.underlying67 hi0 hz0 hz1 hz2 ZS.out Z4.out v6 (0 + k + 1) (([] ++ (flat iC (outl.take k))) ++ [.int .i64 x]) (by rfl) (by with_reducible exact HO6.out) _ A7 (j - k) (cap - k) (flat iC (outl.drop k)) (by rfl) (by with_reducible exact (HDR.out.below HB6.out)) HD1.out Mc.out Bc.out (by exact HB6.out.size) ?_; intro v7 w7 ho7 hg7 _; have HB7 := Lib.hid (HB6.out.grown hg7 HB6.out.size (own_row HO6.out (Nat.le_refl _))); have ho8 := own_low ho7 HBS.out; rw [EQ.out, NK.out] at ho8; have HO8 := Lib.hid ho8; have r0 := (HB7.out.cell (p := ⟨b, o + i, none⟩) HBL9.out).trans C9.out; clear ho7 ho8 hg7) | (have _t := YA; refine step_app _ (by rfl) (.tmp 49) (.tmp 54) 67 (by rfl) W9.heap.size 3 i0 (.int .i64 0) 1 8 Tryz.underlying67 hi0 hz0 hz1 hz2 ZS.out Z4.out v5 (0 + k) ([] ++ (flat iC (outl.take k))) (by rfl) (by with_reducible exact (HO5.out.alloc _)) _ (some ⟨w5.heap.size, 0, none⟩) 1 1 [.int .i64 x] (by rfl) (by with_reducible exact (rd_new w5 [.int .i64 x] 3 1 1 rfl)) XON.out Mb.out Bb.out (by exact (Nat.le_trans HB5.out.size (alloc_le _ _))) ?_; intro v6 w6 ho6 hg6 _; have HB6 := Lib.hid ((HB5.out.alloc HB5.out.size _).grown hg6 (Nat.le_trans HB5.out.size (alloc_le _ _)) (own_row HO5.out (Nat.le_refl _))); have HO6 := Lib.hid ho6; have q0 := (HB6.out.cell (p := ⟨b, o + i, none⟩) HBL9.out).trans C9.out; have Y6 : True := trivial; clear ho6 hg6) | (have _t := YB; refine step_app _ (by rfl) (.tmp 49) (.tmp 54) 67 (by rfl) W9.heap.size 3 i0 (.int .i64 0) 1 8 Tryz.underlying67 hi0 hz0 hz1 hz2 ZS.out Z4.out v5 (0 + k) ([] ++ (flat iC (outl.take k))) (by rfl) (by with_reducible exact HO5.out) _ (some ⟨W9.heap.size + 1, 0, none⟩) 1 1 [.int .i64 x] (by rfl) (by with_reducible exact RX.out) XON.out Mb.out Bb.out (by exact HB5.out.size) ?_; intro v6 w6 ho6 hg6 _; have HB6 := Lib.hid (HB5.out.grown hg6 HB5.out.size (own_row HO5.out (Nat.le_refl _))); have HO6 := Lib.hid ho6; have q0 := (HB6.out.cell (p := ⟨b, o + i, none⟩) HBL9.out).trans C9.out; have Y6 : True := trivial; clear ho6 hg6) | (have _t := YC; refine step_app _ (by rfl) (.tmp 49) (.tmp 54) 67 (by rfl) W9.heap.size 3 i0 (.int .i64 0) 1 8 Tryz.underlying67 hi0 hz0 hz1 hz2 ZS.out Z4.out v5 (0 + k) ([] ++ (flat iC (outl.take k))) (by rfl) (by with_reducible exact HO5.out) _ (some ⟨W9.heap.size, 0, none⟩) 1 1 [.int .i64 x] (by rfl) (by with_reducible exact RX.out) XON.out Mb.out Bb.out (by exact HB5.out.size) ?_; intro v6 w6 ho6 hg6 _; have HB6 := Lib.hid (HB5.out.grown hg6 HB5.out.size (own_row HO5.out (Nat.le_refl _))); have HO6 := Lib.hid ho6; have q0 := (HB6.out.cell (p := ⟨b, o + i, none⟩) HBL9.out).trans C9.out; have Y6 : True := trivial; clear ho6 hg6) | (refine step_app _ (by rfl) (.tmp 45) (.tmp 48) 67 (by rfl) W9.heap.size 3 i0 (.int .i64 0) 1 8 Tryz.underlying67 hi0 hz0 hz1 hz2 ZS.out Z4.out (.slice (some ⟨W9.heap.size, 0, none⟩) 0 0) 0 [] (by rfl) (by with_reducible exact (own_drew HLA.out)) _ (some ⟨g, o2, none⟩) k cap (flat iC (outl.take k)) (by rfl) (by with_reducible exact HTA.out.drew) HT1.out Ma.out Ba.out (by exact HBA.out.drew.size) ?_; intro v5 w5 ho5 hg5 _; have HB5 := Lib.hid (HBA.out.drew.grown hg5 HBA.out.drew.size (own_row HLA.out (Nat.le_refl _))); have HO5 := Lib.hid ho5; have p0 := (HB5.out.cell (p := ⟨b, o + i, none⟩) HBL9.out).trans C9.out; have YA : True := trivial; clear ho5 hg5) | (refine step_app _ (by rfl) (.tmp 45) (.tmp 48) 67 (by rfl) W9.heap.size 3 i0 (.int .i64 0) 1 8 Tryz.underlying67 hi0 hz0 hz1 hz2 ZS.out Z4.out (.slice (some ⟨W9.heap.size, 0, none⟩) 0 0) 0 [] (by rfl) (by with_reducible exact (own_drew HLB.out)) _ (some ⟨g, o2, none⟩) k cap (flat iC (outl.take k)) (by rfl) (by with_reducible exact HTB.out.drew) HT1.out Ma.out Ba.out (by exact HBB.out.drew.size) ?_; intro v5 w5 ho5 hg5 _; have HB5 := Lib.hid (HBB.out.drew.grown hg5 HBB.out.drew.size (own_row HLB.out (Nat.le_refl _))); have HO5 := Lib.hid ho5; have p0 := (HB5.out.cell (p := ⟨b, o + i, none⟩) HBL9.out).trans C9.out; have RX := Lib.hid (rd_far RXB.out.drew hg5 LTB.out NEB.out); have YB : True := trivial; clear ho5 hg5) | (refine step_app _ (by rfl) (.tmp 45) (.tmp 48) 67 (by rfl) W9.heap.size 3 i0 (.int .i64 0) 1 8 Tryz.underlying67 hi0 hz0 hz1 hz2 ZS.out Z4.out (.slice (some ⟨W9.heap.size + 1, 0, none⟩) 0 0) 0 [] (by rfl) (by with_reducible exact (own_drew HLC.out)) _ (some ⟨g, o2, none⟩) k cap (flat iC (outl.take k)) (by rfl) (by with_reducible exact HTC.out.drew) HT1.out Ma.out Ba.out (by exact HBC.out.drew.size) ?_; intro v5 w5 ho5 hg5 _; have HB5 := Lib.hid (HBC.out.drew.grown hg5 HBC.out.drew.size (own_row HLC.out (Nat.le_refl _))); have HO5 := Lib.hid ho5; have p0 := (HB5.out.cell (p := ⟨b, o + i, none⟩) HBL9.out).trans C9.out; have RX := Lib.hid (rd_far RXC.out.drew hg5 LTC.out NEC.out); have YC : True := trivial; clear ho5 hg5))
              all_goals
                obtain ⟨g7, cap7, hv7, _, _⟩ := own_at HO8.out (Nat.succ_pos _)
                subst hv7
                go_wp2
                go_roundw
                case rel => exact ⟨i + 1, j + 1, g7, 0, cap7, by omega, by go_num, rfl, HLN, HO8.out, below_next X1.out (HB9.out.trans (HB7.out.mono HB9.out.size)) X1.out.size⟩
                case measure => simp [intOf]; omega
        · have d1 : decide (k < j) = false := by simp; omega
          have d2 : decide ((k : Int) < (j : Int)) = false := by simp; omega
          have HF2 : Hid (∀ z, outl[k]? = some z → x < z) := Lib.hid fun z hz => by have := (List.getElem?_eq_some_iff.1 hz).1; rw [HOL.out] at this; omega
          go_wp2_with fail
          go_quiet (fail)
          go_wp2_with fail
          have HB8 := Lib.hid (below_drewN HBX.out nq)
          generalize wr.drewN nq = W8 at HB8 ⊢
          go_quiet (fail)
          go_wp2_with fail
          have HB9 := Lib.hid (below_drewN HB8.out nq)
          generalize W8.drewN nq = W9 at HB9 ⊢
          clear HBX HB8
          have HLN : Hid ((setB [] (l.take (i + 1))).length = j + 1) := Lib.hid (by rw [setB_take HG.out, HOUT.out, insS_at (k := k) (by rw [HOL.out]; exact hk) HF.out HF2.out]; simp; have := HOL.out; omega)
          have HOW9 := Lib.hid (own_below HOW1.out HB9.out)
          have HR9 := Lib.hid (Rd.of_own HOW9.out)
          have hbs : w.heap.size ≤ W9.heap.size := Nat.le_trans X1.out.size HB9.out.size
          have HBS := Lib.hid hbs
          have HBL9 : Hid (b < W9.heap.size) := Lib.hid (Nat.lt_of_lt_of_le HBL.out hbs)
          have BX9 := Lib.hid (below_next X1.out HB9.out X1.out.size)
          have c0 := (BX9.out.cell (p := ⟨b, o + i, none⟩) HBL.out).trans HCELL.out
          have C9 := Lib.hid c0
          have HTK := Lib.hid (show Rd W9 W9.heap.size 1 (some ⟨g, o2, none⟩) (k) (flat iC (outl.take k)) from by rw [← flat_take iC_len]; exact HR9.out.take (by omega))
          obtain ⟨A7, hA7⟩ : ∃ A7 : Option Addr, (if cap = k then (some ⟨g, o2, none⟩ : Option Addr) else (some ⟨g, o2, none⟩ : Option Addr).map (·.add (k * 1))) = A7 := ⟨_, rfl⟩
          have HDR : Hid (Rd W9 W9.heap.size 1 A7 (j - k) (flat iC (outl.drop k))) := Lib.hid (by have h := HR9.out.drop (k := k) (cap := cap) hk hcap; rw [flat_drop iC_len, hA7] at h; exact h)
          have hsl : ∀ W : World, (Instr.slice 67 (.slice (some ⟨g, o2, none⟩) j cap) (some (.int .i64 (k : Int))) none none).run Tryz.prog W = .ok (.slice A7 (j - k) (cap - k)) W := fun W => by rw [← hA7]; exact slice_fromI W (some ⟨g, o2, none⟩) j cap k hk
          clear hA7
          have HLA : Hid ((W9.alloc (.cells #[] 3)).ownsRow W9.heap.size 3 1 (.slice (some ⟨W9.heap.size, 0, none⟩) 0 0) 0 []) := Lib.hid (World.ownsRow_lit (e := 3) (base := W9.heap.size) (size := 1) W9 #[] 0 (Nat.le_refl _) (by decide) rfl)
          have HLB := Lib.hid (HLA.out.alloc (.cells #[.int .i64 x] 3))
          have HLC : Hid (((W9.alloc (.cells #[.int .i64 x] 3)).alloc (.cells #[] 3)).ownsRow W9.heap.size 3 1 (.slice (some ⟨W9.heap.size + 1, 0, none⟩) 0 0) 0 []) := Lib.hid (by have h := World.ownsRow_lit (e := 3) (base := W9.heap.size) (size := 1) (W9.alloc (.cells #[.int .i64 x] 3)) #[] 0 (alloc_le _ _) (by decide) rfl; rwa [alloc_size] at h)
          have HTA := Lib.hid (HTK.out.alloc (Nat.le_refl _) (.cells #[] 3))
          have HTB := Lib.hid (HTA.out.alloc (alloc_le _ _) (.cells #[.int .i64 x] 3))
          have HTC := Lib.hid ((HTK.out.alloc (Nat.le_refl _) (.cells #[.int .i64 x] 3)).alloc (alloc_le _ _) (.cells #[] 3))
          have HBA := Lib.hid ((Below.refl W9.heap.size W9).alloc (Nat.le_refl _) (.cells #[] 3))
          have HBB := Lib.hid (HBA.out.alloc (alloc_le _ _) (.cells #[.int .i64 x] 3))
          have HBC := Lib.hid (((Below.refl W9.heap.size W9).alloc (Nat.le_refl _) (.cells #[.int .i64 x] 3)).alloc (alloc_le _ _) (.cells #[] 3))
          have RXB : Hid (Rd ((W9.alloc (.cells #[] 3)).alloc (.cells #[.int .i64 x] 3)) (W9.heap.size + 1 + 1) 1 (some ⟨W9.heap.size + 1, 0, none⟩) 1 [.int .i64 x]) := Lib.hid (by have h := rd_new (W9.alloc (.cells #[] 3)) [.int .i64 x] 3 1 1 rfl; rwa [alloc_size] at h)
          have RXC : Hid (Rd ((W9.alloc (.cells #[.int .i64 x] 3)).alloc (.cells #[] 3)) (W9.heap.size + 1) 1 (some ⟨W9.heap.size, 0, none⟩) 1 [.int .i64 x]) := Lib.hid ((rd_new W9 [.int .i64 x] 3 1 1 rfl).alloc (by simp) _)
          have XON : Hid (∀ u ∈ ([.int .i64 x] : List Value), u.oneCell' = true) := Lib.hid (by intro u hu; simp at hu; subst hu; rfl)
          have HT1 := Lib.hid (iC_one (outl.take (k)))
          have HD1 := Lib.hid (iC_one (outl.drop k))
          have EQ : Hid (([] ++ (flat iC (outl.take k))) ++ [.int .i64 x] ++ (flat iC (outl.drop k)) = flat iC (setB [] (l.take (i + 1)))) := Lib.hid (by rw [setB_take HG.out, HOUT.out, insS_at (k := k) (by rw [HOL.out]; exact hk) HF.out HF2.out, flat_app, flat_cons]; simp [iC])
          clear HR9 c0
          have kb0 : (0 : Int) ≤ (k : Int) := by omega
          have kb1 : (k : Int) ≤ (j : Int) := by omega
          have kb2 : (k : Int) ≤ (cap : Int) := by omega
          have c0 := C9.out
          have NEB : Hid (some (W9.heap.size + 1) ≠ (Value.slice (some ⟨W9.heap.size, 0, none⟩) 0 0).ownBlock) := Lib.hid (by simp [Value.ownBlock])
          have NEC : Hid (some W9.heap.size ≠ (Value.slice (some ⟨W9.heap.size + 1, 0, none⟩) 0 0).ownBlock) := Lib.hid (by simp [Value.ownBlock])
          have LTB : Hid (W9.heap.size + 1 < ((W9.alloc (.cells #[] 3)).alloc (.cells #[.int .i64 x] 3)).heap.size) := Lib.hid (by simp)
          have LTC : Hid (W9.heap.size < ((W9.alloc (.cells #[.int .i64 x] 3)).alloc (.cells #[] 3)).heap.size) := Lib.hid (by simp; omega)
          have NK : Hid (0 + k + 1 + (j - k) = j + 1) := Lib.hid (by omega)
          have ZS : Hid (((.int .i64 0) : Value).cells.size = 1) := Lib.hid rfl
          have Z4 : Hid (0 < 1) := Lib.hid (by decide)
          have Ma : Hid (0 + k ≤ maxLen) := Lib.hid (by simp only [maxLen]; omega)
          have Ba : Hid ((0 + k) * 8 ≤ 140737488355328) := Lib.hid (by omega)
          have Mb : Hid (0 + k + 1 ≤ maxLen) := Lib.hid (by simp only [maxLen]; omega)
          have Bb : Hid ((0 + k + 1) * 8 ≤ 140737488355328) := Lib.hid (by omega)
          have Mc : Hid (0 + k + 1 + (j - k) ≤ maxLen) := Lib.hid (by simp only [maxLen]; omega)
          have Bc : Hid ((0 + k + 1 + (j - k)) * 8 ≤ 140737488355328) := Lib.hid (by omega)
          go_region_held3 (fun w' => w'.cell? ⟨b, o + i, none⟩ = some (.int .i64 x)) (first | go_keep | exact p0 | exact q0 | exact r0) (first | (have _t := Y6; refine step_app _ (by rfl) (.tmp 55) (.tmp 58) 67 (by rfl) W9.heap.size 3 i0 (.int .i64 0) 1 8 Tryz.underlying67 hi0 hz0 hz1 hz2 ZS.out Z4.out v6 (0 + k + 1) (([] ++ (flat iC (outl.take k))) ++ [.int .i64 x]) (by rfl) (by with_reducible exact HO6.out) _ A7 (j - k) (cap - k) (flat iC (outl.drop k)) (by rfl) (by with_reducible exact (HDR.out.below HB6.out)) HD1.out Mc.out Bc.out (by exact HB6.out.size) ?_; intro v7 w7 ho7 hg7 _; have HB7 := Lib.hid (HB6.out.grown hg7 HB6.out.size (own_row HO6.out (Nat.le_refl _))); have ho8 := own_low ho7 HBS.out; rw [EQ.out, NK.out] at ho8; have HO8 := Lib.hid ho8; have r0 := (HB7.out.cell (p := ⟨b, o + i, none⟩) HBL9.out).trans C9.out; clear ho7 ho8 hg7) | (have _t := YA; refine step_app _ (by rfl) (.tmp 49) (.tmp 54) 67 (by rfl) W9.heap.size 3 i0 (.int .i64 0) 1 8 Tryz.underlying67 hi0 hz0 hz1 hz2 ZS.out Z4.out v5 (0 + k) ([] ++ (flat iC (outl.take k))) (by rfl) (by with_reducible exact (HO5.out.alloc _)) _ (some ⟨w5.heap.size, 0, none⟩) 1 1 [.int .i64 x] (by rfl) (by with_reducible exact (rd_new w5 [.int .i64 x] 3 1 1 rfl)) XON.out Mb.out Bb.out (by exact (Nat.le_trans HB5.out.size (alloc_le _ _))) ?_; intro v6 w6 ho6 hg6 _; have HB6 := Lib.hid ((HB5.out.alloc HB5.out.size _).grown hg6 (Nat.le_trans HB5.out.size (alloc_le _ _)) (own_row HO5.out (Nat.le_refl _))); have HO6 := Lib.hid ho6; have q0 := (HB6.out.cell (p := ⟨b, o + i, none⟩) HBL9.out).trans C9.out; have Y6 : True := trivial; clear ho6 hg6) | (have _t := YB; refine step_app _ (by rfl) (.tmp 49) (.tmp 54) 67 (by rfl) W9.heap.size 3 i0 (.int .i64 0) 1 8 Tryz.underlying67 hi0 hz0 hz1 hz2 ZS.out Z4.out v5 (0 + k) ([] ++ (flat iC (outl.take k))) (by rfl) (by with_reducible exact HO5.out) _ (some ⟨W9.heap.size + 1, 0, none⟩) 1 1 [.int .i64 x] (by rfl) (by with_reducible exact RX.out) XON.out Mb.out Bb.out (by exact HB5.out.size) ?_; intro v6 w6 ho6 hg6 _; have HB6 := Lib.hid (HB5.out.grown hg6 HB5.out.size (own_row HO5.out (Nat.le_refl _))); have HO6 := Lib.hid ho6; have q0 := (HB6.out.cell (p := ⟨b, o + i, none⟩) HBL9.out).trans C9.out; have Y6 : True := trivial; clear ho6 hg6) | (have _t := YC; refine step_app _ (by rfl) (.tmp 49) (.tmp 54) 67 (by rfl) W9.heap.size 3 i0 (.int .i64 0) 1 8 Tryz.underlying67 hi0 hz0 hz1 hz2 ZS.out Z4.out v5 (0 + k) ([] ++ (flat iC (outl.take k))) (by rfl) (by with_reducible exact HO5.out) _ (some ⟨W9.heap.size, 0, none⟩) 1 1 [.int .i64 x] (by rfl) (by with_reducible exact RX.out) XON.out Mb.out Bb.out (by exact HB5.out.size) ?_; intro v6 w6 ho6 hg6 _; have HB6 := Lib.hid (HB5.out.grown hg6 HB5.out.size (own_row HO5.out (Nat.le_refl _))); have HO6 := Lib.hid ho6; have q0 := (HB6.out.cell (p := ⟨b, o + i, none⟩) HBL9.out).trans C9.out; have Y6 : True := trivial; clear ho6 hg6) | (refine step_app _ (by rfl) (.tmp 45) (.tmp 48) 67 (by rfl) W9.heap.size 3 i0 (.int .i64 0) 1 8 Tryz.underlying67 hi0 hz0 hz1 hz2 ZS.out Z4.out (.slice (some ⟨W9.heap.size, 0, none⟩) 0 0) 0 [] (by rfl) (by with_reducible exact (own_drew HLA.out)) _ (some ⟨g, o2, none⟩) k cap (flat iC (outl.take k)) (by rfl) (by with_reducible exact HTA.out.drew) HT1.out Ma.out Ba.out (by exact HBA.out.drew.size) ?_; intro v5 w5 ho5 hg5 _; have HB5 := Lib.hid (HBA.out.drew.grown hg5 HBA.out.drew.size (own_row HLA.out (Nat.le_refl _))); have HO5 := Lib.hid ho5; have p0 := (HB5.out.cell (p := ⟨b, o + i, none⟩) HBL9.out).trans C9.out; have YA : True := trivial; clear ho5 hg5) | (refine step_app _ (by rfl) (.tmp 45) (.tmp 48) 67 (by rfl) W9.heap.size 3 i0 (.int .i64 0) 1 8 Tryz.underlying67 hi0 hz0 hz1 hz2 ZS.out Z4.out (.slice (some ⟨W9.heap.size, 0, none⟩) 0 0) 0 [] (by rfl) (by with_reducible exact (own_drew HLB.out)) _ (some ⟨g, o2, none⟩) k cap (flat iC (outl.take k)) (by rfl) (by with_reducible exact HTB.out.drew) HT1.out Ma.out Ba.out (by exact HBB.out.drew.size) ?_; intro v5 w5 ho5 hg5 _; have HB5 := Lib.hid (HBB.out.drew.grown hg5 HBB.out.drew.size (own_row HLB.out (Nat.le_refl _))); have HO5 := Lib.hid ho5; have p0 := (HB5.out.cell (p := ⟨b, o + i, none⟩) HBL9.out).trans C9.out; have RX := Lib.hid (rd_far RXB.out.drew hg5 LTB.out NEB.out); have YB : True := trivial; clear ho5 hg5) | (refine step_app _ (by rfl) (.tmp 45) (.tmp 48) 67 (by rfl) W9.heap.size 3 i0 (.int .i64 0) 1 8 Tryz.underlying67 hi0 hz0 hz1 hz2 ZS.out Z4.out (.slice (some ⟨W9.heap.size + 1, 0, none⟩) 0 0) 0 [] (by rfl) (by with_reducible exact (own_drew HLC.out)) _ (some ⟨g, o2, none⟩) k cap (flat iC (outl.take k)) (by rfl) (by with_reducible exact HTC.out.drew) HT1.out Ma.out Ba.out (by exact HBC.out.drew.size) ?_; intro v5 w5 ho5 hg5 _; have HB5 := Lib.hid (HBC.out.drew.grown hg5 HBC.out.drew.size (own_row HLC.out (Nat.le_refl _))); have HO5 := Lib.hid ho5; have p0 := (HB5.out.cell (p := ⟨b, o + i, none⟩) HBL9.out).trans C9.out; have RX := Lib.hid (rd_far RXC.out.drew hg5 LTC.out NEC.out); have YC : True := trivial; clear ho5 hg5))
          all_goals
            obtain ⟨g7, cap7, hv7, _, _⟩ := own_at HO8.out (Nat.succ_pos _)
            subst hv7
            go_wp2
            go_roundw
            case rel => exact ⟨i + 1, j + 1, g7, 0, cap7, by omega, by go_num, rfl, HLN, HO8.out, below_next X1.out (HB9.out.trans (HB7.out.mono HB9.out.size)) X1.out.size⟩
            case measure => simp [intOf]; omega
    · have hin : i = n := by omega
      subst hin
      have htk : l.take i = l := List.take_of_length_le (by rw [HL.out]; omega)
      rw [htk] at HOW1 HJ
      have HJN := Lib.hid HJ.out
      go_wp2
      go_ret
      exact ⟨_, cap, by rw [HJ.out]; rfl, by rw [HJ.out]; exact HOW1.out, X1.out⟩
end Go.Proofs.YtpklgdclknicjaaGreatDoor
