/- History, the reference: Order. -/
import Derived.Test.YtoiocnpamplhdaaGreatDoorHT
namespace Go.Proofs.YtoiocnpamplhdaaGreatDoor
open Go.RowKit

theorem sortB_take {l : List Com} {j : Nat} {x : Com} (h : l[j]? = some x) : sortB befB [] (l.take (j + 1)) = insB befB x (sortB befB [] (l.take j)) := by
  have : l.take (j + 1) = l.take j ++ [x] := by
    rw [List.take_add_one, h]; rfl
  rw [this, sortB_snoc]

theorem own_drew {w : World} {base : Nat} {e : TypeId} {size n : Nat} {v : Value} {xs : List Value} (h : w.ownsRow base e size v n xs) : w.drew.ownsRow base e size v n xs := h
theorem own_low {w : World} {b b' : Nat} {e : TypeId} {size n : Nat} {v : Value} {xs : List Value} (h : w.ownsRow b e size v n xs) (hb : b' ≤ b) : w.ownsRow b' e size v n xs := by
  refine ⟨h.1, ?_⟩
  rcases h.2 with h0 | ⟨g, cap, cur, hv, hg, hr⟩
  · exact .inl h0
  · exact .inr ⟨g, cap, cur, hv, Nat.le_trans hb hg, hr⟩

theorem ins_step {outl : List Com} {x y : Com} {k q : Nat} (hk : k = q + 1) (hf : ∀ p z, k ≤ p → outl[p]? = some z → befB x z = true) (hg : outl[q]? = some y) (hb : befB x y = true) : ∀ p z, q ≤ p → outl[p]? = some z → befB x z = true := by
  intro p z hp hz
  by_cases hpq : p = q
  · subst hpq
    rw [hg] at hz
    injection hz with hz
    subst hz
    exact hb
  · exact hf p z (by omega) hz

set_option maxRecDepth 100000 in
theorem slice_from (W : World) (a : Option Addr) (j cap k : Nat) (hk : k ≤ j) : (Instr.slice 22 (.slice a j cap) (some (.int .i64 (k : Int))) none none).run Tryz.prog W = .ok (.slice (if cap = k then a else a.map (·.add (k * 4))) (j - k) (cap - k)) W := by
  have h := run_slice_l (P := Tryz.prog) (w := W) 22 a j cap Tryz.underlying22 .i64 (k : Int) (by omega) (by omega)
  rw [h, show Tryz.prog.elem 22 = 43 from by kernel_rfl, Tryz.sizeOf43 W]
  simp [Result.andThen, sliced]

set_option maxRecDepth 100000 in
set_option maxHeartbeats 8000000 in
theorem rorder_any (A : Option Addr) (n c : Nat) (l : List Com) (w : World) (hs : Cs w w.heap.size A n c l) (hv : ∀ x ∈ l, ∀ c ∈ x.cs, StrOk c) (hn : n ≤ 12) :
    Calls Tryz.prog 8 #[.slice A n c] w (OrdP (ordB l) w) := by
  obtain ⟨r, hr⟩ : ∃ r, ordB l = r := ⟨_, rfl⟩
  rw [hr]
  have HR := Lib.hid hr
  have HL := Lib.hid hs.1.len
  have HS := Lib.hid hs
  have HV := Lib.hid hv
  have HO1 := Lib.hid (World.ownsRow_lit (e := 43) (base := w.heap.size) (size := 4) w #[] 0 (Nat.le_refl _) (by decide) rfl)
  obtain ⟨i0, hi0, hz0, hz1, hz2⟩ := info_parts infoCom
  clear hr hs hv
  go_enter Tryz.func8, Tryz.ntmps8
  go_wp2
  go_loopw [4, 5] (fun v4 v5 wr => ∃ (j g o cap : Nat), j ≤ n ∧ v5 = .int .i64 j ∧ v4 = .slice (some ⟨g, o, none⟩) j cap ∧ (∀ t, t < j → ∀ e, l[t]? = some e → comB e = true) ∧ wr.ownsRow w.heap.size 43 4 (.slice (some ⟨g, o, none⟩) j cap) j (flat comC (sortB befB [] (l.take j))) ∧ Below w.heap.size w wr) (fun _ v5 _ => n - (intOf v5).toNat)
  case atStart => exact ⟨0, w.heap.size, 0, 0, Nat.zero_le _, rfl, rfl, fun t h => absurd h (by omega), HO1.out, (Below.refl _ _).alloc (Nat.le_refl _) _⟩
  case round =>
    obtain ⟨j, g, o2, cap, hj, rfl, rfl, hall, hown, hbel⟩ := hrel
    have HA := Lib.hid hall
    have HOW := Lib.hid hown
    have HB := Lib.hid hbel
    clear hall hown hbel
    by_cases hlt : j < n
    · obtain ⟨b, o, x, rfl, hb, hg, hcell⟩ := Sl.cell (f := comC) (k := 4) comC_len HS.out.1 hlt
      have HCELL := Lib.hid hcell
      have c0 := (HB.out.cell (p := ⟨b, o + j * 4 + 0, none⟩) hb).trans (hcell 0 _ rfl)
      have c1 := (HB.out.cell (p := ⟨b, o + j * 4 + 1, none⟩) hb).trans (hcell 1 _ rfl)
      have c2 := (HB.out.cell (p := ⟨b, o + j * 4 + 2, none⟩) hb).trans (hcell 2 _ rfl)
      have c3 := (HB.out.cell (p := ⟨b, o + j * 4 + 3, none⟩) hb).trans (hcell 3 _ rfl)
      simp only [Nat.add_zero] at c0
      have hxl := List.mem_of_getElem? hg
      have HX := Lib.hid (rvalid_any x wr ((HS.out.2 x hxl).after HB.out HB.out.size) (HV.out x hxl))
      have HG := Lib.hid hg
      have HBL := Lib.hid hb
      unfold comV at HX
      clear hcell hg hb hxl
      cases hp : comB x with
      | false =>
        rw [hp] at HX
        have hr : r = none := by rw [← HR.out]; unfold ordB; rw [if_pos (any_true HG.out hp)]
        have HN := Lib.hid hr
        clear hr hp
        go_wp2_with fail
        refine HX.out.mono ?_
        rintro e w1 ⟨rfl, hb1⟩
        have X1 := Lib.hid (below_next HB.out hb1 HB.out.size)
        clear hb1
        go_wp2
        go_ret2
        exact .inl ⟨HN.out, rfl, X1.out⟩
      | true =>
        rw [hp] at HX
        have HP := Lib.hid hp
        clear hp
        go_wp2_with fail
        refine HX.out.mono ?_
        rintro e w1 ⟨rfl, hb1⟩
        have X1 := Lib.hid (below_next HB.out hb1 HB.out.size)
        have HOW1 := Lib.hid (own_below HOW.out hb1)
        obtain ⟨outl, hout⟩ : ∃ outl, sortB befB [] (l.take j) = outl := ⟨_, rfl⟩
        rw [hout] at HOW1
        have HOUT := Lib.hid hout
        have hol : outl.length = j := by rw [← hout, sortB_len, List.length_take]; have := HL.out; simp; omega
        have HOL := Lib.hid hol
        have HSL := Lib.hid (Sl.of_own (f := comC) (k := 4) comC_len (by decide) HOW1.out)
        have hcap := HSL.out.cap
        clear hb1 HX HOW c0 c1 c2 c3 hout hol
        go_wp2_with fail
        go_loopw [6] (fun v6 wx => ∃ k : Nat, k ≤ j ∧ v6 = .int .i64 k ∧ Hid (∀ p y, k ≤ p → outl[p]? = some y → befB x y = true) ∧ Below w1.heap.size w1 wx) (fun v _ => (intOf v).toNat)
        case atStart => exact ⟨j, Nat.le_refl _, rfl, Lib.hid fun p y hp hy => by have := (List.getElem?_eq_some_iff.1 hy).1; rw [HOL.out] at this; omega, Below.refl _ _⟩
        case round =>
          obtain ⟨k, hk, rfl, HF, hbx⟩ := hrel
          have HBX := Lib.hid hbx
          clear hbx
          by_cases hk0 : 0 < k
          rotate_left
          · have d1 : decide (0 < k) = false := by simpa using hk0
            have d2 : decide ((0 : Int) < (k : Int)) = false := by simp; omega
            have HF2 : Hid (∀ y, 0 < k → outl[k - 1]? = some y → befB x y = false) := Lib.hid fun y h => absurd h hk0
            clear hk0
            go_wp2_with fail
            go_quiet (fail)
            go_wp2_with fail
            have HB9 := Lib.hid (below_drewN HBX.out nq)
            generalize wr.drewN nq = W9 at HB9 ⊢
            clear HBX
            have HOW9 := Lib.hid (own_below HOW1.out HB9.out)
            have HR9 := Lib.hid (Rd.of_own HOW9.out)
            have hbs : w.heap.size ≤ W9.heap.size := Nat.le_trans X1.out.size HB9.out.size
            have HBS := Lib.hid hbs
            have HBL9 : Hid (b < W9.heap.size) := Lib.hid (Nat.lt_of_lt_of_le HBL.out hbs)
            have BX9 := Lib.hid (below_next X1.out HB9.out X1.out.size)
            have c0 := (BX9.out.cell (p := ⟨b, o + j * 4 + 0, none⟩) HBL.out).trans (HCELL.out 0 _ rfl)
            have c1 := (BX9.out.cell (p := ⟨b, o + j * 4 + 1, none⟩) HBL.out).trans (HCELL.out 1 _ rfl)
            have c2 := (BX9.out.cell (p := ⟨b, o + j * 4 + 2, none⟩) HBL.out).trans (HCELL.out 2 _ rfl)
            have c3 := (BX9.out.cell (p := ⟨b, o + j * 4 + 3, none⟩) HBL.out).trans (HCELL.out 3 _ rfl)
            simp only [Nat.add_zero] at c0
            have C9 := Lib.hid (And.intro c0 (And.intro c1 (And.intro c2 c3)))
            have HTK := Lib.hid (show Rd W9 W9.heap.size 4 (some ⟨g, o2, none⟩) (k) (flat comC (outl.take k)) from by rw [← flat_take comC_len]; exact HR9.out.take (by omega))
            obtain ⟨A7, hA7⟩ : ∃ A7 : Option Addr, (if cap = k then (some ⟨g, o2, none⟩ : Option Addr) else (some ⟨g, o2, none⟩ : Option Addr).map (·.add (k * 4))) = A7 := ⟨_, rfl⟩
            have HDR : Hid (Rd W9 W9.heap.size 4 A7 (j - k) (flat comC (outl.drop k))) := Lib.hid (by have h := HR9.out.drop (k := k) (cap := cap) hk hcap; rw [flat_drop comC_len, hA7] at h; exact h)
            have hsl : ∀ W : World, (Instr.slice 22 (.slice (some ⟨g, o2, none⟩) j cap) (some (.int .i64 (k : Int))) none none).run Tryz.prog W = .ok (.slice A7 (j - k) (cap - k)) W := fun W => by rw [← hA7]; exact slice_from W (some ⟨g, o2, none⟩) j cap k hk
            clear hA7
            have HLA : Hid ((W9.alloc (.cells #[] 43)).ownsRow W9.heap.size 43 4 (.slice (some ⟨W9.heap.size, 0, none⟩) 0 0) 0 []) := Lib.hid (World.ownsRow_lit (e := 43) (base := W9.heap.size) (size := 4) W9 #[] 0 (Nat.le_refl _) (by decide) rfl)
            have HLB := Lib.hid (HLA.out.alloc (.cells #[.int .i64 x.unit, .int .i64 x.num, .slice x.rA x.rn x.rc, .slice x.cA x.cn x.cc] 43))
            have HLC : Hid (((W9.alloc (.cells #[.int .i64 x.unit, .int .i64 x.num, .slice x.rA x.rn x.rc, .slice x.cA x.cn x.cc] 43)).alloc (.cells #[] 43)).ownsRow W9.heap.size 43 4 (.slice (some ⟨W9.heap.size + 1, 0, none⟩) 0 0) 0 []) := Lib.hid (by have h := World.ownsRow_lit (e := 43) (base := W9.heap.size) (size := 4) (W9.alloc (.cells #[.int .i64 x.unit, .int .i64 x.num, .slice x.rA x.rn x.rc, .slice x.cA x.cn x.cc] 43)) #[] 0 (alloc_le _ _) (by decide) rfl; rwa [alloc_size] at h)
            have HTA := Lib.hid (HTK.out.alloc (Nat.le_refl _) (.cells #[] 43))
            have HTB := Lib.hid (HTA.out.alloc (alloc_le _ _) (.cells #[.int .i64 x.unit, .int .i64 x.num, .slice x.rA x.rn x.rc, .slice x.cA x.cn x.cc] 43))
            have HTC := Lib.hid ((HTK.out.alloc (Nat.le_refl _) (.cells #[.int .i64 x.unit, .int .i64 x.num, .slice x.rA x.rn x.rc, .slice x.cA x.cn x.cc] 43)).alloc (alloc_le _ _) (.cells #[] 43))
            have HBA := Lib.hid ((Below.refl W9.heap.size W9).alloc (Nat.le_refl _) (.cells #[] 43))
            have HBB := Lib.hid (HBA.out.alloc (alloc_le _ _) (.cells #[.int .i64 x.unit, .int .i64 x.num, .slice x.rA x.rn x.rc, .slice x.cA x.cn x.cc] 43))
            have HBC := Lib.hid (((Below.refl W9.heap.size W9).alloc (Nat.le_refl _) (.cells #[.int .i64 x.unit, .int .i64 x.num, .slice x.rA x.rn x.rc, .slice x.cA x.cn x.cc] 43)).alloc (alloc_le _ _) (.cells #[] 43))
            have RXB : Hid (Rd ((W9.alloc (.cells #[] 43)).alloc (.cells #[.int .i64 x.unit, .int .i64 x.num, .slice x.rA x.rn x.rc, .slice x.cA x.cn x.cc] 43)) (W9.heap.size + 1 + 1) 4 (some ⟨W9.heap.size + 1, 0, none⟩) 1 [.int .i64 x.unit, .int .i64 x.num, .slice x.rA x.rn x.rc, .slice x.cA x.cn x.cc]) := Lib.hid (by have h := rd_new (W9.alloc (.cells #[] 43)) [.int .i64 x.unit, .int .i64 x.num, .slice x.rA x.rn x.rc, .slice x.cA x.cn x.cc] 43 1 4 rfl; rwa [alloc_size] at h)
            have RXC : Hid (Rd ((W9.alloc (.cells #[.int .i64 x.unit, .int .i64 x.num, .slice x.rA x.rn x.rc, .slice x.cA x.cn x.cc] 43)).alloc (.cells #[] 43)) (W9.heap.size + 1) 4 (some ⟨W9.heap.size, 0, none⟩) 1 [.int .i64 x.unit, .int .i64 x.num, .slice x.rA x.rn x.rc, .slice x.cA x.cn x.cc]) := Lib.hid ((rd_new W9 [.int .i64 x.unit, .int .i64 x.num, .slice x.rA x.rn x.rc, .slice x.cA x.cn x.cc] 43 1 4 rfl).alloc (by simp) _)
            have XON : Hid (∀ u ∈ ([.int .i64 x.unit, .int .i64 x.num, .slice x.rA x.rn x.rc, .slice x.cA x.cn x.cc] : List Value), u.oneCell' = true) := Lib.hid (comC_one' x)
            have HT1 := Lib.hid (comC_one (outl.take (k)))
            have HD1 := Lib.hid (comC_one (outl.drop k))
            have EQ : Hid (([] ++ (flat comC (outl.take k))) ++ [.int .i64 x.unit, .int .i64 x.num, .slice x.rA x.rn x.rc, .slice x.cA x.cn x.cc] ++ (flat comC (outl.drop k)) = flat comC (sortB befB [] (l.take (j + 1)))) := Lib.hid (by rw [sortB_take HG.out, HOUT.out, insB_at (k := k) (by rw [HOL.out]; exact hk) HF.out HF2.out, flat_app, flat_cons]; simp [comC])
            clear HR9 c0 c1 c2 c3
            have kb0 : (0 : Int) ≤ (k : Int) := by omega
            have kb1 : (k : Int) ≤ (j : Int) := by omega
            have kb2 : (k : Int) ≤ (cap : Int) := by omega
            have c0 := C9.out.1
            have c1 := C9.out.2.1
            have c2 := C9.out.2.2.1
            have c3 := C9.out.2.2.2
            have NEB : Hid (some (W9.heap.size + 1) ≠ (Value.slice (some ⟨W9.heap.size, 0, none⟩) 0 0).ownBlock) := Lib.hid (by simp [Value.ownBlock])
            have NEC : Hid (some W9.heap.size ≠ (Value.slice (some ⟨W9.heap.size + 1, 0, none⟩) 0 0).ownBlock) := Lib.hid (by simp [Value.ownBlock])
            have LTB : Hid (W9.heap.size + 1 < ((W9.alloc (.cells #[] 43)).alloc (.cells #[.int .i64 x.unit, .int .i64 x.num, .slice x.rA x.rn x.rc, .slice x.cA x.cn x.cc] 43)).heap.size) := Lib.hid (by simp)
            have LTC : Hid (W9.heap.size < ((W9.alloc (.cells #[.int .i64 x.unit, .int .i64 x.num, .slice x.rA x.rn x.rc, .slice x.cA x.cn x.cc] 43)).alloc (.cells #[] 43)).heap.size) := Lib.hid (by simp; omega)
            have NK : Hid (0 + k + 1 + (j - k) = j + 1) := Lib.hid (by omega)
            have ZS : Hid (((.agg #[.int .i64 0, .int .i64 0, .slice none 0 0, .slice none 0 0]) : Value).cells.size = 4) := Lib.hid rfl
            have Z4 : Hid (0 < 4) := Lib.hid (by decide)
            have Ma : Hid (0 + k ≤ maxLen) := Lib.hid (by simp only [maxLen]; omega)
            have Ba : Hid ((0 + k) * 64 ≤ 140737488355328) := Lib.hid (by omega)
            have Mb : Hid (0 + k + 1 ≤ maxLen) := Lib.hid (by simp only [maxLen]; omega)
            have Bb : Hid ((0 + k + 1) * 64 ≤ 140737488355328) := Lib.hid (by omega)
            have Mc : Hid (0 + k + 1 + (j - k) ≤ maxLen) := Lib.hid (by simp only [maxLen]; omega)
            have Bc : Hid ((0 + k + 1 + (j - k)) * 64 ≤ 140737488355328) := Lib.hid (by omega)
            go_region_held3 (fun w' => w'.cell? ⟨b, o + j * 4, none⟩ = some (.int .i64 x.unit) ∧ w'.cell? ⟨b, o + j * 4 + 1, none⟩ = some (.int .i64 x.num) ∧ w'.cell? ⟨b, o + j * 4 + 2, none⟩ = some (.slice x.rA x.rn x.rc) ∧ w'.cell? ⟨b, o + j * 4 + 3, none⟩ = some (.slice x.cA x.cn x.cc)) (first | go_keep | exact ⟨p0, p1, p2, p3⟩ | exact ⟨q0, q1, q2, q3⟩ | exact ⟨r0, r1, r2, r3⟩) (first | (have _t := Y6; refine step_app _ (by rfl) (.tmp 50) (.tmp 53) 22 (by rfl) W9.heap.size 43 i0 (.agg #[.int .i64 0, .int .i64 0, .slice none 0 0, .slice none 0 0]) 4 64 Tryz.underlying22 hi0 hz0 hz1 hz2 ZS.out Z4.out v6 (0 + k + 1) (([] ++ (flat comC (outl.take k))) ++ [.int .i64 x.unit, .int .i64 x.num, .slice x.rA x.rn x.rc, .slice x.cA x.cn x.cc]) (by rfl) (by with_reducible exact HO6.out) _ A7 (j - k) (cap - k) (flat comC (outl.drop k)) (by rfl) (by with_reducible exact (HDR.out.below HB6.out)) HD1.out Mc.out Bc.out (by exact HB6.out.size) ?_; intro v7 w7 ho7 hg7 _; have HB7 := Lib.hid (HB6.out.grown hg7 HB6.out.size (own_row HO6.out (Nat.le_refl _))); have ho8 := own_low ho7 HBS.out; rw [EQ.out, NK.out] at ho8; have HO8 := Lib.hid ho8; have r0 := (HB7.out.cell (p := ⟨b, o + j * 4, none⟩) HBL9.out).trans C9.out.1; have r1 := (HB7.out.cell (p := ⟨b, o + j * 4 + 1, none⟩) HBL9.out).trans C9.out.2.1; have r2 := (HB7.out.cell (p := ⟨b, o + j * 4 + 2, none⟩) HBL9.out).trans C9.out.2.2.1; have r3 := (HB7.out.cell (p := ⟨b, o + j * 4 + 3, none⟩) HBL9.out).trans C9.out.2.2.2; clear ho7 ho8 hg7) | (have _t := YA; refine step_app _ (by rfl) (.tmp 44) (.tmp 49) 22 (by rfl) W9.heap.size 43 i0 (.agg #[.int .i64 0, .int .i64 0, .slice none 0 0, .slice none 0 0]) 4 64 Tryz.underlying22 hi0 hz0 hz1 hz2 ZS.out Z4.out v5 (0 + k) ([] ++ (flat comC (outl.take k))) (by rfl) (by with_reducible exact (HO5.out.alloc _)) _ (some ⟨w5.heap.size, 0, none⟩) 1 1 [.int .i64 x.unit, .int .i64 x.num, .slice x.rA x.rn x.rc, .slice x.cA x.cn x.cc] (by rfl) (by with_reducible exact (rd_new w5 [.int .i64 x.unit, .int .i64 x.num, .slice x.rA x.rn x.rc, .slice x.cA x.cn x.cc] 43 1 4 rfl)) XON.out Mb.out Bb.out (by exact (Nat.le_trans HB5.out.size (alloc_le _ _))) ?_; intro v6 w6 ho6 hg6 _; have HB6 := Lib.hid ((HB5.out.alloc HB5.out.size _).grown hg6 (Nat.le_trans HB5.out.size (alloc_le _ _)) (own_row HO5.out (Nat.le_refl _))); have HO6 := Lib.hid ho6; have q0 := (HB6.out.cell (p := ⟨b, o + j * 4, none⟩) HBL9.out).trans C9.out.1; have q1 := (HB6.out.cell (p := ⟨b, o + j * 4 + 1, none⟩) HBL9.out).trans C9.out.2.1; have q2 := (HB6.out.cell (p := ⟨b, o + j * 4 + 2, none⟩) HBL9.out).trans C9.out.2.2.1; have q3 := (HB6.out.cell (p := ⟨b, o + j * 4 + 3, none⟩) HBL9.out).trans C9.out.2.2.2; have Y6 : True := trivial; clear ho6 hg6) | (have _t := YB; refine step_app _ (by rfl) (.tmp 44) (.tmp 49) 22 (by rfl) W9.heap.size 43 i0 (.agg #[.int .i64 0, .int .i64 0, .slice none 0 0, .slice none 0 0]) 4 64 Tryz.underlying22 hi0 hz0 hz1 hz2 ZS.out Z4.out v5 (0 + k) ([] ++ (flat comC (outl.take k))) (by rfl) (by with_reducible exact HO5.out) _ (some ⟨W9.heap.size + 1, 0, none⟩) 1 1 [.int .i64 x.unit, .int .i64 x.num, .slice x.rA x.rn x.rc, .slice x.cA x.cn x.cc] (by rfl) (by with_reducible exact RX.out) XON.out Mb.out Bb.out (by exact HB5.out.size) ?_; intro v6 w6 ho6 hg6 _; have HB6 := Lib.hid (HB5.out.grown hg6 HB5.out.size (own_row HO5.out (Nat.le_refl _))); have HO6 := Lib.hid ho6; have q0 := (HB6.out.cell (p := ⟨b, o + j * 4, none⟩) HBL9.out).trans C9.out.1; have q1 := (HB6.out.cell (p := ⟨b, o + j * 4 + 1, none⟩) HBL9.out).trans C9.out.2.1; have q2 := (HB6.out.cell (p := ⟨b, o + j * 4 + 2, none⟩) HBL9.out).trans C9.out.2.2.1; have q3 := (HB6.out.cell (p := ⟨b, o + j * 4 + 3, none⟩) HBL9.out).trans C9.out.2.2.2; have Y6 : True := trivial; clear ho6 hg6) | (have _t := YC; refine step_app _ (by rfl) (.tmp 44) (.tmp 49) 22 (by rfl) W9.heap.size 43 i0 (.agg #[.int .i64 0, .int .i64 0, .slice none 0 0, .slice none 0 0]) 4 64 Tryz.underlying22 hi0 hz0 hz1 hz2 ZS.out Z4.out v5 (0 + k) ([] ++ (flat comC (outl.take k))) (by rfl) (by with_reducible exact HO5.out) _ (some ⟨W9.heap.size, 0, none⟩) 1 1 [.int .i64 x.unit, .int .i64 x.num, .slice x.rA x.rn x.rc, .slice x.cA x.cn x.cc] (by rfl) (by with_reducible exact RX.out) XON.out Mb.out Bb.out (by exact HB5.out.size) ?_; intro v6 w6 ho6 hg6 _; have HB6 := Lib.hid (HB5.out.grown hg6 HB5.out.size (own_row HO5.out (Nat.le_refl _))); have HO6 := Lib.hid ho6; have q0 := (HB6.out.cell (p := ⟨b, o + j * 4, none⟩) HBL9.out).trans C9.out.1; have q1 := (HB6.out.cell (p := ⟨b, o + j * 4 + 1, none⟩) HBL9.out).trans C9.out.2.1; have q2 := (HB6.out.cell (p := ⟨b, o + j * 4 + 2, none⟩) HBL9.out).trans C9.out.2.2.1; have q3 := (HB6.out.cell (p := ⟨b, o + j * 4 + 3, none⟩) HBL9.out).trans C9.out.2.2.2; have Y6 : True := trivial; clear ho6 hg6) | (refine step_app _ (by rfl) (.tmp 40) (.tmp 43) 22 (by rfl) W9.heap.size 43 i0 (.agg #[.int .i64 0, .int .i64 0, .slice none 0 0, .slice none 0 0]) 4 64 Tryz.underlying22 hi0 hz0 hz1 hz2 ZS.out Z4.out (.slice (some ⟨W9.heap.size, 0, none⟩) 0 0) 0 [] (by rfl) (by with_reducible exact (own_drew HLA.out)) _ (some ⟨g, o2, none⟩) k cap (flat comC (outl.take k)) (by rfl) (by with_reducible exact HTA.out.drew) HT1.out Ma.out Ba.out (by exact HBA.out.drew.size) ?_; intro v5 w5 ho5 hg5 _; have HB5 := Lib.hid (HBA.out.drew.grown hg5 HBA.out.drew.size (own_row HLA.out (Nat.le_refl _))); have HO5 := Lib.hid ho5; have p0 := (HB5.out.cell (p := ⟨b, o + j * 4, none⟩) HBL9.out).trans C9.out.1; have p1 := (HB5.out.cell (p := ⟨b, o + j * 4 + 1, none⟩) HBL9.out).trans C9.out.2.1; have p2 := (HB5.out.cell (p := ⟨b, o + j * 4 + 2, none⟩) HBL9.out).trans C9.out.2.2.1; have p3 := (HB5.out.cell (p := ⟨b, o + j * 4 + 3, none⟩) HBL9.out).trans C9.out.2.2.2; have YA : True := trivial; clear ho5 hg5) | (refine step_app _ (by rfl) (.tmp 40) (.tmp 43) 22 (by rfl) W9.heap.size 43 i0 (.agg #[.int .i64 0, .int .i64 0, .slice none 0 0, .slice none 0 0]) 4 64 Tryz.underlying22 hi0 hz0 hz1 hz2 ZS.out Z4.out (.slice (some ⟨W9.heap.size, 0, none⟩) 0 0) 0 [] (by rfl) (by with_reducible exact (own_drew HLB.out)) _ (some ⟨g, o2, none⟩) k cap (flat comC (outl.take k)) (by rfl) (by with_reducible exact HTB.out.drew) HT1.out Ma.out Ba.out (by exact HBB.out.drew.size) ?_; intro v5 w5 ho5 hg5 _; have HB5 := Lib.hid (HBB.out.drew.grown hg5 HBB.out.drew.size (own_row HLB.out (Nat.le_refl _))); have HO5 := Lib.hid ho5; have p0 := (HB5.out.cell (p := ⟨b, o + j * 4, none⟩) HBL9.out).trans C9.out.1; have p1 := (HB5.out.cell (p := ⟨b, o + j * 4 + 1, none⟩) HBL9.out).trans C9.out.2.1; have p2 := (HB5.out.cell (p := ⟨b, o + j * 4 + 2, none⟩) HBL9.out).trans C9.out.2.2.1; have p3 := (HB5.out.cell (p := ⟨b, o + j * 4 + 3, none⟩) HBL9.out).trans C9.out.2.2.2; have RX := Lib.hid (rd_far RXB.out.drew hg5 LTB.out NEB.out); have YB : True := trivial; clear ho5 hg5) | (refine step_app _ (by rfl) (.tmp 40) (.tmp 43) 22 (by rfl) W9.heap.size 43 i0 (.agg #[.int .i64 0, .int .i64 0, .slice none 0 0, .slice none 0 0]) 4 64 Tryz.underlying22 hi0 hz0 hz1 hz2 ZS.out Z4.out (.slice (some ⟨W9.heap.size + 1, 0, none⟩) 0 0) 0 [] (by rfl) (by with_reducible exact (own_drew HLC.out)) _ (some ⟨g, o2, none⟩) k cap (flat comC (outl.take k)) (by rfl) (by with_reducible exact HTC.out.drew) HT1.out Ma.out Ba.out (by exact HBC.out.drew.size) ?_; intro v5 w5 ho5 hg5 _; have HB5 := Lib.hid (HBC.out.drew.grown hg5 HBC.out.drew.size (own_row HLC.out (Nat.le_refl _))); have HO5 := Lib.hid ho5; have p0 := (HB5.out.cell (p := ⟨b, o + j * 4, none⟩) HBL9.out).trans C9.out.1; have p1 := (HB5.out.cell (p := ⟨b, o + j * 4 + 1, none⟩) HBL9.out).trans C9.out.2.1; have p2 := (HB5.out.cell (p := ⟨b, o + j * 4 + 2, none⟩) HBL9.out).trans C9.out.2.2.1; have p3 := (HB5.out.cell (p := ⟨b, o + j * 4 + 3, none⟩) HBL9.out).trans C9.out.2.2.2; have RX := Lib.hid (rd_far RXC.out.drew hg5 LTC.out NEC.out); have YC : True := trivial; clear ho5 hg5))
            all_goals
              obtain ⟨g7, cap7, hv7, _, _⟩ := own_at HO8.out (Nat.succ_pos _)
              subst hv7
              go_wp2
              go_roundw
              case rel => exact ⟨j + 1, g7, 0, cap7, by omega, by go_num, rfl, all_step HA.out HG.out HP.out, HO8.out, below_next X1.out (HB9.out.trans (HB7.out.mono HB9.out.size)) X1.out.size⟩
              case measure => simp [intOf]; omega
          · obtain ⟨q, hq⟩ : ∃ q, k = q + 1 := ⟨k - 1, by omega⟩
            have hqj : q < j := by omega
            obtain ⟨b2, o3, y, hA, hgl, hgy, hcy⟩ := Sl.cell (f := comC) (k := 4) comC_len (HSL.out.below HBX.out) hqj
            cases hA
            have BX := Lib.hid (below_next X1.out HBX.out X1.out.size)
            have y0 := hcy 0 _ rfl
            have y1 := hcy 1 _ rfl
            have y2 := hcy 2 _ rfl
            have y3 := hcy 3 _ rfl
            simp only [Nat.add_zero] at y0
            have c0 := (BX.out.cell (p := ⟨b, o + j * 4 + 0, none⟩) HBL.out).trans (HCELL.out 0 _ rfl)
            have c1 := (BX.out.cell (p := ⟨b, o + j * 4 + 1, none⟩) HBL.out).trans (HCELL.out 1 _ rfl)
            have c2 := (BX.out.cell (p := ⟨b, o + j * 4 + 2, none⟩) HBL.out).trans (HCELL.out 2 _ rfl)
            have c3 := (BX.out.cell (p := ⟨b, o + j * 4 + 3, none⟩) HBL.out).trans (HCELL.out 3 _ rfl)
            simp only [Nat.add_zero] at c0
            have CX := Lib.hid (And.intro c0 (And.intro c1 (And.intro c2 c3)))
            have CY := Lib.hid (And.intro y0 (And.intro y1 (And.intro y2 y3)))
            have LTX : Hid (b < wr.heap.size) := Lib.hid (Nat.lt_of_lt_of_le HBL.out BX.out.size)
            have LTY : Hid (g < wr.heap.size) := Lib.hid (Nat.lt_of_lt_of_le hgl HBX.out.size)
            have HGY := Lib.hid hgy
            have HQ := Lib.hid hq
            have d1 : decide (0 < k) = true := by simpa using hk0
            have d2 : decide ((0 : Int) < (k : Int)) = true := by simp; omega
            have e1 : (k : Int) - 1 = (q : Int) := by omega
            have e2 : IntKind.i64.wrap (q : Int) = (q : Int) := by rw [IntKind.wrap_i64]; omega
            have i0a : (0 : Int) ≤ (q : Int) := by omega
            have i0b : (q : Int) < (j : Int) := by omega
            have i0c : (0 : Int) ≤ (j : Int) := by omega
            have i0d : (j : Int) < (n : Int) := by omega
            have HBE : Hid (∀ W : World, Calls Tryz.prog 25 #[.agg #[.int .i64 x.unit, .int .i64 x.num, .slice x.rA x.rn x.rc, .slice x.cA x.cn x.cc], .agg #[.int .i64 y.unit, .int .i64 y.num, .slice y.rA y.rn y.rc, .slice y.cA y.cn y.cc]] W fun e w' => e = .returned (.bool (befB x y)) ∧ Below W.heap.size W w') := Lib.hid fun W => before_any x y W
            clear hcy hgl hgy hq
            cases hbf : befB x y with
            | true =>
              rw [hbf] at HBE
              have HBF := Lib.hid hbf
              clear hbf
              go_wp2_with fail
              go_region_held3 (fun w' => w'.cell? ⟨b, o + j * 4, none⟩ = some (.int .i64 x.unit) ∧ w'.cell? ⟨b, o + j * 4 + 1, none⟩ = some (.int .i64 x.num) ∧ w'.cell? ⟨b, o + j * 4 + 2, none⟩ = some (.slice x.rA x.rn x.rc) ∧ w'.cell? ⟨b, o + j * 4 + 3, none⟩ = some (.slice x.cA x.cn x.cc) ∧ w'.cell? ⟨g, o2 + q * 4, none⟩ = some (.int .i64 y.unit) ∧ w'.cell? ⟨g, o2 + q * 4 + 1, none⟩ = some (.int .i64 y.num) ∧ w'.cell? ⟨g, o2 + q * 4 + 2, none⟩ = some (.slice y.rA y.rn y.rc) ∧ w'.cell? ⟨g, o2 + q * 4 + 3, none⟩ = some (.slice y.cA y.cn y.cc)) (first | go_keep | exact ⟨s0, s1, s2, s3, s4, s5, s6, s7⟩) ((go_at_call 25; (with_reducible refine (HBE.out _).mono ?_); rintro e w2 ⟨rfl, hb2⟩; have HB2 := Lib.hid (below_next HBX.out (undrew hb2) HBX.out.size); have s0 := ((undrew hb2).cell (p := ⟨b, o + j * 4, none⟩) LTX.out).trans CX.out.1; have s1 := ((undrew hb2).cell (p := ⟨b, o + j * 4 + 1, none⟩) LTX.out).trans CX.out.2.1; have s2 := ((undrew hb2).cell (p := ⟨b, o + j * 4 + 2, none⟩) LTX.out).trans CX.out.2.2.1; have s3 := ((undrew hb2).cell (p := ⟨b, o + j * 4 + 3, none⟩) LTX.out).trans CX.out.2.2.2; have s4 := ((undrew hb2).cell (p := ⟨g, o2 + q * 4, none⟩) LTY.out).trans CY.out.1; have s5 := ((undrew hb2).cell (p := ⟨g, o2 + q * 4 + 1, none⟩) LTY.out).trans CY.out.2.1; have s6 := ((undrew hb2).cell (p := ⟨g, o2 + q * 4 + 2, none⟩) LTY.out).trans CY.out.2.2.1; have s7 := ((undrew hb2).cell (p := ⟨g, o2 + q * 4 + 3, none⟩) LTY.out).trans CY.out.2.2.2; clear hb2))
              all_goals
                go_wp2
                go_roundw
                case rel => exact ⟨q, by omega, rfl, Lib.hid (ins_step HQ.out HF.out HGY.out HBF.out), HB2.out⟩
                case measure => have := HQ.out; simp [intOf]; omega
            | false =>
              rw [hbf] at HBE
              have HF2 : Hid (∀ z, 0 < k → outl[k - 1]? = some z → befB x z = false) := Lib.hid fun z _ hz => by rw [HQ.out, Nat.add_sub_cancel, HGY.out] at hz; injection hz with hz; subst hz; exact hbf
              clear hbf
              go_wp2_with fail
              go_region_held3 (fun w' => w'.cell? ⟨b, o + j * 4, none⟩ = some (.int .i64 x.unit) ∧ w'.cell? ⟨b, o + j * 4 + 1, none⟩ = some (.int .i64 x.num) ∧ w'.cell? ⟨b, o + j * 4 + 2, none⟩ = some (.slice x.rA x.rn x.rc) ∧ w'.cell? ⟨b, o + j * 4 + 3, none⟩ = some (.slice x.cA x.cn x.cc) ∧ w'.cell? ⟨g, o2 + q * 4, none⟩ = some (.int .i64 y.unit) ∧ w'.cell? ⟨g, o2 + q * 4 + 1, none⟩ = some (.int .i64 y.num) ∧ w'.cell? ⟨g, o2 + q * 4 + 2, none⟩ = some (.slice y.rA y.rn y.rc) ∧ w'.cell? ⟨g, o2 + q * 4 + 3, none⟩ = some (.slice y.cA y.cn y.cc)) (first | go_keep | exact ⟨s0, s1, s2, s3, s4, s5, s6, s7⟩) ((go_at_call 25; (with_reducible refine (HBE.out _).mono ?_); rintro e w2 ⟨rfl, hb2⟩; have HB2 := Lib.hid (below_next HBX.out (undrew hb2) HBX.out.size); have s0 := ((undrew hb2).cell (p := ⟨b, o + j * 4, none⟩) LTX.out).trans CX.out.1; have s1 := ((undrew hb2).cell (p := ⟨b, o + j * 4 + 1, none⟩) LTX.out).trans CX.out.2.1; have s2 := ((undrew hb2).cell (p := ⟨b, o + j * 4 + 2, none⟩) LTX.out).trans CX.out.2.2.1; have s3 := ((undrew hb2).cell (p := ⟨b, o + j * 4 + 3, none⟩) LTX.out).trans CX.out.2.2.2; have s4 := ((undrew hb2).cell (p := ⟨g, o2 + q * 4, none⟩) LTY.out).trans CY.out.1; have s5 := ((undrew hb2).cell (p := ⟨g, o2 + q * 4 + 1, none⟩) LTY.out).trans CY.out.2.1; have s6 := ((undrew hb2).cell (p := ⟨g, o2 + q * 4 + 2, none⟩) LTY.out).trans CY.out.2.2.1; have s7 := ((undrew hb2).cell (p := ⟨g, o2 + q * 4 + 3, none⟩) LTY.out).trans CY.out.2.2.2; clear hb2))
              all_goals
                go_wp2_with fail
                have HB9 := HB2
                clear HB2 e1 e2 y0 y1 y2 y3 c0 c1 c2 c3 d1 d2 s0 s1 s2 s3 s4 s5 s6 s7
                have HOW9 := Lib.hid (own_below HOW1.out HB9.out)
                have HR9 := Lib.hid (Rd.of_own HOW9.out)
                have hbs : w.heap.size ≤ w2.heap.size := Nat.le_trans X1.out.size HB9.out.size
                have HBS := Lib.hid hbs
                have HBL9 : Hid (b < w2.heap.size) := Lib.hid (Nat.lt_of_lt_of_le HBL.out hbs)
                have BX9 := Lib.hid (below_next X1.out HB9.out X1.out.size)
                have c0 := (BX9.out.cell (p := ⟨b, o + j * 4 + 0, none⟩) HBL.out).trans (HCELL.out 0 _ rfl)
                have c1 := (BX9.out.cell (p := ⟨b, o + j * 4 + 1, none⟩) HBL.out).trans (HCELL.out 1 _ rfl)
                have c2 := (BX9.out.cell (p := ⟨b, o + j * 4 + 2, none⟩) HBL.out).trans (HCELL.out 2 _ rfl)
                have c3 := (BX9.out.cell (p := ⟨b, o + j * 4 + 3, none⟩) HBL.out).trans (HCELL.out 3 _ rfl)
                simp only [Nat.add_zero] at c0
                have C9 := Lib.hid (And.intro c0 (And.intro c1 (And.intro c2 c3)))
                have HTK := Lib.hid (show Rd w2 w2.heap.size 4 (some ⟨g, o2, none⟩) (k) (flat comC (outl.take k)) from by rw [← flat_take comC_len]; exact HR9.out.take (by omega))
                obtain ⟨A7, hA7⟩ : ∃ A7 : Option Addr, (if cap = k then (some ⟨g, o2, none⟩ : Option Addr) else (some ⟨g, o2, none⟩ : Option Addr).map (·.add (k * 4))) = A7 := ⟨_, rfl⟩
                have HDR : Hid (Rd w2 w2.heap.size 4 A7 (j - k) (flat comC (outl.drop k))) := Lib.hid (by have h := HR9.out.drop (k := k) (cap := cap) hk hcap; rw [flat_drop comC_len, hA7] at h; exact h)
                have hsl : ∀ W : World, (Instr.slice 22 (.slice (some ⟨g, o2, none⟩) j cap) (some (.int .i64 (k : Int))) none none).run Tryz.prog W = .ok (.slice A7 (j - k) (cap - k)) W := fun W => by rw [← hA7]; exact slice_from W (some ⟨g, o2, none⟩) j cap k hk
                clear hA7
                have HLA : Hid ((w2.alloc (.cells #[] 43)).ownsRow w2.heap.size 43 4 (.slice (some ⟨w2.heap.size, 0, none⟩) 0 0) 0 []) := Lib.hid (World.ownsRow_lit (e := 43) (base := w2.heap.size) (size := 4) w2 #[] 0 (Nat.le_refl _) (by decide) rfl)
                have HLB := Lib.hid (HLA.out.alloc (.cells #[.int .i64 x.unit, .int .i64 x.num, .slice x.rA x.rn x.rc, .slice x.cA x.cn x.cc] 43))
                have HLC : Hid (((w2.alloc (.cells #[.int .i64 x.unit, .int .i64 x.num, .slice x.rA x.rn x.rc, .slice x.cA x.cn x.cc] 43)).alloc (.cells #[] 43)).ownsRow w2.heap.size 43 4 (.slice (some ⟨w2.heap.size + 1, 0, none⟩) 0 0) 0 []) := Lib.hid (by have h := World.ownsRow_lit (e := 43) (base := w2.heap.size) (size := 4) (w2.alloc (.cells #[.int .i64 x.unit, .int .i64 x.num, .slice x.rA x.rn x.rc, .slice x.cA x.cn x.cc] 43)) #[] 0 (alloc_le _ _) (by decide) rfl; rwa [alloc_size] at h)
                have HTA := Lib.hid (HTK.out.alloc (Nat.le_refl _) (.cells #[] 43))
                have HTB := Lib.hid (HTA.out.alloc (alloc_le _ _) (.cells #[.int .i64 x.unit, .int .i64 x.num, .slice x.rA x.rn x.rc, .slice x.cA x.cn x.cc] 43))
                have HTC := Lib.hid ((HTK.out.alloc (Nat.le_refl _) (.cells #[.int .i64 x.unit, .int .i64 x.num, .slice x.rA x.rn x.rc, .slice x.cA x.cn x.cc] 43)).alloc (alloc_le _ _) (.cells #[] 43))
                have HBA := Lib.hid ((Below.refl w2.heap.size w2).alloc (Nat.le_refl _) (.cells #[] 43))
                have HBB := Lib.hid (HBA.out.alloc (alloc_le _ _) (.cells #[.int .i64 x.unit, .int .i64 x.num, .slice x.rA x.rn x.rc, .slice x.cA x.cn x.cc] 43))
                have HBC := Lib.hid (((Below.refl w2.heap.size w2).alloc (Nat.le_refl _) (.cells #[.int .i64 x.unit, .int .i64 x.num, .slice x.rA x.rn x.rc, .slice x.cA x.cn x.cc] 43)).alloc (alloc_le _ _) (.cells #[] 43))
                have RXB : Hid (Rd ((w2.alloc (.cells #[] 43)).alloc (.cells #[.int .i64 x.unit, .int .i64 x.num, .slice x.rA x.rn x.rc, .slice x.cA x.cn x.cc] 43)) (w2.heap.size + 1 + 1) 4 (some ⟨w2.heap.size + 1, 0, none⟩) 1 [.int .i64 x.unit, .int .i64 x.num, .slice x.rA x.rn x.rc, .slice x.cA x.cn x.cc]) := Lib.hid (by have h := rd_new (w2.alloc (.cells #[] 43)) [.int .i64 x.unit, .int .i64 x.num, .slice x.rA x.rn x.rc, .slice x.cA x.cn x.cc] 43 1 4 rfl; rwa [alloc_size] at h)
                have RXC : Hid (Rd ((w2.alloc (.cells #[.int .i64 x.unit, .int .i64 x.num, .slice x.rA x.rn x.rc, .slice x.cA x.cn x.cc] 43)).alloc (.cells #[] 43)) (w2.heap.size + 1) 4 (some ⟨w2.heap.size, 0, none⟩) 1 [.int .i64 x.unit, .int .i64 x.num, .slice x.rA x.rn x.rc, .slice x.cA x.cn x.cc]) := Lib.hid ((rd_new w2 [.int .i64 x.unit, .int .i64 x.num, .slice x.rA x.rn x.rc, .slice x.cA x.cn x.cc] 43 1 4 rfl).alloc (by simp) _)
                have XON : Hid (∀ u ∈ ([.int .i64 x.unit, .int .i64 x.num, .slice x.rA x.rn x.rc, .slice x.cA x.cn x.cc] : List Value), u.oneCell' = true) := Lib.hid (comC_one' x)
                have HT1 := Lib.hid (comC_one (outl.take (k)))
                have HD1 := Lib.hid (comC_one (outl.drop k))
                have EQ : Hid (([] ++ (flat comC (outl.take k))) ++ [.int .i64 x.unit, .int .i64 x.num, .slice x.rA x.rn x.rc, .slice x.cA x.cn x.cc] ++ (flat comC (outl.drop k)) = flat comC (sortB befB [] (l.take (j + 1)))) := Lib.hid (by rw [sortB_take HG.out, HOUT.out, insB_at (k := k) (by rw [HOL.out]; exact hk) HF.out HF2.out, flat_app, flat_cons]; simp [comC])
                clear HR9 c0 c1 c2 c3
                have kb0 : (0 : Int) ≤ (k : Int) := by omega
                have kb1 : (k : Int) ≤ (j : Int) := by omega
                have kb2 : (k : Int) ≤ (cap : Int) := by omega
                have c0 := C9.out.1
                have c1 := C9.out.2.1
                have c2 := C9.out.2.2.1
                have c3 := C9.out.2.2.2
                have NEB : Hid (some (w2.heap.size + 1) ≠ (Value.slice (some ⟨w2.heap.size, 0, none⟩) 0 0).ownBlock) := Lib.hid (by simp [Value.ownBlock])
                have NEC : Hid (some w2.heap.size ≠ (Value.slice (some ⟨w2.heap.size + 1, 0, none⟩) 0 0).ownBlock) := Lib.hid (by simp [Value.ownBlock])
                have LTB : Hid (w2.heap.size + 1 < ((w2.alloc (.cells #[] 43)).alloc (.cells #[.int .i64 x.unit, .int .i64 x.num, .slice x.rA x.rn x.rc, .slice x.cA x.cn x.cc] 43)).heap.size) := Lib.hid (by simp)
                have LTC : Hid (w2.heap.size < ((w2.alloc (.cells #[.int .i64 x.unit, .int .i64 x.num, .slice x.rA x.rn x.rc, .slice x.cA x.cn x.cc] 43)).alloc (.cells #[] 43)).heap.size) := Lib.hid (by simp; omega)
                have NK : Hid (0 + k + 1 + (j - k) = j + 1) := Lib.hid (by omega)
                have ZS : Hid (((.agg #[.int .i64 0, .int .i64 0, .slice none 0 0, .slice none 0 0]) : Value).cells.size = 4) := Lib.hid rfl
                have Z4 : Hid (0 < 4) := Lib.hid (by decide)
                have Ma : Hid (0 + k ≤ maxLen) := Lib.hid (by simp only [maxLen]; omega)
                have Ba : Hid ((0 + k) * 64 ≤ 140737488355328) := Lib.hid (by omega)
                have Mb : Hid (0 + k + 1 ≤ maxLen) := Lib.hid (by simp only [maxLen]; omega)
                have Bb : Hid ((0 + k + 1) * 64 ≤ 140737488355328) := Lib.hid (by omega)
                have Mc : Hid (0 + k + 1 + (j - k) ≤ maxLen) := Lib.hid (by simp only [maxLen]; omega)
                have Bc : Hid ((0 + k + 1 + (j - k)) * 64 ≤ 140737488355328) := Lib.hid (by omega)
                go_region_held3 (fun w' => w'.cell? ⟨b, o + j * 4, none⟩ = some (.int .i64 x.unit) ∧ w'.cell? ⟨b, o + j * 4 + 1, none⟩ = some (.int .i64 x.num) ∧ w'.cell? ⟨b, o + j * 4 + 2, none⟩ = some (.slice x.rA x.rn x.rc) ∧ w'.cell? ⟨b, o + j * 4 + 3, none⟩ = some (.slice x.cA x.cn x.cc)) (first | go_keep | exact ⟨p0, p1, p2, p3⟩ | exact ⟨q0, q1, q2, q3⟩ | exact ⟨r0, r1, r2, r3⟩) (first | (have _t := Y6; refine step_app _ (by rfl) (.tmp 50) (.tmp 53) 22 (by rfl) w2.heap.size 43 i0 (.agg #[.int .i64 0, .int .i64 0, .slice none 0 0, .slice none 0 0]) 4 64 Tryz.underlying22 hi0 hz0 hz1 hz2 ZS.out Z4.out v6 (0 + k + 1) (([] ++ (flat comC (outl.take k))) ++ [.int .i64 x.unit, .int .i64 x.num, .slice x.rA x.rn x.rc, .slice x.cA x.cn x.cc]) (by rfl) (by with_reducible exact HO6.out) _ A7 (j - k) (cap - k) (flat comC (outl.drop k)) (by rfl) (by with_reducible exact (HDR.out.below HB6.out)) HD1.out Mc.out Bc.out (by exact HB6.out.size) ?_; intro v7 w7 ho7 hg7 _; have HB7 := Lib.hid (HB6.out.grown hg7 HB6.out.size (own_row HO6.out (Nat.le_refl _))); have ho8 := own_low ho7 HBS.out; rw [EQ.out, NK.out] at ho8; have HO8 := Lib.hid ho8; have r0 := (HB7.out.cell (p := ⟨b, o + j * 4, none⟩) HBL9.out).trans C9.out.1; have r1 := (HB7.out.cell (p := ⟨b, o + j * 4 + 1, none⟩) HBL9.out).trans C9.out.2.1; have r2 := (HB7.out.cell (p := ⟨b, o + j * 4 + 2, none⟩) HBL9.out).trans C9.out.2.2.1; have r3 := (HB7.out.cell (p := ⟨b, o + j * 4 + 3, none⟩) HBL9.out).trans C9.out.2.2.2; clear ho7 ho8 hg7) | (have _t := YA; refine step_app _ (by rfl) (.tmp 44) (.tmp 49) 22 (by rfl) w2.heap.size 43 i0 (.agg #[.int .i64 0, .int .i64 0, .slice none 0 0, .slice none 0 0]) 4 64 Tryz.underlying22 hi0 hz0 hz1 hz2 ZS.out Z4.out v5 (0 + k) ([] ++ (flat comC (outl.take k))) (by rfl) (by with_reducible exact (HO5.out.alloc _)) _ (some ⟨w5.heap.size, 0, none⟩) 1 1 [.int .i64 x.unit, .int .i64 x.num, .slice x.rA x.rn x.rc, .slice x.cA x.cn x.cc] (by rfl) (by with_reducible exact (rd_new w5 [.int .i64 x.unit, .int .i64 x.num, .slice x.rA x.rn x.rc, .slice x.cA x.cn x.cc] 43 1 4 rfl)) XON.out Mb.out Bb.out (by exact (Nat.le_trans HB5.out.size (alloc_le _ _))) ?_; intro v6 w6 ho6 hg6 _; have HB6 := Lib.hid ((HB5.out.alloc HB5.out.size _).grown hg6 (Nat.le_trans HB5.out.size (alloc_le _ _)) (own_row HO5.out (Nat.le_refl _))); have HO6 := Lib.hid ho6; have q0 := (HB6.out.cell (p := ⟨b, o + j * 4, none⟩) HBL9.out).trans C9.out.1; have q1 := (HB6.out.cell (p := ⟨b, o + j * 4 + 1, none⟩) HBL9.out).trans C9.out.2.1; have q2 := (HB6.out.cell (p := ⟨b, o + j * 4 + 2, none⟩) HBL9.out).trans C9.out.2.2.1; have q3 := (HB6.out.cell (p := ⟨b, o + j * 4 + 3, none⟩) HBL9.out).trans C9.out.2.2.2; have Y6 : True := trivial; clear ho6 hg6) | (have _t := YB; refine step_app _ (by rfl) (.tmp 44) (.tmp 49) 22 (by rfl) w2.heap.size 43 i0 (.agg #[.int .i64 0, .int .i64 0, .slice none 0 0, .slice none 0 0]) 4 64 Tryz.underlying22 hi0 hz0 hz1 hz2 ZS.out Z4.out v5 (0 + k) ([] ++ (flat comC (outl.take k))) (by rfl) (by with_reducible exact HO5.out) _ (some ⟨w2.heap.size + 1, 0, none⟩) 1 1 [.int .i64 x.unit, .int .i64 x.num, .slice x.rA x.rn x.rc, .slice x.cA x.cn x.cc] (by rfl) (by with_reducible exact RX.out) XON.out Mb.out Bb.out (by exact HB5.out.size) ?_; intro v6 w6 ho6 hg6 _; have HB6 := Lib.hid (HB5.out.grown hg6 HB5.out.size (own_row HO5.out (Nat.le_refl _))); have HO6 := Lib.hid ho6; have q0 := (HB6.out.cell (p := ⟨b, o + j * 4, none⟩) HBL9.out).trans C9.out.1; have q1 := (HB6.out.cell (p := ⟨b, o + j * 4 + 1, none⟩) HBL9.out).trans C9.out.2.1; have q2 := (HB6.out.cell (p := ⟨b, o + j * 4 + 2, none⟩) HBL9.out).trans C9.out.2.2.1; have q3 := (HB6.out.cell (p := ⟨b, o + j * 4 + 3, none⟩) HBL9.out).trans C9.out.2.2.2; have Y6 : True := trivial; clear ho6 hg6) | (have _t := YC; refine step_app _ (by rfl) (.tmp 44) (.tmp 49) 22 (by rfl) w2.heap.size 43 i0 (.agg #[.int .i64 0, .int .i64 0, .slice none 0 0, .slice none 0 0]) 4 64 Tryz.underlying22 hi0 hz0 hz1 hz2 ZS.out Z4.out v5 (0 + k) ([] ++ (flat comC (outl.take k))) (by rfl) (by with_reducible exact HO5.out) _ (some ⟨w2.heap.size, 0, none⟩) 1 1 [.int .i64 x.unit, .int .i64 x.num, .slice x.rA x.rn x.rc, .slice x.cA x.cn x.cc] (by rfl) (by with_reducible exact RX.out) XON.out Mb.out Bb.out (by exact HB5.out.size) ?_; intro v6 w6 ho6 hg6 _; have HB6 := Lib.hid (HB5.out.grown hg6 HB5.out.size (own_row HO5.out (Nat.le_refl _))); have HO6 := Lib.hid ho6; have q0 := (HB6.out.cell (p := ⟨b, o + j * 4, none⟩) HBL9.out).trans C9.out.1; have q1 := (HB6.out.cell (p := ⟨b, o + j * 4 + 1, none⟩) HBL9.out).trans C9.out.2.1; have q2 := (HB6.out.cell (p := ⟨b, o + j * 4 + 2, none⟩) HBL9.out).trans C9.out.2.2.1; have q3 := (HB6.out.cell (p := ⟨b, o + j * 4 + 3, none⟩) HBL9.out).trans C9.out.2.2.2; have Y6 : True := trivial; clear ho6 hg6) | (refine step_app _ (by rfl) (.tmp 40) (.tmp 43) 22 (by rfl) w2.heap.size 43 i0 (.agg #[.int .i64 0, .int .i64 0, .slice none 0 0, .slice none 0 0]) 4 64 Tryz.underlying22 hi0 hz0 hz1 hz2 ZS.out Z4.out (.slice (some ⟨w2.heap.size, 0, none⟩) 0 0) 0 [] (by rfl) (by with_reducible exact (own_drew HLA.out)) _ (some ⟨g, o2, none⟩) k cap (flat comC (outl.take k)) (by rfl) (by with_reducible exact HTA.out.drew) HT1.out Ma.out Ba.out (by exact HBA.out.drew.size) ?_; intro v5 w5 ho5 hg5 _; have HB5 := Lib.hid (HBA.out.drew.grown hg5 HBA.out.drew.size (own_row HLA.out (Nat.le_refl _))); have HO5 := Lib.hid ho5; have p0 := (HB5.out.cell (p := ⟨b, o + j * 4, none⟩) HBL9.out).trans C9.out.1; have p1 := (HB5.out.cell (p := ⟨b, o + j * 4 + 1, none⟩) HBL9.out).trans C9.out.2.1; have p2 := (HB5.out.cell (p := ⟨b, o + j * 4 + 2, none⟩) HBL9.out).trans C9.out.2.2.1; have p3 := (HB5.out.cell (p := ⟨b, o + j * 4 + 3, none⟩) HBL9.out).trans C9.out.2.2.2; have YA : True := trivial; clear ho5 hg5) | (refine step_app _ (by rfl) (.tmp 40) (.tmp 43) 22 (by rfl) w2.heap.size 43 i0 (.agg #[.int .i64 0, .int .i64 0, .slice none 0 0, .slice none 0 0]) 4 64 Tryz.underlying22 hi0 hz0 hz1 hz2 ZS.out Z4.out (.slice (some ⟨w2.heap.size, 0, none⟩) 0 0) 0 [] (by rfl) (by with_reducible exact (own_drew HLB.out)) _ (some ⟨g, o2, none⟩) k cap (flat comC (outl.take k)) (by rfl) (by with_reducible exact HTB.out.drew) HT1.out Ma.out Ba.out (by exact HBB.out.drew.size) ?_; intro v5 w5 ho5 hg5 _; have HB5 := Lib.hid (HBB.out.drew.grown hg5 HBB.out.drew.size (own_row HLB.out (Nat.le_refl _))); have HO5 := Lib.hid ho5; have p0 := (HB5.out.cell (p := ⟨b, o + j * 4, none⟩) HBL9.out).trans C9.out.1; have p1 := (HB5.out.cell (p := ⟨b, o + j * 4 + 1, none⟩) HBL9.out).trans C9.out.2.1; have p2 := (HB5.out.cell (p := ⟨b, o + j * 4 + 2, none⟩) HBL9.out).trans C9.out.2.2.1; have p3 := (HB5.out.cell (p := ⟨b, o + j * 4 + 3, none⟩) HBL9.out).trans C9.out.2.2.2; have RX := Lib.hid (rd_far RXB.out.drew hg5 LTB.out NEB.out); have YB : True := trivial; clear ho5 hg5) | (refine step_app _ (by rfl) (.tmp 40) (.tmp 43) 22 (by rfl) w2.heap.size 43 i0 (.agg #[.int .i64 0, .int .i64 0, .slice none 0 0, .slice none 0 0]) 4 64 Tryz.underlying22 hi0 hz0 hz1 hz2 ZS.out Z4.out (.slice (some ⟨w2.heap.size + 1, 0, none⟩) 0 0) 0 [] (by rfl) (by with_reducible exact (own_drew HLC.out)) _ (some ⟨g, o2, none⟩) k cap (flat comC (outl.take k)) (by rfl) (by with_reducible exact HTC.out.drew) HT1.out Ma.out Ba.out (by exact HBC.out.drew.size) ?_; intro v5 w5 ho5 hg5 _; have HB5 := Lib.hid (HBC.out.drew.grown hg5 HBC.out.drew.size (own_row HLC.out (Nat.le_refl _))); have HO5 := Lib.hid ho5; have p0 := (HB5.out.cell (p := ⟨b, o + j * 4, none⟩) HBL9.out).trans C9.out.1; have p1 := (HB5.out.cell (p := ⟨b, o + j * 4 + 1, none⟩) HBL9.out).trans C9.out.2.1; have p2 := (HB5.out.cell (p := ⟨b, o + j * 4 + 2, none⟩) HBL9.out).trans C9.out.2.2.1; have p3 := (HB5.out.cell (p := ⟨b, o + j * 4 + 3, none⟩) HBL9.out).trans C9.out.2.2.2; have RX := Lib.hid (rd_far RXC.out.drew hg5 LTC.out NEC.out); have YC : True := trivial; clear ho5 hg5))
                all_goals
                  obtain ⟨g7, cap7, hv7, _, _⟩ := own_at HO8.out (Nat.succ_pos _)
                  subst hv7
                  go_wp2
                  go_roundw
                  case rel => exact ⟨j + 1, g7, 0, cap7, by omega, by go_num, rfl, all_step HA.out HG.out HP.out, HO8.out, below_next X1.out (HB9.out.trans (HB7.out.mono HB9.out.size)) X1.out.size⟩
                  case measure => simp [intOf]; omega
    · have hjn : n = j := by omega
      subst hjn
      have htk : l.take n = l := List.take_of_length_le (by rw [HL.out]; exact Nat.le_refl _)
      obtain ⟨s, hsort⟩ : ∃ s, sortB befB [] l = s := ⟨_, rfl⟩
      rw [htk, hsort] at HOW
      have hall : ∀ x ∈ l, comB x = true := fun x hx => by
        obtain ⟨t, ht, rfl⟩ := List.getElem_of_mem hx
        exact HA.out t (by have := HL.out; omega) _ (List.getElem?_eq_getElem ht)
      have hmem : ∀ x ∈ s, x ∈ l := fun x hx => by
        rw [← hsort, mem_sortB] at hx
        rcases hx with hx | hx
        · cases hx
        · exact hx
      have hsl : s.length = n := by rw [← hsort, sortB_len]; simpa using HL.out
      have hr2 : r = if chkL 0 s = true then some s else none := by
        rw [← HR.out, ← hsort]
        unfold ordB
        rw [if_neg (by rw [List.any_eq_true]; rintro ⟨x, hx, hc⟩; rw [hall x hx] at hc; simp at hc)]
      have HALL := Lib.hid hall
      have HMEM := Lib.hid hmem
      have HSLN := Lib.hid hsl
      have HRR := Lib.hid hr2
      have HSL3 := Lib.hid (Sl.of_own (f := comC) (k := 4) comC_len (by decide) HOW.out)
      have HCS := Lib.hid (show Cs wr wr.heap.size (some ⟨g, o2, none⟩) n cap s from ⟨HSL3.out, fun x hx => (HS.out.2 x (HMEM.out x hx)).after HB.out HB.out.size⟩)
      clear htk hsort hall hmem hsl hr2
      go_wp2
      go_loopw [7, 8] (fun v7 v8 wx => ∃ (i : Nat) (nv : Int), i ≤ n ∧ v8 = .int .i64 i ∧ v7 = .int .i64 nv ∧ chkL 0 s = chkL nv (s.drop i) ∧ Below wr.heap.size wr wx) (fun _ v8 _ => n - (intOf v8).toNat)
      case atStart => exact ⟨0, 0, Nat.zero_le _, rfl, rfl, rfl, Below.refl _ _⟩
      case round =>
        obtain ⟨i, nv, hi, rfl, rfl, hchk, hbx⟩ := hrel
        have HCHK := Lib.hid hchk
        have HBX := Lib.hid hbx
        clear hchk hbx
        by_cases hli : i < n
        · obtain ⟨b, o, x, hA, hb, hg, hcell⟩ := Sl.cell (f := comC) (k := 4) comC_len (HSL3.out.below HBX.out) hli
          cases hA
          have c0 := hcell 0 _ rfl
          have c1 := hcell 1 _ rfl
          have c2 := hcell 2 _ rfl
          have c3 := hcell 3 _ rfl
          simp only [Nat.add_zero] at c0
          have hx := HALL.out x (HMEM.out x (List.mem_of_getElem? hg))
          obtain ⟨n1, n2, n3⟩ := comB_num hx
          have hd : s.drop i = x :: s.drop (i + 1) := by
            have hjs : i < s.length := by rw [HSLN.out]; exact hli
            rw [List.drop_eq_getElem_cons hjs]
            congr 1
            exact (List.getElem?_eq_some_iff.1 hg).2
          have hstep : chkL 0 s = if x.num ≤ nv then false else chkL (if 0 < x.cn then x.num + x.cn - 1 else nv) (s.drop (i + 1)) := by rw [HCHK.out, hd]; rfl
          have HLA := Lib.hid fun W => rlast_any x W n1 n2 n3
          have bsz := HBX.out.size
          unfold comV at HLA
          clear hb hg hcell hx n2 hd
          by_cases hle : x.num ≤ nv
          · rw [if_pos hle] at hstep
            have HST : Hid (r = none) := Lib.hid (by rw [HRR.out, hstep]; rfl)
            have d1 : decide (x.num ≤ nv) = true := by simpa using hle
            have BW := Lib.hid (HB.out.trans (HBX.out.mono HB.out.size))
            clear hstep hle n1 n3
            go_wp2
            go_ret2
            exact .inl ⟨HST.out, rfl, BW.out⟩
          · rw [if_neg hle] at hstep
            have d1 : decide (x.num ≤ nv) = false := by simpa using hle
            by_cases hc : 0 < x.cn
            · rw [if_pos hc] at hstep
              have HST := Lib.hid hstep
              have d2 : decide (0 < x.cn) = true := by simpa using hc
              have d3 : decide ((0 : Int) < (x.cn : Int)) = true := by simpa using hc
              clear hstep hle hc n1 n3
              go_wp2_with (go_at_call 26; refine (HLA.out _).mono ?_; rintro e w4 ⟨rfl, hb4⟩; have HB4 := Lib.hid (below_next HBX.out hb4 bsz); clear hb4)
              go_roundw
              case rel => exact ⟨i + 1, _, by omega, by go_num, rfl, HST.out, HB4.out⟩
              case measure => simp [intOf]; omega
            · rw [if_neg hc] at hstep
              have HST := Lib.hid hstep
              have d2 : decide (0 < x.cn) = false := by simpa using hc
              have d3 : decide ((0 : Int) < (x.cn : Int)) = false := by simp; omega
              clear hstep hle hc n1 n3
              go_wp2
              go_roundw
              case rel => exact ⟨i + 1, _, by omega, by go_num, rfl, HST.out, HBX.out⟩
              case measure => simp [intOf]; omega
        · have hst : chkL 0 s = true := by rw [HCHK.out, List.drop_of_length_le (by rw [HSLN.out]; omega)]; rfl
          have HST : Hid (r = some s) := Lib.hid (by rw [HRR.out, hst]; rfl)
          have BW := Lib.hid (HB.out.trans (HBX.out.mono HB.out.size))
          clear hst
          go_wp2
          go_ret2
          exact .inr ⟨s, HST.out, some ⟨g, o2, none⟩, cap, by rw [HSLN.out]; rfl, by rw [HSLN.out]; exact HCS.out.after HBX.out HBX.out.size, BW.out⟩
end Go.Proofs.YtoiocnpamplhdaaGreatDoor
