/- History: which units conflict, as a plain list of pairs; Conflicts of the program, for every list (the second part printed by wip/history/gen_pb.py). -/
import Derived.Test.YtpklgdclknicjaaGreatDoorKD
import Derived.Test.YtpklgdclknicjaaGreatDoorHO
import Derived.Deep.RegionHeld3
namespace Go.Proofs.YtpklgdclknicjaaGreatDoor
open Go.RowKit

def confB (a b : Com) : Bool := meetB (a.cs.map chT) (b.cs.map chT) || (meetB (a.cs.map chT) (b.rs.map rdT) || meetB (a.rs.map rdT) (b.cs.map chT))
def confAt (s : List Com) (i k : Nat) : Bool := match s[i]?, s[k]? with
  | some a, some b => confB a b
  | _, _ => false
theorem confAt_is {s : List Com} {i k : Nat} {a b : Com} (h1 : s[i]? = some a) (h2 : s[k]? = some b) : confAt s i k = confB a b := by
  unfold confAt; rw [h1, h2]
def pC (p : Nat × Nat) : List Value := [.int .i64 p.1, .int .i64 p.2]
theorem pC_len (p : Nat × Nat) : (pC p).length = 2 := rfl
theorem pC_one (l : List (Nat × Nat)) : ∀ u ∈ flat pC l, u.oneCell' = true := by
  intro u hu
  obtain ⟨c, _, h⟩ := List.mem_flatMap.1 hu
  simp [pC] at h
  rcases h with rfl | rfl <;> rfl
/-- the pairs (i, q) for q below k -/
def rowL (s : List Com) (i k : Nat) : List (Nat × Nat) := ((List.range k).filter fun q => decide (i < q) && confAt s i q).map fun q => (i, q)
/-- the pairs of the units below i -/
def confL (s : List Com) (i : Nat) : List (Nat × Nat) := (List.range i).flatMap fun q => rowL s q s.length
theorem confL_zero (s : List Com) : confL s 0 = [] := rfl
theorem confL_succ (s : List Com) (i : Nat) : confL s (i + 1) = confL s i ++ rowL s i s.length := by
  unfold confL
  rw [List.range_succ, List.flatMap_append, List.flatMap_cons, List.flatMap_nil, List.append_nil]
theorem rowL_start (s : List Com) (i : Nat) : rowL s i (i + 1) = [] := by
  unfold rowL
  rw [List.map_eq_nil_iff, List.filter_eq_nil_iff]
  intro q hq
  have : q < i + 1 := List.mem_range.1 hq
  simp; omega
theorem rowL_yes {s : List Com} {i k : Nat} (h : i < k) (hc : confAt s i k = true) : rowL s i (k + 1) = rowL s i k ++ [(i, k)] := by
  unfold rowL
  rw [List.range_succ, List.filter_append, List.map_append]
  simp [h, hc]
theorem rowL_no {s : List Com} {i k : Nat} (hc : confAt s i k = false) : rowL s i (k + 1) = rowL s i k := by
  unfold rowL
  rw [List.range_succ, List.filter_append, List.map_append]
  simp [hc]
theorem rowL_len (s : List Com) (i k : Nat) : (rowL s i k).length ≤ k := by
  unfold rowL
  rw [List.length_map]
  exact Nat.le_trans (List.length_filter_le _ _) (by simp)
theorem confL_len (s : List Com) : ∀ i, (confL s i).length ≤ i * s.length
  | 0 => by simp [confL]
  | i + 1 => by
    rw [confL_succ, List.length_append, Nat.succ_mul]
    have := confL_len s i
    have := rowL_len s i s.length
    omega
/-- the call returns a slice that reads as these pairs -/
def GivesP (w : World) (l : List (Nat × Nat)) (e : Ending) (w' : World) : Prop := ∃ A c, e = .returned (.slice A l.length c) ∧ Sl pC 2 w' w'.heap.size A l.length c l ∧ Below w.heap.size w w'
theorem infoPP : (Tryz.prog.info? 58).map (fun i => (i.zero, i.size, i.bytes)) = some (some (.agg #[.int .i64 0, .int .i64 0]), 2, 16) := by kernel_rfl
/-- what holds in the region of the three meets -/
structure CI (wx : World) (ga : Nat) (ca cb : Array Value) (W : World) : Prop where
  bx : Below wx.heap.size wx W
  ba : Blk W ga 47 ca
  bb : Blk W wx.heap.size 47 cb
  lt : ga < wx.heap.size
section
variable {wx W W' : World} {ga : Nat} {ca cb : Array Value}
theorem CI.next (h : CI wx ga ca cb W) (hb : Below W.heap.size W W') : CI wx ga ca cb W' :=
  ⟨below_next h.bx hb h.bx.size, h.ba.below hb h.ba.lt, h.bb.below hb h.bb.lt, h.lt⟩
theorem CI.drew (h : CI wx ga ca cb W) : CI wx ga ca cb W.drew := ⟨h.bx.drew, h.ba, h.bb, h.lt⟩
theorem CI.start (h : Blk wx ga 47 ca) (cb : Array Value) : CI wx ga ca cb (wx.alloc (.cells cb 47)) :=
  ⟨(Below.refl _ _).alloc (Nat.le_refl _) _, h.alloc _, Blk.new wx _ cb, h.lt⟩
theorem CI.cells {a0 a1 a2 a3 b0 b1 b2 b3 : Value} (h : CI wx ga #[a0, a1, a2, a3] #[b0, b1, b2, b3] W) :
    W.cell? ⟨ga, 0, none⟩ = some a0 ∧ W.cell? ⟨ga, 1, none⟩ = some a1 ∧ W.cell? ⟨ga, 2, none⟩ = some a2 ∧ W.cell? ⟨ga, 3, none⟩ = some a3 ∧
    W.cell? ⟨wx.heap.size, 0, none⟩ = some b0 ∧ W.cell? ⟨wx.heap.size, 1, none⟩ = some b1 ∧ W.cell? ⟨wx.heap.size, 2, none⟩ = some b2 ∧ W.cell? ⟨wx.heap.size, 3, none⟩ = some b3 :=
  ⟨h.ba.cell 0, h.ba.cell 1, h.ba.cell 2, h.ba.cell 3, h.bb.cell 0, h.bb.cell 1, h.bb.cell 2, h.bb.cell 3⟩
end
end Go.Proofs.YtpklgdclknicjaaGreatDoor
namespace Go.Proofs.YtpklgdclknicjaaGreatDoor
open Go.RowKit

/-- the units of a list in their order; none, where it has none -/
def ordS (l : List Com) : List Com := (ordB l).getD []
theorem ordS_mem {l : List Com} {x : Com} (h : x ∈ ordS l) : x ∈ l := by
  unfold ordS ordB at h
  split at h
  · simp at h
  · split at h
    · simp only [Option.getD_some] at h
      rw [mem_sortB] at h
      simpa using h
    · simp at h
theorem ordS_len (l : List Com) : (ordS l).length ≤ l.length := by
  unfold ordS ordB
  split
  · simp
  · split
    · simp only [Option.getD_some]
      rw [sortB_len]; simp
    · simp
def OrdG (s : List Com) (m : Nat) (w : World) (e : Ending) (w' : World) : Prop := ∃ A c ok, e = .returned (.tuple #[.slice A m c, .bool ok]) ∧ Cs w' w'.heap.size A m c s ∧ Below w.heap.size w w'
theorem ord_gives {l : List Com} {w w' : World} {e : Ending} (h : OrdP (ordB l) w e w') : OrdG (ordS l) (ordS l).length w e w' := by
  rcases h with ⟨h, rfl, hb⟩ | ⟨s, h, A, c, rfl, hs, hb⟩
  · unfold ordS; rw [h]
    exact ⟨none, 0, false, rfl, ⟨Sl.nil, fun x hx => by simp at hx⟩, hb⟩
  · unfold ordS; rw [h]
    exact ⟨A, c, true, rfl, hs, hb⟩
/-- the lists of touches may be handed to the calls -/
def Sm (x : Com) : Prop := x.cn ≤ 1000 ∧ x.rn ≤ 1000

set_option maxRecDepth 100000 in
set_option maxHeartbeats 2000000 in
theorem hconf_any (A : Option Addr) (n c : Nat) (l : List Com) (w : World) (hs : Cs w w.heap.size A n c l) (hv : ∀ x ∈ l, VolsOk x) (hn : n ≤ 12) (hsm : ∀ x ∈ l, Sm x) :
    Calls Tryz.prog 10 #[.slice A n c] w (GivesP w (confL (ordS l) (ordS l).length)) := by
  have HO := Lib.hid (order_any A n c l w hs hv hn)
  have HM : Hid (∀ x ∈ ordS l, Sm x) := Lib.hid fun x hx => hsm x (ordS_mem hx)
  have HLN : Hid ((ordS l).length ≤ 12) := Lib.hid (Nat.le_trans (ordS_len l) (by rw [hs.1.len]; exact hn))
  have HG : Hid (∀ e w', OrdP (ordB l) w e w' → OrdG (ordS l) (ordS l).length w e w') := Lib.hid fun e w' h => ord_gives h
  obtain ⟨i0, hi0, hz0, hz1, hz2⟩ := info_parts infoPP
  clear hs hv hsm hn
  obtain ⟨s, hs⟩ : ∃ s, ordS l = s := ⟨_, rfl⟩
  rw [hs] at HM HLN HG ⊢
  clear hs
  obtain ⟨m, hm⟩ : ∃ m, s.length = m := ⟨_, rfl⟩
  rw [hm] at HLN HG ⊢
  have hm12 := HLN.out
  have HMM := Lib.hid hm
  clear hm HLN
  go_enter Tryz.func10, Tryz.ntmps10
  go_wp2_with (go_at_call 8; refine HO.out.mono ?_; intro e w1 hp; obtain ⟨A1, c1, ok, rfl, hcs, hb1⟩ := HG.out _ _ hp; have HCS := Lib.hid hcs; have HB1 := Lib.hid hb1; clear hp hcs hb1 HG HO)
  go_loopw [5, 17] (fun v5 v17 wr => ∃ i : Nat, i ≤ m ∧ v17 = .int .i64 i ∧ wr.ownsRow w1.heap.size 58 2 v5 (confL s i).length (flat pC (confL s i)) ∧ Below w1.heap.size w1 wr) (fun _ v17 _ => m - (intOf v17).toNat)
  case atStart => exact ⟨0, Nat.zero_le _, rfl, ⟨rfl, .inl ⟨rfl, rfl⟩⟩, Below.refl _ _⟩
  case round =>
    obtain ⟨w2, hw2⟩ : ∃ w2, w2 = wr := ⟨_, rfl⟩
    subst hw2
    obtain ⟨i, hi, rfl, hown, hbel⟩ := hrel
    have HOW := Lib.hid hown
    have HB := Lib.hid hbel
    clear hown hbel
    by_cases hlt : i < m
    · obtain ⟨b, o, a, rfl, hb, hg, hcell⟩ := Sl.cell (f := comC) (k := 4) comC_len HCS.out.1 hlt
      have HBL := Lib.hid hb
      have HGA := Lib.hid hg
      have c0 := (HB.out.cell (p := ⟨b, o + i * 4 + 0, none⟩) hb).trans (hcell 0 _ rfl)
      have c1 := (HB.out.cell (p := ⟨b, o + i * 4 + 1, none⟩) hb).trans (hcell 1 _ rfl)
      have c2 := (HB.out.cell (p := ⟨b, o + i * 4 + 2, none⟩) hb).trans (hcell 2 _ rfl)
      have c3 := (HB.out.cell (p := ⟨b, o + i * 4 + 3, none⟩) hb).trans (hcell 3 _ rfl)
      simp only [Nat.add_zero] at c0
      have HMA := Lib.hid (List.mem_of_getElem? hg)
      clear hb hg hcell
      go_wp2_with fail
      go_loopw [5, 8] (fun v5 v8 wx => ∃ k : Nat, i < k ∧ k ≤ m ∧ v8 = .int .i64 k ∧ wx.ownsRow w1.heap.size 58 2 v5 ((confL s i ++ rowL s i k).length) (flat pC (confL s i ++ rowL s i k)) ∧ Blk wx w2.heap.size 47 #[.int .i64 a.unit, .int .i64 a.num, .slice a.rA a.rn a.rc, .slice a.cA a.cn a.cc] ∧ Below w1.heap.size w1 wx) (fun _ v8 _ => m - (intOf v8).toNat)
      case atStart => exact ⟨i + 1, Nat.lt_succ_self _, hlt, by go_num, by rw [rowL_start, List.append_nil]; exact HOW.out.alloc _, Blk.new w2 _ _, HB.out.alloc HB.out.size _⟩
      case round =>
        obtain ⟨k, hik, hk, rfl, hown, hblk, hbel⟩ := hrel
        have HOX := Lib.hid hown
        have HKA := Lib.hid hblk
        have HBW := Lib.hid hbel
        have HLE : Hid ((confL s i ++ rowL s i k).length ≤ 156) := Lib.hid (by rw [List.length_append]; have h1 := confL_len s i; have h2 := rowL_len s i k; rw [HMM.out] at h1; have h3 : i * m ≤ 144 := Nat.mul_le_mul (Nat.le_trans (Nat.le_of_lt hlt) hm12) hm12; omega)
        clear hown hblk hbel c0 c1 c2 c3
        by_cases hkm : k < m
        · obtain ⟨b9, o9, x, hA9, hb9, hg9, hcell9⟩ := Sl.cell (f := comC) (k := 4) comC_len HCS.out.1 hkm
          cases hA9
          have d0 := (HBW.out.cell (p := ⟨b, o + k * 4 + 0, none⟩) hb9).trans (hcell9 0 _ rfl)
          have d1 := (HBW.out.cell (p := ⟨b, o + k * 4 + 1, none⟩) hb9).trans (hcell9 1 _ rfl)
          have d2 := (HBW.out.cell (p := ⟨b, o + k * 4 + 2, none⟩) hb9).trans (hcell9 2 _ rfl)
          have d3 := (HBW.out.cell (p := ⟨b, o + k * 4 + 3, none⟩) hb9).trans (hcell9 3 _ rfl)
          simp only [Nat.add_zero] at d0
          have HMX := Lib.hid (List.mem_of_getElem? hg9)
          obtain ⟨C1, hC1⟩ : ∃ C1, meetB (a.cs.map chT) (x.cs.map chT) = C1 := ⟨_, rfl⟩
          obtain ⟨C2, hC2⟩ : ∃ C2, meetB (a.cs.map chT) (x.rs.map rdT) = C2 := ⟨_, rfl⟩
          obtain ⟨C3, hC3⟩ : ∃ C3, meetB (a.rs.map rdT) (x.cs.map chT) = C3 := ⟨_, rfl⟩
          have HCF : Hid (confAt s i k = (C1 || (C2 || C3))) := Lib.hid (by rw [confAt_is HGA.out hg9]; unfold confB; rw [hC1, hC2, hC3])
          have HCA : Hid (∀ W : World, Below w1.heap.size w1 W → Calls Tryz.prog 31 #[.agg #[.int .i64 a.unit, .int .i64 a.num, .slice a.rA a.rn a.rc, .slice a.cA a.cn a.cc]] W (GivesT W a.cn (a.cs.map chT))) := Lib.hid fun W hW => changed_any a W ((HCS.out.2 a HMA.out).after hW hW.size) (HM.out a HMA.out).1
          have HRA : Hid (∀ W : World, Below w1.heap.size w1 W → Calls Tryz.prog 32 #[.agg #[.int .i64 a.unit, .int .i64 a.num, .slice a.rA a.rn a.rc, .slice a.cA a.cn a.cc]] W (GivesT W a.rn (a.rs.map rdT))) := Lib.hid fun W hW => read_any a W ((HCS.out.2 a HMA.out).after hW hW.size) (HM.out a HMA.out).2
          have HCX : Hid (∀ W : World, Below w1.heap.size w1 W → Calls Tryz.prog 31 #[.agg #[.int .i64 x.unit, .int .i64 x.num, .slice x.rA x.rn x.rc, .slice x.cA x.cn x.cc]] W (GivesT W x.cn (x.cs.map chT))) := Lib.hid fun W hW => changed_any x W ((HCS.out.2 x HMX.out).after hW hW.size) (HM.out x HMX.out).1
          have HRX : Hid (∀ W : World, Below w1.heap.size w1 W → Calls Tryz.prog 32 #[.agg #[.int .i64 x.unit, .int .i64 x.num, .slice x.rA x.rn x.rc, .slice x.cA x.cn x.cc]] W (GivesT W x.rn (x.rs.map rdT))) := Lib.hid fun W hW => read_any x W ((HCS.out.2 x HMX.out).after hW hW.size) (HM.out x HMX.out).2
          have HM1 : Hid (∀ (W : World) (A : Option Addr) (c : Nat) (A' : Option Addr) (c' : Nat), Sl tchC 4 W W.heap.size A a.cn c (a.cs.map chT) → Sl tchC 4 W W.heap.size A' x.cn c' (x.cs.map chT) → Calls Tryz.prog 30 #[.slice A a.cn c, .slice A' x.cn c'] W fun e w' => e = .returned (.bool C1) ∧ Below W.heap.size W w') := Lib.hid fun W A c A' c' h h' => by rw [← hC1]; exact hmeet_any A A' _ c _ c' _ _ W h h' (HM.out a HMA.out).1 (HM.out x HMX.out).1
          have HM2 : Hid (∀ (W : World) (A : Option Addr) (c : Nat) (A' : Option Addr) (c' : Nat), Sl tchC 4 W W.heap.size A a.cn c (a.cs.map chT) → Sl tchC 4 W W.heap.size A' x.rn c' (x.rs.map rdT) → Calls Tryz.prog 30 #[.slice A a.cn c, .slice A' x.rn c'] W fun e w' => e = .returned (.bool C2) ∧ Below W.heap.size W w') := Lib.hid fun W A c A' c' h h' => by rw [← hC2]; exact hmeet_any A A' _ c _ c' _ _ W h h' (HM.out a HMA.out).1 (HM.out x HMX.out).2
          have HM3 : Hid (∀ (W : World) (A : Option Addr) (c : Nat) (A' : Option Addr) (c' : Nat), Sl tchC 4 W W.heap.size A a.rn c (a.rs.map rdT) → Sl tchC 4 W W.heap.size A' x.cn c' (x.cs.map chT) → Calls Tryz.prog 30 #[.slice A a.rn c, .slice A' x.cn c'] W fun e w' => e = .returned (.bool C3) ∧ Below W.heap.size W w') := Lib.hid fun W A c A' c' h h' => by rw [← hC3]; exact hmeet_any A A' _ c _ c' _ _ W h h' (HM.out a HMA.out).2 (HM.out x HMX.out).1
          clear hC1 hC2 hC3 hb9 hg9 hcell9
          have HX := Lib.hid (CI.start HKA.out #[.int .i64 x.unit, .int .i64 x.num, .slice x.rA x.rn x.rc, .slice x.cA x.cn x.cc])
          have hga := HX.out.lt
          go_wp2_with fail
          have HBK : Hid (Blk (wr.alloc (.cells #[.int .i64 x.unit, .int .i64 x.num, .slice x.rA x.rn x.rc, .slice x.cA x.cn x.cc] 47)).drew w2.heap.size 47 #[.int .i64 a.unit, .int .i64 a.num, .slice a.rA a.rn a.rc, .slice a.cA a.cn a.cc] ∧ Blk (wr.alloc (.cells #[.int .i64 x.unit, .int .i64 x.num, .slice x.rA x.rn x.rc, .slice x.cA x.cn x.cc] 47)).drew wr.heap.size 47 #[.int .i64 x.unit, .int .i64 x.num, .slice x.rA x.rn x.rc, .slice x.cA x.cn x.cc]) := Lib.hid ⟨HX.out.ba, HX.out.bb⟩
          clear HX
          cases C1 with
          | true =>
            have HX0 : Hid (Below wr.heap.size wr (wr.alloc (.cells #[.int .i64 x.unit, .int .i64 x.num, .slice x.rA x.rn x.rc, .slice x.cA x.cn x.cc] 47)).drew) := Lib.hid ((Below.refl _ _).alloc (Nat.le_refl _) _).drew
            refine wp_region_held_drew (S := fun w' => Blk w' w2.heap.size 47 #[.int .i64 a.unit, .int .i64 a.num, .slice a.rA a.rn a.rc, .slice a.cA a.cn a.cc] ∧ Blk w' wr.heap.size 47 #[.int .i64 x.unit, .int .i64 x.num, .slice x.rA x.rn x.rc, .slice x.cA x.cn x.cc]) (by kernel_rfl) HBK.out (fun hHeld => ?_)
            refine wpAnyH_take (i := 0) (oi := ?_) (v := .agg #[.int .i64 a.unit, .int .i64 a.num, .slice a.rA a.rn a.rc, .slice a.cA a.cn a.cc]) ?_ (by kernel_rfl) ?_ ?_ ?_ ?_ hHeld ?_
            rotate_left
            · simp only [List.getElem?_toArray, List.getElem?_cons_zero]; rfl
            · kernel_rfl
            · kernel_rfl
            · exact fun _ _ _ h => h
            · exact Or.inl ⟨by rfl, by intro w' hSw; have h0 := hSw.1.cell 0; have h1 := hSw.1.cell 1; have h2 := hSw.1.cell 2; have h3 := hSw.1.cell 3; simp at h0 h1 h2 h3; go_simp⟩
            simp only [Act.put, List.setIfInBounds_toArray, List.set_cons_zero, List.set_cons_succ]
            refine wpAnyH_take (i := 2) (oi := ?_) (v := .agg #[.int .i64 x.unit, .int .i64 x.num, .slice x.rA x.rn x.rc, .slice x.cA x.cn x.cc]) ?_ (by kernel_rfl) ?_ ?_ ?_ ?_ hHeld ?_
            rotate_left
            · simp only [List.getElem?_toArray, List.getElem?_cons_zero, List.getElem?_cons_succ]; rfl
            · kernel_rfl
            · kernel_rfl
            · exact fun _ _ _ h => h
            · exact Or.inl ⟨by rfl, by intro w' hSw; have h0 := hSw.2.cell 0; have h1 := hSw.2.cell 1; have h2 := hSw.2.cell 2; have h3 := hSw.2.cell 3; simp at h0 h1 h2 h3; go_simp⟩
            simp only [Act.put, List.setIfInBounds_toArray, List.set_cons_zero, List.set_cons_succ]
            refine wpAnyH_ready (rs := [1]) (by kernel_rfl) (by simp) ?_
            refine AllReadyH.cons (o := ?_) ?_ (fun K hK => ?_) ?_
            rotate_left
            · simp only [List.getElem?_toArray, List.getElem?_cons_zero, List.getElem?_cons_succ]; rfl
            · go_simp
              refine (HCA.out _ (below_next HBW.out HX0.out HBW.out.size)).mono ?_
              rintro e y1 ⟨Aa1, ca1, rfl, hs, hb⟩
              simp only []
              have HX1 := Lib.hid (below_next HX0.out hb HX0.out.size)
              have Sa1 := Lib.hid hs
              clear hs
              obtain ⟨q0, q1⟩ := hHeld
              refine hK.out _ _ ⟨q0.below hb q0.lt, q1.below hb q1.lt⟩ (fun hHeld => ?_)
              clear hK K hb q0 q1
              try simp only [Act.put, List.setIfInBounds_toArray, List.set_cons_zero, List.set_cons_succ]
              refine wpAnyH_ready (rs := [3]) (by kernel_rfl) (by simp) ?_
              refine AllReadyH.cons (o := ?_) ?_ (fun K hK => ?_) ?_
              rotate_left
              · simp only [List.getElem?_toArray, List.getElem?_cons_zero, List.getElem?_cons_succ]; rfl
              · go_simp
                refine (HCX.out _ (below_next HBW.out HX1.out HBW.out.size)).mono ?_
                rintro e y2 ⟨Ax1, cx1, rfl, hs, hb⟩
                simp only []
                have HX2 := Lib.hid (below_next HX1.out hb HX1.out.size)
                have Sa1n := Lib.hid (Sa1.out.after hb hb.size)
                have Sx1 := Lib.hid hs
                clear hs
                obtain ⟨q0, q1⟩ := hHeld
                refine hK.out _ _ ⟨q0.below hb q0.lt, q1.below hb q1.lt⟩ (fun hHeld => ?_)
                clear hK K hb q0 q1
                try simp only [Act.put, List.setIfInBounds_toArray, List.set_cons_zero, List.set_cons_succ]
                refine wpAnyH_ready (rs := [4]) (by kernel_rfl) (by simp) ?_
                refine AllReadyH.cons (o := ?_) ?_ (fun K hK => ?_) ?_
                rotate_left
                · simp only [List.getElem?_toArray, List.getElem?_cons_zero, List.getElem?_cons_succ]; rfl
                · go_simp
                  refine (HM1.out _ _ _ _ _ Sa1n.out Sx1.out).mono ?_
                  rintro e y3 ⟨rfl, hb⟩
                  simp only []
                  have HX3 := Lib.hid (below_next HX2.out hb HX2.out.size)
                  obtain ⟨q0, q1⟩ := hHeld
                  refine hK.out _ _ ⟨q0.below hb q0.lt, q1.below hb q1.lt⟩ (fun hHeld => ?_)
                  clear hK K hb q0 q1
                  try simp only [Act.put, List.setIfInBounds_toArray, List.set_cons_zero, List.set_cons_succ]
                  refine wpAnyH_take (i := 5) (oi := ?_) (v := .bool true) ?_ (by kernel_rfl) ?_ ?_ ?_ ?_ hHeld ?_
                  rotate_left
                  · simp only [List.getElem?_toArray, List.getElem?_cons_zero, List.getElem?_cons_succ]; rfl
                  · kernel_rfl
                  · kernel_rfl
                  · exact fun _ _ _ h => h
                  · exact Or.inl ⟨by rfl, by intro w' hSw; go_simp⟩
                  simp only [Act.put, List.setIfInBounds_toArray, List.set_cons_zero, List.set_cons_succ]
                  refine wpAnyH_take (i := 6) (oi := ?_) (v := undef) ?_ (by kernel_rfl) ?_ ?_ ?_ ?_ hHeld ?_
                  rotate_left
                  · simp only [List.getElem?_toArray, List.getElem?_cons_zero, List.getElem?_cons_succ]; rfl
                  · kernel_rfl
                  · kernel_rfl
                  · exact fun _ _ _ h => h
                  · exact Or.inr ⟨by rfl, rfl⟩
                  simp only [Act.put, List.setIfInBounds_toArray, List.set_cons_zero, List.set_cons_succ]
                  refine wpAnyH_take (i := 8) (oi := ?_) (v := undef) ?_ (by kernel_rfl) ?_ ?_ ?_ ?_ hHeld ?_
                  rotate_left
                  · simp only [List.getElem?_toArray, List.getElem?_cons_zero, List.getElem?_cons_succ]; rfl
                  · kernel_rfl
                  · kernel_rfl
                  · exact fun _ _ _ h => h
                  · exact Or.inr ⟨by rfl, rfl⟩
                  simp only [Act.put, List.setIfInBounds_toArray, List.set_cons_zero, List.set_cons_succ]
                  refine wpAnyH_take (i := 7) (oi := ?_) (v := undef) ?_ (by kernel_rfl) ?_ ?_ ?_ ?_ hHeld ?_
                  rotate_left
                  · simp only [List.getElem?_toArray, List.getElem?_cons_zero, List.getElem?_cons_succ]; rfl
                  · kernel_rfl
                  · kernel_rfl
                  · exact fun _ _ _ h => h
                  · exact Or.inr ⟨by rfl, rfl⟩
                  simp only [Act.put, List.setIfInBounds_toArray, List.set_cons_zero, List.set_cons_succ]
                  refine wpAnyH_take (i := 9) (oi := ?_) (v := undef) ?_ (by kernel_rfl) ?_ ?_ ?_ ?_ hHeld ?_
                  rotate_left
                  · simp only [List.getElem?_toArray, List.getElem?_cons_zero, List.getElem?_cons_succ]; rfl
                  · kernel_rfl
                  · kernel_rfl
                  · exact fun _ _ _ h => h
                  · exact Or.inr ⟨by rfl, rfl⟩
                  simp only [Act.put, List.setIfInBounds_toArray, List.set_cons_zero, List.set_cons_succ]
                  refine wpAnyH_take (i := 10) (oi := ?_) (v := undef) ?_ (by kernel_rfl) ?_ ?_ ?_ ?_ hHeld ?_
                  rotate_left
                  · simp only [List.getElem?_toArray, List.getElem?_cons_zero, List.getElem?_cons_succ]; rfl
                  · kernel_rfl
                  · kernel_rfl
                  · exact fun _ _ _ h => h
                  · exact Or.inr ⟨by rfl, rfl⟩
                  simp only [Act.put, List.setIfInBounds_toArray, List.set_cons_zero, List.set_cons_succ]
                  refine wpAnyH_take (i := 11) (oi := ?_) (v := .bool true) ?_ (by kernel_rfl) ?_ ?_ ?_ ?_ hHeld ?_
                  rotate_left
                  · simp only [List.getElem?_toArray, List.getElem?_cons_zero, List.getElem?_cons_succ]; rfl
                  · kernel_rfl
                  · kernel_rfl
                  · exact fun _ _ _ h => h
                  · exact Or.inl ⟨by rfl, by intro w' hSw; go_simp⟩
                  simp only [Act.put, List.setIfInBounds_toArray, List.set_cons_zero, List.set_cons_succ]
                  refine wpAnyH_take (i := 12) (oi := ?_) (v := .bool true) ?_ (by kernel_rfl) ?_ ?_ ?_ ?_ hHeld ?_
                  rotate_left
                  · simp only [List.getElem?_toArray, List.getElem?_cons_zero, List.getElem?_cons_succ]; rfl
                  · kernel_rfl
                  · kernel_rfl
                  · exact fun _ _ _ h => h
                  · exact Or.inl ⟨by rfl, by intro w' hSw; go_simp⟩
                  simp only [Act.put, List.setIfInBounds_toArray, List.set_cons_zero, List.set_cons_succ]
                  refine wpAnyH_take (i := 13) (oi := ?_) (v := undef) ?_ (by kernel_rfl) ?_ ?_ ?_ ?_ hHeld ?_
                  rotate_left
                  · simp only [List.getElem?_toArray, List.getElem?_cons_zero, List.getElem?_cons_succ]; rfl
                  · kernel_rfl
                  · kernel_rfl
                  · exact fun _ _ _ h => h
                  · exact Or.inr ⟨by rfl, rfl⟩
                  simp only [Act.put, List.setIfInBounds_toArray, List.set_cons_zero, List.set_cons_succ]
                  refine wpAnyH_take (i := 15) (oi := ?_) (v := undef) ?_ (by kernel_rfl) ?_ ?_ ?_ ?_ hHeld ?_
                  rotate_left
                  · simp only [List.getElem?_toArray, List.getElem?_cons_zero, List.getElem?_cons_succ]; rfl
                  · kernel_rfl
                  · kernel_rfl
                  · exact fun _ _ _ h => h
                  · exact Or.inr ⟨by rfl, rfl⟩
                  simp only [Act.put, List.setIfInBounds_toArray, List.set_cons_zero, List.set_cons_succ]
                  refine wpAnyH_take (i := 14) (oi := ?_) (v := undef) ?_ (by kernel_rfl) ?_ ?_ ?_ ?_ hHeld ?_
                  rotate_left
                  · simp only [List.getElem?_toArray, List.getElem?_cons_zero, List.getElem?_cons_succ]; rfl
                  · kernel_rfl
                  · kernel_rfl
                  · exact fun _ _ _ h => h
                  · exact Or.inr ⟨by rfl, rfl⟩
                  simp only [Act.put, List.setIfInBounds_toArray, List.set_cons_zero, List.set_cons_succ]
                  refine wpAnyH_take (i := 16) (oi := ?_) (v := undef) ?_ (by kernel_rfl) ?_ ?_ ?_ ?_ hHeld ?_
                  rotate_left
                  · simp only [List.getElem?_toArray, List.getElem?_cons_zero, List.getElem?_cons_succ]; rfl
                  · kernel_rfl
                  · kernel_rfl
                  · exact fun _ _ _ h => h
                  · exact Or.inr ⟨by rfl, rfl⟩
                  simp only [Act.put, List.setIfInBounds_toArray, List.set_cons_zero, List.set_cons_succ]
                  refine wpAnyH_take (i := 17) (oi := ?_) (v := undef) ?_ (by kernel_rfl) ?_ ?_ ?_ ?_ hHeld ?_
                  rotate_left
                  · simp only [List.getElem?_toArray, List.getElem?_cons_zero, List.getElem?_cons_succ]; rfl
                  · kernel_rfl
                  · kernel_rfl
                  · exact fun _ _ _ h => h
                  · exact Or.inr ⟨by rfl, rfl⟩
                  simp only [Act.put, List.setIfInBounds_toArray, List.set_cons_zero, List.set_cons_succ]
                  refine wpAnyH_take (i := 18) (oi := ?_) (v := .bool true) ?_ (by kernel_rfl) ?_ ?_ ?_ ?_ hHeld ?_
                  rotate_left
                  · simp only [List.getElem?_toArray, List.getElem?_cons_zero, List.getElem?_cons_succ]; rfl
                  · kernel_rfl
                  · kernel_rfl
                  · exact fun _ _ _ h => h
                  · exact Or.inl ⟨by rfl, by intro w' hSw; go_simp⟩
                  simp only [Act.put, List.setIfInBounds_toArray, List.set_cons_zero, List.set_cons_succ]
                  refine wpAnyH_done (by kernel_rfl) ?_ _
                  have HRL : Hid (confL s i ++ rowL s i (k + 1) = (confL s i ++ rowL s i k) ++ [(i, k)]) := Lib.hid (by rw [rowL_yes hik (by have h := HCF.out; simpa using h), List.append_assoc])
                  have HOY := Lib.hid (own_below HOX.out HX3.out)
                  have HBY := Lib.hid (below_next HBW.out HX3.out HBW.out.size)
                  have HKY := Lib.hid hHeld.1
                  clear hHeld
                  go_wp2_with (at_builtin; go_must (refine wpList_app _ rfl _ _ 56 rfl w1.heap.size 58 i0 _ 2 16 Tryz.underlying56 hi0 hz0 hz1 hz2 rfl (by decide) _ _ _ rfl (HOY.out.alloc _) _ _ 1 1 [.int .i64 i, .int .i64 k] rfl (rd_newz _ _ [.int .i64 i, .int .i64 k] 58 1 2 rfl ?c5) ?c1 ?c2 ?c3 ?c4 ?_))
                  case c5 => simp
                  case c1 => intro u hu; simp at hu; rcases hu with rfl | rfl <;> rfl
                  case c2 => have := HLE.out; simp only [maxLen]; omega
                  case c3 => have := HLE.out; omega
                  case c4 => have := HBY.out.size; simp; omega
                  intro v4 w4 ho4 hg4 _
                  have B4 := Lib.hid ((HBY.out.alloc HBY.out.size _).grown hg4 (Nat.le_trans HBY.out.size (alloc_le _ _)) (own_row HOX.out (Nat.le_refl _)))
                  have HK4 := Lib.hid ((HKY.out.alloc _).grown hg4 (own_blk HOY.out HKY.out (by decide)).symm)
                  have HO4 : Hid (w4.ownsRow w1.heap.size 58 2 v4 ((confL s i ++ rowL s i (k + 1)).length) (flat pC (confL s i ++ rowL s i (k + 1)))) := Lib.hid (by rw [HRL.out, flat_app, flat_one, List.length_append, List.length_append]; exact ho4)
                  clear ho4 hg4
                  go_wp2
                  go_roundw
                  case rel => exact ⟨k + 1, by omega, by omega, by go_num, HO4.out, HK4.out, B4.out⟩
                  case measure => simp [intOf]; omega
                exact AllReadyH.nil
              exact AllReadyH.nil
            exact AllReadyH.nil
          | false =>
            cases C2 with
            | true =>
              have HX0 : Hid (Below wr.heap.size wr (wr.alloc (.cells #[.int .i64 x.unit, .int .i64 x.num, .slice x.rA x.rn x.rc, .slice x.cA x.cn x.cc] 47)).drew) := Lib.hid ((Below.refl _ _).alloc (Nat.le_refl _) _).drew
              refine wp_region_held_drew (S := fun w' => Blk w' w2.heap.size 47 #[.int .i64 a.unit, .int .i64 a.num, .slice a.rA a.rn a.rc, .slice a.cA a.cn a.cc] ∧ Blk w' wr.heap.size 47 #[.int .i64 x.unit, .int .i64 x.num, .slice x.rA x.rn x.rc, .slice x.cA x.cn x.cc]) (by kernel_rfl) HBK.out (fun hHeld => ?_)
              refine wpAnyH_take (i := 0) (oi := ?_) (v := .agg #[.int .i64 a.unit, .int .i64 a.num, .slice a.rA a.rn a.rc, .slice a.cA a.cn a.cc]) ?_ (by kernel_rfl) ?_ ?_ ?_ ?_ hHeld ?_
              rotate_left
              · simp only [List.getElem?_toArray, List.getElem?_cons_zero]; rfl
              · kernel_rfl
              · kernel_rfl
              · exact fun _ _ _ h => h
              · exact Or.inl ⟨by rfl, by intro w' hSw; have h0 := hSw.1.cell 0; have h1 := hSw.1.cell 1; have h2 := hSw.1.cell 2; have h3 := hSw.1.cell 3; simp at h0 h1 h2 h3; go_simp⟩
              simp only [Act.put, List.setIfInBounds_toArray, List.set_cons_zero, List.set_cons_succ]
              refine wpAnyH_take (i := 2) (oi := ?_) (v := .agg #[.int .i64 x.unit, .int .i64 x.num, .slice x.rA x.rn x.rc, .slice x.cA x.cn x.cc]) ?_ (by kernel_rfl) ?_ ?_ ?_ ?_ hHeld ?_
              rotate_left
              · simp only [List.getElem?_toArray, List.getElem?_cons_zero, List.getElem?_cons_succ]; rfl
              · kernel_rfl
              · kernel_rfl
              · exact fun _ _ _ h => h
              · exact Or.inl ⟨by rfl, by intro w' hSw; have h0 := hSw.2.cell 0; have h1 := hSw.2.cell 1; have h2 := hSw.2.cell 2; have h3 := hSw.2.cell 3; simp at h0 h1 h2 h3; go_simp⟩
              simp only [Act.put, List.setIfInBounds_toArray, List.set_cons_zero, List.set_cons_succ]
              refine wpAnyH_ready (rs := [1]) (by kernel_rfl) (by simp) ?_
              refine AllReadyH.cons (o := ?_) ?_ (fun K hK => ?_) ?_
              rotate_left
              · simp only [List.getElem?_toArray, List.getElem?_cons_zero, List.getElem?_cons_succ]; rfl
              · go_simp
                refine (HCA.out _ (below_next HBW.out HX0.out HBW.out.size)).mono ?_
                rintro e y1 ⟨Aa1, ca1, rfl, hs, hb⟩
                simp only []
                have HX1 := Lib.hid (below_next HX0.out hb HX0.out.size)
                have Sa1 := Lib.hid hs
                clear hs
                obtain ⟨q0, q1⟩ := hHeld
                refine hK.out _ _ ⟨q0.below hb q0.lt, q1.below hb q1.lt⟩ (fun hHeld => ?_)
                clear hK K hb q0 q1
                try simp only [Act.put, List.setIfInBounds_toArray, List.set_cons_zero, List.set_cons_succ]
                refine wpAnyH_ready (rs := [3]) (by kernel_rfl) (by simp) ?_
                refine AllReadyH.cons (o := ?_) ?_ (fun K hK => ?_) ?_
                rotate_left
                · simp only [List.getElem?_toArray, List.getElem?_cons_zero, List.getElem?_cons_succ]; rfl
                · go_simp
                  refine (HCX.out _ (below_next HBW.out HX1.out HBW.out.size)).mono ?_
                  rintro e y2 ⟨Ax1, cx1, rfl, hs, hb⟩
                  simp only []
                  have HX2 := Lib.hid (below_next HX1.out hb HX1.out.size)
                  have Sa1n := Lib.hid (Sa1.out.after hb hb.size)
                  have Sx1 := Lib.hid hs
                  clear hs
                  obtain ⟨q0, q1⟩ := hHeld
                  refine hK.out _ _ ⟨q0.below hb q0.lt, q1.below hb q1.lt⟩ (fun hHeld => ?_)
                  clear hK K hb q0 q1
                  try simp only [Act.put, List.setIfInBounds_toArray, List.set_cons_zero, List.set_cons_succ]
                  refine wpAnyH_ready (rs := [4]) (by kernel_rfl) (by simp) ?_
                  refine AllReadyH.cons (o := ?_) ?_ (fun K hK => ?_) ?_
                  rotate_left
                  · simp only [List.getElem?_toArray, List.getElem?_cons_zero, List.getElem?_cons_succ]; rfl
                  · go_simp
                    refine (HM1.out _ _ _ _ _ Sa1n.out Sx1.out).mono ?_
                    rintro e y3 ⟨rfl, hb⟩
                    simp only []
                    have HX3 := Lib.hid (below_next HX2.out hb HX2.out.size)
                    obtain ⟨q0, q1⟩ := hHeld
                    refine hK.out _ _ ⟨q0.below hb q0.lt, q1.below hb q1.lt⟩ (fun hHeld => ?_)
                    clear hK K hb q0 q1
                    try simp only [Act.put, List.setIfInBounds_toArray, List.set_cons_zero, List.set_cons_succ]
                    refine wpAnyH_take (i := 5) (oi := ?_) (v := .bool false) ?_ (by kernel_rfl) ?_ ?_ ?_ ?_ hHeld ?_
                    rotate_left
                    · simp only [List.getElem?_toArray, List.getElem?_cons_zero, List.getElem?_cons_succ]; rfl
                    · kernel_rfl
                    · kernel_rfl
                    · exact fun _ _ _ h => h
                    · exact Or.inl ⟨by rfl, by intro w' hSw; go_simp⟩
                    simp only [Act.put, List.setIfInBounds_toArray, List.set_cons_zero, List.set_cons_succ]
                    refine wpAnyH_take (i := 6) (oi := ?_) (v := .agg #[.int .i64 a.unit, .int .i64 a.num, .slice a.rA a.rn a.rc, .slice a.cA a.cn a.cc]) ?_ (by kernel_rfl) ?_ ?_ ?_ ?_ hHeld ?_
                    rotate_left
                    · simp only [List.getElem?_toArray, List.getElem?_cons_zero, List.getElem?_cons_succ]; rfl
                    · kernel_rfl
                    · kernel_rfl
                    · exact fun _ _ _ h => h
                    · exact Or.inl ⟨by rfl, by intro w' hSw; have h0 := hSw.1.cell 0; have h1 := hSw.1.cell 1; have h2 := hSw.1.cell 2; have h3 := hSw.1.cell 3; simp at h0 h1 h2 h3; go_simp⟩
                    simp only [Act.put, List.setIfInBounds_toArray, List.set_cons_zero, List.set_cons_succ]
                    refine wpAnyH_take (i := 8) (oi := ?_) (v := .agg #[.int .i64 x.unit, .int .i64 x.num, .slice x.rA x.rn x.rc, .slice x.cA x.cn x.cc]) ?_ (by kernel_rfl) ?_ ?_ ?_ ?_ hHeld ?_
                    rotate_left
                    · simp only [List.getElem?_toArray, List.getElem?_cons_zero, List.getElem?_cons_succ]; rfl
                    · kernel_rfl
                    · kernel_rfl
                    · exact fun _ _ _ h => h
                    · exact Or.inl ⟨by rfl, by intro w' hSw; have h0 := hSw.2.cell 0; have h1 := hSw.2.cell 1; have h2 := hSw.2.cell 2; have h3 := hSw.2.cell 3; simp at h0 h1 h2 h3; go_simp⟩
                    simp only [Act.put, List.setIfInBounds_toArray, List.set_cons_zero, List.set_cons_succ]
                    refine wpAnyH_ready (rs := [7]) (by kernel_rfl) (by simp) ?_
                    refine AllReadyH.cons (o := ?_) ?_ (fun K hK => ?_) ?_
                    rotate_left
                    · simp only [List.getElem?_toArray, List.getElem?_cons_zero, List.getElem?_cons_succ]; rfl
                    · go_simp
                      refine (HCA.out _ (below_next HBW.out HX3.out HBW.out.size)).mono ?_
                      rintro e y4 ⟨Aa2, ca2, rfl, hs, hb⟩
                      simp only []
                      have HX4 := Lib.hid (below_next HX3.out hb HX3.out.size)
                      have Sa2 := Lib.hid hs
                      clear hs
                      obtain ⟨q0, q1⟩ := hHeld
                      refine hK.out _ _ ⟨q0.below hb q0.lt, q1.below hb q1.lt⟩ (fun hHeld => ?_)
                      clear hK K hb q0 q1
                      try simp only [Act.put, List.setIfInBounds_toArray, List.set_cons_zero, List.set_cons_succ]
                      refine wpAnyH_ready (rs := [9]) (by kernel_rfl) (by simp) ?_
                      refine AllReadyH.cons (o := ?_) ?_ (fun K hK => ?_) ?_
                      rotate_left
                      · simp only [List.getElem?_toArray, List.getElem?_cons_zero, List.getElem?_cons_succ]; rfl
                      · go_simp
                        refine (HRX.out _ (below_next HBW.out HX4.out HBW.out.size)).mono ?_
                        rintro e y5 ⟨Ax2, cx2, rfl, hs, hb⟩
                        simp only []
                        have HX5 := Lib.hid (below_next HX4.out hb HX4.out.size)
                        have Sa2n := Lib.hid (Sa2.out.after hb hb.size)
                        have Sx2 := Lib.hid hs
                        clear hs
                        obtain ⟨q0, q1⟩ := hHeld
                        refine hK.out _ _ ⟨q0.below hb q0.lt, q1.below hb q1.lt⟩ (fun hHeld => ?_)
                        clear hK K hb q0 q1
                        try simp only [Act.put, List.setIfInBounds_toArray, List.set_cons_zero, List.set_cons_succ]
                        refine wpAnyH_ready (rs := [10]) (by kernel_rfl) (by simp) ?_
                        refine AllReadyH.cons (o := ?_) ?_ (fun K hK => ?_) ?_
                        rotate_left
                        · simp only [List.getElem?_toArray, List.getElem?_cons_zero, List.getElem?_cons_succ]; rfl
                        · go_simp
                          refine (HM2.out _ _ _ _ _ Sa2n.out Sx2.out).mono ?_
                          rintro e y6 ⟨rfl, hb⟩
                          simp only []
                          have HX6 := Lib.hid (below_next HX5.out hb HX5.out.size)
                          obtain ⟨q0, q1⟩ := hHeld
                          refine hK.out _ _ ⟨q0.below hb q0.lt, q1.below hb q1.lt⟩ (fun hHeld => ?_)
                          clear hK K hb q0 q1
                          try simp only [Act.put, List.setIfInBounds_toArray, List.set_cons_zero, List.set_cons_succ]
                          refine wpAnyH_take (i := 11) (oi := ?_) (v := .bool true) ?_ (by kernel_rfl) ?_ ?_ ?_ ?_ hHeld ?_
                          rotate_left
                          · simp only [List.getElem?_toArray, List.getElem?_cons_zero, List.getElem?_cons_succ]; rfl
                          · kernel_rfl
                          · kernel_rfl
                          · exact fun _ _ _ h => h
                          · exact Or.inl ⟨by rfl, by intro w' hSw; go_simp⟩
                          simp only [Act.put, List.setIfInBounds_toArray, List.set_cons_zero, List.set_cons_succ]
                          refine wpAnyH_take (i := 12) (oi := ?_) (v := .bool true) ?_ (by kernel_rfl) ?_ ?_ ?_ ?_ hHeld ?_
                          rotate_left
                          · simp only [List.getElem?_toArray, List.getElem?_cons_zero, List.getElem?_cons_succ]; rfl
                          · kernel_rfl
                          · kernel_rfl
                          · exact fun _ _ _ h => h
                          · exact Or.inl ⟨by rfl, by intro w' hSw; go_simp⟩
                          simp only [Act.put, List.setIfInBounds_toArray, List.set_cons_zero, List.set_cons_succ]
                          refine wpAnyH_take (i := 13) (oi := ?_) (v := undef) ?_ (by kernel_rfl) ?_ ?_ ?_ ?_ hHeld ?_
                          rotate_left
                          · simp only [List.getElem?_toArray, List.getElem?_cons_zero, List.getElem?_cons_succ]; rfl
                          · kernel_rfl
                          · kernel_rfl
                          · exact fun _ _ _ h => h
                          · exact Or.inr ⟨by rfl, rfl⟩
                          simp only [Act.put, List.setIfInBounds_toArray, List.set_cons_zero, List.set_cons_succ]
                          refine wpAnyH_take (i := 15) (oi := ?_) (v := undef) ?_ (by kernel_rfl) ?_ ?_ ?_ ?_ hHeld ?_
                          rotate_left
                          · simp only [List.getElem?_toArray, List.getElem?_cons_zero, List.getElem?_cons_succ]; rfl
                          · kernel_rfl
                          · kernel_rfl
                          · exact fun _ _ _ h => h
                          · exact Or.inr ⟨by rfl, rfl⟩
                          simp only [Act.put, List.setIfInBounds_toArray, List.set_cons_zero, List.set_cons_succ]
                          refine wpAnyH_take (i := 14) (oi := ?_) (v := undef) ?_ (by kernel_rfl) ?_ ?_ ?_ ?_ hHeld ?_
                          rotate_left
                          · simp only [List.getElem?_toArray, List.getElem?_cons_zero, List.getElem?_cons_succ]; rfl
                          · kernel_rfl
                          · kernel_rfl
                          · exact fun _ _ _ h => h
                          · exact Or.inr ⟨by rfl, rfl⟩
                          simp only [Act.put, List.setIfInBounds_toArray, List.set_cons_zero, List.set_cons_succ]
                          refine wpAnyH_take (i := 16) (oi := ?_) (v := undef) ?_ (by kernel_rfl) ?_ ?_ ?_ ?_ hHeld ?_
                          rotate_left
                          · simp only [List.getElem?_toArray, List.getElem?_cons_zero, List.getElem?_cons_succ]; rfl
                          · kernel_rfl
                          · kernel_rfl
                          · exact fun _ _ _ h => h
                          · exact Or.inr ⟨by rfl, rfl⟩
                          simp only [Act.put, List.setIfInBounds_toArray, List.set_cons_zero, List.set_cons_succ]
                          refine wpAnyH_take (i := 17) (oi := ?_) (v := undef) ?_ (by kernel_rfl) ?_ ?_ ?_ ?_ hHeld ?_
                          rotate_left
                          · simp only [List.getElem?_toArray, List.getElem?_cons_zero, List.getElem?_cons_succ]; rfl
                          · kernel_rfl
                          · kernel_rfl
                          · exact fun _ _ _ h => h
                          · exact Or.inr ⟨by rfl, rfl⟩
                          simp only [Act.put, List.setIfInBounds_toArray, List.set_cons_zero, List.set_cons_succ]
                          refine wpAnyH_take (i := 18) (oi := ?_) (v := .bool true) ?_ (by kernel_rfl) ?_ ?_ ?_ ?_ hHeld ?_
                          rotate_left
                          · simp only [List.getElem?_toArray, List.getElem?_cons_zero, List.getElem?_cons_succ]; rfl
                          · kernel_rfl
                          · kernel_rfl
                          · exact fun _ _ _ h => h
                          · exact Or.inl ⟨by rfl, by intro w' hSw; go_simp⟩
                          simp only [Act.put, List.setIfInBounds_toArray, List.set_cons_zero, List.set_cons_succ]
                          refine wpAnyH_done (by kernel_rfl) ?_ _
                          have HRL : Hid (confL s i ++ rowL s i (k + 1) = (confL s i ++ rowL s i k) ++ [(i, k)]) := Lib.hid (by rw [rowL_yes hik (by have h := HCF.out; simpa using h), List.append_assoc])
                          have HOY := Lib.hid (own_below HOX.out HX6.out)
                          have HBY := Lib.hid (below_next HBW.out HX6.out HBW.out.size)
                          have HKY := Lib.hid hHeld.1
                          clear hHeld
                          go_wp2_with (at_builtin; go_must (refine wpList_app _ rfl _ _ 56 rfl w1.heap.size 58 i0 _ 2 16 Tryz.underlying56 hi0 hz0 hz1 hz2 rfl (by decide) _ _ _ rfl (HOY.out.alloc _) _ _ 1 1 [.int .i64 i, .int .i64 k] rfl (rd_newz _ _ [.int .i64 i, .int .i64 k] 58 1 2 rfl ?c5) ?c1 ?c2 ?c3 ?c4 ?_))
                          case c5 => simp
                          case c1 => intro u hu; simp at hu; rcases hu with rfl | rfl <;> rfl
                          case c2 => have := HLE.out; simp only [maxLen]; omega
                          case c3 => have := HLE.out; omega
                          case c4 => have := HBY.out.size; simp; omega
                          intro v4 w4 ho4 hg4 _
                          have B4 := Lib.hid ((HBY.out.alloc HBY.out.size _).grown hg4 (Nat.le_trans HBY.out.size (alloc_le _ _)) (own_row HOX.out (Nat.le_refl _)))
                          have HK4 := Lib.hid ((HKY.out.alloc _).grown hg4 (own_blk HOY.out HKY.out (by decide)).symm)
                          have HO4 : Hid (w4.ownsRow w1.heap.size 58 2 v4 ((confL s i ++ rowL s i (k + 1)).length) (flat pC (confL s i ++ rowL s i (k + 1)))) := Lib.hid (by rw [HRL.out, flat_app, flat_one, List.length_append, List.length_append]; exact ho4)
                          clear ho4 hg4
                          go_wp2
                          go_roundw
                          case rel => exact ⟨k + 1, by omega, by omega, by go_num, HO4.out, HK4.out, B4.out⟩
                          case measure => simp [intOf]; omega
                        exact AllReadyH.nil
                      exact AllReadyH.nil
                    exact AllReadyH.nil
                  exact AllReadyH.nil
                exact AllReadyH.nil
              exact AllReadyH.nil
            | false =>
              cases C3 with
              | true =>
                have HX0 : Hid (Below wr.heap.size wr (wr.alloc (.cells #[.int .i64 x.unit, .int .i64 x.num, .slice x.rA x.rn x.rc, .slice x.cA x.cn x.cc] 47)).drew) := Lib.hid ((Below.refl _ _).alloc (Nat.le_refl _) _).drew
                refine wp_region_held_drew (S := fun w' => Blk w' w2.heap.size 47 #[.int .i64 a.unit, .int .i64 a.num, .slice a.rA a.rn a.rc, .slice a.cA a.cn a.cc] ∧ Blk w' wr.heap.size 47 #[.int .i64 x.unit, .int .i64 x.num, .slice x.rA x.rn x.rc, .slice x.cA x.cn x.cc]) (by kernel_rfl) HBK.out (fun hHeld => ?_)
                refine wpAnyH_take (i := 0) (oi := ?_) (v := .agg #[.int .i64 a.unit, .int .i64 a.num, .slice a.rA a.rn a.rc, .slice a.cA a.cn a.cc]) ?_ (by kernel_rfl) ?_ ?_ ?_ ?_ hHeld ?_
                rotate_left
                · simp only [List.getElem?_toArray, List.getElem?_cons_zero]; rfl
                · kernel_rfl
                · kernel_rfl
                · exact fun _ _ _ h => h
                · exact Or.inl ⟨by rfl, by intro w' hSw; have h0 := hSw.1.cell 0; have h1 := hSw.1.cell 1; have h2 := hSw.1.cell 2; have h3 := hSw.1.cell 3; simp at h0 h1 h2 h3; go_simp⟩
                simp only [Act.put, List.setIfInBounds_toArray, List.set_cons_zero, List.set_cons_succ]
                refine wpAnyH_take (i := 2) (oi := ?_) (v := .agg #[.int .i64 x.unit, .int .i64 x.num, .slice x.rA x.rn x.rc, .slice x.cA x.cn x.cc]) ?_ (by kernel_rfl) ?_ ?_ ?_ ?_ hHeld ?_
                rotate_left
                · simp only [List.getElem?_toArray, List.getElem?_cons_zero, List.getElem?_cons_succ]; rfl
                · kernel_rfl
                · kernel_rfl
                · exact fun _ _ _ h => h
                · exact Or.inl ⟨by rfl, by intro w' hSw; have h0 := hSw.2.cell 0; have h1 := hSw.2.cell 1; have h2 := hSw.2.cell 2; have h3 := hSw.2.cell 3; simp at h0 h1 h2 h3; go_simp⟩
                simp only [Act.put, List.setIfInBounds_toArray, List.set_cons_zero, List.set_cons_succ]
                refine wpAnyH_ready (rs := [1]) (by kernel_rfl) (by simp) ?_
                refine AllReadyH.cons (o := ?_) ?_ (fun K hK => ?_) ?_
                rotate_left
                · simp only [List.getElem?_toArray, List.getElem?_cons_zero, List.getElem?_cons_succ]; rfl
                · go_simp
                  refine (HCA.out _ (below_next HBW.out HX0.out HBW.out.size)).mono ?_
                  rintro e y1 ⟨Aa1, ca1, rfl, hs, hb⟩
                  simp only []
                  have HX1 := Lib.hid (below_next HX0.out hb HX0.out.size)
                  have Sa1 := Lib.hid hs
                  clear hs
                  obtain ⟨q0, q1⟩ := hHeld
                  refine hK.out _ _ ⟨q0.below hb q0.lt, q1.below hb q1.lt⟩ (fun hHeld => ?_)
                  clear hK K hb q0 q1
                  try simp only [Act.put, List.setIfInBounds_toArray, List.set_cons_zero, List.set_cons_succ]
                  refine wpAnyH_ready (rs := [3]) (by kernel_rfl) (by simp) ?_
                  refine AllReadyH.cons (o := ?_) ?_ (fun K hK => ?_) ?_
                  rotate_left
                  · simp only [List.getElem?_toArray, List.getElem?_cons_zero, List.getElem?_cons_succ]; rfl
                  · go_simp
                    refine (HCX.out _ (below_next HBW.out HX1.out HBW.out.size)).mono ?_
                    rintro e y2 ⟨Ax1, cx1, rfl, hs, hb⟩
                    simp only []
                    have HX2 := Lib.hid (below_next HX1.out hb HX1.out.size)
                    have Sa1n := Lib.hid (Sa1.out.after hb hb.size)
                    have Sx1 := Lib.hid hs
                    clear hs
                    obtain ⟨q0, q1⟩ := hHeld
                    refine hK.out _ _ ⟨q0.below hb q0.lt, q1.below hb q1.lt⟩ (fun hHeld => ?_)
                    clear hK K hb q0 q1
                    try simp only [Act.put, List.setIfInBounds_toArray, List.set_cons_zero, List.set_cons_succ]
                    refine wpAnyH_ready (rs := [4]) (by kernel_rfl) (by simp) ?_
                    refine AllReadyH.cons (o := ?_) ?_ (fun K hK => ?_) ?_
                    rotate_left
                    · simp only [List.getElem?_toArray, List.getElem?_cons_zero, List.getElem?_cons_succ]; rfl
                    · go_simp
                      refine (HM1.out _ _ _ _ _ Sa1n.out Sx1.out).mono ?_
                      rintro e y3 ⟨rfl, hb⟩
                      simp only []
                      have HX3 := Lib.hid (below_next HX2.out hb HX2.out.size)
                      obtain ⟨q0, q1⟩ := hHeld
                      refine hK.out _ _ ⟨q0.below hb q0.lt, q1.below hb q1.lt⟩ (fun hHeld => ?_)
                      clear hK K hb q0 q1
                      try simp only [Act.put, List.setIfInBounds_toArray, List.set_cons_zero, List.set_cons_succ]
                      refine wpAnyH_take (i := 5) (oi := ?_) (v := .bool false) ?_ (by kernel_rfl) ?_ ?_ ?_ ?_ hHeld ?_
                      rotate_left
                      · simp only [List.getElem?_toArray, List.getElem?_cons_zero, List.getElem?_cons_succ]; rfl
                      · kernel_rfl
                      · kernel_rfl
                      · exact fun _ _ _ h => h
                      · exact Or.inl ⟨by rfl, by intro w' hSw; go_simp⟩
                      simp only [Act.put, List.setIfInBounds_toArray, List.set_cons_zero, List.set_cons_succ]
                      refine wpAnyH_take (i := 6) (oi := ?_) (v := .agg #[.int .i64 a.unit, .int .i64 a.num, .slice a.rA a.rn a.rc, .slice a.cA a.cn a.cc]) ?_ (by kernel_rfl) ?_ ?_ ?_ ?_ hHeld ?_
                      rotate_left
                      · simp only [List.getElem?_toArray, List.getElem?_cons_zero, List.getElem?_cons_succ]; rfl
                      · kernel_rfl
                      · kernel_rfl
                      · exact fun _ _ _ h => h
                      · exact Or.inl ⟨by rfl, by intro w' hSw; have h0 := hSw.1.cell 0; have h1 := hSw.1.cell 1; have h2 := hSw.1.cell 2; have h3 := hSw.1.cell 3; simp at h0 h1 h2 h3; go_simp⟩
                      simp only [Act.put, List.setIfInBounds_toArray, List.set_cons_zero, List.set_cons_succ]
                      refine wpAnyH_take (i := 8) (oi := ?_) (v := .agg #[.int .i64 x.unit, .int .i64 x.num, .slice x.rA x.rn x.rc, .slice x.cA x.cn x.cc]) ?_ (by kernel_rfl) ?_ ?_ ?_ ?_ hHeld ?_
                      rotate_left
                      · simp only [List.getElem?_toArray, List.getElem?_cons_zero, List.getElem?_cons_succ]; rfl
                      · kernel_rfl
                      · kernel_rfl
                      · exact fun _ _ _ h => h
                      · exact Or.inl ⟨by rfl, by intro w' hSw; have h0 := hSw.2.cell 0; have h1 := hSw.2.cell 1; have h2 := hSw.2.cell 2; have h3 := hSw.2.cell 3; simp at h0 h1 h2 h3; go_simp⟩
                      simp only [Act.put, List.setIfInBounds_toArray, List.set_cons_zero, List.set_cons_succ]
                      refine wpAnyH_ready (rs := [7]) (by kernel_rfl) (by simp) ?_
                      refine AllReadyH.cons (o := ?_) ?_ (fun K hK => ?_) ?_
                      rotate_left
                      · simp only [List.getElem?_toArray, List.getElem?_cons_zero, List.getElem?_cons_succ]; rfl
                      · go_simp
                        refine (HCA.out _ (below_next HBW.out HX3.out HBW.out.size)).mono ?_
                        rintro e y4 ⟨Aa2, ca2, rfl, hs, hb⟩
                        simp only []
                        have HX4 := Lib.hid (below_next HX3.out hb HX3.out.size)
                        have Sa2 := Lib.hid hs
                        clear hs
                        obtain ⟨q0, q1⟩ := hHeld
                        refine hK.out _ _ ⟨q0.below hb q0.lt, q1.below hb q1.lt⟩ (fun hHeld => ?_)
                        clear hK K hb q0 q1
                        try simp only [Act.put, List.setIfInBounds_toArray, List.set_cons_zero, List.set_cons_succ]
                        refine wpAnyH_ready (rs := [9]) (by kernel_rfl) (by simp) ?_
                        refine AllReadyH.cons (o := ?_) ?_ (fun K hK => ?_) ?_
                        rotate_left
                        · simp only [List.getElem?_toArray, List.getElem?_cons_zero, List.getElem?_cons_succ]; rfl
                        · go_simp
                          refine (HRX.out _ (below_next HBW.out HX4.out HBW.out.size)).mono ?_
                          rintro e y5 ⟨Ax2, cx2, rfl, hs, hb⟩
                          simp only []
                          have HX5 := Lib.hid (below_next HX4.out hb HX4.out.size)
                          have Sa2n := Lib.hid (Sa2.out.after hb hb.size)
                          have Sx2 := Lib.hid hs
                          clear hs
                          obtain ⟨q0, q1⟩ := hHeld
                          refine hK.out _ _ ⟨q0.below hb q0.lt, q1.below hb q1.lt⟩ (fun hHeld => ?_)
                          clear hK K hb q0 q1
                          try simp only [Act.put, List.setIfInBounds_toArray, List.set_cons_zero, List.set_cons_succ]
                          refine wpAnyH_ready (rs := [10]) (by kernel_rfl) (by simp) ?_
                          refine AllReadyH.cons (o := ?_) ?_ (fun K hK => ?_) ?_
                          rotate_left
                          · simp only [List.getElem?_toArray, List.getElem?_cons_zero, List.getElem?_cons_succ]; rfl
                          · go_simp
                            refine (HM2.out _ _ _ _ _ Sa2n.out Sx2.out).mono ?_
                            rintro e y6 ⟨rfl, hb⟩
                            simp only []
                            have HX6 := Lib.hid (below_next HX5.out hb HX5.out.size)
                            obtain ⟨q0, q1⟩ := hHeld
                            refine hK.out _ _ ⟨q0.below hb q0.lt, q1.below hb q1.lt⟩ (fun hHeld => ?_)
                            clear hK K hb q0 q1
                            try simp only [Act.put, List.setIfInBounds_toArray, List.set_cons_zero, List.set_cons_succ]
                            refine wpAnyH_take (i := 11) (oi := ?_) (v := .bool false) ?_ (by kernel_rfl) ?_ ?_ ?_ ?_ hHeld ?_
                            rotate_left
                            · simp only [List.getElem?_toArray, List.getElem?_cons_zero, List.getElem?_cons_succ]; rfl
                            · kernel_rfl
                            · kernel_rfl
                            · exact fun _ _ _ h => h
                            · exact Or.inl ⟨by rfl, by intro w' hSw; go_simp⟩
                            simp only [Act.put, List.setIfInBounds_toArray, List.set_cons_zero, List.set_cons_succ]
                            refine wpAnyH_take (i := 12) (oi := ?_) (v := .bool false) ?_ (by kernel_rfl) ?_ ?_ ?_ ?_ hHeld ?_
                            rotate_left
                            · simp only [List.getElem?_toArray, List.getElem?_cons_zero, List.getElem?_cons_succ]; rfl
                            · kernel_rfl
                            · kernel_rfl
                            · exact fun _ _ _ h => h
                            · exact Or.inl ⟨by rfl, by intro w' hSw; go_simp⟩
                            simp only [Act.put, List.setIfInBounds_toArray, List.set_cons_zero, List.set_cons_succ]
                            refine wpAnyH_take (i := 13) (oi := ?_) (v := .agg #[.int .i64 a.unit, .int .i64 a.num, .slice a.rA a.rn a.rc, .slice a.cA a.cn a.cc]) ?_ (by kernel_rfl) ?_ ?_ ?_ ?_ hHeld ?_
                            rotate_left
                            · simp only [List.getElem?_toArray, List.getElem?_cons_zero, List.getElem?_cons_succ]; rfl
                            · kernel_rfl
                            · kernel_rfl
                            · exact fun _ _ _ h => h
                            · exact Or.inl ⟨by rfl, by intro w' hSw; have h0 := hSw.1.cell 0; have h1 := hSw.1.cell 1; have h2 := hSw.1.cell 2; have h3 := hSw.1.cell 3; simp at h0 h1 h2 h3; go_simp⟩
                            simp only [Act.put, List.setIfInBounds_toArray, List.set_cons_zero, List.set_cons_succ]
                            refine wpAnyH_take (i := 15) (oi := ?_) (v := .agg #[.int .i64 x.unit, .int .i64 x.num, .slice x.rA x.rn x.rc, .slice x.cA x.cn x.cc]) ?_ (by kernel_rfl) ?_ ?_ ?_ ?_ hHeld ?_
                            rotate_left
                            · simp only [List.getElem?_toArray, List.getElem?_cons_zero, List.getElem?_cons_succ]; rfl
                            · kernel_rfl
                            · kernel_rfl
                            · exact fun _ _ _ h => h
                            · exact Or.inl ⟨by rfl, by intro w' hSw; have h0 := hSw.2.cell 0; have h1 := hSw.2.cell 1; have h2 := hSw.2.cell 2; have h3 := hSw.2.cell 3; simp at h0 h1 h2 h3; go_simp⟩
                            simp only [Act.put, List.setIfInBounds_toArray, List.set_cons_zero, List.set_cons_succ]
                            refine wpAnyH_ready (rs := [14]) (by kernel_rfl) (by simp) ?_
                            refine AllReadyH.cons (o := ?_) ?_ (fun K hK => ?_) ?_
                            rotate_left
                            · simp only [List.getElem?_toArray, List.getElem?_cons_zero, List.getElem?_cons_succ]; rfl
                            · go_simp
                              refine (HRA.out _ (below_next HBW.out HX6.out HBW.out.size)).mono ?_
                              rintro e y7 ⟨Aa3, ca3, rfl, hs, hb⟩
                              simp only []
                              have HX7 := Lib.hid (below_next HX6.out hb HX6.out.size)
                              have Sa3 := Lib.hid hs
                              clear hs
                              obtain ⟨q0, q1⟩ := hHeld
                              refine hK.out _ _ ⟨q0.below hb q0.lt, q1.below hb q1.lt⟩ (fun hHeld => ?_)
                              clear hK K hb q0 q1
                              try simp only [Act.put, List.setIfInBounds_toArray, List.set_cons_zero, List.set_cons_succ]
                              refine wpAnyH_ready (rs := [16]) (by kernel_rfl) (by simp) ?_
                              refine AllReadyH.cons (o := ?_) ?_ (fun K hK => ?_) ?_
                              rotate_left
                              · simp only [List.getElem?_toArray, List.getElem?_cons_zero, List.getElem?_cons_succ]; rfl
                              · go_simp
                                refine (HCX.out _ (below_next HBW.out HX7.out HBW.out.size)).mono ?_
                                rintro e y8 ⟨Ax3, cx3, rfl, hs, hb⟩
                                simp only []
                                have HX8 := Lib.hid (below_next HX7.out hb HX7.out.size)
                                have Sa3n := Lib.hid (Sa3.out.after hb hb.size)
                                have Sx3 := Lib.hid hs
                                clear hs
                                obtain ⟨q0, q1⟩ := hHeld
                                refine hK.out _ _ ⟨q0.below hb q0.lt, q1.below hb q1.lt⟩ (fun hHeld => ?_)
                                clear hK K hb q0 q1
                                try simp only [Act.put, List.setIfInBounds_toArray, List.set_cons_zero, List.set_cons_succ]
                                refine wpAnyH_ready (rs := [17]) (by kernel_rfl) (by simp) ?_
                                refine AllReadyH.cons (o := ?_) ?_ (fun K hK => ?_) ?_
                                rotate_left
                                · simp only [List.getElem?_toArray, List.getElem?_cons_zero, List.getElem?_cons_succ]; rfl
                                · go_simp
                                  refine (HM3.out _ _ _ _ _ Sa3n.out Sx3.out).mono ?_
                                  rintro e y9 ⟨rfl, hb⟩
                                  simp only []
                                  have HX9 := Lib.hid (below_next HX8.out hb HX8.out.size)
                                  obtain ⟨q0, q1⟩ := hHeld
                                  refine hK.out _ _ ⟨q0.below hb q0.lt, q1.below hb q1.lt⟩ (fun hHeld => ?_)
                                  clear hK K hb q0 q1
                                  try simp only [Act.put, List.setIfInBounds_toArray, List.set_cons_zero, List.set_cons_succ]
                                  refine wpAnyH_take (i := 18) (oi := ?_) (v := .bool true) ?_ (by kernel_rfl) ?_ ?_ ?_ ?_ hHeld ?_
                                  rotate_left
                                  · simp only [List.getElem?_toArray, List.getElem?_cons_zero, List.getElem?_cons_succ]; rfl
                                  · kernel_rfl
                                  · kernel_rfl
                                  · exact fun _ _ _ h => h
                                  · exact Or.inl ⟨by rfl, by intro w' hSw; go_simp⟩
                                  simp only [Act.put, List.setIfInBounds_toArray, List.set_cons_zero, List.set_cons_succ]
                                  refine wpAnyH_done (by kernel_rfl) ?_ _
                                  have HRL : Hid (confL s i ++ rowL s i (k + 1) = (confL s i ++ rowL s i k) ++ [(i, k)]) := Lib.hid (by rw [rowL_yes hik (by have h := HCF.out; simpa using h), List.append_assoc])
                                  have HOY := Lib.hid (own_below HOX.out HX9.out)
                                  have HBY := Lib.hid (below_next HBW.out HX9.out HBW.out.size)
                                  have HKY := Lib.hid hHeld.1
                                  clear hHeld
                                  go_wp2_with (at_builtin; go_must (refine wpList_app _ rfl _ _ 56 rfl w1.heap.size 58 i0 _ 2 16 Tryz.underlying56 hi0 hz0 hz1 hz2 rfl (by decide) _ _ _ rfl (HOY.out.alloc _) _ _ 1 1 [.int .i64 i, .int .i64 k] rfl (rd_newz _ _ [.int .i64 i, .int .i64 k] 58 1 2 rfl ?c5) ?c1 ?c2 ?c3 ?c4 ?_))
                                  case c5 => simp
                                  case c1 => intro u hu; simp at hu; rcases hu with rfl | rfl <;> rfl
                                  case c2 => have := HLE.out; simp only [maxLen]; omega
                                  case c3 => have := HLE.out; omega
                                  case c4 => have := HBY.out.size; simp; omega
                                  intro v4 w4 ho4 hg4 _
                                  have B4 := Lib.hid ((HBY.out.alloc HBY.out.size _).grown hg4 (Nat.le_trans HBY.out.size (alloc_le _ _)) (own_row HOX.out (Nat.le_refl _)))
                                  have HK4 := Lib.hid ((HKY.out.alloc _).grown hg4 (own_blk HOY.out HKY.out (by decide)).symm)
                                  have HO4 : Hid (w4.ownsRow w1.heap.size 58 2 v4 ((confL s i ++ rowL s i (k + 1)).length) (flat pC (confL s i ++ rowL s i (k + 1)))) := Lib.hid (by rw [HRL.out, flat_app, flat_one, List.length_append, List.length_append]; exact ho4)
                                  clear ho4 hg4
                                  go_wp2
                                  go_roundw
                                  case rel => exact ⟨k + 1, by omega, by omega, by go_num, HO4.out, HK4.out, B4.out⟩
                                  case measure => simp [intOf]; omega
                                exact AllReadyH.nil
                              exact AllReadyH.nil
                            exact AllReadyH.nil
                          exact AllReadyH.nil
                        exact AllReadyH.nil
                      exact AllReadyH.nil
                    exact AllReadyH.nil
                  exact AllReadyH.nil
                exact AllReadyH.nil
              | false =>
                have HX0 : Hid (Below wr.heap.size wr (wr.alloc (.cells #[.int .i64 x.unit, .int .i64 x.num, .slice x.rA x.rn x.rc, .slice x.cA x.cn x.cc] 47)).drew) := Lib.hid ((Below.refl _ _).alloc (Nat.le_refl _) _).drew
                refine wp_region_held_drew (S := fun w' => Blk w' w2.heap.size 47 #[.int .i64 a.unit, .int .i64 a.num, .slice a.rA a.rn a.rc, .slice a.cA a.cn a.cc] ∧ Blk w' wr.heap.size 47 #[.int .i64 x.unit, .int .i64 x.num, .slice x.rA x.rn x.rc, .slice x.cA x.cn x.cc]) (by kernel_rfl) HBK.out (fun hHeld => ?_)
                refine wpAnyH_take (i := 0) (oi := ?_) (v := .agg #[.int .i64 a.unit, .int .i64 a.num, .slice a.rA a.rn a.rc, .slice a.cA a.cn a.cc]) ?_ (by kernel_rfl) ?_ ?_ ?_ ?_ hHeld ?_
                rotate_left
                · simp only [List.getElem?_toArray, List.getElem?_cons_zero]; rfl
                · kernel_rfl
                · kernel_rfl
                · exact fun _ _ _ h => h
                · exact Or.inl ⟨by rfl, by intro w' hSw; have h0 := hSw.1.cell 0; have h1 := hSw.1.cell 1; have h2 := hSw.1.cell 2; have h3 := hSw.1.cell 3; simp at h0 h1 h2 h3; go_simp⟩
                simp only [Act.put, List.setIfInBounds_toArray, List.set_cons_zero, List.set_cons_succ]
                refine wpAnyH_take (i := 2) (oi := ?_) (v := .agg #[.int .i64 x.unit, .int .i64 x.num, .slice x.rA x.rn x.rc, .slice x.cA x.cn x.cc]) ?_ (by kernel_rfl) ?_ ?_ ?_ ?_ hHeld ?_
                rotate_left
                · simp only [List.getElem?_toArray, List.getElem?_cons_zero, List.getElem?_cons_succ]; rfl
                · kernel_rfl
                · kernel_rfl
                · exact fun _ _ _ h => h
                · exact Or.inl ⟨by rfl, by intro w' hSw; have h0 := hSw.2.cell 0; have h1 := hSw.2.cell 1; have h2 := hSw.2.cell 2; have h3 := hSw.2.cell 3; simp at h0 h1 h2 h3; go_simp⟩
                simp only [Act.put, List.setIfInBounds_toArray, List.set_cons_zero, List.set_cons_succ]
                refine wpAnyH_ready (rs := [1]) (by kernel_rfl) (by simp) ?_
                refine AllReadyH.cons (o := ?_) ?_ (fun K hK => ?_) ?_
                rotate_left
                · simp only [List.getElem?_toArray, List.getElem?_cons_zero, List.getElem?_cons_succ]; rfl
                · go_simp
                  refine (HCA.out _ (below_next HBW.out HX0.out HBW.out.size)).mono ?_
                  rintro e y1 ⟨Aa1, ca1, rfl, hs, hb⟩
                  simp only []
                  have HX1 := Lib.hid (below_next HX0.out hb HX0.out.size)
                  have Sa1 := Lib.hid hs
                  clear hs
                  obtain ⟨q0, q1⟩ := hHeld
                  refine hK.out _ _ ⟨q0.below hb q0.lt, q1.below hb q1.lt⟩ (fun hHeld => ?_)
                  clear hK K hb q0 q1
                  try simp only [Act.put, List.setIfInBounds_toArray, List.set_cons_zero, List.set_cons_succ]
                  refine wpAnyH_ready (rs := [3]) (by kernel_rfl) (by simp) ?_
                  refine AllReadyH.cons (o := ?_) ?_ (fun K hK => ?_) ?_
                  rotate_left
                  · simp only [List.getElem?_toArray, List.getElem?_cons_zero, List.getElem?_cons_succ]; rfl
                  · go_simp
                    refine (HCX.out _ (below_next HBW.out HX1.out HBW.out.size)).mono ?_
                    rintro e y2 ⟨Ax1, cx1, rfl, hs, hb⟩
                    simp only []
                    have HX2 := Lib.hid (below_next HX1.out hb HX1.out.size)
                    have Sa1n := Lib.hid (Sa1.out.after hb hb.size)
                    have Sx1 := Lib.hid hs
                    clear hs
                    obtain ⟨q0, q1⟩ := hHeld
                    refine hK.out _ _ ⟨q0.below hb q0.lt, q1.below hb q1.lt⟩ (fun hHeld => ?_)
                    clear hK K hb q0 q1
                    try simp only [Act.put, List.setIfInBounds_toArray, List.set_cons_zero, List.set_cons_succ]
                    refine wpAnyH_ready (rs := [4]) (by kernel_rfl) (by simp) ?_
                    refine AllReadyH.cons (o := ?_) ?_ (fun K hK => ?_) ?_
                    rotate_left
                    · simp only [List.getElem?_toArray, List.getElem?_cons_zero, List.getElem?_cons_succ]; rfl
                    · go_simp
                      refine (HM1.out _ _ _ _ _ Sa1n.out Sx1.out).mono ?_
                      rintro e y3 ⟨rfl, hb⟩
                      simp only []
                      have HX3 := Lib.hid (below_next HX2.out hb HX2.out.size)
                      obtain ⟨q0, q1⟩ := hHeld
                      refine hK.out _ _ ⟨q0.below hb q0.lt, q1.below hb q1.lt⟩ (fun hHeld => ?_)
                      clear hK K hb q0 q1
                      try simp only [Act.put, List.setIfInBounds_toArray, List.set_cons_zero, List.set_cons_succ]
                      refine wpAnyH_take (i := 5) (oi := ?_) (v := .bool false) ?_ (by kernel_rfl) ?_ ?_ ?_ ?_ hHeld ?_
                      rotate_left
                      · simp only [List.getElem?_toArray, List.getElem?_cons_zero, List.getElem?_cons_succ]; rfl
                      · kernel_rfl
                      · kernel_rfl
                      · exact fun _ _ _ h => h
                      · exact Or.inl ⟨by rfl, by intro w' hSw; go_simp⟩
                      simp only [Act.put, List.setIfInBounds_toArray, List.set_cons_zero, List.set_cons_succ]
                      refine wpAnyH_take (i := 6) (oi := ?_) (v := .agg #[.int .i64 a.unit, .int .i64 a.num, .slice a.rA a.rn a.rc, .slice a.cA a.cn a.cc]) ?_ (by kernel_rfl) ?_ ?_ ?_ ?_ hHeld ?_
                      rotate_left
                      · simp only [List.getElem?_toArray, List.getElem?_cons_zero, List.getElem?_cons_succ]; rfl
                      · kernel_rfl
                      · kernel_rfl
                      · exact fun _ _ _ h => h
                      · exact Or.inl ⟨by rfl, by intro w' hSw; have h0 := hSw.1.cell 0; have h1 := hSw.1.cell 1; have h2 := hSw.1.cell 2; have h3 := hSw.1.cell 3; simp at h0 h1 h2 h3; go_simp⟩
                      simp only [Act.put, List.setIfInBounds_toArray, List.set_cons_zero, List.set_cons_succ]
                      refine wpAnyH_take (i := 8) (oi := ?_) (v := .agg #[.int .i64 x.unit, .int .i64 x.num, .slice x.rA x.rn x.rc, .slice x.cA x.cn x.cc]) ?_ (by kernel_rfl) ?_ ?_ ?_ ?_ hHeld ?_
                      rotate_left
                      · simp only [List.getElem?_toArray, List.getElem?_cons_zero, List.getElem?_cons_succ]; rfl
                      · kernel_rfl
                      · kernel_rfl
                      · exact fun _ _ _ h => h
                      · exact Or.inl ⟨by rfl, by intro w' hSw; have h0 := hSw.2.cell 0; have h1 := hSw.2.cell 1; have h2 := hSw.2.cell 2; have h3 := hSw.2.cell 3; simp at h0 h1 h2 h3; go_simp⟩
                      simp only [Act.put, List.setIfInBounds_toArray, List.set_cons_zero, List.set_cons_succ]
                      refine wpAnyH_ready (rs := [7]) (by kernel_rfl) (by simp) ?_
                      refine AllReadyH.cons (o := ?_) ?_ (fun K hK => ?_) ?_
                      rotate_left
                      · simp only [List.getElem?_toArray, List.getElem?_cons_zero, List.getElem?_cons_succ]; rfl
                      · go_simp
                        refine (HCA.out _ (below_next HBW.out HX3.out HBW.out.size)).mono ?_
                        rintro e y4 ⟨Aa2, ca2, rfl, hs, hb⟩
                        simp only []
                        have HX4 := Lib.hid (below_next HX3.out hb HX3.out.size)
                        have Sa2 := Lib.hid hs
                        clear hs
                        obtain ⟨q0, q1⟩ := hHeld
                        refine hK.out _ _ ⟨q0.below hb q0.lt, q1.below hb q1.lt⟩ (fun hHeld => ?_)
                        clear hK K hb q0 q1
                        try simp only [Act.put, List.setIfInBounds_toArray, List.set_cons_zero, List.set_cons_succ]
                        refine wpAnyH_ready (rs := [9]) (by kernel_rfl) (by simp) ?_
                        refine AllReadyH.cons (o := ?_) ?_ (fun K hK => ?_) ?_
                        rotate_left
                        · simp only [List.getElem?_toArray, List.getElem?_cons_zero, List.getElem?_cons_succ]; rfl
                        · go_simp
                          refine (HRX.out _ (below_next HBW.out HX4.out HBW.out.size)).mono ?_
                          rintro e y5 ⟨Ax2, cx2, rfl, hs, hb⟩
                          simp only []
                          have HX5 := Lib.hid (below_next HX4.out hb HX4.out.size)
                          have Sa2n := Lib.hid (Sa2.out.after hb hb.size)
                          have Sx2 := Lib.hid hs
                          clear hs
                          obtain ⟨q0, q1⟩ := hHeld
                          refine hK.out _ _ ⟨q0.below hb q0.lt, q1.below hb q1.lt⟩ (fun hHeld => ?_)
                          clear hK K hb q0 q1
                          try simp only [Act.put, List.setIfInBounds_toArray, List.set_cons_zero, List.set_cons_succ]
                          refine wpAnyH_ready (rs := [10]) (by kernel_rfl) (by simp) ?_
                          refine AllReadyH.cons (o := ?_) ?_ (fun K hK => ?_) ?_
                          rotate_left
                          · simp only [List.getElem?_toArray, List.getElem?_cons_zero, List.getElem?_cons_succ]; rfl
                          · go_simp
                            refine (HM2.out _ _ _ _ _ Sa2n.out Sx2.out).mono ?_
                            rintro e y6 ⟨rfl, hb⟩
                            simp only []
                            have HX6 := Lib.hid (below_next HX5.out hb HX5.out.size)
                            obtain ⟨q0, q1⟩ := hHeld
                            refine hK.out _ _ ⟨q0.below hb q0.lt, q1.below hb q1.lt⟩ (fun hHeld => ?_)
                            clear hK K hb q0 q1
                            try simp only [Act.put, List.setIfInBounds_toArray, List.set_cons_zero, List.set_cons_succ]
                            refine wpAnyH_take (i := 11) (oi := ?_) (v := .bool false) ?_ (by kernel_rfl) ?_ ?_ ?_ ?_ hHeld ?_
                            rotate_left
                            · simp only [List.getElem?_toArray, List.getElem?_cons_zero, List.getElem?_cons_succ]; rfl
                            · kernel_rfl
                            · kernel_rfl
                            · exact fun _ _ _ h => h
                            · exact Or.inl ⟨by rfl, by intro w' hSw; go_simp⟩
                            simp only [Act.put, List.setIfInBounds_toArray, List.set_cons_zero, List.set_cons_succ]
                            refine wpAnyH_take (i := 12) (oi := ?_) (v := .bool false) ?_ (by kernel_rfl) ?_ ?_ ?_ ?_ hHeld ?_
                            rotate_left
                            · simp only [List.getElem?_toArray, List.getElem?_cons_zero, List.getElem?_cons_succ]; rfl
                            · kernel_rfl
                            · kernel_rfl
                            · exact fun _ _ _ h => h
                            · exact Or.inl ⟨by rfl, by intro w' hSw; go_simp⟩
                            simp only [Act.put, List.setIfInBounds_toArray, List.set_cons_zero, List.set_cons_succ]
                            refine wpAnyH_take (i := 13) (oi := ?_) (v := .agg #[.int .i64 a.unit, .int .i64 a.num, .slice a.rA a.rn a.rc, .slice a.cA a.cn a.cc]) ?_ (by kernel_rfl) ?_ ?_ ?_ ?_ hHeld ?_
                            rotate_left
                            · simp only [List.getElem?_toArray, List.getElem?_cons_zero, List.getElem?_cons_succ]; rfl
                            · kernel_rfl
                            · kernel_rfl
                            · exact fun _ _ _ h => h
                            · exact Or.inl ⟨by rfl, by intro w' hSw; have h0 := hSw.1.cell 0; have h1 := hSw.1.cell 1; have h2 := hSw.1.cell 2; have h3 := hSw.1.cell 3; simp at h0 h1 h2 h3; go_simp⟩
                            simp only [Act.put, List.setIfInBounds_toArray, List.set_cons_zero, List.set_cons_succ]
                            refine wpAnyH_take (i := 15) (oi := ?_) (v := .agg #[.int .i64 x.unit, .int .i64 x.num, .slice x.rA x.rn x.rc, .slice x.cA x.cn x.cc]) ?_ (by kernel_rfl) ?_ ?_ ?_ ?_ hHeld ?_
                            rotate_left
                            · simp only [List.getElem?_toArray, List.getElem?_cons_zero, List.getElem?_cons_succ]; rfl
                            · kernel_rfl
                            · kernel_rfl
                            · exact fun _ _ _ h => h
                            · exact Or.inl ⟨by rfl, by intro w' hSw; have h0 := hSw.2.cell 0; have h1 := hSw.2.cell 1; have h2 := hSw.2.cell 2; have h3 := hSw.2.cell 3; simp at h0 h1 h2 h3; go_simp⟩
                            simp only [Act.put, List.setIfInBounds_toArray, List.set_cons_zero, List.set_cons_succ]
                            refine wpAnyH_ready (rs := [14]) (by kernel_rfl) (by simp) ?_
                            refine AllReadyH.cons (o := ?_) ?_ (fun K hK => ?_) ?_
                            rotate_left
                            · simp only [List.getElem?_toArray, List.getElem?_cons_zero, List.getElem?_cons_succ]; rfl
                            · go_simp
                              refine (HRA.out _ (below_next HBW.out HX6.out HBW.out.size)).mono ?_
                              rintro e y7 ⟨Aa3, ca3, rfl, hs, hb⟩
                              simp only []
                              have HX7 := Lib.hid (below_next HX6.out hb HX6.out.size)
                              have Sa3 := Lib.hid hs
                              clear hs
                              obtain ⟨q0, q1⟩ := hHeld
                              refine hK.out _ _ ⟨q0.below hb q0.lt, q1.below hb q1.lt⟩ (fun hHeld => ?_)
                              clear hK K hb q0 q1
                              try simp only [Act.put, List.setIfInBounds_toArray, List.set_cons_zero, List.set_cons_succ]
                              refine wpAnyH_ready (rs := [16]) (by kernel_rfl) (by simp) ?_
                              refine AllReadyH.cons (o := ?_) ?_ (fun K hK => ?_) ?_
                              rotate_left
                              · simp only [List.getElem?_toArray, List.getElem?_cons_zero, List.getElem?_cons_succ]; rfl
                              · go_simp
                                refine (HCX.out _ (below_next HBW.out HX7.out HBW.out.size)).mono ?_
                                rintro e y8 ⟨Ax3, cx3, rfl, hs, hb⟩
                                simp only []
                                have HX8 := Lib.hid (below_next HX7.out hb HX7.out.size)
                                have Sa3n := Lib.hid (Sa3.out.after hb hb.size)
                                have Sx3 := Lib.hid hs
                                clear hs
                                obtain ⟨q0, q1⟩ := hHeld
                                refine hK.out _ _ ⟨q0.below hb q0.lt, q1.below hb q1.lt⟩ (fun hHeld => ?_)
                                clear hK K hb q0 q1
                                try simp only [Act.put, List.setIfInBounds_toArray, List.set_cons_zero, List.set_cons_succ]
                                refine wpAnyH_ready (rs := [17]) (by kernel_rfl) (by simp) ?_
                                refine AllReadyH.cons (o := ?_) ?_ (fun K hK => ?_) ?_
                                rotate_left
                                · simp only [List.getElem?_toArray, List.getElem?_cons_zero, List.getElem?_cons_succ]; rfl
                                · go_simp
                                  refine (HM3.out _ _ _ _ _ Sa3n.out Sx3.out).mono ?_
                                  rintro e y9 ⟨rfl, hb⟩
                                  simp only []
                                  have HX9 := Lib.hid (below_next HX8.out hb HX8.out.size)
                                  obtain ⟨q0, q1⟩ := hHeld
                                  refine hK.out _ _ ⟨q0.below hb q0.lt, q1.below hb q1.lt⟩ (fun hHeld => ?_)
                                  clear hK K hb q0 q1
                                  try simp only [Act.put, List.setIfInBounds_toArray, List.set_cons_zero, List.set_cons_succ]
                                  refine wpAnyH_take (i := 18) (oi := ?_) (v := .bool false) ?_ (by kernel_rfl) ?_ ?_ ?_ ?_ hHeld ?_
                                  rotate_left
                                  · simp only [List.getElem?_toArray, List.getElem?_cons_zero, List.getElem?_cons_succ]; rfl
                                  · kernel_rfl
                                  · kernel_rfl
                                  · exact fun _ _ _ h => h
                                  · exact Or.inl ⟨by rfl, by intro w' hSw; go_simp⟩
                                  simp only [Act.put, List.setIfInBounds_toArray, List.set_cons_zero, List.set_cons_succ]
                                  refine wpAnyH_done (by kernel_rfl) ?_ _
                                  have HRL : Hid (confL s i ++ rowL s i (k + 1) = confL s i ++ rowL s i k) := Lib.hid (by rw [rowL_no (by have h := HCF.out; simpa using h)])
                                  have HO4 : Hid (y9.ownsRow w1.heap.size 58 2 u5 ((confL s i ++ rowL s i (k + 1)).length) (flat pC (confL s i ++ rowL s i (k + 1)))) := Lib.hid (by rw [HRL.out]; exact own_below HOX.out HX9.out)
                                  have B4 := Lib.hid (below_next HBW.out HX9.out HBW.out.size)
                                  have HK4 := Lib.hid hHeld.1
                                  clear hHeld
                                  go_wp2
                                  go_roundw
                                  case rel => exact ⟨k + 1, by omega, by omega, by go_num, HO4.out, HK4.out, B4.out⟩
                                  case measure => simp [intOf]; omega
                                exact AllReadyH.nil
                              exact AllReadyH.nil
                            exact AllReadyH.nil
                          exact AllReadyH.nil
                        exact AllReadyH.nil
                      exact AllReadyH.nil
                    exact AllReadyH.nil
                  exact AllReadyH.nil
                exact AllReadyH.nil
        · have hkm' : k = m := by omega
          have HC : Hid (confL s i ++ rowL s i k = confL s (i + 1)) := Lib.hid (by rw [confL_succ, HMM.out, hkm'])
          rw [HC.out] at HOX
          clear hkm'
          go_wp2_with fail
          go_roundw
          case rel => exact ⟨i + 1, hlt, by go_num, HOX.out, HBW.out⟩
          case measure => simp [intOf]; omega
    · have hin : i = m := by omega
      subst hin
      have HLE : Hid ((confL s i).length ≤ 144) := Lib.hid (by have := confL_len s i; rw [HMM.out] at this; exact Nat.le_trans this (Nat.mul_le_mul hm12 hm12))
      obtain ⟨A5, c5, hv5, _, _⟩ := own_form HOW.out
      subst hv5
      have HSL := Lib.hid (Sl.of_own (f := pC) (k := 2) pC_len (by decide) HOW.out)
      go_wp2
      go_ret
      exact ⟨A5, c5, rfl, HSL.out, below_next HB1.out HB.out HB1.out.size⟩
end Go.Proofs.YtpklgdclknicjaaGreatDoor
