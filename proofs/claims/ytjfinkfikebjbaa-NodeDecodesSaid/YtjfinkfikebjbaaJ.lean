/- Contract of Decode. -/
import Derived.Test.YtjfinkfikebjbaaI
import Derived.Test.YtjfinkfikebjbaaBlk
import Derived.Deep.RegionLaw
namespace Go.Proofs.Ytjfinkfikebjbaa
open Go.RowKit
attribute [local go_sem ↓] Go.wp_at_zero Go.wp_at_succ

theorem Try.info34 : (Try.prog.info? 34).map (fun i => (i.zero, i.size, i.bytes)) = some (some (.agg #[.string ⟨#[]⟩, .int .i64 0]), 2, 24) := by kernel_rfl

def rdN (r : ByteArray) (k : Nat) : Nat := numN (r.data.toList.take k)
def drB (r : ByteArray) (k : Nat) : ByteArray := r.extract (min k r.size) r.size
def tkB (r : ByteArray) (k : Nat) : ByteArray := r.extract 0 (min k r.size)
def stepM (r : ByteArray) : Nat := rdN (drB r 1) 1
def stepB (r b : ByteArray) : ByteArray := b.extract 0 (min (rdN r 1) b.size) ++ tkB (drB (drB r 1) 1) (stepM r)
def stepR (r : ByteArray) : ByteArray := drB (drB (drB r 1) 1) (stepM r)
/-- what Decode's loop holds behind j rounds: the rest, the last Below, the entries -/
def pst (d : ByteArray) : Nat → ByteArray × ByteArray × List Ent
  | 0 => (drB (drB (drB d 1) 4) 1, ⟨#[]⟩, [])
  | j + 1 => (drB (stepR (pst d j).1) 4, stepB (pst d j).1 (pst d j).2.1, (pst d j).2.2 ++ [(stepB (pst d j).1 (pst d j).2.1, (rdN (stepR (pst d j).1) 4 : Int))])
def dLv (d : ByteArray) : Nat := rdN d 1
def dNx (d : ByteArray) : Nat := rdN (drB d 1) 4
def dCnt (d : ByteArray) : Nat := rdN (drB (drB d 1) 4) 1
def dEs (d : ByteArray) : List Ent := (pst d (dCnt d)).2.2

theorem rdN_lt (r : ByteArray) (k : Nat) : rdN r k < 256 ^ k := by
  have := numN_lt (r.data.toList.take k)
  refine Nat.lt_of_lt_of_le this (Nat.pow_le_pow_right (by omega) (by rw [List.length_take]; omega))
theorem pst_len (d : ByteArray) : ∀ j, (pst d j).2.2.length = j
  | 0 => rfl
  | j + 1 => by simp [pst, pst_len d j]
theorem stepB_size (r b : ByteArray) : (stepB r b).size ≤ 600 := by
  unfold stepB tkB
  have h1 := rdN_lt r 1
  have h2 : stepM r < 256 ^ 1 := rdN_lt _ 1
  rw [ByteArray.size_append, ByteArray.size_extract, ByteArray.size_extract]
  omega
theorem pst_size (d : ByteArray) : ∀ j, (pst d j).2.1.size ≤ 600
  | 0 => by show (0 : Nat) ≤ 600; omega
  | j + 1 => stepB_size _ _

/-- the two results of Decode -/
def DecR (lv nx : Int) (es : List Ent) (code : Int) (w : World) (e : Ending) (w' : World) : Prop :=
  ∃ A c, e = .returned (.tuple #[.agg #[.int .i64 lv, .int .i64 nx, .slice A es.length c], .int .i64 code]) ∧ Es w' w'.heap.size A es.length c es ∧ Below w.heap.size w w'

theorem num_is (g : Nat) (s : ByteArray) (k : Nat) (w : World) (h : Rdr w g s) (hk : k ≤ 4) :
    Calls Try.prog 31 #[.pointer (some ⟨g, 0, none⟩), .int .i64 k] w fun e w' => e = .returned (.int .i64 (rdN s k)) ∧ Rdr w' g (drB s k) ∧ w.grownBy w' (some g) := number_any g s k w h hk
theorem tak_is (g : Nat) (s : ByteArray) (k : Nat) (w : World) (h : Rdr w g s) :
    Calls Try.prog 32 #[.pointer (some ⟨g, 0, none⟩), .int .i64 k] w fun e w' => e = .returned (.string (tkB s k)) ∧ Rdr w' g (drB s k) ∧ w.grownBy w' (some g) :=
  (take_any g s k w h).mono fun _ _ ⟨he, hw⟩ => ⟨he, hw ▸ h.set _, hw ▸ grown_set w g _⟩
theorem grown_tr {a b c : World} {row : Option Nat} (h : a.grownBy b row) (k : b.grownBy c row) : a.grownBy c row := h.trans k

theorem num1 (g : Nat) (s : ByteArray) (w : World) (h : Rdr w g s) :
    Calls Try.prog 31 #[.pointer (some ⟨g, 0, none⟩), .int .i64 1] w fun e w' => e = .returned (.int .i64 (rdN s 1)) ∧ Rdr w' g (drB s 1) ∧ w.grownBy w' (some g) := num_is g s 1 w h (by omega)
theorem num4 (g : Nat) (s : ByteArray) (w : World) (h : Rdr w g s) :
    Calls Try.prog 31 #[.pointer (some ⟨g, 0, none⟩), .int .i64 4] w fun e w' => e = .returned (.int .i64 (rdN s 4)) ∧ Rdr w' g (drB s 4) ∧ w.grownBy w' (some g) := num_is g s 4 w h (by omega)
abbrev zN : Array Value := #[.int .i64 0, .int .i64 0, .slice none 0 0]

theorem undrew {w w' : World} {row : Option Nat} (h : w.drew.grownBy w' row) : w.grownBy w' row := ⟨h.os, h.tape, h.output, h.size, h.block⟩
theorem tkB_size (r : ByteArray) (k : Nat) : (tkB r k).size ≤ k := by unfold tkB; rw [ByteArray.size_extract]; omega
theorem eCells_snoc (es : List Ent) (x : ByteArray) (p : Int) : eCells (es ++ [(x, p)]) = eCells es ++ [.string x, .int .i64 p] := by simp [eCells]
theorem ent_one (x : ByteArray) (p : Int) : ∀ u ∈ [Value.string x, Value.int .i64 p], u.oneCell' = true := by
  intro u hu
  simp at hu
  rcases hu with rfl | rfl <;> rfl
/-- what lies in memory behind j rounds -/
def DInv (w : World) (N : Nat) (d : ByteArray) (j : Nat) (wr : World) : Prop :=
  Rdr wr (w.heap.size + 1) (pst d j).1 ∧ Blk wr w.heap.size 25 zN ∧ Below w.heap.size w wr ∧
  ∃ v, Blk wr N 25 #[.int .i64 (dLv d), .int .i64 (dNx d), v] ∧ wr.ownsRow w.heap.size 34 2 v j (eCells (pst d j).2.2)

set_option maxRecDepth 100000 in
set_option maxHeartbeats 1000000 in
theorem decode_main (z : Int) (d : ByteArray) (w : World) (hsz : szB z = true) :
    Calls Try.prog 11 #[.int .i64 z, .string d] w (if encE z (dLv d) (dNx d) (dEs d) = 0 ∧ encS z (dLv d) (dNx d) (dEs d) = d then DecR (dLv d) (dNx d) (dEs d) 0 w else DecR 0 0 [] 11 w) := by
  obtain ⟨i0, hi0, hz0, hz1, hz2⟩ := info_parts Try.info34
  generalize hPost : (if encE z (dLv d) (dNx d) (dEs d) = 0 ∧ encS z (dLv d) (dNx d) (dEs d) = d then DecR (dLv d) (dNx d) (dEs d) 0 w else DecR 0 0 [] 11 w) = Post
  have HPOST := Lib.hid hPost
  have HSZ := Lib.hid hsz
  clear hPost hsz
  go_enter Try.func11, Try.ntmps11
  go_wp2_with fail
  refine (isSize_any z _).mono ?_
  rintro e w' ⟨rfl, rfl⟩
  rw [HSZ.out]
  go_wp2_with fail
  have a1 : Rdr ((w.alloc (.cells zN 25)).alloc (.cells #[.string d] 50)) (w.heap.size + 1) d := by
    have := Blk.new (w.alloc (.cells zN 25)) 50 #[.string d]
    rw [World.size_alloc] at this
    exact this
  have a2 : Blk ((w.alloc (.cells zN 25)).alloc (.cells #[.string d] 50)) w.heap.size 25 zN := (Blk.new w 25 zN).alloc _
  have a3 : Below w.heap.size w ((w.alloc (.cells zN 25)).alloc (.cells #[.string d] 50)) := ((Below.refl _ _).alloc (Nat.le_refl _) _).alloc (by simp) _
  refine (num1 (w.heap.size + 1) d _ a1).mono ?_
  rintro e w1 ⟨rfl, b1, g1⟩
  have b2 := a2.grown g1 (by simp)
  have b3 := a3.grown g1 (by simp; omega) (by rintro k ⟨⟩; omega)
  have B1 := Lib.hid b1
  have B2 := Lib.hid b2
  have B3 := Lib.hid b3
  clear a1 a2 a3 b1 b2 b3 g1
  go_wp2_with fail
  refine (num4 (w.heap.size + 1) _ w1 B1.out).mono ?_
  rintro e w2 ⟨rfl, b1, g1⟩
  have b2 := B2.out.grown g1 (by simp)
  have b3 := B3.out.grown g1 (B3.out.size) (by rintro k ⟨⟩; omega)
  have b4 := b1.lt
  have HR := Lib.hid b1
  have HZ := Lib.hid b2
  have HB := Lib.hid b3
  have e1 : rdN d 1 = dLv d := rfl
  have e2 : rdN (drB d 1) 4 = dNx d := rfl
  rw [e1, e2]
  clear b1 b2 b3 g1 B1 B2 B3 e1 e2
  go_wp2_with fail
  have a1 : Rdr (w2.alloc (.cells #[.int .i64 (dLv d), .int .i64 (dNx d), .slice none 0 0] 25)) (w.heap.size + 1) (drB (drB d 1) 4) := Blk.alloc HR.out _
  have a2 := HZ.out.alloc (.cells #[.int .i64 (dLv d), .int .i64 (dNx d), .slice none 0 0] 25)
  have a3 := HB.out.alloc HB.out.size (.cells #[.int .i64 (dLv d), .int .i64 (dNx d), .slice none 0 0] 25)
  have a4 := Blk.new w2 25 #[.int .i64 (dLv d), .int .i64 (dNx d), .slice none 0 0]
  refine (num1 (w.heap.size + 1) _ _ a1).mono ?_
  rintro e w3 ⟨rfl, b1, g1⟩
  have e1 : rdN (drB (drB d 1) 4) 1 = dCnt d := rfl
  rw [e1]
  have b2 := a2.grown g1 (by simp)
  have b3 := a3.grown g1 (by have := HB.out.size; simp; omega) (by rintro k ⟨⟩; omega)
  have b5 := a4.grown g1 (by simp; omega)
  have C1 := Lib.hid b1
  have C2 := Lib.hid b2
  have C3 := Lib.hid b3
  have C4 := Lib.hid b5
  have hcnt : dCnt d < 256 := by have := rdN_lt (drB (drB d 1) 4) 1; exact this
  clear a1 a2 a3 a4 b1 b2 b3 b5 g1 e1
  have hN : w.heap.size + 1 < w2.heap.size := b4
  obtain ⟨cnt, hc⟩ : ∃ c, dCnt d = c := ⟨_, rfl⟩
  rw [hc] at hcnt
  rw [hc]
  have HCN := Lib.hid hc
  clear hc
  go_wp2_with fail
  go_loopw [9, 30] (fun v i wr => ∃ j : Nat, j ≤ cnt ∧ i = .int .i64 j ∧ v = .string (pst d j).2.1 ∧ DInv w w2.heap.size d j wr) (fun _ i _ => cnt - (intOf i).toNat)
  case atStart => exact ⟨0, Nat.zero_le _, rfl, rfl, C1.out, C2.out, C3.out, _, C4.out, World.ownsRow_nil _ _ _ _⟩
  case round =>
    obtain ⟨j, hj, rfl, rfl, hR, hZ, hB, v, hNb, hown⟩ := hrel
    by_cases hlt : j < cnt
    · have hbs := pst_size d j
      have hnx : pst d (j + 1) = (drB (stepR (pst d j).1) 4, stepB (pst d j).1 (pst d j).2.1, (pst d j).2.2 ++ [(stepB (pst d j).1 (pst d j).2.1, (rdN (stepR (pst d j).1) 4 : Int))]) := rfl
      have HNX := Lib.hid hnx
      clear hnx
      generalize (pst d j).1 = r at *
      generalize (pst d j).2.1 = bf at *
      generalize (pst d j).2.2 = es at *
      have hr1 := rdN_lt r 1
      obtain ⟨F, hF⟩ : ∃ F : Nat, F = min (rdN r 1) bf.size := ⟨_, rfl⟩
      have hmin : min ((rdN r 1 : Nat) : Int) ((bf.size : Nat) : Int) = (F : Int) := by omega
      have hF1 : F ≤ bf.size := by omega
      have HF := Lib.hid hF
      have X1 := Lib.hid hR
      have X2 := Lib.hid hZ
      have X3 := Lib.hid hB
      have X4 := Lib.hid hNb
      have X5 := Lib.hid hown
      clear hF hR hZ hB hNb hown
      go_wp2_with fail
      refine (num1 (w.heap.size + 1) r wr X1.out).mono ?_
      rintro e w4 ⟨rfl, b1, g1⟩
      have Y1 := Lib.hid b1
      have Y2 := Lib.hid (X2.out.grown g1 (by simp))
      have Y3 := Lib.hid (X3.out.grown g1 X3.out.size (by rintro k ⟨⟩; omega))
      have Y4 := Lib.hid (X4.out.grown g1 (by simp; omega))
      have Y5 := Lib.hid (X5.out.kept g1 (.inr (own_blk X5.out X1.out (by decide))))
      clear b1 g1 X1 X2 X3 X4 X5
      go_upto_region 10 with (fail)
      go_cut [11] (fun s11 wx => s11 = .string (stepB r bf) ∧ Rdr wx (w.heap.size + 1) (stepR r) ∧ w4.grownBy wx (some (w.heap.size + 1)))
      case first =>
        obtain ⟨TK, hTK⟩ : ∃ TK, tkB (drB (drB r 1) 1) (rdN (drB r 1) 1) = TK := ⟨_, rfl⟩
        have hz6 : TK.size ≤ 255 := by rw [← hTK]; have := tkB_size (drB (drB r 1) 1) (rdN (drB r 1) 1); have h2 := rdN_lt (drB r 1) 1; omega
        have hpz : (bf.extract 0 F).size = F := by rw [ByteArray.size_extract]; omega
        obtain ⟨PB, hPB⟩ : ∃ PB, bf.extract 0 F = PB := ⟨_, rfl⟩
        have hres : stepB r bf = PB ++ TK := by rw [← hTK, ← hPB, HF.out]; rfl
        have htak : ∀ W, Rdr W (w.heap.size + 1) (drB (drB r 1) 1) → Calls Try.prog 32 #[.pointer (some ⟨w.heap.size + 1, 0, none⟩), .int .i64 (rdN (drB r 1) 1)] W fun e w' => e = .returned (.string TK) ∧ Rdr w' (w.heap.size + 1) (stepR r) ∧ W.grownBy w' (some (w.heap.size + 1)) := by
          rw [← hTK]; exact fun W h => tak_is (w.heap.size + 1) (drB (drB r 1) 1) (rdN (drB r 1) 1) W h
        have hz7 : PB.size ≤ 600 := by rw [← hPB, hpz]; omega
        have hadd : ∀ W : World, (Op.stringOp .add PB TK).run Try.prog W = .ok (.string (PB ++ TK)) W := fun W => run_string_add_sum (P := Try.prog) (w := W) PB TK (by omega)
        have HRES := Lib.hid hres
        have HTAK := Lib.hid htak
        clear hTK hres htak hpz
        have f0 : (0 : Int) ≤ (F : Int) := by omega
        have f1 : (F : Int) ≤ (bf.size : Int) := by omega
        go_region_with (first | (go_at_call 31; refine (num1 (w.heap.size + 1) (drB r 1) _ (by exact Y1.out)).mono ?_; rintro e w5 ⟨rfl, b5, g5⟩; have B5 := Lib.hid b5; have G5 := Lib.hid g5; clear b5 g5) | (go_at_call 32; refine (HTAK.out _ (by exact B5.out)).mono ?_; rintro e w6 ⟨rfl, b6, g6⟩; have B6 := Lib.hid b6; have G6 := Lib.hid g6; clear b6 g6))
        go_wp2_with fail
        go_meet
        exact ⟨by rw [HRES.out], B6.out, grown_tr (undrew G5.out) G6.out⟩
      case rest =>
        obtain ⟨rfl, hR5, g5⟩ := hcut
        have Z1 := Lib.hid hR5
        have Z2 := Lib.hid (Y2.out.grown g5 (by simp))
        have Z3 := Lib.hid (Y3.out.grown g5 Y3.out.size (by rintro k ⟨⟩; omega))
        have z4 := Y4.out.grown g5 (by simp; omega)
        have Z4 := Lib.hid z4
        have Z5 := Lib.hid (Y5.out.kept g5 (.inr (own_blk Y5.out Y1.out (by decide))))
        have hcell : wc.cell? ⟨w2.heap.size, 2, none⟩ = some v := z4.cell 2
        have hszc : w.heap.size ≤ wc.heap.size := Z3.out.size
        clear hR5 g5 z4 Y1 Y2 Y3 Y4 Y5 hmin hF1 HF
        generalize hsb : stepB r bf = bl at *
        have HSB := Lib.hid hsb
        clear hsb
        have n4 : rdN (stepR r) 4 < 4294967296 := rdN_lt (stepR r) 4
        have s1 : j + 1 ≤ maxLen := by simp only [maxLen]; omega
        have s2 : (j + 1) * 24 ≤ 140737488355328 := by omega
        have hc4 : ∀ W : World, Rdr W (w.heap.size + 1) (stepR r) → Calls Try.prog 31 #[.pointer (some ⟨w.heap.size + 1, 0, none⟩), .int .i64 4] W fun e w' => e = .returned (.int .i64 (rdN (stepR r) 4)) ∧ Rdr w' (w.heap.size + 1) (drB (stepR r) 4) ∧ W.grownBy w' (some (w.heap.size + 1)) := fun W h => num4 _ _ W h
        have HC4 := Lib.hid hc4
        clear hc4
        generalize rdN (stepR r) 4 = pg at *
        go_upto_region 11 with (fail)
        go_cut [] (fun wx => DInv w w2.heap.size d (j + 1) wx)
        case first =>
          have vn := own_blk Z5.out Z4.out (by decide)
          go_region_law (first | (refine step_app _ (by rfl) _ _ 23 (by rfl) w.heap.size 34 i0 (.agg #[.string ⟨#[]⟩, .int .i64 0]) 2 24 Try.underlying23 hi0 hz0 hz1 hz2 rfl (by decide) v j (eCells es) (by rfl) (by exact O7.out.alloc _) (w7.heap.size + 1) (some ⟨w7.heap.size, 0, none⟩) 1 1 [.string bl, .int .i64 pg] (by rfl) (rd_new w7 [.string bl, .int .i64 pg] 34 1 2 rfl) (ent_one _ _) s1 s2 (by exact Nat.le_trans hs7 (alloc_le _ _)) ?_; intro v8 w8 ho8 hg8 _; have bN8 := (N7.out.alloc (.cells #[.string bl, .int .i64 pg] 34)).grown hg8 (Ne.symm vn); have k8 : w8.cell? ⟨w2.heap.size, 2, none⟩ = some v := bN8.cell 2; have f8 := bN8.free 2; obtain ⟨A8, c8, rfl, hc8, _⟩ := own_form ho8; have O8 := Lib.hid ho8; have G8 := Lib.hid hg8; have N8 := Lib.hid bN8; clear ho8 hg8 bN8) | (go_simp; go_at_call 31; refine (HC4.out _ (by exact Z1.out)).mono ?_; rintro e w7 ⟨rfl, b7, g7⟩; have bN7 := (show Blk wc.drew w2.heap.size 25 _ from Z4.out).grown g7 (by simp; omega); have k7 : w7.cell? ⟨w2.heap.size, 2, none⟩ = some v := bN7.cell 2; have l7 := bN7.lt; have O7 := Lib.hid ((show wc.drew.ownsRow w.heap.size 34 2 v j (eCells es) from Z5.out).kept g7 (.inr (own_blk Z5.out Z1.out (by decide)))); have hs7 : w.heap.size ≤ w7.heap.size := (Nat.le_trans hszc g7.size); have N7 := Lib.hid bN7; have R7 := Lib.hid b7; have G7 := Lib.hid g7; clear b7 g7 bN7))
          all_goals
            go_wp2_with fail
            go_meet
            refine ⟨?_, ?_, ?_, .slice A8 (j + 1) c8, ?_, ?_⟩
            · rw [HNX.out]
              exact (Blk.grown (Blk.alloc R7.out _) G8.out (by have := own_blk O7.out R7.out (by decide); exact Ne.symm this)).far (by simp; omega) _
            · exact (((Z2.out.drew.grown G7.out (by simp)).alloc _).grown G8.out (by have := own_blk O7.out (Z2.out.drew.grown G7.out (by simp)) (by decide); exact Ne.symm this)).far (by simp; omega) _
            · exact ((((Z3.out.drew).grown G7.out hszc (by rintro k ⟨⟩; omega)).alloc hs7 _).grown G8.out (Nat.le_trans hs7 (alloc_le _ _)) (own_row O7.out (Nat.le_refl _))).setCell (by simp; omega) _
            · exact N8.out.set 2 (.slice A8 (j + 1) c8)
            · rw [HNX.out]
              have := own_set O8.out N8.out (by decide) 2 (.slice A8 (j + 1) c8)
              show World.ownsRow _ _ _ _ _ _ (eCells (es ++ [(bl, (pg : Int))]))
              rw [eCells_snoc]
              exact this
        case rest =>
          go_wp2
          go_roundw
          case rel => exact ⟨j + 1, by omega, by go_num, by rw [HNX.out], hcut⟩
          case measure => simp [intOf]; omega
    · obtain rfl : j = cnt := by omega
      have hes : (pst d j).2.2 = dEs d := by unfold dEs; rw [HCN.out]
      rw [hes] at hown
      have hlen : (dEs d).length = j := by rw [← hes]; exact pst_len d j
      obtain ⟨A, c, rfl, hc, hcm⟩ := own_form hown
      have hEs : Es wr wr.heap.size A j c (dEs d) := ⟨hc, Rd.of_own hown⟩
      have q0 : wr.cell? ⟨w2.heap.size, 0, none⟩ = some (.int .i64 (dLv d)) := hNb.cell 0
      have q1 : wr.cell? ⟨w2.heap.size, 1, none⟩ = some (.int .i64 (dNx d)) := hNb.cell 1
      have q2 : wr.cell? ⟨w2.heap.size, 2, none⟩ = some (.slice A j c) := hNb.cell 2
      have HES := Lib.hid hEs
      have X2 := Lib.hid hZ
      have X3 := Lib.hid hB
      have X4 := Lib.hid hNb
      have HL := Lib.hid hlen
      have HOWN := Lib.hid hown
      clear hes hown hR hZ hB hNb hEs hlen hcm
      go_wp2_with fail
      refine (encode_any z (dLv d) (dNx d) A j c (dEs d) wr HES.out (by omega)).mono ?_
      rintro e w5 ⟨rfl, hb5⟩
      have y2 := X2.out.below hb5 X2.out.lt
      have y4 := X4.out.below hb5 X4.out.lt
      have q0 : w5.cell? ⟨w2.heap.size, 0, none⟩ = some (.int .i64 (dLv d)) := y4.cell 0
      have q1 : w5.cell? ⟨w2.heap.size, 1, none⟩ = some (.int .i64 (dNx d)) := y4.cell 1
      have q2 : w5.cell? ⟨w2.heap.size, 2, none⟩ = some (.slice A j c) := y4.cell 2
      have r0 : w5.cell? ⟨w.heap.size, 0, none⟩ = some (.int .i64 0) := y2.cell 0
      have r1 : w5.cell? ⟨w.heap.size, 1, none⟩ = some (.int .i64 0) := y2.cell 1
      have r2 : w5.cell? ⟨w.heap.size, 2, none⟩ = some (.slice none 0 0) := y2.cell 2
      have t0 := y2.free 0
      have t1 := y2.free 1
      have t2 := y2.free 2
      have Y3 := Lib.hid (below_next X3.out hb5 X3.out.size)
      have YO := Lib.hid (own_below HOWN.out hb5)
      have YZ := Lib.hid y2
      clear hb5 y2 y4
      by_cases he : encE z (dLv d) (dNx d) (dEs d) = 0
      · by_cases hs : encS z (dLv d) (dNx d) (dEs d) = d
        · have hp : Post = DecR (dLv d) (dNx d) (dEs d) 0 w := by rw [← HPOST.out, if_pos ⟨he, hs⟩]
          have HPS := Lib.hid hp
          rw [he, hs]
          clear hp he hs
          go_wp2
          refine bodyPost_ret (v := .tuple #[.agg #[.int .i64 (dLv d), .int .i64 (dNx d), .slice A j c], .int .i64 0]) (by simp [results, Try.results11, go_sem, r0, r1, r2]) rfl ?_
          rw [HPS.out]
          refine ⟨A, c, by rw [HL.out], ?_, ((Y3.out.setCell (Nat.le_refl _) _).setCell (Nat.le_refl _) _).setCell (Nat.le_refl _) _⟩
          rw [HL.out]
          have o1 := own_set YO.out YZ.out (by decide) 0 (.int .i64 (dLv d))
          have z1 := YZ.out.set 0 (.int .i64 (dLv d))
          have o2 := own_set o1 z1 (by decide) 1 (.int .i64 (dNx d))
          have z2 := z1.set 1 (.int .i64 (dNx d))
          have o3 := own_set o2 z2 (by decide) 2 (.slice A j c)
          exact ⟨hc, Rd.of_own o3⟩
        · have hp : Post = DecR 0 0 [] 11 w := by rw [← HPOST.out, if_neg (fun h => hs h.2)]
          have HPS := Lib.hid hp
          have hs1 : ((encS z (dLv d) (dNx d) (dEs d)).toList == d.toList) = false := by rw [beq_ba]; simpa using hs
          have hs2 : ¬ (encS z (dLv d) (dNx d) (dEs d)).toList = d.toList := fun e => hs (ba_inj e)
          rw [he]
          generalize encS z (dLv d) (dNx d) (dEs d) = es1 at *
          clear hp he hs
          go_wp2
          refine bodyPost_ret (v := .tuple #[.agg #[.int .i64 0, .int .i64 0, .slice none 0 0], .int .i64 11]) (by simp [results, Try.results11, go_sem, r0, r1, r2]) rfl ?_
          rw [HPS.out]
          exact ⟨none, 0, rfl, es_nil, ((Y3.out.setCell (Nat.le_refl _) _).setCell (Nat.le_refl _) _).setCell (Nat.le_refl _) _⟩
      · have hp : Post = DecR 0 0 [] 11 w := by rw [← HPOST.out, if_neg (fun h => he h.1)]
        have HPS := Lib.hid hp
        have he1 : (encE z (dLv d) (dNx d) (dEs d) != 0) = true := by simp [he]
        generalize encE z (dLv d) (dNx d) (dEs d) = cd at *
        generalize encS z (dLv d) (dNx d) (dEs d) = es1 at *
        clear hp he
        go_wp2
        refine bodyPost_ret (v := .tuple #[.agg #[.int .i64 0, .int .i64 0, .slice none 0 0], .int .i64 11]) (by simp [results, Try.results11, go_sem, r0, r1, r2]) rfl ?_
        rw [HPS.out]
        exact ⟨none, 0, rfl, es_nil, ((Y3.out.setCell (Nat.le_refl _) _).setCell (Nat.le_refl _) _).setCell (Nat.le_refl _) _⟩

/-- what Decode returns -/
def decOk (z : Int) (d : ByteArray) : Bool := szB z && decide (encE z (dLv d) (dNx d) (dEs d) = 0 ∧ encS z (dLv d) (dNx d) (dEs d) = d)
def decLv (z : Int) (d : ByteArray) : Int := if decOk z d then dLv d else 0
def decNx (z : Int) (d : ByteArray) : Int := if decOk z d then dNx d else 0
def decEs (z : Int) (d : ByteArray) : List Ent := if decOk z d then dEs d else []
def decE (z : Int) (d : ByteArray) : Int := if decOk z d then 0 else if szB z then 11 else 1

theorem decode_any (z : Int) (d : ByteArray) (w : World) : Calls Try.prog 11 #[.int .i64 z, .string d] w (DecR (decLv z d) (decNx z d) (decEs z d) (decE z d) w) := by
  cases hsz : szB z with
  | true =>
    have := decode_main z d w hsz
    by_cases h : encE z (dLv d) (dNx d) (dEs d) = 0 ∧ encS z (dLv d) (dNx d) (dEs d) = d
    · have hk : decOk z d = true := by unfold decOk; rw [hsz]; simp [h]
      rw [if_pos h] at this
      unfold decLv decNx decEs decE
      rw [hk]
      exact this
    · have hk : decOk z d = false := by unfold decOk; rw [hsz]; simpa using h
      rw [if_neg h] at this
      unfold decLv decNx decEs decE
      rw [hk, hsz]
      exact this
  | false =>
    have hk : decOk z d = false := by unfold decOk; rw [hsz]; rfl
    unfold decLv decNx decEs decE
    rw [hk, hsz]
    simp only [Bool.false_eq_true, if_false]
    have HSZ := Lib.hid hsz
    clear hk hsz
    go_enter Try.func11, Try.ntmps11
    go_wp2_with fail
    refine (isSize_any z _).mono ?_
    rintro e w' ⟨rfl, rfl⟩
    rw [HSZ.out]
    go_wp2
    refine bodyPost_ret (v := .tuple #[.agg #[.int .i64 0, .int .i64 0, .slice none 0 0], .int .i64 1]) (by simp [results, Try.results11, go_sem]) rfl ?_
    exact ⟨none, 0, rfl, es_nil, (Below.refl _ _).alloc (Nat.le_refl _) _⟩
end Go.Proofs.Ytjfinkfikebjbaa
