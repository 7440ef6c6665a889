/- Contract of the reference's Pack. -/
import Derived.Test.YtehagkkmkbjpcaaC
import Derived.RegionTactic
import Derived.BigRegion
namespace Go.Proofs.Ytehagkkmkbjpcaa
open Go.RowKit

theorem all_step {ss : List ByteArray} {j : Nat} {l : Int} {s : ByteArray} (h : ∀ t, t < j → ∀ s, ss[t]? = some s → (s.size : Int) = l) (hg : ss[j]? = some s) (hs : (s.size : Int) = l) :
    ∀ t, t < j + 1 → ∀ s, ss[t]? = some s → (s.size : Int) = l := by
  intro t ht s' hs'
  by_cases e : t = j
  · subst e; rw [hg] at hs'; injection hs' with hs'; subst hs'; exact hs
  · exact h t (by omega) s' hs'
theorem all_okR {ss : List ByteArray} {n : Nat} {l : Int} (h : ∀ t, t < n → ∀ s, ss[t]? = some s → (s.size : Int) = l) (hl : ss.length = n) : okR l ss = true := by
  unfold okR
  rw [List.all_eq_true]
  intro s hsm
  obtain ⟨t, ht, rfl⟩ := List.getElem_of_mem hsm
  simpa using h t (by omega) _ (List.getElem?_eq_getElem ht)

theorem stored_eq {w : World} {base : Nat} {e : TypeId} {g n cap : Nat} {xs : List Value} (h : w.ownsRow base e 1 (.slice (some ⟨g, 0, none⟩) n cap) n xs) (j : Nat) (t s : ByteArray) (ht : t = s) :
    (w.setCell ⟨g, j, none⟩ (.string t)).ownsRow base e 1 (.slice (some ⟨g, 0, none⟩) n cap) n (xs.set j (.string s)) ∧ w.grownBy (w.setCell ⟨g, j, none⟩ (.string t)) (some g) := by
  subst ht; exact h.stored j _

set_option maxHeartbeats 1000000 in
theorem rpack_any (l b : Int) (A : Option Addr) (n c : Nat) (ss : List ByteArray) (w : World) (hs : Ss w w.heap.size A n c ss) (hn : n ≤ 2000) (hz : ∀ s ∈ ss, s.size ≤ 10000) :
    Calls Try.prog 13 #[.int .i64 l, .int .i64 b, .slice A n c] w (Two w (packL l b ss) (packE l b ss)) := by
  obtain ⟨i0, hi0, hz0, hz1, hz2⟩ := info_parts Try.info9
  have HL := Lib.hid hs.len
  have HS := Lib.hid hs
  have hnc := hs.1
  clear hs
  by_cases hv : vldB l b = true
  · obtain ⟨h1, h2, h3, h4⟩ := vld_iff.1 hv
    have HV := Lib.hid hv
    clear hv
    have hm1 : 1 ≤ b / l := Int.le_ediv_of_mul_le (by omega) (by omega)
    have hm2 : b / l ≤ b := Int.ediv_le_self _ (by omega)
    obtain ⟨m, hm⟩ : ∃ m : Nat, b / l = (m : Int) := ⟨(b / l).toNat, by omega⟩
    have hmo : mostI l b = (m : Int) := by unfold mostI; rw [HV.out]; simpa using hm
    have HM := Lib.hid hm
    have HMO := Lib.hid hmo
    rw [hm] at hm1 hm2
    clear hm hmo
    go_enter Try.func13, Try.ntmps13
    go_wp2_with (go_at_call 15; refine (rvalid_any _ _ _).mono ?_; rintro e w' ⟨rfl, rfl⟩; rw [HV.out])
    go_loopw [8, 9] (fun v i wr => ∃ j : Nat, j ≤ n ∧ i = .int .i64 j ∧ (∀ t, t < j → ∀ s, ss[t]? = some s → (s.size : Int) = l) ∧
        wr.ownsRow w.heap.size 9 1 v (blocks m (ss.take j)).length ((blocks m (ss.take j)).map Value.string) ∧ Below w.heap.size w wr) (fun _ i _ => n - (intOf i).toNat)
    case atStart =>
      refine ⟨0, Nat.zero_le _, rfl, fun t h => absurd h (by omega), ?_, (Below.refl _ _).alloc (Nat.le_refl _) _⟩
      have e : blocks m (ss.take 0) = [] := by simp [blocks, blkN_zero m (by omega)]
      rw [e]
      exact World.ownsRow_lit _ _ _ (Nat.le_refl _) (by omega) rfl
    case round =>
      obtain ⟨j, hj, rfl, hall, hown, hbel⟩ := hrel
      have HA := Lib.hid hall
      have HOW := Lib.hid hown
      clear hall hown
      have hsz1 := hbel.size
      by_cases hlt : j < n
      · obtain ⟨bb, o, s, rfl, hb, hg, hc⟩ := HS.out.cell hlt
        have hc' := (hbel.cell (p := ⟨bb, o + j, none⟩) hb).trans hc
        have HG := Lib.hid hg
        clear hg hc
        by_cases hsz : (s.size : Int) = l
        · have hsz' : ((s.size : Int) != l) = false := by simp [hsz]
          have HZ := Lib.hid hsz
          clear hsz
          have hsz2 := hz s (List.mem_of_getElem? HG.out)
          by_cases h0 : j % m = 0
          · have hbl := blocks_len (m := m) (ss := ss.take j) (by omega)
            rw [List.length_take] at hbl
            have h0' : (((j : Int) % (m : Int)) == 0) = true := by simp; omega
            go_wp2_with (first | (go_at_call 17; refine (rmost_any _ _ _).mono ?_; rintro e w' ⟨rfl, rfl⟩; rw [HMO.out]) | (at_builtin; refine wpList_append_own _ rfl _ _ 22 rfl w.heap.size 9 i0 (.string ⟨#[]⟩) 1 16 Try.underlying22 hi0 hz0 hz1 hz2 rfl (by decide) _ _ _ rfl (HOW.out.alloc _) ⟨wr.heap.size, 0, none⟩ 1 1 [.string ⟨#[]⟩] rfl rfl (cell_one_new _ _ _) (str_oneCell _) ?c3 ?c4 ?c5 ?_))
            case c3 => unfold maxLen; omega
            case c4 => omega
            case c5 => simp; omega
            intro v2 w2 hown2 hgr2 _
            have hbel2 := below_push hbel HOW.out (Nat.le_refl _) hsz1 hgr2
            have hc2 : w2.cell? ⟨bb, o + j, none⟩ = some (.string s) := by rw [hbel2.cell (p := ⟨bb, o + j, none⟩) hb, ← hbel.cell (p := ⟨bb, o + j, none⟩) hb]; exact hc'
            have hsz4 := hbel2.size
            obtain ⟨g, cap, rfl, hg1, hg2, hg3⟩ := own_at hown2 (by omega)
            have hK : ∃ K, (blocks m (ss.take j)).length = K := ⟨_, rfl⟩
            obtain ⟨K, hK⟩ := hK
            rw [hK] at hown2 hbl
            have hcy : w2.cell? ⟨g, K, none⟩ = some (.string ⟨#[]⟩) := by rw [hown2.cellAt _ (by omega)]; simp [hK]
            have hcf := hown2.frozenAt K
            have hst := stored_eq hown2 K (⟨#[]⟩ ++ s) s (by apply ba_ext; rw [ba_app]; rfl)
            have HK := Lib.hid hK
            have HST := Lib.hid hst
            clear hst hown2 hgr2 hK HOW hc'
            rw [HK.out]
            go_wp2
            go_region
            go_wp2
            go_roundw
            case rel =>
              refine ⟨j + 1, by omega, by go_num, all_step HA.out HG.out HZ.out, ?_, (hbel2.grown (HST.out.2) hsz4 (by rintro k ⟨⟩; exact hg1)).drew⟩
              rw [blocks_new (by omega) HG.out h0]
              have := HST.out.1.drew
              simpa [HK.out] using this
            case measure => simp [intOf]; omega
          · have h0' : (((j : Int) % (m : Int)) == 0) = false := by simp; omega
            go_wp2_with (first | (go_at_call 17; refine (rmost_any _ _ _).mono ?_; rintro e w' ⟨rfl, rfl⟩; rw [HMO.out]))
            obtain ⟨y, ys, hy1, hy2⟩ := blocks_more (by omega) HG.out h0
            have hbs := blocks_size (m := m) (z := 10000) (ss := ss.take j) (fun s hs => hz s (List.mem_of_mem_take hs)) y (by rw [hy1]; simp)
            have hbl := blocks_len (m := m) (ss := ss.take j) (by omega)
            have how := HOW.out
            rw [hy1] at how hbl
            simp only [List.length_append, List.length_singleton, List.map_append, List.map_cons, List.map_nil] at how hbl
            rw [List.length_take] at hbl
            have hm3 : m * 10000 ≤ 1024 * 10000 := Nat.mul_le_mul_right _ (by omega)
            obtain ⟨g, cap, rfl, hg1, hg2, hg3⟩ := own_at how (by omega)
            have hcy : wr.cell? ⟨g, ys.length, none⟩ = some (.string y) := by rw [how.cellAt _ (by omega)]; simp
            have hcf := how.frozenAt ys.length
            have hst := how.stored ys.length (.string (y ++ s))
            have HY2 := Lib.hid hy2
            have hK : ∃ K, ys.length = K := ⟨_, rfl⟩
            obtain ⟨K, hK⟩ := hK
            rw [hK] at hcy hcf hst hbl how
            have HK := Lib.hid hK
            have HST := Lib.hid hst
            clear hst how hy1 hy2 HOW hK
            rw [HK.out]
            go_wp2
            go_region
            go_wp2
            go_roundw
            case rel =>
              refine ⟨j + 1, by omega, by go_num, all_step HA.out HG.out HZ.out, ?_, (hbel.grown (HST.out.2) hsz1 (by rintro k ⟨⟩; exact hg1)).drew⟩
              rw [HY2.out]
              have := HST.out.1.drew
              simpa [HK.out] using this
            case measure => simp [intOf]; omega
        · have hsz' : ((s.size : Int) != l) = true := by simp [hsz]
          have HZ := Lib.hid hsz
          clear hsz
          go_wp2
          go_ret2
          have hf : okR l ss = false := by
            unfold okR
            rw [List.all_eq_false]
            exact ⟨s, List.mem_of_getElem? HG.out, by simpa using HZ.out⟩
          refine ⟨none, 0, ?_, ?_, hbel⟩
          · simp [packE, packL, HV.out, hf]
          · simp [packL, hf]; exact ss_nil _ _
      · obtain rfl : j = n := by omega
        have hok := all_okR HA.out HL.out
        have hp : packL l b ss = blocks m (ss.take j) := by
          unfold packL; rw [HV.out, hok, HM.out, Int.toNat_natCast, List.take_of_length_le (by rw [HL.out]; exact Nat.le_refl _)]; rfl
        have he : packE l b ss = 0 := by unfold packE; rw [HV.out, hok]; rfl
        have HP := Lib.hid hp
        have HE := Lib.hid he
        clear hp he hok
        go_wp2
        go_ret2
        obtain ⟨A1, c1, hv1, hn1c, hc1m⟩ := own_form HOW.out
        subst hv1
        refine ⟨A1, c1, ?_, ⟨?_, ?_⟩, hbel⟩
        · rw [HP.out, HE.out]; rfl
        · rw [HP.out]; exact hn1c
        · rw [HP.out]; exact Rd.of_own HOW.out
  · have hv : vldB l b = false := by simpa using hv
    have HV := Lib.hid hv
    clear hv
    go_enter Try.func13, Try.ntmps13
    go_wp2_with (go_at_call 15; refine (rvalid_any _ _ _).mono ?_; rintro e w' ⟨rfl, rfl⟩; rw [HV.out])
    go_ret2
    refine ⟨none, 0, ?_, ?_, Below.refl _ _⟩
    · simp [packE, packL, HV.out]
    · simp [packL, HV.out]; exact ss_nil _ _
end Go.Proofs.Ytehagkkmkbjpcaa
