/- Contract of fixed.Pack. -/
import Derived.Test.YtehagkkmkbjpcaaB
import Derived.Test.YtehagkkmkbjpcaaP
namespace Go.Proofs.Ytehagkkmkbjpcaa
open Go.RowKit

theorem Try.info9 : (Try.prog.info? 9).map (fun i => (i.zero, i.size, i.bytes)) = some (some (.string ⟨#[]⟩), 1, 16) := by kernel_rfl

theorem join_any (A : Option Addr) (n c : Nat) (ss : List ByteArray) (w : World) (B : Nat) (hs : Ss w B A n c ss) (hB : B ≤ w.heap.size) (hn : n ≤ 140737488355328) (hl : (cat ss).size ≤ 140737488355328) :
    Calls Try.prog 26 #[.slice A n c, .string ⟨#[]⟩] w fun e w' => e = .returned (.string (cat ss)) ∧ Below w.heap.size w w' := by
  have hlen := hs.len
  rcases Nat.eq_zero_or_pos n with rfl | hp
  · have : ss = [] := List.eq_nil_of_length_eq_zero hlen
    subst this
    refine (Try.strings_Join_none A c ⟨#[]⟩ w).mono ?_
    rintro e w' ⟨rfl, rfl⟩
    exact ⟨rfl, Below.refl _ _⟩
  · obtain ⟨b, o, rfl, hb, hc⟩ := hs.2.2 hp
    subst hlen
    refine (Try.strings_Join b o c ss ⟨#[]⟩ w (fun j x hx => hc j _ (by rw [List.getElem?_map, hx]; rfl)) (by omega) hn hs.1 ?_).mono ?_
    · rw [show (⟨#[]⟩ : ByteArray).data.toList = [] from rfl]
      have := join_cat ss
      have h2 : (Lib.join (ss.map (·.data.toList)) []).length = (cat ss).size := by rw [← this]; simp [ByteArray.size]
      rw [h2]; exact hl
    · rintro e w' ⟨rfl, hbel⟩
      rw [show (⟨#[]⟩ : ByteArray).data.toList = [] from rfl, join_cat]
      exact ⟨rfl, hbel⟩

theorem Ss.below {w w' : World} {B : Nat} {A : Option Addr} {n c : Nat} {ss : List ByteArray} (h : Ss w B A n c ss) (hb : Below B w w') : Ss w' B A n c ss := ⟨h.1, h.2.below hb⟩
theorem Ss.keep {w w' : World} {B : Nat} {A : Option Addr} {n c : Nat} {ss : List ByteArray} (h : Ss w B A n c ss) (hk : ∀ p : Addr, p.block < B → w'.cell? p = w.cell? p) : Ss w' B A n c ss := ⟨h.1, h.2.keep hk⟩
theorem Ss.more {w : World} {B B' : Nat} {A : Option Addr} {n c : Nat} {ss : List ByteArray} (h : Ss w B A n c ss) (hB : B ≤ B') : Ss w B' A n c ss := ⟨h.1, h.2.more hB⟩
theorem Ss.drop {w : World} {B : Nat} {A : Option Addr} {n c k : Nat} {ss : List ByteArray} (h : Ss w B A n c ss) (hk : k ≤ n) : Ss w B (if c = k then A else A.map (·.add k)) (n - k) (c - k) (ss.drop k) := by
  refine ⟨by have := h.1; omega, ?_⟩
  have := h.2.drop hk h.1
  simpa using this
theorem Ss.take {w : World} {B : Nat} {A : Option Addr} {n c k : Nat} {ss : List ByteArray} (h : Ss w B A n c ss) (hk : k ≤ n) : Ss w B A k c (ss.take k) := by
  refine ⟨by have := h.1; omega, ?_⟩
  have := h.2.take hk
  simpa using this

/-- what Pack gives -/
def okR (l : Int) (ss : List ByteArray) : Bool := ss.all fun s => decide ((s.size : Int) = l)
def packE (l b : Int) (ss : List ByteArray) : Int := if vldB l b then (if okR l ss then 0 else 2) else 1
def packL (l b : Int) (ss : List ByteArray) : List ByteArray := if vldB l b && okR l ss then blocks (b / l).toNat ss else []

/-- a call's two results: a list of strings in new memory, and a code -/
def Two (w : World) (ss : List ByteArray) (x : Int) (e : Ending) (w' : World) : Prop :=
  ∃ A c, e = .returned (.tuple #[.slice A ss.length c, .int .i64 x]) ∧ Ss w' w'.heap.size A ss.length c ss ∧ Below w.heap.size w w'

theorem ss_nil (w : World) (B : Nat) : Ss w B none 0 0 [] := ⟨by omega, Rd.none_⟩

set_option maxHeartbeats 1000000 in
theorem pack_any (l b : Int) (A : Option Addr) (n c : Nat) (ss : List ByteArray) (w : World) (hs : Ss w w.heap.size A n c ss) (hn : n ≤ 2000) (hz : ∀ s ∈ ss, s.size ≤ 10000) :
    Calls Try.prog 12 #[.int .i64 l, .int .i64 b, .slice A n c] w (Two w (packL l b ss) (packE l b ss)) := by
  obtain ⟨i0, hi0, hz0, hz1, hz2⟩ := info_parts Try.info9
  have HL := Lib.hid hs.len
  have HS := Lib.hid hs
  have hnc := hs.1
  clear hs
  by_cases hv : vldB l b = true
  · obtain ⟨h1, h2, h3, h4⟩ := vld_iff.1 hv
    have HV := Lib.hid hv
    clear hv
    go_enter Try.func12, Try.ntmps12
    go_wp2_with (go_at_call 14; refine (valid_any _ _ _).mono ?_; rintro e w' ⟨rfl, rfl⟩; rw [HV.out])
    go_loop [19] (fun i => ∃ j : Nat, j ≤ n ∧ i = .int .i64 j ∧ ∀ t, t < j → ∀ s, ss[t]? = some s → (s.size : Int) = l) (fun i => n - (intOf i).toNat)
    case atStart => exact ⟨0, Nat.zero_le _, rfl, fun t h => absurd h (by omega)⟩
    case round =>
      obtain ⟨j, hj, rfl, hall⟩ := hrel
      have HA := Lib.hid hall
      clear hall
      by_cases hlt : j < n
      · obtain ⟨bb, o, s, rfl, hb, hg, hc⟩ := HS.out.cell hlt
        have HG := Lib.hid hg
        clear hg
        by_cases hsz : (s.size : Int) = l
        · have hsz' : ((s.size : Int) != l) = false := by simp [hsz]
          have HZ := Lib.hid hsz
          clear hsz
          go_wp2
          go_round
          case rel =>
            refine ⟨j + 1, by omega, by go_num, fun t ht s' hs' => ?_⟩
            by_cases e : t = j
            · subst e; rw [HG.out] at hs'; injection hs' with hs'; subst hs'; exact HZ.out
            · exact HA.out t (by omega) s' hs'
          case measure => simp [intOf]; omega
        · have hsz' : ((s.size : Int) != l) = true := by simp [hsz]
          have HZ := Lib.hid hsz
          clear hsz
          go_wp2
          go_ret2
          have hf : okR l ss = false := by
            unfold okR
            rw [List.all_eq_false]
            exact ⟨s, List.mem_of_getElem? HG.out, by simpa using HZ.out⟩
          refine ⟨none, 0, ?_, ?_, Below.refl _ _⟩
          · simp [packE, packL, HV.out, hf]
          · simp [packL, hf]; exact ss_nil _ _
      · have hok : okR l ss = true := by
          unfold okR
          rw [List.all_eq_true]
          intro s hsm
          obtain ⟨t, ht, rfl⟩ := List.getElem_of_mem hsm
          have := HL.out
          simpa using HA.out t (by omega) _ (List.getElem?_eq_getElem ht)
        have HO := Lib.hid hok
        clear hok HA
        have hm1 : 1 ≤ b / l := Int.le_ediv_of_mul_le (by omega) (by omega)
        have hm2 : b / l ≤ b := Int.ediv_le_self _ (by omega)
        obtain ⟨m, hm⟩ : ∃ m : Nat, b / l = (m : Int) := ⟨(b / l).toNat, by omega⟩
        have hmo : mostI l b = (m : Int) := by unfold mostI; rw [HV.out]; simpa using hm
        have HM := Lib.hid hm
        have HMO := Lib.hid hmo
        rw [hm] at hm1 hm2
        clear hm hmo
        go_wp2_with (go_at_call 16; refine (most_any _ _ _).mono ?_; rintro e w' ⟨rfl, rfl⟩; rw [HMO.out])
        go_loopw [2, 10, 12] (fun r v _ wr => ∃ (k : Nat) (A' : Option Addr) (n' c' : Nat), r = .slice A' n' c' ∧ Ss wr w.heap.size A' n' c' (ss.drop (m * k)) ∧ wr.ownsRow w.heap.size 9 1 v k (((List.range k).map (blk m ss)).map Value.string) ∧
          (k = 0 ∨ m * (k - 1) < n) ∧ k ≤ n ∧ Below w.heap.size w wr ∧ n' ≤ n ∧ c' ≤ c ∧ n' ≤ c') (fun r _ _ _ => match r with | .slice _ n _ => n | _ => 0)
        case atStart => exact ⟨0, A, n, c, rfl, by simpa using HS.out, World.ownsRow_nil _ _ _ _, .inl rfl, by omega, Below.refl _ _, Nat.le_refl _, Nat.le_refl _, hnc⟩
        case round =>
          obtain ⟨k, A', n', c', rfl, hss, hown, hk, hkn, hbel, hn1, hc1, hnc1⟩ := hrel
          have HSS := Lib.hid hss
          have HOW := Lib.hid hown
          clear hss hown
          by_cases h0 : 0 < n'
          · obtain ⟨q, hq⟩ : ∃ q : Nat, q = min m n' := ⟨_, rfl⟩
            have hmin : min (m : Int) (n' : Int) = (q : Int) := by omega
            have hq1 : 1 ≤ q := by omega
            have hq2 : q ≤ n' := by omega
            have hq3 : q ≤ m := by omega
            have HQ := Lib.hid hq
            clear hq
            have hsz1 := hbel.size
            go_wp2_with fail
            refine (join_any A' q c' ((ss.drop (m * k)).take q) wr w.heap.size (HSS.out.take hq2) hsz1 (by omega) ?_).mono ?_
            · have := cat_take_le (q := q) hz (m * k)
              have h2 : q * 10000 ≤ 2000 * 10000 := Nat.mul_le_mul_right _ (by omega)
              omega
            · rintro e w1 ⟨rfl, hb1⟩
              have hsz2 := hb1.size
              have hown1 := own_below HOW.out hb1
              go_wp2_with (at_builtin; refine wpList_append_own _ rfl _ _ 22 rfl w.heap.size 9 i0 (.string ⟨#[]⟩) 1 16 Try.underlying22 hi0 hz0 hz1 hz2 rfl (by decide) _ _ _ rfl (hown1.alloc _) ⟨w1.heap.size, 0, none⟩ 1 1 [.string (cat ((ss.drop (m * k)).take q))] rfl rfl (cell_one_new _ _ _) (str_oneCell _) ?c3 ?c4 ?c5 ?_)
              case c3 => unfold maxLen; omega
              case c4 => omega
              case c5 => simp; omega
              intro v2 w2 hown2 hg2 _
              have hbel2 := below_push (below_next hbel hb1 hsz1) hown1 (Nat.le_refl _) (by omega) hg2
              have HOW2 := Lib.hid hown2
              clear hown2 hown1 hg2 hb1
              go_wp2
              go_roundw
              case rel =>
                have hlen := HSS.out.len
                have hqq : q = min m (ss.drop (m * k)).length := by rw [hlen]; exact HQ.out
                have hs3 := (HSS.out.drop hq2).keep (w' := w2) (fun p hp => by rw [hbel2.cell hp, hbel.cell hp])
                rw [drop_step hqq] at hs3
                have hd := HL.out
                rw [List.length_drop] at hlen
                have hmk : k ≤ m * k := Nat.le_mul_of_pos_left _ (by omega)
                refine ⟨k + 1, _, _, _, rfl, hs3, ?_, .inr ?_, by omega, hbel2, by omega, by omega, by omega⟩
                · have := HOW2.out
                  rw [take_step hqq] at this
                  rw [List.range_succ]
                  simpa using this
                · simp only [Nat.add_sub_cancel]; omega
              case measure => simp; omega
          · go_wp2_with fail
            go_ret2
            obtain ⟨A1, c1, hv1, hn1c, hc1m⟩ := own_form HOW.out
            subst hv1
            have hlen := HSS.out.len
            have hb := blocks_done (m := m) (k := k) (by omega) HL.out (by omega) hk
            have hp : packL l b ss = (List.range k).map (blk m ss) := by
              unfold packL; rw [HV.out, HO.out, HM.out, Int.toNat_natCast]; exact hb
            have he : packE l b ss = 0 := by unfold packE; rw [HV.out, HO.out]; rfl
            have hk2 : ((List.range k).map (blk m ss)).length = k := by simp
            refine ⟨A1, c1, ?_, ⟨?_, ?_⟩, hbel⟩
            · rw [hp, he, hk2]; rfl
            · rw [hp, hk2]; exact hn1c
            · rw [hp, hk2]; exact Rd.of_own HOW.out
  · have hv : vldB l b = false := by simpa using hv
    have HV := Lib.hid hv
    clear hv
    go_enter Try.func12, Try.ntmps12
    go_wp2_with (go_at_call 14; refine (valid_any _ _ _).mono ?_; rintro e w' ⟨rfl, rfl⟩; rw [HV.out])
    go_ret2
    refine ⟨none, 0, ?_, ?_, Below.refl _ _⟩
    · simp [packE, packL, HV.out]
    · simp [packL, HV.out]; exact ss_nil _ _
end Go.Proofs.Ytehagkkmkbjpcaa
