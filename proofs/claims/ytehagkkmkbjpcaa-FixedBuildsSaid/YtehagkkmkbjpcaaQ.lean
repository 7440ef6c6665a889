/- Plain facts for FixedReturns and FixedBuilds. -/
import Derived.Test.YtehagkkmkbjpcaaL
namespace Go.Proofs.Ytehagkkmkbjpcaa

theorem cuts_cat {L : Nat} : ∀ tt : List ByteArray, (∀ s ∈ tt, s.size = L) → cuts L (cat tt) tt.length = tt
  | [], _ => rfl
  | s :: tt, h => by
    have ih := cuts_cat tt (fun x hx => h x (List.mem_cons_of_mem _ hx))
    have hs := h s (List.mem_cons_self ..)
    unfold cuts at ih ⊢
    rw [List.length_cons, List.range_succ_eq_map, List.map_cons, List.map_map]
    have e0 : cutB L (cat (s :: tt)) 0 = s := by
      apply ba_ext
      unfold cutB
      rw [ba_extract, cat_cons, ba_app]
      simp only [Nat.zero_mul, List.drop_zero, Nat.zero_add, Nat.one_mul, Nat.sub_zero]
      rw [List.take_append_of_le_length (by rw [ba_len]; omega), List.take_of_length_le (by rw [ba_len]; omega)]
    have e1 : ∀ i, (cutB L (cat (s :: tt)) ∘ Nat.succ) i = cutB L (cat tt) i := by
      intro i
      apply ba_ext
      simp only [Function.comp]
      unfold cutB
      rw [ba_extract, ba_extract, cat_cons, ba_app, List.drop_append, ba_len, hs, List.drop_of_length_le (by rw [ba_len, hs, Nat.succ_mul]; omega), List.nil_append]
      rw [show (i.succ * L - L) = i * L from by rw [Nat.succ_mul]; omega, show (i.succ + 1) * L - i.succ * L = L from by rw [Nat.succ_mul (i.succ)]; omega, show (i + 1) * L - i * L = L from by rw [Nat.succ_mul]; omega]
    rw [e0]
    congr 1
    rw [← ih]
    simp only [ih]
    conv => rhs; rw [← ih]
    exact List.map_congr_left (fun i _ => e1 i)

/-- a block that is full, or not, unpacks as its records -/
theorem unp_cat {l b : Int} {tt : List ByteArray} (hv : vldB l b = true) (hs : ∀ s ∈ tt, (s.size : Int) = l) (h1 : 1 ≤ tt.length) (h2 : (tt.length : Int) ≤ b / l) :
    unpE l b (cat tt) = 0 ∧ unpL l b (cat tt) = tt ∧ ((cat tt).size : Int) ≤ b ∧ (cat tt).size ≤ 2000 := by
  obtain ⟨g1, g2, g3, g4⟩ := vld_iff.1 hv
  obtain ⟨L, rfl⟩ := Int.eq_ofNat_of_zero_le (show 0 ≤ l by omega)
  have hs' : ∀ s ∈ tt, s.size = L := fun s h => by have := hs s h; omega
  have hz := cat_size_eq hs'
  have hL : 0 < L := by omega
  have hq : (cat tt).size / L = tt.length := by rw [hz]; exact Nat.mul_div_cancel _ hL
  have hr : (cat tt).size % L = 0 := by rw [hz]; exact Nat.mul_mod_left _ _
  have hok : okU L (b / (L : Int)).toNat (cat tt).size = true := by
    unfold okU; rw [hq, hr]; simp; omega
  have hb : ((cat tt).size : Int) ≤ b := by
    have h3 : (tt.length : Int) * (L : Int) ≤ b / L * L := Int.mul_le_mul_of_nonneg_right h2 (by omega)
    have h4 : b / (L : Int) * L ≤ b := Int.ediv_mul_le _ (by omega)
    rw [hz]; push_cast; omega
  refine ⟨?_, ?_, hb, by omega⟩
  · unfold unpE; rw [hv]; simp only [Int.toNat_natCast, hok]; rfl
  · unfold unpL; rw [hv]; simp only [Int.toNat_natCast, hok, hq, Bool.and_self, if_true]; exact cuts_cat tt hs'

theorem padS_mem {l b : Int} (hv : vldB l b = true) (ss : List ByteArray) : ∀ s ∈ ss.map (padS l), (s.size : Int) = l := by
  obtain ⟨g1, g2, g3, g4⟩ := vld_iff.1 hv
  intro s hs
  obtain ⟨t, _, rfl⟩ := List.mem_map.1 hs
  rw [padS_size]; unfold padN; omega
theorem pack_ok {l b : Int} {rs : List ByteArray} (hv : vldB l b = true) (h : ∀ s ∈ rs, (s.size : Int) = l) : packE l b rs = 0 ∧ packL l b rs = blocks (b / l).toNat rs := by
  have hok : okR l rs = true := by unfold okR; rw [List.all_eq_true]; intro s hs; simpa using h s hs
  exact ⟨by unfold packE; rw [hv, hok]; rfl, by unfold packL; rw [hv, hok]; rfl⟩
theorem blk_part {m k : Nat} {rs : List ByteArray} (hm : 0 < m) (hk : k < blkN m rs.length) : 1 ≤ ((rs.drop (m * k)).take m).length ∧ ((rs.drop (m * k)).take m).length ≤ m := by
  have := blkN_lt hm hk
  rw [List.length_take, List.length_drop]; omega
theorem blocks_get {m k : Nat} {rs : List ByteArray} (hk : k < blkN m rs.length) : (blocks m rs)[k]? = some (cat ((rs.drop (m * k)).take m)) := by
  unfold blocks
  rw [List.getElem?_map, List.getElem?_range hk]; rfl
theorem blocks_length (m : Nat) (rs : List ByteArray) : (blocks m rs).length = blkN m rs.length := by simp [blocks]

/-- behind j records, j > 0, the last block -/
theorem last_block {m j : Nat} {rs : List ByteArray} (hm : 0 < m) (hj : 0 < j) (hl : j ≤ rs.length) :
    ∃ ys tt, blocks m (rs.take j) = ys ++ [cat tt] ∧ (∀ s ∈ tt, s ∈ rs) ∧ tt.length = if j % m = 0 then m else j % m := by
  have hd := Nat.div_add_mod (j - 1) m
  have hr := Nat.mod_lt (j - 1) hm
  generalize (j - 1) / m = k at *
  generalize (j - 1) % m = r at *
  have e1 : blkN m j = k + 1 := blkN_eq hm (by rw [Nat.mul_succ]; omega) (.inr (by rw [Nat.add_sub_cancel]; omega))
  refine ⟨(List.range k).map (blk m (rs.take j)), ((rs.take j).drop (m * k)).take m, ?_, ?_, ?_⟩
  · unfold blocks
    rw [List.length_take, Nat.min_eq_left hl, e1, List.range_succ, List.map_append]; rfl
  · intro s hs
    exact List.mem_of_mem_take (List.mem_of_mem_drop (List.mem_of_mem_take hs))
  · rw [List.length_take, List.length_drop, List.length_take]
    have hj2 : j = m * k + (r + 1) := by omega
    by_cases h : r + 1 = m
    · rw [if_pos (by rw [hj2, h, Nat.mul_add_mod, Nat.mod_self])]; omega
    · have : j % m = r + 1 := by rw [hj2, Nat.mul_add_mod]; exact Nat.mod_eq_of_lt (by omega)
      rw [this, if_neg (by omega)]; omega
end Go.Proofs.Ytehagkkmkbjpcaa
