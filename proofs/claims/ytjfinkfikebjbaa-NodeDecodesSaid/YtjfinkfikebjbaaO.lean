/- The plain law: the parse of an encoding is the node. -/
import Derived.Test.YtjfinkfikebjbaaJ
namespace Go.Proofs.Ytjfinkfikebjbaa

theorem drB_list (r : ByteArray) (k : Nat) : (drB r k).data.toList = r.data.toList.drop k := by
  unfold drB
  rw [ba_extract]
  by_cases h : k ≤ r.size
  · rw [Nat.min_eq_left h, List.take_of_length_le]
    rw [List.length_drop, ba_len]; exact Nat.le_refl _
  · rw [Nat.min_eq_right (by omega), List.drop_eq_nil_of_le (by rw [ba_len]; exact Nat.le_refl _), List.drop_eq_nil_of_le (by rw [ba_len]; omega), List.take_nil]
theorem tkB_list (r : ByteArray) (k : Nat) : (tkB r k).data.toList = r.data.toList.take k := by
  unfold tkB
  rw [ba_extract]
  by_cases h : k ≤ r.size
  · rw [Nat.min_eq_left h]; rfl
  · rw [Nat.min_eq_right (by omega), Nat.sub_zero, List.drop_zero, List.take_of_length_le (by rw [ba_len]; exact Nat.le_refl _), List.take_of_length_le (by rw [ba_len]; omega)]
theorem frontN_take : ∀ x y : List UInt8, x.take (frontN x y) = y.take (frontN x y)
  | [], y => by simp [frontN]
  | a :: x, [] => by simp [frontN]
  | a :: x, b :: y => by
    simp only [frontN]
    split
    · next h => subst h; simp [frontN_take x y]
    · simp
theorem num_four (p : Nat) (hp : p ≤ 16777216) : numN (fourL p) = p := by
  simp only [fourL, numN, UInt8.toNat_ofNat']
  omega
theorem num_one (a : Nat) (h : a < 256) : numN [UInt8.ofNat a] = a := by
  simp only [numN, UInt8.toNat_ofNat']
  omega

theorem entAt_mem {es : List Ent} {j : Nat} (h : j < es.length) : entAt es j = es[j] := entAt_get (List.getElem?_eq_getElem h)

/-- one round -/
theorem step_law {es : List Ent} {j : Nat} {r : ByteArray} {t : List UInt8} {p : Nat} (hr : r.data.toList = entL es j ++ t) (hz : (entAt es j).1.size ≤ 32) (hp : (entAt es j).2 = (p : Int)) (hp' : p ≤ 16777216) :
    stepB r (befB es j) = (entAt es j).1 ∧ rdN (stepR r) 4 = p ∧ (drB (stepR r) 4).data.toList = t := by
  have hf := frE_le es j
  have e0 : r.data.toList = UInt8.ofNat (frE es j) :: UInt8.ofNat ((entAt es j).1.size - frE es j) :: ((entAt es j).1.data.toList.drop (frE es j) ++ (fourL p ++ t)) := by
    rw [hr]; simp [entL, hp]
  have e1 : rdN r 1 = frE es j := by
    unfold rdN; rw [e0, List.take_succ_cons, List.take_zero]; exact num_one _ (by omega)
  have e2 : stepM r = (entAt es j).1.size - frE es j := by
    unfold stepM rdN; rw [drB_list, e0, List.drop_succ_cons, List.drop_zero, List.take_succ_cons, List.take_zero]; exact num_one _ (by omega)
  have e3 : (drB (drB r 1) 1).data.toList = (entAt es j).1.data.toList.drop (frE es j) ++ (fourL p ++ t) := by
    rw [drB_list, drB_list, e0]; rfl
  have hl : ((entAt es j).1.data.toList.drop (frE es j)).length = (entAt es j).1.size - frE es j := by rw [List.length_drop, ba_len]
  have e4 : (stepR r).data.toList = fourL p ++ t := by
    unfold stepR; rw [drB_list, e3, e2, ← hl, List.drop_left]
  refine ⟨?_, ?_, ?_⟩
  · apply ba_ext
    unfold stepB
    rw [ByteArray.data_append, Array.toList_append, tkB_list, e3, e2, ← hl, List.take_left, e1, ba_extract, Nat.sub_zero, List.drop_zero]
    have h1 : frE es j ≤ (befB es j).size := (front_le (befB es j) (entAt es j).1).1
    rw [Nat.min_eq_left h1]
    have h2 : List.take (frE es j) (befB es j).data.toList = List.take (frE es j) (entAt es j).1.data.toList := frontN_take _ _
    rw [h2]
    exact List.take_append_drop _ _
  · unfold rdN; rw [e4]; exact num_four p hp'
  · rw [drB_list, e4]; rfl

def entsFrom (es : List Ent) (j n : Nat) : List UInt8 := (List.range' j (n - j)).flatMap (entL es)
theorem entsFrom_step (es : List Ent) (j n : Nat) (h : j < n) : entsFrom es j n = entL es j ++ entsFrom es (j + 1) n := by
  unfold entsFrom
  rw [show n - j = (n - (j + 1)) + 1 from by omega, List.range'_succ, List.flatMap_cons]

theorem pst_law {lv nx : Int} {es : List Ent} {d : ByteArray} {t : List UInt8} (hp : plainB lv nx es = true) (hd : d.data.toList = formL lv nx es ++ t) :
    ∀ j, j ≤ es.length → (pst d j).1.data.toList = entsFrom es j es.length ++ t ∧ (pst d j).2.1 = befB es j ∧ (pst d j).2.2 = es.take j
  | 0, _ => by
    refine ⟨?_, rfl, rfl⟩
    show (drB (drB (drB d 1) 4) 1).data.toList = _
    rw [drB_list, drB_list, drB_list, hd]
    simp [formL, headL, fourL, entsL, entsFrom, List.range_eq_range']
  | j + 1, hj => by
    obtain ⟨h1, h2, h3⟩ := pst_law hp hd j (by omega)
    obtain ⟨_, _, _, _, _, _, h7⟩ := plain_yes hp
    have h8 := h7 j (by omega)
    unfold entB at h8
    simp only [Bool.and_eq_true, decide_eq_true_eq] at h8
    have hz := h8.1.1.2
    have hq := h8.1.1.1
    obtain ⟨p, hp1⟩ : ∃ p : Nat, (entAt es j).2 = (p : Int) := ⟨(entAt es j).2.toNat, by omega⟩
    rw [entsFrom_step es j _ (by omega), List.append_assoc] at h1
    obtain ⟨s1, s2, s3⟩ := step_law h1 hz hp1 (by omega)
    rw [← h2] at s1
    have hb : befB es (j + 1) = (entAt es j).1 := by unfold befB; rw [if_neg (by omega), Nat.add_sub_cancel]
    refine ⟨s3, by rw [hb]; exact s1, ?_⟩
    show (pst d j).2.2 ++ [(stepB (pst d j).1 (pst d j).2.1, (rdN (stepR (pst d j).1) 4 : Int))] = _
    rw [s1, s2, h3, List.take_succ_eq_append_getElem (by omega), ← entAt_mem, ← hp1]

theorem decode_encode {z lv nx : Int} {es : List Ent} (h : okE z lv nx es = true) : decOk z (encS z lv nx es) = true ∧ (dLv (encS z lv nx es) : Int) = lv ∧ (dNx (encS z lv nx es) : Int) = nx ∧ dEs (encS z lv nx es) = es := by
  have h0 := h
  unfold okE at h
  simp only [Bool.and_eq_true, decide_eq_true_eq] at h
  obtain ⟨⟨hsz, hp⟩, hle⟩ := h
  obtain ⟨g1, g2, g3, g4, g5, g6, g7⟩ := plain_yes hp
  have hd : (encS z lv nx es).data.toList = formL lv nx es ++ List.replicate (z.toNat - (formL lv nx es).length) 0 := by
    unfold encS; rw [if_pos h0]; rfl
  have e1 : (dLv (encS z lv nx es) : Int) = lv := by
    have : dLv (encS z lv nx es) = lv.toNat := by
      unfold dLv rdN; rw [hd]
      show numN [UInt8.ofNat lv.toNat] = _
      exact num_one _ (by omega)
    omega
  have e2 : (dNx (encS z lv nx es) : Int) = nx := by
    have : dNx (encS z lv nx es) = nx.toNat := by
      unfold dNx rdN; rw [drB_list, hd]
      show numN (fourL nx.toNat) = _
      exact num_four _ (by omega)
    omega
  have e3 : dCnt (encS z lv nx es) = es.length := by
    unfold dCnt rdN; rw [drB_list, drB_list, hd]
    show numN [UInt8.ofNat es.length] = _
    exact num_one _ (by omega)
  have e4 : dEs (encS z lv nx es) = es := by
    unfold dEs; rw [e3, (pst_law hp hd es.length (Nat.le_refl _)).2.2, List.take_length]
  refine ⟨?_, e1, e2, e4⟩
  unfold decOk
  rw [e1, e2, e4, hsz]
  have : encE z lv nx es = 0 := by unfold encE; rw [hsz, hp, if_pos hle]; rfl
  simp [this]
end Go.Proofs.Ytjfinkfikebjbaa
