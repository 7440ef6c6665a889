/- Plain laws: what the reference's Decode reads is what the program's reads, where it does not refuse; where the program accepts, it does not refuse. -/
import Derived.Test.YtjfinkfikebjbaaDa
namespace Go.Proofs.Ytjfinkfikebjbaa

theorem drB_drB (d : ByteArray) (a b : Nat) : drB (drB d a) b = drB d (a + b) := by
  apply ba_ext; rw [drB_list, drB_list, drB_list, List.drop_drop]
theorem pst_start (d : ByteArray) : (pst d 0).1 = drB d 6 := by
  show drB (drB (drB d 1) 4) 1 = _
  rw [drB_drB, drB_drB]
theorem step_m {d : ByteArray} {a : Nat} : stepM (drB d a) = rdN (drB d (a + 1)) 1 := by unfold stepM; rw [drB_drB]
theorem step_r {d : ByteArray} {a : Nat} : stepR (drB d a) = drB d (a + 2 + stepM (drB d a)) := by
  unfold stepR; rw [drB_drB, drB_drB, drB_drB, show a + (1 + (1 + stepM (drB d a))) = a + 2 + stepM (drB d a) from by omega]
theorem step_b {d bf : ByteArray} {a : Nat} (h1 : rdN (drB d a) 1 ≤ bf.size) :
    stepB (drB d a) bf = bf.extract 0 (rdN (drB d a) 1) ++ d.extract (a + 2) (a + 2 + stepM (drB d a)) := by
  unfold stepB
  have e : tkB (drB (drB (drB d a) 1) 1) (stepM (drB d a)) = d.extract (a + 2) (a + 2 + stepM (drB d a)) := by
    generalize stepM (drB d a) = m
    apply ba_ext
    rw [tkB_list, drB_list, drB_list, drB_list, List.drop_drop, List.drop_drop, ba_extract, show a + 2 + m - (a + 2) = m from by omega, show a + (1 + 1) = a + 2 from rfl]
  rw [Nat.min_eq_left h1, e]

theorem no_exit {z : Int} {d : ByteArray} (h : decOk z d = true) {j : Nat} (hj : j < dCnt d) : rdN (pst d j).1 1 ≤ (pst d j).2.1.size ∧ stepM (pst d j).1 + 6 ≤ (pst d j).1.size := by
  obtain ⟨h1, h2⟩ := dec_again h
  have hok : okE z (dLv d) (dNx d) (dEs d) = true := by
    cases hq : okE z (dLv d) (dNx d) (dEs d) with
    | true => rfl
    | false => exact absurd h2 (enc_no hq)
  have hlen : (dEs d).length = dCnt d := pst_len d (dCnt d)
  generalize dEs d = es at *
  generalize ((dLv d : Nat) : Int) = lv at *
  generalize ((dNx d : Nat) : Int) = nx at *
  have h0 := hok
  unfold okE at hok
  simp only [Bool.and_eq_true, decide_eq_true_eq] at hok
  obtain ⟨⟨hsz, hp⟩, hle⟩ := hok
  have hd : d.data.toList = formL lv nx es ++ List.replicate (z.toNat - (formL lv nx es).length) 0 := by
    rw [← h1]; unfold encS; rw [if_pos h0]; rfl
  obtain ⟨g1, g2, g3⟩ := pst_law hp hd j (by omega)
  obtain ⟨_, _, _, _, _, _, h7⟩ := plain_yes hp
  have h8 := h7 j (by omega)
  unfold entB at h8
  simp only [Bool.and_eq_true, decide_eq_true_eq] at h8
  have hz := h8.1.1.2
  rw [entsFrom_step es j _ (by omega), List.append_assoc] at g1
  generalize (pst d j).1 = r at *
  have hf := frE_le es j
  have e0 : r.data.toList = UInt8.ofNat (frE es j) :: UInt8.ofNat ((entAt es j).1.size - frE es j) :: ((entAt es j).1.data.toList.drop (frE es j) ++ fourL (entAt es j).2.toNat ++ (entsFrom es (j + 1) es.length ++ List.replicate (z.toNat - (formL lv nx es).length) 0)) := by
    rw [g1]; simp [entL]
  have e1 : rdN r 1 = frE es j := by
    unfold rdN; rw [e0, List.take_succ_cons, List.take_zero]; exact num_one _ (by omega)
  have e2 : stepM r = (entAt es j).1.size - frE es j := by
    unfold stepM rdN; rw [drB_list, e0, List.drop_succ_cons, List.drop_zero, List.take_succ_cons, List.take_zero]; exact num_one _ (by omega)
  have e3 : (entL es j).length ≤ r.size := by rw [← ba_len, g1, List.length_append]; omega
  rw [entL_len] at e3
  refine ⟨by rw [e1, g2]; exact (front_le (befB es j) (entAt es j).1).1, by omega⟩
end Go.Proofs.Ytjfinkfikebjbaa
