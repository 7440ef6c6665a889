/- NodeInverts: the walk. -/
import Derived.Test.YtjfinkfikebjbaaM
import Derived.Test.YtjfinkfikebjbaaO
namespace Go.Proofs.Ytjfinkfikebjbaa
open Go.RowKit
attribute [local go_sem ↓] Go.wp_at_zero Go.wp_at_succ

theorem few_yes {es : List Ent} (h : fewB es = true) : es.length ≤ 200 ∧ ∀ e ∈ es, e.1.size ≤ 100 := by
  unfold fewB at h
  simp only [Bool.and_eq_true, List.all_eq_true, decide_eq_true_eq] at h
  exact ⟨h.2, h.1⟩
theorem few_is {lv nx : Int} {A : Option Addr} {n c : Nat} {es : List Ent} {w : World} {q : Bool} (hq : fewB es = q) (hs : Es w w.heap.size A n c es) (hn : n ≤ 9223372036854775807) :
    Calls Try.prog 16 #[.agg #[.int .i64 lv, .int .i64 nx, .slice A n c]] w fun e w' => e = .returned (.bool q) ∧ Below w.heap.size w w' := by
  rw [← hq]; exact few_any lv nx A n c es w hs hn
theorem enc_ok {z lv nx : Int} {es : List Ent} : okE z lv nx es = true → encE z lv nx es = 0 := by
  unfold okE encE
  intro h
  simp only [Bool.and_eq_true, decide_eq_true_eq] at h
  rw [h.1.1, h.1.2, if_pos h.2]; rfl
theorem enc_no {z lv nx : Int} {es : List Ent} (h : okE z lv nx es = false) : encE z lv nx es ≠ 0 := by
  unfold okE at h
  unfold encE
  cases hs : szB z && plainB lv nx es with
  | false => simp
  | true =>
    rw [hs] at h
    simp at h
    rw [if_pos rfl, if_neg (by omega)]
    decide

theorem enc_size {z lv nx : Int} {es : List Ent} (h : okE z lv nx es = true) : (((encS z lv nx es).size : Nat) : Int) = z := by
  have h0 := h
  unfold okE at h
  simp only [Bool.and_eq_true, decide_eq_true_eq] at h
  have hz : 0 ≤ z := by
    have := h.1.1
    unfold szB at this
    simp only [decide_eq_true_eq] at this
    omega
  rw [← ba_len]
  unfold encS
  rw [if_pos h0]
  show ((encL z lv nx es).length : Int) = z
  unfold encL
  rw [List.length_append, List.length_replicate]
  omega
theorem dEs_short (d : ByteArray) : (dEs d).length ≤ 9223372036854775807 := by
  unfold dEs
  rw [pst_len]
  have : dCnt d < 256 ^ 1 := rdN_lt _ 1
  omega
theorem dec_again {z : Int} {d : ByteArray} (h : decOk z d = true) : encS z (dLv d) (dNx d) (dEs d) = d ∧ encE z (dLv d) (dNx d) (dEs d) = 0 := by
  unfold decOk at h
  simp only [Bool.and_eq_true, decide_eq_true_eq] at h
  exact ⟨h.2.2, h.2.1⟩

theorem size_ok {z lv nx : Int} {es : List Ent} (h : okE z lv nx es = true) : sizeI lv nx es ≤ z := by
  unfold okE at h
  simp only [Bool.and_eq_true, decide_eq_true_eq] at h
  unfold sizeI
  rw [if_pos h.1.2]
  exact h.2

set_option maxRecDepth 100000 in
set_option maxHeartbeats 4000000 in
theorem inverts_any (z lv nx : Int) (A : Option Addr) (n c : Nat) (es : List Ent) (d : ByteArray) (w : World) (hs : Es w w.heap.size A n c es) (hn : n ≤ 9223372036854775807) :
    Calls Try.prog 6 #[.int .i64 z, .agg #[.int .i64 lv, .int .i64 nx, .slice A n c], .string d] w fun e w' => e = .returned (.bool true) ∧ Below w.heap.size w w' := by
  have HS := Lib.hid hs
  have HL := Lib.hid hs.len
  clear hs
  have HN := Lib.hid hn
  clear hn
  go_enter Try.func6, Try.ntmps6
  go_wp2_with fail
  refine (awake_any _).mono ?_
  rintro e w1 ⟨rfl, hb1⟩
  have x1 : Below (w.heap.size + 1) (w.alloc (.cells #[.int .i64 lv, .int .i64 nx, .slice A n c] 25)) w1 := by simpa using hb1
  have k1a := bx_cell x1 0
  have k1b := bx_cell x1 1
  have k1c := bx_cell x1 2
  have X1 := Lib.hid x1
  clear hb1 x1
  cases hq : fewB es with
  | false =>
    have HQ := Lib.hid hq
    clear hq
    go_wp2_with fail
    refine (few_is HQ.out (Es.after HS.out (bx_below X1.out)) HN.out).mono ?_
    rintro e w2 ⟨rfl, hb2⟩
    have x2 := below_next X1.out hb2 (bx_size X1.out)
    have X2 := Lib.hid x2
    clear hb2 x2
    go_wp2
    go_ret
    exact ⟨rfl, bx_below X2.out⟩
  | true =>
    have HQ := Lib.hid hq
    have h200 := (few_yes hq).1
    rw [HL.out] at h200
    have H100 := Lib.hid (few_yes hq).2
    clear hq
    go_wp2_with fail
    refine (few_is HQ.out (Es.after HS.out (bx_below X1.out)) HN.out).mono ?_
    rintro e w2 ⟨rfl, hb2⟩
    have x2 := below_next X1.out hb2 (bx_size X1.out)
    have k2a := bx_cell x2 0
    have k2b := bx_cell x2 1
    have k2c := bx_cell x2 2
    have X2 := Lib.hid x2
    clear hb2 x2 k1a k1b k1c
    by_cases hd : 600 < d.size
    · go_wp2
      go_ret
      exact ⟨rfl, bx_below X2.out⟩
    · go_wp2_with fail
      refine (encode_any z lv nx A n c es _ (Es.after HS.out (bx_below X2.out)) HN.out).mono ?_
      rintro e w3 ⟨rfl, hb3⟩
      have x3 := below_next X2.out hb3 (bx_size X2.out)
      have k3a := bx_cell x3 0
      have k3b := bx_cell x3 1
      have k3c := bx_cell x3 2
      have X3 := Lib.hid x3
      clear hb3 x3 k2a k2b k2c
      cases ho : okE z lv nx es with
      | false =>
        have HE := Lib.hid (enc_no ho)
        have HO := Lib.hid ho
        clear ho
        obtain ⟨ec, hec⟩ : ∃ ec, encE z lv nx es = ec := ⟨_, rfl⟩
        obtain ⟨st, hst⟩ : ∃ st, encS z lv nx es = st := ⟨_, rfl⟩
        rw [hec, hst]
        have t1 : (ec == 0) = false := by rw [← hec]; exact beq_eq_false_iff_ne.2 HE.out
        clear hec hst
        go_wp2_with fail
        refine (valid_any z lv nx A n c es _ (Es.after HS.out (bx_below X3.out)) HN.out).mono ?_
        rintro e w4 ⟨rfl, hb4⟩
        rw [HO.out]
        have x4 := below_next X3.out hb4 (bx_size X3.out)
        have k4a := bx_cell x4 0
        have k4b := bx_cell x4 1
        have k4c := bx_cell x4 2
        have X4 := Lib.hid x4
        clear hb4 x4 k3a k3b k3c
        go_wp2_with fail
        refine (decode_any z d _).mono ?_
        rintro e w5 ⟨A5, c5, rfl, hs5, hb5⟩
        have b5 := bx_below (below_next X4.out hb5 (bx_size X4.out))
        have B5 := Lib.hid b5
        cases hdk : decOk z d with
        | false =>
          obtain ⟨ed, hed⟩ : ∃ ed, decE z d = ed := ⟨_, rfl⟩
          have t9 : (ed == 0) = false := by rw [← hed]; unfold decE; rw [hdk]; cases szB z <;> rfl
          have e1 : decEs z d = [] := by unfold decEs; rw [hdk]; rfl
          rw [hed, e1, show ([] : List Ent).length = 0 from rfl]
          clear hs5 hed e1 hdk hb5 b5
          go_wp2
          go_ret
          exact ⟨rfl, (B5.out.alloc (B5.out.size) _)⟩
        | true =>
          have e0 : decE z d = 0 := by unfold decE; rw [hdk]; rfl
          have e1 : decEs z d = dEs d := by unfold decEs; rw [hdk]; rfl
          have e2 : decLv z d = dLv d := by unfold decLv; rw [hdk]; rfl
          have e3 : decNx z d = dNx d := by unfold decNx; rw [hdk]; rfl
          rw [e1] at hs5
          rw [e0, e1, e2, e3]
          have HS5 := Lib.hid hs5
          have HD := Lib.hid hdk
          clear e0 e1 e2 e3 hs5 hdk hb5 b5
          have HA := Lib.hid (dEs_short d)
          have HR := Lib.hid (dec_again HD.out)
          go_wp2_with fail
          refine (encode_any z (dLv d) (dNx d) A5 (dEs d).length c5 (dEs d) _ (es_alloc HS5.out _) HA.out).mono ?_
          rintro e w6 ⟨rfl, hb6⟩
          rw [HR.out.1, HR.out.2]
          have hbe := below_next (B5.out.alloc (B5.out.size) _) hb6 (by simp; exact Nat.le_succ_of_le B5.out.size)
          have HBE := Lib.hid hbe
          clear hbe hb6
          go_wp2
          go_ret
          exact ⟨rfl, HBE.out⟩
      | true =>
        have HE := Lib.hid (enc_ok ho)
        have HO := Lib.hid ho
        clear ho
        obtain ⟨st, hst⟩ : ∃ st, encS z lv nx es = st := ⟨_, rfl⟩
        rw [HE.out, hst]
        have HST := Lib.hid hst
        clear hst
        go_wp2_with fail
        refine (valid_any z lv nx A n c es _ (Es.after HS.out (bx_below X3.out)) HN.out).mono ?_
        rintro e w4 ⟨rfl, hb4⟩
        rw [HO.out]
        have x4 := below_next X3.out hb4 (bx_size X3.out)
        have k4a := bx_cell x4 0
        have k4b := bx_cell x4 1
        have k4c := bx_cell x4 2
        have X4 := Lib.hid x4
        clear hb4 x4 k3a k3b k3c
        have hde := decode_encode HO.out
        rw [HST.out] at hde
        go_wp2_with fail
        refine (decode_any z st _).mono ?_
        rintro e w5 ⟨A5, c5, rfl, hs5, hb5⟩
        have x5 := below_next X4.out hb5 (bx_size X4.out)
        have e0 : decE z st = 0 := by unfold decE; rw [hde.1]; rfl
        have e1 : decEs z st = es := by unfold decEs; rw [hde.1]; exact hde.2.2.2
        have e2 : decLv z st = lv := by unfold decLv; rw [hde.1]; exact hde.2.1
        have e3 : decNx z st = nx := by unfold decNx; rw [hde.1]; exact hde.2.2.1
        rw [e1, HL.out] at hs5
        rw [e0, e1, e2, e3, HL.out]
        have HS5 := Lib.hid hs5
        have s5 : w.heap.size < w5.heap.size := bx_size x5
        have t2 : ((st.size : Nat) : Int) = z := by rw [← HST.out]; exact enc_size HO.out
        have k5a := bx_cell x5 0
        have k5b := bx_cell x5 1
        have k5c := bx_cell x5 2
        have X5 := Lib.hid x5
        clear e0 e1 e2 e3 hs5 hde hb5 x5 k4a k4b k4c
        go_wp2_with fail
        refine (same_true lv nx A A5 n c c5 es _ (es_alloc (Es.after HS.out (bx_below X5.out)) _) (es_alloc HS5.out _) HN.out).mono ?_
        rintro e w6 ⟨rfl, hb6⟩
        have x6 := below_next (X5.out.alloc (bx_size X5.out) _) hb6 (by simp; omega)
        have k6a := bx_cell x6 0
        have k6b := bx_cell x6 1
        have k6c := bx_cell x6 2
        have X6 := Lib.hid x6
        have s6 : w.heap.size < w6.heap.size := bx_size X6.out
        clear hb6 x6 k5a k5b k5c
        have hsi : sizeI lv nx es ≤ z := size_ok HO.out
        have HSI := Lib.hid hsi
        clear hsi
        go_wp2_with fail
        refine (size_any lv nx A n c es _ (Es.after HS.out (bx_below X6.out)) h200 H100.out).mono ?_
        rintro e w7 ⟨rfl, hb7⟩
        have hsi := HSI.out
        obtain ⟨si, hsie⟩ : ∃ si, sizeI lv nx es = si := ⟨_, rfl⟩
        rw [hsie]
        rw [hsie] at hsi
        have x7 := below_next X6.out hb7 (bx_size X6.out)
        have X7 := Lib.hid x7
        clear hb7 x7 k6a k6b k6c hsie
        have t3 : ¬ (z < si) := by omega
        go_wp2_with fail
        refine (decode_any z d _).mono ?_
        rintro e w8 ⟨A8, c8, rfl, hs8, hb8⟩
        have b8 := bx_below (below_next X7.out hb8 (bx_size X7.out))
        have B8 := Lib.hid b8
        cases hdk : decOk z d with
        | false =>
          obtain ⟨ed, hed⟩ : ∃ ed, decE z d = ed := ⟨_, rfl⟩
          have t9 : (ed == 0) = false := by rw [← hed]; unfold decE; rw [hdk]; cases szB z <;> rfl
          have e1 : decEs z d = [] := by unfold decEs; rw [hdk]; rfl
          rw [hed, e1, show ([] : List Ent).length = 0 from rfl]
          clear hs8 hed e1 hdk hb8 b8
          go_wp2
          go_ret
          exact ⟨rfl, (B8.out.alloc (B8.out.size) _)⟩
        | true =>
          have e0 : decE z d = 0 := by unfold decE; rw [hdk]; rfl
          have e1 : decEs z d = dEs d := by unfold decEs; rw [hdk]; rfl
          have e2 : decLv z d = dLv d := by unfold decLv; rw [hdk]; rfl
          have e3 : decNx z d = dNx d := by unfold decNx; rw [hdk]; rfl
          rw [e1] at hs8
          rw [e0, e1, e2, e3]
          have HS8 := Lib.hid hs8
          have HD := Lib.hid hdk
          clear e0 e1 e2 e3 hs8 hdk hb8 b8
          have HA := Lib.hid (dEs_short d)
          have HR := Lib.hid (dec_again HD.out)
          go_wp2_with fail
          refine (encode_any z (dLv d) (dNx d) A8 (dEs d).length c8 (dEs d) _ (es_alloc HS8.out _) HA.out).mono ?_
          rintro e w9 ⟨rfl, hb9⟩
          rw [HR.out.1, HR.out.2]
          have hbe := below_next (B8.out.alloc (B8.out.size) _) hb9 (by simp; exact Nat.le_succ_of_le B8.out.size)
          have HBE := Lib.hid hbe
          clear hbe hb9
          go_wp2
          go_ret
          exact ⟨rfl, HBE.out⟩
end Go.Proofs.Ytjfinkfikebjbaa
