/- HistoryOrders, given that the example of the chapter (awake) holds. -/
import Derived.Test.YtoiocnpamplhdaaGreatDoorHX
namespace Go.Proofs.YtoiocnpamplhdaaGreatDoor
open Go.RowKit

theorem cs_nil (w : World) (B : Nat) : Cs w B none 0 0 [] := ⟨Sl.nil, fun x hx => by cases hx⟩
theorem order_none (A : Option Addr) (n c : Nat) (l : List Com) (w : World) (hs : Cs w w.heap.size A n c l) (hv : ∀ x ∈ l, VolsOk x) (hn : n ≤ 12) (ho : ordB l = none) :
    Calls Tryz.prog 7 #[.slice A n c] w (OrdNo w) :=
  (order_any A n c l w hs hv hn).mono fun e w' h => by
    rcases h with ⟨_, h⟩ | ⟨s, h, _⟩
    · exact h
    · rw [ho] at h; cases h
theorem order_some (A : Option Addr) (n c : Nat) (l s : List Com) (w : World) (hs : Cs w w.heap.size A n c l) (hv : ∀ x ∈ l, VolsOk x) (hn : n ≤ 12) (ho : ordB l = some s) :
    Calls Tryz.prog 7 #[.slice A n c] w (OrdYes w s) :=
  (order_any A n c l w hs hv hn).mono fun e w' h => by
    rcases h with ⟨h, _⟩ | ⟨s', h, h2⟩
    · rw [ho] at h; cases h
    · rw [ho] at h; injection h with h; subst h; exact h2
theorem rorder_none (A : Option Addr) (n c : Nat) (l : List Com) (w : World) (hs : Cs w w.heap.size A n c l) (hv : ∀ x ∈ l, ∀ c ∈ x.cs, StrOk c) (hn : n ≤ 12) (ho : ordB l = none) :
    Calls Tryz.prog 8 #[.slice A n c] w (OrdNo w) :=
  (rorder_any A n c l w hs hv hn).mono fun e w' h => by
    rcases h with ⟨_, h⟩ | ⟨s, h, _⟩
    · exact h
    · rw [ho] at h; cases h
theorem rorder_some (A : Option Addr) (n c : Nat) (l s : List Com) (w : World) (hs : Cs w w.heap.size A n c l) (hv : ∀ x ∈ l, ∀ c ∈ x.cs, StrOk c) (hn : n ≤ 12) (ho : ordB l = some s) :
    Calls Tryz.prog 8 #[.slice A n c] w (OrdYes w s) :=
  (rorder_any A n c l w hs hv hn).mono fun e w' h => by
    rcases h with ⟨h, _⟩ | ⟨s', h, h2⟩
    · rw [ho] at h; cases h
    · rw [ho] at h; injection h with h; subst h; exact h2
theorem ord_len {l s : List Com} (h : ordB l = some s) : s.length = l.length := by
  unfold ordB at h
  split at h
  · cases h
  · split at h
    · injection h with h; subst h; rw [sortB_len]; simp
    · cases h

/-- awake returns true in every world that lies behind w -/
def Awk (w : World) : Prop := ∀ W : World, Below w.heap.size w W → Calls Tryz.prog 6 #[] W fun e w' => e = .returned (.bool true) ∧ Below W.heap.size W w'

set_option maxRecDepth 100000 in
set_option maxHeartbeats 1000000 in
theorem orders_any (A : Option Addr) (n c : Nat) (l : List Com) (w : World) (hs : Cs w w.heap.size A n c l) (haw : Awk w) :
    Calls Tryz.prog 3 #[.slice A n c] w fun e w' => e = .returned (.bool true) ∧ Below w.heap.size w w' := by
  have HF := Lib.hid (few_any A n c l w hs)
  have HS := Lib.hid hs
  have HW := Lib.hid haw
  have HL := Lib.hid hs.1.len
  clear hs haw
  cases hf : fewB n l with
  | false =>
    rw [hf] at HF
    clear hf
    go_enter Tryz.func3, Tryz.ntmps3
    go_wp2_with (first | (go_at_call 5; refine HF.out.mono ?_; rintro e w1 ⟨rfl, hb1⟩; have X1 := Lib.hid hb1; clear hb1) | (go_at_call 6; refine (HW.out _ X1.out).mono ?_; rintro e w2 ⟨rfl, hb2⟩; have X2 := Lib.hid (below_next X1.out hb2 X1.out.size); clear hb2))
    go_ret
    exact ⟨rfl, X2.out⟩
  | true =>
    rw [hf] at HF
    obtain ⟨hn, hv1, hv2⟩ := fewB_facts hf
    have HV1 := Lib.hid hv1
    have HV2 := Lib.hid hv2
    have HN := Lib.hid hn
    clear hf hv1 hv2 hn
    cases ho : ordB l with
    | none =>
      have HO := Lib.hid ho
      clear ho
      go_enter Tryz.func3, Tryz.ntmps3
      go_wp2_with fail
      refine HF.out.mono ?_
      rintro e w1 ⟨rfl, hb1⟩
      have X1 := Lib.hid hb1
      clear hb1
      go_wp2_with fail
      refine (order_none A n c l w1 (HS.out.after X1.out X1.out.size) HV1.out HN.out HO.out).mono ?_
      rintro e w2 ⟨rfl, hb2⟩
      have X2 := Lib.hid (below_next X1.out hb2 X1.out.size)
      clear hb2
      go_wp2_with fail
      refine (rorder_none A n c l w2 (HS.out.after X2.out X2.out.size) HV2.out HN.out HO.out).mono ?_
      rintro e w3 ⟨rfl, hb3⟩
      have X3 := Lib.hid (below_next X2.out hb3 X2.out.size)
      clear hb3
      go_wp2_with (first | (go_at_call 9; refine (units_same none none 0 0 0 [] _ (cs_nil _ _) (cs_nil _ _) (by decide)).mono ?_; rintro e w4 ⟨rfl, hb4⟩; have X4 := Lib.hid (below_next X3.out hb4 X3.out.size); clear hb4) | (go_at_call 6; refine (HW.out _ X4.out).mono ?_; rintro e w5 ⟨rfl, hb5⟩; have X5 := Lib.hid (below_next X4.out hb5 X4.out.size); clear hb5))
      go_ret
      exact ⟨rfl, X5.out⟩
    | some s =>
      have HO := Lib.hid ho
      have HSN : Hid (s.length ≤ 12) := Lib.hid (by rw [ord_len ho, HL.out]; exact HN.out)
      clear ho
      obtain ⟨m, hm⟩ : ∃ m, s.length = m := ⟨_, rfl⟩
      have HM := Lib.hid hm
      clear hm
      go_enter Tryz.func3, Tryz.ntmps3
      go_wp2_with fail
      refine HF.out.mono ?_
      rintro e w1 ⟨rfl, hb1⟩
      have X1 := Lib.hid hb1
      clear hb1
      go_wp2_with fail
      refine (order_some A n c l s w1 (HS.out.after X1.out X1.out.size) HV1.out HN.out HO.out).mono ?_
      rintro e w2 ⟨A1, c1, rfl, hc1, hb2⟩
      have X2 := Lib.hid (below_next X1.out hb2 X1.out.size)
      have C1 := Lib.hid hc1
      clear hb2 hc1
      go_wp2_with fail
      refine (rorder_some A n c l s w2 (HS.out.after X2.out X2.out.size) HV2.out HN.out HO.out).mono ?_
      rintro e w3 ⟨A2, c2, rfl, hc2, hb3⟩
      have X3 := Lib.hid (below_next X2.out hb3 X2.out.size)
      have C2 := Lib.hid hc2
      have C3 := Lib.hid (C1.out.after hb3 hb3.size)
      clear hb3 hc2
      go_wp2_with (first | (go_at_call 9; refine (units_same A1 A2 s.length c1 c2 s _ C3.out C2.out HSN.out).mono ?_; rintro e w4 ⟨rfl, hb4⟩; have X4 := Lib.hid (below_next X3.out hb4 X3.out.size); clear hb4) | (go_at_call 6; refine (HW.out _ X4.out).mono ?_; rintro e w5 ⟨rfl, hb5⟩; have X5 := Lib.hid (below_next X4.out hb5 X4.out.size); clear hb5))
      go_ret
      exact ⟨rfl, X5.out⟩
end Go.Proofs.YtoiocnpamplhdaaGreatDoor
