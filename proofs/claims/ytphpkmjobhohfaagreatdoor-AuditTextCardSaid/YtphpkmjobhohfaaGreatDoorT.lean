/- slices.Sorted(slices.Values(l)) for a list of one string. -/
import Derived.Test.YtphpkmjobhohfaaGreatDoorIt
import Derived.Test.YtphpkmjobhohfaaGreatDoorS
import Derived.RangeFuncBox
import Derived.RangeFuncLeaves
import Derived.Shelf.Abstract
import Derived.WalkKit
import Derived.OwnWalkIn
import Derived.TacticsInMore
import Derived.LoopNIn
import Derived.LoopIn
namespace Go.Proofs.YtphpkmjobhohfaaGreatDoor
open Go.RowKit Go.Shelf Go.Maps Go.Sort

attribute [local go_sem] Oper.semAt_some

set_option maxRecDepth 100000 in
set_option maxHeartbeats 1000000 in
theorem val1_in (F : Fence) (n : Nat) (h31 : F.fn 31) (hro : F.round = none) (hn : 1 ≤ n) (l Bs b : Nat) (v : List UInt8) (J : List (List UInt8) → World → Prop)
    (hY : ∀ pre x W1, J pre W1 → pre.length < 1 → YieldAt F (n - 1) Tryz.prog l #[encStr x] W1 fun e W' => e = .returned (.bool true) ∧ J (pre ++ [x]) W' ∧ KeepsWalks W1 W')
    (W : World) (hBs : W.cell? ⟨Bs, 0, none⟩ = some (.slice (some ⟨b, 0, none⟩) 1 1)) (hc : W.cell? ⟨b, 0, none⟩ = some (encStr v)) (h0 : J [] W) :
    CallsIn F n Tryz.prog 31 #[.func (.yield l) #[] #[], .pointer (some ⟨Bs, 0, none⟩)] W fun e W' => (∃ v, e = .returned v) ∧ ∃ xs, xs = [v] ∧ J xs W' := by
  refine callsIn_of_wp Tryz.func31 rfl h31 ?_ hro
  simp only [Tryz.ntmps31, List.size_toArray, List.length_cons, List.length_nil, Nat.reduceAdd, Nat.reduceSub, Array.replicate_succ, Array.replicate_zero, List.push_toArray, List.append_toArray, List.nil_append, List.cons_append]
  gi_wp2
  gi_loopw [7] (fun i wr => (i = .int .i64 0 ∧ wr = W) ∨ (i = .int .i64 1 ∧ J [v] wr)) (fun i _ => 1 - (intOf i).toNat)
  case atStart => exact .inl ⟨rfl, rfl⟩
  case round =>
    rcases hrel with ⟨rfl, rfl⟩ | ⟨rfl, hJs⟩
    · obtain ⟨fn, tmps, assign, body, hy, hR⟩ := hY [] v wr h0 (by simp)
      gi_wp2
      refine hR.mono ?_
      rintro e W3 ⟨rfl, hJ3, hk3⟩
      gi_wp2
      go_roundw
      case rel => exact .inr ⟨rfl, by simpa using hJ3⟩
      case measure => simp [intOf]
    · gi_wp2
      go_end0
      exact ⟨⟨_, rfl⟩, _, rfl, hJs⟩

theorem val1_gives (F : Fence) (n : Nat) (h31 : F.fn 31) (hro : F.round = none) (hn : 1 ≤ n) (Bs b : Nat) (v : List UInt8) (w : World) (h1 : Bs < w.heap.size) (h2 : b < w.heap.size)
    (hBs : w.cell? ⟨Bs, 0, none⟩ = some (.slice (some ⟨b, 0, none⟩) 1 1)) (hc : w.cell? ⟨b, 0, none⟩ = some (encStr v)) :
    SeqGives F n Tryz.prog 31 #[.pointer (some ⟨Bs, 0, none⟩)] encStr (fun xs => xs = [v]) 1 w := fun l J W hW _ hY h0 =>
  val1_in F n h31 hro hn l Bs b v J hY W ((hW.cell (p := ⟨Bs, 0, none⟩) h1).trans hBs) ((hW.cell (p := ⟨b, 0, none⟩) h2).trans hc) h0

set_option maxHeartbeats 1000000 in
theorem values_any (a : Option Addr) (len cap : Nat) (w : World) :
    Calls Tryz.prog 14 #[.slice a len cap] w fun e w' => e = .returned (.func (.func 31) #[] #[.pointer (some ⟨w.heap.size, 0, none⟩)]) ∧ w' = w.alloc (.cells #[.slice a len cap] 29) := by
  go_enter Tryz.func14, Tryz.ntmps14
  go_wp2
  go_ret
  exact ⟨rfl, rfl⟩

set_option maxRecDepth 100000 in
set_option maxHeartbeats 1000000 in
theorem sorted_one (Bs b : Nat) (v : List UInt8) (w : World) (h1 : Bs < w.heap.size) (h2 : b < w.heap.size)
    (hBs : w.cell? ⟨Bs, 0, none⟩ = some (.slice (some ⟨b, 0, none⟩) 1 1)) (hc : w.cell? ⟨b, 0, none⟩ = some (encStr v)) :
    Calls Tryz.prog 13 #[.func (.func 31) #[] #[.pointer (some ⟨Bs, 0, none⟩)]] w fun e w' => ∃ x, e = .returned x ∧ w'.ownsRow w.heap.size 9 1 x 1 [encStr v] ∧ Below w.heap.size w w' := by
  refine (callsIn_wide (n := 6)).1 ?_
  have hseq := val1_gives Fence.wide 3 trivial rfl (by omega) Bs b v w h1 h2 hBs hc
  have cC := AnyZ.collect_in { Tryz.sorted13 with } Fence.wide 5 trivial trivial rfl (by omega) 31 #[.pointer (some ⟨Bs, 0, none⟩)] trivial (enters_of Tryz.func31 (by kernel_rfl) rfl) _ _ (by unfold maxLen; omega) (by omega) _ hseq
  change CallsIn _ _ Tryz.prog 29 _ _ _ at cC
  have hf1 : Fence.wide.fn 29 := trivial
  have hf2 : Fence.wide.fn 30 := trivial
  clear hBs hc hseq
  refine callsIn_of_wp Tryz.func13 rfl trivial ?_ rfl
  simp only [Tryz.ntmps13, List.size_toArray, List.length_cons, List.length_nil, Nat.reduceAdd, Nat.reduceSub, Array.replicate_succ, Array.replicate_zero, List.push_toArray, List.append_toArray, List.nil_append, List.cons_append]
  gi_wp2_with (gi_at_call 29; refine cC.mono ?_; rintro e w1 ⟨x, ss, rfl, rfl, hrow, hnil, hb⟩)
  rcases hrow.2 with ⟨rfl, hz⟩ | ⟨gb, cap, cur, rfl, hbase, hgb, r1, r2, r3, r4⟩
  · simp at hz
  · have hH : Holds encStr w1 gb 0 #[v] := holds_of_block (ss := [v]) hgb (by simpa using r4)
    have hgl : gb < w1.heap.size := (Array.getElem?_eq_some_iff.1 hgb).1
    have cS : CallsIn Fence.wide 5 Tryz.prog 30 #[.slice (some ⟨gb, 0, none⟩) 1 cap] w1 fun e w' => e = .returned (.tuple #[]) ∧ (∃ nn os, w' = grow (putRow encStr (Sort.ahead w1 nn) gb 0 #[v]) os) := by
      refine (callsIn_wide (n := 5)).2 ((Tryz.slices_Sort_string gb 0 cap [v] w1 hH hgl (by simp)).mono ?_)
      rintro e w' ⟨he, nn, os, hw⟩
      exact ⟨he, nn, os, by rw [hw]; simp⟩
    have HP : Hid (∀ nn os, (grow (putRow encStr (Sort.ahead w1 nn) gb 0 #[v]) os).ownsRow w.heap.size 9 1 (.slice (some ⟨gb, 0, none⟩) 1 cap) 1 [encStr v] ∧ RowKit.Below w.heap.size w (grow (putRow encStr (Sort.ahead w1 nn) gb 0 #[v]) os)) := Lib.hid fun nn os =>
      ⟨ownsRow_sorted (ss := [v]) (ts := [v]) rfl hbase hgb r1 r2 r3, hb.grown (grownBy_sorted _) hb.size (fun j hj => by cases hj; exact hbase)⟩
    clear r3 hgb r4 hnil hrow hH hb
    gi_wp2_with (gi_at_call 30; refine cS.mono ?_; rintro e w2 ⟨rfl, nn, os, hw⟩; have HW := Lib.hid hw; clear hw)
    go_ret
    refine ⟨_, rfl, ?_⟩
    rw [HW.out]
    exact HP.out nn os
end Go.Proofs.YtphpkmjobhohfaaGreatDoor
