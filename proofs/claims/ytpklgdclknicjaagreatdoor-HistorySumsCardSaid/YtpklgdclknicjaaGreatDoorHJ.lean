/- History: change.Valid, for every change. Printed by wip/history/gen_hj.py. -/
import Derived.Test.YtpklgdclknicjaaGreatDoorHF
namespace Go.Proofs.YtpklgdclknicjaaGreatDoor
open Go.RowKit
theorem fE_none (k : Int) (h : k < 0 ∨ 7 < k) (b : Nat) : Instr.findNow (.int .i64) (.int .i64 k) (fE8 b).toList 0 = some none := by
  have hs := MapKept.findNow_spec (d := .int .i64) (k := .int .i64 k) (by simp [MapKept.IsKey]) (fE8 b).toList 0 (by simp [fE8, fE7, fE6, fE5, fE4, fE3, fE2, fE1, MapKept.IsKey])
  rcases hs with ⟨h1, _⟩ | ⟨j, e, _, h2, h3⟩
  · exact h1
  · exfalso
    have hm := List.mem_of_getElem? h2
    simp [fE8, fE7, fE6, fE5, fE4, fE3, fE2, fE1] at hm
    rcases hm with rfl | rfl | rfl | rfl | rfl | rfl | rfl | rfl <;> (simp at h3; omega)

set_option maxRecDepth 100000 in
set_option maxHeartbeats 2000000 in
theorem chValid_none (k id : Int) (key rcd vol : ByteArray) (w : World) (hk : k < 0 ∨ 7 < k) :
    Calls Tryz.prog 41 #[.agg #[.int .i64 k, .int .i64 id, .string key, .string rcd, .string vol]] w fun e w' => e = .returned (.bool false) ∧ Below w.heap.size w w' := by
  have hf := fE_none k hk
  clear hk
  have s1 : (((((w.alloc (.cells #[.int .i64 k, .int .i64 id, .string key, .string rcd, .string vol] 43)).alloc (.cells #[.int .i64 1, .int .i64 32] 122)).alloc (.cells #[.int .i64 0, .int .i64 400] 122)).alloc (.cells #[.func (.func 89) #[] #[]] 123)).alloc (.map (fE8 (w.heap.size + 3)) 8)).cell? ⟨w.heap.size, 0, none⟩ = some (.int .i64 k) := ((((((Blk.new w _ _).alloc _).alloc _).alloc _).alloc _)).cell 0
  have l1 : (Instr.lookup 127 (.map (some (w.heap.size + 4))) (.int .i64 k) true).run Tryz.prog (((((w.alloc (.cells #[.int .i64 k, .int .i64 id, .string key, .string rcd, .string vol] 43)).alloc (.cells #[.int .i64 1, .int .i64 32] 122)).alloc (.cells #[.int .i64 0, .int .i64 400] 122)).alloc (.cells #[.func (.func 89) #[] #[]] 123)).alloc (.map (fE8 (w.heap.size + 3)) 8)) = .ok (.tuple #[.agg #[.string ⟨#[]⟩, .int .i64 0, .int .i64 0, .int .i64 0, .int .i64 0, .bool false, .nilFunc], .bool false]) (((((w.alloc (.cells #[.int .i64 k, .int .i64 id, .string key, .string rcd, .string vol] 43)).alloc (.cells #[.int .i64 1, .int .i64 32] 122)).alloc (.cells #[.int .i64 0, .int .i64 400] 122)).alloc (.cells #[.func (.func 89) #[] #[]] 123)).alloc (.map (fE8 (w.heap.size + 3)) 8)) := cLook_no (((((w.alloc (.cells #[.int .i64 k, .int .i64 id, .string key, .string rcd, .string vol] 43)).alloc (.cells #[.int .i64 1, .int .i64 32] 122)).alloc (.cells #[.int .i64 0, .int .i64 400] 122)).alloc (.cells #[.func (.func 89) #[] #[]] 123)).alloc (.map (fE8 (w.heap.size + 3)) 8)) (w.heap.size + 4) (fE8 (w.heap.size + 3)) 8 k (heap_at ((((w.alloc (.cells #[.int .i64 k, .int .i64 id, .string key, .string rcd, .string vol] 43)).alloc (.cells #[.int .i64 1, .int .i64 32] 122)).alloc (.cells #[.int .i64 0, .int .i64 400] 122)).alloc (.cells #[.func (.func 89) #[] #[]] 123)) (.map (fE8 (w.heap.size + 3)) 8) _ (by simp)) (hf _)
  have l1d : (Instr.lookup 127 (.map (some (w.heap.size + 4))) (.int .i64 k) true).run Tryz.prog (((((w.alloc (.cells #[.int .i64 k, .int .i64 id, .string key, .string rcd, .string vol] 43)).alloc (.cells #[.int .i64 1, .int .i64 32] 122)).alloc (.cells #[.int .i64 0, .int .i64 400] 122)).alloc (.cells #[.func (.func 89) #[] #[]] 123)).alloc (.map (fE8 (w.heap.size + 3)) 8)).drew = .ok (.tuple #[.agg #[.string ⟨#[]⟩, .int .i64 0, .int .i64 0, .int .i64 0, .int .i64 0, .bool false, .nilFunc], .bool false]) (((((w.alloc (.cells #[.int .i64 k, .int .i64 id, .string key, .string rcd, .string vol] 43)).alloc (.cells #[.int .i64 1, .int .i64 32] 122)).alloc (.cells #[.int .i64 0, .int .i64 400] 122)).alloc (.cells #[.func (.func 89) #[] #[]] 123)).alloc (.map (fE8 (w.heap.size + 3)) 8)).drew := cLook_no (((((w.alloc (.cells #[.int .i64 k, .int .i64 id, .string key, .string rcd, .string vol] 43)).alloc (.cells #[.int .i64 1, .int .i64 32] 122)).alloc (.cells #[.int .i64 0, .int .i64 400] 122)).alloc (.cells #[.func (.func 89) #[] #[]] 123)).alloc (.map (fE8 (w.heap.size + 3)) 8)).drew (w.heap.size + 4) (fE8 (w.heap.size + 3)) 8 k (heap_at ((((w.alloc (.cells #[.int .i64 k, .int .i64 id, .string key, .string rcd, .string vol] 43)).alloc (.cells #[.int .i64 1, .int .i64 32] 122)).alloc (.cells #[.int .i64 0, .int .i64 400] 122)).alloc (.cells #[.func (.func 89) #[] #[]] 123)) (.map (fE8 (w.heap.size + 3)) 8) _ (by simp)) (hf _)
  have l2 : (Instr.lookup 127 (.map (some (w.heap.size + 4))) (.int .i64 k) true).run Tryz.prog ((((((w.alloc (.cells #[.int .i64 k, .int .i64 id, .string key, .string rcd, .string vol] 43)).alloc (.cells #[.int .i64 1, .int .i64 32] 122)).alloc (.cells #[.int .i64 0, .int .i64 400] 122)).alloc (.cells #[.func (.func 89) #[] #[]] 123)).alloc (.map (fE8 (w.heap.size + 3)) 8)).alloc (.cells #[.string ⟨#[]⟩, .int .i64 0, .int .i64 0, .int .i64 0, .int .i64 0, .bool false, .nilFunc] 125)) = .ok (.tuple #[.agg #[.string ⟨#[]⟩, .int .i64 0, .int .i64 0, .int .i64 0, .int .i64 0, .bool false, .nilFunc], .bool false]) ((((((w.alloc (.cells #[.int .i64 k, .int .i64 id, .string key, .string rcd, .string vol] 43)).alloc (.cells #[.int .i64 1, .int .i64 32] 122)).alloc (.cells #[.int .i64 0, .int .i64 400] 122)).alloc (.cells #[.func (.func 89) #[] #[]] 123)).alloc (.map (fE8 (w.heap.size + 3)) 8)).alloc (.cells #[.string ⟨#[]⟩, .int .i64 0, .int .i64 0, .int .i64 0, .int .i64 0, .bool false, .nilFunc] 125)) := cLook_no ((((((w.alloc (.cells #[.int .i64 k, .int .i64 id, .string key, .string rcd, .string vol] 43)).alloc (.cells #[.int .i64 1, .int .i64 32] 122)).alloc (.cells #[.int .i64 0, .int .i64 400] 122)).alloc (.cells #[.func (.func 89) #[] #[]] 123)).alloc (.map (fE8 (w.heap.size + 3)) 8)).alloc (.cells #[.string ⟨#[]⟩, .int .i64 0, .int .i64 0, .int .i64 0, .int .i64 0, .bool false, .nilFunc] 125)) (w.heap.size + 4) (fE8 (w.heap.size + 3)) 8 k ((Below.heap_alloc (((((w.alloc (.cells #[.int .i64 k, .int .i64 id, .string key, .string rcd, .string vol] 43)).alloc (.cells #[.int .i64 1, .int .i64 32] 122)).alloc (.cells #[.int .i64 0, .int .i64 400] 122)).alloc (.cells #[.func (.func 89) #[] #[]] 123)).alloc (.map (fE8 (w.heap.size + 3)) 8)) (.cells #[.string ⟨#[]⟩, .int .i64 0, .int .i64 0, .int .i64 0, .int .i64 0, .bool false, .nilFunc] 125) _ (by simp)).trans (heap_at ((((w.alloc (.cells #[.int .i64 k, .int .i64 id, .string key, .string rcd, .string vol] 43)).alloc (.cells #[.int .i64 1, .int .i64 32] 122)).alloc (.cells #[.int .i64 0, .int .i64 400] 122)).alloc (.cells #[.func (.func 89) #[] #[]] 123)) (.map (fE8 (w.heap.size + 3)) 8) _ (by simp))) (hf _)
  have l2d : (Instr.lookup 127 (.map (some (w.heap.size + 4))) (.int .i64 k) true).run Tryz.prog ((((((w.alloc (.cells #[.int .i64 k, .int .i64 id, .string key, .string rcd, .string vol] 43)).alloc (.cells #[.int .i64 1, .int .i64 32] 122)).alloc (.cells #[.int .i64 0, .int .i64 400] 122)).alloc (.cells #[.func (.func 89) #[] #[]] 123)).alloc (.map (fE8 (w.heap.size + 3)) 8)).alloc (.cells #[.string ⟨#[]⟩, .int .i64 0, .int .i64 0, .int .i64 0, .int .i64 0, .bool false, .nilFunc] 125)).drew = .ok (.tuple #[.agg #[.string ⟨#[]⟩, .int .i64 0, .int .i64 0, .int .i64 0, .int .i64 0, .bool false, .nilFunc], .bool false]) ((((((w.alloc (.cells #[.int .i64 k, .int .i64 id, .string key, .string rcd, .string vol] 43)).alloc (.cells #[.int .i64 1, .int .i64 32] 122)).alloc (.cells #[.int .i64 0, .int .i64 400] 122)).alloc (.cells #[.func (.func 89) #[] #[]] 123)).alloc (.map (fE8 (w.heap.size + 3)) 8)).alloc (.cells #[.string ⟨#[]⟩, .int .i64 0, .int .i64 0, .int .i64 0, .int .i64 0, .bool false, .nilFunc] 125)).drew := cLook_no ((((((w.alloc (.cells #[.int .i64 k, .int .i64 id, .string key, .string rcd, .string vol] 43)).alloc (.cells #[.int .i64 1, .int .i64 32] 122)).alloc (.cells #[.int .i64 0, .int .i64 400] 122)).alloc (.cells #[.func (.func 89) #[] #[]] 123)).alloc (.map (fE8 (w.heap.size + 3)) 8)).alloc (.cells #[.string ⟨#[]⟩, .int .i64 0, .int .i64 0, .int .i64 0, .int .i64 0, .bool false, .nilFunc] 125)).drew (w.heap.size + 4) (fE8 (w.heap.size + 3)) 8 k ((Below.heap_alloc (((((w.alloc (.cells #[.int .i64 k, .int .i64 id, .string key, .string rcd, .string vol] 43)).alloc (.cells #[.int .i64 1, .int .i64 32] 122)).alloc (.cells #[.int .i64 0, .int .i64 400] 122)).alloc (.cells #[.func (.func 89) #[] #[]] 123)).alloc (.map (fE8 (w.heap.size + 3)) 8)) (.cells #[.string ⟨#[]⟩, .int .i64 0, .int .i64 0, .int .i64 0, .int .i64 0, .bool false, .nilFunc] 125) _ (by simp)).trans (heap_at ((((w.alloc (.cells #[.int .i64 k, .int .i64 id, .string key, .string rcd, .string vol] 43)).alloc (.cells #[.int .i64 1, .int .i64 32] 122)).alloc (.cells #[.int .i64 0, .int .i64 400] 122)).alloc (.cells #[.func (.func 89) #[] #[]] 123)) (.map (fE8 (w.heap.size + 3)) 8) _ (by simp))) (hf _)
  have s3 : ((((((w.alloc (.cells #[.int .i64 k, .int .i64 id, .string key, .string rcd, .string vol] 43)).alloc (.cells #[.string ⟨#[]⟩, .int .i64 0, .int .i64 0, .int .i64 0, .int .i64 0, .bool false, .nilFunc] 125)).alloc (.cells #[.int .i64 1, .int .i64 32] 122)).alloc (.cells #[.int .i64 0, .int .i64 400] 122)).alloc (.cells #[.func (.func 89) #[] #[]] 123)).alloc (.map (fE8 (w.heap.size + 4)) 8)).cell? ⟨w.heap.size, 0, none⟩ = some (.int .i64 k) := (((((((Blk.new w _ _).alloc _).alloc _).alloc _).alloc _).alloc _)).cell 0
  have l3 : (Instr.lookup 127 (.map (some (w.heap.size + 5))) (.int .i64 k) true).run Tryz.prog ((((((w.alloc (.cells #[.int .i64 k, .int .i64 id, .string key, .string rcd, .string vol] 43)).alloc (.cells #[.string ⟨#[]⟩, .int .i64 0, .int .i64 0, .int .i64 0, .int .i64 0, .bool false, .nilFunc] 125)).alloc (.cells #[.int .i64 1, .int .i64 32] 122)).alloc (.cells #[.int .i64 0, .int .i64 400] 122)).alloc (.cells #[.func (.func 89) #[] #[]] 123)).alloc (.map (fE8 (w.heap.size + 4)) 8)) = .ok (.tuple #[.agg #[.string ⟨#[]⟩, .int .i64 0, .int .i64 0, .int .i64 0, .int .i64 0, .bool false, .nilFunc], .bool false]) ((((((w.alloc (.cells #[.int .i64 k, .int .i64 id, .string key, .string rcd, .string vol] 43)).alloc (.cells #[.string ⟨#[]⟩, .int .i64 0, .int .i64 0, .int .i64 0, .int .i64 0, .bool false, .nilFunc] 125)).alloc (.cells #[.int .i64 1, .int .i64 32] 122)).alloc (.cells #[.int .i64 0, .int .i64 400] 122)).alloc (.cells #[.func (.func 89) #[] #[]] 123)).alloc (.map (fE8 (w.heap.size + 4)) 8)) := cLook_no ((((((w.alloc (.cells #[.int .i64 k, .int .i64 id, .string key, .string rcd, .string vol] 43)).alloc (.cells #[.string ⟨#[]⟩, .int .i64 0, .int .i64 0, .int .i64 0, .int .i64 0, .bool false, .nilFunc] 125)).alloc (.cells #[.int .i64 1, .int .i64 32] 122)).alloc (.cells #[.int .i64 0, .int .i64 400] 122)).alloc (.cells #[.func (.func 89) #[] #[]] 123)).alloc (.map (fE8 (w.heap.size + 4)) 8)) (w.heap.size + 5) (fE8 (w.heap.size + 4)) 8 k (heap_at (((((w.alloc (.cells #[.int .i64 k, .int .i64 id, .string key, .string rcd, .string vol] 43)).alloc (.cells #[.string ⟨#[]⟩, .int .i64 0, .int .i64 0, .int .i64 0, .int .i64 0, .bool false, .nilFunc] 125)).alloc (.cells #[.int .i64 1, .int .i64 32] 122)).alloc (.cells #[.int .i64 0, .int .i64 400] 122)).alloc (.cells #[.func (.func 89) #[] #[]] 123)) (.map (fE8 (w.heap.size + 4)) 8) _ (by simp)) (hf _)
  have l3d : (Instr.lookup 127 (.map (some (w.heap.size + 5))) (.int .i64 k) true).run Tryz.prog ((((((w.alloc (.cells #[.int .i64 k, .int .i64 id, .string key, .string rcd, .string vol] 43)).alloc (.cells #[.string ⟨#[]⟩, .int .i64 0, .int .i64 0, .int .i64 0, .int .i64 0, .bool false, .nilFunc] 125)).alloc (.cells #[.int .i64 1, .int .i64 32] 122)).alloc (.cells #[.int .i64 0, .int .i64 400] 122)).alloc (.cells #[.func (.func 89) #[] #[]] 123)).alloc (.map (fE8 (w.heap.size + 4)) 8)).drew = .ok (.tuple #[.agg #[.string ⟨#[]⟩, .int .i64 0, .int .i64 0, .int .i64 0, .int .i64 0, .bool false, .nilFunc], .bool false]) ((((((w.alloc (.cells #[.int .i64 k, .int .i64 id, .string key, .string rcd, .string vol] 43)).alloc (.cells #[.string ⟨#[]⟩, .int .i64 0, .int .i64 0, .int .i64 0, .int .i64 0, .bool false, .nilFunc] 125)).alloc (.cells #[.int .i64 1, .int .i64 32] 122)).alloc (.cells #[.int .i64 0, .int .i64 400] 122)).alloc (.cells #[.func (.func 89) #[] #[]] 123)).alloc (.map (fE8 (w.heap.size + 4)) 8)).drew := cLook_no ((((((w.alloc (.cells #[.int .i64 k, .int .i64 id, .string key, .string rcd, .string vol] 43)).alloc (.cells #[.string ⟨#[]⟩, .int .i64 0, .int .i64 0, .int .i64 0, .int .i64 0, .bool false, .nilFunc] 125)).alloc (.cells #[.int .i64 1, .int .i64 32] 122)).alloc (.cells #[.int .i64 0, .int .i64 400] 122)).alloc (.cells #[.func (.func 89) #[] #[]] 123)).alloc (.map (fE8 (w.heap.size + 4)) 8)).drew (w.heap.size + 5) (fE8 (w.heap.size + 4)) 8 k (heap_at (((((w.alloc (.cells #[.int .i64 k, .int .i64 id, .string key, .string rcd, .string vol] 43)).alloc (.cells #[.string ⟨#[]⟩, .int .i64 0, .int .i64 0, .int .i64 0, .int .i64 0, .bool false, .nilFunc] 125)).alloc (.cells #[.int .i64 1, .int .i64 32] 122)).alloc (.cells #[.int .i64 0, .int .i64 400] 122)).alloc (.cells #[.func (.func 89) #[] #[]] 123)) (.map (fE8 (w.heap.size + 4)) 8) _ (by simp)) (hf _)
  have s5 : ((((((w.alloc (.cells #[.int .i64 k, .int .i64 id, .string key, .string rcd, .string vol] 43)).alloc (.cells #[.string ⟨#[]⟩, .int .i64 0, .int .i64 0, .int .i64 0, .int .i64 0, .bool false, .nilFunc] 125)).alloc (.cells #[.int .i64 1, .int .i64 32] 122)).alloc (.cells #[.int .i64 0, .int .i64 400] 122)).alloc (.cells #[.func (.func 89) #[] #[]] 123)).alloc (.map (fE8 (w.heap.size + 4)) 8)).cell? ⟨w.heap.size, 0, none⟩ = some (.int .i64 k) := ((((((Blk.new w _ _).alloc _).alloc _).alloc _).alloc _).alloc _).cell 0
  have s6 : ((((((w.alloc (.cells #[.int .i64 k, .int .i64 id, .string key, .string rcd, .string vol] 43)).alloc (.cells #[.int .i64 1, .int .i64 32] 122)).alloc (.cells #[.int .i64 0, .int .i64 400] 122)).alloc (.cells #[.func (.func 89) #[] #[]] 123)).alloc (.map (fE8 (w.heap.size + 3)) 8)).alloc (.cells #[.string ⟨#[]⟩, .int .i64 0, .int .i64 0, .int .i64 0, .int .i64 0, .bool false, .nilFunc] 125)).cell? ⟨w.heap.size, 0, none⟩ = some (.int .i64 k) := ((((((Blk.new w _ _).alloc _).alloc _).alloc _).alloc _).alloc _).cell 0
  clear hf
  go_enter Tryz.func41, Tryz.ntmps41
  go_wp2_with fail
  go_upto_region 2 with (fail)
  go_cut [3, 4] (fun v3 v4 wx => ∃ g, v3 = .pointer (some ⟨g, 0, none⟩) ∧ v4 = .bool false ∧ VInv w #[.int .i64 k, .int .i64 id, .string key, .string rcd, .string vol] ⟨#[]⟩ 0 0 0 0 false g wx)
  case first =>
    go_region_held3 (fun w' => w'.cell? ⟨w.heap.size, 0, none⟩ = some (.int .i64 k)) (first | go_keep | exact s1 | exact s3 | exact s5 | exact s6) ((go_at_call 61; refine (forms_any _).mono ?_; rintro e w' ⟨rfl, rfl⟩))
    all_goals
      go_wp2_with fail
      go_meet
    all_goals
      first
        | exact ⟨_, rfl, rfl, vinv_a _ _ _ _ _ _ _ _ _ _ _ _ _ _ rfl⟩
        | exact ⟨_, rfl, rfl, vinv_b _ _ _ _ _ _ _ _ _ _ _ _ _ _ rfl⟩
  case rest =>
    clear l1 l1d l2 l2d l3 l3d s1 s3 s5 s6
    obtain ⟨g, rfl, rfl, k1, ⟨s0, k2⟩, k3, k4⟩ := hcut
    obtain ⟨wx, rfl⟩ : ∃ x : World, x = wc := ⟨_, rfl⟩
    have K3 := Lib.hid k3
    clear k1 k2 k3 k4
    go_wp2
    go_ret
    exact ⟨rfl, K3.out⟩

/-- a change is valid -/
def chB (k id : Int) (key rcd vol : ByteArray) : Bool :=
  if k = 0 then chkB id 1 32 1 200 false key rcd vol
  else if k = 1 then chkB id 1 32 0 0 false key rcd vol
  else if k = 2 then chkB id 0 0 0 1000 false key rcd vol
  else if k = 3 then chkB id 0 0 0 0 false key rcd vol
  else if k = 4 then chkB id 0 0 0 400 true key rcd vol
  else if k = 5 then chkB id 0 0 0 0 true key rcd vol
  else if k = 6 then chkB id 0 0 0 400 true key rcd vol
  else if k = 7 then chkB id 0 0 0 400 true key rcd vol
  else false

theorem chValid_any (k id : Int) (key rcd vol : ByteArray) (w : World) (hv : vol.size ≤ maxLen) :
    Calls Tryz.prog 41 #[.agg #[.int .i64 k, .int .i64 id, .string key, .string rcd, .string vol]] w fun e w' => e = .returned (.bool (chB k id key rcd vol)) ∧ Below w.heap.size w w' := by
  by_cases h0 : k = 0
  · subst h0
    exact chValid_func 0 id key rcd vol w _ 1 32 1 200 false (fun _ => 0) (.func 91) (fun b => #[.pointer (some ⟨b, 0, none⟩)]) (fun b => rfl) hv
  by_cases h1 : k = 1
  · subst h1
    exact chValid_func 1 id key rcd vol w _ 1 32 0 0 false (fun _ => 1) (.func 93) (fun _ => #[]) (fun b => rfl) hv
  by_cases h2 : k = 2
  · subst h2
    exact chValid_func 2 id key rcd vol w _ 0 0 0 1000 false (fun _ => 2) (.func 89) (fun _ => #[]) (fun b => rfl) hv
  by_cases h3 : k = 3
  · subst h3
    exact chValid_nil 3 id key rcd vol w _ 0 0 0 0 false (fun _ => 3) (fun b => rfl) hv
  by_cases h4 : k = 4
  · subst h4
    exact chValid_func 4 id key rcd vol w _ 0 0 0 400 true (fun _ => 4) (.func 90) (fun _ => #[]) (fun b => rfl) hv
  by_cases h5 : k = 5
  · subst h5
    exact chValid_func 5 id key rcd vol w _ 0 0 0 0 true (fun _ => 5) (.func 90) (fun _ => #[]) (fun b => rfl) hv
  by_cases h6 : k = 6
  · subst h6
    exact chValid_func 6 id key rcd vol w _ 0 0 0 400 true (fun _ => 6) (.func 90) (fun _ => #[]) (fun b => rfl) hv
  by_cases h7 : k = 7
  · subst h7
    exact chValid_func 7 id key rcd vol w _ 0 0 0 400 true (fun _ => 7) (.func 90) (fun _ => #[]) (fun b => rfl) hv
  have e : chB k id key rcd vol = false := by
    unfold chB
    rw [if_neg h0, if_neg h1, if_neg h2, if_neg h3, if_neg h4, if_neg h5, if_neg h6, if_neg h7]
  rw [e]
  exact chValid_none k id key rcd vol w (by omega)
end Go.Proofs.YtpklgdclknicjaaGreatDoor
