/- audit.Text of other kinds, and the agreement of both texts. -/
import Derived.Test.YtphpkmjobhohfaaGreatDoorQ
import Derived.Test.YtphpkmjobhohfaaGreatDoorH
namespace Go.Proofs.YtphpkmjobhohfaaGreatDoor
open Go.RowKit

theorem find_none (k : Int) (h : k < 0 ∨ 10 < k) : Instr.findNow (.int .i64) (.int .i64 k) kEs.toList 0 = some none := by
  have hs := MapKept.findNow_spec (d := .int .i64) (k := .int .i64 k) (by simp [MapKept.IsKey]) kEs.toList 0 (by simp [kEs, MapKept.IsKey])
  rcases hs with ⟨h1, _⟩ | ⟨j, e, _, h2, h3⟩
  · exact h1
  · exfalso
    have hm := List.mem_of_getElem? h2
    simp [kEs] at hm
    rcases hm with rfl | rfl | rfl | rfl | rfl | rfl | rfl | rfl | rfl | rfl | rfl <;> (simp at h3; omega)

set_option maxRecDepth 100000 in
set_option maxHeartbeats 2000000 in
theorem text_none (k id unit sec : Int) (vol name key : ByteArray) (w : World) (hk : k < 0 ∨ 10 < k) :
    Calls Tryz.prog 5 #[.agg #[.int .i64 k, .string vol, .int .i64 id, .int .i64 unit, .string name, .int .i64 sec, .string key]] w fun e w' => e = .returned (.string ⟨#[]⟩) ∧ Below w.heap.size w w' := by
  have hf := find_none k hk
  clear hk
  have l1 : (Instr.lookup 36 (.map (some (w.heap.size + 1))) (.int .i64 k) true).run Tryz.prog ((w.alloc (.cells #[.int .i64 k, .string vol, .int .i64 id, .int .i64 unit, .string name, .int .i64 sec, .string key] 23)).alloc (.map kEs 11)) = .ok (.tuple #[.agg #[.string ⟨#[]⟩, .nilFunc], .bool false]) ((w.alloc (.cells #[.int .i64 k, .string vol, .int .i64 id, .int .i64 unit, .string name, .int .i64 sec, .string key] 23)).alloc (.map kEs 11)) := look_no _ _ kEs 11 k (heap_at (w.alloc (.cells #[.int .i64 k, .string vol, .int .i64 id, .int .i64 unit, .string name, .int .i64 sec, .string key] 23)) _ _ (by simp)) hf
  have l1_drew : (Instr.lookup 36 (.map (some (w.heap.size + 1))) (.int .i64 k) true).run Tryz.prog ((w.alloc (.cells #[.int .i64 k, .string vol, .int .i64 id, .int .i64 unit, .string name, .int .i64 sec, .string key] 23)).alloc (.map kEs 11)).drew = .ok (.tuple #[.agg #[.string ⟨#[]⟩, .nilFunc], .bool false]) ((w.alloc (.cells #[.int .i64 k, .string vol, .int .i64 id, .int .i64 unit, .string name, .int .i64 sec, .string key] 23)).alloc (.map kEs 11)).drew := look_no _ _ kEs 11 k (heap_at (w.alloc (.cells #[.int .i64 k, .string vol, .int .i64 id, .int .i64 unit, .string name, .int .i64 sec, .string key] 23)) _ _ (by simp)) hf
  have l2 : (Instr.lookup 36 (.map (some (w.heap.size + 1))) (.int .i64 k) true).run Tryz.prog (((w.alloc (.cells #[.int .i64 k, .string vol, .int .i64 id, .int .i64 unit, .string name, .int .i64 sec, .string key] 23)).alloc (.map kEs 11)).alloc (.cells #[.string ⟨#[]⟩, .nilFunc] 34)) = .ok (.tuple #[.agg #[.string ⟨#[]⟩, .nilFunc], .bool false]) (((w.alloc (.cells #[.int .i64 k, .string vol, .int .i64 id, .int .i64 unit, .string name, .int .i64 sec, .string key] 23)).alloc (.map kEs 11)).alloc (.cells #[.string ⟨#[]⟩, .nilFunc] 34)) := look_no _ _ kEs 11 k ((Below.heap_alloc ((w.alloc (.cells #[.int .i64 k, .string vol, .int .i64 id, .int .i64 unit, .string name, .int .i64 sec, .string key] 23)).alloc (.map kEs 11)) (.cells #[.string ⟨#[]⟩, .nilFunc] 34) _ (by simp)).trans (heap_at (w.alloc (.cells #[.int .i64 k, .string vol, .int .i64 id, .int .i64 unit, .string name, .int .i64 sec, .string key] 23)) _ _ (by simp))) hf
  have l2_drew : (Instr.lookup 36 (.map (some (w.heap.size + 1))) (.int .i64 k) true).run Tryz.prog (((w.alloc (.cells #[.int .i64 k, .string vol, .int .i64 id, .int .i64 unit, .string name, .int .i64 sec, .string key] 23)).alloc (.map kEs 11)).alloc (.cells #[.string ⟨#[]⟩, .nilFunc] 34)).drew = .ok (.tuple #[.agg #[.string ⟨#[]⟩, .nilFunc], .bool false]) (((w.alloc (.cells #[.int .i64 k, .string vol, .int .i64 id, .int .i64 unit, .string name, .int .i64 sec, .string key] 23)).alloc (.map kEs 11)).alloc (.cells #[.string ⟨#[]⟩, .nilFunc] 34)).drew := look_no _ _ kEs 11 k ((Below.heap_alloc ((w.alloc (.cells #[.int .i64 k, .string vol, .int .i64 id, .int .i64 unit, .string name, .int .i64 sec, .string key] 23)).alloc (.map kEs 11)) (.cells #[.string ⟨#[]⟩, .nilFunc] 34) _ (by simp)).trans (heap_at (w.alloc (.cells #[.int .i64 k, .string vol, .int .i64 id, .int .i64 unit, .string name, .int .i64 sec, .string key] 23)) _ _ (by simp))) hf
  have l3 : (Instr.lookup 36 (.map (some (w.heap.size + 2))) (.int .i64 k) true).run Tryz.prog (((w.alloc (.cells #[.int .i64 k, .string vol, .int .i64 id, .int .i64 unit, .string name, .int .i64 sec, .string key] 23)).alloc (.cells #[.string ⟨#[]⟩, .nilFunc] 34)).alloc (.map kEs 11)) = .ok (.tuple #[.agg #[.string ⟨#[]⟩, .nilFunc], .bool false]) (((w.alloc (.cells #[.int .i64 k, .string vol, .int .i64 id, .int .i64 unit, .string name, .int .i64 sec, .string key] 23)).alloc (.cells #[.string ⟨#[]⟩, .nilFunc] 34)).alloc (.map kEs 11)) := look_no _ _ kEs 11 k (heap_at ((w.alloc (.cells #[.int .i64 k, .string vol, .int .i64 id, .int .i64 unit, .string name, .int .i64 sec, .string key] 23)).alloc (.cells #[.string ⟨#[]⟩, .nilFunc] 34)) _ _ (by simp)) hf
  have l3_drew : (Instr.lookup 36 (.map (some (w.heap.size + 2))) (.int .i64 k) true).run Tryz.prog (((w.alloc (.cells #[.int .i64 k, .string vol, .int .i64 id, .int .i64 unit, .string name, .int .i64 sec, .string key] 23)).alloc (.cells #[.string ⟨#[]⟩, .nilFunc] 34)).alloc (.map kEs 11)).drew = .ok (.tuple #[.agg #[.string ⟨#[]⟩, .nilFunc], .bool false]) (((w.alloc (.cells #[.int .i64 k, .string vol, .int .i64 id, .int .i64 unit, .string name, .int .i64 sec, .string key] 23)).alloc (.cells #[.string ⟨#[]⟩, .nilFunc] 34)).alloc (.map kEs 11)).drew := look_no _ _ kEs 11 k (heap_at ((w.alloc (.cells #[.int .i64 k, .string vol, .int .i64 id, .int .i64 unit, .string name, .int .i64 sec, .string key] 23)).alloc (.cells #[.string ⟨#[]⟩, .nilFunc] 34)) _ _ (by simp)) hf
  clear hf
  go_enter Tryz.func5, Tryz.ntmps5
  go_wp2_with fail
  go_upto_region 2 with (fail)
  go_cut [3, 4] (fun v3 v4 wx => ∃ g, v3 = .pointer (some ⟨g, 0, none⟩) ∧ v4 = .bool false ∧ KInv w #[.int .i64 k, .string vol, .int .i64 id, .int .i64 unit, .string name, .int .i64 sec, .string key] #[.string ⟨#[]⟩, .nilFunc] g wx)
  case first =>
    go_region_held3 (fun w' => w'.cell? ⟨w.heap.size, 0, none⟩ = some (.int .i64 k)) (go_keep) ((go_at_call 8; refine (kinds_any _).mono ?_; rintro e w' ⟨rfl, rfl⟩))
    all_goals
      go_wp2_with fail
      go_meet
    · exact ⟨_, rfl, rfl, kinv_a w _ _⟩
    · exact ⟨_, rfl, rfl, kinv_a w _ _⟩
    · exact ⟨_, rfl, rfl, kinv_b w _ _⟩
  case rest =>
    clear l1 l1_drew l2 l2_drew l3 l3_drew
    obtain ⟨g, rfl, rfl, k1, k2, k3, k4⟩ := hcut
    have K3 := Lib.hid k3
    clear k1 k2 k3 k4
    go_wp2
    go_ret
    exact ⟨rfl, K3.out⟩
end Go.Proofs.YtphpkmjobhohfaaGreatDoor
