/- History: change.forms, the map of the kinds of changes. Printed by wip/history/gen_he.py. -/
import Derived.Test.YtpklgdclknicjaaGreatDoorHD
import Derived.MapKept
import Derived.Laws.EntriesVeiled
namespace Go.Proofs.YtpklgdclknicjaaGreatDoor
open Go.RowKit

theorem push_set {α : Type} (a : Array α) (x y : α) : (a.push x).setIfInBounds a.size y = a.push y := by
  apply Array.ext'
  simp
theorem cIns_run (w : World) (es : Array MapEntry) (c : Nat) (key : Int) (val : Value) (hf : Instr.findNow (.int .i64) (.int .i64 key) es.toList 0 = some none) :
    (Instr.mapUpdate 127 (.map (some w.heap.size)) (.int .i64 key) val).run Tryz.prog (w.alloc (.map es c)) = .ok () (w.alloc (.map (es.push ⟨.int .i64 key, val, c⟩) (c + 1))) := by
  have hb : (w.alloc (.map es c)).heap[w.heap.size]? = some (.map es c) := heap_alloc_new w _
  have hc : (Instr.checkKey false 10000 3 (.int .i64 key)).run Tryz.prog (w.alloc (.map es c)) = .ok () (w.alloc (.map es c)) := MapKept.run_checkKey (k := .int .i64 key) Tryz.underlying3 (by simp [MapKept.IsKey]) false 9999
  have hs : ({ w.alloc (.map es c) with heap := (w.alloc (.map es c)).heap.setIfInBounds w.heap.size (.map (es.push ⟨.int .i64 key, val, c⟩) (c + 1)) } : World) = w.alloc (.map (es.push ⟨.int .i64 key, val, c⟩) (c + 1)) := by
    unfold World.alloc
    simp only [push_set]
  simp [Instr.mapUpdate, run_underlying Tryz.underlying127, MapKept.run_getObj_map hb, hc, MapKept.run_findKey Tryz.underlying3 hf, MapKept.run_setObj_map _ hb, Result.andThen]
  exact hs
theorem cLook_yes (w : World) (b : Nat) (es : Array MapEntry) (c : Nat) (key : Int) (v : Value) (i : Nat) (hb : w.heap[b]? = some (.map es c)) (hf : Instr.findNow (.int .i64) (.int .i64 key) es.toList 0 = some (some (i, v))) :
    (Instr.lookup 127 (.map (some b)) (.int .i64 key) true).run Tryz.prog w = .ok (.tuple #[v, .bool true]) w := by
  have hc : (Instr.checkKey es.isEmpty 10000 3 (.int .i64 key)).run Tryz.prog w = .ok () w := MapKept.run_checkKey (k := .int .i64 key) Tryz.underlying3 (by simp [MapKept.IsKey]) _ 9999
  simp [Instr.lookup, run_underlying Tryz.underlying127, MapKept.run_getObj_map hb, hc, MapKept.run_findKey Tryz.underlying3 hf]
theorem cLook_no (w : World) (b : Nat) (es : Array MapEntry) (c : Nat) (key : Int) (hb : w.heap[b]? = some (.map es c)) (hf : Instr.findNow (.int .i64) (.int .i64 key) es.toList 0 = some none) :
    (Instr.lookup 127 (.map (some b)) (.int .i64 key) true).run Tryz.prog w = .ok (.tuple #[.agg #[.string ⟨#[]⟩, .int .i64 0, .int .i64 0, .int .i64 0, .int .i64 0, .bool false, .nilFunc], .bool false]) w := by
  have hc : (Instr.checkKey es.isEmpty 10000 3 (.int .i64 key)).run Tryz.prog w = .ok () w := MapKept.run_checkKey (k := .int .i64 key) Tryz.underlying3 (by simp [MapKept.IsKey]) _ 9999
  simp [Instr.lookup, run_underlying Tryz.underlying127, MapKept.run_getObj_map hb, hc, MapKept.run_findKey Tryz.underlying3 hf]
def fE1 (b : Nat) : Array MapEntry := #[⟨.int .i64 0, .agg #[.string ⟨#[112, 117, 116]⟩, .int .i64 1, .int .i64 32, .int .i64 1, .int .i64 200, .bool false, .func (.func 91) #[] #[.pointer (some ⟨b, 0, none⟩)]], 0⟩]
def fE2 (b : Nat) : Array MapEntry := (fE1 b).push ⟨.int .i64 1, .agg #[.string ⟨#[101, 114, 97, 115, 101]⟩, .int .i64 1, .int .i64 32, .int .i64 0, .int .i64 0, .bool false, .func (.func 93) #[] #[]], 1⟩
def fE3 (b : Nat) : Array MapEntry := (fE2 b).push ⟨.int .i64 2, .agg #[.string ⟨#[97, 112, 112, 101, 110, 100]⟩, .int .i64 0, .int .i64 0, .int .i64 0, .int .i64 1000, .bool false, .func (.func 89) #[] #[]], 2⟩
def fE4 (b : Nat) : Array MapEntry := (fE3 b).push ⟨.int .i64 3, .agg #[.string ⟨#[101, 109, 112, 116, 121]⟩, .int .i64 0, .int .i64 0, .int .i64 0, .int .i64 0, .bool false, .nilFunc], 3⟩
def fE5 (b : Nat) : Array MapEntry := (fE4 b).push ⟨.int .i64 4, .agg #[.string ⟨#[99, 114, 101, 97, 116, 101]⟩, .int .i64 0, .int .i64 0, .int .i64 0, .int .i64 400, .bool true, .func (.func 90) #[] #[]], 4⟩
def fE6 (b : Nat) : Array MapEntry := (fE5 b).push ⟨.int .i64 5, .agg #[.string ⟨#[114, 101, 109, 111, 118, 101]⟩, .int .i64 0, .int .i64 0, .int .i64 0, .int .i64 0, .bool true, .func (.func 90) #[] #[]], 5⟩
def fE7 (b : Nat) : Array MapEntry := (fE6 b).push ⟨.int .i64 6, .agg #[.string ⟨#[109, 111, 118, 101]⟩, .int .i64 0, .int .i64 0, .int .i64 0, .int .i64 400, .bool true, .func (.func 90) #[] #[]], 6⟩
def fE8 (b : Nat) : Array MapEntry := (fE7 b).push ⟨.int .i64 7, .agg #[.string ⟨#[110, 111, 116, 101]⟩, .int .i64 0, .int .i64 0, .int .i64 0, .int .i64 400, .bool true, .func (.func 90) #[] #[]], 7⟩

set_option maxRecDepth 100000 in
set_option maxHeartbeats 2000000 in
theorem forms_any (w : World) : Calls Tryz.prog 61 #[] w fun e w' => e = .returned (.map (some (w.heap.size + 3))) ∧ w' = (((w.alloc (.cells #[.int .i64 1, .int .i64 32] 122)).alloc (.cells #[.int .i64 0, .int .i64 400] 122)).alloc (.cells #[.func (.func 89) #[] #[]] 123)).alloc (.map (fE8 (w.heap.size + 2)) 8) := by
  have hmm := @run_makeMap Tryz.prog
  have hsz : (((w.alloc (.cells #[.int .i64 1, .int .i64 32] 122)).alloc (.cells #[.int .i64 0, .int .i64 400] 122)).alloc (.cells #[.func (.func 89) #[] #[]] 123)).heap.size = w.heap.size + 3 := by simp
  have e0 : (Instr.mapUpdate 127 (.map (some (w.heap.size + 3))) (.int .i64 0) (.agg #[.string ⟨#[112, 117, 116]⟩, .int .i64 1, .int .i64 32, .int .i64 1, .int .i64 200, .bool false, .func (.func 91) #[] #[.pointer (some ⟨w.heap.size + 2, 0, none⟩)]])).run Tryz.prog ((((w.alloc (.cells #[.int .i64 1, .int .i64 32] 122)).alloc (.cells #[.int .i64 0, .int .i64 400] 122)).alloc (.cells #[.func (.func 89) #[] #[]] 123)).alloc (.map #[] 0)) = .ok () ((((w.alloc (.cells #[.int .i64 1, .int .i64 32] 122)).alloc (.cells #[.int .i64 0, .int .i64 400] 122)).alloc (.cells #[.func (.func 89) #[] #[]] 123)).alloc (.map (fE1 (w.heap.size + 2)) 1)) := by
    have := cIns_run (((w.alloc (.cells #[.int .i64 1, .int .i64 32] 122)).alloc (.cells #[.int .i64 0, .int .i64 400] 122)).alloc (.cells #[.func (.func 89) #[] #[]] 123)) #[] 0 0 (.agg #[.string ⟨#[112, 117, 116]⟩, .int .i64 1, .int .i64 32, .int .i64 1, .int .i64 200, .bool false, .func (.func 91) #[] #[.pointer (some ⟨w.heap.size + 2, 0, none⟩)]]) (by rfl)
    rw [hsz] at this
    exact this
  have e1 : (Instr.mapUpdate 127 (.map (some (w.heap.size + 3))) (.int .i64 1) (.agg #[.string ⟨#[101, 114, 97, 115, 101]⟩, .int .i64 1, .int .i64 32, .int .i64 0, .int .i64 0, .bool false, .func (.func 93) #[] #[]])).run Tryz.prog ((((w.alloc (.cells #[.int .i64 1, .int .i64 32] 122)).alloc (.cells #[.int .i64 0, .int .i64 400] 122)).alloc (.cells #[.func (.func 89) #[] #[]] 123)).alloc (.map (fE1 (w.heap.size + 2)) 1)) = .ok () ((((w.alloc (.cells #[.int .i64 1, .int .i64 32] 122)).alloc (.cells #[.int .i64 0, .int .i64 400] 122)).alloc (.cells #[.func (.func 89) #[] #[]] 123)).alloc (.map (fE2 (w.heap.size + 2)) 2)) := by
    have := cIns_run (((w.alloc (.cells #[.int .i64 1, .int .i64 32] 122)).alloc (.cells #[.int .i64 0, .int .i64 400] 122)).alloc (.cells #[.func (.func 89) #[] #[]] 123)) (fE1 (w.heap.size + 2)) 1 1 (.agg #[.string ⟨#[101, 114, 97, 115, 101]⟩, .int .i64 1, .int .i64 32, .int .i64 0, .int .i64 0, .bool false, .func (.func 93) #[] #[]]) (by rfl)
    rw [hsz] at this
    exact this
  have e2 : (Instr.mapUpdate 127 (.map (some (w.heap.size + 3))) (.int .i64 2) (.agg #[.string ⟨#[97, 112, 112, 101, 110, 100]⟩, .int .i64 0, .int .i64 0, .int .i64 0, .int .i64 1000, .bool false, .func (.func 89) #[] #[]])).run Tryz.prog ((((w.alloc (.cells #[.int .i64 1, .int .i64 32] 122)).alloc (.cells #[.int .i64 0, .int .i64 400] 122)).alloc (.cells #[.func (.func 89) #[] #[]] 123)).alloc (.map (fE2 (w.heap.size + 2)) 2)) = .ok () ((((w.alloc (.cells #[.int .i64 1, .int .i64 32] 122)).alloc (.cells #[.int .i64 0, .int .i64 400] 122)).alloc (.cells #[.func (.func 89) #[] #[]] 123)).alloc (.map (fE3 (w.heap.size + 2)) 3)) := by
    have := cIns_run (((w.alloc (.cells #[.int .i64 1, .int .i64 32] 122)).alloc (.cells #[.int .i64 0, .int .i64 400] 122)).alloc (.cells #[.func (.func 89) #[] #[]] 123)) (fE2 (w.heap.size + 2)) 2 2 (.agg #[.string ⟨#[97, 112, 112, 101, 110, 100]⟩, .int .i64 0, .int .i64 0, .int .i64 0, .int .i64 1000, .bool false, .func (.func 89) #[] #[]]) (by rfl)
    rw [hsz] at this
    exact this
  have e3 : (Instr.mapUpdate 127 (.map (some (w.heap.size + 3))) (.int .i64 3) (.agg #[.string ⟨#[101, 109, 112, 116, 121]⟩, .int .i64 0, .int .i64 0, .int .i64 0, .int .i64 0, .bool false, .nilFunc])).run Tryz.prog ((((w.alloc (.cells #[.int .i64 1, .int .i64 32] 122)).alloc (.cells #[.int .i64 0, .int .i64 400] 122)).alloc (.cells #[.func (.func 89) #[] #[]] 123)).alloc (.map (fE3 (w.heap.size + 2)) 3)) = .ok () ((((w.alloc (.cells #[.int .i64 1, .int .i64 32] 122)).alloc (.cells #[.int .i64 0, .int .i64 400] 122)).alloc (.cells #[.func (.func 89) #[] #[]] 123)).alloc (.map (fE4 (w.heap.size + 2)) 4)) := by
    have := cIns_run (((w.alloc (.cells #[.int .i64 1, .int .i64 32] 122)).alloc (.cells #[.int .i64 0, .int .i64 400] 122)).alloc (.cells #[.func (.func 89) #[] #[]] 123)) (fE3 (w.heap.size + 2)) 3 3 (.agg #[.string ⟨#[101, 109, 112, 116, 121]⟩, .int .i64 0, .int .i64 0, .int .i64 0, .int .i64 0, .bool false, .nilFunc]) (by rfl)
    rw [hsz] at this
    exact this
  have e4 : (Instr.mapUpdate 127 (.map (some (w.heap.size + 3))) (.int .i64 4) (.agg #[.string ⟨#[99, 114, 101, 97, 116, 101]⟩, .int .i64 0, .int .i64 0, .int .i64 0, .int .i64 400, .bool true, .func (.func 90) #[] #[]])).run Tryz.prog ((((w.alloc (.cells #[.int .i64 1, .int .i64 32] 122)).alloc (.cells #[.int .i64 0, .int .i64 400] 122)).alloc (.cells #[.func (.func 89) #[] #[]] 123)).alloc (.map (fE4 (w.heap.size + 2)) 4)) = .ok () ((((w.alloc (.cells #[.int .i64 1, .int .i64 32] 122)).alloc (.cells #[.int .i64 0, .int .i64 400] 122)).alloc (.cells #[.func (.func 89) #[] #[]] 123)).alloc (.map (fE5 (w.heap.size + 2)) 5)) := by
    have := cIns_run (((w.alloc (.cells #[.int .i64 1, .int .i64 32] 122)).alloc (.cells #[.int .i64 0, .int .i64 400] 122)).alloc (.cells #[.func (.func 89) #[] #[]] 123)) (fE4 (w.heap.size + 2)) 4 4 (.agg #[.string ⟨#[99, 114, 101, 97, 116, 101]⟩, .int .i64 0, .int .i64 0, .int .i64 0, .int .i64 400, .bool true, .func (.func 90) #[] #[]]) (by rfl)
    rw [hsz] at this
    exact this
  have e5 : (Instr.mapUpdate 127 (.map (some (w.heap.size + 3))) (.int .i64 5) (.agg #[.string ⟨#[114, 101, 109, 111, 118, 101]⟩, .int .i64 0, .int .i64 0, .int .i64 0, .int .i64 0, .bool true, .func (.func 90) #[] #[]])).run Tryz.prog ((((w.alloc (.cells #[.int .i64 1, .int .i64 32] 122)).alloc (.cells #[.int .i64 0, .int .i64 400] 122)).alloc (.cells #[.func (.func 89) #[] #[]] 123)).alloc (.map (fE5 (w.heap.size + 2)) 5)) = .ok () ((((w.alloc (.cells #[.int .i64 1, .int .i64 32] 122)).alloc (.cells #[.int .i64 0, .int .i64 400] 122)).alloc (.cells #[.func (.func 89) #[] #[]] 123)).alloc (.map (fE6 (w.heap.size + 2)) 6)) := by
    have := cIns_run (((w.alloc (.cells #[.int .i64 1, .int .i64 32] 122)).alloc (.cells #[.int .i64 0, .int .i64 400] 122)).alloc (.cells #[.func (.func 89) #[] #[]] 123)) (fE5 (w.heap.size + 2)) 5 5 (.agg #[.string ⟨#[114, 101, 109, 111, 118, 101]⟩, .int .i64 0, .int .i64 0, .int .i64 0, .int .i64 0, .bool true, .func (.func 90) #[] #[]]) (by rfl)
    rw [hsz] at this
    exact this
  have e6 : (Instr.mapUpdate 127 (.map (some (w.heap.size + 3))) (.int .i64 6) (.agg #[.string ⟨#[109, 111, 118, 101]⟩, .int .i64 0, .int .i64 0, .int .i64 0, .int .i64 400, .bool true, .func (.func 90) #[] #[]])).run Tryz.prog ((((w.alloc (.cells #[.int .i64 1, .int .i64 32] 122)).alloc (.cells #[.int .i64 0, .int .i64 400] 122)).alloc (.cells #[.func (.func 89) #[] #[]] 123)).alloc (.map (fE6 (w.heap.size + 2)) 6)) = .ok () ((((w.alloc (.cells #[.int .i64 1, .int .i64 32] 122)).alloc (.cells #[.int .i64 0, .int .i64 400] 122)).alloc (.cells #[.func (.func 89) #[] #[]] 123)).alloc (.map (fE7 (w.heap.size + 2)) 7)) := by
    have := cIns_run (((w.alloc (.cells #[.int .i64 1, .int .i64 32] 122)).alloc (.cells #[.int .i64 0, .int .i64 400] 122)).alloc (.cells #[.func (.func 89) #[] #[]] 123)) (fE6 (w.heap.size + 2)) 6 6 (.agg #[.string ⟨#[109, 111, 118, 101]⟩, .int .i64 0, .int .i64 0, .int .i64 0, .int .i64 400, .bool true, .func (.func 90) #[] #[]]) (by rfl)
    rw [hsz] at this
    exact this
  have e7 : (Instr.mapUpdate 127 (.map (some (w.heap.size + 3))) (.int .i64 7) (.agg #[.string ⟨#[110, 111, 116, 101]⟩, .int .i64 0, .int .i64 0, .int .i64 0, .int .i64 400, .bool true, .func (.func 90) #[] #[]])).run Tryz.prog ((((w.alloc (.cells #[.int .i64 1, .int .i64 32] 122)).alloc (.cells #[.int .i64 0, .int .i64 400] 122)).alloc (.cells #[.func (.func 89) #[] #[]] 123)).alloc (.map (fE7 (w.heap.size + 2)) 7)) = .ok () ((((w.alloc (.cells #[.int .i64 1, .int .i64 32] 122)).alloc (.cells #[.int .i64 0, .int .i64 400] 122)).alloc (.cells #[.func (.func 89) #[] #[]] 123)).alloc (.map (fE8 (w.heap.size + 2)) 8)) := by
    have := cIns_run (((w.alloc (.cells #[.int .i64 1, .int .i64 32] 122)).alloc (.cells #[.int .i64 0, .int .i64 400] 122)).alloc (.cells #[.func (.func 89) #[] #[]] 123)) (fE7 (w.heap.size + 2)) 7 7 (.agg #[.string ⟨#[110, 111, 116, 101]⟩, .int .i64 0, .int .i64 0, .int .i64 0, .int .i64 400, .bool true, .func (.func 90) #[] #[]]) (by rfl)
    rw [hsz] at this
    exact this
  clear hsz
  go_enter Tryz.func61, Tryz.ntmps61
  go_wp2
  go_ret
  exact ⟨rfl, rfl⟩
end Go.Proofs.YtpklgdclknicjaaGreatDoor
