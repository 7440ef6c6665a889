/- Contracts of Few and Same, of Join and of Repeat. -/
import Derived.Test.YtehagkkmkbjpcaaA
import Derived.Test.YtehagkkmkbjpcaaBase
import Derived.Test.YtehagkkmkbjpcaaShelf
namespace Go.Proofs.Ytehagkkmkbjpcaa
open Go.RowKit

/-- a slice of strings as a value: its strings ss -/
def Ss (w : World) (B : Nat) (A : Option Addr) (n c : Nat) (ss : List ByteArray) : Prop := n ≤ c ∧ Rd w B 1 A n (ss.map Value.string)

theorem Ss.len {w : World} {B : Nat} {A : Option Addr} {n c : Nat} {ss : List ByteArray} (h : Ss w B A n c ss) : ss.length = n := by have := h.2.1; simpa using this
theorem Ss.cell {w : World} {B : Nat} {A : Option Addr} {n c k : Nat} {ss : List ByteArray} (h : Ss w B A n c ss) (hk : k < n) :
    ∃ b o s, A = some ⟨b, o, none⟩ ∧ b < B ∧ ss[k]? = some s ∧ w.cell? ⟨b, o + k, none⟩ = some (.string s) := by
  obtain ⟨b, o, u, hA, hb, hx, hc⟩ := h.2.at_ hk
  rw [List.getElem?_map] at hx
  cases hs : ss[k]? with
  | none => rw [hs] at hx; cases hx
  | some s => rw [hs] at hx; injection hx with hx; subst hx; exact ⟨b, o, s, hA, hb, rfl, hc⟩

/-- a slice of strings that came in -/
theorem ss_came {w : World} {a : Addr} {n c : Nat} {ss : List ByteArray} (hz : ss.length = c) (hl : n ≤ c) (hcell : ∀ i, i < ss.length → w.cell? (a.add i) = some (.string (ss.getD i ByteArray.empty))) :
    Ss w w.heap.size (some a) n c (ss.take n) := by
  refine ⟨hl, by simp; omega, fun hn => ?_⟩
  obtain ⟨b, off, spot⟩ := a
  have h0 := hcell 0 (by omega)
  have hspot : spot = none := by simpa [Addr.add] using World.cell?_spot h0
  subst hspot
  have hadd : ∀ j, (⟨b, off, none⟩ : Addr).add j = ⟨b, off + j, none⟩ := fun j => by unfold Addr.add; split <;> simp_all
  refine ⟨b, off, rfl, ?_, fun j u hu => ?_⟩
  · rw [hadd] at h0
    by_cases hlt : b < w.heap.size
    · exact hlt
    · simp [World.cell?, Array.getElem?_eq_none (Nat.not_lt.1 hlt)] at h0
  · rw [List.getElem?_map, List.getElem?_take] at hu
    split at hu
    · cases hs : ss[j]? with
      | none => rw [hs] at hu; cases hu
      | some s =>
        rw [hs] at hu
        have hj : j < ss.length := (List.getElem?_eq_some_iff.1 hs).1
        have := hcell j hj
        rw [hadd] at this
        rw [this, List.getD_eq_getElem?_getD, hs]
        simpa using hu
    · cases hu

def fewB (ss : List ByteArray) (c m : Int) : Bool := ss.all (fun s => decide ((s.size : Int) ≤ m)) && decide ((ss.length : Int) ≤ c)

set_option maxHeartbeats 400000 in
theorem few_any (A : Option Addr) (n c : Nat) (ss : List ByteArray) (k m : Int) (w : World) (B : Nat) (hs : Ss w B A n c ss) (hn : n ≤ 9223372036854775807) :
    Calls Try.prog 11 #[.slice A n c, .int .i64 k, .int .i64 m] w fun e w' => e = .returned (.bool (fewB ss k m)) ∧ w = w' := by
  have HL := Lib.hid hs.len
  have HS := Lib.hid hs
  clear hs
  go_enter Try.func11, Try.ntmps11
  go_wp2
  go_loop [7] (fun i => ∃ j : Nat, j ≤ n ∧ i = .int .i64 j ∧ ∀ t, t < j → ∀ s, ss[t]? = some s → (s.size : Int) ≤ m) (fun i => n - (intOf i).toNat)
  case atStart => exact ⟨0, Nat.zero_le _, rfl, fun t h => absurd h (by omega)⟩
  case round =>
    obtain ⟨j, hj, rfl, hall⟩ := hrel
    have HA := Lib.hid hall
    clear hall
    by_cases hlt : j < n
    · obtain ⟨b, o, s, rfl, hb, hg, hc⟩ := HS.out.cell hlt
      have HG := Lib.hid hg
      clear hg
      by_cases hsz : (s.size : Int) ≤ m
      · go_wp2
        go_round
        case rel =>
          refine ⟨j + 1, by omega, by go_num, fun t ht s' hs' => ?_⟩
          by_cases e : t = j
          · subst e; rw [HG.out] at hs'; injection hs' with hs'; subst hs'; exact hsz
          · exact HA.out t (by omega) s' hs'
        case measure => simp [intOf]; omega
      · go_wp2
        go_ret
        refine ⟨?_, rfl⟩
        have hf : fewB ss k m = false := by
          unfold fewB
          rw [Bool.and_eq_false_iff]; left
          rw [List.all_eq_false]
          exact ⟨s, List.mem_of_getElem? HG.out, by simpa using hsz⟩
        rw [hf]; rfl
    · have hall : ss.all (fun s => decide ((s.size : Int) ≤ m)) = true := by
        rw [List.all_eq_true]
        intro s hsm
        obtain ⟨t, ht, rfl⟩ := List.getElem_of_mem hsm
        have := HL.out
        simpa using HA.out t (by omega) _ (List.getElem?_eq_getElem ht)
      have hf : fewB ss k m = decide ((n : Int) ≤ k) := by unfold fewB; rw [hall, HL.out]; simp
      have HF := Lib.hid hf
      clear hf hall
      go_wp2
      all_goals
        go_ret
        exact ⟨by rw [HF.out]; simp_all, rfl⟩

theorem Ss.drewN {w : World} {B : Nat} {A : Option Addr} {n c : Nat} {ss : List ByteArray} (h : Ss w B A n c ss) (k : Nat) : Ss (w.drewN k) B A n c ss := h

set_option maxHeartbeats 400000 in
theorem same_true (A A' : Option Addr) (n c c' : Nat) (ss : List ByteArray) (w : World) (B : Nat) (hs : Ss w B A n c ss) (hs' : Ss w B A' n c' ss) (hn : n ≤ 9223372036854775807) :
    Calls Try.prog 18 #[.slice A n c, .slice A' n c'] w fun e w' => e = .returned (.bool true) ∧ Below w.heap.size w w' := by
  have HS := Lib.hid hs
  have HS' := Lib.hid hs'
  clear hs hs'
  go_enter Try.func18, Try.ntmps18
  go_wp2
  go_loopw [5] (fun i wr => ∃ j : Nat, j ≤ n ∧ i = .int .i64 j ∧ ∃ d, wr = w.drewN d) (fun i _ => n - (intOf i).toNat)
  case atStart => exact ⟨0, Nat.zero_le _, rfl, 0, rfl⟩
  case round =>
    obtain ⟨j, hj, rfl, d, rfl⟩ := hrel
    by_cases hlt : j < n
    · obtain ⟨b, o, s, rfl, hb, hg, hc⟩ := HS.out.cell hlt
      obtain ⟨b', o', s', rfl, hb', hg', hc'⟩ := HS'.out.cell hlt
      obtain rfl : s = s' := by rw [hg] at hg'; injection hg'
      clear hg hg'
      go_wp2
      go_quiet (fail)
      go_wp2
      go_roundw
      case rel => exact ⟨j + 1, by omega, by go_num, _, rfl⟩
      case measure => simp [intOf]; omega
    · go_wp2
      go_ret
      exact ⟨rfl, below_drewN (Below.refl _ _) _⟩
end Go.Proofs.Ytehagkkmkbjpcaa
