/- Contracts of Pad, of the program and of the reference. -/
import Derived.Test.YtehagkkmkbjpcaaH
namespace Go.Proofs.Ytehagkkmkbjpcaa
open Go.RowKit

def padN (l : Int) : Nat := (min (max 0 l) 1000).toNat
def bl (k : Nat) : ByteArray := ⟨(Lib.repeatL [32] k).toArray⟩
def padS (l : Int) (s : ByteArray) : ByteArray := if padN l ≤ s.size then s.extract 0 (padN l) else s ++ bl (padN l - s.size)

theorem repeat_snoc (k : Nat) : Lib.repeatL [32] (k + 1) = Lib.repeatL [32] k ++ [32] := by
  induction k with
  | zero => rfl
  | succ k ih =>
    have e : Lib.repeatL [32] (k + 1 + 1) = 32 :: Lib.repeatL [32] (k + 1) := rfl
    have e2 : Lib.repeatL [32] (k + 1) = 32 :: Lib.repeatL [32] k := rfl
    rw [e, ih, ← List.cons_append, ← e2, ih]
theorem bl_size (k : Nat) : (bl k).size = k := by
  have := Lib.repeatL_length [32] k
  rw [← ba_len]; unfold bl; simpa using this
theorem bl_succ (s : ByteArray) (k : Nat) : s ++ bl k ++ ⟨#[32]⟩ = s ++ bl (k + 1) := by
  apply ba_ext; rw [ba_app, ba_app, ba_app]; unfold bl; rw [repeat_snoc]; simp
theorem padN_le (l : Int) : padN l ≤ 1000 := by unfold padN; omega

set_option maxHeartbeats 400000 in
theorem pad_any (l : Int) (s : ByteArray) (w : World) (hs : s.size ≤ 100000) :
    Calls Try.prog 22 #[.int .i64 l, .string s] w fun e w' => e = .returned (.string (padS l s)) ∧ Below w.heap.size w w' := by
  obtain ⟨N, hN⟩ : ∃ N, padN l = N := ⟨_, rfl⟩
  have hN1 : min (max 0 l) 1000 = (N : Int) := by rw [← hN]; unfold padN; omega
  have hN2 := padN_le l
  have hp : padS l s = if N ≤ s.size then s.extract 0 N else s ++ bl (N - s.size) := by unfold padS; rw [hN]
  rw [hN] at hN2
  have HP := Lib.hid hp
  clear hN hp
  by_cases hc : N ≤ s.size
  · have hp := HP.out
    rw [if_pos hc] at hp
    rw [hp]
    clear hp
    go_enter Try.func22, Try.ntmps22
    go_wp2_with fail
    go_ret
    exact ⟨rfl, Below.refl _ _⟩
  · have hp := HP.out
    rw [if_neg hc] at hp
    have HP := Lib.hid hp
    clear hp
    have hk : ((N : Int) - (s.size : Int)) = ((N - s.size : Nat) : Int) := by omega
    obtain ⟨k, hk2⟩ : ∃ k, N - s.size = k := ⟨_, rfl⟩
    rw [hk2] at hk
    have hk3 : k ≤ 1000 := by omega
    have HK := Lib.hid hk2
    have hbs := bl_size k
    clear hk2
    go_enter Try.func22, Try.ntmps22
    go_wp2_with fail
    refine (Try.strings_Repeat ⟨#[32]⟩ k _ (by omega) (by show 1 * k ≤ _; omega)).mono ?_
    rintro e w1 ⟨rfl, hb⟩
    rw [show (⟨(Lib.repeatL (⟨#[32]⟩ : ByteArray).data.toList k).toArray⟩ : ByteArray) = bl k from rfl]
    go_wp2
    go_ret
    exact ⟨by rw [HP.out, HK.out]; rfl, hb⟩

theorem min_max (l : Int) : max 0 (min l 1000) = min (max 0 l) 1000 := by omega

set_option maxHeartbeats 400000 in
theorem rpad_any (l : Int) (s : ByteArray) (w : World) (hs : s.size ≤ 100000) :
    Calls Try.prog 24 #[.int .i64 l, .string s] w fun e w' => e = .returned (.string (padS l s)) ∧ w = w' := by
  obtain ⟨N, hN⟩ : ∃ N, padN l = N := ⟨_, rfl⟩
  have hN1 : max 0 (min l 1000) = (N : Int) := by rw [← hN, min_max]; unfold padN; omega
  have hN2 := padN_le l
  have hp : padS l s = if N ≤ s.size then s.extract 0 N else s ++ bl (N - s.size) := by unfold padS; rw [hN]
  rw [hN] at hN2
  have HP := Lib.hid hp
  clear hN hp
  go_enter Try.func24, Try.ntmps24
  go_wp2
  go_loop [1] (fun v => ∃ (k : Nat) (t : ByteArray), t = s ++ bl k ∧ v = .string t ∧ t.size = s.size + k ∧ (0 < k → t.size ≤ N) ∧ t.size ≤ 101000) (fun v => match v with | .string t => N - t.size | _ => 0)
  case atStart => exact ⟨0, s, by apply ba_ext; rw [ba_app]; simp [bl, Lib.repeatL], rfl, by omega, by omega, by omega⟩
  case round =>
    obtain ⟨k, t, ht, rfl, hk, hkN, hkz⟩ := hrel
    have HT := Lib.hid ht
    have HK := Lib.hid hk
    clear ht hk
    by_cases hlt : t.size < N
    · go_wp2
      go_round
      case rel =>
        refine ⟨k + 1, _, ?_, rfl, ?_, fun _ => ?_, ?_⟩
        · rw [HT.out]; exact bl_succ s k
        · have := HK.out; rw [ByteArray.size_append]; show t.size + 1 = _; omega
        · rw [ByteArray.size_append]; show t.size + 1 ≤ _; omega
        · rw [ByteArray.size_append]; show t.size + 1 ≤ _; omega
      case measure => show N - (t ++ ⟨#[32]⟩).size < N - t.size; rw [ByteArray.size_append]; show N - (t.size + 1) < N - t.size; omega
    · go_wp2
      go_ret
      refine ⟨?_, rfl⟩
      have hsz := HK.out
      rw [HP.out]
      rcases Nat.eq_zero_or_pos k with h0 | h0
      · subst h0
        have : t = s := by rw [HT.out]; apply ba_ext; rw [ba_app]; simp [bl, Lib.repeatL]
        subst this
        rw [if_pos (by omega)]; rfl
      · have h1 := hkN h0
        by_cases hc : N ≤ s.size
        · omega
        · rw [if_neg hc]
          have e1 : N - s.size = k := by omega
          rw [e1, ← HT.out]
          have e2 : t.extract 0 N = t := by
            rw [show N = t.size from by omega]; simp
          exact congrArg (fun x => Ending.returned (.string x)) e2
end Go.Proofs.Ytehagkkmkbjpcaa
