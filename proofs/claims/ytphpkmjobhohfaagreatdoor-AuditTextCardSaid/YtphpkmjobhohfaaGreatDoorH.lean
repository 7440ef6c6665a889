/- Text of the reference, for every kind. -/
import Derived.Test.YtphpkmjobhohfaaGreatDoorG
namespace Go.Proofs.YtphpkmjobhohfaaGreatDoor
open Go.RowKit

def rTextB (k id unit sec : Int) (vol name key : ByteArray) : ByteArray :=
  if k = 0 then ⟨#[118, 111, 108, 117, 109, 101, 32]⟩ ++ vol
  else if k = 1 then ⟨#[115, 101, 99, 116, 111, 114, 32]⟩ ++ vol ++ (⟨#[32]⟩ ++ itoaB id) ++ ⟨#[32]⟩ ++ itoaB unit ++ ⟨#[32]⟩ ++ itoaB sec
  else if k = 2 then ⟨#[110, 111, 116, 101, 32]⟩ ++ vol ++ (⟨#[32]⟩ ++ itoaB id) ++ ⟨#[32]⟩ ++ name
  else if k = 3 then ⟨#[110, 111, 108, 97, 98, 101, 108, 32]⟩ ++ vol ++ (⟨#[32]⟩ ++ itoaB id) ++ ⟨#[32]⟩ ++ name
  else if k = 4 then ⟨#[110, 111, 101, 110, 116, 114, 121, 32]⟩ ++ vol ++ (⟨#[32]⟩ ++ itoaB id) ++ ⟨#[32]⟩ ++ name
  else if k = 5 then ⟨#[116, 119, 105, 99, 101, 32]⟩ ++ vol ++ (⟨#[32]⟩ ++ itoaB id) ++ ⟨#[32]⟩ ++ name
  else if k = 6 then ⟨#[111, 114, 112, 104, 97, 110, 32]⟩ ++ vol ++ (⟨#[32]⟩ ++ itoaB id) ++ ⟨#[32]⟩ ++ itoaB unit
  else if k = 7 then ⟨#[98, 101, 104, 105, 110, 100, 32]⟩ ++ vol ++ (⟨#[32]⟩ ++ itoaB id) ++ ⟨#[32]⟩ ++ itoaB unit
  else if k = 8 then ⟨#[102, 111, 114, 109, 32]⟩ ++ vol ++ (⟨#[32]⟩ ++ itoaB id) ++ ⟨#[32]⟩ ++ name
  else if k = 9 then ⟨#[112, 97, 105, 114, 32]⟩ ++ vol ++ (⟨#[32]⟩ ++ itoaB id) ++ ⟨#[32]⟩ ++ name ++ ⟨#[32]⟩ ++ hexT key key.size
  else if k = 10 then ⟨#[108, 111, 103, 32]⟩ ++ itoaB sec
  else ⟨#[]⟩

theorem rText_any (k id unit sec : Int) (vol name key : ByteArray) (w : World) (hv : vol.size ≤ 60) (hn : name.size ≤ 60) (hk : key.size ≤ 60) (hi0 : -9223372036854775807 ≤ id) (hi1 : id ≤ 9223372036854775807) (hu0 : -9223372036854775807 ≤ unit) (hu1 : unit ≤ 9223372036854775807) (hs0 : -9223372036854775807 ≤ sec) (hs1 : sec ≤ 9223372036854775807) :
    Calls Tryz.prog 6 #[.agg #[.int .i64 k, .string vol, .int .i64 id, .int .i64 unit, .string name, .int .i64 sec, .string key]] w fun e w' => e = .returned (.string (rTextB k id unit sec vol name key)) ∧ Below w.heap.size w w' := by
  by_cases h0 : k = 0
  · subst h0
    exact rText_volume vol name key id unit sec w hv hi0 hi1
  by_cases h1 : k = 1
  · subst h1
    exact rText_sector vol name key id unit sec w hv hi0 hi1 hu0 hu1 hs0 hs1
  by_cases h2 : k = 2
  · subst h2
    exact rText_note vol name key id unit sec w hv hn hi0 hi1
  by_cases h3 : k = 3
  · subst h3
    exact rText_nolabel vol name key id unit sec w hv hn hi0 hi1
  by_cases h4 : k = 4
  · subst h4
    exact rText_noentry vol name key id unit sec w hv hn hi0 hi1
  by_cases h5 : k = 5
  · subst h5
    exact rText_twice vol name key id unit sec w hv hn hi0 hi1
  by_cases h6 : k = 6
  · subst h6
    exact rText_orphan vol name key id unit sec w hv hi0 hi1 hu0 hu1
  by_cases h7 : k = 7
  · subst h7
    exact rText_behind vol name key id unit sec w hv hi0 hi1 hu0 hu1
  by_cases h8 : k = 8
  · subst h8
    exact rText_form vol name key id unit sec w hv hn hi0 hi1
  by_cases h9 : k = 9
  · subst h9
    exact rText_pair vol name key id unit sec w hv hn hk hi0 hi1
  by_cases h10 : k = 10
  · subst h10
    exact rText_log vol name key id unit sec w hi0 hi1 hs0 hs1
  have e : rTextB k id unit sec vol name key = ⟨#[]⟩ := by
    unfold rTextB
    rw [if_neg h0, if_neg h1, if_neg h2, if_neg h3, if_neg h4, if_neg h5, if_neg h6, if_neg h7, if_neg h8, if_neg h9, if_neg h10]
  rw [e]
  exact rText_none k vol name key id unit sec w (by omega) hi0 hi1
end Go.Proofs.YtphpkmjobhohfaaGreatDoor
