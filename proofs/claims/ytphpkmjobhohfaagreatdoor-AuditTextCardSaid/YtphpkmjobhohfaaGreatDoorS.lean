/- Both texts agree: audit.Text returns the text of the reference, for every kind. -/
import Derived.Test.YtphpkmjobhohfaaGreatDoorR
namespace Go.Proofs.YtphpkmjobhohfaaGreatDoor
open Go.RowKit

theorem ba_eq {a b : ByteArray} (h : a.data.toList = b.data.toList) : a = b := by
  cases a; cases b; congr; exact Array.toList_inj.1 h
theorem app_list (a b : ByteArray) : (a ++ b).data.toList = a.data.toList ++ b.data.toList := by simp
theorem joinB_list (x : ByteArray) (l : List ByteArray) : (joinB (x :: l)).data.toList = x.data.toList ++ Lib.joinTail [32] (l.map (·.data.toList)) := by
  show (Lib.join ((x :: l).map (·.data.toList)) [32]).toArray.toList = _
  rw [List.map_cons, Lib.join_cons]
theorem agree (k id unit sec : Int) (vol name key : ByteArray) (w : World) (ht : Tab w) (hB : Bds id unit sec vol name key) :
    Calls Tryz.prog 5 #[.agg #[.int .i64 k, .string vol, .int .i64 id, .int .i64 unit, .string name, .int .i64 sec, .string key]] w fun e w' => e = .returned (.string (rTextB k id unit sec vol name key)) ∧ Below w.heap.size w w' := by
  by_cases h0 : k = 0
  · subst h0
    refine (text_volume id unit sec vol name key w ht hB).mono ?_
    rintro e w' ⟨rfl, hb⟩
    refine ⟨?_, hb⟩
    congr 2
    apply ba_eq
    simp [joinB_list, rTextB, Lib.joinTail]
  by_cases h1 : k = 1
  · subst h1
    refine (text_sector id unit sec vol name key w ht hB).mono ?_
    rintro e w' ⟨rfl, hb⟩
    refine ⟨?_, hb⟩
    congr 2
    apply ba_eq
    simp [joinB_list, rTextB, Lib.joinTail]
  by_cases h2 : k = 2
  · subst h2
    refine (text_note id unit sec vol name key w ht hB).mono ?_
    rintro e w' ⟨rfl, hb⟩
    refine ⟨?_, hb⟩
    congr 2
    apply ba_eq
    simp [joinB_list, rTextB, Lib.joinTail]
  by_cases h3 : k = 3
  · subst h3
    refine (text_nolabel id unit sec vol name key w ht hB).mono ?_
    rintro e w' ⟨rfl, hb⟩
    refine ⟨?_, hb⟩
    congr 2
    apply ba_eq
    simp [joinB_list, rTextB, Lib.joinTail]
  by_cases h4 : k = 4
  · subst h4
    refine (text_noentry id unit sec vol name key w ht hB).mono ?_
    rintro e w' ⟨rfl, hb⟩
    refine ⟨?_, hb⟩
    congr 2
    apply ba_eq
    simp [joinB_list, rTextB, Lib.joinTail]
  by_cases h5 : k = 5
  · subst h5
    refine (text_twice id unit sec vol name key w ht hB).mono ?_
    rintro e w' ⟨rfl, hb⟩
    refine ⟨?_, hb⟩
    congr 2
    apply ba_eq
    simp [joinB_list, rTextB, Lib.joinTail]
  by_cases h6 : k = 6
  · subst h6
    refine (text_orphan id unit sec vol name key w ht hB).mono ?_
    rintro e w' ⟨rfl, hb⟩
    refine ⟨?_, hb⟩
    congr 2
    apply ba_eq
    simp [joinB_list, rTextB, Lib.joinTail]
  by_cases h7 : k = 7
  · subst h7
    refine (text_behind id unit sec vol name key w ht hB).mono ?_
    rintro e w' ⟨rfl, hb⟩
    refine ⟨?_, hb⟩
    congr 2
    apply ba_eq
    simp [joinB_list, rTextB, Lib.joinTail]
  by_cases h8 : k = 8
  · subst h8
    refine (text_form id unit sec vol name key w ht hB).mono ?_
    rintro e w' ⟨rfl, hb⟩
    refine ⟨?_, hb⟩
    congr 2
    apply ba_eq
    simp [joinB_list, rTextB, Lib.joinTail]
  by_cases h9 : k = 9
  · subst h9
    refine (text_pair id unit sec vol name key w ht hB).mono ?_
    rintro e w' ⟨rfl, hb⟩
    refine ⟨?_, hb⟩
    congr 2
    apply ba_eq
    simp [joinB_list, rTextB, Lib.joinTail]
  by_cases h10 : k = 10
  · subst h10
    refine (text_log id unit sec vol name key w ht hB).mono ?_
    rintro e w' ⟨rfl, hb⟩
    refine ⟨?_, hb⟩
    congr 2
    apply ba_eq
    simp [joinB_list, rTextB, Lib.joinTail]
  have e : rTextB k id unit sec vol name key = ⟨#[]⟩ := by
    unfold rTextB
    rw [if_neg h0, if_neg h1, if_neg h2, if_neg h3, if_neg h4, if_neg h5, if_neg h6, if_neg h7, if_neg h8, if_neg h9, if_neg h10]
  rw [e]
  exact text_none k id unit sec vol name key w (by omega)
end Go.Proofs.YtphpkmjobhohfaaGreatDoor
