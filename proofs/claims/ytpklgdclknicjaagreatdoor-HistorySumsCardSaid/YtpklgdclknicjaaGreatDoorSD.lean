/- HistorySums: a map that counts, as a datum. No program in sight. -/
import Derived.Test.YtpklgdclknicjaaGreatDoorSA
import Derived.Maps.Views
import Derived.Lib.SlKeysI
namespace Go.Proofs.YtpklgdclknicjaaGreatDoor
open Go.RowKit Go.Maps

theorem keyI (k : Int) : WideAt.IsKeyLit (.int .i64 k) := trivial
/-- the map of the counts, from the last key to the first -/
def dR : List Int → DataW Unit
  | [] => .map []
  | k :: r => (dR r).put (.int .i64 k) (.lit (.int .i64 ((r.count k + 1 : Nat) : Int)))
def dCnt (ks : List Int) : DataW Unit := dR ks.reverse
theorem dR_tidy : ∀ r, Tidy (dR r)
  | [] => tidy_empty
  | k :: r => (dR_tidy r).put (keyI k) _
theorem dR_at (k : Int) : ∀ r, (dR r).atKey (.int .i64 k) (.lit (.int .i64 0)) = .lit (.int .i64 ((r.count k : Nat) : Int))
  | [] => rfl
  | x :: r => by
    by_cases h : x = k
    · subst h
      show ((dR r).put _ _).atKey _ _ = _
      rw [atKey_put_same (dR_tidy r).isMap (keyI _), List.count_cons_self]
    · show ((dR r).put _ _).atKey _ _ = _
      rw [atKey_put_other (by intro e; injection e with _ e; exact h e.symm), dR_at k r, List.count_cons_of_ne h]
theorem dR_has (k : Int) : ∀ r, has (dR r) (.int .i64 k) = true ↔ k ∈ r
  | [] => by simp [dR, has_eq]
  | x :: r => by
    by_cases h : x = k
    · subst h
      show has ((dR r).put _ _) _ = true ↔ _
      rw [has_put_same (dR_tidy r).isMap (keyI _)]
      simp
    · show has ((dR r).put _ _) _ = true ↔ _
      rw [has_put_other (by intro e; injection e with _ e; exact h e.symm), dR_has k r, List.mem_cons]
      constructor
      · exact .inr
      · rintro (e | e)
        · exact absurd e.symm h
        · exact e
theorem dCnt_nil : dCnt [] = .map [] := rfl
theorem dCnt_snoc (ks : List Int) (k : Int) : dCnt (ks ++ [k]) = (dCnt ks).put (.int .i64 k) (.lit (.int .i64 ((ks.count k + 1 : Nat) : Int))) := by
  unfold dCnt
  rw [List.reverse_append, List.reverse_singleton, List.singleton_append]
  show (dR ks.reverse).put _ (.lit (.int .i64 ((ks.reverse.count k + 1 : Nat) : Int))) = _
  rw [List.count_reverse]
theorem dCnt_at (ks : List Int) (k : Int) : (dCnt ks).atKey (.int .i64 k) (.lit (.int .i64 0)) = .lit (.int .i64 ((ks.count k : Nat) : Int)) := by
  unfold dCnt
  rw [dR_at, List.count_reverse]
theorem dCnt_has (ks : List Int) (k : Int) : has (dCnt ks) (.int .i64 k) = true ↔ k ∈ ks := by
  unfold dCnt
  rw [dR_has, List.mem_reverse]
theorem dCnt_tidy (ks : List Int) : Tidy (dCnt ks) := dR_tidy _
theorem cntK_count (l : List Ev) (k : Int) : cntK l k = (l.map Ev.kind).count k := by
  unfold cntK
  rw [List.count_eq_countP, List.countP_map]
  congr 1
/-- the keys of the counting map, sorted, are the set of the numbers counted -/
theorem keys_sorted {ks ss : List Int} (hnd : ss.Nodup) (hm : ∀ x, x ∈ ss ↔ x ∈ ks) : (ss.mergeSort fun x y => decide (x ≤ y)) = setB [] ks := by
  refine up_ext (sort_up hnd) (setB_up _ _ List.Pairwise.nil) fun z => ?_
  rw [mem_setB, (List.mergeSort_perm ss _).mem_iff, hm]
  simp
end Go.Proofs.YtpklgdclknicjaaGreatDoor
