/- The insertion sort of the library, over a list: it is sortB. -/
import Derived.Test.YtpklgdclknicjaaGreatDoorHA
import Derived.Sort.Defs
namespace Go.Proofs.YtpklgdclknicjaaGreatDoor
open Go.Sort

section
variable {α : Type} [Inhabited α] {lt : α → α → Bool}
theorem swp_list {d : Array α} {p s : List α} {x y : α} (h : d.toList = p ++ y :: x :: s) : (swp d (p.length + 1) p.length).toList = p ++ x :: y :: s := by
  obtain ⟨l⟩ := d
  simp only at h
  subst h
  have e1 : (p ++ y :: x :: s).toArray[p.length]! = y := by simp
  have e2 : (p ++ y :: x :: s).toArray[p.length + 1]! = x := by
    simp
  unfold swp
  rw [e1, e2]
  simp only [List.setIfInBounds_toArray, List.toList_toArray]
  apply List.ext_getElem?
  intro i
  simp only [List.getElem?_set, List.getElem?_append, List.length_set, List.length_append, List.length_cons]
  rcases Nat.lt_trichotomy i p.length with h | h | h
  · rw [if_neg (by omega), if_neg (by omega), if_pos h, if_pos h]
  · subst h
    simp
  · rcases Nat.lt_trichotomy i (p.length + 1) with h' | h' | h'
    · omega
    · subst h'
      simp
    · rw [if_neg (by omega), if_neg (by omega), if_neg (by omega), if_neg (by omega)]
      obtain ⟨k, rfl⟩ : ∃ k, i = p.length + 2 + k := ⟨i - (p.length + 2), by omega⟩
      have : p.length + 2 + k - p.length = k + 2 := by omega
      rw [this]; rfl
theorem insInner_list : ∀ (j : Nat) (p : List α) (x : α) (s : List α) (d : Array α), p.length = j → d.toList = p ++ x :: s → (insInner lt 0 j d).toList = insB lt x p ++ s
  | 0, p, x, s, d, hp, hd => by
    have : p = [] := List.eq_nil_of_length_eq_zero hp
    subst this
    unfold insInner
    simpa [insB, insRev] using hd
  | j + 1, p, x, s, d, hp, hd => by
    obtain ⟨q, y, rfl⟩ : ∃ q y, p = q ++ [y] := ⟨p.dropLast, p.getLast (by intro h; subst h; simp at hp), (List.dropLast_concat_getLast _).symm⟩
    have hq : q.length = j := by simpa using hp
    have hd' : d.toList = q ++ y :: x :: s := by simpa using hd
    have e1 : d[j]! = y := by
      obtain ⟨l⟩ := d
      simp only at hd'
      subst hd'
      rw [← hq]
      simp
    have e2 : d[j + 1]! = x := by
      obtain ⟨l⟩ := d
      simp only at hd'
      subst hd'
      rw [← hq]
      simp
    unfold insInner
    rw [e1, e2]
    have hr : insB lt x (q ++ [y]) = if lt x y then insB lt x q ++ [y] else q ++ [y] ++ [x] := by
      unfold insB
      rw [List.reverse_append]
      show ((if lt x y then _ else _ : List α)).reverse = _
      split <;> simp
    by_cases hl : lt x y = true
    · rw [if_pos (by simp [hl]), hr, if_pos hl]
      have hs := swp_list (d := d) (p := q) (s := s) (x := x) (y := y) hd'
      rw [hq] at hs
      rw [insInner_list j q x (y :: s) _ hq hs]
      simp
    · rw [if_neg (by simp [hl]), hr, if_neg hl, hd']
      simp
theorem insOuter_list (n : Nat) : ∀ (m i : Nat) (a b : List α) (d : Array α), n - i = m → a.length = i → i ≤ n → d.toList = a ++ b → d.size = n → (insOuter lt 0 n i d).toList = sortB lt a b
  | 0, i, a, b, d, hm, ha, hi, hd, hs => by
    have hl : a.length + b.length = n := by rw [← hs, ← Array.length_toList, hd, List.length_append]
    have : b = [] := List.eq_nil_of_length_eq_zero (by omega)
    subst this
    rw [insOuter, if_neg (by omega), hd]
    simp [sortB]
  | m + 1, i, a, b, d, hm, ha, hi, hd, hs => by
    have hl : a.length + b.length = n := by rw [← hs, ← Array.length_toList, hd, List.length_append]
    match b, hd with
    | [], _ => simp at hl; omega
    | x :: b, hd =>
      have h1 := insInner_list (lt := lt) i a x b d ha hd
      rw [insOuter, if_pos (by omega)]
      have h2 : (insInner lt 0 i d).size = n := by
        rw [← Array.length_toList, h1, List.length_append, insB_len]
        simp at hl
        omega
      exact insOuter_list n m (i + 1) (insB lt x a) b _ (by omega) (by rw [insB_len, ha]) (by omega) h1 h2
/-- the library's insertion sort over a list -/
theorem insertionSort_list (l : List α) : (insertionSort lt l.toArray 0 l.length).toList = sortB lt [] l := by
  unfold insertionSort
  cases l with
  | nil => rw [insOuter, if_neg (by simp)]; rfl
  | cons x l =>
    have := insOuter_list (lt := lt) (l.length + 1) l.length 1 [x] l (x :: l).toArray (by omega) rfl (by omega) rfl (by simp)
    simpa [sortB, insB, insRev] using this
end
end Go.Proofs.YtpklgdclknicjaaGreatDoor
