/- Plain facts on byte strings. -/
import Derived.Laws.Strings
import Derived.Lib.Strings
namespace Go.Proofs.YtpklgdclknicjaaGreatDoor

theorem ba_ext {a b : ByteArray} (h : a.data.toList = b.data.toList) : a = b := by
  apply ByteArray.ext; exact Array.toList_inj.1 h
theorem ba_len (a : ByteArray) : a.data.toList.length = a.size := by rw [Array.length_toList]; rfl
theorem ba_app (a b : ByteArray) : (a ++ b).data.toList = a.data.toList ++ b.data.toList := by simp
theorem ba_extract (d : ByteArray) (a b : Nat) : (d.extract a b).data.toList = (d.data.toList.drop a).take (b - a) := by
  rw [ByteArray.data_extract, Array.toList_extract, List.extract_eq_take_drop]
theorem ba_list (d : ByteArray) : d.toList = d.data.toList := ByteArray.toList_eq d
theorem ba_get (t : ByteArray) (i : Nat) (h : i < t.size) : t.data.toList[i]? = some t[i] := by
  rw [List.getElem?_eq_getElem (by rw [ba_len]; exact h)]; rfl
theorem empty_list {d : ByteArray} (h : d.size = 0) : d.toList.isEmpty = true ∧ d.toList = [] := by
  have : d.toList = [] := by rw [ba_list]; apply List.eq_nil_of_length_eq_zero; rw [ba_len]; exact h
  exact ⟨by rw [this]; rfl, this⟩
theorem full_list {d : ByteArray} (h : d.size ≠ 0) : d.toList.isEmpty = false ∧ ¬ d.toList = [] := by
  have : ¬ d.toList = [] := by
    intro e
    have := ba_len d
    rw [← ba_list, e] at this
    simp at this; omega
  exact ⟨by simpa using this, this⟩
theorem nil_app (x : ByteArray) : (⟨#[]⟩ : ByteArray) ++ x = x := by apply ba_ext; rw [ba_app]; rfl
theorem extract_all (d : ByteArray) : d.extract 0 d.size = d := by simp
theorem ba_inj {a b : ByteArray} (h : a.toList = b.toList) : a = b := ba_ext (by rw [← ba_list, ← ba_list]; exact h)
theorem beq_same (a : ByteArray) : (a.toList == a.toList) = true := by simp
theorem beq_ba (a b : ByteArray) : (a.toList == b.toList) = decide (a = b) := by
  by_cases h : a = b
  · subst h; simp
  · rw [decide_eq_false h]; simp; exact fun e => h (ba_inj e)
theorem ba_empty {d : ByteArray} (h : d.size = 0) : d = ⟨#[]⟩ := by
  apply ba_ext; apply List.eq_nil_of_length_eq_zero; rw [ba_len]; exact h

/-- the order of strings -/
def lessB (a b : ByteArray) : Bool := Op.bytesLess a.toList b.toList
theorem u8_tri (a b : UInt8) : (a < b ∧ ¬ b < a ∧ a ≠ b) ∨ (a = b ∧ ¬ a < b ∧ ¬ b < a) ∨ (b < a ∧ ¬ a < b ∧ a ≠ b) := by
  rcases Nat.lt_trichotomy a.toNat b.toNat with h | h | h
  · exact .inl ⟨UInt8.lt_iff_toNat_lt.2 h, fun k => by have := UInt8.lt_iff_toNat_lt.1 k; omega, fun e => by subst e; omega⟩
  · exact .inr (.inl ⟨UInt8.toNat_inj.1 h, fun k => by have := UInt8.lt_iff_toNat_lt.1 k; omega, fun k => by have := UInt8.lt_iff_toNat_lt.1 k; omega⟩)
  · exact .inr (.inr ⟨UInt8.lt_iff_toNat_lt.2 h, fun k => by have := UInt8.lt_iff_toNat_lt.1 k; omega, fun e => by subst e; omega⟩)
theorem bl_total : ∀ x y : List UInt8, Op.bytesLess y x = !(Op.bytesLess x y || x == y)
  | [], [] => rfl
  | [], _ :: _ => by simp [Op.bytesLess]
  | _ :: _, [] => by simp [Op.bytesLess]
  | a :: x, b :: y => by
    have ih := bl_total x y
    rcases u8_tri a b with ⟨h1, h2, h3⟩ | ⟨rfl, h1, h2⟩ | ⟨h1, h2, h3⟩
    · simp [Op.bytesLess, h1, h2, Ne.symm h3]
    · simp [Op.bytesLess, h1, ih]
    · simp [Op.bytesLess, h1, h2, h3]
theorem bl_trans : ∀ x y z : List UInt8, Op.bytesLess x y = true → Op.bytesLess y z = true → Op.bytesLess x z = true
  | _, _, [], _, h => by simp [Op.bytesLess] at h
  | [], _, _ :: _, _, _ => by simp [Op.bytesLess]
  | _ :: _, [], _ :: _, h, _ => by simp [Op.bytesLess] at h
  | a :: x, b :: y, c :: z, h, k => by
    simp only [Op.bytesLess, Bool.or_eq_true, decide_eq_true_eq, Bool.and_eq_true, beq_iff_eq] at h k ⊢
    rcases h with h | ⟨rfl, h⟩
    · rcases k with k | ⟨rfl, k⟩
      · left; have := UInt8.lt_iff_toNat_lt.1 h; have := UInt8.lt_iff_toNat_lt.1 k; exact UInt8.lt_iff_toNat_lt.2 (by omega)
      · exact .inl h
    · rcases k with k | ⟨rfl, k⟩
      · exact .inl k
      · exact .inr ⟨rfl, bl_trans x y z h k⟩
theorem less_total (a b : ByteArray) : lessB b a = !(lessB a b || decide (a = b)) := by
  unfold lessB; rw [bl_total, beq_ba]
theorem less_trans {a b c : ByteArray} (h : lessB a b = true) (k : lessB b c = true) : lessB a c = true := bl_trans _ _ _ h k
theorem less_irrefl (a : ByteArray) : lessB a a = false := by have := less_total a a; cases h : lessB a a <;> simp_all
/-- the four tests as the walk writes them -/
theorem leq_is (a b : ByteArray) : (Op.bytesLess a.toList b.toList || a.toList == b.toList) = !lessB b a := by
  rw [less_total]; unfold lessB; rw [beq_ba]; simp
theorem less_no {a b : ByteArray} (h : lessB b a = true) : Op.bytesLess a.toList b.toList = false ∧ (a.toList == b.toList) = false ∧ ¬ a.toList = b.toList := by
  rw [less_total] at h
  have h' : lessB a b = false ∧ decide (a = b) = false := by cases k : lessB a b <;> cases k' : decide (a = b) <;> simp_all
  refine ⟨h'.1, by rw [beq_ba]; exact h'.2, fun e => ?_⟩
  have : a = b := ba_inj e
  simp [this] at h'
theorem less_yes {a b : ByteArray} (h : lessB b a = false) : Op.bytesLess a.toList b.toList = true ∨ a = b := by
  rw [less_total] at h
  cases k : lessB a b with
  | true => exact .inl k
  | false => rw [k] at h; right; simpa using h
end Go.Proofs.YtpklgdclknicjaaGreatDoor
