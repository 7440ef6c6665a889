/- Plain laws of an insertion. -/
import Derived.Test.YtjfinkfikebjbaaId
namespace Go.Proofs.Ytjfinkfikebjbaa

section
variable {es : List Ent} {i : Nat} (h : i < es.length) (x : ByteArray) (p : Int)
include h
theorem insP_len : (insP es i x p).length = es.length + 1 := by unfold insP; simp; omega
theorem insP_lt {t : Nat} (ht : t < i) : entAt (insP es i x p) t = entAt es t := by
  unfold insP
  generalize entAt es i = e
  unfold entAt
  rw [List.getD_eq_getElem?_getD, List.getElem?_append_left (by simp; omega), List.getElem?_take, if_pos ht, ← List.getD_eq_getElem?_getD]
theorem insP_at : entAt (insP es i x p) i = (x, (entAt es i).2) := by
  unfold insP
  generalize entAt es i = e
  unfold entAt
  rw [List.getD_eq_getElem?_getD, List.getElem?_append_right (by simp; omega), List.length_take, Nat.min_eq_left (by omega), Nat.sub_self]
  rfl
theorem insP_gt {t : Nat} (ht : i + 1 < t) : entAt (insP es i x p) t = entAt es (t - 1) := by
  unfold insP
  generalize entAt es i = e
  unfold entAt
  rw [List.getD_eq_getElem?_getD, List.getElem?_append_right (by simp; omega), List.length_take, Nat.min_eq_left (by omega), show t - i = (t - i - 2) + 1 + 1 from by omega, List.getElem?_cons_succ, List.getElem?_cons_succ, List.getElem?_drop,
    show i + 1 + (t - i - 2) = t - 1 from by omega, ← List.getD_eq_getElem?_getD]
theorem insP_next : entAt (insP es i x p) (i + 1) = ((entAt es i).1, p) := by
  unfold insP
  generalize entAt es i = e
  unfold entAt
  rw [List.getD_eq_getElem?_getD, List.getElem?_append_right (by simp; omega), List.length_take, Nat.min_eq_left (by omega), show i + 1 - i = 0 + 1 from by omega, List.getElem?_cons_succ]
  rfl
end

theorem insErr_why {lv nx : Int} {es : List Ent} {x : ByteArray} {p : Int} (hp : plainB lv nx es = true) (hn : insErr lv nx es (findN es x : Int) x p ≠ 0) :
    x.size = 0 ∨ 32 < x.size ∨ p < 1 ∨ 16777216 < p ∨ es.length = 120 ∨ (0 < findN es x ∧ (entAt es (findN es x - 1)).1 = x) := by
  have hl := plain_len hp
  obtain ⟨h1, h2, h3, h4, h5, h6, h7⟩ := plain_yes hp
  obtain ⟨m, hm⟩ : ∃ m, es.length = m + 1 := ⟨es.length - 1, by omega⟩
  obtain ⟨a, b, c⟩ := isF_find (es := es) x (by omega)
  unfold insErr at hn
  split at hn
  · split at hn
    · rename_i h
      rw [Int.toNat_natCast] at h
      rcases h with h | h | h | h
      · exact .inl h
      · exact .inr (.inl h)
      · have k := c (findN es x - 1) (by omega)
        have e := less_total (entAt es (findN es x - 1)).1 x
        rw [h.2, k] at e
        simp at e
        exact .inr (.inr (.inr (.inr (.inr ⟨by omega, e⟩))))
      · exfalso
        rcases b with b | b
        · have q := (entB_parts (es := es) (j := findN es x) hm).1 (h7 _ a)
          exact h.1 (q.2.2.1.2 (by omega))
        · rw [h.2] at b; cases b
    · split at hn
      · rename_i h
        exact .inr (.inr (.inr (.inr (.inl h))))
      · exact absurd rfl hn
  · rename_i h
    by_cases q1 : p < 1
    · exact .inr (.inr (.inl q1))
    · by_cases q2 : 16777216 < p
      · exact .inr (.inr (.inr (.inl q2)))
      · exact absurd ⟨hp, ⟨by omega, by omega⟩, by omega, by omega⟩ h

theorem ins_plain {lv nx : Int} {es : List Ent} {i : Nat} {x : ByteArray} {p : Int} (he : insErr lv nx es (i : Int) x p = 0) : i < es.length ∧ es.length + 1 ≤ 120 ∧ plainB lv nx (insP es i x p) = true := by
  obtain ⟨hp, ⟨p1, p2⟩, k, hk, hi, x0, x3, hz, hy, n0⟩ := insErr_ok he
  obtain rfl : i = k := by omega
  obtain ⟨h1, h2, h3, h4, h5, h6, h7⟩ := plain_yes hp
  obtain ⟨m, hm⟩ : ∃ m, es.length = m + 1 := ⟨es.length - 1, by omega⟩
  refine ⟨hi, by omega, plain_mk (m := m + 1) (by rw [insP_len hi, hm]) (by omega) h3 h4 h5 h6 fun t ht => ?_⟩
  have q : ∀ j, j < es.length → _ := fun j hj => (entB_parts (es := es) (j := j) hm).1 (h7 j hj)
  rcases Nat.lt_trichotomy t i with hlt | rfl | hgt
  · rw [insP_lt hi x p hlt, insP_lt hi x p (show t - 1 < i by omega)]
    have qq := q t (by omega)
    refine ⟨qq.1, qq.2.1, ⟨fun e => by have := qq.2.2.1.1 e; omega, fun e => by omega⟩, ?_⟩
    rcases qq.2.2.2 with e | e | e
    · exact .inl e
    · omega
    · exact .inr (.inr e)
  · rw [insP_at hi]
    have qq := q t hi
    refine ⟨qq.1, x3, ⟨fun e => absurd e x0, fun e => by omega⟩, ?_⟩
    by_cases h0 : t = 0
    · exact .inl h0
    · rw [insP_lt hi x p (show t - 1 < t by omega)]
      exact .inr (.inr (hz (by omega)))
  · by_cases hn : t = i + 1
    · subst hn
      rw [insP_next hi, Nat.add_sub_cancel, insP_at hi]
      have qq := q i hi
      refine ⟨⟨p1, p2⟩, qq.2.1, ⟨fun e => by have := qq.2.2.1.1 e; omega, fun e => qq.2.2.1.2 (by omega)⟩, ?_⟩
      rcases hy with e | e
      · exact .inr (.inl (by have := qq.2.2.1.1 e; omega))
      · exact .inr (.inr e)
    · rw [insP_gt hi x p (by omega)]
      have qq := q (t - 1) (by omega)
      refine ⟨qq.1, qq.2.1, ⟨fun e => by have := qq.2.2.1.1 e; omega, fun e => qq.2.2.1.2 (by omega)⟩, ?_⟩
      have hbef : (entAt (insP es i x p) (t - 1)).1 = (entAt es (t - 1 - 1)).1 := by
        by_cases h2 : t = i + 2
        · subst h2
          rw [show i + 2 - 1 = i + 1 from by omega, insP_next hi, Nat.add_sub_cancel]
        · rw [insP_gt hi x p (by omega)]
      rw [hbef]
      rcases qq.2.2.2 with e | e | e
      · omega
      · exact .inr (.inl (by omega))
      · exact .inr (.inr e)

theorem ins_page {lv nx : Int} {es : List Ent} {x : ByteArray} {p : Int} (he : insErr lv nx es (findN es x : Int) x p = 0) (k : ByteArray) :
    pageI (insP es (findN es x) x p) k = if findN es k = findN es x ∧ lessB k x = false then p else pageI es k := by
  obtain ⟨hi, _, _⟩ := ins_plain he
  obtain ⟨a, b, c⟩ := isF_find (es := es) x (by omega)
  obtain ⟨a', b', c'⟩ := isF_find (es := es) k (by omega)
  have hpg : pageI es k = (entAt es (findN es k)).2 := rfl
  generalize findN es x = i at *
  generalize findN es k = j at *
  rcases Nat.lt_trichotomy j i with hlt | rfl | hgt
  · have hf : IsF (insP es i x p) k j := by
      refine ⟨by rw [insP_len hi]; omega, .inr ?_, fun t ht => ?_⟩
      · rw [insP_lt hi x p hlt]
        rcases b' with e | e
        · omega
        · exact e
      · rw [insP_lt hi x p (by omega)]; exact c' t ht
    rw [if_neg (fun e => by omega), hpg, pageI, isF_is hf, insP_lt hi x p hlt]
  · cases hkx : lessB k x with
    | true =>
      have hf : IsF (insP es j x p) k j := by
        refine ⟨by rw [insP_len hi]; omega, .inr (by rw [insP_at hi]; exact hkx), fun t ht => ?_⟩
        rw [insP_lt hi x p (by omega)]; exact c' t ht
      rw [if_neg (fun e => by cases e.2), hpg, pageI, isF_is hf, insP_at hi]
    | false =>
      have hf : IsF (insP es j x p) k (j + 1) := by
        refine ⟨by rw [insP_len hi]; omega, ?_, fun t ht => ?_⟩
        · rw [insP_len hi, insP_next hi]
          rcases b' with e | e
          · exact .inl (by omega)
          · exact .inr e
        · by_cases h1 : t = j
          · subst h1; rw [insP_at hi]; exact hkx
          · rw [insP_lt hi x p (by omega)]; exact c' t (by omega)
      rw [if_pos ⟨rfl, rfl⟩, pageI, isF_is hf, insP_next hi]
  · have hxi : lessB x (entAt es i).1 = true := by
      rcases b with e | e
      · omega
      · exact e
    have hkx : lessB k x = false := by
      cases hq : lessB k x with
      | false => rfl
      | true =>
        have := less_trans hq hxi
        rw [c' i hgt] at this; cases this
    have hf : IsF (insP es i x p) k (j + 1) := by
      refine ⟨by rw [insP_len hi]; omega, ?_, fun t ht => ?_⟩
      · rw [insP_len hi, insP_gt hi x p (by omega), Nat.add_sub_cancel]
        rcases b' with e | e
        · exact .inl (by omega)
        · exact .inr e
      · rcases Nat.lt_trichotomy t i with h1 | rfl | h1
        · rw [insP_lt hi x p h1]; exact c' t (by omega)
        · rw [insP_at hi]; exact hkx
        · by_cases h2 : t = i + 1
          · subst h2; rw [insP_next hi]; exact c' i hgt
          · rw [insP_gt hi x p (by omega)]; exact c' (t - 1) (by omega)
    rw [if_neg (fun e => by omega), hpg, pageI, isF_is hf, insP_gt hi x p (by omega), Nat.add_sub_cancel]
end Go.Proofs.Ytjfinkfikebjbaa
