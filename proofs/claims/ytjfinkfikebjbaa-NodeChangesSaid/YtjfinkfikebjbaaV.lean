/- Plain laws: the entry to which a key is led, in a node, in its halves, and behind an insertion. -/
import Derived.Test.YtjfinkfikebjbaaU
namespace Go.Proofs.Ytjfinkfikebjbaa

/-- entry i is the one to which k is led -/
def IsF (es : List Ent) (k : ByteArray) (i : Nat) : Prop :=
  i < es.length ∧ (i + 1 = es.length ∨ lessB k (entAt es i).1 = true) ∧ ∀ t, t < i → lessB k (entAt es t).1 = false
def findN (es : List Ent) (k : ByteArray) : Nat := if fidx es k < es.length then fidx es k else es.length - 1
def pageI (es : List Ent) (k : ByteArray) : Int := (entAt es (findN es k)).2

theorem entAt_lt {es : List Ent} {i : Nat} (h : i < es.length) : es[i]? = some (entAt es i) := by
  unfold entAt; rw [List.getD_eq_getElem?_getD, List.getElem?_eq_getElem h]; rfl
theorem isF_find {es : List Ent} (k : ByteArray) (h1 : 1 ≤ es.length) : IsF es k (findN es k) := by
  unfold findN
  split
  · rename_i hlt
    exact ⟨hlt, .inr (fidx_at (entAt_lt hlt)), fun t ht => fidx_under ht (entAt_lt (by omega))⟩
  · rename_i hlt
    have := fidx_le es k
    exact ⟨by omega, .inl (by omega), fun t ht => fidx_under (by omega) (entAt_lt (by omega))⟩
theorem isF_one {es : List Ent} {k : ByteArray} {i j : Nat} (h : IsF es k i) (g : IsF es k j) : i = j := by
  obtain ⟨a, b, c⟩ := h
  obtain ⟨a', b', c'⟩ := g
  rcases Nat.lt_trichotomy i j with h | h | h
  · rcases b with b | b
    · omega
    · rw [c' i h] at b; cases b
  · exact h
  · rcases b' with b | b
    · omega
    · rw [c j h] at b; cases b
theorem isF_is {es : List Ent} {k : ByteArray} {i : Nat} (h : IsF es k i) : findN es k = i := isF_one (isF_find k (by have := h.1; omega)) h
theorem findI_N {es : List Ent} (k : ByteArray) (h1 : 1 ≤ es.length) : findI es k = (findN es k : Int) := by
  unfold findI findN
  split
  · rfl
  · omega

theorem entB_parts {es : List Ent} {m j : Nat} (hl : es.length = m + 1) :
    entB es j = true ↔ (1 ≤ (entAt es j).2 ∧ (entAt es j).2 ≤ 16777216) ∧ (entAt es j).1.size ≤ 32 ∧ ((entAt es j).1.size = 0 ↔ j = m) ∧ (j = 0 ∨ j = m ∨ lessB (entAt es (j - 1)).1 (entAt es j).1 = true) :=
  entB_iff (x := (entAt es j).1) (p := (entAt es j).2) rfl hl
theorem ent_sorted {lv nx : Int} {es : List Ent} (hp : plainB lv nx es = true) {t : Nat} : ∀ d, t + d + 1 < es.length → 0 < d → lessB (entAt es t).1 (entAt es (t + d)).1 = true := by
  obtain ⟨h1, h2, h3, h4, h5, h6, h7⟩ := plain_yes hp
  obtain ⟨m, hm⟩ : ∃ m, es.length = m + 1 := ⟨es.length - 1, by omega⟩
  have step : ∀ i, i + 2 < es.length → lessB (entAt es i).1 (entAt es (i + 1)).1 = true := by
    intro i hi
    have := ((entB_parts (es := es) (j := i + 1) hm).1 (h7 (i + 1) (by omega))).2.2.2
    rcases this with h | h | h
    · omega
    · omega
    · simpa using h
  intro d
  induction d with
  | zero => intro _ h; omega
  | succ d ih =>
    intro hd _
    by_cases h0 : d = 0
    · subst h0; exact step t (by omega)
    · exact less_trans (ih (by omega) (by omega)) (step (t + d) (by omega))
theorem ent_sorted' {lv nx : Int} {es : List Ent} (hp : plainB lv nx es = true) {t u : Nat} (htu : t < u) (hu : u + 1 < es.length) : lessB (entAt es t).1 (entAt es u).1 = true := by
  have := ent_sorted hp (t := t) (u - t) (by omega) (by omega)
  rwa [show t + (u - t) = u from by omega] at this

theorem left_len {es : List Ent} (h : 2 ≤ es.length) : (leftE es).length = halfN es := by
  unfold leftE halfN; simp; omega
theorem right_len {es : List Ent} : (rightE es).length = es.length - halfN es := by
  unfold rightE; simp
theorem left_at {es : List Ent} (h : 2 ≤ es.length) {i : Nat} (hi : i + 1 < halfN es) : entAt (leftE es) i = entAt es i := by
  have hh : halfN es ≤ es.length := by unfold halfN; omega
  unfold leftE entAt
  rw [List.getD_eq_getElem?_getD, List.getElem?_append_left (by simp; omega), List.getElem?_take, if_pos (by omega), ← List.getD_eq_getElem?_getD]
theorem left_last {es : List Ent} (h : 2 ≤ es.length) : entAt (leftE es) (halfN es - 1) = (⟨#[]⟩, (entAt es (halfN es - 1)).2) := by
  have hh : halfN es ≤ es.length := by unfold halfN; omega
  have e : (es.take (halfN es - 1)).length = halfN es - 1 := by simp; omega
  unfold leftE
  generalize (entAt es (halfN es - 1)).2 = p
  unfold entAt
  rw [List.getD_eq_getElem?_getD, List.getElem?_append_right (by omega), e]
  simp
theorem right_at {es : List Ent} (i : Nat) : entAt (rightE es) i = entAt es (halfN es + i) := by
  unfold rightE entAt
  rw [List.getD_eq_getElem?_getD, List.getElem?_drop, ← List.getD_eq_getElem?_getD]

theorem plain_mk {lv nx : Int} {es : List Ent} {m : Nat} (hm : es.length = m + 1) (hl : m + 1 ≤ 120) (a : 0 ≤ lv) (b : lv ≤ 6) (c : 0 ≤ nx) (d : nx ≤ 16777216)
    (h : ∀ i, i ≤ m → (1 ≤ (entAt es i).2 ∧ (entAt es i).2 ≤ 16777216) ∧ (entAt es i).1.size ≤ 32 ∧ ((entAt es i).1.size = 0 ↔ i = m) ∧ (i = 0 ∨ i = m ∨ lessB (entAt es (i - 1)).1 (entAt es i).1 = true)) : plainB lv nx es = true := by
  unfold plainB
  simp only [Bool.and_eq_true, headB, decide_eq_true_eq, List.all_eq_true, List.mem_range]
  exact ⟨⟨by omega, by omega, a, b, c, d⟩, fun i hi => (entB_parts hm).2 (h i (by omega))⟩

theorem left_plain {lv nx : Int} {es : List Ent} (hp : plainB lv nx es = true) (h : 2 ≤ es.length) : plainB lv 0 (leftE es) = true := by
  obtain ⟨h1, h2, h3, h4, h5, h6, h7⟩ := plain_yes hp
  obtain ⟨m, hm⟩ : ∃ m, es.length = m + 1 := ⟨es.length - 1, by omega⟩
  have hh : halfN es < es.length ∧ 1 ≤ halfN es := by unfold halfN; omega
  have hll := left_len h
  refine plain_mk (m := halfN es - 1) (by omega) (by omega) h3 h4 (by omega) (by omega) fun i hi => ?_
  have q := (entB_parts (es := es) (j := i) hm).1 (h7 i (by omega))
  by_cases hlast : i = halfN es - 1
  · subst hlast
    rw [left_last h]
    exact ⟨q.1, Nat.zero_le 32, ⟨fun _ => rfl, fun _ => rfl⟩, .inr (.inl rfl)⟩
  · rw [left_at h (by omega), left_at h (by omega)]
    refine ⟨q.1, q.2.1, ⟨fun e => by have := q.2.2.1.1 e; omega, fun e => by omega⟩, ?_⟩
    rcases q.2.2.2 with e | e | e
    · exact .inl e
    · omega
    · exact .inr (.inr e)
theorem right_plain {lv nx : Int} {es : List Ent} (hp : plainB lv nx es = true) (h : 2 ≤ es.length) : plainB lv nx (rightE es) = true := by
  obtain ⟨h1, h2, h3, h4, h5, h6, h7⟩ := plain_yes hp
  obtain ⟨m, hm⟩ : ∃ m, es.length = m + 1 := ⟨es.length - 1, by omega⟩
  have hh : halfN es < es.length ∧ 1 ≤ halfN es := by unfold halfN; omega
  have hrl := right_len (es := es)
  refine plain_mk (m := es.length - halfN es - 1) (by omega) (by omega) h3 h4 h5 h6 fun i hi => ?_
  have q := (entB_parts (es := es) (j := halfN es + i) hm).1 (h7 (halfN es + i) (by omega))
  rw [right_at, right_at]
  refine ⟨q.1, q.2.1, ⟨fun e => by have := q.2.2.1.1 e; omega, fun e => q.2.2.1.2 (by omega)⟩, ?_⟩
  rcases q.2.2.2 with e | e | e
  · omega
  · exact .inr (.inl (by omega))
  · by_cases h0 : i = 0
    · exact .inl h0
    · rw [show halfN es + i - 1 = halfN es + (i - 1) from by omega] at e
      exact .inr (.inr e)
theorem bound_full {lv nx : Int} {es : List Ent} (hp : plainB lv nx es = true) (h : 2 ≤ es.length) : (boundE es).size ≠ 0 := by
  obtain ⟨h1, h2, h3, h4, h5, h6, h7⟩ := plain_yes hp
  obtain ⟨m, hm⟩ : ∃ m, es.length = m + 1 := ⟨es.length - 1, by omega⟩
  have hh : halfN es < es.length ∧ 1 ≤ halfN es := by unfold halfN; omega
  have q := (entB_parts (es := es) (j := halfN es - 1) hm).1 (h7 (halfN es - 1) (by omega))
  intro e
  have := q.2.2.1.1 e
  omega

theorem left_page {es : List Ent} (h : 2 ≤ es.length) {k : ByteArray} (hk : lessB k (boundE es) = true) : pageI (leftE es) k = pageI es k := by
  have hh : halfN es < es.length ∧ 1 ≤ halfN es := by unfold halfN; omega
  obtain ⟨a, b, c⟩ := isF_find (es := es) k (by omega)
  have hi : findN es k ≤ halfN es - 1 := by
    rcases Nat.lt_or_ge (halfN es - 1) (findN es k) with hlt | hge
    · have e := c _ hlt
      unfold boundE at hk
      rw [hk] at e; cases e
    · exact hge
  have hf : IsF (leftE es) k (findN es k) := by
    refine ⟨by rw [left_len h]; omega, ?_, fun t ht => ?_⟩
    · rw [left_len h]
      by_cases e : findN es k + 1 = halfN es
      · exact .inl e
      · rw [left_at h (by omega)]
        rcases b with b | b
        · omega
        · exact .inr b
    · rw [left_at h (by omega)]; exact c t ht
  unfold pageI
  rw [isF_is hf]
  by_cases e : findN es k + 1 = halfN es
  · rw [show findN es k = halfN es - 1 from by omega, left_last h]
  · rw [left_at h (by omega)]

theorem right_page {lv nx : Int} {es : List Ent} (hp : plainB lv nx es = true) (h : 2 ≤ es.length) {k : ByteArray} (hk : lessB k (boundE es) = false) : pageI (rightE es) k = pageI es k := by
  have hh : halfN es < es.length ∧ 1 ≤ halfN es := by unfold halfN; omega
  obtain ⟨a, b, c⟩ := isF_find (es := es) k (by omega)
  have hi : halfN es ≤ findN es k := by
    rcases Nat.lt_or_ge (findN es k) (halfN es) with hlt | hge
    · exfalso
      rcases b with b | b
      · omega
      · unfold boundE at hk
        by_cases e : findN es k = halfN es - 1
        · rw [e, hk] at b; cases b
        · have := less_trans b (ent_sorted' hp (u := halfN es - 1) (by omega) (by omega))
          rw [hk] at this; cases this
    · exact hge
  have hf : IsF (rightE es) k (findN es k - halfN es) := by
    refine ⟨by rw [right_len]; omega, ?_, fun t ht => ?_⟩
    · rw [right_len, right_at, show halfN es + (findN es k - halfN es) = findN es k from by omega]
      rcases b with b | b
      · exact .inl (by omega)
      · exact .inr b
    · rw [right_at]; exact c _ (by omega)
  unfold pageI
  rw [isF_is hf, right_at, show halfN es + (findN es k - halfN es) = findN es k from by omega]
end Go.Proofs.Ytjfinkfikebjbaa
