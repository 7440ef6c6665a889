/- Plain facts on records and blocks: no program in sight. -/
import Derived.Lib.Join
import Derived.Lib.Repeat
import Derived.Below
namespace Go.Proofs.Ytehagkkmkbjpcaa

theorem ba_ext {a b : ByteArray} (h : a.data.toList = b.data.toList) : a = b := by
  apply ByteArray.ext; exact Array.toList_inj.1 h
theorem ba_len (a : ByteArray) : a.data.toList.length = a.size := by rw [Array.length_toList]; rfl
theorem ba_app (a b : ByteArray) : (a ++ b).data.toList = a.data.toList ++ b.data.toList := by simp

/-- the records one behind the other -/
def cat (ss : List ByteArray) : ByteArray := ss.foldr (· ++ ·) ByteArray.empty

theorem cat_nil : cat [] = ByteArray.empty := rfl
theorem cat_cons (s : ByteArray) (ss : List ByteArray) : cat (s :: ss) = s ++ cat ss := rfl
theorem cat_data (ss : List ByteArray) : (cat ss).data.toList = (ss.map (·.data.toList)).flatten := by
  induction ss with
  | nil => rfl
  | cons s ss ih => rw [cat_cons, ba_app, ih]; simp
theorem cat_append (ss tt : List ByteArray) : cat (ss ++ tt) = cat ss ++ cat tt := by
  apply ba_ext; rw [ba_app, cat_data, cat_data, cat_data]; simp
theorem cat_one (s : ByteArray) : cat [s] = s := by apply ba_ext; rw [cat_data]; simp
theorem cat_size (ss : List ByteArray) : (cat ss).size = (ss.map (·.size)).sum := by
  induction ss with
  | nil => rfl
  | cons s ss ih => rw [cat_cons, ByteArray.size_append, ih]; simp
theorem cat_size_eq {ss : List ByteArray} {l : Nat} (h : ∀ s ∈ ss, s.size = l) : (cat ss).size = ss.length * l := by
  rw [cat_size]
  induction ss with
  | nil => simp
  | cons s ss ih =>
    simp only [List.map_cons, List.sum_cons, List.length_cons, Nat.succ_mul]
    rw [ih (fun s hs => h s (List.mem_cons_of_mem _ hs)), h s (List.mem_cons_self ..)]; omega
theorem intercalate_nil (xs : List (List UInt8)) : ([] : List UInt8).intercalate xs = xs.flatten := by
  induction xs with
  | nil => rfl
  | cons x xs ih =>
    cases xs with
    | nil => simp [List.intercalate]
    | cons y ys => simp [List.intercalate, List.intersperse] at ih ⊢; exact ih
theorem join_cat (ss : List ByteArray) : (⟨(Lib.join (ss.map (·.data.toList)) []).toArray⟩ : ByteArray) = cat ss := by
  apply ba_ext; rw [cat_data]; simp [Lib.join, intercalate_nil]

/-- block k of the records, m records a block -/
def blk (m : Nat) (ss : List ByteArray) (k : Nat) : ByteArray := cat ((ss.drop (m * k)).take m)
def blkN (m n : Nat) : Nat := (n + m - 1) / m
def blocks (m : Nat) (ss : List ByteArray) : List ByteArray := (List.range (blkN m ss.length)).map (blk m ss)

theorem blkN_eq {m n k : Nat} (hm : 0 < m) (h1 : n ≤ m * k) (h2 : k = 0 ∨ m * (k - 1) < n) : blkN m n = k := by
  unfold blkN
  rw [Nat.div_eq_iff hm]
  rcases h2 with rfl | h2
  · simp at h1; subst h1; simp
  · obtain ⟨j, rfl⟩ : ∃ j, k = j + 1 := ⟨k - 1, by
      rcases k with _ | k
      · simp at h1; omega
      · rfl⟩
    simp only [Nat.add_sub_cancel] at h2
    rw [Nat.mul_comm m j] at h2
    rw [Nat.mul_comm m (j + 1), Nat.succ_mul] at h1
    rw [Nat.succ_mul]; omega
theorem blkN_zero (m : Nat) (hm : 0 < m) : blkN m 0 = 0 := blkN_eq hm (by omega) (.inl rfl)
theorem blkN_lt {m n k : Nat} (hm : 0 < m) (h : k < blkN m n) : m * k < n := by
  unfold blkN at h
  have := (Nat.le_div_iff_mul_le hm).1 (show k + 1 ≤ _ from h)
  rw [Nat.succ_mul, Nat.mul_comm] at this; omega
theorem blkN_ge {m n : Nat} (hm : 0 < m) : n ≤ m * blkN m n := by
  unfold blkN
  have h := Nat.div_add_mod (n + m - 1) m
  have h2 := Nat.mod_lt (n + m - 1) hm
  omega

/-- The reference builds its blocks record by record. -/
theorem blocks_new {m : Nat} {ss : List ByteArray} {i : Nat} {x : ByteArray} (hm : 0 < m) (hx : ss[i]? = some x) (h0 : i % m = 0) : blocks m (ss.take (i + 1)) = blocks m (ss.take i) ++ [x] := by
  obtain ⟨k, rfl⟩ : ∃ k, i = m * k := ⟨i / m, by have := Nat.div_add_mod i m; omega⟩
  have hl : m * k < ss.length := (List.getElem?_eq_some_iff.1 hx).1
  have e1 : blkN m (m * k) = k := blkN_eq hm (Nat.le_refl _) (by
    rcases k with _ | k
    · left; rfl
    · right; rw [Nat.add_sub_cancel, Nat.mul_succ]; omega)
  have e2 : blkN m (m * k + 1) = k + 1 := blkN_eq hm (by rw [Nat.mul_succ]; omega) (.inr (by rw [Nat.add_sub_cancel]; omega))
  unfold blocks
  rw [List.length_take, List.length_take, Nat.min_eq_left (by omega), Nat.min_eq_left (by omega), e1, e2, List.range_succ, List.map_append]
  congr 1
  · apply List.map_congr_left
    intro j hj
    rw [List.mem_range] at hj
    unfold blk
    congr 1
    have : m * j + m ≤ m * k := by rw [← Nat.mul_succ]; exact Nat.mul_le_mul_left _ hj
    apply List.ext_getElem?
    intro t
    simp only [List.getElem?_take, List.getElem?_drop]
    by_cases ht : t < m
    · rw [if_pos ht, if_pos ht, if_pos (by omega), if_pos (by omega)]
    · rw [if_neg ht, if_neg ht]
  · simp only [List.map_cons, List.map_nil]
    congr 1
    unfold blk
    have : ((ss.take (m * k + 1)).drop (m * k)).take m = [x] := by
      apply List.ext_getElem?
      intro t
      simp only [List.getElem?_take, List.getElem?_drop]
      rcases t with _ | t
      · simp [hm, hx]
      · by_cases ht : t + 1 < m
        · rw [if_pos ht, if_neg (by omega)]; simp
        · rw [if_neg ht]; simp
    rw [this, cat_one]

theorem blocks_more {m : Nat} {ss : List ByteArray} {i : Nat} {x : ByteArray} (hm : 0 < m) (hx : ss[i]? = some x) (h0 : i % m ≠ 0) :
    ∃ y ys, blocks m (ss.take i) = ys ++ [y] ∧ blocks m (ss.take (i + 1)) = ys ++ [y ++ x] := by
  have hd := Nat.div_add_mod i m
  have hr := Nat.mod_lt i hm
  generalize hk : i / m = k at *
  generalize hq : i % m = r at *
  have hl : i < ss.length := (List.getElem?_eq_some_iff.1 hx).1
  have e1 : blkN m i = k + 1 := blkN_eq hm (by rw [Nat.mul_succ]; omega) (.inr (by rw [Nat.add_sub_cancel]; omega))
  have e2 : blkN m (i + 1) = k + 1 := blkN_eq hm (by rw [Nat.mul_succ]; omega) (.inr (by rw [Nat.add_sub_cancel]; omega))
  refine ⟨blk m (ss.take i) k, (List.range k).map (blk m (ss.take i)), ?_, ?_⟩
  · unfold blocks
    rw [List.length_take, Nat.min_eq_left (by omega), e1, List.range_succ, List.map_append]; rfl
  · unfold blocks
    rw [List.length_take, Nat.min_eq_left (by omega), e2, List.range_succ, List.map_append]
    congr 1
    · apply List.map_congr_left
      intro j hj
      rw [List.mem_range] at hj
      unfold blk
      congr 1
      have : m * j + m ≤ m * k := by rw [← Nat.mul_succ]; exact Nat.mul_le_mul_left _ hj
      apply List.ext_getElem?
      intro t
      simp only [List.getElem?_take, List.getElem?_drop]
      by_cases ht : t < m
      · rw [if_pos ht, if_pos ht, if_pos (by omega), if_pos (by omega)]
      · rw [if_neg ht, if_neg ht]
    · simp only [List.map_cons, List.map_nil]
      congr 1
      unfold blk
      have : ((ss.take (i + 1)).drop (m * k)).take m = ((ss.take i).drop (m * k)).take m ++ [x] := by
        rw [List.take_of_length_le (l := (ss.take (i + 1)).drop (m * k)) (by rw [List.length_drop, List.length_take]; omega), List.take_of_length_le (l := (ss.take i).drop (m * k)) (by rw [List.length_drop, List.length_take]; omega), List.take_add_one, hx]
        simp only [Option.toList]
        rw [List.drop_append_of_le_length (by rw [List.length_take]; omega)]
      rw [this, cat_append, cat_one]

theorem drop_step {m k q : Nat} {ss : List ByteArray} (hq : q = min m (ss.drop (m * k)).length) : (ss.drop (m * k)).drop q = ss.drop (m * (k + 1)) := by
  rw [List.length_drop] at hq
  rw [List.drop_drop, Nat.mul_succ]
  rcases Nat.le_total m (ss.length - m * k) with h | h
  · rw [show q = m from by omega]
  · rw [List.drop_of_length_le (by omega), List.drop_of_length_le (by omega)]
theorem take_step {m k q : Nat} {ss : List ByteArray} (hq : q = min m (ss.drop (m * k)).length) : cat ((ss.drop (m * k)).take q) = blk m ss k := by
  unfold blk
  rcases Nat.le_total m (ss.drop (m * k)).length with h | h
  · rw [show q = m from by omega]
  · rw [List.take_of_length_le (by omega), List.take_of_length_le (by omega)]
theorem cat_take_le {ss : List ByteArray} {q z : Nat} (h : ∀ s ∈ ss, s.size ≤ z) (i : Nat) : (cat ((ss.drop i).take q)).size ≤ q * z := by
  rw [cat_size]
  have : ∀ (tt : List ByteArray), (∀ s ∈ tt, s.size ≤ z) → (tt.map (·.size)).sum ≤ tt.length * z := by
    intro tt
    induction tt with
    | nil => intro _; simp
    | cons s tt ih =>
      intro h
      simp only [List.map_cons, List.sum_cons, List.length_cons, Nat.succ_mul]
      have h1 := ih (fun s hs => h s (List.mem_cons_of_mem _ hs))
      have h2 := h s (List.mem_cons_self ..)
      omega
  refine Nat.le_trans (this _ (fun s hs => h s (List.mem_of_mem_drop (List.mem_of_mem_take hs)))) (Nat.mul_le_mul_right _ ?_)
  rw [List.length_take]; omega
theorem blocks_size {m z : Nat} {ss : List ByteArray} (h : ∀ s ∈ ss, s.size ≤ z) : ∀ y ∈ blocks m ss, y.size ≤ m * z := by
  intro y hy
  obtain ⟨k, _, rfl⟩ := List.mem_map.1 hy
  exact cat_take_le h _
theorem blocks_len {m : Nat} {ss : List ByteArray} (hm : 0 < m) : (blocks m ss).length ≤ ss.length := by
  unfold blocks blkN
  rw [List.length_map, List.length_range]
  rcases Nat.eq_zero_or_pos ss.length with h | h
  · rw [h]; simp; omega
  · rw [Nat.div_le_iff_le_mul_add_pred hm]
    have := Nat.le_mul_of_pos_left ss.length hm
    omega
theorem blocks_done {m n k : Nat} {ss : List ByteArray} (hm : 0 < m) (hn : ss.length = n) (h : (ss.drop (m * k)).length = 0) (h2 : k = 0 ∨ m * (k - 1) < n) : blocks m ss = (List.range k).map (blk m ss) := by
  rw [List.length_drop] at h
  unfold blocks
  have e : blkN m ss.length = k := blkN_eq hm (by omega) (by rw [hn]; exact h2)
  rw [e]

/-- record i of a block -/
def cutB (L : Nat) (d : ByteArray) (i : Nat) : ByteArray := d.extract (i * L) ((i + 1) * L)
def cuts (L : Nat) (d : ByteArray) (n : Nat) : List ByteArray := (List.range n).map (cutB L d)
def okU (L m z : Nat) : Bool := decide (1 ≤ z / L ∧ z / L ≤ m ∧ z % L = 0)
theorem cuts_len (L : Nat) (d : ByteArray) (n : Nat) : (cuts L d n).length = n := by simp [cuts]
theorem cuts_succ (L : Nat) (d : ByteArray) (n : Nat) : cuts L d (n + 1) = cuts L d n ++ [cutB L d n] := by simp [cuts, List.range_succ]
theorem cuts_set (L : Nat) (d : ByteArray) {j q : Nat} (h : j < q) (f : ByteArray → Value := Value.string) : ((cuts L d j ++ List.replicate (q - j) (⟨#[]⟩ : ByteArray)).map f).set j (f (cutB L d j)) = (cuts L d (j + 1) ++ List.replicate (q - (j + 1)) (⟨#[]⟩ : ByteArray)).map f := by
  obtain ⟨e, rfl⟩ : ∃ e, q = j + e + 1 := ⟨q - j - 1, by omega⟩
  rw [show j + e + 1 - j = e + 1 from by omega, show j + e + 1 - (j + 1) = e from by omega, cuts_succ, List.replicate_succ]
  simp [cuts_len]

theorem ba_extract (d : ByteArray) (a b : Nat) : (d.extract a b).data.toList = (d.data.toList.drop a).take (b - a) := by
  rw [ByteArray.data_extract, Array.toList_extract, List.extract_eq_take_drop]
theorem cutB_size {L i : Nat} {d : ByteArray} (h : (i + 1) * L ≤ d.size) : (cutB L d i).size = L := by
  unfold cutB
  rw [← ba_len, ba_extract, List.length_take, List.length_drop, ba_len]
  rw [Nat.succ_mul] at *
  omega
theorem cat_cuts {L : Nat} {d : ByteArray} : ∀ n : Nat, n * L ≤ d.size → cat (cuts L d n) = d.extract 0 (n * L)
  | 0, _ => by apply ba_ext; rw [ba_extract]; simp [cuts, cat]
  | n + 1, h => by
    have h0 : n * L ≤ d.size := by rw [Nat.succ_mul] at h; omega
    rw [cuts_succ, cat_append, cat_one, cat_cuts n h0]
    apply ba_ext
    rw [ba_app]
    unfold cutB
    rw [ba_extract, ba_extract, ba_extract, Nat.succ_mul]
    simp only [Nat.sub_zero, List.drop_zero]
    rw [List.take_add]
    rw [show n * L + L - n * L = L from by omega]
theorem blocks_one {m : Nat} {ss : List ByteArray} (h1 : 1 ≤ ss.length) (h2 : ss.length ≤ m) : blocks m ss = [cat ss] := by
  unfold blocks
  rw [blkN_eq (k := 1) (by omega) (by omega) (.inr (by simp; omega))]
  simp [blk, List.take_of_length_le h2]
theorem cuts_mem {L n : Nat} {d : ByteArray} (h : n * L ≤ d.size) : ∀ s ∈ cuts L d n, s.size = L := by
  intro s hs
  obtain ⟨i, hi, rfl⟩ := List.mem_map.1 hs
  rw [List.mem_range] at hi
  exact cutB_size (Nat.le_trans (Nat.mul_le_mul_right _ hi) h)
theorem extract_all (d : ByteArray) : d.extract 0 d.size = d := by simp
end Go.Proofs.Ytehagkkmkbjpcaa
