/- A slice of structs that reads as a list of plain records: 'f' lays out a record in k cells. -/
import Derived.Test.YtpklgdclknicjaaGreatDoorBase
namespace Go.Proofs.YtpklgdclknicjaaGreatDoor
open Go.RowKit

def flat {α : Type} (f : α → List Value) (l : List α) : List Value := l.flatMap f
section
variable {α : Type} {f : α → List Value} {k : Nat}
theorem flat_nil : flat f [] = [] := rfl
theorem flat_cons (x : α) (l : List α) : flat f (x :: l) = f x ++ flat f l := by simp [flat]
theorem flat_app (a b : List α) : flat f (a ++ b) = flat f a ++ flat f b := by simp [flat]
theorem flat_one (x : α) : flat f [x] = f x := by simp [flat]
theorem flat_len (hk : ∀ x, (f x).length = k) : ∀ l : List α, (flat f l).length = l.length * k
  | [] => by simp [flat]
  | x :: l => by rw [flat_cons, List.length_append, hk, flat_len hk l, List.length_cons, Nat.succ_mul]; omega
theorem flat_get (hk : ∀ x, (f x).length = k) : ∀ (l : List α) (i : Nat) (x : α), l[i]? = some x → ∀ j, j < k → (flat f l)[i * k + j]? = (f x)[j]?
  | [], i, x, h, _, _ => by simp at h
  | y :: l, 0, x, h, j, hj => by
    simp at h; subst h
    rw [flat_cons, Nat.zero_mul, Nat.zero_add, List.getElem?_append_left (by rw [hk]; exact hj)]
  | y :: l, i + 1, x, h, j, hj => by
    have h' : l[i]? = some x := by simpa using h
    rw [flat_cons, List.getElem?_append_right (by rw [hk, Nat.succ_mul]; omega), hk]
    have e : (i + 1) * k + j - k = i * k + j := by rw [Nat.succ_mul]; omega
    rw [e]
    exact flat_get hk l i x h' j hj
theorem flat_take (hk : ∀ x, (f x).length = k) : ∀ (l : List α) (i : Nat), (flat f l).take (i * k) = flat f (l.take i)
  | [], i => by simp [flat]
  | y :: l, 0 => by simp [flat]
  | y :: l, i + 1 => by
    rw [flat_cons, List.take_succ_cons, flat_cons, List.take_append, hk]
    have e : (i + 1) * k - k = i * k := by rw [Nat.succ_mul]; omega
    rw [e, flat_take hk l i, List.take_of_length_le (by rw [hk, Nat.succ_mul]; omega)]
theorem flat_drop (hk : ∀ x, (f x).length = k) : ∀ (l : List α) (i : Nat), (flat f l).drop (i * k) = flat f (l.drop i)
  | [], i => by simp [flat]
  | y :: l, 0 => by simp [flat]
  | y :: l, i + 1 => by
    rw [flat_cons, List.drop_succ_cons, List.drop_append, hk]
    have e : (i + 1) * k - k = i * k := by rw [Nat.succ_mul]; omega
    rw [e, flat_drop hk l i, List.drop_of_length_le (by rw [hk, Nat.succ_mul]; omega), List.nil_append]
end

/-- the slice value '.slice A n c' reads as the records l, below block B -/
def Sl {α : Type} (f : α → List Value) (k : Nat) (w : World) (B : Nat) (A : Option Addr) (n c : Nat) (l : List α) : Prop := n ≤ c ∧ l.length = n ∧ Rd w B k A n (flat f l)

section
variable {α : Type} {f : α → List Value} {k : Nat} {w w' : World} {B B' n c : Nat} {A : Option Addr} {l : List α}
theorem Sl.len (h : Sl f k w B A n c l) : l.length = n := h.2.1
theorem Sl.cap (h : Sl f k w B A n c l) : n ≤ c := h.1
theorem Sl.rd (h : Sl f k w B A n c l) : Rd w B k A n (flat f l) := h.2.2
theorem Sl.nil : Sl f k w B none 0 0 [] := ⟨Nat.le_refl _, rfl, by simp [flat], fun h => absurd h (by omega)⟩
theorem Sl.keep (h : Sl f k w B A n c l) (hk : ∀ p : Addr, p.block < B → w'.cell? p = w.cell? p) : Sl f k w' B A n c l := ⟨h.1, h.2.1, h.2.2.keep hk⟩
theorem Sl.more (h : Sl f k w B A n c l) (hB : B ≤ B') : Sl f k w B' A n c l := ⟨h.1, h.2.1, h.2.2.more hB⟩
theorem Sl.below (h : Sl f k w B A n c l) (hb : Below B w w') : Sl f k w' B A n c l := ⟨h.1, h.2.1, h.2.2.below hb⟩
theorem Sl.after (h : Sl f k w B A n c l) (hb : Below B w w') (hB : B ≤ B') : Sl f k w' B' A n c l := (h.below hb).more hB
theorem Sl.drew (h : Sl f k w B A n c l) : Sl f k w.drew B A n c l := h
theorem Sl.drewN (h : Sl f k w B A n c l) (m : Nat) : Sl f k (w.drewN m) B A n c l := h
theorem Sl.alloc (h : Sl f k w B A n c l) (hB : B ≤ w.heap.size) (o : Obj) : Sl f k (w.alloc o) B A n c l := ⟨h.1, h.2.1, h.2.2.alloc hB o⟩
theorem Sl.grown (h : Sl f k w B A n c l) {row : Option Nat} (hg : w.grownBy w' row) (hB : B ≤ w.heap.size) (hr : ∀ g, row = some g → B ≤ g) : Sl f k w' B A n c l := ⟨h.1, h.2.1, h.2.2.grown hg hB hr⟩
theorem Sl.cell (hk : ∀ x, (f x).length = k) (h : Sl f k w B A n c l) {i : Nat} (hi : i < n) :
    ∃ b o x, A = some ⟨b, o, none⟩ ∧ b < B ∧ l[i]? = some x ∧ ∀ j u, (f x)[j]? = some u → w.cell? ⟨b, o + i * k + j, none⟩ = some u := by
  obtain ⟨b, o, e, hb, hc⟩ := h.2.2.2 (by omega)
  have hl : i < l.length := by have := h.2.1; omega
  refine ⟨b, o, l[i], e, hb, List.getElem?_eq_getElem hl, fun j u hu => ?_⟩
  have hj : j < k := by have := (List.getElem?_eq_some_iff.1 hu).1; rwa [hk] at this
  rw [Nat.add_assoc]
  exact hc _ u (by rw [flat_get hk l i _ (List.getElem?_eq_getElem hl) j hj]; exact hu)
theorem Sl.of_own {base : Nat} {e : TypeId} (hk : ∀ x, (f x).length = k) (hk0 : 0 < k) (h : w.ownsRow base e k (.slice A n c) n (flat f l)) : Sl f k w w.heap.size A n c l := by
  have h1 : (flat f l).length = n * k := h.1
  rw [flat_len hk] at h1
  refine ⟨?_, Nat.eq_of_mul_eq_mul_right hk0 h1, Rd.of_own h⟩
  obtain ⟨A', c', e, h2, _⟩ := own_form h
  injection e with _ _ e
  subst e
  exact h2
theorem Sl.new (hk : ∀ x, (f x).length = k) (w : World) (t : TypeId) (l : List α) : Sl f k (w.alloc (.cells (flat f l).toArray t)) (w.heap.size + 1) (some ⟨w.heap.size, 0, none⟩) l.length l.length l :=
  ⟨Nat.le_refl _, rfl, rd_new w _ t _ _ (flat_len hk l)⟩
end
end Go.Proofs.YtpklgdclknicjaaGreatDoor
