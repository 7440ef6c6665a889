/- History: committed units as plain records, how they lie in memory, and their order. -/
import Derived.Test.YtpklgdclknicjaaGreatDoorSl
namespace Go.Proofs.YtpklgdclknicjaaGreatDoor
open Go.RowKit

structure Chg where
  kind : Int
  id : Int
  key : ByteArray
  rcd : ByteArray
  vol : ByteArray
structure Rdd where
  kind : Int
  id : Int
  key : ByteArray
  ak : ByteArray
  ar : ByteArray
  code : Int
/-- a unit, with the headers of its two slices -/
structure Com where
  unit : Int
  num : Int
  rA : Option Addr
  rn : Nat
  rc : Nat
  cA : Option Addr
  cn : Nat
  cc : Nat
  rs : List Rdd
  cs : List Chg
def chC (c : Chg) : List Value := [.int .i64 c.kind, .int .i64 c.id, .string c.key, .string c.rcd, .string c.vol]
def rdC (r : Rdd) : List Value := [.int .i64 r.kind, .int .i64 r.id, .string r.key, .string r.ak, .string r.ar, .int .i64 r.code]
def comC (x : Com) : List Value := [.int .i64 x.unit, .int .i64 x.num, .slice x.rA x.rn x.rc, .slice x.cA x.cn x.cc]
def comV (x : Com) : Value := .agg #[.int .i64 x.unit, .int .i64 x.num, .slice x.rA x.rn x.rc, .slice x.cA x.cn x.cc]
theorem chC_len (c : Chg) : (chC c).length = 5 := rfl
theorem rdC_len (r : Rdd) : (rdC r).length = 6 := rfl
theorem comC_len (x : Com) : (comC x).length = 4 := rfl
theorem chC_one (l : List Chg) : ∀ u ∈ flat chC l, u.oneCell' = true := by
  intro u hu
  obtain ⟨c, _, h⟩ := List.mem_flatMap.1 hu
  simp [chC] at h
  rcases h with rfl | rfl | rfl | rfl | rfl <;> rfl
theorem comC_one (l : List Com) : ∀ u ∈ flat comC l, u.oneCell' = true := by
  intro u hu
  obtain ⟨c, _, h⟩ := List.mem_flatMap.1 hu
  simp [comC] at h
  rcases h with rfl | rfl | rfl | rfl <;> rfl

def ComOk (w : World) (B : Nat) (x : Com) : Prop := Sl rdC 6 w B x.rA x.rn x.rc x.rs ∧ Sl chC 5 w B x.cA x.cn x.cc x.cs ∧ x.rn ≤ maxLen ∧ x.cn ≤ maxLen
def Cs (w : World) (B : Nat) (A : Option Addr) (n c : Nat) (l : List Com) : Prop := Sl comC 4 w B A n c l ∧ ∀ x ∈ l, ComOk w B x
theorem ComOk.after {w w' : World} {B B' : Nat} {x : Com} (h : ComOk w B x) (hb : Below B w w') (hB : B ≤ B') : ComOk w' B' x := ⟨h.1.after hb hB, h.2.1.after hb hB, h.2.2⟩
theorem Cs.after {w w' : World} {B B' n c : Nat} {A : Option Addr} {l : List Com} (h : Cs w B A n c l) (hb : Below B w w') (hB : B ≤ B') : Cs w' B' A n c l := ⟨h.1.after hb hB, fun x hx => (h.2 x hx).after hb hB⟩

/-! ### the order -/
def befB (a b : Com) : Bool := decide (a.num < b.num) || (decide (a.num = b.num) && (decide (a.cn = 0) && decide (0 < b.cn)))
section
variable {α : Type} (lt : α → α → Bool)
/-- an insertion from the right, said from the right: x goes before all that it is less than -/
def insRev (x : α) : List α → List α
  | [] => [x]
  | p :: r => if lt x p then p :: insRev x r else x :: p :: r
def insB (x : α) (l : List α) : List α := (insRev lt x l.reverse).reverse
def sortB : List α → List α → List α
  | acc, [] => acc
  | acc, x :: l => sortB (insB lt x acc) l
variable {lt}
theorem insRev_split {x : α} : ∀ (s p : List α), (∀ y ∈ s, lt x y = true) → (∀ y, p.head? = some y → lt x y = false) → insRev lt x (s ++ p) = s ++ x :: p
  | [], [], _, _ => rfl
  | [], y :: p, _, h => by
    show (if lt x y then _ else _) = _
    rw [h y rfl]; rfl
  | y :: s, p, h1, h2 => by
    show (if lt x y then _ else _) = _
    rw [h1 y List.mem_cons_self, if_pos rfl]
    show y :: insRev lt x (s ++ p) = _
    rw [insRev_split s p (fun z hz => h1 z (List.mem_cons_of_mem _ hz)) h2]
    rfl
theorem insB_split {x : α} {p s : List α} (h1 : ∀ y ∈ s, lt x y = true) (h2 : ∀ y, p.getLast? = some y → lt x y = false) : insB lt x (p ++ s) = p ++ x :: s := by
  unfold insB
  rw [List.reverse_append, insRev_split s.reverse p.reverse (fun y hy => h1 y (by simpa using hy)) (fun y hy => h2 y (by simpa [List.head?_reverse] using hy))]
  simp
theorem insB_at {x : α} {l : List α} {k : Nat} (hk : k ≤ l.length) (h1 : ∀ i y, k ≤ i → l[i]? = some y → lt x y = true) (h2 : ∀ y, 0 < k → l[k - 1]? = some y → lt x y = false) : insB lt x l = l.take k ++ x :: l.drop k := by
  conv => lhs; rw [← List.take_append_drop k l]
  refine insB_split (fun y hy => ?_) (fun y hy => ?_)
  · obtain ⟨i, hi, rfl⟩ := List.getElem_of_mem hy
    rw [List.getElem_drop]
    exact h1 (k + i) _ (by omega) (List.getElem?_eq_getElem _)
  · rw [List.getLast?_eq_getElem?, List.length_take, Nat.min_eq_left hk] at hy
    rcases Nat.eq_zero_or_pos k with h0 | h0
    · subst h0; simp at hy
    · rw [List.getElem?_take_of_lt (by omega)] at hy
      exact h2 y h0 hy
theorem insRev_len {x : α} : ∀ l : List α, (insRev lt x l).length = l.length + 1
  | [] => rfl
  | p :: r => by
    show (if lt x p then _ else _ : List α).length = _
    split
    · simp [insRev_len r]
    · simp
theorem insB_len {x : α} (l : List α) : (insB lt x l).length = l.length + 1 := by simp [insB, insRev_len]
theorem mem_insRev {x y : α} : ∀ l : List α, y ∈ insRev lt x l ↔ y = x ∨ y ∈ l
  | [] => by simp [insRev]
  | p :: r => by
    show y ∈ (if lt x p then _ else _ : List α) ↔ _
    split
    · rw [List.mem_cons, mem_insRev r, List.mem_cons]
      constructor
      · rintro (h | h | h)
        · exact .inr (.inl h)
        · exact .inl h
        · exact .inr (.inr h)
      · rintro (h | h | h)
        · exact .inr (.inl h)
        · exact .inl h
        · exact .inr (.inr h)
    · simp
theorem mem_insB {x y : α} (l : List α) : y ∈ insB lt x l ↔ y = x ∨ y ∈ l := by simp [insB, mem_insRev]
theorem sortB_snoc : ∀ (l acc : List α) (x : α), sortB lt acc (l ++ [x]) = insB lt x (sortB lt acc l)
  | [], _, _ => rfl
  | y :: l, acc, x => sortB_snoc l (insB lt y acc) x
theorem sortB_len : ∀ (l acc : List α), (sortB lt acc l).length = acc.length + l.length
  | [], _ => rfl
  | x :: l, acc => by
    show (sortB lt (insB lt x acc) l).length = _
    rw [sortB_len l, insB_len, List.length_cons]; omega
theorem mem_sortB {y : α} : ∀ (l acc : List α), y ∈ sortB lt acc l ↔ y ∈ acc ∨ y ∈ l
  | [], _ => by simp [sortB]
  | x :: l, acc => by
    show y ∈ sortB lt (insB lt x acc) l ↔ _
    rw [mem_sortB l, mem_insB, List.mem_cons]
    constructor
    · rintro ((h | h) | h)
      · exact .inr (.inl h)
      · exact .inl h
      · exact .inr (.inr h)
    · rintro (h | h | h)
      · exact .inl (.inr h)
      · exact .inl (.inl h)
      · exact .inr h
end
end Go.Proofs.YtpklgdclknicjaaGreatDoor
