/- HistorySums: events as plain records, and their summary. No program in sight. -/
import Derived.Test.YtpklgdclknicjaaGreatDoorSl
import Derived.Test.YtpklgdclknicjaaGreatDoorBytes
import Derived.Lib.ItoaNum
namespace Go.Proofs.YtpklgdclknicjaaGreatDoor
open Go.RowKit

structure Ev where
  kind : Int
  sys : Int
  unit : Int
  num : Int
  ok : Int
  on : ByteArray
  oy : ByteArray
  orc : ByteArray
  id : Int
  ak : ByteArray
  ar : ByteArray
  code : Int
  line : ByteArray
  fk : Int
  fv : ByteArray
  fi : Int
  fu : Int
  fn : ByteArray
  fs : Int
  fy : ByteArray
def evC (e : Ev) : List Value := [.int .i64 e.kind, .int .i64 e.sys, .int .i64 e.unit, .int .i64 e.num, .int .i64 e.ok, .string e.on, .string e.oy, .string e.orc, .int .i64 e.id, .string e.ak, .string e.ar, .int .i64 e.code, .string e.line, .int .i64 e.fk, .string e.fv, .int .i64 e.fi, .int .i64 e.fu, .string e.fn, .int .i64 e.fs, .string e.fy]
theorem evC_len (e : Ev) : (evC e).length = 20 := rfl
theorem evC_one (e : Ev) : (evC e).toArray.all (·.oneCell') = true := by simp [evC, Value.oneCell']

/-! ### counts -/
def cntK (l : List Ev) (k : Int) : Nat := l.countP fun e => decide (e.kind = k)
def codesL (l : List Ev) : List Int := (l.filter fun e => decide (e.kind = 2)).map Ev.code
theorem cntK_nil (k : Int) : cntK [] k = 0 := rfl
theorem cntK_app (a b : List Ev) (k : Int) : cntK (a ++ b) k = cntK a k + cntK b k := by simp [cntK, List.countP_append]
theorem cntK_one (e : Ev) (k : Int) : cntK [e] k = if e.kind = k then 1 else 0 := by simp [cntK, List.countP_cons]
theorem cntK_le (l : List Ev) (k : Int) : cntK l k ≤ l.length := List.countP_le_length
theorem codesL_app (a b : List Ev) : codesL (a ++ b) = codesL a ++ codesL b := by simp [codesL]
theorem codesL_one (e : Ev) : codesL [e] = if e.kind = 2 then [e.code] else [] := by
  unfold codesL
  by_cases h : e.kind = 2 <;> simp [h]
theorem codesL_len (l : List Ev) : (codesL l).length ≤ l.length := by
  unfold codesL
  rw [List.length_map]
  exact List.length_filter_le _ _
theorem take_step {α : Type} {l : List α} {j : Nat} {x : α} (h : l[j]? = some x) : l.take (j + 1) = l.take j ++ [x] := by
  rw [List.take_add_one, h]; rfl

/-! ### sets -/
def insS (x : Int) : List Int → List Int
  | [] => [x]
  | y :: l => if y < x then y :: insS x l else if y = x then y :: l else x :: y :: l
def setB : List Int → List Int → List Int
  | acc, [] => acc
  | acc, x :: l => setB (insS x acc) l
theorem mem_insS (x z : Int) : ∀ l, z ∈ insS x l ↔ z = x ∨ z ∈ l
  | [] => by simp [insS]
  | y :: l => by
    unfold insS
    split
    · rw [List.mem_cons, mem_insS x z l, List.mem_cons]
      constructor
      · rintro (h | h | h) <;> simp [h]
      · rintro (h | h | h) <;> simp [h]
    · split
      · rename_i h
        subst h
        simp
      · simp
theorem insS_up (x : Int) : ∀ l : List Int, l.Pairwise (· < ·) → (insS x l).Pairwise (· < ·)
  | [], _ => by simp [insS]
  | y :: l, h => by
    rw [List.pairwise_cons] at h
    unfold insS
    split
    · rename_i hy
      rw [List.pairwise_cons]
      refine ⟨fun z hz => ?_, insS_up x l h.2⟩
      rcases (mem_insS x z l).1 hz with rfl | hz
      · exact hy
      · exact h.1 z hz
    · split
      · rw [List.pairwise_cons]; exact h
      · rename_i h1 h2
        rw [List.pairwise_cons, List.pairwise_cons]
        refine ⟨fun z hz => ?_, h⟩
        rcases List.mem_cons.1 hz with rfl | hz
        · omega
        · have := h.1 z hz; omega
theorem setB_up : ∀ (l acc : List Int), acc.Pairwise (· < ·) → (setB acc l).Pairwise (· < ·)
  | [], _, h => h
  | x :: l, acc, h => setB_up l _ (insS_up x acc h)
theorem mem_setB (z : Int) : ∀ (l acc : List Int), z ∈ setB acc l ↔ z ∈ acc ∨ z ∈ l
  | [], acc => by simp [setB]
  | x :: l, acc => by
    show z ∈ setB (insS x acc) l ↔ _
    rw [mem_setB z l, mem_insS, List.mem_cons]
    constructor
    · rintro ((h | h) | h) <;> simp [h]
    · rintro (h | h | h) <;> simp [h]
theorem setB_take {l : List Int} {j : Nat} {x : Int} (h : l[j]? = some x) : setB [] (l.take (j + 1)) = insS x (setB [] (l.take j)) := by
  have gen : ∀ (a b acc : List Int), setB acc (a ++ b) = setB (setB acc a) b := by
    intro a
    induction a with
    | nil => intro b acc; rfl
    | cons y a ih => intro b acc; exact ih b _
  rw [take_step h, gen]
  rfl
theorem insS_len (x : Int) : ∀ l, (insS x l).length ≤ l.length + 1
  | [] => by simp [insS]
  | y :: l => by
    unfold insS
    split
    · have := insS_len x l; simp; omega
    · split <;> simp
theorem setB_len : ∀ (l acc : List Int), (setB acc l).length ≤ acc.length + l.length
  | [], acc => by simp [setB]
  | x :: l, acc => by
    have h1 := setB_len l (insS x acc)
    have h2 := insS_len x acc
    show (setB (insS x acc) l).length ≤ _
    simp; omega
theorem insS_split {x : Int} : ∀ (p s : List Int), (∀ y ∈ p, y < x) → (∀ y, s.head? = some y → x < y) → insS x (p ++ s) = p ++ x :: s
  | [], [], _, _ => rfl
  | [], y :: s, _, h => by
    have := h y rfl
    show insS x (y :: s) = _
    unfold insS
    rw [if_neg (by omega), if_neg (by omega)]; rfl
  | y :: p, s, h1, h2 => by
    show insS x (y :: (p ++ s)) = _
    unfold insS
    rw [if_pos (h1 y List.mem_cons_self), insS_split p s (fun z hz => h1 z (List.mem_cons_of_mem _ hz)) h2]
    rfl
theorem insS_same {x : Int} : ∀ (p s : List Int), (∀ y ∈ p, y < x) → insS x (p ++ x :: s) = p ++ x :: s
  | [], s, _ => by
    show insS x (x :: s) = _
    unfold insS
    rw [if_neg (by omega), if_pos rfl]; rfl
  | y :: p, s, h1 => by
    show insS x (y :: (p ++ x :: s)) = _
    unfold insS
    rw [if_pos (h1 y List.mem_cons_self), insS_same p s (fun z hz => h1 z (List.mem_cons_of_mem _ hz))]
    rfl
/-- lists that go up and have the same members are one -/
theorem up_ext : ∀ {a b : List Int}, a.Pairwise (· < ·) → b.Pairwise (· < ·) → (∀ z, z ∈ a ↔ z ∈ b) → a = b
  | [], [], _, _, _ => rfl
  | [], y :: b, _, _, h => by have := (h y).2 List.mem_cons_self; simp at this
  | x :: a, [], _, _, h => by have := (h x).1 List.mem_cons_self; simp at this
  | x :: a, y :: b, ha, hb, h => by
    rw [List.pairwise_cons] at ha hb
    have hxy : x = y := by
      rcases List.mem_cons.1 ((h x).1 List.mem_cons_self) with e | e
      · exact e
      · rcases List.mem_cons.1 ((h y).2 List.mem_cons_self) with e' | e'
        · exact e'.symm
        · have h1 := ha.1 y e'
          have h2 := hb.1 x e
          omega
    subst hxy
    rw [up_ext ha.2 hb.2 fun z => ?_]
    constructor
    · intro hz
      rcases List.mem_cons.1 ((h z).1 (List.mem_cons_of_mem _ hz)) with e | e
      · subst e; have := ha.1 z hz; omega
      · exact e
    · intro hz
      rcases List.mem_cons.1 ((h z).2 (List.mem_cons_of_mem _ hz)) with e | e
      · subst e; have := hb.1 z hz; omega
      · exact e
/-- a sorted list without twins goes up -/
theorem sort_up {l : List Int} (hn : l.Nodup) : (l.mergeSort fun x y => decide (x ≤ y)).Pairwise (· < ·) := by
  have h1 : (l.mergeSort fun x y => decide (x ≤ y)).Pairwise (fun a b => decide (a ≤ b) = true) := List.pairwise_mergeSort (fun a b c h k => by simp at h k ⊢; omega) (fun a b => by simp; omega) l
  have h2 : (l.mergeSort fun x y => decide (x ≤ y)).Nodup := (List.mergeSort_perm l _).nodup_iff.2 hn
  have h3 := h1.and h2
  exact h3.imp fun {a b} ⟨h, k⟩ => by simp at h; omega

/-! ### the lines -/
def itoaS (n : Int) : ByteArray := ⟨(Lib.itoa n).toArray⟩
def wordsL : List ByteArray := [⟨#[114, 101, 103, 105, 111, 110, 115]⟩, ⟨#[117, 110, 105, 116, 115]⟩, ⟨#[97, 110, 115, 119, 101, 114, 115]⟩, ⟨#[99, 111, 109, 109, 105, 116, 115]⟩, ⟨#[100, 114, 111, 112, 115]⟩, ⟨#[106, 111, 98, 32, 108, 105, 110, 101, 115]⟩, ⟨#[100, 111, 119, 110, 115]⟩, ⟨#[117, 112, 115]⟩, ⟨#[102, 105, 110, 100, 105, 110, 103, 115]⟩, ⟨#[108, 111, 115, 115, 101, 115]⟩]
def kLine (wd : ByteArray) (n : Nat) : ByteArray := wd ++ ⟨#[58, 32]⟩ ++ itoaS n
def cLine (c : Int) (n : Nat) : ByteArray := ⟨#[99, 111, 100, 101, 32]⟩ ++ itoaS c ++ ⟨#[58, 32]⟩ ++ itoaS n
def linesK (l : List Ev) (k : Nat) : List ByteArray := (List.range k).flatMap fun (i : Nat) => if 0 < cntK l (i : Int) then [kLine (wordsL.getD i ⟨#[]⟩) (cntK l (i : Int))] else []
theorem linesK_zero (l : List Ev) : linesK l 0 = [] := rfl
theorem linesK_succ (l : List Ev) (k : Nat) : linesK l (k + 1) = linesK l k ++ (if 0 < cntK l (k : Int) then [kLine (wordsL.getD k ⟨#[]⟩) (cntK l (k : Int))] else []) := by
  unfold linesK
  rw [List.range_succ, List.flatMap_append, List.flatMap_cons, List.flatMap_nil, List.append_nil]
def linesC (l : List Ev) (s : List Int) : List ByteArray := s.map fun c => cLine c ((codesL l).count c)
def sumL (l : List Ev) : List ByteArray := linesK l 10 ++ linesC l (setB [] (codesL l))
end Go.Proofs.YtpklgdclknicjaaGreatDoor
