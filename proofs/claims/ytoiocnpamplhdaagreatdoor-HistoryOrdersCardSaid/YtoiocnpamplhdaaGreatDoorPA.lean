/- History: which units conflict, as a plain list of pairs. -/
import Derived.Test.YtoiocnpamplhdaaGreatDoorKD
namespace Go.Proofs.YtoiocnpamplhdaaGreatDoor
open Go.RowKit

def confB (a b : Com) : Bool := meetB (a.cs.map chT) (b.cs.map chT) || (meetB (a.cs.map chT) (b.rs.map rdT) || meetB (a.rs.map rdT) (b.cs.map chT))
def confAt (s : List Com) (i k : Nat) : Bool := match s[i]?, s[k]? with
  | some a, some b => confB a b
  | _, _ => false
theorem confAt_is {s : List Com} {i k : Nat} {a b : Com} (h1 : s[i]? = some a) (h2 : s[k]? = some b) : confAt s i k = confB a b := by
  unfold confAt; rw [h1, h2]
def pC (p : Nat × Nat) : List Value := [.int .i64 p.1, .int .i64 p.2]
theorem pC_len (p : Nat × Nat) : (pC p).length = 2 := rfl
theorem pC_one (l : List (Nat × Nat)) : ∀ u ∈ flat pC l, u.oneCell' = true := by
  intro u hu
  obtain ⟨c, _, h⟩ := List.mem_flatMap.1 hu
  simp [pC] at h
  rcases h with rfl | rfl <;> rfl
/-- the pairs (i, q) for q below k -/
def rowL (s : List Com) (i k : Nat) : List (Nat × Nat) := ((List.range k).filter fun q => decide (i < q) && confAt s i q).map fun q => (i, q)
/-- the pairs of the units below i -/
def confL (s : List Com) (i : Nat) : List (Nat × Nat) := (List.range i).flatMap fun q => rowL s q s.length
theorem confL_zero (s : List Com) : confL s 0 = [] := rfl
theorem confL_succ (s : List Com) (i : Nat) : confL s (i + 1) = confL s i ++ rowL s i s.length := by
  unfold confL
  rw [List.range_succ, List.flatMap_append, List.flatMap_cons, List.flatMap_nil, List.append_nil]
theorem rowL_start (s : List Com) (i : Nat) : rowL s i (i + 1) = [] := by
  unfold rowL
  rw [List.map_eq_nil_iff, List.filter_eq_nil_iff]
  intro q hq
  have : q < i + 1 := List.mem_range.1 hq
  simp; omega
theorem rowL_yes {s : List Com} {i k : Nat} (h : i < k) (hc : confAt s i k = true) : rowL s i (k + 1) = rowL s i k ++ [(i, k)] := by
  unfold rowL
  rw [List.range_succ, List.filter_append, List.map_append]
  simp [h, hc]
theorem rowL_no {s : List Com} {i k : Nat} (hc : confAt s i k = false) : rowL s i (k + 1) = rowL s i k := by
  unfold rowL
  rw [List.range_succ, List.filter_append, List.map_append]
  simp [hc]
theorem rowL_len (s : List Com) (i k : Nat) : (rowL s i k).length ≤ k := by
  unfold rowL
  rw [List.length_map]
  exact Nat.le_trans (List.length_filter_le _ _) (by simp)
theorem confL_len (s : List Com) : ∀ i, (confL s i).length ≤ i * s.length
  | 0 => by simp [confL]
  | i + 1 => by
    rw [confL_succ, List.length_append, Nat.succ_mul]
    have := confL_len s i
    have := rowL_len s i s.length
    omega
/-- the call returns a slice that reads as these pairs -/
def GivesP (w : World) (l : List (Nat × Nat)) (e : Ending) (w' : World) : Prop := ∃ A c, e = .returned (.slice A l.length c) ∧ Sl pC 2 w' w'.heap.size A l.length c l ∧ Below w.heap.size w w'
theorem infoPP : (Tryz.prog.info? 31).map (fun i => (i.zero, i.size, i.bytes)) = some (some (.agg #[.int .i64 0, .int .i64 0]), 2, 16) := by kernel_rfl
/-- what holds in the region of the three meets -/
structure CI (wx : World) (ga : Nat) (ca cb : Array Value) (W : World) : Prop where
  bx : Below wx.heap.size wx W
  ba : Blk W ga 43 ca
  bb : Blk W wx.heap.size 43 cb
  lt : ga < wx.heap.size
section
variable {wx W W' : World} {ga : Nat} {ca cb : Array Value}
theorem CI.next (h : CI wx ga ca cb W) (hb : Below W.heap.size W W') : CI wx ga ca cb W' :=
  ⟨below_next h.bx hb h.bx.size, h.ba.below hb h.ba.lt, h.bb.below hb h.bb.lt, h.lt⟩
theorem CI.drew (h : CI wx ga ca cb W) : CI wx ga ca cb W.drew := ⟨h.bx.drew, h.ba, h.bb, h.lt⟩
theorem CI.start (h : Blk wx ga 43 ca) (cb : Array Value) : CI wx ga ca cb (wx.alloc (.cells cb 43)) :=
  ⟨(Below.refl _ _).alloc (Nat.le_refl _) _, h.alloc _, Blk.new wx _ cb, h.lt⟩
theorem CI.cells {a0 a1 a2 a3 b0 b1 b2 b3 : Value} (h : CI wx ga #[a0, a1, a2, a3] #[b0, b1, b2, b3] W) :
    W.cell? ⟨ga, 0, none⟩ = some a0 ∧ W.cell? ⟨ga, 1, none⟩ = some a1 ∧ W.cell? ⟨ga, 2, none⟩ = some a2 ∧ W.cell? ⟨ga, 3, none⟩ = some a3 ∧
    W.cell? ⟨wx.heap.size, 0, none⟩ = some b0 ∧ W.cell? ⟨wx.heap.size, 1, none⟩ = some b1 ∧ W.cell? ⟨wx.heap.size, 2, none⟩ = some b2 ∧ W.cell? ⟨wx.heap.size, 3, none⟩ = some b3 :=
  ⟨h.ba.cell 0, h.ba.cell 1, h.ba.cell 2, h.ba.cell 3, h.bb.cell 0, h.bb.cell 1, h.bb.cell 2, h.bb.cell 3⟩
end
end Go.Proofs.YtoiocnpamplhdaaGreatDoor
