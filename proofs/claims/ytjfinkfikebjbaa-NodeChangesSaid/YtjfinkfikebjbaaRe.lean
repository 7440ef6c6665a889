/- What Insert and Split return, both sides, for any node. -/
import Derived.Test.YtjfinkfikebjbaaRd
namespace Go.Proofs.Ytjfinkfikebjbaa
open Go.RowKit

def insEs (lv nx : Int) (es : List Ent) (i : Int) (x : ByteArray) (p : Int) : List Ent := if insErr lv nx es i x p = 0 then insP es i.toNat x p else []
def splErr (lv nx : Int) (es : List Ent) : Int := if plainB lv nx es = true then (if es.length = 1 then 9 else 0) else 1
def lefts (lv nx : Int) (es : List Ent) : List Ent := if splErr lv nx es = 0 then leftE es else []
def rights (lv nx : Int) (es : List Ent) : List Ent := if splErr lv nx es = 0 then rightE es else []
def bounds (lv nx : Int) (es : List Ent) : ByteArray := if splErr lv nx es = 0 then boundE es else ⟨#[]⟩

theorem insert_res (lv nx : Int) (A : Option Addr) (n c : Nat) (es : List Ent) (i : Int) (x : ByteArray) (p : Int) (w : World) (hs : Es w w.heap.size A n c es) (hn : n ≤ 9223372036854775807) :
    Calls Try.prog 25 #[.agg #[.int .i64 lv, .int .i64 nx, .slice A n c], .int .i64 i, .string x, .int .i64 p] w fun r w' => ∃ A' c', r = .returned (.tuple #[.agg #[.int .i64 (if insErr lv nx es i x p = 0 then lv else 0), .int .i64 (if insErr lv nx es i x p = 0 then nx else 0), .slice A' (insEs lv nx es i x p).length c'], .int .i64 (insErr lv nx es i x p)]) ∧ Es w' w'.heap.size A' (insEs lv nx es i x p).length c' (insEs lv nx es i x p) ∧ Below w.heap.size w w' := by
  by_cases he : insErr lv nx es i x p = 0
  · obtain ⟨_, _, k, hk, hkl, _⟩ := insErr_ok he
    subst hk
    refine (insert_ok lv nx A n c es k x p w hs hn he).mono ?_
    rintro r w' ⟨A', c', rfl, h1, h2⟩
    unfold insEs
    rw [if_pos he, if_pos he, if_pos he, Int.toNat_natCast, insP_len hkl, hs.len, he]
    exact ⟨A', c', rfl, h1, h2⟩
  · refine (insert_no lv nx A n c es i x p w _ hs hn rfl he).mono ?_
    rintro r w' ⟨rfl, h2⟩
    unfold insEs
    rw [if_neg he, if_neg he, if_neg he]
    exact ⟨none, 0, rfl, es_nil, h2⟩
theorem rinsert_res (lv nx : Int) (A : Option Addr) (n c : Nat) (es : List Ent) (i : Int) (x : ByteArray) (p : Int) (w : World) (hs : Es w w.heap.size A n c es) (hn : n ≤ 9223372036854775807) :
    Calls Try.prog 26 #[.agg #[.int .i64 lv, .int .i64 nx, .slice A n c], .int .i64 i, .string x, .int .i64 p] w fun r w' => ∃ A' c', r = .returned (.tuple #[.agg #[.int .i64 (if insErr lv nx es i x p = 0 then lv else 0), .int .i64 (if insErr lv nx es i x p = 0 then nx else 0), .slice A' (insEs lv nx es i x p).length c'], .int .i64 (insErr lv nx es i x p)]) ∧ Es w' w'.heap.size A' (insEs lv nx es i x p).length c' (insEs lv nx es i x p) ∧ Below w.heap.size w w' := by
  by_cases he : insErr lv nx es i x p = 0
  · obtain ⟨_, _, k, hk, hkl, _⟩ := insErr_ok he
    subst hk
    refine (rinsert_ok lv nx A n c es k x p w hs hn he).mono ?_
    rintro r w' ⟨A', c', rfl, h1, h2⟩
    unfold insEs
    rw [if_pos he, if_pos he, if_pos he, Int.toNat_natCast, insP_len hkl, hs.len, he]
    exact ⟨A', c', rfl, h1, h2⟩
  · refine (rinsert_no lv nx A n c es i x p w _ hs hn rfl he).mono ?_
    rintro r w' ⟨rfl, h2⟩
    unfold insEs
    rw [if_neg he, if_neg he, if_neg he]
    exact ⟨none, 0, rfl, es_nil, h2⟩
theorem split_res (lv nx : Int) (A : Option Addr) (n c : Nat) (es : List Ent) (w : World) (hs : Es w w.heap.size A n c es) (hn : n ≤ 9223372036854775807) :
    Calls Try.prog 23 #[.agg #[.int .i64 lv, .int .i64 nx, .slice A n c]] w fun r w' => ∃ A1 c1 A2 c2, r = .returned (.tuple #[.agg #[.int .i64 (if splErr lv nx es = 0 then lv else 0), .int .i64 0, .slice A1 (lefts lv nx es).length c1], .agg #[.int .i64 (if splErr lv nx es = 0 then lv else 0), .int .i64 (if splErr lv nx es = 0 then nx else 0), .slice A2 (rights lv nx es).length c2], .string (bounds lv nx es), .int .i64 (splErr lv nx es)]) ∧
      Es w' w'.heap.size A1 (lefts lv nx es).length c1 (lefts lv nx es) ∧ Es w' w'.heap.size A2 (rights lv nx es).length c2 (rights lv nx es) ∧ Below w.heap.size w w' := by
  have hl := hs.len
  cases hp : plainB lv nx es with
  | false =>
    have he : splErr lv nx es = 1 := by simp [splErr, hp]
    refine (split_bad lv nx A n c es w hs hp hn).mono ?_
    rintro r w' ⟨rfl, h⟩
    unfold lefts rights bounds
    rw [he]
    exact ⟨none, 0, none, 0, rfl, es_nil, es_nil, h⟩
  | true =>
    have hlen := plain_len hp
    by_cases h1 : es.length = 1
    · have he : splErr lv nx es = 9 := by simp [splErr, hp, h1]
      obtain rfl : n = 1 := by omega
      refine (split_one lv nx A c es w hs hp).mono ?_
      rintro r w' ⟨rfl, h⟩
      unfold lefts rights bounds
      rw [he]
      exact ⟨none, 0, none, 0, rfl, es_nil, es_nil, h⟩
    · have he : splErr lv nx es = 0 := by simp [splErr, hp, h1]
      refine (split_ok lv nx A n c es w hs hp (by omega)).mono ?_
      rintro r w' ⟨A1, c1, A2, c2, rfl, h2, h3, h4⟩
      unfold lefts rights bounds
      rw [if_pos he, if_pos he, if_pos he, if_pos he, if_pos he, left_len (by omega), right_len, hl, he]
      exact ⟨A1, c1, A2, c2, rfl, h2, h3, h4⟩
theorem rsplit_res (lv nx : Int) (A : Option Addr) (n c : Nat) (es : List Ent) (w : World) (hs : Es w w.heap.size A n c es) (hn : n ≤ 9223372036854775807) :
    Calls Try.prog 27 #[.agg #[.int .i64 lv, .int .i64 nx, .slice A n c]] w fun r w' => ∃ A1 c1 A2 c2, r = .returned (.tuple #[.agg #[.int .i64 (if splErr lv nx es = 0 then lv else 0), .int .i64 0, .slice A1 (lefts lv nx es).length c1], .agg #[.int .i64 (if splErr lv nx es = 0 then lv else 0), .int .i64 (if splErr lv nx es = 0 then nx else 0), .slice A2 (rights lv nx es).length c2], .string (bounds lv nx es), .int .i64 (splErr lv nx es)]) ∧
      Es w' w'.heap.size A1 (lefts lv nx es).length c1 (lefts lv nx es) ∧ Es w' w'.heap.size A2 (rights lv nx es).length c2 (rights lv nx es) ∧ Below w.heap.size w w' := by
  have hl := hs.len
  cases hp : plainB lv nx es with
  | false =>
    have he : splErr lv nx es = 1 := by simp [splErr, hp]
    refine (rsplit_bad lv nx A n c es w hs hp hn).mono ?_
    rintro r w' ⟨rfl, h⟩
    unfold lefts rights bounds
    rw [he]
    exact ⟨none, 0, none, 0, rfl, es_nil, es_nil, h⟩
  | true =>
    have hlen := plain_len hp
    by_cases h1 : es.length = 1
    · have he : splErr lv nx es = 9 := by simp [splErr, hp, h1]
      obtain rfl : n = 1 := by omega
      refine (rsplit_one lv nx A c es w hs hp).mono ?_
      rintro r w' ⟨rfl, h⟩
      unfold lefts rights bounds
      rw [he]
      exact ⟨none, 0, none, 0, rfl, es_nil, es_nil, h⟩
    · have he : splErr lv nx es = 0 := by simp [splErr, hp, h1]
      refine (rsplit_ok lv nx A n c es w hs hp (by omega)).mono ?_
      rintro r w' ⟨A1, c1, A2, c2, rfl, h2, h3, h4⟩
      unfold lefts rights bounds
      rw [if_pos he, if_pos he, if_pos he, if_pos he, if_pos he, left_len (by omega), right_len, hl, he]
      exact ⟨A1, c1, A2, c2, rfl, h2, h3, h4⟩

theorem insEs_small {lv nx : Int} {es : List Ent} {i : Int} {x : ByteArray} {p : Int} : (insEs lv nx es i x p).length ≤ 200 := by
  unfold insEs
  split
  · rename_i h
    obtain ⟨_, _, k, hk, hkl, _⟩ := insErr_ok h
    subst hk
    have := ins_plain h
    rw [Int.toNat_natCast, insP_len hkl]; omega
  · simp
theorem spl_small {lv nx : Int} {es : List Ent} : (lefts lv nx es).length ≤ 200 ∧ (rights lv nx es).length ≤ 200 := by
  unfold lefts rights
  by_cases h : splErr lv nx es = 0
  · rw [if_pos h, if_pos h]
    unfold splErr at h
    split at h
    · rename_i hp
      have hl := plain_len hp
      split at h
      · cases h
      · have := left_len (es := es) (by omega)
        have := right_len (es := es)
        have : halfN es ≤ es.length := by unfold halfN; omega
        omega
    · cases h
  · rw [if_neg h, if_neg h]; simp
end Go.Proofs.Ytjfinkfikebjbaa
