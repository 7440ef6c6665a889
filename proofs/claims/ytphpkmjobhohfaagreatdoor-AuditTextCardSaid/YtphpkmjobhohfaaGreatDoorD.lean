/- Text of the reference. -/
import Derived.Test.YtphpkmjobhohfaaGreatDoorC
import Derived.Deep.RegionHeld3
namespace Go.Proofs.YtphpkmjobhohfaaGreatDoor
open Go.RowKit

def itoaB (n : Int) : ByteArray := ⟨(Lib.itoa n).toArray⟩
theorem itoaB_size {n : Int} (h0 : -9223372036854775807 ≤ n) (h1 : n ≤ 9223372036854775807) : (itoaB n).size ≤ 20 := by
  show (Lib.itoa n).toArray.size ≤ 20
  rw [List.size_toArray]
  unfold Lib.itoa
  split
  · have := dec_len 18 n.natAbs (by omega); simp; omega
  · have := dec_len 18 n.toNat (by omega); omega



set_option maxRecDepth 100000 in
set_option maxHeartbeats 1000000 in
theorem rText_nolabel (vol name key : ByteArray) (id unit sec : Int) (w : World) (hv : vol.size ≤ 60) (hn : name.size ≤ 60) (hi0 : -9223372036854775807 ≤ id) (hi1 : id ≤ 9223372036854775807) :
    Calls Tryz.prog 6 #[.agg #[.int .i64 3, .string vol, .int .i64 id, .int .i64 unit, .string name, .int .i64 sec, .string key]] w fun e w' =>
      e = .returned (.string (⟨#[110, 111, 108, 97, 98, 101, 108, 32]⟩ ++ vol ++ (⟨#[32]⟩ ++ itoaB id) ++ ⟨#[32]⟩ ++ name)) ∧ Below w.heap.size w w' := by
  obtain ⟨t, ht⟩ : ∃ t, itoaB id = t := ⟨_, rfl⟩
  have hts : t.size ≤ 20 := by rw [← ht]; exact itoaB_size hi0 hi1
  rw [ht]
  have HC : Hid (∀ W : World, Calls Tryz.prog 10 #[.int .i64 id] W fun e w' => e = .returned (.string t) ∧ Below W.heap.size W w') := Lib.hid (fun W => by rw [← ht]; exact rdecimal_any id hi0 hi1 W)
  clear ht
  go_enter Tryz.func6, Tryz.ntmps6
  go_wp2_with fail
  refine (HC.out _).mono ?_
  rintro e w1 ⟨rfl, hb1⟩
  have x1 : Below (w.heap.size + 1) (w.alloc (.cells #[.int .i64 3, .string vol, .int .i64 id, .int .i64 unit, .string name, .int .i64 sec, .string key] 23)) w1 := by simpa using hb1
  have c0 := bx_cell x1 0
  have c1 := bx_cell x1 1
  have c4 := bx_cell x1 4
  simp at c0 c1 c4
  have X1 := Lib.hid x1
  clear hb1 x1
  have y1 : (⟨#[32]⟩ : ByteArray).size = 1 := rfl
  have s1 : (⟨#[32]⟩ : ByteArray).size + t.size ≤ 9223372036854775807 := by omega
  go_wp2
  go_ret
  exact ⟨rfl, bx_below X1.out⟩

set_option maxRecDepth 100000 in
set_option maxHeartbeats 1000000 in
theorem rText_noentry (vol name key : ByteArray) (id unit sec : Int) (w : World) (hv : vol.size ≤ 60) (hn : name.size ≤ 60) (hi0 : -9223372036854775807 ≤ id) (hi1 : id ≤ 9223372036854775807) :
    Calls Tryz.prog 6 #[.agg #[.int .i64 4, .string vol, .int .i64 id, .int .i64 unit, .string name, .int .i64 sec, .string key]] w fun e w' =>
      e = .returned (.string (⟨#[110, 111, 101, 110, 116, 114, 121, 32]⟩ ++ vol ++ (⟨#[32]⟩ ++ itoaB id) ++ ⟨#[32]⟩ ++ name)) ∧ Below w.heap.size w w' := by
  obtain ⟨t, ht⟩ : ∃ t, itoaB id = t := ⟨_, rfl⟩
  have hts : t.size ≤ 20 := by rw [← ht]; exact itoaB_size hi0 hi1
  rw [ht]
  have HC : Hid (∀ W : World, Calls Tryz.prog 10 #[.int .i64 id] W fun e w' => e = .returned (.string t) ∧ Below W.heap.size W w') := Lib.hid (fun W => by rw [← ht]; exact rdecimal_any id hi0 hi1 W)
  clear ht
  go_enter Tryz.func6, Tryz.ntmps6
  go_wp2_with fail
  refine (HC.out _).mono ?_
  rintro e w1 ⟨rfl, hb1⟩
  have x1 : Below (w.heap.size + 1) (w.alloc (.cells #[.int .i64 4, .string vol, .int .i64 id, .int .i64 unit, .string name, .int .i64 sec, .string key] 23)) w1 := by simpa using hb1
  have c0 := bx_cell x1 0
  have c1 := bx_cell x1 1
  have c4 := bx_cell x1 4
  simp at c0 c1 c4
  have X1 := Lib.hid x1
  clear hb1 x1
  have y1 : (⟨#[32]⟩ : ByteArray).size = 1 := rfl
  have s1 : (⟨#[32]⟩ : ByteArray).size + t.size ≤ 9223372036854775807 := by omega
  go_wp2
  go_ret
  exact ⟨rfl, bx_below X1.out⟩

set_option maxRecDepth 100000 in
set_option maxHeartbeats 1000000 in
theorem rText_twice (vol name key : ByteArray) (id unit sec : Int) (w : World) (hv : vol.size ≤ 60) (hn : name.size ≤ 60) (hi0 : -9223372036854775807 ≤ id) (hi1 : id ≤ 9223372036854775807) :
    Calls Tryz.prog 6 #[.agg #[.int .i64 5, .string vol, .int .i64 id, .int .i64 unit, .string name, .int .i64 sec, .string key]] w fun e w' =>
      e = .returned (.string (⟨#[116, 119, 105, 99, 101, 32]⟩ ++ vol ++ (⟨#[32]⟩ ++ itoaB id) ++ ⟨#[32]⟩ ++ name)) ∧ Below w.heap.size w w' := by
  obtain ⟨t, ht⟩ : ∃ t, itoaB id = t := ⟨_, rfl⟩
  have hts : t.size ≤ 20 := by rw [← ht]; exact itoaB_size hi0 hi1
  rw [ht]
  have HC : Hid (∀ W : World, Calls Tryz.prog 10 #[.int .i64 id] W fun e w' => e = .returned (.string t) ∧ Below W.heap.size W w') := Lib.hid (fun W => by rw [← ht]; exact rdecimal_any id hi0 hi1 W)
  clear ht
  go_enter Tryz.func6, Tryz.ntmps6
  go_wp2_with fail
  refine (HC.out _).mono ?_
  rintro e w1 ⟨rfl, hb1⟩
  have x1 : Below (w.heap.size + 1) (w.alloc (.cells #[.int .i64 5, .string vol, .int .i64 id, .int .i64 unit, .string name, .int .i64 sec, .string key] 23)) w1 := by simpa using hb1
  have c0 := bx_cell x1 0
  have c1 := bx_cell x1 1
  have c4 := bx_cell x1 4
  simp at c0 c1 c4
  have X1 := Lib.hid x1
  clear hb1 x1
  have y1 : (⟨#[32]⟩ : ByteArray).size = 1 := rfl
  have s1 : (⟨#[32]⟩ : ByteArray).size + t.size ≤ 9223372036854775807 := by omega
  go_wp2
  go_ret
  exact ⟨rfl, bx_below X1.out⟩

set_option maxRecDepth 100000 in
set_option maxHeartbeats 1000000 in
theorem rText_note (vol name key : ByteArray) (id unit sec : Int) (w : World) (hv : vol.size ≤ 60) (hn : name.size ≤ 60) (hi0 : -9223372036854775807 ≤ id) (hi1 : id ≤ 9223372036854775807) :
    Calls Tryz.prog 6 #[.agg #[.int .i64 2, .string vol, .int .i64 id, .int .i64 unit, .string name, .int .i64 sec, .string key]] w fun e w' =>
      e = .returned (.string (⟨#[110, 111, 116, 101, 32]⟩ ++ vol ++ (⟨#[32]⟩ ++ itoaB id) ++ ⟨#[32]⟩ ++ name)) ∧ Below w.heap.size w w' := by
  obtain ⟨t, ht⟩ : ∃ t, itoaB id = t := ⟨_, rfl⟩
  have hts : t.size ≤ 20 := by rw [← ht]; exact itoaB_size hi0 hi1
  rw [ht]
  have HC : Hid (∀ W : World, Calls Tryz.prog 10 #[.int .i64 id] W fun e w' => e = .returned (.string t) ∧ Below W.heap.size W w') := Lib.hid (fun W => by rw [← ht]; exact rdecimal_any id hi0 hi1 W)
  clear ht
  go_enter Tryz.func6, Tryz.ntmps6
  go_wp2_with fail
  refine (HC.out _).mono ?_
  rintro e w1 ⟨rfl, hb1⟩
  have x1 : Below (w.heap.size + 1) (w.alloc (.cells #[.int .i64 2, .string vol, .int .i64 id, .int .i64 unit, .string name, .int .i64 sec, .string key] 23)) w1 := by simpa using hb1
  have c0 := bx_cell x1 0
  have c1 := bx_cell x1 1
  have c4 := bx_cell x1 4
  simp at c0 c1 c4
  have X1 := Lib.hid x1
  clear hb1 x1
  have y1 : (⟨#[32]⟩ : ByteArray).size = 1 := rfl
  have s1 : (⟨#[32]⟩ : ByteArray).size + t.size ≤ 9223372036854775807 := by omega
  go_wp2
  go_ret
  exact ⟨rfl, bx_below X1.out⟩

set_option maxRecDepth 100000 in
set_option maxHeartbeats 1000000 in
theorem rText_form (vol name key : ByteArray) (id unit sec : Int) (w : World) (hv : vol.size ≤ 60) (hn : name.size ≤ 60) (hi0 : -9223372036854775807 ≤ id) (hi1 : id ≤ 9223372036854775807) :
    Calls Tryz.prog 6 #[.agg #[.int .i64 8, .string vol, .int .i64 id, .int .i64 unit, .string name, .int .i64 sec, .string key]] w fun e w' =>
      e = .returned (.string (⟨#[102, 111, 114, 109, 32]⟩ ++ vol ++ (⟨#[32]⟩ ++ itoaB id) ++ ⟨#[32]⟩ ++ name)) ∧ Below w.heap.size w w' := by
  obtain ⟨t, ht⟩ : ∃ t, itoaB id = t := ⟨_, rfl⟩
  have hts : t.size ≤ 20 := by rw [← ht]; exact itoaB_size hi0 hi1
  rw [ht]
  have HC : Hid (∀ W : World, Calls Tryz.prog 10 #[.int .i64 id] W fun e w' => e = .returned (.string t) ∧ Below W.heap.size W w') := Lib.hid (fun W => by rw [← ht]; exact rdecimal_any id hi0 hi1 W)
  clear ht
  go_enter Tryz.func6, Tryz.ntmps6
  go_wp2_with fail
  refine (HC.out _).mono ?_
  rintro e w1 ⟨rfl, hb1⟩
  have x1 : Below (w.heap.size + 1) (w.alloc (.cells #[.int .i64 8, .string vol, .int .i64 id, .int .i64 unit, .string name, .int .i64 sec, .string key] 23)) w1 := by simpa using hb1
  have c0 := bx_cell x1 0
  have c1 := bx_cell x1 1
  have c4 := bx_cell x1 4
  simp at c0 c1 c4
  have X1 := Lib.hid x1
  clear hb1 x1
  have y1 : (⟨#[32]⟩ : ByteArray).size = 1 := rfl
  have s1 : (⟨#[32]⟩ : ByteArray).size + t.size ≤ 9223372036854775807 := by omega
  go_wp2
  go_ret
  exact ⟨rfl, bx_below X1.out⟩

set_option maxRecDepth 100000 in
set_option maxHeartbeats 1000000 in
theorem rText_volume (vol name key : ByteArray) (id unit sec : Int) (w : World) (hv : vol.size ≤ 60) (hi0 : -9223372036854775807 ≤ id) (hi1 : id ≤ 9223372036854775807) :
    Calls Tryz.prog 6 #[.agg #[.int .i64 0, .string vol, .int .i64 id, .int .i64 unit, .string name, .int .i64 sec, .string key]] w fun e w' =>
      e = .returned (.string (⟨#[118, 111, 108, 117, 109, 101, 32]⟩ ++ vol)) ∧ Below w.heap.size w w' := by
  obtain ⟨t, ht⟩ : ∃ t, itoaB id = t := ⟨_, rfl⟩
  have hts : t.size ≤ 20 := by rw [← ht]; exact itoaB_size hi0 hi1
  skip
  have HC : Hid (∀ W : World, Calls Tryz.prog 10 #[.int .i64 id] W fun e w' => e = .returned (.string t) ∧ Below W.heap.size W w') := Lib.hid (fun W => by rw [← ht]; exact rdecimal_any id hi0 hi1 W)
  clear ht
  go_enter Tryz.func6, Tryz.ntmps6
  go_wp2_with fail
  refine (HC.out _).mono ?_
  rintro e w1 ⟨rfl, hb1⟩
  have x1 : Below (w.heap.size + 1) (w.alloc (.cells #[.int .i64 0, .string vol, .int .i64 id, .int .i64 unit, .string name, .int .i64 sec, .string key] 23)) w1 := by simpa using hb1
  have c0 := bx_cell x1 0
  have c1 := bx_cell x1 1
  have c4 := bx_cell x1 4
  simp at c0 c1 c4
  have X1 := Lib.hid x1
  clear hb1 x1
  have y1 : (⟨#[32]⟩ : ByteArray).size = 1 := rfl
  have s1 : (⟨#[32]⟩ : ByteArray).size + t.size ≤ 9223372036854775807 := by omega
  go_wp2
  go_ret
  exact ⟨rfl, bx_below X1.out⟩

set_option maxRecDepth 100000 in
set_option maxHeartbeats 1000000 in
theorem rText_log (vol name key : ByteArray) (id unit sec : Int) (w : World)  (hid0 : -9223372036854775807 ≤ id) (hid1 : id ≤ 9223372036854775807) (hsec0 : -9223372036854775807 ≤ sec) (hsec1 : sec ≤ 9223372036854775807) :
    Calls Tryz.prog 6 #[.agg #[.int .i64 10, .string vol, .int .i64 id, .int .i64 unit, .string name, .int .i64 sec, .string key]] w fun e w' =>
      e = .returned (.string (⟨#[108, 111, 103, 32]⟩ ++ itoaB sec)) ∧ Below w.heap.size w w' := by
  obtain ⟨t0, ht0⟩ : ∃ t, itoaB id = t := ⟨_, rfl⟩
  have hts0 : t0.size ≤ 20 := by rw [← ht0]; exact itoaB_size hid0 hid1
  skip
  have HC0 : Hid (∀ W : World, Calls Tryz.prog 10 #[.int .i64 id] W fun e w' => e = .returned (.string t0) ∧ Below W.heap.size W w') := Lib.hid (fun W => by rw [← ht0]; exact rdecimal_any id hid0 hid1 W)
  clear ht0
  obtain ⟨t1, ht1⟩ : ∃ t, itoaB sec = t := ⟨_, rfl⟩
  have hts1 : t1.size ≤ 20 := by rw [← ht1]; exact itoaB_size hsec0 hsec1
  rw [ht1]
  have HC1 : Hid (∀ W : World, Calls Tryz.prog 10 #[.int .i64 sec] W fun e w' => e = .returned (.string t1) ∧ Below W.heap.size W w') := Lib.hid (fun W => by rw [← ht1]; exact rdecimal_any sec hsec0 hsec1 W)
  clear ht1
  go_enter Tryz.func6, Tryz.ntmps6
  go_wp2_with fail
  refine (HC0.out _).mono ?_
  rintro e w1 ⟨rfl, hb1⟩
  have x1 : Below (w.heap.size + 1) (w.alloc (.cells #[.int .i64 10, .string vol, .int .i64 id, .int .i64 unit, .string name, .int .i64 sec, .string key] 23)) w1 := by simpa using hb1
  have c0 := bx_cell x1 0
  have c1 := bx_cell x1 1
  have c3 := bx_cell x1 3
  have c5 := bx_cell x1 5
  simp at c0 c1 c3 c5
  have X1 := Lib.hid x1
  clear hb1 x1
  have y1 : (⟨#[32]⟩ : ByteArray).size = 1 := rfl
  have s1 : (⟨#[32]⟩ : ByteArray).size + t0.size ≤ 9223372036854775807 := by omega
  go_wp2_with fail
  refine (HC1.out _).mono ?_
  rintro e w2 ⟨rfl, hb2⟩
  have X2 := Lib.hid (below_next X1.out hb2 (bx_size X1.out))
  clear hb2
  go_wp2
  go_ret
  exact ⟨rfl, bx_below X2.out⟩

end Go.Proofs.YtphpkmjobhohfaaGreatDoor
