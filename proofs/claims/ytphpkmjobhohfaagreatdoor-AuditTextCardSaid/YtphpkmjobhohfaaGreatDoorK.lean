/- What the kinds of findings list: named, labelled and the four closures. -/
import Derived.Test.YtphpkmjobhohfaaGreatDoorJ
import Derived.Test.YtphpkmjobhohfaaGreatDoorShelf
import Derived.Lib.SmallJoins
import Derived.Lib.AppendIntMem
namespace Go.Proofs.YtphpkmjobhohfaaGreatDoor
open Go.RowKit

def Tab (w : World) : Prop := Lib.TabIs Tryz.prog w "internal/strconv.uint64pow10" .u64 Lib.pow10Tab
theorem gTab : Tryz.prog.globalNamed "internal/strconv.uint64pow10" = some 1 := by kernel_rfl
theorem Tab.below {w w' : World} {B : Nat} (h : Tab w) (hb : Below B w w') (hB : w.heap.size ≤ B) : Tab w' := Joins.tab_stays gTab h hb hB
theorem Tab.alloc {w : World} (h : Tab w) (o : Obj) : Tab (w.alloc o) := h.below ((Below.refl w.heap.size w).alloc (Nat.le_refl _) o) (Nat.le_refl _)
theorem undrew {B : Nat} {a w : World} (h : Below B a.drew w) : Below B a w := ⟨h.os, h.tape, h.output, h.size, h.block⟩
theorem bxd {w w1 : World} {cs : Array Value} {t : TypeId} (h : Below (w.alloc (.cells cs t)).drew.heap.size (w.alloc (.cells cs t)).drew w1) : Below (w.heap.size + 1) (w.alloc (.cells cs t)) w1 := by
  have := undrew h
  simpa using this
theorem alloc_size (w : World) (o : Obj) : (w.alloc o).heap.size = w.heap.size + 1 := by simp
theorem itoa_any (n : Int) (h0 : -9223372036854775807 ≤ n) (h1 : n ≤ 9223372036854775807) (w : World) (ht : Tab w) :
    Calls Tryz.prog 20 #[.int .i64 n] w fun e w' => e = .returned (.string (itoaB n)) ∧ Below w.heap.size w w' :=
  (Tryz.strconv_Itoa n (by omega) h1 w ht).mono fun _ _ ⟨he, k, os, hw⟩ => ⟨he, by rw [hw]; exact Lib.below_grow _ _ (Nat.le_refl _) k os⟩
def strs (l : List ByteArray) : List Value := l.map Value.string
theorem own_new (w : World) (B : Nat) (l : List ByteArray) (hB : B ≤ w.heap.size) (hl : l.length ≤ 100) :
    (w.alloc (.cells (strs l).toArray 9)).ownsRow B 9 1 (.slice (some ⟨w.heap.size, 0, none⟩) l.length l.length) l.length (strs l) := by
  refine ⟨by simp [strs], .inr ⟨w.heap.size, l.length, (strs l).toArray, rfl, hB, heap_alloc_new w _, Nat.le_refl _, by unfold maxLen; omega, by simp [strs], ?_⟩⟩
  simp [strs, List.take_of_length_le]

/-- a finding as a value -/
def fnd (k id unit sec : Int) (vol name key : ByteArray) : Array Value := #[.int .i64 k, .string vol, .int .i64 id, .int .i64 unit, .string name, .int .i64 sec, .string key]
/-- the call returns a new slice that reads as these strings -/
def Gives (w : World) (l : List ByteArray) (e : Ending) (w' : World) : Prop := ∃ v, e = .returned v ∧ w'.ownsRow w.heap.size 9 1 v l.length (strs l) ∧ Below w.heap.size w w'

set_option maxRecDepth 100000 in
set_option maxHeartbeats 1000000 in
theorem named_any (k id unit sec : Int) (vol name key : ByteArray) (w : World) (ht : Tab w) (h0 : -9223372036854775807 ≤ id) (h1 : id ≤ 9223372036854775807) :
    Calls Tryz.prog 22 #[.agg #[.int .i64 k, .string vol, .int .i64 id, .int .i64 unit, .string name, .int .i64 sec, .string key]] w (Gives w [vol, itoaB id, name]) := by
  have HT := Lib.hid (ht.alloc (.cells #[.int .i64 k, .string vol, .int .i64 id, .int .i64 unit, .string name, .int .i64 sec, .string key] 23))
  clear ht
  go_enter Tryz.func22, Tryz.ntmps22
  go_wp2_with fail
  go_region_held3 (fun w' => w'.cell? ⟨w.heap.size, 1, none⟩ = some (.string vol) ∧ w'.cell? ⟨w.heap.size, 2, none⟩ = some (.int .i64 id) ∧ w'.cell? ⟨w.heap.size, 4, none⟩ = some (.string name)) (first | go_keep | exact ⟨c1, c2, c4⟩) ((go_at_call 20; refine (itoa_any id h0 h1 _ (by exact HT.out)).mono ?_; rintro e w1 ⟨rfl, hb1⟩; have x1 := bxd hb1; have c1 := bx_cell x1 1; have c2 := bx_cell x1 2; have c4 := bx_cell x1 4; simp at c1 c2 c4; have X1 := Lib.hid x1; clear hb1 x1))
  all_goals
    go_wp2
    go_ret
    exact ⟨_, rfl, own_new w1 w.heap.size [vol, itoaB id, name] (Nat.le_of_succ_le (bx_size X1.out)) (by simp), (bx_below X1.out).alloc (Nat.le_of_succ_le (bx_size X1.out)) _⟩

set_option maxRecDepth 100000 in
set_option maxHeartbeats 1000000 in
theorem labelled_any (k id unit sec : Int) (vol name key : ByteArray) (w : World) (ht : Tab w) (h0 : -9223372036854775807 ≤ id) (h1 : id ≤ 9223372036854775807) (h2 : -9223372036854775807 ≤ unit) (h3 : unit ≤ 9223372036854775807) :
    Calls Tryz.prog 19 #[.agg #[.int .i64 k, .string vol, .int .i64 id, .int .i64 unit, .string name, .int .i64 sec, .string key]] w (Gives w [vol, itoaB id, itoaB unit]) := by
  have HT := Lib.hid (ht.alloc (.cells #[.int .i64 k, .string vol, .int .i64 id, .int .i64 unit, .string name, .int .i64 sec, .string key] 23))
  have HZ : Hid ((w.alloc (.cells #[.int .i64 k, .string vol, .int .i64 id, .int .i64 unit, .string name, .int .i64 sec, .string key] 23)).heap.size ≤ w.heap.size + 1) := Lib.hid (by simp)
  clear ht
  go_enter Tryz.func19, Tryz.ntmps19
  go_wp2_with fail
  go_region_held3 (fun w' => w'.cell? ⟨w.heap.size, 1, none⟩ = some (.string vol) ∧ w'.cell? ⟨w.heap.size, 2, none⟩ = some (.int .i64 id) ∧ w'.cell? ⟨w.heap.size, 3, none⟩ = some (.int .i64 unit)) (first | go_keep | exact ⟨c1, c2, c4⟩ | exact ⟨d1, d2, d4⟩) (first | (go_at_call 20; refine (itoa_any _ (by assumption) (by assumption) _ (by exact HT.out)).mono ?_; rintro e w1 ⟨rfl, hb1⟩; have x1 := bxd hb1; have c1 := bx_cell x1 1; have c2 := bx_cell x1 2; have c4 := bx_cell x1 3; simp at c1 c2 c4; have T1 := Lib.hid (HT.out.below x1 HZ.out); have X1 := Lib.hid x1; clear hb1 x1 HT) | (go_at_call 20; refine (itoa_any _ (by assumption) (by assumption) _ (by exact T1.out)).mono ?_; rintro e w2 ⟨rfl, hb2⟩; have x2 := below_next X1.out hb2 (bx_size X1.out); have d1 := bx_cell x2 1; have d2 := bx_cell x2 2; have d4 := bx_cell x2 3; simp at d1 d2 d4; have X2 := Lib.hid x2; clear hb2 x2))
  all_goals
    go_wp2
    go_ret
    exact ⟨_, rfl, own_new w2 w.heap.size [vol, itoaB id, itoaB unit] (Nat.le_of_succ_le (bx_size X2.out)) (by simp), (bx_below X2.out).alloc (Nat.le_of_succ_le (bx_size X2.out)) _⟩

set_option maxRecDepth 100000 in
set_option maxHeartbeats 1000000 in
theorem kind1_any (k id unit sec : Int) (vol name key : ByteArray) (w : World) :
    Calls Tryz.prog 17 #[.agg #[.int .i64 k, .string vol, .int .i64 id, .int .i64 unit, .string name, .int .i64 sec, .string key]] w (Gives w [vol]) := by
  go_enter Tryz.func17, Tryz.ntmps17
  go_wp2
  go_ret
  have X1 := Below.refl (w.heap.size + 1) (w.alloc (.cells #[.int .i64 k, .string vol, .int .i64 id, .int .i64 unit, .string name, .int .i64 sec, .string key] 23))
  have O := own_new (w.alloc (.cells #[.int .i64 k, .string vol, .int .i64 id, .int .i64 unit, .string name, .int .i64 sec, .string key] 23)) w.heap.size [vol] (Nat.le_of_succ_le (bx_size X1)) (by simp)
  rw [alloc_size] at O
  exact ⟨_, rfl, O, (bx_below X1).alloc (Nat.le_of_succ_le (bx_size X1)) _⟩

set_option maxRecDepth 100000 in
set_option maxHeartbeats 1000000 in
theorem kind3_any (k id unit sec : Int) (vol name key : ByteArray) (w : World) (ht : Tab w) (h0 : -9223372036854775807 ≤ sec) (h1 : sec ≤ 9223372036854775807) :
    Calls Tryz.prog 21 #[.agg #[.int .i64 k, .string vol, .int .i64 id, .int .i64 unit, .string name, .int .i64 sec, .string key]] w (Gives w [itoaB sec]) := by
  have HT := Lib.hid (ht.alloc (.cells #[.int .i64 k, .string vol, .int .i64 id, .int .i64 unit, .string name, .int .i64 sec, .string key] 23))
  clear ht
  go_enter Tryz.func21, Tryz.ntmps21
  go_wp2_with fail
  refine (itoa_any sec h0 h1 _ HT.out).mono ?_
  rintro e w1 ⟨rfl, hb1⟩
  have X1 := Lib.hid (show Below (w.heap.size + 1) _ w1 by simpa using hb1)
  clear hb1
  go_wp2
  go_ret
  exact ⟨_, rfl, own_new w1 w.heap.size [itoaB sec] (Nat.le_of_succ_le (bx_size X1.out)) (by simp), (bx_below X1.out).alloc (Nat.le_of_succ_le (bx_size X1.out)) _⟩
end Go.Proofs.YtphpkmjobhohfaaGreatDoor
