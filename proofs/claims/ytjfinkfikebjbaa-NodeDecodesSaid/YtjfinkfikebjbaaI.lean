/- Contracts of the reader. -/
import Derived.Test.YtjfinkfikebjbaaH
namespace Go.Proofs.Ytjfinkfikebjbaa
open Go.RowKit

/-- the reader's block: it holds the string s -/
def Rdr (w : World) (g : Nat) (s : ByteArray) : Prop := w.heap[g]? = some (.cells #[.string s] 50 (0, 0))
theorem Rdr.cell {w : World} {g : Nat} {s : ByteArray} (h : Rdr w g s) : w.cell? ⟨g, 0, none⟩ = some (.string s) := by simp [World.cell?, show w.heap[g]? = _ from h]
theorem Rdr.free {w : World} {g : Nat} {s : ByteArray} (h : Rdr w g s) : w.frozen? ⟨g, 0, none⟩ = false := by simp [World.frozen?, show w.heap[g]? = _ from h]
theorem Rdr.lt {w : World} {g : Nat} {s : ByteArray} (h : Rdr w g s) : g < w.heap.size := by
  rcases Nat.lt_or_ge g w.heap.size with hlt | hge
  · exact hlt
  · unfold Rdr at h; rw [Array.getElem?_eq_none hge] at h; cases h
theorem Rdr.set {w : World} {g : Nat} {s : ByteArray} (h : Rdr w g s) (t : ByteArray) : Rdr (w.setCell ⟨g, 0, none⟩ (.string t)) g t := by
  unfold Rdr at h ⊢
  simp [World.setCell, Array.getElem?_modify, h]
theorem grown_set (w : World) (g : Nat) (u : Value) : w.grownBy (w.setCell ⟨g, 0, none⟩ u) (some g) :=
  ⟨rfl, rfl, rfl, by simp [World.setCell], fun i _ hne => Below.heap_setCell w _ u i (by intro e; exact hne (by rw [e]))⟩

theorem take_any (g : Nat) (s : ByteArray) (k : Nat) (w : World) (h : Rdr w g s) :
    Calls Try.prog 32 #[.pointer (some ⟨g, 0, none⟩), .int .i64 k] w fun e w' => e = .returned (.string (s.extract 0 (min k s.size))) ∧ w.setCell ⟨g, 0, none⟩ (.string (s.extract (min k s.size) s.size)) = w' := by
  have hc := h.cell
  have hf := h.free
  obtain ⟨m, hm⟩ : ∃ m : Nat, m = min k s.size := ⟨_, rfl⟩
  have hmin : min (k : Int) (s.size : Int) = (m : Int) := by omega
  have hm2 : m ≤ s.size := by omega
  rw [← hm]
  have HM := Lib.hid hm
  clear hm
  go_enter Try.func32, Try.ntmps32
  go_wp2
  go_ret
  exact ⟨rfl, rfl⟩

theorem conv_bytes (W : World) (t : ByteArray) : ∃ c W', (convert 9 56 (.string t)).run Try.prog W = .ok (.slice (some ⟨W.heap.size, 0, none⟩) t.size c) W' ∧
    (∀ j (h : j < t.size), W'.cell? ⟨W.heap.size, j, none⟩ = some (.int .u8 ((t[j]).toNat : Int))) ∧ W.grownBy W' none := by
  refine ⟨_, _, run_bytes_of_string (P := Try.prog) W 9 56 5 t Try.underlying9 Try.underlying56 Try.underlying5, fun j h => ?_, ?_⟩
  · rw [show W.heap.size = W.drew.heap.size from rfl, World.cell?_alloc_mark]
    exact bytesRow_at t _ j h
  · exact ⟨rfl, rfl, rfl, by simp, fun i hi _ => Below.heap_alloc W.drew _ i hi⟩

/-- the number in some bytes, the least first -/
def numN : List UInt8 → Nat
  | [] => 0
  | b :: l => b.toNat + 256 * numN l
theorem numN_snoc : ∀ (l : List UInt8) (b : UInt8), numN (l ++ [b]) = numN l + b.toNat * 256 ^ l.length
  | [], b => by simp [numN]
  | a :: l, b => by
    simp only [List.cons_append, numN, numN_snoc l b, List.length_cons, Nat.pow_succ, Nat.mul_add]
    have : 256 * (b.toNat * 256 ^ l.length) = b.toNat * (256 ^ l.length * 256) := by rw [Nat.mul_comm (256 ^ l.length) 256, ← Nat.mul_assoc, ← Nat.mul_assoc, Nat.mul_comm 256 b.toNat]
    omega
theorem or_i64 (a b : Nat) (ha : a < 9223372036854775808) (hb : b < 9223372036854775808) : bits .or .i64 (a : Int) (b : Int) = ((a ||| b : Nat) : Int) := by
  have ofInt : ∀ c : Nat, c < 9223372036854775808 → (BitVec.ofInt 64 (c : Int)).toNat = c := fun c hc => by
    rw [BitVec.ofInt_natCast, BitVec.toNat_ofNat]; exact Nat.mod_eq_of_lt (by omega)
  have hx : a ||| b < 2 ^ 63 := Nat.or_lt_two_pow (by omega) (by omega)
  show IntKind.i64.wrap ((BitVec.ofInt 64 (a : Int) ||| BitVec.ofInt 64 (b : Int)).toNat : Int) = _
  rw [BitVec.toNat_or, ofInt a ha, ofInt b hb, IntKind.wrap_i64]
  omega
theorem or_shift (N cb j : Nat) (hj : j < 4) (hc : cb < 256) (hN : N < 256 ^ j) : bits .or .i64 (N : Int) (wrap64 ((cb : Int) * 2 ^ (8 * j))) = ((N + cb * 256 ^ j : Nat) : Int) := by
  have e : (256 : Nat) ^ j = 2 ^ (8 * j) := by rw [Nat.pow_mul]
  have hp : (2 : Nat) ^ (8 * j) ≤ 2 ^ 24 := Nat.pow_le_pow_right (by omega) (by omega)
  have hb : cb * 2 ^ (8 * j) ≤ 255 * 2 ^ 24 := Nat.mul_le_mul (by omega) hp
  rw [e] at hN ⊢
  have hw : wrap64 ((cb : Int) * 2 ^ (8 * j)) = ((cb * 2 ^ (8 * j) : Nat) : Int) := by
    have : ((cb : Int) * 2 ^ (8 * j)) = ((cb * 2 ^ (8 * j) : Nat) : Int) := by push_cast; rfl
    rw [this]
    generalize cb * 2 ^ (8 * j) = q at *
    exact IntWalk.wrap64_in _ (by omega)
  rw [hw]
  have h1 := Nat.two_pow_add_eq_or_of_lt hN cb
  rw [Nat.mul_comm] at h1
  generalize cb * 2 ^ (8 * j) = q at *
  generalize (2 : Nat) ^ (8 * j) = P at *
  rw [or_i64 N q (by omega) (by omega), Nat.or_comm, ← h1, Nat.add_comm]
theorem numN_lt : ∀ l : List UInt8, numN l < 256 ^ l.length
  | [] => by simp [numN]
  | a :: l => by
    have := numN_lt l
    have h2 := a.toNat_lt
    simp only [numN, List.length_cons, Nat.pow_succ]; omega
theorem ba_take_snoc (t : ByteArray) (j : Nat) (h : j < t.size) : t.data.toList.take (j + 1) = t.data.toList.take j ++ [t[j]] := by
  rw [List.take_add_one, ba_get t j h]; rfl

set_option maxHeartbeats 1000000 in
theorem number_any (g : Nat) (s : ByteArray) (k : Nat) (w : World) (h : Rdr w g s) (hk : k ≤ 4) :
    Calls Try.prog 31 #[.pointer (some ⟨g, 0, none⟩), .int .i64 k] w fun e w' => e = .returned (.int .i64 (numN (s.data.toList.take k))) ∧ Rdr w' g (s.extract (min k s.size) s.size) ∧ w.grownBy w' (some g) := by
  have hset := h.set (s.extract (min k s.size) s.size)
  have hgs := grown_set w g (.string (s.extract (min k s.size) s.size))
  obtain ⟨cp, W2, hrun, hcells, hgr⟩ := conv_bytes (w.setCell ⟨g, 0, none⟩ (.string (s.extract (min k s.size) s.size))) (s.extract 0 (min k s.size))
  have hts : (s.extract 0 (min k s.size)).size = min k s.size := by rw [ByteArray.size_extract]; omega
  have htl : (s.extract 0 (min k s.size)).data.toList = s.data.toList.take k := by
    rw [ba_extract, List.drop_zero, Nat.sub_zero]
    rcases Nat.le_total k s.size with h1 | h1
    · rw [Nat.min_eq_left h1]
    · rw [Nat.min_eq_right h1, List.take_of_length_le (by rw [ba_len]; omega), List.take_of_length_le (by rw [ba_len]; omega)]
  have hr2 : Rdr W2 g (s.extract (min k s.size) s.size) := (hgr.block g (by have := hset.lt; exact this) (by simp)).trans hset
  have hg2 : w.grownBy W2 (some g) := ⟨hgr.os.trans hgs.os, hgr.tape.trans hgs.tape, hgr.output.trans hgs.output, Nat.le_trans hgs.size hgr.size, fun i hi hne => (hgr.block i (Nat.lt_of_lt_of_le hi hgs.size) (by simp)).trans (hgs.block i hi hne)⟩
  have htk := take_any g s k w h
  have hws : (w.setCell ⟨g, 0, none⟩ (.string (s.extract (min k s.size) s.size))).heap.size = w.heap.size := by simp [World.setCell]
  rw [← htl]
  rw [hws] at hrun hcells
  have hm : min k s.size ≤ 4 := by omega
  rw [← hts] at hm
  generalize s.extract (min k s.size) s.size = r at *
  generalize s.extract 0 (min k s.size) = t at *
  generalize w.setCell ⟨g, 0, none⟩ (.string r) = W1 at *
  have HC := Lib.hid hcells
  have HR2 := Lib.hid hr2
  have HG2 := Lib.hid hg2
  have HTK := Lib.hid htk
  clear hset hgs hgr hts htl hr2 hg2 htk hws hcells h
  go_enter Try.func31, Try.ntmps31
  go_wp2_with fail
  refine HTK.out.mono ?_
  rintro e w1 ⟨rfl, rfl⟩
  go_wp2
  clear hrun
  go_loop [5, 13] (fun v i => ∃ j : Nat, j ≤ t.size ∧ i = .int .i64 j ∧ v = .int .i64 (numN (t.data.toList.take j))) (fun _ i => t.size - (intOf i).toNat)
  case atStart => exact ⟨0, Nat.zero_le _, rfl, rfl⟩
  case round =>
    obtain ⟨j, hj, rfl, rfl⟩ := hrel
    by_cases hlt : j < t.size
    · have hc := HC.out j hlt
      have hb := (t[j]).toNat_lt
      have hnl := numN_lt (t.data.toList.take j)
      have hlen : (t.data.toList.take j).length = j := by rw [List.length_take, ba_len]; omega
      have hsn : numN (t.data.toList.take (j + 1)) = numN (t.data.toList.take j) + (t[j]).toNat * 256 ^ j := by rw [ba_take_snoc t j hlt, numN_snoc, hlen]
      rw [hlen] at hnl
      have hor := or_shift (numN (t.data.toList.take j)) (t[j]).toNat j (by omega) (by omega) hnl
      rw [← hsn] at hor
      have HOR := Lib.hid hor
      clear hor hsn hlen
      generalize numN (t.data.toList.take j) = N at *
      generalize (t[j]).toNat = cb at *
      clear hnl
      go_wp2
      go_round
      case rel => exact ⟨j + 1, by omega, by go_num, by rw [HOR.out]⟩
      case measure => simp [intOf]; omega
    · obtain rfl : j = t.size := by omega
      go_wp2
      go_ret
      exact ⟨by rw [List.take_of_length_le (by rw [ba_len]; exact Nat.le_refl _)]; rfl, HR2.out, HG2.out⟩
end Go.Proofs.Ytjfinkfikebjbaa
