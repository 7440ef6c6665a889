/- Contracts of isSize, Front, four. -/
import Derived.Test.YtjfinkfikebjbaaC
import Derived.Test.YtjfinkfikebjbaaAppend
import Derived.Laws.IdiomStrings
import Derived.Lib.UnsafeStr
namespace Go.Proofs.Ytjfinkfikebjbaa
open Go.RowKit

def szB (z : Int) : Bool := decide (z = 128 ∨ z = 256 ∨ z = 512)
theorem isSize_any (z : Int) (w : World) : Calls Try.prog 30 #[.int .i64 z] w fun e w' => e = .returned (.bool (szB z)) ∧ w = w' := by
  by_cases h1 : z = 128
  · subst h1
    go_enter Try.func30, Try.ntmps30
    go_wp2
    go_ret
    exact ⟨rfl, rfl⟩
  by_cases h2 : z = 256
  · subst h2
    go_enter Try.func30, Try.ntmps30
    go_wp2
    go_ret
    exact ⟨rfl, rfl⟩
  have d1 : (z == 128) = false := beq_eq_false_iff_ne.2 h1
  have d2 : (z == 256) = false := beq_eq_false_iff_ne.2 h2
  by_cases h3 : z = 512
  · subst h3
    go_enter Try.func30, Try.ntmps30
    go_wp2
    go_ret
    exact ⟨rfl, rfl⟩
  have d3 : (z == 512) = false := beq_eq_false_iff_ne.2 h3
  have hz : szB z = false := by simp [szB, h1, h2, h3]
  have HZ := Lib.hid hz
  clear h1 h2 h3 hz
  go_enter Try.func30, Try.ntmps30
  go_wp2
  go_ret
  exact ⟨by rw [HZ.out]; rfl, rfl⟩
theorem risSize_any (z : Int) (w : World) : Calls Try.prog 33 #[.int .i64 z] w fun e w' => e = .returned (.bool (szB z)) ∧ w = w' := by
  by_cases h1 : z = 128
  · subst h1
    go_enter Try.func33, Try.ntmps33
    go_wp2
    go_ret
    exact ⟨rfl, rfl⟩
  by_cases h2 : z = 256
  · subst h2
    go_enter Try.func33, Try.ntmps33
    go_wp2
    go_ret
    exact ⟨rfl, rfl⟩
  have d1 : (z == 128) = false := beq_eq_false_iff_ne.2 h1
  have d2 : (z == 256) = false := beq_eq_false_iff_ne.2 h2
  by_cases h3 : z = 512
  · subst h3
    go_enter Try.func33, Try.ntmps33
    go_wp2
    go_ret
    exact ⟨rfl, rfl⟩
  have d3 : (z == 512) = false := beq_eq_false_iff_ne.2 h3
  have hz : szB z = false := by simp [szB, h1, h2, h3]
  have HZ := Lib.hid hz
  clear h1 h2 h3 hz
  go_enter Try.func33, Try.ntmps33
  go_wp2
  go_ret
  exact ⟨by rw [HZ.out]; rfl, rfl⟩

def fourL (p : Nat) : List UInt8 := [UInt8.ofNat p, UInt8.ofNat (p / 256), UInt8.ofNat (p / 65536), UInt8.ofNat (p / 16777216)]
theorem four_cells (p : Nat) (hp : p ≤ 16777216) : (Lib.byteCells (fourL p)).toArray = #[.int .u8 ((p : Int) % 256), .int .u8 ((p : Int) / 256 % 256), .int .u8 ((p : Int) / 65536 % 256), .int .u8 ((p : Int) / 16777216)] := by
  simp only [Lib.byteCells, fourL, List.map_cons, List.map_nil]
  rw [UInt8.toNat_ofNat', UInt8.toNat_ofNat', UInt8.toNat_ofNat', UInt8.toNat_ofNat']
  have h4 : (((p / 16777216) % 2 ^ 8 : Nat) : Int) = (p : Int) / 16777216 := by omega
  rw [h4]
  simp
theorem four_any (p : Nat) (w : World) (hp : p ≤ 16777216) :
    Calls Try.prog 38 #[.int .i64 p] w fun e w' => e = .returned (.slice (some ⟨w.heap.size, 0, none⟩) 4 4) ∧ w.alloc (.cells (Lib.byteCells (fourL p)).toArray 5) = w' := by
  have hc := four_cells p hp
  have HC := Lib.hid hc
  clear hc
  go_enter Try.func38, Try.ntmps38
  go_wp2
  go_ret
  exact ⟨rfl, by rw [HC.out]⟩

/-- 'string(b)' of a slice whose cells are bytes -/
theorem conv_str (w : World) (b o n c : Nat) (l : List UInt8) (hl : l.length = n) (hc : ∀ j u, (Lib.byteCells l)[j]? = some u → w.cell? ⟨b, o + j, none⟩ = some u) :
    (convert 56 9 (.slice (some ⟨b, o, none⟩) n c)).run Try.prog w = .ok (.string ⟨l.toArray⟩) w := by
  subst hl
  refine run_convert_bytes_back w 56 9 5 ⟨b, o, none⟩ c l Try.underlying56 Try.underlying5 Try.underlying9 (fun j hj => ?_)
  rw [add_is]
  exact hc j _ (by simp [Lib.byteCells, List.getElem?_eq_getElem hj])
theorem rfour_any (p : Nat) (w : World) (hp : p ≤ 16777216) :
    Calls Try.prog 52 #[.int .i64 p] w fun e w' => e = .returned (.string ⟨(fourL p).toArray⟩) ∧ Below w.heap.size w w' := by
  have hcv : ∀ W : World, (convert 56 9 (.slice (some ⟨W.heap.size, 0, none⟩) 4 4)).run Try.prog (W.alloc (.cells #[.int .u8 ((p : Int) % 256), .int .u8 ((p : Int) / 256 % 256), .int .u8 ((p : Int) / 65536 % 256), .int .u8 ((p : Int) / 65536 / 256 % 256)] 5)) = .ok (.string ⟨(fourL p).toArray⟩) (W.alloc (.cells #[.int .u8 ((p : Int) % 256), .int .u8 ((p : Int) / 256 % 256), .int .u8 ((p : Int) / 65536 % 256), .int .u8 ((p : Int) / 65536 / 256 % 256)] 5)) := by
    intro W
    refine conv_str _ _ _ _ _ (fourL p) rfl (fun j u hu => ?_)
    rw [World.cell?_alloc_at _ _ _ _ rfl]
    have h4 : (p : Int) / 65536 / 256 % 256 = (p : Int) / 16777216 := by omega
    rw [h4, ← four_cells p hp]
    simpa using hu
  have HC := Lib.hid hcv
  clear hcv
  have hcv := HC.out w
  go_enter Try.func52, Try.ntmps52
  go_wp2
  go_ret
  exact ⟨rfl, (Below.refl _ _).alloc (Nat.le_refl _) _⟩

def frontN : List UInt8 → List UInt8 → Nat
  | a :: x, b :: y => if a = b then frontN x y + 1 else 0
  | _, _ => 0
def frontB (a b : ByteArray) : Nat := frontN a.data.toList b.data.toList
theorem frontN_le : ∀ x y, frontN x y ≤ x.length ∧ frontN x y ≤ y.length
  | [], y => by simp [frontN]
  | a :: x, [] => by simp [frontN]
  | a :: x, b :: y => by
    have := frontN_le x y
    simp only [frontN]
    split <;> simp <;> omega
theorem frontN_eq : ∀ (x y : List UInt8) (n : Nat), (∀ t, t < n → x[t]? = y[t]? ∧ x[t]? ≠ none) → (x[n]? = none ∨ y[n]? = none ∨ x[n]? ≠ y[n]?) → frontN x y = n
  | [], y, 0, _, _ => by simp [frontN]
  | [], y, n + 1, h, _ => by have := (h 0 (by omega)).2; simp at this
  | a :: x, [], 0, _, _ => by simp [frontN]
  | a :: x, [], n + 1, h, _ => by have := (h 0 (by omega)).1; simp at this
  | a :: x, b :: y, 0, _, h => by
    simp only [frontN]
    rw [if_neg]
    rintro rfl
    simp at h
  | a :: x, b :: y, n + 1, h, h' => by
    have e : a = b := by have := (h 0 (by omega)).1; simpa using this
    simp only [frontN]
    rw [if_pos e, frontN_eq x y n (fun t ht => by have := h (t + 1) (by omega); simpa using this) (by simpa using h')]
theorem front_is {a b : ByteArray} {n : Nat} (h : ∀ t, t < n → a.data.toList[t]? = b.data.toList[t]? ∧ a.data.toList[t]? ≠ none) (h' : a.size ≤ n ∨ b.size ≤ n ∨ a.data.toList[n]? ≠ b.data.toList[n]?) : frontB a b = n := by
  apply frontN_eq _ _ _ h
  rcases h' with h' | h' | h'
  · left; exact List.getElem?_eq_none (by rw [ba_len]; exact h')
  · right; left; exact List.getElem?_eq_none (by rw [ba_len]; exact h')
  · exact .inr (.inr h')
theorem front_le (a b : ByteArray) : frontB a b ≤ a.size ∧ frontB a b ≤ b.size := by
  have := frontN_le a.data.toList b.data.toList
  rw [ba_len, ba_len] at this; exact this

set_option maxHeartbeats 1000000 in
theorem front_any (a b : ByteArray) (w : World) (ha : a.size ≤ 9223372036854775807) :
    Calls Try.prog 45 #[.string a, .string b] w fun e w' => e = .returned (.int .i64 (frontB a b)) ∧ ∃ d, w' = w.drewN d := by
  go_enter Try.func45, Try.ntmps45
  go_wp2
  go_loopw [5] (fun i wr => ∃ j : Nat, j ≤ a.size ∧ j ≤ b.size ∧ i = .int .i64 j ∧ (∀ t, t < j → a.data.toList[t]? = b.data.toList[t]? ∧ a.data.toList[t]? ≠ none) ∧ ∃ d, wr = w.drewN d) (fun i _ => a.size - (intOf i).toNat)
  case atStart => exact ⟨0, Nat.zero_le _, Nat.zero_le _, rfl, fun t h => absurd h (by omega), 0, rfl⟩
  case round =>
    obtain ⟨j, hja, hjb, rfl, hall, d, rfl⟩ := hrel
    have HA := Lib.hid hall
    clear hall
    by_cases h1 : j < a.size
    · have d1 : decide (j < a.size) = true := by simp [h1]
      by_cases h2 : j < b.size
      · have d2 : decide (j < b.size) = true := by simp [h2]
        have i0 : (0 : Int) ≤ (j : Int) := by omega
        have i1 : (j : Int) < (a.size : Int) := by omega
        have i2 : (j : Int) < (b.size : Int) := by omega
        by_cases h3 : a[j] = b[j]
        · have d3 : (((a[j]).toNat : Int) == ((b[j]).toNat : Int)) = true := by rw [h3]; simp
          have d4 : ((a[j]).toNat == (b[j]).toNat) = true := by rw [h3]; simp
          have hst : ∀ t, t < j + 1 → a.data.toList[t]? = b.data.toList[t]? ∧ a.data.toList[t]? ≠ none := by
            intro t ht
            by_cases e : t = j
            · subst e; rw [ba_get a t h1, ba_get b t h2, h3]; simp
            · exact HA.out t (by omega)
          have HS := Lib.hid hst
          clear hst h3
          go_wp2
          go_quiet (fail)
          go_wp2
          go_roundw
          case rel => exact ⟨j + 1, by omega, by omega, by go_num, HS.out, _, rfl⟩
          case measure => simp [intOf]; omega
        · have h3' : (a[j]).toNat ≠ (b[j]).toNat := fun e => h3 (UInt8.toNat_inj.1 e)
          have d3 : (((a[j]).toNat : Int) == ((b[j]).toNat : Int)) = false := beq_eq_false_iff_ne.2 (by omega)
          have d4 : ((a[j]).toNat == (b[j]).toNat) = false := beq_eq_false_iff_ne.2 h3'
          have hf := front_is HA.out (.inr (.inr (by rw [ba_get a j h1, ba_get b j h2]; intro e; injection e with e; exact h3 e)))
          have HF := Lib.hid hf
          clear hf h3 h3'
          go_wp2
          go_quiet (fail)
          go_wp2
          go_ret
          exact ⟨by rw [HF.out]; rfl, _, World.drewN_drewN _ _ _⟩
      · have d2 : decide (j < b.size) = false := by simp [h2]
        have HF := Lib.hid (front_is HA.out (.inr (.inl (by omega))))
        go_wp2
        go_quiet (fail)
        go_wp2
        go_ret
        exact ⟨by rw [HF.out]; rfl, _, World.drewN_drewN _ _ _⟩
    · have d1 : decide (j < a.size) = false := by simp [h1]
      have HF := Lib.hid (front_is HA.out (.inl (by omega)))
      go_wp2
      go_quiet (fail)
      go_wp2
      go_ret
      exact ⟨by rw [HF.out]; rfl, _, World.drewN_drewN _ _ _⟩
set_option maxHeartbeats 1000000 in
theorem rfront_any (a b : ByteArray) (w : World) (ha : a.size ≤ 9223372036854775807) :
    Calls Try.prog 53 #[.string a, .string b] w fun e w' => e = .returned (.int .i64 (frontB a b)) ∧ ∃ d, w' = w.drewN d := by
  go_enter Try.func53, Try.ntmps53
  go_wp2
  go_loopw [5] (fun i wr => ∃ j : Nat, j ≤ a.size ∧ j ≤ b.size ∧ i = .int .i64 j ∧ (∀ t, t < j → a.data.toList[t]? = b.data.toList[t]? ∧ a.data.toList[t]? ≠ none) ∧ ∃ d, wr = w.drewN d) (fun i _ => a.size - (intOf i).toNat)
  case atStart => exact ⟨0, Nat.zero_le _, Nat.zero_le _, rfl, fun t h => absurd h (by omega), 0, rfl⟩
  case round =>
    obtain ⟨j, hja, hjb, rfl, hall, d, rfl⟩ := hrel
    have HA := Lib.hid hall
    clear hall
    by_cases h1 : j < a.size
    · have d1 : decide (j < a.size) = true := by simp [h1]
      by_cases h2 : j < b.size
      · have d2 : decide (j < b.size) = true := by simp [h2]
        have i0 : (0 : Int) ≤ (j : Int) := by omega
        have i1 : (j : Int) < (a.size : Int) := by omega
        have i2 : (j : Int) < (b.size : Int) := by omega
        by_cases h3 : a[j] = b[j]
        · have d3 : (((a[j]).toNat : Int) == ((b[j]).toNat : Int)) = true := by rw [h3]; simp
          have d4 : ((a[j]).toNat == (b[j]).toNat) = true := by rw [h3]; simp
          have hst : ∀ t, t < j + 1 → a.data.toList[t]? = b.data.toList[t]? ∧ a.data.toList[t]? ≠ none := by
            intro t ht
            by_cases e : t = j
            · subst e; rw [ba_get a t h1, ba_get b t h2, h3]; simp
            · exact HA.out t (by omega)
          have HS := Lib.hid hst
          clear hst h3
          go_wp2
          go_quiet (fail)
          go_wp2
          go_roundw
          case rel => exact ⟨j + 1, by omega, by omega, by go_num, HS.out, _, rfl⟩
          case measure => simp [intOf]; omega
        · have h3' : (a[j]).toNat ≠ (b[j]).toNat := fun e => h3 (UInt8.toNat_inj.1 e)
          have d3 : (((a[j]).toNat : Int) == ((b[j]).toNat : Int)) = false := beq_eq_false_iff_ne.2 (by omega)
          have d4 : ((a[j]).toNat == (b[j]).toNat) = false := beq_eq_false_iff_ne.2 h3'
          have hf := front_is HA.out (.inr (.inr (by rw [ba_get a j h1, ba_get b j h2]; intro e; injection e with e; exact h3 e)))
          have HF := Lib.hid hf
          clear hf h3 h3'
          go_wp2
          go_quiet (fail)
          go_wp2
          go_ret
          exact ⟨by rw [HF.out]; rfl, _, World.drewN_drewN _ _ _⟩
      · have d2 : decide (j < b.size) = false := by simp [h2]
        have HF := Lib.hid (front_is HA.out (.inr (.inl (by omega))))
        go_wp2
        go_quiet (fail)
        go_wp2
        go_ret
        exact ⟨by rw [HF.out]; rfl, _, World.drewN_drewN _ _ _⟩
    · have d1 : decide (j < a.size) = false := by simp [h1]
      have HF := Lib.hid (front_is HA.out (.inl (by omega)))
      go_wp2
      go_quiet (fail)
      go_wp2
      go_ret
      exact ⟨by rw [HF.out]; rfl, _, World.drewN_drewN _ _ _⟩
end Go.Proofs.Ytjfinkfikebjbaa
