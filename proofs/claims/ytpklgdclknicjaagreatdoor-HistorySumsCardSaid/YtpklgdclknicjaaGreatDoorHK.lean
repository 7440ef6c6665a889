/- History: a unit is valid. -/
import Derived.Test.YtpklgdclknicjaaGreatDoorHJ
import Derived.Test.YtpklgdclknicjaaGreatDoorSS
import Derived.Test.YtpklgdclknicjaaGreatDoorHD
namespace Go.Proofs.YtpklgdclknicjaaGreatDoor
open Go.RowKit


def chgB (x : Chg) : Bool := chB x.kind x.id x.key x.rcd x.vol
set_option maxRecDepth 100000 in
theorem v1_any (x : Chg) (w : World) (hv : x.vol.size ≤ maxLen) :
    Calls Tryz.prog 40 #[.agg #[.int .i64 x.kind, .int .i64 x.id, .string x.key, .string x.rcd, .string x.vol]] w fun e w' => e = .returned (.bool (!chgB x)) ∧ Below w.heap.size w w' := by
  obtain ⟨k, id, key, rcd, vol⟩ := x
  simp only at hv ⊢
  obtain ⟨R, hR⟩ : ∃ R, chgB ⟨k, id, key, rcd, vol⟩ = R := ⟨_, rfl⟩
  rw [hR]
  have H := Lib.hid (chValid_any k id key rcd vol (w.alloc (.cells #[.int .i64 k, .int .i64 id, .string key, .string rcd, .string vol] 43)) hv)
  rw [show chB k id key rcd vol = R from hR] at H
  clear hR hv
  have B1 := Lib.hid (bx_start w #[.int .i64 k, .int .i64 id, .string key, .string rcd, .string vol] 43)
  go_enter Tryz.func40, Tryz.ntmps40
  go_wp2_with fail
  refine H.out.mono ?_
  rintro e w1 ⟨rfl, hb1⟩
  have X1 := Lib.hid (bx_below (show Below (w.heap.size + 1) (w.alloc (.cells #[.int .i64 k, .int .i64 id, .string key, .string rcd, .string vol] 43)) w1 by simpa using hb1))
  clear hb1
  go_wp2
  go_ret
  exact ⟨rfl, X1.out⟩
set_option maxRecDepth 100000 in
theorem v2_any (x : Rdd) (w : World) :
    Calls Tryz.prog 43 #[.agg #[.int .i64 x.kind, .int .i64 x.id, .string x.key, .string x.ak, .string x.ar, .int .i64 x.code]] w fun e w' => e = .returned (.bool (!rdB x)) ∧ Below w.heap.size w w' := by
  have H := fun W => Lib.hid (validRead_any x W)
  obtain ⟨k, id, key, ak, ar, code⟩ := x
  simp only at H ⊢
  generalize rdB ⟨k, id, key, ak, ar, code⟩ = R at H ⊢
  have H := H (w.alloc (.cells #[.int .i64 k, .int .i64 id, .string key, .string ak, .string ar, .int .i64 code] 49))
  go_enter Tryz.func43, Tryz.ntmps43
  go_wp2_with fail
  refine H.out.mono ?_
  rintro e w1 ⟨rfl, hb1⟩
  have X1 := Lib.hid (bx_below (show Below (w.heap.size + 1) (w.alloc (.cells #[.int .i64 k, .int .i64 id, .string key, .string ak, .string ar, .int .i64 code] 49)) w1 by simpa using hb1))
  clear hb1
  go_wp2
  go_ret
  exact ⟨rfl, X1.out⟩

def VolsOk (x : Com) : Prop := ∀ c ∈ x.cs, c.vol.size ≤ maxLen
/-- a unit is valid -/
def comB (x : Com) : Bool := numB x.unit && decide (x.cn ≤ 300) && numB x.num && decide (x.num + x.cn - 1 ≤ 1099511627776) && !(x.cs.any fun c => !chgB c) && !(x.rs.any fun r => !rdB r)

set_option maxRecDepth 100000 in
set_option maxHeartbeats 1000000 in
theorem valid_any (x : Com) (w : World) (hok : ComOk w w.heap.size x) (hv : VolsOk x) :
    Calls Tryz.prog 18 #[comV x] w fun e w' => e = .returned (.bool (comB x)) ∧ Below w.heap.size w w' := by
  obtain ⟨R, hR⟩ : ∃ R, comB x = R := ⟨_, rfl⟩
  rw [hR]
  have hlast := fun W h1 h2 h3 => last_any x W h1 h2 h3
  obtain ⟨unit, num, rA, rn, rc, cA, cn, cc, rs, cs⟩ := x
  unfold comV at hlast ⊢
  obtain ⟨ho1, ho2, ho3, ho4⟩ := hok
  simp only [comB] at hlast ho1 ho2 ho3 ho4 hv hR ⊢
  unfold maxLen at ho3 ho4
  have HU : Hid (∀ W : World, Calls Tryz.prog 38 #[.int .i64 unit] W fun e w' => e = .returned (.bool (numB unit)) ∧ W = w') := Lib.hid fun W => number_any unit W
  have HM : Hid (∀ W : World, Calls Tryz.prog 38 #[.int .i64 num] W fun e w' => e = .returned (.bool (numB num)) ∧ W = w') := Lib.hid fun W => number_any num W
  have HL := Lib.hid hlast
  have HC : Hid (∀ W : World, Below w.heap.size w W → Calls Tryz.prog 39 #[.slice cA cn cc, .func (.func 40) #[] #[]] W fun e w' => e = .returned (.bool (cs.any fun c => !chgB c)) ∧ Below W.heap.size W w') :=
    Lib.hid fun W hb => chgs_any _ cA cn cc cs W (ho2.after hb hb.size) (by omega) fun x hx W' _ => v1_any x W' (hv x hx)
  have HR : Hid (∀ W : World, Below w.heap.size w W → Calls Tryz.prog 42 #[.slice rA rn rc, .func (.func 43) #[] #[]] W fun e w' => e = .returned (.bool (rs.any fun r => !rdB r)) ∧ Below W.heap.size W w') :=
    Lib.hid fun W hb => rdds_any _ rA rn rc rs W (ho1.after hb hb.size) (by omega) fun x hx W' _ => v2_any x W'
  clear hlast ho1 ho2 ho3 ho4 hv
  have B0 := Lib.hid (bx_start w #[.int .i64 unit, .int .i64 num, .slice rA rn rc, .slice cA cn cc] 47)
  cases h1 : numB unit with
  | false =>
    rw [h1] at HU
    have hr : R = false := by rw [← hR, h1]; rfl
    have HRR := Lib.hid hr
    clear hR hr h1
    go_enter Tryz.func18, Tryz.ntmps18
    go_wp2_with (go_at_call 38; (with_reducible refine (HU.out _).mono ?_); rintro e w' ⟨rfl, rfl⟩)
    go_ret
    exact ⟨by rw [HRR.out]; rfl, bx_below B0.out⟩
  | true =>
  rw [h1] at HU
  by_cases h2 : cn ≤ 300
  rotate_left
  · have hr : R = false := by rw [← hR, h1]; simp [h2]
    have HRR := Lib.hid hr
    have d1 : decide ((300 : Int) < (cn : Int)) = true := by simp; omega
    have d2 : decide (300 < cn) = true := by simp; omega
    clear hR hr h1 h2
    go_enter Tryz.func18, Tryz.ntmps18
    go_wp2_with (go_at_call 38; (with_reducible refine (HU.out _).mono ?_); rintro e w' ⟨rfl, rfl⟩)
    go_ret
    exact ⟨by rw [HRR.out]; rfl, bx_below B0.out⟩
  have d1 : decide ((300 : Int) < (cn : Int)) = false := by simp; omega
  have d2 : decide (300 < cn) = false := by simp; omega
  cases h3 : numB num with
  | false =>
    rw [h3] at HM
    have hr : R = false := by rw [← hR, h1, h3]; simp
    have HRR := Lib.hid hr
    clear hR hr h1 h2 h3
    go_enter Tryz.func18, Tryz.ntmps18
    go_wp2_with (go_at_call 38; first | ((with_reducible refine (HU.out _).mono ?_); rintro e w' ⟨rfl, rfl⟩) | ((with_reducible refine (HM.out _).mono ?_); rintro e w' ⟨rfl, rfl⟩))
    go_ret
    exact ⟨by rw [HRR.out]; rfl, bx_below B0.out⟩
  | true =>
  rw [h3] at HM
  obtain ⟨n1, n2⟩ := numB_true h3
  have HL2 := Lib.hid (HL.out (w.alloc (.cells #[.int .i64 unit, .int .i64 num, .slice rA rn rc, .slice cA cn cc] 47)) n1 n2 h2)
  obtain ⟨q, hq⟩ : ∃ q : Int, num + cn - 1 = q := ⟨_, rfl⟩
  rw [hq] at HL2 hR
  clear HL hq n1 n2
  by_cases h4 : q ≤ 1099511627776
  rotate_left
  · have hr : R = false := by rw [← hR, h1, h3]; simp [h4]
    have HRR := Lib.hid hr
    have d4 : decide ((1099511627776 : Int) < q) = true := by simp; omega
    clear hR hr h1 h2 h3 h4
    go_enter Tryz.func18, Tryz.ntmps18
    go_wp2_with (first | (go_at_call 38; (with_reducible refine (HU.out _).mono ?_); rintro e w' ⟨rfl, rfl⟩) | (go_at_call 38; (with_reducible refine (HM.out _).mono ?_); rintro e w' ⟨rfl, rfl⟩) | (go_at_call 24; refine HL2.out.mono ?_; rintro e w1 ⟨rfl, hb1⟩; have x1 := Lib.hid (show Below (w.heap.size + 1) (w.alloc (.cells #[.int .i64 unit, .int .i64 num, .slice rA rn rc, .slice cA cn cc] 47)) w1 by simpa using hb1); clear hb1))
    go_ret
    exact ⟨by rw [HRR.out]; rfl, bx_below x1.out⟩
  have d4 : decide ((1099511627776 : Int) < q) = false := by simp; omega
  have hr : R = (!(cs.any fun c => !chgB c) && !(rs.any fun r => !rdB r)) := by rw [← hR, h1, h3]; simp [h2, h4]
  clear hR h1 h2 h3 h4
  generalize (cs.any fun c => !chgB c) = p1 at HC hr
  generalize (rs.any fun r => !rdB r) = p2 at HR hr
  have HRR := Lib.hid hr
  clear hr
  cases p1 with
  | true =>
    go_enter Tryz.func18, Tryz.ntmps18
    go_wp2_with (first | (go_at_call 38; (with_reducible refine (HU.out _).mono ?_); rintro e w' ⟨rfl, rfl⟩) | (go_at_call 38; (with_reducible refine (HM.out _).mono ?_); rintro e w' ⟨rfl, rfl⟩) | (go_at_call 24; refine HL2.out.mono ?_; rintro e w1 ⟨rfl, hb1⟩; have x1 := Lib.hid (show Below (w.heap.size + 1) (w.alloc (.cells #[.int .i64 unit, .int .i64 num, .slice rA rn rc, .slice cA cn cc] 47)) w1 by simpa using hb1); have c2 := bx_cell x1.out 2; have c3 := bx_cell x1.out 3; simp at c2 c3; clear hb1) | (go_at_call 39; refine (HC.out _ (bx_below x1.out)).mono ?_; rintro e w2 ⟨rfl, hb2⟩; have x2 := Lib.hid (below_next x1.out hb2 (bx_size x1.out)); have k2 := bx_cell x2.out 2; simp at k2; clear hb2))
    go_ret
    exact ⟨by rw [HRR.out]; rfl, bx_below x2.out⟩
  | false =>
    go_enter Tryz.func18, Tryz.ntmps18
    go_wp2_with (first | (go_at_call 38; (with_reducible refine (HU.out _).mono ?_); rintro e w' ⟨rfl, rfl⟩) | (go_at_call 38; (with_reducible refine (HM.out _).mono ?_); rintro e w' ⟨rfl, rfl⟩) | (go_at_call 24; refine HL2.out.mono ?_; rintro e w1 ⟨rfl, hb1⟩; have x1 := Lib.hid (show Below (w.heap.size + 1) (w.alloc (.cells #[.int .i64 unit, .int .i64 num, .slice rA rn rc, .slice cA cn cc] 47)) w1 by simpa using hb1); have c2 := bx_cell x1.out 2; have c3 := bx_cell x1.out 3; simp at c2 c3; clear hb1) | (go_at_call 39; refine (HC.out _ (bx_below x1.out)).mono ?_; rintro e w2 ⟨rfl, hb2⟩; have x2 := Lib.hid (below_next x1.out hb2 (bx_size x1.out)); have k2 := bx_cell x2.out 2; simp at k2; clear hb2) | (go_at_call 42; refine (HR.out _ (bx_below x2.out)).mono ?_; rintro e w3 ⟨rfl, hb3⟩; have x3 := Lib.hid (below_next x2.out hb3 (bx_size x2.out)); clear hb3))
    go_ret
    exact ⟨by rw [HRR.out]; cases p2 <;> rfl, bx_below x3.out⟩
end Go.Proofs.YtpklgdclknicjaaGreatDoor
