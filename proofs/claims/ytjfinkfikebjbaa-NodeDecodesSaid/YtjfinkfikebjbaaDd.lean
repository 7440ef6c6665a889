/- NodeDecodes: the walk. -/
import Derived.Test.YtjfinkfikebjbaaDc
namespace Go.Proofs.Ytjfinkfikebjbaa
open Go.RowKit
attribute [local go_sem ↓] Go.wp_at_zero Go.wp_at_succ

theorem decEs_short (z : Int) (d : ByteArray) : (decEs z d).length ≤ 9223372036854775807 := by
  unfold decEs
  split
  · exact dEs_short d
  · simp

set_option maxRecDepth 100000 in
set_option maxHeartbeats 2000000 in
theorem decodes_any (z : Int) (d : ByteArray) (w : World) :
    Calls Try.prog 3 #[.int .i64 z, .string d] w fun e w' => e = .returned (.bool true) ∧ Below w.heap.size w w' := by
  have RD := Lib.hid (rdecode_any z d)
  have DD := Lib.hid (decode_any z d)
  have hsh := decEs_short z d
  generalize decLv z d = lv at *
  generalize decNx z d = nx at *
  generalize decE z d = er at *
  generalize decEs z d = es at *
  unfold DecR at RD DD
  obtain ⟨n, hn⟩ : ∃ n, es.length = n := ⟨_, rfl⟩
  rw [hn] at RD DD hsh
  clear hn
  go_enter Try.func3, Try.ntmps3
  go_wp2_with fail
  refine (awake_any _).mono ?_
  rintro e w1 ⟨rfl, hb1⟩
  have B1 := Lib.hid hb1
  clear hb1
  by_cases hd : 600 < d.size
  · go_wp2
    go_ret
    exact ⟨rfl, B1.out⟩
  go_wp2_with fail
  refine (DD.out _).mono ?_
  rintro e w2 ⟨A, c, rfl, he2, hb2⟩
  have B2 := Lib.hid (below_next B1.out hb2 B1.out.size)
  have E2 := Lib.hid he2
  clear hb2 he2
  go_wp2_with fail
  have b3 : Below w2.heap.size w2 (w2.alloc (.cells #[.int .i64 lv, .int .i64 nx, .slice A n c] 25)) := (Below.refl _ _).alloc (Nat.le_refl _) _
  refine (RD.out _).mono ?_
  rintro e w4 ⟨A', c', rfl, he4, hb4⟩
  have x4 : Below (w2.heap.size + 1) (w2.alloc (.cells #[.int .i64 lv, .int .i64 nx, .slice A n c] 25)) w4 := by simpa using hb4
  have k0 := bx_cell x4 0
  have k1 := bx_cell x4 1
  have k2 := bx_cell x4 2
  have s4 : w2.heap.size < w4.heap.size := bx_size x4
  have B4 := Lib.hid (below_next B2.out (bx_below x4) B2.out.size)
  have E4 := Lib.hid he4
  have E4a := Lib.hid (E2.out.after (bx_below x4))
  clear b3 x4 hb4 he4
  go_wp2_with fail
  have b5 : Below w4.heap.size w4 (w4.alloc (.cells #[.int .i64 lv, .int .i64 nx, .slice A' n c'] 25)) := (Below.refl _ _).alloc (Nat.le_refl _) _
  refine (same_true lv nx A A' n c c' es _ (E4a.out.after b5) (E4.out.after b5) hsh).mono ?_
  rintro e w6 ⟨rfl, hb6⟩
  have B6 := Lib.hid (below_next (below_next B4.out b5 B4.out.size) hb6 (below_next B4.out b5 B4.out.size).size)
  clear hb6 b5
  go_wp2
  go_ret
  exact ⟨by simp [go_sem], B6.out⟩
end Go.Proofs.Ytjfinkfikebjbaa
