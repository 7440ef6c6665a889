/- slices.Clone of entries; Split. -/
import Derived.Test.YtjfinkfikebjbaaM
import Derived.Test.YtjfinkfikebjbaaJ
import Derived.Lib.SliceRun
namespace Go.Proofs.Ytjfinkfikebjbaa
open Go.RowKit
attribute [local go_sem ↓] Go.wp_at_zero Go.wp_at_succ

theorem eCells_one (es : List Ent) : ∀ u ∈ eCells es, u.oneCell' = true := by
  intro u hu
  unfold eCells at hu
  obtain ⟨e, _, he⟩ := List.mem_flatMap.1 hu
  exact ent_one _ _ u he

set_option maxRecDepth 100000 in
set_option maxHeartbeats 1000000 in
theorem clone_any (A : Option Addr) (n c : Nat) (es : List Ent) (w : World) (hs : Es w w.heap.size A n c es) (h1 : 1 ≤ n) (hn : n ≤ 200) :
    Calls Try.prog 42 #[.slice A n c] w fun e w' => ∃ v, e = .returned v ∧ w'.ownsRow w.heap.size 34 2 v n (eCells es) ∧ Below w.heap.size w w' := by
  have HS := Lib.hid hs
  have hnc := hs.1
  obtain ⟨b, o, x, p, rfl, hb, hg, hc, hc2⟩ := hs.cell (k := 0) (by omega)
  clear hg
  obtain ⟨i0, hi0, hz0, hz1, hz2⟩ := info_parts Try.info34
  have HR := Lib.hid (hs.2.alloc (Nat.le_refl _) (.cells #[] 34))
  have H1 := Lib.hid (eCells_one es)
  have HO := Lib.hid (World.ownsRow_lit (e := 34) (base := w.heap.size) (size := 2) w #[] 0 (Nat.le_refl _) (by decide) rfl)
  clear hs
  have q23 : ∀ (w : World) (a : Option Addr) (n c n' c' : Nat), (binOp .eql 23 (.slice a n c) (.slice none n' c')).run Try.prog w = .ok (.bool a.isNone) w := fun w a n c n' c' => Lib.run_eql_slice_nil w _ _ a n c n' c' Try.underlying23
  go_enter Try.func42, Try.ntmps42
  go_wp2_with (at_builtin; go_must (refine wpList_app _ rfl _ _ 23 rfl w.heap.size 34 i0 _ 2 24 Try.underlying23 hi0 hz0 hz1 hz2 rfl (by decide) _ _ _ rfl HO.out w.heap.size (some ⟨b, o, none⟩) n c (eCells es) rfl HR.out H1.out ?c2 ?c3 ?c4 ?_))
  case c2 => simp [maxLen]; omega
  case c3 => omega
  intro v' w' hown hgr _
  have HOWN := Lib.hid hown
  have HGR := Lib.hid hgr
  clear hown hgr
  go_wp2
  go_ret
  exact ⟨v', rfl, by simpa using HOWN.out, ((Below.refl _ _).alloc (Nat.le_refl _) _).grown HGR.out (by simp) (by intro k hk; simp [Value.ownBlock] at hk; omega)⟩
end Go.Proofs.Ytjfinkfikebjbaa
