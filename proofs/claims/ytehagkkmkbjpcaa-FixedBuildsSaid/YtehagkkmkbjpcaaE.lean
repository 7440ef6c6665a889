/- Contract of awake; the walk of FixedPacks. -/
import Derived.Test.YtehagkkmkbjpcaaD
namespace Go.Proofs.Ytehagkkmkbjpcaa
open Go.RowKit

def exIn : List ByteArray := [⟨#[97, 97, 97]⟩, ⟨#[98, 98, 98]⟩, ⟨#[99, 99, 99]⟩, ⟨#[100, 100, 100]⟩]
def exOut : List ByteArray := [⟨#[97, 97, 97, 98, 98, 98, 99, 99, 99]⟩, ⟨#[100, 100, 100]⟩]
theorem ex_pack : packL 3 10 exIn = exOut := by decide +kernel
theorem ex_code : packE 3 10 exIn = 0 := by decide +kernel
theorem ex_most : mostI 3 10 = 3 := by decide +kernel

theorem Ss.after {w w' : World} {A : Option Addr} {n c : Nat} {ss : List ByteArray} (h : Ss w w.heap.size A n c ss) (hb : Below w.heap.size w w') : Ss w' w'.heap.size A n c ss := (h.below hb).more hb.size

/-- a slice that was just built -/
theorem ss_built (w : World) (ss : List ByteArray) (t : TypeId) (cs : Array Value) (n : Nat) (h : cs = (ss.map Value.string).toArray) (hn : n = ss.length) :
    Ss (w.alloc (.cells cs t)) (w.alloc (.cells cs t)).heap.size (some ⟨w.heap.size, 0, none⟩) n n ss := by
  subst h hn
  refine ⟨Nat.le_refl _, by simp, fun _ => ⟨w.heap.size, 0, rfl, by simp, fun j u hu => ?_⟩⟩
  rw [World.cell?_alloc_at _ _ _ _ rfl]
  simpa using hu

set_option maxHeartbeats 1000000 in
theorem awake_any (w : World) : Calls Try.prog 10 #[] w fun e w' => e = .returned (.bool true) ∧ Below w.heap.size w w' := by
  have hp := ex_pack
  have he := ex_code
  have hm := ex_most
  have hl : exOut.length = 2 := rfl
  have HP := Lib.hid hp
  have HE := Lib.hid he
  have HM := Lib.hid hm
  have HL := Lib.hid hl
  clear hp he hm hl
  go_enter Try.func10, Try.ntmps10
  go_wp2_with fail
  refine (pack_any 3 10 _ 4 4 exIn _ (ss_built w exIn 9 _ 4 rfl rfl) (by omega) (by decide)).mono ?_
  rintro e w1 ⟨A, c, rfl, hs, hb⟩
  rw [HP.out] at hs
  rw [HP.out, HE.out, HL.out]
  rw [HL.out] at hs
  have hbw := below_next ((Below.refl w.heap.size w).alloc (Nat.le_refl _) _) hb (by simp)
  have hsw := hbw.size
  clear hb
  have HS := Lib.hid hs
  clear hs
  go_wp2_with (go_at_call 16; refine (most_any _ _ _).mono ?_; rintro e w' ⟨rfl, rfl⟩; rw [HM.out])
  refine (same_true A _ 2 c 2 exOut _ _ (Ss.after HS.out ((Below.refl _ _).alloc (Nat.le_refl _) _)) (ss_built w1 exOut 9 _ 2 rfl rfl) (by omega)).mono ?_
  rintro e w2 ⟨rfl, hb2⟩
  have hbw2 := below_next (hbw.alloc hsw _) hb2 (by simp; omega)
  clear hb2
  go_wp2
  go_ret
  exact ⟨rfl, hbw2⟩
end Go.Proofs.Ytehagkkmkbjpcaa
