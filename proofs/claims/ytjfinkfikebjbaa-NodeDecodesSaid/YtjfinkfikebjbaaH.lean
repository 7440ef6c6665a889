/- Contracts of Encode for every node, and of Valid. -/
import Derived.Test.YtjfinkfikebjbaaG
namespace Go.Proofs.Ytjfinkfikebjbaa
open Go.RowKit

/-- Encode's two results -/
def EncR (z lv nx : Int) (es : List Ent) (w : World) (e : Ending) (w' : World) : Prop := e = .returned (.tuple #[.string (encS z lv nx es), .int .i64 (encE z lv nx es)]) ∧ Below w.heap.size w w'

theorem plain_short {lv nx : Int} {es : List Ent} (h : plainB lv nx es = true) : ∀ e ∈ es, e.1.size ≤ 32 := by
  obtain ⟨_, _, _, _, _, _, h7⟩ := plain_yes h
  intro e he
  obtain ⟨i, hi, rfl⟩ := List.getElem_of_mem he
  have := h7 i hi
  unfold entB at this
  rw [entAt_get (List.getElem?_eq_getElem hi)] at this
  simp only [Bool.and_eq_true, decide_eq_true_eq] at this
  exact this.1.1.2

theorem plain_100 {lv nx : Int} {es : List Ent} (h : plainB lv nx es = true) : ∀ e ∈ es, e.1.size ≤ 100 := fun e he => by have := plain_short h e he; omega

set_option maxHeartbeats 1000000 in
theorem encode_any (z lv nx : Int) (A : Option Addr) (n c : Nat) (es : List Ent) (w : World) (hs : Es w w.heap.size A n c es) (hn : n ≤ 9223372036854775807) :
    Calls Try.prog 17 #[.int .i64 z, .agg #[.int .i64 lv, .int .i64 nx, .slice A n c]] w (EncR z lv nx es w) := by
  cases hsz : szB z with
  | false =>
    have h1 : encS z lv nx es = ⟨#[]⟩ := by unfold encS okE; rw [hsz]; rfl
    have h2 : encE z lv nx es = 1 := by unfold encE; rw [hsz]; rfl
    have H1 := Lib.hid h1
    have H2 := Lib.hid h2
    have HSZ := Lib.hid hsz
    clear h1 h2 hsz hs
    go_enter Try.func17, Try.ntmps17
    go_wp2_with fail
    refine (isSize_any z _).mono ?_
    rintro e w' ⟨rfl, rfl⟩
    rw [HSZ.out]
    go_wp2_with fail
    go_ret2
    exact ⟨by rw [H1.out, H2.out]; rfl, (Below.refl _ _).alloc (Nat.le_refl _) _⟩
  | true =>
    cases hp : plainB lv nx es with
    | false =>
      have h1 : encS z lv nx es = ⟨#[]⟩ := by unfold encS okE; rw [hp]; simp
      have h2 : encE z lv nx es = 1 := by unfold encE; rw [hp]; simp
      have H1 := Lib.hid h1
      have H2 := Lib.hid h2
      have HSZ := Lib.hid hsz
      have HP := Lib.hid hp
      have HS := Lib.hid hs
      clear h1 h2 hsz hp hs
      go_enter Try.func17, Try.ntmps17
      go_wp2_with fail
      refine (isSize_any z _).mono ?_
      rintro e w' ⟨rfl, rfl⟩
      rw [HSZ.out]
      go_wp2_with fail
      refine (plain_is HP.out (es_alloc HS.out _) (by omega)).mono ?_
      rintro e w1 ⟨rfl, hb1⟩
      have hb := bx_from hb1
      clear hb1
      go_wp2_with fail
      go_ret2
      exact ⟨by rw [H1.out, H2.out]; rfl, bx_below hb⟩
    | true =>
      by_cases hle : ((formL lv nx es).length : Int) ≤ z
      · have h1 : encS z lv nx es = ⟨(encL z lv nx es).toArray⟩ := by unfold encS okE; rw [hsz, hp]; simp [hle]
        have h2 : encE z lv nx es = 0 := by unfold encE; rw [hsz, hp]; simp [hle]
        refine (encode_ok z lv nx A n c es w hs hsz hp hle (plain_short hp)).mono ?_
        rintro e w' ⟨rfl, hb⟩
        exact ⟨by rw [h1, h2], hb⟩
      · have h1 : encS z lv nx es = ⟨#[]⟩ := by unfold encS okE; rw [hsz, hp]; simp [hle]
        have h2 : encE z lv nx es = 8 := by unfold encE; rw [hsz, hp]; simp [hle]
        have hsi : sizeI lv nx es = ((formL lv nx es).length : Int) := by unfold sizeI; rw [hp]; rfl
        have hz := plain_100 hp
        have hn2 : n ≤ 200 := by have := (plain_yes hp).2.1; rw [hs.len] at this; omega
        obtain ⟨F, hF⟩ : ∃ F, (formL lv nx es).length = F := ⟨_, rfl⟩
        rw [hF] at hle hsi
        have hd : decide (z < (F : Int)) = true := by simp; omega
        have H1 := Lib.hid h1
        have H2 := Lib.hid h2
        have HSZ := Lib.hid hsz
        have HP := Lib.hid hp
        have HS := Lib.hid hs
        have HSI := Lib.hid hsi
        clear h1 h2 hsz hp hs hsi hF
        go_enter Try.func17, Try.ntmps17
        go_wp2_with fail
        refine (isSize_any z _).mono ?_
        rintro e w' ⟨rfl, rfl⟩
        rw [HSZ.out]
        go_wp2_with fail
        refine (plain_is HP.out (es_alloc HS.out _) (by omega)).mono ?_
        rintro e w1 ⟨rfl, hb1⟩
        have hb := bx_from hb1
        have q0 := bx_cell hb 0
        have q1 := bx_cell hb 1
        have q2 := bx_cell hb 2
        simp only [List.getElem?_toArray, List.getElem?_cons_succ, List.getElem?_cons_zero] at q0 q1 q2
        have HES := Lib.hid (Es.after HS.out (bx_below hb))
        clear hb1
        go_wp2_with fail
        refine (size_any lv nx A n c es w1 HES.out (by omega) hz).mono ?_
        rintro e w2 ⟨rfl, hb2⟩
        have hbb := below_next hb hb2 (bx_size hb)
        rw [HSI.out]
        clear hb2 hb
        go_wp2_with fail
        go_ret2
        exact ⟨by rw [H1.out, H2.out]; rfl, bx_below hbb⟩

def validB (z lv nx : Int) (es : List Ent) : Bool := okE z lv nx es
set_option maxHeartbeats 1000000 in
theorem valid_any (z lv nx : Int) (A : Option Addr) (n c : Nat) (es : List Ent) (w : World) (hs : Es w w.heap.size A n c es) (hn : n ≤ 9223372036854775807) :
    Calls Try.prog 21 #[.int .i64 z, .agg #[.int .i64 lv, .int .i64 nx, .slice A n c]] w fun e w' => e = .returned (.bool (okE z lv nx es)) ∧ Below w.heap.size w w' := by
  obtain ⟨q, hq⟩ : ∃ q, okE z lv nx es = q := ⟨_, rfl⟩
  rw [hq]
  cases hsz : szB z with
  | false =>
    have H1 := Lib.hid (show q = false by rw [← hq]; unfold okE; rw [hsz]; rfl)
    have HSZ := Lib.hid hsz
    clear hsz hs hq
    go_enter Try.func21, Try.ntmps21
    go_wp2_with fail
    refine (isSize_any z _).mono ?_
    rintro e w' ⟨rfl, rfl⟩
    rw [HSZ.out]
    go_wp2_with fail
    go_ret
    exact ⟨by rw [H1.out]; rfl, (Below.refl _ _).alloc (Nat.le_refl _) _⟩
  | true =>
    cases hp : plainB lv nx es with
    | false =>
      have H1 := Lib.hid (show q = false by rw [← hq]; unfold okE; rw [hp]; simp)
      have HSZ := Lib.hid hsz
      have HP := Lib.hid hp
      have HS := Lib.hid hs
      clear hsz hp hs hq
      go_enter Try.func21, Try.ntmps21
      go_wp2_with fail
      refine (isSize_any z _).mono ?_
      rintro e w' ⟨rfl, rfl⟩
      rw [HSZ.out]
      go_wp2_with fail
      refine (plain_is HP.out (es_alloc HS.out _) (by omega)).mono ?_
      rintro e w1 ⟨rfl, hb1⟩
      have hb := bx_from hb1
      clear hb1
      go_wp2_with fail
      go_ret
      exact ⟨by rw [H1.out]; rfl, bx_below hb⟩
    | true =>
      have hsi : sizeI lv nx es = ((formL lv nx es).length : Int) := by unfold sizeI; rw [hp]; rfl
      have hz := plain_100 hp
      have hn2 : n ≤ 200 := by have := (plain_yes hp).2.1; rw [hs.len] at this; omega
      obtain ⟨F, hF⟩ : ∃ F, (formL lv nx es).length = F := ⟨_, rfl⟩
      have H1 := Lib.hid (show q = decide ((F : Int) ≤ z) by rw [← hq]; unfold okE; rw [hsz, hp, hF]; simp)
      rw [hF] at hsi
      have HSZ := Lib.hid hsz
      have HP := Lib.hid hp
      have HS := Lib.hid hs
      have HSI := Lib.hid hsi
      clear hsz hp hs hsi hF hq
      by_cases hle : (F : Int) ≤ z
      all_goals
        go_enter Try.func21, Try.ntmps21
        go_wp2_with fail
        refine (isSize_any z _).mono ?_
        rintro e w' ⟨rfl, rfl⟩
        rw [HSZ.out]
        go_wp2_with fail
        refine (plain_is HP.out (es_alloc HS.out _) (by omega)).mono ?_
        rintro e w1 ⟨rfl, hb1⟩
        have hb := bx_from hb1
        have q0 := bx_cell hb 0
        have q1 := bx_cell hb 1
        have q2 := bx_cell hb 2
        simp only [List.getElem?_toArray, List.getElem?_cons_succ, List.getElem?_cons_zero] at q0 q1 q2
        have HES := Lib.hid (Es.after HS.out (bx_below hb))
        clear hb1
        go_wp2_with fail
        refine (size_any lv nx A n c es w1 HES.out (by omega) hz).mono ?_
        rintro e w2 ⟨rfl, hb2⟩
        have hbb := below_next hb hb2 (bx_size hb)
        rw [HSI.out]
        clear hb2 hb
        go_wp2_with fail
        go_ret
        exact ⟨by rw [H1.out]; simp [hle], bx_below hbb⟩
end Go.Proofs.Ytjfinkfikebjbaa
