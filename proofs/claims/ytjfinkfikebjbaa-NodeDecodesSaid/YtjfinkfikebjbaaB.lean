/- Contracts of isPage and plain. -/
import Derived.Test.YtjfinkfikebjbaaA
namespace Go.Proofs.Ytjfinkfikebjbaa
open Go.RowKit

def entAt (es : List Ent) (i : Nat) : Ent := es.getD i (⟨#[]⟩, 0)
/-- entry i of a node is as it must be -/
def entB (es : List Ent) (i : Nat) : Bool :=
  decide (1 ≤ (entAt es i).2) && decide ((entAt es i).2 ≤ 16777216) && decide ((entAt es i).1.size ≤ 32) && (decide ((entAt es i).1.size = 0) == decide (i + 1 = es.length)) &&
    (decide (i = 0) || decide (i + 1 = es.length) || lessB (entAt es (i - 1)).1 (entAt es i).1)
def headB (lv nx : Int) (n : Nat) : Bool := decide (1 ≤ n ∧ n ≤ 120 ∧ 0 ≤ lv ∧ lv ≤ 6 ∧ 0 ≤ nx ∧ nx ≤ 16777216)
def plainB (lv nx : Int) (es : List Ent) : Bool := headB lv nx es.length && (List.range es.length).all (entB es)

theorem entAt_get {es : List Ent} {i : Nat} {e : Ent} (h : es[i]? = some e) : entAt es i = e := by unfold entAt; rw [List.getD_eq_getElem?_getD, h]; rfl
theorem isPage_any (p : Int) (w : World) : Calls Try.prog 43 #[.int .i64 p] w fun e w' => e = .returned (.bool (decide (1 ≤ p ∧ p ≤ 16777216))) ∧ w = w' := by
  by_cases h1 : 1 ≤ p <;> by_cases h2 : p ≤ 16777216 <;>
  · go_enter Try.func43, Try.ntmps43
    go_wp2
    go_ret
    exact ⟨by simp [h1, h2], rfl⟩

theorem isPage_is {p : Int} {q : Bool} (h : decide (1 ≤ p ∧ p ≤ 16777216) = q) (w : World) : Calls Try.prog 43 #[.int .i64 p] w fun e w' => e = .returned (.bool q) ∧ w = w' := by
  have := isPage_any p w; rwa [h] at this

theorem plain_head (lv nx : Int) (A : Option Addr) (n c : Nat) (w : World) (hn : n ≤ 9223372036854775807) (h : headB lv nx n = false) :
    Calls Try.prog 37 #[.agg #[.int .i64 lv, .int .i64 nx, .slice A n c]] w fun e w' => e = .returned (.bool false) ∧ Below w.heap.size w w' := by
  have h : ¬ (1 ≤ n ∧ n ≤ 120 ∧ 0 ≤ lv ∧ lv ≤ 6 ∧ 0 ≤ nx ∧ nx ≤ 16777216) := by simpa [headB] using h
  by_cases h1 : n < 1
  · have d1 : decide ((n : Int) < 1) = true := by simp; omega
    clear h
    go_enter Try.func37, Try.ntmps37
    go_wp2
    go_ret
    exact ⟨rfl, (Below.refl _ _).alloc (Nat.le_refl _) _⟩
  have d1 : decide ((n : Int) < 1) = false := by simp; omega
  by_cases h2 : 120 < n
  · have d2 : decide (120 < (n : Int)) = true := by simp; omega
    clear h
    go_enter Try.func37, Try.ntmps37
    go_wp2
    go_ret
    exact ⟨rfl, (Below.refl _ _).alloc (Nat.le_refl _) _⟩
  have d2 : decide (120 < (n : Int)) = false := by simp; omega
  by_cases h3 : lv < 0
  · have d3 : decide (lv < 0) = true := by simp; omega
    clear h
    go_enter Try.func37, Try.ntmps37
    go_wp2
    go_ret
    exact ⟨rfl, (Below.refl _ _).alloc (Nat.le_refl _) _⟩
  have d3 : decide (lv < 0) = false := by simp; omega
  by_cases h4 : 6 < lv
  · have d4 : decide (6 < lv) = true := by simp; omega
    clear h
    go_enter Try.func37, Try.ntmps37
    go_wp2
    go_ret
    exact ⟨rfl, (Below.refl _ _).alloc (Nat.le_refl _) _⟩
  have d4 : decide (6 < lv) = false := by simp; omega
  by_cases h5 : nx < 0
  · have d5 : decide (nx < 0) = true := by simp; omega
    clear h
    go_enter Try.func37, Try.ntmps37
    go_wp2
    go_ret
    exact ⟨rfl, (Below.refl _ _).alloc (Nat.le_refl _) _⟩
  have d5 : decide (nx < 0) = false := by simp; omega
  have h6 : 16777216 < nx := by omega
  have d6 : decide (16777216 < nx) = true := by simp; omega
  clear h
  go_enter Try.func37, Try.ntmps37
  go_wp2
  go_ret
  exact ⟨rfl, (Below.refl _ _).alloc (Nat.le_refl _) _⟩

/-- the Below of the entry before -/
def befB (es : List Ent) (j : Nat) : ByteArray := if j = 0 then ⟨#[]⟩ else (entAt es (j - 1)).1
theorem all_false {es : List Ent} {n j : Nat} (hj : j < n) (h : entB es j = false) : (List.range n).all (entB es) = false := by
  rw [List.all_eq_false]; exact ⟨j, List.mem_range.2 hj, by simp [h]⟩
theorem bef_empty {x : ByteArray} (es : List Ent) (h : x.size ≠ 0) : lessB (befB es 0) x = true := by
  have : ¬ x.toList = [] := (full_list h).2
  unfold lessB befB
  rw [if_pos rfl, (empty_list (show (⟨#[]⟩ : ByteArray).size = 0 from rfl)).2]
  cases hx : x.toList with
  | nil => exact absurd hx this
  | cons a l => rfl

theorem entB_iff {es : List Ent} {m j : Nat} {x : ByteArray} {p : Int} (he : entAt es j = (x, p)) (hl : es.length = m + 1) :
    entB es j = true ↔ (1 ≤ p ∧ p ≤ 16777216) ∧ x.size ≤ 32 ∧ (x.size = 0 ↔ j = m) ∧ (j = 0 ∨ j = m ∨ lessB (entAt es (j - 1)).1 x = true) := by
  unfold entB
  rw [he, hl, show decide (j + 1 = m + 1) = decide (j = m) from by simp]
  simp only [Bool.and_eq_true, decide_eq_true_eq, Bool.or_eq_true, beq_iff_eq, decide_eq_decide]
  constructor
  · rintro ⟨⟨⟨⟨a, b⟩, c⟩, d⟩, e⟩
    exact ⟨⟨a, b⟩, c, d, by rcases e with (e | e) | e; exact .inl e; exact .inr (.inl e); exact .inr (.inr e)⟩
  · rintro ⟨⟨a, b⟩, c, d, e⟩
    exact ⟨⟨⟨⟨a, b⟩, c⟩, d⟩, by rcases e with e | e | e; exact .inl (.inl e); exact .inl (.inr e); exact .inr e⟩
theorem bef_less {es : List Ent} {j : Nat} {x : ByteArray} (h : lessB (befB es j) x = false) (hx : x.size ≠ 0) : ¬ (j = 0) ∧ lessB (entAt es (j - 1)).1 x = false := by
  by_cases h0 : j = 0
  · subst h0; rw [bef_empty es hx] at h; cases h
  · exact ⟨h0, by unfold befB at h; rwa [if_neg h0] at h⟩
theorem bef_ok {es : List Ent} {j : Nat} {x : ByteArray} (h : lessB (befB es j) x = true) : j = 0 ∨ lessB (entAt es (j - 1)).1 x = true := by
  by_cases h0 : j = 0
  · exact .inl h0
  · right; unfold befB at h; rwa [if_neg h0] at h
theorem step_all {es : List Ent} {j : Nat} (h : ∀ t, t < j → entB es t = true) (h' : entB es j = true) : ∀ t, t < j + 1 → entB es t = true := by
  intro t ht
  by_cases e : t = j
  · subst e; exact h'
  · exact h t (by omega)
theorem all_range {es : List Ent} {n : Nat} (h : ∀ t, t < n → entB es t = true) : (List.range n).all (entB es) = true := by
  rw [List.all_eq_true]; exact fun t ht => h t (List.mem_range.1 ht)

set_option maxRecDepth 100000 in
set_option maxHeartbeats 2000000 in
theorem plain_any (lv nx : Int) (A : Option Addr) (n c : Nat) (es : List Ent) (w : World) (hs : Es w w.heap.size A n c es) (hn : n ≤ 9223372036854775807) :
    Calls Try.prog 37 #[.agg #[.int .i64 lv, .int .i64 nx, .slice A n c]] w fun e w' => e = .returned (.bool (plainB lv nx es)) ∧ Below w.heap.size w w' := by
  have hl := hs.len
  have HL := Lib.hid hl
  have HS := Lib.hid hs
  cases hh : headB lv nx n with
  | false =>
    have hp : plainB lv nx es = false := by unfold plainB; rw [hl, hh]; rfl
    rw [hp]
    exact plain_head lv nx A n c w hn hh
  | true =>
    have hp : plainB lv nx es = (List.range n).all (entB es) := by unfold plainB; rw [hl, hh]; rfl
    rw [hp]
    have h : 1 ≤ n ∧ n ≤ 120 ∧ 0 ≤ lv ∧ lv ≤ 6 ∧ 0 ≤ nx ∧ nx ≤ 16777216 := by simpa [headB] using hh
    obtain ⟨h1, h2, h3, h4, h5, h6⟩ := h
    obtain ⟨m, rfl⟩ : ∃ m, n = m + 1 := ⟨n - 1, by omega⟩
    have d1 : decide ((m : Int) + 1 < 1) = false := by simp; omega
    have d2 : decide (120 < (m : Int) + 1) = false := by simp; omega
    have d3 : decide (lv < 0) = false := by simp; omega
    have d4 : decide (6 < lv) = false := by simp; omega
    have d5 : decide (nx < 0) = false := by simp; omega
    have d6 : decide (16777216 < nx) = false := by simp; omega
    clear hs hl hh hp
    go_enter Try.func37, Try.ntmps37
    go_wp2
    clear d1 d2 d3 d4 d5 d6
    go_loopw [4, 44] (fun v i wr => ∃ j : Nat, j ≤ m + 1 ∧ i = .int .i64 j ∧ v = .string (befB es j) ∧ (∀ t, t < j → entB es t = true) ∧ Below w.heap.size w wr) (fun _ i _ => m + 1 - (intOf i).toNat)
    case atStart => exact ⟨0, Nat.zero_le _, rfl, rfl, fun t h => absurd h (by omega), (Below.refl _ _).alloc (Nat.le_refl _) _⟩
    case round =>
      obtain ⟨j, hj, rfl, rfl, hall, hbel⟩ := hrel
      have HA := Lib.hid hall
      have hsz := hbel.size
      clear hall
      by_cases hlt : j < m + 1
      · obtain ⟨b, o, x, p, rfl, hb, hg, hc, hc2⟩ := HS.out.cell hlt
        have k1 := (hbel.cell (p := ⟨b, o + j * 2, none⟩) hb).trans hc
        have k2 := (hbel.cell (p := ⟨b, o + j * 2 + 1, none⟩) hb).trans hc2
        have he := entAt_get hg
        have hE := entB_iff he HL.out
        have hnext : befB es (j + 1) = x := by unfold befB; rw [if_neg (by omega), Nat.add_sub_cancel, he]
        have HE := Lib.hid hE
        have HN := Lib.hid hnext
        have HBO := Lib.hid (@bef_ok es j x)
        have HBL := Lib.hid (@bef_less es j x)
        generalize befB es j = bf at *
        clear hg he hE hnext hc hc2
        by_cases c1 : 1 ≤ p ∧ p ≤ 16777216
        · have q1 : decide (1 ≤ p ∧ p ≤ 16777216) = true := by simp [c1]
          have Q1 := Lib.hid q1
          clear q1
          by_cases cj : j = m
          · have j1 : ((j : Int) == (m : Int)) = true := by simp [cj]
            have j2 : decide (j < m) = false := by simp; omega
            have CJ := Lib.hid cj
            clear cj
            by_cases cx : x.size = 0
            · obtain ⟨x1, x2⟩ := empty_list cx
              have x3 : decide (32 < (x.size : Int)) = false := by simp; omega
              have hok : entB es j = true := HE.out.2 ⟨c1, by omega, ⟨fun _ => CJ.out, fun _ => cx⟩, .inr (.inl CJ.out)⟩
              clear cx c1
              have HT := Lib.hid hok
              clear hok
              go_wp2_with (go_at_call 43; refine (isPage_is Q1.out _).mono ?_; rintro e w' ⟨rfl, rfl⟩)
              go_roundw
              case rel => exact ⟨j + 1, by omega, by go_num, by rw [HN.out], step_all HA.out HT.out, hbel.alloc hsz _⟩
              case measure => simp [intOf]; omega
            · obtain ⟨x1, x2⟩ := full_list cx
              have hf : entB es j = false := by rw [← Bool.not_eq_true]; intro h; exact cx ((HE.out.1 h).2.2.1.2 CJ.out)
              clear cx c1
              have HF := Lib.hid (all_false hlt hf)
              clear hf
              go_wp2_with (go_at_call 43; refine (isPage_is Q1.out _).mono ?_; rintro e w' ⟨rfl, rfl⟩)
              go_ret
              exact ⟨by rw [HF.out]; rfl, hbel.alloc hsz _⟩
          · have j1 : ((j : Int) == (m : Int)) = false := by simp; omega
            have j2 : decide (j < m) = true := by simp; omega
            by_cases cx : x.size = 0
            · obtain ⟨x1, x2⟩ := empty_list cx
              have hf : entB es j = false := by rw [← Bool.not_eq_true]; intro h; exact cj ((HE.out.1 h).2.2.1.1 cx)
              clear cx c1 cj
              have HF := Lib.hid (all_false hlt hf)
              clear hf
              go_wp2_with (go_at_call 43; refine (isPage_is Q1.out _).mono ?_; rintro e w' ⟨rfl, rfl⟩)
              go_ret
              exact ⟨by rw [HF.out]; rfl, hbel.alloc hsz _⟩
            · obtain ⟨x1, x2⟩ := full_list cx
              by_cases c3 : x.size ≤ 32
              · have x3 : decide (32 < (x.size : Int)) = false := by simp; omega
                cases hb0 : lessB bf x with
                | true =>
                  have hok : entB es j = true := HE.out.2 ⟨c1, c3, ⟨fun h => absurd h cx, fun h => absurd h cj⟩, by rcases HBO.out hb0 with h | h; exact .inl h; exact .inr (.inr h)⟩
                  obtain ⟨l1, l2, l3⟩ := less_no hb0
                  clear hb0 cx c1 cj
                  have HT := Lib.hid hok
                  clear hok
                  go_wp2_with (go_at_call 43; refine (isPage_is Q1.out _).mono ?_; rintro e w' ⟨rfl, rfl⟩)
                  go_roundw
                  case rel => exact ⟨j + 1, by omega, by go_num, by rw [HN.out], step_all HA.out HT.out, hbel.alloc hsz _⟩
                  case measure => simp [intOf]; omega
                | false =>
                  have hf : entB es j = false := by
                    rw [← Bool.not_eq_true]; intro h
                    obtain ⟨k0, k1⟩ := HBL.out hb0 cx
                    rcases (HE.out.1 h).2.2.2 with h | h | h
                    · exact k0 h
                    · exact cj h
                    · rw [k1] at h; cases h
                  have HF := Lib.hid (all_false hlt hf)
                  clear hf
                  rcases less_yes hb0 with l1 | l1
                  · clear hb0 cx c1 cj
                    go_wp2_with (go_at_call 43; refine (isPage_is Q1.out _).mono ?_; rintro e w' ⟨rfl, rfl⟩)
                    go_ret
                    exact ⟨by rw [HF.out]; rfl, hbel.alloc hsz _⟩
                  · subst l1
                    clear hb0 cx c1 cj
                    go_wp2_with (go_at_call 43; refine (isPage_is Q1.out _).mono ?_; rintro e w' ⟨rfl, rfl⟩)
                    go_ret
                    exact ⟨by rw [HF.out]; rfl, hbel.alloc hsz _⟩
              · have x3 : decide (32 < (x.size : Int)) = true := by simp; omega
                have hf : entB es j = false := by rw [← Bool.not_eq_true]; intro h; exact c3 (HE.out.1 h).2.1
                clear cx c1 cj c3
                have HF := Lib.hid (all_false hlt hf)
                clear hf
                go_wp2_with (go_at_call 43; refine (isPage_is Q1.out _).mono ?_; rintro e w' ⟨rfl, rfl⟩)
                go_ret
                exact ⟨by rw [HF.out]; rfl, hbel.alloc hsz _⟩
        · have q1 : decide (1 ≤ p ∧ p ≤ 16777216) = false := by simpa using c1
          have Q1 := Lib.hid q1
          have hf : entB es j = false := by rw [← Bool.not_eq_true]; intro h; exact c1 (HE.out.1 h).1
          clear q1 c1
          have HF := Lib.hid (all_false hlt hf)
          clear hf
          go_wp2_with (go_at_call 43; refine (isPage_is Q1.out _).mono ?_; rintro e w' ⟨rfl, rfl⟩)
          go_ret
          exact ⟨by rw [HF.out]; rfl, hbel.alloc hsz _⟩
      · have hall := all_range (es := es) (n := m + 1) (fun t ht => HA.out t (by omega))
        have HAL := Lib.hid hall
        clear hall
        go_wp2
        go_ret
        exact ⟨by rw [HAL.out]; rfl, hbel⟩
end Go.Proofs.Ytjfinkfikebjbaa
