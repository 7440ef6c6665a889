/- A slice of node entries in memory; the contracts of Few and Same. -/
import Derived.Test.YtjfinkfikebjbaaProg
import Derived.Test.YtjfinkfikebjbaaBase
import Derived.Test.YtjfinkfikebjbaaBytes
import Derived.WalkSpells
import Derived.WalkLawsBesides
import Derived.BigQuiet
import Derived.Deep.QuietTactic
namespace Go.Proofs.Ytjfinkfikebjbaa
open Go.RowKit

/-- an entry: its Below and its Page -/
abbrev Ent := ByteArray × Int
def eCells (es : List Ent) : List Value := es.flatMap fun e => [.string e.1, .int .i64 e.2]
theorem eCells_len (es : List Ent) : (eCells es).length = es.length * 2 := by
  induction es with
  | nil => rfl
  | cons e es ih => simp only [eCells, List.flatMap_cons, List.length_append, List.length_cons, List.length_nil] at *; rw [ih]; omega
theorem eCells_get : ∀ (es : List Ent) (k : Nat) (e : Ent), es[k]? = some e → (eCells es)[k * 2]? = some (.string e.1) ∧ (eCells es)[k * 2 + 1]? = some (.int .i64 e.2)
  | [], k, e, h => by simp at h
  | x :: es, 0, e, h => by
    have : x = e := by simpa using h
    subst this; exact ⟨rfl, rfl⟩
  | x :: es, k + 1, e, h => by
    have ih := eCells_get es k e (by simpa using h)
    rw [show (k + 1) * 2 = k * 2 + 2 from by omega]
    exact ⟨by simpa [eCells] using ih.1, by simpa [eCells] using ih.2⟩

/-- the slice '.slice A n c' of entries reads as es -/
def Es (w : World) (B : Nat) (A : Option Addr) (n c : Nat) (es : List Ent) : Prop := n ≤ c ∧ Rd w B 2 A n (eCells es)

section
variable {w w' : World} {B B' : Nat} {A : Option Addr} {n c k : Nat} {es : List Ent}
theorem Es.len (h : Es w B A n c es) : es.length = n := by have := h.2.1; rw [eCells_len] at this; omega
theorem Es.cell (h : Es w B A n c es) (hk : k < n) :
    ∃ b o x p, A = some ⟨b, o, none⟩ ∧ b < B ∧ es[k]? = some (x, p) ∧ w.cell? ⟨b, o + k * 2, none⟩ = some (.string x) ∧ w.cell? ⟨b, o + k * 2 + 1, none⟩ = some (.int .i64 p) := by
  have hl := h.len
  obtain ⟨b, o, hA, hb, hc⟩ := h.2.2 (by omega)
  have hg : es[k]? = some (es[k]'(by omega)) := List.getElem?_eq_getElem (by omega)
  obtain ⟨h1, h2⟩ := eCells_get es k _ hg
  exact ⟨b, o, _, _, hA, hb, hg, hc _ _ h1, by have := hc _ _ h2; rwa [← Nat.add_assoc] at this⟩
theorem Es.keep (h : Es w B A n c es) (hk : ∀ p : Addr, p.block < B → w'.cell? p = w.cell? p) : Es w' B A n c es := ⟨h.1, h.2.keep hk⟩
theorem Es.below (h : Es w B A n c es) (hb : Below B w w') : Es w' B A n c es := ⟨h.1, h.2.below hb⟩
theorem Es.more (h : Es w B A n c es) (hB : B ≤ B') : Es w B' A n c es := ⟨h.1, h.2.more hB⟩
theorem Es.after (h : Es w w.heap.size A n c es) (hb : Below w.heap.size w w') : Es w' w'.heap.size A n c es := (h.below hb).more hb.size
theorem Es.drewN (h : Es w B A n c es) (k : Nat) : Es (w.drewN k) B A n c es := h
theorem es_nil : Es w B none 0 0 [] := ⟨by omega, Rd.none_⟩
end

def fewB (es : List Ent) : Bool := es.all (fun e => decide (e.1.size ≤ 100)) && decide (es.length ≤ 200)

set_option maxHeartbeats 400000 in
theorem few_any (lv nx : Int) (A : Option Addr) (n c : Nat) (es : List Ent) (w : World) (hs : Es w w.heap.size A n c es) (hn : n ≤ 9223372036854775807) :
    Calls Try.prog 16 #[.agg #[.int .i64 lv, .int .i64 nx, .slice A n c]] w fun e w' => e = .returned (.bool (fewB es)) ∧ Below w.heap.size w w' := by
  have HL := Lib.hid hs.len
  have HS := Lib.hid hs
  clear hs
  go_enter Try.func16, Try.ntmps16
  go_wp2
  go_loop [3] (fun i => ∃ j : Nat, j ≤ n ∧ i = .int .i64 j ∧ ∀ t, t < j → ∀ e, es[t]? = some e → e.1.size ≤ 100) (fun i => n - (intOf i).toNat)
  case atStart => exact ⟨0, Nat.zero_le _, rfl, fun t h => absurd h (by omega)⟩
  case round =>
    obtain ⟨j, hj, rfl, hall⟩ := hrel
    have HA := Lib.hid hall
    clear hall
    by_cases hlt : j < n
    · obtain ⟨b, o, x, p, rfl, hb, hg, hc, hc2⟩ := HS.out.cell hlt
      have HG := Lib.hid hg
      clear hg
      by_cases hsz : x.size ≤ 100
      · go_wp2
        go_round
        case rel =>
          refine ⟨j + 1, by omega, by go_num, fun t ht e he => ?_⟩
          by_cases h : t = j
          · subst h; rw [HG.out] at he; injection he with he; subst he; exact hsz
          · exact HA.out t (by omega) e he
        case measure => simp [intOf]; omega
      · go_wp2
        go_ret
        have hf : fewB es = false := by
          unfold fewB
          rw [Bool.and_eq_false_iff]; left
          rw [List.all_eq_false]
          exact ⟨(x, p), List.mem_of_getElem? HG.out, by simpa using hsz⟩
        exact ⟨by rw [hf]; rfl, (Below.refl _ _).alloc (Nat.le_refl _) _⟩
    · have hall : es.all (fun e => decide (e.1.size ≤ 100)) = true := by
        rw [List.all_eq_true]
        intro e he
        obtain ⟨t, ht, rfl⟩ := List.getElem_of_mem he
        have := HL.out
        simpa using HA.out t (by omega) _ (List.getElem?_eq_getElem ht)
      have hf : fewB es = decide (n ≤ 200) := by unfold fewB; rw [hall, HL.out]; simp
      have HF := Lib.hid hf
      clear hf hall
      by_cases h2 : n ≤ 200
      all_goals
        go_wp2
        go_ret
        exact ⟨by rw [HF.out]; simp [h2]; omega, (Below.refl _ _).alloc (Nat.le_refl _) _⟩

set_option maxHeartbeats 1000000 in
theorem same_true (lv nx : Int) (A A' : Option Addr) (n c c' : Nat) (es : List Ent) (w : World) (hs : Es w w.heap.size A n c es) (hs' : Es w w.heap.size A' n c' es) (hn : n ≤ 9223372036854775807) :
    Calls Try.prog 13 #[.agg #[.int .i64 lv, .int .i64 nx, .slice A n c], .agg #[.int .i64 lv, .int .i64 nx, .slice A' n c']] w fun e w' => e = .returned (.bool true) ∧ Below w.heap.size w w' := by
  have HS := Lib.hid hs
  have HS' := Lib.hid hs'
  clear hs hs'
  go_enter Try.func13, Try.ntmps13
  go_wp2
  go_loopw [5] (fun i wr => ∃ j : Nat, j ≤ n ∧ i = .int .i64 j ∧ ∃ d, wr = ((w.alloc (.cells #[.int .i64 lv, .int .i64 nx, .slice A n c] 25)).alloc (.cells #[.int .i64 lv, .int .i64 nx, .slice A' n c'] 25)).drewN d) (fun i _ => n - (intOf i).toNat)
  case atStart => exact ⟨0, Nat.zero_le _, rfl, 0, rfl⟩
  case round =>
    obtain ⟨j, hj, rfl, d, rfl⟩ := hrel
    by_cases hlt : j < n
    · obtain ⟨b, o, x, p, rfl, hb, hg, hc, hc2⟩ := HS.out.cell hlt
      obtain ⟨b', o', x', p', rfl, hb', hg', hc', hc2'⟩ := HS'.out.cell hlt
      obtain ⟨rfl, rfl⟩ : x = x' ∧ p = p' := by rw [hg] at hg'; injection hg' with e; injection e with e1 e2; exact ⟨e1, e2⟩
      clear hg hg'
      go_wp2
      go_quiet (fail)
      go_wp2
      go_roundw
      case rel => exact ⟨j + 1, by omega, by go_num, _, rfl⟩
      case measure => simp [intOf]; omega
    · go_wp2
      go_ret
      exact ⟨rfl, below_drewN (((Below.refl _ _).alloc (Nat.le_refl _) _).alloc (by simp) _) _⟩
end Go.Proofs.Ytjfinkfikebjbaa
