/- History: a copy of the units, sorted. -/
import Derived.Test.YtpklgdclknicjaaGreatDoorHL
import Derived.Shelf.SlSortCmp.NoneTotal
namespace Go.Proofs.YtpklgdclknicjaaGreatDoor
open Go.RowKit Go.Sort Go.Proofs

instance : Inhabited Com := ⟨⟨0, 0, none, 0, 0, none, 0, 0, [], []⟩⟩

section
variable {α : Type} [Inhabited α] {enc : α → List Value} {k : Nat}
theorem flatK_list (hk : ∀ x, (enc x).length = k) (l : List α) : (flatK enc k l.toArray).toList = flat enc l := by
  apply List.ext_getElem?
  intro t
  by_cases ht : t < l.length * k
  · have k0 : 0 < k := by rcases Nat.eq_zero_or_pos k with h | h; · subst h; simp at ht
                          · exact h
    have hq : t / k < l.length := (Nat.div_lt_iff_lt_mul k0).2 ht
    have hr : t % k < k := Nat.mod_lt _ k0
    have h1 := flat_get hk l (t / k) _ (List.getElem?_eq_getElem hq) (t % k) hr
    rw [show t / k * k + t % k = t from by rw [Nat.mul_comm]; exact Nat.div_add_mod t k] at h1
    rw [h1, Array.getElem?_toList]
    have hs : (flatK enc k l.toArray).size = l.length * k := by simp
    have hg := get_flatK enc k l.toArray t (by simpa using ht)
    rw [getElem!_pos _ t (by rw [hs]; exact ht)] at hg
    rw [Array.getElem?_eq_getElem (by rw [hs]; exact ht), hg]
    have e1 : l.toArray[t / k]! = l[t / k] := by rw [getElem!_pos l.toArray (t / k) (by simpa using hq)]; simp
    rw [e1, getElem!_pos (enc l[t / k]) (t % k) (by rw [hk]; exact hr), List.getElem?_eq_getElem (by rw [hk]; exact hr)]
  · rw [List.getElem?_eq_none (by rw [Array.length_toList]; simp; omega), List.getElem?_eq_none (by rw [flat_len hk]; omega)]

theorem holdsK_of_own (hk : ∀ x, (enc x).length = k) {w : World} {base g n cap : Nat} {e : TypeId} {l : List α} (h : w.ownsRow base e k (.slice (some ⟨g, 0, none⟩) n cap) n (flat enc l)) : HoldsK enc k w g 0 l.toArray := by
  have hcell := h.cells (g := g) rfl
  have hz : ∃ cur, w.heap[g]? = some (.cells cur e (0, 0)) := by
    rcases h.2 with ⟨h0, _⟩ | ⟨g', cap', cur, e0, _, hg, _⟩
    · cases h0
    · injection e0 with e1 _ _
      injection e1 with e1
      injection e1 with e1
      subst e1
      exact ⟨cur, hg⟩
  obtain ⟨cur, hg⟩ := hz
  intro j hj
  have hj' : j < (flat enc l).length := by rw [flat_len hk]; simpa using hj
  refine ⟨?_, by simp [World.frozen?, hg]⟩
  have := hcell j _ (List.getElem?_eq_getElem hj')
  rw [show ((⟨g, 0, none⟩ : Addr).add j) = ⟨g, 0 + j, none⟩ from by unfold Addr.add; split <;> simp_all] at this
  rw [this]
  congr 1
  rw [getElem!_pos _ j hj]
  have e2 := congrArg (·[j]?) (flatK_list hk l)
  simp only [Array.getElem?_toList] at e2
  rw [Array.getElem?_eq_getElem hj, List.getElem?_eq_getElem hj'] at e2
  exact (Option.some.inj e2).symm

theorem own_sortK (hk : ∀ x, (enc x).length = k) {w : World} {base g n cap m : Nat} {e : TypeId} {l s : List α} {os : Array Obj} (h : w.ownsRow base e k (.slice (some ⟨g, 0, none⟩) n cap) n (flat enc l)) (hs : s.length = n) :
    (sortWorldK enc k w g 0 m s.toArray os).ownsRow base e k (.slice (some ⟨g, 0, none⟩) n cap) n (flat enc s) := by
  rcases h.2 with ⟨e0, _⟩ | ⟨g', cap', cur, e0, hb, hg, hn, hm, hsz, ht⟩
  · cases e0
  · injection e0 with e1 _ e3
    injection e1 with e1
    injection e1 with e1
    subst e1; subst e3
    have hlt : g < w.heap.size := by
      rcases Nat.lt_or_ge g w.heap.size with h' | h'
      · exact h'
      · rw [Array.getElem?_eq_none h'] at hg; cases hg
    have hcs : n * k ≤ cur.size := by rw [hsz]; exact Nat.mul_le_mul_right _ hn
    refine ⟨by rw [flat_len hk, hs], .inr ⟨g, cap, putCells id 0 (flatK enc k s.toArray) cur, rfl, hb, ?_, hn, hm, by simpa [putCells] using hsz, ?_⟩⟩
    · simp only [sortWorldK, grow, putRowK, putRow, mapBlock, Sort.ahead]
      rw [Array.getElem?_append_left (by simpa using hlt)]
      simp [Array.getElem?_modify, hg, onCells]
    · apply List.ext_getElem?
      intro j
      rw [List.getElem?_take, ← flatK_list hk s, Array.getElem?_toList, Array.getElem?_toList]
      by_cases hj : j < n * k
      · have hjc : j < cur.size := by omega
        have hjf : j < (flatK enc k s.toArray).size := by simp [hs]; exact hj
        simp only [if_pos hj, putCells, Array.getElem?_mapIdx, Array.getElem?_eq_getElem hjc, Option.map_some]
        rw [if_pos ⟨Nat.zero_le _, by rw [Nat.zero_add]; exact hjf⟩, Array.getElem?_eq_getElem hjf]
        simp only [Nat.sub_zero, id]
        rw [getElem!_pos _ j hjf]
      · rw [if_neg hj, Array.getElem?_eq_none (by simp [hs]; omega)]

theorem below_sortK {w : World} {B g m : Nat} {d : Array α} {os : Array Obj} (hB : B ≤ w.heap.size) (hg : B ≤ g) : Below B w (sortWorldK enc k w g 0 m d os) := by
  refine ⟨rfl, rfl, rfl, ?_, fun i hi => ?_⟩
  · simp [sortWorldK, grow, putRowK, putRow, mapBlock, Sort.ahead]
  · simp only [sortWorldK, grow, putRowK, putRow, mapBlock, Sort.ahead]
    rw [Array.getElem?_append_left (by simp; omega), Array.getElem?_modify, if_neg (by omega)]
end

theorem infoCom : (Tryz.prog.info? 47).map (fun i => (i.zero, i.size, i.bytes)) = some (some (.agg #[.int .i64 0, .int .i64 0, .slice none 0 0, .slice none 0 0]), 4, 64) := by kernel_rfl

set_option maxRecDepth 100000 in
theorem clone_any (A : Option Addr) (n c : Nat) (l : List Com) (w : World) (hs : Sl comC 4 w w.heap.size A n c l) (hn : n ≤ 1000) :
    Calls Tryz.prog 19 #[.slice A n c] w fun e w' => ∃ v, e = .returned v ∧ w'.ownsRow w.heap.size 47 4 v n (flat comC l) ∧ Below w.heap.size w w' := by
  have hl := hs.len
  have qq : ∀ (w : World) (a : Option Addr) (n c n' c' : Nat), (binOp .eql 50 (.slice a n c) (.slice none n' c')).run Tryz.prog w = .ok (.bool a.isNone) w := fun w a n c n' c' => Lib.run_eql_slice_nil w _ _ a n c n' c' Tryz.underlying50
  cases A with
  | none =>
    have hz : n = 0 := by
      rcases Nat.eq_zero_or_pos n with h | h
      · exact h
      · obtain ⟨b, o, e, _⟩ := hs.rd.2 h; cases e
    subst hz
    have : l = [] := List.eq_nil_of_length_eq_zero hl
    subst this
    clear hs hl hn
    go_enter Tryz.func19, Tryz.ntmps19
    go_wp2
    go_ret
    exact ⟨_, rfl, ⟨rfl, .inl ⟨rfl, rfl⟩⟩, Below.refl _ _⟩
  | some ad =>
    obtain ⟨i0, hi0, hz0, hz1, hz2⟩ := info_parts infoCom
    have HR := Lib.hid (hs.rd.alloc (Nat.le_refl _) (.cells #[] 47))
    have H1 := Lib.hid (comC_one l)
    have HO := Lib.hid (World.ownsRow_lit (e := 47) (base := w.heap.size) (size := 4) w #[] 0 (Nat.le_refl _) (by decide) rfl)
    clear hs hl
    go_enter Tryz.func19, Tryz.ntmps19
    go_wp2_with (at_builtin; go_must (refine wpList_app _ rfl _ _ 50 rfl w.heap.size 47 i0 _ 4 64 Tryz.underlying50 hi0 hz0 hz1 hz2 rfl (by decide) _ _ _ rfl HO.out w.heap.size (some ad) n c (flat comC l) rfl HR.out H1.out ?c2 ?c3 ?c4 ?_))
    case c2 => simp [maxLen]; omega
    case c3 => omega
    intro v' w' hown hgr _
    have HOWN := Lib.hid hown
    have HGR := Lib.hid hgr
    clear hown hgr
    go_wp2
    go_ret
    exact ⟨v', rfl, by simpa using HOWN.out, ((Below.refl _ _).alloc (Nat.le_refl _) _).grown HGR.out (by simp) (by intro k hk; simp [Value.ownBlock] at hk; omega)⟩
end Go.Proofs.YtpklgdclknicjaaGreatDoor
