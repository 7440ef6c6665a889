/- Of the history laws. -/
import Derived.WalkKit
import Derived.Lib.Hide
import Derived.Deep.RegionHeld3
import Derived.Great.BuildSlice
import Derived.Laws.CopyOwn
import Derived.Lib.Repeat
import Derived.Lib.SliceRun
import Derived.Deep.AppendLies
import Derived.Deep.Draws
import Derived.Lib.AppendStr
import Derived.Test.YtdleakjejodjjaaGreatDoorProg
namespace Go.Proofs.YtdleakjejodjjaaGreatDoor
open Tryz
set_option linter.defProp false
set_option linter.unusedVariables false
set_option linter.unusedSimpArgs false
section
open Go.RowKit
def Aw (p:Prop):Prop:=p
def Aw.o {p:Prop} (h:Aw p):p:=h
def Aw.out {p:Prop} (h:Aw p):p:=h
def tk {P : Program} {md : Region.Mode} {ops : Array Oper} {Q : Exit -> Act -> World -> Prop} {S : World -> Prop} (i : Nat) (v : Value) {oi : Oper} {fuel : Nat} {listed : Array Bool} {a a' : Act} {w : World} (hS : S w)
    (h : wpAnyH P md ops Q S fuel (listed.setIfInBounds i true) a' w)
    (hi : ops[i]? = some oi := by simp only [List.getElem?_toArray, List.getElem?_cons_zero, List.getElem?_cons_succ]; rfl)
    (hs : Region.noSelect ops = true := by kernel_rfl) (hf : Region.free md ops listed i = true := by kernel_rfl) (hr : (Region.ready md ops listed).contains i = true := by kernel_rfl)
    (hQ : ∀ c a w, Q (.panic c) (a.put oi.dst v) w -> Q (.panic c) a w := by exact fun _ _ _ h => h)
    (y : YieldsIf P ops S oi v a := by exact Or.inl ⟨by rfl, by intro w' hSw; go_simp⟩)
    (ha : a.put oi.dst v = a' := by conv => lhs; simp only [Act.put, List.setIfInBounds_toArray, List.set_cons_zero, List.set_cons_succ]) : wpAnyH P md ops Q S (fuel + 1) listed a w := by
  subst ha
  exact wpAnyH_take hi hs hf hr hQ y hS h
def tku {P : Program} {md : Region.Mode} {ops : Array Oper} {Q : Exit -> Act -> World -> Prop} {S : World -> Prop} (i : Nat) {oi : Oper} {fuel : Nat} {listed : Array Bool} {a a' : Act} {w : World} (hS : S w)
    (h : wpAnyH P md ops Q S fuel (listed.setIfInBounds i true) a' w)
    (hi : ops[i]? = some oi := by simp only [List.getElem?_toArray, List.getElem?_cons_zero, List.getElem?_cons_succ]; rfl)
    (hs : Region.noSelect ops = true := by kernel_rfl) (hf : Region.free md ops listed i = true := by kernel_rfl) (hr : (Region.ready md ops listed).contains i = true := by kernel_rfl)
    (hQ : ∀ c a w, Q (.panic c) (a.put oi.dst undef) w -> Q (.panic c) a w := by exact fun _ _ _ h => h)
    (y : YieldsIf P ops S oi undef a := by exact Or.inr ⟨by rfl, rfl⟩)
    (ha : a.put oi.dst undef = a' := by conv => lhs; simp only [Act.put, List.setIfInBounds_toArray, List.set_cons_zero, List.set_cons_succ]) : wpAnyH P md ops Q S (fuel + 1) listed a w := by
  subst ha
  exact wpAnyH_take hi hs hf hr hQ y hS h
def Rc {P : Program} {md : Region.Mode} {ops : Array Oper} {Q : Exit -> Act -> World -> Prop} {S : World -> Prop} {fuel : Nat} {listed : Array Bool} {a : Act} {w : World} {i : Nat} {o : Oper} {rs : List Nat}
    (h : ∀ K' : Act -> World -> Prop, Shut (∀ a w, S w -> (S w -> wpAnyH P md ops Q S fuel (listed.setIfInBounds i true) a w) -> K' a w) -> if Region.wanted o (yielded ops a.tmps) = true then Oper.wp P o a w K' Q else K' (a.put o.dst undef) w)
    (hs : AllReadyH P md ops Q S fuel listed a w rs)
    (ho : ops[i]? = some o := by simp only [List.getElem?_toArray, List.getElem?_cons_zero, List.getElem?_cons_succ]; rfl) : AllReadyH P md ops Q S fuel listed a w (i :: rs) := AllReadyH.cons ho h hs
section
variable {P : Program} {ops : Array Oper} {Q : Exit -> Act -> World -> Prop} {r : List Oper} {a : Act} {w : World}
def Gl {x c d e f} (n m : Nat) (h : wpList P ops Q (⟨x, .load n (.tmp m), c, d, e, f⟩ :: r) a w) : wpList P ops Q (⟨x, .load n (.tmp m), c, d, e, f⟩ :: r) a w := h
def Gt {x c d e f v} (n m : Nat) (h : wpList P ops Q (⟨x, .store n (.tmp m) v, c, d, e, f⟩ :: r) a w) : wpList P ops Q (⟨x, .store n (.tmp m) v, c, d, e, f⟩ :: r) a w := h
def Gb {x c d e f v} (n : Nat) (h : wpList P ops Q (⟨x, .build n v, c, d, e, f⟩ :: r) a w) : wpList P ops Q (⟨x, .build n v, c, d, e, f⟩ :: r) a w := h
def Ge {x c d e f u v y} (n : Nat) (h : wpList P ops Q (⟨x, .binOp .eql n u v y, c, d, e, f⟩ :: r) a w) : wpList P ops Q (⟨x, .binOp .eql n u v y, c, d, e, f⟩ :: r) a w := h
def Gc {x c d e f v u} (n : Nat) (h : wpList P ops Q (⟨x, .buildSlice n v u, c, d, e, f⟩ :: r) a w) : wpList P ops Q (⟨x, .buildSlice n v u, c, d, e, f⟩ :: r) a w := h
end
def Wk {o : Oper} {ops : Array Oper} {a' a : Act} {P : Program} {Q : Exit -> Act -> World -> Prop} {rest : List Oper} {w : World} (h : wpList P ops Q rest a' w) (hw : Region.wanted o (yielded ops a.tmps) = false := by kernel_rfl)
    (ha : a.put o.dst undef = a' := by conv => lhs; simp only [Act.put, List.setIfInBounds_toArray, List.set_cons_zero, List.set_cons_succ]) : wpList P ops Q (o :: rest) a w := by
  subst ha
  exact wpList_skip hw h
def tj {P : Program} {md : Region.Mode} {ops : Array Oper} {Q : Exit -> Act -> World -> Prop} {S : World -> Prop} (i : Nat) (v : Value) {oi : Oper} {fuel : Nat} {listed : Array Bool} {a a' : Act} {w : World} (hS : S w)
    (h : wpAnyH P md ops Q S fuel (listed.setIfInBounds i true) a' w)
    (hi : ops[i]? = some oi := by simp only [List.getElem?_toArray, List.getElem?_cons_zero, List.getElem?_cons_succ]; rfl)
    (hs : Region.noSelect ops = true := by kernel_rfl) (hf : Region.free md ops listed i = true := by kernel_rfl) (hr : (Region.ready md ops listed).contains i = true := by kernel_rfl)
    (hQ : ∀ c a w, Q (.panic c) (a.put oi.dst v) w -> Q (.panic c) a w := by exact fun _ _ _ h => h)
    (hw : Region.wanted oi (yielded ops a.tmps) = true := by rfl)
    (y : ∀ w', S w' -> (execOp a.eval oi).run P w'=.ok (.value v) w')
    (ha : a.put oi.dst v = a' := by conv => lhs; simp only [Act.put, List.setIfInBounds_toArray, List.set_cons_zero, List.set_cons_succ]) : wpAnyH P md ops Q S (fuel + 1) listed a w := by
  subst ha
  exact wpAnyH_take hi hs hf hr hQ (Or.inl ⟨hw, y⟩) hS h
section
variable {P : Program} {ops : Array Oper} {Q : Exit -> Act -> World -> Prop} {rest : List Oper} {o : Oper} {a : Act} {w : World} {x y : Operand} {d : TypeDesc}
def Lq (ty : TypeId) (g : Nat) (cs : Array Value) (hg : w.1[g]? = some (.cells cs ty (0, 0))) (hu : P.underlying ty = some d) (h : wpList P ops Q rest (a.put o.dst (.agg cs)) w)
    (hgd : o.guard = none := by rfl) (ho : o.op=.load ty x := by rfl) (hx : a.eval x=.pointer (some ⟨g, 0, none⟩) := by rfl)
    (hd : (match d with | .struct _ | .array _ _ => true | _ => false) = true := by rfl) (hi : (P.info? ty).map (·.size) = some cs.size := by kernel_rfl) : wpList P ops Q (o :: rest) a w :=
  wpList_load_row hgd ty x ho g hx ty cs (0, 0) d hg hu hd hi h
def Lv (ty : TypeId) (g : Nat) (cells : Array Value) {old : Array Value} (hg : w.1[g]? = some (.cells old ty (0, 0))) (h1 : cells.all (·.oneCell') = true) (h : wpList P ops Q rest (a.put o.dst undef) (w.setRow g cells))
    (hgd : o.guard = none := by rfl) (ho : o.op=.store ty x y := by rfl) (hx : a.eval x=.pointer (some ⟨g, 0, none⟩) := by rfl) (hy : a.eval y=.agg cells := by rfl)
    (hi : (P.info? ty).map (·.size) = some cells.size := by kernel_rfl) (hold : old.size = cells.size := by rfl) : wpList P ops Q (o :: rest) a w :=
  wpList_store_row hgd ty x y ho g cells hx hy ty old hg hi hold h1 h
def Ln (ty : TypeId) (b p : Nat) (cs : List Value) (hc : w.rangeAt b p cs) (hu : P.underlying ty = some d) (h : wpList P ops Q rest (a.put o.dst (.agg cs.toArray)) w)
    (hgd : o.guard = none := by rfl) (ho : o.op=.load ty x := by rfl) (hx : a.eval x=.pointer (some ⟨b, p, none⟩) := by rfl) (hd : d.isRow = true := by rfl) (hi : (P.info? ty).map (·.size) = some cs.length := by kernel_rfl) : wpList P ops Q (o :: rest) a w :=
  wpList_load_mid hgd ty x ho b p hx cs d hc hu hd hi h
end
def Aq {P : Program} {md : Region.Mode} {ops : Array Oper} {Q : Exit -> Act -> World -> Prop} {S : World -> Prop} (rs : List Nat) {fuel : Nat} {listed : Array Bool} {a : Act} {w : World} (h : AllReadyH P md ops Q S fuel listed a w rs)
    (hr : Region.ready md ops listed = rs := by kernel_rfl) (hne : rs ≠ [] := by simp) : wpAnyH P md ops Q S (fuel + 1) listed a w := wpAnyH_ready hr hne h
abbrev Bz := ByteArray
abbrev Wd := World
def Hd {p : Prop} (h : p) : Aw p := h
def Sv {α} {l : List α} {i : Nat} {a : α} : l.toArray.setIfInBounds i a = (l.set i a).toArray := List.setIfInBounds_toArray ..
def Sz {α} {a : α} {l : List α} {b : α} : (a :: l).set 0 b = b :: l := rfl
def Sw {α} {a : α} {l : List α} {i : Nat} {b : α} : (a :: l).set (i + 1) b = a :: l.set i b := rfl
def Ga {α} {xs : List α} {i : Nat} : xs.toArray[i]? = xs[i]? := List.getElem?_toArray ..
def Gz {α} {a : α} {l : List α} : (a :: l)[0]? = some a := rfl
def Gn {α} {a : α} {l : List α} {i : Nat} : (a :: l)[i + 1]? = l[i]? := rfl
abbrev Le := @Nat.le_refl
abbrev Bf := @Below.refl
abbrev Lr := @wpList_load_row
abbrev Lt := @wpList_store_row
abbrev Lm := @wpList_load_mid
abbrev Br := @bodyPost_ret
abbrev Ar := @wpAnyH_ready
abbrev An := @AllReadyH.nil
abbrev Rs := @rounds_succ
abbrev Lx := @Nat.le_trans
abbrev Rw := @wp_region_held_drew
abbrev Z0 := @Nat.zero_le
abbrev Ad := @wpAnyH_done
abbrev Lu := @wp_loop_rounds
theorem Oo {P:Prop} (h:P:=by omega):P:=h
theorem Ak {P:Prop} (h:P:=by kernel_rfl):P:=h
theorem Ac {P:Prop} (h:P:=by decide):P:=h
theorem As {P:Prop} (h:P:=by simp;omega):P:=h
theorem Am {P:Prop} (h:P:=by simp):P:=h
theorem Af {P:Prop} (h:P:=by rfl):P:=h
theorem Au {P:Prop} (h:P:=by go_num):P:=h
theorem Av {P:Prop} (h:P:=by conv=>lhs;simp only [Act.put,List.setIfInBounds_toArray,List.set_cons_zero,List.set_cons_succ]):P:=h
theorem Ax {P:Prop} (h:P:=by simp only [List.getElem?_toArray,List.getElem?_cons_zero,List.getElem?_cons_succ];rfl):P:=h
theorem Ay {P:Prop} (h:P:=by simp only;omega):P:=h
theorem Az {P:Prop} (h:P:=by go_simp):P:=h
abbrev Ab (w:World) (v:Value):Ending->World->Prop:=fun e w'=>e=.returned v/\Below w.heap.size w w'
abbrev Ae (w:World) (v:Value):Ending->World->Prop:=fun e w'=>e=.returned v/\w=w'
abbrev Aa (w:World) (a:Array Value) (t:TypeId):World:=w.alloc (.cells a t)
abbrev Ag (b o:Nat):Value:=.pointer (some ⟨b,o,none⟩)
abbrev Ah (b o:Nat):Option Addr:=some ⟨b,o,none⟩
abbrev Ai (n:Nat):Value:=.func (.func n) #[] #[]
def Aj {w:World} {o:Obj}:Below w.heap.size w (w.alloc o):=(Below.refl _ _).alloc (Nat.le_refl _) _
theorem At {P:Prop} (h:P:=by simp [intOf];omega):P:=h
abbrev QQ:=@decide_eq_true
abbrev QW:=@decide_eq_false
abbrev QX:=@if_neg
abbrev QY:=@ByteArray.size_append
abbrev QZ:=@List.getElem?_eq_some_iff
abbrev QK:=@if_pos
abbrev QJ:=@List.mem_of_getElem?
abbrev QV:=@List.getElem?_eq_getElem
abbrev QU:=@Bool.and_eq_true
abbrev QE:=@setRow_other
abbrev QG:=@decide_eq_true_eq
abbrev QH:=@List.mem_cons
abbrev QL:=@IntWalk.i64_in
def QF:type_of% @Nat.add_zero:=@fun _=>rfl
abbrev QM:=@List.not_mem_nil
abbrev QN:=@List.mem_cons_of_mem
abbrev QP:=@List.mem_cons_self
abbrev QR:=@setRow_heap
def QS:type_of% @List.length_cons:=@fun _ _ _=>rfl
abbrev QT:=@List.mem_singleton
abbrev QD:=@Array.getElem?_setIfInBounds_ne
abbrev QC:=@List.mem_append
abbrev QB:=@Nat.zero_add
abbrev QA:=@List.eq_nil_of_length_eq_zero
abbrev QO:=@List.drop_eq_getElem_cons
abbrev WQ:=@Option.some.inj
abbrev WW:=@List.length_append
abbrev WX:=@List.length_take
abbrev WY:=@Nat.mul_one
abbrev WK:=@Nat.lt_of_lt_of_le
abbrev WJ:=@List.getD_eq_getElem?_getD
abbrev WV:=@MapKept.run_getObj_map
abbrev WU:=@List.take_of_length_le
abbrev WI:=@Array.getElem?_eq_getElem
abbrev WE:=@List.all_eq_true
abbrev WG:=@info_parts
abbrev WH:=@DataW.trod_int
abbrev WL:=@Or.inl
abbrev WF:=@List.getElem?_append_left
abbrev WM:=@List.getElem?_eq_none
abbrev WN:=@run_underlying
abbrev WP:=@List.drop_of_length_le
abbrev WR:=@forall_eq_or_imp
abbrev WS:=@List.map_cons
abbrev WT:=@yieldsIf_load_mid
abbrev WD:=@strOfNums_size
abbrev WC:=@World.ownsRow_lit
abbrev WB:=@Nat.eq_zero_or_pos
abbrev WA:=@Array.getElem?_eq_some_iff
abbrev WO:=@World.cell?_of_block
abbrev XQ:=@Nat.add_le_add_right
abbrev XW:=@Bool.eq_iff_iff
abbrev XX:=@AllReadyH.cons
def XY:type_of% @Array.length_toList:=@fun _ _=>rfl
abbrev XZ:=@ByteArray.size_extract
abbrev XK:=@congrArg
abbrev XJ:=@List.pairwise_cons
abbrev XU:=@Bool.or_eq_true
abbrev XI:=@Int.le_refl
abbrev XE:=@MapKept.run_findKey
abbrev XG:=@List.getElem_of_mem
abbrev XH:=@Array.getElem?_eq_none
abbrev XL:=@Bool.true_and
abbrev XM:=@List.map_append
abbrev XN:=@Bool.not_eq_true'
abbrev XP:=@or_false
abbrev XR:=@Array.getElem?_setIfInBounds_self_of_lt
def XS:type_of% @List.length_nil:=@fun _=>rfl
abbrev XT:=@List.length_map
abbrev XD:=@List.length_drop
abbrev XC:=@World.cell?_alloc_lt
def XB:type_of% @Result.andThen_ok:=@fun _ _ _ _ _=>rfl
abbrev XA:=@List.mem_of_mem_take
def XO:type_of% @Int.toNat_natCast:=@fun _=>rfl
abbrev YQ:=@RowKit.Below.heap_alloc
abbrev YW:=@List.eraseIdx_eq_take_drop_succ
abbrev YX:=@UInt8.lt_iff_toNat_lt
abbrev YY:=@List.mem_map
abbrev YZ:=@List.size_toArray
abbrev YK:=@List.getElem?_map
abbrev YJ:=@List.mem_append_left
abbrev YV:=@List.getElem?_take
abbrev YU:=@IntKind.wrap_u64
abbrev YI:=@Array.getElem?_toList
abbrev YE:=@Nat.le_of_succ_le
abbrev YG:=@List.take_add_one
abbrev YH:=@heap_alloc_new
abbrev YL:=@MapKept.run_checkKey
abbrev YF:=@List.getElem?_drop
abbrev YM:=@Bool.false_and
def YN:type_of% @List.nil_append:=@fun _ _=>rfl
abbrev YP:=@results_tmp2
abbrev YR:=@forall_eq
abbrev YS:=@MapKept.run_setObj_map
abbrev YT:=@beq_iff_eq
abbrev YC:=@List.any_eq_false
abbrev YB:=@DataW.trod_string
abbrev YA:=@Array.getElem?_modify
abbrev YO:=@List.mem_range
abbrev ZQ:=@run_loadVar_row
abbrev ZW:=@Nat.lt_or_ge
abbrev ZX:=@IntKind.wrap_u8
abbrev ZY:=@List.mem_of_mem_drop
abbrev ZZ:=@of_decide_eq_true
abbrev ZK:=@List.setIfInBounds_toArray
abbrev ZJ:=@List.getElem?_append_right
abbrev ZV:=@List.ext_getElem?
abbrev ZU:=@ByteArray.append_assoc
abbrev ZI:=@Nat.min_eq_left
abbrev ZE:=@IntKind.wrap_i64
abbrev ZG:=@Sem.run_bind
abbrev ZH:=@Nat.succ_mul
abbrev ZL:=@Bool.and_assoc
abbrev ZF:=@List.findIdx_cons
abbrev ZM:=@List.all_eq_false
abbrev ZN:=@List.findIdx_lt_length
abbrev ZP:=@Bool.false_ne_true
abbrev ZR:=@run_convert_bytes_arg
abbrev ZS:=@List.take_append_drop
abbrev ZT:=@List.getElem?_toArray
abbrev ZD:=@List.mem_or_eq_of_mem_set
abbrev ZC:=@List.mem_of_find?_eq_some
abbrev ZB:=@Nat.ne_of_gt
abbrev ZA:=@List.getElem?_of_mem
abbrev ZO:=@List.append_assoc
abbrev KQ:=@Int.lt_trichotomy
abbrev KW:=@RowKit.Below.heap_setCell
abbrev KY:=@wpList_nil
abbrev KZ:=@ByteArray.ext
abbrev KJ:=@decide_eq_false_iff_not
abbrev KV:=@List.map_toArray
def KU:type_of% @List.getElem?_cons_zero:=@fun _ _ _=>rfl
def KI:type_of% @List.getElem?_cons_succ:=@fun _ _ _ _=>rfl
def KE:type_of% @List.cons_append:=@fun _ _ _ _=>rfl
abbrev KG:=@Bool.and_false
abbrev KH:=@wp_store_row
def KL:type_of% @Sem.run_pure:=@fun _ _ _ _=>rfl
abbrev KF:=@Nat.ne_of_lt
abbrev KM:=@Nat.le_of_eq
abbrev KN:=@List.map_nil
abbrev KP:=@List.findIdx_le_length
def KR:type_of% @Option.map_some:=@fun _ _ _ _=>rfl
abbrev KT:=@List.length_set
abbrev KD:=@Nat.lt_irrefl
abbrev KC:=@List.mem_append_right
abbrev KA:=@Lib.run_eql_slice_nil
abbrev KO:=@ByteArray.data_append
abbrev JQ:=@Nat.mul_le_mul_right
abbrev JW:=@Nat.mul_le_mul
abbrev JX:=@Nat.le_succ
abbrev JY:=@List.getElem?_append
abbrev JZ:=@Bool.or_eq_false_iff
abbrev JK:=@Nat.zero_mul
abbrev JJ:=@Nat.lt_succ_self
abbrev JV:=@beq_eq_false_iff_ne
def JU:type_of% @Int.natCast_add:=@fun _ _=>rfl
abbrev JI:=@of_decide_eq_false
def JE:type_of% @List.set_cons_zero:=@fun _ _ _ _=>rfl
def JG:type_of% @List.set_cons_succ:=@fun _ _ _ _ _=>rfl
abbrev JH:=@List.find?_eq_none
abbrev JL:=@Lib.repeatL_length
abbrev JF:=@wpAnyH_take
abbrev JM:=@Int.eq_ofNat_of_zero_le
abbrev JN:=@Int.add_mul
abbrev JP:=@ByteArray.extract_append_eq_right
abbrev JR:=@wpList_buildSlice
abbrev JS:=@results_tmp3
abbrev JT:=@List.take_take
abbrev JD:=@List.map_map
abbrev JC:=@List.drop_eq_nil_of_le
abbrev JB:=@List.Pairwise.nil
abbrev JA:=@List.contains_iff_mem
abbrev JO:=@wpList_store_mid
abbrev VQ:=@MapKept.heap_set
abbrev VW:=@List.any_eq_true
abbrev VY:=@if_true
abbrev VZ:=@Bool.and_true
abbrev VK:=@results_tmp
abbrev VJ:=@List.pairwise_append
abbrev VV:=@UInt8.toNat_inj
abbrev VU:=@List.range_succ
abbrev VI:=@List.dropLast_concat_getLast
abbrev VE:=@List.map_congr_left
abbrev VG:=@Nat.sub_self
abbrev VH:=@Or.inr
abbrev VL:=@Nat.add_sub_cancel
abbrev VF:=@List.drop_zero
abbrev VM:=@Bool.false_eq_true
abbrev VP:=@Array.toList_setIfInBounds
abbrev VR:=@World.cell?_setCell_other
abbrev VS:=@decide_true
abbrev VT:=@Nat.lt_succ_iff_lt_or_eq
abbrev VC:=@List.mem_of_mem_eraseIdx
abbrev VB:=@List.getElem?_take_of_lt
abbrev VA:=@List.mem_flatMap
abbrev VO:=@List.getElem?_replicate
abbrev UQ:=@Array.toList_inj
abbrev UW:=@getElem!_pos
abbrev UY:=@decide_false
abbrev UZ:=@Nat.add_comm
abbrev UK:=@List.sublist_cons_self
abbrev UJ:=@Int.ofNat_le
abbrev UV:=@ByteArray.append_empty
abbrev UU:=@List.mem_filter
abbrev UI:=@List.append_nil
abbrev UE:=@DataW.trod_bool
abbrev UG:=@Array.getElem?_range
abbrev UH:=@List.mem_map_of_mem
abbrev UL:=@List.drop_succ_cons
abbrev UF:=@wp_region_lit
abbrev UM:=@length_splice
abbrev UN:=@Prod.mk.injEq
abbrev UP:=@Nat.add_assoc
abbrev UR:=@List.map_take
abbrev US:=@List.map_drop
def UT:type_of% @List.all_cons:=@fun _ _ _ _=>rfl
abbrev UD:=@UInt8.toNat_ofNat'
abbrev UC:=@List.zip_nil_right
def UB:type_of% @List.zip_cons_cons:=@fun _ _ _ _ _ _=>rfl
abbrev UA:=@Array.getElem?_map
def UO:type_of% @ByteArray.getElem_eq_getElem_data:=@fun _ _ _=>rfl
abbrev IQ:=@callsIn_wide
abbrev IW:=@Option.some.injEq
abbrev IX:=@Nat.lt_trichotomy
abbrev IY:=@Nat.le_of_lt
abbrev IZ:=@List.getElem?_set
def IK:type_of% @List.all_nil:=@fun _ _=>rfl
abbrev IJ:=@List.Sublist.refl
abbrev IV:=@Int.pow_succ
abbrev IU:=@DataW.trod_struct
end
section
open Go.RowKit Go.WideShapes Go.ChangeShapes
variable {B:Nat} {a w w' W w1:Wd} {base:Nat} {e:TypeId} {size n:Nat} {v:Value} {xs:List Value} {wr:Wd} {P:Program} {args:Array Value} {f:FuncId} {cs:Array Value} {t:TypeId}
def Uk (h:Below B a w) (n:Nat):Below B a (w.drewN n):=⟨h.os,h.tape,h.output,h.size,h.block⟩
def U0 (h:Below B a w) (k:Below w.1.size w w') (b:B<=w.1.size):Below B a w':=h.trans (k.mono b)
def Rd (w:Wd) (B size:Nat) (A:Option Addr) (n:Nat) (xs:List Value):Prop:=
 xs.length=n*size/\(0<n->∃ b o,A=some ⟨b,o,none⟩/\b<B/\∀ j u,xs[j]? =some u->w.cell? ⟨b,o+j,none⟩=some u)
section
variable {w w':Wd} {B B' size n:Nat} {A:Option Addr} {xs:List Value}
def Rd.at_ {k:Nat} (h:Rd w B 1 A n xs) (i:k<n):∃ b o u,A=some ⟨b,o,none⟩/\b<B/\xs[k]? =some u/\w.cell? ⟨b,o+k,none⟩=some u:=by
 obtain ⟨b,o,e,d,g⟩:=h.2 Oo;have c:k<xs.length:=by have:=h.1;omega
 exact ⟨b,o,xs[k],e,d,QV c,g k _ (QV c)⟩
def Rd.keep (h:Rd w B size A n xs) (d:∀ p:Addr,p.block<B->w'.cell? p=w.cell? p):Rd w' B size A n xs:=
 ⟨h.1,fun hn=>by
  obtain ⟨b,o,e,c,i⟩:=h.2 hn;exact ⟨b,o,e,c,fun j u g=>(d _ c).trans (i j u g)⟩⟩
def Rd.more (h:Rd w B size A n xs) (d:B<=B'):Rd w B' size A n xs:=
 ⟨h.1,fun hn=>by
  obtain ⟨b,o,e,g,c⟩:=h.2 hn;exact ⟨b,o,e,Oo,c⟩⟩
def Rd.below (h:Rd w B size A n xs) (c:Below B w w'):Rd w' B size A n xs:=h.keep fun _ b=>c.cell b
def Rd.drewN (h:Rd w B size A n xs) (k:Nat):Rd (w.drewN k) B size A n xs:=h
def Rd.drew (h:Rd w B size A n xs):Rd w.drew B size A n xs:=h
def Rd.alloc (h:Rd w B size A n xs) (c:B<=w.1.size) (o:Obj):Rd (w.alloc o) B size A n xs:=h.keep fun p b=>XC w o p Oo
def Rd.setCell (h:Rd w B size A n xs) {p:Addr} (c:B<=p.block) (u:Value):Rd (w.setCell p u) B size A n xs:=
 h.keep fun q b=>VR w p q u (fun e=>by subst e;omega)
def Rd.grown (h:Rd w B size A n xs) {row:Option Nat} (c:w.grownBy w' row) (i:B<=w.1.size) (b:∀ g,row=some g->B<=g):Rd w' B size A n xs:=
 h.keep fun p d=>WO (c.block p.block Oo (fun e=>by have:=b _ e.symm;omega))
def Rd.drop (h:Rd w B size A n xs) {k c:Nat} (l:k<=n) (m:n<=c):
  Rd w B size (if c=k then A else A.map (·.add (k*size))) (n-k) (xs.drop (k*size)):=by
 refine ⟨by rw [XD,h.1,Nat.sub_mul],fun hn=>?_⟩;obtain ⟨b,o,rfl,g,i⟩:=h.2 Oo;rw [QX Oo];refine ⟨b,o+k*size,by simp [Addr.add],g,fun j u d=>?_⟩;rw [UP];exact i _ u (by rw [<-d,YF])
def Rd.take (h:Rd w B size A n xs) {k:Nat} (d:k<=n):Rd w B size A k (xs.take (k*size)):=by
 refine ⟨by rw [WX,h.1];exact ZI (JQ _ d),fun hn=>?_⟩;obtain ⟨b,o,rfl,g,i⟩:=h.2 Oo;refine ⟨b,o,rfl,g,fun j u c=>?_⟩;rw [YV] at c;split at c
 .exact i j u c
 .cases c
def Rd.of_own {base:Nat} {e:TypeId} {c:Nat} (h:w.ownsRow base e size (.slice A n c) n xs):Rd w w.1.size size A n xs:=by
 refine ⟨h.1,fun hn=>?_⟩;rcases h.2 with ⟨b,m⟩|⟨g,i,k,b,p,q,x,s,r,o⟩
 .omega
 .injection b with hA _ _
  subst hA;have d:g<w.1.size:=(h.lt g rfl).2;refine ⟨g,0,rfl,d,fun j u l=>?_⟩;have:=h.cells (g:=g) rfl j u l
  rwa [show ((⟨g,0,none⟩:Addr).add j)=⟨g,0+j,none⟩ from by unfold Addr.add;split<;>simp_all] at this
def U4 {base:Nat} {e:TypeId} {v:Value} (h:w.ownsRow base e size v n xs):∃ A c,v=.slice A n c/\n<=c/\c<=maxLen:=by
 rcases h.2 with ⟨b,l⟩|⟨g,d,i,b,m,p,k,j,o,q⟩
 .exact ⟨none,0,by rw [b,l],Oo,Oo⟩
 .exact ⟨_,d,b,k,j⟩
def U9 {base:Nat} {e:TypeId} {v:Value} (h:w.ownsRow base e size v n xs) {B:Nat} (b:B<=base):∀ g,v.ownBlock=some g->B<=g:=
 fun g c=>Lx b (h.lt g c).1
end
def J7 (h:w.ownsRow base e size v n xs) (hn:0<n):
  ∃ g b,v=.slice (Ah g 0) n b/\base<=g/\g<w.1.size/\n<=b:=by
 rcases h.2 with ⟨c,l⟩|⟨g,b,d,c,j,p,i,k,o,m⟩
 .omega
 .subst c;exact ⟨g,b,rfl,j,(h.lt g rfl).2,i⟩
def Ub (h:w.ownsRow base e size v n xs) (b:Below w.1.size w w'):w'.ownsRow base e size v n xs:=
 h.kept (row:=none) ⟨b.os,b.tape,b.output,b.size,fun i c _=>b.block i c⟩ (by cases v.ownBlock<;>simp)
def Yn (s:Bz):∀ u∈[Value.string s],u.oneCell'=true:=by
 intro u b;simp at b;subst b;rfl
def EG (h:Below (w.1.size+1) (w.alloc (.cells cs t)) wr) (i:Nat):wr.cell? ⟨w.1.size,i,none⟩=cs[i]?:=
 (h.cell (p:=⟨w.1.size,i,none⟩) (JJ _)).trans (World.cell?_alloc_at _ _ _ _ rfl)
def Ul (h:Below (w.1.size+1) (w.alloc (.cells cs t)) wr):Below w.1.size w wr:=
 ((Bf w.1.size w).alloc (Le _) _).trans (h.mono (JX _))
def Xx (h:Below (w.1.size+1) (w.alloc (.cells cs t)) wr):w.1.size+1<=wr.1.size:=by
 have:=h.size;simpa using this
def Xj (w:Wd) (cs:Array Value) (t:TypeId):Below (w.1.size+1) (w.alloc (.cells cs t)) (w.alloc (.cells cs t)):=Bf _ _
def O2 {b p:Nat} {k:TypeId} {s m o:Nat} {i:Value} {d:List Value} (h:w.ownsRow b e s v n xs) (q:w.ownsRow p k m i o d) (z:e≠k):v.ownBlock=none\/v.ownBlock≠i.ownBlock:=by
 rcases h.2 with ⟨rfl,_⟩|⟨g,r,x,rfl,_,y,_⟩
 .exact .inl rfl
 .right;rcases q.2 with ⟨rfl,_⟩|⟨u,j,l,rfl,_,c,_⟩
  .simp [Value.ownBlock]
  .intro he;have:g=u:=by simpa [Value.ownBlock] using he
   subst this;rw [y] at c;injection c with c
   injection c with _ ht
   exact z ht
def Yv (w:Wd) (cs:List Value) (t:TypeId) (n size:Nat) (h:cs.length=n*size):Rd (w.alloc (.cells cs.toArray t)) (w.1.size+1) size (Ah w.1.size 0) n cs:=by
 refine ⟨h,fun _=>⟨w.1.size,0,rfl,JJ _,fun j u b=>?_⟩⟩;rw [World.cell?_alloc_at _ _ _ _ rfl];simpa using b
end
section
open Go.RowKit
def Blk (w:Wd) (g:Nat) (t:TypeId) (cs:Array Value):Prop:=w.1[g]? =some (.cells cs t (0,0))
section
variable {w w':Wd} {g:Nat} {t:TypeId} {cs:Array Value}
def Blk.lt (h:Blk w g t cs):g<w.1.size:=by
 rcases ZW g w.1.size with b|a
 .exact b
 .unfold Blk at h;rw [XH a] at h;cases h
def Blk.cell (h:Blk w g t cs) (i:Nat):w.cell? ⟨g,i,none⟩=cs[i]?:=cell_of_row w g i cs t (0,0) h
def Blk.ce (h:Blk w g t cs) (i:Nat) (v:Value) (e:cs[i]? =some v:=by rfl):w.cell? ⟨g,i,none⟩=some v:=(h.cell i).trans e
def Blk.free (h:Blk w g t cs) (i:Nat):w.frozen? ⟨g,i,none⟩=false:=by
 unfold Blk at h;simp [World.frozen?,h]
def Blk.new (w:Wd) (t:TypeId) (cs:Array Value):Blk (w.alloc (.cells cs t)) w.1.size t cs:=YH w _
def Blk.drew (h:Blk w g t cs):Blk w.drew g t cs:=h
def Blk.drewN (h:Blk w g t cs) (n:Nat):Blk (w.drewN n) g t cs:=h
def Blk.alloc (h:Blk w g t cs) (o:Obj):Blk (w.alloc o) g t cs:=(YQ w o g h.lt).trans h
def Blk.set (h:Blk w g t cs) (i:Nat) (u:Value):Blk (w.setCell ⟨g,i,none⟩ u) g t (cs.setIfInBounds i u):=by
 unfold Blk at h ⊢;simp [World.setCell,YA,h]
def Blk.far (h:Blk w g t cs) {p:Addr} (a:g≠p.block) (u:Value):Blk (w.setCell p u) g t cs:=(KW w p u g a).trans h
def Blk.below {B:Nat} (h:Blk w g t cs) (b:Below B w w') (a:g<B):Blk w' g t cs:=(b.block g a).trans h
def Blk.grown {row:Option Nat} (h:Blk w g t cs) (b:w.grownBy w' row) (a:some g≠row):Blk w' g t cs:=(b.block g h.lt a).trans h
def Blk.ne {c:Nat} {b:TypeId} {cs':Array Value} (h:Blk w g t cs) (a:Blk w c b cs') (d:t≠b):g≠c:=by
 rintro rfl;unfold Blk at h a;rw [h] at a;injection a with a
 injection a with _ ht
 exact d ht
def BP {base:Nat} {e:TypeId} {size n:Nat} {v:Value} {xs:List Value} (h:w.ownsRow base e size v n xs) (f:Blk w g t cs) (c:e≠t):v.ownBlock≠some g:=by
 rcases h.2 with ⟨rfl,_⟩|⟨i,d,a,rfl,_,b,_⟩
 .simp [Value.ownBlock]
 .intro he;have:i=g:=by simpa [Value.ownBlock] using he
  subst this;exact Blk.ne (t:=e) b f c rfl
def BN {base:Nat} {e:TypeId} {size n:Nat} {v:Value} {xs:List Value} (h:w.ownsRow base e size v n xs) (c:Blk w g t cs) (b:e≠t) (i:Nat) (u:Value):(w.setCell ⟨g,i,none⟩ u).ownsRow base e size v n xs:=
 h.kept (row:=some g) ⟨rfl,rfl,rfl,by simp [World.setCell],fun k _ a=>KW w _ u k (by intro e;exact a (by rw [e]))⟩ (.inr (BP h c b))
end
end
section
open Go.RowKit
section
variable {P:Program} {f:FuncId} {a:Array Value} {w:Wd} {v:Value} {Q:Ending->Wd->Prop} {R S:Wd->Prop}
def yE (h:Calls P f a w fun e w'=>e=.returned v/\w=w') (k:Q (.returned v) w):Calls P f a w Q:=h.mono fun _ _ ⟨p,q⟩=>p▸q▸k
def yF (h:Calls P f a w fun e w'=>e=.returned v/\w'=w) (k:Q (.returned v) w):Calls P f a w Q:=h.mono fun _ _ ⟨p,q⟩=>p▸q▸k
def yN (h:Calls P f a w fun e w'=>e=.returned v/\R w') (k:∀ w',Aw (R w')->Q (.returned v) w'):Calls P f a w Q:=h.mono fun _ _ ⟨p,q⟩=>p▸k _ (Hd q)
def yN2 (h:Calls P f a w fun e w'=>e=.returned v/\R w'/\S w') (k:∀ w',Aw (R w')->Aw (S w')->Q (.returned v) w'):Calls P f a w Q:=h.mono fun _ _ ⟨p,q,r⟩=>p▸k _ (Hd q) (Hd r)
def yN3 {T:Wd->Prop} (h:Calls P f a w fun e w'=>e=.returned v/\R w'/\S w'/\T w') (k:∀ w',Aw (R w')->Aw (S w')->Aw (T w')->Q (.returned v) w'):Calls P f a w Q:=h.mono fun _ _ ⟨p,q,r,s⟩=>p▸k _ (Hd q) (Hd r) (Hd s)
def yP (h:Calls P f a w fun e w'=>e=.returned v/\R w') (k:∀ w',R w'->Q (.returned v) w'):Calls P f a w Q:=h.mono fun _ _ ⟨p,q⟩=>p▸k _ q
def yT (h:Calls P f a w fun e w'=>e=.returned v/\R w') (g:∀ {w'},R w'->S w') (k:∀ w',Aw (S w')->Q (.returned v) w'):Calls P f a w Q:=h.mono fun _ _ ⟨p,q⟩=>p▸k _ (Hd (g q))
end
section
variable {P:Program} {ops:Array Oper} {Q:Exit->Act->Wd->Prop} {r:List Oper} {a:Act} {w:Wd}
def yL {x c d e} (n m:Nat) {g:Nat} {cs:Array Value} (j:Blk w g n cs) (h:wpList P ops Q r (a.put x (.agg cs)) w)
  (l:a.eval (.tmp m)=Ag g 0:=by with_unfolding_all rfl)
  (b:(match P.underlying n with|some (.struct _)|some (.array _ _)=>true|_=>false)=true:=by kernel_rfl)
  (k:(P.info? n).map (·.size)=some cs.size:=by kernel_rfl):wpList P ops Q (⟨x,.load n (.tmp m),c,d,e,none⟩::r) a w:=by
 generalize i:P.underlying n=u at b;cases u with
 |none=>cases b
 |some u=>exact Lq n g cs j i h rfl rfl l (by cases u<;>first|rfl|cases b) k
def yM {x c d e} (n m:Nat) {b p:Nat} {cs:List Value} (j:w.rangeAt b p cs) (h:wpList P ops Q r (a.put x (.agg cs.toArray)) w)
  (l:a.eval (.tmp m)=Ag b p:=by with_unfolding_all rfl)
  (g:(match P.underlying n with|some d=>d.isRow|_=>false)=true:=by kernel_rfl)
  (k:(P.info? n).map (·.size)=some cs.length:=by kernel_rfl):wpList P ops Q (⟨x,.load n (.tmp m),c,d,e,none⟩::r) a w:=by
 generalize i:P.underlying n=u at g;cases u with
 |none=>cases g
 |some u=>exact Ln n b p cs j i h rfl rfl l g k
def yS {x y c d e} (n m:Nat) {g:Nat} {b cs:Array Value} (k:Blk w g n b) (j:cs.all (·.oneCell')=true) (h:wpList P ops Q r (a.put x undef) (w.setRow g cs))
  (p:a.eval (.tmp m)=Ag g 0:=by with_unfolding_all rfl) (hy:a.eval y=.agg cs:=by with_unfolding_all rfl)
  (l:(P.info? n).map (·.size)=some cs.size:=by kernel_rfl) (i:b.size=cs.size:=by with_unfolding_all rfl):wpList P ops Q (⟨x,.store n (.tmp m) y,c,d,e,none⟩::r) a w:=
 Lv n g cs k j h rfl rfl p hy l i
end
section
variable {P:Program} {ops:Array Oper} {Q:Exit->Act->Wd->Prop} {r:List Oper} {o:Oper} {a:Act} {w:Wd} {x y:Operand}
def yK {n:TypeId} {g:Nat} {cs:Array Value} (i:w.1[g]? =some (.cells cs n (0,0))) (h:wpList P ops Q r (a.put o.dst (.agg cs)) w)
  (c:o.guard=none:=by rfl) (d:o.op=.load n x:=by rfl) (k:a.eval x=Ag g 0:=by rfl)
  (b:(match P.underlying n with|some (.struct _)|some (.array _ _)=>true|_=>false)=true:=by kernel_rfl) (j:(P.info? n).map (·.size)=some cs.size:=by kernel_rfl):wpList P ops Q (o::r) a w:=by
 generalize e:P.underlying n=u at b;cases u with
 |none=>cases b
 |some u=>exact Lq n g cs i e h c d k (by cases u<;>first|rfl|cases b) j
def yJ {n:TypeId} {b p:Nat} {cs:List Value} (j:w.rangeAt b p cs) (h:wpList P ops Q r (a.put o.dst (.agg cs.toArray)) w)
  (e:o.guard=none:=by rfl) (g:o.op=.load n x:=by rfl) (l:a.eval x=Ag b p:=by rfl)
  (c:(match P.underlying n with|some d=>d.isRow|_=>false)=true:=by kernel_rfl) (k:(P.info? n).map (·.size)=some cs.length:=by kernel_rfl):wpList P ops Q (o::r) a w:=by
 generalize i:P.underlying n=u at c;cases u with
 |none=>cases c
 |some u=>exact Ln n b p cs j i h e g l c k
def yV {n:TypeId} {g:Nat} {b cs:Array Value} (i:w.1[g]? =some (.cells b n (0,0))) (e:cs.all (·.oneCell')=true) (h:wpList P ops Q r (a.put o.dst undef) (w.setRow g cs))
  (c:o.guard=none:=by rfl) (d:o.op=.store n x y:=by rfl) (k:a.eval x=Ag g 0:=by rfl) (hy:a.eval y=.agg cs:=by rfl)
  (j:(P.info? n).map (·.size)=some cs.size:=by kernel_rfl) (hold:b.size=cs.size:=by rfl):wpList P ops Q (o::r) a w:=Lv n g cs i e h c d k hy j hold
def yW {Φ:Wd->Prop} {b:Wd} (c:Φ b) (h:∀ W,Aw (Φ W)->wpList P ops Q r a W):wpList P ops Q r a b:=h b c
end
def tA {P:Program} {g:Region.Mode} {ops:Array Oper} {Q:Exit->Act->Wd->Prop} {S:Wd->Prop} (i:Nat) {v:Value} {e:Oper} {d:Nat} {b:Array Bool} {a j:Act} {w:Wd} (s:S w)
  (h:wpAnyH P g ops Q S d (b.setIfInBounds i true) j w)
  (p:ops[i]? =some e:=by simp only [Ga,Gz,Gn];rfl)
  (y:∀ w',S w'->(execOp a.eval e).run P w'=.ok (.value v) w':=by intro w' t;conv=>lhs;simp [go_sem])
  (hw:Region.wanted e (yielded ops a.tmps)=true:=by rfl)
  (q:a.put e.dst v=j:=by conv=>lhs;simp only [Act.put,Sv,Sz,Sw])
  (n:Region.noSelect ops=true:=by kernel_rfl) (l:Region.free g ops b i=true:=by kernel_rfl) (m:(Region.ready g ops b).contains i=true:=by kernel_rfl)
  (k:∀ c a w,Q (.panic c) (a.put e.dst v) w->Q (.panic c) a w:=by exact fun _ _ _ h=>h):wpAnyH P g ops Q S (d+1) b a w:=by
 subst q;exact JF p n l m k (WL ⟨hw,y⟩) s h
def tB {P:Program} {g:Region.Mode} {ops:Array Oper} {Q:Exit->Act->Wd->Prop} {S:Wd->Prop} {i:Nat} {v:Value} {e:Oper} {d:Nat} {b:Array Bool} {a j:Act} {w:Wd} (t:S w)
  (h:wpAnyH P g ops Q S d (b.setIfInBounds i true) j w)
  (m:ops.size-(d+1)=i:=by conv=>lhs;simp only [YZ,QS,XS,Nat.reduceAdd,Nat.reduceSub])
  (q:ops[i]? =some e:=by simp only [Ga,Gz,Gn];rfl)
  (y:∀ w',S w'->(execOp a.eval e).run P w'=.ok (.value v) w':=by intro w' u;conv=>lhs;simp [go_sem])
  (hw:Region.wanted e (yielded ops a.tmps)=true:=by rfl)
  (s:a.put e.dst v=j:=by conv=>lhs;simp only [Act.put,Sv,Sz,Sw])
  (p:Region.noSelect ops=true:=by kernel_rfl) (l:Region.free g ops b i=true:=by kernel_rfl) (n:(Region.ready g ops b).contains i=true:=by kernel_rfl)
  (k:∀ c a w,Q (.panic c) (a.put e.dst v) w->Q (.panic c) a w:=by exact fun _ _ _ h=>h):wpAnyH P g ops Q S (d+1) b a w:=by
 subst s m;exact JF q p l n k (WL ⟨hw,y⟩) t h
def tC {P:Program} {g:Region.Mode} {ops:Array Oper} {Q:Exit->Act->Wd->Prop} {S:Wd->Prop} (i:Nat) {v:Value} {ad:Addr} {e:Oper} {d:Nat} {b:Array Bool} {a j:Act} {w:Wd} (t:∀ w,S w->w.cell? ad=some v) (s:S w)
  (h:wpAnyH P g ops Q S d (b.setIfInBounds i true) j w)
  (p:ops[i]? =some e:=by simp only [Ga,Gz,Gn];rfl)
  (he:∀ w,w.cell? ad=some v->(execOp a.eval e).run P w=.ok (.value v) w:=by intro w' u;go_simp) (hw:Region.wanted e (yielded ops a.tmps)=true:=by rfl)
  (q:a.put e.dst v=j:=by conv=>lhs;simp only [Act.put,Sv,Sz,Sw])
  (n:Region.noSelect ops=true:=by kernel_rfl) (l:Region.free g ops b i=true:=by kernel_rfl) (m:(Region.ready g ops b).contains i=true:=by kernel_rfl)
  (k:∀ c a w,Q (.panic c) (a.put e.dst v) w->Q (.panic c) a w:=by exact fun _ _ _ h=>h):wpAnyH P g ops Q S (d+1) b a w:=
 tA i s h p (fun w hw=>he w (t w hw)) hw q n l m k
def tR {P:Program} {l:Region.Mode} {ops:Array Oper} {Q:Exit->Act->Wd->Prop} {S:Wd->Prop} {w:Wd} {n:TypeId} {g:Nat} {cs:List Value} (i:Nat) {k:Oper} {e:Nat} {b:Array Bool} {a p:Act} {x:Operand}
  (q:∀ w,S w->Blk w g n cs.toArray) (I:S w) (h:wpAnyH P l ops Q S e (b.setIfInBounds i true) p w)
  (E:ops[i]? =some k:=by simp only [Ga,Gz,Gn];rfl)
  (A:k.op=.load n x:=by rfl) (D:Region.noSelect ops=true:=by kernel_rfl) (z:Region.free l ops b i=true:=by kernel_rfl) (B:(Region.ready l ops b).contains i=true:=by kernel_rfl)
  (F:a.eval x=Ag g 0:=by rfl) (s:∀ c a w,Q (.panic c) (a.put k.dst (.agg cs.toArray)) w->Q (.panic c) a w:=by exact fun _ _ _ h=>h)
  (m:(match P.underlying n with|some d=>d.isRow|_=>false)=true:=by kernel_rfl) (hn:(P.info? n).map (·.size)=some cs.length:=by kernel_rfl) (hw:Region.wanted k (yielded ops a.tmps)=true:=by rfl)
  (H:a.put k.dst (.agg cs.toArray)=p:=by conv=>lhs;simp only [Act.put,Sv,Sz,Sw]):wpAnyH P l ops Q S (e+1) b a w:=by
 subst H;generalize C:P.underlying n=u at m;cases u with
 |none=>cases m
 |some u=>exact JF E D z B s (WT hw n x A g 0 F cs u (fun W t j v G=>by rw [Blk.cell (q W t)];simpa using G) C m hn) I h
def Wn {P:Program} {ops:Array Oper} {Q:Exit->Act->Wd->Prop} {rest:List Oper} {o:Oper} {a b:Act} {w:Wd} {v:Value} (h:wpList P ops Q rest b w)
  (r:(execOp a.eval o).run P w=.ok (.value v) w:=by conv=>lhs;simp [go_sem]) (hw:Region.wanted o (yielded ops a.tmps)=true:=by kernel_rfl)
  (c:a.put o.dst v=b:=by conv=>lhs;simp only [Act.put,Sv,Sz,Sw]):wpList P ops Q (o::rest) a w:=by
 subst c
 exact wpList_step fun K d=>by
  simp only [hw,VY];unfold Oper.wp;rw [r];exact d _ _ h
def Wl {P:Program} {ops:Array Oper} {Q:Exit->Act->Wd->Prop} {rest:List Oper} {o:Oper} {a b:Act} {w:Wd} {v:Value} {ad:Addr} (d:w.cell? ad=some v) (h:wpList P ops Q rest b w)
  (he:∀ w,w.cell? ad=some v->(execOp a.eval o).run P w=.ok (.value v) w:=by intro w' e;go_simp) (hw:Region.wanted o (yielded ops a.tmps)=true:=by kernel_rfl)
  (c:a.put o.dst v=b:=by conv=>lhs;simp only [Act.put,Sv,Sz,Sw]):wpList P ops Q (o::rest) a w:=
 Wn h (he w d) hw c
def Wa {P:Program} {ops:Array Oper} {Q:Exit->Act->Wd->Prop} {rest:List Oper} {o:Oper} {a b:Act} {w w':Wd} {v:Value} (h:wpList P ops Q rest b w')
  (r:(execOp a.eval o).run P w=.ok (.value v) w':=by conv=>lhs;simp [go_sem]) (hw:Region.wanted o (yielded ops a.tmps)=true:=by kernel_rfl)
  (c:a.put o.dst v=b:=by conv=>lhs;simp only [Act.put,Sv,Sz,Sw]):wpList P ops Q (o::rest) a w:=by
 subst c
 exact wpList_step fun K d=>by
  simp only [hw,VY];unfold Oper.wp;rw [r];exact d _ _ h
def yG {α:Sort _} (a:α):∃ b,a=b:=⟨_,rfl⟩
def yH {α:Sort _} (a:α):∃ b,Aw (a=b):=⟨_,rfl⟩
end
section
open Go.RowKit
def U7 {α:Type} (f:α->List Value) (l:List α):List Value:=l.flatMap f
section
variable {α:Type} {f:α->List Value} {k:Nat}
def Vg (x:α) (l:List α):U7 f (x::l)=f x++U7 f l:=by simp [U7]
def V9 (a b:List α):U7 f (a++b)=U7 f a++U7 f b:=by simp [U7]
def Xr (x:α):U7 f [x]=f x:=by simp [U7]
def Vm (a:∀ x,(f x).length=k):∀ l:List α,(U7 f l).length=l.length*k
 | []=>by simp [U7]
 |x::l=>by rw [Vg,WW,a,Vm a l,QS,ZH];omega
def Er (a:∀ x,(f x).length=k):∀ (l:List α) (i:Nat) (x:α),l[i]? =some x->∀ j,j<k->(U7 f l)[i*k+j]? =(f x)[j]?
 | [],i,x,h,_,_=>by simp at h
 |y::l,0,x,h,j,hj=>by
  simp at h;subst h;rw [Vg,JK,QB,WF (by rw [a];exact hj)]
 |y::l,i+1,x,h,j,hj=>by
  have b:l[i]? =some x:=by simpa using h
  rw [Vg,ZJ (by rw [a,ZH];omega),a];have e:(i+1)*k+j-k=i*k+j:=by rw [ZH];omega
  rw [e];exact Er a l i x b j hj
def Zf (a:∀ x,(f x).length=k):∀ (l:List α) (i:Nat),(U7 f l).take (i*k)=U7 f (l.take i)
 | [],i=>by simp [U7]
 |y::l,0=>by simp [U7]
 |y::l,i+1=>by
  rw [Vg,List.take_succ_cons,Vg,List.take_append,a];have e:(i+1)*k-k=i*k:=by rw [ZH];omega
  rw [e,Zf a l i,WU (by rw [a,ZH];omega)]
def Eb (a:∀ x,(f x).length=k):∀ (l:List α) (i:Nat),(U7 f l).drop (i*k)=U7 f (l.drop i)
 | [],i=>by simp [U7]
 |y::l,0=>by simp [U7]
 |y::l,i+1=>by
  rw [Vg,UL,List.drop_append,a];have e:(i+1)*k-k=i*k:=by rw [ZH];omega
  rw [e,Eb a l i,WP (by rw [a,ZH];omega),YN]
end
def Sl {α:Type} (f:α->List Value) (k:Nat) (w:Wd) (B:Nat) (A:Option Addr) (n c:Nat) (l:List α):Prop:=n<=c/\l.length=n/\Rd w B k A n (U7 f l)
section
variable {α:Type} {f:α->List Value} {k:Nat} {w w':Wd} {B B' n c:Nat} {A:Option Addr} {l:List α}
def Sl.len (h:Sl f k w B A n c l):l.length=n:=h.2.1
def Sl.cap (h:Sl f k w B A n c l):n<=c:=h.1
def Sl.rd (h:Sl f k w B A n c l):Rd w B k A n (U7 f l):=h.2.2
def Sl.nil:Sl f k w B none 0 0 []:=⟨Le _,rfl,by simp [U7],fun h=>absurd h Oo⟩
def Sl.keep (h:Sl f k w B A n c l) (a:∀ p:Addr,p.block<B->w'.cell? p=w.cell? p):Sl f k w' B A n c l:=⟨h.1,h.2.1,h.2.2.keep a⟩
def Sl.more (h:Sl f k w B A n c l) (a:B<=B'):Sl f k w B' A n c l:=⟨h.1,h.2.1,h.2.2.more a⟩
def Sl.below (h:Sl f k w B A n c l) (a:Below B w w'):Sl f k w' B A n c l:=⟨h.1,h.2.1,h.2.2.below a⟩
def Sl.after (h:Sl f k w B A n c l) (b:Below B w w') (a:B<=B'):Sl f k w' B' A n c l:=(h.below b).more a
def Sl.drew (h:Sl f k w B A n c l):Sl f k w.drew B A n c l:=h
def Sl.drewN (h:Sl f k w B A n c l) (m:Nat):Sl f k (w.drewN m) B A n c l:=h
def Sl.alloc (h:Sl f k w B A n c l) (a:B<=w.1.size) (o:Obj):Sl f k (w.alloc o) B A n c l:=⟨h.1,h.2.1,h.2.2.alloc a o⟩
def Sl.grown (h:Sl f k w B A n c l) {row:Option Nat} (d:w.grownBy w' row) (b:B<=w.1.size) (a:∀ g,row=some g->B<=g):Sl f k w' B A n c l:=⟨h.1,h.2.1,h.2.2.grown d b a⟩
def Sl.cell (a:∀ x,(f x).length=k) (h:Sl f k w B A n c l) {i:Nat} (r:i<n):
  ∃ b o x,A=some ⟨b,o,none⟩/\b<B/\l[i]? =some x/\∀ j u,(f x)[j]? =some u->w.cell? ⟨b,o+i*k+j,none⟩=some u:=by
 obtain ⟨b,o,e,p,q⟩:=h.2.2.2 Oo;have d:i<l.length:=by have:=h.2.1;omega
 refine ⟨b,o,l[i],e,p,QV d,fun j u g=>?_⟩;have m:j<k:=by have:=(QZ.1 g).1;rwa [a] at this
 rw [UP];exact q _ u (by rw [Er a l i _ (QV d) j m];exact g)
def Sl.of_own {base:Nat} {e:TypeId} (b:∀ x,(f x).length=k) (d:0<k) (h:w.ownsRow base e k (.slice A n c) n (U7 f l)):Sl f k w w.1.size A n c l:=by
 have a:(U7 f l).length=n*k:=h.1;rw [Vm b] at a;refine ⟨?_,Nat.eq_of_mul_eq_mul_right d a,Rd.of_own h⟩;obtain ⟨A',c',e,g,_⟩:=U4 h;injection e with _ _ e
 subst e;exact g
def Sl.new (a:∀ x,(f x).length=k) (w:Wd) (t:TypeId) (l:List α):Sl f k (w.alloc (.cells (U7 f l).toArray t)) (w.1.size+1) (Ah w.1.size 0) l.length l.length l:=
 ⟨Le _,rfl,Yv w _ t _ _ (Vm a l)⟩
end
end
section
open Go.RowKit
structure Chg where
 kind:Int
 id:Int
 key:Bz
 rcd:Bz
 vol:Bz
structure Rdd where
 kind:Int
 id:Int
 key:Bz
 ak:Bz
 ar:Bz
 code:Int
structure Com where
 unit:Int
 num:Int
 rA:Option Addr
 rn:Nat
 rc:Nat
 cA:Option Addr
 cn:Nat
 cc:Nat
 rs:List Rdd
 cs:List Chg
def chC (c:Chg):List Value:=[.int .i64 c.kind,.int .i64 c.id,.string c.key,.string c.rcd,.string c.vol]
def rdC (r:Rdd):List Value:=[.int .i64 r.kind,.int .i64 r.id,.string r.key,.string r.ak,.string r.ar,.int .i64 r.code]
def Ud (x:Com):List Value:=[.int .i64 x.unit,.int .i64 x.num,.slice x.rA x.rn x.rc,.slice x.cA x.cn x.cc]
def OT (x:Com):Value:=.agg #[.int .i64 x.unit,.int .i64 x.num,.slice x.rA x.rn x.rc,.slice x.cA x.cn x.cc]
def PU (c:Chg):(chC c).length=5:=rfl
def Pa (r:Rdd):(rdC r).length=6:=rfl
def Vo (x:Com):(Ud x).length=4:=rfl
def MC (l:List Com):∀ u∈U7 Ud l,u.oneCell'=true:=by
 intro u a;obtain ⟨c,_,h⟩:=VA.1 a;simp [Ud] at h;rcases h with rfl|rfl|rfl|rfl<;>rfl
def ComOk (w:Wd) (B:Nat) (x:Com):Prop:=Sl rdC 6 w B x.rA x.rn x.rc x.rs/\Sl chC 5 w B x.cA x.cn x.cc x.cs/\x.rn<=maxLen/\x.cn<=maxLen
def Cs (w:Wd) (B:Nat) (A:Option Addr) (n c:Nat) (l:List Com):Prop:=Sl Ud 4 w B A n c l/\∀ x∈l,ComOk w B x
def ComOk.after {w w':Wd} {B B':Nat} {x:Com} (h:ComOk w B x) (b:Below B w w') (a:B<=B'):ComOk w' B' x:=⟨h.1.after b a,h.2.1.after b a,h.2.2⟩
def Cs.after {w w':Wd} {B B' n c:Nat} {A:Option Addr} {l:List Com} (h:Cs w B A n c l) (b:Below B w w') (a:B<=B'):Cs w' B' A n c l:=⟨h.1.after b a,fun x d=>(h.2 x d).after b a⟩
def Z4 (a b:Com):Bool:=decide (a.num<b.num) || (decide (a.num=b.num)&&(decide (a.cn=0)&&decide (0<b.cn)))
section
variable {α:Type} (lt:α->α->Bool)
def Ix (x:α):List α->List α
 | []=>[x]
 |p::r=>if lt x p then p::Ix x r else x::p::r
def I3 (x:α) (l:List α):List α:=(Ix lt x l.reverse).reverse
def Xl:List α->List α->List α
 |acc,[]=>acc
 |acc,x::l=>Xl (I3 lt x acc) l
variable {lt}
def FJ {x:α}:∀ (s p:List α),(∀ y∈s,lt x y=true)->(∀ y,p.head? =some y->lt x y=false)->Ix lt x (s++p)=s++x::p
 | [],[],_,_=>rfl
 | [],y::p,_,h=>by
  show (if lt x y then _ else _)=_;rw [h y rfl];rfl
 |y::s,p,h1,h2=>by
  show (if lt x y then _ else _)=_;rw [h1 y QP,QK rfl];show y::Ix lt x (s++p)=_;rw [FJ s p (fun z hz=>h1 z (QN _ hz)) h2];rfl
def Wq {x:α} {p s:List α} (b:∀ y∈s,lt x y=true) (a:∀ y,p.getLast? =some y->lt x y=false):I3 lt x (p++s)=p++x::s:=by
 unfold I3;rw [List.reverse_append,FJ s.reverse p.reverse (fun y hy=>b y (by simpa using hy)) (fun y hy=>a y (by simpa [List.head?_reverse] using hy))];simp
def rJ {x:α} {l:List α} {k:Nat} (b:k<=l.length) (d:∀ i y,k<=i->l[i]? =some y->lt x y=true) (c:∀ y,0<k->l[k-1]? =some y->lt x y=false):I3 lt x l=l.take k++x::l.drop k:=by
 conv=>lhs;rw [<-ZS k l]
 refine Wq (fun y hy=>?_) (fun y hy=>?_)
 .obtain ⟨i,hi,rfl⟩:=XG hy;rw [List.getElem_drop];exact d (k+i) _ Oo (QV _)
 .rw [List.getLast?_eq_getElem?,WX,ZI b] at hy;rcases WB k with a|a
  .subst a;simp at hy
  .rw [VB Oo] at hy;exact c y a hy
def Me {x:α}:∀ l:List α,(Ix lt x l).length=l.length+1
 | []=>rfl
 |p::r=>by
  show (if lt x p then _ else _:List α).length=_;split
  .simp [Me r]
  .simp
def Mf {x:α} (l:List α):(I3 lt x l).length=l.length+1:=by simp [I3,Me]
def M9 {x y:α}:∀ l:List α,y∈Ix lt x l<->y=x\/y∈l
 | []=>by simp [Ix]
 |p::r=>by
  show y∈(if lt x p then _ else _:List α)<->_;split
  .rw [QH,M9 r,QH];constructor
   .rintro (h|h|h)
    .exact .inr (.inl h)
    .exact .inl h
    .exact .inr (.inr h)
   .rintro (h|h|h)
    .exact .inr (.inl h)
    .exact .inl h
    .exact .inr (.inr h)
  .simp
def xO {x y:α} (l:List α):y∈I3 lt x l<->y=x\/y∈l:=by simp [I3,M9]
def Lf:∀ (l a:List α) (x:α),Xl lt a (l++[x])=I3 lt x (Xl lt a l)
 | [],_,_=>rfl
 |y::l,a,x=>Lf l (I3 lt y a) x
def E9:∀ (l a:List α),(Xl lt a l).length=a.length+l.length
 | [],_=>rfl
 |x::l,a=>by
  show (Xl lt (I3 lt x a) l).length=_;rw [E9 l,Mf,QS];omega
def K7 {y:α}:∀ (l a:List α),y∈Xl lt a l<->y∈a\/y∈l
 | [],_=>by simp [Xl]
 |x::l,a=>by
  show y∈Xl lt (I3 lt x a) l<->_;rw [K7 l,xO,QH];constructor
  .rintro ((h|h)|h)
   .exact .inr (.inl h)
   .exact .inl h
   .exact .inr (.inr h)
  .rintro (h|h|h)
   .exact .inl (.inr h)
   .exact .inl (.inl h)
   .exact .inr h
end
end
section
open Go.RowKit
def uK (b o j:Nat):(⟨b,o,none⟩:Addr).add j=⟨b,o+j,none⟩:=by unfold Addr.add;split<;>simp_all
section
variable {P:Program} (w:Wd)
def Fu (base:Nat) (t ty e:TypeId) (i:TypeInfo) (size:Nat) (a:P.underlying t=some (.slice e)) (b:P.info? e=some i)
  (v:Value) (n:Nat) (xs:List Value) (h:w.ownsRow base e size v n xs) (c:Nat):(Builtin.append_ #[t,t] ty #[v,.slice none 0 c]).run P w=.ok v w:=by
 rcases h.2 with ⟨rfl,rfl⟩|⟨g,j,d,rfl,_,_,f,_⟩
 .simp [Builtin.append_,WN a,sizeOf,typeInfo,b,Builtin.lenOf,Builtin.firstCells]
 .simp [Builtin.append_,WN a,sizeOf,typeInfo,b,Builtin.lenOf,Builtin.firstCells,f,storeCells]
def tX (base:Nat) (t ty e:TypeId) (i:TypeInfo) (z:Value) (size a:Nat) (r:P.underlying t=some (.slice e)) (x:P.info? e=some i) (hz:i.zero=some z)
  (C:i.size=size) (q:i.bytes=a) (H:z.cells.size=size) (D:0<size)
  (v:Value) (n:Nat) (xs:List Value) (l:w.ownsRow base e size v n xs)
  (B:Nat) (A:Option Addr) (m c:Nat) (news:List Value) (k:Rd w B size A m news) (E:∀ u∈news,u.oneCell'=true)
  (p:n+m<=maxLen) (d:(n+m)*a<=140737488355328) (I:base<=w.1.size):
  ∃ g w',(Builtin.append_ #[t,t] ty #[v,.slice A m c]).run P w=.ok g w'/\w'.ownsRow base e size g (n+m) (xs++news)/\w.grownBy w' v.ownBlock /\
   (g.ownBlock=v.ownBlock\/g.ownBlock=some w.1.size):=by
 rcases A with _|ad
 .have hm:m=0:=by
   rcases WB m with f|f
   .exact f
   .obtain ⟨b,o,h,_⟩:=k.2 f;cases h
  subst hm;have hn:news=[]:=QA (by simpa using k.1);subst hn;exact ⟨v,w,Fu w base t ty e i size r x v n xs l c,by simpa using l,World.grownBy.refl w _,.inl rfl⟩
 .have iL:∀ j u,news[j]? =some u->w.cell? (ad.add j)=some u:=by
   intro j u s;rcases WB m with f|f
   .subst f;have hn:news=[]:=QA (by simpa using k.1);subst hn;simp at s
   .obtain ⟨b,o,h,_,hc⟩:=k.2 f;injection h with h
    subst h;rw [uK];exact hc j u s
  obtain ⟨g,w',J,y,G,_,F⟩:=run_append_own_at (P:=P) w base t ty e i z size a r x hz C q H D v n xs l ad m c news k.1 iL E p d I;exact ⟨g,w',J,y,G,F⟩
theorem zm {G:Prop} (h:G:=by
  unfold Oper.wp execOp;simp only [ho,resolve,invoke,builtin,ZG,KL,XB,KV,WS,KN,hs,hx,aN]
  first
   |exact h v' w' h2 h3 h4
   |exact h v' w' h2 h3):G:=h
def Tc {o:Oper} {a:Act} {K:Act->Wd->Prop} {Q:Exit->Act->Wd->Prop} (s x:Operand) (t:TypeId)
  (ho:o.op=.call { callee:=.builtin .append,args:=#[s,x],argTypes:=#[t,t] })
  (base:Nat) (e:TypeId) (i:TypeInfo) (z:Value) (size b:Nat) (l:P.underlying t=some (.slice e)) (C:P.info? e=some i) (hz:i.zero=some z)
  (k:i.size=size) (g:i.bytes=b) (y:z.cells.size=size) (p:0<size)
  (v:Value) (n:Nat) (xs:List Value) (hs:a.eval s=v) (j:w.ownsRow base e size v n xs)
  (B:Nat) (A:Option Addr) (m c:Nat) (news:List Value) (hx:a.eval x=.slice A m c) (r:Rd w B size A m news) (q:∀ u∈news,u.oneCell'=true)
  (f:n+m<=maxLen) (d:(n+m)*b<=140737488355328) (D:base<=w.1.size)
  (h:∀ v' w',w'.ownsRow base e size v' (n+m) (xs++news)->w.grownBy w' v.ownBlock->(v'.ownBlock=v.ownBlock\/v'.ownBlock=some w.1.size)->K (a.put o.dst v') w'):o.wp P a w K Q:=by
 obtain ⟨v',w',aN,h2,h3,h4⟩:=tX (P:=P) w base t o.type e i z size b l C hz k g y p v n xs j B A m c news r q f d D;exact zm
def Ui {ops:Array Oper} {rest:List Oper} {o:Oper} {a:Act} {Q:Exit->Act->Wd->Prop} (g:o.guard=none) (s x:Operand) (t:TypeId)
  (F:o.op=.call { callee:=.builtin .append,args:=#[s,x],argTypes:=#[t,t] })
  (base:Nat) (e:TypeId) (i:TypeInfo) (z:Value) (size b:Nat) (r:P.underlying t=some (.slice e)) (K:P.info? e=some i) (hz:i.zero=some z)
  (q:i.size=size) (k:i.bytes=b) (J:z.cells.size=size) (y:0<size)
  (v:Value) (n:Nat) (xs:List Value) (I:a.eval s=v) (p:w.ownsRow base e size v n xs)
  (B:Nat) (A:Option Addr) (m c:Nat) (news:List Value) (L:a.eval x=.slice A m c) (G:Rd w B size A m news) (D:∀ u∈news,u.oneCell'=true)
  (j:n+m<=maxLen) (d:(n+m)*b<=140737488355328) (M:base<=w.1.size)
  (h:∀ f w',w'.ownsRow base e size f (n+m) (xs++news)->w.grownBy w' v.ownBlock->(f.ownBlock=v.ownBlock\/f.ownBlock=some w.1.size)->wpList P ops Q rest (a.put o.dst f) w'):wpList P ops Q (o::rest) a w:=
 wpList_plain g fun _ E=>Tc w s x t F base e i z size b r K hz q k J y v n xs I p B A m c news L G D j d M fun f w' l H C=>E _ _ (h f w' l H C)
end
end
def U3 (w:Wd) (t:TypeId) (cs:Array Value) (b:Nat) (h:b=w.1.size):Blk (w.alloc (.cells cs t)) b t cs:=by subst h;exact Blk.new w t cs
section
open Go.RowKit
structure DSet where
 id:Int
 org:Int
 fmt:Int
 len:Int
 blk:Int
 kat:Int
 kln:Int
 itv:Int
 area:Int
 fi:Int
 fa:Int
 base:Int
 aat:Int
 aln:Int
 uniq:Bool
 cls:Int
 vol:Bz
 own:Bz
 cre:Int
 exp:Int
 arch:Bool
def dC (d:DSet):List Value:=[.int .i64 d.id,.int .i64 d.org,.int .i64 d.fmt,.int .i64 d.len,.int .i64 d.blk,.int .i64 d.kat,.int .i64 d.kln,.int .i64 d.itv,.int .i64 d.area,.int .i64 d.fi,.int .i64 d.fa,.int .i64 d.base,.int .i64 d.aat,.int .i64 d.aln,.bool d.uniq,.int .i64 d.cls,.string d.vol,.string d.own,.int .i64 d.cre,.int .i64 d.exp,.bool d.arch]
def mi (d:DSet):(dC d).length=21:=rfl
def Xc (d:DSet):(dC d).toArray.all (·.oneCell')=true:=by simp [dC,Value.oneCell']
structure Pr where
 key:Bz
 rcd:Bz
def prC (p:Pr):List Value:=[.string p.key,.string p.rcd]
def Hl (p:Pr):(prC p).length=2:=rfl
def Yx (l:List Pr):∀ u∈U7 prC l,u.oneCell'=true:=by
 intro u a;obtain ⟨c,_,h⟩:=VA.1 a;simp [prC] at h;rcases h with rfl|rfl<;>rfl
structure Cnt where
 d:DSet
 ap:Int
 pA:Option Addr
 pn:Nat
 pc:Nat
 ps:List Pr
def cnC (x:Cnt):List Value:=dC x.d++[.int .i64 x.ap,.slice x.pA x.pn x.pc]
def qI (x:Cnt):(cnC x).length=23:=rfl
def Va (x:Cnt):(cnC x).toArray.all (·.oneCell')=true:=by simp [cnC,dC,Value.oneCell']
def CntOk (w:Wd) (B:Nat) (x:Cnt):Prop:=Sl prC 2 w B x.pA x.pn x.pc x.ps/\x.pn<=maxLen
def CntOk.after {w w':Wd} {B B':Nat} {x:Cnt} (h:CntOk w B x) (b:Below B w w') (a:B<=B'):CntOk w' B' x:=⟨h.1.after b a,h.2⟩
def Uo (n a b:Int):Bool:=decide (a<=n)&&decide (n<=b)
def winB_true {n a b:Int}:Uo n a b=true<->a<=n/\n<=b:=by simp [Uo]
def L4 (l:List Int):Bool:=l.all fun n=>decide (n=0)
def Xf (n:Int):Bool:=decide (n=128) || decide (n=256) || decide (n=512)
def EF (itv org len fmt blk:Int):Bool:=Xf itv&&Uo org 1 3&&Uo len 1 (min 200 (itv-7))&&L4 [fmt,blk]
def Yd (d:DSet):Bool:=
 EF d.itv d.org d.len d.fmt d.blk &&
  (if d.org=3 then decide (d.len<=d.itv / 2-8)&&Uo d.kat 0 d.len&&Uo d.kln 1 (d.itv / 16)&&decide (d.kat+d.kln<=d.len)&&Uo d.area 2 8&&Uo d.fi 0 90&&Uo d.fa 0 (d.area-1)
   else L4 [d.kat,d.kln,d.area,d.fi,d.fa])
end
end Go.Proofs.YtdleakjejodjjaaGreatDoor
