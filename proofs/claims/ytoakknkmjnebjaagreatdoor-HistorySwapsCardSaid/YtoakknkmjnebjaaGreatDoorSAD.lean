/- Of HistorySwaps. -/
import Derived.Lib.Hide
import Derived.Deep.RegionHeld3
import Derived.Deep.AppendLies
import Derived.Lib.Strings
import Derived.Test.YtoakknkmjnebjaaGreatDoorProg
import Derived.WalkSpells
import Derived.WalkLawsBesides
import Derived.BigQuiet
namespace Go.Proofs.YtoakknkmjnebjaaGreatDoor
open Tryz (prog)
set_option maxRecDepth 100000
set_option maxHeartbeats 1000000
section
open Go.RowKit
theorem tk {P : Program} {md : Region.Mode} {ops : Array Oper} {Q : Exit → Act → World → Prop} {S : World → Prop} (i : Nat) (v : Value) {oi : Oper} {fuel : Nat} {listed : Array Bool} {a a' : Act} {w : World} (hS : S w)
    (h : wpAnyH P md ops Q S fuel (listed.setIfInBounds i true) a' w)
    (hi : ops[i]? = some oi := by simp only [List.getElem?_toArray, List.getElem?_cons_zero, List.getElem?_cons_succ]; rfl)
    (hs : Region.noSelect ops = true := by kernel_rfl) (hf : Region.free md ops listed i = true := by kernel_rfl) (hr : (Region.ready md ops listed).contains i = true := by kernel_rfl)
    (hQ : ∀ c a w, Q (.panic c) (a.put oi.dst v) w → Q (.panic c) a w := by exact fun _ _ _ h => h)
    (y : YieldsIf P ops S oi v a := by exact Or.inl ⟨by rfl, by intro w' hSw; go_simp⟩)
    (ha : a.put oi.dst v = a' := by conv => lhs; simp only [Act.put, List.setIfInBounds_toArray, List.set_cons_zero, List.set_cons_succ]) : wpAnyH P md ops Q S (fuel + 1) listed a w := by
  subst ha
  exact wpAnyH_take hi hs hf hr hQ y hS h
theorem tku {P : Program} {md : Region.Mode} {ops : Array Oper} {Q : Exit → Act → World → Prop} {S : World → Prop} (i : Nat) {oi : Oper} {fuel : Nat} {listed : Array Bool} {a a' : Act} {w : World} (hS : S w)
    (h : wpAnyH P md ops Q S fuel (listed.setIfInBounds i true) a' w)
    (hi : ops[i]? = some oi := by simp only [List.getElem?_toArray, List.getElem?_cons_zero, List.getElem?_cons_succ]; rfl)
    (hs : Region.noSelect ops = true := by kernel_rfl) (hf : Region.free md ops listed i = true := by kernel_rfl) (hr : (Region.ready md ops listed).contains i = true := by kernel_rfl)
    (hQ : ∀ c a w, Q (.panic c) (a.put oi.dst undef) w → Q (.panic c) a w := by exact fun _ _ _ h => h)
    (y : YieldsIf P ops S oi undef a := by exact Or.inr ⟨by rfl, rfl⟩)
    (ha : a.put oi.dst undef = a' := by conv => lhs; simp only [Act.put, List.setIfInBounds_toArray, List.set_cons_zero, List.set_cons_succ]) : wpAnyH P md ops Q S (fuel + 1) listed a w := by
  subst ha
  exact wpAnyH_take hi hs hf hr hQ y hS h
theorem Rc {P : Program} {md : Region.Mode} {ops : Array Oper} {Q : Exit → Act → World → Prop} {S : World → Prop} {fuel : Nat} {listed : Array Bool} {a : Act} {w : World} {i : Nat} {o : Oper} {rs : List Nat}
    (h : ∀ K' : Act → World → Prop, Shut (∀ a w, S w → (S w → wpAnyH P md ops Q S fuel (listed.setIfInBounds i true) a w) → K' a w) → if Region.wanted o (yielded ops a.tmps) = true then Oper.wp P o a w K' Q else K' (a.put o.dst undef) w)
    (hs : AllReadyH P md ops Q S fuel listed a w rs)
    (ho : ops[i]? = some o := by simp only [List.getElem?_toArray, List.getElem?_cons_zero, List.getElem?_cons_succ]; rfl) : AllReadyH P md ops Q S fuel listed a w (i :: rs) := AllReadyH.cons ho h hs
section
variable {P : Program} {ops : Array Oper} {Q : Exit → Act → World → Prop} {r : List Oper} {a : Act} {w : World}
theorem Gl {x c d e f} (n m : Nat) (h : wpList P ops Q (⟨x, .load n (.tmp m), c, d, e, f⟩ :: r) a w) : wpList P ops Q (⟨x, .load n (.tmp m), c, d, e, f⟩ :: r) a w := h
theorem Gt {x c d e f v} (n m : Nat) (h : wpList P ops Q (⟨x, .store n (.tmp m) v, c, d, e, f⟩ :: r) a w) : wpList P ops Q (⟨x, .store n (.tmp m) v, c, d, e, f⟩ :: r) a w := h
theorem Gb {x c d e f v} (n : Nat) (h : wpList P ops Q (⟨x, .build n v, c, d, e, f⟩ :: r) a w) : wpList P ops Q (⟨x, .build n v, c, d, e, f⟩ :: r) a w := h
theorem Ge {x c d e f u v y} (n : Nat) (h : wpList P ops Q (⟨x, .binOp .eql n u v y, c, d, e, f⟩ :: r) a w) : wpList P ops Q (⟨x, .binOp .eql n u v y, c, d, e, f⟩ :: r) a w := h
theorem Gc {x c d e f v u} (n : Nat) (h : wpList P ops Q (⟨x, .buildSlice n v u, c, d, e, f⟩ :: r) a w) : wpList P ops Q (⟨x, .buildSlice n v u, c, d, e, f⟩ :: r) a w := h
end
theorem Wk {o : Oper} {ops : Array Oper} {a' a : Act} {P : Program} {Q : Exit → Act → World → Prop} {rest : List Oper} {w : World} (h : wpList P ops Q rest a' w) (hw : Region.wanted o (yielded ops a.tmps) = false := by kernel_rfl)
    (ha : a.put o.dst undef = a' := by conv => lhs; simp only [Act.put, List.setIfInBounds_toArray, List.set_cons_zero, List.set_cons_succ]) : wpList P ops Q (o :: rest) a w := by
  subst ha
  exact wpList_skip hw h
theorem tj {P : Program} {md : Region.Mode} {ops : Array Oper} {Q : Exit → Act → World → Prop} {S : World → Prop} (i : Nat) (v : Value) {oi : Oper} {fuel : Nat} {listed : Array Bool} {a a' : Act} {w : World} (hS : S w)
    (h : wpAnyH P md ops Q S fuel (listed.setIfInBounds i true) a' w)
    (hi : ops[i]? = some oi := by simp only [List.getElem?_toArray, List.getElem?_cons_zero, List.getElem?_cons_succ]; rfl)
    (hs : Region.noSelect ops = true := by kernel_rfl) (hf : Region.free md ops listed i = true := by kernel_rfl) (hr : (Region.ready md ops listed).contains i = true := by kernel_rfl)
    (hQ : ∀ c a w, Q (.panic c) (a.put oi.dst v) w → Q (.panic c) a w := by exact fun _ _ _ h => h)
    (hw : Region.wanted oi (yielded ops a.tmps) = true := by rfl)
    (y : ∀ w', S w' → (execOp a.eval oi).run P w' = .ok (.value v) w')
    (ha : a.put oi.dst v = a' := by conv => lhs; simp only [Act.put, List.setIfInBounds_toArray, List.set_cons_zero, List.set_cons_succ]) : wpAnyH P md ops Q S (fuel + 1) listed a w := by
  subst ha
  exact wpAnyH_take hi hs hf hr hQ (Or.inl ⟨hw, y⟩) hS h
section
variable {P : Program} {ops : Array Oper} {Q : Exit → Act → World → Prop} {rest : List Oper} {o : Oper} {a : Act} {w : World} {x y : Operand} {d : TypeDesc}
theorem Lq (ty : TypeId) (g : Nat) (cs : Array Value) (hg : w.heap[g]? = some (.cells cs ty (0, 0))) (hu : P.underlying ty = some d) (h : wpList P ops Q rest (a.put o.dst (.agg cs)) w)
    (hgd : o.guard = none := by rfl) (ho : o.op = .load ty x := by rfl) (hx : a.eval x = .pointer (some ⟨g, 0, none⟩) := by rfl)
    (hd : (match d with | .struct _ | .array _ _ => true | _ => false) = true := by rfl) (hi : (P.info? ty).map (·.size) = some cs.size := by kernel_rfl) : wpList P ops Q (o :: rest) a w :=
  wpList_load_row hgd ty x ho g hx ty cs (0, 0) d hg hu hd hi h
theorem Lv (ty : TypeId) (g : Nat) (cells : Array Value) {old : Array Value} (hg : w.heap[g]? = some (.cells old ty (0, 0))) (h1 : cells.all (·.oneCell') = true) (h : wpList P ops Q rest (a.put o.dst undef) (w.setRow g cells))
    (hgd : o.guard = none := by rfl) (ho : o.op = .store ty x y := by rfl) (hx : a.eval x = .pointer (some ⟨g, 0, none⟩) := by rfl) (hy : a.eval y = .agg cells := by rfl)
    (hi : (P.info? ty).map (·.size) = some cells.size := by kernel_rfl) (hold : old.size = cells.size := by rfl) : wpList P ops Q (o :: rest) a w :=
  wpList_store_row hgd ty x y ho g cells hx hy ty old hg hi hold h1 h
theorem Ln (ty : TypeId) (b p : Nat) (cs : List Value) (hc : w.rangeAt b p cs) (hu : P.underlying ty = some d) (h : wpList P ops Q rest (a.put o.dst (.agg cs.toArray)) w)
    (hgd : o.guard = none := by rfl) (ho : o.op = .load ty x := by rfl) (hx : a.eval x = .pointer (some ⟨b, p, none⟩) := by rfl) (hd : d.isRow = true := by rfl) (hi : (P.info? ty).map (·.size) = some cs.length := by kernel_rfl) : wpList P ops Q (o :: rest) a w :=
  wpList_load_mid hgd ty x ho b p hx cs d hc hu hd hi h
end
theorem Aq {P : Program} {md : Region.Mode} {ops : Array Oper} {Q : Exit → Act → World → Prop} {S : World → Prop} (rs : List Nat) {fuel : Nat} {listed : Array Bool} {a : Act} {w : World} (h : AllReadyH P md ops Q S fuel listed a w rs)
    (hr : Region.ready md ops listed = rs := by kernel_rfl) (hne : rs ≠ [] := by simp) : wpAnyH P md ops Q S (fuel + 1) listed a w := wpAnyH_ready hr hne h
abbrev Bz := ByteArray
abbrev Wd := World
theorem Hd {p : Prop} (h : p) : Hid p := Lib.hid h
theorem Sv {α} {l : List α} {i : Nat} {a : α} : l.toArray.setIfInBounds i a = (l.set i a).toArray := List.setIfInBounds_toArray ..
theorem Sz {α} {a : α} {l : List α} {b : α} : (a :: l).set 0 b = b :: l := rfl
theorem Sw {α} {a : α} {l : List α} {i : Nat} {b : α} : (a :: l).set (i + 1) b = a :: l.set i b := rfl
theorem Ga {α} {xs : List α} {i : Nat} : xs.toArray[i]? = xs[i]? := List.getElem?_toArray ..
theorem Gz {α} {a : α} {l : List α} : (a :: l)[0]? = some a := rfl
theorem Gn {α} {a : α} {l : List α} {i : Nat} : (a :: l)[i + 1]? = l[i]? := rfl
abbrev Le := @Nat.le_refl
abbrev Bf := @Below.refl
abbrev Lr := @wpList_load_row
abbrev Lt := @wpList_store_row
abbrev Lm := @wpList_load_mid
abbrev Br := @bodyPost_ret
abbrev Ar := @wpAnyH_ready
abbrev An := @AllReadyH.nil
abbrev Rs := @rounds_succ
abbrev Lx := @Nat.le_trans
abbrev Rw := @wp_region_held_drew
abbrev Z0 := @Nat.zero_le
abbrev Ad := @wpAnyH_done
abbrev Lu := @wp_loop_rounds
end
section
open Go.RowKit Go.WideShapes Go.ChangeShapes
theorem Uf {B:Nat} {a w:Wd} (h:Below B a w) (n:Nat):Below B a (w.drewN n):=⟨h.os,h.tape,h.output,h.size,h.block⟩
theorem U0 {B:Nat} {a w w':Wd} (h:Below B a w) (k:Below w.heap.size w w') (hB:B≤w.heap.size):Below B a w':=h.trans (k.mono hB)
def Rd (w:Wd) (B size:Nat) (A:Option Addr) (n:Nat) (xs:List Value):Prop:=
 xs.length=n*size∧(0<n→∃ b o,A=some ⟨b,o,none⟩∧b<B∧∀ j u,xs[j]? =some u→w.cell? ⟨b,o+j,none⟩=some u)
section
variable {w w':Wd} {B B' size n:Nat} {A:Option Addr} {xs:List Value}
theorem Rd.keep (h:Rd w B size A n xs) (hk:∀ p:Addr,p.block<B→w'.cell? p=w.cell? p):Rd w' B size A n xs:=
 ⟨h.1,fun hn=>by
  obtain ⟨b,o,e,hb,hc⟩:=h.2 hn;exact ⟨b,o,e,hb,fun j u hu=>(hk _ hb).trans (hc j u hu)⟩⟩
theorem Rd.more (h:Rd w B size A n xs) (hB:B≤B'):Rd w B' size A n xs:=
 ⟨h.1,fun hn=>by
  obtain ⟨b,o,e,hb,hc⟩:=h.2 hn;exact ⟨b,o,e,by omega,hc⟩⟩
theorem Rd.below (h:Rd w B size A n xs) (hb:Below B w w'):Rd w' B size A n xs:=h.keep fun _ hp=>hb.cell hp
theorem Rd.drewN (h:Rd w B size A n xs) (k:Nat):Rd (w.drewN k) B size A n xs:=h
theorem Rd.drew (h:Rd w B size A n xs):Rd w.drew B size A n xs:=h
theorem Rd.alloc (h:Rd w B size A n xs) (hB:B≤w.heap.size) (o:Obj):Rd (w.alloc o) B size A n xs:=h.keep fun p hp=>World.cell?_alloc_lt w o p (by omega)
theorem Rd.setCell (h:Rd w B size A n xs) {p:Addr} (hB:B≤p.block) (u:Value):Rd (w.setCell p u) B size A n xs:=
 h.keep fun q hq=>World.cell?_setCell_other w p q u (fun e=>by subst e;omega)
theorem Rd.grown (h:Rd w B size A n xs) {row:Option Nat} (hg:w.grownBy w' row) (hB:B≤w.heap.size) (hr:∀ g,row=some g→B≤g):Rd w' B size A n xs:=
 h.keep fun p hp=>World.cell?_of_block (hg.block p.block (by omega) (fun e=>by have:=hr _ e.symm;omega))
theorem Rd.drop (h:Rd w B size A n xs) {k cap:Nat} (hk:k≤n) (hc:n≤cap):
  Rd w B size (if cap=k then A else A.map (·.add (k*size))) (n-k) (xs.drop (k*size)):=by
 refine ⟨by rw [List.length_drop,h.1,Nat.sub_mul],fun hn=>?_⟩;obtain ⟨b,o,rfl,hb,aB⟩:=h.2 (by omega);rw [if_neg (by omega)];refine ⟨b,o+k*size,by simp [Addr.add],hb,fun j u hu=>?_⟩;rw [Nat.add_assoc];exact aB _ u (by rw [←hu,List.getElem?_drop])
theorem Rd.take (h:Rd w B size A n xs) {k:Nat} (hk:k≤n):Rd w B size A k (xs.take (k*size)):=by
 refine ⟨by rw [List.length_take,h.1];exact Nat.min_eq_left (Nat.mul_le_mul_right _ hk),fun hn=>?_⟩;obtain ⟨b,o,rfl,hb,aB⟩:=h.2 (by omega);refine ⟨b,o,rfl,hb,fun j u hu=>?_⟩;rw [List.getElem?_take] at hu;split at hu
 ·exact aB j u hu
 ·cases hu
theorem Rd.of_own {base:Nat} {e:TypeId} {c:Nat} (h:w.ownsRow base e size (.slice A n c) n xs):Rd w w.heap.size size A n xs:=by
 refine ⟨h.1,fun hn=>?_⟩;rcases h.2 with ⟨hv,h0⟩|⟨g,cap,cur,hv,hb,hg,i6,hm,hs,ht⟩
 ·omega
 ·injection hv with hA _ _
  subst hA;have aG:g<w.heap.size:=(h.lt g rfl).2;refine ⟨g,0,rfl,aG,fun j u hu=>?_⟩;have:=h.cells (g:=g) rfl j u hu
  rwa [show ((⟨g,0,none⟩:Addr).add j)=⟨g,0+j,none⟩ from by unfold Addr.add;split<;>simp_all] at this
theorem Ue {base:Nat} {e:TypeId} {v:Value} (h:w.ownsRow base e size v n xs):∃ A c,v = .slice A n c∧n≤c∧c≤maxLen:=by
 rcases h.2 with ⟨hv,h0⟩|⟨g,cap,cur,hv,hb,hg,i6,hm,hs,ht⟩
 ·exact ⟨none,0,by rw [hv,h0],by omega,by omega⟩
 ·exact ⟨_,cap,hv,i6,hm⟩
theorem X6 {base:Nat} {e:TypeId} {v:Value} (h:w.ownsRow base e size v n xs) {B:Nat} (hB:B≤base):∀ g,v.ownBlock=some g→B≤g:=
 fun g hg=>Lx hB (h.lt g hg).1
end
theorem Zt {w:Wd} {base:Nat} {e:TypeId} {size n:Nat} {v:Value} {xs:List Value} (h:w.ownsRow base e size v n xs) (hn:0<n):
  ∃ g cap,v = .slice (some ⟨g,0,none⟩) n cap∧base≤g∧g<w.heap.size∧n≤cap:=by
 rcases h.2 with ⟨hv,h0⟩|⟨g,cap,cur,hv,hb,hg,i6,hm,hs,ht⟩
 ·omega
 ·subst hv;exact ⟨g,cap,rfl,hb,(h.lt g rfl).2,i6⟩
theorem Up {w w':Wd} {base:Nat} {e:TypeId} {size n:Nat} {v:Value} {xs:List Value} (h:w.ownsRow base e size v n xs) (hb:Below w.heap.size w w'):w'.ownsRow base e size v n xs:=
 h.kept (row:=none) ⟨hb.os,hb.tape,hb.output,hb.size,fun i hi _=>hb.block i hi⟩ (by cases v.ownBlock<;>simp)
theorem Vl (s:Bz):∀ u∈[Value.string s],u.oneCell'=true:=by
 intro u hu;simp at hu;subst hu;rfl
theorem Zo {w wr:Wd} {cs:Array Value} {t:TypeId} (h:Below (w.heap.size+1) (w.alloc (.cells cs t)) wr) (i:Nat):wr.cell? ⟨w.heap.size,i,none⟩=cs[i]?:=
 (h.cell (p:=⟨w.heap.size,i,none⟩) (Nat.lt_succ_self _)).trans (World.cell?_alloc_at _ _ _ _ rfl)
theorem Uc {w wr:Wd} {cs:Array Value} {t:TypeId} (h:Below (w.heap.size+1) (w.alloc (.cells cs t)) wr):Below w.heap.size w wr:=
 ((Bf w.heap.size w).alloc (Le _) _).trans (h.mono (Nat.le_succ _))
theorem Vn {w wr:Wd} {cs:Array Value} {t:TypeId} (h:Below (w.heap.size+1) (w.alloc (.cells cs t)) wr):w.heap.size+1≤wr.heap.size:=by
 have:=h.size;simpa using this
theorem Xg (w:Wd) (cs:Array Value) (t:TypeId):Below (w.heap.size+1) (w.alloc (.cells cs t)) (w.alloc (.cells cs t)):=Bf _ _
theorem Vw (w:Wd) (cs:List Value) (t:TypeId) (n size:Nat) (h:cs.length=n*size):Rd (w.alloc (.cells cs.toArray t)) (w.heap.size+1) size (some ⟨w.heap.size,0,none⟩) n cs:=by
 refine ⟨h,fun _=>⟨w.heap.size,0,rfl,Nat.lt_succ_self _,fun j u hu=>?_⟩⟩;rw [World.cell?_alloc_at _ _ _ _ rfl];simpa using hu
end
section
open Go.RowKit
def Ub {α:Type} (f:α→List Value) (l:List α):List Value:=l.flatMap f
section
variable {α:Type} {f:α→List Value} {k:Nat}
theorem V8 (x:α) (l:List α):Ub f (x::l)=f x++Ub f l:=by simp [Ub]
theorem Vb (a b:List α):Ub f (a++b)=Ub f a++Ub f b:=by simp [Ub]
theorem Va (x:α):Ub f [x]=f x:=by simp [Ub]
theorem Vi (hk:∀ x,(f x).length=k):∀ l:List α,(Ub f l).length=l.length*k
 | []=>by simp [Ub]
 |x::l=>by rw [V8,List.length_append,hk,Vi hk l,List.length_cons,Nat.succ_mul];omega
theorem Xn (hk:∀ x,(f x).length=k):∀ (l:List α) (i:Nat) (x:α),l[i]? =some x→∀ j,j<k→(Ub f l)[i*k+j]? =(f x)[j]?
 | [],i,x,h,_,_=>by simp at h
 |y::l,0,x,h,j,hj=>by
  simp at h;subst h;rw [V8,Nat.zero_mul,Nat.zero_add,List.getElem?_append_left (by rw [hk];exact hj)]
 |y::l,i+1,x,h,j,hj=>by
  have h':l[i]? =some x:=by simpa using h
  rw [V8,List.getElem?_append_right (by rw [hk,Nat.succ_mul];omega),hk];have e:(i+1)*k+j-k=i*k+j:=by rw [Nat.succ_mul];omega
  rw [e];exact Xn hk l i x h' j hj
theorem flat_take (hk:∀ x,(f x).length=k):∀ (l:List α) (i:Nat),(Ub f l).take (i*k)=Ub f (l.take i)
 | [],i=>by simp [Ub]
 |y::l,0=>by simp [Ub]
 |y::l,i+1=>by
  rw [V8,List.take_succ_cons,V8,List.take_append,hk];have e:(i+1)*k-k=i*k:=by rw [Nat.succ_mul];omega
  rw [e,flat_take hk l i,List.take_of_length_le (by rw [hk,Nat.succ_mul];omega)]
theorem Fz (hk:∀ x,(f x).length=k):∀ (l:List α) (i:Nat),(Ub f l).drop (i*k)=Ub f (l.drop i)
 | [],i=>by simp [Ub]
 |y::l,0=>by simp [Ub]
 |y::l,i+1=>by
  rw [V8,List.drop_succ_cons,List.drop_append,hk];have e:(i+1)*k-k=i*k:=by rw [Nat.succ_mul];omega
  rw [e,Fz hk l i,List.drop_of_length_le (by rw [hk,Nat.succ_mul];omega),List.nil_append]
end
def Sl {α:Type} (f:α→List Value) (k:Nat) (w:Wd) (B:Nat) (A:Option Addr) (n c:Nat) (l:List α):Prop:=n≤c∧l.length=n∧Rd w B k A n (Ub f l)
section
variable {α:Type} {f:α→List Value} {k:Nat} {w w':Wd} {B B' n c:Nat} {A:Option Addr} {l:List α}
theorem Sl.len (h:Sl f k w B A n c l):l.length=n:=h.2.1
theorem Sl.cap (h:Sl f k w B A n c l):n≤c:=h.1
theorem Sl.rd (h:Sl f k w B A n c l):Rd w B k A n (Ub f l):=h.2.2
theorem Sl.nil:Sl f k w B none 0 0 []:=⟨Le _,rfl,by simp [Ub],fun h=>absurd h (by omega)⟩
theorem Sl.keep (h:Sl f k w B A n c l) (hk:∀ p:Addr,p.block<B→w'.cell? p=w.cell? p):Sl f k w' B A n c l:=⟨h.1,h.2.1,h.2.2.keep hk⟩
theorem Sl.more (h:Sl f k w B A n c l) (hB:B≤B'):Sl f k w B' A n c l:=⟨h.1,h.2.1,h.2.2.more hB⟩
theorem Sl.below (h:Sl f k w B A n c l) (hb:Below B w w'):Sl f k w' B A n c l:=⟨h.1,h.2.1,h.2.2.below hb⟩
theorem Sl.after (h:Sl f k w B A n c l) (hb:Below B w w') (hB:B≤B'):Sl f k w' B' A n c l:=(h.below hb).more hB
theorem Sl.drew (h:Sl f k w B A n c l):Sl f k w.drew B A n c l:=h
theorem Sl.drewN (h:Sl f k w B A n c l) (m:Nat):Sl f k (w.drewN m) B A n c l:=h
theorem Sl.alloc (h:Sl f k w B A n c l) (hB:B≤w.heap.size) (o:Obj):Sl f k (w.alloc o) B A n c l:=⟨h.1,h.2.1,h.2.2.alloc hB o⟩
theorem Sl.grown (h:Sl f k w B A n c l) {row:Option Nat} (hg:w.grownBy w' row) (hB:B≤w.heap.size) (hr:∀ g,row=some g→B≤g):Sl f k w' B A n c l:=⟨h.1,h.2.1,h.2.2.grown hg hB hr⟩
theorem Sl.cell (hk:∀ x,(f x).length=k) (h:Sl f k w B A n c l) {i:Nat} (hi:i<n):
  ∃ b o x,A=some ⟨b,o,none⟩∧b<B∧l[i]? =some x∧∀ j u,(f x)[j]? =some u→w.cell? ⟨b,o+i*k+j,none⟩=some u:=by
 obtain ⟨b,o,e,hb,hc⟩:=h.2.2.2 (by omega);have hl:i<l.length:=by have:=h.2.1;omega
 refine ⟨b,o,l[i],e,hb,List.getElem?_eq_getElem hl,fun j u hu=>?_⟩;have hj:j<k:=by have:=(List.getElem?_eq_some_iff.1 hu).1;rwa [hk] at this
 rw [Nat.add_assoc];exact hc _ u (by rw [Xn hk l i _ (List.getElem?_eq_getElem hl) j hj];exact hu)
theorem Sl.of_own {base:Nat} {e:TypeId} (hk:∀ x,(f x).length=k) (jV:0<k) (h:w.ownsRow base e k (.slice A n c) n (Ub f l)):Sl f k w w.heap.size A n c l:=by
 have h1:(Ub f l).length=n*k:=h.1;rw [Vi hk] at h1;refine ⟨?_,Nat.eq_of_mul_eq_mul_right jV h1,Rd.of_own h⟩;obtain ⟨A',c',e,h2,_⟩:=Ue h;injection e with _ _ e
 subst e;exact h2
theorem Sl.new (hk:∀ x,(f x).length=k) (w:Wd) (t:TypeId) (l:List α):Sl f k (w.alloc (.cells (Ub f l).toArray t)) (w.heap.size+1) (some ⟨w.heap.size,0,none⟩) l.length l.length l:=
 ⟨Le _,rfl,Vw w _ t _ _ (Vi hk l)⟩
end
end
section
open Go.RowKit
structure Chg where
 kind:Int
 id:Int
 key:Bz
 rcd:Bz
 vol:Bz
structure Rdd where
 kind:Int
 id:Int
 key:Bz
 ak:Bz
 ar:Bz
 code:Int
structure Com where
 unit:Int
 num:Int
 rA:Option Addr
 rn:Nat
 rc:Nat
 cA:Option Addr
 cn:Nat
 cc:Nat
 rs:List Rdd
 cs:List Chg
def chC (c:Chg):List Value:=[.int .i64 c.kind,.int .i64 c.id,.string c.key,.string c.rcd,.string c.vol]
def rdC (r:Rdd):List Value:=[.int .i64 r.kind,.int .i64 r.id,.string r.key,.string r.ak,.string r.ar,.int .i64 r.code]
def U7 (x:Com):List Value:=[.int .i64 x.unit,.int .i64 x.num,.slice x.rA x.rn x.rc,.slice x.cA x.cn x.cc]
def comV (x:Com):Value:=.agg #[.int .i64 x.unit,.int .i64 x.num,.slice x.rA x.rn x.rc,.slice x.cA x.cn x.cc]
theorem chC_len (c:Chg):(chC c).length=5:=rfl
theorem rdC_len (r:Rdd):(rdC r).length=6:=rfl
theorem V2 (x:Com):(U7 x).length=4:=rfl
theorem comC_one (l:List Com):∀ u∈Ub U7 l,u.oneCell'=true:=by
 intro u hu;obtain ⟨c,_,h⟩:=List.mem_flatMap.1 hu;simp [U7] at h;rcases h with rfl|rfl|rfl|rfl<;>rfl
def ComOk (w:Wd) (B:Nat) (x:Com):Prop:=Sl rdC 6 w B x.rA x.rn x.rc x.rs∧Sl chC 5 w B x.cA x.cn x.cc x.cs∧x.rn≤maxLen∧x.cn≤maxLen
def Cs (w:Wd) (B:Nat) (A:Option Addr) (n c:Nat) (l:List Com):Prop:=Sl U7 4 w B A n c l∧∀ x∈l,ComOk w B x
theorem ComOk.after {w w':Wd} {B B':Nat} {x:Com} (h:ComOk w B x) (hb:Below B w w') (hB:B≤B'):ComOk w' B' x:=⟨h.1.after hb hB,h.2.1.after hb hB,h.2.2⟩
theorem Cs.after {w w':Wd} {B B' n c:Nat} {A:Option Addr} {l:List Com} (h:Cs w B A n c l) (hb:Below B w w') (hB:B≤B'):Cs w' B' A n c l:=⟨h.1.after hb hB,fun x hx=>(h.2 x hx).after hb hB⟩
def I2 (a b:Com):Bool:=decide (a.num<b.num) || (decide (a.num=b.num)&&(decide (a.cn=0)&&decide (0<b.cn)))
section
variable {α:Type} (lt:α→α→Bool)
def Es (x:α):List α→List α
 | []=>[x]
 |p::r=>if lt x p then p::Es x r else x::p::r
def Et (x:α) (l:List α):List α:=(Es lt x l.reverse).reverse
def Xu:List α→List α→List α
 |acc,[]=>acc
 |acc,x::l=>Xu (Et lt x acc) l
variable {lt}
theorem Kv {x:α}:∀ (s p:List α),(∀ y∈s,lt x y=true)→(∀ y,p.head? =some y→lt x y=false)→Es lt x (s++p)=s++x::p
 | [],[],_,_=>rfl
 | [],y::p,_,h=>by
  show (if lt x y then _ else _)=_;rw [h y rfl];rfl
 |y::s,p,h1,h2=>by
  show (if lt x y then _ else _)=_;rw [h1 y List.mem_cons_self,if_pos rfl];show y::Es lt x (s++p)=_;rw [Kv s p (fun z hz=>h1 z (List.mem_cons_of_mem _ hz)) h2];rfl
theorem insB_split {x:α} {p s:List α} (h1:∀ y∈s,lt x y=true) (h2:∀ y,p.getLast? =some y→lt x y=false):Et lt x (p++s)=p++x::s:=by
 unfold Et;rw [List.reverse_append,Kv s.reverse p.reverse (fun y hy=>h1 y (by simpa using hy)) (fun y hy=>h2 y (by simpa [List.head?_reverse] using hy))];simp
theorem insRev_len {x:α}:∀ l:List α,(Es lt x l).length=l.length+1
 | []=>rfl
 |p::r=>by
  show (if lt x p then _ else _:List α).length=_;split
  ·simp [insRev_len r]
  ·simp
theorem insB_len {x:α} (l:List α):(Et lt x l).length=l.length+1:=by simp [Et,insRev_len]
theorem mem_insRev {x y:α}:∀ l:List α,y∈Es lt x l↔y=x∨y∈l
 | []=>by simp [Es]
 |p::r=>by
  show y∈(if lt x p then _ else _:List α)↔_;split
  ·rw [List.mem_cons,mem_insRev r,List.mem_cons];constructor
   ·rintro (h|h|h)
    ·exact .inr (.inl h)
    ·exact .inl h
    ·exact .inr (.inr h)
   ·rintro (h|h|h)
    ·exact .inr (.inl h)
    ·exact .inl h
    ·exact .inr (.inr h)
  ·simp
theorem mem_insB {x y:α} (l:List α):y∈Et lt x l↔y=x∨y∈l:=by simp [Et,mem_insRev]
theorem Zz:∀ (l acc:List α),(Xu lt acc l).length=acc.length+l.length
 | [],_=>rfl
 |x::l,acc=>by
  show (Xu lt (Et lt x acc) l).length=_;rw [Zz l,insB_len,List.length_cons];omega
theorem J8 {y:α}:∀ (l acc:List α),y∈Xu lt acc l↔y∈acc∨y∈l
 | [],_=>by simp [Xu]
 |x::l,acc=>by
  show y∈Xu lt (Et lt x acc) l↔_;rw [J8 l,mem_insB,List.mem_cons];constructor
  ·rintro ((h|h)|h)
   ·exact .inr (.inl h)
   ·exact .inl h
   ·exact .inr (.inr h)
  ·rintro (h|h|h)
   ·exact .inl (.inr h)
   ·exact .inl (.inl h)
   ·exact .inr h
end
end
section
open Go.RowKit
structure DSet where
 id:Int
 org:Int
 fmt:Int
 len:Int
 blk:Int
 kat:Int
 kln:Int
 itv:Int
 area:Int
 fi:Int
 fa:Int
 base:Int
 aat:Int
 aln:Int
 uniq:Bool
 cls:Int
 vol:Bz
 own:Bz
 cre:Int
 exp:Int
 arch:Bool
def dC (d:DSet):List Value:=[.int .i64 d.id,.int .i64 d.org,.int .i64 d.fmt,.int .i64 d.len,.int .i64 d.blk,.int .i64 d.kat,.int .i64 d.kln,.int .i64 d.itv,.int .i64 d.area,.int .i64 d.fi,.int .i64 d.fa,.int .i64 d.base,.int .i64 d.aat,.int .i64 d.aln,.bool d.uniq,.int .i64 d.cls,.string d.vol,.string d.own,.int .i64 d.cre,.int .i64 d.exp,.bool d.arch]
theorem dC_len (d:DSet):(dC d).length=21:=rfl
theorem Zg (d:DSet):(dC d).toArray.all (·.oneCell')=true:=by simp [dC,Value.oneCell']
structure Pr where
 key:Bz
 rcd:Bz
def prC (p:Pr):List Value:=[.string p.key,.string p.rcd]
theorem Hc (p:Pr):(prC p).length=2:=rfl
theorem prC_one (l:List Pr):∀ u∈Ub prC l,u.oneCell'=true:=by
 intro u hu;obtain ⟨c,_,h⟩:=List.mem_flatMap.1 hu;simp [prC] at h;rcases h with rfl|rfl<;>rfl
structure Cnt where
 d:DSet
 ap:Int
 pA:Option Addr
 pn:Nat
 pc:Nat
 ps:List Pr
def cnC (x:Cnt):List Value:=dC x.d++[.int .i64 x.ap,.slice x.pA x.pn x.pc]
theorem cnC_len (x:Cnt):(cnC x).length=23:=rfl
theorem Vz (x:Cnt):(cnC x).toArray.all (·.oneCell')=true:=by simp [cnC,dC,Value.oneCell']
def CntOk (w:Wd) (B:Nat) (x:Cnt):Prop:=Sl prC 2 w B x.pA x.pn x.pc x.ps∧x.pn≤maxLen
theorem CntOk.after {w w':Wd} {B B':Nat} {x:Cnt} (h:CntOk w B x) (hb:Below B w w') (hB:B≤B'):CntOk w' B' x:=⟨h.1.after hb hB,h.2⟩
def Xx (n lo hi:Int):Bool:=decide (lo≤n)&&decide (n≤hi)
theorem winB_true {n lo hi:Int}:Xx n lo hi=true↔lo≤n∧n≤hi:=by simp [Xx]
def zerB (l:List Int):Bool:=l.all fun n=>decide (n=0)
def E1 (n:Int):Bool:=decide (n=128) || decide (n=256) || decide (n=512)
def Ec (itv org len fmt blk:Int):Bool:=E1 itv&&Xx org 1 3&&Xx len 1 (min 200 (itv-7))&&zerB [fmt,blk]
def Ea (d:DSet):Bool:=
 Ec d.itv d.org d.len d.fmt d.blk &&
  (if d.org=3 then decide (d.len≤d.itv / 2-8)&&Xx d.kat 0 d.len&&Xx d.kln 1 (d.itv / 16)&&decide (d.kat+d.kln≤d.len)&&Xx d.area 2 8&&Xx d.fi 0 90&&Xx d.fa 0 (d.area-1)
   else zerB [d.kat,d.kln,d.area,d.fi,d.fa])
end
theorem Yh {a b:Bz} (h:a.data.toList=b.data.toList):a=b:=by
 apply ByteArray.ext;exact Array.toList_inj.1 h
theorem ba_len (a:Bz):a.data.toList.length=a.size:=by rw [Array.length_toList];rfl
theorem ba_app (a b:Bz):(a++b).data.toList=a.data.toList++b.data.toList:=by simp
theorem Uv (d:Bz):d.toList=d.data.toList:=ByteArray.toList_eq d
theorem ba_get (t:Bz) (i:Nat) (h:i<t.size):t.data.toList[i]? =some t[i]:=by
 rw [List.getElem?_eq_getElem (by rw [ba_len];exact h)];rfl
theorem Ja {d:Bz} (h:d.size≠0):d.toList.isEmpty=false∧¬ d.toList = []:=by
 have:¬ d.toList = []:=by
  intro e;have:=ba_len d;rw [←Uv,e] at this;simp at this;omega
 exact ⟨by simpa using this,this⟩
theorem nil_app (x:Bz):(⟨#[]⟩:Bz)++x=x:=by apply Yh;rw [ba_app];rfl
theorem Is (d:Bz):d.extract 0 d.size=d:=by simp
theorem ba_inj {a b:Bz} (h:a.toList=b.toList):a=b:=Yh (by rw [←Uv,←Uv];exact h)
theorem beq_ba (a b:Bz):(a.toList == b.toList)=decide (a=b):=by
 by_cases h:a=b
 ·subst h;simp
 ·rw [decide_eq_false h];simp;exact fun e=>h (ba_inj e)
theorem ba_empty {d:Bz} (h:d.size=0):d=⟨#[]⟩:=by
 apply Yh;apply List.eq_nil_of_length_eq_zero;rw [ba_len];exact h
def U8 (a b:Bz):Bool:=Op.bytesLess a.toList b.toList
theorem u8_tri (a b:UInt8):(a<b∧¬ b<a∧a≠b)∨(a=b∧¬ a<b∧¬ b<a)∨(b<a∧¬ a<b∧a≠b):=by
 rcases Nat.lt_trichotomy a.toNat b.toNat with h|h|h
 ·exact .inl ⟨UInt8.lt_iff_toNat_lt.2 h,fun k=>by have:=UInt8.lt_iff_toNat_lt.1 k;omega,fun e=>by subst e;omega⟩
 ·exact .inr (.inl ⟨UInt8.toNat_inj.1 h,fun k=>by have:=UInt8.lt_iff_toNat_lt.1 k;omega,fun k=>by have:=UInt8.lt_iff_toNat_lt.1 k;omega⟩)
 ·exact .inr (.inr ⟨UInt8.lt_iff_toNat_lt.2 h,fun k=>by have:=UInt8.lt_iff_toNat_lt.1 k;omega,fun e=>by subst e;omega⟩)
theorem bl_total:∀ x y:List UInt8,Op.bytesLess y x = !(Op.bytesLess x y || x == y)
 | [],[]=>rfl
 | [],_::_=>by simp [Op.bytesLess]
 |_::_,[]=>by simp [Op.bytesLess]
 |a::x,b::y=>by
  have ih:=bl_total x y;rcases u8_tri a b with ⟨h1,h2,h3⟩|⟨rfl,h1,h2⟩|⟨h1,h2,h3⟩
  ·simp [Op.bytesLess,h1,h2,Ne.symm h3]
  ·simp [Op.bytesLess,h1,ih]
  ·simp [Op.bytesLess,h1,h2,h3]
theorem bl_trans:∀ x y z:List UInt8,Op.bytesLess x y=true→Op.bytesLess y z=true→Op.bytesLess x z=true
 |_,_,[],_,h=>by simp [Op.bytesLess] at h
 | [],_,_::_,_,_=>by simp [Op.bytesLess]
 |_::_,[],_::_,h,_=>by simp [Op.bytesLess] at h
 |a::x,b::y,c::z,h,k=>by
  simp only [Op.bytesLess,Bool.or_eq_true,decide_eq_true_eq,Bool.and_eq_true,beq_iff_eq] at h k ⊢;rcases h with h|⟨rfl,h⟩
  ·rcases k with k|⟨rfl,k⟩
   ·left;have:=UInt8.lt_iff_toNat_lt.1 h;have:=UInt8.lt_iff_toNat_lt.1 k;exact UInt8.lt_iff_toNat_lt.2 (by omega)
   ·exact .inl h
  ·rcases k with k|⟨rfl,k⟩
   ·exact .inl k
   ·exact .inr ⟨rfl,bl_trans x y z h k⟩
theorem Zd (a b:Bz):U8 b a = !(U8 a b || decide (a=b)):=by
 unfold U8;rw [bl_total,beq_ba]
theorem Zc {a b c:Bz} (h:U8 a b=true) (k:U8 b c=true):U8 a c=true:=bl_trans _ _ _ h k
theorem V6 (a:Bz):U8 a a=false:=by have:=Zd a a;cases h:U8 a a<;>simp_all
theorem leq_is (a b:Bz):(Op.bytesLess a.toList b.toList || a.toList == b.toList) = !U8 b a:=by
 rw [Zd];unfold U8;rw [beq_ba];simp
section
open Go.RowKit
def Blk (w:Wd) (g:Nat) (t:TypeId) (cs:Array Value):Prop:=w.heap[g]? =some (.cells cs t (0,0))
section
variable {w w':Wd} {g:Nat} {t:TypeId} {cs:Array Value}
theorem Blk.lt (h:Blk w g t cs):g<w.heap.size:=by
 rcases Nat.lt_or_ge g w.heap.size with aG|hge
 ·exact aG
 ·unfold Blk at h;rw [Array.getElem?_eq_none hge] at h;cases h
theorem Blk.cell (h:Blk w g t cs) (i:Nat):w.cell? ⟨g,i,none⟩=cs[i]?:=cell_of_row w g i cs t (0,0) h
theorem Blk.free (h:Blk w g t cs) (i:Nat):w.frozen? ⟨g,i,none⟩=false:=by
 unfold Blk at h;simp [World.frozen?,h]
theorem Blk.new (w:Wd) (t:TypeId) (cs:Array Value):Blk (w.alloc (.cells cs t)) w.heap.size t cs:=heap_alloc_new w _
theorem Blk.drew (h:Blk w g t cs):Blk w.drew g t cs:=h
theorem Blk.drewN (h:Blk w g t cs) (n:Nat):Blk (w.drewN n) g t cs:=h
theorem Blk.alloc (h:Blk w g t cs) (o:Obj):Blk (w.alloc o) g t cs:=(Below.heap_alloc w o g h.lt).trans h
theorem Blk.set (h:Blk w g t cs) (i:Nat) (u:Value):Blk (w.setCell ⟨g,i,none⟩ u) g t (cs.setIfInBounds i u):=by
 unfold Blk at h ⊢;simp [World.setCell,Array.getElem?_modify,h]
theorem Blk.far (h:Blk w g t cs) {p:Addr} (hp:g≠p.block) (u:Value):Blk (w.setCell p u) g t cs:=(Below.heap_setCell w p u g hp).trans h
theorem Blk.below {B:Nat} (h:Blk w g t cs) (hb:Below B w w') (hg:g<B):Blk w' g t cs:=(hb.block g hg).trans h
theorem Blk.grown {row:Option Nat} (h:Blk w g t cs) (hb:w.grownBy w' row) (hg:some g≠row):Blk w' g t cs:=(hb.block g h.lt hg).trans h
theorem Blk.ne {g':Nat} {t':TypeId} {cs':Array Value} (h:Blk w g t cs) (h':Blk w g' t' cs') (aZ:t≠t'):g≠g':=by
 rintro rfl;unfold Blk at h h';rw [h] at h';injection h' with h'
 injection h' with _ ht
 exact aZ ht
theorem Hf {base:Nat} {e:TypeId} {size n:Nat} {v:Value} {xs:List Value} (h:w.ownsRow base e size v n xs) (hg:Blk w g t cs) (aZ:e≠t):v.ownBlock≠some g:=by
 rcases h.2 with ⟨rfl,_⟩|⟨g',cap,cur,rfl,_,hh,_⟩
 ·simp [Value.ownBlock]
 ·intro he;have:g'=g:=by simpa [Value.ownBlock] using he
  subst this;exact Blk.ne (t:=e) hh hg aZ rfl
theorem own_set {base:Nat} {e:TypeId} {size n:Nat} {v:Value} {xs:List Value} (h:w.ownsRow base e size v n xs) (hg:Blk w g t cs) (aZ:e≠t) (i:Nat) (u:Value):(w.setCell ⟨g,i,none⟩ u).ownsRow base e size v n xs:=
 h.kept (row:=some g) ⟨rfl,rfl,rfl,by simp [World.setCell],fun k _ hk=>Below.heap_setCell w _ u k (by intro e;exact hk (by rw [e]))⟩ (.inr (Hf h hg aZ))
end
end
section
open Go.RowKit
theorem add_is (b o j:Nat):(⟨b,o,none⟩:Addr).add j=⟨b,o+j,none⟩:=by unfold Addr.add;split<;>simp_all
section
variable {P:Program} (w:Wd)
theorem run_app_none (base:Nat) (t ty e:TypeId) (i:TypeInfo) (size:Nat) (ht:P.underlying t=some (.slice e)) (hi:P.info? e=some i)
  (v:Value) (n:Nat) (xs:List Value) (aD:w.ownsRow base e size v n xs) (c:Nat):(Builtin.append_ #[t,t] ty #[v,.slice none 0 c]).run P w = .ok v w:=by
 rcases aD.2 with ⟨rfl,rfl⟩|⟨g,cap,cur,rfl,_,_,i6,_⟩
 ·simp [Builtin.append_,run_underlying ht,sizeOf,typeInfo,hi,Builtin.lenOf,Builtin.firstCells]
 ·simp [Builtin.append_,run_underlying ht,sizeOf,typeInfo,hi,Builtin.lenOf,Builtin.firstCells,i6,storeCells]
theorem run_app (base:Nat) (t ty e:TypeId) (i:TypeInfo) (z:Value) (size bytes:Nat) (ht:P.underlying t=some (.slice e)) (hi:P.info? e=some i) (hz:i.zero=some z)
  (dW:i.size=size) (hby:i.bytes=bytes) (hzs:z.cells.size=size) (aN:0<size)
  (v:Value) (n:Nat) (xs:List Value) (aD:w.ownsRow base e size v n xs)
  (B:Nat) (A:Option Addr) (m c:Nat) (news:List Value) (hr:Rd w B size A m news) (h1:∀ u∈news,u.oneCell'=true)
  (h63:n+m≤maxLen) (hbytes:(n+m)*bytes≤140737488355328) (cR:base≤w.heap.size):
  ∃ v' w',(Builtin.append_ #[t,t] ty #[v,.slice A m c]).run P w = .ok v' w'∧w'.ownsRow base e size v' (n+m) (xs++news)∧w.grownBy w' v.ownBlock ∧
   (v'.ownBlock=v.ownBlock∨v'.ownBlock=some w.heap.size):=by
 rcases A with _|ad
 ·have hm:m=0:=by
   rcases Nat.eq_zero_or_pos m with h0|h0
   ·exact h0
   ·obtain ⟨b,o,h,_⟩:=hr.2 h0;cases h
  subst hm;have hn:news = []:=List.eq_nil_of_length_eq_zero (by simpa using hr.1);subst hn;exact ⟨v,w,run_app_none w base t ty e i size ht hi v n xs aD c,by simpa using aD,World.grownBy.refl w _,.inl rfl⟩
 ·have fZ:∀ j u,news[j]? =some u→w.cell? (ad.add j)=some u:=by
   intro j u hu;rcases Nat.eq_zero_or_pos m with h0|h0
   ·subst h0;have hn:news = []:=List.eq_nil_of_length_eq_zero (by simpa using hr.1);subst hn;simp at hu
   ·obtain ⟨b,o,h,_,hc⟩:=hr.2 h0;injection h with h
    subst h;rw [add_is];exact hc j u hu
  obtain ⟨v',w',bM,h2,h3,_,h5⟩:=run_append_own_at (P:=P) w base t ty e i z size bytes ht hi hz dW hby hzs aN v n xs aD ad m c news hr.1 fZ h1 h63 hbytes cR;exact ⟨v',w',bM,h2,h3,h5⟩
theorem wp_app {o:Oper} {a:Act} {K:Act→Wd→Prop} {Q:Exit→Act→Wd→Prop} (s x:Operand) (t:TypeId)
  (ho:o.op = .call { callee:=.builtin .append,args:=#[s,x],argTypes:=#[t,t] })
  (base:Nat) (e:TypeId) (i:TypeInfo) (z:Value) (size bytes:Nat) (ht:P.underlying t=some (.slice e)) (hi:P.info? e=some i) (hz:i.zero=some z)
  (dW:i.size=size) (hby:i.bytes=bytes) (hzs:z.cells.size=size) (aN:0<size)
  (v:Value) (n:Nat) (xs:List Value) (hs:a.eval s=v) (aD:w.ownsRow base e size v n xs)
  (B:Nat) (A:Option Addr) (m c:Nat) (news:List Value) (hx:a.eval x = .slice A m c) (hr:Rd w B size A m news) (h1:∀ u∈news,u.oneCell'=true)
  (h63:n+m≤maxLen) (hbytes:(n+m)*bytes≤140737488355328) (cR:base≤w.heap.size)
  (h:∀ v' w',w'.ownsRow base e size v' (n+m) (xs++news)→w.grownBy w' v.ownBlock→(v'.ownBlock=v.ownBlock∨v'.ownBlock=some w.heap.size)→K (a.put o.dst v') w'):o.wp P a w K Q:=by
 obtain ⟨v',w',bM,h2,h3,h4⟩:=run_app (P:=P) w base t o.type e i z size bytes ht hi hz dW hby hzs aN v n xs aD B A m c news hr h1 h63 hbytes cR;unfold Oper.wp execOp;simp only [ho,resolve,invoke,builtin,Sem.run_bind,Sem.run_pure,Result.andThen_ok,List.map_toArray,List.map_cons,List.map_nil,hs,hx,bM];exact h v' w' h2 h3 h4
theorem U5 {ops:Array Oper} {rest:List Oper} {o:Oper} {a:Act} {Q:Exit→Act→Wd→Prop} (hgd:o.guard=none) (s x:Operand) (t:TypeId)
  (ho:o.op = .call { callee:=.builtin .append,args:=#[s,x],argTypes:=#[t,t] })
  (base:Nat) (e:TypeId) (i:TypeInfo) (z:Value) (size bytes:Nat) (ht:P.underlying t=some (.slice e)) (hi:P.info? e=some i) (hz:i.zero=some z)
  (dW:i.size=size) (hby:i.bytes=bytes) (hzs:z.cells.size=size) (aN:0<size)
  (v:Value) (n:Nat) (xs:List Value) (hs:a.eval s=v) (aD:w.ownsRow base e size v n xs)
  (B:Nat) (A:Option Addr) (m c:Nat) (news:List Value) (hx:a.eval x = .slice A m c) (hr:Rd w B size A m news) (h1:∀ u∈news,u.oneCell'=true)
  (h63:n+m≤maxLen) (hbytes:(n+m)*bytes≤140737488355328) (cR:base≤w.heap.size)
  (h:∀ v' w',w'.ownsRow base e size v' (n+m) (xs++news)→w.grownBy w' v.ownBlock→(v'.ownBlock=v.ownBlock∨v'.ownBlock=some w.heap.size)→wpList P ops Q rest (a.put o.dst v') w'):wpList P ops Q (o::rest) a w:=
 wpList_plain hgd fun _ hK=>wp_app w s x t ho base e i z size bytes ht hi hz dW hby hzs aN v n xs hs aD B A m c news hx hr h1 h63 hbytes cR fun v' w' h2 h3 h4=>hK _ _ (h v' w' h2 h3 h4)
end
end
section
open Go.RowKit
def Yr (n:Int):Bool:=decide (1≤n)&&decide (n≤1099511627776)
theorem Fs {n:Int} (h:Yr n=true):1≤n∧n≤1099511627776:=by simpa [Yr] using h
theorem K7 (n:Int) (w:Wd):Calls prog 56 #[.int .i64 n] w fun e w'=>e = .returned (.bool (Yr n))∧w=w':=by
 by_cases h1:1≤n
 ·by_cases h2:n≤1099511627776
  ·go_enter Tryz.func56,Tryz.ntmps56;go_wp2;go_ret;exact ⟨by simp [Yr,h1,h2],rfl⟩
  ·go_enter Tryz.func56,Tryz.ntmps56;go_wp2;go_ret;exact ⟨by simp [Yr,h1,h2],rfl⟩
 ·go_enter Tryz.func56,Tryz.ntmps56;go_wp2;go_ret;exact ⟨by simp [Yr];omega,rfl⟩
theorem last_any (x:Com) (w:Wd) (h1:1≤x.num) (h2:x.num≤1099511627776) (h3:x.cn≤300):
  Calls prog 40 #[comV x] w fun e w'=>e = .returned (.int .i64 (x.num+x.cn-1))∧Below w.heap.size w w':=by
 unfold comV;go_enter Tryz.func40,Tryz.ntmps40;go_wp2;go_ret;exact ⟨rfl,(Bf _ _).alloc (Le _) _⟩
theorem Ky (lo hi:Int) (s:Bz) (w:Wd):
  Calls prog 77 #[.agg #[.int .i64 lo,.int .i64 hi],.string s] w fun e w'=>e = .returned (.bool (decide (lo≤(s.size:Int))&&decide ((s.size:Int)≤hi)))∧Below w.heap.size w w':=by
 by_cases h1:lo≤(s.size:Int)
 ·by_cases h2:(s.size:Int)≤hi
  all_goals
   go_enter Tryz.func77,Tryz.ntmps77;go_wp2;go_ret;exact ⟨by simp [h1,h2],(Bf _ _).alloc (Le _) _⟩
 ·go_enter Tryz.func77,Tryz.ntmps77;go_wp2;go_ret;exact ⟨by simp;omega,(Bf _ _).alloc (Le _) _⟩
def bAt (s:Bz) (i:Nat):Nat:=if h:i<s.size then (s[i]).toNat else 0
theorem Zq (s:Bz) (i:Nat) (h:i<s.size):bAt s i=(s[i]).toNat:=by simp [bAt,h]
def vokB (i b:Nat):Bool:=(decide (65≤b)&&decide (b≤90)) || (decide (48≤b)&&decide (b≤57)&&decide (i≠0))
def volB (s:Bz):Bool:=decide (1≤s.size)&&decide (s.size≤8)&&(List.range s.size).all fun i=>vokB i (bAt s i)
theorem I6 {p:Nat→Bool} {n j:Nat} (hj:j<n) (h:p j=false):(List.range n).all p=false:=by
 rw [List.all_eq_false];exact ⟨j,List.mem_range.2 hj,by simp [h]⟩
theorem Ie {p:Nat→Bool} {n:Nat} (h:∀ j,j<n→p j=true):(List.range n).all p=true:=by
 rw [List.all_eq_true];exact fun j hj=>h j (List.mem_range.1 hj)
theorem conv_bytes (W:Wd) (t:Bz):∃ c W',(convert 9 175 (.string t)).run prog W = .ok (.slice (some ⟨W.heap.size,0,none⟩) t.size c) W' ∧
  (∀ j (h:j<t.size),W'.cell? ⟨W.heap.size,j,none⟩=some (.int .u8 ((t[j]).toNat:Int)))∧W.grownBy W' none:=by
 refine ⟨_,_,run_bytes_of_string (P:=prog) W 9 175 5 t Tryz.underlying9 Tryz.underlying175 Tryz.underlying5,fun j h=>?_,?_⟩
 ·rw [show W.heap.size=W.drew.heap.size from rfl,World.cell?_alloc_mark];exact bytesRow_at t _ j h
 ·exact ⟨rfl,rfl,rfl,by simp,fun i hi _=>Below.heap_alloc W.drew _ i hi⟩
theorem Ib (s:Bz) (w:Wd) (hs:s.size≤maxLen):Calls prog 78 #[.string s] w fun e w'=>e = .returned (.bool (volB s))∧Below w.heap.size w w':=by
 unfold maxLen at hs;obtain ⟨c,W',bM,fZ,aO⟩:=conv_bytes w s;have HC:=Hd fZ;have HG:=Hd aO;clear fZ aO;obtain ⟨R,hR⟩:∃ R,volB s=R:=⟨_,rfl⟩
 rw [hR];have HR:=Hd hR;clear hR;go_enter Tryz.func78,Tryz.ntmps78;go_wp2;clear bM;go_loop [10] (fun i => ∃ j:Nat,j≤s.size∧i = .int .i64 j∧∀ t,t<j→vokB t (bAt s t)=true) (fun i=>s.size-(intOf i).toNat)
 case atStart=>exact ⟨0,Z0 _,rfl,fun t h=>absurd h (by omega)⟩
 case round=>
  obtain ⟨j,hj,rfl,hall⟩:=hrel;have HA:=Hd hall;clear hall;by_cases aG:j<s.size
  ·have hc:=HC.out j aG;obtain ⟨b,hb⟩:∃ b,(s[j]).toNat=b:=⟨_,rfl⟩
   have eL:bAt s j=b:=by rw [Zq s j aG,hb]
   have bZ:=Hd eL;have b7:=(s[j]).toNat_lt;rw [hb] at b7 hc;clear hb eL;have hno:vokB j b=false→R=false:=fun h=>by rw [←HR.out];unfold volB;rw [I6 aG (by rw [bZ.out];exact h)];simp
   have HNO:=Hd hno
   have hyes:vokB j b=true→∀ t,t<j+1→vokB t (bAt s t)=true:=fun h t ht=>by
    by_cases e:t=j
    ·subst e;rw [bZ.out];exact h
    ·exact HA.out t (by omega)
   have HYES:=Hd hyes;clear hno hyes;obtain ⟨z,hz⟩:∃ z:Int,(b:Int)=z:=⟨_,rfl⟩
   rw [hz] at hc;have HZ:=Hd hz;clear hz;by_cases l1:65≤z∧z≤90
   ·obtain ⟨l1,l2⟩:=l1;go_wp2
    go_round
    case rel=>exact ⟨j+1,by omega,by go_num,HYES.out (by have:=HZ.out;simp [vokB];omega)⟩
    case measure=>simp [intOf];omega
   ·by_cases d1:48≤z∧z≤57
    ·obtain ⟨d1,d2⟩:=d1;clear l1;have l1:z<65:=by omega
     by_cases hz:j=0
     ·subst hz;go_wp2;go_ret;exact ⟨by rw [HNO.out (by have:=HZ.out;simp [vokB];omega)];rfl,(Bf w.heap.size w).grown HG.out (Le _) (by rintro k ⟨⟩)⟩
     ·have hz':((j:Int) == 0)=false:=by simp;omega
      go_wp2
      go_round
      case rel=>exact ⟨j+1,by omega,by go_num,HYES.out (by have:=HZ.out;simp [vokB];omega)⟩
      case measure=>simp [intOf];omega
    ·have hf:R=false:=HNO.out (by have:=HZ.out;simp [vokB];omega);have HF:=Hd hf;clear hf;by_cases k1:65≤z
     ·have k2:90<z:=by omega
      have k3:57<z:=by omega
      have k4:48≤z:=by omega
      have k5:decide (z≤90)=false:=by simp;omega
      have k6:decide (z≤57)=false:=by simp;omega
      clear l1 d1;go_wp2;go_ret;exact ⟨by rw [HF.out];rfl,(Bf w.heap.size w).grown HG.out (Le _) (by rintro k ⟨⟩)⟩
     ·have k1':z<65:=by omega
      by_cases k2:48≤z
      ·have k3:57<z:=by omega
       have k6:decide (z≤57)=false:=by simp;omega
       clear l1 d1 k1;go_wp2;go_ret;exact ⟨by rw [HF.out];rfl,(Bf w.heap.size w).grown HG.out (Le _) (by rintro k ⟨⟩)⟩
      ·have k3:z<48:=by omega
       clear l1 d1 k1 k2;go_wp2;go_ret;exact ⟨by rw [HF.out];rfl,(Bf w.heap.size w).grown HG.out (Le _) (by rintro k ⟨⟩)⟩
  ·obtain rfl:j=s.size:=by omega
   have hr:R=(decide (1≤s.size)&&decide (s.size≤8)):=by rw [←HR.out];unfold volB;rw [Ie HA.out];simp
   have aT:=Hd hr;clear hr;by_cases h1:1≤s.size
   ·by_cases h2:s.size≤8
    all_goals
     go_wp2;go_ret;exact ⟨by rw [aT.out];simp [h1,h2];omega,(Bf w.heap.size w).grown HG.out (Le _) (by rintro k ⟨⟩)⟩
   ·go_wp2;go_ret;exact ⟨by rw [aT.out];simp;omega,(Bf w.heap.size w).grown HG.out (Le _) (by rintro k ⟨⟩)⟩
end
section
open Go.RowKit
theorem Uy {α:Type} {p:α→Bool} {l:List α} {x:α} {j:Nat} (hall:∀ t,t<j→∀ e,l[t]? =some e→p e=false) (hg:l[j]? =some x) (h:p x=true):l.findIdx p=j:=by
 have hj:j<l.length:=(List.getElem?_eq_some_iff.1 hg).1;rw [List.findIdx_eq hj];have iT:l[j]=x:=(List.getElem?_eq_some_iff.1 hg).2;refine ⟨by rw [iT];exact h,fun t ht=>?_⟩;exact hall t ht _ (List.getElem?_eq_getElem (by omega))
theorem Uu {α:Type} {p:α→Bool} {l:List α} {n:Nat} (hl:l.length=n) (hall:∀ t,t<n→∀ e,l[t]? =some e→p e=false):l.findIdx p=n:=by
 rw [←hl,List.findIdx_eq_length];intro e he;obtain ⟨t,ht,rfl⟩:=List.getElem_of_mem he;exact hall t (by omega) _ (List.getElem?_eq_getElem ht)
theorem Vg {α:Type} (p:α→Bool) (l:List α):l.any p=decide (l.findIdx p<l.length):=by
 rw [Bool.eq_iff_iff];simp [List.findIdx_lt_length]
theorem units_index  (p:Com→Bool) (A:Option Addr) (n c:Nat) (l:List Com) (w:Wd) (hs:Sl U7 4 w w.heap.size A n c l) (hn:n≤9223372036854775807)
  (hC:∀ x∈l,∀ W:Wd,Below w.heap.size w W→Calls prog 33 #[.agg #[.int .i64 x.unit,.int .i64 x.num,.slice x.rA x.rn x.rc,.slice x.cA x.cn x.cc]] W fun e w'=>e = .returned (.bool (p x))∧Below W.heap.size W w'):
  Calls prog 55 #[.slice A n c,.func (.func 33) #[] #[]] w fun e w'=>e = .returned (.int .i64 (if l.findIdx p<n then (l.findIdx p:Int) else -1))∧Below w.heap.size w w':=by
 have HS:=Hd hs;have HL:=Hd hs.len;have HC:=Hd hC;clear hs hC;obtain ⟨R,hR⟩:∃ R:Int,(if l.findIdx p<n then (l.findIdx p:Int) else -1)=R:=⟨_,rfl⟩
 rw [hR];have HR:=Hd hR;clear hR;go_enter Tryz.func55,Tryz.ntmps55;go_wp2;go_loopw [8] (fun i wr => ∃ j:Nat,j≤n∧i = .int .i64 j∧(∀ t,t<j→∀ e,l[t]? =some e→p e=false)∧Below w.heap.size w wr) (fun i _=>n-(intOf i).toNat)
 case atStart=>exact ⟨0,Z0 _,rfl,fun t h=>absurd h (by omega),Bf _ _⟩
 case round=>
  obtain ⟨j,hj,rfl,hall,aE⟩:=hrel;have HA:=Hd hall;have aN:=aE.size;clear hall;by_cases aG:j<n
  ·obtain ⟨b,o,x,rfl,hb,hg,aB⟩:=Sl.cell (f:=U7) (k:=4) (fun _=>rfl) (HS.out.below aE) aG;have c0:=aB 0 _ rfl;have c1:=aB 1 _ rfl;have c2:=aB 2 _ rfl;have c3:=aB 3 _ rfl;simp only [Nat.add_zero] at c0;have bN:=Hd (HC.out x (List.mem_of_getElem? hg) wr aE);have HG:=Hd hg;clear hg aB;cases hl:p x with
   |true=>
    have hr:R=(j:Int):=by rw [←HR.out,Uy HA.out HG.out hl,if_pos aG]
    have aT:=Hd hr;have bD:=Hd hl;clear hr hl;go_wp2_with fail;refine bN.out.mono ?_;rintro e w1 ⟨rfl,aJ⟩;rw [bD.out];have aF:=U0 aE aJ aN;clear aJ;go_wp2;go_ret;exact ⟨by rw [aT.out];rfl,aF⟩
   |false=>
    have bD:=Hd hl;clear hl;go_wp2_with fail;refine bN.out.mono ?_;rintro e w1 ⟨rfl,aJ⟩;rw [bD.out];have aF:=U0 aE aJ aN;clear aJ;go_wp2;go_roundw
    case rel=>
     refine ⟨j+1,by omega,by go_num,fun t ht e he=>?_,aF⟩;by_cases h:t=j
     ·subst h;rw [HG.out] at he;injection he with he;subst he;exact bD.out
     ·exact HA.out t (by omega) e he
    case measure=>simp [intOf];omega
  ·have hr:R = -1:=by rw [←HR.out,Uu HL.out (fun t ht=>HA.out t (by omega)),if_neg (by omega)]
   have aT:=Hd hr;clear hr;go_wp2;go_ret;exact ⟨by rw [aT.out];rfl,aE⟩
theorem units_any  (p:Com→Bool) (A:Option Addr) (n c:Nat) (l:List Com) (w:Wd) (hs:Sl U7 4 w w.heap.size A n c l) (hn:n≤9223372036854775807)
  (hC:∀ x∈l,∀ W:Wd,Below w.heap.size w W→Calls prog 33 #[.agg #[.int .i64 x.unit,.int .i64 x.num,.slice x.rA x.rn x.rc,.slice x.cA x.cn x.cc]] W fun e w'=>e = .returned (.bool (p x))∧Below W.heap.size W w'):
  Calls prog 32 #[.slice A n c,.func (.func 33) #[] #[]] w fun e w'=>e = .returned (.bool (l.any p))∧Below w.heap.size w w':=by
 have H:=Hd (units_index p A n c l w hs hn hC);have ha:=Vg p l;rw [hs.len] at ha;have HA:=Hd ha;clear hs hC ha;generalize l.findIdx p=q at H HA;go_enter Tryz.func32,Tryz.ntmps32;by_cases hq:q<n
 ·rw [if_pos hq] at H;go_wp2_with (go_at_call 55;refine H.out.mono ?_;rintro e w1 ⟨rfl,hb⟩);go_ret;exact ⟨by rw [HA.out];simp [hq],hb⟩
 ·rw [if_neg hq] at H;go_wp2_with (go_at_call 55;refine H.out.mono ?_;rintro e w1 ⟨rfl,hb⟩);go_ret;exact ⟨by rw [HA.out];simp [hq],hb⟩
theorem chgs_index  (p:Chg→Bool) (A:Option Addr) (n c:Nat) (l:List Chg) (w:Wd) (hs:Sl chC 5 w w.heap.size A n c l) (hn:n≤9223372036854775807)
  (hC:∀ x∈l,∀ W:Wd,Below w.heap.size w W→Calls prog 58 #[.agg #[.int .i64 x.kind,.int .i64 x.id,.string x.key,.string x.rcd,.string x.vol]] W fun e w'=>e = .returned (.bool (p x))∧Below W.heap.size W w'):
  Calls prog 75 #[.slice A n c,.func (.func 58) #[] #[]] w fun e w'=>e = .returned (.int .i64 (if l.findIdx p<n then (l.findIdx p:Int) else -1))∧Below w.heap.size w w':=by
 have HS:=Hd hs;have HL:=Hd hs.len;have HC:=Hd hC;clear hs hC;obtain ⟨R,hR⟩:∃ R:Int,(if l.findIdx p<n then (l.findIdx p:Int) else -1)=R:=⟨_,rfl⟩
 rw [hR];have HR:=Hd hR;clear hR;go_enter Tryz.func75,Tryz.ntmps75;go_wp2;go_loopw [8] (fun i wr => ∃ j:Nat,j≤n∧i = .int .i64 j∧(∀ t,t<j→∀ e,l[t]? =some e→p e=false)∧Below w.heap.size w wr) (fun i _=>n-(intOf i).toNat)
 case atStart=>exact ⟨0,Z0 _,rfl,fun t h=>absurd h (by omega),Bf _ _⟩
 case round=>
  obtain ⟨j,hj,rfl,hall,aE⟩:=hrel;have HA:=Hd hall;have aN:=aE.size;clear hall;by_cases aG:j<n
  ·obtain ⟨b,o,x,rfl,hb,hg,aB⟩:=Sl.cell (f:=chC) (k:=5) (fun _=>rfl) (HS.out.below aE) aG;have c0:=aB 0 _ rfl;have c1:=aB 1 _ rfl;have c2:=aB 2 _ rfl;have c3:=aB 3 _ rfl;have c4:=aB 4 _ rfl;simp only [Nat.add_zero] at c0;have bN:=Hd (HC.out x (List.mem_of_getElem? hg) wr aE);have HG:=Hd hg;clear hg aB;cases hl:p x with
   |true=>
    have hr:R=(j:Int):=by rw [←HR.out,Uy HA.out HG.out hl,if_pos aG]
    have aT:=Hd hr;have bD:=Hd hl;clear hr hl;go_wp2_with fail;refine bN.out.mono ?_;rintro e w1 ⟨rfl,aJ⟩;rw [bD.out];have aF:=U0 aE aJ aN;clear aJ;go_wp2;go_ret;exact ⟨by rw [aT.out];rfl,aF⟩
   |false=>
    have bD:=Hd hl;clear hl;go_wp2_with fail;refine bN.out.mono ?_;rintro e w1 ⟨rfl,aJ⟩;rw [bD.out];have aF:=U0 aE aJ aN;clear aJ;go_wp2;go_roundw
    case rel=>
     refine ⟨j+1,by omega,by go_num,fun t ht e he=>?_,aF⟩;by_cases h:t=j
     ·subst h;rw [HG.out] at he;injection he with he;subst he;exact bD.out
     ·exact HA.out t (by omega) e he
    case measure=>simp [intOf];omega
  ·have hr:R = -1:=by rw [←HR.out,Uu HL.out (fun t ht=>HA.out t (by omega)),if_neg (by omega)]
   have aT:=Hd hr;clear hr;go_wp2;go_ret;exact ⟨by rw [aT.out];rfl,aE⟩
theorem chgs_any  (p:Chg→Bool) (A:Option Addr) (n c:Nat) (l:List Chg) (w:Wd) (hs:Sl chC 5 w w.heap.size A n c l) (hn:n≤9223372036854775807)
  (hC:∀ x∈l,∀ W:Wd,Below w.heap.size w W→Calls prog 58 #[.agg #[.int .i64 x.kind,.int .i64 x.id,.string x.key,.string x.rcd,.string x.vol]] W fun e w'=>e = .returned (.bool (p x))∧Below W.heap.size W w'):
  Calls prog 57 #[.slice A n c,.func (.func 58) #[] #[]] w fun e w'=>e = .returned (.bool (l.any p))∧Below w.heap.size w w':=by
 have H:=Hd (chgs_index p A n c l w hs hn hC);have ha:=Vg p l;rw [hs.len] at ha;have HA:=Hd ha;clear hs hC ha;generalize l.findIdx p=q at H HA;go_enter Tryz.func57,Tryz.ntmps57;by_cases hq:q<n
 ·rw [if_pos hq] at H;go_wp2_with (go_at_call 75;refine H.out.mono ?_;rintro e w1 ⟨rfl,hb⟩);go_ret;exact ⟨by rw [HA.out];simp [hq],hb⟩
 ·rw [if_neg hq] at H;go_wp2_with (go_at_call 75;refine H.out.mono ?_;rintro e w1 ⟨rfl,hb⟩);go_ret;exact ⟨by rw [HA.out];simp [hq],hb⟩
theorem rdds_index  (p:Rdd→Bool) (A:Option Addr) (n c:Nat) (l:List Rdd) (w:Wd) (hs:Sl rdC 6 w w.heap.size A n c l) (hn:n≤9223372036854775807)
  (hC:∀ x∈l,∀ W:Wd,Below w.heap.size w W→Calls prog 61 #[.agg #[.int .i64 x.kind,.int .i64 x.id,.string x.key,.string x.ak,.string x.ar,.int .i64 x.code]] W fun e w'=>e = .returned (.bool (p x))∧Below W.heap.size W w'):
  Calls prog 26 #[.slice A n c,.func (.func 61) #[] #[]] w fun e w'=>e = .returned (.int .i64 (if l.findIdx p<n then (l.findIdx p:Int) else -1))∧Below w.heap.size w w':=by
 have HS:=Hd hs;have HL:=Hd hs.len;have HC:=Hd hC;clear hs hC;obtain ⟨R,hR⟩:∃ R:Int,(if l.findIdx p<n then (l.findIdx p:Int) else -1)=R:=⟨_,rfl⟩
 rw [hR];have HR:=Hd hR;clear hR;go_enter Tryz.func26,Tryz.ntmps26;go_wp2;go_loopw [8] (fun i wr => ∃ j:Nat,j≤n∧i = .int .i64 j∧(∀ t,t<j→∀ e,l[t]? =some e→p e=false)∧Below w.heap.size w wr) (fun i _=>n-(intOf i).toNat)
 case atStart=>exact ⟨0,Z0 _,rfl,fun t h=>absurd h (by omega),Bf _ _⟩
 case round=>
  obtain ⟨j,hj,rfl,hall,aE⟩:=hrel;have HA:=Hd hall;have aN:=aE.size;clear hall;by_cases aG:j<n
  ·obtain ⟨b,o,x,rfl,hb,hg,aB⟩:=Sl.cell (f:=rdC) (k:=6) (fun _=>rfl) (HS.out.below aE) aG;have c0:=aB 0 _ rfl;have c1:=aB 1 _ rfl;have c2:=aB 2 _ rfl;have c3:=aB 3 _ rfl;have c4:=aB 4 _ rfl;have c5:=aB 5 _ rfl;simp only [Nat.add_zero] at c0;have bN:=Hd (HC.out x (List.mem_of_getElem? hg) wr aE);have HG:=Hd hg;clear hg aB;cases hl:p x with
   |true=>
    have hr:R=(j:Int):=by rw [←HR.out,Uy HA.out HG.out hl,if_pos aG]
    have aT:=Hd hr;have bD:=Hd hl;clear hr hl;go_wp2_with fail;refine bN.out.mono ?_;rintro e w1 ⟨rfl,aJ⟩;rw [bD.out];have aF:=U0 aE aJ aN;clear aJ;go_wp2;go_ret;exact ⟨by rw [aT.out];rfl,aF⟩
   |false=>
    have bD:=Hd hl;clear hl;go_wp2_with fail;refine bN.out.mono ?_;rintro e w1 ⟨rfl,aJ⟩;rw [bD.out];have aF:=U0 aE aJ aN;clear aJ;go_wp2;go_roundw
    case rel=>
     refine ⟨j+1,by omega,by go_num,fun t ht e he=>?_,aF⟩;by_cases h:t=j
     ·subst h;rw [HG.out] at he;injection he with he;subst he;exact bD.out
     ·exact HA.out t (by omega) e he
    case measure=>simp [intOf];omega
  ·have hr:R = -1:=by rw [←HR.out,Uu HL.out (fun t ht=>HA.out t (by omega)),if_neg (by omega)]
   have aT:=Hd hr;clear hr;go_wp2;go_ret;exact ⟨by rw [aT.out];rfl,aE⟩
theorem rdds_any  (p:Rdd→Bool) (A:Option Addr) (n c:Nat) (l:List Rdd) (w:Wd) (hs:Sl rdC 6 w w.heap.size A n c l) (hn:n≤9223372036854775807)
  (hC:∀ x∈l,∀ W:Wd,Below w.heap.size w W→Calls prog 61 #[.agg #[.int .i64 x.kind,.int .i64 x.id,.string x.key,.string x.ak,.string x.ar,.int .i64 x.code]] W fun e w'=>e = .returned (.bool (p x))∧Below W.heap.size W w'):
  Calls prog 60 #[.slice A n c,.func (.func 61) #[] #[]] w fun e w'=>e = .returned (.bool (l.any p))∧Below w.heap.size w w':=by
 have H:=Hd (rdds_index p A n c l w hs hn hC);have ha:=Vg p l;rw [hs.len] at ha;have HA:=Hd ha;clear hs hC ha;generalize l.findIdx p=q at H HA;go_enter Tryz.func60,Tryz.ntmps60;by_cases hq:q<n
 ·rw [if_pos hq] at H;go_wp2_with (go_at_call 26;refine H.out.mono ?_;rintro e w1 ⟨rfl,hb⟩);go_ret;exact ⟨by rw [HA.out];simp [hq],hb⟩
 ·rw [if_neg hq] at H;go_wp2_with (go_at_call 26;refine H.out.mono ?_;rintro e w1 ⟨rfl,hb⟩);go_ret;exact ⟨by rw [HA.out];simp [hq],hb⟩
end
theorem U3 (w:Wd) (t:TypeId) (cs:Array Value) (b:Nat) (h:b=w.heap.size):Blk (w.alloc (.cells cs t)) b t cs:=by subst h;exact Blk.new w t cs
section
open Go.RowKit
theorem pairs_index (g:Nat) (p:Pr→Bool) (A:Option Addr) (n c:Nat) (l:List Pr) (w:Wd) (hs:Sl prC 2 w w.heap.size A n c l) (hn:n≤9223372036854775807)
  (hC:∀ x∈l,∀ W:Wd,Below w.heap.size w W→Calls prog 219 #[.agg #[.string x.key,.string x.rcd],.pointer (some ⟨g,0,none⟩)] W fun e w'=>e = .returned (.bool (p x))∧Below W.heap.size W w'):
  Calls prog 138 #[.slice A n c,.func (.func 219) #[] #[.pointer (some ⟨g,0,none⟩)]] w fun e w'=>e = .returned (.int .i64 (if l.findIdx p<n then (l.findIdx p:Int) else -1))∧Below w.heap.size w w':=by
 have HS:=Hd hs;have HL:=Hd hs.len;have HC:=Hd hC;clear hs hC;obtain ⟨R,hR⟩:∃ R:Int,(if l.findIdx p<n then (l.findIdx p:Int) else -1)=R:=⟨_,rfl⟩
 rw [hR];have HR:=Hd hR;clear hR;go_enter Tryz.func138,Tryz.ntmps138;go_wp2;go_loopw [8] (fun i wr => ∃ j:Nat,j≤n∧i = .int .i64 j∧(∀ t,t<j→∀ e,l[t]? =some e→p e=false)∧Below w.heap.size w wr) (fun i _=>n-(intOf i).toNat)
 case atStart=>exact ⟨0,Z0 _,rfl,fun t h=>absurd h (by omega),Bf _ _⟩
 case round=>
  obtain ⟨j,hj,rfl,hall,aE⟩:=hrel;have HA:=Hd hall;have aN:=aE.size;clear hall;by_cases aG:j<n
  ·obtain ⟨b,o,x,rfl,hb,hg,aB⟩:=Sl.cell (f:=prC) (k:=2) (fun _=>rfl) (HS.out.below aE) aG;have c0:=aB 0 _ rfl;have c1:=aB 1 _ rfl;simp only [Nat.add_zero] at c0;have bN:=Hd (HC.out x (List.mem_of_getElem? hg) wr aE);have HG:=Hd hg;clear hg aB;cases hl:p x with
   |true=>
    have hr:R=(j:Int):=by rw [←HR.out,Uy HA.out HG.out hl,if_pos aG]
    have aT:=Hd hr;have bD:=Hd hl;clear hr hl;go_wp2_with fail;refine bN.out.mono ?_;rintro e w1 ⟨rfl,aJ⟩;rw [bD.out];have aF:=U0 aE aJ aN;clear aJ;go_wp2;go_ret;exact ⟨by rw [aT.out];rfl,aF⟩
   |false=>
    have bD:=Hd hl;clear hl;go_wp2_with fail;refine bN.out.mono ?_;rintro e w1 ⟨rfl,aJ⟩;rw [bD.out];have aF:=U0 aE aJ aN;clear aJ;go_wp2;go_roundw
    case rel=>
     refine ⟨j+1,by omega,by go_num,fun t ht e he=>?_,aF⟩;by_cases h:t=j
     ·subst h;rw [HG.out] at he;injection he with he;subst he;exact bD.out
     ·exact HA.out t (by omega) e he
    case measure=>simp [intOf];omega
  ·have hr:R = -1:=by rw [←HR.out,Uu HL.out (fun t ht=>HA.out t (by omega)),if_neg (by omega)]
   have aT:=Hd hr;clear hr;go_wp2;go_ret;exact ⟨by rw [aT.out];rfl,aE⟩
theorem Jh {w:Wd} {b i:Nat} {v:Value} (h:w.cell? ⟨b,i,none⟩=some v):b<w.heap.size:=by
 rcases Nat.lt_or_ge b w.heap.size with aG|hge
 ·exact aG
 ·simp [World.cell?,Array.getElem?_eq_none hge] at h
theorem find1_any (k:Bz) (x:Pr) (b:Nat) (w:Wd) (h:w.cell? ⟨b,0,none⟩=some (.string k)):
  Calls prog 219 #[.agg #[.string x.key,.string x.rcd],.pointer (some ⟨b,0,none⟩)] w fun e w'=>e = .returned (.bool (!U8 x.key k))∧Below w.heap.size w w':=by
 obtain ⟨xk,xr⟩:=x;show Calls prog _ _ w fun e w'=>e = .returned (.bool (!U8 xk k))∧_
 have hb:=Jh h;obtain ⟨R,hR⟩:∃ R,U8 xk k=R:=⟨_,rfl⟩
 have d1:Op.bytesLess xk.toList k.toList=R:=hR;rw [hR];clear hR;cases R
 all_goals
  go_enter Tryz.func219,Tryz.ntmps219;go_wp2;go_ret;exact ⟨rfl,(Bf _ _).alloc (Le _) _⟩
def geK (k:Bz) (p:Pr):Bool := !U8 p.key k
def Y4 (l:List Pr) (k:Bz):Bool:=match l[l.findIdx (geK k)]? with
 |some p=>p.key.toList == k.toList
 |none=>false
theorem hasK_at {l:List Pr} {k:Bz} {x:Pr} (h:l[l.findIdx (geK k)]? =some x):Y4 l k=(x.key.toList == k.toList):=by unfold Y4;rw [h]
theorem hasK_no {l:List Pr} {k:Bz} (h:l[l.findIdx (geK k)]? =none):Y4 l k=false:=by unfold Y4;rw [h]
theorem F1 (k:Bz) (A:Option Addr) (n c:Nat) (l:List Pr) (w:Wd) (hs:Sl prC 2 w w.heap.size A n c l) (hn:n≤maxLen):
  Calls prog 158 #[.slice A n c,.string k] w fun e w'=>e = .returned (.tuple #[.int .i64 (l.findIdx (geK k)),.bool (Y4 l k)])∧Below w.heap.size w w':=by
 unfold maxLen at hn;have bT:Below w.heap.size w (w.alloc (.cells #[.string k] 9)):=(Bf _ _).alloc (Le _) _;have hK:=Blk.new w 9 #[.string k];have bO:l.findIdx (geK k)≤n:=by rw [←hs.len];exact List.findIdx_le_length
 have HI:=Hd (pairs_index w.heap.size (geK k) A n c l (w.alloc (.cells #[.string k] 9)) (hs.after bT bT.size) (by omega)
  fun x _ W hW=>find1_any k x w.heap.size W ((hK.below hW (by simp)).cell 0))
 have eM:=Hd bT;have HK:=Hd hK;obtain ⟨q,hq⟩:∃ q,l.findIdx (geK k)=q:=⟨_,rfl⟩
 by_cases aG:q<n
 ·obtain ⟨b,o,x,rfl,hb,hg,aB⟩:=Sl.cell (f:=prC) (k:=2) (fun _=>rfl) hs aG;have hr:Y4 l k=(x.key.toList == k.toList):=hasK_at (by rw [hq];exact hg);have c0':=aB 0 _ rfl;simp only [Nat.add_zero] at c0';obtain ⟨xk,xr⟩:=x;simp only at c0' hr;obtain ⟨R,hR⟩:∃ R,(xk.toList == k.toList)=R:=⟨_,rfl⟩
  rw [hr,hq,hR];simp only [hq,if_pos aG] at HI;have HCE:=Hd c0';have fD:=Hd hb;clear hs bT hK bO hg aB hr hq c0' hb;go_enter Tryz.func158,Tryz.ntmps158;go_wp2_with (go_at_call 138;refine HI.out.mono ?_;rintro e w2 ⟨rfl,aF⟩;have aL:=Hd (eM.out.trans (aF.mono (by simp)));have c0:=(aL.out.cell (p:=⟨b,o+q*2,none⟩) fD.out).trans HCE.out;have c1:w2.cell? ⟨w.heap.size,0,none⟩=some (.string k):=(HK.out.below aF (by simp)).cell 0;clear aF)
  go_quiet (fail)
  go_wp2
  go_ret2
  exact ⟨rfl,Uf aL.out _⟩
 ·have hqn:q=n:=by omega
  subst hqn;have hr:Y4 l k=false:=hasK_no (by rw [hq,←hs.len];exact List.getElem?_eq_none (Le _));rw [hr,hq];simp only [hq,if_neg aG] at HI;clear hs bT hK bO hr hq;go_enter Tryz.func158,Tryz.ntmps158;go_wp2_with (go_at_call 138;refine HI.out.mono ?_;rintro e w2 ⟨rfl,aF⟩;have aL:=Hd (eM.out.trans (aF.mono (by simp)));clear aF)
  go_ret2
  exact ⟨rfl,aL.out⟩
end
end Go.Proofs.YtoakknkmjnebjaaGreatDoor
