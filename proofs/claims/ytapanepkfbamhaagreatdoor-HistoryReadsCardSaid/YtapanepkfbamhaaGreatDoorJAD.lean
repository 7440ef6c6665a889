/- Part of the proof of HistoryReads. -/
import Derived.Lib.Hide
import Derived.Deep.RegionHeld3
import Derived.Deep.AppendLies
import Derived.Lib.Strings
import Derived.Test.YtapanepkfbamhaaGreatDoorProg
import Derived.WalkSpells
import Derived.WalkLawsBesides
import Derived.BigQuiet
namespace Go.Proofs.YtapanepkfbamhaaGreatDoor
open Tryz (prog)
section
open Go.RowKit
theorem tk {P : Program} {md : Region.Mode} {ops : Array Oper} {Q : Exit → Act → World → Prop} {S : World → Prop} (i : Nat) (v : Value) {oi : Oper} {fuel : Nat} {listed : Array Bool} {a a' : Act} {w : World} (hS : S w)
    (h : wpAnyH P md ops Q S fuel (listed.setIfInBounds i true) a' w)
    (hi : ops[i]? = some oi := by simp only [List.getElem?_toArray, List.getElem?_cons_zero, List.getElem?_cons_succ]; rfl)
    (hs : Region.noSelect ops = true := by kernel_rfl) (hf : Region.free md ops listed i = true := by kernel_rfl) (hr : (Region.ready md ops listed).contains i = true := by kernel_rfl)
    (hQ : ∀ c a w, Q (.panic c) (a.put oi.dst v) w → Q (.panic c) a w := by exact fun _ _ _ h => h)
    (y : YieldsIf P ops S oi v a := by exact Or.inl ⟨by rfl, by intro w' hSw; go_simp⟩)
    (ha : a.put oi.dst v = a' := by conv => lhs; simp only [Act.put, List.setIfInBounds_toArray, List.set_cons_zero, List.set_cons_succ]) : wpAnyH P md ops Q S (fuel + 1) listed a w := by
  subst ha
  exact wpAnyH_take hi hs hf hr hQ y hS h
theorem tku {P : Program} {md : Region.Mode} {ops : Array Oper} {Q : Exit → Act → World → Prop} {S : World → Prop} (i : Nat) {oi : Oper} {fuel : Nat} {listed : Array Bool} {a a' : Act} {w : World} (hS : S w)
    (h : wpAnyH P md ops Q S fuel (listed.setIfInBounds i true) a' w)
    (hi : ops[i]? = some oi := by simp only [List.getElem?_toArray, List.getElem?_cons_zero, List.getElem?_cons_succ]; rfl)
    (hs : Region.noSelect ops = true := by kernel_rfl) (hf : Region.free md ops listed i = true := by kernel_rfl) (hr : (Region.ready md ops listed).contains i = true := by kernel_rfl)
    (hQ : ∀ c a w, Q (.panic c) (a.put oi.dst undef) w → Q (.panic c) a w := by exact fun _ _ _ h => h)
    (y : YieldsIf P ops S oi undef a := by exact Or.inr ⟨by rfl, rfl⟩)
    (ha : a.put oi.dst undef = a' := by conv => lhs; simp only [Act.put, List.setIfInBounds_toArray, List.set_cons_zero, List.set_cons_succ]) : wpAnyH P md ops Q S (fuel + 1) listed a w := by
  subst ha
  exact wpAnyH_take hi hs hf hr hQ y hS h
theorem Rc {P : Program} {md : Region.Mode} {ops : Array Oper} {Q : Exit → Act → World → Prop} {S : World → Prop} {fuel : Nat} {listed : Array Bool} {a : Act} {w : World} {i : Nat} {o : Oper} {rs : List Nat}
    (h : ∀ K' : Act → World → Prop, Shut (∀ a w, S w → (S w → wpAnyH P md ops Q S fuel (listed.setIfInBounds i true) a w) → K' a w) → if Region.wanted o (yielded ops a.tmps) = true then Oper.wp P o a w K' Q else K' (a.put o.dst undef) w)
    (hs : AllReadyH P md ops Q S fuel listed a w rs)
    (ho : ops[i]? = some o := by simp only [List.getElem?_toArray, List.getElem?_cons_zero, List.getElem?_cons_succ]; rfl) : AllReadyH P md ops Q S fuel listed a w (i :: rs) := AllReadyH.cons ho h hs
section
variable {P : Program} {ops : Array Oper} {Q : Exit → Act → World → Prop} {r : List Oper} {a : Act} {w : World}
theorem Gl {x c d e f} (n m : Nat) (h : wpList P ops Q (⟨x, .load n (.tmp m), c, d, e, f⟩ :: r) a w) : wpList P ops Q (⟨x, .load n (.tmp m), c, d, e, f⟩ :: r) a w := h
theorem Gt {x c d e f v} (n m : Nat) (h : wpList P ops Q (⟨x, .store n (.tmp m) v, c, d, e, f⟩ :: r) a w) : wpList P ops Q (⟨x, .store n (.tmp m) v, c, d, e, f⟩ :: r) a w := h
theorem Gb {x c d e f v} (n : Nat) (h : wpList P ops Q (⟨x, .build n v, c, d, e, f⟩ :: r) a w) : wpList P ops Q (⟨x, .build n v, c, d, e, f⟩ :: r) a w := h
theorem Gc {x c d e f v u} (n : Nat) (h : wpList P ops Q (⟨x, .buildSlice n v u, c, d, e, f⟩ :: r) a w) : wpList P ops Q (⟨x, .buildSlice n v u, c, d, e, f⟩ :: r) a w := h
end
theorem Wk {o : Oper} {ops : Array Oper} {a' a : Act} {P : Program} {Q : Exit → Act → World → Prop} {rest : List Oper} {w : World} (h : wpList P ops Q rest a' w) (hw : Region.wanted o (yielded ops a.tmps) = false := by kernel_rfl)
    (ha : a.put o.dst undef = a' := by conv => lhs; simp only [Act.put, List.setIfInBounds_toArray, List.set_cons_zero, List.set_cons_succ]) : wpList P ops Q (o :: rest) a w := by
  subst ha
  exact wpList_skip hw h
theorem Hd {p : Prop} (h : p) : Hid p := Lib.hid h
theorem Sv {α} {l : List α} {i : Nat} {a : α} : l.toArray.setIfInBounds i a = (l.set i a).toArray := List.setIfInBounds_toArray ..
theorem Sz {α} {a : α} {l : List α} {b : α} : (a :: l).set 0 b = b :: l := rfl
theorem Sw {α} {a : α} {l : List α} {i : Nat} {b : α} : (a :: l).set (i + 1) b = a :: l.set i b := rfl
theorem Ga {α} {xs : List α} {i : Nat} : xs.toArray[i]? = xs[i]? := List.getElem?_toArray ..
theorem Gz {α} {a : α} {l : List α} : (a :: l)[0]? = some a := rfl
theorem Gn {α} {a : α} {l : List α} {i : Nat} : (a :: l)[i + 1]? = l[i]? := rfl
abbrev Le := @Nat.le_refl
abbrev Bf := @Below.refl
abbrev Lr := @wpList_load_row
abbrev Lt := @wpList_store_row
abbrev Lm := @wpList_load_mid
abbrev Br := @bodyPost_ret
abbrev Ar := @wpAnyH_ready
abbrev An := @AllReadyH.nil
abbrev Rs := @rounds_succ
abbrev Lx := @Nat.le_trans
abbrev Rw := @wp_region_held_drew
abbrev Z0 := @Nat.zero_le
abbrev Ad := @wpAnyH_done
abbrev Lu := @wp_loop_rounds
end
section
open Go.RowKit Go.WideShapes Go.ChangeShapes
theorem Ud {B:Nat} {a w:World} (h:Below B a w) (n:Nat):Below B a (w.drewN n):=⟨h.os,h.tape,h.output,h.size,h.block⟩
theorem U0 {B:Nat} {a w w':World} (h:Below B a w) (k:Below w.heap.size w w') (hB:B≤w.heap.size):Below B a w':=h.trans (k.mono hB)
def Rd (w:World) (B size:Nat) (A:Option Addr) (n:Nat) (xs:List Value):Prop:=
 xs.length=n*size∧(0<n→∃ b o,A=some ⟨b,o,none⟩∧b<B∧∀ j u,xs[j]? =some u→w.cell? ⟨b,o+j,none⟩=some u)
section
variable {w w':World} {B B' size n:Nat} {A:Option Addr} {xs:List Value}
theorem Rd.keep (h:Rd w B size A n xs) (hk:∀ p:Addr,p.block<B→w'.cell? p=w.cell? p):Rd w' B size A n xs:=
 ⟨h.1,fun hn=>by
  obtain ⟨b,o,e,hb,hc⟩:=h.2 hn;exact ⟨b,o,e,hb,fun j u hu=>(hk _ hb).trans (hc j u hu)⟩⟩
theorem Rd.more (h:Rd w B size A n xs) (hB:B≤B'):Rd w B' size A n xs:=
 ⟨h.1,fun hn=>by
  obtain ⟨b,o,e,hb,hc⟩:=h.2 hn;exact ⟨b,o,e,by omega,hc⟩⟩
theorem Rd.below (h:Rd w B size A n xs) (hb:Below B w w'):Rd w' B size A n xs:=h.keep fun _ hp=>hb.cell hp
theorem Rd.alloc (h:Rd w B size A n xs) (hB:B≤w.heap.size) (o:Obj):Rd (w.alloc o) B size A n xs:=h.keep fun p hp=>World.cell?_alloc_lt w o p (by omega)
theorem Rd.drop (h:Rd w B size A n xs) {k cap:Nat} (hk:k≤n) (hc:n≤cap):
  Rd w B size (if cap=k then A else A.map (·.add (k*size))) (n-k) (xs.drop (k*size)):=by
 refine ⟨by rw [List.length_drop,h.1,Nat.sub_mul],fun hn=>?_⟩;obtain ⟨b,o,rfl,hb,hcell⟩:=h.2 (by omega);rw [if_neg (by omega)];refine ⟨b,o+k*size,by simp [Addr.add],hb,fun j u hu=>?_⟩;rw [Nat.add_assoc];exact hcell _ u (by rw [←hu,List.getElem?_drop])
theorem Rd.of_own {base:Nat} {e:TypeId} {c:Nat} (h:w.ownsRow base e size (.slice A n c) n xs):Rd w w.heap.size size A n xs:=by
 refine ⟨h.1,fun hn=>?_⟩;rcases h.2 with ⟨hv,h0⟩|⟨g,cap,cur,hv,hb,hg,hnc,hm,hs,ht⟩
 ·omega
 ·injection hv with hA _ _
  subst hA;have hlt:g<w.heap.size:=(h.lt g rfl).2;refine ⟨g,0,rfl,hlt,fun j u hu=>?_⟩;have:=h.cells (g:=g) rfl j u hu
  rwa [show ((⟨g,0,none⟩:Addr).add j)=⟨g,0+j,none⟩ from by unfold Addr.add;split<;>simp_all] at this
theorem Ub {base:Nat} {e:TypeId} {v:Value} (h:w.ownsRow base e size v n xs):∃ A c,v = .slice A n c∧n≤c∧c≤maxLen:=by
 rcases h.2 with ⟨hv,h0⟩|⟨g,cap,cur,hv,hb,hg,hnc,hm,hs,ht⟩
 ·exact ⟨none,0,by rw [hv,h0],by omega,by omega⟩
 ·exact ⟨_,cap,hv,hnc,hm⟩
theorem Vv {base:Nat} {e:TypeId} {v:Value} (h:w.ownsRow base e size v n xs) {B:Nat} (hB:B≤base):∀ g,v.ownBlock=some g→B≤g:=
 fun g hg=>Lx hB (h.lt g hg).1
end
theorem Zg {w:World} {base:Nat} {e:TypeId} {size n:Nat} {v:Value} {xs:List Value} (h:w.ownsRow base e size v n xs) (hn:0<n):
  ∃ g cap,v = .slice (some ⟨g,0,none⟩) n cap∧base≤g∧g<w.heap.size∧n≤cap:=by
 rcases h.2 with ⟨hv,h0⟩|⟨g,cap,cur,hv,hb,hg,hnc,hm,hs,ht⟩
 ·omega
 ·subst hv
  exact ⟨g,cap,rfl,hb,(h.lt g rfl).2,hnc⟩
theorem Ui {w w':World} {base:Nat} {e:TypeId} {size n:Nat} {v:Value} {xs:List Value} (h:w.ownsRow base e size v n xs) (hb:Below w.heap.size w w'):w'.ownsRow base e size v n xs:=
 h.kept (row:=none) ⟨hb.os,hb.tape,hb.output,hb.size,fun i hi _=>hb.block i hi⟩ (by cases v.ownBlock<;>simp)
theorem Vc (s:ByteArray):∀ u∈[Value.string s],u.oneCell'=true:=by
 intro u hu;simp at hu;subst hu;rfl
theorem Zc {w wr:World} {cs:Array Value} {t:TypeId} (h:Below (w.heap.size+1) (w.alloc (.cells cs t)) wr) (i:Nat):wr.cell? ⟨w.heap.size,i,none⟩=cs[i]?:=
 (h.cell (p:=⟨w.heap.size,i,none⟩) (Nat.lt_succ_self _)).trans (World.cell?_alloc_at _ _ _ _ rfl)
theorem Uc {w wr:World} {cs:Array Value} {t:TypeId} (h:Below (w.heap.size+1) (w.alloc (.cells cs t)) wr):Below w.heap.size w wr:=
 ((Bf w.heap.size w).alloc (Le _) _).trans (h.mono (Nat.le_succ _))
theorem Vf {w wr:World} {cs:Array Value} {t:TypeId} (h:Below (w.heap.size+1) (w.alloc (.cells cs t)) wr):w.heap.size+1≤wr.heap.size:=by
 have:=h.size;simpa using this
theorem Vq (w:World) (cs:Array Value) (t:TypeId):Below (w.heap.size+1) (w.alloc (.cells cs t)) (w.alloc (.cells cs t)):=Bf _ _
theorem Va (w:World) (cs:List Value) (t:TypeId) (n size:Nat) (h:cs.length=n*size):Rd (w.alloc (.cells cs.toArray t)) (w.heap.size+1) size (some ⟨w.heap.size,0,none⟩) n cs:=by
 refine ⟨h,fun _=>⟨w.heap.size,0,rfl,Nat.lt_succ_self _,fun j u hu=>?_⟩⟩;rw [World.cell?_alloc_at _ _ _ _ rfl];simpa using hu
end
section
open Go.RowKit
def Ua {α:Type} (f:α→List Value) (l:List α):List Value:=l.flatMap f
section
variable {α:Type} {f:α→List Value} {k:Nat}
theorem Vs (x:α) (l:List α):Ua f (x::l)=f x++Ua f l:=by simp [Ua]
theorem Uy (a b:List α):Ua f (a++b)=Ua f a++Ua f b:=by simp [Ua]
theorem Uv (x:α):Ua f [x]=f x:=by simp [Ua]
theorem Vm (hk:∀ x,(f x).length=k):∀ l:List α,(Ua f l).length=l.length*k
 | []=>by simp [Ua]
 |x::l=>by rw [Vs,List.length_append,hk,Vm hk l,List.length_cons,Nat.succ_mul];omega
theorem Xx (hk:∀ x,(f x).length=k):∀ (l:List α) (i:Nat) (x:α),l[i]? =some x→∀ j,j<k→(Ua f l)[i*k+j]? =(f x)[j]?
 | [],i,x,h,_,_=>by simp at h
 |y::l,0,x,h,j,hj=>by
  simp at h;subst h;rw [Vs,Nat.zero_mul,Nat.zero_add,List.getElem?_append_left (by rw [hk];exact hj)]
 |y::l,i+1,x,h,j,hj=>by
  have h':l[i]? =some x:=by simpa using h
  rw [Vs,List.getElem?_append_right (by rw [hk,Nat.succ_mul];omega),hk];have e:(i+1)*k+j-k=i*k+j:=by rw [Nat.succ_mul];omega
  rw [e];exact Xx hk l i x h' j hj
theorem flat_take (hk:∀ x,(f x).length=k):∀ (l:List α) (i:Nat),(Ua f l).take (i*k)=Ua f (l.take i)
 | [],i=>by simp [Ua]
 |y::l,0=>by simp [Ua]
 |y::l,i+1=>by
  rw [Vs,List.take_succ_cons,Vs,List.take_append,hk];have e:(i+1)*k-k=i*k:=by rw [Nat.succ_mul];omega
  rw [e,flat_take hk l i,List.take_of_length_le (by rw [hk,Nat.succ_mul];omega)]
theorem F1 (hk:∀ x,(f x).length=k):∀ (l:List α) (i:Nat),(Ua f l).drop (i*k)=Ua f (l.drop i)
 | [],i=>by simp [Ua]
 |y::l,0=>by simp [Ua]
 |y::l,i+1=>by
  rw [Vs,List.drop_succ_cons,List.drop_append,hk];have e:(i+1)*k-k=i*k:=by rw [Nat.succ_mul];omega
  rw [e,F1 hk l i,List.drop_of_length_le (by rw [hk,Nat.succ_mul];omega),List.nil_append]
end
def Sl {α:Type} (f:α→List Value) (k:Nat) (w:World) (B:Nat) (A:Option Addr) (n c:Nat) (l:List α):Prop:=n≤c∧l.length=n∧Rd w B k A n (Ua f l)
section
variable {α:Type} {f:α→List Value} {k:Nat} {w w':World} {B B' n c:Nat} {A:Option Addr} {l:List α}
theorem Sl.len (h:Sl f k w B A n c l):l.length=n:=h.2.1
theorem Sl.cap (h:Sl f k w B A n c l):n≤c:=h.1
theorem Sl.rd (h:Sl f k w B A n c l):Rd w B k A n (Ua f l):=h.2.2
theorem Sl.nil:Sl f k w B none 0 0 []:=⟨Le _,rfl,by simp [Ua],fun h=>absurd h (by omega)⟩
theorem Sl.keep (h:Sl f k w B A n c l) (hk:∀ p:Addr,p.block<B→w'.cell? p=w.cell? p):Sl f k w' B A n c l:=⟨h.1,h.2.1,h.2.2.keep hk⟩
theorem Sl.more (h:Sl f k w B A n c l) (hB:B≤B'):Sl f k w B' A n c l:=⟨h.1,h.2.1,h.2.2.more hB⟩
theorem Sl.below (h:Sl f k w B A n c l) (hb:Below B w w'):Sl f k w' B A n c l:=⟨h.1,h.2.1,h.2.2.below hb⟩
theorem Sl.after (h:Sl f k w B A n c l) (hb:Below B w w') (hB:B≤B'):Sl f k w' B' A n c l:=(h.below hb).more hB
theorem Sl.cell (hk:∀ x,(f x).length=k) (h:Sl f k w B A n c l) {i:Nat} (hi:i<n):
  ∃ b o x,A=some ⟨b,o,none⟩∧b<B∧l[i]? =some x∧∀ j u,(f x)[j]? =some u→w.cell? ⟨b,o+i*k+j,none⟩=some u:=by
 obtain ⟨b,o,e,hb,hc⟩:=h.2.2.2 (by omega);have hl:i<l.length:=by have:=h.2.1;omega
 refine ⟨b,o,l[i],e,hb,List.getElem?_eq_getElem hl,fun j u hu=>?_⟩;have hj:j<k:=by have:=(List.getElem?_eq_some_iff.1 hu).1;rwa [hk] at this
 rw [Nat.add_assoc];exact hc _ u (by rw [Xx hk l i _ (List.getElem?_eq_getElem hl) j hj];exact hu)
theorem Sl.of_own {base:Nat} {e:TypeId} (hk:∀ x,(f x).length=k) (hk0:0<k) (h:w.ownsRow base e k (.slice A n c) n (Ua f l)):Sl f k w w.heap.size A n c l:=by
 have h1:(Ua f l).length=n*k:=h.1;rw [Vm hk] at h1;refine ⟨?_,Nat.eq_of_mul_eq_mul_right hk0 h1,Rd.of_own h⟩;obtain ⟨A',c',e,h2,_⟩:=Ub h;injection e with _ _ e
 subst e;exact h2
theorem Sl.new (hk:∀ x,(f x).length=k) (w:World) (t:TypeId) (l:List α):Sl f k (w.alloc (.cells (Ua f l).toArray t)) (w.heap.size+1) (some ⟨w.heap.size,0,none⟩) l.length l.length l:=
 ⟨Le _,rfl,Va w _ t _ _ (Vm hk l)⟩
end
end
section
open Go.RowKit
structure Chg where
 kind:Int
 id:Int
 key:ByteArray
 rcd:ByteArray
 vol:ByteArray
structure Rdd where
 kind:Int
 id:Int
 key:ByteArray
 ak:ByteArray
 ar:ByteArray
 code:Int
structure Com where
 unit:Int
 num:Int
 rA:Option Addr
 rn:Nat
 rc:Nat
 cA:Option Addr
 cn:Nat
 cc:Nat
 rs:List Rdd
 cs:List Chg
def chC (c:Chg):List Value:=[.int .i64 c.kind,.int .i64 c.id,.string c.key,.string c.rcd,.string c.vol]
def rdC (r:Rdd):List Value:=[.int .i64 r.kind,.int .i64 r.id,.string r.key,.string r.ak,.string r.ar,.int .i64 r.code]
def U8 (x:Com):List Value:=[.int .i64 x.unit,.int .i64 x.num,.slice x.rA x.rn x.rc,.slice x.cA x.cn x.cc]
def comV (x:Com):Value:=.agg #[.int .i64 x.unit,.int .i64 x.num,.slice x.rA x.rn x.rc,.slice x.cA x.cn x.cc]
theorem chC_len (c:Chg):(chC c).length=5:=rfl
theorem rdC_len (r:Rdd):(rdC r).length=6:=rfl
theorem Uz (x:Com):(U8 x).length=4:=rfl
theorem comC_one (l:List Com):∀ u∈Ua U8 l,u.oneCell'=true:=by
 intro u hu;obtain ⟨c,_,h⟩:=List.mem_flatMap.1 hu;simp [U8] at h;rcases h with rfl|rfl|rfl|rfl<;>rfl
def ComOk (w:World) (B:Nat) (x:Com):Prop:=Sl rdC 6 w B x.rA x.rn x.rc x.rs∧Sl chC 5 w B x.cA x.cn x.cc x.cs∧x.rn≤maxLen∧x.cn≤maxLen
def Cs (w:World) (B:Nat) (A:Option Addr) (n c:Nat) (l:List Com):Prop:=Sl U8 4 w B A n c l∧∀ x∈l,ComOk w B x
theorem ComOk.after {w w':World} {B B':Nat} {x:Com} (h:ComOk w B x) (hb:Below B w w') (hB:B≤B'):ComOk w' B' x:=⟨h.1.after hb hB,h.2.1.after hb hB,h.2.2⟩
theorem Cs.after {w w':World} {B B' n c:Nat} {A:Option Addr} {l:List Com} (h:Cs w B A n c l) (hb:Below B w w') (hB:B≤B'):Cs w' B' A n c l:=⟨h.1.after hb hB,fun x hx=>(h.2 x hx).after hb hB⟩
def E2 (a b:Com):Bool:=decide (a.num<b.num) || (decide (a.num=b.num)&&(decide (a.cn=0)&&decide (0<b.cn)))
section
variable {α:Type} (lt:α→α→Bool)
def Ea (x:α):List α→List α
 | []=>[x]
 |p::r=>if lt x p then p::Ea x r else x::p::r
def Zj (x:α) (l:List α):List α:=(Ea lt x l.reverse).reverse
def Xa:List α→List α→List α
 |acc,[]=>acc
 |acc,x::l=>Xa (Zj lt x acc) l
variable {lt}
theorem Jw {x:α}:∀ (s p:List α),(∀ y∈s,lt x y=true)→(∀ y,p.head? =some y→lt x y=false)→Ea lt x (s++p)=s++x::p
 | [],[],_,_=>rfl
 | [],y::p,_,h=>by
  show (if lt x y then _ else _)=_;rw [h y rfl];rfl
 |y::s,p,h1,h2=>by
  show (if lt x y then _ else _)=_;rw [h1 y List.mem_cons_self,if_pos rfl];show y::Ea lt x (s++p)=_;rw [Jw s p (fun z hz=>h1 z (List.mem_cons_of_mem _ hz)) h2];rfl
theorem insB_split {x:α} {p s:List α} (h1:∀ y∈s,lt x y=true) (h2:∀ y,p.getLast? =some y→lt x y=false):Zj lt x (p++s)=p++x::s:=by
 unfold Zj;rw [List.reverse_append,Jw s.reverse p.reverse (fun y hy=>h1 y (by simpa using hy)) (fun y hy=>h2 y (by simpa [List.head?_reverse] using hy))];simp
theorem insRev_len {x:α}:∀ l:List α,(Ea lt x l).length=l.length+1
 | []=>rfl
 |p::r=>by
  show (if lt x p then _ else _:List α).length=_;split
  ·simp [insRev_len r]
  ·simp
theorem insB_len {x:α} (l:List α):(Zj lt x l).length=l.length+1:=by simp [Zj,insRev_len]
theorem mem_insRev {x y:α}:∀ l:List α,y∈Ea lt x l↔y=x∨y∈l
 | []=>by simp [Ea]
 |p::r=>by
  show y∈(if lt x p then _ else _:List α)↔_;split
  ·rw [List.mem_cons,mem_insRev r,List.mem_cons]
   constructor
   ·rintro (h|h|h)
    ·exact .inr (.inl h)
    ·exact .inl h
    ·exact .inr (.inr h)
   ·rintro (h|h|h)
    ·exact .inr (.inl h)
    ·exact .inl h
    ·exact .inr (.inr h)
  ·simp
theorem mem_insB {x y:α} (l:List α):y∈Zj lt x l↔y=x∨y∈l:=by simp [Zj,mem_insRev]
theorem sortB_snoc:∀ (l acc:List α) (x:α),Xa lt acc (l++[x])=Zj lt x (Xa lt acc l)
 | [],_,_=>rfl
 |y::l,acc,x=>sortB_snoc l (Zj lt y acc) x
theorem Zo:∀ (l acc:List α),(Xa lt acc l).length=acc.length+l.length
 | [],_=>rfl
 |x::l,acc=>by
  show (Xa lt (Zj lt x acc) l).length=_;rw [Zo l,insB_len,List.length_cons];omega
theorem Il {y:α}:∀ (l acc:List α),y∈Xa lt acc l↔y∈acc∨y∈l
 | [],_=>by simp [Xa]
 |x::l,acc=>by
  show y∈Xa lt (Zj lt x acc) l↔_;rw [Il l,mem_insB,List.mem_cons];constructor
  ·rintro ((h|h)|h)
   ·exact .inr (.inl h)
   ·exact .inl h
   ·exact .inr (.inr h)
  ·rintro (h|h|h)
   ·exact .inl (.inr h)
   ·exact .inl (.inl h)
   ·exact .inr h
end
end
section
open Go.RowKit
structure DSet where
 id:Int
 org:Int
 fmt:Int
 len:Int
 blk:Int
 kat:Int
 kln:Int
 itv:Int
 area:Int
 fi:Int
 fa:Int
 base:Int
 aat:Int
 aln:Int
 uniq:Bool
 cls:Int
 vol:ByteArray
 own:ByteArray
 cre:Int
 exp:Int
 arch:Bool
def dC (d:DSet):List Value:=[.int .i64 d.id,.int .i64 d.org,.int .i64 d.fmt,.int .i64 d.len,.int .i64 d.blk,.int .i64 d.kat,.int .i64 d.kln,.int .i64 d.itv,.int .i64 d.area,.int .i64 d.fi,.int .i64 d.fa,.int .i64 d.base,.int .i64 d.aat,.int .i64 d.aln,.bool d.uniq,.int .i64 d.cls,.string d.vol,.string d.own,.int .i64 d.cre,.int .i64 d.exp,.bool d.arch]
theorem dC_len (d:DSet):(dC d).length=21:=rfl
theorem Z6 (d:DSet):(dC d).toArray.all (·.oneCell')=true:=by simp [dC,Value.oneCell']
structure Pr where
 key:ByteArray
 rcd:ByteArray
def prC (p:Pr):List Value:=[.string p.key,.string p.rcd]
theorem G2 (p:Pr):(prC p).length=2:=rfl
theorem prC_one (l:List Pr):∀ u∈Ua prC l,u.oneCell'=true:=by
 intro u hu;obtain ⟨c,_,h⟩:=List.mem_flatMap.1 hu;simp [prC] at h;rcases h with rfl|rfl<;>rfl
structure Cnt where
 d:DSet
 ap:Int
 pA:Option Addr
 pn:Nat
 pc:Nat
 ps:List Pr
def cnC (x:Cnt):List Value:=dC x.d++[.int .i64 x.ap,.slice x.pA x.pn x.pc]
theorem cnC_len (x:Cnt):(cnC x).length=23:=rfl
theorem Vx (x:Cnt):(cnC x).toArray.all (·.oneCell')=true:=by simp [cnC,dC,Value.oneCell']
def Y3 (n lo hi:Int):Bool:=decide (lo≤n)&&decide (n≤hi)
theorem winB_true {n lo hi:Int}:Y3 n lo hi=true↔lo≤n∧n≤hi:=by simp [Y3]
def zerB (l:List Int):Bool:=l.all fun n=>decide (n=0)
def Ek (n:Int):Bool:=decide (n=128) || decide (n=256) || decide (n=512)
def I2 (itv org len fmt blk:Int):Bool:=Ek itv&&Y3 org 1 3&&Y3 len 1 (min 200 (itv-7))&&zerB [fmt,blk]
def Ep (d:DSet):Bool:=
 I2 d.itv d.org d.len d.fmt d.blk &&
  (if d.org=3 then decide (d.len≤d.itv / 2-8)&&Y3 d.kat 0 d.len&&Y3 d.kln 1 (d.itv / 16)&&decide (d.kat+d.kln≤d.len)&&Y3 d.area 2 8&&Y3 d.fi 0 90&&Y3 d.fa 0 (d.area-1)
   else zerB [d.kat,d.kln,d.area,d.fi,d.fa])
end
section
theorem Yp {a b:ByteArray} (h:a.data.toList=b.data.toList):a=b:=by
 apply ByteArray.ext;exact Array.toList_inj.1 h
theorem ba_len (a:ByteArray):a.data.toList.length=a.size:=by rw [Array.length_toList];rfl
theorem ba_app (a b:ByteArray):(a++b).data.toList=a.data.toList++b.data.toList:=by simp
theorem V2 (d:ByteArray):d.toList=d.data.toList:=ByteArray.toList_eq d
theorem ba_get (t:ByteArray) (i:Nat) (h:i<t.size):t.data.toList[i]? =some t[i]:=by
 rw [List.getElem?_eq_getElem (by rw [ba_len];exact h)];rfl
theorem Im {d:ByteArray} (h:d.size≠0):d.toList.isEmpty=false∧¬ d.toList = []:=by
 have:¬ d.toList = []:=by
  intro e;have:=ba_len d;rw [←V2,e] at this;simp at this;omega
 exact ⟨by simpa using this,this⟩
theorem nil_app (x:ByteArray):(⟨#[]⟩:ByteArray)++x=x:=by apply Yp;rw [ba_app];rfl
theorem I8 (d:ByteArray):d.extract 0 d.size=d:=by simp
theorem ba_inj {a b:ByteArray} (h:a.toList=b.toList):a=b:=Yp (by rw [←V2,←V2];exact h)
theorem beq_ba (a b:ByteArray):(a.toList == b.toList)=decide (a=b):=by
 by_cases h:a=b
 ·subst h;simp
 ·rw [decide_eq_false h];simp;exact fun e=>h (ba_inj e)
theorem ba_empty {d:ByteArray} (h:d.size=0):d=⟨#[]⟩:=by
 apply Yp;apply List.eq_nil_of_length_eq_zero;rw [ba_len];exact h
def Vl (a b:ByteArray):Bool:=Op.bytesLess a.toList b.toList
theorem u8_tri (a b:UInt8):(a<b∧¬ b<a∧a≠b)∨(a=b∧¬ a<b∧¬ b<a)∨(b<a∧¬ a<b∧a≠b):=by
 rcases Nat.lt_trichotomy a.toNat b.toNat with h|h|h
 ·exact .inl ⟨UInt8.lt_iff_toNat_lt.2 h,fun k=>by have:=UInt8.lt_iff_toNat_lt.1 k;omega,fun e=>by subst e;omega⟩
 ·exact .inr (.inl ⟨UInt8.toNat_inj.1 h,fun k=>by have:=UInt8.lt_iff_toNat_lt.1 k;omega,fun k=>by have:=UInt8.lt_iff_toNat_lt.1 k;omega⟩)
 ·exact .inr (.inr ⟨UInt8.lt_iff_toNat_lt.2 h,fun k=>by have:=UInt8.lt_iff_toNat_lt.1 k;omega,fun e=>by subst e;omega⟩)
theorem bl_total:∀ x y:List UInt8,Op.bytesLess y x = !(Op.bytesLess x y || x == y)
 | [],[]=>rfl
 | [],_::_=>by simp [Op.bytesLess]
 |_::_,[]=>by simp [Op.bytesLess]
 |a::x,b::y=>by
  have ih:=bl_total x y;rcases u8_tri a b with ⟨h1,h2,h3⟩|⟨rfl,h1,h2⟩|⟨h1,h2,h3⟩
  ·simp [Op.bytesLess,h1,h2,Ne.symm h3]
  ·simp [Op.bytesLess,h1,ih]
  ·simp [Op.bytesLess,h1,h2,h3]
theorem less_total (a b:ByteArray):Vl b a = !(Vl a b || decide (a=b)):=by
 unfold Vl;rw [bl_total,beq_ba]
theorem leq_is (a b:ByteArray):(Op.bytesLess a.toList b.toList || a.toList == b.toList) = !Vl b a:=by
 rw [less_total];unfold Vl;rw [beq_ba];simp
end
section
open Go.RowKit
def Blk (w:World) (g:Nat) (t:TypeId) (cs:Array Value):Prop:=w.heap[g]? =some (.cells cs t (0,0))
section
variable {w w':World} {g:Nat} {t:TypeId} {cs:Array Value}
theorem Blk.lt (h:Blk w g t cs):g<w.heap.size:=by
 rcases Nat.lt_or_ge g w.heap.size with hlt|hge
 ·exact hlt
 ·unfold Blk at h;rw [Array.getElem?_eq_none hge] at h;cases h
theorem Blk.cell (h:Blk w g t cs) (i:Nat):w.cell? ⟨g,i,none⟩=cs[i]?:=cell_of_row w g i cs t (0,0) h
theorem Blk.free (h:Blk w g t cs) (i:Nat):w.frozen? ⟨g,i,none⟩=false:=by
 unfold Blk at h;simp [World.frozen?,h]
theorem Blk.new (w:World) (t:TypeId) (cs:Array Value):Blk (w.alloc (.cells cs t)) w.heap.size t cs:=heap_alloc_new w _
theorem Blk.drew (h:Blk w g t cs):Blk w.drew g t cs:=h
theorem Blk.drewN (h:Blk w g t cs) (n:Nat):Blk (w.drewN n) g t cs:=h
theorem Blk.alloc (h:Blk w g t cs) (o:Obj):Blk (w.alloc o) g t cs:=(Below.heap_alloc w o g h.lt).trans h
theorem Blk.set (h:Blk w g t cs) (i:Nat) (u:Value):Blk (w.setCell ⟨g,i,none⟩ u) g t (cs.setIfInBounds i u):=by
 unfold Blk at h ⊢;simp [World.setCell,Array.getElem?_modify,h]
theorem Blk.far (h:Blk w g t cs) {p:Addr} (hp:g≠p.block) (u:Value):Blk (w.setCell p u) g t cs:=(Below.heap_setCell w p u g hp).trans h
theorem Blk.below {B:Nat} (h:Blk w g t cs) (hb:Below B w w') (hg:g<B):Blk w' g t cs:=(hb.block g hg).trans h
theorem Blk.grown {row:Option Nat} (h:Blk w g t cs) (hb:w.grownBy w' row) (hg:some g≠row):Blk w' g t cs:=(hb.block g h.lt hg).trans h
theorem Blk.ne {g':Nat} {t':TypeId} {cs':Array Value} (h:Blk w g t cs) (h':Blk w g' t' cs') (hne:t≠t'):g≠g':=by
 rintro rfl;unfold Blk at h h';rw [h] at h';injection h' with h'
 injection h' with _ ht
 exact hne ht
theorem G3 {base:Nat} {e:TypeId} {size n:Nat} {v:Value} {xs:List Value} (h:w.ownsRow base e size v n xs) (hg:Blk w g t cs) (hne:e≠t):v.ownBlock≠some g:=by
 rcases h.2 with ⟨rfl,_⟩|⟨g',cap,cur,rfl,_,hh,_⟩
 ·simp [Value.ownBlock]
 ·intro he
  have:g'=g:=by simpa [Value.ownBlock] using he
  subst this;exact Blk.ne (t:=e) hh hg hne rfl
theorem own_set {base:Nat} {e:TypeId} {size n:Nat} {v:Value} {xs:List Value} (h:w.ownsRow base e size v n xs) (hg:Blk w g t cs) (hne:e≠t) (i:Nat) (u:Value):(w.setCell ⟨g,i,none⟩ u).ownsRow base e size v n xs:=
 h.kept (row:=some g) ⟨rfl,rfl,rfl,by simp [World.setCell],fun k _ hk=>Below.heap_setCell w _ u k (by intro e;exact hk (by rw [e]))⟩ (.inr (G3 h hg hne))
end
end
section
open Go.RowKit
theorem add_is (b o j:Nat):(⟨b,o,none⟩:Addr).add j=⟨b,o+j,none⟩:=by unfold Addr.add;split<;>simp_all
section
variable {P:Program} (w:World)
theorem run_app_none (base:Nat) (t ty e:TypeId) (i:TypeInfo) (size:Nat) (ht:P.underlying t=some (.slice e)) (hi:P.info? e=some i)
  (v:Value) (n:Nat) (xs:List Value) (hown:w.ownsRow base e size v n xs) (c:Nat):(Builtin.append_ #[t,t] ty #[v,.slice none 0 c]).run P w = .ok v w:=by
 rcases hown.2 with ⟨rfl,rfl⟩|⟨g,cap,cur,rfl,_,_,hnc,_⟩
 ·simp [Builtin.append_,run_underlying ht,sizeOf,typeInfo,hi,Builtin.lenOf,Builtin.firstCells]
 ·simp [Builtin.append_,run_underlying ht,sizeOf,typeInfo,hi,Builtin.lenOf,Builtin.firstCells,hnc,storeCells]
theorem run_app (base:Nat) (t ty e:TypeId) (i:TypeInfo) (z:Value) (size bytes:Nat) (ht:P.underlying t=some (.slice e)) (hi:P.info? e=some i) (hz:i.zero=some z)
  (hsize:i.size=size) (hby:i.bytes=bytes) (hzs:z.cells.size=size) (hsz:0<size)
  (v:Value) (n:Nat) (xs:List Value) (hown:w.ownsRow base e size v n xs)
  (B:Nat) (A:Option Addr) (m c:Nat) (news:List Value) (hr:Rd w B size A m news) (h1:∀ u∈news,u.oneCell'=true)
  (h63:n+m≤maxLen) (hbytes:(n+m)*bytes≤140737488355328) (hbase:base≤w.heap.size):
  ∃ v' w',(Builtin.append_ #[t,t] ty #[v,.slice A m c]).run P w = .ok v' w'∧w'.ownsRow base e size v' (n+m) (xs++news)∧w.grownBy w' v.ownBlock ∧
   (v'.ownBlock=v.ownBlock∨v'.ownBlock=some w.heap.size):=by
 rcases A with _|ad
 ·have hm:m=0:=by
   rcases Nat.eq_zero_or_pos m with h0|h0
   ·exact h0
   ·obtain ⟨b,o,h,_⟩:=hr.2 h0
    cases h
  subst hm;have hn:news = []:=List.eq_nil_of_length_eq_zero (by simpa using hr.1);subst hn;exact ⟨v,w,run_app_none w base t ty e i size ht hi v n xs hown c,by simpa using hown,World.grownBy.refl w _,.inl rfl⟩
 ·have hcells:∀ j u,news[j]? =some u→w.cell? (ad.add j)=some u:=by
   intro j u hu;rcases Nat.eq_zero_or_pos m with h0|h0
   ·subst h0
    have hn:news = []:=List.eq_nil_of_length_eq_zero (by simpa using hr.1);subst hn;simp at hu
   ·obtain ⟨b,o,h,_,hc⟩:=hr.2 h0
    injection h with h
    subst h;rw [add_is];exact hc j u hu
  obtain ⟨v',w',hrun,h2,h3,_,h5⟩:=run_append_own_at (P:=P) w base t ty e i z size bytes ht hi hz hsize hby hzs hsz v n xs hown ad m c news hr.1 hcells h1 h63 hbytes hbase;exact ⟨v',w',hrun,h2,h3,h5⟩
theorem wp_app {o:Oper} {a:Act} {K:Act→World→Prop} {Q:Exit→Act→World→Prop} (s x:Operand) (t:TypeId)
  (ho:o.op = .call { callee:=.builtin .append,args:=#[s,x],argTypes:=#[t,t] })
  (base:Nat) (e:TypeId) (i:TypeInfo) (z:Value) (size bytes:Nat) (ht:P.underlying t=some (.slice e)) (hi:P.info? e=some i) (hz:i.zero=some z)
  (hsize:i.size=size) (hby:i.bytes=bytes) (hzs:z.cells.size=size) (hsz:0<size)
  (v:Value) (n:Nat) (xs:List Value) (hs:a.eval s=v) (hown:w.ownsRow base e size v n xs)
  (B:Nat) (A:Option Addr) (m c:Nat) (news:List Value) (hx:a.eval x = .slice A m c) (hr:Rd w B size A m news) (h1:∀ u∈news,u.oneCell'=true)
  (h63:n+m≤maxLen) (hbytes:(n+m)*bytes≤140737488355328) (hbase:base≤w.heap.size)
  (h:∀ v' w',w'.ownsRow base e size v' (n+m) (xs++news)→w.grownBy w' v.ownBlock→(v'.ownBlock=v.ownBlock∨v'.ownBlock=some w.heap.size)→K (a.put o.dst v') w'):o.wp P a w K Q:=by
 obtain ⟨v',w',hrun,h2,h3,h4⟩:=run_app (P:=P) w base t o.type e i z size bytes ht hi hz hsize hby hzs hsz v n xs hown B A m c news hr h1 h63 hbytes hbase;unfold Oper.wp execOp;simp only [ho,resolve,invoke,builtin,Sem.run_bind,Sem.run_pure,Result.andThen_ok,List.map_toArray,List.map_cons,List.map_nil,hs,hx,hrun];exact h v' w' h2 h3 h4
theorem U4 {ops:Array Oper} {rest:List Oper} {o:Oper} {a:Act} {Q:Exit→Act→World→Prop} (hgd:o.guard=none) (s x:Operand) (t:TypeId)
  (ho:o.op = .call { callee:=.builtin .append,args:=#[s,x],argTypes:=#[t,t] })
  (base:Nat) (e:TypeId) (i:TypeInfo) (z:Value) (size bytes:Nat) (ht:P.underlying t=some (.slice e)) (hi:P.info? e=some i) (hz:i.zero=some z)
  (hsize:i.size=size) (hby:i.bytes=bytes) (hzs:z.cells.size=size) (hsz:0<size)
  (v:Value) (n:Nat) (xs:List Value) (hs:a.eval s=v) (hown:w.ownsRow base e size v n xs)
  (B:Nat) (A:Option Addr) (m c:Nat) (news:List Value) (hx:a.eval x = .slice A m c) (hr:Rd w B size A m news) (h1:∀ u∈news,u.oneCell'=true)
  (h63:n+m≤maxLen) (hbytes:(n+m)*bytes≤140737488355328) (hbase:base≤w.heap.size)
  (h:∀ v' w',w'.ownsRow base e size v' (n+m) (xs++news)→w.grownBy w' v.ownBlock→(v'.ownBlock=v.ownBlock∨v'.ownBlock=some w.heap.size)→wpList P ops Q rest (a.put o.dst v') w'):wpList P ops Q (o::rest) a w:=
 wpList_plain hgd fun _ hK=>wp_app w s x t ho base e i z size bytes ht hi hz hsize hby hzs hsz v n xs hs hown B A m c news hx hr h1 h63 hbytes hbase fun v' w' h2 h3 h4=>hK _ _ (h v' w' h2 h3 h4)
end
end
section
set_option maxRecDepth 100000
set_option maxHeartbeats 400000
open Go.RowKit
def Xc (n:Int):Bool:=decide (1≤n)&&decide (n≤1099511627776)
theorem Kv {n:Int} (h:Xc n=true):1≤n∧n≤1099511627776:=by simpa [Xc] using h
theorem Jb (n:Int) (w:World):Calls prog 56 #[.int .i64 n] w fun e w'=>e = .returned (.bool (Xc n))∧w=w':=by
 by_cases h1:1≤n
 ·by_cases h2:n≤1099511627776
  ·go_enter Tryz.func56,Tryz.ntmps56
   go_wp2;go_ret;exact ⟨by simp [Xc,h1,h2],rfl⟩
  ·go_enter Tryz.func56,Tryz.ntmps56
   go_wp2;go_ret;exact ⟨by simp [Xc,h1,h2],rfl⟩
 ·go_enter Tryz.func56,Tryz.ntmps56
  go_wp2;go_ret;exact ⟨by simp [Xc];omega,rfl⟩
theorem last_any (x:Com) (w:World) (h1:1≤x.num) (h2:x.num≤1099511627776) (h3:x.cn≤300):
  Calls prog 40 #[comV x] w fun e w'=>e = .returned (.int .i64 (x.num+x.cn-1))∧Below w.heap.size w w':=by
 unfold comV;go_enter Tryz.func40,Tryz.ntmps40;go_wp2;go_ret;exact ⟨rfl,(Bf _ _).alloc (Le _) _⟩
theorem Jy (lo hi:Int) (s:ByteArray) (w:World):
  Calls prog 77 #[.agg #[.int .i64 lo,.int .i64 hi],.string s] w fun e w'=>e = .returned (.bool (decide (lo≤(s.size:Int))&&decide ((s.size:Int)≤hi)))∧Below w.heap.size w w':=by
 by_cases h1:lo≤(s.size:Int)
 ·by_cases h2:(s.size:Int)≤hi
  all_goals
   go_enter Tryz.func77,Tryz.ntmps77;go_wp2;go_ret;exact ⟨by simp [h1,h2],(Bf _ _).alloc (Le _) _⟩
 ·go_enter Tryz.func77,Tryz.ntmps77
  go_wp2;go_ret;exact ⟨by simp;omega,(Bf _ _).alloc (Le _) _⟩
def bAt (s:ByteArray) (i:Nat):Nat:=if h:i<s.size then (s[i]).toNat else 0
theorem Zd (s:ByteArray) (i:Nat) (h:i<s.size):bAt s i=(s[i]).toNat:=by simp [bAt,h]
def vokB (i b:Nat):Bool:=(decide (65≤b)&&decide (b≤90)) || (decide (48≤b)&&decide (b≤57)&&decide (i≠0))
def volB (s:ByteArray):Bool:=decide (1≤s.size)&&decide (s.size≤8)&&(List.range s.size).all fun i=>vokB i (bAt s i)
theorem El {p:Nat→Bool} {n j:Nat} (hj:j<n) (h:p j=false):(List.range n).all p=false:=by
 rw [List.all_eq_false];exact ⟨j,List.mem_range.2 hj,by simp [h]⟩
theorem Es {p:Nat→Bool} {n:Nat} (h:∀ j,j<n→p j=true):(List.range n).all p=true:=by
 rw [List.all_eq_true];exact fun j hj=>h j (List.mem_range.1 hj)
theorem conv_bytes (W:World) (t:ByteArray):∃ c W',(convert 9 175 (.string t)).run prog W = .ok (.slice (some ⟨W.heap.size,0,none⟩) t.size c) W' ∧
  (∀ j (h:j<t.size),W'.cell? ⟨W.heap.size,j,none⟩=some (.int .u8 ((t[j]).toNat:Int)))∧W.grownBy W' none:=by
 refine ⟨_,_,run_bytes_of_string (P:=prog) W 9 175 5 t Tryz.underlying9 Tryz.underlying175 Tryz.underlying5,fun j h=>?_,?_⟩
 ·rw [show W.heap.size=W.drew.heap.size from rfl,World.cell?_alloc_mark]
  exact bytesRow_at t _ j h
 ·exact ⟨rfl,rfl,rfl,by simp,fun i hi _=>Below.heap_alloc W.drew _ i hi⟩
theorem Eq (s:ByteArray) (w:World) (hs:s.size≤maxLen):Calls prog 78 #[.string s] w fun e w'=>e = .returned (.bool (volB s))∧Below w.heap.size w w':=by
 unfold maxLen at hs;obtain ⟨c,W',hrun,hcells,hgr⟩:=conv_bytes w s;have HC:=Hd hcells;have HG:=Hd hgr;clear hcells hgr;obtain ⟨R,hR⟩:∃ R,volB s=R:=⟨_,rfl⟩
 rw [hR];have HR:=Hd hR;clear hR;go_enter Tryz.func78,Tryz.ntmps78;go_wp2;clear hrun;go_loop [10] (fun i => ∃ j:Nat,j≤s.size∧i = .int .i64 j∧∀ t,t<j→vokB t (bAt s t)=true) (fun i=>s.size-(intOf i).toNat)
 case atStart=>exact ⟨0,Z0 _,rfl,fun t h=>absurd h (by omega)⟩
 case round=>
  obtain ⟨j,hj,rfl,hall⟩:=hrel;have HA:=Hd hall;clear hall;by_cases hlt:j<s.size
  ·have hc:=HC.out j hlt
   obtain ⟨b,hb⟩:∃ b,(s[j]).toNat=b:=⟨_,rfl⟩
   have hbb:bAt s j=b:=by rw [Zd s j hlt,hb]
   have HBB:=Hd hbb;have hb3:=(s[j]).toNat_lt;rw [hb] at hb3 hc;clear hb hbb;have hno:vokB j b=false→R=false:=fun h=>by rw [←HR.out];unfold volB;rw [El hlt (by rw [HBB.out];exact h)];simp
   have HNO:=Hd hno
   have hyes:vokB j b=true→∀ t,t<j+1→vokB t (bAt s t)=true:=fun h t ht=>by
    by_cases e:t=j
    ·subst e;rw [HBB.out];exact h
    ·exact HA.out t (by omega)
   have HYES:=Hd hyes;clear hno hyes;obtain ⟨z,hz⟩:∃ z:Int,(b:Int)=z:=⟨_,rfl⟩
   rw [hz] at hc;have HZ:=Hd hz;clear hz;by_cases l1:65≤z∧z≤90
   ·obtain ⟨l1,l2⟩:=l1
    go_wp2
    go_round
    case rel=>exact ⟨j+1,by omega,by go_num,HYES.out (by have:=HZ.out;simp [vokB];omega)⟩
    case measure=>simp [intOf];omega
   ·by_cases d1:48≤z∧z≤57
    ·obtain ⟨d1,d2⟩:=d1
     clear l1;have l1:z<65:=by omega
     by_cases hz:j=0
     ·subst hz
      go_wp2;go_ret;exact ⟨by rw [HNO.out (by have:=HZ.out;simp [vokB];omega)];rfl,(Bf w.heap.size w).grown HG.out (Le _) (by rintro k ⟨⟩)⟩
     ·have hz':((j:Int) == 0)=false:=by simp;omega
      go_wp2
      go_round
      case rel=>exact ⟨j+1,by omega,by go_num,HYES.out (by have:=HZ.out;simp [vokB];omega)⟩
      case measure=>simp [intOf];omega
    ·have hf:R=false:=HNO.out (by have:=HZ.out;simp [vokB];omega)
     have HF:=Hd hf;clear hf;by_cases k1:65≤z
     ·have k2:90<z:=by omega
      have k3:57<z:=by omega
      have k4:48≤z:=by omega
      have k5:decide (z≤90)=false:=by simp;omega
      have k6:decide (z≤57)=false:=by simp;omega
      clear l1 d1;go_wp2;go_ret;exact ⟨by rw [HF.out];rfl,(Bf w.heap.size w).grown HG.out (Le _) (by rintro k ⟨⟩)⟩
     ·have k1':z<65:=by omega
      by_cases k2:48≤z
      ·have k3:57<z:=by omega
       have k6:decide (z≤57)=false:=by simp;omega
       clear l1 d1 k1;go_wp2;go_ret;exact ⟨by rw [HF.out];rfl,(Bf w.heap.size w).grown HG.out (Le _) (by rintro k ⟨⟩)⟩
      ·have k3:z<48:=by omega
       clear l1 d1 k1 k2;go_wp2;go_ret;exact ⟨by rw [HF.out];rfl,(Bf w.heap.size w).grown HG.out (Le _) (by rintro k ⟨⟩)⟩
  ·obtain rfl:j=s.size:=by omega
   have hr:R=(decide (1≤s.size)&&decide (s.size≤8)):=by rw [←HR.out];unfold volB;rw [Es HA.out];simp
   have HRR:=Hd hr;clear hr;by_cases h1:1≤s.size
   ·by_cases h2:s.size≤8
    all_goals
     go_wp2;go_ret;exact ⟨by rw [HRR.out];simp [h1,h2];omega,(Bf w.heap.size w).grown HG.out (Le _) (by rintro k ⟨⟩)⟩
   ·go_wp2
    go_ret;exact ⟨by rw [HRR.out];simp;omega,(Bf w.heap.size w).grown HG.out (Le _) (by rintro k ⟨⟩)⟩
end
section
set_option maxRecDepth 100000
set_option maxHeartbeats 1000000
open Go.RowKit
def stp (n:Int) (b i:Nat):Int:=bits BinOp.or IntKind.u64 n (IntKind.u64.wrap (IntKind.u64.wrap (bits BinOp.and IntKind.u8 (b:Int) 127)*2 ^ (7*i)))
theorem stp_nonneg (n:Int) (b i:Nat):0≤stp n b i:=by
 unfold stp bits;exact wrap_u64_nonneg _
def F4 (s:ByteArray):Nat→Int→Nat→Int×Int
 |0,_,_=>(0,0)
 |f+1,n,i=>
  if i<s.size then
   if i=9∧1<bAt s i then (0,0)
   else if bAt s i<128 then (if bAt s i=0∧0<i then (0,0) else (stp n (bAt s i) i,(i:Int)+1))
   else F4 s f (stp n (bAt s i) i) (i+1)
  else (0,0)
def F5 (s:ByteArray):Int×Int:=F4 s 10 0 0
theorem decL_range (s:ByteArray):∀ (f:Nat) (n:Int) (i:Nat),0≤(F4 s f n i).1∧0≤(F4 s f n i).2∧(F4 s f n i).2≤s.size
 |0,_,_=>by simp [F4]
 |f+1,n,i=>by
  unfold F4;split
  ·split
   ·simp
   ·split
    ·split
     ·simp
     ·exact ⟨stp_nonneg _ _ _,by simp;omega,by simp;omega⟩
    ·exact decL_range s f _ _
  ·simp
theorem decF_range (s:ByteArray):0≤(F5 s).1∧0≤(F5 s).2∧(F5 s).2≤s.size:=decL_range s 10 0 0
theorem tup2 {a b c d:Int} (h1:a=c) (h2:b=d):Ending.returned (.tuple #[.int .u64 a,.int .i64 b]) = .returned (.tuple #[.int .u64 c,.int .i64 d]):=by rw [h1,h2]
theorem decode_any (s:ByteArray) (w:World) (hs:s.size≤maxLen):Calls prog 242 #[.string s] w fun e w'=>e = .returned (.tuple #[.int .u64 (F5 s).1,.int .i64 (F5 s).2])∧w=w':=by
 unfold maxLen at hs;obtain ⟨R,hR⟩:∃ R,F5 s=R:=⟨_,rfl⟩
 rw [hR];have HR:=Hd hR;clear hR;go_enter Tryz.func242,Tryz.ntmps242;go_wp2;go_loop [4,5] (fun n i => ∃ (j f:Nat) (m:Int),j+f=10∧n = .int .u64 m∧i = .int .i64 j∧F4 s f m j=R) (fun _ i=>10-(intOf i).toNat)
 case atStart=>exact ⟨0,10,0,by decide,rfl,rfl,HR.out⟩
 case round=>
  obtain ⟨j,f,m,hj,rfl,rfl,hrec⟩:=hrel
  match f,hj,hrec with
  |0,hj,hrec=>
   obtain rfl:j=10:=by omega
   have HREC:=Hd hrec;clear hrec;go_wp2
   all_goals
    go_ret2
    exact ⟨tup2 (by rw [←HREC.out];rfl) (by rw [←HREC.out];rfl),rfl⟩
  |f+1,hj,hrec=>
   have h10:j<10:=by omega
   have HJ:=Hd hj;by_cases hlt:j<s.size
   ·obtain ⟨b,hb⟩:∃ b,(s[j]).toNat=b:=⟨_,rfl⟩
    have hbb:bAt s j=b:=by rw [Zd s j hlt,hb]
    have hb3:=(s[j]).toNat_lt;rw [hb] at hb3
    have hu:F4 s (f+1) m j=if j=9∧1<b then (0,0) else if b<128 then (if b=0∧0<j then (0,0) else (stp m b j,(j:Int)+1)) else F4 s f (stp m b j) (j+1):=by
     conv=>lhs;unfold F4
     rw [if_pos hlt,hbb]
    rw [hu] at hrec;have HREC:=Hd hrec;clear hbb hrec hu hj;by_cases h9:j=9
    ·subst h9
     by_cases h1:1<b
     ·go_wp2
      go_ret2
      have hr:=HREC.out;simp [h1] at hr;exact ⟨tup2 (by rw [←hr]) (by rw [←hr]),rfl⟩
     ·by_cases h0:b=0
      ·subst h0
       go_wp2
       go_ret2
       have hr:=HREC.out;simp at hr;exact ⟨tup2 (by rw [←hr]) (by rw [←hr]),rfl⟩
      ·obtain rfl:b=1:=by omega
       go_wp2
       go_ret2
       have hr:=HREC.out;simp at hr;exact ⟨tup2 (by rw [←hr];rfl) (by rw [←hr]),rfl⟩
    ·have e9:((j:Int) == 9)=false:=by simp;omega
     have H9:=Hd h9;clear h9;by_cases h128:b<128
     ·by_cases h0:b=0
      ·subst h0
       by_cases hj0:j=0
       ·subst hj0
        go_wp2
        go_ret2
        have hr:=HREC.out;simp at hr;exact ⟨tup2 (by rw [←hr];rfl) (by rw [←hr]),rfl⟩
       ·have hj1:0<j:=by omega
        go_wp2
        go_ret2
        have hr:=HREC.out;have n9:=H9.out;simp [n9,hj1] at hr;exact ⟨tup2 (by rw [←hr]) (by rw [←hr]),rfl⟩
      ·have e0:((b:Int) == 0)=false:=by simp;omega
       have H0:=Hd h0;clear h0;go_wp2
       go_ret2
       have hr:=HREC.out;rw [if_neg (by intro h;exact H9.out h.1),if_pos h128,if_neg (by intro h;exact H0.out h.1)] at hr;exact ⟨tup2 (by rw [←hr];rfl) (by rw [←hr]),rfl⟩
     ·have hr:=HREC.out
      rw [if_neg (by intro h;exact H9.out h.1),if_neg h128] at hr;have HRR:=Hd hr;clear hr;go_wp2
      go_round
      case rel=>exact ⟨j+1,f,stp m b j,by have:=HJ.out;omega,rfl,by go_num,HRR.out⟩
      case measure=>simp [intOf];omega
   ·have hr:F4 s (f+1) m j=(0,0):=by unfold F4;rw [if_neg hlt]
    rw [hr] at hrec;have HREC:=Hd hrec;clear hr hrec hj;go_wp2
    go_ret2
    exact ⟨tup2 (by rw [←HREC.out]) (by rw [←HREC.out]),rfl⟩
end
section
theorem U3 (w:World) (t:TypeId) (cs:Array Value) (b:Nat) (h:b=w.heap.size):Blk (w.alloc (.cells cs t)) b t cs:=by subst h;exact Blk.new w t cs
end
end Go.Proofs.YtapanepkfbamhaaGreatDoor
