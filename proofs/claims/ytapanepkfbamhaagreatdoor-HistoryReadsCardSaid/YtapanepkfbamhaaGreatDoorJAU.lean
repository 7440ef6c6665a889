/- Part of the proof of HistoryReads. -/
import Derived.Test.YtapanepkfbamhaaGreatDoorJAT
namespace Go.Proofs.YtapanepkfbamhaaGreatDoor
open Tryz (prog)
section
open Go.RowKit
def Stop (p:Prop):Prop:=p
theorem Stop.go {p:Prop} (h:Stop p):p:=h
theorem Stop.in' {p:Prop} (h:p):Stop p:=h
section
variable {P:Program} {ops:Array Oper} {rest:List Oper} {o:Oper} {a:Act} {w:World} {Q:Exit→Act→World→Prop}
theorem X0 (hw:Region.wanted o (yielded ops a.tmps)=true) (v:Value) (w':World) (hr:(execOp a.eval o).run P w = .ok (.value v) w') (h:wpList P ops Q rest (a.put o.dst v) w'):wpList P ops Q (o::rest) a w:=
 Yf hw fun _ hK=>by
  unfold Oper.wp;rw [hr];exact hK _ _ h
theorem Fw (hw:Region.wanted o (yielded ops a.tmps)=true) (v:Value) (hr:(execOp a.eval o).run P w = .ok (.value v) w) (h:wpList P ops Q rest (a.put o.dst v) w):wpList P ops Q (o::rest) a w:=X0 hw v w hr h
theorem Wv (v:Value) {a':Act} (h:wpList P ops Q rest a' w) (hw:Region.wanted o (yielded ops a.tmps)=true:=by kernel_rfl) (r:(execOp a.eval o).run P w = .ok (.value v) w:=by kernel_rfl)
  (ha:a.put o.dst v=a':=by conv=>lhs;simp only [Act.put,Sv,Sz,Sw]):wpList P ops Q (o::rest) a w:=by
 subst ha;exact Fw hw v r h
theorem exec_bin {ρ:Operand→Value} {op:BinOp} {T ty:TypeId} {x y:Operand} {p q v:Value} (ho:o.op = .binOp op T x y ty) (hx:ρ x=p) (hy:ρ y=q) (hg:(eqGuard op T x y p q).run P w = .ok () w) (hb:(binOp op T p q).run P w = .ok v w):
  (execOp ρ o).run P w = .ok (.value v) w:=by
 unfold execOp;rw [ho];simp only [hx,hy,Sem.run_bind,hg,hb,Result.andThen_ok];rfl
theorem Fl {ρ:Operand→Value} {T:TypeId} {x y:Operand} {ok:Bool} {p q v:Value} (ho:o.op = .lookup T x y ok) (hx:ρ x=p) (hy:ρ y=q) (hb:(Instr.lookup T p q ok).run P w = .ok v w):
  (execOp ρ o).run P w = .ok (.value v) w:=by
 unfold execOp;rw [ho];simp only [hx,hy,Sem.run_bind,hb,Result.andThen_ok];rfl
theorem V0 (hw:Region.wanted o (yielded ops a.tmps)=true) (f:FuncId) (args:Array Value) (hr:(execOp a.eval o).run P w = .ok (.enter f args) w)
  (h:Calls P f args w fun e w'=>match e with | .returned v=>wpList P ops Q rest (a.put o.dst v) w' | .panicked c=>Q (.panic c) a w' | .outgrown=>LetsOut Q):wpList P ops Q (o::rest) a w:=
 Yf hw fun K hK=>by
  unfold Oper.wp;rw [hr,Oper.upon_enter];refine h.mono ?_;intro e w' he;cases e with
  |returned v=>exact hK _ _ he
  |panicked c=>exact he
  |outgrown=>exact he
def Ye (ops:Array Oper):List Oper→Act→Option Act
 | [],a=>some a
 |o::r,a=>match Region.wanted o (yielded ops a.tmps) with
  |false=>Ye ops r (a.put o.dst undef)
  |true=>match o.op with
   |.move x=>Ye ops r (a.put o.dst (a.eval x))
   |.assign x=>Ye ops r (a.put o.dst (a.eval x))
   |.pick c x y=>match a.eval c with
    |.bool true=>Ye ops r (a.put o.dst (a.eval x))
    |.bool false=>Ye ops r (a.put o.dst (a.eval y))
    |_=>none
   |_=>none
theorem Y8 (ops:Array Oper):∀ (rest:List Oper) (a a':Act),Ye ops rest a=some a'→Q .normal a' w→wpList P ops Q rest a w
 | [],a,a',h,hq=>by
  unfold Ye at h;injection h with h
  subst h;unfold wpList;exact hq
 |o::r,a,a',h,hq=>by
  unfold Ye at h;split at h
  ·rename_i hw
   exact wpList_skip hw (Y8 ops r _ a' h hq)
  ·rename_i hw
   split at h
   ·rename_i x ho
    exact X0 hw (a.eval x) w (by unfold execOp;rw [ho];rfl) (Y8 ops r _ a' h hq)
   ·rename_i x ho
    exact X0 hw (a.eval x) w (by unfold execOp;rw [ho];rfl) (Y8 ops r _ a' h hq)
   ·rename_i c x y ho
    split at h
    ·rename_i hc
     exact X0 hw (a.eval x) w (by unfold execOp;rw [ho];simp only [hc];rfl) (Y8 ops r _ a' h hq)
    ·rename_i hc
     exact X0 hw (a.eval y) w (by unfold execOp;rw [ho];simp only [hc];rfl) (Y8 ops r _ a' h hq)
    ·cases h
   ·cases h
theorem Uf (t:Nat) (v:Value) (hr:(Ye ops rest a).map (fun x=>(x.tmps.getD t undef,x.defers))=some (v,[])) (h:∀ a':Act,a'.tmps.getD t undef=v→a'.defers = []→Q .normal a' w):wpList P ops Q rest a w:=by
 cases ht:Ye ops rest a with
 |none=>rw [ht] at hr;cases hr
 |some a'=>
  rw [ht] at hr;simp only [Option.map_some,Option.some.injEq,Prod.mk.injEq] at hr;exact Y8 ops rest a a' ht (h a' hr.1 hr.2)
end
end
section
set_option maxRecDepth 100000
set_option maxHeartbeats 4000000
open Go.RowKit
def Dec (p:Prop) (w:World) (e:Ending) (w':World):Prop:=(∃ z:Bool,e = .returned (.bool z)∧(z=true↔p))∧Below w.heap.size w w'
def dsetB (x y:DSet):Bool:=decide (x.id=y.id)&&decide (x.org=y.org)&&decide (x.fmt=y.fmt)&&decide (x.len=y.len)&&decide (x.blk=y.blk)&&decide (x.kat=y.kat)&&decide (x.kln=y.kln)&&decide (x.itv=y.itv)&&decide (x.area=y.area)&&decide (x.fi=y.fi)&&decide (x.fa=y.fa)&&decide (x.base=y.base)&&decide (x.aat=y.aat)&&decide (x.aln=y.aln)&&decide (x.uniq=y.uniq)&&decide (x.cls=y.cls)&&decide (x.vol.toList=y.vol.toList)&&decide (x.own.toList=y.own.toList)&&decide (x.cre=y.cre)&&decide (x.exp=y.exp)&&decide (x.arch=y.arch)
theorem dsetB_iff (x y:DSet):dsetB x y=true↔x=y:=by
 unfold dsetB;simp only [Bool.and_eq_true,decide_eq_true_eq];constructor
 ·rintro ⟨⟨⟨⟨⟨⟨⟨⟨⟨⟨⟨⟨⟨⟨⟨⟨⟨⟨⟨⟨h0,h1⟩,h2⟩,h3⟩,h4⟩,h5⟩,h6⟩,h7⟩,h8⟩,h9⟩,h10⟩,h11⟩,h12⟩,h13⟩,h14⟩,h15⟩,h16⟩,h17⟩,h18⟩,h19⟩,h20⟩
  rw [V2,V2] at h16 h17;have e16:=Yp h16;have e17:=Yp h17;obtain ⟨x0,x1,x2,x3,x4,x5,x6,x7,x8,x9,x10,x11,x12,x13,x14,x15,x16,x17,x18,x19,x20⟩:=x;obtain ⟨y0,y1,y2,y3,y4,y5,y6,y7,y8,y9,y10,y11,y12,y13,y14,y15,y16,y17,y18,y19,y20⟩:=y;simp only at h0 h1 h2 h3 h4 h5 h6 h7 h8 h9 h10 h11 h12 h13 h14 h15 e16 e17 h18 h19 h20;subst h0 h1 h2 h3 h4 h5 h6 h7 h8 h9 h10 h11 h12 h13 h14 h15 e16 e17 h18 h19 h20;rfl
 ·intro h
  subst h;simp
theorem dset_run (x y:DSet) (W:World):(binOp .eql 27 (.agg (dC x).toArray) (.agg (dC y).toArray)).run prog W = .ok (.bool (dsetB x y)) W:=by
 unfold dsetB dC;go_simp;by_cases k0:x.id=y.id;rotate_left
 ·rw [if_neg k0,decide_eq_false k0]
  simp
 rw [if_pos k0,decide_eq_true k0];by_cases k1:x.org=y.org;rotate_left
 ·rw [if_neg k1,decide_eq_false k1]
  simp
 rw [if_pos k1,decide_eq_true k1];by_cases k2:x.fmt=y.fmt;rotate_left
 ·rw [if_neg k2,decide_eq_false k2]
  simp
 rw [if_pos k2,decide_eq_true k2];by_cases k3:x.len=y.len;rotate_left
 ·rw [if_neg k3,decide_eq_false k3]
  simp
 rw [if_pos k3,decide_eq_true k3];by_cases k4:x.blk=y.blk;rotate_left
 ·rw [if_neg k4,decide_eq_false k4]
  simp
 rw [if_pos k4,decide_eq_true k4];by_cases k5:x.kat=y.kat;rotate_left
 ·rw [if_neg k5,decide_eq_false k5]
  simp
 rw [if_pos k5,decide_eq_true k5];by_cases k6:x.kln=y.kln;rotate_left
 ·rw [if_neg k6,decide_eq_false k6]
  simp
 rw [if_pos k6,decide_eq_true k6];by_cases k7:x.itv=y.itv;rotate_left
 ·rw [if_neg k7,decide_eq_false k7]
  simp
 rw [if_pos k7,decide_eq_true k7];by_cases k8:x.area=y.area;rotate_left
 ·rw [if_neg k8,decide_eq_false k8]
  simp
 rw [if_pos k8,decide_eq_true k8];by_cases k9:x.fi=y.fi;rotate_left
 ·rw [if_neg k9,decide_eq_false k9]
  simp
 rw [if_pos k9,decide_eq_true k9];by_cases k10:x.fa=y.fa;rotate_left
 ·rw [if_neg k10,decide_eq_false k10]
  simp
 rw [if_pos k10,decide_eq_true k10];by_cases k11:x.base=y.base;rotate_left
 ·rw [if_neg k11,decide_eq_false k11]
  simp
 rw [if_pos k11,decide_eq_true k11];by_cases k12:x.aat=y.aat;rotate_left
 ·rw [if_neg k12,decide_eq_false k12]
  simp
 rw [if_pos k12,decide_eq_true k12];by_cases k13:x.aln=y.aln;rotate_left
 ·rw [if_neg k13,decide_eq_false k13]
  simp
 rw [if_pos k13,decide_eq_true k13];by_cases k14:x.uniq=y.uniq;rotate_left
 ·rw [if_neg k14,decide_eq_false k14]
  simp
 rw [if_pos k14,decide_eq_true k14];by_cases k15:x.cls=y.cls;rotate_left
 ·rw [if_neg k15,decide_eq_false k15]
  simp
 rw [if_pos k15,decide_eq_true k15];by_cases k16:x.vol.toList=y.vol.toList;rotate_left
 ·rw [if_neg k16,decide_eq_false k16]
  simp
 rw [if_pos k16,decide_eq_true k16];by_cases k17:x.own.toList=y.own.toList;rotate_left
 ·rw [if_neg k17,decide_eq_false k17]
  simp
 rw [if_pos k17,decide_eq_true k17];by_cases k18:x.cre=y.cre;rotate_left
 ·rw [if_neg k18,decide_eq_false k18]
  simp
 rw [if_pos k18,decide_eq_true k18];by_cases k19:x.exp=y.exp;rotate_left
 ·rw [if_neg k19,decide_eq_false k19]
  simp
 rw [if_pos k19,decide_eq_true k19];by_cases k20:x.arch=y.arch;rotate_left
 ·rw [if_neg k20,decide_eq_false k20]
  simp
 rw [if_pos k20,decide_eq_true k20];rfl
theorem dset_eq (x y:DSet):∃ z:Bool,(z=true↔x=y)∧∀ W:World,(binOp .eql 27 (.agg (dC x).toArray) (.agg (dC y).toArray)).run prog W = .ok (.bool z) W:=
 ⟨dsetB x y,dsetB_iff x y,dset_run x y⟩
theorem dC_in (e:En) (a:EnA) (j:Nat) (hj:j<21):(enC e a)[2+j]? =(dC e.d)[j]?:=by
 have h:enC e a = [.int .i64 e.kind,.string e.name]++(dC e.d++(enC e a).drop 23):=rfl;rw [h,List.getElem?_append_right (by simp),List.getElem?_append_left (by rw [dC_len];simp;exact hj)];congr 1;simp
theorem en_ext {e f:En} (h0:e.kind=f.kind) (h1:e.name=f.name) (h2:e.d=f.d) (h3:e.alts=f.alts) (h4:e.used=f.used) (h5:e.limit=f.limit) (h6:e.last=f.last) (h7:e.empty=f.empty) (h8:e.owner=f.owner) (h9:e.target=f.target) (h10:e.catalog=f.catalog) (h11:e.level=f.level) (h12:e.grants=f.grants):e=f:=by
 obtain ⟨x0,x1,x2,x3,x4,x5,x6,x7,x8,x9,x10,x11,x12⟩:=e;obtain ⟨y0,y1,y2,y3,y4,y5,y6,y7,y8,y9,y10,y11,y12⟩:=f;simp only at h0 h1 h2 h3 h4 h5 h6 h7 h8 h9 h10 h11 h12;subst h0 h1 h2 h3 h4 h5 h6 h7 h8 h9 h10 h11 h12;rfl
theorem same_any (e f:En) (a b:EnA) (w:World) (he:EW [] w e a) (hf:EW [] w f b) (h1:e.alts.length≤1000) (h2:f.alts.length≤1000) (h3:e.grants.length≤1000) (h4:f.grants.length≤1000):
  Calls prog 154 #[.agg (enC e a).toArray,.agg (enC f b).toArray] w (Dec (e=f) w):=by
 have hb2:Below w.heap.size w ((w.alloc (.cells (enC e a).toArray 159)).alloc (.cells (enC f b).toArray 159)):=((Bf _ _).alloc (Le _) _).alloc (by simp) _;have k1:Blk ((w.alloc (.cells (enC e a).toArray 159)).alloc (.cells (enC f b).toArray 159)) w.heap.size 159 (enC e a).toArray:=(Blk.new w _ _).alloc _;have k2:Blk ((w.alloc (.cells (enC e a).toArray 159)).alloc (.cells (enC f b).toArray 159)) (w.heap.size+1) 159 (enC f b).toArray:=U3 (w.alloc (.cells (enC e a).toArray 159)) _ _ (w.heap.size+1) (by simp);have HC1:Hid (∀ W,Below ((w.alloc (.cells (enC e a).toArray 159)).alloc (.cells (enC f b).toArray 159)).heap.size ((w.alloc (.cells (enC e a).toArray 159)).alloc (.cells (enC f b).toArray 159)) W→∀ i v,(enC e a)[i]? =some v→W.cell? ⟨w.heap.size,i,none⟩=some v):=Hd fun W hb i v hv=>by rw [(k1.below hb k1.lt).cell];simpa using hv
 have HC2:Hid (∀ W,Below ((w.alloc (.cells (enC e a).toArray 159)).alloc (.cells (enC f b).toArray 159)).heap.size ((w.alloc (.cells (enC e a).toArray 159)).alloc (.cells (enC f b).toArray 159)) W→∀ i v,(enC f b)[i]? =some v→W.cell? ⟨w.heap.size+1,i,none⟩=some v):=Hd fun W hb i v hv=>by rw [(k2.below hb k2.lt).cell];simpa using hv
 have HEI:Hid (∀ W,Below ((w.alloc (.cells (enC e a).toArray 159)).alloc (.cells (enC f b).toArray 159)).heap.size ((w.alloc (.cells (enC e a).toArray 159)).alloc (.cells (enC f b).toArray 159)) W→Calls prog 217 #[.slice a.aA e.alts.length a.aC,.slice b.aA f.alts.length b.aC] W (Dec (e.alts=f.alts) W)):=Hd fun W hb=>eqInts_any _ _ _ _ _ _ _ _ W ((he.below hb2).below hb).sa ((hf.below hb2).below hb).sa (by omega) (by omega)
 have HEG:Hid (∀ W,Below ((w.alloc (.cells (enC e a).toArray 159)).alloc (.cells (enC f b).toArray 159)).heap.size ((w.alloc (.cells (enC e a).toArray 159)).alloc (.cells (enC f b).toArray 159)) W→Calls prog 218 #[.slice a.gA e.grants.length a.gC,.slice b.gA f.grants.length b.gC] W (Dec (e.grants=f.grants) W)):=Hd fun W hb=>eqGras_any _ _ _ _ _ _ _ _ W ((he.below hb2).below hb).sg ((hf.below hb2).below hb).sg (by omega) (by omega)
 have HM1:Hid (((w.alloc (.cells (enC e a).toArray 159)).alloc (.cells (enC f b).toArray 159)).rangeAt w.heap.size 2 (dC e.d)):=Hd fun j v hv=>HC1.out ((w.alloc (.cells (enC e a).toArray 159)).alloc (.cells (enC f b).toArray 159)) (Bf _ _) (2+j) v (by have hj:j<21:=(List.getElem?_eq_some_iff.1 hv).1;rw [←hv];exact dC_in e a j hj)
 have HM2:Hid (((w.alloc (.cells (enC e a).toArray 159)).alloc (.cells (enC f b).toArray 159)).rangeAt (w.heap.size+1) 2 (dC f.d)):=Hd fun j v hv=>HC2.out ((w.alloc (.cells (enC e a).toArray 159)).alloc (.cells (enC f b).toArray 159)) (Bf _ _) (2+j) v (by have hj:j<21:=(List.getElem?_eq_some_iff.1 hv).1;rw [←hv];exact dC_in f b j hj)
 obtain ⟨zd,hzd,hzr⟩:=dset_eq e.d f.d;have HB2:=Hd hb2;clear he hf h1 h2 h3 h4 hb2 k1 k2;go_enter Tryz.func154,Tryz.ntmps154;go_wp2_with ((with_reducible show wpList _ _ _ (⟨some 2,_,_,_,_,_⟩::_) _ _);refine Stop.go ?_);refine Stop.in' ?_;rename_i K hK;refine X0 (by kernel_rfl) (.pointer (some ⟨w.heap.size,0,none⟩)) (w.alloc (.cells (enC e a).toArray 159)) (by kernel_rfl) ?_;simp only [Act.put,Sv,Sz,Sw];refine X0 (by kernel_rfl) (.pointer (some ⟨w.heap.size+1,0,none⟩)) ((w.alloc (.cells (enC e a).toArray 159)).alloc (.cells (enC f b).toArray 159)) (by go_simp) ?_;simp only [Act.put,Sv,Sz,Sw];refine Wv (.bool false) ?_;refine wpList_nil ?_;simp only [Exit.then];refine hK _ _ ?_;refine wp_seq_k fun K2 hK2=>?_
 refine wp_region_lit ?_;clear hK;refine Wv (.pointer (some ⟨w.heap.size,0,none⟩)) ?_;have m1:=HC1.out _ (Bf _ _) 0 (.int .i64 e.kind) rfl;refine Wv (.int .i64 e.kind) ?_ (r:=by go_simp);clear m1;refine Wv (.pointer (some ⟨w.heap.size+1,0,none⟩)) ?_;have m2:=HC2.out _ (Bf _ _) 0 (.int .i64 f.kind) rfl;refine Wv (.int .i64 f.kind) ?_ (r:=by go_simp);clear m2;refine Wv (.bool (e.kind == f.kind)) ?_;obtain ⟨q,hq⟩:∃ q,(e.kind == f.kind)=q:=⟨_,rfl⟩
 rw [hq];cases q with
 |false=>
  have tt:¬ e.kind=f.kind:=(by intro h;rw [h] at hq;simp at hq)
  exact Uf 4 (.bool false) (by kernel_rfl) (by intro a' h4 hd;simp only [Exit.then];refine hK2 _ _ ?_;go_wp2;exact Br (v:=.bool false) ((results_tmp Tryz.results154 a'.tmps _ _).trans (by rw [h4])) hd ⟨⟨false,rfl,⟨fun h=>(by cases h),fun h=>absurd (by rw [h]) tt⟩⟩,HB2.out⟩)
 |true=>
  have k0:e.kind=f.kind:=(by simpa using hq)
  clear hq;refine Wv (.bool true) ?_;refine Wv (.pointer (some ⟨w.heap.size,1,none⟩)) ?_;have m1:=HC1.out _ (Bf _ _) 1 (.string e.name) rfl;refine Wv (.string e.name) ?_ (r:=by go_simp);clear m1;refine Wv (.pointer (some ⟨w.heap.size+1,1,none⟩)) ?_;have m2:=HC2.out _ (Bf _ _) 1 (.string f.name) rfl;refine Wv (.string f.name) ?_ (r:=by go_simp);clear m2;refine Wv (.bool (e.name.toList == f.name.toList)) ?_;obtain ⟨q,hq⟩:∃ q,(e.name.toList == f.name.toList)=q:=⟨_,rfl⟩
  rw [hq];cases q with
  |false=>
   have tt:¬ e.name=f.name:=(by intro h;rw [h] at hq;simp at hq)
   exact Uf 4 (.bool false) (by kernel_rfl) (by intro a' h4 hd;simp only [Exit.then];refine hK2 _ _ ?_;go_wp2;exact Br (v:=.bool false) ((results_tmp Tryz.results154 a'.tmps _ _).trans (by rw [h4])) hd ⟨⟨false,rfl,⟨fun h=>(by cases h),fun h=>absurd (by rw [h]) tt⟩⟩,HB2.out⟩)
  |true=>
   have k1:e.name=f.name:=(by have h:=beq_iff_eq.1 hq;rw [V2,V2] at h;exact Yp h)
   clear hq;refine Wv (.bool true) ?_;refine Wv (.bool true) ?_;refine Wv (.pointer (some ⟨w.heap.size,2,none⟩)) ?_;refine Uk (by kernel_rfl) 27 _ rfl w.heap.size 2 rfl (dC e.d) _ HM1.out Tryz.underlying27 rfl (by kernel_rfl) ?_;simp only [Act.put,Sv,Sz,Sw];refine Wv (.pointer (some ⟨w.heap.size+1,2,none⟩)) ?_;refine Uk (by kernel_rfl) 27 _ rfl (w.heap.size+1) 2 rfl (dC f.d) _ HM2.out Tryz.underlying27 rfl (by kernel_rfl) ?_;simp only [Act.put,Sv,Sz,Sw];refine Fw (by kernel_rfl) (.bool zd) (exec_bin rfl rfl rfl (by kernel_rfl) (hzr _)) ?_;simp only [Act.put,Sv,Sz,Sw];obtain ⟨q,hq⟩:∃ q,zd=q:=⟨_,rfl⟩
   rw [hq];cases q with
   |false=>
    have tt:¬ e.d=f.d:=(fun h=>by rw [hzd.2 h] at hq;cases hq)
    exact Uf 4 (.bool false) (by kernel_rfl) (by intro a' h4 hd;simp only [Exit.then];refine hK2 _ _ ?_;go_wp2;exact Br (v:=.bool false) ((results_tmp Tryz.results154 a'.tmps _ _).trans (by rw [h4])) hd ⟨⟨false,rfl,⟨fun h=>(by cases h),fun h=>absurd (by rw [h]) tt⟩⟩,HB2.out⟩)
   |true=>
    have k2:e.d=f.d:=hzd.1 hq;clear hq;refine Wv (.bool true) ?_;refine Wv (.bool true) ?_;refine Wv (.pointer (some ⟨w.heap.size,23,none⟩)) ?_;have m1:=HC1.out _ (Bf _ _) 23 (.slice a.aA e.alts.length a.aC) rfl;refine Wv (.slice a.aA e.alts.length a.aC) ?_ (r:=by go_simp);clear m1;refine Wv (.pointer (some ⟨w.heap.size+1,23,none⟩)) ?_;have m2:=HC2.out _ (Bf _ _) 23 (.slice b.aA f.alts.length b.aC) rfl;refine Wv (.slice b.aA f.alts.length b.aC) ?_ (r:=by go_simp);clear m2;refine V0 (by kernel_rfl) 217 #[.slice a.aA e.alts.length a.aC,.slice b.aA f.alts.length b.aC] (by kernel_rfl) ?_;refine (HEI.out _ (Bf _ _)).mono ?_;rintro x w5 ⟨⟨q,rfl,hq⟩,hb⟩;have HB5:=Hd hb;have HB2:=Hd (U0 HB2.out hb HB2.out.size);clear hb;simp only [];simp only [Act.put,Sv,Sz,Sw];cases q with
    |false=>
     have tt:¬ e.alts=f.alts:=(fun h=>by have:=hq.2 h;cases this)
     exact Uf 4 (.bool false) (by kernel_rfl) (by intro a' h4 hd;simp only [Exit.then];refine hK2 _ _ ?_;go_wp2;exact Br (v:=.bool false) ((results_tmp Tryz.results154 a'.tmps _ _).trans (by rw [h4])) hd ⟨⟨false,rfl,⟨fun h=>(by cases h),fun h=>absurd (by rw [h]) tt⟩⟩,HB2.out⟩)
    |true=>
     have k3:e.alts=f.alts:=hq.1 rfl;clear hq;refine Wv (.bool true) ?_;refine Wv (.bool true) ?_;refine Wv (.pointer (some ⟨w.heap.size,24,none⟩)) ?_;have m1:=HC1.out _ HB5.out 24 (.int .i64 e.used) rfl;refine Wv (.int .i64 e.used) ?_ (r:=by go_simp);clear m1;refine Wv (.pointer (some ⟨w.heap.size+1,24,none⟩)) ?_;have m2:=HC2.out _ HB5.out 24 (.int .i64 f.used) rfl;refine Wv (.int .i64 f.used) ?_ (r:=by go_simp);clear m2;refine Wv (.bool (e.used == f.used)) ?_;obtain ⟨q,hq⟩:∃ q,(e.used == f.used)=q:=⟨_,rfl⟩
     rw [hq];cases q with
     |false=>
      have tt:¬ e.used=f.used:=(by intro h;rw [h] at hq;simp at hq)
      exact Uf 4 (.bool false) (by kernel_rfl) (by intro a' h4 hd;simp only [Exit.then];refine hK2 _ _ ?_;go_wp2;exact Br (v:=.bool false) ((results_tmp Tryz.results154 a'.tmps _ _).trans (by rw [h4])) hd ⟨⟨false,rfl,⟨fun h=>(by cases h),fun h=>absurd (by rw [h]) tt⟩⟩,HB2.out⟩)
     |true=>
      have k4:e.used=f.used:=(by simpa using hq)
      clear hq;refine Wv (.bool true) ?_;refine Wv (.bool true) ?_;refine Wv (.pointer (some ⟨w.heap.size,25,none⟩)) ?_;have m1:=HC1.out _ HB5.out 25 (.int .i64 e.limit) rfl;refine Wv (.int .i64 e.limit) ?_ (r:=by go_simp);clear m1;refine Wv (.pointer (some ⟨w.heap.size+1,25,none⟩)) ?_;have m2:=HC2.out _ HB5.out 25 (.int .i64 f.limit) rfl;refine Wv (.int .i64 f.limit) ?_ (r:=by go_simp);clear m2;refine Wv (.bool (e.limit == f.limit)) ?_;obtain ⟨q,hq⟩:∃ q,(e.limit == f.limit)=q:=⟨_,rfl⟩
      rw [hq];cases q with
      |false=>
       have tt:¬ e.limit=f.limit:=(by intro h;rw [h] at hq;simp at hq)
       exact Uf 4 (.bool false) (by kernel_rfl) (by intro a' h4 hd;simp only [Exit.then];refine hK2 _ _ ?_;go_wp2;exact Br (v:=.bool false) ((results_tmp Tryz.results154 a'.tmps _ _).trans (by rw [h4])) hd ⟨⟨false,rfl,⟨fun h=>(by cases h),fun h=>absurd (by rw [h]) tt⟩⟩,HB2.out⟩)
      |true=>
       have k5:e.limit=f.limit:=(by simpa using hq)
       clear hq;refine Wv (.bool true) ?_;refine Wv (.bool true) ?_;refine Wv (.pointer (some ⟨w.heap.size,26,none⟩)) ?_;have m1:=HC1.out _ HB5.out 26 (.int .i64 e.last) rfl;refine Wv (.int .i64 e.last) ?_ (r:=by go_simp);clear m1;refine Wv (.pointer (some ⟨w.heap.size+1,26,none⟩)) ?_;have m2:=HC2.out _ HB5.out 26 (.int .i64 f.last) rfl;refine Wv (.int .i64 f.last) ?_ (r:=by go_simp);clear m2;refine Wv (.bool (e.last == f.last)) ?_;obtain ⟨q,hq⟩:∃ q,(e.last == f.last)=q:=⟨_,rfl⟩
       rw [hq];cases q with
       |false=>
        have tt:¬ e.last=f.last:=(by intro h;rw [h] at hq;simp at hq)
        exact Uf 4 (.bool false) (by kernel_rfl) (by intro a' h4 hd;simp only [Exit.then];refine hK2 _ _ ?_;go_wp2;exact Br (v:=.bool false) ((results_tmp Tryz.results154 a'.tmps _ _).trans (by rw [h4])) hd ⟨⟨false,rfl,⟨fun h=>(by cases h),fun h=>absurd (by rw [h]) tt⟩⟩,HB2.out⟩)
       |true=>
        have k6:e.last=f.last:=(by simpa using hq)
        clear hq;refine Wv (.bool true) ?_;refine Wv (.bool true) ?_;refine Wv (.pointer (some ⟨w.heap.size,27,none⟩)) ?_;have m1:=HC1.out _ HB5.out 27 (.bool e.empty) rfl;refine Wv (.bool e.empty) ?_ (r:=by go_simp);clear m1;refine Wv (.pointer (some ⟨w.heap.size+1,27,none⟩)) ?_;have m2:=HC2.out _ HB5.out 27 (.bool f.empty) rfl;refine Wv (.bool f.empty) ?_ (r:=by go_simp);clear m2;refine Wv (.bool (e.empty == f.empty)) ?_;obtain ⟨q,hq⟩:∃ q,(e.empty == f.empty)=q:=⟨_,rfl⟩
        rw [hq];cases q with
        |false=>
         have tt:¬ e.empty=f.empty:=(by intro h;rw [h] at hq;simp at hq)
         exact Uf 4 (.bool false) (by kernel_rfl) (by intro a' h4 hd;simp only [Exit.then];refine hK2 _ _ ?_;go_wp2;exact Br (v:=.bool false) ((results_tmp Tryz.results154 a'.tmps _ _).trans (by rw [h4])) hd ⟨⟨false,rfl,⟨fun h=>(by cases h),fun h=>absurd (by rw [h]) tt⟩⟩,HB2.out⟩)
        |true=>
         have k7:e.empty=f.empty:=(by simpa using hq)
         clear hq;refine Wv (.bool true) ?_;refine Wv (.bool true) ?_;refine Wv (.pointer (some ⟨w.heap.size,28,none⟩)) ?_;have m1:=HC1.out _ HB5.out 28 (.string e.owner) rfl;refine Wv (.string e.owner) ?_ (r:=by go_simp);clear m1;refine Wv (.pointer (some ⟨w.heap.size+1,28,none⟩)) ?_;have m2:=HC2.out _ HB5.out 28 (.string f.owner) rfl;refine Wv (.string f.owner) ?_ (r:=by go_simp);clear m2;refine Wv (.bool (e.owner.toList == f.owner.toList)) ?_;obtain ⟨q,hq⟩:∃ q,(e.owner.toList == f.owner.toList)=q:=⟨_,rfl⟩
         rw [hq];cases q with
         |false=>
          have tt:¬ e.owner=f.owner:=(by intro h;rw [h] at hq;simp at hq)
          exact Uf 4 (.bool false) (by kernel_rfl) (by intro a' h4 hd;simp only [Exit.then];refine hK2 _ _ ?_;go_wp2;exact Br (v:=.bool false) ((results_tmp Tryz.results154 a'.tmps _ _).trans (by rw [h4])) hd ⟨⟨false,rfl,⟨fun h=>(by cases h),fun h=>absurd (by rw [h]) tt⟩⟩,HB2.out⟩)
         |true=>
          have k8:e.owner=f.owner:=(by have h:=beq_iff_eq.1 hq;rw [V2,V2] at h;exact Yp h)
          clear hq;refine Wv (.bool true) ?_;refine Wv (.bool true) ?_;refine Wv (.pointer (some ⟨w.heap.size,29,none⟩)) ?_;have m1:=HC1.out _ HB5.out 29 (.string e.target) rfl;refine Wv (.string e.target) ?_ (r:=by go_simp);clear m1;refine Wv (.pointer (some ⟨w.heap.size+1,29,none⟩)) ?_;have m2:=HC2.out _ HB5.out 29 (.string f.target) rfl;refine Wv (.string f.target) ?_ (r:=by go_simp);clear m2;refine Wv (.bool (e.target.toList == f.target.toList)) ?_;obtain ⟨q,hq⟩:∃ q,(e.target.toList == f.target.toList)=q:=⟨_,rfl⟩
          rw [hq];cases q with
          |false=>
           have tt:¬ e.target=f.target:=(by intro h;rw [h] at hq;simp at hq)
           exact Uf 4 (.bool false) (by kernel_rfl) (by intro a' h4 hd;simp only [Exit.then];refine hK2 _ _ ?_;go_wp2;exact Br (v:=.bool false) ((results_tmp Tryz.results154 a'.tmps _ _).trans (by rw [h4])) hd ⟨⟨false,rfl,⟨fun h=>(by cases h),fun h=>absurd (by rw [h]) tt⟩⟩,HB2.out⟩)
          |true=>
           have k9:e.target=f.target:=(by have h:=beq_iff_eq.1 hq;rw [V2,V2] at h;exact Yp h)
           clear hq;refine Wv (.bool true) ?_;refine Wv (.bool true) ?_;refine Wv (.pointer (some ⟨w.heap.size,30,none⟩)) ?_;have m1:=HC1.out _ HB5.out 30 (.int .i64 e.catalog) rfl;refine Wv (.int .i64 e.catalog) ?_ (r:=by go_simp);clear m1;refine Wv (.pointer (some ⟨w.heap.size+1,30,none⟩)) ?_;have m2:=HC2.out _ HB5.out 30 (.int .i64 f.catalog) rfl;refine Wv (.int .i64 f.catalog) ?_ (r:=by go_simp);clear m2;refine Wv (.bool (e.catalog == f.catalog)) ?_;obtain ⟨q,hq⟩:∃ q,(e.catalog == f.catalog)=q:=⟨_,rfl⟩
           rw [hq];cases q with
           |false=>
            have tt:¬ e.catalog=f.catalog:=(by intro h;rw [h] at hq;simp at hq)
            exact Uf 4 (.bool false) (by kernel_rfl) (by intro a' h4 hd;simp only [Exit.then];refine hK2 _ _ ?_;go_wp2;exact Br (v:=.bool false) ((results_tmp Tryz.results154 a'.tmps _ _).trans (by rw [h4])) hd ⟨⟨false,rfl,⟨fun h=>(by cases h),fun h=>absurd (by rw [h]) tt⟩⟩,HB2.out⟩)
           |true=>
            have k10:e.catalog=f.catalog:=(by simpa using hq)
            clear hq;refine Wv (.bool true) ?_;refine Wv (.bool true) ?_;refine Wv (.pointer (some ⟨w.heap.size,31,none⟩)) ?_;have m1:=HC1.out _ HB5.out 31 (.int .i64 e.level) rfl;refine Wv (.int .i64 e.level) ?_ (r:=by go_simp);clear m1;refine Wv (.pointer (some ⟨w.heap.size+1,31,none⟩)) ?_;have m2:=HC2.out _ HB5.out 31 (.int .i64 f.level) rfl;refine Wv (.int .i64 f.level) ?_ (r:=by go_simp);clear m2;refine Wv (.bool (e.level == f.level)) ?_;obtain ⟨q,hq⟩:∃ q,(e.level == f.level)=q:=⟨_,rfl⟩
            rw [hq];cases q with
            |false=>
             have tt:¬ e.level=f.level:=(by intro h;rw [h] at hq;simp at hq)
             exact Uf 4 (.bool false) (by kernel_rfl) (by intro a' h4 hd;simp only [Exit.then];refine hK2 _ _ ?_;go_wp2;exact Br (v:=.bool false) ((results_tmp Tryz.results154 a'.tmps _ _).trans (by rw [h4])) hd ⟨⟨false,rfl,⟨fun h=>(by cases h),fun h=>absurd (by rw [h]) tt⟩⟩,HB2.out⟩)
            |true=>
             have k11:e.level=f.level:=(by simpa using hq)
             clear hq;refine Wv (.bool true) ?_;refine Wv (.bool true) ?_;refine Wv (.pointer (some ⟨w.heap.size,32,none⟩)) ?_;have m1:=HC1.out _ HB5.out 32 (.slice a.gA e.grants.length a.gC) rfl;refine Wv (.slice a.gA e.grants.length a.gC) ?_ (r:=by go_simp);clear m1;refine Wv (.pointer (some ⟨w.heap.size+1,32,none⟩)) ?_;have m2:=HC2.out _ HB5.out 32 (.slice b.gA f.grants.length b.gC) rfl;refine Wv (.slice b.gA f.grants.length b.gC) ?_ (r:=by go_simp);clear m2;refine V0 (by kernel_rfl) 218 #[.slice a.gA e.grants.length a.gC,.slice b.gA f.grants.length b.gC] (by kernel_rfl) ?_;refine (HEG.out _ HB5.out).mono ?_;rintro x w6 ⟨⟨q,rfl,hq⟩,hb⟩;have HB2:=Hd (U0 HB2.out hb HB2.out.size);clear hb;simp only [];simp only [Act.put,Sv,Sz,Sw];cases q with
             |false=>
              have tt:¬ e.grants=f.grants:=(fun h=>by have:=hq.2 h;cases this)
              exact Uf 4 (.bool false) (by kernel_rfl) (by intro a' h4 hd;simp only [Exit.then];refine hK2 _ _ ?_;go_wp2;exact Br (v:=.bool false) ((results_tmp Tryz.results154 a'.tmps _ _).trans (by rw [h4])) hd ⟨⟨false,rfl,⟨fun h=>(by cases h),fun h=>absurd (by rw [h]) tt⟩⟩,HB2.out⟩)
             |true=>
              have k12:e.grants=f.grants:=hq.1 rfl;clear hq;exact Uf 4 (.bool true) (by kernel_rfl) (by intro a' h4 hd;simp only [Exit.then];refine hK2 _ _ ?_;go_wp2;exact Br (v:=.bool true) ((results_tmp Tryz.results154 a'.tmps _ _).trans (by rw [h4])) hd ⟨⟨true,rfl,⟨fun _=>en_ext k0 k1 k2 k3 k4 k5 k6 k7 k8 k9 k10 k11 k12,fun _=>rfl⟩⟩,HB2.out⟩)
end
section
set_option maxRecDepth 100000
open Go.RowKit
theorem min_any (A:Option Addr) (n c:Nat) (l:List Int) (w:World) (hs:Sl V3 1 w w.heap.size A n c l) (hn:1≤n) (hn2:n≤1000):
  Calls prog 255 #[.slice A n c] w fun e w'=>(∃ m:Int,e = .returned (.int .i64 m)∧m∈l∧∀ x∈l,m≤x)∧w=w':=by
 have HS:=Hd hs;have HL:=Hd hs.len;obtain ⟨b,o,x0,rfl,hb,hg,hcell⟩:=Sl.cell (f:=V3) (k:=1) (fun _=>rfl) hs (show 0<n by omega);have c0:=hcell 0 _ rfl;simp only [Nat.add_zero,Nat.zero_mul] at c0;have HG:=Hd hg;clear hs hg hcell hb;go_enter Tryz.func255,Tryz.ntmps255;go_wp2;go_loopw [3,4] (fun v i wr => ∃ (j:Nat) (m:Int),1≤j∧j≤n∧i = .int .i64 j∧v = .int .i64 m∧m∈l∧(∀ t,t<j→∀ x,l[t]? =some x→m≤x)∧wr=w) (fun _ i _=>n-(intOf i).toNat)
 case atStart=>
  refine ⟨1,x0,Le _,hn,rfl,rfl,List.mem_of_getElem? HG.out,fun t ht x hx=>?_,rfl⟩;obtain rfl:t=0:=by omega
  rw [HG.out] at hx;injection hx with hx
  omega
 case round=>
  obtain ⟨j,m,j1,hj,rfl,rfl,hm,hall,rfl⟩:=hrel;have HA:=Hd hall;have HM:=Hd hm;clear hall hm c0;by_cases hlt:j<n
  ·obtain ⟨b2,o2,x,hbo,hb,hg,hcell⟩:=Sl.cell (f:=V3) (k:=1) (fun _=>rfl) HS.out hlt
   injection hbo with hbo
   injection hbo with e1 e2
   subst e1 e2;have c0:=hcell 0 _ rfl;simp only [Nat.add_zero,Nat.mul_one] at c0;have HX:=Hd hg;clear hg hcell hb;by_cases hle:m≤x
   ·have hmin:min m x=m:=by omega
    go_wp2;go_roundw
    case rel=>
     refine ⟨j+1,m,by omega,by omega,by go_num,by first|(simp;done)|(simp;omega),HM.out,fun t ht y hy=>?_,trivial⟩;by_cases h:t=j
     ·subst h;rw [HX.out] at hy;injection hy with hy;omega
     ·have:=HA.out t (by omega) y hy;omega
    case measure=>simp [intOf];omega
   ·have hmin:min m x=x:=by omega
    go_wp2;go_roundw
    case rel=>
     refine ⟨j+1,x,by omega,by omega,by go_num,by first|(simp;done)|(simp;omega),List.mem_of_getElem? HX.out,fun t ht y hy=>?_,trivial⟩;by_cases h:t=j
     ·subst h;rw [HX.out] at hy;injection hy with hy;omega
     ·have:=HA.out t (by omega) y hy;omega
    case measure=>simp [intOf];omega
  ·obtain rfl:j=n:=by omega
   go_wp2;go_ret;refine ⟨⟨m,rfl,HM.out,fun x hx=>?_⟩,rfl⟩;obtain ⟨t,ht,rfl⟩:=List.getElem_of_mem hx;exact HA.out t (by rw [←HL.out];exact ht) _ (List.getElem?_eq_getElem ht)
theorem max_any (A:Option Addr) (n c:Nat) (l:List Int) (w:World) (hs:Sl V3 1 w w.heap.size A n c l) (hn:1≤n) (hn2:n≤1000):
  Calls prog 256 #[.slice A n c] w fun e w'=>(∃ m:Int,e = .returned (.int .i64 m)∧m∈l∧∀ x∈l,x≤m)∧w=w':=by
 have HS:=Hd hs;have HL:=Hd hs.len;obtain ⟨b,o,x0,rfl,hb,hg,hcell⟩:=Sl.cell (f:=V3) (k:=1) (fun _=>rfl) hs (show 0<n by omega);have c0:=hcell 0 _ rfl;simp only [Nat.add_zero,Nat.zero_mul] at c0;have HG:=Hd hg;clear hs hg hcell hb;go_enter Tryz.func256,Tryz.ntmps256;go_wp2;go_loopw [3,4] (fun v i wr => ∃ (j:Nat) (m:Int),1≤j∧j≤n∧i = .int .i64 j∧v = .int .i64 m∧m∈l∧(∀ t,t<j→∀ x,l[t]? =some x→x≤m)∧wr=w) (fun _ i _=>n-(intOf i).toNat)
 case atStart=>
  refine ⟨1,x0,Le _,hn,rfl,rfl,List.mem_of_getElem? HG.out,fun t ht x hx=>?_,rfl⟩;obtain rfl:t=0:=by omega
  rw [HG.out] at hx;injection hx with hx
  omega
 case round=>
  obtain ⟨j,m,j1,hj,rfl,rfl,hm,hall,rfl⟩:=hrel;have HA:=Hd hall;have HM:=Hd hm;clear hall hm c0;by_cases hlt:j<n
  ·obtain ⟨b2,o2,x,hbo,hb,hg,hcell⟩:=Sl.cell (f:=V3) (k:=1) (fun _=>rfl) HS.out hlt
   injection hbo with hbo
   injection hbo with e1 e2
   subst e1 e2;have c0:=hcell 0 _ rfl;simp only [Nat.add_zero,Nat.mul_one] at c0;have HX:=Hd hg;clear hg hcell hb;by_cases hle:m≤x
   ·have hmin:max m x=x:=by omega
    go_wp2;go_roundw
    case rel=>
     refine ⟨j+1,x,by omega,by omega,by go_num,by first|(simp;done)|(simp;omega),List.mem_of_getElem? HX.out,fun t ht y hy=>?_,trivial⟩;by_cases h:t=j
     ·subst h;rw [HX.out] at hy;injection hy with hy;omega
     ·have:=HA.out t (by omega) y hy;omega
    case measure=>simp [intOf];omega
   ·have hmin:max m x=m:=by omega
    go_wp2;go_roundw
    case rel=>
     refine ⟨j+1,m,by omega,by omega,by go_num,by first|(simp;done)|(simp;omega),HM.out,fun t ht y hy=>?_,trivial⟩;by_cases h:t=j
     ·subst h;rw [HX.out] at hy;injection hy with hy;omega
     ·have:=HA.out t (by omega) y hy;omega
    case measure=>simp [intOf];omega
  ·obtain rfl:j=n:=by omega
   go_wp2;go_ret;refine ⟨⟨m,rfl,HM.out,fun x hx=>?_⟩,rfl⟩;obtain ⟨t,ht,rfl⟩:=List.getElem_of_mem hx;exact HA.out t (by rw [←HL.out];exact ht) _ (List.getElem?_eq_getElem ht)
def wiB (lo hi:Int) (l:List Int):Bool:=l.all (Y3 · lo hi)
theorem wiB_mm {lo hi a b:Int} {l:List Int} (ha:a∈l) (ha2:∀ x∈l,a≤x) (hb:b∈l) (hb2:∀ x∈l,x≤b):wiB lo hi l=(decide (lo≤a)&&decide (b≤hi)):=by
 unfold wiB;rw [Bool.eq_iff_iff];simp only [List.all_eq_true,winB_true,Bool.and_eq_true,decide_eq_true_eq];exact ⟨fun h=>⟨(h a ha).1,(h b hb).2⟩,fun h x hx=>⟨by have:=ha2 x hx;omega,by have:=hb2 x hx;omega⟩⟩
theorem has_min:∀ l:List Int,l≠[]→∃ a∈l,∀ x∈l,a≤x
 | [],h=>absurd rfl h
 | [y],_=>⟨y,by simp,fun x hx=>by simp at hx;omega⟩
 |y::z::r,_=>by
  obtain ⟨a,ha,h⟩:=has_min (z::r) (by simp);by_cases hy:y≤a
  ·exact ⟨y,by simp,fun x hx=>by rcases List.mem_cons.1 hx with rfl|hx;omega;have:=h x hx;omega⟩
  ·exact ⟨a,List.mem_cons_of_mem _ ha,fun x hx=>by rcases List.mem_cons.1 hx with rfl|hx;omega;exact h x hx⟩
theorem has_max:∀ l:List Int,l≠[]→∃ a∈l,∀ x∈l,x≤a
 | [],h=>absurd rfl h
 | [y],_=>⟨y,by simp,fun x hx=>by simp at hx;omega⟩
 |y::z::r,_=>by
  obtain ⟨a,ha,h⟩:=has_max (z::r) (by simp);by_cases hy:a≤y
  ·exact ⟨y,by simp,fun x hx=>by rcases List.mem_cons.1 hx with rfl|hx;omega;have:=h x hx;omega⟩
  ·exact ⟨a,List.mem_cons_of_mem _ ha,fun x hx=>by rcases List.mem_cons.1 hx with rfl|hx;omega;exact h x hx⟩
theorem V5 (lo hi:Int) (A:Option Addr) (n c:Nat) (l:List Int) (w:World) (hs:Sl V3 1 w w.heap.size A n c l) (hn2:n≤1000):
  Calls prog 196 #[.int .i64 lo,.int .i64 hi,.slice A n c] w fun e w'=>e = .returned (.bool (wiB lo hi l))∧w=w':=by
 have hlen:=hs.len;by_cases h0:n=0
 ·subst h0
  have hl:l = []:=List.eq_nil_of_length_eq_zero hlen;subst hl;clear hs hlen;go_enter Tryz.func196,Tryz.ntmps196;go_wp2;go_ret;exact ⟨rfl,rfl⟩
 ·have hp:1≤n:=by omega
  have hne:l≠[]:=fun h=>by subst h;simp at hlen;omega
  obtain ⟨a,ha,ha2⟩:=has_min l hne;obtain ⟨b,hb,hb2⟩:=has_max l hne;rw [wiB_mm ha ha2 hb hb2]
  have HMI:Hid (Calls prog 255 #[.slice A n c] w fun e w'=>e = .returned (.int .i64 a)∧w=w'):=Hd ((min_any A n c l w hs hp hn2).mono (by
   rintro e w' ⟨⟨m,rfl,hm,hm2⟩,rfl⟩;have h1:=hm2 a ha;have h2:=ha2 m hm;obtain rfl:m=a:=by omega
   exact ⟨rfl,rfl⟩))
  have HMA:Hid (Calls prog 256 #[.slice A n c] w fun e w'=>e = .returned (.int .i64 b)∧w=w'):=Hd ((max_any A n c l w hs hp hn2).mono (by
   rintro e w' ⟨⟨m,rfl,hm,hm2⟩,rfl⟩;have h1:=hm2 b hb;have h2:=hb2 m hm;obtain rfl:m=b:=by omega
   exact ⟨rfl,rfl⟩))
  have e0:((n:Int) == 0)=false:=by simp;omega
  obtain ⟨p,hp1⟩:∃ p,decide (lo≤a)=p:=⟨_,rfl⟩
  obtain ⟨q,hq1⟩:∃ q,decide (b≤hi)=q:=⟨_,rfl⟩
  rw [hp1,hq1];clear hs hlen h0 hne ha ha2 hb hb2 hp hn2;cases p
  all_goals
   go_enter Tryz.func196,Tryz.ntmps196;go_wp2_with (first|(go_at_call 255;refine HMI.out.mono ?_;rintro e w1 ⟨rfl,rfl⟩)|(go_at_call 256;refine HMA.out.mono ?_;rintro e w1 ⟨rfl,rfl⟩));go_ret;exact ⟨by simp,rfl⟩
end
end Go.Proofs.YtapanepkfbamhaaGreatDoor
