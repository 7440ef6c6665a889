/- Of HistorySwaps. -/
import Derived.Test.YtoakknkmjnebjaaGreatDoorSAR
import Derived.Test.YtoakknkmjnebjaaGreatDoorShelfS
namespace Go.Proofs.YtoakknkmjnebjaaGreatDoor
open Tryz (prog)
set_option maxRecDepth 100000
set_option maxHeartbeats 4000000
open Go.RowKit
def Dec (p:Prop) (w:Wd) (e:Ending) (w':Wd):Prop:=(∃ z:Bool,e = .returned (.bool z)∧(z=true↔p))∧Below w.heap.size w w'
def dsetB (x y:DSet):Bool:=decide (x.id=y.id)&&decide (x.org=y.org)&&decide (x.fmt=y.fmt)&&decide (x.len=y.len)&&decide (x.blk=y.blk)&&decide (x.kat=y.kat)&&decide (x.kln=y.kln)&&decide (x.itv=y.itv)&&decide (x.area=y.area)&&decide (x.fi=y.fi)&&decide (x.fa=y.fa)&&decide (x.base=y.base)&&decide (x.aat=y.aat)&&decide (x.aln=y.aln)&&decide (x.uniq=y.uniq)&&decide (x.cls=y.cls)&&decide (x.vol.toList=y.vol.toList)&&decide (x.own.toList=y.own.toList)&&decide (x.cre=y.cre)&&decide (x.exp=y.exp)&&decide (x.arch=y.arch)
theorem dsetB_iff (x y:DSet):dsetB x y=true↔x=y:=by
 unfold dsetB;simp only [Bool.and_eq_true,decide_eq_true_eq];constructor
 ·rintro ⟨⟨⟨⟨⟨⟨⟨⟨⟨⟨⟨⟨⟨⟨⟨⟨⟨⟨⟨⟨h0,h1⟩,h2⟩,h3⟩,h4⟩,h5⟩,h6⟩,h7⟩,h8⟩,h9⟩,h10⟩,h11⟩,h12⟩,h13⟩,h14⟩,h15⟩,h16⟩,h17⟩,h18⟩,h19⟩,h20⟩;rw [Uv,Uv] at h16 h17;have e16:=Yh h16;have e17:=Yh h17;obtain ⟨x0,x1,x2,x3,x4,x5,x6,x7,x8,x9,x10,x11,x12,x13,x14,x15,x16,x17,x18,x19,x20⟩:=x;obtain ⟨y0,y1,y2,y3,y4,y5,y6,y7,y8,y9,y10,y11,y12,y13,y14,y15,y16,y17,y18,y19,y20⟩:=y;simp only at h0 h1 h2 h3 h4 h5 h6 h7 h8 h9 h10 h11 h12 h13 h14 h15 e16 e17 h18 h19 h20;subst h0 h1 h2 h3 h4 h5 h6 h7 h8 h9 h10 h11 h12 h13 h14 h15 e16 e17 h18 h19 h20;rfl
 ·intro h;subst h;simp
theorem dset_run (x y:DSet) (W:Wd):(binOp .eql 27 (.agg (dC x).toArray) (.agg (dC y).toArray)).run prog W = .ok (.bool (dsetB x y)) W:=by
 unfold dsetB dC;go_simp;by_cases k0:x.id=y.id;rotate_left
 ·rw [if_neg k0,decide_eq_false k0];simp
 rw [if_pos k0,decide_eq_true k0];by_cases k1:x.org=y.org;rotate_left
 ·rw [if_neg k1,decide_eq_false k1];simp
 rw [if_pos k1,decide_eq_true k1];by_cases k2:x.fmt=y.fmt;rotate_left
 ·rw [if_neg k2,decide_eq_false k2];simp
 rw [if_pos k2,decide_eq_true k2];by_cases k3:x.len=y.len;rotate_left
 ·rw [if_neg k3,decide_eq_false k3];simp
 rw [if_pos k3,decide_eq_true k3];by_cases k4:x.blk=y.blk;rotate_left
 ·rw [if_neg k4,decide_eq_false k4];simp
 rw [if_pos k4,decide_eq_true k4];by_cases k5:x.kat=y.kat;rotate_left
 ·rw [if_neg k5,decide_eq_false k5];simp
 rw [if_pos k5,decide_eq_true k5];by_cases k6:x.kln=y.kln;rotate_left
 ·rw [if_neg k6,decide_eq_false k6];simp
 rw [if_pos k6,decide_eq_true k6];by_cases k7:x.itv=y.itv;rotate_left
 ·rw [if_neg k7,decide_eq_false k7];simp
 rw [if_pos k7,decide_eq_true k7];by_cases k8:x.area=y.area;rotate_left
 ·rw [if_neg k8,decide_eq_false k8];simp
 rw [if_pos k8,decide_eq_true k8];by_cases k9:x.fi=y.fi;rotate_left
 ·rw [if_neg k9,decide_eq_false k9];simp
 rw [if_pos k9,decide_eq_true k9];by_cases k10:x.fa=y.fa;rotate_left
 ·rw [if_neg k10,decide_eq_false k10];simp
 rw [if_pos k10,decide_eq_true k10];by_cases k11:x.base=y.base;rotate_left
 ·rw [if_neg k11,decide_eq_false k11];simp
 rw [if_pos k11,decide_eq_true k11];by_cases k12:x.aat=y.aat;rotate_left
 ·rw [if_neg k12,decide_eq_false k12];simp
 rw [if_pos k12,decide_eq_true k12];by_cases k13:x.aln=y.aln;rotate_left
 ·rw [if_neg k13,decide_eq_false k13];simp
 rw [if_pos k13,decide_eq_true k13];by_cases k14:x.uniq=y.uniq;rotate_left
 ·rw [if_neg k14,decide_eq_false k14];simp
 rw [if_pos k14,decide_eq_true k14];by_cases k15:x.cls=y.cls;rotate_left
 ·rw [if_neg k15,decide_eq_false k15];simp
 rw [if_pos k15,decide_eq_true k15];by_cases k16:x.vol.toList=y.vol.toList;rotate_left
 ·rw [if_neg k16,decide_eq_false k16];simp
 rw [if_pos k16,decide_eq_true k16];by_cases k17:x.own.toList=y.own.toList;rotate_left
 ·rw [if_neg k17,decide_eq_false k17];simp
 rw [if_pos k17,decide_eq_true k17];by_cases k18:x.cre=y.cre;rotate_left
 ·rw [if_neg k18,decide_eq_false k18];simp
 rw [if_pos k18,decide_eq_true k18];by_cases k19:x.exp=y.exp;rotate_left
 ·rw [if_neg k19,decide_eq_false k19];simp
 rw [if_pos k19,decide_eq_true k19];by_cases k20:x.arch=y.arch;rotate_left
 ·rw [if_neg k20,decide_eq_false k20];simp
 rw [if_pos k20,decide_eq_true k20];rfl
theorem dset_eq (x y:DSet):∃ z:Bool,(z=true↔x=y)∧∀ W:Wd,(binOp .eql 27 (.agg (dC x).toArray) (.agg (dC y).toArray)).run prog W = .ok (.bool z) W:=
 ⟨dsetB x y,dsetB_iff x y,dset_run x y⟩
theorem dC_in (e:En) (a:EnA) (j:Nat) (hj:j<21):(enC e a)[2+j]? =(dC e.d)[j]?:=by
 have h:enC e a = [.int .i64 e.kind,.string e.name]++(dC e.d++(enC e a).drop 23):=rfl;rw [h,List.getElem?_append_right (by simp),List.getElem?_append_left (by rw [dC_len];simp;exact hj)];congr 1;simp
theorem en_ext {e f:En} (h0:e.kind=f.kind) (h1:e.name=f.name) (h2:e.d=f.d) (h3:e.alts=f.alts) (h4:e.used=f.used) (h5:e.limit=f.limit) (h6:e.last=f.last) (h7:e.empty=f.empty) (h8:e.owner=f.owner) (h9:e.target=f.target) (h10:e.catalog=f.catalog) (h11:e.level=f.level) (h12:e.grants=f.grants):e=f:=by
 obtain ⟨x0,x1,x2,x3,x4,x5,x6,x7,x8,x9,x10,x11,x12⟩:=e;obtain ⟨y0,y1,y2,y3,y4,y5,y6,y7,y8,y9,y10,y11,y12⟩:=f;simp only at h0 h1 h2 h3 h4 h5 h6 h7 h8 h9 h10 h11 h12;subst h0 h1 h2 h3 h4 h5 h6 h7 h8 h9 h10 h11 h12;rfl
theorem same_any (e f:En) (a b:EnA) (w:Wd) (he:EW [] w e a) (hf:EW [] w f b) (h1:e.alts.length≤1000) (h2:f.alts.length≤1000) (h3:e.grants.length≤1000) (h4:f.grants.length≤1000):
  Calls prog 154 #[.agg (enC e a).toArray,.agg (enC f b).toArray] w (Dec (e=f) w):=by
 have aF:Below w.heap.size w ((w.alloc (.cells (enC e a).toArray 159)).alloc (.cells (enC f b).toArray 159)):=((Bf _ _).alloc (Le _) _).alloc (by simp) _;have k1:Blk ((w.alloc (.cells (enC e a).toArray 159)).alloc (.cells (enC f b).toArray 159)) w.heap.size 159 (enC e a).toArray:=(Blk.new w _ _).alloc _;have k2:Blk ((w.alloc (.cells (enC e a).toArray 159)).alloc (.cells (enC f b).toArray 159)) (w.heap.size+1) 159 (enC f b).toArray:=U3 (w.alloc (.cells (enC e a).toArray 159)) _ _ (w.heap.size+1) (by simp);have fF:Hid (∀ W,Below ((w.alloc (.cells (enC e a).toArray 159)).alloc (.cells (enC f b).toArray 159)).heap.size ((w.alloc (.cells (enC e a).toArray 159)).alloc (.cells (enC f b).toArray 159)) W→∀ i v,(enC e a)[i]? =some v→W.cell? ⟨w.heap.size,i,none⟩=some v):=Hd fun W hb i v hv=>by rw [(k1.below hb k1.lt).cell];simpa using hv
 have i7:Hid (∀ W,Below ((w.alloc (.cells (enC e a).toArray 159)).alloc (.cells (enC f b).toArray 159)).heap.size ((w.alloc (.cells (enC e a).toArray 159)).alloc (.cells (enC f b).toArray 159)) W→∀ i v,(enC f b)[i]? =some v→W.cell? ⟨w.heap.size+1,i,none⟩=some v):=Hd fun W hb i v hv=>by rw [(k2.below hb k2.lt).cell];simpa using hv
 have HEI:Hid (∀ W,Below ((w.alloc (.cells (enC e a).toArray 159)).alloc (.cells (enC f b).toArray 159)).heap.size ((w.alloc (.cells (enC e a).toArray 159)).alloc (.cells (enC f b).toArray 159)) W→Calls prog 217 #[.slice a.aA e.alts.length a.aC,.slice b.aA f.alts.length b.aC] W (Dec (e.alts=f.alts) W)):=Hd fun W hb=>eqInts_any _ _ _ _ _ _ _ _ W ((he.below aF).below hb).sa ((hf.below aF).below hb).sa (by omega) (by omega)
 have HEG:Hid (∀ W,Below ((w.alloc (.cells (enC e a).toArray 159)).alloc (.cells (enC f b).toArray 159)).heap.size ((w.alloc (.cells (enC e a).toArray 159)).alloc (.cells (enC f b).toArray 159)) W→Calls prog 218 #[.slice a.gA e.grants.length a.gC,.slice b.gA f.grants.length b.gC] W (Dec (e.grants=f.grants) W)):=Hd fun W hb=>eqGras_any _ _ _ _ _ _ _ _ W ((he.below aF).below hb).sg ((hf.below aF).below hb).sg (by omega) (by omega)
 have HM1:Hid (((w.alloc (.cells (enC e a).toArray 159)).alloc (.cells (enC f b).toArray 159)).rangeAt w.heap.size 2 (dC e.d)):=Hd fun j v hv=>fF.out ((w.alloc (.cells (enC e a).toArray 159)).alloc (.cells (enC f b).toArray 159)) (Bf _ _) (2+j) v (by have hj:j<21:=(List.getElem?_eq_some_iff.1 hv).1;rw [←hv];exact dC_in e a j hj)
 have jQ:Hid (((w.alloc (.cells (enC e a).toArray 159)).alloc (.cells (enC f b).toArray 159)).rangeAt (w.heap.size+1) 2 (dC f.d)):=Hd fun j v hv=>i7.out ((w.alloc (.cells (enC e a).toArray 159)).alloc (.cells (enC f b).toArray 159)) (Bf _ _) (2+j) v (by have hj:j<21:=(List.getElem?_eq_some_iff.1 hv).1;rw [←hv];exact dC_in f b j hj)
 obtain ⟨zd,hzd,hzr⟩:=dset_eq e.d f.d;have aL:=Hd aF;clear he hf h1 h2 h3 h4 aF k1 k2;go_enter Tryz.func154,Tryz.ntmps154;go_wp2_with ((with_reducible show wpList _ _ _ (⟨some 2,_,_,_,_,_⟩::_) _ _);refine Stop.go ?_);refine Stop.in' ?_;rename_i K hK;refine Xa (by kernel_rfl) (.pointer (some ⟨w.heap.size,0,none⟩)) (w.alloc (.cells (enC e a).toArray 159)) (by kernel_rfl) ?_;simp only [Act.put,Sv,Sz,Sw];refine Xa (by kernel_rfl) (.pointer (some ⟨w.heap.size+1,0,none⟩)) ((w.alloc (.cells (enC e a).toArray 159)).alloc (.cells (enC f b).toArray 159)) (by go_simp) ?_;simp only [Act.put,Sv,Sz,Sw];refine Wv (.bool false) ?_;refine wpList_nil ?_;simp only [Exit.then];refine hK _ _ ?_;refine wp_seq_k fun K2 hK2=>?_
 refine wp_region_lit ?_;clear hK;refine Wv (.pointer (some ⟨w.heap.size,0,none⟩)) ?_;have m1:=fF.out _ (Bf _ _) 0 (.int .i64 e.kind) rfl;refine Wv (.int .i64 e.kind) ?_ (r:=by go_simp);clear m1;refine Wv (.pointer (some ⟨w.heap.size+1,0,none⟩)) ?_;have m2:=i7.out _ (Bf _ _) 0 (.int .i64 f.kind) rfl;refine Wv (.int .i64 f.kind) ?_ (r:=by go_simp);clear m2;refine Wv (.bool (e.kind == f.kind)) ?_;obtain ⟨q,hq⟩:∃ q,(e.kind == f.kind)=q:=⟨_,rfl⟩
 rw [hq];cases q with
 |false=>
  have tt:¬ e.kind=f.kind:=(by intro h;rw [h] at hq;simp at hq)
  exact Uh 4 (.bool false) (by kernel_rfl) (by intro a' h4 hd;simp only [Exit.then];refine hK2 _ _ ?_;go_wp2;exact Br (v:=.bool false) ((results_tmp Tryz.results154 a'.tmps _ _).trans (by rw [h4])) hd ⟨⟨false,rfl,⟨fun h=>(by cases h),fun h=>absurd (by rw [h]) tt⟩⟩,aL.out⟩)
 |true=>
  have k0:e.kind=f.kind:=(by simpa using hq)
  clear hq;refine Wv (.bool true) ?_;refine Wv (.pointer (some ⟨w.heap.size,1,none⟩)) ?_;have m1:=fF.out _ (Bf _ _) 1 (.string e.name) rfl;refine Wv (.string e.name) ?_ (r:=by go_simp);clear m1;refine Wv (.pointer (some ⟨w.heap.size+1,1,none⟩)) ?_;have m2:=i7.out _ (Bf _ _) 1 (.string f.name) rfl;refine Wv (.string f.name) ?_ (r:=by go_simp);clear m2;refine Wv (.bool (e.name.toList == f.name.toList)) ?_;obtain ⟨q,hq⟩:∃ q,(e.name.toList == f.name.toList)=q:=⟨_,rfl⟩
  rw [hq];cases q with
  |false=>
   have tt:¬ e.name=f.name:=(by intro h;rw [h] at hq;simp at hq)
   exact Uh 4 (.bool false) (by kernel_rfl) (by intro a' h4 hd;simp only [Exit.then];refine hK2 _ _ ?_;go_wp2;exact Br (v:=.bool false) ((results_tmp Tryz.results154 a'.tmps _ _).trans (by rw [h4])) hd ⟨⟨false,rfl,⟨fun h=>(by cases h),fun h=>absurd (by rw [h]) tt⟩⟩,aL.out⟩)
  |true=>
   have k1:e.name=f.name:=(by have h:=beq_iff_eq.1 hq;rw [Uv,Uv] at h;exact Yh h)
   clear hq;refine Wv (.bool true) ?_;refine Wv (.bool true) ?_;refine Wv (.pointer (some ⟨w.heap.size,2,none⟩)) ?_;refine Ul (by kernel_rfl) 27 _ rfl w.heap.size 2 rfl (dC e.d) _ HM1.out Tryz.underlying27 rfl (by kernel_rfl) ?_;simp only [Act.put,Sv,Sz,Sw];refine Wv (.pointer (some ⟨w.heap.size+1,2,none⟩)) ?_;refine Ul (by kernel_rfl) 27 _ rfl (w.heap.size+1) 2 rfl (dC f.d) _ jQ.out Tryz.underlying27 rfl (by kernel_rfl) ?_;simp only [Act.put,Sv,Sz,Sw];refine J4 (by kernel_rfl) (.bool zd) (exec_bin rfl rfl rfl (by kernel_rfl) (hzr _)) ?_;simp only [Act.put,Sv,Sz,Sw];obtain ⟨q,hq⟩:∃ q,zd=q:=⟨_,rfl⟩
   rw [hq];cases q with
   |false=>
    have tt:¬ e.d=f.d:=(fun h=>by rw [hzd.2 h] at hq;cases hq)
    exact Uh 4 (.bool false) (by kernel_rfl) (by intro a' h4 hd;simp only [Exit.then];refine hK2 _ _ ?_;go_wp2;exact Br (v:=.bool false) ((results_tmp Tryz.results154 a'.tmps _ _).trans (by rw [h4])) hd ⟨⟨false,rfl,⟨fun h=>(by cases h),fun h=>absurd (by rw [h]) tt⟩⟩,aL.out⟩)
   |true=>
    have k2:e.d=f.d:=hzd.1 hq;clear hq;refine Wv (.bool true) ?_;refine Wv (.bool true) ?_;refine Wv (.pointer (some ⟨w.heap.size,23,none⟩)) ?_;have m1:=fF.out _ (Bf _ _) 23 (.slice a.aA e.alts.length a.aC) rfl;refine Wv (.slice a.aA e.alts.length a.aC) ?_ (r:=by go_simp);clear m1;refine Wv (.pointer (some ⟨w.heap.size+1,23,none⟩)) ?_;have m2:=i7.out _ (Bf _ _) 23 (.slice b.aA f.alts.length b.aC) rfl;refine Wv (.slice b.aA f.alts.length b.aC) ?_ (r:=by go_simp);clear m2;refine V7 (by kernel_rfl) 217 #[.slice a.aA e.alts.length a.aC,.slice b.aA f.alts.length b.aC] (by kernel_rfl) ?_;refine (HEI.out _ (Bf _ _)).mono ?_;rintro x w5 ⟨⟨q,rfl,hq⟩,hb⟩;have eB:=Hd hb;have aL:=Hd (U0 aL.out hb aL.out.size);clear hb;simp only [];simp only [Act.put,Sv,Sz,Sw];cases q with
    |false=>
     have tt:¬ e.alts=f.alts:=(fun h=>by have:=hq.2 h;cases this)
     exact Uh 4 (.bool false) (by kernel_rfl) (by intro a' h4 hd;simp only [Exit.then];refine hK2 _ _ ?_;go_wp2;exact Br (v:=.bool false) ((results_tmp Tryz.results154 a'.tmps _ _).trans (by rw [h4])) hd ⟨⟨false,rfl,⟨fun h=>(by cases h),fun h=>absurd (by rw [h]) tt⟩⟩,aL.out⟩)
    |true=>
     have k3:e.alts=f.alts:=hq.1 rfl;clear hq;refine Wv (.bool true) ?_;refine Wv (.bool true) ?_;refine Wv (.pointer (some ⟨w.heap.size,24,none⟩)) ?_;have m1:=fF.out _ eB.out 24 (.int .i64 e.used) rfl;refine Wv (.int .i64 e.used) ?_ (r:=by go_simp);clear m1;refine Wv (.pointer (some ⟨w.heap.size+1,24,none⟩)) ?_;have m2:=i7.out _ eB.out 24 (.int .i64 f.used) rfl;refine Wv (.int .i64 f.used) ?_ (r:=by go_simp);clear m2;refine Wv (.bool (e.used == f.used)) ?_;obtain ⟨q,hq⟩:∃ q,(e.used == f.used)=q:=⟨_,rfl⟩
     rw [hq];cases q with
     |false=>
      have tt:¬ e.used=f.used:=(by intro h;rw [h] at hq;simp at hq)
      exact Uh 4 (.bool false) (by kernel_rfl) (by intro a' h4 hd;simp only [Exit.then];refine hK2 _ _ ?_;go_wp2;exact Br (v:=.bool false) ((results_tmp Tryz.results154 a'.tmps _ _).trans (by rw [h4])) hd ⟨⟨false,rfl,⟨fun h=>(by cases h),fun h=>absurd (by rw [h]) tt⟩⟩,aL.out⟩)
     |true=>
      have k4:e.used=f.used:=(by simpa using hq)
      clear hq;refine Wv (.bool true) ?_;refine Wv (.bool true) ?_;refine Wv (.pointer (some ⟨w.heap.size,25,none⟩)) ?_;have m1:=fF.out _ eB.out 25 (.int .i64 e.limit) rfl;refine Wv (.int .i64 e.limit) ?_ (r:=by go_simp);clear m1;refine Wv (.pointer (some ⟨w.heap.size+1,25,none⟩)) ?_;have m2:=i7.out _ eB.out 25 (.int .i64 f.limit) rfl;refine Wv (.int .i64 f.limit) ?_ (r:=by go_simp);clear m2;refine Wv (.bool (e.limit == f.limit)) ?_;obtain ⟨q,hq⟩:∃ q,(e.limit == f.limit)=q:=⟨_,rfl⟩
      rw [hq];cases q with
      |false=>
       have tt:¬ e.limit=f.limit:=(by intro h;rw [h] at hq;simp at hq)
       exact Uh 4 (.bool false) (by kernel_rfl) (by intro a' h4 hd;simp only [Exit.then];refine hK2 _ _ ?_;go_wp2;exact Br (v:=.bool false) ((results_tmp Tryz.results154 a'.tmps _ _).trans (by rw [h4])) hd ⟨⟨false,rfl,⟨fun h=>(by cases h),fun h=>absurd (by rw [h]) tt⟩⟩,aL.out⟩)
      |true=>
       have k5:e.limit=f.limit:=(by simpa using hq)
       clear hq;refine Wv (.bool true) ?_;refine Wv (.bool true) ?_;refine Wv (.pointer (some ⟨w.heap.size,26,none⟩)) ?_;have m1:=fF.out _ eB.out 26 (.int .i64 e.last) rfl;refine Wv (.int .i64 e.last) ?_ (r:=by go_simp);clear m1;refine Wv (.pointer (some ⟨w.heap.size+1,26,none⟩)) ?_;have m2:=i7.out _ eB.out 26 (.int .i64 f.last) rfl;refine Wv (.int .i64 f.last) ?_ (r:=by go_simp);clear m2;refine Wv (.bool (e.last == f.last)) ?_;obtain ⟨q,hq⟩:∃ q,(e.last == f.last)=q:=⟨_,rfl⟩
       rw [hq];cases q with
       |false=>
        have tt:¬ e.last=f.last:=(by intro h;rw [h] at hq;simp at hq)
        exact Uh 4 (.bool false) (by kernel_rfl) (by intro a' h4 hd;simp only [Exit.then];refine hK2 _ _ ?_;go_wp2;exact Br (v:=.bool false) ((results_tmp Tryz.results154 a'.tmps _ _).trans (by rw [h4])) hd ⟨⟨false,rfl,⟨fun h=>(by cases h),fun h=>absurd (by rw [h]) tt⟩⟩,aL.out⟩)
       |true=>
        have k6:e.last=f.last:=(by simpa using hq)
        clear hq;refine Wv (.bool true) ?_;refine Wv (.bool true) ?_;refine Wv (.pointer (some ⟨w.heap.size,27,none⟩)) ?_;have m1:=fF.out _ eB.out 27 (.bool e.empty) rfl;refine Wv (.bool e.empty) ?_ (r:=by go_simp);clear m1;refine Wv (.pointer (some ⟨w.heap.size+1,27,none⟩)) ?_;have m2:=i7.out _ eB.out 27 (.bool f.empty) rfl;refine Wv (.bool f.empty) ?_ (r:=by go_simp);clear m2;refine Wv (.bool (e.empty == f.empty)) ?_;obtain ⟨q,hq⟩:∃ q,(e.empty == f.empty)=q:=⟨_,rfl⟩
        rw [hq];cases q with
        |false=>
         have tt:¬ e.empty=f.empty:=(by intro h;rw [h] at hq;simp at hq)
         exact Uh 4 (.bool false) (by kernel_rfl) (by intro a' h4 hd;simp only [Exit.then];refine hK2 _ _ ?_;go_wp2;exact Br (v:=.bool false) ((results_tmp Tryz.results154 a'.tmps _ _).trans (by rw [h4])) hd ⟨⟨false,rfl,⟨fun h=>(by cases h),fun h=>absurd (by rw [h]) tt⟩⟩,aL.out⟩)
        |true=>
         have k7:e.empty=f.empty:=(by simpa using hq)
         clear hq;refine Wv (.bool true) ?_;refine Wv (.bool true) ?_;refine Wv (.pointer (some ⟨w.heap.size,28,none⟩)) ?_;have m1:=fF.out _ eB.out 28 (.string e.owner) rfl;refine Wv (.string e.owner) ?_ (r:=by go_simp);clear m1;refine Wv (.pointer (some ⟨w.heap.size+1,28,none⟩)) ?_;have m2:=i7.out _ eB.out 28 (.string f.owner) rfl;refine Wv (.string f.owner) ?_ (r:=by go_simp);clear m2;refine Wv (.bool (e.owner.toList == f.owner.toList)) ?_;obtain ⟨q,hq⟩:∃ q,(e.owner.toList == f.owner.toList)=q:=⟨_,rfl⟩
         rw [hq];cases q with
         |false=>
          have tt:¬ e.owner=f.owner:=(by intro h;rw [h] at hq;simp at hq)
          exact Uh 4 (.bool false) (by kernel_rfl) (by intro a' h4 hd;simp only [Exit.then];refine hK2 _ _ ?_;go_wp2;exact Br (v:=.bool false) ((results_tmp Tryz.results154 a'.tmps _ _).trans (by rw [h4])) hd ⟨⟨false,rfl,⟨fun h=>(by cases h),fun h=>absurd (by rw [h]) tt⟩⟩,aL.out⟩)
         |true=>
          have k8:e.owner=f.owner:=(by have h:=beq_iff_eq.1 hq;rw [Uv,Uv] at h;exact Yh h)
          clear hq;refine Wv (.bool true) ?_;refine Wv (.bool true) ?_;refine Wv (.pointer (some ⟨w.heap.size,29,none⟩)) ?_;have m1:=fF.out _ eB.out 29 (.string e.target) rfl;refine Wv (.string e.target) ?_ (r:=by go_simp);clear m1;refine Wv (.pointer (some ⟨w.heap.size+1,29,none⟩)) ?_;have m2:=i7.out _ eB.out 29 (.string f.target) rfl;refine Wv (.string f.target) ?_ (r:=by go_simp);clear m2;refine Wv (.bool (e.target.toList == f.target.toList)) ?_;obtain ⟨q,hq⟩:∃ q,(e.target.toList == f.target.toList)=q:=⟨_,rfl⟩
          rw [hq];cases q with
          |false=>
           have tt:¬ e.target=f.target:=(by intro h;rw [h] at hq;simp at hq)
           exact Uh 4 (.bool false) (by kernel_rfl) (by intro a' h4 hd;simp only [Exit.then];refine hK2 _ _ ?_;go_wp2;exact Br (v:=.bool false) ((results_tmp Tryz.results154 a'.tmps _ _).trans (by rw [h4])) hd ⟨⟨false,rfl,⟨fun h=>(by cases h),fun h=>absurd (by rw [h]) tt⟩⟩,aL.out⟩)
          |true=>
           have k9:e.target=f.target:=(by have h:=beq_iff_eq.1 hq;rw [Uv,Uv] at h;exact Yh h)
           clear hq;refine Wv (.bool true) ?_;refine Wv (.bool true) ?_;refine Wv (.pointer (some ⟨w.heap.size,30,none⟩)) ?_;have m1:=fF.out _ eB.out 30 (.int .i64 e.catalog) rfl;refine Wv (.int .i64 e.catalog) ?_ (r:=by go_simp);clear m1;refine Wv (.pointer (some ⟨w.heap.size+1,30,none⟩)) ?_;have m2:=i7.out _ eB.out 30 (.int .i64 f.catalog) rfl;refine Wv (.int .i64 f.catalog) ?_ (r:=by go_simp);clear m2;refine Wv (.bool (e.catalog == f.catalog)) ?_;obtain ⟨q,hq⟩:∃ q,(e.catalog == f.catalog)=q:=⟨_,rfl⟩
           rw [hq];cases q with
           |false=>
            have tt:¬ e.catalog=f.catalog:=(by intro h;rw [h] at hq;simp at hq)
            exact Uh 4 (.bool false) (by kernel_rfl) (by intro a' h4 hd;simp only [Exit.then];refine hK2 _ _ ?_;go_wp2;exact Br (v:=.bool false) ((results_tmp Tryz.results154 a'.tmps _ _).trans (by rw [h4])) hd ⟨⟨false,rfl,⟨fun h=>(by cases h),fun h=>absurd (by rw [h]) tt⟩⟩,aL.out⟩)
           |true=>
            have k10:e.catalog=f.catalog:=(by simpa using hq)
            clear hq;refine Wv (.bool true) ?_;refine Wv (.bool true) ?_;refine Wv (.pointer (some ⟨w.heap.size,31,none⟩)) ?_;have m1:=fF.out _ eB.out 31 (.int .i64 e.level) rfl;refine Wv (.int .i64 e.level) ?_ (r:=by go_simp);clear m1;refine Wv (.pointer (some ⟨w.heap.size+1,31,none⟩)) ?_;have m2:=i7.out _ eB.out 31 (.int .i64 f.level) rfl;refine Wv (.int .i64 f.level) ?_ (r:=by go_simp);clear m2;refine Wv (.bool (e.level == f.level)) ?_;obtain ⟨q,hq⟩:∃ q,(e.level == f.level)=q:=⟨_,rfl⟩
            rw [hq];cases q with
            |false=>
             have tt:¬ e.level=f.level:=(by intro h;rw [h] at hq;simp at hq)
             exact Uh 4 (.bool false) (by kernel_rfl) (by intro a' h4 hd;simp only [Exit.then];refine hK2 _ _ ?_;go_wp2;exact Br (v:=.bool false) ((results_tmp Tryz.results154 a'.tmps _ _).trans (by rw [h4])) hd ⟨⟨false,rfl,⟨fun h=>(by cases h),fun h=>absurd (by rw [h]) tt⟩⟩,aL.out⟩)
            |true=>
             have k11:e.level=f.level:=(by simpa using hq)
             clear hq;refine Wv (.bool true) ?_;refine Wv (.bool true) ?_;refine Wv (.pointer (some ⟨w.heap.size,32,none⟩)) ?_;have m1:=fF.out _ eB.out 32 (.slice a.gA e.grants.length a.gC) rfl;refine Wv (.slice a.gA e.grants.length a.gC) ?_ (r:=by go_simp);clear m1;refine Wv (.pointer (some ⟨w.heap.size+1,32,none⟩)) ?_;have m2:=i7.out _ eB.out 32 (.slice b.gA f.grants.length b.gC) rfl;refine Wv (.slice b.gA f.grants.length b.gC) ?_ (r:=by go_simp);clear m2;refine V7 (by kernel_rfl) 218 #[.slice a.gA e.grants.length a.gC,.slice b.gA f.grants.length b.gC] (by kernel_rfl) ?_;refine (HEG.out _ eB.out).mono ?_;rintro x w6 ⟨⟨q,rfl,hq⟩,hb⟩;have aL:=Hd (U0 aL.out hb aL.out.size);clear hb;simp only [];simp only [Act.put,Sv,Sz,Sw];cases q with
             |false=>
              have tt:¬ e.grants=f.grants:=(fun h=>by have:=hq.2 h;cases this)
              exact Uh 4 (.bool false) (by kernel_rfl) (by intro a' h4 hd;simp only [Exit.then];refine hK2 _ _ ?_;go_wp2;exact Br (v:=.bool false) ((results_tmp Tryz.results154 a'.tmps _ _).trans (by rw [h4])) hd ⟨⟨false,rfl,⟨fun h=>(by cases h),fun h=>absurd (by rw [h]) tt⟩⟩,aL.out⟩)
             |true=>
              have k12:e.grants=f.grants:=hq.1 rfl;clear hq;exact Uh 4 (.bool true) (by kernel_rfl) (by intro a' h4 hd;simp only [Exit.then];refine hK2 _ _ ?_;go_wp2;exact Br (v:=.bool true) ((results_tmp Tryz.results154 a'.tmps _ _).trans (by rw [h4])) hd ⟨⟨true,rfl,⟨fun _=>en_ext k0 k1 k2 k3 k4 k5 k6 k7 k8 k9 k10 k11 k12,fun _=>rfl⟩⟩,aL.out⟩)
theorem min_any (A:Option Addr) (n c:Nat) (l:List Int) (w:Wd) (hs:Sl Vc 1 w w.heap.size A n c l) (hn:1≤n) (eN:n≤1000):
  Calls prog 255 #[.slice A n c] w fun e w'=>(∃ m:Int,e = .returned (.int .i64 m)∧m∈l∧∀ x∈l,m≤x)∧w=w':=by
 have HS:=Hd hs;have HL:=Hd hs.len;obtain ⟨b,o,x0,rfl,hb,hg,aB⟩:=Sl.cell (f:=Vc) (k:=1) (fun _=>rfl) hs (show 0<n by omega);have c0:=aB 0 _ rfl;simp only [Nat.add_zero,Nat.zero_mul] at c0;have HG:=Hd hg;clear hs hg aB hb;go_enter Tryz.func255,Tryz.ntmps255;go_wp2;go_loopw [3,4] (fun v i wr => ∃ (j:Nat) (m:Int),1≤j∧j≤n∧i = .int .i64 j∧v = .int .i64 m∧m∈l∧(∀ t,t<j→∀ x,l[t]? =some x→m≤x)∧wr=w) (fun _ i _=>n-(intOf i).toNat)
 case atStart=>
  refine ⟨1,x0,Le _,hn,rfl,rfl,List.mem_of_getElem? HG.out,fun t ht x hx=>?_,rfl⟩;obtain rfl:t=0:=by omega
  rw [HG.out] at hx;injection hx with hx
  omega
 case round=>
  obtain ⟨j,m,j1,hj,rfl,rfl,hm,hall,rfl⟩:=hrel;have HA:=Hd hall;have HM:=Hd hm;clear hall hm c0;by_cases aG:j<n
  ·obtain ⟨b2,o2,x,gD,hb,hg,aB⟩:=Sl.cell (f:=Vc) (k:=1) (fun _=>rfl) HS.out aG;injection gD with gD
   injection gD with e1 e2
   subst e1 e2;have c0:=aB 0 _ rfl;simp only [Nat.add_zero,Nat.mul_one] at c0;have HX:=Hd hg;clear hg aB hb;by_cases bO:m≤x
   ·have hmin:min m x=m:=by omega
    go_wp2;go_roundw
    case rel=>
     refine ⟨j+1,m,by omega,by omega,by go_num,by first|(simp;done)|(simp;omega),HM.out,fun t ht y hy=>?_,trivial⟩;by_cases h:t=j
     ·subst h;rw [HX.out] at hy;injection hy with hy;omega
     ·have:=HA.out t (by omega) y hy;omega
    case measure=>simp [intOf];omega
   ·have hmin:min m x=x:=by omega
    go_wp2;go_roundw
    case rel=>
     refine ⟨j+1,x,by omega,by omega,by go_num,by first|(simp;done)|(simp;omega),List.mem_of_getElem? HX.out,fun t ht y hy=>?_,trivial⟩;by_cases h:t=j
     ·subst h;rw [HX.out] at hy;injection hy with hy;omega
     ·have:=HA.out t (by omega) y hy;omega
    case measure=>simp [intOf];omega
  ·obtain rfl:j=n:=by omega
   go_wp2;go_ret;refine ⟨⟨m,rfl,HM.out,fun x hx=>?_⟩,rfl⟩;obtain ⟨t,ht,rfl⟩:=List.getElem_of_mem hx;exact HA.out t (by rw [←HL.out];exact ht) _ (List.getElem?_eq_getElem ht)
theorem max_any (A:Option Addr) (n c:Nat) (l:List Int) (w:Wd) (hs:Sl Vc 1 w w.heap.size A n c l) (hn:1≤n) (eN:n≤1000):
  Calls prog 256 #[.slice A n c] w fun e w'=>(∃ m:Int,e = .returned (.int .i64 m)∧m∈l∧∀ x∈l,x≤m)∧w=w':=by
 have HS:=Hd hs;have HL:=Hd hs.len;obtain ⟨b,o,x0,rfl,hb,hg,aB⟩:=Sl.cell (f:=Vc) (k:=1) (fun _=>rfl) hs (show 0<n by omega);have c0:=aB 0 _ rfl;simp only [Nat.add_zero,Nat.zero_mul] at c0;have HG:=Hd hg;clear hs hg aB hb;go_enter Tryz.func256,Tryz.ntmps256;go_wp2;go_loopw [3,4] (fun v i wr => ∃ (j:Nat) (m:Int),1≤j∧j≤n∧i = .int .i64 j∧v = .int .i64 m∧m∈l∧(∀ t,t<j→∀ x,l[t]? =some x→x≤m)∧wr=w) (fun _ i _=>n-(intOf i).toNat)
 case atStart=>
  refine ⟨1,x0,Le _,hn,rfl,rfl,List.mem_of_getElem? HG.out,fun t ht x hx=>?_,rfl⟩;obtain rfl:t=0:=by omega
  rw [HG.out] at hx;injection hx with hx
  omega
 case round=>
  obtain ⟨j,m,j1,hj,rfl,rfl,hm,hall,rfl⟩:=hrel;have HA:=Hd hall;have HM:=Hd hm;clear hall hm c0;by_cases aG:j<n
  ·obtain ⟨b2,o2,x,gD,hb,hg,aB⟩:=Sl.cell (f:=Vc) (k:=1) (fun _=>rfl) HS.out aG;injection gD with gD
   injection gD with e1 e2
   subst e1 e2;have c0:=aB 0 _ rfl;simp only [Nat.add_zero,Nat.mul_one] at c0;have HX:=Hd hg;clear hg aB hb;by_cases bO:m≤x
   ·have hmin:max m x=x:=by omega
    go_wp2;go_roundw
    case rel=>
     refine ⟨j+1,x,by omega,by omega,by go_num,by first|(simp;done)|(simp;omega),List.mem_of_getElem? HX.out,fun t ht y hy=>?_,trivial⟩;by_cases h:t=j
     ·subst h;rw [HX.out] at hy;injection hy with hy;omega
     ·have:=HA.out t (by omega) y hy;omega
    case measure=>simp [intOf];omega
   ·have hmin:max m x=m:=by omega
    go_wp2;go_roundw
    case rel=>
     refine ⟨j+1,m,by omega,by omega,by go_num,by first|(simp;done)|(simp;omega),HM.out,fun t ht y hy=>?_,trivial⟩;by_cases h:t=j
     ·subst h;rw [HX.out] at hy;injection hy with hy;omega
     ·have:=HA.out t (by omega) y hy;omega
    case measure=>simp [intOf];omega
  ·obtain rfl:j=n:=by omega
   go_wp2;go_ret;refine ⟨⟨m,rfl,HM.out,fun x hx=>?_⟩,rfl⟩;obtain ⟨t,ht,rfl⟩:=List.getElem_of_mem hx;exact HA.out t (by rw [←HL.out];exact ht) _ (List.getElem?_eq_getElem ht)
def wiB (lo hi:Int) (l:List Int):Bool:=l.all (Xx · lo hi)
theorem wiB_mm {lo hi a b:Int} {l:List Int} (ha:a∈l) (ha2:∀ x∈l,a≤x) (hb:b∈l) (aF:∀ x∈l,x≤b):wiB lo hi l=(decide (lo≤a)&&decide (b≤hi)):=by
 unfold wiB;rw [Bool.eq_iff_iff];simp only [List.all_eq_true,winB_true,Bool.and_eq_true,decide_eq_true_eq];exact ⟨fun h=>⟨(h a ha).1,(h b hb).2⟩,fun h x hx=>⟨by have:=ha2 x hx;omega,by have:=aF x hx;omega⟩⟩
theorem has_min:∀ l:List Int,l≠[]→∃ a∈l,∀ x∈l,a≤x
 | [],h=>absurd rfl h
 | [y],_=>⟨y,by simp,fun x hx=>by simp at hx;omega⟩
 |y::z::r,_=>by
  obtain ⟨a,ha,h⟩:=has_min (z::r) (by simp);by_cases hy:y≤a
  ·exact ⟨y,by simp,fun x hx=>by rcases List.mem_cons.1 hx with rfl|hx;omega;have:=h x hx;omega⟩
  ·exact ⟨a,List.mem_cons_of_mem _ ha,fun x hx=>by rcases List.mem_cons.1 hx with rfl|hx;omega;exact h x hx⟩
theorem has_max:∀ l:List Int,l≠[]→∃ a∈l,∀ x∈l,x≤a
 | [],h=>absurd rfl h
 | [y],_=>⟨y,by simp,fun x hx=>by simp at hx;omega⟩
 |y::z::r,_=>by
  obtain ⟨a,ha,h⟩:=has_max (z::r) (by simp);by_cases hy:a≤y
  ·exact ⟨y,by simp,fun x hx=>by rcases List.mem_cons.1 hx with rfl|hx;omega;have:=h x hx;omega⟩
  ·exact ⟨a,List.mem_cons_of_mem _ ha,fun x hx=>by rcases List.mem_cons.1 hx with rfl|hx;omega;exact h x hx⟩
theorem Ve (lo hi:Int) (A:Option Addr) (n c:Nat) (l:List Int) (w:Wd) (hs:Sl Vc 1 w w.heap.size A n c l) (eN:n≤1000):
  Calls prog 196 #[.int .i64 lo,.int .i64 hi,.slice A n c] w fun e w'=>e = .returned (.bool (wiB lo hi l))∧w=w':=by
 have hlen:=hs.len;by_cases h0:n=0
 ·subst h0;have hl:l = []:=List.eq_nil_of_length_eq_zero hlen;subst hl;clear hs hlen;go_enter Tryz.func196,Tryz.ntmps196;go_wp2;go_ret;exact ⟨rfl,rfl⟩
 ·have hp:1≤n:=by omega
  have aZ:l≠[]:=fun h=>by subst h;simp at hlen;omega
  obtain ⟨a,ha,ha2⟩:=has_min l aZ;obtain ⟨b,hb,aF⟩:=has_max l aZ;rw [wiB_mm ha ha2 hb aF]
  have HMI:Hid (Calls prog 255 #[.slice A n c] w fun e w'=>e = .returned (.int .i64 a)∧w=w'):=Hd ((min_any A n c l w hs hp eN).mono (by
   rintro e w' ⟨⟨m,rfl,hm,gZ⟩,rfl⟩;have h1:=gZ a ha;have h2:=ha2 m hm;obtain rfl:m=a:=by omega
   exact ⟨rfl,rfl⟩))
  have HMA:Hid (Calls prog 256 #[.slice A n c] w fun e w'=>e = .returned (.int .i64 b)∧w=w'):=Hd ((max_any A n c l w hs hp eN).mono (by
   rintro e w' ⟨⟨m,rfl,hm,gZ⟩,rfl⟩;have h1:=gZ b hb;have h2:=aF m hm;obtain rfl:m=b:=by omega
   exact ⟨rfl,rfl⟩))
  have e0:((n:Int) == 0)=false:=by simp;omega
  obtain ⟨p,eX⟩:∃ p,decide (lo≤a)=p:=⟨_,rfl⟩
  obtain ⟨q,hq1⟩:∃ q,decide (b≤hi)=q:=⟨_,rfl⟩
  rw [eX,hq1];clear hs hlen h0 aZ ha ha2 hb aF hp eN;cases p
  all_goals
   go_enter Tryz.func196,Tryz.ntmps196;go_wp2_with (first|(go_at_call 255;refine HMI.out.mono ?_;rintro e w1 ⟨rfl,rfl⟩)|(go_at_call 256;refine HMA.out.mono ?_;rintro e w1 ⟨rfl,rfl⟩));go_ret;exact ⟨by simp,rfl⟩
def upB (z:Int):Bool:=decide (65≤z)&&decide (z≤90)
def dgB (z:Int):Bool:=decide (48≤z)&&decide (z≤57)
def plB (z:Int):Bool:=upB z || dgB z
theorem Ff (z:Int) (w:Wd):Calls prog 246 #[.int .u8 z] w fun e w'=>e = .returned (.bool (upB z))∧w=w':=by
 unfold upB;by_cases h1:65≤z
 ·by_cases h2:z≤90
  ·rw [decide_eq_true h1,decide_eq_true h2];go_enter Tryz.func246,Tryz.ntmps246;go_wp2;go_ret;exact ⟨by first|rfl|simp [h1,h2],rfl⟩
  ·have h3:90<z:=by omega
   have h4:decide (z≤90)=false:=decide_eq_false h2;rw [decide_eq_true h1,h4];clear h2;go_enter Tryz.func246,Tryz.ntmps246;go_wp2;go_ret;exact ⟨by first|rfl|simp [h4],rfl⟩
 ·have h3:z<65:=by omega
  have h4:decide (65≤z)=false:=decide_eq_false h1;rw [h4];clear h1;go_enter Tryz.func246,Tryz.ntmps246;go_wp2;go_ret;exact ⟨by first|rfl|simp [h4],rfl⟩
theorem digit_any (z:Int) (w:Wd):Calls prog 282 #[.int .u8 z] w fun e w'=>e = .returned (.bool (dgB z))∧w=w':=by
 unfold dgB;by_cases h1:48≤z
 ·by_cases h2:z≤57
  ·rw [decide_eq_true h1,decide_eq_true h2];go_enter Tryz.func282,Tryz.ntmps282;go_wp2;go_ret;exact ⟨by first|rfl|simp [h1,h2],rfl⟩
  ·have h3:57<z:=by omega
   have h4:decide (z≤57)=false:=decide_eq_false h2;rw [decide_eq_true h1,h4];clear h2;go_enter Tryz.func282,Tryz.ntmps282;go_wp2;go_ret;exact ⟨by first|rfl|simp [h4],rfl⟩
 ·have h3:z<48:=by omega
  have h4:decide (48≤z)=false:=decide_eq_false h1;rw [h4];clear h1;go_enter Tryz.func282,Tryz.ntmps282;go_wp2;go_ret;exact ⟨by first|rfl|simp [h4],rfl⟩
theorem plain_any (z:Int) (w:Wd):Calls prog 247 #[.int .u8 z] w fun e w'=>e = .returned (.bool (plB z))∧w=w':=by
 have HU:=Hd (fun W=>Ff z W);have HD:=Hd (fun W=>digit_any z W);unfold plB;obtain ⟨d,hd⟩:∃ d,dgB z=d:=⟨_,rfl⟩
 obtain ⟨u,hu⟩:∃ u,upB z=u:=⟨_,rfl⟩
 simp only [hd] at HD;simp only [hu] at HU;rw [hu,hd];clear hu hd;cases u with
 |true=>
  go_enter Tryz.func247,Tryz.ntmps247;go_wp2_with (first|(go_at_call 246;refine (HU.out _).mono ?_;rintro e w1 ⟨rfl,rfl⟩)|(go_at_call 282;refine (HD.out _).mono ?_;rintro e w1 ⟨rfl,rfl⟩));go_ret;exact ⟨rfl,rfl⟩
 |false=>
  go_enter Tryz.func247,Tryz.ntmps247;go_wp2_with (first|(go_at_call 246;refine (HU.out _).mono ?_;rintro e w1 ⟨rfl,rfl⟩)|(go_at_call 282;refine (HD.out _).mono ?_;rintro e w1 ⟨rfl,rfl⟩));go_ret;exact ⟨by simp,rfl⟩
def E3 (s:Bz):Bool:=decide (1≤s.size)&&decide (s.size≤8)&&upB (bAt s 0)&&(List.range s.size).all fun i=>decide (i=0) || plB (bAt s i)
theorem qualB_no {s:Bz} {j:Nat} (hj:j<s.size) (h0:j≠0) (h:plB (bAt s j)=false):E3 s=false:=by
 unfold E3;rw [I6 hj (by simp [h0,h])];simp
theorem qual_any (s:Bz) (w:Wd) (hs:s.size≤maxLen):Calls prog 245 #[.string s,.func (.func 246) #[] #[],.func (.func 247) #[] #[]] w fun e w'=>e = .returned (.bool (E3 s))∧w=w':=by
 unfold maxLen at hs;obtain ⟨R,hR⟩:∃ R,E3 s=R:=⟨_,rfl⟩
 rw [hR];have HR:=Hd hR;clear hR;by_cases h0:s.size<1
 ·have HF:=Hd (show R=false by rw [←HR.out];unfold E3;rw [decide_eq_false (by omega)];simp);go_enter Tryz.func245,Tryz.ntmps245;go_wp2;go_ret;exact ⟨by rw [HF.out];rfl,rfl⟩
 ·by_cases h8:8<s.size
  ·have HF:=Hd (show R=false by rw [←HR.out];unfold E3;rw [decide_eq_false (show ¬ s.size≤8 by omega)];simp);go_enter Tryz.func245,Tryz.ntmps245;go_wp2;go_ret;exact ⟨by rw [HF.out];rfl,rfl⟩
  ·have iC:0<s.size:=by omega
   obtain ⟨b,hb⟩:∃ b,(s[0]).toNat=b:=⟨_,rfl⟩
   have eL:bAt s 0=b:=by rw [Zq s 0 iC,hb]
   have b7:=(s[0]).toNat_lt;rw [hb] at b7;have bZ:=Hd eL;clear eL;obtain ⟨u,hu⟩:∃ u,upB (b:Int)=u:=⟨_,rfl⟩
   have HU:=Hd (fun W=>Ff (b:Int) W);simp only [hu] at HU;cases u with
   |false=>
    have HF:=Hd (show R=false by rw [←HR.out];unfold E3;rw [bZ.out,hu];simp);clear hu;go_enter Tryz.func245,Tryz.ntmps245;go_wp2_with (go_at_call 246;refine (HU.out _).mono ?_;rintro e w1 ⟨rfl,rfl⟩);go_ret;exact ⟨by rw [HF.out];rfl,rfl⟩
   |true=>
    have HU1:=Hd hu;clear hu;go_enter Tryz.func245,Tryz.ntmps245;go_wp2_with (go_at_call 246;refine (HU.out _).mono ?_;rintro e w1 ⟨rfl,rfl⟩);clear hb;go_loop [7] (fun i => ∃ j:Nat,1≤j∧j≤s.size∧i = .int .i64 j∧∀ t,t<j→t≠0→plB (bAt s t)=true) (fun i=>s.size-(intOf i).toNat)
    case atStart=>exact ⟨1,Le _,by omega,rfl,fun t h k=>absurd h (by omega)⟩
    case round=>
     obtain ⟨j,j1,hj,rfl,hall⟩:=hrel;have HA:=Hd hall;clear hall;by_cases aG:j<s.size
     ·obtain ⟨c,hc⟩:∃ c,(s[j]).toNat=c:=⟨_,rfl⟩
      have m7:bAt s j=c:=by rw [Zq s j aG,hc]
      have hc3:=(s[j]).toNat_lt;rw [hc] at hc3;have HCC:=Hd m7;clear m7;obtain ⟨p,hp⟩:∃ p,plB (c:Int)=p:=⟨_,rfl⟩
      have HP:=Hd (fun W=>plain_any (c:Int) W);simp only [hp] at HP;have HPP:=Hd hp;clear hp;cases p with
      |false=>
       have HF:=Hd (show R=false by rw [←HR.out];exact qualB_no aG (by omega) (by rw [HCC.out];exact HPP.out));go_wp2_with (go_at_call 247;refine (HP.out _).mono ?_;rintro e w1 ⟨rfl,rfl⟩);go_ret;exact ⟨by rw [HF.out];rfl,rfl⟩
      |true=>
       go_wp2_with (go_at_call 247;refine (HP.out _).mono ?_;rintro e w1 ⟨rfl,rfl⟩)
       go_round
       case rel=>
        refine ⟨j+1,by omega,by omega,by go_num,fun t ht k=>?_⟩;by_cases e:t=j
        ·subst e;rw [HCC.out];exact HPP.out
        ·exact HA.out t (by omega) k
       case measure=>simp [intOf];omega
     ·obtain rfl:j=s.size:=by omega
      have HT:=Hd (show R=true by
       rw [←HR.out];unfold E3;rw [bZ.out,HU1.out,decide_eq_true (show 1≤s.size by omega),decide_eq_true (show s.size≤8 by omega),Ie (fun t ht=>by by_cases e:t=0;simp [e];simp [e,HA.out t ht e])];rfl)
      go_wp2;go_ret;exact ⟨by rw [HT.out];rfl,rfl⟩
theorem valid1_any (s:Bz) (w:Wd) (hs:s.size≤maxLen):Calls prog 244 #[.string s] w fun e w'=>e = .returned (.bool (E3 s))∧w=w':=by
 have HQ:=Hd (qual_any s w hs);go_enter Tryz.func244,Tryz.ntmps244;go_wp2_with (go_at_call 245;refine HQ.out.mono ?_;rintro e w1 ⟨rfl,rfl⟩);go_ret;exact ⟨rfl,rfl⟩
def genL (s:Bz):Nat→Nat→Int→Int
 |0,_,n=>n
 |f+1,i,n=>if dgB (bAt s i) then genL s f (i+1) (10*n+((bAt s i:Int)-48)) else 0
def v00:Bz:=⟨#[86,48,48]⟩
def Fx (s:Bz):Int:=if s.size≠8 then 0 else if bAt s 0≠71 then 0 else if s.extract 5 s.size≠v00 then 0 else genL s 4 1 0
theorem gnum_any (s:Bz) (w:Wd):Calls prog 252 #[.string s] w fun e w'=>e = .returned (.int .i64 (Fx s))∧w=w':=by
 obtain ⟨R,hR⟩:∃ R,Fx s=R:=⟨_,rfl⟩
 rw [hR];unfold Fx at hR;by_cases h8:s.size=8
 ·rw [if_neg (by simpa using h8)] at hR;have iC:0<s.size:=by omega
  obtain ⟨b,hb⟩:∃ b,(s[0]).toNat=b:=⟨_,rfl⟩
  have eL:bAt s 0=b:=by rw [Zq s 0 iC,hb]
  have b7:=(s[0]).toNat_lt;rw [hb] at b7;rw [eL] at hR;clear eL;have h88:((s.size:Int) != 8)=false:=by simp;omega
  by_cases hG:b=71
  ·rw [if_neg (by simpa using hG)] at hR;rw [h8] at hR;have hz:=beq_ba (s.extract 5 8) v00;rw [show v00.toList = [86,48,48] from by rw [Uv];rfl] at hz;by_cases hv:s.extract 5 8=v00
   ·rw [if_neg (by simpa using hv)] at hR;have HR:=Hd hR;clear hR;rw [decide_eq_true hv] at hz;subst hG;have HV:=Hd hv;clear hv;go_enter Tryz.func252,Tryz.ntmps252;go_wp2;clear hb hz;go_loop [3,4] (fun n i => ∃ (j f:Nat) (m:Int),j+f=5∧1≤j∧0≤m∧m<10 ^ j∧n = .int .i64 m∧i = .int .i64 j∧genL s f j m=R) (fun _ i=>5-(intOf i).toNat)
    case atStart=>exact ⟨1,4,0,rfl,Le _,by omega,by decide,rfl,rfl,HR.out⟩
    case round=>
     obtain ⟨j,f,m,hj,j1,m0,m1,rfl,rfl,aI⟩:=hrel
     match f,hj,aI with
     |0,hj,aI=>
      obtain rfl:j=5:=by omega
      have aY:=Hd aI;clear aI;go_wp2;go_ret;exact ⟨by rw [←aY.out];rfl,rfl⟩
     |f+1,hj,aI=>
      have aG:j<s.size:=by omega
      have h5:j<5:=by omega
      obtain ⟨c,hc⟩:∃ c,(s[j]).toNat=c:=⟨_,rfl⟩
      have m7:bAt s j=c:=by rw [Zq s j aG,hc]
      have hc3:=(s[j]).toNat_lt;rw [hc] at hc3;unfold genL at aI;rw [m7] at aI;clear m7;obtain ⟨p,hp⟩:∃ p,dgB (c:Int)=p:=⟨_,rfl⟩
      have HP:=Hd (fun W=>digit_any (c:Int) W);simp only [hp] at HP;rw [hp] at aI
      have hp10:(10:Int) ^ j≤10000:=by
       have:j≤4:=by omega
       match j,this with
       |0,_=>decide
       |1,_=>decide
       |2,_=>decide
       |3,_=>decide
       |4,_=>decide
      cases p with
      |false=>
       have aY:=Hd aI;clear aI hp;go_wp2_with (go_at_call 282;refine (HP.out _).mono ?_;rintro e w1 ⟨rfl,rfl⟩);go_ret;exact ⟨by rw [←aY.out];rfl,rfl⟩
      |true=>
       simp [dgB] at hp;have aY:=Hd aI;have dN:IntKind.u8.wrap ((c:Int)-48)=(c:Int)-48:=by rw [IntKind.wrap_u8];omega
       have HJ:=Hd hj;have hnx:10*m+((c:Int)-48)<10 ^ (j+1):=by rw [Int.pow_succ];omega
       have fV:=Hd hnx;clear aI hj hnx;go_wp2_with (go_at_call 282;refine (HP.out _).mono ?_;rintro e w1 ⟨rfl,rfl⟩)
       go_round
       case rel=>exact ⟨j+1,f,10*m+((c:Int)-48),by have:=HJ.out;omega,by omega,by omega,fV.out,by go_num,by go_num,by have:=aY.out;simpa using this⟩
       case measure=>simp [intOf];omega
   ·rw [if_pos (by simpa using hv)] at hR;rw [decide_eq_false hv] at hz;subst hG;clear hv;subst hR;go_enter Tryz.func252,Tryz.ntmps252;go_wp2;go_ret;exact ⟨rfl,rfl⟩
  ·rw [if_pos (by simpa using hG)] at hR;have hG2:((b:Int) != 71)=true:=by simp;omega
   subst hR;clear hG;go_enter Tryz.func252,Tryz.ntmps252;go_wp2;go_ret;exact ⟨rfl,rfl⟩
 ·rw [if_pos (by simpa using h8)] at hR;have h88:((s.size:Int) != 8)=true:=by simp;omega
  subst hR;clear h8;go_enter Tryz.func252,Tryz.ntmps252;go_wp2;go_ret;exact ⟨rfl,rfl⟩
def Mx (w:Wd):Prop:=∃ m:Int,w.cell? ⟨2,0,none⟩=some (.int .i64 m)
theorem Mx.lt {w:Wd} (h:Mx w):2<w.heap.size:=by
 obtain ⟨m,hm⟩:=h;exact Jh hm
theorem Mx.next {w w':Wd} {B:Nat} (h:Mx w) (hb:Below B w w') (hB:2<B):Mx w':=by
 obtain ⟨m,hm⟩:=h;exact ⟨m,(hb.cell (p:=⟨_,0,none⟩) hB).trans hm⟩
theorem Mx.after {w w':Wd} (h:Mx w) (hb:Below w.heap.size w w'):Mx w':=h.next hb h.lt
abbrev dot:Bz:=⟨#[46]⟩
def pcs (s:Bz):List Bz:=Lib.splitB dot 0 (Lib.countB s dot) s
theorem Kk (sep:Bz):∀ (k:Nat) (s q:Bz),q∈Lib.splitB sep 0 k s→q.size≤s.size
 |0,s,q,h=>by
  simp [Lib.splitB] at h;subst h;exact Le _
 |k+1,s,q,h=>by
  unfold Lib.splitB at h;split at h
  ·simp at h;subst h;exact Le _
  ·rcases List.mem_cons.1 h with rfl|h
   ·simp;omega
   ·have:=Kk sep k _ q h;simp at this;omega
theorem pcs_size {s q:Bz} (h:q∈pcs s):q.size≤s.size:=Kk dot _ s q h
theorem pcs_len (s:Bz):(pcs s).length=Lib.countB s dot+1:=Lib.splitB_all dot (by decide) 0 _ s rfl
theorem flat_strs:∀ l:List Bz,Ub Ui l=l.map Value.string
 | []=>rfl
 |x::l=>by rw [V8,flat_strs l];rfl
theorem sl_pcs (w:Wd) (s:Bz):Sl Ui 1 (w.alloc (.cells ((pcs s).map Value.string).toArray 9)) (w.heap.size+1) (some ⟨w.heap.size,0,none⟩) (Lib.countB s dot+1) (Lib.countB s dot+1) (pcs s):=by
 have h:=Sl.new (f:=Ui) (k:=1) (fun _=>rfl) w 9 (pcs s);rw [flat_strs,pcs_len] at h;exact h
theorem G5 (s:Bz):Lib.countB s dot≤s.size:=Lib.countB_le dot (by decide) s.size s (Le _)
def Xo (s:Bz):Bool:=decide (1≤s.size)&&decide (s.size≤31)&&(pcs s).all E3
theorem all_no {α:Type} {p:α→Bool} {l:List α} {j:Nat} {x:α} (hg:l[j]? =some x) (h:p x=false):l.all p=false:=by
 rw [List.all_eq_false];exact ⟨x,List.mem_of_getElem? hg,by simp [h]⟩
theorem all_yes {α:Type} {p:α→Bool} {l:List α} {n:Nat} (hn:l.length=n) (h:∀ t,t<n→∀ e,l[t]? =some e→p e=true):l.all p=true:=by
 rw [List.all_eq_true];intro e he;obtain ⟨t,ht,rfl⟩:=List.getElem_of_mem he;exact h t (by omega) _ (List.getElem?_eq_getElem ht)
theorem allv_any (s:Bz) (w:Wd) (hs:s.size≤maxLen) (hm:Mx w):
  Calls prog 243 #[.string s,.int .i64 31,.func (.func 244) #[] #[]] w fun e w'=>e = .returned (.bool (Xo s))∧Below w.heap.size w w':=by
 obtain ⟨R,hR⟩:∃ R,Xo s=R:=⟨_,rfl⟩
 rw [hR];have HR:=Hd hR;clear hR;have hml:=hs;unfold maxLen at hs;by_cases h0:s.size<1
 ·have HF:=Hd (show R=false by rw [←HR.out];unfold Xo;rw [decide_eq_false (by omega)];simp);clear hm;go_enter Tryz.func243,Tryz.ntmps243;go_wp2;go_ret;exact ⟨by rw [HF.out];rfl,Bf _ _⟩
 ·by_cases h31:31<s.size
  ·have HF:=Hd (show R=false by rw [←HR.out];unfold Xo;rw [decide_eq_false (show ¬ s.size≤31 by omega)];simp);clear hm;go_enter Tryz.func243,Tryz.ntmps243;go_wp2;go_ret;exact ⟨by rw [HF.out];rfl,Bf _ _⟩
  ·obtain ⟨m,hm⟩:=hm;have HS:=Hd (Tryz.strings_Split s dot m w (by omega) hm (by decide));have HP:=Hd (sl_pcs w s);have HL:=Hd (pcs_len s);have HZ:=Hd (fun q (h:q∈pcs s) W=>valid1_any q W (Lx (pcs_size h) hml));have hcn:=G5 s;obtain ⟨n,hn⟩:∃ n,Lib.countB s dot+1=n:=⟨_,rfl⟩
   have hv:R=(pcs s).all E3:=by rw [←HR.out];unfold Xo;rw [decide_eq_true (show 1≤s.size by omega),decide_eq_true (show s.size≤31 by omega)];rfl
   have HV:=Hd hv;have hps:Lib.splitB dot 0 (Lib.countB s dot) s=pcs s:=rfl;simp only [hps,hn] at HS HP HL;have hnn:n≤32:=by omega
   clear hm hv hps hn hcn;generalize pcs s=l at HS HP HL HZ HV;obtain ⟨w1,dN⟩:∃ w1,w.alloc (.cells (l.map Value.string).toArray 9)=w1:=⟨_,rfl⟩
   have aJ:Below w.heap.size w w1:=by rw [←dN];exact (Bf _ _).alloc (Le _) _
   have aK:w.heap.size+1=w1.heap.size:=by rw [←dN];simp
   have aQ:=Hd aJ;simp only [dN] at HS HP;rw [aK] at HP;have cJ:=Hd aK;clear dN aJ aK;go_enter Tryz.func243,Tryz.ntmps243;go_wp2_with (go_at_call 250;refine HS.out.mono ?_;rintro e w' ⟨rfl,hw⟩;rw [hw];clear hw w');go_loopw [21] (fun i wr => ∃ j:Nat,j≤n∧i = .int .i64 j∧(∀ t,t<j→∀ e,l[t]? =some e→E3 e=true)∧Below w1.heap.size w1 wr) (fun i _=>n-(intOf i).toNat)
   case atStart=>exact ⟨0,Z0 _,rfl,fun t h=>absurd h (by omega),Bf _ _⟩
   case round=>
    obtain ⟨j,hj,rfl,hall,aE⟩:=hrel;have HA:=Hd hall;clear hall;by_cases aG:j<n
    ·obtain ⟨b,o,x,gD,hb,hg,aB⟩:=Sl.cell (f:=Ui) (k:=1) (fun _=>rfl) (HP.out.below aE) aG;injection gD with gD
     injection gD with e1 e2
     subst e1 e2;have c0:=aB 0 _ rfl;simp only [Nat.add_zero,Nat.zero_add,Nat.mul_one] at c0;have HQ:=Hd (fun W=>HZ.out x (List.mem_of_getElem? hg) W);have HG:=Hd hg;have bG:=Hd aE;clear hg aB hb;obtain ⟨q,hq⟩:∃ q,E3 x=q:=⟨_,rfl⟩
     have HQQ:=Hd hq;simp only [hq] at HQ;clear hq;cases q with
     |false=>
      have HF:=Hd (show R=false by rw [HV.out];exact all_no HG.out HQQ.out);go_wp2_with (go_at_call 244;refine (HQ.out _).mono ?_;rintro e w' ⟨rfl,rfl⟩);go_ret;exact ⟨by rw [HF.out];rfl,U0 aQ.out bG.out (by have:=cJ.out;omega)⟩
     |true=>
      go_wp2_with (go_at_call 244;refine (HQ.out _).mono ?_;rintro e w' ⟨rfl,rfl⟩);go_roundw
      case rel=>
       refine ⟨j+1,by omega,by go_num,fun t ht e he=>?_,bG.out⟩;by_cases h:t=j
       ·subst h;rw [HG.out] at he;injection he with he;subst he;exact HQQ.out
       ·exact HA.out t (by omega) e he
      case measure=>simp [intOf];omega
    ·obtain rfl:j=n:=by omega
     have HT:=Hd (show R=true by rw [HV.out];exact all_yes HL.out HA.out);have bG:=Hd aE;clear aE;go_wp2;go_ret;exact ⟨by rw [HT.out];rfl,U0 aQ.out bG.out (by have:=cJ.out;omega)⟩
theorem Xv (s:Bz) (w:Wd) (hs:s.size≤maxLen) (hm:Mx w):
  Calls prog 187 #[.string s] w fun e w'=>e = .returned (.bool (Xo s))∧Below w.heap.size w w':=by
 have HV:=Hd (allv_any s w hs hm);clear hm;go_enter Tryz.func187,Tryz.ntmps187;go_wp2_with (go_at_call 243;refine HV.out.mono ?_;rintro e w1 ⟨rfl,h1⟩;have H1:=Hd h1;clear h1);go_ret;exact ⟨rfl,H1.out⟩
theorem isgrp1_any (s:Bz) (w:Wd):Calls prog 251 #[.string s] w fun e w'=>e = .returned (.bool (decide (0<Fx s)))∧Below w.heap.size w w':=by
 have HQ:=Hd (gnum_any s w);go_enter Tryz.func251,Tryz.ntmps251;go_wp2_with (go_at_call 252;refine HQ.out.mono ?_;rintro e w1 ⟨rfl,rfl⟩);go_ret;exact ⟨rfl,Bf _ _⟩
def Il (s:Bz):Bool:=decide (s.size≤22)&&Xo s&&!(pcs s).any fun q=>decide (0<Fx q)
theorem Gi (s:Bz) (w:Wd) (hs:s.size≤maxLen) (hm:Mx w):
  Calls prog 190 #[.string s] w fun e w'=>e = .returned (.bool (Il s))∧Below w.heap.size w w':=by
 by_cases h22:s.size≤22
 ·have HV:=Hd (Xv s w hs hm);have hmx:=hm;unfold Il;rw [decide_eq_true h22];obtain ⟨v,hv⟩:∃ v,Xo s=v:=⟨_,rfl⟩
  rw [hv] at HV ⊢;clear hv;have hml:=hs;unfold maxLen at hs;cases v with
  |false=>
   clear hm hmx;go_enter Tryz.func190,Tryz.ntmps190;go_wp2_with (go_at_call 187;refine HV.out.mono ?_;rintro e w1 ⟨rfl,h1⟩;have H1:=Hd h1;clear h1);go_ret;exact ⟨rfl,H1.out⟩
  |true=>
   have HS:=Hd (fun (W:Wd) (m:Int) (h:W.cell? ⟨2,0,none⟩=some (.int .i64 m))=>Tryz.strings_Split s dot m W (by omega) h (by decide));have HX:=Hd hmx;have HP:=Hd (fun W=>sl_pcs W s);have hcn:=G5 s;have HC:=Hd (fun (W:Wd) (hb:Below (W.heap.size+1) (W.alloc (.cells ((pcs s).map Value.string).toArray 9)) (W.alloc (.cells ((pcs s).map Value.string).toArray 9)))=>isgrp_any (fun q=>decide (0<Fx q)) (some ⟨W.heap.size,0,none⟩) (Lib.countB s dot+1) (Lib.countB s dot+1) (pcs s) (W.alloc (.cells ((pcs s).map Value.string).toArray 9)) ((sl_pcs W s).more (by simp)) (by omega) fun x _ W' _=>isgrp1_any x W');obtain ⟨a,ha⟩:∃ a,(pcs s).any (fun q=>decide (0<Fx q))=a:=⟨_,rfl⟩
   rw [ha];simp only [ha] at HC;have hps:Lib.splitB dot 0 (Lib.countB s dot) s=pcs s:=rfl;simp only [hps] at HS;clear hm hmx ha hps hcn;go_enter Tryz.func190,Tryz.ntmps190;go_wp2_with (first|(go_at_call 187;refine HV.out.mono ?_;rintro e w1 ⟨rfl,h1⟩;obtain ⟨m,hm1⟩:=HX.out.after h1;have H1:=Hd h1;have HM:=Hd hm1;clear h1 hm1)|(go_at_call 250;refine (HS.out _ m HM.out).mono ?_;rintro e w2 ⟨rfl,rfl⟩)|(go_at_call 180;refine (HC.out _ (Bf _ _)).mono ?_;rintro e w3 ⟨rfl,h3⟩;have H3:=Hd h3;clear h3));go_ret;exact ⟨by simp,U0 ((H1.out).alloc (H1.out.size) _) H3.out (by have:=H1.out.size;simp;omega)⟩
 ·have h23:22<s.size:=by omega
  have hg:Il s=false:=by unfold Il;rw [decide_eq_false h22];rfl
  rw [hg];unfold maxLen at hs;clear h22 hg hm;go_enter Tryz.func190,Tryz.ntmps190;go_wp2;go_ret;exact ⟨rfl,Bf _ _⟩
def splI (s:Bz):Int:=Lib.lastIndexByte s 46
def Zs (s:Bz):Bz×Int×Bool:=
 if splI s<0 then (⟨#[]⟩,0,false)
 else if Il (s.extract 0 (splI s).toNat)=false then (⟨#[]⟩,0,false)
 else if Fx (s.extract ((splI s).toNat+1) s.size)=0 then (⟨#[]⟩,0,false)
 else (s.extract 0 (splI s).toNat,Fx (s.extract ((splI s).toNat+1) s.size),true)
theorem splI_cases (s:Bz):splI s = -1∨∃ i:Nat,splI s=i∧i<s.size:=by
 rcases Lib.lastIndexByte_spec s 46 with ⟨h,_⟩|⟨i,h1,h2,_⟩
 ·exact .inl h
 ·exact .inr ⟨i,h2,h1⟩
theorem split_any (s:Bz) (w:Wd) (hs:s.size≤4611686018427387000) (hm:Mx w):
  Calls prog 199 #[.string s] w fun e w'=>e = .returned (.tuple #[.string (Zs s).1,.int .i64 (Zs s).2.1,.bool (Zs s).2.2])∧Below w.heap.size w w':=by
 have HI:=Hd (Tryz.strings_LastIndexByte s 46 (by omega) w);have hc:=splI_cases s;have hi:Lib.lastIndexByte s 46=splI s:=rfl;rw [hi] at HI;clear hi;unfold Zs;obtain ⟨k,hk⟩:∃ k,splI s=k:=⟨_,rfl⟩
 rw [hk] at HI hc ⊢;clear hk;rcases hc with rfl|⟨i,rfl,aG⟩
 ·rw [if_pos (by decide)];clear hm;go_enter Tryz.func199,Tryz.ntmps199;go_wp2_with (go_at_call 258;refine HI.out.mono ?_;rintro e w1 ⟨rfl,rfl⟩);refine Br (results_tmp3 Tryz.results199 _ _ _) rfl ?_;exact ⟨rfl,Bf _ _⟩
 ·rw [if_neg (by omega)];simp only [Int.toNat_natCast];have z1:(s.extract 0 i).size≤maxLen:=by unfold maxLen;simp;omega
  have HG:=Hd (Gi (s.extract 0 i) w z1 hm);have HN:=Hd (fun W=>gnum_any (s.extract (i+1) s.size) W);obtain ⟨g,hg⟩:∃ g,Il (s.extract 0 i)=g:=⟨_,rfl⟩
  obtain ⟨q,hq⟩:∃ q,Fx (s.extract (i+1) s.size)=q:=⟨_,rfl⟩
  simp only [hg] at HG;simp only [hq] at HN;rw [hg,hq];clear hm hg hq z1;cases g with
  |false=>
   rw [if_pos rfl];go_enter Tryz.func199,Tryz.ntmps199;go_wp2_with (first|(go_at_call 258;refine HI.out.mono ?_;rintro e w1 ⟨rfl,rfl⟩)|(go_at_call 190;refine HG.out.mono ?_;rintro e w2 ⟨rfl,h2⟩;have H2:=Hd h2;clear h2));refine Br (results_tmp3 Tryz.results199 _ _ _) rfl ?_;exact ⟨rfl,H2.out⟩
  |true=>
   rw [if_neg (by decide)];by_cases hz:q=0
   ·subst hz;rw [if_pos rfl];go_enter Tryz.func199,Tryz.ntmps199;go_wp2_with (first|(go_at_call 258;refine HI.out.mono ?_;rintro e w1 ⟨rfl,rfl⟩)|(go_at_call 190;refine HG.out.mono ?_;rintro e w2 ⟨rfl,h2⟩;have H2:=Hd h2;clear h2)|(go_at_call 252;refine (HN.out _).mono ?_;rintro e w3 ⟨rfl,rfl⟩));refine Br (results_tmp3 Tryz.results199 _ _ _) rfl ?_;exact ⟨rfl,H2.out⟩
   ·rw [if_neg hz];have hz':(q == 0)=false:=by simpa using hz
    clear hz;go_enter Tryz.func199,Tryz.ntmps199;go_wp2_with (first|(go_at_call 258;refine HI.out.mono ?_;rintro e w1 ⟨rfl,rfl⟩)|(go_at_call 190;refine HG.out.mono ?_;rintro e w2 ⟨rfl,h2⟩;have H2:=Hd h2;clear h2)|(go_at_call 252;refine (HN.out _).mono ?_;rintro e w3 ⟨rfl,rfl⟩));have hwi:IntKind.i64.wrap ((i:Int)+1)=(i:Int)+1:=by rw [IntKind.wrap_i64];omega
    have HNN:=Hd (HN.out w2.drew);refine Rw (S:=fun _=>True) (by kernel_rfl) trivial (fun Hh=>?_);refine tk 0 (.string s) Hh ?_;refine tk 1 (.int .i64 i) Hh ?_;refine tk 2 (.string (s.extract 0 i)) Hh ?_;refine tk 3 (.string s) Hh ?_;refine tk 4 (.int .i64 i) Hh ?_;refine tk 5 (.int .i64 ((i:Int)+1)) Hh ?_;refine tk 6 (.string (s.extract (i+1) s.size)) Hh ?_;refine Aq [7] ?_;refine Rc (fun K hK=>?_) ?_
    ·go_simp;refine HNN.out.mono ?_;rintro e w3 ⟨rfl,rfl⟩;simp only [];refine hK.out _ _ trivial (fun Hh=>?_);clear hK K;try simp only [Act.put,Sv,Sz,Sw]
     refine tk 8 (.string (s.extract 0 i)) Hh ?_;refine tk 9 (.int .i64 q) Hh ?_;refine tk 10 (.bool true) Hh ?_;refine Ad (by kernel_rfl) ?_ _;clear Hh;go_wp2;refine Br (results_tmp3 Tryz.results199 _ _ _) rfl ?_;exact ⟨rfl,H2.out.drew⟩
    exact An
def Yt (n:Int):Bool:=Xx n 0 65536
theorem isDay_any (n:Int) (w:Wd):Calls prog 304 #[.int .i64 n] w fun e w'=>e = .returned (.bool (Yt n))∧w=w':=by
 unfold Yt Xx;obtain ⟨p,hp⟩:∃ p,decide (0≤n)=p:=⟨_,rfl⟩
 obtain ⟨q,hq⟩:∃ q,decide (n≤65536)=q:=⟨_,rfl⟩
 rw [hp,hq];cases p
 all_goals
  go_enter Tryz.func304,Tryz.ntmps304;go_wp2;go_ret;exact ⟨by simp,rfl⟩
theorem leap_any (y:Int) (w:Wd):Calls prog 324 #[.int .i64 y] w fun e w'=>(∃ b,e = .returned (.bool b))∧w=w':=by
 go_enter Tryz.func324,Tryz.ntmps324;go_wp2
 all_goals
  go_ret;exact ⟨⟨_,rfl⟩,rfl⟩
def Io (n:Nat):Int:=365*(n:Int)+((n:Int)+3) / 4-((n:Int)+99) / 100+((n:Int)+399) / 400
theorem firstF_ge (n:Nat):365*(n:Int)≤Io n∧Io n≤366*(n:Int)+1:=by unfold Io;omega
theorem first_any (n:Nat) (hn:n≤400) (w:Wd):Calls prog 320 #[.int .i64 (2000+(n:Int))] w fun e w'=>e = .returned (.int .i64 (Io n))∧w=w':=by
 go_enter Tryz.func320,Tryz.ntmps320;go_wp2;go_ret;refine ⟨?_,rfl⟩;show Ending.returned (.int .i64 (365*(2000+(n:Int)-2000)+(2000+(n:Int)-2000+3) / 4-(2000+(n:Int)-2000+99) / 100+(2000+(n:Int)-2000+399) / 400))=_;unfold Io;congr 2;omega
def lenV (z:Int):Array Value:=#[.int .i64 31,.int .i64 z,.int .i64 31,.int .i64 30,.int .i64 31,.int .i64 30,.int .i64 31,.int .i64 31,.int .i64 30,.int .i64 31,.int .i64 30,.int .i64 31]
theorem lengths_any (y:Int) (w:Wd):Calls prog 321 #[.int .i64 y] w fun e w'=>(∃ z:Int,28≤z∧z≤29∧e = .returned (.agg (lenV z)))∧Below w.heap.size w w':=by
 have HL:=Hd fun W=>leap_any y W
 go_enter Tryz.func321,Tryz.ntmps321;go_wp2_with (go_at_call 324;refine (HL.out _).mono ?_;rintro e w2 ⟨⟨b,rfl⟩,rfl⟩)
 ·refine Br (v:=.agg (lenV 29)) (results_cell_row Tryz.results321 _ _ w.heap.size 368 (lenV 29) (0,0) _ rfl ((Blk.new w _ _).alloc _) Tryz.underlying368 rfl (by kernel_rfl)) rfl ?_;exact ⟨⟨29,by decide,by decide,rfl⟩,((Bf _ _).alloc (Le _) _).alloc (by simp) _⟩
 ·refine Br (v:=.agg (lenV 28)) (results_cell_row Tryz.results321 _ _ w.heap.size 368 (lenV 28) (0,0) _ rfl ((Blk.new w _ _).alloc _) Tryz.underlying368 rfl (by kernel_rfl)) rfl ?_;exact ⟨⟨28,by decide,by decide,rfl⟩,((Bf _ _).alloc (Le _) _).alloc (by simp) _⟩
theorem lenV_at (z:Int) (z0:28≤z) (z1:z≤29) (j:Nat) (hj:j<12):∃ m:Int,28≤m∧m≤31∧∀ W:Wd,(Instr.index 368 (.agg (lenV z)) (.int .i64 j)).run prog W = .ok (.int .i64 m) W:=by
 have h:j=0∨j=1∨j=2∨j=3∨j=4∨j=5∨j=6∨j=7∨j=8∨j=9∨j=10∨j=11:=by omega
 rcases h with rfl|rfl|rfl|rfl|rfl|rfl|rfl|rfl|rfl|rfl|rfl|rfl
 ·exact ⟨31,by decide,by decide,fun W=>by kernel_rfl⟩
 ·exact ⟨z,z0,by omega,fun W=>by kernel_rfl⟩
 ·exact ⟨31,by decide,by decide,fun W=>by kernel_rfl⟩
 ·exact ⟨30,by decide,by decide,fun W=>by kernel_rfl⟩
 ·exact ⟨31,by decide,by decide,fun W=>by kernel_rfl⟩
 ·exact ⟨30,by decide,by decide,fun W=>by kernel_rfl⟩
 ·exact ⟨31,by decide,by decide,fun W=>by kernel_rfl⟩
 ·exact ⟨31,by decide,by decide,fun W=>by kernel_rfl⟩
 ·exact ⟨30,by decide,by decide,fun W=>by kernel_rfl⟩
 ·exact ⟨31,by decide,by decide,fun W=>by kernel_rfl⟩
 ·exact ⟨30,by decide,by decide,fun W=>by kernel_rfl⟩
 ·exact ⟨31,by decide,by decide,fun W=>by kernel_rfl⟩
def DateG (w:Wd) (e:Ending) (w':Wd):Prop:=(∃ y m d:Int,e = .returned (.tuple #[.int .i64 y,.int .i64 m,.int .i64 d])∧0≤y∧y≤3000∧0≤m∧m≤13∧-100000≤d∧d≤100000)∧Below w.heap.size w w'
theorem date_any (day:Int) (w:Wd) (h:Yt day=true):Calls prog 305 #[.int .i64 day] w (DateG w):=by
 have HD:Hid (∀ W,Calls prog 304 #[.int .i64 day] W fun e w'=>e = .returned (.bool true)∧W=w'):=Hd fun W=>by have:=isDay_any day W;rwa [h] at this
 obtain ⟨d0,d1⟩:0≤day∧day≤65536:=by unfold Yt at h;exact winB_true.1 h
 have HF:=Hd first_any;have HL:=Hd lengths_any;clear h;go_enter Tryz.func305,Tryz.ntmps305;go_wp2_with (go_at_call 304;refine (HD.out _).mono ?_;rintro e w2 ⟨rfl,rfl⟩);go_loopw [5] (fun v wr => ∃ n:Nat,n≤180∧v = .int .i64 (2000+(n:Int))∧wr=w) (fun v _=>2180-(intOf v).toNat)
 case atStart=>exact ⟨(day / 366).toNat,by omega,by congr 1;omega,rfl⟩
 case round=>
  obtain ⟨n,hn,rfl,rfl⟩:=hrel;have HFN:Hid (Calls prog 320 #[.int .i64 (2000+(n:Int)+1)] wr fun e w'=>e = .returned (.int .i64 (Io (n+1)))∧wr=w'):=Hd (by have:=HF.out (n+1) (by omega) wr;rwa [show (2000:Int)+((n+1:Nat):Int)=2000+(n:Int)+1 from by omega] at this);have hg:=firstF_ge (n+1);obtain ⟨f,hf⟩:∃ f,Io (n+1)=f:=⟨_,rfl⟩
  rw [hf] at HFN hg;clear hf;by_cases bO:f≤day
  ·go_wp2_with (go_at_call 320;refine HFN.out.mono ?_;rintro e w2 ⟨rfl,rfl⟩);go_roundw
   case rel=>exact ⟨n+1,by omega,by go_num,trivial⟩
   case measure=>simp [intOf];omega
  ·have kI:=Hd (HF.out n (by omega) wr);have dL:=firstF_ge n;obtain ⟨f2,hf2⟩:∃ f2,Io n=f2:=⟨_,rfl⟩
   rw [hf2] at kI dL;clear hf2;go_wp2_with (first|(go_at_call 320;first|((with_reducible show Calls _ _ #[.int .i64 (_+1)] _ _);refine HFN.out.mono ?_;rintro e w2 ⟨rfl,rfl⟩)|((with_reducible show Calls _ _ #[.int .i64 (2000+(_:Int))] _ _);refine kI.out.mono ?_;rintro e w2 ⟨rfl,rfl⟩))|(go_at_call 321;refine (HL.out _ _).mono ?_;rintro e w3 ⟨⟨z,z0,z1,rfl⟩,hb⟩;have HB:=Hd hb;have HZ:=Hd (And.intro z0 z1);clear hb z0 z1));have hix:=lenV_at z HZ.out.1 HZ.out.2;have HIX:=Hd hix;clear hix HFN kI HD HF HL;generalize lenV z=L at HIX ⊢;have aL:Hid (Below w3.heap.size w3 w3):=Hd (Bf _ _);go_loopw [0,27] (fun v i wz => ∃ (j:Nat) (d:Int),j≤12∧i = .int .i64 j∧v = .int .i64 d∧-70000≤d∧d≤70000∧wz=w3) (fun _ i _=>12-(intOf i).toNat)
   case atStart=>exact ⟨0,day-f2,by omega,rfl,rfl,by omega,by omega,rfl⟩
   case round=>
    obtain ⟨j,d,hj,rfl,rfl,hd0,hd1,rfl⟩:=hrel;by_cases aG:j<12
    ·obtain ⟨m,hm0,hm1,hi⟩:=HIX.out j aG;by_cases hdm:d<m
     ·go_wp2;refine Br (results_tmp3 Tryz.results305 _ _ _) rfl ?_;exact ⟨⟨_,_,_,rfl,by omega,by omega,by omega,by omega,by omega,by omega⟩,HB.out⟩
     ·go_wp2;go_roundw
      case rel=>exact ⟨j+1,d-m,by omega,by go_num,rfl,by omega,by omega,trivial⟩
      case measure=>simp [intOf];omega
    ·obtain rfl:j=12:=by omega
     go_wp2;refine Br (results_tmp3 Tryz.results305 _ _ _) rfl ?_;exact ⟨⟨_,_,_,rfl,by omega,by omega,by omega,by omega,by omega,by omega⟩,HB.out⟩
end Go.Proofs.YtoakknkmjnebjaaGreatDoor
