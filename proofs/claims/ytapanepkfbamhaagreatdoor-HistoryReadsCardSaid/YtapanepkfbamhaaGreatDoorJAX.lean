/- Part of the proof of HistoryReads. -/
import Derived.Test.YtapanepkfbamhaaGreatDoorJAU
import Derived.Test.YtapanepkfbamhaaGreatDoorJAW
namespace Go.Proofs.YtapanepkfbamhaaGreatDoor
open Tryz (prog)
set_option maxRecDepth 100000
set_option maxHeartbeats 4000000
open Go.RowKit
def J4 (l:List Int) (j:Nat):Bool:=decide (1≤l.getD j 0)&&decide (l.getD j 0≤1099511627776)&&(decide (j=0) || decide (l.getD (j-1) 0<l.getD j 0))
def altsB (l:List Int):Bool:=(List.range l.length).all (J4 l)
def orW (s:ByteArray):Bool:=decide (s.toList = []) || Ix s
def Vt (e:En):Bool:=wiB 0 1099511627776 [e.d.len,e.d.blk,e.d.kat,e.d.kln,e.d.itv,e.d.area,e.d.fi,e.d.fa,e.d.base,e.d.aat,e.d.aln]&&wiB 1 1099511627776 [e.d.id]&&wiB 0 3 [e.d.org]&&wiB 0 2 [e.d.fmt]&&wiB 0 3 [e.d.cls]&&orW e.d.vol&&orW e.d.own&&dayB [e.d.cre,e.d.exp,e.used]&&decide (e.alts.length≤4)
def dataB (e:En):Bool:=altsB e.alts&&Vt e
structure Sta (w:World):Prop where
 mx:Mx w
 tb:Tab w
theorem Sta.after {w w':World} (h:Sta w) (hb:Below w.heap.size w w'):Sta w':=⟨h.mx.after hb,h.tb.after hb⟩
structure VD (e:En) (a:EnA) (w W:World):Prop where
 e1:Blk W w.heap.size 159 (enC e a).toArray
 e2:Blk W (w.heap.size+1) 27 (dC e.d).toArray
 be:Below w.heap.size w W
 sz:w.heap.size+2≤W.heap.size
 st:Sta W
theorem VD.next {e:En} {a:EnA} {w W W':World} (h:VD e a w W) (hb:Below W.heap.size W W'):VD e a w W':=
 have hz:=h.sz
 ⟨h.e1.below hb h.e1.lt,h.e2.below hb h.e2.lt,U0 h.be hb (by omega),Lx h.sz hb.size,h.st.after hb⟩
theorem VD.alloc {e:En} {a:EnA} {w W:World} (h:VD e a w W) (o:Obj):VD e a w (W.alloc o):=h.next ((Bf _ _).alloc (Le _) o)
theorem VD.cell {e:En} {a:EnA} {w W:World} (h:VD e a w W) (i:Nat) (v:Value) (hv:(dC e.d)[i]? =some v):W.cell? ⟨w.heap.size+1,i,none⟩=some v:=by rw [h.e2.cell];simpa using hv
theorem VD.cell1 {e:En} {a:EnA} {w W:World} (h:VD e a w W) (i:Nat) (v:Value) (hv:(enC e a)[i]? =some v):W.cell? ⟨w.heap.size,i,none⟩=some v:=by rw [h.e1.cell];simpa using hv
theorem validData_any (e:En) (a:EnA) (w:World) (hw:EW [] w e a) (hs:Sm e) (ht:Sta w):
  Calls prog 189 #[.agg (enC e a).toArray] w fun x w'=>x = .returned (.bool (dataB e))∧Below w.heap.size w w':=by
 obtain ⟨A,C,gA,gC⟩:=a;obtain ⟨R,hR⟩:∃ R,dataB e=R:=⟨_,rfl⟩
 rw [hR];have HR:=Hd hR;have hla:=hs.la;have HB1:=Hd (Blk.new w 159 (enC e ⟨A,C,gA,gC⟩).toArray);have HM:Hid ((w.alloc (.cells (enC e ⟨A,C,gA,gC⟩).toArray 159)).rangeAt w.heap.size 2 (dC e.d)):=Hd fun j v hv=>by rw [HB1.out.cell];have hj:j<21:=(List.getElem?_eq_some_iff.1 hv).1;have h:=dC_in e ⟨A,C,gA,gC⟩ j hj;rw [←hv,←h];simp
 have HBK:=Hd fun old=>U3 (w.alloc (.cells (enC e ⟨A,C,gA,gC⟩).toArray 159)) 27 old (w.heap.size+1) (by simp)
 have HS2:=Hd fun old=>Ue (w.alloc (.cells (enC e ⟨A,C,gA,gC⟩).toArray 159)) (w.heap.size+1) (by simp) old (dC e.d).toArray 27
 have HD1:=Hd (Z6 e.d);have HSA:=Hd hw.sa;have HST:=Hd ht;have HS:=Hd hs;obtain ⟨W1,hW1⟩:∃ W1,(w.alloc (.cells (enC e ⟨A,C,gA,gC⟩).toArray 159)).alloc (.cells (dC e.d).toArray 27)=W1:=⟨_,rfl⟩
 have HW1:Hid (Below w.heap.size w W1):=Hd (by rw [←hW1];exact ((Bf _ _).alloc (Le _) _).alloc (by simp) _);have HE1:Hid (Blk W1 w.heap.size 159 (enC e ⟨A,C,gA,gC⟩).toArray):=Hd (by rw [←hW1];exact HB1.out.alloc _);have HE2:Hid (Blk W1 (w.heap.size+1) 27 (dC e.d).toArray):=Hd (by rw [←hW1];exact HBK.out _);have c23:=(HE1.out.cell 23).trans (show _=some (Value.slice A e.alts.length C) from rfl);clear hR hw hs ht;go_enter Tryz.func189,Tryz.ntmps189;go_wp2_with (first|((with_reducible refine Gl 27 6 ?_);refine Lm rfl 27 _ rfl w.heap.size (2) rfl (dC e.d) _ HM.out Tryz.underlying27 rfl (by kernel_rfl) ?_)|((with_reducible refine Gt 27 3 ?_);refine Lt rfl 27 _ _ rfl ((w.heap.size+1)) (dC e.d).toArray rfl rfl 27 _ (HBK.out _) (by kernel_rfl) rfl HD1.out ?_;rw [HS2.out];rw [hW1]));have HC23:=Hd c23
 have HSL:Hid (Sl V3 1 W1 W1.heap.size A e.alts.length C e.alts):=Hd (HSA.out.after HW1.out HW1.out.size);clear c23;go_loopw [11] (fun i wr => ∃ j:Nat,j≤e.alts.length∧i = .int .i64 j∧(∀ t,t<j→J4 e.alts t=true)∧wr=W1) (fun i _=>e.alts.length-(intOf i).toNat)
 case atStart=>exact ⟨0,Z0 _,rfl,fun t h=>absurd h (by omega),rfl⟩
 case round=>
  obtain ⟨j,hj,rfl,hall,rfl⟩:=hrel;have HA:=Hd hall;clear hall;by_cases hlt:j<e.alts.length
  ·have hbad:J4 e.alts j=false→R=false:=fun h=>by
    rw [←HR.out];unfold dataB;rw [show altsB e.alts=false from List.all_eq_false.2 ⟨j,List.mem_range.2 hlt,by rw [h];simp⟩];rfl
   have HBAD:=Hd hbad;obtain ⟨b,o,x,rfl,hb,hg,hcell⟩:=Sl.cell (f:=V3) (k:=1) (fun _=>rfl) HSL.out hlt;have cx:=hcell 0 _ rfl;simp only [Nat.add_zero,Nat.mul_one] at cx;have hgx:e.alts.getD j 0=x:=by rw [List.getD_eq_getElem?_getD,hg];rfl
   have HGX:=Hd hgx;have HHB:=Hd hb;clear hbad hb hg hcell hgx;have c23:=HC23.out;by_cases hx1:x<1
   ·have e1:decide (x<1)=true:=decide_eq_true hx1
    have HF:Hid (R=false):=Hd (HBAD.out (by unfold J4;rw [HGX.out,decide_eq_false (by omega)];rfl));go_wp2;go_ret;exact ⟨by rw [HF.out];rfl,HW1.out⟩
   ·have e1:decide (x<1)=false:=decide_eq_false hx1
    by_cases hx2:1099511627776<x
    ·have e2:decide (1099511627776<x)=true:=decide_eq_true hx2
     have HF:Hid (R=false):=Hd (HBAD.out (by unfold J4;rw [HGX.out,decide_eq_true (show 1≤x by omega),decide_eq_false (show ¬ x≤1099511627776 by omega)];rfl));go_wp2;go_ret;exact ⟨by rw [HF.out];rfl,HW1.out⟩
    ·have e2:decide (1099511627776<x)=false:=decide_eq_false hx2
     cases j with
     |zero=>
      have HOK:Hid (J4 e.alts 0=true):=Hd (by unfold J4;rw [HGX.out,decide_eq_true (show 1≤x by omega),decide_eq_true (show x≤1099511627776 by omega)];rfl);rw [show ((0:Nat):Int)=0 from rfl];simp only [Nat.add_zero] at cx;go_wp2;go_roundw
      case rel=>exact ⟨1,by omega,by go_num,fun t ht=>by (obtain rfl:t=0:=by omega);exact HOK.out,trivial⟩
      case measure=>simp [intOf];omega
     |succ m=>
      obtain ⟨b2,o2,y,hbo,hb2,hg2,hcell2⟩:=Sl.cell (f:=V3) (k:=1) (fun _=>rfl) HSL.out (show m<e.alts.length by omega);injection hbo with hbo
      injection hbo with q1 q2
      subst q1 q2;have cy:=hcell2 0 _ rfl;simp only [Nat.add_zero,Nat.mul_one] at cy;have hgy:e.alts.getD m 0=y:=by rw [List.getD_eq_getElem?_getD,hg2];rfl
      have HGY:=Hd hgy;clear hb2 hg2 hcell2 hgy;by_cases hxy:x≤y
      ·have e3:decide (x≤y)=true:=decide_eq_true hxy
       have HF:Hid (R=false):=Hd (HBAD.out (by unfold J4;rw [HGX.out,show m+1-1=m from rfl,HGY.out,decide_eq_true (show 1≤x by omega),decide_eq_true (show x≤1099511627776 by omega),decide_eq_false (show ¬ y<x by omega)];simp));go_wp2;go_ret;exact ⟨by rw [HF.out];rfl,HW1.out⟩
      ·have e3:decide (x≤y)=false:=decide_eq_false hxy
       have HOK:Hid (J4 e.alts (m+1)=true):=Hd (by unfold J4;rw [HGX.out,show m+1-1=m from rfl,HGY.out,decide_eq_true (show 1≤x by omega),decide_eq_true (show x≤1099511627776 by omega),decide_eq_true (show y<x by omega)];simp);go_wp2;go_roundw
       case rel=>
        refine ⟨m+2,by omega,by go_num,fun t ht=>?_,trivial⟩;by_cases ht2:t=m+1
        ·rw [ht2];exact HOK.out
        ·exact HA.out t (by omega)
       case measure=>simp [intOf];omega
  ·obtain rfl:j=e.alts.length:=by omega
   have HOK:Hid (R=Vt e):=Hd (by
    rw [←HR.out];unfold dataB;rw [show altsB e.alts=true from List.all_eq_true.2 fun t ht=>HA.out t (List.mem_range.1 ht)];rfl)
   have HX:Hid (VD e ⟨A,C,gA,gC⟩ w wr):=Hd ⟨HE1.out,HE2.out,HW1.out,by have:=HE2.out.lt;omega,HST.out.after HW1.out⟩;have HVO:Hid (e.d.vol.size≤maxLen∧e.d.own.size≤maxLen):=Hd ⟨by have:=HS.out.vo;unfold maxLen;omega,by have:=HS.out.ow;unfold maxLen;omega⟩;clear HE1 HE2 HW1 HST HS HSL HSA HB1 HM HBK HS2 HD1 HC23 HR HA;have d3:=HX.out.cell 3 (.int .i64 e.d.len) rfl;have d4:=HX.out.cell 4 (.int .i64 e.d.blk) rfl;have d5:=HX.out.cell 5 (.int .i64 e.d.kat) rfl;have d6:=HX.out.cell 6 (.int .i64 e.d.kln) rfl;have d7:=HX.out.cell 7 (.int .i64 e.d.itv) rfl;have d8:=HX.out.cell 8 (.int .i64 e.d.area) rfl;have d9:=HX.out.cell 9 (.int .i64 e.d.fi) rfl;have d10:=HX.out.cell 10 (.int .i64 e.d.fa) rfl;have d11:=HX.out.cell 11 (.int .i64 e.d.base) rfl;have d12:=HX.out.cell 12 (.int .i64 e.d.aat) rfl;have d13:=HX.out.cell 13 (.int .i64 e.d.aln) rfl
   go_wp2_with ((with_reducible show Calls _ _ _ _ _);refine Stop.go ?_);refine Stop.in' ?_;rename_i K hK X hX;clear d3 d4 d5 d6 d7 d8 d9 d10 d11 d12 d13;have HSN:Hid (Sl V3 1 (wr.alloc (.cells #[.int .i64 e.d.len,.int .i64 e.d.blk,.int .i64 e.d.kat,.int .i64 e.d.kln,.int .i64 e.d.itv,.int .i64 e.d.area,.int .i64 e.d.fi,.int .i64 e.d.fa,.int .i64 e.d.base,.int .i64 e.d.aat,.int .i64 e.d.aln] 3)) (wr.heap.size+1) (some ⟨wr.heap.size,0,none⟩) 11 11 [e.d.len,e.d.blk,e.d.kat,e.d.kln,e.d.itv,e.d.area,e.d.fi,e.d.fa,e.d.base,e.d.aat,e.d.aln]):=Hd (Sl.new (f:=V3) (k:=1) (fun _=>rfl) wr 3 [e.d.len,e.d.blk,e.d.kat,e.d.kln,e.d.itv,e.d.area,e.d.fi,e.d.fa,e.d.base,e.d.aat,e.d.aln])
   have HX:=Hd (HX.out.alloc (.cells #[.int .i64 e.d.len,.int .i64 e.d.blk,.int .i64 e.d.kat,.int .i64 e.d.kln,.int .i64 e.d.itv,.int .i64 e.d.area,.int .i64 e.d.fi,.int .i64 e.d.fa,.int .i64 e.d.base,.int .i64 e.d.aat,.int .i64 e.d.aln] 3));have hz1:wr.heap.size+1≤(wr.alloc (.cells #[.int .i64 e.d.len,.int .i64 e.d.blk,.int .i64 e.d.kat,.int .i64 e.d.kln,.int .i64 e.d.itv,.int .i64 e.d.area,.int .i64 e.d.fi,.int .i64 e.d.fa,.int .i64 e.d.base,.int .i64 e.d.aat,.int .i64 e.d.aln] 3)).heap.size:=by simp
   obtain ⟨W11,hW⟩:∃ V,wr.alloc (.cells #[.int .i64 e.d.len,.int .i64 e.d.blk,.int .i64 e.d.kat,.int .i64 e.d.kln,.int .i64 e.d.itv,.int .i64 e.d.area,.int .i64 e.d.fi,.int .i64 e.d.fa,.int .i64 e.d.base,.int .i64 e.d.aat,.int .i64 e.d.aln] 3)=V:=⟨_,rfl⟩
   simp only [hW] at HX HSN hz1 ⊢;have HSN:=Hd (HSN.out.more hz1);clear hW hz1;refine (V5 0 1099511627776 _ 11 11 [e.d.len,e.d.blk,e.d.kat,e.d.kln,e.d.itv,e.d.area,e.d.fi,e.d.fa,e.d.base,e.d.aat,e.d.aln] W11 HSN.out (by decide)).mono ?_;rintro x V ⟨rfl,rfl⟩;simp only [];refine hX _ _ ?_;clear hX;obtain ⟨q,hq⟩:∃ q,wiB 0 1099511627776 [e.d.len,e.d.blk,e.d.kat,e.d.kln,e.d.itv,e.d.area,e.d.fi,e.d.fa,e.d.base,e.d.aat,e.d.aln]=q:=⟨_,rfl⟩
   rw [hq];cases q with
   |false=>
    have HF:R=false:=by rw [HOK.out];unfold Vt;simp [hq]
    exact Uf 2 (.bool false) (by kernel_rfl) (by intro a' h4 hd;simp only [Exit.then];refine hK _ _ ?_;go_wp2;exact Br (v:=.bool false) ((results_tmp Tryz.results189 a'.tmps _ _).trans (by rw [h4])) hd ⟨by rw [HF],HX.out.be⟩)
   |true=>
    have k0:=Hd hq;clear hq;refine Wv (.bool true) ?_;refine Wv (.pointer (some ⟨w.heap.size+1,0,none⟩)) ?_;have m1:=HX.out.cell 0 (.int .i64 e.d.id) rfl;refine Wv (.int .i64 e.d.id) ?_ (r:=by go_simp);clear m1;refine X0 (by kernel_rfl) (.slice (some ⟨W11.heap.size,0,none⟩) 1 1) (W11.alloc (.cells #[.int .i64 e.d.id] 3)) (by go_simp) ?_;simp only [Act.put,Sv,Sz,Sw];have HSN:Hid (Sl V3 1 (W11.alloc (.cells #[.int .i64 e.d.id] 3)) (W11.heap.size+1) (some ⟨W11.heap.size,0,none⟩) 1 1 [e.d.id]):=Hd (Sl.new (f:=V3) (k:=1) (fun _=>rfl) W11 3 [e.d.id]);have HX:=Hd (HX.out.alloc (.cells #[.int .i64 e.d.id] 3));have hz1:W11.heap.size+1≤(W11.alloc (.cells #[.int .i64 e.d.id] 3)).heap.size:=by simp
    obtain ⟨W12,hW⟩:∃ V,W11.alloc (.cells #[.int .i64 e.d.id] 3)=V:=⟨_,rfl⟩
    simp only [hW] at HX HSN hz1 ⊢;have HSN:=Hd (HSN.out.more hz1);clear hW hz1;refine V0 (by kernel_rfl) 196 #[.int .i64 1,.int .i64 1099511627776,.slice (some ⟨W11.heap.size,0,none⟩) 1 1] (by kernel_rfl) ?_;refine (V5 1 1099511627776 _ 1 1 [e.d.id] W12 HSN.out (by decide)).mono ?_;rintro x V ⟨rfl,rfl⟩;simp only [];simp only [Act.put,Sv,Sz,Sw];obtain ⟨q,hq⟩:∃ q,wiB 1 1099511627776 [e.d.id]=q:=⟨_,rfl⟩
    rw [hq];cases q with
    |false=>
     have HF:R=false:=by rw [HOK.out];unfold Vt;simp [hq]
     exact Uf 2 (.bool false) (by kernel_rfl) (by intro a' h4 hd;simp only [Exit.then];refine hK _ _ ?_;go_wp2;exact Br (v:=.bool false) ((results_tmp Tryz.results189 a'.tmps _ _).trans (by rw [h4])) hd ⟨by rw [HF],HX.out.be⟩)
    |true=>
     have k1:=Hd hq;clear hq;refine Wv (.bool true) ?_;refine Wv (.bool true) ?_;refine Wv (.pointer (some ⟨w.heap.size+1,1,none⟩)) ?_;have m1:=HX.out.cell 1 (.int .i64 e.d.org) rfl;refine Wv (.int .i64 e.d.org) ?_ (r:=by go_simp);clear m1;refine X0 (by kernel_rfl) (.slice (some ⟨W12.heap.size,0,none⟩) 1 1) (W12.alloc (.cells #[.int .i64 e.d.org] 3)) (by go_simp) ?_;simp only [Act.put,Sv,Sz,Sw];have HSN:Hid (Sl V3 1 (W12.alloc (.cells #[.int .i64 e.d.org] 3)) (W12.heap.size+1) (some ⟨W12.heap.size,0,none⟩) 1 1 [e.d.org]):=Hd (Sl.new (f:=V3) (k:=1) (fun _=>rfl) W12 3 [e.d.org]);have HX:=Hd (HX.out.alloc (.cells #[.int .i64 e.d.org] 3));have hz1:W12.heap.size+1≤(W12.alloc (.cells #[.int .i64 e.d.org] 3)).heap.size:=by simp
     obtain ⟨W13,hW⟩:∃ V,W12.alloc (.cells #[.int .i64 e.d.org] 3)=V:=⟨_,rfl⟩
     simp only [hW] at HX HSN hz1 ⊢;have HSN:=Hd (HSN.out.more hz1);clear hW hz1;refine V0 (by kernel_rfl) 196 #[.int .i64 0,.int .i64 3,.slice (some ⟨W12.heap.size,0,none⟩) 1 1] (by kernel_rfl) ?_;refine (V5 0 3 _ 1 1 [e.d.org] W13 HSN.out (by decide)).mono ?_;rintro x V ⟨rfl,rfl⟩;simp only [];simp only [Act.put,Sv,Sz,Sw];obtain ⟨q,hq⟩:∃ q,wiB 0 3 [e.d.org]=q:=⟨_,rfl⟩
     rw [hq];cases q with
     |false=>
      have HF:R=false:=by rw [HOK.out];unfold Vt;simp [hq]
      exact Uf 2 (.bool false) (by kernel_rfl) (by intro a' h4 hd;simp only [Exit.then];refine hK _ _ ?_;go_wp2;exact Br (v:=.bool false) ((results_tmp Tryz.results189 a'.tmps _ _).trans (by rw [h4])) hd ⟨by rw [HF],HX.out.be⟩)
     |true=>
      have k2:=Hd hq;clear hq;refine Wv (.bool true) ?_;refine Wv (.bool true) ?_;refine Wv (.pointer (some ⟨w.heap.size+1,2,none⟩)) ?_;have m1:=HX.out.cell 2 (.int .i64 e.d.fmt) rfl;refine Wv (.int .i64 e.d.fmt) ?_ (r:=by go_simp);clear m1;refine X0 (by kernel_rfl) (.slice (some ⟨W13.heap.size,0,none⟩) 1 1) (W13.alloc (.cells #[.int .i64 e.d.fmt] 3)) (by go_simp) ?_;simp only [Act.put,Sv,Sz,Sw];have HSN:Hid (Sl V3 1 (W13.alloc (.cells #[.int .i64 e.d.fmt] 3)) (W13.heap.size+1) (some ⟨W13.heap.size,0,none⟩) 1 1 [e.d.fmt]):=Hd (Sl.new (f:=V3) (k:=1) (fun _=>rfl) W13 3 [e.d.fmt]);have HX:=Hd (HX.out.alloc (.cells #[.int .i64 e.d.fmt] 3));have hz1:W13.heap.size+1≤(W13.alloc (.cells #[.int .i64 e.d.fmt] 3)).heap.size:=by simp
      obtain ⟨W14,hW⟩:∃ V,W13.alloc (.cells #[.int .i64 e.d.fmt] 3)=V:=⟨_,rfl⟩
      simp only [hW] at HX HSN hz1 ⊢;have HSN:=Hd (HSN.out.more hz1);clear hW hz1;refine V0 (by kernel_rfl) 196 #[.int .i64 0,.int .i64 2,.slice (some ⟨W13.heap.size,0,none⟩) 1 1] (by kernel_rfl) ?_;refine (V5 0 2 _ 1 1 [e.d.fmt] W14 HSN.out (by decide)).mono ?_;rintro x V ⟨rfl,rfl⟩;simp only [];simp only [Act.put,Sv,Sz,Sw];obtain ⟨q,hq⟩:∃ q,wiB 0 2 [e.d.fmt]=q:=⟨_,rfl⟩
      rw [hq];cases q with
      |false=>
       have HF:R=false:=by rw [HOK.out];unfold Vt;simp [hq]
       exact Uf 2 (.bool false) (by kernel_rfl) (by intro a' h4 hd;simp only [Exit.then];refine hK _ _ ?_;go_wp2;exact Br (v:=.bool false) ((results_tmp Tryz.results189 a'.tmps _ _).trans (by rw [h4])) hd ⟨by rw [HF],HX.out.be⟩)
      |true=>
       have k3:=Hd hq;clear hq;refine Wv (.bool true) ?_;refine Wv (.bool true) ?_;refine Wv (.pointer (some ⟨w.heap.size+1,15,none⟩)) ?_;have m1:=HX.out.cell 15 (.int .i64 e.d.cls) rfl;refine Wv (.int .i64 e.d.cls) ?_ (r:=by go_simp);clear m1;refine X0 (by kernel_rfl) (.slice (some ⟨W14.heap.size,0,none⟩) 1 1) (W14.alloc (.cells #[.int .i64 e.d.cls] 3)) (by go_simp) ?_;simp only [Act.put,Sv,Sz,Sw];have HSN:Hid (Sl V3 1 (W14.alloc (.cells #[.int .i64 e.d.cls] 3)) (W14.heap.size+1) (some ⟨W14.heap.size,0,none⟩) 1 1 [e.d.cls]):=Hd (Sl.new (f:=V3) (k:=1) (fun _=>rfl) W14 3 [e.d.cls]);have HX:=Hd (HX.out.alloc (.cells #[.int .i64 e.d.cls] 3));have hz1:W14.heap.size+1≤(W14.alloc (.cells #[.int .i64 e.d.cls] 3)).heap.size:=by simp
       obtain ⟨W15,hW⟩:∃ V,W14.alloc (.cells #[.int .i64 e.d.cls] 3)=V:=⟨_,rfl⟩
       simp only [hW] at HX HSN hz1 ⊢;have HSN:=Hd (HSN.out.more hz1);clear hW hz1;refine V0 (by kernel_rfl) 196 #[.int .i64 0,.int .i64 3,.slice (some ⟨W14.heap.size,0,none⟩) 1 1] (by kernel_rfl) ?_;refine (V5 0 3 _ 1 1 [e.d.cls] W15 HSN.out (by decide)).mono ?_;rintro x V ⟨rfl,rfl⟩;simp only [];simp only [Act.put,Sv,Sz,Sw];obtain ⟨q,hq⟩:∃ q,wiB 0 3 [e.d.cls]=q:=⟨_,rfl⟩
       rw [hq];cases q with
       |false=>
        have HF:R=false:=by rw [HOK.out];unfold Vt;simp [hq]
        exact Uf 2 (.bool false) (by kernel_rfl) (by intro a' h4 hd;simp only [Exit.then];refine hK _ _ ?_;go_wp2;exact Br (v:=.bool false) ((results_tmp Tryz.results189 a'.tmps _ _).trans (by rw [h4])) hd ⟨by rw [HF],HX.out.be⟩)
       |true=>
        have k4:=Hd hq;clear hq;refine Wv (.bool true) ?_;refine Wv (.bool true) ?_;refine Wv (.pointer (some ⟨w.heap.size+1,16,none⟩)) ?_;have m1:=HX.out.cell 16 (.string e.d.vol) rfl;refine Wv (.string e.d.vol) ?_ (r:=by go_simp);clear m1;refine Wv (.bool (e.d.vol.toList == [])) ?_;obtain ⟨z,hz⟩:∃ z,(e.d.vol.toList == [])=z:=⟨_,rfl⟩
        rw [hz];cases z with
        |true=>
         have hq:orW e.d.vol=true:=by unfold orW;rw [decide_eq_true (beq_iff_eq.1 hz)];rfl
         have k5:=Hd hq;clear hq;clear hz;refine Wv (.bool true) ?_;refine Wk ?_;refine Wk ?_;refine Wk ?_;refine Wv (.bool true) ?_;refine Wv (.bool true) ?_;refine Wv (.bool true) ?_;refine Wv (.pointer (some ⟨w.heap.size+1,17,none⟩)) ?_;have m1:=HX.out.cell 17 (.string e.d.own) rfl;refine Wv (.string e.d.own) ?_ (r:=by go_simp);clear m1;refine Wv (.bool (e.d.own.toList == [])) ?_;obtain ⟨z,hz⟩:∃ z,(e.d.own.toList == [])=z:=⟨_,rfl⟩
         rw [hz];cases z with
         |true=>
          have hq:orW e.d.own=true:=by unfold orW;rw [decide_eq_true (beq_iff_eq.1 hz)];rfl
          have k6:=Hd hq;clear hq;clear hz;refine Wv (.bool true) ?_;refine Wk ?_;refine Wk ?_;refine Wk ?_;refine Wv (.bool true) ?_;refine Wv (.bool true) ?_;refine Wv (.bool true) ?_;refine Wv (.pointer (some ⟨w.heap.size+1,18,none⟩)) ?_;have m1:=HX.out.cell 18 (.int .i64 e.d.cre) rfl;refine Wv (.int .i64 e.d.cre) ?_ (r:=by go_simp);clear m1;refine Wv (.pointer (some ⟨w.heap.size+1,19,none⟩)) ?_;have m1:=HX.out.cell 19 (.int .i64 e.d.exp) rfl;refine Wv (.int .i64 e.d.exp) ?_ (r:=by go_simp);clear m1;refine Wv (.pointer (some ⟨w.heap.size,24,none⟩)) ?_;have m1:=HX.out.cell1 24 (.int .i64 e.used) rfl;refine Wv (.int .i64 e.used) ?_ (r:=by go_simp);clear m1;refine X0 (by kernel_rfl) (.slice (some ⟨W15.heap.size,0,none⟩) 3 3) (W15.alloc (.cells #[.int .i64 e.d.cre,.int .i64 e.d.exp,.int .i64 e.used] 3)) (by go_simp) ?_;simp only [Act.put,Sv,Sz,Sw]
          have HSN:Hid (Sl V3 1 (W15.alloc (.cells #[.int .i64 e.d.cre,.int .i64 e.d.exp,.int .i64 e.used] 3)) (W15.heap.size+1) (some ⟨W15.heap.size,0,none⟩) 3 3 [e.d.cre,e.d.exp,e.used]):=Hd (Sl.new (f:=V3) (k:=1) (fun _=>rfl) W15 3 [e.d.cre,e.d.exp,e.used]);have HX:=Hd (HX.out.alloc (.cells #[.int .i64 e.d.cre,.int .i64 e.d.exp,.int .i64 e.used] 3));have hz1:W15.heap.size+1≤(W15.alloc (.cells #[.int .i64 e.d.cre,.int .i64 e.d.exp,.int .i64 e.used] 3)).heap.size:=by simp
          obtain ⟨W16,hW⟩:∃ V,W15.alloc (.cells #[.int .i64 e.d.cre,.int .i64 e.d.exp,.int .i64 e.used] 3)=V:=⟨_,rfl⟩
          simp only [hW] at HX HSN hz1 ⊢;have HSN:=Hd (HSN.out.more hz1);clear hW hz1;refine V0 (by kernel_rfl) 249 #[.slice (some ⟨W15.heap.size,0,none⟩) 3 3] (by kernel_rfl) ?_;refine (Io _ 3 3 [e.d.cre,e.d.exp,e.used] W16 HSN.out (by decide) HX.out.st.tb).mono ?_;rintro x V ⟨rfl,hb⟩;have HX:=Hd (HX.out.next hb);clear hb;simp only [];simp only [Act.put,Sv,Sz,Sw];obtain ⟨q,hq⟩:∃ q,dayB [e.d.cre,e.d.exp,e.used]=q:=⟨_,rfl⟩
          rw [hq];cases q with
          |false=>
           have HF:R=false:=by rw [HOK.out];unfold Vt;simp [hq]
           exact Uf 2 (.bool false) (by kernel_rfl) (by intro a' h4 hd;simp only [Exit.then];refine hK _ _ ?_;go_wp2;exact Br (v:=.bool false) ((results_tmp Tryz.results189 a'.tmps _ _).trans (by rw [h4])) hd ⟨by rw [HF],HX.out.be⟩)
          |true=>
           have k7:=Hd hq;clear hq;refine Wv (.bool true) ?_;refine Wv (.bool true) ?_;refine Wv (.pointer (some ⟨w.heap.size,23,none⟩)) ?_;have m1:=HX.out.cell1 23 (.slice A e.alts.length C) rfl;refine Wv (.slice A e.alts.length C) ?_ (r:=by go_simp);clear m1;refine Wv (.int .i64 e.alts.length) ?_;refine Wv (.bool (decide ((e.alts.length:Int)≤4))) ?_;obtain ⟨q,hq⟩:∃ q,decide ((e.alts.length:Int)≤4)=q:=⟨_,rfl⟩
           rw [hq];have HF:R=q:=by rw [HOK.out];unfold Vt;simp only [k0.out,k1.out,k2.out,k3.out,k4.out,k5.out,k6.out,k7.out,Bool.true_and];rw [←hq];exact decide_eq_decide.2 (by omega)
           exact Uf 2 (.bool q) (by cases q<;>kernel_rfl) (by intro a' h4 hd;simp only [Exit.then];refine hK _ _ ?_;go_wp2;exact Br (v:=.bool q) ((results_tmp Tryz.results189 a'.tmps _ _).trans (by rw [h4])) hd ⟨by rw [HF],HX.out.be⟩)
         |false=>
          refine Wv (.bool false) ?_;refine Wv (.pointer (some ⟨w.heap.size+1,17,none⟩)) ?_;have m1:=HX.out.cell 17 (.string e.d.own) rfl;refine Wv (.string e.d.own) ?_ (r:=by go_simp);clear m1;refine V0 (by kernel_rfl) 197 #[.string e.d.own] (by kernel_rfl) ?_;refine (Z1 e.d.own W15 HVO.out.2 HX.out.st.mx).mono ?_;rintro x W15V ⟨rfl,hb⟩;have HX:=Hd (HX.out.next hb);clear hb;simp only [];simp only [Act.put,Sv,Sz,Sw];have hor:orW e.d.own=Ix e.d.own:=by unfold orW;rw [decide_eq_false (fun h=>by rw [h] at hz;cases hz)];rfl
          rw [←hor];clear hz hor;obtain ⟨q,hq⟩:∃ q,orW e.d.own=q:=⟨_,rfl⟩
          rw [hq];cases q with
          |false=>
           have HF:R=false:=by rw [HOK.out];unfold Vt;simp [hq]
           exact Uf 2 (.bool false) (by kernel_rfl) (by intro a' h4 hd;simp only [Exit.then];refine hK _ _ ?_;go_wp2;exact Br (v:=.bool false) ((results_tmp Tryz.results189 a'.tmps _ _).trans (by rw [h4])) hd ⟨by rw [HF],HX.out.be⟩)
          |true=>
           have k6:=Hd hq;clear hq;refine Wv (.bool true) ?_;refine Wv (.bool true) ?_;refine Wv (.bool true) ?_;refine Wv (.pointer (some ⟨w.heap.size+1,18,none⟩)) ?_;have m1:=HX.out.cell 18 (.int .i64 e.d.cre) rfl;refine Wv (.int .i64 e.d.cre) ?_ (r:=by go_simp);clear m1;refine Wv (.pointer (some ⟨w.heap.size+1,19,none⟩)) ?_;have m1:=HX.out.cell 19 (.int .i64 e.d.exp) rfl;refine Wv (.int .i64 e.d.exp) ?_ (r:=by go_simp);clear m1;refine Wv (.pointer (some ⟨w.heap.size,24,none⟩)) ?_;have m1:=HX.out.cell1 24 (.int .i64 e.used) rfl;refine Wv (.int .i64 e.used) ?_ (r:=by go_simp);clear m1;refine X0 (by kernel_rfl) (.slice (some ⟨W15V.heap.size,0,none⟩) 3 3) (W15V.alloc (.cells #[.int .i64 e.d.cre,.int .i64 e.d.exp,.int .i64 e.used] 3)) (by go_simp) ?_;simp only [Act.put,Sv,Sz,Sw]
           have HSN:Hid (Sl V3 1 (W15V.alloc (.cells #[.int .i64 e.d.cre,.int .i64 e.d.exp,.int .i64 e.used] 3)) (W15V.heap.size+1) (some ⟨W15V.heap.size,0,none⟩) 3 3 [e.d.cre,e.d.exp,e.used]):=Hd (Sl.new (f:=V3) (k:=1) (fun _=>rfl) W15V 3 [e.d.cre,e.d.exp,e.used]);have HX:=Hd (HX.out.alloc (.cells #[.int .i64 e.d.cre,.int .i64 e.d.exp,.int .i64 e.used] 3));have hz1:W15V.heap.size+1≤(W15V.alloc (.cells #[.int .i64 e.d.cre,.int .i64 e.d.exp,.int .i64 e.used] 3)).heap.size:=by simp
           obtain ⟨W17,hW⟩:∃ V,W15V.alloc (.cells #[.int .i64 e.d.cre,.int .i64 e.d.exp,.int .i64 e.used] 3)=V:=⟨_,rfl⟩
           simp only [hW] at HX HSN hz1 ⊢;have HSN:=Hd (HSN.out.more hz1);clear hW hz1;refine V0 (by kernel_rfl) 249 #[.slice (some ⟨W15V.heap.size,0,none⟩) 3 3] (by kernel_rfl) ?_;refine (Io _ 3 3 [e.d.cre,e.d.exp,e.used] W17 HSN.out (by decide) HX.out.st.tb).mono ?_;rintro x V ⟨rfl,hb⟩;have HX:=Hd (HX.out.next hb);clear hb;simp only [];simp only [Act.put,Sv,Sz,Sw];obtain ⟨q,hq⟩:∃ q,dayB [e.d.cre,e.d.exp,e.used]=q:=⟨_,rfl⟩
           rw [hq];cases q with
           |false=>
            have HF:R=false:=by rw [HOK.out];unfold Vt;simp [hq]
            exact Uf 2 (.bool false) (by kernel_rfl) (by intro a' h4 hd;simp only [Exit.then];refine hK _ _ ?_;go_wp2;exact Br (v:=.bool false) ((results_tmp Tryz.results189 a'.tmps _ _).trans (by rw [h4])) hd ⟨by rw [HF],HX.out.be⟩)
           |true=>
            have k7:=Hd hq;clear hq;refine Wv (.bool true) ?_;refine Wv (.bool true) ?_;refine Wv (.pointer (some ⟨w.heap.size,23,none⟩)) ?_;have m1:=HX.out.cell1 23 (.slice A e.alts.length C) rfl;refine Wv (.slice A e.alts.length C) ?_ (r:=by go_simp);clear m1;refine Wv (.int .i64 e.alts.length) ?_;refine Wv (.bool (decide ((e.alts.length:Int)≤4))) ?_;obtain ⟨q,hq⟩:∃ q,decide ((e.alts.length:Int)≤4)=q:=⟨_,rfl⟩
            rw [hq];have HF:R=q:=by rw [HOK.out];unfold Vt;simp only [k0.out,k1.out,k2.out,k3.out,k4.out,k5.out,k6.out,k7.out,Bool.true_and];rw [←hq];exact decide_eq_decide.2 (by omega)
            exact Uf 2 (.bool q) (by cases q<;>kernel_rfl) (by intro a' h4 hd;simp only [Exit.then];refine hK _ _ ?_;go_wp2;exact Br (v:=.bool q) ((results_tmp Tryz.results189 a'.tmps _ _).trans (by rw [h4])) hd ⟨by rw [HF],HX.out.be⟩)
        |false=>
         refine Wv (.bool false) ?_;refine Wv (.pointer (some ⟨w.heap.size+1,16,none⟩)) ?_;have m1:=HX.out.cell 16 (.string e.d.vol) rfl;refine Wv (.string e.d.vol) ?_ (r:=by go_simp);clear m1;refine V0 (by kernel_rfl) 197 #[.string e.d.vol] (by kernel_rfl) ?_;refine (Z1 e.d.vol W15 HVO.out.1 HX.out.st.mx).mono ?_;rintro x W15V ⟨rfl,hb⟩;have HX:=Hd (HX.out.next hb);clear hb;simp only [];simp only [Act.put,Sv,Sz,Sw];have hor:orW e.d.vol=Ix e.d.vol:=by unfold orW;rw [decide_eq_false (fun h=>by rw [h] at hz;cases hz)];rfl
         rw [←hor];clear hz hor;obtain ⟨q,hq⟩:∃ q,orW e.d.vol=q:=⟨_,rfl⟩
         rw [hq];cases q with
         |false=>
          have HF:R=false:=by rw [HOK.out];unfold Vt;simp [hq]
          exact Uf 2 (.bool false) (by kernel_rfl) (by intro a' h4 hd;simp only [Exit.then];refine hK _ _ ?_;go_wp2;exact Br (v:=.bool false) ((results_tmp Tryz.results189 a'.tmps _ _).trans (by rw [h4])) hd ⟨by rw [HF],HX.out.be⟩)
         |true=>
          have k5:=Hd hq;clear hq;refine Wv (.bool true) ?_;refine Wv (.bool true) ?_;refine Wv (.bool true) ?_;refine Wv (.pointer (some ⟨w.heap.size+1,17,none⟩)) ?_;have m1:=HX.out.cell 17 (.string e.d.own) rfl;refine Wv (.string e.d.own) ?_ (r:=by go_simp);clear m1;refine Wv (.bool (e.d.own.toList == [])) ?_;obtain ⟨z,hz⟩:∃ z,(e.d.own.toList == [])=z:=⟨_,rfl⟩
          rw [hz];cases z with
          |true=>
           have hq:orW e.d.own=true:=by unfold orW;rw [decide_eq_true (beq_iff_eq.1 hz)];rfl
           have k6:=Hd hq;clear hq;clear hz;refine Wv (.bool true) ?_;refine Wk ?_;refine Wk ?_;refine Wk ?_;refine Wv (.bool true) ?_;refine Wv (.bool true) ?_;refine Wv (.bool true) ?_;refine Wv (.pointer (some ⟨w.heap.size+1,18,none⟩)) ?_;have m1:=HX.out.cell 18 (.int .i64 e.d.cre) rfl;refine Wv (.int .i64 e.d.cre) ?_ (r:=by go_simp);clear m1;refine Wv (.pointer (some ⟨w.heap.size+1,19,none⟩)) ?_;have m1:=HX.out.cell 19 (.int .i64 e.d.exp) rfl;refine Wv (.int .i64 e.d.exp) ?_ (r:=by go_simp);clear m1;refine Wv (.pointer (some ⟨w.heap.size,24,none⟩)) ?_;have m1:=HX.out.cell1 24 (.int .i64 e.used) rfl;refine Wv (.int .i64 e.used) ?_ (r:=by go_simp);clear m1;refine X0 (by kernel_rfl) (.slice (some ⟨W15V.heap.size,0,none⟩) 3 3) (W15V.alloc (.cells #[.int .i64 e.d.cre,.int .i64 e.d.exp,.int .i64 e.used] 3)) (by go_simp) ?_;simp only [Act.put,Sv,Sz,Sw]
           have HSN:Hid (Sl V3 1 (W15V.alloc (.cells #[.int .i64 e.d.cre,.int .i64 e.d.exp,.int .i64 e.used] 3)) (W15V.heap.size+1) (some ⟨W15V.heap.size,0,none⟩) 3 3 [e.d.cre,e.d.exp,e.used]):=Hd (Sl.new (f:=V3) (k:=1) (fun _=>rfl) W15V 3 [e.d.cre,e.d.exp,e.used]);have HX:=Hd (HX.out.alloc (.cells #[.int .i64 e.d.cre,.int .i64 e.d.exp,.int .i64 e.used] 3));have hz1:W15V.heap.size+1≤(W15V.alloc (.cells #[.int .i64 e.d.cre,.int .i64 e.d.exp,.int .i64 e.used] 3)).heap.size:=by simp
           obtain ⟨W18,hW⟩:∃ V,W15V.alloc (.cells #[.int .i64 e.d.cre,.int .i64 e.d.exp,.int .i64 e.used] 3)=V:=⟨_,rfl⟩
           simp only [hW] at HX HSN hz1 ⊢;have HSN:=Hd (HSN.out.more hz1);clear hW hz1;refine V0 (by kernel_rfl) 249 #[.slice (some ⟨W15V.heap.size,0,none⟩) 3 3] (by kernel_rfl) ?_;refine (Io _ 3 3 [e.d.cre,e.d.exp,e.used] W18 HSN.out (by decide) HX.out.st.tb).mono ?_;rintro x V ⟨rfl,hb⟩;have HX:=Hd (HX.out.next hb);clear hb;simp only [];simp only [Act.put,Sv,Sz,Sw];obtain ⟨q,hq⟩:∃ q,dayB [e.d.cre,e.d.exp,e.used]=q:=⟨_,rfl⟩
           rw [hq];cases q with
           |false=>
            have HF:R=false:=by rw [HOK.out];unfold Vt;simp [hq]
            exact Uf 2 (.bool false) (by kernel_rfl) (by intro a' h4 hd;simp only [Exit.then];refine hK _ _ ?_;go_wp2;exact Br (v:=.bool false) ((results_tmp Tryz.results189 a'.tmps _ _).trans (by rw [h4])) hd ⟨by rw [HF],HX.out.be⟩)
           |true=>
            have k7:=Hd hq;clear hq;refine Wv (.bool true) ?_;refine Wv (.bool true) ?_;refine Wv (.pointer (some ⟨w.heap.size,23,none⟩)) ?_;have m1:=HX.out.cell1 23 (.slice A e.alts.length C) rfl;refine Wv (.slice A e.alts.length C) ?_ (r:=by go_simp);clear m1;refine Wv (.int .i64 e.alts.length) ?_;refine Wv (.bool (decide ((e.alts.length:Int)≤4))) ?_;obtain ⟨q,hq⟩:∃ q,decide ((e.alts.length:Int)≤4)=q:=⟨_,rfl⟩
            rw [hq];have HF:R=q:=by rw [HOK.out];unfold Vt;simp only [k0.out,k1.out,k2.out,k3.out,k4.out,k5.out,k6.out,k7.out,Bool.true_and];rw [←hq];exact decide_eq_decide.2 (by omega)
            exact Uf 2 (.bool q) (by cases q<;>kernel_rfl) (by intro a' h4 hd;simp only [Exit.then];refine hK _ _ ?_;go_wp2;exact Br (v:=.bool q) ((results_tmp Tryz.results189 a'.tmps _ _).trans (by rw [h4])) hd ⟨by rw [HF],HX.out.be⟩)
          |false=>
           refine Wv (.bool false) ?_;refine Wv (.pointer (some ⟨w.heap.size+1,17,none⟩)) ?_;have m1:=HX.out.cell 17 (.string e.d.own) rfl;refine Wv (.string e.d.own) ?_ (r:=by go_simp);clear m1;refine V0 (by kernel_rfl) 197 #[.string e.d.own] (by kernel_rfl) ?_;refine (Z1 e.d.own W15V HVO.out.2 HX.out.st.mx).mono ?_;rintro x W15VV ⟨rfl,hb⟩;have HX:=Hd (HX.out.next hb);clear hb;simp only [];simp only [Act.put,Sv,Sz,Sw];have hor:orW e.d.own=Ix e.d.own:=by unfold orW;rw [decide_eq_false (fun h=>by rw [h] at hz;cases hz)];rfl
           rw [←hor];clear hz hor;obtain ⟨q,hq⟩:∃ q,orW e.d.own=q:=⟨_,rfl⟩
           rw [hq];cases q with
           |false=>
            have HF:R=false:=by rw [HOK.out];unfold Vt;simp [hq]
            exact Uf 2 (.bool false) (by kernel_rfl) (by intro a' h4 hd;simp only [Exit.then];refine hK _ _ ?_;go_wp2;exact Br (v:=.bool false) ((results_tmp Tryz.results189 a'.tmps _ _).trans (by rw [h4])) hd ⟨by rw [HF],HX.out.be⟩)
           |true=>
            have k6:=Hd hq;clear hq;refine Wv (.bool true) ?_;refine Wv (.bool true) ?_;refine Wv (.bool true) ?_;refine Wv (.pointer (some ⟨w.heap.size+1,18,none⟩)) ?_;have m1:=HX.out.cell 18 (.int .i64 e.d.cre) rfl;refine Wv (.int .i64 e.d.cre) ?_ (r:=by go_simp);clear m1;refine Wv (.pointer (some ⟨w.heap.size+1,19,none⟩)) ?_;have m1:=HX.out.cell 19 (.int .i64 e.d.exp) rfl;refine Wv (.int .i64 e.d.exp) ?_ (r:=by go_simp);clear m1;refine Wv (.pointer (some ⟨w.heap.size,24,none⟩)) ?_;have m1:=HX.out.cell1 24 (.int .i64 e.used) rfl;refine Wv (.int .i64 e.used) ?_ (r:=by go_simp);clear m1;refine X0 (by kernel_rfl) (.slice (some ⟨W15VV.heap.size,0,none⟩) 3 3) (W15VV.alloc (.cells #[.int .i64 e.d.cre,.int .i64 e.d.exp,.int .i64 e.used] 3)) (by go_simp) ?_;simp only [Act.put,Sv,Sz,Sw]
            have HSN:Hid (Sl V3 1 (W15VV.alloc (.cells #[.int .i64 e.d.cre,.int .i64 e.d.exp,.int .i64 e.used] 3)) (W15VV.heap.size+1) (some ⟨W15VV.heap.size,0,none⟩) 3 3 [e.d.cre,e.d.exp,e.used]):=Hd (Sl.new (f:=V3) (k:=1) (fun _=>rfl) W15VV 3 [e.d.cre,e.d.exp,e.used]);have HX:=Hd (HX.out.alloc (.cells #[.int .i64 e.d.cre,.int .i64 e.d.exp,.int .i64 e.used] 3));have hz1:W15VV.heap.size+1≤(W15VV.alloc (.cells #[.int .i64 e.d.cre,.int .i64 e.d.exp,.int .i64 e.used] 3)).heap.size:=by simp
            obtain ⟨W19,hW⟩:∃ V,W15VV.alloc (.cells #[.int .i64 e.d.cre,.int .i64 e.d.exp,.int .i64 e.used] 3)=V:=⟨_,rfl⟩
            simp only [hW] at HX HSN hz1 ⊢;have HSN:=Hd (HSN.out.more hz1);clear hW hz1;refine V0 (by kernel_rfl) 249 #[.slice (some ⟨W15VV.heap.size,0,none⟩) 3 3] (by kernel_rfl) ?_;refine (Io _ 3 3 [e.d.cre,e.d.exp,e.used] W19 HSN.out (by decide) HX.out.st.tb).mono ?_;rintro x V ⟨rfl,hb⟩;have HX:=Hd (HX.out.next hb);clear hb;simp only [];simp only [Act.put,Sv,Sz,Sw];obtain ⟨q,hq⟩:∃ q,dayB [e.d.cre,e.d.exp,e.used]=q:=⟨_,rfl⟩
            rw [hq];cases q with
            |false=>
             have HF:R=false:=by rw [HOK.out];unfold Vt;simp [hq]
             exact Uf 2 (.bool false) (by kernel_rfl) (by intro a' h4 hd;simp only [Exit.then];refine hK _ _ ?_;go_wp2;exact Br (v:=.bool false) ((results_tmp Tryz.results189 a'.tmps _ _).trans (by rw [h4])) hd ⟨by rw [HF],HX.out.be⟩)
            |true=>
             have k7:=Hd hq;clear hq;refine Wv (.bool true) ?_;refine Wv (.bool true) ?_;refine Wv (.pointer (some ⟨w.heap.size,23,none⟩)) ?_;have m1:=HX.out.cell1 23 (.slice A e.alts.length C) rfl;refine Wv (.slice A e.alts.length C) ?_ (r:=by go_simp);clear m1;refine Wv (.int .i64 e.alts.length) ?_;refine Wv (.bool (decide ((e.alts.length:Int)≤4))) ?_;obtain ⟨q,hq⟩:∃ q,decide ((e.alts.length:Int)≤4)=q:=⟨_,rfl⟩
             rw [hq];have HF:R=q:=by rw [HOK.out];unfold Vt;simp only [k0.out,k1.out,k2.out,k3.out,k4.out,k5.out,k6.out,k7.out,Bool.true_and];rw [←hq];exact decide_eq_decide.2 (by omega)
             exact Uf 2 (.bool q) (by cases q<;>kernel_rfl) (by intro a' h4 hd;simp only [Exit.then];refine hK _ _ ?_;go_wp2;exact Br (v:=.bool q) ((results_tmp Tryz.results189 a'.tmps _ _).trans (by rw [h4])) hd ⟨by rw [HF],HX.out.be⟩)
end Go.Proofs.YtapanepkfbamhaaGreatDoor
