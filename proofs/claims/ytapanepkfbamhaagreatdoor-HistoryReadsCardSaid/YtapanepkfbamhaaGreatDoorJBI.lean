/- Part of the proof of HistoryReads. -/
import Derived.Test.YtapanepkfbamhaaGreatDoorJBG
import Derived.Test.YtapanepkfbamhaaGreatDoorJBH
namespace Go.Proofs.YtapanepkfbamhaaGreatDoor
open Tryz (prog)
set_option maxRecDepth 100000
set_option maxHeartbeats 4000000
open Go.RowKit
def Yj (d:DSet) (j:Nat) (s:Int×List ByteArray×Int) (q:Pr):Bool:=
 if d.org=0 then (Xj ((j:Int)+1)).toList == q.key.toList else if d.org=1 then (Vo d q.rcd s.1 s.2.1 s.2.2).1.toList == q.key.toList else true
def I9 (d:DSet) (s:Int×List ByteArray×Int) (q:Pr):Int×List ByteArray×Int:=if d.org=1 then (Vo d q.rcd s.1 s.2.1 s.2.2).2 else s
def riseB (prev:Option ByteArray) (k:ByteArray):Bool:=match prev with
 |none=>true
 |some q=>Vl q k
def fvL (d:DSet):Option ByteArray→Nat→Int×List ByteArray×Int→List Pr→Bool
 |_,_,_,[]=>true
 |prev,j,s,q::r=>Vr d q&&riseB prev q.key&&Yj d j s q&&fvL d (some q.key) (j+1) (I9 d s q) r
def Kz (d:DSet) (ap:Int) (ps:List Pr):Bool:=Ka d&&decide (0≤ap)&&decide (ap≤1099511627776)&&J3 d ap ps&&fvL d none 0 (0,[],0) ps
def prevK (l:List Pr) (j:Nat):Option ByteArray:=if j=0 then none else (l[j-1]?).map (·.key)
theorem Xp (l:List Pr) (j:Nat) (q:Pr) (h:l[j]? =some q):prevK l (j+1)=some q.key:=by simp [prevK,h]
structure FV2 (x:Cnt) (w W:World):Prop where
 b1:Blk W w.heap.size 30 (cnC x).toArray
 b2:Blk W (w.heap.size+1) 27 (dC x.d).toArray
 sz:w.heap.size+2≤W.heap.size
 be:Below w.heap.size w W
theorem Z5 {x:Cnt} {w W W':World} (h:FV2 x w W) (hb:Below W.heap.size W W'):FV2 x w W':=
 ⟨h.b1.below hb h.b1.lt,h.b2.below hb h.b2.lt,Lx h.sz hb.size,U0 h.be hb h.be.size⟩
theorem fv2_new (x:Cnt) (w:World):FV2 x w ((w.alloc (.cells (cnC x).toArray 30)).alloc (.cells (dC x.d).toArray 27)):=
 ⟨(Blk.new w _ _).alloc _,U3 (w.alloc _) _ _ _ (by simp),by simp,((Bf _ _).alloc (Le _) _).alloc (by simp) _⟩
structure FL (E0:Nat) (x:Cnt) (y:Edn) (w W:World):Prop where
 b1:Blk W w.heap.size 30 (cnC x).toArray
 b2:Blk W (w.heap.size+1) 27 (dC x.d).toArray
 b3:Blk W E0 152 (edC y).toArray
 sl:Sl Ug 1 W W.heap.size y.A y.n y.c y.rs
 na:∀ a,y.A=some a→E0+1≤a.block
 be:Below w.heap.size w W
 sz:E0+1≤W.heap.size
 ge:w.heap.size+2≤E0
theorem Vw {E0:Nat} {x:Cnt} {y:Edn} {w W W':World} (h:FL E0 x y w W) (hb:Below W.heap.size W W'):FL E0 x y w W':=
 ⟨h.b1.below hb h.b1.lt,h.b2.below hb h.b2.lt,h.b3.below hb h.b3.lt,h.sl.after hb hb.size,h.na,U0 h.be hb h.be.size,Lx h.sz hb.size,h.ge⟩
theorem fl_set {E0:Nat} {x:Cnt} {y z:Edn} {w W:World} (h:FL E0 x y w W) (hs:Sl Ug 1 W W.heap.size z.A z.n z.c z.rs) (hz:∀ a,z.A=some a→E0+1≤a.block):FL E0 x z w (W.setRow E0 (edC z).toArray):=
 have hb:Below E0 W (W.setRow E0 (edC z).toArray):=U6 (Bf _ _) (Le _) _;have hg:=h.ge
 ⟨h.b1.below hb (by omega),h.b2.below hb (by omega),setRow_heap _ _ _ _ _ _ h.b3,Xu hs _ _ (fun a ha=>by have:=hz a ha;omega),hz,U6 h.be (by omega) _,by rw [size_setRow];exact h.sz,hg⟩
theorem fl_new {x:Cnt} {w W:World} (h:FV2 x w W):FL W.heap.size x ⟨0,none,0,0,[],0⟩ w (W.alloc (.cells zEd.toArray 152)):=
 ⟨h.b1.alloc _,h.b2.alloc _,Blk.new _ _ _,Sl.nil,fun a ha=>by simp at ha,h.be.alloc h.be.size _,by simp,h.sz⟩
theorem fwdValid_m (d:DSet) (ap:Int) (A:Option Addr) (n c:Nat) (ps:List Pr) (w:World) (hx:CW w ⟨d,ap,A,n,c,ps⟩) (hc:Cod w) (hrz:∀ q∈ps,q.rcd.size≤maxLen):
  Calls prog 68 #[.agg (cnC ⟨d,ap,A,n,c,ps⟩).toArray] w fun e w'=>e = .returned (.bool (Kz d ap ps))∧Below w.heap.size w w':=by
 obtain ⟨R0,hR0⟩:∃ R,Kz d ap ps=R:=⟨_,rfl⟩
 rw [hR0];have HR0:=Hd hR0;have HM:=Hd (cn_range ⟨d,ap,A,n,c,ps⟩ w 30);have H1:=Hd (Z6 d);have HB:=Hd fun old=>U3 (w.alloc (.cells (cnC ⟨d,ap,A,n,c,ps⟩).toArray 30)) 27 old (w.heap.size+1) (by simp)
 have HS:Hid (∀ old,((w.alloc (.cells (cnC ⟨d,ap,A,n,c,ps⟩).toArray 30)).alloc (.cells old 27)).setRow (w.heap.size+1) (dC d).toArray=((w.alloc (.cells (cnC ⟨d,ap,A,n,c,ps⟩).toArray 30)).alloc (.cells (dC d).toArray 27))):=Hd fun old=>Ue (w.alloc (.cells (cnC ⟨d,ap,A,n,c,ps⟩).toArray 30)) (w.heap.size+1) (by simp) old (dC d).toArray 27
 have HX:=Hd (fv2_new ⟨d,ap,A,n,c,ps⟩ w);have HD:Hid (∀ W,Calls prog 82 #[.agg (dC d).toArray] W fun e w'=>e = .returned (.bool (Ka d))∧Below W.heap.size W w'):=Hd fun W=>described_any d W
 have HV:Hid (∀ W,Below w.heap.size w W→Calls prog 83 #[.agg (cnC ⟨d,ap,A,n,c,ps⟩).toArray] W fun e w'=>e = .returned (.bool (J3 d ap ps))∧Below W.heap.size W w'):=Hd fun W hb=>archValid_any ⟨d,ap,A,n,c,ps⟩ W (hx.below hb)
 have HSL:Hid (Sl prC 2 w w.heap.size A n c ps):=Hd hx.sl;have hn:n≤1024:=hx.le;have HC:=Hd hc;have HRZ:=Hd hrz;have HL:Hid (ps.length=n):=Hd hx.sl.len;clear hx hR0 hc hrz;cases hd:Ka d with
 |false=>
  have hq:R0=false:=by rw [←HR0.out];unfold Kz;rw [hd];rfl
  subst hq;go_enter Tryz.func68,Tryz.ntmps68;go_wp2_with (first|((with_reducible refine Gl 27 8 ?_);refine Lm rfl 27 _ rfl w.heap.size 0 rfl (dC d) _ HM.out Tryz.underlying27 rfl (by kernel_rfl) ?_)|((with_reducible refine Gt 27 3 ?_);refine Lt rfl 27 _ _ rfl (w.heap.size+1) (dC d).toArray rfl rfl 27 _ (HB.out _) (by kernel_rfl) rfl H1.out ?_;rw [HS.out])|((with_reducible refine Gl 27 3 ?_);refine Lr rfl 27 _ rfl (w.heap.size+1) rfl 27 (dC d).toArray (0,0) _ HX.out.b2 Tryz.underlying27 rfl (by kernel_rfl) ?_)|(go_at_call 82;refine (HD.out _).mono ?_;rw [hd];rintro e w2 ⟨rfl,hb⟩;have HX2:=Hd (Z5 HX.out hb);clear hb;have c21:=(HX2.out.b1.cell 21).trans (show _=some (Value.int .i64 ap) from rfl);have c22:=(HX2.out.b1.cell 22).trans (show _=some (Value.slice A n c) from rfl)));go_ret;exact ⟨rfl,HX2.out.be⟩
 |true=>
  rcases (by omega:ap<0∨0≤ap) with a1|a1
  ·have hq:R0=false:=by rw [←HR0.out];unfold Kz;rw [hd,decide_eq_false (show ¬ 0≤ap by omega)];rfl
   subst hq;have f1:decide (ap<0)=true:=decide_eq_true a1;go_enter Tryz.func68,Tryz.ntmps68;go_wp2_with (first|((with_reducible refine Gl 27 8 ?_);refine Lm rfl 27 _ rfl w.heap.size 0 rfl (dC d) _ HM.out Tryz.underlying27 rfl (by kernel_rfl) ?_)|((with_reducible refine Gt 27 3 ?_);refine Lt rfl 27 _ _ rfl (w.heap.size+1) (dC d).toArray rfl rfl 27 _ (HB.out _) (by kernel_rfl) rfl H1.out ?_;rw [HS.out])|((with_reducible refine Gl 27 3 ?_);refine Lr rfl 27 _ rfl (w.heap.size+1) rfl 27 (dC d).toArray (0,0) _ HX.out.b2 Tryz.underlying27 rfl (by kernel_rfl) ?_)|(go_at_call 82;refine (HD.out _).mono ?_;rw [hd];rintro e w2 ⟨rfl,hb⟩;have HX2:=Hd (Z5 HX.out hb);clear hb;have c21:=(HX2.out.b1.cell 21).trans (show _=some (Value.int .i64 ap) from rfl);have c22:=(HX2.out.b1.cell 22).trans (show _=some (Value.slice A n c) from rfl)));go_ret
   exact ⟨rfl,HX2.out.be⟩
  have f1:decide (ap<0)=false:=decide_eq_false (by omega);rcases (by omega:1099511627776<ap∨ap≤1099511627776) with a2|a2
  ·have hq:R0=false:=by rw [←HR0.out];unfold Kz;rw [hd,decide_eq_true a1,decide_eq_false (show ¬ ap≤1099511627776 by omega)];rfl
   subst hq;have f2:decide ((1099511627776:Int)<ap)=true:=decide_eq_true a2;go_enter Tryz.func68,Tryz.ntmps68;go_wp2_with (first|((with_reducible refine Gl 27 8 ?_);refine Lm rfl 27 _ rfl w.heap.size 0 rfl (dC d) _ HM.out Tryz.underlying27 rfl (by kernel_rfl) ?_)|((with_reducible refine Gt 27 3 ?_);refine Lt rfl 27 _ _ rfl (w.heap.size+1) (dC d).toArray rfl rfl 27 _ (HB.out _) (by kernel_rfl) rfl H1.out ?_;rw [HS.out])|((with_reducible refine Gl 27 3 ?_);refine Lr rfl 27 _ rfl (w.heap.size+1) rfl 27 (dC d).toArray (0,0) _ HX.out.b2 Tryz.underlying27 rfl (by kernel_rfl) ?_)|(go_at_call 82;refine (HD.out _).mono ?_;rw [hd];rintro e w2 ⟨rfl,hb⟩;have HX2:=Hd (Z5 HX.out hb);clear hb;have c21:=(HX2.out.b1.cell 21).trans (show _=some (Value.int .i64 ap) from rfl);have c22:=(HX2.out.b1.cell 22).trans (show _=some (Value.slice A n c) from rfl)))
   go_ret;exact ⟨rfl,HX2.out.be⟩
  have f2:decide ((1099511627776:Int)<ap)=false:=decide_eq_false (by omega);have f3:decide ((1024:Int)<(n:Int))=false:=decide_eq_false (by omega);cases ha:J3 d ap ps with
  |false=>
   have hq:R0=false:=by rw [←HR0.out];unfold Kz;rw [hd,decide_eq_true a1,decide_eq_true a2,ha];rfl
   subst hq;go_enter Tryz.func68,Tryz.ntmps68
   go_wp2_with (first|((with_reducible refine Gl 27 8 ?_);refine Lm rfl 27 _ rfl w.heap.size 0 rfl (dC d) _ HM.out Tryz.underlying27 rfl (by kernel_rfl) ?_)|((with_reducible refine Gt 27 3 ?_);refine Lt rfl 27 _ _ rfl (w.heap.size+1) (dC d).toArray rfl rfl 27 _ (HB.out _) (by kernel_rfl) rfl H1.out ?_;rw [HS.out])|((with_reducible refine Gl 27 3 ?_);refine U7 (by kernel_rfl) 27 _ rfl (w.heap.size+1) rfl 27 (dC d).toArray (0,0) _ HX2.out.b2 Tryz.underlying27 rfl (by kernel_rfl) ?_)|((with_reducible refine Gl 27 3 ?_);refine Lr rfl 27 _ rfl (w.heap.size+1) rfl 27 (dC d).toArray (0,0) _ HX.out.b2 Tryz.underlying27 rfl (by kernel_rfl) ?_)|(go_at_call 82;refine (HD.out _).mono ?_;rw [hd];rintro e w2 ⟨rfl,hb⟩;have HX2:=Hd (Z5 HX.out hb);clear hb;have c21:=(HX2.out.b1.cell 21).trans (show _=some (Value.int .i64 ap) from rfl);have c22:=(HX2.out.b1.cell 22).trans (show _=some (Value.slice A n c) from rfl))|((with_reducible refine Gb 149 ?_);refine U2 (by kernel_rfl) 149 _ rfl (cnC ⟨d,ap,A,n,c,ps⟩).toArray (by kernel_rfl) ?_)|(go_at_call 83;refine (HV.out _ HX2.out.be).mono ?_;rw [ha];rintro e w3 ⟨rfl,hb⟩;have HX3:=Hd (Z5 HX2.out hb);clear hb c21 c22;have c22:=fun ob=>((HX3.out.b1.alloc ob).cell 22).trans (show _=some (Value.slice A n c) from rfl)))
   go_ret;exact ⟨rfl,HX3.out.be⟩
  |true=>
   have hq:fvL d none 0 (0,[],0) ps=R0:=by rw [←HR0.out];unfold Kz;rw [hd,decide_eq_true a1,decide_eq_true a2,ha];rfl
   have HQ0:=Hd hq;clear hq;go_enter Tryz.func68,Tryz.ntmps68
   go_wp2_with (first|((with_reducible refine Gl 27 8 ?_);refine Lm rfl 27 _ rfl w.heap.size 0 rfl (dC d) _ HM.out Tryz.underlying27 rfl (by kernel_rfl) ?_)|((with_reducible refine Gt 27 3 ?_);refine Lt rfl 27 _ _ rfl (w.heap.size+1) (dC d).toArray rfl rfl 27 _ (HB.out _) (by kernel_rfl) rfl H1.out ?_;rw [HS.out])|((with_reducible refine Gl 27 3 ?_);refine U7 (by kernel_rfl) 27 _ rfl (w.heap.size+1) rfl 27 (dC d).toArray (0,0) _ HX2.out.b2 Tryz.underlying27 rfl (by kernel_rfl) ?_)|((with_reducible refine Gl 27 3 ?_);refine Lr rfl 27 _ rfl (w.heap.size+1) rfl 27 (dC d).toArray (0,0) _ HX.out.b2 Tryz.underlying27 rfl (by kernel_rfl) ?_)|(go_at_call 82;refine (HD.out _).mono ?_;rw [hd];rintro e w2 ⟨rfl,hb⟩;have HX2:=Hd (Z5 HX.out hb);clear hb;have c21:=(HX2.out.b1.cell 21).trans (show _=some (Value.int .i64 ap) from rfl);have c22:=(HX2.out.b1.cell 22).trans (show _=some (Value.slice A n c) from rfl))|((with_reducible refine Gb 149 ?_);refine U2 (by kernel_rfl) 149 _ rfl (cnC ⟨d,ap,A,n,c,ps⟩).toArray (by kernel_rfl) ?_)|(go_at_call 83;refine (HV.out _ HX2.out.be).mono ?_;rw [ha];rintro e w3 ⟨rfl,hb⟩;have HX3:=Hd (Z5 HX2.out hb);clear hb c21 c22;have c22:=fun ob=>((HX3.out.b1.alloc ob).cell 22).trans (show _=some (Value.slice A n c) from rfl)))
   go_loopw [42] (fun v42 wr => ∃ (j:Nat) (y:Edn),j≤n∧v42 = .int .i64 j∧fvL d (prevK ps j) j (y.ci,y.rs,y.sp) (ps.drop j)=R0∧y.n≤j∧FL w3.heap.size ⟨d,ap,A,n,c,ps⟩ y w wr) (fun v42 _=>n-(intOf v42).toNat)
   case atStart=>exact ⟨0,⟨0,none,0,0,[],0⟩,Z0 _,rfl,HQ0.out,Le _,fl_new HX3.out⟩
   case round=>
    obtain ⟨j,y,hj,rfl,hrec,hyn,hfl⟩:=hrel;obtain ⟨wx,rfl⟩:∃ z:World,z=wr:=⟨_,rfl⟩
    have HFL:=Hd hfl;have HREC:=Hd hrec;have HYN:=Hd hyn;clear hfl hrec hyn c22;by_cases hlt:j<n
    ·have HSW:=Hd (HSL.out.below HFL.out.be)
     obtain ⟨b,o,q,rfl,hb,hg,hcell⟩:=Sl.cell (f:=prC) (k:=2) (fun _=>rfl) HSW.out hlt;have HBL:=Hd hb;have HMQ:Hid (wx.rangeAt b (o+j*2) (prC q)):=Hd fun t u hu=>hcell t u hu
     have HG:Hid (ps[j]? =some q):=Hd hg
     have hdr:ps.drop j=q::ps.drop (j+1):=by
      have hlj:j<ps.length:=by rw [HL.out];exact hlt
      rw [List.drop_eq_getElem_cons hlj];congr 1;rw [List.getElem?_eq_getElem hlj] at hg;injection hg
     have HQ1:Hid ((Vr d q&&riseB (prevK ps j) q.key&&Yj d j (y.ci,y.rs,y.sp) q&&fvL d (some q.key) (j+1) (I9 d (y.ci,y.rs,y.sp) q) (ps.drop (j+1)))=R0):=Hd (by have h:=HREC.out;rw [hdr] at h;exact h);have HRQ:Hid (q.rcd.size≤maxLen):=Hd (HRZ.out q (List.mem_of_getElem? hg));have HAL:Hid (∀ W,Below w.heap.size w W→Calls prog 84 #[.agg (dC d).toArray,.agg #[.string q.key,.string q.rcd]] W fun e w'=>e = .returned (.bool (Vr d q))∧Below W.heap.size W w'):=Hd fun W hb=>Ig d q W (HC.out.after hb) HRQ.out
     have HBn:=Hd fun old=>Blk.new wx 76 old
     have HSn:=Hd fun old=>U1 wx old (prC q).toArray 76
     have HON:Hid ((prC q).toArray.all (·.oneCell')=true):=Hd (by simp [prC,Value.oneCell']);have HF1:Hid (FL w3.heap.size ⟨d,ap,some ⟨b,o,none⟩,n,c,ps⟩ y w (wx.alloc (.cells (prC q).toArray 76))):=Hd (Vw HFL.out ((Bf _ _).alloc (Le _) _));have HP1:Hid (Blk (wx.alloc (.cells (prC q).toArray 76)) wx.heap.size 76 (prC q).toArray):=Hd (Blk.new _ _ _);have HXW:Hid (w3.heap.size+1≤wx.heap.size):=Hd HFL.out.sz;clear hb hg hcell hdr;go_wp2_with (first|((with_reducible refine Gl 76 45 ?_);refine Lm rfl 76 _ rfl b (o+j*2) rfl (prC q) _ HMQ.out Tryz.underlying76 rfl (by kernel_rfl) ?_)|((with_reducible refine Gt 76 6 ?_);refine Lt rfl 76 _ _ rfl (wx.heap.size) (prC q).toArray rfl rfl 76 _ (HBn.out _) (by kernel_rfl) rfl HON.out ?_;rw [HSn.out]))
     have HF1d:Hid (FL w3.heap.size ⟨d,ap,some ⟨b,o,none⟩,n,c,ps⟩ y w (wx.alloc (.cells (prC q).toArray 76)).drew):=Hd (Vw HF1.out (Bf _ _).drew);cases hal:Vr d q with
     |false=>
      have hq:R0=false:=by rw [←HQ1.out,hal];rfl
      subst hq;refine Rw (S:=fun w'=>Blk w' w.heap.size 30 (cnC ⟨d,ap,some ⟨b,o,none⟩,n,c,ps⟩).toArray∧Blk w' (w.heap.size+1) 27 (dC d).toArray∧Blk w' wx.heap.size 76 (prC q).toArray) (by kernel_rfl) ⟨HF1d.out.b1,HF1d.out.b2,HP1.out.drew⟩ (fun Hh=>?_);refine tk 0 (.agg (dC d).toArray) Hh ?_ (y:=by exact yieldsIf_load_mid (by rfl) 27 _ rfl (w.heap.size+1) 0 rfl (dC d) _ (fun w' hSw j v hv=>by rw [hSw.2.1.cell,Nat.zero_add,Ga];exact hv) Tryz.underlying27 rfl (by kernel_rfl));refine tk 1 (.agg (prC q).toArray) Hh ?_ (y:=by exact yieldsIf_load_mid (by rfl) 76 _ rfl wx.heap.size 0 rfl (prC q) _ (fun w' hSw j v hv=>by rw [hSw.2.2.cell,Nat.zero_add,Ga];exact hv) Tryz.underlying76 rfl (by kernel_rfl));refine Ar (rs:=[2]) (by kernel_rfl) (by simp) ?_;refine Rc (fun K hK=>?_) ?_
      ·go_simp
       refine (HAL.out _ HF1d.out.be).mono ?_;rw [hal];rintro e w6 ⟨rfl,hb⟩;simp only [];have HF6:=Hd (Vw HF1d.out hb);have HP6:=Hd (HP1.out.drew.below hb HP1.out.lt);obtain ⟨q1,q2,q3⟩:=Hh;refine hK.out _ _ ⟨q1.below hb q1.lt,q2.below hb q2.lt,q3.below hb q3.lt⟩ (fun Hh=>?_);clear hK K hb q1 q2 q3;try simp only [Act.put,Sv,Sz,Sw]
       refine tk 3 (.bool true) Hh ?_;refine tk 4 (.bool true) Hh ?_;refine tku 5 Hh ?_;refine tku 6 Hh ?_;refine tku 7 Hh ?_;refine tku 8 Hh ?_;refine tku 9 Hh ?_;refine tku 10 Hh ?_;refine tku 11 Hh ?_;refine tku 12 Hh ?_;refine tku 13 Hh ?_;refine tku 14 Hh ?_;refine tku 15 Hh ?_;refine tku 16 Hh ?_;refine tku 17 Hh ?_;refine tku 18 Hh ?_;refine tk 19 (.bool true) Hh ?_;refine Ad (by kernel_rfl) ?_ _;clear Hh;go_wp2;go_ret;exact ⟨rfl,HF6.out.be⟩
      exact An
     |true=>
      have hra:R0=R0:=rfl;clear hra;by_cases hj0:j=0
      ·have HJ0:Hid (decide ((0:Int)<(j:Int))=false∧decide (0<j)=false):=Hd ⟨decide_eq_false (by omega),decide_eq_false (by omega)⟩
       have HQ2:Hid ((Yj d j (y.ci,y.rs,y.sp) q&&fvL d (some q.key) (j+1) (I9 d (y.ci,y.rs,y.sp) q) (ps.drop (j+1)))=R0):=Hd (by have h:=HQ1.out;rw [hal,show prevK ps j=none from by simp [prevK,hj0]] at h;exact h);clear hj0;refine Rw (S:=fun w'=>Blk w' w.heap.size 30 (cnC ⟨d,ap,some ⟨b,o,none⟩,n,c,ps⟩).toArray∧Blk w' (w.heap.size+1) 27 (dC d).toArray∧Blk w' wx.heap.size 76 (prC q).toArray) (by kernel_rfl) ⟨HF1d.out.b1,HF1d.out.b2,HP1.out.drew⟩ (fun Hh=>?_);refine tk 0 (.agg (dC d).toArray) Hh ?_ (y:=by exact yieldsIf_load_mid (by rfl) 27 _ rfl (w.heap.size+1) 0 rfl (dC d) _ (fun w' hSw j v hv=>by rw [hSw.2.1.cell,Nat.zero_add,Ga];exact hv) Tryz.underlying27 rfl (by kernel_rfl))
       refine tk 1 (.agg (prC q).toArray) Hh ?_ (y:=by exact yieldsIf_load_mid (by rfl) 76 _ rfl wx.heap.size 0 rfl (prC q) _ (fun w' hSw j v hv=>by rw [hSw.2.2.cell,Nat.zero_add,Ga];exact hv) Tryz.underlying76 rfl (by kernel_rfl));refine Ar (rs:=[2]) (by kernel_rfl) (by simp) ?_;refine Rc (fun K hK=>?_) ?_
       ·go_simp
        refine (HAL.out _ HF1d.out.be).mono ?_;rw [hal];rintro e w6 ⟨rfl,hb⟩;simp only [];have HF6:=Hd (Vw HF1d.out hb);have HP6:=Hd (HP1.out.drew.below hb HP1.out.lt);obtain ⟨q1,q2,q3⟩:=Hh;refine hK.out _ _ ⟨q1.below hb q1.lt,q2.below hb q2.lt,q3.below hb q3.lt⟩ (fun Hh=>?_);clear hK K hb q1 q2 q3;try simp only [Act.put,Sv,Sz,Sw]
        refine tk 3 (.bool false) Hh ?_;refine tk 4 (.bool false) Hh ?_;refine tk 5 (.int .i64 (j:Int)) Hh ?_;refine tk 6 (.bool false) Hh ?_ (y:=by exact Or.inl ⟨by rfl,by intro w' hSw;have h1:=HJ0.out.1;have h2:=HJ0.out.2;go_simp⟩);refine tk 7 (.bool false) Hh ?_;refine tku 8 Hh ?_;refine tku 9 Hh ?_;refine tku 10 Hh ?_;refine tku 11 Hh ?_;refine tku 12 Hh ?_;refine tku 13 Hh ?_;refine tku 14 Hh ?_;refine tku 15 Hh ?_;refine tku 16 Hh ?_;refine tku 17 Hh ?_;refine tk 18 (.bool false) Hh ?_;refine tk 19 (.bool false) Hh ?_;refine Ad (by kernel_rfl) ?_ _;clear Hh;have d1:=(HF6.out.b2.cell 1).trans (show _=some (Value.int .i64 d.org) from rfl);have p0:=(HP6.out.cell 0).trans (show _=some (Value.string q.key) from rfl);have p1:=(HP6.out.cell 1).trans (show _=some (Value.string q.rcd) from rfl);by_cases o0:d.org=0
        ·have k0:(d.org == 0)=true:=by simpa using o0
         obtain ⟨kk,hkk⟩:∃ kk,Xj ((j:Int)+1)=kk:=⟨_,rfl⟩
         have HSLT:Hid (∀ W,Calls prog 85 #[.int .i64 ((j:Int)+1)] W fun e w'=>e = .returned (.string kk)∧Below W.heap.size W w'):=Hd fun W=>by rw [←hkk];exact Yg _ W
         have HKO:Hid (Yj d j (y.ci,y.rs,y.sp) q=(kk.toList == q.key.toList)∧I9 d (y.ci,y.rs,y.sp) q=(y.ci,y.rs,y.sp)):=Hd ⟨by unfold Yj;rw [if_pos o0,hkk],by unfold I9;rw [if_neg (by omega)]⟩;clear o0 hkk;cases hz:(kk.toList == q.key.toList) with
         |false=>
          have hq:R0=false:=by rw [←HQ2.out,HKO.out.1,hz];rfl
          subst hq;go_wp2_with (first|(go_at_call 85;refine (HSLT.out _).mono ?_;rintro e w7 ⟨rfl,hb⟩;have HF7:=Hd (Vw HF6.out hb);have HP7:=Hd (HP6.out.below hb HP6.out.lt);have p07:=(HP7.out.cell 0).trans (show _=some (Value.string q.key) from rfl);clear hb d1 p0 p1)|fail);go_ret;exact ⟨rfl,HF7.out.be⟩
         |true=>
          have HQY:Hid (fvL d (some q.key) (j+1) (y.ci,y.rs,y.sp) (ps.drop (j+1))=R0):=Hd (by have h:=HQ2.out;rw [HKO.out.1,HKO.out.2,hz,Bool.true_and] at h;exact h);go_wp2_with (first|(go_at_call 85;refine (HSLT.out _).mono ?_;rintro e w7 ⟨rfl,hb⟩;have HF7:=Hd (Vw HF6.out hb);have HP7:=Hd (HP6.out.below hb HP6.out.lt);have p07:=(HP7.out.cell 0).trans (show _=some (Value.string q.key) from rfl);clear hb d1 p0 p1)|fail);go_roundw
          case rel=>
           refine ⟨j+1,y,by omega,by go_num,?_,by have:=HYN.out;omega,HF7.out⟩;rw [Xp ps j q HG.out];exact HQY.out
          case measure=>simp [intOf];omega
        have k0:(d.org == 0)=false:=by simpa using o0
        by_cases o1:d.org=1
        ·have k1:(d.org == 1)=true:=by simpa using o1
         obtain ⟨kk,hkk⟩:∃ kk,(Vo d q.rcd y.ci y.rs y.sp).1=kk:=⟨_,rfl⟩
         have HNX:Hid (Calls prog 86 #[.agg (edC y).toArray,.agg (dC d).toArray,.string q.rcd] w6 (NxG d q.rcd y w6)):=Hd (next_e d q.rcd y _ HF6.out.sl (by have:=HYN.out;omega));have HKO:Hid (Yj d j (y.ci,y.rs,y.sp) q=(kk.toList == q.key.toList)∧I9 d (y.ci,y.rs,y.sp) q=(Vo d q.rcd y.ci y.rs y.sp).2):=Hd ⟨by unfold Yj;rw [if_neg o0,if_pos o1,hkk],by unfold I9;rw [if_pos o1]⟩;have HKK:=Hd hkk;clear o0 o1 hkk;cases hz:(kk.toList == q.key.toList) with
         |false=>
          have hq:R0=false:=by rw [←HQ2.out,HKO.out.1,hz];rfl
          subst hq
          go_wp2_with (first|((with_reducible refine Gl 152 4 ?_);refine Lr rfl 152 _ rfl (w3.heap.size) rfl 152 (edC y).toArray (0,0) _ HF6.out.b3 Tryz.underlying152 rfl (by kernel_rfl) ?_)|((with_reducible refine Gl 27 3 ?_);refine Lr rfl 27 _ rfl (w.heap.size+1) rfl 27 (dC d).toArray (0,0) _ HF6.out.b2 Tryz.underlying27 rfl (by kernel_rfl) ?_)|(go_at_call 86;refine HNX.out.mono ?_;rintro e w7 ⟨z,rfl,hz2,hsl,hna,hb⟩;rw [HKK.out];have HZ:=Hd hz2;have HF7:=Hd (Vw HF6.out hb);have HP7:=Hd (HP6.out.below hb HP6.out.lt);have HSL7:=Hd hsl;have HNA:Hid (∀ a,z.A=some a→w3.heap.size+1≤a.block):=Hd (fun a ha=>by have h1:=hna a ha;have h2:=HF6.out.sz;omega);have HZO:Hid ((edC z).toArray.all (·.oneCell')=true):=Hd (by simp [edC,Value.oneCell']);have HPF:Hid (wx.heap.size≠w3.heap.size):=Hd (by have:=HXW.out;omega);have p07:(w7.setRow w3.heap.size (edC z).toArray).cell? ⟨wx.heap.size,0,none⟩=some (.string q.key):=(cell_setRow_other w7 _ _ ⟨wx.heap.size,0,none⟩ HPF.out).trans ((HP7.out.cell 0).trans rfl);clear hz2 hsl hna hb d1 p0 p1)|((with_reducible refine Gt 152 4 ?_);refine Lt rfl 152 _ _ rfl w3.heap.size (edC z).toArray rfl rfl 152 _ HF7.out.b3 (by kernel_rfl) rfl HZO.out ?_))
          go_ret;exact ⟨rfl,(fl_set HF7.out HSL7.out HNA.out).be⟩
         |true=>
          have HQY:Hid (fvL d (some q.key) (j+1) (Vo d q.rcd y.ci y.rs y.sp).2 (ps.drop (j+1))=R0):=Hd (by have h:=HQ2.out;rw [HKO.out.1,HKO.out.2,hz,Bool.true_and] at h;exact h)
          go_wp2_with (first|((with_reducible refine Gl 152 4 ?_);refine Lr rfl 152 _ rfl (w3.heap.size) rfl 152 (edC y).toArray (0,0) _ HF6.out.b3 Tryz.underlying152 rfl (by kernel_rfl) ?_)|((with_reducible refine Gl 27 3 ?_);refine Lr rfl 27 _ rfl (w.heap.size+1) rfl 27 (dC d).toArray (0,0) _ HF6.out.b2 Tryz.underlying27 rfl (by kernel_rfl) ?_)|(go_at_call 86;refine HNX.out.mono ?_;rintro e w7 ⟨z,rfl,hz2,hsl,hna,hb⟩;rw [HKK.out];have HZ:=Hd hz2;have HF7:=Hd (Vw HF6.out hb);have HP7:=Hd (HP6.out.below hb HP6.out.lt);have HSL7:=Hd hsl;have HNA:Hid (∀ a,z.A=some a→w3.heap.size+1≤a.block):=Hd (fun a ha=>by have h1:=hna a ha;have h2:=HF6.out.sz;omega);have HZO:Hid ((edC z).toArray.all (·.oneCell')=true):=Hd (by simp [edC,Value.oneCell']);have HPF:Hid (wx.heap.size≠w3.heap.size):=Hd (by have:=HXW.out;omega);have p07:(w7.setRow w3.heap.size (edC z).toArray).cell? ⟨wx.heap.size,0,none⟩=some (.string q.key):=(cell_setRow_other w7 _ _ ⟨wx.heap.size,0,none⟩ HPF.out).trans ((HP7.out.cell 0).trans rfl);clear hz2 hsl hna hb d1 p0 p1)|((with_reducible refine Gt 152 4 ?_);refine Lt rfl 152 _ _ rfl w3.heap.size (edC z).toArray rfl rfl 152 _ HF7.out.b3 (by kernel_rfl) rfl HZO.out ?_))
          have HLZ:Hid (z.n≤j+1):=Hd (by have h1:=HSL7.out.len;have h2:=HF6.out.sl.len;have h3:=Kw d q.rcd y.ci y.rs y.sp;have h4:z.rs=(Vo d q.rcd y.ci y.rs y.sp).2.2.1:=congrArg (·.2.1) HZ.out;rw [←h4] at h3;have:=HYN.out;omega);go_roundw
          case rel=>
           refine ⟨j+1,z,by omega,by go_num,?_,HLZ.out,fl_set HF7.out HSL7.out HNA.out⟩;rw [Xp ps j q HG.out];exact (by rw [HZ.out];exact HQY.out)
          case measure=>simp [intOf];omega
        have k1:(d.org == 1)=false:=by simpa using o1
        have HKO:Hid (Yj d j (y.ci,y.rs,y.sp) q=true∧I9 d (y.ci,y.rs,y.sp) q=(y.ci,y.rs,y.sp)):=Hd ⟨by unfold Yj;rw [if_neg o0,if_neg o1],by unfold I9;rw [if_neg o1]⟩;clear o0 o1;have HQY:Hid (fvL d (some q.key) (j+1) (y.ci,y.rs,y.sp) (ps.drop (j+1))=R0):=Hd (by have h:=HQ2.out;rw [HKO.out.1,HKO.out.2,Bool.true_and] at h;exact h);go_wp2;go_roundw
        case rel=>
         refine ⟨j+1,y,by omega,by go_num,?_,by have:=HYN.out;omega,HF6.out⟩;rw [Xp ps j q HG.out];exact HQY.out
        case measure=>simp [intOf];omega
       exact An
      obtain ⟨k,hk⟩:∃ k,j=k+1:=⟨j-1,by omega⟩
      have hkn:k<n:=by omega
      obtain ⟨b2,o2,q0,hA2,hb2,hg2,hcell2⟩:=Sl.cell (f:=prC) (k:=2) (fun _=>rfl) HSW.out hkn;injection hA2 with hA2
      injection hA2 with e1 e2
      subst e1;subst e2;have hbx:b<wx.heap.size:=by have h1:=HBL.out;have h2:=HFL.out.be.size;omega
      have HPK:Hid ((wx.alloc (.cells (prC q).toArray 76)).drew.cell? ⟨b,o+k*2,none⟩=some (.string q0.key)):=Hd ((((Bf wx.heap.size wx).alloc (Le _) (.cells (prC q).toArray 76)).cell (p:=⟨b,o+k*2,none⟩) hbx).trans (by have h:=hcell2 0 _ rfl;simpa using h));have HBW:Hid (b<(wx.alloc (.cells (prC q).toArray 76)).drew.heap.size):=Hd (by show b<(wx.alloc (.cells (prC q).toArray 76)).heap.size;simp;omega);have HPV:Hid (prevK ps j=some q0.key):=Hd (by rw [hk];exact Xp ps k q0 hg2);have HJ1:Hid (decide ((0:Int)<(j:Int))=true∧decide (0<j)=true):=Hd ⟨decide_eq_true (by omega),decide_eq_true (by omega)⟩;have HJ2:Hid (IntKind.i64.wrap ((j:Int)-1)=(k:Int)∧(j:Int)-1=(k:Int)∧IntKind.i64.wrap (k:Int)=(k:Int)):=Hd ⟨by rw [IntKind.wrap_i64];omega,by omega,by rw [IntKind.wrap_i64];omega⟩;clear hb2 hg2 hcell2 hbx hk hj0;cases hls:Vl q0.key q.key with
      |false=>
       have HGE:Hid (Op.bytesLess q0.key.toList q.key.toList=false):=Hd hls;have hq:R0=false:=by rw [←HQ1.out,hal,HPV.out];show (true&&Vl q0.key q.key&&_&&_)=false;rw [hls];rfl
       subst hq;refine Rw (S:=fun w'=>Blk w' w.heap.size 30 (cnC ⟨d,ap,some ⟨b,o,none⟩,n,c,ps⟩).toArray∧Blk w' (w.heap.size+1) 27 (dC d).toArray∧Blk w' wx.heap.size 76 (prC q).toArray∧w'.cell? ⟨b,o+k*2,none⟩=some (.string q0.key)) (by kernel_rfl) ⟨HF1d.out.b1,HF1d.out.b2,HP1.out.drew,HPK.out⟩ (fun Hh=>?_);refine tk 0 (.agg (dC d).toArray) Hh ?_ (y:=by exact yieldsIf_load_mid (by rfl) 27 _ rfl (w.heap.size+1) 0 rfl (dC d) _ (fun w' hSw j v hv=>by rw [hSw.2.1.cell,Nat.zero_add,Ga];exact hv) Tryz.underlying27 rfl (by kernel_rfl));refine tk 1 (.agg (prC q).toArray) Hh ?_ (y:=by exact yieldsIf_load_mid (by rfl) 76 _ rfl wx.heap.size 0 rfl (prC q) _ (fun w' hSw j v hv=>by rw [hSw.2.2.1.cell,Nat.zero_add,Ga];exact hv) Tryz.underlying76 rfl (by kernel_rfl));refine Ar (rs:=[2]) (by kernel_rfl) (by simp) ?_;refine Rc (fun K hK=>?_) ?_
       ·go_simp
        refine (HAL.out _ HF1d.out.be).mono ?_;rw [hal];rintro e w6 ⟨rfl,hb⟩;simp only [];have HF6:=Hd (Vw HF1d.out hb);have HP6:=Hd (HP1.out.drew.below hb HP1.out.lt);obtain ⟨q1,q2,q3,q4⟩:=Hh;refine hK.out _ _ ⟨q1.below hb q1.lt,q2.below hb q2.lt,q3.below hb q3.lt,(hb.cell (p:=⟨b,o+k*2,none⟩) HBW.out).trans q4⟩ (fun Hh=>?_);clear hK K hb q1 q2 q3 q4;try simp only [Act.put,Sv,Sz,Sw]
        refine tk 3 (.bool false) Hh ?_;refine tk 4 (.bool false) Hh ?_;refine tk 5 (.int .i64 (j:Int)) Hh ?_;refine tk 6 (.bool true) Hh ?_ (y:=by exact Or.inl ⟨by rfl,by intro w' hSw;have h1:=HJ1.out.1;have h2:=HJ1.out.2;go_simp⟩);refine tk 7 (.bool true) Hh ?_;refine tk 8 (.pointer (some ⟨w.heap.size,22,none⟩)) Hh ?_;refine tk 9 (.slice (some ⟨b,o,none⟩) n c) Hh ?_ (y:=by exact Or.inl ⟨by rfl,by intro w' hSw;have h1:=(hSw.1.cell 22).trans (show _=some (Value.slice (some ⟨b,o,none⟩) n c) from rfl);go_simp⟩);refine tk 10 (.int .i64 (j:Int)) Hh ?_;refine tk 11 (.int .i64 (k:Int)) Hh ?_ (y:=by exact Or.inl ⟨by rfl,by intro w' hSw;have h1:=HJ2.out.1;have h2:=HJ2.out.2.1;have h3:=HJ2.out.2.2;go_simp⟩);refine tk 12 (.pointer (some ⟨b,o+k*2,none⟩)) Hh ?_;refine tk 13 (.pointer (some ⟨b,o+k*2,none⟩)) Hh ?_
        refine tk 14 (.string q0.key) Hh ?_ (y:=by exact Or.inl ⟨by rfl,by intro w' hSw;have h1:=hSw.2.2.2;go_simp⟩);refine tk 15 (.pointer (some ⟨wx.heap.size,0,none⟩)) Hh ?_;refine tk 16 (.string q.key) Hh ?_ (y:=by exact Or.inl ⟨by rfl,by intro w' hSw;have h1:=(hSw.2.2.1.cell 0).trans (show _=some (Value.string q.key) from rfl);go_simp⟩);refine tk 17 (.bool true) Hh ?_ (y:=by exact Or.inl ⟨by rfl,by intro w' hSw;have h1:=HGE.out;go_simp⟩);refine tk 18 (.bool true) Hh ?_;refine tk 19 (.bool true) Hh ?_;refine Ad (by kernel_rfl) ?_ _;clear Hh;go_wp2;go_ret;exact ⟨rfl,HF6.out.be⟩
       exact An
      |true=>
       have HGE:Hid (Op.bytesLess q0.key.toList q.key.toList=true):=Hd hls;have HQ2:Hid ((Yj d j (y.ci,y.rs,y.sp) q&&fvL d (some q.key) (j+1) (I9 d (y.ci,y.rs,y.sp) q) (ps.drop (j+1)))=R0):=Hd (by have h:=HQ1.out;rw [hal,HPV.out] at h;have h2:(true&&Vl q0.key q.key&&Yj d j (y.ci,y.rs,y.sp) q&&fvL d (some q.key) (j+1) (I9 d (y.ci,y.rs,y.sp) q) (ps.drop (j+1)))=R0:=h;rw [hls] at h2;exact h2);refine Rw (S:=fun w'=>Blk w' w.heap.size 30 (cnC ⟨d,ap,some ⟨b,o,none⟩,n,c,ps⟩).toArray∧Blk w' (w.heap.size+1) 27 (dC d).toArray∧Blk w' wx.heap.size 76 (prC q).toArray∧w'.cell? ⟨b,o+k*2,none⟩=some (.string q0.key)) (by kernel_rfl) ⟨HF1d.out.b1,HF1d.out.b2,HP1.out.drew,HPK.out⟩ (fun Hh=>?_)
       refine tk 0 (.agg (dC d).toArray) Hh ?_ (y:=by exact yieldsIf_load_mid (by rfl) 27 _ rfl (w.heap.size+1) 0 rfl (dC d) _ (fun w' hSw j v hv=>by rw [hSw.2.1.cell,Nat.zero_add,Ga];exact hv) Tryz.underlying27 rfl (by kernel_rfl));refine tk 1 (.agg (prC q).toArray) Hh ?_ (y:=by exact yieldsIf_load_mid (by rfl) 76 _ rfl wx.heap.size 0 rfl (prC q) _ (fun w' hSw j v hv=>by rw [hSw.2.2.1.cell,Nat.zero_add,Ga];exact hv) Tryz.underlying76 rfl (by kernel_rfl));refine Ar (rs:=[2]) (by kernel_rfl) (by simp) ?_;refine Rc (fun K hK=>?_) ?_
       ·go_simp
        refine (HAL.out _ HF1d.out.be).mono ?_;rw [hal];rintro e w6 ⟨rfl,hb⟩;simp only [];have HF6:=Hd (Vw HF1d.out hb);have HP6:=Hd (HP1.out.drew.below hb HP1.out.lt);obtain ⟨q1,q2,q3,q4⟩:=Hh;refine hK.out _ _ ⟨q1.below hb q1.lt,q2.below hb q2.lt,q3.below hb q3.lt,(hb.cell (p:=⟨b,o+k*2,none⟩) HBW.out).trans q4⟩ (fun Hh=>?_);clear hK K hb q1 q2 q3 q4;try simp only [Act.put,Sv,Sz,Sw]
        refine tk 3 (.bool false) Hh ?_;refine tk 4 (.bool false) Hh ?_;refine tk 5 (.int .i64 (j:Int)) Hh ?_;refine tk 6 (.bool true) Hh ?_ (y:=by exact Or.inl ⟨by rfl,by intro w' hSw;have h1:=HJ1.out.1;have h2:=HJ1.out.2;go_simp⟩);refine tk 7 (.bool true) Hh ?_;refine tk 8 (.pointer (some ⟨w.heap.size,22,none⟩)) Hh ?_;refine tk 9 (.slice (some ⟨b,o,none⟩) n c) Hh ?_ (y:=by exact Or.inl ⟨by rfl,by intro w' hSw;have h1:=(hSw.1.cell 22).trans (show _=some (Value.slice (some ⟨b,o,none⟩) n c) from rfl);go_simp⟩);refine tk 10 (.int .i64 (j:Int)) Hh ?_;refine tk 11 (.int .i64 (k:Int)) Hh ?_ (y:=by exact Or.inl ⟨by rfl,by intro w' hSw;have h1:=HJ2.out.1;have h2:=HJ2.out.2.1;have h3:=HJ2.out.2.2;go_simp⟩);refine tk 12 (.pointer (some ⟨b,o+k*2,none⟩)) Hh ?_;refine tk 13 (.pointer (some ⟨b,o+k*2,none⟩)) Hh ?_
        refine tk 14 (.string q0.key) Hh ?_ (y:=by exact Or.inl ⟨by rfl,by intro w' hSw;have h1:=hSw.2.2.2;go_simp⟩);refine tk 15 (.pointer (some ⟨wx.heap.size,0,none⟩)) Hh ?_;refine tk 16 (.string q.key) Hh ?_ (y:=by exact Or.inl ⟨by rfl,by intro w' hSw;have h1:=(hSw.2.2.1.cell 0).trans (show _=some (Value.string q.key) from rfl);go_simp⟩);refine tk 17 (.bool false) Hh ?_ (y:=by exact Or.inl ⟨by rfl,by intro w' hSw;have h1:=HGE.out;go_simp⟩);refine tk 18 (.bool false) Hh ?_;refine tk 19 (.bool false) Hh ?_;refine Ad (by kernel_rfl) ?_ _;clear Hh;have d1:=(HF6.out.b2.cell 1).trans (show _=some (Value.int .i64 d.org) from rfl);have p0:=(HP6.out.cell 0).trans (show _=some (Value.string q.key) from rfl);have p1:=(HP6.out.cell 1).trans (show _=some (Value.string q.rcd) from rfl);by_cases o0:d.org=0
        ·have k0:(d.org == 0)=true:=by simpa using o0
         obtain ⟨kk,hkk⟩:∃ kk,Xj ((j:Int)+1)=kk:=⟨_,rfl⟩
         have HSLT:Hid (∀ W,Calls prog 85 #[.int .i64 ((j:Int)+1)] W fun e w'=>e = .returned (.string kk)∧Below W.heap.size W w'):=Hd fun W=>by rw [←hkk];exact Yg _ W
         have HKO:Hid (Yj d j (y.ci,y.rs,y.sp) q=(kk.toList == q.key.toList)∧I9 d (y.ci,y.rs,y.sp) q=(y.ci,y.rs,y.sp)):=Hd ⟨by unfold Yj;rw [if_pos o0,hkk],by unfold I9;rw [if_neg (by omega)]⟩;clear o0 hkk;cases hz:(kk.toList == q.key.toList) with
         |false=>
          have hq:R0=false:=by rw [←HQ2.out,HKO.out.1,hz];rfl
          subst hq;go_wp2_with (first|(go_at_call 85;refine (HSLT.out _).mono ?_;rintro e w7 ⟨rfl,hb⟩;have HF7:=Hd (Vw HF6.out hb);have HP7:=Hd (HP6.out.below hb HP6.out.lt);have p07:=(HP7.out.cell 0).trans (show _=some (Value.string q.key) from rfl);clear hb d1 p0 p1)|fail);go_ret;exact ⟨rfl,HF7.out.be⟩
         |true=>
          have HQY:Hid (fvL d (some q.key) (j+1) (y.ci,y.rs,y.sp) (ps.drop (j+1))=R0):=Hd (by have h:=HQ2.out;rw [HKO.out.1,HKO.out.2,hz,Bool.true_and] at h;exact h);go_wp2_with (first|(go_at_call 85;refine (HSLT.out _).mono ?_;rintro e w7 ⟨rfl,hb⟩;have HF7:=Hd (Vw HF6.out hb);have HP7:=Hd (HP6.out.below hb HP6.out.lt);have p07:=(HP7.out.cell 0).trans (show _=some (Value.string q.key) from rfl);clear hb d1 p0 p1)|fail);go_roundw
          case rel=>
           refine ⟨j+1,y,by omega,by go_num,?_,by have:=HYN.out;omega,HF7.out⟩;rw [Xp ps j q HG.out];exact HQY.out
          case measure=>simp [intOf];omega
        have k0:(d.org == 0)=false:=by simpa using o0
        by_cases o1:d.org=1
        ·have k1:(d.org == 1)=true:=by simpa using o1
         obtain ⟨kk,hkk⟩:∃ kk,(Vo d q.rcd y.ci y.rs y.sp).1=kk:=⟨_,rfl⟩
         have HNX:Hid (Calls prog 86 #[.agg (edC y).toArray,.agg (dC d).toArray,.string q.rcd] w6 (NxG d q.rcd y w6)):=Hd (next_e d q.rcd y _ HF6.out.sl (by have:=HYN.out;omega));have HKO:Hid (Yj d j (y.ci,y.rs,y.sp) q=(kk.toList == q.key.toList)∧I9 d (y.ci,y.rs,y.sp) q=(Vo d q.rcd y.ci y.rs y.sp).2):=Hd ⟨by unfold Yj;rw [if_neg o0,if_pos o1,hkk],by unfold I9;rw [if_pos o1]⟩;have HKK:=Hd hkk;clear o0 o1 hkk;cases hz:(kk.toList == q.key.toList) with
         |false=>
          have hq:R0=false:=by rw [←HQ2.out,HKO.out.1,hz];rfl
          subst hq
          go_wp2_with (first|((with_reducible refine Gl 152 4 ?_);refine Lr rfl 152 _ rfl (w3.heap.size) rfl 152 (edC y).toArray (0,0) _ HF6.out.b3 Tryz.underlying152 rfl (by kernel_rfl) ?_)|((with_reducible refine Gl 27 3 ?_);refine Lr rfl 27 _ rfl (w.heap.size+1) rfl 27 (dC d).toArray (0,0) _ HF6.out.b2 Tryz.underlying27 rfl (by kernel_rfl) ?_)|(go_at_call 86;refine HNX.out.mono ?_;rintro e w7 ⟨z,rfl,hz2,hsl,hna,hb⟩;rw [HKK.out];have HZ:=Hd hz2;have HF7:=Hd (Vw HF6.out hb);have HP7:=Hd (HP6.out.below hb HP6.out.lt);have HSL7:=Hd hsl;have HNA:Hid (∀ a,z.A=some a→w3.heap.size+1≤a.block):=Hd (fun a ha=>by have h1:=hna a ha;have h2:=HF6.out.sz;omega);have HZO:Hid ((edC z).toArray.all (·.oneCell')=true):=Hd (by simp [edC,Value.oneCell']);have HPF:Hid (wx.heap.size≠w3.heap.size):=Hd (by have:=HXW.out;omega);have p07:(w7.setRow w3.heap.size (edC z).toArray).cell? ⟨wx.heap.size,0,none⟩=some (.string q.key):=(cell_setRow_other w7 _ _ ⟨wx.heap.size,0,none⟩ HPF.out).trans ((HP7.out.cell 0).trans rfl);clear hz2 hsl hna hb d1 p0 p1)|((with_reducible refine Gt 152 4 ?_);refine Lt rfl 152 _ _ rfl w3.heap.size (edC z).toArray rfl rfl 152 _ HF7.out.b3 (by kernel_rfl) rfl HZO.out ?_))
          go_ret;exact ⟨rfl,(fl_set HF7.out HSL7.out HNA.out).be⟩
         |true=>
          have HQY:Hid (fvL d (some q.key) (j+1) (Vo d q.rcd y.ci y.rs y.sp).2 (ps.drop (j+1))=R0):=Hd (by have h:=HQ2.out;rw [HKO.out.1,HKO.out.2,hz,Bool.true_and] at h;exact h)
          go_wp2_with (first|((with_reducible refine Gl 152 4 ?_);refine Lr rfl 152 _ rfl (w3.heap.size) rfl 152 (edC y).toArray (0,0) _ HF6.out.b3 Tryz.underlying152 rfl (by kernel_rfl) ?_)|((with_reducible refine Gl 27 3 ?_);refine Lr rfl 27 _ rfl (w.heap.size+1) rfl 27 (dC d).toArray (0,0) _ HF6.out.b2 Tryz.underlying27 rfl (by kernel_rfl) ?_)|(go_at_call 86;refine HNX.out.mono ?_;rintro e w7 ⟨z,rfl,hz2,hsl,hna,hb⟩;rw [HKK.out];have HZ:=Hd hz2;have HF7:=Hd (Vw HF6.out hb);have HP7:=Hd (HP6.out.below hb HP6.out.lt);have HSL7:=Hd hsl;have HNA:Hid (∀ a,z.A=some a→w3.heap.size+1≤a.block):=Hd (fun a ha=>by have h1:=hna a ha;have h2:=HF6.out.sz;omega);have HZO:Hid ((edC z).toArray.all (·.oneCell')=true):=Hd (by simp [edC,Value.oneCell']);have HPF:Hid (wx.heap.size≠w3.heap.size):=Hd (by have:=HXW.out;omega);have p07:(w7.setRow w3.heap.size (edC z).toArray).cell? ⟨wx.heap.size,0,none⟩=some (.string q.key):=(cell_setRow_other w7 _ _ ⟨wx.heap.size,0,none⟩ HPF.out).trans ((HP7.out.cell 0).trans rfl);clear hz2 hsl hna hb d1 p0 p1)|((with_reducible refine Gt 152 4 ?_);refine Lt rfl 152 _ _ rfl w3.heap.size (edC z).toArray rfl rfl 152 _ HF7.out.b3 (by kernel_rfl) rfl HZO.out ?_))
          have HLZ:Hid (z.n≤j+1):=Hd (by have h1:=HSL7.out.len;have h2:=HF6.out.sl.len;have h3:=Kw d q.rcd y.ci y.rs y.sp;have h4:z.rs=(Vo d q.rcd y.ci y.rs y.sp).2.2.1:=congrArg (·.2.1) HZ.out;rw [←h4] at h3;have:=HYN.out;omega);go_roundw
          case rel=>
           refine ⟨j+1,z,by omega,by go_num,?_,HLZ.out,fl_set HF7.out HSL7.out HNA.out⟩;rw [Xp ps j q HG.out];exact (by rw [HZ.out];exact HQY.out)
          case measure=>simp [intOf];omega
        have k1:(d.org == 1)=false:=by simpa using o1
        have HKO:Hid (Yj d j (y.ci,y.rs,y.sp) q=true∧I9 d (y.ci,y.rs,y.sp) q=(y.ci,y.rs,y.sp)):=Hd ⟨by unfold Yj;rw [if_neg o0,if_neg o1],by unfold I9;rw [if_neg o1]⟩;clear o0 o1;have HQY:Hid (fvL d (some q.key) (j+1) (y.ci,y.rs,y.sp) (ps.drop (j+1))=R0):=Hd (by have h:=HQ2.out;rw [HKO.out.1,HKO.out.2,Bool.true_and] at h;exact h);go_wp2;go_roundw
        case rel=>
         refine ⟨j+1,y,by omega,by go_num,?_,by have:=HYN.out;omega,HF6.out⟩;rw [Xp ps j q HG.out];exact HQY.out
        case measure=>simp [intOf];omega
       exact An
    ·obtain rfl:j=n:=by omega
     have hq:R0=true:=by rw [←HREC.out,List.drop_of_length_le (by rw [HL.out];exact Le _)];rfl
     subst hq;go_wp2;go_ret;exact ⟨rfl,HFL.out.be⟩
end Go.Proofs.YtapanepkfbamhaaGreatDoor
