/- Part of the proof of HistoryReads. -/
import Derived.Test.YtapanepkfbamhaaGreatDoorJBP
namespace Go.Proofs.YtapanepkfbamhaaGreatDoor
open Tryz (prog)
set_option maxRecDepth 100000
set_option maxHeartbeats 2000000
open Go.RowKit
def confB (a b:Com):Bool:=Fj (a.cs.map chT) (b.cs.map chT) || (Fj (a.cs.map chT) (b.rs.map rdT) || Fj (a.rs.map rdT) (b.cs.map chT))
def F8 (s:List Com) (i k:Nat):Bool:=match s[i]?,s[k]? with
 |some a,some b=>confB a b
 |_,_=>false
theorem confAt_is {s:List Com} {i k:Nat} {a b:Com} (h1:s[i]? =some a) (h2:s[k]? =some b):F8 s i k=confB a b:=by
 unfold F8;rw [h1,h2]
def pC (p:Nat×Nat):List Value:=[.int .i64 p.1,.int .i64 p.2]
theorem pC_len (p:Nat×Nat):(pC p).length=2:=rfl
def Xm (s:List Com) (i k:Nat):List (Nat×Nat):=((List.range k).filter fun q=>decide (i<q)&&F8 s i q).map fun q=>(i,q)
def V8 (s:List Com) (i:Nat):List (Nat×Nat):=(List.range i).flatMap fun q=>Xm s q s.length
theorem confL_succ (s:List Com) (i:Nat):V8 s (i+1)=V8 s i++Xm s i s.length:=by
 unfold V8;rw [List.range_succ,List.flatMap_append,List.flatMap_cons,List.flatMap_nil,List.append_nil]
theorem rowL_start (s:List Com) (i:Nat):Xm s i (i+1) = []:=by
 unfold Xm;rw [List.map_eq_nil_iff,List.filter_eq_nil_iff];intro q hq;have:q<i+1:=List.mem_range.1 hq;simp;omega
theorem rowL_yes {s:List Com} {i k:Nat} (h:i<k) (hc:F8 s i k=true):Xm s i (k+1)=Xm s i k++[(i,k)]:=by
 unfold Xm;rw [List.range_succ,List.filter_append,List.map_append];simp [h,hc]
theorem rowL_no {s:List Com} {i k:Nat} (hc:F8 s i k=false):Xm s i (k+1)=Xm s i k:=by
 unfold Xm;rw [List.range_succ,List.filter_append,List.map_append];simp [hc]
theorem rowL_len (s:List Com) (i k:Nat):(Xm s i k).length≤k:=by
 unfold Xm;rw [List.length_map];exact Lx (List.length_filter_le _ _) (by simp)
theorem F7 (s:List Com):∀ i,(V8 s i).length≤i*s.length
 |0=>by simp [V8]
 |i+1=>by
  rw [confL_succ,List.length_append,Nat.succ_mul];have:=F7 s i;have:=rowL_len s i s.length;omega
def GivesP (w:World) (l:List (Nat×Nat)) (e:Ending) (w':World):Prop:=∃ A c,e = .returned (.slice A l.length c)∧Sl pC 2 w' w'.heap.size A l.length c l∧Below w.heap.size w w'
theorem infoPP:(prog.info? 38).map (fun i=>(i.zero,i.size,i.bytes))=some (some (.agg #[.int .i64 0,.int .i64 0]),2,16):=by kernel_rfl
structure CI (wx:World) (ga:Nat) (ca cb:Array Value) (W:World):Prop where
 bx:Below wx.heap.size wx W
 ba:Blk W ga 34 ca
 bb:Blk W wx.heap.size 34 cb
 lt:ga<wx.heap.size
section
variable {wx W W':World} {ga:Nat} {ca cb:Array Value}
theorem CI.start (h:Blk wx ga 34 ca) (cb:Array Value):CI wx ga ca cb (wx.alloc (.cells cb 34)):=
 ⟨(Bf _ _).alloc (Le _) _,h.alloc _,Blk.new wx _ cb,h.lt⟩
end
open Go.RowKit
def Ew (l:List Com):List Com:=(Yh l).getD []
theorem ordS_mem {l:List Com} {x:Com} (h:x∈Ew l):x∈l:=by
 unfold Ew Yh at h;split at h
 ·simp at h
 ·split at h
  ·simp only [Option.getD_some] at h
   rw [Il] at h;simpa using h
  ·simp at h
theorem ordS_len (l:List Com):(Ew l).length≤l.length:=by
 unfold Ew Yh;split
 ·simp
 ·split
  ·simp only [Option.getD_some]
   rw [Zo];simp
  ·simp
def OrdG (s:List Com) (m:Nat) (w:World) (e:Ending) (w':World):Prop:=∃ A c ok,e = .returned (.tuple #[.slice A m c,.bool ok])∧Cs w' w'.heap.size A m c s∧Below w.heap.size w w'
theorem ord_gives {l:List Com} {w w':World} {e:Ending} (h:OrdP (Yh l) w e w'):OrdG (Ew l) (Ew l).length w e w':=by
 rcases h with ⟨h,rfl,hb⟩|⟨s,h,A,c,rfl,hs,hb⟩
 ·unfold Ew;rw [h]
  exact ⟨none,0,false,rfl,⟨Sl.nil,fun x hx=>by simp at hx⟩,hb⟩
 ·unfold Ew;rw [h]
  exact ⟨A,c,true,rfl,hs,hb⟩
def SmP (x:Com):Prop:=x.cn≤1000∧x.rn≤1000
theorem hconf_any (A:Option Addr) (n c:Nat) (l:List Com) (w:World) (hs:Cs w w.heap.size A n c l) (hv:∀ x∈l,VolsOk x) (hn:n≤12) (hsm:∀ x∈l,SmP x):
  Calls prog 8 #[.slice A n c] w (GivesP w (V8 (Ew l) (Ew l).length)):=by
 have HO:=Hd (Yy A n c l w hs hv hn);have HM:Hid (∀ x∈Ew l,SmP x):=Hd fun x hx=>hsm x (ordS_mem hx)
 have HLN:Hid ((Ew l).length≤12):=Hd (Lx (ordS_len l) (by rw [hs.1.len];exact hn));have HG:Hid (∀ e w',OrdP (Yh l) w e w'→OrdG (Ew l) (Ew l).length w e w'):=Hd fun e w' h=>ord_gives h
 obtain ⟨i0,hi0,hz0,hz1,hz2⟩:=info_parts infoPP;clear hs hv hsm hn;obtain ⟨s,hs⟩:∃ s,Ew l=s:=⟨_,rfl⟩
 rw [hs] at HM HLN HG ⊢;clear hs;obtain ⟨m,hm⟩:∃ m,s.length=m:=⟨_,rfl⟩
 rw [hm] at HLN HG ⊢;have hm12:=HLN.out;have HMM:=Hd hm;clear hm HLN;go_enter Tryz.func8,Tryz.ntmps8;go_wp2_with (go_at_call 16;refine HO.out.mono ?_;intro e w1 hp;obtain ⟨A1,c1,ok,rfl,hcs,hb1⟩:=HG.out _ _ hp;have HCS:=Hd hcs;have HB1:=Hd hb1;clear hp hcs hb1 HG HO);go_loopw [5,17] (fun v5 v17 wr => ∃ i:Nat,i≤m∧v17 = .int .i64 i∧wr.ownsRow w1.heap.size 38 2 v5 (V8 s i).length (Ua pC (V8 s i))∧Below w1.heap.size w1 wr) (fun _ v17 _=>m-(intOf v17).toNat)
 case atStart=>exact ⟨0,Z0 _,rfl,⟨rfl,.inl ⟨rfl,rfl⟩⟩,Bf _ _⟩
 case round=>
  obtain ⟨w2,hw2⟩:∃ w2,w2=wr:=⟨_,rfl⟩
  subst hw2;obtain ⟨i,hi,rfl,hown,hbel⟩:=hrel;have HOW:=Hd hown;have HB:=Hd hbel;clear hown hbel;by_cases hlt:i<m
  ·obtain ⟨b,o,a,rfl,hb,hg,hcell⟩:=Sl.cell (f:=U8) (k:=4) Uz HCS.out.1 hlt
   have HBL:=Hd hb;have HGA:=Hd hg;have c0:=(HB.out.cell (p:=⟨b,o+i*4+0,none⟩) hb).trans (hcell 0 _ rfl);have c1:=(HB.out.cell (p:=⟨b,o+i*4+1,none⟩) hb).trans (hcell 1 _ rfl);have c2:=(HB.out.cell (p:=⟨b,o+i*4+2,none⟩) hb).trans (hcell 2 _ rfl);have c3:=(HB.out.cell (p:=⟨b,o+i*4+3,none⟩) hb).trans (hcell 3 _ rfl);simp only [Nat.add_zero] at c0;have HMA:=Hd (List.mem_of_getElem? hg);clear hb hg hcell;go_wp2_with fail;go_loopw [5,8] (fun v5 v8 wx => ∃ k:Nat,i<k∧k≤m∧v8 = .int .i64 k∧wx.ownsRow w1.heap.size 38 2 v5 ((V8 s i++Xm s i k).length) (Ua pC (V8 s i++Xm s i k))∧Blk wx w2.heap.size 34 #[.int .i64 a.unit,.int .i64 a.num,.slice a.rA a.rn a.rc,.slice a.cA a.cn a.cc]∧Below w1.heap.size w1 wx) (fun _ v8 _=>m-(intOf v8).toNat)
   case atStart=>exact ⟨i+1,Nat.lt_succ_self _,hlt,by go_num,by rw [rowL_start,List.append_nil];exact HOW.out.alloc _,Blk.new w2 _ _,HB.out.alloc HB.out.size _⟩
   case round=>
    obtain ⟨k,hik,hk,rfl,hown,hblk,hbel⟩:=hrel;have HOX:=Hd hown;have HKA:=Hd hblk;have HBW:=Hd hbel;have HLE:Hid ((V8 s i++Xm s i k).length≤156):=Hd (by rw [List.length_append];have h1:=F7 s i;have h2:=rowL_len s i k;rw [HMM.out] at h1;have h3:i*m≤144:=Nat.mul_le_mul (Lx (Nat.le_of_lt hlt) hm12) hm12;omega);clear hown hblk hbel c0 c1 c2 c3;by_cases hkm:k<m
    ·obtain ⟨b9,o9,x,hA9,hb9,hg9,hcell9⟩:=Sl.cell (f:=U8) (k:=4) Uz HCS.out.1 hkm
     cases hA9;have d0:=(HBW.out.cell (p:=⟨b,o+k*4+0,none⟩) hb9).trans (hcell9 0 _ rfl);have d1:=(HBW.out.cell (p:=⟨b,o+k*4+1,none⟩) hb9).trans (hcell9 1 _ rfl);have d2:=(HBW.out.cell (p:=⟨b,o+k*4+2,none⟩) hb9).trans (hcell9 2 _ rfl);have d3:=(HBW.out.cell (p:=⟨b,o+k*4+3,none⟩) hb9).trans (hcell9 3 _ rfl);simp only [Nat.add_zero] at d0;have HMX:=Hd (List.mem_of_getElem? hg9);obtain ⟨C1,hC1⟩:∃ C1,Fj (a.cs.map chT) (x.cs.map chT)=C1:=⟨_,rfl⟩
     obtain ⟨C2,hC2⟩:∃ C2,Fj (a.cs.map chT) (x.rs.map rdT)=C2:=⟨_,rfl⟩
     obtain ⟨C3,hC3⟩:∃ C3,Fj (a.rs.map rdT) (x.cs.map chT)=C3:=⟨_,rfl⟩
     have HCF:Hid (F8 s i k=(C1 || (C2 || C3))):=Hd (by rw [confAt_is HGA.out hg9];unfold confB;rw [hC1,hC2,hC3]);have HCA:Hid (∀ W:World,Below w1.heap.size w1 W→Calls prog 18 #[.agg #[.int .i64 a.unit,.int .i64 a.num,.slice a.rA a.rn a.rc,.slice a.cA a.cn a.cc]] W (Fb W a.cn (a.cs.map chT))):=Hd fun W hW=>Fp a W ((HCS.out.2 a HMA.out).after hW hW.size) (HM.out a HMA.out).1
     have HRA:Hid (∀ W:World,Below w1.heap.size w1 W→Calls prog 19 #[.agg #[.int .i64 a.unit,.int .i64 a.num,.slice a.rA a.rn a.rc,.slice a.cA a.cn a.cc]] W (Fb W a.rn (a.rs.map rdT))):=Hd fun W hW=>read_any a W ((HCS.out.2 a HMA.out).after hW hW.size) (HM.out a HMA.out).2
     have HCX:Hid (∀ W:World,Below w1.heap.size w1 W→Calls prog 18 #[.agg #[.int .i64 x.unit,.int .i64 x.num,.slice x.rA x.rn x.rc,.slice x.cA x.cn x.cc]] W (Fb W x.cn (x.cs.map chT))):=Hd fun W hW=>Fp x W ((HCS.out.2 x HMX.out).after hW hW.size) (HM.out x HMX.out).1
     have HRX:Hid (∀ W:World,Below w1.heap.size w1 W→Calls prog 19 #[.agg #[.int .i64 x.unit,.int .i64 x.num,.slice x.rA x.rn x.rc,.slice x.cA x.cn x.cc]] W (Fb W x.rn (x.rs.map rdT))):=Hd fun W hW=>read_any x W ((HCS.out.2 x HMX.out).after hW hW.size) (HM.out x HMX.out).2
     have HM1:Hid (∀ (W:World) (A:Option Addr) (c:Nat) (A':Option Addr) (c':Nat),Sl Xl 4 W W.heap.size A a.cn c (a.cs.map chT)→Sl Xl 4 W W.heap.size A' x.cn c' (x.cs.map chT)→Calls prog 17 #[.slice A a.cn c,.slice A' x.cn c'] W fun e w'=>e = .returned (.bool C1)∧Below W.heap.size W w'):=Hd fun W A c A' c' h h'=>by rw [←hC1];exact Kx A A' _ c _ c' _ _ W h h' (HM.out a HMA.out).1 (HM.out x HMX.out).1
     have HM2:Hid (∀ (W:World) (A:Option Addr) (c:Nat) (A':Option Addr) (c':Nat),Sl Xl 4 W W.heap.size A a.cn c (a.cs.map chT)→Sl Xl 4 W W.heap.size A' x.rn c' (x.rs.map rdT)→Calls prog 17 #[.slice A a.cn c,.slice A' x.rn c'] W fun e w'=>e = .returned (.bool C2)∧Below W.heap.size W w'):=Hd fun W A c A' c' h h'=>by rw [←hC2];exact Kx A A' _ c _ c' _ _ W h h' (HM.out a HMA.out).1 (HM.out x HMX.out).2
     have HM3:Hid (∀ (W:World) (A:Option Addr) (c:Nat) (A':Option Addr) (c':Nat),Sl Xl 4 W W.heap.size A a.rn c (a.rs.map rdT)→Sl Xl 4 W W.heap.size A' x.cn c' (x.cs.map chT)→Calls prog 17 #[.slice A a.rn c,.slice A' x.cn c'] W fun e w'=>e = .returned (.bool C3)∧Below W.heap.size W w'):=Hd fun W A c A' c' h h'=>by rw [←hC3];exact Kx A A' _ c _ c' _ _ W h h' (HM.out a HMA.out).2 (HM.out x HMX.out).1
     clear hC1 hC2 hC3 hb9 hg9 hcell9;have HX:=Hd (CI.start HKA.out #[.int .i64 x.unit,.int .i64 x.num,.slice x.rA x.rn x.rc,.slice x.cA x.cn x.cc]);have hga:=HX.out.lt;go_wp2_with fail;have HBK:Hid (Blk (wr.alloc (.cells #[.int .i64 x.unit,.int .i64 x.num,.slice x.rA x.rn x.rc,.slice x.cA x.cn x.cc] 34)).drew w2.heap.size 34 #[.int .i64 a.unit,.int .i64 a.num,.slice a.rA a.rn a.rc,.slice a.cA a.cn a.cc]∧Blk (wr.alloc (.cells #[.int .i64 x.unit,.int .i64 x.num,.slice x.rA x.rn x.rc,.slice x.cA x.cn x.cc] 34)).drew wr.heap.size 34 #[.int .i64 x.unit,.int .i64 x.num,.slice x.rA x.rn x.rc,.slice x.cA x.cn x.cc]):=Hd ⟨HX.out.ba,HX.out.bb⟩;clear HX;cases C1 with
     |true=>
      have HX0:Hid (Below wr.heap.size wr (wr.alloc (.cells #[.int .i64 x.unit,.int .i64 x.num,.slice x.rA x.rn x.rc,.slice x.cA x.cn x.cc] 34)).drew):=Hd ((Bf _ _).alloc (Le _) _).drew;refine Rw (S:=fun w'=>Blk w' w2.heap.size 34 #[.int .i64 a.unit,.int .i64 a.num,.slice a.rA a.rn a.rc,.slice a.cA a.cn a.cc]∧Blk w' wr.heap.size 34 #[.int .i64 x.unit,.int .i64 x.num,.slice x.rA x.rn x.rc,.slice x.cA x.cn x.cc]) (by kernel_rfl) HBK.out (fun Hh=>?_);refine tk 0 (.agg #[.int .i64 a.unit,.int .i64 a.num,.slice a.rA a.rn a.rc,.slice a.cA a.cn a.cc]) Hh ?_ (y:=by exact Or.inl ⟨by rfl,by intro w' hSw;have h0:=hSw.1.cell 0;have h1:=hSw.1.cell 1;have h2:=hSw.1.cell 2;have h3:=hSw.1.cell 3;simp at h0 h1 h2 h3;go_simp⟩)
      refine tk 2 (.agg #[.int .i64 x.unit,.int .i64 x.num,.slice x.rA x.rn x.rc,.slice x.cA x.cn x.cc]) Hh ?_ (y:=by exact Or.inl ⟨by rfl,by intro w' hSw;have h0:=hSw.2.cell 0;have h1:=hSw.2.cell 1;have h2:=hSw.2.cell 2;have h3:=hSw.2.cell 3;simp at h0 h1 h2 h3;go_simp⟩);refine Ar (rs:=[1]) (by kernel_rfl) (by simp) ?_;refine Rc (fun K hK=>?_) ?_
      ·go_simp
       refine (HCA.out _ (U0 HBW.out HX0.out HBW.out.size)).mono ?_;rintro e y1 ⟨Aa1,ca1,rfl,hs,hb⟩;simp only [];have HX1:=Hd (U0 HX0.out hb HX0.out.size);have Sa1:=Hd hs;clear hs;obtain ⟨q0,q1⟩:=Hh;refine hK.out _ _ ⟨q0.below hb q0.lt,q1.below hb q1.lt⟩ (fun Hh=>?_);clear hK K hb q0 q1;try simp only [Act.put,Sv,Sz,Sw]
       refine Ar (rs:=[3]) (by kernel_rfl) (by simp) ?_;refine Rc (fun K hK=>?_) ?_
       ·go_simp
        refine (HCX.out _ (U0 HBW.out HX1.out HBW.out.size)).mono ?_;rintro e y2 ⟨Ax1,cx1,rfl,hs,hb⟩;simp only [];have HX2:=Hd (U0 HX1.out hb HX1.out.size);have Sa1n:=Hd (Sa1.out.after hb hb.size);have Sx1:=Hd hs;clear hs;obtain ⟨q0,q1⟩:=Hh;refine hK.out _ _ ⟨q0.below hb q0.lt,q1.below hb q1.lt⟩ (fun Hh=>?_);clear hK K hb q0 q1;try simp only [Act.put,Sv,Sz,Sw]
        refine Ar (rs:=[4]) (by kernel_rfl) (by simp) ?_;refine Rc (fun K hK=>?_) ?_
        ·go_simp
         refine (HM1.out _ _ _ _ _ Sa1n.out Sx1.out).mono ?_;rintro e y3 ⟨rfl,hb⟩;simp only [];have HX3:=Hd (U0 HX2.out hb HX2.out.size);obtain ⟨q0,q1⟩:=Hh;refine hK.out _ _ ⟨q0.below hb q0.lt,q1.below hb q1.lt⟩ (fun Hh=>?_);clear hK K hb q0 q1;try simp only [Act.put,Sv,Sz,Sw]
         refine tk 5 (.bool true) Hh ?_;refine tku 6 Hh ?_;refine tku 8 Hh ?_;refine tku 7 Hh ?_;refine tku 9 Hh ?_;refine tku 10 Hh ?_;refine tk 11 (.bool true) Hh ?_;refine tk 12 (.bool true) Hh ?_;refine tku 13 Hh ?_;refine tku 15 Hh ?_;refine tku 14 Hh ?_;refine tku 16 Hh ?_;refine tku 17 Hh ?_;refine tk 18 (.bool true) Hh ?_;refine Ad (by kernel_rfl) ?_ _;have HRL:Hid (V8 s i++Xm s i (k+1)=(V8 s i++Xm s i k)++[(i,k)]):=Hd (by rw [rowL_yes hik (by have h:=HCF.out;simpa using h),List.append_assoc]);have HOY:=Hd (Ui HOX.out HX3.out);have HBY:=Hd (U0 HBW.out HX3.out HBW.out.size);have HKY:=Hd Hh.1;clear Hh
         go_wp2_with (at_builtin;go_must (refine U4 _ rfl _ _ 36 rfl w1.heap.size 38 i0 _ 2 16 Tryz.underlying36 hi0 hz0 hz1 hz2 rfl (by decide) _ _ _ rfl (HOY.out.alloc _) _ _ 1 1 [.int .i64 i,.int .i64 k] rfl (Zb _ _ [.int .i64 i,.int .i64 k] 38 1 2 rfl ?c5) ?c1 ?c2 ?c3 ?c4 ?_))
         case c5=>simp
         case c1=>intro u hu;simp at hu;rcases hu with rfl|rfl<;>rfl
         case c2=>have:=HLE.out;simp only [maxLen];omega
         case c3=>have:=HLE.out;omega
         case c4=>have:=HBY.out.size;simp;omega
         intro v4 w4 ho4 hg4 _;have B4:=Hd ((HBY.out.alloc HBY.out.size _).grown hg4 (Lx HBY.out.size (Vh _ _)) (Vv HOX.out (Le _)));have HK4:=Hd ((HKY.out.alloc _).grown hg4 (G3 HOY.out HKY.out (by decide)).symm);have HO4:Hid (w4.ownsRow w1.heap.size 38 2 v4 ((V8 s i++Xm s i (k+1)).length) (Ua pC (V8 s i++Xm s i (k+1)))):=Hd (by rw [HRL.out,Uy,Uv,List.length_append,List.length_append];exact ho4);clear ho4 hg4;go_wp2;go_roundw
         case rel=>exact ⟨k+1,by omega,by omega,by go_num,HO4.out,HK4.out,B4.out⟩
         case measure=>simp [intOf];omega
        exact An
       exact An
      exact An
     |false=>
      cases C2 with
      |true=>
       have HX0:Hid (Below wr.heap.size wr (wr.alloc (.cells #[.int .i64 x.unit,.int .i64 x.num,.slice x.rA x.rn x.rc,.slice x.cA x.cn x.cc] 34)).drew):=Hd ((Bf _ _).alloc (Le _) _).drew;refine Rw (S:=fun w'=>Blk w' w2.heap.size 34 #[.int .i64 a.unit,.int .i64 a.num,.slice a.rA a.rn a.rc,.slice a.cA a.cn a.cc]∧Blk w' wr.heap.size 34 #[.int .i64 x.unit,.int .i64 x.num,.slice x.rA x.rn x.rc,.slice x.cA x.cn x.cc]) (by kernel_rfl) HBK.out (fun Hh=>?_);refine tk 0 (.agg #[.int .i64 a.unit,.int .i64 a.num,.slice a.rA a.rn a.rc,.slice a.cA a.cn a.cc]) Hh ?_ (y:=by exact Or.inl ⟨by rfl,by intro w' hSw;have h0:=hSw.1.cell 0;have h1:=hSw.1.cell 1;have h2:=hSw.1.cell 2;have h3:=hSw.1.cell 3;simp at h0 h1 h2 h3;go_simp⟩)
       refine tk 2 (.agg #[.int .i64 x.unit,.int .i64 x.num,.slice x.rA x.rn x.rc,.slice x.cA x.cn x.cc]) Hh ?_ (y:=by exact Or.inl ⟨by rfl,by intro w' hSw;have h0:=hSw.2.cell 0;have h1:=hSw.2.cell 1;have h2:=hSw.2.cell 2;have h3:=hSw.2.cell 3;simp at h0 h1 h2 h3;go_simp⟩);refine Ar (rs:=[1]) (by kernel_rfl) (by simp) ?_;refine Rc (fun K hK=>?_) ?_
       ·go_simp
        refine (HCA.out _ (U0 HBW.out HX0.out HBW.out.size)).mono ?_;rintro e y1 ⟨Aa1,ca1,rfl,hs,hb⟩;simp only [];have HX1:=Hd (U0 HX0.out hb HX0.out.size);have Sa1:=Hd hs;clear hs;obtain ⟨q0,q1⟩:=Hh;refine hK.out _ _ ⟨q0.below hb q0.lt,q1.below hb q1.lt⟩ (fun Hh=>?_);clear hK K hb q0 q1;try simp only [Act.put,Sv,Sz,Sw]
        refine Ar (rs:=[3]) (by kernel_rfl) (by simp) ?_;refine Rc (fun K hK=>?_) ?_
        ·go_simp
         refine (HCX.out _ (U0 HBW.out HX1.out HBW.out.size)).mono ?_;rintro e y2 ⟨Ax1,cx1,rfl,hs,hb⟩;simp only [];have HX2:=Hd (U0 HX1.out hb HX1.out.size);have Sa1n:=Hd (Sa1.out.after hb hb.size);have Sx1:=Hd hs;clear hs;obtain ⟨q0,q1⟩:=Hh;refine hK.out _ _ ⟨q0.below hb q0.lt,q1.below hb q1.lt⟩ (fun Hh=>?_);clear hK K hb q0 q1;try simp only [Act.put,Sv,Sz,Sw]
         refine Ar (rs:=[4]) (by kernel_rfl) (by simp) ?_;refine Rc (fun K hK=>?_) ?_
         ·go_simp
          refine (HM1.out _ _ _ _ _ Sa1n.out Sx1.out).mono ?_;rintro e y3 ⟨rfl,hb⟩;simp only [];have HX3:=Hd (U0 HX2.out hb HX2.out.size);obtain ⟨q0,q1⟩:=Hh;refine hK.out _ _ ⟨q0.below hb q0.lt,q1.below hb q1.lt⟩ (fun Hh=>?_);clear hK K hb q0 q1;try simp only [Act.put,Sv,Sz,Sw]
          refine tk 5 (.bool false) Hh ?_;refine tk 6 (.agg #[.int .i64 a.unit,.int .i64 a.num,.slice a.rA a.rn a.rc,.slice a.cA a.cn a.cc]) Hh ?_ (y:=by exact Or.inl ⟨by rfl,by intro w' hSw;have h0:=hSw.1.cell 0;have h1:=hSw.1.cell 1;have h2:=hSw.1.cell 2;have h3:=hSw.1.cell 3;simp at h0 h1 h2 h3;go_simp⟩);refine tk 8 (.agg #[.int .i64 x.unit,.int .i64 x.num,.slice x.rA x.rn x.rc,.slice x.cA x.cn x.cc]) Hh ?_ (y:=by exact Or.inl ⟨by rfl,by intro w' hSw;have h0:=hSw.2.cell 0;have h1:=hSw.2.cell 1;have h2:=hSw.2.cell 2;have h3:=hSw.2.cell 3;simp at h0 h1 h2 h3;go_simp⟩);refine Ar (rs:=[7]) (by kernel_rfl) (by simp) ?_;refine Rc (fun K hK=>?_) ?_
          ·go_simp
           refine (HCA.out _ (U0 HBW.out HX3.out HBW.out.size)).mono ?_;rintro e y4 ⟨Aa2,ca2,rfl,hs,hb⟩;simp only [];have HX4:=Hd (U0 HX3.out hb HX3.out.size);have Sa2:=Hd hs;clear hs;obtain ⟨q0,q1⟩:=Hh;refine hK.out _ _ ⟨q0.below hb q0.lt,q1.below hb q1.lt⟩ (fun Hh=>?_);clear hK K hb q0 q1;try simp only [Act.put,Sv,Sz,Sw]
           refine Ar (rs:=[9]) (by kernel_rfl) (by simp) ?_;refine Rc (fun K hK=>?_) ?_
           ·go_simp
            refine (HRX.out _ (U0 HBW.out HX4.out HBW.out.size)).mono ?_;rintro e y5 ⟨Ax2,cx2,rfl,hs,hb⟩;simp only [];have HX5:=Hd (U0 HX4.out hb HX4.out.size);have Sa2n:=Hd (Sa2.out.after hb hb.size);have Sx2:=Hd hs;clear hs;obtain ⟨q0,q1⟩:=Hh;refine hK.out _ _ ⟨q0.below hb q0.lt,q1.below hb q1.lt⟩ (fun Hh=>?_);clear hK K hb q0 q1;try simp only [Act.put,Sv,Sz,Sw]
            refine Ar (rs:=[10]) (by kernel_rfl) (by simp) ?_;refine Rc (fun K hK=>?_) ?_
            ·go_simp
             refine (HM2.out _ _ _ _ _ Sa2n.out Sx2.out).mono ?_;rintro e y6 ⟨rfl,hb⟩;simp only [];have HX6:=Hd (U0 HX5.out hb HX5.out.size);obtain ⟨q0,q1⟩:=Hh;refine hK.out _ _ ⟨q0.below hb q0.lt,q1.below hb q1.lt⟩ (fun Hh=>?_);clear hK K hb q0 q1;try simp only [Act.put,Sv,Sz,Sw]
             refine tk 11 (.bool true) Hh ?_;refine tk 12 (.bool true) Hh ?_;refine tku 13 Hh ?_;refine tku 15 Hh ?_;refine tku 14 Hh ?_;refine tku 16 Hh ?_;refine tku 17 Hh ?_;refine tk 18 (.bool true) Hh ?_;refine Ad (by kernel_rfl) ?_ _;have HRL:Hid (V8 s i++Xm s i (k+1)=(V8 s i++Xm s i k)++[(i,k)]):=Hd (by rw [rowL_yes hik (by have h:=HCF.out;simpa using h),List.append_assoc]);have HOY:=Hd (Ui HOX.out HX6.out);have HBY:=Hd (U0 HBW.out HX6.out HBW.out.size);have HKY:=Hd Hh.1;clear Hh;go_wp2_with (at_builtin;go_must (refine U4 _ rfl _ _ 36 rfl w1.heap.size 38 i0 _ 2 16 Tryz.underlying36 hi0 hz0 hz1 hz2 rfl (by decide) _ _ _ rfl (HOY.out.alloc _) _ _ 1 1 [.int .i64 i,.int .i64 k] rfl (Zb _ _ [.int .i64 i,.int .i64 k] 38 1 2 rfl ?c5) ?c1 ?c2 ?c3 ?c4 ?_))
             case c5=>simp
             case c1=>intro u hu;simp at hu;rcases hu with rfl|rfl<;>rfl
             case c2=>have:=HLE.out;simp only [maxLen];omega
             case c3=>have:=HLE.out;omega
             case c4=>have:=HBY.out.size;simp;omega
             intro v4 w4 ho4 hg4 _;have B4:=Hd ((HBY.out.alloc HBY.out.size _).grown hg4 (Lx HBY.out.size (Vh _ _)) (Vv HOX.out (Le _)));have HK4:=Hd ((HKY.out.alloc _).grown hg4 (G3 HOY.out HKY.out (by decide)).symm);have HO4:Hid (w4.ownsRow w1.heap.size 38 2 v4 ((V8 s i++Xm s i (k+1)).length) (Ua pC (V8 s i++Xm s i (k+1)))):=Hd (by rw [HRL.out,Uy,Uv,List.length_append,List.length_append];exact ho4);clear ho4 hg4;go_wp2;go_roundw
             case rel=>exact ⟨k+1,by omega,by omega,by go_num,HO4.out,HK4.out,B4.out⟩
             case measure=>simp [intOf];omega
            exact An
           exact An
          exact An
         exact An
        exact An
       exact An
      |false=>
       cases C3 with
       |true=>
        have HX0:Hid (Below wr.heap.size wr (wr.alloc (.cells #[.int .i64 x.unit,.int .i64 x.num,.slice x.rA x.rn x.rc,.slice x.cA x.cn x.cc] 34)).drew):=Hd ((Bf _ _).alloc (Le _) _).drew;refine Rw (S:=fun w'=>Blk w' w2.heap.size 34 #[.int .i64 a.unit,.int .i64 a.num,.slice a.rA a.rn a.rc,.slice a.cA a.cn a.cc]∧Blk w' wr.heap.size 34 #[.int .i64 x.unit,.int .i64 x.num,.slice x.rA x.rn x.rc,.slice x.cA x.cn x.cc]) (by kernel_rfl) HBK.out (fun Hh=>?_);refine tk 0 (.agg #[.int .i64 a.unit,.int .i64 a.num,.slice a.rA a.rn a.rc,.slice a.cA a.cn a.cc]) Hh ?_ (y:=by exact Or.inl ⟨by rfl,by intro w' hSw;have h0:=hSw.1.cell 0;have h1:=hSw.1.cell 1;have h2:=hSw.1.cell 2;have h3:=hSw.1.cell 3;simp at h0 h1 h2 h3;go_simp⟩)
        refine tk 2 (.agg #[.int .i64 x.unit,.int .i64 x.num,.slice x.rA x.rn x.rc,.slice x.cA x.cn x.cc]) Hh ?_ (y:=by exact Or.inl ⟨by rfl,by intro w' hSw;have h0:=hSw.2.cell 0;have h1:=hSw.2.cell 1;have h2:=hSw.2.cell 2;have h3:=hSw.2.cell 3;simp at h0 h1 h2 h3;go_simp⟩);refine Ar (rs:=[1]) (by kernel_rfl) (by simp) ?_;refine Rc (fun K hK=>?_) ?_
        ·go_simp
         refine (HCA.out _ (U0 HBW.out HX0.out HBW.out.size)).mono ?_;rintro e y1 ⟨Aa1,ca1,rfl,hs,hb⟩;simp only [];have HX1:=Hd (U0 HX0.out hb HX0.out.size);have Sa1:=Hd hs;clear hs;obtain ⟨q0,q1⟩:=Hh;refine hK.out _ _ ⟨q0.below hb q0.lt,q1.below hb q1.lt⟩ (fun Hh=>?_);clear hK K hb q0 q1;try simp only [Act.put,Sv,Sz,Sw]
         refine Ar (rs:=[3]) (by kernel_rfl) (by simp) ?_;refine Rc (fun K hK=>?_) ?_
         ·go_simp
          refine (HCX.out _ (U0 HBW.out HX1.out HBW.out.size)).mono ?_;rintro e y2 ⟨Ax1,cx1,rfl,hs,hb⟩;simp only [];have HX2:=Hd (U0 HX1.out hb HX1.out.size);have Sa1n:=Hd (Sa1.out.after hb hb.size);have Sx1:=Hd hs;clear hs;obtain ⟨q0,q1⟩:=Hh;refine hK.out _ _ ⟨q0.below hb q0.lt,q1.below hb q1.lt⟩ (fun Hh=>?_);clear hK K hb q0 q1;try simp only [Act.put,Sv,Sz,Sw]
          refine Ar (rs:=[4]) (by kernel_rfl) (by simp) ?_;refine Rc (fun K hK=>?_) ?_
          ·go_simp
           refine (HM1.out _ _ _ _ _ Sa1n.out Sx1.out).mono ?_;rintro e y3 ⟨rfl,hb⟩;simp only [];have HX3:=Hd (U0 HX2.out hb HX2.out.size);obtain ⟨q0,q1⟩:=Hh;refine hK.out _ _ ⟨q0.below hb q0.lt,q1.below hb q1.lt⟩ (fun Hh=>?_);clear hK K hb q0 q1;try simp only [Act.put,Sv,Sz,Sw]
           refine tk 5 (.bool false) Hh ?_;refine tk 6 (.agg #[.int .i64 a.unit,.int .i64 a.num,.slice a.rA a.rn a.rc,.slice a.cA a.cn a.cc]) Hh ?_ (y:=by exact Or.inl ⟨by rfl,by intro w' hSw;have h0:=hSw.1.cell 0;have h1:=hSw.1.cell 1;have h2:=hSw.1.cell 2;have h3:=hSw.1.cell 3;simp at h0 h1 h2 h3;go_simp⟩);refine tk 8 (.agg #[.int .i64 x.unit,.int .i64 x.num,.slice x.rA x.rn x.rc,.slice x.cA x.cn x.cc]) Hh ?_ (y:=by exact Or.inl ⟨by rfl,by intro w' hSw;have h0:=hSw.2.cell 0;have h1:=hSw.2.cell 1;have h2:=hSw.2.cell 2;have h3:=hSw.2.cell 3;simp at h0 h1 h2 h3;go_simp⟩);refine Ar (rs:=[7]) (by kernel_rfl) (by simp) ?_;refine Rc (fun K hK=>?_) ?_
           ·go_simp
            refine (HCA.out _ (U0 HBW.out HX3.out HBW.out.size)).mono ?_;rintro e y4 ⟨Aa2,ca2,rfl,hs,hb⟩;simp only [];have HX4:=Hd (U0 HX3.out hb HX3.out.size);have Sa2:=Hd hs;clear hs;obtain ⟨q0,q1⟩:=Hh;refine hK.out _ _ ⟨q0.below hb q0.lt,q1.below hb q1.lt⟩ (fun Hh=>?_);clear hK K hb q0 q1;try simp only [Act.put,Sv,Sz,Sw]
            refine Ar (rs:=[9]) (by kernel_rfl) (by simp) ?_;refine Rc (fun K hK=>?_) ?_
            ·go_simp
             refine (HRX.out _ (U0 HBW.out HX4.out HBW.out.size)).mono ?_;rintro e y5 ⟨Ax2,cx2,rfl,hs,hb⟩;simp only [];have HX5:=Hd (U0 HX4.out hb HX4.out.size);have Sa2n:=Hd (Sa2.out.after hb hb.size);have Sx2:=Hd hs;clear hs;obtain ⟨q0,q1⟩:=Hh;refine hK.out _ _ ⟨q0.below hb q0.lt,q1.below hb q1.lt⟩ (fun Hh=>?_);clear hK K hb q0 q1;try simp only [Act.put,Sv,Sz,Sw]
             refine Ar (rs:=[10]) (by kernel_rfl) (by simp) ?_;refine Rc (fun K hK=>?_) ?_
             ·go_simp
              refine (HM2.out _ _ _ _ _ Sa2n.out Sx2.out).mono ?_;rintro e y6 ⟨rfl,hb⟩;simp only [];have HX6:=Hd (U0 HX5.out hb HX5.out.size);obtain ⟨q0,q1⟩:=Hh;refine hK.out _ _ ⟨q0.below hb q0.lt,q1.below hb q1.lt⟩ (fun Hh=>?_);clear hK K hb q0 q1;try simp only [Act.put,Sv,Sz,Sw]
              refine tk 11 (.bool false) Hh ?_;refine tk 12 (.bool false) Hh ?_;refine tk 13 (.agg #[.int .i64 a.unit,.int .i64 a.num,.slice a.rA a.rn a.rc,.slice a.cA a.cn a.cc]) Hh ?_ (y:=by exact Or.inl ⟨by rfl,by intro w' hSw;have h0:=hSw.1.cell 0;have h1:=hSw.1.cell 1;have h2:=hSw.1.cell 2;have h3:=hSw.1.cell 3;simp at h0 h1 h2 h3;go_simp⟩);refine tk 15 (.agg #[.int .i64 x.unit,.int .i64 x.num,.slice x.rA x.rn x.rc,.slice x.cA x.cn x.cc]) Hh ?_ (y:=by exact Or.inl ⟨by rfl,by intro w' hSw;have h0:=hSw.2.cell 0;have h1:=hSw.2.cell 1;have h2:=hSw.2.cell 2;have h3:=hSw.2.cell 3;simp at h0 h1 h2 h3;go_simp⟩);refine Ar (rs:=[14]) (by kernel_rfl) (by simp) ?_;refine Rc (fun K hK=>?_) ?_
              ·go_simp
               refine (HRA.out _ (U0 HBW.out HX6.out HBW.out.size)).mono ?_;rintro e y7 ⟨Aa3,ca3,rfl,hs,hb⟩;simp only [];have HX7:=Hd (U0 HX6.out hb HX6.out.size);have Sa3:=Hd hs;clear hs;obtain ⟨q0,q1⟩:=Hh;refine hK.out _ _ ⟨q0.below hb q0.lt,q1.below hb q1.lt⟩ (fun Hh=>?_);clear hK K hb q0 q1;try simp only [Act.put,Sv,Sz,Sw]
               refine Ar (rs:=[16]) (by kernel_rfl) (by simp) ?_;refine Rc (fun K hK=>?_) ?_
               ·go_simp
                refine (HCX.out _ (U0 HBW.out HX7.out HBW.out.size)).mono ?_;rintro e y8 ⟨Ax3,cx3,rfl,hs,hb⟩;simp only [];have HX8:=Hd (U0 HX7.out hb HX7.out.size);have Sa3n:=Hd (Sa3.out.after hb hb.size);have Sx3:=Hd hs;clear hs;obtain ⟨q0,q1⟩:=Hh;refine hK.out _ _ ⟨q0.below hb q0.lt,q1.below hb q1.lt⟩ (fun Hh=>?_);clear hK K hb q0 q1;try simp only [Act.put,Sv,Sz,Sw]
                refine Ar (rs:=[17]) (by kernel_rfl) (by simp) ?_;refine Rc (fun K hK=>?_) ?_
                ·go_simp
                 refine (HM3.out _ _ _ _ _ Sa3n.out Sx3.out).mono ?_;rintro e y9 ⟨rfl,hb⟩;simp only [];have HX9:=Hd (U0 HX8.out hb HX8.out.size);obtain ⟨q0,q1⟩:=Hh;refine hK.out _ _ ⟨q0.below hb q0.lt,q1.below hb q1.lt⟩ (fun Hh=>?_);clear hK K hb q0 q1;try simp only [Act.put,Sv,Sz,Sw]
                 refine tk 18 (.bool true) Hh ?_;refine Ad (by kernel_rfl) ?_ _;have HRL:Hid (V8 s i++Xm s i (k+1)=(V8 s i++Xm s i k)++[(i,k)]):=Hd (by rw [rowL_yes hik (by have h:=HCF.out;simpa using h),List.append_assoc]);have HOY:=Hd (Ui HOX.out HX9.out);have HBY:=Hd (U0 HBW.out HX9.out HBW.out.size);have HKY:=Hd Hh.1;clear Hh;go_wp2_with (at_builtin;go_must (refine U4 _ rfl _ _ 36 rfl w1.heap.size 38 i0 _ 2 16 Tryz.underlying36 hi0 hz0 hz1 hz2 rfl (by decide) _ _ _ rfl (HOY.out.alloc _) _ _ 1 1 [.int .i64 i,.int .i64 k] rfl (Zb _ _ [.int .i64 i,.int .i64 k] 38 1 2 rfl ?c5) ?c1 ?c2 ?c3 ?c4 ?_))
                 case c5=>simp
                 case c1=>intro u hu;simp at hu;rcases hu with rfl|rfl<;>rfl
                 case c2=>have:=HLE.out;simp only [maxLen];omega
                 case c3=>have:=HLE.out;omega
                 case c4=>have:=HBY.out.size;simp;omega
                 intro v4 w4 ho4 hg4 _;have B4:=Hd ((HBY.out.alloc HBY.out.size _).grown hg4 (Lx HBY.out.size (Vh _ _)) (Vv HOX.out (Le _)));have HK4:=Hd ((HKY.out.alloc _).grown hg4 (G3 HOY.out HKY.out (by decide)).symm);have HO4:Hid (w4.ownsRow w1.heap.size 38 2 v4 ((V8 s i++Xm s i (k+1)).length) (Ua pC (V8 s i++Xm s i (k+1)))):=Hd (by rw [HRL.out,Uy,Uv,List.length_append,List.length_append];exact ho4);clear ho4 hg4;go_wp2;go_roundw
                 case rel=>exact ⟨k+1,by omega,by omega,by go_num,HO4.out,HK4.out,B4.out⟩
                 case measure=>simp [intOf];omega
                exact An
               exact An
              exact An
             exact An
            exact An
           exact An
          exact An
         exact An
        exact An
       |false=>
        have HX0:Hid (Below wr.heap.size wr (wr.alloc (.cells #[.int .i64 x.unit,.int .i64 x.num,.slice x.rA x.rn x.rc,.slice x.cA x.cn x.cc] 34)).drew):=Hd ((Bf _ _).alloc (Le _) _).drew;refine Rw (S:=fun w'=>Blk w' w2.heap.size 34 #[.int .i64 a.unit,.int .i64 a.num,.slice a.rA a.rn a.rc,.slice a.cA a.cn a.cc]∧Blk w' wr.heap.size 34 #[.int .i64 x.unit,.int .i64 x.num,.slice x.rA x.rn x.rc,.slice x.cA x.cn x.cc]) (by kernel_rfl) HBK.out (fun Hh=>?_);refine tk 0 (.agg #[.int .i64 a.unit,.int .i64 a.num,.slice a.rA a.rn a.rc,.slice a.cA a.cn a.cc]) Hh ?_ (y:=by exact Or.inl ⟨by rfl,by intro w' hSw;have h0:=hSw.1.cell 0;have h1:=hSw.1.cell 1;have h2:=hSw.1.cell 2;have h3:=hSw.1.cell 3;simp at h0 h1 h2 h3;go_simp⟩)
        refine tk 2 (.agg #[.int .i64 x.unit,.int .i64 x.num,.slice x.rA x.rn x.rc,.slice x.cA x.cn x.cc]) Hh ?_ (y:=by exact Or.inl ⟨by rfl,by intro w' hSw;have h0:=hSw.2.cell 0;have h1:=hSw.2.cell 1;have h2:=hSw.2.cell 2;have h3:=hSw.2.cell 3;simp at h0 h1 h2 h3;go_simp⟩);refine Ar (rs:=[1]) (by kernel_rfl) (by simp) ?_;refine Rc (fun K hK=>?_) ?_
        ·go_simp
         refine (HCA.out _ (U0 HBW.out HX0.out HBW.out.size)).mono ?_;rintro e y1 ⟨Aa1,ca1,rfl,hs,hb⟩;simp only [];have HX1:=Hd (U0 HX0.out hb HX0.out.size);have Sa1:=Hd hs;clear hs;obtain ⟨q0,q1⟩:=Hh;refine hK.out _ _ ⟨q0.below hb q0.lt,q1.below hb q1.lt⟩ (fun Hh=>?_);clear hK K hb q0 q1;try simp only [Act.put,Sv,Sz,Sw]
         refine Ar (rs:=[3]) (by kernel_rfl) (by simp) ?_;refine Rc (fun K hK=>?_) ?_
         ·go_simp
          refine (HCX.out _ (U0 HBW.out HX1.out HBW.out.size)).mono ?_;rintro e y2 ⟨Ax1,cx1,rfl,hs,hb⟩;simp only [];have HX2:=Hd (U0 HX1.out hb HX1.out.size);have Sa1n:=Hd (Sa1.out.after hb hb.size);have Sx1:=Hd hs;clear hs;obtain ⟨q0,q1⟩:=Hh;refine hK.out _ _ ⟨q0.below hb q0.lt,q1.below hb q1.lt⟩ (fun Hh=>?_);clear hK K hb q0 q1;try simp only [Act.put,Sv,Sz,Sw]
          refine Ar (rs:=[4]) (by kernel_rfl) (by simp) ?_;refine Rc (fun K hK=>?_) ?_
          ·go_simp
           refine (HM1.out _ _ _ _ _ Sa1n.out Sx1.out).mono ?_;rintro e y3 ⟨rfl,hb⟩;simp only [];have HX3:=Hd (U0 HX2.out hb HX2.out.size);obtain ⟨q0,q1⟩:=Hh;refine hK.out _ _ ⟨q0.below hb q0.lt,q1.below hb q1.lt⟩ (fun Hh=>?_);clear hK K hb q0 q1;try simp only [Act.put,Sv,Sz,Sw]
           refine tk 5 (.bool false) Hh ?_;refine tk 6 (.agg #[.int .i64 a.unit,.int .i64 a.num,.slice a.rA a.rn a.rc,.slice a.cA a.cn a.cc]) Hh ?_ (y:=by exact Or.inl ⟨by rfl,by intro w' hSw;have h0:=hSw.1.cell 0;have h1:=hSw.1.cell 1;have h2:=hSw.1.cell 2;have h3:=hSw.1.cell 3;simp at h0 h1 h2 h3;go_simp⟩);refine tk 8 (.agg #[.int .i64 x.unit,.int .i64 x.num,.slice x.rA x.rn x.rc,.slice x.cA x.cn x.cc]) Hh ?_ (y:=by exact Or.inl ⟨by rfl,by intro w' hSw;have h0:=hSw.2.cell 0;have h1:=hSw.2.cell 1;have h2:=hSw.2.cell 2;have h3:=hSw.2.cell 3;simp at h0 h1 h2 h3;go_simp⟩);refine Ar (rs:=[7]) (by kernel_rfl) (by simp) ?_;refine Rc (fun K hK=>?_) ?_
           ·go_simp
            refine (HCA.out _ (U0 HBW.out HX3.out HBW.out.size)).mono ?_;rintro e y4 ⟨Aa2,ca2,rfl,hs,hb⟩;simp only [];have HX4:=Hd (U0 HX3.out hb HX3.out.size);have Sa2:=Hd hs;clear hs;obtain ⟨q0,q1⟩:=Hh;refine hK.out _ _ ⟨q0.below hb q0.lt,q1.below hb q1.lt⟩ (fun Hh=>?_);clear hK K hb q0 q1;try simp only [Act.put,Sv,Sz,Sw]
            refine Ar (rs:=[9]) (by kernel_rfl) (by simp) ?_;refine Rc (fun K hK=>?_) ?_
            ·go_simp
             refine (HRX.out _ (U0 HBW.out HX4.out HBW.out.size)).mono ?_;rintro e y5 ⟨Ax2,cx2,rfl,hs,hb⟩;simp only [];have HX5:=Hd (U0 HX4.out hb HX4.out.size);have Sa2n:=Hd (Sa2.out.after hb hb.size);have Sx2:=Hd hs;clear hs;obtain ⟨q0,q1⟩:=Hh;refine hK.out _ _ ⟨q0.below hb q0.lt,q1.below hb q1.lt⟩ (fun Hh=>?_);clear hK K hb q0 q1;try simp only [Act.put,Sv,Sz,Sw]
             refine Ar (rs:=[10]) (by kernel_rfl) (by simp) ?_;refine Rc (fun K hK=>?_) ?_
             ·go_simp
              refine (HM2.out _ _ _ _ _ Sa2n.out Sx2.out).mono ?_;rintro e y6 ⟨rfl,hb⟩;simp only [];have HX6:=Hd (U0 HX5.out hb HX5.out.size);obtain ⟨q0,q1⟩:=Hh;refine hK.out _ _ ⟨q0.below hb q0.lt,q1.below hb q1.lt⟩ (fun Hh=>?_);clear hK K hb q0 q1;try simp only [Act.put,Sv,Sz,Sw]
              refine tk 11 (.bool false) Hh ?_;refine tk 12 (.bool false) Hh ?_;refine tk 13 (.agg #[.int .i64 a.unit,.int .i64 a.num,.slice a.rA a.rn a.rc,.slice a.cA a.cn a.cc]) Hh ?_ (y:=by exact Or.inl ⟨by rfl,by intro w' hSw;have h0:=hSw.1.cell 0;have h1:=hSw.1.cell 1;have h2:=hSw.1.cell 2;have h3:=hSw.1.cell 3;simp at h0 h1 h2 h3;go_simp⟩);refine tk 15 (.agg #[.int .i64 x.unit,.int .i64 x.num,.slice x.rA x.rn x.rc,.slice x.cA x.cn x.cc]) Hh ?_ (y:=by exact Or.inl ⟨by rfl,by intro w' hSw;have h0:=hSw.2.cell 0;have h1:=hSw.2.cell 1;have h2:=hSw.2.cell 2;have h3:=hSw.2.cell 3;simp at h0 h1 h2 h3;go_simp⟩);refine Ar (rs:=[14]) (by kernel_rfl) (by simp) ?_;refine Rc (fun K hK=>?_) ?_
              ·go_simp
               refine (HRA.out _ (U0 HBW.out HX6.out HBW.out.size)).mono ?_;rintro e y7 ⟨Aa3,ca3,rfl,hs,hb⟩;simp only [];have HX7:=Hd (U0 HX6.out hb HX6.out.size);have Sa3:=Hd hs;clear hs;obtain ⟨q0,q1⟩:=Hh;refine hK.out _ _ ⟨q0.below hb q0.lt,q1.below hb q1.lt⟩ (fun Hh=>?_);clear hK K hb q0 q1;try simp only [Act.put,Sv,Sz,Sw]
               refine Ar (rs:=[16]) (by kernel_rfl) (by simp) ?_;refine Rc (fun K hK=>?_) ?_
               ·go_simp
                refine (HCX.out _ (U0 HBW.out HX7.out HBW.out.size)).mono ?_;rintro e y8 ⟨Ax3,cx3,rfl,hs,hb⟩;simp only [];have HX8:=Hd (U0 HX7.out hb HX7.out.size);have Sa3n:=Hd (Sa3.out.after hb hb.size);have Sx3:=Hd hs;clear hs;obtain ⟨q0,q1⟩:=Hh;refine hK.out _ _ ⟨q0.below hb q0.lt,q1.below hb q1.lt⟩ (fun Hh=>?_);clear hK K hb q0 q1;try simp only [Act.put,Sv,Sz,Sw]
                refine Ar (rs:=[17]) (by kernel_rfl) (by simp) ?_;refine Rc (fun K hK=>?_) ?_
                ·go_simp
                 refine (HM3.out _ _ _ _ _ Sa3n.out Sx3.out).mono ?_;rintro e y9 ⟨rfl,hb⟩;simp only [];have HX9:=Hd (U0 HX8.out hb HX8.out.size);obtain ⟨q0,q1⟩:=Hh;refine hK.out _ _ ⟨q0.below hb q0.lt,q1.below hb q1.lt⟩ (fun Hh=>?_);clear hK K hb q0 q1;try simp only [Act.put,Sv,Sz,Sw]
                 refine tk 18 (.bool false) Hh ?_;refine Ad (by kernel_rfl) ?_ _;have HRL:Hid (V8 s i++Xm s i (k+1)=V8 s i++Xm s i k):=Hd (by rw [rowL_no (by have h:=HCF.out;simpa using h)]);have HO4:Hid (y9.ownsRow w1.heap.size 38 2 u5 ((V8 s i++Xm s i (k+1)).length) (Ua pC (V8 s i++Xm s i (k+1)))):=Hd (by rw [HRL.out];exact Ui HOX.out HX9.out);have B4:=Hd (U0 HBW.out HX9.out HBW.out.size);have HK4:=Hd Hh.1;clear Hh;go_wp2;go_roundw
                 case rel=>exact ⟨k+1,by omega,by omega,by go_num,HO4.out,HK4.out,B4.out⟩
                 case measure=>simp [intOf];omega
                exact An
               exact An
              exact An
             exact An
            exact An
           exact An
          exact An
         exact An
        exact An
    ·have hkm':k=m:=by omega
     have HC:Hid (V8 s i++Xm s i k=V8 s (i+1)):=Hd (by rw [confL_succ,HMM.out,hkm']);rw [HC.out] at HOX;clear hkm';go_wp2_with fail;go_roundw
     case rel=>exact ⟨i+1,hlt,by go_num,HOX.out,HBW.out⟩
     case measure=>simp [intOf];omega
  ·have hin:i=m:=by omega
   subst hin;have HLE:Hid ((V8 s i).length≤144):=Hd (by have:=F7 s i;rw [HMM.out] at this;exact Lx this (Nat.mul_le_mul hm12 hm12));obtain ⟨A5,c5,hv5,_,_⟩:=Ub HOW.out;subst hv5;have HSL:=Hd (Sl.of_own (f:=pC) (k:=2) pC_len (by decide) HOW.out);go_wp2;go_ret;exact ⟨A5,c5,rfl,HSL.out,U0 HB1.out HB.out HB1.out.size⟩
end Go.Proofs.YtapanepkfbamhaaGreatDoor
