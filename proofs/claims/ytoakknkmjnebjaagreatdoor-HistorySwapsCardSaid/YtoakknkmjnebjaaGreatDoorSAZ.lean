/- Of HistorySwaps. -/
import Derived.Test.YtoakknkmjnebjaaGreatDoorSAY
namespace Go.Proofs.YtoakknkmjnebjaaGreatDoor
open Tryz (prog)
set_option maxRecDepth 100000
set_option maxHeartbeats 2000000
open Go.RowKit
section
def Zn (a b:Com):Bool:=Jq (a.cs.map chT) (b.cs.map chT) || (Jq (a.cs.map chT) (b.rs.map rdT) || Jq (a.rs.map rdT) (b.cs.map chT))
def Kf (s:List Com) (i k:Nat):Bool:=match s[i]?,s[k]? with
 |some a,some b=>Zn a b
 |_,_=>false
theorem confAt_is {s:List Com} {i k:Nat} {a b:Com} (h1:s[i]? =some a) (h2:s[k]? =some b):Kf s i k=Zn a b:=by
 unfold Kf;rw [h1,h2]
def pC (p:Nat×Nat):List Value:=[.int .i64 p.1,.int .i64 p.2]
theorem pC_len (p:Nat×Nat):(pC p).length=2:=rfl
def Xl (s:List Com) (i k:Nat):List (Nat×Nat):=((List.range k).filter fun q=>decide (i<q)&&Kf s i q).map fun q=>(i,q)
def V3 (s:List Com) (i:Nat):List (Nat×Nat):=(List.range i).flatMap fun q=>Xl s q s.length
theorem confL_succ (s:List Com) (i:Nat):V3 s (i+1)=V3 s i++Xl s i s.length:=by
 unfold V3;rw [List.range_succ,List.flatMap_append,List.flatMap_cons,List.flatMap_nil,List.append_nil]
theorem rowL_start (s:List Com) (i:Nat):Xl s i (i+1) = []:=by
 unfold Xl;rw [List.map_eq_nil_iff,List.filter_eq_nil_iff];intro q hq;have:q<i+1:=List.mem_range.1 hq;simp;omega
theorem rowL_yes {s:List Com} {i k:Nat} (h:i<k) (hc:Kf s i k=true):Xl s i (k+1)=Xl s i k++[(i,k)]:=by
 unfold Xl;rw [List.range_succ,List.filter_append,List.map_append];simp [h,hc]
theorem rowL_no {s:List Com} {i k:Nat} (hc:Kf s i k=false):Xl s i (k+1)=Xl s i k:=by
 unfold Xl;rw [List.range_succ,List.filter_append,List.map_append];simp [hc]
theorem rowL_len (s:List Com) (i k:Nat):(Xl s i k).length≤k:=by
 unfold Xl;rw [List.length_map];exact Lx (List.length_filter_le _ _) (by simp)
theorem Jg (s:List Com):∀ i,(V3 s i).length≤i*s.length
 |0=>by simp [V3]
 |i+1=>by
  rw [confL_succ,List.length_append,Nat.succ_mul];have:=Jg s i;have:=rowL_len s i s.length;omega
def GivesP (w:Wd) (l:List (Nat×Nat)) (e:Ending) (w':Wd):Prop:=∃ A c,e = .returned (.slice A l.length c)∧Sl pC 2 w' w'.heap.size A l.length c l∧Below w.heap.size w w'
theorem infoPP:(prog.info? 38).map (fun i=>(i.zero,i.size,i.bytes))=some (some (.agg #[.int .i64 0,.int .i64 0]),2,16):=by kernel_rfl
structure CI (wx:Wd) (ga:Nat) (ca cb:Array Value) (W:Wd):Prop where
 bx:Below wx.heap.size wx W
 ba:Blk W ga 34 ca
 bb:Blk W wx.heap.size 34 cb
 lt:ga<wx.heap.size
section
variable {wx W W':Wd} {ga:Nat} {ca cb:Array Value}
theorem CI.next (h:CI wx ga ca cb W) (hb:Below W.heap.size W W'):CI wx ga ca cb W':=
 ⟨U0 h.bx hb h.bx.size,h.ba.below hb h.ba.lt,h.bb.below hb h.bb.lt,h.lt⟩
theorem CI.drew (h:CI wx ga ca cb W):CI wx ga ca cb W.drew:=⟨h.bx.drew,h.ba,h.bb,h.lt⟩
theorem CI.start (h:Blk wx ga 34 ca) (cb:Array Value):CI wx ga ca cb (wx.alloc (.cells cb 34)):=
 ⟨(Bf _ _).alloc (Le _) _,h.alloc _,Blk.new wx _ cb,h.lt⟩
theorem CI.cells {a0 a1 a2 a3 b0 b1 b2 b3:Value} (h:CI wx ga #[a0,a1,a2,a3] #[b0,b1,b2,b3] W):
  W.cell? ⟨ga,0,none⟩=some a0∧W.cell? ⟨ga,1,none⟩=some a1∧W.cell? ⟨ga,2,none⟩=some a2∧W.cell? ⟨ga,3,none⟩=some a3 ∧
  W.cell? ⟨wx.heap.size,0,none⟩=some b0∧W.cell? ⟨wx.heap.size,1,none⟩=some b1∧W.cell? ⟨wx.heap.size,2,none⟩=some b2∧W.cell? ⟨wx.heap.size,3,none⟩=some b3:=
 ⟨h.ba.cell 0,h.ba.cell 1,h.ba.cell 2,h.ba.cell 3,h.bb.cell 0,h.bb.cell 1,h.bb.cell 2,h.bb.cell 3⟩
end
def Xr (l:List Com):List Com:=(Yq l).getD []
theorem ordS_mem {l:List Com} {x:Com} (h:x∈Xr l):x∈l:=by
 unfold Xr Yq at h;split at h
 ·simp at h
 ·split at h
  ·simp only [Option.getD_some] at h;rw [J8] at h;simpa using h
  ·simp at h
theorem ordS_len (l:List Com):(Xr l).length≤l.length:=by
 unfold Xr Yq;split
 ·simp
 ·split
  ·simp only [Option.getD_some];rw [Zz];simp
  ·simp
def OrdG (s:List Com) (m:Nat) (w:Wd) (e:Ending) (w':Wd):Prop:=∃ A c ok,e = .returned (.tuple #[.slice A m c,.bool ok])∧Cs w' w'.heap.size A m c s∧Below w.heap.size w w'
theorem ord_gives {l:List Com} {w w':Wd} {e:Ending} (h:OrdP (Yq l) w e w'):OrdG (Xr l) (Xr l).length w e w':=by
 rcases h with ⟨h,rfl,hb⟩|⟨s,h,A,c,rfl,hs,hb⟩
 ·unfold Xr;rw [h];exact ⟨none,0,false,rfl,⟨Sl.nil,fun x hx=>by simp at hx⟩,hb⟩
 ·unfold Xr;rw [h];exact ⟨A,c,true,rfl,hs,hb⟩
def SmP (x:Com):Prop:=x.cn≤1000∧x.rn≤1000
theorem hconf_any (A:Option Addr) (n c:Nat) (l:List Com) (w:Wd) (hs:Cs w w.heap.size A n c l) (hv:∀ x∈l,VolsOk x) (hn:n≤12) (eA:∀ x∈l,SmP x):
  Calls prog 8 #[.slice A n c] w (GivesP w (V3 (Xr l) (Xr l).length)):=by
 have HO:=Hd (Z6 A n c l w hs hv hn);have HM:Hid (∀ x∈Xr l,SmP x):=Hd fun x hx=>eA x (ordS_mem hx)
 have fH:Hid ((Xr l).length≤12):=Hd (Lx (ordS_len l) (by rw [hs.1.len];exact hn));have HG:Hid (∀ e w',OrdP (Yq l) w e w'→OrdG (Xr l) (Xr l).length w e w'):=Hd fun e w' h=>ord_gives h
 obtain ⟨i0,aU,aW,aK,aR⟩:=info_parts infoPP;clear hs hv eA hn;obtain ⟨s,hs⟩:∃ s,Xr l=s:=⟨_,rfl⟩
 rw [hs] at HM fH HG ⊢;clear hs;obtain ⟨m,hm⟩:∃ m,s.length=m:=⟨_,rfl⟩
 rw [hm] at fH HG ⊢;have kQ:=fH.out;have HMM:=Hd hm;clear hm fH;go_enter Tryz.func8,Tryz.ntmps8;go_wp2_with (go_at_call 16;refine HO.out.mono ?_;intro e w1 hp;obtain ⟨A1,c1,ok,rfl,cL,aJ⟩:=HG.out _ _ hp;have fY:=Hd cL;have aQ:=Hd aJ;clear hp cL aJ HG HO);go_loopw [5,17] (fun v5 v17 wr => ∃ i:Nat,i≤m∧v17 = .int .i64 i∧wr.ownsRow w1.heap.size 38 2 v5 (V3 s i).length (Ub pC (V3 s i))∧Below w1.heap.size w1 wr) (fun _ v17 _=>m-(intOf v17).toNat)
 case atStart=>exact ⟨0,Z0 _,rfl,⟨rfl,.inl ⟨rfl,rfl⟩⟩,Bf _ _⟩
 case round=>
  obtain ⟨w2,hw2⟩:∃ w2,w2=wr:=⟨_,rfl⟩
  subst hw2;obtain ⟨i,hi,rfl,aD,aE⟩:=hrel;have eW:=Hd aD;have HB:=Hd aE;clear aD aE;by_cases aG:i<m
  ·obtain ⟨b,o,a,rfl,hb,hg,aB⟩:=Sl.cell (f:=U7) (k:=4) V2 fY.out.1 aG;have fD:=Hd hb;have HGA:=Hd hg;have c0:=(HB.out.cell (p:=⟨b,o+i*4+0,none⟩) hb).trans (aB 0 _ rfl);have c1:=(HB.out.cell (p:=⟨b,o+i*4+1,none⟩) hb).trans (aB 1 _ rfl);have c2:=(HB.out.cell (p:=⟨b,o+i*4+2,none⟩) hb).trans (aB 2 _ rfl);have c3:=(HB.out.cell (p:=⟨b,o+i*4+3,none⟩) hb).trans (aB 3 _ rfl);simp only [Nat.add_zero] at c0;have HMA:=Hd (List.mem_of_getElem? hg);clear hb hg aB;go_wp2_with fail;go_loopw [5,8] (fun v5 v8 wx => ∃ k:Nat,i<k∧k≤m∧v8 = .int .i64 k∧wx.ownsRow w1.heap.size 38 2 v5 ((V3 s i++Xl s i k).length) (Ub pC (V3 s i++Xl s i k))∧Blk wx w2.heap.size 34 #[.int .i64 a.unit,.int .i64 a.num,.slice a.rA a.rn a.rc,.slice a.cA a.cn a.cc]∧Below w1.heap.size w1 wx) (fun _ v8 _=>m-(intOf v8).toNat)
   case atStart=>exact ⟨i+1,Nat.lt_succ_self _,aG,by go_num,by rw [rowL_start,List.append_nil];exact eW.out.alloc _,Blk.new w2 _ _,HB.out.alloc HB.out.size _⟩
   case round=>
    obtain ⟨k,hik,hk,rfl,aD,hblk,aE⟩:=hrel;have HOX:=Hd aD;have HKA:=Hd hblk;have bC:=Hd aE;have dM:Hid ((V3 s i++Xl s i k).length≤156):=Hd (by rw [List.length_append];have h1:=Jg s i;have h2:=rowL_len s i k;rw [HMM.out] at h1;have h3:i*m≤144:=Nat.mul_le_mul (Lx (Nat.le_of_lt aG) kQ) kQ;omega);clear aD hblk aE c0 c1 c2 c3;by_cases hkm:k<m
    ·obtain ⟨b9,o9,x,hA9,dA,hg9,eO⟩:=Sl.cell (f:=U7) (k:=4) V2 fY.out.1 hkm;cases hA9;have d0:=(bC.out.cell (p:=⟨b,o+k*4+0,none⟩) dA).trans (eO 0 _ rfl);have d1:=(bC.out.cell (p:=⟨b,o+k*4+1,none⟩) dA).trans (eO 1 _ rfl);have d2:=(bC.out.cell (p:=⟨b,o+k*4+2,none⟩) dA).trans (eO 2 _ rfl);have d3:=(bC.out.cell (p:=⟨b,o+k*4+3,none⟩) dA).trans (eO 3 _ rfl);simp only [Nat.add_zero] at d0;have kN:=Hd (List.mem_of_getElem? hg9);obtain ⟨C1,hC1⟩:∃ C1,Jq (a.cs.map chT) (x.cs.map chT)=C1:=⟨_,rfl⟩
     obtain ⟨C2,hC2⟩:∃ C2,Jq (a.cs.map chT) (x.rs.map rdT)=C2:=⟨_,rfl⟩
     obtain ⟨C3,hC3⟩:∃ C3,Jq (a.rs.map rdT) (x.cs.map chT)=C3:=⟨_,rfl⟩
     have gU:Hid (Kf s i k=(C1 || (C2 || C3))):=Hd (by rw [confAt_is HGA.out hg9];unfold Zn;rw [hC1,hC2,hC3]);have mC:Hid (∀ W:Wd,Below w1.heap.size w1 W→Calls prog 18 #[.agg #[.int .i64 a.unit,.int .i64 a.num,.slice a.rA a.rn a.rc,.slice a.cA a.cn a.cc]] W (G7 W a.cn (a.cs.map chT))):=Hd fun W hW=>Gr a W ((fY.out.2 a HMA.out).after hW hW.size) (HM.out a HMA.out).1
     have HRA:Hid (∀ W:Wd,Below w1.heap.size w1 W→Calls prog 19 #[.agg #[.int .i64 a.unit,.int .i64 a.num,.slice a.rA a.rn a.rc,.slice a.cA a.cn a.cc]] W (G7 W a.rn (a.rs.map rdT))):=Hd fun W hW=>read_any a W ((fY.out.2 a HMA.out).after hW hW.size) (HM.out a HMA.out).2
     have bN:Hid (∀ W:Wd,Below w1.heap.size w1 W→Calls prog 18 #[.agg #[.int .i64 x.unit,.int .i64 x.num,.slice x.rA x.rn x.rc,.slice x.cA x.cn x.cc]] W (G7 W x.cn (x.cs.map chT))):=Hd fun W hW=>Gr x W ((fY.out.2 x kN.out).after hW hW.size) (HM.out x kN.out).1
     have HRX:Hid (∀ W:Wd,Below w1.heap.size w1 W→Calls prog 19 #[.agg #[.int .i64 x.unit,.int .i64 x.num,.slice x.rA x.rn x.rc,.slice x.cA x.cn x.cc]] W (G7 W x.rn (x.rs.map rdT))):=Hd fun W hW=>read_any x W ((fY.out.2 x kN.out).after hW hW.size) (HM.out x kN.out).2
     have HM1:Hid (∀ (W:Wd) (A:Option Addr) (c:Nat) (A':Option Addr) (c':Nat),Sl Xm 4 W W.heap.size A a.cn c (a.cs.map chT)→Sl Xm 4 W W.heap.size A' x.cn c' (x.cs.map chT)→Calls prog 17 #[.slice A a.cn c,.slice A' x.cn c'] W fun e w'=>e = .returned (.bool C1)∧Below W.heap.size W w'):=Hd fun W A c A' c' h h'=>by rw [←hC1];exact Fv A A' _ c _ c' _ _ W h h' (HM.out a HMA.out).1 (HM.out x kN.out).1
     have jQ:Hid (∀ (W:Wd) (A:Option Addr) (c:Nat) (A':Option Addr) (c':Nat),Sl Xm 4 W W.heap.size A a.cn c (a.cs.map chT)→Sl Xm 4 W W.heap.size A' x.rn c' (x.rs.map rdT)→Calls prog 17 #[.slice A a.cn c,.slice A' x.rn c'] W fun e w'=>e = .returned (.bool C2)∧Below W.heap.size W w'):=Hd fun W A c A' c' h h'=>by rw [←hC2];exact Fv A A' _ c _ c' _ _ W h h' (HM.out a HMA.out).1 (HM.out x kN.out).2
     have HM3:Hid (∀ (W:Wd) (A:Option Addr) (c:Nat) (A':Option Addr) (c':Nat),Sl Xm 4 W W.heap.size A a.rn c (a.rs.map rdT)→Sl Xm 4 W W.heap.size A' x.cn c' (x.cs.map chT)→Calls prog 17 #[.slice A a.rn c,.slice A' x.cn c'] W fun e w'=>e = .returned (.bool C3)∧Below W.heap.size W w'):=Hd fun W A c A' c' h h'=>by rw [←hC3];exact Fv A A' _ c _ c' _ _ W h h' (HM.out a HMA.out).2 (HM.out x kN.out).1
     clear hC1 hC2 hC3 dA hg9 eO;have HX:=Hd (CI.start HKA.out #[.int .i64 x.unit,.int .i64 x.num,.slice x.rA x.rn x.rc,.slice x.cA x.cn x.cc]);have hga:=HX.out.lt;go_wp2_with fail;have kC:Hid (Blk (wr.alloc (.cells #[.int .i64 x.unit,.int .i64 x.num,.slice x.rA x.rn x.rc,.slice x.cA x.cn x.cc] 34)).drew w2.heap.size 34 #[.int .i64 a.unit,.int .i64 a.num,.slice a.rA a.rn a.rc,.slice a.cA a.cn a.cc]∧Blk (wr.alloc (.cells #[.int .i64 x.unit,.int .i64 x.num,.slice x.rA x.rn x.rc,.slice x.cA x.cn x.cc] 34)).drew wr.heap.size 34 #[.int .i64 x.unit,.int .i64 x.num,.slice x.rA x.rn x.rc,.slice x.cA x.cn x.cc]):=Hd ⟨HX.out.ba,HX.out.bb⟩;clear HX;cases C1 with
     |true=>
      have cE:Hid (Below wr.heap.size wr (wr.alloc (.cells #[.int .i64 x.unit,.int .i64 x.num,.slice x.rA x.rn x.rc,.slice x.cA x.cn x.cc] 34)).drew):=Hd ((Bf _ _).alloc (Le _) _).drew;refine Rw (S:=fun w'=>Blk w' w2.heap.size 34 #[.int .i64 a.unit,.int .i64 a.num,.slice a.rA a.rn a.rc,.slice a.cA a.cn a.cc]∧Blk w' wr.heap.size 34 #[.int .i64 x.unit,.int .i64 x.num,.slice x.rA x.rn x.rc,.slice x.cA x.cn x.cc]) (by kernel_rfl) kC.out (fun Hh=>?_);refine tj 0 (.agg #[.int .i64 a.unit,.int .i64 a.num,.slice a.rA a.rn a.rc,.slice a.cA a.cn a.cc]) Hh ?_ (y:=by intro w' aH;have h0:=aH.1.cell 0;have h1:=aH.1.cell 1;have h2:=aH.1.cell 2;have h3:=aH.1.cell 3;simp at h0 h1 h2 h3;go_simp)
      refine tj 2 (.agg #[.int .i64 x.unit,.int .i64 x.num,.slice x.rA x.rn x.rc,.slice x.cA x.cn x.cc]) Hh ?_ (y:=by intro w' aH;have h0:=aH.2.cell 0;have h1:=aH.2.cell 1;have h2:=aH.2.cell 2;have h3:=aH.2.cell 3;simp at h0 h1 h2 h3;go_simp);refine Aq [1] ?_;refine Rc (fun K hK=>?_) ?_
      ·go_simp;refine (mC.out _ (U0 bC.out cE.out bC.out.size)).mono ?_;rintro e y1 ⟨Aa1,ca1,rfl,hs,hb⟩;simp only [];have bI:=Hd (U0 cE.out hb cE.out.size);have Sa1:=Hd hs;clear hs;obtain ⟨q0,q1⟩:=Hh;refine hK.out _ _ ⟨q0.below hb q0.lt,q1.below hb q1.lt⟩ (fun Hh=>?_);clear hK K hb q0 q1;try simp only [Act.put,Sv,Sz,Sw]
       refine Aq [3] ?_;refine Rc (fun K hK=>?_) ?_
       ·go_simp;refine (bN.out _ (U0 bC.out bI.out bC.out.size)).mono ?_;rintro e y2 ⟨Ax1,cx1,rfl,hs,hb⟩;simp only [];have aM:=Hd (U0 bI.out hb bI.out.size);have Sa1n:=Hd (Sa1.out.after hb hb.size);have Sx1:=Hd hs;clear hs;obtain ⟨q0,q1⟩:=Hh;refine hK.out _ _ ⟨q0.below hb q0.lt,q1.below hb q1.lt⟩ (fun Hh=>?_);clear hK K hb q0 q1;try simp only [Act.put,Sv,Sz,Sw]
        refine Aq [4] ?_;refine Rc (fun K hK=>?_) ?_
        ·go_simp;refine (HM1.out _ _ _ _ _ Sa1n.out Sx1.out).mono ?_;rintro e y3 ⟨rfl,hb⟩;simp only [];have aP:=Hd (U0 aM.out hb aM.out.size);obtain ⟨q0,q1⟩:=Hh;refine hK.out _ _ ⟨q0.below hb q0.lt,q1.below hb q1.lt⟩ (fun Hh=>?_);clear hK K hb q0 q1;try simp only [Act.put,Sv,Sz,Sw]
         refine tk 5 (.bool true) Hh ?_;refine tku 6 Hh ?_;refine tku 8 Hh ?_;refine tku 7 Hh ?_;refine tku 9 Hh ?_;refine tku 10 Hh ?_;refine tk 11 (.bool true) Hh ?_;refine tk 12 (.bool true) Hh ?_;refine tku 13 Hh ?_;refine tku 15 Hh ?_;refine tku 14 Hh ?_;refine tku 16 Hh ?_;refine tku 17 Hh ?_;refine tk 18 (.bool true) Hh ?_;refine Ad (by kernel_rfl) ?_ _;have jU:Hid (V3 s i++Xl s i (k+1)=(V3 s i++Xl s i k)++[(i,k)]):=Hd (by rw [rowL_yes hik (by have h:=gU.out;simpa using h),List.append_assoc]);have HOY:=Hd (Up HOX.out aP.out);have fB:=Hd (U0 bC.out aP.out bC.out.size);have HKY:=Hd Hh.1;clear Hh
         go_wp2_with (at_builtin;go_must (refine U5 _ rfl _ _ 36 rfl w1.heap.size 38 i0 _ 2 16 Tryz.underlying36 aU aW aK aR rfl (by decide) _ _ _ rfl (HOY.out.alloc _) _ _ 1 1 [.int .i64 i,.int .i64 k] rfl (Zm _ _ [.int .i64 i,.int .i64 k] 38 1 2 rfl ?c5) ?c1 ?c2 ?c3 ?c4 ?_))
         case c5=>simp
         case c1=>intro u hu;simp at hu;rcases hu with rfl|rfl<;>rfl
         case c2=>have:=dM.out;simp only [maxLen];omega
         case c3=>have:=dM.out;omega
         case c4=>have:=fB.out.size;simp;omega
         intro v4 w4 cO dS _;have B4:=Hd ((fB.out.alloc fB.out.size _).grown dS (Lx fB.out.size (Vq _ _)) (X6 HOX.out (Le _)));have jW:=Hd ((HKY.out.alloc _).grown dS (Hf HOY.out HKY.out (by decide)).symm);have cN:Hid (w4.ownsRow w1.heap.size 38 2 v4 ((V3 s i++Xl s i (k+1)).length) (Ub pC (V3 s i++Xl s i (k+1)))):=Hd (by rw [jU.out,Vb,Va,List.length_append,List.length_append];exact cO);clear cO dS;go_wp2;go_roundw
         case rel=>exact ⟨k+1,by omega,by omega,by go_num,cN.out,jW.out,B4.out⟩
         case measure=>simp [intOf];omega
        exact An
       exact An
      exact An
     |false=>
      cases C2 with
      |true=>
       have cE:Hid (Below wr.heap.size wr (wr.alloc (.cells #[.int .i64 x.unit,.int .i64 x.num,.slice x.rA x.rn x.rc,.slice x.cA x.cn x.cc] 34)).drew):=Hd ((Bf _ _).alloc (Le _) _).drew;refine Rw (S:=fun w'=>Blk w' w2.heap.size 34 #[.int .i64 a.unit,.int .i64 a.num,.slice a.rA a.rn a.rc,.slice a.cA a.cn a.cc]∧Blk w' wr.heap.size 34 #[.int .i64 x.unit,.int .i64 x.num,.slice x.rA x.rn x.rc,.slice x.cA x.cn x.cc]) (by kernel_rfl) kC.out (fun Hh=>?_);refine tj 0 (.agg #[.int .i64 a.unit,.int .i64 a.num,.slice a.rA a.rn a.rc,.slice a.cA a.cn a.cc]) Hh ?_ (y:=by intro w' aH;have h0:=aH.1.cell 0;have h1:=aH.1.cell 1;have h2:=aH.1.cell 2;have h3:=aH.1.cell 3;simp at h0 h1 h2 h3;go_simp)
       refine tj 2 (.agg #[.int .i64 x.unit,.int .i64 x.num,.slice x.rA x.rn x.rc,.slice x.cA x.cn x.cc]) Hh ?_ (y:=by intro w' aH;have h0:=aH.2.cell 0;have h1:=aH.2.cell 1;have h2:=aH.2.cell 2;have h3:=aH.2.cell 3;simp at h0 h1 h2 h3;go_simp);refine Aq [1] ?_;refine Rc (fun K hK=>?_) ?_
       ·go_simp;refine (mC.out _ (U0 bC.out cE.out bC.out.size)).mono ?_;rintro e y1 ⟨Aa1,ca1,rfl,hs,hb⟩;simp only [];have bI:=Hd (U0 cE.out hb cE.out.size);have Sa1:=Hd hs;clear hs;obtain ⟨q0,q1⟩:=Hh;refine hK.out _ _ ⟨q0.below hb q0.lt,q1.below hb q1.lt⟩ (fun Hh=>?_);clear hK K hb q0 q1;try simp only [Act.put,Sv,Sz,Sw]
        refine Aq [3] ?_;refine Rc (fun K hK=>?_) ?_
        ·go_simp;refine (bN.out _ (U0 bC.out bI.out bC.out.size)).mono ?_;rintro e y2 ⟨Ax1,cx1,rfl,hs,hb⟩;simp only [];have aM:=Hd (U0 bI.out hb bI.out.size);have Sa1n:=Hd (Sa1.out.after hb hb.size);have Sx1:=Hd hs;clear hs;obtain ⟨q0,q1⟩:=Hh;refine hK.out _ _ ⟨q0.below hb q0.lt,q1.below hb q1.lt⟩ (fun Hh=>?_);clear hK K hb q0 q1;try simp only [Act.put,Sv,Sz,Sw]
         refine Aq [4] ?_;refine Rc (fun K hK=>?_) ?_
         ·go_simp;refine (HM1.out _ _ _ _ _ Sa1n.out Sx1.out).mono ?_;rintro e y3 ⟨rfl,hb⟩;simp only [];have aP:=Hd (U0 aM.out hb aM.out.size);obtain ⟨q0,q1⟩:=Hh;refine hK.out _ _ ⟨q0.below hb q0.lt,q1.below hb q1.lt⟩ (fun Hh=>?_);clear hK K hb q0 q1;try simp only [Act.put,Sv,Sz,Sw]
          refine tk 5 (.bool false) Hh ?_;refine tj 6 (.agg #[.int .i64 a.unit,.int .i64 a.num,.slice a.rA a.rn a.rc,.slice a.cA a.cn a.cc]) Hh ?_ (y:=by intro w' aH;have h0:=aH.1.cell 0;have h1:=aH.1.cell 1;have h2:=aH.1.cell 2;have h3:=aH.1.cell 3;simp at h0 h1 h2 h3;go_simp);refine tj 8 (.agg #[.int .i64 x.unit,.int .i64 x.num,.slice x.rA x.rn x.rc,.slice x.cA x.cn x.cc]) Hh ?_ (y:=by intro w' aH;have h0:=aH.2.cell 0;have h1:=aH.2.cell 1;have h2:=aH.2.cell 2;have h3:=aH.2.cell 3;simp at h0 h1 h2 h3;go_simp);refine Aq [7] ?_;refine Rc (fun K hK=>?_) ?_
          ·go_simp;refine (mC.out _ (U0 bC.out aP.out bC.out.size)).mono ?_;rintro e y4 ⟨Aa2,ca2,rfl,hs,hb⟩;simp only [];have aX:=Hd (U0 aP.out hb aP.out.size);have Sa2:=Hd hs;clear hs;obtain ⟨q0,q1⟩:=Hh;refine hK.out _ _ ⟨q0.below hb q0.lt,q1.below hb q1.lt⟩ (fun Hh=>?_);clear hK K hb q0 q1;try simp only [Act.put,Sv,Sz,Sw]
           refine Aq [9] ?_;refine Rc (fun K hK=>?_) ?_
           ·go_simp;refine (HRX.out _ (U0 bC.out aX.out bC.out.size)).mono ?_;rintro e y5 ⟨Ax2,cx2,rfl,hs,hb⟩;simp only [];have bA:=Hd (U0 aX.out hb aX.out.size);have Sa2n:=Hd (Sa2.out.after hb hb.size);have Sx2:=Hd hs;clear hs;obtain ⟨q0,q1⟩:=Hh;refine hK.out _ _ ⟨q0.below hb q0.lt,q1.below hb q1.lt⟩ (fun Hh=>?_);clear hK K hb q0 q1;try simp only [Act.put,Sv,Sz,Sw]
            refine Aq [10] ?_;refine Rc (fun K hK=>?_) ?_
            ·go_simp;refine (jQ.out _ _ _ _ _ Sa2n.out Sx2.out).mono ?_;rintro e y6 ⟨rfl,hb⟩;simp only [];have bB:=Hd (U0 bA.out hb bA.out.size);obtain ⟨q0,q1⟩:=Hh;refine hK.out _ _ ⟨q0.below hb q0.lt,q1.below hb q1.lt⟩ (fun Hh=>?_);clear hK K hb q0 q1;try simp only [Act.put,Sv,Sz,Sw]
             refine tk 11 (.bool true) Hh ?_;refine tk 12 (.bool true) Hh ?_;refine tku 13 Hh ?_;refine tku 15 Hh ?_;refine tku 14 Hh ?_;refine tku 16 Hh ?_;refine tku 17 Hh ?_;refine tk 18 (.bool true) Hh ?_;refine Ad (by kernel_rfl) ?_ _;have jU:Hid (V3 s i++Xl s i (k+1)=(V3 s i++Xl s i k)++[(i,k)]):=Hd (by rw [rowL_yes hik (by have h:=gU.out;simpa using h),List.append_assoc]);have HOY:=Hd (Up HOX.out bB.out);have fB:=Hd (U0 bC.out bB.out bC.out.size);have HKY:=Hd Hh.1;clear Hh;go_wp2_with (at_builtin;go_must (refine U5 _ rfl _ _ 36 rfl w1.heap.size 38 i0 _ 2 16 Tryz.underlying36 aU aW aK aR rfl (by decide) _ _ _ rfl (HOY.out.alloc _) _ _ 1 1 [.int .i64 i,.int .i64 k] rfl (Zm _ _ [.int .i64 i,.int .i64 k] 38 1 2 rfl ?c5) ?c1 ?c2 ?c3 ?c4 ?_))
             case c5=>simp
             case c1=>intro u hu;simp at hu;rcases hu with rfl|rfl<;>rfl
             case c2=>have:=dM.out;simp only [maxLen];omega
             case c3=>have:=dM.out;omega
             case c4=>have:=fB.out.size;simp;omega
             intro v4 w4 cO dS _;have B4:=Hd ((fB.out.alloc fB.out.size _).grown dS (Lx fB.out.size (Vq _ _)) (X6 HOX.out (Le _)));have jW:=Hd ((HKY.out.alloc _).grown dS (Hf HOY.out HKY.out (by decide)).symm);have cN:Hid (w4.ownsRow w1.heap.size 38 2 v4 ((V3 s i++Xl s i (k+1)).length) (Ub pC (V3 s i++Xl s i (k+1)))):=Hd (by rw [jU.out,Vb,Va,List.length_append,List.length_append];exact cO);clear cO dS;go_wp2;go_roundw
             case rel=>exact ⟨k+1,by omega,by omega,by go_num,cN.out,jW.out,B4.out⟩
             case measure=>simp [intOf];omega
            exact An
           exact An
          exact An
         exact An
        exact An
       exact An
      |false=>
       cases C3 with
       |true=>
        have cE:Hid (Below wr.heap.size wr (wr.alloc (.cells #[.int .i64 x.unit,.int .i64 x.num,.slice x.rA x.rn x.rc,.slice x.cA x.cn x.cc] 34)).drew):=Hd ((Bf _ _).alloc (Le _) _).drew;refine Rw (S:=fun w'=>Blk w' w2.heap.size 34 #[.int .i64 a.unit,.int .i64 a.num,.slice a.rA a.rn a.rc,.slice a.cA a.cn a.cc]∧Blk w' wr.heap.size 34 #[.int .i64 x.unit,.int .i64 x.num,.slice x.rA x.rn x.rc,.slice x.cA x.cn x.cc]) (by kernel_rfl) kC.out (fun Hh=>?_);refine tj 0 (.agg #[.int .i64 a.unit,.int .i64 a.num,.slice a.rA a.rn a.rc,.slice a.cA a.cn a.cc]) Hh ?_ (y:=by intro w' aH;have h0:=aH.1.cell 0;have h1:=aH.1.cell 1;have h2:=aH.1.cell 2;have h3:=aH.1.cell 3;simp at h0 h1 h2 h3;go_simp)
        refine tj 2 (.agg #[.int .i64 x.unit,.int .i64 x.num,.slice x.rA x.rn x.rc,.slice x.cA x.cn x.cc]) Hh ?_ (y:=by intro w' aH;have h0:=aH.2.cell 0;have h1:=aH.2.cell 1;have h2:=aH.2.cell 2;have h3:=aH.2.cell 3;simp at h0 h1 h2 h3;go_simp);refine Aq [1] ?_;refine Rc (fun K hK=>?_) ?_
        ·go_simp;refine (mC.out _ (U0 bC.out cE.out bC.out.size)).mono ?_;rintro e y1 ⟨Aa1,ca1,rfl,hs,hb⟩;simp only [];have bI:=Hd (U0 cE.out hb cE.out.size);have Sa1:=Hd hs;clear hs;obtain ⟨q0,q1⟩:=Hh;refine hK.out _ _ ⟨q0.below hb q0.lt,q1.below hb q1.lt⟩ (fun Hh=>?_);clear hK K hb q0 q1;try simp only [Act.put,Sv,Sz,Sw]
         refine Aq [3] ?_;refine Rc (fun K hK=>?_) ?_
         ·go_simp;refine (bN.out _ (U0 bC.out bI.out bC.out.size)).mono ?_;rintro e y2 ⟨Ax1,cx1,rfl,hs,hb⟩;simp only [];have aM:=Hd (U0 bI.out hb bI.out.size);have Sa1n:=Hd (Sa1.out.after hb hb.size);have Sx1:=Hd hs;clear hs;obtain ⟨q0,q1⟩:=Hh;refine hK.out _ _ ⟨q0.below hb q0.lt,q1.below hb q1.lt⟩ (fun Hh=>?_);clear hK K hb q0 q1;try simp only [Act.put,Sv,Sz,Sw]
          refine Aq [4] ?_;refine Rc (fun K hK=>?_) ?_
          ·go_simp;refine (HM1.out _ _ _ _ _ Sa1n.out Sx1.out).mono ?_;rintro e y3 ⟨rfl,hb⟩;simp only [];have aP:=Hd (U0 aM.out hb aM.out.size);obtain ⟨q0,q1⟩:=Hh;refine hK.out _ _ ⟨q0.below hb q0.lt,q1.below hb q1.lt⟩ (fun Hh=>?_);clear hK K hb q0 q1;try simp only [Act.put,Sv,Sz,Sw]
           refine tk 5 (.bool false) Hh ?_;refine tj 6 (.agg #[.int .i64 a.unit,.int .i64 a.num,.slice a.rA a.rn a.rc,.slice a.cA a.cn a.cc]) Hh ?_ (y:=by intro w' aH;have h0:=aH.1.cell 0;have h1:=aH.1.cell 1;have h2:=aH.1.cell 2;have h3:=aH.1.cell 3;simp at h0 h1 h2 h3;go_simp);refine tj 8 (.agg #[.int .i64 x.unit,.int .i64 x.num,.slice x.rA x.rn x.rc,.slice x.cA x.cn x.cc]) Hh ?_ (y:=by intro w' aH;have h0:=aH.2.cell 0;have h1:=aH.2.cell 1;have h2:=aH.2.cell 2;have h3:=aH.2.cell 3;simp at h0 h1 h2 h3;go_simp);refine Aq [7] ?_;refine Rc (fun K hK=>?_) ?_
           ·go_simp;refine (mC.out _ (U0 bC.out aP.out bC.out.size)).mono ?_;rintro e y4 ⟨Aa2,ca2,rfl,hs,hb⟩;simp only [];have aX:=Hd (U0 aP.out hb aP.out.size);have Sa2:=Hd hs;clear hs;obtain ⟨q0,q1⟩:=Hh;refine hK.out _ _ ⟨q0.below hb q0.lt,q1.below hb q1.lt⟩ (fun Hh=>?_);clear hK K hb q0 q1;try simp only [Act.put,Sv,Sz,Sw]
            refine Aq [9] ?_;refine Rc (fun K hK=>?_) ?_
            ·go_simp;refine (HRX.out _ (U0 bC.out aX.out bC.out.size)).mono ?_;rintro e y5 ⟨Ax2,cx2,rfl,hs,hb⟩;simp only [];have bA:=Hd (U0 aX.out hb aX.out.size);have Sa2n:=Hd (Sa2.out.after hb hb.size);have Sx2:=Hd hs;clear hs;obtain ⟨q0,q1⟩:=Hh;refine hK.out _ _ ⟨q0.below hb q0.lt,q1.below hb q1.lt⟩ (fun Hh=>?_);clear hK K hb q0 q1;try simp only [Act.put,Sv,Sz,Sw]
             refine Aq [10] ?_;refine Rc (fun K hK=>?_) ?_
             ·go_simp;refine (jQ.out _ _ _ _ _ Sa2n.out Sx2.out).mono ?_;rintro e y6 ⟨rfl,hb⟩;simp only [];have bB:=Hd (U0 bA.out hb bA.out.size);obtain ⟨q0,q1⟩:=Hh;refine hK.out _ _ ⟨q0.below hb q0.lt,q1.below hb q1.lt⟩ (fun Hh=>?_);clear hK K hb q0 q1;try simp only [Act.put,Sv,Sz,Sw]
              refine tk 11 (.bool false) Hh ?_;refine tk 12 (.bool false) Hh ?_;refine tj 13 (.agg #[.int .i64 a.unit,.int .i64 a.num,.slice a.rA a.rn a.rc,.slice a.cA a.cn a.cc]) Hh ?_ (y:=by intro w' aH;have h0:=aH.1.cell 0;have h1:=aH.1.cell 1;have h2:=aH.1.cell 2;have h3:=aH.1.cell 3;simp at h0 h1 h2 h3;go_simp);refine tj 15 (.agg #[.int .i64 x.unit,.int .i64 x.num,.slice x.rA x.rn x.rc,.slice x.cA x.cn x.cc]) Hh ?_ (y:=by intro w' aH;have h0:=aH.2.cell 0;have h1:=aH.2.cell 1;have h2:=aH.2.cell 2;have h3:=aH.2.cell 3;simp at h0 h1 h2 h3;go_simp);refine Aq [14] ?_;refine Rc (fun K hK=>?_) ?_
              ·go_simp;refine (HRA.out _ (U0 bC.out bB.out bC.out.size)).mono ?_;rintro e y7 ⟨Aa3,ca3,rfl,hs,hb⟩;simp only [];have fN:=Hd (U0 bB.out hb bB.out.size);have Sa3:=Hd hs;clear hs;obtain ⟨q0,q1⟩:=Hh;refine hK.out _ _ ⟨q0.below hb q0.lt,q1.below hb q1.lt⟩ (fun Hh=>?_);clear hK K hb q0 q1;try simp only [Act.put,Sv,Sz,Sw]
               refine Aq [16] ?_;refine Rc (fun K hK=>?_) ?_
               ·go_simp;refine (bN.out _ (U0 bC.out fN.out bC.out.size)).mono ?_;rintro e y8 ⟨Ax3,cx3,rfl,hs,hb⟩;simp only [];have iV:=Hd (U0 fN.out hb fN.out.size);have Sa3n:=Hd (Sa3.out.after hb hb.size);have Sx3:=Hd hs;clear hs;obtain ⟨q0,q1⟩:=Hh;refine hK.out _ _ ⟨q0.below hb q0.lt,q1.below hb q1.lt⟩ (fun Hh=>?_);clear hK K hb q0 q1;try simp only [Act.put,Sv,Sz,Sw]
                refine Aq [17] ?_;refine Rc (fun K hK=>?_) ?_
                ·go_simp;refine (HM3.out _ _ _ _ _ Sa3n.out Sx3.out).mono ?_;rintro e y9 ⟨rfl,hb⟩;simp only [];have iG:=Hd (U0 iV.out hb iV.out.size);obtain ⟨q0,q1⟩:=Hh;refine hK.out _ _ ⟨q0.below hb q0.lt,q1.below hb q1.lt⟩ (fun Hh=>?_);clear hK K hb q0 q1;try simp only [Act.put,Sv,Sz,Sw]
                 refine tk 18 (.bool true) Hh ?_;refine Ad (by kernel_rfl) ?_ _;have jU:Hid (V3 s i++Xl s i (k+1)=(V3 s i++Xl s i k)++[(i,k)]):=Hd (by rw [rowL_yes hik (by have h:=gU.out;simpa using h),List.append_assoc]);have HOY:=Hd (Up HOX.out iG.out);have fB:=Hd (U0 bC.out iG.out bC.out.size);have HKY:=Hd Hh.1;clear Hh;go_wp2_with (at_builtin;go_must (refine U5 _ rfl _ _ 36 rfl w1.heap.size 38 i0 _ 2 16 Tryz.underlying36 aU aW aK aR rfl (by decide) _ _ _ rfl (HOY.out.alloc _) _ _ 1 1 [.int .i64 i,.int .i64 k] rfl (Zm _ _ [.int .i64 i,.int .i64 k] 38 1 2 rfl ?c5) ?c1 ?c2 ?c3 ?c4 ?_))
                 case c5=>simp
                 case c1=>intro u hu;simp at hu;rcases hu with rfl|rfl<;>rfl
                 case c2=>have:=dM.out;simp only [maxLen];omega
                 case c3=>have:=dM.out;omega
                 case c4=>have:=fB.out.size;simp;omega
                 intro v4 w4 cO dS _;have B4:=Hd ((fB.out.alloc fB.out.size _).grown dS (Lx fB.out.size (Vq _ _)) (X6 HOX.out (Le _)));have jW:=Hd ((HKY.out.alloc _).grown dS (Hf HOY.out HKY.out (by decide)).symm);have cN:Hid (w4.ownsRow w1.heap.size 38 2 v4 ((V3 s i++Xl s i (k+1)).length) (Ub pC (V3 s i++Xl s i (k+1)))):=Hd (by rw [jU.out,Vb,Va,List.length_append,List.length_append];exact cO);clear cO dS;go_wp2;go_roundw
                 case rel=>exact ⟨k+1,by omega,by omega,by go_num,cN.out,jW.out,B4.out⟩
                 case measure=>simp [intOf];omega
                exact An
               exact An
              exact An
             exact An
            exact An
           exact An
          exact An
         exact An
        exact An
       |false=>
        have cE:Hid (Below wr.heap.size wr (wr.alloc (.cells #[.int .i64 x.unit,.int .i64 x.num,.slice x.rA x.rn x.rc,.slice x.cA x.cn x.cc] 34)).drew):=Hd ((Bf _ _).alloc (Le _) _).drew;refine Rw (S:=fun w'=>Blk w' w2.heap.size 34 #[.int .i64 a.unit,.int .i64 a.num,.slice a.rA a.rn a.rc,.slice a.cA a.cn a.cc]∧Blk w' wr.heap.size 34 #[.int .i64 x.unit,.int .i64 x.num,.slice x.rA x.rn x.rc,.slice x.cA x.cn x.cc]) (by kernel_rfl) kC.out (fun Hh=>?_);refine tj 0 (.agg #[.int .i64 a.unit,.int .i64 a.num,.slice a.rA a.rn a.rc,.slice a.cA a.cn a.cc]) Hh ?_ (y:=by intro w' aH;have h0:=aH.1.cell 0;have h1:=aH.1.cell 1;have h2:=aH.1.cell 2;have h3:=aH.1.cell 3;simp at h0 h1 h2 h3;go_simp)
        refine tj 2 (.agg #[.int .i64 x.unit,.int .i64 x.num,.slice x.rA x.rn x.rc,.slice x.cA x.cn x.cc]) Hh ?_ (y:=by intro w' aH;have h0:=aH.2.cell 0;have h1:=aH.2.cell 1;have h2:=aH.2.cell 2;have h3:=aH.2.cell 3;simp at h0 h1 h2 h3;go_simp);refine Aq [1] ?_;refine Rc (fun K hK=>?_) ?_
        ·go_simp;refine (mC.out _ (U0 bC.out cE.out bC.out.size)).mono ?_;rintro e y1 ⟨Aa1,ca1,rfl,hs,hb⟩;simp only [];have bI:=Hd (U0 cE.out hb cE.out.size);have Sa1:=Hd hs;clear hs;obtain ⟨q0,q1⟩:=Hh;refine hK.out _ _ ⟨q0.below hb q0.lt,q1.below hb q1.lt⟩ (fun Hh=>?_);clear hK K hb q0 q1;try simp only [Act.put,Sv,Sz,Sw]
         refine Aq [3] ?_;refine Rc (fun K hK=>?_) ?_
         ·go_simp;refine (bN.out _ (U0 bC.out bI.out bC.out.size)).mono ?_;rintro e y2 ⟨Ax1,cx1,rfl,hs,hb⟩;simp only [];have aM:=Hd (U0 bI.out hb bI.out.size);have Sa1n:=Hd (Sa1.out.after hb hb.size);have Sx1:=Hd hs;clear hs;obtain ⟨q0,q1⟩:=Hh;refine hK.out _ _ ⟨q0.below hb q0.lt,q1.below hb q1.lt⟩ (fun Hh=>?_);clear hK K hb q0 q1;try simp only [Act.put,Sv,Sz,Sw]
          refine Aq [4] ?_;refine Rc (fun K hK=>?_) ?_
          ·go_simp;refine (HM1.out _ _ _ _ _ Sa1n.out Sx1.out).mono ?_;rintro e y3 ⟨rfl,hb⟩;simp only [];have aP:=Hd (U0 aM.out hb aM.out.size);obtain ⟨q0,q1⟩:=Hh;refine hK.out _ _ ⟨q0.below hb q0.lt,q1.below hb q1.lt⟩ (fun Hh=>?_);clear hK K hb q0 q1;try simp only [Act.put,Sv,Sz,Sw]
           refine tk 5 (.bool false) Hh ?_;refine tj 6 (.agg #[.int .i64 a.unit,.int .i64 a.num,.slice a.rA a.rn a.rc,.slice a.cA a.cn a.cc]) Hh ?_ (y:=by intro w' aH;have h0:=aH.1.cell 0;have h1:=aH.1.cell 1;have h2:=aH.1.cell 2;have h3:=aH.1.cell 3;simp at h0 h1 h2 h3;go_simp);refine tj 8 (.agg #[.int .i64 x.unit,.int .i64 x.num,.slice x.rA x.rn x.rc,.slice x.cA x.cn x.cc]) Hh ?_ (y:=by intro w' aH;have h0:=aH.2.cell 0;have h1:=aH.2.cell 1;have h2:=aH.2.cell 2;have h3:=aH.2.cell 3;simp at h0 h1 h2 h3;go_simp);refine Aq [7] ?_;refine Rc (fun K hK=>?_) ?_
           ·go_simp;refine (mC.out _ (U0 bC.out aP.out bC.out.size)).mono ?_;rintro e y4 ⟨Aa2,ca2,rfl,hs,hb⟩;simp only [];have aX:=Hd (U0 aP.out hb aP.out.size);have Sa2:=Hd hs;clear hs;obtain ⟨q0,q1⟩:=Hh;refine hK.out _ _ ⟨q0.below hb q0.lt,q1.below hb q1.lt⟩ (fun Hh=>?_);clear hK K hb q0 q1;try simp only [Act.put,Sv,Sz,Sw]
            refine Aq [9] ?_;refine Rc (fun K hK=>?_) ?_
            ·go_simp;refine (HRX.out _ (U0 bC.out aX.out bC.out.size)).mono ?_;rintro e y5 ⟨Ax2,cx2,rfl,hs,hb⟩;simp only [];have bA:=Hd (U0 aX.out hb aX.out.size);have Sa2n:=Hd (Sa2.out.after hb hb.size);have Sx2:=Hd hs;clear hs;obtain ⟨q0,q1⟩:=Hh;refine hK.out _ _ ⟨q0.below hb q0.lt,q1.below hb q1.lt⟩ (fun Hh=>?_);clear hK K hb q0 q1;try simp only [Act.put,Sv,Sz,Sw]
             refine Aq [10] ?_;refine Rc (fun K hK=>?_) ?_
             ·go_simp;refine (jQ.out _ _ _ _ _ Sa2n.out Sx2.out).mono ?_;rintro e y6 ⟨rfl,hb⟩;simp only [];have bB:=Hd (U0 bA.out hb bA.out.size);obtain ⟨q0,q1⟩:=Hh;refine hK.out _ _ ⟨q0.below hb q0.lt,q1.below hb q1.lt⟩ (fun Hh=>?_);clear hK K hb q0 q1;try simp only [Act.put,Sv,Sz,Sw]
              refine tk 11 (.bool false) Hh ?_;refine tk 12 (.bool false) Hh ?_;refine tj 13 (.agg #[.int .i64 a.unit,.int .i64 a.num,.slice a.rA a.rn a.rc,.slice a.cA a.cn a.cc]) Hh ?_ (y:=by intro w' aH;have h0:=aH.1.cell 0;have h1:=aH.1.cell 1;have h2:=aH.1.cell 2;have h3:=aH.1.cell 3;simp at h0 h1 h2 h3;go_simp);refine tj 15 (.agg #[.int .i64 x.unit,.int .i64 x.num,.slice x.rA x.rn x.rc,.slice x.cA x.cn x.cc]) Hh ?_ (y:=by intro w' aH;have h0:=aH.2.cell 0;have h1:=aH.2.cell 1;have h2:=aH.2.cell 2;have h3:=aH.2.cell 3;simp at h0 h1 h2 h3;go_simp);refine Aq [14] ?_;refine Rc (fun K hK=>?_) ?_
              ·go_simp;refine (HRA.out _ (U0 bC.out bB.out bC.out.size)).mono ?_;rintro e y7 ⟨Aa3,ca3,rfl,hs,hb⟩;simp only [];have fN:=Hd (U0 bB.out hb bB.out.size);have Sa3:=Hd hs;clear hs;obtain ⟨q0,q1⟩:=Hh;refine hK.out _ _ ⟨q0.below hb q0.lt,q1.below hb q1.lt⟩ (fun Hh=>?_);clear hK K hb q0 q1;try simp only [Act.put,Sv,Sz,Sw]
               refine Aq [16] ?_;refine Rc (fun K hK=>?_) ?_
               ·go_simp;refine (bN.out _ (U0 bC.out fN.out bC.out.size)).mono ?_;rintro e y8 ⟨Ax3,cx3,rfl,hs,hb⟩;simp only [];have iV:=Hd (U0 fN.out hb fN.out.size);have Sa3n:=Hd (Sa3.out.after hb hb.size);have Sx3:=Hd hs;clear hs;obtain ⟨q0,q1⟩:=Hh;refine hK.out _ _ ⟨q0.below hb q0.lt,q1.below hb q1.lt⟩ (fun Hh=>?_);clear hK K hb q0 q1;try simp only [Act.put,Sv,Sz,Sw]
                refine Aq [17] ?_;refine Rc (fun K hK=>?_) ?_
                ·go_simp;refine (HM3.out _ _ _ _ _ Sa3n.out Sx3.out).mono ?_;rintro e y9 ⟨rfl,hb⟩;simp only [];have iG:=Hd (U0 iV.out hb iV.out.size);obtain ⟨q0,q1⟩:=Hh;refine hK.out _ _ ⟨q0.below hb q0.lt,q1.below hb q1.lt⟩ (fun Hh=>?_);clear hK K hb q0 q1;try simp only [Act.put,Sv,Sz,Sw]
                 refine tk 18 (.bool false) Hh ?_;refine Ad (by kernel_rfl) ?_ _;have jU:Hid (V3 s i++Xl s i (k+1)=V3 s i++Xl s i k):=Hd (by rw [rowL_no (by have h:=gU.out;simpa using h)]);have cN:Hid (y9.ownsRow w1.heap.size 38 2 u5 ((V3 s i++Xl s i (k+1)).length) (Ub pC (V3 s i++Xl s i (k+1)))):=Hd (by rw [jU.out];exact Up HOX.out iG.out);have B4:=Hd (U0 bC.out iG.out bC.out.size);have jW:=Hd Hh.1;clear Hh;go_wp2;go_roundw
                 case rel=>exact ⟨k+1,by omega,by omega,by go_num,cN.out,jW.out,B4.out⟩
                 case measure=>simp [intOf];omega
                exact An
               exact An
              exact An
             exact An
            exact An
           exact An
          exact An
         exact An
        exact An
    ·have hkm':k=m:=by omega
     have HC:Hid (V3 s i++Xl s i k=V3 s (i+1)):=Hd (by rw [confL_succ,HMM.out,hkm']);rw [HC.out] at HOX;clear hkm';go_wp2_with fail;go_roundw
     case rel=>exact ⟨i+1,aG,by go_num,HOX.out,bC.out⟩
     case measure=>simp [intOf];omega
  ·have hin:i=m:=by omega
   subst hin;have dM:Hid ((V3 s i).length≤144):=Hd (by have:=Jg s i;rw [HMM.out] at this;exact Lx this (Nat.mul_le_mul kQ kQ));obtain ⟨A5,c5,hv5,_,_⟩:=Ue eW.out;subst hv5;have cG:=Hd (Sl.of_own (f:=pC) (k:=2) pC_len (by decide) eW.out);go_wp2;go_ret;exact ⟨A5,c5,rfl,cG.out,U0 aQ.out HB.out aQ.out.size⟩
end
theorem F5 (lo hi:Bz) (en:Bool):Kd ⟨lo,hi,en⟩=(!en&&U8 hi lo):=by
 unfold Kd inB;simp only [V6];cases en<;>cases U8 hi lo<;>rfl
theorem less_nil (a:Bz):U8 a ⟨#[]⟩=false:=by
 unfold U8;have e:(⟨#[]⟩:Bz).toList = []:=by rw [Uv]
 rw [e];cases a.toList<;>rfl
theorem mx_nil (a:Bz):mxS ⟨#[]⟩ a=a:=by
 unfold mxS;split
 ·rfl
 ·rename_i h;rcases Y0 (a:=⟨#[]⟩) (b:=a) (by simpa using h) with e|e
  ·exact e
  ·rw [less_nil] at e;cases e
theorem mx_nil' (a:Bz):mxS a ⟨#[]⟩=a:=by
 unfold mxS;rw [less_nil];rfl
theorem from_meet {R:Rg} (h:V0 (I7 ⟨#[]⟩) R=false∨V0 R (I7 ⟨#[]⟩)=false):R.en=false∧U8 R.hi R.lo=true:=by
 obtain ⟨lo,hi,en⟩:=R
 have key:Kd ⟨lo,if en then ⟨#[]⟩ else hi,en⟩=true→en=false∧U8 hi lo=true:=by
  intro h;rw [F5] at h;cases en with
  |true=>simp at h
  |false=>simpa using h
 refine key ?_;rcases h with h|h
 ·unfold V0 Jp I7 at h;simp only [mx_nil,Bool.not_eq_false'] at h;cases en
  ·simpa using h
  ·simpa using h
 ·unfold V0 Jp I7 at h;simp only [mx_nil',Bool.not_eq_false'] at h;cases en
  ·simpa using h
  ·simpa using h
theorem K5 {k:Bz} {R:Rg} (h:V0 (Yc k) R=false∨V0 R (Yc k)=false):inB R k=false:=by
 obtain ⟨lo,hi,en⟩:=R;cases hin:inB ⟨lo,hi,en⟩ k with
 |false=>rfl
 |true=>
  unfold inB at hin;simp only [Bool.and_eq_true,Bool.not_eq_true',Bool.and_eq_false_iff] at hin;obtain ⟨h1,h2⟩:=hin
  have m1:mxS k lo=k:=by
   unfold mxS;rw [h1];rfl
  have m2:mxS lo k=k:=by
   unfold mxS;split
   ·rfl
   ·rename_i h3;rcases Y0 (a:=lo) (b:=k) (by simpa using h3) with e|e
    ·exact e
    ·rw [h1] at e;cases e
  rcases h with h|h
  ·unfold V0 Jp Yc at h;simp only [Bool.not_eq_false',m1] at h;cases en with
   |true=>
    simp only [Bool.false_and,Bool.false_eq_true,if_false,if_true] at h;rw [F5,V6] at h;cases h
   |false=>
    have h3:U8 hi k=false:=by simpa using h2
    have m3:mnS k hi=k:=by unfold mnS;rw [h3];rfl
    simp only [Bool.false_and,Bool.false_eq_true,if_false,m3] at h;rw [F5,V6] at h;cases h
  ·unfold V0 Jp Yc at h;simp only [Bool.not_eq_false',m2] at h;cases en with
   |true=>
    simp only [Bool.and_false,Bool.false_eq_true,if_false,if_true] at h;rw [F5,V6] at h;cases h
   |false=>
    have h3:U8 hi k=false:=by simpa using h2
    have m3:mnS hi k=k:=by
     unfold mnS;split
     ·rfl
     ·rename_i h4;rcases Y0 (a:=k) (b:=hi) (by simpa using h4) with e|e
      ·exact e.symm
      ·rw [h3] at e;cases e
    simp only [Bool.and_false,Bool.false_eq_true,if_false,m3] at h;rw [F5,V6] at h;cases h
theorem inB_point (k:Bz):inB (Yc k) k=true:=by
 unfold inB Yc;simp [V6]
theorem chT_r (c:Chg):(chT c).r=if c.kind=0∨c.kind=1 then Yc c.key else I7 ⟨#[]⟩:=rfl
theorem ch_meet {x y:Chg} (hi:x.id=y.id) (h:tmB (chT x) (chT y)=false):(x.kind=0∨x.kind=1)∧(y.kind=0∨y.kind=1)∧x.key≠y.key:=by
 unfold tmB at h;rw [show (chT x).id=(chT y).id from hi,decide_eq_true rfl,Bool.true_and,chT_r,chT_r] at h;by_cases hx:x.kind=0∨x.kind=1
 ·rw [if_pos hx] at h;by_cases hy:y.kind=0∨y.kind=1
  ·rw [if_pos hy] at h;refine ⟨hx,hy,fun e=>?_⟩;have:=K5 (.inl h);rw [e,inB_point] at this;cases this
  ·rw [if_neg hy] at h;have:=K5 (.inl h);unfold inB I7 at this;simp [less_nil] at this
 ·rw [if_neg hx] at h;have:=from_meet (.inl h);split at this
  ·have h2:=this.2;unfold Yc at h2;rw [V6] at h2;cases h2
  ·cases this.1
theorem meet_no {a b:List Tch} (h:Jq a b=false):∀ x∈a,∀ y∈b,tmB x y=false:=by
 unfold Jq at h;rw [List.any_eq_false] at h;intro x hx y hy;have:=h x hx;simp only [Bool.not_eq_true,List.any_eq_false] at this;exact this y hy
def rng (r:Rdd):Rg:=(rdT r).r
theorem rdT_r (r:Rdd):rng r=if r.kind=0 then Yc r.key else if r.code≠0 then I7 r.key else ⟨r.key,r.ak,false⟩:=rfl
theorem exp_half {l l':List Pr} {r:Rdd} (h1:Srt l) (h2:Srt l') (he:∀ k,inB (rng r) k=true→lk l k=lk l' k) (h:Vy l r=true):Vy l' r=true:=by
 unfold Vy ansF at h ⊢;rw [decide_eq_true_eq] at h ⊢;rw [rdT_r] at he;by_cases hk:r.kind=0
 ·rw [if_pos hk] at h he ⊢;have e:=he r.key (inB_point _);rw [getR_lk l _ h1,e] at h;rw [getR_lk l' _ h2];exact h
 ·rw [if_neg hk] at h he ⊢;unfold Gh at h ⊢;rw [nextR_nx l _ h1] at h;rw [nextR_nx l' _ h2];by_cases hc:r.code=0
  ·rw [if_neg (by simpa using hc)] at he;cases hn:nx l r.key with
   |none=>
    rw [hn] at h;simp only at h;rw [if_neg (by decide)] at h;injection h with _ h
    injection h with _ h
    omega
   |some p=>
    rw [hn] at h;simp only at h;rw [if_pos trivial] at h;injection h with e1 h
    injection h with e2 e3
    obtain ⟨a,x⟩:=p;simp only at e1 e2;subst e1 e2;obtain ⟨q1,q2,q3⟩:=(nx_some l r.key r.ak r.ar h1).1 hn
    have hin:∀ k,U8 r.key k=true→(k=r.ak∨U8 k r.ak=true)→lk l k=lk l' k:=fun k g1 g2=>he k (by
     unfold inB;simp only [Bool.and_eq_true,Bool.not_eq_true',Bool.not_false,Bool.true_and];refine ⟨E9 g1,?_⟩;rcases g2 with rfl|g2
     ·exact V6 _
     ·exact E9 g2)
    have:nx l' r.key=some ⟨r.ak,r.ar⟩:=(nx_some l' r.key r.ak r.ar h2).2 ⟨q1,by rw [←hin _ q1 (.inl rfl)];exact q2,fun k' g1 g2=>by rw [←hin k' g1 (.inr g2)];exact q3 k' g1 g2⟩;rw [this];simp only;rw [if_pos trivial,hc]
  ·rw [if_pos hc] at he
   have hin:∀ k,U8 r.key k=true→lk l k=lk l' k:=fun k g1=>he k (by
    unfold inB I7;simp [E9 g1])
   cases hn:nx l r.key with
   |some p=>
    rw [hn] at h;simp only at h;rw [if_pos trivial] at h;injection h with _ h
    injection h with _ h
    exact absurd h hc
   |none=>
    have hz:=(nx_none l r.key).1 hn;have:nx l' r.key=none:=(nx_none l' r.key).2 fun k' g=>by rw [←hin k' g];exact hz k' g
    rw [this];rw [hn] at h;exact h
theorem exp_same {l l':List Pr} {r:Rdd} (h1:Srt l) (h2:Srt l') (he:∀ k,inB (rng r) k=true→lk l k=lk l' k):Vy l r=Vy l' r:=by
 cases ha:Vy l r with
 |true=>exact (exp_half h1 h2 he ha).symm
 |false=>
  cases hb:Vy l' r with
  |false=>rfl
  |true=>
   have:=exp_half h2 h1 (fun k hk=>(he k hk).symm) hb;rw [ha] at this;cases this
def Ej (c:Chg) (f:Bz→Option Bz):Bz→Option Bz:=fun k=>if c.key=k then (if c.kind=0 then some c.rcd else none) else f k
def Yv (cs:List Chg) (f:Bz→Option Bz):Bz→Option Bz:=cs.foldl (fun f c=>Ej c f) f
theorem updc_comm {c c':Chg} (h:c.key≠c'.key) (f:Bz→Option Bz):Ej c (Ej c' f)=Ej c' (Ej c f):=by
 funext k;unfold Ej;by_cases h1:c.key=k
 ·have h2:¬ c'.key=k:=fun e=>h (h1.trans e.symm)
  rw [if_pos h1,if_neg h2,if_pos h1]
 ·rw [if_neg h1,if_neg h1]
theorem foldU_one:∀ (xs:List Chg) (c:Chg) (f:Bz→Option Bz),(∀ x∈xs,x.key≠c.key)→Yv xs (Ej c f)=Ej c (Yv xs f)
 | [],c,f,_=>rfl
 |a::xs,c,f,h=>by
  show Yv xs (Ej a (Ej c f))=Ej c (Yv xs (Ej a f));rw [updc_comm (h a List.mem_cons_self),foldU_one xs c _ fun x hx=>h x (List.mem_cons_of_mem _ hx)]
theorem foldU_comm:∀ (ys xs:List Chg) (f:Bz→Option Bz),(∀ x∈xs,∀ y∈ys,x.key≠y.key)→Yv ys (Yv xs f)=Yv xs (Yv ys f)
 | [],xs,f,_=>rfl
 |b::ys,xs,f,h=>by
  show Yv ys (Ej b (Yv xs f))=Yv xs (Yv ys (Ej b f));rw [←foldU_one xs b f fun x hx=>h x hx b List.mem_cons_self];exact foldU_comm ys xs _ fun x hx y hy=>h x hx y (List.mem_cons_of_mem _ hy)
theorem foldU_far:∀ (xs:List Chg) (f:Bz→Option Bz) (k:Bz),(∀ x∈xs,x.key≠k)→Yv xs f k=f k
 | [],f,k,_=>rfl
 |a::xs,f,k,h=>by
  show Yv xs (Ej a f) k=f k;rw [foldU_far xs _ k fun x hx=>h x (List.mem_cons_of_mem _ hx)];unfold Ej;rw [if_neg (h a List.mem_cons_self)]
def ofI (id:Int) (cs:List Chg):List Chg:=cs.filter fun c=>decide (c.id=id)
theorem mem_ofI {id:Int} {cs:List Chg} {c:Chg}:c∈ofI id cs↔c∈cs∧c.id=id:=by
 unfold ofI;simp [List.mem_filter]
theorem stp_01 {n:Int} {c:Chg} {x:PC} {v1:Option PC} (hk:c.kind=0∨c.kind=1) (hi:x.d.id=c.id) (ha:x.ap<n) (h:El n c (some x) = .inr v1):
  ∃ y,v1=some y∧y.d=x.d∧y.ap=n∧Srt x.ps∧Srt y.ps∧lk y.ps=Ej c (lk x.ps):=by
 unfold El at h;simp only at h;rw [if_neg (by omega),if_neg (by omega),if_neg (by omega)] at h;cases e:doF x n c with
 |inl er=>rw [e] at h;cases h
 |inr y=>
  rw [e] at h;injection h with h
  subst h
  have hs:Srt x.ps:=by
   unfold doF at e;split at e
   ·rename_i hc;simp only [Bool.and_eq_true] at hc;exact fwd_srt hc.1.1.1
   ·cases e
  obtain ⟨l,hl,rfl⟩:=doF_new hi ha e;refine ⟨_,rfl,rfl,rfl,hs,?_⟩;show Srt l∧lk l=_;unfold Ew at hl;rcases hk with hk|hk
  ·rw [if_pos hk] at hl;unfold putE at hl;split at hl
   ·cases hl
   ·split at hl
    ·cases hl
    ·have gT:l=Fo x.ps c.key c.rcd:=by
      rw [←put_is];by_cases hh:Y4 x.ps c.key=true
      ·rw [if_pos hh] at hl ⊢;injection hl with hl
       exact hl.symm
      ·rw [if_neg hh] at hl ⊢;injection hl with hl
       exact hl.symm
     subst gT;refine ⟨srt_put _ _ _ hs,?_⟩;funext k;rw [lk_put];unfold Ej;rw [if_pos hk]
  ·rw [if_neg (by omega),if_pos hk] at hl;unfold eraE at hl;split at hl
   ·cases hl
   ·split at hl
    ·cases hl
    ·have gT:l=eraL x.ps c.key:=by
      rw [←era_is];by_cases hh:Y4 x.ps c.key=true
      ·rw [if_pos hh] at hl ⊢;injection hl with hl
       exact hl.symm
      ·rw [if_neg hh] at hl ⊢;injection hl with hl
       exact hl.symm
     subst gT;refine ⟨srt_era _ _ hs,?_⟩;funext k;rw [lk_era _ _ _ hs];unfold Ej;by_cases e:c.key=k
     ·rw [if_pos e,if_pos e,if_neg (show ¬ c.kind=0 by omega)]
     ·rw [if_neg e,if_neg e]
theorem ga1_01 {num id:Int}:∀ (cs:List Chg) (v:Option PC),(∀ c∈cs,c.id=id→c.kind=0∨c.kind=1)→ga1 num id cs v=some v
 | [],v,_=>rfl
 |c::r,v,h=>by
  have ih:=fun w=>ga1_01 (num:=num) (id:=id) r w fun x hx=>h x (List.mem_cons_of_mem _ hx)
  unfold ga1;by_cases hc:c.id=id
  ·have hk:=h c List.mem_cons_self hc;rw [if_pos hc,crt1,if_pos (.inr (by omega))];exact ih v
  ·rw [if_neg hc];exact ih v
theorem ga2_none {num id:Int}:∀ (cs:List Chg) (i:Nat),ga2 num id i cs none = .inr none
 | [],i=>rfl
 |c::r,i=>by
  unfold ga2;have ih:=ga2_none (num:=num) (id:=id) r (i+1);by_cases hc:c.id=id
  ·rw [if_pos hc];exact ih
  ·rw [if_neg hc];exact ih
theorem ga2_01 {num id:Int}:∀ (cs:List Chg) (i:Nat) (x:PC) (v1:Option PC),(∀ c∈cs,c.id=id→c.kind=0∨c.kind=1)→x.d.id=id→x.ap<num+i→ga2 num id i cs (some x) = .inr v1 →
  ∃ y,v1=some y∧y.d=x.d∧lk y.ps=Yv (ofI id cs) (lk x.ps)∧(Srt x.ps→Srt y.ps)∧((∃ c∈cs,c.id=id)→Srt x.ps)
 | [],i,x,v1,_,_,_,h=>by
  injection h with h
  subst h;exact ⟨x,rfl,rfl,rfl,fun h=>h,fun ⟨c,hc,_⟩=>by cases hc⟩
 |c::r,i,x,v1,hk,hi,ha,h=>by
  have hr:∀ c∈r,c.id=id→c.kind=0∨c.kind=1:=fun y hy=>hk y (List.mem_cons_of_mem _ hy)
  unfold ga2 at h;by_cases hc:c.id=id
  ·rw [if_pos hc] at h;cases e:El (num+i) c (some x) with
   |inl er=>rw [e] at h;cases h
   |inr v2=>
    rw [e] at h;obtain ⟨y,rfl,y1,y2,y3,y4,y5⟩:=stp_01 (hk c List.mem_cons_self hc) (by rw [hi,hc]) ha e;obtain ⟨z,z1,z2,z3,z4,_⟩:=ga2_01 r (i+1) y v1 hr (by rw [y1];exact hi) (by rw [y2];omega) h;refine ⟨z,z1,z2.trans y1,?_,fun _=>z4 y4,fun _=>y3⟩;rw [z3,y5];have:ofI id (c::r)=c::ofI id r:=by unfold ofI;rw [List.filter_cons,if_pos (by simpa using hc)]
    rw [this];rfl
  ·rw [if_neg hc] at h;obtain ⟨z,z1,z2,z3,z4,z5⟩:=ga2_01 r (i+1) x v1 hr hi (by omega) h;have:ofI id (c::r)=ofI id r:=by unfold ofI;rw [List.filter_cons,if_neg (by simpa using hc)]
   refine ⟨z,z1,z2,by rw [this];exact z3,z4,fun ⟨y,hy,hyi⟩=>?_⟩;rcases List.mem_cons.1 hy with rfl|hy
   ·exact absurd hyi hc
   ·exact z5 ⟨y,hy,hyi⟩
theorem Im {num id:Int} {cs:List Chg} {v v1:Option PC} (hk:∀ c∈cs,c.id=id→c.kind=0∨c.kind=1) (hi:IdL id v) (ha:ApL num v) (h:gaU num id cs v = .inr v1):
  (v=none∧v1=none)∨∃ x y,v=some x∧v1=some y∧y.d=x.d∧lk y.ps=Yv (ofI id cs) (lk x.ps)∧(Srt x.ps→Srt y.ps)∧((∃ c∈cs,c.id=id)→Srt x.ps):=by
 unfold gaU at h;rw [ga1_01 cs v hk] at h;simp only at h;cases v with
 |none=>
  rw [ga2_none] at h;injection h with h
  exact .inl ⟨rfl,h.symm⟩
 |some x=>
  obtain ⟨y,h1,h2,h3,h4,h5⟩:=ga2_01 cs 0 x v1 hk (hi x rfl) (by have:=ha x rfl;omega) h;exact .inr ⟨x,y,rfl,h1,h2,h3,h4,h5⟩
theorem swap_id {id n:Int} {xs ys:List Chg} (hm:∀ x∈xs,∀ y∈ys,x.id=id→y.id=id→(x.kind=0∨x.kind=1)∧(y.kind=0∨y.kind=1)∧x.key≠y.key) {v va vab w wb wba:Option PC}
  (h:RV v w) (ha:ApL n v) (hb:ApL n w) (hi:IdL id v) (hj:IdL id w) (h1:gaU n id xs v = .inr va) (h2:gaU (n+xs.length) id ys va = .inr vab) (h3:gaU n id ys w = .inr wb) (h4:gaU (n+ys.length) id xs wb = .inr wba):
  RV vab wba∧ApL (n+xs.length+ys.length) vab∧ApL (n+ys.length+xs.length) wba∧IdL id vab∧IdL id wba:=by
 obtain ⟨_,a1,_,a2,_⟩:=Gj (RV.refl v) ha ha hi hi h1 h1;obtain ⟨_,a3,_,a4,_⟩:=Gj (RV.refl va) a1 a1 a2 a2 h2 h2;obtain ⟨_,b1,_,b2,_⟩:=Gj (RV.refl w) hb hb hj hj h3 h3;obtain ⟨_,b3,_,b4,_⟩:=Gj (RV.refl wb) b1 b1 b2 b2 h4 h4;refine ⟨?_,a3,b3,a4,b4⟩;by_cases hA:∃ c∈xs,c.id=id
 ·by_cases hB:∃ c∈ys,c.id=id
  ·obtain ⟨p,hp,hpi⟩:=hA;obtain ⟨q,hq,hqi⟩:=hB;have ka:∀ c∈xs,c.id=id→c.kind=0∨c.kind=1:=fun c hc hci=>(hm c hc q hq hci hqi).1
   have kb:∀ c∈ys,c.id=id→c.kind=0∨c.kind=1:=fun c hc hci=>(hm p hp c hc hpi hci).2.1
   rcases Im ka hi ha h1 with ⟨rfl,rfl⟩|⟨x,y,rfl,rfl,e1,e2,e3,e4⟩
   ·obtain rfl:=h.none;rcases Im kb a2 a1 h2 with ⟨_,rfl⟩|⟨x,y,hx,_⟩
    ·rcases Im kb hj hb h3 with ⟨_,rfl⟩|⟨x,y,hx,_⟩
     ·rcases Im ka b2 b1 h4 with ⟨_,rfl⟩|⟨x,y,hx,_⟩
      ·rfl
      ·cases hx
     ·cases hx
    ·cases hx
   ·obtain ⟨x',rfl,f1,f2⟩:=h.some;rcases Im kb a2 a1 h2 with ⟨hx,_⟩|⟨y1,z,hy1,rfl,e5,e6,e7,_⟩
    ·cases hx
    ·injection hy1 with hy1
     subst hy1;rcases Im kb hj hb h3 with ⟨hx,_⟩|⟨x1,y',jF,rfl,g1,g2,g3,_⟩
     ·cases hx
     ·injection jF with jF
      subst jF;rcases Im ka b2 b1 h4 with ⟨hx,_⟩|⟨y2,z',hy2,rfl,g5,g6,g7,_⟩
      ·cases hx
      ·injection hy2 with hy2
       subst hy2;have hs:=e4 ⟨p,hp,hpi⟩;have hs':Srt x'.ps:=by rw [f2];exact hs
       refine RV.mk (by rw [g5,g1,f1,e5,e1]) (srt_ext (g7 (g3 hs')) (e7 (e3 hs)) fun k=>?_);rw [g6,g2,e6,e2,f2,foldU_comm (ofI id ys) (ofI id xs) _ fun a ha2 b aF=>?_];obtain ⟨m1,m2⟩:=mem_ofI.1 ha2;obtain ⟨m3,m4⟩:=mem_ofI.1 aF;exact (hm a m1 b m3 m2 m4).2.2
  ·have nb:∀ c∈ys,c.id≠id:=fun c hc e=>hB ⟨c,hc,e⟩
   rw [gaU_no nb] at h2 h3;injection h2 with h2
   injection h3 with h3
   subst h2 h3;exact (Gj h ha b1 hi b2 h1 h4).1
 ·have na:∀ c∈xs,c.id≠id:=fun c hc e=>hA ⟨c,hc,e⟩
  rw [gaU_no na] at h1 h4;injection h1 with h1
  injection h4 with h4
  subst h1 h4;exact (Gj h a1 hb a2 hj h2 h3).1
def psV (v:Option PC):List Pr:=match v with|some x=>x.ps|none=>[]
def SrV (v:Option PC):Prop:=∀ x,v=some x→Srt x.ps
theorem psV_srt {v:Option PC} (h:SrV v):Srt (psV v):=by
 cases v with
 |none=>exact List.Pairwise.nil
 |some x=>exact h x rfl
theorem psOf_V (s:List PC) (id:Int):Zj s id=psV (V4 s id):=rfl
theorem rng_empty {R:Rg} (h1:R.en=false) (h2:U8 R.hi R.lo=true) (k:Bz):inB R k=false:=by
 obtain ⟨lo,hi,en⟩:=R;simp only at h1 h2;subst h1;unfold inB;simp only [Bool.not_false,Bool.true_and];cases ha:U8 k lo with
 |true=>rfl
 |false=>
  cases hb:U8 hi k with
  |true=>rfl
  |false=>
   have h3:U8 hi lo=false:=by
    cases hc:U8 hi lo with
    |false=>rfl
    |true=>
     rcases Y0 ha with e|e
     ·subst e;rw [hc] at hb;cases hb
     ·have:=Zc hc e;rw [this] at hb;cases hb
   rw [h3] at h2;cases h2
theorem read_id {n:Int} {cs:List Chg} {r:Rdd} {v v1:Option PC} (hm:∀ c∈cs,c.id=r.id→V0 (chT c).r (rng r)=false∨V0 (rng r) (chT c).r=false) (hs:SrV v) (hs1:SrV v1) (hi:IdL r.id v) (ha:ApL n v) (h:gaU n r.id cs v = .inr v1):
  Vy (psV v) r=Vy (psV v1) r:=by
 by_cases hA:∃ c∈cs,c.id=r.id
 ·refine exp_same (psV_srt hs) (psV_srt hs1) fun k hk=>?_
  have kc:∀ c∈cs,c.id=r.id→(c.kind=0∨c.kind=1)∧c.key≠k:=fun c hc hci=>by
   have h1:=hm c hc hci;rw [chT_r] at h1;by_cases hk01:c.kind=0∨c.kind=1
   ·rw [if_pos hk01] at h1;have h2:=K5 h1;refine ⟨hk01,fun e=>?_⟩;rw [e,hk] at h2;cases h2
   ·rw [if_neg hk01] at h1;have h2:=from_meet h1;rw [rng_empty h2.1 h2.2] at hk;cases hk
  rcases Im (fun c hc hci=>(kc c hc hci).1) hi ha h with ⟨rfl,rfl⟩|⟨x,y,rfl,rfl,e1,e2,e3,e4⟩
  ·rfl
  ·show lk x.ps k=lk y.ps k;rw [e2,foldU_far _ _ k fun c hc=>?_];obtain ⟨m1,m2⟩:=mem_ofI.1 hc;exact (kc c m1 m2).2
 ·rw [gaU_no fun c hc e=>hA ⟨c,hc,e⟩] at h;injection h with h
  rw [h]
end Go.Proofs.YtoakknkmjnebjaaGreatDoor
