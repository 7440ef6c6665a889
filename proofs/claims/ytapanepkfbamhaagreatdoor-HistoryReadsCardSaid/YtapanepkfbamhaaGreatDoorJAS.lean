/- Part of the proof of HistoryReads. -/
import Derived.Test.YtapanepkfbamhaaGreatDoorJAR
namespace Go.Proofs.YtapanepkfbamhaaGreatDoor
open Tryz (prog)
set_option maxRecDepth 100000
set_option maxHeartbeats 2000000
open Go.RowKit
theorem infoU8:(prog.info? 5).map (fun i=>(i.zero,i.size,i.bytes))=some (some (.int .u8 0),1,1):=by kernel_rfl
theorem made_u8 (n i:Nat) (h:i<n):(madeCells #[.int .u8 0] n)[i]? =some (.int .u8 0):=by
 unfold madeCells;rw [Array.getElem?_map,Array.getElem?_range];simp [h];rw [Nat.mod_one];rfl
theorem fill_any (s:ByteArray) (w:World) (hs:s.size≤128):Calls prog 183 #[.string s] w fun e w' => ∃ t:ByteArray,e = .returned (.string t)∧t.size=128∧Below w.heap.size w w':=by
 obtain ⟨i0,hi0,hz0,hz1,hz2⟩:=info_parts infoU8;obtain ⟨n,hn⟩:∃ n:Nat,(128:Int)-(s.size:Int)=n:=⟨128-s.size,by omega⟩
 have hmk:=run_make (P:=prog) (w:=w) 175 5 i0 _ Tryz.underlying175 hi0 hz0 .i64 .i64 (n:Int) (n:Int) (by omega) (Int.le_refl _) (by rw [hz2];omega) (by omega);rw [hz1] at hmk;simp only [Int.toNat_natCast,Nat.mul_one] at hmk;have hb:Blk (w.alloc (.cells (madeCells #[.int .u8 0] n) 5)) w.heap.size 5 (madeCells #[.int .u8 0] n):=Blk.new w _ _
 have hcv:(convert 175 9 (.slice (some ⟨w.heap.size,0,none⟩) n n)).run prog (w.alloc (.cells (madeCells #[.int .u8 0] n) 5)) = .ok (.string (strOfNums (List.replicate n 0))) (w.alloc (.cells (madeCells #[.int .u8 0] n) 5)):=
  run_convert_bytes_arg _ 175 5 (by kernel_rfl) (by kernel_rfl) w.heap.size 0 n n (List.replicate n 0) (by simp) (fun i hi=>by
   rw [Nat.zero_add,hb.cell i,made_u8 n i hi,List.getD_eq_getElem?_getD,List.getElem?_replicate];simp [hi]) 9 (by kernel_rfl)
 have hz:(strOfNums (List.replicate n 0)).size=n:=by rw [strOfNums_size];simp
 have HZ:=Hd hz;have HN:=Hd hn;have hsz:¬ (9223372036854775807<s.size+(strOfNums (List.replicate n 0)).size):=by rw [hz];omega
 have hmk2:(Instr.makeSlice 175 (.int .i64 (128-(s.size:Int))) (.int .i64 (128-(s.size:Int)))).run prog w = .ok (.slice (some ⟨w.heap.size,0,none⟩) n n) (w.alloc (.cells (madeCells #[.int .u8 0] n) 5)):=by rw [hn];exact hmk
 generalize strOfNums (List.replicate n 0)=z at hcv HZ hsz;clear hz hn hb hmk;go_enter Tryz.func183,Tryz.ntmps183;go_wp2;go_ret;exact ⟨_,rfl,by rw [ByteArray.size_append,HZ.out];have:=HN.out;omega,(Bf _ _).alloc (Le _) _⟩
def ctC (ap:Int) (rA:Option Addr) (rn rc:Nat) (A:Option Addr) (n c:Nat) (st:ByteArray):List Value:=[.int .i64 ap,.slice rA rn rc,.slice A n c,.string st]
def swC (n:Int) (s:ByteArray):List Value:=[.int .i64 n,.string s]
theorem results_sw (W:World) (b:Nat) (cs:Array Value) (h:Blk W b 222 cs) (hs:cs.size=2):(loadVar 222 ⟨b,0,none⟩).run prog W = .ok (.agg cs) W:=
 run_loadVar_row W b 222 222 cs (0,0) _ h Tryz.underlying222 rfl (by rw [hs];kernel_rfl)
theorem results_ct (W:World) (b:Nat) (cs:Array Value) (h:Blk W b 219 cs) (hs:cs.size=4):(loadVar 219 ⟨b,0,none⟩).run prog W = .ok (.agg cs) W:=
 run_loadVar_row W b 219 219 cs (0,0) _ h Tryz.underlying219 rfl (by rw [hs];kernel_rfl)
def HdG (w:World) (e:Ending) (w':World):Prop:=∃ n t,e = .returned (.agg (swC n t).toArray)∧Below w.heap.size w w'
structure HdK (w:World) (ap:Int) (rn:Nat) (st:ByteArray) (X:World):Prop where
 be:Below w.heap.size w X
 k:Blk X (w.heap.size+2) 3 #[.int .i64 ap,.int .i64 rn,.int .i64 st.size]
 z:Blk X (w.heap.size+1) 222 #[.int .i64 0,.string ⟨#[]⟩]
 zz:w.heap.size+3≤X.heap.size
theorem G5 {w X X':World} {ap:Int} {rn:Nat} {st:ByteArray} (h:HdK w ap rn st X) (hb:Below X.heap.size X X'):HdK w ap rn st X':=
 have hz:=h.zz
 ⟨U0 h.be hb h.be.size,h.k.below hb (by omega),h.z.below hb (by omega),Lx hz hb.size⟩
theorem head_any (ap:Int) (rA:Option Addr) (rn rc:Nat) (A:Option Addr) (n c:Nat) (st:ByteArray) (w:World) (h0:0≤ap) (h1:ap≤1099511627776) (hr:rn≤1000) (hst:st.size≤3000000):
  Calls prog 142 #[.agg (ctC ap rA rn rc A n c st).toArray] w (HdG w):=by
 have c0:∀ o,((w.alloc (.cells (ctC ap rA rn rc A n c st).toArray 219)).alloc o).cell? ⟨w.heap.size,0,none⟩=some (.int .i64 ap):=fun o=>(((Blk.new w _ _).alloc o).cell 0).trans rfl
 have c1:∀ o,((w.alloc (.cells (ctC ap rA rn rc A n c st).toArray 219)).alloc o).cell? ⟨w.heap.size,1,none⟩=some (.slice rA rn rc):=fun o=>(((Blk.new w _ _).alloc o).cell 1).trans rfl
 have c3:∀ o,((w.alloc (.cells (ctC ap rA rn rc A n c st).toArray 219)).alloc o).cell? ⟨w.heap.size,3,none⟩=some (.string st):=fun o=>(((Blk.new w _ _).alloc o).cell 3).trans rfl
 have HX:Hid (∀ o,Below w.heap.size w ((w.alloc (.cells (ctC ap rA rn rc A n c st).toArray 219)).alloc o)):=Hd fun o=>((Bf _ _).alloc (Le _) _).alloc (by simp) _
 have HZ:Hid (Blk ((w.alloc (.cells (ctC ap rA rn rc A n c st).toArray 219)).alloc (.cells #[.int .i64 0,.string ⟨#[]⟩] 222)) (w.heap.size+1) 222 #[.int .i64 0,.string ⟨#[]⟩]):=Hd (U3 (w.alloc _) _ _ _ (by simp));go_enter Tryz.func142,Tryz.ntmps142;go_wp2;have HK:Hid (Blk (((w.alloc (.cells (ctC ap rA rn rc A n c st).toArray 219)).alloc (.cells #[.int .i64 0,.string ⟨#[]⟩] 222)).alloc (.cells #[.int .i64 ap,.int .i64 rn,.int .i64 st.size] 3)) (w.heap.size+2) 3 #[.int .i64 ap,.int .i64 rn,.int .i64 st.size]):=Hd (U3 ((w.alloc _).alloc _) _ _ _ (by simp));have HZ2:=Hd (HZ.out.alloc (.cells #[.int .i64 ap,.int .i64 rn,.int .i64 st.size] 3))
 have HX2:Hid (Below w.heap.size w (((w.alloc (.cells (ctC ap rA rn rc A n c st).toArray 219)).alloc (.cells #[.int .i64 0,.string ⟨#[]⟩] 222)).alloc (.cells #[.int .i64 ap,.int .i64 rn,.int .i64 st.size] 3))):=Hd ((HX.out _).alloc (by simp;omega) _);have HXS:Hid (w.heap.size+3≤(((w.alloc (.cells (ctC ap rA rn rc A n c st).toArray 219)).alloc (.cells #[.int .i64 0,.string ⟨#[]⟩] 222)).alloc (.cells #[.int .i64 ap,.int .i64 rn,.int .i64 st.size] 3)).heap.size):=Hd (by simp);generalize ((w.alloc (.cells (ctC ap rA rn rc A n c st).toArray 219)).alloc (.cells #[.int .i64 0,.string ⟨#[]⟩] 222)).alloc (.cells #[.int .i64 ap,.int .i64 rn,.int .i64 st.size] 3)=X at HK HZ2 HX2 HXS ⊢;clear c0 c1 c3 HZ HX;have HE1:=Hd (V1 ap);have HE2:=Hd (V1 (rn:Int));have HE3:=Hd (V1 (st.size:Int));have HD:Hid (HdK w ap rn st X):=Hd ⟨HX2.out,HK.out,HZ2.out,HXS.out⟩;clear HK HZ2 HX2 HXS
 have e0:X.cell? ⟨w.heap.size+2,0,none⟩=some (.int .i64 ap):=(HD.out.k.cell 0).trans rfl;refine Lu 4 ?_;rw [Rs];go_wp2_with (go_at_call 182;refine (Z7 ⟨#[]⟩ ap X (by decide) h0 (by omega)).mono ?_;rintro e w4 ⟨rfl,hb⟩;have HD4:=Hd (G5 HD.out hb);clear hb e0);have e1:w4.cell? ⟨w.heap.size+2,1,none⟩=some (.int .i64 rn):=(HD4.out.k.cell 1).trans rfl;rw [nil_app];rw [Rs];go_wp2_with (go_at_call 182;refine (Z7 (Yk ap) rn w4 (by have:=HE1.out;omega) (by omega) (by omega)).mono ?_;rintro e w5 ⟨rfl,hb⟩;have HD5:=Hd (G5 HD4.out hb);clear hb e1);have e2:w5.cell? ⟨w.heap.size+2,2,none⟩=some (.int .i64 st.size):=(HD5.out.k.cell 2).trans rfl;rw [Rs]
 go_wp2_with (go_at_call 182;refine (Z7 (Yk ap++Yk (rn:Int)) st.size w5 (by have:=HE1.out;have:=HE2.out;rw [ByteArray.size_append];omega) (by omega) (by omega)).mono ?_;rintro e w6 ⟨rfl,hb⟩;have HD6:=Hd (G5 HD5.out hb);clear hb e2);rw [Rs];go_wp2_with (first|(go_at_call 183;refine (fill_any _ w6 (by have:=HE1.out;have:=HE2.out;have:=HE3.out;rw [ByteArray.size_append,ByteArray.size_append];omega)).mono ?_;rintro e w7 ⟨t,rfl,_,hb⟩;have HD7:=Hd (G5 HD6.out hb);clear hb)|((with_reducible refine Gt 222 2 ?_);refine Lt rfl 222 _ _ rfl (w.heap.size+1) #[.int .i64 0,.string t] rfl rfl 222 #[.int .i64 0,.string ⟨#[]⟩] HD7.out.z (by kernel_rfl) rfl (by simp [Value.oneCell']) ?_));have hrr:=results_sw (w7.setRow (w.heap.size+1) #[.int .i64 0,.string t]) (w.heap.size+1) #[.int .i64 0,.string t] (setRow_heap _ _ _ _ _ _ HD7.out.z) rfl
 exact Br (v:=.agg #[.int .i64 0,.string t]) (Vi Tryz.results142 rfl hrr) rfl ⟨0,t,rfl,U6 HD7.out.be (by omega) _⟩
def strLen:Value→Nat
 |.string s=>s.size
 |_=>0
def ScG (w:World) (e:Ending) (w':World):Prop:=∃ A n c L,e = .returned (.slice A n c)∧Sl Ug 1 w' w'.heap.size A n c L∧n≤3000000∧(∀ b,A=some b→w.heap.size≤b.block)∧Below w.heap.size w w'
theorem sectors_any (ap:Int) (rA:Option Addr) (rn rc:Nat) (A:Option Addr) (n c:Nat) (st:ByteArray) (w:World) (hst:st.size≤3000000):
  Calls prog 143 #[.agg (ctC ap rA rn rc A n c st).toArray] w (ScG w):=by
 obtain ⟨i0,hi0,hz0,hz1,hz2⟩:=info_parts Z3;have c3:(w.alloc (.cells (ctC ap rA rn rc A n c st).toArray 219)).cell? ⟨w.heap.size,3,none⟩=some (.string st):=((Blk.new w _ _).cell 3).trans rfl;have HX:=Hd ((Bf w.heap.size w).alloc (Le _) (.cells (ctC ap rA rn rc A n c st).toArray 219));have HST:=Hd hst;clear hst;go_enter Tryz.func143,Tryz.ntmps143;go_wp2;go_loopw [3,4] (fun v3 v4 wr => ∃ (s1:ByteArray) (L:List ByteArray),v4 = .string s1∧wr.ownsRow w.heap.size 9 1 v3 L.length (Ua Ug L)∧L.length+s1.size≤st.size∧Below w.heap.size w wr) (fun _ v4 _=>strLen v4)
 case atStart=>exact ⟨st,[],rfl,⟨rfl,.inl ⟨rfl,rfl⟩⟩,by simp,HX.out⟩
 case round=>
  obtain ⟨s1,L,rfl,hown,hle,hbe⟩:=hrel;obtain ⟨wx,rfl⟩:∃ z:World,z=wr:=⟨_,rfl⟩
  obtain ⟨A1,c1,rfl,hnc,hcm⟩:=Ub hown;have HO:=Hd hown;have HBE:=Hd hbe;have HLE:=Hd hle;clear hown hbe hle c3;by_cases h0:s1.size=0
  ·obtain rfl:=ba_empty h0
   go_wp2;go_ret;exact ⟨A1,L.length,c1,L,rfl,Sl.of_own (f:=Ug) (fun _=>rfl) (by decide) HO.out,by have:=HLE.out;have:=HST.out;omega,fun b hb=>by subst hb;exact (HO.out.lt _ rfl).1,HBE.out⟩
  ·obtain ⟨q1,q2⟩:=Im h0
   have HP:=Hd (Nat.pos_of_ne_zero h0);have hbnd:s1.size≤3000000:=by have:=HLE.out;have:=HST.out;omega
   clear h0;rcases (by omega:s1.size≤128∨128<s1.size) with h1|h1
   ·have m1:(s1.size:Int)≤128:=by omega
    have e1:s1.extract 0 s1.size=s1:=I8 s1
    go_wp2_with (first|(go_at_call 183;refine (fill_any (s1) wx (by omega)).mono ?_;rintro e w4 ⟨t,rfl,_,hb⟩;have HB4:=Hd hb;have HRD:=Hd (Va w4 [.string t] 9 1 1 rfl);clear hb)|(at_builtin;go_must (refine U4 _ rfl _ _ 150 rfl w.heap.size 9 i0 _ 1 16 Tryz.underlying150 hi0 hz0 hz1 hz2 rfl (by decide) (.slice A1 L.length c1) L.length (Ua Ug L) rfl ((Ui HO.out HB4.out).alloc _) (w4.heap.size+1) (some ⟨w4.heap.size,0,none⟩) 1 1 [.string t] rfl HRD.out (Vc t) (by have:=HLE.out;have:=HST.out;unfold maxLen;omega) (by have:=HLE.out;have:=HST.out;omega) (by have:=HB4.out.size;have:=HBE.out.size;simp;omega) ?_;intro v' w5 hown hgr _;have HOWN:=Hd hown;have HGR:=Hd (((U0 HBE.out HB4.out HBE.out.size).alloc (Lx HBE.out.size HB4.out.size) _).grown hgr (by have:=HB4.out.size;have:=HBE.out.size;simp;omega) (Vv HO.out (Le _)));clear hown hgr)))
    go_roundw
    case rel=>exact ⟨_,L++[t],rfl,by rw [List.length_append,Uy,Uv];exact HOWN.out,by have:=HLE.out;have:=HP.out;simp;try omega,HGR.out⟩
    case measure=>simp [strLen];have:=HP.out;try omega
   ·have m1:¬ ((s1.size:Int)≤128):=by omega
    have m2:¬ ((s1.size:Int)<128):=by omega
    have m3:(128:Int)<(s1.size:Int):=by omega
    go_wp2_with (first|(go_at_call 183;refine (fill_any (s1.extract 0 128) wx (by simp;omega)).mono ?_;rintro e w4 ⟨t,rfl,_,hb⟩;have HB4:=Hd hb;have HRD:=Hd (Va w4 [.string t] 9 1 1 rfl);clear hb)|(at_builtin;go_must (refine U4 _ rfl _ _ 150 rfl w.heap.size 9 i0 _ 1 16 Tryz.underlying150 hi0 hz0 hz1 hz2 rfl (by decide) (.slice A1 L.length c1) L.length (Ua Ug L) rfl ((Ui HO.out HB4.out).alloc _) (w4.heap.size+1) (some ⟨w4.heap.size,0,none⟩) 1 1 [.string t] rfl HRD.out (Vc t) (by have:=HLE.out;have:=HST.out;unfold maxLen;omega) (by have:=HLE.out;have:=HST.out;omega) (by have:=HB4.out.size;have:=HBE.out.size;simp;omega) ?_;intro v' w5 hown hgr _;have HOWN:=Hd hown;have HGR:=Hd (((U0 HBE.out HB4.out HBE.out.size).alloc (Lx HBE.out.size HB4.out.size) _).grown hgr (by have:=HB4.out.size;have:=HBE.out.size;simp;omega) (Vv HO.out (Le _)));clear hown hgr)))
    go_roundw
    case rel=>exact ⟨_,L++[t],rfl,by rw [List.length_append,Uy,Uv];exact HOWN.out,by have:=HLE.out;have:=HP.out;simp;try omega,HGR.out⟩
    case measure=>simp [strLen];have:=HP.out;try omega
end Go.Proofs.YtapanepkfbamhaaGreatDoor
