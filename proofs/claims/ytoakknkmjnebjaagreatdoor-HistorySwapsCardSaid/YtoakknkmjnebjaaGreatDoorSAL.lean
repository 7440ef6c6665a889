/- Of HistorySwaps. -/
import Derived.Test.YtoakknkmjnebjaaGreatDoorSAK
namespace Go.Proofs.YtoakknkmjnebjaaGreatDoor
open Tryz (prog)
set_option maxRecDepth 100000
set_option maxHeartbeats 4000000
open Go.RowKit
theorem infoU8:(prog.info? 5).map (fun i=>(i.zero,i.size,i.bytes))=some (some (.int .u8 0),1,1):=by kernel_rfl
theorem made_u8 (n i:Nat) (h:i<n):(madeCells #[.int .u8 0] n)[i]? =some (.int .u8 0):=by
 unfold madeCells;rw [Array.getElem?_map,Array.getElem?_range];simp [h];rw [Nat.mod_one];rfl
theorem fill_any (s:Bz) (w:Wd) (hs:s.size≤128):Calls prog 183 #[.string s] w fun e w' => ∃ t:Bz,e = .returned (.string t)∧t.size=128∧Below w.heap.size w w':=by
 obtain ⟨i0,aU,aW,aK,aR⟩:=info_parts infoU8;obtain ⟨n,hn⟩:∃ n:Nat,(128:Int)-(s.size:Int)=n:=⟨128-s.size,by omega⟩
 have iU:=run_make (P:=prog) (w:=w) 175 5 i0 _ Tryz.underlying175 aU aW .i64 .i64 (n:Int) (n:Int) (by omega) (Int.le_refl _) (by rw [aR];omega) (by omega);rw [aK] at iU;simp only [Int.toNat_natCast,Nat.mul_one] at iU;have hb:Blk (w.alloc (.cells (madeCells #[.int .u8 0] n) 5)) w.heap.size 5 (madeCells #[.int .u8 0] n):=Blk.new w _ _
 have dU:(convert 175 9 (.slice (some ⟨w.heap.size,0,none⟩) n n)).run prog (w.alloc (.cells (madeCells #[.int .u8 0] n) 5)) = .ok (.string (strOfNums (List.replicate n 0))) (w.alloc (.cells (madeCells #[.int .u8 0] n) 5)):=
  run_convert_bytes_arg _ 175 5 (by kernel_rfl) (by kernel_rfl) w.heap.size 0 n n (List.replicate n 0) (by simp) (fun i hi=>by
   rw [Nat.zero_add,hb.cell i,made_u8 n i hi,List.getD_eq_getElem?_getD,List.getElem?_replicate];simp [hi]) 9 (by kernel_rfl)
 have hz:(strOfNums (List.replicate n 0)).size=n:=by rw [strOfNums_size];simp
 have HZ:=Hd hz;have HN:=Hd hn;have aN:¬ (9223372036854775807<s.size+(strOfNums (List.replicate n 0)).size):=by rw [hz];omega
 have hmk2:(Instr.makeSlice 175 (.int .i64 (128-(s.size:Int))) (.int .i64 (128-(s.size:Int)))).run prog w = .ok (.slice (some ⟨w.heap.size,0,none⟩) n n) (w.alloc (.cells (madeCells #[.int .u8 0] n) 5)):=by rw [hn];exact iU
 generalize strOfNums (List.replicate n 0)=z at dU HZ aN;clear hz hn hb iU;go_enter Tryz.func183,Tryz.ntmps183;go_wp2;go_ret;exact ⟨_,rfl,by rw [ByteArray.size_append,HZ.out];have:=HN.out;omega,(Bf _ _).alloc (Le _) _⟩
def ctC (ap:Int) (rA:Option Addr) (rn rc:Nat) (A:Option Addr) (n c:Nat) (st:Bz):List Value:=[.int .i64 ap,.slice rA rn rc,.slice A n c,.string st]
def swC (n:Int) (s:Bz):List Value:=[.int .i64 n,.string s]
theorem results_sw (W:Wd) (b:Nat) (cs:Array Value) (h:Blk W b 222 cs) (hs:cs.size=2):(loadVar 222 ⟨b,0,none⟩).run prog W = .ok (.agg cs) W:=
 run_loadVar_row W b 222 222 cs (0,0) _ h Tryz.underlying222 rfl (by rw [hs];kernel_rfl)
theorem results_ct (W:Wd) (b:Nat) (cs:Array Value) (h:Blk W b 219 cs) (hs:cs.size=4):(loadVar 219 ⟨b,0,none⟩).run prog W = .ok (.agg cs) W:=
 run_loadVar_row W b 219 219 cs (0,0) _ h Tryz.underlying219 rfl (by rw [hs];kernel_rfl)
def HdG (w:Wd) (e:Ending) (w':Wd):Prop:=∃ n t,e = .returned (.agg (swC n t).toArray)∧Below w.heap.size w w'
structure HdK (w:Wd) (ap:Int) (rn:Nat) (st:Bz) (X:Wd):Prop where
 be:Below w.heap.size w X
 k:Blk X (w.heap.size+2) 3 #[.int .i64 ap,.int .i64 rn,.int .i64 st.size]
 z:Blk X (w.heap.size+1) 222 #[.int .i64 0,.string ⟨#[]⟩]
 zz:w.heap.size+3≤X.heap.size
theorem Hi {w X X':Wd} {ap:Int} {rn:Nat} {st:Bz} (h:HdK w ap rn st X) (hb:Below X.heap.size X X'):HdK w ap rn st X':=
 have hz:=h.zz
 ⟨U0 h.be hb h.be.size,h.k.below hb (by omega),h.z.below hb (by omega),Lx hz hb.size⟩
theorem head_any (ap:Int) (rA:Option Addr) (rn rc:Nat) (A:Option Addr) (n c:Nat) (st:Bz) (w:Wd) (h0:0≤ap) (h1:ap≤1099511627776) (hr:rn≤1000) (hst:st.size≤3000000):
  Calls prog 142 #[.agg (ctC ap rA rn rc A n c st).toArray] w (HdG w):=by
 have c0:∀ o,((w.alloc (.cells (ctC ap rA rn rc A n c st).toArray 219)).alloc o).cell? ⟨w.heap.size,0,none⟩=some (.int .i64 ap):=fun o=>(((Blk.new w _ _).alloc o).cell 0).trans rfl
 have c1:∀ o,((w.alloc (.cells (ctC ap rA rn rc A n c st).toArray 219)).alloc o).cell? ⟨w.heap.size,1,none⟩=some (.slice rA rn rc):=fun o=>(((Blk.new w _ _).alloc o).cell 1).trans rfl
 have c3:∀ o,((w.alloc (.cells (ctC ap rA rn rc A n c st).toArray 219)).alloc o).cell? ⟨w.heap.size,3,none⟩=some (.string st):=fun o=>(((Blk.new w _ _).alloc o).cell 3).trans rfl
 have HX:Hid (∀ o,Below w.heap.size w ((w.alloc (.cells (ctC ap rA rn rc A n c st).toArray 219)).alloc o)):=Hd fun o=>((Bf _ _).alloc (Le _) _).alloc (by simp) _
 have HZ:Hid (Blk ((w.alloc (.cells (ctC ap rA rn rc A n c st).toArray 219)).alloc (.cells #[.int .i64 0,.string ⟨#[]⟩] 222)) (w.heap.size+1) 222 #[.int .i64 0,.string ⟨#[]⟩]):=Hd (U3 (w.alloc _) _ _ _ (by simp));go_enter Tryz.func142,Tryz.ntmps142;go_wp2;have HK:Hid (Blk (((w.alloc (.cells (ctC ap rA rn rc A n c st).toArray 219)).alloc (.cells #[.int .i64 0,.string ⟨#[]⟩] 222)).alloc (.cells #[.int .i64 ap,.int .i64 rn,.int .i64 st.size] 3)) (w.heap.size+2) 3 #[.int .i64 ap,.int .i64 rn,.int .i64 st.size]):=Hd (U3 ((w.alloc _).alloc _) _ _ _ (by simp));have gB:=Hd (HZ.out.alloc (.cells #[.int .i64 ap,.int .i64 rn,.int .i64 st.size] 3))
 have aM:Hid (Below w.heap.size w (((w.alloc (.cells (ctC ap rA rn rc A n c st).toArray 219)).alloc (.cells #[.int .i64 0,.string ⟨#[]⟩] 222)).alloc (.cells #[.int .i64 ap,.int .i64 rn,.int .i64 st.size] 3))):=Hd ((HX.out _).alloc (by simp;omega) _);have HXS:Hid (w.heap.size+3≤(((w.alloc (.cells (ctC ap rA rn rc A n c st).toArray 219)).alloc (.cells #[.int .i64 0,.string ⟨#[]⟩] 222)).alloc (.cells #[.int .i64 ap,.int .i64 rn,.int .i64 st.size] 3)).heap.size):=Hd (by simp);generalize ((w.alloc (.cells (ctC ap rA rn rc A n c st).toArray 219)).alloc (.cells #[.int .i64 0,.string ⟨#[]⟩] 222)).alloc (.cells #[.int .i64 ap,.int .i64 rn,.int .i64 st.size] 3)=X at HK gB aM HXS ⊢;clear c0 c1 c3 HZ HX;have HE1:=Hd (V9 ap);have fU:=Hd (V9 (rn:Int));have HE3:=Hd (V9 (st.size:Int));have HD:Hid (HdK w ap rn st X):=Hd ⟨aM.out,HK.out,gB.out,HXS.out⟩;clear HK gB aM HXS
 have e0:X.cell? ⟨w.heap.size+2,0,none⟩=some (.int .i64 ap):=(HD.out.k.cell 0).trans rfl;refine Lu 4 ?_;rw [Rs];go_wp2_with (go_at_call 182;refine (Zh ⟨#[]⟩ ap X (by decide) h0 (by omega)).mono ?_;rintro e w4 ⟨rfl,hb⟩;have HD4:=Hd (Hi HD.out hb);clear hb e0);have e1:w4.cell? ⟨w.heap.size+2,1,none⟩=some (.int .i64 rn):=(HD4.out.k.cell 1).trans rfl;rw [nil_app];rw [Rs];go_wp2_with (go_at_call 182;refine (Zh (Yo ap) rn w4 (by have:=HE1.out;omega) (by omega) (by omega)).mono ?_;rintro e w5 ⟨rfl,hb⟩;have HD5:=Hd (Hi HD4.out hb);clear hb e1);have e2:w5.cell? ⟨w.heap.size+2,2,none⟩=some (.int .i64 st.size):=(HD5.out.k.cell 2).trans rfl;rw [Rs]
 go_wp2_with (go_at_call 182;refine (Zh (Yo ap++Yo (rn:Int)) st.size w5 (by have:=HE1.out;have:=fU.out;rw [ByteArray.size_append];omega) (by omega) (by omega)).mono ?_;rintro e w6 ⟨rfl,hb⟩;have HD6:=Hd (Hi HD5.out hb);clear hb e2);rw [Rs];go_wp2_with (first|(go_at_call 183;refine (fill_any _ w6 (by have:=HE1.out;have:=fU.out;have:=HE3.out;rw [ByteArray.size_append,ByteArray.size_append];omega)).mono ?_;rintro e w7 ⟨t,rfl,_,hb⟩;have HD7:=Hd (Hi HD6.out hb);clear hb)|((with_reducible refine Gt 222 2 ?_);refine Lt rfl 222 _ _ rfl (w.heap.size+1) #[.int .i64 0,.string t] rfl rfl 222 #[.int .i64 0,.string ⟨#[]⟩] HD7.out.z (by kernel_rfl) rfl (by simp [Value.oneCell']) ?_));have cB:=results_sw (w7.setRow (w.heap.size+1) #[.int .i64 0,.string t]) (w.heap.size+1) #[.int .i64 0,.string t] (setRow_heap _ _ _ _ _ _ HD7.out.z) rfl
 exact Br (v:=.agg #[.int .i64 0,.string t]) (Vr Tryz.results142 rfl cB) rfl ⟨0,t,rfl,U6 HD7.out.be (by omega) _⟩
def strLen:Value→Nat
 |.string s=>s.size
 |_=>0
def ScG (w:Wd) (e:Ending) (w':Wd):Prop:=∃ A n c L,e = .returned (.slice A n c)∧Sl Ui 1 w' w'.heap.size A n c L∧n≤3000000∧(∀ b,A=some b→w.heap.size≤b.block)∧Below w.heap.size w w'
theorem sectors_any (ap:Int) (rA:Option Addr) (rn rc:Nat) (A:Option Addr) (n c:Nat) (st:Bz) (w:Wd) (hst:st.size≤3000000):
  Calls prog 143 #[.agg (ctC ap rA rn rc A n c st).toArray] w (ScG w):=by
 obtain ⟨i0,aU,aW,aK,aR⟩:=info_parts Ze;have c3:(w.alloc (.cells (ctC ap rA rn rc A n c st).toArray 219)).cell? ⟨w.heap.size,3,none⟩=some (.string st):=((Blk.new w _ _).cell 3).trans rfl;have HX:=Hd ((Bf w.heap.size w).alloc (Le _) (.cells (ctC ap rA rn rc A n c st).toArray 219));have cH:=Hd hst;clear hst;go_enter Tryz.func143,Tryz.ntmps143;go_wp2;go_loopw [3,4] (fun v3 v4 wr => ∃ (s1:Bz) (L:List Bz),v4 = .string s1∧wr.ownsRow w.heap.size 9 1 v3 L.length (Ub Ui L)∧L.length+s1.size≤st.size∧Below w.heap.size w wr) (fun _ v4 _=>strLen v4)
 case atStart=>exact ⟨st,[],rfl,⟨rfl,.inl ⟨rfl,rfl⟩⟩,by simp,HX.out⟩
 case round=>
  obtain ⟨s1,L,rfl,aD,bO,eG⟩:=hrel;obtain ⟨wx,rfl⟩:∃ z:Wd,z=wr:=⟨_,rfl⟩
  obtain ⟨A1,c1,rfl,i6,iR⟩:=Ue aD;have HO:=Hd aD;have bG:=Hd eG;have dM:=Hd bO;clear aD eG bO c3;by_cases h0:s1.size=0
  ·obtain rfl:=ba_empty h0;go_wp2;go_ret;exact ⟨A1,L.length,c1,L,rfl,Sl.of_own (f:=Ui) (fun _=>rfl) (by decide) HO.out,by have:=dM.out;have:=cH.out;omega,fun b hb=>by subst hb;exact (HO.out.lt _ rfl).1,bG.out⟩
  ·obtain ⟨q1,q2⟩:=Ja h0;have HP:=Hd (Nat.pos_of_ne_zero h0);have hbnd:s1.size≤3000000:=by have:=dM.out;have:=cH.out;omega
   clear h0;rcases (by omega:s1.size≤128∨128<s1.size) with h1|h1
   ·have m1:(s1.size:Int)≤128:=by omega
    have e1:s1.extract 0 s1.size=s1:=Is s1
    go_wp2_with (first|(go_at_call 183;refine (fill_any (s1) wx (by omega)).mono ?_;rintro e w4 ⟨t,rfl,_,hb⟩;have cD:=Hd hb;have cF:=Hd (Vw w4 [.string t] 9 1 1 rfl);clear hb)|(at_builtin;go_must (refine U5 _ rfl _ _ 150 rfl w.heap.size 9 i0 _ 1 16 Tryz.underlying150 aU aW aK aR rfl (by decide) (.slice A1 L.length c1) L.length (Ub Ui L) rfl ((Up HO.out cD.out).alloc _) (w4.heap.size+1) (some ⟨w4.heap.size,0,none⟩) 1 1 [.string t] rfl cF.out (Vl t) (by have:=dM.out;have:=cH.out;unfold maxLen;omega) (by have:=dM.out;have:=cH.out;omega) (by have:=cD.out.size;have:=bG.out.size;simp;omega) ?_;intro v' w5 aD aO _;have aS:=Hd aD;have bQ:=Hd (((U0 bG.out cD.out bG.out.size).alloc (Lx bG.out.size cD.out.size) _).grown aO (by have:=cD.out.size;have:=bG.out.size;simp;omega) (X6 HO.out (Le _)));clear aD aO)))
    go_roundw
    case rel=>exact ⟨_,L++[t],rfl,by rw [List.length_append,Vb,Va];exact aS.out,by have:=dM.out;have:=HP.out;simp;try omega,bQ.out⟩
    case measure=>simp [strLen];have:=HP.out;try omega
   ·have m1:¬ ((s1.size:Int)≤128):=by omega
    have m2:¬ ((s1.size:Int)<128):=by omega
    have m3:(128:Int)<(s1.size:Int):=by omega
    go_wp2_with (first|(go_at_call 183;refine (fill_any (s1.extract 0 128) wx (by simp;omega)).mono ?_;rintro e w4 ⟨t,rfl,_,hb⟩;have cD:=Hd hb;have cF:=Hd (Vw w4 [.string t] 9 1 1 rfl);clear hb)|(at_builtin;go_must (refine U5 _ rfl _ _ 150 rfl w.heap.size 9 i0 _ 1 16 Tryz.underlying150 aU aW aK aR rfl (by decide) (.slice A1 L.length c1) L.length (Ub Ui L) rfl ((Up HO.out cD.out).alloc _) (w4.heap.size+1) (some ⟨w4.heap.size,0,none⟩) 1 1 [.string t] rfl cF.out (Vl t) (by have:=dM.out;have:=cH.out;unfold maxLen;omega) (by have:=dM.out;have:=cH.out;omega) (by have:=cD.out.size;have:=bG.out.size;simp;omega) ?_;intro v' w5 aD aO _;have aS:=Hd aD;have bQ:=Hd (((U0 bG.out cD.out bG.out.size).alloc (Lx bG.out.size cD.out.size) _).grown aO (by have:=cD.out.size;have:=bG.out.size;simp;omega) (X6 HO.out (Le _)));clear aD aO)))
    go_roundw
    case rel=>exact ⟨_,L++[t],rfl,by rw [List.length_append,Vb,Va];exact aS.out,by have:=dM.out;have:=HP.out;simp;try omega,bQ.out⟩
    case measure=>simp [strLen];have:=HP.out;try omega
def recOk (d:DSet) (z:Int):Bool:=if d.fmt=0 then (z == d.len) else decide (z≤d.len)
theorem alw_exact (g g2:Nat) (l:Int) (s:Bz) (w:Wd) (hg:w.cell? ⟨g,0,none⟩=some (.func (.func 172) #[] #[])) (h2:w.cell? ⟨g2,3,none⟩=some (.int .i64 l)):
  Calls prog 181 #[.string s,.pointer (some ⟨g,0,none⟩),.pointer (some ⟨g2,0,none⟩)] w fun e w'=>e = .returned (.bool (!((s.size:Int) == l)))∧Below w.heap.size w w':=by
 have HC:=Hd (exact_any (s.size:Int) l w);generalize ((s.size:Int) == l)=z at HC;go_enter Tryz.func181,Tryz.ntmps181;go_wp2_with (go_at_call 172;refine HC.out.mono ?_;rintro e w2 ⟨rfl,rfl⟩);go_ret;exact ⟨rfl,Bf _ _⟩
theorem alw_most (g g2:Nat) (l:Int) (s:Bz) (w:Wd) (hg:w.cell? ⟨g,0,none⟩=some (.func (.func 176) #[] #[])) (h2:w.cell? ⟨g2,3,none⟩=some (.int .i64 l)):
  Calls prog 181 #[.string s,.pointer (some ⟨g,0,none⟩),.pointer (some ⟨g2,0,none⟩)] w fun e w'=>e = .returned (.bool (!(decide ((s.size:Int)≤l))))∧Below w.heap.size w w':=by
 have HC:=Hd (atMost_any (s.size:Int) l w);generalize decide ((s.size:Int)≤l)=z at HC;go_enter Tryz.func181,Tryz.ntmps181;go_wp2_with (go_at_call 176;refine HC.out.mono ?_;rintro e w2 ⟨rfl,rfl⟩);go_ret;exact ⟨rfl,Bf _ _⟩
theorem Xp {w:Wd} {g:Nat} {r:Bz} (hg:Blk w g 9 #[.string r]):Sl Ui 1 w w.heap.size (some ⟨g,0,none⟩) 1 1 [r]:=
 ⟨Le _,rfl,rfl,fun _=>⟨g,0,rfl,hg.lt,fun j u hu=>by
  rw [hg.cell,Nat.zero_add];have:Ub Ui [r] = [.string r]:=rfl;rw [this] at hu;simpa using hu⟩⟩
theorem sqAllowed_any (d:DSet) (g:Nat) (r:Bz) (w:Wd) (hg:Blk w g 9 #[.string r]):Calls prog 140 #[.agg (dC d).toArray,.slice (some ⟨g,0,none⟩) 1 1] w fun e w'=>e = .returned (.bool (recOk d r.size))∧Below w.heap.size w w':=by
 have HB:=Hd (Blk.new w 27 (dC d).toArray);have mE:=Hd (Y5 d (w.alloc (.cells (dC d).toArray 27)));have HX:=Hd ((Bf w.heap.size w).alloc (Le _) (.cells (dC d).toArray 27));have HG:=Hd hg;clear hg;unfold recOk;by_cases h0:d.fmt=0
 ·rw [if_pos h0]
  have HF:Hid (Calls prog 135 #[.agg (dC d).toArray] (w.alloc (.cells (dC d).toArray 27)) fun e w' => ∃ a b c,e = .returned (.agg #[.func (.func 168) #[] #[],.func (.func 169) #[] #[],.func a b c,.int .i64 0,.func (.func 172) #[] #[]])∧Below (w.alloc (.cells (dC d).toArray 27)).heap.size (w.alloc (.cells (dC d).toArray 27)) w'):=Hd (mE.out.mono fun e w' h=>by
   obtain ⟨a,b,c,k1,k2⟩:=h;refine ⟨a,b,c,?_,k2⟩;rw [k1];unfold fmC;rw [if_pos h0];try rfl)
  clear mE;have hfd:∀ a b c (W:Wd),(Instr.field 211 (.agg #[.func (.func 168) #[] #[],.func (.func 169) #[] #[],.func a b c,.int .i64 0,.func (.func 172) #[] #[]]) 4).run prog W = .ok (.func (.func 172) #[] #[]) W:=fun _ _ _ _=>by kernel_rfl
  obtain ⟨z,hz⟩:∃ z,((r.size:Int) == d.len)=z:=⟨_,rfl⟩
  rw [hz];have HZ:=Hd hz;clear hz;go_enter Tryz.func140,Tryz.ntmps140
  go_wp2_with (first|((with_reducible refine Gl 27 2 ?_);refine Lq 27 w.heap.size (dC d).toArray HB.out Tryz.underlying27 ?_)|(go_at_call 135;go_loud (refine HF.out.mono ?_;rintro e w2 ⟨a,b,c,rfl,hb⟩;have aL:=Hd (HX.out.trans (hb.mono (by simp)));have gU:=Hd (show Calls prog 180 #[.slice (some ⟨g,0,none⟩) 1 1,.func (.func 181) #[] #[.pointer (some ⟨w2.heap.size,0,none⟩),.pointer (some ⟨w.heap.size,0,none⟩)]] (w2.alloc (.cells #[.func (.func 172) #[] #[]] 167)) fun e w'=>e = .returned (.bool (!z))∧Below (w2.alloc (.cells #[.func (.func 172) #[] #[]] 167)).heap.size (w2.alloc (.cells #[.func (.func 172) #[] #[]] 167)) w' from by have h:=Fi w2.heap.size w.heap.size (fun s => !((s.size:Int) == d.len)) _ 1 1 [r] _ (Xp ((HG.out.below aL.out HG.out.lt).alloc (.cells #[.func (.func 172) #[] #[]] 167))) (by decide) (fun x _ W hW=>alw_exact w2.heap.size w.heap.size d.len x W ((((Blk.new w2 _ _).below hW (by simp)).cell 0).trans rfl) ((((HB.out.below hb (by simp)).alloc _).below hW (by have:=hb.size;simp at this;simp;omega)).cell 3 |>.trans rfl));simp only [List.any_cons,List.any_nil,Bool.or_false,HZ.out] at h;exact h);clear hb))|(go_at_call 180;refine gU.out.mono ?_;rintro e w3 ⟨rfl,hb⟩;have b8:=Hd ((aL.out.alloc aL.out.size _).trans (hb.mono (by have:=aL.out.size;simp;omega)));clear hb))
  go_ret;exact ⟨by cases z<;>rfl,b8.out⟩
 rw [if_neg h0];by_cases h1:d.fmt=1
 ·skip
  have HF:Hid (Calls prog 135 #[.agg (dC d).toArray] (w.alloc (.cells (dC d).toArray 27)) fun e w' => ∃ a b c,e = .returned (.agg #[.func (.func 173) #[] #[],.func (.func 174) #[] #[],.func a b c,.int .i64 0,.func (.func 176) #[] #[]])∧Below (w.alloc (.cells (dC d).toArray 27)).heap.size (w.alloc (.cells (dC d).toArray 27)) w'):=Hd (mE.out.mono fun e w' h=>by
   obtain ⟨a,b,c,k1,k2⟩:=h;refine ⟨a,b,c,?_,k2⟩;rw [k1];unfold fmC;rw [if_neg h0,if_pos h1];try rfl)
  clear mE;have hfd:∀ a b c (W:Wd),(Instr.field 211 (.agg #[.func (.func 173) #[] #[],.func (.func 174) #[] #[],.func a b c,.int .i64 0,.func (.func 176) #[] #[]]) 4).run prog W = .ok (.func (.func 176) #[] #[]) W:=fun _ _ _ _=>by kernel_rfl
  obtain ⟨z,hz⟩:∃ z,(decide ((r.size:Int)≤d.len))=z:=⟨_,rfl⟩
  rw [hz];have HZ:=Hd hz;clear hz;go_enter Tryz.func140,Tryz.ntmps140
  go_wp2_with (first|((with_reducible refine Gl 27 2 ?_);refine Lq 27 w.heap.size (dC d).toArray HB.out Tryz.underlying27 ?_)|(go_at_call 135;go_loud (refine HF.out.mono ?_;rintro e w2 ⟨a,b,c,rfl,hb⟩;have aL:=Hd (HX.out.trans (hb.mono (by simp)));have gU:=Hd (show Calls prog 180 #[.slice (some ⟨g,0,none⟩) 1 1,.func (.func 181) #[] #[.pointer (some ⟨w2.heap.size,0,none⟩),.pointer (some ⟨w.heap.size,0,none⟩)]] (w2.alloc (.cells #[.func (.func 176) #[] #[]] 167)) fun e w'=>e = .returned (.bool (!z))∧Below (w2.alloc (.cells #[.func (.func 176) #[] #[]] 167)).heap.size (w2.alloc (.cells #[.func (.func 176) #[] #[]] 167)) w' from by have h:=Fi w2.heap.size w.heap.size (fun s => !(decide ((s.size:Int)≤d.len))) _ 1 1 [r] _ (Xp ((HG.out.below aL.out HG.out.lt).alloc (.cells #[.func (.func 176) #[] #[]] 167))) (by decide) (fun x _ W hW=>alw_most w2.heap.size w.heap.size d.len x W ((((Blk.new w2 _ _).below hW (by simp)).cell 0).trans rfl) ((((HB.out.below hb (by simp)).alloc _).below hW (by have:=hb.size;simp at this;simp;omega)).cell 3 |>.trans rfl));simp only [List.any_cons,List.any_nil,Bool.or_false,HZ.out] at h;exact h);clear hb))|(go_at_call 180;refine gU.out.mono ?_;rintro e w3 ⟨rfl,hb⟩;have b8:=Hd ((aL.out.alloc aL.out.size _).trans (hb.mono (by have:=aL.out.size;simp;omega)));clear hb))
  go_ret;exact ⟨by cases z<;>rfl,b8.out⟩
 have HF:Hid (Calls prog 135 #[.agg (dC d).toArray] (w.alloc (.cells (dC d).toArray 27)) fun e w' => ∃ a b c,e = .returned (.agg #[.func (.func 177) #[] #[],.func (.func 178) #[] #[],.func a b c,.int .i64 32,.func (.func 176) #[] #[]])∧Below (w.alloc (.cells (dC d).toArray 27)).heap.size (w.alloc (.cells (dC d).toArray 27)) w'):=Hd (mE.out.mono fun e w' h=>by
  obtain ⟨a,b,c,k1,k2⟩:=h;refine ⟨a,b,c,?_,k2⟩;rw [k1];unfold fmC;rw [if_neg h0,if_neg h1];try rfl)
 clear mE;have hfd:∀ a b c (W:Wd),(Instr.field 211 (.agg #[.func (.func 177) #[] #[],.func (.func 178) #[] #[],.func a b c,.int .i64 32,.func (.func 176) #[] #[]]) 4).run prog W = .ok (.func (.func 176) #[] #[]) W:=fun _ _ _ _=>by kernel_rfl
 obtain ⟨z,hz⟩:∃ z,(decide ((r.size:Int)≤d.len))=z:=⟨_,rfl⟩
 rw [hz];have HZ:=Hd hz;clear hz;go_enter Tryz.func140,Tryz.ntmps140
 go_wp2_with (first|((with_reducible refine Gl 27 2 ?_);refine Lq 27 w.heap.size (dC d).toArray HB.out Tryz.underlying27 ?_)|(go_at_call 135;go_loud (refine HF.out.mono ?_;rintro e w2 ⟨a,b,c,rfl,hb⟩;have aL:=Hd (HX.out.trans (hb.mono (by simp)));have gU:=Hd (show Calls prog 180 #[.slice (some ⟨g,0,none⟩) 1 1,.func (.func 181) #[] #[.pointer (some ⟨w2.heap.size,0,none⟩),.pointer (some ⟨w.heap.size,0,none⟩)]] (w2.alloc (.cells #[.func (.func 176) #[] #[]] 167)) fun e w'=>e = .returned (.bool (!z))∧Below (w2.alloc (.cells #[.func (.func 176) #[] #[]] 167)).heap.size (w2.alloc (.cells #[.func (.func 176) #[] #[]] 167)) w' from by have h:=Fi w2.heap.size w.heap.size (fun s => !(decide ((s.size:Int)≤d.len))) _ 1 1 [r] _ (Xp ((HG.out.below aL.out HG.out.lt).alloc (.cells #[.func (.func 176) #[] #[]] 167))) (by decide) (fun x _ W hW=>alw_most w2.heap.size w.heap.size d.len x W ((((Blk.new w2 _ _).below hW (by simp)).cell 0).trans rfl) ((((HB.out.below hb (by simp)).alloc _).below hW (by have:=hb.size;simp at this;simp;omega)).cell 3 |>.trans rfl));simp only [List.any_cons,List.any_nil,Bool.or_false,HZ.out] at h;exact h);clear hb))|(go_at_call 180;refine gU.out.mono ?_;rintro e w3 ⟨rfl,hb⟩;have b8:=Hd ((aL.out.alloc aL.out.size _).trans (hb.mono (by have:=aL.out.size;simp;omega)));clear hb))
 go_ret;exact ⟨by cases z<;>rfl,b8.out⟩
def PkU (w:Wd) (e:Ending) (w':Wd):Prop:=∃ A n c L,e = .returned (.tuple #[.slice A n c,.int .i64 0])∧Sl Ui 1 w' w'.heap.size A n c L∧n≤1100∧(∀ s∈L,s.size≤2000)∧Below w.heap.size w w'
def PaG (ap:Int) (g:Nat) (w:Wd) (e:Ending) (w':Wd):Prop:=∃ A n c st,e = .returned (.agg (ctC ap (some ⟨g,0,none⟩) 1 1 A n c st).toArray)∧st.size≤3000000∧Below w.heap.size w w'
theorem bytes2 (W:Wd) (a b:Int):(convert 175 9 (.slice (some ⟨W.heap.size,0,none⟩) 2 2)).run prog (W.alloc (.cells #[.int .u8 a,.int .u8 b] 5)) = .ok (.string (strOfNums [a,b])) (W.alloc (.cells #[.int .u8 a,.int .u8 b] 5)):=
 I1 _ W.heap.size 2 2 5 [a,b] (Blk.new W _ _) rfl
structure PL1 (d:DSet) (ap:Int) (g:Nat) (A:Option Addr) (n c:Nat) (L:List Bz) (w w5:Wd) (st:Bz) (W:Wd):Prop where
 be:Below w.heap.size w W
 be5:Below w5.heap.size w5 W
 lt:w5.heap.size+1≤W.heap.size
 z5:w.heap.size+2≤w5.heap.size
 cb:Blk W w5.heap.size 219 (ctC ap (some ⟨g,0,none⟩) 1 1 A n c st).toArray
 zb:Blk W (w.heap.size+1) 219 #[.int .i64 0,.slice none 0 0,.slice none 0 0,.string ⟨#[]⟩]
 sl:Sl Ui 1 W w5.heap.size A n c L
theorem pl1_next {d:DSet} {ap:Int} {g:Nat} {A:Option Addr} {n c:Nat} {L:List Bz} {w w5:Wd} {st:Bz} {W W':Wd} (h:PL1 d ap g A n c L w w5 st W) (hb:Below W.heap.size W W'):PL1 d ap g A n c L w w5 st W':=
 have hz:=h.lt;have h5:=h.z5
 ⟨U0 h.be hb h.be.size,U0 h.be5 hb h.be5.size,Lx hz hb.size,h.z5,h.cb.below hb (by omega),h.zb.below hb (by omega),h.sl.below (hb.mono (by omega))⟩
theorem pl1_set {d:DSet} {ap:Int} {g:Nat} {A:Option Addr} {n c:Nat} {L:List Bz} {w w5:Wd} {st:Bz} {W:Wd} (s2:Bz) (h:PL1 d ap g A n c L w w5 st W):PL1 d ap g A n c L w w5 s2 (W.setCell ⟨w5.heap.size,3,none⟩ (.string s2)):=
 have h5:=h.z5;have hb:Below w5.heap.size W (W.setCell ⟨w5.heap.size,3,none⟩ (.string s2)):=Yg (Le _) [.string s2] 3 W (Bf _ _);have bT:Below w.heap.size w (W.setCell ⟨w5.heap.size,3,none⟩ (.string s2)):=Yg (by omega) [.string s2] 3 W h.be
 ⟨bT,h.be5.trans hb,Lx h.lt hb.size,h.z5,h.cb.set 3 _,h.zb.below hb (by omega),h.sl.below hb⟩
theorem pack_of (d:DSet) (ap:Int) (g:Nat) (r:Bz) (w:Wd) (pk:Nat) (v0 v3 v4:Value) (hg:Blk w g 9 #[.string r])
  (kT:∀ args W,(callFunc pk args).run prog W = .ok (.enter pk args) W)
  (hf:∀ W,Calls prog 135 #[.agg (dC d).toArray] W fun e w' => ∃ v2,e = .returned (.agg #[v0,.func (.func pk) #[] #[],v2,v3,v4])∧Below W.heap.size W w')
  (kF:∀ W,Below w.heap.size w W→Calls prog pk #[.int .i64 d.len,.int .i64 d.blk,.slice (some ⟨g,0,none⟩) 1 1] W (PkU W)):
  Calls prog 141 #[.agg (dC d).toArray,.int .i64 ap,.slice (some ⟨g,0,none⟩) 1 1] w (PaG ap g w):=by
 have HF:=Hd hf;have HPK:=Hd kF;have eM:=Hd (Blk.new w 27 (dC d).toArray);have HZ:=Hd (U3 (w.alloc (.cells (dC d).toArray 27)) 219 #[.int .i64 0,.slice none 0 0,.slice none 0 0,.string ⟨#[]⟩] (w.heap.size+1) (by simp));have HX:=Hd (((Bf w.heap.size w).alloc (Le _) (.cells (dC d).toArray 27)).alloc (by simp) (.cells #[.int .i64 0,.slice none 0 0,.slice none 0 0,.string ⟨#[]⟩] 219));have eD:Hid (w.heap.size+2≤((w.alloc (.cells (dC d).toArray 27)).alloc (.cells #[.int .i64 0,.slice none 0 0,.slice none 0 0,.string ⟨#[]⟩] 219)).heap.size):=Hd (by simp);have HFD:Hid (∀ v2 (W:Wd),(Instr.field 211 (.agg #[v0,.func (.func pk) #[] #[],v2,v3,v4]) 1).run prog W = .ok (.func (.func pk) #[] #[]) W):=Hd fun _ _=>by kernel_rfl
 have HG:=Hd hg;have HBD:=Hd (eM.out.alloc (.cells #[.int .i64 0,.slice none 0 0,.slice none 0 0,.string ⟨#[]⟩] 219));clear hg hf kF;go_enter Tryz.func141,Tryz.ntmps141;go_wp2;generalize ((w.alloc (.cells (dC d).toArray 27)).alloc (.cells #[.int .i64 0,.slice none 0 0,.slice none 0 0,.string ⟨#[]⟩] 219))=X at HZ HX eD HBD ⊢;clear eM;have HXD:=Hd HX.out.drew;have HZD:=Hd HZ.out.drew;have HXZD:Hid (w.heap.size+2≤X.drew.heap.size):=Hd eD.out;refine Rw (S:=fun w'=>Blk w' w.heap.size 27 (dC d).toArray) (by kernel_rfl) HBD.out.drew (fun Hh=>?_);refine tk 0 (.agg (dC d).toArray) Hh ?_ (y:=by exact yieldsIf_load_mid (by rfl) 27 _ rfl w.heap.size 0 rfl (dC d) _ (fun w' aH j v hv=>by rw [aH.cell,Nat.zero_add,Ga];exact hv) Tryz.underlying27 rfl (by kernel_rfl));refine tk 3 (.pointer (some ⟨w.heap.size,3,none⟩)) Hh ?_
 refine tj 4 (.int .i64 d.len) Hh ?_ (y:=by intro w' aH;have h1:=(aH.cell 3).trans (show _=some (Value.int .i64 d.len) from rfl);go_simp);refine tk 5 (.pointer (some ⟨w.heap.size,4,none⟩)) Hh ?_;refine tj 6 (.int .i64 d.blk) Hh ?_ (y:=by intro w' aH;have h1:=(aH.cell 4).trans (show _=some (Value.int .i64 d.blk) from rfl);go_simp);refine tk 7 (.slice (some ⟨g,0,none⟩) 1 1) Hh ?_;refine Aq [1] ?_;refine Rc (fun K hK=>?_) ?_
 ·go_simp;refine (HF.out _).mono ?_;rintro e w3 ⟨v2,rfl,b7⟩;simp only [];have aP:=Hd (U0 HXD.out b7 HXD.out.size);have HZ3:=Hd (HZD.out.below b7 (by have:=HXZD.out;omega));have HXZ3:=Hd (Lx HXZD.out b7.size);refine hK.out _ _ (Hh.below b7 Hh.lt) (fun Hh=>?_);clear hK K b7 HF;try simp only [Act.put,Sv,Sz,Sw]
  refine tj 2 (.func (.func pk) #[] #[]) Hh ?_ (y:=by intro w' aH;have h1:=HFD.out v2 w';go_simp);refine Aq [8] ?_;refine Rc (fun K hK=>?_) ?_
  ·go_simp;refine (HPK.out _ aP.out).mono ?_;rintro e w5 ⟨A,n,c,L,rfl,bP,hn,aN,dG⟩;simp only [];have bA:=Hd (U0 aP.out dG aP.out.size);have HZ5:=Hd (HZ3.out.below dG (by have:=HXZ3.out;omega));have HXZ5:=Hd (Lx HXZ3.out dG.size);have cG:=Hd bP;have HN:=Hd hn;have eF:=Hd aN;refine hK.out _ _ (Hh.below dG Hh.lt) (fun Hh=>?_);clear hK K dG HPK bP hn aN;try simp only [Act.put,Sv,Sz,Sw]
   refine tk 9 (.tuple #[.slice A n c,.int .i64 0]) Hh ?_;refine tk 10 (.slice A n c) Hh ?_;refine tk 11 (.int .i64 0) Hh ?_;refine tk 12 (.slice A n c) Hh ?_;refine tk 13 (.int .i64 0) Hh ?_;refine Ad (by kernel_rfl) ?_ _;clear Hh;have kG:=Hd fun old=>Blk.new w5 219 old
   have jX:=Hd fun old=>U1 w5 old (ctC ap (some ⟨g,0,none⟩) 1 1 A n c ⟨#[]⟩).toArray 219
   have fT:Hid ((ctC ap (some ⟨g,0,none⟩) 1 1 A n c ⟨#[]⟩).toArray.all (·.oneCell')=true):=Hd (by simp [ctC,Value.oneCell']);have HPL:Hid (PL1 d ap g A n c L w w5 ⟨#[]⟩ (w5.alloc (.cells (ctC ap (some ⟨g,0,none⟩) 1 1 A n c ⟨#[]⟩).toArray 219))):=Hd ⟨bA.out.alloc bA.out.size _,(Bf _ _).alloc (Le _) _,by simp,HXZ5.out,Blk.new _ _ _,HZ5.out.alloc _,cG.out.below ((Bf _ _).alloc (Le _) _)⟩;clear cG bA HZ5 HXZ5 aP HZ3 HXZ3 HXD HZD HXZD HFD;go_wp2_with (first|((with_reducible refine Gt 219 9 ?_);refine Lv 219 w5.heap.size ((ctC ap (some ⟨g,0,none⟩) 1 1 A n c ⟨#[]⟩)).toArray (kG.out _) fT.out ?_;rw [jX.out]));clear kT;have hn1:=HN.out;go_loopw [30] (fun v30 wr => ∃ (j:Nat) (st:Bz),j≤n∧v30 = .int .i64 j∧st.size≤2002*j∧PL1 d ap g A n c L w w5 st wr) (fun v30 _=>n-(intOf v30).toNat)
   case atStart=>exact ⟨0,⟨#[]⟩,Z0 _,rfl,by decide,HPL.out⟩
   case round=>
    obtain ⟨j,st,hj,rfl,hst,gX⟩:=hrel;obtain ⟨wx,rfl⟩:∃ z:Wd,z=wr:=⟨_,rfl⟩
    have eE:=Hd gX;have cH:=Hd hst;clear gX hst;by_cases aG:j<n
    ·obtain ⟨b,o,x,rfl,hb,hg,aB⟩:=Sl.cell (f:=Ui) (k:=1) (fun _=>rfl) eE.out.sl aG;have c0:=aB 0 _ rfl;simp only [Nat.add_zero,Nat.mul_one] at c0;have hxs:x.size≤2000:=eF.out x (List.mem_of_getElem? hg);have hss:st.size≤2002*j:=cH.out;have c3:=(eE.out.cb.cell 3).trans (show _=some (Value.string st) from rfl);have c3a:(wx.alloc (.cells #[.int .u8 ((x.size:Int) % 256),.int .u8 ((x.size:Int) / 256)] 5)).cell? ⟨w5.heap.size,3,none⟩=some (.string st):=((eE.out.cb.alloc _).cell 3).trans rfl;have c3f:(wx.alloc (.cells #[.int .u8 ((x.size:Int) % 256),.int .u8 ((x.size:Int) / 256)] 5)).frozen? ⟨w5.heap.size,3,none⟩=false:=(eE.out.cb.alloc _).free 3;have dU:=bytes2 wx ((x.size:Int) % 256) ((x.size:Int) / 256);have hz:(strOfNums [(x.size:Int) % 256,(x.size:Int) / 256]).size=2:=by rw [strOfNums_size];rfl
     obtain ⟨s2,hs2⟩:∃ s2,strOfNums [(x.size:Int) % 256,(x.size:Int) / 256]=s2:=⟨_,rfl⟩
     rw [hs2] at dU hz;have gB:=Hd hz;have k1:¬ (9223372036854775807<s2.size+x.size):=by omega
     have k2:¬ (9223372036854775807<st.size+(s2.size+x.size)):=by omega
     have k3:¬ (9223372036854775807<st.size+(s2++x).size):=by rw [ByteArray.size_append];omega
     have HP2:=Hd (pl1_set (st++(s2++x)) (pl1_next eE.out ((Bf _ _).alloc (Le _) (.cells #[.int .u8 ((x.size:Int) % 256),.int .u8 ((x.size:Int) / 256)] 5))));have HT2:Hid ((st++(s2++x)).size≤2002*(j+1)):=Hd (by rw [ByteArray.size_append,ByteArray.size_append];omega);clear hb hg aB hz hs2;go_wp2;go_roundw
     case rel=>exact ⟨j+1,_,by omega,by go_num,HT2.out,HP2.out⟩
     case measure=>simp [intOf];omega
    ·obtain rfl:j=n:=by omega
     have HR9:=Hd eE.out.cb;have HON2:Hid ((ctC ap (some ⟨g,0,none⟩) 1 1 A j c st).toArray.all (·.oneCell')=true):=Hd (by simp [ctC,Value.oneCell']);have HST3:Hid (st.size≤3000000):=Hd (by have:=cH.out;omega);go_wp2_with (first|((with_reducible refine Gl 219 9 ?_);refine Lq 219 w5.heap.size _ HR9.out Tryz.underlying219 ?_)|((with_reducible refine Gt 219 6 ?_);refine Lv 219 (w.heap.size+1) (ctC ap (some ⟨g,0,none⟩) 1 1 A j c st).toArray eE.out.zb HON2.out ?_));have hlz:w.heap.size+1<wx.heap.size:=by have:=eE.out.lt;have:=eE.out.z5;omega
     have cB:=results_ct (wx.setRow (w.heap.size+1) (ctC ap (some ⟨g,0,none⟩) 1 1 A j c st).toArray) (w.heap.size+1) (ctC ap (some ⟨g,0,none⟩) 1 1 A j c st).toArray (setRow_heap _ _ _ _ _ _ eE.out.zb) rfl;exact Br (v:=.agg (ctC ap (some ⟨g,0,none⟩) 1 1 A j c st).toArray) (Vr Tryz.results141 rfl cB) rfl ⟨A,j,c,st,rfl,HST3.out,U6 eE.out.be (by omega) _⟩
  exact An
 exact An
theorem pack_any (d:DSet) (ap:Int) (g:Nat) (r:Bz) (w:Wd) (hc:Cod w) (hv:E2 d=true) (ho:recOk d r.size=true) (hg:Blk w g 9 #[.string r]):
  Calls prog 141 #[.agg (dC d).toArray,.int .i64 ap,.slice (some ⟨g,0,none⟩) 1 1] w (PaG ap g w):=by
 have hs:Kn d.fmt d.len d.blk=true:=by
  unfold E2 at hv;simp only [Bool.and_eq_true] at hv;exact hv.1.2
 unfold recOk at ho;unfold Kn at hs;by_cases h0:d.fmt=0
 ·rw [if_pos h0] at ho hs;have hl:(r.size:Int)=d.len:=by simpa using ho
  refine pack_of d ap g r w 169 (.func (.func 168) #[] #[]) (.int .i64 0) (.func (.func 172) #[] #[]) hg (fun args W=>by kernel_rfl) (fun W=>(Y5 d W).mono fun e w' h=>?_) (fun W hb=>?_)
  ·obtain ⟨a,b,c,k1,k2⟩:=h;exact ⟨.func a b c,by rw [k1];unfold fmC;rw [if_pos h0],k2⟩
  ·refine (fixPack_any d.len d.blk g r W hs (hg.below hb hg.lt) hl).mono fun e w' h=>?_
   obtain ⟨A,n,c,L,k1,k2,k3,k4,k5⟩:=h;exact ⟨A,n,c,L,k1,k2,by omega,k4,k5⟩
 rw [if_neg h0] at ho hs;have hl:(r.size:Int)≤d.len:=by simpa using ho
 by_cases h1:d.fmt=1
 ·rw [if_pos h1] at hs;refine pack_of d ap g r w 174 (.func (.func 173) #[] #[]) (.int .i64 0) (.func (.func 176) #[] #[]) hg (fun args W=>by kernel_rfl) (fun W=>(Y5 d W).mono fun e w' h=>?_) (fun W hb=>?_)
  ·obtain ⟨a,b,c,k1,k2⟩:=h;exact ⟨.func a b c,by rw [k1];unfold fmC;rw [if_neg h0,if_pos h1],k2⟩
  ·refine (varPack_any d.len d.blk g r W hs (hg.below hb hg.lt) hl).mono fun e w' h=>?_
   obtain ⟨A,n,c,L,k1,k2,k3,k4,k5⟩:=h;exact ⟨A,n,c,L,k1,k2,by omega,k4,k5⟩
 ·rw [if_neg h1] at hs;refine pack_of d ap g r w 178 (.func (.func 177) #[] #[]) (.int .i64 32) (.func (.func 176) #[] #[]) hg (fun args W=>by kernel_rfl) (fun W=>(Y5 d W).mono fun e w' h=>?_) (fun W hb=>?_)
  ·obtain ⟨a,b,c,k1,k2⟩:=h;exact ⟨.func a b c,by rw [k1];unfold fmC;rw [if_neg h0,if_neg h1],k2⟩
  ·exact spnPack_any d.len d.blk g r W (hc.after hb) hs (hg.below hb hg.lt) hl
theorem infoSW:(prog.info? 222).map (fun i=>(i.zero,i.size,i.bytes))=some (some (.agg #[.int .i64 0,.string ⟨#[]⟩]),2,24):=by kernel_rfl
def FrB (a b:Nat) (w w':Wd):Prop:=∀ p:Addr,a<p.block→p.block<b→w'.cell? p=w.cell? p
theorem frb_app {a b:Nat} {w0 wx w':Wd} {o:Obj} {row:Option Nat} (h:FrB a b w0 wx) (hz:b≤wx.heap.size) (hg:(wx.alloc o).grownBy w' row) (hr:∀ k,row=some k→k≤a∨b≤k):FrB a b w0 w':=fun p h1 h2=>
 (World.cell?_of_block (hg.block p.block (by simp;omega) (fun e=>by rcases hr _ e.symm with q|q<;>omega))).trans ((World.cell?_of_block (Below.heap_alloc wx o p.block (by omega))).trans (h p h1 h2))
def seqE (d:DSet) (z:Int):Int:=if E2 d then (if recOk d z then 0 else 2) else 1
def BuG (R:Int) (w:Wd) (e:Ending) (w':Wd):Prop:=∃ v,e = .returned (.tuple #[v,.int .i64 R])∧Below w.heap.size w w'
theorem build_any (d:DSet) (g:Nat) (r:Bz) (w:Wd) (hc:Cod w) (hg:Blk w g 9 #[.string r]):
  Calls prog 118 #[.agg (dC d).toArray,.int .i64 0,.slice (some ⟨g,0,none⟩) 1 1] w (BuG (seqE d r.size) w):=by
 obtain ⟨i0,aU,aW,aK,aR⟩:=info_parts infoSW;have HB:=Hd (Blk.new w 27 (dC d).toArray);have HX:=Hd ((Bf w.heap.size w).alloc (Le _) (.cells (dC d).toArray 27));have HV:=Hd (Ko d (w.alloc (.cells (dC d).toArray 27)));have HG:=Hd hg;have HC:=Hd hc;unfold seqE;clear hc hg;cases hv:E2 d with
 |false=>
  rw [hv] at HV;clear hv;go_enter Tryz.func118,Tryz.ntmps118;go_wp2_with (first|((with_reducible refine Gl 27 3 ?_);refine Lq 27 w.heap.size (dC d).toArray HB.out Tryz.underlying27 ?_)|(go_at_call 108;refine HV.out.mono ?_;rintro e w2 ⟨rfl,hb⟩;have aM:=Hd (U0 HX.out hb HX.out.size);have aL:=Hd (HB.out.below hb HB.out.lt);clear hb))
  go_ret2
  exact ⟨_,rfl,aM.out⟩
 |true=>
  rw [hv] at HV;have HVB:=Hd hv;clear hv;have HN:Hid (∀ W,Calls prog 139 #[.int .i64 0] W fun e w'=>e = .returned (.bool true)∧W=w'):=Hd fun W=>seqNum_any 0 W
  have HA:Hid (∀ W,Below w.heap.size w W→Calls prog 140 #[.agg (dC d).toArray,.slice (some ⟨g,0,none⟩) 1 1] W fun e w'=>e = .returned (.bool (recOk d r.size))∧Below W.heap.size W w'):=Hd fun W hb=>sqAllowed_any d g r W (HG.out.below hb HG.out.lt)
  cases hr:recOk d r.size with
  |false=>
   rw [hr] at HA;clear hr;go_enter Tryz.func118,Tryz.ntmps118;go_wp2_with (first|((with_reducible refine Gl 27 3 ?_);refine Lq 27 w.heap.size (dC d).toArray (by first|exact aL.out|exact HB.out) Tryz.underlying27 ?_)|(go_at_call 108;refine HV.out.mono ?_;rintro e w2 ⟨rfl,hb⟩;have aM:=Hd (U0 HX.out hb HX.out.size);have aL:=Hd (HB.out.below hb HB.out.lt);clear hb)|(go_at_call 139;refine (HN.out _).mono ?_;rintro e w3 ⟨rfl,rfl⟩)|(go_at_call 140;refine (HA.out _ aM.out).mono ?_;rintro e w4 ⟨rfl,hb⟩;have aX:=Hd (U0 aM.out hb aM.out.size);have cD:=Hd (aL.out.below hb aL.out.lt);clear hb))
   go_ret2
   exact ⟨_,rfl,aX.out⟩
  |true=>
   rw [hr] at HA;have HRO:=Hd hr;clear hr;have HPK:Hid (∀ W,Below w.heap.size w W→Calls prog 141 #[.agg (dC d).toArray,.int .i64 0,.slice (some ⟨g,0,none⟩) 1 1] W (PaG 0 g W)):=Hd fun W hb=>pack_any d 0 g r W (HC.out.after hb) HVB.out HRO.out (HG.out.below hb HG.out.lt)
   go_enter Tryz.func118,Tryz.ntmps118
   go_wp2_with (first|((with_reducible refine Gl 27 3 ?_);refine Lq 27 w.heap.size (dC d).toArray (by first|exact cD.out|exact aL.out|exact HB.out) Tryz.underlying27 ?_)|(go_at_call 108;refine HV.out.mono ?_;rintro e w2 ⟨rfl,hb⟩;have aM:=Hd (U0 HX.out hb HX.out.size);have aL:=Hd (HB.out.below hb HB.out.lt);clear hb)|(go_at_call 139;refine (HN.out _).mono ?_;rintro e w3 ⟨rfl,rfl⟩)|(go_at_call 140;refine (HA.out _ aM.out).mono ?_;rintro e w4 ⟨rfl,hb⟩;have aX:=Hd (U0 aM.out hb aM.out.size);have cD:=Hd (aL.out.below hb aL.out.lt);clear hb)|(go_at_call 141;refine (HPK.out _ aX.out).mono ?_;rintro e w5 ⟨A,n,c,st,rfl,hst,hb⟩;have bA:=Hd (U0 aX.out hb aX.out.size);have cH:=Hd hst;have kG:=Hd fun old=>Blk.new w5 219 old;have jX:=Hd fun old=>U1 w5 old (ctC 0 (some ⟨g,0,none⟩) 1 1 A n c st).toArray 219;have fT:Hid ((ctC 0 (some ⟨g,0,none⟩) 1 1 A n c st).toArray.all (·.oneCell')=true):=Hd (by simp [ctC,Value.oneCell']);have bB:=Hd (bA.out.alloc bA.out.size (.cells (ctC 0 (some ⟨g,0,none⟩) 1 1 A n c st).toArray 219));have kK:=Hd (Blk.new w5 219 (ctC 0 (some ⟨g,0,none⟩) 1 1 A n c st).toArray);have HH:=Hd (head_any 0 (some ⟨g,0,none⟩) 1 1 A n c st (w5.alloc (.cells (ctC 0 (some ⟨g,0,none⟩) 1 1 A n c st).toArray 219)) (by decide) (by decide) (by decide) hst);clear hb hst)|((with_reducible refine Gt 219 8 ?_);refine Lv 219 w5.heap.size ((ctC 0 (some ⟨g,0,none⟩) 1 1 A n c st)).toArray (kG.out _) fT.out ?_;rw [jX.out])|((with_reducible refine Gl 219 8 ?_);refine Lq 219 w5.heap.size ((ctC 0 (some ⟨g,0,none⟩) 1 1 A n c st)).toArray (by first|exact HB9.out|exact kK.out) Tryz.underlying219 ?_)|(go_at_call 142;refine HH.out.mono ?_;rintro e w7 ⟨n7,t7,he,hb⟩;have he2:e = .returned (.agg #[.int .i64 n7,.string t7]):=he;clear he;subst he2;have fN:=Hd (U0 bB.out hb bB.out.size);have HB8:=Hd (kK.out.below hb kK.out.lt);have iV:=Hd (fN.out.alloc fN.out.size (.cells #[.int .i64 n7,.string t7] 222));have HB9:=Hd (HB8.out.alloc (.cells #[.int .i64 n7,.string t7] 222));have HO8:Hid ((w7.alloc (.cells #[.int .i64 n7,.string t7] 222)).ownsRow w.heap.size 222 2 (.slice (some ⟨w7.heap.size,0,none⟩) 1 1) 1 [.int .i64 n7,.string t7]):=Hd (World.ownsRow_lit w7 #[.int .i64 n7,.string t7] 1 fN.out.size (by decide) rfl);have HSC:=Hd (sectors_any 0 (some ⟨g,0,none⟩) 1 1 A n c st (w7.alloc (.cells #[.int .i64 n7,.string t7] 222)) cH.out);clear hb)|(go_at_call 143;refine HSC.out.mono ?_;rintro e w9 ⟨A9,m,c9,L,rfl,bP,hm,hba,hb⟩;have iG:=Hd (U0 iV.out hb iV.out.size);have cG:=Hd bP;have HM:=Hd hm;have jD:Hid (∀ b,A9=some b→w7.heap.size<b.block):=Hd (fun b h=>by have:=hba b h;simp at this;omega);have HO9:=Hd (Up HO8.out hb);have HZ9:Hid (w7.heap.size<w9.heap.size):=Hd (by have:=hb.size;simp at this;omega);clear bP hm hba hb))
   clear h;have hm:=HM.out;go_loopw [9,34] (fun v9 v34 wr => ∃ (j:Nat) (xs:List Value),j≤m∧v34 = .int .i64 j∧wr.ownsRow w.heap.size 222 2 v9 (j+1) xs∧(∀ k,v9.ownBlock=some k→k≤w7.heap.size∨w9.heap.size≤k)∧Below w.heap.size w wr∧w9.heap.size≤wr.heap.size∧FrB w7.heap.size w9.heap.size w9 wr) (fun _ v34 _=>m-(intOf v34).toNat)
   case atStart=>exact ⟨0,_,Z0 _,rfl,HO9.out,fun k hk=>.inl (by injection hk with hk;subst hk;exact Le _),iG.out,Le _,fun _ _ _=>rfl⟩
   case round=>
    obtain ⟨j,xs,hj,rfl,aD,hob,eG,hzz,hfr⟩:=hrel;obtain ⟨wx,rfl⟩:∃ z:Wd,z=wr:=⟨_,rfl⟩
    obtain ⟨A1,c1,rfl,i6,iR⟩:=Ue aD;have HO:=Hd aD;have HOB:=Hd hob;have bG:=Hd eG;have HZZ:=Hd hzz;have j4:=Hd hfr;clear aD hob eG hzz hfr i6 iR;by_cases aG:j<m
    ·obtain ⟨b,o,x,rfl,hb,hg,aB⟩:=Sl.cell (f:=Ui) (k:=1) (fun _=>rfl) cG.out aG;have c0:wx.cell? ⟨b,o+j,none⟩=some (.string x):=(j4.out ⟨b,o+j,none⟩ (jD.out ⟨b,o,none⟩ rfl) hb).trans (by have h:=aB 0 _ rfl;simpa using h);have cF:=Hd (Vw wx [.int .i64 (1+(j:Int)),.string x] 222 1 2 rfl);have HON2:Hid (∀ u∈[Value.int .i64 (1+(j:Int)),.string x],u.oneCell'=true):=Hd (by simp [Value.oneCell']);clear hb hg aB
     go_wp2_with (at_builtin;go_must (refine U5 _ rfl _ _ 186 rfl w.heap.size 222 i0 _ 2 24 Tryz.underlying186 aU aW aK aR rfl (by decide) (.slice A1 (j+1) c1) (j+1) xs rfl (HO.out.alloc _) (wx.heap.size+1) (some ⟨wx.heap.size,0,none⟩) 1 1 [.int .i64 (1+(j:Int)),.string x] rfl cF.out HON2.out (by unfold maxLen;omega) (by omega) (by have:=bG.out.size;simp;omega) ?_;intro v' w5' aD aO m9;have aS:=Hd aD;have bQ:=Hd aO;have fD:=Hd m9;clear aD aO m9));go_roundw
     case rel=>
      have hz9:=HZZ.out;have jE:=(HO.out.alloc (.cells #[.int .i64 (1+(j:Int)),.string x] 222))
      refine ⟨j+1,_,by omega,by go_num,aS.out,fun k hk=>?_,(bG.out.alloc bG.out.size _).grown bQ.out (by have:=bG.out.size;simp;omega) (X6 jE (Le _)),Lx (by simp;omega) bQ.out.size,frb_app j4.out HZZ.out bQ.out HOB.out⟩;rcases fD.out with e|e
      ·exact HOB.out k (e▸hk)
      ·rw [e] at hk;injection hk with hk
       subst hk;exact .inr (by simp;omega)
     case measure=>simp [intOf];omega
    ·obtain rfl:j=m:=by omega
     go_wp2
     go_ret2
     exact ⟨_,rfl,bG.out⟩
def Vp (d:DSet) (p:Pr):Bool:=if d.org=3 then ((ofF d p.rcd).2 == 0)&&((ofF d p.rcd).1.toList == p.key.toList)
 else if d.org=2 then slotOk p.key&&((p.rcd.size:Int) == d.len)
 else if d.org=1 then decide (1≤(p.rcd.size:Int))&&decide ((p.rcd.size:Int)≤d.len)
 else seqE d p.rcd.size == 0
structure DP (d:DSet) (p:Pr) (w W:Wd):Prop where
 b1:Blk W w.heap.size 27 (dC d).toArray
 b2:Blk W (w.heap.size+1) 76 (prC p).toArray
 be:Below w.heap.size w W
theorem dp_new (d:DSet) (p:Pr) (w:Wd):DP d p w ((w.alloc (.cells (dC d).toArray 27)).alloc (.cells #[.string p.key,.string p.rcd] 76)):=
 ⟨(Blk.new w _ _).alloc _,U3 (w.alloc _) _ _ _ (by simp),((Bf _ _).alloc (Le _) _).alloc (by simp) _⟩
theorem Je {d:DSet} {p:Pr} {w W W':Wd} (h:DP d p w W) (hb:Below W.heap.size W W'):DP d p w W':=
 ⟨h.b1.below hb h.b1.lt,h.b2.below hb h.b2.lt,U0 h.be hb h.be.size⟩
theorem J2 (d:DSet) (p:Pr) (w:Wd) (hc:Cod w) (hr:p.rcd.size≤maxLen):
  Calls prog 84 #[.agg (dC d).toArray,.agg #[.string p.key,.string p.rcd]] w fun e w'=>e = .returned (.bool (Vp d p))∧Below w.heap.size w w':=by
 have HD:=Hd (dp_new d p w);have HC:=Hd hc;have HRZ:=Hd hr;clear hc hr;have c1:((w.alloc (.cells (dC d).toArray 27)).alloc (.cells #[.string p.key,.string p.rcd] 76)).cell? ⟨w.heap.size,1,none⟩=some (.int .i64 d.org):=(HD.out.b1.cell 1).trans rfl;have c3:((w.alloc (.cells (dC d).toArray 27)).alloc (.cells #[.string p.key,.string p.rcd] 76)).cell? ⟨w.heap.size,3,none⟩=some (.int .i64 d.len):=(HD.out.b1.cell 3).trans rfl;have d0:((w.alloc (.cells (dC d).toArray 27)).alloc (.cells #[.string p.key,.string p.rcd] 76)).cell? ⟨w.heap.size+1,0,none⟩=some (.string p.key):=(HD.out.b2.cell 0).trans rfl;have d1:((w.alloc (.cells (dC d).toArray 27)).alloc (.cells #[.string p.key,.string p.rcd] 76)).cell? ⟨w.heap.size+1,1,none⟩=some (.string p.rcd):=(HD.out.b2.cell 1).trans rfl;unfold Vp;by_cases h3:d.org=3
 ·rw [if_pos h3];have k3:(d.org == 3)=true:=by simpa using h3
  have HK:=Hd (keyOf_any d p.rcd ((w.alloc (.cells (dC d).toArray 27)).alloc (.cells #[.string p.key,.string p.rcd] 76)) HRZ.out);generalize ofF d p.rcd=o at HK ⊢;obtain ⟨o1,o2⟩:=o;simp only at HK ⊢;clear h3;by_cases hz:o2=0
  ·have kz:(o2 == 0)=true:=by simpa using hz
   clear hz;go_enter Tryz.func84,Tryz.ntmps84;go_wp2_with (first|((with_reducible refine Gl 27 2 ?_);refine Lq 27 w.heap.size (dC d).toArray HD.out.b1 Tryz.underlying27 ?_)|(go_at_call 116;refine HK.out.mono ?_;rintro e w2 ⟨rfl,hb⟩;have dX:=Hd (Je HD.out hb);have e0:=(dX.out.b2.cell 0).trans (show _=some (Value.string p.key) from rfl);clear hb c1 c3 d0 d1));go_ret;exact ⟨by rw [kz];simp,dX.out.be⟩
  ·have kz:(o2 == 0)=false:=by simpa using hz
   clear hz;go_enter Tryz.func84,Tryz.ntmps84;go_wp2_with (first|((with_reducible refine Gl 27 2 ?_);refine Lq 27 w.heap.size (dC d).toArray HD.out.b1 Tryz.underlying27 ?_)|(go_at_call 116;refine HK.out.mono ?_;rintro e w2 ⟨rfl,hb⟩;have dX:=Hd (Je HD.out hb);have e0:=(dX.out.b2.cell 0).trans (show _=some (Value.string p.key) from rfl);clear hb c1 c3 d0 d1));go_ret;exact ⟨by rw [kz];simp,dX.out.be⟩
 rw [if_neg h3];have k3:(d.org == 3)=false:=by simpa using h3
 by_cases h2:d.org=2
 ·rw [if_pos h2];have k2:(d.org == 2)=true:=by simpa using h2
  have HN:=Hd (Gg p.key ((w.alloc (.cells (dC d).toArray 27)).alloc (.cells #[.string p.key,.string p.rcd] 76)));unfold slotOk;generalize Xz p.key=o at HN ⊢;obtain ⟨n,z⟩:=o;simp only at HN ⊢;clear h3 h2;cases z with
  |false=>
   go_enter Tryz.func84,Tryz.ntmps84;go_wp2_with (first|((with_reducible refine Gl 27 2 ?_);refine Lq 27 w.heap.size (dC d).toArray HD.out.b1 Tryz.underlying27 ?_)|(go_at_call 117;refine HN.out.mono ?_;rintro e w2 ⟨rfl,hb⟩;have dX:=Hd (Je HD.out hb);have e1:=(dX.out.b2.cell 1).trans (show _=some (Value.string p.rcd) from rfl);have e3:=(dX.out.b1.cell 3).trans (show _=some (Value.int .i64 d.len) from rfl);clear hb c1 c3 d0 d1));go_ret;exact ⟨by simp,dX.out.be⟩
  |true=>
   rcases (by omega:n<1∨1≤n) with m1|m1
   ·go_enter Tryz.func84,Tryz.ntmps84;go_wp2_with (first|((with_reducible refine Gl 27 2 ?_);refine Lq 27 w.heap.size (dC d).toArray HD.out.b1 Tryz.underlying27 ?_)|(go_at_call 117;refine HN.out.mono ?_;rintro e w2 ⟨rfl,hb⟩;have dX:=Hd (Je HD.out hb);have e1:=(dX.out.b2.cell 1).trans (show _=some (Value.string p.rcd) from rfl);have e3:=(dX.out.b1.cell 3).trans (show _=some (Value.int .i64 d.len) from rfl);clear hb c1 c3 d0 d1));go_ret
    exact ⟨by
     have q:decide (1≤n)=false:=decide_eq_false (by omega);rw [q];simp,dX.out.be⟩
   rcases (by omega:65536<n∨n≤65536) with m2|m2
   ·go_enter Tryz.func84,Tryz.ntmps84;go_wp2_with (first|((with_reducible refine Gl 27 2 ?_);refine Lq 27 w.heap.size (dC d).toArray HD.out.b1 Tryz.underlying27 ?_)|(go_at_call 117;refine HN.out.mono ?_;rintro e w2 ⟨rfl,hb⟩;have dX:=Hd (Je HD.out hb);have e1:=(dX.out.b2.cell 1).trans (show _=some (Value.string p.rcd) from rfl);have e3:=(dX.out.b1.cell 3).trans (show _=some (Value.int .i64 d.len) from rfl);clear hb c1 c3 d0 d1));go_ret
    exact ⟨by
     have q:decide (n≤65536)=false:=decide_eq_false (by omega);rw [q];simp,dX.out.be⟩
   ·go_enter Tryz.func84,Tryz.ntmps84;go_wp2_with (first|((with_reducible refine Gl 27 2 ?_);refine Lq 27 w.heap.size (dC d).toArray HD.out.b1 Tryz.underlying27 ?_)|(go_at_call 117;refine HN.out.mono ?_;rintro e w2 ⟨rfl,hb⟩;have dX:=Hd (Je HD.out hb);have e1:=(dX.out.b2.cell 1).trans (show _=some (Value.string p.rcd) from rfl);have e3:=(dX.out.b1.cell 3).trans (show _=some (Value.int .i64 d.len) from rfl);clear hb c1 c3 d0 d1));go_ret;exact ⟨by simp [m1,m2],dX.out.be⟩
 rw [if_neg h2];have k2:(d.org == 2)=false:=by simpa using h2
 by_cases h1:d.org=1
 ·rw [if_pos h1];have k1:(d.org == 1)=true:=by simpa using h1
  clear h3 h2 h1;by_cases m1:p.rcd.size=0
  ·have q1:¬ ((1:Int)≤(p.rcd.size:Int)):=by omega
   have q0:¬ (1≤p.rcd.size):=by omega
   go_enter Tryz.func84,Tryz.ntmps84;go_wp2_with (first|((with_reducible refine Gl 27 2 ?_);refine Lq 27 w.heap.size (dC d).toArray HD.out.b1 Tryz.underlying27 ?_));go_ret;exact ⟨by simp,HD.out.be⟩
  ·have q1:(1:Int)≤(p.rcd.size:Int):=by omega
   have q0:1≤p.rcd.size:=by omega
   clear m1;go_enter Tryz.func84,Tryz.ntmps84;go_wp2_with (first|((with_reducible refine Gl 27 2 ?_);refine Lq 27 w.heap.size (dC d).toArray HD.out.b1 Tryz.underlying27 ?_));go_ret;exact ⟨by simp [q1],HD.out.be⟩
 rw [if_neg h1];have k1:(d.org == 1)=false:=by simpa using h1
 have HBU:=Hd (build_any d (w.heap.size+2) p.rcd (((w.alloc (.cells (dC d).toArray 27)).alloc (.cells #[.string p.key,.string p.rcd] 76)).alloc (.cells #[.string p.rcd] 9)) ((HC.out.after HD.out.be).after ((Bf _ _).alloc (Le _) _)) (U3 ((w.alloc _).alloc _) _ _ _ (by simp)));have aP:=Hd (HD.out.be.alloc HD.out.be.size (.cells #[.string p.rcd] 9));generalize seqE d p.rcd.size=R at HBU ⊢;clear h3 h2 h1;go_enter Tryz.func84,Tryz.ntmps84;go_wp2_with (first|((with_reducible refine Gl 27 2 ?_);refine Lq 27 w.heap.size (dC d).toArray HD.out.b1 Tryz.underlying27 ?_)|(go_at_call 118;refine HBU.out.mono ?_;rintro e w2 ⟨v,rfl,hb⟩;have aL:=Hd (U0 aP.out hb aP.out.size);clear hb));go_ret;exact ⟨rfl,aL.out⟩
theorem isSize_any (n:Int) (w:Wd):Calls prog 144 #[.int .i64 n] w fun e w'=>e = .returned (.bool (E1 n))∧w=w':=by
 obtain ⟨z,hz⟩:∃ z,E1 n=z:=⟨_,rfl⟩
 rw [hz];unfold E1 at hz;by_cases h1:n=128
 ·subst h1;go_enter Tryz.func144,Tryz.ntmps144;go_wp2;go_ret;exact ⟨by rw [←hz];rfl,rfl⟩
 by_cases h2:n=256
 ·subst h2;go_enter Tryz.func144,Tryz.ntmps144;go_wp2;go_ret;exact ⟨by rw [←hz];rfl,rfl⟩
 by_cases h3:n=512
 ·subst h3;go_enter Tryz.func144,Tryz.ntmps144;go_wp2;go_ret;exact ⟨by rw [←hz];rfl,rfl⟩
 have e1:(n == 128)=false:=by simpa using h1
 have e2:(n == 256)=false:=by simpa using h2
 have e3:(n == 512)=false:=by simpa using h3
 have hz':z=false:=by rw [←hz];simp [h1,h2,h3]
 have HZ:=Hd hz';clear h1 h2 h3 hz hz';go_enter Tryz.func144,Tryz.ntmps144;go_wp2;go_ret;exact ⟨by rw [HZ.out];rfl,rfl⟩
def alwS (s:Bz):Bool:=decide (1≤s.size)&&decide (s.size≤200)
def alwB (l:List Bz):Bool:=l.all alwS
theorem ialw_any (A:Option Addr) (n c:Nat) (l:List Bz) (w:Wd) (hs:Sl Ui 1 w w.heap.size A n c l) (hn:n≤2000):
  Calls prog 145 #[.slice A n c] w fun e w'=>e = .returned (.bool (alwB l))∧w=w':=by
 have HS:=Hd hs;have HL:=Hd hs.len;clear hs;obtain ⟨R,hR⟩:∃ R,alwB l=R:=⟨_,rfl⟩
 rw [hR];have HR:=Hd hR;clear hR;go_enter Tryz.func145,Tryz.ntmps145;go_wp2;go_loop [7] (fun i => ∃ j:Nat,j≤n∧i = .int .i64 j∧∀ t,t<j→∀ e,l[t]? =some e→alwS e=true) (fun i=>n-(intOf i).toNat)
 case atStart=>exact ⟨0,Z0 _,rfl,fun t h=>absurd h (by omega)⟩
 case round=>
  obtain ⟨j,hj,rfl,hall⟩:=hrel;have HA:=Hd hall;clear hall;by_cases aG:j<n
  ·obtain ⟨b,o,s,rfl,hb,hg,aB⟩:=Sl.cell (f:=Ui) (k:=1) (fun _=>rfl) HS.out aG;have c0:=aB 0 _ rfl;simp only [Nat.add_zero,Nat.mul_one] at c0;have HG:=Hd hg
   have no:alwS s=false→R=false:=fun h=>by
    rw [←HR.out];unfold alwB;rw [List.all_eq_false];exact ⟨s,List.mem_of_getElem? hg,by simpa using h⟩
   have HNO:=Hd no;clear hb hg aB no;by_cases h1:s.size<1
   ·have hr:=HNO.out (by unfold alwS;simp;omega);have jK:=Hd hr;clear hr;go_wp2;go_ret;exact ⟨by rw [jK.out];rfl,rfl⟩
   ·by_cases h2:200<s.size
    ·have hr:=HNO.out (by unfold alwS;simp;omega);have jK:=Hd hr;clear hr;go_wp2;go_ret;exact ⟨by rw [jK.out];rfl,rfl⟩
    ·have bU:alwS s=true:=by unfold alwS;simp;omega
     have cK:=Hd bU;clear bU;go_wp2
     go_round
     case rel=>
      refine ⟨j+1,by omega,by go_num,fun t ht e he=>?_⟩;rcases Nat.lt_succ_iff_lt_or_eq.1 ht with h|h
      ·exact HA.out t h e he
      ·subst h;rw [HG.out] at he;injection he with he
       subst he;exact cK.out
     case measure=>simp [intOf];omega
  ·obtain rfl:j=n:=by omega
   have hr:R=true:=by
    rw [←HR.out];unfold alwB;rw [List.all_eq_true];intro e he;obtain ⟨t,ht,rfl⟩:=List.getElem_of_mem he;exact HA.out t (by rw [←HL.out];exact ht) _ (List.getElem?_eq_getElem ht)
   have jK:=Hd hr;clear hr;go_wp2;go_ret;exact ⟨by rw [jK.out];rfl,rfl⟩
def Yy (z:Nat):List Bz→Nat
 | []=>0
 |s::r=>if s.size=z then Yy z r+1 else 0
theorem runK_is {z:Nat}:∀ (l:List Bz) (k:Nat),k≤l.length→(∀ t,t<k→∀ s,l[t]? =some s→s.size=z)→(∀ s,l[k]? =some s→s.size≠z)→Yy z l=k
 | [],k,hk,_,_=>by simp at hk;subst hk;rfl
 |s::r,0,_,_,h=>by
  unfold Yy;rw [if_neg (h s rfl)]
 |s::r,k+1,hk,h1,h2=>by
  unfold Yy;rw [if_pos (h1 0 (by omega) s rfl),runK_is r k (by simpa using hk) (fun t ht x hx=>h1 (t+1) (by omega) x hx) (fun x hx=>h2 x hx)]
def Jx:Nat→List Bz→Int
 |0,_=>0
 |_,[]=>0
 |f+1,s::r=>((Yy s.size r+1:Nat):Int)*(s.size:Int)+3*min ((Yy s.size r+1:Nat):Int) 2+Jx f (r.drop (Yy s.size r))
def Km (l:List Bz):Int:=4+Jx l.length l
theorem size1_any (n z g:Nat) (m:Int) (w:Wd) (hg:Blk w g 3 #[.int .i64 m]) (hn:1≤n) (eN:n≤2000) (hz:z≤200) (hm0:0≤m) (hm:m≤1000000):
  Calls prog 185 #[.int .i64 n,.int .i64 z,.pointer (some ⟨g,0,none⟩)] w fun e w'=>e = .returned (.tuple #[])∧w'=w.setCell ⟨g,0,none⟩ (.int .i64 (m+((n:Int)*(z:Int)+3*min (n:Int) 2))):=by
 have c0:=(hg.cell 0).trans (show _=some (Value.int .i64 m) from rfl);have f0:=hg.free 0
 have hp:(n:Int)*(z:Int)≤400000:=by
  have h:n*z≤400000:=Lx (Nat.mul_le_mul eN hz) (by decide);rw [←Int.natCast_mul];exact Int.ofNat_le.2 h
 have dB:0≤(n:Int)*(z:Int):=Int.mul_nonneg (by omega) (by omega);obtain ⟨p,hpp⟩:∃ p,(n:Int)*(z:Int)=p:=⟨_,rfl⟩
 have HP:=Hd hpp;rw [hpp] at hp dB ⊢;have hw:IntKind.i64.wrap ((n:Int)*(z:Int))=p:=by rw [hpp];exact IntWalk.i64_in _ (by omega)
 clear hg;by_cases h1:n=1
 ·subst h1;have e2:m+((z:Int)+3)=m+(p+3*min ((1:Nat):Int) 2):=by have:=HP.out;simp at this;omega
  have HE:=Hd e2;clear e2;go_enter Tryz.func185,Tryz.ntmps185;go_wp2
  go_end0
  exact ⟨rfl,by rw [←HE.out];try rfl⟩
 by_cases h2:n=2
 ·subst h2;have e2:m+(2*(z:Int)+6)=m+(p+3*min ((2:Nat):Int) 2):=by have:=HP.out;simp at this;omega
  have HE:=Hd e2;clear e2;go_enter Tryz.func185,Tryz.ntmps185;go_wp2
  go_end0
  exact ⟨rfl,by rw [←HE.out];try rfl⟩
 have h3:¬ ((n:Int)≤2):=by omega
 have h4:¬ ((n:Int)<2):=by omega
 have h5:(2:Int)<n:=by omega
 have e2:m+(p+6)=m+(p+3*min (n:Int) 2):=by omega
 have HE:=Hd e2;clear e2 h1 h2;go_enter Tryz.func185,Tryz.ntmps185;go_wp2
 go_end0
 exact ⟨rfl,by rw [←HE.out];try rfl⟩
def slLen:Value→Nat
 |.slice _ n _=>n
 |_=>0
def SumP (g:Nat) (m:Int) (w w':Wd):Prop:=Blk w' g 3 #[.int .i64 m]∧Far [g] w w'
theorem run_sum (z k:Nat) (hz:z≤200):((k:Nat):Int)*(z:Int)+3*min (k:Int) 2≤206*(k:Int):=by
 have h:k*z≤k*200:=Nat.mul_le_mul (Le _) hz
 have h2:((k:Nat):Int)*(z:Int)≤200*(k:Int):=by
  rw [←Int.natCast_mul];have:((k*z:Nat):Int)≤((k*200:Nat):Int):=Int.ofNat_le.2 h;rw [Int.natCast_mul k 200] at this;omega
 omega
theorem sl_far1 {n c g:Nat} {A:Option Addr} {l:List Bz} {w w':Wd} {v:Value} (h:Sl Ui 1 w w.heap.size A n c l) (hg:Blk w g 3 #[v]) (hi:∃ m,v = .int .i64 m) (hf:Far [g] w w'):Sl Ui 1 w' w'.heap.size A n c l:=by
 refine ⟨h.1,h.2.1,h.2.2.1,fun hn=>?_⟩;obtain ⟨b,o,rfl,hb,hc⟩:=h.2.2.2 hn;refine ⟨b,o,rfl,Nat.lt_of_lt_of_le hb hf.size,fun j u hu=>?_⟩
 have aZ:b≠g:=by
  intro e;subst e;obtain ⟨m,rfl⟩:=hi;have hl:l.length=n:=h.2.1;obtain ⟨s,hs⟩:∃ s,l[0]? =some s:=⟨_,List.getElem?_eq_getElem (by omega)⟩
  have h0:(Ub Ui l)[0]? =some (.string s):=by
   have:=Xn (f:=Ui) (k:=1) (fun _=>rfl) l 0 s hs 0 (by decide);rw [Nat.zero_mul,Nat.zero_add] at this;exact this
  have m7:=hc 0 _ h0;rw [hg.cell,Nat.add_zero] at m7;rcases Nat.eq_zero_or_pos o with ho|ho
  ·subst ho;simp at m7
  ·simp [Nat.ne_of_gt ho] at m7
 rw [World.cell?_of_block (hf.block b hb (by simpa using aZ))];exact hc j u hu
theorem sl_drop1 {n c k:Nat} {A:Option Addr} {l:List Bz} {w:Wd} {B:Nat} (h:Sl Ui 1 w B A n c l) (hk:k≤n):Sl Ui 1 w B (if c=k then A else A.map (·.add (k*1))) (n-k) (c-k) (l.drop k):=by
 have h1:=h.cap;refine ⟨by omega,by rw [List.length_drop,h.len],?_⟩;have h2:=h.rd.drop hk h1
 rwa [Fz (f:=Ui) (k:=1) (fun _=>rfl) l k] at h2
end Go.Proofs.YtoakknkmjnebjaaGreatDoor
