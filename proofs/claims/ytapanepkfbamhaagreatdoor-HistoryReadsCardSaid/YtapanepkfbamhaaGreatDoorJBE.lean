/- Part of the proof of HistoryReads. -/
import Derived.Test.YtapanepkfbamhaaGreatDoorJBD
namespace Go.Proofs.YtapanepkfbamhaaGreatDoor
open Tryz (prog)
section
set_option maxRecDepth 100000
set_option maxHeartbeats 1000000
open Go.RowKit
theorem cread_index (b0:Nat) (p:Rdd→Bool) (A:Option Addr) (n c:Nat) (l:List Rdd) (w:World) (hs:Sl rdC 6 w w.heap.size A n c l) (hn:n≤9223372036854775807)
  (hC:∀ x∈l,∀ W:World,Below w.heap.size w W→Calls prog 27 #[.agg #[.int .i64 x.kind,.int .i64 x.id,.string x.key,.string x.ak,.string x.ar,.int .i64 x.code],.pointer (some ⟨b0,0,none⟩)] W fun e w'=>e = .returned (.bool (p x))∧Below W.heap.size W w'):
  Calls prog 26 #[.slice A n c,.func (.func 27) #[] #[.pointer (some ⟨b0,0,none⟩)]] w fun e w'=>e = .returned (.int .i64 (if l.findIdx p<n then (l.findIdx p:Int) else -1))∧Below w.heap.size w w':=by
 have HS:=Hd hs;have HL:=Hd hs.len;have HC:=Hd hC;clear hs hC;obtain ⟨R,hR⟩:∃ R:Int,(if l.findIdx p<n then (l.findIdx p:Int) else -1)=R:=⟨_,rfl⟩
 rw [hR];have HR:=Hd hR;clear hR;go_enter Tryz.func26,Tryz.ntmps26;go_wp2;go_loopw [8] (fun i wr => ∃ j:Nat,j≤n∧i = .int .i64 j∧(∀ t,t<j→∀ e,l[t]? =some e→p e=false)∧Below w.heap.size w wr) (fun i _=>n-(intOf i).toNat)
 case atStart=>exact ⟨0,Z0 _,rfl,fun t h=>absurd h (by omega),Bf _ _⟩
 case round=>
  obtain ⟨j,hj,rfl,hall,hbel⟩:=hrel;have HA:=Hd hall;have hsz:=hbel.size;clear hall;by_cases hlt:j<n
  ·obtain ⟨b,o,x,rfl,hb,hg,hcell⟩:=Sl.cell (f:=rdC) (k:=6) (fun _=>rfl) (HS.out.below hbel) hlt
   have c0:=hcell 0 _ rfl;have c1:=hcell 1 _ rfl;have c2:=hcell 2 _ rfl;have c3:=hcell 3 _ rfl;have c4:=hcell 4 _ rfl;have c5:=hcell 5 _ rfl;simp only [Nat.add_zero] at c0;have HCX:=Hd (HC.out x (List.mem_of_getElem? hg) wr hbel);have HG:=Hd hg;clear hg hcell;cases hl:p x with
   |true=>
    have hr:R=(j:Int):=by rw [←HR.out,Un HA.out HG.out hl,if_pos hlt]
    have HRR:=Hd hr;have HLB:=Hd hl;clear hr hl;go_wp2_with fail;refine HCX.out.mono ?_;rintro e w1 ⟨rfl,hb1⟩;rw [HLB.out];have hb2:=U0 hbel hb1 hsz;clear hb1;go_wp2;go_ret;exact ⟨by rw [HRR.out];rfl,hb2⟩
   |false=>
    have HLB:=Hd hl;clear hl;go_wp2_with fail;refine HCX.out.mono ?_;rintro e w1 ⟨rfl,hb1⟩;rw [HLB.out];have hb2:=U0 hbel hb1 hsz;clear hb1;go_wp2;go_roundw
    case rel=>
     refine ⟨j+1,by omega,by go_num,fun t ht e he=>?_,hb2⟩;by_cases h:t=j
     ·subst h;rw [HG.out] at he;injection he with he;subst he;exact HLB.out
     ·exact HA.out t (by omega) e he
    case measure=>simp [intOf];omega
  ·have hr:R = -1:=by rw [←HR.out,Up HL.out (fun t ht=>HA.out t (by omega)),if_neg (by omega)]
   have HRR:=Hd hr;clear hr;go_wp2;go_ret;exact ⟨by rw [HRR.out];rfl,hbel⟩
def Fd (s:List PC) (r:Rdd):Bool := !Xy (Y4 s r.id) r
theorem check11_g (r:Rdd) (b0 bs:Nat) (st:List Cnt) (w:World) (hs:SW w bs st) (hb0:w.cell? ⟨b0,0,none⟩=some (.map (some bs))):
  Calls prog 27 #[.agg #[.int .i64 r.kind,.int .i64 r.id,.string r.key,.string r.ak,.string r.ar,.int .i64 r.code],.pointer (some ⟨b0,0,none⟩)] w fun e w'=>e = .returned (.bool (Fd (st.map plC) r))∧Below w.heap.size w w':=by
 have hb:Below w.heap.size w (w.alloc (.cells (rdC r).toArray 49)):=(Bf _ _).alloc (Le _) _;have HX:=Hd (explained_g r bs st _ (hs.below hb));have c0:∀ o,(w.alloc o).cell? ⟨b0,0,none⟩=some (.map (some bs)):=fun o=>(World.cell?_alloc_lt w _ _ (Is hb0)).trans hb0
 have HBK:=Hd (Blk.new w 49 (rdC r).toArray);have HB:=Hd hb;unfold Fd;clear hs hb0 hb;go_enter Tryz.func27,Tryz.ntmps27;go_wp2_with (first|((with_reducible refine Gl 49 2 ?_);refine Lr rfl 49 _ rfl (w.heap.size) rfl 49 ((rdC r).toArray) (0,0) _ HBK.out Tryz.underlying49 rfl (by kernel_rfl) ?_)|(go_at_call 28;refine HX.out.mono ?_;rintro e w2 ⟨rfl,hb2⟩;have HB2:=Hd (HB.out.trans (hb2.mono HB.out.size));clear hb2));go_ret;exact ⟨rfl,HB2.out⟩
def Chk1P (s:List PC) (i:Nat) (rs:List Rdd) (pu pr:Nat) (w:World) (e:Ending) (w':World):Prop:=
 if rs.findIdx (Fd s)<rs.length then e = .returned (.bool false)∧Far [pu,pr] w w'∧w'.cell? ⟨pu,0,none⟩=some (.int .i64 i)∧w'.cell? ⟨pr,0,none⟩=some (.int .i64 (rs.findIdx (Fd s):Nat))
 else e = .returned (.bool true)∧Below w.heap.size w w'
theorem check1_g (x:Com) (i pu pr bs:Nat) (a0 b0:Int) (st:List Cnt) (w:World) (hs:SW w bs st) (hr:Sl rdC 6 w w.heap.size x.rA x.rn x.rc x.rs) (hn:x.rn≤maxLen) (hu:Blk w pu 3 #[.int .i64 a0]) (hp:Blk w pr 3 #[.int .i64 b0]) (hne:pu≠pr):
  Calls prog 25 #[.map (some bs),.int .i64 i,.agg (U8 x).toArray,.pointer (some ⟨pu,0,none⟩),.pointer (some ⟨pr,0,none⟩)] w (Chk1P (st.map plC) i x.rs pu pr w):=by
 have hb2:Below w.heap.size w ((w.alloc (.cells #[.map (some bs)] 65)).alloc (.cells (U8 x).toArray 34)):=((Bf _ _).alloc (Le _) _).alloc (by simp) _;have k1:Blk ((w.alloc (.cells #[.map (some bs)] 65)).alloc (.cells (U8 x).toArray 34)) w.heap.size 65 #[.map (some bs)]:=(Blk.new w _ _).alloc _;have k2:((w.alloc (.cells #[.map (some bs)] 65)).alloc (.cells (U8 x).toArray 34)).cell? ⟨w.heap.size+1,2,none⟩=some (.slice x.rA x.rn x.rc):=((U3 (w.alloc _) _ _ _ (by simp)).cell 2).trans rfl;have HX:=Hd (cread_index w.heap.size (Fd (st.map plC)) x.rA x.rn x.rc x.rs _ (hr.after hb2 hb2.size) (by unfold maxLen at hn;omega) fun r _ W hW=>check11_g r w.heap.size bs st W ((hs.below hb2).below hW) (((k1.below hW k1.lt).cell 0).trans rfl));have hl:=hr.len;have HB:=Hd hb2;have HU:=Hd (hu.below hb2 hu.lt);have HP:=Hd (hp.below hb2 hp.lt);have HLT:=Hd (And.intro hu.lt hp.lt)
 have HNE:=Hd hne;unfold Chk1P;rw [hl];obtain ⟨q,hq⟩:∃ q,x.rs.findIdx (Fd (st.map plC))=q:=⟨_,rfl⟩
 rw [hq] at HX ⊢;clear hs hr hn hu hp hb2 k1 hl hq;by_cases hlt:q<x.rn
 ·simp only [if_pos hlt] at HX ⊢
  have d1:decide ((0:Int)≤(q:Int))=true:=decide_eq_true (by omega);have d2:decide ((q:Int)<0)=false:=decide_eq_false (by omega);have hne2:=hne.symm;clear hlt;go_enter Tryz.func25,Tryz.ntmps25;go_wp2_with (go_at_call 26;refine HX.out.mono ?_;rintro e w2 ⟨rfl,hb⟩;have hu:=HU.out.below hb HU.out.lt;have hp:=HP.out.below hb HP.out.lt;have HU2:=Hd hu;have HP2:=Hd hp;have HBW:=Hd (HB.out.trans (hb.mono HB.out.size));have u0:=(hu.cell 0).trans (show _=some (Value.int .i64 a0) from rfl);have p0:=(hp.cell 0).trans (show _=some (Value.int .i64 b0) from rfl);have f0:=hu.free 0;have f1:=hp.free 0;clear hb hu hp k2);go_ret;have hf:Far [pu,pr] w ((w2.setCell ⟨pu,0,none⟩ (.int .i64 i)).setCell ⟨pr,0,none⟩ (.int .i64 q)):=((Far.of_below HBW.out).set _ _ _ (.inl (by simp))).set _ _ _ (.inl (by simp));have hc1:=(((HU2.out.set 0 (.int .i64 i)).far (p:=⟨pr,0,none⟩) HNE.out (.int .i64 q)).cell 0)
  have hc2:=((HP2.out.far (p:=⟨pu,0,none⟩) HNE.out.symm (.int .i64 i)).set 0 (.int .i64 q)).cell 0;exact ⟨rfl,hf,hc1.trans rfl,hc2.trans rfl⟩
 ·simp only [if_neg hlt] at HX ⊢
  clear hlt;go_enter Tryz.func25,Tryz.ntmps25;go_wp2_with (go_at_call 26;refine HX.out.mono ?_;rintro e w2 ⟨rfl,hb⟩;have HBW:=Hd (HB.out.trans (hb.mono HB.out.size));clear hb k2);go_ret;exact ⟨rfl,HBW.out⟩
theorem replay1_g (x:Com) (i bs:Nat) (w:World):Calls prog 21 #[.map (some bs),.int .i64 i,.agg (U8 x).toArray] w fun e w'=>e = .returned (.bool true)∧Below w.heap.size w w':=by
 go_enter Tryz.func21,Tryz.ntmps21;go_wp2;go_ret;exact ⟨rfl,(Bf _ _).alloc (Le _) _⟩
end
section
set_option maxRecDepth 100000
set_option maxHeartbeats 2000000
open Go.RowKit
def recOk (d:DSet) (z:Int):Bool:=if d.fmt=0 then (z == d.len) else decide (z≤d.len)
theorem alw_exact (g g2:Nat) (l:Int) (s:ByteArray) (w:World) (hg:w.cell? ⟨g,0,none⟩=some (.func (.func 172) #[] #[])) (h2:w.cell? ⟨g2,3,none⟩=some (.int .i64 l)):
  Calls prog 181 #[.string s,.pointer (some ⟨g,0,none⟩),.pointer (some ⟨g2,0,none⟩)] w fun e w'=>e = .returned (.bool (!((s.size:Int) == l)))∧Below w.heap.size w w':=by
 have HC:=Hd (exact_any (s.size:Int) l w);generalize ((s.size:Int) == l)=z at HC;go_enter Tryz.func181,Tryz.ntmps181;go_wp2_with (go_at_call 172;refine HC.out.mono ?_;rintro e w2 ⟨rfl,rfl⟩);go_ret;exact ⟨rfl,Bf _ _⟩
theorem alw_most (g g2:Nat) (l:Int) (s:ByteArray) (w:World) (hg:w.cell? ⟨g,0,none⟩=some (.func (.func 176) #[] #[])) (h2:w.cell? ⟨g2,3,none⟩=some (.int .i64 l)):
  Calls prog 181 #[.string s,.pointer (some ⟨g,0,none⟩),.pointer (some ⟨g2,0,none⟩)] w fun e w'=>e = .returned (.bool (!(decide ((s.size:Int)≤l))))∧Below w.heap.size w w':=by
 have HC:=Hd (atMost_any (s.size:Int) l w);generalize decide ((s.size:Int)≤l)=z at HC;go_enter Tryz.func181,Tryz.ntmps181;go_wp2_with (go_at_call 176;refine HC.out.mono ?_;rintro e w2 ⟨rfl,rfl⟩);go_ret;exact ⟨rfl,Bf _ _⟩
theorem Xo {w:World} {g:Nat} {r:ByteArray} (hg:Blk w g 9 #[.string r]):Sl Ug 1 w w.heap.size (some ⟨g,0,none⟩) 1 1 [r]:=
 ⟨Le _,rfl,rfl,fun _=>⟨g,0,rfl,hg.lt,fun j u hu=>by
  rw [hg.cell,Nat.zero_add];have:Ua Ug [r] = [.string r]:=rfl;rw [this] at hu;simpa using hu⟩⟩
theorem sqAllowed_any (d:DSet) (g:Nat) (r:ByteArray) (w:World) (hg:Blk w g 9 #[.string r]):Calls prog 140 #[.agg (dC d).toArray,.slice (some ⟨g,0,none⟩) 1 1] w fun e w'=>e = .returned (.bool (recOk d r.size))∧Below w.heap.size w w':=by
 have HB:=Hd (Blk.new w 27 (dC d).toArray);have HF0:=Hd (Xw d (w.alloc (.cells (dC d).toArray 27)));have HX:=Hd ((Bf w.heap.size w).alloc (Le _) (.cells (dC d).toArray 27));have HG:=Hd hg;clear hg;unfold recOk;by_cases h0:d.fmt=0
 ·rw [if_pos h0]
  have HF:Hid (Calls prog 135 #[.agg (dC d).toArray] (w.alloc (.cells (dC d).toArray 27)) fun e w' => ∃ a b c,e = .returned (.agg #[.func (.func 168) #[] #[],.func (.func 169) #[] #[],.func a b c,.int .i64 0,.func (.func 172) #[] #[]])∧Below (w.alloc (.cells (dC d).toArray 27)).heap.size (w.alloc (.cells (dC d).toArray 27)) w'):=Hd (HF0.out.mono fun e w' h=>by
   obtain ⟨a,b,c,k1,k2⟩:=h;refine ⟨a,b,c,?_,k2⟩;rw [k1];unfold fmC;rw [if_pos h0];try rfl)
  clear HF0;have hfd:∀ a b c (W:World),(Instr.field 211 (.agg #[.func (.func 168) #[] #[],.func (.func 169) #[] #[],.func a b c,.int .i64 0,.func (.func 172) #[] #[]]) 4).run prog W = .ok (.func (.func 172) #[] #[]) W:=fun _ _ _ _=>by kernel_rfl
  obtain ⟨z,hz⟩:∃ z,((r.size:Int) == d.len)=z:=⟨_,rfl⟩
  rw [hz];have HZ:=Hd hz;clear hz;go_enter Tryz.func140,Tryz.ntmps140
  go_wp2_with (first|((with_reducible refine Gl 27 2 ?_);refine Lr rfl 27 _ rfl w.heap.size rfl 27 (dC d).toArray (0,0) _ HB.out Tryz.underlying27 rfl (by kernel_rfl) ?_)|(go_at_call 135;go_loud (refine HF.out.mono ?_;rintro e w2 ⟨a,b,c,rfl,hb⟩;have HB2:=Hd (HX.out.trans (hb.mono (by simp)));have HCF:=Hd (show Calls prog 180 #[.slice (some ⟨g,0,none⟩) 1 1,.func (.func 181) #[] #[.pointer (some ⟨w2.heap.size,0,none⟩),.pointer (some ⟨w.heap.size,0,none⟩)]] (w2.alloc (.cells #[.func (.func 172) #[] #[]] 167)) fun e w'=>e = .returned (.bool (!z))∧Below (w2.alloc (.cells #[.func (.func 172) #[] #[]] 167)).heap.size (w2.alloc (.cells #[.func (.func 172) #[] #[]] 167)) w' from by have h:=Kn w2.heap.size w.heap.size (fun s => !((s.size:Int) == d.len)) _ 1 1 [r] _ (Xo ((HG.out.below HB2.out HG.out.lt).alloc (.cells #[.func (.func 172) #[] #[]] 167))) (by decide) (fun x _ W hW=>alw_exact w2.heap.size w.heap.size d.len x W ((((Blk.new w2 _ _).below hW (by simp)).cell 0).trans rfl) ((((HB.out.below hb (by simp)).alloc _).below hW (by have:=hb.size;simp at this;simp;omega)).cell 3 |>.trans rfl));simp only [List.any_cons,List.any_nil,Bool.or_false,HZ.out] at h;exact h);clear hb))|(go_at_call 180;refine HCF.out.mono ?_;rintro e w3 ⟨rfl,hb⟩;have HB3:=Hd ((HB2.out.alloc HB2.out.size _).trans (hb.mono (by have:=HB2.out.size;simp;omega)));clear hb))
  go_ret;exact ⟨by cases z<;>rfl,HB3.out⟩
 rw [if_neg h0];by_cases h1:d.fmt=1
 ·skip
  have HF:Hid (Calls prog 135 #[.agg (dC d).toArray] (w.alloc (.cells (dC d).toArray 27)) fun e w' => ∃ a b c,e = .returned (.agg #[.func (.func 173) #[] #[],.func (.func 174) #[] #[],.func a b c,.int .i64 0,.func (.func 176) #[] #[]])∧Below (w.alloc (.cells (dC d).toArray 27)).heap.size (w.alloc (.cells (dC d).toArray 27)) w'):=Hd (HF0.out.mono fun e w' h=>by
   obtain ⟨a,b,c,k1,k2⟩:=h;refine ⟨a,b,c,?_,k2⟩;rw [k1];unfold fmC;rw [if_neg h0,if_pos h1];try rfl)
  clear HF0;have hfd:∀ a b c (W:World),(Instr.field 211 (.agg #[.func (.func 173) #[] #[],.func (.func 174) #[] #[],.func a b c,.int .i64 0,.func (.func 176) #[] #[]]) 4).run prog W = .ok (.func (.func 176) #[] #[]) W:=fun _ _ _ _=>by kernel_rfl
  obtain ⟨z,hz⟩:∃ z,(decide ((r.size:Int)≤d.len))=z:=⟨_,rfl⟩
  rw [hz];have HZ:=Hd hz;clear hz;go_enter Tryz.func140,Tryz.ntmps140
  go_wp2_with (first|((with_reducible refine Gl 27 2 ?_);refine Lr rfl 27 _ rfl w.heap.size rfl 27 (dC d).toArray (0,0) _ HB.out Tryz.underlying27 rfl (by kernel_rfl) ?_)|(go_at_call 135;go_loud (refine HF.out.mono ?_;rintro e w2 ⟨a,b,c,rfl,hb⟩;have HB2:=Hd (HX.out.trans (hb.mono (by simp)));have HCF:=Hd (show Calls prog 180 #[.slice (some ⟨g,0,none⟩) 1 1,.func (.func 181) #[] #[.pointer (some ⟨w2.heap.size,0,none⟩),.pointer (some ⟨w.heap.size,0,none⟩)]] (w2.alloc (.cells #[.func (.func 176) #[] #[]] 167)) fun e w'=>e = .returned (.bool (!z))∧Below (w2.alloc (.cells #[.func (.func 176) #[] #[]] 167)).heap.size (w2.alloc (.cells #[.func (.func 176) #[] #[]] 167)) w' from by have h:=Kn w2.heap.size w.heap.size (fun s => !(decide ((s.size:Int)≤d.len))) _ 1 1 [r] _ (Xo ((HG.out.below HB2.out HG.out.lt).alloc (.cells #[.func (.func 176) #[] #[]] 167))) (by decide) (fun x _ W hW=>alw_most w2.heap.size w.heap.size d.len x W ((((Blk.new w2 _ _).below hW (by simp)).cell 0).trans rfl) ((((HB.out.below hb (by simp)).alloc _).below hW (by have:=hb.size;simp at this;simp;omega)).cell 3 |>.trans rfl));simp only [List.any_cons,List.any_nil,Bool.or_false,HZ.out] at h;exact h);clear hb))|(go_at_call 180;refine HCF.out.mono ?_;rintro e w3 ⟨rfl,hb⟩;have HB3:=Hd ((HB2.out.alloc HB2.out.size _).trans (hb.mono (by have:=HB2.out.size;simp;omega)));clear hb))
  go_ret;exact ⟨by cases z<;>rfl,HB3.out⟩
 have HF:Hid (Calls prog 135 #[.agg (dC d).toArray] (w.alloc (.cells (dC d).toArray 27)) fun e w' => ∃ a b c,e = .returned (.agg #[.func (.func 177) #[] #[],.func (.func 178) #[] #[],.func a b c,.int .i64 32,.func (.func 176) #[] #[]])∧Below (w.alloc (.cells (dC d).toArray 27)).heap.size (w.alloc (.cells (dC d).toArray 27)) w'):=Hd (HF0.out.mono fun e w' h=>by
  obtain ⟨a,b,c,k1,k2⟩:=h;refine ⟨a,b,c,?_,k2⟩;rw [k1];unfold fmC;rw [if_neg h0,if_neg h1];try rfl)
 clear HF0;have hfd:∀ a b c (W:World),(Instr.field 211 (.agg #[.func (.func 177) #[] #[],.func (.func 178) #[] #[],.func a b c,.int .i64 32,.func (.func 176) #[] #[]]) 4).run prog W = .ok (.func (.func 176) #[] #[]) W:=fun _ _ _ _=>by kernel_rfl
 obtain ⟨z,hz⟩:∃ z,(decide ((r.size:Int)≤d.len))=z:=⟨_,rfl⟩
 rw [hz];have HZ:=Hd hz;clear hz;go_enter Tryz.func140,Tryz.ntmps140
 go_wp2_with (first|((with_reducible refine Gl 27 2 ?_);refine Lr rfl 27 _ rfl w.heap.size rfl 27 (dC d).toArray (0,0) _ HB.out Tryz.underlying27 rfl (by kernel_rfl) ?_)|(go_at_call 135;go_loud (refine HF.out.mono ?_;rintro e w2 ⟨a,b,c,rfl,hb⟩;have HB2:=Hd (HX.out.trans (hb.mono (by simp)));have HCF:=Hd (show Calls prog 180 #[.slice (some ⟨g,0,none⟩) 1 1,.func (.func 181) #[] #[.pointer (some ⟨w2.heap.size,0,none⟩),.pointer (some ⟨w.heap.size,0,none⟩)]] (w2.alloc (.cells #[.func (.func 176) #[] #[]] 167)) fun e w'=>e = .returned (.bool (!z))∧Below (w2.alloc (.cells #[.func (.func 176) #[] #[]] 167)).heap.size (w2.alloc (.cells #[.func (.func 176) #[] #[]] 167)) w' from by have h:=Kn w2.heap.size w.heap.size (fun s => !(decide ((s.size:Int)≤d.len))) _ 1 1 [r] _ (Xo ((HG.out.below HB2.out HG.out.lt).alloc (.cells #[.func (.func 176) #[] #[]] 167))) (by decide) (fun x _ W hW=>alw_most w2.heap.size w.heap.size d.len x W ((((Blk.new w2 _ _).below hW (by simp)).cell 0).trans rfl) ((((HB.out.below hb (by simp)).alloc _).below hW (by have:=hb.size;simp at this;simp;omega)).cell 3 |>.trans rfl));simp only [List.any_cons,List.any_nil,Bool.or_false,HZ.out] at h;exact h);clear hb))|(go_at_call 180;refine HCF.out.mono ?_;rintro e w3 ⟨rfl,hb⟩;have HB3:=Hd ((HB2.out.alloc HB2.out.size _).trans (hb.mono (by have:=HB2.out.size;simp;omega)));clear hb))
 go_ret;exact ⟨by cases z<;>rfl,HB3.out⟩
end
section
set_option maxRecDepth 100000
set_option maxHeartbeats 4000000
open Go.RowKit
def PkU (w:World) (e:Ending) (w':World):Prop:=∃ A n c L,e = .returned (.tuple #[.slice A n c,.int .i64 0])∧Sl Ug 1 w' w'.heap.size A n c L∧n≤1100∧(∀ s∈L,s.size≤2000)∧Below w.heap.size w w'
def PaG (ap:Int) (g:Nat) (w:World) (e:Ending) (w':World):Prop:=∃ A n c st,e = .returned (.agg (ctC ap (some ⟨g,0,none⟩) 1 1 A n c st).toArray)∧st.size≤3000000∧Below w.heap.size w w'
theorem bytes2 (W:World) (a b:Int):(convert 175 9 (.slice (some ⟨W.heap.size,0,none⟩) 2 2)).run prog (W.alloc (.cells #[.int .u8 a,.int .u8 b] 5)) = .ok (.string (strOfNums [a,b])) (W.alloc (.cells #[.int .u8 a,.int .u8 b] 5)):=
 Eg _ W.heap.size 2 2 5 [a,b] (Blk.new W _ _) rfl
structure PL1 (d:DSet) (ap:Int) (g:Nat) (A:Option Addr) (n c:Nat) (L:List ByteArray) (w w5:World) (st:ByteArray) (W:World):Prop where
 be:Below w.heap.size w W
 be5:Below w5.heap.size w5 W
 lt:w5.heap.size+1≤W.heap.size
 z5:w.heap.size+2≤w5.heap.size
 cb:Blk W w5.heap.size 219 (ctC ap (some ⟨g,0,none⟩) 1 1 A n c st).toArray
 zb:Blk W (w.heap.size+1) 219 #[.int .i64 0,.slice none 0 0,.slice none 0 0,.string ⟨#[]⟩]
 sl:Sl Ug 1 W w5.heap.size A n c L
theorem pl1_next {d:DSet} {ap:Int} {g:Nat} {A:Option Addr} {n c:Nat} {L:List ByteArray} {w w5:World} {st:ByteArray} {W W':World} (h:PL1 d ap g A n c L w w5 st W) (hb:Below W.heap.size W W'):PL1 d ap g A n c L w w5 st W':=
 have hz:=h.lt;have h5:=h.z5
 ⟨U0 h.be hb h.be.size,U0 h.be5 hb h.be5.size,Lx hz hb.size,h.z5,h.cb.below hb (by omega),h.zb.below hb (by omega),h.sl.below (hb.mono (by omega))⟩
theorem pl1_set {d:DSet} {ap:Int} {g:Nat} {A:Option Addr} {n c:Nat} {L:List ByteArray} {w w5:World} {st:ByteArray} {W:World} (s2:ByteArray) (h:PL1 d ap g A n c L w w5 st W):PL1 d ap g A n c L w w5 s2 (W.setCell ⟨w5.heap.size,3,none⟩ (.string s2)):=
 have h5:=h.z5;have hb:Below w5.heap.size W (W.setCell ⟨w5.heap.size,3,none⟩ (.string s2)):=Eh (Le _) [.string s2] 3 W (Bf _ _);have hb0:Below w.heap.size w (W.setCell ⟨w5.heap.size,3,none⟩ (.string s2)):=Eh (by omega) [.string s2] 3 W h.be
 ⟨hb0,h.be5.trans hb,Lx h.lt hb.size,h.z5,h.cb.set 3 _,h.zb.below hb (by omega),h.sl.below hb⟩
theorem pack_of (d:DSet) (ap:Int) (g:Nat) (r:ByteArray) (w:World) (pk:Nat) (v0 v3 v4:Value) (hg:Blk w g 9 #[.string r])
  (hcf:∀ args W,(callFunc pk args).run prog W = .ok (.enter pk args) W)
  (hf:∀ W,Calls prog 135 #[.agg (dC d).toArray] W fun e w' => ∃ v2,e = .returned (.agg #[v0,.func (.func pk) #[] #[],v2,v3,v4])∧Below W.heap.size W w')
  (hpk:∀ W,Below w.heap.size w W→Calls prog pk #[.int .i64 d.len,.int .i64 d.blk,.slice (some ⟨g,0,none⟩) 1 1] W (PkU W)):
  Calls prog 141 #[.agg (dC d).toArray,.int .i64 ap,.slice (some ⟨g,0,none⟩) 1 1] w (PaG ap g w):=by
 have HF:=Hd hf;have HPK:=Hd hpk;have HB0:=Hd (Blk.new w 27 (dC d).toArray);have HZ:=Hd (U3 (w.alloc (.cells (dC d).toArray 27)) 219 #[.int .i64 0,.slice none 0 0,.slice none 0 0,.string ⟨#[]⟩] (w.heap.size+1) (by simp));have HX:=Hd (((Bf w.heap.size w).alloc (Le _) (.cells (dC d).toArray 27)).alloc (by simp) (.cells #[.int .i64 0,.slice none 0 0,.slice none 0 0,.string ⟨#[]⟩] 219));have HXZ:Hid (w.heap.size+2≤((w.alloc (.cells (dC d).toArray 27)).alloc (.cells #[.int .i64 0,.slice none 0 0,.slice none 0 0,.string ⟨#[]⟩] 219)).heap.size):=Hd (by simp);have HFD:Hid (∀ v2 (W:World),(Instr.field 211 (.agg #[v0,.func (.func pk) #[] #[],v2,v3,v4]) 1).run prog W = .ok (.func (.func pk) #[] #[]) W):=Hd fun _ _=>by kernel_rfl
 have HG:=Hd hg;have HBD:=Hd (HB0.out.alloc (.cells #[.int .i64 0,.slice none 0 0,.slice none 0 0,.string ⟨#[]⟩] 219));clear hg hf hpk;go_enter Tryz.func141,Tryz.ntmps141;go_wp2;generalize ((w.alloc (.cells (dC d).toArray 27)).alloc (.cells #[.int .i64 0,.slice none 0 0,.slice none 0 0,.string ⟨#[]⟩] 219))=X at HZ HX HXZ HBD ⊢;clear HB0;have HXD:=Hd HX.out.drew;have HZD:=Hd HZ.out.drew;have HXZD:Hid (w.heap.size+2≤X.drew.heap.size):=Hd HXZ.out;refine Rw (S:=fun w'=>Blk w' w.heap.size 27 (dC d).toArray) (by kernel_rfl) HBD.out.drew (fun Hh=>?_);refine tk 0 (.agg (dC d).toArray) Hh ?_ (y:=by exact yieldsIf_load_mid (by rfl) 27 _ rfl w.heap.size 0 rfl (dC d) _ (fun w' hSw j v hv=>by rw [hSw.cell,Nat.zero_add,Ga];exact hv) Tryz.underlying27 rfl (by kernel_rfl));refine tk 3 (.pointer (some ⟨w.heap.size,3,none⟩)) Hh ?_
 refine tk 4 (.int .i64 d.len) Hh ?_ (y:=by exact Or.inl ⟨by rfl,by intro w' hSw;have h1:=(hSw.cell 3).trans (show _=some (Value.int .i64 d.len) from rfl);go_simp⟩);refine tk 5 (.pointer (some ⟨w.heap.size,4,none⟩)) Hh ?_;refine tk 6 (.int .i64 d.blk) Hh ?_ (y:=by exact Or.inl ⟨by rfl,by intro w' hSw;have h1:=(hSw.cell 4).trans (show _=some (Value.int .i64 d.blk) from rfl);go_simp⟩);refine tk 7 (.slice (some ⟨g,0,none⟩) 1 1) Hh ?_;refine Ar (rs:=[1]) (by kernel_rfl) (by simp) ?_;refine Rc (fun K hK=>?_) ?_
 ·go_simp
  refine (HF.out _).mono ?_;rintro e w3 ⟨v2,rfl,hb3⟩;simp only [];have HX3:=Hd (U0 HXD.out hb3 HXD.out.size);have HZ3:=Hd (HZD.out.below hb3 (by have:=HXZD.out;omega));have HXZ3:=Hd (Lx HXZD.out hb3.size);refine hK.out _ _ (Hh.below hb3 Hh.lt) (fun Hh=>?_);clear hK K hb3 HF;try simp only [Act.put,Sv,Sz,Sw]
  refine tk 2 (.func (.func pk) #[] #[]) Hh ?_ (y:=by exact Or.inl ⟨by rfl,by intro w' hSw;have h1:=HFD.out v2 w';go_simp⟩);refine Ar (rs:=[8]) (by kernel_rfl) (by simp) ?_;refine Rc (fun K hK=>?_) ?_
  ·go_simp
   refine (HPK.out _ HX3.out).mono ?_;rintro e w5 ⟨A,n,c,L,rfl,hsl,hn,hsz,hb5⟩;simp only [];have HX5:=Hd (U0 HX3.out hb5 HX3.out.size);have HZ5:=Hd (HZ3.out.below hb5 (by have:=HXZ3.out;omega));have HXZ5:=Hd (Lx HXZ3.out hb5.size);have HSL:=Hd hsl;have HN:=Hd hn;have HSZ:=Hd hsz;refine hK.out _ _ (Hh.below hb5 Hh.lt) (fun Hh=>?_);clear hK K hb5 HPK hsl hn hsz;try simp only [Act.put,Sv,Sz,Sw]
   refine tk 9 (.tuple #[.slice A n c,.int .i64 0]) Hh ?_;refine tk 10 (.slice A n c) Hh ?_;refine tk 11 (.int .i64 0) Hh ?_;refine tk 12 (.slice A n c) Hh ?_;refine tk 13 (.int .i64 0) Hh ?_;refine Ad (by kernel_rfl) ?_ _;clear Hh;have HB6:=Hd fun old=>Blk.new w5 219 old
   have HS6:=Hd fun old=>U1 w5 old (ctC ap (some ⟨g,0,none⟩) 1 1 A n c ⟨#[]⟩).toArray 219
   have HON:Hid ((ctC ap (some ⟨g,0,none⟩) 1 1 A n c ⟨#[]⟩).toArray.all (·.oneCell')=true):=Hd (by simp [ctC,Value.oneCell']);have HPL:Hid (PL1 d ap g A n c L w w5 ⟨#[]⟩ (w5.alloc (.cells (ctC ap (some ⟨g,0,none⟩) 1 1 A n c ⟨#[]⟩).toArray 219))):=Hd ⟨HX5.out.alloc HX5.out.size _,(Bf _ _).alloc (Le _) _,by simp,HXZ5.out,Blk.new _ _ _,HZ5.out.alloc _,HSL.out.below ((Bf _ _).alloc (Le _) _)⟩;clear HSL HX5 HZ5 HXZ5 HX3 HZ3 HXZ3 HXD HZD HXZD HFD;go_wp2_with (first|((with_reducible refine Gt 219 9 ?_);refine Lt rfl 219 _ _ rfl (w5.heap.size) ((ctC ap (some ⟨g,0,none⟩) 1 1 A n c ⟨#[]⟩)).toArray rfl rfl 219 _ (HB6.out _) (by kernel_rfl) rfl HON.out ?_;rw [HS6.out]));clear hcf;have hn1:=HN.out;go_loopw [30] (fun v30 wr => ∃ (j:Nat) (st:ByteArray),j≤n∧v30 = .int .i64 j∧st.size≤2002*j∧PL1 d ap g A n c L w w5 st wr) (fun v30 _=>n-(intOf v30).toNat)
   case atStart=>exact ⟨0,⟨#[]⟩,Z0 _,rfl,by decide,HPL.out⟩
   case round=>
    obtain ⟨j,st,hj,rfl,hst,hpl⟩:=hrel;obtain ⟨wx,rfl⟩:∃ z:World,z=wr:=⟨_,rfl⟩
    have HP1:=Hd hpl;have HST:=Hd hst;clear hpl hst;by_cases hlt:j<n
    ·obtain ⟨b,o,x,rfl,hb,hg,hcell⟩:=Sl.cell (f:=Ug) (k:=1) (fun _=>rfl) HP1.out.sl hlt
     have c0:=hcell 0 _ rfl;simp only [Nat.add_zero,Nat.mul_one] at c0;have hxs:x.size≤2000:=HSZ.out x (List.mem_of_getElem? hg);have hss:st.size≤2002*j:=HST.out;have c3:=(HP1.out.cb.cell 3).trans (show _=some (Value.string st) from rfl);have c3a:(wx.alloc (.cells #[.int .u8 ((x.size:Int) % 256),.int .u8 ((x.size:Int) / 256)] 5)).cell? ⟨w5.heap.size,3,none⟩=some (.string st):=((HP1.out.cb.alloc _).cell 3).trans rfl;have c3f:(wx.alloc (.cells #[.int .u8 ((x.size:Int) % 256),.int .u8 ((x.size:Int) / 256)] 5)).frozen? ⟨w5.heap.size,3,none⟩=false:=(HP1.out.cb.alloc _).free 3;have hcv:=bytes2 wx ((x.size:Int) % 256) ((x.size:Int) / 256);have hz:(strOfNums [(x.size:Int) % 256,(x.size:Int) / 256]).size=2:=by rw [strOfNums_size];rfl
     obtain ⟨s2,hs2⟩:∃ s2,strOfNums [(x.size:Int) % 256,(x.size:Int) / 256]=s2:=⟨_,rfl⟩
     rw [hs2] at hcv hz;have HZ2:=Hd hz;have k1:¬ (9223372036854775807<s2.size+x.size):=by omega
     have k2:¬ (9223372036854775807<st.size+(s2.size+x.size)):=by omega
     have k3:¬ (9223372036854775807<st.size+(s2++x).size):=by rw [ByteArray.size_append];omega
     have HP2:=Hd (pl1_set (st++(s2++x)) (pl1_next HP1.out ((Bf _ _).alloc (Le _) (.cells #[.int .u8 ((x.size:Int) % 256),.int .u8 ((x.size:Int) / 256)] 5))));have HT2:Hid ((st++(s2++x)).size≤2002*(j+1)):=Hd (by rw [ByteArray.size_append,ByteArray.size_append];omega);clear hb hg hcell hz hs2;go_wp2;go_roundw
     case rel=>exact ⟨j+1,_,by omega,by go_num,HT2.out,HP2.out⟩
     case measure=>simp [intOf];omega
    ·obtain rfl:j=n:=by omega
     have HR9:=Hd HP1.out.cb;have HON2:Hid ((ctC ap (some ⟨g,0,none⟩) 1 1 A j c st).toArray.all (·.oneCell')=true):=Hd (by simp [ctC,Value.oneCell']);have HST3:Hid (st.size≤3000000):=Hd (by have:=HST.out;omega);go_wp2_with (first|((with_reducible refine Gl 219 9 ?_);refine Lr rfl 219 _ rfl (w5.heap.size) rfl 219 _ (0,0) _ HR9.out Tryz.underlying219 rfl (by kernel_rfl) ?_)|((with_reducible refine Gt 219 6 ?_);refine Lt rfl 219 _ _ rfl (w.heap.size+1) (ctC ap (some ⟨g,0,none⟩) 1 1 A j c st).toArray rfl rfl 219 _ HP1.out.zb (by kernel_rfl) rfl HON2.out ?_));have hlz:w.heap.size+1<wx.heap.size:=by have:=HP1.out.lt;have:=HP1.out.z5;omega
     have hrr:=results_ct (wx.setRow (w.heap.size+1) (ctC ap (some ⟨g,0,none⟩) 1 1 A j c st).toArray) (w.heap.size+1) (ctC ap (some ⟨g,0,none⟩) 1 1 A j c st).toArray (setRow_heap _ _ _ _ _ _ HP1.out.zb) rfl;exact Br (v:=.agg (ctC ap (some ⟨g,0,none⟩) 1 1 A j c st).toArray) (Vi Tryz.results141 rfl hrr) rfl ⟨A,j,c,st,rfl,HST3.out,U6 HP1.out.be (by omega) _⟩
  exact An
 exact An
end
section
set_option maxHeartbeats 4000000
set_option maxRecDepth 100000
open Go.RowKit
theorem pack_any (d:DSet) (ap:Int) (g:Nat) (r:ByteArray) (w:World) (hc:Cod w) (hv:Zp d=true) (ho:recOk d r.size=true) (hg:Blk w g 9 #[.string r]):
  Calls prog 141 #[.agg (dC d).toArray,.int .i64 ap,.slice (some ⟨g,0,none⟩) 1 1] w (PaG ap g w):=by
 have hs:Jo d.fmt d.len d.blk=true:=by
  unfold Zp at hv;simp only [Bool.and_eq_true] at hv;exact hv.1.2
 unfold recOk at ho;unfold Jo at hs;by_cases h0:d.fmt=0
 ·rw [if_pos h0] at ho hs
  have hl:(r.size:Int)=d.len:=by simpa using ho
  refine pack_of d ap g r w 169 (.func (.func 168) #[] #[]) (.int .i64 0) (.func (.func 172) #[] #[]) hg (fun args W=>by kernel_rfl) (fun W=>(Xw d W).mono fun e w' h=>?_) (fun W hb=>?_)
  ·obtain ⟨a,b,c,k1,k2⟩:=h
   exact ⟨.func a b c,by rw [k1];unfold fmC;rw [if_pos h0],k2⟩
  ·refine (fixPack_any d.len d.blk g r W hs (hg.below hb hg.lt) hl).mono fun e w' h=>?_
   obtain ⟨A,n,c,L,k1,k2,k3,k4,k5⟩:=h;exact ⟨A,n,c,L,k1,k2,by omega,k4,k5⟩
 rw [if_neg h0] at ho hs;have hl:(r.size:Int)≤d.len:=by simpa using ho
 by_cases h1:d.fmt=1
 ·rw [if_pos h1] at hs
  refine pack_of d ap g r w 174 (.func (.func 173) #[] #[]) (.int .i64 0) (.func (.func 176) #[] #[]) hg (fun args W=>by kernel_rfl) (fun W=>(Xw d W).mono fun e w' h=>?_) (fun W hb=>?_)
  ·obtain ⟨a,b,c,k1,k2⟩:=h
   exact ⟨.func a b c,by rw [k1];unfold fmC;rw [if_neg h0,if_pos h1],k2⟩
  ·refine (varPack_any d.len d.blk g r W hs (hg.below hb hg.lt) hl).mono fun e w' h=>?_
   obtain ⟨A,n,c,L,k1,k2,k3,k4,k5⟩:=h;exact ⟨A,n,c,L,k1,k2,by omega,k4,k5⟩
 ·rw [if_neg h1] at hs
  refine pack_of d ap g r w 178 (.func (.func 177) #[] #[]) (.int .i64 32) (.func (.func 176) #[] #[]) hg (fun args W=>by kernel_rfl) (fun W=>(Xw d W).mono fun e w' h=>?_) (fun W hb=>?_)
  ·obtain ⟨a,b,c,k1,k2⟩:=h
   exact ⟨.func a b c,by rw [k1];unfold fmC;rw [if_neg h0,if_neg h1],k2⟩
  ·exact spnPack_any d.len d.blk g r W (hc.after hb) hs (hg.below hb hg.lt) hl
theorem infoSW:(prog.info? 222).map (fun i=>(i.zero,i.size,i.bytes))=some (some (.agg #[.int .i64 0,.string ⟨#[]⟩]),2,24):=by kernel_rfl
def FrB (a b:Nat) (w w':World):Prop:=∀ p:Addr,a<p.block→p.block<b→w'.cell? p=w.cell? p
theorem frb_app {a b:Nat} {w0 wx w':World} {o:Obj} {row:Option Nat} (h:FrB a b w0 wx) (hz:b≤wx.heap.size) (hg:(wx.alloc o).grownBy w' row) (hr:∀ k,row=some k→k≤a∨b≤k):FrB a b w0 w':=fun p h1 h2=>
 (World.cell?_of_block (hg.block p.block (by simp;omega) (fun e=>by rcases hr _ e.symm with q|q<;>omega))).trans ((World.cell?_of_block (Below.heap_alloc wx o p.block (by omega))).trans (h p h1 h2))
def seqE (d:DSet) (z:Int):Int:=if Zp d then (if recOk d z then 0 else 2) else 1
def BuG (R:Int) (w:World) (e:Ending) (w':World):Prop:=∃ v,e = .returned (.tuple #[v,.int .i64 R])∧Below w.heap.size w w'
theorem build_any (d:DSet) (g:Nat) (r:ByteArray) (w:World) (hc:Cod w) (hg:Blk w g 9 #[.string r]):
  Calls prog 118 #[.agg (dC d).toArray,.int .i64 0,.slice (some ⟨g,0,none⟩) 1 1] w (BuG (seqE d r.size) w):=by
 obtain ⟨i0,hi0,hz0,hz1,hz2⟩:=info_parts infoSW;have HB:=Hd (Blk.new w 27 (dC d).toArray);have HX:=Hd ((Bf w.heap.size w).alloc (Le _) (.cells (dC d).toArray 27));have HV:=Hd (Jp d (w.alloc (.cells (dC d).toArray 27)));have HG:=Hd hg;have HC:=Hd hc;unfold seqE;clear hc hg;cases hv:Zp d with
 |false=>
  rw [hv] at HV;clear hv;go_enter Tryz.func118,Tryz.ntmps118;go_wp2_with (first|((with_reducible refine Gl 27 3 ?_);refine Lr rfl 27 _ rfl (w.heap.size) rfl 27 (dC d).toArray (0,0) _ HB.out Tryz.underlying27 rfl (by kernel_rfl) ?_)|(go_at_call 108;refine HV.out.mono ?_;rintro e w2 ⟨rfl,hb⟩;have HX2:=Hd (U0 HX.out hb HX.out.size);have HB2:=Hd (HB.out.below hb HB.out.lt);clear hb))
  go_ret2
  exact ⟨_,rfl,HX2.out⟩
 |true=>
  rw [hv] at HV;have HVB:=Hd hv;clear hv;have HN:Hid (∀ W,Calls prog 139 #[.int .i64 0] W fun e w'=>e = .returned (.bool true)∧W=w'):=Hd fun W=>seqNum_any 0 W
  have HA:Hid (∀ W,Below w.heap.size w W→Calls prog 140 #[.agg (dC d).toArray,.slice (some ⟨g,0,none⟩) 1 1] W fun e w'=>e = .returned (.bool (recOk d r.size))∧Below W.heap.size W w'):=Hd fun W hb=>sqAllowed_any d g r W (HG.out.below hb HG.out.lt)
  cases hr:recOk d r.size with
  |false=>
   rw [hr] at HA;clear hr;go_enter Tryz.func118,Tryz.ntmps118;go_wp2_with (first|((with_reducible refine Gl 27 3 ?_);refine Lr rfl 27 _ rfl (w.heap.size) rfl 27 (dC d).toArray (0,0) _ (by first|exact HB2.out|exact HB.out) Tryz.underlying27 rfl (by kernel_rfl) ?_)|(go_at_call 108;refine HV.out.mono ?_;rintro e w2 ⟨rfl,hb⟩;have HX2:=Hd (U0 HX.out hb HX.out.size);have HB2:=Hd (HB.out.below hb HB.out.lt);clear hb)|(go_at_call 139;refine (HN.out _).mono ?_;rintro e w3 ⟨rfl,rfl⟩)|(go_at_call 140;refine (HA.out _ HX2.out).mono ?_;rintro e w4 ⟨rfl,hb⟩;have HX4:=Hd (U0 HX2.out hb HX2.out.size);have HB4:=Hd (HB2.out.below hb HB2.out.lt);clear hb))
   go_ret2
   exact ⟨_,rfl,HX4.out⟩
  |true=>
   rw [hr] at HA;have HRO:=Hd hr;clear hr;have HPK:Hid (∀ W,Below w.heap.size w W→Calls prog 141 #[.agg (dC d).toArray,.int .i64 0,.slice (some ⟨g,0,none⟩) 1 1] W (PaG 0 g W)):=Hd fun W hb=>pack_any d 0 g r W (HC.out.after hb) HVB.out HRO.out (HG.out.below hb HG.out.lt)
   go_enter Tryz.func118,Tryz.ntmps118
   go_wp2_with (first|((with_reducible refine Gl 27 3 ?_);refine Lr rfl 27 _ rfl (w.heap.size) rfl 27 (dC d).toArray (0,0) _ (by first|exact HB4.out|exact HB2.out|exact HB.out) Tryz.underlying27 rfl (by kernel_rfl) ?_)|(go_at_call 108;refine HV.out.mono ?_;rintro e w2 ⟨rfl,hb⟩;have HX2:=Hd (U0 HX.out hb HX.out.size);have HB2:=Hd (HB.out.below hb HB.out.lt);clear hb)|(go_at_call 139;refine (HN.out _).mono ?_;rintro e w3 ⟨rfl,rfl⟩)|(go_at_call 140;refine (HA.out _ HX2.out).mono ?_;rintro e w4 ⟨rfl,hb⟩;have HX4:=Hd (U0 HX2.out hb HX2.out.size);have HB4:=Hd (HB2.out.below hb HB2.out.lt);clear hb)|(go_at_call 141;refine (HPK.out _ HX4.out).mono ?_;rintro e w5 ⟨A,n,c,st,rfl,hst,hb⟩;have HX5:=Hd (U0 HX4.out hb HX4.out.size);have HST:=Hd hst;have HB6:=Hd fun old=>Blk.new w5 219 old;have HS6:=Hd fun old=>U1 w5 old (ctC 0 (some ⟨g,0,none⟩) 1 1 A n c st).toArray 219;have HON:Hid ((ctC 0 (some ⟨g,0,none⟩) 1 1 A n c st).toArray.all (·.oneCell')=true):=Hd (by simp [ctC,Value.oneCell']);have HX6:=Hd (HX5.out.alloc HX5.out.size (.cells (ctC 0 (some ⟨g,0,none⟩) 1 1 A n c st).toArray 219));have HB7:=Hd (Blk.new w5 219 (ctC 0 (some ⟨g,0,none⟩) 1 1 A n c st).toArray);have HH:=Hd (head_any 0 (some ⟨g,0,none⟩) 1 1 A n c st (w5.alloc (.cells (ctC 0 (some ⟨g,0,none⟩) 1 1 A n c st).toArray 219)) (by decide) (by decide) (by decide) hst);clear hb hst)|((with_reducible refine Gt 219 8 ?_);refine Lt rfl 219 _ _ rfl (w5.heap.size) ((ctC 0 (some ⟨g,0,none⟩) 1 1 A n c st)).toArray rfl rfl 219 _ (HB6.out _) (by kernel_rfl) rfl HON.out ?_;rw [HS6.out])|((with_reducible refine Gl 219 8 ?_);refine Lr rfl 219 _ rfl (w5.heap.size) rfl 219 ((ctC 0 (some ⟨g,0,none⟩) 1 1 A n c st)).toArray (0,0) _ (by first|exact HB9.out|exact HB7.out) Tryz.underlying219 rfl (by kernel_rfl) ?_)|(go_at_call 142;refine HH.out.mono ?_;rintro e w7 ⟨n7,t7,he,hb⟩;have he2:e = .returned (.agg #[.int .i64 n7,.string t7]):=he;clear he;subst he2;have HX7:=Hd (U0 HX6.out hb HX6.out.size);have HB8:=Hd (HB7.out.below hb HB7.out.lt);have HX8:=Hd (HX7.out.alloc HX7.out.size (.cells #[.int .i64 n7,.string t7] 222));have HB9:=Hd (HB8.out.alloc (.cells #[.int .i64 n7,.string t7] 222));have HO8:Hid ((w7.alloc (.cells #[.int .i64 n7,.string t7] 222)).ownsRow w.heap.size 222 2 (.slice (some ⟨w7.heap.size,0,none⟩) 1 1) 1 [.int .i64 n7,.string t7]):=Hd (World.ownsRow_lit w7 #[.int .i64 n7,.string t7] 1 HX7.out.size (by decide) rfl);have HSC:=Hd (sectors_any 0 (some ⟨g,0,none⟩) 1 1 A n c st (w7.alloc (.cells #[.int .i64 n7,.string t7] 222)) HST.out);clear hb)|(go_at_call 143;refine HSC.out.mono ?_;rintro e w9 ⟨A9,m,c9,L,rfl,hsl,hm,hba,hb⟩;have HX9:=Hd (U0 HX8.out hb HX8.out.size);have HSL:=Hd hsl;have HM:=Hd hm;have HBA:Hid (∀ b,A9=some b→w7.heap.size<b.block):=Hd (fun b h=>by have:=hba b h;simp at this;omega);have HO9:=Hd (Ui HO8.out hb);have HZ9:Hid (w7.heap.size<w9.heap.size):=Hd (by have:=hb.size;simp at this;omega);clear hsl hm hba hb))
   clear h;have hm:=HM.out;go_loopw [9,34] (fun v9 v34 wr => ∃ (j:Nat) (xs:List Value),j≤m∧v34 = .int .i64 j∧wr.ownsRow w.heap.size 222 2 v9 (j+1) xs∧(∀ k,v9.ownBlock=some k→k≤w7.heap.size∨w9.heap.size≤k)∧Below w.heap.size w wr∧w9.heap.size≤wr.heap.size∧FrB w7.heap.size w9.heap.size w9 wr) (fun _ v34 _=>m-(intOf v34).toNat)
   case atStart=>exact ⟨0,_,Z0 _,rfl,HO9.out,fun k hk=>.inl (by injection hk with hk;subst hk;exact Le _),HX9.out,Le _,fun _ _ _=>rfl⟩
   case round=>
    obtain ⟨j,xs,hj,rfl,hown,hob,hbe,hzz,hfr⟩:=hrel;obtain ⟨wx,rfl⟩:∃ z:World,z=wr:=⟨_,rfl⟩
    obtain ⟨A1,c1,rfl,hnc,hcm⟩:=Ub hown;have HO:=Hd hown;have HOB:=Hd hob;have HBE:=Hd hbe;have HZZ:=Hd hzz;have HFR:=Hd hfr;clear hown hob hbe hzz hfr hnc hcm;by_cases hlt:j<m
    ·obtain ⟨b,o,x,rfl,hb,hg,hcell⟩:=Sl.cell (f:=Ug) (k:=1) (fun _=>rfl) HSL.out hlt
     have c0:wx.cell? ⟨b,o+j,none⟩=some (.string x):=(HFR.out ⟨b,o+j,none⟩ (HBA.out ⟨b,o,none⟩ rfl) hb).trans (by have h:=hcell 0 _ rfl;simpa using h);have HRD:=Hd (Va wx [.int .i64 (1+(j:Int)),.string x] 222 1 2 rfl);have HON2:Hid (∀ u∈[Value.int .i64 (1+(j:Int)),.string x],u.oneCell'=true):=Hd (by simp [Value.oneCell']);clear hb hg hcell;go_wp2_with (at_builtin;go_must (refine U4 _ rfl _ _ 186 rfl w.heap.size 222 i0 _ 2 24 Tryz.underlying186 hi0 hz0 hz1 hz2 rfl (by decide) (.slice A1 (j+1) c1) (j+1) xs rfl (HO.out.alloc _) (wx.heap.size+1) (some ⟨wx.heap.size,0,none⟩) 1 1 [.int .i64 (1+(j:Int)),.string x] rfl HRD.out HON2.out (by unfold maxLen;omega) (by omega) (by have:=HBE.out.size;simp;omega) ?_;intro v' w5' hown hgr hbl;have HOWN:=Hd hown;have HGR:=Hd hgr;have HBL:=Hd hbl;clear hown hgr hbl));go_roundw
     case rel=>
      have hz9:=HZZ.out;have hrow:=(HO.out.alloc (.cells #[.int .i64 (1+(j:Int)),.string x] 222))
      refine ⟨j+1,_,by omega,by go_num,HOWN.out,fun k hk=>?_,(HBE.out.alloc HBE.out.size _).grown HGR.out (by have:=HBE.out.size;simp;omega) (Vv hrow (Le _)),Lx (by simp;omega) HGR.out.size,frb_app HFR.out HZZ.out HGR.out HOB.out⟩;rcases HBL.out with e|e
      ·exact HOB.out k (e▸hk)
      ·rw [e] at hk
       injection hk with hk
       subst hk;exact .inr (by simp;omega)
     case measure=>simp [intOf];omega
    ·obtain rfl:j=m:=by omega
     go_wp2
     go_ret2
     exact ⟨_,rfl,HBE.out⟩
end
end Go.Proofs.YtapanepkfbamhaaGreatDoor
