/- Part of the proof of HistoryReads. -/
import Derived.Test.YtapanepkfbamhaaGreatDoorJAM
namespace Go.Proofs.YtapanepkfbamhaaGreatDoor
open Tryz (prog)
set_option maxRecDepth 100000
set_option maxHeartbeats 4000000
open Go.RowKit
def stoB (n:Int):Bool:=decide (0≤n)&&decide (n≤1099511627776)
theorem archNum_any (n:Int) (w:World):Calls prog 113 #[.int .i64 n] w fun e w'=>e = .returned (.bool (stoB n))∧w=w':=by
 unfold stoB;by_cases h1:0≤n
 ·by_cases h2:n≤1099511627776
  ·have d1:decide (0≤n)=true:=by simpa using h1
   have d2:decide (n≤1099511627776)=true:=by simpa using h2
   rw [d1,d2];clear h1 h2;go_enter Tryz.func113,Tryz.ntmps113;go_wp2;go_ret;exact ⟨rfl,rfl⟩
  ·have d1:decide (0≤n)=true:=by simpa using h1
   have d2:decide (n≤1099511627776)=false:=by simpa using h2
   rw [d1,d2];clear h1 h2;go_enter Tryz.func113,Tryz.ntmps113;go_wp2;go_ret;exact ⟨rfl,rfl⟩
 ·have d1:decide (0≤n)=false:=by simpa using h1
  rw [d1];clear h1;go_enter Tryz.func113,Tryz.ntmps113;go_wp2;go_ret;exact ⟨rfl,rfl⟩
theorem av1_any (b o:Nat) (n:Int) (w:World) (hc:w.cell? ⟨b,o,none⟩=some (.int .i64 n)):
  Calls prog 112 #[.pointer (some ⟨b,o,none⟩)] w fun e w'=>e = .returned (.bool (!stoB n))∧w=w':=by
 have HN:=Hd fun W=>archNum_any n W
 obtain ⟨z,hz⟩:∃ z,stoB n=z:=⟨_,rfl⟩
 simp only [hz] at HN;rw [hz];clear hz;go_enter Tryz.func112,Tryz.ntmps112;go_wp2_with (go_at_call 113;refine (HN.out _).mono ?_;rintro e w' ⟨rfl,rfl⟩);go_ret;exact ⟨rfl,rfl⟩
def PtrsV (w:World) (g o:Nat) (l:List Int):Prop:=∀ (j:Nat) (v:Int),l[j]? =some v→∃ b q,w.cell? ⟨g,o+j,none⟩=some (.pointer (some ⟨b,q,none⟩))∧w.cell? ⟨b,q,none⟩=some (.int .i64 v)
def Ju (n:Int):Bool := !stoB n
theorem ptrsV_index (g o c:Nat) (l:List Int) (w:World) (hp:PtrsV w g o l) (hn:l.length≤1000):
  Calls prog 137 #[.slice (some ⟨g,o,none⟩) l.length c,.func (.func 112) #[] #[]] w fun e w'=>e = .returned (.int .i64 (if l.findIdx Ju<l.length then (l.findIdx Ju:Int) else -1))∧w=w':=by
 have HP:=Hd hp;clear hp;obtain ⟨R,hR⟩:∃ R:Int,(if l.findIdx Ju<l.length then (l.findIdx Ju:Int) else -1)=R:=⟨_,rfl⟩
 rw [hR];obtain ⟨n,hl⟩:∃ n,l.length=n:=⟨_,rfl⟩
 rw [hl] at hR hn ⊢;have HR:=Hd hR;have HL:=Hd hl;clear hR hl;go_enter Tryz.func137,Tryz.ntmps137;go_wp2;go_loop [8] (fun i => ∃ j:Nat,j≤n∧i = .int .i64 j∧∀ t,t<j→∀ e,l[t]? =some e→Ju e=false) (fun i=>n-(intOf i).toNat)
 case atStart=>exact ⟨0,Z0 _,rfl,fun t h=>absurd h (by omega)⟩
 case round=>
  obtain ⟨j,hj,rfl,hall⟩:=hrel;have HA:=Hd hall;clear hall;by_cases hlt:j<n
  ·have hg:l[j]? =some (l[j]'(by rw [HL.out];exact hlt)):=List.getElem?_eq_getElem _
   obtain ⟨v,hv⟩:∃ v,l[j]'(by rw [HL.out];exact hlt)=v:=⟨_,rfl⟩
   rw [hv] at hg;obtain ⟨b,q,c1,c2⟩:=HP.out j v hg;have HC:=Hd (av1_any b q v w c2);have HG:=Hd hg;clear hg hv c2;obtain ⟨z,hz⟩:∃ z,stoB v=z:=⟨_,rfl⟩
   rw [hz] at HC;have HZ:=Hd hz;clear hz;cases z with
   |false=>
    have hr:R=(j:Int):=by rw [←HR.out,Un HA.out HG.out (by simp [Ju,HZ.out]),if_pos hlt]
    have HRR:=Hd hr;clear hr;go_wp2_with fail;refine HC.out.mono ?_;rintro e w' ⟨rfl,rfl⟩;go_wp2;go_ret;exact ⟨by rw [HRR.out];rfl,rfl⟩
   |true=>
    go_wp2_with fail;refine HC.out.mono ?_;rintro e w' ⟨rfl,rfl⟩;go_wp2
    go_round
    case rel=>
     refine ⟨j+1,by omega,by go_num,fun t ht e he=>?_⟩;rcases Nat.lt_succ_iff_lt_or_eq.1 ht with h|h
     ·exact HA.out t h e he
     ·subst h
      rw [HG.out] at he;injection he with he
      subst he;simp [Ju,HZ.out]
    case measure=>simp [intOf];omega
  ·obtain rfl:j=n:=by omega
   have hr:R = -1:=by
    rw [←HR.out,if_neg];intro h;rw [←HL.out] at h;obtain ⟨x,hx,hp⟩:=List.findIdx_lt_length.1 h;obtain ⟨t,ht,rfl⟩:=List.getElem_of_mem hx;rw [HA.out t (by rw [←HL.out];exact ht) _ (List.getElem?_eq_getElem ht)] at hp;cases hp
   have HRR:=Hd hr;clear hr;go_wp2;go_ret;exact ⟨by rw [HRR.out];rfl,rfl⟩
theorem Zr (g o n c:Nat) (l:List Int) (w:World) (hp:PtrsV w g o l) (hn:l.length≤1000) (hnl:l.length=n):
  Calls prog 111 #[.slice (some ⟨g,o,none⟩) n c,.func (.func 112) #[] #[]] w fun e w'=>e = .returned (.bool (l.any Ju))∧w=w':=by
 subst hnl;have HI:=Hd (ptrsV_index g o c l w hp hn);clear hp;by_cases h:l.findIdx Ju<l.length
 ·have ha:l.any Ju=true:=by
   obtain ⟨x,hx,hp⟩:=List.findIdx_lt_length.1 h;exact List.any_eq_true.2 ⟨x,hx,hp⟩
  rw [ha];rw [if_pos h] at HI;obtain ⟨q,hq⟩:∃ q,l.findIdx Ju=q:=⟨_,rfl⟩
  rw [hq] at HI;clear ha h hq;go_enter Tryz.func111,Tryz.ntmps111;go_wp2_with (go_at_call 137;refine HI.out.mono ?_;rintro e w' ⟨rfl,rfl⟩);go_ret;exact ⟨rfl,rfl⟩
 ·have ha:l.any Ju=false:=by
   rw [List.any_eq_false];intro x hx hp;exact h (List.findIdx_lt_length.2 ⟨x,hx,hp⟩)
  rw [ha];rw [if_neg h] at HI;clear ha h;go_enter Tryz.func111,Tryz.ntmps111;go_wp2_with (go_at_call 137;refine HI.out.mono ?_;rintro e w' ⟨rfl,rfl⟩);go_ret;exact ⟨rfl,rfl⟩
def badP (p:Pr):Bool:=decide (32<p.key.size) || decide (1000<p.rcd.size)
theorem av2_any (p:Pr) (w:World):Calls prog 115 #[.agg #[.string p.key,.string p.rcd]] w fun e w'=>e = .returned (.bool (badP p))∧Below w.heap.size w w':=by
 have c0:(w.alloc (.cells #[.string p.key,.string p.rcd] 76)).cell? ⟨w.heap.size,0,none⟩=some (.string p.key):=((Blk.new w 76 _).cell 0).trans rfl;have c1:(w.alloc (.cells #[.string p.key,.string p.rcd] 76)).cell? ⟨w.heap.size,1,none⟩=some (.string p.rcd):=((Blk.new w 76 _).cell 1).trans rfl;have HB:=Hd ((Bf w.heap.size w).alloc (Le _) (.cells #[.string p.key,.string p.rcd] 76));unfold badP;by_cases h1:32<p.key.size
 ·have d1:decide (32<p.key.size)=true:=by simpa using h1
  rw [d1];go_enter Tryz.func115,Tryz.ntmps115;go_wp2;go_ret;exact ⟨rfl,HB.out⟩
 ·have d1:decide (32<p.key.size)=false:=by simpa using h1
  rw [d1];by_cases h2:1000<p.rcd.size
  ·have d2:decide (1000<p.rcd.size)=true:=by simpa using h2
   rw [d2];go_enter Tryz.func115,Tryz.ntmps115;go_wp2;go_ret;exact ⟨by simp;omega,HB.out⟩
  ·have d2:decide (1000<p.rcd.size)=false:=by simpa using h2
   rw [d2];go_enter Tryz.func115,Tryz.ntmps115;go_wp2;go_ret;exact ⟨by simp;omega,HB.out⟩
theorem avp_index  (p:Pr→Bool) (A:Option Addr) (n c:Nat) (l:List Pr) (w:World) (hs:Sl prC 2 w w.heap.size A n c l) (hn:n≤9223372036854775807)
  (hC:∀ x∈l,∀ W:World,Below w.heap.size w W→Calls prog 115 #[.agg #[.string x.key,.string x.rcd]] W fun e w'=>e = .returned (.bool (p x))∧Below W.heap.size W w'):
  Calls prog 138 #[.slice A n c,.func (.func 115) #[] #[]] w fun e w'=>e = .returned (.int .i64 (if l.findIdx p<n then (l.findIdx p:Int) else -1))∧Below w.heap.size w w':=by
 have HS:=Hd hs;have HL:=Hd hs.len;have HC:=Hd hC;clear hs hC;obtain ⟨R,hR⟩:∃ R:Int,(if l.findIdx p<n then (l.findIdx p:Int) else -1)=R:=⟨_,rfl⟩
 rw [hR];have HR:=Hd hR;clear hR;go_enter Tryz.func138,Tryz.ntmps138;go_wp2;go_loopw [8] (fun i wr => ∃ j:Nat,j≤n∧i = .int .i64 j∧(∀ t,t<j→∀ e,l[t]? =some e→p e=false)∧Below w.heap.size w wr) (fun i _=>n-(intOf i).toNat)
 case atStart=>exact ⟨0,Z0 _,rfl,fun t h=>absurd h (by omega),Bf _ _⟩
 case round=>
  obtain ⟨j,hj,rfl,hall,hbel⟩:=hrel;have HA:=Hd hall;have hsz:=hbel.size;clear hall;by_cases hlt:j<n
  ·obtain ⟨b,o,x,rfl,hb,hg,hcell⟩:=Sl.cell (f:=prC) (k:=2) (fun _=>rfl) (HS.out.below hbel) hlt
   have c0:=hcell 0 _ rfl;have c1:=hcell 1 _ rfl;simp only [Nat.add_zero] at c0;have HCX:=Hd (HC.out x (List.mem_of_getElem? hg) wr hbel);have HG:=Hd hg;clear hg hcell;cases hl:p x with
   |true=>
    have hr:R=(j:Int):=by rw [←HR.out,Un HA.out HG.out hl,if_pos hlt]
    have HRR:=Hd hr;have HLB:=Hd hl;clear hr hl;go_wp2_with fail;refine HCX.out.mono ?_;rintro e w1 ⟨rfl,hb1⟩;rw [HLB.out];have hb2:=U0 hbel hb1 hsz;clear hb1;go_wp2;go_ret;exact ⟨by rw [HRR.out];rfl,hb2⟩
   |false=>
    have HLB:=Hd hl;clear hl;go_wp2_with fail;refine HCX.out.mono ?_;rintro e w1 ⟨rfl,hb1⟩;rw [HLB.out];have hb2:=U0 hbel hb1 hsz;clear hb1;go_wp2;go_roundw
    case rel=>
     refine ⟨j+1,by omega,by go_num,fun t ht e he=>?_,hb2⟩;by_cases h:t=j
     ·subst h;rw [HG.out] at he;injection he with he;subst he;exact HLB.out
     ·exact HA.out t (by omega) e he
    case measure=>simp [intOf];omega
  ·have hr:R = -1:=by rw [←HR.out,Up HL.out (fun t ht=>HA.out t (by omega)),if_neg (by omega)]
   have HRR:=Hd hr;clear hr;go_wp2;go_ret;exact ⟨by rw [HRR.out];rfl,hbel⟩
theorem avp_any  (p:Pr→Bool) (A:Option Addr) (n c:Nat) (l:List Pr) (w:World) (hs:Sl prC 2 w w.heap.size A n c l) (hn:n≤9223372036854775807)
  (hC:∀ x∈l,∀ W:World,Below w.heap.size w W→Calls prog 115 #[.agg #[.string x.key,.string x.rcd]] W fun e w'=>e = .returned (.bool (p x))∧Below W.heap.size W w'):
  Calls prog 114 #[.slice A n c,.func (.func 115) #[] #[]] w fun e w'=>e = .returned (.bool (l.any p))∧Below w.heap.size w w':=by
 have H:=Hd (avp_index p A n c l w hs hn hC);have ha:=V7 p l;rw [hs.len] at ha;have HA:=Hd ha;clear hs hC ha;generalize l.findIdx p=q at H HA;go_enter Tryz.func114,Tryz.ntmps114;by_cases hq:q<n
 ·rw [if_pos hq] at H
  go_wp2_with (go_at_call 138;refine H.out.mono ?_;rintro e w1 ⟨rfl,hb⟩);go_ret;exact ⟨by rw [HA.out];simp [hq],hb⟩
 ·rw [if_neg hq] at H
  go_wp2_with (go_at_call 138;refine H.out.mono ?_;rintro e w1 ⟨rfl,hb⟩);go_ret;exact ⟨by rw [HA.out];simp [hq],hb⟩
def arL (d:DSet) (ap:Int):List Int:=[d.id,d.org,d.fmt,d.len,d.blk,d.kat,d.kln,d.itv,d.area,d.fi,d.fa,d.base,d.aat,d.aln,d.cls,d.cre,d.exp,ap]
def J3 (d:DSet) (ap:Int) (ps:List Pr):Bool := !((arL d ap).any Ju)&&!(decide (31<d.own.size) || decide (31<d.vol.size) || decide (1024<ps.length))&&!(ps.any badP)
theorem cn_range (x:Cnt) (w:World) (t:TypeId):(w.alloc (.cells (cnC x).toArray t)).rangeAt w.heap.size 0 (dC x.d):=by
 intro j v hv;rw [(U3 w t (cnC x).toArray w.heap.size rfl).cell (0+j)];rw [Ga,Nat.zero_add];obtain ⟨hj,hv'⟩:=List.getElem?_eq_some_iff.1 hv;rw [cnC,List.getElem?_append_left hj,hv]
structure AW (x:Cnt) (w W:World):Prop where
 b1:Blk W w.heap.size 149 (cnC x).toArray
 b2:Blk W (w.heap.size+1) 27 (dC x.d).toArray
 own:W.ownsRow (w.heap.size+2) 179 1 (.slice (some ⟨w.heap.size+2,0,none⟩) 14 14) 14 (J2 (w.heap.size+1))
 sz:W.heap.size=w.heap.size+3
 be:Below w.heap.size w W
theorem aw_mk (x:Cnt) (w W1:World) (h1:W1=(w.alloc (.cells (cnC x).toArray 149)).alloc (.cells (dC x.d).toArray 27)):AW x w (W1.alloc (.cells (J2 (w.heap.size+1)).toArray 179)).drew:=by
 have hs:W1.heap.size=w.heap.size+2:=by rw [h1];simp
 have hb:Below w.heap.size w W1:=by rw [h1];exact ((Bf w.heap.size w).alloc (Le _) _).alloc (by simp) _
 have q1:Blk W1 w.heap.size 149 (cnC x).toArray:=by rw [h1];exact (Blk.new w 149 _).alloc _
 have q2:Blk W1 (w.heap.size+1) 27 (dC x.d).toArray:=by rw [h1];exact U3 _ _ _ _ (by simp)
 have q3:=World.ownsRow_lit (e:=179) (base:=W1.heap.size) (size:=1) W1 (J2 (w.heap.size+1)).toArray 14 (Le _) (by decide) rfl;rw [hs] at q3;exact ⟨(q1.alloc _).drew,(q2.alloc _).drew,q3.drew,by simp [World.drew,hs],(hb.alloc (by omega) _).drew⟩
theorem fields_aw (x:Cnt) (w:World):Calls prog 110 #[.pointer (some ⟨w.heap.size+1,0,none⟩)] ((w.alloc (.cells (cnC x).toArray 149)).alloc (.cells (dC x.d).toArray 27)) fun e W=>e = .returned (.slice (some ⟨w.heap.size+2,0,none⟩) 14 14)∧AW x w W:=by
 refine (fields_any (w.heap.size+1) _).mono ?_;rintro e W ⟨rfl,rfl⟩;exact ⟨by simp,aw_mk x w _ rfl⟩
theorem aw_app (x:Cnt) (w W3 w':World) (v':Value) (HA:AW x w W3)
  (hown:w'.ownsRow (w.heap.size+2) 179 1 v' 18 (J2 (w.heap.size+1)++Yo w.heap.size (w.heap.size+1)))
  (hgr:(W3.alloc (.cells (Yo w.heap.size (w.heap.size+1)).toArray 179)).grownBy w' (Value.slice (some ⟨w.heap.size+2,0,none⟩) 14 14).ownBlock):
  ∃ g cap,v' = .slice (some ⟨g,0,none⟩) 18 cap∧Blk w' w.heap.size 149 (cnC x).toArray∧Blk w' (w.heap.size+1) 27 (dC x.d).toArray∧PtrsV w' g 0 (arL x.d x.ap)∧Below w.heap.size w w':=by
 have q1:Blk w' w.heap.size 149 (cnC x).toArray:=(HA.b1.alloc _).grown hgr (by simp [Value.ownBlock]);have q2:Blk w' (w.heap.size+1) 27 (dC x.d).toArray:=(HA.b2.alloc _).grown hgr (by simp [Value.ownBlock]);have hb:Below w.heap.size w w':=(HA.be.alloc (by have:=HA.sz;omega) _).grown hgr (by have:=HA.sz;simp;omega) (by intro k hk;simp [Value.ownBlock] at hk;omega)
 obtain ⟨g,cap,rfl⟩:∃ g cap,v' = .slice (some ⟨g,0,none⟩) 18 cap:=by
  rcases hown.2 with ⟨_,h0⟩|⟨g,cap,cur,rfl,_⟩
  ·exact absurd h0 (by decide)
  ·exact ⟨g,cap,rfl⟩
 refine ⟨g,cap,rfl,q1,q2,fun j v hv=>?_,hb⟩;have hjl:j<18:=(List.getElem?_eq_some_iff.1 hv).1;rw [Nat.zero_add,hown.cellAt j (by omega)];have hj':j=0∨j=1∨j=2∨j=3∨j=4∨j=5∨j=6∨j=7∨j=8∨j=9∨j=10∨j=11∨j=12∨j=13∨j=14∨j=15∨j=16∨j=17:=by omega
 clear hgr hown hb hjl;rcases hj' with rfl|rfl|rfl|rfl|rfl|rfl|rfl|rfl|rfl|rfl|rfl|rfl|rfl|rfl|rfl|rfl|rfl|rfl
 all_goals
  injection hv with hv
  subst hv;exact ⟨_,_,rfl,(by first|(rw [q2.cell];rfl)|(rw [q1.cell];rfl))⟩
theorem archValid_any (x:Cnt) (w:World) (hx:CW w x):Calls prog 83 #[.agg (cnC x).toArray] w fun e w'=>e = .returned (.bool (J3 x.d x.ap x.ps))∧Below w.heap.size w w':=by
 obtain ⟨i0,hi0,hz0,hz1,hz2⟩:=info_parts infoPtr;have HM:=Hd (cn_range x w 149);have H1:=Hd (Z6 x.d);have HF:=Hd (fields_aw x w);have HB:=Hd fun old=>U3 (w.alloc (.cells (cnC x).toArray 149)) 27 old (w.heap.size+1) (by simp)
 have HS:=Hd fun old=>Ue (w.alloc (.cells (cnC x).toArray 149)) (w.heap.size+1) (by simp) old (dC x.d).toArray 27
 have HQ:Hid (∀ W,Below w.heap.size w W→Calls prog 114 #[.slice x.pA x.pn x.pc,.func (.func 115) #[] #[]] W fun e w'=>e = .returned (.bool (x.ps.any badP))∧Below W.heap.size W w'):=Hd fun W hb=>avp_any badP x.pA x.pn x.pc x.ps W (hx.sl.after hb hb.size) (by have:=hx.le;omega) (fun y _ W' _=>av2_any y W')
 have hle:=hx.le;have hlen:=hx.sl.len;obtain ⟨RR,hRR⟩:∃ RR,J3 x.d x.ap x.ps=RR:=⟨_,rfl⟩
 rw [hRR];have HRR:=Hd hRR;obtain ⟨z1,hz1'⟩:∃ z,(arL x.d x.ap).any Ju=z:=⟨_,rfl⟩
 have HZ1:=Hd hz1';have HZ4:Hid (decide (1024<x.ps.length)=false):=Hd (by simp;omega);clear hRR hz1' hx hlen;cases z1 with
 |true=>
  go_enter Tryz.func83,Tryz.ntmps83
  go_wp2_with (first|(refine Lm rfl 27 _ rfl w.heap.size 0 rfl (dC x.d) _ HM.out Tryz.underlying27 rfl (by kernel_rfl) ?_)|(refine Lt rfl 27 _ _ rfl (w.heap.size+1) (dC x.d).toArray rfl rfl 27 _ (HB.out _) (by kernel_rfl) rfl H1.out ?_;rw [HS.out])|(go_at_call 110;refine HF.out.mono ?_;rintro e W3 ⟨rfl,H3⟩;have HA:=Hd H3;clear H3;have HO:=Hd (HA.out.own.alloc (.cells (Yo w.heap.size (w.heap.size+1)).toArray 179));have HR:=Hd (In w.heap.size (w.heap.size+1) W3))|(at_builtin;go_must (refine U4 _ rfl _ _ 176 rfl (w.heap.size+2) 179 i0 _ 1 8 Tryz.underlying176 hi0 hz0 hz1 hz2 rfl (by decide) _ 14 _ rfl HO.out (W3.heap.size+1) (some ⟨W3.heap.size,0,none⟩) 4 4 (Yo w.heap.size (w.heap.size+1)) rfl HR.out (by simp [Yo,Value.oneCell']) (by decide) (by decide) (by have:=HA.out.sz;simp;omega) ?_;intro v' w4 hown hgr _;obtain ⟨g,cap,rfl,q1,q2,q3,q4⟩:=aw_app x w _ _ _ HA.out hown hgr;clear hown hgr HO HR HA;have c17:w4.cell? ⟨w.heap.size+1,17,none⟩=some (.string x.d.own):=(q2.cell 17).trans rfl;have c16:w4.cell? ⟨w.heap.size+1,16,none⟩=some (.string x.d.vol):=(q2.cell 16).trans rfl;have c22:w4.cell? ⟨w.heap.size,22,none⟩=some (.slice x.pA x.pn x.pc):=(q1.cell 22).trans rfl;have HC:=Hd (Zr g 0 18 cap (arL x.d x.ap) w4 q3 (by simp [arL]) (by simp [arL]));have HE:=Hd q4;clear q1 q2 q3 q4))|(go_at_call 111;refine HC.out.mono ?_;rintro e w5 ⟨rfl,rfl⟩;rw [HZ1.out]))
  go_ret;exact ⟨by rw [←HRR.out];simp only [J3,HZ1.out];rfl,HE.out⟩
 |false=>
  by_cases h2:31<x.d.own.size
  ·have HZ2:Hid (decide (31<x.d.own.size)=true):=Hd (by simpa using h2)
   go_enter Tryz.func83,Tryz.ntmps83
   go_wp2_with (first|(refine Lm rfl 27 _ rfl w.heap.size 0 rfl (dC x.d) _ HM.out Tryz.underlying27 rfl (by kernel_rfl) ?_)|(refine Lt rfl 27 _ _ rfl (w.heap.size+1) (dC x.d).toArray rfl rfl 27 _ (HB.out _) (by kernel_rfl) rfl H1.out ?_;rw [HS.out])|(go_at_call 110;refine HF.out.mono ?_;rintro e W3 ⟨rfl,H3⟩;have HA:=Hd H3;clear H3;have HO:=Hd (HA.out.own.alloc (.cells (Yo w.heap.size (w.heap.size+1)).toArray 179));have HR:=Hd (In w.heap.size (w.heap.size+1) W3))|(at_builtin;go_must (refine U4 _ rfl _ _ 176 rfl (w.heap.size+2) 179 i0 _ 1 8 Tryz.underlying176 hi0 hz0 hz1 hz2 rfl (by decide) _ 14 _ rfl HO.out (W3.heap.size+1) (some ⟨W3.heap.size,0,none⟩) 4 4 (Yo w.heap.size (w.heap.size+1)) rfl HR.out (by simp [Yo,Value.oneCell']) (by decide) (by decide) (by have:=HA.out.sz;simp;omega) ?_;intro v' w4 hown hgr _;obtain ⟨g,cap,rfl,q1,q2,q3,q4⟩:=aw_app x w _ _ _ HA.out hown hgr;clear hown hgr HO HR HA;have c17:w4.cell? ⟨w.heap.size+1,17,none⟩=some (.string x.d.own):=(q2.cell 17).trans rfl;have c16:w4.cell? ⟨w.heap.size+1,16,none⟩=some (.string x.d.vol):=(q2.cell 16).trans rfl;have c22:w4.cell? ⟨w.heap.size,22,none⟩=some (.slice x.pA x.pn x.pc):=(q1.cell 22).trans rfl;have HC:=Hd (Zr g 0 18 cap (arL x.d x.ap) w4 q3 (by simp [arL]) (by simp [arL]));have HE:=Hd q4;clear q1 q2 q3 q4))|(go_at_call 111;refine HC.out.mono ?_;rintro e w5 ⟨rfl,rfl⟩;rw [HZ1.out]))
   go_ret;exact ⟨by rw [←HRR.out];simp only [J3,HZ1.out,HZ2.out];rfl,HE.out⟩
  ·have HZ2:Hid (decide (31<x.d.own.size)=false):=Hd (by simpa using h2)
   by_cases h3:31<x.d.vol.size
   ·have HZ3:Hid (decide (31<x.d.vol.size)=true):=Hd (by simpa using h3)
    go_enter Tryz.func83,Tryz.ntmps83
    go_wp2_with (first|(refine Lm rfl 27 _ rfl w.heap.size 0 rfl (dC x.d) _ HM.out Tryz.underlying27 rfl (by kernel_rfl) ?_)|(refine Lt rfl 27 _ _ rfl (w.heap.size+1) (dC x.d).toArray rfl rfl 27 _ (HB.out _) (by kernel_rfl) rfl H1.out ?_;rw [HS.out])|(go_at_call 110;refine HF.out.mono ?_;rintro e W3 ⟨rfl,H3⟩;have HA:=Hd H3;clear H3;have HO:=Hd (HA.out.own.alloc (.cells (Yo w.heap.size (w.heap.size+1)).toArray 179));have HR:=Hd (In w.heap.size (w.heap.size+1) W3))|(at_builtin;go_must (refine U4 _ rfl _ _ 176 rfl (w.heap.size+2) 179 i0 _ 1 8 Tryz.underlying176 hi0 hz0 hz1 hz2 rfl (by decide) _ 14 _ rfl HO.out (W3.heap.size+1) (some ⟨W3.heap.size,0,none⟩) 4 4 (Yo w.heap.size (w.heap.size+1)) rfl HR.out (by simp [Yo,Value.oneCell']) (by decide) (by decide) (by have:=HA.out.sz;simp;omega) ?_;intro v' w4 hown hgr _;obtain ⟨g,cap,rfl,q1,q2,q3,q4⟩:=aw_app x w _ _ _ HA.out hown hgr;clear hown hgr HO HR HA;have c17:w4.cell? ⟨w.heap.size+1,17,none⟩=some (.string x.d.own):=(q2.cell 17).trans rfl;have c16:w4.cell? ⟨w.heap.size+1,16,none⟩=some (.string x.d.vol):=(q2.cell 16).trans rfl;have c22:w4.cell? ⟨w.heap.size,22,none⟩=some (.slice x.pA x.pn x.pc):=(q1.cell 22).trans rfl;have HC:=Hd (Zr g 0 18 cap (arL x.d x.ap) w4 q3 (by simp [arL]) (by simp [arL]));have HE:=Hd q4;clear q1 q2 q3 q4))|(go_at_call 111;refine HC.out.mono ?_;rintro e w5 ⟨rfl,rfl⟩;rw [HZ1.out]))
    go_ret;exact ⟨by rw [←HRR.out];simp only [J3,HZ1.out,HZ2.out,HZ3.out];rfl,HE.out⟩
   ·have HZ3:Hid (decide (31<x.d.vol.size)=false):=Hd (by simpa using h3)
    obtain ⟨z5,hz5⟩:∃ z,x.ps.any badP=z:=⟨_,rfl⟩
    have HZ5:=Hd hz5;clear hz5;cases z5 with
    |true=>
     go_enter Tryz.func83,Tryz.ntmps83
     go_wp2_with (first|(refine Lm rfl 27 _ rfl w.heap.size 0 rfl (dC x.d) _ HM.out Tryz.underlying27 rfl (by kernel_rfl) ?_)|(refine Lt rfl 27 _ _ rfl (w.heap.size+1) (dC x.d).toArray rfl rfl 27 _ (HB.out _) (by kernel_rfl) rfl H1.out ?_;rw [HS.out])|(go_at_call 110;refine HF.out.mono ?_;rintro e W3 ⟨rfl,H3⟩;have HA:=Hd H3;clear H3;have HO:=Hd (HA.out.own.alloc (.cells (Yo w.heap.size (w.heap.size+1)).toArray 179));have HR:=Hd (In w.heap.size (w.heap.size+1) W3))|(at_builtin;go_must (refine U4 _ rfl _ _ 176 rfl (w.heap.size+2) 179 i0 _ 1 8 Tryz.underlying176 hi0 hz0 hz1 hz2 rfl (by decide) _ 14 _ rfl HO.out (W3.heap.size+1) (some ⟨W3.heap.size,0,none⟩) 4 4 (Yo w.heap.size (w.heap.size+1)) rfl HR.out (by simp [Yo,Value.oneCell']) (by decide) (by decide) (by have:=HA.out.sz;simp;omega) ?_;intro v' w4 hown hgr _;obtain ⟨g,cap,rfl,q1,q2,q3,q4⟩:=aw_app x w _ _ _ HA.out hown hgr;clear hown hgr HO HR HA;have c17:w4.cell? ⟨w.heap.size+1,17,none⟩=some (.string x.d.own):=(q2.cell 17).trans rfl;have c16:w4.cell? ⟨w.heap.size+1,16,none⟩=some (.string x.d.vol):=(q2.cell 16).trans rfl;have c22:w4.cell? ⟨w.heap.size,22,none⟩=some (.slice x.pA x.pn x.pc):=(q1.cell 22).trans rfl;have HC:=Hd (Zr g 0 18 cap (arL x.d x.ap) w4 q3 (by simp [arL]) (by simp [arL]));have HE:=Hd q4;clear q1 q2 q3 q4))|(go_at_call 111;refine HC.out.mono ?_;rintro e w5 ⟨rfl,rfl⟩;rw [HZ1.out])|(go_at_call 114;refine (HQ.out _ HE.out).mono ?_;rintro e w6 ⟨rfl,hb6⟩;have HE6:=Hd (U0 HE.out hb6 HE.out.size);clear hb6;rw [HZ5.out]))
     go_ret;exact ⟨by rw [←HRR.out];simp only [J3,HZ1.out,HZ2.out,HZ3.out,HZ4.out,HZ5.out];rfl,HE6.out⟩
    |false=>
     go_enter Tryz.func83,Tryz.ntmps83
     go_wp2_with (first|(refine Lm rfl 27 _ rfl w.heap.size 0 rfl (dC x.d) _ HM.out Tryz.underlying27 rfl (by kernel_rfl) ?_)|(refine Lt rfl 27 _ _ rfl (w.heap.size+1) (dC x.d).toArray rfl rfl 27 _ (HB.out _) (by kernel_rfl) rfl H1.out ?_;rw [HS.out])|(go_at_call 110;refine HF.out.mono ?_;rintro e W3 ⟨rfl,H3⟩;have HA:=Hd H3;clear H3;have HO:=Hd (HA.out.own.alloc (.cells (Yo w.heap.size (w.heap.size+1)).toArray 179));have HR:=Hd (In w.heap.size (w.heap.size+1) W3))|(at_builtin;go_must (refine U4 _ rfl _ _ 176 rfl (w.heap.size+2) 179 i0 _ 1 8 Tryz.underlying176 hi0 hz0 hz1 hz2 rfl (by decide) _ 14 _ rfl HO.out (W3.heap.size+1) (some ⟨W3.heap.size,0,none⟩) 4 4 (Yo w.heap.size (w.heap.size+1)) rfl HR.out (by simp [Yo,Value.oneCell']) (by decide) (by decide) (by have:=HA.out.sz;simp;omega) ?_;intro v' w4 hown hgr _;obtain ⟨g,cap,rfl,q1,q2,q3,q4⟩:=aw_app x w _ _ _ HA.out hown hgr;clear hown hgr HO HR HA;have c17:w4.cell? ⟨w.heap.size+1,17,none⟩=some (.string x.d.own):=(q2.cell 17).trans rfl;have c16:w4.cell? ⟨w.heap.size+1,16,none⟩=some (.string x.d.vol):=(q2.cell 16).trans rfl;have c22:w4.cell? ⟨w.heap.size,22,none⟩=some (.slice x.pA x.pn x.pc):=(q1.cell 22).trans rfl;have HC:=Hd (Zr g 0 18 cap (arL x.d x.ap) w4 q3 (by simp [arL]) (by simp [arL]));have HE:=Hd q4;clear q1 q2 q3 q4))|(go_at_call 111;refine HC.out.mono ?_;rintro e w5 ⟨rfl,rfl⟩;rw [HZ1.out])|(go_at_call 114;refine (HQ.out _ HE.out).mono ?_;rintro e w6 ⟨rfl,hb6⟩;have HE6:=Hd (U0 HE.out hb6 HE.out.size);clear hb6;rw [HZ5.out]))
     go_ret;exact ⟨by rw [←HRR.out];simp only [J3,HZ1.out,HZ2.out,HZ3.out,HZ4.out,HZ5.out];rfl,HE6.out⟩
end Go.Proofs.YtapanepkfbamhaaGreatDoor
