/- Of HistorySwaps. -/
import Derived.Test.YtoakknkmjnebjaaGreatDoorSAM
namespace Go.Proofs.YtoakknkmjnebjaaGreatDoor
open Tryz (prog)
set_option maxRecDepth 100000
set_option maxHeartbeats 4000000
open Go.RowKit
def stoB (n:Int):Bool:=decide (0≤n)&&decide (n≤1099511627776)
theorem archNum_any (n:Int) (w:Wd):Calls prog 113 #[.int .i64 n] w fun e w'=>e = .returned (.bool (stoB n))∧w=w':=by
 unfold stoB;by_cases h1:0≤n
 ·by_cases h2:n≤1099511627776
  ·have d1:decide (0≤n)=true:=by simpa using h1
   have d2:decide (n≤1099511627776)=true:=by simpa using h2
   rw [d1,d2];clear h1 h2;go_enter Tryz.func113,Tryz.ntmps113;go_wp2;go_ret;exact ⟨rfl,rfl⟩
  ·have d1:decide (0≤n)=true:=by simpa using h1
   have d2:decide (n≤1099511627776)=false:=by simpa using h2
   rw [d1,d2];clear h1 h2;go_enter Tryz.func113,Tryz.ntmps113;go_wp2;go_ret;exact ⟨rfl,rfl⟩
 ·have d1:decide (0≤n)=false:=by simpa using h1
  rw [d1];clear h1;go_enter Tryz.func113,Tryz.ntmps113;go_wp2;go_ret;exact ⟨rfl,rfl⟩
theorem av1_any (b o:Nat) (n:Int) (w:Wd) (hc:w.cell? ⟨b,o,none⟩=some (.int .i64 n)):
  Calls prog 112 #[.pointer (some ⟨b,o,none⟩)] w fun e w'=>e = .returned (.bool (!stoB n))∧w=w':=by
 have HN:=Hd fun W=>archNum_any n W
 obtain ⟨z,hz⟩:∃ z,stoB n=z:=⟨_,rfl⟩
 simp only [hz] at HN;rw [hz];clear hz;go_enter Tryz.func112,Tryz.ntmps112;go_wp2_with (go_at_call 113;refine (HN.out _).mono ?_;rintro e w' ⟨rfl,rfl⟩);go_ret;exact ⟨rfl,rfl⟩
def PtrsV (w:Wd) (g o:Nat) (l:List Int):Prop:=∀ (j:Nat) (v:Int),l[j]? =some v→∃ b q,w.cell? ⟨g,o+j,none⟩=some (.pointer (some ⟨b,q,none⟩))∧w.cell? ⟨b,q,none⟩=some (.int .i64 v)
def Kt (n:Int):Bool := !stoB n
theorem ptrsV_index (g o c:Nat) (l:List Int) (w:Wd) (hp:PtrsV w g o l) (hn:l.length≤1000):
  Calls prog 137 #[.slice (some ⟨g,o,none⟩) l.length c,.func (.func 112) #[] #[]] w fun e w'=>e = .returned (.int .i64 (if l.findIdx Kt<l.length then (l.findIdx Kt:Int) else -1))∧w=w':=by
 have HP:=Hd hp;clear hp;obtain ⟨R,hR⟩:∃ R:Int,(if l.findIdx Kt<l.length then (l.findIdx Kt:Int) else -1)=R:=⟨_,rfl⟩
 rw [hR];obtain ⟨n,hl⟩:∃ n,l.length=n:=⟨_,rfl⟩
 rw [hl] at hR hn ⊢;have HR:=Hd hR;have HL:=Hd hl;clear hR hl;go_enter Tryz.func137,Tryz.ntmps137;go_wp2;go_loop [8] (fun i => ∃ j:Nat,j≤n∧i = .int .i64 j∧∀ t,t<j→∀ e,l[t]? =some e→Kt e=false) (fun i=>n-(intOf i).toNat)
 case atStart=>exact ⟨0,Z0 _,rfl,fun t h=>absurd h (by omega)⟩
 case round=>
  obtain ⟨j,hj,rfl,hall⟩:=hrel;have HA:=Hd hall;clear hall;by_cases aG:j<n
  ·have hg:l[j]? =some (l[j]'(by rw [HL.out];exact aG)):=List.getElem?_eq_getElem _;obtain ⟨v,hv⟩:∃ v,l[j]'(by rw [HL.out];exact aG)=v:=⟨_,rfl⟩
   rw [hv] at hg;obtain ⟨b,q,c1,c2⟩:=HP.out j v hg;have HC:=Hd (av1_any b q v w c2);have HG:=Hd hg;clear hg hv c2;obtain ⟨z,hz⟩:∃ z,stoB v=z:=⟨_,rfl⟩
   rw [hz] at HC;have HZ:=Hd hz;clear hz;cases z with
   |false=>
    have hr:R=(j:Int):=by rw [←HR.out,Uy HA.out HG.out (by simp [Kt,HZ.out]),if_pos aG]
    have aT:=Hd hr;clear hr;go_wp2_with fail;refine HC.out.mono ?_;rintro e w' ⟨rfl,rfl⟩;go_wp2;go_ret;exact ⟨by rw [aT.out];rfl,rfl⟩
   |true=>
    go_wp2_with fail;refine HC.out.mono ?_;rintro e w' ⟨rfl,rfl⟩;go_wp2
    go_round
    case rel=>
     refine ⟨j+1,by omega,by go_num,fun t ht e he=>?_⟩;rcases Nat.lt_succ_iff_lt_or_eq.1 ht with h|h
     ·exact HA.out t h e he
     ·subst h;rw [HG.out] at he;injection he with he
      subst he;simp [Kt,HZ.out]
    case measure=>simp [intOf];omega
  ·obtain rfl:j=n:=by omega
   have hr:R = -1:=by
    rw [←HR.out,if_neg];intro h;rw [←HL.out] at h;obtain ⟨x,hx,hp⟩:=List.findIdx_lt_length.1 h;obtain ⟨t,ht,rfl⟩:=List.getElem_of_mem hx;rw [HA.out t (by rw [←HL.out];exact ht) _ (List.getElem?_eq_getElem ht)] at hp;cases hp
   have aT:=Hd hr;clear hr;go_wp2;go_ret;exact ⟨by rw [aT.out];rfl,rfl⟩
theorem E4 (g o n c:Nat) (l:List Int) (w:Wd) (hp:PtrsV w g o l) (hn:l.length≤1000) (hnl:l.length=n):
  Calls prog 111 #[.slice (some ⟨g,o,none⟩) n c,.func (.func 112) #[] #[]] w fun e w'=>e = .returned (.bool (l.any Kt))∧w=w':=by
 subst hnl;have HI:=Hd (ptrsV_index g o c l w hp hn);clear hp;by_cases h:l.findIdx Kt<l.length
 ·have ha:l.any Kt=true:=by
   obtain ⟨x,hx,hp⟩:=List.findIdx_lt_length.1 h;exact List.any_eq_true.2 ⟨x,hx,hp⟩
  rw [ha];rw [if_pos h] at HI;obtain ⟨q,hq⟩:∃ q,l.findIdx Kt=q:=⟨_,rfl⟩
  rw [hq] at HI;clear ha h hq;go_enter Tryz.func111,Tryz.ntmps111;go_wp2_with (go_at_call 137;refine HI.out.mono ?_;rintro e w' ⟨rfl,rfl⟩);go_ret;exact ⟨rfl,rfl⟩
 ·have ha:l.any Kt=false:=by
   rw [List.any_eq_false];intro x hx hp;exact h (List.findIdx_lt_length.2 ⟨x,hx,hp⟩)
  rw [ha];rw [if_neg h] at HI;clear ha h;go_enter Tryz.func111,Tryz.ntmps111;go_wp2_with (go_at_call 137;refine HI.out.mono ?_;rintro e w' ⟨rfl,rfl⟩);go_ret;exact ⟨rfl,rfl⟩
def badP (p:Pr):Bool:=decide (32<p.key.size) || decide (1000<p.rcd.size)
theorem av2_any (p:Pr) (w:Wd):Calls prog 115 #[.agg #[.string p.key,.string p.rcd]] w fun e w'=>e = .returned (.bool (badP p))∧Below w.heap.size w w':=by
 have c0:(w.alloc (.cells #[.string p.key,.string p.rcd] 76)).cell? ⟨w.heap.size,0,none⟩=some (.string p.key):=((Blk.new w 76 _).cell 0).trans rfl;have c1:(w.alloc (.cells #[.string p.key,.string p.rcd] 76)).cell? ⟨w.heap.size,1,none⟩=some (.string p.rcd):=((Blk.new w 76 _).cell 1).trans rfl;have HB:=Hd ((Bf w.heap.size w).alloc (Le _) (.cells #[.string p.key,.string p.rcd] 76));unfold badP;by_cases h1:32<p.key.size
 ·have d1:decide (32<p.key.size)=true:=by simpa using h1
  rw [d1];go_enter Tryz.func115,Tryz.ntmps115;go_wp2;go_ret;exact ⟨rfl,HB.out⟩
 ·have d1:decide (32<p.key.size)=false:=by simpa using h1
  rw [d1];by_cases h2:1000<p.rcd.size
  ·have d2:decide (1000<p.rcd.size)=true:=by simpa using h2
   rw [d2];go_enter Tryz.func115,Tryz.ntmps115;go_wp2;go_ret;exact ⟨by simp;omega,HB.out⟩
  ·have d2:decide (1000<p.rcd.size)=false:=by simpa using h2
   rw [d2];go_enter Tryz.func115,Tryz.ntmps115;go_wp2;go_ret;exact ⟨by simp;omega,HB.out⟩
theorem avp_index  (p:Pr→Bool) (A:Option Addr) (n c:Nat) (l:List Pr) (w:Wd) (hs:Sl prC 2 w w.heap.size A n c l) (hn:n≤9223372036854775807)
  (hC:∀ x∈l,∀ W:Wd,Below w.heap.size w W→Calls prog 115 #[.agg #[.string x.key,.string x.rcd]] W fun e w'=>e = .returned (.bool (p x))∧Below W.heap.size W w'):
  Calls prog 138 #[.slice A n c,.func (.func 115) #[] #[]] w fun e w'=>e = .returned (.int .i64 (if l.findIdx p<n then (l.findIdx p:Int) else -1))∧Below w.heap.size w w':=by
 have HS:=Hd hs;have HL:=Hd hs.len;have HC:=Hd hC;clear hs hC;obtain ⟨R,hR⟩:∃ R:Int,(if l.findIdx p<n then (l.findIdx p:Int) else -1)=R:=⟨_,rfl⟩
 rw [hR];have HR:=Hd hR;clear hR;go_enter Tryz.func138,Tryz.ntmps138;go_wp2;go_loopw [8] (fun i wr => ∃ j:Nat,j≤n∧i = .int .i64 j∧(∀ t,t<j→∀ e,l[t]? =some e→p e=false)∧Below w.heap.size w wr) (fun i _=>n-(intOf i).toNat)
 case atStart=>exact ⟨0,Z0 _,rfl,fun t h=>absurd h (by omega),Bf _ _⟩
 case round=>
  obtain ⟨j,hj,rfl,hall,aE⟩:=hrel;have HA:=Hd hall;have aN:=aE.size;clear hall;by_cases aG:j<n
  ·obtain ⟨b,o,x,rfl,hb,hg,aB⟩:=Sl.cell (f:=prC) (k:=2) (fun _=>rfl) (HS.out.below aE) aG;have c0:=aB 0 _ rfl;have c1:=aB 1 _ rfl;simp only [Nat.add_zero] at c0;have bN:=Hd (HC.out x (List.mem_of_getElem? hg) wr aE);have HG:=Hd hg;clear hg aB;cases hl:p x with
   |true=>
    have hr:R=(j:Int):=by rw [←HR.out,Uy HA.out HG.out hl,if_pos aG]
    have aT:=Hd hr;have bD:=Hd hl;clear hr hl;go_wp2_with fail;refine bN.out.mono ?_;rintro e w1 ⟨rfl,aJ⟩;rw [bD.out];have aF:=U0 aE aJ aN;clear aJ;go_wp2;go_ret;exact ⟨by rw [aT.out];rfl,aF⟩
   |false=>
    have bD:=Hd hl;clear hl;go_wp2_with fail;refine bN.out.mono ?_;rintro e w1 ⟨rfl,aJ⟩;rw [bD.out];have aF:=U0 aE aJ aN;clear aJ;go_wp2;go_roundw
    case rel=>
     refine ⟨j+1,by omega,by go_num,fun t ht e he=>?_,aF⟩;by_cases h:t=j
     ·subst h;rw [HG.out] at he;injection he with he;subst he;exact bD.out
     ·exact HA.out t (by omega) e he
    case measure=>simp [intOf];omega
  ·have hr:R = -1:=by rw [←HR.out,Uu HL.out (fun t ht=>HA.out t (by omega)),if_neg (by omega)]
   have aT:=Hd hr;clear hr;go_wp2;go_ret;exact ⟨by rw [aT.out];rfl,aE⟩
theorem avp_any  (p:Pr→Bool) (A:Option Addr) (n c:Nat) (l:List Pr) (w:Wd) (hs:Sl prC 2 w w.heap.size A n c l) (hn:n≤9223372036854775807)
  (hC:∀ x∈l,∀ W:Wd,Below w.heap.size w W→Calls prog 115 #[.agg #[.string x.key,.string x.rcd]] W fun e w'=>e = .returned (.bool (p x))∧Below W.heap.size W w'):
  Calls prog 114 #[.slice A n c,.func (.func 115) #[] #[]] w fun e w'=>e = .returned (.bool (l.any p))∧Below w.heap.size w w':=by
 have H:=Hd (avp_index p A n c l w hs hn hC);have ha:=Vg p l;rw [hs.len] at ha;have HA:=Hd ha;clear hs hC ha;generalize l.findIdx p=q at H HA;go_enter Tryz.func114,Tryz.ntmps114;by_cases hq:q<n
 ·rw [if_pos hq] at H;go_wp2_with (go_at_call 138;refine H.out.mono ?_;rintro e w1 ⟨rfl,hb⟩);go_ret;exact ⟨by rw [HA.out];simp [hq],hb⟩
 ·rw [if_neg hq] at H;go_wp2_with (go_at_call 138;refine H.out.mono ?_;rintro e w1 ⟨rfl,hb⟩);go_ret;exact ⟨by rw [HA.out];simp [hq],hb⟩
def arL (d:DSet) (ap:Int):List Int:=[d.id,d.org,d.fmt,d.len,d.blk,d.kat,d.kln,d.itv,d.area,d.fi,d.fa,d.base,d.aat,d.aln,d.cls,d.cre,d.exp,ap]
def Iz (d:DSet) (ap:Int) (ps:List Pr):Bool := !((arL d ap).any Kt)&&!(decide (31<d.own.size) || decide (31<d.vol.size) || decide (1024<ps.length))&&!(ps.any badP)
theorem cn_range (x:Cnt) (w:Wd) (t:TypeId):(w.alloc (.cells (cnC x).toArray t)).rangeAt w.heap.size 0 (dC x.d):=by
 intro j v hv;rw [(U3 w t (cnC x).toArray w.heap.size rfl).cell (0+j)];rw [Ga,Nat.zero_add];obtain ⟨hj,hv'⟩:=List.getElem?_eq_some_iff.1 hv;rw [cnC,List.getElem?_append_left hj,hv]
structure AW (x:Cnt) (w W:Wd):Prop where
 b1:Blk W w.heap.size 149 (cnC x).toArray
 b2:Blk W (w.heap.size+1) 27 (dC x.d).toArray
 own:W.ownsRow (w.heap.size+2) 179 1 (.slice (some ⟨w.heap.size+2,0,none⟩) 14 14) 14 (Ju (w.heap.size+1))
 sz:W.heap.size=w.heap.size+3
 be:Below w.heap.size w W
theorem aw_mk (x:Cnt) (w W1:Wd) (h1:W1=(w.alloc (.cells (cnC x).toArray 149)).alloc (.cells (dC x.d).toArray 27)):AW x w (W1.alloc (.cells (Ju (w.heap.size+1)).toArray 179)).drew:=by
 have hs:W1.heap.size=w.heap.size+2:=by rw [h1];simp
 have hb:Below w.heap.size w W1:=by rw [h1];exact ((Bf w.heap.size w).alloc (Le _) _).alloc (by simp) _
 have q1:Blk W1 w.heap.size 149 (cnC x).toArray:=by rw [h1];exact (Blk.new w 149 _).alloc _
 have q2:Blk W1 (w.heap.size+1) 27 (dC x.d).toArray:=by rw [h1];exact U3 _ _ _ _ (by simp)
 have q3:=World.ownsRow_lit (e:=179) (base:=W1.heap.size) (size:=1) W1 (Ju (w.heap.size+1)).toArray 14 (Le _) (by decide) rfl;rw [hs] at q3;exact ⟨(q1.alloc _).drew,(q2.alloc _).drew,q3.drew,by simp [World.drew,hs],(hb.alloc (by omega) _).drew⟩
theorem fields_aw (x:Cnt) (w:Wd):Calls prog 110 #[.pointer (some ⟨w.heap.size+1,0,none⟩)] ((w.alloc (.cells (cnC x).toArray 149)).alloc (.cells (dC x.d).toArray 27)) fun e W=>e = .returned (.slice (some ⟨w.heap.size+2,0,none⟩) 14 14)∧AW x w W:=by
 refine (fields_any (w.heap.size+1) _).mono ?_;rintro e W ⟨rfl,rfl⟩;exact ⟨by simp,aw_mk x w _ rfl⟩
theorem aw_app (x:Cnt) (w W3 w':Wd) (v':Value) (HA:AW x w W3)
  (aD:w'.ownsRow (w.heap.size+2) 179 1 v' 18 (Ju (w.heap.size+1)++Yu w.heap.size (w.heap.size+1)))
  (aO:(W3.alloc (.cells (Yu w.heap.size (w.heap.size+1)).toArray 179)).grownBy w' (Value.slice (some ⟨w.heap.size+2,0,none⟩) 14 14).ownBlock):
  ∃ g cap,v' = .slice (some ⟨g,0,none⟩) 18 cap∧Blk w' w.heap.size 149 (cnC x).toArray∧Blk w' (w.heap.size+1) 27 (dC x.d).toArray∧PtrsV w' g 0 (arL x.d x.ap)∧Below w.heap.size w w':=by
 have q1:Blk w' w.heap.size 149 (cnC x).toArray:=(HA.b1.alloc _).grown aO (by simp [Value.ownBlock]);have q2:Blk w' (w.heap.size+1) 27 (dC x.d).toArray:=(HA.b2.alloc _).grown aO (by simp [Value.ownBlock]);have hb:Below w.heap.size w w':=(HA.be.alloc (by have:=HA.sz;omega) _).grown aO (by have:=HA.sz;simp;omega) (by intro k hk;simp [Value.ownBlock] at hk;omega)
 obtain ⟨g,cap,rfl⟩:∃ g cap,v' = .slice (some ⟨g,0,none⟩) 18 cap:=by
  rcases aD.2 with ⟨_,h0⟩|⟨g,cap,cur,rfl,_⟩
  ·exact absurd h0 (by decide)
  ·exact ⟨g,cap,rfl⟩
 refine ⟨g,cap,rfl,q1,q2,fun j v hv=>?_,hb⟩;have hjl:j<18:=(List.getElem?_eq_some_iff.1 hv).1;rw [Nat.zero_add,aD.cellAt j (by omega)];have hj':j=0∨j=1∨j=2∨j=3∨j=4∨j=5∨j=6∨j=7∨j=8∨j=9∨j=10∨j=11∨j=12∨j=13∨j=14∨j=15∨j=16∨j=17:=by omega
 clear aO aD hb hjl;rcases hj' with rfl|rfl|rfl|rfl|rfl|rfl|rfl|rfl|rfl|rfl|rfl|rfl|rfl|rfl|rfl|rfl|rfl|rfl
 all_goals
  injection hv with hv
  subst hv;exact ⟨_,_,rfl,(by first|(rw [q2.cell];rfl)|(rw [q1.cell];rfl))⟩
theorem archValid_any (x:Cnt) (w:Wd) (hx:CW w x):Calls prog 83 #[.agg (cnC x).toArray] w fun e w'=>e = .returned (.bool (Iz x.d x.ap x.ps))∧Below w.heap.size w w':=by
 obtain ⟨i0,aU,aW,aK,aR⟩:=info_parts infoPtr;have HM:=Hd (cn_range x w 149);have H1:=Hd (Zg x.d);have HF:=Hd (fields_aw x w);have HB:=Hd fun old=>U3 (w.alloc (.cells (cnC x).toArray 149)) 27 old (w.heap.size+1) (by simp)
 have HS:=Hd fun old=>Ug (w.alloc (.cells (cnC x).toArray 149)) (w.heap.size+1) (by simp) old (dC x.d).toArray 27
 have HQ:Hid (∀ W,Below w.heap.size w W→Calls prog 114 #[.slice x.pA x.pn x.pc,.func (.func 115) #[] #[]] W fun e w'=>e = .returned (.bool (x.ps.any badP))∧Below W.heap.size W w'):=Hd fun W hb=>avp_any badP x.pA x.pn x.pc x.ps W (hx.sl.after hb hb.size) (by have:=hx.le;omega) (fun y _ W' _=>av2_any y W')
 have bO:=hx.le;have hlen:=hx.sl.len;obtain ⟨RR,cT⟩:∃ RR,Iz x.d x.ap x.ps=RR:=⟨_,rfl⟩
 rw [cT];have aT:=Hd cT;obtain ⟨z1,hz1'⟩:∃ z,(arL x.d x.ap).any Kt=z:=⟨_,rfl⟩
 have cJ:=Hd hz1';have HZ4:Hid (decide (1024<x.ps.length)=false):=Hd (by simp;omega);clear cT hz1' hx hlen;cases z1 with
 |true=>
  go_enter Tryz.func83,Tryz.ntmps83
  go_wp2_with (first|(refine Ln 27 w.heap.size 0 (dC x.d) HM.out Tryz.underlying27 ?_)|(refine Lv 27 (w.heap.size+1) (dC x.d).toArray (HB.out _) H1.out ?_;rw [HS.out])|(go_at_call 110;refine HF.out.mono ?_;rintro e W3 ⟨rfl,H3⟩;have HA:=Hd H3;clear H3;have HO:=Hd (HA.out.own.alloc (.cells (Yu w.heap.size (w.heap.size+1)).toArray 179));have HR:=Hd (Jb w.heap.size (w.heap.size+1) W3))|(at_builtin;go_must (refine U5 _ rfl _ _ 176 rfl (w.heap.size+2) 179 i0 _ 1 8 Tryz.underlying176 aU aW aK aR rfl (by decide) _ 14 _ rfl HO.out (W3.heap.size+1) (some ⟨W3.heap.size,0,none⟩) 4 4 (Yu w.heap.size (w.heap.size+1)) rfl HR.out (by simp [Yu,Value.oneCell']) (by decide) (by decide) (by have:=HA.out.sz;simp;omega) ?_;intro v' w4 aD aO _;obtain ⟨g,cap,rfl,q1,q2,q3,q4⟩:=aw_app x w _ _ _ HA.out aD aO;clear aD aO HO HR HA;have c17:w4.cell? ⟨w.heap.size+1,17,none⟩=some (.string x.d.own):=(q2.cell 17).trans rfl;have c16:w4.cell? ⟨w.heap.size+1,16,none⟩=some (.string x.d.vol):=(q2.cell 16).trans rfl;have c22:w4.cell? ⟨w.heap.size,22,none⟩=some (.slice x.pA x.pn x.pc):=(q1.cell 22).trans rfl;have HC:=Hd (E4 g 0 18 cap (arL x.d x.ap) w4 q3 (by simp [arL]) (by simp [arL]));have HE:=Hd q4;clear q1 q2 q3 q4))|(go_at_call 111;refine HC.out.mono ?_;rintro e w5 ⟨rfl,rfl⟩;rw [cJ.out]))
  go_ret;exact ⟨by rw [←aT.out];simp only [Iz,cJ.out];rfl,HE.out⟩
 |false=>
  by_cases h2:31<x.d.own.size
  ·have gB:Hid (decide (31<x.d.own.size)=true):=Hd (by simpa using h2);go_enter Tryz.func83,Tryz.ntmps83
   go_wp2_with (first|(refine Ln 27 w.heap.size 0 (dC x.d) HM.out Tryz.underlying27 ?_)|(refine Lv 27 (w.heap.size+1) (dC x.d).toArray (HB.out _) H1.out ?_;rw [HS.out])|(go_at_call 110;refine HF.out.mono ?_;rintro e W3 ⟨rfl,H3⟩;have HA:=Hd H3;clear H3;have HO:=Hd (HA.out.own.alloc (.cells (Yu w.heap.size (w.heap.size+1)).toArray 179));have HR:=Hd (Jb w.heap.size (w.heap.size+1) W3))|(at_builtin;go_must (refine U5 _ rfl _ _ 176 rfl (w.heap.size+2) 179 i0 _ 1 8 Tryz.underlying176 aU aW aK aR rfl (by decide) _ 14 _ rfl HO.out (W3.heap.size+1) (some ⟨W3.heap.size,0,none⟩) 4 4 (Yu w.heap.size (w.heap.size+1)) rfl HR.out (by simp [Yu,Value.oneCell']) (by decide) (by decide) (by have:=HA.out.sz;simp;omega) ?_;intro v' w4 aD aO _;obtain ⟨g,cap,rfl,q1,q2,q3,q4⟩:=aw_app x w _ _ _ HA.out aD aO;clear aD aO HO HR HA;have c17:w4.cell? ⟨w.heap.size+1,17,none⟩=some (.string x.d.own):=(q2.cell 17).trans rfl;have c16:w4.cell? ⟨w.heap.size+1,16,none⟩=some (.string x.d.vol):=(q2.cell 16).trans rfl;have c22:w4.cell? ⟨w.heap.size,22,none⟩=some (.slice x.pA x.pn x.pc):=(q1.cell 22).trans rfl;have HC:=Hd (E4 g 0 18 cap (arL x.d x.ap) w4 q3 (by simp [arL]) (by simp [arL]));have HE:=Hd q4;clear q1 q2 q3 q4))|(go_at_call 111;refine HC.out.mono ?_;rintro e w5 ⟨rfl,rfl⟩;rw [cJ.out]))
   go_ret;exact ⟨by rw [←aT.out];simp only [Iz,cJ.out,gB.out];rfl,HE.out⟩
  ·have gB:Hid (decide (31<x.d.own.size)=false):=Hd (by simpa using h2);by_cases h3:31<x.d.vol.size
   ·have HZ3:Hid (decide (31<x.d.vol.size)=true):=Hd (by simpa using h3);go_enter Tryz.func83,Tryz.ntmps83
    go_wp2_with (first|(refine Ln 27 w.heap.size 0 (dC x.d) HM.out Tryz.underlying27 ?_)|(refine Lv 27 (w.heap.size+1) (dC x.d).toArray (HB.out _) H1.out ?_;rw [HS.out])|(go_at_call 110;refine HF.out.mono ?_;rintro e W3 ⟨rfl,H3⟩;have HA:=Hd H3;clear H3;have HO:=Hd (HA.out.own.alloc (.cells (Yu w.heap.size (w.heap.size+1)).toArray 179));have HR:=Hd (Jb w.heap.size (w.heap.size+1) W3))|(at_builtin;go_must (refine U5 _ rfl _ _ 176 rfl (w.heap.size+2) 179 i0 _ 1 8 Tryz.underlying176 aU aW aK aR rfl (by decide) _ 14 _ rfl HO.out (W3.heap.size+1) (some ⟨W3.heap.size,0,none⟩) 4 4 (Yu w.heap.size (w.heap.size+1)) rfl HR.out (by simp [Yu,Value.oneCell']) (by decide) (by decide) (by have:=HA.out.sz;simp;omega) ?_;intro v' w4 aD aO _;obtain ⟨g,cap,rfl,q1,q2,q3,q4⟩:=aw_app x w _ _ _ HA.out aD aO;clear aD aO HO HR HA;have c17:w4.cell? ⟨w.heap.size+1,17,none⟩=some (.string x.d.own):=(q2.cell 17).trans rfl;have c16:w4.cell? ⟨w.heap.size+1,16,none⟩=some (.string x.d.vol):=(q2.cell 16).trans rfl;have c22:w4.cell? ⟨w.heap.size,22,none⟩=some (.slice x.pA x.pn x.pc):=(q1.cell 22).trans rfl;have HC:=Hd (E4 g 0 18 cap (arL x.d x.ap) w4 q3 (by simp [arL]) (by simp [arL]));have HE:=Hd q4;clear q1 q2 q3 q4))|(go_at_call 111;refine HC.out.mono ?_;rintro e w5 ⟨rfl,rfl⟩;rw [cJ.out]))
    go_ret;exact ⟨by rw [←aT.out];simp only [Iz,cJ.out,gB.out,HZ3.out];rfl,HE.out⟩
   ·have HZ3:Hid (decide (31<x.d.vol.size)=false):=Hd (by simpa using h3);obtain ⟨z5,hz5⟩:∃ z,x.ps.any badP=z:=⟨_,rfl⟩
    have HZ5:=Hd hz5;clear hz5;cases z5 with
    |true=>
     go_enter Tryz.func83,Tryz.ntmps83
     go_wp2_with (first|(refine Ln 27 w.heap.size 0 (dC x.d) HM.out Tryz.underlying27 ?_)|(refine Lv 27 (w.heap.size+1) (dC x.d).toArray (HB.out _) H1.out ?_;rw [HS.out])|(go_at_call 110;refine HF.out.mono ?_;rintro e W3 ⟨rfl,H3⟩;have HA:=Hd H3;clear H3;have HO:=Hd (HA.out.own.alloc (.cells (Yu w.heap.size (w.heap.size+1)).toArray 179));have HR:=Hd (Jb w.heap.size (w.heap.size+1) W3))|(at_builtin;go_must (refine U5 _ rfl _ _ 176 rfl (w.heap.size+2) 179 i0 _ 1 8 Tryz.underlying176 aU aW aK aR rfl (by decide) _ 14 _ rfl HO.out (W3.heap.size+1) (some ⟨W3.heap.size,0,none⟩) 4 4 (Yu w.heap.size (w.heap.size+1)) rfl HR.out (by simp [Yu,Value.oneCell']) (by decide) (by decide) (by have:=HA.out.sz;simp;omega) ?_;intro v' w4 aD aO _;obtain ⟨g,cap,rfl,q1,q2,q3,q4⟩:=aw_app x w _ _ _ HA.out aD aO;clear aD aO HO HR HA;have c17:w4.cell? ⟨w.heap.size+1,17,none⟩=some (.string x.d.own):=(q2.cell 17).trans rfl;have c16:w4.cell? ⟨w.heap.size+1,16,none⟩=some (.string x.d.vol):=(q2.cell 16).trans rfl;have c22:w4.cell? ⟨w.heap.size,22,none⟩=some (.slice x.pA x.pn x.pc):=(q1.cell 22).trans rfl;have HC:=Hd (E4 g 0 18 cap (arL x.d x.ap) w4 q3 (by simp [arL]) (by simp [arL]));have HE:=Hd q4;clear q1 q2 q3 q4))|(go_at_call 111;refine HC.out.mono ?_;rintro e w5 ⟨rfl,rfl⟩;rw [cJ.out])|(go_at_call 114;refine (HQ.out _ HE.out).mono ?_;rintro e w6 ⟨rfl,hb6⟩;have fK:=Hd (U0 HE.out hb6 HE.out.size);clear hb6;rw [HZ5.out]))
     go_ret;exact ⟨by rw [←aT.out];simp only [Iz,cJ.out,gB.out,HZ3.out,HZ4.out,HZ5.out];rfl,fK.out⟩
    |false=>
     go_enter Tryz.func83,Tryz.ntmps83
     go_wp2_with (first|(refine Ln 27 w.heap.size 0 (dC x.d) HM.out Tryz.underlying27 ?_)|(refine Lv 27 (w.heap.size+1) (dC x.d).toArray (HB.out _) H1.out ?_;rw [HS.out])|(go_at_call 110;refine HF.out.mono ?_;rintro e W3 ⟨rfl,H3⟩;have HA:=Hd H3;clear H3;have HO:=Hd (HA.out.own.alloc (.cells (Yu w.heap.size (w.heap.size+1)).toArray 179));have HR:=Hd (Jb w.heap.size (w.heap.size+1) W3))|(at_builtin;go_must (refine U5 _ rfl _ _ 176 rfl (w.heap.size+2) 179 i0 _ 1 8 Tryz.underlying176 aU aW aK aR rfl (by decide) _ 14 _ rfl HO.out (W3.heap.size+1) (some ⟨W3.heap.size,0,none⟩) 4 4 (Yu w.heap.size (w.heap.size+1)) rfl HR.out (by simp [Yu,Value.oneCell']) (by decide) (by decide) (by have:=HA.out.sz;simp;omega) ?_;intro v' w4 aD aO _;obtain ⟨g,cap,rfl,q1,q2,q3,q4⟩:=aw_app x w _ _ _ HA.out aD aO;clear aD aO HO HR HA;have c17:w4.cell? ⟨w.heap.size+1,17,none⟩=some (.string x.d.own):=(q2.cell 17).trans rfl;have c16:w4.cell? ⟨w.heap.size+1,16,none⟩=some (.string x.d.vol):=(q2.cell 16).trans rfl;have c22:w4.cell? ⟨w.heap.size,22,none⟩=some (.slice x.pA x.pn x.pc):=(q1.cell 22).trans rfl;have HC:=Hd (E4 g 0 18 cap (arL x.d x.ap) w4 q3 (by simp [arL]) (by simp [arL]));have HE:=Hd q4;clear q1 q2 q3 q4))|(go_at_call 111;refine HC.out.mono ?_;rintro e w5 ⟨rfl,rfl⟩;rw [cJ.out])|(go_at_call 114;refine (HQ.out _ HE.out).mono ?_;rintro e w6 ⟨rfl,hb6⟩;have fK:=Hd (U0 HE.out hb6 HE.out.size);clear hb6;rw [HZ5.out]))
     go_ret;exact ⟨by rw [←aT.out];simp only [Iz,cJ.out,gB.out,HZ3.out,HZ4.out,HZ5.out];rfl,fK.out⟩
def Y3 (d:DSet) (j:Nat) (s:Int×List Bz×Int) (q:Pr):Bool:=
 if d.org=0 then (Vu ((j:Int)+1)).toList == q.key.toList else if d.org=1 then (Vh d q.rcd s.1 s.2.1 s.2.2).1.toList == q.key.toList else true
def Eu (d:DSet) (s:Int×List Bz×Int) (q:Pr):Int×List Bz×Int:=if d.org=1 then (Vh d q.rcd s.1 s.2.1 s.2.2).2 else s
def riseB (prev:Option Bz) (k:Bz):Bool:=match prev with
 |none=>true
 |some q=>U8 q k
def fvL (d:DSet):Option Bz→Nat→Int×List Bz×Int→List Pr→Bool
 |_,_,_,[]=>true
 |prev,j,s,q::r=>Vp d q&&riseB prev q.key&&Y3 d j s q&&fvL d (some q.key) (j+1) (Eu d s q) r
def In (d:DSet) (ap:Int) (ps:List Pr):Bool:=Iv d&&decide (0≤ap)&&decide (ap≤1099511627776)&&Iz d ap ps&&fvL d none 0 (0,[],0) ps
def prevK (l:List Pr) (j:Nat):Option Bz:=if j=0 then none else (l[j-1]?).map (·.key)
theorem Xq (l:List Pr) (j:Nat) (q:Pr) (h:l[j]? =some q):prevK l (j+1)=some q.key:=by simp [prevK,h]
structure FV2 (x:Cnt) (w W:Wd):Prop where
 b1:Blk W w.heap.size 30 (cnC x).toArray
 b2:Blk W (w.heap.size+1) 27 (dC x.d).toArray
 sz:w.heap.size+2≤W.heap.size
 be:Below w.heap.size w W
theorem Zf {x:Cnt} {w W W':Wd} (h:FV2 x w W) (hb:Below W.heap.size W W'):FV2 x w W':=
 ⟨h.b1.below hb h.b1.lt,h.b2.below hb h.b2.lt,Lx h.sz hb.size,U0 h.be hb h.be.size⟩
theorem fv2_new (x:Cnt) (w:Wd):FV2 x w ((w.alloc (.cells (cnC x).toArray 30)).alloc (.cells (dC x.d).toArray 27)):=
 ⟨(Blk.new w _ _).alloc _,U3 (w.alloc _) _ _ _ (by simp),by simp,((Bf _ _).alloc (Le _) _).alloc (by simp) _⟩
structure FL (E0:Nat) (x:Cnt) (y:Edn) (w W:Wd):Prop where
 b1:Blk W w.heap.size 30 (cnC x).toArray
 b2:Blk W (w.heap.size+1) 27 (dC x.d).toArray
 b3:Blk W E0 152 (edC y).toArray
 sl:Sl Ui 1 W W.heap.size y.A y.n y.c y.rs
 na:∀ a,y.A=some a→E0+1≤a.block
 be:Below w.heap.size w W
 sz:E0+1≤W.heap.size
 ge:w.heap.size+2≤E0
theorem X7 {E0:Nat} {x:Cnt} {y:Edn} {w W W':Wd} (h:FL E0 x y w W) (hb:Below W.heap.size W W'):FL E0 x y w W':=
 ⟨h.b1.below hb h.b1.lt,h.b2.below hb h.b2.lt,h.b3.below hb h.b3.lt,h.sl.after hb hb.size,h.na,U0 h.be hb h.be.size,Lx h.sz hb.size,h.ge⟩
theorem fl_set {E0:Nat} {x:Cnt} {y z:Edn} {w W:Wd} (h:FL E0 x y w W) (hs:Sl Ui 1 W W.heap.size z.A z.n z.c z.rs) (hz:∀ a,z.A=some a→E0+1≤a.block):FL E0 x z w (W.setRow E0 (edC z).toArray):=
 have hb:Below E0 W (W.setRow E0 (edC z).toArray):=U6 (Bf _ _) (Le _) _;have hg:=h.ge
 ⟨h.b1.below hb (by omega),h.b2.below hb (by omega),setRow_heap _ _ _ _ _ _ h.b3,Xy hs _ _ (fun a ha=>by have:=hz a ha;omega),hz,U6 h.be (by omega) _,by rw [size_setRow];exact h.sz,hg⟩
theorem fl_new {x:Cnt} {w W:Wd} (h:FV2 x w W):FL W.heap.size x ⟨0,none,0,0,[],0⟩ w (W.alloc (.cells zEd.toArray 152)):=
 ⟨h.b1.alloc _,h.b2.alloc _,Blk.new _ _ _,Sl.nil,fun a ha=>by simp at ha,h.be.alloc h.be.size _,by simp,h.sz⟩
theorem fwdValid_m (d:DSet) (ap:Int) (A:Option Addr) (n c:Nat) (ps:List Pr) (w:Wd) (hx:CW w ⟨d,ap,A,n,c,ps⟩) (hc:Cod w) (hrz:∀ q∈ps,q.rcd.size≤maxLen):
  Calls prog 68 #[.agg (cnC ⟨d,ap,A,n,c,ps⟩).toArray] w fun e w'=>e = .returned (.bool (In d ap ps))∧Below w.heap.size w w':=by
 obtain ⟨R0,hR0⟩:∃ R,In d ap ps=R:=⟨_,rfl⟩
 rw [hR0];have gL:=Hd hR0;have HM:=Hd (cn_range ⟨d,ap,A,n,c,ps⟩ w 30);have H1:=Hd (Zg d);have HB:=Hd fun old=>U3 (w.alloc (.cells (cnC ⟨d,ap,A,n,c,ps⟩).toArray 30)) 27 old (w.heap.size+1) (by simp)
 have HS:Hid (∀ old,((w.alloc (.cells (cnC ⟨d,ap,A,n,c,ps⟩).toArray 30)).alloc (.cells old 27)).setRow (w.heap.size+1) (dC d).toArray=((w.alloc (.cells (cnC ⟨d,ap,A,n,c,ps⟩).toArray 30)).alloc (.cells (dC d).toArray 27))):=Hd fun old=>Ug (w.alloc (.cells (cnC ⟨d,ap,A,n,c,ps⟩).toArray 30)) (w.heap.size+1) (by simp) old (dC d).toArray 27
 have HX:=Hd (fv2_new ⟨d,ap,A,n,c,ps⟩ w);have HD:Hid (∀ W,Calls prog 82 #[.agg (dC d).toArray] W fun e w'=>e = .returned (.bool (Iv d))∧Below W.heap.size W w'):=Hd fun W=>described_any d W
 have HV:Hid (∀ W,Below w.heap.size w W→Calls prog 83 #[.agg (cnC ⟨d,ap,A,n,c,ps⟩).toArray] W fun e w'=>e = .returned (.bool (Iz d ap ps))∧Below W.heap.size W w'):=Hd fun W hb=>archValid_any ⟨d,ap,A,n,c,ps⟩ W (hx.below hb)
 have cG:Hid (Sl prC 2 w w.heap.size A n c ps):=Hd hx.sl;have hn:n≤1024:=hx.le;have HC:=Hd hc;have HRZ:=Hd hrz;have HL:Hid (ps.length=n):=Hd hx.sl.len;clear hx hR0 hc hrz;cases hd:Iv d with
 |false=>
  have hq:R0=false:=by rw [←gL.out];unfold In;rw [hd];rfl
  subst hq;go_enter Tryz.func68,Tryz.ntmps68;go_wp2_with (first|((with_reducible refine Gl 27 8 ?_);refine Ln 27 w.heap.size 0 (dC d) HM.out Tryz.underlying27 ?_)|((with_reducible refine Gt 27 3 ?_);refine Lv 27 (w.heap.size+1) (dC d).toArray (HB.out _) H1.out ?_;rw [HS.out])|((with_reducible refine Gl 27 3 ?_);refine Lq 27 (w.heap.size+1) (dC d).toArray HX.out.b2 Tryz.underlying27 ?_)|(go_at_call 82;refine (HD.out _).mono ?_;rw [hd];rintro e w2 ⟨rfl,hb⟩;have aM:=Hd (Zf HX.out hb);clear hb;have c21:=(aM.out.b1.cell 21).trans (show _=some (Value.int .i64 ap) from rfl);have c22:=(aM.out.b1.cell 22).trans (show _=some (Value.slice A n c) from rfl)));go_ret;exact ⟨rfl,aM.out.be⟩
 |true=>
  rcases (by omega:ap<0∨0≤ap) with a1|a1
  ·have hq:R0=false:=by rw [←gL.out];unfold In;rw [hd,decide_eq_false (show ¬ 0≤ap by omega)];rfl
   subst hq;have f1:decide (ap<0)=true:=decide_eq_true a1;go_enter Tryz.func68,Tryz.ntmps68;go_wp2_with (first|((with_reducible refine Gl 27 8 ?_);refine Ln 27 w.heap.size 0 (dC d) HM.out Tryz.underlying27 ?_)|((with_reducible refine Gt 27 3 ?_);refine Lv 27 (w.heap.size+1) (dC d).toArray (HB.out _) H1.out ?_;rw [HS.out])|((with_reducible refine Gl 27 3 ?_);refine Lq 27 (w.heap.size+1) (dC d).toArray HX.out.b2 Tryz.underlying27 ?_)|(go_at_call 82;refine (HD.out _).mono ?_;rw [hd];rintro e w2 ⟨rfl,hb⟩;have aM:=Hd (Zf HX.out hb);clear hb;have c21:=(aM.out.b1.cell 21).trans (show _=some (Value.int .i64 ap) from rfl);have c22:=(aM.out.b1.cell 22).trans (show _=some (Value.slice A n c) from rfl)));go_ret
   exact ⟨rfl,aM.out.be⟩
  have f1:decide (ap<0)=false:=decide_eq_false (by omega);rcases (by omega:1099511627776<ap∨ap≤1099511627776) with a2|a2
  ·have hq:R0=false:=by rw [←gL.out];unfold In;rw [hd,decide_eq_true a1,decide_eq_false (show ¬ ap≤1099511627776 by omega)];rfl
   subst hq;have f2:decide ((1099511627776:Int)<ap)=true:=decide_eq_true a2;go_enter Tryz.func68,Tryz.ntmps68;go_wp2_with (first|((with_reducible refine Gl 27 8 ?_);refine Ln 27 w.heap.size 0 (dC d) HM.out Tryz.underlying27 ?_)|((with_reducible refine Gt 27 3 ?_);refine Lv 27 (w.heap.size+1) (dC d).toArray (HB.out _) H1.out ?_;rw [HS.out])|((with_reducible refine Gl 27 3 ?_);refine Lq 27 (w.heap.size+1) (dC d).toArray HX.out.b2 Tryz.underlying27 ?_)|(go_at_call 82;refine (HD.out _).mono ?_;rw [hd];rintro e w2 ⟨rfl,hb⟩;have aM:=Hd (Zf HX.out hb);clear hb;have c21:=(aM.out.b1.cell 21).trans (show _=some (Value.int .i64 ap) from rfl);have c22:=(aM.out.b1.cell 22).trans (show _=some (Value.slice A n c) from rfl)))
   go_ret;exact ⟨rfl,aM.out.be⟩
  have f2:decide ((1099511627776:Int)<ap)=false:=decide_eq_false (by omega);have f3:decide ((1024:Int)<(n:Int))=false:=decide_eq_false (by omega);cases ha:Iz d ap ps with
  |false=>
   have hq:R0=false:=by rw [←gL.out];unfold In;rw [hd,decide_eq_true a1,decide_eq_true a2,ha];rfl
   subst hq;go_enter Tryz.func68,Tryz.ntmps68
   go_wp2_with (first|((with_reducible refine Gl 27 8 ?_);refine Ln 27 w.heap.size 0 (dC d) HM.out Tryz.underlying27 ?_)|((with_reducible refine Gt 27 3 ?_);refine Lv 27 (w.heap.size+1) (dC d).toArray (HB.out _) H1.out ?_;rw [HS.out])|((with_reducible refine Gl 27 3 ?_);refine U9 (by kernel_rfl) 27 _ rfl (w.heap.size+1) rfl 27 (dC d).toArray (0,0) _ aM.out.b2 Tryz.underlying27 rfl (by kernel_rfl) ?_)|((with_reducible refine Gl 27 3 ?_);refine Lq 27 (w.heap.size+1) (dC d).toArray HX.out.b2 Tryz.underlying27 ?_)|(go_at_call 82;refine (HD.out _).mono ?_;rw [hd];rintro e w2 ⟨rfl,hb⟩;have aM:=Hd (Zf HX.out hb);clear hb;have c21:=(aM.out.b1.cell 21).trans (show _=some (Value.int .i64 ap) from rfl);have c22:=(aM.out.b1.cell 22).trans (show _=some (Value.slice A n c) from rfl))|((with_reducible refine Gb 149 ?_);refine U2 (by kernel_rfl) 149 _ rfl (cnC ⟨d,ap,A,n,c,ps⟩).toArray (by kernel_rfl) ?_)|(go_at_call 83;refine (HV.out _ aM.out.be).mono ?_;rw [ha];rintro e w3 ⟨rfl,hb⟩;have aP:=Hd (Zf aM.out hb);clear hb c21 c22;have c22:=fun ob=>((aP.out.b1.alloc ob).cell 22).trans (show _=some (Value.slice A n c) from rfl)))
   go_ret;exact ⟨rfl,aP.out.be⟩
  |true=>
   have hq:fvL d none 0 (0,[],0) ps=R0:=by rw [←gL.out];unfold In;rw [hd,decide_eq_true a1,decide_eq_true a2,ha];rfl
   have HQ0:=Hd hq;clear hq;go_enter Tryz.func68,Tryz.ntmps68
   go_wp2_with (first|((with_reducible refine Gl 27 8 ?_);refine Ln 27 w.heap.size 0 (dC d) HM.out Tryz.underlying27 ?_)|((with_reducible refine Gt 27 3 ?_);refine Lv 27 (w.heap.size+1) (dC d).toArray (HB.out _) H1.out ?_;rw [HS.out])|((with_reducible refine Gl 27 3 ?_);refine U9 (by kernel_rfl) 27 _ rfl (w.heap.size+1) rfl 27 (dC d).toArray (0,0) _ aM.out.b2 Tryz.underlying27 rfl (by kernel_rfl) ?_)|((with_reducible refine Gl 27 3 ?_);refine Lq 27 (w.heap.size+1) (dC d).toArray HX.out.b2 Tryz.underlying27 ?_)|(go_at_call 82;refine (HD.out _).mono ?_;rw [hd];rintro e w2 ⟨rfl,hb⟩;have aM:=Hd (Zf HX.out hb);clear hb;have c21:=(aM.out.b1.cell 21).trans (show _=some (Value.int .i64 ap) from rfl);have c22:=(aM.out.b1.cell 22).trans (show _=some (Value.slice A n c) from rfl))|((with_reducible refine Gb 149 ?_);refine U2 (by kernel_rfl) 149 _ rfl (cnC ⟨d,ap,A,n,c,ps⟩).toArray (by kernel_rfl) ?_)|(go_at_call 83;refine (HV.out _ aM.out.be).mono ?_;rw [ha];rintro e w3 ⟨rfl,hb⟩;have aP:=Hd (Zf aM.out hb);clear hb c21 c22;have c22:=fun ob=>((aP.out.b1.alloc ob).cell 22).trans (show _=some (Value.slice A n c) from rfl)))
   go_loopw [42] (fun v42 wr => ∃ (j:Nat) (y:Edn),j≤n∧v42 = .int .i64 j∧fvL d (prevK ps j) j (y.ci,y.rs,y.sp) (ps.drop j)=R0∧y.n≤j∧FL w3.heap.size ⟨d,ap,A,n,c,ps⟩ y w wr) (fun v42 _=>n-(intOf v42).toNat)
   case atStart=>exact ⟨0,⟨0,none,0,0,[],0⟩,Z0 _,rfl,HQ0.out,Le _,fl_new aP.out⟩
   case round=>
    obtain ⟨j,y,hj,rfl,aI,hyn,hfl⟩:=hrel;obtain ⟨wx,rfl⟩:∃ z:Wd,z=wr:=⟨_,rfl⟩
    have HFL:=Hd hfl;have aY:=Hd aI;have jG:=Hd hyn;clear hfl aI hyn c22;by_cases aG:j<n
    ·have HSW:=Hd (cG.out.below HFL.out.be);obtain ⟨b,o,q,rfl,hb,hg,aB⟩:=Sl.cell (f:=prC) (k:=2) (fun _=>rfl) HSW.out aG;have fD:=Hd hb;have HMQ:Hid (wx.rangeAt b (o+j*2) (prC q)):=Hd fun t u hu=>aB t u hu
     have HG:Hid (ps[j]? =some q):=Hd hg
     have gG:ps.drop j=q::ps.drop (j+1):=by
      have hlj:j<ps.length:=by rw [HL.out];exact aG
      rw [List.drop_eq_getElem_cons hlj];congr 1;rw [List.getElem?_eq_getElem hlj] at hg;injection hg
     have HQ1:Hid ((Vp d q&&riseB (prevK ps j) q.key&&Y3 d j (y.ci,y.rs,y.sp) q&&fvL d (some q.key) (j+1) (Eu d (y.ci,y.rs,y.sp) q) (ps.drop (j+1)))=R0):=Hd (by have h:=aY.out;rw [gG] at h;exact h);have HRQ:Hid (q.rcd.size≤maxLen):=Hd (HRZ.out q (List.mem_of_getElem? hg));have cK:Hid (∀ W,Below w.heap.size w W→Calls prog 84 #[.agg (dC d).toArray,.agg #[.string q.key,.string q.rcd]] W fun e w'=>e = .returned (.bool (Vp d q))∧Below W.heap.size W w'):=Hd fun W hb=>J2 d q W (HC.out.after hb) HRQ.out
     have HBn:=Hd fun old=>Blk.new wx 76 old
     have HSn:=Hd fun old=>U1 wx old (prC q).toArray 76
     have fT:Hid ((prC q).toArray.all (·.oneCell')=true):=Hd (by simp [prC,Value.oneCell']);have HF1:Hid (FL w3.heap.size ⟨d,ap,some ⟨b,o,none⟩,n,c,ps⟩ y w (wx.alloc (.cells (prC q).toArray 76))):=Hd (X7 HFL.out ((Bf _ _).alloc (Le _) _));have eE:Hid (Blk (wx.alloc (.cells (prC q).toArray 76)) wx.heap.size 76 (prC q).toArray):=Hd (Blk.new _ _ _);have HXW:Hid (w3.heap.size+1≤wx.heap.size):=Hd HFL.out.sz;clear hb hg aB gG;go_wp2_with (first|((with_reducible refine Gl 76 45 ?_);refine Ln 76 b (o+j*2) (prC q) HMQ.out Tryz.underlying76 ?_)|((with_reducible refine Gt 76 6 ?_);refine Lv 76 wx.heap.size (prC q).toArray (HBn.out _) fT.out ?_;rw [HSn.out]))
     have cQ:Hid (FL w3.heap.size ⟨d,ap,some ⟨b,o,none⟩,n,c,ps⟩ y w (wx.alloc (.cells (prC q).toArray 76)).drew):=Hd (X7 HF1.out (Bf _ _).drew);cases bU:Vp d q with
     |false=>
      have hq:R0=false:=by rw [←HQ1.out,bU];rfl
      subst hq;refine Rw (S:=fun w'=>Blk w' w.heap.size 30 (cnC ⟨d,ap,some ⟨b,o,none⟩,n,c,ps⟩).toArray∧Blk w' (w.heap.size+1) 27 (dC d).toArray∧Blk w' wx.heap.size 76 (prC q).toArray) (by kernel_rfl) ⟨cQ.out.b1,cQ.out.b2,eE.out.drew⟩ (fun Hh=>?_);refine tk 0 (.agg (dC d).toArray) Hh ?_ (y:=by exact yieldsIf_load_mid (by rfl) 27 _ rfl (w.heap.size+1) 0 rfl (dC d) _ (fun w' aH j v hv=>by rw [aH.2.1.cell,Nat.zero_add,Ga];exact hv) Tryz.underlying27 rfl (by kernel_rfl));refine tk 1 (.agg (prC q).toArray) Hh ?_ (y:=by exact yieldsIf_load_mid (by rfl) 76 _ rfl wx.heap.size 0 rfl (prC q) _ (fun w' aH j v hv=>by rw [aH.2.2.cell,Nat.zero_add,Ga];exact hv) Tryz.underlying76 rfl (by kernel_rfl));refine Aq [2] ?_;refine Rc (fun K hK=>?_) ?_
      ·go_simp;refine (cK.out _ cQ.out.be).mono ?_;rw [bU];rintro e w6 ⟨rfl,hb⟩;simp only [];have cM:=Hd (X7 cQ.out hb);have dJ:=Hd (eE.out.drew.below hb eE.out.lt);obtain ⟨q1,q2,q3⟩:=Hh;refine hK.out _ _ ⟨q1.below hb q1.lt,q2.below hb q2.lt,q3.below hb q3.lt⟩ (fun Hh=>?_);clear hK K hb q1 q2 q3;try simp only [Act.put,Sv,Sz,Sw]
       refine tk 3 (.bool true) Hh ?_;refine tk 4 (.bool true) Hh ?_;refine tku 5 Hh ?_;refine tku 6 Hh ?_;refine tku 7 Hh ?_;refine tku 8 Hh ?_;refine tku 9 Hh ?_;refine tku 10 Hh ?_;refine tku 11 Hh ?_;refine tku 12 Hh ?_;refine tku 13 Hh ?_;refine tku 14 Hh ?_;refine tku 15 Hh ?_;refine tku 16 Hh ?_;refine tku 17 Hh ?_;refine tku 18 Hh ?_;refine tk 19 (.bool true) Hh ?_;refine Ad (by kernel_rfl) ?_ _;clear Hh;go_wp2;go_ret;exact ⟨rfl,cM.out.be⟩
      exact An
     |true=>
      have hra:R0=R0:=rfl;clear hra;by_cases hj0:j=0
      ·have HJ0:Hid (decide ((0:Int)<(j:Int))=false∧decide (0<j)=false):=Hd ⟨decide_eq_false (by omega),decide_eq_false (by omega)⟩;have iO:Hid ((Y3 d j (y.ci,y.rs,y.sp) q&&fvL d (some q.key) (j+1) (Eu d (y.ci,y.rs,y.sp) q) (ps.drop (j+1)))=R0):=Hd (by have h:=HQ1.out;rw [bU,show prevK ps j=none from by simp [prevK,hj0]] at h;exact h);clear hj0;refine Rw (S:=fun w'=>Blk w' w.heap.size 30 (cnC ⟨d,ap,some ⟨b,o,none⟩,n,c,ps⟩).toArray∧Blk w' (w.heap.size+1) 27 (dC d).toArray∧Blk w' wx.heap.size 76 (prC q).toArray) (by kernel_rfl) ⟨cQ.out.b1,cQ.out.b2,eE.out.drew⟩ (fun Hh=>?_);refine tk 0 (.agg (dC d).toArray) Hh ?_ (y:=by exact yieldsIf_load_mid (by rfl) 27 _ rfl (w.heap.size+1) 0 rfl (dC d) _ (fun w' aH j v hv=>by rw [aH.2.1.cell,Nat.zero_add,Ga];exact hv) Tryz.underlying27 rfl (by kernel_rfl))
       refine tk 1 (.agg (prC q).toArray) Hh ?_ (y:=by exact yieldsIf_load_mid (by rfl) 76 _ rfl wx.heap.size 0 rfl (prC q) _ (fun w' aH j v hv=>by rw [aH.2.2.cell,Nat.zero_add,Ga];exact hv) Tryz.underlying76 rfl (by kernel_rfl));refine Aq [2] ?_;refine Rc (fun K hK=>?_) ?_
       ·go_simp;refine (cK.out _ cQ.out.be).mono ?_;rw [bU];rintro e w6 ⟨rfl,hb⟩;simp only [];have cM:=Hd (X7 cQ.out hb);have dJ:=Hd (eE.out.drew.below hb eE.out.lt);obtain ⟨q1,q2,q3⟩:=Hh;refine hK.out _ _ ⟨q1.below hb q1.lt,q2.below hb q2.lt,q3.below hb q3.lt⟩ (fun Hh=>?_);clear hK K hb q1 q2 q3;try simp only [Act.put,Sv,Sz,Sw]
        refine tk 3 (.bool false) Hh ?_;refine tk 4 (.bool false) Hh ?_;refine tk 5 (.int .i64 (j:Int)) Hh ?_;refine tj 6 (.bool false) Hh ?_ (y:=by intro w' aH;have h1:=HJ0.out.1;have h2:=HJ0.out.2;go_simp);refine tk 7 (.bool false) Hh ?_;refine tku 8 Hh ?_;refine tku 9 Hh ?_;refine tku 10 Hh ?_;refine tku 11 Hh ?_;refine tku 12 Hh ?_;refine tku 13 Hh ?_;refine tku 14 Hh ?_;refine tku 15 Hh ?_;refine tku 16 Hh ?_;refine tku 17 Hh ?_;refine tk 18 (.bool false) Hh ?_;refine tk 19 (.bool false) Hh ?_;refine Ad (by kernel_rfl) ?_ _;clear Hh;have d1:=(cM.out.b2.cell 1).trans (show _=some (Value.int .i64 d.org) from rfl);have p0:=(dJ.out.cell 0).trans (show _=some (Value.string q.key) from rfl);have p1:=(dJ.out.cell 1).trans (show _=some (Value.string q.rcd) from rfl);by_cases o0:d.org=0
        ·have k0:(d.org == 0)=true:=by simpa using o0
         obtain ⟨kk,eS⟩:∃ kk,Vu ((j:Int)+1)=kk:=⟨_,rfl⟩
         have HSLT:Hid (∀ W,Calls prog 85 #[.int .i64 ((j:Int)+1)] W fun e w'=>e = .returned (.string kk)∧Below W.heap.size W w'):=Hd fun W=>by rw [←eS];exact Yk _ W
         have fA:Hid (Y3 d j (y.ci,y.rs,y.sp) q=(kk.toList == q.key.toList)∧Eu d (y.ci,y.rs,y.sp) q=(y.ci,y.rs,y.sp)):=Hd ⟨by unfold Y3;rw [if_pos o0,eS],by unfold Eu;rw [if_neg (by omega)]⟩;clear o0 eS;cases hz:(kk.toList == q.key.toList) with
         |false=>
          have hq:R0=false:=by rw [←iO.out,fA.out.1,hz];rfl
          subst hq;go_wp2_with (first|(go_at_call 85;refine (HSLT.out _).mono ?_;rintro e w7 ⟨rfl,hb⟩;have gH:=Hd (X7 cM.out hb);have j8:=Hd (dJ.out.below hb dJ.out.lt);have p07:=(j8.out.cell 0).trans (show _=some (Value.string q.key) from rfl);clear hb d1 p0 p1)|fail);go_ret;exact ⟨rfl,gH.out.be⟩
         |true=>
          have HQY:Hid (fvL d (some q.key) (j+1) (y.ci,y.rs,y.sp) (ps.drop (j+1))=R0):=Hd (by have h:=iO.out;rw [fA.out.1,fA.out.2,hz,Bool.true_and] at h;exact h);go_wp2_with (first|(go_at_call 85;refine (HSLT.out _).mono ?_;rintro e w7 ⟨rfl,hb⟩;have gH:=Hd (X7 cM.out hb);have j8:=Hd (dJ.out.below hb dJ.out.lt);have p07:=(j8.out.cell 0).trans (show _=some (Value.string q.key) from rfl);clear hb d1 p0 p1)|fail);go_roundw
          case rel=>
           refine ⟨j+1,y,by omega,by go_num,?_,by have:=jG.out;omega,gH.out⟩;rw [Xq ps j q HG.out];exact HQY.out
          case measure=>simp [intOf];omega
        have k0:(d.org == 0)=false:=by simpa using o0
        by_cases o1:d.org=1
        ·have k1:(d.org == 1)=true:=by simpa using o1
         obtain ⟨kk,eS⟩:∃ kk,(Vh d q.rcd y.ci y.rs y.sp).1=kk:=⟨_,rfl⟩
         have fV:Hid (Calls prog 86 #[.agg (edC y).toArray,.agg (dC d).toArray,.string q.rcd] w6 (NxG d q.rcd y w6)):=Hd (next_e d q.rcd y _ cM.out.sl (by have:=jG.out;omega));have fA:Hid (Y3 d j (y.ci,y.rs,y.sp) q=(kk.toList == q.key.toList)∧Eu d (y.ci,y.rs,y.sp) q=(Vh d q.rcd y.ci y.rs y.sp).2):=Hd ⟨by unfold Y3;rw [if_neg o0,if_pos o1,eS],by unfold Eu;rw [if_pos o1]⟩;have HKK:=Hd eS;clear o0 o1 eS;cases hz:(kk.toList == q.key.toList) with
         |false=>
          have hq:R0=false:=by rw [←iO.out,fA.out.1,hz];rfl
          subst hq
          go_wp2_with (first|((with_reducible refine Gl 152 4 ?_);refine Lq 152 w3.heap.size (edC y).toArray cM.out.b3 Tryz.underlying152 ?_)|((with_reducible refine Gl 27 3 ?_);refine Lq 27 (w.heap.size+1) (dC d).toArray cM.out.b2 Tryz.underlying27 ?_)|(go_at_call 86;refine fV.out.mono ?_;rintro e w7 ⟨z,rfl,aR,bP,gV,hb⟩;rw [HKK.out];have HZ:=Hd aR;have gH:=Hd (X7 cM.out hb);have j8:=Hd (dJ.out.below hb dJ.out.lt);have gF:=Hd bP;have HNA:Hid (∀ a,z.A=some a→w3.heap.size+1≤a.block):=Hd (fun a ha=>by have h1:=gV a ha;have h2:=cM.out.sz;omega);have j9:Hid ((edC z).toArray.all (·.oneCell')=true):=Hd (by simp [edC,Value.oneCell']);have HPF:Hid (wx.heap.size≠w3.heap.size):=Hd (by have:=HXW.out;omega);have p07:(w7.setRow w3.heap.size (edC z).toArray).cell? ⟨wx.heap.size,0,none⟩=some (.string q.key):=(cell_setRow_other w7 _ _ ⟨wx.heap.size,0,none⟩ HPF.out).trans ((j8.out.cell 0).trans rfl);clear aR bP gV hb d1 p0 p1)|((with_reducible refine Gt 152 4 ?_);refine Lv 152 w3.heap.size (edC z).toArray gH.out.b3 j9.out ?_))
          go_ret;exact ⟨rfl,(fl_set gH.out gF.out HNA.out).be⟩
         |true=>
          have HQY:Hid (fvL d (some q.key) (j+1) (Vh d q.rcd y.ci y.rs y.sp).2 (ps.drop (j+1))=R0):=Hd (by have h:=iO.out;rw [fA.out.1,fA.out.2,hz,Bool.true_and] at h;exact h)
          go_wp2_with (first|((with_reducible refine Gl 152 4 ?_);refine Lq 152 w3.heap.size (edC y).toArray cM.out.b3 Tryz.underlying152 ?_)|((with_reducible refine Gl 27 3 ?_);refine Lq 27 (w.heap.size+1) (dC d).toArray cM.out.b2 Tryz.underlying27 ?_)|(go_at_call 86;refine fV.out.mono ?_;rintro e w7 ⟨z,rfl,aR,bP,gV,hb⟩;rw [HKK.out];have HZ:=Hd aR;have gH:=Hd (X7 cM.out hb);have j8:=Hd (dJ.out.below hb dJ.out.lt);have gF:=Hd bP;have HNA:Hid (∀ a,z.A=some a→w3.heap.size+1≤a.block):=Hd (fun a ha=>by have h1:=gV a ha;have h2:=cM.out.sz;omega);have j9:Hid ((edC z).toArray.all (·.oneCell')=true):=Hd (by simp [edC,Value.oneCell']);have HPF:Hid (wx.heap.size≠w3.heap.size):=Hd (by have:=HXW.out;omega);have p07:(w7.setRow w3.heap.size (edC z).toArray).cell? ⟨wx.heap.size,0,none⟩=some (.string q.key):=(cell_setRow_other w7 _ _ ⟨wx.heap.size,0,none⟩ HPF.out).trans ((j8.out.cell 0).trans rfl);clear aR bP gV hb d1 p0 p1)|((with_reducible refine Gt 152 4 ?_);refine Lv 152 w3.heap.size (edC z).toArray gH.out.b3 j9.out ?_))
          have HLZ:Hid (z.n≤j+1):=Hd (by have h1:=gF.out.len;have h2:=cM.out.sl.len;have h3:=Fu d q.rcd y.ci y.rs y.sp;have h4:z.rs=(Vh d q.rcd y.ci y.rs y.sp).2.2.1:=congrArg (·.2.1) HZ.out;rw [←h4] at h3;have:=jG.out;omega);go_roundw
          case rel=>
           refine ⟨j+1,z,by omega,by go_num,?_,HLZ.out,fl_set gH.out gF.out HNA.out⟩;rw [Xq ps j q HG.out];exact (by rw [HZ.out];exact HQY.out)
          case measure=>simp [intOf];omega
        have k1:(d.org == 1)=false:=by simpa using o1
        have fA:Hid (Y3 d j (y.ci,y.rs,y.sp) q=true∧Eu d (y.ci,y.rs,y.sp) q=(y.ci,y.rs,y.sp)):=Hd ⟨by unfold Y3;rw [if_neg o0,if_neg o1],by unfold Eu;rw [if_neg o1]⟩;clear o0 o1;have HQY:Hid (fvL d (some q.key) (j+1) (y.ci,y.rs,y.sp) (ps.drop (j+1))=R0):=Hd (by have h:=iO.out;rw [fA.out.1,fA.out.2,Bool.true_and] at h;exact h);go_wp2;go_roundw
        case rel=>
         refine ⟨j+1,y,by omega,by go_num,?_,by have:=jG.out;omega,cM.out⟩;rw [Xq ps j q HG.out];exact HQY.out
        case measure=>simp [intOf];omega
       exact An
      obtain ⟨k,hk⟩:∃ k,j=k+1:=⟨j-1,by omega⟩
      have hkn:k<n:=by omega
      obtain ⟨b2,o2,q0,hA2,aF,dL,eR⟩:=Sl.cell (f:=prC) (k:=2) (fun _=>rfl) HSW.out hkn;injection hA2 with hA2
      injection hA2 with e1 e2
      subst e1;subst e2;have gP:b<wx.heap.size:=by have h1:=fD.out;have h2:=HFL.out.be.size;omega
      have HPK:Hid ((wx.alloc (.cells (prC q).toArray 76)).drew.cell? ⟨b,o+k*2,none⟩=some (.string q0.key)):=Hd ((((Bf wx.heap.size wx).alloc (Le _) (.cells (prC q).toArray 76)).cell (p:=⟨b,o+k*2,none⟩) gP).trans (by have h:=eR 0 _ rfl;simpa using h));have bC:Hid (b<(wx.alloc (.cells (prC q).toArray 76)).drew.heap.size):=Hd (by show b<(wx.alloc (.cells (prC q).toArray 76)).heap.size;simp;omega);have HPV:Hid (prevK ps j=some q0.key):=Hd (by rw [hk];exact Xq ps k q0 dL);have HJ1:Hid (decide ((0:Int)<(j:Int))=true∧decide (0<j)=true):=Hd ⟨decide_eq_true (by omega),decide_eq_true (by omega)⟩;have HJ2:Hid (IntKind.i64.wrap ((j:Int)-1)=(k:Int)∧(j:Int)-1=(k:Int)∧IntKind.i64.wrap (k:Int)=(k:Int)):=Hd ⟨by rw [IntKind.wrap_i64];omega,by omega,by rw [IntKind.wrap_i64];omega⟩;clear aF dL eR gP hk hj0;cases hls:U8 q0.key q.key with
      |false=>
       have HGE:Hid (Op.bytesLess q0.key.toList q.key.toList=false):=Hd hls;have hq:R0=false:=by rw [←HQ1.out,bU,HPV.out];show (true&&U8 q0.key q.key&&_&&_)=false;rw [hls];rfl
       subst hq;refine Rw (S:=fun w'=>Blk w' w.heap.size 30 (cnC ⟨d,ap,some ⟨b,o,none⟩,n,c,ps⟩).toArray∧Blk w' (w.heap.size+1) 27 (dC d).toArray∧Blk w' wx.heap.size 76 (prC q).toArray∧w'.cell? ⟨b,o+k*2,none⟩=some (.string q0.key)) (by kernel_rfl) ⟨cQ.out.b1,cQ.out.b2,eE.out.drew,HPK.out⟩ (fun Hh=>?_);refine tk 0 (.agg (dC d).toArray) Hh ?_ (y:=by exact yieldsIf_load_mid (by rfl) 27 _ rfl (w.heap.size+1) 0 rfl (dC d) _ (fun w' aH j v hv=>by rw [aH.2.1.cell,Nat.zero_add,Ga];exact hv) Tryz.underlying27 rfl (by kernel_rfl));refine tk 1 (.agg (prC q).toArray) Hh ?_ (y:=by exact yieldsIf_load_mid (by rfl) 76 _ rfl wx.heap.size 0 rfl (prC q) _ (fun w' aH j v hv=>by rw [aH.2.2.1.cell,Nat.zero_add,Ga];exact hv) Tryz.underlying76 rfl (by kernel_rfl));refine Aq [2] ?_;refine Rc (fun K hK=>?_) ?_
       ·go_simp;refine (cK.out _ cQ.out.be).mono ?_;rw [bU];rintro e w6 ⟨rfl,hb⟩;simp only [];have cM:=Hd (X7 cQ.out hb);have dJ:=Hd (eE.out.drew.below hb eE.out.lt);obtain ⟨q1,q2,q3,q4⟩:=Hh;refine hK.out _ _ ⟨q1.below hb q1.lt,q2.below hb q2.lt,q3.below hb q3.lt,(hb.cell (p:=⟨b,o+k*2,none⟩) bC.out).trans q4⟩ (fun Hh=>?_);clear hK K hb q1 q2 q3 q4;try simp only [Act.put,Sv,Sz,Sw]
        refine tk 3 (.bool false) Hh ?_;refine tk 4 (.bool false) Hh ?_;refine tk 5 (.int .i64 (j:Int)) Hh ?_;refine tj 6 (.bool true) Hh ?_ (y:=by intro w' aH;have h1:=HJ1.out.1;have h2:=HJ1.out.2;go_simp);refine tk 7 (.bool true) Hh ?_;refine tk 8 (.pointer (some ⟨w.heap.size,22,none⟩)) Hh ?_;refine tj 9 (.slice (some ⟨b,o,none⟩) n c) Hh ?_ (y:=by intro w' aH;have h1:=(aH.1.cell 22).trans (show _=some (Value.slice (some ⟨b,o,none⟩) n c) from rfl);go_simp);refine tk 10 (.int .i64 (j:Int)) Hh ?_;refine tj 11 (.int .i64 (k:Int)) Hh ?_ (y:=by intro w' aH;have h1:=HJ2.out.1;have h2:=HJ2.out.2.1;have h3:=HJ2.out.2.2;go_simp);refine tk 12 (.pointer (some ⟨b,o+k*2,none⟩)) Hh ?_;refine tk 13 (.pointer (some ⟨b,o+k*2,none⟩)) Hh ?_;refine tj 14 (.string q0.key) Hh ?_ (y:=by intro w' aH;have h1:=aH.2.2.2;go_simp)
        refine tk 15 (.pointer (some ⟨wx.heap.size,0,none⟩)) Hh ?_;refine tj 16 (.string q.key) Hh ?_ (y:=by intro w' aH;have h1:=(aH.2.2.1.cell 0).trans (show _=some (Value.string q.key) from rfl);go_simp);refine tj 17 (.bool true) Hh ?_ (y:=by intro w' aH;have h1:=HGE.out;go_simp);refine tk 18 (.bool true) Hh ?_;refine tk 19 (.bool true) Hh ?_;refine Ad (by kernel_rfl) ?_ _;clear Hh;go_wp2;go_ret;exact ⟨rfl,cM.out.be⟩
       exact An
      |true=>
       have HGE:Hid (Op.bytesLess q0.key.toList q.key.toList=true):=Hd hls;have iO:Hid ((Y3 d j (y.ci,y.rs,y.sp) q&&fvL d (some q.key) (j+1) (Eu d (y.ci,y.rs,y.sp) q) (ps.drop (j+1)))=R0):=Hd (by have h:=HQ1.out;rw [bU,HPV.out] at h;have h2:(true&&U8 q0.key q.key&&Y3 d j (y.ci,y.rs,y.sp) q&&fvL d (some q.key) (j+1) (Eu d (y.ci,y.rs,y.sp) q) (ps.drop (j+1)))=R0:=h;rw [hls] at h2;exact h2);refine Rw (S:=fun w'=>Blk w' w.heap.size 30 (cnC ⟨d,ap,some ⟨b,o,none⟩,n,c,ps⟩).toArray∧Blk w' (w.heap.size+1) 27 (dC d).toArray∧Blk w' wx.heap.size 76 (prC q).toArray∧w'.cell? ⟨b,o+k*2,none⟩=some (.string q0.key)) (by kernel_rfl) ⟨cQ.out.b1,cQ.out.b2,eE.out.drew,HPK.out⟩ (fun Hh=>?_)
       refine tk 0 (.agg (dC d).toArray) Hh ?_ (y:=by exact yieldsIf_load_mid (by rfl) 27 _ rfl (w.heap.size+1) 0 rfl (dC d) _ (fun w' aH j v hv=>by rw [aH.2.1.cell,Nat.zero_add,Ga];exact hv) Tryz.underlying27 rfl (by kernel_rfl));refine tk 1 (.agg (prC q).toArray) Hh ?_ (y:=by exact yieldsIf_load_mid (by rfl) 76 _ rfl wx.heap.size 0 rfl (prC q) _ (fun w' aH j v hv=>by rw [aH.2.2.1.cell,Nat.zero_add,Ga];exact hv) Tryz.underlying76 rfl (by kernel_rfl));refine Aq [2] ?_;refine Rc (fun K hK=>?_) ?_
       ·go_simp;refine (cK.out _ cQ.out.be).mono ?_;rw [bU];rintro e w6 ⟨rfl,hb⟩;simp only [];have cM:=Hd (X7 cQ.out hb);have dJ:=Hd (eE.out.drew.below hb eE.out.lt);obtain ⟨q1,q2,q3,q4⟩:=Hh;refine hK.out _ _ ⟨q1.below hb q1.lt,q2.below hb q2.lt,q3.below hb q3.lt,(hb.cell (p:=⟨b,o+k*2,none⟩) bC.out).trans q4⟩ (fun Hh=>?_);clear hK K hb q1 q2 q3 q4;try simp only [Act.put,Sv,Sz,Sw]
        refine tk 3 (.bool false) Hh ?_;refine tk 4 (.bool false) Hh ?_;refine tk 5 (.int .i64 (j:Int)) Hh ?_;refine tj 6 (.bool true) Hh ?_ (y:=by intro w' aH;have h1:=HJ1.out.1;have h2:=HJ1.out.2;go_simp);refine tk 7 (.bool true) Hh ?_;refine tk 8 (.pointer (some ⟨w.heap.size,22,none⟩)) Hh ?_;refine tj 9 (.slice (some ⟨b,o,none⟩) n c) Hh ?_ (y:=by intro w' aH;have h1:=(aH.1.cell 22).trans (show _=some (Value.slice (some ⟨b,o,none⟩) n c) from rfl);go_simp);refine tk 10 (.int .i64 (j:Int)) Hh ?_;refine tj 11 (.int .i64 (k:Int)) Hh ?_ (y:=by intro w' aH;have h1:=HJ2.out.1;have h2:=HJ2.out.2.1;have h3:=HJ2.out.2.2;go_simp);refine tk 12 (.pointer (some ⟨b,o+k*2,none⟩)) Hh ?_;refine tk 13 (.pointer (some ⟨b,o+k*2,none⟩)) Hh ?_;refine tj 14 (.string q0.key) Hh ?_ (y:=by intro w' aH;have h1:=aH.2.2.2;go_simp)
        refine tk 15 (.pointer (some ⟨wx.heap.size,0,none⟩)) Hh ?_;refine tj 16 (.string q.key) Hh ?_ (y:=by intro w' aH;have h1:=(aH.2.2.1.cell 0).trans (show _=some (Value.string q.key) from rfl);go_simp);refine tj 17 (.bool false) Hh ?_ (y:=by intro w' aH;have h1:=HGE.out;go_simp);refine tk 18 (.bool false) Hh ?_;refine tk 19 (.bool false) Hh ?_;refine Ad (by kernel_rfl) ?_ _;clear Hh;have d1:=(cM.out.b2.cell 1).trans (show _=some (Value.int .i64 d.org) from rfl);have p0:=(dJ.out.cell 0).trans (show _=some (Value.string q.key) from rfl);have p1:=(dJ.out.cell 1).trans (show _=some (Value.string q.rcd) from rfl);by_cases o0:d.org=0
        ·have k0:(d.org == 0)=true:=by simpa using o0
         obtain ⟨kk,eS⟩:∃ kk,Vu ((j:Int)+1)=kk:=⟨_,rfl⟩
         have HSLT:Hid (∀ W,Calls prog 85 #[.int .i64 ((j:Int)+1)] W fun e w'=>e = .returned (.string kk)∧Below W.heap.size W w'):=Hd fun W=>by rw [←eS];exact Yk _ W
         have fA:Hid (Y3 d j (y.ci,y.rs,y.sp) q=(kk.toList == q.key.toList)∧Eu d (y.ci,y.rs,y.sp) q=(y.ci,y.rs,y.sp)):=Hd ⟨by unfold Y3;rw [if_pos o0,eS],by unfold Eu;rw [if_neg (by omega)]⟩;clear o0 eS;cases hz:(kk.toList == q.key.toList) with
         |false=>
          have hq:R0=false:=by rw [←iO.out,fA.out.1,hz];rfl
          subst hq;go_wp2_with (first|(go_at_call 85;refine (HSLT.out _).mono ?_;rintro e w7 ⟨rfl,hb⟩;have gH:=Hd (X7 cM.out hb);have j8:=Hd (dJ.out.below hb dJ.out.lt);have p07:=(j8.out.cell 0).trans (show _=some (Value.string q.key) from rfl);clear hb d1 p0 p1)|fail);go_ret;exact ⟨rfl,gH.out.be⟩
         |true=>
          have HQY:Hid (fvL d (some q.key) (j+1) (y.ci,y.rs,y.sp) (ps.drop (j+1))=R0):=Hd (by have h:=iO.out;rw [fA.out.1,fA.out.2,hz,Bool.true_and] at h;exact h);go_wp2_with (first|(go_at_call 85;refine (HSLT.out _).mono ?_;rintro e w7 ⟨rfl,hb⟩;have gH:=Hd (X7 cM.out hb);have j8:=Hd (dJ.out.below hb dJ.out.lt);have p07:=(j8.out.cell 0).trans (show _=some (Value.string q.key) from rfl);clear hb d1 p0 p1)|fail);go_roundw
          case rel=>
           refine ⟨j+1,y,by omega,by go_num,?_,by have:=jG.out;omega,gH.out⟩;rw [Xq ps j q HG.out];exact HQY.out
          case measure=>simp [intOf];omega
        have k0:(d.org == 0)=false:=by simpa using o0
        by_cases o1:d.org=1
        ·have k1:(d.org == 1)=true:=by simpa using o1
         obtain ⟨kk,eS⟩:∃ kk,(Vh d q.rcd y.ci y.rs y.sp).1=kk:=⟨_,rfl⟩
         have fV:Hid (Calls prog 86 #[.agg (edC y).toArray,.agg (dC d).toArray,.string q.rcd] w6 (NxG d q.rcd y w6)):=Hd (next_e d q.rcd y _ cM.out.sl (by have:=jG.out;omega));have fA:Hid (Y3 d j (y.ci,y.rs,y.sp) q=(kk.toList == q.key.toList)∧Eu d (y.ci,y.rs,y.sp) q=(Vh d q.rcd y.ci y.rs y.sp).2):=Hd ⟨by unfold Y3;rw [if_neg o0,if_pos o1,eS],by unfold Eu;rw [if_pos o1]⟩;have HKK:=Hd eS;clear o0 o1 eS;cases hz:(kk.toList == q.key.toList) with
         |false=>
          have hq:R0=false:=by rw [←iO.out,fA.out.1,hz];rfl
          subst hq
          go_wp2_with (first|((with_reducible refine Gl 152 4 ?_);refine Lq 152 w3.heap.size (edC y).toArray cM.out.b3 Tryz.underlying152 ?_)|((with_reducible refine Gl 27 3 ?_);refine Lq 27 (w.heap.size+1) (dC d).toArray cM.out.b2 Tryz.underlying27 ?_)|(go_at_call 86;refine fV.out.mono ?_;rintro e w7 ⟨z,rfl,aR,bP,gV,hb⟩;rw [HKK.out];have HZ:=Hd aR;have gH:=Hd (X7 cM.out hb);have j8:=Hd (dJ.out.below hb dJ.out.lt);have gF:=Hd bP;have HNA:Hid (∀ a,z.A=some a→w3.heap.size+1≤a.block):=Hd (fun a ha=>by have h1:=gV a ha;have h2:=cM.out.sz;omega);have j9:Hid ((edC z).toArray.all (·.oneCell')=true):=Hd (by simp [edC,Value.oneCell']);have HPF:Hid (wx.heap.size≠w3.heap.size):=Hd (by have:=HXW.out;omega);have p07:(w7.setRow w3.heap.size (edC z).toArray).cell? ⟨wx.heap.size,0,none⟩=some (.string q.key):=(cell_setRow_other w7 _ _ ⟨wx.heap.size,0,none⟩ HPF.out).trans ((j8.out.cell 0).trans rfl);clear aR bP gV hb d1 p0 p1)|((with_reducible refine Gt 152 4 ?_);refine Lv 152 w3.heap.size (edC z).toArray gH.out.b3 j9.out ?_))
          go_ret;exact ⟨rfl,(fl_set gH.out gF.out HNA.out).be⟩
         |true=>
          have HQY:Hid (fvL d (some q.key) (j+1) (Vh d q.rcd y.ci y.rs y.sp).2 (ps.drop (j+1))=R0):=Hd (by have h:=iO.out;rw [fA.out.1,fA.out.2,hz,Bool.true_and] at h;exact h)
          go_wp2_with (first|((with_reducible refine Gl 152 4 ?_);refine Lq 152 w3.heap.size (edC y).toArray cM.out.b3 Tryz.underlying152 ?_)|((with_reducible refine Gl 27 3 ?_);refine Lq 27 (w.heap.size+1) (dC d).toArray cM.out.b2 Tryz.underlying27 ?_)|(go_at_call 86;refine fV.out.mono ?_;rintro e w7 ⟨z,rfl,aR,bP,gV,hb⟩;rw [HKK.out];have HZ:=Hd aR;have gH:=Hd (X7 cM.out hb);have j8:=Hd (dJ.out.below hb dJ.out.lt);have gF:=Hd bP;have HNA:Hid (∀ a,z.A=some a→w3.heap.size+1≤a.block):=Hd (fun a ha=>by have h1:=gV a ha;have h2:=cM.out.sz;omega);have j9:Hid ((edC z).toArray.all (·.oneCell')=true):=Hd (by simp [edC,Value.oneCell']);have HPF:Hid (wx.heap.size≠w3.heap.size):=Hd (by have:=HXW.out;omega);have p07:(w7.setRow w3.heap.size (edC z).toArray).cell? ⟨wx.heap.size,0,none⟩=some (.string q.key):=(cell_setRow_other w7 _ _ ⟨wx.heap.size,0,none⟩ HPF.out).trans ((j8.out.cell 0).trans rfl);clear aR bP gV hb d1 p0 p1)|((with_reducible refine Gt 152 4 ?_);refine Lv 152 w3.heap.size (edC z).toArray gH.out.b3 j9.out ?_))
          have HLZ:Hid (z.n≤j+1):=Hd (by have h1:=gF.out.len;have h2:=cM.out.sl.len;have h3:=Fu d q.rcd y.ci y.rs y.sp;have h4:z.rs=(Vh d q.rcd y.ci y.rs y.sp).2.2.1:=congrArg (·.2.1) HZ.out;rw [←h4] at h3;have:=jG.out;omega);go_roundw
          case rel=>
           refine ⟨j+1,z,by omega,by go_num,?_,HLZ.out,fl_set gH.out gF.out HNA.out⟩;rw [Xq ps j q HG.out];exact (by rw [HZ.out];exact HQY.out)
          case measure=>simp [intOf];omega
        have k1:(d.org == 1)=false:=by simpa using o1
        have fA:Hid (Y3 d j (y.ci,y.rs,y.sp) q=true∧Eu d (y.ci,y.rs,y.sp) q=(y.ci,y.rs,y.sp)):=Hd ⟨by unfold Y3;rw [if_neg o0,if_neg o1],by unfold Eu;rw [if_neg o1]⟩;clear o0 o1;have HQY:Hid (fvL d (some q.key) (j+1) (y.ci,y.rs,y.sp) (ps.drop (j+1))=R0):=Hd (by have h:=iO.out;rw [fA.out.1,fA.out.2,Bool.true_and] at h;exact h);go_wp2;go_roundw
        case rel=>
         refine ⟨j+1,y,by omega,by go_num,?_,by have:=jG.out;omega,cM.out⟩;rw [Xq ps j q HG.out];exact HQY.out
        case measure=>simp [intOf];omega
       exact An
    ·obtain rfl:j=n:=by omega
     have hq:R0=true:=by rw [←aY.out,List.drop_of_length_le (by rw [HL.out];exact Le _)];rfl
     subst hq;go_wp2;go_ret;exact ⟨rfl,HFL.out.be⟩
end Go.Proofs.YtoakknkmjnebjaaGreatDoor
