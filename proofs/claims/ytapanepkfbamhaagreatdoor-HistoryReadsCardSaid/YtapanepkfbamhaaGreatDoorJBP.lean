/- Part of the proof of HistoryReads. -/
import Derived.Test.YtapanepkfbamhaaGreatDoorJBO
namespace Go.Proofs.YtapanepkfbamhaaGreatDoor
open Tryz (prog)
section
set_option maxRecDepth 100000
set_option maxHeartbeats 2000000
open Go.RowKit
def rdT (r:Rdd):Tch:=⟨r.id,if r.kind=0 then pointR r.key else if r.code≠0 then fromR r.key else ⟨r.key,r.ak,false⟩⟩
theorem read_any (x:Com) (w:World) (hok:ComOk w w.heap.size x) (hn:x.rn≤1000):
  Calls prog 19 #[.agg #[.int .i64 x.unit,.int .i64 x.num,.slice x.rA x.rn x.rc,.slice x.cA x.cn x.cc]] w (Fb w x.rn (x.rs.map rdT)):=by
 have HS:=Hd hok.1;have HL:=Hd hok.1.len;obtain ⟨i0,hi0,hz0,hz1,hz2⟩:=info_parts infoTch;clear hok;go_enter Tryz.func19,Tryz.ntmps19;go_wp2;go_loopw [3,10] (fun v3 i wr => ∃ j:Nat,j≤x.rn∧i = .int .i64 j∧wr.ownsRow (w.heap.size+1) 94 4 v3 j (Ua Xl ((x.rs.map rdT).take j))∧Below (w.heap.size+1) (w.alloc (.cells #[.int .i64 x.unit,.int .i64 x.num,.slice x.rA x.rn x.rc,.slice x.cA x.cn x.cc] 34)) wr) (fun _ i _=>x.rn-(intOf i).toNat)
 case atStart=>exact ⟨0,Z0 _,rfl,⟨rfl,.inl ⟨rfl,rfl⟩⟩,Bf _ _⟩
 case round=>
  obtain ⟨j,hj,rfl,hown,hbel⟩:=hrel;have HOW:=Hd hown;have HB:=Hd hbel;have hsz:=Vf hbel;clear hown hbel;by_cases hlt:j<x.rn
  ·obtain ⟨b,o,y,hA,hb,hg,hcell⟩:=Sl.cell (f:=rdC) (k:=6) rdC_len (HS.out.after (Uc HB.out) (Nat.le_of_succ_le hsz)) hlt
   have HG:=Hd hg;have HMT:Hid (Ua Xl ((x.rs.map rdT).take (j+1))=Ua Xl ((x.rs.map rdT).take j)++Xl (rdT y)):=Hd (by rw [Iz rdT HG.out,Uy,Uv]);have HAE:=Hd hA;rw [hA];have c0:=hcell 0 _ rfl;have c1:=hcell 1 _ rfl;have c2:=hcell 2 _ rfl;have c3:=hcell 3 _ rfl;have c4:=hcell 4 _ rfl;have c5:=hcell 5 _ rfl;simp only [Nat.add_zero] at c0;clear hg hcell hb hA;have HPT:Hid (∀ W:World,Calls prog 46 #[.string y.key] W fun e w'=>e = .returned (.agg #[.string y.key,.string y.key,.bool false])∧Below W.heap.size W w'):=Hd fun W=>point_any y.key W
   have HFR:Hid (∀ W:World,Calls prog 45 #[.string y.key] W fun e w'=>e = .returned (.agg #[.string y.key,.string ⟨#[]⟩,.bool true])∧Below W.heap.size W w'):=Hd fun W=>from_any y.key W
   obtain ⟨K1,hK⟩:∃ K1:Int,y.kind=K1:=⟨_,rfl⟩
   rw [hK] at c0;by_cases hk:K1=0
   ·have HCT:Hid (rdT y=⟨y.id,⟨y.key,y.key,false⟩⟩):=Hd (by unfold rdT;rw [hK,if_pos hk];rfl)
    have d0:(K1 == 0)=true:=by simpa using hk
    clear hk hK;go_wp2_with fail;refine (HPT.out _).mono ?_;rintro e w3 ⟨rfl,hb3⟩;have kA3:=((Blk.new wr 49 #[.int .i64 K1,.int .i64 y.id,.string y.key,.string y.ak,.string y.ar,.int .i64 y.code]).alloc (.cells #[.string y.key,.string y.ak,.bool false] 92)).below hb3 (by simp;omega);have kR:=(U3 (wr.alloc (.cells #[.int .i64 K1,.int .i64 y.id,.string y.key,.string y.ak,.string y.ar,.int .i64 y.code] 49)) 92 #[.string y.key,.string y.ak,.bool false] (wr.heap.size+1) (by simp)).below hb3 (by simp);have a3:=kA3.cell 1;have a5:=kA3.cell 5;have r0:=kR.cell 0;have r1:=kR.cell 1;have r2:=kR.cell 2;have f0:=kR.free 0;have f1:=kR.free 1;have f2:=kR.free 2;simp at a3 a5 r0 r1 r2;have l2:=kR.lt
    have B3:=Hd (U0 (((Bf wr.heap.size wr).alloc (Le _) (.cells #[.int .i64 K1,.int .i64 y.id,.string y.key,.string y.ak,.string y.ar,.int .i64 y.code] 49)).alloc (Vh _ _) (.cells #[.string y.key,.string y.ak,.bool false] 92)) hb3 (by simp;omega));have B9:=Hd (((B3.out.setCell (p:=⟨wr.heap.size+1,0,none⟩) (Nat.le_succ _) (.string y.key)).setCell (p:=⟨wr.heap.size+1,1,none⟩) (Nat.le_succ _) (.string y.key)).setCell (p:=⟨wr.heap.size+1,2,none⟩) (Nat.le_succ _) (.bool false));clear kA3 kR hb3;go_wp2_with (at_builtin;go_must (refine U4 _ rfl _ _ 62 rfl (w.heap.size+1) 94 i0 _ 4 48 Tryz.underlying62 hi0 hz0 hz1 hz2 rfl (by decide) _ j _ rfl ((Ui HOW.out B9.out).alloc _) _ _ 1 1 [.int .i64 y.id,.string y.key,.string y.key,.bool false] rfl (Zb _ _ [.int .i64 y.id,.string y.key,.string y.key,.bool false] 94 1 4 rfl ?c5) ?c1 ?c2 ?c3 ?c4 ?_))
    case c5=>simp
    case c1=>intro u hu;simp at hu;rcases hu with rfl|rfl|rfl|rfl<;>rfl
    case c2=>simp only [maxLen];omega
    case c3=>omega
    case c4=>simp;omega
    intro v4 w4 ho4 hg4 _;have B4:=Hd (((HB.out.trans (B9.out.mono hsz)).alloc (Lx hsz B9.out.size) _).grown hg4 (Lx (Lx hsz B9.out.size) (Vh _ _)) (Vv HOW.out (Le _)));have HO4:Hid (w4.ownsRow (w.heap.size+1) 94 4 v4 (j+1) (Ua Xl ((x.rs.map rdT).take (j+1)))):=Hd (by rw [HMT.out,HCT.out];exact ho4);clear ho4 hg4;go_wp2;go_roundw
    case rel=>exact ⟨j+1,by omega,by go_num,HO4.out,by have h:=B4.out;rw [HAE.out] at h;exact h⟩
    case measure=>simp [intOf];omega
   ·have d0:(K1 == 0)=false:=by simpa using hk
    by_cases hc:y.code=0
    ·have HCT:Hid (rdT y=⟨y.id,⟨y.key,y.ak,false⟩⟩):=Hd (by unfold rdT;rw [hK,if_neg hk,if_neg (by simpa using hc)])
     have d1:(y.code == 0)=true:=by simpa using hc
     have d2:(y.code != 0)=false:=by simpa using hc
     have B9:=Hd (((Bf wr.heap.size wr).alloc (Le _) (.cells #[.int .i64 K1,.int .i64 y.id,.string y.key,.string y.ak,.string y.ar,.int .i64 y.code] 49)).alloc (Vh _ _) (.cells #[.string y.key,.string y.ak,.bool false] 92));clear hk hK hc;go_wp2_with (at_builtin;go_must (refine U4 _ rfl _ _ 62 rfl (w.heap.size+1) 94 i0 _ 4 48 Tryz.underlying62 hi0 hz0 hz1 hz2 rfl (by decide) _ j _ rfl ((Ui HOW.out B9.out).alloc _) _ _ 1 1 [.int .i64 y.id,.string y.key,.string y.ak,.bool false] rfl (Zb _ _ [.int .i64 y.id,.string y.key,.string y.ak,.bool false] 94 1 4 rfl ?c5) ?c1 ?c2 ?c3 ?c4 ?_))
     case c5=>simp
     case c1=>intro u hu;simp at hu;rcases hu with rfl|rfl|rfl|rfl<;>rfl
     case c2=>simp only [maxLen];omega
     case c3=>omega
     case c4=>simp;omega
     intro v4 w4 ho4 hg4 _;have B4:=Hd (((HB.out.trans (B9.out.mono hsz)).alloc (Lx hsz B9.out.size) _).grown hg4 (Lx (Lx hsz B9.out.size) (Vh _ _)) (Vv HOW.out (Le _)));have HO4:Hid (w4.ownsRow (w.heap.size+1) 94 4 v4 (j+1) (Ua Xl ((x.rs.map rdT).take (j+1)))):=Hd (by rw [HMT.out,HCT.out];exact ho4);clear ho4 hg4;go_wp2;go_roundw
     case rel=>exact ⟨j+1,by omega,by go_num,HO4.out,by have h:=B4.out;rw [HAE.out] at h;exact h⟩
     case measure=>simp [intOf];omega
    ·have HCT:Hid (rdT y=⟨y.id,⟨y.key,⟨#[]⟩,true⟩⟩):=Hd (by unfold rdT;rw [hK,if_neg hk,if_pos (by simpa using hc)];rfl)
     have d1:(y.code == 0)=false:=by simpa using hc
     have d2:(y.code != 0)=true:=by simpa using hc
     clear hk hK hc;go_wp2_with fail;refine (HFR.out _).mono ?_;rintro e w3 ⟨rfl,hb3⟩;have kA3:=((Blk.new wr 49 #[.int .i64 K1,.int .i64 y.id,.string y.key,.string y.ak,.string y.ar,.int .i64 y.code]).alloc (.cells #[.string y.key,.string y.ak,.bool false] 92)).below hb3 (by simp;omega);have kR:=(U3 (wr.alloc (.cells #[.int .i64 K1,.int .i64 y.id,.string y.key,.string y.ak,.string y.ar,.int .i64 y.code] 49)) 92 #[.string y.key,.string y.ak,.bool false] (wr.heap.size+1) (by simp)).below hb3 (by simp);have a3:=kA3.cell 1;have a5:=kA3.cell 5;have r0:=kR.cell 0;have r1:=kR.cell 1;have r2:=kR.cell 2;have f0:=kR.free 0;have f1:=kR.free 1;have f2:=kR.free 2;simp at a3 a5 r0 r1 r2;have l2:=kR.lt
     have B3:=Hd (U0 (((Bf wr.heap.size wr).alloc (Le _) (.cells #[.int .i64 K1,.int .i64 y.id,.string y.key,.string y.ak,.string y.ar,.int .i64 y.code] 49)).alloc (Vh _ _) (.cells #[.string y.key,.string y.ak,.bool false] 92)) hb3 (by simp;omega));have B9:=Hd (((B3.out.setCell (p:=⟨wr.heap.size+1,0,none⟩) (Nat.le_succ _) (.string y.key)).setCell (p:=⟨wr.heap.size+1,1,none⟩) (Nat.le_succ _) (.string ⟨#[]⟩)).setCell (p:=⟨wr.heap.size+1,2,none⟩) (Nat.le_succ _) (.bool true));clear kA3 kR hb3;go_wp2_with (at_builtin;go_must (refine U4 _ rfl _ _ 62 rfl (w.heap.size+1) 94 i0 _ 4 48 Tryz.underlying62 hi0 hz0 hz1 hz2 rfl (by decide) _ j _ rfl ((Ui HOW.out B9.out).alloc _) _ _ 1 1 [.int .i64 y.id,.string y.key,.string ⟨#[]⟩,.bool true] rfl (Zb _ _ [.int .i64 y.id,.string y.key,.string ⟨#[]⟩,.bool true] 94 1 4 rfl ?c5) ?c1 ?c2 ?c3 ?c4 ?_))
     case c5=>simp
     case c1=>intro u hu;simp at hu;rcases hu with rfl|rfl|rfl|rfl<;>rfl
     case c2=>simp only [maxLen];omega
     case c3=>omega
     case c4=>simp;omega
     intro v4 w4 ho4 hg4 _;have B4:=Hd (((HB.out.trans (B9.out.mono hsz)).alloc (Lx hsz B9.out.size) _).grown hg4 (Lx (Lx hsz B9.out.size) (Vh _ _)) (Vv HOW.out (Le _)));have HO4:Hid (w4.ownsRow (w.heap.size+1) 94 4 v4 (j+1) (Ua Xl ((x.rs.map rdT).take (j+1)))):=Hd (by rw [HMT.out,HCT.out];exact ho4);clear ho4 hg4;go_wp2;go_roundw
     case rel=>exact ⟨j+1,by omega,by go_num,HO4.out,by have h:=B4.out;rw [HAE.out] at h;exact h⟩
     case measure=>simp [intOf];omega
  ·have hjn:x.rn=j:=by omega
   have htk:(x.rs.map rdT).take j=x.rs.map rdT:=List.take_of_length_le (by rw [List.length_map,HL.out];omega);rw [htk] at HOW;obtain ⟨A5,c5,hv5,_,_⟩:=Ub HOW.out;subst hv5;have HSL:=Hd (Sl.of_own (f:=Xl) (k:=4) tchC_len (by decide) HOW.out);have HJN:=Hd hjn;clear htk hjn;go_wp2;go_ret;exact ⟨A5,c5,by rw [HJN.out];rfl,by rw [HJN.out];exact HSL.out,Uc HB.out⟩
end
section
set_option maxRecDepth 100000
set_option maxHeartbeats 1000000
open Go.RowKit
theorem tin_index (cg:Nat) (p:Tch→Bool) (A:Option Addr) (n c:Nat) (l:List Tch) (w:World) (hs:Sl Xl 4 w w.heap.size A n c l) (hn:n≤9223372036854775807)
  (hC:∀ x∈l,∀ W:World,Below w.heap.size w W→Calls prog 43 #[.agg #[.int .i64 x.id,.string x.r.lo,.string x.r.hi,.bool x.r.en],.pointer (some ⟨cg,0,none⟩)] W fun e w'=>e = .returned (.bool (p x))∧Below W.heap.size W w'):
  Calls prog 65 #[.slice A n c,.func (.func 43) #[] #[.pointer (some ⟨cg,0,none⟩)]] w fun e w'=>e = .returned (.int .i64 (if l.findIdx p<n then (l.findIdx p:Int) else -1))∧Below w.heap.size w w':=by
 have HS:=Hd hs;have HL:=Hd hs.len;have HC:=Hd hC;clear hs hC;obtain ⟨R,hR⟩:∃ R:Int,(if l.findIdx p<n then (l.findIdx p:Int) else -1)=R:=⟨_,rfl⟩
 rw [hR];have HR:=Hd hR;clear hR;go_enter Tryz.func65,Tryz.ntmps65;go_wp2;go_loopw [8] (fun i wr => ∃ j:Nat,j≤n∧i = .int .i64 j∧(∀ t,t<j→∀ e,l[t]? =some e→p e=false)∧Below w.heap.size w wr) (fun i _=>n-(intOf i).toNat)
 case atStart=>exact ⟨0,Z0 _,rfl,fun t h=>absurd h (by omega),Bf _ _⟩
 case round=>
  obtain ⟨j,hj,rfl,hall,hbel⟩:=hrel;have HA:=Hd hall;have hsz:=hbel.size;clear hall;by_cases hlt:j<n
  ·obtain ⟨b,o,x,rfl,hb,hg,hcell⟩:=Sl.cell (f:=Xl) (k:=4) (fun _=>rfl) (HS.out.below hbel) hlt
   have c0:=hcell 0 _ rfl;have c1:=hcell 1 _ rfl;have c2:=hcell 2 _ rfl;have c3:=hcell 3 _ rfl;simp only [Nat.add_zero] at c0;have HCX:=Hd (HC.out x (List.mem_of_getElem? hg) wr hbel);have HG:=Hd hg;clear hg hcell;cases hl:p x with
   |true=>
    have hr:R=(j:Int):=by rw [←HR.out,Un HA.out HG.out hl,if_pos hlt]
    have HRR:=Hd hr;have HLB:=Hd hl;clear hr hl;go_wp2_with fail;refine HCX.out.mono ?_;rintro e w1 ⟨rfl,hb1⟩;rw [HLB.out];have hb2:=U0 hbel hb1 hsz;clear hb1;go_wp2;go_ret;exact ⟨by rw [HRR.out];rfl,hb2⟩
   |false=>
    have HLB:=Hd hl;clear hl;go_wp2_with fail;refine HCX.out.mono ?_;rintro e w1 ⟨rfl,hb1⟩;rw [HLB.out];have hb2:=U0 hbel hb1 hsz;clear hb1;go_wp2;go_roundw
    case rel=>
     refine ⟨j+1,by omega,by go_num,fun t ht e he=>?_,hb2⟩;by_cases h:t=j
     ·subst h;rw [HG.out] at he;injection he with he;subst he;exact HLB.out
     ·exact HA.out t (by omega) e he
    case measure=>simp [intOf];omega
  ·have hr:R = -1:=by rw [←HR.out,Up HL.out (fun t ht=>HA.out t (by omega)),if_neg (by omega)]
   have HRR:=Hd hr;clear hr;go_wp2;go_ret;exact ⟨by rw [HRR.out];rfl,hbel⟩
theorem tin_any (cg:Nat) (p:Tch→Bool) (A:Option Addr) (n c:Nat) (l:List Tch) (w:World) (hs:Sl Xl 4 w w.heap.size A n c l) (hn:n≤9223372036854775807)
  (hC:∀ x∈l,∀ W:World,Below w.heap.size w W→Calls prog 43 #[.agg #[.int .i64 x.id,.string x.r.lo,.string x.r.hi,.bool x.r.en],.pointer (some ⟨cg,0,none⟩)] W fun e w'=>e = .returned (.bool (p x))∧Below W.heap.size W w'):
  Calls prog 41 #[.slice A n c,.func (.func 43) #[] #[.pointer (some ⟨cg,0,none⟩)]] w fun e w'=>e = .returned (.bool (l.any p))∧Below w.heap.size w w':=by
 have H:=Hd (tin_index cg p A n c l w hs hn hC);have ha:=V7 p l;rw [hs.len] at ha;have HA:=Hd ha;clear hs hC ha;generalize l.findIdx p=q at H HA;go_enter Tryz.func41,Tryz.ntmps41;by_cases hq:q<n
 ·rw [if_pos hq] at H
  go_wp2_with (go_at_call 65;refine H.out.mono ?_;rintro e w1 ⟨rfl,hb⟩);go_ret;exact ⟨by rw [HA.out];simp [hq],hb⟩
 ·rw [if_neg hq] at H
  go_wp2_with (go_at_call 65;refine H.out.mono ?_;rintro e w1 ⟨rfl,hb⟩);go_ret;exact ⟨by rw [HA.out];simp [hq],hb⟩
theorem tout_index (cg:Nat) (p:Tch→Bool) (A:Option Addr) (n c:Nat) (l:List Tch) (w:World) (hs:Sl Xl 4 w w.heap.size A n c l) (hn:n≤9223372036854775807)
  (hC:∀ x∈l,∀ W:World,Below w.heap.size w W→Calls prog 42 #[.agg #[.int .i64 x.id,.string x.r.lo,.string x.r.hi,.bool x.r.en],.pointer (some ⟨cg,0,none⟩)] W fun e w'=>e = .returned (.bool (p x))∧Below W.heap.size W w'):
  Calls prog 65 #[.slice A n c,.func (.func 42) #[] #[.pointer (some ⟨cg,0,none⟩)]] w fun e w'=>e = .returned (.int .i64 (if l.findIdx p<n then (l.findIdx p:Int) else -1))∧Below w.heap.size w w':=by
 have HS:=Hd hs;have HL:=Hd hs.len;have HC:=Hd hC;clear hs hC;obtain ⟨R,hR⟩:∃ R:Int,(if l.findIdx p<n then (l.findIdx p:Int) else -1)=R:=⟨_,rfl⟩
 rw [hR];have HR:=Hd hR;clear hR;go_enter Tryz.func65,Tryz.ntmps65;go_wp2;go_loopw [8] (fun i wr => ∃ j:Nat,j≤n∧i = .int .i64 j∧(∀ t,t<j→∀ e,l[t]? =some e→p e=false)∧Below w.heap.size w wr) (fun i _=>n-(intOf i).toNat)
 case atStart=>exact ⟨0,Z0 _,rfl,fun t h=>absurd h (by omega),Bf _ _⟩
 case round=>
  obtain ⟨j,hj,rfl,hall,hbel⟩:=hrel;have HA:=Hd hall;have hsz:=hbel.size;clear hall;by_cases hlt:j<n
  ·obtain ⟨b,o,x,rfl,hb,hg,hcell⟩:=Sl.cell (f:=Xl) (k:=4) (fun _=>rfl) (HS.out.below hbel) hlt
   have c0:=hcell 0 _ rfl;have c1:=hcell 1 _ rfl;have c2:=hcell 2 _ rfl;have c3:=hcell 3 _ rfl;simp only [Nat.add_zero] at c0;have HCX:=Hd (HC.out x (List.mem_of_getElem? hg) wr hbel);have HG:=Hd hg;clear hg hcell;cases hl:p x with
   |true=>
    have hr:R=(j:Int):=by rw [←HR.out,Un HA.out HG.out hl,if_pos hlt]
    have HRR:=Hd hr;have HLB:=Hd hl;clear hr hl;go_wp2_with fail;refine HCX.out.mono ?_;rintro e w1 ⟨rfl,hb1⟩;rw [HLB.out];have hb2:=U0 hbel hb1 hsz;clear hb1;go_wp2;go_ret;exact ⟨by rw [HRR.out];rfl,hb2⟩
   |false=>
    have HLB:=Hd hl;clear hl;go_wp2_with fail;refine HCX.out.mono ?_;rintro e w1 ⟨rfl,hb1⟩;rw [HLB.out];have hb2:=U0 hbel hb1 hsz;clear hb1;go_wp2;go_roundw
    case rel=>
     refine ⟨j+1,by omega,by go_num,fun t ht e he=>?_,hb2⟩;by_cases h:t=j
     ·subst h;rw [HG.out] at he;injection he with he;subst he;exact HLB.out
     ·exact HA.out t (by omega) e he
    case measure=>simp [intOf];omega
  ·have hr:R = -1:=by rw [←HR.out,Up HL.out (fun t ht=>HA.out t (by omega)),if_neg (by omega)]
   have HRR:=Hd hr;clear hr;go_wp2;go_ret;exact ⟨by rw [HRR.out];rfl,hbel⟩
theorem tout_any (cg:Nat) (p:Tch→Bool) (A:Option Addr) (n c:Nat) (l:List Tch) (w:World) (hs:Sl Xl 4 w w.heap.size A n c l) (hn:n≤9223372036854775807)
  (hC:∀ x∈l,∀ W:World,Below w.heap.size w W→Calls prog 42 #[.agg #[.int .i64 x.id,.string x.r.lo,.string x.r.hi,.bool x.r.en],.pointer (some ⟨cg,0,none⟩)] W fun e w'=>e = .returned (.bool (p x))∧Below W.heap.size W w'):
  Calls prog 41 #[.slice A n c,.func (.func 42) #[] #[.pointer (some ⟨cg,0,none⟩)]] w fun e w'=>e = .returned (.bool (l.any p))∧Below w.heap.size w w':=by
 have H:=Hd (tout_index cg p A n c l w hs hn hC);have ha:=V7 p l;rw [hs.len] at ha;have HA:=Hd ha;clear hs hC ha;generalize l.findIdx p=q at H HA;go_enter Tryz.func41,Tryz.ntmps41;by_cases hq:q<n
 ·rw [if_pos hq] at H
  go_wp2_with (go_at_call 65;refine H.out.mono ?_;rintro e w1 ⟨rfl,hb⟩);go_ret;exact ⟨by rw [HA.out];simp [hq],hb⟩
 ·rw [if_neg hq] at H
  go_wp2_with (go_at_call 65;refine H.out.mono ?_;rintro e w1 ⟨rfl,hb⟩);go_ret;exact ⟨by rw [HA.out];simp [hq],hb⟩
def tmB (x y:Tch):Bool:=decide (x.id=y.id)&&Ev x.r y.r
def XF (x:Tch) (g:Nat) (w:World):Prop:=w.cell? ⟨g,0,none⟩=some (.int .i64 x.id)∧w.cell? ⟨g,1,none⟩=some (.string x.r.lo)∧w.cell? ⟨g,2,none⟩=some (.string x.r.hi)∧w.cell? ⟨g,3,none⟩=some (.bool x.r.en)
theorem m11_any (x y:Tch) (g:Nat) (w:World) (hx:XF x g w):
  Calls prog 43 #[.agg #[.int .i64 y.id,.string y.r.lo,.string y.r.hi,.bool y.r.en],.pointer (some ⟨g,0,none⟩)] w fun e w'=>e = .returned (.bool (tmB x y))∧Below w.heap.size w w':=by
 obtain ⟨x0,x1,x2,x3⟩:=hx;have lt:=block_lt_of_cell x0;simp only at lt;obtain ⟨xi,xl,xh,xe⟩:=x;obtain ⟨yi,yl,yh,ye⟩:=y;unfold tmB;simp only at x0 x1 x2 x3 ⊢;have B0:=Hd (Vq w #[.int .i64 yi,.string yl,.string yh,.bool ye] 94);by_cases hi:xi=yi
 ·rw [decide_eq_true hi,Bool.true_and]
  have d0:(xi == yi)=true:=by simpa using hi
  have HO:Hid (∀ W:World,Calls prog 44 #[.agg #[.string xl,.string xh,.bool xe],.agg #[.string yl,.string yh,.bool ye]] W fun e w'=>e = .returned (.bool (Ev ⟨xl,xh,xe⟩ ⟨yl,yh,ye⟩))∧Below W.heap.size W w'):=Hd fun W=>overlap_any ⟨xl,xh,xe⟩ ⟨yl,yh,ye⟩ W
  generalize Ev ⟨xl,xh,xe⟩ ⟨yl,yh,ye⟩=R at HO ⊢;subst hi;clear d0;go_enter Tryz.func43,Tryz.ntmps43;go_wp2_with (go_at_call 44;refine (HO.out _).mono ?_;rintro e w2 ⟨rfl,hb2⟩;have X2:=Hd (U0 (Uc B0.out) hb2 (Nat.le_of_succ_le (Vf B0.out)));clear hb2);go_ret;exact ⟨rfl,X2.out⟩
 ·rw [decide_eq_false hi,Bool.false_and]
  have d0:(xi == yi)=false:=by simpa using hi
  clear hi;go_enter Tryz.func43,Tryz.ntmps43;go_wp2;go_ret;exact ⟨rfl,Uc B0.out⟩
theorem m1_any (x:Tch) (A:Option Addr) (n c:Nat) (l:List Tch) (g:Nat) (w:World) (hg:w.cell? ⟨g,0,none⟩=some (.slice A n c)) (hs:Sl Xl 4 w w.heap.size A n c l) (hn:n≤1000):
  Calls prog 42 #[.agg #[.int .i64 x.id,.string x.r.lo,.string x.r.hi,.bool x.r.en],.pointer (some ⟨g,0,none⟩)] w fun e w'=>e = .returned (.bool (l.any fun y=>tmB x y))∧Below w.heap.size w w':=by
 have lt:=block_lt_of_cell hg;simp only at lt;have B0:=Hd (Vq w #[.int .i64 x.id,.string x.r.lo,.string x.r.hi,.bool x.r.en] 94);have kX:=Blk.new w 94 #[.int .i64 x.id,.string x.r.lo,.string x.r.hi,.bool x.r.en];have HA:=Hd (tin_any w.heap.size (fun y=>tmB x y) A n c l (w.alloc (.cells #[.int .i64 x.id,.string x.r.lo,.string x.r.hi,.bool x.r.en] 94)) (hs.after (Uc B0.out) (Nat.le_of_succ_le (Vf B0.out))) (by omega) (fun y _ W hb=>m11_any x y w.heap.size W ⟨(kX.below hb kX.lt).cell 0,(kX.below hb kX.lt).cell 1,(kX.below hb kX.lt).cell 2,(kX.below hb kX.lt).cell 3⟩));generalize (l.any fun y=>tmB x y)=R at HA ⊢;clear kX hs;go_enter Tryz.func42,Tryz.ntmps42;go_wp2_with (go_at_call 41;refine HA.out.mono ?_;rintro e w2 ⟨rfl,hb2⟩;have X2:=Hd (U0 (Uc B0.out) hb2 (Nat.le_of_succ_le (Vf B0.out)));clear hb2);go_ret;exact ⟨rfl,X2.out⟩
def Fj (a b:List Tch):Bool:=a.any fun x=>b.any fun y=>tmB x y
theorem Kx (A A':Option Addr) (n c n' c':Nat) (a b:List Tch) (w:World) (ha:Sl Xl 4 w w.heap.size A n c a) (hb:Sl Xl 4 w w.heap.size A' n' c' b) (hn:n≤1000) (hn':n'≤1000):
  Calls prog 17 #[.slice A n c,.slice A' n' c'] w fun e w'=>e = .returned (.bool (Fj a b))∧Below w.heap.size w w':=by
 have B0:=Hd (Vq w #[.slice A' n' c'] 62);have kB:=Blk.new w 62 #[.slice A' n' c'];have HA:=Hd (tout_any w.heap.size (fun x=>b.any fun y=>tmB x y) A n c a (w.alloc (.cells #[.slice A' n' c'] 62)) (ha.after (Uc B0.out) (Nat.le_of_succ_le (Vf B0.out))) (by omega) (fun x _ W hbw=>m1_any x A' n' c' b w.heap.size W ((kB.below hbw kB.lt).cell 0) (hb.after ((Uc B0.out).trans (hbw.mono (Nat.le_of_succ_le (Vf B0.out)))) (Lx (Nat.le_of_succ_le (Vf B0.out)) hbw.size)) hn'));unfold Fj;generalize (a.any fun x=>b.any fun y=>tmB x y)=R at HA ⊢;clear kB ha hb;go_enter Tryz.func17,Tryz.ntmps17;go_wp2_with (go_at_call 41;refine HA.out.mono ?_;rintro e w2 ⟨rfl,hb2⟩;have X2:=Hd (U0 (Uc B0.out) hb2 (Nat.le_of_succ_le (Vf B0.out)));clear hb2);go_ret;exact ⟨rfl,X2.out⟩
end
end Go.Proofs.YtapanepkfbamhaaGreatDoor
