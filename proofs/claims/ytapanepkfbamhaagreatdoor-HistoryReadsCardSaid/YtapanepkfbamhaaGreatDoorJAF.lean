/- Part of the proof of HistoryReads. -/
import Derived.Test.YtapanepkfbamhaaGreatDoorJAE
import Derived.Deep.RegionLaw
namespace Go.Proofs.YtapanepkfbamhaaGreatDoor
open Tryz (prog)
section
set_option maxRecDepth 100000
set_option maxHeartbeats 1000000
open Go.RowKit
theorem pairs_index (g:Nat) (p:Pr→Bool) (A:Option Addr) (n c:Nat) (l:List Pr) (w:World) (hs:Sl prC 2 w w.heap.size A n c l) (hn:n≤9223372036854775807)
  (hC:∀ x∈l,∀ W:World,Below w.heap.size w W→Calls prog 219 #[.agg #[.string x.key,.string x.rcd],.pointer (some ⟨g,0,none⟩)] W fun e w'=>e = .returned (.bool (p x))∧Below W.heap.size W w'):
  Calls prog 138 #[.slice A n c,.func (.func 219) #[] #[.pointer (some ⟨g,0,none⟩)]] w fun e w'=>e = .returned (.int .i64 (if l.findIdx p<n then (l.findIdx p:Int) else -1))∧Below w.heap.size w w':=by
 have HS:=Hd hs;have HL:=Hd hs.len;have HC:=Hd hC;clear hs hC;obtain ⟨R,hR⟩:∃ R:Int,(if l.findIdx p<n then (l.findIdx p:Int) else -1)=R:=⟨_,rfl⟩
 rw [hR];have HR:=Hd hR;clear hR;go_enter Tryz.func138,Tryz.ntmps138;go_wp2;go_loopw [8] (fun i wr => ∃ j:Nat,j≤n∧i = .int .i64 j∧(∀ t,t<j→∀ e,l[t]? =some e→p e=false)∧Below w.heap.size w wr) (fun i _=>n-(intOf i).toNat)
 case atStart=>exact ⟨0,Z0 _,rfl,fun t h=>absurd h (by omega),Bf _ _⟩
 case round=>
  obtain ⟨j,hj,rfl,hall,hbel⟩:=hrel;have HA:=Hd hall;have hsz:=hbel.size;clear hall;by_cases hlt:j<n
  ·obtain ⟨b,o,x,rfl,hb,hg,hcell⟩:=Sl.cell (f:=prC) (k:=2) (fun _=>rfl) (HS.out.below hbel) hlt
   have c0:=hcell 0 _ rfl;have c1:=hcell 1 _ rfl;simp only [Nat.add_zero] at c0;have HCX:=Hd (HC.out x (List.mem_of_getElem? hg) wr hbel);have HG:=Hd hg;clear hg hcell;cases hl:p x with
   |true=>
    have hr:R=(j:Int):=by rw [←HR.out,Un HA.out HG.out hl,if_pos hlt]
    have HRR:=Hd hr;have HLB:=Hd hl;clear hr hl;go_wp2_with fail;refine HCX.out.mono ?_;rintro e w1 ⟨rfl,hb1⟩;rw [HLB.out];have hb2:=U0 hbel hb1 hsz;clear hb1;go_wp2;go_ret;exact ⟨by rw [HRR.out];rfl,hb2⟩
   |false=>
    have HLB:=Hd hl;clear hl;go_wp2_with fail;refine HCX.out.mono ?_;rintro e w1 ⟨rfl,hb1⟩;rw [HLB.out];have hb2:=U0 hbel hb1 hsz;clear hb1;go_wp2;go_roundw
    case rel=>
     refine ⟨j+1,by omega,by go_num,fun t ht e he=>?_,hb2⟩;by_cases h:t=j
     ·subst h;rw [HG.out] at he;injection he with he;subst he;exact HLB.out
     ·exact HA.out t (by omega) e he
    case measure=>simp [intOf];omega
  ·have hr:R = -1:=by rw [←HR.out,Up HL.out (fun t ht=>HA.out t (by omega)),if_neg (by omega)]
   have HRR:=Hd hr;clear hr;go_wp2;go_ret;exact ⟨by rw [HRR.out];rfl,hbel⟩
theorem Is {w:World} {b i:Nat} {v:Value} (h:w.cell? ⟨b,i,none⟩=some v):b<w.heap.size:=by
 rcases Nat.lt_or_ge b w.heap.size with hlt|hge
 ·exact hlt
 ·simp [World.cell?,Array.getElem?_eq_none hge] at h
theorem find1_any (k:ByteArray) (x:Pr) (b:Nat) (w:World) (h:w.cell? ⟨b,0,none⟩=some (.string k)):
  Calls prog 219 #[.agg #[.string x.key,.string x.rcd],.pointer (some ⟨b,0,none⟩)] w fun e w'=>e = .returned (.bool (!Vl x.key k))∧Below w.heap.size w w':=by
 obtain ⟨xk,xr⟩:=x;show Calls prog _ _ w fun e w'=>e = .returned (.bool (!Vl xk k))∧_
 have hb:=Is h;obtain ⟨R,hR⟩:∃ R,Vl xk k=R:=⟨_,rfl⟩
 have d1:Op.bytesLess xk.toList k.toList=R:=hR;rw [hR];clear hR;cases R
 all_goals
  go_enter Tryz.func219,Tryz.ntmps219;go_wp2;go_ret;exact ⟨rfl,(Bf _ _).alloc (Le _) _⟩
def geK (k:ByteArray) (p:Pr):Bool := !Vl p.key k
def Yn (l:List Pr) (k:ByteArray):Bool:=match l[l.findIdx (geK k)]? with
 |some p=>p.key.toList == k.toList
 |none=>false
theorem hasK_at {l:List Pr} {k:ByteArray} {x:Pr} (h:l[l.findIdx (geK k)]? =some x):Yn l k=(x.key.toList == k.toList):=by unfold Yn;rw [h]
theorem G6 {l:List Pr} {k:ByteArray} (h:l[l.findIdx (geK k)]? =none):Yn l k=false:=by unfold Yn;rw [h]
theorem K5 (k:ByteArray) (A:Option Addr) (n c:Nat) (l:List Pr) (w:World) (hs:Sl prC 2 w w.heap.size A n c l) (hn:n≤maxLen):
  Calls prog 158 #[.slice A n c,.string k] w fun e w'=>e = .returned (.tuple #[.int .i64 (l.findIdx (geK k)),.bool (Yn l k)])∧Below w.heap.size w w':=by
 unfold maxLen at hn;have hb0:Below w.heap.size w (w.alloc (.cells #[.string k] 9)):=(Bf _ _).alloc (Le _) _;have hK:=Blk.new w 9 #[.string k];have hle:l.findIdx (geK k)≤n:=by rw [←hs.len];exact List.findIdx_le_length
 have HI:=Hd (pairs_index w.heap.size (geK k) A n c l (w.alloc (.cells #[.string k] 9)) (hs.after hb0 hb0.size) (by omega)
  fun x _ W hW=>find1_any k x w.heap.size W ((hK.below hW (by simp)).cell 0))
 have HB0:=Hd hb0;have HK:=Hd hK;obtain ⟨q,hq⟩:∃ q,l.findIdx (geK k)=q:=⟨_,rfl⟩
 by_cases hlt:q<n
 ·obtain ⟨b,o,x,rfl,hb,hg,hcell⟩:=Sl.cell (f:=prC) (k:=2) (fun _=>rfl) hs hlt
  have hr:Yn l k=(x.key.toList == k.toList):=hasK_at (by rw [hq];exact hg);have c0':=hcell 0 _ rfl;simp only [Nat.add_zero] at c0';obtain ⟨xk,xr⟩:=x;simp only at c0' hr;obtain ⟨R,hR⟩:∃ R,(xk.toList == k.toList)=R:=⟨_,rfl⟩
  rw [hr,hq,hR];simp only [hq,if_pos hlt] at HI;have HCE:=Hd c0';have HBL:=Hd hb;clear hs hb0 hK hle hg hcell hr hq c0' hb;go_enter Tryz.func158,Tryz.ntmps158;go_wp2_with (go_at_call 138;refine HI.out.mono ?_;rintro e w2 ⟨rfl,hb2⟩;have HB2:=Hd (HB0.out.trans (hb2.mono (by simp)));have c0:=(HB2.out.cell (p:=⟨b,o+q*2,none⟩) HBL.out).trans HCE.out;have c1:w2.cell? ⟨w.heap.size,0,none⟩=some (.string k):=(HK.out.below hb2 (by simp)).cell 0;clear hb2)
  go_quiet (fail)
  go_wp2
  go_ret2
  exact ⟨rfl,Ud HB2.out _⟩
 ·have hqn:q=n:=by omega
  subst hqn;have hr:Yn l k=false:=G6 (by rw [hq,←hs.len];exact List.getElem?_eq_none (Le _));rw [hr,hq];simp only [hq,if_neg hlt] at HI;clear hs hb0 hK hle hr hq;go_enter Tryz.func158,Tryz.ntmps158;go_wp2_with (go_at_call 138;refine HI.out.mono ?_;rintro e w2 ⟨rfl,hb2⟩;have HB2:=Hd (HB0.out.trans (hb2.mono (by simp)));clear hb2)
  go_ret2
  exact ⟨rfl,HB2.out⟩
end
section
set_option maxRecDepth 100000
open Go.RowKit
def Cw (w:World) (c:Nat) (out:ByteArray):Prop:=Blk w c 240 #[.string out,.pointer none]
def Cr (w:World) (c r:Nat):Prop:=Blk w c 240 #[.string ⟨#[]⟩,.pointer (some ⟨r,0,none⟩)]
theorem Cw.c0 {w:World} {c:Nat} {out:ByteArray} (h:Cw w c out):w.cell? ⟨c,0,none⟩=some (.string out):=(Blk.cell h 0).trans rfl
theorem Cw.c1 {w:World} {c:Nat} {out:ByteArray} (h:Cw w c out):w.cell? ⟨c,1,none⟩=some (.pointer none):=(Blk.cell h 1).trans rfl
theorem Cr.c1 {w:World} {c r:Nat} (h:Cr w c r):w.cell? ⟨c,1,none⟩=some (.pointer (some ⟨r,0,none⟩)):=(Blk.cell h 1).trans rfl
theorem Cw.set {w:World} {c:Nat} {out o2:ByteArray} (h:Cw w c out):Cw (w.setCell ⟨c,0,none⟩ (.string o2)) c o2:=Blk.set h 0 _
def capN (n:Int):Int:=if 1099511627776<n then 1099511627777 else n
def Uu (left:ByteArray) (err:Int):Int×ByteArray×Int:=(capN (Yc left err).1,(Yc left err).2)
theorem I0 (left:ByteArray) (err:Int):0≤(Yc left err).1:=by
 by_cases he:err=0
 ·subst he;exact numF_pos
 ·simp [Yc,he]
theorem capN_range {n:Int} (h:0≤n):0≤capN n∧capN n≤1099511627777:=by
 unfold capN;split<;>omega
theorem Id (c g o:Nat) (out:ByteArray) (n:Int) (w:World) (hc:Cw w c out) (hg:w.cell? ⟨g,o,none⟩=some (.int .i64 n)) (ho:out.size≤1000000000) (hn:0≤n) (hn2:n≤9223372036854775807):
  Calls prog 205 #[.pointer (some ⟨c,0,none⟩),.pointer (some ⟨g,o,none⟩)] w fun x w'=>x = .returned (.tuple #[])∧Cw w' c (out++Yk n)∧Far [c] w w':=by
 have HC:=Hd hc;have c0:=hc.c0;have c1:=hc.c1;have HN:=Hd fun W=>Z7 out n W ho hn (by omega)
 have HL:=Hd hc.lt;clear hc;go_enter Tryz.func205,Tryz.ntmps205;have hw:IntKind.u64.wrap n=n:=by rw [IntKind.wrap_u64];omega
 go_wp2
 go_region_law (first|(go_simp;go_at_call 182;refine (HN.out _).mono ?_;rintro x w1 ⟨rfl,h1⟩;have h2:Cw w1 c out:=Blk.below (w:=w.drew) HC.out h1 HL.out;have H1:=Hd h1;have H2:=Hd h2;have f0:=Blk.free h2 0;have q0:=h2.c0;clear h1 h2))
 all_goals
  go_wp2
  (try simp only [Exit.inBlock,Exit.then])
  refine Br (results_none rfl _ _ _) rfl ?_;exact ⟨rfl,H2.out.set,(Far.of_below (S:=[c]) (U0 (Bf _ _).drew H1.out (Le _))).set _ _ _ (.inl (by simp))⟩
theorem Zk (c r g o:Nat) (t:TypeId) (cs:Array Value) (m:Int) (left:ByteArray) (err:Int) (w:World) (hs:left.size≤maxLen) (hc:Cr w c r) (hr:Rdr w r left err) (hg:Blk w g t cs) (ho:cs[o]? =some (.int .i64 m)) (h2:r≠g):
  Calls prog 205 #[.pointer (some ⟨c,0,none⟩),.pointer (some ⟨g,o,none⟩)] w fun x w'=>x = .returned (.tuple #[])∧Rdr w' r (Uu left err).2.1 (Uu left err).2.2∧Blk w' g t (cs.setIfInBounds o (.int .i64 (Uu left err).1))∧Far [r,g] w w':=by
 have HN:=Hd (Jr r left err w hs hr);have HG:=Hd hg;have c1:=hc.c1;have n0:=I0 left err;have H2:=Hd h2;have ho':=(hg.cell o).trans ho;have HO:=Hd ho;clear hc hr hg h2 ho;unfold Uu;obtain ⟨R,hR⟩:∃ R,Yc left err=R:=⟨_,rfl⟩
 rw [hR] at HN n0 ⊢;clear hR;obtain ⟨n,l,e⟩:=R;simp only at n0 HN ⊢;by_cases hm:1099511627776<n
 ·have hcap:capN n=1099511627777:=by unfold capN;rw [if_pos hm]
  rw [hcap];clear hcap;go_enter Tryz.func205,Tryz.ntmps205;go_wp2_with (go_at_call 186;refine HN.out.mono ?_;rintro x w1 ⟨rfl,k1,k2⟩;have K1:=Hd k1;have K2:=Hd k2;have b1:Blk w1 g t cs:=HG.out.far' k2 (by simpa using H2.out.symm);have B1:=Hd b1;have f0:=b1.free o;have q0:=(b1.cell o).trans HO.out;clear k1 k2 b1)
  go_end0
  exact ⟨rfl,Blk.far K1.out H2.out _,B1.out.set _ _,(K2.out.mono (by simp)).set _ _ _ (.inl (by simp))⟩
 ·have hcap:capN n=n:=by unfold capN;rw [if_neg hm]
  rw [hcap];clear hcap;go_enter Tryz.func205,Tryz.ntmps205;go_wp2_with (go_at_call 186;refine HN.out.mono ?_;rintro x w1 ⟨rfl,k1,k2⟩;have K1:=Hd k1;have K2:=Hd k2;have b1:Blk w1 g t cs:=HG.out.far' k2 (by simpa using H2.out.symm);have B1:=Hd b1;have f0:=b1.free o;have q0:=(b1.cell o).trans HO.out;clear k1 k2 b1)
  go_end0
  exact ⟨rfl,Blk.far K1.out H2.out _,B1.out.set _ _,(K2.out.mono (by simp)).set _ _ _ (.inl (by simp))⟩
theorem Iq (c g o:Nat) (out s:ByteArray) (w:World) (hc:Cw w c out) (hg:w.cell? ⟨g,o,none⟩=some (.string s)) (ho:out.size≤1000000000) (hn:s.size≤1000000000):
  Calls prog 194 #[.pointer (some ⟨c,0,none⟩),.pointer (some ⟨g,o,none⟩)] w fun x w'=>x = .returned (.tuple #[])∧Cw w' c (out++Yv s)∧Far [c] w w':=by
 have HC:=Hd hc;have c0:=hc.c0;have c1:=hc.c1;have HN:=Hd fun W=>If out s W ho hn
 have HL:=Hd hc.lt;clear hc hn;go_enter Tryz.func194,Tryz.ntmps194;go_wp2
 go_region_law (first|(go_simp;go_at_call 155;refine (HN.out _).mono ?_;rintro x w1 ⟨rfl,h1⟩;have h2:Cw w1 c out:=Blk.below (w:=w.drew) HC.out h1 HL.out;have H1:=Hd h1;have H2:=Hd h2;have f0:=Blk.free h2 0;have q0:=h2.c0;clear h1 h2))
 all_goals
  go_wp2
  (try simp only [Exit.inBlock,Exit.then])
  refine Br (results_none rfl _ _ _) rfl ?_;exact ⟨rfl,H2.out.set,(Far.of_below (S:=[c]) (U0 (Bf _ _).drew H1.out (Le _))).set _ _ _ (.inl (by simp))⟩
theorem Ed (c r g o:Nat) (t:TypeId) (cs:Array Value) (m:ByteArray) (left:ByteArray) (err:Int) (w:World) (hs:left.size≤maxLen) (hc:Cr w c r) (hr:Rdr w r left err) (hg:Blk w g t cs) (ho:cs[o]? =some (.string m)) (h2:r≠g):
  Calls prog 194 #[.pointer (some ⟨c,0,none⟩),.pointer (some ⟨g,o,none⟩)] w fun x w'=>x = .returned (.tuple #[])∧Rdr w' r (Uh left err 200).2.1 (Uh left err 200).2.2∧Blk w' g t (cs.setIfInBounds o (.string (Uh left err 200).1))∧Far [r,g] w w':=by
 have HN:=Hd (J9 r left err 200 w hs hr (by decide) (by decide));have HG:=Hd hg;have c1:=hc.c1;have H2:=Hd h2;have HO:=Hd ho;clear hc hr hg h2 ho;obtain ⟨R,hR⟩:∃ R,Uh left err 200=R:=⟨_,rfl⟩
 rw [hR] at HN ⊢;clear hR;obtain ⟨n,l,e⟩:=R;go_enter Tryz.func194,Tryz.ntmps194;go_wp2_with (go_at_call 123;refine HN.out.mono ?_;rintro x w1 ⟨rfl,k1,k2⟩;have K1:=Hd k1;have K2:=Hd k2;have b1:Blk w1 g t cs:=HG.out.far' k2 (by simpa using H2.out.symm);have B1:=Hd b1;have f0:=b1.free o;have q0:=(b1.cell o).trans HO.out;clear k1 k2 b1)
 go_end0
 exact ⟨rfl,Blk.far K1.out H2.out _,B1.out.set _ _,(K2.out.mono (by simp)).set _ _ _ (.inl (by simp))⟩
theorem Kc (c g o:Nat) (out:ByteArray) (b:Bool) (w:World) (hc:Cw w c out) (ho:out.size≤1000000000) (hg:w.cell? ⟨g,o,none⟩=some (.bool b)):
  Calls prog 193 #[.pointer (some ⟨c,0,none⟩),.pointer (some ⟨g,o,none⟩)] w fun x w'=>x = .returned (.tuple #[])∧Cw w' c (out++encB b)∧Far [c] w w':=by
 have HC:=Hd hc;have c0:=hc.c0;have c1:=hc.c1;have f0:=Blk.free hc 0;have HN:=Hd fun W=>appBool_any out b W ho
 clear hc;go_enter Tryz.func193,Tryz.ntmps193;go_wp2
 go_region_law (first|(go_simp;go_at_call 253;refine (HN.out _).mono ?_;rintro x w1 ⟨rfl,rfl⟩))
 all_goals
  go_wp2
  (try simp only [Exit.inBlock,Exit.then])
  refine Br (results_none rfl _ _ _) rfl ?_;exact ⟨rfl,(show Cw _ c out from HC.out).set,((Far.refl _ _).drewN 1).set _ _ _ (.inl (by simp))⟩
theorem Ic (c r g o:Nat) (t:TypeId) (cs:Array Value) (m:Bool) (left:ByteArray) (err:Int) (w:World) (hs:left.size≤maxLen) (hc:Cr w c r) (hr:Rdr w r left err) (hg:Blk w g t cs) (ho:cs[o]? =some (.bool m)) (h2:r≠g):
  Calls prog 193 #[.pointer (some ⟨c,0,none⟩),.pointer (some ⟨g,o,none⟩)] w fun x w'=>x = .returned (.tuple #[])∧Rdr w' r (Vu left err).2.1 (Vu left err).2.2∧Blk w' g t (cs.setIfInBounds o (.bool (Vu left err).1))∧Far [r,g] w w':=by
 have HN:=Hd (rdBool_any r left err w hs hr);have HG:=Hd hg;have c1:=hc.c1;have H2:=Hd h2;have HO:=Hd ho;clear hc hr hg h2 ho;obtain ⟨R,hR⟩:∃ R,Vu left err=R:=⟨_,rfl⟩
 rw [hR] at HN ⊢;clear hR;obtain ⟨n,l,e⟩:=R;go_enter Tryz.func193,Tryz.ntmps193;go_wp2_with (go_at_call 254;refine HN.out.mono ?_;rintro x w1 ⟨rfl,k1,k2⟩;have K1:=Hd k1;have K2:=Hd k2;have b1:Blk w1 g t cs:=HG.out.far' k2 (by simpa using H2.out.symm);have B1:=Hd b1;have f0:=b1.free o;have q0:=(b1.cell o).trans HO.out;clear k1 k2 b1)
 go_end0
 exact ⟨rfl,Blk.far K1.out H2.out _,B1.out.set _ _,(K2.out.mono (by simp)).set _ _ _ (.inl (by simp))⟩
def Zl (n most:Int):Int:=if n<0∨most<n then most+1 else n
theorem ccount_w (c:Nat) (out:ByteArray) (n most:Int) (w:World) (hc:Cw w c out) (ho:out.size≤1000000000) (hn:0≤n) (hn2:n≤9223372036854775807) (hm0:0≤most) (hm:most≤1000):
  Calls prog 248 #[.pointer (some ⟨c,0,none⟩),.int .i64 n,.int .i64 most] w fun x w'=>x = .returned (.int .i64 (Zl n most))∧Cw w' c (out++Yk n)∧Far [c] w w':=by
 have hlt:=Blk.lt hc;have HN:=Hd (Id c w.heap.size 0 out n (w.alloc (.cells #[.int .i64 n] 3)) (Blk.alloc hc _) ((Blk.cell (Blk.new w _ _) 0).trans rfl) ho hn hn2);have HG:=Hd (Blk.new w 3 #[.int .i64 n]);have HL:=Hd hlt;clear hc hlt;unfold Zl;by_cases hk:most<n
 ·rw [if_pos (.inr hk)]
  go_enter Tryz.func248,Tryz.ntmps248;go_wp2_with (go_at_call 205;refine HN.out.mono ?_;rintro x w1 ⟨rfl,h1,h2⟩;have c0:=(Blk.cell (HG.out.far' h2 (by simp;have:=HL.out;omega)) 0).trans (show _=some (Value.int .i64 n) from rfl);have H1:=Hd h1;have H2:=Hd h2;clear h1 h2);go_ret;exact ⟨rfl,H1.out,((Far.refl _ _).alloc _).trans H2.out⟩
 ·rw [if_neg (by omega)]
  go_enter Tryz.func248,Tryz.ntmps248;go_wp2_with (go_at_call 205;refine HN.out.mono ?_;rintro x w1 ⟨rfl,h1,h2⟩;have c0:=(Blk.cell (HG.out.far' h2 (by simp;have:=HL.out;omega)) 0).trans (show _=some (Value.int .i64 n) from rfl);have H1:=Hd h1;have H2:=Hd h2;clear h1 h2);go_ret;exact ⟨rfl,H1.out,((Far.refl _ _).alloc _).trans H2.out⟩
theorem Kg (c r:Nat) (n most:Int) (left:ByteArray) (err:Int) (w:World) (hs:left.size≤maxLen) (hc:Cr w c r) (hr:Rdr w r left err) (hm0:0≤most) (hm:most≤1000):
  Calls prog 248 #[.pointer (some ⟨c,0,none⟩),.int .i64 n,.int .i64 most] w fun x w'=>x = .returned (.int .i64 (Zl (Uu left err).1 most))∧RrP w r (Uu left err).2.1 (Uu left err).2.2 w':=by
 have l2:=Blk.lt hr;have HN:=Hd (Zk c r w.heap.size 0 3 #[.int .i64 n] n left err (w.alloc (.cells #[.int .i64 n] 3)) hs (Blk.alloc hc _) (Blk.alloc hr _) (Blk.new w _ _) rfl (by omega));have HL:=Hd l2;clear hc hr l2 hs;have n0:0≤(Uu left err).1∧(Uu left err).1≤1099511627777:=capN_range (I0 left err);obtain ⟨R,hR⟩:∃ R,Uu left err=R:=⟨_,rfl⟩
 rw [hR] at HN n0 ⊢;clear hR;obtain ⟨x,l,e⟩:=R;simp only at n0 HN ⊢;obtain ⟨n1,n2⟩:=n0;unfold Zl;by_cases hk:most<x
 ·rw [if_pos (.inr hk)]
  go_enter Tryz.func248,Tryz.ntmps248;go_wp2_with (go_at_call 205;refine HN.out.mono ?_;rintro y w1 ⟨rfl,k1,k2,k3⟩;have c0:=(Blk.cell k2 0).trans (show _=some (Value.int .i64 x) from rfl);have K1:=Hd k1;have K3:=Hd k3;clear k1 k2 k3);go_ret;exact ⟨rfl,K1.out,((Far.refl _ _).alloc _).next K3.out (by intro i hi;simp at hi;rcases hi with rfl|rfl;exact .inl (by simp);exact .inr (Le _))⟩
 ·rw [if_neg (by omega)]
  go_enter Tryz.func248,Tryz.ntmps248;go_wp2_with (go_at_call 205;refine HN.out.mono ?_;rintro y w1 ⟨rfl,k1,k2,k3⟩;have c0:=(Blk.cell k2 0).trans (show _=some (Value.int .i64 x) from rfl);have K1:=Hd k1;have K3:=Hd k3;clear k1 k2 k3);go_ret;exact ⟨rfl,K1.out,((Far.refl _ _).alloc _).next K3.out (by intro i hi;simp at hi;rcases hi with rfl|rfl;exact .inl (by simp);exact .inr (Le _))⟩
end
section
set_option maxRecDepth 100000
set_option maxHeartbeats 1000000
open Go.RowKit
def Ug (s:ByteArray):List Value:=[.string s]
def V3 (n:Int):List Value:=[.int .i64 n]
theorem isgrp_index  (p:ByteArray→Bool) (A:Option Addr) (n c:Nat) (l:List ByteArray) (w:World) (hs:Sl Ug 1 w w.heap.size A n c l) (hn:n≤9223372036854775807)
  (hC:∀ x∈l,∀ W:World,Below w.heap.size w W→Calls prog 251 #[.string x] W fun e w'=>e = .returned (.bool (p x))∧Below W.heap.size W w'):
  Calls prog 239 #[.slice A n c,.func (.func 251) #[] #[]] w fun e w'=>e = .returned (.int .i64 (if l.findIdx p<n then (l.findIdx p:Int) else -1))∧Below w.heap.size w w':=by
 have HS:=Hd hs;have HL:=Hd hs.len;have HC:=Hd hC;clear hs hC;obtain ⟨R,hR⟩:∃ R:Int,(if l.findIdx p<n then (l.findIdx p:Int) else -1)=R:=⟨_,rfl⟩
 rw [hR];have HR:=Hd hR;clear hR;go_enter Tryz.func239,Tryz.ntmps239;go_wp2;go_loopw [8] (fun i wr => ∃ j:Nat,j≤n∧i = .int .i64 j∧(∀ t,t<j→∀ e,l[t]? =some e→p e=false)∧Below w.heap.size w wr) (fun i _=>n-(intOf i).toNat)
 case atStart=>exact ⟨0,Z0 _,rfl,fun t h=>absurd h (by omega),Bf _ _⟩
 case round=>
  obtain ⟨j,hj,rfl,hall,hbel⟩:=hrel;have HA:=Hd hall;have hsz:=hbel.size;clear hall;by_cases hlt:j<n
  ·obtain ⟨b,o,x,rfl,hb,hg,hcell⟩:=Sl.cell (f:=Ug) (k:=1) (fun _=>rfl) (HS.out.below hbel) hlt
   have c0:=hcell 0 _ rfl;simp only [Nat.add_zero,Nat.mul_one] at c0;have HCX:=Hd (HC.out x (List.mem_of_getElem? hg) wr hbel);have HG:=Hd hg;clear hg hcell;cases hl:p x with
   |true=>
    have hr:R=(j:Int):=by rw [←HR.out,Un HA.out HG.out hl,if_pos hlt]
    have HRR:=Hd hr;have HLB:=Hd hl;clear hr hl;go_wp2_with fail;refine HCX.out.mono ?_;rintro e w1 ⟨rfl,hb1⟩;rw [HLB.out];have hb2:=U0 hbel hb1 hsz;clear hb1;go_wp2;go_ret;exact ⟨by rw [HRR.out];rfl,hb2⟩
   |false=>
    have HLB:=Hd hl;clear hl;go_wp2_with fail;refine HCX.out.mono ?_;rintro e w1 ⟨rfl,hb1⟩;rw [HLB.out];have hb2:=U0 hbel hb1 hsz;clear hb1;go_wp2;go_roundw
    case rel=>
     refine ⟨j+1,by omega,by go_num,fun t ht e he=>?_,hb2⟩;by_cases h:t=j
     ·subst h;rw [HG.out] at he;injection he with he;subst he;exact HLB.out
     ·exact HA.out t (by omega) e he
    case measure=>simp [intOf];omega
  ·have hr:R = -1:=by rw [←HR.out,Up HL.out (fun t ht=>HA.out t (by omega)),if_neg (by omega)]
   have HRR:=Hd hr;clear hr;go_wp2;go_ret;exact ⟨by rw [HRR.out];rfl,hbel⟩
theorem isgrp_any  (p:ByteArray→Bool) (A:Option Addr) (n c:Nat) (l:List ByteArray) (w:World) (hs:Sl Ug 1 w w.heap.size A n c l) (hn:n≤9223372036854775807)
  (hC:∀ x∈l,∀ W:World,Below w.heap.size w W→Calls prog 251 #[.string x] W fun e w'=>e = .returned (.bool (p x))∧Below W.heap.size W w'):
  Calls prog 180 #[.slice A n c,.func (.func 251) #[] #[]] w fun e w'=>e = .returned (.bool (l.any p))∧Below w.heap.size w w':=by
 have H:=Hd (isgrp_index p A n c l w hs hn hC);have ha:=V7 p l;rw [hs.len] at ha;have HA:=Hd ha;clear hs hC ha;generalize l.findIdx p=q at H HA;go_enter Tryz.func180,Tryz.ntmps180;by_cases hq:q<n
 ·rw [if_pos hq] at H
  go_wp2_with (go_at_call 239;refine H.out.mono ?_;rintro e w1 ⟨rfl,hb⟩);go_ret;exact ⟨by rw [HA.out];simp [hq],hb⟩
 ·rw [if_neg hq] at H
  go_wp2_with (go_at_call 239;refine H.out.mono ?_;rintro e w1 ⟨rfl,hb⟩);go_ret;exact ⟨by rw [HA.out];simp [hq],hb⟩
theorem sqall_index (g g2:Nat) (p:ByteArray→Bool) (A:Option Addr) (n c:Nat) (l:List ByteArray) (w:World) (hs:Sl Ug 1 w w.heap.size A n c l) (hn:n≤9223372036854775807)
  (hC:∀ x∈l,∀ W:World,Below w.heap.size w W→Calls prog 181 #[.string x,.pointer (some ⟨g,0,none⟩),.pointer (some ⟨g2,0,none⟩)] W fun e w'=>e = .returned (.bool (p x))∧Below W.heap.size W w'):
  Calls prog 239 #[.slice A n c,.func (.func 181) #[] #[.pointer (some ⟨g,0,none⟩),.pointer (some ⟨g2,0,none⟩)]] w fun e w'=>e = .returned (.int .i64 (if l.findIdx p<n then (l.findIdx p:Int) else -1))∧Below w.heap.size w w':=by
 have HS:=Hd hs;have HL:=Hd hs.len;have HC:=Hd hC;clear hs hC;obtain ⟨R,hR⟩:∃ R:Int,(if l.findIdx p<n then (l.findIdx p:Int) else -1)=R:=⟨_,rfl⟩
 rw [hR];have HR:=Hd hR;clear hR;go_enter Tryz.func239,Tryz.ntmps239;go_wp2;go_loopw [8] (fun i wr => ∃ j:Nat,j≤n∧i = .int .i64 j∧(∀ t,t<j→∀ e,l[t]? =some e→p e=false)∧Below w.heap.size w wr) (fun i _=>n-(intOf i).toNat)
 case atStart=>exact ⟨0,Z0 _,rfl,fun t h=>absurd h (by omega),Bf _ _⟩
 case round=>
  obtain ⟨j,hj,rfl,hall,hbel⟩:=hrel;have HA:=Hd hall;have hsz:=hbel.size;clear hall;by_cases hlt:j<n
  ·obtain ⟨b,o,x,rfl,hb,hg,hcell⟩:=Sl.cell (f:=Ug) (k:=1) (fun _=>rfl) (HS.out.below hbel) hlt
   have c0:=hcell 0 _ rfl;simp only [Nat.add_zero,Nat.mul_one] at c0;have HCX:=Hd (HC.out x (List.mem_of_getElem? hg) wr hbel);have HG:=Hd hg;clear hg hcell;cases hl:p x with
   |true=>
    have hr:R=(j:Int):=by rw [←HR.out,Un HA.out HG.out hl,if_pos hlt]
    have HRR:=Hd hr;have HLB:=Hd hl;clear hr hl;go_wp2_with fail;refine HCX.out.mono ?_;rintro e w1 ⟨rfl,hb1⟩;rw [HLB.out];have hb2:=U0 hbel hb1 hsz;clear hb1;go_wp2;go_ret;exact ⟨by rw [HRR.out];rfl,hb2⟩
   |false=>
    have HLB:=Hd hl;clear hl;go_wp2_with fail;refine HCX.out.mono ?_;rintro e w1 ⟨rfl,hb1⟩;rw [HLB.out];have hb2:=U0 hbel hb1 hsz;clear hb1;go_wp2;go_roundw
    case rel=>
     refine ⟨j+1,by omega,by go_num,fun t ht e he=>?_,hb2⟩;by_cases h:t=j
     ·subst h;rw [HG.out] at he;injection he with he;subst he;exact HLB.out
     ·exact HA.out t (by omega) e he
    case measure=>simp [intOf];omega
  ·have hr:R = -1:=by rw [←HR.out,Up HL.out (fun t ht=>HA.out t (by omega)),if_neg (by omega)]
   have HRR:=Hd hr;clear hr;go_wp2;go_ret;exact ⟨by rw [HRR.out];rfl,hbel⟩
theorem Kn (g g2:Nat) (p:ByteArray→Bool) (A:Option Addr) (n c:Nat) (l:List ByteArray) (w:World) (hs:Sl Ug 1 w w.heap.size A n c l) (hn:n≤9223372036854775807)
  (hC:∀ x∈l,∀ W:World,Below w.heap.size w W→Calls prog 181 #[.string x,.pointer (some ⟨g,0,none⟩),.pointer (some ⟨g2,0,none⟩)] W fun e w'=>e = .returned (.bool (p x))∧Below W.heap.size W w'):
  Calls prog 180 #[.slice A n c,.func (.func 181) #[] #[.pointer (some ⟨g,0,none⟩),.pointer (some ⟨g2,0,none⟩)]] w fun e w'=>e = .returned (.bool (l.any p))∧Below w.heap.size w w':=by
 have H:=Hd (sqall_index g g2 p A n c l w hs hn hC);have ha:=V7 p l;rw [hs.len] at ha;have HA:=Hd ha;clear hs hC ha;generalize l.findIdx p=q at H HA;go_enter Tryz.func180,Tryz.ntmps180;by_cases hq:q<n
 ·rw [if_pos hq] at H
  go_wp2_with (go_at_call 239;refine H.out.mono ?_;rintro e w1 ⟨rfl,hb⟩);go_ret;exact ⟨by rw [HA.out];simp [hq],hb⟩
 ·rw [if_neg hq] at H
  go_wp2_with (go_at_call 239;refine H.out.mono ?_;rintro e w1 ⟨rfl,hb⟩);go_ret;exact ⟨by rw [HA.out];simp [hq],hb⟩
theorem sppk_index (g:Nat) (p:ByteArray→Bool) (A:Option Addr) (n c:Nat) (l:List ByteArray) (w:World) (hs:Sl Ug 1 w w.heap.size A n c l) (hn:n≤9223372036854775807)
  (hC:∀ x∈l,∀ W:World,Below w.heap.size w W→Calls prog 234 #[.string x,.pointer (some ⟨g,0,none⟩)] W fun e w'=>e = .returned (.bool (p x))∧Below W.heap.size W w'):
  Calls prog 239 #[.slice A n c,.func (.func 234) #[] #[.pointer (some ⟨g,0,none⟩)]] w fun e w'=>e = .returned (.int .i64 (if l.findIdx p<n then (l.findIdx p:Int) else -1))∧Below w.heap.size w w':=by
 have HS:=Hd hs;have HL:=Hd hs.len;have HC:=Hd hC;clear hs hC;obtain ⟨R,hR⟩:∃ R:Int,(if l.findIdx p<n then (l.findIdx p:Int) else -1)=R:=⟨_,rfl⟩
 rw [hR];have HR:=Hd hR;clear hR;go_enter Tryz.func239,Tryz.ntmps239;go_wp2;go_loopw [8] (fun i wr => ∃ j:Nat,j≤n∧i = .int .i64 j∧(∀ t,t<j→∀ e,l[t]? =some e→p e=false)∧Below w.heap.size w wr) (fun i _=>n-(intOf i).toNat)
 case atStart=>exact ⟨0,Z0 _,rfl,fun t h=>absurd h (by omega),Bf _ _⟩
 case round=>
  obtain ⟨j,hj,rfl,hall,hbel⟩:=hrel;have HA:=Hd hall;have hsz:=hbel.size;clear hall;by_cases hlt:j<n
  ·obtain ⟨b,o,x,rfl,hb,hg,hcell⟩:=Sl.cell (f:=Ug) (k:=1) (fun _=>rfl) (HS.out.below hbel) hlt
   have c0:=hcell 0 _ rfl;simp only [Nat.add_zero,Nat.mul_one] at c0;have HCX:=Hd (HC.out x (List.mem_of_getElem? hg) wr hbel);have HG:=Hd hg;clear hg hcell;cases hl:p x with
   |true=>
    have hr:R=(j:Int):=by rw [←HR.out,Un HA.out HG.out hl,if_pos hlt]
    have HRR:=Hd hr;have HLB:=Hd hl;clear hr hl;go_wp2_with fail;refine HCX.out.mono ?_;rintro e w1 ⟨rfl,hb1⟩;rw [HLB.out];have hb2:=U0 hbel hb1 hsz;clear hb1;go_wp2;go_ret;exact ⟨by rw [HRR.out];rfl,hb2⟩
   |false=>
    have HLB:=Hd hl;clear hl;go_wp2_with fail;refine HCX.out.mono ?_;rintro e w1 ⟨rfl,hb1⟩;rw [HLB.out];have hb2:=U0 hbel hb1 hsz;clear hb1;go_wp2;go_roundw
    case rel=>
     refine ⟨j+1,by omega,by go_num,fun t ht e he=>?_,hb2⟩;by_cases h:t=j
     ·subst h;rw [HG.out] at he;injection he with he;subst he;exact HLB.out
     ·exact HA.out t (by omega) e he
    case measure=>simp [intOf];omega
  ·have hr:R = -1:=by rw [←HR.out,Up HL.out (fun t ht=>HA.out t (by omega)),if_neg (by omega)]
   have HRR:=Hd hr;clear hr;go_wp2;go_ret;exact ⟨by rw [HRR.out];rfl,hbel⟩
theorem sppk_any (g:Nat) (p:ByteArray→Bool) (A:Option Addr) (n c:Nat) (l:List ByteArray) (w:World) (hs:Sl Ug 1 w w.heap.size A n c l) (hn:n≤9223372036854775807)
  (hC:∀ x∈l,∀ W:World,Below w.heap.size w W→Calls prog 234 #[.string x,.pointer (some ⟨g,0,none⟩)] W fun e w'=>e = .returned (.bool (p x))∧Below W.heap.size W w'):
  Calls prog 180 #[.slice A n c,.func (.func 234) #[] #[.pointer (some ⟨g,0,none⟩)]] w fun e w'=>e = .returned (.bool (l.any p))∧Below w.heap.size w w':=by
 have H:=Hd (sppk_index g p A n c l w hs hn hC);have ha:=V7 p l;rw [hs.len] at ha;have HA:=Hd ha;clear hs hC ha;generalize l.findIdx p=q at H HA;go_enter Tryz.func180,Tryz.ntmps180;by_cases hq:q<n
 ·rw [if_pos hq] at H
  go_wp2_with (go_at_call 239;refine H.out.mono ?_;rintro e w1 ⟨rfl,hb⟩);go_ret;exact ⟨by rw [HA.out];simp [hq],hb⟩
 ·rw [if_neg hq] at H
  go_wp2_with (go_at_call 239;refine H.out.mono ?_;rintro e w1 ⟨rfl,hb⟩);go_ret;exact ⟨by rw [HA.out];simp [hq],hb⟩
theorem eday_index  (p:Int→Bool) (A:Option Addr) (n c:Nat) (l:List Int) (w:World) (hs:Sl V3 1 w w.heap.size A n c l) (hn:n≤9223372036854775807)
  (hC:∀ x∈l,∀ W:World,Below w.heap.size w W→Calls prog 284 #[.int .i64 x] W fun e w'=>e = .returned (.bool (p x))∧Below W.heap.size W w'):
  Calls prog 303 #[.slice A n c,.func (.func 284) #[] #[]] w fun e w'=>e = .returned (.int .i64 (if l.findIdx p<n then (l.findIdx p:Int) else -1))∧Below w.heap.size w w':=by
 have HS:=Hd hs;have HL:=Hd hs.len;have HC:=Hd hC;clear hs hC;obtain ⟨R,hR⟩:∃ R:Int,(if l.findIdx p<n then (l.findIdx p:Int) else -1)=R:=⟨_,rfl⟩
 rw [hR];have HR:=Hd hR;clear hR;go_enter Tryz.func303,Tryz.ntmps303;go_wp2;go_loopw [8] (fun i wr => ∃ j:Nat,j≤n∧i = .int .i64 j∧(∀ t,t<j→∀ e,l[t]? =some e→p e=false)∧Below w.heap.size w wr) (fun i _=>n-(intOf i).toNat)
 case atStart=>exact ⟨0,Z0 _,rfl,fun t h=>absurd h (by omega),Bf _ _⟩
 case round=>
  obtain ⟨j,hj,rfl,hall,hbel⟩:=hrel;have HA:=Hd hall;have hsz:=hbel.size;clear hall;by_cases hlt:j<n
  ·obtain ⟨b,o,x,rfl,hb,hg,hcell⟩:=Sl.cell (f:=V3) (k:=1) (fun _=>rfl) (HS.out.below hbel) hlt
   have c0:=hcell 0 _ rfl;simp only [Nat.add_zero,Nat.mul_one] at c0;have HCX:=Hd (HC.out x (List.mem_of_getElem? hg) wr hbel);have HG:=Hd hg;clear hg hcell;cases hl:p x with
   |true=>
    have hr:R=(j:Int):=by rw [←HR.out,Un HA.out HG.out hl,if_pos hlt]
    have HRR:=Hd hr;have HLB:=Hd hl;clear hr hl;go_wp2_with fail;refine HCX.out.mono ?_;rintro e w1 ⟨rfl,hb1⟩;rw [HLB.out];have hb2:=U0 hbel hb1 hsz;clear hb1;go_wp2;go_ret;exact ⟨by rw [HRR.out];rfl,hb2⟩
   |false=>
    have HLB:=Hd hl;clear hl;go_wp2_with fail;refine HCX.out.mono ?_;rintro e w1 ⟨rfl,hb1⟩;rw [HLB.out];have hb2:=U0 hbel hb1 hsz;clear hb1;go_wp2;go_roundw
    case rel=>
     refine ⟨j+1,by omega,by go_num,fun t ht e he=>?_,hb2⟩;by_cases h:t=j
     ·subst h;rw [HG.out] at he;injection he with he;subst he;exact HLB.out
     ·exact HA.out t (by omega) e he
    case measure=>simp [intOf];omega
  ·have hr:R = -1:=by rw [←HR.out,Up HL.out (fun t ht=>HA.out t (by omega)),if_neg (by omega)]
   have HRR:=Hd hr;clear hr;go_wp2;go_ret;exact ⟨by rw [HRR.out];rfl,hbel⟩
theorem eday_any  (p:Int→Bool) (A:Option Addr) (n c:Nat) (l:List Int) (w:World) (hs:Sl V3 1 w w.heap.size A n c l) (hn:n≤9223372036854775807)
  (hC:∀ x∈l,∀ W:World,Below w.heap.size w W→Calls prog 284 #[.int .i64 x] W fun e w'=>e = .returned (.bool (p x))∧Below W.heap.size W w'):
  Calls prog 283 #[.slice A n c,.func (.func 284) #[] #[]] w fun e w'=>e = .returned (.bool (l.any p))∧Below w.heap.size w w':=by
 have H:=Hd (eday_index p A n c l w hs hn hC);have ha:=V7 p l;rw [hs.len] at ha;have HA:=Hd ha;clear hs hC ha;generalize l.findIdx p=q at H HA;go_enter Tryz.func283,Tryz.ntmps283;by_cases hq:q<n
 ·rw [if_pos hq] at H
  go_wp2_with (go_at_call 303;refine H.out.mono ?_;rintro e w1 ⟨rfl,hb⟩);go_ret;exact ⟨by rw [HA.out];simp [hq],hb⟩
 ·rw [if_neg hq] at H
  go_wp2_with (go_at_call 303;refine H.out.mono ?_;rintro e w1 ⟨rfl,hb⟩);go_ret;exact ⟨by rw [HA.out];simp [hq],hb⟩
end
section
open Go.RowKit
structure Gra where
 who:ByteArray
 group:Bool
 level:Int
def grC (g:Gra):List Value:=[.string g.who,.bool g.group,.int .i64 g.level]
structure En where
 kind:Int
 name:ByteArray
 d:DSet
 alts:List Int
 used:Int
 limit:Int
 last:Int
 empty:Bool
 owner:ByteArray
 target:ByteArray
 catalog:Int
 level:Int
 grants:List Gra
structure EnA where
 aA:Option Addr
 aC:Nat
 gA:Option Addr
 gC:Nat
def enC (e:En) (a:EnA):List Value:=[.int .i64 e.kind,.string e.name,.int .i64 e.d.id,.int .i64 e.d.org,.int .i64 e.d.fmt,.int .i64 e.d.len,.int .i64 e.d.blk,.int .i64 e.d.kat,.int .i64 e.d.kln,.int .i64 e.d.itv,.int .i64 e.d.area,.int .i64 e.d.fi,.int .i64 e.d.fa,.int .i64 e.d.base,.int .i64 e.d.aat,.int .i64 e.d.aln,.bool e.d.uniq,.int .i64 e.d.cls,.string e.d.vol,.string e.d.own,.int .i64 e.d.cre,.int .i64 e.d.exp,.bool e.d.arch,
 .slice a.aA e.alts.length a.aC,.int .i64 e.used,.int .i64 e.limit,.int .i64 e.last,.bool e.empty,.string e.owner,.string e.target,.int .i64 e.catalog,.int .i64 e.level,.slice a.gA e.grants.length a.gC]
theorem V4 (e:En) (a:EnA):(enC e a).toArray.all (·.oneCell')=true:=by simp [enC,Value.oneCell']
def dZ:DSet:=⟨0,0,0,0,0,0,0,0,0,0,0,0,0,0,false,0,⟨#[]⟩,⟨#[]⟩,0,0,false⟩
def enZ:En:=⟨0,⟨#[]⟩,dZ,[],0,0,0,false,⟨#[]⟩,⟨#[]⟩,0,0,[]⟩
def enN:EnA:=⟨none,0,none,0⟩
structure EW (S:List Nat) (w:World) (e:En) (a:EnA):Prop where
 sa:Sl V3 1 w w.heap.size a.aA e.alts.length a.aC e.alts
 sg:Sl grC 3 w w.heap.size a.gA e.grants.length a.gC e.grants
 na:∀ p,a.aA=some p→0<e.alts.length→p.block ∉ S
 ng:∀ p,a.gA=some p→0<e.grants.length→p.block ∉ S
structure Sm (e:En):Prop where
 nm:e.name.size≤1000
 vo:e.d.vol.size≤1000
 ow:e.d.own.size≤1000
 eo:e.owner.size≤1000
 ta:e.target.size≤1000
 la:e.alts.length≤5
 lg:e.grants.length≤9
 al:∀ n∈e.alts,0≤n∧n≤9223372036854775807
 gr:∀ g∈e.grants,g.who.size≤1000∧0≤g.level∧g.level≤9223372036854775807
 nu:∀ n∈[e.d.id,e.d.org,e.d.fmt,e.d.len,e.d.blk,e.d.kat,e.d.kln,e.d.itv,e.d.area,e.d.fi,e.d.fa,e.d.base,e.d.aat,e.d.aln,e.d.cls,e.d.cre,e.d.exp,e.used,e.limit,e.last,e.catalog,e.level],0≤n∧n≤9223372036854775807
theorem Sl.off {α:Type} {f:α→List Value} {k:Nat} {w w':World} {A:Option Addr} {n c:Nat} {l:List α} {S:List Nat} (h:Sl f k w w.heap.size A n c l) (hf:Far S w w') (hn:∀ p,A=some p→0<n→p.block ∉ S):Sl f k w' w'.heap.size A n c l:=by
 refine ⟨h.cap,h.len,?_⟩;have hr:=h.rd;refine ⟨hr.1,fun h0=>?_⟩;obtain ⟨b,o,e,hb,hc⟩:=hr.2 h0;refine ⟨b,o,e,Nat.lt_of_lt_of_le hb hf.size,fun j u hu=>?_⟩;rw [←hc j u hu];exact World.cell?_of_block (hf.block b hb (hn _ e h0))
theorem EW.far {S T:List Nat} {w w':World} {e:En} {a:EnA} (h:EW S w e a) (hf:Far T w w') (hT:∀ k∈T,k∈S):EW S w' e a:=
 ⟨h.sa.off hf fun p hp h0 hk=>h.na p hp h0 (hT _ hk),h.sg.off hf fun p hp h0 hk=>h.ng p hp h0 (hT _ hk),h.na,h.ng⟩
theorem EW.below {S:List Nat} {w w':World} {e:En} {a:EnA} (h:EW S w e a) (hb:Below w.heap.size w w'):EW S w' e a:=
 h.far (T:=[]) (Far.of_below hb) (by simp)
theorem EW.less {S T:List Nat} {w:World} {e:En} {a:EnA} (h:EW S w e a) (hT:∀ k∈T,k∈S):EW T w e a:=
 ⟨h.sa,h.sg,fun p hp h0 hk=>h.na p hp h0 (hT _ hk),fun p hp h0 hk=>h.ng p hp h0 (hT _ hk)⟩
theorem Sl.blk {α:Type} {f:α→List Value} {k:Nat} {w:World} {B n c:Nat} {l:List α} {p:Addr} (h:Sl f k w B (some p) n c l) (h0:0<n):p.block<B:=by
 obtain ⟨b,o,e,hb,_⟩:=h.rd.2 h0;injection e with e
 rw [e];exact hb
theorem EW.fresh {S T:List Nat} {w W:World} {e:En} {a:EnA} (h:EW T w e a) (hb:Below w.heap.size w W) (hS:∀ k∈S,w.heap.size≤k):EW S W e a:=
 have h2:=h.below hb
 ⟨h2.sa,h2.sg,fun p hp h0 hk=>by
  have h3:=h.sa;rw [hp] at h3;have h4:=h3.blk h0;have h5:=hS _ hk;omega,fun p hp h0 hk=>by
  have h3:=h.sg;rw [hp] at h3;have h4:=h3.blk h0;have h5:=hS _ hk;omega⟩
def wrN:ByteArray→List Int→ByteArray
 |out,[]=>out
 |out,n::l=>wrN (out++Yk n) l
theorem Vz:∀ (l:List Int) (out:ByteArray),(wrN out l).size≤out.size+10*l.length
 | [],out=>by simp [wrN]
 |n::l,out=>by
  have h1:=Vz l (out++Yk n);have h2:=V1 n;unfold wrN;simp only [ByteArray.size_append,List.length_cons] at h1 ⊢;omega
theorem wrN_snoc:∀ (l:List Int) (n:Int) (out:ByteArray),wrN out (l++[n])=wrN out l++Yk n
 | [],n,out=>rfl
 |m::l,n,out=>by
  show wrN (out++Yk m) (l++[n])=wrN (out++Yk m) l++Yk n;exact wrN_snoc l n _
theorem wrN_take {l:List Int} {j:Nat} {n:Int} (out:ByteArray) (h:l[j]? =some n):wrN out (l.take (j+1))=wrN out (l.take j)++Yk n:=by
 rw [List.take_add_one,h];exact wrN_snoc _ _ _
def Uj:Nat→ByteArray→Int→List Int×ByteArray×Int
 |0,l,e=>([],l,e)
 |k+1,l,e=>((Uu l e).1::(Uj k (Uu l e).2.1 (Uu l e).2.2).1,(Uj k (Uu l e).2.1 (Uu l e).2.2).2)
theorem Xh:∀ (k:Nat) (l:ByteArray) (e:Int),(Uj k l e).1.length=k
 |0,_,_=>rfl
 |k+1,l,e=>by
  show (_::(Uj k _ _).1).length=k+1;rw [List.length_cons,Xh k]
theorem Xf (l:ByteArray) (e:Int):(Uu l e).2.1.size≤l.size:=Ku l e
theorem V6 (l:ByteArray) (e:Int):0≤(Uu l e).1∧(Uu l e).1≤1099511627777:=capN_range (I0 l e)
theorem Yb:∀ (k:Nat) (l:ByteArray) (e:Int),(Uj k l e).2.1.size≤l.size
 |0,_,_=>Le _
 |k+1,l,e=>Lx (Yb k _ _) (Xf l e)
theorem Yi:∀ (k:Nat) (l:ByteArray) (e:Int),∀ n∈(Uj k l e).1,0≤n∧n≤1099511627777
 |0,_,_,n,h=>by cases h
 |k+1,l,e,n,h=>by
  rcases List.mem_cons.1 h with rfl|h
  ·exact V6 l e
  ·exact Yi k _ _ n h
theorem E7:∀ (k:Nat) (l:ByteArray) (e:Int),Uj (k+1) l e=((Uj k l e).1++[(Uu (Uj k l e).2.1 (Uj k l e).2.2).1],(Uu (Uj k l e).2.1 (Uj k l e).2.2).2)
 |0,l,e=>rfl
 |k+1,l,e=>by
  have h:=E7 k (Uu l e).2.1 (Uu l e).2.2;show ((Uu l e).1::(Uj (k+1) (Uu l e).2.1 (Uu l e).2.2).1,(Uj (k+1) (Uu l e).2.1 (Uu l e).2.2).2)=_;rw [h];rfl
def Y7:Array Value→List Nat→List Int→Array Value
 |cs,o::os,n::l=>Y7 (cs.setIfInBounds o (.int .i64 n)) os l
 |cs,_,_=>cs
theorem setCs_snoc:∀ (os:List Nat) (l:List Int) (cs:Array Value) (o:Nat) (n:Int),os.length=l.length→Y7 cs (os++[o]) (l++[n])=(Y7 cs os l).setIfInBounds o (.int .i64 n)
 | [],[],cs,o,n,_=>rfl
 |p::os,m::l,cs,o,n,h=>setCs_snoc os l _ o n (by simpa using h)
 | [],_::_,_,_,_,h=>by simp at h
 |_::_,[],_,_,_,h=>by simp at h
theorem setCs_num:∀ (os:List Nat) (l:List Int) (cs:Array Value) (i:Nat),(∃ m,cs[i]? =some (.int .i64 m))→∃ m,(Y7 cs os l)[i]? =some (.int .i64 m)
 | [],_,cs,i,h=>by unfold Y7;exact h
 |o::os,[],cs,i,h=>by unfold Y7;exact h
 |o::os,n::l,cs,i,h=>by
  unfold Y7;refine setCs_num os l _ i ?_;obtain ⟨m,hm⟩:=h;by_cases ho:o=i
  ·subst ho
   refine ⟨n,?_⟩;rw [Array.getElem?_setIfInBounds_self_of_lt];exact (Array.getElem?_eq_some_iff.1 hm).1
  ·exact ⟨m,by rw [Array.getElem?_setIfInBounds_ne ho];exact hm⟩
end
end Go.Proofs.YtapanepkfbamhaaGreatDoor
