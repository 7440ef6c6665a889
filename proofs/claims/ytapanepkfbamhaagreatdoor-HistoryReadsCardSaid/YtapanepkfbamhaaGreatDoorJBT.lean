/- Part of the proof of HistoryReads. -/
import Derived.Test.YtapanepkfbamhaaGreatDoorJBS
namespace Go.Proofs.YtapanepkfbamhaaGreatDoor
open Tryz (prog)
section
set_option maxRecDepth 100000
set_option maxHeartbeats 4000000
open Go.RowKit
def fewP (q:Pr):Bool:=decide (q.key.size≤40)&&decide (q.rcd.size≤1200)
def K6 (x:Cnt):Bool:=decide (x.pn≤20)&&!(x.ps.any fun q => !fewP q)
def fewA (im:Nat) (ini:List Cnt) (n:Nat) (l:List Com):Bool:=decide (im≤4)&&(decide (n≤12)&&(!(ini.any fun x => !K6 x)&&!(l.any fun x => !I6 x)))
theorem cn22 {w W:World} {x:Cnt} (h:Below (w.alloc (.cells (cnC x).toArray 30)).heap.size (w.alloc (.cells (cnC x).toArray 30)) W):W.cell? ⟨w.heap.size,22,none⟩=some (.slice x.pA x.pn x.pc):=
 Kd ((Blk.new w 30 (cnC x).toArray).below h (by simp))
theorem cn_be {w W:World} {x:Cnt} (h:Below (w.alloc (.cells (cnC x).toArray 30)).heap.size (w.alloc (.cells (cnC x).toArray 30)) W):Below w.heap.size w W:=
 ((Bf _ _).alloc (Le _) _).trans (h.mono (by simp))
theorem few49_any (x:Cnt) (w:World) (hs:Sl prC 2 w w.heap.size x.pA x.pn x.pc x.ps):
  Calls prog 14 #[.agg (cnC x).toArray,.int .i64 20] w fun e w'=>e = .returned (.bool (K6 x))∧Below w.heap.size w w':=by
 obtain ⟨R,hR⟩:∃ R,K6 x=R:=⟨_,rfl⟩
 rw [hR];have B0:=Hd (Bf (w.alloc (.cells (cnC x).toArray 30)).heap.size (w.alloc (.cells (cnC x).toArray 30)));have HS:=Hd hs;have HL:=Hd hs.len;have c22:=cn22 B0.out;by_cases h8:x.pn≤20;rotate_left
 ·have hr:R=false:=by rw [←hR];unfold K6;rw [decide_eq_false h8];rfl
  have HR:=Hd hr;have d1:decide ((20:Int)<(x.pn:Int))=true:=by simp;omega
  have d2:decide (20<x.pn)=true:=by simp;omega
  clear hR hr hs;go_enter Tryz.func14,Tryz.ntmps14;go_wp2;go_ret;exact ⟨by rw [HR.out];rfl,cn_be B0.out⟩
 have d1:decide ((20:Int)<(x.pn:Int))=false:=by simp;omega
 have d2:decide (20<x.pn)=false:=by simp;omega
 have hR2:R = !(x.ps.any fun q => !fewP q):=by rw [←hR];unfold K6;rw [decide_eq_true h8];rfl
 have HR:=Hd hR2;clear hR hR2 hs;go_enter Tryz.func14,Tryz.ntmps14;go_wp2;go_loopw [5] (fun i wr => ∃ j:Nat,j≤x.pn∧i = .int .i64 j∧(∀ t,t<j→∀ e,x.ps[t]? =some e→fewP e=true)∧Below (w.alloc (.cells (cnC x).toArray 30)).heap.size (w.alloc (.cells (cnC x).toArray 30)) wr) (fun i _=>x.pn-(intOf i).toNat)
 case atStart=>exact ⟨0,Z0 _,rfl,fun t h=>absurd h (by omega),B0.out⟩
 case round=>
  obtain ⟨j,hj,rfl,hall,hbel⟩:=hrel;have HA:=Hd hall;have HB:=Hd hbel;have c22:=cn22 hbel;have hsz:=(cn_be hbel).size;clear hall hbel;by_cases hlt:j<x.pn
  ·obtain ⟨b,o,y,hA,hb,hg,hcell⟩:=Sl.cell (f:=prC) (k:=2) (fun _=>rfl) (HS.out.after (cn_be HB.out) hsz) hlt
   rw [hA] at c22;have c0:=hcell 0 _ rfl;have c1:=hcell 1 _ rfl;simp only [Nat.add_zero] at c0;have HG:=Hd hg;clear hg hcell hb hA;by_cases k1:y.key.size≤40;rotate_left
   ·have hp:fewP y=false:=by unfold fewP;rw [decide_eq_false k1];rfl
    have HF:Hid (R=false):=Hd (by rw [HR.out,Vg HG.out hp];rfl);have e1:decide ((40:Int)<(y.key.size:Int))=true:=by simp;omega
    have e2:decide (40<y.key.size)=true:=by simp;omega
    clear hp k1;go_wp2;go_ret;exact ⟨by rw [HF.out];rfl,cn_be HB.out⟩
   have e1:decide ((40:Int)<(y.key.size:Int))=false:=by simp;omega
   have e2:decide (40<y.key.size)=false:=by simp;omega
   by_cases k2:y.rcd.size≤1200;rotate_left
   ·have hp:fewP y=false:=by unfold fewP;rw [decide_eq_false k2];simp
    have HF:Hid (R=false):=Hd (by rw [HR.out,Vg HG.out hp];rfl);have e3:decide ((1200:Int)<(y.rcd.size:Int))=true:=by simp;omega
    have e4:decide (1200<y.rcd.size)=true:=by simp;omega
    clear hp k1 k2;go_wp2;go_ret;exact ⟨by rw [HF.out];rfl,cn_be HB.out⟩
   have e3:decide ((1200:Int)<(y.rcd.size:Int))=false:=by simp;omega
   have e4:decide (1200<y.rcd.size)=false:=by simp;omega
   have HP:Hid (fewP y=true):=Hd (by unfold fewP;rw [decide_eq_true k1,decide_eq_true k2];rfl);clear k1 k2;go_wp2;go_roundw
   case rel=>exact ⟨j+1,by omega,by go_num,Ih HA.out HG.out HP.out,HB.out⟩
   case measure=>simp [intOf];omega
  ·have hjn:x.pn=j:=by omega
   have HT:Hid (R=true):=Hd (by rw [HR.out,E3 HL.out (fun t ht=>HA.out t (by omega))];rfl);have d3:decide ((j:Int)<(x.pn:Int))=false:=by simp;omega
   have d4:decide (j<x.pn)=false:=by simp;omega
   clear hjn hlt hj;go_wp2;go_ret;exact ⟨by rw [HT.out];rfl,cn_be HB.out⟩
theorem few_gen (iA:Option Addr) (im ic:Nat) (ini:List Cnt) (A:Option Addr) (n c:Nat) (l:List Com) (w:World) (hi:Sl cnC 23 w w.heap.size iA im ic ini) (hip:∀ x∈ini,Sl prC 2 w w.heap.size x.pA x.pn x.pc x.ps) (hs:Cs w w.heap.size A n c l):
  Calls prog 5 #[.slice iA im ic,.slice A n c] w fun e w'=>e = .returned (.bool (fewA im ini n l))∧Below w.heap.size w w':=by
 obtain ⟨R,hR⟩:∃ R,fewA im ini n l=R:=⟨_,rfl⟩
 rw [hR];have HI:=Hd hi;have HIP:=Hd hip;have HIL:=Hd hi.len;have HS:=Hd hs;have HL:=Hd hs.1.len;clear hi hip hs;by_cases h4:im≤4;rotate_left
 ·have hr:R=false:=by rw [←hR];unfold fewA;rw [decide_eq_false h4];rfl
  have HR:=Hd hr;have d1:decide ((4:Int)<(im:Int))=true:=by simp;omega
  have d2:decide (4<im)=true:=by simp;omega
  clear hR hr;go_enter Tryz.func5,Tryz.ntmps5;go_wp2;go_ret;exact ⟨by rw [HR.out];rfl,Bf _ _⟩
 have b1:decide ((4:Int)<(im:Int))=false:=by simp;omega
 have b2:decide (4<im)=false:=by simp;omega
 by_cases h8:n≤12;rotate_left
 ·have hr:R=false:=by rw [←hR];unfold fewA;rw [decide_eq_false h8];simp
  have HR:=Hd hr;have d1:decide ((12:Int)<(n:Int))=true:=by simp;omega
  have d2:decide (12<n)=true:=by simp;omega
  clear hR hr;go_enter Tryz.func5,Tryz.ntmps5;go_wp2;go_ret;exact ⟨by rw [HR.out];rfl,Bf _ _⟩
 have d1:decide ((12:Int)<(n:Int))=false:=by simp;omega
 have d2:decide (12<n)=false:=by simp;omega
 have hR2:R=(!(ini.any fun x => !K6 x)&&!(l.any fun x => !I6 x)):=by rw [←hR];unfold fewA;rw [decide_eq_true h4,decide_eq_true h8];rfl
 have HR0:=Hd hR2;clear hR hR2;go_enter Tryz.func5,Tryz.ntmps5;go_wp2;go_loopw [5] (fun i wr => ∃ j:Nat,j≤im∧i = .int .i64 j∧(∀ t,t<j→∀ e,ini[t]? =some e→K6 e=true)∧Below w.heap.size w wr) (fun i _=>im-(intOf i).toNat)
 case atStart=>exact ⟨0,Z0 _,rfl,fun t h=>absurd h (by omega),Bf _ _⟩
 case round=>
  obtain ⟨j0,hj0,rfl,hall0,hbel0⟩:=hrel;have HA0:=Hd hall0;have HB1:=Hd hbel0;clear hall0 hbel0;by_cases hlt0:j0<im
  ·obtain ⟨b,o,x,rfl,hb,hg,hcell⟩:=Sl.cell (f:=cnC) (k:=23) (fun _=>rfl) (HI.out.below HB1.out) hlt0
   have HM:Hid (wr.rangeAt b (o+j0*23) (cnC x)):=Hd fun t u hu=>hcell t u hu
   have HG:=Hd hg;have HF:=Hd (few49_any x wr ((HIP.out x (List.mem_of_getElem? hg)).after HB1.out HB1.out.size));clear hb hg hcell;cases hf:K6 x with
   |false=>
    rw [hf] at HF;have HFF:Hid (R=false):=Hd (by rw [HR0.out,Vg HG.out hf];rfl);clear hf;go_wp2_with (first|((with_reducible refine Gl 30 25 ?_);refine Lm rfl 30 _ rfl b (o+j0*23) rfl (cnC x) _ HM.out Tryz.underlying30 rfl (by kernel_rfl) ?_)|(go_at_call 14;refine HF.out.mono ?_;rintro e w2 ⟨rfl,hb2⟩;have X2:=Hd (U0 HB1.out hb2 HB1.out.size);clear hb2));go_ret;exact ⟨by rw [HFF.out];rfl,X2.out⟩
   |true=>
    rw [hf] at HF;have HFT:=Hd hf;clear hf;go_wp2_with (first|((with_reducible refine Gl 30 25 ?_);refine Lm rfl 30 _ rfl b (o+j0*23) rfl (cnC x) _ HM.out Tryz.underlying30 rfl (by kernel_rfl) ?_)|(go_at_call 14;refine HF.out.mono ?_;rintro e w2 ⟨rfl,hb2⟩;have X2:=Hd (U0 HB1.out hb2 HB1.out.size);clear hb2));go_roundw
    case rel=>exact ⟨j0+1,by omega,by go_num,Ih HA0.out HG.out HFT.out,X2.out⟩
    case measure=>simp [intOf];omega
  ·have hjn:im=j0:=by omega
   subst hjn;have HR:Hid (R = !(l.any fun x => !I6 x)):=Hd (by rw [HR0.out,E3 HIL.out HA0.out];rfl);obtain ⟨wq,rfl⟩:∃ x:World,x=wr:=⟨_,rfl⟩
   clear hlt0 hj0;go_wp2;go_loopw [6] (fun i wr => ∃ j:Nat,j≤n∧i = .int .i64 j∧(∀ t,t<j→∀ e,l[t]? =some e→I6 e=true)∧Below w.heap.size w wr) (fun i _=>n-(intOf i).toNat)
   case atStart=>exact ⟨0,Z0 _,rfl,fun t h=>absurd h (by omega),HB1.out⟩
   case round=>
    obtain ⟨j,hj,rfl,hall,hbel⟩:=hrel;have HA:=Hd hall;have HB:=Hd hbel;clear hall hbel;by_cases hlt:j<n
    ·obtain ⟨b,o,x,rfl,hb,hg,hcell⟩:=Sl.cell (f:=U8) (k:=4) Uz HS.out.1 hlt
     have HCELL:=Hd hcell;have HLT:=Hd hlt;have HBL:=Hd hb;have HG:=Hd hg;have hok:=HS.out.2 x (List.mem_of_getElem? hg);have HOK:=Hd hok;have c2:=(HB.out.cell (p:=⟨b,o+j*4+2,none⟩) hb).trans (hcell 2 _ rfl);have c3:=(HB.out.cell (p:=⟨b,o+j*4+3,none⟩) hb).trans (hcell 3 _ rfl);have HF:=Hd (few47_any x.cA x.cn x.cc x.cs wr (hok.2.1.after HB.out HB.out.size));clear hb hg hcell hok;cases hf:few47 x.cn x.cs with
     |false=>
      rw [hf] at HF;have hp:I6 x=false:=by unfold I6;rw [hf];rfl
      have HFF:Hid (R=false):=Hd (by rw [HR.out,Vg HG.out hp];rfl);clear hf hp;go_wp2_with (go_at_call 15;refine HF.out.mono ?_;rintro e w2 ⟨rfl,hb2⟩;have X2:=Hd (U0 HB.out hb2 HB.out.size);clear hb2);go_ret;exact ⟨by rw [HFF.out];rfl,X2.out⟩
     |true=>
      rw [hf] at HF;have HFT:=Hd hf;clear hf;go_wp2_with fail;refine HF.out.mono ?_;rintro e w2 ⟨rfl,hb2⟩;have X2:=Hd (U0 HB.out hb2 HB.out.size);clear hb2 c2 c3;have c2:=(X2.out.cell (p:=⟨b,o+j*4+2,none⟩) HBL.out).trans (HCELL.out 2 _ rfl);by_cases hrn:x.rn≤8;rotate_left
      ·have hp:I6 x=false:=by unfold I6;rw [decide_eq_false hrn];simp
       have HFF:Hid (R=false):=Hd (by rw [HR.out,Vg HG.out hp];rfl);have e1:decide ((8:Int)<(x.rn:Int))=true:=by simp;omega
       have e2:decide (8<x.rn)=true:=by simp;omega
       clear hp hrn;go_wp2;go_ret;exact ⟨by rw [HFF.out];rfl,X2.out⟩
      have e1:decide ((8:Int)<(x.rn:Int))=false:=by simp;omega
      have e2:decide (8<x.rn)=false:=by simp;omega
      have HC2:Hid (I6 x = !(x.rs.any fun r => !Fu r)):=Hd (by unfold I6;rw [HFT.out,decide_eq_true hrn];rfl);go_wp2;go_loopw [7] (fun i wx => ∃ q:Nat,q≤x.rn∧i = .int .i64 q∧(∀ t,t<q→∀ e,x.rs[t]? =some e→Fu e=true)∧Below w.heap.size w wx) (fun i _=>x.rn-(intOf i).toNat)
      case atStart=>exact ⟨0,Z0 _,rfl,fun t h=>absurd h (by omega),X2.out⟩
      case round=>
       obtain ⟨q,hq,rfl,hall,hbx⟩:=hrel;have HA2:=Hd hall;have HBX:=Hd hbx;have bsz:=hbx.size;clear hall hbx c2 e1 e2;have c2:=(HBX.out.cell (p:=⟨b,o+j*4+2,none⟩) HBL.out).trans (HCELL.out 2 _ rfl);by_cases hlq:q<x.rn
       ·obtain ⟨b',o',y,hA',hb',hg',hcell'⟩:=Sl.cell (f:=rdC) (k:=6) rdC_len (HOK.out.1.after HBX.out HBX.out.size) hlq
        rw [hA'] at c2;have y0:=hcell' 0 _ rfl;have y1:=hcell' 1 _ rfl;have y2:=hcell' 2 _ rfl;have y3:=hcell' 3 _ rfl;have y4:=hcell' 4 _ rfl;have y5:=hcell' 5 _ rfl;simp only [Nat.add_zero] at y0;have HG2:=Hd hg';clear hg' hcell' hb' hA';by_cases k1:y.key.size≤60;rotate_left
        ·have hp:Fu y=false:=by unfold Fu;rw [decide_eq_false k1];rfl
         have hp2:I6 x=false:=by rw [HC2.out,Vg HG2.out hp];rfl
         have HFF:Hid (R=false):=Hd (by rw [HR.out,Vg HG.out hp2];rfl);have e1:decide ((60:Int)<(y.key.size:Int))=true:=by simp;omega
         have e2:decide (60<y.key.size)=true:=by simp;omega
         clear hp hp2 k1;go_wp2;go_ret;exact ⟨by rw [HFF.out];rfl,HBX.out.alloc bsz _⟩
        have e1:decide ((60:Int)<(y.key.size:Int))=false:=by simp;omega
        have e2:decide (60<y.key.size)=false:=by simp;omega
        by_cases k2:y.ak.size≤60;rotate_left
        ·have hp:Fu y=false:=by unfold Fu;rw [decide_eq_false k2];simp
         have hp2:I6 x=false:=by rw [HC2.out,Vg HG2.out hp];rfl
         have HFF:Hid (R=false):=Hd (by rw [HR.out,Vg HG.out hp2];rfl);have e3:decide ((60:Int)<(y.ak.size:Int))=true:=by simp;omega
         have e4:decide (60<y.ak.size)=true:=by simp;omega
         clear hp hp2 k1 k2;go_wp2;go_ret;exact ⟨by rw [HFF.out];rfl,HBX.out.alloc bsz _⟩
        have e3:decide ((60:Int)<(y.ak.size:Int))=false:=by simp;omega
        have e4:decide (60<y.ak.size)=false:=by simp;omega
        by_cases k3:y.ar.size≤300;rotate_left
        ·have hp:Fu y=false:=by unfold Fu;rw [decide_eq_false k3];simp
         have hp2:I6 x=false:=by rw [HC2.out,Vg HG2.out hp];rfl
         have HFF:Hid (R=false):=Hd (by rw [HR.out,Vg HG.out hp2];rfl);have e5:decide ((300:Int)<(y.ar.size:Int))=true:=by simp;omega
         have e6:decide (300<y.ar.size)=true:=by simp;omega
         clear hp hp2 k1 k2 k3;go_wp2;go_ret;exact ⟨by rw [HFF.out];rfl,HBX.out.alloc bsz _⟩
        have e5:decide ((300:Int)<(y.ar.size:Int))=false:=by simp;omega
        have e6:decide (300<y.ar.size)=false:=by simp;omega
        have HP:Hid (Fu y=true):=Hd (by unfold Fu;rw [decide_eq_true k1,decide_eq_true k2,decide_eq_true k3];rfl);clear k1 k2 k3;go_wp2;go_roundw
        case rel=>exact ⟨q+1,by omega,by go_num,Ih HA2.out HG2.out HP.out,HBX.out.alloc bsz _⟩
        case measure=>simp [intOf];omega
       ·have HP:Hid (I6 x=true):=Hd (by rw [HC2.out,E3 HOK.out.1.len (fun t ht=>HA2.out t (by omega))];rfl)
        go_wp2;go_roundw
        case rel=>exact ⟨j+1,by have:=HLT.out;omega,by go_num,Ih HA.out HG.out HP.out,HBX.out⟩
        case measure=>have:=HLT.out;simp [intOf];omega
    ·have hjn:n=j:=by omega
     subst hjn;have HT:Hid (R=true):=Hd (by rw [HR.out,E3 HL.out HA.out];rfl);go_wp2;go_ret;exact ⟨by rw [HT.out];rfl,HB.out⟩
theorem fewA_facts {im n:Nat} {ini:List Cnt} {l:List Com} (h:fewA im ini n l=true):im≤4∧n≤12∧(∀ x∈ini,x.pn≤20∧∀ q∈x.ps,q.key.size≤40∧q.rcd.size≤1200)∧(∀ x∈l,I6 x=true):=by
 unfold fewA at h;simp only [Bool.and_eq_true,decide_eq_true_eq,Bool.not_eq_true',List.any_eq_false] at h;obtain ⟨h1,h2,h3,h4⟩:=h;refine ⟨h1,h2,fun x hx=>?_,fun x hx=>by simpa using h4 x hx⟩;have:=h3 x hx;simp only [K6,Bool.not_eq_false,Bool.and_eq_true,decide_eq_true_eq,Bool.not_eq_true',List.any_eq_false] at this;refine ⟨this.1,fun q hq=>?_⟩;have:=this.2 q hq;simpa [fewP] using this
theorem fewC_facts' {x:Com} (h:I6 x=true):x.cn≤8∧x.rn≤8∧(∀ c∈x.cs,c.key.size≤50∧c.rcd.size≤1200∧c.vol.size≤20)∧(∀ r∈x.rs,r.key.size≤60∧r.ak.size≤60∧r.ar.size≤300):=by
 unfold I6 few47 at h;simp only [Bool.and_eq_true,decide_eq_true_eq,Bool.not_eq_true',List.any_eq_false] at h;refine ⟨h.1.1.1,h.1.2,fun c hc=>?_,fun r hr=>?_⟩
 ·have:=h.1.1.2 c hc
  simpa [Fv,and_assoc] using this
 ·have:=h.2 r hr
  simpa [Fu,and_assoc] using this
end
section
set_option maxRecDepth 100000
set_option maxHeartbeats 1000000
open Go.RowKit
theorem rvread_any (x:Rdd) (w:World):Calls prog 12 #[.agg #[.int .i64 x.kind,.int .i64 x.id,.string x.key,.string x.ak,.string x.ar,.int .i64 x.code]] w fun e w'=>e = .returned (.bool (rdB x))∧Below w.heap.size w w':=by
 obtain ⟨k,id,key,ak,ar,code⟩:=x;simp only;have BB:=Hd (Uc (Vq w #[.int .i64 k,.int .i64 id,.string key,.string ak,.string ar,.int .i64 code] 49));by_cases hk:k=0∨k=1;rotate_left
 ·have k0:(k == 0)=false:=by simp;omega
  have k1:(k == 1)=false:=by simp;omega
  have k2:(k != 0)=true:=by simp;omega
  have k3:(k != 1)=true:=by simp;omega
  have hkd:(decide (k=0) || decide (k=1))=false:=by simp;omega
  simp only [rdB,hkd,Bool.false_and];clear hkd hk;go_enter Tryz.func12,Tryz.ntmps12;go_wp2;go_ret;exact ⟨rfl,BB.out⟩
 have hkd:(decide (k=0) || decide (k=1))=true:=by simpa using hk
 have e0:rdB ⟨k,id,key,ak,ar,code⟩=(Xc id&&decide (key.size≤32)&&(decide (code=0) || (decide (ak.size=0)&&decide (ar.size=0)&&decide (code=6)))):=by
  simp only [rdB,hkd,Bool.true_and]
 rw [e0];clear hkd e0;by_cases i1:id<1
 ·have d1:decide (id<1)=true:=by simpa using i1
  have hn:Xc id=false:=by unfold Xc;rw [decide_eq_false (by omega:¬ 1≤id)];rfl
  simp only [hn,Bool.false_and];clear hn i1;rcases hk with rfl|rfl
  all_goals
   go_enter Tryz.func12,Tryz.ntmps12;go_wp2;go_ret;exact ⟨rfl,BB.out⟩
 have d1:decide (id<1)=false:=by simpa using i1
 by_cases i2:1099511627776<id
 ·have d2:decide (1099511627776<id)=true:=by simpa using i2
  have hn:Xc id=false:=by unfold Xc;rw [decide_eq_false (by omega:¬ id≤1099511627776)];simp
  simp only [hn,Bool.false_and];clear hn i1 i2;rcases hk with rfl|rfl
  all_goals
   go_enter Tryz.func12,Tryz.ntmps12;go_wp2;go_ret;exact ⟨rfl,BB.out⟩
 have d2:decide (1099511627776<id)=false:=by simpa using i2
 have hn:Xc id=true:=by unfold Xc;rw [decide_eq_true (by omega:1≤id),decide_eq_true (by omega:id≤1099511627776)];rfl
 simp only [hn,Bool.true_and];clear hn i1 i2;by_cases h32:key.size≤32
 ·simp only [h32,decide_true,Bool.true_and]
  have d3:decide ((32:Int)<(key.size:Int))=false:=by simp;omega
  have d4:decide (32<key.size)=false:=by simp;omega
  by_cases hc:code=0
  ·subst hc
   simp only [decide_true,Bool.true_or];rcases hk with rfl|rfl
   all_goals
    go_enter Tryz.func12,Tryz.ntmps12;go_wp2;go_ret;exact ⟨rfl,BB.out⟩
  ·have hc0:(code == 0)=false:=by simpa using hc
   obtain ⟨R,hR⟩:∃ R:Bool,(decide (code=0) || (decide (ak.size=0)&&decide (ar.size=0)&&decide (code=6)))=R:=⟨_,rfl⟩
   rw [hR]
   have hR:(decide (ak.toList = [])&&decide (ar.toList = [])&&decide (code=6))=R:=by
    rw [←hR,Ik ak,Ik ar];simp [hc]
   have HR:=Hd hR;clear hR hc;rcases hk with rfl|rfl
   all_goals
    go_enter Tryz.func12,Tryz.ntmps12;go_wp2
    all_goals
     go_ret;refine ⟨?_,(Bf _ _).alloc (Le _) _⟩;rw [←HR.out]
     first
      |(show Ending.returned (.bool true)=_;congr 2;simp_all;done)
      |(show Ending.returned (.bool false)=_;congr 2;simp_all;done)
 ·simp only [h32,decide_false,Bool.false_and]
  have d3:decide ((32:Int)<(key.size:Int))=true:=by simp;omega
  have d4:decide (32<key.size)=true:=by simp;omega
  rcases hk with rfl|rfl
  all_goals
   go_enter Tryz.func12,Tryz.ntmps12;go_wp2;go_ret;exact ⟨rfl,BB.out⟩
end
end Go.Proofs.YtapanepkfbamhaaGreatDoor
