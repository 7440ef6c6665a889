/- Of HistorySwaps. -/
import Derived.Test.YtoakknkmjnebjaaGreatDoorSBC
namespace Go.Proofs.YtoakknkmjnebjaaGreatDoor
open Tryz (prog)
set_option maxRecDepth 100000
set_option maxHeartbeats 8000000
open Go.RowKit
def fewP (q:Pr):Bool:=decide (q.key.size≤40)&&decide (q.rcd.size≤1200)
def F2 (x:Cnt):Bool:=decide (x.pn≤20)&&!(x.ps.any fun q => !fewP q)
def fewA (im:Nat) (ini:List Cnt) (n:Nat) (l:List Com):Bool:=decide (im≤4)&&(decide (n≤12)&&(!(ini.any fun x => !F2 x)&&!(l.any fun x => !Iq x)))
theorem cn22 {w W:Wd} {x:Cnt} (h:Below (w.alloc (.cells (cnC x).toArray 30)).heap.size (w.alloc (.cells (cnC x).toArray 30)) W):W.cell? ⟨w.heap.size,22,none⟩=some (.slice x.pA x.pn x.pc):=
 Ey ((Blk.new w 30 (cnC x).toArray).below h (by simp))
theorem cn_be {w W:Wd} {x:Cnt} (h:Below (w.alloc (.cells (cnC x).toArray 30)).heap.size (w.alloc (.cells (cnC x).toArray 30)) W):Below w.heap.size w W:=
 ((Bf _ _).alloc (Le _) _).trans (h.mono (by simp))
theorem few49_any (x:Cnt) (w:Wd) (hs:Sl prC 2 w w.heap.size x.pA x.pn x.pc x.ps):
  Calls prog 14 #[.agg (cnC x).toArray,.int .i64 20] w fun e w'=>e = .returned (.bool (F2 x))∧Below w.heap.size w w':=by
 obtain ⟨R,hR⟩:∃ R,F2 x=R:=⟨_,rfl⟩
 rw [hR];have B0:=Hd (Bf (w.alloc (.cells (cnC x).toArray 30)).heap.size (w.alloc (.cells (cnC x).toArray 30)));have HS:=Hd hs;have HL:=Hd hs.len;have c22:=cn22 B0.out;by_cases h8:x.pn≤20;rotate_left
 ·have hr:R=false:=by rw [←hR];unfold F2;rw [decide_eq_false h8];rfl
  have HR:=Hd hr;have d1:decide ((20:Int)<(x.pn:Int))=true:=by simp;omega
  have d2:decide (20<x.pn)=true:=by simp;omega
  clear hR hr hs;go_enter Tryz.func14,Tryz.ntmps14;go_wp2;go_ret;exact ⟨by rw [HR.out];rfl,cn_be B0.out⟩
 have d1:decide ((20:Int)<(x.pn:Int))=false:=by simp;omega
 have d2:decide (20<x.pn)=false:=by simp;omega
 have hR2:R = !(x.ps.any fun q => !fewP q):=by rw [←hR];unfold F2;rw [decide_eq_true h8];rfl
 have HR:=Hd hR2;clear hR hR2 hs;go_enter Tryz.func14,Tryz.ntmps14;go_wp2;go_loopw [5] (fun i wr => ∃ j:Nat,j≤x.pn∧i = .int .i64 j∧(∀ t,t<j→∀ e,x.ps[t]? =some e→fewP e=true)∧Below (w.alloc (.cells (cnC x).toArray 30)).heap.size (w.alloc (.cells (cnC x).toArray 30)) wr) (fun i _=>x.pn-(intOf i).toNat)
 case atStart=>exact ⟨0,Z0 _,rfl,fun t h=>absurd h (by omega),B0.out⟩
 case round=>
  obtain ⟨j,hj,rfl,hall,aE⟩:=hrel;have HA:=Hd hall;have HB:=Hd aE;have c22:=cn22 aE;have aN:=(cn_be aE).size;clear hall aE;by_cases aG:j<x.pn
  ·obtain ⟨b,o,y,hA,hb,hg,aB⟩:=Sl.cell (f:=prC) (k:=2) (fun _=>rfl) (HS.out.after (cn_be HB.out) aN) aG;rw [hA] at c22;have c0:=aB 0 _ rfl;have c1:=aB 1 _ rfl;simp only [Nat.add_zero] at c0;have HG:=Hd hg;clear hg aB hb hA;by_cases k1:y.key.size≤40;rotate_left
   ·have hp:fewP y=false:=by unfold fewP;rw [decide_eq_false k1];rfl
    have HF:Hid (R=false):=Hd (by rw [HR.out,Vo HG.out hp];rfl);have e1:decide ((40:Int)<(y.key.size:Int))=true:=by simp;omega
    have e2:decide (40<y.key.size)=true:=by simp;omega
    clear hp k1;go_wp2;go_ret;exact ⟨by rw [HF.out];rfl,cn_be HB.out⟩
   have e1:decide ((40:Int)<(y.key.size:Int))=false:=by simp;omega
   have e2:decide (40<y.key.size)=false:=by simp;omega
   by_cases k2:y.rcd.size≤1200;rotate_left
   ·have hp:fewP y=false:=by unfold fewP;rw [decide_eq_false k2];simp
    have HF:Hid (R=false):=Hd (by rw [HR.out,Vo HG.out hp];rfl);have e3:decide ((1200:Int)<(y.rcd.size:Int))=true:=by simp;omega
    have e4:decide (1200<y.rcd.size)=true:=by simp;omega
    clear hp k1 k2;go_wp2;go_ret;exact ⟨by rw [HF.out];rfl,cn_be HB.out⟩
   have e3:decide ((1200:Int)<(y.rcd.size:Int))=false:=by simp;omega
   have e4:decide (1200<y.rcd.size)=false:=by simp;omega
   have HP:Hid (fewP y=true):=Hd (by unfold fewP;rw [decide_eq_true k1,decide_eq_true k2];rfl);clear k1 k2;go_wp2;go_roundw
   case rel=>exact ⟨j+1,by omega,by go_num,J3 HA.out HG.out HP.out,HB.out⟩
   case measure=>simp [intOf];omega
  ·have iN:x.pn=j:=by omega
   have HT:Hid (R=true):=Hd (by rw [HR.out,Eh HL.out (fun t ht=>HA.out t (by omega))];rfl);have d3:decide ((j:Int)<(x.pn:Int))=false:=by simp;omega
   have d4:decide (j<x.pn)=false:=by simp;omega
   clear iN aG hj;go_wp2;go_ret;exact ⟨by rw [HT.out];rfl,cn_be HB.out⟩
theorem few_gen (iA:Option Addr) (im ic:Nat) (ini:List Cnt) (A:Option Addr) (n c:Nat) (l:List Com) (w:Wd) (hi:Sl cnC 23 w w.heap.size iA im ic ini) (hip:∀ x∈ini,Sl prC 2 w w.heap.size x.pA x.pn x.pc x.ps) (hs:Cs w w.heap.size A n c l):
  Calls prog 5 #[.slice iA im ic,.slice A n c] w fun e w'=>e = .returned (.bool (fewA im ini n l))∧Below w.heap.size w w':=by
 obtain ⟨R,hR⟩:∃ R,fewA im ini n l=R:=⟨_,rfl⟩
 rw [hR];have HI:=Hd hi;have HIP:=Hd hip;have HIL:=Hd hi.len;have HS:=Hd hs;have HL:=Hd hs.1.len;clear hi hip hs;by_cases h4:im≤4;rotate_left
 ·have hr:R=false:=by rw [←hR];unfold fewA;rw [decide_eq_false h4];rfl
  have HR:=Hd hr;have d1:decide ((4:Int)<(im:Int))=true:=by simp;omega
  have d2:decide (4<im)=true:=by simp;omega
  clear hR hr;go_enter Tryz.func5,Tryz.ntmps5;go_wp2;go_ret;exact ⟨by rw [HR.out];rfl,Bf _ _⟩
 have b1:decide ((4:Int)<(im:Int))=false:=by simp;omega
 have b2:decide (4<im)=false:=by simp;omega
 by_cases h8:n≤12;rotate_left
 ·have hr:R=false:=by rw [←hR];unfold fewA;rw [decide_eq_false h8];simp
  have HR:=Hd hr;have d1:decide ((12:Int)<(n:Int))=true:=by simp;omega
  have d2:decide (12<n)=true:=by simp;omega
  clear hR hr;go_enter Tryz.func5,Tryz.ntmps5;go_wp2;go_ret;exact ⟨by rw [HR.out];rfl,Bf _ _⟩
 have d1:decide ((12:Int)<(n:Int))=false:=by simp;omega
 have d2:decide (12<n)=false:=by simp;omega
 have hR2:R=(!(ini.any fun x => !F2 x)&&!(l.any fun x => !Iq x)):=by rw [←hR];unfold fewA;rw [decide_eq_true h4,decide_eq_true h8];rfl
 have gL:=Hd hR2;clear hR hR2;go_enter Tryz.func5,Tryz.ntmps5;go_wp2;go_loopw [5] (fun i wr => ∃ j:Nat,j≤im∧i = .int .i64 j∧(∀ t,t<j→∀ e,ini[t]? =some e→F2 e=true)∧Below w.heap.size w wr) (fun i _=>im-(intOf i).toNat)
 case atStart=>exact ⟨0,Z0 _,rfl,fun t h=>absurd h (by omega),Bf _ _⟩
 case round=>
  obtain ⟨j0,hj0,rfl,hall0,hbel0⟩:=hrel;have HA0:=Hd hall0;have aQ:=Hd hbel0;clear hall0 hbel0;by_cases iC:j0<im
  ·obtain ⟨b,o,x,rfl,hb,hg,aB⟩:=Sl.cell (f:=cnC) (k:=23) (fun _=>rfl) (HI.out.below aQ.out) iC;have HM:Hid (wr.rangeAt b (o+j0*23) (cnC x)):=Hd fun t u hu=>aB t u hu
   have HG:=Hd hg;have HF:=Hd (few49_any x wr ((HIP.out x (List.mem_of_getElem? hg)).after aQ.out aQ.out.size));clear hb hg aB;cases hf:F2 x with
   |false=>
    rw [hf] at HF;have HFF:Hid (R=false):=Hd (by rw [gL.out,Vo HG.out hf];rfl);clear hf;go_wp2_with (first|((with_reducible refine Gl 30 25 ?_);refine Ln 30 b (o+j0*23) (cnC x) HM.out Tryz.underlying30 ?_)|(go_at_call 14;refine HF.out.mono ?_;rintro e w2 ⟨rfl,aF⟩;have X2:=Hd (U0 aQ.out aF aQ.out.size);clear aF));go_ret;exact ⟨by rw [HFF.out];rfl,X2.out⟩
   |true=>
    rw [hf] at HF;have HFT:=Hd hf;clear hf;go_wp2_with (first|((with_reducible refine Gl 30 25 ?_);refine Ln 30 b (o+j0*23) (cnC x) HM.out Tryz.underlying30 ?_)|(go_at_call 14;refine HF.out.mono ?_;rintro e w2 ⟨rfl,aF⟩;have X2:=Hd (U0 aQ.out aF aQ.out.size);clear aF));go_roundw
    case rel=>exact ⟨j0+1,by omega,by go_num,J3 HA0.out HG.out HFT.out,X2.out⟩
    case measure=>simp [intOf];omega
  ·have iN:im=j0:=by omega
   subst iN;have HR:Hid (R = !(l.any fun x => !Iq x)):=Hd (by rw [gL.out,Eh HIL.out HA0.out];rfl);obtain ⟨wq,rfl⟩:∃ x:Wd,x=wr:=⟨_,rfl⟩
   clear iC hj0;go_wp2;go_loopw [6] (fun i wr => ∃ j:Nat,j≤n∧i = .int .i64 j∧(∀ t,t<j→∀ e,l[t]? =some e→Iq e=true)∧Below w.heap.size w wr) (fun i _=>n-(intOf i).toNat)
   case atStart=>exact ⟨0,Z0 _,rfl,fun t h=>absurd h (by omega),aQ.out⟩
   case round=>
    obtain ⟨j,hj,rfl,hall,aE⟩:=hrel;have HA:=Hd hall;have HB:=Hd aE;clear hall aE;by_cases aG:j<n
    ·obtain ⟨b,o,x,rfl,hb,hg,aB⟩:=Sl.cell (f:=U7) (k:=4) V2 HS.out.1 aG;have HCELL:=Hd aB;have bE:=Hd aG;have fD:=Hd hb;have HG:=Hd hg;have fI:=HS.out.2 x (List.mem_of_getElem? hg);have dF:=Hd fI;have c2:=(HB.out.cell (p:=⟨b,o+j*4+2,none⟩) hb).trans (aB 2 _ rfl);have c3:=(HB.out.cell (p:=⟨b,o+j*4+3,none⟩) hb).trans (aB 3 _ rfl);have HF:=Hd (few47_any x.cA x.cn x.cc x.cs wr (fI.2.1.after HB.out HB.out.size));clear hb hg aB fI;cases hf:few47 x.cn x.cs with
     |false=>
      rw [hf] at HF;have hp:Iq x=false:=by unfold Iq;rw [hf];rfl
      have HFF:Hid (R=false):=Hd (by rw [HR.out,Vo HG.out hp];rfl);clear hf hp;go_wp2_with (go_at_call 15;refine HF.out.mono ?_;rintro e w2 ⟨rfl,aF⟩;have X2:=Hd (U0 HB.out aF HB.out.size);clear aF);go_ret;exact ⟨by rw [HFF.out];rfl,X2.out⟩
     |true=>
      rw [hf] at HF;have HFT:=Hd hf;clear hf;go_wp2_with fail;refine HF.out.mono ?_;rintro e w2 ⟨rfl,aF⟩;have X2:=Hd (U0 HB.out aF HB.out.size);clear aF c2 c3;have c2:=(X2.out.cell (p:=⟨b,o+j*4+2,none⟩) fD.out).trans (HCELL.out 2 _ rfl);by_cases hrn:x.rn≤8;rotate_left
      ·have hp:Iq x=false:=by unfold Iq;rw [decide_eq_false hrn];simp
       have HFF:Hid (R=false):=Hd (by rw [HR.out,Vo HG.out hp];rfl);have e1:decide ((8:Int)<(x.rn:Int))=true:=by simp;omega
       have e2:decide (8<x.rn)=true:=by simp;omega
       clear hp hrn;go_wp2;go_ret;exact ⟨by rw [HFF.out];rfl,X2.out⟩
      have e1:decide ((8:Int)<(x.rn:Int))=false:=by simp;omega
      have e2:decide (8<x.rn)=false:=by simp;omega
      have i7:Hid (Iq x = !(x.rs.any fun r => !Gw r)):=Hd (by unfold Iq;rw [HFT.out,decide_eq_true hrn];rfl);go_wp2;go_loopw [7] (fun i wx => ∃ q:Nat,q≤x.rn∧i = .int .i64 q∧(∀ t,t<q→∀ e,x.rs[t]? =some e→Gw e=true)∧Below w.heap.size w wx) (fun i _=>x.rn-(intOf i).toNat)
      case atStart=>exact ⟨0,Z0 _,rfl,fun t h=>absurd h (by omega),X2.out⟩
      case round=>
       obtain ⟨q,hq,rfl,hall,gP⟩:=hrel;have mA:=Hd hall;have bH:=Hd gP;have bsz:=gP.size;clear hall gP c2 e1 e2;have c2:=(bH.out.cell (p:=⟨b,o+j*4+2,none⟩) fD.out).trans (HCELL.out 2 _ rfl);by_cases hlq:q<x.rn
       ·obtain ⟨b',o',y,hA',gR,iT,bF⟩:=Sl.cell (f:=rdC) (k:=6) rdC_len (dF.out.1.after bH.out bH.out.size) hlq;rw [hA'] at c2;have y0:=bF 0 _ rfl;have y1:=bF 1 _ rfl;have y2:=bF 2 _ rfl;have y3:=bF 3 _ rfl;have y4:=bF 4 _ rfl;have y5:=bF 5 _ rfl;simp only [Nat.add_zero] at y0;have fP:=Hd iT;clear iT bF gR hA';by_cases k1:y.key.size≤60;rotate_left
        ·have hp:Gw y=false:=by unfold Gw;rw [decide_eq_false k1];rfl
         have dP:Iq x=false:=by rw [i7.out,Vo fP.out hp];rfl
         have HFF:Hid (R=false):=Hd (by rw [HR.out,Vo HG.out dP];rfl);have e1:decide ((60:Int)<(y.key.size:Int))=true:=by simp;omega
         have e2:decide (60<y.key.size)=true:=by simp;omega
         clear hp dP k1;go_wp2;go_ret;exact ⟨by rw [HFF.out];rfl,bH.out.alloc bsz _⟩
        have e1:decide ((60:Int)<(y.key.size:Int))=false:=by simp;omega
        have e2:decide (60<y.key.size)=false:=by simp;omega
        by_cases k2:y.ak.size≤60;rotate_left
        ·have hp:Gw y=false:=by unfold Gw;rw [decide_eq_false k2];simp
         have dP:Iq x=false:=by rw [i7.out,Vo fP.out hp];rfl
         have HFF:Hid (R=false):=Hd (by rw [HR.out,Vo HG.out dP];rfl);have e3:decide ((60:Int)<(y.ak.size:Int))=true:=by simp;omega
         have e4:decide (60<y.ak.size)=true:=by simp;omega
         clear hp dP k1 k2;go_wp2;go_ret;exact ⟨by rw [HFF.out];rfl,bH.out.alloc bsz _⟩
        have e3:decide ((60:Int)<(y.ak.size:Int))=false:=by simp;omega
        have e4:decide (60<y.ak.size)=false:=by simp;omega
        by_cases k3:y.ar.size≤300;rotate_left
        ·have hp:Gw y=false:=by unfold Gw;rw [decide_eq_false k3];simp
         have dP:Iq x=false:=by rw [i7.out,Vo fP.out hp];rfl
         have HFF:Hid (R=false):=Hd (by rw [HR.out,Vo HG.out dP];rfl);have e5:decide ((300:Int)<(y.ar.size:Int))=true:=by simp;omega
         have e6:decide (300<y.ar.size)=true:=by simp;omega
         clear hp dP k1 k2 k3;go_wp2;go_ret;exact ⟨by rw [HFF.out];rfl,bH.out.alloc bsz _⟩
        have e5:decide ((300:Int)<(y.ar.size:Int))=false:=by simp;omega
        have e6:decide (300<y.ar.size)=false:=by simp;omega
        have HP:Hid (Gw y=true):=Hd (by unfold Gw;rw [decide_eq_true k1,decide_eq_true k2,decide_eq_true k3];rfl);clear k1 k2 k3;go_wp2;go_roundw
        case rel=>exact ⟨q+1,by omega,by go_num,J3 mA.out fP.out HP.out,bH.out.alloc bsz _⟩
        case measure=>simp [intOf];omega
       ·have HP:Hid (Iq x=true):=Hd (by rw [i7.out,Eh dF.out.1.len (fun t ht=>mA.out t (by omega))];rfl);go_wp2;go_roundw
        case rel=>exact ⟨j+1,by have:=bE.out;omega,by go_num,J3 HA.out HG.out HP.out,bH.out⟩
        case measure=>have:=bE.out;simp [intOf];omega
    ·have iN:n=j:=by omega
     subst iN;have HT:Hid (R=true):=Hd (by rw [HR.out,Eh HL.out HA.out];rfl);go_wp2;go_ret;exact ⟨by rw [HT.out];rfl,HB.out⟩
theorem fewA_facts {im n:Nat} {ini:List Cnt} {l:List Com} (h:fewA im ini n l=true):im≤4∧n≤12∧(∀ x∈ini,x.pn≤20∧∀ q∈x.ps,q.key.size≤40∧q.rcd.size≤1200)∧(∀ x∈l,Iq x=true):=by
 unfold fewA at h;simp only [Bool.and_eq_true,decide_eq_true_eq,Bool.not_eq_true',List.any_eq_false] at h;obtain ⟨h1,h2,h3,h4⟩:=h;refine ⟨h1,h2,fun x hx=>?_,fun x hx=>by simpa using h4 x hx⟩;have:=h3 x hx;simp only [F2,Bool.not_eq_false,Bool.and_eq_true,decide_eq_true_eq,Bool.not_eq_true',List.any_eq_false] at this;refine ⟨this.1,fun q hq=>?_⟩;have:=this.2 q hq;simpa [fewP] using this
theorem fewC_facts' {x:Com} (h:Iq x=true):x.cn≤8∧x.rn≤8∧(∀ c∈x.cs,c.key.size≤50∧c.rcd.size≤1200∧c.vol.size≤20)∧(∀ r∈x.rs,r.key.size≤60∧r.ak.size≤60∧r.ar.size≤300):=by
 unfold Iq few47 at h;simp only [Bool.and_eq_true,decide_eq_true_eq,Bool.not_eq_true',List.any_eq_false] at h;refine ⟨h.1.1.1,h.1.2,fun c hc=>?_,fun r hr=>?_⟩
 ·have:=h.1.1.2 c hc;simpa [Gx,and_assoc] using this
 ·have:=h.2 r hr;simpa [Gw,and_assoc] using this
section
structure LSp (iA:Option Addr) (im ic:Nat) (ini:List Cnt) (A:Option Addr) (n c:Nat) (l:List Com) (w:Wd):Prop where
 hi:Sl cnC 23 w w.heap.size iA im ic ini
 hip:∀ x∈ini,CW w x
 hiw:∀ x∈ini,(Lit.int .i64 x.d.id).wf=true
 him:im≤4
 hs:Cs w w.heap.size A n c l
 hv:∀ x∈l,SmC x
 hcn:∀ x∈l,x.cn≤8∧x.rn≤8
 hn:n≤12
 ht:Sta w
 hc:Cod w
section
variable {iA:Option Addr} {im ic:Nat} {ini:List Cnt} {A:Option Addr} {n c:Nat} {l:List Com} {w W:Wd}
theorem LSp.next (h:LSp iA im ic ini A n c l w) (hb:Below w.heap.size w W):LSp iA im ic ini A n c l W:=
 ⟨h.hi.after hb hb.size,fun x hx=>(h.hip x hx).below hb,h.hiw,h.him,h.hs.after hb hb.size,h.hv,h.hcn,h.hn,h.ht.after hb,h.hc.after hb⟩
theorem LSp.lens (h:LSp iA im ic ini A n c l w):Lens l:=fun u hu=>(h.hs.2 u hu).2.1.len
theorem LSp.numd {l':List Com} (h:LSp iA im ic ini A n c l w) (hm:∀ x∈l',x∈l):(∀ y∈Un 1 l',SmC y)∧(∀ y∈Un 1 l',y.cn≤8)∧(∀ y∈Un 1 l',SmP y)∧∀ y∈Un 1 l',ComOk w w.heap.size y:=by
 refine ⟨fun y hy=>?_,fun y hy=>?_,fun y hy=>?_,fun y hy=>?_⟩;all_goals obtain ⟨x,hx,k,rfl⟩:=mem_numG l' 1 y hy
 ·exact h.hv x (hm x hx)
 ·exact (h.hcn x (hm x hx)).1
 ·have:=h.hcn x (hm x hx);exact ⟨Lx this.1 (by decide),Lx this.2 (by decide)⟩
 ·exact h.hs.2 x (hm x hx)
theorem LSp.replay {l':List Com} {A':Option Addr} {c':Nat} (h:LSp iA im ic ini A n c l W) (hm:∀ x∈l',x∈l) (hs:Cs W W.heap.size A' n c' (Un 1 l')):Calls prog 9 #[.slice iA im ic,.slice A' n c'] W (RepG (Jk ini (Un 1 l')) W):=
 replay_any iA im ic ini A' n c' (Un 1 l') W h.hi h.hip h.hiw h.him hs (h.numd hm).1 (h.numd hm).2.1 h.hn h.ht h.hc
theorem LSp.check {l':List Com} {A':Option Addr} {c':Nat} (h:LSp iA im ic ini A n c l W) (hm:∀ x∈l',x∈l) (hs:Cs W W.heap.size A' n c' (Un 1 l')):Calls prog 10 #[.slice iA im ic,.slice A' n c'] W (CheP (cheF ini (Un 1 l')) W):=
 check_any iA im ic ini A' n c' (Un 1 l') W h.hi h.hip (by have:=h.him;omega) hs (h.numd hm).1 h.hn h.ht h.hc
theorem LSp.conf {A':Option Addr} {c':Nat} (h:LSp iA im ic ini A n c l W) (hs:Cs W W.heap.size A' n c' (Un 1 l)):Calls prog 8 #[.slice A' n c'] W (GivesP W (V3 (Xr (Un 1 l)) (Xr (Un 1 l)).length)):=
 hconf_any A' n c' (Un 1 l) W hs (fun x hx y hy=>((h.numd fun _ h=>h).1 x hx y hy).2) h.hn (h.numd fun _ h=>h).2.2.1
theorem LSp.cs {l':List Com} {w0:Wd} {A':Option Addr} {c' base:Nat} (h:LSp iA im ic ini A n c l w0) (hb:Below w0.heap.size w0 W) (hm:∀ x∈l',x∈l) (hl:l'.length=n) (ho:W.ownsRow base 34 4 (.slice A' (Un 1 l').length c') (Un 1 l').length (Ub U7 (Un 1 l'))):Cs W W.heap.size A' n c' (Un 1 l'):=by
 have:=Sl.of_own (f:=U7) (k:=4) V2 (by decide) ho;rw [Zb,hl] at this;exact ⟨this,fun y hy=>((h.numd hm).2.2.2 y hy).after hb hb.size⟩
end
theorem swap_mem {l:List Com} {k:Nat} {a b:Com} (ha:l[k]? =some a) (hb:l[k+1]? =some b):∀ x∈(l.set k b).set (k+1) a,x∈l:=fun x hx=>by
 rcases List.mem_or_eq_of_mem_set hx with hx|rfl
 ·rcases List.mem_or_eq_of_mem_set hx with hx|rfl
  ·exact hx
  ·exact List.mem_of_getElem? hb
 ·exact List.mem_of_getElem? ha
theorem pC_run (a b c d:Int) (W:Wd):(binOp .eql 38 (.agg #[.int .i64 a,.int .i64 b]) (.agg #[.int .i64 c,.int .i64 d])).run prog W = .ok (.bool (decide (a=c∧b=d))) W:=by
 obtain ⟨i,hi,_,_,_⟩:=info_parts (show (prog.info? 3).map (fun i=>(i.zero,i.size,i.bytes))=some (some (.int .i64 0),1,8) from by kernel_rfl)
 have h:(Op.equalIn (9999+1) 38 (.agg #[.int .i64 a,.int .i64 b]) (.agg #[.int .i64 c,.int .i64 d])).run prog W = .ok (decide (a=c∧b=d)) W:=by
  rw [run_equalIn_array W 9999 _ _ Tryz.underlying38 hi,show prog.cellsOf 3=1 from by kernel_rfl,show List.range 2 = [0,1] from rfl];have p0:(part 3 #[.int .i64 a,.int .i64 b] 0).run prog W = .ok (.int .i64 a) W:=by kernel_rfl
  have p1:(part 3 #[.int .i64 a,.int .i64 b] 1).run prog W = .ok (.int .i64 b) W:=by kernel_rfl
  have r0:(part 3 #[.int .i64 c,.int .i64 d] 0).run prog W = .ok (.int .i64 c) W:=by kernel_rfl
  have r1:(part 3 #[.int .i64 c,.int .i64 d] 1).run prog W = .ok (.int .i64 d) W:=by kernel_rfl
  have q0:=run_equalIn_int (P:=prog) W 9998 3 .i64 .i64 a c Tryz.underlying3;have q1:=run_equalIn_int (P:=prog) W 9998 3 .i64 .i64 b d Tryz.underlying3;by_cases h1:a=c
  ·have q0':(a == c)=true:=by simpa using h1
   rw [q0'] at q0;by_cases h2:b=d
   ·have q1':(b == d)=true:=by simpa using h2
    rw [q1'] at q1;rw [decide_eq_true ⟨h1,h2⟩];simp [Op.eqItems,p0,p1,r0,r1,q0,q1]
   ·have q1':(b == d)=false:=by simpa using h2
    rw [q1'] at q1;rw [decide_eq_false (fun h=>h2 h.2)];simp [Op.eqItems,p0,p1,r0,r1,q0,q1]
  ·have q0':(a == c)=false:=by simpa using h1
   rw [q0'] at q0;rw [decide_eq_false (fun h=>h1 h.1)];simp [Op.eqItems,p0,r0,q0]
 rw [run_eql_struct,show (10000:Nat)=9999+1 from rfl,h];rfl
theorem rep_any {R:Int ⊕ List PC} {w w':Wd} {e:Ending} (h:RepG R w e w'):∃ v er,e = .returned (.tuple #[v,.int .i64 er])∧Below w.heap.size w w':=by
 cases R with
 |inl er=>exact ⟨_,er,h.2.1,h.2.2⟩
 |inr s=>
  obtain ⟨A,c,now,he,_,_,_,_,_,hb⟩:=h;exact ⟨_,0,he,hb⟩
theorem later {T G:Prop} (h1:T→G) (h2:T):G:=h1 h2
theorem comC_one1 (x:Com):(U7 x).toArray.all (·.oneCell')=true:=by simp [U7,Value.oneCell']
theorem chk_neg {o:Option (Nat×Nat)}:(chkU o == -1)=decide (o=none):=by
 cases o with
 |none=>rfl
 |some p=>
  unfold chkU;have:((p.1:Nat):Int)≠-1:=by omega
  simp [this]
theorem swaps_big (iA:Option Addr) (im ic:Nat) (ini:List Cnt) (A:Option Addr) (n c:Nat) (l:List Com) (a:Nat) (w:Wd) (hi:Sl cnC 23 w w.heap.size iA im ic ini) (hip:∀ x∈ini,Sl prC 2 w w.heap.size x.pA x.pn x.pc x.ps) (hs:Cs w w.heap.size A n c l) (haw:∀ W:Wd,Below w.heap.size w W→Calls prog 6 #[] W fun e w'=>e = .returned (.bool true)∧Below W.heap.size W w') (hbig:fewA im ini n l=false∨n<2):
  Calls prog 3 #[.slice iA im ic,.slice A n c,.int .u8 a] w fun e w'=>e = .returned (.bool true)∧Below w.heap.size w w':=by
 have HF:=Hd (few_gen iA im ic ini A n c l w hi hip hs);have HW:=Hd haw;clear hi hip hs haw;cases hf:fewA im ini n l with
 |false=>
  rw [hf] at HF;clear hbig hf;go_enter Tryz.func3,Tryz.ntmps3;go_wp2_with (first|(go_at_call 5;refine HF.out.mono ?_;rintro e w2 ⟨rfl,aF⟩;have X2:=Hd aF;clear aF)|(go_at_call 6;refine (HW.out _ X2.out).mono ?_;rintro e w9 ⟨rfl,dA⟩;have X9:=Hd (U0 X2.out dA (X2.out).size);clear dA));go_ret;exact ⟨rfl,X9.out⟩
 |true=>
  rw [hf] at hbig HF
  have h2:n<2:=by
   rcases hbig with h|h
   ·cases h
   ·exact h
  have d1:decide ((n:Int)<2)=true:=by simp;omega
  have d2:decide (n<2)=true:=by simp;omega
  clear hbig h2 hf;go_enter Tryz.func3,Tryz.ntmps3;go_wp2_with (first|(go_at_call 5;refine HF.out.mono ?_;rintro e w2 ⟨rfl,aF⟩;have X2:=Hd aF;clear aF)|(go_at_call 6;refine (HW.out _ X2.out).mono ?_;rintro e w9 ⟨rfl,dA⟩;have X9:=Hd (U0 X2.out dA (X2.out).size);clear dA));go_ret;exact ⟨rfl,X9.out⟩
theorem swaps_few (iA:Option Addr) (im ic:Nat) (ini:List Cnt) (A:Option Addr) (n c:Nat) (l:List Com) (at0:Nat) (w:Wd) (hlp:LSp iA im ic ini A n c l w) (haw:∀ W:Wd,Below w.heap.size w W→Calls prog 6 #[] W fun e w'=>e = .returned (.bool true)∧Below W.heap.size W w') (hf:fewA im ini n l=true) (h2:2≤n) (hat:at0<256):
  Calls prog 3 #[.slice iA im ic,.slice A n c,.int .u8 at0] w fun e w'=>e = .returned (.bool true)∧Below w.heap.size w w':=by
 obtain ⟨i0,aU,aW,aK,aR⟩:=info_parts infoCom;have hff:=few_gen iA im ic ini A n c l w hlp.hi (fun x hx=>(hlp.hip x hx).sl) hlp.hs;rw [hf] at hff;have HF:=Hd hff;have HW:=Hd haw;have HL:=Hd hlp;have HIL:=Hd hlp.hi.len;have HUL:=Hd hlp.hs.1.len;have d1:decide ((n:Int)<2)=false:=by simp;omega
 have d2:decide (n<2)=false:=by simp;omega
 have hn12:=hlp.hn;have him4:=hlp.him;clear hlp haw hf hff;go_enter Tryz.func3,Tryz.ntmps3;go_wp2_with ((go_at_call 5;refine HF.out.mono ?_;rintro e w2 ⟨rfl,aF⟩;have X2:=Hd aF;clear aF));go_loopw [39] (fun i wr => ∃ j:Nat,j≤im∧i = .int .i64 j∧(∀ t,t<j→∀ e,ini[t]? =some e→e.ap=0)∧Below w.heap.size w wr) (fun i _=>im-(intOf i).toNat)
 case atStart=>exact ⟨0,Z0 _,rfl,fun t h=>absurd h (by omega),X2.out⟩
 case round=>
  obtain ⟨j,hj,rfl,hall,aE⟩:=hrel;obtain ⟨wx,rfl⟩:∃ x:Wd,x=wr:=⟨_,rfl⟩
  have HA:=Hd hall;have HB:=Hd aE;clear hall;by_cases aG:j<im
  ·obtain ⟨b,o,x,rfl,hb,hg,aB⟩:=Sl.cell (f:=cnC) (k:=23) (fun _=>rfl) (HL.out.hi.below aE) aG;have HM:Hid (wx.rangeAt b (o+j*23) (cnC x)):=Hd fun t u hu=>aB t u hu
   have HG:=Hd hg;have fJ:=Hd (Vz x);have aQ:=Hd fun old=>Blk.new wx 30 old
   have bK:=Hd fun old=>U1 wx old (cnC x).toArray 30
   have c1:=((Blk.new wx 30 (cnC x).toArray).cell 21).trans (show _=some (Value.int .i64 x.ap) from rfl);have aL:=Hd (aE.alloc aE.size (.cells (cnC x).toArray 30));have bE:=Hd aG;clear hb hg aB aE aG hj;by_cases hz:x.ap=0
   ·have HZ:=Hd hz;rw [hz] at c1;clear hz;go_wp2_with (first|((with_reducible refine Gl 30 41 ?_);refine Ln 30 b (o+j*23) (cnC x) HM.out Tryz.underlying30 ?_)|((with_reducible refine Gt 30 8 ?_);refine Lv 30 wx.heap.size (cnC x).toArray (aQ.out _) fJ.out ?_;rw [bK.out]));go_roundw
    case rel=>exact ⟨j+1,by have:=bE.out;omega,by go_num,fun t ht e he=>by
     by_cases h:t=j
     ·subst h;rw [HG.out] at he;injection he with he;subst he;exact HZ.out
     ·exact HA.out t (by omega) e he,aL.out⟩
    case measure=>simp [intOf];have:=bE.out;omega
   ·have bz:(x.ap != 0)=true:=by simpa using hz
    clear hz;go_wp2_with (first|((with_reducible refine Gl 30 41 ?_);refine Ln 30 b (o+j*23) (cnC x) HM.out Tryz.underlying30 ?_)|((with_reducible refine Gt 30 8 ?_);refine Lv 30 wx.heap.size (cnC x).toArray (aQ.out _) fJ.out ?_;rw [bK.out])|(go_at_call 6;refine (HW.out _ aL.out).mono ?_;rintro e w9 ⟨rfl,dA⟩;have X9:=Hd (U0 aL.out dA (aL.out).size);clear dA));go_ret;exact ⟨rfl,X9.out⟩
  ·obtain rfl:j=im:=by omega
   have HAP:Hid (∀ x∈ini,x.ap=0):=Hd fun x hx=>by
    obtain ⟨t,ht⟩:=List.getElem?_of_mem hx;exact HA.out t (by rw [←HIL.out];exact (List.getElem?_eq_some_iff.1 ht).1) x ht
   clear aE aG hj HA;go_wp2;go_loopw [50] (fun i wr => ∃ q:Nat,q≤n∧i = .int .i64 q∧Below w.heap.size w wr) (fun i _=>n-(intOf i).toNat)
   case atStart=>exact ⟨0,Z0 _,rfl,HB.out⟩
   case round=>
    obtain ⟨q,hq,rfl,aE⟩:=hrel;obtain ⟨wy,rfl⟩:∃ x:Wd,x=wr:=⟨_,rfl⟩
    have fB:=Hd aE;by_cases aG:q<n
    ·obtain ⟨b,o,x,rfl,hb,hg,aB⟩:=Sl.cell (f:=U7) (k:=4) V2 (HL.out.hs.1.below aE) aG;have HM:Hid (wy.rangeAt b (o+q*4) (U7 x)):=Hd fun t u hu=>aB t u hu
     have fJ:=Hd (F9 x);have aQ:=Hd fun old=>Blk.new wy 34 old
     have bK:=Hd fun old=>U1 wy old (U7 x).toArray 34
     have c3:=((Blk.new wy 34 (U7 x).toArray).cell 3).trans (show _=some (Value.slice x.cA x.cn x.cc) from rfl);have aL:=Hd (aE.alloc aE.size (.cells (U7 x).toArray 34));have bE:=Hd aG;clear hb hg aB aE aG hq;by_cases hz:x.cn=0
     ·have bz:((x.cn:Int) == 0)=true:=by simp;omega
      rw [hz] at c3;clear hz bz;go_wp2_with (first|((with_reducible refine Gl 34 52 ?_);refine Ln 34 b (o+q*4) (U7 x) HM.out Tryz.underlying34 ?_)|((with_reducible refine Gt 34 10 ?_);refine Lv 34 wy.heap.size (U7 x).toArray (aQ.out _) fJ.out ?_;rw [bK.out])|(go_at_call 6;refine (HW.out _ aL.out).mono ?_;rintro e w9 ⟨rfl,dA⟩;have X9:=Hd (U0 aL.out dA (aL.out).size);clear dA));go_ret;exact ⟨rfl,X9.out⟩
     ·have bz:((x.cn:Int) == 0)=false:=by simp;omega
      clear hz;go_wp2_with (first|((with_reducible refine Gl 34 52 ?_);refine Ln 34 b (o+q*4) (U7 x) HM.out Tryz.underlying34 ?_)|((with_reducible refine Gt 34 10 ?_);refine Lv 34 wy.heap.size (U7 x).toArray (aQ.out _) fJ.out ?_;rw [bK.out]));go_roundw
      case rel=>exact ⟨q+1,by have:=bE.out;omega,by go_num,aL.out⟩
      case measure=>simp [intOf];have:=bE.out;omega
    ·obtain rfl:q=n:=by omega
     clear aE aG hq;have hn12':q≤12:=hn12;obtain ⟨k,hk⟩:∃ k,at0 % (q-1)=k:=⟨_,rfl⟩
     have hk1:k+1<q:=by rw [←hk];have:=Nat.mod_lt at0 (show q-1 > 0 by omega);omega
     obtain ⟨xa,hxa⟩:∃ x,l[k]? =some x:=⟨_,List.getElem?_eq_getElem (by rw [HUL.out];omega)⟩
     obtain ⟨xb,hxb⟩:∃ x,l[k+1]? =some x:=⟨_,List.getElem?_eq_getElem (by rw [HUL.out];omega)⟩
     obtain ⟨k1,hk1e⟩:∃ k1,k+1=k1:=⟨_,rfl⟩
     have HXA:=Hd hxa;have HXB:=Hd hxb;have HKE:=Hd hk1e;have HK1:Hid (k1<q):=Hd (by omega);have hr1:IntKind.i64.wrap ((q:Int)-1)=((q-1:Nat):Int):=by rw [IntWalk.i64_in _ (by omega)];omega
     have bS:((at0:Int).tmod ((q-1:Nat):Int))=(k:Int):=by rw [←hk];exact Int.ofNat_tmod .. |>.symm
     have hr3:IntKind.i64.wrap (at0:Int)=(at0:Int):=IntWalk.i64_in _ (by omega);have hr4:IntKind.i64.wrap (k:Int)=(k:Int):=IntWalk.i64_in _ (by omega);have hr5:((q-1:Nat):Int)≠0:=by omega
     clear hk hxa hxb hk1e hk1;have HNA:=Hd (Kr A q c l wy (HL.out.hs.after fB.out fB.out.size) HL.out.hn (fun x hx=>Lx (HL.out.hcn x hx).1 (by decide)));go_wp2_with fail;refine HNA.out.mono ?_;rintro e w4 ⟨A1,c1,rfl,cO,hb4⟩;have hcs4:=HL.out.cs (U0 fB.out hb4 fB.out.size) (fun _ h=>h) HUL.out cO;rw [Zb,HUL.out];have mC:=Hd hcs4;have cD:=Hd (U0 fB.out hb4 fB.out.size);clear cO hb4 hcs4 HNA hr1 bS hr3 hr5;have HOE:=Hd (World.ownsRow_lit (e:=34) (base:=w4.heap.size) (size:=4) w4 #[] 0 (Le _) (by decide) rfl);have jU:=Hd ((HL.out.hs.after cD.out cD.out.size).1.rd.alloc (Le _) (.cells #[] 34));have H1L:=Hd (comC_one l);have HAN1:Hid (0+q≤maxLen):=Hd (by unfold maxLen;omega);have HAN2:Hid ((0+q)*64≤140737488355328):=Hd (by omega)
     go_wp2_with (at_builtin;go_must (refine U5 _ rfl _ _ 23 rfl w4.heap.size 34 i0 _ 4 64 Tryz.underlying23 aU aW aK aR rfl (by decide) _ _ _ rfl HOE.out w4.heap.size A q c (Ub U7 l) rfl jU.out H1L.out HAN1.out HAN2.out (by simp) ?_;intro v5 w5 aD aO _;have aS:=Hd aD;have bQ:Hid (World.grownBy _ w5 (Value.slice (some ⟨w4.heap.size,0,none⟩) 0 0).ownBlock):=Hd aO;clear aD aO));have eB:Hid (Below w4.heap.size w4 w5):=Hd (((Bf _ _).alloc (Le _) _).grown bQ.out (by simp) (by intro k hk;simp [Value.ownBlock] at hk;omega));have ho5:w5.ownsRow w4.heap.size 34 4 v5 q (Ub U7 l):=by have:=aS.out;simpa using this
     obtain ⟨A5,c5,rfl,_⟩:=Ue ho5;obtain ⟨g5,_,hA5,_⟩:=own_at4 ho5 (by omega);subst hA5;obtain ⟨w6,hx⟩:=xg_mk (Up ho5 (Bf _ _).drew) (by have:=HK1.out;have:=HKE.out;omega) HXA.out HXB.out;have kG:=Hd (eB.out.drew.trans (hx.be.mono (by exact Le _)));clear ho5 aS bQ HOE jU H1L HAN1 HAN2;have b0:(0:Int)≤(k:Int):=by omega
     have b1:(k:Int)<(q:Int):=by have:=HK1.out;have:=HKE.out;omega
     have b2:(0:Int)≤(k1:Int):=by omega
     have b3:(k1:Int)<(q:Int):=by have:=HK1.out;omega
     have hr6:IntKind.i64.wrap ((k:Int)+1)=(k1:Int):=by have:=HKE.out;rw [IntWalk.i64_in _ (by omega)];omega
     have HE1:=Hd (show (k+1)*4=k1*4 by rw [HKE.out]);refine Rw (S:=fun _=>True) (by kernel_rfl) trivial (fun Hh=>?_);refine tk 0 (.slice (some ⟨g5,0,none⟩) q c5) Hh ?_;refine tk 2 (.slice (some ⟨g5,0,none⟩) q c5) Hh ?_;refine tk 5 (.slice (some ⟨g5,0,none⟩) q c5) Hh ?_;refine tk 10 (.slice (some ⟨g5,0,none⟩) q c5) Hh ?_;refine tk 1 (.int .i64 k) Hh ?_;refine tk 3 (.int .i64 k) Hh ?_;refine tk 6 (.int .i64 k) Hh ?_;refine tk 11 (.int .i64 k) Hh ?_;refine tk 4 (.int .i64 k1) Hh ?_ (y:=by exact Or.inl ⟨by rfl,by intro w' aH;have h1:=hr6;go_simp⟩);refine tk 7 (.int .i64 k1) Hh ?_ (y:=by exact Or.inl ⟨by rfl,by intro w' aH;have h1:=hr6;go_simp⟩);refine tk 8 (.pointer (some ⟨g5,k1*4,none⟩)) Hh ?_;refine tk 12 (.pointer (some ⟨g5,k*4,none⟩)) Hh ?_;have gL:=Hd hx.r0
     have gQ:Hid (w5.drew.rangeAt g5 (k1*4) (U7 xb)):=Hd (by have:=hx.r1;rwa [HKE.out] at this);have HT0:=Hd hx.t0;have gY:Hid ((w5.drew.setCells g5 (k*4) (U7 xb).toArray.toList).there g5 (k1*4) 4):=Hd (by have:=hx.t1;rwa [HKE.out] at this);have E6:Hid ((w5.drew.setCells g5 (k*4) (U7 xb).toArray.toList).setCells g5 (k1*4) (U7 xa).toArray.toList=w6):=Hd (by have:=hx.e;rw [HKE.out] at this;exact this.symm);have HO6:=Hd hx.own;clear hx;apply later
     case h1=>
      intro key;refine Aq [9,13] ?_;refine Rc (fun K hK=>?_) (Rc (fun K hK=>?_) An)
      ·refine wp_load_mid 34 _ rfl g5 (k1*4) rfl (U7 xb) _ gQ.out Tryz.underlying34 rfl (by kernel_rfl) ?_;refine hK.out _ _ trivial (fun Hh=>?_);clear hK K;simp only [Act.put,Sv,Sz,Sw];refine Aq [13] ?_;refine Rc (fun K hK=>?_) An;refine wp_load_mid 34 _ rfl g5 (k*4) rfl (U7 xa) _ gL.out Tryz.underlying34 rfl (by kernel_rfl) ?_;refine hK.out _ _ trivial (fun Hh=>?_);clear hK K;simp only [Act.put,Sv,Sz,Sw];exact key
      ·refine wp_load_mid 34 _ rfl g5 (k*4) rfl (U7 xa) _ gL.out Tryz.underlying34 rfl (by kernel_rfl) ?_;refine hK.out _ _ trivial (fun Hh=>?_);clear hK K;simp only [Act.put,Sv,Sz,Sw];refine Aq [9] ?_;refine Rc (fun K hK=>?_) An;refine wp_load_mid 34 _ rfl g5 (k1*4) rfl (U7 xb) _ gQ.out Tryz.underlying34 rfl (by kernel_rfl) ?_;refine hK.out _ _ trivial (fun Hh=>?_);clear hK K;simp only [Act.put,Sv,Sz,Sw];exact key
     case h2=>
      refine tk 14 (.pointer (some ⟨g5,k*4,none⟩)) Hh ?_;refine Aq [15] ?_;refine Rc (fun K hK=>?_) An;refine wp_store_mid 34 _ _ rfl g5 (k*4) (U7 xb).toArray rfl rfl HT0.out (by kernel_rfl) (comC_one1 _) ?_;refine hK.out _ _ trivial (fun Hh=>?_);clear hK K;try simp only [Act.put]
      refine tk 16 (.pointer (some ⟨g5,k1*4,none⟩)) Hh ?_;refine Aq [17] ?_;refine Rc (fun K hK=>?_) An;refine wp_store_mid 34 _ _ rfl g5 (k1*4) (U7 xa).toArray rfl rfl gY.out (by kernel_rfl) (comC_one1 _) ?_;refine hK.out _ _ trivial (fun Hh=>?_);clear hK K;try simp only [Act.put]
      rw [E6.out];refine Ad (by kernel_rfl) ?_ _;clear Hh gL gQ HT0 gY E6 hr6 b0 b1 b2 b3;obtain ⟨ls,hls⟩:∃ ls,(l.set k xb).set (k+1) xa=ls:=⟨_,rfl⟩
      have gZ:=swap_mem HXA.out HXB.out;have hll:ls.length=q:=by rw [←hls];simp only [List.length_set];exact HUL.out
      have ho6:=HO6.out;rw [hls] at gZ ho6;have HLS:=Hd hls;have jQ:=Hd gZ;have HLL:=Hd hll;have jB:=Hd (U0 cD.out kG.out cD.out.size);have hs6:=Sl.of_own (f:=U7) (k:=4) V2 (by decide) ho6;have HC6:Hid (Cs w6 w6.heap.size (some ⟨g5,0,none⟩) q c5 ls):=Hd ⟨hs6,fun y hy=>(HL.out.hs.2 y (gZ y hy)).after jB.out jB.out.size⟩;have HNB:=Hd (Kr (some ⟨g5,0,none⟩) q c5 ls w6 HC6.out HL.out.hn (fun x hx=>Lx (HL.out.hcn x (gZ x hx)).1 (by decide)));clear hls gZ hll ho6 hs6 HO6;go_wp2_with fail;refine HNB.out.mono ?_;rintro e w7 ⟨A7,c7,rfl,ho7,hb7⟩;have hcs7:=HL.out.cs (U0 jB.out hb7 jB.out.size) jQ.out HLL.out ho7;rw [Zb,HLL.out];have HC7:=Hd hcs7;have kK:=Hd (U0 jB.out hb7 jB.out.size);have H47:=Hd (U0 kG.out hb7 kG.out.size);have HCA7:=Hd (mC.out.after H47.out H47.out.size)
      have HL7:=Hd (HL.out.next kK.out);have gU:=Hd (HL7.out.conf HCA7.out)
      have fG:Hid ((V3 (Xr (Un 1 l)) (Xr (Un 1 l)).length).length≤144):=Hd (by
       have h1:=Jg (Xr (Un 1 l)) (Xr (Un 1 l)).length;have h2:=ordS_len (Un 1 l);rw [Zb,HUL.out] at h2;have h3:=Nat.mul_le_mul (Lx h2 HL.out.hn) (Lx h2 HL.out.hn);omega)
      clear ho7 hb7 hcs7 HNB HC6 kG jB mC;go_wp2_with fail;refine gU.out.mono ?_;rintro e w8 ⟨A8,c8,rfl,hs8,hb8⟩;obtain ⟨pl,gX⟩:∃ pl,V3 (Xr (Un 1 l)) (Xr (Un 1 l)).length=pl:=⟨_,rfl⟩
      rw [gX] at hs8 fG ⊢;obtain ⟨m8,hm8⟩:∃ m,pl.length=m:=⟨_,rfl⟩
      rw [hm8] at hs8 fG ⊢;have HPL:=Hd gX;have HPM:=Hd hm8;have HS8:=Hd hs8;have HB8:=Hd (U0 kK.out hb8 kK.out.size);have H78:=Hd hb8;have hm144:=fG.out;clear gX hm8 hs8 hb8 gU;go_wp2;go_loopw [92] (fun i wr => ∃ p:Nat,p≤m8∧i = .int .i64 p∧(∀ t,t<p→pl[t]?≠some (k,k1))∧Below w8.heap.size w8 wr) (fun i _=>m8-(intOf i).toNat)
      case atStart=>exact ⟨0,Z0 _,rfl,fun t h=>absurd h (by omega),Bf _ _⟩
      case round=>
       obtain ⟨p,hp,rfl,hall,aE⟩:=hrel;obtain ⟨wz,rfl⟩:∃ x:Wd,x=wr:=⟨_,rfl⟩
       have HN8:=Hd hall;have HBZ:=Hd aE;clear hall;by_cases aG:p<m8
       ·obtain ⟨b,o,x,rfl,hb,hg,aB⟩:=Sl.cell (f:=pC) (k:=2) (fun _=>rfl) (HS8.out.below aE) aG;have HM:Hid (wz.rangeAt b (o+p*2) (pC x)):=Hd fun t u hu=>aB t u hu
        have HG:=Hd hg;have fJ:=Hd (show (pC x).toArray.all (·.oneCell')=true by simp [pC,Value.oneCell']);have aQ:=Hd fun old=>Blk.new wz 38 old
        have bK:=Hd fun old=>U1 wz old (pC x).toArray 38
        have XPB:=Hd (Blk.new wz 38 (pC x).toArray);have aL:=Hd (aE.alloc aE.size (.cells (pC x).toArray 38));have bE:=Hd aG;have hr6:IntKind.i64.wrap ((k:Int)+1)=(k1:Int):=by have:=HKE.out;have:=HK1.out;rw [IntWalk.i64_in _ (by omega)];omega
        have hr7:IntKind.i64.wrap ((p:Int)+1)=((p+1:Nat):Int):=by rw [IntWalk.i64_in _ (by omega)];omega
        have HPC:=Hd fun W=>pC_run (x.1:Int) (x.2:Int) (k:Int) (k1:Int) W
        clear hb hg aB aE aG hp;by_cases hz:x=(k,k1)
        ·have hd:decide ((x.1:Int)=(k:Int)∧(x.2:Int)=(k1:Int))=true:=decide_eq_true (by rw [hz];exact ⟨rfl,rfl⟩);rw [hd] at HPC;clear hz hd
         go_wp2_with (first|((with_reducible refine Gl 38 94 ?_);refine Ln 38 b (o+p*2) (pC x) HM.out Tryz.underlying38 ?_)|((with_reducible refine Gt 38 16 ?_);refine Lv 38 wz.heap.size (pC x).toArray (aQ.out _) fJ.out ?_;rw [bK.out])|((with_reducible refine Gl 38 16 ?_);refine Lq 38 wz.heap.size _ XPB.out Tryz.underlying38 ?_)|((with_reducible refine Gb 38 ?_);refine U2 (by kernel_rfl) 38 _ rfl (#[.int .i64 k,.int .i64 k1]) (by kernel_rfl) ?_)|((with_reducible refine Ge 38 ?_);refine J4 (by kernel_rfl) (.bool true) (exec_bin rfl rfl rfl (by kernel_rfl) (HPC.out _)) ?_;simp only [Act.put,Sv,Sz,Sw])|(go_at_call 6;refine (HW.out _ (U0 HB8.out aL.out HB8.out.size)).mono ?_;rintro e w9 ⟨rfl,dA⟩;have X9:=Hd (U0 (U0 HB8.out aL.out HB8.out.size) dA ((U0 HB8.out aL.out HB8.out.size)).size);clear dA))
         go_ret;exact ⟨rfl,X9.out⟩
        ·have HZ:=Hd hz;have hd:decide ((x.1:Int)=(k:Int)∧(x.2:Int)=(k1:Int))=false:=decide_eq_false fun h=>hz (Prod.ext (by omega) (by omega))
         rw [hd] at HPC;clear hz hd;go_wp2_with (first|((with_reducible refine Gl 38 94 ?_);refine Ln 38 b (o+p*2) (pC x) HM.out Tryz.underlying38 ?_)|((with_reducible refine Gt 38 16 ?_);refine Lv 38 wz.heap.size (pC x).toArray (aQ.out _) fJ.out ?_;rw [bK.out])|((with_reducible refine Gl 38 16 ?_);refine Lq 38 wz.heap.size _ XPB.out Tryz.underlying38 ?_)|((with_reducible refine Gb 38 ?_);refine U2 (by kernel_rfl) 38 _ rfl (#[.int .i64 k,.int .i64 k1]) (by kernel_rfl) ?_)|((with_reducible refine Ge 38 ?_);refine J4 (by kernel_rfl) (.bool false) (exec_bin rfl rfl rfl (by kernel_rfl) (HPC.out _)) ?_;simp only [Act.put,Sv,Sz,Sw]));go_roundw
         case rel=>exact ⟨p+1,by have:=bE.out;omega,by go_num,fun t ht e=>by
          by_cases h:t=p
          ·subst h;rw [HG.out] at e;injection e with e;exact HZ.out e
          ·exact HN8.out t (by omega) e,aL.out⟩
         case measure=>simp [intOf];have:=bE.out;omega
       ·obtain rfl:p=m8:=by omega
        have HNC:Hid ((k,k+1) ∉ V3 (Xr (Un 1 l)) (Xr (Un 1 l)).length):=Hd fun hm=>by
         rw [HPL.out,HKE.out] at hm;obtain ⟨t,ht⟩:=List.getElem?_of_mem hm;exact HN8.out t (by rw [←HPM.out];exact (List.getElem?_eq_some_iff.1 ht).1) ht
        have HBz:=Hd (U0 HB8.out HBZ.out HB8.out.size);have H7z:=Hd (U0 H78.out HBZ.out H78.out.size);have HCAz:=Hd (HCA7.out.after H7z.out H7z.out.size);have HCBz:=Hd (HC7.out.after H7z.out H7z.out.size);have HLz:=Hd (HL.out.next HBz.out);clear aE aG hp HN8 HS8 HPL HPM fG HCA7 HC7 HL7 kK HB8 H78 H47 hm144;have HRA:=Hd (HLz.out.replay (fun _ h=>h) HCAz.out);cases hr1:Jk ini (Un 1 l) with
        |inl er=>
         rw [hr1] at HRA;clear hr1;go_wp2_with fail;refine HRA.out.mono ?_;rintro e w10 ⟨aZ,rfl,f9⟩;have gO:=Hd (U0 HBz.out f9 HBz.out.size);have eK:=Hd (HCBz.out.after f9 f9.size);have kJ:=Hd (HL.out.next gO.out);have HRB:=Hd (kJ.out.replay jQ.out eK.out);have bz:(er != 0)=true:=by simpa using aZ
         clear f9 aZ HRA HCAz HCBz;go_wp2_with fail;refine HRB.out.mono ?_;intro e w11 hrp;obtain ⟨V,er2,rfl,fR⟩:=rep_any hrp;have eI:=Hd (U0 gO.out fR gO.out.size);clear hrp fR HRB eK kJ;go_wp2_with (first|(go_at_call 6;refine (HW.out _ eI.out).mono ?_;rintro e w9 ⟨rfl,dA⟩;have X9:=Hd (U0 eI.out dA (eI.out).size);clear dA));go_ret;exact ⟨rfl,X9.out⟩
        |inr s1=>
         rw [hr1] at HRA;have gQ:=Hd hr1;clear hr1;go_wp2_with fail;refine HRA.out.mono ?_;rintro e w10 ⟨A9,c9,n1,rfl,hs10,-,hcw10,hnow1,hlen1,f9⟩;have HS10:=Hd hs10;have HW10:=Hd fun y hy=>(hcw10 y hy).1
         have HNOW1:=Hd hnow1;have HLEN1:=Hd hlen1;have Hz10:=Hd f9;have gO:=Hd (U0 HBz.out f9 HBz.out.size);have eK:=Hd (HCBz.out.after f9 f9.size);have kJ:=Hd (HL.out.next gO.out);have HRB:=Hd (kJ.out.replay jQ.out eK.out);clear f9 hs10 hcw10 hnow1 hlen1 HRA HCBz;cases bS:Jk ini (Un 1 ls) with
         |inl er=>
          rw [bS] at HRB;clear bS;go_wp2_with fail;refine HRB.out.mono ?_;rintro e w11 ⟨aZ,rfl,fR⟩;have eI:=Hd (U0 gO.out fR gO.out.size);have bz:(er != 0)=true:=by simpa using aZ
          clear fR aZ HRB eK kJ;go_wp2_with (first|(go_at_call 6;refine (HW.out _ eI.out).mono ?_;rintro e w9 ⟨rfl,dA⟩;have X9:=Hd (U0 eI.out dA (eI.out).size);clear dA));go_ret;exact ⟨rfl,X9.out⟩
         |inr s2=>
          rw [bS] at HRB
          have gX:ReS s1 s2∧NdP s1∧NdP s2∧∃ o1 o2,cheF ini (Un 1 l) = .inr o1∧cheF ini (Un 1 ls) = .inr o2∧(o1=none↔o2=none):=by
           have hr3:=bS;rw [←HLS.out] at hr3 ⊢;exact swaps_plain HAP.out HL.out.lens HXA.out HXB.out HNC.out gQ.out hr3
          clear bS;obtain ⟨hre,hn1,eN,o1,o2,he1,he2,hoo⟩:=gX;have HRE:=Hd hre;have HN1:=Hd hn1;have jL:=Hd eN;have HE1:=Hd he1;have fU:=Hd he2;have hce:(chkU o2 == -1)=(chkU o1 == -1):=by rw [chk_neg,chk_neg];exact decide_eq_decide.2 hoo.symm
          clear hre hn1 eN he1 he2 hoo;go_wp2_with fail;refine HRB.out.mono ?_;rintro e w11 ⟨A10,c10,n2,rfl,hs11,-,hcw11,hnow2,hlen2,fR⟩;have eA:=now_same HRE.out HN1.out jL.out HNOW1.out hnow2;have HSM:=Hd eA;have hll2:n2.length=n1.length:=(same_len eA).symm;rw [hll2] at hs11 ⊢;obtain ⟨m1,hm1⟩:∃ m,n1.length=m:=⟨_,rfl⟩
          rw [hm1] at hs11 HS10 HLEN1 ⊢;have HS11:=Hd hs11;have HW11:=Hd fun y hy=>(hcw11 y hy).1
          have eI:=Hd (U0 gO.out fR gO.out.size);have Hz11:=Hd (U0 Hz10.out fR Hz10.out.size);have H1011:=Hd fR;have HCA11:=Hd (HCAz.out.after Hz11.out Hz11.out.size);have HL11:=Hd (HL.out.next eI.out);have HCC:=Hd (HL11.out.check (fun _ h=>h) HCA11.out);rw [HE1.out] at HCC;clear eA hll2 hm1 hs11 hcw11 hnow2 hlen2 fR HRB HRE HN1 jL HNOW1 gQ;go_wp2_with fail;refine HCC.out.mono ?_;rintro e w12 ⟨rfl,hb12⟩;have HB12:=Hd (U0 eI.out hb12 eI.out.size);have jP:=Hd (U0 H1011.out hb12 H1011.out.size);have H1112:=Hd hb12;have HCB12:=Hd (eK.out.after jP.out jP.out.size);have HL12:=Hd (HL.out.next HB12.out);have HCD:=Hd (HL12.out.check jQ.out HCB12.out);rw [fU.out] at HCD;clear hb12 HCC HCA11 eK kJ HL11;go_wp2_with fail;refine HCD.out.mono ?_;rintro e w13 ⟨rfl,hb13⟩;have HB13:=Hd (U0 HB12.out hb13 HB12.out.size)
          have H1013:=Hd (U0 jP.out hb13 jP.out.size);have H1113:=Hd (U0 H1112.out hb13 H1112.out.size);have HCON:=Hd (rcontents_same A9 A10 m1 c9 c10 n1 n2 w13 (HS10.out.after H1013.out H1013.out.size) (HS11.out.after H1113.out H1113.out.size) (fun y hy=>(HW10.out y hy).below H1013.out) (fun y hy=>(HW11.out y hy).below H1113.out) HLEN1.out HSM.out);obtain ⟨u1,hu1⟩:∃ u,chkU o1=u:=⟨_,rfl⟩
          obtain ⟨u2,hu2⟩:∃ u,chkU o2=u:=⟨_,rfl⟩
          rw [hu1] at hce;rw [hu2] at hce ⊢;try rw [hu1]
          clear hb13 HCD HCB12 HL12 HE1 fU hu1 hu2;cases hz:(u1 == -1) with
          |true=>
           have c1:(u1 == -1)=true:=hz;have c2:(u2 == -1)=true:=by rw [hce];exact hz
           clear hz hce;go_wp2_with (first|(go_at_call 11;refine HCON.out.mono ?_;rintro e w14 ⟨rfl,hb14⟩;have j5:=Hd (U0 HB13.out hb14 HB13.out.size);clear hb14)|(go_at_call 6;refine (HW.out _ j5.out).mono ?_;rintro e w9 ⟨rfl,dA⟩;have X9:=Hd (U0 j5.out dA (j5.out).size);clear dA));go_ret;exact ⟨rfl,X9.out⟩
          |false=>
           have c1:(u1 == -1)=false:=hz;have c2:(u2 == -1)=false:=by rw [hce];exact hz
           clear hz hce;go_wp2_with (first|(go_at_call 11;refine HCON.out.mono ?_;rintro e w14 ⟨rfl,hb14⟩;have j5:=Hd (U0 HB13.out hb14 HB13.out.size);clear hb14)|(go_at_call 6;refine (HW.out _ j5.out).mono ?_;rintro e w9 ⟨rfl,dA⟩;have X9:=Hd (U0 j5.out dA (j5.out).size);clear dA));go_ret;exact ⟨rfl,X9.out⟩
end
section
open Go.Joins Go.ChangeShapes Go.WideShapes Go.Deep
theorem build_list {α:Type} {P:Nat→α→Prop}:∀ (m:Nat),(∀ i,i<m→∃ x,P i x)→∃ l:List α,l.length=m∧∀ i x,l[i]? =some x→P i x
 |0,_=>⟨[],rfl,fun i x h=>by simp at h⟩
 |m+1,h=>by
  obtain ⟨l,hl,ih⟩:=build_list m fun i hi=>h i (by omega)
  obtain ⟨x,hx⟩:=h m (by omega);refine ⟨l++[x],by simp [hl],fun i y hy=>?_⟩;rw [List.getElem?_append] at hy;split at hy
  ·exact ih i y hy
  ·have:i=m:=by
    have:=(List.getElem?_eq_some_iff.1 hy).1;simp at this;omega
   subst this;rw [hl,Nat.sub_self] at hy;injection hy with hy
   subst hy;exact hx
theorem sl_came {α:Type} {f:α→List Value} {k:Nat} (hk:∀ x,(f x).length=k) (jV:0<k) {w:Wd} {a:Addr} {n c:Nat} {l:List α} (hz:l.length=n) (hl:n≤c)
  (aB:∀ i x,l[i]? =some x→∀ j u,(f x)[j]? =some u→w.cell? (a.add (i*k+j))=some u):Sl f k w w.heap.size (some a) n c l:=by
 refine ⟨hl,hz,by rw [Vi hk,hz],fun hn=>?_⟩;obtain ⟨b,off,spot⟩:=a;have hg:l[0]? =some l[0]:=List.getElem?_eq_getElem (by omega);have hu0:(f l[0])[0]? =some ((f l[0])[0]'(by rw [hk];exact jV)):=List.getElem?_eq_getElem _;have h0:=aB 0 _ hg 0 _ hu0;have hspot:spot=none:=by simpa [Addr.add] using World.cell?_spot h0
 subst hspot;have hadd:∀ j,(⟨b,off,none⟩:Addr).add j=⟨b,off+j,none⟩:=fun j=>by unfold Addr.add;split<;>simp_all
 refine ⟨b,off,rfl,?_,fun j u hu=>?_⟩
 ·rw [hadd] at h0;by_cases aG:b<w.heap.size
  ·exact aG
  ·simp [World.cell?,Array.getElem?_eq_none (Nat.not_lt.1 aG)] at h0
 ·have hj:j<n*k:=by have:=(List.getElem?_eq_some_iff.1 hu).1;rwa [Vi hk,hz] at this
  have hi:j / k<l.length:=by rw [hz];exact Nat.div_lt_of_lt_mul (by rwa [Nat.mul_comm] at hj)
  have hgi:l[j / k]? =some l[j / k]:=List.getElem?_eq_getElem hi;have hr:j % k<k:=Nat.mod_lt _ jV;have he:j / k*k+j % k=j:=by rw [Nat.mul_comm];exact Nat.div_add_mod j k
  have h1:=Xn hk l (j / k) _ hgi (j % k) hr;rw [he,hu] at h1;have h2:=aB (j / k) _ hgi (j % k) u h1.symm
  rwa [he,hadd] at h2
section
variable {H:Type} {enc:TypeId×Value→H} {w:Wd} {base:Nat} {spare:Nat→Bool} {held:Bool}
theorem Ig {P:Program} {t:TypeId} {fs:Array Field} {n:Nat} {cs:List Value} {x:DataW H×List MemPlace} (ht:P.underlying t=some (.struct fs))
  (hone:∀ (i:Nat) (f:Field),fs[i]? =some f→f.offset=i∧P.cellsOf f.type=1) (hC:P.cellsOf t=fs.size) (h:DataW.trod enc P w base spare held n t cs=some x):
  cs.length=fs.size∧∃ m,∀ (i:Nat) (f:Field),fs[i]? =some f→∃ v y,cs[i]? =some v∧DataW.trod enc P w base spare held m f.type [v]=some y:=by
 obtain ⟨xs,m,_,rfl,hlen,hxl,hf⟩:=DataW.trod_struct ht h;refine ⟨hlen.trans hC,m,fun i f hi=>?_⟩;have aG:i<fs.size:=(Array.getElem?_eq_some_iff.1 hi).1;obtain ⟨ho,hc1⟩:=hone i f hi;have g:=hf i f hi;have hl':i<cs.length:=by omega
 rw [ho,hc1,take1_drop cs i undef hl',List.getElem?_eq_getElem (by omega)] at g;exact ⟨_,_,by simp [List.getD,List.getElem?_eq_getElem hl'],g⟩
theorem open_change {n:Nat} {cs:List Value} {x:DataW H×List MemPlace} (h:DataW.trod enc prog w base spare held n 58 cs=some x):∃ r:Chg,cs=chC r:=by
 obtain ⟨hl,m,hf⟩:=Ig Tryz.underlying58 (hone_of (by kernel_rfl)) (by kernel_rfl) h;have hl':cs.length=5:=hl;obtain ⟨v0,y0,g0,t0⟩:=hf 0 _ rfl;obtain ⟨v1,y1,g1,t1⟩:=hf 1 _ rfl;obtain ⟨v2,y2,g2,t2⟩:=hf 2 _ rfl;obtain ⟨v3,y3,g3,t3⟩:=hf 3 _ rfl;obtain ⟨v4,y4,g4,t4⟩:=hf 4 _ rfl;obtain ⟨a0,e0,_,_⟩:=DataW.trod_int Tryz.underlying3 t0;obtain ⟨a1,e1,_,_⟩:=DataW.trod_int Tryz.underlying3 t1;obtain ⟨a2,e2,_,_⟩:=DataW.trod_string Tryz.underlying9 t2;obtain ⟨a3,e3,_,_⟩:=DataW.trod_string Tryz.underlying9 t3;obtain ⟨a4,e4,_,_⟩:=DataW.trod_string Tryz.underlying9 t4
 match cs,hl' with
 | [c0,c1,c2,c3,c4],_=>
  simp at g0 g1 g2 g3 g4 e0 e1 e2 e3 e4;subst g0 g1 g2 g3 g4 e0 e1 e2 e3 e4;exact ⟨⟨a0,a1,a2,a3,a4⟩,rfl⟩
theorem open_answer {n:Nat} {cs:List Value} {x:DataW H×List MemPlace} (h:DataW.trod enc prog w base spare held n 47 cs=some x):∃ a b c,cs = [.string a,.string b,.int .i64 c]:=by
 obtain ⟨hl,m,hf⟩:=Ig Tryz.underlying47 (hone_of (by kernel_rfl)) (by kernel_rfl) h;have hl':cs.length=3:=hl;obtain ⟨v0,y0,g0,t0⟩:=hf 0 _ rfl;obtain ⟨v1,y1,g1,t1⟩:=hf 1 _ rfl;obtain ⟨v2,y2,g2,t2⟩:=hf 2 _ rfl;obtain ⟨a0,e0,_,_⟩:=DataW.trod_string Tryz.underlying9 t0;obtain ⟨a1,e1,_,_⟩:=DataW.trod_string Tryz.underlying9 t1;obtain ⟨a2,e2,_,_⟩:=DataW.trod_int Tryz.underlying39 t2
 match cs,hl' with
 | [c0,c1,c2],_=>
  simp at g0 g1 g2 e0 e1 e2;subst g0 g1 g2 e0 e1 e2;exact ⟨a0,a1,a2,rfl⟩
theorem open_read {n:Nat} {cs:List Value} {x:DataW H×List MemPlace} (h:DataW.trod enc prog w base spare held n 49 cs=some x):∃ r:Rdd,cs=rdC r:=by
 obtain ⟨xs,m,_,rfl,hlen,hxl,hf⟩:=DataW.trod_struct Tryz.underlying49 h;have hl':cs.length=6:=hlen.trans (by kernel_rfl);have hxl':xs.length=4:=hxl;have k3:prog.cellsOf 3=1:=by kernel_rfl
 have k9:prog.cellsOf 9=1:=by kernel_rfl
 have kA:prog.cellsOf 47=3:=by kernel_rfl
 match cs,hl',xs,hxl' with
 | [c0,c1,c2,c3,c4,c5],_,[y0,y1,y2,y3],_=>
  have g0:=hf 0 _ rfl;have g1:=hf 1 _ rfl;have g2:=hf 2 _ rfl;have g3:=hf 3 _ rfl;simp [k3,k9,kA] at g0 g1 g2 g3;obtain ⟨a0,e0,_,_⟩:=DataW.trod_int Tryz.underlying3 g0;obtain ⟨a1,e1,_,_⟩:=DataW.trod_int Tryz.underlying3 g1;obtain ⟨a2,e2,_,_⟩:=DataW.trod_string Tryz.underlying9 g2;obtain ⟨a3,a4,a5,e3⟩:=open_answer g3;simp at e0 e1 e2 e3;obtain ⟨e3,e4,e5⟩:=e3;subst e0 e1 e2 e3 e4 e5;exact ⟨⟨a0,a1,a2,a3,a4,a5⟩,rfl⟩
theorem E8 {α:Type} {f:α→List Value} {k:Nat} {Q:α→Prop} (hk:∀ x,(f x).length=k) (jV:0<k) {t e:TypeId} {n:Nat} {cs:List Value} {x:DataW H×List MemPlace}
  (ht:prog.underlying t=some (.slice e)) (hc:prog.cellsOf e=k)
  (ho:∀ m cs y,DataW.trod enc prog w base spare held m e cs=some y→∃ r:α,cs=f r∧Q r) (h:DataW.trod enc prog w base spare held n t cs=some x):
  ∃ (A:Option Addr) (n c:Nat) (l:List α),cs = [.slice A n c]∧Sl f k w w.heap.size A n c l∧n≤maxLen∧∀ x∈l,Q x:=by
 rcases open_slice ht h with ⟨rfl,_⟩|⟨a,len,cap,m,n',D,Pl,rfl,_,hl,hm,hmm,_,hx⟩
 ·exact ⟨none,0,0,[],rfl,Sl.nil,by omega,fun x hx=>by simp at hx⟩
 have hlm:len≤m:=by rw [hmm];split<;>omega
 obtain ⟨l,hll,hall⟩:=build_list (P:=fun i r=>(∀ j u,(f r)[j]? =some u→w.cell? (a.add (i*k+j))=some u)∧Q r) len fun i hi=>by
  obtain ⟨cs',h1,h2⟩:=hx i (by omega);obtain ⟨r,rfl,hq⟩:=ho _ _ _ h2;rw [hc] at h1;obtain ⟨_,hlen,aB⟩:=World.cells?_some h1;refine ⟨r,fun j u hu=>?_,hq⟩;have hj:j<k:=by have:=(List.getElem?_eq_some_iff.1 hu).1;rwa [hk] at this
  have:=aB j hj;rw [add_add,hu] at this;exact this
 refine ⟨some a,len,cap,l,rfl,sl_came hk jV hll hl fun i x hi=>(hall i x hi).1,by omega,fun x hx=>?_⟩;obtain ⟨i,hi,rfl⟩:=List.getElem_of_mem hx;exact (hall i _ (List.getElem?_eq_getElem hi)).2
theorem open_unit {n:Nat} {cs:List Value} {x:DataW H×List MemPlace} (h:DataW.trod enc prog w base spare held n 34 cs=some x):∃ r:Com,cs=U7 r∧ComOk w w.heap.size r:=by
 obtain ⟨hl,m,hf⟩:=Ig Tryz.underlying34 (hone_of (by kernel_rfl)) (by kernel_rfl) h;have hl':cs.length=4:=hl;obtain ⟨v0,y0,g0,t0⟩:=hf 0 _ rfl;obtain ⟨v1,y1,g1,t1⟩:=hf 1 _ rfl;obtain ⟨v2,y2,g2,t2⟩:=hf 2 _ rfl;obtain ⟨v3,y3,g3,t3⟩:=hf 3 _ rfl;obtain ⟨a0,e0,_,_⟩:=DataW.trod_int Tryz.underlying3 t0;obtain ⟨a1,e1,_,_⟩:=DataW.trod_int Tryz.underlying3 t1;obtain ⟨A2,n2,c2,l2,e2,s2,m2,_⟩:=E8 (Q:=fun _=>True) rdC_len (by decide) Tryz.underlying31 (by kernel_rfl) (fun m cs y h=>let ⟨r,hr⟩:=open_read h;⟨r,hr,trivial⟩) t2;obtain ⟨A3,n3,c3,l3,e3,s3,m3,_⟩:=E8 (Q:=fun _=>True) chC_len (by decide) Tryz.underlying32 (by kernel_rfl) (fun m cs y h=>let ⟨r,hr⟩:=open_change h;⟨r,hr,trivial⟩) t3
 match cs,hl' with
 | [c0,c1,c2',c3'],_=>
  simp at g0 g1 g2 g3 e0 e1 e2 e3;subst g0 g1 g2 g3 e0 e1 e2 e3;exact ⟨⟨a0,a1,A2,n2,c2,A3,n3,c3,l2,l3⟩,rfl,s2,s3,m2,m3⟩
theorem open_units {r:Reach} {b0:Nat} {v:Value} {d:DataW H} {p:List MemPlace} (hv:Value.okWide prog w r b0 23 v) (h:DataW.Trod enc prog w base spare held 23 v d p):
  ∃ (A:Option Addr) (n c:Nat) (l:List Com),v = .slice A n c∧Cs w w.heap.size A n c l:=by
 obtain ⟨a0,len,cap,rfl⟩:=okWide_slice Tryz.underlying23 hv;obtain ⟨fuel,hf⟩:=h;obtain ⟨A,n,c,l,e,hs,_,hq⟩:=E8 V2 (by decide) Tryz.underlying23 (by kernel_rfl) (fun m cs y h=>open_unit h) hf;simp [Value.cells] at e;obtain ⟨rfl,rfl,rfl⟩:=e;exact ⟨_,_,_,l,rfl,hs,hq⟩
end
end
section
open Go.Joins Go.ChangeShapes Go.WideShapes Go.Deep
section
variable {H:Type} {enc:TypeId×Value→H} {w:Wd} {base:Nat} {spare:Nat→Bool} {held:Bool}
def DOk (d:DSet):Prop:=(Lit.int .i64 d.id).wf=true∧(Lit.int .i64 d.org).wf=true∧(Lit.int .i64 d.fmt).wf=true∧(Lit.int .i64 d.len).wf=true∧(Lit.int .i64 d.blk).wf=true∧(Lit.int .i64 d.kat).wf=true∧(Lit.int .i64 d.kln).wf=true∧(Lit.int .i64 d.itv).wf=true∧(Lit.int .i64 d.area).wf=true∧(Lit.int .i64 d.fi).wf=true∧(Lit.int .i64 d.fa).wf=true∧(Lit.int .i64 d.base).wf=true∧(Lit.int .i64 d.aat).wf=true∧(Lit.int .i64 d.aln).wf=true∧(Lit.int .i64 d.cls).wf=true∧(Lit.int .i64 d.cre).wf=true∧(Lit.int .i64 d.exp).wf=true
theorem open_pair {n:Nat} {cs:List Value} {x:DataW H×List MemPlace} (h:DataW.trod enc prog w base spare held n 76 cs=some x):∃ r:Pr,cs=prC r∧True:=by
 obtain ⟨hl,m,hf⟩:=Ig Tryz.underlying76 (hone_of (by kernel_rfl)) (by kernel_rfl) h;have hl':cs.length=2:=hl;obtain ⟨v0,y0,g0,t0⟩:=hf 0 _ rfl;obtain ⟨v1,y1,g1,t1⟩:=hf 1 _ rfl;obtain ⟨a0,e0,_,_⟩:=DataW.trod_string Tryz.underlying9 t0;obtain ⟨a1,e1,_,_⟩:=DataW.trod_string Tryz.underlying9 t1
 match cs,hl' with
 | [c0,c1],_=>
  simp at g0 g1 e0 e1;subst g0 g1 e0 e1;exact ⟨⟨a0,a1⟩,rfl,trivial⟩
theorem open_dset {n:Nat} {cs:List Value} {x:DataW H×List MemPlace} (h:DataW.trod enc prog w base spare held n 27 cs=some x):∃ r:DSet,cs=dC r∧DOk r:=by
 obtain ⟨hl,m,hf⟩:=Ig Tryz.underlying27 (hone_of (by kernel_rfl)) (by kernel_rfl) h;have hl':cs.length=21:=hl;obtain ⟨v0,y0,g0,t0⟩:=hf 0 _ rfl;obtain ⟨v1,y1,g1,t1⟩:=hf 1 _ rfl;obtain ⟨v2,y2,g2,t2⟩:=hf 2 _ rfl;obtain ⟨v3,y3,g3,t3⟩:=hf 3 _ rfl;obtain ⟨v4,y4,g4,t4⟩:=hf 4 _ rfl;obtain ⟨v5,y5,g5,t5⟩:=hf 5 _ rfl;obtain ⟨v6,y6,g6,t6⟩:=hf 6 _ rfl;obtain ⟨v7,y7,g7,t7⟩:=hf 7 _ rfl;obtain ⟨v8,y8,g8,t8⟩:=hf 8 _ rfl;obtain ⟨v9,y9,g9,t9⟩:=hf 9 _ rfl;obtain ⟨v10,y10,g10,t10⟩:=hf 10 _ rfl;obtain ⟨v11,y11,g11,t11⟩:=hf 11 _ rfl;obtain ⟨v12,y12,g12,t12⟩:=hf 12 _ rfl;obtain ⟨v13,y13,g13,t13⟩:=hf 13 _ rfl;obtain ⟨v14,y14,g14,t14⟩:=hf 14 _ rfl;obtain ⟨v15,y15,g15,t15⟩:=hf 15 _ rfl;obtain ⟨v16,y16,g16,t16⟩:=hf 16 _ rfl;obtain ⟨v17,y17,g17,t17⟩:=hf 17 _ rfl;obtain ⟨v18,y18,g18,t18⟩:=hf 18 _ rfl;obtain ⟨v19,y19,g19,t19⟩:=hf 19 _ rfl;obtain ⟨v20,y20,g20,t20⟩:=hf 20 _ rfl
 obtain ⟨a0,e0,_,w0⟩:=DataW.trod_int Tryz.underlying3 t0;obtain ⟨a1,e1,_,w1⟩:=DataW.trod_int Tryz.underlying3 t1;obtain ⟨a2,e2,_,w2⟩:=DataW.trod_int Tryz.underlying3 t2;obtain ⟨a3,e3,_,w3⟩:=DataW.trod_int Tryz.underlying3 t3;obtain ⟨a4,e4,_,w4⟩:=DataW.trod_int Tryz.underlying3 t4;obtain ⟨a5,e5,_,w5⟩:=DataW.trod_int Tryz.underlying3 t5;obtain ⟨a6,e6,_,w6⟩:=DataW.trod_int Tryz.underlying3 t6;obtain ⟨a7,e7,_,w7⟩:=DataW.trod_int Tryz.underlying3 t7;obtain ⟨a8,e8,_,w8⟩:=DataW.trod_int Tryz.underlying3 t8;obtain ⟨a9,e9,_,w9⟩:=DataW.trod_int Tryz.underlying3 t9;obtain ⟨a10,e10,_,w10⟩:=DataW.trod_int Tryz.underlying3 t10;obtain ⟨a11,e11,_,w11⟩:=DataW.trod_int Tryz.underlying3 t11;obtain ⟨a12,e12,_,w12⟩:=DataW.trod_int Tryz.underlying3 t12;obtain ⟨a13,e13,_,w13⟩:=DataW.trod_int Tryz.underlying3 t13;obtain ⟨a14,e14,_⟩:=DataW.trod_bool Tryz.underlying4 t14
 obtain ⟨a15,e15,_,w15⟩:=DataW.trod_int Tryz.underlying3 t15;obtain ⟨a16,e16,_,w16⟩:=DataW.trod_string Tryz.underlying9 t16;obtain ⟨a17,e17,_,w17⟩:=DataW.trod_string Tryz.underlying9 t17;obtain ⟨a18,e18,_,w18⟩:=DataW.trod_int Tryz.underlying3 t18;obtain ⟨a19,e19,_,w19⟩:=DataW.trod_int Tryz.underlying3 t19;obtain ⟨a20,e20,_⟩:=DataW.trod_bool Tryz.underlying4 t20
 match cs,hl' with
 | [c0,c1,c2,c3,c4,c5,c6,c7,c8,c9,c10,c11,c12,c13,c14,c15,c16,c17,c18,c19,c20],_=>
  simp at g0 g1 g2 g3 g4 g5 g6 g7 g8 g9 g10 g11 g12 g13 g14 g15 g16 g17 g18 g19 g20 e0 e1 e2 e3 e4 e5 e6 e7 e8 e9 e10 e11 e12 e13 e14 e15 e16 e17 e18 e19 e20;subst g0 g1 g2 g3 g4 g5 g6 g7 g8 g9 g10 g11 g12 g13 g14 g15 g16 g17 g18 g19 g20 e0 e1 e2 e3 e4 e5 e6 e7 e8 e9 e10 e11 e12 e13 e14 e15 e16 e17 e18 e19 e20;exact ⟨⟨a0,a1,a2,a3,a4,a5,a6,a7,a8,a9,a10,a11,a12,a13,a14,a15,a16,a17,a18,a19,a20⟩,rfl,w0,w1,w2,w3,w4,w5,w6,w7,w8,w9,w10,w11,w12,w13,w15,w18,w19⟩
def CIn (w:Wd) (x:Cnt):Prop:=Sl prC 2 w w.heap.size x.pA x.pn x.pc x.ps∧x.pn≤maxLen∧(x.pA=none→x.pc=0)∧DOk x.d∧(Lit.int .i64 x.ap).wf=true
theorem open_content {n:Nat} {cs:List Value} {x:DataW H×List MemPlace} (h:DataW.trod enc prog w base spare held n 30 cs=some x):∃ r:Cnt,cs=cnC r∧CIn w r:=by
 obtain ⟨xs,m,_,rfl,hlen,hxl,hf⟩:=DataW.trod_struct Tryz.underlying30 h;have hl':cs.length=23:=hlen.trans (by kernel_rfl);have hxl':xs.length=3:=hxl;have k3:prog.cellsOf 3=1:=by kernel_rfl
 have kD:prog.cellsOf 27=21:=by kernel_rfl
 have kP:prog.cellsOf 28=1:=by kernel_rfl
 match xs,hxl' with
 | [y0,y1,y2],_=>
  have g0:=hf 0 _ rfl;have g1:=hf 1 _ rfl;have g2:=hf 2 _ rfl;obtain ⟨d,e0,hd⟩:=open_dset g0;obtain ⟨a1,e1,_,w1⟩:=DataW.trod_int Tryz.underlying3 g1;obtain ⟨A,n2,c2,l,e2,s2,m2,_⟩:=E8 (Q:=fun _=>True) Hc (by decide) Tryz.underlying28 (by kernel_rfl) (fun m cs y h=>open_pair h) g2
  have hA:A=none→c2=0:=by
   intro hA;subst hA;rcases open_slice Tryz.underlying28 g2 with ⟨h0,_⟩|⟨a,len,cap,m',n',D,Pl,h0,_⟩
   ·rw [e2] at h0;simp at h0;exact h0.2
   ·rw [e2] at h0;simp at h0
  refine ⟨⟨d,a1,A,n2,c2,l⟩,?_,s2,m2,hA,hd,w1⟩
  have hc:cs=(cs.drop 0).take 21++((cs.drop 21).take 1++(cs.drop 22).take 1):=by
   rw [List.drop_zero]
   conv=>lhs;rw [←List.take_append_drop 21 cs]
   congr 1
   conv=>lhs;rw [←List.take_append_drop 1 (cs.drop 21)]
   congr 1;rw [List.drop_drop];exact (List.take_of_length_le (by rw [List.length_drop];omega)).symm
  have f0:(cs.drop 0).take 21=dC d:=by rw [←kD];exact e0
  have f1:(cs.drop 21).take 1 = [.int .i64 a1]:=by rw [←k3];exact e1
  have f2:(cs.drop 22).take 1 = [.slice A n2 c2]:=by rw [←kP];exact e2
  rw [hc,f0,f1,f2];rfl
theorem open_contents {r:Reach} {b0:Nat} {v:Value} {d:DataW H} {p:List MemPlace} (hv:Value.okWide prog w r b0 22 v) (h:DataW.Trod enc prog w base spare held 22 v d p):
  ∃ (A:Option Addr) (n c:Nat) (l:List Cnt),v = .slice A n c∧Sl cnC 23 w w.heap.size A n c l∧∀ x∈l,CIn w x:=by
 obtain ⟨a0,len,cap,rfl⟩:=okWide_slice Tryz.underlying22 hv;obtain ⟨fuel,hf⟩:=h;obtain ⟨A,n,c,l,e,hs,_,hq⟩:=E8 cnC_len (by decide) Tryz.underlying22 (by kernel_rfl) (fun m cs y h=>open_content h) hf;simp [Value.cells] at e;obtain ⟨rfl,rfl,rfl⟩:=e;exact ⟨_,_,_,l,rfl,hs,hq⟩
end
end
end Go.Proofs.YtoakknkmjnebjaaGreatDoor
