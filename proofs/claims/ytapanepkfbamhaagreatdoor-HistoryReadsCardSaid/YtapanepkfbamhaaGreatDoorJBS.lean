/- Part of the proof of HistoryReads. -/
import Derived.Test.YtapanepkfbamhaaGreatDoorJBD
import Derived.Test.YtapanepkfbamhaaGreatDoorJBM
namespace Go.Proofs.YtapanepkfbamhaaGreatDoor
open Tryz (prog)
section
set_option maxRecDepth 100000
set_option maxHeartbeats 2000000
open Go.RowKit
theorem ge_no {k:ByteArray} {x:Pr} (h:Op.bytesLess x.key.toList k.toList=true):geK k x=false:=by
 unfold geK Vl;rw [h];rfl
theorem ge_yes {k:ByteArray} {x:Pr} (h:Op.bytesLess x.key.toList k.toList=false):geK k x=true:=by
 unfold geK Vl;rw [h];rfl
theorem fidx_hit {l:List Pr} {k:ByteArray} {j:Nat} {x:Pr} (ha:∀ t,t<j→∀ e,l[t]? =some e→geK k e=false) (hg:l[j]? =some x) (hx:geK k x=true):l.findIdx (geK k)=j:=Un ha hg hx
theorem rfind_any (k:ByteArray) (A:Option Addr) (n c:Nat) (l:List Pr) (w:World) (hs:Sl prC 2 w w.heap.size A n c l) (hn:n≤1100):
  Calls prog 54 #[.slice A n c,.string k] w fun e w'=>e = .returned (.tuple #[.int .i64 (l.findIdx (geK k)),.bool (Yn l k)])∧Below w.heap.size w w':=by
 have HS:=Hd hs;have HL:=Hd hs.len;obtain ⟨R,hR⟩:∃ R:Nat,l.findIdx (geK k)=R:=⟨_,rfl⟩
 obtain ⟨Z,hZ⟩:∃ Z,Yn l k=Z:=⟨_,rfl⟩
 rw [hR,hZ];have HR:=Hd hR;have HZ:=Hd hZ;clear hR hs hZ;go_enter Tryz.func54,Tryz.ntmps54;go_wp2;go_loopw [6] (fun i wr => ∃ j:Nat,j≤n∧i = .int .i64 j∧(∀ t,t<j→∀ e,l[t]? =some e→geK k e=false)∧Below w.heap.size w wr) (fun i _=>n-(intOf i).toNat)
 case atStart=>exact ⟨0,Z0 _,rfl,fun t h=>absurd h (by omega),Bf _ _⟩
 case round=>
  obtain ⟨j,hj,rfl,hall,hbel⟩:=hrel;have HA:=Hd hall;have HB:=Hd hbel;clear hall;by_cases hlt:j<n
  ·obtain ⟨b,o,x,rfl,hb,hg,hcell⟩:=Sl.cell (f:=prC) (k:=2) (fun _=>rfl) (HS.out.below hbel) hlt
   have c0:=hcell 0 _ rfl;simp only [Nat.add_zero] at c0;have HG:=Hd hg;have d1:decide ((j:Int)<(n:Int))=true:=by simp;omega
   have d2:decide (j<n)=true:=by simp;omega
   have HLT:=Hd hlt;clear hg hcell hbel hb;cases hq:Op.bytesLess x.key.toList k.toList with
   |true=>
    have HG1:=Hd (ge_no hq);go_wp2;go_roundw
    case rel=>exact ⟨j+1,by have:=HLT.out;omega,by go_num,fun t ht e he=>by
     by_cases h:t=j
     ·subst h;rw [HG.out] at he;injection he with he;subst he;exact HG1.out
     ·exact HA.out t (by omega) e he,HB.out⟩
    case measure=>simp [intOf];have:=HLT.out;omega
   |false=>
    have h1:R=j:=by rw [←HR.out];exact fidx_hit HA.out HG.out (ge_yes hq)
    have HZ2:Hid (Z=(x.key.toList == k.toList)):=Hd (by rw [←HZ.out];refine hasK_at ?_;rw [HR.out,h1];exact HG.out);obtain ⟨z,hz⟩:∃ z,(x.key.toList == k.toList)=z:=⟨_,rfl⟩
    rw [hz] at HZ2;have H1:=Hd h1;clear h1 hj;go_wp2
    go_quiet (fail)
    go_wp2
    go_ret2
    rw [H1.out,HZ2.out];exact ⟨rfl,Ud HB.out _⟩
  ·obtain rfl:j=n:=by omega
   have h1:R=j:=by rw [←HR.out];rw [Up HL.out HA.out]
   have HZ2:Hid (Z=false):=Hd (by rw [←HZ.out];refine G6 ?_;rw [HR.out,h1];exact List.getElem?_eq_none (by rw [HL.out];exact Le _));have H1:=Hd h1;clear h1 hbel hj;go_wp2
   go_quiet (fail)
   go_wp2
   go_ret2
   rw [H1.out,HZ2.out];exact ⟨rfl,Ud HB.out _⟩
theorem psOf_at {l:List Cnt} {id:Int} {j:Nat} {x:Cnt} (ha:∀ t,t<j→∀ e,l[t]? =some e→Vp id e=false) (hg:l[j]? =some x) (hx:Vp id x=true):Y4 (l.map plC) id=x.ps:=by
 refine ps_some ?_;unfold Y5;rw [List.find?_eq_getElem?_findIdx];have:=Un ha hg hx;rw [this];exact hg
theorem psOf_none {l:List Cnt} {id:Int} {n:Nat} (hl:l.length=n) (ha:∀ t,t<n→∀ e,l[t]? =some e→Vp id e=false):Y4 (l.map plC) id = []:=by
 refine ps_none ?_;unfold Y5;rw [List.find?_eq_none];intro x hx;obtain ⟨t,ht⟩:=List.getElem?_of_mem hx;have hlt:=(List.getElem?_eq_some_iff.1 ht).1;rw [ha t (by omega) x ht];simp
theorem hasK_some {ps:List Pr} {k:ByteArray} (h:Yn ps k=true):∃ q,ps[ps.findIdx (geK k)]? =some q:=by
 unfold Yn at h;cases hq:ps[ps.findIdx (geK k)]? with
 |some q=>exact ⟨q,rfl⟩
 |none=>rw [hq] at h;cases h
theorem cont_at {A:Option Addr} {n c j:Nat} {l:List Cnt} {w:World} (hs:Sl cnC 23 w w.heap.size A n c l) (hlt:j<n):∃ b o x,A=some ⟨b,o,none⟩∧b<w.heap.size∧l[j]? =some x∧w.cell? ⟨b,o+j*23,none⟩=some (.int .i64 x.d.id)∧w.cell? ⟨b,o+j*23+22,none⟩=some (.slice x.pA x.pn x.pc):=by
 obtain ⟨b,o,x,hA,hb,hg,hcell⟩:=Sl.cell (f:=cnC) (k:=23) (fun _=>rfl) hs hlt;have c0:=hcell 0 _ rfl;simp only [Nat.add_zero] at c0;exact ⟨b,o,x,hA,hb,hg,c0,hcell 22 _ rfl⟩
theorem rget_any (id:Int) (k:ByteArray) (A:Option Addr) (n c:Nat) (l:List Cnt) (w:World) (hs:Sl cnC 23 w w.heap.size A n c l) (hp:∀ x∈l,CW w x) (hn:n≤1000):
  Calls prog 30 #[.slice A n c,.int .i64 id,.string k] w (GivesGet (Eb (Y4 (l.map plC) id) k) w):=by
 have HS:=Hd hs;have HL:=Hd hs.len;have HP:=Hd hp;obtain ⟨V,hV⟩:∃ V,Eb (Y4 (l.map plC) id) k=V:=⟨_,rfl⟩
 rw [hV];have HV:=Hd hV;clear hs hp hV;go_enter Tryz.func30,Tryz.ntmps30;go_wp2;go_loopw [8] (fun i wr => ∃ j:Nat,j≤n∧i = .int .i64 j∧(∀ t,t<j→∀ e,l[t]? =some e→Vp id e=false)∧wr=w) (fun i _=>n-(intOf i).toNat)
 case atStart=>exact ⟨0,Z0 _,rfl,fun t h=>absurd h (by omega),rfl⟩
 case round=>
  obtain ⟨j,hj,rfl,hall,rfl⟩:=hrel;have HA:=Hd hall;clear hall;by_cases hlt:j<n
  ·obtain ⟨b,o,x,rfl,hb,hg,c0,c22⟩:=cont_at HS.out hlt
   have HG:=Hd hg;have hcw:=HP.out x (List.mem_of_getElem? hg);have HCW:=Hd hcw;have HF:=Hd (rfind_any k x.pA x.pn x.pc x.ps wr hcw.sl (by have:=hcw.le;omega));have HBL:=Hd hb;have HLT:=Hd hlt;clear hg hcw hb;by_cases hid:x.d.id=id
   ·have h1:Vp id x=true:=by simp [Vp,hid]
    have HV2:Hid (Eb x.ps k=V):=Hd (by rw [←HV.out,psOf_at HA.out HG.out h1]);subst hid;clear h1;cases hk:Yn x.ps k with
    |false=>
     rw [hk] at HF;have HV3:Hid (V=(⟨#[]⟩,6)):=Hd (by rw [←HV2.out];unfold Eb;rw [hk];rfl);clear hk;go_wp2_with (go_at_call 54;refine HF.out.mono ?_;rintro e w2 ⟨rfl,hb2⟩;have HB2:=Hd hb2;clear hb2)
     go_ret2
     rw [HV3.out];exact ⟨rfl,HB2.out⟩
    |true=>
     rw [hk] at HF;obtain ⟨q,hq⟩:=hasK_some hk;have HV3:Hid (V=(q.rcd,0)):=Hd (by rw [←HV2.out];unfold Eb;rw [hk,hq];rfl);obtain ⟨i,hi⟩:∃ i,x.ps.findIdx (geK k)=i:=⟨_,rfl⟩
     rw [hi] at hq HF;have hil:i<x.pn:=by rw [←HCW.out.sl.len];exact (List.getElem?_eq_some_iff.1 hq).1
     have HX:Hid (∀ w2,Below wr.heap.size wr w2→∃ b' o',x.pA=some ⟨b',o',none⟩∧w2.cell? ⟨b,o+j*23+22,none⟩=some (.slice x.pA x.pn x.pc)∧w2.cell? ⟨b',o'+i*2+1,none⟩=some (.string q.rcd)):=Hd fun w2 h2=>by
      obtain ⟨b',o',q',hA',hb',hg',hc'⟩:=Sl.cell (f:=prC) (k:=2) (fun _=>rfl) HCW.out.sl hil;rw [hq] at hg';injection hg' with hg'
      subst hg';exact ⟨b',o',hA',(h2.cell (p:=⟨b,o+j*23+22,none⟩) HBL.out).trans c22,(h2.cell (p:=⟨b',o'+i*2+1,none⟩) hb').trans (hc' 1 _ rfl)⟩
     have e1:decide ((0:Int)≤(i:Int))=true:=by simp
     clear hk hi hq;go_wp2_with (go_at_call 54;refine HF.out.mono ?_;rintro e w2 ⟨rfl,hb2⟩;obtain ⟨b',o',hA',k1,k2⟩:=HX.out w2 hb2;rw [hA'] at k1;have HB2:=Hd hb2;clear hb2 c0 c22 hA')
     go_ret2
     rw [HV3.out];exact ⟨rfl,HB2.out⟩
   ·have h1:Vp id x=false:=by simp [Vp,hid]
    have HI1:=Hd h1;have hb1:(x.d.id == id)=false:=by simpa using hid
    clear h1 hid;go_wp2;go_roundw
    case rel=>exact ⟨j+1,by have:=HLT.out;omega,by go_num,fun t ht e he=>by
     by_cases h:t=j
     ·subst h;rw [HG.out] at he;injection he with he;subst he;exact HI1.out
     ·exact HA.out t (by omega) e he,trivial⟩
    case measure=>simp [intOf];have:=HLT.out;omega
  ·obtain rfl:j=n:=by omega
   have HV3:Hid (V=(⟨#[]⟩,6)):=Hd (by rw [←HV.out,psOf_none HL.out HA.out];rfl);go_wp2
   go_ret2
   rw [HV3.out];exact ⟨rfl,Bf _ _⟩
end
section
set_option maxRecDepth 100000
set_option maxHeartbeats 4000000
open Go.RowKit
theorem rnext_any (id:Int) (k:ByteArray) (A:Option Addr) (n c:Nat) (l:List Cnt) (w:World) (hs:Sl cnC 23 w w.heap.size A n c l) (hp:∀ x∈l,CW w x) (hn:n≤1000):
  Calls prog 31 #[.slice A n c,.int .i64 id,.string k] w (Fc (Yq (Y4 (l.map plC) id) k) w):=by
 have HS:=Hd hs;have HL:=Hd hs.len;have HP:=Hd hp;obtain ⟨V,hV⟩:∃ V,Yq (Y4 (l.map plC) id) k=V:=⟨_,rfl⟩
 rw [hV];have HV:=Hd hV;clear hs hp hV;go_enter Tryz.func31,Tryz.ntmps31;go_wp2;go_loopw [9] (fun i wr => ∃ j:Nat,j≤n∧i = .int .i64 j∧(∀ t,t<j→∀ e,l[t]? =some e→Vp id e=false)∧wr=w) (fun i _=>n-(intOf i).toNat)
 case atStart=>exact ⟨0,Z0 _,rfl,fun t h=>absurd h (by omega),rfl⟩
 case round=>
  obtain ⟨j,hj,rfl,hall,rfl⟩:=hrel;have HA:=Hd hall;clear hall;by_cases hlt:j<n
  ·obtain ⟨b,o,x,rfl,hb,hg,c0,c22⟩:=cont_at HS.out hlt
   have HG:=Hd hg;have hcw:=HP.out x (List.mem_of_getElem? hg);have HCW:=Hd hcw;have HF:=Hd (rfind_any k x.pA x.pn x.pc x.ps wr hcw.sl (by have:=hcw.le;omega));have HBL:=Hd hb;have HLT:=Hd hlt;clear hg hcw hb;by_cases hid:x.d.id=id
   ·have h1:Vp id x=true:=by simp [Vp,hid]
    have HV2:Hid (Yq x.ps k=V):=Hd (by rw [←HV.out,psOf_at HA.out HG.out h1]);subst hid;clear h1;have hpl:=HCW.out.le;have hps:=HCW.out.sl.len;have hfl:x.ps.findIdx (geK k)≤x.pn:=by rw [←hps];exact List.findIdx_le_length
    obtain ⟨i,hi⟩:∃ i,nxI x.ps k=i:=⟨_,rfl⟩
    obtain ⟨f,hf⟩:∃ f,x.ps.findIdx (geK k)=f:=⟨_,rfl⟩
    have hV4:V=(match x.ps[i]? with|some p=>(p.key,p.rcd,0)|none=>(⟨#[]⟩,⟨#[]⟩,6)):=by rw [←HV2.out,←hi];rfl
    have HV4:=Hd hV4;have HFI:Hid (i=if Yn x.ps k=true then f+1 else f):=Hd (by rw [←hi,←hf];rfl);rw [hf] at HF hfl;have HX:Hid (∀ w2,Below wr.heap.size wr w2→w2.cell? ⟨b,o+j*23+22,none⟩=some (.slice x.pA x.pn x.pc)):=Hd fun w2 h2=>(h2.cell (p:=⟨b,o+j*23+22,none⟩) HBL.out).trans c22
    have HX2:Hid (∀ q,x.ps[i]? =some q→∃ b' o',x.pA=some ⟨b',o',none⟩∧∀ w2,Below wr.heap.size wr w2→w2.cell? ⟨b',o'+i*2,none⟩=some (.string q.key)∧w2.cell? ⟨b',o'+i*2+1,none⟩=some (.string q.rcd)):=Hd fun q hq=>by
     have hil:i<x.pn:=by rw [←hps];exact (List.getElem?_eq_some_iff.1 hq).1
     obtain ⟨b',o',q',hA',hb',hg',hc'⟩:=Sl.cell (f:=prC) (k:=2) (fun _=>rfl) HCW.out.sl hil;rw [hq] at hg';injection hg' with hg'
     subst hg';have k0:=hc' 0 _ rfl;simp only [Nat.add_zero] at k0;exact ⟨b',o',hA',fun w2 h2=>⟨(h2.cell (p:=⟨b',o'+i*2,none⟩) hb').trans k0,(h2.cell (p:=⟨b',o'+i*2+1,none⟩) hb').trans (hc' 1 _ rfl)⟩⟩
    clear hi hf hV4;cases hq:x.ps[i]? with
    |none=>
     have hil:x.pn≤i:=by rw [←hps];exact List.getElem?_eq_none_iff.1 hq
     have HV3:Hid (V=(⟨#[]⟩,⟨#[]⟩,6)):=Hd (by rw [HV4.out,hq]);have d1:decide ((i:Int)<(x.pn:Int))=false:=by simp;omega
     have d2:decide ((x.pn:Int)≤(i:Int))=true:=by simp;omega
     have d3:decide (i<x.pn)=false:=by simp;omega
     have d4:decide (x.pn≤i)=true:=by simp;omega
     have HPS:=Hd hps;have hii:=HFI.out;clear hps hq;cases hk:Yn x.ps k with
     |true=>
      rw [hk,if_pos rfl] at hii;rw [hk] at HF;have hw:IntKind.i64.wrap ((f:Int)+1)=(i:Int):=by rw [hii];exact IntWalk.i64_in _ (by omega)
      clear hk hii;go_wp2_with (go_at_call 54;refine HF.out.mono ?_;rintro e w2 ⟨rfl,hb2⟩;have k1:=HX.out w2 hb2;have HB2:=Hd hb2;clear hb2 c0 c22)
      go_ret3
      rw [HV3.out];exact ⟨rfl,HB2.out⟩
     |false=>
      rw [hk,if_neg (by simp)] at hii;rw [hk] at HF;subst hii;clear hk;go_wp2_with (go_at_call 54;refine HF.out.mono ?_;rintro e w2 ⟨rfl,hb2⟩;have k1:=HX.out w2 hb2;have HB2:=Hd hb2;clear hb2 c0 c22)
      go_ret3
      rw [HV3.out];exact ⟨rfl,HB2.out⟩
    |some q=>
     have hil:i<x.pn:=by rw [←hps];exact (List.getElem?_eq_some_iff.1 hq).1
     have HV3:Hid (V=(q.key,q.rcd,0)):=Hd (by rw [HV4.out,hq]);obtain ⟨b',o',hA',HC'⟩:=HX2.out q hq;have HCC:=Hd HC';clear HC';rw [hA'] at HX;clear hA';have d1:decide ((i:Int)<(x.pn:Int))=true:=by simp;omega
     have b0:(0:Int)≤(i:Int):=by omega
     have b1:(i:Int)<(x.pn:Int):=by omega
     have b2:(0:Int)≤(j:Int):=by omega
     have b3:(j:Int)<(n:Int):=by have:=HLT.out;omega
     have d2:decide ((x.pn:Int)≤(i:Int))=false:=by simp;omega
     have d3:decide (i<x.pn)=true:=by simp;omega
     have d4:decide (x.pn≤i)=false:=by simp;omega
     have HPS:=Hd hps;have HIL:=Hd hil;have hii:=HFI.out;clear hps hq;cases hk:Yn x.ps k with
     |true=>
      rw [hk,if_pos rfl] at hii;rw [hk] at HF;have hw:IntKind.i64.wrap ((f:Int)+1)=(i:Int):=by rw [hii];exact IntWalk.i64_in _ (by omega)
      clear hk hii;go_wp2_with (go_at_call 54;refine HF.out.mono ?_;rintro e w2 ⟨rfl,hb2⟩;have k1:=HX.out w2 hb2;obtain ⟨k2,k3⟩:=HCC.out w2 hb2;have HB2:=Hd hb2;clear hb2 c0 c22);refine Rw (S:=fun w'=>w'.cell? ⟨b,o+j*23+22,none⟩=some (.slice (some ⟨b',o',none⟩) x.pn x.pc)∧w'.cell? ⟨b',o'+i*2,none⟩=some (.string q.key)∧w'.cell? ⟨b',o'+i*2+1,none⟩=some (.string q.rcd)) (by kernel_rfl) ⟨k1,k2,k3⟩ (fun Hh=>?_);refine tk 0 (.slice (some ⟨b,o,none⟩) n c) Hh ?_;refine tk 1 (.int .i64 j) Hh ?_;refine tk 2 (.pointer (some ⟨b,o+j*23,none⟩)) Hh ?_;refine tk 3 (.pointer (some ⟨b,o+j*23+22,none⟩)) Hh ?_;refine tk 4 (.slice (some ⟨b',o',none⟩) x.pn x.pc) Hh ?_ (y:=by exact Or.inl ⟨by rfl,by intro w' hSw;have h1:=hSw.1;go_simp⟩);refine tk 5 (.int .i64 i) Hh ?_;refine tk 6 (.pointer (some ⟨b',o'+i*2,none⟩)) Hh ?_
      refine tk 7 (.pointer (some ⟨b',o'+i*2,none⟩)) Hh ?_;refine tk 8 (.string q.key) Hh ?_ (y:=by exact Or.inl ⟨by rfl,by intro w' hSw;have h1:=hSw.2.1;go_simp⟩);refine tk 9 (.slice (some ⟨b,o,none⟩) n c) Hh ?_;refine tk 10 (.int .i64 j) Hh ?_;refine tk 11 (.pointer (some ⟨b,o+j*23,none⟩)) Hh ?_;refine tk 12 (.pointer (some ⟨b,o+j*23+22,none⟩)) Hh ?_;refine tk 13 (.slice (some ⟨b',o',none⟩) x.pn x.pc) Hh ?_ (y:=by exact Or.inl ⟨by rfl,by intro w' hSw;have h1:=hSw.1;go_simp⟩);refine tk 14 (.int .i64 i) Hh ?_;refine tk 15 (.pointer (some ⟨b',o'+i*2,none⟩)) Hh ?_;refine tk 16 (.pointer (some ⟨b',o'+i*2+1,none⟩)) Hh ?_;refine tk 17 (.string q.rcd) Hh ?_ (y:=by exact Or.inl ⟨by rfl,by intro w' hSw;have h1:=hSw.2.2;go_simp⟩);refine tk 18 (.string q.key) Hh ?_;refine tk 19 (.string q.rcd) Hh ?_;refine tk 20 (.int .i64 0) Hh ?_
      refine Ad (by kernel_rfl) ?_ _;clear Hh;go_wp2
      go_ret3
      rw [HV3.out];exact ⟨rfl,HB2.out.drew⟩
     |false=>
      rw [hk,if_neg (by simp)] at hii;rw [hk] at HF;subst hii;clear hk;go_wp2_with (go_at_call 54;refine HF.out.mono ?_;rintro e w2 ⟨rfl,hb2⟩;have k1:=HX.out w2 hb2;obtain ⟨k2,k3⟩:=HCC.out w2 hb2;have HB2:=Hd hb2;clear hb2 c0 c22);refine Rw (S:=fun w'=>w'.cell? ⟨b,o+j*23+22,none⟩=some (.slice (some ⟨b',o',none⟩) x.pn x.pc)∧w'.cell? ⟨b',o'+i*2,none⟩=some (.string q.key)∧w'.cell? ⟨b',o'+i*2+1,none⟩=some (.string q.rcd)) (by kernel_rfl) ⟨k1,k2,k3⟩ (fun Hh=>?_);refine tk 0 (.slice (some ⟨b,o,none⟩) n c) Hh ?_;refine tk 1 (.int .i64 j) Hh ?_;refine tk 2 (.pointer (some ⟨b,o+j*23,none⟩)) Hh ?_;refine tk 3 (.pointer (some ⟨b,o+j*23+22,none⟩)) Hh ?_;refine tk 4 (.slice (some ⟨b',o',none⟩) x.pn x.pc) Hh ?_ (y:=by exact Or.inl ⟨by rfl,by intro w' hSw;have h1:=hSw.1;go_simp⟩);refine tk 5 (.int .i64 i) Hh ?_
      refine tk 6 (.pointer (some ⟨b',o'+i*2,none⟩)) Hh ?_;refine tk 7 (.pointer (some ⟨b',o'+i*2,none⟩)) Hh ?_;refine tk 8 (.string q.key) Hh ?_ (y:=by exact Or.inl ⟨by rfl,by intro w' hSw;have h1:=hSw.2.1;go_simp⟩);refine tk 9 (.slice (some ⟨b,o,none⟩) n c) Hh ?_;refine tk 10 (.int .i64 j) Hh ?_;refine tk 11 (.pointer (some ⟨b,o+j*23,none⟩)) Hh ?_;refine tk 12 (.pointer (some ⟨b,o+j*23+22,none⟩)) Hh ?_;refine tk 13 (.slice (some ⟨b',o',none⟩) x.pn x.pc) Hh ?_ (y:=by exact Or.inl ⟨by rfl,by intro w' hSw;have h1:=hSw.1;go_simp⟩);refine tk 14 (.int .i64 i) Hh ?_;refine tk 15 (.pointer (some ⟨b',o'+i*2,none⟩)) Hh ?_;refine tk 16 (.pointer (some ⟨b',o'+i*2+1,none⟩)) Hh ?_;refine tk 17 (.string q.rcd) Hh ?_ (y:=by exact Or.inl ⟨by rfl,by intro w' hSw;have h1:=hSw.2.2;go_simp⟩);refine tk 18 (.string q.key) Hh ?_;refine tk 19 (.string q.rcd) Hh ?_
      refine tk 20 (.int .i64 0) Hh ?_;refine Ad (by kernel_rfl) ?_ _;clear Hh;go_wp2
      go_ret3
      rw [HV3.out];exact ⟨rfl,HB2.out.drew⟩
   ·have h1:Vp id x=false:=by simp [Vp,hid]
    have HI1:=Hd h1;have hb1:(x.d.id == id)=false:=by simpa using hid
    clear h1 hid;go_wp2;go_roundw
    case rel=>exact ⟨j+1,by have:=HLT.out;omega,by go_num,fun t ht e he=>by
     by_cases h:t=j
     ·subst h;rw [HG.out] at he;injection he with he;subst he;exact HI1.out
     ·exact HA.out t (by omega) e he,trivial⟩
    case measure=>simp [intOf];have:=HLT.out;omega
  ·obtain rfl:j=n:=by omega
   have HV3:Hid (V=(⟨#[]⟩,⟨#[]⟩,6)):=Hd (by rw [←HV.out,psOf_none HL.out HA.out];rfl);go_wp2
   go_ret3
   rw [HV3.out];exact ⟨rfl,Bf _ _⟩
end
section
set_option maxRecDepth 100000
set_option maxHeartbeats 2000000
open Go.RowKit
theorem Er (r:Rdd) (A:Option Addr) (n c:Nat) (l:List Cnt) (w:World) (hs:Sl cnC 23 w w.heap.size A n c l) (hp:∀ x∈l,CW w x) (hn:n≤1000):
  Calls prog 13 #[.slice A n c,.agg (rdC r).toArray] w fun e w'=>e = .returned (.bool (rexB (Y4 (l.map plC) r.id) r))∧Below w.heap.size w w':=by
 have hb1:Below w.heap.size w (w.alloc (.cells (rdC r).toArray 49)):=(Bf _ _).alloc (Le _) _;have HB1:=Hd hb1;have HS:=Hd (hs.after hb1 hb1.size);have HP:=Hd fun x hx=>(hp x hx).below hb1
 have HBK:=Hd (Blk.new w 49 (rdC r).toArray);have c0:(w.alloc (.cells (rdC r).toArray 49)).cell? ⟨w.heap.size,0,none⟩=some (.int .i64 r.kind):=((Blk.new w _ _).cell 0).trans rfl;have c1:(w.alloc (.cells (rdC r).toArray 49)).cell? ⟨w.heap.size,1,none⟩=some (.int .i64 r.id):=((Blk.new w _ _).cell 1).trans rfl;have c2:(w.alloc (.cells (rdC r).toArray 49)).cell? ⟨w.heap.size,2,none⟩=some (.string r.key):=((Blk.new w _ _).cell 2).trans rfl;obtain ⟨ps,hps⟩:∃ ps,Y4 (l.map plC) r.id=ps:=⟨_,rfl⟩
 rw [hps];have HPS:=Hd hps;clear hs hp hb1 hps;by_cases hk:r.kind=0
 ·have b0:(r.kind == 0)=true:=by simpa using hk
  obtain ⟨v,hv⟩:∃ v,Eb ps r.key=v:=⟨_,rfl⟩
  obtain ⟨v1,v2⟩:=v;have hg:=rget_any r.id r.key A n c l _ HS.out HP.out hn;rw [HPS.out,hv] at hg;have HG:=Hd hg;have HREX:Hid (rexB ps r=if v2=0 then decide ((r.ak,r.ar,r.code)=(r.key,v1,(0:Int))) else decide (r.code=6)):=Hd (by unfold rexB;rw [if_pos hk,hv]);clear hk hv hg;by_cases hz:v2=0
  ·subst hz
   obtain ⟨z,hz1,hz2⟩:=Zm (r.ak,r.ar,r.code) (r.key,v1,0);simp only at hz2;have HZ1:Hid (rexB ps r=z):=Hd (by rw [HREX.out,if_pos rfl];exact hz1);clear hz1;go_enter Tryz.func13,Tryz.ntmps13;go_wp2_with (first|(go_at_call 30;refine HG.out.mono ?_;rintro e w2 ⟨rfl,hb2⟩;have HB2:=Hd (HB1.out.trans (hb2.mono HB1.out.size));have HBK2:=Hd (HBK.out.below hb2 HBK.out.lt);clear hb2 c0 c1 c2)|((with_reducible refine Gl 47 38 ?_);refine Lm rfl 47 _ rfl w.heap.size 3 rfl _ _ (Zf HBK2.out) Tryz.underlying47 rfl (by kernel_rfl) ?_)|((with_reducible refine Gb 47 ?_);refine U2 (by kernel_rfl) 47 _ rfl (#[.string r.key,.string v1,.int .i64 0]) (by kernel_rfl) ?_));go_ret;exact ⟨by rw [HZ1.out];rfl,HB2.out⟩
  ·have b2:(v2 != 0)=true:=by simpa using hz
   have HZ1:Hid (rexB ps r=(r.code == 6)):=Hd (by rw [HREX.out,if_neg hz];rfl);obtain ⟨z,hzz⟩:∃ z,(r.code == 6)=z:=⟨_,rfl⟩
   have HZZ:=Hd hzz;clear hz;go_enter Tryz.func13,Tryz.ntmps13;go_wp2_with (go_at_call 30;refine HG.out.mono ?_;rintro e w2 ⟨rfl,hb2⟩;have HB2:=Hd (HB1.out.trans (hb2.mono HB1.out.size));have c5:=((HBK.out.below hb2 HBK.out.lt).cell 5).trans (show _=some (Value.int .i64 r.code) from rfl);clear hb2 c0 c1 c2);go_ret;exact ⟨by rw [HZ1.out,HZZ.out];rfl,HB2.out⟩
 ·have b0:(r.kind == 0)=false:=by simpa using hk
  obtain ⟨v,hv⟩:∃ v,Yq ps r.key=v:=⟨_,rfl⟩
  obtain ⟨v0,v1,v2⟩:=v;have hg:=rnext_any r.id r.key A n c l _ HS.out HP.out hn;rw [HPS.out,hv] at hg;have HG:=Hd hg;have HREX:Hid (rexB ps r=if v2=0 then decide ((r.ak,r.ar,r.code)=(v0,v1,(0:Int))) else decide (r.code=6)):=Hd (by unfold rexB;rw [if_neg hk,hv]);clear hk hv hg;by_cases hz:v2=0
  ·subst hz
   obtain ⟨z,hz1,hz2⟩:=Zm (r.ak,r.ar,r.code) (v0,v1,0);simp only at hz2;have HZ1:Hid (rexB ps r=z):=Hd (by rw [HREX.out,if_pos rfl];exact hz1);clear hz1;go_enter Tryz.func13,Tryz.ntmps13;go_wp2_with (first|(go_at_call 31;refine HG.out.mono ?_;rintro e w2 ⟨rfl,hb2⟩;have HB2:=Hd (HB1.out.trans (hb2.mono HB1.out.size));have HBK2:=Hd (HBK.out.below hb2 HBK.out.lt);clear hb2 c0 c1 c2)|((with_reducible refine Gl 47 38 ?_);refine Lm rfl 47 _ rfl w.heap.size 3 rfl _ _ (Zf HBK2.out) Tryz.underlying47 rfl (by kernel_rfl) ?_)|((with_reducible refine Gb 47 ?_);refine U2 (by kernel_rfl) 47 _ rfl (#[.string v0,.string v1,.int .i64 0]) (by kernel_rfl) ?_));go_ret;exact ⟨by rw [HZ1.out];rfl,HB2.out⟩
  ·have b2:(v2 != 0)=true:=by simpa using hz
   have HZ1:Hid (rexB ps r=(r.code == 6)):=Hd (by rw [HREX.out,if_neg hz];rfl);obtain ⟨z,hzz⟩:∃ z,(r.code == 6)=z:=⟨_,rfl⟩
   have HZZ:=Hd hzz;clear hz;go_enter Tryz.func13,Tryz.ntmps13;go_wp2_with (go_at_call 31;refine HG.out.mono ?_;rintro e w2 ⟨rfl,hb2⟩;have HB2:=Hd (HB1.out.trans (hb2.mono HB1.out.size));have c5:=((HBK.out.below hb2 HBK.out.lt).cell 5).trans (show _=some (Value.int .i64 r.code) from rfl);clear hb2 c0 c1 c2);go_ret;exact ⟨by rw [HZ1.out,HZZ.out];rfl,HB2.out⟩
end
section
set_option maxRecDepth 100000
set_option maxHeartbeats 1000000
open Go.RowKit
theorem Vg {α:Type} {p:α→Bool} {l:List α} {j:Nat} {e:α} (h:l[j]? =some e) (hp:p e=false):(l.any fun x => !p x)=true:=by
 rw [List.any_eq_true];exact ⟨e,List.mem_of_getElem? h,by rw [hp];rfl⟩
theorem E3 {α:Type} {p:α→Bool} {l:List α} {n:Nat} (hl:l.length=n) (h:∀ t,t<n→∀ e,l[t]? =some e→p e=true):(l.any fun x => !p x)=false:=by
 rw [List.any_eq_false];intro x hx;obtain ⟨t,ht,rfl⟩:=List.getElem_of_mem hx;rw [h t (by omega) _ (List.getElem?_eq_getElem ht)];simp
theorem Ih {α:Type} {p:α→Bool} {l:List α} {j:Nat} {e:α} (h:∀ t,t<j→∀ e,l[t]? =some e→p e=true) (hg:l[j]? =some e) (hp:p e=true):∀ t,t<j+1→∀ e,l[t]? =some e→p e=true:=by
 intro t ht e' he;by_cases hj:t=j
 ·subst hj;rw [hg] at he;injection he with he;subst he;exact hp
 ·exact h t (by omega) e' he
def Fv (c:Chg):Bool:=decide (c.key.size≤50)&&decide (c.rcd.size≤1200)&&decide (c.vol.size≤20)
def Fu (r:Rdd):Bool:=decide (r.key.size≤60)&&decide (r.ak.size≤60)&&decide (r.ar.size≤300)
def few47 (n:Nat) (l:List Chg):Bool:=decide (n≤8)&&!(l.any fun x => !Fv x)
def I6 (x:Com):Bool:=few47 x.cn x.cs&&decide (x.rn≤8)&&!(x.rs.any fun r => !Fu r)
theorem few47_any (A:Option Addr) (n c:Nat) (l:List Chg) (w:World) (hs:Sl chC 5 w w.heap.size A n c l):
  Calls prog 15 #[.agg #[.int .i64 0,.int .i64 0,.slice A n c],.int .i64 8] w fun e w'=>e = .returned (.bool (few47 n l))∧Below w.heap.size w w':=by
 obtain ⟨R,hR⟩:∃ R,few47 n l=R:=⟨_,rfl⟩
 rw [hR];have B0:=Hd (Vq w #[.int .i64 0,.int .i64 0,.slice A n c] 56);have HS:=Hd hs;have HL:=Hd hs.len;by_cases h8:n≤8;rotate_left
 ·have hr:R=false:=by rw [←hR];unfold few47;rw [decide_eq_false h8];rfl
  have HR:=Hd hr;have d1:decide ((8:Int)<(n:Int))=true:=by simp;omega
  have d2:decide (8<n)=true:=by simp;omega
  clear hR hr hs;go_enter Tryz.func15,Tryz.ntmps15;go_wp2;go_ret;exact ⟨by rw [HR.out];rfl,Uc B0.out⟩
 have d1:decide ((8:Int)<(n:Int))=false:=by simp;omega
 have d2:decide (8<n)=false:=by simp;omega
 have hR2:R = !(l.any fun x => !Fv x):=by rw [←hR];unfold few47;rw [decide_eq_true h8];rfl
 have HR:=Hd hR2;clear hR hR2 hs;go_enter Tryz.func15,Tryz.ntmps15;go_wp2;go_loopw [5] (fun i wr => ∃ j:Nat,j≤n∧i = .int .i64 j∧(∀ t,t<j→∀ e,l[t]? =some e→Fv e=true)∧Below (w.heap.size+1) (w.alloc (.cells #[.int .i64 0,.int .i64 0,.slice A n c] 56)) wr) (fun i _=>n-(intOf i).toNat)
 case atStart=>exact ⟨0,Z0 _,rfl,fun t h=>absurd h (by omega),Bf _ _⟩
 case round=>
  obtain ⟨j,hj,rfl,hall,hbel⟩:=hrel;have HA:=Hd hall;have HB:=Hd hbel;have hf:=Zc hbel 2;simp at hf;have hsz:=Vf hbel;have hlt0:w.heap.size<wr.heap.size:=by omega
  clear hall hbel;by_cases hlt:j<n
  ·obtain ⟨b,o,x,rfl,hb,hg,hcell⟩:=Sl.cell (f:=chC) (k:=5) chC_len (HS.out.after (Uc HB.out) (Nat.le_of_succ_le hsz)) hlt
   have c0:=hcell 0 _ rfl;have c1:=hcell 1 _ rfl;have c2:=hcell 2 _ rfl;have c3:=hcell 3 _ rfl;have c4:=hcell 4 _ rfl;simp only [Nat.add_zero] at c0;have HG:=Hd hg;clear hg hcell hb;by_cases k1:x.key.size≤50;rotate_left
   ·have hp:Fv x=false:=by unfold Fv;rw [decide_eq_false k1];rfl
    have HF:Hid (R=false):=Hd (by rw [HR.out,Vg HG.out hp];rfl);have e1:decide ((50:Int)<(x.key.size:Int))=true:=by simp;omega
    have e2:decide (50<x.key.size)=true:=by simp;omega
    clear hp k1;go_wp2;go_ret;exact ⟨by rw [HF.out];rfl,Uc (HB.out.alloc hsz _)⟩
   have e1:decide ((50:Int)<(x.key.size:Int))=false:=by simp;omega
   have e2:decide (50<x.key.size)=false:=by simp;omega
   by_cases k2:x.rcd.size≤1200;rotate_left
   ·have hp:Fv x=false:=by unfold Fv;rw [decide_eq_false k2];simp
    have HF:Hid (R=false):=Hd (by rw [HR.out,Vg HG.out hp];rfl);have e3:decide ((1200:Int)<(x.rcd.size:Int))=true:=by simp;omega
    have e4:decide (1200<x.rcd.size)=true:=by simp;omega
    clear hp k1 k2;go_wp2;go_ret;exact ⟨by rw [HF.out];rfl,Uc (HB.out.alloc hsz _)⟩
   have e3:decide ((1200:Int)<(x.rcd.size:Int))=false:=by simp;omega
   have e4:decide (1200<x.rcd.size)=false:=by simp;omega
   by_cases k3:x.vol.size≤20;rotate_left
   ·have hp:Fv x=false:=by unfold Fv;rw [decide_eq_false k3];simp
    have HF:Hid (R=false):=Hd (by rw [HR.out,Vg HG.out hp];rfl);have e5:decide ((20:Int)<(x.vol.size:Int))=true:=by simp;omega
    have e6:decide (20<x.vol.size)=true:=by simp;omega
    clear hp k1 k2 k3;go_wp2;go_ret;exact ⟨by rw [HF.out];rfl,Uc (HB.out.alloc hsz _)⟩
   have e5:decide ((20:Int)<(x.vol.size:Int))=false:=by simp;omega
   have e6:decide (20<x.vol.size)=false:=by simp;omega
   have HP:Hid (Fv x=true):=Hd (by unfold Fv;rw [decide_eq_true k1,decide_eq_true k2,decide_eq_true k3];rfl);have X2:=Hd (HB.out.alloc hsz (.cells #[.int .i64 x.kind,.int .i64 x.id,.string x.key,.string x.rcd,.string x.vol] 58));clear k1 k2 k3;go_wp2;go_roundw
   case rel=>exact ⟨j+1,by omega,by go_num,Ih HA.out HG.out HP.out,X2.out⟩
   case measure=>simp [intOf];omega
  ·have hjn:n=j:=by omega
   subst hjn;have HT:Hid (R=true):=Hd (by rw [HR.out,E3 HL.out HA.out];rfl);go_wp2;go_ret;exact ⟨by rw [HT.out];rfl,Uc HB.out⟩
end
end Go.Proofs.YtapanepkfbamhaaGreatDoor
