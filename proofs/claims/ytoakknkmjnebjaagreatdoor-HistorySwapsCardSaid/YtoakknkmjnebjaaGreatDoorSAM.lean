/- Of HistorySwaps. -/
import Derived.Test.YtoakknkmjnebjaaGreatDoorSAL
namespace Go.Proofs.YtoakknkmjnebjaaGreatDoor
open Tryz (prog)
set_option maxRecDepth 100000
set_option maxHeartbeats 4000000
open Go.RowKit
theorem G9 (W:Wd) (a:Option Addr) (j cap k:Nat) (hk:k≤j):(Instr.slice 150 (.slice a j cap) (some (.int .i64 (k:Int))) none none).run prog W = .ok (.slice (if cap=k then a else a.map (·.add (k*1))) (j-k) (cap-k)) W:=by
 have h:=run_slice_l (P:=prog) (w:=W) 150 a j cap Tryz.underlying150 .i64 (k:Int) (by omega) (by omega);rw [h,show prog.elem 150=9 from by kernel_rfl,Tryz.sizeOf9 W];simp [Result.andThen,sliced]
theorem min_le2 (k:Nat):0≤3*min (k:Int) 2:=by omega
theorem runs_any (g:Nat) (m:Int) (A:Option Addr) (n c:Nat) (l:List Bz) (w:Wd) (hs:Sl Ui 1 w w.heap.size A n c l) (hg:Blk w g 3 #[.int .i64 m]) (hz:∀ s∈l,s.size≤200) (hn:n≤2000) (hm0:0≤m) (hm:m≤10):
  Calls prog 184 #[.slice A n c,.func (.func 185) #[] #[.pointer (some ⟨g,0,none⟩)]] w fun e w'=>e = .returned (.tuple #[])∧SumP g (m+Jx l.length l) w w':=by
 obtain ⟨R,hR⟩:∃ R,m+Jx l.length l=R:=⟨_,rfl⟩
 rw [hR];have HR:=Hd hR;have HS:=Hd hs;have HZ:=Hd hz;have HG:=Hd hg;have fH:Hid (n≤l.length):=Hd (by rw [hs.len];exact Le _);clear hs hg hz hR;go_enter Tryz.func184,Tryz.ntmps184;go_wp2;go_loopw [0] (fun v wr => ∃ (A1:Option Addr) (n1 c1 f:Nat) (l1:List Bz) (acc:Int),v = .slice A1 n1 c1∧Sl Ui 1 wr wr.heap.size A1 n1 c1 l1∧n1≤f∧(∀ s∈l1,s.size≤200)∧n1≤n∧0≤acc∧acc≤10+206*((n:Int)-n1)∧acc+Jx f l1=R∧Blk wr g 3 #[.int .i64 acc]∧Far [g] w wr) (fun v _=>slLen v)
 case atStart=>exact ⟨A,n,c,l.length,l,m,rfl,HS.out,fH.out,HZ.out,Le _,hm0,by omega,HR.out,HG.out,Far.refl _ _⟩
 case round=>
  obtain ⟨A1,n1,c1,f,l1,acc,rfl,hs,hnf,hz,hnn,ha0,ha1,aI,hg,bW⟩:=hrel;obtain ⟨wx,rfl⟩:∃ z:Wd,z=wr:=⟨_,rfl⟩
  have bK:=Hd hs;have iI:=Hd hs.len;have cJ:=Hd hz;have fL:=Hd hg;have iZ:=Hd bW;have aY:=Hd aI;have jJ:=hs.cap;clear hz hg bW aI;by_cases h0:0<n1
  ·obtain ⟨b,o,s0,hA,hb,hg0,hcell0⟩:=Sl.cell (f:=Ui) (k:=1) (fun _=>rfl) hs h0;have c0:=hcell0 0 _ rfl;simp only [Nat.add_zero,Nat.mul_one] at c0;subst hA
   obtain ⟨r,hr⟩:∃ r,l1=s0::r:=by
    cases l1 with
    |nil=>simp at hg0
    |cons x r=>injection hg0 with e;exact ⟨r,by rw [e]⟩
   have HLR:=Hd hr;have eF:Hid (s0.size≤200):=Hd (cJ.out s0 (by rw [hr];exact List.mem_cons_self));have aN:=eF.out;have HC0:=Hd c0;clear hb hg0 hcell0 hr hs;go_wp2_with fail;go_loopw [4] (fun v4 wy => ∃ d k:Nat,wy=wx.drewN d∧v4 = .int .i64 k∧1≤k∧k≤n1∧Hid (∀ t,1≤t→t<k→∀ s,l1[t]? =some s→s.size=s0.size)) (fun v _=>n1-(intOf v).toNat)
   case atStart=>exact ⟨0,1,rfl,rfl,Le _,h0,Hd fun t h1 h2=>absurd h1 (by omega)⟩
   case round=>
    obtain ⟨d,k,rfl,rfl,hk1,hkn,HK⟩:=hrel;have d0:wx.cell? ⟨b,o,none⟩=some (.string s0):=HC0.out;clear c0;by_cases aG:k<n1
    ·obtain ⟨b2,o2,s,hA2,aF,hgk,aB⟩:=Sl.cell (f:=Ui) (k:=1) (fun _=>rfl) bK.out aG;injection hA2 with hA2
     injection hA2 with hA3 hA4 _
     subst hA3;subst hA4;have ck:=aB 0 _ rfl;simp only [Nat.add_zero,Nat.mul_one] at ck;have dk:wx.cell? ⟨b,o+k,none⟩=some (.string s):=ck;have HGK:=Hd hgk;have x1:decide (k<n1)=true:=by simpa using aG
     have x2:decide ((k:Int)<(n1:Int))=true:=by simp;omega
     have ka:(0:Int)≤(k:Int):=by omega
     have kb:(k:Int)<(n1:Int):=by omega
     have kc:(0:Int)<(n1:Int):=by omega
     clear aF hgk aB ck;by_cases he:s.size=s0.size
     ·have x3:((s.size:Int) == (s0.size:Int))=true:=by simp [he]
      have HE:=Hd he;clear he;go_wp2_with fail
      go_quiet (fail)
      go_wp2;go_roundw
      case rel=>
       refine ⟨d+nq,k+1,rfl,by go_num,by omega,by omega,Hd fun t h1 h2 x hx=>?_⟩;by_cases h:t=k
       ·subst h;rw [HGK.out] at hx;injection hx with hx
        subst hx;exact HE.out
       ·exact HK.out t h1 (by omega) x hx
      case measure=>simp [intOf];omega
     ·have x3:((s.size:Int) == (s0.size:Int))=false:=by simp;omega
      have eY:=Hd he;clear he;go_wp2_with fail
      go_quiet (fail)
      go_wp2_with fail;have HRK:Hid (Yy s0.size r=k-1):=Hd (by rw [HLR.out] at HK iI;exact runK_is r (k-1) (by have:=iI.out;simp at this;omega) (fun t ht s hs=>HK.out (t+1) (by omega) (by omega) s (by simpa using hs)) (fun s hs=>by have h3:=HGK.out;rw [HLR.out,show k=(k-1)+1 from by omega,Gn,hs] at h3;injection h3 with h3;subst h3;exact eY.out));obtain ⟨W8,hW8⟩:∃ W8,wx.drewN (d+nq)=W8:=⟨_,rfl⟩
      have HG8:Hid (Blk W8 g 3 #[.int .i64 acc]):=Hd (by rw [←hW8];exact fL.out);have HF8:Hid (Far [g] wx W8):=Hd (by rw [←hW8];exact (Far.refl _ _).drewN _);have e0:W8.cell? ⟨b,o,none⟩=some (.string s0):=by rw [←hW8];exact HC0.out
      rw [hW8];clear d0 hW8;have fF:=Hd (size1_any k s0.size g acc W8 HG8.out hk1 (by omega) eF.out ha0 (by omega));obtain ⟨B2,kY⟩:∃ B2,(if c1=k then some (⟨b,o,none⟩:Addr) else (some (⟨b,o,none⟩:Addr)).map (·.add (k*1)))=B2:=⟨_,rfl⟩
      obtain ⟨acc2,jI⟩:∃ acc2,acc+((k:Int)*(s0.size:Int)+3*min (k:Int) 2)=acc2:=⟨_,rfl⟩
      have bZ:=Hd kY;have HAC:=Hd jI;rw [jI] at fF;have bP:=fun W=>G9 W (some ⟨b,o,none⟩) n1 c1 k hkn
      rw [kY] at bP;clear kY jI;go_wp2_with (go_at_call 185;refine fF.out.mono ?_;rintro e w5 ⟨rfl,rfl⟩);go_roundw
      case rel=>
       have hg5:Blk (W8.setCell ⟨g,0,none⟩ (.int .i64 acc2)) g 3 #[.int .i64 acc2]:=HG8.out.set 0 _;have hf5:Far [g] wx (W8.setCell ⟨g,0,none⟩ (.int .i64 acc2)):=HF8.out.set _ _ _ (.inl (by simp));have hs5:=sl_drop1 (sl_far1 bK.out fL.out ⟨acc,rfl⟩ hf5) hkn;rw [bZ.out] at hs5;obtain ⟨f2,hf2⟩:∃ f2,f=f2+1:=⟨f-1,by omega⟩
       have bM:=run_sum s0.size k eF.out;have hrun0:0≤(k:Int)*(s0.size:Int):=Int.mul_nonneg (by omega) (by omega);have gZ:=min_le2 k;have hac:=HAC.out;refine ⟨B2,n1-k,c1-k,f2,l1.drop k,acc2,rfl,hs5,by omega,fun s hs=>cJ.out s (List.mem_of_mem_drop hs),by omega,by omega,by omega,?_,hg5,iZ.out.trans hf5⟩;rw [←aY.out,hf2,HLR.out];have hk2:k=(k-1)+1:=by omega
       have hru:Jx (f2+1) (s0::r)=((Yy s0.size r+1:Nat):Int)*(s0.size:Int)+3*min ((Yy s0.size r+1:Nat):Int) 2+Jx f2 (r.drop (Yy s0.size r)):=rfl;rw [hru,HRK.out,←hk2,←hac]
       have hdd:(s0::r).drop k=r.drop (k-1):=by
        conv=>lhs;rw [hk2]
        rfl
       rw [hdd];omega
      case measure=>simp [slLen];omega
    ·have x1:decide (k<n1)=false:=by simpa using aG
     have x2:decide ((k:Int)<(n1:Int))=false:=by simp;omega
     go_wp2_with fail
     go_quiet (fail)
     go_wp2_with fail;have HRK:Hid (Yy s0.size r=k-1):=Hd (by rw [HLR.out] at HK iI;exact runK_is r (k-1) (by have:=iI.out;simp at this;omega) (fun t ht s hs=>HK.out (t+1) (by omega) (by omega) s (by simpa using hs)) (fun s hs=>by exfalso;have:=(List.getElem?_eq_some_iff.1 hs).1;have h2:=iI.out;simp at h2;omega));obtain ⟨W8,hW8⟩:∃ W8,wx.drewN (d+nq)=W8:=⟨_,rfl⟩
     have HG8:Hid (Blk W8 g 3 #[.int .i64 acc]):=Hd (by rw [←hW8];exact fL.out);have HF8:Hid (Far [g] wx W8):=Hd (by rw [←hW8];exact (Far.refl _ _).drewN _);have e0:W8.cell? ⟨b,o,none⟩=some (.string s0):=by rw [←hW8];exact HC0.out
     rw [hW8];clear d0 hW8;have fF:=Hd (size1_any k s0.size g acc W8 HG8.out hk1 (by omega) eF.out ha0 (by omega));obtain ⟨B2,kY⟩:∃ B2,(if c1=k then some (⟨b,o,none⟩:Addr) else (some (⟨b,o,none⟩:Addr)).map (·.add (k*1)))=B2:=⟨_,rfl⟩
     obtain ⟨acc2,jI⟩:∃ acc2,acc+((k:Int)*(s0.size:Int)+3*min (k:Int) 2)=acc2:=⟨_,rfl⟩
     have bZ:=Hd kY;have HAC:=Hd jI;rw [jI] at fF;have bP:=fun W=>G9 W (some ⟨b,o,none⟩) n1 c1 k hkn
     rw [kY] at bP;clear kY jI;go_wp2_with (go_at_call 185;refine fF.out.mono ?_;rintro e w5 ⟨rfl,rfl⟩);go_roundw
     case rel=>
      have hg5:Blk (W8.setCell ⟨g,0,none⟩ (.int .i64 acc2)) g 3 #[.int .i64 acc2]:=HG8.out.set 0 _;have hf5:Far [g] wx (W8.setCell ⟨g,0,none⟩ (.int .i64 acc2)):=HF8.out.set _ _ _ (.inl (by simp));have hs5:=sl_drop1 (sl_far1 bK.out fL.out ⟨acc,rfl⟩ hf5) hkn;rw [bZ.out] at hs5;obtain ⟨f2,hf2⟩:∃ f2,f=f2+1:=⟨f-1,by omega⟩
      have bM:=run_sum s0.size k eF.out;have hrun0:0≤(k:Int)*(s0.size:Int):=Int.mul_nonneg (by omega) (by omega);have gZ:=min_le2 k;have hac:=HAC.out;refine ⟨B2,n1-k,c1-k,f2,l1.drop k,acc2,rfl,hs5,by omega,fun s hs=>cJ.out s (List.mem_of_mem_drop hs),by omega,by omega,by omega,?_,hg5,iZ.out.trans hf5⟩;rw [←aY.out,hf2,HLR.out];have hk2:k=(k-1)+1:=by omega
      have hru:Jx (f2+1) (s0::r)=((Yy s0.size r+1:Nat):Int)*(s0.size:Int)+3*min ((Yy s0.size r+1:Nat):Int) 2+Jx f2 (r.drop (Yy s0.size r)):=rfl;rw [hru,HRK.out,←hk2,←hac]
      have hdd:(s0::r).drop k=r.drop (k-1):=by
       conv=>lhs;rw [hk2]
       rfl
      rw [hdd];omega
     case measure=>simp [slLen];omega
  ·obtain rfl:n1=0:=by omega
   have hl0:l1 = []:=List.eq_nil_of_length_eq_zero iI.out;have hq:acc=R:=by rw [←aY.out,hl0];cases f<;>simp [Jx]
   have HQ:=Hd hq;clear hq hl0;go_wp2
   go_end0
   exact ⟨rfl,by rw [←HQ.out];exact fL.out,iZ.out⟩
theorem size_any (A:Option Addr) (n c:Nat) (l:List Bz) (w:Wd) (hs:Sl Ui 1 w w.heap.size A n c l) (hz:∀ s∈l,s.size≤200) (hn:n≤2000):
  Calls prog 146 #[.slice A n c] w fun e w'=>e = .returned (.int .i64 (Km l))∧Below w.heap.size w w':=by
 have HC:=Hd (runs_any w.heap.size 4 A n c l (w.alloc (.cells #[.int .i64 4] 3)) (hs.after ((Bf _ _).alloc (Le _) _) (by simp)) (Blk.new w 3 #[.int .i64 4]) hz hn (by decide) (by decide));unfold Km;generalize 4+Jx l.length l=R at HC;clear hs hz;go_enter Tryz.func146,Tryz.ntmps146;go_wp2_with (go_at_call 184;refine HC.out.mono ?_;rintro e w2 ⟨rfl,h1,h2⟩;have c0:=(h1.cell 0).trans (show _=some (Value.int .i64 R) from rfl);have HF:=Hd h2;clear h1 h2);go_ret;exact ⟨rfl,(((Far.refl [w.heap.size] w).alloc _).trans HF.out).below (by simp) (Le _)⟩
def Kz (z:Int) (l:List Bz):Bool:=E1 z&&alwB l&&decide (Km l≤z)
theorem ifits_any (z:Int) (A:Option Addr) (n c:Nat) (l:List Bz) (w:Wd) (hs:Sl Ui 1 w w.heap.size A n c l) (hn:n≤2000):
  Calls prog 121 #[.int .i64 z,.slice A n c] w fun e w'=>e = .returned (.bool (Kz z l))∧Below w.heap.size w w':=by
 have HS:=Hd hs;unfold Kz;have HI:=Hd fun W=>isSize_any z W
 obtain ⟨q1,h1⟩:∃ q,E1 z=q:=⟨_,rfl⟩
 rw [h1];simp only [h1] at HI;clear h1 hs;cases q1 with
 |false=>
  go_enter Tryz.func121,Tryz.ntmps121;go_wp2_with (go_at_call 144;refine (HI.out _).mono ?_;rintro e w2 ⟨rfl,rfl⟩);go_ret;exact ⟨rfl,Bf _ _⟩
 |true=>
  have HA:=Hd (ialw_any A n c l w HS.out hn);obtain ⟨q2,h2⟩:∃ q,alwB l=q:=⟨_,rfl⟩
  rw [h2];rw [h2] at HA;cases q2 with
  |false=>
   clear h2;go_enter Tryz.func121,Tryz.ntmps121;go_wp2_with (first|(go_at_call 144;refine (HI.out _).mono ?_;rintro e w2 ⟨rfl,rfl⟩)|(go_at_call 145;refine HA.out.mono ?_;rintro e w2 ⟨rfl,rfl⟩));go_ret;exact ⟨rfl,Bf _ _⟩
  |true=>
   have hz:∀ s∈l,s.size≤200:=fun s hs=>by
    have:=List.all_eq_true.1 h2 s hs;unfold alwS at this;simp at this;omega
   have HC:=Hd (size_any A n c l w HS.out hz hn);clear h2 hz;by_cases h3:Km l≤z
   ·have d3:decide (Km l≤z)=true:=by simpa using h3
    rw [d3];generalize Km l=S at HC h3 d3;go_enter Tryz.func121,Tryz.ntmps121;go_wp2_with (first|(go_at_call 144;refine (HI.out _).mono ?_;rintro e w2 ⟨rfl,rfl⟩)|(go_at_call 145;refine HA.out.mono ?_;rintro e w2 ⟨rfl,rfl⟩)|(go_at_call 146;refine HC.out.mono ?_;rintro e w2 ⟨rfl,hb⟩;have HB:=Hd hb;clear hb));go_ret;exact ⟨rfl,HB.out⟩
   ·have d3:decide (Km l≤z)=false:=by simpa using h3
    rw [d3];generalize Km l=S at HC h3 d3;go_enter Tryz.func121,Tryz.ntmps121;go_wp2_with (first|(go_at_call 144;refine (HI.out _).mono ?_;rintro e w2 ⟨rfl,rfl⟩)|(go_at_call 145;refine HA.out.mono ?_;rintro e w2 ⟨rfl,rfl⟩)|(go_at_call 146;refine HC.out.mono ?_;rintro e w2 ⟨rfl,hb⟩;have HB:=Hd hb;clear hb));go_ret;exact ⟨rfl,HB.out⟩
theorem cloneS_any (A:Option Addr) (n c:Nat) (l:List Bz) (w:Wd) (hs:Sl Ui 1 w w.heap.size A n c l) (hn:n≤1000000):
  Calls prog 120 #[.slice A n c] w fun e w' => ∃ v,e = .returned v∧w'.ownsRow w.heap.size 9 1 v n (Ub Ui l)∧Below w.heap.size w w':=by
 have hl:=hs.len;have qq:∀ (w:Wd) (a:Option Addr) (n c n' c':Nat),(binOp .eql 150 (.slice a n c) (.slice none n' c')).run prog w = .ok (.bool a.isNone) w:=fun w a n c n' c'=>Lib.run_eql_slice_nil w _ _ a n c n' c' Tryz.underlying150
 cases A with
 |none=>
  have hz:n=0:=by
   rcases Nat.eq_zero_or_pos n with h|h
   ·exact h
   ·obtain ⟨b,o,e,_⟩:=hs.rd.2 h;cases e
  subst hz;have:l = []:=List.eq_nil_of_length_eq_zero hl;subst this;clear hs hl hn;go_enter Tryz.func120,Tryz.ntmps120;go_wp2;go_ret;exact ⟨_,rfl,⟨rfl,.inl ⟨rfl,rfl⟩⟩,Bf _ _⟩
 |some ad=>
  obtain ⟨i0,aU,aW,aK,aR⟩:=info_parts Ze;have HR:=Hd (hs.rd.alloc (Le _) (.cells #[] 9));have H1:=Hd (flat_str l);have HO:=Hd (World.ownsRow_lit (e:=9) (base:=w.heap.size) (size:=1) w #[] 0 (Le _) (by decide) rfl);clear hs hl;go_enter Tryz.func120,Tryz.ntmps120;go_wp2_with (at_builtin;go_must (refine U5 _ rfl _ _ 150 rfl w.heap.size 9 i0 _ 1 16 Tryz.underlying150 aU aW aK aR rfl (by decide) _ _ _ rfl HO.out w.heap.size (some ad) n c (Ub Ui l) rfl HR.out H1.out ?c2 ?c3 ?c4 ?_))
  case c2=>simp [maxLen];omega
  case c3=>omega
  intro v' w' aD aO _;have aS:=Hd aD;have bQ:=Hd aO;clear aD aO;go_wp2;go_ret;exact ⟨v',rfl,by simpa using aS.out,((Bf _ _).alloc (Le _) _).grown bQ.out (by simp) (by intro k hk;simp [Value.ownBlock] at hk;omega)⟩
theorem Kg (A:Option Addr) (n c:Nat) (l:List Pr) (w:Wd) (hs:Sl prC 2 w w.heap.size A n c l) (hn:n≤1000000):
  Calls prog 24 #[.slice A n c] w fun e w' => ∃ v,e = .returned v∧w'.ownsRow w.heap.size 76 2 v n (Ub prC l)∧Below w.heap.size w w':=by
 have hl:=hs.len;have qq:∀ (w:Wd) (a:Option Addr) (n c n' c':Nat),(binOp .eql 28 (.slice a n c) (.slice none n' c')).run prog w = .ok (.bool a.isNone) w:=fun w a n c n' c'=>Lib.run_eql_slice_nil w _ _ a n c n' c' Tryz.underlying28
 cases A with
 |none=>
  have hz:n=0:=by
   rcases Nat.eq_zero_or_pos n with h|h
   ·exact h
   ·obtain ⟨b,o,e,_⟩:=hs.rd.2 h;cases e
  subst hz;have:l = []:=List.eq_nil_of_length_eq_zero hl;subst this;clear hs hl hn;go_enter Tryz.func24,Tryz.ntmps24;go_wp2;go_ret;exact ⟨_,rfl,⟨rfl,.inl ⟨rfl,rfl⟩⟩,Bf _ _⟩
 |some ad=>
  obtain ⟨i0,aU,aW,aK,aR⟩:=info_parts Xe;have HR:=Hd (hs.rd.alloc (Le _) (.cells #[] 76));have H1:=Hd (prC_one l);have HO:=Hd (World.ownsRow_lit (e:=76) (base:=w.heap.size) (size:=2) w #[] 0 (Le _) (by decide) rfl);clear hs hl;go_enter Tryz.func24,Tryz.ntmps24;go_wp2_with (at_builtin;go_must (refine U5 _ rfl _ _ 28 rfl w.heap.size 76 i0 _ 2 32 Tryz.underlying28 aU aW aK aR rfl (by decide) _ _ _ rfl HO.out w.heap.size (some ad) n c (Ub prC l) rfl HR.out H1.out ?c2 ?c3 ?c4 ?_))
  case c2=>simp [maxLen];omega
  case c3=>omega
  intro v' w' aD aO _;have aS:=Hd aD;have bQ:=Hd aO;clear aD aO;go_wp2;go_ret;exact ⟨v',rfl,by simpa using aS.out,((Bf _ _).alloc (Le _) _).grown bQ.out (by simp) (by intro k hk;simp [Value.ownBlock] at hk;omega)⟩
structure Edn where
 ci:Int
 A:Option Addr
 n:Nat
 c:Nat
 rs:List Bz
 sp:Int
def edC (x:Edn):List Value:=[.int .i64 x.ci,.slice x.A x.n x.c,.int .i64 x.sp]
def zEd:List Value:=[.int .i64 0,.slice none 0 0,.int .i64 0]
def Vh (d:DSet) (r:Bz) (ci:Int) (rs:List Bz) (sp:Int):Bz×(Int×List Bz×Int):=
 if 0<ci∧Kz d.itv (rs++[r])=true then (Vu (IntKind.i64.wrap (IntKind.i64.wrap (ci*d.itv)+sp)),(ci,rs++[r],IntKind.i64.wrap (sp+r.size)))
 else (Vu (IntKind.i64.wrap (IntKind.i64.wrap (ci+1)*d.itv)),(IntKind.i64.wrap (ci+1),[r],(r.size:Int)))
theorem sl_row {α:Type} {f:α→List Value} {k B n c:Nat} {A:Option Addr} {l:List α} {w:Wd} (h:Sl f k w B A n c l) (g:Nat) (cs:Array Value) (hA:∀ a,A=some a→a.block≠g):Sl f k (w.setRow g cs) (w.setRow g cs).heap.size A n c l∨w.heap.size<B:=by
 rcases Nat.lt_or_ge w.heap.size B with hB|hB
 ·exact .inr hB
 ·refine .inl ⟨h.1,h.2.1,h.2.2.1,fun hn=>?_⟩;obtain ⟨b,o,e,hb,hc⟩:=h.2.2.2 hn;exact ⟨b,o,e,by rw [size_setRow];omega,fun j u hu=>(cell_setRow_other w g cs ⟨b,o+j,none⟩ (hA ⟨b,o,none⟩ e)).trans (hc j u hu)⟩
theorem Xy {α:Type} {f:α→List Value} {k n c:Nat} {A:Option Addr} {l:List α} {w:Wd} (h:Sl f k w w.heap.size A n c l) (g:Nat) (cs:Array Value) (hA:∀ a,A=some a→a.block≠g):Sl f k (w.setRow g cs) (w.setRow g cs).heap.size A n c l:=
 (sl_row h g cs hA).resolve_right (by omega)
structure EN (x:Edn) (d:DSet) (w W:Wd):Prop where
 b1:Blk W w.heap.size 152 (edC x).toArray
 b2:Blk W (w.heap.size+1) 27 (dC d).toArray
 b3:Blk W (w.heap.size+2) 152 zEd.toArray
 be:Below w.heap.size w W
 sz:w.heap.size+3≤W.heap.size
theorem Vm {x:Edn} {d:DSet} {w W W':Wd} (h:EN x d w W) (hb:Below W.heap.size W W'):EN x d w W':=
 ⟨h.b1.below hb h.b1.lt,h.b2.below hb h.b2.lt,h.b3.below hb h.b3.lt,U0 h.be hb h.be.size,Lx h.sz hb.size⟩
theorem en_grown {x:Edn} {d:DSet} {w W W':Wd} {o:Obj} {row:Option Nat} (h:EN x d w W) (hg:(W.alloc o).grownBy W' row) (hr:∀ k,row=some k→w.heap.size+3≤k):EN x d w W':=
 have hz:=h.sz;have ne:∀ k,k<w.heap.size+3→some k≠row:=fun k hk e=>by have:=hr k e.symm;omega
 ⟨(h.b1.alloc o).grown hg (ne _ (by omega)),(h.b2.alloc o).grown hg (ne _ (by omega)),(h.b3.alloc o).grown hg (ne _ (by omega)),
  (h.be.alloc h.be.size o).grown hg (by have:=h.be.size;simp;omega) (fun k hk=>by have:=hr k hk;omega),Lx (by simp;omega) hg.size⟩
theorem en_new (x:Edn) (d:DSet) (w:Wd):EN x d w (((w.alloc (.cells (edC x).toArray 152)).alloc (.cells (dC d).toArray 27)).alloc (.cells zEd.toArray 152)):=
 ⟨((Blk.new w _ _).alloc _).alloc _,(U3 (w.alloc _) _ _ _ (by simp)).alloc _,U3 ((w.alloc _).alloc _) _ _ _ (by simp),(((Bf _ _).alloc (Le _) _).alloc (by simp) _).alloc (by simp;omega) _,by simp⟩
theorem Vv {P:Program} {fn:Func} {tmps:Array Value} {p q:Nat} {t:TypeId} {b:Nat} {c v:Value} {W:Wd} (h:fn.results=#[.tmp q,.cell p t]) (hp:tmps.getD p undef = .pointer (some ⟨b,0,none⟩)) (hq:tmps.getD q undef=v)
  (hl:(loadVar t ⟨b,0,none⟩).run P W = .ok c W):(results fn tmps).run P W = .ok (.tuple #[v,c]) W:=by
 have hp':tmps[p]?.getD undef = .pointer (some ⟨b,0,none⟩):=by simpa using hp
 have hq':tmps[q]?.getD undef=v:=by simpa using hq
 simp [results,h,hp',hq',asAddr,hl]
theorem Ya (W:Wd) (b:Nat) (cs:Array Value) (h:Blk W b 152 cs) (hs:cs.size=3):(loadVar 152 ⟨b,0,none⟩).run prog W = .ok (.agg cs) W:=
 run_loadVar_row W b 152 152 cs (0,0) _ h Tryz.underlying152 rfl (by rw [hs];kernel_rfl)
def NxG (d:DSet) (r:Bz) (x:Edn) (w:Wd) (e:Ending) (w':Wd):Prop:=∃ y:Edn,e = .returned (.tuple #[.string (Vh d r x.ci x.rs x.sp).1,.agg (edC y).toArray])∧(y.ci,y.rs,y.sp)=(Vh d r x.ci x.rs x.sp).2∧Sl Ui 1 w' w'.heap.size y.A y.n y.c y.rs∧(∀ a,y.A=some a→w.heap.size≤a.block)∧Below w.heap.size w w'
theorem next_e (d:DSet) (r:Bz) (x:Edn) (w:Wd) (hs:Sl Ui 1 w w.heap.size x.A x.n x.c x.rs) (hn:x.n≤1999):
  Calls prog 86 #[.agg #[.int .i64 x.ci,.slice x.A x.n x.c,.int .i64 x.sp],.agg (dC d).toArray,.string r] w (NxG d r x w):=by
 obtain ⟨i0,aU,aW,aK,aR⟩:=info_parts Ze;have HE:=Hd (en_new x d w);have fV:=Hd hn;have HSX:Hid (∀ W,EN x d w W→Sl Ui 1 W W.heap.size x.A x.n x.c x.rs):=Hd fun W h=>hs.after h.be h.be.size
 have e1:(((w.alloc (.cells (edC x).toArray 152)).alloc (.cells (dC d).toArray 27)).alloc (.cells zEd.toArray 152)).cell? ⟨w.heap.size,1,none⟩=some (.slice x.A x.n x.c):=(HE.out.b1.cell 1).trans rfl;have fG:=Hd (cloneS_any x.A x.n x.c x.rs _ (HSX.out _ HE.out) (by omega));clear hs hn;go_enter Tryz.func86,Tryz.ntmps86;by_cases hci:0<x.ci
 ·cases hft:Kz d.itv (x.rs++[r]) with
  |true=>
   have HCI:=Hd hci;have HFT:=Hd hft;clear hft
   go_wp2_with (first|(go_at_call 120;refine fG.out.mono ?_;rintro e w2 ⟨v,rfl,aD,hb⟩;have fU:=Hd (Vm HE.out hb);have fW:=Hd aD;have cF:=Hd (Vw w2 [.string r] 9 1 1 rfl);clear aD hb e1)|(at_builtin;go_must (refine U5 _ rfl _ _ 150 rfl (((w.alloc (.cells (edC x).toArray 152)).alloc (.cells (dC d).toArray 27)).alloc (.cells zEd.toArray 152)).heap.size 9 i0 _ 1 16 Tryz.underlying150 aU aW aK aR rfl (by decide) v x.n (Ub Ui x.rs) rfl (fW.out.alloc _) (w2.heap.size+1) (some ⟨w2.heap.size,0,none⟩) 1 1 [.string r] rfl cF.out (Vl r) (by have:=fV.out;unfold maxLen;omega) (by have:=fV.out;omega) (by have:=fU.out.sz;simp;omega) ?_;intro v' w4 aD aO _;obtain ⟨A4,c4,rfl,_⟩:=Ue aD;have iJ:Hid (∀ a,A4=some a→w.heap.size+3≤a.block):=Hd (fun a ha=>by subst ha;have:=(aD.lt _ rfl).1;simp at this;omega);have jT:=Hd (en_grown fU.out aO (fun k hk=>by have:=(fW.out.lt k hk).1;simp at this;omega));have HS4:Hid (Sl Ui 1 w4 w4.heap.size A4 (x.n+1) c4 (x.rs++[r])):=Hd (Sl.of_own (f:=Ui) (fun _=>rfl) (by decide) (by rw [Vb,Va];exact aD));have f0:=(jT.out.b1.cell 0).trans (show _=some (Value.int .i64 x.ci) from rfl);have f2:=(jT.out.b1.cell 2).trans (show _=some (Value.int .i64 x.sp) from rfl);have f7:=(jT.out.b2.cell 7).trans (show _=some (Value.int .i64 d.itv) from rfl);clear aD aO))|(go_at_call 121;refine (ifits_any d.itv A4 (x.n+1) c4 (x.rs++[r]) w4 HS4.out (by have:=fV.out;omega)).mono ?_;rw [HFT.out];rintro e w5 ⟨rfl,hb⟩;have jA:=Hd (Vm jT.out hb);have HS5:=Hd (HS4.out.after hb hb.size);clear hb f0 f2 f7))
   obtain ⟨q1,hq1⟩:∃ q,IntKind.i64.wrap (x.ci*d.itv)=q:=⟨_,rfl⟩
   obtain ⟨q2,gJ⟩:∃ q,IntKind.i64.wrap (q1+x.sp)=q:=⟨_,rfl⟩
   obtain ⟨q3,hq3⟩:∃ q,IntKind.i64.wrap (x.sp+(r.size:Int))=q:=⟨_,rfl⟩
   have HQ:Hid (Vh d r x.ci x.rs x.sp=(Vu q2,(x.ci,x.rs++[r],q3))):=Hd (by unfold Vh;rw [if_pos ⟨HCI.out,HFT.out⟩,hq1,gJ,hq3]);have jC:Hid (EN x d w w5.drew):=Hd (Vm jA.out (Bf _ _).drew);have HSd:Hid (Sl Ui 1 w5.drew w5.drew.heap.size A4 (x.n+1) c4 (x.rs++[r])):=Hd HS5.out;refine Rw (S:=fun w'=>Blk w' w.heap.size 152 (edC x).toArray∧Blk w' (w.heap.size+1) 27 (dC d).toArray) (by kernel_rfl) ⟨jC.out.b1,jC.out.b2⟩ (fun Hh=>?_);refine tk 0 (.pointer (some ⟨w.heap.size,0,none⟩)) Hh ?_;refine tj 1 (.int .i64 x.ci) Hh ?_ (y:=by intro w' aH;have h1:=(aH.1.cell 0).trans (show _=some (Value.int .i64 x.ci) from rfl);go_simp);refine tk 2 (.pointer (some ⟨w.heap.size+1,7,none⟩)) Hh ?_;refine tj 3 (.int .i64 d.itv) Hh ?_ (y:=by intro w' aH;have h1:=(aH.2.cell 7).trans (show _=some (Value.int .i64 d.itv) from rfl);go_simp)
   refine tj 4 (.int .i64 q1) Hh ?_ (y:=by intro w' aH;have h1:=hq1;go_simp);refine tk 5 (.pointer (some ⟨w.heap.size,2,none⟩)) Hh ?_;refine tj 6 (.int .i64 x.sp) Hh ?_ (y:=by intro w' aH;have h1:=(aH.1.cell 2).trans (show _=some (Value.int .i64 x.sp) from rfl);go_simp);refine tj 7 (.int .i64 q2) Hh ?_ (y:=by intro w' aH;have h1:=gJ;go_simp);refine tk 9 (.pointer (some ⟨w.heap.size,0,none⟩)) Hh ?_;refine tj 10 (.int .i64 x.ci) Hh ?_ (y:=by intro w' aH;have h1:=(aH.1.cell 0).trans (show _=some (Value.int .i64 x.ci) from rfl);go_simp);refine tk 11 (.slice A4 (x.n+1) c4) Hh ?_;refine tk 12 (.pointer (some ⟨w.heap.size,2,none⟩)) Hh ?_;refine tj 13 (.int .i64 x.sp) Hh ?_ (y:=by intro w' aH;have h1:=(aH.1.cell 2).trans (show _=some (Value.int .i64 x.sp) from rfl);go_simp);refine tk 14 (.string r) Hh ?_;refine tk 15 (.int .i64 (r.size:Int)) Hh ?_
   refine tj 16 (.int .i64 q3) Hh ?_ (y:=by intro w' aH;have h1:=hq3;go_simp);refine tk 17 (.agg #[.int .i64 x.ci,.slice A4 (x.n+1) c4,.int .i64 q3]) Hh ?_;refine Aq [8] ?_;refine Rc (fun K hK=>?_) ?_
   ·go_simp;refine (Yk q2 _).mono ?_;rintro e w6 ⟨rfl,hb⟩;simp only [];have fK:=Hd (Vm jC.out hb);have jX:=Hd (HSd.out.after hb hb.size);obtain ⟨k0,k1⟩:=Hh;refine hK.out _ _ ⟨k0.below hb k0.lt,k1.below hb k1.lt⟩ (fun Hh=>?_);clear hK K hb k0 k1;try simp only [Act.put,Sv,Sz,Sw]
    refine tk 18 (.string (Vu q2)) Hh ?_;refine Aq [19] ?_;refine Rc (fun K hK=>?_) ?_
    ·refine wp_store_row 152 _ _ rfl (w.heap.size+2) #[.int .i64 x.ci,.slice A4 (x.n+1) c4,.int .i64 q3] rfl rfl 152 _ fK.out.b3 (by kernel_rfl) rfl (by simp [Value.oneCell']) ?_;obtain ⟨k0,k1⟩:=Hh;have fM:Below (w.heap.size+2) w6 (w6.setRow (w.heap.size+2) #[.int .i64 x.ci,.slice A4 (x.n+1) c4,.int .i64 q3]):=U6 (Bf _ _) (Le _) _;refine hK.out _ _ ⟨k0.below fM (by omega),k1.below fM (by omega)⟩ (fun Hh=>?_);clear hK K k0 k1 Hh fM;refine Ad (by kernel_rfl) ?_ _;go_wp2;have cB:=Ya (w6.setRow (w.heap.size+2) #[.int .i64 x.ci,.slice A4 (x.n+1) c4,.int .i64 q3]) (w.heap.size+2) #[.int .i64 x.ci,.slice A4 (x.n+1) c4,.int .i64 q3] (setRow_heap _ _ _ _ _ _ fK.out.b3) rfl
     exact Br (v:=.tuple #[.string (Vu q2),.agg #[.int .i64 x.ci,.slice A4 (x.n+1) c4,.int .i64 q3]]) (Vv Tryz.results86 rfl rfl cB) rfl ⟨⟨x.ci,A4,x.n+1,c4,x.rs++[r],q3⟩,by rw [HQ.out];rfl,by rw [HQ.out],Xy (jX.out) _ _ (fun a ha=>by have:=iJ.out a ha;omega),(fun a ha=>by have:=iJ.out a ha;omega),U6 fK.out.be (by omega) _⟩
    exact An
   exact An
  |false=>
   have HNF:Hid (¬ (0<x.ci∧Kz d.itv (x.rs++[r])=true)):=Hd (by rw [hft];simp);have HFT:=Hd hft;clear hft
   go_wp2_with (first|(go_at_call 120;refine fG.out.mono ?_;rintro e w2 ⟨v,rfl,aD,hb⟩;have fU:=Hd (Vm HE.out hb);have fW:=Hd aD;have cF:=Hd (Vw w2 [.string r] 9 1 1 rfl);clear aD hb e1)|(at_builtin;go_must (refine U5 _ rfl _ _ 150 rfl (((w.alloc (.cells (edC x).toArray 152)).alloc (.cells (dC d).toArray 27)).alloc (.cells zEd.toArray 152)).heap.size 9 i0 _ 1 16 Tryz.underlying150 aU aW aK aR rfl (by decide) v x.n (Ub Ui x.rs) rfl (fW.out.alloc _) (w2.heap.size+1) (some ⟨w2.heap.size,0,none⟩) 1 1 [.string r] rfl cF.out (Vl r) (by have:=fV.out;unfold maxLen;omega) (by have:=fV.out;omega) (by have:=fU.out.sz;simp;omega) ?_;intro v' w4 aD aO _;obtain ⟨A4,c4,rfl,_⟩:=Ue aD;have iJ:Hid (∀ a,A4=some a→w.heap.size+3≤a.block):=Hd (fun a ha=>by subst ha;have:=(aD.lt _ rfl).1;simp at this;omega);have jT:=Hd (en_grown fU.out aO (fun k hk=>by have:=(fW.out.lt k hk).1;simp at this;omega));have HS4:Hid (Sl Ui 1 w4 w4.heap.size A4 (x.n+1) c4 (x.rs++[r])):=Hd (Sl.of_own (f:=Ui) (fun _=>rfl) (by decide) (by rw [Vb,Va];exact aD));have f0:=(jT.out.b1.cell 0).trans (show _=some (Value.int .i64 x.ci) from rfl);have f2:=(jT.out.b1.cell 2).trans (show _=some (Value.int .i64 x.sp) from rfl);have f7:=(jT.out.b2.cell 7).trans (show _=some (Value.int .i64 d.itv) from rfl);clear aD aO))|(go_at_call 121;refine (ifits_any d.itv A4 (x.n+1) c4 (x.rs++[r]) w4 HS4.out (by have:=fV.out;omega)).mono ?_;rw [HFT.out];rintro e w5 ⟨rfl,hb⟩;have jA:=Hd (Vm jT.out hb);have HS5:=Hd (HS4.out.after hb hb.size);clear hb f0 f2 f7))
   obtain ⟨q0,hq0⟩:∃ q,IntKind.i64.wrap (x.ci+1)=q:=⟨_,rfl⟩
   obtain ⟨q2,gJ⟩:∃ q,IntKind.i64.wrap (q0*d.itv)=q:=⟨_,rfl⟩
   have HQ:Hid (Vh d r x.ci x.rs x.sp=(Vu q2,(q0,[r],(r.size:Int)))):=Hd (by unfold Vh;rw [if_neg HNF.out,hq0,gJ]);have jC:Hid (EN x d w w5.drew):=Hd (Vm jA.out (Bf _ _).drew);refine Rw (S:=fun w'=>Blk w' w.heap.size 152 (edC x).toArray∧Blk w' (w.heap.size+1) 27 (dC d).toArray) (by kernel_rfl) ⟨jC.out.b1,jC.out.b2⟩ (fun Hh=>?_);refine tk 0 (.pointer (some ⟨w.heap.size,0,none⟩)) Hh ?_;refine tj 1 (.int .i64 x.ci) Hh ?_ (y:=by intro w' aH;have h1:=(aH.1.cell 0).trans (show _=some (Value.int .i64 x.ci) from rfl);go_simp);refine tj 2 (.int .i64 q0) Hh ?_ (y:=by intro w' aH;have h1:=hq0;go_simp);refine tk 3 (.pointer (some ⟨w.heap.size+1,7,none⟩)) Hh ?_;refine tj 4 (.int .i64 d.itv) Hh ?_ (y:=by intro w' aH;have h1:=(aH.2.cell 7).trans (show _=some (Value.int .i64 d.itv) from rfl);go_simp)
   refine tj 5 (.int .i64 q2) Hh ?_ (y:=by intro w' aH;have h1:=gJ;go_simp);refine tk 7 (.pointer (some ⟨w.heap.size,0,none⟩)) Hh ?_;refine tj 8 (.int .i64 x.ci) Hh ?_ (y:=by intro w' aH;have h1:=(aH.1.cell 0).trans (show _=some (Value.int .i64 x.ci) from rfl);go_simp);refine tj 9 (.int .i64 q0) Hh ?_ (y:=by intro w' aH;have h1:=hq0;go_simp);refine tk 10 (.string r) Hh ?_;refine tk 12 (.string r) Hh ?_;refine tk 13 (.int .i64 (r.size:Int)) Hh ?_;refine Aq [6,11] ?_;refine Rc (fun K hK=>?_) ?_
   ·go_simp;refine (Yk q2 _).mono ?_;rintro e w6 ⟨rfl,hb⟩;simp only [];have fK:=Hd (Vm jC.out hb);obtain ⟨k0,k1⟩:=Hh;refine hK.out _ _ ⟨k0.below hb k0.lt,k1.below hb k1.lt⟩ (fun Hh=>?_);clear hK K hb k0 k1;try simp only [Act.put,Sv,Sz,Sw]
    refine tk 15 (.string (Vu q2)) Hh ?_;refine Aq [11] ?_;refine Rc (fun K hK=>?_) ?_
    ·go_simp;have hb:Below w6.heap.size w6 (w6.alloc (.cells #[.string r] 9)):=(Bf _ _).alloc (Le _) _;have eP:=Hd (Vm fK.out hb);have HS8:Hid (Sl Ui 1 (w6.alloc (.cells #[.string r] 9)) (w6.alloc (.cells #[.string r] 9)).heap.size (some ⟨w6.heap.size,0,none⟩) 1 1 [r]):=Hd (Xp (Blk.new w6 _ _));have kH:Hid (∀ a,some (⟨w6.heap.size,0,none⟩:Addr)=some a→w.heap.size+3≤a.block):=Hd (fun a ha=>by injection ha with ha;subst ha;have:=fK.out.sz;show _≤w6.heap.size;omega);obtain ⟨k0,k1⟩:=Hh;refine hK.out _ _ ⟨k0.below hb k0.lt,k1.below hb k1.lt⟩ (fun Hh=>?_);clear hK K hb k0 k1;try simp only [Act.put,Sv,Sz,Sw]
     refine tk 14 (.agg #[.int .i64 q0,.slice (some ⟨w6.heap.size,0,none⟩) 1 1,.int .i64 (r.size:Int)]) Hh ?_;refine Aq [16] ?_;refine Rc (fun K hK=>?_) ?_
     ·refine wp_store_row 152 _ _ rfl (w.heap.size+2) #[.int .i64 q0,.slice (some ⟨w6.heap.size,0,none⟩) 1 1,.int .i64 (r.size:Int)] rfl rfl 152 _ eP.out.b3 (by kernel_rfl) rfl (by simp [Value.oneCell']) ?_;obtain ⟨k0,k1⟩:=Hh;have fM:Below (w.heap.size+2) (w6.alloc (.cells #[.string r] 9)) ((w6.alloc (.cells #[.string r] 9)).setRow (w.heap.size+2) #[.int .i64 q0,.slice (some ⟨w6.heap.size,0,none⟩) 1 1,.int .i64 (r.size:Int)]):=U6 (Bf _ _) (Le _) _;refine hK.out _ _ ⟨k0.below fM (by omega),k1.below fM (by omega)⟩ (fun Hh=>?_);clear hK K k0 k1 Hh fM;refine Ad (by kernel_rfl) ?_ _;go_wp2
      have cB:=Ya ((w6.alloc (.cells #[.string r] 9)).setRow (w.heap.size+2) #[.int .i64 q0,.slice (some ⟨w6.heap.size,0,none⟩) 1 1,.int .i64 (r.size:Int)]) (w.heap.size+2) #[.int .i64 q0,.slice (some ⟨w6.heap.size,0,none⟩) 1 1,.int .i64 (r.size:Int)] (setRow_heap _ _ _ _ _ _ eP.out.b3) rfl;exact Br (v:=.tuple #[.string (Vu q2),.agg #[.int .i64 q0,.slice (some ⟨w6.heap.size,0,none⟩) 1 1,.int .i64 (r.size:Int)]]) (Vv Tryz.results86 rfl rfl cB) rfl ⟨⟨q0,some ⟨w6.heap.size,0,none⟩,1,1,[r],r.size⟩,by rw [HQ.out];rfl,by rw [HQ.out],Xy (HS8.out) _ _ (fun a ha=>by have:=kH.out a ha;omega),(fun a ha=>by have:=kH.out a ha;omega),U6 eP.out.be (by omega) _⟩
     exact An
    exact An
   refine Rc (fun K hK=>?_) ?_
   ·go_simp;have hb:Below w5.drew.heap.size w5.drew (w5.drew.alloc (.cells #[.string r] 9)):=(Bf _ _).alloc (Le _) _;have fK:=Hd (Vm jC.out hb);have HS8:Hid (Sl Ui 1 (w5.drew.alloc (.cells #[.string r] 9)) (w5.drew.alloc (.cells #[.string r] 9)).heap.size (some ⟨w5.drew.heap.size,0,none⟩) 1 1 [r]):=Hd (Xp (Blk.new w5.drew _ _));have kH:Hid (∀ a,some (⟨w5.drew.heap.size,0,none⟩:Addr)=some a→w.heap.size+3≤a.block):=Hd (fun a ha=>by injection ha with ha;subst ha;have:=jC.out.sz;show _≤w5.drew.heap.size;omega);obtain ⟨k0,k1⟩:=Hh;refine hK.out _ _ ⟨k0.below hb k0.lt,k1.below hb k1.lt⟩ (fun Hh=>?_);clear hK K hb k0 k1;try simp only [Act.put,Sv,Sz,Sw]
    refine tk 14 (.agg #[.int .i64 q0,.slice (some ⟨w5.drew.heap.size,0,none⟩) 1 1,.int .i64 (r.size:Int)]) Hh ?_;refine Aq [6] ?_;refine Rc (fun K hK=>?_) ?_
    ·go_simp;refine (Yk q2 _).mono ?_;rintro e w7 ⟨rfl,hb⟩;simp only [];have eP:=Hd (Vm fK.out hb);have HS9:=Hd (HS8.out.after hb hb.size);obtain ⟨k0,k1⟩:=Hh;refine hK.out _ _ ⟨k0.below hb k0.lt,k1.below hb k1.lt⟩ (fun Hh=>?_);clear hK K hb k0 k1;try simp only [Act.put,Sv,Sz,Sw]
     refine tk 15 (.string (Vu q2)) Hh ?_;refine Aq [16] ?_;refine Rc (fun K hK=>?_) ?_
     ·refine wp_store_row 152 _ _ rfl (w.heap.size+2) #[.int .i64 q0,.slice (some ⟨w5.drew.heap.size,0,none⟩) 1 1,.int .i64 (r.size:Int)] rfl rfl 152 _ eP.out.b3 (by kernel_rfl) rfl (by simp [Value.oneCell']) ?_;obtain ⟨k0,k1⟩:=Hh;have fM:Below (w.heap.size+2) w7 (w7.setRow (w.heap.size+2) #[.int .i64 q0,.slice (some ⟨w5.drew.heap.size,0,none⟩) 1 1,.int .i64 (r.size:Int)]):=U6 (Bf _ _) (Le _) _;refine hK.out _ _ ⟨k0.below fM (by omega),k1.below fM (by omega)⟩ (fun Hh=>?_);clear hK K k0 k1 Hh fM;refine Ad (by kernel_rfl) ?_ _;go_wp2;have cB:=Ya (w7.setRow (w.heap.size+2) #[.int .i64 q0,.slice (some ⟨w5.drew.heap.size,0,none⟩) 1 1,.int .i64 (r.size:Int)]) (w.heap.size+2) #[.int .i64 q0,.slice (some ⟨w5.drew.heap.size,0,none⟩) 1 1,.int .i64 (r.size:Int)] (setRow_heap _ _ _ _ _ _ eP.out.b3) rfl
      exact Br (v:=.tuple #[.string (Vu q2),.agg #[.int .i64 q0,.slice (some ⟨w5.drew.heap.size,0,none⟩) 1 1,.int .i64 (r.size:Int)]]) (Vv Tryz.results86 rfl rfl cB) rfl ⟨⟨q0,some ⟨w5.drew.heap.size,0,none⟩,1,1,[r],r.size⟩,by rw [HQ.out];rfl,by rw [HQ.out],Xy (HS9.out) _ _ (fun a ha=>by have:=kH.out a ha;omega),(fun a ha=>by have:=kH.out a ha;omega),U6 eP.out.be (by omega) _⟩
     exact An
    exact An
   exact An
 ·have HNF:Hid (¬ (0<x.ci∧Kz d.itv (x.rs++[r])=true)):=Hd (fun h=>hci h.1)
  go_wp2_with (first|(go_at_call 120;refine fG.out.mono ?_;rintro e w2 ⟨v,rfl,aD,hb⟩;have fU:=Hd (Vm HE.out hb);have fW:=Hd aD;have cF:=Hd (Vw w2 [.string r] 9 1 1 rfl);clear aD hb e1)|(at_builtin;go_must (refine U5 _ rfl _ _ 150 rfl (((w.alloc (.cells (edC x).toArray 152)).alloc (.cells (dC d).toArray 27)).alloc (.cells zEd.toArray 152)).heap.size 9 i0 _ 1 16 Tryz.underlying150 aU aW aK aR rfl (by decide) v x.n (Ub Ui x.rs) rfl (fW.out.alloc _) (w2.heap.size+1) (some ⟨w2.heap.size,0,none⟩) 1 1 [.string r] rfl cF.out (Vl r) (by have:=fV.out;unfold maxLen;omega) (by have:=fV.out;omega) (by have:=fU.out.sz;simp;omega) ?_;intro v' w4 aD aO _;obtain ⟨A4,c4,rfl,_⟩:=Ue aD;have iJ:Hid (∀ a,A4=some a→w.heap.size+3≤a.block):=Hd (fun a ha=>by subst ha;have:=(aD.lt _ rfl).1;simp at this;omega);have jT:=Hd (en_grown fU.out aO (fun k hk=>by have:=(fW.out.lt k hk).1;simp at this;omega));have HS4:Hid (Sl Ui 1 w4 w4.heap.size A4 (x.n+1) c4 (x.rs++[r])):=Hd (Sl.of_own (f:=Ui) (fun _=>rfl) (by decide) (by rw [Vb,Va];exact aD));have f0:=(jT.out.b1.cell 0).trans (show _=some (Value.int .i64 x.ci) from rfl);have f2:=(jT.out.b1.cell 2).trans (show _=some (Value.int .i64 x.sp) from rfl);have f7:=(jT.out.b2.cell 7).trans (show _=some (Value.int .i64 d.itv) from rfl);clear aD aO)))
  obtain ⟨q0,hq0⟩:∃ q,IntKind.i64.wrap (x.ci+1)=q:=⟨_,rfl⟩
  obtain ⟨q2,gJ⟩:∃ q,IntKind.i64.wrap (q0*d.itv)=q:=⟨_,rfl⟩
  have HQ:Hid (Vh d r x.ci x.rs x.sp=(Vu q2,(q0,[r],(r.size:Int)))):=Hd (by unfold Vh;rw [if_neg HNF.out,hq0,gJ]);have jC:Hid (EN x d w w4.drew):=Hd (Vm jT.out (Bf _ _).drew);refine Rw (S:=fun w'=>Blk w' w.heap.size 152 (edC x).toArray∧Blk w' (w.heap.size+1) 27 (dC d).toArray) (by kernel_rfl) ⟨jC.out.b1,jC.out.b2⟩ (fun Hh=>?_);refine tk 0 (.pointer (some ⟨w.heap.size,0,none⟩)) Hh ?_;refine tj 1 (.int .i64 x.ci) Hh ?_ (y:=by intro w' aH;have h1:=(aH.1.cell 0).trans (show _=some (Value.int .i64 x.ci) from rfl);go_simp);refine tj 2 (.int .i64 q0) Hh ?_ (y:=by intro w' aH;have h1:=hq0;go_simp);refine tk 3 (.pointer (some ⟨w.heap.size+1,7,none⟩)) Hh ?_;refine tj 4 (.int .i64 d.itv) Hh ?_ (y:=by intro w' aH;have h1:=(aH.2.cell 7).trans (show _=some (Value.int .i64 d.itv) from rfl);go_simp)
  refine tj 5 (.int .i64 q2) Hh ?_ (y:=by intro w' aH;have h1:=gJ;go_simp);refine tk 7 (.pointer (some ⟨w.heap.size,0,none⟩)) Hh ?_;refine tj 8 (.int .i64 x.ci) Hh ?_ (y:=by intro w' aH;have h1:=(aH.1.cell 0).trans (show _=some (Value.int .i64 x.ci) from rfl);go_simp);refine tj 9 (.int .i64 q0) Hh ?_ (y:=by intro w' aH;have h1:=hq0;go_simp);refine tk 10 (.string r) Hh ?_;refine tk 12 (.string r) Hh ?_;refine tk 13 (.int .i64 (r.size:Int)) Hh ?_;refine Aq [6,11] ?_;refine Rc (fun K hK=>?_) ?_
  ·go_simp;refine (Yk q2 _).mono ?_;rintro e w6 ⟨rfl,hb⟩;simp only [];have fK:=Hd (Vm jC.out hb);obtain ⟨k0,k1⟩:=Hh;refine hK.out _ _ ⟨k0.below hb k0.lt,k1.below hb k1.lt⟩ (fun Hh=>?_);clear hK K hb k0 k1;try simp only [Act.put,Sv,Sz,Sw]
   refine tk 15 (.string (Vu q2)) Hh ?_;refine Aq [11] ?_;refine Rc (fun K hK=>?_) ?_
   ·go_simp;have hb:Below w6.heap.size w6 (w6.alloc (.cells #[.string r] 9)):=(Bf _ _).alloc (Le _) _;have eP:=Hd (Vm fK.out hb);have HS8:Hid (Sl Ui 1 (w6.alloc (.cells #[.string r] 9)) (w6.alloc (.cells #[.string r] 9)).heap.size (some ⟨w6.heap.size,0,none⟩) 1 1 [r]):=Hd (Xp (Blk.new w6 _ _));have kH:Hid (∀ a,some (⟨w6.heap.size,0,none⟩:Addr)=some a→w.heap.size+3≤a.block):=Hd (fun a ha=>by injection ha with ha;subst ha;have:=fK.out.sz;show _≤w6.heap.size;omega);obtain ⟨k0,k1⟩:=Hh;refine hK.out _ _ ⟨k0.below hb k0.lt,k1.below hb k1.lt⟩ (fun Hh=>?_);clear hK K hb k0 k1;try simp only [Act.put,Sv,Sz,Sw]
    refine tk 14 (.agg #[.int .i64 q0,.slice (some ⟨w6.heap.size,0,none⟩) 1 1,.int .i64 (r.size:Int)]) Hh ?_;refine Aq [16] ?_;refine Rc (fun K hK=>?_) ?_
    ·refine wp_store_row 152 _ _ rfl (w.heap.size+2) #[.int .i64 q0,.slice (some ⟨w6.heap.size,0,none⟩) 1 1,.int .i64 (r.size:Int)] rfl rfl 152 _ eP.out.b3 (by kernel_rfl) rfl (by simp [Value.oneCell']) ?_;obtain ⟨k0,k1⟩:=Hh;have fM:Below (w.heap.size+2) (w6.alloc (.cells #[.string r] 9)) ((w6.alloc (.cells #[.string r] 9)).setRow (w.heap.size+2) #[.int .i64 q0,.slice (some ⟨w6.heap.size,0,none⟩) 1 1,.int .i64 (r.size:Int)]):=U6 (Bf _ _) (Le _) _;refine hK.out _ _ ⟨k0.below fM (by omega),k1.below fM (by omega)⟩ (fun Hh=>?_);clear hK K k0 k1 Hh fM;refine Ad (by kernel_rfl) ?_ _;go_wp2
     have cB:=Ya ((w6.alloc (.cells #[.string r] 9)).setRow (w.heap.size+2) #[.int .i64 q0,.slice (some ⟨w6.heap.size,0,none⟩) 1 1,.int .i64 (r.size:Int)]) (w.heap.size+2) #[.int .i64 q0,.slice (some ⟨w6.heap.size,0,none⟩) 1 1,.int .i64 (r.size:Int)] (setRow_heap _ _ _ _ _ _ eP.out.b3) rfl;exact Br (v:=.tuple #[.string (Vu q2),.agg #[.int .i64 q0,.slice (some ⟨w6.heap.size,0,none⟩) 1 1,.int .i64 (r.size:Int)]]) (Vv Tryz.results86 rfl rfl cB) rfl ⟨⟨q0,some ⟨w6.heap.size,0,none⟩,1,1,[r],r.size⟩,by rw [HQ.out];rfl,by rw [HQ.out],Xy (HS8.out) _ _ (fun a ha=>by have:=kH.out a ha;omega),(fun a ha=>by have:=kH.out a ha;omega),U6 eP.out.be (by omega) _⟩
    exact An
   exact An
  refine Rc (fun K hK=>?_) ?_
  ·go_simp;have hb:Below w4.drew.heap.size w4.drew (w4.drew.alloc (.cells #[.string r] 9)):=(Bf _ _).alloc (Le _) _;have fK:=Hd (Vm jC.out hb);have HS8:Hid (Sl Ui 1 (w4.drew.alloc (.cells #[.string r] 9)) (w4.drew.alloc (.cells #[.string r] 9)).heap.size (some ⟨w4.drew.heap.size,0,none⟩) 1 1 [r]):=Hd (Xp (Blk.new w4.drew _ _));have kH:Hid (∀ a,some (⟨w4.drew.heap.size,0,none⟩:Addr)=some a→w.heap.size+3≤a.block):=Hd (fun a ha=>by injection ha with ha;subst ha;have:=jC.out.sz;show _≤w4.drew.heap.size;omega);obtain ⟨k0,k1⟩:=Hh;refine hK.out _ _ ⟨k0.below hb k0.lt,k1.below hb k1.lt⟩ (fun Hh=>?_);clear hK K hb k0 k1;try simp only [Act.put,Sv,Sz,Sw]
   refine tk 14 (.agg #[.int .i64 q0,.slice (some ⟨w4.drew.heap.size,0,none⟩) 1 1,.int .i64 (r.size:Int)]) Hh ?_;refine Aq [6] ?_;refine Rc (fun K hK=>?_) ?_
   ·go_simp;refine (Yk q2 _).mono ?_;rintro e w7 ⟨rfl,hb⟩;simp only [];have eP:=Hd (Vm fK.out hb);have HS9:=Hd (HS8.out.after hb hb.size);obtain ⟨k0,k1⟩:=Hh;refine hK.out _ _ ⟨k0.below hb k0.lt,k1.below hb k1.lt⟩ (fun Hh=>?_);clear hK K hb k0 k1;try simp only [Act.put,Sv,Sz,Sw]
    refine tk 15 (.string (Vu q2)) Hh ?_;refine Aq [16] ?_;refine Rc (fun K hK=>?_) ?_
    ·refine wp_store_row 152 _ _ rfl (w.heap.size+2) #[.int .i64 q0,.slice (some ⟨w4.drew.heap.size,0,none⟩) 1 1,.int .i64 (r.size:Int)] rfl rfl 152 _ eP.out.b3 (by kernel_rfl) rfl (by simp [Value.oneCell']) ?_;obtain ⟨k0,k1⟩:=Hh;have fM:Below (w.heap.size+2) w7 (w7.setRow (w.heap.size+2) #[.int .i64 q0,.slice (some ⟨w4.drew.heap.size,0,none⟩) 1 1,.int .i64 (r.size:Int)]):=U6 (Bf _ _) (Le _) _;refine hK.out _ _ ⟨k0.below fM (by omega),k1.below fM (by omega)⟩ (fun Hh=>?_);clear hK K k0 k1 Hh fM;refine Ad (by kernel_rfl) ?_ _;go_wp2;have cB:=Ya (w7.setRow (w.heap.size+2) #[.int .i64 q0,.slice (some ⟨w4.drew.heap.size,0,none⟩) 1 1,.int .i64 (r.size:Int)]) (w.heap.size+2) #[.int .i64 q0,.slice (some ⟨w4.drew.heap.size,0,none⟩) 1 1,.int .i64 (r.size:Int)] (setRow_heap _ _ _ _ _ _ eP.out.b3) rfl
     exact Br (v:=.tuple #[.string (Vu q2),.agg #[.int .i64 q0,.slice (some ⟨w4.drew.heap.size,0,none⟩) 1 1,.int .i64 (r.size:Int)]]) (Vv Tryz.results86 rfl rfl cB) rfl ⟨⟨q0,some ⟨w4.drew.heap.size,0,none⟩,1,1,[r],r.size⟩,by rw [HQ.out];rfl,by rw [HQ.out],Xy (HS9.out) _ _ (fun a ha=>by have:=kH.out a ha;omega),(fun a ha=>by have:=kH.out a ha;omega),U6 eP.out.be (by omega) _⟩
    exact An
   exact An
  exact An
def behF (d:DSet) (s:Int×List Bz×Int):List Pr→Int×List Bz×Int
 | []=>s
 |p::r=>behF d (Vh d p.rcd s.1 s.2.1 s.2.2).2 r
theorem Fu (d:DSet) (r:Bz) (ci:Int) (rs:List Bz) (sp:Int):(Vh d r ci rs sp).2.2.1.length≤rs.length+1:=by
 unfold Vh;split<;>simp
structure BH (d:DSet) (y:Edn) (w W:Wd):Prop where
 b1:Blk W w.heap.size 27 (dC d).toArray
 b2:Blk W (w.heap.size+1) 152 zEd.toArray
 b3:Blk W (w.heap.size+2) 152 (edC y).toArray
 sl:Sl Ui 1 W W.heap.size y.A y.n y.c y.rs
 na:∀ a,y.A=some a→w.heap.size+3≤a.block
 be:Below w.heap.size w W
 sz:w.heap.size+3≤W.heap.size
theorem bh_next {d:DSet} {y:Edn} {w W W':Wd} (h:BH d y w W) (hb:Below W.heap.size W W'):BH d y w W':=
 ⟨h.b1.below hb h.b1.lt,h.b2.below hb h.b2.lt,h.b3.below hb h.b3.lt,h.sl.after hb hb.size,h.na,U0 h.be hb h.be.size,Lx h.sz hb.size⟩
theorem bh_set {d:DSet} {y z:Edn} {w W:Wd} (h:BH d y w W) (hs:Sl Ui 1 W W.heap.size z.A z.n z.c z.rs) (hz:∀ a,z.A=some a→w.heap.size+3≤a.block):BH d z w (W.setRow (w.heap.size+2) (edC z).toArray):=
 have hb:Below (w.heap.size+2) W (W.setRow (w.heap.size+2) (edC z).toArray):=U6 (Bf _ _) (Le _) _
 ⟨h.b1.below hb (by omega),h.b2.below hb (by omega),setRow_heap _ _ _ _ _ _ h.b3,Xy hs _ _ (fun a ha=>by have:=hz a ha;omega),hz,U6 h.be (by omega) _,by rw [size_setRow];exact h.sz⟩
theorem bh_new (d:DSet) (w:Wd):BH d ⟨0,none,0,0,[],0⟩ w (((w.alloc (.cells (dC d).toArray 27)).alloc (.cells zEd.toArray 152)).alloc (.cells zEd.toArray 152)):=
 ⟨((Blk.new w _ _).alloc _).alloc _,(U3 (w.alloc _) _ _ _ (by simp)).alloc _,U3 ((w.alloc _).alloc _) _ _ _ (by simp),Sl.nil,fun a ha=>by simp at ha,(((Bf _ _).alloc (Le _) _).alloc (by simp) _).alloc (by simp;omega) _,by simp⟩
def BhG (d:DSet) (n:Nat) (l:List Pr) (w:Wd) (e:Ending) (w':Wd):Prop:=∃ y:Edn,e = .returned (.agg (edC y).toArray)∧(y.ci,y.rs,y.sp)=behF d (0,[],0) l∧Sl Ui 1 w' w'.heap.size y.A y.n y.c y.rs∧y.n≤n∧(∀ a,y.A=some a→w.heap.size≤a.block)∧Below w.heap.size w w'
theorem behind_any (d:DSet) (A:Option Addr) (n c:Nat) (l:List Pr) (w:Wd) (hs:Sl prC 2 w w.heap.size A n c l) (hn:n≤1999):
  Calls prog 164 #[.agg (dC d).toArray,.slice A n c] w (BhG d n l w):=by
 obtain ⟨R,hR⟩:∃ R,behF d (0,[],0) l=R:=⟨_,rfl⟩
 unfold BhG;rw [hR];have HS:=Hd hs;have HR:=Hd hR;have HL:=Hd hs.len;have HB:=Hd (bh_new d w);clear hs hR;go_enter Tryz.func164,Tryz.ntmps164;go_wp2;go_loopw [10] (fun v10 wr => ∃ (j:Nat) (y:Edn),j≤n∧v10 = .int .i64 j∧behF d (y.ci,y.rs,y.sp) (l.drop j)=R∧y.n≤j∧BH d y w wr) (fun v10 _=>n-(intOf v10).toNat)
 case atStart=>exact ⟨0,_,Z0 _,rfl,HR.out,Le _,HB.out⟩
 case round=>
  obtain ⟨j,y,hj,rfl,aI,hyn,hbh⟩:=hrel;obtain ⟨wx,rfl⟩:∃ z:Wd,z=wr:=⟨_,rfl⟩
  have HBH:=Hd hbh;have aY:=Hd aI;have jG:=Hd hyn;clear hbh aI hyn;by_cases aG:j<n
  ·obtain ⟨b,o,x,rfl,hb,hg,aB⟩:=Sl.cell (f:=prC) (k:=2) (fun _=>rfl) (HS.out.below HBH.out.be) aG;have HM:Hid (wx.rangeAt b (o+j*2) (prC x)):=Hd fun t u hu=>aB t u hu
   have gG:l.drop j=x::l.drop (j+1):=by
    have hlj:j<l.length:=by rw [HL.out];exact aG
    rw [List.drop_eq_getElem_cons hlj];congr 1;rw [List.getElem?_eq_getElem hlj] at hg;injection hg
   have HQ:Hid (behF d (Vh d x.rcd y.ci y.rs y.sp).2 (l.drop (j+1))=R):=Hd (by have h:=aY.out;rw [gG] at h;exact h);have HBn:=Hd fun old=>Blk.new wx 76 old
   have HSn:=Hd fun old=>U1 wx old (prC x).toArray 76
   have fT:Hid ((prC x).toArray.all (·.oneCell')=true):=Hd (by simp [prC,Value.oneCell']);have aQ:Hid (BH d y w (wx.alloc (.cells (prC x).toArray 76))):=Hd (bh_next HBH.out ((Bf _ _).alloc (Le _) _));have c1:(wx.alloc (.cells (prC x).toArray 76)).cell? ⟨wx.heap.size,1,none⟩=some (.string x.rcd):=((Blk.new wx _ _).cell 1).trans rfl;have fV:Hid (Calls prog 86 #[.agg (edC y).toArray,.agg (dC d).toArray,.string x.rcd] (wx.alloc (.cells (prC x).toArray 76)) (NxG d x.rcd y (wx.alloc (.cells (prC x).toArray 76)))):=Hd (next_e d x.rcd y _ aQ.out.sl (by have:=jG.out;omega));clear hb hg aB gG
   go_wp2_with (first|((with_reducible refine Gl 76 12 ?_);refine Ln 76 b (o+j*2) (prC x) HM.out Tryz.underlying76 ?_)|((with_reducible refine Gt 76 7 ?_);refine Lv 76 wx.heap.size (prC x).toArray (HBn.out _) fT.out ?_;rw [HSn.out])|((with_reducible refine Gl 152 5 ?_);refine Lq 152 (w.heap.size+2) (edC y).toArray aQ.out.b3 Tryz.underlying152 ?_)|((with_reducible refine Gl 27 2 ?_);refine Lq 27 w.heap.size (dC d).toArray aQ.out.b1 Tryz.underlying27 ?_)|(go_at_call 86;refine fV.out.mono ?_;rintro e w2 ⟨z,rfl,hz,bP,gV,hb⟩;have HZ:=Hd hz;have aL:=Hd (bh_next aQ.out hb);have cG:=Hd bP;have HNA:Hid (∀ a,z.A=some a→w.heap.size+3≤a.block):=Hd (fun a ha=>by have h1:=gV a ha;have h2:=aQ.out.sz;omega);have j9:Hid ((edC z).toArray.all (·.oneCell')=true):=Hd (by simp [edC,Value.oneCell']);clear hz bP gV hb)|((with_reducible refine Gt 152 5 ?_);refine Lv 152 (w.heap.size+2) (edC z).toArray aL.out.b3 j9.out ?_))
   go_roundw
   case rel=>
    refine ⟨j+1,z,by omega,by go_num,by rw [HZ.out];exact HQ.out,?_,bh_set aL.out cG.out HNA.out⟩;have h1:=cG.out.len;have h2:=HBH.out.sl.len;have h3:=Fu d x.rcd y.ci y.rs y.sp;have h4:z.rs=(Vh d x.rcd y.ci y.rs y.sp).2.2.1:=congrArg (·.2.1) HZ.out;rw [←h4] at h3;have:=jG.out;omega
   case measure=>simp [intOf];omega
  ·obtain rfl:j=n:=by omega
   have hq:(y.ci,y.rs,y.sp)=R:=by
    have h:=aY.out;rw [List.drop_of_length_le (by rw [HL.out];exact Le _)] at h;exact h
   have HQ:=Hd hq;have fT:Hid ((edC y).toArray.all (·.oneCell')=true):=Hd (by simp [edC,Value.oneCell']);clear hq;go_wp2_with (first|((with_reducible refine Gl 152 5 ?_);refine Lq 152 (w.heap.size+2) (edC y).toArray HBH.out.b3 Tryz.underlying152 ?_)|((with_reducible refine Gt 152 4 ?_);refine Lv 152 (w.heap.size+1) (edC y).toArray HBH.out.b2 fT.out ?_));have cB:=Ya (wx.setRow (w.heap.size+1) (edC y).toArray) (w.heap.size+1) (edC y).toArray (setRow_heap _ _ _ _ _ _ HBH.out.b2) rfl;exact Br (v:=.agg (edC y).toArray) (Vr Tryz.results164 rfl cB) rfl ⟨y,rfl,HQ.out,Xy HBH.out.sl _ _ (fun a ha=>by have:=HBH.out.na a ha;omega),jG.out,fun a ha=>by have:=HBH.out.na a ha;omega,U6 HBH.out.be (by omega) _⟩
end Go.Proofs.YtoakknkmjnebjaaGreatDoor
