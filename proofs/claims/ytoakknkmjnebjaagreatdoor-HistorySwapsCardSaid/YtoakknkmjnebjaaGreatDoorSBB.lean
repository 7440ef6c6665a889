/- Of HistorySwaps. -/
import Derived.Test.YtoakknkmjnebjaaGreatDoorSBA
import Derived.Test.YtoakknkmjnebjaaGreatDoorSIS
namespace Go.Proofs.YtoakknkmjnebjaaGreatDoor
open Tryz (prog)
set_option maxRecDepth 100000
set_option maxHeartbeats 4000000
open Go.RowKit
theorem F9 (x:Com):(U7 x).toArray.all (·.oneCell')=true:=by simp [U7,Value.oneCell']
def vC (x:Cnt):Bool:=In x.d x.ap x.ps
def SmC (x:Com):Prop:=∀ c∈x.cs,c.rcd.size≤maxLen∧c.vol.size≤maxLen
theorem begin_any (A:Option Addr) (n c:Nat) (l:List Cnt) (w:Wd) (hs:Sl cnC 23 w w.heap.size A n c l) (hp:∀ x∈l,CW w x) (hn:n≤1024) (hc:Cod w):
  Calls prog 47 #[.slice A n c] w (BegG (Ia vC [] l) w):=
 begin_g vC A n c l w hs hp hn fun x hx W hW=>fwdValid_m x.d x.ap x.pA x.pn x.pc x.ps W ((hp x hx).below hW) (hc.after hW) (hp x hx).rz
theorem aft_at (x:Com) (bs:Nat) (st:List Cnt) (w1 W:Wd) (hx:ComOk w1 w1.heap.size x) (hb:Below w1.heap.size w1 W) (he:bs=w1.heap.size) (hs:SW W bs st) (hcb:Jl x=true) (hz:SmC x) (ht:Sta w1) (hc:Cod w1):
  Calls prog 48 #[.map (some bs),.agg (U7 x).toArray] W (AftG (aft Ud doF x.num x.cs (st.map plC)) bs W):=by
 obtain ⟨h1,h2,h3⟩:=comB_num hcb;refine after_g Ud doF x bs st W hs (hx.after hb hb.size) (by omega) h1 h2 (fun c iR W' hf=>?_) (fun c iR y n hid _ _ W' hf hy=>?_)
 ·exact told_any c W' (hz c iR).1 (ht.after (Z8 hb hf (by omega) hb.size))
 ·exact do_G y n c W' hid hy (hc.after (Z8 hb hf (by omega) hb.size)) (hz c iR).1 (hz c iR).2
noncomputable def Jk (ini:List Cnt) (l:List Com):Int ⊕ List PC:=match Yq l,Ia vC [] ini with
 |some s,some st=>Vs Ud doF s (st.map plC)
 |_,_=>.inl 1
noncomputable def cheF (ini:List Cnt) (l:List Com):Int ⊕ Option (Nat×Nat):=match Yq l,Ia vC [] ini with
 |some s,some st=>chkF Ud doF 0 s (st.map plC)
 |_,_=>.inl 1
def PlayR (R:Int ⊕ List PC) (w:Wd) (e:Ending) (w':Wd):Prop:=match R with
 |.inl er=>er≠0∧e = .returned (.tuple #[.map none,.int .i64 er])∧Below w.heap.size w w'
 |.inr s => ∃ (bs:Nat) (st:List Cnt),st.map plC=s∧e = .returned (.tuple #[.map (some bs),.int .i64 0])∧w.heap.size≤bs∧SW w' bs st∧Below w.heap.size w w'
def PlayC (R:Int ⊕ Option (Nat×Nat)) (pu pr:Nat) (w:Wd) (e:Ending) (w':Wd):Prop:=match R with
 |.inl er=>er≠0∧e = .returned (.tuple #[.map none,.int .i64 er])∧Below w.heap.size w w'
 |.inr none=>(∃ v,e = .returned (.tuple #[v,.int .i64 0]))∧Below w.heap.size w w'
 |.inr (some p)=>(∃ v,e = .returned (.tuple #[v,.int .i64 0]))∧Far [pu,pr] w w'∧w'.cell? ⟨pu,0,none⟩=some (.int .i64 (p.1:Nat))∧w'.cell? ⟨pr,0,none⟩=some (.int .i64 (p.2:Nat))
theorem E7 {r:Option (List Com)} {w:Wd} {e:Ending} {w':Wd} (h:OrdP r w e w'):(match r with
  |none=>e = .returned (.tuple #[.slice none 0 0,.bool false])∧Below w.heap.size w w'
  |some s => ∃ A c,e = .returned (.tuple #[.slice A s.length c,.bool true])∧Cs w' w'.heap.size A s.length c s∧Below w.heap.size w w'):=by
 rcases h with ⟨rfl,h1,h2⟩|⟨s,rfl,A,c,h1,h2,h3⟩
 ·exact ⟨h1,h2⟩
 ·exact ⟨A,c,h1,h2,h3⟩
theorem ord_mem {l s:List Com} (h:Yq l=some s):∀ x∈s,x∈l∧Jl x=true:=by
 unfold Yq at h;split at h
 ·cases h
 ·rename_i ha;split at h
  ·injection h with h
   subst h;intro x hx;rw [J8] at hx
   have hm:x∈l:=by
    rcases hx with hx|hx
    ·cases hx
    ·exact hx
   refine ⟨hm,?_⟩;cases hb:Jl x with
   |true=>rfl
   |false=>exact absurd (List.any_eq_true.2 ⟨x,hm,by simp [hb]⟩) ha
  ·cases h
theorem ord_len {l s:List Com} (h:Yq l=some s):s.length=l.length:=by
 unfold Yq at h;split at h
 ·cases h
 ·split at h
  ·injection h with h
   subst h;rw [Zz];simp
  ·cases h
structure PK (w w1 W:Wd) (st:List Cnt):Prop where
 sw:SW W w1.heap.size st
 be:Below w1.heap.size w1 W
 sz:w1.heap.size+1≤W.heap.size
 b0:Below w.heap.size w w1
theorem PK.next {w w1 W W':Wd} {st:List Cnt} (h:PK w w1 W st) (hb:Below W.heap.size W W'):PK w w1 W' st:=
 ⟨h.sw.below hb,U0 h.be hb (by have:=h.sz;omega),Lx h.sz hb.size,h.b0⟩
theorem PK.far {w w1 W W':Wd} {st st':List Cnt} (h:PK w w1 W st) (hs:SW W' w1.heap.size st') (hf:Far [w1.heap.size] W W'):PK w w1 W' st':=
 ⟨hs,Z8 h.be hf (Le _) h.be.size,Lx h.sz hf.size,h.b0⟩
theorem PK.base {w w1 W:Wd} {st:List Cnt} (h:PK w w1 W st):Below w.heap.size w W:=U0 h.b0 h.be h.b0.size
theorem beg_some {R:Option (List Cnt)} {w:Wd} {e:Ending} {w':Wd} (h:BegG R w e w'):∃ v z,e = .returned (.tuple #[.map v,.bool z])∧Below w.heap.size w w':=by
 unfold BegG at h;cases R with
 |none=>exact ⟨_,_,h.1,h.2⟩
 |some st=>exact ⟨_,_,h.1,h.2.2⟩
theorem play_rep (iA:Option Addr) (im ic:Nat) (ini:List Cnt) (A:Option Addr) (n c:Nat) (l:List Com) (w:Wd) (hi:Sl cnC 23 w w.heap.size iA im ic ini) (hip:∀ x∈ini,CW w x) (him:im≤1024)
  (hs:Cs w w.heap.size A n c l) (hv:∀ x∈l,SmC x) (hn:n≤12) (ht:Sta w) (hc:Cod w):
  Calls prog 20 #[.slice iA im ic,.slice A n c,.func (.func 21) #[] #[]] w (PlayR (Jk ini l) w):=by
 have HO:=Hd (Z6 A n c l w hs (fun x hx y hy=>(hv x hx y hy).2) hn);have eV:=Hd fun W (hW:Below w.heap.size w W)=>begin_any iA im ic ini W (hi.after hW hW.size) (fun x hx=>(hip x hx).below hW) him (hc.after hW)
 obtain ⟨RR,cT⟩:∃ RR,Jk ini l=RR:=⟨_,rfl⟩
 rw [cT];unfold Jk at cT;have HV:=Hd hv;have HT:=Hd ht;have HCD:=Hd hc;have fQ:=hs.1.len;clear hi hip him hs hv ht hc;cases hord:Yq l with
 |none=>
  rw [hord] at HO;have hq:RR = .inl 1:=by rw [←cT,hord]
  have HQ:=Hd hq;clear cT hq hord;go_enter Tryz.func20,Tryz.ntmps20;go_wp2_with (first|(go_at_call 16;refine HO.out.mono ?_;intro e w1 dB;obtain ⟨rfl,aJ⟩:=E7 dB;have aQ:=Hd aJ;clear dB aJ)|(go_at_call 47;refine (eV.out w1 aQ.out).mono ?_;rintro e w2 hg;have dL:∃ v z,e = .returned (.tuple #[.map v,.bool z])∧Below w1.heap.size w1 w2:=beg_some hg;obtain ⟨v,z,rfl,aF⟩:=dL;have aL:=Hd (U0 aQ.out aF aQ.out.size);clear hg aF))
  all_goals
   go_ret2
   rw [HQ.out];exact ⟨by decide,rfl,aL.out⟩
 |some s=>
  have bP:=ord_len hord;have fO:=ord_mem hord;rw [hord] at HO;cases hbeg:Ia vC [] ini with
  |none=>
   rw [hbeg] at eV;have hq:RR = .inl 1:=by rw [←cT,hord,hbeg]
   have HQ:=Hd hq;clear cT hq hord hbeg bP fO;go_enter Tryz.func20,Tryz.ntmps20;go_wp2_with (first|(go_at_call 16;refine HO.out.mono ?_;intro e w1 dB;obtain ⟨A',c',rfl,cL,aJ⟩:=E7 dB;have aQ:=Hd aJ;clear dB cL aJ)|(go_at_call 47;refine (eV.out w1 aQ.out).mono ?_;rintro e w2 ⟨rfl,aF⟩;have aL:=Hd (U0 aQ.out aF aQ.out.size);clear aF))
   go_ret2
   rw [HQ.out];exact ⟨by decide,rfl,aL.out⟩
  |some st0=>
   rw [hbeg] at eV;have hq:Vs Ud doF s (st0.map plC)=RR:=by rw [←cT,hord,hbeg]
   have HQ:=Hd hq;have iB:=Hd fO;obtain ⟨m,hm⟩:∃ m,s.length=m:=⟨_,rfl⟩
   have HM:=Hd hm;have HSM:Hid (m≤12):=Hd (by omega);clear cT hq hord hbeg bP fO fQ hn;go_enter Tryz.func20,Tryz.ntmps20;go_wp2_with (first|(go_at_call 16;refine HO.out.mono ?_;intro e w1 dB;obtain ⟨A',c',rfl,cL,aJ⟩:=E7 dB;rw [hm] at cL ⊢;have fY:=Hd cL;have aQ:=Hd aJ;clear dB cL aJ hm)|(go_at_call 47;refine (eV.out w1 aQ.out).mono ?_;rintro e w2 ⟨rfl,hst,aF⟩;have HPK:Hid (PK w w1 w2 st0):=Hd ⟨hst,aF,hst.sb.lt,aQ.out⟩;clear hst aF));go_loopw [33] (fun i wr => ∃ (j:Nat) (st:List Cnt),j≤m∧i = .int .i64 j∧Vs Ud doF (s.drop j) (st.map plC)=RR∧PK w w1 wr st) (fun i _=>m-(intOf i).toNat)
   case atStart=>exact ⟨0,st0,Z0 _,rfl,HQ.out,HPK.out⟩
   case round=>
    obtain ⟨j,st,hj,rfl,aI,kF⟩:=hrel;obtain ⟨wx,rfl⟩:∃ x:Wd,x=wr:=⟨_,rfl⟩
    have HK:=Hd kF;have kQ:=HSM.out;by_cases aG:j<m
    ·obtain ⟨b,o,x,rfl,hb,hg,aB⟩:=Sl.cell (f:=U7) (k:=4) (fun _=>rfl) (fY.out.1.below kF.be) aG;have kZ:x∈s:=List.mem_of_getElem? hg
     have hd:s.drop j=x::s.drop (j+1):=by
      have hjl:j<s.length:=by rw [HM.out];exact aG
      rw [List.drop_eq_getElem_cons hjl];congr 1;exact (List.getElem?_eq_some_iff.1 hg).2
     rw [hd] at aI;unfold Vs at aI;have HM4:Hid (wx.rangeAt b (o+j*4) (U7 x)):=Hd fun t u hu=>aB t u hu
     have fJ:=Hd (F9 x);have aL:=Hd fun old=>Blk.new wx 34 old
     have bR:=Hd fun old=>U1 wx old (U7 x).toArray 34
     have cX:=Hd (kF.next ((Bf _ _).alloc (Le _) (.cells (U7 x).toArray 34)));have bH:=Hd (Blk.new wx 34 (U7 x).toArray);have HAF:=Hd fun (W:Wd) (h:PK w w1 W st)=>aft_at x w1.heap.size st w1 W (fY.out.2 x kZ) h.be rfl h.sw (iB.out x kZ).2 (HV.out x (iB.out x kZ).1) (HT.out.after aQ.out) (HCD.out.after aQ.out)
     have bE:=Hd aG;clear hb hg aB hd kF kZ aG;cases hav:aft Ud doF x.num x.cs (st.map plC) with
     |inl er=>
      rw [hav] at aI;have HR:=Hd aI;have HAV:=Hd hav;clear aI hav
      go_wp2_with (first|((with_reducible refine Gl 34 36 ?_);refine Ln 34 b (o+j*4) (U7 x) HM4.out Tryz.underlying34 ?_)|((with_reducible refine Gt 34 13 ?_);refine Lv 34 wx.heap.size (U7 x).toArray (aL.out _) fJ.out ?_;rw [bR.out])|((with_reducible refine Gl 34 13 ?_);refine Lq 34 wx.heap.size _ bH.out Tryz.underlying34 ?_)|(go_at_call 21;refine (replay1_g x j w1.heap.size _).mono ?_;rintro e w3 ⟨rfl,b7⟩;have kL:=Hd (cX.out.next b7);have b8:=Hd (bH.out.below b7 (by simp));clear b7 bH)|((with_reducible refine Gl 34 13 ?_);refine Lq 34 wx.heap.size _ b8.out Tryz.underlying34 ?_)|(go_at_call 48;refine (HAF.out _ kL.out).mono ?_;intro e w4 ha;rw [HAV.out] at ha;obtain ⟨j7,rfl,jY⟩:=ha;have HNE0:=Hd j7;have eG:(er != 0)=true:=(by simpa using j7);have cD:=Hd (U0 aQ.out (Z8 kL.out.be jY (Le _) kL.out.be.size) aQ.out.size);clear jY j7))
      go_ret2
      rw [←HR.out];exact ⟨HNE0.out,rfl,cD.out⟩
     |inr s1=>
      rw [hav] at aI;have HR:=Hd aI;have HAV:=Hd hav;clear aI hav
      go_wp2_with (first|((with_reducible refine Gl 34 36 ?_);refine Ln 34 b (o+j*4) (U7 x) HM4.out Tryz.underlying34 ?_)|((with_reducible refine Gt 34 13 ?_);refine Lv 34 wx.heap.size (U7 x).toArray (aL.out _) fJ.out ?_;rw [bR.out])|((with_reducible refine Gl 34 13 ?_);refine Lq 34 wx.heap.size _ bH.out Tryz.underlying34 ?_)|(go_at_call 21;refine (replay1_g x j w1.heap.size _).mono ?_;rintro e w3 ⟨rfl,b7⟩;have kL:=Hd (cX.out.next b7);have b8:=Hd (bH.out.below b7 (by simp));clear b7 bH)|((with_reducible refine Gl 34 13 ?_);refine Lq 34 wx.heap.size _ b8.out Tryz.underlying34 ?_)|(go_at_call 48;refine (HAF.out _ kL.out).mono ?_;intro e w4 ha;rw [HAV.out] at ha;obtain ⟨st4,hst4,rfl,hsw4,jY⟩:=ha;have HST4:=Hd hst4;have jW:=Hd (kL.out.far hsw4 jY);clear hst4 hsw4 jY))
      go_roundw
      case rel=>exact ⟨j+1,st4,by have:=bE.out;omega,by go_num,by rw [HST4.out];exact HR.out,jW.out⟩
      case measure=>simp [intOf];have:=bE.out;omega
    ·obtain rfl:j=m:=by omega
     have gJ:RR = .inr (st.map plC):=by rw [←aI,List.drop_of_length_le (by rw [HM.out];exact Le _)];rfl
     have iO:=Hd gJ;clear gJ aI kF;go_wp2
     go_ret2
     rw [iO.out];exact ⟨w1.heap.size,st,rfl,rfl,aQ.out.size,HK.out.sw,HK.out.base⟩
theorem play_chk (iA:Option Addr) (im ic:Nat) (ini:List Cnt) (A:Option Addr) (n c:Nat) (l:List Com) (w:Wd) (pu pr:Nat) (hu:Blk w pu 3 #[.int .i64 (-1)]) (hp:Blk w pr 3 #[.int .i64 (-1)]) (aZ:pu≠pr) (hi:Sl cnC 23 w w.heap.size iA im ic ini) (hip:∀ x∈ini,CW w x) (him:im≤1024)
  (hs:Cs w w.heap.size A n c l) (hv:∀ x∈l,SmC x) (hn:n≤12) (ht:Sta w) (hc:Cod w):
  Calls prog 20 #[.slice iA im ic,.slice A n c,.func (.func 25) #[] #[.pointer (some ⟨pu,0,none⟩),.pointer (some ⟨pr,0,none⟩)]] w (PlayC (cheF ini l) pu pr w):=by
 have HO:=Hd (Z6 A n c l w hs (fun x hx y hy=>(hv x hx y hy).2) hn);have eV:=Hd fun W (hW:Below w.heap.size w W)=>begin_any iA im ic ini W (hi.after hW hW.size) (fun x hx=>(hip x hx).below hW) him (hc.after hW)
 obtain ⟨RR,cT⟩:∃ RR,cheF ini l=RR:=⟨_,rfl⟩
 rw [cT];unfold cheF at cT;have HV:=Hd hv;have HT:=Hd ht;have HCD:=Hd hc;have HU:=Hd hu;have HP:=Hd hp;have eY:=Hd aZ;clear hu hp aZ;have fQ:=hs.1.len;clear hi hip him hs hv ht hc;cases hord:Yq l with
 |none=>
  rw [hord] at HO;have hq:RR = .inl 1:=by rw [←cT,hord]
  have HQ:=Hd hq;clear cT hq hord;go_enter Tryz.func20,Tryz.ntmps20;go_wp2_with (first|(go_at_call 16;refine HO.out.mono ?_;intro e w1 dB;obtain ⟨rfl,aJ⟩:=E7 dB;have aQ:=Hd aJ;clear dB aJ)|(go_at_call 47;refine (eV.out w1 aQ.out).mono ?_;rintro e w2 hg;have dL:∃ v z,e = .returned (.tuple #[.map v,.bool z])∧Below w1.heap.size w1 w2:=beg_some hg;obtain ⟨v,z,rfl,aF⟩:=dL;have aL:=Hd (U0 aQ.out aF aQ.out.size);clear hg aF))
  all_goals
   go_ret2
   rw [HQ.out];exact ⟨by decide,rfl,aL.out⟩
 |some s=>
  have bP:=ord_len hord;have fO:=ord_mem hord;rw [hord] at HO;cases hbeg:Ia vC [] ini with
  |none=>
   rw [hbeg] at eV;have hq:RR = .inl 1:=by rw [←cT,hord,hbeg]
   have HQ:=Hd hq;clear cT hq hord hbeg bP fO;go_enter Tryz.func20,Tryz.ntmps20;go_wp2_with (first|(go_at_call 16;refine HO.out.mono ?_;intro e w1 dB;obtain ⟨A',c',rfl,cL,aJ⟩:=E7 dB;have aQ:=Hd aJ;clear dB cL aJ)|(go_at_call 47;refine (eV.out w1 aQ.out).mono ?_;rintro e w2 ⟨rfl,aF⟩;have aL:=Hd (U0 aQ.out aF aQ.out.size);clear aF))
   go_ret2
   rw [HQ.out];exact ⟨by decide,rfl,aL.out⟩
  |some st0=>
   rw [hbeg] at eV;have hq:chkF Ud doF 0 s (st0.map plC)=RR:=by rw [←cT,hord,hbeg]
   have HQ:=Hd hq;have iB:=Hd fO;obtain ⟨m,hm⟩:∃ m,s.length=m:=⟨_,rfl⟩
   have HM:=Hd hm;have HSM:Hid (m≤12):=Hd (by omega);clear cT hq hord hbeg bP fO fQ hn;go_enter Tryz.func20,Tryz.ntmps20;go_wp2_with (first|(go_at_call 16;refine HO.out.mono ?_;intro e w1 dB;obtain ⟨A',c',rfl,cL,aJ⟩:=E7 dB;rw [hm] at cL ⊢;have fY:=Hd cL;have aQ:=Hd aJ;clear dB cL aJ hm)|(go_at_call 47;refine (eV.out w1 aQ.out).mono ?_;rintro e w2 ⟨rfl,hst,aF⟩;have HPK:Hid (PK w w1 w2 st0):=Hd ⟨hst,aF,hst.sb.lt,aQ.out⟩;clear hst aF));go_loopw [33] (fun i wr => ∃ (j:Nat) (st:List Cnt),j≤m∧i = .int .i64 j∧chkF Ud doF j (s.drop j) (st.map plC)=RR∧PK w w1 wr st) (fun i _=>m-(intOf i).toNat)
   case atStart=>exact ⟨0,st0,Z0 _,rfl,HQ.out,HPK.out⟩
   case round=>
    obtain ⟨j,st,hj,rfl,aI,kF⟩:=hrel;obtain ⟨wx,rfl⟩:∃ x:Wd,x=wr:=⟨_,rfl⟩
    have HK:=Hd kF;have kQ:=HSM.out;by_cases aG:j<m
    ·obtain ⟨b,o,x,rfl,hb,hg,aB⟩:=Sl.cell (f:=U7) (k:=4) (fun _=>rfl) (fY.out.1.below kF.be) aG;have kZ:x∈s:=List.mem_of_getElem? hg
     have hd:s.drop j=x::s.drop (j+1):=by
      have hjl:j<s.length:=by rw [HM.out];exact aG
      rw [List.drop_eq_getElem_cons hjl];congr 1;exact (List.getElem?_eq_some_iff.1 hg).2
     rw [hd] at aI;unfold chkF at aI;have HM4:Hid (wx.rangeAt b (o+j*4) (U7 x)):=Hd fun t u hu=>aB t u hu
     have fJ:=Hd (F9 x);have aL:=Hd fun old=>Blk.new wx 34 old
     have bR:=Hd fun old=>U1 wx old (U7 x).toArray 34
     have cX:=Hd (kF.next ((Bf _ _).alloc (Le _) (.cells (U7 x).toArray 34)));have bH:=Hd (Blk.new wx 34 (U7 x).toArray);have HAF:=Hd fun (W:Wd) (h:PK w w1 W st)=>aft_at x w1.heap.size st w1 W (fY.out.2 x kZ) h.be rfl h.sw (iB.out x kZ).2 (HV.out x (iB.out x kZ).1) (HT.out.after aQ.out) (HCD.out.after aQ.out)
     have bE:=Hd aG;have HUX:=Hd (HU.out.below cX.out.base HU.out.lt);have HPX:=Hd (HP.out.below cX.out.base HP.out.lt);have bN:=Hd (check1_g x j pu pr w1.heap.size (-1) (-1) st _ cX.out.sw ((fY.out.2 x kZ).1.after cX.out.be cX.out.be.size) (fY.out.2 x kZ).2.2.1 HUX.out HPX.out eY.out);clear hb hg aB hd kF kZ aG;by_cases hfi:x.rs.findIdx (G8 (st.map plC))<x.rs.length
     ·have cY:Sum.inr (some (j,x.rs.findIdx (G8 (st.map plC))))=RR:=by
       rw [←aI,if_pos (show x.rs.findIdx (fun r => !Vy (Zj (st.map plC) r.id) r)<x.rs.length from hfi)];rfl
      have HR:=Hd cY;have HFI:=Hd hfi;clear aI cY hfi;go_wp2_with (first|((with_reducible refine Gl 34 36 ?_);refine Ln 34 b (o+j*4) (U7 x) HM4.out Tryz.underlying34 ?_)|((with_reducible refine Gt 34 13 ?_);refine Lv 34 wx.heap.size (U7 x).toArray (aL.out _) fJ.out ?_;rw [bR.out])|((with_reducible refine Gl 34 13 ?_);refine Lq 34 wx.heap.size _ bH.out Tryz.underlying34 ?_)|(go_at_call 25;refine bN.out.mono ?_;intro e w3 dB;unfold Chk1P at dB;rw [if_pos HFI.out] at dB;obtain ⟨rfl,hf3,h31,h32⟩:=dB;have HF3:=Hd hf3;have H31:=Hd h31;have H32:=Hd h32;clear hf3 h31 h32))
      go_ret2
      rw [←HR.out];exact ⟨⟨_,rfl⟩,(Far.of_below cX.out.base).trans HF3.out,H31.out,H32.out⟩
     ·have cY:=aI;rw [if_neg (show ¬ x.rs.findIdx (fun r => !Vy (Zj (st.map plC) r.id) r)<x.rs.length from hfi)] at cY;have HFI:=Hd hfi;clear aI hfi;cases hav:aft Ud doF x.num x.cs (st.map plC) with
      |inl er=>
       rw [hav] at cY;have HR:=Hd cY;have HAV:=Hd hav;clear cY hav
       go_wp2_with (first|((with_reducible refine Gl 34 36 ?_);refine Ln 34 b (o+j*4) (U7 x) HM4.out Tryz.underlying34 ?_)|((with_reducible refine Gt 34 13 ?_);refine Lv 34 wx.heap.size (U7 x).toArray (aL.out _) fJ.out ?_;rw [bR.out])|((with_reducible refine Gl 34 13 ?_);refine Lq 34 wx.heap.size _ bH.out Tryz.underlying34 ?_)|(go_at_call 25;refine bN.out.mono ?_;intro e w3 dB;unfold Chk1P at dB;rw [if_neg HFI.out] at dB;obtain ⟨rfl,b7⟩:=dB;have kL:=Hd (cX.out.next b7);have b8:=Hd (bH.out.below b7 (by simp));clear b7 bH)|((with_reducible refine Gl 34 13 ?_);refine Lq 34 wx.heap.size _ b8.out Tryz.underlying34 ?_)|(go_at_call 48;refine (HAF.out _ kL.out).mono ?_;intro e w4 ha;rw [HAV.out] at ha;obtain ⟨j7,rfl,jY⟩:=ha;have HNE0:=Hd j7;have eG:(er != 0)=true:=(by simpa using j7);have cD:=Hd (U0 aQ.out (Z8 kL.out.be jY (Le _) kL.out.be.size) aQ.out.size);clear jY j7))
       go_ret2
       rw [←HR.out];exact ⟨HNE0.out,rfl,cD.out⟩
      |inr s1=>
       rw [hav] at cY;have HR:=Hd cY;have HAV:=Hd hav;clear cY hav
       go_wp2_with (first|((with_reducible refine Gl 34 36 ?_);refine Ln 34 b (o+j*4) (U7 x) HM4.out Tryz.underlying34 ?_)|((with_reducible refine Gt 34 13 ?_);refine Lv 34 wx.heap.size (U7 x).toArray (aL.out _) fJ.out ?_;rw [bR.out])|((with_reducible refine Gl 34 13 ?_);refine Lq 34 wx.heap.size _ bH.out Tryz.underlying34 ?_)|(go_at_call 25;refine bN.out.mono ?_;intro e w3 dB;unfold Chk1P at dB;rw [if_neg HFI.out] at dB;obtain ⟨rfl,b7⟩:=dB;have kL:=Hd (cX.out.next b7);have b8:=Hd (bH.out.below b7 (by simp));clear b7 bH)|((with_reducible refine Gl 34 13 ?_);refine Lq 34 wx.heap.size _ b8.out Tryz.underlying34 ?_)|(go_at_call 48;refine (HAF.out _ kL.out).mono ?_;intro e w4 ha;rw [HAV.out] at ha;obtain ⟨st4,hst4,rfl,hsw4,jY⟩:=ha;have HST4:=Hd hst4;have jW:=Hd (kL.out.far hsw4 jY);clear hst4 hsw4 jY))
       go_roundw
       case rel=>exact ⟨j+1,st4,by have:=bE.out;omega,by go_num,by rw [HST4.out];exact HR.out,jW.out⟩
       case measure=>simp [intOf];have:=bE.out;omega
    ·obtain rfl:j=m:=by omega
     have gJ:RR = .inr none:=by rw [←aI,List.drop_of_length_le (by rw [HM.out];exact Le _)];rfl
     have iO:=Hd gJ;clear gJ aI kF;go_wp2
     go_ret2
     rw [iO.out];exact ⟨⟨_,rfl⟩,HK.out.base⟩
section
open Go.Maps Go.Sort Go.Shelf
def rE:Value→Option (DataW Unit×List MemPlace):=fun _=>some (.nil,[])
theorem rd_sb {e:MapEntry} {i:Int} (hk:e.key = .int .i64 i) (hw:(Lit.int .i64 i).wf=true):WideElems.rd (H:=Unit) prog 3 rE e=some (.int .i64 i,.nil):=by
 simp [WideElems.rd,hk,keyOf_int_mk Tryz.underlying3 hw,rE]
theorem ents_read:∀ (es:List MapEntry) (st:List Cnt),Ent es st→(∀ x∈st,(Lit.int .i64 x.d.id).wf=true) →
  (∀ e∈es,∃ y,WideElems.rd (H:=Unit) prog 3 rE e=some y)∧(es.map (WideElems.rg (H:=Unit) prog 3 rE)).map (fun p=>Go.intOf p.1)=st.map (·.d.id)
 | [],st,h,_=>by
  obtain rfl:=h.nil_l;exact ⟨fun e he=>(by cases he),rfl⟩
 |e::es,st,h,hw=>by
  obtain ⟨x,r,rfl,hk,hv,ht⟩:=h.cons_l;have h1:=rd_sb hk (hw x List.mem_cons_self);obtain ⟨h2,h3⟩:=ents_read es r ht fun y hy=>hw y (List.mem_cons_of_mem _ hy)
  refine ⟨fun y hy=>?_,?_⟩
  ·rcases List.mem_cons.1 hy with rfl|hy
   ·exact ⟨_,h1⟩
   ·exact h2 y hy
  ·simp only [List.map_cons];rw [h3,WideElems.rg_of h1];rfl
theorem own_sb {w:Wd} {b:Nat} {st:List Cnt} (h:SB w b st) (hw:∀ x∈st,(Lit.int .i64 x.d.id).wf=true) (hn:st.length≤maxLen):
  ∃ D0:DataW Unit,w.ownsMap prog 3 rE b st.length D0∧(intKeys D0).Perm (st.map (·.d.id))∧Maps.size D0=st.length:=by
 obtain ⟨es,c,hb,he,hst⟩:=h;obtain ⟨h1,h2⟩:=ents_read es.toList st he hw;have hlen:es.size=st.length:=by have:=he.len;simpa using this
 refine ⟨.map ((es.toList.map (WideElems.rg (H:=Unit) prog 3 rE)).foldr DataW.insert []),⟨es,c,hb,⟨by omega,hst,h1⟩,by omega,rfl⟩,?_,?_⟩
 ·show (((es.toList.map (WideElems.rg (H:=Unit) prog 3 rE)).foldr DataW.insert []).map fun p=>Go.intOf p.1).Perm _;rw [←h2];exact (Go.WideShapes.sorted_perm _).map _
 ·show ((es.toList.map (WideElems.rg (H:=Unit) prog 3 rE)).foldr DataW.insert []).length=_;rw [length_sorted];simp [hlen]
def idsP (s:List PC):List Int:=(s.map (·.d.id)).mergeSort fun x y=>decide (x≤y)
theorem mem_idsP {s:List PC} {i:Int}:i∈idsP s↔∃ x∈s,x.d.id=i:=by
 unfold idsP;rw [(List.mergeSort_perm _ _).mem_iff,List.mem_map]
theorem idsP_len (s:List PC):(idsP s).length=s.length:=by
 unfold idsP;rw [List.length_mergeSort,List.length_map]
theorem ids_pl (st:List Cnt):(st.map plC).map (·.d.id)=st.map (·.d.id):=by
 rw [List.map_map];rfl
theorem sortsE (m:Nat):AnyZI.SortsIn prog Tryz.sortedE_ren Fence.wide m:=
 ⟨fun blk off cap ss W hH hblk aN=>callsIn_wide.2 (AnyM.slices_Sort_int Tryz.sortE blk off cap ss W hH hblk aN),
  fun p cap W=>callsIn_wide.2 (AnyM.slices_Sort_int_none Tryz.sortE p cap W)⟩
theorem keys_call (b:Nat) (W:Wd):Calls prog 23 #[.map (some b)] W fun e w'=>e = .returned (.func (.func 51) #[] #[.pointer (some ⟨W.heap.size,0,none⟩)])∧w'=W.alloc (.cells #[.map (some b)] 65):=
 (callsIn_wide (n:=5)).1 (AnyZI.keys_in Tryz.keysE Fence.wide 5 trivial rfl (some b) W)
theorem sorted_call (b:Nat) (st:List Cnt) (w:Wd) (jS:SB w b st) (hw:∀ x∈st,(Lit.int .i64 x.d.id).wf=true) (hn:st.length≤1000):
  Calls prog 22 #[.func (.func 51) #[] #[.pointer (some ⟨w.heap.size,0,none⟩)]] (w.alloc (.cells #[.map (some b)] 65)) fun e w' => ∃ v:Value,e = .returned v ∧
   w'.ownsRow (w.alloc (.cells #[.map (some b)] 65)).heap.size 3 1 v (idsP (st.map plC)).length ((idsP (st.map plC)).map encZ)∧Below (w.alloc (.cells #[.map (some b)] 65)).heap.size (w.alloc (.cells #[.map (some b)] 65)) w':=by
 obtain ⟨D0,aD,hperm,dW⟩:=own_sb jS hw (by unfold maxLen;omega);have m9:=aD.lt
 have hseq:SeqGives Fence.wide 2 prog 51 #[.pointer (some ⟨w.heap.size,0,none⟩)] encZ (fun ss=>ss.Perm (intKeys D0)) (Maps.size D0) (w.alloc (.cells #[.map (some b)] 65)):=
  AnyZI.keys_gives (ρ:=Tryz.keysE_ren) { Tryz.keysE with } Fence.wide _ trivial rfl (by omega) w.heap.size b st.length D0 _ (by simp) (by simp) (by
   obtain ⟨es,clock,hb,Ft,hs,hD⟩:=aD;exact ⟨es,clock,(Below.heap_alloc _ _ b m9).trans hb,Ft,hs,hD⟩)
 have cS:=AnyZI.sorted_in Tryz.sortedE Fence.wide 5 trivial trivial trivial trivial rfl (by omega) (sortsE _) (enters_of Tryz.func50 (by kernel_rfl) rfl) 51 #[.pointer (some ⟨w.heap.size,0,none⟩)] trivial (enters_of Tryz.func51 (by kernel_rfl) rfl) _ _ (by rw [dW];unfold maxLen;omega) (by rw [dW];omega) _ hseq;change CallsIn _ _ prog 22 _ _ _ at cS;refine ((callsIn_wide (n:=5)).1 cS).mono ?_;rintro e w' ⟨v,ss,rfl,hS,jE,hnil,hb⟩
 have hq:ss.mergeSort (fun x y=>decide (x≤y))=idsP (st.map plC):=by
  unfold idsP;rw [ids_pl];exact mergeSort_of_perm_i (hS.trans hperm)
 have hl:ss.length=(idsP (st.map plC)).length:=by rw [←hq,List.length_mergeSort]
 rw [hq,hl] at jE;exact ⟨v,rfl,jE,hb⟩
end
theorem look_run1 (w:Wd) (b:Nat) (st:List Cnt) (id:Int) (x:Cnt) (h:SB w b st) (hg:Yn st id=some x):
  (Instr.lookup 65 (.map (some b)) (.int .i64 id) false).run prog w = .ok (.agg (cnC x).toArray) w:=by
 obtain ⟨es,c,hb,he,_⟩:=h;have hf:=Ip id es.toList st 0 he;have hc:(Instr.checkKey es.isEmpty 10000 3 (.int .i64 id)).run prog w = .ok () w:=MapKept.run_checkKey (k:=.int .i64 id) Tryz.underlying3 (by simp [MapKept.IsKey]) _ 9999;rw [hg] at hf;simp [Instr.lookup,run_underlying Tryz.underlying65,MapKept.run_getObj_map hb,hc,MapKept.run_findKey Tryz.underlying3 hf]
theorem CW.grown {w w':Wd} {row:Option Nat} {y:Cnt} (h:CW w y) (hg:w.grownBy w' row) (hs:0<y.pn→∀ a,y.pA=some a→some a.block≠row):CW w' y:=by
 refine ⟨⟨h.sl.1,h.sl.2.1,h.sl.2.2.1,fun h0=>?_⟩,h.le,h.nil,h.rz⟩;obtain ⟨b,o,e,hb,hc⟩:=h.sl.2.2.2 h0;refine ⟨b,o,e,Nat.lt_of_lt_of_le hb hg.size,fun j u hu=>?_⟩;rw [World.cell?_of_block (a:=⟨b,o+j,none⟩) (hg.block b hb (hs h0 _ e))];exact hc j u hu
theorem CW.lt {w:Wd} {y:Cnt} (h:CW w y) (h0:0<y.pn) (a:Addr) (ha:y.pA=some a):a.block<w.heap.size:=by
 obtain ⟨b,o,e,hb,_⟩:=h.sl.2.2.2 h0;rw [ha] at e;injection e with e
 subst e;exact hb
structure NK (bs:Nat) (w0 W:Wd) (v:Value) (st out:List Cnt):Prop where
 own:W.ownsRow w0.heap.size 30 23 v out.length (Ub cnC out)
 ps:∀ y∈out,CW W y∧(0<y.pn→∀ a,y.pA=some a→some a.block≠v.ownBlock)
 nw:∀ y∈out,0<y.pn→∀ a,y.pA=some a→w0.heap.size≤a.block
 be:Below w0.heap.size w0 W
 sw:SW w0 bs st
theorem own_lt {w:Wd} {base n k:Nat} {t:TypeId} {v:Value} {xs:List Value} (h:w.ownsRow base t k v n xs):∀ g,v.ownBlock=some g→g<w.heap.size∧base≤g:=by
 intro g hg;rcases h.2 with ⟨hv,_⟩|⟨g',cap,cur,hv,hb,hw,_⟩
 ·subst hv;cases hg
 ·subst hv;injection hg with hg
  subst hg;exact ⟨(Array.getElem?_eq_some_iff.1 hw).1,hb⟩
theorem NK.start {bs:Nat} {w0:Wd} {st:List Cnt} (h:SW w0 bs st):NK bs w0 w0 (.slice none 0 0) st []:=
 ⟨⟨rfl,.inl ⟨rfl,rfl⟩⟩,fun y hy=>(by cases hy),fun y hy=>(by cases hy),Bf _ _,h⟩
theorem nk_below {x:Cnt} {A':Option Addr} {c':Nat} {wx w2:Wd} (o4:Obj) (hb:Below (wx.alloc (.cells (cnC x).toArray 30)).heap.size (wx.alloc (.cells (cnC x).toArray 30)) w2):
  Below wx.heap.size wx ((w2.setCell ⟨wx.heap.size,22,none⟩ (.slice A' x.pn c')).alloc o4):=by
 have hz:=hb.size;simp at hz;exact ((((Bf wx.heap.size wx).alloc (Le _) _).trans (hb.mono (by simp))).setCell (Le _) _).alloc (by simp;omega) _
theorem NK.own4 {bs:Nat} {w0 wx w2:Wd} {v:Value} {st out:List Cnt} {x:Cnt} {A':Option Addr} {c':Nat} (h:NK bs w0 wx v st out) (o4:Obj) (hb:Below (wx.alloc (.cells (cnC x).toArray 30)).heap.size (wx.alloc (.cells (cnC x).toArray 30)) w2):
  ((w2.setCell ⟨wx.heap.size,22,none⟩ (.slice A' x.pn c')).alloc o4).ownsRow w0.heap.size 30 23 v out.length (Ub cnC out):=Up h.own (nk_below o4 hb)
theorem NK.step {bs:Nat} {w0 wx w2 w5:Wd} {v v':Value} {st out:List Cnt} {x:Cnt} {A':Option Addr} {c':Nat} {o4:Obj} (h:NK bs w0 wx v st out) (hx:x.pn≤1024) (hrz:∀ q∈x.ps,q.rcd.size≤maxLen)
  (hb:Below (wx.alloc (.cells (cnC x).toArray 30)).heap.size (wx.alloc (.cells (cnC x).toArray 30)) w2)
  (hp:w2.ownsRow (wx.alloc (.cells (cnC x).toArray 30)).heap.size 76 2 (.slice A' x.pn c') x.pn (Ub prC x.ps))
  (ho:w5.ownsRow w0.heap.size 30 23 v' (out.length+1) (Ub cnC out++cnC (reP x A' c')))
  (hg:((w2.setCell ⟨wx.heap.size,22,none⟩ (.slice A' x.pn c')).alloc o4).grownBy w5 v.ownBlock)
  (hv:v'.ownBlock=v.ownBlock∨v'.ownBlock=some ((w2.setCell ⟨wx.heap.size,22,none⟩ (.slice A' x.pn c')).alloc o4).heap.size):NK bs w0 w5 v' st (out++[reP x A' c']):=by
 have h4:=nk_below (A':=A') (c':=c') o4 hb;have hz:=hb.size;simp at hz;have hB:Blk w2 wx.heap.size 30 (cnC x).toArray:=(Blk.new wx _ _).below hb (by simp);have k4:=(own_set hp hB (by decide) 22 (.slice A' x.pn c')).alloc o4;have dO:CW ((w2.setCell ⟨wx.heap.size,22,none⟩ (.slice A' x.pn c')).alloc o4) (reP x A' c'):=CW.of_own' k4 hx hrz;have hol:=own_lt h.own;have gX:=own_lt k4;refine ⟨?_,fun y hy=>?_,fun y hy h0 a ha=>?_,?_,h.sw⟩
 ·rw [List.length_append,Vb,Va];exact ho
 ·have key:∀ y,CW ((w2.setCell ⟨wx.heap.size,22,none⟩ (.slice A' x.pn c')).alloc o4) y→(0<y.pn→∀ a,y.pA=some a→some a.block≠v.ownBlock)→CW w5 y∧(0<y.pn→∀ a,y.pA=some a→some a.block≠v'.ownBlock):=by
   intro y hy hs;refine ⟨hy.grown hg hs,fun h0 a ha=>?_⟩;rcases hv with hv|hv
   ·rw [hv];exact hs h0 a ha
   ·rw [hv];have:=hy.lt h0 a ha;intro e;injection e with e
    omega
  rcases List.mem_append.1 hy with hy|hy
  ·obtain ⟨h1,h2⟩:=h.ps y hy;exact key y (h1.below h4) h2
  ·rw [List.mem_singleton] at hy;subst hy;refine key _ dO fun h0 a ha e=>?_
   have ha':A'=some a:=ha;have h1:=gX a.block (by rw [ha'];rfl);have h2:=hol a.block e.symm;have:=h1.2;simp at this;omega
 ·rcases List.mem_append.1 hy with hy|hy
  ·exact h.nw y hy h0 a ha
  ·rw [List.mem_singleton] at hy;subst hy;have ha':A'=some a:=ha;have h1:=gX a.block (by rw [ha'];rfl);have h2:=h1.2;have h3:=h.be.size;simp at h2;omega
 ·have h5:Below w0.heap.size w0 ((w2.setCell ⟨wx.heap.size,22,none⟩ (.slice A' x.pn c')).alloc o4):=h.be.trans (h4.mono h.be.size);exact h5.grown hg (Lx h.be.size h4.size) fun k hk=>(hol k hk).2
def RepG (R:Int ⊕ List PC) (w:Wd) (e:Ending) (w':Wd):Prop:=match R with
 |.inl er=>er≠0∧e = .returned (.tuple #[.slice none 0 0,.int .i64 er])∧Below w.heap.size w w'
 |.inr s => ∃ (A:Option Addr) (c:Nat) (now:List Cnt),e = .returned (.tuple #[.slice A now.length c,.int .i64 0])∧Sl cnC 23 w' w'.heap.size A now.length c now∧(∀ a,A=some a→w.heap.size≤a.block)∧(∀ y∈now,CW w' y∧(0<y.pn→∀ a,y.pA=some a→w.heap.size≤a.block))∧(now.map plC).map some=(idsP s).map (V4 s)∧now.length≤1000∧Below w.heap.size w w'
def idC (i:Int):List Value:=[.int .i64 i]
theorem flat_ids (s:List Int):s.map encZ=Ub idC s:=by
 induction s with
 |nil=>rfl
 |cons x r ih=>rw [List.map_cons,V8,ih];rfl
theorem some_of {s:List PC} {st:List Cnt} (hs:st.map plC=s) {i:Int} (hi:i∈idsP s):∃ x∈st,Yn st i=some x:=by
 obtain ⟨y,hy,he⟩:=mem_idsP.1 hi;subst hs;obtain ⟨z,hz,rfl⟩:=List.mem_map.1 hy;cases hg:Yn st i with
 |some x=>exact ⟨x,List.mem_of_find?_eq_some hg,rfl⟩
 |none=>
  have:=List.find?_eq_none.1 hg z hz;have h2:z.d.id=i:=he;simp [Ys,h2] at this
theorem replay_of (R:Int ⊕ List PC) (iA:Option Addr) (im ic:Nat) (A:Option Addr) (n c:Nat) (w:Wd) (fI:∀ s,R = .inr s→(∀ x∈s,(Lit.int .i64 x.d.id).wf=true)∧s.length≤1000)
  (hp:Calls prog 20 #[.slice iA im ic,.slice A n c,.func (.func 21) #[] #[]] w (PlayR R w)):
  Calls prog 9 #[.slice iA im ic,.slice A n c] w (RepG R w):=by
 obtain ⟨i0,aU,aW,aK,aR⟩:=info_parts Eb;have HP:=Hd hp;have dF:=Hd fI;clear hp fI;cases R with
 |inl er=>
  go_enter Tryz.func9,Tryz.ntmps9;go_wp2_with (go_at_call 20;refine HP.out.mono ?_;rintro e w1 ⟨aZ,rfl,hb⟩;have eY:=Hd aZ;have eG:(er != 0)=true:=(by simpa using aZ);have HB:=Hd hb;clear aZ hb)
  go_ret2
  exact ⟨eY.out,rfl,HB.out⟩
 |inr s=>
  obtain ⟨hid,hlen⟩:=dF.out s rfl;obtain ⟨m,hm⟩:∃ m,(idsP s).length=m:=⟨_,rfl⟩
  have hm1:m≤1000:=by rw [←hm,idsP_len];exact hlen
  have HID:=Hd hid;have HLEN:=Hd hlen;have HM:=Hd hm;clear hid hlen;go_enter Tryz.func9,Tryz.ntmps9;go_wp2_with (first|(go_at_call 20;refine HP.out.mono ?_;rintro e w1 ⟨bs,st,hst,rfl,fM,hsw,hb⟩;have cH:=Hd hst;have HSW:=Hd hsw;have HB:=Hd hb;clear hst hsw hb fM)|(go_at_call 23;refine (keys_call bs w1).mono ?_;rintro e w2 ⟨rfl,rfl⟩)|(go_at_call 22;refine (sorted_call bs st w1 HSW.out.sb (fun x hx=>HID.out (plC x) (by rw [←cH.out];exact List.mem_map_of_mem hx)) (by have:=HLEN.out;rw [←cH.out,List.length_map] at this;exact this)).mono ?_;rintro e w0 ⟨v,rfl,ho,hb⟩;rw [cH.out,hm] at ho;obtain ⟨vA,vc,rfl,_,_⟩:=Ue ho;rw [flat_ids] at ho;have HROW:=Hd (Sl.of_own (f:=idC) (k:=1) (fun _=>rfl) (by decide) ho);have bT:Below w1.heap.size w1 w0:=((Bf _ _).alloc (Le _) _).trans (hb.mono (by simp));have eM:=Hd bT;have HSW0:=Hd (HSW.out.below bT);clear ho hb bT hm))
  go_loopw [8,25] (fun v i wr => ∃ (j:Nat) (out:List Cnt),j≤m∧i = .int .i64 j∧out.length=j∧(out.map plC).map some=((idsP s).take j).map (V4 s)∧NK bs w0 wr v st out) (fun _ i _=>m-(intOf i).toNat)
  case atStart=>exact ⟨0,[],Z0 _,rfl,rfl,rfl,NK.start HSW0.out⟩
  case round=>
   obtain ⟨j,out,hj,rfl,hlen,aI,hnk⟩:=hrel;obtain ⟨wx,rfl⟩:∃ x:Wd,x=wr:=⟨_,rfl⟩
   obtain ⟨av,cv,rfl,dU,_⟩:=Ue hnk.own;have HK:=Hd hnk;have fH:=Hd hlen;have aY:=Hd aI;by_cases aG:j<m
   ·obtain ⟨b,o,i,hA0,hb,hg,aB⟩:=Sl.cell (f:=idC) (k:=1) (fun _=>rfl) (HROW.out.below hnk.be) aG;subst hA0;have ci:=aB 0 _ rfl;simp only [Nat.add_zero,Nat.mul_one] at ci;obtain ⟨x,hx,hgx⟩:=some_of cH.out (List.mem_of_getElem? hg);have hl:=look_run1 wx bs st i x (HSW0.out.below hnk.be).sb hgx;have hcx:=(HSW0.out.below hnk.be).cw x hx
    have HTAKE:Hid (((idsP s).take (j+1)).map (V4 s)=((idsP s).take j).map (V4 s)++[some (plC x)]):=Hd (by
     rw [List.take_add_one,hg,List.map_append];congr 1;show [V4 s i]=_;rw [←cH.out,Hk,hgx];rfl)
    have H1:=Hd (Vz x);have aQ:=Hd fun old=>Blk.new wx 30 old
    have bK:=Hd fun old=>U1 wx old (cnC x).toArray 30
    have fQ:=hcx.sl.len;have HC:Hid (Calls prog 24 #[.slice x.pA x.pn x.pc] (wx.alloc (.cells (cnC x).toArray 30)) (GivesPs (wx.alloc (.cells (cnC x).toArray 30)) x.ps)):=Hd (clone_g x.pA x.pn x.pc x.ps _ (hcx.sl.after ((Bf _ _).alloc (Le _) _) (by simp)) (by have:=hcx.le;omega) hcx.nil);have HLX:=Hd fQ;have bN:=Hd hcx;have bE:=Hd aG;have c22:=Ey (Blk.new wx 30 (cnC x).toArray);clear hb hg aB hgx hx hcx fQ aG hnk hlen aI dU;have HAN1:Hid (out.length+1≤maxLen):=Hd (by have:=fH.out;unfold maxLen;omega);have HAN2:Hid ((out.length+1)*216≤140737488355328):=Hd (by have:=fH.out;omega)
    have HAN3:Hid (∀ w2:Wd,Below (wx.alloc (.cells (cnC x).toArray 30)).heap.size (wx.alloc (.cells (cnC x).toArray 30)) w2→∀ (A':Option Addr) (c':Nat) (o4:Obj),w0.heap.size≤((w2.setCell ⟨wx.heap.size,22,none⟩ (.slice A' x.pn c')).alloc o4).heap.size):=Hd (fun w2 h A' c' o4=>Lx HK.out.be.size (nk_below o4 h).size);clear hj
    go_wp2_with (first|((with_reducible refine Gt 30 11 ?_);refine Lv 30 wx.heap.size (cnC x).toArray (aQ.out _) H1.out ?_;rw [bK.out])|(go_at_call 24;refine HC.out.mono ?_;rintro e w2 ⟨A',c',rfl,dK,aF⟩;rw [HLX.out] at dK ⊢;have fW:=Hd dK;have aL:=Hd aF;clear c22 dK;have d22:=Ey ((Blk.new wx 30 (cnC x).toArray).below aF (by simp));have f22:=((Blk.new wx 30 (cnC x).toArray).below aF (by simp)).free 22;have HKB:=Hd (cn_set (A:=A') (c:=c') ((Blk.new wx 30 (cnC x).toArray).below aF (by simp)));have cF:=Hd (Vw (w2.setCell ⟨wx.heap.size,22,none⟩ (.slice A' x.pn c')) (cnC (reP x A' c')) 30 1 23 rfl);have cN:=Hd fun o4=>HK.out.own4 (A':=A') (c':=c') o4 aF;clear aF hl)|((with_reducible refine Gl 30 11 ?_);refine Lq 30 wx.heap.size _ HKB.out Tryz.underlying30 ?_)|((with_reducible refine Gc 22 ?_);refine wpList_buildSlice rfl 22 30 1 _ rfl (cnC (reP x A' c')).toArray i0 (.agg zV.toArray) Tryz.underlying22 aU aW (by rw [aK];decide) (by rw [aK];decide) (by rw [aK];kernel_rfl) ?_)|(at_builtin;go_must (refine U5 _ rfl _ _ 22 rfl w0.heap.size 30 i0 _ 23 216 Tryz.underlying22 aU aW aK aR rfl (by decide) (.slice av out.length cv) out.length (Ub cnC out) rfl (cN.out _) ((w2.setCell ⟨wx.heap.size,22,none⟩ (.slice A' x.pn c')).heap.size+1) (some ⟨(w2.setCell ⟨wx.heap.size,22,none⟩ (.slice A' x.pn c')).heap.size,0,none⟩) 1 1 (cnC (reP x A' c')) rfl cF.out (Fa (reP x A' c')) HAN1.out HAN2.out (HAN3.out _ aL.out A' c' _) ?_;intro v' w5 aD aO hor;have HNK:=Hd (HK.out.step bN.out.le bN.out.rz aL.out fW.out aD aO hor);clear aD aO hor)))
    go_roundw
    case rel=>exact ⟨j+1,out++[reP x A' c'],by have:=bE.out;omega,by go_num,by rw [List.length_append,fH.out];rfl,by rw [HTAKE.out,List.map_append,List.map_append,aY.out];rfl,HNK.out⟩
    case measure=>simp [intOf];have:=bE.out;omega
   ·obtain rfl:j=m:=by omega
    have HE:Hid ((out.map plC).map some=(idsP s).map (V4 s)):=Hd (by rw [aI,List.take_of_length_le (by rw [HM.out];exact Le _)]);clear aI hnk;go_wp2
    go_ret2
    have aW:w.heap.size≤w0.heap.size:=Lx HB.out.size eM.out.size;refine ⟨av,cv,out,rfl,?_,fun a ha=>Lx aW (own_lt HK.out.own a.block (by rw [ha];rfl)).2,fun y hy=>⟨(HK.out.ps y hy).1,fun h0 a ha=>Lx aW (HK.out.nw y hy h0 a ha)⟩,HE.out,by rw [fH.out];exact hm1,U0 HB.out (eM.out.trans (HK.out.be.mono eM.out.size)) HB.out.size⟩;exact Sl.of_own (f:=cnC) (k:=23) (fun _=>rfl) (by decide) HK.out.own
theorem rpairs_same (A A':Option Addr) (n c c':Nat) (l:List Pr) (w:Wd) (h1:Sl prC 2 w w.heap.size A n c l) (h2:Sl prC 2 w w.heap.size A' n c' l) (hn:n≤1100):
  Calls prog 53 #[.slice A n c,.slice A' n c'] w fun e w'=>e = .returned (.bool true)∧Below w.heap.size w w':=by
 have H1:=Hd h1;have H2:=Hd h2;clear h1 h2;go_enter Tryz.func53,Tryz.ntmps53;go_wp2;go_loopw [5] (fun i wr => ∃ j:Nat,j≤n∧i = .int .i64 j∧Below w.heap.size w wr) (fun i _=>n-(intOf i).toNat)
 case atStart=>exact ⟨0,Z0 _,rfl,Bf _ _⟩
 case round=>
  obtain ⟨j,hj,rfl,aE⟩:=hrel;have HB:=Hd aE;by_cases aG:j<n
  ·obtain ⟨b,o,x,rfl,hb,hg,aB⟩:=Sl.cell (f:=prC) (k:=2) (fun _=>rfl) (H1.out.below aE) aG;obtain ⟨b',o',x',rfl,gR,iT,bF⟩:=Sl.cell (f:=prC) (k:=2) (fun _=>rfl) (H2.out.below aE) aG;rw [hg] at iT;injection iT with iT
   subst iT;obtain ⟨k,r⟩:=x;have c0:=aB 0 _ rfl;have c1:=aB 1 _ rfl;have d0:=bF 0 _ rfl;have d1:=bF 1 _ rfl;simp only [Nat.add_zero] at c0 d0;have b0:(0:Int)≤(j:Int):=by omega
   have b1:(j:Int)<(n:Int):=by omega
   have bE:=Hd aG;clear hb gR hg aB bF aE;go_wp2
   go_quiet (fail)
   go_wp2;go_roundw
   case rel=>exact ⟨j+1,by have:=bE.out;omega,by go_num,Uf HB.out _⟩
   case measure=>simp [intOf];have:=bE.out;omega
  ·obtain rfl:j=n:=by omega
   clear aE;go_wp2;go_ret;exact ⟨rfl,HB.out⟩
theorem dset_refl (d:DSet) (W:Wd):(binOp .eql 27 (.agg (dC d).toArray) (.agg (dC d).toArray)).run prog W = .ok (.bool true) W:=by
 obtain ⟨a0,a1,a2,a3,a4,a5,a6,a7,a8,a9,a10,a11,a12,a13,a14,a15,a16,a17,a18,a19,a20⟩:=d;unfold dC;go_simp
theorem blk_mid {W:Wd} {g:Nat} {x:Cnt} (h:Blk W g 30 (cnC x).toArray):W.rangeAt g 0 (dC x.d):=fun j v hv=>by
 rw [Nat.zero_add,h.cell];obtain ⟨hj,hv'⟩:=List.getElem?_eq_some_iff.1 hv;rw [Ga,cnC,List.getElem?_append_left hj,hv]
theorem rsame_any (x y:Cnt) (w:Wd) (hx:CW w x) (hy:CW w y) (hd:y.d=x.d) (hp:y.ps=x.ps):
  Calls prog 29 #[.agg (cnC x).toArray,.agg (cnC y).toArray] w fun e w'=>e = .returned (.bool true)∧Below w.heap.size w w':=by
 have hb:Below w.heap.size w ((w.alloc (.cells (cnC x).toArray 30)).alloc (.cells (cnC y).toArray 30)):=((Bf _ _).alloc (Le _) _).alloc (by simp) _;have k1:Blk ((w.alloc (.cells (cnC x).toArray 30)).alloc (.cells (cnC y).toArray 30)) w.heap.size 30 (cnC x).toArray:=(Blk.new w _ _).alloc _;have k2:Blk ((w.alloc (.cells (cnC x).toArray 30)).alloc (.cells (cnC y).toArray 30)) (w.heap.size+1) 30 (cnC y).toArray:=U3 (w.alloc _) _ _ _ (by simp);have c1:=Ey k1;have c2:=Ey k2;have hyn:y.pn=x.pn:=by rw [←hy.sl.len,←hx.sl.len,hp]
 have HP:=Hd (rpairs_same x.pA y.pA x.pn x.pc y.pc x.ps _ (hx.sl.after hb hb.size) (by have:=hy.sl.after hb hb.size;rw [hp,hyn] at this;exact this) (by have:=hx.le;omega));have M1:=Hd (blk_mid k1);have M2:=Hd (blk_mid k2);rw [hd] at M2;rw [hyn] at c2;have hz:=dset_refl x.d;have HB:=Hd hb;clear hx hy hd hp hb k1 k2 hyn;go_enter Tryz.func29,Tryz.ntmps29;go_wp2_with (first|((with_reducible refine Gl 27 5 ?_);refine Ln 27 w.heap.size (0) (dC x.d) M1.out Tryz.underlying27 ?_)|((with_reducible refine Gl 27 7 ?_);refine Ln 27 (w.heap.size+1) (0) (dC x.d) M2.out Tryz.underlying27 ?_)|(go_at_call 53;refine HP.out.mono ?_;rintro e w2 ⟨rfl,aF⟩;have aL:=Hd (HB.out.trans (aF.mono HB.out.size));clear aF c1 c2));go_ret;exact ⟨rfl,aL.out⟩
def SameL (l l':List Cnt):Prop:=l.map (fun x=>(x.d,x.ps))=l'.map (fun x=>(x.d,x.ps))
theorem same_at {l l':List Cnt} (h:SameL l l') {j:Nat} {x y:Cnt} (h1:l[j]? =some x) (h2:l'[j]? =some y):y.d=x.d∧y.ps=x.ps:=by
 unfold SameL at h;have:=congrArg (fun l=>l[j]?) h;simp only [List.getElem?_map,h1,h2,Option.map_some,Option.some.injEq,Prod.mk.injEq] at this;exact ⟨this.1.symm,this.2.symm⟩
theorem rcontents_same (A A':Option Addr) (n c c':Nat) (l l':List Cnt) (w:Wd) (h1:Sl cnC 23 w w.heap.size A n c l) (h2:Sl cnC 23 w w.heap.size A' n c' l') (hp:∀ x∈l,CW w x) (hp':∀ x∈l',CW w x) (hn:n≤1000) (hs:SameL l l'):
  Calls prog 11 #[.slice A n c,.slice A' n c'] w fun e w'=>e = .returned (.bool true)∧Below w.heap.size w w':=by
 have H1:=Hd h1;have H2:=Hd h2;have HP:=Hd hp;have HP':=Hd hp';have HS:=Hd hs;clear h1 h2 hp hp' hs;go_enter Tryz.func11,Tryz.ntmps11;go_wp2;go_loopw [5] (fun i wr => ∃ j:Nat,j≤n∧i = .int .i64 j∧Below w.heap.size w wr) (fun i _=>n-(intOf i).toNat)
 case atStart=>exact ⟨0,Z0 _,rfl,Bf _ _⟩
 case round=>
  obtain ⟨j,hj,rfl,aE⟩:=hrel;obtain ⟨wx,rfl⟩:∃ x:Wd,x=wr:=⟨_,rfl⟩
  have HB:=Hd aE;by_cases aG:j<n
  ·obtain ⟨b,o,x,rfl,hb,hg,aB⟩:=Sl.cell (f:=cnC) (k:=23) (fun _=>rfl) (H1.out.below aE) aG;obtain ⟨b',o',y,rfl,gR,iT,bF⟩:=Sl.cell (f:=cnC) (k:=23) (fun _=>rfl) (H2.out.below aE) aG;obtain ⟨hd,hps⟩:=same_at HS.out hg iT;have HSA:=Hd (rsame_any x y wx.drew (((HP.out x (List.mem_of_getElem? hg)).below aE).below (Bf _ _).drew) (((HP'.out y (List.mem_of_getElem? iT)).below aE).below (Bf _ _).drew) hd hps);have HM:Hid (wx.drew.rangeAt b (o+j*23) (cnC x)∧wx.drew.rangeAt b' (o'+j*23) (cnC y)):=Hd ⟨(World.rangeAt_drew _ _ _ _).2 fun t u hu=>aB t u hu,(World.rangeAt_drew _ _ _ _).2 fun t u hu=>bF t u hu⟩;have HL0:Hid (b<wx.drew.heap.size∧b'<wx.drew.heap.size):=Hd ⟨Nat.lt_of_lt_of_le hb aE.size,Nat.lt_of_lt_of_le gR aE.size⟩;have b0:(0:Int)≤(j:Int):=by omega
   have b1:(j:Int)<(n:Int):=by omega
   have bE:=Hd aG;clear hb gR hg iT aB bF aE hd hps;go_wp2;refine Rw (S:=fun w'=>w'.rangeAt b (o+j*23) (cnC x)∧w'.rangeAt b' (o'+j*23) (cnC y)) (by kernel_rfl) HM.out (fun Hh=>?_);refine tk 0 (.slice (some ⟨b,o,none⟩) n c) Hh ?_;refine tk 1 (.int .i64 j) Hh ?_;refine tk 2 (.pointer (some ⟨b,o+j*23,none⟩)) Hh ?_;refine tk 3 (.agg (cnC x).toArray) Hh ?_ (y:=by exact yieldsIf_load_mid (by rfl) 30 _ rfl b (o+j*23) rfl (cnC x) _ (fun w' aH=>aH.1) Tryz.underlying30 rfl (by kernel_rfl));refine tk 4 (.slice (some ⟨b',o',none⟩) n c') Hh ?_;refine tk 5 (.int .i64 j) Hh ?_;refine tk 6 (.pointer (some ⟨b',o'+j*23,none⟩)) Hh ?_;refine tk 7 (.agg (cnC y).toArray) Hh ?_ (y:=by exact yieldsIf_load_mid (by rfl) 30 _ rfl b' (o'+j*23) rfl (cnC y) _ (fun w' aH=>aH.2) Tryz.underlying30 rfl (by kernel_rfl))
   refine Aq [8] ?_;refine Rc (fun K hK=>?_) ?_
   ·go_simp;refine HSA.out.mono ?_;rintro e w3 ⟨rfl,b7⟩;simp only [];have b8:=Hd (U0 HB.out.drew b7 HB.out.size);obtain ⟨q0,q1⟩:=Hh;have hl0:=HL0.out;refine hK.out _ _ ⟨fun t u hu=>(b7.cell (p:=⟨b,_,none⟩) hl0.1).trans (q0 t u hu),fun t u hu=>(b7.cell (p:=⟨b',_,none⟩) hl0.2).trans (q1 t u hu)⟩ (fun Hh=>?_);clear hK K b7 q0 q1 hl0;try simp only [Act.put,Sv,Sz,Sw]
    refine tk 9 (.bool false) Hh ?_;refine Ad (by kernel_rfl) ?_ _;clear Hh;go_wp2;go_roundw
    case rel=>exact ⟨j+1,by have:=bE.out;omega,by go_num,b8.out⟩
    case measure=>simp [intOf];have:=bE.out;omega
   exact An
  ·obtain rfl:j=n:=by omega
   clear aE;go_wp2;go_ret;exact ⟨rfl,HB.out⟩
theorem same_len {l l':List Cnt} (h:SameL l l'):l.length=l'.length:=by
 have:=congrArg List.length h;simpa using this
def endN:Int→List Com→Int
 |n,[]=>n
 |n,c::r=>endN (n+c.cn) r
theorem endN_le:∀ (l:List Com) (n:Int),n≤endN n l
 | [],n=>Int.le_refl n
 |c::r,n=>by
  have:=endN_le r (n+c.cn);show n≤endN (n+c.cn) r;omega
def Bef (n:Int) (y:Com):Prop:=y.num≤n∧(0<y.cn→y.num<n)
theorem Bef.le {n m:Int} {y:Com} (h:Bef n y) (hm:n≤m):Bef m y:=⟨by have:=h.1;omega,fun h0=>by have:=h.2 h0;omega⟩
theorem bef_no {x y:Com} (h:Bef x.num y):I2 x y=false:=by
 obtain ⟨h1,h2⟩:=h;unfold I2;by_cases h0:0<y.cn
 ·have:=h2 h0;have e1:decide (x.num<y.num)=false:=by simp;omega
  have e2:decide (x.num=y.num)=false:=by simp;omega
  rw [e1,e2];rfl
 ·have e1:decide (x.num<y.num)=false:=by simp;omega
  have e3:decide (0<y.cn)=false:=by simp;omega
  rw [e1,e3];simp
theorem ins_end {x:Com} {acc:List Com} (h:∀ y∈acc,Bef x.num y):Et I2 x acc=acc++[x]:=by
 have:=insB_split (lt:=I2) (x:=x) (p:=acc) (s:=[]) (fun y hy=>by simp at hy) (fun y hy=>bef_no (h y (List.mem_of_getLast? hy)));simpa using this
def reN (n:Int) (c:Com):Com:={ c with num:=n }
def Un:Int→List Com→List Com
 |_,[]=>[]
 |n,c::r=>reN n c::Un (n+c.cn) r
theorem Zb:∀ (l:List Com) (n:Int),(Un n l).length=l.length
 | [],_=>rfl
 |c::r,n=>by simp [Un,Zb r]
theorem endN_snoc:∀ (l:List Com) (n:Int) (x:Com),endN n (l++[x])=endN n l+x.cn
 | [],_,_=>rfl
 |c::r,n,x=>endN_snoc r (n+c.cn) x
theorem numG_snoc:∀ (l:List Com) (n:Int) (x:Com),Un n (l++[x])=Un n l++[reN (endN n l) x]
 | [],_,_=>rfl
 |c::r,n,x=>by
  show reN n c::Un (n+c.cn) (r++[x])=_;rw [numG_snoc r];rfl
theorem take_snoc {α:Type} {l:List α} {j:Nat} {x:α} (h:l[j]? =some x):l.take (j+1)=l.take j++[x]:=by
 rw [List.take_add_one,h];rfl
theorem endN_bd (l:List Com) (h:∀ x∈l,x.cn≤300):∀ (n:Int),endN n l≤n+300*l.length:=by
 induction l with
 |nil=>intro n;show n≤_;simp
 |cons c r ih=>
  intro n;have h1:=h c List.mem_cons_self;have h2:=ih (fun x hx=>h x (List.mem_cons_of_mem _ hx)) (n+c.cn);show endN (n+c.cn) r≤_;simp only [List.length_cons];omega
theorem mem_numG:∀ (l:List Com) (n:Int) (y:Com),y∈Un n l→∃ x∈l,∃ k,y=reN k x
 | [],n,y,h=>by cases h
 |c::r,n,y,h=>by
  rcases List.mem_cons.1 h with rfl|h
  ·exact ⟨c,List.mem_cons_self,n,rfl⟩
  ·obtain ⟨x,hx,k,hk⟩:=mem_numG r _ y h;exact ⟨x,List.mem_cons_of_mem _ hx,k,hk⟩
theorem ComOk.reN {w:Wd} {B:Nat} {x:Com} (h:ComOk w B x) (k:Int):ComOk w B (reN k x):=h
theorem own_size {w:Wd} {base n k:Nat} {t:TypeId} {v:Value} {xs:List Value} (h:w.ownsRow base t k v n xs):∀ g,v.ownBlock=some g→base≤g:=by
 intro g hg;rcases h.2 with ⟨hv,_⟩|⟨g',cap,cur,hv,hb,hw,_⟩
 ·subst hv;cases hg
 ·subst hv;injection hg with hg
  subst hg;exact hb
theorem set_num (x:Com) (q:Int):(U7 x).set 1 (.int .i64 q)=U7 (reN q x):=rfl
theorem Kr (A:Option Addr) (n c:Nat) (l:List Com) (w:Wd) (hs:Cs w w.heap.size A n c l) (hn:n≤12) (hc0:∀ x∈l,x.cn≤300):
  Calls prog 7 #[.slice A n c] w fun e w' => ∃ A' c',e = .returned (.slice A' (Un 1 l).length c')∧w'.ownsRow w.heap.size 34 4 (.slice A' (Un 1 l).length c') (Un 1 l).length (Ub U7 (Un 1 l))∧Below w.heap.size w w':=by
 obtain ⟨i0,aU,aW,aK,aR⟩:=info_parts infoCom;have HS:=Hd hs.1;have HL:=Hd hs.1.len;have gK:=Hd hc0;clear hs hc0;go_enter Tryz.func7,Tryz.ntmps7;go_wp2;go_loopw [3,4,9] (fun v q i wr => ∃ j:Nat,j≤n∧i = .int .i64 j∧q = .int .i64 (endN 1 (l.take j))∧wr.ownsRow w.heap.size 34 4 v j (Ub U7 (Un 1 (l.take j)))∧Below w.heap.size w wr) (fun _ _ i _=>n-(intOf i).toNat)
 case atStart=>exact ⟨0,Z0 _,rfl,rfl,⟨rfl,.inl ⟨rfl,rfl⟩⟩,Bf _ _⟩
 case round=>
  obtain ⟨j,hj,rfl,rfl,aD,aE⟩:=hrel;obtain ⟨wx,rfl⟩:∃ x:Wd,x=wr:=⟨_,rfl⟩
  have HO:=Hd aD;have HB:=Hd aE;by_cases aG:j<n
  ·obtain ⟨b,o,x,rfl,hb,hg,aB⟩:=Sl.cell (f:=U7) (k:=4) V2 (HS.out.below aE) aG;have HM4:Hid (wx.rangeAt b (o+j*4) (U7 x)):=Hd fun t u hu=>aB t u hu
   have HT:=Hd (take_snoc hg);have hend:=endN_bd (l.take j) (fun y hy=>gK.out y (List.mem_of_mem_take hy)) 1;have hend0:=endN_le (l.take j) 1;have hxc:=gK.out x (List.mem_of_getElem? hg);have htl:(l.take j).length=j:=by rw [List.length_take,HL.out];omega
   rw [htl] at hend;obtain ⟨q,hq⟩:∃ q,endN 1 (l.take j)=q:=⟨_,rfl⟩
   have HQ:=Hd hq;have hnx:q+(x.cn:Int)=endN 1 (l.take (j+1)):=by rw [HT.out,endN_snoc,hq]
   have fV:=Hd hnx
   have hw:IntKind.i64.wrap (q+(x.cn:Int))=q+(x.cn:Int):=by
    rw [hq] at hend hend0;exact IntWalk.i64_in _ (by omega)
   rw [hq];have HN12:Hid (j+1≤12):=Hd (by omega);have fJ:=Hd (F9 x);have aL:=Hd fun old=>Blk.new wx 34 old
   have bR:=Hd fun old=>U1 wx old (U7 x).toArray 34
   have hset:=set_num x q;have c3:=((Blk.new wx 34 (U7 (reN q x)).toArray).cell 3).trans (show _=some (Value.slice x.cA x.cn x.cc) from rfl);have kC:=Hd (Blk.new wx 34 (U7 (reN q x)).toArray);have cF:=Hd (Vw (wx.alloc (.cells (U7 (reN q x)).toArray 34)) (U7 (reN q x)) 34 1 4 rfl);have cN:=Hd fun o4=>Up aD (((Bf wx.heap.size wx).alloc (Le _) (.cells (U7 (reN q x)).toArray 34)).alloc (by simp) o4)
   have cD:=Hd fun o4=>(aE.alloc aE.size (.cells (U7 (reN q x)).toArray 34)).alloc (by have:=aE.size;simp;omega) o4
   have fT:Hid (∀ u∈U7 (reN q x),u.oneCell'=true):=Hd (comC_one' _);have HOR:=Hd (own_size aD);have bE:=Hd aG;have HZ:Hid (∀ o4,w.heap.size≤((wx.alloc (.cells (U7 (reN q x)).toArray 34)).alloc o4).heap.size):=Hd fun o4=>(cD.out o4).size
   clear hb hg aB aD aE aG hend hend0 hxc htl hq hnx hj
   go_wp2_with (first|((with_reducible refine Gl 34 11 ?_);refine Ln 34 b (o+j*4) (U7 x) HM4.out Tryz.underlying34 ?_)|((with_reducible refine Gt 34 6 ?_);refine Lv 34 wx.heap.size (U7 x).toArray (aL.out _) fJ.out ?_;rw [bR.out])|((with_reducible refine Gl 34 6 ?_);refine Lq 34 wx.heap.size _ kC.out Tryz.underlying34 ?_)|((with_reducible refine Gc 23 ?_);refine wpList_buildSlice rfl 23 34 1 _ rfl (U7 (reN q x)).toArray i0 (.agg #[.int .i64 0,.int .i64 0,.slice none 0 0,.slice none 0 0]) Tryz.underlying23 aU aW (by rw [aK];decide) (by rw [aK];decide) (by rw [aK];kernel_rfl) ?_)|(at_builtin;go_must (refine U5 _ rfl _ _ 23 rfl w.heap.size 34 i0 _ 4 64 Tryz.underlying23 aU aW aK aR rfl (by decide) _ j (Ub U7 (Un 1 (l.take j))) rfl (cN.out _) ((wx.alloc (.cells (U7 (reN q x)).toArray 34)).heap.size+1) (some ⟨(wx.alloc (.cells (U7 (reN q x)).toArray 34)).heap.size,0,none⟩) 1 1 (U7 (reN q x)) rfl cF.out fT.out (by have:=HN12.out;unfold maxLen;omega) (by have:=HN12.out;omega) (HZ.out _) ?_;intro v' w5 aD aO _;have aS:=Hd aD;have eB:=Hd ((cD.out _).grown aO (HZ.out _) fun k hk=>HOR.out k hk);clear aD aO)))
   go_roundw
   case rel=>exact ⟨j+1,by have:=bE.out;omega,by go_num,by rw [←fV.out],by rw [HT.out,numG_snoc,Vb,Va,HQ.out];exact aS.out,eB.out⟩
   case measure=>simp [intOf];have:=bE.out;omega
  ·obtain rfl:j=n:=by omega
   have ht:l.take j=l:=List.take_of_length_le (by rw [HL.out];exact Le _);rw [ht] at aD;have HLG:Hid ((Un 1 l).length=j):=Hd (by rw [Zb,HL.out]);obtain ⟨A',c',rfl,_⟩:=Ue aD;have fW:=Hd aD;clear aD aE;go_wp2;go_ret;rw [HLG.out];exact ⟨A',c',rfl,fW.out,HB.out⟩
def Yw (s:List PC):Prop:=∀ x∈s,(Lit.int .i64 x.d.id).wf=true
theorem num_wf {n:Int} (h:Yr n=true):(Lit.int .i64 n).wf=true:=by
 have:=Fs h;simp [Lit.wf,IntKind.min,IntKind.max,IntKind.bits,IntKind.signed];omega
theorem Hb {s:List PC} {x:PC} (h:Yw s) (hx:(Lit.int .i64 x.d.id).wf=true):Yw (I9 s x)∧(I9 s x).length≤s.length+1:=by
 unfold I9;split
 ·refine ⟨fun y hy=>?_,by simp⟩;rcases List.mem_or_eq_of_mem_set hy with hy|rfl
  ·exact h y hy
  ·exact hx
 ·refine ⟨fun y hy=>?_,by simp⟩;rcases List.mem_append.1 hy with hy|hy
  ·exact h y hy
  ·rw [List.mem_singleton] at hy;subst hy;exact hx
theorem delP_ok {s:List PC} {id:Int} (h:Yw s):Yw (delP s id)∧(delP s id).length≤s.length:=by
 unfold delP;refine ⟨fun y hy=>h y (List.mem_of_mem_eraseIdx hy),?_⟩;rw [List.length_eraseIdx];split<;>omega
theorem toldF_id {rcd:Bz} {id:Int} {d:DSet} (h:Ud rcd id=some d):d.id=id:=by
 unfold Ud at h;split at h
 ·cases h
 ·split at h
  ·rename_i e _ he;injection h with h
   subst h;exact he
  ·cases h
theorem aft1_ok (num:Int):∀ (cs:List Chg) (s s1:List PC),Yw s→(∀ c∈cs,(Lit.int .i64 c.id).wf=true)→Jm Ud num cs s=some s1→Yw s1∧s1.length≤s.length+cs.length
 | [],s,s1,hs,_,h=>by
  injection h with h
  subst h;exact ⟨hs,Le _⟩
 |c::r,s,s1,hs,hc,h=>by
  have hr:∀ x∈r,(Lit.int .i64 x.id).wf=true:=fun x hx=>hc x (List.mem_cons_of_mem _ hx)
  unfold Jm at h;split at h
  ·have:=aft1_ok num r s s1 hs hr h;exact ⟨this.1,by simp;omega⟩
  ·split at h
   ·cases h
   ·rename_i d hd
    have hx:(Lit.int .i64 (⟨d,num-1,[]⟩:PC).d.id).wf=true:=by
     show (Lit.int .i64 d.id).wf=true;rw [toldF_id hd];exact hc c List.mem_cons_self
    have h1:=Hb hs hx;have:=aft1_ok num r _ s1 h1.1 hr h;exact ⟨this.1,by simp;omega⟩
theorem aft2_ok (num:Int):∀ (cs:List Chg) (i:Nat) (s s1:List PC),Yw s→(∀ c∈cs,(Lit.int .i64 c.id).wf=true)→Z3 Ud doF num i cs s = .inr s1→Yw s1∧s1.length≤s.length+cs.length
 | [],i,s,s1,hs,_,h=>by
  injection h with h
  subst h;exact ⟨hs,Le _⟩
 |c::r,i,s,s1,hs,hc,h=>by
  have hr:∀ x∈r,(Lit.int .i64 x.id).wf=true:=fun x hx=>hc x (List.mem_cons_of_mem _ hx)
  have key:∀ s2:List PC,Yw s2∧s2.length≤s.length+1→Z3 Ud doF num (i+1) r s2 = .inr s1→Yw s1∧s1.length≤s.length+(c::r).length:=fun s2 h2 h3=>by
   have:=aft2_ok num r (i+1) s2 s1 h2.1 hr h3;exact ⟨this.1,by simp;omega⟩
  unfold Z3 at h;split at h
  ·exact key s ⟨hs,by omega⟩ h
  ·rename_i x hx;have kZ:x∈s:=List.mem_of_find?_eq_some hx;split at h
   ·have:=delP_ok (id:=c.id) hs;exact key _ ⟨this.1,by omega⟩ h
   ·split at h
    ·split at h
     ·exact key s ⟨hs,by omega⟩ h
     ·rename_i d hd;refine key _ (Hb hs ?_) h;show (Lit.int .i64 d.id).wf=true;rw [toldF_id hd];exact hc c List.mem_cons_self
    ·split at h
     ·exact key s ⟨hs,by omega⟩ h
     ·split at h
      ·cases h
      ·rename_i y hy;refine key _ (Hb hs ?_) h;rw [doF_d _ _ _ _ hy];exact hs x kZ
theorem playF_ok:∀ (l:List Com) (s s1:List PC),Yw s→(∀ u∈l,u.cs.length≤8∧∀ c∈u.cs,(Lit.int .i64 c.id).wf=true)→Vs Ud doF l s = .inr s1→Yw s1∧s1.length≤s.length+16*l.length
 | [],s,s1,hs,_,h=>by
  injection h with h
  subst h;exact ⟨hs,Le _⟩
 |u::r,s,s1,hs,hu,h=>by
  obtain ⟨hl,hc⟩:=hu u List.mem_cons_self;unfold Vs at h;split at h
  ·cases h
  ·rename_i s2 h2;unfold aft at h2;split at h2
   ·cases h2
   ·rename_i s3 h3;have k1:=aft1_ok u.num u.cs s s3 hs hc h3;have k2:=aft2_ok u.num u.cs 0 s3 s2 k1.1 hc h2;have k3:=playF_ok r s2 s1 k2.1 (fun v hv=>hu v (List.mem_cons_of_mem _ hv)) h;refine ⟨k3.1,?_⟩;simp only [List.length_cons];omega
theorem putS_ok {st:List Cnt} {x:Cnt} (h:Yw (st.map plC)) (hx:(Lit.int .i64 x.d.id).wf=true):Yw ((Eo st x).map plC)∧(Eo st x).length≤st.length+1:=by
 have:=Hb (x:=plC x) h hx;rw [J7] at this;simpa using this
theorem begF_ok (v:Cnt→Bool):∀ (l st st1:List Cnt),Yw (st.map plC)→(∀ x∈l,(Lit.int .i64 x.d.id).wf=true)→Ia v st l=some st1→Yw (st1.map plC)∧st1.length≤st.length+l.length
 | [],st,st1,hs,_,h=>by
  injection h with h
  subst h;exact ⟨hs,Le _⟩
 |x::r,st,st1,hs,hx,h=>by
  unfold Ia at h;split at h
  ·cases h
  ·have h1:=putS_ok hs (hx x List.mem_cons_self);have:=begF_ok v r _ st1 h1.1 (fun y hy=>hx y (List.mem_cons_of_mem _ hy)) h;exact ⟨this.1,by simp;omega⟩
theorem chgB_id {c:Chg} (h:chgB c=true):Yr c.id=true:=by
 unfold chgB chB at h
 repeat' split at h
 all_goals first
  |cases h
  |(unfold I0 at h;simp only [Bool.and_eq_true] at h;simp [h])
theorem rep_ok {ini:List Cnt} {l:List Com} {s:List PC} (hi:∀ x∈ini,(Lit.int .i64 x.d.id).wf=true) (hn:ini.length≤100) (hl:l.length≤12) (hc:∀ u∈l,u.cs.length≤8) (h:Jk ini l = .inr s):(∀ x∈s,(Lit.int .i64 x.d.id).wf=true)∧s.length≤1000:=by
 unfold Jk at h;split at h
 ·rename_i s0 st0 ho hb;have h1:=begF_ok vC ini [] st0 (fun x hx=>by cases hx) hi hb
  have h2:=playF_ok s0 (st0.map plC) s h1.1 (fun u hu=>by
   obtain ⟨hm,hcb⟩:=ord_mem ho u hu;refine ⟨hc u hm,fun c iR=>num_wf (chgB_id ?_)⟩;unfold Jl at hcb;simp only [Bool.and_eq_true,Bool.not_eq_true',List.any_eq_false] at hcb;have:=hcb.1.2 c iR;simpa using this) h
  have h3:=ord_len ho;refine ⟨h2.1,?_⟩;have:=h2.2;rw [List.length_map] at this;have h4:=h1.2;simp at h4;omega
 ·cases h
end Go.Proofs.YtoakknkmjnebjaaGreatDoor
