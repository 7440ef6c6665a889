/- Part of the proof of HistoryReads. -/
import Derived.Test.YtapanepkfbamhaaGreatDoorJBL
import Derived.Test.YtapanepkfbamhaaGreatDoorJBM
import Derived.Test.YtapanepkfbamhaaGreatDoorSIJ
namespace Go.Proofs.YtapanepkfbamhaaGreatDoor
open Tryz (prog)
section
set_option maxRecDepth 100000
set_option maxHeartbeats 4000000
open Go.RowKit
theorem Zx (x:Com):(U8 x).toArray.all (·.oneCell')=true:=by simp [U8,Value.oneCell']
def vC (x:Cnt):Bool:=Kz x.d x.ap x.ps
def SmC (x:Com):Prop:=∀ c∈x.cs,c.rcd.size≤maxLen∧c.vol.size≤maxLen
theorem begin_any (A:Option Addr) (n c:Nat) (l:List Cnt) (w:World) (hs:Sl cnC 23 w w.heap.size A n c l) (hp:∀ x∈l,CW w x) (hn:n≤1024) (hc:Cod w):
  Calls prog 47 #[.slice A n c] w (BegG (Fa vC [] l) w):=
 begin_g vC A n c l w hs hp hn fun x hx W hW=>fwdValid_m x.d x.ap x.pA x.pn x.pc x.ps W ((hp x hx).below hW) (hc.after hW) (hp x hx).rz
theorem aft_at (x:Com) (bs:Nat) (st:List Cnt) (w1 W:World) (hx:ComOk w1 w1.heap.size x) (hb:Below w1.heap.size w1 W) (he:bs=w1.heap.size) (hs:SW W bs st) (hcb:Z9 x=true) (hz:SmC x) (ht:Sta w1) (hc:Cod w1):
  Calls prog 48 #[.map (some bs),.agg (U8 x).toArray] W (AftG (aft Y6 doF x.num x.cs (st.map plC)) bs W):=by
 obtain ⟨h1,h2,h3⟩:=comB_num hcb;refine after_g Y6 doF x bs st W hs (hx.after hb hb.size) (by omega) h1 h2 (fun c hcm W' hf=>?_) (fun c hcm y n hid _ _ W' hf hy=>?_)
 ·exact told_any c W' (hz c hcm).1 (ht.after (Yz hb hf (by omega) hb.size))
 ·exact do_G y n c W' hid hy (hc.after (Yz hb hf (by omega) hb.size)) (hz c hcm).1 (hz c hcm).2
noncomputable def repF (ini:List Cnt) (l:List Com):Int ⊕ List PC:=match Yh l,Fa vC [] ini with
 |some s,some st=>Et Y6 doF s (st.map plC)
 |_,_=>.inl 1
noncomputable def cheF (ini:List Cnt) (l:List Com):Int ⊕ Option (Nat×Nat):=match Yh l,Fa vC [] ini with
 |some s,some st=>chkF Y6 doF 0 s (st.map plC)
 |_,_=>.inl 1
def PlayR (R:Int ⊕ List PC) (w:World) (e:Ending) (w':World):Prop:=match R with
 |.inl er=>er≠0∧e = .returned (.tuple #[.map none,.int .i64 er])∧Below w.heap.size w w'
 |.inr s => ∃ (bs:Nat) (st:List Cnt),st.map plC=s∧e = .returned (.tuple #[.map (some bs),.int .i64 0])∧w.heap.size≤bs∧SW w' bs st∧Below w.heap.size w w'
def PlayC (R:Int ⊕ Option (Nat×Nat)) (pu pr:Nat) (w:World) (e:Ending) (w':World):Prop:=match R with
 |.inl er=>er≠0∧e = .returned (.tuple #[.map none,.int .i64 er])∧Below w.heap.size w w'
 |.inr none=>(∃ v,e = .returned (.tuple #[v,.int .i64 0]))∧Below w.heap.size w w'
 |.inr (some p)=>(∃ v,e = .returned (.tuple #[v,.int .i64 0]))∧Far [pu,pr] w w'∧w'.cell? ⟨pu,0,none⟩=some (.int .i64 (p.1:Nat))∧w'.cell? ⟨pr,0,none⟩=some (.int .i64 (p.2:Nat))
theorem Zt {r:Option (List Com)} {w:World} {e:Ending} {w':World} (h:OrdP r w e w'):(match r with
  |none=>e = .returned (.tuple #[.slice none 0 0,.bool false])∧Below w.heap.size w w'
  |some s => ∃ A c,e = .returned (.tuple #[.slice A s.length c,.bool true])∧Cs w' w'.heap.size A s.length c s∧Below w.heap.size w w'):=by
 rcases h with ⟨rfl,h1,h2⟩|⟨s,rfl,A,c,h1,h2,h3⟩
 ·exact ⟨h1,h2⟩
 ·exact ⟨A,c,h1,h2,h3⟩
theorem ord_mem {l s:List Com} (h:Yh l=some s):∀ x∈s,x∈l∧Z9 x=true:=by
 unfold Yh at h;split at h
 ·cases h
 ·rename_i ha
  split at h
  ·injection h with h
   subst h;intro x hx;rw [Il] at hx
   have hm:x∈l:=by
    rcases hx with hx|hx
    ·cases hx
    ·exact hx
   refine ⟨hm,?_⟩;cases hb:Z9 x with
   |true=>rfl
   |false=>exact absurd (List.any_eq_true.2 ⟨x,hm,by simp [hb]⟩) ha
  ·cases h
theorem ord_len {l s:List Com} (h:Yh l=some s):s.length=l.length:=by
 unfold Yh at h;split at h
 ·cases h
 ·split at h
  ·injection h with h
   subst h;rw [Zo];simp
  ·cases h
structure PK (w w1 W:World) (st:List Cnt):Prop where
 sw:SW W w1.heap.size st
 be:Below w1.heap.size w1 W
 sz:w1.heap.size+1≤W.heap.size
 b0:Below w.heap.size w w1
theorem PK.next {w w1 W W':World} {st:List Cnt} (h:PK w w1 W st) (hb:Below W.heap.size W W'):PK w w1 W' st:=
 ⟨h.sw.below hb,U0 h.be hb (by have:=h.sz;omega),Lx h.sz hb.size,h.b0⟩
theorem PK.far {w w1 W W':World} {st st':List Cnt} (h:PK w w1 W st) (hs:SW W' w1.heap.size st') (hf:Far [w1.heap.size] W W'):PK w w1 W' st':=
 ⟨hs,Yz h.be hf (Le _) h.be.size,Lx h.sz hf.size,h.b0⟩
theorem PK.base {w w1 W:World} {st:List Cnt} (h:PK w w1 W st):Below w.heap.size w W:=U0 h.b0 h.be h.b0.size
theorem beg_some {R:Option (List Cnt)} {w:World} {e:Ending} {w':World} (h:BegG R w e w'):∃ v z,e = .returned (.tuple #[.map v,.bool z])∧Below w.heap.size w w':=by
 unfold BegG at h;cases R with
 |none=>exact ⟨_,_,h.1,h.2⟩
 |some st=>exact ⟨_,_,h.1,h.2.2⟩
theorem play_rep (iA:Option Addr) (im ic:Nat) (ini:List Cnt) (A:Option Addr) (n c:Nat) (l:List Com) (w:World) (hi:Sl cnC 23 w w.heap.size iA im ic ini) (hip:∀ x∈ini,CW w x) (him:im≤1024)
  (hs:Cs w w.heap.size A n c l) (hv:∀ x∈l,SmC x) (hn:n≤12) (ht:Sta w) (hc:Cod w):
  Calls prog 20 #[.slice iA im ic,.slice A n c,.func (.func 21) #[] #[]] w (PlayR (repF ini l) w):=by
 have HO:=Hd (Yy A n c l w hs (fun x hx y hy=>(hv x hx y hy).2) hn);have HBG:=Hd fun W (hW:Below w.heap.size w W)=>begin_any iA im ic ini W (hi.after hW hW.size) (fun x hx=>(hip x hx).below hW) him (hc.after hW)
 obtain ⟨RR,hRR⟩:∃ RR,repF ini l=RR:=⟨_,rfl⟩
 rw [hRR];unfold repF at hRR;have HV:=Hd hv;have HT:=Hd ht;have HCD:=Hd hc;have hln:=hs.1.len;clear hi hip him hs hv ht hc;cases hord:Yh l with
 |none=>
  rw [hord] at HO;have hq:RR = .inl 1:=by rw [←hRR,hord]
  have HQ:=Hd hq;clear hRR hq hord;go_enter Tryz.func20,Tryz.ntmps20;go_wp2_with (first|(go_at_call 16;refine HO.out.mono ?_;intro e w1 hp0;obtain ⟨rfl,hb1⟩:=Zt hp0;have HB1:=Hd hb1;clear hp0 hb1)|(go_at_call 47;refine (HBG.out w1 HB1.out).mono ?_;rintro e w2 hg;have hg2:∃ v z,e = .returned (.tuple #[.map v,.bool z])∧Below w1.heap.size w1 w2:=beg_some hg;obtain ⟨v,z,rfl,hb2⟩:=hg2;have HB2:=Hd (U0 HB1.out hb2 HB1.out.size);clear hg hb2))
  all_goals
   go_ret2
   rw [HQ.out];exact ⟨by decide,rfl,HB2.out⟩
 |some s=>
  have hsl:=ord_len hord;have hmem:=ord_mem hord;rw [hord] at HO;cases hbeg:Fa vC [] ini with
  |none=>
   rw [hbeg] at HBG;have hq:RR = .inl 1:=by rw [←hRR,hord,hbeg]
   have HQ:=Hd hq;clear hRR hq hord hbeg hsl hmem;go_enter Tryz.func20,Tryz.ntmps20;go_wp2_with (first|(go_at_call 16;refine HO.out.mono ?_;intro e w1 hp0;obtain ⟨A',c',rfl,hcs,hb1⟩:=Zt hp0;have HB1:=Hd hb1;clear hp0 hcs hb1)|(go_at_call 47;refine (HBG.out w1 HB1.out).mono ?_;rintro e w2 ⟨rfl,hb2⟩;have HB2:=Hd (U0 HB1.out hb2 HB1.out.size);clear hb2))
   go_ret2
   rw [HQ.out];exact ⟨by decide,rfl,HB2.out⟩
  |some st0=>
   rw [hbeg] at HBG;have hq:Et Y6 doF s (st0.map plC)=RR:=by rw [←hRR,hord,hbeg]
   have HQ:=Hd hq;have HMEM:=Hd hmem;obtain ⟨m,hm⟩:∃ m,s.length=m:=⟨_,rfl⟩
   have HM:=Hd hm;have HSM:Hid (m≤12):=Hd (by omega);clear hRR hq hord hbeg hsl hmem hln hn;go_enter Tryz.func20,Tryz.ntmps20;go_wp2_with (first|(go_at_call 16;refine HO.out.mono ?_;intro e w1 hp0;obtain ⟨A',c',rfl,hcs,hb1⟩:=Zt hp0;rw [hm] at hcs ⊢;have HCS:=Hd hcs;have HB1:=Hd hb1;clear hp0 hcs hb1 hm)|(go_at_call 47;refine (HBG.out w1 HB1.out).mono ?_;rintro e w2 ⟨rfl,hst,hb2⟩;have HPK:Hid (PK w w1 w2 st0):=Hd ⟨hst,hb2,hst.sb.lt,HB1.out⟩;clear hst hb2));go_loopw [33] (fun i wr => ∃ (j:Nat) (st:List Cnt),j≤m∧i = .int .i64 j∧Et Y6 doF (s.drop j) (st.map plC)=RR∧PK w w1 wr st) (fun i _=>m-(intOf i).toNat)
   case atStart=>exact ⟨0,st0,Z0 _,rfl,HQ.out,HPK.out⟩
   case round=>
    obtain ⟨j,st,hj,rfl,hrec,hpk⟩:=hrel;obtain ⟨wx,rfl⟩:∃ x:World,x=wr:=⟨_,rfl⟩
    have HK:=Hd hpk;have hm12:=HSM.out;by_cases hlt:j<m
    ·obtain ⟨b,o,x,rfl,hb,hg,hcell⟩:=Sl.cell (f:=U8) (k:=4) (fun _=>rfl) (HCS.out.1.below hpk.be) hlt
     have hxm:x∈s:=List.mem_of_getElem? hg
     have hd:s.drop j=x::s.drop (j+1):=by
      have hjl:j<s.length:=by rw [HM.out];exact hlt
      rw [List.drop_eq_getElem_cons hjl];congr 1;exact (List.getElem?_eq_some_iff.1 hg).2
     rw [hd] at hrec;unfold Et at hrec;have HM4:Hid (wx.rangeAt b (o+j*4) (U8 x)):=Hd fun t u hu=>hcell t u hu
     have HA1:=Hd (Zx x);have HB2:=Hd fun old=>Blk.new wx 34 old
     have HS2:=Hd fun old=>U1 wx old (U8 x).toArray 34
     have HK2:=Hd (hpk.next ((Bf _ _).alloc (Le _) (.cells (U8 x).toArray 34)));have HBX:=Hd (Blk.new wx 34 (U8 x).toArray);have HAF:=Hd fun (W:World) (h:PK w w1 W st)=>aft_at x w1.heap.size st w1 W (HCS.out.2 x hxm) h.be rfl h.sw (HMEM.out x hxm).2 (HV.out x (HMEM.out x hxm).1) (HT.out.after HB1.out) (HCD.out.after HB1.out)
     have HLT:=Hd hlt;clear hb hg hcell hd hpk hxm hlt;cases hav:aft Y6 doF x.num x.cs (st.map plC) with
     |inl er=>
      rw [hav] at hrec;have HR:=Hd hrec;have HAV:=Hd hav;clear hrec hav
      go_wp2_with (first|((with_reducible refine Gl 34 36 ?_);refine Lm rfl 34 _ rfl b (o+j*4) rfl (U8 x) _ HM4.out Tryz.underlying34 rfl (by kernel_rfl) ?_)|((with_reducible refine Gt 34 13 ?_);refine Lt rfl 34 _ _ rfl (wx.heap.size) (U8 x).toArray rfl rfl 34 _ (HB2.out _) (by kernel_rfl) rfl HA1.out ?_;rw [HS2.out])|((with_reducible refine Gl 34 13 ?_);refine Lr rfl 34 _ rfl (wx.heap.size) rfl 34 _ (0,0) _ HBX.out Tryz.underlying34 rfl (by kernel_rfl) ?_)|(go_at_call 21;refine (replay1_g x j w1.heap.size _).mono ?_;rintro e w3 ⟨rfl,hb3⟩;have HK3:=Hd (HK2.out.next hb3);have HB3:=Hd (HBX.out.below hb3 (by simp));clear hb3 HBX)|((with_reducible refine Gl 34 13 ?_);refine Lr rfl 34 _ rfl (wx.heap.size) rfl 34 _ (0,0) _ HB3.out Tryz.underlying34 rfl (by kernel_rfl) ?_)|(go_at_call 48;refine (HAF.out _ HK3.out).mono ?_;intro e w4 ha;rw [HAV.out] at ha;obtain ⟨hne0,rfl,hf4⟩:=ha;have HNE0:=Hd hne0;have hbe:(er != 0)=true:=(by simpa using hne0);have HB4:=Hd (U0 HB1.out (Yz HK3.out.be hf4 (Le _) HK3.out.be.size) HB1.out.size);clear hf4 hne0))
      go_ret2
      rw [←HR.out];exact ⟨HNE0.out,rfl,HB4.out⟩
     |inr s1=>
      rw [hav] at hrec;have HR:=Hd hrec;have HAV:=Hd hav;clear hrec hav
      go_wp2_with (first|((with_reducible refine Gl 34 36 ?_);refine Lm rfl 34 _ rfl b (o+j*4) rfl (U8 x) _ HM4.out Tryz.underlying34 rfl (by kernel_rfl) ?_)|((with_reducible refine Gt 34 13 ?_);refine Lt rfl 34 _ _ rfl (wx.heap.size) (U8 x).toArray rfl rfl 34 _ (HB2.out _) (by kernel_rfl) rfl HA1.out ?_;rw [HS2.out])|((with_reducible refine Gl 34 13 ?_);refine Lr rfl 34 _ rfl (wx.heap.size) rfl 34 _ (0,0) _ HBX.out Tryz.underlying34 rfl (by kernel_rfl) ?_)|(go_at_call 21;refine (replay1_g x j w1.heap.size _).mono ?_;rintro e w3 ⟨rfl,hb3⟩;have HK3:=Hd (HK2.out.next hb3);have HB3:=Hd (HBX.out.below hb3 (by simp));clear hb3 HBX)|((with_reducible refine Gl 34 13 ?_);refine Lr rfl 34 _ rfl (wx.heap.size) rfl 34 _ (0,0) _ HB3.out Tryz.underlying34 rfl (by kernel_rfl) ?_)|(go_at_call 48;refine (HAF.out _ HK3.out).mono ?_;intro e w4 ha;rw [HAV.out] at ha;obtain ⟨st4,hst4,rfl,hsw4,hf4⟩:=ha;have HST4:=Hd hst4;have HK4:=Hd (HK3.out.far hsw4 hf4);clear hst4 hsw4 hf4))
      go_roundw
      case rel=>exact ⟨j+1,st4,by have:=HLT.out;omega,by go_num,by rw [HST4.out];exact HR.out,HK4.out⟩
      case measure=>simp [intOf];have:=HLT.out;omega
    ·obtain rfl:j=m:=by omega
     have hq2:RR = .inr (st.map plC):=by rw [←hrec,List.drop_of_length_le (by rw [HM.out];exact Le _)];rfl
     have HQ2:=Hd hq2;clear hq2 hrec hpk;go_wp2
     go_ret2
     rw [HQ2.out];exact ⟨w1.heap.size,st,rfl,rfl,HB1.out.size,HK.out.sw,HK.out.base⟩
theorem play_chk (iA:Option Addr) (im ic:Nat) (ini:List Cnt) (A:Option Addr) (n c:Nat) (l:List Com) (w:World) (pu pr:Nat) (hu:Blk w pu 3 #[.int .i64 (-1)]) (hp:Blk w pr 3 #[.int .i64 (-1)]) (hne:pu≠pr) (hi:Sl cnC 23 w w.heap.size iA im ic ini) (hip:∀ x∈ini,CW w x) (him:im≤1024)
  (hs:Cs w w.heap.size A n c l) (hv:∀ x∈l,SmC x) (hn:n≤12) (ht:Sta w) (hc:Cod w):
  Calls prog 20 #[.slice iA im ic,.slice A n c,.func (.func 25) #[] #[.pointer (some ⟨pu,0,none⟩),.pointer (some ⟨pr,0,none⟩)]] w (PlayC (cheF ini l) pu pr w):=by
 have HO:=Hd (Yy A n c l w hs (fun x hx y hy=>(hv x hx y hy).2) hn);have HBG:=Hd fun W (hW:Below w.heap.size w W)=>begin_any iA im ic ini W (hi.after hW hW.size) (fun x hx=>(hip x hx).below hW) him (hc.after hW)
 obtain ⟨RR,hRR⟩:∃ RR,cheF ini l=RR:=⟨_,rfl⟩
 rw [hRR];unfold cheF at hRR;have HV:=Hd hv;have HT:=Hd ht;have HCD:=Hd hc;have HU:=Hd hu;have HP:=Hd hp;have HNE:=Hd hne;clear hu hp hne;have hln:=hs.1.len;clear hi hip him hs hv ht hc;cases hord:Yh l with
 |none=>
  rw [hord] at HO;have hq:RR = .inl 1:=by rw [←hRR,hord]
  have HQ:=Hd hq;clear hRR hq hord;go_enter Tryz.func20,Tryz.ntmps20;go_wp2_with (first|(go_at_call 16;refine HO.out.mono ?_;intro e w1 hp0;obtain ⟨rfl,hb1⟩:=Zt hp0;have HB1:=Hd hb1;clear hp0 hb1)|(go_at_call 47;refine (HBG.out w1 HB1.out).mono ?_;rintro e w2 hg;have hg2:∃ v z,e = .returned (.tuple #[.map v,.bool z])∧Below w1.heap.size w1 w2:=beg_some hg;obtain ⟨v,z,rfl,hb2⟩:=hg2;have HB2:=Hd (U0 HB1.out hb2 HB1.out.size);clear hg hb2))
  all_goals
   go_ret2
   rw [HQ.out];exact ⟨by decide,rfl,HB2.out⟩
 |some s=>
  have hsl:=ord_len hord;have hmem:=ord_mem hord;rw [hord] at HO;cases hbeg:Fa vC [] ini with
  |none=>
   rw [hbeg] at HBG;have hq:RR = .inl 1:=by rw [←hRR,hord,hbeg]
   have HQ:=Hd hq;clear hRR hq hord hbeg hsl hmem;go_enter Tryz.func20,Tryz.ntmps20;go_wp2_with (first|(go_at_call 16;refine HO.out.mono ?_;intro e w1 hp0;obtain ⟨A',c',rfl,hcs,hb1⟩:=Zt hp0;have HB1:=Hd hb1;clear hp0 hcs hb1)|(go_at_call 47;refine (HBG.out w1 HB1.out).mono ?_;rintro e w2 ⟨rfl,hb2⟩;have HB2:=Hd (U0 HB1.out hb2 HB1.out.size);clear hb2))
   go_ret2
   rw [HQ.out];exact ⟨by decide,rfl,HB2.out⟩
  |some st0=>
   rw [hbeg] at HBG;have hq:chkF Y6 doF 0 s (st0.map plC)=RR:=by rw [←hRR,hord,hbeg]
   have HQ:=Hd hq;have HMEM:=Hd hmem;obtain ⟨m,hm⟩:∃ m,s.length=m:=⟨_,rfl⟩
   have HM:=Hd hm;have HSM:Hid (m≤12):=Hd (by omega);clear hRR hq hord hbeg hsl hmem hln hn;go_enter Tryz.func20,Tryz.ntmps20;go_wp2_with (first|(go_at_call 16;refine HO.out.mono ?_;intro e w1 hp0;obtain ⟨A',c',rfl,hcs,hb1⟩:=Zt hp0;rw [hm] at hcs ⊢;have HCS:=Hd hcs;have HB1:=Hd hb1;clear hp0 hcs hb1 hm)|(go_at_call 47;refine (HBG.out w1 HB1.out).mono ?_;rintro e w2 ⟨rfl,hst,hb2⟩;have HPK:Hid (PK w w1 w2 st0):=Hd ⟨hst,hb2,hst.sb.lt,HB1.out⟩;clear hst hb2));go_loopw [33] (fun i wr => ∃ (j:Nat) (st:List Cnt),j≤m∧i = .int .i64 j∧chkF Y6 doF j (s.drop j) (st.map plC)=RR∧PK w w1 wr st) (fun i _=>m-(intOf i).toNat)
   case atStart=>exact ⟨0,st0,Z0 _,rfl,HQ.out,HPK.out⟩
   case round=>
    obtain ⟨j,st,hj,rfl,hrec,hpk⟩:=hrel;obtain ⟨wx,rfl⟩:∃ x:World,x=wr:=⟨_,rfl⟩
    have HK:=Hd hpk;have hm12:=HSM.out;by_cases hlt:j<m
    ·obtain ⟨b,o,x,rfl,hb,hg,hcell⟩:=Sl.cell (f:=U8) (k:=4) (fun _=>rfl) (HCS.out.1.below hpk.be) hlt
     have hxm:x∈s:=List.mem_of_getElem? hg
     have hd:s.drop j=x::s.drop (j+1):=by
      have hjl:j<s.length:=by rw [HM.out];exact hlt
      rw [List.drop_eq_getElem_cons hjl];congr 1;exact (List.getElem?_eq_some_iff.1 hg).2
     rw [hd] at hrec;unfold chkF at hrec;have HM4:Hid (wx.rangeAt b (o+j*4) (U8 x)):=Hd fun t u hu=>hcell t u hu
     have HA1:=Hd (Zx x);have HB2:=Hd fun old=>Blk.new wx 34 old
     have HS2:=Hd fun old=>U1 wx old (U8 x).toArray 34
     have HK2:=Hd (hpk.next ((Bf _ _).alloc (Le _) (.cells (U8 x).toArray 34)));have HBX:=Hd (Blk.new wx 34 (U8 x).toArray);have HAF:=Hd fun (W:World) (h:PK w w1 W st)=>aft_at x w1.heap.size st w1 W (HCS.out.2 x hxm) h.be rfl h.sw (HMEM.out x hxm).2 (HV.out x (HMEM.out x hxm).1) (HT.out.after HB1.out) (HCD.out.after HB1.out)
     have HLT:=Hd hlt;have HUX:=Hd (HU.out.below HK2.out.base HU.out.lt);have HPX:=Hd (HP.out.below HK2.out.base HP.out.lt);have HCX:=Hd (check1_g x j pu pr w1.heap.size (-1) (-1) st _ HK2.out.sw ((HCS.out.2 x hxm).1.after HK2.out.be HK2.out.be.size) (HCS.out.2 x hxm).2.2.1 HUX.out HPX.out HNE.out);clear hb hg hcell hd hpk hxm hlt;by_cases hfi:x.rs.findIdx (Fd (st.map plC))<x.rs.length
     ·have hrec2:Sum.inr (some (j,x.rs.findIdx (Fd (st.map plC))))=RR:=by
       rw [←hrec,if_pos (show x.rs.findIdx (fun r => !Xy (Y4 (st.map plC) r.id) r)<x.rs.length from hfi)];rfl
      have HR:=Hd hrec2;have HFI:=Hd hfi;clear hrec hrec2 hfi;go_wp2_with (first|((with_reducible refine Gl 34 36 ?_);refine Lm rfl 34 _ rfl b (o+j*4) rfl (U8 x) _ HM4.out Tryz.underlying34 rfl (by kernel_rfl) ?_)|((with_reducible refine Gt 34 13 ?_);refine Lt rfl 34 _ _ rfl (wx.heap.size) (U8 x).toArray rfl rfl 34 _ (HB2.out _) (by kernel_rfl) rfl HA1.out ?_;rw [HS2.out])|((with_reducible refine Gl 34 13 ?_);refine Lr rfl 34 _ rfl (wx.heap.size) rfl 34 _ (0,0) _ HBX.out Tryz.underlying34 rfl (by kernel_rfl) ?_)|(go_at_call 25;refine HCX.out.mono ?_;intro e w3 hp0;unfold Chk1P at hp0;rw [if_pos HFI.out] at hp0;obtain ⟨rfl,hf3,h31,h32⟩:=hp0;have HF3:=Hd hf3;have H31:=Hd h31;have H32:=Hd h32;clear hf3 h31 h32))
      go_ret2
      rw [←HR.out];exact ⟨⟨_,rfl⟩,(Far.of_below HK2.out.base).trans HF3.out,H31.out,H32.out⟩
     ·have hrec2:=hrec
      rw [if_neg (show ¬ x.rs.findIdx (fun r => !Xy (Y4 (st.map plC) r.id) r)<x.rs.length from hfi)] at hrec2;have HFI:=Hd hfi;clear hrec hfi;cases hav:aft Y6 doF x.num x.cs (st.map plC) with
      |inl er=>
       rw [hav] at hrec2;have HR:=Hd hrec2;have HAV:=Hd hav;clear hrec2 hav
       go_wp2_with (first|((with_reducible refine Gl 34 36 ?_);refine Lm rfl 34 _ rfl b (o+j*4) rfl (U8 x) _ HM4.out Tryz.underlying34 rfl (by kernel_rfl) ?_)|((with_reducible refine Gt 34 13 ?_);refine Lt rfl 34 _ _ rfl (wx.heap.size) (U8 x).toArray rfl rfl 34 _ (HB2.out _) (by kernel_rfl) rfl HA1.out ?_;rw [HS2.out])|((with_reducible refine Gl 34 13 ?_);refine Lr rfl 34 _ rfl (wx.heap.size) rfl 34 _ (0,0) _ HBX.out Tryz.underlying34 rfl (by kernel_rfl) ?_)|(go_at_call 25;refine HCX.out.mono ?_;intro e w3 hp0;unfold Chk1P at hp0;rw [if_neg HFI.out] at hp0;obtain ⟨rfl,hb3⟩:=hp0;have HK3:=Hd (HK2.out.next hb3);have HB3:=Hd (HBX.out.below hb3 (by simp));clear hb3 HBX)|((with_reducible refine Gl 34 13 ?_);refine Lr rfl 34 _ rfl (wx.heap.size) rfl 34 _ (0,0) _ HB3.out Tryz.underlying34 rfl (by kernel_rfl) ?_)|(go_at_call 48;refine (HAF.out _ HK3.out).mono ?_;intro e w4 ha;rw [HAV.out] at ha;obtain ⟨hne0,rfl,hf4⟩:=ha;have HNE0:=Hd hne0;have hbe:(er != 0)=true:=(by simpa using hne0);have HB4:=Hd (U0 HB1.out (Yz HK3.out.be hf4 (Le _) HK3.out.be.size) HB1.out.size);clear hf4 hne0))
       go_ret2
       rw [←HR.out];exact ⟨HNE0.out,rfl,HB4.out⟩
      |inr s1=>
       rw [hav] at hrec2;have HR:=Hd hrec2;have HAV:=Hd hav;clear hrec2 hav
       go_wp2_with (first|((with_reducible refine Gl 34 36 ?_);refine Lm rfl 34 _ rfl b (o+j*4) rfl (U8 x) _ HM4.out Tryz.underlying34 rfl (by kernel_rfl) ?_)|((with_reducible refine Gt 34 13 ?_);refine Lt rfl 34 _ _ rfl (wx.heap.size) (U8 x).toArray rfl rfl 34 _ (HB2.out _) (by kernel_rfl) rfl HA1.out ?_;rw [HS2.out])|((with_reducible refine Gl 34 13 ?_);refine Lr rfl 34 _ rfl (wx.heap.size) rfl 34 _ (0,0) _ HBX.out Tryz.underlying34 rfl (by kernel_rfl) ?_)|(go_at_call 25;refine HCX.out.mono ?_;intro e w3 hp0;unfold Chk1P at hp0;rw [if_neg HFI.out] at hp0;obtain ⟨rfl,hb3⟩:=hp0;have HK3:=Hd (HK2.out.next hb3);have HB3:=Hd (HBX.out.below hb3 (by simp));clear hb3 HBX)|((with_reducible refine Gl 34 13 ?_);refine Lr rfl 34 _ rfl (wx.heap.size) rfl 34 _ (0,0) _ HB3.out Tryz.underlying34 rfl (by kernel_rfl) ?_)|(go_at_call 48;refine (HAF.out _ HK3.out).mono ?_;intro e w4 ha;rw [HAV.out] at ha;obtain ⟨st4,hst4,rfl,hsw4,hf4⟩:=ha;have HST4:=Hd hst4;have HK4:=Hd (HK3.out.far hsw4 hf4);clear hst4 hsw4 hf4))
       go_roundw
       case rel=>exact ⟨j+1,st4,by have:=HLT.out;omega,by go_num,by rw [HST4.out];exact HR.out,HK4.out⟩
       case measure=>simp [intOf];have:=HLT.out;omega
    ·obtain rfl:j=m:=by omega
     have hq2:RR = .inr none:=by rw [←hrec,List.drop_of_length_le (by rw [HM.out];exact Le _)];rfl
     have HQ2:=Hd hq2;clear hq2 hrec hpk;go_wp2
     go_ret2
     rw [HQ2.out];exact ⟨⟨_,rfl⟩,HK.out.base⟩
end
section
open Go.RowKit
def Zh (n:Int) (c:Com):Com:={ c with num:=n,rA:=none,rn:=0,rc:=0,rs:=[] }
def Vd:Int→List Com→List Com
 |_,[]=>[]
 |n,c::r=>Zh n c::Vd (n+c.cn) r
def Y0:Int→List Com→Int
 |n,[]=>n
 |n,c::r=>Y0 (n+c.cn) r
theorem Ge:∀ (l:List Com) (n:Int),n≤Y0 n l
 | [],n=>Int.le_refl n
 |c::r,n=>by
  have:=Ge r (n+c.cn);show n≤Y0 (n+c.cn) r;omega
theorem Ez:∀ (l:List Com) (n:Int),(Vd n l).length=l.length
 | [],_=>rfl
 |c::r,n=>by simp [Vd,Ez r]
def Bef (n:Int) (y:Com):Prop:=y.num≤n∧(0<y.cn→y.num<n)
theorem Bef.le {n m:Int} {y:Com} (h:Bef n y) (hm:n≤m):Bef m y:=⟨by have:=h.1;omega,fun h0=>by have:=h.2 h0;omega⟩
theorem bef_no {x y:Com} (h:Bef x.num y):E2 x y=false:=by
 obtain ⟨h1,h2⟩:=h;unfold E2;by_cases h0:0<y.cn
 ·have:=h2 h0
  have e1:decide (x.num<y.num)=false:=by simp;omega
  have e2:decide (x.num=y.num)=false:=by simp;omega
  rw [e1,e2];rfl
 ·have e1:decide (x.num<y.num)=false:=by simp;omega
  have e3:decide (0<y.cn)=false:=by simp;omega
  rw [e1,e3];simp
theorem ins_end {x:Com} {acc:List Com} (h:∀ y∈acc,Bef x.num y):Zj E2 x acc=acc++[x]:=by
 have:=insB_split (lt:=E2) (x:=x) (p:=acc) (s:=[]) (fun y hy=>by simp at hy) (fun y hy=>bef_no (h y (List.mem_of_getLast? hy)));simpa using this
theorem Ko:∀ (l acc:List Com) (n:Int),(∀ y∈acc,Bef n y)→Xa E2 acc (Vd n l)=acc++Vd n l∧∀ y∈acc++Vd n l,Bef (Y0 n l) y
 | [],acc,n,h=>by
  refine ⟨by simp [Vd,Xa],fun y hy=>?_⟩;rw [show Vd n [] = [] from rfl,List.append_nil] at hy;exact h y hy
 |c::r,acc,n,h=>by
  have hi:Zj E2 (Zh n c) acc=acc++[Zh n c]:=ins_end h
  have h2:∀ y∈acc++[Zh n c],Bef (n+c.cn) y:=by
   intro y hy;rcases List.mem_append.1 hy with hy|hy
   ·exact (h y hy).le (by omega)
   ·rw [List.mem_singleton] at hy
    subst hy;exact ⟨by show n≤_;omega,fun h0=>by have h1:0<c.cn:=h0;show n<_;omega⟩
  obtain ⟨k1,k2⟩:=Ko r (acc++[Zh n c]) (n+c.cn) h2;have e:acc++[Zh n c]++Vd (n+c.cn) r=acc++Vd n (c::r):=by simp [Vd]
  rw [e] at k1 k2;refine ⟨?_,k2⟩;show Xa E2 (Zj E2 (Zh n c) acc) (Vd (n+c.cn) r)=_;rw [hi,k1]
def finN:Int→Int→List Com→Int
 |m,_,[]=>m
 |m,n,c::r=>finN (if 0<c.cn then n+c.cn-1 else m) (n+c.cn) r
theorem finN_lt:∀ (l:List Com) (m n:Int),m<n→finN m n l<Y0 n l
 | [],m,n,h=>h
 |c::r,m,n,h=>by
  refine finN_lt r _ (n+c.cn) ?_;split<;>omega
theorem chk_numL:∀ (l:List Com) (m n:Int) (t:List Com),m<n→F9 m (Vd n l++t)=F9 (finN m n l) t
 | [],_,_,_,_=>rfl
 |c::r,m,n,t,h=>by
  show (if n≤m then false else F9 (if 0<c.cn then n+c.cn-1 else m) (Vd (n+c.cn) r++t))=_;rw [if_neg (by omega)];exact chk_numL r _ (n+c.cn) t (by split<;>omega)
theorem ord_numL (l:List Com):Yh (Vd 1 l)=if ((Vd 1 l).any fun x => !Z9 x)=true then none else some (Vd 1 l):=by
 have hs:=(Ko l [] 1 (fun y hy=>by simp at hy)).1;rw [List.nil_append] at hs;have hc:=chk_numL l 0 1 [] (by decide);rw [List.append_nil] at hc;unfold Yh;rw [hs,hc];rfl
theorem ord_numL_snoc (l:List Com) (x:Com) (hx:x.num=Y0 1 l) (hb:Z9 x=true) (hl:((Vd 1 l).any fun x => !Z9 x)=false):Yh (Vd 1 l++[x])=some (Vd 1 l++[x]):=by
 obtain ⟨k1,k2⟩:=Ko l [] 1 (fun y hy=>by simp at hy);rw [List.nil_append] at k1 k2
 have hs:Xa E2 [] (Vd 1 l++[x])=Vd 1 l++[x]:=by
  rw [sortB_snoc,k1];exact ins_end (fun y hy=>by rw [hx];exact k2 y hy)
 have hc:F9 0 (Vd 1 l++[x])=true:=by
  rw [chk_numL l 0 1 [x] (by decide)];have:=finN_lt l 0 1 (by decide);show (if x.num≤finN 0 1 l then false else F9 _ [])=true;rw [if_neg (by omega)];rfl
 have ha:((Vd 1 l++[x]).any fun x => !Z9 x)=false:=by
  rw [List.any_append,hl];simp [hb]
 unfold Yh;rw [hs,hc,ha];rfl
end
section
set_option maxRecDepth 100000
set_option maxHeartbeats 4000000
open Go.RowKit
def reN (n:Int) (c:Com):Com:={ c with num:=n }
def Jc:Int→List Com→List Com
 |_,[]=>[]
 |n,c::r=>reN n c::Jc (n+c.cn) r
theorem numG_len:∀ (l:List Com) (n:Int),(Jc n l).length=l.length
 | [],_=>rfl
 |c::r,n=>by simp [Jc,numG_len r]
def Vy (c:Com):Com:={ c with rA:=none,rn:=0,rc:=0,rs:=[] }
theorem Ij:∀ (l:List Com) (n:Int),Jc n (l.map Vy)=Vd n l
 | [],_=>rfl
 |c::r,n=>by
  show reN n (Vy c)::Jc (n+(Vy c).cn) (r.map Vy)=Zh n c::Vd (n+c.cn) r;rw [Ij r];rfl
theorem F2:∀ (l:List Com) (n:Int) (x:Com),Y0 n (l++[x])=Y0 n l+x.cn
 | [],_,_=>rfl
 |c::r,n,x=>F2 r (n+c.cn) x
theorem numG_snoc:∀ (l:List Com) (n:Int) (x:Com),Jc n (l++[x])=Jc n l++[reN (Y0 n l) x]
 | [],_,_=>rfl
 |c::r,n,x=>by
  show reN n c::Jc (n+c.cn) (r++[x])=_;rw [numG_snoc r];rfl
theorem Km {α:Type} {l:List α} {j:Nat} {x:α} (h:l[j]? =some x):l.take (j+1)=l.take j++[x]:=by
 rw [List.take_add_one,h];rfl
theorem endN_bd (l:List Com) (h:∀ x∈l,x.cn≤300):∀ (n:Int),Y0 n l≤n+300*l.length:=by
 induction l with
 |nil=>intro n;show n≤_;simp
 |cons c r ih=>
  intro n;have h1:=h c List.mem_cons_self;have h2:=ih (fun x hx=>h x (List.mem_cons_of_mem _ hx)) (n+c.cn);show Y0 (n+c.cn) r≤_;simp only [List.length_cons];omega
theorem Jt {w:World} {base n k:Nat} {t:TypeId} {v:Value} {xs:List Value} (h:w.ownsRow base t k v n xs):∀ g,v.ownBlock=some g→base≤g:=by
 intro g hg;rcases h.2 with ⟨hv,_⟩|⟨g',cap,cur,hv,hb,hw,_⟩
 ·subst hv;cases hg
 ·subst hv
  injection hg with hg
  subst hg;exact hb
theorem set_num (x:Com) (q:Int):(U8 x).set 1 (.int .i64 q)=U8 (reN q x):=rfl
theorem E8 (A:Option Addr) (n c:Nat) (l:List Com) (w:World) (hs:Cs w w.heap.size A n c l) (hn:n≤12) (hc0:∀ x∈l,x.cn≤300):
  Calls prog 7 #[.slice A n c] w fun e w' => ∃ A' c',e = .returned (.slice A' (Jc 1 l).length c')∧w'.ownsRow w.heap.size 34 4 (.slice A' (Jc 1 l).length c') (Jc 1 l).length (Ua U8 (Jc 1 l))∧Below w.heap.size w w':=by
 obtain ⟨i0,hi0,hz0,hz1,hz2⟩:=info_parts infoCom;have HS:=Hd hs.1;have HL:=Hd hs.1.len;have HCN:=Hd hc0;clear hs hc0;go_enter Tryz.func7,Tryz.ntmps7;go_wp2;go_loopw [3,4,9] (fun v q i wr => ∃ j:Nat,j≤n∧i = .int .i64 j∧q = .int .i64 (Y0 1 (l.take j))∧wr.ownsRow w.heap.size 34 4 v j (Ua U8 (Jc 1 (l.take j)))∧Below w.heap.size w wr) (fun _ _ i _=>n-(intOf i).toNat)
 case atStart=>exact ⟨0,Z0 _,rfl,rfl,⟨rfl,.inl ⟨rfl,rfl⟩⟩,Bf _ _⟩
 case round=>
  obtain ⟨j,hj,rfl,rfl,hown,hbel⟩:=hrel;obtain ⟨wx,rfl⟩:∃ x:World,x=wr:=⟨_,rfl⟩
  have HO:=Hd hown;have HB:=Hd hbel;by_cases hlt:j<n
  ·obtain ⟨b,o,x,rfl,hb,hg,hcell⟩:=Sl.cell (f:=U8) (k:=4) Uz (HS.out.below hbel) hlt
   have HM4:Hid (wx.rangeAt b (o+j*4) (U8 x)):=Hd fun t u hu=>hcell t u hu
   have HT:=Hd (Km hg);have hend:=endN_bd (l.take j) (fun y hy=>HCN.out y (List.mem_of_mem_take hy)) 1;have hend0:=Ge (l.take j) 1;have hxc:=HCN.out x (List.mem_of_getElem? hg);have htl:(l.take j).length=j:=by rw [List.length_take,HL.out];omega
   rw [htl] at hend;obtain ⟨q,hq⟩:∃ q,Y0 1 (l.take j)=q:=⟨_,rfl⟩
   have HQ:=Hd hq;have hnx:q+(x.cn:Int)=Y0 1 (l.take (j+1)):=by rw [HT.out,F2,hq]
   have HNX:=Hd hnx
   have hw:IntKind.i64.wrap (q+(x.cn:Int))=q+(x.cn:Int):=by
    rw [hq] at hend hend0;exact IntWalk.i64_in _ (by omega)
   rw [hq];have HN12:Hid (j+1≤12):=Hd (by omega);have HA1:=Hd (Zx x);have HB2:=Hd fun old=>Blk.new wx 34 old
   have HS2:=Hd fun old=>U1 wx old (U8 x).toArray 34
   have hset:=set_num x q;have c3:=((Blk.new wx 34 (U8 (reN q x)).toArray).cell 3).trans (show _=some (Value.slice x.cA x.cn x.cc) from rfl);have HBK:=Hd (Blk.new wx 34 (U8 (reN q x)).toArray);have HRD:=Hd (Va (wx.alloc (.cells (U8 (reN q x)).toArray 34)) (U8 (reN q x)) 34 1 4 rfl);have HO4:=Hd fun o4=>Ui hown (((Bf wx.heap.size wx).alloc (Le _) (.cells (U8 (reN q x)).toArray 34)).alloc (by simp) o4)
   have HB4:=Hd fun o4=>(hbel.alloc hbel.size (.cells (U8 (reN q x)).toArray 34)).alloc (by have:=hbel.size;simp;omega) o4
   have HON:Hid (∀ u∈U8 (reN q x),u.oneCell'=true):=Hd (Ir _);have HOR:=Hd (Jt hown);have HLT:=Hd hlt;have HZ:Hid (∀ o4,w.heap.size≤((wx.alloc (.cells (U8 (reN q x)).toArray 34)).alloc o4).heap.size):=Hd fun o4=>(HB4.out o4).size
   clear hb hg hcell hown hbel hlt hend hend0 hxc htl hq hnx hj
   go_wp2_with (first|((with_reducible refine Gl 34 11 ?_);refine Lm rfl 34 _ rfl b (o+j*4) rfl (U8 x) _ HM4.out Tryz.underlying34 rfl (by kernel_rfl) ?_)|((with_reducible refine Gt 34 6 ?_);refine Lt rfl 34 _ _ rfl (wx.heap.size) (U8 x).toArray rfl rfl 34 _ (HB2.out _) (by kernel_rfl) rfl HA1.out ?_;rw [HS2.out])|((with_reducible refine Gl 34 6 ?_);refine Lr rfl 34 _ rfl (wx.heap.size) rfl 34 _ (0,0) _ HBK.out Tryz.underlying34 rfl (by kernel_rfl) ?_)|((with_reducible refine Gc 23 ?_);refine wpList_buildSlice rfl 23 34 1 _ rfl (U8 (reN q x)).toArray i0 (.agg #[.int .i64 0,.int .i64 0,.slice none 0 0,.slice none 0 0]) Tryz.underlying23 hi0 hz0 (by rw [hz1];decide) (by rw [hz1];decide) (by rw [hz1];kernel_rfl) ?_)|(at_builtin;go_must (refine U4 _ rfl _ _ 23 rfl w.heap.size 34 i0 _ 4 64 Tryz.underlying23 hi0 hz0 hz1 hz2 rfl (by decide) _ j (Ua U8 (Jc 1 (l.take j))) rfl (HO4.out _) ((wx.alloc (.cells (U8 (reN q x)).toArray 34)).heap.size+1) (some ⟨(wx.alloc (.cells (U8 (reN q x)).toArray 34)).heap.size,0,none⟩) 1 1 (U8 (reN q x)) rfl HRD.out HON.out (by have:=HN12.out;unfold maxLen;omega) (by have:=HN12.out;omega) (HZ.out _) ?_;intro v' w5 hown hgr _;have HOWN:=Hd hown;have HB5:=Hd ((HB4.out _).grown hgr (HZ.out _) fun k hk=>HOR.out k hk);clear hown hgr)))
   go_roundw
   case rel=>exact ⟨j+1,by have:=HLT.out;omega,by go_num,by rw [←HNX.out],by rw [HT.out,numG_snoc,Uy,Uv,HQ.out];exact HOWN.out,HB5.out⟩
   case measure=>simp [intOf];have:=HLT.out;omega
  ·obtain rfl:j=n:=by omega
   have ht:l.take j=l:=List.take_of_length_le (by rw [HL.out];exact Le _);rw [ht] at hown;have HLG:Hid ((Jc 1 l).length=j):=Hd (by rw [numG_len,HL.out]);obtain ⟨A',c',rfl,_⟩:=Ub hown;have HO2:=Hd hown;clear hown hbel;go_wp2;go_ret;rw [HLG.out];exact ⟨A',c',rfl,HO2.out,HB.out⟩
end
section
set_option maxHeartbeats 1000000
open Go.RowKit Go.Maps Go.Sort Go.Shelf
def rE:Value→Option (DataW Unit×List MemPlace):=fun _=>some (.nil,[])
theorem rd_sb {e:MapEntry} {i:Int} (hk:e.key = .int .i64 i) (hw:(Lit.int .i64 i).wf=true):WideElems.rd (H:=Unit) prog 3 rE e=some (.int .i64 i,.nil):=by
 simp [WideElems.rd,hk,keyOf_int_mk Tryz.underlying3 hw,rE]
theorem ents_read:∀ (es:List MapEntry) (st:List Cnt),Ent es st→(∀ x∈st,(Lit.int .i64 x.d.id).wf=true) →
  (∀ e∈es,∃ y,WideElems.rd (H:=Unit) prog 3 rE e=some y)∧(es.map (WideElems.rg (H:=Unit) prog 3 rE)).map (fun p=>Go.intOf p.1)=st.map (·.d.id)
 | [],st,h,_=>by
  obtain rfl:=h.nil_l;exact ⟨fun e he=>(by cases he),rfl⟩
 |e::es,st,h,hw=>by
  obtain ⟨x,r,rfl,hk,hv,ht⟩:=h.cons_l;have h1:=rd_sb hk (hw x List.mem_cons_self);obtain ⟨h2,h3⟩:=ents_read es r ht fun y hy=>hw y (List.mem_cons_of_mem _ hy)
  refine ⟨fun y hy=>?_,?_⟩
  ·rcases List.mem_cons.1 hy with rfl|hy
   ·exact ⟨_,h1⟩
   ·exact h2 y hy
  ·simp only [List.map_cons]
   rw [h3,WideElems.rg_of h1];rfl
theorem own_sb {w:World} {b:Nat} {st:List Cnt} (h:SB w b st) (hw:∀ x∈st,(Lit.int .i64 x.d.id).wf=true) (hn:st.length≤maxLen):
  ∃ D0:DataW Unit,w.ownsMap prog 3 rE b st.length D0∧(intKeys D0).Perm (st.map (·.d.id))∧Maps.size D0=st.length:=by
 obtain ⟨es,c,hb,he,hst⟩:=h;obtain ⟨h1,h2⟩:=ents_read es.toList st he hw;have hlen:es.size=st.length:=by have:=he.len;simpa using this
 refine ⟨.map ((es.toList.map (WideElems.rg (H:=Unit) prog 3 rE)).foldr DataW.insert []),⟨es,c,hb,⟨by omega,hst,h1⟩,by omega,rfl⟩,?_,?_⟩
 ·show (((es.toList.map (WideElems.rg (H:=Unit) prog 3 rE)).foldr DataW.insert []).map fun p=>Go.intOf p.1).Perm _
  rw [←h2];exact (Go.WideShapes.sorted_perm _).map _
 ·show ((es.toList.map (WideElems.rg (H:=Unit) prog 3 rE)).foldr DataW.insert []).length=_
  rw [length_sorted];simp [hlen]
def idsP (s:List PC):List Int:=(s.map (·.d.id)).mergeSort fun x y=>decide (x≤y)
theorem mem_idsP {s:List PC} {i:Int}:i∈idsP s↔∃ x∈s,x.d.id=i:=by
 unfold idsP;rw [(List.mergeSort_perm _ _).mem_iff,List.mem_map]
theorem idsP_len (s:List PC):(idsP s).length=s.length:=by
 unfold idsP;rw [List.length_mergeSort,List.length_map]
theorem ids_pl (st:List Cnt):(st.map plC).map (·.d.id)=st.map (·.d.id):=by
 rw [List.map_map];rfl
theorem sortsE (m:Nat):AnyZI.SortsIn prog Tryz.sortedE_ren Fence.wide m:=
 ⟨fun blk off cap ss W hH hblk hsz=>callsIn_wide.2 (AnyM.slices_Sort_int Tryz.sortE blk off cap ss W hH hblk hsz),
  fun p cap W=>callsIn_wide.2 (AnyM.slices_Sort_int_none Tryz.sortE p cap W)⟩
theorem keys_call (b:Nat) (W:World):Calls prog 23 #[.map (some b)] W fun e w'=>e = .returned (.func (.func 51) #[] #[.pointer (some ⟨W.heap.size,0,none⟩)])∧w'=W.alloc (.cells #[.map (some b)] 65):=
 (callsIn_wide (n:=5)).1 (AnyZI.keys_in Tryz.keysE Fence.wide 5 trivial rfl (some b) W)
theorem sorted_call (b:Nat) (st:List Cnt) (w:World) (hsb:SB w b st) (hw:∀ x∈st,(Lit.int .i64 x.d.id).wf=true) (hn:st.length≤1000):
  Calls prog 22 #[.func (.func 51) #[] #[.pointer (some ⟨w.heap.size,0,none⟩)]] (w.alloc (.cells #[.map (some b)] 65)) fun e w' => ∃ v:Value,e = .returned v ∧
   w'.ownsRow (w.alloc (.cells #[.map (some b)] 65)).heap.size 3 1 v (idsP (st.map plC)).length ((idsP (st.map plC)).map encZ)∧Below (w.alloc (.cells #[.map (some b)] 65)).heap.size (w.alloc (.cells #[.map (some b)] 65)) w':=by
 obtain ⟨D0,hown,hperm,hsize⟩:=own_sb hsb hw (by unfold maxLen;omega);have hbl:=hown.lt
 have hseq:SeqGives Fence.wide 2 prog 51 #[.pointer (some ⟨w.heap.size,0,none⟩)] encZ (fun ss=>ss.Perm (intKeys D0)) (Maps.size D0) (w.alloc (.cells #[.map (some b)] 65)):=
  AnyZI.keys_gives (ρ:=Tryz.keysE_ren) { Tryz.keysE with } Fence.wide _ trivial rfl (by omega) w.heap.size b st.length D0 _ (by simp) (by simp) (by
   obtain ⟨es,clock,hb,Ft,hs,hD⟩:=hown;exact ⟨es,clock,(Below.heap_alloc _ _ b hbl).trans hb,Ft,hs,hD⟩)
 have cS:=AnyZI.sorted_in Tryz.sortedE Fence.wide 5 trivial trivial trivial trivial rfl (by omega) (sortsE _) (enters_of Tryz.func50 (by kernel_rfl) rfl) 51 #[.pointer (some ⟨w.heap.size,0,none⟩)] trivial (enters_of Tryz.func51 (by kernel_rfl) rfl) _ _ (by rw [hsize];unfold maxLen;omega) (by rw [hsize];omega) _ hseq;change CallsIn _ _ prog 22 _ _ _ at cS;refine ((callsIn_wide (n:=5)).1 cS).mono ?_;rintro e w' ⟨v,ss,rfl,hS,hrow,hnil,hb⟩
 have hq:ss.mergeSort (fun x y=>decide (x≤y))=idsP (st.map plC):=by
  unfold idsP;rw [ids_pl];exact mergeSort_of_perm_i (hS.trans hperm)
 have hl:ss.length=(idsP (st.map plC)).length:=by rw [←hq,List.length_mergeSort]
 rw [hq,hl] at hrow;exact ⟨v,rfl,hrow,hb⟩
end
end Go.Proofs.YtapanepkfbamhaaGreatDoor
