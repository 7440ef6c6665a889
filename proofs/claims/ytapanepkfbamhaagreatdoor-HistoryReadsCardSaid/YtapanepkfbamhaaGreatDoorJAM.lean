/- Part of the proof of HistoryReads. -/
import Derived.Test.YtapanepkfbamhaaGreatDoorJAL
namespace Go.Proofs.YtapanepkfbamhaaGreatDoor
open Tryz (prog)
section
set_option maxRecDepth 100000
set_option maxHeartbeats 1000000
open Go.RowKit
structure CW (w:World) (x:Cnt):Prop where
 sl:Sl prC 2 w w.heap.size x.pA x.pn x.pc x.ps
 le:x.pn≤1024
 nil:x.pA=none→x.pc=0
 rz:∀ q∈x.ps,q.rcd.size≤maxLen
theorem CW.below {w w':World} {x:Cnt} (h:CW w x) (hb:Below w.heap.size w w'):CW w' x:=⟨h.sl.after hb hb.size,h.le,h.nil,h.rz⟩
theorem Sl.none_len {α:Type} {f:α→List Value} {k n c B:Nat} {l:List α} {w:World} (h:Sl f k w B none n c l):n=0:=by
 rcases Nat.eq_zero_or_pos n with h0|h0
 ·exact h0
 ·obtain ⟨b,o,e,_⟩:=h.rd.2 h0
  cases e
def GivesPs (w:World) (l:List Pr) (e:Ending) (w':World):Prop:=∃ A c,e = .returned (.slice A l.length c)∧w'.ownsRow w.heap.size 76 2 (.slice A l.length c) l.length (Ua prC l)∧Below w.heap.size w w'
theorem own_nil {w:World} {base c n k:Nat} {t:TypeId} {xs:List Value} {A:Option Addr} (h:w.ownsRow base t k (.slice A n c) n xs):A=none→c=0:=by
 intro ha;subst ha;rcases h.2 with ⟨hv,_⟩|⟨_,_,_,hv,_⟩
 ·injection hv
 ·injection hv with hA _ _
  cases hA
theorem clone_g (A:Option Addr) (n c:Nat) (l:List Pr) (w:World) (hs:Sl prC 2 w w.heap.size A n c l) (hn:n≤1100) (hA:A=none→c=0):
  Calls prog 24 #[.slice A n c] w (GivesPs w l):=by
 have hlen:=hs.len;subst hlen
 match A,hs,hA with
 |none,hs,hA=>
  have h0:=hs.none_len;obtain rfl:l = []:=List.eq_nil_of_length_eq_zero h0;obtain rfl:=hA rfl;exact (Ee w).mono fun e w' ⟨h1,h2⟩=>⟨none,0,h1,⟨rfl,.inl ⟨rfl,rfl⟩⟩,h2▸Bf _ _⟩
 |some a,hs,_=>
  have qq:∀ (w:World) (a:Option Addr) (n c n' c':Nat),(binOp .eql 28 (.slice a n c) (.slice none n' c')).run prog w = .ok (.bool a.isNone) w:=fun w a n c n' c'=>Lib.run_eql_slice_nil w _ _ a n c n' c' Tryz.underlying28
  obtain ⟨i0,hi0,hz0,hz1,hz2⟩:=info_parts Xe;have HR:=Hd (hs.rd.alloc (Le _) (.cells #[] 76));have HO:=Hd (World.ownsRow_lit (e:=76) (base:=w.heap.size) (size:=2) w #[] 0 (Le _) (by decide) rfl);have H1:=Hd (prC_one l);have HN:=Hd hn;clear hs hn;obtain ⟨n,hnn⟩:∃ n,l.length=n:=⟨_,rfl⟩
  rw [hnn] at HR HN ⊢;have HL:=Hd hnn;clear hnn;go_enter Tryz.func24,Tryz.ntmps24;go_wp2_with (at_builtin;go_must (refine U4 _ rfl _ _ 28 rfl w.heap.size 76 i0 _ 2 32 Tryz.underlying28 hi0 hz0 hz1 hz2 rfl (by decide) _ _ _ rfl HO.out w.heap.size (some a) n c (Ua prC l) rfl HR.out H1.out (by have:=HN.out;unfold maxLen;omega) (by have:=HN.out;omega) (by simp) ?_;intro v' w' hown hgr _;have HOWN:=Hd hown;have HGR:Hid (World.grownBy _ w' (Value.slice (some ⟨w.heap.size,0,none⟩) 0 0).ownBlock):=Hd hgr;clear hown hgr));go_ret;have ho:=HOWN.out;rw [Nat.zero_add] at ho;obtain ⟨A',c',rfl,_⟩:=Ub ho;refine ⟨A',c',by rw [HL.out];rfl,?_,((Bf _ _).alloc (Le _) _).grown HGR.out (by simp) (by intro k hk;simp [Value.ownBlock] at hk;omega)⟩;rw [HL.out];simpa using ho
theorem Ke (x:Cnt):∀ u∈cnC x,u.oneCell'=true:=by
 intro u hu;have:=Vx x;simp only [List.all_toArray,List.all_eq_true] at this;exact this u hu
def reP (x:Cnt) (A:Option Addr) (c:Nat):Cnt:=⟨x.d,x.ap,A,x.pn,c,x.ps⟩
structure R1 (w:World) (h:Nat) (x:Cnt):Prop where
 lt:h<w.heap.size
 rg:∃ A c,w.rangeAt h 0 (cnC (reP x A c))∧CW w (reP x A c)
def GivesR1 (x:Cnt) (w:World) (e:Ending) (w':World):Prop:=∃ h c,e = .returned (.iface 132 (.slice (some ⟨h,0,none⟩) 1 c))∧R1 w' h x∧Below w.heap.size w w'
theorem Kd {W:World} {b:Nat} {x:Cnt} (h:Blk W b 30 (cnC x).toArray):W.cell? ⟨b,22,none⟩=some (.slice x.pA x.pn x.pc):=(h.cell 22).trans rfl
theorem cn_set {W:World} {b:Nat} {x:Cnt} {A:Option Addr} {c:Nat} (h:Blk W b 30 (cnC x).toArray):Blk (W.setCell ⟨b,22,none⟩ (.slice A x.pn c)) b 30 (cnC (reP x A c)).toArray:=by
 have e:(cnC x).toArray.setIfInBounds 22 (.slice A x.pn c)=(cnC (reP x A c)).toArray:=rfl;have:=h.set 22 (.slice A x.pn c)
 rwa [e] at this
theorem CW.of_own' {w:World} {base c:Nat} {A:Option Addr} {x:Cnt} (h:w.ownsRow base 76 2 (.slice A x.pn c) x.pn (Ua prC x.ps)) (hl:x.pn≤1024) (hz:∀ q∈x.ps,q.rcd.size≤maxLen):CW w (reP x A c):=
 ⟨Sl.of_own (fun _=>rfl) (by decide) h,hl,own_nil h,hz⟩
theorem r1_end (x:Cnt) (A:Option Addr) (c n' h c'':Nat) (w w2 w3:World) (o':Obj) (hb:Below (w.alloc (.cells (cnC x).toArray 30)).heap.size (w.alloc (.cells (cnC x).toArray 30)) w2)
  (hp:w2.ownsRow (w.alloc (.cells (cnC x).toArray 30)).heap.size 76 2 (.slice A x.pn c) x.pn (Ua prC x.ps)) (hx:x.pn≤1024) (hrz:∀ q∈x.ps,q.rcd.size≤maxLen)
  (ho:w3.ownsRow w.heap.size 30 23 (.slice (some ⟨h,0,none⟩) 1 c'') n' (cnC (reP x A c))) (hg:((w2.setCell ⟨w.heap.size,22,none⟩ (.slice A x.pn c)).alloc o').grownBy w3 none):
  GivesR1 x w (.returned (.iface 132 (.slice (some ⟨h,0,none⟩) 1 c''))) w3:=by
 have hz:=hb.size;simp at hz;have hB:Blk w2 w.heap.size 30 (cnC x).toArray:=(Blk.new w _ _).below hb (by simp);have k1:=own_set hp hB (by decide) 22 (.slice A x.pn c);have k3:=Ui (k1.alloc o') (Xg hg);refine ⟨h,c'',rfl,⟨(ho.lt h rfl).2,A,c,fun j v hv=>?_,CW.of_own' k3 hx hrz⟩,?_⟩
 ·rw [Nat.zero_add]
  have:=ho.cells (g:=h) rfl j v hv
  rwa [show ((⟨h,0,none⟩:Addr).add j)=⟨h,j,none⟩ from by unfold Addr.add;split<;>simp_all] at this
 ·refine Below.trans ?_ ((Xg hg).mono (by simp;omega))
  exact (((((Bf w.heap.size w).alloc (Le _) _).trans (hb.mono (by simp))).setCell (Le _) _)).alloc (by simp;omega) _
theorem Reader_g (x:Cnt) (g cc:Nat) (w:World) (hx:CW w x) (hr:w.rangeAt g 0 (cnC x)):
  Calls prog 52 #[.slice (some ⟨g,0,none⟩) 1 cc] w (GivesR1 x w):=by
 obtain ⟨i0,hi0,hz0,hz1,hz2⟩:=info_parts Zv;have HR:=Hd hr;have H1:=Hd (Vx x);have HB:=Hd fun old=>Blk.new w 30 old
 have HS:=Hd fun old=>U1 w old (cnC x).toArray 30
 have hlen:=hx.sl.len;have HC:Hid (∀ o,Calls prog 24 #[.slice x.pA x.pn x.pc] (w.alloc o) (GivesPs (w.alloc o) x.ps)):=Hd fun o=>clone_g x.pA x.pn x.pc x.ps (w.alloc o) (hx.sl.after ((Bf _ _).alloc (Le _) _) (by simp)) (by have:=hx.le;omega) hx.nil
 have HLE:=Hd hx.le;have HRZ:=Hd hx.rz;have HLN:=Hd hlen;have c22:=Kd (Blk.new w 30 (cnC x).toArray);clear hr hx hlen;go_enter Tryz.func52,Tryz.ntmps52;go_wp2;refine Lu 2 ?_;rw [Rs]
 go_wp2_with (first|((with_reducible refine Gl 30 10 ?_);refine Lm rfl 30 _ rfl g 0 rfl (cnC x) _ HR.out Tryz.underlying30 rfl (by kernel_rfl) ?_)|((with_reducible refine Gt 30 5 ?_);refine Lt rfl 30 _ _ rfl w.heap.size (cnC x).toArray rfl rfl 30 _ (HB.out _) (by kernel_rfl) rfl H1.out ?_;rw [HS.out])|(go_at_call 24;refine (HC.out _).mono ?_;rintro e w2 ⟨A',c',rfl,ho2,hb2⟩;rw [HLN.out] at ho2 ⊢;have HO2:=Hd ho2;have HB2:=Hd hb2;clear c22 ho2;have d22:=Kd ((Blk.new w 30 (cnC x).toArray).below hb2 (by simp));have f22:=((Blk.new w 30 (cnC x).toArray).below hb2 (by simp)).free 22;have HK:=Hd (cn_set (A:=A') (c:=c') ((Blk.new w 30 (cnC x).toArray).below hb2 (by simp)));have HRD:=Hd (Va (w2.setCell ⟨w.heap.size,22,none⟩ (.slice A' x.pn c')) (cnC (reP x A' c')) 30 1 23 rfl);clear hb2)|((with_reducible refine Gl 30 5 ?_);refine Lr rfl 30 _ rfl w.heap.size rfl 30 _ (0,0) _ HK.out Tryz.underlying30 rfl (by kernel_rfl) ?_)|((with_reducible refine Gc 132 ?_);refine wpList_buildSlice rfl 132 30 1 _ rfl (cnC (reP x A' c')).toArray i0 (.agg zV.toArray) Tryz.underlying132 hi0 hz0 (by rw [hz1];decide) (by rw [hz1];decide) (by rw [hz1];kernel_rfl) ?_)|(at_builtin;go_must (refine U4 _ rfl _ _ 132 rfl w.heap.size 30 i0 _ 23 216 Tryz.underlying132 hi0 hz0 hz1 hz2 rfl (by decide) (.slice none 0 0) 0 [] rfl ⟨rfl,.inl ⟨rfl,rfl⟩⟩ ((w2.setCell ⟨w.heap.size,22,none⟩ (.slice A' x.pn c')).heap.size+1) (some ⟨(w2.setCell ⟨w.heap.size,22,none⟩ (.slice A' x.pn c')).heap.size,0,none⟩) 1 1 (cnC (reP x A' c')) rfl HRD.out (Ke (reP x A' c')) (by decide) (by decide) (size_ok HB2.out) ?_;intro v' w3 hown hgr _;have HOWN:=Hd hown;have HGR:Hid (World.grownBy _ w3 (Value.slice none 0 0).ownBlock):=Hd hgr;clear hown hgr)))
 rw [Rs];go_wp2;go_ret;obtain ⟨h,c'',rfl,_⟩:=Zg HOWN.out (by decide);exact r1_end x _ _ _ h c'' w w2 w3 _ HB2.out HO2.out HLE.out HRZ.out HOWN.out HGR.out
theorem Fq (w:World):Calls prog 52 #[.slice none 0 0] w fun e w'=>e = .returned (.iface 132 (.slice none 0 0))∧Below w.heap.size w w':=by
 go_enter Tryz.func52,Tryz.ntmps52;go_wp2;refine Lu 1 ?_;rw [Rs];go_wp2;go_ret;exact ⟨rfl,Bf _ _⟩
theorem pairs1_g (x:Cnt) (b:Nat) (w:World) (h:w.cell? ⟨b,0,none⟩=some (.int .i64 x.d.id)):
  Calls prog 344 #[.agg (cnC x).toArray,.pointer (some ⟨b,0,none⟩)] w fun e w'=>e = .returned (.bool true)∧Below w.heap.size w w':=by
 have hb:=Is h;have c0:(w.alloc (.cells (cnC x).toArray 30)).cell? ⟨w.heap.size,0,none⟩=some (.int .i64 x.d.id):=((Blk.new w 30 (cnC x).toArray).cell 0).trans rfl;have c1:(w.alloc (.cells (cnC x).toArray 30)).cell? ⟨b,0,none⟩=some (.int .i64 x.d.id):=(World.cell?_alloc_lt w _ _ hb).trans h;clear h hb;go_enter Tryz.func344,Tryz.ntmps344;go_wp2;go_ret;exact ⟨by simp,(Bf _ _).alloc (Le _) _⟩
theorem rindex_g (x:Cnt) (b h cc:Nat) (w:World) (hb:w.cell? ⟨b,0,none⟩=some (.int .i64 x.d.id)) (hr:w.rangeAt h 0 (cnC x)):
  Calls prog 343 #[.slice (some ⟨h,0,none⟩) 1 cc,.func (.func 344) #[] #[.pointer (some ⟨b,0,none⟩)]] w fun e w'=>e = .returned (.int .i64 0)∧Below w.heap.size w w':=by
 have HR:=Hd hr;have HC:=Hd (pairs1_g x b w hb);clear hr hb;go_enter Tryz.func343,Tryz.ntmps343;go_wp2;refine Lu 1 ?_;rw [Rs];go_wp2_with (first|((with_reducible refine Gl 30 14 ?_);refine Lm rfl 30 _ rfl h 0 rfl (cnC x) _ HR.out Tryz.underlying30 rfl (by kernel_rfl) ?_)|(go_at_call 344;refine HC.out.mono ?_;rintro e w2 ⟨rfl,hb⟩;have HB:=Hd hb;clear hb));go_ret;exact ⟨rfl,HB.out⟩
theorem rindex_none (b:Nat) (w:World):
  Calls prog 343 #[.slice none 0 0,.func (.func 344) #[] #[.pointer (some ⟨b,0,none⟩)]] w fun e w'=>e = .returned (.int .i64 (-1))∧w=w':=by
 go_enter Tryz.func343,Tryz.ntmps343;go_wp2;refine Lu 1 ?_;rw [Rs];go_wp2;go_ret;exact ⟨rfl,rfl⟩
theorem pairs_g (x:Cnt) (h cc:Nat) (w:World) (hh:h<w.heap.size) (hr:w.rangeAt h 0 (cnC x)):
  Calls prog 342 #[.slice (some ⟨h,0,none⟩) 1 cc,.int .i64 x.d.id] w fun e w'=>e = .returned (.slice x.pA x.pn x.pc)∧Below w.heap.size w w':=by
 have HR:=Hd hr;have HH:=Hd hh;have HC:=Hd (rindex_g x w.heap.size h cc (w.alloc (.cells #[.int .i64 x.d.id] 3)) ((Blk.new w 3 #[.int .i64 x.d.id]).cell 0) (U9 hr ((Bf _ _).alloc (Le _) _) hh));clear hr hh;go_enter Tryz.func342,Tryz.ntmps342;go_wp2_with (go_at_call 343;refine HC.out.mono ?_;rintro e w2 ⟨rfl,hb⟩;have HB:=Hd (((Bf w.heap.size w).alloc (Le _) _).trans (hb.mono (by simp)));clear hb;have c22:=(U9 HR.out HB.out HH.out 22 (.slice x.pA x.pn x.pc) rfl));go_ret;exact ⟨rfl,HB.out⟩
theorem pairs_none (id:Int) (w:World):Calls prog 342 #[.slice none 0 0,.int .i64 id] w fun e w'=>e = .returned (.slice none 0 0)∧Below w.heap.size w w':=by
 have HC:=Hd (rindex_none w.heap.size (w.alloc (.cells #[.int .i64 id] 3)));go_enter Tryz.func342,Tryz.ntmps342;go_wp2_with (go_at_call 343;refine HC.out.mono ?_;rintro e w2 ⟨rfl,rfl⟩);go_ret;exact ⟨rfl,(Bf _ _).alloc (Le _) _⟩
def Eb (l:List Pr) (k:ByteArray):ByteArray×Int:=if Yn l k=true then (match l[l.findIdx (geK k)]? with|some p=>(p.rcd,0)|none=>(⟨#[]⟩,6)) else (⟨#[]⟩,6)
def nxI (l:List Pr) (k:ByteArray):Nat:=if Yn l k=true then l.findIdx (geK k)+1 else l.findIdx (geK k)
def Yq (l:List Pr) (k:ByteArray):ByteArray×ByteArray×Int:=match l[nxI l k]? with|some p=>(p.key,p.rcd,0)|none=>(⟨#[]⟩,⟨#[]⟩,6)
def GivesGet (v:ByteArray×Int) (w:World) (e:Ending) (w':World):Prop:=e = .returned (.tuple #[.string v.1,.int .i64 v.2])∧Below w.heap.size w w'
def Fc (v:ByteArray×ByteArray×Int) (w:World) (e:Ending) (w':World):Prop:=e = .returned (.tuple #[.string v.1,.string v.2.1,.int .i64 v.2.2])∧Below w.heap.size w w'
structure RS (w:World) (sv:Value) (id:Int) (x:Cnt):Prop where
 cw:CW w x
 pairs:∀ W,Below w.heap.size w W→Calls prog 342 #[sv,.int .i64 id] W fun e w'=>e = .returned (.slice x.pA x.pn x.pc)∧Below W.heap.size W w'
theorem Get_g (A:Option Addr) (n c:Nat) (id:Int) (k:ByteArray) (x:Cnt) (w:World) (hx:RS w (.slice A n c) id x):
  Calls prog 340 #[.slice A n c,.int .i64 id,.string k] w (GivesGet (Eb x.ps k) w):=by
 have HC:=Hd (hx.pairs w (Bf _ _));have HF:=Hd fun W (hb:Below w.heap.size w W)=>K5 k x.pA x.pn x.pc x.ps W (hx.cw.below hb).sl (by have:=hx.cw.le;unfold maxLen;omega)
 have hle:x.ps.findIdx (geK k)≤x.pn:=by rw [←hx.cw.sl.len];exact List.findIdx_le_length
 by_cases hh:Yn x.ps k=true
 ·have hlt:x.ps.findIdx (geK k)<x.pn:=by
   rcases Nat.lt_or_ge (x.ps.findIdx (geK k)) x.pn with h|h
   ·exact h
   ·have h2:x.ps[x.ps.findIdx (geK k)]? =none:=List.getElem?_eq_none (by rw [hx.cw.sl.len];exact h)
    rw [G6 h2] at hh;cases hh
  obtain ⟨b,o,p,hA,hb,hg,hcell⟩:=Sl.cell (f:=prC) (k:=2) (fun _=>rfl) hx.cw.sl hlt;have hv:Eb x.ps k=(p.rcd,0):=by unfold Eb;rw [if_pos hh,hg]
  have c1':=hcell 1 _ rfl;rw [hv];simp only [hh] at HF;obtain ⟨q,hq⟩:∃ q,x.ps.findIdx (geK k)=q:=⟨_,rfl⟩
  simp only [hq] at HF hlt c1';rw [hA] at HC HF;have HCE:=Hd c1';have HBL:=Hd hb;have hsz:x.pn≤1024:=hx.cw.le;generalize x.pn=pn at HC HF hlt hsz;generalize x.pc=pc at HC HF;clear hx hle hh hA hb hg hcell hv hq c1';go_enter Tryz.func340,Tryz.ntmps340;go_wp2_with (first|(go_at_call 342;refine HC.out.mono ?_;rintro e w2 ⟨rfl,hb⟩;have HB:=Hd hb;clear hb)|(go_at_call 158;refine (HF.out _ HB.out).mono ?_;rintro e w3 ⟨rfl,hb⟩;have HB3:=Hd (U0 HB.out hb HB.out.size);have c1:=(HB3.out.cell (p:=⟨b,o+q*2+1,none⟩) HBL.out).trans HCE.out;clear hb))
  go_ret2
  exact ⟨rfl,HB3.out⟩
 ·have hh':Yn x.ps k=false:=by simpa using hh
  have hv:Eb x.ps k=(⟨#[]⟩,6):=by unfold Eb;rw [if_neg hh]
  rw [hv];simp only [hh'] at HF;generalize x.ps.findIdx (geK k)=q at HF;clear hx hle hh hh' hv;go_enter Tryz.func340,Tryz.ntmps340;go_wp2_with (first|(go_at_call 342;refine HC.out.mono ?_;rintro e w2 ⟨rfl,hb⟩;have HB:=Hd hb;clear hb)|(go_at_call 158;refine (HF.out _ HB.out).mono ?_;rintro e w3 ⟨rfl,hb⟩;have HB3:=Hd (U0 HB.out hb HB.out.size);clear hb))
  go_ret2
  exact ⟨rfl,HB3.out⟩
theorem Next_g (A:Option Addr) (n c:Nat) (id:Int) (k:ByteArray) (x:Cnt) (w:World) (hx:RS w (.slice A n c) id x):
  Calls prog 341 #[.slice A n c,.int .i64 id,.string k] w (Fc (Yq x.ps k) w):=by
 have HC:=Hd (hx.pairs w (Bf _ _));have HF:=Hd fun W (hb:Below w.heap.size w W)=>K5 k x.pA x.pn x.pc x.ps W (hx.cw.below hb).sl (by have:=hx.cw.le;unfold maxLen;omega)
 have hle:x.ps.findIdx (geK k)≤x.pn:=by rw [←hx.cw.sl.len];exact List.findIdx_le_length
 have hsz:x.pn≤1024:=hx.cw.le;obtain ⟨t,ht⟩:∃ t,Yn x.ps k=t:=⟨_,rfl⟩
 obtain ⟨q,hq⟩:∃ q,x.ps.findIdx (geK k)=q:=⟨_,rfl⟩
 have hi:nxI x.ps k=if t=true then q+1 else q:=by unfold nxI;rw [ht,hq]
 simp only [ht,hq] at HF;rw [hq] at hle;unfold Yq;rw [hi];cases t with
 |true=>
  rw [if_pos rfl];by_cases hlt:q+1<x.pn
  ·obtain ⟨b,o,p,hA,hb,hg,hcell⟩:=Sl.cell (f:=prC) (k:=2) (fun _=>rfl) hx.cw.sl hlt
   have c0':=hcell 0 _ rfl;have c1':=hcell 1 _ rfl;simp only [Nat.add_zero] at c0';rw [hg];rw [hA] at HC HF;have HCE0:=Hd c0';have HCE:=Hd c1';have HBL:=Hd hb;generalize x.pn=pn at HC HF hlt hsz hle;generalize x.pc=pc at HC HF;clear hx hA hb hg hcell hi hq ht c0' c1';go_enter Tryz.func341,Tryz.ntmps341;go_wp2_with (first|(go_at_call 342;refine HC.out.mono ?_;rintro e w2 ⟨rfl,hb⟩;have HB:=Hd hb;clear hb)|(go_at_call 158;refine (HF.out _ HB.out).mono ?_;rintro e w3 ⟨rfl,hb⟩;have HB3:=Hd (U0 HB.out hb HB.out.size);have c0:=(HB3.out.cell (p:=⟨b,o+(q+1)*2,none⟩) HBL.out).trans HCE0.out;have c1:=(HB3.out.cell (p:=⟨b,o+(q+1)*2+1,none⟩) HBL.out).trans HCE.out;clear hb))
   go_quiet (fail)
   go_wp2
   go_ret3
   exact ⟨rfl,Ud HB3.out _⟩
  ·rw [List.getElem?_eq_none (by rw [hx.cw.sl.len];omega)]
   generalize x.pn=pn at HC HF hlt hsz hle;generalize x.pc=pc at HC HF;clear hx hi hq ht;go_enter Tryz.func341,Tryz.ntmps341;go_wp2_with (first|(go_at_call 342;refine HC.out.mono ?_;rintro e w2 ⟨rfl,hb⟩;have HB:=Hd hb;clear hb)|(go_at_call 158;refine (HF.out _ HB.out).mono ?_;rintro e w3 ⟨rfl,hb⟩;have HB3:=Hd (U0 HB.out hb HB.out.size);clear hb))
   go_ret3
   exact ⟨rfl,HB3.out⟩
 |false=>
  rw [if_neg (by decide)];by_cases hlt:q<x.pn
  ·obtain ⟨b,o,p,hA,hb,hg,hcell⟩:=Sl.cell (f:=prC) (k:=2) (fun _=>rfl) hx.cw.sl hlt
   have c0':=hcell 0 _ rfl;have c1':=hcell 1 _ rfl;simp only [Nat.add_zero] at c0';rw [hg];rw [hA] at HC HF;have HCE0:=Hd c0';have HCE:=Hd c1';have HBL:=Hd hb;generalize x.pn=pn at HC HF hlt hsz hle;generalize x.pc=pc at HC HF;clear hx hA hb hg hcell hi hq ht c0' c1';go_enter Tryz.func341,Tryz.ntmps341;go_wp2_with (first|(go_at_call 342;refine HC.out.mono ?_;rintro e w2 ⟨rfl,hb⟩;have HB:=Hd hb;clear hb)|(go_at_call 158;refine (HF.out _ HB.out).mono ?_;rintro e w3 ⟨rfl,hb⟩;have HB3:=Hd (U0 HB.out hb HB.out.size);have c0:=(HB3.out.cell (p:=⟨b,o+q*2,none⟩) HBL.out).trans HCE0.out;have c1:=(HB3.out.cell (p:=⟨b,o+q*2+1,none⟩) HBL.out).trans HCE.out;clear hb))
   go_quiet (fail)
   go_wp2
   go_ret3
   exact ⟨rfl,Ud HB3.out _⟩
  ·rw [List.getElem?_eq_none (by rw [hx.cw.sl.len];omega)]
   generalize x.pn=pn at HC HF hlt hsz hle;generalize x.pc=pc at HC HF;clear hx hi hq ht;go_enter Tryz.func341,Tryz.ntmps341;go_wp2_with (first|(go_at_call 342;refine HC.out.mono ?_;rintro e w2 ⟨rfl,hb⟩;have HB:=Hd hb;clear hb)|(go_at_call 158;refine (HF.out _ HB.out).mono ?_;rintro e w3 ⟨rfl,hb⟩;have HB3:=Hd (U0 HB.out hb HB.out.size);clear hb))
   go_ret3
   exact ⟨rfl,HB3.out⟩
end
section
open Go.RowKit
def Vp (id:Int) (x:Cnt):Bool:=decide (x.d.id=id)
def Y5 (st:List Cnt) (id:Int):Option Cnt:=st.find? (Vp id)
def Eo (st:List Cnt) (x:Cnt):List Cnt:=if st.findIdx (Vp x.d.id)<st.length then st.set (st.findIdx (Vp x.d.id)) x else st++[x]
def delS (st:List Cnt) (id:Int):List Cnt:=st.eraseIdx (st.findIdx (Vp id))
def kvE (e:MapEntry):Value×Value:=(e.key,e.val)
def kvX (x:Cnt):Value×Value:=(.int .i64 x.d.id,.agg (cnC x).toArray)
def Ent (es:List MapEntry) (st:List Cnt):Prop:=es.map kvE=st.map kvX
theorem Ent.nil_l {st:List Cnt} (h:Ent [] st):st = []:=by
 unfold Ent at h;simpa using h.symm
theorem Ent.cons_l {e:MapEntry} {es:List MapEntry} {st:List Cnt} (h:Ent (e::es) st):∃ x r,st=x::r∧e.key = .int .i64 x.d.id∧e.val = .agg (cnC x).toArray∧Ent es r:=by
 unfold Ent at h;cases st with
 |nil=>simp at h
 |cons x r=>
  simp only [List.map_cons,List.cons.injEq] at h;obtain ⟨h1,h2⟩:=h;unfold kvE kvX at h1;injection h1 with h3 h4
  exact ⟨x,r,rfl,h3,h4,h2⟩
theorem Ent.len {es:List MapEntry} {st:List Cnt} (h:Ent es st):es.length=st.length:=by
 have:=congrArg List.length h;simpa using this
theorem I5 (id:Int):∀ (es:List MapEntry) (st:List Cnt) (k:Nat),Ent es st →
  Instr.findNow (.int .i64) (.int .i64 id) es k=some ((Y5 st id).map fun x=>(k+st.findIdx (Vp id),.agg (cnC x).toArray))
 | [],st,k,h=>by
  obtain rfl:=h.nil_l;rfl
 |e::es,st,k,h=>by
  obtain ⟨x,r,rfl,hk,hv,ht⟩:=h.cons_l;by_cases he:x.d.id=id
  ·have hi:Vp id x=true:=by simp [Vp,he]
   simp [Instr.findNow,hk,Instr.sameNow,he,Y5,hi,List.findIdx_cons,hv]
  ·have hi:Vp id x=false:=by simp [Vp,he]
   have hb:(id == x.d.id)=false:=by simp;omega
   have ih:=I5 id es r (k+1) ht;have hg:Y5 (x::r) id=Y5 r id:=by simp [Y5,hi]
   have hx:(x::r).findIdx (Vp id)=r.findIdx (Vp id)+1:=by simp [List.findIdx_cons,hi]
   rw [hg,hx];simp only [Instr.findNow,hk,Instr.sameNow,if_true,hb];rw [ih];congr 2;funext y;rw [Nat.add_assoc,Nat.add_comm 1]
def SB (w:World) (b:Nat) (st:List Cnt):Prop:=∃ (es:Array MapEntry) (c:Nat),w.heap[b]? =some (.map es c)∧Ent es.toList st∧MapKept.Stamped es c
theorem SB.lt {w:World} {b:Nat} {st:List Cnt} (h:SB w b st):b<w.heap.size:=by
 obtain ⟨es,c,hb,_⟩:=h;rcases Nat.lt_or_ge b w.heap.size with hlt|hge
 ·exact hlt
 ·rw [Array.getElem?_eq_none hge] at hb;cases hb
theorem SB.below {w w':World} {b B:Nat} {st:List Cnt} (h:SB w b st) (hb:Below B w w') (hB:b<B):SB w' b st:=by
 obtain ⟨es,c,h1,h2⟩:=h;exact ⟨es,c,(hb.block b hB).trans h1,h2⟩
theorem SB.after {w w':World} {b:Nat} {st:List Cnt} (h:SB w b st) (hb:Below w.heap.size w w'):SB w' b st:=h.below hb h.lt
theorem SB.empty (w:World):SB (w.alloc (.map #[] 0)) w.heap.size []:=⟨#[],0,heap_alloc_new w _,rfl,MapKept.stamped_empty 0⟩
theorem Jx {st:List Cnt} {id:Int} {x:Cnt} (h:Y5 st id=some x):st.findIdx (Vp id)<st.length∧st[st.findIdx (Vp id)]? =some x∧x.d.id=id:=by
 have h1:Vp id x=true:=List.find?_some h;have hm:x∈st:=List.mem_of_find?_eq_some h;have hlt:st.findIdx (Vp id)<st.length:=List.findIdx_lt_length.2 ⟨x,hm,h1⟩;refine ⟨hlt,?_,by simpa [Vp] using h1⟩;have h2:=List.find?_eq_getElem?_findIdx (p:=Vp id) (xs:=st);rw [←h2];exact h
theorem getS_none {st:List Cnt} {id:Int} (h:Y5 st id=none):¬ st.findIdx (Vp id)<st.length:=by
 intro hlt;have:=List.find?_eq_none.1 h;obtain ⟨x,hx,hp⟩:=List.findIdx_lt_length.1 hlt;exact this x hx hp
theorem I1 (w:World) (b:Nat) (st:List Cnt) (id:Int) (h:SB w b st):
  (Instr.lookup 65 (.map (some b)) (.int .i64 id) true).run prog w = .ok (match Y5 st id with|some x=>.tuple #[.agg (cnC x).toArray,.bool true]|none=>.tuple #[.agg zV.toArray,.bool false]) w:=by
 obtain ⟨es,c,hb,he,_⟩:=h;have hf:=I5 id es.toList st 0 he;have hc:(Instr.checkKey es.isEmpty 10000 3 (.int .i64 id)).run prog w = .ok () w:=MapKept.run_checkKey (k:=.int .i64 id) Tryz.underlying3 (by simp [MapKept.IsKey]) _ 9999;cases hg:Y5 st id with
 |none=>
  rw [hg] at hf;unfold zV;simp [Instr.lookup,run_underlying Tryz.underlying65,MapKept.run_getObj_map hb,hc,MapKept.run_findKey Tryz.underlying3 hf]
 |some x=>
  rw [hg] at hf;simp [Instr.lookup,run_underlying Tryz.underlying65,MapKept.run_getObj_map hb,hc,MapKept.run_findKey Tryz.underlying3 hf]
theorem K7 {w:World} {b:Nat} {o:Obj}:Far [b] w { w with heap:=w.heap.setIfInBounds b o }:=
 ⟨rfl,rfl,rfl,by simp,fun k hk hn=>by
  show (w.heap.setIfInBounds b o)[k]? =_;rw [Array.getElem?_setIfInBounds_ne (by intro e;subst e;simp at hn)]⟩
theorem Ent.modify {es:List MapEntry} {st:List Cnt} (h:Ent es st) (i:Nat) (x:Cnt):Ent (es.modify i fun e=>{ e with key:=.int .i64 x.d.id,val:=.agg (cnC x).toArray }) (st.set i x):=by
 unfold Ent at h ⊢;apply List.ext_getElem?;intro j;have hj:=congrArg (fun l=>l[j]?) h;simp only [List.getElem?_map] at hj ⊢;rw [List.getElem?_modify,List.getElem?_set];by_cases e:i=j
 ·subst e
  have hl:=h▸(congrArg List.length h);rcases Nat.lt_or_ge i es.length with hlt|hge
  ·have hlt2:i<st.length:=by have:=congrArg List.length h;simp at this;omega
   rw [List.getElem?_eq_getElem hlt];simp [hlt2,kvE,kvX]
  ·have hge2:st.length≤i:=by have:=congrArg List.length h;simp at this;omega
   rw [List.getElem?_eq_none hge];simp [Nat.not_lt.2 hge2]
 ·rw [if_neg e]
  simp [e];simpa using hj
theorem Ent.keys {es:List MapEntry} {st:List Cnt} (h:Ent es st) {e:MapEntry} (he:e∈es):∃ x∈st,e.key = .int .i64 x.d.id:=by
 unfold Ent at h;have:kvE e∈st.map kvX:=h▸List.mem_map_of_mem he;obtain ⟨x,hx,hxe⟩:=List.mem_map.1 this;refine ⟨x,hx,?_⟩;unfold kvE kvX at hxe;injection hxe with h1 _
 exact h1.symm
theorem Fz (w:World) (b:Nat) (st:List Cnt) (x:Cnt) (h:SB w b st):
  ∃ w',(Instr.mapUpdate 65 (.map (some b)) (.int .i64 x.d.id) (.agg (cnC x).toArray)).run prog w = .ok () w'∧SB w' b (Eo st x)∧Far [b] w w':=by
 obtain ⟨es,c,hb,he,hs⟩:=h;have hf:=I5 x.d.id es.toList st 0 he;have hc:(Instr.checkKey false 10000 3 (.int .i64 x.d.id)).run prog w = .ok () w:=MapKept.run_checkKey (k:=.int .i64 x.d.id) Tryz.underlying3 (by simp [MapKept.IsKey]) false 9999;cases hg:Y5 st x.d.id with
 |none=>
  rw [hg] at hf;have hn:=getS_none hg;refine ⟨{ w with heap:=w.heap.setIfInBounds b (.map (es.push ⟨.int .i64 x.d.id,.agg (cnC x).toArray,c⟩) (c+1)) },?_,⟨_,_,(MapKept.heap_set hb).1,?_,?_⟩,K7⟩
  ·simp [Instr.mapUpdate,run_underlying Tryz.underlying65,MapKept.run_getObj_map hb,hc,MapKept.run_findKey Tryz.underlying3 hf,MapKept.run_setObj_map _ hb,Result.andThen]
  ·unfold Eo
   rw [if_neg hn];unfold Ent at he ⊢;rw [Array.toList_push,List.map_append,he,List.map_append];rfl
  ·refine MapKept.stamped_push hs fun e hm hk=>?_
   obtain ⟨y,hy,hyk⟩:=Ent.keys he hm;rw [hyk] at hk;injection hk with _ hk
   have:=List.find?_eq_none.1 hg y hy;exact this (by simp [Vp,hk])
 |some y=>
  rw [hg] at hf;obtain ⟨hlt,hget,hid⟩:=Jx hg
  have hlt2:st.findIdx (Vp x.d.id)<es.size:=by
   have:=he.len;rw [Array.length_toList] at this;omega
  obtain ⟨i,hi⟩:∃ i,st.findIdx (Vp x.d.id)=i:=⟨_,rfl⟩
  have hke:(es[i]?.map fun e=>e.key)=some (.int .i64 x.d.id):=by
   have h0:=congrArg (fun l=>l[i]?) he;simp only [List.getElem?_map,Array.getElem?_toList] at h0;rw [hi] at hget;rw [hget] at h0;cases h3:es[i]? with
   |none=>rw [h3] at h0;simp at h0
   |some e=>
    rw [h3] at h0;simp [kvE,kvX] at h0;simp [h0.1,hid]
  have hk:(Instr.keyThatStays ((Option.map (fun x=>x.key) es[i]?).getD (.int .i64 x.d.id)) (.int .i64 x.d.id)).run prog w = .ok (.int .i64 x.d.id) w:=by
   rw [hke];exact MapKept.run_keyThatStays (d:=.int .i64) (by simp [MapKept.IsKey])
  refine ⟨{ w with heap:=w.heap.setIfInBounds b (.map (es.modify i fun e=>{ e with key:=.int .i64 x.d.id,val:=.agg (cnC x).toArray }) c) },?_,⟨_,_,(MapKept.heap_set hb).1,?_,?_⟩,K7⟩
  ·rw [hi] at hf
   simp only [Option.map_some,Nat.zero_add] at hf;simp [Instr.mapUpdate,run_underlying Tryz.underlying65,MapKept.run_getObj_map hb,hc,MapKept.run_findKey Tryz.underlying3 hf,MapKept.run_setObj_map _ hb,hk,Result.andThen]
  ·unfold Eo
   rw [if_pos hlt,hi,Array.toList_modify];exact he.modify i x
  ·refine MapKept.stamped_modify hs _ _ (fun _ _=>rfl) fun e _ hee=>?_
   rw [hee] at hke;simp at hke;exact hke.symm
theorem Ent.erase {es:List MapEntry} {st:List Cnt} (h:Ent es st) (i:Nat):Ent (es.eraseIdx i) (st.eraseIdx i):=by
 unfold Ent at h ⊢;rw [List.eraseIdx_eq_take_drop_succ,List.eraseIdx_eq_take_drop_succ,List.map_append,List.map_append,List.map_take,List.map_drop,List.map_take,List.map_drop,h]
theorem del_run (ty:TypeId) (w:World) (b:Nat) (st:List Cnt) (id:Int) (h:SB w b st):
  ∃ w',(Builtin.delete_ #[65,3] ty #[.map (some b),.int .i64 id]).run prog w = .ok (.tuple #[]) w'∧SB w' b (delS st id)∧Far [b] w w':=by
 obtain ⟨es,c,hb,he,hs⟩:=h;have hf:=I5 id es.toList st 0 he;have hc:(Instr.checkKey es.isEmpty 10000 3 (.int .i64 id)).run prog w = .ok () w:=MapKept.run_checkKey (k:=.int .i64 id) Tryz.underlying3 (by simp [MapKept.IsKey]) _ 9999;cases hg:Y5 st id with
 |none=>
  rw [hg] at hf;have hn:=getS_none hg;refine ⟨{ w with heap:=w.heap.setIfInBounds b (.map es c) },?_,⟨es,c,(MapKept.heap_set hb).1,?_,hs⟩,K7⟩
  ·simp [Builtin.delete_,run_underlying Tryz.underlying65,MapKept.run_getObj_map hb,hc,MapKept.run_findKey Tryz.underlying3 hf,MapKept.run_setObj_map _ hb,Result.andThen]
  ·unfold delS
   rw [List.eraseIdx_of_length_le (by omega)];exact he
 |some y=>
  rw [hg] at hf;obtain ⟨hlt,hget,hid⟩:=Jx hg;obtain ⟨i,hi⟩:∃ i,st.findIdx (Vp id)=i:=⟨_,rfl⟩
  have hlt2:i<es.size:=by
   have:=he.len;rw [Array.length_toList] at this;omega
  refine ⟨{ w with heap:=w.heap.setIfInBounds b (.map (es.eraseIdxIfInBounds i) c) },?_,⟨_,_,(MapKept.heap_set hb).1,?_,MapKept.stamped_erase hs i⟩,K7⟩
  ·rw [hi] at hf
   simp only [Option.map_some,Nat.zero_add] at hf;simp [Builtin.delete_,run_underlying Tryz.underlying65,MapKept.run_getObj_map hb,hc,MapKept.run_findKey Tryz.underlying3 hf,MapKept.run_setObj_map _ hb,Result.andThen]
  ·unfold delS
   rw [hi]
   have e:(es.eraseIdxIfInBounds i).toList=es.toList.eraseIdx i:=by
    unfold Array.eraseIdxIfInBounds;rw [dif_pos hlt2,Array.toList_eraseIdx]
   rw [e];exact he.erase i
theorem Kf {w:World} {b:Nat} {es:Array MapEntry} {c:Nat} (h:w.heap[b]? =some (.map es c)) (p:Addr) (hp:p.block=b):w.cell? p=none:=by
 subst hp;simp [World.cell?,h]
structure SW (w:World) (b:Nat) (st:List Cnt):Prop where
 sb:SB w b st
 cw:∀ x∈st,CW w x
theorem SW.below {w w':World} {b:Nat} {st:List Cnt} (h:SW w b st) (hb:Below w.heap.size w w'):SW w' b st:=⟨h.sb.after hb,fun x hx=>(h.cw x hx).below hb⟩
theorem CW.far {w w':World} {b:Nat} {st st':List Cnt} {x:Cnt} (h:CW w x) (h1:SB w b st) (h2:SB w' b st') (hf:Far [b] w w'):CW w' x:=by
 refine ⟨(h.sl.keep fun p hp=>?_).more hf.size,h.le,h.nil,h.rz⟩;by_cases e:p.block=b
 ·obtain ⟨es,c,hb,_⟩:=h1
  obtain ⟨es',c',hb',_⟩:=h2;rw [Kf hb p e,Kf hb' p e]
 ·exact World.cell?_of_block (hf.block p.block hp (by simpa using e))
theorem mem_putS {st:List Cnt} {x y:Cnt} (h:y∈Eo st x):y=x∨y∈st:=by
 unfold Eo at h;split at h
 ·rcases List.mem_or_eq_of_mem_set h with h|h
  ·exact .inr h
  ·exact .inl h
 ·rcases List.mem_append.1 h with h|h
  ·exact .inr h
  ·exact .inl (by simpa using h)
theorem mem_delS {st:List Cnt} {id:Int} {y:Cnt} (h:y∈delS st id):y∈st:=List.mem_of_mem_eraseIdx h
theorem mem_getS {st:List Cnt} {id:Int} {x:Cnt} (h:Y5 st id=some x):x∈st:=List.mem_of_find?_eq_some h
theorem SW.get {w:World} {b:Nat} {st:List Cnt} {id:Int} {x:Cnt} (h:SW w b st) (hg:Y5 st id=some x):CW w x:=h.cw x (mem_getS hg)
theorem SW.put {w w':World} {b:Nat} {st:List Cnt} {x:Cnt} (h:SW w b st) (hx:CW w x) (h2:SB w' b (Eo st x)) (hf:Far [b] w w'):SW w' b (Eo st x):=
 ⟨h2,fun y hy=>by
  rcases mem_putS hy with rfl|hy
  ·exact hx.far h.sb h2 hf
  ·exact (h.cw y hy).far h.sb h2 hf⟩
theorem SW.del {w w':World} {b:Nat} {st:List Cnt} {id:Int} (h:SW w b st) (h2:SB w' b (delS st id)) (hf:Far [b] w w'):SW w' b (delS st id):=
 ⟨h2,fun y hy=>(h.cw y (mem_delS hy)).far h.sb h2 hf⟩
end
section
set_option maxRecDepth 100000
set_option maxHeartbeats 4000000
open Go.RowKit
def Fa (v:Cnt→Bool):List Cnt→List Cnt→Option (List Cnt)
 |st,[]=>some st
 |st,x::r=>if (Y5 st x.d.id).isSome=true∨v x=false then none else Fa v (Eo st x) r
def BegG (R:Option (List Cnt)) (w:World) (e:Ending) (w':World):Prop:=match R with
 |none=>e = .returned (.tuple #[.map none,.bool false])∧Below w.heap.size w w'
 |some st=>e = .returned (.tuple #[.map (some w.heap.size),.bool true])∧SW w' w.heap.size st∧Below w.heap.size w w'
theorem Yz {w0 w w':World} {B b:Nat} (h:Below B w0 w) (hf:Far [b] w w') (hb:B≤b) (hB:B≤w.heap.size):Below B w0 w':=
 h.trans (hf.below (by simpa using hb) hB)
theorem begin_g (v:Cnt→Bool) (A:Option Addr) (n c:Nat) (l:List Cnt) (w:World) (hs:Sl cnC 23 w w.heap.size A n c l) (hp:∀ x∈l,CW w x) (hn:n≤1024)
  (HV:∀ x∈l,∀ W,Below w.heap.size w W→Calls prog 68 #[.agg (cnC x).toArray] W fun e w'=>e = .returned (.bool (v x))∧Below W.heap.size W w'):
  Calls prog 47 #[.slice A n c] w (BegG (Fa v [] l) w):=by
 have HS:=Hd hs;have HL:=Hd hs.len;have HP:=Hd hp;have HVV:=Hd HV;clear hs hp HV;obtain ⟨R,hR⟩:∃ R,Fa v [] l=R:=⟨_,rfl⟩
 rw [hR];have HR:=Hd hR;clear hR;have HZ:=Hd zV_one;have hmm:=@run_makeMap prog;have H0:Hid (SW (w.alloc (.map #[] 0)) w.heap.size []):=Hd ⟨SB.empty w,fun x hx=>by simp at hx⟩;go_enter Tryz.func47,Tryz.ntmps47;go_wp2;go_loopw [12] (fun i wr => ∃ (j:Nat) (st:List Cnt),j≤n∧i = .int .i64 j∧Fa v st (l.drop j)=R∧SW wr w.heap.size st∧Below w.heap.size w wr∧w.heap.size+1≤wr.heap.size) (fun i _=>n-(intOf i).toNat)
 case atStart=>exact ⟨0,[],Z0 _,rfl,HR.out,H0.out,(Bf _ _).alloc (Le _) _,by simp⟩
 case round=>
  obtain ⟨j,st,hj,rfl,hrec,hst,hbel,hsz⟩:=hrel;obtain ⟨wx,rfl⟩:∃ x:World,x=wr:=⟨_,rfl⟩
  have HBE:=Hd hbel;have HST:=Hd hst;have HSZ:=Hd hsz;by_cases hlt:j<n
  ·obtain ⟨b,o,x,rfl,hb,hg,hcell⟩:=Sl.cell (f:=cnC) (k:=23) (fun _=>rfl) (HS.out.below hbel) hlt
   have hx:x∈l:=List.mem_of_getElem? hg
   have hd:l.drop j=x::l.drop (j+1):=by
    have hjl:j<l.length:=by rw [HL.out];exact hlt
    rw [List.drop_eq_getElem_cons hjl];congr 1;exact (List.getElem?_eq_some_iff.1 hg).2
   rw [hd] at hrec;unfold Fa at hrec;have HM:Hid (wx.rangeAt b (o+j*23) (cnC x)):=Hd fun t u hu=>hcell t u hu
   have HA1:=Hd (Vx x);have HB1:=Hd fun old=>Blk.new wx 30 old
   have HS1:=Hd fun old=>U1 wx old (cnC x).toArray 30
   obtain ⟨X,hX⟩:∃ X,wx.alloc (.cells (cnC x).toArray 30)=X:=⟨_,rfl⟩
   have hXb:Below wx.heap.size wx X:=by rw [←hX];exact (Bf _ _).alloc (Le _) _
   have hXk:Blk X wx.heap.size 30 (cnC x).toArray:=by rw [←hX];exact Blk.new wx _ _
   have hXz:X.heap.size=wx.heap.size+1:=by rw [←hX];simp
   simp only [hX] at HS1;have hl:=I1 X w.heap.size st x.d.id (hst.below hXb).sb;have c0:X.cell? ⟨wx.heap.size,0,none⟩=some (.int .i64 x.d.id):=(hXk.cell 0).trans rfl;have HB2:=Hd fun old=>U3 X 30 old (wx.heap.size+1) hXz.symm
   have HX:=Hd hX;have HXB:=Hd hXb;have HXK:=Hd hXk;have HXZ:=Hd hXz;have HREC:=Hd hrec;have HXL:=Hd hx;have HLT:=Hd hlt;clear hb hg hcell hd hrec hst hbel hsz hX hXb hXk hx;cases hgs:Y5 st x.d.id with
   |some y=>
    rw [hgs] at hl;simp only at hl;have hr:=HREC.out;rw [hgs,if_pos (.inl rfl)] at hr;have HRN:=Hd hr;have HY:=Hd (Vx y);have HS2:Hid (∀ old,(X.alloc (.cells old 30)).setRow (wx.heap.size+1) (cnC y).toArray=X.alloc (.cells (cnC y).toArray 30)):=Hd fun old=>Ue X (wx.heap.size+1) HXZ.out.symm old (cnC y).toArray 30
    clear hr hgs;go_wp2_with (first|(refine Lm rfl 30 _ rfl b (o+j*23) rfl (cnC x) _ HM.out Tryz.underlying30 rfl (by kernel_rfl) ?_)|(refine Lt rfl 30 _ _ rfl wx.heap.size (cnC x).toArray rfl rfl 30 _ (HB1.out _) (by kernel_rfl) rfl HA1.out ?_;rw [HS1.out])|(refine Lt rfl 30 _ _ rfl (wx.heap.size+1) (cnC y).toArray rfl rfl 30 _ (HB2.out _) (by kernel_rfl) rfl HY.out ?_;rw [HS2.out]))
    go_ret2
    rw [←HRN.out];exact ⟨rfl,(U0 HBE.out HXB.out HBE.out.size).alloc (by have:=HSZ.out;have:=HXZ.out;omega) _⟩
   |none=>
    rw [hgs] at hl;simp only at hl;have HS2:Hid (∀ old,(X.alloc (.cells old 30)).setRow (wx.heap.size+1) zV.toArray=X.alloc (.cells zV.toArray 30)):=Hd fun old=>Ue X (wx.heap.size+1) HXZ.out.symm old zV.toArray 30
    obtain ⟨Y,hY⟩:∃ Y,X.alloc (.cells zV.toArray 30)=Y:=⟨_,rfl⟩
    have hYb:Below wx.heap.size wx Y:=by rw [←hY];exact HXB.out.alloc (by have:=HXZ.out;omega) _
    have hYk:Blk Y wx.heap.size 30 (cnC x).toArray:=by rw [←hY];exact HXK.out.alloc _
    simp only [hY] at HS2;have HYB:=Hd hYb;have HYK:=Hd hYk;have HCV:=Hd (HVV.out x HXL.out Y (U0 HBE.out hYb HBE.out.size));obtain ⟨q,hq⟩:∃ q,v x=q:=⟨_,rfl⟩
    have hr:=HREC.out;rw [hq] at HCV;rw [hgs,hq] at hr;clear hY hYb hYk hq;cases q with
    |false=>
     rw [if_pos (.inr rfl)] at hr;have HRN:=Hd hr;clear hr hgs;go_wp2_with (first|(refine Lm rfl 30 _ rfl b (o+j*23) rfl (cnC x) _ HM.out Tryz.underlying30 rfl (by kernel_rfl) ?_)|(refine Lt rfl 30 _ _ rfl wx.heap.size (cnC x).toArray rfl rfl 30 _ (HB1.out _) (by kernel_rfl) rfl HA1.out ?_;rw [HS1.out])|(refine Lt rfl 30 _ _ rfl (wx.heap.size+1) zV.toArray rfl rfl 30 _ (HB2.out _) (by kernel_rfl) rfl HZ.out ?_;rw [HS2.out])|(refine U7 (by kernel_rfl) 30 _ rfl wx.heap.size rfl 30 _ (0,0) _ HYK.out Tryz.underlying30 rfl (by kernel_rfl) ?_)|(go_at_call 68;refine HCV.out.mono ?_;rintro e w2 ⟨rfl,hb2⟩;have HB3:=Hd hb2;clear hb2 c0 hl))
     go_ret2
     rw [←HRN.out];exact ⟨rfl,U0 (U0 HBE.out HYB.out HBE.out.size) HB3.out (Lx HBE.out.size HYB.out.size)⟩
    |true=>
     rw [if_neg (by simp)] at hr;have HRN:=Hd hr;clear hr hgs
     go_wp2_with (first|(refine Lm rfl 30 _ rfl b (o+j*23) rfl (cnC x) _ HM.out Tryz.underlying30 rfl (by kernel_rfl) ?_)|(refine Lt rfl 30 _ _ rfl wx.heap.size (cnC x).toArray rfl rfl 30 _ (HB1.out _) (by kernel_rfl) rfl HA1.out ?_;rw [HS1.out])|(refine Lt rfl 30 _ _ rfl (wx.heap.size+1) zV.toArray rfl rfl 30 _ (HB2.out _) (by kernel_rfl) rfl HZ.out ?_;rw [HS2.out])|(refine U7 (by kernel_rfl) 30 _ rfl wx.heap.size rfl 30 _ (0,0) _ HYK.out Tryz.underlying30 rfl (by kernel_rfl) ?_)|(go_at_call 68;refine HCV.out.mono ?_;rintro e w2 ⟨rfl,hb2⟩;have HB3:=Hd (HYB.out.trans (hb2.mono HYB.out.size));have hk2:=HYK.out.below hb2 (by have:=HYK.out.lt;exact this);have HK2:=Hd hk2;clear c0 hl;have c0:w2.cell? ⟨wx.heap.size,0,none⟩=some (.int .i64 x.d.id):=(hk2.cell 0).trans rfl;obtain ⟨w3,hput,hsb,hfar⟩:=Fz w2 w.heap.size st x (HST.out.below HB3.out).sb;have HSB:=Hd hsb;have HFAR:=Hd hfar;clear hb2 hk2 hsb hfar)|(refine Lr rfl 30 _ rfl wx.heap.size rfl 30 _ (0,0) _ HK2.out Tryz.underlying30 rfl (by kernel_rfl) ?_))
     go_roundw
     case rel=>
      have hs2:=HST.out.below HB3.out;have hcw:=((HP.out x HXL.out).below HBE.out).below HB3.out;refine ⟨j+1,Eo st x,by have:=HLT.out;omega,by go_num,HRN.out,hs2.put hcw HSB.out HFAR.out,Yz (U0 HBE.out HB3.out HBE.out.size) HFAR.out (Le _) (Lx HBE.out.size HB3.out.size),?_⟩;have:=HSZ.out;have:=HB3.out.size;have:=HFAR.out.size;omega
     case measure=>simp [intOf];have:=HLT.out;omega
  ·obtain rfl:j=n:=by omega
   rw [List.drop_of_length_le (by rw [HL.out];exact Le _)] at hrec;have HREC:=Hd hrec;clear hrec hst hbel hsz;go_wp2
   go_ret2
   rw [←HREC.out];exact ⟨rfl,HST.out,HBE.out⟩
end
end Go.Proofs.YtapanepkfbamhaaGreatDoor
