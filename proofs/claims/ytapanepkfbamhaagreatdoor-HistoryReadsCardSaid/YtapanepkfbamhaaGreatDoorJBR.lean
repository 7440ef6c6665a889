/- Part of the proof of HistoryReads. -/
import Derived.Test.YtapanepkfbamhaaGreatDoorJBQ
namespace Go.Proofs.YtapanepkfbamhaaGreatDoor
open Tryz (prog)
section
set_option maxRecDepth 100000
set_option maxHeartbeats 2000000
open Go.RowKit
theorem c11_any (b:Bool) (ap:Int) (A:Option Addr) (n c bs g:Nat) (w:World) (hg:w.cell? ⟨g,0,none⟩=some (.map (some bs))) (hs:St w bs (kV ap A n c)) (hp:PR b w A n c):
  Calls prog 27 #[.agg #[.int .i64 0,.int .i64 200,.string ⟨#[107]⟩,.string ⟨#[]⟩,.string ⟨#[]⟩,.int .i64 6],.pointer (some ⟨g,0,none⟩)] w fun e w'=>e = .returned (.bool b)∧Below w.heap.size w w':=by
 have lt:=block_lt_of_cell hg;simp only at lt;have B0:=Hd (Vq w rV.toArray 49);have HX:=Hd (explained_any b ap A n c bs (w.alloc (.cells rV.toArray 49)) (hs.alloc _) (hp.below ((Bf _ _).alloc (Le _) _)));have k0:(w.alloc (.cells rV.toArray 49)).cell? ⟨g,0,none⟩=some (.map (some bs)):=(World.cell?_alloc_lt w _ _ lt).trans hg;clear hg hs hp;unfold rV at HX k0 B0;cases b
 all_goals
  go_enter Tryz.func27,Tryz.ntmps27;go_wp2_with (go_at_call 28;refine HX.out.mono ?_;rintro e w2 ⟨rfl,hb2⟩;have X2:=Hd (U0 (Uc B0.out) hb2 (Nat.le_of_succ_le (Vf B0.out)));clear hb2);go_ret;exact ⟨rfl,X2.out⟩
theorem ridx_none (A:Option Addr) (c:Nat) (f:Value) (w:World):Calls prog 26 #[.slice A 0 c,f] w fun e w'=>e = .returned (.int .i64 (-1))∧w=w':=by
 go_enter Tryz.func26,Tryz.ntmps26;go_wp2;refine Lu 1 ?_;rw [Rs];go_wp2;go_ret;exact ⟨rfl,rfl⟩
theorem ridx_one (b:Bool) (ap:Int) (A:Option Addr) (n c bs g gr cc:Nat) (w:World) (hg:w.cell? ⟨g,0,none⟩=some (.map (some bs))) (hs:St w bs (kV ap A n c)) (hp:PR b w A n c) (hr:w.rangeAt gr 0 rV):
  Calls prog 26 #[.slice (some ⟨gr,0,none⟩) 1 cc,.func (.func 27) #[] #[.pointer (some ⟨g,0,none⟩)]] w fun e w'=>e = .returned (.int .i64 (if b then 0 else -1))∧Below w.heap.size w w':=by
 have HR:=Hd hr;have HC:=Hd (c11_any b ap A n c bs g w hg hs hp);clear hr hg hs hp;cases b with
 |true=>
  go_enter Tryz.func26,Tryz.ntmps26;go_wp2;refine Lu 1 ?_;rw [Rs];go_wp2_with (first|((with_reducible refine Gl 49 14 ?_);refine Lm rfl 49 _ rfl gr 0 rfl rV _ HR.out Tryz.underlying49 rfl (by kernel_rfl) ?_)|(go_at_call 27;refine HC.out.mono ?_;rintro e w2 ⟨rfl,hb⟩;have HB:=Hd hb;clear hb));go_ret;exact ⟨rfl,HB.out⟩
 |false=>
  go_enter Tryz.func26,Tryz.ntmps26;go_wp2;refine Lu 2 ?_;rw [Rs];go_wp2_with (first|((with_reducible refine Gl 49 14 ?_);refine Lm rfl 49 _ rfl gr 0 rfl rV _ HR.out Tryz.underlying49 rfl (by kernel_rfl) ?_)|(go_at_call 27;refine HC.out.mono ?_;rintro e w2 ⟨rfl,hb⟩;have HB:=Hd hb;clear hb));rw [Rs];go_wp2;go_ret;exact ⟨rfl,HB.out⟩
theorem chk_none (bs:Nat) (i x y:Int) (cA:Option Addr) (cn cc:Nat) (f1 f2:Value) (w:World):
  Calls prog 25 #[.map (some bs),.int .i64 i,.agg #[.int .i64 x,.int .i64 y,.slice none 0 0,.slice cA cn cc],f1,f2] w fun e w'=>e = .returned (.bool true)∧Below w.heap.size w w':=by
 have k1:((w.alloc (.cells #[.map (some bs)] 65)).alloc (.cells #[.int .i64 x,.int .i64 y,.slice none 0 0,.slice cA cn cc] 34)).cell? ⟨w.heap.size+1,2,none⟩=some (.slice none 0 0):=(U3 (w.alloc (.cells #[.map (some bs)] 65)) 34 #[.int .i64 x,.int .i64 y,.slice none 0 0,.slice cA cn cc] (w.heap.size+1) (by simp)).cell 2;go_enter Tryz.func25,Tryz.ntmps25;go_wp2_with (go_at_call 26;refine (ridx_none _ _ _ _).mono ?_;rintro e w2 ⟨rfl,rfl⟩);go_ret;exact ⟨rfl,((Bf _ _).alloc (Le _) _).alloc (by simp) _⟩
def chkW (b:Bool) (u r:Nat) (i:Int) (W:World):World:=if b then (W.setCell ⟨u,0,none⟩ (.int .i64 i)).setCell ⟨r,0,none⟩ (.int .i64 0) else W
theorem chk_read (b:Bool) (ap:Int) (A:Option Addr) (n c bs gr u r:Nat) (i x y u0 r0:Int) (w:World) (hu:Blk w u 3 #[.int .i64 u0]) (hr0:Blk w r 3 #[.int .i64 r0]) (hne:u≠r) (hs:St w bs (kV ap A n c)) (hp:PR b w A n c) (hg:gr<w.heap.size) (hr:w.rangeAt gr 0 rV):
  Calls prog 25 #[.map (some bs),.int .i64 i,.agg #[.int .i64 x,.int .i64 y,.slice (some ⟨gr,0,none⟩) 1 1,.slice none 0 0],.pointer (some ⟨u,0,none⟩),.pointer (some ⟨r,0,none⟩)] w fun e w'=>e = .returned (.bool (!b))∧∃ W,Below w.heap.size w W∧w'=chkW b u r i W:=by
 have k1:((w.alloc (.cells #[.map (some bs)] 65)).alloc (.cells #[.int .i64 x,.int .i64 y,.slice (some ⟨gr,0,none⟩) 1 1,.slice none 0 0] 34)).cell? ⟨w.heap.size+1,2,none⟩=some (.slice (some ⟨gr,0,none⟩) 1 1):=(U3 (w.alloc (.cells #[.map (some bs)] 65)) 34 #[.int .i64 x,.int .i64 y,.slice (some ⟨gr,0,none⟩) 1 1,.slice none 0 0] (w.heap.size+1) (by simp)).cell 2;have hb0:Below w.heap.size w ((w.alloc (.cells #[.map (some bs)] 65)).alloc (.cells #[.int .i64 x,.int .i64 y,.slice (some ⟨gr,0,none⟩) 1 1,.slice none 0 0] 34)):=((Bf _ _).alloc (Le _) _).alloc (by simp) _;have HB0:=Hd hb0
 have HI:=Hd (ridx_one b ap A n c bs w.heap.size gr 1 ((w.alloc (.cells #[.map (some bs)] 65)).alloc (.cells #[.int .i64 x,.int .i64 y,.slice (some ⟨gr,0,none⟩) 1 1,.slice none 0 0] 34)) (((Blk.new w 65 #[.map (some bs)]).alloc _).cell 0) ((hs.alloc _).alloc _) (hp.below hb0) (U9 hr hb0 hg));have HU:=Hd hu;have HR0:=Hd hr0;have HNE:=Hd hne;clear hs hp hr hg hb0 hu hr0 hne;cases b with
 |false=>
  go_enter Tryz.func25,Tryz.ntmps25;go_wp2_with (go_at_call 26;refine HI.out.mono ?_;rintro e w2 ⟨rfl,hb⟩;have HB:=Hd (U0 HB0.out hb HB0.out.size);clear hb);go_ret;exact ⟨rfl,_,HB.out,rfl⟩
 |true=>
  go_enter Tryz.func25,Tryz.ntmps25;go_wp2_with (go_at_call 26;refine HI.out.mono ?_;rintro e w2 ⟨rfl,hb⟩;have HB:=Hd (U0 HB0.out hb HB0.out.size);clear hb;have c1:=(HU.out.below HB.out HU.out.lt).cell 0;have f1:=(HU.out.below HB.out HU.out.lt).free 0;have c2:=((HR0.out.below HB.out HR0.out.lt).far (p:=⟨u,0,none⟩) HNE.out.symm (.int .i64 i)).cell 0;have f2:=((HR0.out.below HB.out HR0.out.lt).far (p:=⟨u,0,none⟩) HNE.out.symm (.int .i64 i)).free 0;simp at c1 c2);go_ret;exact ⟨rfl,_,HB.out,rfl⟩
open Go.RowKit
def Z8 (gc:Nat):Com:=⟨9,5,none,0,0,some ⟨gc,0,none⟩,1,1,[],[⟨0,200,⟨#[107]⟩,⟨#[107,49]⟩,⟨#[]⟩⟩]⟩
def Xk (gr:Nat) (k:Int):Com:=⟨8,k,some ⟨gr,0,none⟩,1,1,none,0,0,[⟨0,200,⟨#[107]⟩,⟨#[]⟩,⟨#[]⟩,6⟩],[]⟩
theorem ord5 (gc gr:Nat):Yh [Z8 gc,Xk gr 5]=some [Xk gr 5,Z8 gc]:=by kernel_rfl
theorem ord6 (gc gr:Nat):Yh [Z8 gc,Xk gr 6]=some [Z8 gc,Xk gr 6]:=by kernel_rfl
theorem Fx (gc gr:Nat) (k:Int):∀ x∈[Z8 gc,Xk gr k],VolsOk x:=by
 intro x hx;simp at hx;rcases hx with rfl|rfl
 ·intro c hc
  simp [Z8] at hc;subst hc;exact Z0 _
 ·intro c hc
  simp [Xk] at hc
theorem sl_one {α:Type} {f:α→List Value} {k:Nat} {w:World} {B g c:Nat} {x:α} (h:Sl f k w B (some ⟨g,0,none⟩) 1 c [x]):g<B∧w.rangeAt g 0 (f x):=by
 obtain ⟨b,o,e,hb,hc⟩:=h.2.2.2 (by decide);injection e with e
 injection e with e1 e2 _
 subst e1 e2;refine ⟨hb,fun j v hv=>hc j v (by rw [Uv];exact hv)⟩
theorem sl_two {α:Type} {f:α→List Value} {k:Nat} (hk:∀ x,(f x).length=k) {w:World} {B n c:Nat} {A:Option Addr} {x y:α} (h:Sl f k w B A n c [x,y]):n=2∧∃ b o,A=some ⟨b,o,none⟩∧b<B∧w.rangeAt b o (f x)∧w.rangeAt b (o+k) (f y):=by
 have hn:n=2:=h.len.symm;subst hn;obtain ⟨b,o,e,hb,hc⟩:=h.2.2.2 (by decide);refine ⟨rfl,b,o,e,hb,fun j v hv=>hc j v ?_,fun j v hv=>?_⟩
 ·have hj:j<k:=by have:=(List.getElem?_eq_some_iff.1 hv).1;rwa [hk] at this
  have:=Xx hk [x,y] 0 x rfl j hj;rw [Nat.zero_mul,Nat.zero_add] at this;rw [this];exact hv
 ·have hj:j<k:=by have:=(List.getElem?_eq_some_iff.1 hv).1;rwa [hk] at this
  have:=Xx hk [x,y] 1 y rfl j hj;rw [Nat.one_mul] at this;rw [Nat.add_assoc];exact hc _ v (by rw [this];exact hv)
structure PI (w:World) (bs b o gc gr u r:Nat) (x y:Com) (v:List Value) (W:World):Prop where
 st:St W bs v
 r0:W.rangeAt b o (U8 x)
 r1:W.rangeAt b (o+4) (U8 y)
 rc:W.rangeAt gc 0 cV
 rr:W.rangeAt gr 0 rV
 bu:Blk W u 3 #[.int .i64 (-1)]
 br:Blk W r 3 #[.int .i64 (-1)]
 l1:b<bs
 lc:gc<bs
 lr:gr<bs
 lu:u<bs
 lr':r<bs
 lw:w.heap.size≤bs
 be:Below w.heap.size w W
section
variable {w W W':World} {bs b o gc gr u r:Nat} {x y:Com} {v:List Value}
theorem PI.next (h:PI w bs b o gc gr u r x y v W) (hb:Below W.heap.size W W'):PI w bs b o gc gr u r x y v W':=
 have hl:=h.st.lt
 ⟨h.st.below hb hl,U9 h.r0 hb (Nat.lt_trans h.l1 hl),U9 h.r1 hb (Nat.lt_trans h.l1 hl),U9 h.rc hb (Nat.lt_trans h.lc hl),U9 h.rr hb (Nat.lt_trans h.lr hl),h.bu.below hb (Nat.lt_trans h.lu hl),h.br.below hb (Nat.lt_trans h.lr' hl),h.l1,h.lc,h.lr,h.lu,h.lr',h.lw,U0 h.be hb (Nat.le_of_lt (Nat.lt_of_le_of_lt h.lw hl))⟩
theorem PI.alloc (h:PI w bs b o gc gr u r x y v W) (ob:Obj):PI w bs b o gc gr u r x y v (W.alloc ob):=h.next ((Bf _ _).alloc (Le _) _)
theorem PI.put {v':List Value} (h:PI w bs b o gc gr u r x y v W) (hb:Below bs W W') (hs:St W' bs v'):PI w bs b o gc gr u r x y v' W':=
 ⟨hs,U9 h.r0 hb h.l1,U9 h.r1 hb h.l1,U9 h.rc hb h.lc,U9 h.rr hb h.lr,h.bu.below hb h.lu,h.br.below hb h.lr',h.l1,h.lc,h.lr,h.lu,h.lr',h.lw,h.be.trans (hb.mono h.lw)⟩
theorem PI.start {w1 W:World} {gc gr:Nat} {A:Option Addr} {n c:Nat} (hcs:Cs w1 w1.heap.size A n c [x,y]) (hb1:Below w.heap.size w w1) (hs:St W w1.heap.size v) (hb2:Below w1.heap.size w1 W) (hc:gc<w.heap.size) (hcr:w.rangeAt gc 0 cV) (hr:gr<w.heap.size) (hrr:w.rangeAt gr 0 rV)
  (hu:Blk w u 3 #[.int .i64 (-1)]) (hr0:Blk w r 3 #[.int .i64 (-1)]):
  n=2∧∃ b o,A=some ⟨b,o,none⟩∧PI w w1.heap.size b o gc gr u r x y v W:=by
 obtain ⟨hn,b,o,hA,hbl,h0,h1⟩:=sl_two Uz hcs.1;have hz:=hb1.size;have hbb:=hb1.trans (hb2.mono hz);exact ⟨hn,b,o,hA,hs,U9 h0 hb2 hbl,U9 h1 hb2 hbl,U9 hcr hbb hc,U9 hrr hbb hr,hu.below hbb hu.lt,hr0.below hbb hr0.lt,hbl,Nat.lt_of_lt_of_le hc hz,Nat.lt_of_lt_of_le hr hz,Nat.lt_of_lt_of_le hu.lt hz,Nat.lt_of_lt_of_le hr0.lt hz,hz,hbb⟩
end
theorem ord_get {l s:List Com} {w w':World} {e:Ending} (h:OrdP (Yh l) w e w') (hl:Yh l=some s):OrdYes w s e w':=by
 rcases h with ⟨h,_⟩|⟨s',h,hy⟩
 ·rw [hl] at h;cases h
 ·rw [hl] at h;cases h;exact hy
def PlayP (b:Bool) (u r:Nat) (w:World) (e:Ending) (w':World):Prop:=∃ v W,e = .returned (.tuple #[v,.int .i64 0])∧Below w.heap.size w W∧w'=chkW b u r 1 W
theorem chk_no (ap:Int) (A:Option Addr) (n c bs gr u r:Nat) (i x y u0 r0:Int) (w:World) (hu:Blk w u 3 #[.int .i64 u0]) (hr0:Blk w r 3 #[.int .i64 r0]) (hne:u≠r) (hs:St w bs (kV ap A n c)) (hp:PR false w A n c) (hg:gr<w.heap.size) (hr:w.rangeAt gr 0 rV):
  Calls prog 25 #[.map (some bs),.int .i64 i,.agg #[.int .i64 x,.int .i64 y,.slice (some ⟨gr,0,none⟩) 1 1,.slice none 0 0],.pointer (some ⟨u,0,none⟩),.pointer (some ⟨r,0,none⟩)] w fun e w'=>e = .returned (.bool true)∧Below w.heap.size w w':=
 (chk_read false ap A n c bs gr u r i x y u0 r0 w hu hr0 hne hs hp hg hr).mono fun _ _ ⟨h,_,hb,hw⟩=>⟨h,hw▸hb⟩
theorem chk_yes (ap:Int) (A:Option Addr) (n c bs gr u r:Nat) (i x y u0 r0:Int) (w:World) (hu:Blk w u 3 #[.int .i64 u0]) (hr0:Blk w r 3 #[.int .i64 r0]) (hne:u≠r) (hs:St w bs (kV ap A n c)) (hp:PR true w A n c) (hg:gr<w.heap.size) (hr:w.rangeAt gr 0 rV):
  Calls prog 25 #[.map (some bs),.int .i64 i,.agg #[.int .i64 x,.int .i64 y,.slice (some ⟨gr,0,none⟩) 1 1,.slice none 0 0],.pointer (some ⟨u,0,none⟩),.pointer (some ⟨r,0,none⟩)] w fun e w'=>e = .returned (.bool false)∧∃ W,Below w.heap.size w W∧w'=(W.setCell ⟨u,0,none⟩ (.int .i64 i)).setCell ⟨r,0,none⟩ (.int .i64 0):=
 chk_read true ap A n c bs gr u r i x y u0 r0 w hu hr0 hne hs hp hg hr
theorem play_5 (g gc gr u r c:Nat) (A:Option Addr) (w:World) (hg:g<w.heap.size) (hgr:w.rangeAt g 0 (aV 200)) (hs:Cs w w.heap.size A 2 c [Z8 gc,Xk gr 5]) (hu:Blk w u 3 #[.int .i64 (-1)]) (hr:Blk w r 3 #[.int .i64 (-1)]) (hne:u≠r):
  Calls prog 20 #[.slice (some ⟨g,0,none⟩) 1 1,.slice A 2 c,.func (.func 25) #[] #[.pointer (some ⟨u,0,none⟩),.pointer (some ⟨r,0,none⟩)]] w (PlayP false u r w):=by
 have HO:=Hd (Yy A 2 c _ w hs (Fx gc gr 5) (by decide));obtain ⟨hgc,hcr⟩:=sl_one (hs.2 (Z8 gc) (by simp)).2.1;obtain ⟨hgr1,hrr⟩:=sl_one (hs.2 (Xk gr 5) (by simp)).1;have HG:=Hd hg;have HGR:=Hd hgr;have HST:=Hd fun w1 W A' n c' hcs hb1 hst hb2=>PI.start (v:=aV 200) (w:=w) (w1:=w1) (W:=W) (A:=A') (n:=n) (c:=c') (x:=(Xk gr 5)) (y:=(Z8 gc)) hcs hb1 hst hb2 hgc hcr hgr1 hrr hu hr
 have HNE:=Hd hne;clear hs hgc hcr hgr1 hrr hg hgr hu hr hne;go_enter Tryz.func20,Tryz.ntmps20;go_wp2_with (first|(go_at_call 16;refine HO.out.mono ?_;intro e w1 hp;obtain ⟨A',c',rfl,hcs,hb1⟩:=ord_get hp (ord5 gc gr);have HCS:=Hd hcs;have HB1:=Hd hb1;clear hp hcs hb1)|(go_at_call 47;refine (begin_a g w1 (Nat.lt_of_lt_of_le HG.out HB1.out.size) (U9 HGR.out HB1.out HG.out)).mono ?_;rintro e w2 ⟨rfl,hst,hb2⟩;obtain ⟨_,b,o,rfl,hpi⟩:=HST.out _ _ _ _ _ HCS.out HB1.out hst hb2;have HPI:=Hd hpi;clear hst hb2 hpi));refine Lu 3 ?_;rw [Rs]
 go_wp2_with (first|((with_reducible refine Gl 34 36 ?_);refine Lm rfl 34 _ rfl b o rfl [.int .i64 8,.int .i64 5,.slice (some ⟨gr,0,none⟩) 1 1,.slice none 0 0] _ HPI.out.r0 Tryz.underlying34 rfl (by kernel_rfl) ?_)|(go_at_call 25;refine (chk_no 4 none 0 0 w1.heap.size gr u r 0 8 5 (-1) (-1) _ (HPI.out.alloc _).bu (HPI.out.alloc _).br HNE.out (HPI.out.alloc _).st ⟨rfl,rfl,rfl⟩ (Nat.lt_trans HPI.out.lr (HPI.out.alloc _).st.lt) (HPI.out.alloc _).rr).mono ?_;rintro e w3 ⟨rfl,hb⟩;have HPI3:=Hd ((HPI.out.alloc _).next hb);have kb:=(Blk.new w2 34 #[.int .i64 8,.int .i64 5,.slice (some ⟨gr,0,none⟩) 1 1,.slice none 0 0]).below hb (by simp);have d0:=kb.cell 0;have d1:=kb.cell 1;have d2:=kb.cell 2;have d3:=kb.cell 3;simp at d0 d1 d2 d3;clear hb kb)|(go_at_call 48;refine (after_none w1.heap.size 8 5 _ _ _ _).mono ?_;rintro e w4 ⟨rfl,hb⟩;have HPI4:=Hd (HPI3.out.next hb);clear hb d0 d1 d2 d3))
 rw [Rs];go_wp2_with (first|((with_reducible refine Gl 34 36 ?_);refine Lm rfl 34 _ rfl b (o+4) rfl [.int .i64 9,.int .i64 5,.slice none 0 0,.slice (some ⟨gc,0,none⟩) 1 1] _ HPI4.out.r1 Tryz.underlying34 rfl (by kernel_rfl) ?_)|(go_at_call 25;refine (chk_none w1.heap.size 1 9 5 _ _ _ _ _ _).mono ?_;rintro e w5 ⟨rfl,hb⟩;have HPI5:=Hd ((HPI4.out.alloc _).next hb);have kb:=(Blk.new w4 34 #[.int .i64 9,.int .i64 5,.slice none 0 0,.slice (some ⟨gc,0,none⟩) 1 1]).below hb (by simp);have d0:=kb.cell 0;have d1:=kb.cell 1;have d2:=kb.cell 2;have d3:=kb.cell 3;simp at d0 d1 d2 d3;clear hb kb)|(go_at_call 48;refine (after_put w1.heap.size gc 1 w5 HPI5.out.st (Nat.lt_trans HPI5.out.lc HPI5.out.st.lt) HPI5.out.rc).mono ?_;rintro e w6 ⟨g',c6,rfl,hst,hown,hb⟩;have HPI6:=Hd (HPI5.out.put hb hst);clear hb hst hown d0 d1 d2 d3));rw [Rs];go_wp2
 go_ret2
 exact ⟨_,_,rfl,HPI6.out.be,rfl⟩
theorem play_6 (g gc gr u r c:Nat) (A:Option Addr) (w:World) (hg:g<w.heap.size) (hgr:w.rangeAt g 0 (aV 200)) (hs:Cs w w.heap.size A 2 c [Z8 gc,Xk gr 6]) (hu:Blk w u 3 #[.int .i64 (-1)]) (hr:Blk w r 3 #[.int .i64 (-1)]) (hne:u≠r):
  Calls prog 20 #[.slice (some ⟨g,0,none⟩) 1 1,.slice A 2 c,.func (.func 25) #[] #[.pointer (some ⟨u,0,none⟩),.pointer (some ⟨r,0,none⟩)]] w (PlayP true u r w):=by
 have HO:=Hd (Yy A 2 c _ w hs (Fx gc gr 6) (by decide));obtain ⟨hgc,hcr⟩:=sl_one (hs.2 (Z8 gc) (by simp)).2.1;obtain ⟨hgr1,hrr⟩:=sl_one (hs.2 (Xk gr 6) (by simp)).1;have HG:=Hd hg;have HGR:=Hd hgr;have HST:=Hd fun w1 W A' n c' hcs hb1 hst hb2=>PI.start (v:=aV 200) (w:=w) (w1:=w1) (W:=W) (A:=A') (n:=n) (c:=c') (x:=(Z8 gc)) (y:=(Xk gr 6)) hcs hb1 hst hb2 hgc hcr hgr1 hrr hu hr
 have HNE:=Hd hne;clear hs hgc hcr hgr1 hrr hg hgr hu hr hne;go_enter Tryz.func20,Tryz.ntmps20;go_wp2_with (first|(go_at_call 16;refine HO.out.mono ?_;intro e w1 hp;obtain ⟨A',c',rfl,hcs,hb1⟩:=ord_get hp (ord6 gc gr);have HCS:=Hd hcs;have HB1:=Hd hb1;clear hp hcs hb1)|(go_at_call 47;refine (begin_a g w1 (Nat.lt_of_lt_of_le HG.out HB1.out.size) (U9 HGR.out HB1.out HG.out)).mono ?_;rintro e w2 ⟨rfl,hst,hb2⟩;obtain ⟨_,b,o,rfl,hpi⟩:=HST.out _ _ _ _ _ HCS.out HB1.out hst hb2;have HPI:=Hd hpi;clear hst hb2 hpi));refine Lu 3 ?_;rw [Rs]
 go_wp2_with (first|((with_reducible refine Gl 34 36 ?_);refine Lm rfl 34 _ rfl b o rfl [.int .i64 9,.int .i64 5,.slice none 0 0,.slice (some ⟨gc,0,none⟩) 1 1] _ HPI.out.r0 Tryz.underlying34 rfl (by kernel_rfl) ?_)|(go_at_call 25;refine (chk_none w1.heap.size 0 9 5 _ _ _ _ _ _).mono ?_;rintro e w3 ⟨rfl,hb⟩;have HPI3:=Hd ((HPI.out.alloc _).next hb);have kb:=(Blk.new w2 34 #[.int .i64 9,.int .i64 5,.slice none 0 0,.slice (some ⟨gc,0,none⟩) 1 1]).below hb (by simp);have d0:=kb.cell 0;have d1:=kb.cell 1;have d2:=kb.cell 2;have d3:=kb.cell 3;simp at d0 d1 d2 d3;clear hb kb)|(go_at_call 48;refine (after_put w1.heap.size gc 1 w3 HPI3.out.st (Nat.lt_trans HPI3.out.lc HPI3.out.st.lt) HPI3.out.rc).mono ?_;rintro e w4 ⟨g',c6,rfl,hst,hown,hb⟩;have HPI4:=Hd (HPI3.out.put hb hst);have HPR:=Hd (PR.of_own hown);clear hb hst hown d0 d1 d2 d3));rw [Rs]
 go_wp2_with (first|((with_reducible refine Gl 34 36 ?_);refine Lm rfl 34 _ rfl b (o+4) rfl [.int .i64 8,.int .i64 6,.slice (some ⟨gr,0,none⟩) 1 1,.slice none 0 0] _ HPI4.out.r1 Tryz.underlying34 rfl (by kernel_rfl) ?_)|(go_at_call 25;refine (chk_yes 5 (some ⟨g',0,none⟩) 1 c6 w1.heap.size gr u r 1 8 6 (-1) (-1) _ (HPI4.out.alloc _).bu (HPI4.out.alloc _).br HNE.out (HPI4.out.alloc _).st (HPR.out.below ((Bf _ _).alloc (Le _) _)) (Nat.lt_trans HPI4.out.lr (HPI4.out.alloc _).st.lt) (HPI4.out.alloc _).rr).mono ?_;rintro e w5 ⟨rfl,W,hb,rfl⟩;have HPI5:=Hd ((HPI4.out.alloc _).next hb);clear hb))
 go_ret2
 exact ⟨_,W,rfl,HPI5.out.be,rfl⟩
open Go.RowKit
def cW (w:World):World:=(w.alloc (.cells #[.int .i64 (-1)] 3)).alloc (.cells #[.int .i64 (-1)] 3)
theorem V9 (w:World):Below w.heap.size w (cW w):=((Bf _ _).alloc (Le _) _).alloc (by simp) _
theorem cW_u (w:World):Blk (cW w) w.heap.size 3 #[.int .i64 (-1)]:=(Blk.new w 3 _).alloc _
theorem cW_r (w:World):Blk (cW w) (w.heap.size+1) 3 #[.int .i64 (-1)]:=U3 (w.alloc (.cells #[.int .i64 (-1)] 3)) 3 _ _ (by simp)
def CheckP (b:Bool) (w:World) (e:Ending) (w':World):Prop:=e = .returned (.tuple #[.int .i64 (if b then 1 else -1),.int .i64 (if b then 0 else -1),.int .i64 0])∧Below w.heap.size w w'
theorem play_end (b:Bool) (w:World) (e:Ending) (w':World) (h:PlayP b w.heap.size (w.heap.size+1) (cW w) e w'):
  ∃ v,e = .returned (.tuple #[v,.int .i64 0])∧w'.cell? ⟨w.heap.size,0,none⟩=some (.int .i64 (if b then 1 else -1))∧w'.cell? ⟨w.heap.size+1,0,none⟩=some (.int .i64 (if b then 0 else -1))∧Below w.heap.size w w':=by
 obtain ⟨v,W,rfl,hb,rfl⟩:=h;have hu:=(cW_u w).below hb (cW_u w).lt;have hr:=(cW_r w).below hb (cW_r w).lt;have hz:w.heap.size≤(cW w).heap.size:=(V9 w).size;have hbb:=U0 (V9 w) hb hz;cases b with
 |false=>exact ⟨v,rfl,hu.cell 0,hr.cell 0,hbb⟩
 |true=>
  refine ⟨v,rfl,?_,?_,?_⟩
  ·exact ((hu.set 0 (.int .i64 1)).far (p:=⟨w.heap.size+1,0,none⟩) (by simp) _).cell 0
  ·exact ((hr.far (p:=⟨w.heap.size,0,none⟩) (by simp) _).set 0 (.int .i64 0)).cell 0
  ·exact (hbb.setCell (Le _) _).setCell (by simp) _
theorem check_of (b:Bool) (g:Nat) (A:Option Addr) (c:Nat) (w:World)
  (hp:Calls prog 20 #[.slice (some ⟨g,0,none⟩) 1 1,.slice A 2 c,.func (.func 25) #[] #[.pointer (some ⟨w.heap.size,0,none⟩),.pointer (some ⟨w.heap.size+1,0,none⟩)]] (cW w) (PlayP b w.heap.size (w.heap.size+1) (cW w))):
  Calls prog 10 #[.slice (some ⟨g,0,none⟩) 1 1,.slice A 2 c] w (CheckP b w):=by
 have HP:=Hd hp;clear hp;unfold cW at HP;cases b
 all_goals
  go_enter Tryz.func10,Tryz.ntmps10;go_wp2_with (go_at_call 20;refine HP.out.mono ?_;intro e w3 hq;obtain ⟨v,rfl,c1,c2,hb⟩:=play_end _ w _ _ hq;have HB:=Hd hb;clear hq hb;simp at c1 c2)
  go_quiet (fail)
  go_wp2
  go_ret3
  exact ⟨rfl,Ud HB.out _⟩
theorem check_5 (g gc gr:Nat) (A:Option Addr) (c:Nat) (w:World) (hg:g<w.heap.size) (hgr:w.rangeAt g 0 (aV 200)) (hs:Cs w w.heap.size A 2 c [Z8 gc,Xk gr 5]):
  Calls prog 10 #[.slice (some ⟨g,0,none⟩) 1 1,.slice A 2 c] w (CheckP false w):=
 check_of false g A c w (play_5 g gc gr _ _ c A (cW w) (Nat.lt_of_lt_of_le hg (V9 w).size) (U9 hgr (V9 w) hg) (hs.after (V9 w) (V9 w).size) (cW_u w) (cW_r w) (by omega))
theorem check_6 (g gc gr:Nat) (A:Option Addr) (c:Nat) (w:World) (hg:g<w.heap.size) (hgr:w.rangeAt g 0 (aV 200)) (hs:Cs w w.heap.size A 2 c [Z8 gc,Xk gr 6]):
  Calls prog 10 #[.slice (some ⟨g,0,none⟩) 1 1,.slice A 2 c] w (CheckP true w):=
 check_of true g A c w (play_6 g gc gr _ _ c A (cW w) (Nat.lt_of_lt_of_le hg (V9 w).size) (U9 hgr (V9 w) hg) (hs.after (V9 w) (V9 w).size) (cW_u w) (cW_r w) (by omega))
open Go.RowKit
theorem conf_ex (gc gr:Nat):V8 (Ew [Z8 gc,Xk gr 6]) (Ew [Z8 gc,Xk gr 6]).length = [(0,1)]:=by kernel_rfl
theorem sm_ex (gc gr:Nat) (k:Int):∀ x∈[Z8 gc,Xk gr k],SmP x:=by
 intro x hx;simp at hx;rcases hx with rfl|rfl<;>exact ⟨by simp [Z8,Xk],by simp [Z8,Xk]⟩
structure AWM (w W:World) (k:Int):Prop where
 b0:Blk W w.heap.size 30 (aV 200).toArray
 b1:Blk W (w.heap.size+1) 58 cV.toArray
 b2:Blk W (w.heap.size+1+1) 34 #[.int .i64 9,.int .i64 5,.slice none 0 0,.slice (some ⟨w.heap.size+1,0,none⟩) 1 1]
 b3:Blk W (w.heap.size+1+1+1) 49 rV.toArray
 b4:Blk W (w.heap.size+1+1+1+1) 34 #[.int .i64 8,.int .i64 k,.slice (some ⟨w.heap.size+1+1+1,0,none⟩) 1 1,.slice none 0 0]
 sz:w.heap.size+5≤W.heap.size
 be:Below w.heap.size w W
section
variable {w W W':World} {k:Int}
theorem AWM.next (h:AWM w W k) (hb:Below W.heap.size W W'):AWM w W' k:=
 have hz:=h.sz
 ⟨h.b0.below hb (by omega),h.b1.below hb (by omega),h.b2.below hb (by omega),h.b3.below hb (by omega),h.b4.below hb (by omega),Lx hz hb.size,U0 h.be hb (by omega)⟩
theorem AWM.alloc (h:AWM w W k) (o:Obj):AWM w (W.alloc o) k:=h.next ((Bf _ _).alloc (Le _) _)
theorem AWM.start (w:World):AWM w (((((w.alloc (.cells (aV 200).toArray 30)).alloc (.cells cV.toArray 58)).alloc (.cells #[.int .i64 9,.int .i64 5,.slice none 0 0,.slice (some ⟨w.heap.size+1,0,none⟩) 1 1] 34)).alloc (.cells rV.toArray 49)).alloc (.cells #[.int .i64 8,.int .i64 5,.slice (some ⟨w.heap.size+1+1+1,0,none⟩) 1 1,.slice none 0 0] 34)) 5:=
 ⟨((((Blk.new w _ _).alloc _).alloc _).alloc _).alloc _,(((U3 (w.alloc _) _ _ (w.heap.size+1) (by simp)).alloc _).alloc _).alloc _,((U3 ((w.alloc _).alloc _) _ _ (w.heap.size+1+1) (by simp)).alloc _).alloc _,(U3 (((w.alloc _).alloc _).alloc _) _ _ (w.heap.size+1+1+1) (by simp)).alloc _,U3 ((((w.alloc _).alloc _).alloc _).alloc _) _ _ (w.heap.size+1+1+1+1) (by simp),by simp,
  (((((Bf _ _).alloc (Le _) _).alloc (by simp) _).alloc (by simp;omega) _).alloc (by simp;omega) _).alloc (by simp;omega) _⟩
theorem AWM.set (h:AWM w W k) (k':Int):AWM w (W.setCell ⟨w.heap.size+1+1+1+1,1,none⟩ (.int .i64 k')) k':=
 ⟨h.b0.far (by simp<;>omega) _,h.b1.far (by simp<;>omega) _,h.b2.far (by simp<;>omega) _,h.b3.far (by simp<;>omega) _,h.b4.set 1 _,by simpa using h.sz,h.be.setCell (by simp<;>omega) _⟩
theorem AWM.units (h:AWM w W k):Cs (W.alloc (.cells #[.int .i64 9,.int .i64 5,.slice none 0 0,.slice (some ⟨w.heap.size+1,0,none⟩) 1 1,.int .i64 8,.int .i64 k,.slice (some ⟨w.heap.size+1+1+1,0,none⟩) 1 1,.slice none 0 0] 34))
  (W.alloc (.cells #[.int .i64 9,.int .i64 5,.slice none 0 0,.slice (some ⟨w.heap.size+1,0,none⟩) 1 1,.int .i64 8,.int .i64 k,.slice (some ⟨w.heap.size+1+1+1,0,none⟩) 1 1,.slice none 0 0] 34)).heap.size (some ⟨W.heap.size,0,none⟩) 2 2 [Z8 (w.heap.size+1),Xk (w.heap.size+1+1+1) k]:=by
 have hz:=h.sz;refine ⟨?_,fun x hx=>?_⟩
 ·have:=Sl.new Uz W 34 [Z8 (w.heap.size+1),Xk (w.heap.size+1+1+1) k]
  exact this.more (by simp)
 ·simp at hx
  rcases hx with rfl|rfl
  ·refine ⟨Sl.nil,⟨Le _,rfl,rfl,fun _=>⟨w.heap.size+1,0,rfl,by simp;omega,fun j u hu=>?_⟩⟩,show (0:Nat)≤maxLen from Z0 _,show (1:Nat)≤maxLen by decide⟩
   exact (h.b1.alloc _).range 0 _ (fun j v hv=>by rw [Ga,Nat.zero_add];exact hv) j u hu
  ·refine ⟨⟨Le _,rfl,rfl,fun _=>⟨w.heap.size+1+1+1,0,rfl,by simp;omega,fun j u hu=>?_⟩⟩,Sl.nil,show (1:Nat)≤maxLen by decide,show (0:Nat)≤maxLen from Z0 _⟩
   exact (h.b3.alloc _).range 0 _ (fun j v hv=>by rw [Ga,Nat.zero_add];exact hv) j u hu
theorem chk5 (h:AWM w W 5):Calls prog 10 #[.slice (some ⟨W.heap.size,0,none⟩) 1 1,.slice (some ⟨W.heap.size+1,0,none⟩) 2 2] ((W.alloc (.cells (aV 200).toArray 30)).alloc (.cells #[.int .i64 9,.int .i64 5,.slice none 0 0,.slice (some ⟨w.heap.size+1,0,none⟩) 1 1,.int .i64 8,.int .i64 5,.slice (some ⟨w.heap.size+1+1+1,0,none⟩) 1 1,.slice none 0 0] 34)) fun e w'=>e = .returned (.tuple #[.int .i64 (-1),.int .i64 (-1),.int .i64 0])∧AWM w w' 5∧Below W.heap.size W w':=by
 have hz:(W.alloc (.cells (aV 200).toArray 30)).heap.size=W.heap.size+1:=by simp
 have hu:=(h.alloc (.cells (aV 200).toArray 30)).units;rw [hz] at hu;have hb0:Below W.heap.size W ((W.alloc (.cells (aV 200).toArray 30)).alloc (.cells #[.int .i64 9,.int .i64 5,.slice none 0 0,.slice (some ⟨w.heap.size+1,0,none⟩) 1 1,.int .i64 8,.int .i64 5,.slice (some ⟨w.heap.size+1+1+1,0,none⟩) 1 1,.slice none 0 0] 34)):=((Bf _ _).alloc (Le _) _).alloc (by simp) _;refine (check_5 W.heap.size _ _ _ 2 _ (by simp;omega) (((Blk.new W 30 (aV 200).toArray).alloc _).range 0 _ fun j v hv=>by rw [Ga,Nat.zero_add];exact hv) hu).mono ?_;rintro e w' ⟨rfl,hb⟩;exact ⟨rfl,((h.alloc _).alloc _).next hb,U0 hb0 hb hb0.size⟩
theorem chk6 (h:AWM w W 6):Calls prog 10 #[.slice (some ⟨W.heap.size,0,none⟩) 1 1,.slice (some ⟨W.heap.size+1,0,none⟩) 2 2] ((W.alloc (.cells (aV 200).toArray 30)).alloc (.cells #[.int .i64 9,.int .i64 5,.slice none 0 0,.slice (some ⟨w.heap.size+1,0,none⟩) 1 1,.int .i64 8,.int .i64 6,.slice (some ⟨w.heap.size+1+1+1,0,none⟩) 1 1,.slice none 0 0] 34)) fun e w'=>e = .returned (.tuple #[.int .i64 (1),.int .i64 (0),.int .i64 0])∧AWM w w' 6∧Below W.heap.size W w':=by
 have hz:(W.alloc (.cells (aV 200).toArray 30)).heap.size=W.heap.size+1:=by simp
 have hu:=(h.alloc (.cells (aV 200).toArray 30)).units;rw [hz] at hu;have hb0:Below W.heap.size W ((W.alloc (.cells (aV 200).toArray 30)).alloc (.cells #[.int .i64 9,.int .i64 5,.slice none 0 0,.slice (some ⟨w.heap.size+1,0,none⟩) 1 1,.int .i64 8,.int .i64 6,.slice (some ⟨w.heap.size+1+1+1,0,none⟩) 1 1,.slice none 0 0] 34)):=((Bf _ _).alloc (Le _) _).alloc (by simp) _;refine (check_6 W.heap.size _ _ _ 2 _ (by simp;omega) (((Blk.new W 30 (aV 200).toArray).alloc _).range 0 _ fun j v hv=>by rw [Ga,Nat.zero_add];exact hv) hu).mono ?_;rintro e w' ⟨rfl,hb⟩;exact ⟨rfl,((h.alloc _).alloc _).next hb,U0 hb0 hb hb0.size⟩
end
structure AZ (w:World) (b o:Nat) (W:World):Prop where
 lb:b<W.heap.size
 ne:b≠w.heap.size+1+1+1+1
 c:W.cell? ⟨b,o,none⟩=some (.int .i64 8)
theorem AZ.next {w W W':World} {b o:Nat} (h:AZ w b o W) (hb:Below W.heap.size W W'):AZ w b o W':=⟨Nat.lt_of_lt_of_le h.lb hb.size,h.ne,(hb.cell (p:=⟨b,o,none⟩) h.lb).trans h.c⟩
theorem AZ.alloc {w W:World} {b o:Nat} (h:AZ w b o W) (ob:Obj):AZ w b o (W.alloc ob):=h.next ((Bf _ _).alloc (Le _) _)
theorem AZ.set {w W:World} {b o:Nat} (h:AZ w b o W) (v:Value):AZ w b o (W.setCell ⟨w.heap.size+1+1+1+1,1,none⟩ v):=
 ⟨by simpa using h.lb,h.ne,(World.cell?_setCell_other W _ _ v (fun e=>by injection e with e _ _;exact h.ne e.symm)).trans h.c⟩
theorem AZ.start {w W:World} {k k':Int} {b o gc gr:Nat} (h:AWM w W k) (hbl:b<W.heap.size) (h0:W.rangeAt b o (U8 (Xk gr k'))) (h1:W.rangeAt b (o+4) (U8 (Z8 gc))):AZ w b o W:=by
 refine ⟨hbl,fun e=>?_,h0 0 _ rfl⟩;subst e;have hc:=h1 0 _ rfl;rw [h.b4.cell] at hc;simp at hc
theorem sl_one' {W:World} {A:Option Addr} {n c:Nat} (h:Sl pC 2 W W.heap.size A n c [(0,1)]):∃ b o,A=some ⟨b,o,none⟩∧W.cell? ⟨b,o,none⟩=some (.int .i64 0)∧W.cell? ⟨b,o+1,none⟩=some (.int .i64 1):=by
 have hn:n=1:=h.len.symm;subst hn;obtain ⟨b,o,e,_,hc⟩:=h.2.2.2 (by decide);exact ⟨b,o,e,hc 0 _ rfl,hc 1 _ rfl⟩
theorem awake_any (w:World):Calls prog 6 #[] w fun e w'=>e = .returned (.bool true)∧Below w.heap.size w w':=by
 obtain ⟨i0,hi0,hz0,hz1,hz2⟩:=info_parts Zv;have HST:Hid (AWM w (((((w.alloc (.cells (aV 200).toArray 30)).alloc (.cells #[.int .i64 0,.int .i64 200,.string ⟨#[107]⟩,.string ⟨#[107,49]⟩,.string ⟨#[]⟩] 58)).alloc (.cells #[.int .i64 9,.int .i64 5,.slice none 0 0,.slice (some ⟨w.heap.size+1,0,none⟩) 1 1] 34)).alloc (.cells #[.int .i64 0,.int .i64 200,.string ⟨#[107]⟩,.string ⟨#[]⟩,.string ⟨#[]⟩,.int .i64 6] 49)).alloc (.cells #[.int .i64 8,.int .i64 5,.slice (some ⟨w.heap.size+1+1+1,0,none⟩) 1 1,.slice none 0 0] 34)) 5):=Hd (AWM.start w);have HA:=Hd (aV_one 200);have HB:=Hd fun old=>Blk.new w 30 old
 have HSR:=Hd fun old=>U1 w old (aV 200).toArray 30
 go_enter Tryz.func6,Tryz.ntmps6
 go_upto_region 4 with (first|((with_reducible refine Gb 27 ?_);refine U2 (by kernel_rfl) 27 _ rfl (dV 200).toArray (by kernel_rfl) ?_)|((with_reducible refine Gb 30 ?_);refine U2 (by kernel_rfl) 30 _ rfl (aV 200).toArray (by kernel_rfl) ?_)|((with_reducible refine Gt 30 1 ?_);refine Lt rfl 30 _ _ rfl w.heap.size (aV 200).toArray rfl rfl 30 _ (HB.out _) (by kernel_rfl) rfl HA.out ?_;rw [HSR.out]))
 obtain ⟨W,hW,hx⟩:∃ W,W=(((((w.alloc (.cells (aV 200).toArray 30)).alloc (.cells #[.int .i64 0,.int .i64 200,.string ⟨#[107]⟩,.string ⟨#[107,49]⟩,.string ⟨#[]⟩] 58)).alloc (.cells #[.int .i64 9,.int .i64 5,.slice none 0 0,.slice (some ⟨w.heap.size+1,0,none⟩) 1 1] 34)).alloc (.cells #[.int .i64 0,.int .i64 200,.string ⟨#[107]⟩,.string ⟨#[]⟩,.string ⟨#[]⟩,.int .i64 6] 49)).alloc (.cells #[.int .i64 8,.int .i64 5,.slice (some ⟨w.heap.size+1+1+1,0,none⟩) 1 1,.slice none 0 0] 34))∧AWM w W 5:=⟨_,rfl,HST.out⟩
 rw [←hW];have HW:=Hd hx;clear hW hx HST HB HSR HA
 go_upto_region 5 with (first|((with_reducible refine Gl 34 2 ?_);refine Lr rfl 34 _ rfl (w.heap.size+1+1) rfl 34 _ (0,0) _ (by first|exact HW.out.b2|exact (HW.out.alloc _).b2) Tryz.underlying34 rfl (by kernel_rfl) ?_)|((with_reducible refine Gl 34 3 ?_);refine Lr rfl 34 _ rfl (w.heap.size+1+1+1+1) rfl 34 _ (0,0) _ (by first|exact HW.out.b4|exact (HW.out.alloc _).b4) Tryz.underlying34 rfl (by kernel_rfl) ?_)|(go_at_call 16;refine (Yy _ 2 2 _ _ HW.out.units (Fx _ _ _) (by decide)).mono ?_;intro e w1 hp;obtain ⟨A1,c1,rfl,hcs,hb1⟩:=ord_get hp (ord5 _ _);obtain ⟨_,b,o,rfl,hbl,h0,h1⟩:=sl_two Uz hcs.1;have HWn:=Hd ((HW.out.alloc _).next hb1);clear HW;have HW:=HWn;clear HWn;have HZ:=Hd (AZ.start HW.out hbl h0 h1);clear hp hcs hb1 hbl h0 h1))
 go_upto_region 6 with (first|((with_reducible refine Gl 30 1 ?_);refine Lr rfl 30 _ rfl w.heap.size rfl 30 _ (0,0) _ (by first|exact HW.out.b0|exact (HW.out.alloc _).b0) Tryz.underlying30 rfl (by kernel_rfl) ?_)|((with_reducible refine Gc 22 ?_);refine wpList_buildSlice rfl 22 30 1 _ rfl (aV 200).toArray i0 (.agg zV.toArray) Tryz.underlying22 hi0 hz0 (by rw [hz1];decide) (by rw [hz1];decide) (by rw [hz1];kernel_rfl) ?_)|((with_reducible refine Gl 34 2 ?_);refine Lr rfl 34 _ rfl (w.heap.size+1+1) rfl 34 _ (0,0) _ (by first|exact HW.out.b2|exact (HW.out.alloc _).b2) Tryz.underlying34 rfl (by kernel_rfl) ?_)|((with_reducible refine Gl 34 3 ?_);refine Lr rfl 34 _ rfl (w.heap.size+1+1+1+1) rfl 34 _ (0,0) _ (by first|exact HW.out.b4|exact (HW.out.alloc _).b4) Tryz.underlying34 rfl (by kernel_rfl) ?_)|(go_at_call 10;refine (chk5 HW.out).mono ?_;rintro e w2 ⟨rfl,hx,hb⟩;have HWn:=Hd (hx);clear HW;have HW:=HWn;clear HWn;have HZn:=Hd (HZ.out.next hb);clear HZ;have HZ:=HZn;clear HZn;clear hx hb))
 have s1:=HW.out.b4.cell 1;have s2:=HW.out.b4.free 1;simp at s1
 go_upto_region 7 with (fail)
 obtain ⟨W3,hW3,hx,hb⟩:∃ W3,W3=w2.setCell ⟨w.heap.size+1+1+1+1,1,none⟩ (.int .i64 6)∧AWM w W3 6∧AZ w b o W3:=⟨_,rfl,HW.out.set 6,HZ.out.set _⟩
 rw [←hW3];have HWn:=Hd (hx);clear HW;have HW:=HWn;clear HWn;have HZn:=Hd hb;clear HZ;have HZ:=HZn;clear HZn;clear hW3 hx hb s1 s2
 go_upto_region 8 with (first|((with_reducible refine Gl 30 1 ?_);refine Lr rfl 30 _ rfl w.heap.size rfl 30 _ (0,0) _ (by first|exact HW.out.b0|exact (HW.out.alloc _).b0) Tryz.underlying30 rfl (by kernel_rfl) ?_)|((with_reducible refine Gc 22 ?_);refine wpList_buildSlice rfl 22 30 1 _ rfl (aV 200).toArray i0 (.agg zV.toArray) Tryz.underlying22 hi0 hz0 (by rw [hz1];decide) (by rw [hz1];decide) (by rw [hz1];kernel_rfl) ?_)|((with_reducible refine Gl 34 2 ?_);refine Lr rfl 34 _ rfl (w.heap.size+1+1) rfl 34 _ (0,0) _ (by first|exact HW.out.b2|exact (HW.out.alloc _).b2) Tryz.underlying34 rfl (by kernel_rfl) ?_)|((with_reducible refine Gl 34 3 ?_);refine Lr rfl 34 _ rfl (w.heap.size+1+1+1+1) rfl 34 _ (0,0) _ (by first|exact HW.out.b4|exact (HW.out.alloc _).b4) Tryz.underlying34 rfl (by kernel_rfl) ?_)|(go_at_call 10;refine (chk6 HW.out).mono ?_;rintro e w4 ⟨rfl,hx,hb⟩;have HWn:=Hd (hx);clear HW;have HW:=HWn;clear HWn;have HZn:=Hd (HZ.out.next hb);clear HZ;have HZ:=HZn;clear HZn;clear hx hb))
 go_upto_region 9 with (first|((with_reducible refine Gl 34 2 ?_);refine Lr rfl 34 _ rfl (w.heap.size+1+1) rfl 34 _ (0,0) _ (by first|exact HW.out.b2|exact (HW.out.alloc _).b2) Tryz.underlying34 rfl (by kernel_rfl) ?_)|((with_reducible refine Gl 34 3 ?_);refine Lr rfl 34 _ rfl (w.heap.size+1+1+1+1) rfl 34 _ (0,0) _ (by first|exact HW.out.b4|exact (HW.out.alloc _).b4) Tryz.underlying34 rfl (by kernel_rfl) ?_)|(go_at_call 8;refine (hconf_any _ 2 2 _ _ HW.out.units (Fx _ _ _) (by decide) (sm_ex _ _ _)).mono ?_;intro e w5 hp;rw [conf_ex] at hp;obtain ⟨A5,c5,rfl,hs5,hb⟩:=hp;obtain ⟨b5,o5,rfl,x0,x1⟩:=sl_one' hs5;have HWn:=Hd ((HW.out.alloc _).next hb);clear HW;have HW:=HWn;clear HWn;have HZn:=Hd ((HZ.out.alloc _).next hb);clear HZ;have HZ:=HZn;clear HZn;clear hb hs5))
 have l0:=HZ.out.c;have qq:∀ W:World,(binOp .eql 38 (.agg #[.int .i64 0,.int .i64 1]) (.agg #[.int .i64 0,.int .i64 1])).run prog W = .ok (.bool true) W:=fun W=>by kernel_rfl
 go_wp2;go_ret;exact ⟨rfl,HW.out.be⟩
end
section
set_option maxRecDepth 100000
open Go.RowKit
def chkU (o:Option (Nat×Nat)):Int:=match o with|none => -1|some p=>(p.1:Nat)
def chkV (o:Option (Nat×Nat)):Int:=match o with|none => -1|some p=>(p.2:Nat)
def CheP (R:Int ⊕ Option (Nat×Nat)) (w:World) (e:Ending) (w':World):Prop:=match R with
 |.inl er=>er≠0∧e = .returned (.tuple #[.int .i64 0,.int .i64 0,.int .i64 er])∧Below w.heap.size w w'
 |.inr o=>e = .returned (.tuple #[.int .i64 (chkU o),.int .i64 (chkV o),.int .i64 0])∧Below w.heap.size w w'
theorem playC_end (o:Option (Nat×Nat)) (w:World) (e:Ending) (w':World) (h:PlayC (.inr o) w.heap.size (w.heap.size+1) (cW w) e w'):
  ∃ v,e = .returned (.tuple #[v,.int .i64 0])∧w'.cell? ⟨w.heap.size,0,none⟩=some (.int .i64 (chkU o))∧w'.cell? ⟨w.heap.size+1,0,none⟩=some (.int .i64 (chkV o))∧Below w.heap.size w w':=by
 have hz:w.heap.size≤(cW w).heap.size:=(V9 w).size;cases o with
 |none=>
  obtain ⟨⟨v,rfl⟩,hb⟩:=h;exact ⟨v,rfl,((cW_u w).below hb (cW_u w).lt).cell 0,((cW_r w).below hb (cW_r w).lt).cell 0,U0 (V9 w) hb hz⟩
 |some p=>
  obtain ⟨⟨v,rfl⟩,hf,h1,h2⟩:=h;refine ⟨v,rfl,h1,h2,(V9 w).trans (hf.below (fun b hb=>?_) hz)⟩;simp at hb;omega
theorem check_g (R:Int ⊕ Option (Nat×Nat)) (iA:Option Addr) (im ic:Nat) (A:Option Addr) (n c:Nat) (w:World)
  (hp:Calls prog 20 #[.slice iA im ic,.slice A n c,.func (.func 25) #[] #[.pointer (some ⟨w.heap.size,0,none⟩),.pointer (some ⟨w.heap.size+1,0,none⟩)]] (cW w) (PlayC R w.heap.size (w.heap.size+1) (cW w))):
  Calls prog 10 #[.slice iA im ic,.slice A n c] w (CheP R w):=by
 have HP:=Hd hp;have HCW:=Hd (V9 w);clear hp;cases R with
 |inl er=>
  unfold cW at HP HCW;go_enter Tryz.func10,Tryz.ntmps10;go_wp2_with (go_at_call 20;refine HP.out.mono ?_;rintro e w3 ⟨hne,rfl,hb⟩;have HNE:=Hd hne;have hbe:(er != 0)=true:=(by simpa using hne);have HB:=Hd (U0 HCW.out hb HCW.out.size);clear hne hb)
  go_ret3
  exact ⟨HNE.out,rfl,HB.out⟩
 |inr o=>
  have HE:=Hd (playC_end o w);unfold cW at HP HE;go_enter Tryz.func10,Tryz.ntmps10;go_wp2_with (go_at_call 20;refine HP.out.mono ?_;intro e w3 hq;obtain ⟨v,rfl,c1,c2,hb⟩:=HE.out _ _ hq;have HB:=Hd hb;clear hq hb)
  go_quiet (fail)
  go_wp2
  go_ret3
  exact ⟨rfl,Ud HB.out _⟩
theorem check_any (iA:Option Addr) (im ic:Nat) (ini:List Cnt) (A:Option Addr) (n c:Nat) (l:List Com) (w:World) (hi:Sl cnC 23 w w.heap.size iA im ic ini) (hip:∀ x∈ini,CW w x) (him:im≤1024)
  (hs:Cs w w.heap.size A n c l) (hv:∀ x∈l,SmC x) (hn:n≤12) (ht:Sta w) (hc:Cod w):
  Calls prog 10 #[.slice iA im ic,.slice A n c] w (CheP (cheF ini l) w):=by
 have hz:=V9 w;exact check_g _ iA im ic A n c w (play_chk iA im ic ini A n c l (cW w) w.heap.size (w.heap.size+1) (cW_u w) (cW_r w) (by omega) (hi.after hz hz.size) (fun x hx=>(hip x hx).below hz) him (hs.after hz hz.size) hv hn (ht.after hz) (hc.after hz))
end
section
open Go.RowKit
theorem endN_numL:∀ (l:List Com) (n m:Int),Y0 n (Vd m l)=Y0 n l
 | [],_,_=>rfl
 |c::r,n,m=>endN_numL r (n+c.cn) (m+c.cn)
theorem numL_rs:∀ (l:List Com) (n:Int) (u:Com),u∈Vd n l→u.rs = []
 | [],_,u,h=>by cases h
 |c::r,n,u,h=>by
  rcases List.mem_cons.1 h with rfl|h
  ·rfl
  ·exact numL_rs r _ u h
theorem Ey:∀ (l:List Com) (n:Int) (u:Com),u∈Vd n l→∃ c∈l,∃ k,u=Zh k c
 | [],_,u,h=>by cases h
 |c::r,n,u,h=>by
  rcases List.mem_cons.1 h with rfl|h
  ·exact ⟨c,List.mem_cons_self,n,rfl⟩
  ·obtain ⟨x,hx,k,hk⟩:=Ey r _ u h
   exact ⟨x,List.mem_cons_of_mem _ hx,k,hk⟩
def rdU (q:Int) (A:Option Addr) (r:Rdd):Com:=⟨7,q,A,1,1,none,0,0,[r],[]⟩
theorem rdU_ok {q:Int} {A:Option Addr} {r:Rdd} (h1:1≤q) (h2:q≤4000) (hr:rdB r=true):Z9 (rdU q A r)=true:=by
 unfold Z9 rdU;simp only [List.any_nil,List.any_cons,hr,Bool.not_true,Bool.or_false,Bool.not_false,Bool.and_true];have e1:Xc 7=true:=by decide
 have e2:Xc q=true:=by unfold Xc;simp;omega
 rw [e1,e2];simp;omega
theorem che_of {ini:List Cnt} {l:List Com} {s:List PC} {r:Rdd} {A:Option Addr} (h:repF ini (Vd 1 l) = .inr s) (hn:Y0 1 l≤4000) (hr:rdB r=true):
  cheF ini (Vd 1 l++[rdU (Y0 1 l) A r]) = .inr (if Xy (Y4 s r.id) r=true then none else some (l.length,0)):=by
 unfold repF at h;rw [ord_numL] at h;cases ha:((Vd 1 l).any fun x => !Z9 x) with
 |true=>rw [ha] at h;cases h
 |false=>
  rw [ha] at h;simp only [Bool.false_eq_true,if_false] at h;cases hb:Fa vC [] ini with
  |none=>rw [hb] at h;cases h
  |some st=>
   rw [hb] at h;simp only at h;unfold cheF;rw [ord_numL_snoc l (rdU (Y0 1 l) A r) rfl (rdU_ok (Ge l 1) hn hr) ha,hb];simp only;rw [chk_end (rdU (Y0 1 l) A r) r rfl rfl (Vd 1 l) 0 (st.map plC) (numL_rs l 1),h];simp only [Nat.zero_add,Ez];split<;>rfl
theorem now_ps {now:List Cnt} {s:List PC} (h:(now.map plC).map some=(idsP s).map (Z4 s)) (id:Int):Y4 (now.map plC) id=Y4 s id:=by
 refine psOf_map s id (idsP s) (now.map plC) h fun i hi=>?_
 cases hg:Z4 s i with
 |none=>rw [hg] at hi;cases hi
 |some x=>exact mem_idsP.2 ⟨x,List.mem_of_find?_eq_some hg,getP_id hg⟩
theorem J8 (iA:Option Addr) (im ic:Nat) (ini:List Cnt) (A:Option Addr) (n c:Nat) (l:List Com) (w:World) (hi:Sl cnC 23 w w.heap.size iA im ic ini) (hip:∀ x∈ini,CW w x) (hiw:∀ x∈ini,(Lit.int .i64 x.d.id).wf=true) (him:im≤4)
  (hs:Cs w w.heap.size A n c l) (hv:∀ x∈l,SmC x) (hcn:∀ x∈l,x.cn≤8) (hn:n≤12) (ht:Sta w) (hc:Cod w):
  Calls prog 9 #[.slice iA im ic,.slice A n c] w (RepG (repF ini l) w):=
 replay_of _ iA im ic A n c w
  (fun s h=>rep_ok hiw (by rw [hi.len];omega) (by rw [hs.1.len];exact hn) (fun u hu=>by rw [(hs.2 u hu).2.1.len];exact hcn u hu) h)
  (play_rep iA im ic ini A n c l w hi hip (by omega) hs hv hn ht hc)
end
end Go.Proofs.YtapanepkfbamhaaGreatDoor
