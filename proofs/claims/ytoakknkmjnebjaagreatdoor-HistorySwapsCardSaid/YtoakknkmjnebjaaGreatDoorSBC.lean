/- Of HistorySwaps. -/
import Derived.Test.YtoakknkmjnebjaaGreatDoorSBB
namespace Go.Proofs.YtoakknkmjnebjaaGreatDoor
open Tryz (prog)
set_option maxRecDepth 100000
set_option maxHeartbeats 2000000
open Go.RowKit
section
theorem c11_any (b:Bool) (ap:Int) (A:Option Addr) (n c bs g:Nat) (w:Wd) (hg:w.cell? ⟨g,0,none⟩=some (.map (some bs))) (hs:St w bs (kV ap A n c)) (hp:PR b w A n c):
  Calls prog 27 #[.agg #[.int .i64 0,.int .i64 200,.string ⟨#[107]⟩,.string ⟨#[]⟩,.string ⟨#[]⟩,.int .i64 6],.pointer (some ⟨g,0,none⟩)] w fun e w'=>e = .returned (.bool b)∧Below w.heap.size w w':=by
 have lt:=block_lt_of_cell hg;simp only at lt;have B0:=Hd (Xg w rV.toArray 49);have HX:=Hd (explained_any b ap A n c bs (w.alloc (.cells rV.toArray 49)) (hs.alloc _) (hp.below ((Bf _ _).alloc (Le _) _)));have k0:(w.alloc (.cells rV.toArray 49)).cell? ⟨g,0,none⟩=some (.map (some bs)):=(World.cell?_alloc_lt w _ _ lt).trans hg;clear hg hs hp;unfold rV at HX k0 B0;cases b
 all_goals
  go_enter Tryz.func27,Tryz.ntmps27;go_wp2_with (go_at_call 28;refine HX.out.mono ?_;rintro e w2 ⟨rfl,aF⟩;have X2:=Hd (U0 (Uc B0.out) aF (Nat.le_of_succ_le (Vn B0.out)));clear aF);go_ret;exact ⟨rfl,X2.out⟩
theorem ridx_none (A:Option Addr) (c:Nat) (f:Value) (w:Wd):Calls prog 26 #[.slice A 0 c,f] w fun e w'=>e = .returned (.int .i64 (-1))∧w=w':=by
 go_enter Tryz.func26,Tryz.ntmps26;go_wp2;refine Lu 1 ?_;rw [Rs];go_wp2;go_ret;exact ⟨rfl,rfl⟩
theorem ridx_one (b:Bool) (ap:Int) (A:Option Addr) (n c bs g gr cc:Nat) (w:Wd) (hg:w.cell? ⟨g,0,none⟩=some (.map (some bs))) (hs:St w bs (kV ap A n c)) (hp:PR b w A n c) (hr:w.rangeAt gr 0 rV):
  Calls prog 26 #[.slice (some ⟨gr,0,none⟩) 1 cc,.func (.func 27) #[] #[.pointer (some ⟨g,0,none⟩)]] w fun e w'=>e = .returned (.int .i64 (if b then 0 else -1))∧Below w.heap.size w w':=by
 have HR:=Hd hr;have HC:=Hd (c11_any b ap A n c bs g w hg hs hp);clear hr hg hs hp;cases b with
 |true=>
  go_enter Tryz.func26,Tryz.ntmps26;go_wp2;refine Lu 1 ?_;rw [Rs];go_wp2_with (first|((with_reducible refine Gl 49 14 ?_);refine Ln 49 gr 0 rV HR.out Tryz.underlying49 ?_)|(go_at_call 27;refine HC.out.mono ?_;rintro e w2 ⟨rfl,hb⟩;have HB:=Hd hb;clear hb));go_ret;exact ⟨rfl,HB.out⟩
 |false=>
  go_enter Tryz.func26,Tryz.ntmps26;go_wp2;refine Lu 2 ?_;rw [Rs];go_wp2_with (first|((with_reducible refine Gl 49 14 ?_);refine Ln 49 gr 0 rV HR.out Tryz.underlying49 ?_)|(go_at_call 27;refine HC.out.mono ?_;rintro e w2 ⟨rfl,hb⟩;have HB:=Hd hb;clear hb));rw [Rs];go_wp2;go_ret;exact ⟨rfl,HB.out⟩
theorem chk_none (bs:Nat) (i x y:Int) (cA:Option Addr) (cn cc:Nat) (f1 f2:Value) (w:Wd):
  Calls prog 25 #[.map (some bs),.int .i64 i,.agg #[.int .i64 x,.int .i64 y,.slice none 0 0,.slice cA cn cc],f1,f2] w fun e w'=>e = .returned (.bool true)∧Below w.heap.size w w':=by
 have k1:((w.alloc (.cells #[.map (some bs)] 65)).alloc (.cells #[.int .i64 x,.int .i64 y,.slice none 0 0,.slice cA cn cc] 34)).cell? ⟨w.heap.size+1,2,none⟩=some (.slice none 0 0):=(U3 (w.alloc (.cells #[.map (some bs)] 65)) 34 #[.int .i64 x,.int .i64 y,.slice none 0 0,.slice cA cn cc] (w.heap.size+1) (by simp)).cell 2;go_enter Tryz.func25,Tryz.ntmps25;go_wp2_with (go_at_call 26;refine (ridx_none _ _ _ _).mono ?_;rintro e w2 ⟨rfl,rfl⟩);go_ret;exact ⟨rfl,((Bf _ _).alloc (Le _) _).alloc (by simp) _⟩
def chkW (b:Bool) (u r:Nat) (i:Int) (W:Wd):Wd:=if b then (W.setCell ⟨u,0,none⟩ (.int .i64 i)).setCell ⟨r,0,none⟩ (.int .i64 0) else W
theorem chk_read (b:Bool) (ap:Int) (A:Option Addr) (n c bs gr u r:Nat) (i x y u0 r0:Int) (w:Wd) (hu:Blk w u 3 #[.int .i64 u0]) (hr0:Blk w r 3 #[.int .i64 r0]) (aZ:u≠r) (hs:St w bs (kV ap A n c)) (hp:PR b w A n c) (hg:gr<w.heap.size) (hr:w.rangeAt gr 0 rV):
  Calls prog 25 #[.map (some bs),.int .i64 i,.agg #[.int .i64 x,.int .i64 y,.slice (some ⟨gr,0,none⟩) 1 1,.slice none 0 0],.pointer (some ⟨u,0,none⟩),.pointer (some ⟨r,0,none⟩)] w fun e w'=>e = .returned (.bool (!b))∧∃ W,Below w.heap.size w W∧w'=chkW b u r i W:=by
 have k1:((w.alloc (.cells #[.map (some bs)] 65)).alloc (.cells #[.int .i64 x,.int .i64 y,.slice (some ⟨gr,0,none⟩) 1 1,.slice none 0 0] 34)).cell? ⟨w.heap.size+1,2,none⟩=some (.slice (some ⟨gr,0,none⟩) 1 1):=(U3 (w.alloc (.cells #[.map (some bs)] 65)) 34 #[.int .i64 x,.int .i64 y,.slice (some ⟨gr,0,none⟩) 1 1,.slice none 0 0] (w.heap.size+1) (by simp)).cell 2;have bT:Below w.heap.size w ((w.alloc (.cells #[.map (some bs)] 65)).alloc (.cells #[.int .i64 x,.int .i64 y,.slice (some ⟨gr,0,none⟩) 1 1,.slice none 0 0] 34)):=((Bf _ _).alloc (Le _) _).alloc (by simp) _;have eM:=Hd bT
 have HI:=Hd (ridx_one b ap A n c bs w.heap.size gr 1 ((w.alloc (.cells #[.map (some bs)] 65)).alloc (.cells #[.int .i64 x,.int .i64 y,.slice (some ⟨gr,0,none⟩) 1 1,.slice none 0 0] 34)) (((Blk.new w 65 #[.map (some bs)]).alloc _).cell 0) ((hs.alloc _).alloc _) (hp.below bT) (Ua hr bT hg));have HU:=Hd hu;have gL:=Hd hr0;have eY:=Hd aZ;clear hs hp hr hg bT hu hr0 aZ;cases b with
 |false=>
  go_enter Tryz.func25,Tryz.ntmps25;go_wp2_with (go_at_call 26;refine HI.out.mono ?_;rintro e w2 ⟨rfl,hb⟩;have HB:=Hd (U0 eM.out hb eM.out.size);clear hb);go_ret;exact ⟨rfl,_,HB.out,rfl⟩
 |true=>
  go_enter Tryz.func25,Tryz.ntmps25;go_wp2_with (go_at_call 26;refine HI.out.mono ?_;rintro e w2 ⟨rfl,hb⟩;have HB:=Hd (U0 eM.out hb eM.out.size);clear hb;have c1:=(HU.out.below HB.out HU.out.lt).cell 0;have f1:=(HU.out.below HB.out HU.out.lt).free 0;have c2:=((gL.out.below HB.out gL.out.lt).far (p:=⟨u,0,none⟩) eY.out.symm (.int .i64 i)).cell 0;have f2:=((gL.out.below HB.out gL.out.lt).far (p:=⟨u,0,none⟩) eY.out.symm (.int .i64 i)).free 0;simp at c1 c2);go_ret;exact ⟨rfl,_,HB.out,rfl⟩
def Zi (gc:Nat):Com:=⟨9,5,none,0,0,some ⟨gc,0,none⟩,1,1,[],[⟨0,200,⟨#[107]⟩,⟨#[107,49]⟩,⟨#[]⟩⟩]⟩
def Xk (gr:Nat) (k:Int):Com:=⟨8,k,some ⟨gr,0,none⟩,1,1,none,0,0,[⟨0,200,⟨#[107]⟩,⟨#[]⟩,⟨#[]⟩,6⟩],[]⟩
theorem ord5 (gc gr:Nat):Yq [Zi gc,Xk gr 5]=some [Xk gr 5,Zi gc]:=by kernel_rfl
theorem ord6 (gc gr:Nat):Yq [Zi gc,Xk gr 6]=some [Zi gc,Xk gr 6]:=by kernel_rfl
theorem Gy (gc gr:Nat) (k:Int):∀ x∈[Zi gc,Xk gr k],VolsOk x:=by
 intro x hx;simp at hx;rcases hx with rfl|rfl
 ·intro c hc;simp [Zi] at hc;subst hc;exact Z0 _
 ·intro c hc;simp [Xk] at hc
theorem sl_one {α:Type} {f:α→List Value} {k:Nat} {w:Wd} {B g c:Nat} {x:α} (h:Sl f k w B (some ⟨g,0,none⟩) 1 c [x]):g<B∧w.rangeAt g 0 (f x):=by
 obtain ⟨b,o,e,hb,hc⟩:=h.2.2.2 (by decide);injection e with e
 injection e with e1 e2 _
 subst e1 e2;refine ⟨hb,fun j v hv=>hc j v (by rw [Va];exact hv)⟩
theorem sl_two {α:Type} {f:α→List Value} {k:Nat} (hk:∀ x,(f x).length=k) {w:Wd} {B n c:Nat} {A:Option Addr} {x y:α} (h:Sl f k w B A n c [x,y]):n=2∧∃ b o,A=some ⟨b,o,none⟩∧b<B∧w.rangeAt b o (f x)∧w.rangeAt b (o+k) (f y):=by
 have hn:n=2:=h.len.symm;subst hn;obtain ⟨b,o,e,hb,hc⟩:=h.2.2.2 (by decide);refine ⟨rfl,b,o,e,hb,fun j v hv=>hc j v ?_,fun j v hv=>?_⟩
 ·have hj:j<k:=by have:=(List.getElem?_eq_some_iff.1 hv).1;rwa [hk] at this
  have:=Xn hk [x,y] 0 x rfl j hj;rw [Nat.zero_mul,Nat.zero_add] at this;rw [this];exact hv
 ·have hj:j<k:=by have:=(List.getElem?_eq_some_iff.1 hv).1;rwa [hk] at this
  have:=Xn hk [x,y] 1 y rfl j hj;rw [Nat.one_mul] at this;rw [Nat.add_assoc];exact hc _ v (by rw [this];exact hv)
structure PI (w:Wd) (bs b o gc gr u r:Nat) (x y:Com) (v:List Value) (W:Wd):Prop where
 st:St W bs v
 r0:W.rangeAt b o (U7 x)
 r1:W.rangeAt b (o+4) (U7 y)
 rc:W.rangeAt gc 0 cV
 rr:W.rangeAt gr 0 rV
 bu:Blk W u 3 #[.int .i64 (-1)]
 br:Blk W r 3 #[.int .i64 (-1)]
 l1:b<bs
 lc:gc<bs
 lr:gr<bs
 lu:u<bs
 lr':r<bs
 lw:w.heap.size≤bs
 be:Below w.heap.size w W
section
variable {w W W':Wd} {bs b o gc gr u r:Nat} {x y:Com} {v:List Value}
theorem PI.next (h:PI w bs b o gc gr u r x y v W) (hb:Below W.heap.size W W'):PI w bs b o gc gr u r x y v W':=
 have hl:=h.st.lt
 ⟨h.st.below hb hl,Ua h.r0 hb (Nat.lt_trans h.l1 hl),Ua h.r1 hb (Nat.lt_trans h.l1 hl),Ua h.rc hb (Nat.lt_trans h.lc hl),Ua h.rr hb (Nat.lt_trans h.lr hl),h.bu.below hb (Nat.lt_trans h.lu hl),h.br.below hb (Nat.lt_trans h.lr' hl),h.l1,h.lc,h.lr,h.lu,h.lr',h.lw,U0 h.be hb (Nat.le_of_lt (Nat.lt_of_le_of_lt h.lw hl))⟩
theorem PI.alloc (h:PI w bs b o gc gr u r x y v W) (ob:Obj):PI w bs b o gc gr u r x y v (W.alloc ob):=h.next ((Bf _ _).alloc (Le _) _)
theorem PI.put {v':List Value} (h:PI w bs b o gc gr u r x y v W) (hb:Below bs W W') (hs:St W' bs v'):PI w bs b o gc gr u r x y v' W':=
 ⟨hs,Ua h.r0 hb h.l1,Ua h.r1 hb h.l1,Ua h.rc hb h.lc,Ua h.rr hb h.lr,h.bu.below hb h.lu,h.br.below hb h.lr',h.l1,h.lc,h.lr,h.lu,h.lr',h.lw,h.be.trans (hb.mono h.lw)⟩
theorem PI.start {w1 W:Wd} {gc gr:Nat} {A:Option Addr} {n c:Nat} (cL:Cs w1 w1.heap.size A n c [x,y]) (aJ:Below w.heap.size w w1) (hs:St W w1.heap.size v) (aF:Below w1.heap.size w1 W) (hc:gc<w.heap.size) (hcr:w.rangeAt gc 0 cV) (hr:gr<w.heap.size) (cB:w.rangeAt gr 0 rV)
  (hu:Blk w u 3 #[.int .i64 (-1)]) (hr0:Blk w r 3 #[.int .i64 (-1)]):
  n=2∧∃ b o,A=some ⟨b,o,none⟩∧PI w w1.heap.size b o gc gr u r x y v W:=by
 obtain ⟨hn,b,o,hA,m9,h0,h1⟩:=sl_two V2 cL.1;have hz:=aJ.size;have eL:=aJ.trans (aF.mono hz);exact ⟨hn,b,o,hA,hs,Ua h0 aF m9,Ua h1 aF m9,Ua hcr eL hc,Ua cB eL hr,hu.below eL hu.lt,hr0.below eL hr0.lt,m9,Nat.lt_of_lt_of_le hc hz,Nat.lt_of_lt_of_le hr hz,Nat.lt_of_lt_of_le hu.lt hz,Nat.lt_of_lt_of_le hr0.lt hz,hz,eL⟩
end
theorem ord_get {l s:List Com} {w w':Wd} {e:Ending} (h:OrdP (Yq l) w e w') (hl:Yq l=some s):OrdYes w s e w':=by
 rcases h with ⟨h,_⟩|⟨s',h,hy⟩
 ·rw [hl] at h;cases h
 ·rw [hl] at h;cases h;exact hy
def PlayP (b:Bool) (u r:Nat) (w:Wd) (e:Ending) (w':Wd):Prop:=∃ v W,e = .returned (.tuple #[v,.int .i64 0])∧Below w.heap.size w W∧w'=chkW b u r 1 W
theorem chk_no (ap:Int) (A:Option Addr) (n c bs gr u r:Nat) (i x y u0 r0:Int) (w:Wd) (hu:Blk w u 3 #[.int .i64 u0]) (hr0:Blk w r 3 #[.int .i64 r0]) (aZ:u≠r) (hs:St w bs (kV ap A n c)) (hp:PR false w A n c) (hg:gr<w.heap.size) (hr:w.rangeAt gr 0 rV):
  Calls prog 25 #[.map (some bs),.int .i64 i,.agg #[.int .i64 x,.int .i64 y,.slice (some ⟨gr,0,none⟩) 1 1,.slice none 0 0],.pointer (some ⟨u,0,none⟩),.pointer (some ⟨r,0,none⟩)] w fun e w'=>e = .returned (.bool true)∧Below w.heap.size w w':=
 (chk_read false ap A n c bs gr u r i x y u0 r0 w hu hr0 aZ hs hp hg hr).mono fun _ _ ⟨h,_,hb,hw⟩=>⟨h,hw▸hb⟩
theorem chk_yes (ap:Int) (A:Option Addr) (n c bs gr u r:Nat) (i x y u0 r0:Int) (w:Wd) (hu:Blk w u 3 #[.int .i64 u0]) (hr0:Blk w r 3 #[.int .i64 r0]) (aZ:u≠r) (hs:St w bs (kV ap A n c)) (hp:PR true w A n c) (hg:gr<w.heap.size) (hr:w.rangeAt gr 0 rV):
  Calls prog 25 #[.map (some bs),.int .i64 i,.agg #[.int .i64 x,.int .i64 y,.slice (some ⟨gr,0,none⟩) 1 1,.slice none 0 0],.pointer (some ⟨u,0,none⟩),.pointer (some ⟨r,0,none⟩)] w fun e w'=>e = .returned (.bool false)∧∃ W,Below w.heap.size w W∧w'=(W.setCell ⟨u,0,none⟩ (.int .i64 i)).setCell ⟨r,0,none⟩ (.int .i64 0):=
 chk_read true ap A n c bs gr u r i x y u0 r0 w hu hr0 aZ hs hp hg hr
theorem play_5 (g gc gr u r c:Nat) (A:Option Addr) (w:Wd) (hg:g<w.heap.size) (aO:w.rangeAt g 0 (aV 200)) (hs:Cs w w.heap.size A 2 c [Zi gc,Xk gr 5]) (hu:Blk w u 3 #[.int .i64 (-1)]) (hr:Blk w r 3 #[.int .i64 (-1)]) (aZ:u≠r):
  Calls prog 20 #[.slice (some ⟨g,0,none⟩) 1 1,.slice A 2 c,.func (.func 25) #[] #[.pointer (some ⟨u,0,none⟩),.pointer (some ⟨r,0,none⟩)]] w (PlayP false u r w):=by
 have HO:=Hd (Z6 A 2 c _ w hs (Gy gc gr 5) (by decide));obtain ⟨eQ,hcr⟩:=sl_one (hs.2 (Zi gc) (by simp)).2.1;obtain ⟨hgr1,cB⟩:=sl_one (hs.2 (Xk gr 5) (by simp)).1;have HG:=Hd hg;have bQ:=Hd aO;have cH:=Hd fun w1 W A' n c' cL aJ hst aF=>PI.start (v:=aV 200) (w:=w) (w1:=w1) (W:=W) (A:=A') (n:=n) (c:=c') (x:=(Xk gr 5)) (y:=(Zi gc)) cL aJ hst aF eQ hcr hgr1 cB hu hr
 have eY:=Hd aZ;clear hs eQ hcr hgr1 cB hg aO hu hr aZ;go_enter Tryz.func20,Tryz.ntmps20;go_wp2_with (first|(go_at_call 16;refine HO.out.mono ?_;intro e w1 hp;obtain ⟨A',c',rfl,cL,aJ⟩:=ord_get hp (ord5 gc gr);have fY:=Hd cL;have aQ:=Hd aJ;clear hp cL aJ)|(go_at_call 47;refine (begin_a g w1 (Nat.lt_of_lt_of_le HG.out aQ.out.size) (Ua bQ.out aQ.out HG.out)).mono ?_;rintro e w2 ⟨rfl,hst,aF⟩;obtain ⟨_,b,o,rfl,hpi⟩:=cH.out _ _ _ _ _ fY.out aQ.out hst aF;have HPI:=Hd hpi;clear hst aF hpi));refine Lu 3 ?_;rw [Rs]
 go_wp2_with (first|((with_reducible refine Gl 34 36 ?_);refine Ln 34 b o [.int .i64 8,.int .i64 5,.slice (some ⟨gr,0,none⟩) 1 1,.slice none 0 0] HPI.out.r0 Tryz.underlying34 ?_)|(go_at_call 25;refine (chk_no 4 none 0 0 w1.heap.size gr u r 0 8 5 (-1) (-1) _ (HPI.out.alloc _).bu (HPI.out.alloc _).br eY.out (HPI.out.alloc _).st ⟨rfl,rfl,rfl⟩ (Nat.lt_trans HPI.out.lr (HPI.out.alloc _).st.lt) (HPI.out.alloc _).rr).mono ?_;rintro e w3 ⟨rfl,hb⟩;have jM:=Hd ((HPI.out.alloc _).next hb);have kb:=(Blk.new w2 34 #[.int .i64 8,.int .i64 5,.slice (some ⟨gr,0,none⟩) 1 1,.slice none 0 0]).below hb (by simp);have d0:=kb.cell 0;have d1:=kb.cell 1;have d2:=kb.cell 2;have d3:=kb.cell 3;simp at d0 d1 d2 d3;clear hb kb)|(go_at_call 48;refine (after_none w1.heap.size 8 5 _ _ _ _).mono ?_;rintro e w4 ⟨rfl,hb⟩;have eT:=Hd (jM.out.next hb);clear hb d0 d1 d2 d3))
 rw [Rs];go_wp2_with (first|((with_reducible refine Gl 34 36 ?_);refine Ln 34 b (o+4) [.int .i64 9,.int .i64 5,.slice none 0 0,.slice (some ⟨gc,0,none⟩) 1 1] eT.out.r1 Tryz.underlying34 ?_)|(go_at_call 25;refine (chk_none w1.heap.size 1 9 5 _ _ _ _ _ _).mono ?_;rintro e w5 ⟨rfl,hb⟩;have j3:=Hd ((eT.out.alloc _).next hb);have kb:=(Blk.new w4 34 #[.int .i64 9,.int .i64 5,.slice none 0 0,.slice (some ⟨gc,0,none⟩) 1 1]).below hb (by simp);have d0:=kb.cell 0;have d1:=kb.cell 1;have d2:=kb.cell 2;have d3:=kb.cell 3;simp at d0 d1 d2 d3;clear hb kb)|(go_at_call 48;refine (after_put w1.heap.size gc 1 w5 j3.out.st (Nat.lt_trans j3.out.lc j3.out.st.lt) j3.out.rc).mono ?_;rintro e w6 ⟨g',c6,rfl,hst,aD,hb⟩;have HPI6:=Hd (j3.out.put hb hst);clear hb hst aD d0 d1 d2 d3));rw [Rs];go_wp2
 go_ret2
 exact ⟨_,_,rfl,HPI6.out.be,rfl⟩
theorem play_6 (g gc gr u r c:Nat) (A:Option Addr) (w:Wd) (hg:g<w.heap.size) (aO:w.rangeAt g 0 (aV 200)) (hs:Cs w w.heap.size A 2 c [Zi gc,Xk gr 6]) (hu:Blk w u 3 #[.int .i64 (-1)]) (hr:Blk w r 3 #[.int .i64 (-1)]) (aZ:u≠r):
  Calls prog 20 #[.slice (some ⟨g,0,none⟩) 1 1,.slice A 2 c,.func (.func 25) #[] #[.pointer (some ⟨u,0,none⟩),.pointer (some ⟨r,0,none⟩)]] w (PlayP true u r w):=by
 have HO:=Hd (Z6 A 2 c _ w hs (Gy gc gr 6) (by decide));obtain ⟨eQ,hcr⟩:=sl_one (hs.2 (Zi gc) (by simp)).2.1;obtain ⟨hgr1,cB⟩:=sl_one (hs.2 (Xk gr 6) (by simp)).1;have HG:=Hd hg;have bQ:=Hd aO;have cH:=Hd fun w1 W A' n c' cL aJ hst aF=>PI.start (v:=aV 200) (w:=w) (w1:=w1) (W:=W) (A:=A') (n:=n) (c:=c') (x:=(Zi gc)) (y:=(Xk gr 6)) cL aJ hst aF eQ hcr hgr1 cB hu hr
 have eY:=Hd aZ;clear hs eQ hcr hgr1 cB hg aO hu hr aZ;go_enter Tryz.func20,Tryz.ntmps20;go_wp2_with (first|(go_at_call 16;refine HO.out.mono ?_;intro e w1 hp;obtain ⟨A',c',rfl,cL,aJ⟩:=ord_get hp (ord6 gc gr);have fY:=Hd cL;have aQ:=Hd aJ;clear hp cL aJ)|(go_at_call 47;refine (begin_a g w1 (Nat.lt_of_lt_of_le HG.out aQ.out.size) (Ua bQ.out aQ.out HG.out)).mono ?_;rintro e w2 ⟨rfl,hst,aF⟩;obtain ⟨_,b,o,rfl,hpi⟩:=cH.out _ _ _ _ _ fY.out aQ.out hst aF;have HPI:=Hd hpi;clear hst aF hpi));refine Lu 3 ?_;rw [Rs]
 go_wp2_with (first|((with_reducible refine Gl 34 36 ?_);refine Ln 34 b o [.int .i64 9,.int .i64 5,.slice none 0 0,.slice (some ⟨gc,0,none⟩) 1 1] HPI.out.r0 Tryz.underlying34 ?_)|(go_at_call 25;refine (chk_none w1.heap.size 0 9 5 _ _ _ _ _ _).mono ?_;rintro e w3 ⟨rfl,hb⟩;have jM:=Hd ((HPI.out.alloc _).next hb);have kb:=(Blk.new w2 34 #[.int .i64 9,.int .i64 5,.slice none 0 0,.slice (some ⟨gc,0,none⟩) 1 1]).below hb (by simp);have d0:=kb.cell 0;have d1:=kb.cell 1;have d2:=kb.cell 2;have d3:=kb.cell 3;simp at d0 d1 d2 d3;clear hb kb)|(go_at_call 48;refine (after_put w1.heap.size gc 1 w3 jM.out.st (Nat.lt_trans jM.out.lc jM.out.st.lt) jM.out.rc).mono ?_;rintro e w4 ⟨g',c6,rfl,hst,aD,hb⟩;have eT:=Hd (jM.out.put hb hst);have HPR:=Hd (PR.of_own aD);clear hb hst aD d0 d1 d2 d3));rw [Rs]
 go_wp2_with (first|((with_reducible refine Gl 34 36 ?_);refine Ln 34 b (o+4) [.int .i64 8,.int .i64 6,.slice (some ⟨gr,0,none⟩) 1 1,.slice none 0 0] eT.out.r1 Tryz.underlying34 ?_)|(go_at_call 25;refine (chk_yes 5 (some ⟨g',0,none⟩) 1 c6 w1.heap.size gr u r 1 8 6 (-1) (-1) _ (eT.out.alloc _).bu (eT.out.alloc _).br eY.out (eT.out.alloc _).st (HPR.out.below ((Bf _ _).alloc (Le _) _)) (Nat.lt_trans eT.out.lr (eT.out.alloc _).st.lt) (eT.out.alloc _).rr).mono ?_;rintro e w5 ⟨rfl,W,hb,rfl⟩;have j3:=Hd ((eT.out.alloc _).next hb);clear hb))
 go_ret2
 exact ⟨_,W,rfl,j3.out.be,rfl⟩
def cW (w:Wd):Wd:=(w.alloc (.cells #[.int .i64 (-1)] 3)).alloc (.cells #[.int .i64 (-1)] 3)
theorem Vj (w:Wd):Below w.heap.size w (cW w):=((Bf _ _).alloc (Le _) _).alloc (by simp) _
theorem cW_u (w:Wd):Blk (cW w) w.heap.size 3 #[.int .i64 (-1)]:=(Blk.new w 3 _).alloc _
theorem cW_r (w:Wd):Blk (cW w) (w.heap.size+1) 3 #[.int .i64 (-1)]:=U3 (w.alloc (.cells #[.int .i64 (-1)] 3)) 3 _ _ (by simp)
def CheckP (b:Bool) (w:Wd) (e:Ending) (w':Wd):Prop:=e = .returned (.tuple #[.int .i64 (if b then 1 else -1),.int .i64 (if b then 0 else -1),.int .i64 0])∧Below w.heap.size w w'
theorem play_end (b:Bool) (w:Wd) (e:Ending) (w':Wd) (h:PlayP b w.heap.size (w.heap.size+1) (cW w) e w'):
  ∃ v,e = .returned (.tuple #[v,.int .i64 0])∧w'.cell? ⟨w.heap.size,0,none⟩=some (.int .i64 (if b then 1 else -1))∧w'.cell? ⟨w.heap.size+1,0,none⟩=some (.int .i64 (if b then 0 else -1))∧Below w.heap.size w w':=by
 obtain ⟨v,W,rfl,hb,rfl⟩:=h;have hu:=(cW_u w).below hb (cW_u w).lt;have hr:=(cW_r w).below hb (cW_r w).lt;have hz:w.heap.size≤(cW w).heap.size:=(Vj w).size;have eL:=U0 (Vj w) hb hz;cases b with
 |false=>exact ⟨v,rfl,hu.cell 0,hr.cell 0,eL⟩
 |true=>
  refine ⟨v,rfl,?_,?_,?_⟩
  ·exact ((hu.set 0 (.int .i64 1)).far (p:=⟨w.heap.size+1,0,none⟩) (by simp) _).cell 0
  ·exact ((hr.far (p:=⟨w.heap.size,0,none⟩) (by simp) _).set 0 (.int .i64 0)).cell 0
  ·exact (eL.setCell (Le _) _).setCell (by simp) _
theorem check_of (b:Bool) (g:Nat) (A:Option Addr) (c:Nat) (w:Wd)
  (hp:Calls prog 20 #[.slice (some ⟨g,0,none⟩) 1 1,.slice A 2 c,.func (.func 25) #[] #[.pointer (some ⟨w.heap.size,0,none⟩),.pointer (some ⟨w.heap.size+1,0,none⟩)]] (cW w) (PlayP b w.heap.size (w.heap.size+1) (cW w))):
  Calls prog 10 #[.slice (some ⟨g,0,none⟩) 1 1,.slice A 2 c] w (CheckP b w):=by
 have HP:=Hd hp;clear hp;unfold cW at HP;cases b
 all_goals
  go_enter Tryz.func10,Tryz.ntmps10;go_wp2_with (go_at_call 20;refine HP.out.mono ?_;intro e w3 hq;obtain ⟨v,rfl,c1,c2,hb⟩:=play_end _ w _ _ hq;have HB:=Hd hb;clear hq hb;simp at c1 c2)
  go_quiet (fail)
  go_wp2
  go_ret3
  exact ⟨rfl,Uf HB.out _⟩
theorem check_5 (g gc gr:Nat) (A:Option Addr) (c:Nat) (w:Wd) (hg:g<w.heap.size) (aO:w.rangeAt g 0 (aV 200)) (hs:Cs w w.heap.size A 2 c [Zi gc,Xk gr 5]):
  Calls prog 10 #[.slice (some ⟨g,0,none⟩) 1 1,.slice A 2 c] w (CheckP false w):=
 check_of false g A c w (play_5 g gc gr _ _ c A (cW w) (Nat.lt_of_lt_of_le hg (Vj w).size) (Ua aO (Vj w) hg) (hs.after (Vj w) (Vj w).size) (cW_u w) (cW_r w) (by omega))
theorem check_6 (g gc gr:Nat) (A:Option Addr) (c:Nat) (w:Wd) (hg:g<w.heap.size) (aO:w.rangeAt g 0 (aV 200)) (hs:Cs w w.heap.size A 2 c [Zi gc,Xk gr 6]):
  Calls prog 10 #[.slice (some ⟨g,0,none⟩) 1 1,.slice A 2 c] w (CheckP true w):=
 check_of true g A c w (play_6 g gc gr _ _ c A (cW w) (Nat.lt_of_lt_of_le hg (Vj w).size) (Ua aO (Vj w) hg) (hs.after (Vj w) (Vj w).size) (cW_u w) (cW_r w) (by omega))
theorem conf_ex (gc gr:Nat):V3 (Xr [Zi gc,Xk gr 6]) (Xr [Zi gc,Xk gr 6]).length = [(0,1)]:=by kernel_rfl
theorem sm_ex (gc gr:Nat) (k:Int):∀ x∈[Zi gc,Xk gr k],SmP x:=by
 intro x hx;simp at hx;rcases hx with rfl|rfl<;>exact ⟨by simp [Zi,Xk],by simp [Zi,Xk]⟩
structure AWM (w W:Wd) (k:Int):Prop where
 b0:Blk W w.heap.size 30 (aV 200).toArray
 b1:Blk W (w.heap.size+1) 58 cV.toArray
 b2:Blk W (w.heap.size+1+1) 34 #[.int .i64 9,.int .i64 5,.slice none 0 0,.slice (some ⟨w.heap.size+1,0,none⟩) 1 1]
 b3:Blk W (w.heap.size+1+1+1) 49 rV.toArray
 b4:Blk W (w.heap.size+1+1+1+1) 34 #[.int .i64 8,.int .i64 k,.slice (some ⟨w.heap.size+1+1+1,0,none⟩) 1 1,.slice none 0 0]
 sz:w.heap.size+5≤W.heap.size
 be:Below w.heap.size w W
section
variable {w W W':Wd} {k:Int}
theorem AWM.next (h:AWM w W k) (hb:Below W.heap.size W W'):AWM w W' k:=
 have hz:=h.sz
 ⟨h.b0.below hb (by omega),h.b1.below hb (by omega),h.b2.below hb (by omega),h.b3.below hb (by omega),h.b4.below hb (by omega),Lx hz hb.size,U0 h.be hb (by omega)⟩
theorem AWM.alloc (h:AWM w W k) (o:Obj):AWM w (W.alloc o) k:=h.next ((Bf _ _).alloc (Le _) _)
theorem AWM.start (w:Wd):AWM w (((((w.alloc (.cells (aV 200).toArray 30)).alloc (.cells cV.toArray 58)).alloc (.cells #[.int .i64 9,.int .i64 5,.slice none 0 0,.slice (some ⟨w.heap.size+1,0,none⟩) 1 1] 34)).alloc (.cells rV.toArray 49)).alloc (.cells #[.int .i64 8,.int .i64 5,.slice (some ⟨w.heap.size+1+1+1,0,none⟩) 1 1,.slice none 0 0] 34)) 5:=
 ⟨((((Blk.new w _ _).alloc _).alloc _).alloc _).alloc _,(((U3 (w.alloc _) _ _ (w.heap.size+1) (by simp)).alloc _).alloc _).alloc _,((U3 ((w.alloc _).alloc _) _ _ (w.heap.size+1+1) (by simp)).alloc _).alloc _,(U3 (((w.alloc _).alloc _).alloc _) _ _ (w.heap.size+1+1+1) (by simp)).alloc _,U3 ((((w.alloc _).alloc _).alloc _).alloc _) _ _ (w.heap.size+1+1+1+1) (by simp),by simp,
  (((((Bf _ _).alloc (Le _) _).alloc (by simp) _).alloc (by simp;omega) _).alloc (by simp;omega) _).alloc (by simp;omega) _⟩
theorem AWM.set (h:AWM w W k) (k':Int):AWM w (W.setCell ⟨w.heap.size+1+1+1+1,1,none⟩ (.int .i64 k')) k':=
 ⟨h.b0.far (by simp<;>omega) _,h.b1.far (by simp<;>omega) _,h.b2.far (by simp<;>omega) _,h.b3.far (by simp<;>omega) _,h.b4.set 1 _,by simpa using h.sz,h.be.setCell (by simp<;>omega) _⟩
theorem AWM.units (h:AWM w W k):Cs (W.alloc (.cells #[.int .i64 9,.int .i64 5,.slice none 0 0,.slice (some ⟨w.heap.size+1,0,none⟩) 1 1,.int .i64 8,.int .i64 k,.slice (some ⟨w.heap.size+1+1+1,0,none⟩) 1 1,.slice none 0 0] 34))
  (W.alloc (.cells #[.int .i64 9,.int .i64 5,.slice none 0 0,.slice (some ⟨w.heap.size+1,0,none⟩) 1 1,.int .i64 8,.int .i64 k,.slice (some ⟨w.heap.size+1+1+1,0,none⟩) 1 1,.slice none 0 0] 34)).heap.size (some ⟨W.heap.size,0,none⟩) 2 2 [Zi (w.heap.size+1),Xk (w.heap.size+1+1+1) k]:=by
 have hz:=h.sz;refine ⟨?_,fun x hx=>?_⟩
 ·have:=Sl.new V2 W 34 [Zi (w.heap.size+1),Xk (w.heap.size+1+1+1) k];exact this.more (by simp)
 ·simp at hx;rcases hx with rfl|rfl
  ·refine ⟨Sl.nil,⟨Le _,rfl,rfl,fun _=>⟨w.heap.size+1,0,rfl,by simp;omega,fun j u hu=>?_⟩⟩,show (0:Nat)≤maxLen from Z0 _,show (1:Nat)≤maxLen by decide⟩;exact (h.b1.alloc _).range 0 _ (fun j v hv=>by rw [Ga,Nat.zero_add];exact hv) j u hu
  ·refine ⟨⟨Le _,rfl,rfl,fun _=>⟨w.heap.size+1+1+1,0,rfl,by simp;omega,fun j u hu=>?_⟩⟩,Sl.nil,show (1:Nat)≤maxLen by decide,show (0:Nat)≤maxLen from Z0 _⟩;exact (h.b3.alloc _).range 0 _ (fun j v hv=>by rw [Ga,Nat.zero_add];exact hv) j u hu
theorem chk5 (h:AWM w W 5):Calls prog 10 #[.slice (some ⟨W.heap.size,0,none⟩) 1 1,.slice (some ⟨W.heap.size+1,0,none⟩) 2 2] ((W.alloc (.cells (aV 200).toArray 30)).alloc (.cells #[.int .i64 9,.int .i64 5,.slice none 0 0,.slice (some ⟨w.heap.size+1,0,none⟩) 1 1,.int .i64 8,.int .i64 5,.slice (some ⟨w.heap.size+1+1+1,0,none⟩) 1 1,.slice none 0 0] 34)) fun e w'=>e = .returned (.tuple #[.int .i64 (-1),.int .i64 (-1),.int .i64 0])∧AWM w w' 5∧Below W.heap.size W w':=by
 have hz:(W.alloc (.cells (aV 200).toArray 30)).heap.size=W.heap.size+1:=by simp
 have hu:=(h.alloc (.cells (aV 200).toArray 30)).units;rw [hz] at hu;have bT:Below W.heap.size W ((W.alloc (.cells (aV 200).toArray 30)).alloc (.cells #[.int .i64 9,.int .i64 5,.slice none 0 0,.slice (some ⟨w.heap.size+1,0,none⟩) 1 1,.int .i64 8,.int .i64 5,.slice (some ⟨w.heap.size+1+1+1,0,none⟩) 1 1,.slice none 0 0] 34)):=((Bf _ _).alloc (Le _) _).alloc (by simp) _;refine (check_5 W.heap.size _ _ _ 2 _ (by simp;omega) (((Blk.new W 30 (aV 200).toArray).alloc _).range 0 _ fun j v hv=>by rw [Ga,Nat.zero_add];exact hv) hu).mono ?_;rintro e w' ⟨rfl,hb⟩;exact ⟨rfl,((h.alloc _).alloc _).next hb,U0 bT hb bT.size⟩
theorem chk6 (h:AWM w W 6):Calls prog 10 #[.slice (some ⟨W.heap.size,0,none⟩) 1 1,.slice (some ⟨W.heap.size+1,0,none⟩) 2 2] ((W.alloc (.cells (aV 200).toArray 30)).alloc (.cells #[.int .i64 9,.int .i64 5,.slice none 0 0,.slice (some ⟨w.heap.size+1,0,none⟩) 1 1,.int .i64 8,.int .i64 6,.slice (some ⟨w.heap.size+1+1+1,0,none⟩) 1 1,.slice none 0 0] 34)) fun e w'=>e = .returned (.tuple #[.int .i64 (1),.int .i64 (0),.int .i64 0])∧AWM w w' 6∧Below W.heap.size W w':=by
 have hz:(W.alloc (.cells (aV 200).toArray 30)).heap.size=W.heap.size+1:=by simp
 have hu:=(h.alloc (.cells (aV 200).toArray 30)).units;rw [hz] at hu;have bT:Below W.heap.size W ((W.alloc (.cells (aV 200).toArray 30)).alloc (.cells #[.int .i64 9,.int .i64 5,.slice none 0 0,.slice (some ⟨w.heap.size+1,0,none⟩) 1 1,.int .i64 8,.int .i64 6,.slice (some ⟨w.heap.size+1+1+1,0,none⟩) 1 1,.slice none 0 0] 34)):=((Bf _ _).alloc (Le _) _).alloc (by simp) _;refine (check_6 W.heap.size _ _ _ 2 _ (by simp;omega) (((Blk.new W 30 (aV 200).toArray).alloc _).range 0 _ fun j v hv=>by rw [Ga,Nat.zero_add];exact hv) hu).mono ?_;rintro e w' ⟨rfl,hb⟩;exact ⟨rfl,((h.alloc _).alloc _).next hb,U0 bT hb bT.size⟩
end
structure AZ (w:Wd) (b o:Nat) (W:Wd):Prop where
 lb:b<W.heap.size
 ne:b≠w.heap.size+1+1+1+1
 c:W.cell? ⟨b,o,none⟩=some (.int .i64 8)
theorem AZ.next {w W W':Wd} {b o:Nat} (h:AZ w b o W) (hb:Below W.heap.size W W'):AZ w b o W':=⟨Nat.lt_of_lt_of_le h.lb hb.size,h.ne,(hb.cell (p:=⟨b,o,none⟩) h.lb).trans h.c⟩
theorem AZ.alloc {w W:Wd} {b o:Nat} (h:AZ w b o W) (ob:Obj):AZ w b o (W.alloc ob):=h.next ((Bf _ _).alloc (Le _) _)
theorem AZ.set {w W:Wd} {b o:Nat} (h:AZ w b o W) (v:Value):AZ w b o (W.setCell ⟨w.heap.size+1+1+1+1,1,none⟩ v):=
 ⟨by simpa using h.lb,h.ne,(World.cell?_setCell_other W _ _ v (fun e=>by injection e with e _ _;exact h.ne e.symm)).trans h.c⟩
theorem AZ.start {w W:Wd} {k k':Int} {b o gc gr:Nat} (h:AWM w W k) (m9:b<W.heap.size) (h0:W.rangeAt b o (U7 (Xk gr k'))) (h1:W.rangeAt b (o+4) (U7 (Zi gc))):AZ w b o W:=by
 refine ⟨m9,fun e=>?_,h0 0 _ rfl⟩;subst e;have hc:=h1 0 _ rfl;rw [h.b4.cell] at hc;simp at hc
theorem sl_one' {W:Wd} {A:Option Addr} {n c:Nat} (h:Sl pC 2 W W.heap.size A n c [(0,1)]):∃ b o,A=some ⟨b,o,none⟩∧W.cell? ⟨b,o,none⟩=some (.int .i64 0)∧W.cell? ⟨b,o+1,none⟩=some (.int .i64 1):=by
 have hn:n=1:=h.len.symm;subst hn;obtain ⟨b,o,e,_,hc⟩:=h.2.2.2 (by decide);exact ⟨b,o,e,hc 0 _ rfl,hc 1 _ rfl⟩
theorem awake_any (w:Wd):Calls prog 6 #[] w fun e w'=>e = .returned (.bool true)∧Below w.heap.size w w':=by
 obtain ⟨i0,aU,aW,aK,aR⟩:=info_parts Eb;have cH:Hid (AWM w (((((w.alloc (.cells (aV 200).toArray 30)).alloc (.cells #[.int .i64 0,.int .i64 200,.string ⟨#[107]⟩,.string ⟨#[107,49]⟩,.string ⟨#[]⟩] 58)).alloc (.cells #[.int .i64 9,.int .i64 5,.slice none 0 0,.slice (some ⟨w.heap.size+1,0,none⟩) 1 1] 34)).alloc (.cells #[.int .i64 0,.int .i64 200,.string ⟨#[107]⟩,.string ⟨#[]⟩,.string ⟨#[]⟩,.int .i64 6] 49)).alloc (.cells #[.int .i64 8,.int .i64 5,.slice (some ⟨w.heap.size+1+1+1,0,none⟩) 1 1,.slice none 0 0] 34)) 5):=Hd (AWM.start w);have HA:=Hd (aV_one 200);have HB:=Hd fun old=>Blk.new w 30 old
 have dE:=Hd fun old=>U1 w old (aV 200).toArray 30
 go_enter Tryz.func6,Tryz.ntmps6
 go_upto_region 4 with (first|((with_reducible refine Gb 27 ?_);refine U2 (by kernel_rfl) 27 _ rfl (dV 200).toArray (by kernel_rfl) ?_)|((with_reducible refine Gb 30 ?_);refine U2 (by kernel_rfl) 30 _ rfl (aV 200).toArray (by kernel_rfl) ?_)|((with_reducible refine Gt 30 1 ?_);refine Lv 30 w.heap.size (aV 200).toArray (HB.out _) HA.out ?_;rw [dE.out]))
 obtain ⟨W,hW,hx⟩:∃ W,W=(((((w.alloc (.cells (aV 200).toArray 30)).alloc (.cells #[.int .i64 0,.int .i64 200,.string ⟨#[107]⟩,.string ⟨#[107,49]⟩,.string ⟨#[]⟩] 58)).alloc (.cells #[.int .i64 9,.int .i64 5,.slice none 0 0,.slice (some ⟨w.heap.size+1,0,none⟩) 1 1] 34)).alloc (.cells #[.int .i64 0,.int .i64 200,.string ⟨#[107]⟩,.string ⟨#[]⟩,.string ⟨#[]⟩,.int .i64 6] 49)).alloc (.cells #[.int .i64 8,.int .i64 5,.slice (some ⟨w.heap.size+1+1+1,0,none⟩) 1 1,.slice none 0 0] 34))∧AWM w W 5:=⟨_,rfl,cH.out⟩
 rw [←hW];have HW:=Hd hx;clear hW hx cH HB dE HA
 go_upto_region 5 with (first|((with_reducible refine Gl 34 2 ?_);refine Lq 34 (w.heap.size+1+1) _ (by first|exact HW.out.b2|exact (HW.out.alloc _).b2) Tryz.underlying34 ?_)|((with_reducible refine Gl 34 3 ?_);refine Lq 34 (w.heap.size+1+1+1+1) _ (by first|exact HW.out.b4|exact (HW.out.alloc _).b4) Tryz.underlying34 ?_)|(go_at_call 16;refine (Z6 _ 2 2 _ _ HW.out.units (Gy _ _ _) (by decide)).mono ?_;intro e w1 hp;obtain ⟨A1,c1,rfl,cL,aJ⟩:=ord_get hp (ord5 _ _);obtain ⟨_,b,o,rfl,m9,h0,h1⟩:=sl_two V2 cL.1;have jR:=Hd ((HW.out.alloc _).next aJ);clear HW;have HW:=jR;clear jR;have HZ:=Hd (AZ.start HW.out m9 h0 h1);clear hp cL aJ m9 h0 h1))
 go_upto_region 6 with (first|((with_reducible refine Gl 30 1 ?_);refine Lq 30 w.heap.size _ (by first|exact HW.out.b0|exact (HW.out.alloc _).b0) Tryz.underlying30 ?_)|((with_reducible refine Gc 22 ?_);refine wpList_buildSlice rfl 22 30 1 _ rfl (aV 200).toArray i0 (.agg zV.toArray) Tryz.underlying22 aU aW (by rw [aK];decide) (by rw [aK];decide) (by rw [aK];kernel_rfl) ?_)|((with_reducible refine Gl 34 2 ?_);refine Lq 34 (w.heap.size+1+1) _ (by first|exact HW.out.b2|exact (HW.out.alloc _).b2) Tryz.underlying34 ?_)|((with_reducible refine Gl 34 3 ?_);refine Lq 34 (w.heap.size+1+1+1+1) _ (by first|exact HW.out.b4|exact (HW.out.alloc _).b4) Tryz.underlying34 ?_)|(go_at_call 10;refine (chk5 HW.out).mono ?_;rintro e w2 ⟨rfl,hx,hb⟩;have jR:=Hd (hx);clear HW;have HW:=jR;clear jR;have HZn:=Hd (HZ.out.next hb);clear HZ;have HZ:=HZn;clear HZn;clear hx hb))
 have s1:=HW.out.b4.cell 1;have s2:=HW.out.b4.free 1;simp at s1
 go_upto_region 7 with (fail)
 obtain ⟨W3,hW3,hx,hb⟩:∃ W3,W3=w2.setCell ⟨w.heap.size+1+1+1+1,1,none⟩ (.int .i64 6)∧AWM w W3 6∧AZ w b o W3:=⟨_,rfl,HW.out.set 6,HZ.out.set _⟩
 rw [←hW3];have jR:=Hd (hx);clear HW;have HW:=jR;clear jR;have HZn:=Hd hb;clear HZ;have HZ:=HZn;clear HZn;clear hW3 hx hb s1 s2
 go_upto_region 8 with (first|((with_reducible refine Gl 30 1 ?_);refine Lq 30 w.heap.size _ (by first|exact HW.out.b0|exact (HW.out.alloc _).b0) Tryz.underlying30 ?_)|((with_reducible refine Gc 22 ?_);refine wpList_buildSlice rfl 22 30 1 _ rfl (aV 200).toArray i0 (.agg zV.toArray) Tryz.underlying22 aU aW (by rw [aK];decide) (by rw [aK];decide) (by rw [aK];kernel_rfl) ?_)|((with_reducible refine Gl 34 2 ?_);refine Lq 34 (w.heap.size+1+1) _ (by first|exact HW.out.b2|exact (HW.out.alloc _).b2) Tryz.underlying34 ?_)|((with_reducible refine Gl 34 3 ?_);refine Lq 34 (w.heap.size+1+1+1+1) _ (by first|exact HW.out.b4|exact (HW.out.alloc _).b4) Tryz.underlying34 ?_)|(go_at_call 10;refine (chk6 HW.out).mono ?_;rintro e w4 ⟨rfl,hx,hb⟩;have jR:=Hd (hx);clear HW;have HW:=jR;clear jR;have HZn:=Hd (HZ.out.next hb);clear HZ;have HZ:=HZn;clear HZn;clear hx hb))
 go_upto_region 9 with (first|((with_reducible refine Gl 34 2 ?_);refine Lq 34 (w.heap.size+1+1) _ (by first|exact HW.out.b2|exact (HW.out.alloc _).b2) Tryz.underlying34 ?_)|((with_reducible refine Gl 34 3 ?_);refine Lq 34 (w.heap.size+1+1+1+1) _ (by first|exact HW.out.b4|exact (HW.out.alloc _).b4) Tryz.underlying34 ?_)|(go_at_call 8;refine (hconf_any _ 2 2 _ _ HW.out.units (Gy _ _ _) (by decide) (sm_ex _ _ _)).mono ?_;intro e w5 hp;rw [conf_ex] at hp;obtain ⟨A5,c5,rfl,hs5,hb⟩:=hp;obtain ⟨b5,o5,rfl,x0,x1⟩:=sl_one' hs5;have jR:=Hd ((HW.out.alloc _).next hb);clear HW;have HW:=jR;clear jR;have HZn:=Hd ((HZ.out.alloc _).next hb);clear HZ;have HZ:=HZn;clear HZn;clear hb hs5))
 have l0:=HZ.out.c;have qq:∀ W:Wd,(binOp .eql 38 (.agg #[.int .i64 0,.int .i64 1]) (.agg #[.int .i64 0,.int .i64 1])).run prog W = .ok (.bool true) W:=fun W=>by kernel_rfl
 go_wp2;go_ret;exact ⟨rfl,HW.out.be⟩
end
def chkU (o:Option (Nat×Nat)):Int:=match o with|none => -1|some p=>(p.1:Nat)
def chkV (o:Option (Nat×Nat)):Int:=match o with|none => -1|some p=>(p.2:Nat)
def CheP (R:Int ⊕ Option (Nat×Nat)) (w:Wd) (e:Ending) (w':Wd):Prop:=match R with
 |.inl er=>er≠0∧e = .returned (.tuple #[.int .i64 0,.int .i64 0,.int .i64 er])∧Below w.heap.size w w'
 |.inr o=>e = .returned (.tuple #[.int .i64 (chkU o),.int .i64 (chkV o),.int .i64 0])∧Below w.heap.size w w'
theorem playC_end (o:Option (Nat×Nat)) (w:Wd) (e:Ending) (w':Wd) (h:PlayC (.inr o) w.heap.size (w.heap.size+1) (cW w) e w'):
  ∃ v,e = .returned (.tuple #[v,.int .i64 0])∧w'.cell? ⟨w.heap.size,0,none⟩=some (.int .i64 (chkU o))∧w'.cell? ⟨w.heap.size+1,0,none⟩=some (.int .i64 (chkV o))∧Below w.heap.size w w':=by
 have hz:w.heap.size≤(cW w).heap.size:=(Vj w).size;cases o with
 |none=>
  obtain ⟨⟨v,rfl⟩,hb⟩:=h;exact ⟨v,rfl,((cW_u w).below hb (cW_u w).lt).cell 0,((cW_r w).below hb (cW_r w).lt).cell 0,U0 (Vj w) hb hz⟩
 |some p=>
  obtain ⟨⟨v,rfl⟩,hf,h1,h2⟩:=h;refine ⟨v,rfl,h1,h2,(Vj w).trans (hf.below (fun b hb=>?_) hz)⟩;simp at hb;omega
theorem check_g (R:Int ⊕ Option (Nat×Nat)) (iA:Option Addr) (im ic:Nat) (A:Option Addr) (n c:Nat) (w:Wd)
  (hp:Calls prog 20 #[.slice iA im ic,.slice A n c,.func (.func 25) #[] #[.pointer (some ⟨w.heap.size,0,none⟩),.pointer (some ⟨w.heap.size+1,0,none⟩)]] (cW w) (PlayC R w.heap.size (w.heap.size+1) (cW w))):
  Calls prog 10 #[.slice iA im ic,.slice A n c] w (CheP R w):=by
 have HP:=Hd hp;have HCW:=Hd (Vj w);clear hp;cases R with
 |inl er=>
  unfold cW at HP HCW;go_enter Tryz.func10,Tryz.ntmps10;go_wp2_with (go_at_call 20;refine HP.out.mono ?_;rintro e w3 ⟨aZ,rfl,hb⟩;have eY:=Hd aZ;have eG:(er != 0)=true:=(by simpa using aZ);have HB:=Hd (U0 HCW.out hb HCW.out.size);clear aZ hb)
  go_ret3
  exact ⟨eY.out,rfl,HB.out⟩
 |inr o=>
  have HE:=Hd (playC_end o w);unfold cW at HP HE;go_enter Tryz.func10,Tryz.ntmps10;go_wp2_with (go_at_call 20;refine HP.out.mono ?_;intro e w3 hq;obtain ⟨v,rfl,c1,c2,hb⟩:=HE.out _ _ hq;have HB:=Hd hb;clear hq hb)
  go_quiet (fail)
  go_wp2
  go_ret3
  exact ⟨rfl,Uf HB.out _⟩
theorem check_any (iA:Option Addr) (im ic:Nat) (ini:List Cnt) (A:Option Addr) (n c:Nat) (l:List Com) (w:Wd) (hi:Sl cnC 23 w w.heap.size iA im ic ini) (hip:∀ x∈ini,CW w x) (him:im≤1024)
  (hs:Cs w w.heap.size A n c l) (hv:∀ x∈l,SmC x) (hn:n≤12) (ht:Sta w) (hc:Cod w):
  Calls prog 10 #[.slice iA im ic,.slice A n c] w (CheP (cheF ini l) w):=by
 have hz:=Vj w;exact check_g _ iA im ic A n c w (play_chk iA im ic ini A n c l (cW w) w.heap.size (w.heap.size+1) (cW_u w) (cW_r w) (by omega) (hi.after hz hz.size) (fun x hx=>(hip x hx).below hz) him (hs.after hz hz.size) hv hn (ht.after hz) (hc.after hz))
theorem replay_any (iA:Option Addr) (im ic:Nat) (ini:List Cnt) (A:Option Addr) (n c:Nat) (l:List Com) (w:Wd) (hi:Sl cnC 23 w w.heap.size iA im ic ini) (hip:∀ x∈ini,CW w x) (hiw:∀ x∈ini,(Lit.int .i64 x.d.id).wf=true) (him:im≤4)
  (hs:Cs w w.heap.size A n c l) (hv:∀ x∈l,SmC x) (hcn:∀ x∈l,x.cn≤8) (hn:n≤12) (ht:Sta w) (hc:Cod w):
  Calls prog 9 #[.slice iA im ic,.slice A n c] w (RepG (Jk ini l) w):=
 replay_of _ iA im ic A n c w
  (fun s h=>rep_ok hiw (by rw [hi.len];omega) (by rw [hs.1.len];exact hn) (fun u hu=>by rw [(hs.2 u hu).2.1.len];exact hcn u hu) h)
  (play_rep iA im ic ini A n c l w hi hip (by omega) hs hv hn ht hc)
theorem numS_G:∀ (l:List Com) (n:Int),Y7 n l=Un n l
 | [],_=>rfl
 |c::r,n=>by
  show Yl n c::Y7 (n+c.cn) r=reN n c::Un (n+c.cn) r;rw [numS_G r];rfl
theorem sort_numG:∀ (l acc:List Com) (n:Int),(∀ y∈acc,Bef n y)→Xu I2 acc (Un n l)=acc++Un n l
 | [],acc,n,_=>by simp [Un,Xu]
 |c::r,acc,n,h=>by
  have hi:Et I2 (reN n c) acc=acc++[reN n c]:=ins_end h
  have h2:∀ y∈acc++[reN n c],Bef (n+c.cn) y:=by
   intro y hy;rcases List.mem_append.1 hy with hy|hy
   ·exact (h y hy).le (by omega)
   ·rw [List.mem_singleton] at hy;subst hy;exact ⟨by show n≤_;omega,fun h0=>by have h1:0<c.cn:=h0;show n<_;omega⟩
  show Xu I2 (Et I2 (reN n c) acc) (Un (n+c.cn) r)=_;rw [hi,sort_numG r (acc++[reN n c]) (n+c.cn) h2];simp [Un]
theorem chk_numG:∀ (l:List Com) (m n:Int),m<n→chkL m (Un n l)=true
 | [],_,_,_=>rfl
 |c::r,m,n,h=>by
  show (if n≤m then false else chkL (if 0<c.cn then n+c.cn-1 else m) (Un (n+c.cn) r))=_;rw [if_neg (by omega)];exact chk_numG r _ (n+c.cn) (by split<;>omega)
theorem ord_numG (l:List Com):Yq (Un 1 l)=if ((Un 1 l).any fun x => !Jl x)=true then none else some (Un 1 l):=by
 unfold Yq;rw [sort_numG l [] 1 (fun y hy=>by cases hy),List.nil_append,chk_numG l 0 1 (by decide)];rfl
theorem Fq {ini:List Cnt} {l:List Com} {s:List PC} (h:Jk ini (Un 1 l) = .inr s):Yq (Un 1 l)=some (Un 1 l):=by
 unfold Jk at h;rw [ord_numG] at h ⊢;split
 ·rename_i ha;rw [if_pos ha] at h;cases h
 ·rfl
theorem rep_play {ini:List Cnt} {l:List Com} {s:List PC} (h:Jk ini (Un 1 l) = .inr s):∃ st,Ia vC [] ini=some st∧Vs Ud doF (Un 1 l) (st.map plC) = .inr s:=by
 have ho:=Fq h;unfold Jk at h;rw [ho] at h;cases hb:Ia vC [] ini with
 |none=>rw [hb] at h;cases h
 |some st=>
  rw [hb] at h;exact ⟨st,rfl,h⟩
theorem che_play {ini:List Cnt} {l:List Com} {s:List PC} {st:List Cnt} (h:Jk ini (Un 1 l) = .inr s) (hb:Ia vC [] ini=some st):∃ o,cheF ini (Un 1 l) = .inr o∧(o=none↔allX (Un 1 l) (st.map plC)):=by
 obtain ⟨st',gR,hp⟩:=rep_play h;rw [hb] at gR;injection gR with gR
 subst gR;obtain ⟨o,o1,o2⟩:=chk_all (Un 1 l) 0 (st.map plC) s hp;refine ⟨o,?_,o2⟩;unfold cheF;rw [Fq h,hb];exact o1
structure BeS (st:List Cnt):Prop where
 nd:NdP (st.map plC)
 ap:∀ x∈st.map plC,x.ap=0∧Srt x.ps
theorem putS_be {st:List Cnt} {x:Cnt} (h:BeS st) (h0:x.ap=0) (hv:vC x=true):BeS (Eo st x):=by
 have e:=J7 st x;refine ⟨by rw [←e];exact put_nd h.nd _,fun y hy=>?_⟩;rw [←e] at hy
 have hm:y=plC x∨y∈st.map plC:=by
  unfold I9 at hy;split at hy
  ·rcases List.mem_or_eq_of_mem_set hy with hy|hy
   ·exact .inr hy
   ·exact .inl hy
  ·rcases List.mem_append.1 hy with hy|hy
   ·exact .inr hy
   ·rw [List.mem_singleton] at hy;exact .inl hy
 rcases hm with rfl|hm
 ·exact ⟨h0,fwd_srt hv⟩
 ·exact h.ap y hm
theorem begF_be:∀ (l st st1:List Cnt),BeS st→(∀ x∈l,x.ap=0)→Ia vC st l=some st1→BeS st1
 | [],st,st1,h,_,h1=>by injection h1 with h1;subst h1;exact h
 |x::r,st,st1,h,h0,h1=>by
  unfold Ia at h1;split at h1
  ·cases h1
  ·rename_i hc
   have hv:vC x=true:=by
    cases hq:vC x with
    |true=>rfl
    |false=>exact absurd (.inr hq) hc
   exact begF_be r _ st1 (putS_be h (h0 x List.mem_cons_self) hv) (fun y hy=>h0 y (List.mem_cons_of_mem _ hy)) h1
theorem beg_sto {ini st:List Cnt} (h0:∀ x∈ini,x.ap=0) (h:Ia vC [] ini=some st):StO 1 (st.map plC):=by
 have hb:=begF_be ini [] st ⟨List.Pairwise.nil,fun x hx=>by cases hx⟩ h0 h;exact ⟨hb.nd,fun id x hx=>by rw [(hb.ap x (getP_mem hx)).1];decide,fun id x hx=>(hb.ap x (getP_mem hx)).2⟩
theorem ids_same {s t:List PC} (h:ReS s t) (hs:NdP s) (ht:NdP t):idsP s=idsP t:=by
 unfold idsP;refine mergeSort_of_perm_i ((List.perm_ext_iff_of_nodup hs ht).2 fun i=>?_);rw [ids_get,ids_get,(h i).isSome]
theorem view_now {now:List Cnt} {s:List PC} (h:(now.map plC).map some=(idsP s).map (V4 s)):(now.map fun x=>(x.d,x.ps)).map some=(idsP s).map fun i=>(V4 s i).map fun x=>(x.d,x.ps):=by
 have:=congrArg (fun l:List (Option PC)=>l.map fun v=>v.map fun x=>(x.d,x.ps)) h;simp only [List.map_map] at this ⊢;exact this
theorem now_same {n1 n2:List Cnt} {s t:List PC} (h:ReS s t) (hs:NdP s) (ht:NdP t) (h1:(n1.map plC).map some=(idsP s).map (V4 s)) (h2:(n2.map plC).map some=(idsP t).map (V4 t)):SameL n1 n2:=by
 have v1:=view_now h1;have v2:=view_now h2;rw [←ids_same h hs ht] at v2;have hv:(fun i=>(V4 s i).map fun x=>(x.d,x.ps))=fun i=>(V4 t i).map fun x=>(x.d,x.ps):=funext fun i=>h i
 rw [hv] at v1;have e:=v1.trans v2.symm;unfold SameL;exact List.map_inj_right (fun _ _ h=>Option.some.inj h) |>.1 e
theorem mem_confL {s:List Com} {i k:Nat} (hi:i<k) (hk:k<s.length) (hc:Kf s i k=true):(i,k)∈V3 s s.length:=by
 unfold V3;rw [List.mem_flatMap];refine ⟨i,List.mem_range.2 (by omega),?_⟩;unfold Xl;rw [List.mem_map];exact ⟨k,List.mem_filter.2 ⟨List.mem_range.2 hk,by simp [hi,hc]⟩,rfl⟩
theorem numG_get:∀ (l:List Com) (n:Int) (i:Nat) (x:Com),l[i]? =some x→∃ k,(Un n l)[i]? =some (reN k x)
 | [],n,i,x,h=>by simp at h
 |c::r,n,0,x,h=>by
  simp at h;subst h;exact ⟨n,rfl⟩
 |c::r,n,i+1,x,h=>by
  rw [Gn] at h;exact numG_get r (n+c.cn) i x h
theorem conf_reN (a b:Com) (n m:Int):Zn (reN n a) (reN m b)=Zn a b:=rfl
theorem swaps_plain {ini:List Cnt} {l:List Com} {k:Nat} {a b:Com} {s t:List PC} (h0:∀ x∈ini,x.ap=0) (hl:Lens l) (ha:l[k]? =some a) (hb:l[k+1]? =some b) (hc:(k,k+1) ∉ V3 (Xr (Un 1 l)) (Xr (Un 1 l)).length)
  (h1:Jk ini (Un 1 l) = .inr s) (h2:Jk ini (Un 1 ((l.set k b).set (k+1) a)) = .inr t):
  ReS s t∧NdP s∧NdP t∧∃ o1 o2,cheF ini (Un 1 l) = .inr o1∧cheF ini (Un 1 ((l.set k b).set (k+1) a)) = .inr o2∧(o1=none↔o2=none):=by
 have ho:Xr (Un 1 l)=Un 1 l:=by unfold Xr;rw [Fq h1];rfl
 rw [ho] at hc;have hk1:k+1<l.length:=(List.getElem?_eq_some_iff.1 hb).1
 have kT:Zn a b=false:=by
  cases hq:Zn a b with
  |false=>rfl
  |true=>
   obtain ⟨n1,e1⟩:=numG_get l 1 k a ha;obtain ⟨n2,e2⟩:=numG_get l 1 (k+1) b hb;exact absurd (mem_confL (by omega) (by rw [Zb];exact hk1) (by rw [confAt_is e1 e2,conf_reN];exact hq)) hc
 obtain ⟨p,q,hp,gX⟩:∃ p q,l=p++a::b::q∧p.length=k:=by
  have e1:l.drop k=a::l.drop (k+1):=by
   rw [List.drop_eq_getElem_cons (by omega)];congr 1;exact (List.getElem?_eq_some_iff.1 ha).2
  have e2:l.drop (k+1)=b::l.drop (k+2):=by
   rw [List.drop_eq_getElem_cons hk1];congr 1;exact (List.getElem?_eq_some_iff.1 hb).2
  exact ⟨l.take k,l.drop (k+2),by rw [←e2,←e1,List.take_append_drop],by rw [List.length_take];omega⟩
 have hsw:(l.set k b).set (k+1) a=p++b::a::q:=by
  rw [hp,List.set_append_right k b (by omega),gX,Nat.sub_self];simp only [Sz];rw [List.set_append_right (k+1) a (by omega),gX,Nat.add_sub_cancel_left];rfl
 obtain ⟨st,hst,p1⟩:=rep_play h1;obtain ⟨st',hst',p2⟩:=rep_play h2;rw [hst] at hst';injection hst' with hst'
 subst hst';obtain ⟨o1,c1,c2⟩:=che_play h1 hst;obtain ⟨o2,c3,c4⟩:=che_play h2 hst;rw [←numS_G] at p1 p2 c2 c4;rw [hsw] at p2 c4;rw [hp] at p1 c2 hl;obtain ⟨r1,r2,r3,r4⟩:=swap_plain (beg_sto h0 hst) hl kT p1 p2;refine ⟨r1,r2,r3,o1,o2,c1,c3,?_⟩;rw [c2,c4];exact r4
theorem Fk:∀ (l:List Value) (cs:Array Value) (o:Nat),(setL cs o l).size=cs.size∧(setL cs o l).toList=(l.zipIdx o).foldl (fun r p=>r.set p.2 p.1) cs.toList
 | [],cs,o=>⟨rfl,rfl⟩
 |v::l,cs,o=>by
  obtain ⟨h1,h2⟩:=Fk l (cs.setIfInBounds o v) (o+1);refine ⟨by show (setL (cs.setIfInBounds o v) (o+1) l).size=_;rw [h1];simp,?_⟩;show (setL (cs.setIfInBounds o v) (o+1) l).toList=_;rw [h2,Array.toList_setIfInBounds];rfl
def set4 (L:List Value) (o:Nat) (x:Com):List Value:=(((L.set o (.int .i64 x.unit)).set (o+1) (.int .i64 x.num)).set (o+2) (.slice x.rA x.rn x.rc)).set (o+3) (.slice x.cA x.cn x.cc)
theorem setL_4 (cs:Array Value) (o:Nat) (x:Com):(setL cs o (U7 x)).toList=set4 cs.toList o x:=by
 rw [(Fk _ _ _).2];rfl
theorem set4_take (L:List Value) (o m:Nat) (x:Com):(set4 L o x).take m=set4 (L.take m) o x:=by
 unfold set4;simp only [List.take_set]
theorem set4_flat:∀ (l:List Com) (j:Nat) (x:Com),j<l.length→set4 (Ub U7 l) (j*4) x=Ub U7 (l.set j x)
 | [],j,x,h=>by simp at h
 |y::r,0,x,_=>by
  rw [Sz,V8,V8];rfl
 |y::r,j+1,x,h=>by
  rw [Sw,V8,V8,←set4_flat r j x (by simpa using h)];have hl:(U7 y).length=4:=rfl;unfold set4;have e:∀ k,(j+1)*4+k=(U7 y).length+(j*4+k):=fun k=>by rw [hl];omega
  have e0:(j+1)*4=(U7 y).length+j*4:=by rw [hl];omega
  rw [e 1,e 2,e 3,e0];simp only [List.set_append_right _ _ (Nat.le_add_right _ _),Nat.add_sub_cancel_left]
theorem own_at4 {w:Wd} {base n c:Nat} {A:Option Addr} {l:List Com} (h:w.ownsRow base 34 4 (.slice A n c) n (Ub U7 l)) (h0:0<n):∃ g cur,A=some ⟨g,0,none⟩∧base≤g∧Blk w g 34 cur∧n≤c∧c≤maxLen∧cur.size=c*4∧cur.toList.take (n*4)=Ub U7 l∧l.length=n:=by
 rcases h.2 with ⟨_,hz⟩|⟨g,cap,cur,hv,hb,hw,h1,h2,h3,h4⟩
 ·omega
 ·injection hv with e1 e2 e3
  subst e1 e3;refine ⟨g,cur,rfl,hb,hw,h1,h2,h3,h4,?_⟩;have:=h.1;rw [Vi V2] at this;omega
theorem own_set4 {w:Wd} {base n c g:Nat} {l:List Com} {cur:Array Value} {j:Nat} {x:Com} (hb:base≤g) (hw:Blk w g 34 cur) (h1:n≤c) (h2:c≤maxLen) (h3:cur.size=c*4) (h4:cur.toList.take (n*4)=Ub U7 l) (hl:l.length=n) (hj:j<n):
  (w.setCells g (j*4) (U7 x)).ownsRow base 34 4 (.slice (some ⟨g,0,none⟩) n c) n (Ub U7 (l.set j x))∧Blk (w.setCells g (j*4) (U7 x)) g 34 (setL cur (j*4) (U7 x))∧(setL cur (j*4) (U7 x)).size=c*4∧(setL cur (j*4) (U7 x)).toList.take (n*4)=Ub U7 (l.set j x):=by
 have k1:=G6 (U7 x) (j*4) w cur hw;have k2:(setL cur (j*4) (U7 x)).size=c*4:=by rw [(Fk _ _ _).1];exact h3
 have k3:(setL cur (j*4) (U7 x)).toList.take (n*4)=Ub U7 (l.set j x):=by rw [setL_4,set4_take,h4,set4_flat l j x (by omega)]
 refine ⟨⟨by rw [Vi V2,List.length_set,hl],.inr ⟨g,c,_,rfl,hb,k1,h1,h2,k2,k3⟩⟩,k1,k2,k3⟩
theorem there_at {w:Wd} {b:Nat} {t:TypeId} {cs:Array Value} (h:Blk w b t cs) (o n:Nat) (hn:o+n≤cs.size):w.there b o n:=fun j hj=>by
 exact ⟨by rw [h.cell,Array.getElem?_eq_getElem (by omega)];rfl,h.free _⟩
structure XG (base g k c n:Nat) (l:List Com) (a b:Com) (W W':Wd):Prop where
 r0:W.rangeAt g (k*4) (U7 a)
 r1:W.rangeAt g ((k+1)*4) (U7 b)
 t0:W.there g (k*4) 4
 t1:(W.setCells g (k*4) (U7 b)).there g ((k+1)*4) 4
 e:W'=(W.setCells g (k*4) (U7 b)).setCells g ((k+1)*4) (U7 a)
 own:W'.ownsRow base 34 4 (.slice (some ⟨g,0,none⟩) n c) n (Ub U7 ((l.set k b).set (k+1) a))
 be:Below base W W'
theorem xg_mk {W:Wd} {base n c g k:Nat} {l:List Com} {a b:Com} (h:W.ownsRow base 34 4 (.slice (some ⟨g,0,none⟩) n c) n (Ub U7 l)) (hk:k+1<n) (ha:l[k]? =some a) (hb:l[k+1]? =some b):∃ W',XG base g k c n l a b W W':=by
 obtain ⟨g',cur,hA,iS,hw,h1,h2,h3,h4,hl⟩:=own_at4 h (by omega);injection hA with hA
 injection hA with hA
 subst hA;obtain ⟨o1,o2,o3,o4⟩:=own_set4 (x:=b) iS hw h1 h2 h3 h4 hl (show k<n by omega);obtain ⟨p1,p2,p3,p4⟩:=own_set4 (x:=a) iS o2 h1 h2 o3 o4 (by rw [List.length_set];exact hl) hk
 have aB:∀ j x,j<n→l[j]? =some x→W.rangeAt g (j*4) (U7 x):=fun j x hj hx i v hv=>by
  have hi:i<4:=(List.getElem?_eq_some_iff.1 hv).1;rw [hw.cell];have e:=Xn V2 l j x hx i hi;rw [←h4,hv,List.getElem?_take] at e;split at e
  ·simpa using e
  ·cases e
 exact ⟨_,aB k a (by omega) ha,aB (k+1) b hk hb,there_at hw _ _ (by rw [h3];omega),there_at o2 _ _ (by rw [o3];omega),rfl,p1,Yg iS _ _ _ (Yg iS _ _ _ (Bf _ _))⟩
theorem Vo {α:Type} {p:α→Bool} {l:List α} {j:Nat} {e:α} (h:l[j]? =some e) (hp:p e=false):(l.any fun x => !p x)=true:=by
 rw [List.any_eq_true];exact ⟨e,List.mem_of_getElem? h,by rw [hp];rfl⟩
theorem Eh {α:Type} {p:α→Bool} {l:List α} {n:Nat} (hl:l.length=n) (h:∀ t,t<n→∀ e,l[t]? =some e→p e=true):(l.any fun x => !p x)=false:=by
 rw [List.any_eq_false];intro x hx;obtain ⟨t,ht,rfl⟩:=List.getElem_of_mem hx;rw [h t (by omega) _ (List.getElem?_eq_getElem ht)];simp
theorem J3 {α:Type} {p:α→Bool} {l:List α} {j:Nat} {e:α} (h:∀ t,t<j→∀ e,l[t]? =some e→p e=true) (hg:l[j]? =some e) (hp:p e=true):∀ t,t<j+1→∀ e,l[t]? =some e→p e=true:=by
 intro t ht e' he;by_cases hj:t=j
 ·subst hj;rw [hg] at he;injection he with he;subst he;exact hp
 ·exact h t (by omega) e' he
def Gx (c:Chg):Bool:=decide (c.key.size≤50)&&decide (c.rcd.size≤1200)&&decide (c.vol.size≤20)
def Gw (r:Rdd):Bool:=decide (r.key.size≤60)&&decide (r.ak.size≤60)&&decide (r.ar.size≤300)
def few47 (n:Nat) (l:List Chg):Bool:=decide (n≤8)&&!(l.any fun x => !Gx x)
def Iq (x:Com):Bool:=few47 x.cn x.cs&&decide (x.rn≤8)&&!(x.rs.any fun r => !Gw r)
theorem few47_any (A:Option Addr) (n c:Nat) (l:List Chg) (w:Wd) (hs:Sl chC 5 w w.heap.size A n c l):
  Calls prog 15 #[.agg #[.int .i64 0,.int .i64 0,.slice A n c],.int .i64 8] w fun e w'=>e = .returned (.bool (few47 n l))∧Below w.heap.size w w':=by
 obtain ⟨R,hR⟩:∃ R,few47 n l=R:=⟨_,rfl⟩
 rw [hR];have B0:=Hd (Xg w #[.int .i64 0,.int .i64 0,.slice A n c] 56);have HS:=Hd hs;have HL:=Hd hs.len;by_cases h8:n≤8;rotate_left
 ·have hr:R=false:=by rw [←hR];unfold few47;rw [decide_eq_false h8];rfl
  have HR:=Hd hr;have d1:decide ((8:Int)<(n:Int))=true:=by simp;omega
  have d2:decide (8<n)=true:=by simp;omega
  clear hR hr hs;go_enter Tryz.func15,Tryz.ntmps15;go_wp2;go_ret;exact ⟨by rw [HR.out];rfl,Uc B0.out⟩
 have d1:decide ((8:Int)<(n:Int))=false:=by simp;omega
 have d2:decide (8<n)=false:=by simp;omega
 have hR2:R = !(l.any fun x => !Gx x):=by rw [←hR];unfold few47;rw [decide_eq_true h8];rfl
 have HR:=Hd hR2;clear hR hR2 hs;go_enter Tryz.func15,Tryz.ntmps15;go_wp2;go_loopw [5] (fun i wr => ∃ j:Nat,j≤n∧i = .int .i64 j∧(∀ t,t<j→∀ e,l[t]? =some e→Gx e=true)∧Below (w.heap.size+1) (w.alloc (.cells #[.int .i64 0,.int .i64 0,.slice A n c] 56)) wr) (fun i _=>n-(intOf i).toNat)
 case atStart=>exact ⟨0,Z0 _,rfl,fun t h=>absurd h (by omega),Bf _ _⟩
 case round=>
  obtain ⟨j,hj,rfl,hall,aE⟩:=hrel;have HA:=Hd hall;have HB:=Hd aE;have hf:=Zo aE 2;simp at hf;have aN:=Vn aE;have iC:w.heap.size<wr.heap.size:=by omega
  clear hall aE;by_cases aG:j<n
  ·obtain ⟨b,o,x,rfl,hb,hg,aB⟩:=Sl.cell (f:=chC) (k:=5) chC_len (HS.out.after (Uc HB.out) (Nat.le_of_succ_le aN)) aG;have c0:=aB 0 _ rfl;have c1:=aB 1 _ rfl;have c2:=aB 2 _ rfl;have c3:=aB 3 _ rfl;have c4:=aB 4 _ rfl;simp only [Nat.add_zero] at c0;have HG:=Hd hg;clear hg aB hb;by_cases k1:x.key.size≤50;rotate_left
   ·have hp:Gx x=false:=by unfold Gx;rw [decide_eq_false k1];rfl
    have HF:Hid (R=false):=Hd (by rw [HR.out,Vo HG.out hp];rfl);have e1:decide ((50:Int)<(x.key.size:Int))=true:=by simp;omega
    have e2:decide (50<x.key.size)=true:=by simp;omega
    clear hp k1;go_wp2;go_ret;exact ⟨by rw [HF.out];rfl,Uc (HB.out.alloc aN _)⟩
   have e1:decide ((50:Int)<(x.key.size:Int))=false:=by simp;omega
   have e2:decide (50<x.key.size)=false:=by simp;omega
   by_cases k2:x.rcd.size≤1200;rotate_left
   ·have hp:Gx x=false:=by unfold Gx;rw [decide_eq_false k2];simp
    have HF:Hid (R=false):=Hd (by rw [HR.out,Vo HG.out hp];rfl);have e3:decide ((1200:Int)<(x.rcd.size:Int))=true:=by simp;omega
    have e4:decide (1200<x.rcd.size)=true:=by simp;omega
    clear hp k1 k2;go_wp2;go_ret;exact ⟨by rw [HF.out];rfl,Uc (HB.out.alloc aN _)⟩
   have e3:decide ((1200:Int)<(x.rcd.size:Int))=false:=by simp;omega
   have e4:decide (1200<x.rcd.size)=false:=by simp;omega
   by_cases k3:x.vol.size≤20;rotate_left
   ·have hp:Gx x=false:=by unfold Gx;rw [decide_eq_false k3];simp
    have HF:Hid (R=false):=Hd (by rw [HR.out,Vo HG.out hp];rfl);have e5:decide ((20:Int)<(x.vol.size:Int))=true:=by simp;omega
    have e6:decide (20<x.vol.size)=true:=by simp;omega
    clear hp k1 k2 k3;go_wp2;go_ret;exact ⟨by rw [HF.out];rfl,Uc (HB.out.alloc aN _)⟩
   have e5:decide ((20:Int)<(x.vol.size:Int))=false:=by simp;omega
   have e6:decide (20<x.vol.size)=false:=by simp;omega
   have HP:Hid (Gx x=true):=Hd (by unfold Gx;rw [decide_eq_true k1,decide_eq_true k2,decide_eq_true k3];rfl);have X2:=Hd (HB.out.alloc aN (.cells #[.int .i64 x.kind,.int .i64 x.id,.string x.key,.string x.rcd,.string x.vol] 58));clear k1 k2 k3;go_wp2;go_roundw
   case rel=>exact ⟨j+1,by omega,by go_num,J3 HA.out HG.out HP.out,X2.out⟩
   case measure=>simp [intOf];omega
  ·have iN:n=j:=by omega
   subst iN;have HT:Hid (R=true):=Hd (by rw [HR.out,Eh HL.out HA.out];rfl);go_wp2;go_ret;exact ⟨by rw [HT.out];rfl,Uc HB.out⟩
end Go.Proofs.YtoakknkmjnebjaaGreatDoor
