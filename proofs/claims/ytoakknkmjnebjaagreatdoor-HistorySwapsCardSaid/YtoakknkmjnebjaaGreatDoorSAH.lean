/- Of HistorySwaps. -/
import Derived.Test.YtoakknkmjnebjaaGreatDoorSAG
namespace Go.Proofs.YtoakknkmjnebjaaGreatDoor
open Tryz (prog)
set_option maxRecDepth 100000
set_option maxHeartbeats 4000000
open Go.RowKit
theorem Fp {w:Wd} {base h c n k:Nat} {t:TypeId} {xs:List Value} (ho:w.ownsRow base t k (.slice (some ⟨h,0,none⟩) n c) n xs):w.rangeAt h 0 xs:=fun j v hv=>by
 rw [Nat.zero_add];have:=ho.cells (g:=h) rfl j v hv
 rwa [show ((⟨h,0,none⟩:Addr).add j)=⟨h,j,none⟩ from by unfold Addr.add;split<;>simp_all] at this
def rV:List Value:=[.int .i64 0,.int .i64 200,.string ⟨#[107]⟩,.string ⟨#[]⟩,.string ⟨#[]⟩,.int .i64 6]
theorem ex_box {w w3 w5:Wd} {o2 o3:Obj} (h1:Below (((w.alloc (.cells rV.toArray 49)).alloc o2).alloc o3).heap.size (((w.alloc (.cells rV.toArray 49)).alloc o2).alloc o3) w3) (h2:Below w3.heap.size w3 w5):
  Blk w5 w.heap.size 49 rV.toArray∧Below w.heap.size w w5∧w.heap.size<w5.heap.size:=by
 have e1:=h1.size;have e2:=h2.size;simp at e1;refine ⟨((((Blk.new w 49 rV.toArray).alloc o2).alloc o3).below h1 (by simp;omega)).below h2 (by omega),?_,by omega⟩;exact (((((Bf _ _).alloc (Le _) _).alloc (by simp) _).alloc (by simp;omega) _).trans (h1.mono (by simp;omega))).trans (h2.mono (by omega))
theorem ex_get {w5 w7:Wd} {b:Nat} (gP:Blk w5 b 49 rV.toArray) (hb:Below (w5.alloc (.cells #[.string ⟨#[107]⟩,.string ⟨#[]⟩,.int .i64 0] 47)).heap.size (w5.alloc (.cells #[.string ⟨#[107]⟩,.string ⟨#[]⟩,.int .i64 0] 47)) w7):
  Blk w7 b 49 rV.toArray∧Blk w7 w5.heap.size 47 #[.string ⟨#[107]⟩,.string ⟨#[]⟩,.int .i64 0]:=
 ⟨(gP.alloc _).below hb (by have:=gP.lt;simp;omega),(Blk.new w5 _ _).below hb (by simp)⟩
theorem ex_next {w w5 w7:Wd} {o:Obj} (h5:Below w.heap.size w w5) (hl:w.heap.size<w5.heap.size) (hb:Below (w5.alloc o).heap.size (w5.alloc o) w7):Below w.heap.size w w7:=
 (h5.alloc (by omega) _).trans (hb.mono (by simp;omega))
theorem Get_at (b:Bool) (ap:Int) (A:Option Addr) (n c h cc:Nat) (w:Wd) (o:Obj) (hh:h<w.heap.size) (hr:w.rangeAt h 0 (kV ap A n c)) (hp:PR b w A n c):
  Calls prog 340 #[.slice (some ⟨h,0,none⟩) 1 cc,.int .i64 200,.string ⟨#[107]⟩] (w.alloc o) fun e w'=>e = .returned (getV b)∧Below (w.alloc o).heap.size (w.alloc o) w':=
 Get_any b ap A n c h cc _ (by simp;omega) (Ua hr ((Bf _ _).alloc (Le _) _) hh) (hp.below ((Bf _ _).alloc (Le _) _))
structure EX (w W:Wd) (g:Nat) (x:Bz) (y:Int):Prop where
 b1:Blk W w.heap.size 49 rV.toArray
 b2:Blk W g 47 #[.string ⟨#[107]⟩,.string x,.int .i64 y]
 lt:w.heap.size<g
 be:Below w.heap.size w W
theorem ex_set {w w7:Wd} {g:Nat} (h1:Blk w7 w.heap.size 49 rV.toArray) (h2:Blk w7 g 47 #[.string ⟨#[107]⟩,.string ⟨#[]⟩,.int .i64 0]) (hl:w.heap.size<g) (hb:Below w.heap.size w w7) (x:Bz) (y:Int):
  ∃ W,W=(w7.setCell ⟨g,1,none⟩ (.string x)).setCell ⟨g,2,none⟩ (.int .i64 y)∧EX w W g x y:=
 ⟨_,rfl,(h1.far (by simp;omega) _).far (by simp;omega) _,(h2.set 1 _).set 2 _,hl,(hb.setCell (by simp;omega) _).setCell (by simp;omega) _⟩
theorem ex_row {w W:Wd} {g:Nat} {x:Bz} {y:Int} (h:EX w W g x y) (cs:Array Value):(W.setRow g cs).rangeAt w.heap.size 3 [.string ⟨#[]⟩,.string ⟨#[]⟩,.int .i64 6]:=by
 have hl:=h.lt;have:Blk (W.setRow g cs) w.heap.size 49 rV.toArray:=(setRow_other W g w.heap.size cs (by omega)).trans h.b1;refine this.range 3 _ fun j v hv=>?_
 match j,hv with
 |0,hv=>exact hv
 |1,hv=>exact hv
 |2,hv=>exact hv
theorem ex_rg {w W:Wd} {g:Nat} {x:Bz} {y:Int} (h:EX w W g x y):W.rangeAt w.heap.size 3 [.string ⟨#[]⟩,.string ⟨#[]⟩,.int .i64 6]:=by
 refine h.b1.range 3 _ fun j v hv=>?_
 match j,hv with
 |0,hv=>exact hv
 |1,hv=>exact hv
 |2,hv=>exact hv
theorem method_get (h c:Nat) (w:Wd):(method 489 132 (.slice (some ⟨h,0,none⟩) 1 c) "Get").run prog w = .ok (340,.slice (some ⟨h,0,none⟩) 1 c) w:=by kernel_rfl
theorem explained_any (b:Bool) (ap:Int) (A:Option Addr) (n c bs:Nat) (w:Wd) (hs:St w bs (kV ap A n c)) (hp:PR b w A n c):
  Calls prog 28 #[.map (some bs),.agg #[.int .i64 0,.int .i64 200,.string ⟨#[107]⟩,.string ⟨#[]⟩,.string ⟨#[]⟩,.int .i64 6]] w fun e w'=>e = .returned (.bool (!b))∧Below w.heap.size w w':=by
 obtain ⟨i0,aU,aW,aK,aR⟩:=info_parts Eb;have hl:∀ o1,(Instr.lookup 65 (.map (some bs)) (.int .i64 200) true).run prog (w.alloc o1) = .ok (.tuple #[.agg (kV ap A n c).toArray,.bool true]) (w.alloc o1):=fun o1=>Fl _ bs _ (hs.alloc _)
 have H1:=Hd (kV_one ap A n c);have HB:Hid (∀ o1 old,Blk ((w.alloc o1).alloc (.cells old 30)) (w.heap.size+1) 30 old):=Hd fun o1 old=>U3 (w.alloc o1) _ old _ (by simp)
 have HS:Hid (∀ o1 old cs,((w.alloc o1).alloc (.cells old 30)).setRow (w.heap.size+1) cs=(w.alloc o1).alloc (.cells cs 30)):=Hd fun o1 old cs=>Ug (w.alloc o1) _ (by simp) old cs _
 have cF:Hid (∀ o1 o2,Rd (((w.alloc o1).alloc o2).alloc (.cells (kV ap A n c).toArray 30)) (((w.alloc o1).alloc o2).heap.size+1) 23 (some ⟨((w.alloc o1).alloc o2).heap.size,0,none⟩) 1 (kV ap A n c)):=Hd fun o1 o2=>Vw ((w.alloc o1).alloc o2) (kV ap A n c) 30 1 23 rfl
 have HP:Hid (∀ o1 o2 o3,PR b (((w.alloc o1).alloc o2).alloc o3) A n c):=Hd fun o1 o2 o3=>hp.below ((((Bf _ _).alloc (Le _) _).alloc (by simp) _).alloc (by simp;omega) _)
 clear hs hp;have hm:=method_get;cases b
 all_goals
  go_enter Tryz.func28,Tryz.ntmps28
  go_wp2_with (first|((with_reducible refine Gt 30 6 ?_);refine Lv 30 (w.heap.size+1) (kV ap A n c).toArray (HB.out _ _) H1.out ?_;rw [HS.out])|((with_reducible refine Gl 30 6 ?_);refine Lq 30 (w.heap.size+1) _ (HB.out _ _) Tryz.underlying30 ?_)|((with_reducible refine Gc 22 ?_);refine wpList_buildSlice rfl 22 30 1 _ rfl (kV ap A n c).toArray i0 (.agg zV.toArray) Tryz.underlying22 aU aW (by rw [aK];decide) (by rw [aK];decide) (by rw [aK];kernel_rfl) ?_)|(at_builtin;go_must (refine U5 _ rfl _ _ 22 rfl w.heap.size 30 i0 _ 23 216 Tryz.underlying22 aU aW aK aR rfl (by decide) (.slice none 0 0) 0 [] rfl ⟨rfl,.inl ⟨rfl,rfl⟩⟩ _ _ 1 1 (kV ap A n c) rfl (cF.out _ _) (kV_ones ap A n c) (by decide) (by decide) (by simp;omega) ?_;intro v' w3 aD aO _;obtain ⟨h,c'',rfl,_⟩:=Zt aD (by decide);have aS:=Hd aD;have bG:=Hd (Xh (show World.grownBy _ w3 none from aO));have jH:=Hd ((HP.out _ _ _).below bG.out);clear aD aO))|(go_at_call 52;refine (Reader_any _ ap A n c h c'' w3 jH.out (Fp aS.out)).mono ?_;rintro e w5 ⟨h5,c5,A5,n5,m5,rfl,hh5,hr5,hp5,dG⟩;have HH5:=Hd hh5;have HR5:=Hd hr5;have HP5:=Hd hp5;obtain ⟨gP,eG,aG⟩:=ex_box bG.out dG;have bH:=Hd gP;have HBE5:=Hd eG;have bE:=Hd aG;clear hh5 hr5 hp5 dG eG aG hl;have k2:w5.cell? ⟨w.heap.size,2,none⟩=some (.string ⟨#[107]⟩):=(gP.cell 2).trans rfl;have a0:∀ o,(w5.alloc o).cell? ⟨w.heap.size,0,none⟩=some (.int .i64 0):=fun o=>((gP.alloc o).cell 0).trans rfl;have a1:∀ o,(w5.alloc o).cell? ⟨w.heap.size,1,none⟩=some (.int .i64 200):=fun o=>((gP.alloc o).cell 1).trans rfl;have a2:∀ o,(w5.alloc o).cell? ⟨w.heap.size,2,none⟩=some (.string ⟨#[107]⟩):=fun o=>((gP.alloc o).cell 2).trans rfl;clear gP))
  refine (Get_at _ ap A5 n5 m5 h5 c5 w5 _ HH5.out HR5.out HP5.out).mono ?_;rintro e w7 ⟨rfl,hb⟩;obtain ⟨gP,hba⟩:=ex_get bH.out hb;have kK:=Hd (ex_next HBE5.out bE.out hb);have q0:w7.cell? ⟨w5.heap.size,0,none⟩=some (.string ⟨#[107]⟩):=(hba.cell 0).trans rfl;have q1:w7.cell? ⟨w5.heap.size,1,none⟩=some (.string ⟨#[]⟩):=(hba.cell 1).trans rfl;have q2:w7.cell? ⟨w5.heap.size,2,none⟩=some (.int .i64 0):=(hba.cell 2).trans rfl;have f0:=hba.free 0;have f1:=hba.free 1;have f2:=hba.free 2;have jD:=Hd hba;have HBX7:=Hd gP;clear hb gP hba k2 a0 a1 a2 hm
 ·have e:getV false = .tuple #[.string ⟨#[]⟩,.int .i64 6]:=rfl;rw [e];clear e
  go_upto_region 10 with (fail)
  obtain ⟨W,hW,hx⟩:=ex_set HBX7.out jD.out bE.out kK.out ⟨#[]⟩ 6;rw [←hW];clear hW q0 q1 q2 f0 f1 f2;have HX:=Hd hx;have HQ:Hid ((#[.string ⟨#[]⟩,.string ⟨#[]⟩,.int .i64 6]:Array Value).all (·.oneCell')=true):=Hd (by simp [Value.oneCell']);have r2:W.cell? ⟨w5.heap.size,2,none⟩=some (.int .i64 6):=(hx.b2.cell 2).trans rfl;clear hx;go_wp2_with (first|((with_reducible refine Gt 47 9 ?_);refine Lv 47 w5.heap.size #[.string ⟨#[]⟩,.string ⟨#[]⟩,.int .i64 6] HX.out.b2 HQ.out ?_)|((with_reducible refine Gl 47 58 ?_);refine Ln 47 w.heap.size 3 _ (ex_row HX.out _) Tryz.underlying47 ?_)|((with_reducible refine Gl 47 9 ?_);refine Lq 47 w5.heap.size _ (setRow_heap _ _ _ _ _ _ HX.out.b2) Tryz.underlying47 ?_));go_ret
  exact ⟨rfl,U6 HX.out.be (Nat.le_of_lt HX.out.lt) _⟩
 ·have e:getV true = .tuple #[.string ⟨#[107,49]⟩,.int .i64 0]:=rfl;rw [e];clear e
  go_upto_region 10 with (fail)
  obtain ⟨W,hW,hx⟩:=ex_set HBX7.out jD.out bE.out kK.out ⟨#[107,49]⟩ 0;rw [←hW];clear hW q0 q1 q2 f0 f1 f2;have HX:=Hd hx;have r2:W.cell? ⟨w5.heap.size,2,none⟩=some (.int .i64 0):=(hx.b2.cell 2).trans rfl;clear hx;go_wp2_with (first|((with_reducible refine Gl 47 58 ?_);refine Ln 47 w.heap.size 3 _ (ex_rg HX.out) Tryz.underlying47 ?_)|((with_reducible refine Gl 47 9 ?_);refine Lq 47 w5.heap.size _ HX.out.b2 Tryz.underlying47 ?_));go_ret;exact ⟨rfl,HX.out.be⟩
structure CW (w:Wd) (x:Cnt):Prop where
 sl:Sl prC 2 w w.heap.size x.pA x.pn x.pc x.ps
 le:x.pn≤1024
 nil:x.pA=none→x.pc=0
 rz:∀ q∈x.ps,q.rcd.size≤maxLen
theorem CW.below {w w':Wd} {x:Cnt} (h:CW w x) (hb:Below w.heap.size w w'):CW w' x:=⟨h.sl.after hb hb.size,h.le,h.nil,h.rz⟩
theorem Sl.none_len {α:Type} {f:α→List Value} {k n c B:Nat} {l:List α} {w:Wd} (h:Sl f k w B none n c l):n=0:=by
 rcases Nat.eq_zero_or_pos n with h0|h0
 ·exact h0
 ·obtain ⟨b,o,e,_⟩:=h.rd.2 h0;cases e
def GivesPs (w:Wd) (l:List Pr) (e:Ending) (w':Wd):Prop:=∃ A c,e = .returned (.slice A l.length c)∧w'.ownsRow w.heap.size 76 2 (.slice A l.length c) l.length (Ub prC l)∧Below w.heap.size w w'
theorem own_nil {w:Wd} {base c n k:Nat} {t:TypeId} {xs:List Value} {A:Option Addr} (h:w.ownsRow base t k (.slice A n c) n xs):A=none→c=0:=by
 intro ha;subst ha;rcases h.2 with ⟨hv,_⟩|⟨_,_,_,hv,_⟩
 ·injection hv
 ·injection hv with hA _ _
  cases hA
theorem CW.of_own {w:Wd} {base c:Nat} {A:Option Addr} {d:DSet} {ap:Int} {l:List Pr} (h:w.ownsRow base 76 2 (.slice A l.length c) l.length (Ub prC l)) (hl:l.length≤1024) (hz:∀ q∈l,q.rcd.size≤maxLen):CW w ⟨d,ap,A,l.length,c,l⟩:=
 ⟨Sl.of_own (fun _=>rfl) (by decide) h,hl,own_nil h,hz⟩
theorem clone_g (A:Option Addr) (n c:Nat) (l:List Pr) (w:Wd) (hs:Sl prC 2 w w.heap.size A n c l) (hn:n≤1100) (hA:A=none→c=0):
  Calls prog 24 #[.slice A n c] w (GivesPs w l):=by
 have hlen:=hs.len;subst hlen
 match A,hs,hA with
 |none,hs,hA=>
  have h0:=hs.none_len;obtain rfl:l = []:=List.eq_nil_of_length_eq_zero h0;obtain rfl:=hA rfl;exact (Ez w).mono fun e w' ⟨h1,h2⟩=>⟨none,0,h1,⟨rfl,.inl ⟨rfl,rfl⟩⟩,h2▸Bf _ _⟩
 |some a,hs,_=>
  have qq:∀ (w:Wd) (a:Option Addr) (n c n' c':Nat),(binOp .eql 28 (.slice a n c) (.slice none n' c')).run prog w = .ok (.bool a.isNone) w:=fun w a n c n' c'=>Lib.run_eql_slice_nil w _ _ a n c n' c' Tryz.underlying28
  obtain ⟨i0,aU,aW,aK,aR⟩:=info_parts Xe;have HR:=Hd (hs.rd.alloc (Le _) (.cells #[] 76));have HO:=Hd (World.ownsRow_lit (e:=76) (base:=w.heap.size) (size:=2) w #[] 0 (Le _) (by decide) rfl);have H1:=Hd (prC_one l);have HN:=Hd hn;clear hs hn;obtain ⟨n,hnn⟩:∃ n,l.length=n:=⟨_,rfl⟩
  rw [hnn] at HR HN ⊢;have HL:=Hd hnn;clear hnn;go_enter Tryz.func24,Tryz.ntmps24;go_wp2_with (at_builtin;go_must (refine U5 _ rfl _ _ 28 rfl w.heap.size 76 i0 _ 2 32 Tryz.underlying28 aU aW aK aR rfl (by decide) _ _ _ rfl HO.out w.heap.size (some a) n c (Ub prC l) rfl HR.out H1.out (by have:=HN.out;unfold maxLen;omega) (by have:=HN.out;omega) (by simp) ?_;intro v' w' aD aO _;have aS:=Hd aD;have bQ:Hid (World.grownBy _ w' (Value.slice (some ⟨w.heap.size,0,none⟩) 0 0).ownBlock):=Hd aO;clear aD aO));go_ret;have ho:=aS.out;rw [Nat.zero_add] at ho;obtain ⟨A',c',rfl,_⟩:=Ue ho;refine ⟨A',c',by rw [HL.out];rfl,?_,((Bf _ _).alloc (Le _) _).grown bQ.out (by simp) (by intro k hk;simp [Value.ownBlock] at hk;omega)⟩;rw [HL.out];simpa using ho
theorem Fa (x:Cnt):∀ u∈cnC x,u.oneCell'=true:=by
 intro u hu;have:=Vz x;simp only [List.all_toArray,List.all_eq_true] at this;exact this u hu
def reP (x:Cnt) (A:Option Addr) (c:Nat):Cnt:=⟨x.d,x.ap,A,x.pn,c,x.ps⟩
structure R1 (w:Wd) (h:Nat) (x:Cnt):Prop where
 lt:h<w.heap.size
 rg:∃ A c,w.rangeAt h 0 (cnC (reP x A c))∧CW w (reP x A c)
theorem R1.below {w w':Wd} {h:Nat} {x:Cnt} (k:R1 w h x) (hb:Below w.heap.size w w'):R1 w' h x:=by
 obtain ⟨A,c,h1,h2⟩:=k.rg;exact ⟨Nat.lt_of_lt_of_le k.lt hb.size,A,c,Ua h1 hb k.lt,h2.below hb⟩
def GivesR1 (x:Cnt) (w:Wd) (e:Ending) (w':Wd):Prop:=∃ h c,e = .returned (.iface 132 (.slice (some ⟨h,0,none⟩) 1 c))∧R1 w' h x∧Below w.heap.size w w'
theorem Ey {W:Wd} {b:Nat} {x:Cnt} (h:Blk W b 30 (cnC x).toArray):W.cell? ⟨b,22,none⟩=some (.slice x.pA x.pn x.pc):=(h.cell 22).trans rfl
theorem cn_set {W:Wd} {b:Nat} {x:Cnt} {A:Option Addr} {c:Nat} (h:Blk W b 30 (cnC x).toArray):Blk (W.setCell ⟨b,22,none⟩ (.slice A x.pn c)) b 30 (cnC (reP x A c)).toArray:=by
 have e:(cnC x).toArray.setIfInBounds 22 (.slice A x.pn c)=(cnC (reP x A c)).toArray:=rfl;have:=h.set 22 (.slice A x.pn c)
 rwa [e] at this
theorem CW.of_own' {w:Wd} {base c:Nat} {A:Option Addr} {x:Cnt} (h:w.ownsRow base 76 2 (.slice A x.pn c) x.pn (Ub prC x.ps)) (hl:x.pn≤1024) (hz:∀ q∈x.ps,q.rcd.size≤maxLen):CW w (reP x A c):=
 ⟨Sl.of_own (fun _=>rfl) (by decide) h,hl,own_nil h,hz⟩
theorem r1_end (x:Cnt) (A:Option Addr) (c n' h c'':Nat) (w w2 w3:Wd) (o':Obj) (hb:Below (w.alloc (.cells (cnC x).toArray 30)).heap.size (w.alloc (.cells (cnC x).toArray 30)) w2)
  (hp:w2.ownsRow (w.alloc (.cells (cnC x).toArray 30)).heap.size 76 2 (.slice A x.pn c) x.pn (Ub prC x.ps)) (hx:x.pn≤1024) (hrz:∀ q∈x.ps,q.rcd.size≤maxLen)
  (ho:w3.ownsRow w.heap.size 30 23 (.slice (some ⟨h,0,none⟩) 1 c'') n' (cnC (reP x A c))) (hg:((w2.setCell ⟨w.heap.size,22,none⟩ (.slice A x.pn c)).alloc o').grownBy w3 none):
  GivesR1 x w (.returned (.iface 132 (.slice (some ⟨h,0,none⟩) 1 c''))) w3:=by
 have hz:=hb.size;simp at hz;have hB:Blk w2 w.heap.size 30 (cnC x).toArray:=(Blk.new w _ _).below hb (by simp);have k1:=own_set hp hB (by decide) 22 (.slice A x.pn c);have k3:=Up (k1.alloc o') (Xh hg);refine ⟨h,c'',rfl,⟨(ho.lt h rfl).2,A,c,fun j v hv=>?_,CW.of_own' k3 hx hrz⟩,?_⟩
 ·rw [Nat.zero_add];have:=ho.cells (g:=h) rfl j v hv
  rwa [show ((⟨h,0,none⟩:Addr).add j)=⟨h,j,none⟩ from by unfold Addr.add;split<;>simp_all] at this
 ·refine Below.trans ?_ ((Xh hg).mono (by simp;omega));exact (((((Bf w.heap.size w).alloc (Le _) _).trans (hb.mono (by simp))).setCell (Le _) _)).alloc (by simp;omega) _
theorem Reader_g (x:Cnt) (g cc:Nat) (w:Wd) (hx:CW w x) (hr:w.rangeAt g 0 (cnC x)):
  Calls prog 52 #[.slice (some ⟨g,0,none⟩) 1 cc] w (GivesR1 x w):=by
 obtain ⟨i0,aU,aW,aK,aR⟩:=info_parts Eb;have HR:=Hd hr;have H1:=Hd (Vz x);have HB:=Hd fun old=>Blk.new w 30 old
 have HS:=Hd fun old=>U1 w old (cnC x).toArray 30
 have hlen:=hx.sl.len;have HC:Hid (∀ o,Calls prog 24 #[.slice x.pA x.pn x.pc] (w.alloc o) (GivesPs (w.alloc o) x.ps)):=Hd fun o=>clone_g x.pA x.pn x.pc x.ps (w.alloc o) (hx.sl.after ((Bf _ _).alloc (Le _) _) (by simp)) (by have:=hx.le;omega) hx.nil
 have dM:=Hd hx.le;have HRZ:=Hd hx.rz;have fH:=Hd hlen;have c22:=Ey (Blk.new w 30 (cnC x).toArray);clear hr hx hlen;go_enter Tryz.func52,Tryz.ntmps52;go_wp2;refine Lu 2 ?_;rw [Rs]
 go_wp2_with (first|((with_reducible refine Gl 30 10 ?_);refine Ln 30 g 0 (cnC x) HR.out Tryz.underlying30 ?_)|((with_reducible refine Gt 30 5 ?_);refine Lv 30 w.heap.size (cnC x).toArray (HB.out _) H1.out ?_;rw [HS.out])|(go_at_call 24;refine (HC.out _).mono ?_;rintro e w2 ⟨A',c',rfl,dK,aF⟩;rw [fH.out] at dK ⊢;have fW:=Hd dK;have aL:=Hd aF;clear c22 dK;have d22:=Ey ((Blk.new w 30 (cnC x).toArray).below aF (by simp));have f22:=((Blk.new w 30 (cnC x).toArray).below aF (by simp)).free 22;have HK:=Hd (cn_set (A:=A') (c:=c') ((Blk.new w 30 (cnC x).toArray).below aF (by simp)));have cF:=Hd (Vw (w2.setCell ⟨w.heap.size,22,none⟩ (.slice A' x.pn c')) (cnC (reP x A' c')) 30 1 23 rfl);clear aF)|((with_reducible refine Gl 30 5 ?_);refine Lq 30 w.heap.size _ HK.out Tryz.underlying30 ?_)|((with_reducible refine Gc 132 ?_);refine wpList_buildSlice rfl 132 30 1 _ rfl (cnC (reP x A' c')).toArray i0 (.agg zV.toArray) Tryz.underlying132 aU aW (by rw [aK];decide) (by rw [aK];decide) (by rw [aK];kernel_rfl) ?_)|(at_builtin;go_must (refine U5 _ rfl _ _ 132 rfl w.heap.size 30 i0 _ 23 216 Tryz.underlying132 aU aW aK aR rfl (by decide) (.slice none 0 0) 0 [] rfl ⟨rfl,.inl ⟨rfl,rfl⟩⟩ ((w2.setCell ⟨w.heap.size,22,none⟩ (.slice A' x.pn c')).heap.size+1) (some ⟨(w2.setCell ⟨w.heap.size,22,none⟩ (.slice A' x.pn c')).heap.size,0,none⟩) 1 1 (cnC (reP x A' c')) rfl cF.out (Fa (reP x A' c')) (by decide) (by decide) (size_ok aL.out) ?_;intro v' w3 aD aO _;have aS:=Hd aD;have bQ:Hid (World.grownBy _ w3 (Value.slice none 0 0).ownBlock):=Hd aO;clear aD aO)))
 rw [Rs];go_wp2;go_ret;obtain ⟨h,c'',rfl,_⟩:=Zt aS.out (by decide);exact r1_end x _ _ _ h c'' w w2 w3 _ aL.out fW.out dM.out HRZ.out aS.out bQ.out
theorem Gs (w:Wd):Calls prog 52 #[.slice none 0 0] w fun e w'=>e = .returned (.iface 132 (.slice none 0 0))∧Below w.heap.size w w':=by
 go_enter Tryz.func52,Tryz.ntmps52;go_wp2;refine Lu 1 ?_;rw [Rs];go_wp2;go_ret;exact ⟨rfl,Bf _ _⟩
theorem pairs1_g (x:Cnt) (b:Nat) (w:Wd) (h:w.cell? ⟨b,0,none⟩=some (.int .i64 x.d.id)):
  Calls prog 344 #[.agg (cnC x).toArray,.pointer (some ⟨b,0,none⟩)] w fun e w'=>e = .returned (.bool true)∧Below w.heap.size w w':=by
 have hb:=Jh h;have c0:(w.alloc (.cells (cnC x).toArray 30)).cell? ⟨w.heap.size,0,none⟩=some (.int .i64 x.d.id):=((Blk.new w 30 (cnC x).toArray).cell 0).trans rfl;have c1:(w.alloc (.cells (cnC x).toArray 30)).cell? ⟨b,0,none⟩=some (.int .i64 x.d.id):=(World.cell?_alloc_lt w _ _ hb).trans h;clear h hb;go_enter Tryz.func344,Tryz.ntmps344;go_wp2;go_ret;exact ⟨by simp,(Bf _ _).alloc (Le _) _⟩
theorem rindex_g (x:Cnt) (b h cc:Nat) (w:Wd) (hb:w.cell? ⟨b,0,none⟩=some (.int .i64 x.d.id)) (hr:w.rangeAt h 0 (cnC x)):
  Calls prog 343 #[.slice (some ⟨h,0,none⟩) 1 cc,.func (.func 344) #[] #[.pointer (some ⟨b,0,none⟩)]] w fun e w'=>e = .returned (.int .i64 0)∧Below w.heap.size w w':=by
 have HR:=Hd hr;have HC:=Hd (pairs1_g x b w hb);clear hr hb;go_enter Tryz.func343,Tryz.ntmps343;go_wp2;refine Lu 1 ?_;rw [Rs];go_wp2_with (first|((with_reducible refine Gl 30 14 ?_);refine Ln 30 h 0 (cnC x) HR.out Tryz.underlying30 ?_)|(go_at_call 344;refine HC.out.mono ?_;rintro e w2 ⟨rfl,hb⟩;have HB:=Hd hb;clear hb));go_ret;exact ⟨rfl,HB.out⟩
theorem rindex_none (b:Nat) (w:Wd):
  Calls prog 343 #[.slice none 0 0,.func (.func 344) #[] #[.pointer (some ⟨b,0,none⟩)]] w fun e w'=>e = .returned (.int .i64 (-1))∧w=w':=by
 go_enter Tryz.func343,Tryz.ntmps343;go_wp2;refine Lu 1 ?_;rw [Rs];go_wp2;go_ret;exact ⟨rfl,rfl⟩
theorem pairs_g (x:Cnt) (h cc:Nat) (w:Wd) (hh:h<w.heap.size) (hr:w.rangeAt h 0 (cnC x)):
  Calls prog 342 #[.slice (some ⟨h,0,none⟩) 1 cc,.int .i64 x.d.id] w fun e w'=>e = .returned (.slice x.pA x.pn x.pc)∧Below w.heap.size w w':=by
 have HR:=Hd hr;have HH:=Hd hh;have HC:=Hd (rindex_g x w.heap.size h cc (w.alloc (.cells #[.int .i64 x.d.id] 3)) ((Blk.new w 3 #[.int .i64 x.d.id]).cell 0) (Ua hr ((Bf _ _).alloc (Le _) _) hh));clear hr hh;go_enter Tryz.func342,Tryz.ntmps342;go_wp2_with (go_at_call 343;refine HC.out.mono ?_;rintro e w2 ⟨rfl,hb⟩;have HB:=Hd (((Bf w.heap.size w).alloc (Le _) _).trans (hb.mono (by simp)));clear hb;have c22:=(Ua HR.out HB.out HH.out 22 (.slice x.pA x.pn x.pc) rfl));go_ret;exact ⟨rfl,HB.out⟩
theorem pairs_none (id:Int) (w:Wd):Calls prog 342 #[.slice none 0 0,.int .i64 id] w fun e w'=>e = .returned (.slice none 0 0)∧Below w.heap.size w w':=by
 have HC:=Hd (rindex_none w.heap.size (w.alloc (.cells #[.int .i64 id] 3)));go_enter Tryz.func342,Tryz.ntmps342;go_wp2_with (go_at_call 343;refine HC.out.mono ?_;rintro e w2 ⟨rfl,rfl⟩);go_ret;exact ⟨rfl,(Bf _ _).alloc (Le _) _⟩
def Fw (l:List Pr) (k:Bz):Bz×Int:=if Y4 l k=true then (match l[l.findIdx (geK k)]? with|some p=>(p.rcd,0)|none=>(⟨#[]⟩,6)) else (⟨#[]⟩,6)
def nxI (l:List Pr) (k:Bz):Nat:=if Y4 l k=true then l.findIdx (geK k)+1 else l.findIdx (geK k)
def Gh (l:List Pr) (k:Bz):Bz×Bz×Int:=match l[nxI l k]? with|some p=>(p.key,p.rcd,0)|none=>(⟨#[]⟩,⟨#[]⟩,6)
def GivesGet (v:Bz×Int) (w:Wd) (e:Ending) (w':Wd):Prop:=e = .returned (.tuple #[.string v.1,.int .i64 v.2])∧Below w.heap.size w w'
def GivesNext (v:Bz×Bz×Int) (w:Wd) (e:Ending) (w':Wd):Prop:=e = .returned (.tuple #[.string v.1,.string v.2.1,.int .i64 v.2.2])∧Below w.heap.size w w'
structure RS (w:Wd) (sv:Value) (id:Int) (x:Cnt):Prop where
 cw:CW w x
 pairs:∀ W,Below w.heap.size w W→Calls prog 342 #[sv,.int .i64 id] W fun e w'=>e = .returned (.slice x.pA x.pn x.pc)∧Below W.heap.size W w'
theorem Get_g (A:Option Addr) (n c:Nat) (id:Int) (k:Bz) (x:Cnt) (w:Wd) (hx:RS w (.slice A n c) id x):
  Calls prog 340 #[.slice A n c,.int .i64 id,.string k] w (GivesGet (Fw x.ps k) w):=by
 have HC:=Hd (hx.pairs w (Bf _ _));have HF:=Hd fun W (hb:Below w.heap.size w W)=>F1 k x.pA x.pn x.pc x.ps W (hx.cw.below hb).sl (by have:=hx.cw.le;unfold maxLen;omega)
 have bO:x.ps.findIdx (geK k)≤x.pn:=by rw [←hx.cw.sl.len];exact List.findIdx_le_length
 by_cases hh:Y4 x.ps k=true
 ·have aG:x.ps.findIdx (geK k)<x.pn:=by
   rcases Nat.lt_or_ge (x.ps.findIdx (geK k)) x.pn with h|h
   ·exact h
   ·have h2:x.ps[x.ps.findIdx (geK k)]? =none:=List.getElem?_eq_none (by rw [hx.cw.sl.len];exact h);rw [hasK_no h2] at hh;cases hh
  obtain ⟨b,o,p,hA,hb,hg,aB⟩:=Sl.cell (f:=prC) (k:=2) (fun _=>rfl) hx.cw.sl aG;have hv:Fw x.ps k=(p.rcd,0):=by unfold Fw;rw [if_pos hh,hg]
  have c1':=aB 1 _ rfl;rw [hv];simp only [hh] at HF;obtain ⟨q,hq⟩:∃ q,x.ps.findIdx (geK k)=q:=⟨_,rfl⟩
  simp only [hq] at HF aG c1';rw [hA] at HC HF;have HCE:=Hd c1';have fD:=Hd hb;have aN:x.pn≤1024:=hx.cw.le;generalize x.pn=pn at HC HF aG aN;generalize x.pc=pc at HC HF;clear hx bO hh hA hb hg aB hv hq c1';go_enter Tryz.func340,Tryz.ntmps340;go_wp2_with (first|(go_at_call 342;refine HC.out.mono ?_;rintro e w2 ⟨rfl,hb⟩;have HB:=Hd hb;clear hb)|(go_at_call 158;refine (HF.out _ HB.out).mono ?_;rintro e w3 ⟨rfl,hb⟩;have b8:=Hd (U0 HB.out hb HB.out.size);have c1:=(b8.out.cell (p:=⟨b,o+q*2+1,none⟩) fD.out).trans HCE.out;clear hb))
  go_ret2
  exact ⟨rfl,b8.out⟩
 ·have hh':Y4 x.ps k=false:=by simpa using hh
  have hv:Fw x.ps k=(⟨#[]⟩,6):=by unfold Fw;rw [if_neg hh]
  rw [hv];simp only [hh'] at HF;generalize x.ps.findIdx (geK k)=q at HF;clear hx bO hh hh' hv;go_enter Tryz.func340,Tryz.ntmps340;go_wp2_with (first|(go_at_call 342;refine HC.out.mono ?_;rintro e w2 ⟨rfl,hb⟩;have HB:=Hd hb;clear hb)|(go_at_call 158;refine (HF.out _ HB.out).mono ?_;rintro e w3 ⟨rfl,hb⟩;have b8:=Hd (U0 HB.out hb HB.out.size);clear hb))
  go_ret2
  exact ⟨rfl,b8.out⟩
theorem Next_g (A:Option Addr) (n c:Nat) (id:Int) (k:Bz) (x:Cnt) (w:Wd) (hx:RS w (.slice A n c) id x):
  Calls prog 341 #[.slice A n c,.int .i64 id,.string k] w (GivesNext (Gh x.ps k) w):=by
 have HC:=Hd (hx.pairs w (Bf _ _));have HF:=Hd fun W (hb:Below w.heap.size w W)=>F1 k x.pA x.pn x.pc x.ps W (hx.cw.below hb).sl (by have:=hx.cw.le;unfold maxLen;omega)
 have bO:x.ps.findIdx (geK k)≤x.pn:=by rw [←hx.cw.sl.len];exact List.findIdx_le_length
 have aN:x.pn≤1024:=hx.cw.le;obtain ⟨t,ht⟩:∃ t,Y4 x.ps k=t:=⟨_,rfl⟩
 obtain ⟨q,hq⟩:∃ q,x.ps.findIdx (geK k)=q:=⟨_,rfl⟩
 have hi:nxI x.ps k=if t=true then q+1 else q:=by unfold nxI;rw [ht,hq]
 simp only [ht,hq] at HF;rw [hq] at bO;unfold Gh;rw [hi];cases t with
 |true=>
  rw [if_pos rfl];by_cases aG:q+1<x.pn
  ·obtain ⟨b,o,p,hA,hb,hg,aB⟩:=Sl.cell (f:=prC) (k:=2) (fun _=>rfl) hx.cw.sl aG;have c0':=aB 0 _ rfl;have c1':=aB 1 _ rfl;simp only [Nat.add_zero] at c0';rw [hg];rw [hA] at HC HF;have HCE0:=Hd c0';have HCE:=Hd c1';have fD:=Hd hb;generalize x.pn=pn at HC HF aG aN bO;generalize x.pc=pc at HC HF;clear hx hA hb hg aB hi hq ht c0' c1';go_enter Tryz.func341,Tryz.ntmps341;go_wp2_with (first|(go_at_call 342;refine HC.out.mono ?_;rintro e w2 ⟨rfl,hb⟩;have HB:=Hd hb;clear hb)|(go_at_call 158;refine (HF.out _ HB.out).mono ?_;rintro e w3 ⟨rfl,hb⟩;have b8:=Hd (U0 HB.out hb HB.out.size);have c0:=(b8.out.cell (p:=⟨b,o+(q+1)*2,none⟩) fD.out).trans HCE0.out;have c1:=(b8.out.cell (p:=⟨b,o+(q+1)*2+1,none⟩) fD.out).trans HCE.out;clear hb))
   go_quiet (fail)
   go_wp2
   go_ret3
   exact ⟨rfl,Uf b8.out _⟩
  ·rw [List.getElem?_eq_none (by rw [hx.cw.sl.len];omega)];generalize x.pn=pn at HC HF aG aN bO;generalize x.pc=pc at HC HF;clear hx hi hq ht;go_enter Tryz.func341,Tryz.ntmps341;go_wp2_with (first|(go_at_call 342;refine HC.out.mono ?_;rintro e w2 ⟨rfl,hb⟩;have HB:=Hd hb;clear hb)|(go_at_call 158;refine (HF.out _ HB.out).mono ?_;rintro e w3 ⟨rfl,hb⟩;have b8:=Hd (U0 HB.out hb HB.out.size);clear hb))
   go_ret3
   exact ⟨rfl,b8.out⟩
 |false=>
  rw [if_neg (by decide)];by_cases aG:q<x.pn
  ·obtain ⟨b,o,p,hA,hb,hg,aB⟩:=Sl.cell (f:=prC) (k:=2) (fun _=>rfl) hx.cw.sl aG;have c0':=aB 0 _ rfl;have c1':=aB 1 _ rfl;simp only [Nat.add_zero] at c0';rw [hg];rw [hA] at HC HF;have HCE0:=Hd c0';have HCE:=Hd c1';have fD:=Hd hb;generalize x.pn=pn at HC HF aG aN bO;generalize x.pc=pc at HC HF;clear hx hA hb hg aB hi hq ht c0' c1';go_enter Tryz.func341,Tryz.ntmps341;go_wp2_with (first|(go_at_call 342;refine HC.out.mono ?_;rintro e w2 ⟨rfl,hb⟩;have HB:=Hd hb;clear hb)|(go_at_call 158;refine (HF.out _ HB.out).mono ?_;rintro e w3 ⟨rfl,hb⟩;have b8:=Hd (U0 HB.out hb HB.out.size);have c0:=(b8.out.cell (p:=⟨b,o+q*2,none⟩) fD.out).trans HCE0.out;have c1:=(b8.out.cell (p:=⟨b,o+q*2+1,none⟩) fD.out).trans HCE.out;clear hb))
   go_quiet (fail)
   go_wp2
   go_ret3
   exact ⟨rfl,Uf b8.out _⟩
  ·rw [List.getElem?_eq_none (by rw [hx.cw.sl.len];omega)];generalize x.pn=pn at HC HF aG aN bO;generalize x.pc=pc at HC HF;clear hx hi hq ht;go_enter Tryz.func341,Tryz.ntmps341;go_wp2_with (first|(go_at_call 342;refine HC.out.mono ?_;rintro e w2 ⟨rfl,hb⟩;have HB:=Hd hb;clear hb)|(go_at_call 158;refine (HF.out _ HB.out).mono ?_;rintro e w3 ⟨rfl,hb⟩;have b8:=Hd (U0 HB.out hb HB.out.size);clear hb))
   go_ret3
   exact ⟨rfl,b8.out⟩
def stp (n:Int) (b i:Nat):Int:=bits BinOp.or IntKind.u64 n (IntKind.u64.wrap (IntKind.u64.wrap (bits BinOp.and IntKind.u8 (b:Int) 127)*2 ^ (7*i)))
theorem stp_nonneg (n:Int) (b i:Nat):0≤stp n b i:=by
 unfold stp bits;exact wrap_u64_nonneg _
def G3 (s:Bz):Nat→Int→Nat→Int×Int
 |0,_,_=>(0,0)
 |f+1,n,i=>
  if i<s.size then
   if i=9∧1<bAt s i then (0,0)
   else if bAt s i<128 then (if bAt s i=0∧0<i then (0,0) else (stp n (bAt s i) i,(i:Int)+1))
   else G3 s f (stp n (bAt s i) i) (i+1)
  else (0,0)
def G4 (s:Bz):Int×Int:=G3 s 10 0 0
theorem decL_range (s:Bz):∀ (f:Nat) (n:Int) (i:Nat),0≤(G3 s f n i).1∧0≤(G3 s f n i).2∧(G3 s f n i).2≤s.size
 |0,_,_=>by simp [G3]
 |f+1,n,i=>by
  unfold G3;split
  ·split
   ·simp
   ·split
    ·split
     ·simp
     ·exact ⟨stp_nonneg _ _ _,by simp;omega,by simp;omega⟩
    ·exact decL_range s f _ _
  ·simp
theorem decF_range (s:Bz):0≤(G4 s).1∧0≤(G4 s).2∧(G4 s).2≤s.size:=decL_range s 10 0 0
theorem tup2 {a b c d:Int} (h1:a=c) (h2:b=d):Ending.returned (.tuple #[.int .u64 a,.int .i64 b]) = .returned (.tuple #[.int .u64 c,.int .i64 d]):=by rw [h1,h2]
theorem decode_any (s:Bz) (w:Wd) (hs:s.size≤maxLen):Calls prog 242 #[.string s] w fun e w'=>e = .returned (.tuple #[.int .u64 (G4 s).1,.int .i64 (G4 s).2])∧w=w':=by
 unfold maxLen at hs;obtain ⟨R,hR⟩:∃ R,G4 s=R:=⟨_,rfl⟩
 rw [hR];have HR:=Hd hR;clear hR;go_enter Tryz.func242,Tryz.ntmps242;go_wp2;go_loop [4,5] (fun n i => ∃ (j f:Nat) (m:Int),j+f=10∧n = .int .u64 m∧i = .int .i64 j∧G3 s f m j=R) (fun _ i=>10-(intOf i).toNat)
 case atStart=>exact ⟨0,10,0,by decide,rfl,rfl,HR.out⟩
 case round=>
  obtain ⟨j,f,m,hj,rfl,rfl,aI⟩:=hrel
  match f,hj,aI with
  |0,hj,aI=>
   obtain rfl:j=10:=by omega
   have aY:=Hd aI;clear aI;go_wp2
   all_goals
    go_ret2
    exact ⟨tup2 (by rw [←aY.out];rfl) (by rw [←aY.out];rfl),rfl⟩
  |f+1,hj,aI=>
   have h10:j<10:=by omega
   have HJ:=Hd hj;by_cases aG:j<s.size
   ·obtain ⟨b,hb⟩:∃ b,(s[j]).toNat=b:=⟨_,rfl⟩
    have eL:bAt s j=b:=by rw [Zq s j aG,hb]
    have b7:=(s[j]).toNat_lt;rw [hb] at b7
    have hu:G3 s (f+1) m j=if j=9∧1<b then (0,0) else if b<128 then (if b=0∧0<j then (0,0) else (stp m b j,(j:Int)+1)) else G3 s f (stp m b j) (j+1):=by
     conv=>lhs;unfold G3
     rw [if_pos aG,eL]
    rw [hu] at aI;have aY:=Hd aI;clear eL aI hu hj;by_cases h9:j=9
    ·subst h9;by_cases h1:1<b
     ·go_wp2
      go_ret2
      have hr:=aY.out;simp [h1] at hr;exact ⟨tup2 (by rw [←hr]) (by rw [←hr]),rfl⟩
     ·by_cases h0:b=0
      ·subst h0;go_wp2
       go_ret2
       have hr:=aY.out;simp at hr;exact ⟨tup2 (by rw [←hr]) (by rw [←hr]),rfl⟩
      ·obtain rfl:b=1:=by omega
       go_wp2
       go_ret2
       have hr:=aY.out;simp at hr;exact ⟨tup2 (by rw [←hr];rfl) (by rw [←hr]),rfl⟩
    ·have e9:((j:Int) == 9)=false:=by simp;omega
     have H9:=Hd h9;clear h9;by_cases h128:b<128
     ·by_cases h0:b=0
      ·subst h0;by_cases hj0:j=0
       ·subst hj0;go_wp2
        go_ret2
        have hr:=aY.out;simp at hr;exact ⟨tup2 (by rw [←hr];rfl) (by rw [←hr]),rfl⟩
       ·have hj1:0<j:=by omega
        go_wp2
        go_ret2
        have hr:=aY.out;have n9:=H9.out;simp [n9,hj1] at hr;exact ⟨tup2 (by rw [←hr]) (by rw [←hr]),rfl⟩
      ·have e0:((b:Int) == 0)=false:=by simp;omega
       have H0:=Hd h0;clear h0;go_wp2
       go_ret2
       have hr:=aY.out;rw [if_neg (by intro h;exact H9.out h.1),if_pos h128,if_neg (by intro h;exact H0.out h.1)] at hr;exact ⟨tup2 (by rw [←hr];rfl) (by rw [←hr]),rfl⟩
     ·have hr:=aY.out;rw [if_neg (by intro h;exact H9.out h.1),if_neg h128] at hr;have aT:=Hd hr;clear hr;go_wp2
      go_round
      case rel=>exact ⟨j+1,f,stp m b j,by have:=HJ.out;omega,rfl,by go_num,aT.out⟩
      case measure=>simp [intOf];omega
   ·have hr:G3 s (f+1) m j=(0,0):=by unfold G3;rw [if_neg aG]
    rw [hr] at aI;have aY:=Hd aI;clear hr aI hj;go_wp2
    go_ret2
    exact ⟨tup2 (by rw [←aY.out]) (by rw [←aY.out]),rfl⟩
section
structure Far (S:List Nat) (w w':Wd):Prop where
 os:w'.os=w.os
 tape:w'.tape=w.tape
 output:w'.output=w.output
 size:w.heap.size≤w'.heap.size
 block:∀ k,k<w.heap.size→k ∉ S→w'.heap[k]? =w.heap[k]?
section
variable {w w' w'':Wd} {S T:List Nat}
theorem Far.refl (S:List Nat) (w:Wd):Far S w w:=⟨rfl,rfl,rfl,Le _,fun _ _ _=>rfl⟩
theorem Far.trans (h:Far S w w') (k:Far S w' w''):Far S w w'':=
 ⟨k.os.trans h.os,k.tape.trans h.tape,k.output.trans h.output,Lx h.size k.size,fun i hi hn=>(k.block i (Nat.lt_of_lt_of_le hi h.size) hn).trans (h.block i hi hn)⟩
theorem Far.next (h:Far S w w') (k:Far T w' w'') (hT:∀ i∈T,i∈S∨w.heap.size≤i):Far S w w'':=
 ⟨k.os.trans h.os,k.tape.trans h.tape,k.output.trans h.output,Lx h.size k.size,fun i hi hn=>(k.block i (Nat.lt_of_lt_of_le hi h.size) (fun ht=>(hT i ht).elim hn (by omega))).trans (h.block i hi hn)⟩
theorem Far.of_below (h:Below w.heap.size w w'):Far S w w':=⟨h.os,h.tape,h.output,h.size,fun i hi _=>h.block i hi⟩
theorem Far.below {B:Nat} (h:Far S w w') (hS:∀ k∈S,B≤k) (hB:B≤w.heap.size):Below B w w':=
 ⟨h.os,h.tape,h.output,h.size,fun i hi=>h.block i (Nat.lt_of_lt_of_le hi hB) (fun hs=>by have:=hS i hs;omega)⟩
theorem Far.alloc (h:Far S w w') (o:Obj):Far S w (w'.alloc o):=
 ⟨h.os,h.tape,h.output,by simp;have:=h.size;omega,fun i hi hn=>(Below.heap_alloc w' o i (Nat.lt_of_lt_of_le hi h.size)).trans (h.block i hi hn)⟩
theorem Far.set (h:Far S w w') (g o:Nat) (v:Value) (hg:g∈S∨w.heap.size≤g):Far S w (w'.setCell ⟨g,o,none⟩ v):=
 ⟨h.os,h.tape,h.output,by simpa [World.setCell] using h.size,fun i hi hn=>(Below.heap_setCell w' ⟨g,o,none⟩ v i (by intro e;have e':i=g:=e;subst e';rcases hg with hg|hg;exact hn hg;omega)).trans (h.block i hi hn)⟩
theorem Far.drewN (h:Far S w w') (n:Nat):Far S w (w'.drewN n):=⟨h.os,h.tape,h.output,h.size,h.block⟩
theorem Far.mono (h:Far S w w') (hs:∀ k∈S,k∈T):Far T w w':=⟨h.os,h.tape,h.output,h.size,fun i hi hn=>h.block i hi fun k=>hn (hs i k)⟩
theorem Blk.far' {g:Nat} {t:TypeId} {cs:Array Value} (h:Blk w g t cs) (hb:Far S w w') (hg:g ∉ S):Blk w' g t cs:=(hb.block g h.lt hg).trans h
end
def Rdr (w:Wd) (r:Nat) (left:Bz) (err:Int):Prop:=Blk w r 228 #[.string left,.int .i64 err]
theorem Rdr.c0 {w:Wd} {r:Nat} {left:Bz} {err:Int} (h:Rdr w r left err):w.cell? ⟨r,0,none⟩=some (.string left):=(Blk.cell h 0).trans rfl
theorem Rdr.c1 {w:Wd} {r:Nat} {left:Bz} {err:Int} (h:Rdr w r left err):w.cell? ⟨r,1,none⟩=some (.int .i64 err):=(Blk.cell h 1).trans rfl
theorem Rdr.set {w:Wd} {r:Nat} {left l2:Bz} {err e2:Int} (h:Rdr w r left err):Rdr ((w.setCell ⟨r,1,none⟩ (.int .i64 e2)).setCell ⟨r,0,none⟩ (.string l2)) r l2 e2:=((Blk.set h 1 _).set 0 _)
theorem Rdr.setL {w:Wd} {r:Nat} {left l2:Bz} {err:Int} (h:Rdr w r left err):Rdr (w.setCell ⟨r,0,none⟩ (.string l2)) r l2 err:=(Blk.set h 0 _)
def RrP (w:Wd) (r:Nat) (l:Bz) (e:Int) (w':Wd):Prop:=Rdr w' r l e∧Far [r] w w'
theorem Hm (r:Nat) (left:Bz) (e:Int) (w:Wd) (hr:Rdr w r left 0):Calls prog 148 #[.pointer (some ⟨r,0,none⟩),.int .i64 e] w fun x w'=>x = .returned (.tuple #[])∧RrP w r ⟨#[]⟩ e w':=by
 have HR:=Hd hr;have c1:=hr.c1;have f0:=Blk.free hr 0;have f1:=Blk.free hr 1;have c0:(w.setCell ⟨r,1,none⟩ (.int .i64 e)).cell? ⟨r,0,none⟩=some (.string left):=((Blk.set hr 1 _).cell 0).trans rfl;have g0:=Blk.free (Blk.set hr 1 (.int .i64 e)) 0;clear hr;go_enter Tryz.func148,Tryz.ntmps148;go_wp2
 go_end0
 exact ⟨rfl,HR.out.set,((Far.refl _ _).set _ _ _ (.inl (by simp))).set _ _ _ (.inl (by simp))⟩
theorem Zu (s:Bz) (w:Wd):Calls prog 122 #[.string s] w fun x w'=>x = .returned (.pointer (some ⟨w.heap.size,0,none⟩))∧w'=w.alloc (.cells #[.string s,.int .i64 0] 228):=by
 go_enter Tryz.func122,Tryz.ntmps122;go_wp2;go_ret;exact ⟨rfl,rfl⟩
theorem num1_any (s:Bz) (g:Nat) (n:Int) (w:Wd) (hs:s.size≤maxLen) (hg:Blk w g 173 #[.int .u64 n]):
  Calls prog 241 #[.string s,.pointer (some ⟨g,0,none⟩)] w fun x w'=>x = .returned (.int .i64 (G4 s).2)∧w'=w.setCell ⟨g,0,none⟩ (.int .u64 (G4 s).1):=by
 have HD:=Hd (decode_any s w hs);have c0:=(hg.cell 0).trans (show _=some (Value.int .u64 n) from rfl);have f0:=hg.free 0;clear hg hs;go_enter Tryz.func241,Tryz.ntmps241;go_wp2_with (go_at_call 242;refine HD.out.mono ?_;rintro e w' ⟨rfl,rfl⟩);go_ret;exact ⟨rfl,rfl⟩
def Ye (left:Bz) (err:Int):Int×Bz×Int:=
 if err=0 then (if (G4 left).2=0 then ((G4 left).1,⟨#[]⟩,11) else ((G4 left).1,left.extract (G4 left).2.toNat left.size,0)) else (0,left,err)
def TkP (w:Wd) (r g:Nat) (R:Int×Bz×Int) (x:Ending) (w':Wd):Prop:=x = .returned (.tuple #[])∧Rdr w' r R.2.1 R.2.2∧Blk w' g 173 #[.int .u64 R.1]∧Far [r,g] w w'
theorem take_num (r g:Nat) (left:Bz) (err:Int) (w:Wd) (hs:left.size≤maxLen) (hr:Rdr w r left err) (hg:Blk w g 173 #[.int .u64 0]) (aZ:r≠g):
  Calls prog 240 #[.pointer (some ⟨r,0,none⟩),.func (.func 241) #[] #[.pointer (some ⟨g,0,none⟩)]] w (TkP w r g (Ye left err)):=by
 have HR:=Hd hr;have HG:=Hd hg;have c1:=hr.c1;have c0:=hr.c0;by_cases he:err=0
 ·subst he;obtain ⟨k0,k1,k2⟩:=decF_range left;have HC:=Hd (num1_any left g 0 w hs hg);obtain ⟨n,k,hd⟩:∃ n k,G4 left=(n,k):=⟨_,_,rfl⟩
  have hn:Ye left 0=if k=0 then (n,⟨#[]⟩,11) else (n,left.extract k.toNat left.size,0):=by simp [Ye,hd]
  rw [hn];simp only [hd] at HC k0 k1 k2;obtain ⟨w1,dN⟩:∃ w1,w.setCell ⟨g,0,none⟩ (.int .u64 n)=w1:=⟨_,rfl⟩
  have r1:Rdr w1 r left 0:=by rw [←dN];exact Blk.far hr aZ _
  have g1:Blk w1 g 173 #[.int .u64 n]:=by rw [←dN];exact hg.set 0 _
  have b1:Far [r,g] w w1:=by rw [←dN];exact (Far.refl _ _).set _ _ _ (.inl (by simp))
  have R1:=Hd r1;have G1:=Hd g1;have HN:=Hd aZ;clear aZ;have B1:=Hd b1;simp only [dN] at HC;unfold maxLen at hs;clear hr hg hd hn dN r1 g1 b1;by_cases hk:k=0
  ·subst hk;rw [if_pos rfl];have HF:=Hd (Hm r left 11 w1 R1.out);go_enter Tryz.func240,Tryz.ntmps240;go_wp2_with (first|(go_at_call 241;refine HC.out.mono ?_;rintro e w' ⟨rfl,rfl⟩)|(go_at_call 148;refine HF.out.mono ?_;rintro e w' ⟨rfl,h1,h2⟩;have H1:=Hd h1;have H2:=Hd h2;clear h1 h2))
   go_end0
   exact ⟨rfl,H1.out,G1.out.far' H2.out (by simp;exact HN.out.symm),B1.out.trans (H2.out.mono (by simp))⟩
  ·rw [if_neg hk];have jV:(k == 0)=false:=by simpa using hk
   have q0:=R1.out.c0;have z0:=Blk.free R1.out 0;obtain ⟨m,rfl⟩:∃ m:Nat,k=m:=⟨k.toNat,by omega⟩
   have k3:m≤left.size:=by omega
   have HK:=Hd hk;clear hk;go_enter Tryz.func240,Tryz.ntmps240;go_wp2_with (go_at_call 241;refine HC.out.mono ?_;rintro e w' ⟨rfl,rfl⟩)
   go_end0
   exact ⟨rfl,R1.out.setL,G1.out.far HN.out.symm _,B1.out.set _ _ _ (.inl (by simp))⟩
 ·have hn:Ye left err=(0,left,err):=by simp [Ye,he]
  rw [hn];have he':(err == 0)=false:=by simpa using he
  have he2:(err != 0)=true:=by simpa using he
  clear hr hg hn he;go_enter Tryz.func240,Tryz.ntmps240;go_wp2
  go_end0
  exact ⟨rfl,HR.out,HG.out,Far.refl _ _⟩
theorem numF_pos {left:Bz}:0≤(Ye left 0).1:=by
 unfold Ye;rw [if_pos rfl];split<;>exact (decF_range left).1
theorem Kq (r:Nat) (left:Bz) (err:Int) (w:Wd) (hs:left.size≤maxLen) (hr:Rdr w r left err):
  Calls prog 186 #[.pointer (some ⟨r,0,none⟩)] w fun x w'=>x = .returned (.int .u64 (Ye left err).1)∧RrP w r (Ye left err).2.1 (Ye left err).2.2 w':=by
 have HT:=Hd (take_num r w.heap.size left err (w.alloc (.cells #[.int .u64 0] 173)) hs (Blk.alloc hr _) (Blk.new w _ _) (by have:=Blk.lt hr;omega));have HR:=Hd (Blk.lt hr);clear hr hs;obtain ⟨R,hR⟩:∃ R,Ye left err=R:=⟨_,rfl⟩
 rw [hR];rw [hR] at HT;clear hR;obtain ⟨n,l,e⟩:=R;go_enter Tryz.func186,Tryz.ntmps186;go_wp2_with (go_at_call 240;refine HT.out.mono ?_;rintro x w' ⟨rfl,h1,h2,h3⟩;have H1:=Hd h1;have H3:=Hd h3;have c0:=(h2.cell 0).trans (show _=some (Value.int .u64 n) from rfl);clear h1 h2 h3);go_ret;exact ⟨rfl,H1.out,((Far.refl _ _).alloc _).next H3.out (by intro i hi;simp at hi;rcases hi with rfl|rfl;exact .inl (by simp);exact .inr (Le _))⟩
def Ee (left:Bz) (err:Int) (most:Int):Int×Bz×Int:=
 if (Ye left err).2.2=0 then (if most<(Ye left err).1 then (0,⟨#[]⟩,8) else Ye left err) else (0,(Ye left err).2)
theorem rdCount_any (r:Nat) (left:Bz) (err most:Int) (w:Wd) (hs:left.size≤maxLen) (hr:Rdr w r left err) (hm0:0≤most) (hm1:most≤4611686018427387904):
  Calls prog 147 #[.pointer (some ⟨r,0,none⟩),.int .i64 most] w fun x w'=>x = .returned (.int .i64 (Ee left err most).1)∧RrP w r (Ee left err most).2.1 (Ee left err most).2.2 w':=by
 have HN:=Hd (Kq r left err w hs hr);clear hr;obtain ⟨R,hR⟩:∃ R,Ye left err=R:=⟨_,rfl⟩
 have hz:R.2.2=0→0≤R.1:=fun h=>by
  rw [←hR] at h ⊢;by_cases he:err=0
  ·subst he;exact numF_pos
  ·simp [Ye,he] at h
 unfold Ee;rw [hR];rw [hR] at HN;clear hR;obtain ⟨n,l,e⟩:=R;simp only at hz HN ⊢;by_cases he:e=0
 ·subst he;have h0:=hz rfl;rw [if_pos rfl];clear hz;by_cases hm:most<n
  ·rw [if_pos hm];go_enter Tryz.func147,Tryz.ntmps147;go_wp2_with (first|(go_at_call 186;refine HN.out.mono ?_;rintro x w1 ⟨rfl,h1,h2⟩;have H1:=Hd h1;have H2:=Hd h2;have c1:=h1.c1;clear h1 h2)|(go_at_call 148;refine (Hm r l 8 _ H1.out).mono ?_;rintro x w2 ⟨rfl,h3,h4⟩;have H3:=Hd h3;have H4:=Hd h4;clear h3 h4));go_ret;exact ⟨rfl,H3.out,H2.out.trans H4.out⟩
  ·rw [if_neg hm];go_enter Tryz.func147,Tryz.ntmps147;go_wp2_with (go_at_call 186;refine HN.out.mono ?_;rintro x w1 ⟨rfl,h1,h2⟩;have H1:=Hd h1;have H2:=Hd h2;have c1:=h1.c1;clear h1 h2);go_ret;exact ⟨rfl,H1.out,H2.out⟩
 ·rw [if_neg he];have he2:(e != 0)=true:=by simpa using he
  have he3:(e == 0)=false:=by simpa using he
  clear he hz;go_enter Tryz.func147,Tryz.ntmps147;go_wp2_with (go_at_call 186;refine HN.out.mono ?_;rintro x w1 ⟨rfl,h1,h2⟩;have H1:=Hd h1;have H2:=Hd h2;have c1:=h1.c1;clear h1 h2);go_ret;exact ⟨rfl,H1.out,H2.out⟩
end
def Ys (id:Int) (x:Cnt):Bool:=decide (x.d.id=id)
def Yn (st:List Cnt) (id:Int):Option Cnt:=st.find? (Ys id)
def Eo (st:List Cnt) (x:Cnt):List Cnt:=if st.findIdx (Ys x.d.id)<st.length then st.set (st.findIdx (Ys x.d.id)) x else st++[x]
def delS (st:List Cnt) (id:Int):List Cnt:=st.eraseIdx (st.findIdx (Ys id))
def kvE (e:MapEntry):Value×Value:=(e.key,e.val)
def kvX (x:Cnt):Value×Value:=(.int .i64 x.d.id,.agg (cnC x).toArray)
def Ent (es:List MapEntry) (st:List Cnt):Prop:=es.map kvE=st.map kvX
theorem Ent.nil_l {st:List Cnt} (h:Ent [] st):st = []:=by
 unfold Ent at h;simpa using h.symm
theorem Ent.cons_l {e:MapEntry} {es:List MapEntry} {st:List Cnt} (h:Ent (e::es) st):∃ x r,st=x::r∧e.key = .int .i64 x.d.id∧e.val = .agg (cnC x).toArray∧Ent es r:=by
 unfold Ent at h;cases st with
 |nil=>simp at h
 |cons x r=>
  simp only [List.map_cons,List.cons.injEq] at h;obtain ⟨h1,h2⟩:=h;unfold kvE kvX at h1;injection h1 with h3 h4
  exact ⟨x,r,rfl,h3,h4,h2⟩
theorem Ent.len {es:List MapEntry} {st:List Cnt} (h:Ent es st):es.length=st.length:=by
 have:=congrArg List.length h;simpa using this
theorem Ip (id:Int):∀ (es:List MapEntry) (st:List Cnt) (k:Nat),Ent es st →
  Instr.findNow (.int .i64) (.int .i64 id) es k=some ((Yn st id).map fun x=>(k+st.findIdx (Ys id),.agg (cnC x).toArray))
 | [],st,k,h=>by
  obtain rfl:=h.nil_l;rfl
 |e::es,st,k,h=>by
  obtain ⟨x,r,rfl,hk,hv,ht⟩:=h.cons_l;by_cases he:x.d.id=id
  ·have hi:Ys id x=true:=by simp [Ys,he]
   simp [Instr.findNow,hk,Instr.sameNow,he,Yn,hi,List.findIdx_cons,hv]
  ·have hi:Ys id x=false:=by simp [Ys,he]
   have hb:(id == x.d.id)=false:=by simp;omega
   have ih:=Ip id es r (k+1) ht;have hg:Yn (x::r) id=Yn r id:=by simp [Yn,hi]
   have hx:(x::r).findIdx (Ys id)=r.findIdx (Ys id)+1:=by simp [List.findIdx_cons,hi]
   rw [hg,hx];simp only [Instr.findNow,hk,Instr.sameNow,if_true,hb];rw [ih];congr 2;funext y;rw [Nat.add_assoc,Nat.add_comm 1]
def SB (w:Wd) (b:Nat) (st:List Cnt):Prop:=∃ (es:Array MapEntry) (c:Nat),w.heap[b]? =some (.map es c)∧Ent es.toList st∧MapKept.Stamped es c
theorem SB.lt {w:Wd} {b:Nat} {st:List Cnt} (h:SB w b st):b<w.heap.size:=by
 obtain ⟨es,c,hb,_⟩:=h;rcases Nat.lt_or_ge b w.heap.size with aG|hge
 ·exact aG
 ·rw [Array.getElem?_eq_none hge] at hb;cases hb
theorem SB.below {w w':Wd} {b B:Nat} {st:List Cnt} (h:SB w b st) (hb:Below B w w') (hB:b<B):SB w' b st:=by
 obtain ⟨es,c,h1,h2⟩:=h;exact ⟨es,c,(hb.block b hB).trans h1,h2⟩
theorem SB.after {w w':Wd} {b:Nat} {st:List Cnt} (h:SB w b st) (hb:Below w.heap.size w w'):SB w' b st:=h.below hb h.lt
theorem SB.alloc {w:Wd} {b:Nat} {st:List Cnt} (h:SB w b st) (o:Obj):SB (w.alloc o) b st:=h.after ((Bf _ _).alloc (Le _) o)
theorem SB.empty (w:Wd):SB (w.alloc (.map #[] 0)) w.heap.size []:=⟨#[],0,heap_alloc_new w _,rfl,MapKept.stamped_empty 0⟩
theorem Kx {st:List Cnt} {id:Int} {x:Cnt} (h:Yn st id=some x):st.findIdx (Ys id)<st.length∧st[st.findIdx (Ys id)]? =some x∧x.d.id=id:=by
 have h1:Ys id x=true:=List.find?_some h;have hm:x∈st:=List.mem_of_find?_eq_some h;have aG:st.findIdx (Ys id)<st.length:=List.findIdx_lt_length.2 ⟨x,hm,h1⟩;refine ⟨aG,?_,by simpa [Ys] using h1⟩;have h2:=List.find?_eq_getElem?_findIdx (p:=Ys id) (xs:=st);rw [←h2];exact h
theorem getS_none {st:List Cnt} {id:Int} (h:Yn st id=none):¬ st.findIdx (Ys id)<st.length:=by
 intro aG;have:=List.find?_eq_none.1 h;obtain ⟨x,hx,hp⟩:=List.findIdx_lt_length.1 aG;exact this x hx hp
theorem Ii (w:Wd) (b:Nat) (st:List Cnt) (id:Int) (h:SB w b st):
  (Instr.lookup 65 (.map (some b)) (.int .i64 id) true).run prog w = .ok (match Yn st id with|some x=>.tuple #[.agg (cnC x).toArray,.bool true]|none=>.tuple #[.agg zV.toArray,.bool false]) w:=by
 obtain ⟨es,c,hb,he,_⟩:=h;have hf:=Ip id es.toList st 0 he;have hc:(Instr.checkKey es.isEmpty 10000 3 (.int .i64 id)).run prog w = .ok () w:=MapKept.run_checkKey (k:=.int .i64 id) Tryz.underlying3 (by simp [MapKept.IsKey]) _ 9999;cases hg:Yn st id with
 |none=>
  rw [hg] at hf;unfold zV;simp [Instr.lookup,run_underlying Tryz.underlying65,MapKept.run_getObj_map hb,hc,MapKept.run_findKey Tryz.underlying3 hf]
 |some x=>
  rw [hg] at hf;simp [Instr.lookup,run_underlying Tryz.underlying65,MapKept.run_getObj_map hb,hc,MapKept.run_findKey Tryz.underlying3 hf]
theorem F3 {w:Wd} {b:Nat} {o:Obj}:Far [b] w { w with heap:=w.heap.setIfInBounds b o }:=
 ⟨rfl,rfl,rfl,by simp,fun k hk hn=>by
  show (w.heap.setIfInBounds b o)[k]? =_;rw [Array.getElem?_setIfInBounds_ne (by intro e;subst e;simp at hn)]⟩
theorem Ent.modify {es:List MapEntry} {st:List Cnt} (h:Ent es st) (i:Nat) (x:Cnt):Ent (es.modify i fun e=>{ e with key:=.int .i64 x.d.id,val:=.agg (cnC x).toArray }) (st.set i x):=by
 unfold Ent at h ⊢;apply List.ext_getElem?;intro j;have hj:=congrArg (fun l=>l[j]?) h;simp only [List.getElem?_map] at hj ⊢;rw [List.getElem?_modify,List.getElem?_set];by_cases e:i=j
 ·subst e;have hl:=h▸(congrArg List.length h);rcases Nat.lt_or_ge i es.length with aG|hge
  ·have hlt2:i<st.length:=by have:=congrArg List.length h;simp at this;omega
   rw [List.getElem?_eq_getElem aG];simp [hlt2,kvE,kvX]
  ·have hge2:st.length≤i:=by have:=congrArg List.length h;simp at this;omega
   rw [List.getElem?_eq_none hge];simp [Nat.not_lt.2 hge2]
 ·rw [if_neg e];simp [e];simpa using hj
theorem Ent.keys {es:List MapEntry} {st:List Cnt} (h:Ent es st) {e:MapEntry} (he:e∈es):∃ x∈st,e.key = .int .i64 x.d.id:=by
 unfold Ent at h;have:kvE e∈st.map kvX:=h▸List.mem_map_of_mem he;obtain ⟨x,hx,hxe⟩:=List.mem_map.1 this;refine ⟨x,hx,?_⟩;unfold kvE kvX at hxe;injection hxe with h1 _
 exact h1.symm
theorem Ha (w:Wd) (b:Nat) (st:List Cnt) (x:Cnt) (h:SB w b st):
  ∃ w',(Instr.mapUpdate 65 (.map (some b)) (.int .i64 x.d.id) (.agg (cnC x).toArray)).run prog w = .ok () w'∧SB w' b (Eo st x)∧Far [b] w w':=by
 obtain ⟨es,c,hb,he,hs⟩:=h;have hf:=Ip x.d.id es.toList st 0 he;have hc:(Instr.checkKey false 10000 3 (.int .i64 x.d.id)).run prog w = .ok () w:=MapKept.run_checkKey (k:=.int .i64 x.d.id) Tryz.underlying3 (by simp [MapKept.IsKey]) false 9999;cases hg:Yn st x.d.id with
 |none=>
  rw [hg] at hf;have hn:=getS_none hg;refine ⟨{ w with heap:=w.heap.setIfInBounds b (.map (es.push ⟨.int .i64 x.d.id,.agg (cnC x).toArray,c⟩) (c+1)) },?_,⟨_,_,(MapKept.heap_set hb).1,?_,?_⟩,F3⟩
  ·simp [Instr.mapUpdate,run_underlying Tryz.underlying65,MapKept.run_getObj_map hb,hc,MapKept.run_findKey Tryz.underlying3 hf,MapKept.run_setObj_map _ hb,Result.andThen]
  ·unfold Eo;rw [if_neg hn];unfold Ent at he ⊢;rw [Array.toList_push,List.map_append,he,List.map_append];rfl
  ·refine MapKept.stamped_push hs fun e hm hk=>?_
   obtain ⟨y,hy,hyk⟩:=Ent.keys he hm;rw [hyk] at hk;injection hk with _ hk
   have:=List.find?_eq_none.1 hg y hy;exact this (by simp [Ys,hk])
 |some y=>
  rw [hg] at hf;obtain ⟨aG,dY,hid⟩:=Kx hg
  have hlt2:st.findIdx (Ys x.d.id)<es.size:=by
   have:=he.len;rw [Array.length_toList] at this;omega
  obtain ⟨i,hi⟩:∃ i,st.findIdx (Ys x.d.id)=i:=⟨_,rfl⟩
  have hke:(es[i]?.map fun e=>e.key)=some (.int .i64 x.d.id):=by
   have h0:=congrArg (fun l=>l[i]?) he;simp only [List.getElem?_map,Array.getElem?_toList] at h0;rw [hi] at dY;rw [dY] at h0;cases h3:es[i]? with
   |none=>rw [h3] at h0;simp at h0
   |some e=>
    rw [h3] at h0;simp [kvE,kvX] at h0;simp [h0.1,hid]
  have hk:(Instr.keyThatStays ((Option.map (fun x=>x.key) es[i]?).getD (.int .i64 x.d.id)) (.int .i64 x.d.id)).run prog w = .ok (.int .i64 x.d.id) w:=by
   rw [hke];exact MapKept.run_keyThatStays (d:=.int .i64) (by simp [MapKept.IsKey])
  refine ⟨{ w with heap:=w.heap.setIfInBounds b (.map (es.modify i fun e=>{ e with key:=.int .i64 x.d.id,val:=.agg (cnC x).toArray }) c) },?_,⟨_,_,(MapKept.heap_set hb).1,?_,?_⟩,F3⟩
  ·rw [hi] at hf;simp only [Option.map_some,Nat.zero_add] at hf;simp [Instr.mapUpdate,run_underlying Tryz.underlying65,MapKept.run_getObj_map hb,hc,MapKept.run_findKey Tryz.underlying3 hf,MapKept.run_setObj_map _ hb,hk,Result.andThen]
  ·unfold Eo;rw [if_pos aG,hi,Array.toList_modify];exact he.modify i x
  ·refine MapKept.stamped_modify hs _ _ (fun _ _=>rfl) fun e _ hee=>?_
   rw [hee] at hke;simp at hke;exact hke.symm
theorem Ent.erase {es:List MapEntry} {st:List Cnt} (h:Ent es st) (i:Nat):Ent (es.eraseIdx i) (st.eraseIdx i):=by
 unfold Ent at h ⊢;rw [List.eraseIdx_eq_take_drop_succ,List.eraseIdx_eq_take_drop_succ,List.map_append,List.map_append,List.map_take,List.map_drop,List.map_take,List.map_drop,h]
theorem del_run (ty:TypeId) (w:Wd) (b:Nat) (st:List Cnt) (id:Int) (h:SB w b st):
  ∃ w',(Builtin.delete_ #[65,3] ty #[.map (some b),.int .i64 id]).run prog w = .ok (.tuple #[]) w'∧SB w' b (delS st id)∧Far [b] w w':=by
 obtain ⟨es,c,hb,he,hs⟩:=h;have hf:=Ip id es.toList st 0 he;have hc:(Instr.checkKey es.isEmpty 10000 3 (.int .i64 id)).run prog w = .ok () w:=MapKept.run_checkKey (k:=.int .i64 id) Tryz.underlying3 (by simp [MapKept.IsKey]) _ 9999;cases hg:Yn st id with
 |none=>
  rw [hg] at hf;have hn:=getS_none hg;refine ⟨{ w with heap:=w.heap.setIfInBounds b (.map es c) },?_,⟨es,c,(MapKept.heap_set hb).1,?_,hs⟩,F3⟩
  ·simp [Builtin.delete_,run_underlying Tryz.underlying65,MapKept.run_getObj_map hb,hc,MapKept.run_findKey Tryz.underlying3 hf,MapKept.run_setObj_map _ hb,Result.andThen]
  ·unfold delS;rw [List.eraseIdx_of_length_le (by omega)];exact he
 |some y=>
  rw [hg] at hf;obtain ⟨aG,dY,hid⟩:=Kx hg;obtain ⟨i,hi⟩:∃ i,st.findIdx (Ys id)=i:=⟨_,rfl⟩
  have hlt2:i<es.size:=by
   have:=he.len;rw [Array.length_toList] at this;omega
  refine ⟨{ w with heap:=w.heap.setIfInBounds b (.map (es.eraseIdxIfInBounds i) c) },?_,⟨_,_,(MapKept.heap_set hb).1,?_,MapKept.stamped_erase hs i⟩,F3⟩
  ·rw [hi] at hf;simp only [Option.map_some,Nat.zero_add] at hf;simp [Builtin.delete_,run_underlying Tryz.underlying65,MapKept.run_getObj_map hb,hc,MapKept.run_findKey Tryz.underlying3 hf,MapKept.run_setObj_map _ hb,Result.andThen]
  ·unfold delS;rw [hi]
   have e:(es.eraseIdxIfInBounds i).toList=es.toList.eraseIdx i:=by
    unfold Array.eraseIdxIfInBounds;rw [dif_pos hlt2,Array.toList_eraseIdx]
   rw [e];exact he.erase i
theorem Fb {w:Wd} {b:Nat} {es:Array MapEntry} {c:Nat} (h:w.heap[b]? =some (.map es c)) (p:Addr) (hp:p.block=b):w.cell? p=none:=by
 subst hp;simp [World.cell?,h]
structure SW (w:Wd) (b:Nat) (st:List Cnt):Prop where
 sb:SB w b st
 cw:∀ x∈st,CW w x
theorem SW.below {w w':Wd} {b:Nat} {st:List Cnt} (h:SW w b st) (hb:Below w.heap.size w w'):SW w' b st:=⟨h.sb.after hb,fun x hx=>(h.cw x hx).below hb⟩
theorem CW.far {w w':Wd} {b:Nat} {st st':List Cnt} {x:Cnt} (h:CW w x) (h1:SB w b st) (h2:SB w' b st') (hf:Far [b] w w'):CW w' x:=by
 refine ⟨(h.sl.keep fun p hp=>?_).more hf.size,h.le,h.nil,h.rz⟩;by_cases e:p.block=b
 ·obtain ⟨es,c,hb,_⟩:=h1;obtain ⟨es',c',gR,_⟩:=h2;rw [Fb hb p e,Fb gR p e]
 ·exact World.cell?_of_block (hf.block p.block hp (by simpa using e))
theorem mem_putS {st:List Cnt} {x y:Cnt} (h:y∈Eo st x):y=x∨y∈st:=by
 unfold Eo at h;split at h
 ·rcases List.mem_or_eq_of_mem_set h with h|h
  ·exact .inr h
  ·exact .inl h
 ·rcases List.mem_append.1 h with h|h
  ·exact .inr h
  ·exact .inl (by simpa using h)
theorem mem_delS {st:List Cnt} {id:Int} {y:Cnt} (h:y∈delS st id):y∈st:=List.mem_of_mem_eraseIdx h
theorem mem_getS {st:List Cnt} {id:Int} {x:Cnt} (h:Yn st id=some x):x∈st:=List.mem_of_find?_eq_some h
theorem SW.get {w:Wd} {b:Nat} {st:List Cnt} {id:Int} {x:Cnt} (h:SW w b st) (hg:Yn st id=some x):CW w x:=h.cw x (mem_getS hg)
theorem SW.put {w w':Wd} {b:Nat} {st:List Cnt} {x:Cnt} (h:SW w b st) (hx:CW w x) (h2:SB w' b (Eo st x)) (hf:Far [b] w w'):SW w' b (Eo st x):=
 ⟨h2,fun y hy=>by
  rcases mem_putS hy with rfl|hy
  ·exact hx.far h.sb h2 hf
  ·exact (h.cw y hy).far h.sb h2 hf⟩
theorem SW.del {w w':Wd} {b:Nat} {st:List Cnt} {id:Int} (h:SW w b st) (h2:SB w' b (delS st id)) (hf:Far [b] w w'):SW w' b (delS st id):=
 ⟨h2,fun y hy=>(h.cw y (mem_delS hy)).far h.sb h2 hf⟩
def Ia (v:Cnt→Bool):List Cnt→List Cnt→Option (List Cnt)
 |st,[]=>some st
 |st,x::r=>if (Yn st x.d.id).isSome=true∨v x=false then none else Ia v (Eo st x) r
def BegG (R:Option (List Cnt)) (w:Wd) (e:Ending) (w':Wd):Prop:=match R with
 |none=>e = .returned (.tuple #[.map none,.bool false])∧Below w.heap.size w w'
 |some st=>e = .returned (.tuple #[.map (some w.heap.size),.bool true])∧SW w' w.heap.size st∧Below w.heap.size w w'
theorem Z8 {w0 w w':Wd} {B b:Nat} (h:Below B w0 w) (hf:Far [b] w w') (hb:B≤b) (hB:B≤w.heap.size):Below B w0 w':=
 h.trans (hf.below (by simpa using hb) hB)
theorem begin_g (v:Cnt→Bool) (A:Option Addr) (n c:Nat) (l:List Cnt) (w:Wd) (hs:Sl cnC 23 w w.heap.size A n c l) (hp:∀ x∈l,CW w x) (hn:n≤1024)
  (HV:∀ x∈l,∀ W,Below w.heap.size w W→Calls prog 68 #[.agg (cnC x).toArray] W fun e w'=>e = .returned (.bool (v x))∧Below W.heap.size W w'):
  Calls prog 47 #[.slice A n c] w (BegG (Ia v [] l) w):=by
 have HS:=Hd hs;have HL:=Hd hs.len;have HP:=Hd hp;have HVV:=Hd HV;clear hs hp HV;obtain ⟨R,hR⟩:∃ R,Ia v [] l=R:=⟨_,rfl⟩
 rw [hR];have HR:=Hd hR;clear hR;have HZ:=Hd zV_one;have hmm:=@run_makeMap prog;have H0:Hid (SW (w.alloc (.map #[] 0)) w.heap.size []):=Hd ⟨SB.empty w,fun x hx=>by simp at hx⟩;go_enter Tryz.func47,Tryz.ntmps47;go_wp2;go_loopw [12] (fun i wr => ∃ (j:Nat) (st:List Cnt),j≤n∧i = .int .i64 j∧Ia v st (l.drop j)=R∧SW wr w.heap.size st∧Below w.heap.size w wr∧w.heap.size+1≤wr.heap.size) (fun i _=>n-(intOf i).toNat)
 case atStart=>exact ⟨0,[],Z0 _,rfl,HR.out,H0.out,(Bf _ _).alloc (Le _) _,by simp⟩
 case round=>
  obtain ⟨j,st,hj,rfl,aI,hst,aE,aN⟩:=hrel;obtain ⟨wx,rfl⟩:∃ x:Wd,x=wr:=⟨_,rfl⟩
  have bG:=Hd aE;have cH:=Hd hst;have eF:=Hd aN;by_cases aG:j<n
  ·obtain ⟨b,o,x,rfl,hb,hg,aB⟩:=Sl.cell (f:=cnC) (k:=23) (fun _=>rfl) (HS.out.below aE) aG;have hx:x∈l:=List.mem_of_getElem? hg
   have hd:l.drop j=x::l.drop (j+1):=by
    have hjl:j<l.length:=by rw [HL.out];exact aG
    rw [List.drop_eq_getElem_cons hjl];congr 1;exact (List.getElem?_eq_some_iff.1 hg).2
   rw [hd] at aI;unfold Ia at aI;have HM:Hid (wx.rangeAt b (o+j*23) (cnC x)):=Hd fun t u hu=>aB t u hu
   have fJ:=Hd (Vz x);have aQ:=Hd fun old=>Blk.new wx 30 old
   have bK:=Hd fun old=>U1 wx old (cnC x).toArray 30
   obtain ⟨X,hX⟩:∃ X,wx.alloc (.cells (cnC x).toArray 30)=X:=⟨_,rfl⟩
   have hXb:Below wx.heap.size wx X:=by rw [←hX];exact (Bf _ _).alloc (Le _) _
   have hXk:Blk X wx.heap.size 30 (cnC x).toArray:=by rw [←hX];exact Blk.new wx _ _
   have hXz:X.heap.size=wx.heap.size+1:=by rw [←hX];simp
   simp only [hX] at bK;have hl:=Ii X w.heap.size st x.d.id (hst.below hXb).sb;have c0:X.cell? ⟨wx.heap.size,0,none⟩=some (.int .i64 x.d.id):=(hXk.cell 0).trans rfl;have aL:=Hd fun old=>U3 X 30 old (wx.heap.size+1) hXz.symm
   have HX:=Hd hX;have HXB:=Hd hXb;have HXK:=Hd hXk;have eD:=Hd hXz;have aY:=Hd aI;have HXL:=Hd hx;have bE:=Hd aG;clear hb hg aB hd aI hst aE aN hX hXb hXk hx;cases hgs:Yn st x.d.id with
   |some y=>
    rw [hgs] at hl;simp only at hl;have hr:=aY.out;rw [hgs,if_pos (.inl rfl)] at hr;have HRN:=Hd hr;have HY:=Hd (Vz y);have bR:Hid (∀ old,(X.alloc (.cells old 30)).setRow (wx.heap.size+1) (cnC y).toArray=X.alloc (.cells (cnC y).toArray 30)):=Hd fun old=>Ug X (wx.heap.size+1) eD.out.symm old (cnC y).toArray 30
    clear hr hgs;go_wp2_with (first|(refine Ln 30 b (o+j*23) (cnC x) HM.out Tryz.underlying30 ?_)|(refine Lv 30 wx.heap.size (cnC x).toArray (aQ.out _) fJ.out ?_;rw [bK.out])|(refine Lv 30 (wx.heap.size+1) (cnC y).toArray (aL.out _) HY.out ?_;rw [bR.out]))
    go_ret2
    rw [←HRN.out];exact ⟨rfl,(U0 bG.out HXB.out bG.out.size).alloc (by have:=eF.out;have:=eD.out;omega) _⟩
   |none=>
    rw [hgs] at hl;simp only at hl;have bR:Hid (∀ old,(X.alloc (.cells old 30)).setRow (wx.heap.size+1) zV.toArray=X.alloc (.cells zV.toArray 30)):=Hd fun old=>Ug X (wx.heap.size+1) eD.out.symm old zV.toArray 30
    obtain ⟨Y,hY⟩:∃ Y,X.alloc (.cells zV.toArray 30)=Y:=⟨_,rfl⟩
    have gN:Below wx.heap.size wx Y:=by rw [←hY];exact HXB.out.alloc (by have:=eD.out;omega) _
    have gS:Blk Y wx.heap.size 30 (cnC x).toArray:=by rw [←hY];exact HXK.out.alloc _
    simp only [hY] at bR;have HYB:=Hd gN;have fE:=Hd gS;have kU:=Hd (HVV.out x HXL.out Y (U0 bG.out gN bG.out.size));obtain ⟨q,hq⟩:∃ q,v x=q:=⟨_,rfl⟩
    have hr:=aY.out;rw [hq] at kU;rw [hgs,hq] at hr;clear hY gN gS hq;cases q with
    |false=>
     rw [if_pos (.inr rfl)] at hr;have HRN:=Hd hr;clear hr hgs;go_wp2_with (first|(refine Ln 30 b (o+j*23) (cnC x) HM.out Tryz.underlying30 ?_)|(refine Lv 30 wx.heap.size (cnC x).toArray (aQ.out _) fJ.out ?_;rw [bK.out])|(refine Lv 30 (wx.heap.size+1) zV.toArray (aL.out _) HZ.out ?_;rw [bR.out])|(refine U9 (by kernel_rfl) 30 _ rfl wx.heap.size rfl 30 _ (0,0) _ fE.out Tryz.underlying30 rfl (by kernel_rfl) ?_)|(go_at_call 68;refine kU.out.mono ?_;rintro e w2 ⟨rfl,aF⟩;have b8:=Hd aF;clear aF c0 hl))
     go_ret2
     rw [←HRN.out];exact ⟨rfl,U0 (U0 bG.out HYB.out bG.out.size) b8.out (Lx bG.out.size HYB.out.size)⟩
    |true=>
     rw [if_neg (by simp)] at hr;have HRN:=Hd hr;clear hr hgs
     go_wp2_with (first|(refine Ln 30 b (o+j*23) (cnC x) HM.out Tryz.underlying30 ?_)|(refine Lv 30 wx.heap.size (cnC x).toArray (aQ.out _) fJ.out ?_;rw [bK.out])|(refine Lv 30 (wx.heap.size+1) zV.toArray (aL.out _) HZ.out ?_;rw [bR.out])|(refine U9 (by kernel_rfl) 30 _ rfl wx.heap.size rfl 30 _ (0,0) _ fE.out Tryz.underlying30 rfl (by kernel_rfl) ?_)|(go_at_call 68;refine kU.out.mono ?_;rintro e w2 ⟨rfl,aF⟩;have b8:=Hd (HYB.out.trans (aF.mono HYB.out.size));have hk2:=fE.out.below aF (by have:=fE.out.lt;exact this);have cX:=Hd hk2;clear c0 hl;have c0:w2.cell? ⟨wx.heap.size,0,none⟩=some (.int .i64 x.d.id):=(hk2.cell 0).trans rfl;obtain ⟨w3,dR,jS,bW⟩:=Ha w2 w.heap.size st x (cH.out.below b8.out).sb;have HSB:=Hd jS;have iZ:=Hd bW;clear aF hk2 jS bW)|(refine Lq 30 wx.heap.size _ cX.out Tryz.underlying30 ?_))
     go_roundw
     case rel=>
      have hs2:=cH.out.below b8.out;have dO:=((HP.out x HXL.out).below bG.out).below b8.out;refine ⟨j+1,Eo st x,by have:=bE.out;omega,by go_num,HRN.out,hs2.put dO HSB.out iZ.out,Z8 (U0 bG.out b8.out bG.out.size) iZ.out (Le _) (Lx bG.out.size b8.out.size),?_⟩;have:=eF.out;have:=b8.out.size;have:=iZ.out.size;omega
     case measure=>simp [intOf];have:=bE.out;omega
  ·obtain rfl:j=n:=by omega
   rw [List.drop_of_length_le (by rw [HL.out];exact Le _)] at aI;have aY:=Hd aI;clear aI hst aE aN;go_wp2
   go_ret2
   rw [←aY.out];exact ⟨rfl,cH.out,bG.out⟩
end Go.Proofs.YtoakknkmjnebjaaGreatDoor
