/- Part of the proof of HistoryReads. -/
import Derived.Test.YtapanepkfbamhaaGreatDoorJAK
namespace Go.Proofs.YtapanepkfbamhaaGreatDoor
open Tryz (prog)
section
set_option maxRecDepth 100000
set_option maxHeartbeats 1000000
open Go.RowKit
def PR (b:Bool) (w:World) (A:Option Addr) (n c:Nat):Prop:=
 if b=true then ∃ g,A=some ⟨g,0,none⟩∧n=1∧1≤c∧c≤maxLen∧g<w.heap.size∧w.rangeAt g 0 [.string ⟨#[107]⟩,.string ⟨#[107,49]⟩] else A=none∧n=0∧c=0
theorem U9 {w w':World} {B g o:Nat} {xs:List Value} (h:w.rangeAt g o xs) (hb:Below B w w') (hg:g<B):w'.rangeAt g o xs:=fun j v hv=>(hb.cell (p:=⟨g,o+j,none⟩) hg).trans (h j v hv)
theorem PR.below {b:Bool} {w w':World} {A:Option Addr} {n c:Nat} (h:PR b w A n c) (hb:Below w.heap.size w w'):PR b w' A n c:=by
 cases b with
 |false=>exact h
 |true=>
  obtain ⟨g,h1,h2,h3,h3',h4,h5⟩:=h;exact ⟨g,h1,h2,h3,h3',Nat.lt_of_lt_of_le h4 hb.size,U9 h5 hb h4⟩
theorem PR.of_own {w:World} {base g c:Nat} (h:w.ownsRow base 76 2 (.slice (some ⟨g,0,none⟩) 1 c) 1 [.string ⟨#[107]⟩,.string ⟨#[107,49]⟩]):PR true w (some ⟨g,0,none⟩) 1 c:=by
 obtain ⟨A',c',e,h2,h2'⟩:=Ub h;injection e with _ _ e
 subst e;refine ⟨g,rfl,rfl,h2,h2',(h.lt g rfl).2,fun j v hv=>?_⟩;rw [Nat.zero_add];have:=h.cells (g:=g) rfl j v hv
 rwa [show ((⟨g,0,none⟩:Addr).add j)=⟨g,j,none⟩ from by unfold Addr.add;split<;>simp_all] at this
theorem PR.rd {w:World} {A:Option Addr} {n c:Nat} (h:PR true w A n c):Rd w w.heap.size 2 A n [.string ⟨#[107]⟩,.string ⟨#[107,49]⟩]:=by
 obtain ⟨g,rfl,rfl,_,_,h4,h5⟩:=h;exact ⟨rfl,fun _=>⟨g,0,rfl,h4,fun j u hu=>h5 j u hu⟩⟩
def GivesPR (b:Bool) (w:World) (e:Ending) (w':World):Prop:=∃ A n c,e = .returned (.slice A n c)∧PR b w' A n c∧Below w.heap.size w w'∧∀ a,A=some a→w.heap.size≤a.block
theorem PR.set {b:Bool} {w:World} {A:Option Addr} {n c:Nat} (h:PR b w A n c) (p:Addr) (v:Value) (hp:∀ a,A=some a→p.block<a.block):PR b (w.setCell p v) A n c:=by
 cases b with
 |false=>exact h
 |true=>
  obtain ⟨g,h1,h2,h3,h3',h4,h5⟩:=h;have hg:p.block<g:=hp _ h1;exact ⟨g,h1,h2,h3,h3',by simpa using h4,fun j u hu=>(World.cell?_setCell_other w p _ v (fun e=>by subst e;simp at hg)).trans (h5 j u hu)⟩
theorem Xg {w w':World} (h:w.grownBy w' none):Below w.heap.size w w':=⟨h.os,h.tape,h.output,h.size,fun k hk=>h.block k hk (by simp)⟩
theorem cloneP_any (b:Bool) (A:Option Addr) (n c:Nat) (w:World) (hp:PR b w A n c):Calls prog 24 #[.slice A n c] w (GivesPR b w):=by
 cases b with
 |false=>
  obtain ⟨rfl,rfl,rfl⟩:=hp;exact (Ee w).mono fun e w' ⟨h1,h2⟩=>⟨none,0,0,h1,⟨rfl,rfl,rfl⟩,h2▸Bf _ _,fun a ha=>by cases ha⟩
 |true=>
  have qq:∀ (w:World) (a:Option Addr) (n c n' c':Nat),(binOp .eql 28 (.slice a n c) (.slice none n' c')).run prog w = .ok (.bool a.isNone) w:=fun w a n c n' c'=>Lib.run_eql_slice_nil w _ _ a n c n' c' Tryz.underlying28
  obtain ⟨i0,hi0,hz0,hz1,hz2⟩:=info_parts Xe;have HR:=Hd ((PR.rd hp).alloc (Le _) (.cells #[] 76));have HO:=Hd (World.ownsRow_lit (e:=76) (base:=w.heap.size) (size:=2) w #[] 0 (Le _) (by decide) rfl);obtain ⟨g,rfl,rfl,_,_,_,_⟩:=hp;go_enter Tryz.func24,Tryz.ntmps24;go_wp2_with (at_builtin;go_must (refine U4 _ rfl _ _ 28 rfl w.heap.size 76 i0 _ 2 32 Tryz.underlying28 hi0 hz0 hz1 hz2 rfl (by decide) _ _ _ rfl HO.out w.heap.size (some ⟨g,0,none⟩) 1 c [.string ⟨#[107]⟩,.string ⟨#[107,49]⟩] rfl HR.out pair_one (by decide) (by decide) (by simp) ?_;intro v' w' hown hgr _;have HOWN:=Hd hown;have HGR:Hid (World.grownBy _ w' (Value.slice (some ⟨w.heap.size,0,none⟩) 0 0).ownBlock):=Hd hgr;clear hown hgr));go_ret;obtain ⟨g',c',rfl,_⟩:=Zg HOWN.out (by decide)
  exact ⟨_,_,_,rfl,PR.of_own (by simpa using HOWN.out),((Bf _ _).alloc (Le _) _).grown HGR.out (by simp) (by intro k hk;simp [Value.ownBlock] at hk;omega),fun a ha=>by cases ha;exact (HOWN.out.lt g' rfl).1⟩
def kV (ap:Int) (A:Option Addr) (n c:Nat):List Value:=dV 200++[.int .i64 ap,.slice A n c]
theorem kV_one (ap:Int) (A:Option Addr) (n c:Nat):(kV ap A n c).toArray.all (·.oneCell')=true:=by simp [kV,dV,Value.oneCell']
theorem kV_ones (ap:Int) (A:Option Addr) (n c:Nat):∀ u∈kV ap A n c,u.oneCell'=true:=by
 intro u hu;have:=kV_one ap A n c;simp only [List.all_toArray,List.all_eq_true] at this;exact this u hu
theorem Zv:(prog.info? 30).map (fun i=>(i.zero,i.size,i.bytes))=some (some (.agg zV.toArray),23,216):=by kernel_rfl
def RdP (b:Bool) (ap:Int) (w:World) (e:Ending) (w':World):Prop:=∃ h c' A n c,e = .returned (.iface 132 (.slice (some ⟨h,0,none⟩) 1 c'))∧h<w'.heap.size∧w'.rangeAt h 0 (kV ap A n c)∧PR b w' A n c∧Below w.heap.size w w'
theorem kv_cell {W:World} {b:Nat} {ap:Int} {A:Option Addr} {n c:Nat} (h:Blk W b 30 (kV ap A n c).toArray):W.cell? ⟨b,22,none⟩=some (.slice A n c):=(h.cell 22).trans rfl
theorem kv_set {W:World} {b:Nat} {ap:Int} {A A':Option Addr} {n c n' c':Nat} (h:Blk W b 30 (kV ap A n c).toArray):Blk (W.setCell ⟨b,22,none⟩ (.slice A' n' c')) b 30 (kV ap A' n' c').toArray:=by
 have e:(kV ap A n c).toArray.setIfInBounds 22 (.slice A' n' c')=(kV ap A' n' c').toArray:=rfl;have:=h.set 22 (.slice A' n' c')
 rwa [e] at this
theorem rd_end (b:Bool) (ap:Int) (A:Option Addr) (n c n' h c'':Nat) (w w2 w3:World) (o o':Obj) (hb:Below (w.alloc o).heap.size (w.alloc o) w2) (hp:PR b w2 A n c) (hq:∀ a,A=some a→(w.alloc o).heap.size≤a.block)
  (ho:w3.ownsRow w.heap.size 30 23 (.slice (some ⟨h,0,none⟩) 1 c'') n' (kV ap A n c)) (hg:((w2.setCell ⟨w.heap.size,22,none⟩ (.slice A n c)).alloc o').grownBy w3 none):
  RdP b ap w (.returned (.iface 132 (.slice (some ⟨h,0,none⟩) 1 c''))) w3:=by
 have hz:=hb.size;simp at hz;refine ⟨h,c'',A,n,c,rfl,(ho.lt h rfl).2,fun j v hv=>?_,?_,?_⟩
 ·rw [Nat.zero_add]
  have:=ho.cells (g:=h) rfl j v hv
  rwa [show ((⟨h,0,none⟩:Addr).add j)=⟨h,j,none⟩ from by unfold Addr.add;split<;>simp_all] at this
 ·refine ((hp.set ⟨w.heap.size,22,none⟩ (.slice A n c) fun a ha=>?_).below ((Bf _ _).alloc (Le _) o')).below (Xg hg)
  have:=hq a ha;simp at this;exact this
 ·refine Below.trans ?_ ((Xg hg).mono (by simp;omega))
  exact (((((Bf w.heap.size w).alloc (Le _) o).trans (hb.mono (by simp))).setCell (Le _) _)).alloc (by simp;omega) _
theorem size_ok {w w2:World} {o o':Obj} {p:Addr} {v:Value} (h:Below (w.alloc o).heap.size (w.alloc o) w2):w.heap.size≤((w2.setCell p v).alloc o').heap.size:=by
 have:=h.size;simp at this ⊢;omega
theorem Reader_any (b:Bool) (ap:Int) (A:Option Addr) (n c g cc:Nat) (w:World) (hp:PR b w A n c) (hr:w.rangeAt g 0 (kV ap A n c)):
  Calls prog 52 #[.slice (some ⟨g,0,none⟩) 1 cc] w (RdP b ap w):=by
 obtain ⟨i0,hi0,hz0,hz1,hz2⟩:=info_parts Zv;have HR:=Hd hr;have H1:=Hd (kV_one ap A n c);have HB:=Hd fun old=>Blk.new w 30 old
 have HS:=Hd fun old=>U1 w old (kV ap A n c).toArray 30
 have HC:Hid (∀ o,Calls prog 24 #[.slice A n c] (w.alloc o) (GivesPR b (w.alloc o))):=Hd fun o=>cloneP_any b A n c (w.alloc o) (hp.below ((Bf _ _).alloc (Le _) _))
 have c22:=kv_cell (Blk.new w 30 (kV ap A n c).toArray);clear hr hp;go_enter Tryz.func52,Tryz.ntmps52;go_wp2;refine Lu 2 ?_;rw [Rs]
 go_wp2_with (first|((with_reducible refine Gl 30 10 ?_);refine Lm rfl 30 _ rfl g 0 rfl (kV ap A n c) _ HR.out Tryz.underlying30 rfl (by kernel_rfl) ?_)|((with_reducible refine Gt 30 5 ?_);refine Lt rfl 30 _ _ rfl w.heap.size (kV ap A n c).toArray rfl rfl 30 _ (HB.out _) (by kernel_rfl) rfl H1.out ?_;rw [HS.out])|(go_at_call 24;refine (HC.out _).mono ?_;rintro e w2 ⟨A',n',c',rfl,hp2,hb2,hq2⟩;have HQ2:=Hd hq2;have HP2:=Hd hp2;have HB2:=Hd hb2;clear c22 hp2 hq2;have d22:=kv_cell ((Blk.new w 30 (kV ap A n c).toArray).below hb2 (by simp));have f22:=((Blk.new w 30 (kV ap A n c).toArray).below hb2 (by simp)).free 22;have HK:=Hd (kv_set (A':=A') (n':=n') (c':=c') ((Blk.new w 30 (kV ap A n c).toArray).below hb2 (by simp)));have HRD:=Hd (Va (w2.setCell ⟨w.heap.size,22,none⟩ (.slice A' n' c')) (kV ap A' n' c') 30 1 23 rfl);clear hb2)|((with_reducible refine Gl 30 5 ?_);refine Lr rfl 30 _ rfl w.heap.size rfl 30 _ (0,0) _ HK.out Tryz.underlying30 rfl (by kernel_rfl) ?_)|((with_reducible refine Gc 132 ?_);refine wpList_buildSlice rfl 132 30 1 _ rfl (kV ap A' n' c').toArray i0 (.agg zV.toArray) Tryz.underlying132 hi0 hz0 (by rw [hz1];decide) (by rw [hz1];decide) (by rw [hz1];kernel_rfl) ?_)|(at_builtin;go_must (refine U4 _ rfl _ _ 132 rfl w.heap.size 30 i0 _ 23 216 Tryz.underlying132 hi0 hz0 hz1 hz2 rfl (by decide) (.slice none 0 0) 0 [] rfl ⟨rfl,.inl ⟨rfl,rfl⟩⟩ ((w2.setCell ⟨w.heap.size,22,none⟩ (.slice A' n' c')).heap.size+1) (some ⟨(w2.setCell ⟨w.heap.size,22,none⟩ (.slice A' n' c')).heap.size,0,none⟩) 1 1 (kV ap A' n' c') rfl HRD.out (kV_ones ap A' n' c') (by decide) (by decide) (size_ok HB2.out) ?_;intro v' w3 hown hgr _;have HOWN:=Hd hown;have HGR:Hid (World.grownBy _ w3 (Value.slice none 0 0).ownBlock):=Hd hgr;clear hown hgr)))
 rw [Rs];go_wp2;go_ret;obtain ⟨h,c'',rfl,_⟩:=Zg HOWN.out (by decide);exact rd_end b ap _ _ _ _ h c'' w w2 w3 _ _ HB2.out HP2.out HQ2.out HOWN.out HGR.out
end
section
set_option maxRecDepth 100000
open Go.RowKit
theorem pairs1_any (ap:Int) (A:Option Addr) (n c b:Nat) (w:World) (h:w.cell? ⟨b,0,none⟩=some (.int .i64 200)):
  Calls prog 344 #[.agg (kV ap A n c).toArray,.pointer (some ⟨b,0,none⟩)] w fun e w'=>e = .returned (.bool true)∧Below w.heap.size w w':=by
 have hb:b<w.heap.size:=by
  rcases Nat.lt_or_ge b w.heap.size with hlt|hge
  ·exact hlt
  ·simp [World.cell?,Array.getElem?_eq_none hge] at h
 have c0:(w.alloc (.cells (kV ap A n c).toArray 30)).cell? ⟨w.heap.size,0,none⟩=some (.int .i64 200):=((Blk.new w 30 (kV ap A n c).toArray).cell 0).trans rfl;have c1:(w.alloc (.cells (kV ap A n c).toArray 30)).cell? ⟨b,0,none⟩=some (.int .i64 200):=(World.cell?_alloc_lt w _ _ hb).trans h;clear h hb;go_enter Tryz.func344,Tryz.ntmps344;go_wp2;go_ret;exact ⟨rfl,(Bf _ _).alloc (Le _) _⟩
theorem rindex_any (ap:Int) (A:Option Addr) (n c b h cc:Nat) (w:World) (hb:w.cell? ⟨b,0,none⟩=some (.int .i64 200)) (hr:w.rangeAt h 0 (kV ap A n c)):
  Calls prog 343 #[.slice (some ⟨h,0,none⟩) 1 cc,.func (.func 344) #[] #[.pointer (some ⟨b,0,none⟩)]] w fun e w'=>e = .returned (.int .i64 0)∧Below w.heap.size w w':=by
 have HR:=Hd hr;have HC:=Hd (pairs1_any ap A n c b w hb);clear hr hb;go_enter Tryz.func343,Tryz.ntmps343;go_wp2;refine Lu 1 ?_;rw [Rs];go_wp2_with (first|((with_reducible refine Gl 30 14 ?_);refine Lm rfl 30 _ rfl h 0 rfl (kV ap A n c) _ HR.out Tryz.underlying30 rfl (by kernel_rfl) ?_)|(go_at_call 344;refine HC.out.mono ?_;rintro e w2 ⟨rfl,hb⟩;have HB:=Hd hb;clear hb));go_ret;exact ⟨rfl,HB.out⟩
theorem pairs_any (ap:Int) (A:Option Addr) (n c h cc:Nat) (w:World) (hh:h<w.heap.size) (hr:w.rangeAt h 0 (kV ap A n c)):
  Calls prog 342 #[.slice (some ⟨h,0,none⟩) 1 cc,.int .i64 200] w fun e w'=>e = .returned (.slice A n c)∧Below w.heap.size w w':=by
 have HR:=Hd hr;have HH:=Hd hh;have HC:=Hd (rindex_any ap A n c w.heap.size h cc (w.alloc (.cells #[.int .i64 200] 3)) ((Blk.new w 3 #[.int .i64 200]).cell 0) (U9 hr ((Bf _ _).alloc (Le _) _) hh));clear hr hh;go_enter Tryz.func342,Tryz.ntmps342;go_wp2_with (go_at_call 343;refine HC.out.mono ?_;rintro e w2 ⟨rfl,hb⟩;have HB:=Hd (((Bf w.heap.size w).alloc (Le _) _).trans (hb.mono (by simp)));clear hb;have c22:=(U9 HR.out HB.out HH.out 22 (.slice A n c) rfl));go_ret;exact ⟨rfl,HB.out⟩
theorem find1_a (b:Nat) (w:World) (h:w.cell? ⟨b,0,none⟩=some (.string ⟨#[107]⟩)):Calls prog 219 #[.agg #[.string ⟨#[107]⟩,.string ⟨#[107,49]⟩],.pointer (some ⟨b,0,none⟩)] w fun e w'=>e = .returned (.bool true)∧Below w.heap.size w w':=by
 have hb:b<w.heap.size:=by
  rcases Nat.lt_or_ge b w.heap.size with hlt|hge
  ·exact hlt
  ·simp [World.cell?,Array.getElem?_eq_none hge] at h
 have hl:Op.bytesLess (⟨#[107]⟩:ByteArray).toList (⟨#[107]⟩:ByteArray).toList=false:=by kernel_rfl
 go_enter Tryz.func219,Tryz.ntmps219;go_wp2;go_ret;exact ⟨rfl,(Bf _ _).alloc (Le _) _⟩
theorem pindex_a (b g c:Nat) (w:World) (hb:w.cell? ⟨b,0,none⟩=some (.string ⟨#[107]⟩)) (h0:w.cell? ⟨g,0,none⟩=some (.string ⟨#[107]⟩)) (h1:w.cell? ⟨g,1,none⟩=some (.string ⟨#[107,49]⟩)):
  Calls prog 138 #[.slice (some ⟨g,0,none⟩) 1 c,.func (.func 219) #[] #[.pointer (some ⟨b,0,none⟩)]] w fun e w'=>e = .returned (.int .i64 0)∧Below w.heap.size w w':=by
 have HC:=Hd (find1_a b w hb);clear hb;go_enter Tryz.func138,Tryz.ntmps138;go_wp2;refine Lu 1 ?_;rw [Rs];go_wp2_with (go_at_call 219;refine HC.out.mono ?_;rintro e w2 ⟨rfl,hb⟩;have HB:=Hd hb;clear hb);go_ret;exact ⟨rfl,HB.out⟩
theorem find_one (g c:Nat) (w:World) (hg:g<w.heap.size) (hr:w.rangeAt g 0 [.string ⟨#[107]⟩,.string ⟨#[107,49]⟩]):
  Calls prog 158 #[.slice (some ⟨g,0,none⟩) 1 c,.string ⟨#[107]⟩] w fun e w'=>e = .returned (.tuple #[.int .i64 0,.bool true])∧Below w.heap.size w w':=by
 have HR:=Hd hr;have HG:=Hd hg;have HC:=Hd (pindex_a w.heap.size g c (w.alloc (.cells #[.string ⟨#[107]⟩] 9)) ((Blk.new w 9 #[.string ⟨#[107]⟩]).cell 0) ((World.cell?_alloc_lt w _ _ hg).trans (hr 0 _ rfl)) ((World.cell?_alloc_lt w _ _ hg).trans (hr 1 _ rfl)));clear hr hg;go_enter Tryz.func158,Tryz.ntmps158;go_wp2_with (go_at_call 138;refine HC.out.mono ?_;rintro e w2 ⟨rfl,hb⟩;have HB:=Hd (((Bf w.heap.size w).alloc (Le _) _).trans (hb.mono (by simp)));have c0:=(U9 HR.out HB.out HG.out 0 (.string ⟨#[107]⟩) rfl);have c1:w2.cell? ⟨w.heap.size,0,none⟩=some (.string ⟨#[107]⟩):=((Blk.new w 9 #[.string ⟨#[107]⟩]).below hb (by simp)).cell 0;clear hb)
 go_quiet (fail)
 go_wp2
 go_ret2
 exact ⟨rfl,Ud HB.out _⟩
def getV (b:Bool):Value:=if b then .tuple #[.string ⟨#[107,49]⟩,.int .i64 0] else .tuple #[.string ⟨#[]⟩,.int .i64 6]
theorem Get_any (b:Bool) (ap:Int) (A:Option Addr) (n c h cc:Nat) (w:World) (hh:h<w.heap.size) (hr:w.rangeAt h 0 (kV ap A n c)) (hp:PR b w A n c):
  Calls prog 340 #[.slice (some ⟨h,0,none⟩) 1 cc,.int .i64 200,.string ⟨#[107]⟩] w fun e w'=>e = .returned (getV b)∧Below w.heap.size w w':=by
 have HC:=Hd (pairs_any ap A n c h cc w hh hr);clear hh hr;cases b with
 |false=>
  obtain ⟨rfl,rfl,rfl⟩:=hp;go_enter Tryz.func340,Tryz.ntmps340;go_wp2_with (first|(go_at_call 342;refine HC.out.mono ?_;rintro e w2 ⟨rfl,hb⟩;have HB:=Hd hb;clear hb)|(go_at_call 158;refine (find_nil _ _).mono ?_;rintro e w3 ⟨rfl,hb⟩;have HB3:=Hd (U0 HB.out hb HB.out.size);clear hb))
  go_ret2
  exact ⟨rfl,HB3.out⟩
 |true=>
  have HP:=Hd hp;obtain ⟨g,rfl,rfl,_,_,hg,hr⟩:=hp;have HG:=Hd hg;have HR:=Hd hr;clear hg hr;go_enter Tryz.func340,Tryz.ntmps340;go_wp2_with (first|(go_at_call 342;refine HC.out.mono ?_;rintro e w2 ⟨rfl,hb⟩;have HB:=Hd hb;clear hb)|(go_at_call 158;refine (find_one g c _ (Nat.lt_of_lt_of_le HG.out HB.out.size) (U9 HR.out HB.out HG.out)).mono ?_;rintro e w3 ⟨rfl,hb⟩;have HB3:=Hd (U0 HB.out hb HB.out.size);have c1:=(U9 HR.out HB3.out HG.out 1 (.string ⟨#[107,49]⟩) rfl);clear hb))
  go_ret2
  exact ⟨rfl,HB3.out⟩
end
section
set_option maxRecDepth 100000
set_option maxHeartbeats 400000
open Go.RowKit
theorem Ks {w:World} {base h c n k:Nat} {t:TypeId} {xs:List Value} (ho:w.ownsRow base t k (.slice (some ⟨h,0,none⟩) n c) n xs):w.rangeAt h 0 xs:=fun j v hv=>by
 rw [Nat.zero_add];have:=ho.cells (g:=h) rfl j v hv
 rwa [show ((⟨h,0,none⟩:Addr).add j)=⟨h,j,none⟩ from by unfold Addr.add;split<;>simp_all] at this
def rV:List Value:=[.int .i64 0,.int .i64 200,.string ⟨#[107]⟩,.string ⟨#[]⟩,.string ⟨#[]⟩,.int .i64 6]
theorem ex_box {w w3 w5:World} {o2 o3:Obj} (h1:Below (((w.alloc (.cells rV.toArray 49)).alloc o2).alloc o3).heap.size (((w.alloc (.cells rV.toArray 49)).alloc o2).alloc o3) w3) (h2:Below w3.heap.size w3 w5):
  Blk w5 w.heap.size 49 rV.toArray∧Below w.heap.size w w5∧w.heap.size<w5.heap.size:=by
 have e1:=h1.size;have e2:=h2.size;simp at e1;refine ⟨((((Blk.new w 49 rV.toArray).alloc o2).alloc o3).below h1 (by simp;omega)).below h2 (by omega),?_,by omega⟩;exact (((((Bf _ _).alloc (Le _) _).alloc (by simp) _).alloc (by simp;omega) _).trans (h1.mono (by simp;omega))).trans (h2.mono (by omega))
theorem ex_get {w5 w7:World} {b:Nat} (hbx:Blk w5 b 49 rV.toArray) (hb:Below (w5.alloc (.cells #[.string ⟨#[107]⟩,.string ⟨#[]⟩,.int .i64 0] 47)).heap.size (w5.alloc (.cells #[.string ⟨#[107]⟩,.string ⟨#[]⟩,.int .i64 0] 47)) w7):
  Blk w7 b 49 rV.toArray∧Blk w7 w5.heap.size 47 #[.string ⟨#[107]⟩,.string ⟨#[]⟩,.int .i64 0]:=
 ⟨(hbx.alloc _).below hb (by have:=hbx.lt;simp;omega),(Blk.new w5 _ _).below hb (by simp)⟩
theorem ex_next {w w5 w7:World} {o:Obj} (h5:Below w.heap.size w w5) (hl:w.heap.size<w5.heap.size) (hb:Below (w5.alloc o).heap.size (w5.alloc o) w7):Below w.heap.size w w7:=
 (h5.alloc (by omega) _).trans (hb.mono (by simp;omega))
theorem Get_at (b:Bool) (ap:Int) (A:Option Addr) (n c h cc:Nat) (w:World) (o:Obj) (hh:h<w.heap.size) (hr:w.rangeAt h 0 (kV ap A n c)) (hp:PR b w A n c):
  Calls prog 340 #[.slice (some ⟨h,0,none⟩) 1 cc,.int .i64 200,.string ⟨#[107]⟩] (w.alloc o) fun e w'=>e = .returned (getV b)∧Below (w.alloc o).heap.size (w.alloc o) w':=
 Get_any b ap A n c h cc _ (by simp;omega) (U9 hr ((Bf _ _).alloc (Le _) _) hh) (hp.below ((Bf _ _).alloc (Le _) _))
structure EX (w W:World) (g:Nat) (x:ByteArray) (y:Int):Prop where
 b1:Blk W w.heap.size 49 rV.toArray
 b2:Blk W g 47 #[.string ⟨#[107]⟩,.string x,.int .i64 y]
 lt:w.heap.size<g
 be:Below w.heap.size w W
theorem ex_set {w w7:World} {g:Nat} (h1:Blk w7 w.heap.size 49 rV.toArray) (h2:Blk w7 g 47 #[.string ⟨#[107]⟩,.string ⟨#[]⟩,.int .i64 0]) (hl:w.heap.size<g) (hb:Below w.heap.size w w7) (x:ByteArray) (y:Int):
  ∃ W,W=(w7.setCell ⟨g,1,none⟩ (.string x)).setCell ⟨g,2,none⟩ (.int .i64 y)∧EX w W g x y:=
 ⟨_,rfl,(h1.far (by simp;omega) _).far (by simp;omega) _,(h2.set 1 _).set 2 _,hl,(hb.setCell (by simp;omega) _).setCell (by simp;omega) _⟩
theorem ex_row {w W:World} {g:Nat} {x:ByteArray} {y:Int} (h:EX w W g x y) (cs:Array Value):(W.setRow g cs).rangeAt w.heap.size 3 [.string ⟨#[]⟩,.string ⟨#[]⟩,.int .i64 6]:=by
 have hl:=h.lt;have:Blk (W.setRow g cs) w.heap.size 49 rV.toArray:=(setRow_other W g w.heap.size cs (by omega)).trans h.b1;refine this.range 3 _ fun j v hv=>?_
 match j,hv with
 |0,hv=>exact hv
 |1,hv=>exact hv
 |2,hv=>exact hv
theorem ex_rg {w W:World} {g:Nat} {x:ByteArray} {y:Int} (h:EX w W g x y):W.rangeAt w.heap.size 3 [.string ⟨#[]⟩,.string ⟨#[]⟩,.int .i64 6]:=by
 refine h.b1.range 3 _ fun j v hv=>?_
 match j,hv with
 |0,hv=>exact hv
 |1,hv=>exact hv
 |2,hv=>exact hv
theorem method_get (h c:Nat) (w:World):(method 489 132 (.slice (some ⟨h,0,none⟩) 1 c) "Get").run prog w = .ok (340,.slice (some ⟨h,0,none⟩) 1 c) w:=by kernel_rfl
theorem explained_any (b:Bool) (ap:Int) (A:Option Addr) (n c bs:Nat) (w:World) (hs:St w bs (kV ap A n c)) (hp:PR b w A n c):
  Calls prog 28 #[.map (some bs),.agg #[.int .i64 0,.int .i64 200,.string ⟨#[107]⟩,.string ⟨#[]⟩,.string ⟨#[]⟩,.int .i64 6]] w fun e w'=>e = .returned (.bool (!b))∧Below w.heap.size w w':=by
 obtain ⟨i0,hi0,hz0,hz1,hz2⟩:=info_parts Zv;have hl:∀ o1,(Instr.lookup 65 (.map (some bs)) (.int .i64 200) true).run prog (w.alloc o1) = .ok (.tuple #[.agg (kV ap A n c).toArray,.bool true]) (w.alloc o1):=fun o1=>Kq _ bs _ (hs.alloc _)
 have H1:=Hd (kV_one ap A n c);have HB:Hid (∀ o1 old,Blk ((w.alloc o1).alloc (.cells old 30)) (w.heap.size+1) 30 old):=Hd fun o1 old=>U3 (w.alloc o1) _ old _ (by simp)
 have HS:Hid (∀ o1 old cs,((w.alloc o1).alloc (.cells old 30)).setRow (w.heap.size+1) cs=(w.alloc o1).alloc (.cells cs 30)):=Hd fun o1 old cs=>Ue (w.alloc o1) _ (by simp) old cs _
 have HRD:Hid (∀ o1 o2,Rd (((w.alloc o1).alloc o2).alloc (.cells (kV ap A n c).toArray 30)) (((w.alloc o1).alloc o2).heap.size+1) 23 (some ⟨((w.alloc o1).alloc o2).heap.size,0,none⟩) 1 (kV ap A n c)):=Hd fun o1 o2=>Va ((w.alloc o1).alloc o2) (kV ap A n c) 30 1 23 rfl
 have HP:Hid (∀ o1 o2 o3,PR b (((w.alloc o1).alloc o2).alloc o3) A n c):=Hd fun o1 o2 o3=>hp.below ((((Bf _ _).alloc (Le _) _).alloc (by simp) _).alloc (by simp;omega) _)
 clear hs hp;have hm:=method_get;cases b
 all_goals
  go_enter Tryz.func28,Tryz.ntmps28
  go_wp2_with (first|((with_reducible refine Gt 30 6 ?_);refine Lt rfl 30 _ _ rfl (w.heap.size+1) (kV ap A n c).toArray rfl rfl 30 _ (HB.out _ _) (by kernel_rfl) rfl H1.out ?_;rw [HS.out])|((with_reducible refine Gl 30 6 ?_);refine Lr rfl 30 _ rfl (w.heap.size+1) rfl 30 _ (0,0) _ (HB.out _ _) Tryz.underlying30 rfl (by kernel_rfl) ?_)|((with_reducible refine Gc 22 ?_);refine wpList_buildSlice rfl 22 30 1 _ rfl (kV ap A n c).toArray i0 (.agg zV.toArray) Tryz.underlying22 hi0 hz0 (by rw [hz1];decide) (by rw [hz1];decide) (by rw [hz1];kernel_rfl) ?_)|(at_builtin;go_must (refine U4 _ rfl _ _ 22 rfl w.heap.size 30 i0 _ 23 216 Tryz.underlying22 hi0 hz0 hz1 hz2 rfl (by decide) (.slice none 0 0) 0 [] rfl ⟨rfl,.inl ⟨rfl,rfl⟩⟩ _ _ 1 1 (kV ap A n c) rfl (HRD.out _ _) (kV_ones ap A n c) (by decide) (by decide) (by simp;omega) ?_;intro v' w3 hown hgr _;obtain ⟨h,c'',rfl,_⟩:=Zg hown (by decide);have HOWN:=Hd hown;have HBE:=Hd (Xg (show World.grownBy _ w3 none from hgr));have HP3:=Hd ((HP.out _ _ _).below HBE.out);clear hown hgr))|(go_at_call 52;refine (Reader_any _ ap A n c h c'' w3 HP3.out (Ks HOWN.out)).mono ?_;rintro e w5 ⟨h5,c5,A5,n5,m5,rfl,hh5,hr5,hp5,hb5⟩;have HH5:=Hd hh5;have HR5:=Hd hr5;have HP5:=Hd hp5;obtain ⟨hbx,hbe,hlt⟩:=ex_box HBE.out hb5;have HBX:=Hd hbx;have HBE5:=Hd hbe;have HLT:=Hd hlt;clear hh5 hr5 hp5 hb5 hbe hlt hl;have k2:w5.cell? ⟨w.heap.size,2,none⟩=some (.string ⟨#[107]⟩):=(hbx.cell 2).trans rfl;have a0:∀ o,(w5.alloc o).cell? ⟨w.heap.size,0,none⟩=some (.int .i64 0):=fun o=>((hbx.alloc o).cell 0).trans rfl;have a1:∀ o,(w5.alloc o).cell? ⟨w.heap.size,1,none⟩=some (.int .i64 200):=fun o=>((hbx.alloc o).cell 1).trans rfl;have a2:∀ o,(w5.alloc o).cell? ⟨w.heap.size,2,none⟩=some (.string ⟨#[107]⟩):=fun o=>((hbx.alloc o).cell 2).trans rfl;clear hbx))
  refine (Get_at _ ap A5 n5 m5 h5 c5 w5 _ HH5.out HR5.out HP5.out).mono ?_;rintro e w7 ⟨rfl,hb⟩;obtain ⟨hbx,hba⟩:=ex_get HBX.out hb;have HB7:=Hd (ex_next HBE5.out HLT.out hb);have q0:w7.cell? ⟨w5.heap.size,0,none⟩=some (.string ⟨#[107]⟩):=(hba.cell 0).trans rfl;have q1:w7.cell? ⟨w5.heap.size,1,none⟩=some (.string ⟨#[]⟩):=(hba.cell 1).trans rfl;have q2:w7.cell? ⟨w5.heap.size,2,none⟩=some (.int .i64 0):=(hba.cell 2).trans rfl;have f0:=hba.free 0;have f1:=hba.free 1;have f2:=hba.free 2;have HBA:=Hd hba;have HBX7:=Hd hbx;clear hb hbx hba k2 a0 a1 a2 hm
 ·have e:getV false = .tuple #[.string ⟨#[]⟩,.int .i64 6]:=rfl
  rw [e];clear e
  go_upto_region 10 with (fail)
  obtain ⟨W,hW,hx⟩:=ex_set HBX7.out HBA.out HLT.out HB7.out ⟨#[]⟩ 6;rw [←hW];clear hW q0 q1 q2 f0 f1 f2;have HX:=Hd hx;have HQ:Hid ((#[.string ⟨#[]⟩,.string ⟨#[]⟩,.int .i64 6]:Array Value).all (·.oneCell')=true):=Hd (by simp [Value.oneCell']);have r2:W.cell? ⟨w5.heap.size,2,none⟩=some (.int .i64 6):=(hx.b2.cell 2).trans rfl;clear hx;go_wp2_with (first|((with_reducible refine Gt 47 9 ?_);refine Lt rfl 47 _ _ rfl w5.heap.size #[.string ⟨#[]⟩,.string ⟨#[]⟩,.int .i64 6] rfl rfl 47 _ HX.out.b2 (by kernel_rfl) rfl HQ.out ?_)|((with_reducible refine Gl 47 58 ?_);refine Lm rfl 47 _ rfl w.heap.size 3 rfl _ _ (ex_row HX.out _) Tryz.underlying47 rfl (by kernel_rfl) ?_)|((with_reducible refine Gl 47 9 ?_);refine Lr rfl 47 _ rfl w5.heap.size rfl 47 _ (0,0) _ (setRow_heap _ _ _ _ _ _ HX.out.b2) Tryz.underlying47 rfl (by kernel_rfl) ?_));go_ret
  exact ⟨rfl,U6 HX.out.be (Nat.le_of_lt HX.out.lt) _⟩
 ·have e:getV true = .tuple #[.string ⟨#[107,49]⟩,.int .i64 0]:=rfl
  rw [e];clear e
  go_upto_region 10 with (fail)
  obtain ⟨W,hW,hx⟩:=ex_set HBX7.out HBA.out HLT.out HB7.out ⟨#[107,49]⟩ 0;rw [←hW];clear hW q0 q1 q2 f0 f1 f2;have HX:=Hd hx;have r2:W.cell? ⟨w5.heap.size,2,none⟩=some (.int .i64 0):=(hx.b2.cell 2).trans rfl;clear hx;go_wp2_with (first|((with_reducible refine Gl 47 58 ?_);refine Lm rfl 47 _ rfl w.heap.size 3 rfl _ _ (ex_rg HX.out) Tryz.underlying47 rfl (by kernel_rfl) ?_)|((with_reducible refine Gl 47 9 ?_);refine Lr rfl 47 _ rfl w5.heap.size rfl 47 _ (0,0) _ HX.out.b2 Tryz.underlying47 rfl (by kernel_rfl) ?_));go_ret;exact ⟨rfl,HX.out.be⟩
end
end Go.Proofs.YtapanepkfbamhaaGreatDoor
