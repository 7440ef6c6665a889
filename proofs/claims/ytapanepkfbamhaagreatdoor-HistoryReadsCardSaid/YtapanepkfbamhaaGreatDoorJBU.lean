/- Part of the proof of HistoryReads. -/
import Derived.Test.YtapanepkfbamhaaGreatDoorJBR
import Derived.Test.YtapanepkfbamhaaGreatDoorJBT
namespace Go.Proofs.YtapanepkfbamhaaGreatDoor
open Tryz (prog)
section
set_option maxRecDepth 100000
set_option maxHeartbeats 4000000
open Go.RowKit
def Awk (w:World):Prop:=∀ W:World,Below w.heap.size w W→Calls prog 6 #[] W fun e w'=>e = .returned (.bool true)∧Below W.heap.size W w'
structure RW (r:Rdd) (w W:World):Prop where
 be:Below w.heap.size w W
 bk:Blk W w.heap.size 49 (rdC r).toArray
theorem RW.next {r:Rdd} {w W W':World} (h:RW r w W) (hb:Below W.heap.size W W'):RW r w W':=⟨U0 h.be hb h.be.size,h.bk.below hb h.bk.lt⟩
theorem RW.nextB {r:Rdd} {w W W':World} {B:Nat} (h:RW r w W) (hb:Below B W W') (hB:w.heap.size<B):RW r w W':=⟨h.be.trans (hb.mono (by omega)),h.bk.below hb hB⟩
theorem RW.start (r:Rdd) (w:World):RW r w (w.alloc (.cells (rdC r).toArray 49)):=⟨(Bf _ _).alloc (Le _) _,Blk.new w _ _⟩
theorem RW.lt {r:Rdd} {w W:World} (h:RW r w W):w.heap.size<W.heap.size:=h.bk.lt
theorem RW.c0 {r:Rdd} {w W:World} (h:RW r w W):W.cell? ⟨w.heap.size,2,none⟩=some (.string r.key)∧W.cell? ⟨w.heap.size,3,none⟩=some (.string r.ak)∧W.cell? ⟨w.heap.size,4,none⟩=some (.string r.ar):=⟨(h.bk.cell 2).trans rfl,(h.bk.cell 3).trans rfl,(h.bk.cell 4).trans rfl⟩
theorem infoRead:(prog.info? 49).map (fun i=>(i.zero,i.size,i.bytes))=some (some (.agg #[.int .i64 0,.int .i64 0,.string ⟨#[]⟩,.string ⟨#[]⟩,.string ⟨#[]⟩,.int .i64 0]),6,72):=by kernel_rfl
theorem set_bare (x:Com):(U8 x).set 2 (.slice none 0 0)=U8 (Vy x):=rfl
theorem bare_ok {w:World} {B:Nat} {x:Com} (h:ComOk w B x):ComOk w B (Vy x):=⟨Sl.nil,h.2.1,Z0 _,h.2.2.2⟩
theorem numOne_ok {w:World} {B:Nat} {x:Com} (h:ComOk w B x) (k:Int):ComOk w B (Zh k x):=⟨Sl.nil,h.2.1,Z0 _,h.2.2.2⟩
theorem G4:∀ (l:List Com) (n:Int),(∀ x∈l,x.cn≤8)→∀ y∈Vd n l,y.cn≤8
 |l,n,h,y,hy=>by
  obtain ⟨c,hc,k,rfl⟩:=Ey l n y hy;exact h c hc
theorem rdU_comok {W:World} {q:Int} {g:Nat} {r:Rdd} (h:Blk W g 49 (rdC r).toArray):ComOk W W.heap.size (rdU q (some ⟨g,0,none⟩) r):=
 ⟨⟨Le _,rfl,rfl,fun _=>⟨g,0,rfl,h.lt,fun j u hu=>by
  have e:Ua rdC [r]=rdC r:=Uv r;rw [show (rdU q (some ⟨g,0,none⟩) r).rs = [r] from rfl,e] at hu;rw [Nat.zero_add,h.cell];simpa using hu⟩⟩,Sl.nil,by show (1:Nat)≤maxLen;decide,Z0 _⟩
structure LP (iA:Option Addr) (im ic:Nat) (ini:List Cnt) (A:Option Addr) (n c:Nat) (l:List Com) (w:World):Prop where
 hi:Sl cnC 23 w w.heap.size iA im ic ini
 hip:∀ x∈ini,CW w x
 hiw:∀ x∈ini,(Lit.int .i64 x.d.id).wf=true
 him:im≤4
 hs:Cs w w.heap.size A n c l
 hv:∀ x∈l,SmC x
 hcn:∀ x∈l,x.cn≤8
 hn:n≤11
 ht:Sta w
 hc:Cod w
theorem LP.next {iA:Option Addr} {im ic:Nat} {ini:List Cnt} {A:Option Addr} {n c:Nat} {l:List Com} {w W:World} (h:LP iA im ic ini A n c l w) (hb:Below w.heap.size w W):LP iA im ic ini A n c l W:=
 ⟨h.hi.after hb hb.size,fun x hx=>(h.hip x hx).below hb,h.hiw,h.him,h.hs.after hb hb.size,h.hv,h.hcn,h.hn,h.ht.after hb,h.hc.after hb⟩
theorem reads_sl {w:World} {base n c:Nat} {A:Option Addr} {l:List Com} {U:Com} (h:w.ownsRow base 34 4 (.slice A (n+1) c) (n+1) (Ua U8 l++U8 U)):Sl U8 4 w w.heap.size A (n+1) c (l++[U]):=
 Sl.of_own (f:=U8) (k:=4) Uz (by decide) (by rw [Uy,Uv];exact h)
theorem LP.cs1 {iA:Option Addr} {im ic:Nat} {ini:List Cnt} {A:Option Addr} {n c:Nat} {l:List Com} {W W':World} {A1:Option Addr} {c1:Nat} (h:LP iA im ic ini A n c l W) (hb:Below W.heap.size W W') (ho:W'.ownsRow W.heap.size 34 4 (.slice A1 n c1) n (Ua U8 (l.map Vy))):Cs W' W'.heap.size A1 n c1 (l.map Vy):=
 ⟨Sl.of_own (f:=U8) (k:=4) Uz (by decide) ho,fun y hy=>by
  obtain ⟨x,hx,rfl⟩:=List.mem_map.1 hy;exact (bare_ok (h.hs.2 x hx)).after hb hb.size⟩
theorem LP.cs2 {iA:Option Addr} {im ic:Nat} {ini:List Cnt} {A:Option Addr} {n c:Nat} {l:List Com} {W W' W2:World} {A1:Option Addr} {c1:Nat} (h:LP iA im ic ini A n c l W) (hb:Below W.heap.size W W') (ho:W'.ownsRow W2.heap.size 34 4 (.slice A1 n c1) n (Ua U8 (Vd 1 l))):Cs W' W'.heap.size A1 n c1 (Vd 1 l):=
 ⟨Sl.of_own (f:=U8) (k:=4) Uz (by decide) ho,fun y hy=>by
  obtain ⟨x,hx,k,rfl⟩:=Ey l 1 y hy;exact (numOne_ok (h.hs.2 x hx) k).after hb hb.size⟩
theorem LP.sm {iA:Option Addr} {im ic:Nat} {ini:List Cnt} {A:Option Addr} {n c:Nat} {l:List Com} {W:World} (h:LP iA im ic ini A n c l W):∀ y∈Vd 1 l,SmC y:=fun y hy=>by
 obtain ⟨x,hx,k,rfl⟩:=Ey l 1 y hy;exact h.hv x hx
theorem LP.end_le {iA:Option Addr} {im ic:Nat} {ini:List Cnt} {A:Option Addr} {n c:Nat} {l:List Com} {W:World} (h:LP iA im ic ini A n c l W):Y0 1 l≤4000:=by
 have h1:=endN_bd l (fun x hx=>Lx (h.hcn x hx) (by omega)) 1;have h2:=h.hs.1.len;have h3:=h.hn;omega
theorem LP.check {iA:Option Addr} {im ic:Nat} {ini:List Cnt} {A:Option Addr} {n c:Nat} {l:List Com} {W:World} {A7:Option Addr} {c7 g:Nat} {r:Rdd} {q:Int} (h:LP iA im ic ini A n c l W) (hsl:Sl U8 4 W W.heap.size A7 (n+1) c7 (Vd 1 l++[rdU q (some ⟨g,0,none⟩) r])) (hb:Blk W g 49 (rdC r).toArray):
  Calls prog 10 #[.slice iA im ic,.slice A7 (n+1) c7] W (CheP (cheF ini (Vd 1 l++[rdU q (some ⟨g,0,none⟩) r])) W):=by
 refine check_any iA im ic ini A7 (n+1) c7 _ W h.hi h.hip (by have:=h.him;omega) ⟨hsl,fun y hy=>?_⟩ (fun y hy=>?_) (by have:=h.hn;omega) h.ht h.hc
 ·rcases List.mem_append.1 hy with hy|hy
  ·obtain ⟨x,hx,k,rfl⟩:=Ey l 1 y hy
   exact numOne_ok (h.hs.2 x hx) k
  ·rw [List.mem_singleton] at hy;subst hy;exact rdU_comok hb
 ·rcases List.mem_append.1 hy with hy|hy
  ·exact h.sm y hy
  ·rw [List.mem_singleton] at hy;subst hy;exact fun c hc=>by cases hc
theorem Sl.grownA {α:Type} {f:α→List Value} {k n c B:Nat} {A:Option Addr} {l:List α} {w w':World} {row:Option Nat} (h:Sl f k w B A n c l) (hB:B≤w.heap.size) (hg:w.grownBy w' row) (hs:∀ a,A=some a→some a.block≠row):Sl f k w' B A n c l:=by
 refine ⟨h.1,h.2.1,h.2.2.1,fun h0=>?_⟩;obtain ⟨b,o,e,hb,hc⟩:=h.2.2.2 h0;refine ⟨b,o,e,hb,fun j u hu=>?_⟩;rw [World.cell?_of_block (a:=⟨b,o+j,none⟩) (hg.block b (Nat.lt_of_lt_of_le hb hB) (hs _ e))];exact hc j u hu
theorem Kp {row:Option Nat} {M b:Nat} (hr:∀ g,row=some g→g<M) (hb:M≤b):some b≠row:=by
 intro e;have:=hr b e.symm;omega
def fewL (im:Nat) (ini:List Cnt) (n:Nat) (l:List Com) (r:Rdd):Bool:=fewA im ini n l&&(decide (n≤11)&&(decide (r.key.size≤32)&&(decide (r.ak.size≤60)&&decide (r.ar.size≤300))))
theorem reads_big (iA:Option Addr) (im ic:Nat) (ini:List Cnt) (A:Option Addr) (n c:Nat) (l:List Com) (r:Rdd) (w:World) (hi:Sl cnC 23 w w.heap.size iA im ic ini) (hip:∀ x∈ini,Sl prC 2 w w.heap.size x.pA x.pn x.pc x.ps) (hs:Cs w w.heap.size A n c l) (haw:Awk w) (hbig:fewL im ini n l r=false):
  Calls prog 4 #[.slice iA im ic,.slice A n c,.agg (rdC r).toArray] w fun e w'=>e = .returned (.bool true)∧Below w.heap.size w w':=by
 have hr:=RW.start r w;have HRW:=Hd hr;have HF:=Hd (few_gen iA im ic ini A n c l _ (hi.after hr.be hr.be.size) (fun x hx=>(hip x hx).after hr.be hr.be.size) (hs.after hr.be hr.be.size));have HW:=Hd haw;unfold fewL at hbig;clear hi hip hs haw hr;cases hf:fewA im ini n l with
 |false=>
  rw [hf] at HF;clear hbig hf;go_enter Tryz.func4,Tryz.ntmps4;go_wp2_with (first|(go_at_call 5;refine HF.out.mono ?_;rintro e w2 ⟨rfl,hb2⟩;have X2:=Hd (HRW.out.next hb2);obtain ⟨k2,k3,k4⟩:=X2.out.c0;clear hb2)|(go_at_call 6;refine (HW.out _ X2.out.be).mono ?_;rintro e w9 ⟨rfl,hb9⟩;have X9:=Hd (X2.out.next hb9);clear hb9));go_ret;exact ⟨rfl,X9.out.be⟩
 |true=>
  rw [hf,Bool.true_and] at hbig;rw [hf] at HF;clear hf;by_cases k00:n≤11;rotate_left
  ·have d0a:decide ((11:Int)<(n:Int))=true:=by simp;omega
   have d0b:decide (11<n)=true:=by simp;omega
   clear k00 hbig;go_enter Tryz.func4,Tryz.ntmps4;go_wp2_with (first|(go_at_call 5;refine HF.out.mono ?_;rintro e w2 ⟨rfl,hb2⟩;have X2:=Hd (HRW.out.next hb2);obtain ⟨k2,k3,k4⟩:=X2.out.c0;clear hb2)|(go_at_call 6;refine (HW.out _ X2.out.be).mono ?_;rintro e w9 ⟨rfl,hb9⟩;have X9:=Hd (X2.out.next hb9);clear hb9));go_ret;exact ⟨rfl,X9.out.be⟩
  have d0a:decide ((11:Int)<(n:Int))=false:=by simp;omega
  have d0b:decide (11<n)=false:=by simp;omega
  rw [decide_eq_true k00,Bool.true_and] at hbig;clear k00;by_cases k10:r.key.size≤32;rotate_left
  ·have d1a:decide ((32:Int)<(r.key.size:Int))=true:=by simp;omega
   have d1b:decide (32<r.key.size)=true:=by simp;omega
   clear k10 hbig;go_enter Tryz.func4,Tryz.ntmps4;go_wp2_with (first|(go_at_call 5;refine HF.out.mono ?_;rintro e w2 ⟨rfl,hb2⟩;have X2:=Hd (HRW.out.next hb2);obtain ⟨k2,k3,k4⟩:=X2.out.c0;clear hb2)|(go_at_call 6;refine (HW.out _ X2.out.be).mono ?_;rintro e w9 ⟨rfl,hb9⟩;have X9:=Hd (X2.out.next hb9);clear hb9));go_ret;exact ⟨rfl,X9.out.be⟩
  have d1a:decide ((32:Int)<(r.key.size:Int))=false:=by simp;omega
  have d1b:decide (32<r.key.size)=false:=by simp;omega
  rw [decide_eq_true k10,Bool.true_and] at hbig;clear k10;by_cases k20:r.ak.size≤60;rotate_left
  ·have d2a:decide ((60:Int)<(r.ak.size:Int))=true:=by simp;omega
   have d2b:decide (60<r.ak.size)=true:=by simp;omega
   clear k20 hbig;go_enter Tryz.func4,Tryz.ntmps4;go_wp2_with (first|(go_at_call 5;refine HF.out.mono ?_;rintro e w2 ⟨rfl,hb2⟩;have X2:=Hd (HRW.out.next hb2);obtain ⟨k2,k3,k4⟩:=X2.out.c0;clear hb2)|(go_at_call 6;refine (HW.out _ X2.out.be).mono ?_;rintro e w9 ⟨rfl,hb9⟩;have X9:=Hd (X2.out.next hb9);clear hb9));go_ret;exact ⟨rfl,X9.out.be⟩
  have d2a:decide ((60:Int)<(r.ak.size:Int))=false:=by simp;omega
  have d2b:decide (60<r.ak.size)=false:=by simp;omega
  rw [decide_eq_true k20,Bool.true_and] at hbig;clear k20;by_cases k30:r.ar.size≤300;rotate_left
  ·have d3a:decide ((300:Int)<(r.ar.size:Int))=true:=by simp;omega
   have d3b:decide (300<r.ar.size)=true:=by simp;omega
   clear k30 hbig;go_enter Tryz.func4,Tryz.ntmps4;go_wp2_with (first|(go_at_call 5;refine HF.out.mono ?_;rintro e w2 ⟨rfl,hb2⟩;have X2:=Hd (HRW.out.next hb2);obtain ⟨k2,k3,k4⟩:=X2.out.c0;clear hb2)|(go_at_call 6;refine (HW.out _ X2.out.be).mono ?_;rintro e w9 ⟨rfl,hb9⟩;have X9:=Hd (X2.out.next hb9);clear hb9));go_ret;exact ⟨rfl,X9.out.be⟩
  have d3a:decide ((300:Int)<(r.ar.size:Int))=false:=by simp;omega
  have d3b:decide (300<r.ar.size)=false:=by simp;omega
  rw [decide_eq_true k30] at hbig;clear k30;cases hbig
theorem reads_few (iA:Option Addr) (im ic:Nat) (ini:List Cnt) (A:Option Addr) (n c:Nat) (l:List Com) (r:Rdd) (w:World) (hlp:LP iA im ic ini A n c l w) (haw:Awk w) (hbig:fewL im ini n l r=true):
  Calls prog 4 #[.slice iA im ic,.slice A n c,.agg (rdC r).toArray] w fun e w'=>e = .returned (.bool true)∧Below w.heap.size w w':=by
 obtain ⟨i0,hi0,hz0,hz1,hz2⟩:=info_parts infoCom;obtain ⟨j0,hj0,hy0,hy1,hy2⟩:=info_parts infoRead;have hr:=RW.start r w;have HRW:=Hd hr;have HF:=Hd (few_gen iA im ic ini A n c l _ (hlp.hi.after hr.be hr.be.size) (fun x hx=>(hlp.hip x hx).sl.after hr.be hr.be.size) (hlp.hs.after hr.be hr.be.size));have HW:=Hd haw;unfold fewL at hbig;simp only [Bool.and_eq_true,decide_eq_true_eq] at hbig;obtain ⟨hf,q1,q2,q3,q4⟩:=hbig;rw [hf] at HF;have d0a:decide ((11:Int)<(n:Int))=false:=by simp;omega
 have d0b:decide (11<n)=false:=by simp;omega
 have d1a:decide ((32:Int)<(r.key.size:Int))=false:=by simp;omega
 have d1b:decide (32<r.key.size)=false:=by simp;omega
 have d2a:decide ((60:Int)<(r.ak.size:Int))=false:=by simp;omega
 have d2b:decide (60<r.ak.size)=false:=by simp;omega
 have d3a:decide ((300:Int)<(r.ar.size:Int))=false:=by simp;omega
 have d3b:decide (300<r.ar.size)=false:=by simp;omega
 have HL0:=Hd hlp;have HL:=Hd hlp.hs.1.len;have HN12:Hid (n≤12):=Hd (by omega);have HEND:=Hd hlp.end_le;clear hlp haw hr hf q1 q2 q3 q4;go_enter Tryz.func4,Tryz.ntmps4;go_wp2_with ((go_at_call 5;refine HF.out.mono ?_;rintro e w2 ⟨rfl,hb2⟩;have X2:=Hd (HRW.out.next hb2);obtain ⟨k2,k3,k4⟩:=X2.out.c0;clear hb2));have HLP:=Hd (HL0.out.next X2.out.be);clear d0a d0b d1a d1b d2a d2b d3a d3b k2 k3 k4;go_loopw [7,51] (fun v i wr => ∃ j:Nat,j≤n∧i = .int .i64 j∧wr.ownsRow w2.heap.size 34 4 v j (Ua U8 ((l.take j).map Vy))∧Below w2.heap.size w2 wr) (fun _ i _=>n-(intOf i).toNat)
 case atStart=>exact ⟨0,Z0 _,rfl,⟨rfl,.inl ⟨rfl,rfl⟩⟩,Bf _ _⟩
 case round=>
  obtain ⟨j,hj,rfl,hown,hbel⟩:=hrel;obtain ⟨wx,rfl⟩:∃ x:World,x=wr:=⟨_,rfl⟩
  have HO:=Hd hown;have HB:=Hd hbel;have hn12:=HN12.out;by_cases hlt:j<n
  ·obtain ⟨b,o,x,rfl,hb,hg,hcell⟩:=Sl.cell (f:=U8) (k:=4) Uz (HLP.out.hs.1.below hbel) hlt
   have HM4:Hid (wx.rangeAt b (o+j*4) (U8 x)):=Hd fun t u hu=>hcell t u hu
   have HT:=Hd (Km hg);have HAN1:Hid (j+1≤maxLen):=Hd (by have:=HN12.out;unfold maxLen;omega);have HAN2:Hid ((j+1)*64≤140737488355328):=Hd (by have:=HN12.out;omega);have HA1:=Hd (Zx x);have HB2:=Hd fun old=>Blk.new wx 34 old
   have HS2:=Hd fun old=>U1 wx old (U8 x).toArray 34
   have hset:=set_bare x;have HBK:=Hd (Blk.new wx 34 (U8 (Vy x)).toArray);have HRD:=Hd (Va (wx.alloc (.cells (U8 (Vy x)).toArray 34)) (U8 (Vy x)) 34 1 4 rfl);have HO4:=Hd fun o4=>Ui hown (((Bf wx.heap.size wx).alloc (Le _) (.cells (U8 (Vy x)).toArray 34)).alloc (by simp) o4)
   have HB4:=Hd fun o4=>(hbel.alloc hbel.size (.cells (U8 (Vy x)).toArray 34)).alloc (by have:=hbel.size;simp;omega) o4
   have HON:Hid (∀ u∈U8 (Vy x),u.oneCell'=true):=Hd (Ir _);have HOR:=Hd (Jt hown);have HLT:=Hd hlt;have HZ:Hid (∀ o4,w2.heap.size≤((wx.alloc (.cells (U8 (Vy x)).toArray 34)).alloc o4).heap.size):=Hd fun o4=>(HB4.out o4).size
   clear hb hg hcell hown hbel hlt hj
   go_wp2_with (first|((with_reducible refine Gl 34 53 ?_);refine Lm rfl 34 _ rfl b (o+j*4) rfl (U8 x) _ HM4.out Tryz.underlying34 rfl (by kernel_rfl) ?_)|((with_reducible refine Gt 34 9 ?_);refine Lt rfl 34 _ _ rfl (wx.heap.size) (U8 x).toArray rfl rfl 34 _ (HB2.out _) (by kernel_rfl) rfl HA1.out ?_;rw [HS2.out])|((with_reducible refine Gl 34 9 ?_);refine Lr rfl 34 _ rfl (wx.heap.size) rfl 34 _ (0,0) _ HBK.out Tryz.underlying34 rfl (by kernel_rfl) ?_)|((with_reducible refine Gc 23 ?_);refine wpList_buildSlice rfl 23 34 1 _ rfl (U8 (Vy x)).toArray i0 (.agg #[.int .i64 0,.int .i64 0,.slice none 0 0,.slice none 0 0]) Tryz.underlying23 hi0 hz0 (by rw [hz1];decide) (by rw [hz1];decide) (by rw [hz1];kernel_rfl) ?_)|(at_builtin;go_must (refine U4 _ rfl _ _ 23 rfl w2.heap.size 34 i0 _ 4 64 Tryz.underlying23 hi0 hz0 hz1 hz2 rfl (by decide) _ j (Ua U8 ((l.take j).map Vy)) rfl (HO4.out _) ((wx.alloc (.cells (U8 (Vy x)).toArray 34)).heap.size+1) (some ⟨(wx.alloc (.cells (U8 (Vy x)).toArray 34)).heap.size,0,none⟩) 1 1 (U8 (Vy x)) rfl HRD.out HON.out HAN1.out HAN2.out (HZ.out _) ?_;intro v' w5 hown hgr _;have HOWN:=Hd hown;have HB5:=Hd ((HB4.out _).grown hgr (HZ.out _) fun k hk=>HOR.out k hk);clear hown hgr)))
   go_roundw
   case rel=>exact ⟨j+1,by have:=HLT.out;omega,by go_num,by rw [HT.out,List.map_append,Uy,List.map_cons,List.map_nil,Uv];exact HOWN.out,HB5.out⟩
   case measure=>simp [intOf];have:=HLT.out;omega
  ·obtain rfl:j=n:=by omega
   have ht:l.take j=l:=List.take_of_length_le (by rw [HL.out];exact Le _);rw [ht] at hown;obtain ⟨A1,c1,rfl,_⟩:=Ub hown;have HCS1:=Hd (HLP.out.cs1 hbel hown);have X2b:=Hd (X2.out.nextB hbel X2.out.lt);have HLPx:=Hd (HLP.out.next hbel);clear hown hbel hlt hj ht;obtain ⟨R,hR⟩:∃ R,repF ini (Vd 1 l)=R:=⟨_,rfl⟩
   cases R with
   |inl er=>
    have HREP:=Hd hR;clear hR
    go_wp2_with (first|(go_at_call 7;refine (E8 A1 j c1 (l.map Vy) wx HCS1.out HN12.out (fun y hy=>by obtain ⟨x,hx,rfl⟩:=List.mem_map.1 hy;exact Lx (HLP.out.hcn x hx) (by omega))).mono ?_;rintro e w3 ⟨A3,c3,rfl,ho3,hb3⟩;rw [Ij,Ez,HL.out] at ho3 ⊢;have X3:=Hd (X2b.out.next hb3);have HBX3:=Hd hb3;have HRB:=Hd (fun g (hg:(Value.slice A3 j c3).ownBlock=some g)=>(Kt ho3 g hg).1);have HO3:=Hd ho3;have HLP3:=Hd (HLP.out.next (HB.out.trans (hb3.mono HB.out.size)));have HCS3:=Hd ((HLPx.out).cs2 hb3 ho3);clear ho3 hb3)|(go_at_call 9;refine (J8 iA im ic ini A3 j c3 (Vd 1 l) w3 HLP3.out.hi HLP3.out.hip HLP3.out.hiw HLP3.out.him HCS3.out HLP3.out.sm (G4 l 1 HLP3.out.hcn) HN12.out HLP3.out.ht HLP3.out.hc).mono ?_;intro e w4 hp4;rw [HREP.out] at hp4;obtain ⟨hne,rfl,hb4⟩:=hp4;have hbe:(er != 0)=true:=(by simpa using hne);have X4:=Hd (X3.out.next hb4);clear hne hb4)|(go_at_call 6;refine (HW.out _ X4.out.be).mono ?_;rintro e w9 ⟨rfl,hb9⟩;have X9:=Hd (X4.out.next hb9);clear hb9))
    go_ret;exact ⟨rfl,X9.out.be⟩
   |inr s=>
    have HREP:=Hd hR;have HRV:=Hd fun W=>rvread_any r W
    cases hrd:rdB r with
    |false=>
     rw [hrd] at HRV;clear hR hrd
     go_wp2_with (first|(go_at_call 7;refine (E8 A1 j c1 (l.map Vy) wx HCS1.out HN12.out (fun y hy=>by obtain ⟨x,hx,rfl⟩:=List.mem_map.1 hy;exact Lx (HLP.out.hcn x hx) (by omega))).mono ?_;rintro e w3 ⟨A3,c3,rfl,ho3,hb3⟩;rw [Ij,Ez,HL.out] at ho3 ⊢;have X3:=Hd (X2b.out.next hb3);have HBX3:=Hd hb3;have HRB:=Hd (fun g (hg:(Value.slice A3 j c3).ownBlock=some g)=>(Kt ho3 g hg).1);have HO3:=Hd ho3;have HLP3:=Hd (HLP.out.next (HB.out.trans (hb3.mono HB.out.size)));have HCS3:=Hd ((HLPx.out).cs2 hb3 ho3);clear ho3 hb3)|(go_at_call 9;refine (J8 iA im ic ini A3 j c3 (Vd 1 l) w3 HLP3.out.hi HLP3.out.hip HLP3.out.hiw HLP3.out.him HCS3.out HLP3.out.sm (G4 l 1 HLP3.out.hcn) HN12.out HLP3.out.ht HLP3.out.hc).mono ?_;intro e w4 hp4;rw [HREP.out] at hp4;obtain ⟨A4,c4,now,rfl,_,_,_,_,_,hb4⟩:=hp4;have X4:=Hd (X3.out.next hb4);have X4B:=Hd X4.out.bk;clear hb4)|((with_reducible refine Gl 49 5 ?_);refine U7 (by kernel_rfl) 49 _ rfl w.heap.size rfl 49 _ (0,0) _ X4B.out Tryz.underlying49 rfl (by kernel_rfl) ?_)|(go_at_call 12;refine (HRV.out _).mono ?_;rintro e w5 ⟨rfl,hb5⟩;have X5:=Hd (X4.out.next hb5);clear hb5)|(go_at_call 6;refine (HW.out _ X5.out.be).mono ?_;rintro e w9 ⟨rfl,hb9⟩;have X9:=Hd (X5.out.next hb9);clear hb9))
     go_ret;exact ⟨rfl,X9.out.be⟩
    |true=>
     have HRB:=Hd hrd;have HREX:=Hd fun ps=>rex_is (ps:=ps) hrd
     rw [hrd] at HRV;have HCHE:=Hd fun A'=>che_of (A:=A') hR HEND.out hrd
     clear hR hrd
     go_wp2_with (first|(go_at_call 7;refine (E8 A1 j c1 (l.map Vy) wx HCS1.out HN12.out (fun y hy=>by obtain ⟨x,hx,rfl⟩:=List.mem_map.1 hy;exact Lx (HLP.out.hcn x hx) (by omega))).mono ?_;rintro e w3 ⟨A3,c3,rfl,ho3,hb3⟩;rw [Ij,Ez,HL.out] at ho3 ⊢;have X3:=Hd (X2b.out.next hb3);have HBX3:=Hd hb3;have HRB:=Hd (fun g (hg:(Value.slice A3 j c3).ownBlock=some g)=>(Kt ho3 g hg).1);have HO3:=Hd ho3;have HLP3:=Hd (HLP.out.next (HB.out.trans (hb3.mono HB.out.size)));have HCS3:=Hd ((HLPx.out).cs2 hb3 ho3);clear ho3 hb3)|(go_at_call 9;refine (J8 iA im ic ini A3 j c3 (Vd 1 l) w3 HLP3.out.hi HLP3.out.hip HLP3.out.hiw HLP3.out.him HCS3.out HLP3.out.sm (G4 l 1 HLP3.out.hcn) HN12.out HLP3.out.ht HLP3.out.hc).mono ?_;intro e w4 hp4;rw [HREP.out] at hp4;obtain ⟨A4,c4,now,rfl,hs4,hA4,hc4,hn4,hl4,hb4⟩:=hp4;have HLN:=Hd hl4;clear hl4;have X4:=Hd (X3.out.next hb4);have X4B:=Hd X4.out.bk;have HN4:=Hd hn4;have HSA:=Hd hA4;have HSP:=Hd (fun y hy=>(hc4 y hy).2);clear hn4 hA4)|((with_reducible refine Gl 49 5 ?_);refine U7 (by kernel_rfl) 49 _ rfl w.heap.size rfl 49 _ (0,0) _ X4B.out Tryz.underlying49 rfl (by kernel_rfl) ?_)|(go_at_call 12;refine (HRV.out _).mono ?_;rintro e w5 ⟨rfl,hb5⟩;have X5:=Hd (X4.out.next hb5);have HB45:=Hd hb5;have HNOW:=Hd (And.intro (hs4.after hb5 hb5.size) (fun x hx=>(hc4 x hx).1.below hb5));have HB35:=Hd (U0 hb4 hb5 hb4.size);clear hb5 hs4 hc4 hb4))
     have HCS5:=Hd (HCS3.out.after HB35.out HB35.out.size);have HLP5:=Hd (HLP3.out.next HB35.out);have HO5:=Hd (Ui HO3.out HB35.out);obtain ⟨nl,hnl⟩:∃ nl,Vd 1 l=nl:=⟨_,rfl⟩
     rw [hnl] at HCS5 HO5;have HNL:=Hd hnl;have HNLL:=Hd HCS5.out.1.len;have HENL:Hid (Y0 1 nl=Y0 1 l):=Hd (by rw [←hnl,endN_numL]);have HCN:Hid (∀ y∈nl,y.cn≤8):=Hd (by rw [←hnl];exact G4 l 1 HLP3.out.hcn);clear hnl;go_loopw [12,79] (fun q i wr => ∃ p:Nat,p≤j∧i = .int .i64 p∧q = .int .i64 (Y0 1 (nl.take p))∧Below w5.heap.size w5 wr) (fun _ i _=>j-(intOf i).toNat)
     case atStart=>exact ⟨0,Z0 _,rfl,rfl,Bf _ _⟩
     case round=>
      obtain ⟨p,hp,rfl,rfl,hbel⟩:=hrel;obtain ⟨wy,rfl⟩:∃ x:World,x=wr:=⟨_,rfl⟩
      have HBY:=Hd hbel;have hn12:=HN12.out;by_cases hlt:p<j
      ·obtain ⟨b,o,x,rfl,hb,hg,hcell⟩:=Sl.cell (f:=U8) (k:=4) Uz (HCS5.out.1.below hbel) hlt
       have HM4:Hid (wy.rangeAt b (o+p*4) (U8 x)):=Hd fun t u hu=>hcell t u hu
       have HT:=Hd (Km hg);have hend:=endN_bd (nl.take p) (fun y hy=>Lx (HCN.out y (List.mem_of_mem_take hy)) (by omega)) 1;have hend0:=Ge (nl.take p) 1;have hxc:=HCN.out x (List.mem_of_getElem? hg);have htl:(nl.take p).length=p:=by rw [List.length_take,HNLL.out];omega
       rw [htl] at hend;obtain ⟨q,hq⟩:∃ q,Y0 1 (nl.take p)=q:=⟨_,rfl⟩
       have hnx:q+(x.cn:Int)=Y0 1 (nl.take (p+1)):=by rw [HT.out,F2,hq]
       have HNX:=Hd hnx
       have hw:IntKind.i64.wrap (q+(x.cn:Int))=q+(x.cn:Int):=by
        rw [hq] at hend hend0;have:=HN12.out;exact IntWalk.i64_in _ (by omega)
       rw [hq];have HA1:=Hd (Zx x);have HB2:=Hd fun old=>Blk.new wy 34 old
       have HS2:=Hd fun old=>U1 wy old (U8 x).toArray 34
       have c3:=((Blk.new wy 34 (U8 x).toArray).cell 3).trans (show _=some (Value.slice x.cA x.cn x.cc) from rfl);have HBZ:=Hd (hbel.alloc hbel.size (.cells (U8 x).toArray 34));have HLT:=Hd hlt;clear hb hg hcell hbel hlt hend hend0 hxc htl hq hnx hp;go_wp2_with (first|((with_reducible refine Gl 34 81 ?_);refine Lm rfl 34 _ rfl b (o+p*4) rfl (U8 x) _ HM4.out Tryz.underlying34 rfl (by kernel_rfl) ?_)|((with_reducible refine Gt 34 14 ?_);refine Lt rfl 34 _ _ rfl (wy.heap.size) (U8 x).toArray rfl rfl 34 _ (HB2.out _) (by kernel_rfl) rfl HA1.out ?_;rw [HS2.out]));go_roundw
       case rel=>exact ⟨p+1,by have:=HLT.out;omega,by go_num,by rw [←HNX.out],HBZ.out⟩
       case measure=>simp [intOf];have:=HLT.out;omega
      ·obtain rfl:p=j:=by omega
       have HTK:Hid (Y0 1 (nl.take p)=Y0 1 l):=Hd (by rw [List.take_of_length_le (by rw [HNLL.out];exact Le _),HENL.out]);rw [HTK.out];have XY:=Hd (X5.out.next hbel);have XYB:=Hd XY.out.bk;obtain ⟨q,hq⟩:∃ q,Y0 1 l=q:=⟨_,rfl⟩
       rw [hq] at HCHE ⊢;have HOY:=Hd (Ui HO5.out hbel);have HB0:=Hd fun old=>U3 (wy.alloc (.cells (rdC r).toArray 49)) 34 old (wy.heap.size+1) (by simp)
       have HS0:=Hd fun old cs=>Ue (wy.alloc (.cells (rdC r).toArray 49)) (wy.heap.size+1) (by simp) old cs 34
       have HUA:=Hd (Zx (rdU q (some ⟨wy.heap.size,0,none⟩) r));have HBU:=Hd (U3 (wy.alloc (.cells (rdC r).toArray 49)) 34 (U8 (rdU q (some ⟨wy.heap.size,0,none⟩) r)).toArray (wy.heap.size+1) (by simp));obtain ⟨Y,hY⟩:∃ Y,(wy.alloc (.cells (rdC r).toArray 49)).alloc (.cells (U8 (rdU q (some ⟨wy.heap.size,0,none⟩) r)).toArray 34)=Y:=⟨_,rfl⟩
       have hyb:Below wy.heap.size wy Y:=by rw [←hY];exact ((Bf _ _).alloc (Le _) _).alloc (by simp) _
       have hyr:Blk Y wy.heap.size 49 (rdC r).toArray:=by rw [←hY];exact (Blk.new wy _ _).alloc _
       rw [hY] at HBU;have HY:=Hd hY;have HYB:=Hd hyb;have HYR:=Hd hyr;have HRDU:=Hd (Va Y (U8 (rdU q (some ⟨wy.heap.size,0,none⟩) r)) 34 1 4 rfl);have HON:Hid (∀ u∈U8 (rdU q (some ⟨wy.heap.size,0,none⟩) r),u.oneCell'=true):=Hd (Ir _);have HO7:=Hd fun o4=>Ui HOY.out (hyb.alloc hyb.size o4)
       have HAN1:Hid (p+1≤maxLen):=Hd (by have:=HN12.out;unfold maxLen;omega);have HAN2:Hid ((p+1)*64≤140737488355328):=Hd (by have:=HN12.out;omega);have HXB:Hid (∀ o4,Below wx.heap.size wx (Y.alloc o4)):=Hd fun o4=>(HBX3.out.trans (((HB35.out.trans ((hbel.trans (hyb.mono hbel.size)).mono HB35.out.size)).mono HBX3.out.size))).alloc (Lx HBX3.out.size (Lx HB35.out.size (Lx hbel.size hyb.size))) o4
       have HZ7:Hid (∀ o4,wx.heap.size≤(Y.alloc o4).heap.size):=Hd fun o4=>(HXB.out o4).size
       have HNY:=Hd (And.intro (HNOW.out.1.after (hbel.trans (hyb.mono hbel.size)) (Lx hbel.size hyb.size)) (fun x hx=>((HNOW.out.2 x hx).below hbel).below hyb));have HWY3:Hid (w3.heap.size≤wy.heap.size):=Hd (Lx HB35.out.size hbel.size);have HEXQ:=Hd (now_ps HN4.out r.id);clear hY hyb hyr hbel hlt hp hq;cases hz:Xy (Y4 s r.id) r with
       |true=>
        have HZ:=Hd hz;clear hz
        go_wp2_with (first|((with_reducible refine Gl 49 5 ?_);refine Lr rfl 49 _ rfl w.heap.size rfl 49 _ (0,0) _ XYB.out Tryz.underlying49 rfl (by kernel_rfl) ?_)|((with_reducible refine Gc 31 ?_);refine wpList_buildSlice rfl 31 49 1 _ rfl (rdC r).toArray j0 (.agg #[.int .i64 0,.int .i64 0,.string ⟨#[]⟩,.string ⟨#[]⟩,.string ⟨#[]⟩,.int .i64 0]) Tryz.underlying31 hj0 hy0 (by rw [hy1];decide) (by rw [hy1];decide) (by rw [hy1];kernel_rfl) ?_)|((with_reducible refine Gb 34 ?_);refine U2 (by kernel_rfl) 34 _ rfl ((U8 (rdU q (some ⟨wy.heap.size,0,none⟩) r)).toArray) (by kernel_rfl) ?_)|((with_reducible refine Gt 34 15 ?_);refine Lt rfl 34 _ _ rfl (wy.heap.size+1) (U8 (rdU q (some ⟨wy.heap.size,0,none⟩) r)).toArray rfl rfl 34 _ (HB0.out _) (by kernel_rfl) rfl HUA.out ?_;rw [HS0.out,HY.out])|((with_reducible refine Gl 34 15 ?_);refine Lr rfl 34 _ rfl (wy.heap.size+1) rfl 34 _ (0,0) _ HBU.out Tryz.underlying34 rfl (by kernel_rfl) ?_)|((with_reducible refine Gc 23 ?_);refine wpList_buildSlice rfl 23 34 1 _ rfl (U8 (rdU q (some ⟨wy.heap.size,0,none⟩) r)).toArray i0 (.agg #[.int .i64 0,.int .i64 0,.slice none 0 0,.slice none 0 0]) Tryz.underlying23 hi0 hz0 (by rw [hz1];decide) (by rw [hz1];decide) (by rw [hz1];kernel_rfl) ?_)|(at_builtin;go_must (refine U4 _ rfl _ _ 23 rfl wx.heap.size 34 i0 _ 4 64 Tryz.underlying23 hi0 hz0 hz1 hz2 rfl (by decide) (.slice A3 p c3) p (Ua U8 nl) rfl (HO7.out _) (Y.heap.size+1) (some ⟨Y.heap.size,0,none⟩) 1 1 (U8 (rdU q (some ⟨wy.heap.size,0,none⟩) r)) rfl HRDU.out HON.out HAN1.out HAN2.out (HZ7.out _) ?_;intro v7 w7 hown hgr _;have HOWN7:=Hd hown;have HGR7:=Hd hgr;clear hown hgr)))
        obtain ⟨A7,c7,rfl,_⟩:=Ub HOWN7.out;have hb7:=(HXB.out _).grown HGR7.out (HZ7.out _) (fun k hk=>Jt HOY.out k hk);have HLP7:=Hd (HLPx.out.next hb7);have X7:=Hd (X2b.out.next hb7);have HSL7:=Hd (reads_sl HOWN7.out);have HBR7:=Hd ((HYR.out.alloc _).grown HGR7.out (Kp HRB.out HWY3.out));have HN7:=Hd (((HNY.out.1.after ((Bf Y.heap.size Y).alloc (Le _) _) (by simp)).grownA (Le _) HGR7.out (fun a ha=>Kp HRB.out (HSA.out a ha))).more HGR7.out.size);have HP7:=Hd (fun y hy=>((HNY.out.2 y hy).below ((Bf Y.heap.size Y).alloc (Le _) _)).grown HGR7.out (fun h0 a ha=>Kp HRB.out (HSP.out y hy h0 a ha)));clear hb7
        go_wp2_with (first|(go_at_call 10;refine (HLP7.out.check (q:=q) (r:=r) (by rw [HNL.out];exact HSL7.out) HBR7.out).mono ?_;intro e w8 hp8;rw [HCHE.out,HZ.out] at hp8;obtain ⟨rfl,hb8⟩:=hp8;have X8:=Hd (X7.out.next hb8);have X8B:=Hd X8.out.bk;have HN8:=Hd (HN7.out.after hb8 hb8.size);have HP8:=Hd (fun y hy=>(HP7.out y hy).below hb8);clear hb8)|((with_reducible refine Gl 49 5 ?_);refine Lr rfl 49 _ rfl w.heap.size rfl 49 _ (0,0) _ X8B.out Tryz.underlying49 rfl (by kernel_rfl) ?_)|(go_at_call 13;refine (Er r A4 now.length c4 now w8 HN8.out HP8.out HLN.out).mono ?_;rintro e w6 ⟨rfl,hb6⟩;rw [HEXQ.out,HREX.out,HZ.out];have X6:=Hd (X8.out.next hb6);clear hb6)|(go_at_call 6;refine (HW.out _ X6.out.be).mono ?_;rintro e w9 ⟨rfl,hb9⟩;have X9:=Hd (X6.out.next hb9);clear hb9));go_ret;exact ⟨rfl,X9.out.be⟩
       |false=>
        have HZ:=Hd hz;clear hz
        go_wp2_with (first|((with_reducible refine Gl 49 5 ?_);refine Lr rfl 49 _ rfl w.heap.size rfl 49 _ (0,0) _ XYB.out Tryz.underlying49 rfl (by kernel_rfl) ?_)|((with_reducible refine Gc 31 ?_);refine wpList_buildSlice rfl 31 49 1 _ rfl (rdC r).toArray j0 (.agg #[.int .i64 0,.int .i64 0,.string ⟨#[]⟩,.string ⟨#[]⟩,.string ⟨#[]⟩,.int .i64 0]) Tryz.underlying31 hj0 hy0 (by rw [hy1];decide) (by rw [hy1];decide) (by rw [hy1];kernel_rfl) ?_)|((with_reducible refine Gb 34 ?_);refine U2 (by kernel_rfl) 34 _ rfl ((U8 (rdU q (some ⟨wy.heap.size,0,none⟩) r)).toArray) (by kernel_rfl) ?_)|((with_reducible refine Gt 34 15 ?_);refine Lt rfl 34 _ _ rfl (wy.heap.size+1) (U8 (rdU q (some ⟨wy.heap.size,0,none⟩) r)).toArray rfl rfl 34 _ (HB0.out _) (by kernel_rfl) rfl HUA.out ?_;rw [HS0.out,HY.out])|((with_reducible refine Gl 34 15 ?_);refine Lr rfl 34 _ rfl (wy.heap.size+1) rfl 34 _ (0,0) _ HBU.out Tryz.underlying34 rfl (by kernel_rfl) ?_)|((with_reducible refine Gc 23 ?_);refine wpList_buildSlice rfl 23 34 1 _ rfl (U8 (rdU q (some ⟨wy.heap.size,0,none⟩) r)).toArray i0 (.agg #[.int .i64 0,.int .i64 0,.slice none 0 0,.slice none 0 0]) Tryz.underlying23 hi0 hz0 (by rw [hz1];decide) (by rw [hz1];decide) (by rw [hz1];kernel_rfl) ?_)|(at_builtin;go_must (refine U4 _ rfl _ _ 23 rfl wx.heap.size 34 i0 _ 4 64 Tryz.underlying23 hi0 hz0 hz1 hz2 rfl (by decide) (.slice A3 p c3) p (Ua U8 nl) rfl (HO7.out _) (Y.heap.size+1) (some ⟨Y.heap.size,0,none⟩) 1 1 (U8 (rdU q (some ⟨wy.heap.size,0,none⟩) r)) rfl HRDU.out HON.out HAN1.out HAN2.out (HZ7.out _) ?_;intro v7 w7 hown hgr _;have HOWN7:=Hd hown;have HGR7:=Hd hgr;clear hown hgr)))
        obtain ⟨A7,c7,rfl,_⟩:=Ub HOWN7.out;have hb7:=(HXB.out _).grown HGR7.out (HZ7.out _) (fun k hk=>Jt HOY.out k hk);have HLP7:=Hd (HLPx.out.next hb7);have X7:=Hd (X2b.out.next hb7);have HSL7:=Hd (reads_sl HOWN7.out);have HBR7:=Hd ((HYR.out.alloc _).grown HGR7.out (Kp HRB.out HWY3.out));have HN7:=Hd (((HNY.out.1.after ((Bf Y.heap.size Y).alloc (Le _) _) (by simp)).grownA (Le _) HGR7.out (fun a ha=>Kp HRB.out (HSA.out a ha))).more HGR7.out.size);have HP7:=Hd (fun y hy=>((HNY.out.2 y hy).below ((Bf Y.heap.size Y).alloc (Le _) _)).grown HGR7.out (fun h0 a ha=>Kp HRB.out (HSP.out y hy h0 a ha)));clear hb7;have hU:chkU (some (l.length,0))=(p:Int):=by show ((l.length:Nat):Int)=p;rw [HL.out]
        have hV:chkV (some (l.length,0))=0:=rfl;go_wp2_with (first|(go_at_call 10;refine (HLP7.out.check (q:=q) (r:=r) (by rw [HNL.out];exact HSL7.out) HBR7.out).mono ?_;intro e w8 hp8;rw [HCHE.out,HZ.out] at hp8;obtain ⟨rfl,hb8⟩:=hp8;have X8:=Hd (X7.out.next hb8);have X8B:=Hd X8.out.bk;have HN8:=Hd (HN7.out.after hb8 hb8.size);have HP8:=Hd (fun y hy=>(HP7.out y hy).below hb8);clear hb8)|((with_reducible refine Gl 49 5 ?_);refine Lr rfl 49 _ rfl w.heap.size rfl 49 _ (0,0) _ X8B.out Tryz.underlying49 rfl (by kernel_rfl) ?_)|(go_at_call 13;refine (Er r A4 now.length c4 now w8 HN8.out HP8.out HLN.out).mono ?_;rintro e w6 ⟨rfl,hb6⟩;rw [HEXQ.out,HREX.out,HZ.out];have X6:=Hd (X8.out.next hb6);clear hb6)|(go_at_call 6;refine (HW.out _ X6.out.be).mono ?_;rintro e w9 ⟨rfl,hb9⟩;have X9:=Hd (X6.out.next hb9);clear hb9));go_ret;exact ⟨rfl,X9.out.be⟩
end
section
set_option maxRecDepth 100000
open Go.Joins Go.ChangeShapes Go.WideShapes Go.RowKit Go.Deep
theorem build_list {α:Type} {P:Nat→α→Prop}:∀ (m:Nat),(∀ i,i<m→∃ x,P i x)→∃ l:List α,l.length=m∧∀ i x,l[i]? =some x→P i x
 |0,_=>⟨[],rfl,fun i x h=>by simp at h⟩
 |m+1,h=>by
  obtain ⟨l,hl,ih⟩:=build_list m fun i hi=>h i (by omega)
  obtain ⟨x,hx⟩:=h m (by omega);refine ⟨l++[x],by simp [hl],fun i y hy=>?_⟩;rw [List.getElem?_append] at hy;split at hy
  ·exact ih i y hy
  ·have:i=m:=by
    have:=(List.getElem?_eq_some_iff.1 hy).1;simp at this;omega
   subst this;rw [hl,Nat.sub_self] at hy;injection hy with hy
   subst hy;exact hx
theorem sl_came {α:Type} {f:α→List Value} {k:Nat} (hk:∀ x,(f x).length=k) (hk0:0<k) {w:World} {a:Addr} {n c:Nat} {l:List α} (hz:l.length=n) (hl:n≤c)
  (hcell:∀ i x,l[i]? =some x→∀ j u,(f x)[j]? =some u→w.cell? (a.add (i*k+j))=some u):Sl f k w w.heap.size (some a) n c l:=by
 refine ⟨hl,hz,by rw [Vm hk,hz],fun hn=>?_⟩;obtain ⟨b,off,spot⟩:=a;have hg:l[0]? =some l[0]:=List.getElem?_eq_getElem (by omega);have hu0:(f l[0])[0]? =some ((f l[0])[0]'(by rw [hk];exact hk0)):=List.getElem?_eq_getElem _;have h0:=hcell 0 _ hg 0 _ hu0;have hspot:spot=none:=by simpa [Addr.add] using World.cell?_spot h0
 subst hspot;have hadd:∀ j,(⟨b,off,none⟩:Addr).add j=⟨b,off+j,none⟩:=fun j=>by unfold Addr.add;split<;>simp_all
 refine ⟨b,off,rfl,?_,fun j u hu=>?_⟩
 ·rw [hadd] at h0
  by_cases hlt:b<w.heap.size
  ·exact hlt
  ·simp [World.cell?,Array.getElem?_eq_none (Nat.not_lt.1 hlt)] at h0
 ·have hj:j<n*k:=by have:=(List.getElem?_eq_some_iff.1 hu).1;rwa [Vm hk,hz] at this
  have hi:j / k<l.length:=by rw [hz];exact Nat.div_lt_of_lt_mul (by rwa [Nat.mul_comm] at hj)
  have hgi:l[j / k]? =some l[j / k]:=List.getElem?_eq_getElem hi;have hr:j % k<k:=Nat.mod_lt _ hk0;have he:j / k*k+j % k=j:=by rw [Nat.mul_comm];exact Nat.div_add_mod j k
  have h1:=Xx hk l (j / k) _ hgi (j % k) hr;rw [he,hu] at h1;have h2:=hcell (j / k) _ hgi (j % k) u h1.symm
  rwa [he,hadd] at h2
section
variable {H:Type} {enc:TypeId×Value→H} {w:World} {base:Nat} {spare:Nat→Bool} {held:Bool}
theorem Ex {P:Program} {t:TypeId} {fs:Array Field} {n:Nat} {cs:List Value} {x:DataW H×List MemPlace} (ht:P.underlying t=some (.struct fs))
  (hone:∀ (i:Nat) (f:Field),fs[i]? =some f→f.offset=i∧P.cellsOf f.type=1) (hC:P.cellsOf t=fs.size) (h:DataW.trod enc P w base spare held n t cs=some x):
  cs.length=fs.size∧∃ m,∀ (i:Nat) (f:Field),fs[i]? =some f→∃ v y,cs[i]? =some v∧DataW.trod enc P w base spare held m f.type [v]=some y:=by
 obtain ⟨xs,m,_,rfl,hlen,hxl,hf⟩:=DataW.trod_struct ht h;refine ⟨hlen.trans hC,m,fun i f hi=>?_⟩;have hlt:i<fs.size:=(Array.getElem?_eq_some_iff.1 hi).1;obtain ⟨ho,hc1⟩:=hone i f hi;have g:=hf i f hi;have hl':i<cs.length:=by omega
 rw [ho,hc1,take1_drop cs i undef hl',List.getElem?_eq_getElem (by omega)] at g;exact ⟨_,_,by simp [List.getD,List.getElem?_eq_getElem hl'],g⟩
theorem open_change {n:Nat} {cs:List Value} {x:DataW H×List MemPlace} (h:DataW.trod enc prog w base spare held n 58 cs=some x):∃ r:Chg,cs=chC r:=by
 obtain ⟨hl,m,hf⟩:=Ex Tryz.underlying58 (hone_of (by kernel_rfl)) (by kernel_rfl) h;have hl':cs.length=5:=hl;obtain ⟨v0,y0,g0,t0⟩:=hf 0 _ rfl;obtain ⟨v1,y1,g1,t1⟩:=hf 1 _ rfl;obtain ⟨v2,y2,g2,t2⟩:=hf 2 _ rfl;obtain ⟨v3,y3,g3,t3⟩:=hf 3 _ rfl;obtain ⟨v4,y4,g4,t4⟩:=hf 4 _ rfl;obtain ⟨a0,e0,_,_⟩:=DataW.trod_int Tryz.underlying3 t0;obtain ⟨a1,e1,_,_⟩:=DataW.trod_int Tryz.underlying3 t1;obtain ⟨a2,e2,_,_⟩:=DataW.trod_string Tryz.underlying9 t2;obtain ⟨a3,e3,_,_⟩:=DataW.trod_string Tryz.underlying9 t3;obtain ⟨a4,e4,_,_⟩:=DataW.trod_string Tryz.underlying9 t4
 match cs,hl' with
 | [c0,c1,c2,c3,c4],_=>
  simp at g0 g1 g2 g3 g4 e0 e1 e2 e3 e4;subst g0 g1 g2 g3 g4 e0 e1 e2 e3 e4;exact ⟨⟨a0,a1,a2,a3,a4⟩,rfl⟩
theorem open_answer {n:Nat} {cs:List Value} {x:DataW H×List MemPlace} (h:DataW.trod enc prog w base spare held n 47 cs=some x):∃ a b c,cs = [.string a,.string b,.int .i64 c]:=by
 obtain ⟨hl,m,hf⟩:=Ex Tryz.underlying47 (hone_of (by kernel_rfl)) (by kernel_rfl) h;have hl':cs.length=3:=hl;obtain ⟨v0,y0,g0,t0⟩:=hf 0 _ rfl;obtain ⟨v1,y1,g1,t1⟩:=hf 1 _ rfl;obtain ⟨v2,y2,g2,t2⟩:=hf 2 _ rfl;obtain ⟨a0,e0,_,_⟩:=DataW.trod_string Tryz.underlying9 t0;obtain ⟨a1,e1,_,_⟩:=DataW.trod_string Tryz.underlying9 t1;obtain ⟨a2,e2,_,_⟩:=DataW.trod_int Tryz.underlying39 t2
 match cs,hl' with
 | [c0,c1,c2],_=>
  simp at g0 g1 g2 e0 e1 e2;subst g0 g1 g2 e0 e1 e2;exact ⟨a0,a1,a2,rfl⟩
theorem open_read {n:Nat} {cs:List Value} {x:DataW H×List MemPlace} (h:DataW.trod enc prog w base spare held n 49 cs=some x):∃ r:Rdd,cs=rdC r:=by
 obtain ⟨xs,m,_,rfl,hlen,hxl,hf⟩:=DataW.trod_struct Tryz.underlying49 h;have hl':cs.length=6:=hlen.trans (by kernel_rfl);have hxl':xs.length=4:=hxl;have k3:prog.cellsOf 3=1:=by kernel_rfl
 have k9:prog.cellsOf 9=1:=by kernel_rfl
 have kA:prog.cellsOf 47=3:=by kernel_rfl
 match cs,hl',xs,hxl' with
 | [c0,c1,c2,c3,c4,c5],_,[y0,y1,y2,y3],_=>
  have g0:=hf 0 _ rfl;have g1:=hf 1 _ rfl;have g2:=hf 2 _ rfl;have g3:=hf 3 _ rfl;simp [k3,k9,kA] at g0 g1 g2 g3;obtain ⟨a0,e0,_,_⟩:=DataW.trod_int Tryz.underlying3 g0;obtain ⟨a1,e1,_,_⟩:=DataW.trod_int Tryz.underlying3 g1;obtain ⟨a2,e2,_,_⟩:=DataW.trod_string Tryz.underlying9 g2;obtain ⟨a3,a4,a5,e3⟩:=open_answer g3;simp at e0 e1 e2 e3;obtain ⟨e3,e4,e5⟩:=e3;subst e0 e1 e2 e3 e4 e5;exact ⟨⟨a0,a1,a2,a3,a4,a5⟩,rfl⟩
theorem Zu {α:Type} {f:α→List Value} {k:Nat} {Q:α→Prop} (hk:∀ x,(f x).length=k) (hk0:0<k) {t e:TypeId} {n:Nat} {cs:List Value} {x:DataW H×List MemPlace}
  (ht:prog.underlying t=some (.slice e)) (hc:prog.cellsOf e=k)
  (ho:∀ m cs y,DataW.trod enc prog w base spare held m e cs=some y→∃ r:α,cs=f r∧Q r) (h:DataW.trod enc prog w base spare held n t cs=some x):
  ∃ (A:Option Addr) (n c:Nat) (l:List α),cs = [.slice A n c]∧Sl f k w w.heap.size A n c l∧n≤maxLen∧∀ x∈l,Q x:=by
 rcases open_slice ht h with ⟨rfl,_⟩|⟨a,len,cap,m,n',D,Pl,rfl,_,hl,hm,hmm,_,hx⟩
 ·exact ⟨none,0,0,[],rfl,Sl.nil,by omega,fun x hx=>by simp at hx⟩
 have hlm:len≤m:=by rw [hmm];split<;>omega
 obtain ⟨l,hll,hall⟩:=build_list (P:=fun i r=>(∀ j u,(f r)[j]? =some u→w.cell? (a.add (i*k+j))=some u)∧Q r) len fun i hi=>by
  obtain ⟨cs',h1,h2⟩:=hx i (by omega);obtain ⟨r,rfl,hq⟩:=ho _ _ _ h2;rw [hc] at h1;obtain ⟨_,hlen,hcell⟩:=World.cells?_some h1;refine ⟨r,fun j u hu=>?_,hq⟩;have hj:j<k:=by have:=(List.getElem?_eq_some_iff.1 hu).1;rwa [hk] at this
  have:=hcell j hj;rw [add_add,hu] at this;exact this
 refine ⟨some a,len,cap,l,rfl,sl_came hk hk0 hll hl fun i x hi=>(hall i x hi).1,by omega,fun x hx=>?_⟩;obtain ⟨i,hi,rfl⟩:=List.getElem_of_mem hx;exact (hall i _ (List.getElem?_eq_getElem hi)).2
theorem open_unit {n:Nat} {cs:List Value} {x:DataW H×List MemPlace} (h:DataW.trod enc prog w base spare held n 34 cs=some x):∃ r:Com,cs=U8 r∧ComOk w w.heap.size r:=by
 obtain ⟨hl,m,hf⟩:=Ex Tryz.underlying34 (hone_of (by kernel_rfl)) (by kernel_rfl) h;have hl':cs.length=4:=hl;obtain ⟨v0,y0,g0,t0⟩:=hf 0 _ rfl;obtain ⟨v1,y1,g1,t1⟩:=hf 1 _ rfl;obtain ⟨v2,y2,g2,t2⟩:=hf 2 _ rfl;obtain ⟨v3,y3,g3,t3⟩:=hf 3 _ rfl;obtain ⟨a0,e0,_,_⟩:=DataW.trod_int Tryz.underlying3 t0;obtain ⟨a1,e1,_,_⟩:=DataW.trod_int Tryz.underlying3 t1;obtain ⟨A2,n2,c2,l2,e2,s2,m2,_⟩:=Zu (Q:=fun _=>True) rdC_len (by decide) Tryz.underlying31 (by kernel_rfl) (fun m cs y h=>let ⟨r,hr⟩:=open_read h;⟨r,hr,trivial⟩) t2;obtain ⟨A3,n3,c3,l3,e3,s3,m3,_⟩:=Zu (Q:=fun _=>True) chC_len (by decide) Tryz.underlying32 (by kernel_rfl) (fun m cs y h=>let ⟨r,hr⟩:=open_change h;⟨r,hr,trivial⟩) t3
 match cs,hl' with
 | [c0,c1,c2',c3'],_=>
  simp at g0 g1 g2 g3 e0 e1 e2 e3;subst g0 g1 g2 g3 e0 e1 e2 e3;exact ⟨⟨a0,a1,A2,n2,c2,A3,n3,c3,l2,l3⟩,rfl,s2,s3,m2,m3⟩
theorem open_units {r:Reach} {b0:Nat} {v:Value} {d:DataW H} {p:List MemPlace} (hv:Value.okWide prog w r b0 23 v) (h:DataW.Trod enc prog w base spare held 23 v d p):
  ∃ (A:Option Addr) (n c:Nat) (l:List Com),v = .slice A n c∧Cs w w.heap.size A n c l:=by
 obtain ⟨a0,len,cap,rfl⟩:=okWide_slice Tryz.underlying23 hv;obtain ⟨fuel,hf⟩:=h;obtain ⟨A,n,c,l,e,hs,_,hq⟩:=Zu Uz (by decide) Tryz.underlying23 (by kernel_rfl) (fun m cs y h=>open_unit h) hf;simp [Value.cells] at e;obtain ⟨rfl,rfl,rfl⟩:=e;exact ⟨_,_,_,l,rfl,hs,hq⟩
end
end
end Go.Proofs.YtapanepkfbamhaaGreatDoor
