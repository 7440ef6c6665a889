/- Part of the proof of HistoryReads. -/
import Derived.Test.YtapanepkfbamhaaGreatDoorJBK
namespace Go.Proofs.YtapanepkfbamhaaGreatDoor
open Tryz (prog)
section
set_option maxRecDepth 100000
set_option maxHeartbeats 4000000
open Go.RowKit
def DoE (R:Int ⊕ List Pr) (x:Cnt) (n:Int) (w:World) (e:Ending) (w':World):Prop:=match R with
 |.inl er=>e = .returned (.tuple #[.agg zV.toArray,.int .i64 er])∧Below w.heap.size w w'
 |.inr l=>(1024<l.length∧e = .returned (.tuple #[.agg zV.toArray,.int .i64 8])∧Below w.heap.size w w')∨∃ A cc,l.length≤1024∧e = .returned (.tuple #[.agg (cnC ⟨x.d,n,A,l.length,cc,l⟩).toArray,.int .i64 0])∧CW w' ⟨x.d,n,A,l.length,cc,l⟩∧(∀ a,A=some a→w.heap.size≤a.block)∧Below w.heap.size w w'
theorem dw_base {B:Nat} {x:Cnt} {n:Int} {c:Chg} {w W W':World} (h:DW x n c w W) (hb:Below B W W') (hB:w.heap.size+3≤B):DW x n c w W':=
 ⟨h.b1.below hb (by omega),h.b2.below hb (by omega),h.b3.below hb (by omega),Lx h.sz hb.size,h.be.trans (hb.mono (by omega))⟩
theorem dw_r1 {x:Cnt} {n:Int} {c:Chg} {w W:World} (h:DW x n c w W):W.rangeAt w.heap.size 0 (dC x.d):=h.b1.range 0 _ fun _ _ hv=>app_at hv
theorem nb_at {n:Int} {c:Chg} {j:Nat} {v:Value} (h:(chC c)[j]? =some v):(nbC n c).toArray[1+j]? =some v:=by
 rw [Ga,Nat.add_comm];exact h
theorem Fo {x:Cnt} {n:Int} {c:Chg} {w W:World} (h:DW x n c w W):W.rangeAt (w.heap.size+1) 1 (chC c):=h.b2.range 1 _ fun _ _ hv=>nb_at hv
theorem do_eff (x:Cnt) (n:Int) (c:Chg) (w:World) (fn:Nat) (R:Int ⊕ List Pr) (hx:CW w x) (hi:c.id=x.d.id) (hn:x.ap<n) (k0:0≤c.kind) (k3:c.kind≤3) (hfn:efV c.kind = .func (.func fn) #[] #[])
  (hR0:∀ er,R = .inl er→er≠0) (hRZ:∀ l,R = .inr l→∀ q∈l,q.rcd.size≤maxLen)
  (hcf:∀ args W,(callFunc fn args).run prog W = .ok (.enter fn args) W)
  (hE:∀ W A cc base,Below w.heap.size w W→W.ownsRow base 76 2 (.slice A x.pn cc) x.pn (eC x.ps)→base≤W.heap.size→Calls prog fn #[.agg (dC x.d).toArray,.slice A x.pn cc,.agg (chC c).toArray] W (EffP base R W)):
  Calls prog 88 #[.agg (cnC x).toArray,.agg (nbC n c).toArray] w (DoE R x n w):=by
 have HX:=Hd (dw_new x n c w);have n0:=(HX.out.b2.cell 0).trans (show _=some (Value.int .i64 n) from rfl);have n2:=(HX.out.b2.cell 2).trans (show _=some (Value.int .i64 c.id) from rfl);have c0:=(HX.out.b1.cell 0).trans (show _=some (Value.int .i64 x.d.id) from rfl);have c21:=(HX.out.b1.cell 21).trans (show _=some (Value.int .i64 x.ap) from rfl);have c22:=(HX.out.b1.cell 22).trans (show _=some (Value.slice x.pA x.pn x.pc) from rfl);have HCL:Hid (∀ W,Below w.heap.size w W→Calls prog 24 #[.slice x.pA x.pn x.pc] W fun e w' => ∃ v,e = .returned v∧w'.ownsRow W.heap.size 76 2 v x.pn (Ua prC x.ps)∧Below W.heap.size W w'):=Hd fun W hb=>Ji x.pA x.pn x.pc x.ps W (hx.sl.after hb hb.size) (by have:=hx.le;omega)
 have HLK:Hid (∀ W b,W.heap[b]? =some (.map ef4 4)→(Instr.lookup 201 (.map (some b)) (.int .i64 c.kind) true).run prog W = .ok (.tuple #[.func (.func fn) #[] #[],.bool true]) W):=Hd fun W b hb=>by rw [←hfn];exact efLook_some W b c.kind hb k0 k3
 have HRZL:=Hd hRZ;have HEF:=Hd hE;have HCF:=Hd hcf;have HR0:=Hd hR0;have e1:(c.id != x.d.id)=false:=by simpa using hi
 have e2:decide (n≤x.ap)=false:=decide_eq_false (by omega);unfold zV at n0 n2 c0 c21 c22;clear hx hi hn k0 k3 hfn hcf hE hR0 hRZ;go_enter Tryz.func88,Tryz.ntmps88;go_wp2_with (first|(go_at_call 24;refine (HCL.out _ HX.out.be).mono ?_;rintro e w2 ⟨v,rfl,hown,hb⟩;have HX2:=Hd (Uw HX.out hb);obtain ⟨A2,cc2,rfl,_⟩:=Ub hown;have HO2:=Hd hown;clear hown hb n0 n2 c0 c21 c22)|fail);have HX2d:Hid (DW x n c w w2.drew):=Hd (Uw HX2.out (Bf _ _).drew);refine Rw (S:=fun w'=>DW x n c w w') (by kernel_rfl) HX2d.out (fun Hh=>?_);refine tk 1 (.pointer (some ⟨w.heap.size+1,1,none⟩)) Hh ?_;refine tk 2 (.pointer (some ⟨w.heap.size+1,1,none⟩)) Hh ?_;refine tk 3 (.int .i64 c.kind) Hh ?_ (y:=by exact Or.inl ⟨by rfl,by intro w' hSw;have h1:=(hSw.b2.cell 1).trans (show _=some (Value.int .i64 c.kind) from rfl);go_simp⟩)
 refine Ar (rs:=[0]) (by kernel_rfl) (by simp) ?_;refine Rc (fun K hK=>?_) ?_
 ·go_simp
  refine (Ia _).mono ?_;rintro e w3 ⟨rfl,rfl⟩;simp only [];have hb:=Ec w2.drew;have HX3:=Hd (Uw HX2d.out hb);refine hK.out _ _ (Uw Hh hb) (fun Hh=>?_);clear hK K hb;try simp only [Act.put,Sv,Sz,Sw]
  refine Ar (rs:=[4]) (by kernel_rfl) (by simp) ?_;refine Rc (fun K hK=>?_) ?_
  ·go_simp
   have hl:=HLK.out (w2.drew.alloc (.map ef4 4)) w2.heap.size (heap_alloc_new w2.drew _);have hl2:=HLK.out ((w2.alloc (.map ef4 4)).drew) w2.heap.size (heap_alloc_new w2 _);go_simp;refine hK.out _ _ Hh (fun Hh=>?_);clear hK K hl hl2;try simp only [Act.put,Sv,Sz,Sw]
   refine tk 5 (.tuple #[.func (.func fn) #[] #[],.bool true]) Hh ?_;refine tk 6 (.func (.func fn) #[] #[]) Hh ?_;refine tk 7 (.bool true) Hh ?_;refine tk 8 (.func (.func fn) #[] #[]) Hh ?_;refine tk 9 (.bool true) Hh ?_;refine Ad (by kernel_rfl) ?_ _;clear Hh;have HX4:Hid (DW x n c w (w2.alloc (.map ef4 4)).drew):=Hd HX3.out;have HBZ:Hid ((((w.alloc (.cells (cnC x).toArray 30)).alloc (.cells (nbC n c).toArray 127)).alloc (.cells zV.toArray 30)).heap.size=w.heap.size+3):=Hd (by simp);have HE5:=Hd (HEF.out (w2.alloc (.map ef4 4)).drew A2 cc2 _ HX4.out.be (HO2.out.alloc _) (by rw [HBZ.out];exact HX4.out.sz));have hcf:=HCF.out;rw [HBZ.out] at HE5;cases R with
   |inl er=>
    have hne:=HR0.out er rfl;have e3:(er != 0)=true:=by simpa using hne
    clear hne;go_wp2_with (first|((with_reducible refine Gl 27 39 ?_);refine Lm rfl 27 _ rfl w.heap.size (0) rfl (dC x.d) _ (dw_r1 HX4.out) Tryz.underlying27 rfl (by kernel_rfl) ?_)|((with_reducible refine Gl 58 42 ?_);refine Lm rfl 58 _ rfl (w.heap.size+1) (1) rfl (chC c) _ (Fo HX4.out) Tryz.underlying58 rfl (by kernel_rfl) ?_)|((with_reducible show Calls _ _ _ _ _);refine HE5.out.mono ?_;rintro e w5 ⟨rfl,hb⟩;have HX5:=Hd (dw_base HX4.out hb (Le _));clear hb)|((with_reducible refine Gb 30 ?_);refine U2 (by kernel_rfl) 30 _ rfl zV.toArray (by kernel_rfl) ?_)|((with_reducible refine Gt 30 4 ?_);refine Lt rfl 30 _ _ rfl (w.heap.size+2) zV.toArray rfl rfl 30 _ HX5.out.b3 (by kernel_rfl) rfl (by simp [zV,Value.oneCell']) ?_))
    have hr:=Us (w5.setRow (w.heap.size+2) zV.toArray) (w.heap.size+2) zV.toArray (setRow_heap _ _ _ _ _ _ HX5.out.b3) rfl;exact Br (v:=.tuple #[.agg zV.toArray,.int .i64 er]) (U5 Tryz.results88 rfl rfl hr) rfl ⟨rfl,U6 HX5.out.be (by omega) _⟩
   |inr l=>
    by_cases hlen:1024<l.length
    ·have e4:decide ((1024:Int)<(l.length:Int))=true:=decide_eq_true (by omega)
     have HLN:=Hd hlen;clear hlen
     go_wp2_with (first|((with_reducible refine Gl 27 39 ?_);refine Lm rfl 27 _ rfl w.heap.size (0) rfl (dC x.d) _ (dw_r1 HX4.out) Tryz.underlying27 rfl (by kernel_rfl) ?_)|((with_reducible refine Gl 58 42 ?_);refine Lm rfl 58 _ rfl (w.heap.size+1) (1) rfl (chC c) _ (Fo HX4.out) Tryz.underlying58 rfl (by kernel_rfl) ?_)|((with_reducible show Calls _ _ _ _ _);refine HE5.out.mono ?_;rintro e w5 ⟨A5,cc5,rfl,hown,hb⟩;have HX5:=Hd (dw_base HX4.out hb (Le _));have HO5:=Hd hown;have n05:=(HX5.out.b2.cell 0).trans (show _=some (Value.int .i64 n) from rfl);clear hb hown)|((with_reducible refine Gb 30 ?_);refine U2 (by kernel_rfl) 30 _ rfl zV.toArray (by kernel_rfl) ?_)|((with_reducible refine Gt 30 4 ?_);refine Lt rfl 30 _ _ rfl (w.heap.size+2) zV.toArray rfl rfl 30 _ HX5.out.b3 (by kernel_rfl) rfl (by simp [zV,Value.oneCell']) ?_))
     have hr:=Us (w5.setRow (w.heap.size+2) zV.toArray) (w.heap.size+2) zV.toArray (setRow_heap _ _ _ _ _ _ HX5.out.b3) rfl;exact Br (v:=.tuple #[.agg zV.toArray,.int .i64 8]) (U5 Tryz.results88 rfl rfl hr) rfl (.inl ⟨HLN.out,rfl,U6 HX5.out.be (by omega) _⟩)
    ·have e4:decide ((1024:Int)<(l.length:Int))=false:=decide_eq_false (by omega)
     have HLN:Hid (l.length≤1024):=Hd (by omega);clear hlen
     go_wp2_with (first|((with_reducible refine Gl 27 39 ?_);refine Lm rfl 27 _ rfl w.heap.size (0) rfl (dC x.d) _ (dw_r1 HX4.out) Tryz.underlying27 rfl (by kernel_rfl) ?_)|((with_reducible refine Gl 58 42 ?_);refine Lm rfl 58 _ rfl (w.heap.size+1) (1) rfl (chC c) _ (Fo HX4.out) Tryz.underlying58 rfl (by kernel_rfl) ?_)|((with_reducible show Calls _ _ _ _ _);refine HE5.out.mono ?_;rintro e w5 ⟨A5,cc5,rfl,hown,hb⟩;have HX5:=Hd (dw_base HX4.out hb (Le _));have HO5:=Hd hown;have n05:=(HX5.out.b2.cell 0).trans (show _=some (Value.int .i64 n) from rfl);clear hb hown)|((with_reducible refine Gl 27 55 ?_);refine Lm rfl 27 _ rfl w.heap.size (0) rfl (dC x.d) _ (dw_r1 HX5.out) Tryz.underlying27 rfl (by kernel_rfl) ?_)|((with_reducible refine Gb 30 ?_);refine U2 (by kernel_rfl) 30 _ rfl (cnC ⟨x.d,n,A5,l.length,cc5,l⟩).toArray (by kernel_rfl) ?_)|((with_reducible refine Gt 30 4 ?_);refine Lt rfl 30 _ _ rfl (w.heap.size+2) (cnC ⟨x.d,n,A5,l.length,cc5,l⟩).toArray rfl rfl 30 _ HX5.out.b3 (by kernel_rfl) rfl (Vx _) ?_))
     have hr:=Us (w5.setRow (w.heap.size+2) (cnC ⟨x.d,n,A5,l.length,cc5,l⟩).toArray) (w.heap.size+2) (cnC ⟨x.d,n,A5,l.length,cc5,l⟩).toArray (setRow_heap _ _ _ _ _ _ HX5.out.b3) rfl;have hcw:CW (w5.setRow (w.heap.size+2) (cnC ⟨x.d,n,A5,l.length,cc5,l⟩).toArray) ⟨x.d,n,A5,l.length,cc5,l⟩:=⟨Xu (sl_own HO5.out) _ _ (fun a ha=>by subst ha;have:=(HO5.out.lt _ rfl).1;omega),HLN.out,fun h=>by subst h;rcases HO5.out.2 with ⟨e,_⟩|⟨g,cap,cur,e,_⟩<;>(injection e with e6 e7 e8)<;>(first|exact e8|cases e6),HRZL.out l rfl⟩
     exact Br (v:=.tuple #[.agg (cnC ⟨x.d,n,A5,l.length,cc5,l⟩).toArray,.int .i64 0]) (U5 Tryz.results88 rfl rfl hr) rfl (.inr ⟨A5,cc5,HLN.out,rfl,hcw,(fun a ha=>by subst ha;have:=(HO5.out.lt _ rfl).1;omega),U6 HX5.out.be (by omega) _⟩)
  exact An
 exact An
end
section
set_option maxRecDepth 100000
set_option maxHeartbeats 4000000
open Go.RowKit
theorem do_none (x:Cnt) (n:Int) (c:Chg) (w:World) (hx:CW w x) (hi:c.id=x.d.id) (hn:x.ap<n) (hk:c.kind<0∨3<c.kind):
  Calls prog 88 #[.agg (cnC x).toArray,.agg (nbC n c).toArray] w (DoE (.inr x.ps) x n w):=by
 have HX:=Hd (dw_new x n c w);have n0:=(HX.out.b2.cell 0).trans (show _=some (Value.int .i64 n) from rfl);have n2:=(HX.out.b2.cell 2).trans (show _=some (Value.int .i64 c.id) from rfl);have c0:=(HX.out.b1.cell 0).trans (show _=some (Value.int .i64 x.d.id) from rfl);have c21:=(HX.out.b1.cell 21).trans (show _=some (Value.int .i64 x.ap) from rfl);have c22:=(HX.out.b1.cell 22).trans (show _=some (Value.slice x.pA x.pn x.pc) from rfl);have HCL:Hid (∀ W,Below w.heap.size w W→Calls prog 24 #[.slice x.pA x.pn x.pc] W fun e w' => ∃ v,e = .returned v∧w'.ownsRow W.heap.size 76 2 v x.pn (Ua prC x.ps)∧Below W.heap.size W w'):=Hd fun W hb=>Ji x.pA x.pn x.pc x.ps W (hx.sl.after hb hb.size) (by have:=hx.le;omega)
 have HLK:Hid (∀ W b,W.heap[b]? =some (.map ef4 4)→(Instr.lookup 201 (.map (some b)) (.int .i64 c.kind) true).run prog W = .ok (.tuple #[.nilFunc,.bool false]) W):=Hd fun W b hb=>efLook_none W b c.kind hb hk
 have HRZ:Hid (∀ q∈x.ps,q.rcd.size≤maxLen):=Hd hx.rz;have HPN:Hid (x.pn≤1024∧x.ps.length=x.pn):=Hd ⟨hx.le,hx.sl.len⟩;have e4:decide ((1024:Int)<(x.pn:Int))=false:=decide_eq_false (by have:=hx.le;omega);have e1:(c.id != x.d.id)=false:=by simpa using hi
 have e2:decide (n≤x.ap)=false:=decide_eq_false (by omega);unfold zV at n0 n2 c0 c21 c22;clear hx hi hn hk;go_enter Tryz.func88,Tryz.ntmps88;go_wp2_with (first|(go_at_call 24;refine (HCL.out _ HX.out.be).mono ?_;rintro e w2 ⟨v,rfl,hown,hb⟩;have HX2:=Hd (Uw HX.out hb);obtain ⟨A2,cc2,rfl,_⟩:=Ub hown;have HO2:=Hd hown;clear hown hb n0 n2 c0 c21 c22)|fail);have HX2d:Hid (DW x n c w w2.drew):=Hd (Uw HX2.out (Bf _ _).drew);refine Rw (S:=fun w'=>DW x n c w w') (by kernel_rfl) HX2d.out (fun Hh=>?_);refine tk 1 (.pointer (some ⟨w.heap.size+1,1,none⟩)) Hh ?_;refine tk 2 (.pointer (some ⟨w.heap.size+1,1,none⟩)) Hh ?_;refine tk 3 (.int .i64 c.kind) Hh ?_ (y:=by exact Or.inl ⟨by rfl,by intro w' hSw;have h1:=(hSw.b2.cell 1).trans (show _=some (Value.int .i64 c.kind) from rfl);go_simp⟩);refine Ar (rs:=[0]) (by kernel_rfl) (by simp) ?_
 refine Rc (fun K hK=>?_) ?_
 ·go_simp
  refine (Ia _).mono ?_;rintro e w3 ⟨rfl,rfl⟩;simp only [];have hb:=Ec w2.drew;have HX3:=Hd (Uw HX2d.out hb);refine hK.out _ _ (Uw Hh hb) (fun Hh=>?_);clear hK K hb;try simp only [Act.put,Sv,Sz,Sw]
  refine Ar (rs:=[4]) (by kernel_rfl) (by simp) ?_;refine Rc (fun K hK=>?_) ?_
  ·go_simp
   have hl:=HLK.out (w2.drew.alloc (.map ef4 4)) w2.heap.size (heap_alloc_new w2.drew _);have hl2:=HLK.out ((w2.alloc (.map ef4 4)).drew) w2.heap.size (heap_alloc_new w2 _);go_simp;refine hK.out _ _ Hh (fun Hh=>?_);clear hK K hl hl2;try simp only [Act.put,Sv,Sz,Sw]
   refine tk 5 (.tuple #[.nilFunc,.bool false]) Hh ?_;refine tk 6 .nilFunc Hh ?_;refine tk 7 (.bool false) Hh ?_;refine tk 8 .nilFunc Hh ?_;refine tk 9 (.bool false) Hh ?_;refine Ad (by kernel_rfl) ?_ _;clear Hh;have HX4:Hid (DW x n c w (w2.alloc (.map ef4 4)).drew):=Hd HX3.out;have HO4:Hid ((w2.alloc (.map ef4 4)).drew.ownsRow (w.heap.size+3) 76 2 (.slice A2 x.pn cc2) x.pn (eC x.ps)):=Hd (by have h:=HO2.out.alloc (.map ef4 4);have e:(((w.alloc (.cells (cnC x).toArray 30)).alloc (.cells (nbC n c).toArray 127)).alloc (.cells zV.toArray 30)).heap.size=w.heap.size+3:=(by simp);rw [e] at h;exact h);have n05:=(HX4.out.b2.cell 0).trans (show _=some (Value.int .i64 n) from rfl)
   go_wp2_with (first|((with_reducible refine Gl 27 55 ?_);refine Lm rfl 27 _ rfl w.heap.size (0) rfl (dC x.d) _ (dw_r1 HX4.out) Tryz.underlying27 rfl (by kernel_rfl) ?_)|((with_reducible refine Gb 30 ?_);refine U2 (by kernel_rfl) 30 _ rfl (cnC ⟨x.d,n,A2,x.pn,cc2,x.ps⟩).toArray (by kernel_rfl) ?_)|((with_reducible refine Gt 30 4 ?_);refine Lt rfl 30 _ _ rfl (w.heap.size+2) (cnC ⟨x.d,n,A2,x.pn,cc2,x.ps⟩).toArray rfl rfl 30 _ HX4.out.b3 (by kernel_rfl) rfl (Vx _) ?_));have hr:=Us ((w2.alloc (.map ef4 4)).drew.setRow (w.heap.size+2) (cnC ⟨x.d,n,A2,x.pn,cc2,x.ps⟩).toArray) (w.heap.size+2) (cnC ⟨x.d,n,A2,x.pn,cc2,x.ps⟩).toArray (setRow_heap _ _ _ _ _ _ HX4.out.b3) rfl
   have hcw:CW ((w2.alloc (.map ef4 4)).drew.setRow (w.heap.size+2) (cnC ⟨x.d,n,A2,x.pn,cc2,x.ps⟩).toArray) ⟨x.d,n,A2,x.pn,cc2,x.ps⟩:=⟨Xu (Sl.of_own (f:=prC) (fun _=>rfl) (by decide) HO4.out) _ _ (fun a ha=>by subst ha;have:=(HO4.out.lt _ rfl).1;omega),HPN.out.1,fun h=>by subst h;rcases HO4.out.2 with ⟨e,_⟩|⟨g,cap,cur,e,_⟩<;>(injection e with e6 e7 e8)<;>(first|exact e8|cases e6),HRZ.out⟩
   have hpl:=HPN.out.2;exact Br (v:=.tuple #[.agg (cnC ⟨x.d,n,A2,x.pn,cc2,x.ps⟩).toArray,.int .i64 0]) (U5 Tryz.results88 rfl rfl hr) rfl (.inr ⟨A2,cc2,by rw [hpl];exact HPN.out.1,by rw [hpl],by rw [hpl];exact hcw,(fun a ha=>by subst ha;have:=(HO4.out.lt _ rfl).1;omega),U6 HX4.out.be (by omega) _⟩)
  exact An
 exact An
end
section
open Go.RowKit
def DoR (xA:Option Addr) (R:Int ⊕ PC) (w:World) (e:Ending) (w':World):Prop:=match R with
 |.inl er=>e = .returned (.tuple #[.agg zV.toArray,.int .i64 er])∧Below w.heap.size w w'
 |.inr y => ∃ z:Cnt,plC z=y∧e = .returned (.tuple #[.agg (cnC z).toArray,.int .i64 0])∧CW w' z∧(∀ a,z.pA=some a→w.heap.size≤a.block∨xA=some a)∧Below w.heap.size w w'
theorem doE_R {R:Int ⊕ List Pr} {x:Cnt} {n:Int} {c:Chg} {w w':World} {e:Ending} (hi:c.id=x.d.id) (hn:x.ap<n) (hR:Iw x.d x.ps c=R) (h:DoE R x n w e w'):DoR x.pA (doP (plC x) n c) w e w':=by
 have hq:¬ (¬ (c.id=(plC x).d.id)∨n≤(plC x).ap):=by
  rintro (q|q)
  ·exact q hi
  ·have:(plC x).ap=x.ap:=rfl
   omega
 unfold doP;rw [if_neg hq,show Iw (plC x).d (plC x).ps c=R from hR];cases R with
 |inl er=>exact h
 |inr l=>
  rcases h with ⟨h1,h2,h3⟩|⟨A,cc,h1,h2,h3,h5,h4⟩
  ·simp only [if_pos h1]
   exact ⟨h2,h3⟩
  ·simp only [if_neg (show ¬ 1024<l.length by omega)]
   exact ⟨_,rfl,h2,h3,fun a ha=>.inl (h5 a ha),h4⟩
theorem Gf (d:DSet) (l l2:List Pr) (c:Chg) (hl:∀ q∈l,q.rcd.size≤maxLen) (hr:c.rcd.size≤maxLen) (h:Iw d l c = .inr l2):∀ q∈l2,q.rcd.size≤maxLen:=by
 unfold Iw putE eraE appE at h
 repeat' split at h
 all_goals first
  |cases h;done
  |(injection h with h;subst h;intro q hq)
 ·rcases List.mem_or_eq_of_mem_set hq with h|h
  ·exact hl q h
  ·rw [h];exact hr
 ·unfold Iv at hq
  rcases List.mem_append.1 hq with h|h
  ·exact hl q (List.mem_of_mem_take h)
  ·rcases List.mem_cons.1 h with h|h
   ·rw [h];exact hr
   ·exact hl q (List.mem_of_mem_drop h)
 ·exact hl q (List.mem_of_mem_eraseIdx hq)
 ·exact hl q hq
 ·rcases List.mem_append.1 hq with h|h
  ·exact hl q h
  ·rw [List.mem_singleton.1 h];exact hr
 ·cases hq
 ·exact hl q hq
theorem do_any (x:Cnt) (n:Int) (c:Chg) (w:World) (hx:CW w x) (hc:Cod w) (hr:c.rcd.size≤maxLen):
  Calls prog 88 #[.agg (cnC x).toArray,.agg (nbC n c).toArray] w (DoR x.pA (doP (plC x) n c) w):=by
 by_cases hs:¬ (c.id=x.d.id)∨n≤x.ap
 ·refine (do_same x n c w hs).mono ?_
  rintro e w' ⟨rfl,hb⟩;unfold doP;rw [if_pos (show ¬ (c.id=(plC x).d.id)∨n≤(plC x).ap from hs)];exact ⟨x,rfl,rfl,hx.below hb,fun a ha=>.inr ha,hb⟩
 have hi:c.id=x.d.id:=Classical.not_not.1 fun q=>hs (.inl q)
 have hn:x.ap<n:=by
  have:¬ n≤x.ap:=fun q=>hs (.inr q)
  omega
 have hl:x.ps.length=x.pn:=hx.sl.len;have hle:=hx.le;by_cases hk:c.kind<0∨3<c.kind
 ·refine (do_none x n c w hx hi hn hk).mono fun e w' h=>doE_R hi hn ?_ h
  unfold Iw;rw [if_neg (by omega),if_neg (by omega),if_neg (by omega),if_neg (by omega)]
 have hkk:c.kind=0∨c.kind=1∨c.kind=2∨c.kind=3:=by omega
 rcases hkk with k|k|k|k
 ·refine (do_eff x n c w 156 (Iw x.d x.ps c) hx hi hn (by omega) (by omega) (by rw [k];rfl) (fun er h=>Ib _ _ _ _ h) (fun l h=>Gf _ _ _ _ hx.rz hr h) (fun args W=>by kernel_rfl) ?_).mono fun e w' h=>doE_R hi hn rfl h
  intro W A cc base hb hown hB;unfold Iw;rw [if_pos k];rw [←hl] at hown ⊢;exact put_g x.d c A cc x.ps base _ W hown hB (by omega) (fun W' hb'=>Ig x.d ⟨c.key,c.rcd⟩ W' ((hc.after hb).after hb') hr)
 ·refine (do_eff x n c w 160 (Iw x.d x.ps c) hx hi hn (by omega) (by omega) (by rw [k];rfl) (fun er h=>Ib _ _ _ _ h) (fun l h=>Gf _ _ _ _ hx.rz hr h) (fun args W=>by kernel_rfl) ?_).mono fun e w' h=>doE_R hi hn rfl h
  intro W A cc base hb hown hB;unfold Iw;rw [if_neg (by omega),if_pos k];rw [←hl] at hown ⊢;exact era_g x.d c A cc x.ps base _ W hown hB (by omega) (fun W' _=>possible_any x.d c.key W')
 ·refine (do_eff x n c w 163 (Iw x.d x.ps c) hx hi hn (by omega) (by omega) (by rw [k];rfl) (fun er h=>Ib _ _ _ _ h) (fun l h=>Gf _ _ _ _ hx.rz hr h) (fun args W=>by kernel_rfl) ?_).mono fun e w' h=>doE_R hi hn rfl h
  intro W A cc base hb hown hB;unfold Iw;rw [if_neg (by omega),if_neg (by omega),if_pos k];rw [←hl] at hown ⊢;exact app_g x.d c A cc x.ps base W (hc.after hb) hr hown hB (by omega)
 ·refine (do_eff x n c w 165 (Iw x.d x.ps c) hx hi hn (by omega) (by omega) (by rw [k];rfl) (fun er h=>Ib _ _ _ _ h) (fun l h=>Gf _ _ _ _ hx.rz hr h) (fun args W=>by kernel_rfl) ?_).mono fun e w' h=>doE_R hi hn rfl h
  intro W A cc base hb hown hB;unfold Iw;rw [if_neg (by omega),if_neg (by omega),if_neg (by omega),if_pos k];exact emp_g x.d A x.pn cc c base W hB
end
section
set_option maxRecDepth 100000
set_option maxHeartbeats 4000000
open Go.RowKit
theorem dw_set {x:Cnt} {n:Int} {c:Chg} {w W:World} (h:DW x n c w W) (A:Option Addr) (cc:Nat):DW ⟨x.d,x.ap,A,x.pn,cc,x.ps⟩ n c w (W.setCell ⟨w.heap.size,22,none⟩ (.slice A x.pn cc)):=by
 have hz:=h.sz;refine ⟨?_,h.b2.far (by simp) _,h.b3.far (by simp) _,by simpa using hz,h.be.setCell (Le _) _⟩;have:=h.b1.set 22 (.slice A x.pn cc);exact this
theorem sl_cell {α:Type} {f:α→List Value} {k n c:Nat} {A:Option Addr} {l:List α} {w:World} (h:Sl f k w w.heap.size A n c l) (p:Addr) (u:Value) (hA:∀ a,A=some a→a.block≠p.block):Sl f k (w.setCell p u) (w.setCell p u).heap.size A n c l:=
 ⟨h.1,h.2.1,h.2.2.1,fun hn=>by
  obtain ⟨b,o,e,hb,hc⟩:=h.2.2.2 hn;exact ⟨b,o,e,by simpa using hb,fun j v hv=>(World.cell?_of_block (Below.heap_setCell w p u b (fun q=>hA ⟨b,o,none⟩ e q))).trans (hc j v hv)⟩⟩
theorem Do_any (x:Cnt) (n:Int) (c:Chg) (w:World) (hx:CW w x) (hc:Cod w) (hr:c.rcd.size≤maxLen) (hv:c.vol.size≤maxLen):
  Calls prog 71 #[.agg (cnC x).toArray,.agg (nbC n c).toArray] w (DoR none (doF (plC x) n c) w):=by
 obtain ⟨R,hR⟩:∃ R,doF (plC x) n c=R:=⟨_,rfl⟩
 rw [hR];have HR:=Hd hR;have HX:=Hd (dw_new x n c w);have HV:Hid (∀ W,Below w.heap.size w W→Calls prog 68 #[.agg (cnC x).toArray] W fun e w'=>e = .returned (.bool (Kz x.d x.ap x.ps))∧Below W.heap.size W w'):=Hd fun W hb=>fwdValid_m x.d x.ap x.pA x.pn x.pc x.ps W (hx.below hb) (hc.after hb) hx.rz
 have HCV:Hid (∀ W,Calls prog 59 #[.agg (chC c).toArray] W fun e w'=>e = .returned (.bool (chB c.kind c.id c.key c.rcd c.vol))∧Below W.heap.size W w'):=Hd fun W=>Ie c.kind c.id c.key c.rcd c.vol W hv
 have HCL:Hid (∀ W,Below w.heap.size w W→Calls prog 24 #[.slice x.pA x.pn x.pc] W fun e w' => ∃ v,e = .returned v∧w'.ownsRow W.heap.size 76 2 v x.pn (Ua prC x.ps)∧Below W.heap.size W w'):=Hd fun W hb=>Ji x.pA x.pn x.pc x.ps W (hx.sl.after hb hb.size) (by have:=hx.le;omega)
 have HDO:Hid (∀ (A:Option Addr) (cc:Nat) W,Below w.heap.size w W→CW W ⟨x.d,x.ap,A,x.pn,cc,x.ps⟩→Calls prog 88 #[.agg (cnC ⟨x.d,x.ap,A,x.pn,cc,x.ps⟩).toArray,.agg (nbC n c).toArray] W (DoR A (doP (plC x) n c) W)):=Hd fun A cc W hb h=>do_any ⟨x.d,x.ap,A,x.pn,cc,x.ps⟩ n c W h (hc.after hb) hr
 have HLE:Hid (x.pn≤1024):=Hd hx.le;have HPZ:Hid (∀ q∈x.ps,q.rcd.size≤maxLen):=Hd hx.rz;have HZO:Hid (zV.toArray.all (·.oneCell')=true):=Hd (by simp [zV,Value.oneCell']);clear hx hc hr hv hR;have HX':=HX.out;unfold zV at HX';have HX0:=Hd HX';clear HX';cases hfv:Kz x.d x.ap x.ps with
 |false=>
  have hq:R = .inl 1:=by rw [←HR.out];unfold doF;rw [if_neg];rw [show Kz (plC x).d (plC x).ap (plC x).ps=false from hfv];simp
  subst hq;go_enter Tryz.func71,Tryz.ntmps71;go_wp2_with (first|((with_reducible refine Gl 30 2 ?_);refine Lr rfl 30 _ rfl (w.heap.size) rfl 30 (cnC x).toArray (0,0) _ HX0.out.b1 Tryz.underlying30 rfl (by kernel_rfl) ?_)|(go_at_call 68;refine (HV.out _ HX0.out.be).mono ?_;rw [hfv];rintro e w2 ⟨rfl,hb⟩;have HX2:=Hd (Uw HX0.out hb);have n0:=(HX2.out.b2.cell 0).trans (show _=some (Value.int .i64 n) from rfl);clear hb)|((with_reducible refine Gb 30 ?_);refine U2 (by kernel_rfl) 30 _ rfl zV.toArray (by kernel_rfl) ?_)|((with_reducible refine Gt 30 4 ?_);refine Lt rfl 30 _ _ rfl (w.heap.size+2) zV.toArray rfl rfl 30 _ HX2.out.b3 (by kernel_rfl) rfl HZO.out ?_));have hr:=Us (w2.setRow (w.heap.size+2) zV.toArray) (w.heap.size+2) zV.toArray (setRow_heap _ _ _ _ _ _ HX2.out.b3) rfl
  exact Br (v:=.tuple #[.agg zV.toArray,.int .i64 1]) (U5 Tryz.results71 rfl rfl hr) rfl ⟨rfl,U6 HX2.out.be (by omega) _⟩
 |true=>
  cases hcv:chB c.kind c.id c.key c.rcd c.vol with
  |false=>
   have hq:R = .inl 1:=by rw [←HR.out];unfold doF;rw [if_neg];rw [hcv];simp
   subst hq;go_enter Tryz.func71,Tryz.ntmps71
   go_wp2_with (first|((with_reducible refine Gl 30 2 ?_);refine Lr rfl 30 _ rfl (w.heap.size) rfl 30 (cnC x).toArray (0,0) _ HX0.out.b1 Tryz.underlying30 rfl (by kernel_rfl) ?_)|(go_at_call 68;refine (HV.out _ HX0.out.be).mono ?_;rw [hfv];rintro e w2 ⟨rfl,hb⟩;have HX2:=Hd (Uw HX0.out hb);have n0:=(HX2.out.b2.cell 0).trans (show _=some (Value.int .i64 n) from rfl);clear hb)|((with_reducible refine Gl 58 10 ?_);refine Uk (by kernel_rfl) 58 _ rfl (w.heap.size+1) 1 rfl (chC c) _ (Fo HX2.out) Tryz.underlying58 rfl (by kernel_rfl) ?_)|(go_at_call 59;refine (HCV.out _).mono ?_;rw [hcv];rintro e w3 ⟨rfl,hb⟩;have HX3:=Hd (Uw HX2.out hb);clear n0;have n0:=(HX3.out.b2.cell 0).trans (show _=some (Value.int .i64 n) from rfl);have c22:=(HX3.out.b1.cell 22).trans (show _=some (Value.slice x.pA x.pn x.pc) from rfl);clear hb)|((with_reducible refine Gb 30 ?_);refine U2 (by kernel_rfl) 30 _ rfl zV.toArray (by kernel_rfl) ?_)|((with_reducible refine Gt 30 4 ?_);refine Lt rfl 30 _ _ rfl (w.heap.size+2) zV.toArray rfl rfl 30 _ HX3.out.b3 (by kernel_rfl) rfl HZO.out ?_))
   have hr:=Us (w3.setRow (w.heap.size+2) zV.toArray) (w.heap.size+2) zV.toArray (setRow_heap _ _ _ _ _ _ HX3.out.b3) rfl;exact Br (v:=.tuple #[.agg zV.toArray,.int .i64 1]) (U5 Tryz.results71 rfl rfl hr) rfl ⟨rfl,U6 HX3.out.be (by omega) _⟩
  |true=>
   rcases (by omega:n<1∨1≤n) with m1|m1
   ·have f1:decide (n<1)=true:=decide_eq_true m1
    have hq:R = .inl 1:=by rw [←HR.out];unfold doF;rw [if_neg];simp;omega
    subst hq;go_enter Tryz.func71,Tryz.ntmps71
    go_wp2_with (first|((with_reducible refine Gl 30 2 ?_);refine Lr rfl 30 _ rfl (w.heap.size) rfl 30 (cnC x).toArray (0,0) _ HX0.out.b1 Tryz.underlying30 rfl (by kernel_rfl) ?_)|(go_at_call 68;refine (HV.out _ HX0.out.be).mono ?_;rw [hfv];rintro e w2 ⟨rfl,hb⟩;have HX2:=Hd (Uw HX0.out hb);have n0:=(HX2.out.b2.cell 0).trans (show _=some (Value.int .i64 n) from rfl);clear hb)|((with_reducible refine Gl 58 10 ?_);refine Uk (by kernel_rfl) 58 _ rfl (w.heap.size+1) 1 rfl (chC c) _ (Fo HX2.out) Tryz.underlying58 rfl (by kernel_rfl) ?_)|(go_at_call 59;refine (HCV.out _).mono ?_;rw [hcv];rintro e w3 ⟨rfl,hb⟩;have HX3:=Hd (Uw HX2.out hb);clear n0;have n0:=(HX3.out.b2.cell 0).trans (show _=some (Value.int .i64 n) from rfl);have c22:=(HX3.out.b1.cell 22).trans (show _=some (Value.slice x.pA x.pn x.pc) from rfl);clear hb)|((with_reducible refine Gb 30 ?_);refine U2 (by kernel_rfl) 30 _ rfl zV.toArray (by kernel_rfl) ?_)|((with_reducible refine Gt 30 4 ?_);refine Lt rfl 30 _ _ rfl (w.heap.size+2) zV.toArray rfl rfl 30 _ HX3.out.b3 (by kernel_rfl) rfl HZO.out ?_))
    have hr:=Us (w3.setRow (w.heap.size+2) zV.toArray) (w.heap.size+2) zV.toArray (setRow_heap _ _ _ _ _ _ HX3.out.b3) rfl;exact Br (v:=.tuple #[.agg zV.toArray,.int .i64 1]) (U5 Tryz.results71 rfl rfl hr) rfl ⟨rfl,U6 HX3.out.be (by omega) _⟩
   have f1:decide (n<1)=false:=decide_eq_false (by omega);rcases (by omega:1099511627776<n∨n≤1099511627776) with m2|m2
   ·have f2:decide ((1099511627776:Int)<n)=true:=decide_eq_true m2
    have hq:R = .inl 1:=by rw [←HR.out];unfold doF;rw [if_neg];simp;omega
    subst hq;go_enter Tryz.func71,Tryz.ntmps71
    go_wp2_with (first|((with_reducible refine Gl 30 2 ?_);refine Lr rfl 30 _ rfl (w.heap.size) rfl 30 (cnC x).toArray (0,0) _ HX0.out.b1 Tryz.underlying30 rfl (by kernel_rfl) ?_)|(go_at_call 68;refine (HV.out _ HX0.out.be).mono ?_;rw [hfv];rintro e w2 ⟨rfl,hb⟩;have HX2:=Hd (Uw HX0.out hb);have n0:=(HX2.out.b2.cell 0).trans (show _=some (Value.int .i64 n) from rfl);clear hb)|((with_reducible refine Gl 58 10 ?_);refine Uk (by kernel_rfl) 58 _ rfl (w.heap.size+1) 1 rfl (chC c) _ (Fo HX2.out) Tryz.underlying58 rfl (by kernel_rfl) ?_)|(go_at_call 59;refine (HCV.out _).mono ?_;rw [hcv];rintro e w3 ⟨rfl,hb⟩;have HX3:=Hd (Uw HX2.out hb);clear n0;have n0:=(HX3.out.b2.cell 0).trans (show _=some (Value.int .i64 n) from rfl);have c22:=(HX3.out.b1.cell 22).trans (show _=some (Value.slice x.pA x.pn x.pc) from rfl);clear hb)|((with_reducible refine Gb 30 ?_);refine U2 (by kernel_rfl) 30 _ rfl zV.toArray (by kernel_rfl) ?_)|((with_reducible refine Gt 30 4 ?_);refine Lt rfl 30 _ _ rfl (w.heap.size+2) zV.toArray rfl rfl 30 _ HX3.out.b3 (by kernel_rfl) rfl HZO.out ?_))
    have hr:=Us (w3.setRow (w.heap.size+2) zV.toArray) (w.heap.size+2) zV.toArray (setRow_heap _ _ _ _ _ _ HX3.out.b3) rfl;exact Br (v:=.tuple #[.agg zV.toArray,.int .i64 1]) (U5 Tryz.results71 rfl rfl hr) rfl ⟨rfl,U6 HX3.out.be (by omega) _⟩
   have f2:decide ((1099511627776:Int)<n)=false:=decide_eq_false (by omega);have hq:R=doP (plC x) n c:=by rw [←HR.out];unfold doF;rw [if_pos];rw [show Kz (plC x).d (plC x).ap (plC x).ps=true from hfv,hcv];simp [m1,m2]
   rw [hq];clear hq;generalize doP (plC x) n c=Q at HDO ⊢;cases Q with
   |inl er=>
    go_enter Tryz.func71,Tryz.ntmps71
    go_wp2_with (first|((with_reducible refine Gl 30 2 ?_);refine Lr rfl 30 _ rfl (w.heap.size) rfl 30 (cnC x).toArray (0,0) _ HX0.out.b1 Tryz.underlying30 rfl (by kernel_rfl) ?_)|(go_at_call 68;refine (HV.out _ HX0.out.be).mono ?_;rw [hfv];rintro e w2 ⟨rfl,hb⟩;have HX2:=Hd (Uw HX0.out hb);have n0:=(HX2.out.b2.cell 0).trans (show _=some (Value.int .i64 n) from rfl);clear hb)|((with_reducible refine Gl 58 10 ?_);refine Uk (by kernel_rfl) 58 _ rfl (w.heap.size+1) 1 rfl (chC c) _ (Fo HX2.out) Tryz.underlying58 rfl (by kernel_rfl) ?_)|(go_at_call 59;refine (HCV.out _).mono ?_;rw [hcv];rintro e w3 ⟨rfl,hb⟩;have HX3:=Hd (Uw HX2.out hb);clear n0;have n0:=(HX3.out.b2.cell 0).trans (show _=some (Value.int .i64 n) from rfl);have c22:=(HX3.out.b1.cell 22).trans (show _=some (Value.slice x.pA x.pn x.pc) from rfl);clear hb)|(go_at_call 24;refine (HCL.out _ HX3.out.be).mono ?_;rintro e w4 ⟨v,rfl,hown,hb⟩;obtain ⟨A4,cc4,rfl,_⟩:=Ub hown;have HO4:=Hd hown;have HX4:=Hd (Uw HX3.out hb);have HX5:=Hd (dw_set HX4.out A4 cc4);have g22:=(HX4.out.b1.cell 22).trans (show _=some (Value.slice x.pA x.pn x.pc) from rfl);have f22:=HX4.out.b1.free 22;have HSZ3:=Hd HX3.out.sz;clear hown hb c22 n0)|((with_reducible refine Gl 30 2 ?_);refine Lr rfl 30 _ rfl (w.heap.size) rfl 30 (cnC ⟨x.d,x.ap,A4,x.pn,cc4,x.ps⟩).toArray (0,0) _ HX5.out.b1 Tryz.underlying30 rfl (by kernel_rfl) ?_)|((with_reducible refine Gl 127 3 ?_);refine Lr rfl 127 _ rfl (w.heap.size+1) rfl 127 (nbC n c).toArray (0,0) _ HX5.out.b2 Tryz.underlying127 rfl (by kernel_rfl) ?_)|(go_at_call 88;refine (HDO.out A4 cc4 _ HX5.out.be ⟨sl_cell (Sl.of_own (f:=prC) (fun _=>rfl) (by decide) HO4.out) _ _ (fun a ha=>by subst ha;have h1:=(HO4.out.lt _ rfl).1;have h2:=HSZ3.out;show a.block≠w.heap.size;omega),HLE.out,fun h=>by subst h;rcases HO4.out.2 with ⟨e,_⟩|⟨g,cap,cur,e,_⟩<;>(injection e with e6 e7 e8)<;>(first|exact e8|cases e6),HPZ.out⟩).mono ?_;rintro e w6 ⟨rfl,hb⟩;have HX6:=Hd (Uw HX5.out hb);have HZ4:Hid (w.heap.size+3≤(w4.setCell ⟨w.heap.size,22,none⟩ (.slice A4 x.pn cc4)).heap.size):=Hd HX5.out.sz;clear hb g22 f22)|((with_reducible refine Gt 30 4 ?_);refine Lt rfl 30 _ _ rfl (w.heap.size+2) (zV).toArray rfl rfl 30 _ HX6.out.b3 (by kernel_rfl) rfl HZO.out ?_))
    have hr:=Us (w6.setRow (w.heap.size+2) (zV).toArray) (w.heap.size+2) (zV).toArray (setRow_heap _ _ _ _ _ _ HX6.out.b3) rfl;exact Br (v:=.tuple #[.agg (zV).toArray,.int .i64 er]) (U5 Tryz.results71 rfl rfl hr) rfl ⟨rfl,U6 HX6.out.be (by omega) _⟩
   |inr y=>
    have HQ:Hid True:=Hd trivial;go_enter Tryz.func71,Tryz.ntmps71
    go_wp2_with (first|((with_reducible refine Gl 30 2 ?_);refine Lr rfl 30 _ rfl (w.heap.size) rfl 30 (cnC x).toArray (0,0) _ HX0.out.b1 Tryz.underlying30 rfl (by kernel_rfl) ?_)|(go_at_call 68;refine (HV.out _ HX0.out.be).mono ?_;rw [hfv];rintro e w2 ⟨rfl,hb⟩;have HX2:=Hd (Uw HX0.out hb);have n0:=(HX2.out.b2.cell 0).trans (show _=some (Value.int .i64 n) from rfl);clear hb)|((with_reducible refine Gl 58 10 ?_);refine Uk (by kernel_rfl) 58 _ rfl (w.heap.size+1) 1 rfl (chC c) _ (Fo HX2.out) Tryz.underlying58 rfl (by kernel_rfl) ?_)|(go_at_call 59;refine (HCV.out _).mono ?_;rw [hcv];rintro e w3 ⟨rfl,hb⟩;have HX3:=Hd (Uw HX2.out hb);clear n0;have n0:=(HX3.out.b2.cell 0).trans (show _=some (Value.int .i64 n) from rfl);have c22:=(HX3.out.b1.cell 22).trans (show _=some (Value.slice x.pA x.pn x.pc) from rfl);clear hb)|(go_at_call 24;refine (HCL.out _ HX3.out.be).mono ?_;rintro e w4 ⟨v,rfl,hown,hb⟩;obtain ⟨A4,cc4,rfl,_⟩:=Ub hown;have HO4:=Hd hown;have HX4:=Hd (Uw HX3.out hb);have HX5:=Hd (dw_set HX4.out A4 cc4);have g22:=(HX4.out.b1.cell 22).trans (show _=some (Value.slice x.pA x.pn x.pc) from rfl);have f22:=HX4.out.b1.free 22;have HSZ3:=Hd HX3.out.sz;clear hown hb c22 n0)|((with_reducible refine Gl 30 2 ?_);refine Lr rfl 30 _ rfl (w.heap.size) rfl 30 (cnC ⟨x.d,x.ap,A4,x.pn,cc4,x.ps⟩).toArray (0,0) _ HX5.out.b1 Tryz.underlying30 rfl (by kernel_rfl) ?_)|((with_reducible refine Gl 127 3 ?_);refine Lr rfl 127 _ rfl (w.heap.size+1) rfl 127 (nbC n c).toArray (0,0) _ HX5.out.b2 Tryz.underlying127 rfl (by kernel_rfl) ?_)|(go_at_call 88;refine (HDO.out A4 cc4 _ HX5.out.be ⟨sl_cell (Sl.of_own (f:=prC) (fun _=>rfl) (by decide) HO4.out) _ _ (fun a ha=>by subst ha;have h1:=(HO4.out.lt _ rfl).1;have h2:=HSZ3.out;show a.block≠w.heap.size;omega),HLE.out,fun h=>by subst h;rcases HO4.out.2 with ⟨e,_⟩|⟨g,cap,cur,e,_⟩<;>(injection e with e6 e7 e8)<;>(first|exact e8|cases e6),HPZ.out⟩).mono ?_;rintro e w6 ⟨z,hz,rfl,hcw,hna,hb⟩;have HX6:=Hd (Uw HX5.out hb);have HZ4:Hid (w.heap.size+3≤(w4.setCell ⟨w.heap.size,22,none⟩ (.slice A4 x.pn cc4)).heap.size):=Hd HX5.out.sz;clear hb g22 f22)|((with_reducible refine Gt 30 4 ?_);refine Lt rfl 30 _ _ rfl (w.heap.size+2) (cnC z).toArray rfl rfl 30 _ HX6.out.b3 (by kernel_rfl) rfl (Vx z) ?_))
    have hr:=Us (w6.setRow (w.heap.size+2) (cnC z).toArray) (w.heap.size+2) (cnC z).toArray (setRow_heap _ _ _ _ _ _ HX6.out.b3) rfl
    have hzb:∀ a,z.pA=some a→w.heap.size+3≤a.block:=fun a ha=>by
     rcases hna a ha with h1|h1
     ·have:=HZ4.out;omega
     ·subst h1;have h2:=(HO4.out.lt _ rfl).1;have:=HSZ3.out;omega
    exact Br (v:=.tuple #[.agg (cnC z).toArray,.int .i64 0]) (U5 Tryz.results71 rfl rfl hr) rfl ⟨z,hz,rfl,⟨Xu hcw.sl _ _ (fun a ha=>by have h1:=hzb a ha;omega),hcw.le,hcw.nil,hcw.rz⟩,fun a ha=>.inl (by have h1:=hzb a ha;omega),U6 HX6.out.be (by omega) _⟩
end
section
open Go.RowKit
theorem doF_d (x:PC) (n:Int) (c:Chg) (y:PC) (h:doF x n c = .inr y):y.d=x.d:=by
 unfold doF doP at h;split at h
 ·split at h
  ·injection h with h;rw [←h]
  ·split at h
   ·cases h
   ·split at h
    ·cases h
    ·injection h with h;rw [←h]
 ·cases h
theorem do_G (x:Cnt) (n:Int) (c:Chg) (w:World) (hi:x.d.id=c.id) (hx:CW w x) (hc:Cod w) (hr:c.rcd.size≤maxLen) (hv:c.vol.size≤maxLen):
  Calls prog 71 #[.agg (cnC x).toArray,.agg (nbC n c).toArray] w (DoG (doF (plC x) n c) c.id w):=by
 refine (Do_any x n c w hx hc hr hv).mono ?_;intro e w' h;cases hR:doF (plC x) n c with
 |inl er=>
  rw [hR] at h;exact ⟨doF_err _ _ _ _ hR,h.1,h.2⟩
 |inr y=>
  rw [hR] at h;obtain ⟨z,hz,he,hcw,_,hb⟩:=h;refine ⟨z,hz,?_,he,hcw,hb⟩;have h1:=doF_d _ _ _ _ hR;have h2:z.d=y.d:=by rw [←hz];rfl
  rw [h2,h1];exact hi
end
end Go.Proofs.YtapanepkfbamhaaGreatDoor
