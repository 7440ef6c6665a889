/- Part of the proof of HistoryReads. -/
import Derived.Test.YtapanepkfbamhaaGreatDoorJBF
namespace Go.Proofs.YtapanepkfbamhaaGreatDoor
open Tryz (prog)
section
set_option maxRecDepth 100000
set_option maxHeartbeats 4000000
open Go.RowKit
theorem cloneS_any (A:Option Addr) (n c:Nat) (l:List ByteArray) (w:World) (hs:Sl Ug 1 w w.heap.size A n c l) (hn:n≤1000000):
  Calls prog 120 #[.slice A n c] w fun e w' => ∃ v,e = .returned v∧w'.ownsRow w.heap.size 9 1 v n (Ua Ug l)∧Below w.heap.size w w':=by
 have hl:=hs.len;have qq:∀ (w:World) (a:Option Addr) (n c n' c':Nat),(binOp .eql 150 (.slice a n c) (.slice none n' c')).run prog w = .ok (.bool a.isNone) w:=fun w a n c n' c'=>Lib.run_eql_slice_nil w _ _ a n c n' c' Tryz.underlying150
 cases A with
 |none=>
  have hz:n=0:=by
   rcases Nat.eq_zero_or_pos n with h|h
   ·exact h
   ·obtain ⟨b,o,e,_⟩:=hs.rd.2 h;cases e
  subst hz;have:l = []:=List.eq_nil_of_length_eq_zero hl;subst this;clear hs hl hn;go_enter Tryz.func120,Tryz.ntmps120;go_wp2;go_ret;exact ⟨_,rfl,⟨rfl,.inl ⟨rfl,rfl⟩⟩,Bf _ _⟩
 |some ad=>
  obtain ⟨i0,hi0,hz0,hz1,hz2⟩:=info_parts Z3;have HR:=Hd (hs.rd.alloc (Le _) (.cells #[] 9));have H1:=Hd (flat_str l);have HO:=Hd (World.ownsRow_lit (e:=9) (base:=w.heap.size) (size:=1) w #[] 0 (Le _) (by decide) rfl);clear hs hl;go_enter Tryz.func120,Tryz.ntmps120;go_wp2_with (at_builtin;go_must (refine U4 _ rfl _ _ 150 rfl w.heap.size 9 i0 _ 1 16 Tryz.underlying150 hi0 hz0 hz1 hz2 rfl (by decide) _ _ _ rfl HO.out w.heap.size (some ad) n c (Ua Ug l) rfl HR.out H1.out ?c2 ?c3 ?c4 ?_))
  case c2=>simp [maxLen];omega
  case c3=>omega
  intro v' w' hown hgr _;have HOWN:=Hd hown;have HGR:=Hd hgr;clear hown hgr;go_wp2;go_ret;exact ⟨v',rfl,by simpa using HOWN.out,((Bf _ _).alloc (Le _) _).grown HGR.out (by simp) (by intro k hk;simp [Value.ownBlock] at hk;omega)⟩
theorem Ji (A:Option Addr) (n c:Nat) (l:List Pr) (w:World) (hs:Sl prC 2 w w.heap.size A n c l) (hn:n≤1000000):
  Calls prog 24 #[.slice A n c] w fun e w' => ∃ v,e = .returned v∧w'.ownsRow w.heap.size 76 2 v n (Ua prC l)∧Below w.heap.size w w':=by
 have hl:=hs.len;have qq:∀ (w:World) (a:Option Addr) (n c n' c':Nat),(binOp .eql 28 (.slice a n c) (.slice none n' c')).run prog w = .ok (.bool a.isNone) w:=fun w a n c n' c'=>Lib.run_eql_slice_nil w _ _ a n c n' c' Tryz.underlying28
 cases A with
 |none=>
  have hz:n=0:=by
   rcases Nat.eq_zero_or_pos n with h|h
   ·exact h
   ·obtain ⟨b,o,e,_⟩:=hs.rd.2 h;cases e
  subst hz;have:l = []:=List.eq_nil_of_length_eq_zero hl;subst this;clear hs hl hn;go_enter Tryz.func24,Tryz.ntmps24;go_wp2;go_ret;exact ⟨_,rfl,⟨rfl,.inl ⟨rfl,rfl⟩⟩,Bf _ _⟩
 |some ad=>
  obtain ⟨i0,hi0,hz0,hz1,hz2⟩:=info_parts Xe;have HR:=Hd (hs.rd.alloc (Le _) (.cells #[] 76));have H1:=Hd (prC_one l);have HO:=Hd (World.ownsRow_lit (e:=76) (base:=w.heap.size) (size:=2) w #[] 0 (Le _) (by decide) rfl);clear hs hl;go_enter Tryz.func24,Tryz.ntmps24;go_wp2_with (at_builtin;go_must (refine U4 _ rfl _ _ 28 rfl w.heap.size 76 i0 _ 2 32 Tryz.underlying28 hi0 hz0 hz1 hz2 rfl (by decide) _ _ _ rfl HO.out w.heap.size (some ad) n c (Ua prC l) rfl HR.out H1.out ?c2 ?c3 ?c4 ?_))
  case c2=>simp [maxLen];omega
  case c3=>omega
  intro v' w' hown hgr _;have HOWN:=Hd hown;have HGR:=Hd hgr;clear hown hgr;go_wp2;go_ret;exact ⟨v',rfl,by simpa using HOWN.out,((Bf _ _).alloc (Le _) _).grown HGR.out (by simp) (by intro k hk;simp [Value.ownBlock] at hk;omega)⟩
structure Edn where
 ci:Int
 A:Option Addr
 n:Nat
 c:Nat
 rs:List ByteArray
 sp:Int
def edC (x:Edn):List Value:=[.int .i64 x.ci,.slice x.A x.n x.c,.int .i64 x.sp]
def zEd:List Value:=[.int .i64 0,.slice none 0 0,.int .i64 0]
def Vo (d:DSet) (r:ByteArray) (ci:Int) (rs:List ByteArray) (sp:Int):ByteArray×(Int×List ByteArray×Int):=
 if 0<ci∧fitsB d.itv (rs++[r])=true then (Xj (IntKind.i64.wrap (IntKind.i64.wrap (ci*d.itv)+sp)),(ci,rs++[r],IntKind.i64.wrap (sp+r.size)))
 else (Xj (IntKind.i64.wrap (IntKind.i64.wrap (ci+1)*d.itv)),(IntKind.i64.wrap (ci+1),[r],(r.size:Int)))
theorem sl_row {α:Type} {f:α→List Value} {k B n c:Nat} {A:Option Addr} {l:List α} {w:World} (h:Sl f k w B A n c l) (g:Nat) (cs:Array Value) (hA:∀ a,A=some a→a.block≠g):Sl f k (w.setRow g cs) (w.setRow g cs).heap.size A n c l∨w.heap.size<B:=by
 rcases Nat.lt_or_ge w.heap.size B with hB|hB
 ·exact .inr hB
 ·refine .inl ⟨h.1,h.2.1,h.2.2.1,fun hn=>?_⟩
  obtain ⟨b,o,e,hb,hc⟩:=h.2.2.2 hn;exact ⟨b,o,e,by rw [size_setRow];omega,fun j u hu=>(cell_setRow_other w g cs ⟨b,o+j,none⟩ (hA ⟨b,o,none⟩ e)).trans (hc j u hu)⟩
theorem Xu {α:Type} {f:α→List Value} {k n c:Nat} {A:Option Addr} {l:List α} {w:World} (h:Sl f k w w.heap.size A n c l) (g:Nat) (cs:Array Value) (hA:∀ a,A=some a→a.block≠g):Sl f k (w.setRow g cs) (w.setRow g cs).heap.size A n c l:=
 (sl_row h g cs hA).resolve_right (by omega)
structure EN (x:Edn) (d:DSet) (w W:World):Prop where
 b1:Blk W w.heap.size 152 (edC x).toArray
 b2:Blk W (w.heap.size+1) 27 (dC d).toArray
 b3:Blk W (w.heap.size+2) 152 zEd.toArray
 be:Below w.heap.size w W
 sz:w.heap.size+3≤W.heap.size
theorem Ve {x:Edn} {d:DSet} {w W W':World} (h:EN x d w W) (hb:Below W.heap.size W W'):EN x d w W':=
 ⟨h.b1.below hb h.b1.lt,h.b2.below hb h.b2.lt,h.b3.below hb h.b3.lt,U0 h.be hb h.be.size,Lx h.sz hb.size⟩
theorem en_grown {x:Edn} {d:DSet} {w W W':World} {o:Obj} {row:Option Nat} (h:EN x d w W) (hg:(W.alloc o).grownBy W' row) (hr:∀ k,row=some k→w.heap.size+3≤k):EN x d w W':=
 have hz:=h.sz;have ne:∀ k,k<w.heap.size+3→some k≠row:=fun k hk e=>by have:=hr k e.symm;omega
 ⟨(h.b1.alloc o).grown hg (ne _ (by omega)),(h.b2.alloc o).grown hg (ne _ (by omega)),(h.b3.alloc o).grown hg (ne _ (by omega)),
  (h.be.alloc h.be.size o).grown hg (by have:=h.be.size;simp;omega) (fun k hk=>by have:=hr k hk;omega),Lx (by simp;omega) hg.size⟩
theorem en_new (x:Edn) (d:DSet) (w:World):EN x d w (((w.alloc (.cells (edC x).toArray 152)).alloc (.cells (dC d).toArray 27)).alloc (.cells zEd.toArray 152)):=
 ⟨((Blk.new w _ _).alloc _).alloc _,(U3 (w.alloc _) _ _ _ (by simp)).alloc _,U3 ((w.alloc _).alloc _) _ _ _ (by simp),(((Bf _ _).alloc (Le _) _).alloc (by simp) _).alloc (by simp;omega) _,by simp⟩
theorem Vk {P:Program} {fn:Func} {tmps:Array Value} {p q:Nat} {t:TypeId} {b:Nat} {c v:Value} {W:World} (h:fn.results=#[.tmp q,.cell p t]) (hp:tmps.getD p undef = .pointer (some ⟨b,0,none⟩)) (hq:tmps.getD q undef=v)
  (hl:(loadVar t ⟨b,0,none⟩).run P W = .ok c W):(results fn tmps).run P W = .ok (.tuple #[v,c]) W:=by
 have hp':tmps[p]?.getD undef = .pointer (some ⟨b,0,none⟩):=by simpa using hp
 have hq':tmps[q]?.getD undef=v:=by simpa using hq
 simp [results,h,hp',hq',asAddr,hl]
theorem Y9 (W:World) (b:Nat) (cs:Array Value) (h:Blk W b 152 cs) (hs:cs.size=3):(loadVar 152 ⟨b,0,none⟩).run prog W = .ok (.agg cs) W:=
 run_loadVar_row W b 152 152 cs (0,0) _ h Tryz.underlying152 rfl (by rw [hs];kernel_rfl)
def NxG (d:DSet) (r:ByteArray) (x:Edn) (w:World) (e:Ending) (w':World):Prop:=∃ y:Edn,e = .returned (.tuple #[.string (Vo d r x.ci x.rs x.sp).1,.agg (edC y).toArray])∧(y.ci,y.rs,y.sp)=(Vo d r x.ci x.rs x.sp).2∧Sl Ug 1 w' w'.heap.size y.A y.n y.c y.rs∧(∀ a,y.A=some a→w.heap.size≤a.block)∧Below w.heap.size w w'
theorem next_e (d:DSet) (r:ByteArray) (x:Edn) (w:World) (hs:Sl Ug 1 w w.heap.size x.A x.n x.c x.rs) (hn:x.n≤1999):
  Calls prog 86 #[.agg #[.int .i64 x.ci,.slice x.A x.n x.c,.int .i64 x.sp],.agg (dC d).toArray,.string r] w (NxG d r x w):=by
 obtain ⟨i0,hi0,hz0,hz1,hz2⟩:=info_parts Z3;have HE:=Hd (en_new x d w);have HNX:=Hd hn;have HSX:Hid (∀ W,EN x d w W→Sl Ug 1 W W.heap.size x.A x.n x.c x.rs):=Hd fun W h=>hs.after h.be h.be.size
 have e1:(((w.alloc (.cells (edC x).toArray 152)).alloc (.cells (dC d).toArray 27)).alloc (.cells zEd.toArray 152)).cell? ⟨w.heap.size,1,none⟩=some (.slice x.A x.n x.c):=(HE.out.b1.cell 1).trans rfl;have HCL:=Hd (cloneS_any x.A x.n x.c x.rs _ (HSX.out _ HE.out) (by omega));clear hs hn;go_enter Tryz.func86,Tryz.ntmps86;by_cases hci:0<x.ci
 ·cases hft:fitsB d.itv (x.rs++[r]) with
  |true=>
   have HCI:=Hd hci;have HFT:=Hd hft;clear hft
   go_wp2_with (first|(go_at_call 120;refine HCL.out.mono ?_;rintro e w2 ⟨v,rfl,hown,hb⟩;have HE2:=Hd (Ve HE.out hb);have HO2:=Hd hown;have HRD:=Hd (Va w2 [.string r] 9 1 1 rfl);clear hown hb e1)|(at_builtin;go_must (refine U4 _ rfl _ _ 150 rfl (((w.alloc (.cells (edC x).toArray 152)).alloc (.cells (dC d).toArray 27)).alloc (.cells zEd.toArray 152)).heap.size 9 i0 _ 1 16 Tryz.underlying150 hi0 hz0 hz1 hz2 rfl (by decide) v x.n (Ua Ug x.rs) rfl (HO2.out.alloc _) (w2.heap.size+1) (some ⟨w2.heap.size,0,none⟩) 1 1 [.string r] rfl HRD.out (Vc r) (by have:=HNX.out;unfold maxLen;omega) (by have:=HNX.out;omega) (by have:=HE2.out.sz;simp;omega) ?_;intro v' w4 hown hgr _;obtain ⟨A4,c4,rfl,_⟩:=Ub hown;have HA4:Hid (∀ a,A4=some a→w.heap.size+3≤a.block):=Hd (fun a ha=>by subst ha;have:=(hown.lt _ rfl).1;simp at this;omega);have HE4:=Hd (en_grown HE2.out hgr (fun k hk=>by have:=(HO2.out.lt k hk).1;simp at this;omega));have HS4:Hid (Sl Ug 1 w4 w4.heap.size A4 (x.n+1) c4 (x.rs++[r])):=Hd (Sl.of_own (f:=Ug) (fun _=>rfl) (by decide) (by rw [Uy,Uv];exact hown));have f0:=(HE4.out.b1.cell 0).trans (show _=some (Value.int .i64 x.ci) from rfl);have f2:=(HE4.out.b1.cell 2).trans (show _=some (Value.int .i64 x.sp) from rfl);have f7:=(HE4.out.b2.cell 7).trans (show _=some (Value.int .i64 d.itv) from rfl);clear hown hgr))|(go_at_call 121;refine (ifits_any d.itv A4 (x.n+1) c4 (x.rs++[r]) w4 HS4.out (by have:=HNX.out;omega)).mono ?_;rw [HFT.out];rintro e w5 ⟨rfl,hb⟩;have HE5:=Hd (Ve HE4.out hb);have HS5:=Hd (HS4.out.after hb hb.size);clear hb f0 f2 f7))
   obtain ⟨q1,hq1⟩:∃ q,IntKind.i64.wrap (x.ci*d.itv)=q:=⟨_,rfl⟩
   obtain ⟨q2,hq2⟩:∃ q,IntKind.i64.wrap (q1+x.sp)=q:=⟨_,rfl⟩
   obtain ⟨q3,hq3⟩:∃ q,IntKind.i64.wrap (x.sp+(r.size:Int))=q:=⟨_,rfl⟩
   have HQ:Hid (Vo d r x.ci x.rs x.sp=(Xj q2,(x.ci,x.rs++[r],q3))):=Hd (by unfold Vo;rw [if_pos ⟨HCI.out,HFT.out⟩,hq1,hq2,hq3]);have HEd:Hid (EN x d w w5.drew):=Hd (Ve HE5.out (Bf _ _).drew);have HSd:Hid (Sl Ug 1 w5.drew w5.drew.heap.size A4 (x.n+1) c4 (x.rs++[r])):=Hd HS5.out;refine Rw (S:=fun w'=>Blk w' w.heap.size 152 (edC x).toArray∧Blk w' (w.heap.size+1) 27 (dC d).toArray) (by kernel_rfl) ⟨HEd.out.b1,HEd.out.b2⟩ (fun Hh=>?_);refine tk 0 (.pointer (some ⟨w.heap.size,0,none⟩)) Hh ?_;refine tk 1 (.int .i64 x.ci) Hh ?_ (y:=by exact Or.inl ⟨by rfl,by intro w' hSw;have h1:=(hSw.1.cell 0).trans (show _=some (Value.int .i64 x.ci) from rfl);go_simp⟩);refine tk 2 (.pointer (some ⟨w.heap.size+1,7,none⟩)) Hh ?_
   refine tk 3 (.int .i64 d.itv) Hh ?_ (y:=by exact Or.inl ⟨by rfl,by intro w' hSw;have h1:=(hSw.2.cell 7).trans (show _=some (Value.int .i64 d.itv) from rfl);go_simp⟩);refine tk 4 (.int .i64 q1) Hh ?_ (y:=by exact Or.inl ⟨by rfl,by intro w' hSw;have h1:=hq1;go_simp⟩);refine tk 5 (.pointer (some ⟨w.heap.size,2,none⟩)) Hh ?_;refine tk 6 (.int .i64 x.sp) Hh ?_ (y:=by exact Or.inl ⟨by rfl,by intro w' hSw;have h1:=(hSw.1.cell 2).trans (show _=some (Value.int .i64 x.sp) from rfl);go_simp⟩);refine tk 7 (.int .i64 q2) Hh ?_ (y:=by exact Or.inl ⟨by rfl,by intro w' hSw;have h1:=hq2;go_simp⟩);refine tk 9 (.pointer (some ⟨w.heap.size,0,none⟩)) Hh ?_;refine tk 10 (.int .i64 x.ci) Hh ?_ (y:=by exact Or.inl ⟨by rfl,by intro w' hSw;have h1:=(hSw.1.cell 0).trans (show _=some (Value.int .i64 x.ci) from rfl);go_simp⟩);refine tk 11 (.slice A4 (x.n+1) c4) Hh ?_
   refine tk 12 (.pointer (some ⟨w.heap.size,2,none⟩)) Hh ?_;refine tk 13 (.int .i64 x.sp) Hh ?_ (y:=by exact Or.inl ⟨by rfl,by intro w' hSw;have h1:=(hSw.1.cell 2).trans (show _=some (Value.int .i64 x.sp) from rfl);go_simp⟩);refine tk 14 (.string r) Hh ?_;refine tk 15 (.int .i64 (r.size:Int)) Hh ?_;refine tk 16 (.int .i64 q3) Hh ?_ (y:=by exact Or.inl ⟨by rfl,by intro w' hSw;have h1:=hq3;go_simp⟩);refine tk 17 (.agg #[.int .i64 x.ci,.slice A4 (x.n+1) c4,.int .i64 q3]) Hh ?_;refine Ar (rs:=[8]) (by kernel_rfl) (by simp) ?_;refine Rc (fun K hK=>?_) ?_
   ·go_simp
    refine (Yg q2 _).mono ?_;rintro e w6 ⟨rfl,hb⟩;simp only [];have HE6:=Hd (Ve HEd.out hb);have HS6:=Hd (HSd.out.after hb hb.size);obtain ⟨k0,k1⟩:=Hh;refine hK.out _ _ ⟨k0.below hb k0.lt,k1.below hb k1.lt⟩ (fun Hh=>?_);clear hK K hb k0 k1;try simp only [Act.put,Sv,Sz,Sw]
    refine tk 18 (.string (Xj q2)) Hh ?_;refine Ar (rs:=[19]) (by kernel_rfl) (by simp) ?_;refine Rc (fun K hK=>?_) ?_
    ·refine wp_store_row 152 _ _ rfl (w.heap.size+2) #[.int .i64 x.ci,.slice A4 (x.n+1) c4,.int .i64 q3] rfl rfl 152 _ HE6.out.b3 (by kernel_rfl) rfl (by simp [Value.oneCell']) ?_
     obtain ⟨k0,k1⟩:=Hh;have hbs:Below (w.heap.size+2) w6 (w6.setRow (w.heap.size+2) #[.int .i64 x.ci,.slice A4 (x.n+1) c4,.int .i64 q3]):=U6 (Bf _ _) (Le _) _;refine hK.out _ _ ⟨k0.below hbs (by omega),k1.below hbs (by omega)⟩ (fun Hh=>?_);clear hK K k0 k1 Hh hbs;refine Ad (by kernel_rfl) ?_ _;go_wp2;have hrr:=Y9 (w6.setRow (w.heap.size+2) #[.int .i64 x.ci,.slice A4 (x.n+1) c4,.int .i64 q3]) (w.heap.size+2) #[.int .i64 x.ci,.slice A4 (x.n+1) c4,.int .i64 q3] (setRow_heap _ _ _ _ _ _ HE6.out.b3) rfl
     exact Br (v:=.tuple #[.string (Xj q2),.agg #[.int .i64 x.ci,.slice A4 (x.n+1) c4,.int .i64 q3]]) (Vk Tryz.results86 rfl rfl hrr) rfl ⟨⟨x.ci,A4,x.n+1,c4,x.rs++[r],q3⟩,by rw [HQ.out];rfl,by rw [HQ.out],Xu (HS6.out) _ _ (fun a ha=>by have:=HA4.out a ha;omega),(fun a ha=>by have:=HA4.out a ha;omega),U6 HE6.out.be (by omega) _⟩
    exact An
   exact An
  |false=>
   have HNF:Hid (¬ (0<x.ci∧fitsB d.itv (x.rs++[r])=true)):=Hd (by rw [hft];simp);have HFT:=Hd hft;clear hft
   go_wp2_with (first|(go_at_call 120;refine HCL.out.mono ?_;rintro e w2 ⟨v,rfl,hown,hb⟩;have HE2:=Hd (Ve HE.out hb);have HO2:=Hd hown;have HRD:=Hd (Va w2 [.string r] 9 1 1 rfl);clear hown hb e1)|(at_builtin;go_must (refine U4 _ rfl _ _ 150 rfl (((w.alloc (.cells (edC x).toArray 152)).alloc (.cells (dC d).toArray 27)).alloc (.cells zEd.toArray 152)).heap.size 9 i0 _ 1 16 Tryz.underlying150 hi0 hz0 hz1 hz2 rfl (by decide) v x.n (Ua Ug x.rs) rfl (HO2.out.alloc _) (w2.heap.size+1) (some ⟨w2.heap.size,0,none⟩) 1 1 [.string r] rfl HRD.out (Vc r) (by have:=HNX.out;unfold maxLen;omega) (by have:=HNX.out;omega) (by have:=HE2.out.sz;simp;omega) ?_;intro v' w4 hown hgr _;obtain ⟨A4,c4,rfl,_⟩:=Ub hown;have HA4:Hid (∀ a,A4=some a→w.heap.size+3≤a.block):=Hd (fun a ha=>by subst ha;have:=(hown.lt _ rfl).1;simp at this;omega);have HE4:=Hd (en_grown HE2.out hgr (fun k hk=>by have:=(HO2.out.lt k hk).1;simp at this;omega));have HS4:Hid (Sl Ug 1 w4 w4.heap.size A4 (x.n+1) c4 (x.rs++[r])):=Hd (Sl.of_own (f:=Ug) (fun _=>rfl) (by decide) (by rw [Uy,Uv];exact hown));have f0:=(HE4.out.b1.cell 0).trans (show _=some (Value.int .i64 x.ci) from rfl);have f2:=(HE4.out.b1.cell 2).trans (show _=some (Value.int .i64 x.sp) from rfl);have f7:=(HE4.out.b2.cell 7).trans (show _=some (Value.int .i64 d.itv) from rfl);clear hown hgr))|(go_at_call 121;refine (ifits_any d.itv A4 (x.n+1) c4 (x.rs++[r]) w4 HS4.out (by have:=HNX.out;omega)).mono ?_;rw [HFT.out];rintro e w5 ⟨rfl,hb⟩;have HE5:=Hd (Ve HE4.out hb);have HS5:=Hd (HS4.out.after hb hb.size);clear hb f0 f2 f7))
   obtain ⟨q0,hq0⟩:∃ q,IntKind.i64.wrap (x.ci+1)=q:=⟨_,rfl⟩
   obtain ⟨q2,hq2⟩:∃ q,IntKind.i64.wrap (q0*d.itv)=q:=⟨_,rfl⟩
   have HQ:Hid (Vo d r x.ci x.rs x.sp=(Xj q2,(q0,[r],(r.size:Int)))):=Hd (by unfold Vo;rw [if_neg HNF.out,hq0,hq2]);have HEd:Hid (EN x d w w5.drew):=Hd (Ve HE5.out (Bf _ _).drew);refine Rw (S:=fun w'=>Blk w' w.heap.size 152 (edC x).toArray∧Blk w' (w.heap.size+1) 27 (dC d).toArray) (by kernel_rfl) ⟨HEd.out.b1,HEd.out.b2⟩ (fun Hh=>?_);refine tk 0 (.pointer (some ⟨w.heap.size,0,none⟩)) Hh ?_;refine tk 1 (.int .i64 x.ci) Hh ?_ (y:=by exact Or.inl ⟨by rfl,by intro w' hSw;have h1:=(hSw.1.cell 0).trans (show _=some (Value.int .i64 x.ci) from rfl);go_simp⟩);refine tk 2 (.int .i64 q0) Hh ?_ (y:=by exact Or.inl ⟨by rfl,by intro w' hSw;have h1:=hq0;go_simp⟩);refine tk 3 (.pointer (some ⟨w.heap.size+1,7,none⟩)) Hh ?_
   refine tk 4 (.int .i64 d.itv) Hh ?_ (y:=by exact Or.inl ⟨by rfl,by intro w' hSw;have h1:=(hSw.2.cell 7).trans (show _=some (Value.int .i64 d.itv) from rfl);go_simp⟩);refine tk 5 (.int .i64 q2) Hh ?_ (y:=by exact Or.inl ⟨by rfl,by intro w' hSw;have h1:=hq2;go_simp⟩);refine tk 7 (.pointer (some ⟨w.heap.size,0,none⟩)) Hh ?_;refine tk 8 (.int .i64 x.ci) Hh ?_ (y:=by exact Or.inl ⟨by rfl,by intro w' hSw;have h1:=(hSw.1.cell 0).trans (show _=some (Value.int .i64 x.ci) from rfl);go_simp⟩);refine tk 9 (.int .i64 q0) Hh ?_ (y:=by exact Or.inl ⟨by rfl,by intro w' hSw;have h1:=hq0;go_simp⟩);refine tk 10 (.string r) Hh ?_;refine tk 12 (.string r) Hh ?_;refine tk 13 (.int .i64 (r.size:Int)) Hh ?_;refine Ar (rs:=[6,11]) (by kernel_rfl) (by simp) ?_;refine Rc (fun K hK=>?_) ?_
   ·go_simp
    refine (Yg q2 _).mono ?_;rintro e w6 ⟨rfl,hb⟩;simp only [];have HE6:=Hd (Ve HEd.out hb);obtain ⟨k0,k1⟩:=Hh;refine hK.out _ _ ⟨k0.below hb k0.lt,k1.below hb k1.lt⟩ (fun Hh=>?_);clear hK K hb k0 k1;try simp only [Act.put,Sv,Sz,Sw]
    refine tk 15 (.string (Xj q2)) Hh ?_;refine Ar (rs:=[11]) (by kernel_rfl) (by simp) ?_;refine Rc (fun K hK=>?_) ?_
    ·go_simp
     have hb:Below w6.heap.size w6 (w6.alloc (.cells #[.string r] 9)):=(Bf _ _).alloc (Le _) _;have HE7:=Hd (Ve HE6.out hb);have HS8:Hid (Sl Ug 1 (w6.alloc (.cells #[.string r] 9)) (w6.alloc (.cells #[.string r] 9)).heap.size (some ⟨w6.heap.size,0,none⟩) 1 1 [r]):=Hd (Xo (Blk.new w6 _ _));have HA8:Hid (∀ a,some (⟨w6.heap.size,0,none⟩:Addr)=some a→w.heap.size+3≤a.block):=Hd (fun a ha=>by injection ha with ha;subst ha;have:=HE6.out.sz;show _≤w6.heap.size;omega);obtain ⟨k0,k1⟩:=Hh;refine hK.out _ _ ⟨k0.below hb k0.lt,k1.below hb k1.lt⟩ (fun Hh=>?_);clear hK K hb k0 k1;try simp only [Act.put,Sv,Sz,Sw]
     refine tk 14 (.agg #[.int .i64 q0,.slice (some ⟨w6.heap.size,0,none⟩) 1 1,.int .i64 (r.size:Int)]) Hh ?_;refine Ar (rs:=[16]) (by kernel_rfl) (by simp) ?_;refine Rc (fun K hK=>?_) ?_
     ·refine wp_store_row 152 _ _ rfl (w.heap.size+2) #[.int .i64 q0,.slice (some ⟨w6.heap.size,0,none⟩) 1 1,.int .i64 (r.size:Int)] rfl rfl 152 _ HE7.out.b3 (by kernel_rfl) rfl (by simp [Value.oneCell']) ?_
      obtain ⟨k0,k1⟩:=Hh;have hbs:Below (w.heap.size+2) (w6.alloc (.cells #[.string r] 9)) ((w6.alloc (.cells #[.string r] 9)).setRow (w.heap.size+2) #[.int .i64 q0,.slice (some ⟨w6.heap.size,0,none⟩) 1 1,.int .i64 (r.size:Int)]):=U6 (Bf _ _) (Le _) _;refine hK.out _ _ ⟨k0.below hbs (by omega),k1.below hbs (by omega)⟩ (fun Hh=>?_);clear hK K k0 k1 Hh hbs;refine Ad (by kernel_rfl) ?_ _;go_wp2;have hrr:=Y9 ((w6.alloc (.cells #[.string r] 9)).setRow (w.heap.size+2) #[.int .i64 q0,.slice (some ⟨w6.heap.size,0,none⟩) 1 1,.int .i64 (r.size:Int)]) (w.heap.size+2) #[.int .i64 q0,.slice (some ⟨w6.heap.size,0,none⟩) 1 1,.int .i64 (r.size:Int)] (setRow_heap _ _ _ _ _ _ HE7.out.b3) rfl
      exact Br (v:=.tuple #[.string (Xj q2),.agg #[.int .i64 q0,.slice (some ⟨w6.heap.size,0,none⟩) 1 1,.int .i64 (r.size:Int)]]) (Vk Tryz.results86 rfl rfl hrr) rfl ⟨⟨q0,some ⟨w6.heap.size,0,none⟩,1,1,[r],r.size⟩,by rw [HQ.out];rfl,by rw [HQ.out],Xu (HS8.out) _ _ (fun a ha=>by have:=HA8.out a ha;omega),(fun a ha=>by have:=HA8.out a ha;omega),U6 HE7.out.be (by omega) _⟩
     exact An
    exact An
   refine Rc (fun K hK=>?_) ?_
   ·go_simp
    have hb:Below w5.drew.heap.size w5.drew (w5.drew.alloc (.cells #[.string r] 9)):=(Bf _ _).alloc (Le _) _;have HE6:=Hd (Ve HEd.out hb);have HS8:Hid (Sl Ug 1 (w5.drew.alloc (.cells #[.string r] 9)) (w5.drew.alloc (.cells #[.string r] 9)).heap.size (some ⟨w5.drew.heap.size,0,none⟩) 1 1 [r]):=Hd (Xo (Blk.new w5.drew _ _));have HA8:Hid (∀ a,some (⟨w5.drew.heap.size,0,none⟩:Addr)=some a→w.heap.size+3≤a.block):=Hd (fun a ha=>by injection ha with ha;subst ha;have:=HEd.out.sz;show _≤w5.drew.heap.size;omega);obtain ⟨k0,k1⟩:=Hh;refine hK.out _ _ ⟨k0.below hb k0.lt,k1.below hb k1.lt⟩ (fun Hh=>?_);clear hK K hb k0 k1;try simp only [Act.put,Sv,Sz,Sw]
    refine tk 14 (.agg #[.int .i64 q0,.slice (some ⟨w5.drew.heap.size,0,none⟩) 1 1,.int .i64 (r.size:Int)]) Hh ?_;refine Ar (rs:=[6]) (by kernel_rfl) (by simp) ?_;refine Rc (fun K hK=>?_) ?_
    ·go_simp
     refine (Yg q2 _).mono ?_;rintro e w7 ⟨rfl,hb⟩;simp only [];have HE7:=Hd (Ve HE6.out hb);have HS9:=Hd (HS8.out.after hb hb.size);obtain ⟨k0,k1⟩:=Hh;refine hK.out _ _ ⟨k0.below hb k0.lt,k1.below hb k1.lt⟩ (fun Hh=>?_);clear hK K hb k0 k1;try simp only [Act.put,Sv,Sz,Sw]
     refine tk 15 (.string (Xj q2)) Hh ?_;refine Ar (rs:=[16]) (by kernel_rfl) (by simp) ?_;refine Rc (fun K hK=>?_) ?_
     ·refine wp_store_row 152 _ _ rfl (w.heap.size+2) #[.int .i64 q0,.slice (some ⟨w5.drew.heap.size,0,none⟩) 1 1,.int .i64 (r.size:Int)] rfl rfl 152 _ HE7.out.b3 (by kernel_rfl) rfl (by simp [Value.oneCell']) ?_
      obtain ⟨k0,k1⟩:=Hh;have hbs:Below (w.heap.size+2) w7 (w7.setRow (w.heap.size+2) #[.int .i64 q0,.slice (some ⟨w5.drew.heap.size,0,none⟩) 1 1,.int .i64 (r.size:Int)]):=U6 (Bf _ _) (Le _) _;refine hK.out _ _ ⟨k0.below hbs (by omega),k1.below hbs (by omega)⟩ (fun Hh=>?_);clear hK K k0 k1 Hh hbs;refine Ad (by kernel_rfl) ?_ _;go_wp2;have hrr:=Y9 (w7.setRow (w.heap.size+2) #[.int .i64 q0,.slice (some ⟨w5.drew.heap.size,0,none⟩) 1 1,.int .i64 (r.size:Int)]) (w.heap.size+2) #[.int .i64 q0,.slice (some ⟨w5.drew.heap.size,0,none⟩) 1 1,.int .i64 (r.size:Int)] (setRow_heap _ _ _ _ _ _ HE7.out.b3) rfl
      exact Br (v:=.tuple #[.string (Xj q2),.agg #[.int .i64 q0,.slice (some ⟨w5.drew.heap.size,0,none⟩) 1 1,.int .i64 (r.size:Int)]]) (Vk Tryz.results86 rfl rfl hrr) rfl ⟨⟨q0,some ⟨w5.drew.heap.size,0,none⟩,1,1,[r],r.size⟩,by rw [HQ.out];rfl,by rw [HQ.out],Xu (HS9.out) _ _ (fun a ha=>by have:=HA8.out a ha;omega),(fun a ha=>by have:=HA8.out a ha;omega),U6 HE7.out.be (by omega) _⟩
     exact An
    exact An
   exact An
 ·have HNF:Hid (¬ (0<x.ci∧fitsB d.itv (x.rs++[r])=true)):=Hd (fun h=>hci h.1)
  go_wp2_with (first|(go_at_call 120;refine HCL.out.mono ?_;rintro e w2 ⟨v,rfl,hown,hb⟩;have HE2:=Hd (Ve HE.out hb);have HO2:=Hd hown;have HRD:=Hd (Va w2 [.string r] 9 1 1 rfl);clear hown hb e1)|(at_builtin;go_must (refine U4 _ rfl _ _ 150 rfl (((w.alloc (.cells (edC x).toArray 152)).alloc (.cells (dC d).toArray 27)).alloc (.cells zEd.toArray 152)).heap.size 9 i0 _ 1 16 Tryz.underlying150 hi0 hz0 hz1 hz2 rfl (by decide) v x.n (Ua Ug x.rs) rfl (HO2.out.alloc _) (w2.heap.size+1) (some ⟨w2.heap.size,0,none⟩) 1 1 [.string r] rfl HRD.out (Vc r) (by have:=HNX.out;unfold maxLen;omega) (by have:=HNX.out;omega) (by have:=HE2.out.sz;simp;omega) ?_;intro v' w4 hown hgr _;obtain ⟨A4,c4,rfl,_⟩:=Ub hown;have HA4:Hid (∀ a,A4=some a→w.heap.size+3≤a.block):=Hd (fun a ha=>by subst ha;have:=(hown.lt _ rfl).1;simp at this;omega);have HE4:=Hd (en_grown HE2.out hgr (fun k hk=>by have:=(HO2.out.lt k hk).1;simp at this;omega));have HS4:Hid (Sl Ug 1 w4 w4.heap.size A4 (x.n+1) c4 (x.rs++[r])):=Hd (Sl.of_own (f:=Ug) (fun _=>rfl) (by decide) (by rw [Uy,Uv];exact hown));have f0:=(HE4.out.b1.cell 0).trans (show _=some (Value.int .i64 x.ci) from rfl);have f2:=(HE4.out.b1.cell 2).trans (show _=some (Value.int .i64 x.sp) from rfl);have f7:=(HE4.out.b2.cell 7).trans (show _=some (Value.int .i64 d.itv) from rfl);clear hown hgr)))
  obtain ⟨q0,hq0⟩:∃ q,IntKind.i64.wrap (x.ci+1)=q:=⟨_,rfl⟩
  obtain ⟨q2,hq2⟩:∃ q,IntKind.i64.wrap (q0*d.itv)=q:=⟨_,rfl⟩
  have HQ:Hid (Vo d r x.ci x.rs x.sp=(Xj q2,(q0,[r],(r.size:Int)))):=Hd (by unfold Vo;rw [if_neg HNF.out,hq0,hq2]);have HEd:Hid (EN x d w w4.drew):=Hd (Ve HE4.out (Bf _ _).drew);refine Rw (S:=fun w'=>Blk w' w.heap.size 152 (edC x).toArray∧Blk w' (w.heap.size+1) 27 (dC d).toArray) (by kernel_rfl) ⟨HEd.out.b1,HEd.out.b2⟩ (fun Hh=>?_);refine tk 0 (.pointer (some ⟨w.heap.size,0,none⟩)) Hh ?_;refine tk 1 (.int .i64 x.ci) Hh ?_ (y:=by exact Or.inl ⟨by rfl,by intro w' hSw;have h1:=(hSw.1.cell 0).trans (show _=some (Value.int .i64 x.ci) from rfl);go_simp⟩);refine tk 2 (.int .i64 q0) Hh ?_ (y:=by exact Or.inl ⟨by rfl,by intro w' hSw;have h1:=hq0;go_simp⟩);refine tk 3 (.pointer (some ⟨w.heap.size+1,7,none⟩)) Hh ?_
  refine tk 4 (.int .i64 d.itv) Hh ?_ (y:=by exact Or.inl ⟨by rfl,by intro w' hSw;have h1:=(hSw.2.cell 7).trans (show _=some (Value.int .i64 d.itv) from rfl);go_simp⟩);refine tk 5 (.int .i64 q2) Hh ?_ (y:=by exact Or.inl ⟨by rfl,by intro w' hSw;have h1:=hq2;go_simp⟩);refine tk 7 (.pointer (some ⟨w.heap.size,0,none⟩)) Hh ?_;refine tk 8 (.int .i64 x.ci) Hh ?_ (y:=by exact Or.inl ⟨by rfl,by intro w' hSw;have h1:=(hSw.1.cell 0).trans (show _=some (Value.int .i64 x.ci) from rfl);go_simp⟩);refine tk 9 (.int .i64 q0) Hh ?_ (y:=by exact Or.inl ⟨by rfl,by intro w' hSw;have h1:=hq0;go_simp⟩);refine tk 10 (.string r) Hh ?_;refine tk 12 (.string r) Hh ?_;refine tk 13 (.int .i64 (r.size:Int)) Hh ?_;refine Ar (rs:=[6,11]) (by kernel_rfl) (by simp) ?_;refine Rc (fun K hK=>?_) ?_
  ·go_simp
   refine (Yg q2 _).mono ?_;rintro e w6 ⟨rfl,hb⟩;simp only [];have HE6:=Hd (Ve HEd.out hb);obtain ⟨k0,k1⟩:=Hh;refine hK.out _ _ ⟨k0.below hb k0.lt,k1.below hb k1.lt⟩ (fun Hh=>?_);clear hK K hb k0 k1;try simp only [Act.put,Sv,Sz,Sw]
   refine tk 15 (.string (Xj q2)) Hh ?_;refine Ar (rs:=[11]) (by kernel_rfl) (by simp) ?_;refine Rc (fun K hK=>?_) ?_
   ·go_simp
    have hb:Below w6.heap.size w6 (w6.alloc (.cells #[.string r] 9)):=(Bf _ _).alloc (Le _) _;have HE7:=Hd (Ve HE6.out hb);have HS8:Hid (Sl Ug 1 (w6.alloc (.cells #[.string r] 9)) (w6.alloc (.cells #[.string r] 9)).heap.size (some ⟨w6.heap.size,0,none⟩) 1 1 [r]):=Hd (Xo (Blk.new w6 _ _));have HA8:Hid (∀ a,some (⟨w6.heap.size,0,none⟩:Addr)=some a→w.heap.size+3≤a.block):=Hd (fun a ha=>by injection ha with ha;subst ha;have:=HE6.out.sz;show _≤w6.heap.size;omega);obtain ⟨k0,k1⟩:=Hh;refine hK.out _ _ ⟨k0.below hb k0.lt,k1.below hb k1.lt⟩ (fun Hh=>?_);clear hK K hb k0 k1;try simp only [Act.put,Sv,Sz,Sw]
    refine tk 14 (.agg #[.int .i64 q0,.slice (some ⟨w6.heap.size,0,none⟩) 1 1,.int .i64 (r.size:Int)]) Hh ?_;refine Ar (rs:=[16]) (by kernel_rfl) (by simp) ?_;refine Rc (fun K hK=>?_) ?_
    ·refine wp_store_row 152 _ _ rfl (w.heap.size+2) #[.int .i64 q0,.slice (some ⟨w6.heap.size,0,none⟩) 1 1,.int .i64 (r.size:Int)] rfl rfl 152 _ HE7.out.b3 (by kernel_rfl) rfl (by simp [Value.oneCell']) ?_
     obtain ⟨k0,k1⟩:=Hh;have hbs:Below (w.heap.size+2) (w6.alloc (.cells #[.string r] 9)) ((w6.alloc (.cells #[.string r] 9)).setRow (w.heap.size+2) #[.int .i64 q0,.slice (some ⟨w6.heap.size,0,none⟩) 1 1,.int .i64 (r.size:Int)]):=U6 (Bf _ _) (Le _) _;refine hK.out _ _ ⟨k0.below hbs (by omega),k1.below hbs (by omega)⟩ (fun Hh=>?_);clear hK K k0 k1 Hh hbs;refine Ad (by kernel_rfl) ?_ _;go_wp2;have hrr:=Y9 ((w6.alloc (.cells #[.string r] 9)).setRow (w.heap.size+2) #[.int .i64 q0,.slice (some ⟨w6.heap.size,0,none⟩) 1 1,.int .i64 (r.size:Int)]) (w.heap.size+2) #[.int .i64 q0,.slice (some ⟨w6.heap.size,0,none⟩) 1 1,.int .i64 (r.size:Int)] (setRow_heap _ _ _ _ _ _ HE7.out.b3) rfl
     exact Br (v:=.tuple #[.string (Xj q2),.agg #[.int .i64 q0,.slice (some ⟨w6.heap.size,0,none⟩) 1 1,.int .i64 (r.size:Int)]]) (Vk Tryz.results86 rfl rfl hrr) rfl ⟨⟨q0,some ⟨w6.heap.size,0,none⟩,1,1,[r],r.size⟩,by rw [HQ.out];rfl,by rw [HQ.out],Xu (HS8.out) _ _ (fun a ha=>by have:=HA8.out a ha;omega),(fun a ha=>by have:=HA8.out a ha;omega),U6 HE7.out.be (by omega) _⟩
    exact An
   exact An
  refine Rc (fun K hK=>?_) ?_
  ·go_simp
   have hb:Below w4.drew.heap.size w4.drew (w4.drew.alloc (.cells #[.string r] 9)):=(Bf _ _).alloc (Le _) _;have HE6:=Hd (Ve HEd.out hb);have HS8:Hid (Sl Ug 1 (w4.drew.alloc (.cells #[.string r] 9)) (w4.drew.alloc (.cells #[.string r] 9)).heap.size (some ⟨w4.drew.heap.size,0,none⟩) 1 1 [r]):=Hd (Xo (Blk.new w4.drew _ _));have HA8:Hid (∀ a,some (⟨w4.drew.heap.size,0,none⟩:Addr)=some a→w.heap.size+3≤a.block):=Hd (fun a ha=>by injection ha with ha;subst ha;have:=HEd.out.sz;show _≤w4.drew.heap.size;omega);obtain ⟨k0,k1⟩:=Hh;refine hK.out _ _ ⟨k0.below hb k0.lt,k1.below hb k1.lt⟩ (fun Hh=>?_);clear hK K hb k0 k1;try simp only [Act.put,Sv,Sz,Sw]
   refine tk 14 (.agg #[.int .i64 q0,.slice (some ⟨w4.drew.heap.size,0,none⟩) 1 1,.int .i64 (r.size:Int)]) Hh ?_;refine Ar (rs:=[6]) (by kernel_rfl) (by simp) ?_;refine Rc (fun K hK=>?_) ?_
   ·go_simp
    refine (Yg q2 _).mono ?_;rintro e w7 ⟨rfl,hb⟩;simp only [];have HE7:=Hd (Ve HE6.out hb);have HS9:=Hd (HS8.out.after hb hb.size);obtain ⟨k0,k1⟩:=Hh;refine hK.out _ _ ⟨k0.below hb k0.lt,k1.below hb k1.lt⟩ (fun Hh=>?_);clear hK K hb k0 k1;try simp only [Act.put,Sv,Sz,Sw]
    refine tk 15 (.string (Xj q2)) Hh ?_;refine Ar (rs:=[16]) (by kernel_rfl) (by simp) ?_;refine Rc (fun K hK=>?_) ?_
    ·refine wp_store_row 152 _ _ rfl (w.heap.size+2) #[.int .i64 q0,.slice (some ⟨w4.drew.heap.size,0,none⟩) 1 1,.int .i64 (r.size:Int)] rfl rfl 152 _ HE7.out.b3 (by kernel_rfl) rfl (by simp [Value.oneCell']) ?_
     obtain ⟨k0,k1⟩:=Hh;have hbs:Below (w.heap.size+2) w7 (w7.setRow (w.heap.size+2) #[.int .i64 q0,.slice (some ⟨w4.drew.heap.size,0,none⟩) 1 1,.int .i64 (r.size:Int)]):=U6 (Bf _ _) (Le _) _;refine hK.out _ _ ⟨k0.below hbs (by omega),k1.below hbs (by omega)⟩ (fun Hh=>?_);clear hK K k0 k1 Hh hbs;refine Ad (by kernel_rfl) ?_ _;go_wp2;have hrr:=Y9 (w7.setRow (w.heap.size+2) #[.int .i64 q0,.slice (some ⟨w4.drew.heap.size,0,none⟩) 1 1,.int .i64 (r.size:Int)]) (w.heap.size+2) #[.int .i64 q0,.slice (some ⟨w4.drew.heap.size,0,none⟩) 1 1,.int .i64 (r.size:Int)] (setRow_heap _ _ _ _ _ _ HE7.out.b3) rfl
     exact Br (v:=.tuple #[.string (Xj q2),.agg #[.int .i64 q0,.slice (some ⟨w4.drew.heap.size,0,none⟩) 1 1,.int .i64 (r.size:Int)]]) (Vk Tryz.results86 rfl rfl hrr) rfl ⟨⟨q0,some ⟨w4.drew.heap.size,0,none⟩,1,1,[r],r.size⟩,by rw [HQ.out];rfl,by rw [HQ.out],Xu (HS9.out) _ _ (fun a ha=>by have:=HA8.out a ha;omega),(fun a ha=>by have:=HA8.out a ha;omega),U6 HE7.out.be (by omega) _⟩
    exact An
   exact An
  exact An
end
section
set_option maxRecDepth 100000
set_option maxHeartbeats 4000000
open Go.RowKit
def behF (d:DSet) (s:Int×List ByteArray×Int):List Pr→Int×List ByteArray×Int
 | []=>s
 |p::r=>behF d (Vo d p.rcd s.1 s.2.1 s.2.2).2 r
theorem Kw (d:DSet) (r:ByteArray) (ci:Int) (rs:List ByteArray) (sp:Int):(Vo d r ci rs sp).2.2.1.length≤rs.length+1:=by
 unfold Vo;split<;>simp
structure BH (d:DSet) (y:Edn) (w W:World):Prop where
 b1:Blk W w.heap.size 27 (dC d).toArray
 b2:Blk W (w.heap.size+1) 152 zEd.toArray
 b3:Blk W (w.heap.size+2) 152 (edC y).toArray
 sl:Sl Ug 1 W W.heap.size y.A y.n y.c y.rs
 na:∀ a,y.A=some a→w.heap.size+3≤a.block
 be:Below w.heap.size w W
 sz:w.heap.size+3≤W.heap.size
theorem bh_next {d:DSet} {y:Edn} {w W W':World} (h:BH d y w W) (hb:Below W.heap.size W W'):BH d y w W':=
 ⟨h.b1.below hb h.b1.lt,h.b2.below hb h.b2.lt,h.b3.below hb h.b3.lt,h.sl.after hb hb.size,h.na,U0 h.be hb h.be.size,Lx h.sz hb.size⟩
theorem bh_set {d:DSet} {y z:Edn} {w W:World} (h:BH d y w W) (hs:Sl Ug 1 W W.heap.size z.A z.n z.c z.rs) (hz:∀ a,z.A=some a→w.heap.size+3≤a.block):BH d z w (W.setRow (w.heap.size+2) (edC z).toArray):=
 have hb:Below (w.heap.size+2) W (W.setRow (w.heap.size+2) (edC z).toArray):=U6 (Bf _ _) (Le _) _
 ⟨h.b1.below hb (by omega),h.b2.below hb (by omega),setRow_heap _ _ _ _ _ _ h.b3,Xu hs _ _ (fun a ha=>by have:=hz a ha;omega),hz,U6 h.be (by omega) _,by rw [size_setRow];exact h.sz⟩
theorem bh_new (d:DSet) (w:World):BH d ⟨0,none,0,0,[],0⟩ w (((w.alloc (.cells (dC d).toArray 27)).alloc (.cells zEd.toArray 152)).alloc (.cells zEd.toArray 152)):=
 ⟨((Blk.new w _ _).alloc _).alloc _,(U3 (w.alloc _) _ _ _ (by simp)).alloc _,U3 ((w.alloc _).alloc _) _ _ _ (by simp),Sl.nil,fun a ha=>by simp at ha,(((Bf _ _).alloc (Le _) _).alloc (by simp) _).alloc (by simp;omega) _,by simp⟩
def BhG (d:DSet) (n:Nat) (l:List Pr) (w:World) (e:Ending) (w':World):Prop:=∃ y:Edn,e = .returned (.agg (edC y).toArray)∧(y.ci,y.rs,y.sp)=behF d (0,[],0) l∧Sl Ug 1 w' w'.heap.size y.A y.n y.c y.rs∧y.n≤n∧(∀ a,y.A=some a→w.heap.size≤a.block)∧Below w.heap.size w w'
theorem behind_any (d:DSet) (A:Option Addr) (n c:Nat) (l:List Pr) (w:World) (hs:Sl prC 2 w w.heap.size A n c l) (hn:n≤1999):
  Calls prog 164 #[.agg (dC d).toArray,.slice A n c] w (BhG d n l w):=by
 obtain ⟨R,hR⟩:∃ R,behF d (0,[],0) l=R:=⟨_,rfl⟩
 unfold BhG;rw [hR];have HS:=Hd hs;have HR:=Hd hR;have HL:=Hd hs.len;have HB:=Hd (bh_new d w);clear hs hR;go_enter Tryz.func164,Tryz.ntmps164;go_wp2;go_loopw [10] (fun v10 wr => ∃ (j:Nat) (y:Edn),j≤n∧v10 = .int .i64 j∧behF d (y.ci,y.rs,y.sp) (l.drop j)=R∧y.n≤j∧BH d y w wr) (fun v10 _=>n-(intOf v10).toNat)
 case atStart=>exact ⟨0,_,Z0 _,rfl,HR.out,Le _,HB.out⟩
 case round=>
  obtain ⟨j,y,hj,rfl,hrec,hyn,hbh⟩:=hrel;obtain ⟨wx,rfl⟩:∃ z:World,z=wr:=⟨_,rfl⟩
  have HBH:=Hd hbh;have HREC:=Hd hrec;have HYN:=Hd hyn;clear hbh hrec hyn;by_cases hlt:j<n
  ·obtain ⟨b,o,x,rfl,hb,hg,hcell⟩:=Sl.cell (f:=prC) (k:=2) (fun _=>rfl) (HS.out.below HBH.out.be) hlt
   have HM:Hid (wx.rangeAt b (o+j*2) (prC x)):=Hd fun t u hu=>hcell t u hu
   have hdr:l.drop j=x::l.drop (j+1):=by
    have hlj:j<l.length:=by rw [HL.out];exact hlt
    rw [List.drop_eq_getElem_cons hlj];congr 1;rw [List.getElem?_eq_getElem hlj] at hg;injection hg
   have HQ:Hid (behF d (Vo d x.rcd y.ci y.rs y.sp).2 (l.drop (j+1))=R):=Hd (by have h:=HREC.out;rw [hdr] at h;exact h);have HBn:=Hd fun old=>Blk.new wx 76 old
   have HSn:=Hd fun old=>U1 wx old (prC x).toArray 76
   have HON:Hid ((prC x).toArray.all (·.oneCell')=true):=Hd (by simp [prC,Value.oneCell']);have HB1:Hid (BH d y w (wx.alloc (.cells (prC x).toArray 76))):=Hd (bh_next HBH.out ((Bf _ _).alloc (Le _) _));have c1:(wx.alloc (.cells (prC x).toArray 76)).cell? ⟨wx.heap.size,1,none⟩=some (.string x.rcd):=((Blk.new wx _ _).cell 1).trans rfl;have HNX:Hid (Calls prog 86 #[.agg (edC y).toArray,.agg (dC d).toArray,.string x.rcd] (wx.alloc (.cells (prC x).toArray 76)) (NxG d x.rcd y (wx.alloc (.cells (prC x).toArray 76)))):=Hd (next_e d x.rcd y _ HB1.out.sl (by have:=HYN.out;omega));clear hb hg hcell hdr
   go_wp2_with (first|((with_reducible refine Gl 76 12 ?_);refine Lm rfl 76 _ rfl b (o+j*2) rfl (prC x) _ HM.out Tryz.underlying76 rfl (by kernel_rfl) ?_)|((with_reducible refine Gt 76 7 ?_);refine Lt rfl 76 _ _ rfl (wx.heap.size) (prC x).toArray rfl rfl 76 _ (HBn.out _) (by kernel_rfl) rfl HON.out ?_;rw [HSn.out])|((with_reducible refine Gl 152 5 ?_);refine Lr rfl 152 _ rfl (w.heap.size+2) rfl 152 (edC y).toArray (0,0) _ HB1.out.b3 Tryz.underlying152 rfl (by kernel_rfl) ?_)|((with_reducible refine Gl 27 2 ?_);refine Lr rfl 27 _ rfl (w.heap.size) rfl 27 (dC d).toArray (0,0) _ HB1.out.b1 Tryz.underlying27 rfl (by kernel_rfl) ?_)|(go_at_call 86;refine HNX.out.mono ?_;rintro e w2 ⟨z,rfl,hz,hsl,hna,hb⟩;have HZ:=Hd hz;have HB2:=Hd (bh_next HB1.out hb);have HSL:=Hd hsl;have HNA:Hid (∀ a,z.A=some a→w.heap.size+3≤a.block):=Hd (fun a ha=>by have h1:=hna a ha;have h2:=HB1.out.sz;omega);have HZO:Hid ((edC z).toArray.all (·.oneCell')=true):=Hd (by simp [edC,Value.oneCell']);clear hz hsl hna hb)|((with_reducible refine Gt 152 5 ?_);refine Lt rfl 152 _ _ rfl (w.heap.size+2) (edC z).toArray rfl rfl 152 _ HB2.out.b3 (by kernel_rfl) rfl HZO.out ?_))
   go_roundw
   case rel=>
    refine ⟨j+1,z,by omega,by go_num,by rw [HZ.out];exact HQ.out,?_,bh_set HB2.out HSL.out HNA.out⟩;have h1:=HSL.out.len;have h2:=HBH.out.sl.len;have h3:=Kw d x.rcd y.ci y.rs y.sp;have h4:z.rs=(Vo d x.rcd y.ci y.rs y.sp).2.2.1:=congrArg (·.2.1) HZ.out;rw [←h4] at h3;have:=HYN.out;omega
   case measure=>simp [intOf];omega
  ·obtain rfl:j=n:=by omega
   have hq:(y.ci,y.rs,y.sp)=R:=by
    have h:=HREC.out;rw [List.drop_of_length_le (by rw [HL.out];exact Le _)] at h;exact h
   have HQ:=Hd hq;have HON:Hid ((edC y).toArray.all (·.oneCell')=true):=Hd (by simp [edC,Value.oneCell']);clear hq;go_wp2_with (first|((with_reducible refine Gl 152 5 ?_);refine Lr rfl 152 _ rfl (w.heap.size+2) rfl 152 (edC y).toArray (0,0) _ HBH.out.b3 Tryz.underlying152 rfl (by kernel_rfl) ?_)|((with_reducible refine Gt 152 4 ?_);refine Lt rfl 152 _ _ rfl (w.heap.size+1) (edC y).toArray rfl rfl 152 _ HBH.out.b2 (by kernel_rfl) rfl HON.out ?_));have hrr:=Y9 (wx.setRow (w.heap.size+1) (edC y).toArray) (w.heap.size+1) (edC y).toArray (setRow_heap _ _ _ _ _ _ HBH.out.b2) rfl;exact Br (v:=.agg (edC y).toArray) (Vi Tryz.results164 rfl hrr) rfl ⟨y,rfl,HQ.out,Xu HBH.out.sl _ _ (fun a ha=>by have:=HBH.out.na a ha;omega),HYN.out,fun a ha=>by have:=HBH.out.na a ha;omega,U6 HBH.out.be (by omega) _⟩
end
end Go.Proofs.YtapanepkfbamhaaGreatDoor
