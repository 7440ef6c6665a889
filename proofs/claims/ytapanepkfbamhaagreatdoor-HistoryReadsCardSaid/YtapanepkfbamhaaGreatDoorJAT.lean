/- Part of the proof of HistoryReads. -/
import Derived.Test.YtapanepkfbamhaaGreatDoorJAS
namespace Go.Proofs.YtapanepkfbamhaaGreatDoor
open Tryz (prog)
section
set_option maxRecDepth 100000
set_option maxHeartbeats 8000000
open Go.RowKit
def enK (k:Int) (nm:ByteArray):En:=⟨k,nm,dZ,[],0,0,0,false,⟨#[]⟩,⟨#[]⟩,0,0,[]⟩
def Kb (k:Int) (nm left:ByteArray):En×ByteArray×Int:=
 let p:=Uj 14 left 0;let t:=Vu p.2.1 p.2.2;let c:=Uu t.2.1 t.2.2;let v:=Uh c.2.1 c.2.2 200;let o:=Uh v.2.1 v.2.2 200;let q:=Uj 2 o.2.1 o.2.2;let b:=Vu q.2.1 q.2.2;let n:=Uu b.2.1 b.2.2;let al:=Uj (Zl n.1 4).toNat n.2.1 n.2.2;let u:=Uu al.2.1 al.2.2
 (⟨k,nm,⟨p.1.getD 0 0,p.1.getD 1 0,p.1.getD 2 0,p.1.getD 3 0,p.1.getD 4 0,p.1.getD 5 0,p.1.getD 6 0,p.1.getD 7 0,p.1.getD 8 0,p.1.getD 9 0,p.1.getD 10 0,p.1.getD 11 0,p.1.getD 12 0,p.1.getD 13 0,t.1,c.1,v.1,o.1,q.1.getD 0 0,q.1.getD 1 0,b.1⟩,al.1,u.1,0,0,false,⟨#[]⟩,⟨#[]⟩,0,0,[]⟩,u.2)
structure DrI (c r g:Nat) (w W:World) (cs:Array Value) (l:ByteArray) (er:Int):Prop where
 cr:Cr W c r
 rd:Rdr W r l er
 bg:Blk W g 159 cs
 fa:Far [r,g] w W
 n1:r≠g
 n2:c≠r
 n3:c≠g
 sz:l.size≤1000000
section
variable {c r g:Nat} {w W:World} {cs:Array Value} {l:ByteArray} {er:Int}
theorem DrI.step (h:DrI c r g w W cs l er) {W2:World} {cs2:Array Value} {l2:ByteArray} {er2:Int} (h1:Rdr W2 r l2 er2) (h2:Blk W2 g 159 cs2) (h3:Far [r,g] W W2) (hl:l2.size≤l.size):DrI c r g w W2 cs2 l2 er2:=
 ⟨Blk.far' h.cr h3 (by simp only [List.mem_cons,List.not_mem_nil,or_false,not_or];exact ⟨h.n2,h.n3⟩),h1,h2,h.fa.trans h3,h.n1,h.n2,h.n3,Lx hl h.sz⟩
theorem DrI.keep (h:DrI c r g w W cs l er) {W2:World} (hb:Below W.heap.size W W2):DrI c r g w W2 cs l er:=
 h.step (Blk.below h.rd hb (Blk.lt h.rd)) (h.bg.below hb h.bg.lt) (Far.of_below hb) (Le _)
theorem DrI.alloc (h:DrI c r g w W cs l er) (o:Obj):DrI c r g w (W.alloc o) cs l er:=h.keep ((Bf _ _).alloc (Le _) o)
theorem DrI.drew (h:DrI c r g w W cs l er):DrI c r g w W.drew cs l er:=h.keep (Bf _ _).drew
theorem DrI.lt (h:DrI c r g w W cs l er):c<W.heap.size∧r<W.heap.size∧g<W.heap.size:=⟨Blk.lt h.cr,Blk.lt h.rd,h.bg.lt⟩
theorem DrI.left (h:DrI c r g w W cs l er):l.size≤maxLen:=by have:=h.sz;unfold maxLen;omega
theorem DrI.rr (h:DrI c r g w W cs l er) {W2:World} {l2:ByteArray} {er2:Int} (h1:RrP W r l2 er2 W2) (hl:l2.size≤l.size):DrI c r g w W2 cs l2 er2:=
 h.step h1.1 (h.bg.far' h1.2 (by simpa using h.n1.symm)) (h1.2.mono (by simp)) hl
end
theorem E5 (l:ByteArray) (e:Int):(Vu l e).2.1.size≤l.size:=by
 unfold Vu;split
 ·split
  ·exact Z0 _
  ·simp
 ·exact Le _
theorem Za (l:ByteArray) (e:Int):(Uh l e 200).1.size≤200:=by
 unfold Uh;split
 ·rename_i h
  split
  ·exact Z0 _
  ·have h2:=cntF_range l e 200 (by decide) h
   simp;omega
 ·exact Z0 _
theorem list2 {l:List Int} (h:l.length=2):∃ a b,l = [a,b]:=by
 match l,h with
 | [a,b],_=>exact ⟨a,b,rfl⟩
theorem list14 {l:List Int} (h:l.length=14):∃ a0 a1 a2 a3 a4 a5 a6 a7 a8 a9 a10 a11 a12 a13,l = [a0,a1,a2,a3,a4,a5,a6,a7,a8,a9,a10,a11,a12,a13]:=by
 match l,h with
 | [a0,a1,a2,a3,a4,a5,a6,a7,a8,a9,a10,a11,a12,a13],_=>exact ⟨_,_,_,_,_,_,_,_,_,_,_,_,_,_,rfl⟩
def numAt (cs:Array Value) (o:Nat):Bool:=match cs[o]? with|some (.int .i64 _)=>true|_=>false
theorem nums_ok {os:List Nat} {cs:Array Value} (h:os.all (numAt cs)=true):∀ (j o:Nat),os[j]? =some o→∃ m:Int,cs[o]? =some (.int .i64 m):=by
 intro j o ho;have h1:=List.all_eq_true.1 h o (List.mem_of_getElem? ho);unfold numAt at h1;split at h1
 ·rename_i m hm
  exact ⟨m,hm⟩
 ·cases h1
theorem infoI64:(prog.info? 3).map (fun i=>(i.zero,i.size,i.bytes))=some (some (.int .i64 0),1,8):=by kernel_rfl
theorem made_int (n i:Nat) (h:i<n):(madeCells #[.int .i64 0] n)[i]? =some (.int .i64 0):=by
 unfold madeCells;rw [Array.getElem?_map,Array.getElem?_range];simp [h];rw [Nat.mod_one];rfl
def NumB (W:World) (h n:Nat) (l:List Int):Prop:=∃ cs:Array Value,Blk W h 3 cs∧cs.size=n∧(∀ t,t<n→∃ m:Int,cs[t]? =some (.int .i64 m))∧∀ (t:Nat) (x:Int),l[t]? =some x→cs[t]? =some (.int .i64 x)
theorem NumB.snoc {W2:World} {h n:Nat} {l:List Int} {cs:Array Value} {x:Int} (hz:cs.size=n) (h1:∀ t,t<n→∃ m:Int,cs[t]? =some (.int .i64 m)) (h2:∀ (t:Nat) (x:Int),l[t]? =some x→cs[t]? =some (.int .i64 x))
  (hl:l.length<n) (hb:Blk W2 h 3 (cs.setIfInBounds l.length (.int .i64 x))):NumB W2 h n (l++[x]):=by
 refine ⟨_,hb,by simp [hz],fun t ht=>?_,fun t y hy=>?_⟩
 ·by_cases e:l.length=t
  ·subst e
   exact ⟨x,Array.getElem?_setIfInBounds_self_of_lt (by omega)⟩
  ·obtain ⟨m,hm⟩:=h1 t ht
   exact ⟨m,by rw [Array.getElem?_setIfInBounds_ne e];exact hm⟩
 ·by_cases e:l.length=t
  ·subst e
   rw [Array.getElem?_setIfInBounds_self_of_lt (by omega)];simp at hy;rw [hy]
  ·rw [Array.getElem?_setIfInBounds_ne e]
   refine h2 t y ?_;rw [List.getElem?_append] at hy;split at hy
   ·exact hy
   ·rename_i hnl
    have:t-l.length≠0:=by omega
    rw [List.getElem?_eq_none (by simp;omega)] at hy;cases hy
theorem NumB.sl {W:World} {h n:Nat} {l:List Int} (hb:NumB W h n l) (hl:l.length=n):Sl V3 1 W W.heap.size (some ⟨h,0,none⟩) n n l:=by
 obtain ⟨cs,h1,_,_,h4⟩:=hb;refine ⟨Le _,hl,by rw [Vm (k:=1) (fun _=>rfl),hl],fun _=>⟨h,0,rfl,h1.lt,fun j u hu=>?_⟩⟩;rw [Nat.zero_add,h1.cell]
 have hj:j<l.length:=by
  have:=(List.getElem?_eq_some_iff.1 hu).1
  rwa [Vm (k:=1) (fun _=>rfl),Nat.mul_one] at this
 have hg:=Xx (f:=V3) (k:=1) (fun _=>rfl) l j l[j] (List.getElem?_eq_getElem hj) 0 (by decide);rw [Nat.mul_one,Nat.add_zero] at hg;rw [hg] at hu;have hu':u = .int .i64 l[j]:=by injection hu with hu;exact hu.symm
 rw [hu'];exact h4 j _ (List.getElem?_eq_getElem hj)
theorem DrI.stepH {c r g h:Nat} {w W W2:World} {cs:Array Value} {l l2:ByteArray} {er er2:Int} (k:DrI c r g w W cs l er) (h1:Rdr W2 r l2 er2) (h3:Far [r,h] W W2) (hg:h≠g) (hc:h≠c) (hn:w.heap.size≤h) (hl:l2.size≤l.size):DrI c r g w W2 cs l2 er2:=
 ⟨Blk.far' k.cr h3 (by simp only [List.mem_cons,List.not_mem_nil,or_false,not_or];exact ⟨k.n2,hc.symm⟩),h1,k.bg.far' h3 (by simp only [List.mem_cons,List.not_mem_nil,or_false,not_or];exact ⟨k.n1.symm,hg.symm⟩),k.fa.next h3 (by intro i hi;simp only [List.mem_cons,List.not_mem_nil,or_false] at hi;rcases hi with rfl|rfl;exact .inl (by simp);exact .inr hn),k.n1,k.n2,k.n3,Lx hl k.sz⟩
theorem DrI.store {c r g:Nat} {w W:World} {cs:Array Value} {l:ByteArray} {er:Int} (k:DrI c r g w W cs l er) (i:Nat) (v:Value):DrI c r g w (W.setCell ⟨g,i,none⟩ v) (cs.setIfInBounds i v) l er:=
 k.step (Blk.far k.rd k.n1 v) (k.bg.set i v) ((Far.refl _ _).set _ _ _ (.inl (by simp))) (Le _)
theorem make_ints (n:Nat) (hn:n≤1000) (W:World):(Instr.makeSlice 69 (.int .i64 n) (.int .i64 n)).run prog W = .ok (.slice (some ⟨W.heap.size,0,none⟩) n n) (W.alloc (.cells (madeCells #[.int .i64 0] n) 3)):=by
 obtain ⟨i0,hi0,hz0,hz1,hz2⟩:=info_parts infoI64;have hmk:=run_make (P:=prog) (w:=W) 69 3 i0 _ Tryz.underlying69 hi0 hz0 .i64 .i64 (n:Int) (n:Int) (by omega) (Int.le_refl _) (by rw [hz2];omega) (by omega);rw [hz1] at hmk;simp only [Int.toNat_natCast,Nat.mul_one] at hmk;exact hmk
theorem numB_new (W:World) (n:Nat):NumB (W.alloc (.cells (madeCells #[.int .i64 0] n) 3)) W.heap.size n []:=
 ⟨_,Blk.new W _ _,by simp [madeCells],fun t ht=>⟨0,made_int n t ht⟩,fun t x h=>by simp at h⟩
structure EWn (n:Nat) (w:World) (e:En) (a:EnA):Prop where
 sa:Sl V3 1 w w.heap.size a.aA e.alts.length a.aC e.alts
 sg:Sl grC 3 w w.heap.size a.gA e.grants.length a.gC e.grants
 na:∀ p,a.aA=some p→0<e.alts.length→n≤p.block
 ng:∀ p,a.gA=some p→0<e.grants.length→n≤p.block
theorem EWn.ew {n:Nat} {S:List Nat} {w:World} {e:En} {a:EnA} (h:EWn n w e a) (hS:∀ k∈S,k<n):EW S w e a:=
 ⟨h.sa,h.sg,fun p hp h0 hk=>by have:=h.na p hp h0;have:=hS _ hk;omega,fun p hp h0 hk=>by have:=h.ng p hp h0;have:=hS _ hk;omega⟩
def DrP (_c r g:Nat) (R:En×ByteArray×Int) (w:World) (x:Ending) (w':World):Prop:=x = .returned (.tuple #[])∧∃ a:EnA,Rdr w' r R.2.1 R.2.2∧Blk w' g 159 (enC R.1 a).toArray∧EWn w.heap.size w' R.1 a∧Far [r,g] w w'
theorem st_1 (e:En) (a:EnA) (v0 v1 v2 v3 v4 v5 v6 v7 v8 v9 v10 v11 v12 v13:Int):Y7 (enC e a).toArray [2,3,4,5,6,7,8,9,10,11,12,13,14,15] [v0,v1,v2,v3,v4,v5,v6,v7,v8,v9,v10,v11,v12,v13]=(enC { e with d:={ e.d with id:=v0,org:=v1,fmt:=v2,len:=v3,blk:=v4,kat:=v5,kln:=v6,itv:=v7,area:=v8,fi:=v9,fa:=v10,base:=v11,aat:=v12,aln:=v13 } } a).toArray:=by simp [Y7,enC]
theorem st_6 (e:En) (a:EnA) (v15 v16:Int):Y7 (enC e a).toArray [20,21] [v15,v16]=(enC { e with d:={ e.d with cre:=v15,exp:=v16 } } a).toArray:=by simp [Y7,enC]
theorem st_2 (e:En) (a:EnA) (x:Bool):(enC e a).toArray.setIfInBounds 16 (.bool x)=(enC { e with d:={ e.d with uniq:=x } } a).toArray:=by simp [enC]
theorem st_3 (e:En) (a:EnA) (x:Int):(enC e a).toArray.setIfInBounds 17 (.int .i64 x)=(enC { e with d:={ e.d with cls:=x } } a).toArray:=by simp [enC]
theorem st_4 (e:En) (a:EnA) (x:ByteArray):(enC e a).toArray.setIfInBounds 18 (.string x)=(enC { e with d:={ e.d with vol:=x } } a).toArray:=by simp [enC]
theorem st_5 (e:En) (a:EnA) (x:ByteArray):(enC e a).toArray.setIfInBounds 19 (.string x)=(enC { e with d:={ e.d with own:=x } } a).toArray:=by simp [enC]
theorem st_7 (e:En) (a:EnA) (x:Bool):(enC e a).toArray.setIfInBounds 22 (.bool x)=(enC { e with d:={ e.d with arch:=x } } a).toArray:=by simp [enC]
theorem st_8 (e:En) (a:EnA) (x:Int):(enC e a).toArray.setIfInBounds 24 (.int .i64 x)=(enC { e with used:=x } a).toArray:=by simp [enC]
theorem st_9 (e:En) (a:EnA) (h n:Nat) (al:List Int) (hl:al.length=n):(enC e a).toArray.setIfInBounds 23 (.slice (some ⟨h,0,none⟩) n n)=(enC { e with alts:=al } ⟨some ⟨h,0,none⟩,n,a.gA,a.gC⟩).toArray:=by subst hl;simp [enC]
theorem data_r (c r g:Nat) (k:Int) (nm left:ByteArray) (w:World) (hc:Cr w c r) (hr:Rdr w r left 0) (hg:Blk w g 159 (enC (enK k nm) enN).toArray) (hs:left.size≤1000000) (n1:r≠g) (n2:c≠r) (n3:c≠g):
  Calls prog 188 #[.pointer (some ⟨c,0,none⟩),.pointer (some ⟨g,0,none⟩)] w (DrP c r g (Kb k nm left) w):=by
 have HX0:Hid (DrI c r g w w (enC (⟨k,nm,⟨0,0,0,0,0,0,0,0,0,0,0,0,0,0,false,0,⟨#[]⟩,⟨#[]⟩,0,0,false⟩,[],0,0,0,false,⟨#[]⟩,⟨#[]⟩,0,0,[]⟩:En) enN).toArray left 0):=Hd ⟨hc,hr,hg,Far.refl _ _,n1,n2,n3,hs⟩;have HX0L:=Hd HX0.out.lt;clear hc hr hg hs;have q1:=Xh 14 left 0;have s1':=Yb 14 left 0;obtain ⟨p,hp⟩:∃ p,Uj 14 left 0=p:=⟨_,rfl⟩
 rw [hp] at q1 s1';obtain ⟨pl,l1,r1⟩:=p;obtain ⟨v0,v1,v2,v3,v4,v5,v6,v7,v8,v9,v10,v11,v12,v13,rfl⟩:=list14 q1;have z2:=E5 l1 r1;obtain ⟨p2,ht⟩:∃ p,Vu l1 r1=p:=⟨_,rfl⟩
 rw [ht] at z2;obtain ⟨b1,l2,r2⟩:=p2;have z3:=Xf l2 r2;obtain ⟨p3,hcl⟩:∃ p,Uu l2 r2=p:=⟨_,rfl⟩
 rw [hcl] at z3;obtain ⟨v14,l3,r3⟩:=p3;have z4:=(Yw l3 r3 200).2;obtain ⟨p4,hv⟩:∃ p,Uh l3 r3 200=p:=⟨_,rfl⟩
 rw [hv] at z4;obtain ⟨s1,l4,r4⟩:=p4;have z5:=(Yw l4 r4 200).2;obtain ⟨p5,ho⟩:∃ p,Uh l4 r4 200=p:=⟨_,rfl⟩
 rw [ho] at z5;obtain ⟨s2,l5,r5⟩:=p5;have q6:=Xh 2 l5 r5;have z6:=Yb 2 l5 r5;obtain ⟨p6,hq⟩:∃ p,Uj 2 l5 r5=p:=⟨_,rfl⟩
 rw [hq] at z6;obtain ⟨ql,l6,r6⟩:=p6;rw [hq] at q6;obtain ⟨v15,v16,rfl⟩:=list2 q6;have z7:=E5 l6 r6;obtain ⟨p7,hb⟩:∃ p,Vu l6 r6=p:=⟨_,rfl⟩
 rw [hb] at z7;obtain ⟨b2,l7,r7⟩:=p7;have nn:=V6 l7 r7;have z8:=Xf l7 r7;obtain ⟨p8,hn⟩:∃ p,Uu l7 r7=p:=⟨_,rfl⟩
 rw [hn] at z8;obtain ⟨v17,l8,r8⟩:=p8;rw [hn] at nn;obtain ⟨n,hcn⟩:∃ n:Nat,Zl v17 4=n:=⟨(Zl v17 4).toNat,by unfold Zl;simp only at nn;split<;>omega⟩
 have hn5:n≤5:=by have:Zl v17 4≤5:=(by unfold Zl;split<;>omega);omega
 have q9:=Xh n l8 r8;have z9:=Yb n l8 r8;obtain ⟨p9,hal⟩:∃ p,Uj n l8 r8=p:=⟨_,rfl⟩
 rw [hal] at z9;obtain ⟨al,l9,r9⟩:=p9;rw [hal] at q9;have z10:=Xf l9 r9;obtain ⟨p10,hu⟩:∃ p,Uu l9 r9=p:=⟨_,rfl⟩
 rw [hu] at z10;obtain ⟨v18,l10,r10⟩:=p10
 have hR:Kb k nm left=((⟨k,nm,⟨v0,v1,v2,v3,v4,v5,v6,v7,v8,v9,v10,v11,v12,v13,b1,v14,s1,s2,v15,v16,b2⟩,al,v18,0,0,false,⟨#[]⟩,⟨#[]⟩,0,0,[]⟩:En),l10,r10):=by
  have hct:(Zl v17 4).toNat=n:=by rw [hcn];rfl
  unfold Kb;simp only [hp,ht,hcl,hv,ho,hq,hb,hn,hct,hal,hu];rfl
 rw [hR];have HL:=Hd q9;have HZ:=Hd (And.intro s1' (And.intro z2 (And.intro z3 (And.intro z4 (And.intro z5 (And.intro z6 (And.intro z7 (And.intro z8 (And.intro z9 z10)))))))));have HE:=Hd (And.intro hp (And.intro ht (And.intro hcl (And.intro hv (And.intro ho (And.intro hq (And.intro hb (And.intro hn (And.intro hal hu)))))))));have HCN:=Hd hcn;clear hR q1 s1' z2 z3 z4 z5 z6 z7 z8 z9 z10 q6 q9 hp ht hcl hv ho hq hb hn hal hu nn hcn
 have HX1:Hid (DrI c r g w (w.alloc (.cells #[.pointer (some ⟨g,2,none⟩),.pointer (some ⟨g,3,none⟩),.pointer (some ⟨g,4,none⟩),.pointer (some ⟨g,5,none⟩),.pointer (some ⟨g,6,none⟩),.pointer (some ⟨g,7,none⟩),.pointer (some ⟨g,8,none⟩),.pointer (some ⟨g,9,none⟩),.pointer (some ⟨g,10,none⟩),.pointer (some ⟨g,11,none⟩),.pointer (some ⟨g,12,none⟩),.pointer (some ⟨g,13,none⟩),.pointer (some ⟨g,14,none⟩),.pointer (some ⟨g,15,none⟩)] 179)).drew (enC (⟨k,nm,⟨0,0,0,0,0,0,0,0,0,0,0,0,0,0,false,0,⟨#[]⟩,⟨#[]⟩,0,0,false⟩,[],0,0,0,false,⟨#[]⟩,⟨#[]⟩,0,0,[]⟩:En) enN).toArray left 0):=Hd (HX0.out.alloc _).drew;have hne1:w.heap.size≠r:=by have:=HX0L.out.2.1;omega
 have hne2:w.heap.size≠g:=by have:=HX0L.out.2.2;omega
 have HPT:Hid (Blk (w.alloc (.cells #[.pointer (some ⟨g,2,none⟩),.pointer (some ⟨g,3,none⟩),.pointer (some ⟨g,4,none⟩),.pointer (some ⟨g,5,none⟩),.pointer (some ⟨g,6,none⟩),.pointer (some ⟨g,7,none⟩),.pointer (some ⟨g,8,none⟩),.pointer (some ⟨g,9,none⟩),.pointer (some ⟨g,10,none⟩),.pointer (some ⟨g,11,none⟩),.pointer (some ⟨g,12,none⟩),.pointer (some ⟨g,13,none⟩),.pointer (some ⟨g,14,none⟩),.pointer (some ⟨g,15,none⟩)] 179)).drew w.heap.size 179 (ptrs g [2,3,4,5,6,7,8,9,10,11,12,13,14,15])):=Hd (Blk.new w _ _).drew
 have HCN1:Hid (Calls prog 192 #[.pointer (some ⟨c,0,none⟩),.slice (some ⟨w.heap.size,0,none⟩) 14 14] ((w.alloc (.cells #[.pointer (some ⟨g,2,none⟩),.pointer (some ⟨g,3,none⟩),.pointer (some ⟨g,4,none⟩),.pointer (some ⟨g,5,none⟩),.pointer (some ⟨g,6,none⟩),.pointer (some ⟨g,7,none⟩),.pointer (some ⟨g,8,none⟩),.pointer (some ⟨g,9,none⟩),.pointer (some ⟨g,10,none⟩),.pointer (some ⟨g,11,none⟩),.pointer (some ⟨g,12,none⟩),.pointer (some ⟨g,13,none⟩),.pointer (some ⟨g,14,none⟩),.pointer (some ⟨g,15,none⟩)] 179)).drew) fun x w'=>x = .returned (.tuple #[])∧Rdr w' r l1 r1∧Blk w' g 159 (enC (⟨k,nm,⟨v0,v1,v2,v3,v4,v5,v6,v7,v8,v9,v10,v11,v12,v13,false,0,⟨#[]⟩,⟨#[]⟩,0,0,false⟩,[],0,0,0,false,⟨#[]⟩,⟨#[]⟩,0,0,[]⟩:En) enN).toArray∧Far [r,g] ((w.alloc (.cells #[.pointer (some ⟨g,2,none⟩),.pointer (some ⟨g,3,none⟩),.pointer (some ⟨g,4,none⟩),.pointer (some ⟨g,5,none⟩),.pointer (some ⟨g,6,none⟩),.pointer (some ⟨g,7,none⟩),.pointer (some ⟨g,8,none⟩),.pointer (some ⟨g,9,none⟩),.pointer (some ⟨g,10,none⟩),.pointer (some ⟨g,11,none⟩),.pointer (some ⟨g,12,none⟩),.pointer (some ⟨g,13,none⟩),.pointer (some ⟨g,14,none⟩),.pointer (some ⟨g,15,none⟩)] 179)).drew) w'):=Hd (by have h:=cnums_r c r g w.heap.size 14 14 159 [2,3,4,5,6,7,8,9,10,11,12,13,14,15] (enC (⟨k,nm,⟨0,0,0,0,0,0,0,0,0,0,0,0,0,0,false,0,⟨#[]⟩,⟨#[]⟩,0,0,false⟩,[],0,0,0,false,⟨#[]⟩,⟨#[]⟩,0,0,[]⟩:En) enN).toArray left 0 _ HX1.out.left HX1.out.cr HX1.out.rd HX1.out.bg (by decide) rfl (Yx HPT.out) (nums_ok (by rfl)) n1 hne1 hne2 n2 n3;rw [HE.out.1] at h;rw [st_1] at h;exact h)
 clear hne1 hne2;go_enter Tryz.func188,Tryz.ntmps188;go_wp2_with fail;refine Rw (S:=fun _=>True) (by kernel_rfl) trivial (fun Hh=>?_);refine tk 0 (.pointer (some ⟨c,0,none⟩)) Hh ?_;refine tk 1 (.pointer (some ⟨g,2,none⟩)) Hh ?_;refine tk 2 (.pointer (some ⟨g,2,none⟩)) Hh ?_;refine tk 3 (.pointer (some ⟨g,2,none⟩)) Hh ?_;refine tk 4 (.pointer (some ⟨g,2,none⟩)) Hh ?_;refine tk 5 (.pointer (some ⟨g,2,none⟩)) Hh ?_;refine tk 6 (.pointer (some ⟨g,3,none⟩)) Hh ?_;refine tk 7 (.pointer (some ⟨g,2,none⟩)) Hh ?_;refine tk 8 (.pointer (some ⟨g,2,none⟩)) Hh ?_;refine tk 9 (.pointer (some ⟨g,4,none⟩)) Hh ?_;refine tk 10 (.pointer (some ⟨g,2,none⟩)) Hh ?_;refine tk 11 (.pointer (some ⟨g,2,none⟩)) Hh ?_;refine tk 12 (.pointer (some ⟨g,5,none⟩)) Hh ?_;refine tk 13 (.pointer (some ⟨g,2,none⟩)) Hh ?_
 refine tk 14 (.pointer (some ⟨g,2,none⟩)) Hh ?_;refine tk 15 (.pointer (some ⟨g,6,none⟩)) Hh ?_;refine tk 16 (.pointer (some ⟨g,2,none⟩)) Hh ?_;refine tk 17 (.pointer (some ⟨g,2,none⟩)) Hh ?_;refine tk 18 (.pointer (some ⟨g,7,none⟩)) Hh ?_;refine tk 19 (.pointer (some ⟨g,2,none⟩)) Hh ?_;refine tk 20 (.pointer (some ⟨g,2,none⟩)) Hh ?_;refine tk 21 (.pointer (some ⟨g,8,none⟩)) Hh ?_;refine tk 22 (.pointer (some ⟨g,2,none⟩)) Hh ?_;refine tk 23 (.pointer (some ⟨g,2,none⟩)) Hh ?_;refine tk 24 (.pointer (some ⟨g,9,none⟩)) Hh ?_;refine tk 25 (.pointer (some ⟨g,2,none⟩)) Hh ?_;refine tk 26 (.pointer (some ⟨g,2,none⟩)) Hh ?_;refine tk 27 (.pointer (some ⟨g,10,none⟩)) Hh ?_;refine tk 28 (.pointer (some ⟨g,2,none⟩)) Hh ?_;refine tk 29 (.pointer (some ⟨g,2,none⟩)) Hh ?_;refine tk 30 (.pointer (some ⟨g,11,none⟩)) Hh ?_
 refine tk 31 (.pointer (some ⟨g,2,none⟩)) Hh ?_;refine tk 32 (.pointer (some ⟨g,2,none⟩)) Hh ?_;refine tk 33 (.pointer (some ⟨g,12,none⟩)) Hh ?_;refine tk 34 (.pointer (some ⟨g,2,none⟩)) Hh ?_;refine tk 35 (.pointer (some ⟨g,2,none⟩)) Hh ?_;refine tk 36 (.pointer (some ⟨g,13,none⟩)) Hh ?_;refine tk 37 (.pointer (some ⟨g,2,none⟩)) Hh ?_;refine tk 38 (.pointer (some ⟨g,2,none⟩)) Hh ?_;refine tk 39 (.pointer (some ⟨g,14,none⟩)) Hh ?_;refine tk 40 (.pointer (some ⟨g,2,none⟩)) Hh ?_;refine tk 41 (.pointer (some ⟨g,2,none⟩)) Hh ?_;refine tk 42 (.pointer (some ⟨g,15,none⟩)) Hh ?_;refine Ar (rs:=[43]) (by kernel_rfl) (by simp) ?_;refine Rc (fun K hK=>?_) ?_
 ·go_simp
  refine hK.out _ _ trivial (fun Hh=>?_);clear hK K;try simp only [Act.put,Sv,Sz,Sw]
  refine Ar (rs:=[44]) (by kernel_rfl) (by simp) ?_;refine Rc (fun K hK=>?_) ?_
  ·go_simp
   refine HCN1.out.mono ?_;rintro x w1 ⟨rfl,h1,h2,h3⟩;simp only [];have HX:=Hd (HX1.out.step h1 h2 h3 HZ.out.1);clear h1 h2 h3;refine hK.out _ _ trivial (fun Hh=>?_);clear hK K;try simp only [Act.put,Sv,Sz,Sw]
   refine Ad (by kernel_rfl) ?_ _;clear Hh HX1 HPT HCN1
   go_wp2_with (first|(go_at_call 193;(with_reducible show Calls _ _ #[_,.pointer (some ⟨_,16,none⟩)] _ _);refine (Ic c r g 16 159 _ false l1 r1 _ HX.out.left HX.out.cr HX.out.rd HX.out.bg rfl HX.out.n1).mono ?_;rintro x w2 ⟨rfl,h1,h2,h3⟩;rw [HE.out.2.1] at h1 h2;rw [st_2] at h2;have HX:Hid (DrI c r g w w2 (enC (⟨k,nm,⟨v0,v1,v2,v3,v4,v5,v6,v7,v8,v9,v10,v11,v12,v13,b1,0,⟨#[]⟩,⟨#[]⟩,0,0,false⟩,[],0,0,0,false,⟨#[]⟩,⟨#[]⟩,0,0,[]⟩:En) enN).toArray l2 r2):=Hd (HX.out.step h1 h2 h3 HZ.out.2.1);clear h1 h2 h3)|(go_at_call 205;(with_reducible show Calls _ _ #[_,.pointer (some ⟨_,17,none⟩)] _ _);refine (Zk c r g 17 159 _ 0 l2 r2 _ HX.out.left HX.out.cr HX.out.rd HX.out.bg rfl HX.out.n1).mono ?_;rintro x w2 ⟨rfl,h1,h2,h3⟩;rw [HE.out.2.2.1] at h1 h2;rw [st_3] at h2;have HX:Hid (DrI c r g w w2 (enC (⟨k,nm,⟨v0,v1,v2,v3,v4,v5,v6,v7,v8,v9,v10,v11,v12,v13,b1,v14,⟨#[]⟩,⟨#[]⟩,0,0,false⟩,[],0,0,0,false,⟨#[]⟩,⟨#[]⟩,0,0,[]⟩:En) enN).toArray l3 r3):=Hd (HX.out.step h1 h2 h3 HZ.out.2.2.1);clear h1 h2 h3)|(go_at_call 194;(with_reducible show Calls _ _ #[_,.pointer (some ⟨_,18,none⟩)] _ _);refine (Ed c r g 18 159 _ ⟨#[]⟩ l3 r3 _ HX.out.left HX.out.cr HX.out.rd HX.out.bg rfl HX.out.n1).mono ?_;rintro x w2 ⟨rfl,h1,h2,h3⟩;rw [HE.out.2.2.2.1] at h1 h2;rw [st_4] at h2;have HX:Hid (DrI c r g w w2 (enC (⟨k,nm,⟨v0,v1,v2,v3,v4,v5,v6,v7,v8,v9,v10,v11,v12,v13,b1,v14,s1,⟨#[]⟩,0,0,false⟩,[],0,0,0,false,⟨#[]⟩,⟨#[]⟩,0,0,[]⟩:En) enN).toArray l4 r4):=Hd (HX.out.step h1 h2 h3 HZ.out.2.2.2.1);clear h1 h2 h3)|(go_at_call 194;(with_reducible show Calls _ _ #[_,.pointer (some ⟨_,19,none⟩)] _ _);refine (Ed c r g 19 159 _ ⟨#[]⟩ l4 r4 _ HX.out.left HX.out.cr HX.out.rd HX.out.bg rfl HX.out.n1).mono ?_;rintro x w2 ⟨rfl,h1,h2,h3⟩;rw [HE.out.2.2.2.2.1] at h1 h2;rw [st_5] at h2;have HX:Hid (DrI c r g w w2 (enC (⟨k,nm,⟨v0,v1,v2,v3,v4,v5,v6,v7,v8,v9,v10,v11,v12,v13,b1,v14,s1,s2,0,0,false⟩,[],0,0,0,false,⟨#[]⟩,⟨#[]⟩,0,0,[]⟩:En) enN).toArray l5 r5):=Hd (HX.out.step h1 h2 h3 HZ.out.2.2.2.2.1);clear h1 h2 h3))
   have HX6:Hid (DrI c r g w (w2.drew.alloc (.cells #[.pointer (some ⟨g,20,none⟩),.pointer (some ⟨g,21,none⟩)] 179)) (enC (⟨k,nm,⟨v0,v1,v2,v3,v4,v5,v6,v7,v8,v9,v10,v11,v12,v13,b1,v14,s1,s2,0,0,false⟩,[],0,0,0,false,⟨#[]⟩,⟨#[]⟩,0,0,[]⟩:En) enN).toArray l5 r5):=Hd (HX.out.drew.alloc _);have HLT5:=Hd HX.out.lt;have hne1:w2.heap.size≠r:=by have:=HLT5.out.2.1;omega
   have hne2:w2.heap.size≠g:=by have:=HLT5.out.2.2;omega
   have HPT6:Hid (Blk (w2.drew.alloc (.cells #[.pointer (some ⟨g,20,none⟩),.pointer (some ⟨g,21,none⟩)] 179)) w2.heap.size 179 (ptrs g [20,21])):=Hd (Blk.new w2.drew _ _)
   have HCN6:Hid (Calls prog 192 #[.pointer (some ⟨c,0,none⟩),.slice (some ⟨w2.heap.size,0,none⟩) 2 2] (w2.drew.alloc (.cells #[.pointer (some ⟨g,20,none⟩),.pointer (some ⟨g,21,none⟩)] 179)) fun x w'=>x = .returned (.tuple #[])∧Rdr w' r l6 r6∧Blk w' g 159 (enC (⟨k,nm,⟨v0,v1,v2,v3,v4,v5,v6,v7,v8,v9,v10,v11,v12,v13,b1,v14,s1,s2,v15,v16,false⟩,[],0,0,0,false,⟨#[]⟩,⟨#[]⟩,0,0,[]⟩:En) enN).toArray∧Far [r,g] (w2.drew.alloc (.cells #[.pointer (some ⟨g,20,none⟩),.pointer (some ⟨g,21,none⟩)] 179)) w'):=Hd (by have h:=cnums_r c r g w2.heap.size 2 2 159 [20,21] (enC (⟨k,nm,⟨v0,v1,v2,v3,v4,v5,v6,v7,v8,v9,v10,v11,v12,v13,b1,v14,s1,s2,0,0,false⟩,[],0,0,0,false,⟨#[]⟩,⟨#[]⟩,0,0,[]⟩:En) enN).toArray l5 r5 _ HX6.out.left HX6.out.cr HX6.out.rd HX6.out.bg (by decide) rfl (Yx HPT6.out) (nums_ok (by rfl)) n1 hne1 hne2 n2 n3;rw [HE.out.2.2.2.2.2.1] at h;rw [st_6] at h;exact h);clear hne1 hne2
   refine Rw (S:=fun _=>True) (by kernel_rfl) trivial (fun Hh=>?_);refine tk 0 (.pointer (some ⟨c,0,none⟩)) Hh ?_;refine tk 1 (.pointer (some ⟨g,2,none⟩)) Hh ?_;refine tk 2 (.pointer (some ⟨g,2,none⟩)) Hh ?_;refine tk 3 (.pointer (some ⟨g,20,none⟩)) Hh ?_;refine tk 4 (.pointer (some ⟨g,2,none⟩)) Hh ?_;refine tk 5 (.pointer (some ⟨g,2,none⟩)) Hh ?_;refine tk 6 (.pointer (some ⟨g,21,none⟩)) Hh ?_;refine Ar (rs:=[7]) (by kernel_rfl) (by simp) ?_;refine Rc (fun K hK=>?_) ?_
   ·go_simp
    refine hK.out _ _ trivial (fun Hh=>?_);clear hK K;try simp only [Act.put,Sv,Sz,Sw]
    refine Ar (rs:=[8]) (by kernel_rfl) (by simp) ?_;refine Rc (fun K hK=>?_) ?_
    ·go_simp
     refine HCN6.out.mono ?_;rintro x w1 ⟨rfl,h1,h2,h3⟩;simp only [];have HX:=Hd (HX6.out.step h1 h2 h3 HZ.out.2.2.2.2.2.1);clear h1 h2 h3;refine hK.out _ _ trivial (fun Hh=>?_);clear hK K;try simp only [Act.put,Sv,Sz,Sw]
     refine Ad (by kernel_rfl) ?_ _;clear Hh HX6 HPT6 HCN6;by_cases h0:n=0
     ·subst h0
      have hal0:=HE.out.2.2.2.2.2.2.2.2.1;obtain ⟨rfl,rfl,rfl⟩ : []=al∧l8=l9∧r8=r9:=by unfold Uj at hal0;injection hal0 with h1 h2;injection h2 with h2 h3;exact ⟨h1,h2,h3⟩
      clear hal0
      go_wp2_with (first|(go_at_call 193;(with_reducible show Calls _ _ #[_,.pointer (some ⟨_,22,none⟩)] _ _);refine (Ic c r g 22 159 _ false l6 r6 _ HX.out.left HX.out.cr HX.out.rd HX.out.bg rfl HX.out.n1).mono ?_;rintro x w2 ⟨rfl,h1,h2,h3⟩;rw [HE.out.2.2.2.2.2.2.1] at h1 h2;rw [st_7] at h2;have HX:Hid (DrI c r g w w2 (enC (⟨k,nm,⟨v0,v1,v2,v3,v4,v5,v6,v7,v8,v9,v10,v11,v12,v13,b1,v14,s1,s2,v15,v16,b2⟩,[],0,0,0,false,⟨#[]⟩,⟨#[]⟩,0,0,[]⟩:En) enN).toArray l7 r7):=Hd (HX.out.step h1 h2 h3 HZ.out.2.2.2.2.2.2.1);clear h1 h2 h3;have c23:=(HX.out.bg.cell 23).trans (show _=some (Value.slice none 0 0) from rfl))|(go_at_call 248;refine (Kg c r 0 4 l7 r7 _ HX.out.left HX.out.cr HX.out.rd (by decide) (by decide)).mono ?_;rintro x w2 ⟨rfl,h1⟩;rw [HE.out.2.2.2.2.2.2.2.1] at h1 ⊢;simp only at h1 ⊢;rw [HCN.out];have HX:=Hd (HX.out.rr h1 HZ.out.2.2.2.2.2.2.2.1);have c1:=HX.out.cr.c1;clear c23;have c23:=(HX.out.bg.cell 23).trans (show _=some (Value.slice none 0 0) from rfl);clear h1))
      refine Lu 1 ?_;rw [Rs];go_wp2_with (go_at_call 205;refine (Zk c r g 24 159 _ 0 l8 r8 _ HX.out.left HX.out.cr HX.out.rd HX.out.bg rfl HX.out.n1).mono ?_;rintro x w2 ⟨rfl,h1,h2,h3⟩;rw [HE.out.2.2.2.2.2.2.2.2.2] at h1 h2;rw [st_8] at h2;have HX:Hid (DrI c r g w w2 (enC (⟨k,nm,⟨v0,v1,v2,v3,v4,v5,v6,v7,v8,v9,v10,v11,v12,v13,b1,v14,s1,s2,v15,v16,b2⟩,[],v18,0,0,false,⟨#[]⟩,⟨#[]⟩,0,0,[]⟩:En) enN).toArray l10 r10):=Hd (HX.out.step h1 h2 h3 HZ.out.2.2.2.2.2.2.2.2.2);clear h1 h2 h3)
      go_end0
      exact ⟨rfl,enN,HX.out.rd,HX.out.bg,⟨Sl.nil,Sl.nil,fun p hp _=>(by cases hp),fun p hp _=>(by cases hp)⟩,HX.out.fa⟩
     ·have hmk0:=Hd (make_ints n (by omega))
      have hpos:decide ((0:Int)<(n:Int))=true:=decide_eq_true (by omega)
      go_wp2_with (first|(go_at_call 193;(with_reducible show Calls _ _ #[_,.pointer (some ⟨_,22,none⟩)] _ _);refine (Ic c r g 22 159 _ false l6 r6 _ HX.out.left HX.out.cr HX.out.rd HX.out.bg rfl HX.out.n1).mono ?_;rintro x w2 ⟨rfl,h1,h2,h3⟩;rw [HE.out.2.2.2.2.2.2.1] at h1 h2;rw [st_7] at h2;have HX:Hid (DrI c r g w w2 (enC (⟨k,nm,⟨v0,v1,v2,v3,v4,v5,v6,v7,v8,v9,v10,v11,v12,v13,b1,v14,s1,s2,v15,v16,b2⟩,[],0,0,0,false,⟨#[]⟩,⟨#[]⟩,0,0,[]⟩:En) enN).toArray l7 r7):=Hd (HX.out.step h1 h2 h3 HZ.out.2.2.2.2.2.2.1);clear h1 h2 h3;have c23:=(HX.out.bg.cell 23).trans (show _=some (Value.slice none 0 0) from rfl))|(go_at_call 248;refine (Kg c r 0 4 l7 r7 _ HX.out.left HX.out.cr HX.out.rd (by decide) (by decide)).mono ?_;rintro x w2 ⟨rfl,h1⟩;rw [HE.out.2.2.2.2.2.2.2.1] at h1 ⊢;simp only at h1 ⊢;rw [HCN.out];have HX:=Hd (HX.out.rr h1 HZ.out.2.2.2.2.2.2.2.1);have c1:=HX.out.cr.c1;clear c23;have c23:=(HX.out.bg.cell 23).trans (show _=some (Value.slice none 0 0) from rfl);clear h1;have hmk:=hmk0.out w2;have HXm:=Hd (HX.out.alloc (.cells (madeCells #[.int .i64 0] n) 3));have d23:=(HXm.out.bg.cell 23).trans (show _=some (Value.slice none 0 0) from rfl);have f23:=HXm.out.bg.free 23;have HX3:=Hd (HXm.out.store 23 (.slice (some ⟨w2.heap.size,0,none⟩) n n));have e23:=(HX3.out.bg.cell 23).trans (show _=some (Value.slice (some ⟨w2.heap.size,0,none⟩) n n) from rfl)))
      have hxq:=HX3.out;rw [st_9 _ _ _ n al HL.out] at hxq;have HX4:Hid (DrI c r g w ((w2.alloc (.cells (madeCells #[.int .i64 0] n) 3)).setCell ⟨g,23,none⟩ (.slice (some ⟨w2.heap.size,0,none⟩) n n)) (enC (⟨k,nm,⟨v0,v1,v2,v3,v4,v5,v6,v7,v8,v9,v10,v11,v12,v13,b1,v14,s1,s2,v15,v16,b2⟩,al,0,0,0,false,⟨#[]⟩,⟨#[]⟩,0,0,[]⟩:En) ⟨some ⟨w2.heap.size,0,none⟩,n,none,0⟩).toArray l8 r8):=Hd hxq;have hg2:w2.heap.size≠g:=by have:=HX.out.lt.2.2;omega
      have hr2:r≠w2.heap.size:=by have:=HX.out.lt.2.1;omega
      have hc2:w2.heap.size≠c:=by have:=HX.out.lt.1;omega
      have hn2:w.heap.size≤w2.heap.size:=HX.out.fa.size;have HNB:Hid (NumB ((w2.alloc (.cells (madeCells #[.int .i64 0] n) 3)).setCell ⟨g,23,none⟩ (.slice (some ⟨w2.heap.size,0,none⟩) n n)) w2.heap.size n []):=Hd (by obtain ⟨cs,h1,h2,h3,h4⟩:=numB_new w2 n;exact ⟨cs,h1.far hg2 _,h2,h3,h4⟩);clear hxq c1 c23 d23 f23 e23 hmk hmk0;clear HX3 HXm HX;obtain ⟨hb,hhb⟩:∃ hb,w2.heap.size=hb:=⟨_,rfl⟩
      simp only [hhb] at hg2 hr2 hc2 hn2 HNB HX4 ⊢;simp only [show decide (0<n)=true from decide_eq_true (by omega)];clear hpos;have HHB:=Hd hhb;clear hhb;go_loopw [115] (fun i wr => ∃ j:Nat,j≤n∧i = .int .i64 j∧DrI c r g w wr (enC (⟨k,nm,⟨v0,v1,v2,v3,v4,v5,v6,v7,v8,v9,v10,v11,v12,v13,b1,v14,s1,s2,v15,v16,b2⟩,al,0,0,0,false,⟨#[]⟩,⟨#[]⟩,0,0,[]⟩:En) ⟨some ⟨hb,0,none⟩,n,none,0⟩).toArray (Uj j l8 r8).2.1 (Uj j l8 r8).2.2∧NumB wr hb n (Uj j l8 r8).1) (fun i _=>n-(intOf i).toNat)
      case atStart=>exact ⟨0,Z0 _,rfl,HX4.out,HNB.out⟩
      case round=>
       obtain ⟨j,hj,rfl,hx,hnb⟩:=hrel;have HX:=Hd hx;clear hx HX4 HNB;by_cases hlt:j<n
       ·obtain ⟨cs,b1',b2',b3',b4'⟩:=hnb
        obtain ⟨m,hm⟩:=b3' j hlt;have hlj:(Uj j l8 r8).1.length=j:=Xh j l8 r8;have HCX:=Hd (Zk c r hb j 3 cs m (Uj j l8 r8).2.1 (Uj j l8 r8).2.2 wr HX.out.left HX.out.cr HX.out.rd b1' hm hr2);have HSN:=Hd (E7 j l8 r8);have HNS:Hid (∀ (W2:World) (x:Int),Blk W2 hb 3 (cs.setIfInBounds j (.int .i64 x))→NumB W2 hb n ((Uj j l8 r8).1++[x])):=Hd fun W2 x h=>NumB.snoc b2' b3' b4' (by rw [hlj];exact hlt) (by rw [hlj];exact h)
        have c23:=(HX.out.bg.cell 23).trans (show _=some (Value.slice (some ⟨hb,0,none⟩) al.length n) from rfl);rw [HL.out] at c23;have hzz:=Xf (Uj j l8 r8).2.1 (Uj j l8 r8).2.2;have HZZ:=Hd hzz;clear b1' b2' b3' b4' hm hlj hzz;go_wp2_with (go_at_call 205;refine HCX.out.mono ?_;rintro x w5 ⟨rfl,h1,h2,h3⟩;have HX5:=Hd (HX.out.stepH h1 h3 hg2 hc2 hn2 HZZ.out);have HN5:=Hd (HNS.out _ _ h2);clear h1 h2 h3);go_roundw
        case rel=>exact ⟨j+1,by omega,by go_num,by rw [HSN.out];exact HX5.out,by rw [HSN.out];exact HN5.out⟩
        case measure=>simp [intOf];omega
       ·obtain rfl:j=n:=by omega
        have HSL:=Hd (hnb.sl (Xh j l8 r8));clear hnb;rw [HE.out.2.2.2.2.2.2.2.2.1] at HSL HX;have c23:=(HX.out.bg.cell 23).trans (show _=some (Value.slice (some ⟨hb,0,none⟩) al.length j) from rfl);rw [HL.out] at c23;go_wp2_with (go_at_call 205;refine (Zk c r g 24 159 _ 0 l9 r9 _ HX.out.left HX.out.cr HX.out.rd HX.out.bg rfl HX.out.n1).mono ?_;rintro x w5 ⟨rfl,h1,h2,h3⟩;rw [HE.out.2.2.2.2.2.2.2.2.2] at h1 h2;rw [st_8] at h2;have HF5:=Hd h3;have HX5:Hid (DrI c r g w w5 (enC (⟨k,nm,⟨v0,v1,v2,v3,v4,v5,v6,v7,v8,v9,v10,v11,v12,v13,b1,v14,s1,s2,v15,v16,b2⟩,al,v18,0,0,false,⟨#[]⟩,⟨#[]⟩,0,0,[]⟩:En) ⟨some ⟨hb,0,none⟩,j,none,0⟩).toArray l10 r10):=Hd (HX.out.step h1 h2 h3 HZ.out.2.2.2.2.2.2.2.2.2);clear h1 h2 h3)
        go_end0
        refine ⟨rfl,⟨some ⟨hb,0,none⟩,j,none,0⟩,HX5.out.rd,HX5.out.bg,⟨?_,Sl.nil,fun p hp _=>?_,fun p hp _=>(by cases hp)⟩,HX5.out.fa⟩
        ·show Sl V3 1 w5 w5.heap.size (some ⟨hb,0,none⟩) al.length j al
         rw [HL.out];exact HSL.out.off HF5.out (fun p hp _=>by injection hp with hp;subst hp;simp only [List.mem_cons,List.not_mem_nil,or_false,not_or];exact ⟨hr2.symm,hg2⟩)
        ·injection hp with hp
         subst hp;exact hn2
    exact An
   exact An
  exact An
 exact An
end
section
set_option maxRecDepth 100000
set_option maxHeartbeats 1000000
open Go.RowKit
theorem eq_at {α:Type} {l m:List α} (hl:l.length=m.length) (h:∀ (t:Nat) (x y:α),l[t]? =some x→m[t]? =some y→x=y):l=m:=by
 refine List.ext_getElem? fun t=>?_
 by_cases ht:t<l.length
 ·rw [List.getElem?_eq_getElem ht,List.getElem?_eq_getElem (hl▸ht)]
  rw [h t _ _ (List.getElem?_eq_getElem ht) (List.getElem?_eq_getElem (hl▸ht))]
 ·rw [List.getElem?_eq_none (by omega),List.getElem?_eq_none (by omega)]
theorem eqInts_any (A B:Option Addr) (n m ca cb:Nat) (l1 l2:List Int) (w:World) (h1:Sl V3 1 w w.heap.size A n ca l1) (h2:Sl V3 1 w w.heap.size B m cb l2) (hn:n≤1000000) (hm:m≤1000000):
  Calls prog 217 #[.slice A n ca,.slice B m cb] w fun e w'=>(∃ z:Bool,e = .returned (.bool z)∧(z=true↔l1=l2))∧Below w.heap.size w w':=by
 have HL1:=Hd h1.len;have HL2:=Hd h2.len;by_cases hnm:n=m
 ·subst hnm
  have H1:=Hd h1;have H2:=Hd h2;clear h1 h2 hm;go_enter Tryz.func217,Tryz.ntmps217;go_wp2;go_loopw [13] (fun i wr => ∃ j:Nat,j≤n∧i = .int .i64 j∧(∀ (t:Nat) x y,t<j→l1[t]? =some x→l2[t]? =some y→x=y)∧Below w.heap.size w wr) (fun i _=>n-(intOf i).toNat)
  case atStart=>exact ⟨0,Z0 _,rfl,fun t x y h=>absurd h (by omega),Bf _ _⟩
  case round=>
   obtain ⟨j,hj,rfl,hall,hbel⟩:=hrel;have HA:=Hd hall;have HB:=Hd hbel;clear hall hbel;by_cases hlt:j<n
   ·obtain ⟨b1,o1,x,rfl,hb1,hg1,hc1⟩:=Sl.cell (f:=V3) (k:=1) (fun _=>rfl) (H1.out.below HB.out) hlt
    obtain ⟨b2,o2,y,rfl,hb2,hg2,hc2⟩:=Sl.cell (f:=V3) (k:=1) (fun _=>rfl) (H2.out.below HB.out) hlt;have HG1:=Hd hg1;have HG2:=Hd hg2;clear hg1 hg2 hb1 hb2;have c1:=hc1 0 _ rfl;have c2:=hc2 0 _ rfl;simp only [Nat.add_zero,Nat.mul_one] at c1 c2;have HC:Hid ((wr.drew).cell? ⟨b1,o1+j,none⟩=some (.int .i64 x)∧(wr.drew).cell? ⟨b2,o2+j,none⟩=some (.int .i64 y)):=Hd ⟨c1,c2⟩;clear hc1 hc2 c1 c2;go_wp2_with fail;refine Rw (S:=fun w'=>w'.cell? ⟨b1,o1+j,none⟩=some (.int .i64 x)∧w'.cell? ⟨b2,o2+j,none⟩=some (.int .i64 y)) (by kernel_rfl) HC.out (fun Hh=>?_);refine tk 0 (.slice (some ⟨b1,o1,none⟩) n ca) Hh ?_;refine tk 1 (.int .i64 j) Hh ?_;refine tk 2 (.pointer (some ⟨b1,o1+j,none⟩)) Hh ?_;refine tk 3 (.int .i64 x) Hh ?_ (y:=by exact Or.inl ⟨by rfl,by intro w' hSw;have q1:=hSw.1;go_simp⟩);refine tk 4 (.slice (some ⟨b2,o2,none⟩) n cb) Hh ?_
    refine tk 5 (.int .i64 j) Hh ?_;refine tk 6 (.pointer (some ⟨b2,o2+j,none⟩)) Hh ?_;refine tk 7 (.int .i64 y) Hh ?_ (y:=by exact Or.inl ⟨by rfl,by intro w' hSw;have q1:=hSw.2;go_simp⟩);refine tk 8 (.bool (x != y)) Hh ?_;refine Ad (by kernel_rfl) ?_ _;clear Hh HC;obtain ⟨z,hz⟩:∃ z,(x != y)=z:=⟨_,rfl⟩
    rw [hz];have HZ:=Hd hz;clear hz;cases z with
    |true=>
     go_wp2;go_ret;exact ⟨⟨false,rfl,⟨fun h=>(by cases h),fun h=>by subst h;have h1:=HG1.out;rw [HG2.out] at h1;injection h1 with h1;subst h1;have h2:=HZ.out;simp at h2⟩⟩,HB.out.drew⟩
    |false=>
     have HXY:Hid (x=y):=Hd (by have h2:=HZ.out;simpa using h2);go_wp2;go_roundw
     case rel=>
      refine ⟨j+1,by omega,by go_num,fun t a b ht ha hb=>?_,HB.out.drew⟩;by_cases e:t=j
      ·subst e;rw [HG1.out] at ha;rw [HG2.out] at hb;injection ha with ha;injection hb with hb;rw [←ha,←hb];exact HXY.out
      ·exact HA.out t a b (by omega) ha hb
     case measure=>simp [intOf];omega
   ·obtain rfl:j=n:=by omega
    have HE:Hid (l1=l2):=Hd (eq_at (by rw [HL1.out,HL2.out]) fun t x y hx hy=>HA.out t x y (by have:=(List.getElem?_eq_some_iff.1 hx).1;rw [HL1.out] at this;exact this) hx hy);go_wp2;go_ret;exact ⟨⟨true,rfl,⟨fun _=>HE.out,fun _=>rfl⟩⟩,HB.out⟩
 ·have HNM:=Hd hnm
  have e1:((n:Int) != (m:Int))=true:=by simp;omega
  clear h1 h2 hnm;go_enter Tryz.func217,Tryz.ntmps217;go_wp2;go_ret;exact ⟨⟨false,rfl,⟨fun h=>(by cases h),fun h=>by subst h;exact absurd (HL1.out.symm.trans HL2.out) HNM.out⟩⟩,Bf _ _⟩
def graNe (x y:Gra):Bool := !((x.who.toList == y.who.toList)&&(x.group == y.group)&&(x.level == y.level))
theorem graNe_no {x y:Gra} (h:graNe x y=false):x=y:=by
 obtain ⟨a,b,c⟩:=x;obtain ⟨a2,b2,c2⟩:=y;unfold graNe at h;simp at h;obtain ⟨⟨h1,h2⟩,h3⟩:=h;rw [V2,V2] at h1;rw [Yp h1,h2,h3]
theorem eqGras_any (A B:Option Addr) (n m ca cb:Nat) (l1 l2:List Gra) (w:World) (h1:Sl grC 3 w w.heap.size A n ca l1) (h2:Sl grC 3 w w.heap.size B m cb l2) (hn:n≤1000000) (hm:m≤1000000):
  Calls prog 218 #[.slice A n ca,.slice B m cb] w fun e w'=>(∃ z:Bool,e = .returned (.bool z)∧(z=true↔l1=l2))∧Below w.heap.size w w':=by
 have HL1:=Hd h1.len;have HL2:=Hd h2.len;by_cases hnm:n=m
 ·subst hnm
  have H1:=Hd h1;have H2:=Hd h2;clear h1 h2 hm;go_enter Tryz.func218,Tryz.ntmps218;go_wp2;go_loopw [13] (fun i wr => ∃ j:Nat,j≤n∧i = .int .i64 j∧(∀ (t:Nat) x y,t<j→l1[t]? =some x→l2[t]? =some y→x=y)∧Below w.heap.size w wr) (fun i _=>n-(intOf i).toNat)
  case atStart=>exact ⟨0,Z0 _,rfl,fun t x y h=>absurd h (by omega),Bf _ _⟩
  case round=>
   obtain ⟨j,hj,rfl,hall,hbel⟩:=hrel;have HA:=Hd hall;have HB:=Hd hbel;clear hall hbel;by_cases hlt:j<n
   ·obtain ⟨b1,o1,x,rfl,hb1,hg1,hc1⟩:=Sl.cell (f:=grC) (k:=3) (fun _=>rfl) (H1.out.below HB.out) hlt
    obtain ⟨b2,o2,y,rfl,hb2,hg2,hc2⟩:=Sl.cell (f:=grC) (k:=3) (fun _=>rfl) (H2.out.below HB.out) hlt;have HG1:=Hd hg1;have HG2:=Hd hg2;clear hg1 hg2 hb1 hb2;have HC:Hid (wr.drew.rangeAt b1 (o1+j*3) (grC x)∧wr.drew.rangeAt b2 (o2+j*3) (grC y)):=Hd ⟨fun t u hu=>hc1 t u hu,fun t u hu=>hc2 t u hu⟩;clear hc1 hc2;go_wp2_with fail;refine Rw (S:=fun w'=>w'.rangeAt b1 (o1+j*3) (grC x)∧w'.rangeAt b2 (o2+j*3) (grC y)) (by kernel_rfl) HC.out (fun Hh=>?_);refine tk 0 (.slice (some ⟨b1,o1,none⟩) n ca) Hh ?_;refine tk 1 (.int .i64 j) Hh ?_;refine tk 2 (.pointer (some ⟨b1,o1+j*3,none⟩)) Hh ?_;refine tk 3 (.agg #[.string x.who,.bool x.group,.int .i64 x.level]) Hh ?_ (y:=by exact yieldsIf_load_mid (by rfl) 283 _ rfl b1 (o1+j*3) rfl (grC x) _ (fun w' hSw=>hSw.1) Tryz.underlying283 rfl (by kernel_rfl));refine tk 4 (.slice (some ⟨b2,o2,none⟩) n cb) Hh ?_
    refine tk 5 (.int .i64 j) Hh ?_;refine tk 6 (.pointer (some ⟨b2,o2+j*3,none⟩)) Hh ?_;refine tk 7 (.agg #[.string y.who,.bool y.group,.int .i64 y.level]) Hh ?_ (y:=by exact yieldsIf_load_mid (by rfl) 283 _ rfl b2 (o2+j*3) rfl (grC y) _ (fun w' hSw=>hSw.2) Tryz.underlying283 rfl (by kernel_rfl));refine tk 8 (.bool (graNe x y)) Hh ?_ (y:=by exact Or.inl ⟨by rfl,by intro w' hSw;go_simp;unfold graNe;by_cases k1:x.who.toList=y.who.toList<;>by_cases k2:x.group=y.group<;>by_cases k3:x.level=y.level<;>simp [k1,k2,k3]⟩);refine Ad (by kernel_rfl) ?_ _;clear Hh HC;obtain ⟨z,hz⟩:∃ z,graNe x y=z:=⟨_,rfl⟩
    rw [hz];have HZ:=Hd hz;clear hz;cases z with
    |true=>
     go_wp2;go_ret;exact ⟨⟨false,rfl,⟨fun h=>(by cases h),fun h=>by subst h;have h1:=HG1.out;rw [HG2.out] at h1;injection h1 with h1;subst h1;have h2:=HZ.out;simp [graNe] at h2⟩⟩,HB.out.drew⟩
    |false=>
     have HXY:Hid (x=y):=Hd (by have h2:=HZ.out;exact graNe_no h2);go_wp2;go_roundw
     case rel=>
      refine ⟨j+1,by omega,by go_num,fun t a b ht ha hb=>?_,HB.out.drew⟩;by_cases e:t=j
      ·subst e;rw [HG1.out] at ha;rw [HG2.out] at hb;injection ha with ha;injection hb with hb;rw [←ha,←hb];exact HXY.out
      ·exact HA.out t a b (by omega) ha hb
     case measure=>simp [intOf];omega
   ·obtain rfl:j=n:=by omega
    have HE:Hid (l1=l2):=Hd (eq_at (by rw [HL1.out,HL2.out]) fun t x y hx hy=>HA.out t x y (by have:=(List.getElem?_eq_some_iff.1 hx).1;rw [HL1.out] at this;exact this) hx hy);go_wp2;go_ret;exact ⟨⟨true,rfl,⟨fun _=>HE.out,fun _=>rfl⟩⟩,HB.out⟩
 ·have HNM:=Hd hnm
  have e1:((n:Int) != (m:Int))=true:=by simp;omega
  clear h1 h2 hnm;go_enter Tryz.func218,Tryz.ntmps218;go_wp2;go_ret;exact ⟨⟨false,rfl,⟨fun h=>(by cases h),fun h=>by subst h;exact absurd (HL1.out.symm.trans HL2.out) HNM.out⟩⟩,Bf _ _⟩
end
end Go.Proofs.YtapanepkfbamhaaGreatDoor
