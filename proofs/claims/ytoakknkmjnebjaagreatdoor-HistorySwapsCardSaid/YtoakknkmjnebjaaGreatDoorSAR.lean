/- Of HistorySwaps. -/
import Derived.Test.YtoakknkmjnebjaaGreatDoorSAQ
namespace Go.Proofs.YtoakknkmjnebjaaGreatDoor
open Tryz (prog)
set_option maxRecDepth 100000
set_option maxHeartbeats 8000000
open Go.RowKit
section
def enK (k:Int) (nm:Bz):En:=⟨k,nm,dZ,[],0,0,0,false,⟨#[]⟩,⟨#[]⟩,0,0,[]⟩
def F7 (k:Int) (nm left:Bz):En×Bz×Int:=
 let p:=Uk 14 left 0;let t:=X5 p.2.1 p.2.2;let c:=Uz t.2.1 t.2.2;let v:=Uj c.2.1 c.2.2 200;let o:=Uj v.2.1 v.2.2 200;let q:=Uk 2 o.2.1 o.2.2;let b:=X5 q.2.1 q.2.2;let n:=Uz b.2.1 b.2.2;let al:=Uk (Zx n.1 4).toNat n.2.1 n.2.2;let u:=Uz al.2.1 al.2.2
 (⟨k,nm,⟨p.1.getD 0 0,p.1.getD 1 0,p.1.getD 2 0,p.1.getD 3 0,p.1.getD 4 0,p.1.getD 5 0,p.1.getD 6 0,p.1.getD 7 0,p.1.getD 8 0,p.1.getD 9 0,p.1.getD 10 0,p.1.getD 11 0,p.1.getD 12 0,p.1.getD 13 0,t.1,c.1,v.1,o.1,q.1.getD 0 0,q.1.getD 1 0,b.1⟩,al.1,u.1,0,0,false,⟨#[]⟩,⟨#[]⟩,0,0,[]⟩,u.2)
structure DrI (c r g:Nat) (w W:Wd) (cs:Array Value) (l:Bz) (er:Int):Prop where
 cr:Cr W c r
 rd:Rdr W r l er
 bg:Blk W g 159 cs
 fa:Far [r,g] w W
 n1:r≠g
 n2:c≠r
 n3:c≠g
 sz:l.size≤1000000
section
variable {c r g:Nat} {w W:Wd} {cs:Array Value} {l:Bz} {er:Int}
theorem DrI.step (h:DrI c r g w W cs l er) {W2:Wd} {cs2:Array Value} {l2:Bz} {er2:Int} (h1:Rdr W2 r l2 er2) (h2:Blk W2 g 159 cs2) (h3:Far [r,g] W W2) (hl:l2.size≤l.size):DrI c r g w W2 cs2 l2 er2:=
 ⟨Blk.far' h.cr h3 (by simp only [List.mem_cons,List.not_mem_nil,or_false,not_or];exact ⟨h.n2,h.n3⟩),h1,h2,h.fa.trans h3,h.n1,h.n2,h.n3,Lx hl h.sz⟩
theorem DrI.keep (h:DrI c r g w W cs l er) {W2:Wd} (hb:Below W.heap.size W W2):DrI c r g w W2 cs l er:=
 h.step (Blk.below h.rd hb (Blk.lt h.rd)) (h.bg.below hb h.bg.lt) (Far.of_below hb) (Le _)
theorem DrI.alloc (h:DrI c r g w W cs l er) (o:Obj):DrI c r g w (W.alloc o) cs l er:=h.keep ((Bf _ _).alloc (Le _) o)
theorem DrI.drew (h:DrI c r g w W cs l er):DrI c r g w W.drew cs l er:=h.keep (Bf _ _).drew
theorem DrI.lt (h:DrI c r g w W cs l er):c<W.heap.size∧r<W.heap.size∧g<W.heap.size:=⟨Blk.lt h.cr,Blk.lt h.rd,h.bg.lt⟩
theorem DrI.left (h:DrI c r g w W cs l er):l.size≤maxLen:=by have:=h.sz;unfold maxLen;omega
theorem DrI.rr (h:DrI c r g w W cs l er) {W2:Wd} {l2:Bz} {er2:Int} (h1:RrP W r l2 er2 W2) (hl:l2.size≤l.size):DrI c r g w W2 cs l2 er2:=
 h.step h1.1 (h.bg.far' h1.2 (by simpa using h.n1.symm)) (h1.2.mono (by simp)) hl
end
theorem Ek (l:Bz) (e:Int):(X5 l e).2.1.size≤l.size:=by
 unfold X5;split
 ·split
  ·exact Z0 _
  ·simp
 ·exact Le _
theorem Zk (l:Bz) (e:Int):(Uj l e 200).1.size≤200:=by
 unfold Uj;split
 ·rename_i h;split
  ·exact Z0 _
  ·have h2:=cntF_range l e 200 (by decide) h;simp;omega
 ·exact Z0 _
theorem list2 {l:List Int} (h:l.length=2):∃ a b,l = [a,b]:=by
 match l,h with
 | [a,b],_=>exact ⟨a,b,rfl⟩
theorem list14 {l:List Int} (h:l.length=14):∃ a0 a1 a2 a3 a4 a5 a6 a7 a8 a9 a10 a11 a12 a13,l = [a0,a1,a2,a3,a4,a5,a6,a7,a8,a9,a10,a11,a12,a13]:=by
 match l,h with
 | [a0,a1,a2,a3,a4,a5,a6,a7,a8,a9,a10,a11,a12,a13],_=>exact ⟨_,_,_,_,_,_,_,_,_,_,_,_,_,_,rfl⟩
def numAt (cs:Array Value) (o:Nat):Bool:=match cs[o]? with|some (.int .i64 _)=>true|_=>false
theorem nums_ok {os:List Nat} {cs:Array Value} (h:os.all (numAt cs)=true):∀ (j o:Nat),os[j]? =some o→∃ m:Int,cs[o]? =some (.int .i64 m):=by
 intro j o ho;have h1:=List.all_eq_true.1 h o (List.mem_of_getElem? ho);unfold numAt at h1;split at h1
 ·rename_i m hm;exact ⟨m,hm⟩
 ·cases h1
theorem infoI64:(prog.info? 3).map (fun i=>(i.zero,i.size,i.bytes))=some (some (.int .i64 0),1,8):=by kernel_rfl
theorem made_int (n i:Nat) (h:i<n):(madeCells #[.int .i64 0] n)[i]? =some (.int .i64 0):=by
 unfold madeCells;rw [Array.getElem?_map,Array.getElem?_range];simp [h];rw [Nat.mod_one];rfl
def NumB (W:Wd) (h n:Nat) (l:List Int):Prop:=∃ cs:Array Value,Blk W h 3 cs∧cs.size=n∧(∀ t,t<n→∃ m:Int,cs[t]? =some (.int .i64 m))∧∀ (t:Nat) (x:Int),l[t]? =some x→cs[t]? =some (.int .i64 x)
theorem NumB.snoc {W2:Wd} {h n:Nat} {l:List Int} {cs:Array Value} {x:Int} (hz:cs.size=n) (h1:∀ t,t<n→∃ m:Int,cs[t]? =some (.int .i64 m)) (h2:∀ (t:Nat) (x:Int),l[t]? =some x→cs[t]? =some (.int .i64 x))
  (hl:l.length<n) (hb:Blk W2 h 3 (cs.setIfInBounds l.length (.int .i64 x))):NumB W2 h n (l++[x]):=by
 refine ⟨_,hb,by simp [hz],fun t ht=>?_,fun t y hy=>?_⟩
 ·by_cases e:l.length=t
  ·subst e;exact ⟨x,Array.getElem?_setIfInBounds_self_of_lt (by omega)⟩
  ·obtain ⟨m,hm⟩:=h1 t ht;exact ⟨m,by rw [Array.getElem?_setIfInBounds_ne e];exact hm⟩
 ·by_cases e:l.length=t
  ·subst e;rw [Array.getElem?_setIfInBounds_self_of_lt (by omega)];simp at hy;rw [hy]
  ·rw [Array.getElem?_setIfInBounds_ne e];refine h2 t y ?_;rw [List.getElem?_append] at hy;split at hy
   ·exact hy
   ·rename_i hnl;have:t-l.length≠0:=by omega
    rw [List.getElem?_eq_none (by simp;omega)] at hy;cases hy
theorem NumB.sl {W:Wd} {h n:Nat} {l:List Int} (hb:NumB W h n l) (hl:l.length=n):Sl Vc 1 W W.heap.size (some ⟨h,0,none⟩) n n l:=by
 obtain ⟨cs,h1,_,_,h4⟩:=hb;refine ⟨Le _,hl,by rw [Vi (k:=1) (fun _=>rfl),hl],fun _=>⟨h,0,rfl,h1.lt,fun j u hu=>?_⟩⟩;rw [Nat.zero_add,h1.cell]
 have hj:j<l.length:=by
  have:=(List.getElem?_eq_some_iff.1 hu).1
  rwa [Vi (k:=1) (fun _=>rfl),Nat.mul_one] at this
 have hg:=Xn (f:=Vc) (k:=1) (fun _=>rfl) l j l[j] (List.getElem?_eq_getElem hj) 0 (by decide);rw [Nat.mul_one,Nat.add_zero] at hg;rw [hg] at hu;have hu':u = .int .i64 l[j]:=by injection hu with hu;exact hu.symm
 rw [hu'];exact h4 j _ (List.getElem?_eq_getElem hj)
theorem DrI.stepH {c r g h:Nat} {w W W2:Wd} {cs:Array Value} {l l2:Bz} {er er2:Int} (k:DrI c r g w W cs l er) (h1:Rdr W2 r l2 er2) (h3:Far [r,h] W W2) (hg:h≠g) (hc:h≠c) (hn:w.heap.size≤h) (hl:l2.size≤l.size):DrI c r g w W2 cs l2 er2:=
 ⟨Blk.far' k.cr h3 (by simp only [List.mem_cons,List.not_mem_nil,or_false,not_or];exact ⟨k.n2,hc.symm⟩),h1,k.bg.far' h3 (by simp only [List.mem_cons,List.not_mem_nil,or_false,not_or];exact ⟨k.n1.symm,hg.symm⟩),k.fa.next h3 (by intro i hi;simp only [List.mem_cons,List.not_mem_nil,or_false] at hi;rcases hi with rfl|rfl;exact .inl (by simp);exact .inr hn),k.n1,k.n2,k.n3,Lx hl k.sz⟩
theorem DrI.store {c r g:Nat} {w W:Wd} {cs:Array Value} {l:Bz} {er:Int} (k:DrI c r g w W cs l er) (i:Nat) (v:Value):DrI c r g w (W.setCell ⟨g,i,none⟩ v) (cs.setIfInBounds i v) l er:=
 k.step (Blk.far k.rd k.n1 v) (k.bg.set i v) ((Far.refl _ _).set _ _ _ (.inl (by simp))) (Le _)
theorem make_ints (n:Nat) (hn:n≤1000) (W:Wd):(Instr.makeSlice 69 (.int .i64 n) (.int .i64 n)).run prog W = .ok (.slice (some ⟨W.heap.size,0,none⟩) n n) (W.alloc (.cells (madeCells #[.int .i64 0] n) 3)):=by
 obtain ⟨i0,aU,aW,aK,aR⟩:=info_parts infoI64;have iU:=run_make (P:=prog) (w:=W) 69 3 i0 _ Tryz.underlying69 aU aW .i64 .i64 (n:Int) (n:Int) (by omega) (Int.le_refl _) (by rw [aR];omega) (by omega);rw [aK] at iU;simp only [Int.toNat_natCast,Nat.mul_one] at iU;exact iU
theorem numB_new (W:Wd) (n:Nat):NumB (W.alloc (.cells (madeCells #[.int .i64 0] n) 3)) W.heap.size n []:=
 ⟨_,Blk.new W _ _,by simp [madeCells],fun t ht=>⟨0,made_int n t ht⟩,fun t x h=>by simp at h⟩
structure EWn (n:Nat) (w:Wd) (e:En) (a:EnA):Prop where
 sa:Sl Vc 1 w w.heap.size a.aA e.alts.length a.aC e.alts
 sg:Sl grC 3 w w.heap.size a.gA e.grants.length a.gC e.grants
 na:∀ p,a.aA=some p→0<e.alts.length→n≤p.block
 ng:∀ p,a.gA=some p→0<e.grants.length→n≤p.block
theorem EWn.ew {n:Nat} {S:List Nat} {w:Wd} {e:En} {a:EnA} (h:EWn n w e a) (hS:∀ k∈S,k<n):EW S w e a:=
 ⟨h.sa,h.sg,fun p hp h0 hk=>by have:=h.na p hp h0;have:=hS _ hk;omega,fun p hp h0 hk=>by have:=h.ng p hp h0;have:=hS _ hk;omega⟩
def DrP (_c r g:Nat) (R:En×Bz×Int) (w:Wd) (x:Ending) (w':Wd):Prop:=x = .returned (.tuple #[])∧∃ a:EnA,Rdr w' r R.2.1 R.2.2∧Blk w' g 159 (enC R.1 a).toArray∧EWn w.heap.size w' R.1 a∧Far [r,g] w w'
theorem st_1 (e:En) (a:EnA) (v0 v1 v2 v3 v4 v5 v6 v7 v8 v9 v10 v11 v12 v13:Int):Y8 (enC e a).toArray [2,3,4,5,6,7,8,9,10,11,12,13,14,15] [v0,v1,v2,v3,v4,v5,v6,v7,v8,v9,v10,v11,v12,v13]=(enC { e with d:={ e.d with id:=v0,org:=v1,fmt:=v2,len:=v3,blk:=v4,kat:=v5,kln:=v6,itv:=v7,area:=v8,fi:=v9,fa:=v10,base:=v11,aat:=v12,aln:=v13 } } a).toArray:=by simp [Y8,enC]
theorem st_6 (e:En) (a:EnA) (v15 v16:Int):Y8 (enC e a).toArray [20,21] [v15,v16]=(enC { e with d:={ e.d with cre:=v15,exp:=v16 } } a).toArray:=by simp [Y8,enC]
theorem st_2 (e:En) (a:EnA) (x:Bool):(enC e a).toArray.setIfInBounds 16 (.bool x)=(enC { e with d:={ e.d with uniq:=x } } a).toArray:=by simp [enC]
theorem st_3 (e:En) (a:EnA) (x:Int):(enC e a).toArray.setIfInBounds 17 (.int .i64 x)=(enC { e with d:={ e.d with cls:=x } } a).toArray:=by simp [enC]
theorem st_4 (e:En) (a:EnA) (x:Bz):(enC e a).toArray.setIfInBounds 18 (.string x)=(enC { e with d:={ e.d with vol:=x } } a).toArray:=by simp [enC]
theorem st_5 (e:En) (a:EnA) (x:Bz):(enC e a).toArray.setIfInBounds 19 (.string x)=(enC { e with d:={ e.d with own:=x } } a).toArray:=by simp [enC]
theorem st_7 (e:En) (a:EnA) (x:Bool):(enC e a).toArray.setIfInBounds 22 (.bool x)=(enC { e with d:={ e.d with arch:=x } } a).toArray:=by simp [enC]
theorem st_8 (e:En) (a:EnA) (x:Int):(enC e a).toArray.setIfInBounds 24 (.int .i64 x)=(enC { e with used:=x } a).toArray:=by simp [enC]
theorem st_9 (e:En) (a:EnA) (h n:Nat) (al:List Int) (hl:al.length=n):(enC e a).toArray.setIfInBounds 23 (.slice (some ⟨h,0,none⟩) n n)=(enC { e with alts:=al } ⟨some ⟨h,0,none⟩,n,a.gA,a.gC⟩).toArray:=by subst hl;simp [enC]
theorem data_r (c r g:Nat) (k:Int) (nm left:Bz) (w:Wd) (hc:Cr w c r) (hr:Rdr w r left 0) (hg:Blk w g 159 (enC (enK k nm) enN).toArray) (hs:left.size≤1000000) (n1:r≠g) (n2:c≠r) (n3:c≠g):
  Calls prog 188 #[.pointer (some ⟨c,0,none⟩),.pointer (some ⟨g,0,none⟩)] w (DrP c r g (F7 k nm left) w):=by
 have cE:Hid (DrI c r g w w (enC (⟨k,nm,⟨0,0,0,0,0,0,0,0,0,0,0,0,0,0,false,0,⟨#[]⟩,⟨#[]⟩,0,0,false⟩,[],0,0,0,false,⟨#[]⟩,⟨#[]⟩,0,0,[]⟩:En) enN).toArray left 0):=Hd ⟨hc,hr,hg,Far.refl _ _,n1,n2,n3,hs⟩;have gE:=Hd cE.out.lt;clear hc hr hg hs;have q1:=Xi 14 left 0;have s1':=Yd 14 left 0;obtain ⟨p,hp⟩:∃ p,Uk 14 left 0=p:=⟨_,rfl⟩
 rw [hp] at q1 s1';obtain ⟨pl,l1,r1⟩:=p;obtain ⟨v0,v1,v2,v3,v4,v5,v6,v7,v8,v9,v10,v11,v12,v13,rfl⟩:=list14 q1;have z2:=Ek l1 r1;obtain ⟨p2,ht⟩:∃ p,X5 l1 r1=p:=⟨_,rfl⟩
 rw [ht] at z2;obtain ⟨b1,l2,r2⟩:=p2;have z3:=Xf l2 r2;obtain ⟨p3,hcl⟩:∃ p,Uz l2 r2=p:=⟨_,rfl⟩
 rw [hcl] at z3;obtain ⟨v14,l3,r3⟩:=p3;have z4:=(Z4 l3 r3 200).2;obtain ⟨p4,hv⟩:∃ p,Uj l3 r3 200=p:=⟨_,rfl⟩
 rw [hv] at z4;obtain ⟨s1,l4,r4⟩:=p4;have z5:=(Z4 l4 r4 200).2;obtain ⟨p5,ho⟩:∃ p,Uj l4 r4 200=p:=⟨_,rfl⟩
 rw [ho] at z5;obtain ⟨s2,l5,r5⟩:=p5;have q6:=Xi 2 l5 r5;have z6:=Yd 2 l5 r5;obtain ⟨p6,hq⟩:∃ p,Uk 2 l5 r5=p:=⟨_,rfl⟩
 rw [hq] at z6;obtain ⟨ql,l6,r6⟩:=p6;rw [hq] at q6;obtain ⟨v15,v16,rfl⟩:=list2 q6;have z7:=Ek l6 r6;obtain ⟨p7,hb⟩:∃ p,X5 l6 r6=p:=⟨_,rfl⟩
 rw [hb] at z7;obtain ⟨b2,l7,r7⟩:=p7;have nn:=Vf l7 r7;have z8:=Xf l7 r7;obtain ⟨p8,hn⟩:∃ p,Uz l7 r7=p:=⟨_,rfl⟩
 rw [hn] at z8;obtain ⟨v17,l8,r8⟩:=p8;rw [hn] at nn;obtain ⟨n,hcn⟩:∃ n:Nat,Zx v17 4=n:=⟨(Zx v17 4).toNat,by unfold Zx;simp only at nn;split<;>omega⟩
 have hn5:n≤5:=by have:Zx v17 4≤5:=(by unfold Zx;split<;>omega);omega
 have q9:=Xi n l8 r8;have z9:=Yd n l8 r8;obtain ⟨p9,bU⟩:∃ p,Uk n l8 r8=p:=⟨_,rfl⟩
 rw [bU] at z9;obtain ⟨al,l9,r9⟩:=p9;rw [bU] at q9;have z10:=Xf l9 r9;obtain ⟨p10,hu⟩:∃ p,Uz l9 r9=p:=⟨_,rfl⟩
 rw [hu] at z10;obtain ⟨v18,l10,r10⟩:=p10
 have hR:F7 k nm left=((⟨k,nm,⟨v0,v1,v2,v3,v4,v5,v6,v7,v8,v9,v10,v11,v12,v13,b1,v14,s1,s2,v15,v16,b2⟩,al,v18,0,0,false,⟨#[]⟩,⟨#[]⟩,0,0,[]⟩:En),l10,r10):=by
  have hct:(Zx v17 4).toNat=n:=by rw [hcn];rfl
  unfold F7;simp only [hp,ht,hcl,hv,ho,hq,hb,hn,hct,bU,hu];rfl
 rw [hR];have HL:=Hd q9;have HZ:=Hd (And.intro s1' (And.intro z2 (And.intro z3 (And.intro z4 (And.intro z5 (And.intro z6 (And.intro z7 (And.intro z8 (And.intro z9 z10)))))))));have HE:=Hd (And.intro hp (And.intro ht (And.intro hcl (And.intro hv (And.intro ho (And.intro hq (And.intro hb (And.intro hn (And.intro bU hu)))))))));have gK:=Hd hcn;clear hR q1 s1' z2 z3 z4 z5 z6 z7 z8 z9 z10 q6 q9 hp ht hcl hv ho hq hb hn bU hu nn hcn
 have bI:Hid (DrI c r g w (w.alloc (.cells #[.pointer (some ⟨g,2,none⟩),.pointer (some ⟨g,3,none⟩),.pointer (some ⟨g,4,none⟩),.pointer (some ⟨g,5,none⟩),.pointer (some ⟨g,6,none⟩),.pointer (some ⟨g,7,none⟩),.pointer (some ⟨g,8,none⟩),.pointer (some ⟨g,9,none⟩),.pointer (some ⟨g,10,none⟩),.pointer (some ⟨g,11,none⟩),.pointer (some ⟨g,12,none⟩),.pointer (some ⟨g,13,none⟩),.pointer (some ⟨g,14,none⟩),.pointer (some ⟨g,15,none⟩)] 179)).drew (enC (⟨k,nm,⟨0,0,0,0,0,0,0,0,0,0,0,0,0,0,false,0,⟨#[]⟩,⟨#[]⟩,0,0,false⟩,[],0,0,0,false,⟨#[]⟩,⟨#[]⟩,0,0,[]⟩:En) enN).toArray left 0):=Hd (cE.out.alloc _).drew;have cP:w.heap.size≠r:=by have:=gE.out.2.1;omega
 have dD:w.heap.size≠g:=by have:=gE.out.2.2;omega
 have iM:Hid (Blk (w.alloc (.cells #[.pointer (some ⟨g,2,none⟩),.pointer (some ⟨g,3,none⟩),.pointer (some ⟨g,4,none⟩),.pointer (some ⟨g,5,none⟩),.pointer (some ⟨g,6,none⟩),.pointer (some ⟨g,7,none⟩),.pointer (some ⟨g,8,none⟩),.pointer (some ⟨g,9,none⟩),.pointer (some ⟨g,10,none⟩),.pointer (some ⟨g,11,none⟩),.pointer (some ⟨g,12,none⟩),.pointer (some ⟨g,13,none⟩),.pointer (some ⟨g,14,none⟩),.pointer (some ⟨g,15,none⟩)] 179)).drew w.heap.size 179 (ptrs g [2,3,4,5,6,7,8,9,10,11,12,13,14,15])):=Hd (Blk.new w _ _).drew
 have HCN1:Hid (Calls prog 192 #[.pointer (some ⟨c,0,none⟩),.slice (some ⟨w.heap.size,0,none⟩) 14 14] ((w.alloc (.cells #[.pointer (some ⟨g,2,none⟩),.pointer (some ⟨g,3,none⟩),.pointer (some ⟨g,4,none⟩),.pointer (some ⟨g,5,none⟩),.pointer (some ⟨g,6,none⟩),.pointer (some ⟨g,7,none⟩),.pointer (some ⟨g,8,none⟩),.pointer (some ⟨g,9,none⟩),.pointer (some ⟨g,10,none⟩),.pointer (some ⟨g,11,none⟩),.pointer (some ⟨g,12,none⟩),.pointer (some ⟨g,13,none⟩),.pointer (some ⟨g,14,none⟩),.pointer (some ⟨g,15,none⟩)] 179)).drew) fun x w'=>x = .returned (.tuple #[])∧Rdr w' r l1 r1∧Blk w' g 159 (enC (⟨k,nm,⟨v0,v1,v2,v3,v4,v5,v6,v7,v8,v9,v10,v11,v12,v13,false,0,⟨#[]⟩,⟨#[]⟩,0,0,false⟩,[],0,0,0,false,⟨#[]⟩,⟨#[]⟩,0,0,[]⟩:En) enN).toArray∧Far [r,g] ((w.alloc (.cells #[.pointer (some ⟨g,2,none⟩),.pointer (some ⟨g,3,none⟩),.pointer (some ⟨g,4,none⟩),.pointer (some ⟨g,5,none⟩),.pointer (some ⟨g,6,none⟩),.pointer (some ⟨g,7,none⟩),.pointer (some ⟨g,8,none⟩),.pointer (some ⟨g,9,none⟩),.pointer (some ⟨g,10,none⟩),.pointer (some ⟨g,11,none⟩),.pointer (some ⟨g,12,none⟩),.pointer (some ⟨g,13,none⟩),.pointer (some ⟨g,14,none⟩),.pointer (some ⟨g,15,none⟩)] 179)).drew) w'):=Hd (by have h:=cnums_r c r g w.heap.size 14 14 159 [2,3,4,5,6,7,8,9,10,11,12,13,14,15] (enC (⟨k,nm,⟨0,0,0,0,0,0,0,0,0,0,0,0,0,0,false,0,⟨#[]⟩,⟨#[]⟩,0,0,false⟩,[],0,0,0,false,⟨#[]⟩,⟨#[]⟩,0,0,[]⟩:En) enN).toArray left 0 _ bI.out.left bI.out.cr bI.out.rd bI.out.bg (by decide) rfl (Z5 iM.out) (nums_ok (by rfl)) n1 cP dD n2 n3;rw [HE.out.1] at h;rw [st_1] at h;exact h)
 clear cP dD;go_enter Tryz.func188,Tryz.ntmps188;go_wp2_with fail;refine Rw (S:=fun _=>True) (by kernel_rfl) trivial (fun Hh=>?_);refine tk 0 (.pointer (some ⟨c,0,none⟩)) Hh ?_;refine tk 1 (.pointer (some ⟨g,2,none⟩)) Hh ?_;refine tk 2 (.pointer (some ⟨g,2,none⟩)) Hh ?_;refine tk 3 (.pointer (some ⟨g,2,none⟩)) Hh ?_;refine tk 4 (.pointer (some ⟨g,2,none⟩)) Hh ?_;refine tk 5 (.pointer (some ⟨g,2,none⟩)) Hh ?_;refine tk 6 (.pointer (some ⟨g,3,none⟩)) Hh ?_;refine tk 7 (.pointer (some ⟨g,2,none⟩)) Hh ?_;refine tk 8 (.pointer (some ⟨g,2,none⟩)) Hh ?_;refine tk 9 (.pointer (some ⟨g,4,none⟩)) Hh ?_;refine tk 10 (.pointer (some ⟨g,2,none⟩)) Hh ?_;refine tk 11 (.pointer (some ⟨g,2,none⟩)) Hh ?_;refine tk 12 (.pointer (some ⟨g,5,none⟩)) Hh ?_;refine tk 13 (.pointer (some ⟨g,2,none⟩)) Hh ?_
 refine tk 14 (.pointer (some ⟨g,2,none⟩)) Hh ?_;refine tk 15 (.pointer (some ⟨g,6,none⟩)) Hh ?_;refine tk 16 (.pointer (some ⟨g,2,none⟩)) Hh ?_;refine tk 17 (.pointer (some ⟨g,2,none⟩)) Hh ?_;refine tk 18 (.pointer (some ⟨g,7,none⟩)) Hh ?_;refine tk 19 (.pointer (some ⟨g,2,none⟩)) Hh ?_;refine tk 20 (.pointer (some ⟨g,2,none⟩)) Hh ?_;refine tk 21 (.pointer (some ⟨g,8,none⟩)) Hh ?_;refine tk 22 (.pointer (some ⟨g,2,none⟩)) Hh ?_;refine tk 23 (.pointer (some ⟨g,2,none⟩)) Hh ?_;refine tk 24 (.pointer (some ⟨g,9,none⟩)) Hh ?_;refine tk 25 (.pointer (some ⟨g,2,none⟩)) Hh ?_;refine tk 26 (.pointer (some ⟨g,2,none⟩)) Hh ?_;refine tk 27 (.pointer (some ⟨g,10,none⟩)) Hh ?_;refine tk 28 (.pointer (some ⟨g,2,none⟩)) Hh ?_;refine tk 29 (.pointer (some ⟨g,2,none⟩)) Hh ?_;refine tk 30 (.pointer (some ⟨g,11,none⟩)) Hh ?_
 refine tk 31 (.pointer (some ⟨g,2,none⟩)) Hh ?_;refine tk 32 (.pointer (some ⟨g,2,none⟩)) Hh ?_;refine tk 33 (.pointer (some ⟨g,12,none⟩)) Hh ?_;refine tk 34 (.pointer (some ⟨g,2,none⟩)) Hh ?_;refine tk 35 (.pointer (some ⟨g,2,none⟩)) Hh ?_;refine tk 36 (.pointer (some ⟨g,13,none⟩)) Hh ?_;refine tk 37 (.pointer (some ⟨g,2,none⟩)) Hh ?_;refine tk 38 (.pointer (some ⟨g,2,none⟩)) Hh ?_;refine tk 39 (.pointer (some ⟨g,14,none⟩)) Hh ?_;refine tk 40 (.pointer (some ⟨g,2,none⟩)) Hh ?_;refine tk 41 (.pointer (some ⟨g,2,none⟩)) Hh ?_;refine tk 42 (.pointer (some ⟨g,15,none⟩)) Hh ?_;refine Aq [43] ?_;refine Rc (fun K hK=>?_) ?_
 ·go_simp;refine hK.out _ _ trivial (fun Hh=>?_);clear hK K;try simp only [Act.put,Sv,Sz,Sw]
  refine Aq [44] ?_;refine Rc (fun K hK=>?_) ?_
  ·go_simp;refine HCN1.out.mono ?_;rintro x w1 ⟨rfl,h1,h2,h3⟩;simp only [];have HX:=Hd (bI.out.step h1 h2 h3 HZ.out.1);clear h1 h2 h3;refine hK.out _ _ trivial (fun Hh=>?_);clear hK K;try simp only [Act.put,Sv,Sz,Sw]
   refine Ad (by kernel_rfl) ?_ _;clear Hh bI iM HCN1
   go_wp2_with (first|(go_at_call 193;(with_reducible show Calls _ _ #[_,.pointer (some ⟨_,16,none⟩)] _ _);refine (Iw c r g 16 159 _ false l1 r1 _ HX.out.left HX.out.cr HX.out.rd HX.out.bg rfl HX.out.n1).mono ?_;rintro x w2 ⟨rfl,h1,h2,h3⟩;rw [HE.out.2.1] at h1 h2;rw [st_2] at h2;have HX:Hid (DrI c r g w w2 (enC (⟨k,nm,⟨v0,v1,v2,v3,v4,v5,v6,v7,v8,v9,v10,v11,v12,v13,b1,0,⟨#[]⟩,⟨#[]⟩,0,0,false⟩,[],0,0,0,false,⟨#[]⟩,⟨#[]⟩,0,0,[]⟩:En) enN).toArray l2 r2):=Hd (HX.out.step h1 h2 h3 HZ.out.2.1);clear h1 h2 h3)|(go_at_call 205;(with_reducible show Calls _ _ #[_,.pointer (some ⟨_,17,none⟩)] _ _);refine (Zw c r g 17 159 _ 0 l2 r2 _ HX.out.left HX.out.cr HX.out.rd HX.out.bg rfl HX.out.n1).mono ?_;rintro x w2 ⟨rfl,h1,h2,h3⟩;rw [HE.out.2.2.1] at h1 h2;rw [st_3] at h2;have HX:Hid (DrI c r g w w2 (enC (⟨k,nm,⟨v0,v1,v2,v3,v4,v5,v6,v7,v8,v9,v10,v11,v12,v13,b1,v14,⟨#[]⟩,⟨#[]⟩,0,0,false⟩,[],0,0,0,false,⟨#[]⟩,⟨#[]⟩,0,0,[]⟩:En) enN).toArray l3 r3):=Hd (HX.out.step h1 h2 h3 HZ.out.2.2.1);clear h1 h2 h3)|(go_at_call 194;(with_reducible show Calls _ _ #[_,.pointer (some ⟨_,18,none⟩)] _ _);refine (Ex c r g 18 159 _ ⟨#[]⟩ l3 r3 _ HX.out.left HX.out.cr HX.out.rd HX.out.bg rfl HX.out.n1).mono ?_;rintro x w2 ⟨rfl,h1,h2,h3⟩;rw [HE.out.2.2.2.1] at h1 h2;rw [st_4] at h2;have HX:Hid (DrI c r g w w2 (enC (⟨k,nm,⟨v0,v1,v2,v3,v4,v5,v6,v7,v8,v9,v10,v11,v12,v13,b1,v14,s1,⟨#[]⟩,0,0,false⟩,[],0,0,0,false,⟨#[]⟩,⟨#[]⟩,0,0,[]⟩:En) enN).toArray l4 r4):=Hd (HX.out.step h1 h2 h3 HZ.out.2.2.2.1);clear h1 h2 h3)|(go_at_call 194;(with_reducible show Calls _ _ #[_,.pointer (some ⟨_,19,none⟩)] _ _);refine (Ex c r g 19 159 _ ⟨#[]⟩ l4 r4 _ HX.out.left HX.out.cr HX.out.rd HX.out.bg rfl HX.out.n1).mono ?_;rintro x w2 ⟨rfl,h1,h2,h3⟩;rw [HE.out.2.2.2.2.1] at h1 h2;rw [st_5] at h2;have HX:Hid (DrI c r g w w2 (enC (⟨k,nm,⟨v0,v1,v2,v3,v4,v5,v6,v7,v8,v9,v10,v11,v12,v13,b1,v14,s1,s2,0,0,false⟩,[],0,0,0,false,⟨#[]⟩,⟨#[]⟩,0,0,[]⟩:En) enN).toArray l5 r5):=Hd (HX.out.step h1 h2 h3 HZ.out.2.2.2.2.1);clear h1 h2 h3))
   have bB:Hid (DrI c r g w (w2.drew.alloc (.cells #[.pointer (some ⟨g,20,none⟩),.pointer (some ⟨g,21,none⟩)] 179)) (enC (⟨k,nm,⟨v0,v1,v2,v3,v4,v5,v6,v7,v8,v9,v10,v11,v12,v13,b1,v14,s1,s2,0,0,false⟩,[],0,0,0,false,⟨#[]⟩,⟨#[]⟩,0,0,[]⟩:En) enN).toArray l5 r5):=Hd (HX.out.drew.alloc _);have HLT5:=Hd HX.out.lt;have cP:w2.heap.size≠r:=by have:=HLT5.out.2.1;omega
   have dD:w2.heap.size≠g:=by have:=HLT5.out.2.2;omega
   have HPT6:Hid (Blk (w2.drew.alloc (.cells #[.pointer (some ⟨g,20,none⟩),.pointer (some ⟨g,21,none⟩)] 179)) w2.heap.size 179 (ptrs g [20,21])):=Hd (Blk.new w2.drew _ _)
   have HCN6:Hid (Calls prog 192 #[.pointer (some ⟨c,0,none⟩),.slice (some ⟨w2.heap.size,0,none⟩) 2 2] (w2.drew.alloc (.cells #[.pointer (some ⟨g,20,none⟩),.pointer (some ⟨g,21,none⟩)] 179)) fun x w'=>x = .returned (.tuple #[])∧Rdr w' r l6 r6∧Blk w' g 159 (enC (⟨k,nm,⟨v0,v1,v2,v3,v4,v5,v6,v7,v8,v9,v10,v11,v12,v13,b1,v14,s1,s2,v15,v16,false⟩,[],0,0,0,false,⟨#[]⟩,⟨#[]⟩,0,0,[]⟩:En) enN).toArray∧Far [r,g] (w2.drew.alloc (.cells #[.pointer (some ⟨g,20,none⟩),.pointer (some ⟨g,21,none⟩)] 179)) w'):=Hd (by have h:=cnums_r c r g w2.heap.size 2 2 159 [20,21] (enC (⟨k,nm,⟨v0,v1,v2,v3,v4,v5,v6,v7,v8,v9,v10,v11,v12,v13,b1,v14,s1,s2,0,0,false⟩,[],0,0,0,false,⟨#[]⟩,⟨#[]⟩,0,0,[]⟩:En) enN).toArray l5 r5 _ bB.out.left bB.out.cr bB.out.rd bB.out.bg (by decide) rfl (Z5 HPT6.out) (nums_ok (by rfl)) n1 cP dD n2 n3;rw [HE.out.2.2.2.2.2.1] at h;rw [st_6] at h;exact h);clear cP dD
   refine Rw (S:=fun _=>True) (by kernel_rfl) trivial (fun Hh=>?_);refine tk 0 (.pointer (some ⟨c,0,none⟩)) Hh ?_;refine tk 1 (.pointer (some ⟨g,2,none⟩)) Hh ?_;refine tk 2 (.pointer (some ⟨g,2,none⟩)) Hh ?_;refine tk 3 (.pointer (some ⟨g,20,none⟩)) Hh ?_;refine tk 4 (.pointer (some ⟨g,2,none⟩)) Hh ?_;refine tk 5 (.pointer (some ⟨g,2,none⟩)) Hh ?_;refine tk 6 (.pointer (some ⟨g,21,none⟩)) Hh ?_;refine Aq [7] ?_;refine Rc (fun K hK=>?_) ?_
   ·go_simp;refine hK.out _ _ trivial (fun Hh=>?_);clear hK K;try simp only [Act.put,Sv,Sz,Sw]
    refine Aq [8] ?_;refine Rc (fun K hK=>?_) ?_
    ·go_simp;refine HCN6.out.mono ?_;rintro x w1 ⟨rfl,h1,h2,h3⟩;simp only [];have HX:=Hd (bB.out.step h1 h2 h3 HZ.out.2.2.2.2.2.1);clear h1 h2 h3;refine hK.out _ _ trivial (fun Hh=>?_);clear hK K;try simp only [Act.put,Sv,Sz,Sw]
     refine Ad (by kernel_rfl) ?_ _;clear Hh bB HPT6 HCN6;by_cases h0:n=0
     ·subst h0;have hal0:=HE.out.2.2.2.2.2.2.2.2.1;obtain ⟨rfl,rfl,rfl⟩ : []=al∧l8=l9∧r8=r9:=by unfold Uk at hal0;injection hal0 with h1 h2;injection h2 with h2 h3;exact ⟨h1,h2,h3⟩
      clear hal0
      go_wp2_with (first|(go_at_call 193;(with_reducible show Calls _ _ #[_,.pointer (some ⟨_,22,none⟩)] _ _);refine (Iw c r g 22 159 _ false l6 r6 _ HX.out.left HX.out.cr HX.out.rd HX.out.bg rfl HX.out.n1).mono ?_;rintro x w2 ⟨rfl,h1,h2,h3⟩;rw [HE.out.2.2.2.2.2.2.1] at h1 h2;rw [st_7] at h2;have HX:Hid (DrI c r g w w2 (enC (⟨k,nm,⟨v0,v1,v2,v3,v4,v5,v6,v7,v8,v9,v10,v11,v12,v13,b1,v14,s1,s2,v15,v16,b2⟩,[],0,0,0,false,⟨#[]⟩,⟨#[]⟩,0,0,[]⟩:En) enN).toArray l7 r7):=Hd (HX.out.step h1 h2 h3 HZ.out.2.2.2.2.2.2.1);clear h1 h2 h3;have c23:=(HX.out.bg.cell 23).trans (show _=some (Value.slice none 0 0) from rfl))|(go_at_call 248;refine (Fc c r 0 4 l7 r7 _ HX.out.left HX.out.cr HX.out.rd (by decide) (by decide)).mono ?_;rintro x w2 ⟨rfl,h1⟩;rw [HE.out.2.2.2.2.2.2.2.1] at h1 ⊢;simp only at h1 ⊢;rw [gK.out];have HX:=Hd (HX.out.rr h1 HZ.out.2.2.2.2.2.2.2.1);have c1:=HX.out.cr.c1;clear c23;have c23:=(HX.out.bg.cell 23).trans (show _=some (Value.slice none 0 0) from rfl);clear h1))
      refine Lu 1 ?_;rw [Rs];go_wp2_with (go_at_call 205;refine (Zw c r g 24 159 _ 0 l8 r8 _ HX.out.left HX.out.cr HX.out.rd HX.out.bg rfl HX.out.n1).mono ?_;rintro x w2 ⟨rfl,h1,h2,h3⟩;rw [HE.out.2.2.2.2.2.2.2.2.2] at h1 h2;rw [st_8] at h2;have HX:Hid (DrI c r g w w2 (enC (⟨k,nm,⟨v0,v1,v2,v3,v4,v5,v6,v7,v8,v9,v10,v11,v12,v13,b1,v14,s1,s2,v15,v16,b2⟩,[],v18,0,0,false,⟨#[]⟩,⟨#[]⟩,0,0,[]⟩:En) enN).toArray l10 r10):=Hd (HX.out.step h1 h2 h3 HZ.out.2.2.2.2.2.2.2.2.2);clear h1 h2 h3)
      go_end0
      exact ⟨rfl,enN,HX.out.rd,HX.out.bg,⟨Sl.nil,Sl.nil,fun p hp _=>(by cases hp),fun p hp _=>(by cases hp)⟩,HX.out.fa⟩
     ·have hmk0:=Hd (make_ints n (by omega));have hpos:decide ((0:Int)<(n:Int))=true:=decide_eq_true (by omega)
      go_wp2_with (first|(go_at_call 193;(with_reducible show Calls _ _ #[_,.pointer (some ⟨_,22,none⟩)] _ _);refine (Iw c r g 22 159 _ false l6 r6 _ HX.out.left HX.out.cr HX.out.rd HX.out.bg rfl HX.out.n1).mono ?_;rintro x w2 ⟨rfl,h1,h2,h3⟩;rw [HE.out.2.2.2.2.2.2.1] at h1 h2;rw [st_7] at h2;have HX:Hid (DrI c r g w w2 (enC (⟨k,nm,⟨v0,v1,v2,v3,v4,v5,v6,v7,v8,v9,v10,v11,v12,v13,b1,v14,s1,s2,v15,v16,b2⟩,[],0,0,0,false,⟨#[]⟩,⟨#[]⟩,0,0,[]⟩:En) enN).toArray l7 r7):=Hd (HX.out.step h1 h2 h3 HZ.out.2.2.2.2.2.2.1);clear h1 h2 h3;have c23:=(HX.out.bg.cell 23).trans (show _=some (Value.slice none 0 0) from rfl))|(go_at_call 248;refine (Fc c r 0 4 l7 r7 _ HX.out.left HX.out.cr HX.out.rd (by decide) (by decide)).mono ?_;rintro x w2 ⟨rfl,h1⟩;rw [HE.out.2.2.2.2.2.2.2.1] at h1 ⊢;simp only at h1 ⊢;rw [gK.out];have HX:=Hd (HX.out.rr h1 HZ.out.2.2.2.2.2.2.2.1);have c1:=HX.out.cr.c1;clear c23;have c23:=(HX.out.bg.cell 23).trans (show _=some (Value.slice none 0 0) from rfl);clear h1;have iU:=hmk0.out w2;have HXm:=Hd (HX.out.alloc (.cells (madeCells #[.int .i64 0] n) 3));have d23:=(HXm.out.bg.cell 23).trans (show _=some (Value.slice none 0 0) from rfl);have f23:=HXm.out.bg.free 23;have aP:=Hd (HXm.out.store 23 (.slice (some ⟨w2.heap.size,0,none⟩) n n));have e23:=(aP.out.bg.cell 23).trans (show _=some (Value.slice (some ⟨w2.heap.size,0,none⟩) n n) from rfl)))
      have hxq:=aP.out;rw [st_9 _ _ _ n al HL.out] at hxq;have aX:Hid (DrI c r g w ((w2.alloc (.cells (madeCells #[.int .i64 0] n) 3)).setCell ⟨g,23,none⟩ (.slice (some ⟨w2.heap.size,0,none⟩) n n)) (enC (⟨k,nm,⟨v0,v1,v2,v3,v4,v5,v6,v7,v8,v9,v10,v11,v12,v13,b1,v14,s1,s2,v15,v16,b2⟩,al,0,0,0,false,⟨#[]⟩,⟨#[]⟩,0,0,[]⟩:En) ⟨some ⟨w2.heap.size,0,none⟩,n,none,0⟩).toArray l8 r8):=Hd hxq;have dL:w2.heap.size≠g:=by have:=HX.out.lt.2.2;omega
      have bS:r≠w2.heap.size:=by have:=HX.out.lt.2.1;omega
      have iD:w2.heap.size≠c:=by have:=HX.out.lt.1;omega
      have eN:w.heap.size≤w2.heap.size:=HX.out.fa.size;have HNB:Hid (NumB ((w2.alloc (.cells (madeCells #[.int .i64 0] n) 3)).setCell ⟨g,23,none⟩ (.slice (some ⟨w2.heap.size,0,none⟩) n n)) w2.heap.size n []):=Hd (by obtain ⟨cs,h1,h2,h3,h4⟩:=numB_new w2 n;exact ⟨cs,h1.far dL _,h2,h3,h4⟩);clear hxq c1 c23 d23 f23 e23 iU hmk0;clear aP HXm HX;obtain ⟨hb,hhb⟩:∃ hb,w2.heap.size=hb:=⟨_,rfl⟩
      simp only [hhb] at dL bS iD eN HNB aX ⊢;simp only [show decide (0<n)=true from decide_eq_true (by omega)];clear hpos;have HHB:=Hd hhb;clear hhb;go_loopw [115] (fun i wr => ∃ j:Nat,j≤n∧i = .int .i64 j∧DrI c r g w wr (enC (⟨k,nm,⟨v0,v1,v2,v3,v4,v5,v6,v7,v8,v9,v10,v11,v12,v13,b1,v14,s1,s2,v15,v16,b2⟩,al,0,0,0,false,⟨#[]⟩,⟨#[]⟩,0,0,[]⟩:En) ⟨some ⟨hb,0,none⟩,n,none,0⟩).toArray (Uk j l8 r8).2.1 (Uk j l8 r8).2.2∧NumB wr hb n (Uk j l8 r8).1) (fun i _=>n-(intOf i).toNat)
      case atStart=>exact ⟨0,Z0 _,rfl,aX.out,HNB.out⟩
      case round=>
       obtain ⟨j,hj,rfl,hx,hnb⟩:=hrel;have HX:=Hd hx;clear hx aX HNB;by_cases aG:j<n
       ·obtain ⟨cs,b1',b2',b3',b4'⟩:=hnb;obtain ⟨m,hm⟩:=b3' j aG;have hlj:(Uk j l8 r8).1.length=j:=Xi j l8 r8;have bN:=Hd (Zw c r hb j 3 cs m (Uk j l8 r8).2.1 (Uk j l8 r8).2.2 wr HX.out.left HX.out.cr HX.out.rd b1' hm bS);have bJ:=Hd (Ep j l8 r8);have HNS:Hid (∀ (W2:Wd) (x:Int),Blk W2 hb 3 (cs.setIfInBounds j (.int .i64 x))→NumB W2 hb n ((Uk j l8 r8).1++[x])):=Hd fun W2 x h=>NumB.snoc b2' b3' b4' (by rw [hlj];exact aG) (by rw [hlj];exact h)
        have c23:=(HX.out.bg.cell 23).trans (show _=some (Value.slice (some ⟨hb,0,none⟩) al.length n) from rfl);rw [HL.out] at c23;have hzz:=Xf (Uk j l8 r8).2.1 (Uk j l8 r8).2.2;have HZZ:=Hd hzz;clear b1' b2' b3' b4' hm hlj hzz;go_wp2_with (go_at_call 205;refine bN.out.mono ?_;rintro x w5 ⟨rfl,h1,h2,h3⟩;have bA:=Hd (HX.out.stepH h1 h3 dL iD eN HZZ.out);have HN5:=Hd (HNS.out _ _ h2);clear h1 h2 h3);go_roundw
        case rel=>exact ⟨j+1,by omega,by go_num,by rw [bJ.out];exact bA.out,by rw [bJ.out];exact HN5.out⟩
        case measure=>simp [intOf];omega
       ·obtain rfl:j=n:=by omega
        have cG:=Hd (hnb.sl (Xi j l8 r8));clear hnb;rw [HE.out.2.2.2.2.2.2.2.2.1] at cG HX;have c23:=(HX.out.bg.cell 23).trans (show _=some (Value.slice (some ⟨hb,0,none⟩) al.length j) from rfl);rw [HL.out] at c23;go_wp2_with (go_at_call 205;refine (Zw c r g 24 159 _ 0 l9 r9 _ HX.out.left HX.out.cr HX.out.rd HX.out.bg rfl HX.out.n1).mono ?_;rintro x w5 ⟨rfl,h1,h2,h3⟩;rw [HE.out.2.2.2.2.2.2.2.2.2] at h1 h2;rw [st_8] at h2;have HF5:=Hd h3;have bA:Hid (DrI c r g w w5 (enC (⟨k,nm,⟨v0,v1,v2,v3,v4,v5,v6,v7,v8,v9,v10,v11,v12,v13,b1,v14,s1,s2,v15,v16,b2⟩,al,v18,0,0,false,⟨#[]⟩,⟨#[]⟩,0,0,[]⟩:En) ⟨some ⟨hb,0,none⟩,j,none,0⟩).toArray l10 r10):=Hd (HX.out.step h1 h2 h3 HZ.out.2.2.2.2.2.2.2.2.2);clear h1 h2 h3)
        go_end0
        refine ⟨rfl,⟨some ⟨hb,0,none⟩,j,none,0⟩,bA.out.rd,bA.out.bg,⟨?_,Sl.nil,fun p hp _=>?_,fun p hp _=>(by cases hp)⟩,bA.out.fa⟩
        ·show Sl Vc 1 w5 w5.heap.size (some ⟨hb,0,none⟩) al.length j al;rw [HL.out];exact cG.out.off HF5.out (fun p hp _=>by injection hp with hp;subst hp;simp only [List.mem_cons,List.not_mem_nil,or_false,not_or];exact ⟨bS.symm,dL⟩)
        ·injection hp with hp
         subst hp;exact eN
    exact An
   exact An
  exact An
 exact An
end
theorem eq_at {α:Type} {l m:List α} (hl:l.length=m.length) (h:∀ (t:Nat) (x y:α),l[t]? =some x→m[t]? =some y→x=y):l=m:=by
 refine List.ext_getElem? fun t=>?_
 by_cases ht:t<l.length
 ·rw [List.getElem?_eq_getElem ht,List.getElem?_eq_getElem (hl▸ht)];rw [h t _ _ (List.getElem?_eq_getElem ht) (List.getElem?_eq_getElem (hl▸ht))]
 ·rw [List.getElem?_eq_none (by omega),List.getElem?_eq_none (by omega)]
theorem eqInts_any (A B:Option Addr) (n m ca cb:Nat) (l1 l2:List Int) (w:Wd) (h1:Sl Vc 1 w w.heap.size A n ca l1) (h2:Sl Vc 1 w w.heap.size B m cb l2) (hn:n≤1000000) (hm:m≤1000000):
  Calls prog 217 #[.slice A n ca,.slice B m cb] w fun e w'=>(∃ z:Bool,e = .returned (.bool z)∧(z=true↔l1=l2))∧Below w.heap.size w w':=by
 have iI:=Hd h1.len;have mD:=Hd h2.len;by_cases cC:n=m
 ·subst cC;have H1:=Hd h1;have H2:=Hd h2;clear h1 h2 hm;go_enter Tryz.func217,Tryz.ntmps217;go_wp2;go_loopw [13] (fun i wr => ∃ j:Nat,j≤n∧i = .int .i64 j∧(∀ (t:Nat) x y,t<j→l1[t]? =some x→l2[t]? =some y→x=y)∧Below w.heap.size w wr) (fun i _=>n-(intOf i).toNat)
  case atStart=>exact ⟨0,Z0 _,rfl,fun t x y h=>absurd h (by omega),Bf _ _⟩
  case round=>
   obtain ⟨j,hj,rfl,hall,aE⟩:=hrel;have HA:=Hd hall;have HB:=Hd aE;clear hall aE;by_cases aG:j<n
   ·obtain ⟨b1,o1,x,rfl,aJ,hg1,hc1⟩:=Sl.cell (f:=Vc) (k:=1) (fun _=>rfl) (H1.out.below HB.out) aG;obtain ⟨b2,o2,y,rfl,aF,dL,iD⟩:=Sl.cell (f:=Vc) (k:=1) (fun _=>rfl) (H2.out.below HB.out) aG;have fL:=Hd hg1;have fP:=Hd dL;clear hg1 dL aJ aF;have c1:=hc1 0 _ rfl;have c2:=iD 0 _ rfl;simp only [Nat.add_zero,Nat.mul_one] at c1 c2;have HC:Hid ((wr.drew).cell? ⟨b1,o1+j,none⟩=some (.int .i64 x)∧(wr.drew).cell? ⟨b2,o2+j,none⟩=some (.int .i64 y)):=Hd ⟨c1,c2⟩;clear hc1 iD c1 c2;go_wp2_with fail;refine Rw (S:=fun w'=>w'.cell? ⟨b1,o1+j,none⟩=some (.int .i64 x)∧w'.cell? ⟨b2,o2+j,none⟩=some (.int .i64 y)) (by kernel_rfl) HC.out (fun Hh=>?_);refine tk 0 (.slice (some ⟨b1,o1,none⟩) n ca) Hh ?_;refine tk 1 (.int .i64 j) Hh ?_;refine tk 2 (.pointer (some ⟨b1,o1+j,none⟩)) Hh ?_;refine tj 3 (.int .i64 x) Hh ?_ (y:=by intro w' aH;have q1:=aH.1;go_simp)
    refine tk 4 (.slice (some ⟨b2,o2,none⟩) n cb) Hh ?_;refine tk 5 (.int .i64 j) Hh ?_;refine tk 6 (.pointer (some ⟨b2,o2+j,none⟩)) Hh ?_;refine tj 7 (.int .i64 y) Hh ?_ (y:=by intro w' aH;have q1:=aH.2;go_simp);refine tk 8 (.bool (x != y)) Hh ?_;refine Ad (by kernel_rfl) ?_ _;clear Hh HC;obtain ⟨z,hz⟩:∃ z,(x != y)=z:=⟨_,rfl⟩
    rw [hz];have HZ:=Hd hz;clear hz;cases z with
    |true=>
     go_wp2;go_ret;exact ⟨⟨false,rfl,⟨fun h=>(by cases h),fun h=>by subst h;have h1:=fL.out;rw [fP.out] at h1;injection h1 with h1;subst h1;have h2:=HZ.out;simp at h2⟩⟩,HB.out.drew⟩
    |false=>
     have HXY:Hid (x=y):=Hd (by have h2:=HZ.out;simpa using h2);go_wp2;go_roundw
     case rel=>
      refine ⟨j+1,by omega,by go_num,fun t a b ht ha hb=>?_,HB.out.drew⟩;by_cases e:t=j
      ·subst e;rw [fL.out] at ha;rw [fP.out] at hb;injection ha with ha;injection hb with hb;rw [←ha,←hb];exact HXY.out
      ·exact HA.out t a b (by omega) ha hb
     case measure=>simp [intOf];omega
   ·obtain rfl:j=n:=by omega
    have HE:Hid (l1=l2):=Hd (eq_at (by rw [iI.out,mD.out]) fun t x y hx hy=>HA.out t x y (by have:=(List.getElem?_eq_some_iff.1 hx).1;rw [iI.out] at this;exact this) hx hy);go_wp2;go_ret;exact ⟨⟨true,rfl,⟨fun _=>HE.out,fun _=>rfl⟩⟩,HB.out⟩
 ·have HNM:=Hd cC;have e1:((n:Int) != (m:Int))=true:=by simp;omega
  clear h1 h2 cC;go_enter Tryz.func217,Tryz.ntmps217;go_wp2;go_ret;exact ⟨⟨false,rfl,⟨fun h=>(by cases h),fun h=>by subst h;exact absurd (iI.out.symm.trans mD.out) HNM.out⟩⟩,Bf _ _⟩
def graNe (x y:Gra):Bool := !((x.who.toList == y.who.toList)&&(x.group == y.group)&&(x.level == y.level))
theorem graNe_no {x y:Gra} (h:graNe x y=false):x=y:=by
 obtain ⟨a,b,c⟩:=x;obtain ⟨a2,b2,c2⟩:=y;unfold graNe at h;simp at h;obtain ⟨⟨h1,h2⟩,h3⟩:=h;rw [Uv,Uv] at h1;rw [Yh h1,h2,h3]
theorem eqGras_any (A B:Option Addr) (n m ca cb:Nat) (l1 l2:List Gra) (w:Wd) (h1:Sl grC 3 w w.heap.size A n ca l1) (h2:Sl grC 3 w w.heap.size B m cb l2) (hn:n≤1000000) (hm:m≤1000000):
  Calls prog 218 #[.slice A n ca,.slice B m cb] w fun e w'=>(∃ z:Bool,e = .returned (.bool z)∧(z=true↔l1=l2))∧Below w.heap.size w w':=by
 have iI:=Hd h1.len;have mD:=Hd h2.len;by_cases cC:n=m
 ·subst cC;have H1:=Hd h1;have H2:=Hd h2;clear h1 h2 hm;go_enter Tryz.func218,Tryz.ntmps218;go_wp2;go_loopw [13] (fun i wr => ∃ j:Nat,j≤n∧i = .int .i64 j∧(∀ (t:Nat) x y,t<j→l1[t]? =some x→l2[t]? =some y→x=y)∧Below w.heap.size w wr) (fun i _=>n-(intOf i).toNat)
  case atStart=>exact ⟨0,Z0 _,rfl,fun t x y h=>absurd h (by omega),Bf _ _⟩
  case round=>
   obtain ⟨j,hj,rfl,hall,aE⟩:=hrel;have HA:=Hd hall;have HB:=Hd aE;clear hall aE;by_cases aG:j<n
   ·obtain ⟨b1,o1,x,rfl,aJ,hg1,hc1⟩:=Sl.cell (f:=grC) (k:=3) (fun _=>rfl) (H1.out.below HB.out) aG;obtain ⟨b2,o2,y,rfl,aF,dL,iD⟩:=Sl.cell (f:=grC) (k:=3) (fun _=>rfl) (H2.out.below HB.out) aG;have fL:=Hd hg1;have fP:=Hd dL;clear hg1 dL aJ aF;have HC:Hid (wr.drew.rangeAt b1 (o1+j*3) (grC x)∧wr.drew.rangeAt b2 (o2+j*3) (grC y)):=Hd ⟨fun t u hu=>hc1 t u hu,fun t u hu=>iD t u hu⟩;clear hc1 iD;go_wp2_with fail;refine Rw (S:=fun w'=>w'.rangeAt b1 (o1+j*3) (grC x)∧w'.rangeAt b2 (o2+j*3) (grC y)) (by kernel_rfl) HC.out (fun Hh=>?_);refine tk 0 (.slice (some ⟨b1,o1,none⟩) n ca) Hh ?_;refine tk 1 (.int .i64 j) Hh ?_;refine tk 2 (.pointer (some ⟨b1,o1+j*3,none⟩)) Hh ?_
    refine tk 3 (.agg #[.string x.who,.bool x.group,.int .i64 x.level]) Hh ?_ (y:=by exact yieldsIf_load_mid (by rfl) 283 _ rfl b1 (o1+j*3) rfl (grC x) _ (fun w' aH=>aH.1) Tryz.underlying283 rfl (by kernel_rfl));refine tk 4 (.slice (some ⟨b2,o2,none⟩) n cb) Hh ?_;refine tk 5 (.int .i64 j) Hh ?_;refine tk 6 (.pointer (some ⟨b2,o2+j*3,none⟩)) Hh ?_;refine tk 7 (.agg #[.string y.who,.bool y.group,.int .i64 y.level]) Hh ?_ (y:=by exact yieldsIf_load_mid (by rfl) 283 _ rfl b2 (o2+j*3) rfl (grC y) _ (fun w' aH=>aH.2) Tryz.underlying283 rfl (by kernel_rfl));refine tj 8 (.bool (graNe x y)) Hh ?_ (y:=by intro w' aH;go_simp;unfold graNe;by_cases k1:x.who.toList=y.who.toList<;>by_cases k2:x.group=y.group<;>by_cases k3:x.level=y.level<;>simp [k1,k2,k3]);refine Ad (by kernel_rfl) ?_ _;clear Hh HC;obtain ⟨z,hz⟩:∃ z,graNe x y=z:=⟨_,rfl⟩
    rw [hz];have HZ:=Hd hz;clear hz;cases z with
    |true=>
     go_wp2;go_ret;exact ⟨⟨false,rfl,⟨fun h=>(by cases h),fun h=>by subst h;have h1:=fL.out;rw [fP.out] at h1;injection h1 with h1;subst h1;have h2:=HZ.out;simp [graNe] at h2⟩⟩,HB.out.drew⟩
    |false=>
     have HXY:Hid (x=y):=Hd (by have h2:=HZ.out;exact graNe_no h2);go_wp2;go_roundw
     case rel=>
      refine ⟨j+1,by omega,by go_num,fun t a b ht ha hb=>?_,HB.out.drew⟩;by_cases e:t=j
      ·subst e;rw [fL.out] at ha;rw [fP.out] at hb;injection ha with ha;injection hb with hb;rw [←ha,←hb];exact HXY.out
      ·exact HA.out t a b (by omega) ha hb
     case measure=>simp [intOf];omega
   ·obtain rfl:j=n:=by omega
    have HE:Hid (l1=l2):=Hd (eq_at (by rw [iI.out,mD.out]) fun t x y hx hy=>HA.out t x y (by have:=(List.getElem?_eq_some_iff.1 hx).1;rw [iI.out] at this;exact this) hx hy);go_wp2;go_ret;exact ⟨⟨true,rfl,⟨fun _=>HE.out,fun _=>rfl⟩⟩,HB.out⟩
 ·have HNM:=Hd cC;have e1:((n:Int) != (m:Int))=true:=by simp;omega
  clear h1 h2 cC;go_enter Tryz.func218,Tryz.ntmps218;go_wp2;go_ret;exact ⟨⟨false,rfl,⟨fun h=>(by cases h),fun h=>by subst h;exact absurd (iI.out.symm.trans mD.out) HNM.out⟩⟩,Bf _ _⟩
section
def Stop (p:Prop):Prop:=p
theorem Stop.go {p:Prop} (h:Stop p):p:=h
theorem Stop.in' {p:Prop} (h:p):Stop p:=h
section
variable {P:Program} {ops:Array Oper} {rest:List Oper} {o:Oper} {a:Act} {w:Wd} {Q:Exit→Act→Wd→Prop}
theorem Xa (hw:Region.wanted o (yielded ops a.tmps)=true) (v:Value) (w':Wd) (hr:(execOp a.eval o).run P w = .ok (.value v) w') (h:wpList P ops Q rest (a.put o.dst v) w'):wpList P ops Q (o::rest) a w:=
 Yj hw fun _ hK=>by
  unfold Oper.wp;rw [hr];exact hK _ _ h
theorem J4 (hw:Region.wanted o (yielded ops a.tmps)=true) (v:Value) (hr:(execOp a.eval o).run P w = .ok (.value v) w) (h:wpList P ops Q rest (a.put o.dst v) w):wpList P ops Q (o::rest) a w:=Xa hw v w hr h
theorem Wv (v:Value) {a':Act} (h:wpList P ops Q rest a' w) (hw:Region.wanted o (yielded ops a.tmps)=true:=by kernel_rfl) (r:(execOp a.eval o).run P w = .ok (.value v) w:=by kernel_rfl)
  (ha:a.put o.dst v=a':=by conv=>lhs;simp only [Act.put,Sv,Sz,Sw]):wpList P ops Q (o::rest) a w:=by
 subst ha;exact J4 hw v r h
theorem exec_bin {ρ:Operand→Value} {op:BinOp} {T ty:TypeId} {x y:Operand} {p q v:Value} (ho:o.op = .binOp op T x y ty) (hx:ρ x=p) (hy:ρ y=q) (hg:(eqGuard op T x y p q).run P w = .ok () w) (hb:(binOp op T p q).run P w = .ok v w):
  (execOp ρ o).run P w = .ok (.value v) w:=by
 unfold execOp;rw [ho];simp only [hx,hy,Sem.run_bind,hg,hb,Result.andThen_ok];rfl
theorem Gk {ρ:Operand→Value} {T:TypeId} {x y:Operand} {ok:Bool} {p q v:Value} (ho:o.op = .lookup T x y ok) (hx:ρ x=p) (hy:ρ y=q) (hb:(Instr.lookup T p q ok).run P w = .ok v w):
  (execOp ρ o).run P w = .ok (.value v) w:=by
 unfold execOp;rw [ho];simp only [hx,hy,Sem.run_bind,hb,Result.andThen_ok];rfl
theorem V7 (hw:Region.wanted o (yielded ops a.tmps)=true) (f:FuncId) (args:Array Value) (hr:(execOp a.eval o).run P w = .ok (.enter f args) w)
  (h:Calls P f args w fun e w'=>match e with | .returned v=>wpList P ops Q rest (a.put o.dst v) w' | .panicked c=>Q (.panic c) a w' | .outgrown=>LetsOut Q):wpList P ops Q (o::rest) a w:=
 Yj hw fun K hK=>by
  unfold Oper.wp;rw [hr,Oper.upon_enter];refine h.mono ?_;intro e w' he;cases e with
  |returned v=>exact hK _ _ he
  |panicked c=>exact he
  |outgrown=>exact he
def Yi (ops:Array Oper):List Oper→Act→Option Act
 | [],a=>some a
 |o::r,a=>match Region.wanted o (yielded ops a.tmps) with
  |false=>Yi ops r (a.put o.dst undef)
  |true=>match o.op with
   |.move x=>Yi ops r (a.put o.dst (a.eval x))
   |.assign x=>Yi ops r (a.put o.dst (a.eval x))
   |.pick c x y=>match a.eval c with
    |.bool true=>Yi ops r (a.put o.dst (a.eval x))
    |.bool false=>Yi ops r (a.put o.dst (a.eval y))
    |_=>none
   |_=>none
theorem Y9 (ops:Array Oper):∀ (rest:List Oper) (a a':Act),Yi ops rest a=some a'→Q .normal a' w→wpList P ops Q rest a w
 | [],a,a',h,hq=>by
  unfold Yi at h;injection h with h
  subst h;unfold wpList;exact hq
 |o::r,a,a',h,hq=>by
  unfold Yi at h;split at h
  ·rename_i hw;exact wpList_skip hw (Y9 ops r _ a' h hq)
  ·rename_i hw;split at h
   ·rename_i x ho;exact Xa hw (a.eval x) w (by unfold execOp;rw [ho];rfl) (Y9 ops r _ a' h hq)
   ·rename_i x ho;exact Xa hw (a.eval x) w (by unfold execOp;rw [ho];rfl) (Y9 ops r _ a' h hq)
   ·rename_i c x y ho;split at h
    ·rename_i hc;exact Xa hw (a.eval x) w (by unfold execOp;rw [ho];simp only [hc];rfl) (Y9 ops r _ a' h hq)
    ·rename_i hc;exact Xa hw (a.eval y) w (by unfold execOp;rw [ho];simp only [hc];rfl) (Y9 ops r _ a' h hq)
    ·cases h
   ·cases h
theorem Uh (t:Nat) (v:Value) (hr:(Yi ops rest a).map (fun x=>(x.tmps.getD t undef,x.defers))=some (v,[])) (h:∀ a':Act,a'.tmps.getD t undef=v→a'.defers = []→Q .normal a' w):wpList P ops Q rest a w:=by
 cases ht:Yi ops rest a with
 |none=>rw [ht] at hr;cases hr
 |some a'=>
  rw [ht] at hr;simp only [Option.map_some,Option.some.injEq,Prod.mk.injEq] at hr;exact Y9 ops rest a a' ht (h a' hr.1 hr.2)
end
end
end Go.Proofs.YtoakknkmjnebjaaGreatDoor
