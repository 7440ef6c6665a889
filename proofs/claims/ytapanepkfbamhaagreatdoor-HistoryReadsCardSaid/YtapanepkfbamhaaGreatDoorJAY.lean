/- Part of the proof of HistoryReads. -/
import Derived.Test.YtapanepkfbamhaaGreatDoorJAX
namespace Go.Proofs.YtapanepkfbamhaaGreatDoor
open Tryz (prog)
section
set_option maxRecDepth 100000
set_option maxHeartbeats 2000000
open Go.RowKit
def grpW (out:ByteArray) (e:En):ByteArray:=wrN out [e.limit,e.last]++encB e.empty++Yv e.owner
def grpR (k:Int) (nm left:ByteArray):En×ByteArray×Int:=
 let q:=Uj 2 left 0;let b:=Vu q.2.1 q.2.2;let o:=Uh b.2.1 b.2.2 200
 (⟨k,nm,dZ,[],0,q.1.getD 0 0,q.1.getD 1 0,b.1,o.1,⟨#[]⟩,0,0,[]⟩,o.2)
def grpB (e:En):Bool:=wiB 1 63 [e.limit]&&wiB 0 9999 [e.last]&&orW e.owner
def nmP (k:Int) (s:ByteArray) (b:Bool):Prop:=(k=0→b=Xn s)∧(k=1→b=I3 s)
def vaP (k:Int) (e:En) (b:Bool):Prop:=(k=0→b=dataB e)∧(k=1→b=grpB e)
def wrP (k:Int) (e:En) (s:ByteArray):Prop:=(k=0→s=dataW ⟨#[]⟩ e)∧(k=1→s=grpW ⟨#[]⟩ e)
def rdP (k:Int) (nm left:ByteArray) (R:En×ByteArray×Int):Prop:=(k=0→R=Kb k nm left)∧(k=1→R=grpR k nm left)
def BoP (P:Bool→Prop) (w:World) (e:Ending) (w':World):Prop:=(∃ b,P b∧e = .returned (.bool b))∧Below w.heap.size w w'
def FwP (P:ByteArray→Prop) (c:Nat) (w:World) (x:Ending) (w':World):Prop:=x = .returned (.tuple #[])∧∃ s:ByteArray,P s∧s.size≤100000∧Cw w' c s∧Far [c] w w'
def FrP (P:En×ByteArray×Int→Prop) (_c r g:Nat) (k:Int) (nm:ByteArray) (w:World) (x:Ending) (w':World):Prop:=
 x = .returned (.tuple #[])∧∃ (R:En×ByteArray×Int) (a:EnA),P R∧Sm R.1∧R.1.kind=k∧R.1.name=nm∧Rdr w' r R.2.1 R.2.2∧Blk w' g 159 (enC R.1 a).toArray∧EWn w.heap.size w' R.1 a∧Far [r,g] w w'
structure FormOk (k:Int) (nf vf ff:Nat):Prop where
 nm:∀ (s:ByteArray) (W:World),s.size≤1000→Sta W→Calls prog nf #[.string s] W (BoP (nmP k s) W)
 va:∀ (e:En) (a:EnA) (W:World),EW [] W e a→Sm e→Sta W→Calls prog vf #[.agg (enC e a).toArray] W (BoP (vaP k e) W)
 fw:∀ (c g:Nat) (e:En) (a:EnA) (W:World),Cw W c ⟨#[]⟩→Blk W g 159 (enC e a).toArray→EW [c] W e a→Sm e→g≠c→Calls prog ff #[.pointer (some ⟨c,0,none⟩),.pointer (some ⟨g,0,none⟩)] W (FwP (wrP k e) c W)
 fr:∀ (c r g:Nat) (nm left:ByteArray) (W:World),Cr W c r→Rdr W r left 0→Blk W g 159 (enC (enK k nm) enN).toArray→left.size≤1000000→nm.size≤1000→r≠g→c≠r→c≠g →
  Calls prog ff #[.pointer (some ⟨c,0,none⟩),.pointer (some ⟨g,0,none⟩)] W (FrP (rdP k nm left) c r g k nm W)
theorem st_25 (e:En) (a:EnA) (x y:Int):Y7 (enC e a).toArray [25,26] [x,y]=(enC { e with limit:=x,last:=y } a).toArray:=by simp [Y7,enC]
theorem st_27 (e:En) (a:EnA) (x:Bool):(enC e a).toArray.setIfInBounds 27 (.bool x)=(enC { e with empty:=x } a).toArray:=by simp [enC]
theorem st_28 (e:En) (a:EnA) (x:ByteArray):(enC e a).toArray.setIfInBounds 28 (.string x)=(enC { e with owner:=x } a).toArray:=by simp [enC]
theorem st_29 (e:En) (a:EnA) (x:ByteArray):(enC e a).toArray.setIfInBounds 29 (.string x)=(enC { e with target:=x } a).toArray:=by simp [enC]
theorem st_30 (e:En) (a:EnA) (x:Int):(enC e a).toArray.setIfInBounds 30 (.int .i64 x)=(enC { e with catalog:=x } a).toArray:=by simp [enC]
theorem st_31 (e:En) (a:EnA) (x:Int):(enC e a).toArray.setIfInBounds 31 (.int .i64 x)=(enC { e with level:=x } a).toArray:=by simp [enC]
theorem group_w (c g:Nat) (e:En) (a:EnA) (out:ByteArray) (w:World) (hc:Cw w c out) (hg:Blk w g 159 (enC e a).toArray) (hw:EW [c] w e a) (hs:Sm e) (ho:out.size≤100000) (hgc:g≠c):
  Calls prog 191 #[.pointer (some ⟨c,0,none⟩),.pointer (some ⟨g,0,none⟩)] w fun x w'=>x = .returned (.tuple #[])∧Cw w' c (grpW out e)∧Far [c] w w':=by
 have HX:Hid (DwI c g e a w w out):=Hd ⟨hc,hg,hw,Far.refl _ _,hgc⟩;have HX0L:=Hd HX.out.lt;have heo:=hs.eo;have hnu:=hs.nu;simp only [List.mem_cons,List.not_mem_nil,or_false,forall_eq_or_imp,forall_eq] at hnu;obtain ⟨n0,n1,n2,n3,n4,n5,n6,n7,n8,n9,n10,n11,n12,n13,n14,n15,n16,n17,n18,n19,n20,n21⟩:=hnu;have HNL:Hid (∀ n∈[e.limit,e.last],0≤n∧n≤9223372036854775807):=Hd (by simp only [List.mem_cons,List.not_mem_nil,or_false,forall_eq_or_imp,forall_eq];exact ⟨n18,n19⟩);clear n0 n1 n2 n3 n4 n5 n6 n7 n8 n9 n10 n11 n12 n13 n14 n15 n16 n17 n18 n19 n20 n21 hc hg hw hs;unfold grpW;have q1:=Vz [e.limit,e.last] out;simp only [List.length_cons,List.length_nil] at q1;obtain ⟨o1,ho1⟩:∃ o1,wrN out [e.limit,e.last]=o1:=⟨_,rfl⟩
 rw [ho1] at q1 ⊢;obtain ⟨o2,ho2⟩:∃ o2,o1++encB e.empty=o2:=⟨_,rfl⟩
 rw [ho2];have q2:o2.size=o1.size+1:=by rw [←ho2,ByteArray.size_append,Xt]
 have HZ:Hid (o1.size≤1000000000∧o2.size≤1000000000∧e.owner.size≤1000000000):=Hd ⟨by omega,by omega,by omega⟩;have HX1:Hid (DwI c g e a w (w.alloc (.cells #[.pointer (some ⟨g,25,none⟩),.pointer (some ⟨g,26,none⟩)] 179)).drew out):=Hd (HX.out.alloc _).drew;have hne1:w.heap.size≠c:=by have:=HX0L.out.1;omega
 have HPT:Hid (Blk (w.alloc (.cells #[.pointer (some ⟨g,25,none⟩),.pointer (some ⟨g,26,none⟩)] 179)).drew w.heap.size 179 (ptrs g [25,26])):=Hd (Blk.new w _ _).drew;have HCN:Hid (Calls prog 192 #[.pointer (some ⟨c,0,none⟩),.slice (some ⟨w.heap.size,0,none⟩) 2 2] (w.alloc (.cells #[.pointer (some ⟨g,25,none⟩),.pointer (some ⟨g,26,none⟩)] 179)).drew fun x w'=>x = .returned (.tuple #[])∧Cw w' c o1∧Far [c] (w.alloc (.cells #[.pointer (some ⟨g,25,none⟩),.pointer (some ⟨g,26,none⟩)] 179)).drew w'):=Hd (by rw [←ho1];exact cnums_w c g w.heap.size 2 [25,26] [e.limit,e.last] out _ HX1.out.cw (by simp;omega) (by simp) rfl (Yx HPT.out) (Ki (by simp only [List.zip_cons_cons,List.zip_nil_right,List.mem_cons,List.not_mem_nil,or_false,forall_eq_or_imp,forall_eq];exact ⟨HX1.out.cell 25 _ rfl,HX1.out.cell 26 _ rfl⟩)) HNL.out hgc hne1);have HO2:=Hd ho2;clear hne1 heo q1 q2 ho1 ho2 ho
 go_enter Tryz.func191,Tryz.ntmps191;go_wp2_with fail;refine Rw (S:=fun _=>True) (by kernel_rfl) trivial (fun Hh=>?_);refine tk 0 (.pointer (some ⟨c,0,none⟩)) Hh ?_;refine tk 1 (.pointer (some ⟨g,0,none⟩)) Hh ?_;refine tk 2 (.pointer (some ⟨g,0,none⟩)) Hh ?_;refine tk 3 (.pointer (some ⟨g,25,none⟩)) Hh ?_;refine tk 4 (.pointer (some ⟨g,0,none⟩)) Hh ?_;refine tk 5 (.pointer (some ⟨g,0,none⟩)) Hh ?_;refine tk 6 (.pointer (some ⟨g,26,none⟩)) Hh ?_;refine Ar (rs:=[7]) (by kernel_rfl) (by simp) ?_;refine Rc (fun K hK=>?_) ?_
 ·go_simp
  refine hK.out _ _ trivial (fun Hh=>?_);clear hK K;try simp only [Act.put,Sv,Sz,Sw]
  refine Ar (rs:=[8]) (by kernel_rfl) (by simp) ?_;refine Rc (fun K hK=>?_) ?_
  ·go_simp
   refine HCN.out.mono ?_;rintro x w1 ⟨rfl,h1,h2⟩;simp only [];have HX:=Hd (HX1.out.step h1 h2);clear h1 h2;refine hK.out _ _ trivial (fun Hh=>?_);clear hK K;try simp only [Act.put,Sv,Sz,Sw]
   refine Ad (by kernel_rfl) ?_ _;clear Hh HX1 HPT HCN;go_wp2_with (first|(go_at_call 193;refine (Kc c g 27 o1 e.empty _ HX.out.cw HZ.out.1 (HX.out.cell 27 _ rfl)).mono ?_;rintro x w2 ⟨rfl,h1,h2⟩;rw [HO2.out] at h1;have HX:=Hd (HX.out.step h1 h2);clear h1 h2)|(go_at_call 194;refine (Iq c g 28 o2 e.owner _ HX.out.cw (HX.out.cell 28 _ rfl) HZ.out.2.1 HZ.out.2.2).mono ?_;rintro x w2 ⟨rfl,h1,h2⟩;have HX:=Hd (HX.out.step h1 h2);clear h1 h2))
   go_end0
   exact ⟨rfl,HX.out.cw,HX.out.fa⟩
  exact An
 exact An
theorem group_r (c r g:Nat) (k:Int) (nm left:ByteArray) (w:World) (hc:Cr w c r) (hr:Rdr w r left 0) (hg:Blk w g 159 (enC (enK k nm) enN).toArray) (hs:left.size≤1000000) (n1:r≠g) (n2:c≠r) (n3:c≠g):
  Calls prog 191 #[.pointer (some ⟨c,0,none⟩),.pointer (some ⟨g,0,none⟩)] w (DrP c r g (grpR k nm left) w):=by
 have HX0:Hid (DrI c r g w w (enC (enK k nm) enN).toArray left 0):=Hd ⟨hc,hr,hg,Far.refl _ _,n1,n2,n3,hs⟩;have HX0L:=Hd HX0.out.lt;clear hc hr hg hs;have q6:=Xh 2 left 0;have z1:=Yb 2 left 0;obtain ⟨p,hq⟩:∃ p,Uj 2 left 0=p:=⟨_,rfl⟩
 rw [hq] at q6 z1;obtain ⟨ql,l1,r1⟩:=p;obtain ⟨v0,v1,rfl⟩:=list2 q6;have z2:=E5 l1 r1;obtain ⟨p,ht⟩:∃ p,Vu l1 r1=p:=⟨_,rfl⟩
 rw [ht] at z2;obtain ⟨b1,l2,r2⟩:=p;have z3:=(Yw l2 r2 200).2;obtain ⟨p,hv⟩:∃ p,Uh l2 r2 200=p:=⟨_,rfl⟩
 rw [hv] at z3;obtain ⟨s1,l3,r3⟩:=p
 have hR:grpR k nm left=((⟨k,nm,dZ,[],0,v0,v1,b1,s1,⟨#[]⟩,0,0,[]⟩:En),l3,r3):=by
  unfold grpR;simp only [hq,ht,hv];rfl
 rw [hR];have HZ:=Hd (And.intro z1 (And.intro z2 z3));have HE:=Hd (And.intro hq (And.intro ht hv));clear hR q6 z1 z2 z3 hq ht hv;have HX1:Hid (DrI c r g w (w.alloc (.cells #[.pointer (some ⟨g,25,none⟩),.pointer (some ⟨g,26,none⟩)] 179)).drew (enC (enK k nm) enN).toArray left 0):=Hd (HX0.out.alloc _).drew;have hne1:w.heap.size≠r:=by have:=HX0L.out.2.1;omega
 have hne2:w.heap.size≠g:=by have:=HX0L.out.2.2;omega
 have HPT:Hid (Blk (w.alloc (.cells #[.pointer (some ⟨g,25,none⟩),.pointer (some ⟨g,26,none⟩)] 179)).drew w.heap.size 179 (ptrs g [25,26])):=Hd (Blk.new w _ _).drew;have HCN:Hid (Calls prog 192 #[.pointer (some ⟨c,0,none⟩),.slice (some ⟨w.heap.size,0,none⟩) 2 2] (w.alloc (.cells #[.pointer (some ⟨g,25,none⟩),.pointer (some ⟨g,26,none⟩)] 179)).drew fun x w'=>x = .returned (.tuple #[])∧Rdr w' r l1 r1∧Blk w' g 159 (enC { enK k nm with limit:=v0,last:=v1 } enN).toArray∧Far [r,g] (w.alloc (.cells #[.pointer (some ⟨g,25,none⟩),.pointer (some ⟨g,26,none⟩)] 179)).drew w'):=Hd (by have h:=cnums_r c r g w.heap.size 2 2 159 [25,26] (enC (enK k nm) enN).toArray left 0 _ HX1.out.left HX1.out.cr HX1.out.rd HX1.out.bg (by decide) rfl (Yx HPT.out) (nums_ok (by rfl)) n1 hne1 hne2 n2 n3;rw [HE.out.1] at h;rw [st_25] at h;exact h);clear hne1 hne2;go_enter Tryz.func191,Tryz.ntmps191
 go_wp2_with fail;refine Rw (S:=fun _=>True) (by kernel_rfl) trivial (fun Hh=>?_);refine tk 0 (.pointer (some ⟨c,0,none⟩)) Hh ?_;refine tk 1 (.pointer (some ⟨g,0,none⟩)) Hh ?_;refine tk 2 (.pointer (some ⟨g,0,none⟩)) Hh ?_;refine tk 3 (.pointer (some ⟨g,25,none⟩)) Hh ?_;refine tk 4 (.pointer (some ⟨g,0,none⟩)) Hh ?_;refine tk 5 (.pointer (some ⟨g,0,none⟩)) Hh ?_;refine tk 6 (.pointer (some ⟨g,26,none⟩)) Hh ?_;refine Ar (rs:=[7]) (by kernel_rfl) (by simp) ?_;refine Rc (fun K hK=>?_) ?_
 ·go_simp
  refine hK.out _ _ trivial (fun Hh=>?_);clear hK K;try simp only [Act.put,Sv,Sz,Sw]
  refine Ar (rs:=[8]) (by kernel_rfl) (by simp) ?_;refine Rc (fun K hK=>?_) ?_
  ·go_simp
   refine HCN.out.mono ?_;rintro x w1 ⟨rfl,h1,h2,h3⟩;simp only [];have HX:=Hd (HX1.out.step h1 h2 h3 HZ.out.1);clear h1 h2 h3;refine hK.out _ _ trivial (fun Hh=>?_);clear hK K;try simp only [Act.put,Sv,Sz,Sw]
   refine Ad (by kernel_rfl) ?_ _;clear Hh HX1 HPT HCN;go_wp2_with (first|(go_at_call 193;refine (Ic c r g 27 159 _ false l1 r1 _ HX.out.left HX.out.cr HX.out.rd HX.out.bg rfl HX.out.n1).mono ?_;rintro x w2 ⟨rfl,h1,h2,h3⟩;rw [HE.out.2.1] at h1 h2;rw [st_27] at h2;have HX:=Hd (HX.out.step h1 h2 h3 HZ.out.2.1);clear h1 h2 h3)|(go_at_call 194;refine (Ed c r g 28 159 _ ⟨#[]⟩ l2 r2 _ HX.out.left HX.out.cr HX.out.rd HX.out.bg rfl HX.out.n1).mono ?_;rintro x w2 ⟨rfl,h1,h2,h3⟩;rw [HE.out.2.2] at h1 h2;rw [st_28] at h2;have HX:=Hd (HX.out.step h1 h2 h3 HZ.out.2.2);clear h1 h2 h3))
   go_end0
   exact ⟨rfl,enN,HX.out.rd,HX.out.bg,⟨Sl.nil,Sl.nil,fun p hp _=>(by cases hp),fun p hp _=>(by cases hp)⟩,HX.out.fa⟩
  exact An
 exact An
end
section
set_option maxRecDepth 100000
set_option maxHeartbeats 2000000
open Go.RowKit
structure EB (e:En) (a:EnA) (w W:World):Prop where
 e1:Blk W w.heap.size 159 (enC e a).toArray
 be:Below w.heap.size w W
 sz:w.heap.size+1≤W.heap.size
 st:Sta W
theorem EB.next {e:En} {a:EnA} {w W W':World} (h:EB e a w W) (hb:Below W.heap.size W W'):EB e a w W':=
 have hz:=h.sz
 ⟨h.e1.below hb h.e1.lt,U0 h.be hb (by omega),Lx h.sz hb.size,h.st.after hb⟩
theorem EB.alloc {e:En} {a:EnA} {w W:World} (h:EB e a w W) (o:Obj):EB e a w (W.alloc o):=h.next ((Bf _ _).alloc (Le _) o)
theorem EB.cell {e:En} {a:EnA} {w W:World} (h:EB e a w W) (i:Nat) (v:Value) (hv:(enC e a)[i]? =some v):W.cell? ⟨w.heap.size,i,none⟩=some v:=by rw [h.e1.cell];simpa using hv
theorem EB.new (e:En) (a:EnA) (w:World) (h:Sta w):EB e a w (w.alloc (.cells (enC e a).toArray 159)):=
 have hb:Below w.heap.size w (w.alloc (.cells (enC e a).toArray 159)):=(Bf _ _).alloc (Le _) _
 ⟨Blk.new w _ _,hb,by simp,h.after hb⟩
theorem Jn (W:World) (l:List Int) (t:TypeId):Sl V3 1 (W.alloc (.cells (l.map (Value.int .i64)).toArray t)) (W.alloc (.cells (l.map (Value.int .i64)).toArray t)).heap.size (some ⟨W.heap.size,0,none⟩) l.length l.length l:=by
 have h:=Sl.new (f:=V3) (k:=1) (fun _=>rfl) W t l
 have hf:Ua V3 l=l.map (Value.int .i64):=by
  induction l with
  |nil=>rfl
  |cons x r ih=>rw [Vs,ih (Sl.new (f:=V3) (k:=1) (fun _=>rfl) W t r)];rfl
 rw [hf] at h;exact h.more (by simp)
theorem groupV_any (e:En) (a:EnA) (w:World) (hs:Sm e) (ht:Sta w):
  Calls prog 195 #[.agg (enC e a).toArray] w fun x w'=>x = .returned (.bool (grpB e))∧Below w.heap.size w w':=by
 obtain ⟨R,hR⟩:∃ R,grpB e=R:=⟨_,rfl⟩
 rw [hR];have HOK:=Hd hR;have HX:=Hd (EB.new e a w ht);have HEO:Hid (e.owner.size≤maxLen):=Hd (by have:=hs.eo;unfold maxLen;omega);have d25:=HX.out.cell 25 (.int .i64 e.limit) rfl;clear hR hs ht;go_enter Tryz.func195,Tryz.ntmps195;go_wp2_with ((with_reducible show Calls _ _ _ _ _);refine Stop.go ?_);refine Stop.in' ?_;rename_i K hK X hX;obtain ⟨w1,hw1⟩:∃ w1,w.alloc (.cells (enC e a).toArray 159)=w1:=⟨_,rfl⟩
 have hz1:w.heap.size+1=w1.heap.size:=by rw [←hw1];simp
 simp only [hw1] at HX ⊢;simp only [hz1];clear d25 hw1 hz1;have HSN:Hid (Sl V3 1 (w1.alloc (.cells #[.int .i64 e.limit] 3)) (w1.alloc (.cells #[.int .i64 e.limit] 3)).heap.size (some ⟨w1.heap.size,0,none⟩) 1 1 [e.limit]):=Hd (Jn w1 [e.limit] 3);have HX:=Hd (HX.out.alloc (.cells #[.int .i64 e.limit] 3));obtain ⟨W11,hW⟩:∃ V,w1.alloc (.cells #[.int .i64 e.limit] 3)=V:=⟨_,rfl⟩
 simp only [hW] at HX HSN ⊢;clear hW;refine (V5 1 63 _ 1 1 [e.limit] W11 HSN.out (by decide)).mono ?_;rintro x V ⟨rfl,rfl⟩;simp only [];refine hX _ _ ?_;clear hX;obtain ⟨q,hq⟩:∃ q,wiB 1 63 [e.limit]=q:=⟨_,rfl⟩
 rw [hq];cases q with
 |false=>
  have HF:R=false:=by rw [←HOK.out];unfold grpB;simp [hq]
  exact Uf 2 (.bool false) (by kernel_rfl) (by intro a' h4 hd;simp only [Exit.then];refine hK _ _ ?_;go_wp2;exact Br (v:=.bool false) ((results_tmp Tryz.results195 a'.tmps _ _).trans (by rw [h4])) hd ⟨by rw [HF],HX.out.be⟩)
 |true=>
  have k0:=Hd hq;clear hq;refine Wv (.bool true) ?_;refine Wv (.pointer (some ⟨w.heap.size,26,none⟩)) ?_;have m1:=HX.out.cell 26 (.int .i64 e.last) rfl;refine Wv (.int .i64 e.last) ?_ (r:=by go_simp);clear m1;refine X0 (by kernel_rfl) (.slice (some ⟨W11.heap.size,0,none⟩) 1 1) (W11.alloc (.cells #[.int .i64 e.last] 3)) (by go_simp) ?_;simp only [Act.put,Sv,Sz,Sw];have HSN:Hid (Sl V3 1 (W11.alloc (.cells #[.int .i64 e.last] 3)) (W11.alloc (.cells #[.int .i64 e.last] 3)).heap.size (some ⟨W11.heap.size,0,none⟩) 1 1 [e.last]):=Hd (Jn W11 [e.last] 3);have HX:=Hd (HX.out.alloc (.cells #[.int .i64 e.last] 3));obtain ⟨W12,hW⟩:∃ V,W11.alloc (.cells #[.int .i64 e.last] 3)=V:=⟨_,rfl⟩
  simp only [hW] at HX HSN ⊢;clear hW;refine V0 (by kernel_rfl) 196 #[.int .i64 0,.int .i64 9999,.slice (some ⟨W11.heap.size,0,none⟩) 1 1] (by kernel_rfl) ?_;refine (V5 0 9999 _ 1 1 [e.last] W12 HSN.out (by decide)).mono ?_;rintro x V ⟨rfl,rfl⟩;simp only [];simp only [Act.put,Sv,Sz,Sw];obtain ⟨q,hq⟩:∃ q,wiB 0 9999 [e.last]=q:=⟨_,rfl⟩
  rw [hq];cases q with
  |false=>
   have HF:R=false:=by rw [←HOK.out];unfold grpB;simp [hq]
   exact Uf 2 (.bool false) (by kernel_rfl) (by intro a' h4 hd;simp only [Exit.then];refine hK _ _ ?_;go_wp2;exact Br (v:=.bool false) ((results_tmp Tryz.results195 a'.tmps _ _).trans (by rw [h4])) hd ⟨by rw [HF],HX.out.be⟩)
  |true=>
   have k1:=Hd hq;clear hq;refine Wv (.bool true) ?_;refine Wv (.bool true) ?_;refine Wv (.pointer (some ⟨w.heap.size,28,none⟩)) ?_;have m1:=HX.out.cell 28 (.string e.owner) rfl;refine Wv (.string e.owner) ?_ (r:=by go_simp);clear m1;refine Wv (.bool (e.owner.toList == [])) ?_;obtain ⟨z,hz⟩:∃ z,(e.owner.toList == [])=z:=⟨_,rfl⟩
   rw [hz];cases z with
   |true=>
    have HF:R=true:=by rw [←HOK.out];unfold grpB orW;rw [k0.out,k1.out,decide_eq_true (beq_iff_eq.1 hz)];rfl
    exact Uf 2 (.bool true) (by kernel_rfl) (by intro a' h4 hd;simp only [Exit.then];refine hK _ _ ?_;go_wp2;exact Br (v:=.bool true) ((results_tmp Tryz.results195 a'.tmps _ _).trans (by rw [h4])) hd ⟨by rw [HF],HX.out.be⟩)
   |false=>
    refine Wv (.bool false) ?_;refine Wv (.pointer (some ⟨w.heap.size,28,none⟩)) ?_;have m1:=HX.out.cell 28 (.string e.owner) rfl;refine Wv (.string e.owner) ?_ (r:=by go_simp);clear m1;refine V0 (by kernel_rfl) 197 #[.string e.owner] (by kernel_rfl) ?_;refine (Z1 e.owner W12 HEO.out HX.out.st.mx).mono ?_;rintro x V ⟨rfl,hb⟩;have HX:=Hd (HX.out.next hb);clear hb;simp only [];simp only [Act.put,Sv,Sz,Sw];have HF:R=Ix e.owner:=by rw [←HOK.out];unfold grpB orW;rw [k0.out,k1.out,decide_eq_false (fun h=>by rw [h] at hz;cases hz)];rfl
    obtain ⟨q,hq⟩:∃ q,Ix e.owner=q:=⟨_,rfl⟩
    rw [hq] at HF ⊢;exact Uf 2 (.bool q) (by cases q<;>kernel_rfl) (by intro a' h4 hd;simp only [Exit.then];refine hK _ _ ?_;go_wp2;exact Br (v:=.bool q) ((results_tmp Tryz.results195 a'.tmps _ _).trans (by rw [h4])) hd ⟨by rw [HF],HX.out.be⟩)
theorem aliasN_any (s:ByteArray) (w:World) (hs:s.size≤1000) (ht:Sta w):Calls prog 198 #[.string s] w (BoolG w):=by
 have HS:=Hd (split_any s w (by omega) ht.mx);have HV:=Hd fun W (h:Sta W)=>Xs s W (by unfold maxLen;omega) h.mx
 have HT:=Hd ht;clear hs ht;go_enter Tryz.func198,Tryz.ntmps198;go_wp2_with (first|(go_at_call 199;refine HS.out.mono ?_;rintro e w1 ⟨rfl,h1⟩;have H1:=Hd h1;have HT1:=Hd (HT.out.after h1);clear h1)|(go_at_call 187;refine (HV.out _ HT1.out).mono ?_;rintro e w2 ⟨rfl,h2⟩;have H2:=Hd (U0 H1.out h2 H1.out.size);clear h2;generalize Xn s=z;cases z))
 all_goals
  go_ret;exact ⟨⟨_,rfl⟩,H2.out⟩
theorem catN_any (s:ByteArray) (w:World) (hs:s.size≤1000) (ht:Sta w):Calls prog 202 #[.string s] w (BoolG w):=by
 have HV:=Hd (Xs s w (by unfold maxLen;omega) ht.mx);have HC:=Hd fun W=>Tryz.strings_Count_one s 46 W
 generalize (Lib.countByte s.data.toList 46)=n at HC;clear hs ht;go_enter Tryz.func202,Tryz.ntmps202;go_wp2_with (first|(go_at_call 187;refine HV.out.mono ?_;rintro e w1 ⟨rfl,h1⟩;have H1:=Hd h1;clear h1;generalize Xn s=z;cases z)|(go_at_call 203;refine (HC.out _).mono ?_;rintro e w2 ⟨rfl,rfl⟩))
 all_goals
  go_ret;exact ⟨⟨_,rfl⟩,H1.out⟩
theorem aliasV_any (e:En) (a:EnA) (w:World) (hs:Sm e) (ht:Sta w):Calls prog 201 #[.agg (enC e a).toArray] w (BoolG w):=by
 have HX:=Hd (EB.new e a w ht);have c29:=HX.out.cell 29 (.string e.target) rfl;have HV:=Hd (Xs e.target _ (by have:=hs.ta;unfold maxLen;omega) HX.out.st.mx);clear hs ht;go_enter Tryz.func201,Tryz.ntmps201;go_wp2_with (go_at_call 187;refine HV.out.mono ?_;rintro x w1 ⟨rfl,h1⟩;have H1:=Hd (HX.out.next h1);have d29:=H1.out.cell 29 (.string e.target) rfl;have d1:=H1.out.cell 1 (.string e.name) rfl;clear h1 c29;generalize Xn e.target=z;cases z)
 all_goals
  go_ret;exact ⟨⟨_,rfl⟩,H1.out.be⟩
theorem catV_any (e:En) (a:EnA) (w:World) (ht:Sta w):Calls prog 206 #[.agg (enC e a).toArray] w (BoolG w):=by
 have HX:=Hd (EB.new e a w ht);have c30:=HX.out.cell 30 (.int .i64 e.catalog) rfl;have HW:Hid (Calls prog 196 #[.int .i64 1,.int .i64 15,.slice (some ⟨w.heap.size+1,0,none⟩) 1 1] ((w.alloc (.cells (enC e a).toArray 159)).alloc (.cells #[.int .i64 e.catalog] 3)) fun x w'=>x = .returned (.bool (wiB 1 15 [e.catalog]))∧((w.alloc (.cells (enC e a).toArray 159)).alloc (.cells #[.int .i64 e.catalog] 3))=w'):=Hd (by have hsl:=Jn (w.alloc (.cells (enC e a).toArray 159)) [e.catalog] 3;rw [show (w.alloc (.cells (enC e a).toArray 159)).heap.size=w.heap.size+1 from by simp] at hsl;exact V5 1 15 _ 1 1 [e.catalog] _ hsl (by decide));have HBB:Hid (Below w.heap.size w ((w.alloc (.cells (enC e a).toArray 159)).alloc (.cells #[.int .i64 e.catalog] 3))):=Hd (HX.out.alloc _).be;clear ht;go_enter Tryz.func206,Tryz.ntmps206
 go_wp2_with (go_at_call 196;refine HW.out.mono ?_;rintro x w1 ⟨rfl,rfl⟩);go_ret;exact ⟨⟨_,rfl⟩,HBB.out⟩
end
section
set_option maxRecDepth 100000
set_option maxHeartbeats 4000000
open Go.RowKit
theorem profile_w (c g:Nat) (e:En) (a:EnA) (w:World) (hc:Cw w c ⟨#[]⟩) (hg:Blk w g 159 (enC e a).toArray) (hw:EW [c] w e a) (hs:Sm e) (hgc:g≠c):
  Calls prog 208 #[.pointer (some ⟨c,0,none⟩),.pointer (some ⟨g,0,none⟩)] w (FwP (fun _=>True) c w):=by
 obtain ⟨A,C,gA,gC⟩:=a;have HX:Hid (DwI c g e ⟨A,C,gA,gC⟩ w w ⟨#[]⟩):=Hd ⟨hc,hg,hw,Far.refl _ _,hgc⟩;have HS:=Hd hs;have hlg:=hs.lg;have hnu:=hs.nu;simp only [List.mem_cons,List.not_mem_nil,or_false,forall_eq_or_imp,forall_eq] at hnu;obtain ⟨n0,n1,n2,n3,n4,n5,n6,n7,n8,n9,n10,n11,n12,n13,n14,n15,n16,n17,n18,n19,n20,n21⟩:=hnu;have HLV:=Hd n21;have q1:=V1 e.level;have q2:=Xi e.owner;have q3:=hs.eo;obtain ⟨o1,ho1⟩:∃ o1,(⟨#[]⟩:ByteArray)++Yk e.level=o1:=⟨_,rfl⟩
 obtain ⟨o2,ho2⟩:∃ o2,o1++Yv e.owner=o2:=⟨_,rfl⟩
 obtain ⟨o3,ho3⟩:∃ o3,o2++Yk e.grants.length=o3:=⟨_,rfl⟩
 have q4:=V1 e.grants.length;have z1:o1.size≤10:=by have h0:(⟨#[]⟩:ByteArray).size=0:=rfl;rw [←ho1,ByteArray.size_append];omega
 have z2:o2.size≤1030:=by rw [←ho2,ByteArray.size_append];omega
 have z3:o3.size≤1050:=by rw [←ho3,ByteArray.size_append];omega
 have HO:=Hd (And.intro ho1 (And.intro ho2 ho3));have HZ:Hid (o1.size≤1000000000∧o2.size≤1000000000∧e.owner.size≤1000000000):=Hd ⟨by omega,by omega,by omega⟩;clear n0 n1 n2 n3 n4 n5 n6 n7 n8 n9 n10 n11 n12 n13 n14 n15 n16 n17 n18 n19 n20 n21 hc hg hw hs q1 q2 q3 q4 z1 z2 ho1 ho2 ho3;go_enter Tryz.func208,Tryz.ntmps208
 go_wp2_with (first|(go_at_call 205;(with_reducible show Calls _ _ #[_,.pointer (some ⟨_,31,none⟩)] _ _);refine (Id c g 31 ⟨#[]⟩ e.level _ HX.out.cw (HX.out.cell 31 _ rfl) (by decide) HLV.out.1 HLV.out.2).mono ?_;rintro x w2 ⟨rfl,h1,h2⟩;rw [HO.out.1] at h1;have HX:=Hd (HX.out.step h1 h2);clear h1 h2)|(go_at_call 194;(with_reducible show Calls _ _ #[_,.pointer (some ⟨_,28,none⟩)] _ _);refine (Iq c g 28 o1 e.owner _ HX.out.cw (HX.out.cell 28 _ rfl) HZ.out.1 HZ.out.2.2).mono ?_;rintro x w2 ⟨rfl,h1,h2⟩;rw [HO.out.2.1] at h1;have HX:=Hd (HX.out.step h1 h2);have c32:=HX.out.cell 32 (.slice gA e.grants.length gC) rfl;clear h1 h2)|(go_at_call 248;refine (ccount_w c o2 e.grants.length 8 _ HX.out.cw HZ.out.2.1 (by omega) (by omega) (by decide) (by decide)).mono ?_;rintro x w2 ⟨rfl,h1,h2⟩;rw [HO.out.2.2] at h1;have HX:=Hd (HX.out.step h1 h2);have c1:=HX.out.cw.c1;clear c32;have c32:=HX.out.cell 32 (.slice gA e.grants.length gC) rfl;clear h1 h2))
 clear c1 c32;have HX2:=HX;clear HX;go_loopw [43] (fun i wr => ∃ (j:Nat) (o:ByteArray),j≤e.grants.length∧i = .int .i64 j∧o.size≤1050+1100*j∧DwI c g e ⟨A,C,gA,gC⟩ w wr o) (fun i _=>e.grants.length-(intOf i).toNat)
 case atStart=>exact ⟨0,o3,Z0 _,rfl,by omega,HX2.out⟩
 case round=>
  obtain ⟨j,o,hj,rfl,hz,hx⟩:=hrel;have HXr:=Hd hx;clear hx HX2;by_cases hlt:j<e.grants.length
  ·obtain ⟨b,p,x,hA,hb,hg,hcell⟩:=Sl.cell (f:=grC) (k:=3) (fun _=>rfl) HXr.out.ew.sg hlt
   have hA':gA=some ⟨b,p,none⟩:=hA;subst hA';have hne:=HXr.out.ew.ng _ rfl (by omega);have k0:=hcell 0 _ rfl;have k1:=hcell 1 _ rfl;have k2:=hcell 2 _ rfl;simp only [Nat.add_zero] at k0;have hr:=HS.out.gr x (List.mem_of_getElem? hg);have HK:=Hd (And.intro k0 (And.intro k1 (And.intro k2 (show b≠c from by simpa using hne))));have HR:=Hd hr;have c32:=HXr.out.cell 32 (.slice (some ⟨b,p,none⟩) e.grants.length gC) rfl;have u1:=Xi x.who;have u2:=V1 x.level;have HU:Hid (o.size≤1000000000∧(o++Yv x.who).size≤1000000000∧(o++Yv x.who++encB x.group).size≤1000000000∧(o++Yv x.who++encB x.group++Yk x.level).size≤1050+1100*(j+1)):=Hd ⟨by omega,by rw [ByteArray.size_append];omega,by rw [ByteArray.size_append,ByteArray.size_append,Xt];omega,by rw [ByteArray.size_append,ByteArray.size_append,ByteArray.size_append,Xt];omega⟩
   have HT1:=Hd (Iq c b (p+j*3) o x.who wr HXr.out.cw k0 HU.out.1 (by omega));clear hA hb hg hcell hne k0 k1 k2 hr u1 u2;go_wp2_with (first|(go_at_call 194;refine HT1.out.mono ?_;rintro y w2 ⟨rfl,h1,h2⟩;have HY:=Hd (HXr.out.step h1 h2);have HT2:=Hd (Kc c b (p+j*3+1) _ x.group w2 HY.out.cw HU.out.2.1 (Zz HK.out.2.1 h2 (by simpa using HK.out.2.2.2)));have HT3:=Hd (Zz HK.out.2.2.1 h2 (by simpa using HK.out.2.2.2));clear h1 h2)|(go_at_call 193;refine HT2.out.mono ?_;rintro y w3 ⟨rfl,h1,h2⟩;have HY:=Hd (HY.out.step h1 h2);have HT4:=Hd (Id c b (p+j*3+2) _ x.level w3 HY.out.cw (Zz HT3.out h2 (by simpa using HK.out.2.2.2)) HU.out.2.2.1 HR.out.2.1 HR.out.2.2);clear h1 h2)|(go_at_call 205;refine HT4.out.mono ?_;rintro y w4 ⟨rfl,h1,h2⟩;have HY:=Hd (HY.out.step h1 h2);clear h1 h2));go_roundw
   case rel=>exact ⟨j+1,_,by omega,by go_num,HU.out.2.2.2,HY.out⟩
   case measure=>simp [intOf];omega
  ·obtain rfl:j=e.grants.length:=by omega
   have c32:=HXr.out.cell 32 (.slice gA e.grants.length gC) rfl;go_wp2
   go_end0
   exact ⟨rfl,o,trivial,by omega,HXr.out.cw,HXr.out.fa⟩
end
section
open Go.RowKit
theorem infoGra:(prog.info? 283).map (fun i=>(i.zero,i.size,i.bytes))=some (some (.agg #[.string ⟨#[]⟩,.bool false,.int .i64 0]),3,32):=by kernel_rfl
theorem made_gra (n t k:Nat) (h:t<n) (hk:k<3):(madeCells #[.string ⟨#[]⟩,.bool false,.int .i64 0] (n*3))[t*3+k]? =#[Value.string ⟨#[]⟩,.bool false,.int .i64 0][k]?:=by
 unfold madeCells;rw [Array.getElem?_map,Array.getElem?_range];have h1:t*3+k<n*3:=by omega
 have h2:(t*3+k) % 3=k:=by omega
 have hk':k=0∨k=1∨k=2:=by omega
 simp only [h1,if_true,Option.map_some];rcases hk' with rfl|rfl|rfl<;>simp [h2]
def GraAt (cs:Array Value) (t:Nat):Prop:=∃ x:Gra,x.who.size≤1000∧0≤x.level∧x.level≤9223372036854775807∧cs[t*3]? =some (.string x.who)∧cs[t*3+1]? =some (.bool x.group)∧cs[t*3+2]? =some (.int .i64 x.level)
def GraB (W:World) (h n:Nat):Prop:=∃ cs:Array Value,Blk W h 283 cs∧cs.size=n*3∧∀ t,t<n→GraAt cs t
theorem GraAt.s0 {cs:Array Value} {t j:Nat} (h:GraAt cs t) (s:ByteArray) (hs:s.size≤1000):GraAt (cs.setIfInBounds (j*3) (.string s)) t:=by
 obtain ⟨x,h1,h2,h3,k0,k1,k2⟩:=h;by_cases e:j=t
 ·subst e
  exact ⟨⟨s,x.group,x.level⟩,hs,h2,h3,Array.getElem?_setIfInBounds_self_of_lt (Array.getElem?_eq_some_iff.1 k0).1,by rw [Array.getElem?_setIfInBounds_ne (by omega)];exact k1,by rw [Array.getElem?_setIfInBounds_ne (by omega)];exact k2⟩
 ·exact ⟨x,h1,h2,h3,by rw [Array.getElem?_setIfInBounds_ne (by omega)];exact k0,by rw [Array.getElem?_setIfInBounds_ne (by omega)];exact k1,by rw [Array.getElem?_setIfInBounds_ne (by omega)];exact k2⟩
theorem GraAt.s1 {cs:Array Value} {t j:Nat} (h:GraAt cs t) (b:Bool):GraAt (cs.setIfInBounds (j*3+1) (.bool b)) t:=by
 obtain ⟨x,h1,h2,h3,k0,k1,k2⟩:=h;by_cases e:j=t
 ·subst e
  exact ⟨⟨x.who,b,x.level⟩,h1,h2,h3,by rw [Array.getElem?_setIfInBounds_ne (by omega)];exact k0,Array.getElem?_setIfInBounds_self_of_lt (Array.getElem?_eq_some_iff.1 k1).1,by rw [Array.getElem?_setIfInBounds_ne (by omega)];exact k2⟩
 ·exact ⟨x,h1,h2,h3,by rw [Array.getElem?_setIfInBounds_ne (by omega)];exact k0,by rw [Array.getElem?_setIfInBounds_ne (by omega)];exact k1,by rw [Array.getElem?_setIfInBounds_ne (by omega)];exact k2⟩
theorem GraAt.s2 {cs:Array Value} {t j:Nat} (h:GraAt cs t) (m:Int) (m0:0≤m) (m1:m≤9223372036854775807):GraAt (cs.setIfInBounds (j*3+2) (.int .i64 m)) t:=by
 obtain ⟨x,h1,h2,h3,k0,k1,k2⟩:=h;by_cases e:j=t
 ·subst e
  exact ⟨⟨x.who,x.group,m⟩,h1,m0,m1,by rw [Array.getElem?_setIfInBounds_ne (by omega)];exact k0,by rw [Array.getElem?_setIfInBounds_ne (by omega)];exact k1,Array.getElem?_setIfInBounds_self_of_lt (Array.getElem?_eq_some_iff.1 k2).1⟩
 ·exact ⟨x,h1,h2,h3,by rw [Array.getElem?_setIfInBounds_ne (by omega)];exact k0,by rw [Array.getElem?_setIfInBounds_ne (by omega)];exact k1,by rw [Array.getElem?_setIfInBounds_ne (by omega)];exact k2⟩
theorem list_of {α:Type} {P:Nat→α→Prop}:∀ n:Nat,(∀ t,t<n→∃ x,P t x)→∃ l:List α,l.length=n∧∀ (t:Nat) (x:α),l[t]? =some x→P t x
 |0,_=>⟨[],rfl,fun t x h=>by simp at h⟩
 |n+1,h=>by
  obtain ⟨l,hl,hp⟩:=list_of n fun t ht=>h t (by omega)
  obtain ⟨x,hx⟩:=h n (by omega);refine ⟨l++[x],by simp [hl],fun t y hy=>?_⟩;rw [List.getElem?_append] at hy;split at hy
  ·exact hp t y hy
  ·have e:t-l.length=0:=by
    rcases Nat.eq_zero_or_pos (t-l.length) with h0|h0
    ·exact h0
    ·rw [List.getElem?_eq_none (by simp;omega)] at hy;cases hy
   rw [e] at hy;simp at hy;subst hy;have:t=n:=by omega
   rw [this];exact hx
theorem GraB.sl {W:World} {h n:Nat} (k:GraB W h n):∃ l:List Gra,l.length=n∧Sl grC 3 W W.heap.size (some ⟨h,0,none⟩) n n l∧∀ x∈l,x.who.size≤1000∧0≤x.level∧x.level≤9223372036854775807:=by
 obtain ⟨cs,hb,hz,hc⟩:=k;obtain ⟨l,hl,hp⟩:=list_of n hc;refine ⟨l,hl,⟨Le _,hl,by rw [Vm (k:=3) (fun _=>rfl),hl],fun _=>⟨h,0,rfl,hb.lt,fun j u hu=>?_⟩⟩,fun x hx=>?_⟩
 ·rw [Nat.zero_add,hb.cell]
  have hj:j<l.length*3:=by
   have:=(List.getElem?_eq_some_iff.1 hu).1
   rwa [Vm (k:=3) (fun _=>rfl)] at this
  obtain ⟨t,k,rfl,hk⟩:∃ t k,j=t*3+k∧k<3:=⟨j / 3,j % 3,by omega,by omega⟩
  have ht:t<l.length:=by omega
  have hg:=Xx (f:=grC) (k:=3) (fun _=>rfl) l t l[t] (List.getElem?_eq_getElem ht) k hk;rw [hg] at hu;obtain ⟨_,_,_,k0,k1,k2⟩:=hp t l[t] (List.getElem?_eq_getElem ht);have hk':k=0∨k=1∨k=2:=by omega
  rcases hk' with rfl|rfl|rfl
  ·rw [←hu];exact k0
  ·rw [←hu];exact k1
  ·rw [←hu];exact k2
 ·obtain ⟨t,ht,rfl⟩:=List.getElem_of_mem hx
  obtain ⟨h1,h2,h3,_⟩:=hp t l[t] (List.getElem?_eq_getElem ht);exact ⟨h1,h2,h3⟩
end
section
set_option maxRecDepth 100000
set_option maxHeartbeats 4000000
open Go.RowKit
theorem st_32 (e:En) (a:EnA) (h n:Nat) (gl:List Gra) (hl:gl.length=n):(enC e a).toArray.setIfInBounds 32 (.slice (some ⟨h,0,none⟩) n n)=(enC { e with grants:=gl } ⟨a.aA,a.aC,some ⟨h,0,none⟩,n⟩).toArray:=by subst hl;simp [enC]
theorem make_gras (n:Nat) (hn:n≤1000) (W:World):(Instr.makeSlice 157 (.int .i64 n) (.int .i64 n)).run prog W = .ok (.slice (some ⟨W.heap.size,0,none⟩) n n) (W.alloc (.cells (madeCells #[.string ⟨#[]⟩,.bool false,.int .i64 0] (n*3)) 283)):=by
 obtain ⟨i0,hi0,hz0,hz1,hz2⟩:=info_parts infoGra;have hmk:=run_make (P:=prog) (w:=W) 157 283 i0 _ Tryz.underlying157 hi0 hz0 .i64 .i64 (n:Int) (n:Int) (by omega) (Int.le_refl _) (by rw [hz2];omega) (by omega);rw [hz1] at hmk;simp only [Int.toNat_natCast] at hmk;exact hmk
theorem gra_new (W:World) (n:Nat):GraB (W.alloc (.cells (madeCells #[.string ⟨#[]⟩,.bool false,.int .i64 0] (n*3)) 283)) W.heap.size n:=by
 refine ⟨_,Blk.new W _ _,by simp [madeCells],fun t ht=>⟨⟨⟨#[]⟩,false,0⟩,by decide,by decide,by decide,?_,?_,?_⟩⟩
 ·exact (made_gra n t 0 ht (by decide)).trans rfl
 ·exact (made_gra n t 1 ht (by decide)).trans rfl
 ·exact (made_gra n t 2 ht (by decide)).trans rfl
theorem enK_sm (k:Int) (nm:ByteArray) (hnm:nm.size≤1000) (v:Int) (hv:0≤v∧v≤1099511627777) (s:ByteArray) (hs:s.size≤1000) (gl:List Gra) (hl:gl.length≤9) (hg:∀ x∈gl,x.who.size≤1000∧0≤x.level∧x.level≤9223372036854775807):
  Sm { enK k nm with level:=v,owner:=s,grants:=gl }:=
 ⟨hnm,by show (0:Nat)≤1000;omega,by show (0:Nat)≤1000;omega,hs,by show (0:Nat)≤1000;omega,by show (0:Nat)≤5;omega,hl,fun n h=>(by cases h),hg,by
  simp only [enK,dZ,List.mem_cons,List.not_mem_nil,or_false,forall_eq_or_imp,forall_eq];refine ⟨?_,?_,?_,?_,?_,?_,?_,?_,?_,?_,?_,?_,?_,?_,?_,?_,?_,?_,?_,?_,?_,?_⟩<;>omega⟩
theorem profile_r (c r g:Nat) (k:Int) (nm left:ByteArray) (w:World) (hc:Cr w c r) (hr:Rdr w r left 0) (hg:Blk w g 159 (enC (enK k nm) enN).toArray) (hs:left.size≤1000000) (hnm:nm.size≤1000) (n1:r≠g) (n2:c≠r) (n3:c≠g):
  Calls prog 208 #[.pointer (some ⟨c,0,none⟩),.pointer (some ⟨g,0,none⟩)] w (FrP (fun _=>True) c r g k nm w):=by
 have HX:Hid (DrI c r g w w (enC (enK k nm) enN).toArray left 0):=Hd ⟨hc,hr,hg,Far.refl _ _,n1,n2,n3,hs⟩;clear hc hr hg;have z1:=Xf left 0;have v1r:=V6 left 0;obtain ⟨p,h1⟩:∃ p,Uu left 0=p:=⟨_,rfl⟩
 rw [h1] at z1 v1r;obtain ⟨v1,l1,r1⟩:=p;have z2:=(Yw l1 r1 200).2;have s1r:=Za l1 r1;obtain ⟨p,h2⟩:∃ p,Uh l1 r1 200=p:=⟨_,rfl⟩
 rw [h2] at z2 s1r;obtain ⟨s1,l2,r2⟩:=p;have z3:=Xf l2 r2;have v2r:=V6 l2 r2;obtain ⟨p,h3⟩:∃ p,Uu l2 r2=p:=⟨_,rfl⟩
 rw [h3] at z3 v2r;obtain ⟨v2,l3,r3⟩:=p;simp only at z1 z2 z3 v1r v2r s1r;obtain ⟨n,hcn⟩:∃ n:Nat,Zl v2 8=n:=⟨(Zl v2 8).toNat,by unfold Zl;split<;>omega⟩
 have hn9:n≤9:=by
  have:Zl v2 8≤9:=by unfold Zl;split<;>omega
  omega
 have HS1:Hid (s1.size≤1000∧(0≤v1∧v1≤1099511627777)):=Hd ⟨by omega,v1r⟩;have HZ:=Hd (And.intro z1 (And.intro z2 z3));have HE:=Hd (And.intro h1 (And.intro h2 h3));have HCN:=Hd hcn;have HNM:=Hd hnm;clear h1 h2 h3 z1 z2 z3 v1r v2r s1r hcn hs hnm;go_enter Tryz.func208,Tryz.ntmps208;by_cases h0:n=0
 ·subst h0
  go_wp2_with (first|(go_at_call 205;(with_reducible show Calls _ _ #[_,.pointer (some ⟨_,31,none⟩)] _ _);refine (Zk c r g 31 159 _ 0 left 0 _ HX.out.left HX.out.cr HX.out.rd HX.out.bg rfl HX.out.n1).mono ?_;rintro x w2 ⟨rfl,h1,h2,h3⟩;rw [HE.out.1] at h1 h2;rw [st_31] at h2;have HX:=Hd (HX.out.step h1 h2 h3 HZ.out.1);clear h1 h2 h3)|(go_at_call 194;(with_reducible show Calls _ _ #[_,.pointer (some ⟨_,28,none⟩)] _ _);refine (Ed c r g 28 159 _ ⟨#[]⟩ l1 r1 _ HX.out.left HX.out.cr HX.out.rd HX.out.bg rfl HX.out.n1).mono ?_;rintro x w2 ⟨rfl,h1,h2,h3⟩;rw [HE.out.2.1] at h1 h2;rw [st_28] at h2;have HX:=Hd (HX.out.step h1 h2 h3 HZ.out.2.1);have c32:=(HX.out.bg.cell 32).trans (show _=some (Value.slice none 0 0) from rfl);clear h1 h2 h3)|(go_at_call 248;refine (Kg c r 0 8 l2 r2 _ HX.out.left HX.out.cr HX.out.rd (by decide) (by decide)).mono ?_;rintro x w2 ⟨rfl,h1⟩;rw [HE.out.2.2] at h1 ⊢;simp only at h1 ⊢;rw [HCN.out];have HX:=Hd (HX.out.rr h1 HZ.out.2.2);have c1:=HX.out.cr.c1;clear c32;have c32:=(HX.out.bg.cell 32).trans (show _=some (Value.slice none 0 0) from rfl);clear h1))
  refine Lu 1 ?_;rw [Rs];go_wp2
  go_end0
  refine ⟨rfl,({ { enK k nm with level:=v1 } with owner:=s1 },l3,r3),enN,trivial,?_,rfl,rfl,HX.out.rd,HX.out.bg,⟨Sl.nil,Sl.nil,fun p hp _=>(by cases hp),fun p hp _=>(by cases hp)⟩,HX.out.fa⟩;exact enK_sm k nm HNM.out v1 HS1.out.2 s1 HS1.out.1 [] (by simp) (fun x h=>by cases h)
 ·have hmk0:=Hd (make_gras n (by omega))
  have hpos:decide ((0:Int)<(n:Int))=true:=decide_eq_true (by omega)
  go_wp2_with (first|(go_at_call 205;(with_reducible show Calls _ _ #[_,.pointer (some ⟨_,31,none⟩)] _ _);refine (Zk c r g 31 159 _ 0 left 0 _ HX.out.left HX.out.cr HX.out.rd HX.out.bg rfl HX.out.n1).mono ?_;rintro x w2 ⟨rfl,h1,h2,h3⟩;rw [HE.out.1] at h1 h2;rw [st_31] at h2;have HX:=Hd (HX.out.step h1 h2 h3 HZ.out.1);clear h1 h2 h3)|(go_at_call 194;(with_reducible show Calls _ _ #[_,.pointer (some ⟨_,28,none⟩)] _ _);refine (Ed c r g 28 159 _ ⟨#[]⟩ l1 r1 _ HX.out.left HX.out.cr HX.out.rd HX.out.bg rfl HX.out.n1).mono ?_;rintro x w2 ⟨rfl,h1,h2,h3⟩;rw [HE.out.2.1] at h1 h2;rw [st_28] at h2;have HX:=Hd (HX.out.step h1 h2 h3 HZ.out.2.1);have c32:=(HX.out.bg.cell 32).trans (show _=some (Value.slice none 0 0) from rfl);clear h1 h2 h3)|(go_at_call 248;refine (Kg c r 0 8 l2 r2 _ HX.out.left HX.out.cr HX.out.rd (by decide) (by decide)).mono ?_;rintro x w2 ⟨rfl,h1⟩;rw [HE.out.2.2] at h1 ⊢;simp only at h1 ⊢;rw [HCN.out];have HX:=Hd (HX.out.rr h1 HZ.out.2.2);have c1:=HX.out.cr.c1;clear c32;have c32:=(HX.out.bg.cell 32).trans (show _=some (Value.slice none 0 0) from rfl);clear h1;have hmk:=hmk0.out w2;have HXm:=Hd (HX.out.alloc (.cells (madeCells #[.string ⟨#[]⟩,.bool false,.int .i64 0] (n*3)) 283));have d32:=(HXm.out.bg.cell 32).trans (show _=some (Value.slice none 0 0) from rfl);have f32:=HXm.out.bg.free 32;have HX3:=Hd (HXm.out.store 32 (.slice (some ⟨w2.heap.size,0,none⟩) n n));have e32:=(HX3.out.bg.cell 32).trans (show _=some (Value.slice (some ⟨w2.heap.size,0,none⟩) n n) from rfl)))
  have hg2:w2.heap.size≠g:=by have:=HX.out.lt.2.2;omega
  have hr2:r≠w2.heap.size:=by have:=HX.out.lt.2.1;omega
  have hc2:w2.heap.size≠c:=by have:=HX.out.lt.1;omega
  have hn2:w.heap.size≤w2.heap.size:=HX.out.fa.size;have HNB:Hid (GraB ((w2.alloc (.cells (madeCells #[.string ⟨#[]⟩,.bool false,.int .i64 0] (n*3)) 283)).setCell ⟨g,32,none⟩ (.slice (some ⟨w2.heap.size,0,none⟩) n n)) w2.heap.size n):=Hd (by obtain ⟨cs,h1,h2,h3⟩:=gra_new w2 n;exact ⟨cs,h1.far hg2 _,h2,h3⟩);have HX4:=HX3;clear c1 c32 d32 f32 e32 hmk hmk0 HX3 HXm HX;obtain ⟨hb,hhb⟩:∃ hb,w2.heap.size=hb:=⟨_,rfl⟩
  simp only [hhb] at hg2 hr2 hc2 hn2 HNB HX4 ⊢;simp only [show decide (0<n)=true from decide_eq_true (by omega)];clear hpos;have HHB:=Hd hhb;clear hhb;go_loopw [43] (fun i wr => ∃ (j:Nat) (l:ByteArray) (er:Int),j≤n∧i = .int .i64 j∧DrI c r g w wr ((enC { { enK k nm with level:=v1 } with owner:=s1 } enN).toArray.setIfInBounds 32 (.slice (some ⟨hb,0,none⟩) n n)) l er∧GraB wr hb n) (fun i _=>n-(intOf i).toNat)
  case atStart=>exact ⟨0,l3,r3,Z0 _,rfl,HX4.out,HNB.out⟩
  case round=>
   obtain ⟨j,l,er,hj,rfl,hx,hnb⟩:=hrel;have HXr:=Hd hx;clear hx HX4 HNB;have c32:wr.cell? ⟨g,32,none⟩=some (.slice (some ⟨hb,0,none⟩) n n):=(HXr.out.bg.cell 32).trans (by simp [enC]);by_cases hlt:j<n
   ·obtain ⟨cs,b1',b2',b3'⟩:=hnb
    obtain ⟨x,x1,x2,x3,k0,k1,k2⟩:=b3' j hlt;have HT1:=Hd (Ed c r hb (j*3) 283 cs x.who l er wr HXr.out.left HXr.out.cr HXr.out.rd b1' k0 hr2);have HZ1:=Hd (And.intro (Za l er) (Yw l er 200).2);have HC3:=Hd b3';have HCZ:=Hd b2';have HK1:Hid (∀ s,(cs.setIfInBounds (j*3) (.string s))[j*3+1]? =some (.bool x.group)):=Hd fun s=>by rw [Array.getElem?_setIfInBounds_ne (by omega)];exact k1
    have HK2:Hid (∀ s b,((cs.setIfInBounds (j*3) (.string s)).setIfInBounds (j*3+1) (.bool b))[j*3+2]? =some (.int .i64 x.level)):=Hd fun s b=>by rw [Array.getElem?_setIfInBounds_ne (by omega),Array.getElem?_setIfInBounds_ne (by omega)];exact k2
    clear b1' b2' b3' x1 x2 x3 k0 k1 k2
    go_wp2_with (first|(go_at_call 194;refine HT1.out.mono ?_;rintro y w5 ⟨rfl,q1,q2,q3⟩;have HY:=Hd (HXr.out.stepH q1 q3 hg2 hc2 hn2 HZ1.out.2);have HT2:=Hd (Ic c r hb (j*3+1) 283 _ x.group _ _ w5 HY.out.left HY.out.cr HY.out.rd q2 (HK1.out _) hr2);clear q1 q2 q3)|(go_at_call 193;refine HT2.out.mono ?_;rintro y w6 ⟨rfl,q1,q2,q3⟩;have HY:=Hd (HY.out.stepH q1 q3 hg2 hc2 hn2 (E5 _ _));have HT3:=Hd (Zk c r hb (j*3+2) 283 _ x.level _ _ w6 HY.out.left HY.out.cr HY.out.rd q2 (HK2.out _ _) hr2);clear q1 q2 q3)|(go_at_call 205;refine HT3.out.mono ?_;rintro y w7 ⟨rfl,q1,q2,q3⟩;have HY:=Hd (HY.out.stepH q1 q3 hg2 hc2 hn2 (Xf _ _));have HGB:Hid (GraB w7 hb n):=Hd ⟨_,q2,by simp [HCZ.out],fun t ht=>(((HC3.out t ht).s0 _ (by have:=HZ1.out.1;omega)).s1 _).s2 _ (V6 _ _).1 (Int.le_trans (V6 _ _).2 (by decide))⟩;clear q1 q2 q3));go_roundw
    case rel=>exact ⟨j+1,_,_,by omega,by go_num,HY.out,HGB.out⟩
    case measure=>simp [intOf];omega
   ·obtain rfl:j=n:=by omega
    obtain ⟨gl,hgl,hsl,hgz⟩:=hnb.sl;have HGL:=Hd hgl;have HSL:=Hd hsl;have HGZ:=Hd hgz;clear hgl hsl hgz hnb;go_wp2
    go_end0
    have hbg:=HXr.out.bg;rw [st_32 _ _ _ _ gl HGL.out] at hbg;refine ⟨rfl,({ { { enK k nm with level:=v1 } with owner:=s1 } with grants:=gl },l,er),⟨none,0,some ⟨hb,0,none⟩,j⟩,trivial,?_,rfl,rfl,HXr.out.rd,hbg,⟨Sl.nil,?_,fun p hp _=>(by cases hp),fun p hp _=>?_⟩,HXr.out.fa⟩
    ·exact enK_sm k nm HNM.out v1 HS1.out.2 s1 HS1.out.1 gl (by rw [HGL.out];exact hn9) HGZ.out
    ·show Sl grC 3 wr wr.heap.size (some ⟨hb,0,none⟩) gl.length j gl
     rw [HGL.out];exact HSL.out
    ·injection hp with hp
     subst hp;exact hn2
end
end Go.Proofs.YtapanepkfbamhaaGreatDoor
