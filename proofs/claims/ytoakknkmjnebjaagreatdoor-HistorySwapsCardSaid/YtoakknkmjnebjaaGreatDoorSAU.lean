/- Of HistorySwaps. -/
import Derived.Test.YtoakknkmjnebjaaGreatDoorSAT
namespace Go.Proofs.YtoakknkmjnebjaaGreatDoor
open Tryz (prog)
set_option maxRecDepth 100000
set_option maxHeartbeats 4000000
open Go.RowKit
structure EB (e:En) (a:EnA) (w W:Wd):Prop where
 e1:Blk W w.heap.size 159 (enC e a).toArray
 be:Below w.heap.size w W
 sz:w.heap.size+1≤W.heap.size
 st:Sta W
theorem EB.next {e:En} {a:EnA} {w W W':Wd} (h:EB e a w W) (hb:Below W.heap.size W W'):EB e a w W':=
 have hz:=h.sz
 ⟨h.e1.below hb h.e1.lt,U0 h.be hb (by omega),Lx h.sz hb.size,h.st.after hb⟩
theorem EB.alloc {e:En} {a:EnA} {w W:Wd} (h:EB e a w W) (o:Obj):EB e a w (W.alloc o):=h.next ((Bf _ _).alloc (Le _) o)
theorem EB.cell {e:En} {a:EnA} {w W:Wd} (h:EB e a w W) (i:Nat) (v:Value) (hv:(enC e a)[i]? =some v):W.cell? ⟨w.heap.size,i,none⟩=some v:=by rw [h.e1.cell];simpa using hv
theorem EB.new (e:En) (a:EnA) (w:Wd) (h:Sta w):EB e a w (w.alloc (.cells (enC e a).toArray 159)):=
 have hb:Below w.heap.size w (w.alloc (.cells (enC e a).toArray 159)):=(Bf _ _).alloc (Le _) _
 ⟨Blk.new w _ _,hb,by simp,h.after hb⟩
theorem Kl (W:Wd) (l:List Int) (t:TypeId):Sl Vc 1 (W.alloc (.cells (l.map (Value.int .i64)).toArray t)) (W.alloc (.cells (l.map (Value.int .i64)).toArray t)).heap.size (some ⟨W.heap.size,0,none⟩) l.length l.length l:=by
 have h:=Sl.new (f:=Vc) (k:=1) (fun _=>rfl) W t l
 have hf:Ub Vc l=l.map (Value.int .i64):=by
  induction l with
  |nil=>rfl
  |cons x r ih=>rw [V8,ih (Sl.new (f:=Vc) (k:=1) (fun _=>rfl) W t r)];rfl
 rw [hf] at h;exact h.more (by simp)
theorem groupV_any (e:En) (a:EnA) (w:Wd) (hs:Sm e) (ht:Sta w):
  Calls prog 195 #[.agg (enC e a).toArray] w fun x w'=>x = .returned (.bool (grpB e))∧Below w.heap.size w w':=by
 obtain ⟨R,hR⟩:∃ R,grpB e=R:=⟨_,rfl⟩
 rw [hR];have dF:=Hd hR;have HX:=Hd (EB.new e a w ht);have HEO:Hid (e.owner.size≤maxLen):=Hd (by have:=hs.eo;unfold maxLen;omega);have d25:=HX.out.cell 25 (.int .i64 e.limit) rfl;clear hR hs ht;go_enter Tryz.func195,Tryz.ntmps195;go_wp2_with ((with_reducible show Calls _ _ _ _ _);refine Stop.go ?_);refine Stop.in' ?_;rename_i K hK X hX;obtain ⟨w1,dN⟩:∃ w1,w.alloc (.cells (enC e a).toArray 159)=w1:=⟨_,rfl⟩
 have aK:w.heap.size+1=w1.heap.size:=by rw [←dN];simp
 simp only [dN] at HX ⊢;simp only [aK];clear d25 dN aK;have bJ:Hid (Sl Vc 1 (w1.alloc (.cells #[.int .i64 e.limit] 3)) (w1.alloc (.cells #[.int .i64 e.limit] 3)).heap.size (some ⟨w1.heap.size,0,none⟩) 1 1 [e.limit]):=Hd (Kl w1 [e.limit] 3);have HX:=Hd (HX.out.alloc (.cells #[.int .i64 e.limit] 3));obtain ⟨W11,hW⟩:∃ V,w1.alloc (.cells #[.int .i64 e.limit] 3)=V:=⟨_,rfl⟩
 simp only [hW] at HX bJ ⊢;clear hW;refine (Ve 1 63 _ 1 1 [e.limit] W11 bJ.out (by decide)).mono ?_;rintro x V ⟨rfl,rfl⟩;simp only [];refine hX _ _ ?_;clear hX;obtain ⟨q,hq⟩:∃ q,wiB 1 63 [e.limit]=q:=⟨_,rfl⟩
 rw [hq];cases q with
 |false=>
  have HF:R=false:=by rw [←dF.out];unfold grpB;simp [hq]
  exact Uh 2 (.bool false) (by kernel_rfl) (by intro a' h4 hd;simp only [Exit.then];refine hK _ _ ?_;go_wp2;exact Br (v:=.bool false) ((results_tmp Tryz.results195 a'.tmps _ _).trans (by rw [h4])) hd ⟨by rw [HF],HX.out.be⟩)
 |true=>
  have k0:=Hd hq;clear hq;refine Wv (.bool true) ?_;refine Wv (.pointer (some ⟨w.heap.size,26,none⟩)) ?_;have m1:=HX.out.cell 26 (.int .i64 e.last) rfl;refine Wv (.int .i64 e.last) ?_ (r:=by go_simp);clear m1;refine Xa (by kernel_rfl) (.slice (some ⟨W11.heap.size,0,none⟩) 1 1) (W11.alloc (.cells #[.int .i64 e.last] 3)) (by go_simp) ?_;simp only [Act.put,Sv,Sz,Sw];have bJ:Hid (Sl Vc 1 (W11.alloc (.cells #[.int .i64 e.last] 3)) (W11.alloc (.cells #[.int .i64 e.last] 3)).heap.size (some ⟨W11.heap.size,0,none⟩) 1 1 [e.last]):=Hd (Kl W11 [e.last] 3);have HX:=Hd (HX.out.alloc (.cells #[.int .i64 e.last] 3));obtain ⟨W12,hW⟩:∃ V,W11.alloc (.cells #[.int .i64 e.last] 3)=V:=⟨_,rfl⟩
  simp only [hW] at HX bJ ⊢;clear hW;refine V7 (by kernel_rfl) 196 #[.int .i64 0,.int .i64 9999,.slice (some ⟨W11.heap.size,0,none⟩) 1 1] (by kernel_rfl) ?_;refine (Ve 0 9999 _ 1 1 [e.last] W12 bJ.out (by decide)).mono ?_;rintro x V ⟨rfl,rfl⟩;simp only [];simp only [Act.put,Sv,Sz,Sw];obtain ⟨q,hq⟩:∃ q,wiB 0 9999 [e.last]=q:=⟨_,rfl⟩
  rw [hq];cases q with
  |false=>
   have HF:R=false:=by rw [←dF.out];unfold grpB;simp [hq]
   exact Uh 2 (.bool false) (by kernel_rfl) (by intro a' h4 hd;simp only [Exit.then];refine hK _ _ ?_;go_wp2;exact Br (v:=.bool false) ((results_tmp Tryz.results195 a'.tmps _ _).trans (by rw [h4])) hd ⟨by rw [HF],HX.out.be⟩)
  |true=>
   have k1:=Hd hq;clear hq;refine Wv (.bool true) ?_;refine Wv (.bool true) ?_;refine Wv (.pointer (some ⟨w.heap.size,28,none⟩)) ?_;have m1:=HX.out.cell 28 (.string e.owner) rfl;refine Wv (.string e.owner) ?_ (r:=by go_simp);clear m1;refine Wv (.bool (e.owner.toList == [])) ?_;obtain ⟨z,hz⟩:∃ z,(e.owner.toList == [])=z:=⟨_,rfl⟩
   rw [hz];cases z with
   |true=>
    have HF:R=true:=by rw [←dF.out];unfold grpB orW;rw [k0.out,k1.out,decide_eq_true (beq_iff_eq.1 hz)];rfl
    exact Uh 2 (.bool true) (by kernel_rfl) (by intro a' h4 hd;simp only [Exit.then];refine hK _ _ ?_;go_wp2;exact Br (v:=.bool true) ((results_tmp Tryz.results195 a'.tmps _ _).trans (by rw [h4])) hd ⟨by rw [HF],HX.out.be⟩)
   |false=>
    refine Wv (.bool false) ?_;refine Wv (.pointer (some ⟨w.heap.size,28,none⟩)) ?_;have m1:=HX.out.cell 28 (.string e.owner) rfl;refine Wv (.string e.owner) ?_ (r:=by go_simp);clear m1;refine V7 (by kernel_rfl) 197 #[.string e.owner] (by kernel_rfl) ?_;refine (Z9 e.owner W12 HEO.out HX.out.st.mx).mono ?_;rintro x V ⟨rfl,hb⟩;have HX:=Hd (HX.out.next hb);clear hb;simp only [];simp only [Act.put,Sv,Sz,Sw];have HF:R=Jn e.owner:=by rw [←dF.out];unfold grpB orW;rw [k0.out,k1.out,decide_eq_false (fun h=>by rw [h] at hz;cases hz)];rfl
    obtain ⟨q,hq⟩:∃ q,Jn e.owner=q:=⟨_,rfl⟩
    rw [hq] at HF ⊢;exact Uh 2 (.bool q) (by cases q<;>kernel_rfl) (by intro a' h4 hd;simp only [Exit.then];refine hK _ _ ?_;go_wp2;exact Br (v:=.bool q) ((results_tmp Tryz.results195 a'.tmps _ _).trans (by rw [h4])) hd ⟨by rw [HF],HX.out.be⟩)
theorem aliasN_any (s:Bz) (w:Wd) (hs:s.size≤1000) (ht:Sta w):Calls prog 198 #[.string s] w (BoolG w):=by
 have HS:=Hd (split_any s w (by omega) ht.mx);have HV:=Hd fun W (h:Sta W)=>Xv s W (by unfold maxLen;omega) h.mx
 have HT:=Hd ht;clear hs ht;go_enter Tryz.func198,Tryz.ntmps198;go_wp2_with (first|(go_at_call 199;refine HS.out.mono ?_;rintro e w1 ⟨rfl,h1⟩;have H1:=Hd h1;have gY:=Hd (HT.out.after h1);clear h1)|(go_at_call 187;refine (HV.out _ gY.out).mono ?_;rintro e w2 ⟨rfl,h2⟩;have H2:=Hd (U0 H1.out h2 H1.out.size);clear h2;generalize Xo s=z;cases z))
 all_goals
  go_ret;exact ⟨⟨_,rfl⟩,H2.out⟩
theorem catN_any (s:Bz) (w:Wd) (hs:s.size≤1000) (ht:Sta w):Calls prog 202 #[.string s] w (BoolG w):=by
 have HV:=Hd (Xv s w (by unfold maxLen;omega) ht.mx);have HC:=Hd fun W=>Tryz.strings_Count_one s 46 W
 generalize (Lib.countByte s.data.toList 46)=n at HC;clear hs ht;go_enter Tryz.func202,Tryz.ntmps202;go_wp2_with (first|(go_at_call 187;refine HV.out.mono ?_;rintro e w1 ⟨rfl,h1⟩;have H1:=Hd h1;clear h1;generalize Xo s=z;cases z)|(go_at_call 203;refine (HC.out _).mono ?_;rintro e w2 ⟨rfl,rfl⟩))
 all_goals
  go_ret;exact ⟨⟨_,rfl⟩,H1.out⟩
theorem aliasV_any (e:En) (a:EnA) (w:Wd) (hs:Sm e) (ht:Sta w):Calls prog 201 #[.agg (enC e a).toArray] w (BoolG w):=by
 have HX:=Hd (EB.new e a w ht);have c29:=HX.out.cell 29 (.string e.target) rfl;have HV:=Hd (Xv e.target _ (by have:=hs.ta;unfold maxLen;omega) HX.out.st.mx);clear hs ht;go_enter Tryz.func201,Tryz.ntmps201;go_wp2_with (go_at_call 187;refine HV.out.mono ?_;rintro x w1 ⟨rfl,h1⟩;have H1:=Hd (HX.out.next h1);have d29:=H1.out.cell 29 (.string e.target) rfl;have d1:=H1.out.cell 1 (.string e.name) rfl;clear h1 c29;generalize Xo e.target=z;cases z)
 all_goals
  go_ret;exact ⟨⟨_,rfl⟩,H1.out.be⟩
theorem catV_any (e:En) (a:EnA) (w:Wd) (ht:Sta w):Calls prog 206 #[.agg (enC e a).toArray] w (BoolG w):=by
 have HX:=Hd (EB.new e a w ht);have c30:=HX.out.cell 30 (.int .i64 e.catalog) rfl;have HW:Hid (Calls prog 196 #[.int .i64 1,.int .i64 15,.slice (some ⟨w.heap.size+1,0,none⟩) 1 1] ((w.alloc (.cells (enC e a).toArray 159)).alloc (.cells #[.int .i64 e.catalog] 3)) fun x w'=>x = .returned (.bool (wiB 1 15 [e.catalog]))∧((w.alloc (.cells (enC e a).toArray 159)).alloc (.cells #[.int .i64 e.catalog] 3))=w'):=Hd (by have bP:=Kl (w.alloc (.cells (enC e a).toArray 159)) [e.catalog] 3;rw [show (w.alloc (.cells (enC e a).toArray 159)).heap.size=w.heap.size+1 from by simp] at bP;exact Ve 1 15 _ 1 1 [e.catalog] _ bP (by decide));have bZ:Hid (Below w.heap.size w ((w.alloc (.cells (enC e a).toArray 159)).alloc (.cells #[.int .i64 e.catalog] 3))):=Hd (HX.out.alloc _).be;clear ht;go_enter Tryz.func206,Tryz.ntmps206
 go_wp2_with (go_at_call 196;refine HW.out.mono ?_;rintro x w1 ⟨rfl,rfl⟩);go_ret;exact ⟨⟨_,rfl⟩,bZ.out⟩
theorem profile_w (c g:Nat) (e:En) (a:EnA) (w:Wd) (hc:Cw w c ⟨#[]⟩) (hg:Blk w g 159 (enC e a).toArray) (hw:EW [c] w e a) (hs:Sm e) (eQ:g≠c):
  Calls prog 208 #[.pointer (some ⟨c,0,none⟩),.pointer (some ⟨g,0,none⟩)] w (FwP (fun _=>True) c w):=by
 obtain ⟨A,C,gA,gC⟩:=a;have HX:Hid (DwI c g e ⟨A,C,gA,gC⟩ w w ⟨#[]⟩):=Hd ⟨hc,hg,hw,Far.refl _ _,eQ⟩;have HS:=Hd hs;have hlg:=hs.lg;have hnu:=hs.nu;simp only [List.mem_cons,List.not_mem_nil,or_false,forall_eq_or_imp,forall_eq] at hnu;obtain ⟨n0,n1,n2,n3,n4,n5,n6,n7,n8,n9,n10,n11,n12,n13,n14,n15,n16,n17,n18,n19,n20,n21⟩:=hnu;have HLV:=Hd n21;have q1:=V9 e.level;have q2:=Xj e.owner;have q3:=hs.eo;obtain ⟨o1,dQ⟩:∃ o1,(⟨#[]⟩:Bz)++Yo e.level=o1:=⟨_,rfl⟩
 obtain ⟨o2,dK⟩:∃ o2,o1++Z2 e.owner=o2:=⟨_,rfl⟩
 obtain ⟨o3,ho3⟩:∃ o3,o2++Yo e.grants.length=o3:=⟨_,rfl⟩
 have q4:=V9 e.grants.length;have z1:o1.size≤10:=by have h0:(⟨#[]⟩:Bz).size=0:=rfl;rw [←dQ,ByteArray.size_append];omega
 have z2:o2.size≤1030:=by rw [←dK,ByteArray.size_append];omega
 have z3:o3.size≤1050:=by rw [←ho3,ByteArray.size_append];omega
 have HO:=Hd (And.intro dQ (And.intro dK ho3));have HZ:Hid (o1.size≤1000000000∧o2.size≤1000000000∧e.owner.size≤1000000000):=Hd ⟨by omega,by omega,by omega⟩;clear n0 n1 n2 n3 n4 n5 n6 n7 n8 n9 n10 n11 n12 n13 n14 n15 n16 n17 n18 n19 n20 n21 hc hg hw hs q1 q2 q3 q4 z1 z2 dQ dK ho3;go_enter Tryz.func208,Tryz.ntmps208
 go_wp2_with (first|(go_at_call 205;(with_reducible show Calls _ _ #[_,.pointer (some ⟨_,31,none⟩)] _ _);refine (Ix c g 31 ⟨#[]⟩ e.level _ HX.out.cw (HX.out.cell 31 _ rfl) (by decide) HLV.out.1 HLV.out.2).mono ?_;rintro x w2 ⟨rfl,h1,h2⟩;rw [HO.out.1] at h1;have HX:=Hd (HX.out.step h1 h2);clear h1 h2)|(go_at_call 194;(with_reducible show Calls _ _ #[_,.pointer (some ⟨_,28,none⟩)] _ _);refine (Jf c g 28 o1 e.owner _ HX.out.cw (HX.out.cell 28 _ rfl) HZ.out.1 HZ.out.2.2).mono ?_;rintro x w2 ⟨rfl,h1,h2⟩;rw [HO.out.2.1] at h1;have HX:=Hd (HX.out.step h1 h2);have c32:=HX.out.cell 32 (.slice gA e.grants.length gC) rfl;clear h1 h2)|(go_at_call 248;refine (ccount_w c o2 e.grants.length 8 _ HX.out.cw HZ.out.2.1 (by omega) (by omega) (by decide) (by decide)).mono ?_;rintro x w2 ⟨rfl,h1,h2⟩;rw [HO.out.2.2] at h1;have HX:=Hd (HX.out.step h1 h2);have c1:=HX.out.cw.c1;clear c32;have c32:=HX.out.cell 32 (.slice gA e.grants.length gC) rfl;clear h1 h2))
 clear c1 c32;have aM:=HX;clear HX;go_loopw [43] (fun i wr => ∃ (j:Nat) (o:Bz),j≤e.grants.length∧i = .int .i64 j∧o.size≤1050+1100*j∧DwI c g e ⟨A,C,gA,gC⟩ w wr o) (fun i _=>e.grants.length-(intOf i).toNat)
 case atStart=>exact ⟨0,o3,Z0 _,rfl,by omega,aM.out⟩
 case round=>
  obtain ⟨j,o,hj,rfl,hz,hx⟩:=hrel;have eJ:=Hd hx;clear hx aM;by_cases aG:j<e.grants.length
  ·obtain ⟨b,p,x,hA,hb,hg,aB⟩:=Sl.cell (f:=grC) (k:=3) (fun _=>rfl) eJ.out.ew.sg aG;have hA':gA=some ⟨b,p,none⟩:=hA;subst hA';have aZ:=eJ.out.ew.ng _ rfl (by omega);have k0:=aB 0 _ rfl;have k1:=aB 1 _ rfl;have k2:=aB 2 _ rfl;simp only [Nat.add_zero] at k0;have hr:=HS.out.gr x (List.mem_of_getElem? hg);have HK:=Hd (And.intro k0 (And.intro k1 (And.intro k2 (show b≠c from by simpa using aZ))));have HR:=Hd hr;have c32:=eJ.out.cell 32 (.slice (some ⟨b,p,none⟩) e.grants.length gC) rfl;have u1:=Xj x.who;have u2:=V9 x.level
   have HU:Hid (o.size≤1000000000∧(o++Z2 x.who).size≤1000000000∧(o++Z2 x.who++encB x.group).size≤1000000000∧(o++Z2 x.who++encB x.group++Yo x.level).size≤1050+1100*(j+1)):=Hd ⟨by omega,by rw [ByteArray.size_append];omega,by rw [ByteArray.size_append,ByteArray.size_append,Xw];omega,by rw [ByteArray.size_append,ByteArray.size_append,ByteArray.size_append,Xw];omega⟩;have gY:=Hd (Jf c b (p+j*3) o x.who wr eJ.out.cw k0 HU.out.1 (by omega));clear hA hb hg aB aZ k0 k1 k2 hr u1 u2
   go_wp2_with (first|(go_at_call 194;refine gY.out.mono ?_;rintro y w2 ⟨rfl,h1,h2⟩;have HY:=Hd (eJ.out.step h1 h2);have HT2:=Hd (F8 c b (p+j*3+1) _ x.group w2 HY.out.cw HU.out.2.1 (Ef HK.out.2.1 h2 (by simpa using HK.out.2.2.2)));have HT3:=Hd (Ef HK.out.2.2.1 h2 (by simpa using HK.out.2.2.2));clear h1 h2)|(go_at_call 193;refine HT2.out.mono ?_;rintro y w3 ⟨rfl,h1,h2⟩;have HY:=Hd (HY.out.step h1 h2);have HT4:=Hd (Ix c b (p+j*3+2) _ x.level w3 HY.out.cw (Ef HT3.out h2 (by simpa using HK.out.2.2.2)) HU.out.2.2.1 HR.out.2.1 HR.out.2.2);clear h1 h2)|(go_at_call 205;refine HT4.out.mono ?_;rintro y w4 ⟨rfl,h1,h2⟩;have HY:=Hd (HY.out.step h1 h2);clear h1 h2));go_roundw
   case rel=>exact ⟨j+1,_,by omega,by go_num,HU.out.2.2.2,HY.out⟩
   case measure=>simp [intOf];omega
  ·obtain rfl:j=e.grants.length:=by omega
   have c32:=eJ.out.cell 32 (.slice gA e.grants.length gC) rfl;go_wp2
   go_end0
   exact ⟨rfl,o,trivial,by omega,eJ.out.cw,eJ.out.fa⟩
theorem infoGra:(prog.info? 283).map (fun i=>(i.zero,i.size,i.bytes))=some (some (.agg #[.string ⟨#[]⟩,.bool false,.int .i64 0]),3,32):=by kernel_rfl
theorem made_gra (n t k:Nat) (h:t<n) (hk:k<3):(madeCells #[.string ⟨#[]⟩,.bool false,.int .i64 0] (n*3))[t*3+k]? =#[Value.string ⟨#[]⟩,.bool false,.int .i64 0][k]?:=by
 unfold madeCells;rw [Array.getElem?_map,Array.getElem?_range];have h1:t*3+k<n*3:=by omega
 have h2:(t*3+k) % 3=k:=by omega
 have hk':k=0∨k=1∨k=2:=by omega
 simp only [h1,if_true,Option.map_some];rcases hk' with rfl|rfl|rfl<;>simp [h2]
def GraAt (cs:Array Value) (t:Nat):Prop:=∃ x:Gra,x.who.size≤1000∧0≤x.level∧x.level≤9223372036854775807∧cs[t*3]? =some (.string x.who)∧cs[t*3+1]? =some (.bool x.group)∧cs[t*3+2]? =some (.int .i64 x.level)
def GraB (W:Wd) (h n:Nat):Prop:=∃ cs:Array Value,Blk W h 283 cs∧cs.size=n*3∧∀ t,t<n→GraAt cs t
theorem GraAt.s0 {cs:Array Value} {t j:Nat} (h:GraAt cs t) (s:Bz) (hs:s.size≤1000):GraAt (cs.setIfInBounds (j*3) (.string s)) t:=by
 obtain ⟨x,h1,h2,h3,k0,k1,k2⟩:=h;by_cases e:j=t
 ·subst e;exact ⟨⟨s,x.group,x.level⟩,hs,h2,h3,Array.getElem?_setIfInBounds_self_of_lt (Array.getElem?_eq_some_iff.1 k0).1,by rw [Array.getElem?_setIfInBounds_ne (by omega)];exact k1,by rw [Array.getElem?_setIfInBounds_ne (by omega)];exact k2⟩
 ·exact ⟨x,h1,h2,h3,by rw [Array.getElem?_setIfInBounds_ne (by omega)];exact k0,by rw [Array.getElem?_setIfInBounds_ne (by omega)];exact k1,by rw [Array.getElem?_setIfInBounds_ne (by omega)];exact k2⟩
theorem GraAt.s1 {cs:Array Value} {t j:Nat} (h:GraAt cs t) (b:Bool):GraAt (cs.setIfInBounds (j*3+1) (.bool b)) t:=by
 obtain ⟨x,h1,h2,h3,k0,k1,k2⟩:=h;by_cases e:j=t
 ·subst e;exact ⟨⟨x.who,b,x.level⟩,h1,h2,h3,by rw [Array.getElem?_setIfInBounds_ne (by omega)];exact k0,Array.getElem?_setIfInBounds_self_of_lt (Array.getElem?_eq_some_iff.1 k1).1,by rw [Array.getElem?_setIfInBounds_ne (by omega)];exact k2⟩
 ·exact ⟨x,h1,h2,h3,by rw [Array.getElem?_setIfInBounds_ne (by omega)];exact k0,by rw [Array.getElem?_setIfInBounds_ne (by omega)];exact k1,by rw [Array.getElem?_setIfInBounds_ne (by omega)];exact k2⟩
theorem GraAt.s2 {cs:Array Value} {t j:Nat} (h:GraAt cs t) (m:Int) (m0:0≤m) (m1:m≤9223372036854775807):GraAt (cs.setIfInBounds (j*3+2) (.int .i64 m)) t:=by
 obtain ⟨x,h1,h2,h3,k0,k1,k2⟩:=h;by_cases e:j=t
 ·subst e;exact ⟨⟨x.who,x.group,m⟩,h1,m0,m1,by rw [Array.getElem?_setIfInBounds_ne (by omega)];exact k0,by rw [Array.getElem?_setIfInBounds_ne (by omega)];exact k1,Array.getElem?_setIfInBounds_self_of_lt (Array.getElem?_eq_some_iff.1 k2).1⟩
 ·exact ⟨x,h1,h2,h3,by rw [Array.getElem?_setIfInBounds_ne (by omega)];exact k0,by rw [Array.getElem?_setIfInBounds_ne (by omega)];exact k1,by rw [Array.getElem?_setIfInBounds_ne (by omega)];exact k2⟩
theorem list_of {α:Type} {P:Nat→α→Prop}:∀ n:Nat,(∀ t,t<n→∃ x,P t x)→∃ l:List α,l.length=n∧∀ (t:Nat) (x:α),l[t]? =some x→P t x
 |0,_=>⟨[],rfl,fun t x h=>by simp at h⟩
 |n+1,h=>by
  obtain ⟨l,hl,hp⟩:=list_of n fun t ht=>h t (by omega)
  obtain ⟨x,hx⟩:=h n (by omega);refine ⟨l++[x],by simp [hl],fun t y hy=>?_⟩;rw [List.getElem?_append] at hy;split at hy
  ·exact hp t y hy
  ·have e:t-l.length=0:=by
    rcases Nat.eq_zero_or_pos (t-l.length) with h0|h0
    ·exact h0
    ·rw [List.getElem?_eq_none (by simp;omega)] at hy;cases hy
   rw [e] at hy;simp at hy;subst hy;have:t=n:=by omega
   rw [this];exact hx
theorem GraB.sl {W:Wd} {h n:Nat} (k:GraB W h n):∃ l:List Gra,l.length=n∧Sl grC 3 W W.heap.size (some ⟨h,0,none⟩) n n l∧∀ x∈l,x.who.size≤1000∧0≤x.level∧x.level≤9223372036854775807:=by
 obtain ⟨cs,hb,hz,hc⟩:=k;obtain ⟨l,hl,hp⟩:=list_of n hc;refine ⟨l,hl,⟨Le _,hl,by rw [Vi (k:=3) (fun _=>rfl),hl],fun _=>⟨h,0,rfl,hb.lt,fun j u hu=>?_⟩⟩,fun x hx=>?_⟩
 ·rw [Nat.zero_add,hb.cell]
  have hj:j<l.length*3:=by
   have:=(List.getElem?_eq_some_iff.1 hu).1
   rwa [Vi (k:=3) (fun _=>rfl)] at this
  obtain ⟨t,k,rfl,hk⟩:∃ t k,j=t*3+k∧k<3:=⟨j / 3,j % 3,by omega,by omega⟩
  have ht:t<l.length:=by omega
  have hg:=Xn (f:=grC) (k:=3) (fun _=>rfl) l t l[t] (List.getElem?_eq_getElem ht) k hk;rw [hg] at hu;obtain ⟨_,_,_,k0,k1,k2⟩:=hp t l[t] (List.getElem?_eq_getElem ht);have hk':k=0∨k=1∨k=2:=by omega
  rcases hk' with rfl|rfl|rfl
  ·rw [←hu];exact k0
  ·rw [←hu];exact k1
  ·rw [←hu];exact k2
 ·obtain ⟨t,ht,rfl⟩:=List.getElem_of_mem hx;obtain ⟨h1,h2,h3,_⟩:=hp t l[t] (List.getElem?_eq_getElem ht);exact ⟨h1,h2,h3⟩
theorem st_32 (e:En) (a:EnA) (h n:Nat) (gl:List Gra) (hl:gl.length=n):(enC e a).toArray.setIfInBounds 32 (.slice (some ⟨h,0,none⟩) n n)=(enC { e with grants:=gl } ⟨a.aA,a.aC,some ⟨h,0,none⟩,n⟩).toArray:=by subst hl;simp [enC]
theorem make_gras (n:Nat) (hn:n≤1000) (W:Wd):(Instr.makeSlice 157 (.int .i64 n) (.int .i64 n)).run prog W = .ok (.slice (some ⟨W.heap.size,0,none⟩) n n) (W.alloc (.cells (madeCells #[.string ⟨#[]⟩,.bool false,.int .i64 0] (n*3)) 283)):=by
 obtain ⟨i0,aU,aW,aK,aR⟩:=info_parts infoGra;have iU:=run_make (P:=prog) (w:=W) 157 283 i0 _ Tryz.underlying157 aU aW .i64 .i64 (n:Int) (n:Int) (by omega) (Int.le_refl _) (by rw [aR];omega) (by omega);rw [aK] at iU;simp only [Int.toNat_natCast] at iU;exact iU
theorem gra_new (W:Wd) (n:Nat):GraB (W.alloc (.cells (madeCells #[.string ⟨#[]⟩,.bool false,.int .i64 0] (n*3)) 283)) W.heap.size n:=by
 refine ⟨_,Blk.new W _ _,by simp [madeCells],fun t ht=>⟨⟨⟨#[]⟩,false,0⟩,by decide,by decide,by decide,?_,?_,?_⟩⟩
 ·exact (made_gra n t 0 ht (by decide)).trans rfl
 ·exact (made_gra n t 1 ht (by decide)).trans rfl
 ·exact (made_gra n t 2 ht (by decide)).trans rfl
theorem enK_sm (k:Int) (nm:Bz) (cC:nm.size≤1000) (v:Int) (hv:0≤v∧v≤1099511627777) (s:Bz) (hs:s.size≤1000) (gl:List Gra) (hl:gl.length≤9) (hg:∀ x∈gl,x.who.size≤1000∧0≤x.level∧x.level≤9223372036854775807):
  Sm { enK k nm with level:=v,owner:=s,grants:=gl }:=
 ⟨cC,by show (0:Nat)≤1000;omega,by show (0:Nat)≤1000;omega,hs,by show (0:Nat)≤1000;omega,by show (0:Nat)≤5;omega,hl,fun n h=>(by cases h),hg,by
  simp only [enK,dZ,List.mem_cons,List.not_mem_nil,or_false,forall_eq_or_imp,forall_eq];refine ⟨?_,?_,?_,?_,?_,?_,?_,?_,?_,?_,?_,?_,?_,?_,?_,?_,?_,?_,?_,?_,?_,?_⟩<;>omega⟩
theorem profile_r (c r g:Nat) (k:Int) (nm left:Bz) (w:Wd) (hc:Cr w c r) (hr:Rdr w r left 0) (hg:Blk w g 159 (enC (enK k nm) enN).toArray) (hs:left.size≤1000000) (cC:nm.size≤1000) (n1:r≠g) (n2:c≠r) (n3:c≠g):
  Calls prog 208 #[.pointer (some ⟨c,0,none⟩),.pointer (some ⟨g,0,none⟩)] w (FrP (fun _=>True) c r g k nm w):=by
 have HX:Hid (DrI c r g w w (enC (enK k nm) enN).toArray left 0):=Hd ⟨hc,hr,hg,Far.refl _ _,n1,n2,n3,hs⟩;clear hc hr hg;have z1:=Xf left 0;have v1r:=Vf left 0;obtain ⟨p,h1⟩:∃ p,Uz left 0=p:=⟨_,rfl⟩
 rw [h1] at z1 v1r;obtain ⟨v1,l1,r1⟩:=p;have z2:=(Z4 l1 r1 200).2;have s1r:=Zk l1 r1;obtain ⟨p,h2⟩:∃ p,Uj l1 r1 200=p:=⟨_,rfl⟩
 rw [h2] at z2 s1r;obtain ⟨s1,l2,r2⟩:=p;have z3:=Xf l2 r2;have v2r:=Vf l2 r2;obtain ⟨p,h3⟩:∃ p,Uz l2 r2=p:=⟨_,rfl⟩
 rw [h3] at z3 v2r;obtain ⟨v2,l3,r3⟩:=p;simp only at z1 z2 z3 v1r v2r s1r;obtain ⟨n,hcn⟩:∃ n:Nat,Zx v2 8=n:=⟨(Zx v2 8).toNat,by unfold Zx;split<;>omega⟩
 have hn9:n≤9:=by
  have:Zx v2 8≤9:=by unfold Zx;split<;>omega
  omega
 have bK:Hid (s1.size≤1000∧(0≤v1∧v1≤1099511627777)):=Hd ⟨by omega,v1r⟩;have HZ:=Hd (And.intro z1 (And.intro z2 z3));have HE:=Hd (And.intro h1 (And.intro h2 h3));have gK:=Hd hcn;have HNM:=Hd cC;clear h1 h2 h3 z1 z2 z3 v1r v2r s1r hcn hs cC;go_enter Tryz.func208,Tryz.ntmps208;by_cases h0:n=0
 ·subst h0
  go_wp2_with (first|(go_at_call 205;(with_reducible show Calls _ _ #[_,.pointer (some ⟨_,31,none⟩)] _ _);refine (Zw c r g 31 159 _ 0 left 0 _ HX.out.left HX.out.cr HX.out.rd HX.out.bg rfl HX.out.n1).mono ?_;rintro x w2 ⟨rfl,h1,h2,h3⟩;rw [HE.out.1] at h1 h2;rw [st_31] at h2;have HX:=Hd (HX.out.step h1 h2 h3 HZ.out.1);clear h1 h2 h3)|(go_at_call 194;(with_reducible show Calls _ _ #[_,.pointer (some ⟨_,28,none⟩)] _ _);refine (Ex c r g 28 159 _ ⟨#[]⟩ l1 r1 _ HX.out.left HX.out.cr HX.out.rd HX.out.bg rfl HX.out.n1).mono ?_;rintro x w2 ⟨rfl,h1,h2,h3⟩;rw [HE.out.2.1] at h1 h2;rw [st_28] at h2;have HX:=Hd (HX.out.step h1 h2 h3 HZ.out.2.1);have c32:=(HX.out.bg.cell 32).trans (show _=some (Value.slice none 0 0) from rfl);clear h1 h2 h3)|(go_at_call 248;refine (Fc c r 0 8 l2 r2 _ HX.out.left HX.out.cr HX.out.rd (by decide) (by decide)).mono ?_;rintro x w2 ⟨rfl,h1⟩;rw [HE.out.2.2] at h1 ⊢;simp only at h1 ⊢;rw [gK.out];have HX:=Hd (HX.out.rr h1 HZ.out.2.2);have c1:=HX.out.cr.c1;clear c32;have c32:=(HX.out.bg.cell 32).trans (show _=some (Value.slice none 0 0) from rfl);clear h1))
  refine Lu 1 ?_;rw [Rs];go_wp2
  go_end0
  refine ⟨rfl,({ { enK k nm with level:=v1 } with owner:=s1 },l3,r3),enN,trivial,?_,rfl,rfl,HX.out.rd,HX.out.bg,⟨Sl.nil,Sl.nil,fun p hp _=>(by cases hp),fun p hp _=>(by cases hp)⟩,HX.out.fa⟩;exact enK_sm k nm HNM.out v1 bK.out.2 s1 bK.out.1 [] (by simp) (fun x h=>by cases h)
 ·have hmk0:=Hd (make_gras n (by omega));have hpos:decide ((0:Int)<(n:Int))=true:=decide_eq_true (by omega)
  go_wp2_with (first|(go_at_call 205;(with_reducible show Calls _ _ #[_,.pointer (some ⟨_,31,none⟩)] _ _);refine (Zw c r g 31 159 _ 0 left 0 _ HX.out.left HX.out.cr HX.out.rd HX.out.bg rfl HX.out.n1).mono ?_;rintro x w2 ⟨rfl,h1,h2,h3⟩;rw [HE.out.1] at h1 h2;rw [st_31] at h2;have HX:=Hd (HX.out.step h1 h2 h3 HZ.out.1);clear h1 h2 h3)|(go_at_call 194;(with_reducible show Calls _ _ #[_,.pointer (some ⟨_,28,none⟩)] _ _);refine (Ex c r g 28 159 _ ⟨#[]⟩ l1 r1 _ HX.out.left HX.out.cr HX.out.rd HX.out.bg rfl HX.out.n1).mono ?_;rintro x w2 ⟨rfl,h1,h2,h3⟩;rw [HE.out.2.1] at h1 h2;rw [st_28] at h2;have HX:=Hd (HX.out.step h1 h2 h3 HZ.out.2.1);have c32:=(HX.out.bg.cell 32).trans (show _=some (Value.slice none 0 0) from rfl);clear h1 h2 h3)|(go_at_call 248;refine (Fc c r 0 8 l2 r2 _ HX.out.left HX.out.cr HX.out.rd (by decide) (by decide)).mono ?_;rintro x w2 ⟨rfl,h1⟩;rw [HE.out.2.2] at h1 ⊢;simp only at h1 ⊢;rw [gK.out];have HX:=Hd (HX.out.rr h1 HZ.out.2.2);have c1:=HX.out.cr.c1;clear c32;have c32:=(HX.out.bg.cell 32).trans (show _=some (Value.slice none 0 0) from rfl);clear h1;have iU:=hmk0.out w2;have HXm:=Hd (HX.out.alloc (.cells (madeCells #[.string ⟨#[]⟩,.bool false,.int .i64 0] (n*3)) 283));have d32:=(HXm.out.bg.cell 32).trans (show _=some (Value.slice none 0 0) from rfl);have f32:=HXm.out.bg.free 32;have aP:=Hd (HXm.out.store 32 (.slice (some ⟨w2.heap.size,0,none⟩) n n));have e32:=(aP.out.bg.cell 32).trans (show _=some (Value.slice (some ⟨w2.heap.size,0,none⟩) n n) from rfl)))
  have dL:w2.heap.size≠g:=by have:=HX.out.lt.2.2;omega
  have bS:r≠w2.heap.size:=by have:=HX.out.lt.2.1;omega
  have iD:w2.heap.size≠c:=by have:=HX.out.lt.1;omega
  have eN:w.heap.size≤w2.heap.size:=HX.out.fa.size;have HNB:Hid (GraB ((w2.alloc (.cells (madeCells #[.string ⟨#[]⟩,.bool false,.int .i64 0] (n*3)) 283)).setCell ⟨g,32,none⟩ (.slice (some ⟨w2.heap.size,0,none⟩) n n)) w2.heap.size n):=Hd (by obtain ⟨cs,h1,h2,h3⟩:=gra_new w2 n;exact ⟨cs,h1.far dL _,h2,h3⟩);have aX:=aP;clear c1 c32 d32 f32 e32 iU hmk0 aP HXm HX;obtain ⟨hb,hhb⟩:∃ hb,w2.heap.size=hb:=⟨_,rfl⟩
  simp only [hhb] at dL bS iD eN HNB aX ⊢;simp only [show decide (0<n)=true from decide_eq_true (by omega)];clear hpos;have HHB:=Hd hhb;clear hhb;go_loopw [43] (fun i wr => ∃ (j:Nat) (l:Bz) (er:Int),j≤n∧i = .int .i64 j∧DrI c r g w wr ((enC { { enK k nm with level:=v1 } with owner:=s1 } enN).toArray.setIfInBounds 32 (.slice (some ⟨hb,0,none⟩) n n)) l er∧GraB wr hb n) (fun i _=>n-(intOf i).toNat)
  case atStart=>exact ⟨0,l3,r3,Z0 _,rfl,aX.out,HNB.out⟩
  case round=>
   obtain ⟨j,l,er,hj,rfl,hx,hnb⟩:=hrel;have eJ:=Hd hx;clear hx aX HNB;have c32:wr.cell? ⟨g,32,none⟩=some (.slice (some ⟨hb,0,none⟩) n n):=(eJ.out.bg.cell 32).trans (by simp [enC]);by_cases aG:j<n
   ·obtain ⟨cs,b1',b2',b3'⟩:=hnb;obtain ⟨x,x1,x2,x3,k0,k1,k2⟩:=b3' j aG;have gY:=Hd (Ex c r hb (j*3) 283 cs x.who l er wr eJ.out.left eJ.out.cr eJ.out.rd b1' k0 bS);have cJ:=Hd (And.intro (Zk l er) (Z4 l er 200).2);have HC3:=Hd b3';have HCZ:=Hd b2';have HK1:Hid (∀ s,(cs.setIfInBounds (j*3) (.string s))[j*3+1]? =some (.bool x.group)):=Hd fun s=>by rw [Array.getElem?_setIfInBounds_ne (by omega)];exact k1
    have cX:Hid (∀ s b,((cs.setIfInBounds (j*3) (.string s)).setIfInBounds (j*3+1) (.bool b))[j*3+2]? =some (.int .i64 x.level)):=Hd fun s b=>by rw [Array.getElem?_setIfInBounds_ne (by omega),Array.getElem?_setIfInBounds_ne (by omega)];exact k2
    clear b1' b2' b3' x1 x2 x3 k0 k1 k2
    go_wp2_with (first|(go_at_call 194;refine gY.out.mono ?_;rintro y w5 ⟨rfl,q1,q2,q3⟩;have HY:=Hd (eJ.out.stepH q1 q3 dL iD eN cJ.out.2);have HT2:=Hd (Iw c r hb (j*3+1) 283 _ x.group _ _ w5 HY.out.left HY.out.cr HY.out.rd q2 (HK1.out _) bS);clear q1 q2 q3)|(go_at_call 193;refine HT2.out.mono ?_;rintro y w6 ⟨rfl,q1,q2,q3⟩;have HY:=Hd (HY.out.stepH q1 q3 dL iD eN (Ek _ _));have HT3:=Hd (Zw c r hb (j*3+2) 283 _ x.level _ _ w6 HY.out.left HY.out.cr HY.out.rd q2 (cX.out _ _) bS);clear q1 q2 q3)|(go_at_call 205;refine HT3.out.mono ?_;rintro y w7 ⟨rfl,q1,q2,q3⟩;have HY:=Hd (HY.out.stepH q1 q3 dL iD eN (Xf _ _));have HGB:Hid (GraB w7 hb n):=Hd ⟨_,q2,by simp [HCZ.out],fun t ht=>(((HC3.out t ht).s0 _ (by have:=cJ.out.1;omega)).s1 _).s2 _ (Vf _ _).1 (Int.le_trans (Vf _ _).2 (by decide))⟩;clear q1 q2 q3));go_roundw
    case rel=>exact ⟨j+1,_,_,by omega,by go_num,HY.out,HGB.out⟩
    case measure=>simp [intOf];omega
   ·obtain rfl:j=n:=by omega
    obtain ⟨gl,hgl,bP,hgz⟩:=hnb.sl;have HGL:=Hd hgl;have cG:=Hd bP;have HGZ:=Hd hgz;clear hgl bP hgz hnb;go_wp2
    go_end0
    have iS:=eJ.out.bg;rw [st_32 _ _ _ _ gl HGL.out] at iS;refine ⟨rfl,({ { { enK k nm with level:=v1 } with owner:=s1 } with grants:=gl },l,er),⟨none,0,some ⟨hb,0,none⟩,j⟩,trivial,?_,rfl,rfl,eJ.out.rd,iS,⟨Sl.nil,?_,fun p hp _=>(by cases hp),fun p hp _=>?_⟩,eJ.out.fa⟩
    ·exact enK_sm k nm HNM.out v1 bK.out.2 s1 bK.out.1 gl (by rw [HGL.out];exact hn9) HGZ.out
    ·show Sl grC 3 wr wr.heap.size (some ⟨hb,0,none⟩) gl.length j gl;rw [HGL.out];exact cG.out
    ·injection hp with hp
     subst hp;exact eN
def Jw (s:Bz) (g:Bool):Value:=.agg #[.string s,.bool g]
theorem who_lits (D:Nat) (s:Bz) (g:Bool) (h:s.size≤maxLen):prog.keyLits (D+2) 316 (Jw s g).cells.toList=some [.string s.data.toList,.bool g]:=by
 have c1:prog.cellsOf 316=2:=by kernel_rfl
 have c2:prog.cellsOf 9=1:=by kernel_rfl
 have c3:prog.cellsOf 4=1:=by kernel_rfl
 simp [Program.keyLits,Jw,Value.cells,Tryz.underlying316,Tryz.underlying9,Tryz.underlying4,c1,c2,c3,h]
theorem who_key (s:Bz) (g:Bool) (h:s.size≤maxLen):∃ l,keyOf prog 316 (Jw s g)=some l:=by
 have h1:decide (1≤prog.types.size)=true:=by kernel_rfl
 have h2:=of_decide_eq_true h1;obtain ⟨D,hD⟩:∃ D,prog.types.size+1=D+2:=⟨prog.types.size-1,by omega⟩
 have h3:prog.keyType 316=true:=by kernel_rfl
 have h4:(Jw s g).formed prog 316=true:=by kernel_rfl
 unfold keyOf;rw [Tryz.underlying316];simp only [h3,h4,Bool.and_self,if_true,hD,who_lits D s g h,Option.map_some];exact ⟨_,rfl⟩
def SeenM (W:Wd) (b:Nat):Prop:=∃ (es:Array MapEntry) (c:Nat),W.heap[b]? =some (.map es c)∧∀ e∈es.toList,(∃ s g,e.key=Jw s g∧s.size≤maxLen)∧e.val = .bool true
theorem SeenM.lt {W:Wd} {b:Nat} (h:SeenM W b):b<W.heap.size:=by
 obtain ⟨es,c,hb,_⟩:=h;rcases Nat.lt_or_ge b W.heap.size with aG|hge
 ·exact aG
 ·rw [Array.getElem?_eq_none hge] at hb;cases hb
theorem SeenM.below {W W':Wd} {b:Nat} (h:SeenM W b) (hb:Below W.heap.size W W'):SeenM W' b:=by
 have aG:=h.lt;obtain ⟨es,c,h1,h2⟩:=h;exact ⟨es,c,(hb.block b aG).trans h1,h2⟩
theorem SeenM.new (W:Wd):SeenM (W.alloc (.map #[] 0)) W.heap.size:=⟨#[],0,heap_alloc_new W _,fun e he=>by simp at he⟩
theorem seen_find (es:List MapEntry) (h:∀ e∈es,(∃ s g,e.key=Jw s g∧s.size≤maxLen)∧e.val = .bool true) (s:Bz) (g:Bool) (hs:s.size≤maxLen) (W:Wd):
  ∃ r,(Instr.findKey 316 (Jw s g) es).run prog W = .ok r W∧(r=none∨∃ i,r=some (i,.bool true)):=by
 have heq:∀ {x y:Value} {lx ly:Lit},keyOf prog 316 x=some lx→keyOf prog 316 y=some ly→∃ r:Bool,(Op.equal 316 x y).run prog W = .ok r W∧(r=true↔lx=ly):=
  fun hx hy=>run_equal_deep W (m:=3) (by decide) (by kernel_rfl) (by rw [Tryz.underlying316]) hx hy
 obtain ⟨lx,hx⟩:=who_key s g hs;cases es with
 |nil=>exact ⟨none,by simp [Instr.findKey,run_underlying Tryz.underlying316,Instr.findNow,Result.andThen],.inl rfl⟩
 |cons e es=>
  have hn:∀ d,prog.underlying 316=some d→Instr.findNow d (Jw s g) (e::es) 0=none:=fun d hd=>by
   rw [Tryz.underlying316] at hd;injection hd with hd
   subst hd;simp [Instr.findNow,Instr.sameNow]
  have hf:=hn _ Tryz.underlying316;rcases run_findAsking_of W heq hx (e::es) 0 (fun x hx2=>by obtain ⟨⟨s3,g3,h3,h4⟩,_⟩:=h x hx2;rw [h3];exact who_key s3 g3 h4) with ⟨h1,_⟩|⟨j,e2,h1,h2,_⟩
  ·exact ⟨none,by simp [Instr.findKey,run_underlying Tryz.underlying316,hf,h1,Result.andThen],.inl rfl⟩
  ·exact ⟨some (0+j,e2.val),by simp [Instr.findKey,run_underlying Tryz.underlying316,hf,h1,Result.andThen],.inr ⟨0+j,by rw [(h e2 (List.mem_of_getElem? h2)).2]⟩⟩
theorem who_check (em:Bool) (s:Bz) (g:Bool) (hs:s.size≤maxLen) (W:Wd):(Instr.checkKey em 10000 316 (Jw s g)).run prog W = .ok () W:=
 run_checkKey_deep em 9997 3 316 (by kernel_rfl) W 4 (Jw s g) _ (by kernel_rfl) (who_lits 2 s g hs)
theorem seen_run {W:Wd} {b:Nat} (h:SeenM W b) (s:Bz) (g:Bool) (hs:s.size≤maxLen):
  (Instr.lookup 314 (.map (some b)) (Jw s g) false).run prog W = .ok (.bool true) W ∨
  ((Instr.lookup 314 (.map (some b)) (Jw s g) false).run prog W = .ok (.bool false) W ∧
   ∃ W',(Instr.mapUpdate 314 (.map (some b)) (Jw s g) (.bool true)).run prog W = .ok () W'∧SeenM W' b∧Far [b] W W'):=by
 obtain ⟨es,c,hb,he⟩:=h;obtain ⟨r,hr,hc⟩:=seen_find es.toList he s g hs W;have k1:=who_check es.isEmpty s g hs W;have k2:=who_check false s g hs W;rcases hc with rfl|⟨i,rfl⟩
 ·refine .inr ⟨by simp [Instr.lookup,run_underlying Tryz.underlying314,MapKept.run_getObj_map hb,k1,hr],{ W with heap:=W.heap.setIfInBounds b (.map (es.push ⟨Jw s g,.bool true,c⟩) (c+1)) },?_,⟨_,_,(MapKept.heap_set hb).1,fun e hm=>?_⟩,F3⟩
  ·simp [Instr.mapUpdate,run_underlying Tryz.underlying314,MapKept.run_getObj_map hb,k2,hr,MapKept.run_setObj_map _ hb,Result.andThen]
  ·rw [Array.toList_push] at hm;rcases List.mem_append.1 hm with hm|hm
   ·exact he e hm
   ·rw [List.mem_singleton.1 hm];exact ⟨⟨s,g,rfl,hs⟩,rfl⟩
 ·exact .inl (by simp [Instr.lookup,run_underlying Tryz.underlying314,MapKept.run_getObj_map hb,k1,hr])
theorem EB.far {e:En} {a:EnA} {w W W':Wd} {b:Nat} (h:EB e a w W) (hf:Far [b] W W') (hb:w.heap.size<b) (h0:Sta w):EB e a w W':=
 have h2:Below w.heap.size w W':=h.be.trans (hf.below (by simp;omega) (by have:=h.sz;omega))
 ⟨h.e1.far' hf (by simp;omega),h2,Lx h.sz hf.size,h0.after h2⟩
structure PRd (e:En) (a:EnA) (x:Gra) (h:Nat) (w W:Wd):Prop where
 eb:EB e a w W
 sm:SeenM W (w.heap.size+1)
 b1:Blk W h 283 (grC x).toArray
 b2:Blk W (h+1) 316 #[.string x.who,.bool x.group]
theorem PRd.next {e:En} {a:EnA} {x:Gra} {h:Nat} {w W W':Wd} (k:PRd e a x h w W) (hb:Below W.heap.size W W'):PRd e a x h w W':=
 ⟨k.eb.next hb,k.sm.below hb,k.b1.below hb k.b1.lt,k.b2.below hb k.b2.lt⟩
theorem Fe (e:En) (a:EnA) (w:Wd) (hw:EW [] w e a) (hs:Sm e) (ht:Sta w):
  Calls prog 209 #[.agg (enC e a).toArray] w (BoolG w):=by
 obtain ⟨A,C,gA,gC⟩:=a;have HX:=Hd (EB.new e ⟨A,C,gA,gC⟩ w ht);have HSG:=Hd hw.sg;have HS:=Hd hs;have hmm:=@run_makeMap prog;have c32:=((HX.out.alloc (.map #[] 0)).cell 32 (.slice gA e.grants.length gC) rfl)
 have HT:=Hd ht;have hlg:=hs.lg;have HSM:Hid (SeenM ((w.alloc (.cells (enC e ⟨A,C,gA,gC⟩).toArray 159)).alloc (.map #[] 0)) (w.heap.size+1)):=Hd (by have h:=SeenM.new (w.alloc (.cells (enC e ⟨A,C,gA,gC⟩).toArray 159));rwa [show (w.alloc (.cells (enC e ⟨A,C,gA,gC⟩).toArray 159)).heap.size=w.heap.size+1 from by simp] at h);have bI:=Hd (HX.out.alloc (.map #[] 0));clear hw hs ht;go_enter Tryz.func209,Tryz.ntmps209;go_wp2;clear c32;go_loopw [11] (fun i wr => ∃ j:Nat,j≤e.grants.length∧i = .int .i64 j∧EB e ⟨A,C,gA,gC⟩ w wr∧SeenM wr (w.heap.size+1)) (fun i _=>e.grants.length-(intOf i).toNat)
 case atStart=>exact ⟨0,Z0 _,rfl,bI.out,HSM.out⟩
 case round=>
  obtain ⟨j,hj,rfl,hx,eA⟩:=hrel;have eJ:=Hd hx;have HSr:=Hd eA;clear hx eA bI;by_cases aG:j<e.grants.length
  ·obtain ⟨b2,o2,x,rfl,hb,hg,aB⟩:=Sl.cell (f:=grC) (k:=3) (fun _=>rfl) (HSG.out.below eJ.out.be) aG;have HM:Hid (wr.rangeAt b2 (o2+j*3) (grC x)):=Hd fun t u hu=>aB t u hu
   have HG:=Hd (HS.out.gr x (List.mem_of_getElem? hg));have aQ:=Hd fun old=>Blk.new wr 283 old
   have bK:=Hd fun old=>U1 wr old (grC x).toArray 283
   have fT:=Hd (show (grC x).toArray.all (·.oneCell')=true by simp [grC,Value.oneCell']);have g0:=((Blk.new wr 283 (grC x).toArray).cell 0).trans (show _=some (Value.string x.who) from rfl);have g1:=((Blk.new wr 283 (grC x).toArray).cell 1).trans (show _=some (Value.bool x.group) from rfl);have k0:=((aQ.out (grC x).toArray).alloc (.cells #[.string x.who,.bool x.group] 316)).cell 0 |>.trans (show _=some (Value.string x.who) from rfl)
   clear hg aB hb;go_wp2_with (first|((with_reducible refine Gl 283 13 ?_);refine Ln 283 b2 (o2+j*3) (grC x) HM.out Tryz.underlying283 ?_)|((with_reducible refine Gt 283 5 ?_);refine Lv 283 wr.heap.size (grC x).toArray (aQ.out _) fT.out ?_;rw [bK.out])|((with_reducible show Calls _ _ _ _ _);refine Stop.go ?_));refine Stop.in' ?_;rename_i K hK X hX
   have HP:Hid (PRd e ⟨A,C,some ⟨b2,o2,none⟩,gC⟩ x wr.heap.size w ((wr.alloc (.cells (grC x).toArray 283)).alloc (.cells #[.string x.who,.bool x.group] 316))):=Hd ⟨(eJ.out.alloc _).alloc _,HSr.out.below (W':=(wr.alloc (.cells (grC x).toArray 283)).alloc (.cells #[.string x.who,.bool x.group] 316)) (((Bf wr.heap.size wr).alloc (Le _) (.cells (grC x).toArray 283)).alloc (by simp) _),(Blk.new wr _ _).alloc _,U3 (wr.alloc (.cells (grC x).toArray 283)) _ _ (wr.heap.size+1) (by simp)⟩;obtain ⟨Y,hY⟩:∃ Y,(wr.alloc (.cells (grC x).toArray 283)).alloc (.cells #[.string x.who,.bool x.group] 316)=Y:=⟨_,rfl⟩
   simp only [hY] at HP ⊢;clear hY g0 g1 k0 aQ bK fT HM eJ HSr;refine (Z9 x.who Y (by have:=HG.out.1;unfold maxLen;omega) HP.out.eb.st.mx).mono ?_;rintro v Y1 ⟨rfl,hb⟩;have HP:=Hd (HP.out.next hb);clear hb;simp only [];refine hX _ _ ?_;clear hX;generalize Jn x.who=q1;cases q1 with
   |false=>
    refine Wv (.bool true) ?_;refine Wv (.bool true) ?_;refine Wk ?_;refine Wk ?_;refine Wk ?_;refine Wk ?_;refine Wk ?_;refine Wv (.bool true) ?_;refine Wv (.bool true) ?_;refine Wk ?_;refine Wk ?_;refine Wk ?_;refine Wv (.bool true) ?_;refine wpList_nil ?_;simp only [Exit.then];refine hK _ _ ?_;clear hK;go_wp2;go_ret;exact ⟨⟨_,rfl⟩,HP.out.eb.be⟩
   |true=>
    refine Wv (.bool false) ?_;refine Wv (.bool false) ?_;refine Wv (.pointer (some ⟨wr.heap.size,2,none⟩)) ?_;have m1:=(HP.out.b1.cell 2).trans (show _=some (Value.int .i64 x.level) from rfl);refine Wv (.int .i64 x.level) ?_ (r:=by go_simp);clear m1;refine Xa (by kernel_rfl) (.slice (some ⟨Y1.heap.size,0,none⟩) 1 1) (Y1.alloc (.cells #[.int .i64 x.level] 3)) (by go_simp) ?_;simp only [Act.put,Sv,Sz,Sw];have bJ:Hid (Sl Vc 1 (Y1.alloc (.cells #[.int .i64 x.level] 3)) (Y1.alloc (.cells #[.int .i64 x.level] 3)).heap.size (some ⟨Y1.heap.size,0,none⟩) 1 1 [x.level]):=Hd (Kl Y1 [x.level] 3);have HP:=Hd (HP.out.next ((Bf _ _).alloc (Le _) (.cells #[.int .i64 x.level] 3)));refine V7 (by kernel_rfl) 196 #[.int .i64 0,.int .i64 3,.slice (some ⟨Y1.heap.size,0,none⟩) 1 1] (by kernel_rfl) ?_;refine (Ve 0 3 _ 1 1 [x.level] _ bJ.out (by decide)).mono ?_
    rintro v V ⟨rfl,rfl⟩;simp only [];simp only [Act.put,Sv,Sz,Sw];obtain ⟨Y2,hY⟩:∃ Y,Y1.alloc (.cells #[.int .i64 x.level] 3)=Y:=⟨_,rfl⟩
    simp only [hY] at HP ⊢;clear hY bJ;generalize wiB 0 3 [x.level]=q2;cases q2 with
    |false=>
     refine Wv (.bool true) ?_;refine Wv (.bool true) ?_;refine Wv (.bool true) ?_;refine Wk ?_;refine Wk ?_;refine Wk ?_;refine Wv (.bool true) ?_;refine wpList_nil ?_;simp only [Exit.then];refine hK _ _ ?_;clear hK;go_wp2;go_ret;exact ⟨⟨_,rfl⟩,HP.out.eb.be⟩
    |true=>
     refine Wv (.bool false) ?_;refine Wv (.bool false) ?_;refine Wv (.bool false) ?_;refine Wv (.map (some (w.heap.size+1))) ?_;refine U9 (by kernel_rfl) 316 _ rfl (wr.heap.size+1) rfl 316 #[.string x.who,.bool x.group] (0,0) _ HP.out.b2 Tryz.underlying316 rfl (by kernel_rfl) ?_;simp only [Act.put,Sv,Sz,Sw];rcases seen_run HP.out.sm x.who x.group (by have:=HG.out.1;unfold maxLen;omega) with hl|⟨hl,W',hup,hsm',bW⟩
     ·refine J4 (by kernel_rfl) (.bool true) (Gk rfl rfl rfl hl) ?_;simp only [Act.put,Sv,Sz,Sw];refine Wv (.bool true) ?_;refine wpList_nil ?_;simp only [Exit.then];refine hK _ _ ?_;clear hK;go_wp2;go_ret;exact ⟨⟨_,rfl⟩,HP.out.eb.be⟩
     ·refine J4 (by kernel_rfl) (.bool false) (Gk rfl rfl rfl hl) ?_;simp only [Act.put,Sv,Sz,Sw];refine Wv (.bool false) ?_;refine wpList_nil ?_;simp only [Exit.then];refine hK _ _ ?_;clear hK;have k0:=(HP.out.b2.cell 0).trans (show _=some (Value.string x.who) from rfl);have k1:=(HP.out.b2.cell 1).trans (show _=some (Value.bool x.group) from rfl);unfold Jw at hup;have fU:=Hd (HP.out.eb.far bW (by omega) HT.out);have bR:=Hd hsm';clear hl hsm' bW;go_wp2;go_roundw
      case rel=>exact ⟨j+1,by omega,by go_num,fU.out,bR.out⟩
      case measure=>simp [intOf];omega
  ·obtain rfl:j=e.grants.length:=by omega
   have c31:=eJ.out.cell 31 (.int .i64 e.level) rfl;have HY:=Hd (eJ.out.alloc (.cells #[.int .i64 e.level] 3));have d28:=HY.out.cell 28 (.string e.owner) rfl;have d32:=HY.out.cell 32 (.slice gA e.grants.length gC) rfl;have HWI:Hid (Calls prog 196 #[.int .i64 0,.int .i64 3,.slice (some ⟨wr.heap.size,0,none⟩) 1 1] (wr.alloc (.cells #[.int .i64 e.level] 3)) fun x w'=>x = .returned (.bool (wiB 0 3 [e.level]))∧wr.alloc (.cells #[.int .i64 e.level] 3)=w'):=Hd (Ve 0 3 _ 1 1 [e.level] _ (Kl wr [e.level] 3) (by decide));have HWD:=Hd (Z9 e.owner _ (by have:=HS.out.eo;unfold maxLen;omega) HY.out.st.mx);obtain ⟨z,hz⟩:∃ z,(e.owner.toList == [])=z:=⟨_,rfl⟩
   have hlen:decide ((e.grants.length:Int)≤8)=true∨decide ((e.grants.length:Int)≤8)=false:=by cases decide ((e.grants.length:Int)≤8)<;>simp
   generalize wiB 0 3 [e.level]=q1 at HWI;generalize Jn e.owner=q2 at HWD;cases q1<;>cases z<;>cases q2
   all_goals
    go_wp2_with (first|(go_at_call 196;refine HWI.out.mono ?_;rintro x V ⟨rfl,rfl⟩)|(go_at_call 197;refine HWD.out.mono ?_;rintro x V ⟨rfl,hb⟩;have HY:=Hd (HY.out.next hb);have d32:=HY.out.cell 32 (.slice gA e.grants.length gC) rfl;clear hb));go_ret;exact ⟨⟨_,rfl⟩,HY.out.be⟩
def fvC (L:Int) (nf ff vf:Nat):Array Value:=#[.int .u8 L,.func (.func nf) #[] #[],.func (.func ff) #[] #[],.func (.func vf) #[] #[]]
def EFV (L:Int) (nf ff vf:Nat):Value:=.agg (fvC L nf ff vf)
theorem Hl (L:Int) (nf ff vf:Nat):(fvC L nf ff vf).all (·.oneCell')=true:=by simp [fvC,Value.oneCell']
def fm1:Array MapEntry:=#[⟨.int .i64 0,(EFV 68 187 188 189),0⟩]
def fm2:Array MapEntry:=fm1.push ⟨.int .i64 1,(EFV 71 190 191 195),1⟩
def fm3:Array MapEntry:=fm2.push ⟨.int .i64 2,(EFV 65 198 200 201),2⟩
def fm4:Array MapEntry:=fm3.push ⟨.int .i64 3,(EFV 67 202 204 206),3⟩
def fm5:Array MapEntry:=fm4.push ⟨.int .i64 4,(EFV 80 207 208 209),4⟩
theorem Ir (w:Wd) (es:Array MapEntry) (c:Nat) (key:Int) (val:Value) (hf:Instr.findNow (.int .i64) (.int .i64 key) es.toList 0=some none):
  (Instr.mapUpdate 231 (.map (some w.heap.size)) (.int .i64 key) val).run prog (w.alloc (.map es c)) = .ok () (w.alloc (.map (es.push ⟨.int .i64 key,val,c⟩) (c+1))):=by
 have hb:(w.alloc (.map es c)).heap[w.heap.size]? =some (.map es c):=heap_alloc_new w _;have hc:(Instr.checkKey false 10000 3 (.int .i64 key)).run prog (w.alloc (.map es c)) = .ok () (w.alloc (.map es c)):=MapKept.run_checkKey (k:=.int .i64 key) Tryz.underlying3 (by simp [MapKept.IsKey]) false 9999
 have hs:({ w.alloc (.map es c) with heap:=(w.alloc (.map es c)).heap.setIfInBounds w.heap.size (.map (es.push ⟨.int .i64 key,val,c⟩) (c+1)) }:Wd)=w.alloc (.map (es.push ⟨.int .i64 key,val,c⟩) (c+1)):=by
  unfold World.alloc;simp only [push_set]
 simp [Instr.mapUpdate,run_underlying Tryz.underlying231,MapKept.run_getObj_map hb,hc,MapKept.run_findKey Tryz.underlying3 hf,MapKept.run_setObj_map _ hb,Result.andThen];exact hs
theorem Yf (w:Wd):Calls prog 150 #[] w fun e w'=>e = .returned (.map (some w.heap.size))∧w.alloc (.map fm5 5)=w':=by
 have hmm:=@run_makeMap prog;have e0:(Instr.mapUpdate 231 (.map (some w.heap.size)) (.int .i64 0) (.agg #[.int .u8 68,.func (.func 187) #[] #[],.func (.func 188) #[] #[],.func (.func 189) #[] #[]])).run prog (w.alloc (.map #[] 0)) = .ok () (w.alloc (.map fm1 1)):=Ir w #[] 0 0 _ rfl;have e1:(Instr.mapUpdate 231 (.map (some w.heap.size)) (.int .i64 1) (.agg #[.int .u8 71,.func (.func 190) #[] #[],.func (.func 191) #[] #[],.func (.func 195) #[] #[]])).run prog (w.alloc (.map fm1 1)) = .ok () (w.alloc (.map fm2 2)):=Ir w fm1 1 1 _ rfl;have e2:(Instr.mapUpdate 231 (.map (some w.heap.size)) (.int .i64 2) (.agg #[.int .u8 65,.func (.func 198) #[] #[],.func (.func 200) #[] #[],.func (.func 201) #[] #[]])).run prog (w.alloc (.map fm2 2)) = .ok () (w.alloc (.map fm3 3)):=Ir w fm2 2 2 _ rfl
 have e3:(Instr.mapUpdate 231 (.map (some w.heap.size)) (.int .i64 3) (.agg #[.int .u8 67,.func (.func 202) #[] #[],.func (.func 204) #[] #[],.func (.func 206) #[] #[]])).run prog (w.alloc (.map fm3 3)) = .ok () (w.alloc (.map fm4 4)):=Ir w fm3 3 3 _ rfl;have e4:(Instr.mapUpdate 231 (.map (some w.heap.size)) (.int .i64 4) (.agg #[.int .u8 80,.func (.func 207) #[] #[],.func (.func 208) #[] #[],.func (.func 209) #[] #[]])).run prog (w.alloc (.map fm4 4)) = .ok () (w.alloc (.map fm5 5)):=Ir w fm4 4 4 _ rfl;go_enter Tryz.func150,Tryz.ntmps150;go_wp2;go_ret;exact ⟨rfl,rfl⟩
def fmV (k:Int):Value:=if k=0 then (EFV 68 187 188 189) else if k=1 then (EFV 71 190 191 195) else if k=2 then (EFV 65 198 200 201) else if k=3 then (EFV 67 202 204 206) else (EFV 80 207 208 209)
theorem fm_some (k:Int) (h0:0≤k) (h4:k≤4):∃ i,Instr.findNow (.int .i64) (.int .i64 k) fm5.toList 0=some (some (i,fmV k)):=by
 have:k=0∨k=1∨k=2∨k=3∨k=4:=by omega
 rcases this with rfl|rfl|rfl|rfl|rfl
 ·exact ⟨0,rfl⟩
 ·exact ⟨1,rfl⟩
 ·exact ⟨2,rfl⟩
 ·exact ⟨3,rfl⟩
 ·exact ⟨4,rfl⟩
theorem fLook (w:Wd) (b:Nat) (k:Int) (hb:w.heap[b]? =some (.map fm5 5)) (h0:0≤k) (h4:k≤4) (ok:Bool):
  (Instr.lookup 231 (.map (some b)) (.int .i64 k) ok).run prog w = .ok (if ok then .tuple #[fmV k,.bool true] else fmV k) w:=by
 obtain ⟨i,hf⟩:=fm_some k h0 h4;have hc:(Instr.checkKey fm5.isEmpty 10000 3 (.int .i64 k)).run prog w = .ok () w:=MapKept.run_checkKey (k:=.int .i64 k) Tryz.underlying3 (by simp [MapKept.IsKey]) _ 9999;simp [Instr.lookup,run_underlying Tryz.underlying231,MapKept.run_getObj_map hb,hc,MapKept.run_findKey Tryz.underlying3 hf]
structure FormC (nf ff vf:Nat):Prop where
 n:∀ args W,(callFunc nf args).run prog W = .ok (.enter nf args) W
 f:∀ args W,(callFunc ff args).run prog W = .ok (.enter ff args) W
 v:∀ args W,(callFunc vf args).run prog W = .ok (.enter vf args) W
theorem formC0:FormC 187 188 189:=⟨fun args W=>by kernel_rfl,fun args W=>by kernel_rfl,fun args W=>by kernel_rfl⟩
theorem formC1:FormC 190 191 195:=⟨fun args W=>by kernel_rfl,fun args W=>by kernel_rfl,fun args W=>by kernel_rfl⟩
theorem formC2:FormC 198 200 201:=⟨fun args W=>by kernel_rfl,fun args W=>by kernel_rfl,fun args W=>by kernel_rfl⟩
theorem formC3:FormC 202 204 206:=⟨fun args W=>by kernel_rfl,fun args W=>by kernel_rfl,fun args W=>by kernel_rfl⟩
theorem formC4:FormC 207 208 209:=⟨fun args W=>by kernel_rfl,fun args W=>by kernel_rfl,fun args W=>by kernel_rfl⟩
theorem BoolG.bo {w w':Wd} {e:Ending} {P:Bool→Prop} (h:BoolG w e w') (hP:∀ b,P b):BoP P w e w':=by
 obtain ⟨⟨b,rfl⟩,hb⟩:=h;exact ⟨⟨b,hP b,rfl⟩,hb⟩
theorem nm_loose {k:Int} (h0:k≠0) (h1:k≠1) (s:Bz) (b:Bool):nmP k s b:=⟨fun h=>absurd h h0,fun h=>absurd h h1⟩
theorem va_loose {k:Int} (h0:k≠0) (h1:k≠1) (e:En) (b:Bool):vaP k e b:=⟨fun h=>absurd h h0,fun h=>absurd h h1⟩
theorem wr_loose {k:Int} (h0:k≠0) (h1:k≠1) (e:En) (s:Bz):wrP k e s:=⟨fun h=>absurd h h0,fun h=>absurd h h1⟩
theorem rd_loose {k:Int} (h0:k≠0) (h1:k≠1) (nm left:Bz) (R:En×Bz×Int):rdP k nm left R:=⟨fun h=>absurd h h0,fun h=>absurd h h1⟩
theorem V5 {l:List Int} {i:Nat} (h:∀ n∈l,0≤n∧n≤1099511627777):0≤l.getD i 0∧l.getD i 0≤9223372036854775807:=by
 rw [List.getD_eq_getElem?_getD];cases hg:l[i]? with
 |none=>simp
 |some x=>have:=h x (List.mem_of_getElem? hg);simp;omega
theorem dataR_sm (k:Int) (nm left:Bz) (cC:nm.size≤1000):Sm (F7 k nm left).1:=by
 have r1:=Ym 14 left 0;unfold F7;dsimp only;generalize Uk 14 left 0=p at r1 ⊢;generalize X5 p.2.1 p.2.2=t;have r3:=Vf t.2.1 t.2.2;generalize Uz t.2.1 t.2.2=c at r3 ⊢;have z4:=Zk c.2.1 c.2.2;generalize Uj c.2.1 c.2.2 200=v at z4 ⊢;have z5:=Zk v.2.1 v.2.2;generalize Uj v.2.1 v.2.2 200=o at z5 ⊢;have r6:=Ym 2 o.2.1 o.2.2;generalize Uk 2 o.2.1 o.2.2=q at r6 ⊢;generalize X5 q.2.1 q.2.2=b;have r8:=Vf b.2.1 b.2.2;generalize Uz b.2.1 b.2.2=n at r8 ⊢;have h5:(Zx n.1 4).toNat≤5:=by unfold Zx;split<;>omega
 have h9:=Xi (Zx n.1 4).toNat n.2.1 n.2.2;have r9:=Ym (Zx n.1 4).toNat n.2.1 n.2.2;generalize Uk (Zx n.1 4).toNat n.2.1 n.2.2=al at h9 r9 ⊢;have r10:=Vf al.2.1 al.2.2;generalize Uz al.2.1 al.2.2=u at r10 ⊢
 exact ⟨cC,by show v.1.size≤1000;omega,by show o.1.size≤1000;omega,by show (0:Nat)≤1000;omega,by show (0:Nat)≤1000;omega,by show al.1.length≤5;omega,by show (0:Nat)≤9;omega,fun x hx=>by have:=r9 x hx;omega,fun x hx=>(by cases hx),by
  simp only [List.mem_cons,List.not_mem_nil,or_false,forall_eq_or_imp,forall_eq];exact ⟨V5 r1,V5 r1,V5 r1,V5 r1,V5 r1,V5 r1,V5 r1,V5 r1,V5 r1,V5 r1,V5 r1,V5 r1,V5 r1,V5 r1,⟨r3.1,by omega⟩,V5 r6,V5 r6,⟨r10.1,by omega⟩,by omega,by omega,by omega,by omega⟩⟩
theorem grpR_sm (k:Int) (nm left:Bz) (cC:nm.size≤1000):Sm (grpR k nm left).1:=by
 have r1:=Ym 2 left 0;unfold grpR;dsimp only;generalize Uk 2 left 0=q at r1 ⊢;generalize X5 q.2.1 q.2.2=b;have z3:=Zk b.2.1 b.2.2;generalize Uj b.2.1 b.2.2 200=o at z3 ⊢
 exact ⟨cC,by show (0:Nat)≤1000;omega,by show (0:Nat)≤1000;omega,by show o.1.size≤1000;omega,by show (0:Nat)≤1000;omega,by show (0:Nat)≤5;omega,by show (0:Nat)≤9;omega,fun x hx=>(by cases hx),fun x hx=>(by cases hx),by
  simp only [dZ,List.mem_cons,List.not_mem_nil,or_false,forall_eq_or_imp,forall_eq];refine ⟨?_,?_,?_,?_,?_,?_,?_,?_,?_,?_,?_,?_,?_,?_,?_,?_,?_,?_,V5 r1,V5 r1,?_,?_⟩<;>omega⟩
theorem dataW_size (e:En) (hs:Sm e):(dataW ⟨#[]⟩ e).size≤100000:=by
 unfold dataW;have h1:=hs.vo;have h2:=hs.ow;have h3:=hs.la;have q1:=Xj e.d.vol;have q2:=Xj e.d.own;have q3:=V9 e.d.cls;have q4:=V9 e.alts.length;have h0:(⟨#[]⟩:Bz).size=0:=rfl;refine Lx (X8 _ _) ?_;refine Lx (Nat.add_le_add_right (X8 _ _) _) ?_;simp only [ByteArray.size_append,Xw];refine Lx (Nat.add_le_add_right (Nat.add_le_add_right (Nat.add_le_add_right (Nat.add_le_add_right (X8 _ _) _) _) _) _) ?_;simp only [ByteArray.size_append,Xw];refine Lx (Nat.add_le_add_right (Nat.add_le_add_right (Nat.add_le_add_right (Nat.add_le_add_right (Nat.add_le_add_right (Nat.add_le_add_right (Nat.add_le_add_right (Nat.add_le_add_right (Nat.add_le_add_right (X8 _ _) _) _) _) _) _) _) _) _) _) ?_;simp only [List.length_cons,List.length_nil];omega
theorem grpW_size (e:En) (hs:Sm e):(grpW ⟨#[]⟩ e).size≤100000:=by
 unfold grpW;have h1:=hs.eo;have q1:=Xj e.owner;have q2:=X8 [e.limit,e.last] ⟨#[]⟩;have h0:(⟨#[]⟩:Bz).size=0:=rfl;simp only [ByteArray.size_append,Xw,List.length_cons,List.length_nil] at q2 ⊢;omega
end Go.Proofs.YtoakknkmjnebjaaGreatDoor
