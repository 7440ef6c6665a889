/- Part of the proof of HistoryReads. -/
import Derived.Test.YtapanepkfbamhaaGreatDoorJBA
import Derived.Maps.RangeWalk
namespace Go.Proofs.YtapanepkfbamhaaGreatDoor
open Tryz (prog)
section
set_option maxRecDepth 100000
set_option maxHeartbeats 4000000
open Go.RowKit
noncomputable def Jf (e:En):Option ByteArray:=if validE e then some (keyF (if e.kind=0 then 68 else 71) e.name++bodyF e.kind e) else none
def encP (e:En) (o:Option ByteArray):Prop:=e.kind=0∨e.kind=1→o=Jf e
def encV:Option ByteArray→Value
 |none=>.tuple #[.string ⟨#[]⟩,.int .i64 1]
 |some s=>.tuple #[.string s,.int .i64 0]
def EncG (e:En) (w:World) (x:Ending) (w':World):Prop:=(∃ o:Option ByteArray,encP e o∧(∀ s,o=some s→s.size≤200000)∧x = .returned (encV o))∧Below w.heap.size w w'
theorem keyF_size (L:Int) (nm:ByteArray):(keyF L nm).size≤100:=by
 unfold keyF;split
 ·exact Z0 _
 ·rename_i h
  have h2:=Lib.repeatL_length [32] (31-nm.size);rw [ByteArray.size_append,ByteArray.size_append,Ej];show 1+nm.size+(Lib.repeatL [32] (31-nm.size)).toArray.size≤100;rw [List.size_toArray,h2];simp only [List.length_cons,List.length_nil];omega
theorem Jg (e:En) (a:EnA) (w:World) (hw:EW [] w e a) (hs:Sm e) (h0:0≤e.kind) (h4:e.kind≤4) (ht:Sta w):
  Calls prog 152 #[.agg (enC e a).toArray] w (EncG e w):=by
 obtain ⟨L,nf,ff,vf,hfm,hF,hC,hL0,hL1,hLD,hLG⟩:=fm_form e.kind h0 h4;have HX:=Hd (EB.new e a w ht);have HLK:Hid (∀ W b,W.heap[b]? =some (.map fm5 5)→(Instr.lookup 231 (.map (some b)) (.int .i64 e.kind) false).run prog W = .ok (.agg (fvC L nf ff vf)) W):=Hd fun W b hb=>by have h:=fLook W b e.kind hb h0 h4 false;rw [hfm] at h;exact h
 have HV:=Hd (evalid_any e a _ (hw.below HX.out.be) hs h0 h4 HX.out.st);have HKY:=Hd fun W=>key_any e.kind L nf ff vf e.name W h0 h4 hfm hs.nm
 have HBD:=Hd fun W (h:EB e a w W)=>body_g (L:=L) hF hC e a W (hw.below h.be) hs
 have HEN:Hid (∀ b s,valP e b→wrP e.kind e s→encP e (if b then some (keyF L e.name++s) else none)):=Hd fun b s h1 h2 hk=>by
  rw [h1 hk,wrP_eq h2 hk];unfold Jf;rcases hk with hk|hk
  ·rw [hLD.2 hk,if_pos hk]
  ·rw [hLG.2 hk,if_neg (show ¬ e.kind=0 by omega)]
 have HKZ:=Hd (keyF_size L e.name)
 have HVN:Hid (valP e false→encP e none):=Hd fun h1 hk=>by
  unfold Jf;rw [←h1 hk];rfl
 generalize keyF L e.name=ky at HKY HEN HKZ;clear hw hs h0 h4 ht hfm hF hC hL0 hL1 hLD hLG;go_enter Tryz.func152,Tryz.ntmps152;go_wp2_with (first|((with_reducible refine Gl 159 1 ?_);refine Lr rfl 159 _ rfl (w.heap.size) rfl 159 (enC e a).toArray (0,0) _ HX.out.e1 Tryz.underlying159 rfl (by kernel_rfl) ?_)|(go_at_call 214;refine HV.out.mono ?_;rintro x w2 ⟨⟨b,hb0,rfl⟩,hb⟩;have HP:=Hd hb0;have HX2:=Hd (HX.out.next hb);clear hb hb0;cases b))
 ·refine Br (results_tmp2 Tryz.results152 _ _ _) rfl ?_
  exact ⟨⟨none,HVN.out HP.out,(fun s h=>by cases h),rfl⟩,HX2.out.be⟩
 ·have HXd:Hid (EB e a w w2.drew):=Hd (HX2.out.next (Bf _ _).drew)
  clear HX;refine Rw (S:=fun w'=>EB e a w w') (by kernel_rfl) HXd.out (fun Hh=>?_);refine tk 0 (.pointer (some ⟨w.heap.size,0,none⟩)) Hh ?_;refine tk 1 (.int .i64 e.kind) Hh ?_ (y:=by exact Or.inl ⟨by rfl,by intro w' hSw;have h1:=hSw.cell 0 (.int .i64 e.kind) rfl;go_simp⟩);refine tk 2 (.pointer (some ⟨w.heap.size,1,none⟩)) Hh ?_;refine tk 3 (.string e.name) Hh ?_ (y:=by exact Or.inl ⟨by rfl,by intro w' hSw;have h1:=hSw.cell 1 (.string e.name) rfl;go_simp⟩);refine tk 6 (.pointer (some ⟨w.heap.size,0,none⟩)) Hh ?_;refine tk 7 (.int .i64 e.kind) Hh ?_ (y:=by exact Or.inl ⟨by rfl,by intro w' hSw;have h1:=hSw.cell 0 (.int .i64 e.kind) rfl;go_simp⟩)
  refine tk 9 (.agg (enC e a).toArray) Hh ?_ (y:=by exact yieldsIf_load_mid (by rfl) 159 _ rfl w.heap.size 0 rfl (enC e a) _ (fun w' hSw j v hv=>by rw [hSw.e1.cell,Nat.zero_add,Ga];exact hv) Tryz.underlying159 rfl (by kernel_rfl));refine Ar (rs:=[4]) (by kernel_rfl) (by simp) ?_;refine Rc (fun K hK=>?_) ?_
  ·go_simp
   refine (HKY.out _).mono ?_;rintro x w3 ⟨rfl,hb⟩;simp only [];have HX3:=Hd (HXd.out.next hb);refine hK.out _ _ HX3.out (fun Hh=>?_);clear hK K hb;try simp only [Act.put,Sv,Sz,Sw]
   refine Ar (rs:=[5]) (by kernel_rfl) (by simp) ?_;refine Rc (fun K hK=>?_) ?_
   ·go_simp
    refine (Yd _).mono ?_;rintro x w4 ⟨rfl,rfl⟩;simp only [];refine hK.out _ _ (Hh.alloc _) (fun Hh=>?_);clear hK K;try simp only [Act.put,Sv,Sz,Sw]
    refine Xr (S':=fun w'=>EB e a w w'∧w'.heap[w3.heap.size]? =some (.map fm5 5)) (fun _ h=>h.1) _ _ _ _ ?_
    replace Hh:EB e a w (w3.alloc (.map fm5 5))∧(w3.alloc (.map fm5 5)).heap[w3.heap.size]? =some (.map fm5 5):=⟨Hh,heap_alloc_new w3 _⟩
    refine tk 8 (.agg (fvC L nf ff vf)) Hh ?_ (y:=by exact Or.inl ⟨by rfl,by intro w' hSw;have h1:=HLK.out w' w3.heap.size hSw.2;go_simp⟩);refine Ar (rs:=[10]) (by kernel_rfl) (by simp) ?_;refine Rc (fun K hK=>?_) ?_
    ·go_simp
     refine (HBD.out _ Hh.1).mono ?_;rintro x w5 ⟨⟨s,hs1,hs2,rfl⟩,hb⟩;simp only [];have HX5:=Hd (Hh.1.next hb);have hsz:ky.size+s.size≤9223372036854775807:=by have:=HKZ.out;omega
     have HS:=Hd (And.intro hs1 hs2);refine hK.out _ _ ⟨HX5.out,(hb.block _ (by simp)).trans Hh.2⟩ (fun Hh=>?_);clear hK K hb hs1 hs2;try simp only [Act.put,Sv,Sz,Sw]
     refine tk 11 (.string (ky++s)) Hh ?_ (y:=by exact Or.inl ⟨by rfl,by intro w' hSw;have h1:=hsz;go_simp⟩);refine tk 12 (.string (ky++s)) Hh ?_;refine tk 13 (.int .i64 0) Hh ?_;refine Ad (by kernel_rfl) ?_ _;clear Hh hsz;go_wp2;refine Br (results_tmp2 Tryz.results152 _ _ _) rfl ?_;exact ⟨⟨some (ky++s),HEN.out true s HP.out HS.out.1,(fun t h=>by injection h with h;subst h;rw [ByteArray.size_append];have:=HS.out.2;have:=HKZ.out;omega),rfl⟩,HX5.out.be⟩
    exact An
   exact An
  exact An
end
section
open Go.RowKit Go.ChangeMaps
def trimF (s:ByteArray):ByteArray:=⟨(Lib.trimRightB s.data.toList 32).toArray⟩
def E9 (s:ByteArray):Int:=((s.data.toList.getD 0 0).toNat:Int)
noncomputable def deF (k:Int) (rec:ByteArray):Option En:=
 let R:=readF k (trimF (rec.extract 1 32)) (rec.extract 32 rec.size)
 if Zw R.2.1 R.2.2=0∧Jf R.1=some rec then some R.1 else none
def decP (rec:ByteArray) (o:Option En):Prop:=
 if rec.size<32∨200<rec.size then o=none
 else (E9 rec=68→o=deF 0 rec)∧(E9 rec=71→o=deF 1 rec)∧(E9 rec≠68→E9 rec≠71→∀ e,o=some e→2≤e.kind)
def decV (o:Option En) (a:EnA):Value:=match o with
 |none=>.tuple #[.agg (enC enZ enN).toArray,.int .i64 11]
 |some e=>.tuple #[.agg (enC e a).toArray,.int .i64 0]
def DecG (rec:ByteArray) (w:World) (x:Ending) (w':World):Prop:=(∃ (o:Option En) (a:EnA),decP rec o∧(∀ e,o=some e→Sm e∧0≤e.kind∧e.kind≤4∧EWn w.heap.size w' e a)∧x = .returned (decV o a))∧Below w.heap.size w w'
theorem fm5_mem {e:MapEntry} (h:e∈fm5.toList):∃ k:Nat,k≤4∧e.key = .int .i64 k∧e.val=fmV k∧e.born=k:=by
 have h2:fm5.toList = [⟨.int .i64 0,fmV 0,0⟩,⟨.int .i64 1,fmV 1,1⟩,⟨.int .i64 2,fmV 2,2⟩,⟨.int .i64 3,fmV 3,3⟩,⟨.int .i64 4,fmV 4,4⟩]:=rfl;rw [h2] at h;simp only [List.mem_cons,List.not_mem_nil,or_false] at h;rcases h with rfl|rfl|rfl|rfl|rfl
 ·exact ⟨0,by decide,rfl,rfl,rfl⟩
 ·exact ⟨1,by decide,rfl,rfl,rfl⟩
 ·exact ⟨2,by decide,rfl,rfl,rfl⟩
 ·exact ⟨3,by decide,rfl,rfl,rfl⟩
 ·exact ⟨4,by decide,rfl,rfl,rfl⟩
theorem fm5_born:∀ x∈fm5.toList,x.born<5:=fun x hx=>by obtain ⟨k,h1,_,_,h2⟩:=fm5_mem hx;omega
theorem fm5_nodup:(fm5.toList.map (·.born)).Nodup:=by decide
theorem fm5_all {seen:Array Nat} (h:(leftOf fm5 seen).size=0) {k:Nat} (hk:k≤4):seen.contains k=true:=by
 cases hc:seen.contains k with
 |true=>rfl
 |false=>
  have h1:(⟨.int .i64 k,fmV k,k⟩:MapEntry)∈fm5:=by
   have h2:fm5=#[⟨.int .i64 0,fmV 0,0⟩,⟨.int .i64 1,fmV 1,1⟩,⟨.int .i64 2,fmV 2,2⟩,⟨.int .i64 3,fmV 3,3⟩,⟨.int .i64 4,fmV 4,4⟩]:=rfl;rw [h2];have:k=0∨k=1∨k=2∨k=3∨k=4:=by omega
   rcases this with rfl|rfl|rfl|rfl|rfl<;>simp
  have h3:(⟨.int .i64 k,fmV k,k⟩:MapEntry)∈leftOf fm5 seen:=Array.mem_filter.2 ⟨h1,by simp only [hc];rfl⟩;have h4:leftOf fm5 seen=#[]:=Array.eq_empty_of_size_eq_zero h;rw [h4] at h3;simp at h3
section
variable {P:Program} {ops:Array Oper} {rest:List Oper} {o:Oper} {a:Act} {w:World} {Q:Exit→Act→World→Prop}
def NxW (w w1:World):Prop:=w1=w∨w1=w.drew
theorem wl_next (hg:o.guard=none) (it:Operand) (hop:o.op=Op.next it false) (r bm since c0:Nat) (seen:Array Nat) (es:Array MapEntry) (clock:Nat) (hit:a.eval it = .pointer (some ⟨r,0,none⟩))
  (hr:w.heap[r]? =some (.mapIter (some bm) since seen c0)) (hb:w.heap[bm]? =some (.map es clock)) (hold:∀ x∈es.toList,x.born<since) (hsc:since≤c0)
  (hDone:(leftOf es seen).size=0→wpList P ops Q rest (a.put o.dst (.tuple #[.bool false])) w)
  (hMore:∀ e∈(leftOf es seen).toList,∀ w1:World,NxW w w1→wpList P ops Q rest (a.put o.dst (.tuple #[.bool true,e.key,e.val])) (setBlock w1 r (.mapIter (some bm) since (seen.push e.born) clock))):
  wpList P ops Q (o::rest) a w:=by
 refine wpList_plain hg fun K' hK'=>?_
 unfold Oper.wp;rcases run_next_at (P:=P) w o.type r bm since c0 seen es clock hr hb hold hsc with ⟨h0,hrun⟩|⟨e,he,w1,hw1,hrun⟩
 ·simp [execOp,hop,hit,hrun,Result.andThen]
  exact hK' _ _ (hDone h0)
 ·simp [execOp,hop,hit,hrun,Result.andThen]
  exact hK' _ _ (hMore e he w1 hw1)
end
theorem far_block0 (W:World) (r:Nat) (ob:Obj):Far [r] W (setBlock W r ob):=
 ⟨rfl,rfl,rfl,by simp [setBlock],fun i _ hi=>by simp only [setBlock];rw [Array.getElem?_setIfInBounds_ne (fun e=>hi (by simp [e]))]⟩
theorem far_block {W w1:World} {r:Nat} {ob:Obj} (h:w1=W∨w1=W.drew):Far [r] W (setBlock w1 r ob):=by
 rcases h with rfl|rfl
 ·exact far_block0 _ r ob
 ·have h:=far_block0 W r ob
  exact ⟨h.os,h.tape,h.output,h.size,h.block⟩
theorem block_at {W w1:World} {r:Nat} {ob:Obj} (h:w1=W∨w1=W.drew) (hr:r<W.heap.size):(setBlock w1 r ob).heap[r]? =some ob:=by
 have h0:(setBlock W r ob).heap[r]? =some ob:=by simp [setBlock,hr]
 rcases h with rfl|rfl
 ·exact h0
 ·exact h0
structure DL (seen:Array Nat) (w W:World):Prop where
 mb:W.heap[w.heap.size+1]? =some (.map fm5 5)
 it:∃ c,5≤c∧W.heap[w.heap.size+2]? =some (.mapIter (some (w.heap.size+1)) 5 seen c)
 rc:Blk W w.heap.size 159 (enC enZ enN).toArray
 be:Below w.heap.size w W
 sz:w.heap.size+3≤W.heap.size
def SeenOk (rec:ByteArray) (seen:Array Nat):Prop:=(seen.contains 0=true→E9 rec=68→deF 0 rec=none)∧(seen.contains 1=true→E9 rec=71→deF 1 rec=none)
theorem DL.far {seen:Array Nat} {w W W':World} {S:List Nat} (h:DL seen w W) (hf:Far S W W') (hS:∀ k∈S,w.heap.size+3≤k):DL seen w W':=by
 have hz:=h.sz;have ne:∀ k,k<w.heap.size+3→k ∉ S:=fun k hk hm=>by have:=hS k hm;omega
 obtain ⟨c,hc,hi⟩:=h.it;exact ⟨(hf.block _ (by omega) (ne _ (by omega))).trans h.mb,⟨c,hc,(hf.block _ (by omega) (ne _ (by omega))).trans hi⟩,h.rc.far' hf (ne _ (by omega)),h.be.trans (hf.below (fun k hk=>by have:=hS k hk;omega) h.be.size),Lx h.sz hf.size⟩
theorem DL.next {seen:Array Nat} {w W W':World} (h:DL seen w W) (hb:Below W.heap.size W W'):DL seen w W':=h.far (S:=[]) (Far.of_below hb) (by simp)
theorem DL.step {seen:Array Nat} {w W w1:World} (h:DL seen w W) {k:Nat} (hw:NxW W w1):
  DL (seen.push k) w (setBlock w1 (w.heap.size+2) (.mapIter (some (w.heap.size+1)) 5 (seen.push k) 5)):=by
 have hz:=h.sz;have hf:Far [w.heap.size+2] W (setBlock w1 (w.heap.size+2) (.mapIter (some (w.heap.size+1)) 5 (seen.push k) 5)):=far_block hw;exact ⟨(hf.block _ (by omega) (by simp)).trans h.mb,⟨5,Le _,block_at hw (by omega)⟩,h.rc.far' hf (by simp),h.be.trans (hf.below (by simp) h.be.size),Lx h.sz hf.size⟩
theorem DL.entry {seen:Array Nat} {w W:World} {k:Nat} (h:DL (seen.push k) w W) (hk:k≤4) (hit:W.heap[w.heap.size+2]? =some (.mapIter (some (w.heap.size+1)) 5 (seen.push k) 5)):
  (Instr.entry (.pointer (some ⟨w.heap.size+2,0,none⟩))).run prog W = .ok (.tuple #[.int .i64 k,fmV k]) W:=
 run_entry_at W _ _ 5 seen fm5 5 ⟨.int .i64 k,fmV k,k⟩ hit h.mb (by
  have h2:fm5.toList = [⟨.int .i64 0,fmV 0,0⟩,⟨.int .i64 1,fmV 1,1⟩,⟨.int .i64 2,fmV 2,2⟩,⟨.int .i64 3,fmV 3,3⟩,⟨.int .i64 4,fmV 4,4⟩]:=rfl;rw [h2];have:k=0∨k=1∨k=2∨k=3∨k=4:=by omega
  rcases this with rfl|rfl|rfl|rfl|rfl<;>simp) fm5_nodup
theorem DL.seenOf {seen:Array Nat} {w W:World} (h:DL seen w W):W.iterSeen (w.heap.size+2)=seen:=by
 obtain ⟨c,_,hi⟩:=h.it;unfold World.iterSeen;rw [hi]
theorem SeenOk.push {rec:ByteArray} {seen:Array Nat} (h:SeenOk rec seen) {k:Nat} (h0:k=0→E9 rec=68→deF 0 rec=none) (h1:k=1→E9 rec=71→deF 1 rec=none):SeenOk rec (seen.push k):=by
 refine ⟨fun hc=>?_,fun hc=>?_⟩
 ·rw [contains_push] at hc
  rcases Bool.or_eq_true .. ▸ hc with hc|hc
  ·exact h.1 hc
  ·exact h0 (by have:=beq_iff_eq.1 hc;omega)
 ·rw [contains_push] at hc
  rcases Bool.or_eq_true .. ▸ hc with hc|hc
  ·exact h.2 hc
  ·exact h1 (by have:=beq_iff_eq.1 hc;omega)
end
section
set_option maxRecDepth 100000
set_option maxHeartbeats 4000000
open Go.RowKit Go.ChangeMaps
theorem let0_eq {w:World} (s:ByteArray) (h:0<s.size):(Result.ok (Value.int .u8 (s[0].toNat:Int)) w:Result Value) = .ok (.int .u8 (E9 s)) w:=by
 have:(s[0].toNat:Int)=E9 s:=by
  unfold E9
  have e:s.data.toList.getD 0 0=s[0]:=by
   rw [List.getD_eq_getElem?_getD,Array.getElem?_toList,Array.getElem?_eq_getElem (show 0<s.data.size from h)];rfl
  rw [e]
 rw [this]
theorem trimF_size (s:ByteArray):(trimF s).size≤s.size:=by
 show ((Lib.trimRightB s.data.toList 32).toArray).size≤s.data.size;rw [List.size_toArray];unfold Lib.trimRightB;rw [List.length_reverse];refine Lx (List.Sublist.length_le (List.dropWhile_sublist _)) ?_;rw [List.length_reverse,Array.length_toList];exact Le _
theorem encV_form (rec:ByteArray) (o:Option ByteArray):∃ (s:ByteArray) (c:Int),encV o = .tuple #[.string s,.int .i64 c]∧((c=0∧s=rec)↔o=some rec):=by
 cases o with
 |none=>exact ⟨⟨#[]⟩,1,rfl,by simp⟩
 |some t=>exact ⟨t,0,rfl,by simp⟩
theorem deF_eq {k:Int} (hk:k=0∨k=1) {rec:ByteArray} {R:En×ByteArray×Int} {o:Option ByteArray} (h1:rdP k (trimF (rec.extract 1 32)) (rec.extract 32 rec.size) R) (h2:encP R.1 o) (h3:R.1.kind=k):
  deF k rec=if Zw R.2.1 R.2.2=0∧o=some rec then some R.1 else none:=by
 rw [h2 (by rw [h3];exact hk),rdP_eq h1 hk];rfl
theorem str_beq (a b:ByteArray):(a.toList == b.toList)=decide (a=b):=by
 by_cases h:a=b
 ·subst h;simp
 ·rw [decide_eq_false h]
  cases hq:a.toList == b.toList with
  |false=>rfl
  |true=>exact absurd (by have h2:=beq_iff_eq.1 hq;rw [V2,V2] at h2;exact Yp h2) h
theorem ewn_below {n m:Nat} {W W':World} {e:En} {a:EnA} (h:EWn n W e a) (hb:Below W.heap.size W W') (hm:m≤n):EWn m W' e a:=
 have h2:=h.ew0.below hb
 ⟨h2.sa,h2.sg,fun p hp h0=>Lx hm (h.na p hp h0),fun p hp h0=>Lx hm (h.ng p hp h0)⟩
theorem ewn_row {n m g:Nat} {w:World} {e:En} {a:EnA} (h:EWn n w e a) (hg:g<n) (hm:m≤n) (cs:Array Value):EWn m (w.setRow g cs) e a:=
 have h2:=h.row hg cs
 ⟨h2.sa,h2.sg,fun p hp h0=>Lx hm (h.na p hp h0),fun p hp h0=>Lx hm (h.ng p hp h0)⟩
theorem dl_new (w:World):DL #[] w (((w.alloc (.cells (enC enZ enN).toArray 159)).alloc (.map fm5 5)).alloc (.mapIter (some (w.heap.size+1)) 5 #[] 5)):=
 ⟨heap_at2 (Uo _ _ _ (by simp)) _,⟨5,Le _,Uo _ _ _ (by simp)⟩,((Blk.new w _ _).alloc _).alloc _,(((Bf _ _).alloc (Le _) _).alloc (by simp) _).alloc (by simp;omega) _,by simp⟩
theorem dec_none {rec:ByteArray} {w w':World} (h:rec.size<32∨200<rec.size) (hb:Below w.heap.size w w'):DecG rec w (.returned (decV none enN)) w':=⟨⟨none,enN,by unfold decP;rw [if_pos h],(fun e h=>by cases h),rfl⟩,hb⟩
theorem edecode_small (rec:ByteArray) (w:World) (hz:rec.size<32∨200<rec.size) (hm:rec.size≤9223372036854775807):Calls prog 125 #[.string rec] w (DecG rec w):=by
 have HZ:=Hd hz;have HB:Hid (∀ cs,Below w.heap.size w (w.alloc (.cells cs 159))):=Hd fun cs=>(Bf _ _).alloc (Le _) _
 have HN:Hid (∀ old,Blk (w.alloc (.cells old 159)) w.heap.size 159 old):=Hd fun old=>Blk.new w _ old
 have HS:Hid (∀ old,(w.alloc (.cells old 159)).setRow w.heap.size (enC enZ enN).toArray=w.alloc (.cells (enC enZ enN).toArray 159)):=Hd fun old=>U1 w old _ _
 have HO:=Hd (V4 enZ enN);have hrr:=Ya (w.alloc (.cells (enC enZ enN).toArray 159)) w.heap.size _ (Blk.new w _ _) (by simp [enC]);by_cases h1:rec.size<32
 ·have d1:decide ((rec.size:Int)<32)=true:=decide_eq_true (by omega)
  clear hz hm h1;go_enter Tryz.func125,Tryz.ntmps125;go_wp2_with (first|((with_reducible refine Gb 159 ?_);refine U2 (by kernel_rfl) 159 _ rfl ((enC enZ enN).toArray) (by kernel_rfl) ?_)|((with_reducible refine Gt 159 2 ?_);refine Lt rfl 159 _ _ rfl (w.heap.size) ((enC enZ enN).toArray) rfl rfl 159 _ (HN.out _) (by kernel_rfl) rfl HO.out ?_;rw [HS.out]));exact Br (v:=.tuple #[.agg (enC enZ enN).toArray,.int .i64 11]) (U5 Tryz.results125 rfl rfl hrr) rfl (dec_none HZ.out (HB.out _))
 ·have d1:decide ((rec.size:Int)<32)=false:=decide_eq_false (by omega)
  have d2:decide ((200:Int)<(rec.size:Int))=true:=decide_eq_true (by omega);clear hz hm h1;go_enter Tryz.func125,Tryz.ntmps125;go_wp2_with (first|((with_reducible refine Gb 159 ?_);refine U2 (by kernel_rfl) 159 _ rfl ((enC enZ enN).toArray) (by kernel_rfl) ?_)|((with_reducible refine Gt 159 2 ?_);refine Lt rfl 159 _ _ rfl (w.heap.size) ((enC enZ enN).toArray) rfl rfl 159 _ (HN.out _) (by kernel_rfl) rfl HO.out ?_;rw [HS.out]));exact Br (v:=.tuple #[.agg (enC enZ enN).toArray,.int .i64 11]) (U5 Tryz.results125 rfl rfl hrr) rfl (dec_none HZ.out (HB.out _))
theorem Fm (rec:ByteArray) (w:World) (hm:rec.size≤9223372036854775807) (ht:Sta w):Calls prog 125 #[.string rec] w (DecG rec w):=by
 by_cases hz:rec.size<32∨200<rec.size
 ·exact edecode_small rec w hz hm
 have hz1:32≤rec.size:=by omega
 have hz2:rec.size≤200:=by omega
 have HT:=Hd ht;have HZ:=Hd (And.intro hz1 hz2);have HO:=Hd (V4 enZ enN);have HD0:=Hd (dl_new w);have d1:decide ((rec.size:Int)<32)=false:=decide_eq_false (by omega);have d2:decide ((200:Int)<(rec.size:Int))=false:=decide_eq_false (by omega)
 have hrg:∀ old,(Instr.range 231 (.map (some (w.heap.size+1)))).run prog ((w.alloc (.cells old 159)).alloc (.map fm5 5)) = .ok (.pointer (some ⟨w.heap.size+2,0,none⟩)) (((w.alloc (.cells old 159)).alloc (.map fm5 5)).alloc (.mapIter (some (w.heap.size+1)) 5 #[] 5)):=fun old=>by
  have h:=run_range_map (P:=prog) ((w.alloc (.cells old 159)).alloc (.map fm5 5)) 231 _ _ (w.heap.size+1) fm5 5 Tryz.underlying231 (Uo _ _ _ (by simp));simpa using h
 clear hz hz1 hz2 hm ht;go_enter Tryz.func125,Tryz.ntmps125;go_wp2_with (go_at_call 150;refine (Yd _).mono ?_;rintro x w3 ⟨rfl,rfl⟩);clear hrg d1 d2;go_loopw [5] (fun _ wr => ∃ seen,DL seen w wr∧SeenOk rec seen) (fun _ wr=>(leftOf fm5 (wr.iterSeen (w.heap.size+2))).size)
 case atStart=>exact ⟨_,HD0.out,fun h=>by simp at h,fun h=>by simp at h⟩
 case round=>
  obtain ⟨seen,hdl,hso⟩:=hrel;obtain ⟨c,hc5,hit⟩:=hdl.it;go_wp2_with (at_next;refine wl_next rfl _ rfl (w.heap.size+2) (w.heap.size+1) 5 c seen fm5 5 rfl hit hdl.mb fm5_born hc5 ?_ ?_)
  ·intro h0
   have hnone:decP rec none:=by
    unfold decP;rw [if_neg (by have:=HZ.out;omega)];have h0':(leftOf fm5 seen).size=0:=by rw [h0];rfl
    exact ⟨fun h=>(hso.1 (fm5_all h0' (k:=0) (by omega)) h).symm,fun h=>(hso.2 (fm5_all h0' (k:=1) (by omega)) h).symm,fun _ _ e h=>by cases h⟩
   have HN:=Hd hnone;have HD:=Hd hdl;clear hdl hso hit hc5 h0 hnone;have hrr:=Ya (wr.setRow w.heap.size (enC enZ enN).toArray) w.heap.size _ (setRow_heap _ _ _ _ _ _ HD.out.rc) (by simp [enC]);go_wp2_with (first|((with_reducible refine Gb 159 ?_);refine U2 (by kernel_rfl) 159 _ rfl ((enC enZ enN).toArray) (by kernel_rfl) ?_)|((with_reducible refine Gt 159 2 ?_);refine Lt rfl 159 _ _ rfl (w.heap.size) ((enC enZ enN).toArray) rfl rfl 159 _ HD.out.rc (by kernel_rfl) rfl HO.out ?_));exact Br (v:=.tuple #[.agg (enC enZ enN).toArray,.int .i64 11]) (U5 Tryz.results125 rfl rfl hrr) rfl ⟨⟨none,enN,HN.out,(fun e h=>by cases h),rfl⟩,U6 HD.out.be (Le _) _⟩
  ·intro e he w1 hw1
   obtain ⟨k,hk4,ek,ev,eb⟩:=fm5_mem (mem_left (Array.mem_toList_iff.2 he)).1;have hsh:=left_shrinks fm5 seen e (Array.mem_toList_iff.2 he);clear he;obtain ⟨key,val,born⟩:=e;simp only at ek ev eb hsh ⊢;subst ek ev eb;obtain ⟨L,nf,ff,vf,hfm,hF,hC,hL0,hL1,hLD,hLG⟩:=fm_form born (by omega) (by omega);have hd1:=hdl.step (k:=born) hw1;have hit1:=block_at (ob:=.mapIter (some (w.heap.size+1)) 5 (seen.push born) 5) hw1 (show w.heap.size+2<wr.heap.size by have:=hdl.sz;omega);have hms:(leftOf fm5 (wr.iterSeen (w.heap.size+2))).size=(leftOf fm5 seen).size:=by rw [hdl.seenOf]
   have HMS:=Hd hms;have HSH:=Hd hsh;obtain ⟨W1,hW1⟩:∃ W,setBlock w1 (w.heap.size+2) (.mapIter (some (w.heap.size+1)) 5 (seen.push born) 5)=W:=⟨_,rfl⟩
   rw [hW1] at hd1 hit1 ⊢;have hen:=hd1.entry (by omega) hit1;rw [hfm] at hen ⊢;unfold EFV at hen ⊢;have HD:=Hd hd1;have HSO:=Hd hso;have HF:=Hd hF;have HC:=Hd hC;have HL:=Hd (And.intro hLD hLG);have HK:Hid (0≤(born:Int)∧(born:Int)≤4):=Hd ⟨by omega,by omega⟩;have HB1:=Hd fun old=>Blk.new W1 236 old
   have HS1:=Hd fun old=>U1 W1 old (fvC L nf ff vf) 236
   have HO1:=Hd (G9 L nf ff vf);clear hd1 hit1 hms hsh hit hc5 hdl hso hw1 hW1 hfm hF hC hLD hLG hL0 hL1 hk4;go_wp2_with ((with_reducible refine Gt 236 6 ?_);refine Lt rfl 236 _ _ rfl (W1.heap.size) (fvC L nf ff vf) rfl rfl 236 _ (HB1.out _) (by kernel_rfl) rfl HO1.out ?_;rw [HS1.out]);clear hen HB1 HS1 HO1;have HBF:Hid (Blk (W1.alloc (.cells (fvC L nf ff vf) 236)).drew W1.heap.size 236 (fvC L nf ff vf)):=Hd (Blk.new W1 _ _).drew;have HD2:Hid (DL (seen.push born) w (W1.alloc (.cells (fvC L nf ff vf) 236)).drew):=Hd (HD.out.next ((Bf _ _).alloc (Le _) _).drew);have HNE:Hid (W1.heap.size<(W1.alloc (.cells (fvC L nf ff vf) 236)).drew.heap.size):=Hd HBF.out.lt;refine Rw (S:=fun w'=>Blk w' W1.heap.size 236 (fvC L nf ff vf)) (by kernel_rfl) HBF.out (fun Hh=>?_);refine tk 0 (.pointer (some ⟨W1.heap.size,0,none⟩)) Hh ?_
   refine tk 1 (.int .u8 L) Hh ?_ (y:=by exact Or.inl ⟨by rfl,by intro w' hSw;have h1:=(hSw.cell 0).trans (show _=some (Value.int .u8 L) from rfl);go_simp⟩);refine tk 2 (.string rec) Hh ?_;refine tk 3 (.int .u8 (E9 rec)) Hh ?_ (y:=by exact Or.inl ⟨by rfl,by intro w' hSw;go_simp;rw [dif_pos (by have:=HZ.out.1;omega),let0_eq rec (by have:=HZ.out.1;omega)];rfl⟩);refine tk 4 (.bool (L != E9 rec)) Hh ?_;refine Ad (by kernel_rfl) ?_ _;clear Hh;by_cases hL:¬ L=E9 rec
   ·have hd:(L != E9 rec)=true:=by simpa using hL
    rw [hd];go_wp2;go_roundw
    case rel=>exact ⟨_,HD2.out,HSO.out.push (fun h h2=>absurd ((HL.out.1.2 (by omega)).trans h2.symm) hL) (fun h h2=>absurd ((HL.out.2.2 (by omega)).trans h2.symm) hL)⟩
    case measure=>rw [HD2.out.seenOf,HMS.out];exact HSH.out
   ·replace hL:L=E9 rec:=Decidable.not_not.1 hL
    have hd:(L != E9 rec)=false:=by simpa using hL
    rw [hd];clear hd;obtain ⟨nm,hnm⟩:∃ nm,trimF (rec.extract 1 32)=nm:=⟨_,rfl⟩
    obtain ⟨lf,hlf⟩:∃ lf,rec.extract 32 rec.size=lf:=⟨_,rfl⟩
    have HTR:Hid (∀ W,Calls prog 151 #[.string (rec.extract 1 32),.string ⟨#[32]⟩] W fun e w'=>e = .returned (.string nm)∧w'=W):=Hd fun W=>by rw [←hnm];exact Tryz.strings_TrimRight_one (rec.extract 1 32) 32 (by decide) W (by rw [ByteArray.size_extract];have:=HZ.out;omega)
    have HNZ:Hid (nm.size≤1000∧lf.size≤1000000):=Hd ⟨by rw [←hnm];exact Lx (trimF_size _) (by rw [ByteArray.size_extract];have:=HZ.out;omega),by rw [←hlf,ByteArray.size_extract];have:=HZ.out;omega⟩;have HNL:=Hd (And.intro hnm hlf);have HLL:=Hd hL;clear hnm hL hlf;have q1:32≤rec.size:=HZ.out.1;have HD3:Hid (DL (seen.push born) w (((W1.alloc (.cells (fvC L nf ff vf) 236)).alloc (.cells (enC (enK born nm) enN).toArray 159)).drew)):=Hd (HD2.out.next ((Bf _ _).alloc (Le _) _));have HX2:Hid (Blk (((W1.alloc (.cells (fvC L nf ff vf) 236)).alloc (.cells (enC (enK born nm) enN).toArray 159)).drew) (W1.heap.size+1) 159 (enC (enK born nm) enN).toArray):=Hd (U3 (W1.alloc (.cells (fvC L nf ff vf) 236)) _ _ _ (by simp)).drew
    have HF2:Hid (Blk (((W1.alloc (.cells (fvC L nf ff vf) 236)).alloc (.cells (enC (enK born nm) enN).toArray 159)).drew) W1.heap.size 236 (fvC L nf ff vf)):=Hd (HBF.out.alloc _);have HZ2:Hid ((((W1.alloc (.cells (fvC L nf ff vf) 236)).alloc (.cells (enC (enK born nm) enN).toArray 159)).drew).heap.size=W1.heap.size+2):=Hd (by show ((W1.alloc (.cells (fvC L nf ff vf) 236)).alloc (.cells (enC (enK born nm) enN).toArray 159)).heap.size=_;simp);have HB7:Hid (∀ old,Blk (((W1.alloc (.cells (fvC L nf ff vf) 236)).alloc (.cells old 159)).drew) (W1.heap.size+1) 159 old):=Hd fun old=>(U3 (W1.alloc (.cells (fvC L nf ff vf) 236)) _ _ _ (by simp)).drew
    have HS7:Hid (∀ old,(((W1.alloc (.cells (fvC L nf ff vf) 236)).alloc (.cells old 159)).drew).setRow (W1.heap.size+1) (enC (enK born nm) enN).toArray=(((W1.alloc (.cells (fvC L nf ff vf) 236)).alloc (.cells (enC (enK born nm) enN).toArray 159)).drew)):=Hd fun old=>by have h:=Ue (W1.alloc (.cells (fvC L nf ff vf) 236)) (W1.heap.size+1) (by simp) old (enC (enK born nm) enN).toArray 159;exact congrArg World.drew h
    have HO7:=Hd (V4 (enK born nm) enN);have hcf:=HC.out.f;clear HD2 HBF HNE
    go_wp2_with (first|((with_reducible refine Gb 159 ?_);refine U2 (by kernel_rfl) 159 _ rfl ((enC (enK born nm) enN).toArray) (by kernel_rfl) ?_)|((with_reducible refine Gt 159 7 ?_);refine Lt rfl 159 _ _ rfl (W1.heap.size+1) ((enC (enK born nm) enN).toArray) rfl rfl 159 _ (HB7.out _) (by kernel_rfl) rfl HO7.out ?_;rw [HS7.out])|((with_reducible refine Gt 159 2 ?_);refine Lt rfl 159 _ _ rfl (w.heap.size) ((enC R.1 a').toArray) rfl rfl 159 _ HD8.out.rc (by kernel_rfl) rfl (V4 _ _) ?_)|(go_at_call 151;refine (HTR.out _).mono ?_;rintro x w4 ⟨rfl,rfl⟩)|(go_at_call 122;rw [HNL.out.2];refine (Zi lf (((W1.alloc (.cells (fvC L nf ff vf) 236)).alloc (.cells (enC (enK born nm) enN).toArray 159)).drew)).mono ?_;rintro x w5 ⟨rfl,rfl⟩;obtain ⟨W2,hW2⟩:∃ W,(((W1.alloc (.cells (fvC L nf ff vf) 236)).alloc (.cells (enC (enK born nm) enN).toArray 159)).drew)=W:=⟨_,rfl⟩;simp only [hW2] at HD3 HX2 HF2 HZ2 ⊢;clear hW2;have f2:=(((HF2.out.alloc (.cells #[.string lf,.int .i64 0] 228)).alloc (.cells #[.string ⟨#[]⟩,.pointer (some ⟨W2.heap.size,0,none⟩)] 240)).cell 2).trans (show _=some (Value.func (.func ff) #[] #[]) from rfl);have HFR:=Hd (HF.out.fr (W2.heap.size+1) W2.heap.size (W1.heap.size+1) nm lf ((W2.alloc (.cells #[.string lf,.int .i64 0] 228)).alloc (.cells #[.string ⟨#[]⟩,.pointer (some ⟨W2.heap.size,0,none⟩)] 240)) (crN W2 lf) (rdN W2 lf) ((HX2.out.alloc _).alloc _) HNZ.out.2 HNZ.out.1 (by have:=HZ2.out;omega) (by omega) (by have:=HZ2.out;omega)))|((with_reducible show Calls _ _ #[.pointer (some ⟨_,0,none⟩),.pointer (some ⟨_,0,none⟩)] _ _);refine HFR.out.mono ?_;rintro x w7 ⟨rfl,R,a',hR,hsm,hkd,hnm,hrd,hbg,hew,hfa⟩;have HR:=Hd (And.intro hR (And.intro hsm hkd));have HRD:=Hd hrd;have HBG:=Hd hbg;have HEW:=Hd hew;have HC7:Hid (Cr w7 (W2.heap.size+1) W2.heap.size):=Hd (Blk.far' (crN W2 lf) hfa (by have:=HZ2.out;simp;omega));have HD7:Hid (DL (seen.push born) w w7):=Hd ((HD3.out.next (((Bf _ _).alloc (Le _) (.cells #[.string lf,.int .i64 0] 228)).alloc (by simp) (.cells #[.string ⟨#[]⟩,.pointer (some ⟨W2.heap.size,0,none⟩)] 240))).far hfa (by have:=HZ2.out;have:=HD.out.sz;simp;omega));clear hR hsm hkd hnm hrd hbg hew hfa f2 hcf HFR)|((with_reducible refine Gl 159 7 ?_);refine Lr rfl 159 _ rfl (W1.heap.size+1) rfl 159 ((enC R.1 a').toArray) (0,0) _ (by first|exact HBG8.out|exact HBG.out) Tryz.underlying159 rfl (by kernel_rfl) ?_)|(go_at_call 152;refine (Jg R.1 a' w7 HEW.out.ew0 HR.out.2.1 (by rw [HR.out.2.2];exact HK.out.1) (by rw [HR.out.2.2];exact HK.out.2) (HT.out.after HD7.out.be)).mono ?_;rintro x w8 ⟨⟨o,hp,_,rfl⟩,hb⟩;obtain ⟨es,ec,hev,hiff⟩:=encV_form rec o;rw [hev];have HP:=Hd (And.intro hp hiff);have HD8:=Hd (HD7.out.next hb);have HRD8:Hid (Rdr w8 W2.heap.size R.2.1 R.2.2):=Hd (Blk.below HRD.out hb (Blk.lt HRD.out));have HBG8:=Hd (HBG.out.below hb HBG.out.lt);have HC8:Hid (Cr w8 (W2.heap.size+1) W2.heap.size):=Hd (Blk.below HC7.out hb (Blk.lt HC7.out));have HEW8:Hid (EWn W2.heap.size w8 R.1 a'):=Hd (ewn_below HEW.out hb (by simp;try omega));have c1:=HC8.out.c1;have HDE:Hid (((born:Int)=0∨(born:Int)=1)→deF born rec=if Zw R.2.1 R.2.2=0∧o=some rec then some R.1 else none):=Hd (fun hk=>deF_eq hk (by rw [HNL.out.1,HNL.out.2];exact HR.out.1) hp HR.out.2.2);clear hp hiff hev hb)|(go_at_call 124;refine (Kr _ _ _ _ HRD8.out).mono ?_;rintro x w9 ⟨rfl,rfl⟩;obtain ⟨ne,hne⟩:∃ ne,Zw R.2.1 R.2.2=ne:=⟨_,rfl⟩;simp only [hne] at HDE ⊢;clear hne;have HS3:=str_beq es rec;rcases (show ((ne == 0)=false)∨((ne == 0)=true∧(ec == 0)=false)∨((ne == 0)=true∧(ec == 0)=true∧¬ es=rec)∨((ne == 0)=true∧(ec == 0)=true∧es=rec) by cases (ne == 0)<;>cases (ec == 0)<;>by_cases es=rec<;>simp_all) with b1|⟨b1,b2⟩|⟨b1,b2,b3⟩|⟨b1,b2,b3⟩))
    ·have hno:¬ (ne=0∧o=some rec):=fun ⟨h1,h2⟩=>by have h3:=HP.out.2.2 h2;simp_all
     exact ⟨⟨_,HD8.out,HSO.out.push (fun hb0 _=>by have h:=HDE.out (.inl (by omega));rw [show ((born:Nat):Int)=0 by omega,if_neg hno] at h;exact h) (fun hb0 _=>by have h:=HDE.out (.inr (by omega));rw [show ((born:Nat):Int)=1 by omega,if_neg hno] at h;exact h)⟩,by rw [HD8.out.seenOf,HMS.out];exact HSH.out⟩
    ·have hno:¬ (ne=0∧o=some rec):=fun ⟨h1,h2⟩=>by have h3:=HP.out.2.2 h2;simp_all
     exact ⟨⟨_,HD8.out,HSO.out.push (fun hb0 _=>by have h:=HDE.out (.inl (by omega));rw [show ((born:Nat):Int)=0 by omega,if_neg hno] at h;exact h) (fun hb0 _=>by have h:=HDE.out (.inr (by omega));rw [show ((born:Nat):Int)=1 by omega,if_neg hno] at h;exact h)⟩,by rw [HD8.out.seenOf,HMS.out];exact HSH.out⟩
    ·have hno:¬ (ne=0∧o=some rec):=fun ⟨h1,h2⟩=>by have h3:=HP.out.2.2 h2;simp_all
     exact ⟨⟨_,HD8.out,HSO.out.push (fun hb0 _=>by have h:=HDE.out (.inl (by omega));rw [show ((born:Nat):Int)=0 by omega,if_neg hno] at h;exact h) (fun hb0 _=>by have h:=HDE.out (.inr (by omega));rw [show ((born:Nat):Int)=1 by omega,if_neg hno] at h;exact h)⟩,by rw [HD8.out.seenOf,HMS.out];exact HSH.out⟩
    ·have hrr:=Ya (w8.setRow w.heap.size (enC R.1 a').toArray) w.heap.size _ (setRow_heap _ _ _ (enC R.1 a').toArray _ _ HD8.out.rc) (by simp [enC])
     have hos:ne=0∧o=some rec:=⟨by simpa using b1,HP.out.2.1 ⟨by simpa using b2,b3⟩⟩
     have hde:=HDE.out;rw [if_pos hos] at hde
     have hdp:decP rec (some R.1):=by
      unfold decP;rw [if_neg (by have:=HZ.out;omega)];refine ⟨fun h=>?_,fun h=>?_,fun h h2 e he=>?_⟩
      ·have hb0:=HL.out.1.1 (HLL.out.trans h)
       have h:=hde (.inl hb0);rw [hb0] at h;exact h.symm
      ·have hb0:=HL.out.2.1 (HLL.out.trans h)
       have h:=hde (.inr hb0);rw [hb0] at h;exact h.symm
      ·injection he with he
       subst he;rw [HR.out.2.2];have k0:¬ (born:Int)=0:=fun hk=>h (HLL.out.symm.trans (HL.out.1.2 hk))
       have k1:¬ (born:Int)=1:=fun hk=>h2 (HLL.out.symm.trans (HL.out.2.2 hk))
       have:=HK.out;omega
     exact Br (v:=.tuple #[.agg (enC R.1 a').toArray,.int .i64 0]) (U5 Tryz.results125 rfl rfl hrr) rfl ⟨⟨some R.1,a',hdp,(fun e he=>by injection he with he;subst he;exact ⟨HR.out.2.1,by rw [HR.out.2.2];exact HK.out.1,by rw [HR.out.2.2];exact HK.out.2,ewn_row HEW8.out (by have:=HZ2.out;have:=HD.out.sz;omega) (by have:=HZ2.out;have:=HD.out.sz;omega) _⟩),rfl⟩,U6 HD8.out.be (Le _) _⟩
end
end Go.Proofs.YtapanepkfbamhaaGreatDoor
