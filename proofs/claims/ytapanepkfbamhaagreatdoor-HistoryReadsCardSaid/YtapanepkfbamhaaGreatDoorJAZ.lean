/- Part of the proof of HistoryReads. -/
import Derived.Test.YtapanepkfbamhaaGreatDoorJAY
namespace Go.Proofs.YtapanepkfbamhaaGreatDoor
open Tryz (prog)
section
set_option maxRecDepth 100000
open Go.RowKit
def J5 (s:ByteArray) (g:Bool):Value:=.agg #[.string s,.bool g]
theorem who_lits (D:Nat) (s:ByteArray) (g:Bool) (h:s.size≤maxLen):prog.keyLits (D+2) 316 (J5 s g).cells.toList=some [.string s.data.toList,.bool g]:=by
 have c1:prog.cellsOf 316=2:=by kernel_rfl
 have c2:prog.cellsOf 9=1:=by kernel_rfl
 have c3:prog.cellsOf 4=1:=by kernel_rfl
 simp [Program.keyLits,J5,Value.cells,Tryz.underlying316,Tryz.underlying9,Tryz.underlying4,c1,c2,c3,h]
theorem who_key (s:ByteArray) (g:Bool) (h:s.size≤maxLen):∃ l,keyOf prog 316 (J5 s g)=some l:=by
 have h1:decide (1≤prog.types.size)=true:=by kernel_rfl
 have h2:=of_decide_eq_true h1;obtain ⟨D,hD⟩:∃ D,prog.types.size+1=D+2:=⟨prog.types.size-1,by omega⟩
 have h3:prog.keyType 316=true:=by kernel_rfl
 have h4:(J5 s g).formed prog 316=true:=by kernel_rfl
 unfold keyOf;rw [Tryz.underlying316];simp only [h3,h4,Bool.and_self,if_true,hD,who_lits D s g h,Option.map_some];exact ⟨_,rfl⟩
def SeenM (W:World) (b:Nat):Prop:=∃ (es:Array MapEntry) (c:Nat),W.heap[b]? =some (.map es c)∧∀ e∈es.toList,(∃ s g,e.key=J5 s g∧s.size≤maxLen)∧e.val = .bool true
theorem SeenM.lt {W:World} {b:Nat} (h:SeenM W b):b<W.heap.size:=by
 obtain ⟨es,c,hb,_⟩:=h;rcases Nat.lt_or_ge b W.heap.size with hlt|hge
 ·exact hlt
 ·rw [Array.getElem?_eq_none hge] at hb;cases hb
theorem SeenM.below {W W':World} {b:Nat} (h:SeenM W b) (hb:Below W.heap.size W W'):SeenM W' b:=by
 have hlt:=h.lt;obtain ⟨es,c,h1,h2⟩:=h;exact ⟨es,c,(hb.block b hlt).trans h1,h2⟩
theorem SeenM.new (W:World):SeenM (W.alloc (.map #[] 0)) W.heap.size:=⟨#[],0,heap_alloc_new W _,fun e he=>by simp at he⟩
theorem seen_find (es:List MapEntry) (h:∀ e∈es,(∃ s g,e.key=J5 s g∧s.size≤maxLen)∧e.val = .bool true) (s:ByteArray) (g:Bool) (hs:s.size≤maxLen) (W:World):
  ∃ r,(Instr.findKey 316 (J5 s g) es).run prog W = .ok r W∧(r=none∨∃ i,r=some (i,.bool true)):=by
 have heq:∀ {x y:Value} {lx ly:Lit},keyOf prog 316 x=some lx→keyOf prog 316 y=some ly→∃ r:Bool,(Op.equal 316 x y).run prog W = .ok r W∧(r=true↔lx=ly):=
  fun hx hy=>run_equal_deep W (m:=3) (by decide) (by kernel_rfl) (by rw [Tryz.underlying316]) hx hy
 obtain ⟨lx,hx⟩:=who_key s g hs;cases es with
 |nil=>exact ⟨none,by simp [Instr.findKey,run_underlying Tryz.underlying316,Instr.findNow,Result.andThen],.inl rfl⟩
 |cons e es=>
  have hn:∀ d,prog.underlying 316=some d→Instr.findNow d (J5 s g) (e::es) 0=none:=fun d hd=>by
   rw [Tryz.underlying316] at hd;injection hd with hd
   subst hd;simp [Instr.findNow,Instr.sameNow]
  have hf:=hn _ Tryz.underlying316;rcases run_findAsking_of W heq hx (e::es) 0 (fun x hx2=>by obtain ⟨⟨s3,g3,h3,h4⟩,_⟩:=h x hx2;rw [h3];exact who_key s3 g3 h4) with ⟨h1,_⟩|⟨j,e2,h1,h2,_⟩
  ·exact ⟨none,by simp [Instr.findKey,run_underlying Tryz.underlying316,hf,h1,Result.andThen],.inl rfl⟩
  ·exact ⟨some (0+j,e2.val),by simp [Instr.findKey,run_underlying Tryz.underlying316,hf,h1,Result.andThen],.inr ⟨0+j,by rw [(h e2 (List.mem_of_getElem? h2)).2]⟩⟩
theorem who_check (em:Bool) (s:ByteArray) (g:Bool) (hs:s.size≤maxLen) (W:World):(Instr.checkKey em 10000 316 (J5 s g)).run prog W = .ok () W:=
 run_checkKey_deep em 9997 3 316 (by kernel_rfl) W 4 (J5 s g) _ (by kernel_rfl) (who_lits 2 s g hs)
theorem seen_run {W:World} {b:Nat} (h:SeenM W b) (s:ByteArray) (g:Bool) (hs:s.size≤maxLen):
  (Instr.lookup 314 (.map (some b)) (J5 s g) false).run prog W = .ok (.bool true) W ∨
  ((Instr.lookup 314 (.map (some b)) (J5 s g) false).run prog W = .ok (.bool false) W ∧
   ∃ W',(Instr.mapUpdate 314 (.map (some b)) (J5 s g) (.bool true)).run prog W = .ok () W'∧SeenM W' b∧Far [b] W W'):=by
 obtain ⟨es,c,hb,he⟩:=h;obtain ⟨r,hr,hc⟩:=seen_find es.toList he s g hs W;have k1:=who_check es.isEmpty s g hs W;have k2:=who_check false s g hs W;rcases hc with rfl|⟨i,rfl⟩
 ·refine .inr ⟨by simp [Instr.lookup,run_underlying Tryz.underlying314,MapKept.run_getObj_map hb,k1,hr],{ W with heap:=W.heap.setIfInBounds b (.map (es.push ⟨J5 s g,.bool true,c⟩) (c+1)) },?_,⟨_,_,(MapKept.heap_set hb).1,fun e hm=>?_⟩,K7⟩
  ·simp [Instr.mapUpdate,run_underlying Tryz.underlying314,MapKept.run_getObj_map hb,k2,hr,MapKept.run_setObj_map _ hb,Result.andThen]
  ·rw [Array.toList_push] at hm
   rcases List.mem_append.1 hm with hm|hm
   ·exact he e hm
   ·rw [List.mem_singleton.1 hm];exact ⟨⟨s,g,rfl,hs⟩,rfl⟩
 ·exact .inl (by simp [Instr.lookup,run_underlying Tryz.underlying314,MapKept.run_getObj_map hb,k1,hr])
end
section
set_option maxRecDepth 100000
set_option maxHeartbeats 4000000
open Go.RowKit
theorem EB.far {e:En} {a:EnA} {w W W':World} {b:Nat} (h:EB e a w W) (hf:Far [b] W W') (hb:w.heap.size<b) (h0:Sta w):EB e a w W':=
 have h2:Below w.heap.size w W':=h.be.trans (hf.below (by simp;omega) (by have:=h.sz;omega))
 ⟨h.e1.far' hf (by simp;omega),h2,Lx h.sz hf.size,h0.after h2⟩
structure PRd (e:En) (a:EnA) (x:Gra) (h:Nat) (w W:World):Prop where
 eb:EB e a w W
 sm:SeenM W (w.heap.size+1)
 b1:Blk W h 283 (grC x).toArray
 b2:Blk W (h+1) 316 #[.string x.who,.bool x.group]
theorem PRd.next {e:En} {a:EnA} {x:Gra} {h:Nat} {w W W':World} (k:PRd e a x h w W) (hb:Below W.heap.size W W'):PRd e a x h w W':=
 ⟨k.eb.next hb,k.sm.below hb,k.b1.below hb k.b1.lt,k.b2.below hb k.b2.lt⟩
theorem Kj (e:En) (a:EnA) (w:World) (hw:EW [] w e a) (hs:Sm e) (ht:Sta w):
  Calls prog 209 #[.agg (enC e a).toArray] w (BoolG w):=by
 obtain ⟨A,C,gA,gC⟩:=a;have HX:=Hd (EB.new e ⟨A,C,gA,gC⟩ w ht);have HSG:=Hd hw.sg;have HS:=Hd hs;have hmm:=@run_makeMap prog;have c32:=((HX.out.alloc (.map #[] 0)).cell 32 (.slice gA e.grants.length gC) rfl)
 have HT:=Hd ht;have hlg:=hs.lg;have HSM:Hid (SeenM ((w.alloc (.cells (enC e ⟨A,C,gA,gC⟩).toArray 159)).alloc (.map #[] 0)) (w.heap.size+1)):=Hd (by have h:=SeenM.new (w.alloc (.cells (enC e ⟨A,C,gA,gC⟩).toArray 159));rwa [show (w.alloc (.cells (enC e ⟨A,C,gA,gC⟩).toArray 159)).heap.size=w.heap.size+1 from by simp] at h);have HX1:=Hd (HX.out.alloc (.map #[] 0));clear hw hs ht;go_enter Tryz.func209,Tryz.ntmps209;go_wp2;clear c32;go_loopw [11] (fun i wr => ∃ j:Nat,j≤e.grants.length∧i = .int .i64 j∧EB e ⟨A,C,gA,gC⟩ w wr∧SeenM wr (w.heap.size+1)) (fun i _=>e.grants.length-(intOf i).toNat)
 case atStart=>exact ⟨0,Z0 _,rfl,HX1.out,HSM.out⟩
 case round=>
  obtain ⟨j,hj,rfl,hx,hsm⟩:=hrel;have HXr:=Hd hx;have HSr:=Hd hsm;clear hx hsm HX1;by_cases hlt:j<e.grants.length
  ·obtain ⟨b2,o2,x,rfl,hb,hg,hcell⟩:=Sl.cell (f:=grC) (k:=3) (fun _=>rfl) (HSG.out.below HXr.out.be) hlt
   have HM:Hid (wr.rangeAt b2 (o2+j*3) (grC x)):=Hd fun t u hu=>hcell t u hu
   have HG:=Hd (HS.out.gr x (List.mem_of_getElem? hg));have HB1:=Hd fun old=>Blk.new wr 283 old
   have HS1:=Hd fun old=>U1 wr old (grC x).toArray 283
   have HON:=Hd (show (grC x).toArray.all (·.oneCell')=true by simp [grC,Value.oneCell']);have g0:=((Blk.new wr 283 (grC x).toArray).cell 0).trans (show _=some (Value.string x.who) from rfl);have g1:=((Blk.new wr 283 (grC x).toArray).cell 1).trans (show _=some (Value.bool x.group) from rfl);have k0:=((HB1.out (grC x).toArray).alloc (.cells #[.string x.who,.bool x.group] 316)).cell 0 |>.trans (show _=some (Value.string x.who) from rfl)
   clear hg hcell hb;go_wp2_with (first|((with_reducible refine Gl 283 13 ?_);refine Lm rfl 283 _ rfl b2 (o2+j*3) rfl (grC x) _ HM.out Tryz.underlying283 rfl (by kernel_rfl) ?_)|((with_reducible refine Gt 283 5 ?_);refine Lt rfl 283 _ _ rfl (wr.heap.size) (grC x).toArray rfl rfl 283 _ (HB1.out _) (by kernel_rfl) rfl HON.out ?_;rw [HS1.out])|((with_reducible show Calls _ _ _ _ _);refine Stop.go ?_));refine Stop.in' ?_;rename_i K hK X hX
   have HP:Hid (PRd e ⟨A,C,some ⟨b2,o2,none⟩,gC⟩ x wr.heap.size w ((wr.alloc (.cells (grC x).toArray 283)).alloc (.cells #[.string x.who,.bool x.group] 316))):=Hd ⟨(HXr.out.alloc _).alloc _,HSr.out.below (W':=(wr.alloc (.cells (grC x).toArray 283)).alloc (.cells #[.string x.who,.bool x.group] 316)) (((Bf wr.heap.size wr).alloc (Le _) (.cells (grC x).toArray 283)).alloc (by simp) _),(Blk.new wr _ _).alloc _,U3 (wr.alloc (.cells (grC x).toArray 283)) _ _ (wr.heap.size+1) (by simp)⟩;obtain ⟨Y,hY⟩:∃ Y,(wr.alloc (.cells (grC x).toArray 283)).alloc (.cells #[.string x.who,.bool x.group] 316)=Y:=⟨_,rfl⟩
   simp only [hY] at HP ⊢;clear hY g0 g1 k0 HB1 HS1 HON HM HXr HSr;refine (Z1 x.who Y (by have:=HG.out.1;unfold maxLen;omega) HP.out.eb.st.mx).mono ?_;rintro v Y1 ⟨rfl,hb⟩;have HP:=Hd (HP.out.next hb);clear hb;simp only [];refine hX _ _ ?_;clear hX;generalize Ix x.who=q1;cases q1 with
   |false=>
    refine Wv (.bool true) ?_;refine Wv (.bool true) ?_;refine Wk ?_;refine Wk ?_;refine Wk ?_;refine Wk ?_;refine Wk ?_;refine Wv (.bool true) ?_;refine Wv (.bool true) ?_;refine Wk ?_;refine Wk ?_;refine Wk ?_;refine Wv (.bool true) ?_;refine wpList_nil ?_;simp only [Exit.then];refine hK _ _ ?_;clear hK;go_wp2;go_ret;exact ⟨⟨_,rfl⟩,HP.out.eb.be⟩
   |true=>
    refine Wv (.bool false) ?_;refine Wv (.bool false) ?_;refine Wv (.pointer (some ⟨wr.heap.size,2,none⟩)) ?_;have m1:=(HP.out.b1.cell 2).trans (show _=some (Value.int .i64 x.level) from rfl);refine Wv (.int .i64 x.level) ?_ (r:=by go_simp);clear m1;refine X0 (by kernel_rfl) (.slice (some ⟨Y1.heap.size,0,none⟩) 1 1) (Y1.alloc (.cells #[.int .i64 x.level] 3)) (by go_simp) ?_;simp only [Act.put,Sv,Sz,Sw];have HSN:Hid (Sl V3 1 (Y1.alloc (.cells #[.int .i64 x.level] 3)) (Y1.alloc (.cells #[.int .i64 x.level] 3)).heap.size (some ⟨Y1.heap.size,0,none⟩) 1 1 [x.level]):=Hd (Jn Y1 [x.level] 3);have HP:=Hd (HP.out.next ((Bf _ _).alloc (Le _) (.cells #[.int .i64 x.level] 3)));refine V0 (by kernel_rfl) 196 #[.int .i64 0,.int .i64 3,.slice (some ⟨Y1.heap.size,0,none⟩) 1 1] (by kernel_rfl) ?_;refine (V5 0 3 _ 1 1 [x.level] _ HSN.out (by decide)).mono ?_
    rintro v V ⟨rfl,rfl⟩;simp only [];simp only [Act.put,Sv,Sz,Sw];obtain ⟨Y2,hY⟩:∃ Y,Y1.alloc (.cells #[.int .i64 x.level] 3)=Y:=⟨_,rfl⟩
    simp only [hY] at HP ⊢;clear hY HSN;generalize wiB 0 3 [x.level]=q2;cases q2 with
    |false=>
     refine Wv (.bool true) ?_;refine Wv (.bool true) ?_;refine Wv (.bool true) ?_;refine Wk ?_;refine Wk ?_;refine Wk ?_;refine Wv (.bool true) ?_;refine wpList_nil ?_;simp only [Exit.then];refine hK _ _ ?_;clear hK;go_wp2;go_ret;exact ⟨⟨_,rfl⟩,HP.out.eb.be⟩
    |true=>
     refine Wv (.bool false) ?_;refine Wv (.bool false) ?_;refine Wv (.bool false) ?_;refine Wv (.map (some (w.heap.size+1))) ?_;refine U7 (by kernel_rfl) 316 _ rfl (wr.heap.size+1) rfl 316 #[.string x.who,.bool x.group] (0,0) _ HP.out.b2 Tryz.underlying316 rfl (by kernel_rfl) ?_;simp only [Act.put,Sv,Sz,Sw];rcases seen_run HP.out.sm x.who x.group (by have:=HG.out.1;unfold maxLen;omega) with hl|⟨hl,W',hup,hsm',hfar⟩
     ·refine Fw (by kernel_rfl) (.bool true) (Fl rfl rfl rfl hl) ?_
      simp only [Act.put,Sv,Sz,Sw];refine Wv (.bool true) ?_;refine wpList_nil ?_;simp only [Exit.then];refine hK _ _ ?_;clear hK;go_wp2;go_ret;exact ⟨⟨_,rfl⟩,HP.out.eb.be⟩
     ·refine Fw (by kernel_rfl) (.bool false) (Fl rfl rfl rfl hl) ?_
      simp only [Act.put,Sv,Sz,Sw];refine Wv (.bool false) ?_;refine wpList_nil ?_;simp only [Exit.then];refine hK _ _ ?_;clear hK;have k0:=(HP.out.b2.cell 0).trans (show _=some (Value.string x.who) from rfl);have k1:=(HP.out.b2.cell 1).trans (show _=some (Value.bool x.group) from rfl);unfold J5 at hup;have HE2:=Hd (HP.out.eb.far hfar (by omega) HT.out);have HS2:=Hd hsm';clear hl hsm' hfar;go_wp2;go_roundw
      case rel=>exact ⟨j+1,by omega,by go_num,HE2.out,HS2.out⟩
      case measure=>simp [intOf];omega
  ·obtain rfl:j=e.grants.length:=by omega
   have c31:=HXr.out.cell 31 (.int .i64 e.level) rfl;have HY:=Hd (HXr.out.alloc (.cells #[.int .i64 e.level] 3));have d28:=HY.out.cell 28 (.string e.owner) rfl;have d32:=HY.out.cell 32 (.slice gA e.grants.length gC) rfl;have HWI:Hid (Calls prog 196 #[.int .i64 0,.int .i64 3,.slice (some ⟨wr.heap.size,0,none⟩) 1 1] (wr.alloc (.cells #[.int .i64 e.level] 3)) fun x w'=>x = .returned (.bool (wiB 0 3 [e.level]))∧wr.alloc (.cells #[.int .i64 e.level] 3)=w'):=Hd (V5 0 3 _ 1 1 [e.level] _ (Jn wr [e.level] 3) (by decide));have HWD:=Hd (Z1 e.owner _ (by have:=HS.out.eo;unfold maxLen;omega) HY.out.st.mx);obtain ⟨z,hz⟩:∃ z,(e.owner.toList == [])=z:=⟨_,rfl⟩
   have hlen:decide ((e.grants.length:Int)≤8)=true∨decide ((e.grants.length:Int)≤8)=false:=by cases decide ((e.grants.length:Int)≤8)<;>simp
   generalize wiB 0 3 [e.level]=q1 at HWI;generalize Ix e.owner=q2 at HWD;cases q1<;>cases z<;>cases q2
   all_goals
    go_wp2_with (first|(go_at_call 196;refine HWI.out.mono ?_;rintro x V ⟨rfl,rfl⟩)|(go_at_call 197;refine HWD.out.mono ?_;rintro x V ⟨rfl,hb⟩;have HY:=Hd (HY.out.next hb);have d32:=HY.out.cell 32 (.slice gA e.grants.length gC) rfl;clear hb));go_ret;exact ⟨⟨_,rfl⟩,HY.out.be⟩
end
section
set_option maxRecDepth 100000
open Go.RowKit
def fvC (L:Int) (nf ff vf:Nat):Array Value:=#[.int .u8 L,.func (.func nf) #[] #[],.func (.func ff) #[] #[],.func (.func vf) #[] #[]]
def EFV (L:Int) (nf ff vf:Nat):Value:=.agg (fvC L nf ff vf)
theorem G9 (L:Int) (nf ff vf:Nat):(fvC L nf ff vf).all (·.oneCell')=true:=by simp [fvC,Value.oneCell']
def fm1:Array MapEntry:=#[⟨.int .i64 0,(EFV 68 187 188 189),0⟩]
def fm2:Array MapEntry:=fm1.push ⟨.int .i64 1,(EFV 71 190 191 195),1⟩
def fm3:Array MapEntry:=fm2.push ⟨.int .i64 2,(EFV 65 198 200 201),2⟩
def fm4:Array MapEntry:=fm3.push ⟨.int .i64 3,(EFV 67 202 204 206),3⟩
def fm5:Array MapEntry:=fm4.push ⟨.int .i64 4,(EFV 80 207 208 209),4⟩
theorem I7 (w:World) (es:Array MapEntry) (c:Nat) (key:Int) (val:Value) (hf:Instr.findNow (.int .i64) (.int .i64 key) es.toList 0=some none):
  (Instr.mapUpdate 231 (.map (some w.heap.size)) (.int .i64 key) val).run prog (w.alloc (.map es c)) = .ok () (w.alloc (.map (es.push ⟨.int .i64 key,val,c⟩) (c+1))):=by
 have hb:(w.alloc (.map es c)).heap[w.heap.size]? =some (.map es c):=heap_alloc_new w _;have hc:(Instr.checkKey false 10000 3 (.int .i64 key)).run prog (w.alloc (.map es c)) = .ok () (w.alloc (.map es c)):=MapKept.run_checkKey (k:=.int .i64 key) Tryz.underlying3 (by simp [MapKept.IsKey]) false 9999
 have hs:({ w.alloc (.map es c) with heap:=(w.alloc (.map es c)).heap.setIfInBounds w.heap.size (.map (es.push ⟨.int .i64 key,val,c⟩) (c+1)) }:World)=w.alloc (.map (es.push ⟨.int .i64 key,val,c⟩) (c+1)):=by
  unfold World.alloc;simp only [push_set]
 simp [Instr.mapUpdate,run_underlying Tryz.underlying231,MapKept.run_getObj_map hb,hc,MapKept.run_findKey Tryz.underlying3 hf,MapKept.run_setObj_map _ hb,Result.andThen];exact hs
theorem Yd (w:World):Calls prog 150 #[] w fun e w'=>e = .returned (.map (some w.heap.size))∧w.alloc (.map fm5 5)=w':=by
 have hmm:=@run_makeMap prog;have e0:(Instr.mapUpdate 231 (.map (some w.heap.size)) (.int .i64 0) (.agg #[.int .u8 68,.func (.func 187) #[] #[],.func (.func 188) #[] #[],.func (.func 189) #[] #[]])).run prog (w.alloc (.map #[] 0)) = .ok () (w.alloc (.map fm1 1)):=I7 w #[] 0 0 _ rfl;have e1:(Instr.mapUpdate 231 (.map (some w.heap.size)) (.int .i64 1) (.agg #[.int .u8 71,.func (.func 190) #[] #[],.func (.func 191) #[] #[],.func (.func 195) #[] #[]])).run prog (w.alloc (.map fm1 1)) = .ok () (w.alloc (.map fm2 2)):=I7 w fm1 1 1 _ rfl;have e2:(Instr.mapUpdate 231 (.map (some w.heap.size)) (.int .i64 2) (.agg #[.int .u8 65,.func (.func 198) #[] #[],.func (.func 200) #[] #[],.func (.func 201) #[] #[]])).run prog (w.alloc (.map fm2 2)) = .ok () (w.alloc (.map fm3 3)):=I7 w fm2 2 2 _ rfl
 have e3:(Instr.mapUpdate 231 (.map (some w.heap.size)) (.int .i64 3) (.agg #[.int .u8 67,.func (.func 202) #[] #[],.func (.func 204) #[] #[],.func (.func 206) #[] #[]])).run prog (w.alloc (.map fm3 3)) = .ok () (w.alloc (.map fm4 4)):=I7 w fm3 3 3 _ rfl;have e4:(Instr.mapUpdate 231 (.map (some w.heap.size)) (.int .i64 4) (.agg #[.int .u8 80,.func (.func 207) #[] #[],.func (.func 208) #[] #[],.func (.func 209) #[] #[]])).run prog (w.alloc (.map fm4 4)) = .ok () (w.alloc (.map fm5 5)):=I7 w fm4 4 4 _ rfl;go_enter Tryz.func150,Tryz.ntmps150;go_wp2;go_ret;exact ⟨rfl,rfl⟩
def fmV (k:Int):Value:=if k=0 then (EFV 68 187 188 189) else if k=1 then (EFV 71 190 191 195) else if k=2 then (EFV 65 198 200 201) else if k=3 then (EFV 67 202 204 206) else (EFV 80 207 208 209)
theorem fm_some (k:Int) (h0:0≤k) (h4:k≤4):∃ i,Instr.findNow (.int .i64) (.int .i64 k) fm5.toList 0=some (some (i,fmV k)):=by
 have:k=0∨k=1∨k=2∨k=3∨k=4:=by omega
 rcases this with rfl|rfl|rfl|rfl|rfl
 ·exact ⟨0,rfl⟩
 ·exact ⟨1,rfl⟩
 ·exact ⟨2,rfl⟩
 ·exact ⟨3,rfl⟩
 ·exact ⟨4,rfl⟩
theorem fLook (w:World) (b:Nat) (k:Int) (hb:w.heap[b]? =some (.map fm5 5)) (h0:0≤k) (h4:k≤4) (ok:Bool):
  (Instr.lookup 231 (.map (some b)) (.int .i64 k) ok).run prog w = .ok (if ok then .tuple #[fmV k,.bool true] else fmV k) w:=by
 obtain ⟨i,hf⟩:=fm_some k h0 h4;have hc:(Instr.checkKey fm5.isEmpty 10000 3 (.int .i64 k)).run prog w = .ok () w:=MapKept.run_checkKey (k:=.int .i64 k) Tryz.underlying3 (by simp [MapKept.IsKey]) _ 9999;simp [Instr.lookup,run_underlying Tryz.underlying231,MapKept.run_getObj_map hb,hc,MapKept.run_findKey Tryz.underlying3 hf]
structure FormC (nf ff vf:Nat):Prop where
 n:∀ args W,(callFunc nf args).run prog W = .ok (.enter nf args) W
 f:∀ args W,(callFunc ff args).run prog W = .ok (.enter ff args) W
 v:∀ args W,(callFunc vf args).run prog W = .ok (.enter vf args) W
theorem formC0:FormC 187 188 189:=⟨fun args W=>by kernel_rfl,fun args W=>by kernel_rfl,fun args W=>by kernel_rfl⟩
theorem formC1:FormC 190 191 195:=⟨fun args W=>by kernel_rfl,fun args W=>by kernel_rfl,fun args W=>by kernel_rfl⟩
theorem formC2:FormC 198 200 201:=⟨fun args W=>by kernel_rfl,fun args W=>by kernel_rfl,fun args W=>by kernel_rfl⟩
theorem formC3:FormC 202 204 206:=⟨fun args W=>by kernel_rfl,fun args W=>by kernel_rfl,fun args W=>by kernel_rfl⟩
theorem formC4:FormC 207 208 209:=⟨fun args W=>by kernel_rfl,fun args W=>by kernel_rfl,fun args W=>by kernel_rfl⟩
theorem BoolG.bo {w w':World} {e:Ending} {P:Bool→Prop} (h:BoolG w e w') (hP:∀ b,P b):BoP P w e w':=by
 obtain ⟨⟨b,rfl⟩,hb⟩:=h;exact ⟨⟨b,hP b,rfl⟩,hb⟩
theorem nm_loose {k:Int} (h0:k≠0) (h1:k≠1) (s:ByteArray) (b:Bool):nmP k s b:=⟨fun h=>absurd h h0,fun h=>absurd h h1⟩
theorem va_loose {k:Int} (h0:k≠0) (h1:k≠1) (e:En) (b:Bool):vaP k e b:=⟨fun h=>absurd h h0,fun h=>absurd h h1⟩
theorem wr_loose {k:Int} (h0:k≠0) (h1:k≠1) (e:En) (s:ByteArray):wrP k e s:=⟨fun h=>absurd h h0,fun h=>absurd h h1⟩
theorem rd_loose {k:Int} (h0:k≠0) (h1:k≠1) (nm left:ByteArray) (R:En×ByteArray×Int):rdP k nm left R:=⟨fun h=>absurd h h0,fun h=>absurd h h1⟩
theorem Ux {l:List Int} {i:Nat} (h:∀ n∈l,0≤n∧n≤1099511627777):0≤l.getD i 0∧l.getD i 0≤9223372036854775807:=by
 rw [List.getD_eq_getElem?_getD];cases hg:l[i]? with
 |none=>simp
 |some x=>have:=h x (List.mem_of_getElem? hg);simp;omega
theorem dataR_sm (k:Int) (nm left:ByteArray) (hnm:nm.size≤1000):Sm (Kb k nm left).1:=by
 have r1:=Yi 14 left 0;unfold Kb;dsimp only;generalize Uj 14 left 0=p at r1 ⊢;generalize Vu p.2.1 p.2.2=t;have r3:=V6 t.2.1 t.2.2;generalize Uu t.2.1 t.2.2=c at r3 ⊢;have z4:=Za c.2.1 c.2.2;generalize Uh c.2.1 c.2.2 200=v at z4 ⊢;have z5:=Za v.2.1 v.2.2;generalize Uh v.2.1 v.2.2 200=o at z5 ⊢;have r6:=Yi 2 o.2.1 o.2.2;generalize Uj 2 o.2.1 o.2.2=q at r6 ⊢;generalize Vu q.2.1 q.2.2=b;have r8:=V6 b.2.1 b.2.2;generalize Uu b.2.1 b.2.2=n at r8 ⊢;have h5:(Zl n.1 4).toNat≤5:=by unfold Zl;split<;>omega
 have h9:=Xh (Zl n.1 4).toNat n.2.1 n.2.2;have r9:=Yi (Zl n.1 4).toNat n.2.1 n.2.2;generalize Uj (Zl n.1 4).toNat n.2.1 n.2.2=al at h9 r9 ⊢;have r10:=V6 al.2.1 al.2.2;generalize Uu al.2.1 al.2.2=u at r10 ⊢
 exact ⟨hnm,by show v.1.size≤1000;omega,by show o.1.size≤1000;omega,by show (0:Nat)≤1000;omega,by show (0:Nat)≤1000;omega,by show al.1.length≤5;omega,by show (0:Nat)≤9;omega,fun x hx=>by have:=r9 x hx;omega,fun x hx=>(by cases hx),by
  simp only [List.mem_cons,List.not_mem_nil,or_false,forall_eq_or_imp,forall_eq];exact ⟨Ux r1,Ux r1,Ux r1,Ux r1,Ux r1,Ux r1,Ux r1,Ux r1,Ux r1,Ux r1,Ux r1,Ux r1,Ux r1,Ux r1,⟨r3.1,by omega⟩,Ux r6,Ux r6,⟨r10.1,by omega⟩,by omega,by omega,by omega,by omega⟩⟩
theorem grpR_sm (k:Int) (nm left:ByteArray) (hnm:nm.size≤1000):Sm (grpR k nm left).1:=by
 have r1:=Yi 2 left 0;unfold grpR;dsimp only;generalize Uj 2 left 0=q at r1 ⊢;generalize Vu q.2.1 q.2.2=b;have z3:=Za b.2.1 b.2.2;generalize Uh b.2.1 b.2.2 200=o at z3 ⊢
 exact ⟨hnm,by show (0:Nat)≤1000;omega,by show (0:Nat)≤1000;omega,by show o.1.size≤1000;omega,by show (0:Nat)≤1000;omega,by show (0:Nat)≤5;omega,by show (0:Nat)≤9;omega,fun x hx=>(by cases hx),fun x hx=>(by cases hx),by
  simp only [dZ,List.mem_cons,List.not_mem_nil,or_false,forall_eq_or_imp,forall_eq];refine ⟨?_,?_,?_,?_,?_,?_,?_,?_,?_,?_,?_,?_,?_,?_,?_,?_,?_,?_,Ux r1,Ux r1,?_,?_⟩<;>omega⟩
theorem dataW_size (e:En) (hs:Sm e):(dataW ⟨#[]⟩ e).size≤100000:=by
 unfold dataW;have h1:=hs.vo;have h2:=hs.ow;have h3:=hs.la;have q1:=Xi e.d.vol;have q2:=Xi e.d.own;have q3:=V1 e.d.cls;have q4:=V1 e.alts.length;have h0:(⟨#[]⟩:ByteArray).size=0:=rfl;refine Lx (Vz _ _) ?_;refine Lx (Nat.add_le_add_right (Vz _ _) _) ?_;simp only [ByteArray.size_append,Xt];refine Lx (Nat.add_le_add_right (Nat.add_le_add_right (Nat.add_le_add_right (Nat.add_le_add_right (Vz _ _) _) _) _) _) ?_;simp only [ByteArray.size_append,Xt];refine Lx (Nat.add_le_add_right (Nat.add_le_add_right (Nat.add_le_add_right (Nat.add_le_add_right (Nat.add_le_add_right (Nat.add_le_add_right (Nat.add_le_add_right (Nat.add_le_add_right (Nat.add_le_add_right (Vz _ _) _) _) _) _) _) _) _) _) _) ?_;simp only [List.length_cons,List.length_nil];omega
theorem grpW_size (e:En) (hs:Sm e):(grpW ⟨#[]⟩ e).size≤100000:=by
 unfold grpW;have h1:=hs.eo;have q1:=Xi e.owner;have q2:=Vz [e.limit,e.last] ⟨#[]⟩;have h0:(⟨#[]⟩:ByteArray).size=0:=rfl;simp only [ByteArray.size_append,Xt,List.length_cons,List.length_nil] at q2 ⊢;omega
end
section
set_option maxRecDepth 100000
set_option maxHeartbeats 4000000
open Go.RowKit
theorem body_g {k L:Int} {nf ff vf:Nat} (hF:FormOk k nf vf ff) (hC:FormC nf ff vf) (e:En) (a:EnA) (w:World) (hw:EW [] w e a) (hs:Sm e):
  Calls prog 216 #[EFV L nf ff vf,.agg (enC e a).toArray] w fun x w'=>(∃ s:ByteArray,wrP k e s∧s.size≤100000∧x = .returned (.string s))∧Below w.heap.size w w':=by
 have hb:Below w.heap.size w (((w.alloc (.cells (fvC L nf ff vf) 236)).alloc (.cells (enC e a).toArray 159)).alloc (.cells #[.string ⟨#[]⟩,.pointer none] 240)):=(((Bf _ _).alloc (Le _) _).alloc (by simp) _).alloc (by simp;omega) _;have k1:Blk (((w.alloc (.cells (fvC L nf ff vf) 236)).alloc (.cells (enC e a).toArray 159)).alloc (.cells #[.string ⟨#[]⟩,.pointer none] 240)) w.heap.size 236 (fvC L nf ff vf):=((Blk.new w _ _).alloc _).alloc _;have k2:Blk (((w.alloc (.cells (fvC L nf ff vf) 236)).alloc (.cells (enC e a).toArray 159)).alloc (.cells #[.string ⟨#[]⟩,.pointer none] 240)) (w.heap.size+1) 159 (enC e a).toArray:=(U3 (w.alloc (.cells (fvC L nf ff vf) 236)) _ _ (w.heap.size+1) (by simp)).alloc _
 have k3:Cw (((w.alloc (.cells (fvC L nf ff vf) 236)).alloc (.cells (enC e a).toArray 159)).alloc (.cells #[.string ⟨#[]⟩,.pointer none] 240)) (w.heap.size+2) ⟨#[]⟩:=U3 ((w.alloc (.cells (fvC L nf ff vf) 236)).alloc (.cells (enC e a).toArray 159)) _ _ (w.heap.size+2) (by simp);have f2:(((w.alloc (.cells (fvC L nf ff vf) 236)).alloc (.cells (enC e a).toArray 159)).alloc (.cells #[.string ⟨#[]⟩,.pointer none] 240)).cell? ⟨w.heap.size,2,none⟩=some (.func (.func ff) #[] #[]):=(k1.cell 2).trans rfl;have hew:EW [w.heap.size+2] (((w.alloc (.cells (fvC L nf ff vf) 236)).alloc (.cells (enC e a).toArray 159)).alloc (.cells #[.string ⟨#[]⟩,.pointer none] 240)) e a:=hw.fresh hb (by intro k hk;simp at hk;omega)
 have HF:=Hd (hF.fw (w.heap.size+2) (w.heap.size+1) e a (((w.alloc (.cells (fvC L nf ff vf) 236)).alloc (.cells (enC e a).toArray 159)).alloc (.cells #[.string ⟨#[]⟩,.pointer none] 240)) k3 k2 hew hs (by omega));have hcf:=hC.f;have HB:=Hd hb;clear hF hC hw hs hb k1 k2 k3 hew;unfold EFV;go_enter Tryz.func216,Tryz.ntmps216;go_wp2_with ((with_reducible show Calls _ _ _ _ _);refine HF.out.mono ?_;rintro x w2 ⟨rfl,s,h1,h2,h3,h4⟩;have H1:=Hd (And.intro h1 h2);have H4:=Hd h4;have c0:=h3.c0;clear h1 h2 h3 h4 f2 hcf);go_ret;exact ⟨⟨s,H1.out.1,H1.out.2,rfl⟩,HB.out.trans (H4.out.below (by simp) (HB.out.size))⟩
theorem Ul {W:World} {g b:Nat} {t:TypeId} {cs c2:Array Value} (h:Blk W b t cs) (hn:b≠g):Blk (W.setRow g c2) b t cs:=(setRow_other W g b c2 hn).trans h
theorem EWn.ew0 {n:Nat} {w:World} {e:En} {a:EnA} (h:EWn n w e a):EW [] w e a:=h.ew (by simp)
theorem far_row (W:World) (g:Nat) (cs:Array Value):Far [g] W (W.setRow g cs):=⟨rfl,rfl,rfl,by simp,fun i _ hi=>setRow_other W g i cs (by simpa using hi)⟩
theorem EWn.row {n g:Nat} {w:World} {e:En} {a:EnA} (h:EWn n w e a) (hg:g<n) (cs:Array Value):EW [] (w.setRow g cs) e a:=
 ((h.ew (S:=[g]) (by simpa using hg)).far (far_row w g cs) (fun _ h=>h)).less (by simp)
theorem Ya (W:World) (b:Nat) (cs:Array Value) (h:Blk W b 159 cs) (hs:cs.size=33):(loadVar 159 ⟨b,0,none⟩).run prog W = .ok (.agg cs) W:=
 run_loadVar_row W b 159 159 cs (0,0) _ h Tryz.underlying159 rfl (by rw [hs];kernel_rfl)
theorem rdN (w2:World) (s:ByteArray):Rdr ((w2.alloc (.cells #[.string s,.int .i64 0] 228)).alloc (.cells #[.string ⟨#[]⟩,.pointer (some ⟨w2.heap.size,0,none⟩)] 240)) w2.heap.size s 0:=(Blk.new w2 _ _).alloc _
theorem crN (w2:World) (s:ByteArray):Cr ((w2.alloc (.cells #[.string s,.int .i64 0] 228)).alloc (.cells #[.string ⟨#[]⟩,.pointer (some ⟨w2.heap.size,0,none⟩)] 240)) (w2.heap.size+1) w2.heap.size:=U3 (w2.alloc _) _ _ (w2.heap.size+1) (by simp)
structure BA (w w2 W:World) (R:En×ByteArray×Int) (a':EnA):Prop where
 rd:Rdr W w2.heap.size R.2.1 R.2.2
 cr:Cr W (w2.heap.size+1) w2.heap.size
 bg:Blk W (w.heap.size+3) 159 (enC R.1 a').toArray
 ew:EWn w2.heap.size W R.1 a'
 ol:∃ old:Array Value,old.size=33∧Blk W (w.heap.size+2) 159 old
 be:Below w.heap.size w W
 sz:w.heap.size+4≤w2.heap.size
def BareP (k:Int) (e:En) (w:World) (x:Ending) (w':World):Prop:=
 (∃ (s:ByteArray) (R:En×ByteArray×Int) (a':EnA),wrP k e s∧rdP k e.name s R∧Sm R.1∧R.1.kind=k∧R.1.name=e.name∧x = .returned (.tuple #[.agg (enC R.1 a').toArray,.bool (decide (Zw R.2.1 R.2.2=0))])∧EW [] w' R.1 a')∧Below w.heap.size w w'
theorem bare_g {k L:Int} {nf ff vf:Nat} (hF:FormOk k nf vf ff) (hC:FormC nf ff vf) (e:En) (a:EnA) (w:World) (hw:EW [] w e a) (hs:Sm e) (hk:e.kind=k):
  Calls prog 268 #[EFV L nf ff vf,.agg (enC e a).toArray] w (BareP k e w):=by
 subst hk;have c0:((w.alloc (.cells (fvC L nf ff vf) 236)).alloc (.cells (enC e a).toArray 159)).cell? ⟨w.heap.size+1,0,none⟩=some (.int .i64 e.kind):=((U3 (w.alloc (.cells (fvC L nf ff vf) 236)) 159 (enC e a).toArray (w.heap.size+1) (by simp)).cell 0).trans rfl;have c1:((w.alloc (.cells (fvC L nf ff vf) 236)).alloc (.cells (enC e a).toArray 159)).cell? ⟨w.heap.size+1,1,none⟩=some (.string e.name):=((U3 (w.alloc (.cells (fvC L nf ff vf) 236)) 159 (enC e a).toArray (w.heap.size+1) (by simp)).cell 1).trans rfl;have HB4:Hid (∀ old,Below w.heap.size w ((((w.alloc (.cells (fvC L nf ff vf) 236)).alloc (.cells (enC e a).toArray 159)).alloc (.cells old 159)).alloc (.cells (enC (enK e.kind e.name) enN).toArray 159))):=Hd fun old=>((((Bf _ _).alloc (Le _) _).alloc (by simp) _).alloc (by simp;omega) _).alloc (by simp;omega) _
 have K1:Hid (∀ old,Blk ((((w.alloc (.cells (fvC L nf ff vf) 236)).alloc (.cells (enC e a).toArray 159)).alloc (.cells old 159)).alloc (.cells (enC (enK e.kind e.name) enN).toArray 159)) w.heap.size 236 (fvC L nf ff vf)):=Hd fun old=>(((Blk.new w _ _).alloc _).alloc _).alloc _
 have K2:Hid (∀ old,Blk ((((w.alloc (.cells (fvC L nf ff vf) 236)).alloc (.cells (enC e a).toArray 159)).alloc (.cells old 159)).alloc (.cells (enC (enK e.kind e.name) enN).toArray 159)) (w.heap.size+1) 159 (enC e a).toArray):=Hd fun old=>((U3 (w.alloc (.cells (fvC L nf ff vf) 236)) _ _ (w.heap.size+1) (by simp)).alloc _).alloc _
 have K3:Hid (∀ old,Blk ((((w.alloc (.cells (fvC L nf ff vf) 236)).alloc (.cells (enC e a).toArray 159)).alloc (.cells old 159)).alloc (.cells (enC (enK e.kind e.name) enN).toArray 159)) (w.heap.size+2) 159 old):=Hd fun old=>(U3 ((w.alloc (.cells (fvC L nf ff vf) 236)).alloc (.cells (enC e a).toArray 159)) _ _ (w.heap.size+2) (by simp)).alloc _
 have K4:Hid (∀ old,Blk ((((w.alloc (.cells (fvC L nf ff vf) 236)).alloc (.cells (enC e a).toArray 159)).alloc (.cells old 159)).alloc (.cells (enC (enK e.kind e.name) enN).toArray 159)) (w.heap.size+3) 159 (enC (enK e.kind e.name) enN).toArray):=Hd fun old=>U3 (((w.alloc (.cells (fvC L nf ff vf) 236)).alloc (.cells (enC e a).toArray 159)).alloc (.cells old 159)) _ _ (w.heap.size+3) (by simp)
 have KX:Hid (∀ old o2,Blk ((((w.alloc (.cells (fvC L nf ff vf) 236)).alloc (.cells (enC e a).toArray 159)).alloc (.cells old 159)).alloc (.cells o2 159)) (w.heap.size+3) 159 o2):=Hd fun old o2=>U3 (((w.alloc (.cells (fvC L nf ff vf) 236)).alloc (.cells (enC e a).toArray 159)).alloc (.cells old 159)) _ _ (w.heap.size+3) (by simp)
 have KS:Hid (∀ old o2,((((w.alloc (.cells (fvC L nf ff vf) 236)).alloc (.cells (enC e a).toArray 159)).alloc (.cells old 159)).alloc (.cells o2 159)).setRow (w.heap.size+3) (enC (enK e.kind e.name) enN).toArray=((((w.alloc (.cells (fvC L nf ff vf) 236)).alloc (.cells (enC e a).toArray 159)).alloc (.cells old 159)).alloc (.cells (enC (enK e.kind e.name) enN).toArray 159))):=Hd fun old o2=>by
  have h:=U1 (((w.alloc (.cells (fvC L nf ff vf) 236)).alloc (.cells (enC e a).toArray 159)).alloc (.cells old 159)) o2 (enC (enK e.kind e.name) enN).toArray 159
  rwa [show (((w.alloc (.cells (fvC L nf ff vf) 236)).alloc (.cells (enC e a).toArray 159)).alloc (.cells old 159)).heap.size=w.heap.size+3 from by simp] at h
 have HO1:=Hd (V4 (enK e.kind e.name) enN);have HBD:Hid (∀ old,Calls prog 216 #[EFV L nf ff vf,.agg (enC e a).toArray] ((((w.alloc (.cells (fvC L nf ff vf) 236)).alloc (.cells (enC e a).toArray 159)).alloc (.cells old 159)).alloc (.cells (enC (enK e.kind e.name) enN).toArray 159)) fun x w'=>(∃ s:ByteArray,wrP e.kind e s∧s.size≤100000∧x = .returned (.string s))∧Below (((((w.alloc (.cells (fvC L nf ff vf) 236)).alloc (.cells (enC e a).toArray 159)).alloc (.cells old 159)).alloc (.cells (enC (enK e.kind e.name) enN).toArray 159))).heap.size ((((w.alloc (.cells (fvC L nf ff vf) 236)).alloc (.cells (enC e a).toArray 159)).alloc (.cells old 159)).alloc (.cells (enC (enK e.kind e.name) enN).toArray 159)) w'):=Hd fun old=>body_g hF hC e a _ (hw.fresh (HB4.out old) (by simp)) hs
 have HFR:=Hd hF.fr;have HNM:=Hd hs.nm;have hcf:=hC.f;unfold EFV at HBD ⊢;clear hF hC hw hs;go_enter Tryz.func268,Tryz.ntmps268
 go_wp2_with (first|((with_reducible refine Gb 159 ?_);refine U2 (by kernel_rfl) 159 _ rfl (enC (enK e.kind e.name) enN).toArray (by kernel_rfl) ?_)|((with_reducible refine Gt 159 6 ?_);refine Lt rfl 159 _ _ rfl (w.heap.size+3) (enC (enK e.kind e.name) enN).toArray rfl rfl 159 _ (KX.out _ _) (by kernel_rfl) rfl HO1.out ?_;rw [KS.out])|((with_reducible refine Gl 236 2 ?_);refine Lr rfl 236 _ rfl (w.heap.size) rfl 236 (fvC L nf ff vf) (0,0) _ (K1.out _) Tryz.underlying236 rfl (by kernel_rfl) ?_)|((with_reducible refine Gl 159 3 ?_);refine Lr rfl 159 _ rfl (w.heap.size+1) rfl 159 (enC e a).toArray (0,0) _ (K2.out _) Tryz.underlying159 rfl (by kernel_rfl) ?_)|(go_at_call 216;refine (HBD.out _).mono ?_;rintro x w2 ⟨⟨s,hp,hz,rfl⟩,hb⟩;have HP:=Hd (And.intro hp hz);have HN1:=Hd ((K1.out _).below hb (K1.out _).lt);have HN4:=Hd ((K4.out _).below hb (K4.out _).lt);have HN3:=Hd ((K3.out _).below hb (K3.out _).lt);have HBW:=Hd (U0 (HB4.out _) hb (HB4.out _).size);have HSZ:Hid (w.heap.size+4≤w2.heap.size):=Hd (by have:=hb.size;simpa using this);clear hp hz hb c0 c1 K1 K2 K3 K4 KX KS HB4 HBD)|(go_at_call 122;refine (Zi s _).mono ?_;rintro x w3 ⟨rfl,rfl⟩;have f2:=(((HN1.out.alloc (.cells #[.string s,.int .i64 0] 228)).alloc (.cells #[.string ⟨#[]⟩,.pointer (some ⟨w2.heap.size,0,none⟩)] 240)).cell 2).trans (show _=some (Value.func (.func ff) #[] #[]) from rfl);have HF6:=Hd (HFR.out (w2.heap.size+1) w2.heap.size (w.heap.size+3) e.name s _ (crN w2 s) (rdN w2 s) ((HN4.out.alloc (.cells #[.string s,.int .i64 0] 228)).alloc (.cells #[.string ⟨#[]⟩,.pointer (some ⟨w2.heap.size,0,none⟩)] 240)) (by have:=HP.out.2;omega) HNM.out (by have:=HSZ.out;omega) (by omega) (by have:=HSZ.out;omega)))|((with_reducible show Calls _ _ #[.pointer (some ⟨w2.heap.size+1,0,none⟩),_] _ _);refine HF6.out.mono ?_;rintro x w7 ⟨rfl,R,a',hR,hsm,hk,hnm,hrd,hbg,hew,hfa⟩;have HR:=Hd (And.intro hR (And.intro hsm (And.intro hk hnm)));have HBA:Hid (BA w w2 w7 R a'):=Hd ⟨hrd,Blk.far' (crN w2 s) hfa (by have:=HSZ.out;simp;omega),hbg,⟨hew.sa,hew.sg,fun p hp h0=>by have:=hew.na p hp h0;simp at this;omega,fun p hp h0=>by have:=hew.ng p hp h0;simp at this;omega⟩,⟨_,by rfl,((HN3.out.alloc (.cells #[.string s,.int .i64 0] 228)).alloc (.cells #[.string ⟨#[]⟩,.pointer (some ⟨w2.heap.size,0,none⟩)] 240)).far' hfa (by have:=HSZ.out;simp;omega)⟩,((HBW.out.alloc HBW.out.size _).alloc (by have:=HBW.out.size;simp;omega) _).trans (hfa.below (by have:=HSZ.out;simp;omega) (by have:=HBW.out.size;simp;omega)),HSZ.out⟩;clear hR hsm hk hnm hrd hbg hew hfa f2 hcf HF6))
 have HBd:Hid (BA w w2 w7.drew R a'):=Hd ⟨HBA.out.rd,HBA.out.cr,HBA.out.bg,⟨HBA.out.ew.sa,HBA.out.ew.sg,HBA.out.ew.na,HBA.out.ew.ng⟩,HBA.out.ol,HBA.out.be.drew,HBA.out.sz⟩;refine Rw (S:=fun w'=>Cr w' (w2.heap.size+1) w2.heap.size∧Blk w' (w.heap.size+3) 159 (enC R.1 a').toArray) (by kernel_rfl) ⟨HBd.out.cr,HBd.out.bg⟩ (fun Hh=>?_);refine tk 0 (.agg (enC R.1 a').toArray) Hh ?_ (y:=by exact yieldsIf_load_mid (by rfl) 159 _ rfl (w.heap.size+3) 0 rfl (enC R.1 a') _ (fun w' hSw j v hv=>by rw [hSw.2.cell,Nat.zero_add,Ga];exact hv) Tryz.underlying159 rfl (by kernel_rfl));refine tk 1 (.pointer (some ⟨w2.heap.size+1,0,none⟩)) Hh ?_;refine tk 2 (.pointer (some ⟨w2.heap.size+1,0,none⟩)) Hh ?_;refine tk 3 (.pointer (some ⟨w2.heap.size+1,1,none⟩)) Hh ?_
 refine tk 4 (.pointer (some ⟨w2.heap.size,0,none⟩)) Hh ?_ (y:=by exact Or.inl ⟨by rfl,by intro w' hSw;have h1:=hSw.1.c1;go_simp⟩);refine Ar (rs:=[5]) (by kernel_rfl) (by simp) ?_;refine Rc (fun K hK=>?_) ?_
 ·go_simp
  refine (Kr _ _ _ _ HBd.out.rd).mono ?_;rintro e w8 ⟨rfl,rfl⟩;simp only [];refine hK.out _ _ Hh (fun Hh=>?_);clear hK K;try simp only [Act.put,Sv,Sz,Sw]
  refine tk 6 (.bool (Zw R.2.1 R.2.2 == 0)) Hh ?_;obtain ⟨old,ho1,ho2⟩:=HBd.out.ol;refine Ar (rs:=[7]) (by kernel_rfl) (by simp) ?_;refine Rc (fun K hK=>?_) ?_
  ·refine wp_store_row 159 _ _ rfl (w.heap.size+2) (enC R.1 a').toArray rfl rfl 159 old ho2 (by kernel_rfl) ho1 (V4 _ _) ?_
   refine hK.out _ _ ⟨Ul Hh.1 (by have:=HBd.out.sz;omega),Ul Hh.2 (by omega)⟩ (fun Hh=>?_);clear hK K;try simp only [Act.put]
   refine tk 8 (.bool (Zw R.2.1 R.2.2 == 0)) Hh ?_;clear Hh;refine Ad (by kernel_rfl) ?_ _;go_wp2;have hrr:=Ya (w7.drew.setRow (w.heap.size+2) (enC R.1 a').toArray) (w.heap.size+2) (enC R.1 a').toArray (setRow_heap _ _ _ _ _ _ ho2) (by simp [enC]);exact Br (v:=.tuple #[.agg (enC R.1 a').toArray,.bool (Zw R.2.1 R.2.2 == 0)]) (U5 Tryz.results268 rfl rfl hrr) rfl ⟨⟨s,R,a',HP.out.1,HR.out.1,HR.out.2.1,HR.out.2.2.1,HR.out.2.2.2,rfl,HBd.out.ew.row (by have:=HBd.out.sz;omega) _⟩,U6 HBd.out.be (by omega) _⟩
  exact An
 exact An
end
end Go.Proofs.YtapanepkfbamhaaGreatDoor
