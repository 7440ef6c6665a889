/- Part of the proof of HistoryReads. -/
import Derived.Test.YtapanepkfbamhaaGreatDoorJAG
import Derived.Deep.DeepCutAuto
import Derived.Deep.WholeRow
import Derived.Great.BuildSlice
namespace Go.Proofs.YtapanepkfbamhaaGreatDoor
open Tryz (prog)
section
set_option maxRecDepth 100000
set_option maxHeartbeats 1000000
open Go.RowKit
theorem within_yes (n lo hi:Int) (h1:lo≤n) (h2:n≤hi) (w:World):Calls prog 119 #[.int .i64 n,.int .i64 lo,.int .i64 hi] w fun e w'=>e = .returned (.bool true)∧w=w':=by
 go_enter Tryz.func119,Tryz.ntmps119;go_wp2;go_ret;exact ⟨rfl,rfl⟩
theorem zeros2 (g:Nat) (w:World) (h0:w.cell? ⟨g,0,none⟩=some (.int .i64 0)) (h1:w.cell? ⟨g,1,none⟩=some (.int .i64 0)):
  Calls prog 136 #[.slice (some ⟨g,0,none⟩) 2 2] w fun e w'=>e = .returned (.bool true)∧w=w':=by
 go_enter Tryz.func136,Tryz.ntmps136;go_wp2;refine Lu 3 ?_;rw [Rs];go_wp2;rw [Rs];go_wp2;rw [Rs];go_wp2;go_ret;exact ⟨rfl,rfl⟩
theorem keyValid_a (id:Int) (w:World):Calls prog 109 #[.agg #[.int .i64 id,.int .i64 3,.int .i64 0,.int .i64 8,.int .i64 0,.int .i64 0,.int .i64 1,.int .i64 128,.int .i64 2,.int .i64 0,.int .i64 0,.int .i64 0,.int .i64 0,.int .i64 0,.bool false,.int .i64 0,.string ⟨#[]⟩,.string ⟨#[]⟩,.int .i64 0,.int .i64 0,.bool false]] w fun e w'=>e = .returned (.bool true)∧Below w.heap.size w w':=by
 have i0:∀ w,(Instr.index 213 (.agg #[.int .i64 128,.int .i64 256,.int .i64 512]) (.int .i64 0)).run prog w = .ok (.int .i64 128) w:=fun _=>by kernel_rfl
 have i1:∀ w,(Instr.index 213 (.agg #[.int .i64 128,.int .i64 256,.int .i64 512]) (.int .i64 1)).run prog w = .ok (.int .i64 256) w:=fun _=>by kernel_rfl
 have i2:∀ w,(Instr.index 213 (.agg #[.int .i64 128,.int .i64 256,.int .i64 512]) (.int .i64 2)).run prog w = .ok (.int .i64 512) w:=fun _=>by kernel_rfl
 go_enter Tryz.func109,Tryz.ntmps109;go_wp2;refine Lu 4 ?_;rw [Rs];go_wp2;rw [Rs];go_wp2;rw [Rs];go_wp2;rw [Rs];go_wp2_with (first|(go_at_call 119;refine (within_yes _ _ _ (by omega) (by omega) _).mono ?_;rintro e w' ⟨rfl,rfl⟩)|(go_at_call 136;refine (zeros2 _ _ ((U3 _ 3 #[.int .i64 0,.int .i64 0] _ (by simp)).cell 0) ((U3 _ 3 #[.int .i64 0,.int .i64 0] _ (by simp)).cell 1)).mono ?_;rintro e w' ⟨rfl,rfl⟩));go_ret;exact ⟨rfl,(((Bf w.heap.size w).alloc (Le _) _).alloc (by simp) _).alloc (by simp;omega) _⟩
theorem described_a (id:Int) (w:World) (h1:1≤id) (h2:id≤1099511627776):Calls prog 82 #[.agg #[.int .i64 id,.int .i64 3,.int .i64 0,.int .i64 8,.int .i64 0,.int .i64 0,.int .i64 1,.int .i64 128,.int .i64 2,.int .i64 0,.int .i64 0,.int .i64 0,.int .i64 0,.int .i64 0,.bool false,.int .i64 0,.string ⟨#[]⟩,.string ⟨#[]⟩,.int .i64 0,.int .i64 0,.bool false]] w fun e w'=>e = .returned (.bool true)∧Below w.heap.size w w':=by
 have B0:=Hd (Vq w #[.int .i64 id,.int .i64 3,.int .i64 0,.int .i64 8,.int .i64 0,.int .i64 0,.int .i64 1,.int .i64 128,.int .i64 2,.int .i64 0,.int .i64 0,.int .i64 0,.int .i64 0,.int .i64 0,.bool false,.int .i64 0,.string ⟨#[]⟩,.string ⟨#[]⟩,.int .i64 0,.int .i64 0,.bool false] 27);have d1:decide (id<1)=false:=by simp;omega
 have d2:decide (1099511627776<id)=false:=by simp;omega
 clear h1 h2;have HG:=Hd (heap_alloc_new w (.cells #[.int .i64 id,.int .i64 3,.int .i64 0,.int .i64 8,.int .i64 0,.int .i64 0,.int .i64 1,.int .i64 128,.int .i64 2,.int .i64 0,.int .i64 0,.int .i64 0,.int .i64 0,.int .i64 0,.bool false,.int .i64 0,.string ⟨#[]⟩,.string ⟨#[]⟩,.int .i64 0,.int .i64 0,.bool false] 27));have HK:=Hd (keyValid_a id (w.alloc (.cells #[.int .i64 id,.int .i64 3,.int .i64 0,.int .i64 8,.int .i64 0,.int .i64 0,.int .i64 1,.int .i64 128,.int .i64 2,.int .i64 0,.int .i64 0,.int .i64 0,.int .i64 0,.int .i64 0,.bool false,.int .i64 0,.string ⟨#[]⟩,.string ⟨#[]⟩,.int .i64 0,.int .i64 0,.bool false] 27)));go_enter Tryz.func82,Tryz.ntmps82
 go_wp2_with (first|(refine Lr rfl 27 _ rfl w.heap.size rfl 27 _ (0,0) _ HG.out Tryz.underlying27 rfl (by kernel_rfl) ?_)|(go_at_call 109;refine HK.out.mono ?_;rintro e w2 ⟨rfl,hb2⟩;have X2:=Hd (U0 (Uc B0.out) hb2 (Nat.le_of_succ_le (Vf B0.out)));clear hb2));go_ret;exact ⟨rfl,X2.out⟩
end
section
set_option maxRecDepth 100000
open Go.RowKit
theorem archNum_yes (n:Int) (h1:0≤n) (h2:n≤1099511627776) (w:World):Calls prog 113 #[.int .i64 n] w fun e w'=>e = .returned (.bool true)∧w=w':=by
 have d1:decide (0≤n)=true:=by simpa using h1
 have d2:decide (n≤1099511627776)=true:=by simpa using h2
 clear h1 h2;go_enter Tryz.func113,Tryz.ntmps113;go_wp2;go_ret;exact ⟨rfl,rfl⟩
theorem av1_no (b o:Nat) (n:Int) (w:World) (hc:w.cell? ⟨b,o,none⟩=some (.int .i64 n)) (h1:0≤n) (h2:n≤1099511627776):
  Calls prog 112 #[.pointer (some ⟨b,o,none⟩)] w fun e w'=>e = .returned (.bool false)∧w=w':=by
 have HN:=Hd fun W=>archNum_yes n h1 h2 W
 clear h1 h2;go_enter Tryz.func112,Tryz.ntmps112;go_wp2_with (go_at_call 113;refine (HN.out _).mono ?_;rintro e w' ⟨rfl,rfl⟩);go_ret;exact ⟨rfl,rfl⟩
def Ptrs (w:World) (g o n:Nat):Prop:=∀ j,j<n→∃ b q v,w.cell? ⟨g,o+j,none⟩=some (.pointer (some ⟨b,q,none⟩))∧w.cell? ⟨b,q,none⟩=some (.int .i64 v)∧0≤v∧v≤1099511627776
theorem ptrs_index (g o n c:Nat) (w:World) (hp:Ptrs w g o n) (hn:n≤9223372036854775807):
  Calls prog 137 #[.slice (some ⟨g,o,none⟩) n c,.func (.func 112) #[] #[]] w fun e w'=>e = .returned (.int .i64 (-1))∧w=w':=by
 have HP:=Hd hp;clear hp;go_enter Tryz.func137,Tryz.ntmps137;go_wp2;go_loop [8] (fun i => ∃ j:Nat,j≤n∧i = .int .i64 j) (fun i=>n-(intOf i).toNat)
 case atStart=>exact ⟨0,Z0 _,rfl⟩
 case round=>
  obtain ⟨j,hj,rfl⟩:=hrel;by_cases hlt:j<n
  ·obtain ⟨b,q,v,c1,c2,v1,v2⟩:=HP.out j hlt
   have HA:=Hd (av1_no b q v w c2 v1 v2);clear c2 v1 v2;go_wp2_with fail;refine HA.out.mono ?_;rintro e w' ⟨rfl,rfl⟩;go_wp2
   go_round
   case rel=>exact ⟨j+1,by omega,by go_num⟩
   case measure=>simp [intOf];omega
  ·go_wp2
   go_ret;exact ⟨rfl,rfl⟩
theorem ptrs_any (g o n c:Nat) (w:World) (hp:Ptrs w g o n) (hn:n≤9223372036854775807):
  Calls prog 111 #[.slice (some ⟨g,o,none⟩) n c,.func (.func 112) #[] #[]] w fun e w'=>e = .returned (.bool false)∧w=w':=by
 have HI:=Hd (ptrs_index g o n c w hp hn);clear hp;go_enter Tryz.func111,Tryz.ntmps111;go_wp2_with (go_at_call 137;refine HI.out.mono ?_;rintro e w' ⟨rfl,rfl⟩);go_ret;exact ⟨rfl,rfl⟩
end
section
set_option maxRecDepth 100000
set_option maxHeartbeats 2000000
open Go.RowKit
def J2 (g:Nat):List Value:=[.pointer (some ⟨g,0,none⟩),.pointer (some ⟨g,1,none⟩),.pointer (some ⟨g,2,none⟩),.pointer (some ⟨g,3,none⟩),.pointer (some ⟨g,4,none⟩),.pointer (some ⟨g,5,none⟩),.pointer (some ⟨g,6,none⟩),.pointer (some ⟨g,7,none⟩),.pointer (some ⟨g,8,none⟩),.pointer (some ⟨g,9,none⟩),.pointer (some ⟨g,10,none⟩),.pointer (some ⟨g,11,none⟩),.pointer (some ⟨g,12,none⟩),.pointer (some ⟨g,13,none⟩)]
theorem fields_any (g:Nat) (w:World):Calls prog 110 #[.pointer (some ⟨g,0,none⟩)] w fun e w'=>e = .returned (.slice (some ⟨w.heap.size,0,none⟩) 14 14)∧w'=(w.alloc (.cells (J2 g).toArray 179)).drew:=by
 unfold J2;go_enter Tryz.func110,Tryz.ntmps110;go_wp2_with fail
 go_region_held3 (fun _=>True) (trivial) (fail)
 all_goals
  go_wp2;go_ret;exact ⟨rfl,rfl⟩
end
section
set_option maxRecDepth 100000
set_option maxHeartbeats 2000000
open Go.RowKit
theorem pairsIndex_nil (w:World):Calls prog 138 #[.slice none 0 0,.func (.func 115) #[] #[]] w fun e w'=>e = .returned (.int .i64 (-1))∧w=w':=by
 go_enter Tryz.func138,Tryz.ntmps138;go_wp2;refine Lu 1 ?_;rw [Rs];go_wp2;go_ret;exact ⟨rfl,rfl⟩
theorem pairsAny_nil (w:World):Calls prog 114 #[.slice none 0 0,.func (.func 115) #[] #[]] w fun e w'=>e = .returned (.bool false)∧w=w':=by
 go_enter Tryz.func114,Tryz.ntmps114;go_wp2_with (go_at_call 138;refine (pairsIndex_nil _).mono ?_;rintro e w' ⟨rfl,rfl⟩);go_ret;exact ⟨rfl,rfl⟩
theorem infoPtr:(prog.info? 179).map (fun i=>(i.zero,i.size,i.bytes))=some (some (.pointer none),1,8):=by kernel_rfl
def dV (id:Int):List Value:=[.int .i64 id,.int .i64 3,.int .i64 0,.int .i64 8,.int .i64 0,.int .i64 0,.int .i64 1,.int .i64 128,.int .i64 2,.int .i64 0,.int .i64 0,.int .i64 0,.int .i64 0,.int .i64 0,.bool false,.int .i64 0,.string ⟨#[]⟩,.string ⟨#[]⟩,.int .i64 0,.int .i64 0,.bool false]
def aV (id:Int):List Value:=dV id++[.int .i64 4,.slice none 0 0]
theorem aV_range (id:Int) (w:World) (t:TypeId):(w.alloc (.cells (aV id).toArray t)).rangeAt w.heap.size 0 (dV id):=by
 intro j v hv;rw [(U3 w t (aV id).toArray w.heap.size rfl).cell (0+j)];rw [Ga,Nat.zero_add];obtain ⟨hj,hv'⟩:=List.getElem?_eq_some_iff.1 hv;rw [aV,List.getElem?_append_left hj,hv]
structure AV (id:Int) (w W:World):Prop where
 b1:Blk W w.heap.size 149 (aV id).toArray
 b2:Blk W (w.heap.size+1) 27 (dV id).toArray
 own:W.ownsRow (w.heap.size+2) 179 1 (.slice (some ⟨w.heap.size+2,0,none⟩) 14 14) 14 (J2 (w.heap.size+1))
 sz:W.heap.size=w.heap.size+3
 be:Below w.heap.size w W
theorem aV_mk (id:Int) (w W1:World) (h1:W1=(w.alloc (.cells (aV id).toArray 149)).alloc (.cells (dV id).toArray 27)):AV id w (W1.alloc (.cells (J2 (w.heap.size+1)).toArray 179)).drew:=by
 have hs:W1.heap.size=w.heap.size+2:=by rw [h1];simp
 have hb:Below w.heap.size w W1:=by rw [h1];exact ((Bf w.heap.size w).alloc (Le _) _).alloc (by simp) _
 have q1:Blk W1 w.heap.size 149 (aV id).toArray:=by rw [h1];exact (Blk.new w 149 _).alloc _
 have q2:Blk W1 (w.heap.size+1) 27 (dV id).toArray:=by rw [h1];exact U3 _ _ _ _ (by simp)
 have q3:=World.ownsRow_lit (e:=179) (base:=W1.heap.size) (size:=1) W1 (J2 (w.heap.size+1)).toArray 14 (Le _) (by decide) rfl;rw [hs] at q3;exact ⟨(q1.alloc _).drew,(q2.alloc _).drew,q3.drew,by simp [World.drew,hs],(hb.alloc (by omega) _).drew⟩
theorem dV_one (id:Int):(dV id).toArray.all (·.oneCell')=true:=by simp [dV,Value.oneCell']
theorem Ue (X:World) (b:Nat) (h:b=X.heap.size) (old cs:Array Value) (t:TypeId):(X.alloc (.cells old t)).setRow b cs=X.alloc (.cells cs t):=by
 subst h;exact World.setRow_alloc_new X old cs t
theorem fields_at (id:Int) (w:World):Calls prog 110 #[.pointer (some ⟨w.heap.size+1,0,none⟩)] ((w.alloc (.cells (aV id).toArray 149)).alloc (.cells (dV id).toArray 27)) fun e W=>e = .returned (.slice (some ⟨w.heap.size+2,0,none⟩) 14 14)∧AV id w W:=by
 refine (fields_any (w.heap.size+1) _).mono ?_;rintro e W ⟨rfl,rfl⟩;exact ⟨by simp,aV_mk id w _ rfl⟩
def Yo (A B:Nat):List Value:=[.pointer (some ⟨B,15,none⟩),.pointer (some ⟨B,18,none⟩),.pointer (some ⟨B,19,none⟩),.pointer (some ⟨A,21,none⟩)]
theorem In (A B:Nat) (W:World):Rd (W.alloc (.cells (Yo A B).toArray 179)) (W.heap.size+1) 1 (some ⟨W.heap.size,0,none⟩) 4 (Yo A B):=by
 refine ⟨rfl,fun _=>⟨W.heap.size,0,rfl,by omega,fun j u hu=>?_⟩⟩;rw [(Blk.new W 179 (Yo A B).toArray).cell,Nat.zero_add,Ga];exact hu
theorem av_app (id:Int) (w W3 w':World) (v':Value) (i1:0≤id) (i2:id≤1099511627776) (HA:AV id w W3)
  (hown:w'.ownsRow (w.heap.size+2) 179 1 v' 18 (J2 (w.heap.size+1)++Yo w.heap.size (w.heap.size+1)))
  (hgr:(W3.alloc (.cells (Yo w.heap.size (w.heap.size+1)).toArray 179)).grownBy w' (Value.slice (some ⟨w.heap.size+2,0,none⟩) 14 14).ownBlock):
  ∃ g cap,v' = .slice (some ⟨g,0,none⟩) 18 cap∧Blk w' w.heap.size 149 (aV id).toArray∧Blk w' (w.heap.size+1) 27 (dV id).toArray∧Ptrs w' g 0 18∧Below w.heap.size w w':=by
 have q1:Blk w' w.heap.size 149 (aV id).toArray:=(HA.b1.alloc _).grown hgr (by simp [Value.ownBlock]);have q2:Blk w' (w.heap.size+1) 27 (dV id).toArray:=(HA.b2.alloc _).grown hgr (by simp [Value.ownBlock]);have hb:Below w.heap.size w w':=(HA.be.alloc (by have:=HA.sz;omega) _).grown hgr (by have:=HA.sz;simp;omega) (by intro k hk;simp [Value.ownBlock] at hk;omega)
 obtain ⟨g,cap,rfl⟩:∃ g cap,v' = .slice (some ⟨g,0,none⟩) 18 cap:=by
  rcases hown.2 with ⟨_,h0⟩|⟨g,cap,cur,rfl,_⟩
  ·exact absurd h0 (by decide)
  ·exact ⟨g,cap,rfl⟩
 refine ⟨g,cap,rfl,q1,q2,fun j hj=>?_,hb⟩;rw [Nat.zero_add,hown.cellAt j (by omega)];have hj':j=0∨j=1∨j=2∨j=3∨j=4∨j=5∨j=6∨j=7∨j=8∨j=9∨j=10∨j=11∨j=12∨j=13∨j=14∨j=15∨j=16∨j=17:=by omega
 clear hgr hown hb;rcases hj' with rfl|rfl|rfl|rfl|rfl|rfl|rfl|rfl|rfl|rfl|rfl|rfl|rfl|rfl|rfl|rfl|rfl|rfl
 all_goals
  refine ⟨_,_,_,rfl,(by first|(rw [q2.cell];rfl)|(rw [q1.cell];rfl)),?_,?_⟩<;>first|exact i1|exact i2|decide
theorem archValid_a (id:Int) (w:World) (i1:0≤id) (i2:id≤1099511627776):Calls prog 83 #[.agg (aV id).toArray] w fun e w'=>e = .returned (.bool true)∧Below w.heap.size w w':=by
 obtain ⟨i0,hi0,hz0,hz1,hz2⟩:=info_parts infoPtr;have HM:=Hd (aV_range id w 149);have H1:=Hd (dV_one id);have HF:=Hd (fields_at id w);have HB:=Hd fun old=>U3 (w.alloc (.cells (aV id).toArray 149)) 27 old (w.heap.size+1) (by simp)
 have HS:=Hd fun old=>Ue (w.alloc (.cells (aV id).toArray 149)) (w.heap.size+1) (by simp) old (dV id).toArray 27
 have HP:=Hd fun W3 w' v'=>av_app id w W3 w' v' i1 i2
 clear i1 i2;go_enter Tryz.func83,Tryz.ntmps83
 go_wp2_with (first|(refine Lm rfl 27 _ rfl w.heap.size 0 rfl (dV id) _ HM.out Tryz.underlying27 rfl (by kernel_rfl) ?_)|(refine Lt rfl 27 _ _ rfl (w.heap.size+1) (dV id).toArray rfl rfl 27 _ (HB.out _) (by kernel_rfl) rfl H1.out ?_;rw [HS.out])|(go_at_call 110;refine HF.out.mono ?_;rintro e W3 ⟨rfl,H3⟩;have HA:=Hd H3;clear H3;have HO:=Hd (HA.out.own.alloc (.cells (Yo w.heap.size (w.heap.size+1)).toArray 179));have HR:=Hd (In w.heap.size (w.heap.size+1) W3))|(at_builtin;go_must (refine U4 _ rfl _ _ 176 rfl (w.heap.size+2) 179 i0 _ 1 8 Tryz.underlying176 hi0 hz0 hz1 hz2 rfl (by decide) _ 14 _ rfl HO.out (W3.heap.size+1) (some ⟨W3.heap.size,0,none⟩) 4 4 (Yo w.heap.size (w.heap.size+1)) rfl HR.out (by simp [Yo,Value.oneCell']) (by decide) (by decide) (by have:=HA.out.sz;simp;omega) ?_;intro v' w4 hown hgr _;obtain ⟨g,cap,rfl,q1,q2,q3,q4⟩:=HP.out _ _ _ HA.out hown hgr;clear hown hgr HO HR HA;have c17:w4.cell? ⟨w.heap.size+1,17,none⟩=some (.string ⟨#[]⟩):=(q2.cell 17).trans rfl;have c16:w4.cell? ⟨w.heap.size+1,16,none⟩=some (.string ⟨#[]⟩):=(q2.cell 16).trans rfl;have c22:w4.cell? ⟨w.heap.size,22,none⟩=some (.slice none 0 0):=(q1.cell 22).trans rfl;have HC:=Hd (ptrs_any g 0 18 cap w4 q3 (by decide));have HE:=Hd q4;clear q1 q2 q3 q4))|(go_at_call 111;refine HC.out.mono ?_;rintro e w5 ⟨rfl,rfl⟩)|(go_at_call 114;refine (pairsAny_nil _).mono ?_;rintro e w6 ⟨rfl,rfl⟩))
 go_ret;exact ⟨rfl,HE.out⟩
end
section
set_option maxRecDepth 100000
set_option maxHeartbeats 2000000
open Go.RowKit
section
variable {P:Program} {ops:Array Oper} {rest:List Oper} {o:Oper} {a:Act} {w:World} {Q:Exit→Act→World→Prop}
theorem Yf (hw:Region.wanted o (yielded ops a.tmps)=true) (h:∀ K:Act→World→Prop,(∀ a w,wpList P ops Q rest a w→K a w)→o.wp P a w K Q):wpList P ops Q (o::rest) a w:=
 wpList_step fun K hK=>by simp only [hw,if_true];exact h K hK
theorem U7 (hw:Region.wanted o (yielded ops a.tmps)=true) (ty:TypeId) (x:Operand) (ho:o.op = .load ty x)
  (g:Nat) (hx:a.eval x = .pointer (some ⟨g,0,none⟩)) (t:TypeId) (cs:Array Value) (fr:Nat×Nat) (d:TypeDesc) (hg:w.heap[g]? =some (.cells cs t fr))
  (hu:P.underlying ty=some d) (hd:(match d with | .struct _ | .array _ _=>true|_=>false)=true) (hi:(P.info? ty).map (·.size)=some cs.size)
  (h:wpList P ops Q rest (a.put o.dst (.agg cs)) w):wpList P ops Q (o::rest) a w:=
 Yf hw fun _ hK=>wp_load_row ty x ho g hx t cs fr d hg hu hd hi (hK _ _ h)
theorem U2 (hw:Region.wanted o (yielded ops a.tmps)=true) (t:TypeId) (parts:Array (Nat×Operand)) (ho:o.op = .build t parts)
  (cells:Array Value) (hf:P.built t (parts.map fun (i,x)=>(i,a.eval x)).toList=some cells)
  (h:wpList P ops Q rest (a.put o.dst (.agg cells)) w):wpList P ops Q (o::rest) a w:=
 Yf hw fun _ hK=>by
  unfold Oper.wp execOp;simp only [ho,Sem.run_bind,run_build w t _ _ hf,Result.andThen_ok];exact hK _ _ h
end
def fX (id:Int) (w:World):World:=(w.alloc (.cells (aV id).toArray 30)).alloc (.cells (dV id).toArray 27)
structure FV (id:Int) (w W:World):Prop where
 b1:Blk W w.heap.size 30 (aV id).toArray
 b2:Blk W (w.heap.size+1) 27 (dV id).toArray
 sz:w.heap.size+2≤W.heap.size
 be:Below w.heap.size w W
theorem fv_start (id:Int) (w:World):FV id w (fX id w):=
 ⟨(Blk.new w 30 _).alloc _,U3 _ _ _ _ (by simp),by simp [fX],((Bf w.heap.size w).alloc (Le _) _).alloc (by simp) _⟩
theorem fv_next (id:Int) (w W W':World) (h:FV id w W) (hb:Below W.heap.size W W'):FV id w W':=
 ⟨h.b1.below hb (by have:=h.sz;omega),h.b2.below hb (by have:=h.sz;omega),Lx h.sz hb.size,U0 h.be hb (by have:=h.sz;omega)⟩
theorem fv_21 {id:Int} {w W:World} (h:FV id w W):W.cell? ⟨w.heap.size,21,none⟩=some (.int .i64 4):=(h.b1.cell 21).trans rfl
theorem fv_22 {id:Int} {w W:World} (h:FV id w W):W.cell? ⟨w.heap.size,22,none⟩=some (.slice none 0 0):=(h.b1.cell 22).trans rfl
theorem fwdValid_a (id:Int) (w:World) (i1:1≤id) (i2:id≤1099511627776):Calls prog 68 #[.agg (aV id).toArray] w fun e w'=>e = .returned (.bool true)∧Below w.heap.size w w':=by
 have HM:=Hd (aV_range id w 30);have H1:=Hd (dV_one id);have HB:=Hd fun old=>U3 (w.alloc (.cells (aV id).toArray 30)) 27 old (w.heap.size+1) (by simp)
 have HS:Hid (∀ old,((w.alloc (.cells (aV id).toArray 30)).alloc (.cells old 27)).setRow (w.heap.size+1) (dV id).toArray=fX id w):=Hd fun old=>Ue (w.alloc (.cells (aV id).toArray 30)) (w.heap.size+1) (by simp) old (dV id).toArray 27
 have HX:=Hd (fv_start id w);have HD:Hid (∀ W,Calls prog 82 #[.agg (dV id).toArray] W fun e w'=>e = .returned (.bool true)∧Below W.heap.size W w'):=Hd fun W=>described_a id W i1 i2
 have HV:=Hd fun W=>archValid_a id W (by omega) i2
 clear i1 i2;go_enter Tryz.func68,Tryz.ntmps68
 go_wp2_with (first|(refine Lm rfl 27 _ rfl w.heap.size 0 rfl (dV id) _ HM.out Tryz.underlying27 rfl (by kernel_rfl) ?_)|(refine Lt rfl 27 _ _ rfl (w.heap.size+1) (dV id).toArray rfl rfl 27 _ (HB.out _) (by kernel_rfl) rfl H1.out ?_;rw [HS.out])|(refine U7 (by kernel_rfl) 27 _ rfl (w.heap.size+1) rfl 27 _ (0,0) _ HX2.out.b2 Tryz.underlying27 rfl (by kernel_rfl) ?_)|(refine Lr rfl 27 _ rfl (w.heap.size+1) rfl 27 _ (0,0) _ HX.out.b2 Tryz.underlying27 rfl (by kernel_rfl) ?_)|(refine U2 (by kernel_rfl) 149 _ rfl (aV id).toArray (by kernel_rfl) ?_)|(go_at_call 82;refine (HD.out _).mono ?_;rintro e w2 ⟨rfl,hb⟩;have HX2:=Hd (fv_next id w _ _ HX.out hb);clear hb;have c21:=fv_21 HX2.out;have c22:=fv_22 HX2.out)|(go_at_call 83;refine (HV.out _).mono ?_;rintro e w3 ⟨rfl,hb⟩;have HX3:=Hd (fv_next id w _ _ HX2.out hb);clear hb c21 c22;have c22:=fun ob=>((HX3.out.b1.alloc ob).cell 22).trans (show (aV id).toArray[22]? =some (.slice none 0 0) from rfl)))
 refine Lu 1 ?_;rw [Rs];go_wp2;go_ret;exact ⟨rfl,HX3.out.be.alloc (by have:=HX3.out.sz;omega) _⟩
end
section
set_option maxRecDepth 100000
set_option maxHeartbeats 2000000
open Go.RowKit
def zV:List Value:=[.int .i64 0,.int .i64 0,.int .i64 0,.int .i64 0,.int .i64 0,.int .i64 0,.int .i64 0,.int .i64 0,.int .i64 0,.int .i64 0,.int .i64 0,.int .i64 0,.int .i64 0,.int .i64 0,.bool false,.int .i64 0,.string ⟨#[]⟩,.string ⟨#[]⟩,.int .i64 0,.int .i64 0,.bool false,.int .i64 0,.slice none 0 0]
theorem zV_one:zV.toArray.all (·.oneCell')=true:=by simp [zV,Value.oneCell']
theorem aV_one (id:Int):(aV id).toArray.all (·.oneCell')=true:=by simp [aV,dV,Value.oneCell']
def stE (v:List Value):Array MapEntry:=#[⟨.int .i64 200,.agg v.toArray,0⟩]
def St (w:World) (b:Nat) (v:List Value):Prop:=w.heap[b]? =some (.map (stE v) 1)
theorem St.lt {w:World} {b:Nat} {v:List Value} (h:St w b v):b<w.heap.size:=by
 rcases Nat.lt_or_ge b w.heap.size with hlt|hge
 ·exact hlt
 ·unfold St at h;rw [Array.getElem?_eq_none hge] at h;cases h
theorem St.below {w w':World} {b B:Nat} {v:List Value} (h:St w b v) (hb:Below B w w') (hB:b<B):St w' b v:=(hb.block b hB).trans h
theorem St.alloc {w:World} {b:Nat} {v:List Value} (h:St w b v) (o:Obj):St (w.alloc o) b v:=(Below.heap_alloc w o b h.lt).trans h
theorem sLook_no (w:World) (b:Nat) (hb:w.heap[b]? =some (.map #[] 0)):
  (Instr.lookup 65 (.map (some b)) (.int .i64 200) true).run prog w = .ok (.tuple #[.agg zV.toArray,.bool false]) w:=by
 have hf:Instr.findNow (.int .i64) (.int .i64 200) (#[]:Array MapEntry).toList 0=some none:=rfl;have hc:(Instr.checkKey true 10000 3 (.int .i64 200)).run prog w = .ok () w:=MapKept.run_checkKey (k:=.int .i64 200) Tryz.underlying3 (by simp [MapKept.IsKey]) _ 9999;unfold zV;simp [Instr.lookup,run_underlying Tryz.underlying65,MapKept.run_getObj_map hb,hc,MapKept.run_findKey Tryz.underlying3 hf]
theorem sLook_gen (w:World) (b:Nat) (es:Array MapEntry) (c:Nat) (key:Int) (v:Value) (i:Nat) (hb:w.heap[b]? =some (.map es c)) (hf:Instr.findNow (.int .i64) (.int .i64 key) es.toList 0=some (some (i,v))):
  (Instr.lookup 65 (.map (some b)) (.int .i64 key) true).run prog w = .ok (.tuple #[v,.bool true]) w:=by
 have hc:(Instr.checkKey es.isEmpty 10000 3 (.int .i64 key)).run prog w = .ok () w:=MapKept.run_checkKey (k:=.int .i64 key) Tryz.underlying3 (by simp [MapKept.IsKey]) _ 9999;simp [Instr.lookup,run_underlying Tryz.underlying65,MapKept.run_getObj_map hb,hc,MapKept.run_findKey Tryz.underlying3 hf]
theorem Kq (w:World) (b:Nat) (v:List Value) (hb:St w b v):
  (Instr.lookup 65 (.map (some b)) (.int .i64 200) true).run prog w = .ok (.tuple #[.agg v.toArray,.bool true]) w:=
 sLook_gen w b (stE v) 1 200 _ 0 hb rfl
def Iy (w:World) (b:Nat) (v:List Value):World:={ w with heap:=w.heap.setIfInBounds b (.map (stE v) 1) }
theorem setSt_st (w:World) (b:Nat) (v:List Value) (h:b<w.heap.size):St (Iy w b v) b v:=by
 unfold St Iy;simp [h]
theorem Fg {a w:World} {B b:Nat} (v:List Value) (h:Below B a w) (hb:B≤b):Below B a (Iy w b v):=
 ⟨h.os,h.tape,h.output,by simpa [Iy] using h.size,fun k hk=>by
  show (w.heap.setIfInBounds b (.map (stE v) 1))[k]? =_;rw [Array.getElem?_setIfInBounds_ne (by omega)];exact h.block k hk⟩
theorem sPut_new (w:World) (b:Nat) (v:List Value) (hb:w.heap[b]? =some (.map #[] 0)):
  (Instr.mapUpdate 65 (.map (some b)) (.int .i64 200) (.agg v.toArray)).run prog w = .ok () (Iy w b v):=by
 have hf:Instr.findNow (.int .i64) (.int .i64 200) (#[]:Array MapEntry).toList 0=some none:=rfl;have hc:(Instr.checkKey false 10000 3 (.int .i64 200)).run prog w = .ok () w:=MapKept.run_checkKey (k:=.int .i64 200) Tryz.underlying3 (by simp [MapKept.IsKey]) false 9999;simp [Instr.mapUpdate,run_underlying Tryz.underlying65,MapKept.run_getObj_map hb,hc,MapKept.run_findKey Tryz.underlying3 hf,MapKept.run_setObj_map _ hb,Result.andThen];rfl
theorem sPut_old (w:World) (b:Nat) (v u:List Value) (hb:St w b u):
  (Instr.mapUpdate 65 (.map (some b)) (.int .i64 200) (.agg v.toArray)).run prog w = .ok () (Iy w b v):=by
 have hf:Instr.findNow (.int .i64) (.int .i64 200) (stE u).toList 0=some (some (0,.agg u.toArray)):=rfl;have hk:(Instr.keyThatStays ((Option.map (fun x=>x.key) (stE u)[0]?).getD (.int .i64 200)) (.int .i64 200)).run prog w = .ok (.int .i64 200) w:=rfl;have hc:(Instr.checkKey false 10000 3 (.int .i64 200)).run prog w = .ok () w:=MapKept.run_checkKey (k:=.int .i64 200) Tryz.underlying3 (by simp [MapKept.IsKey]) false 9999;simp [Instr.mapUpdate,run_underlying Tryz.underlying65,MapKept.run_getObj_map hb,hc,MapKept.run_findKey Tryz.underlying3 hf,MapKept.run_setObj_map _ hb,hk,Result.andThen];rfl
def bX (w:World):World:=(w.alloc (.map #[] 0)).alloc (.cells (aV 200).toArray 30)
def bY (w:World):World:=(bX w).alloc (.cells zV.toArray 30)
structure BV (w W:World):Prop where
 b1:W.heap[w.heap.size]? =some (.map #[] 0)
 b2:Blk W (w.heap.size+1) 30 (aV 200).toArray
 sz:w.heap.size+3≤W.heap.size
 be:Below w.heap.size w W
theorem It (w:World):(bX w).heap.size=w.heap.size+2:=by simp [bX]
theorem bX_map (w:World):(bX w).heap[w.heap.size]? =some (.map #[] 0):=by
 unfold bX;rw [Below.heap_alloc _ _ _ (by simp)];exact heap_alloc_new w _
theorem bX_blk (w:World):Blk (bX w) (w.heap.size+1) 30 (aV 200).toArray:=U3 _ _ _ _ (by simp)
theorem bY_bv (w:World):BV w (bY w):=
 ⟨by unfold bY;rw [Below.heap_alloc _ _ _ (by rw [It];omega)];exact bX_map w,(bX_blk w).alloc _,by simp [bY,It],
  (((Bf w.heap.size w).alloc (Le _) _).alloc (by simp) _).alloc (by show _≤(bX w).heap.size;rw [It];omega) _⟩
theorem bv_next (w W W':World) (h:BV w W) (hb:Below W.heap.size W W'):BV w W':=
 ⟨(hb.block _ (by have:=h.sz;omega)).trans h.b1,h.b2.below hb (by have:=h.sz;omega),Lx h.sz hb.size,U0 h.be hb (by have:=h.sz;omega)⟩
def BegP (w:World) (e:Ending) (w':World):Prop:=e = .returned (.tuple #[.map (some w.heap.size),.bool true])∧St w' w.heap.size (aV 200)∧Below w.heap.size w w'
theorem bv_end (w W:World) (h:BV w W):St (Iy W w.heap.size (aV 200)) w.heap.size (aV 200)∧Below w.heap.size w (Iy W w.heap.size (aV 200)):=
 ⟨setSt_st _ _ _ (by have:=h.sz;omega),Fg _ h.be (Le _)⟩
theorem begin_a (g:Nat) (w:World) (hg:g<w.heap.size) (hr:w.rangeAt g 0 (aV 200)):Calls prog 47 #[.slice (some ⟨g,0,none⟩) 1 1] w (BegP w):=by
 have HM:=Hd (show (w.alloc (.map #[] 0)).rangeAt g 0 (aV 200) from fun j v hv=>(World.cell?_alloc_lt w _ _ hg).trans (hr j v hv));clear hr hg;have HA:=Hd (aV_one 200);have HZ:=Hd zV_one;have HB1:=Hd fun old=>U3 (w.alloc (.map #[] 0)) 30 old (w.heap.size+1) (by simp)
 have HS1:Hid (∀ old,((w.alloc (.map #[] 0)).alloc (.cells old 30)).setRow (w.heap.size+1) (aV 200).toArray=bX w):=Hd fun old=>Ue (w.alloc (.map #[] 0)) (w.heap.size+1) (by simp) old (aV 200).toArray 30
 have HB2:=Hd fun old=>U3 (bX w) 30 old (w.heap.size+2) (by simp [It])
 have HS2:Hid (∀ old,((bX w).alloc (.cells old 30)).setRow (w.heap.size+2) zV.toArray=bY w):=Hd fun old=>Ue (bX w) (w.heap.size+2) (by simp [It]) old zV.toArray 30
 have HY:=Hd (bY_bv w);have HV:=Hd fun W=>fwdValid_a 200 W (by decide) (by decide)
 have HE:=Hd fun W=>bv_end w W
 have hz:=It w;have c0:(bX w).cell? ⟨w.heap.size+1,0,none⟩=some (.int .i64 200):=((bX_blk w).cell 0).trans rfl;have hl:=sLook_no (bX w) w.heap.size (bX_map w);have hmm:=@run_makeMap prog;go_enter Tryz.func47,Tryz.ntmps47;go_wp2;refine Lu 2 ?_;rw [Rs]
 go_wp2_with (first|(refine Lm rfl 30 _ rfl g 0 rfl (aV 200) _ HM.out Tryz.underlying30 rfl (by kernel_rfl) ?_)|(refine Lt rfl 30 _ _ rfl (w.heap.size+1) (aV 200).toArray rfl rfl 30 _ (HB1.out _) (by kernel_rfl) rfl HA.out ?_;rw [HS1.out])|(refine Lt rfl 30 _ _ rfl (w.heap.size+2) zV.toArray rfl rfl 30 _ (HB2.out _) (by kernel_rfl) rfl HZ.out ?_;rw [HS2.out])|(refine U7 (by kernel_rfl) 30 _ rfl (w.heap.size+1) rfl 30 _ (0,0) _ HY.out.b2 Tryz.underlying30 rfl (by kernel_rfl) ?_)|(go_at_call 68;refine (HV.out _).mono ?_;rintro e w2 ⟨rfl,hb⟩;have HX2:=Hd (bv_next w _ _ HY.out hb);clear hb c0 hl hz;have c0:w2.cell? ⟨w.heap.size+1,0,none⟩=some (.int .i64 200):=(HX2.out.b2.cell 0).trans rfl;have hp:=sPut_new w2 w.heap.size (aV 200) HX2.out.b1)|(refine Lr rfl 30 _ rfl (w.heap.size+1) rfl 30 _ (0,0) _ HX2.out.b2 Tryz.underlying30 rfl (by kernel_rfl) ?_))
 rw [Rs];go_wp2
 go_ret2
 obtain ⟨f1,f2⟩:=HE.out _ HX2.out;exact ⟨rfl,f1,f2⟩
end
section
set_option maxRecDepth 100000
set_option maxHeartbeats 2000000
open Go.RowKit
theorem Xe:(prog.info? 76).map (fun i=>(i.zero,i.size,i.bytes))=some (some (.agg #[.string ⟨#[]⟩,.string ⟨#[]⟩]),2,32):=by kernel_rfl
theorem Ee (w:World):Calls prog 24 #[.slice none 0 0] w fun e w'=>e = .returned (.slice none 0 0)∧w=w':=by
 have qq:∀ (w:World) (a:Option Addr) (n c n' c':Nat),(binOp .eql 28 (.slice a n c) (.slice none n' c')).run prog w = .ok (.bool a.isNone) w:=fun w a n c n' c'=>Lib.run_eql_slice_nil w _ _ a n c n' c' Tryz.underlying28
 go_enter Tryz.func24,Tryz.ntmps24;go_wp2;go_ret;exact ⟨rfl,rfl⟩
theorem Fs (f:Value) (w:World):Calls prog 138 #[.slice none 0 0,f] w fun e w'=>e = .returned (.int .i64 (-1))∧w=w':=by
 go_enter Tryz.func138,Tryz.ntmps138;go_wp2;refine Lu 1 ?_;rw [Rs];go_wp2;go_ret;exact ⟨rfl,rfl⟩
theorem find_nil (k:ByteArray) (w:World):Calls prog 158 #[.slice none 0 0,.string k] w fun e w'=>e = .returned (.tuple #[.int .i64 0,.bool false])∧Below w.heap.size w w':=by
 go_enter Tryz.func158,Tryz.ntmps158;go_wp2_with (go_at_call 138;refine (Fs _ _).mono ?_;rintro e w' ⟨rfl,rfl⟩)
 go_ret2
 exact ⟨rfl,(Bf _ _).alloc (Le _) _⟩
theorem direct_a (id:Int) (w:World):Calls prog 157 #[.agg (dV id).toArray] w fun e w'=>e = .returned (.bool true)∧Below w.heap.size w w':=by
 have c1:(w.alloc (.cells (dV id).toArray 27)).cell? ⟨w.heap.size,1,none⟩=some (.int .i64 3):=((Blk.new w 27 (dV id).toArray).cell 1).trans rfl;go_enter Tryz.func157,Tryz.ntmps157;go_wp2;go_ret;exact ⟨rfl,(Bf _ _).alloc (Le _) _⟩
structure DV (id:Int) (w W:World):Prop where
 b1:Blk W w.heap.size 27 (dV id).toArray
 sz:w.heap.size+1≤W.heap.size
 be:Below w.heap.size w W
theorem dv_start (id:Int) (w:World):DV id w (w.alloc (.cells (dV id).toArray 27)):=⟨Blk.new w _ _,by simp,(Bf _ _).alloc (Le _) _⟩
theorem dv_next (id:Int) (w W W':World) (h:DV id w W) (hb:Below W.heap.size W W'):DV id w W':=
 ⟨h.b1.below hb (by have:=h.sz;omega),Lx h.sz hb.size,U0 h.be hb (by have:=h.sz;omega)⟩
theorem Gg {id:Int} {w W:World} (h:DV id w W) (i:Nat):W.cell? ⟨w.heap.size,i,none⟩=(dV id)[i]?:=by
 rw [h.b1.cell,Ga]
theorem keyOf_a (w:World):Calls prog 116 #[.agg (dV 200).toArray,.string ⟨#[107,49]⟩] w fun e w'=>e = .returned (.tuple #[.string ⟨#[107]⟩,.int .i64 0])∧Below w.heap.size w w':=by
 have HB:=Hd (Blk.new w 27 (dV 200).toArray);have HX:=Hd (dv_start 200 w);have HV:Hid (∀ W,Calls prog 109 #[.agg (dV 200).toArray] W fun e w'=>e = .returned (.bool true)∧Below W.heap.size W w'):=Hd fun W=>keyValid_a 200 W
 have s1:∀ W:World,(Instr.slice 9 (.string ⟨#[107,49]⟩) (some (.int .i64 0)) none none).run prog W = .ok (.string ⟨#[107,49]⟩) W:=fun W=>by kernel_rfl
 have s2:∀ W:World,(Instr.slice 9 (.string ⟨#[107,49]⟩) none (some (.int .i64 1)) none).run prog W = .ok (.string ⟨#[107]⟩) W:=fun W=>by kernel_rfl
 go_enter Tryz.func116,Tryz.ntmps116;go_wp2_with (first|(refine Lr rfl 27 _ rfl w.heap.size rfl 27 _ (0,0) _ HB.out Tryz.underlying27 rfl (by kernel_rfl) ?_)|(go_at_call 109;refine (HV.out _).mono ?_;rintro e w2 ⟨rfl,hb⟩;have HX2:=Hd (dv_next 200 w _ _ HX.out hb);clear hb;have c1:=(Gg HX2.out 1).trans (show (dV 200)[1]? =some (.int .i64 3) from rfl);have c3:=(Gg HX2.out 3).trans (show (dV 200)[3]? =some (.int .i64 8) from rfl);have c5:=(Gg HX2.out 5).trans (show (dV 200)[5]? =some (.int .i64 0) from rfl);have c6:=(Gg HX2.out 6).trans (show (dV 200)[6]? =some (.int .i64 1) from rfl))|(go_at_call 119;refine (within_yes _ _ _ (by decide) (by decide) _).mono ?_;rintro e w' ⟨rfl,rfl⟩))
 go_quiet (fail)
 go_wp2
 go_ret2
 exact ⟨rfl,Ud HX2.out.be _⟩
end
end Go.Proofs.YtapanepkfbamhaaGreatDoor
