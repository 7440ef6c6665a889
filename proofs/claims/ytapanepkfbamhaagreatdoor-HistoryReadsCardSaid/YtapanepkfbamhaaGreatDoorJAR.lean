/- Part of the proof of HistoryReads. -/
import Derived.Test.YtapanepkfbamhaaGreatDoorJAQ
import Derived.StillTailTactics
namespace Go.Proofs.YtapanepkfbamhaaGreatDoor
open Tryz (prog)
section
set_option maxRecDepth 100000
set_option maxHeartbeats 2000000
open Go.RowKit
structure Pt (W:World) (p:Nat) (r:ByteArray) (bg dn:Bool):Prop where
 r0:Blk W p 9 #[.string r]
 r1:Blk W (p+1) 4 #[.bool bg]
 r2:Blk W (p+2) 4 #[.bool dn]
def sgC (a b:Bool) (s:ByteArray):List Value:=[.bool a,.bool b,.string s]
theorem setRow_far {S:List Nat} {w W:World} {g:Nat} (h:Far S w W) (hg:w.heap.size≤g) (cs:Array Value):Far S w (W.setRow g cs):=
 ⟨h.os,h.tape,h.output,by simpa using h.size,fun k hk hn=>(setRow_other W g k cs (by omega)).trans (h.block k hk hn)⟩
theorem E6 (W:World) (b:Nat) (cs:Array Value) (h:Blk W b 339 cs) (hs:cs.size=3):(loadVar 339 ⟨b,0,none⟩).run prog W = .ok (.agg cs) W:=
 run_loadVar_row W b 339 339 cs (0,0) _ h Tryz.underlying339 rfl (by rw [hs];kernel_rfl)
theorem next_done (p:Nat) (r:ByteArray) (bg:Bool) (room:Int) (w:World) (hp:Pt w p r bg true):
  Calls prog 301 #[.int .i64 room,.pointer (some ⟨p+2,0,none⟩),.pointer (some ⟨p,0,none⟩),.pointer (some ⟨p+1,0,none⟩)] w fun e w'=>e = .returned (.tuple #[.agg (sgC false false ⟨#[]⟩).toArray,.bool false])∧Below w.heap.size w w':=by
 have c2:∀ o,(w.alloc o).cell? ⟨p+2,0,none⟩=some (.bool true):=fun o=>((hp.r2.alloc o).cell 0).trans rfl
 have HB:=Hd fun old=>Blk.new w 339 old
 have HS:=Hd fun old=>U1 w old #[.bool false,.bool false,.string ⟨#[]⟩] 339
 have HX:Hid (∀ o,Below w.heap.size w (w.alloc o)):=Hd fun o=>(Bf _ _).alloc (Le _) _
 have HK:=Hd (Blk.new w 339 #[.bool false,.bool false,.string ⟨#[]⟩]);clear hp;go_enter Tryz.func301,Tryz.ntmps301;go_wp2;have hr:=E6 _ w.heap.size #[.bool false,.bool false,.string ⟨#[]⟩] HK.out rfl;exact Br (v:=.tuple #[.agg #[.bool false,.bool false,.string ⟨#[]⟩],.bool false]) (U5 Tryz.results301 rfl rfl hr) rfl ⟨rfl,HX.out _⟩
structure NX (p:Nat) (r:ByteArray) (bg:Bool) (x:ByteArray) (af:Bool) (w W:World):Prop where
 pt:Pt W p r bg false
 bz:Blk W w.heap.size 339 #[.bool false,.bool false,.string ⟨#[]⟩]
 bs:Blk W (w.heap.size+1) 339 #[.bool bg,.bool af,.string x]
 be:Below w.heap.size w W
 lt:p+2<w.heap.size
theorem nx_mk {p:Nat} {r:ByteArray} {bg:Bool} {x:ByteArray} {af:Bool} {w:World} (hp:Pt w p r bg false):NX p r bg x af w ((w.alloc (.cells #[.bool false,.bool false,.string ⟨#[]⟩] 339)).alloc (.cells #[.bool bg,.bool af,.string x] 339)).drew:=
 ⟨⟨(hp.r0.alloc _).alloc _,(hp.r1.alloc _).alloc _,(hp.r2.alloc _).alloc _⟩,(Blk.new w _ _).alloc _,U3 (w.alloc _) _ _ _ (by simp),(((Bf _ _).alloc (Le _) _).alloc (by simp) _).drew,hp.r2.lt⟩
structure NY (p:Nat) (bg:Bool) (x:ByteArray) (af:Bool) (r2:ByteArray) (dn:Bool) (w W:World):Prop where
 pt:Pt W p r2 true dn
 bz:Blk W w.heap.size 339 #[.bool false,.bool false,.string ⟨#[]⟩]
 bs:Blk W (w.heap.size+1) 339 #[.bool bg,.bool af,.string x]
 fa:Far [p,p+1,p+2] w W
 lt:p+2<w.heap.size
theorem ny_mk {p:Nat} {r:ByteArray} {bg:Bool} {x:ByteArray} {af:Bool} {w W:World} (h:NX p r bg x af w W) (r2:ByteArray) (dn:Bool):
  NY p bg x af r2 dn w (((W.setCell ⟨p,0,none⟩ (.string r2)).setCell ⟨p+1,0,none⟩ (.bool true)).setCell ⟨p+2,0,none⟩ (.bool dn)).drew:=by
 have hl:=h.lt
 refine ⟨⟨(((h.pt.r0.set 0 _).far (by simp) _).far (by simp) _).drew,(((h.pt.r1.far (by simp) _).set 0 _).far (by simp) _).drew,(((h.pt.r2.far (by simp) _).far (by simp) _).set 0 _).drew⟩,
  ((((h.bz.far (by simp;omega) _).far (by simp;omega) _).far (by simp;omega) _)).drew,((((h.bs.far (by simp;omega) _).far (by simp;omega) _).far (by simp;omega) _)).drew,?_,hl⟩
 exact (((((Far.of_below h.be).set _ _ _ (.inl (by simp))).set _ _ _ (.inl (by simp))).set _ _ _ (.inl (by simp))).drewN 1)
def NextG (p:Nat) (r:ByteArray) (room:Int) (w:World) (e:Ending) (w':World):Prop:=∃ a b x r2 dn,e = .returned (.tuple #[.agg (sgC a b x).toArray,.bool true])∧(x.size:Int)≤room∧x.size≤r.size∧r2.size≤r.size∧(dn=false→r2.size<r.size)∧Pt w' p r2 true dn∧Far [p,p+1,p+2] w w'
theorem ny_end {p:Nat} {bg:Bool} {x:ByteArray} {af:Bool} {r2:ByteArray} {dn:Bool} {w W:World} {r:ByteArray} {room:Int} (h:NY p bg x af r2 dn w W) (h1:(x.size:Int)≤room) (h2:x.size≤r.size) (h3:r2.size≤r.size) (h4:dn=false→r2.size<r.size):
  NextG p r room w (.returned (.tuple #[.agg #[.bool bg,.bool af,.string x],.bool true])) (W.setRow w.heap.size #[.bool bg,.bool af,.string x]):=by
 have hl:=h.lt;refine ⟨bg,af,x,r2,dn,rfl,h1,h2,h3,h4,⟨?_,?_,?_⟩,setRow_far h.fa (Le _) _⟩
 ·exact (setRow_other W _ _ _ (by omega)).trans h.pt.r0
 ·exact (setRow_other W _ _ _ (by omega)).trans h.pt.r1
 ·exact (setRow_other W _ _ _ (by omega)).trans h.pt.r2
theorem next_a (p:Nat) (n:Nat) (r:ByteArray) (bg:Bool) (w:World) (hp:Pt w p r bg false) (h1:1≤n) (hn:n<r.size) (_:r.size≤2000):
  Calls prog 301 #[.int .i64 n,.pointer (some ⟨p+2,0,none⟩),.pointer (some ⟨p,0,none⟩),.pointer (some ⟨p+1,0,none⟩)] w (NextG p r n w):=by
 have c0:∀ o,(w.alloc o).cell? ⟨p,0,none⟩=some (.string r):=fun o=>((hp.r0.alloc o).cell 0).trans rfl
 have c1:∀ o,(w.alloc o).cell? ⟨p+1,0,none⟩=some (.bool bg):=fun o=>((hp.r1.alloc o).cell 0).trans rfl
 have c2:∀ o,(w.alloc o).cell? ⟨p+2,0,none⟩=some (.bool false):=fun o=>((hp.r2.alloc o).cell 0).trans rfl
 have m1:(n:Int)≤(r.size:Int):=by omega
 have m2:(n:Int)<(r.size:Int):=by omega
 have m3:n≤r.size:=by omega
 have m4:decide ((n:Int)<(r.size:Int))=true:=by simpa using m2
 have m5:((n:Int) == (r.size:Int))=false:=by simp;omega
 go_enter Tryz.func301,Tryz.ntmps301;go_wp2
 go_region_held3 (fun w'=>w'.cell? ⟨p,0,none⟩=some (.string r)∧w'.cell? ⟨p+1,0,none⟩=some (.bool bg)) (first|go_keep|exact ⟨c0 _,c1 _⟩) (fail)
 have HW:Hid (NX p r bg (r.extract 0 n) true w ((w.alloc (.cells #[.bool false,.bool false,.string ⟨#[]⟩] 339)).alloc (.cells #[.bool bg,.bool true,.string (r.extract 0 n)] 339)).drew):=Hd (nx_mk hp);generalize ((w.alloc (.cells #[.bool false,.bool false,.string ⟨#[]⟩] 339)).alloc (.cells #[.bool bg,.bool true,.string (r.extract 0 n)] 339)).drew=W5 at HW ⊢;clear c0 c1 c2 hp;obtain ⟨k0,k1,k2⟩:=HW.out.pt;have x0:W5.cell? ⟨p,0,none⟩=some (.string r):=(k0.cell 0).trans rfl;have y0:W5.frozen? ⟨p,0,none⟩=false:=k0.free 0;have x1:W5.cell? ⟨p+1,0,none⟩=some (.bool bg):=(k1.cell 0).trans rfl;have y1:W5.frozen? ⟨p+1,0,none⟩=false:=k1.free 0;have x2:W5.cell? ⟨p+2,0,none⟩=some (.bool false):=(k2.cell 0).trans rfl;have y2:W5.frozen? ⟨p+2,0,none⟩=false:=k2.free 0;clear k0 k1 k2;go_wp2_with fail
 go_region_law (fail)
 all_goals
  have HY:Hid (NY p bg (r.extract 0 n) true (r.extract n r.size) false w (((W5.setCell ⟨p,0,none⟩ (.string (r.extract n r.size))).setCell ⟨p+1,0,none⟩ (.bool true)).setCell ⟨p+2,0,none⟩ (.bool false)).drew):=Hd (ny_mk HW.out _ _);generalize (((W5.setCell ⟨p,0,none⟩ (.string (r.extract n r.size))).setCell ⟨p+1,0,none⟩ (.bool true)).setCell ⟨p+2,0,none⟩ (.bool false)).drew=W6 at HY ⊢;go_wp2_with (first|((with_reducible refine Gl 339 8 ?_);refine Lr rfl 339 _ rfl (w.heap.size+1) rfl 339 #[.bool bg,.bool true,.string (r.extract 0 n)] (0,0) _ HY.out.bs Tryz.underlying339 rfl (by kernel_rfl) ?_)|((with_reducible refine Gt 339 5 ?_);refine Lt rfl 339 _ _ rfl w.heap.size #[.bool bg,.bool true,.string (r.extract 0 n)] rfl rfl 339 #[.bool false,.bool false,.string ⟨#[]⟩] HY.out.bz (by kernel_rfl) rfl (by simp [Value.oneCell']) ?_))
  have hrr:=E6 (W6.setRow w.heap.size #[.bool bg,.bool true,.string (r.extract 0 n)]) w.heap.size #[.bool bg,.bool true,.string (r.extract 0 n)] (setRow_heap _ _ _ _ _ _ HY.out.bz) rfl;exact Br (v:=.tuple #[.agg #[.bool bg,.bool true,.string (r.extract 0 n)],.bool true]) (U5 Tryz.results301 rfl rfl hrr) rfl (ny_end HY.out (by simp;omega) (by simp;omega) (by simp) (fun _=>by simp;omega))
theorem next_b (p:Nat) (r:ByteArray) (bg:Bool) (w:World) (hp:Pt w p r bg false)  (_:r.size≤2000):
  Calls prog 301 #[.int .i64 r.size,.pointer (some ⟨p+2,0,none⟩),.pointer (some ⟨p,0,none⟩),.pointer (some ⟨p+1,0,none⟩)] w (NextG p r r.size w):=by
 have c0:∀ o,(w.alloc o).cell? ⟨p,0,none⟩=some (.string r):=fun o=>((hp.r0.alloc o).cell 0).trans rfl
 have c1:∀ o,(w.alloc o).cell? ⟨p+1,0,none⟩=some (.bool bg):=fun o=>((hp.r1.alloc o).cell 0).trans rfl
 have c2:∀ o,(w.alloc o).cell? ⟨p+2,0,none⟩=some (.bool false):=fun o=>((hp.r2.alloc o).cell 0).trans rfl
 have e1:r.extract 0 r.size=r:=I8 r;go_enter Tryz.func301,Tryz.ntmps301;go_wp2
 go_region_held3 (fun w'=>w'.cell? ⟨p,0,none⟩=some (.string r)∧w'.cell? ⟨p+1,0,none⟩=some (.bool bg)) (first|go_keep|exact ⟨c0 _,c1 _⟩) (fail)
 have HW:Hid (NX p r bg (r) false w ((w.alloc (.cells #[.bool false,.bool false,.string ⟨#[]⟩] 339)).alloc (.cells #[.bool bg,.bool false,.string (r)] 339)).drew):=Hd (nx_mk hp);generalize ((w.alloc (.cells #[.bool false,.bool false,.string ⟨#[]⟩] 339)).alloc (.cells #[.bool bg,.bool false,.string (r)] 339)).drew=W5 at HW ⊢;clear c0 c1 c2 hp;obtain ⟨k0,k1,k2⟩:=HW.out.pt;have x0:W5.cell? ⟨p,0,none⟩=some (.string r):=(k0.cell 0).trans rfl;have y0:W5.frozen? ⟨p,0,none⟩=false:=k0.free 0;have x1:W5.cell? ⟨p+1,0,none⟩=some (.bool bg):=(k1.cell 0).trans rfl;have y1:W5.frozen? ⟨p+1,0,none⟩=false:=k1.free 0;have x2:W5.cell? ⟨p+2,0,none⟩=some (.bool false):=(k2.cell 0).trans rfl;have y2:W5.frozen? ⟨p+2,0,none⟩=false:=k2.free 0;clear k0 k1 k2;go_wp2_with fail
 go_region_law (fail)
 all_goals
  have HY:Hid (NY p bg (r) false ByteArray.empty true w (((W5.setCell ⟨p,0,none⟩ (.string ByteArray.empty)).setCell ⟨p+1,0,none⟩ (.bool true)).setCell ⟨p+2,0,none⟩ (.bool true)).drew):=Hd (ny_mk HW.out _ _);generalize (((W5.setCell ⟨p,0,none⟩ (.string ByteArray.empty)).setCell ⟨p+1,0,none⟩ (.bool true)).setCell ⟨p+2,0,none⟩ (.bool true)).drew=W6 at HY ⊢;go_wp2_with (first|((with_reducible refine Gl 339 8 ?_);refine Lr rfl 339 _ rfl (w.heap.size+1) rfl 339 #[.bool bg,.bool false,.string (r)] (0,0) _ HY.out.bs Tryz.underlying339 rfl (by kernel_rfl) ?_)|((with_reducible refine Gt 339 5 ?_);refine Lt rfl 339 _ _ rfl w.heap.size #[.bool bg,.bool false,.string (r)] rfl rfl 339 #[.bool false,.bool false,.string ⟨#[]⟩] HY.out.bz (by kernel_rfl) rfl (by simp [Value.oneCell']) ?_))
  have hrr:=E6 (W6.setRow w.heap.size #[.bool bg,.bool false,.string (r)]) w.heap.size #[.bool bg,.bool false,.string (r)] (setRow_heap _ _ _ _ _ _ HY.out.bz) rfl;exact Br (v:=.tuple #[.agg #[.bool bg,.bool false,.string (r)],.bool true]) (U5 Tryz.results301 rfl rfl hrr) rfl (ny_end HY.out (Int.le_refl _) (Le _) (Z0 _) (fun h=>by cases h))
theorem next_c (p:Nat) (room:Int) (r:ByteArray) (bg:Bool) (w:World) (hp:Pt w p r bg false) (hn:(r.size:Int)<room) (_:r.size≤2000):
  Calls prog 301 #[.int .i64 room,.pointer (some ⟨p+2,0,none⟩),.pointer (some ⟨p,0,none⟩),.pointer (some ⟨p+1,0,none⟩)] w (NextG p r room w):=by
 have c0:∀ o,(w.alloc o).cell? ⟨p,0,none⟩=some (.string r):=fun o=>((hp.r0.alloc o).cell 0).trans rfl
 have c1:∀ o,(w.alloc o).cell? ⟨p+1,0,none⟩=some (.bool bg):=fun o=>((hp.r1.alloc o).cell 0).trans rfl
 have c2:∀ o,(w.alloc o).cell? ⟨p+2,0,none⟩=some (.bool false):=fun o=>((hp.r2.alloc o).cell 0).trans rfl
 have m1:¬ (room≤(r.size:Int)):=by omega
 have m2:¬ (room<(r.size:Int)):=by omega
 have e1:r.extract 0 r.size=r:=I8 r;go_enter Tryz.func301,Tryz.ntmps301;go_wp2
 go_region_held3 (fun w'=>w'.cell? ⟨p,0,none⟩=some (.string r)∧w'.cell? ⟨p+1,0,none⟩=some (.bool bg)) (first|go_keep|exact ⟨c0 _,c1 _⟩) (fail)
 have HW:Hid (NX p r bg (r) false w ((w.alloc (.cells #[.bool false,.bool false,.string ⟨#[]⟩] 339)).alloc (.cells #[.bool bg,.bool false,.string (r)] 339)).drew):=Hd (nx_mk hp);generalize ((w.alloc (.cells #[.bool false,.bool false,.string ⟨#[]⟩] 339)).alloc (.cells #[.bool bg,.bool false,.string (r)] 339)).drew=W5 at HW ⊢;clear c0 c1 c2 hp;obtain ⟨k0,k1,k2⟩:=HW.out.pt;have x0:W5.cell? ⟨p,0,none⟩=some (.string r):=(k0.cell 0).trans rfl;have y0:W5.frozen? ⟨p,0,none⟩=false:=k0.free 0;have x1:W5.cell? ⟨p+1,0,none⟩=some (.bool bg):=(k1.cell 0).trans rfl;have y1:W5.frozen? ⟨p+1,0,none⟩=false:=k1.free 0;have x2:W5.cell? ⟨p+2,0,none⟩=some (.bool false):=(k2.cell 0).trans rfl;have y2:W5.frozen? ⟨p+2,0,none⟩=false:=k2.free 0;clear k0 k1 k2;go_wp2_with fail
 go_region_law (fail)
 all_goals
  have HY:Hid (NY p bg (r) false ByteArray.empty true w (((W5.setCell ⟨p,0,none⟩ (.string ByteArray.empty)).setCell ⟨p+1,0,none⟩ (.bool true)).setCell ⟨p+2,0,none⟩ (.bool true)).drew):=Hd (ny_mk HW.out _ _);generalize (((W5.setCell ⟨p,0,none⟩ (.string ByteArray.empty)).setCell ⟨p+1,0,none⟩ (.bool true)).setCell ⟨p+2,0,none⟩ (.bool true)).drew=W6 at HY ⊢;go_wp2_with (first|((with_reducible refine Gl 339 8 ?_);refine Lr rfl 339 _ rfl (w.heap.size+1) rfl 339 #[.bool bg,.bool false,.string (r)] (0,0) _ HY.out.bs Tryz.underlying339 rfl (by kernel_rfl) ?_)|((with_reducible refine Gt 339 5 ?_);refine Lt rfl 339 _ _ rfl w.heap.size #[.bool bg,.bool false,.string (r)] rfl rfl 339 #[.bool false,.bool false,.string ⟨#[]⟩] HY.out.bz (by kernel_rfl) rfl (by simp [Value.oneCell']) ?_))
  have hrr:=E6 (W6.setRow w.heap.size #[.bool bg,.bool false,.string (r)]) w.heap.size #[.bool bg,.bool false,.string (r)] (setRow_heap _ _ _ _ _ _ HY.out.bz) rfl;exact Br (v:=.tuple #[.agg #[.bool bg,.bool false,.string (r)],.bool true]) (U5 Tryz.results301 rfl rfl hrr) rfl (ny_end HY.out (by omega) (Le _) (Z0 _) (fun h=>by cases h))
end
section
set_option maxRecDepth 100000
set_option maxHeartbeats 4000000
open Go.RowKit
theorem index_any (a b:Bool) (w:World) (hc:Cod w):Calls prog 302 #[.slice (some ⟨1,0,none⟩) 4 4,.agg #[.bool a,.bool b]] w fun e w'=>(∃ n:Nat,e = .returned (.int .i64 n)∧n<4)∧Below w.heap.size w w':=by
 have hl:=hc.lt;have g0:∀ o,(w.alloc o).cell? ⟨1,0,none⟩=some (.bool false):=fun o=>(World.cell?_alloc_lt w o _ hl).trans (hc 0 _ rfl)
 have g1:∀ o,(w.alloc o).cell? ⟨1,1,none⟩=some (.bool false):=fun o=>(World.cell?_alloc_lt w o _ hl).trans (hc 1 _ rfl)
 have g2:∀ o,(w.alloc o).cell? ⟨1,2,none⟩=some (.bool false):=fun o=>(World.cell?_alloc_lt w o _ hl).trans (hc 2 _ rfl)
 have g3:∀ o,(w.alloc o).cell? ⟨1,3,none⟩=some (.bool true):=fun o=>(World.cell?_alloc_lt w o _ hl).trans (hc 3 _ rfl)
 have g4:∀ o,(w.alloc o).cell? ⟨1,4,none⟩=some (.bool true):=fun o=>(World.cell?_alloc_lt w o _ hl).trans (hc 4 _ rfl)
 have g5:∀ o,(w.alloc o).cell? ⟨1,5,none⟩=some (.bool false):=fun o=>(World.cell?_alloc_lt w o _ hl).trans (hc 5 _ rfl)
 have g6:∀ o,(w.alloc o).cell? ⟨1,6,none⟩=some (.bool true):=fun o=>(World.cell?_alloc_lt w o _ hl).trans (hc 6 _ rfl)
 have g7:∀ o,(w.alloc o).cell? ⟨1,7,none⟩=some (.bool true):=fun o=>(World.cell?_alloc_lt w o _ hl).trans (hc 7 _ rfl)
 have HX:=Hd fun o=>(Bf w.heap.size w).alloc (Le _) o
 have e0:(w.alloc (.cells #[.bool a,.bool b] 342)).cell? ⟨w.heap.size,0,none⟩=some (.bool a):=((Blk.new w _ _).cell 0).trans rfl;have e1:(w.alloc (.cells #[.bool a,.bool b] 342)).cell? ⟨w.heap.size,1,none⟩=some (.bool b):=((Blk.new w _ _).cell 1).trans rfl;have qq:∀ (a b c d:Bool) (W:World),(binOp .eql 342 (.agg #[.bool a,.bool b]) (.agg #[.bool c,.bool d])).run prog W = .ok (.bool (a == c&&b == d)) W:=fun a b c d W=>by cases a<;>cases b<;>cases c<;>cases d<;>kernel_rfl
 clear hc hl;cases a<;>cases b
 ·go_enter Tryz.func302,Tryz.ntmps302
  go_wp2;refine Lu 5 ?_;rw [Rs];go_wp2_with fail
  go_quiet (fail)
  go_wp2;go_ret;exact ⟨⟨0,rfl,by decide⟩,by first|exact Ud (HX.out _) _|exact Ud (Ud (HX.out _) _) _⟩
 ·go_enter Tryz.func302,Tryz.ntmps302
  go_wp2;refine Lu 5 ?_;rw [Rs];go_wp2_with fail
  go_quiet (fail)
  go_wp2;rw [Rs];go_wp2_with fail
  go_quiet (fail)
  go_wp2;go_ret;exact ⟨⟨1,rfl,by decide⟩,by first|exact Ud (HX.out _) _|exact Ud (Ud (HX.out _) _) _⟩
 ·go_enter Tryz.func302,Tryz.ntmps302
  go_wp2;refine Lu 5 ?_;rw [Rs];go_wp2_with fail
  go_quiet (fail)
  go_wp2;rw [Rs];go_wp2_with fail
  go_quiet (fail)
  go_wp2;rw [Rs];go_wp2_with fail
  go_quiet (fail)
  go_wp2;go_ret;exact ⟨⟨2,rfl,by decide⟩,by first|exact Ud (HX.out _) _|exact Ud (Ud (HX.out _) _) _⟩
 ·go_enter Tryz.func302,Tryz.ntmps302
  go_wp2;refine Lu 5 ?_;rw [Rs];go_wp2_with fail
  go_quiet (fail)
  go_wp2;rw [Rs];go_wp2_with fail
  go_quiet (fail)
  go_wp2;rw [Rs];go_wp2_with fail
  go_quiet (fail)
  go_wp2;rw [Rs];go_wp2_with fail
  go_quiet (fail)
  go_wp2;go_ret;exact ⟨⟨3,rfl,by decide⟩,by first|exact Ud (HX.out _) _|exact Ud (Ud (HX.out _) _) _⟩
theorem bytes4 (W:World) (a b c:Int):(convert 175 9 (.slice (some ⟨W.heap.size,0,none⟩) 4 4)).run prog (W.alloc (.cells #[.int .u8 a,.int .u8 b,.int .u8 c,.int .u8 0] 5)) = .ok (.string (strOfNums [a,b,c,0])) (W.alloc (.cells #[.int .u8 a,.int .u8 b,.int .u8 c,.int .u8 0] 5)):=
 Eg _ W.heap.size 4 4 5 [a,b,c,0] (Blk.new W _ _) rfl
theorem sform_any (a b:Bool) (x:ByteArray) (w:World) (hc:Cod w) (hx:x.size≤2000):Calls prog 281 #[.agg (sgC a b x).toArray] w fun e w' => ∃ s:ByteArray,e = .returned (.string s)∧s.size=4+x.size∧Below w.heap.size w w':=by
 have c0:(w.alloc (.cells (sgC a b x).toArray 339)).cell? ⟨w.heap.size,0,none⟩=some (.bool a):=((Blk.new w _ _).cell 0).trans rfl;have c1:(w.alloc (.cells (sgC a b x).toArray 339)).cell? ⟨w.heap.size,1,none⟩=some (.bool b):=((Blk.new w _ _).cell 1).trans rfl;have HX:=Hd (((Bf w.heap.size w).alloc (Le _) (.cells (sgC a b x).toArray 339)));have HB:=Hd (Blk.new w 339 (sgC a b x).toArray);have HI:Hid (∀ W,Below w.heap.size w W→Calls prog 302 #[.slice (some ⟨1,0,none⟩) 4 4,.agg #[.bool a,.bool b]] W fun e w'=>(∃ n:Nat,e = .returned (.int .i64 n)∧n<4)∧Below W.heap.size W w'):=Hd fun W hb=>index_any a b W (hc.after hb)
 have hcv:=fun W a b c=>bytes4 W a b c
 have hsz:∀ a b c:Int,¬ (9223372036854775807<(strOfNums [a,b,c,0]).size+x.size):=fun a b c=>by rw [strOfNums_size];simp;omega
 have HSZ:Hid (∀ a b c:Int,(strOfNums [a,b,c,0]).size=4):=Hd fun a b c=>by rw [strOfNums_size];rfl
 clear hc;go_enter Tryz.func281,Tryz.ntmps281;go_wp2
 go_region_held3 (fun w'=>w'.cell? ⟨w.heap.size,0,none⟩=some (.bool a)∧w'.cell? ⟨w.heap.size,1,none⟩=some (.bool b)) (first|go_keep|exact ⟨k0,k1⟩) ((go_at_call 302;refine (HI.out _ HX.out.drew).mono ?_;rintro e w3 ⟨⟨n,rfl,hn⟩,hb3⟩;have HX3:=Hd (U0 HX.out.drew hb3 (by simp [World.drew]));have HB3:=Hd (HB.out.drew.below hb3 HB.out.lt);have k0:=(HB3.out.cell 0).trans (show _=some (Value.bool a) from rfl);have k1:=(HB3.out.cell 1).trans (show _=some (Value.bool b) from rfl);clear hb3))
 have k2:w3.cell? ⟨w.heap.size,2,none⟩=some (.string x):=(HB3.out.cell 2).trans rfl;have k3:∀ o,(w3.alloc o).cell? ⟨w.heap.size,2,none⟩=some (.string x):=fun o=>((HB3.out.alloc o).cell 2).trans rfl
 have hw:IntKind.u8.wrap (n:Int)=n:=by
  have:n=0∨n=1∨n=2∨n=3:=by omega
  rcases this with rfl|rfl|rfl|rfl<;>rfl
 rw [hw];clear hw c0 c1 k0 k1;go_wp2;go_ret;exact ⟨_,rfl,by rw [ByteArray.size_append,HSZ.out],HX3.out.alloc HX3.out.size _⟩
def AddG (w:World) (e:Ending) (w':World):Prop:=∃ A n c L,e = .returned (.tuple #[.string ⟨#[]⟩,.slice A n c])∧Sl Ug 1 w' w'.heap.size A n c L∧n≤1100∧(∀ s∈L,s.size≤2000)∧Below w.heap.size w w'
def mPt (p:Nat) (w:World):Nat:=match w.cell? ⟨p+2,0,none⟩ with
 |some (.bool true)=>0
 |_=>match w.cell? ⟨p,0,none⟩ with
  |some (.string s)=>s.size+1
  |_=>0
theorem mPt_done {p:Nat} {w:World} {r:ByteArray} {bg:Bool} (h:Pt w p r bg true):mPt p w=0:=by
 unfold mPt;rw [(h.r2.cell 0).trans (show _=some (Value.bool true) from rfl)]
theorem mPt_go {p:Nat} {w:World} {r:ByteArray} {bg:Bool} (h:Pt w p r bg false):mPt p w=r.size+1:=by
 unfold mPt;rw [(h.r2.cell 0).trans (show _=some (Value.bool false) from rfl),(h.r0.cell 0).trans (show _=some (Value.string r) from rfl)]
theorem Pt.below {w w':World} {p B:Nat} {r:ByteArray} {bg dn:Bool} (h:Pt w p r bg dn) (hb:Below B w w') (hB:p+2<B):Pt w' p r bg dn:=⟨h.r0.below hb (by omega),h.r1.below hb (by omega),h.r2.below hb hB⟩
theorem Pt.grown {w w':World} {p:Nat} {row:Option Nat} {r:ByteArray} {bg dn:Bool} (h:Pt w p r bg dn) (hb:w.grownBy w' row) (hr:∀ g,row=some g→p+2<g):Pt w' p r bg dn:=
 have k:∀ q,q≤p+2→some q≠row:=fun q hq e=>by have:=hr q e.symm;omega
 ⟨h.r0.grown hb (k _ (by omega)),h.r1.grown hb (k _ (by omega)),h.r2.grown hb (k _ (by omega))⟩
theorem own_farS {S:List Nat} {w w':World} {base size n:Nat} {e:TypeId} {v:Value} {xs:List Value} (h:w.ownsRow base e size v n xs) (hf:Far S w w') (hS:∀ k∈S,k<base):w'.ownsRow base e size v n xs:=by
 refine ⟨h.1,h.2.imp id ?_⟩;rintro ⟨g,cap,cur,h1,h2,h3,h4⟩;exact ⟨g,cap,cur,h1,h2,(hf.block g (h.lt g (by rw [h1];rfl)).2 (fun hm=>by have:=hS g hm;omega)).trans h3,h4⟩
theorem next_any (p:Nat) (r:ByteArray) (bg:Bool) (room:Int) (w:World) (hp:Pt w p r bg false) (h1:1≤room) (hr:r.size≤2000):
  Calls prog 301 #[.int .i64 room,.pointer (some ⟨p+2,0,none⟩),.pointer (some ⟨p,0,none⟩),.pointer (some ⟨p+1,0,none⟩)] w (NextG p r room w):=by
 rcases (by omega:(r.size:Int)<room∨room=r.size∨room<(r.size:Int)) with h|h|h
 ·exact next_c p room r bg w hp h hr
 ·subst h
  exact next_b p r bg w hp hr
 ·obtain ⟨n,rfl⟩:∃ n:Nat,room=n:=⟨room.toNat,by omega⟩
  exact next_a p n r bg w hp (by omega) (by omega) hr
structure AP (L:List ByteArray) (A:Option Addr) (c:Nat) (x1 r1 r2 r:ByteArray) (dn2:Bool) (w W:World):Prop where
 pt:Pt W w.heap.size r2 true dn2
 ow:W.ownsRow (w.heap.size+3) 9 1 (.slice A L.length c) L.length (Ua Ug L)
 be:Below w.heap.size w W
 zz:w.heap.size+3≤W.heap.size
 xs:x1.size≤2000
 xb:x1.size≤1016
 rs:r2.size≤r1.size
 dn:dn2=false→r2.size<r1.size
 ln:L.length≤1000
 rr:r1.size≤r.size
 r8:r.size≤1000
theorem ap_mk {L:List ByteArray} {A:Option Addr} {c:Nat} {x1 r1 r2 r:ByteArray} {bg dn2:Bool} {w wx w4:World} {b:Int} (hbe:Below w.heap.size w wx) (hz:w.heap.size+3≤wx.heap.size) (ho:wx.ownsRow (w.heap.size+3) 9 1 (.slice A L.length c) L.length (Ua Ug L)) (_:Pt wx w.heap.size r1 bg false) (hp4:Pt w4 w.heap.size r2 true dn2) (hf:Far [w.heap.size,w.heap.size+1,w.heap.size+2] wx w4)
  (h1:(x1.size:Int)≤b-8) (_:x1.size≤r1.size) (h3:r2.size≤r1.size) (h4:dn2=false→r2.size<r1.size) (hb:b≤1024) (hle:L.length+r1.size≤r.size) (hr:r.size≤1000):AP L A c x1 r1 r2 r dn2 w w4:=
 ⟨hp4,own_farS ho hf (by simp),hbe.trans (hf.below (by simp) hbe.size),Lx hz hf.size,by omega,by omega,h3,h4,by omega,by omega,hr⟩
theorem ap_next {L:List ByteArray} {A:Option Addr} {c:Nat} {x1 r1 r2 r:ByteArray} {dn2:Bool} {w W W':World} (h:AP L A c x1 r1 r2 r dn2 w W) (hb:Below W.heap.size W W'):AP L A c x1 r1 r2 r dn2 w W':=
 have hz:=h.zz
 ⟨h.pt.below hb (by omega),Ui h.ow hb,U0 h.be hb h.be.size,Lx hz hb.size,h.xs,h.xb,h.rs,h.dn,h.ln,h.rr,h.r8⟩
theorem ap_end {L:List ByteArray} {A:Option Addr} {c:Nat} {x1 r1 r2 r s6 s7:ByteArray} {dn2:Bool} {w wx w7 w8:World} {v':Value} {o:Obj} (h:AP L A c x1 r1 r2 r dn2 w w7) (hle:false=false→L.length+r1.size≤r.size) (hsz:∀ s∈L,s.size≤2000) (h6:s6.size=4+x1.size) (h7:s7.size=4+s6.size) (hm:mPt w.heap.size wx=r1.size+1)
  (hown:w8.ownsRow (w.heap.size+3) 9 1 v' (L.length+1) (Ua Ug L++[.string s7])) (hgr:(w7.alloc o).grownBy w8 (Value.slice A L.length c).ownBlock):
  (∃ (r1:ByteArray) (bg dn:Bool) (L:List ByteArray),Pt w8 w.heap.size r1 bg dn∧w8.ownsRow (w.heap.size+3) 9 1 v' L.length (Ua Ug L)∧(dn=false→L.length+r1.size≤r.size)∧L.length+r1.size≤r.size+1∧(∀ s∈L,s.size≤2000)∧r1.size≤r.size∧Below w.heap.size w w8∧w.heap.size+3≤w8.heap.size)∧mPt w.heap.size w8<mPt w.heap.size wx:=by
 have hz:=h.zz;have hle:=hle rfl;have hrow:∀ g,(Value.slice A L.length c).ownBlock=some g→w.heap.size+3≤g:=fun g hg=>(h.ow.lt g hg).1
 have hp:Pt w8 w.heap.size r2 true dn2:=((h.pt.below ((Bf w7.heap.size w7).alloc (Le _) o) (by omega)).grown hgr (fun g hg=>by have:=hrow g hg;omega))
 have hb:Below w.heap.size w w8:=(h.be.alloc h.be.size o).grown hgr (by simp;omega) (fun g hg=>by have:=hrow g hg;omega);have hrs:=h.rs;have hrr:=h.rr;have hxb:=h.xb;refine ⟨⟨r2,true,dn2,L++[s7],hp,?_,?_,?_,?_,by omega,hb,?_⟩,?_⟩
 ·rw [List.length_append,Uy,Uv]
  exact hown
 ·intro hd
  have:=h.dn hd;simp;omega
 ·simp
  omega
 ·intro s hs
  rcases List.mem_append.1 hs with hs|hs
  ·exact hsz s hs
  ·simp at hs
   subst hs;omega
 ·have:=hgr.size
  simp at this;omega
 ·rw [hm]
  cases dn2 with
  |true=>rw [mPt_done hp];omega
  |false=>
   rw [mPt_go hp];have:=h.dn rfl;omega
theorem add_any (b:Int) (r:ByteArray) (w:World) (hc:Cod w) (hb0:9≤b) (hb1:b≤1024) (hr:r.size≤1000):Calls prog 235 #[.int .i64 b,.string ⟨#[]⟩,.string r] w (AddG w):=by
 obtain ⟨i0,hi0,hz0,hz1,hz2⟩:=info_parts Z3;have HP:=Hd (parts_any r w);have HCC:=Hd hc;have HR:=Hd hr;have HW0:Hid (Pt (((w.alloc (.cells #[.string r] 9)).alloc (.cells #[.bool false] 4)).alloc (.cells #[.bool false] 4)) w.heap.size r false false):=Hd ⟨((Blk.new w _ _).alloc _).alloc _,(U3 (w.alloc _) _ _ _ (by simp)).alloc _,U3 ((w.alloc _).alloc _) _ _ _ (by simp)⟩;have HB0:Hid (Below w.heap.size w (((w.alloc (.cells #[.string r] 9)).alloc (.cells #[.bool false] 4)).alloc (.cells #[.bool false] 4))∧w.heap.size+3≤(((w.alloc (.cells #[.string r] 9)).alloc (.cells #[.bool false] 4)).alloc (.cells #[.bool false] 4)).heap.size):=Hd ⟨(((Bf _ _).alloc (Le _) _).alloc (by simp) _).alloc (by simp;omega) _,by simp⟩;clear hc hr;go_enter Tryz.func235,Tryz.ntmps235;go_wp2_with (go_at_call 279;refine HP.out.mono ?_;rintro e w3 ⟨rfl,rfl⟩)
 generalize ((w.alloc (.cells #[.string r] 9)).alloc (.cells #[.bool false] 4)).alloc (.cells #[.bool false] 4)=W0 at HW0 HB0 ⊢;go_loopw [13] (fun v wr => ∃ (r1:ByteArray) (bg dn:Bool) (L:List ByteArray),Pt wr w.heap.size r1 bg dn∧wr.ownsRow (w.heap.size+3) 9 1 v L.length (Ua Ug L)∧(dn=false→L.length+r1.size≤r.size)∧L.length+r1.size≤r.size+1∧(∀ s∈L,s.size≤2000)∧r1.size≤r.size∧Below w.heap.size w wr∧w.heap.size+3≤wr.heap.size) (fun _ wr=>mPt w.heap.size wr)
 case atStart=>exact ⟨r,false,false,[],HW0.out,⟨rfl,.inl ⟨rfl,rfl⟩⟩,fun _=>by simp,by simp,fun s hs=>by simp at hs,Le _,HB0.out.1,HB0.out.2⟩
 case round=>
  obtain ⟨r1,bg,dn,L,hpt,hown,hle,hle2,hsz,hrs,hbel,hz⟩:=hrel;obtain ⟨wx,rfl⟩:∃ z:World,z=wr:=⟨_,rfl⟩
  have HPT:=Hd hpt;have HO:=Hd hown;have HLE:=Hd hle;have HLE2:=Hd hle2;have HSZ:=Hd hsz;have HRS:=Hd hrs;have HBE:=Hd hbel;have HZ:=Hd hz;have HX:Hid (∀ o,Below wx.heap.size wx (wx.alloc o)):=Hd fun o=>(Bf _ _).alloc (Le _) _
  obtain ⟨A,c,rfl,hnc,hcm⟩:=Ub hown;cases dn with
  |true=>
   have HN:=Hd (next_done w.heap.size r1 bg (b-8) wx hpt);clear hpt hown hle hle2 hsz hrs hbel hz;go_wp2_with (first|(go_at_call 301;refine HN.out.mono ?_;rintro e w4 ⟨rfl,hb⟩;have HB4:=Hd hb;have HN4:=Hd fun old=>Blk.new w4 339 old;have HS4:=Hd fun old=>U1 w4 old (sgC false false ⟨#[]⟩).toArray 339;clear hb)|((with_reducible refine Gt 339 14 ?_);refine Lt rfl 339 _ _ rfl w4.heap.size (sgC false false ⟨#[]⟩).toArray rfl rfl 339 _ (HN4.out _) (by kernel_rfl) rfl (by simp [sgC,Value.oneCell']) ?_;rw [HS4.out]))
   go_ret2
   have ho:=Ui (Ui HO.out HB4.out) ((Bf w4.heap.size w4).alloc (Le _) (.cells (sgC false false ⟨#[]⟩).toArray 339));exact ⟨A,L.length,c,L,rfl,Sl.of_own (f:=Ug) (fun _=>rfl) (by decide) ho,by have:=HLE2.out;have:=HR.out;omega,HSZ.out,(U0 HBE.out HB4.out HBE.out.size).alloc (Lx HBE.out.size HB4.out.size) _⟩
  |false=>
   have HN:=Hd (next_any w.heap.size r1 bg (b-8) wx hpt (by omega) (by have:=HR.out;omega));have HMX:=Hd (mPt_go hpt);clear hpt hown hle hle2 hsz hrs hbel hz
   go_wp2_with (first|(go_at_call 301;refine HN.out.mono ?_;rintro e w4 ⟨a1,b1,x1,r2,dn2,rfl,hx1,hx2,hr2,hdn,hpt4,hf4⟩;have HA4:=Hd (ap_mk HBE.out HZ.out HO.out HPT.out hpt4 hf4 hx1 hx2 hr2 hdn hb1 (HLE.out rfl) HR.out);have HN4:=Hd fun old=>Blk.new w4 339 old;have HS4:=Hd fun old=>U1 w4 old (sgC a1 b1 x1).toArray 339;have HK4:=Hd (Blk.new w4 339 (sgC a1 b1 x1).toArray);clear hx1 hx2 hr2 hdn hpt4 hf4)|((with_reducible refine Gt 339 14 ?_);refine Lt rfl 339 _ _ rfl w4.heap.size (sgC a1 b1 x1).toArray rfl rfl 339 _ (HN4.out _) (by kernel_rfl) rfl (by simp [sgC,Value.oneCell']) ?_;rw [HS4.out])|((with_reducible refine Gl 339 14 ?_);refine Lr rfl 339 _ rfl w4.heap.size rfl 339 (sgC a1 b1 x1).toArray (0,0) _ HK4.out Tryz.underlying339 rfl (by kernel_rfl) ?_)|(go_at_call 281;refine (sform_any a1 b1 x1 _ (HCC.out.after (HA4.out.be.alloc HA4.out.be.size _)) HA4.out.xs).mono ?_;rintro e w6 ⟨s6,rfl,hs6,hb6⟩;have HA6:=Hd (ap_next HA4.out (((Bf _ _).alloc (Le _) _).trans (hb6.mono (by simp))));have HS6:=Hd hs6;clear hb6 hs6)|(go_at_call 280;refine (swhole_any s6 _ (by have:=HS6.out;have:=HA6.out.xb;omega)).mono ?_;rintro e w7 ⟨s7,rfl,hs7,hb7⟩;have HA7:=Hd (ap_next HA6.out hb7);have HS7:=Hd hs7;have HRD:=Hd (Va w7 [.string s7] 9 1 1 rfl);clear hb7 hs7)|(at_builtin;go_must (refine U4 _ rfl _ _ 150 rfl (w.heap.size+3) 9 i0 _ 1 16 Tryz.underlying150 hi0 hz0 hz1 hz2 rfl (by decide) (.slice A L.length c) L.length (Ua Ug L) rfl (HA7.out.ow.alloc _) (w7.heap.size+1) (some ⟨w7.heap.size,0,none⟩) 1 1 [.string s7] rfl HRD.out (Vc s7) (by have:=HA7.out.ln;unfold maxLen;omega) (by have:=HA7.out.ln;omega) (by have:=HA7.out.zz;simp;omega) ?_;intro v' w8 hown8 hgr8 _;have HA8:=Hd (ap_end HA7.out (fun _=>HLE.out trivial) HSZ.out HS6.out HS7.out HMX.out hown8 hgr8);clear hown8 hgr8)))
   go_roundw
   case rel=>exact HA8.out.1
   case measure=>exact HA8.out.2
end
section
set_option maxRecDepth 100000
set_option maxHeartbeats 1000000
open Go.RowKit
theorem spk1_any (g:Nat) (l:Int) (s:ByteArray) (w:World) (hg:w.cell? ⟨g,0,none⟩=some (.int .i64 l)):Calls prog 234 #[.string s,.pointer (some ⟨g,0,none⟩)] w fun e w'=>e = .returned (.bool (decide (l<s.size)))∧Below w.heap.size w w':=by
 go_enter Tryz.func234,Tryz.ntmps234;go_wp2;go_ret;exact ⟨rfl,Bf _ _⟩
theorem flat_str (L:List ByteArray):∀ u∈Ua Ug L,u.oneCell'=true:=by
 intro u hu;obtain ⟨s,_,h⟩:=List.mem_flatMap.1 hu;simp [Ug] at h;subst h;rfl
theorem spnPack_any (l b:Int) (g:Nat) (r:ByteArray) (w:World) (hc:Cod w) (hv:svB l b=true) (hg:Blk w g 9 #[.string r]) (hr:(r.size:Int)≤l):
  Calls prog 178 #[.int .i64 l,.int .i64 b,.slice (some ⟨g,0,none⟩) 1 1] w fun e w' => ∃ A n c L,e = .returned (.tuple #[.slice A n c,.int .i64 0])∧Sl Ug 1 w' w'.heap.size A n c L∧n≤1100∧(∀ s∈L,s.size≤2000)∧Below w.heap.size w w':=by
 obtain ⟨i0,hi0,hz0,hz1,hz2⟩:=info_parts Z3;have HV:=Hd (Ys l b (w.alloc (.cells #[.int .i64 l] 3)));rw [hv] at HV;have c0:(w.alloc (.cells #[.int .i64 l] 3)).cell? ⟨w.heap.size,0,none⟩=some (.int .i64 l):=((Blk.new w _ _).cell 0).trans rfl;have hgl:=hg.lt
 have HSL:Hid (Sl Ug 1 (w.alloc (.cells #[.int .i64 l] 3)) (w.alloc (.cells #[.int .i64 l] 3)).heap.size (some ⟨g,0,none⟩) 1 1 [r]):=Hd ⟨Le _,rfl,rfl,fun _=>⟨g,0,rfl,by simp;omega,fun j u hu=>by
  rw [(hg.alloc _).cell,Nat.zero_add];have:Ua Ug [r] = [.string r]:=rfl;rw [this] at hu;simpa using hu⟩⟩
 have HCF:Hid (Calls prog 180 #[.slice (some ⟨g,0,none⟩) 1 1,.func (.func 234) #[] #[.pointer (some ⟨w.heap.size,0,none⟩)]] (w.alloc (.cells #[.int .i64 l] 3)) fun e w'=>e = .returned (.bool ([r].any fun s=>decide (l<s.size)))∧Below (w.alloc (.cells #[.int .i64 l] 3)).heap.size (w.alloc (.cells #[.int .i64 l] 3)) w'):=
  Hd (sppk_any w.heap.size (fun s=>decide (l<s.size)) _ 1 1 [r] _ HSL.out (by decide) (fun x _ W hb=>spk1_any w.heap.size l x W ((hb.cell (p:=⟨w.heap.size,0,none⟩) (by simp)).trans c0)))
 have hany:([r].any fun s=>decide (l<s.size))=false:=by simp;omega
 rw [hany] at HCF;have hrs:r.size≤1000∧9≤b∧b≤1024:=by unfold svB at hv;simp at hv;omega
 obtain ⟨hrs,hb0,hb1⟩:=hrs;have HX:=Hd ((Bf w.heap.size w).alloc (Le _) (.cells #[.int .i64 l] 3));have HA:Hid (∀ W,Below w.heap.size w W→Calls prog 235 #[.int .i64 b,.string ⟨#[]⟩,.string r] W (AddG W)):=Hd fun W hb=>add_any b r W (hc.after hb) hb0 hb1 hrs
 have HG:=Hd hg;clear hc hv hr hany hrs hb0 hb1 hg hgl;go_enter Tryz.func178,Tryz.ntmps178;go_wp2_with (first|(go_at_call 177;refine HV.out.mono ?_;rintro e w2 ⟨rfl,rfl⟩)|(go_at_call 180;refine HCF.out.mono ?_;rintro e w3 ⟨rfl,hb⟩;have HB3:=Hd (HX.out.trans (hb.mono (by simp)));have d0:w3.cell? ⟨g,0,none⟩=some (.string r):=((HG.out.below HB3.out HG.out.lt).cell 0).trans rfl;clear hb c0));refine Lu 2 ?_;rw [Rs]
 go_wp2_with (first|(go_at_call 235;refine (HA.out _ HB3.out).mono ?_;rintro e w4 ⟨A,n,c,L,rfl,hsl,hn,hsz,hb⟩;have HS4:=Hd hsl;have HN:=Hd hn;have HSZ:=Hd hsz;have HB4:=Hd (U0 HB3.out hb HB3.out.size);clear hsl hn hsz hb d0)|(at_builtin;go_must (refine U4 _ rfl _ _ 150 rfl w.heap.size 9 i0 _ 1 16 Tryz.underlying150 hi0 hz0 hz1 hz2 rfl (by decide) (.slice none 0 0) 0 [] rfl ⟨rfl,.inl ⟨rfl,rfl⟩⟩ w4.heap.size A n c (Ua Ug L) rfl HS4.out.rd (flat_str L) (by have:=HN.out;unfold maxLen;omega) (by have:=HN.out;omega) HB4.out.size ?_;intro v' w5 hown hgr _;have HOWN:=Hd hown;have HGR:Hid (World.grownBy _ w5 (Value.slice none 0 0).ownBlock):=Hd hgr;clear hown hgr)));rw [Rs];go_wp2
 go_ret2
 have ho:=HOWN.out;rw [Nat.zero_add] at ho;obtain ⟨A',c',rfl,_⟩:=Ub ho;exact ⟨A',n,c',L,rfl,Sl.of_own (f:=Ug) (fun _=>rfl) (by decide) ho,HN.out,HSZ.out,HB4.out.grown HGR.out HB4.out.size (by intro k hk;simp [Value.ownBlock] at hk)⟩
end
end Go.Proofs.YtapanepkfbamhaaGreatDoor
