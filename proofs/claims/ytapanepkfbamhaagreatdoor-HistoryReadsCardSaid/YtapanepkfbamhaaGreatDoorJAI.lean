/- Part of the proof of HistoryReads. -/
import Derived.Test.YtapanepkfbamhaaGreatDoorJAH
namespace Go.Proofs.YtapanepkfbamhaaGreatDoor
open Tryz (prog)
set_option maxRecDepth 100000
set_option maxHeartbeats 2000000
open Go.RowKit
theorem Zs {w:World} {base base':Nat} {e:TypeId} {size:Nat} {v:Value} {n:Nat} {xs:List Value} (h:w.ownsRow base e size v n xs) (hb:base'≤base):w.ownsRow base' e size v n xs:=
 ⟨h.1,h.2.imp id fun ⟨g,cap,cur,h1,h2,h3⟩=>⟨g,cap,cur,h1,Lx hb h2,h3⟩⟩
theorem allowed_a (w:World):Calls prog 84 #[.agg (dV 200).toArray,.agg #[.string ⟨#[107]⟩,.string ⟨#[107,49]⟩]] w fun e w'=>e = .returned (.bool true)∧Below w.heap.size w w':=by
 have HB:=Hd ((Blk.new w 27 (dV 200).toArray).alloc (.cells #[.string ⟨#[107]⟩,.string ⟨#[107,49]⟩] 76));have HP:=Hd (U3 (w.alloc (.cells (dV 200).toArray 27)) 76 #[.string ⟨#[107]⟩,.string ⟨#[107,49]⟩] (w.heap.size+1) (by simp));have HX:Hid (Below w.heap.size w ((w.alloc (.cells (dV 200).toArray 27)).alloc (.cells #[.string ⟨#[107]⟩,.string ⟨#[107,49]⟩] 76))):=Hd (((Bf _ _).alloc (Le _) _).alloc (by simp) _);have c1:((w.alloc (.cells (dV 200).toArray 27)).alloc (.cells #[.string ⟨#[107]⟩,.string ⟨#[107,49]⟩] 76)).cell? ⟨w.heap.size,1,none⟩=some (.int .i64 3):=(HB.out.cell 1).trans rfl;go_enter Tryz.func84,Tryz.ntmps84
 go_wp2_with (first|(refine Lr rfl 27 _ rfl w.heap.size rfl 27 _ (0,0) _ HB.out Tryz.underlying27 rfl (by kernel_rfl) ?_)|(go_at_call 116;refine (keyOf_a _).mono ?_;rintro e w2 ⟨rfl,hb⟩;have HX2:=Hd (U0 HX.out hb (by simp;omega));have d0:=((HP.out.below hb (by simp)).cell 0).trans (show (#[.string ⟨#[107]⟩,.string ⟨#[107,49]⟩]:Array Value)[0]? =some (.string ⟨#[107]⟩) from rfl);clear hb));go_ret;exact ⟨rfl,HX2.out⟩
def GivesRow (w:World) (t:TypeId) (k n:Nat) (xs:List Value) (e:Ending) (w':World):Prop:=∃ v,e = .returned v∧w'.ownsRow w.heap.size t k v n xs∧Below w.heap.size w w'
theorem insert_nil (vb:Nat) (xs:List Value) (w:World) (hs:Rd w w.heap.size 2 (some ⟨vb,0,none⟩) 1 xs) (h1:∀ u∈xs,u.oneCell'=true):
  Calls prog 159 #[.slice none 0 0,.int .i64 0,.slice (some ⟨vb,0,none⟩) 1 1] w (GivesRow w 76 2 1 xs):=by
 obtain ⟨i0,hi0,hz0,hz1,hz2⟩:=info_parts Xe;have HR:=Hd hs;have H1:=Hd h1;have HO:Hid (w.ownsRow w.heap.size 76 2 (.slice none 0 0) 0 []):=Hd ⟨rfl,.inl ⟨rfl,rfl⟩⟩;clear hs h1;go_enter Tryz.func159,Tryz.ntmps159;go_wp2_with (at_builtin;go_must (refine U4 _ rfl _ _ 28 rfl w.heap.size 76 i0 _ 2 32 Tryz.underlying28 hi0 hz0 hz1 hz2 rfl (by decide) _ 0 [] rfl HO.out w.heap.size (some ⟨vb,0,none⟩) 1 1 xs rfl HR.out H1.out (by decide) (by decide) (Le _) ?_;intro v' w' hown hgr _;have HOWN:=Hd hown;have HGR:Hid (w.grownBy w' (Value.slice none 0 0).ownBlock):=Hd hgr;clear hown hgr));go_ret;exact ⟨v',rfl,by simpa using HOWN.out,(Bf _ _).grown HGR.out (Le _) (by intro k hk;simp [Value.ownBlock] at hk)⟩
def ef1:Array MapEntry:=#[⟨.int .i64 0,.func (.func 156) #[] #[],0⟩]
def ef2:Array MapEntry:=ef1.push ⟨.int .i64 1,.func (.func 160) #[] #[],1⟩
def ef3:Array MapEntry:=ef2.push ⟨.int .i64 2,.func (.func 163) #[] #[],2⟩
def ef4:Array MapEntry:=ef3.push ⟨.int .i64 3,.func (.func 165) #[] #[],3⟩
theorem K9 (w:World) (es:Array MapEntry) (c:Nat) (key:Int) (val:Value) (hf:Instr.findNow (.int .i64) (.int .i64 key) es.toList 0=some none):
  (Instr.mapUpdate 201 (.map (some w.heap.size)) (.int .i64 key) val).run prog (w.alloc (.map es c)) = .ok () (w.alloc (.map (es.push ⟨.int .i64 key,val,c⟩) (c+1))):=by
 have hb:(w.alloc (.map es c)).heap[w.heap.size]? =some (.map es c):=heap_alloc_new w _;have hc:(Instr.checkKey false 10000 3 (.int .i64 key)).run prog (w.alloc (.map es c)) = .ok () (w.alloc (.map es c)):=MapKept.run_checkKey (k:=.int .i64 key) Tryz.underlying3 (by simp [MapKept.IsKey]) false 9999
 have hs:({ w.alloc (.map es c) with heap:=(w.alloc (.map es c)).heap.setIfInBounds w.heap.size (.map (es.push ⟨.int .i64 key,val,c⟩) (c+1)) }:World)=w.alloc (.map (es.push ⟨.int .i64 key,val,c⟩) (c+1)):=by
  unfold World.alloc;simp only [push_set]
 simp [Instr.mapUpdate,run_underlying Tryz.underlying201,MapKept.run_getObj_map hb,hc,MapKept.run_findKey Tryz.underlying3 hf,MapKept.run_setObj_map _ hb,Result.andThen];exact hs
theorem eLook (w:World) (b:Nat) (hb:w.heap[b]? =some (.map ef4 4)):
  (Instr.lookup 201 (.map (some b)) (.int .i64 0) true).run prog w = .ok (.tuple #[.func (.func 156) #[] #[],.bool true]) w:=by
 have hf:Instr.findNow (.int .i64) (.int .i64 0) ef4.toList 0=some (some (0,.func (.func 156) #[] #[])):=rfl;have hc:(Instr.checkKey ef4.isEmpty 10000 3 (.int .i64 0)).run prog w = .ok () w:=MapKept.run_checkKey (k:=.int .i64 0) Tryz.underlying3 (by simp [MapKept.IsKey]) _ 9999;simp [Instr.lookup,run_underlying Tryz.underlying201,MapKept.run_getObj_map hb,hc,MapKept.run_findKey Tryz.underlying3 hf]
theorem Ia (w:World):Calls prog 127 #[] w fun e w'=>e = .returned (.map (some w.heap.size))∧w.alloc (.map ef4 4)=w':=by
 have hmm:=@run_makeMap prog;have e0:=K9 w #[] 0 0 (.func (.func 156) #[] #[]) rfl;have e1:=K9 w ef1 1 1 (.func (.func 160) #[] #[]) rfl;have e2:=K9 w ef2 2 2 (.func (.func 163) #[] #[]) rfl;have e3:=K9 w ef3 3 3 (.func (.func 165) #[] #[]) rfl;rw [show (#[]:Array MapEntry).push ⟨.int .i64 0,.func (.func 156) #[] #[],0⟩=ef1 from rfl] at e0;rw [show ef1.push ⟨.int .i64 1,.func (.func 160) #[] #[],1⟩=ef2 from rfl] at e1;rw [show ef2.push ⟨.int .i64 2,.func (.func 163) #[] #[],2⟩=ef3 from rfl] at e2;rw [show ef3.push ⟨.int .i64 3,.func (.func 165) #[] #[],3⟩=ef4 from rfl] at e3;go_enter Tryz.func127,Tryz.ntmps127;go_wp2;go_ret;exact ⟨rfl,rfl⟩
def PutP (w:World) (e:Ending) (w':World):Prop:=∃ v,e = .returned (.tuple #[v,.int .i64 0])∧w'.ownsRow w.heap.size 76 2 v 1 [.string ⟨#[107]⟩,.string ⟨#[107,49]⟩]∧Below w.heap.size w w'
structure PV (w W:World):Prop where
 b1:Blk W w.heap.size 27 (dV 200).toArray
 b2:Blk W (w.heap.size+1) 58 #[.int .i64 0,.int .i64 200,.string ⟨#[107]⟩,.string ⟨#[107,49]⟩,.string ⟨#[]⟩]
 b3:Blk W (w.heap.size+2) 76 #[.string ⟨#[107]⟩,.string ⟨#[107,49]⟩]
 sz:w.heap.size+3≤W.heap.size
 be:Below w.heap.size w W
def pX (w:World):World:=((w.alloc (.cells (dV 200).toArray 27)).alloc (.cells #[.int .i64 0,.int .i64 200,.string ⟨#[107]⟩,.string ⟨#[107,49]⟩,.string ⟨#[]⟩] 58)).alloc (.cells #[.string ⟨#[107]⟩,.string ⟨#[107,49]⟩] 76)
theorem pv_start (w:World):PV w (pX w):=
 ⟨((Blk.new w _ _).alloc _).alloc _,(U3 (w.alloc (.cells (dV 200).toArray 27)) _ _ (w.heap.size+1) (by simp)).alloc _,U3 _ _ _ _ (by simp),by simp [pX],(((Bf _ _).alloc (Le _) _).alloc (by simp) _).alloc (by simp;omega) _⟩
theorem pv_next (w W W':World) (h:PV w W) (hb:Below W.heap.size W W'):PV w W':=
 have hz:=h.sz
 ⟨h.b1.below hb (by omega),h.b2.below hb (by omega),h.b3.below hb (by omega),Lx h.sz hb.size,U0 h.be hb (by omega)⟩
theorem pv_0 {w W:World} (h:PV w W):W.cell? ⟨w.heap.size+2,0,none⟩=some (.string ⟨#[107]⟩):=(h.b3.cell 0).trans rfl
theorem pv_1 {w W:World} (h:PV w W):W.cell? ⟨w.heap.size+2,1,none⟩=some (.string ⟨#[107,49]⟩):=(h.b3.cell 1).trans rfl
theorem pv_2 {w W:World} (h:PV w W):W.cell? ⟨w.heap.size+1,2,none⟩=some (.string ⟨#[107]⟩):=(h.b2.cell 2).trans rfl
theorem pair_rd (W:World):Rd (W.alloc (.cells #[.string ⟨#[107]⟩,.string ⟨#[107,49]⟩] 76)) (W.alloc (.cells #[.string ⟨#[107]⟩,.string ⟨#[107,49]⟩] 76)).heap.size 2 (some ⟨W.heap.size,0,none⟩) 1 [.string ⟨#[107]⟩,.string ⟨#[107,49]⟩]:=
 (Va W [.string ⟨#[107]⟩,.string ⟨#[107,49]⟩] 76 1 2 rfl).more (by simp)
theorem pair_one:∀ u∈([.string ⟨#[107]⟩,.string ⟨#[107,49]⟩]:List Value),u.oneCell'=true:=by
 intro u hu;simp at hu;rcases hu with rfl|rfl<;>rfl
theorem put_end (w W w':World) (h:PV w W) (e:Ending) (hg:GivesRow (W.alloc (.cells #[.string ⟨#[107]⟩,.string ⟨#[107,49]⟩] 76)) 76 2 1 [.string ⟨#[107]⟩,.string ⟨#[107,49]⟩] e w'):
  ∃ v,e = .returned v∧w'.ownsRow w.heap.size 76 2 v 1 [.string ⟨#[107]⟩,.string ⟨#[107,49]⟩]∧Below w.heap.size w w':=by
 obtain ⟨v,h1,h2,h3⟩:=hg;have hz:=h.sz;refine ⟨v,h1,Zs h2 (by simp;omega),U0 (h.be.alloc (by omega) _) h3 (by simp;omega)⟩
theorem put_a (w:World):Calls prog 156 #[.agg (dV 200).toArray,.slice none 0 0,.agg #[.int .i64 0,.int .i64 200,.string ⟨#[107]⟩,.string ⟨#[107,49]⟩,.string ⟨#[]⟩]] w (PutP w):=by
 have HX:Hid (PV w (((w.alloc (.cells (dV 200).toArray 27)).alloc (.cells #[.int .i64 0,.int .i64 200,.string ⟨#[107]⟩,.string ⟨#[107,49]⟩,.string ⟨#[]⟩] 58)).alloc (.cells #[.string ⟨#[107]⟩,.string ⟨#[107,49]⟩] 76))):=Hd (pv_start w);have HD:=Hd fun W=>direct_a 200 W
 have HI:=Hd fun vb W hs=>insert_nil vb [.string ⟨#[107]⟩,.string ⟨#[107,49]⟩] W hs pair_one
 have HE:=Hd fun W w' h e hg=>put_end w W w' h e hg
 go_enter Tryz.func156,Tryz.ntmps156
 go_wp2_with (first|(refine Lr rfl 27 _ rfl w.heap.size rfl 27 _ (0,0) _ HX.out.b1 Tryz.underlying27 rfl (by kernel_rfl) ?_)|(refine Lr rfl 27 _ rfl w.heap.size rfl 27 _ (0,0) _ HX2.out.b1 Tryz.underlying27 rfl (by kernel_rfl) ?_)|(go_at_call 157;refine (HD.out _).mono ?_;rintro e w2 ⟨rfl,hb⟩;have HX2:=Hd (pv_next w _ _ HX.out hb);clear hb;have c0:=pv_0 HX2.out;have c1:=pv_1 HX2.out)|(go_at_call 84;refine (allowed_a _).mono ?_;rintro e w3 ⟨rfl,hb⟩;have HX3:=Hd (pv_next w _ _ HX2.out hb);clear hb c0 c1;have c2:=pv_2 HX3.out)|(go_at_call 158;refine (find_nil _ _).mono ?_;rintro e w4 ⟨rfl,hb⟩;have HX4:=Hd (pv_next w _ _ HX3.out hb);clear hb c2;have c0:=pv_0 HX4.out;have c1:=pv_1 HX4.out)|(go_at_call 159;refine (HI.out _ _ (pair_rd _)).mono ?_;intro e w5 hgv;obtain ⟨v,rfl,hown,hbel⟩:=HE.out _ _ HX4.out _ hgv;have HOW:=Hd hown;have HBE:=Hd hbel;clear hgv hown hbel))
 go_ret2
 exact ⟨v,rfl,HOW.out,HBE.out⟩
end Go.Proofs.YtapanepkfbamhaaGreatDoor
