/- Part of the proof of HistoryReads. -/
import Derived.Test.YtapanepkfbamhaaGreatDoorJBC
namespace Go.Proofs.YtapanepkfbamhaaGreatDoor
open Tryz (prog)
section
set_option maxRecDepth 100000
set_option maxHeartbeats 4000000
open Go.RowKit
noncomputable def Y6 (rcd:ByteArray) (id:Int):Option DSet:=match Xb rcd with
 |none=>none
 |some e=>if e.d.id=id then some e.d else none
theorem en_mid {W:World} {g:Nat} {e:En} {a:EnA} (h:Blk W g 159 (enC e a).toArray):W.rangeAt g 2 (dC e.d):=fun j v hv=>by
 have hj:j<21:=(List.getElem?_eq_some_iff.1 hv).1;have h2:=dC_in e a j hj;rw [h.cell,←hv,←h2];simp
theorem results_dt (W:World) (b:Nat) (cs:Array Value) (h:Blk W b 27 cs) (hs:cs.size=21):(loadVar 27 ⟨b,0,none⟩).run prog W = .ok (.agg cs) W:=
 run_loadVar_row W b 27 27 cs (0,0) _ h Tryz.underlying27 rfl (by rw [hs];kernel_rfl)
structure TB (c:Chg) (e:En) (a:EnA) (p:Nat) (w W:World):Prop where
 b0:Blk W w.heap.size 58 (chC c).toArray
 b1:Blk W (w.heap.size+1) 27 (dC dZ).toArray
 b2:Blk W p 159 (enC e a).toArray
 be:Below w.heap.size w W
 lt:w.heap.size+2≤p
theorem tb_mk {c:Chg} {e g:En} {a b:EnA} {w W:World} (h0:Blk W w.heap.size 58 (chC c).toArray) (h1:Blk W (w.heap.size+1) 27 (dC dZ).toArray) (be:Below w.heap.size w W) (o1 o2:Array Value):
  TB c e a W.heap.size w ((((W.alloc (.cells o1 159)).alloc (.cells o2 159)).setRow W.heap.size (enC e a).toArray).setRow (W.heap.size+1) (enC g b).toArray):=
 have z1:=h1.lt
 ⟨Ul (Ul ((h0.alloc _).alloc _) (by omega)) (by omega),Ul (Ul ((h1.alloc _).alloc _) (by omega)) (by omega),Ul (setRow_heap _ _ o1 _ _ _ ((Blk.new W _ _).alloc _)) (by omega),
  U6 (U6 ((be.alloc be.size _).alloc (by have:=be.size;simp;omega) _) (by have:=be.size;omega) _) (by have:=be.size;omega) _,by omega⟩
def ToldR (e:En) (q:Bool) (w:World) (x:Ending) (w':World):Prop:=x = .returned (.tuple #[.agg (dC e.d).toArray,.bool q])∧Below w.heap.size w w'
def ParR (e:En) (k:Int) (w:World) (x:Ending) (w':World):Prop:=(∃ (a:EnA) (g:En) (b:EnA),x = .returned (.tuple #[.agg (enC e a).toArray,.agg (enC g b).toArray,.int .i64 k]))∧Below w.heap.size w w'
theorem told_at (c:Chg) (e:En) (k:Int) (w:World) (hk:k=0∨k=11)
  (HP0:Calls prog 87 #[.string c.rcd] ((w.alloc (.cells (chC c).toArray 58)).alloc (.cells (dC dZ).toArray 27)) (ParR e k ((w.alloc (.cells (chC c).toArray 58)).alloc (.cells (dC dZ).toArray 27)))):
  Calls prog 69 #[.agg (chC c).toArray] w (ToldR e ((k == 0)&&(e.d.id == c.id)) w):=by
 have HP:=Hd HP0;have c3:∀ old,((w.alloc (.cells (chC c).toArray 58)).alloc (.cells old 27)).cell? ⟨w.heap.size,3,none⟩=some (.string c.rcd):=fun old=>(((Blk.new w 58 (chC c).toArray).alloc _).cell 3).trans rfl
 have H0:Hid (Blk ((w.alloc (.cells (chC c).toArray 58)).alloc (.cells (dC dZ).toArray 27)) w.heap.size 58 (chC c).toArray∧Blk ((w.alloc (.cells (chC c).toArray 58)).alloc (.cells (dC dZ).toArray 27)) (w.heap.size+1) 27 (dC dZ).toArray∧Below w.heap.size w ((w.alloc (.cells (chC c).toArray 58)).alloc (.cells (dC dZ).toArray 27))):=Hd ⟨(Blk.new w _ _).alloc _,U3 (w.alloc _) _ _ _ (by simp),((Bf _ _).alloc (Le _) _).alloc (by simp) _⟩;clear HP0;rcases hk with rfl|rfl
 ·go_enter Tryz.func69,Tryz.ntmps69
  go_wp2_with (first|(go_at_call 87;refine HP.out.mono ?_;rintro x w5 ⟨⟨a,g,b,rfl⟩,hb⟩;have HBa:Hid (∀ o1 o2,Blk ((w5.alloc (.cells o1 159)).alloc (.cells o2 159)) w5.heap.size 159 o1):=Hd fun o1 o2=>(Blk.new w5 _ _).alloc _;have HBb:Hid (∀ o1 o2,Blk ((w5.alloc (.cells o1 159)).alloc (.cells o2 159)) (w5.heap.size+1) 159 o2):=Hd fun o1 o2=>U3 (w5.alloc _) _ _ _ (by simp);have HTB:Hid (TB c e a w5.heap.size w ((((w5.alloc (.cells (enC enZ enN).toArray 159)).alloc (.cells (enC enZ enN).toArray 159)).setRow w5.heap.size (enC e a).toArray).setRow (w5.heap.size+1) (enC g b).toArray)):=Hd (tb_mk (g:=g) (b:=b) (H0.out.1.below hb H0.out.1.lt) (H0.out.2.1.below hb H0.out.2.1.lt) (U0 H0.out.2.2 hb H0.out.2.2.size) _ _);clear hb c3)|((with_reducible refine Gt 159 4 ?_);refine Lt rfl 159 _ _ rfl (w5.heap.size) ((enC e a).toArray) rfl rfl 159 _ (HBa.out _ _) (by kernel_rfl) rfl (V4 _ _) ?_)|((with_reducible refine Gt 159 5 ?_);refine Lt rfl 159 _ _ rfl (w5.heap.size+1) ((enC g b).toArray) rfl rfl 159 _ (Ul (HBb.out _ _) (by omega)) (by kernel_rfl) rfl (V4 _ _) ?_))
  have HTd:Hid (TB c e a w5.heap.size w ((((w5.alloc (.cells (enC enZ enN).toArray 159)).alloc (.cells (enC enZ enN).toArray 159)).setRow w5.heap.size (enC e a).toArray).setRow (w5.heap.size+1) (enC g b).toArray).drew):=Hd ⟨HTB.out.b0,HTB.out.b1,HTB.out.b2,HTB.out.be.drew,HTB.out.lt⟩;refine Rw (S:=fun w'=>Blk w' w.heap.size 58 (chC c).toArray∧Blk w' w5.heap.size 159 (enC e a).toArray) (by kernel_rfl) ⟨HTd.out.b0,HTd.out.b2⟩ (fun Hh=>?_);refine tk 0 (.pointer (some ⟨w5.heap.size,2,none⟩)) Hh ?_;refine tk 1 (.agg (dC e.d).toArray) Hh ?_ (y:=by exact yieldsIf_load_mid (by rfl) 27 _ rfl w5.heap.size 2 rfl (dC e.d) _ (fun w' hSw=>en_mid hSw.2) Tryz.underlying27 rfl (by kernel_rfl));refine tk 2 (.int .i64 0) Hh ?_;refine tk 3 (.bool true) Hh ?_;refine tk 4 (.bool true) Hh ?_;refine tk 5 (.pointer (some ⟨w5.heap.size,2,none⟩)) Hh ?_
  refine tk 6 (.pointer (some ⟨w5.heap.size,2,none⟩)) Hh ?_;refine tk 7 (.int .i64 e.d.id) Hh ?_ (y:=by exact Or.inl ⟨by rfl,by intro w' hSw;have h1:=(hSw.2.cell 2).trans (show _=some (Value.int .i64 e.d.id) from rfl);go_simp⟩);refine tk 8 (.pointer (some ⟨w.heap.size,1,none⟩)) Hh ?_;refine tk 9 (.int .i64 c.id) Hh ?_ (y:=by exact Or.inl ⟨by rfl,by intro w' hSw;have h1:=(hSw.1.cell 1).trans (show _=some (Value.int .i64 c.id) from rfl);go_simp⟩);refine tk 10 (.bool (e.d.id == c.id)) Hh ?_;refine tk 11 (.bool (e.d.id == c.id)) Hh ?_;refine Ar (rs:=[12]) (by kernel_rfl) (by simp) ?_;refine Rc (fun K hK=>?_) ?_
  ·refine wp_store_row 27 _ _ rfl (w.heap.size+1) (dC e.d).toArray rfl rfl 27 _ HTd.out.b1 (by kernel_rfl) rfl (Z6 _) ?_
   refine hK.out _ _ ⟨Ul Hh.1 (by omega),Ul Hh.2 (by have:=HTd.out.lt;omega)⟩ (fun Hh=>?_);clear hK K;try simp only [Act.put]
   refine tk 13 (.bool (e.d.id == c.id)) Hh ?_;refine Ad (by kernel_rfl) ?_ _;clear Hh;go_wp2;have hrr:=results_dt (((((w5.alloc (.cells (enC enZ enN).toArray 159)).alloc (.cells (enC enZ enN).toArray 159)).setRow w5.heap.size (enC e a).toArray).setRow (w5.heap.size+1) (enC g b).toArray).drew.setRow (w.heap.size+1) (dC e.d).toArray) (w.heap.size+1) _ (setRow_heap _ _ _ _ _ _ HTd.out.b1) rfl;exact Br (v:=.tuple #[.agg (dC e.d).toArray,.bool (e.d.id == c.id)]) (U5 Tryz.results69 rfl rfl hrr) rfl ⟨by simp,U6 HTd.out.be (by omega) _⟩
  exact An
 ·go_enter Tryz.func69,Tryz.ntmps69
  go_wp2_with (first|(go_at_call 87;refine HP.out.mono ?_;rintro x w5 ⟨⟨a,g,b,rfl⟩,hb⟩;have HBa:Hid (∀ o1 o2,Blk ((w5.alloc (.cells o1 159)).alloc (.cells o2 159)) w5.heap.size 159 o1):=Hd fun o1 o2=>(Blk.new w5 _ _).alloc _;have HBb:Hid (∀ o1 o2,Blk ((w5.alloc (.cells o1 159)).alloc (.cells o2 159)) (w5.heap.size+1) 159 o2):=Hd fun o1 o2=>U3 (w5.alloc _) _ _ _ (by simp);have HTB:Hid (TB c e a w5.heap.size w ((((w5.alloc (.cells (enC enZ enN).toArray 159)).alloc (.cells (enC enZ enN).toArray 159)).setRow w5.heap.size (enC e a).toArray).setRow (w5.heap.size+1) (enC g b).toArray)):=Hd (tb_mk (g:=g) (b:=b) (H0.out.1.below hb H0.out.1.lt) (H0.out.2.1.below hb H0.out.2.1.lt) (U0 H0.out.2.2 hb H0.out.2.2.size) _ _);clear hb c3)|((with_reducible refine Gt 159 4 ?_);refine Lt rfl 159 _ _ rfl (w5.heap.size) ((enC e a).toArray) rfl rfl 159 _ (HBa.out _ _) (by kernel_rfl) rfl (V4 _ _) ?_)|((with_reducible refine Gt 159 5 ?_);refine Lt rfl 159 _ _ rfl (w5.heap.size+1) ((enC g b).toArray) rfl rfl 159 _ (Ul (HBb.out _ _) (by omega)) (by kernel_rfl) rfl (V4 _ _) ?_))
  have HTd:Hid (TB c e a w5.heap.size w ((((w5.alloc (.cells (enC enZ enN).toArray 159)).alloc (.cells (enC enZ enN).toArray 159)).setRow w5.heap.size (enC e a).toArray).setRow (w5.heap.size+1) (enC g b).toArray).drew):=Hd ⟨HTB.out.b0,HTB.out.b1,HTB.out.b2,HTB.out.be.drew,HTB.out.lt⟩;refine Rw (S:=fun w'=>Blk w' w.heap.size 58 (chC c).toArray∧Blk w' w5.heap.size 159 (enC e a).toArray) (by kernel_rfl) ⟨HTd.out.b0,HTd.out.b2⟩ (fun Hh=>?_);refine tk 0 (.pointer (some ⟨w5.heap.size,2,none⟩)) Hh ?_;refine tk 1 (.agg (dC e.d).toArray) Hh ?_ (y:=by exact yieldsIf_load_mid (by rfl) 27 _ rfl w5.heap.size 2 rfl (dC e.d) _ (fun w' hSw=>en_mid hSw.2) Tryz.underlying27 rfl (by kernel_rfl));refine tk 2 (.int .i64 11) Hh ?_;refine tk 3 (.bool false) Hh ?_;refine tk 4 (.bool false) Hh ?_;refine tku 5 Hh ?_;refine tku 6 Hh ?_;refine tku 7 Hh ?_
  refine tku 8 Hh ?_;refine tku 9 Hh ?_;refine tku 10 Hh ?_;refine tk 11 (.bool false) Hh ?_;refine Ar (rs:=[12]) (by kernel_rfl) (by simp) ?_;refine Rc (fun K hK=>?_) ?_
  ·refine wp_store_row 27 _ _ rfl (w.heap.size+1) (dC e.d).toArray rfl rfl 27 _ HTd.out.b1 (by kernel_rfl) rfl (Z6 _) ?_
   refine hK.out _ _ ⟨Ul Hh.1 (by omega),Ul Hh.2 (by have:=HTd.out.lt;omega)⟩ (fun Hh=>?_);clear hK K;try simp only [Act.put]
   refine tk 13 (.bool false) Hh ?_;refine Ad (by kernel_rfl) ?_ _;clear Hh;go_wp2;have hrr:=results_dt (((((w5.alloc (.cells (enC enZ enN).toArray 159)).alloc (.cells (enC enZ enN).toArray 159)).setRow w5.heap.size (enC e a).toArray).setRow (w5.heap.size+1) (enC g b).toArray).drew.setRow (w.heap.size+1) (dC e.d).toArray) (w.heap.size+1) _ (setRow_heap _ _ _ _ _ _ HTd.out.b1) rfl;exact Br (v:=.tuple #[.agg (dC e.d).toArray,.bool false]) (U5 Tryz.results69 rfl rfl hrr) rfl ⟨by simp,U6 HTd.out.be (by omega) _⟩
  exact An
theorem told_any (c:Chg) (w:World) (hs:c.rcd.size≤maxLen) (ht:Sta w):Calls prog 69 #[.agg (chC c).toArray] w (ToldG (Y6 c.rcd c.id) c.id w):=by
 have hb:Below w.heap.size w ((w.alloc (.cells (chC c).toArray 58)).alloc (.cells (dC dZ).toArray 27)):=((Bf _ _).alloc (Le _) _).alloc (by simp) _;have h:=parse_any c.rcd ((w.alloc (.cells (chC c).toArray 58)).alloc (.cells (dC dZ).toArray 27)) (by unfold maxLen at hs;omega) hs (ht.after hb);unfold Y6;unfold ParG at h;cases hp:Xb c.rcd with
 |none=>
  rw [hp] at h;exact (told_at c enZ 11 w (.inr rfl) (h.mono fun _ _ h2=>⟨⟨enN,enZ,enN,h2.1⟩,h2.2⟩)).mono fun _ _ h3=>⟨⟨_,h3.1⟩,h3.2⟩
 |some e=>
  rw [hp] at h;have h4:=told_at c e 0 w (.inl rfl) (h.mono fun _ _ h2=>h2);by_cases hi:e.d.id=c.id
  ·simp only [if_pos hi]
   exact h4.mono fun _ _ h3=>⟨⟨hi,by rw [h3.1,hi];simp⟩,h3.2⟩
  ·simp only [if_neg hi]
   exact h4.mono fun _ _ h3=>⟨⟨e.d,by rw [h3.1];simp [hi]⟩,h3.2⟩
end
section
set_option maxRecDepth 100000
set_option maxHeartbeats 4000000
open Go.RowKit
theorem ans_run (k1 s1:ByteArray) (c1:Int) (k2 s2:ByteArray) (c2:Int) (W:World):(binOp .eql 47 (.agg #[.string k1,.string s1,.int .i64 c1]) (.agg #[.string k2,.string s2,.int .i64 c2])).run prog W = .ok (.bool (decide (k1.toList=k2.toList)&&decide (s1.toList=s2.toList)&&decide (c1=c2))) W:=by
 go_simp;by_cases k0:k1.toList=k2.toList;rotate_left
 ·rw [if_neg k0,decide_eq_false k0]
  simp
 rw [if_pos k0,decide_eq_true k0];by_cases k1:s1.toList=s2.toList;rotate_left
 ·rw [if_neg k1,decide_eq_false k1]
  simp
 rw [if_pos k1,decide_eq_true k1];by_cases k2:c1=c2
 ·rw [if_pos k2,decide_eq_true k2]
  rfl
 ·rw [if_neg k2,decide_eq_false k2]
  rfl
theorem Zm (a b:ByteArray×ByteArray×Int):∃ z:Bool,decide (a=b)=z∧∀ W:World,(binOp .eql 47 (.agg #[.string a.1,.string a.2.1,.int .i64 a.2.2]) (.agg #[.string b.1,.string b.2.1,.int .i64 b.2.2])).run prog W = .ok (.bool z) W:=by
 obtain ⟨k1,s1,c1⟩:=a;obtain ⟨k2,s2,c2⟩:=b;refine ⟨_,rfl,fun W=>?_⟩;rw [ans_run];congr 2;rw [Bool.eq_iff_iff];simp only [Bool.and_eq_true,decide_eq_true_eq,Prod.mk.injEq];constructor
 ·rintro ⟨⟨h1,h2⟩,h3⟩
  rw [V2,V2] at h1 h2;exact ⟨Yp h1,Yp h2,h3⟩
 ·rintro ⟨rfl,rfl,rfl⟩
  exact ⟨⟨rfl,rfl⟩,rfl⟩
theorem RS.below {w w':World} {sv:Value} {id:Int} {x:Cnt} (h:RS w sv id x) (hb:Below w.heap.size w w'):RS w' sv id x:=
 ⟨h.cw.below hb,fun W hW=>h.pairs W (U0 hb hW hb.size)⟩
def RSP (sv:Value) (id:Int) (ps:List Pr) (w:World):Prop:=∃ x:Cnt,RS w sv id x∧x.ps=ps
theorem rs_none (id:Int) (w:World):RSP (.slice none 0 0) id [] w:=⟨⟨dZ,0,none,0,0,[]⟩,⟨cw_empty w dZ 0,fun W _=>pairs_none id W⟩,rfl⟩
theorem rs_some {h cc:Nat} {x:Cnt} {w:World} (hr:R1 w h x):RSP (.slice (some ⟨h,0,none⟩) 1 cc) x.d.id x.ps w:=by
 obtain ⟨A,c,h1,h2⟩:=hr.rg;exact ⟨reP x A c,⟨h2,fun W hW=>pairs_g (reP x A c) h cc W (Nat.lt_of_lt_of_le hr.lt hW.size) (U9 h1 hW hr.lt)⟩,rfl⟩
theorem get_at (A:Option Addr) (n c:Nat) (id:Int) (k:ByteArray) (ps:List Pr) (w:World) (hx:RSP (.slice A n c) id ps w):Calls prog 340 #[.slice A n c,.int .i64 id,.string k] w (GivesGet (Eb ps k) w):=by
 obtain ⟨x,h,rfl⟩:=hx;exact Get_g A n c id k x w h
theorem next_at (A:Option Addr) (n c:Nat) (id:Int) (k:ByteArray) (ps:List Pr) (w:World) (hx:RSP (.slice A n c) id ps w):Calls prog 341 #[.slice A n c,.int .i64 id,.string k] w (Fc (Yq ps k) w):=by
 obtain ⟨x,h,rfl⟩:=hx;exact Next_g A n c id k x w h
theorem RSP.below {sv:Value} {id:Int} {ps:List Pr} {w w':World} (h:RSP sv id ps w) (hb:Below w.heap.size w w'):RSP sv id ps w':=by
 obtain ⟨x,h1,h2⟩:=h;exact ⟨x,h1.below hb,h2⟩
theorem Zf {W:World} {g:Nat} {r:Rdd} (h:Blk W g 49 (rdC r).toArray):W.rangeAt g 3 [.string r.ak,.string r.ar,.int .i64 r.code]:=by
 refine h.range 3 _ fun j v hv=>?_
 match j,hv with
 |0,hv=>exact hv
 |1,hv=>exact hv
 |2,hv=>exact hv
structure EY (r:Rdd) (w W:World) (g:Nat) (k x:ByteArray) (y:Int):Prop where
 b1:Blk W w.heap.size 49 (rdC r).toArray
 b2:Blk W g 47 #[.string k,.string x,.int .i64 y]
 lt:w.heap.size<g
 be:Below w.heap.size w W
theorem EY.mk' {r:Rdd} {w w5 w7:World} {k:ByteArray} (h1:Blk w5 w.heap.size 49 (rdC r).toArray) (be:Below w.heap.size w w5) (hb:Below (w5.alloc (.cells #[.string k,.string ⟨#[]⟩,.int .i64 0] 47)).heap.size (w5.alloc (.cells #[.string k,.string ⟨#[]⟩,.int .i64 0] 47)) w7):
  EY r w w7 w5.heap.size k ⟨#[]⟩ 0:=
 have hl:=h1.lt
 ⟨(h1.alloc _).below hb (by simp;omega),(Blk.new w5 _ _).below hb (by simp),hl,(be.alloc be.size _).trans (hb.mono (by simp;omega))⟩
theorem EY.set2 {r:Rdd} {w W:World} {g:Nat} {k x:ByteArray} {y:Int} (h:EY r w W g k x y) (x2:ByteArray) (y2:Int):EY r w ((W.setCell ⟨g,1,none⟩ (.string x2)).setCell ⟨g,2,none⟩ (.int .i64 y2)) g k x2 y2:=
 have hl:=h.lt
 ⟨(h.b1.far (by simp;omega) _).far (by simp;omega) _,(h.b2.set 1 _).set 2 _,h.lt,(h.be.setCell (by simp;omega) _).setCell (by simp;omega) _⟩
theorem EY.set3 {r:Rdd} {w W:World} {g:Nat} {k x:ByteArray} {y:Int} (h:EY r w W g k x y) (k2 x2:ByteArray) (y2:Int):EY r w (((W.setCell ⟨g,0,none⟩ (.string k2)).setCell ⟨g,1,none⟩ (.string x2)).setCell ⟨g,2,none⟩ (.int .i64 y2)) g k2 x2 y2:=
 have hl:=h.lt
 ⟨((h.b1.far (by simp;omega) _).far (by simp;omega) _).far (by simp;omega) _,((h.b2.set 0 _).set 1 _).set 2 _,h.lt,((h.be.setCell (by simp;omega) _).setCell (by simp;omega) _).setCell (by simp;omega) _⟩
theorem EY.row {r:Rdd} {w W:World} {g:Nat} {k x:ByteArray} {y:Int} (h:EY r w W g k x y):EY r w (W.setRow g #[.string ⟨#[]⟩,.string ⟨#[]⟩,.int .i64 6]) g ⟨#[]⟩ ⟨#[]⟩ 6:=
 have hl:=h.lt
 ⟨Ul h.b1 (by omega),setRow_heap _ _ _ _ _ _ h.b2,h.lt,U6 h.be (by omega) _⟩
theorem ex_box2 {r:Rdd} {w w3 w5:World} {o2 o3:Obj} (h1:Below (((w.alloc (.cells (rdC r).toArray 49)).alloc o2).alloc o3).heap.size (((w.alloc (.cells (rdC r).toArray 49)).alloc o2).alloc o3) w3) (h2:Below w3.heap.size w3 w5):
  Blk w5 w.heap.size 49 (rdC r).toArray∧Below w.heap.size w w5:=by
 have e1:=h1.size;have e2:=h2.size;simp at e1;refine ⟨((((Blk.new w 49 (rdC r).toArray).alloc o2).alloc o3).below h1 (by simp;omega)).below h2 (by omega),?_⟩;exact (((((Bf _ _).alloc (Le _) _).alloc (by simp) _).alloc (by simp;omega) _).trans (h1.mono (by simp;omega))).trans (h2.mono (by omega))
theorem ex_box3 {r:Rdd} {w w5:World} {o2:Obj} (h:Below ((w.alloc (.cells (rdC r).toArray 49)).alloc o2).heap.size ((w.alloc (.cells (rdC r).toArray 49)).alloc o2) w5):
  Blk w5 w.heap.size 49 (rdC r).toArray∧Below w.heap.size w w5:=
 ⟨((Blk.new w 49 (rdC r).toArray).alloc o2).below h (by simp;omega),(((Bf _ _).alloc (Le _) _).alloc (by simp) _).trans (h.mono (by simp;omega))⟩
theorem method_g1 (A:Option Addr) (n c:Nat) (w:World):(method 489 132 (.slice A n c) "Get").run prog w = .ok (340,.slice A n c) w:=by kernel_rfl
theorem method_n1 (A:Option Addr) (n c:Nat) (w:World):(method 489 132 (.slice A n c) "Next").run prog w = .ok (341,.slice A n c) w:=by kernel_rfl
def ExG (ps:List Pr) (r:Rdd) (w:World) (e:Ending) (w':World):Prop:=e = .returned (.bool (Xy ps r))∧Below w.heap.size w w'
theorem ps_some {st:List Cnt} {id:Int} {x:Cnt} (h:Y5 st id=some x):Y4 (st.map plC) id=x.ps:=by
 unfold Y4;rw [G8,h];rfl
theorem ps_none {st:List Cnt} {id:Int} (h:Y5 st id=none):Y4 (st.map plC) id = []:=by
 unfold Y4;rw [G8,h];rfl
theorem explained_g (r:Rdd) (bs:Nat) (st:List Cnt) (w:World) (hs:SW w bs st):
  Calls prog 28 #[.map (some bs),.agg (rdC r).toArray] w (ExG (Y4 (st.map plC) r.id) r w):=by
 obtain ⟨i0,hi0,hz0,hz1,hz2⟩:=info_parts Zv;have hg:=method_g1;have hn:=method_n1;cases hget:Y5 st r.id with
 |some x=>
  rw [ps_some hget];have hid:=(Jx hget).2.2;have hcw:=hs.get hget;have hl:∀ o1,(Instr.lookup 65 (.map (some bs)) (.int .i64 r.id) true).run prog (w.alloc o1) = .ok (.tuple #[.agg (cnC x).toArray,.bool true]) (w.alloc o1):=fun o1=>by have h:=I1 (w.alloc o1) bs st r.id (hs.sb.after ((Bf _ _).alloc (Le _) _));rw [hget] at h;exact h
  have H1:=Hd (Vx x);have HB:Hid (∀ o1 old,Blk ((w.alloc o1).alloc (.cells old 30)) (w.heap.size+1) 30 old):=Hd fun o1 old=>U3 (w.alloc o1) _ old _ (by simp)
  have HS:Hid (∀ o1 old cs,((w.alloc o1).alloc (.cells old 30)).setRow (w.heap.size+1) cs=(w.alloc o1).alloc (.cells cs 30)):=Hd fun o1 old cs=>Ue (w.alloc o1) _ (by simp) old cs _
  have r0:∀ o,((w.alloc (.cells (rdC r).toArray 49)).alloc o).cell? ⟨w.heap.size,1,none⟩=some (.int .i64 r.id):=fun o=>(((Blk.new w _ _).alloc _).cell 1).trans rfl
  have r1:(w.alloc (.cells (rdC r).toArray 49)).cell? ⟨w.heap.size,1,none⟩=some (.int .i64 r.id):=((Blk.new w _ _).cell 1).trans rfl;have HRD:Hid (∀ o1 o2,Rd (((w.alloc o1).alloc o2).alloc (.cells (cnC x).toArray 30)) (((w.alloc o1).alloc o2).heap.size+1) 23 (some ⟨((w.alloc o1).alloc o2).heap.size,0,none⟩) 1 (cnC x)):=Hd fun o1 o2=>Va ((w.alloc o1).alloc o2) (cnC x) 30 1 23 rfl
  have HP:Hid (∀ o1 o2 o3,CW (((w.alloc o1).alloc o2).alloc o3) x):=Hd fun o1 o2 o3=>hcw.below ((((Bf _ _).alloc (Le _) _).alloc (by simp) _).alloc (by simp;omega) _)
  have HID:=Hd hid;clear hs hcw hid hget;by_cases hk:r.kind=0
  ·have b0:(r.kind == 0)=true:=by simpa using hk
   obtain ⟨v,hv⟩:∃ v,Eb x.ps r.key=v:=⟨_,rfl⟩
   obtain ⟨v1,v2⟩:=v;have HANS:Hid (ansF x.ps r=if v2=0 then (r.key,v1,0) else (⟨#[]⟩,⟨#[]⟩,6)):=Hd (by unfold ansF;rw [if_pos hk,hv]);have HV:=Hd hv;clear hk hv;go_enter Tryz.func28,Tryz.ntmps28
   go_upto_region 10 with (first|((with_reducible refine Gt 30 6 ?_);refine Lt rfl 30 _ _ rfl (w.heap.size+1) ((cnC x).toArray) rfl rfl 30 _ (HB.out _ _) (by kernel_rfl) rfl H1.out ?_;rw [HS.out])|((with_reducible refine Gl 30 6 ?_);refine Lr rfl 30 _ rfl (w.heap.size+1) rfl 30 _ (0,0) _ (HB.out _ _) Tryz.underlying30 rfl (by kernel_rfl) ?_)|((with_reducible refine Gc 22 ?_);refine wpList_buildSlice rfl 22 30 1 _ rfl (cnC x).toArray i0 (.agg zV.toArray) Tryz.underlying22 hi0 hz0 (by rw [hz1];decide) (by rw [hz1];decide) (by rw [hz1];kernel_rfl) ?_)|(at_builtin;go_must (refine U4 _ rfl _ _ 22 rfl w.heap.size 30 i0 _ 23 216 Tryz.underlying22 hi0 hz0 hz1 hz2 rfl (by decide) (.slice none 0 0) 0 [] rfl ⟨rfl,.inl ⟨rfl,rfl⟩⟩ _ _ 1 1 (cnC x) rfl (HRD.out _ _) (Ke x) (by decide) (by decide) (by simp;omega) ?_;intro v' w3 hown hgr _;obtain ⟨h,c'',rfl,_⟩:=Zg hown (by decide);have HOWN:=Hd hown;have HBE:=Hd (Xg (show World.grownBy _ w3 none from hgr));have HP3:=Hd ((HP.out _ _ _).below HBE.out);clear hown hgr))|(go_at_call 52;refine (Reader_g x h c'' w3 HP3.out (Ks HOWN.out)).mono ?_;rintro e w5 ⟨h5,c5,rfl,hr5,hb5⟩;obtain ⟨RA,rn,rc,hRA⟩:∃ RA rn rc,(Value.slice (some ⟨h5,0,none⟩) 1 c5) = .slice RA rn rc:=⟨_,_,_,rfl⟩;have hrs:=rs_some (cc:=c5) hr5;rw [hRA] at hrs ⊢;rw [HID.out] at hrs;have HRS:=Hd hrs;have HBX:=Hd (ex_box2 (r:=r) HBE.out hb5);clear hr5 hb5 hl hRA hrs r0 r1;have k2:=(HBX.out.1.cell 2).trans (show _=some (Value.string r.key) from rfl);have a0:∀ o,(w5.alloc o).cell? ⟨w.heap.size,0,none⟩=some (.int .i64 r.kind):=fun o=>((HBX.out.1.alloc o).cell 0).trans rfl;have a1:∀ o,(w5.alloc o).cell? ⟨w.heap.size,1,none⟩=some (.int .i64 r.id):=fun o=>((HBX.out.1.alloc o).cell 1).trans rfl;have a2:∀ o,(w5.alloc o).cell? ⟨w.heap.size,2,none⟩=some (.string r.key):=fun o=>((HBX.out.1.alloc o).cell 2).trans rfl;)|(go_at_call 340;refine (get_at RA rn rc r.id r.key x.ps _ (HRS.out.below ((Bf _ _).alloc (Le _) _))).mono ?_;rintro e w7 ⟨rfl,hb⟩;rw [HV.out];have he:=EY.mk' HBX.out.1 HBX.out.2 hb;have HE7:=Hd he;have q0:=(he.b2.cell 0).trans (show _=some (Value.string r.key) from rfl);have q1:=(he.b2.cell 1).trans (show _=some (Value.string ⟨#[]⟩) from rfl);have q2:=(he.b2.cell 2).trans (show _=some (Value.int .i64 0) from rfl);have f0:=he.b2.free 0;have f1:=he.b2.free 1;have f2:=he.b2.free 2;clear hb he k2 a0 a1 a2 hg hn))
   obtain ⟨W,hW,he⟩:∃ W,(w7.setCell ⟨w5.heap.size,1,none⟩ (.string v1)).setCell ⟨w5.heap.size,2,none⟩ (.int .i64 v2)=W∧EY r w W w5.heap.size r.key v1 v2:=⟨_,rfl,HE7.out.set2 _ _⟩
   rw [hW];have HE:=Hd he;have r2:=(he.b2.cell 2).trans (show _=some (Value.int .i64 v2) from rfl);clear hW q0 q1 q2 f0 f1 f2 he;by_cases hz:v2=0
   ·subst hz
    obtain ⟨z,hz1,hz2⟩:=Zm (r.ak,r.ar,r.code) (r.key,v1,0);simp only at hz2;have HZ1:Hid (Xy x.ps r=z):=Hd (by unfold Xy;rw [HANS.out,if_pos rfl];exact hz1);clear hz1;go_wp2_with (first|((with_reducible refine Gl 47 58 ?_);refine Lm rfl 47 _ rfl w.heap.size 3 rfl _ _ (Zf HE.out.b1) Tryz.underlying47 rfl (by kernel_rfl) ?_)|((with_reducible refine Gl 47 9 ?_);refine Lr rfl 47 _ rfl (w5.heap.size) rfl 47 (_) (0,0) _ HE.out.b2 Tryz.underlying47 rfl (by kernel_rfl) ?_));go_ret;exact ⟨by rw [HZ1.out];rfl,HE.out.be⟩
   ·have b2:(v2 != 0)=true:=by simpa using hz
    obtain ⟨z,hz1,hz2⟩:=Zm (r.ak,r.ar,r.code) (⟨#[]⟩,⟨#[]⟩,6);simp only at hz2;have HZ1:Hid (Xy x.ps r=z):=Hd (by unfold Xy;rw [HANS.out,if_neg hz];exact hz1);have HQ:Hid ((#[.string ⟨#[]⟩,.string ⟨#[]⟩,.int .i64 6]:Array Value).all (·.oneCell')=true):=Hd (by simp [Value.oneCell']);clear hz1 hz;go_wp2_with (first|((with_reducible refine Gt 47 9 ?_);refine Lt rfl 47 _ _ rfl (w5.heap.size) (#[.string ⟨#[]⟩,.string ⟨#[]⟩,.int .i64 6]) rfl rfl 47 _ HE.out.b2 (by kernel_rfl) rfl HQ.out ?_)|((with_reducible refine Gl 47 58 ?_);refine Lm rfl 47 _ rfl w.heap.size 3 rfl _ _ (Zf HE.out.row.b1) Tryz.underlying47 rfl (by kernel_rfl) ?_)|((with_reducible refine Gl 47 9 ?_);refine Lr rfl 47 _ rfl (w5.heap.size) rfl 47 (_) (0,0) _ HE.out.row.b2 Tryz.underlying47 rfl (by kernel_rfl) ?_));go_ret;exact ⟨by rw [HZ1.out];rfl,HE.out.row.be⟩
  ·have b0:(r.kind == 0)=false:=by simpa using hk
   obtain ⟨v,hv⟩:∃ v,Yq x.ps r.key=v:=⟨_,rfl⟩
   obtain ⟨v0,v1,v2⟩:=v;have HANS:Hid (ansF x.ps r=if v2=0 then (v0,v1,v2) else (⟨#[]⟩,⟨#[]⟩,6)):=Hd (by unfold ansF;rw [if_neg hk,hv]);have HV:=Hd hv;clear hk hv;go_enter Tryz.func28,Tryz.ntmps28
   go_upto_region 10 with (first|((with_reducible refine Gt 30 6 ?_);refine Lt rfl 30 _ _ rfl (w.heap.size+1) ((cnC x).toArray) rfl rfl 30 _ (HB.out _ _) (by kernel_rfl) rfl H1.out ?_;rw [HS.out])|((with_reducible refine Gl 30 6 ?_);refine Lr rfl 30 _ rfl (w.heap.size+1) rfl 30 _ (0,0) _ (HB.out _ _) Tryz.underlying30 rfl (by kernel_rfl) ?_)|((with_reducible refine Gc 22 ?_);refine wpList_buildSlice rfl 22 30 1 _ rfl (cnC x).toArray i0 (.agg zV.toArray) Tryz.underlying22 hi0 hz0 (by rw [hz1];decide) (by rw [hz1];decide) (by rw [hz1];kernel_rfl) ?_)|(at_builtin;go_must (refine U4 _ rfl _ _ 22 rfl w.heap.size 30 i0 _ 23 216 Tryz.underlying22 hi0 hz0 hz1 hz2 rfl (by decide) (.slice none 0 0) 0 [] rfl ⟨rfl,.inl ⟨rfl,rfl⟩⟩ _ _ 1 1 (cnC x) rfl (HRD.out _ _) (Ke x) (by decide) (by decide) (by simp;omega) ?_;intro v' w3 hown hgr _;obtain ⟨h,c'',rfl,_⟩:=Zg hown (by decide);have HOWN:=Hd hown;have HBE:=Hd (Xg (show World.grownBy _ w3 none from hgr));have HP3:=Hd ((HP.out _ _ _).below HBE.out);clear hown hgr))|(go_at_call 52;refine (Reader_g x h c'' w3 HP3.out (Ks HOWN.out)).mono ?_;rintro e w5 ⟨h5,c5,rfl,hr5,hb5⟩;obtain ⟨RA,rn,rc,hRA⟩:∃ RA rn rc,(Value.slice (some ⟨h5,0,none⟩) 1 c5) = .slice RA rn rc:=⟨_,_,_,rfl⟩;have hrs:=rs_some (cc:=c5) hr5;rw [hRA] at hrs ⊢;rw [HID.out] at hrs;have HRS:=Hd hrs;have HBX:=Hd (ex_box2 (r:=r) HBE.out hb5);clear hr5 hb5 hl hRA hrs r0 r1;have k2:=(HBX.out.1.cell 2).trans (show _=some (Value.string r.key) from rfl);have a0:∀ o,(w5.alloc o).cell? ⟨w.heap.size,0,none⟩=some (.int .i64 r.kind):=fun o=>((HBX.out.1.alloc o).cell 0).trans rfl;have a1:∀ o,(w5.alloc o).cell? ⟨w.heap.size,1,none⟩=some (.int .i64 r.id):=fun o=>((HBX.out.1.alloc o).cell 1).trans rfl;have a2:∀ o,(w5.alloc o).cell? ⟨w.heap.size,2,none⟩=some (.string r.key):=fun o=>((HBX.out.1.alloc o).cell 2).trans rfl;)|(go_at_call 341;refine (next_at RA rn rc r.id r.key x.ps _ (HRS.out.below ((Bf _ _).alloc (Le _) _))).mono ?_;rintro e w7 ⟨rfl,hb⟩;rw [HV.out];have he:=EY.mk' HBX.out.1 HBX.out.2 hb;have HE7:=Hd he;have q0:=(he.b2.cell 0).trans (show _=some (Value.string r.key) from rfl);have q1:=(he.b2.cell 1).trans (show _=some (Value.string ⟨#[]⟩) from rfl);have q2:=(he.b2.cell 2).trans (show _=some (Value.int .i64 0) from rfl);have f0:=he.b2.free 0;have f1:=he.b2.free 1;have f2:=he.b2.free 2;clear hb he k2 a0 a1 a2 hg hn))
   obtain ⟨W,hW,he⟩:∃ W,((w7.setCell ⟨w5.heap.size,0,none⟩ (.string v0)).setCell ⟨w5.heap.size,1,none⟩ (.string v1)).setCell ⟨w5.heap.size,2,none⟩ (.int .i64 v2)=W∧EY r w W w5.heap.size v0 v1 v2:=⟨_,rfl,HE7.out.set3 _ _ _⟩
   rw [hW];have HE:=Hd he;have r2:=(he.b2.cell 2).trans (show _=some (Value.int .i64 v2) from rfl);clear hW q0 q1 q2 f0 f1 f2 he;by_cases hz:v2=0
   ·subst hz
    obtain ⟨z,hz1,hz2⟩:=Zm (r.ak,r.ar,r.code) (v0,v1,0);simp only at hz2;have HZ1:Hid (Xy x.ps r=z):=Hd (by unfold Xy;rw [HANS.out,if_pos rfl];exact hz1);clear hz1;go_wp2_with (first|((with_reducible refine Gl 47 58 ?_);refine Lm rfl 47 _ rfl w.heap.size 3 rfl _ _ (Zf HE.out.b1) Tryz.underlying47 rfl (by kernel_rfl) ?_)|((with_reducible refine Gl 47 9 ?_);refine Lr rfl 47 _ rfl (w5.heap.size) rfl 47 (_) (0,0) _ HE.out.b2 Tryz.underlying47 rfl (by kernel_rfl) ?_));go_ret;exact ⟨by rw [HZ1.out];rfl,HE.out.be⟩
   ·have b2:(v2 != 0)=true:=by simpa using hz
    obtain ⟨z,hz1,hz2⟩:=Zm (r.ak,r.ar,r.code) (⟨#[]⟩,⟨#[]⟩,6);simp only at hz2;have HZ1:Hid (Xy x.ps r=z):=Hd (by unfold Xy;rw [HANS.out,if_neg hz];exact hz1);have HQ:Hid ((#[.string ⟨#[]⟩,.string ⟨#[]⟩,.int .i64 6]:Array Value).all (·.oneCell')=true):=Hd (by simp [Value.oneCell']);clear hz1 hz;go_wp2_with (first|((with_reducible refine Gt 47 9 ?_);refine Lt rfl 47 _ _ rfl (w5.heap.size) (#[.string ⟨#[]⟩,.string ⟨#[]⟩,.int .i64 6]) rfl rfl 47 _ HE.out.b2 (by kernel_rfl) rfl HQ.out ?_)|((with_reducible refine Gl 47 58 ?_);refine Lm rfl 47 _ rfl w.heap.size 3 rfl _ _ (Zf HE.out.row.b1) Tryz.underlying47 rfl (by kernel_rfl) ?_)|((with_reducible refine Gl 47 9 ?_);refine Lr rfl 47 _ rfl (w5.heap.size) rfl 47 (_) (0,0) _ HE.out.row.b2 Tryz.underlying47 rfl (by kernel_rfl) ?_));go_ret;exact ⟨by rw [HZ1.out];rfl,HE.out.row.be⟩
 |none=>
  rw [ps_none hget];have hl:∀ o1,(Instr.lookup 65 (.map (some bs)) (.int .i64 r.id) true).run prog (w.alloc o1) = .ok (.tuple #[.agg zV.toArray,.bool false]) (w.alloc o1):=fun o1=>by have h:=I1 (w.alloc o1) bs st r.id (hs.sb.after ((Bf _ _).alloc (Le _) _));rw [hget] at h;exact h
  have H1:=Hd (zV_one);have HB:Hid (∀ o1 old,Blk ((w.alloc o1).alloc (.cells old 30)) (w.heap.size+1) 30 old):=Hd fun o1 old=>U3 (w.alloc o1) _ old _ (by simp)
  have HS:Hid (∀ o1 old cs,((w.alloc o1).alloc (.cells old 30)).setRow (w.heap.size+1) cs=(w.alloc o1).alloc (.cells cs 30)):=Hd fun o1 old cs=>Ue (w.alloc o1) _ (by simp) old cs _
  have r0:∀ o,((w.alloc (.cells (rdC r).toArray 49)).alloc o).cell? ⟨w.heap.size,1,none⟩=some (.int .i64 r.id):=fun o=>(((Blk.new w _ _).alloc _).cell 1).trans rfl
  have r1:(w.alloc (.cells (rdC r).toArray 49)).cell? ⟨w.heap.size,1,none⟩=some (.int .i64 r.id):=((Blk.new w _ _).cell 1).trans rfl;clear hs hget;by_cases hk:r.kind=0
  ·have b0:(r.kind == 0)=true:=by simpa using hk
   obtain ⟨v,hv⟩:∃ v,Eb [] r.key=v:=⟨_,rfl⟩
   obtain ⟨v1,v2⟩:=v;have HANS:Hid (ansF [] r=if v2=0 then (r.key,v1,0) else (⟨#[]⟩,⟨#[]⟩,6)):=Hd (by unfold ansF;rw [if_pos hk,hv]);have HV:=Hd hv;clear hk hv;go_enter Tryz.func28,Tryz.ntmps28
   go_upto_region 10 with (first|((with_reducible refine Gt 30 6 ?_);refine Lt rfl 30 _ _ rfl (w.heap.size+1) (zV.toArray) rfl rfl 30 _ (HB.out _ _) (by kernel_rfl) rfl H1.out ?_;rw [HS.out])|(go_at_call 52;refine (Fq _).mono ?_;rintro e w5 ⟨rfl,hb5⟩;obtain ⟨RA,rn,rc,hRA⟩:∃ RA rn rc,(Value.slice none 0 0) = .slice RA rn rc:=⟨_,_,_,rfl⟩;have hrs:=rs_none r.id w5;rw [hRA] at hrs ⊢;have HRS:=Hd hrs;have HBX:Hid (Blk w5 w.heap.size 49 (rdC r).toArray∧Below w.heap.size w w5):=Hd (ex_box3 hb5);clear hb5 hl hRA hrs r0 r1;have k2:=(HBX.out.1.cell 2).trans (show _=some (Value.string r.key) from rfl);have a0:∀ o,(w5.alloc o).cell? ⟨w.heap.size,0,none⟩=some (.int .i64 r.kind):=fun o=>((HBX.out.1.alloc o).cell 0).trans rfl;have a1:∀ o,(w5.alloc o).cell? ⟨w.heap.size,1,none⟩=some (.int .i64 r.id):=fun o=>((HBX.out.1.alloc o).cell 1).trans rfl;have a2:∀ o,(w5.alloc o).cell? ⟨w.heap.size,2,none⟩=some (.string r.key):=fun o=>((HBX.out.1.alloc o).cell 2).trans rfl;)|(go_at_call 340;refine (get_at RA rn rc r.id r.key [] _ (HRS.out.below ((Bf _ _).alloc (Le _) _))).mono ?_;rintro e w7 ⟨rfl,hb⟩;rw [HV.out];have he:=EY.mk' HBX.out.1 HBX.out.2 hb;have HE7:=Hd he;have q0:=(he.b2.cell 0).trans (show _=some (Value.string r.key) from rfl);have q1:=(he.b2.cell 1).trans (show _=some (Value.string ⟨#[]⟩) from rfl);have q2:=(he.b2.cell 2).trans (show _=some (Value.int .i64 0) from rfl);have f0:=he.b2.free 0;have f1:=he.b2.free 1;have f2:=he.b2.free 2;clear hb he k2 a0 a1 a2 hg hn))
   obtain ⟨W,hW,he⟩:∃ W,(w7.setCell ⟨w5.heap.size,1,none⟩ (.string v1)).setCell ⟨w5.heap.size,2,none⟩ (.int .i64 v2)=W∧EY r w W w5.heap.size r.key v1 v2:=⟨_,rfl,HE7.out.set2 _ _⟩
   rw [hW];have HE:=Hd he;have r2:=(he.b2.cell 2).trans (show _=some (Value.int .i64 v2) from rfl);clear hW q0 q1 q2 f0 f1 f2 he;by_cases hz:v2=0
   ·subst hz
    obtain ⟨z,hz1,hz2⟩:=Zm (r.ak,r.ar,r.code) (r.key,v1,0);simp only at hz2;have HZ1:Hid (Xy [] r=z):=Hd (by unfold Xy;rw [HANS.out,if_pos rfl];exact hz1);clear hz1;go_wp2_with (first|((with_reducible refine Gl 47 58 ?_);refine Lm rfl 47 _ rfl w.heap.size 3 rfl _ _ (Zf HE.out.b1) Tryz.underlying47 rfl (by kernel_rfl) ?_)|((with_reducible refine Gl 47 9 ?_);refine Lr rfl 47 _ rfl (w5.heap.size) rfl 47 (_) (0,0) _ HE.out.b2 Tryz.underlying47 rfl (by kernel_rfl) ?_));go_ret;exact ⟨by rw [HZ1.out];rfl,HE.out.be⟩
   ·have b2:(v2 != 0)=true:=by simpa using hz
    obtain ⟨z,hz1,hz2⟩:=Zm (r.ak,r.ar,r.code) (⟨#[]⟩,⟨#[]⟩,6);simp only at hz2;have HZ1:Hid (Xy [] r=z):=Hd (by unfold Xy;rw [HANS.out,if_neg hz];exact hz1);have HQ:Hid ((#[.string ⟨#[]⟩,.string ⟨#[]⟩,.int .i64 6]:Array Value).all (·.oneCell')=true):=Hd (by simp [Value.oneCell']);clear hz1 hz;go_wp2_with (first|((with_reducible refine Gt 47 9 ?_);refine Lt rfl 47 _ _ rfl (w5.heap.size) (#[.string ⟨#[]⟩,.string ⟨#[]⟩,.int .i64 6]) rfl rfl 47 _ HE.out.b2 (by kernel_rfl) rfl HQ.out ?_)|((with_reducible refine Gl 47 58 ?_);refine Lm rfl 47 _ rfl w.heap.size 3 rfl _ _ (Zf HE.out.row.b1) Tryz.underlying47 rfl (by kernel_rfl) ?_)|((with_reducible refine Gl 47 9 ?_);refine Lr rfl 47 _ rfl (w5.heap.size) rfl 47 (_) (0,0) _ HE.out.row.b2 Tryz.underlying47 rfl (by kernel_rfl) ?_));go_ret;exact ⟨by rw [HZ1.out];rfl,HE.out.row.be⟩
  ·have b0:(r.kind == 0)=false:=by simpa using hk
   obtain ⟨v,hv⟩:∃ v,Yq [] r.key=v:=⟨_,rfl⟩
   obtain ⟨v0,v1,v2⟩:=v;have HANS:Hid (ansF [] r=if v2=0 then (v0,v1,v2) else (⟨#[]⟩,⟨#[]⟩,6)):=Hd (by unfold ansF;rw [if_neg hk,hv]);have HV:=Hd hv;clear hk hv;go_enter Tryz.func28,Tryz.ntmps28
   go_upto_region 10 with (first|((with_reducible refine Gt 30 6 ?_);refine Lt rfl 30 _ _ rfl (w.heap.size+1) (zV.toArray) rfl rfl 30 _ (HB.out _ _) (by kernel_rfl) rfl H1.out ?_;rw [HS.out])|(go_at_call 52;refine (Fq _).mono ?_;rintro e w5 ⟨rfl,hb5⟩;obtain ⟨RA,rn,rc,hRA⟩:∃ RA rn rc,(Value.slice none 0 0) = .slice RA rn rc:=⟨_,_,_,rfl⟩;have hrs:=rs_none r.id w5;rw [hRA] at hrs ⊢;have HRS:=Hd hrs;have HBX:Hid (Blk w5 w.heap.size 49 (rdC r).toArray∧Below w.heap.size w w5):=Hd (ex_box3 hb5);clear hb5 hl hRA hrs r0 r1;have k2:=(HBX.out.1.cell 2).trans (show _=some (Value.string r.key) from rfl);have a0:∀ o,(w5.alloc o).cell? ⟨w.heap.size,0,none⟩=some (.int .i64 r.kind):=fun o=>((HBX.out.1.alloc o).cell 0).trans rfl;have a1:∀ o,(w5.alloc o).cell? ⟨w.heap.size,1,none⟩=some (.int .i64 r.id):=fun o=>((HBX.out.1.alloc o).cell 1).trans rfl;have a2:∀ o,(w5.alloc o).cell? ⟨w.heap.size,2,none⟩=some (.string r.key):=fun o=>((HBX.out.1.alloc o).cell 2).trans rfl;)|(go_at_call 341;refine (next_at RA rn rc r.id r.key [] _ (HRS.out.below ((Bf _ _).alloc (Le _) _))).mono ?_;rintro e w7 ⟨rfl,hb⟩;rw [HV.out];have he:=EY.mk' HBX.out.1 HBX.out.2 hb;have HE7:=Hd he;have q0:=(he.b2.cell 0).trans (show _=some (Value.string r.key) from rfl);have q1:=(he.b2.cell 1).trans (show _=some (Value.string ⟨#[]⟩) from rfl);have q2:=(he.b2.cell 2).trans (show _=some (Value.int .i64 0) from rfl);have f0:=he.b2.free 0;have f1:=he.b2.free 1;have f2:=he.b2.free 2;clear hb he k2 a0 a1 a2 hg hn))
   obtain ⟨W,hW,he⟩:∃ W,((w7.setCell ⟨w5.heap.size,0,none⟩ (.string v0)).setCell ⟨w5.heap.size,1,none⟩ (.string v1)).setCell ⟨w5.heap.size,2,none⟩ (.int .i64 v2)=W∧EY r w W w5.heap.size v0 v1 v2:=⟨_,rfl,HE7.out.set3 _ _ _⟩
   rw [hW];have HE:=Hd he;have r2:=(he.b2.cell 2).trans (show _=some (Value.int .i64 v2) from rfl);clear hW q0 q1 q2 f0 f1 f2 he;by_cases hz:v2=0
   ·subst hz
    obtain ⟨z,hz1,hz2⟩:=Zm (r.ak,r.ar,r.code) (v0,v1,0);simp only at hz2;have HZ1:Hid (Xy [] r=z):=Hd (by unfold Xy;rw [HANS.out,if_pos rfl];exact hz1);clear hz1;go_wp2_with (first|((with_reducible refine Gl 47 58 ?_);refine Lm rfl 47 _ rfl w.heap.size 3 rfl _ _ (Zf HE.out.b1) Tryz.underlying47 rfl (by kernel_rfl) ?_)|((with_reducible refine Gl 47 9 ?_);refine Lr rfl 47 _ rfl (w5.heap.size) rfl 47 (_) (0,0) _ HE.out.b2 Tryz.underlying47 rfl (by kernel_rfl) ?_));go_ret;exact ⟨by rw [HZ1.out];rfl,HE.out.be⟩
   ·have b2:(v2 != 0)=true:=by simpa using hz
    obtain ⟨z,hz1,hz2⟩:=Zm (r.ak,r.ar,r.code) (⟨#[]⟩,⟨#[]⟩,6);simp only at hz2;have HZ1:Hid (Xy [] r=z):=Hd (by unfold Xy;rw [HANS.out,if_neg hz];exact hz1);have HQ:Hid ((#[.string ⟨#[]⟩,.string ⟨#[]⟩,.int .i64 6]:Array Value).all (·.oneCell')=true):=Hd (by simp [Value.oneCell']);clear hz1 hz;go_wp2_with (first|((with_reducible refine Gt 47 9 ?_);refine Lt rfl 47 _ _ rfl (w5.heap.size) (#[.string ⟨#[]⟩,.string ⟨#[]⟩,.int .i64 6]) rfl rfl 47 _ HE.out.b2 (by kernel_rfl) rfl HQ.out ?_)|((with_reducible refine Gl 47 58 ?_);refine Lm rfl 47 _ rfl w.heap.size 3 rfl _ _ (Zf HE.out.row.b1) Tryz.underlying47 rfl (by kernel_rfl) ?_)|((with_reducible refine Gl 47 9 ?_);refine Lr rfl 47 _ rfl (w5.heap.size) rfl 47 (_) (0,0) _ HE.out.row.b2 Tryz.underlying47 rfl (by kernel_rfl) ?_));go_ret;exact ⟨by rw [HZ1.out];rfl,HE.out.row.be⟩
end
end Go.Proofs.YtapanepkfbamhaaGreatDoor
