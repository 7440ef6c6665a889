/- Of HistorySwaps. -/
import Derived.Test.YtoakknkmjnebjaaGreatDoorSAW
import Derived.Test.YtoakknkmjnebjaaGreatDoorInsS
namespace Go.Proofs.YtoakknkmjnebjaaGreatDoor
open Tryz (prog)
set_option maxRecDepth 100000
set_option maxHeartbeats 4000000
section
open Go.RowKit
noncomputable def Ud (rcd:Bz) (id:Int):Option DSet:=match Xc rcd with
 |none=>none
 |some e=>if e.d.id=id then some e.d else none
theorem en_mid {W:Wd} {g:Nat} {e:En} {a:EnA} (h:Blk W g 159 (enC e a).toArray):W.rangeAt g 2 (dC e.d):=fun j v hv=>by
 have hj:j<21:=(List.getElem?_eq_some_iff.1 hv).1;have h2:=dC_in e a j hj;rw [h.cell,←hv,←h2];simp
theorem results_dt (W:Wd) (b:Nat) (cs:Array Value) (h:Blk W b 27 cs) (hs:cs.size=21):(loadVar 27 ⟨b,0,none⟩).run prog W = .ok (.agg cs) W:=
 run_loadVar_row W b 27 27 cs (0,0) _ h Tryz.underlying27 rfl (by rw [hs];kernel_rfl)
structure TB (c:Chg) (e:En) (a:EnA) (p:Nat) (w W:Wd):Prop where
 b0:Blk W w.heap.size 58 (chC c).toArray
 b1:Blk W (w.heap.size+1) 27 (dC dZ).toArray
 b2:Blk W p 159 (enC e a).toArray
 be:Below w.heap.size w W
 lt:w.heap.size+2≤p
theorem tb_mk {c:Chg} {e g:En} {a b:EnA} {w W:Wd} (h0:Blk W w.heap.size 58 (chC c).toArray) (h1:Blk W (w.heap.size+1) 27 (dC dZ).toArray) (be:Below w.heap.size w W) (o1 o2:Array Value):
  TB c e a W.heap.size w ((((W.alloc (.cells o1 159)).alloc (.cells o2 159)).setRow W.heap.size (enC e a).toArray).setRow (W.heap.size+1) (enC g b).toArray):=
 have z1:=h1.lt
 ⟨Um (Um ((h0.alloc _).alloc _) (by omega)) (by omega),Um (Um ((h1.alloc _).alloc _) (by omega)) (by omega),Um (setRow_heap _ _ o1 _ _ _ ((Blk.new W _ _).alloc _)) (by omega),
  U6 (U6 ((be.alloc be.size _).alloc (by have:=be.size;simp;omega) _) (by have:=be.size;omega) _) (by have:=be.size;omega) _,by omega⟩
def ToldR (e:En) (q:Bool) (w:Wd) (x:Ending) (w':Wd):Prop:=x = .returned (.tuple #[.agg (dC e.d).toArray,.bool q])∧Below w.heap.size w w'
def ParR (e:En) (k:Int) (w:Wd) (x:Ending) (w':Wd):Prop:=(∃ (a:EnA) (g:En) (b:EnA),x = .returned (.tuple #[.agg (enC e a).toArray,.agg (enC g b).toArray,.int .i64 k]))∧Below w.heap.size w w'
theorem told_at (c:Chg) (e:En) (k:Int) (w:Wd) (hk:k=0∨k=11)
  (HP0:Calls prog 87 #[.string c.rcd] ((w.alloc (.cells (chC c).toArray 58)).alloc (.cells (dC dZ).toArray 27)) (ParR e k ((w.alloc (.cells (chC c).toArray 58)).alloc (.cells (dC dZ).toArray 27)))):
  Calls prog 69 #[.agg (chC c).toArray] w (ToldR e ((k == 0)&&(e.d.id == c.id)) w):=by
 have HP:=Hd HP0;have c3:∀ old,((w.alloc (.cells (chC c).toArray 58)).alloc (.cells old 27)).cell? ⟨w.heap.size,3,none⟩=some (.string c.rcd):=fun old=>(((Blk.new w 58 (chC c).toArray).alloc _).cell 3).trans rfl
 have H0:Hid (Blk ((w.alloc (.cells (chC c).toArray 58)).alloc (.cells (dC dZ).toArray 27)) w.heap.size 58 (chC c).toArray∧Blk ((w.alloc (.cells (chC c).toArray 58)).alloc (.cells (dC dZ).toArray 27)) (w.heap.size+1) 27 (dC dZ).toArray∧Below w.heap.size w ((w.alloc (.cells (chC c).toArray 58)).alloc (.cells (dC dZ).toArray 27))):=Hd ⟨(Blk.new w _ _).alloc _,U3 (w.alloc _) _ _ _ (by simp),((Bf _ _).alloc (Le _) _).alloc (by simp) _⟩;clear HP0;rcases hk with rfl|rfl
 ·go_enter Tryz.func69,Tryz.ntmps69
  go_wp2_with (first|(go_at_call 87;refine HP.out.mono ?_;rintro x w5 ⟨⟨a,g,b,rfl⟩,hb⟩;have i8:Hid (∀ o1 o2,Blk ((w5.alloc (.cells o1 159)).alloc (.cells o2 159)) w5.heap.size 159 o1):=Hd fun o1 o2=>(Blk.new w5 _ _).alloc _;have HBb:Hid (∀ o1 o2,Blk ((w5.alloc (.cells o1 159)).alloc (.cells o2 159)) (w5.heap.size+1) 159 o2):=Hd fun o1 o2=>U3 (w5.alloc _) _ _ _ (by simp);have HTB:Hid (TB c e a w5.heap.size w ((((w5.alloc (.cells (enC enZ enN).toArray 159)).alloc (.cells (enC enZ enN).toArray 159)).setRow w5.heap.size (enC e a).toArray).setRow (w5.heap.size+1) (enC g b).toArray)):=Hd (tb_mk (g:=g) (b:=b) (H0.out.1.below hb H0.out.1.lt) (H0.out.2.1.below hb H0.out.2.1.lt) (U0 H0.out.2.2 hb H0.out.2.2.size) _ _);clear hb c3)|((with_reducible refine Gt 159 4 ?_);refine Lv 159 w5.heap.size ((enC e a).toArray) (i8.out _ _) (Vd _ _) ?_)|((with_reducible refine Gt 159 5 ?_);refine Lv 159 (w5.heap.size+1) ((enC g b).toArray) (Um (HBb.out _ _) (by omega)) (Vd _ _) ?_))
  have kO:Hid (TB c e a w5.heap.size w ((((w5.alloc (.cells (enC enZ enN).toArray 159)).alloc (.cells (enC enZ enN).toArray 159)).setRow w5.heap.size (enC e a).toArray).setRow (w5.heap.size+1) (enC g b).toArray).drew):=Hd ⟨HTB.out.b0,HTB.out.b1,HTB.out.b2,HTB.out.be.drew,HTB.out.lt⟩;refine Rw (S:=fun w'=>Blk w' w.heap.size 58 (chC c).toArray∧Blk w' w5.heap.size 159 (enC e a).toArray) (by kernel_rfl) ⟨kO.out.b0,kO.out.b2⟩ (fun Hh=>?_);refine tk 0 (.pointer (some ⟨w5.heap.size,2,none⟩)) Hh ?_;refine tk 1 (.agg (dC e.d).toArray) Hh ?_ (y:=by exact yieldsIf_load_mid (by rfl) 27 _ rfl w5.heap.size 2 rfl (dC e.d) _ (fun w' aH=>en_mid aH.2) Tryz.underlying27 rfl (by kernel_rfl));refine tk 2 (.int .i64 0) Hh ?_;refine tk 3 (.bool true) Hh ?_;refine tk 4 (.bool true) Hh ?_;refine tk 5 (.pointer (some ⟨w5.heap.size,2,none⟩)) Hh ?_
  refine tk 6 (.pointer (some ⟨w5.heap.size,2,none⟩)) Hh ?_;refine tj 7 (.int .i64 e.d.id) Hh ?_ (y:=by intro w' aH;have h1:=(aH.2.cell 2).trans (show _=some (Value.int .i64 e.d.id) from rfl);go_simp);refine tk 8 (.pointer (some ⟨w.heap.size,1,none⟩)) Hh ?_;refine tj 9 (.int .i64 c.id) Hh ?_ (y:=by intro w' aH;have h1:=(aH.1.cell 1).trans (show _=some (Value.int .i64 c.id) from rfl);go_simp);refine tk 10 (.bool (e.d.id == c.id)) Hh ?_;refine tk 11 (.bool (e.d.id == c.id)) Hh ?_;refine Aq [12] ?_;refine Rc (fun K hK=>?_) ?_
  ·refine wp_store_row 27 _ _ rfl (w.heap.size+1) (dC e.d).toArray rfl rfl 27 _ kO.out.b1 (by kernel_rfl) rfl (Zg _) ?_;refine hK.out _ _ ⟨Um Hh.1 (by omega),Um Hh.2 (by have:=kO.out.lt;omega)⟩ (fun Hh=>?_);clear hK K;try simp only [Act.put]
   refine tk 13 (.bool (e.d.id == c.id)) Hh ?_;refine Ad (by kernel_rfl) ?_ _;clear Hh;go_wp2;have cB:=results_dt (((((w5.alloc (.cells (enC enZ enN).toArray 159)).alloc (.cells (enC enZ enN).toArray 159)).setRow w5.heap.size (enC e a).toArray).setRow (w5.heap.size+1) (enC g b).toArray).drew.setRow (w.heap.size+1) (dC e.d).toArray) (w.heap.size+1) _ (setRow_heap _ _ _ _ _ _ kO.out.b1) rfl;exact Br (v:=.tuple #[.agg (dC e.d).toArray,.bool (e.d.id == c.id)]) (U4 Tryz.results69 rfl rfl cB) rfl ⟨by simp,U6 kO.out.be (by omega) _⟩
  exact An
 ·go_enter Tryz.func69,Tryz.ntmps69
  go_wp2_with (first|(go_at_call 87;refine HP.out.mono ?_;rintro x w5 ⟨⟨a,g,b,rfl⟩,hb⟩;have i8:Hid (∀ o1 o2,Blk ((w5.alloc (.cells o1 159)).alloc (.cells o2 159)) w5.heap.size 159 o1):=Hd fun o1 o2=>(Blk.new w5 _ _).alloc _;have HBb:Hid (∀ o1 o2,Blk ((w5.alloc (.cells o1 159)).alloc (.cells o2 159)) (w5.heap.size+1) 159 o2):=Hd fun o1 o2=>U3 (w5.alloc _) _ _ _ (by simp);have HTB:Hid (TB c e a w5.heap.size w ((((w5.alloc (.cells (enC enZ enN).toArray 159)).alloc (.cells (enC enZ enN).toArray 159)).setRow w5.heap.size (enC e a).toArray).setRow (w5.heap.size+1) (enC g b).toArray)):=Hd (tb_mk (g:=g) (b:=b) (H0.out.1.below hb H0.out.1.lt) (H0.out.2.1.below hb H0.out.2.1.lt) (U0 H0.out.2.2 hb H0.out.2.2.size) _ _);clear hb c3)|((with_reducible refine Gt 159 4 ?_);refine Lv 159 w5.heap.size ((enC e a).toArray) (i8.out _ _) (Vd _ _) ?_)|((with_reducible refine Gt 159 5 ?_);refine Lv 159 (w5.heap.size+1) ((enC g b).toArray) (Um (HBb.out _ _) (by omega)) (Vd _ _) ?_))
  have kO:Hid (TB c e a w5.heap.size w ((((w5.alloc (.cells (enC enZ enN).toArray 159)).alloc (.cells (enC enZ enN).toArray 159)).setRow w5.heap.size (enC e a).toArray).setRow (w5.heap.size+1) (enC g b).toArray).drew):=Hd ⟨HTB.out.b0,HTB.out.b1,HTB.out.b2,HTB.out.be.drew,HTB.out.lt⟩;refine Rw (S:=fun w'=>Blk w' w.heap.size 58 (chC c).toArray∧Blk w' w5.heap.size 159 (enC e a).toArray) (by kernel_rfl) ⟨kO.out.b0,kO.out.b2⟩ (fun Hh=>?_);refine tk 0 (.pointer (some ⟨w5.heap.size,2,none⟩)) Hh ?_;refine tk 1 (.agg (dC e.d).toArray) Hh ?_ (y:=by exact yieldsIf_load_mid (by rfl) 27 _ rfl w5.heap.size 2 rfl (dC e.d) _ (fun w' aH=>en_mid aH.2) Tryz.underlying27 rfl (by kernel_rfl));refine tk 2 (.int .i64 11) Hh ?_;refine tk 3 (.bool false) Hh ?_;refine tk 4 (.bool false) Hh ?_;refine tku 5 Hh ?_;refine tku 6 Hh ?_;refine tku 7 Hh ?_
  refine tku 8 Hh ?_;refine tku 9 Hh ?_;refine tku 10 Hh ?_;refine tk 11 (.bool false) Hh ?_;refine Aq [12] ?_;refine Rc (fun K hK=>?_) ?_
  ·refine wp_store_row 27 _ _ rfl (w.heap.size+1) (dC e.d).toArray rfl rfl 27 _ kO.out.b1 (by kernel_rfl) rfl (Zg _) ?_;refine hK.out _ _ ⟨Um Hh.1 (by omega),Um Hh.2 (by have:=kO.out.lt;omega)⟩ (fun Hh=>?_);clear hK K;try simp only [Act.put]
   refine tk 13 (.bool false) Hh ?_;refine Ad (by kernel_rfl) ?_ _;clear Hh;go_wp2;have cB:=results_dt (((((w5.alloc (.cells (enC enZ enN).toArray 159)).alloc (.cells (enC enZ enN).toArray 159)).setRow w5.heap.size (enC e a).toArray).setRow (w5.heap.size+1) (enC g b).toArray).drew.setRow (w.heap.size+1) (dC e.d).toArray) (w.heap.size+1) _ (setRow_heap _ _ _ _ _ _ kO.out.b1) rfl;exact Br (v:=.tuple #[.agg (dC e.d).toArray,.bool false]) (U4 Tryz.results69 rfl rfl cB) rfl ⟨by simp,U6 kO.out.be (by omega) _⟩
  exact An
theorem told_any (c:Chg) (w:Wd) (hs:c.rcd.size≤maxLen) (ht:Sta w):Calls prog 69 #[.agg (chC c).toArray] w (ToldG (Ud c.rcd c.id) c.id w):=by
 have hb:Below w.heap.size w ((w.alloc (.cells (chC c).toArray 58)).alloc (.cells (dC dZ).toArray 27)):=((Bf _ _).alloc (Le _) _).alloc (by simp) _;have h:=parse_any c.rcd ((w.alloc (.cells (chC c).toArray 58)).alloc (.cells (dC dZ).toArray 27)) (by unfold maxLen at hs;omega) hs (ht.after hb);unfold Ud;unfold ParG at h;cases hp:Xc c.rcd with
 |none=>
  rw [hp] at h;exact (told_at c enZ 11 w (.inr rfl) (h.mono fun _ _ h2=>⟨⟨enN,enZ,enN,h2.1⟩,h2.2⟩)).mono fun _ _ h3=>⟨⟨_,h3.1⟩,h3.2⟩
 |some e=>
  rw [hp] at h;have h4:=told_at c e 0 w (.inl rfl) (h.mono fun _ _ h2=>h2);by_cases hi:e.d.id=c.id
  ·simp only [if_pos hi];exact h4.mono fun _ _ h3=>⟨⟨hi,by rw [h3.1,hi];simp⟩,h3.2⟩
  ·simp only [if_neg hi];exact h4.mono fun _ _ h3=>⟨⟨e.d,by rw [h3.1];simp [hi]⟩,h3.2⟩
end
section
open Go.RowKit
def NdP (s:List PC):Prop:=(s.map (·.d.id)).Nodup
def putR:List PC→PC→List PC
 | [],x=>[x]
 |y::r,x=>if y.d.id=x.d.id then x::r else y::putR r x
def delR:List PC→Int→List PC
 | [],_=>[]
 |y::r,i=>if y.d.id=i then r else y::delR r i
theorem putP_eq:∀ (s:List PC) (x:PC),I9 s x=putR s x
 | [],x=>rfl
 |y::r,x=>by
  have ih:=putP_eq r x;unfold I9 at ih ⊢;rw [List.findIdx_cons];unfold putR;by_cases h:y.d.id=x.d.id
  ·have hi:isP x.d.id y=true:=by simp [isP,h]
   rw [hi,if_pos h];simp
  ·have hi:isP x.d.id y=false:=by simp [isP,h]
   rw [hi,if_neg h,←ih];simp only [List.length_cons,Nat.add_lt_add_iff_right,cond_false];by_cases hl:r.findIdx (isP x.d.id)<r.length
   ·rw [if_pos hl,if_pos hl];rfl
   ·rw [if_neg hl,if_neg hl];rfl
theorem delP_eq:∀ (s:List PC) (i:Int),delP s i=delR s i
 | [],i=>rfl
 |y::r,i=>by
  have ih:=delP_eq r i;unfold delP at ih ⊢;rw [List.findIdx_cons];unfold delR;by_cases h:y.d.id=i
  ·have hi:isP i y=true:=by simp [isP,h]
   rw [hi,if_pos h];rfl
  ·have hi:isP i y=false:=by simp [isP,h]
   rw [hi,if_neg h,←ih];rfl
theorem getP_nil (id:Int):V4 [] id=none:=rfl
theorem Z7 (y:PC) (r:List PC) (id:Int):V4 (y::r) id=if y.d.id=id then some y else V4 r id:=by
 unfold V4;rw [List.find?_cons];by_cases h:y.d.id=id
 ·have hi:isP id y=true:=by simp [isP,h]
  rw [hi,if_pos h]
 ·have hi:isP id y=false:=by simp [isP,h]
  rw [hi,if_neg h]
theorem getP_mem {s:List PC} {id:Int} {x:PC} (h:V4 s id=some x):x∈s:=List.mem_of_find?_eq_some h
theorem getP_put (s:List PC) (x:PC) (id:Int):V4 (I9 s x) id=if x.d.id=id then some x else V4 s id:=by
 rw [putP_eq];induction s with
 |nil=>rw [putR,Z7]
 |cons y r ih=>
  rw [putR,Z7];by_cases h:y.d.id=x.d.id
  ·rw [if_pos h,Z7];by_cases h2:x.d.id=id
   ·rw [if_pos h2,if_pos h2]
   ·rw [if_neg h2,if_neg h2,if_neg (by rw [h];exact h2)]
  ·rw [if_neg h,Z7,ih];by_cases h2:y.d.id=id
   ·rw [if_pos h2,if_pos h2,if_neg (by rw [←h2];exact fun e=>h e.symm)]
   ·rw [if_neg h2,if_neg h2]
theorem getP_none {s:List PC} {id:Int} (h:id ∉ s.map (·.d.id)):V4 s id=none:=by
 unfold V4;rw [List.find?_eq_none];intro x hx;simp only [isP,decide_eq_true_eq];exact fun e=>h (List.mem_map.2 ⟨x,hx,e⟩)
theorem getP_del {s:List PC} (hn:NdP s) (i id:Int):V4 (delP s i) id=if i=id then none else V4 s id:=by
 rw [delP_eq];induction s with
 |nil=>rw [delR,getP_nil];simp
 |cons y r ih=>
  have hy:y.d.id ∉ r.map (·.d.id):=(List.nodup_cons.1 hn).1;have hr:NdP r:=(List.nodup_cons.1 hn).2;rw [delR,Z7];by_cases h:y.d.id=i
  ·rw [if_pos h];by_cases h2:i=id
   ·rw [if_pos h2];exact getP_none (by rw [←h2,←h];exact hy)
   ·rw [if_neg h2,if_neg (by rw [h];exact h2)]
  ·rw [if_neg h,Z7,ih hr];by_cases h2:y.d.id=id
   ·rw [if_pos h2,if_pos h2,if_neg (by rw [←h2];exact fun e=>h e.symm)]
   ·rw [if_neg h2,if_neg h2]
theorem putR_ids:∀ (s:List PC) (x:PC),(putR s x).map (·.d.id)=if x.d.id∈s.map (·.d.id) then s.map (·.d.id) else s.map (·.d.id)++[x.d.id]
 | [],x=>by simp [putR]
 |y::r,x=>by
  rw [putR];by_cases h:y.d.id=x.d.id
  ·rw [if_pos h,List.map_cons,List.map_cons,h,if_pos List.mem_cons_self]
  ·rw [if_neg h,List.map_cons,putR_ids r x,List.map_cons];by_cases h2:x.d.id∈r.map (·.d.id)
   ·rw [if_pos h2,if_pos (List.mem_cons_of_mem _ h2)]
   ·rw [if_neg h2,if_neg (by simp only [List.mem_cons,not_or];exact ⟨fun e=>h e.symm,h2⟩)];rfl
theorem put_nd {s:List PC} (h:NdP s) (x:PC):NdP (I9 s x):=by
 unfold NdP at h ⊢;rw [putP_eq,putR_ids];split
 ·exact h
 ·rename_i hx;refine List.nodup_append.2 ⟨h,by simp,fun a ha b hb=>?_⟩;rw [List.mem_singleton] at hb;subst hb;exact fun e=>hx (e▸ha)
theorem delR_sub:∀ (s:List PC) (i:Int),(delR s i).Sublist s
 | [],i=>List.Sublist.refl _
 |y::r,i=>by
  rw [delR];split
  ·exact List.sublist_cons_self _ _
  ·exact (delR_sub r i).cons_cons y
theorem del_nd {s:List PC} (h:NdP s) (i:Int):NdP (delP s i):=by
 unfold NdP at h ⊢;rw [delP_eq];exact h.sublist ((delR_sub s i).map _)
theorem ids_get {s:List PC} {i:Int}:i∈s.map (·.d.id)↔(V4 s i).isSome=true:=by
 constructor
 ·intro h;cases hg:V4 s i with
  |some x=>rfl
  |none=>
   obtain ⟨x,hx,he⟩:=List.mem_map.1 h;have:=List.find?_eq_none.1 hg x hx;simp [isP,he] at this
 ·intro h;cases hg:V4 s i with
  |none=>rw [hg] at h;cases h
  |some x=>exact List.mem_map.2 ⟨x,getP_mem hg,getP_id hg⟩
noncomputable def crt1 (num:Int) (c:Chg) (v:Option PC):Option (Option PC):=
 if v.isSome=true∨c.kind≠4 then some v else match Ud c.rcd c.id with
  |none=>none
  |some d=>some (some ⟨d,num-1,[]⟩)
noncomputable def El (n:Int) (c:Chg) (v:Option PC):Int ⊕ Option PC:=match v with
 |none=>.inr none
 |some x=>
  if c.kind=5 then .inr none
  else if c.kind=6∨c.kind=7 then (match Ud c.rcd c.id with
   |none=>.inr (some x)
   |some d=>.inr (some ⟨d,x.ap,x.ps⟩))
  else if c.kind=4 then .inr (some x)
  else match doF x n c with
   |.inl e=>.inl e
   |.inr y=>.inr (some y)
noncomputable def ga1 (num id:Int):List Chg→Option PC→Option (Option PC)
 | [],v=>some v
 |c::r,v=>if c.id=id then (match crt1 num c v with
  |none=>none
  |some v1=>ga1 num id r v1) else ga1 num id r v
noncomputable def ga2 (num id:Int):Nat→List Chg→Option PC→Int ⊕ Option PC
 |_,[],v=>.inr v
 |i,c::r,v=>if c.id=id then (match El (num+i) c v with
  |.inl e=>.inl e
  |.inr v1=>ga2 num id (i+1) r v1) else ga2 num id (i+1) r v
noncomputable def gaU (num id:Int) (cs:List Chg) (v:Option PC):Int ⊕ Option PC:=match ga1 num id cs v with
 |none=>.inl 11
 |some v1=>ga2 num id 0 cs v1
theorem H7 {rcd:Bz} {id:Int} {d:DSet} (h:Ud rcd id=some d):d.id=id:=by
 unfold Ud at h;split at h
 ·cases h
 ·split at h
  ·rename_i e _ he;injection h with h
   subst h;exact he
  ·cases h
theorem aft1_loc (num:Int):∀ (cs:List Chg) (s s1:List PC),NdP s→Jm Ud num cs s=some s1→NdP s1∧∀ id,ga1 num id cs (V4 s id)=some (V4 s1 id)
 | [],s,s1,hs,h=>by
  injection h with h
  subst h;exact ⟨hs,fun id=>rfl⟩
 |c::r,s,s1,hs,h=>by
  unfold Jm at h;split at h
  ·rename_i hc;obtain ⟨h1,h2⟩:=aft1_loc num r s s1 hs h;refine ⟨h1,fun id=>?_⟩;unfold ga1;by_cases hi:c.id=id
   ·subst hi;rw [if_pos rfl,crt1,if_pos hc];exact h2 _
   ·rw [if_neg hi];exact h2 _
  ·rename_i hc;split at h
   ·cases h
   ·rename_i d hd;obtain ⟨h1,h2⟩:=aft1_loc num r _ s1 (put_nd hs _) h;refine ⟨h1,fun id=>?_⟩;have h3:=h2 id;rw [getP_put] at h3;have hdi:(⟨d,num-1,[]⟩:PC).d.id=c.id:=H7 hd;rw [hdi] at h3;unfold ga1;by_cases hi:c.id=id
    ·subst hi;rw [if_pos rfl] at h3;rw [if_pos rfl,crt1,if_neg hc,hd];exact h3
    ·rw [if_neg hi] at h3;rw [if_neg hi];exact h3
theorem aft2_loc (num:Int):∀ (cs:List Chg) (i:Nat) (s s1:List PC),NdP s→Z3 Ud doF num i cs s = .inr s1→NdP s1∧∀ id,ga2 num id i cs (V4 s id) = .inr (V4 s1 id)
 | [],i,s,s1,hs,h=>by
  injection h with h
  subst h;exact ⟨hs,fun id=>rfl⟩
 |c::r,i,s,s1,hs,h=>by
  have key:∀ s2:List PC,NdP s2→Z3 Ud doF num (i+1) r s2 = .inr s1→(∀ id,c.id≠id→V4 s2 id=V4 s id)→El (num+i) c (V4 s c.id) = .inr (V4 s2 c.id)→NdP s1∧∀ id,ga2 num id i (c::r) (V4 s id) = .inr (V4 s1 id):=by
   intro s2 hn h2 h3 h4;obtain ⟨k1,k2⟩:=aft2_loc num r (i+1) s2 s1 hn h2;refine ⟨k1,fun id=>?_⟩;unfold ga2;by_cases hi:c.id=id
   ·subst hi;rw [if_pos rfl,h4];exact k2 _
   ·rw [if_neg hi,←h3 id hi];exact k2 _
  have same:∀ id,c.id≠id→V4 s id=V4 s id:=fun _ _=>rfl
  have dR:∀ x:PC,x.d.id=c.id→(∀ id,c.id≠id→V4 (I9 s x) id=V4 s id)∧V4 (I9 s x) c.id=some x:=fun x hx=>
   ⟨fun id hi=>by rw [getP_put,hx,if_neg hi],by rw [getP_put,hx,if_pos rfl]⟩
  unfold Z3 at h;split at h
  ·rename_i hg;exact key s hs h same (by rw [hg];rfl)
  ·rename_i x hx;have hxi:=getP_id hx;split at h
   ·rename_i hk;refine key _ (del_nd hs _) h (fun id hi=>by rw [getP_del hs,if_neg hi]) ?_;rw [hx,getP_del hs,if_pos rfl];unfold El;simp only;rw [if_pos hk]
   ·rename_i hk5;split at h
    ·rename_i hk;split at h
     ·rename_i ht;refine key s hs h same ?_;rw [hx];unfold El;simp only;rw [if_neg hk5,if_pos hk,ht]
     ·rename_i d ht;have hp:=dR ⟨d,x.ap,x.ps⟩ (H7 ht);refine key _ (put_nd hs _) h hp.1 ?_;rw [hp.2,hx];unfold El;simp only;rw [if_neg hk5,if_pos hk,ht]
    ·rename_i hk67;split at h
     ·rename_i hk;refine key s hs h same ?_;rw [hx];unfold El;simp only;rw [if_neg hk5,if_neg hk67,if_pos hk]
     ·rename_i gW;split at h
      ·cases h
      ·rename_i y hy;have hp:=dR y (by rw [doF_d _ _ _ _ hy];exact hxi);refine key _ (put_nd hs _) h hp.1 ?_;rw [hp.2,hx];unfold El;simp only;rw [if_neg hk5,if_neg hk67,if_neg gW,hy]
theorem Zr {num:Int} {cs:List Chg} {s s1:List PC} (hs:NdP s) (h:aft Ud doF num cs s = .inr s1):NdP s1∧∀ id,gaU num id cs (V4 s id) = .inr (V4 s1 id):=by
 unfold aft at h;split at h
 ·cases h
 ·rename_i s2 h2;obtain ⟨k1,k2⟩:=aft1_loc num cs s s2 hs h2;obtain ⟨k3,k4⟩:=aft2_loc num cs 0 s2 s1 k1 h;refine ⟨k3,fun id=>?_⟩;unfold gaU;rw [k2 id];exact k4 id
end
section
open Go.RowKit
def RV (v w:Option PC):Prop:=v.map (fun x=>(x.d,x.ps))=w.map (fun x=>(x.d,x.ps))
def ApL (n:Int) (v:Option PC):Prop:=∀ x,v=some x→x.ap<n
def IdL (id:Int) (v:Option PC):Prop:=∀ x,v=some x→x.d.id=id
theorem RV.refl (v:Option PC):RV v v:=rfl
theorem RV.symm {v w:Option PC} (h:RV v w):RV w v:=Eq.symm h
theorem RV.trans {u v w:Option PC} (h:RV u v) (h2:RV v w):RV u w:=Eq.trans h h2
theorem RV.none {w:Option PC} (h:RV none w):w=none:=by
 cases w with
 |none=>rfl
 |some y=>cases h
theorem RV.some {x:PC} {w:Option PC} (h:RV (some x) w):∃ y,w=some y∧y.d=x.d∧y.ps=x.ps:=by
 cases w with
 |none=>cases h
 |some y=>
  unfold RV at h;simp only [Option.map_some,Option.some.injEq,Prod.mk.injEq] at h;exact ⟨y,rfl,h.1.symm,h.2.symm⟩
theorem RV.mk {x y:PC} (h1:y.d=x.d) (h2:y.ps=x.ps):RV (.some x) (.some y):=by
 unfold RV;simp [h1,h2]
theorem RV.isSome {v w:Option PC} (h:RV v w):v.isSome=w.isSome:=by
 cases v with
 |none=>rw [h.none]
 |some x=>
  obtain ⟨y,rfl,_⟩:=h.some;rfl
theorem ApL.mono {n m:Int} {v:Option PC} (h:ApL n v) (hm:n≤m):ApL m v:=fun x hx=>by have:=h x hx;omega
theorem ApL.none (n:Int):ApL n none:=fun x h=>by cases h
theorem doF_new {x y:PC} {n:Int} {c:Chg} (hi:x.d.id=c.id) (ha:x.ap<n) (h:doF x n c = .inr y):∃ l,Ew x.d x.ps c = .inr l∧y=⟨x.d,n,l⟩:=by
 unfold doF at h;split at h
 ·unfold doP at h;rw [if_neg (by rw [hi];simp;exact ha)] at h;split at h
  ·cases h
  ·rename_i l hl;split at h
   ·cases h
   ·injection h with h
    exact ⟨l,hl,h.symm⟩
 ·cases h
theorem crt1_R {num num':Int} {c:Chg} {v w v1 w1:Option PC} (h:RV v w) (ha:ApL num v) (hb:ApL num' w) (hi:IdL c.id v) (hj:IdL c.id w) (h1:crt1 num c v=some v1) (h2:crt1 num' c w=some w1):RV v1 w1∧ApL num v1∧ApL num' w1∧IdL c.id v1∧IdL c.id w1:=by
 unfold crt1 at h1 h2;rw [←h.isSome] at h2;by_cases hc:v.isSome=true∨c.kind≠4
 ·rw [if_pos hc] at h1 h2;injection h1 with h1
  injection h2 with h2
  subst h1 h2;exact ⟨h,ha,hb,hi,hj⟩
 ·rw [if_neg hc] at h1 h2;cases ht:Ud c.rcd c.id with
  |none=>rw [ht] at h1;cases h1
  |some d=>
   rw [ht] at h1 h2;injection h1 with h1
   injection h2 with h2
   subst h1 h2;have hd:=H7 ht;exact ⟨RV.mk rfl rfl,fun x hx=>by injection hx with hx;subst hx;show num-1<num;omega,fun x hx=>by injection hx with hx;subst hx;show num'-1<num';omega,fun x hx=>by injection hx with hx;subst hx;exact hd,fun x hx=>by injection hx with hx;subst hx;exact hd⟩
theorem stp1_R {n m:Int} {c:Chg} {v w v1 w1:Option PC} (h:RV v w) (ha:ApL n v) (hb:ApL m w) (hi:IdL c.id v) (hj:IdL c.id w) (h1:El n c v = .inr v1) (h2:El m c w = .inr w1):RV v1 w1∧ApL (n+1) v1∧ApL (m+1) w1∧IdL c.id v1∧IdL c.id w1:=by
 cases v with
 |none=>
  obtain rfl:=h.none;unfold El at h1 h2;injection h1 with h1
  injection h2 with h2
  subst h1 h2;exact ⟨rfl,ApL.none _,ApL.none _,fun x hx=>(by cases hx),fun x hx=>(by cases hx)⟩
 |some x=>
  obtain ⟨y,rfl,hd,hp⟩:=h.some;have hax:=ha x rfl;have hby:=hb y rfl;have hix:=hi x rfl;have hjy:=hj y rfl;have keep:RV (some x) (some y)∧ApL (n+1) (some x)∧ApL (m+1) (some y)∧IdL c.id (some x)∧IdL c.id (some y):=⟨h,ha.mono (by omega),hb.mono (by omega),hi,hj⟩
  unfold El at h1 h2;simp only at h1 h2;by_cases k5:c.kind=5
  ·rw [if_pos k5] at h1 h2;injection h1 with h1
   injection h2 with h2
   subst h1 h2;exact ⟨rfl,ApL.none _,ApL.none _,fun x hx=>(by cases hx),fun x hx=>(by cases hx)⟩
  ·rw [if_neg k5] at h1 h2;by_cases k67:c.kind=6∨c.kind=7
   ·rw [if_pos k67] at h1 h2;cases ht:Ud c.rcd c.id with
    |none=>
     rw [ht] at h1 h2;injection h1 with h1
     injection h2 with h2
     subst h1 h2;exact keep
    |some d=>
     rw [ht] at h1 h2;injection h1 with h1
     injection h2 with h2
     subst h1 h2;have hdi:=H7 ht;exact ⟨RV.mk rfl hp,fun z hz=>by injection hz with hz;subst hz;show x.ap<n+1;omega,fun z hz=>by injection hz with hz;subst hz;show y.ap<m+1;omega,fun z hz=>by injection hz with hz;subst hz;exact hdi,fun z hz=>by injection hz with hz;subst hz;exact hdi⟩
   ·rw [if_neg k67] at h1 h2;by_cases k4:c.kind=4
    ·rw [if_pos k4] at h1 h2;injection h1 with h1
     injection h2 with h2
     subst h1 h2;exact keep
    ·rw [if_neg k4] at h1 h2;cases e1:doF x n c with
     |inl e=>rw [e1] at h1;cases h1
     |inr x1=>
      cases e2:doF y m c with
      |inl e=>rw [e2] at h2;cases h2
      |inr y1=>
       rw [e1] at h1;rw [e2] at h2;injection h1 with h1
       injection h2 with h2
       subst h1 h2;obtain ⟨l1,f1,rfl⟩:=doF_new hix hax e1;obtain ⟨l2,f2,rfl⟩:=doF_new hjy hby e2;rw [hd,hp,f1] at f2;injection f2 with f2
       subst f2;exact ⟨RV.mk hd rfl,fun z hz=>by injection hz with hz;subst hz;show n<n+1;omega,fun z hz=>by injection hz with hz;subst hz;show m<m+1;omega,fun z hz=>by injection hz with hz;subst hz;exact hix,fun z hz=>by injection hz with hz;subst hz;exact hjy⟩
theorem ga1_R {num num' id:Int}:∀ (cs:List Chg) (v w v1 w1:Option PC),RV v w→ApL num v→ApL num' w→IdL id v→IdL id w→ga1 num id cs v=some v1→ga1 num' id cs w=some w1→RV v1 w1∧ApL num v1∧ApL num' w1∧IdL id v1∧IdL id w1
 | [],v,w,v1,w1,h,ha,hb,hi,hj,h1,h2=>by
  injection h1 with h1
  injection h2 with h2
  subst h1 h2;exact ⟨h,ha,hb,hi,hj⟩
 |c::r,v,w,v1,w1,h,ha,hb,hi,hj,h1,h2=>by
  unfold ga1 at h1 h2;by_cases hc:c.id=id
  ·subst hc;rw [if_pos rfl] at h1 h2;cases e1:crt1 num c v with
   |none=>rw [e1] at h1;cases h1
   |some v2=>
    cases e2:crt1 num' c w with
    |none=>rw [e2] at h2;cases h2
    |some w2=>
     rw [e1] at h1;rw [e2] at h2;obtain ⟨k1,k2,k3,k4,k5⟩:=crt1_R h ha hb hi hj e1 e2;exact ga1_R r v2 w2 v1 w1 k1 k2 k3 k4 k5 h1 h2
  ·rw [if_neg hc] at h1 h2;exact ga1_R r v w v1 w1 h ha hb hi hj h1 h2
theorem ga2_R {num num' id:Int}:∀ (cs:List Chg) (i:Nat) (v w v1 w1:Option PC),RV v w→ApL (num+i) v→ApL (num'+i) w→IdL id v→IdL id w→ga2 num id i cs v = .inr v1→ga2 num' id i cs w = .inr w1→RV v1 w1∧ApL (num+(i+cs.length:Nat)) v1∧ApL (num'+(i+cs.length:Nat)) w1∧IdL id v1∧IdL id w1
 | [],i,v,w,v1,w1,h,ha,hb,hi,hj,h1,h2=>by
  injection h1 with h1
  injection h2 with h2
  subst h1 h2;exact ⟨h,ha,hb,hi,hj⟩
 |c::r,i,v,w,v1,w1,h,ha,hb,hi,hj,h1,h2=>by
  have hl:i+(c::r).length=i+1+r.length:=by simp;omega
  rw [hl];unfold ga2 at h1 h2;by_cases hc:c.id=id
  ·subst hc;rw [if_pos rfl] at h1 h2;cases e1:El (num+i) c v with
   |inl e=>rw [e1] at h1;cases h1
   |inr v2=>
    cases e2:El (num'+i) c w with
    |inl e=>rw [e2] at h2;cases h2
    |inr w2=>
     rw [e1] at h1;rw [e2] at h2;obtain ⟨k1,k2,k3,k4,k5⟩:=stp1_R h ha hb hi hj e1 e2;exact ga2_R r (i+1) v2 w2 v1 w1 k1 (k2.mono (by omega)) (k3.mono (by omega)) k4 k5 h1 h2
  ·rw [if_neg hc] at h1 h2;exact ga2_R r (i+1) v w v1 w1 h (ha.mono (by omega)) (hb.mono (by omega)) hi hj h1 h2
theorem Gj {num num' id:Int} {cs:List Chg} {v w v1 w1:Option PC} (h:RV v w) (ha:ApL num v) (hb:ApL num' w) (hi:IdL id v) (hj:IdL id w) (h1:gaU num id cs v = .inr v1) (h2:gaU num' id cs w = .inr w1):RV v1 w1∧ApL (num+cs.length) v1∧ApL (num'+cs.length) w1∧IdL id v1∧IdL id w1:=by
 unfold gaU at h1 h2;cases e1:ga1 num id cs v with
 |none=>rw [e1] at h1;cases h1
 |some v2=>
  cases e2:ga1 num' id cs w with
  |none=>rw [e2] at h2;cases h2
  |some w2=>
   rw [e1] at h1;rw [e2] at h2;obtain ⟨k1,k2,k3,k4,k5⟩:=ga1_R cs v w v2 w2 h ha hb hi hj e1 e2;have:=ga2_R cs 0 v2 w2 v1 w1 k1 (k2.mono (by omega)) (k3.mono (by omega)) k4 k5 h1 h2;simpa using this
theorem ga1_no {num id:Int}:∀ (cs:List Chg) (v:Option PC),(∀ c∈cs,c.id≠id)→ga1 num id cs v=some v
 | [],v,_=>rfl
 |c::r,v,h=>by
  unfold ga1;rw [if_neg (h c List.mem_cons_self)];exact ga1_no r v fun x hx=>h x (List.mem_cons_of_mem _ hx)
theorem ga2_no {num id:Int}:∀ (cs:List Chg) (i:Nat) (v:Option PC),(∀ c∈cs,c.id≠id)→ga2 num id i cs v = .inr v
 | [],i,v,_=>rfl
 |c::r,i,v,h=>by
  unfold ga2;rw [if_neg (h c List.mem_cons_self)];exact ga2_no r (i+1) v fun x hx=>h x (List.mem_cons_of_mem _ hx)
theorem gaU_no {num id:Int} {cs:List Chg} {v:Option PC} (h:∀ c∈cs,c.id≠id):gaU num id cs v = .inr v:=by
 unfold gaU;rw [ga1_no cs v h];exact ga2_no cs 0 v h
end
section
open Go.RowKit
def Srt (l:List Pr):Prop:=l.Pairwise fun p q=>U8 p.key q.key=true
def lk:List Pr→Bz→Option Bz
 | [],_=>none
 |p::t,k=>if p.key=k then some p.rcd else lk t k
theorem Zv {a b:Bz} (h:(a.toList == b.toList)=true):a=b:=by
 have h2:a.toList=b.toList:=by simpa using h
 rw [Uv,Uv] at h2;exact Yh h2
theorem Zl (a:Bz):(a.toList == a.toList)=true:=by simp
theorem J6 {a b:Bz} (h:a≠b):(a.toList == b.toList)=false:=by
 cases hq:(a.toList == b.toList) with
 |false=>rfl
 |true=>exact absurd (Zv hq) h
theorem E9 {a b:Bz} (h:U8 a b=true):U8 b a=false:=by
 have:=Zd a b;rw [h] at this;simpa using this
theorem J9 {a b:Bz} (h:U8 a b=true):a≠b:=by
 intro e;subst e;rw [V6] at h;cases h
theorem Y0 {a b:Bz} (h:U8 a b=false):a=b∨U8 b a=true:=by
 have h2:=Zd a b;rw [h] at h2;by_cases e:a=b
 ·exact .inl e
 ·rw [decide_eq_false e] at h2;exact .inr h2
theorem Xb {p:Pr} {t:List Pr} (h:Srt (p::t)):Srt t∧∀ q∈t,U8 p.key q.key=true:=⟨(List.pairwise_cons.1 h).2,(List.pairwise_cons.1 h).1⟩
theorem lk_mem {k x:Bz}:∀ {l:List Pr},lk l k=some x→∃ p∈l,p.key=k∧p.rcd=x
 | [],h=>by cases h
 |p::t,h=>by
  unfold lk at h;split at h
  ·rename_i e;injection h with h
   exact ⟨p,List.mem_cons_self,e,h⟩
  ·obtain ⟨q,hq,h2⟩:=lk_mem h;exact ⟨q,List.mem_cons_of_mem _ hq,h2⟩
theorem lk_none {k:Bz}:∀ {l:List Pr},(∀ p∈l,p.key≠k)→lk l k=none
 | [],_=>rfl
 |p::t,h=>by
  unfold lk;rw [if_neg (h p List.mem_cons_self)];exact lk_none fun q hq=>h q (List.mem_cons_of_mem _ hq)
theorem Ij {p:Pr} {t:List Pr} (h:Srt (p::t)) {k:Bz} (hk:k=p.key∨U8 k p.key=true):lk t k=none:=by
 refine lk_none fun q hq e=>?_
 have h1:=(Xb h).2 q hq;rw [e] at h1;rcases hk with rfl|hk
 ·rw [V6] at h1;cases h1
 ·rw [E9 hk] at h1;cases h1
theorem srt_ext:∀ {l l':List Pr},Srt l→Srt l'→(∀ k,lk l k=lk l' k)→l=l'
 | [],[],_,_,_=>rfl
 | [],q::t,_,_,h=>by
  have:=h q.key;unfold lk at this;rw [if_pos rfl] at this;cases this
 |p::t,[],_,_,h=>by
  have:=h p.key;unfold lk at this;rw [if_pos rfl] at this;cases this
 |p::t,q::u,h1,h2,h=>by
  have hk:p.key=q.key:=by
   rcases Y0 (a:=p.key) (b:=q.key) (by
    cases hq:U8 p.key q.key with
    |false=>rfl
    |true=>
     have h3:=h p.key;unfold lk at h3;rw [if_pos rfl,if_neg (J9 hq).symm,Ij h2 (.inr hq)] at h3;cases h3) with e|e
   ·exact e
   ·have h3:=h q.key;unfold lk at h3;rw [if_neg (J9 e).symm,if_pos rfl,Ij h1 (.inr e)] at h3;cases h3
  have hr:p.rcd=q.rcd:=by
   have h3:=h p.key;unfold lk at h3;rw [if_pos rfl,if_pos hk.symm] at h3;injection h3
  have ht:t=u:=srt_ext (Xb h1).1 (Xb h2).1 fun k=>by
   by_cases e:p.key=k
   ·rw [Ij h1 (.inl e.symm),Ij h2 (.inl (by rw [←hk];exact e.symm))]
   ·have h3:=h k;unfold lk at h3;rw [if_neg e,if_neg (by rw [←hk];exact e)] at h3;exact h3
  have hp:p=q:=by
   obtain ⟨a,b⟩:=p;obtain ⟨a',b'⟩:=q;simp only at hk hr;rw [hk,hr]
  rw [hp,ht]
def Fo:List Pr→Bz→Bz→List Pr
 | [],k,r=>[⟨k,r⟩]
 |p::t,k,r=>if U8 p.key k=true then p::Fo t k r else if p.key=k then ⟨k,r⟩::t else ⟨k,r⟩::p::t
def eraL:List Pr→Bz→List Pr
 | [],_=>[]
 |p::t,k=>if U8 p.key k=true then p::eraL t k else if p.key=k then t else p::t
theorem fi_low {p:Pr} {t:List Pr} {k:Bz} (h:U8 p.key k=true):(p::t).findIdx (geK k)=t.findIdx (geK k)+1:=by
 have:geK k p=false:=by unfold geK;rw [h];rfl
 rw [List.findIdx_cons,this];rfl
theorem Jc {p:Pr} {t:List Pr} {k:Bz} (h:U8 p.key k=false):(p::t).findIdx (geK k)=0:=by
 have:geK k p=true:=by unfold geK;rw [h];rfl
 rw [List.findIdx_cons,this];rfl
theorem hk_low {p:Pr} {t:List Pr} {k:Bz} (h:U8 p.key k=true):Y4 (p::t) k=Y4 t k:=by
 unfold Y4;rw [fi_low h,Gn]
theorem Kw {p:Pr} {t:List Pr} {k:Bz} (h:U8 p.key k=false):Y4 (p::t) k=(p.key.toList == k.toList):=by
 unfold Y4;rw [Jc h];rfl
theorem hk_nil (k:Bz):Y4 [] k=false:=rfl
theorem put_is:∀ (l:List Pr) (k r:Bz),(if Y4 l k=true then l.set (l.findIdx (geK k)) ⟨k,r⟩ else Ik l (l.findIdx (geK k)) k r)=Fo l k r
 | [],k,r=>by rw [hk_nil];rfl
 |p::t,k,r=>by
  unfold Fo;cases hq:U8 p.key k with
  |true=>
   rw [hk_low hq,fi_low hq,←put_is t k r,if_pos rfl];split
   ·rfl
   ·rfl
  |false=>
   rw [Kw hq,Jc hq,if_neg Bool.false_ne_true];by_cases e:p.key=k
   ·rw [if_pos e,e,Zl,if_pos rfl];rfl
   ·rw [if_neg e,J6 e,if_neg Bool.false_ne_true];rfl
theorem era_is:∀ (l:List Pr) (k:Bz),(if Y4 l k=true then l.eraseIdx (l.findIdx (geK k)) else l)=eraL l k
 | [],k=>by rw [hk_nil];rfl
 |p::t,k=>by
  unfold eraL;cases hq:U8 p.key k with
  |true=>
   rw [hk_low hq,fi_low hq,←era_is t k,if_pos rfl];split
   ·rfl
   ·rfl
  |false=>
   rw [Kw hq,Jc hq,if_neg Bool.false_ne_true];by_cases e:p.key=k
   ·rw [if_pos e,e,Zl,if_pos rfl];rfl
   ·rw [if_neg e,J6 e,if_neg Bool.false_ne_true]
theorem lk_put:∀ (l:List Pr) (k r k':Bz),lk (Fo l k r) k'=if k=k' then some r else lk l k'
 | [],k,r,k'=>rfl
 |p::t,k,r,k'=>by
  unfold Fo;split
  ·rename_i h;unfold lk;rw [lk_put t k r k'];by_cases e:p.key=k'
   ·rw [if_pos e,if_pos e,if_neg (by rw [←e];exact (J9 h).symm)]
   ·rw [if_neg e,if_neg e]
  ·split
   ·rename_i e;show lk (⟨k,r⟩::t) k'=_;unfold lk;by_cases h2:k=k'
    ·rw [if_pos h2,if_pos h2]
    ·rw [if_neg h2,if_neg h2,if_neg (by rw [e];exact h2)]
   ·show lk (⟨k,r⟩::p::t) k'=_;rw [lk]
theorem lk_era:∀ (l:List Pr) (k k':Bz),Srt l→lk (eraL l k) k'=if k=k' then none else lk l k'
 | [],k,k',_=>by simp [eraL,lk]
 |p::t,k,k',h=>by
  unfold eraL;split
  ·rename_i hl;unfold lk;rw [lk_era t k k' (Xb h).1];by_cases e:p.key=k'
   ·rw [if_pos e,if_pos e,if_neg (by rw [←e];exact (J9 hl).symm)]
   ·rw [if_neg e,if_neg e]
  ·rename_i hl;split
   ·rename_i e;by_cases h2:k=k'
    ·rw [if_pos h2];exact Ij h (.inl (by rw [←h2,e]))
    ·rw [if_neg h2];unfold lk;rw [if_neg (by rw [e];exact h2)];cases t<;>rfl
   ·rename_i e;by_cases h2:k=k'
    ·rw [if_pos h2];unfold lk;rw [if_neg (by rw [←h2];exact e)];refine Ij h (.inr ?_);rcases Y0 (a:=p.key) (b:=k) (by simpa using hl) with h3|h3
     ·exact absurd h3 e
     ·rw [←h2];exact h3
    ·rw [if_neg h2]
theorem putL_mem:∀ (l:List Pr) (k r:Bz) (q:Pr),q∈Fo l k r→q.key=k∨q∈l
 | [],k,r,q,h=>by
  rw [Fo,List.mem_singleton] at h;subst h;exact .inl rfl
 |p::t,k,r,q,h=>by
  unfold Fo at h;split at h
  ·rcases List.mem_cons.1 h with h|h
   ·exact .inr (h▸List.mem_cons_self)
   ·rcases putL_mem t k r q h with h|h
    ·exact .inl h
    ·exact .inr (List.mem_cons_of_mem _ h)
  ·split at h
   ·rcases List.mem_cons.1 h with h|h
    ·subst h;exact .inl rfl
    ·exact .inr (List.mem_cons_of_mem _ h)
   ·rcases List.mem_cons.1 h with h|h
    ·subst h;exact .inl rfl
    ·exact .inr h
theorem srt_put:∀ (l:List Pr) (k r:Bz),Srt l→Srt (Fo l k r)
 | [],k,r,_=>by unfold Fo;exact List.pairwise_cons.2 ⟨fun q hq=>by (cases hq),List.Pairwise.nil⟩
 |p::t,k,r,h=>by
  obtain ⟨h1,h2⟩:=Xb h;unfold Fo;split
  ·rename_i hl;refine List.pairwise_cons.2 ⟨fun q hq=>?_,srt_put t k r h1⟩;rcases putL_mem t k r q hq with e|e
   ·rw [e];exact hl
   ·exact h2 q e
  ·rename_i hl;split
   ·rename_i e;exact List.pairwise_cons.2 ⟨fun q hq=>by show U8 k q.key=true;rw [←e];exact h2 q hq,h1⟩
   ·rename_i e
    have h3:U8 k p.key=true:=by
     rcases Y0 (a:=p.key) (b:=k) (by simpa using hl) with h3|h3
     ·exact absurd h3 e
     ·exact h3
    refine List.pairwise_cons.2 ⟨fun q hq=>?_,h⟩;rcases List.mem_cons.1 hq with rfl|hq
    ·exact h3
    ·exact Zc h3 (h2 q hq)
theorem eraL_sub:∀ (l:List Pr) (k:Bz),(eraL l k).Sublist l
 | [],k=>List.Sublist.refl _
 |p::t,k=>by
  unfold eraL;split
  ·exact (eraL_sub t k).cons_cons p
  ·split
   ·exact List.sublist_cons_self _ _
   ·exact List.Sublist.refl _
theorem srt_era (l:List Pr) (k:Bz) (h:Srt l):Srt (eraL l k):=List.Pairwise.sublist (eraL_sub l k) h
theorem getR_lk:∀ (l:List Pr) (k:Bz),Srt l→Fw l k=match lk l k with|some x=>(x,0)|none=>(⟨#[]⟩,6)
 | [],k,_=>rfl
 |p::t,k,h=>by
  cases hq:U8 p.key k with
  |true=>
   have ih:=getR_lk t k (Xb h).1;unfold Fw at ih ⊢;rw [hk_low hq,fi_low hq,Gn,ih];rw [show lk (p::t) k=lk t k from by rw [lk,if_neg (J9 hq)]]
  |false=>
   unfold Fw;rw [Kw hq,Jc hq];by_cases e:p.key=k
   ·rw [e,Zl,lk,if_pos e];rfl
   ·have h3:U8 k p.key=true:=(Y0 hq).resolve_left e;rw [J6 e,lk,if_neg e,Ij h (.inr h3)];rfl
def nx (l:List Pr) (k:Bz):Option Pr:=l.find? fun p=>U8 k p.key
theorem nx_head:∀ (t:List Pr) (k:Bz),(∀ q∈t,U8 k q.key=true)→t[0]? =nx t k
 | [],k,_=>rfl
 |q::t,k,h=>by
  unfold nx;rw [List.find?_cons,h q List.mem_cons_self];rfl
theorem nextR_nx:∀ (l:List Pr) (k:Bz),Srt l→l[nxI l k]? =nx l k
 | [],k,_=>rfl
 |p::t,k,h=>by
  cases hq:U8 p.key k with
  |true=>
   have ih:=nextR_nx t k (Xb h).1
   have e:nxI (p::t) k=nxI t k+1:=by
    unfold nxI;rw [hk_low hq,fi_low hq];split<;>rfl
   rw [e,Gn,ih];unfold nx;rw [List.find?_cons,E9 hq]
  |false=>
   by_cases e:p.key=k
   ·have e1:nxI (p::t) k=1:=by
     unfold nxI;rw [Kw hq,Jc hq,e,Zl];rfl
    rw [e1];show t[0]? =_;rw [nx_head t k fun q gJ=>by rw [←e];exact (Xb h).2 q gJ];unfold nx;rw [List.find?_cons,e,V6]
   ·have h3:U8 k p.key=true:=(Y0 hq).resolve_left e
    have e1:nxI (p::t) k=0:=by
     unfold nxI;rw [Kw hq,Jc hq,J6 e];rfl
    rw [e1];unfold nx;rw [List.find?_cons,h3];rfl
theorem nx_some:∀ (l:List Pr) (k a x:Bz),Srt l→(nx l k=some ⟨a,x⟩↔U8 k a=true∧lk l a=some x∧∀ k',U8 k k'=true→U8 k' a=true→lk l k'=none)
 | [],k,a,x,_=>by
  constructor
  ·intro h;cases h
  ·rintro ⟨_,h,_⟩;cases h
 |p::t,k,a,x,h=>by
  have ih:=nx_some t k a x (Xb h).1;unfold nx at ih ⊢;rw [List.find?_cons];cases hq:U8 k p.key with
  |true=>
   simp only;constructor
   ·intro e;injection e with e
    subst e;refine ⟨hq,by rw [lk,if_pos rfl],fun k' _ h2=>?_⟩;rw [lk,if_neg (J9 h2).symm];exact Ij h (.inr h2)
   ·rintro ⟨h1,h2,h3⟩;by_cases e:p.key=a
    ·rw [lk,if_pos e] at h2;injection h2 with h2
     obtain ⟨pk,pr⟩:=p;simp only at e h2;rw [e,h2]
    ·rw [lk,if_neg e] at h2;obtain ⟨q,hqm,hqk,_⟩:=lk_mem h2;have h4:=(Xb h).2 q hqm;rw [hqk] at h4;have:=h3 p.key hq h4;rw [lk,if_pos rfl] at this;cases this
  |false=>
   simp only;rw [ih]
   have eZ:∀ k',U8 k k'=true→lk (p::t) k'=lk t k':=fun k' hk=>by
    rw [lk,if_neg];intro e;rw [e] at hq;rw [hk] at hq;cases hq
   constructor
   ·rintro ⟨h1,h2,h3⟩;exact ⟨h1,by rw [eZ a h1];exact h2,fun k' h4 h5=>by rw [eZ k' h4];exact h3 k' h4 h5⟩
   ·rintro ⟨h1,h2,h3⟩;exact ⟨h1,by rw [←eZ a h1];exact h2,fun k' h4 h5=>by rw [←eZ k' h4];exact h3 k' h4 h5⟩
theorem nx_none:∀ (l:List Pr) (k:Bz),(nx l k=none↔∀ k',U8 k k'=true→lk l k'=none)
 | [],k=>⟨fun _ _ _=>rfl,fun _=>rfl⟩
 |p::t,k=>by
  have ih:=nx_none t k;unfold nx at ih ⊢;rw [List.find?_cons];cases hq:U8 k p.key with
  |true=>
   simp only;constructor
   ·intro e;cases e
   ·intro h2;have:=h2 p.key hq;rw [lk,if_pos rfl] at this;cases this
  |false=>
   simp only;rw [ih]
   have eZ:∀ k',U8 k k'=true→lk (p::t) k'=lk t k':=fun k' hk=>by
    rw [lk,if_neg];intro e;rw [e] at hq;rw [hk] at hq;cases hq
   exact ⟨fun h k' hk=>by rw [eZ k' hk];exact h k' hk,fun h k' hk=>by rw [←eZ k' hk];exact h k' hk⟩
theorem fvL_srt (d:DSet):∀ (ps:List Pr) (prev:Option Bz) (j:Nat) (s:Int×List Bz×Int),fvL d prev j s ps=true→Srt ps∧∀ q,prev=some q→∀ p∈ps,U8 q p.key=true
 | [],prev,j,s,_=>⟨List.Pairwise.nil,fun q _ p hp=>by cases hp⟩
 |p::r,prev,j,s,h=>by
  unfold fvL at h;simp only [Bool.and_eq_true] at h;obtain ⟨⟨⟨h1,h2⟩,h3⟩,h4⟩:=h;obtain ⟨k1,k2⟩:=fvL_srt d r (some p.key) (j+1) _ h4;have k3:=k2 p.key rfl;refine ⟨List.pairwise_cons.2 ⟨k3,k1⟩,fun q hq x hx=>?_⟩;subst hq;have h5:U8 q p.key=true:=h2;rcases List.mem_cons.1 hx with rfl|hx
  ·exact h5
  ·exact Zc h5 (k3 x hx)
theorem fwd_srt {d:DSet} {ap:Int} {ps:List Pr} (h:In d ap ps=true):Srt ps:=by
 unfold In at h;simp only [Bool.and_eq_true] at h;exact (fvL_srt d ps none 0 _ h.2).1
end
section
open Go.RowKit
theorem Vq (w:Wd) (o:Obj):w.heap.size≤(w.alloc o).heap.size:=by simp
def chgB (x:Chg):Bool:=chB x.kind x.id x.key x.rcd x.vol
theorem v1_any (x:Chg) (w:Wd) (hv:x.vol.size≤maxLen):
  Calls prog 58 #[.agg #[.int .i64 x.kind,.int .i64 x.id,.string x.key,.string x.rcd,.string x.vol]] w fun e w'=>e = .returned (.bool (!chgB x))∧Below w.heap.size w w':=by
 obtain ⟨k,id,key,rcd,vol⟩:=x;simp only at hv ⊢;obtain ⟨R,hR⟩:∃ R,chgB ⟨k,id,key,rcd,vol⟩=R:=⟨_,rfl⟩
 rw [hR];have H:=Hd (Iy k id key rcd vol (w.alloc (.cells #[.int .i64 k,.int .i64 id,.string key,.string rcd,.string vol] 58)) hv);rw [show chB k id key rcd vol=R from hR] at H;clear hR hv;have B1:=Hd (Xg w #[.int .i64 k,.int .i64 id,.string key,.string rcd,.string vol] 58);go_enter Tryz.func58,Tryz.ntmps58;go_wp2_with fail;refine H.out.mono ?_;rintro e w1 ⟨rfl,aJ⟩;have X1:=Hd (Uc (show Below (w.heap.size+1) (w.alloc (.cells #[.int .i64 k,.int .i64 id,.string key,.string rcd,.string vol] 58)) w1 by simpa using aJ));clear aJ;go_wp2;go_ret;exact ⟨rfl,X1.out⟩
theorem v2_any (x:Rdd) (w:Wd):
  Calls prog 61 #[.agg #[.int .i64 x.kind,.int .i64 x.id,.string x.key,.string x.ak,.string x.ar,.int .i64 x.code]] w fun e w'=>e = .returned (.bool (!rdB x))∧Below w.heap.size w w':=by
 have H:=fun W=>Hd (validRead_any x W)
 obtain ⟨k,id,key,ak,ar,code⟩:=x;simp only at H ⊢;generalize rdB ⟨k,id,key,ak,ar,code⟩=R at H ⊢;have H:=H (w.alloc (.cells #[.int .i64 k,.int .i64 id,.string key,.string ak,.string ar,.int .i64 code] 49));go_enter Tryz.func61,Tryz.ntmps61;go_wp2_with fail;refine H.out.mono ?_;rintro e w1 ⟨rfl,aJ⟩;have X1:=Hd (Uc (show Below (w.heap.size+1) (w.alloc (.cells #[.int .i64 k,.int .i64 id,.string key,.string ak,.string ar,.int .i64 code] 49)) w1 by simpa using aJ));clear aJ;go_wp2;go_ret;exact ⟨rfl,X1.out⟩
def VolsOk (x:Com):Prop:=∀ c∈x.cs,c.vol.size≤maxLen
def Jl (x:Com):Bool:=Yr x.unit&&decide (x.cn≤300)&&Yr x.num&&decide (x.num+x.cn-1≤1099511627776)&&!(x.cs.any fun c => !chgB c)&&!(x.rs.any fun r => !rdB r)
theorem valid_any (x:Com) (w:Wd) (fI:ComOk w w.heap.size x) (hv:VolsOk x):
  Calls prog 34 #[comV x] w fun e w'=>e = .returned (.bool (Jl x))∧Below w.heap.size w w':=by
 obtain ⟨R,hR⟩:∃ R,Jl x=R:=⟨_,rfl⟩
 rw [hR];have jZ:=fun W h1 h2 h3=>last_any x W h1 h2 h3
 obtain ⟨unit,num,rA,rn,rc,cA,cn,cc,rs,cs⟩:=x;unfold comV at jZ ⊢;obtain ⟨dQ,dK,ho3,cO⟩:=fI;simp only [Jl] at jZ dQ dK ho3 cO hv hR ⊢;unfold maxLen at ho3 cO;have HU:Hid (∀ W:Wd,Calls prog 56 #[.int .i64 unit] W fun e w'=>e = .returned (.bool (Yr unit))∧W=w'):=Hd fun W=>K7 unit W
 have HM:Hid (∀ W:Wd,Calls prog 56 #[.int .i64 num] W fun e w'=>e = .returned (.bool (Yr num))∧W=w'):=Hd fun W=>K7 num W
 have HL:=Hd jZ
 have HC:Hid (∀ W:Wd,Below w.heap.size w W→Calls prog 57 #[.slice cA cn cc,.func (.func 58) #[] #[]] W fun e w'=>e = .returned (.bool (cs.any fun c => !chgB c))∧Below W.heap.size W w'):=
  Hd fun W hb=>chgs_any _ cA cn cc cs W (dK.after hb hb.size) (by omega) fun x hx W' _=>v1_any x W' (hv x hx)
 have HR:Hid (∀ W:Wd,Below w.heap.size w W→Calls prog 60 #[.slice rA rn rc,.func (.func 61) #[] #[]] W fun e w'=>e = .returned (.bool (rs.any fun r => !rdB r))∧Below W.heap.size W w'):=
  Hd fun W hb=>rdds_any _ rA rn rc rs W (dQ.after hb hb.size) (by omega) fun x hx W' _=>v2_any x W'
 clear jZ dQ dK ho3 cO hv;have B0:=Hd (Xg w #[.int .i64 unit,.int .i64 num,.slice rA rn rc,.slice cA cn cc] 34);cases h1:Yr unit with
 |false=>
  rw [h1] at HU;have hr:R=false:=by rw [←hR,h1];rfl
  have aT:=Hd hr;clear hR hr h1;go_enter Tryz.func34,Tryz.ntmps34;go_wp2_with (go_at_call 56;(with_reducible refine (HU.out _).mono ?_);rintro e w' ⟨rfl,rfl⟩);go_ret;exact ⟨by rw [aT.out];rfl,Uc B0.out⟩
 |true=>
 rw [h1] at HU;by_cases h2:cn≤300;rotate_left
 ·have hr:R=false:=by rw [←hR,h1];simp [h2]
  have aT:=Hd hr;have d1:decide ((300:Int)<(cn:Int))=true:=by simp;omega
  have d2:decide (300<cn)=true:=by simp;omega
  clear hR hr h1 h2;go_enter Tryz.func34,Tryz.ntmps34;go_wp2_with (go_at_call 56;(with_reducible refine (HU.out _).mono ?_);rintro e w' ⟨rfl,rfl⟩);go_ret;exact ⟨by rw [aT.out];rfl,Uc B0.out⟩
 have d1:decide ((300:Int)<(cn:Int))=false:=by simp;omega
 have d2:decide (300<cn)=false:=by simp;omega
 cases h3:Yr num with
 |false=>
  rw [h3] at HM;have hr:R=false:=by rw [←hR,h1,h3];simp
  have aT:=Hd hr;clear hR hr h1 h2 h3;go_enter Tryz.func34,Tryz.ntmps34;go_wp2_with (go_at_call 56;first|((with_reducible refine (HU.out _).mono ?_);rintro e w' ⟨rfl,rfl⟩)|((with_reducible refine (HM.out _).mono ?_);rintro e w' ⟨rfl,rfl⟩));go_ret;exact ⟨by rw [aT.out];rfl,Uc B0.out⟩
 |true=>
 rw [h3] at HM;obtain ⟨n1,n2⟩:=Fs h3;have mD:=Hd (HL.out (w.alloc (.cells #[.int .i64 unit,.int .i64 num,.slice rA rn rc,.slice cA cn cc] 34)) n1 n2 h2);obtain ⟨q,hq⟩:∃ q:Int,num+cn-1=q:=⟨_,rfl⟩
 rw [hq] at mD hR;clear HL hq n1 n2;by_cases h4:q≤1099511627776;rotate_left
 ·have hr:R=false:=by rw [←hR,h1,h3];simp [h4]
  have aT:=Hd hr;have d4:decide ((1099511627776:Int)<q)=true:=by simp;omega
  clear hR hr h1 h2 h3 h4;go_enter Tryz.func34,Tryz.ntmps34;go_wp2_with (first|(go_at_call 56;(with_reducible refine (HU.out _).mono ?_);rintro e w' ⟨rfl,rfl⟩)|(go_at_call 56;(with_reducible refine (HM.out _).mono ?_);rintro e w' ⟨rfl,rfl⟩)|(go_at_call 40;refine mD.out.mono ?_;rintro e w1 ⟨rfl,aJ⟩;have x1:=Hd (show Below (w.heap.size+1) (w.alloc (.cells #[.int .i64 unit,.int .i64 num,.slice rA rn rc,.slice cA cn cc] 34)) w1 by simpa using aJ);clear aJ));go_ret;exact ⟨by rw [aT.out];rfl,Uc x1.out⟩
 have d4:decide ((1099511627776:Int)<q)=false:=by simp;omega
 have hr:R=(!(cs.any fun c => !chgB c)&&!(rs.any fun r => !rdB r)):=by rw [←hR,h1,h3];simp [h2,h4]
 clear hR h1 h2 h3 h4;generalize (cs.any fun c => !chgB c)=p1 at HC hr;generalize (rs.any fun r => !rdB r)=p2 at HR hr;have aT:=Hd hr;clear hr;cases p1 with
 |true=>
  go_enter Tryz.func34,Tryz.ntmps34;go_wp2_with (first|(go_at_call 56;(with_reducible refine (HU.out _).mono ?_);rintro e w' ⟨rfl,rfl⟩)|(go_at_call 56;(with_reducible refine (HM.out _).mono ?_);rintro e w' ⟨rfl,rfl⟩)|(go_at_call 40;refine mD.out.mono ?_;rintro e w1 ⟨rfl,aJ⟩;have x1:=Hd (show Below (w.heap.size+1) (w.alloc (.cells #[.int .i64 unit,.int .i64 num,.slice rA rn rc,.slice cA cn cc] 34)) w1 by simpa using aJ);have c2:=Zo x1.out 2;have c3:=Zo x1.out 3;simp at c2 c3;clear aJ)|(go_at_call 57;refine (HC.out _ (Uc x1.out)).mono ?_;rintro e w2 ⟨rfl,aF⟩;have x2:=Hd (U0 x1.out aF (Vn x1.out));have k2:=Zo x2.out 2;simp at k2;clear aF));go_ret;exact ⟨by rw [aT.out];rfl,Uc x2.out⟩
 |false=>
  go_enter Tryz.func34,Tryz.ntmps34;go_wp2_with (first|(go_at_call 56;(with_reducible refine (HU.out _).mono ?_);rintro e w' ⟨rfl,rfl⟩)|(go_at_call 56;(with_reducible refine (HM.out _).mono ?_);rintro e w' ⟨rfl,rfl⟩)|(go_at_call 40;refine mD.out.mono ?_;rintro e w1 ⟨rfl,aJ⟩;have x1:=Hd (show Below (w.heap.size+1) (w.alloc (.cells #[.int .i64 unit,.int .i64 num,.slice rA rn rc,.slice cA cn cc] 34)) w1 by simpa using aJ);have c2:=Zo x1.out 2;have c3:=Zo x1.out 3;simp at c2 c3;clear aJ)|(go_at_call 57;refine (HC.out _ (Uc x1.out)).mono ?_;rintro e w2 ⟨rfl,aF⟩;have x2:=Hd (U0 x1.out aF (Vn x1.out));have k2:=Zo x2.out 2;simp at k2;clear aF)|(go_at_call 60;refine (HR.out _ (Uc x2.out)).mono ?_;rintro e w3 ⟨rfl,b7⟩;have x3:=Hd (U0 x2.out b7 (Vn x2.out));clear b7));go_ret;exact ⟨by rw [aT.out];cases p2<;>rfl,Uc x3.out⟩
end
section
open Go.Sort
section
variable {α:Type} [Inhabited α] {lt:α→α→Bool}
theorem swp_list {d:Array α} {p s:List α} {x y:α} (h:d.toList=p++y::x::s):(swp d (p.length+1) p.length).toList=p++x::y::s:=by
 obtain ⟨l⟩:=d;simp only at h;subst h;have e1:(p++y::x::s).toArray[p.length]! =y:=by simp
 have e2:(p++y::x::s).toArray[p.length+1]! =x:=by
  simp
 unfold swp;rw [e1,e2];simp only [Sv,List.toList_toArray];apply List.ext_getElem?;intro i;simp only [List.getElem?_set,List.getElem?_append,List.length_set,List.length_append,List.length_cons];rcases Nat.lt_trichotomy i p.length with h|h|h
 ·rw [if_neg (by omega),if_neg (by omega),if_pos h,if_pos h]
 ·subst h;simp
 ·rcases Nat.lt_trichotomy i (p.length+1) with h'|h'|h'
  ·omega
  ·subst h';simp
  ·rw [if_neg (by omega),if_neg (by omega),if_neg (by omega),if_neg (by omega)];obtain ⟨k,rfl⟩:∃ k,i=p.length+2+k:=⟨i-(p.length+2),by omega⟩
   have:p.length+2+k-p.length=k+2:=by omega
   rw [this];rfl
theorem Jt:∀ (j:Nat) (p:List α) (x:α) (s:List α) (d:Array α),p.length=j→d.toList=p++x::s→(insInner lt 0 j d).toList=Et lt x p++s
 |0,p,x,s,d,hp,hd=>by
  have:p = []:=List.eq_nil_of_length_eq_zero hp;subst this;unfold insInner;simpa [Et,Es] using hd
 |j+1,p,x,s,d,hp,hd=>by
  obtain ⟨q,y,rfl⟩:∃ q y,p=q++[y]:=⟨p.dropLast,p.getLast (by intro h;subst h;simp at hp),(List.dropLast_concat_getLast _).symm⟩
  have hq:q.length=j:=by simpa using hp
  have hd':d.toList=q++y::x::s:=by simpa using hd
  have e1:d[j]! =y:=by
   obtain ⟨l⟩:=d;simp only at hd';subst hd';rw [←hq];simp
  have e2:d[j+1]! =x:=by
   obtain ⟨l⟩:=d;simp only at hd';subst hd';rw [←hq];simp
  unfold insInner;rw [e1,e2]
  have hr:Et lt x (q++[y])=if lt x y then Et lt x q++[y] else q++[y]++[x]:=by
   unfold Et;rw [List.reverse_append];show ((if lt x y then _ else _:List α)).reverse=_;split<;>simp
  by_cases hl:lt x y=true
  ·rw [if_pos (by simp [hl]),hr,if_pos hl];have hs:=swp_list (d:=d) (p:=q) (s:=s) (x:=x) (y:=y) hd';rw [hq] at hs;rw [Jt j q x (y::s) _ hq hs];simp
  ·rw [if_neg (by simp [hl]),hr,if_neg hl,hd'];simp
theorem Js (n:Nat):∀ (m i:Nat) (a b:List α) (d:Array α),n-i=m→a.length=i→i≤n→d.toList=a++b→d.size=n→(insOuter lt 0 n i d).toList=Xu lt a b
 |0,i,a,b,d,hm,ha,hi,hd,hs=>by
  have hl:a.length+b.length=n:=by rw [←hs,←Array.length_toList,hd,List.length_append]
  have:b = []:=List.eq_nil_of_length_eq_zero (by omega);subst this;rw [insOuter,if_neg (by omega),hd];simp [Xu]
 |m+1,i,a,b,d,hm,ha,hi,hd,hs=>by
  have hl:a.length+b.length=n:=by rw [←hs,←Array.length_toList,hd,List.length_append]
  match b,hd with
  | [],_=>simp at hl;omega
  |x::b,hd=>
   have h1:=Jt (lt:=lt) i a x b d ha hd;rw [insOuter,if_pos (by omega)]
   have h2:(insInner lt 0 i d).size=n:=by
    rw [←Array.length_toList,h1,List.length_append,insB_len];simp at hl;omega
   exact Js n m (i+1) (Et lt x a) b _ (by omega) (by rw [insB_len,ha]) (by omega) h1 h2
theorem K8 (l:List α):(insertionSort lt l.toArray 0 l.length).toList=Xu lt [] l:=by
 unfold insertionSort;cases l with
 |nil=>rw [insOuter,if_neg (by simp)];rfl
 |cons x l=>
  have:=Js (lt:=lt) (l.length+1) l.length 1 [x] l (x::l).toArray (by omega) rfl (by omega) rfl (by simp);simpa [Xu,Et,Es] using this
end
end
section
open Go.RowKit Go.Sort
def cI (a b:Int):Int:=if a<b then -1 else if b<a then 1 else 0
theorem nanI (x:Int) (w:Wd):Calls prog 64 #[.int .i64 x] w fun e w'=>e = .returned (.bool false)∧w=w':=by
 go_enter Tryz.func64,Tryz.ntmps64;go_wp2;go_ret;exact ⟨by simp,rfl⟩
theorem compI (a b:Int) (w:Wd):Calls prog 39 #[.int .i64 a,.int .i64 b] w fun e w'=>e = .returned (.int .i64 (cI a b))∧w=w':=by
 rcases Int.lt_trichotomy a b with h|h|h
 ·have hc:Hid (cI a b = -1):=Hd (by unfold cI;rw [if_pos h]);have d1:decide (a<b)=true:=by simpa using h
  clear h;go_enter Tryz.func39,Tryz.ntmps39;go_wp2_with (go_at_call 64;refine (nanI _ _).mono ?_;rintro e w' ⟨rfl,rfl⟩);go_ret;exact ⟨by rw [hc.out];rfl,rfl⟩
 ·subst h;have hc:Hid (cI a a=0):=Hd (by unfold cI;rw [if_neg (by omega),if_neg (by omega)]);have d1:decide (a<a)=false:=by simp
  go_enter Tryz.func39,Tryz.ntmps39;go_wp2_with (go_at_call 64;refine (nanI _ _).mono ?_;rintro e w' ⟨rfl,rfl⟩);go_ret;exact ⟨by rw [hc.out];rfl,rfl⟩
 ·have hc:Hid (cI a b=1):=Hd (by unfold cI;rw [if_neg (by omega),if_pos h]);have d1:decide (a<b)=false:=by simp;omega
  have d2:decide (b<a)=true:=by simpa using h
  clear h;go_enter Tryz.func39,Tryz.ntmps39;go_wp2_with (go_at_call 64;refine (nanI _ _).mono ?_;rintro e w' ⟨rfl,rfl⟩);go_ret;exact ⟨by rw [hc.out];rfl,rfl⟩
theorem or2_any (a b:Int) (g:Nat) (w:Wd) (h0:w.cell? ⟨g,0,none⟩=some (.int .i64 a)) (h1:w.cell? ⟨g,1,none⟩=some (.int .i64 b)):
  Calls prog 38 #[.slice (some ⟨g,0,none⟩) 2 2] w fun e w'=>e = .returned (.int .i64 (if a=0 then b else a))∧w=w':=by
 obtain ⟨R,hR⟩:∃ R:Int,(if a=0 then b else a)=R:=⟨_,rfl⟩
 rw [hR];by_cases ha:a=0
 ·rw [if_pos ha] at hR;subst ha;have HR:=Hd hR.symm;clear hR;by_cases hb:b=0
  ·subst hb;go_enter Tryz.func38,Tryz.ntmps38;go_wp2;refine Lu 3 ?_;rw [Rs];go_wp2;rw [Rs];go_wp2;rw [Rs];go_wp2;go_ret;exact ⟨by rw [HR.out];rfl,rfl⟩
  ·have d1:(b != 0)=true:=by simpa using hb
   have d2:(b == 0)=false:=by simpa using hb
   clear hb;go_enter Tryz.func38,Tryz.ntmps38;go_wp2;refine Lu 2 ?_;rw [Rs];go_wp2;rw [Rs];go_wp2;go_ret;exact ⟨by rw [HR.out];rfl,rfl⟩
 ·rw [if_neg ha] at hR;have HR:=Hd hR.symm;have d1:(a != 0)=true:=by simpa using ha
  have d2:(a == 0)=false:=by simpa using ha
  clear ha hR;go_enter Tryz.func38,Tryz.ntmps38;go_wp2;refine Lu 1 ?_;rw [Rs];go_wp2;go_ret;exact ⟨by rw [HR.out];rfl,rfl⟩
def cfC (a b:Com):Int:=if cI a.num b.num=0 then min 1 (a.cn:Int)-min 1 (b.cn:Int) else cI a.num b.num
theorem ltOf_cfC:Go.Proofs.ltOf cfC=I2:=by
 funext a b;unfold Go.Proofs.ltOf cfC I2 cI;rcases Int.lt_trichotomy a.num b.num with h|h|h
 ·simp [h]
 ·simp only [h,Int.lt_irrefl,if_false,if_true,decide_false,decide_true,Bool.false_or,Bool.true_and];rw [Bool.eq_iff_iff];simp only [decide_eq_true_eq,Bool.and_eq_true];omega
 ·have h1:¬ a.num<b.num:=by omega
  have h2:¬ a.num=b.num:=by omega
  simp [h,h1,h2]
theorem Kh (w:Wd) (o:Obj):w.alloc o=grow w #[o]:=alloc_eq_grow w o
theorem ord2_any (x y:Com) (W:Wd):Calls prog 37 (#[.agg (U7 x).toArray,.agg (U7 y).toArray] ++ #[]) W fun e w'=>e = .returned (.int .i64 (cfC x y))∧∃ q os',w'=grow (W.drewN q) os':=by
 obtain ⟨R,hR⟩:∃ R,cfC x y=R:=⟨_,rfl⟩
 rw [hR];obtain ⟨unit,num,rA,rn,rc,cA,cn,cc,rs,cs⟩:=x;obtain ⟨unit',num',rA',rn',rc',cA',cn',cc',rs',cs'⟩:=y;show Calls prog 37 #[.agg #[.int .i64 unit,.int .i64 num,.slice rA rn rc,.slice cA cn cc],.agg #[.int .i64 unit',.int .i64 num',.slice rA' rn' rc',.slice cA' cn' cc']] W fun e w'=>e = .returned (.int .i64 R)∧∃ q os',w'=grow (W.drewN q) os'
 obtain ⟨c,hc⟩:∃ c,cI num num'=c:=⟨_,rfl⟩
 have HC:Hid (∀ W:Wd,Calls prog 39 #[.int .i64 num,.int .i64 num'] W fun e w'=>e = .returned (.int .i64 c)∧W=w'):=Hd fun W=>by rw [←hc];exact compI num num' W
 obtain ⟨q,hq⟩:∃ q:Int,min 1 (cn:Int)-min 1 (cn':Int)=q:=⟨_,rfl⟩
 have w1:IntKind.i64.wrap (min 1 (cn:Int)-min 1 (cn':Int))=q:=by rw [IntKind.wrap_i64];omega
 have hr:R=if c=0 then q else c:=by rw [←hR,←hq,←hc];rfl
 have HO:Hid (∀ (g:Nat) (W:Wd),W.cell? ⟨g,0,none⟩=some (.int .i64 c)→W.cell? ⟨g,1,none⟩=some (.int .i64 q)→Calls prog 38 #[.slice (some ⟨g,0,none⟩) 2 2] W fun e w'=>e = .returned (.int .i64 R)∧W=w'):=Hd fun g W a b=>by rw [hr];exact or2_any c q g W a b
 clear hc hq hR hr;go_enter Tryz.func37,Tryz.ntmps37;go_wp2_with fail
 go_region_held3 (fun w'=>w'.cell? ⟨W.heap.size,1,none⟩=some (.int .i64 num)∧w'.cell? ⟨W.heap.size,3,none⟩=some (.slice cA cn cc)∧w'.cell? ⟨W.heap.size+1,1,none⟩=some (.int .i64 num')∧w'.cell? ⟨W.heap.size+1,3,none⟩=some (.slice cA' cn' cc')) (first|go_keep) (first|(go_at_call 39;refine (HC.out _).mono ?_;rintro e w' ⟨rfl,rfl⟩)|(go_at_call 38;refine (HO.out _ _ ((U3 _ 3 #[.int .i64 c,.int .i64 q] _ (by simp)).drew.cell 0) ((U3 _ 3 #[.int .i64 c,.int .i64 q] _ (by simp)).drew.cell 1)).mono ?_;rintro e w' ⟨rfl,rfl⟩))
 all_goals
  go_wp2;go_ret;exact ⟨rfl,1,_,by rw [Kh,Kh,Kh,grow_grow,grow_grow];rfl⟩
end
end Go.Proofs.YtoakknkmjnebjaaGreatDoor
