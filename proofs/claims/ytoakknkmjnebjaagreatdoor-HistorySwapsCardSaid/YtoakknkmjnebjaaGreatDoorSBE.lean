/- Of HistorySwaps. -/
import Derived.Test.YtoakknkmjnebjaaGreatDoorRows
import Derived.Test.YtoakknkmjnebjaaGreatDoorSBD
import Derived.LaidMore
import Derived.Lay
import Derived.Stop.LaidErr
import Derived.SevenTiedAt
namespace Go.Proofs.YtoakknkmjnebjaaGreatDoor
open _root_.Go.Proofs.Tryz (prog)
set_option maxRecDepth 100000
open Go.RowKit
open Go.ChangeShapes Go.WideShapes Go.ChangeAt
section
variable {H:Type} {enc:TypeId×Value→H} {w:Wd} {base:Nat} {spare:Nat→Bool} {held:Bool}
theorem J5 {n:Nat} {c0 c1:Value} {a b:Bool} {p:List MemPlace} (h:DataW.trod enc prog w base spare held n 342 [c0,c1]=some (.agg [.lit (.bool a),.lit (.bool b)],p)):c0 = .bool a∧c1 = .bool b:=by
 obtain ⟨xs,m,_,hx,_,hl,hf⟩:=DataW.trod_array Tryz.underlying342 h;have k4:prog.cellsOf 4=1:=by kernel_rfl
 match xs,hl with
 | [y0,y1],_=>
  have g0:=hf 0 (by decide);have g1:=hf 1 (by decide);rw [k4] at g0 g1;obtain ⟨z0,e0,r0⟩:=DataW.trod_bool Tryz.underlying4 g0;obtain ⟨z1,e1,r1⟩:=DataW.trod_bool Tryz.underlying4 g1;simp at e0 e1 hx;subst e0 e1;obtain ⟨⟨h0,h1⟩,_⟩:=hx;rw [r0] at h0;rw [r1] at h1;simp at h0 h1;rw [h0,h1];exact ⟨rfl,rfl⟩
theorem eight_bools {n:Nat} {cs:List Value} {p:List MemPlace} (h:DataW.trod enc prog w base spare held n 343 cs=some (Rows.laid_dasd_spanned_codes,p)):cs = [.bool false,.bool false,.bool false,.bool true,.bool true,.bool false,.bool true,.bool true]:=by
 obtain ⟨xs,m,_,hx,hlen,hl,hf⟩:=DataW.trod_array Tryz.underlying343 h;have hl8:cs.length=8:=hlen.trans (by kernel_rfl);have k2:prog.cellsOf 342=2:=by kernel_rfl
 match cs,hl8 with
 | [c0,c1,c2,c3,c4,c5,c6,c7],_=>
  match xs,hl with
  | [y0,y1,y2,y3],_=>
   have g0:=hf 0 (by decide);have g1:=hf 1 (by decide);have g2:=hf 2 (by decide);have g3:=hf 3 (by decide);rw [k2] at g0 g1 g2 g3;unfold Rows.laid_dasd_spanned_codes at hx;simp only [List.map_cons,List.map_nil,Prod.mk.injEq,DataW.agg.injEq,List.cons.injEq,and_true] at hx;obtain ⟨⟨h0,h1,h2,h3⟩,_⟩:=hx;obtain ⟨d0,q0⟩:=y0;obtain ⟨d1,q1⟩:=y1;obtain ⟨d2,q2⟩:=y2;obtain ⟨d3,q3⟩:=y3;simp only at h0 h1 h2 h3;subst h0 h1 h2 h3;obtain ⟨rfl,rfl⟩:=J5 (by simpa using g0);obtain ⟨rfl,rfl⟩:=J5 (by simpa using g1);obtain ⟨rfl,rfl⟩:=J5 (by simpa using g2);obtain ⟨rfl,rfl⟩:=J5 (by simpa using g3);rfl
end
theorem gCod:prog.globalNamed "dasd/spanned.codes" = some 1:=by kernel_rfl
theorem cod_of_head {W:Wd} {rest:List (String×DataW Unit)} (h:laidMet prog (("dasd/spanned.codes",Rows.laid_dasd_spanned_codes)::rest) W):Cod W:=by
 obtain ⟨ps,⟨g',t',cs,fuel,p,q,iT,ht',hvar,hd,_,_⟩,_⟩:=h;obtain rfl:=Option.some.inj (gCod.symm.trans iT);obtain rfl:=Option.some.inj ((show (prog.globals[1]?).map (·.type)=some 343 by kernel_rfl).symm.trans ht');have hc:=eight_bools hd;intro i z hz;have hl:i<8:=(List.getElem?_eq_some_iff.1 hz).1;have h1:=World.var?_cell gCod hvar i;rw [h1,←Array.getElem?_toList,hc]
 match i,hl with
 |0,_=>simp at hz;subst hz;rfl
 |1,_=>simp at hz;subst hz;rfl
 |2,_=>simp at hz;subst hz;rfl
 |3,_=>simp at hz;subst hz;rfl
 |4,_=>simp at hz;subst hz;rfl
 |5,_=>simp at hz;subst hz;rfl
 |6,_=>simp at hz;subst hz;rfl
 |7,_=>simp at hz;subst hz;rfl
theorem mx_of_shape {W:Wd} (h:W.ShapedOpen prog):Mx W:=
 cell_of_shapedOpen_int (g:=2) (t:=3) (zero:=#[.int .i64 0]) (k:=.i64) h (of_decide_eq_true (by kernel_rfl)) (by kernel_rfl) rfl (by kernel_rfl) (by kernel_rfl) Tryz.underlying3
theorem of_laid {W:Wd} (h:laidMetH prog Rows.historyReadsRow.laid W) (hs:W.ShapedOpen prog):Sta W∧Cod W:=by
 rw [MakeChecks.laidMetH_plain _ _ _ (by kernel_rfl)] at h;exact ⟨⟨mx_of_shape hs,Lib.tabIs_of_head (t:=325) (e:=173) (n:=20) gTab (by kernel_rfl) (by kernel_rfl) (by kernel_rfl) (by kernel_rfl) (by kernel_rfl) h.tail.tail⟩,cod_of_head h.tail.tail.tail.tail⟩
theorem wrapped {H:Type} {enc:TypeId×Value→H} {os:Os} {f:FuncId} {fn:Func} {s:ChangeSpec} {fresh handsOn again:Bool} {X:Wd→Array Value→Prop}
  (hX:∀ (w w':Wd) (args:Array Value),w.heap=w'.heap→X w args→X w' args)
  (own:ownKnob Tryz.checked.prog.godebug=none) (started:os.Started) (noInit:Tryz.checked.prog.inits.idxOf? f=none) (hfn:Tryz.checked.prog.funcs[f]? =some fn)
  (witness:∃ (w:Wd) (tape:Tape) (i:Input),w.os=os∧(w.forCall tape i).Shaped Tryz.checked.prog∧i.vars = []∧Input.okWide Tryz.checked.prog (w.forCall tape i) .any w.heap.size f i ∧
   ((s.pre enc Tryz.checked.prog fn [] false (w.forCall tape i).memory i.args∧X (w.forCall tape i).memory i.args)∧sizedMet enc Tryz.checked.prog fn (OpenSpec.ofChange s) false (w.forCall tape i).memory i.args)∧({}:Assume).holds Tryz.checked.prog (lone (Frame.enter Tryz.checked.prog f i.args .normal) [] (w.forCall tape i)))
  (law:∀ (W:Wd) (base:Nat) (args:Array Value) (ds gs:List (DataW H)) (before:List MemPlace),
   (∀ (j:Nat) t v,fn.params[j]? =some t→args[j]? =some v→Value.okWide Tryz.checked.prog W .any base t v)→DataW.Whole enc Tryz.checked.prog fn.params.toList s.vars false W args.toList ds gs before→X W args→W.ShapedOpen Tryz.checked.prog →
   Calls Tryz.checked.prog f args W fun e W' => ∃ v,e = .returned v∧s.post enc Tryz.checked.prog fn false fresh handsOn again W args v W'):
  ReturnsInHanded {} Tryz.checked os f .any (fun w args=>(s.pre enc Tryz.checked.prog fn [] false w args∧X w args)∧sizedMet enc Tryz.checked.prog fn (OpenSpec.ofChange s) false w args) (s.post enc Tryz.checked.prog fn false fresh handsOn again):=by
 refine returnsInHanded_of_calls own started noInit witness fun w tape i _ hs _ fI hpre _=>?_
 obtain ⟨_,_,_,fn',hf',_,_,_,_,hval⟩:=fI;obtain rfl:fn'=fn:=Option.some.inj (hf'.symm.trans hfn);obtain ⟨⟨⟨ds,gs,before,hw,_⟩,hx⟩,_⟩:=hpre;refine (law (w.forCall tape i) w.heap.size i.args ds gs before hval (DataW.Whole.of_heap (by rfl) hw) (hX _ _ _ (by rfl) hx) hs).mono fun e W' ⟨v,he,hp⟩=>?_
 subst he;exact ChangeSpec.post_blind hp
end Go.Proofs.YtoakknkmjnebjaaGreatDoor
