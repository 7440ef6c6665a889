/- Part of the proof of HistoryReads. -/
import Derived.Test.YtapanepkfbamhaaGreatDoorJBU
import Derived.Test.YtapanepkfbamhaaGreatDoorRows
import Derived.LaidMore
import Derived.Lay
import Derived.Stop.LaidErr
import Derived.SevenTiedAt
namespace Go.Proofs.YtapanepkfbamhaaGreatDoor
open _root_.Go.Proofs.Tryz (prog)
section
set_option maxRecDepth 100000
open Go.Joins Go.ChangeShapes Go.WideShapes Go.RowKit Go.Deep
section
variable {H:Type} {enc:TypeId×Value→H} {w:World} {base:Nat} {spare:Nat→Bool} {held:Bool}
def DOk (d:DSet):Prop:=(Lit.int .i64 d.id).wf=true∧(Lit.int .i64 d.org).wf=true∧(Lit.int .i64 d.fmt).wf=true∧(Lit.int .i64 d.len).wf=true∧(Lit.int .i64 d.blk).wf=true∧(Lit.int .i64 d.kat).wf=true∧(Lit.int .i64 d.kln).wf=true∧(Lit.int .i64 d.itv).wf=true∧(Lit.int .i64 d.area).wf=true∧(Lit.int .i64 d.fi).wf=true∧(Lit.int .i64 d.fa).wf=true∧(Lit.int .i64 d.base).wf=true∧(Lit.int .i64 d.aat).wf=true∧(Lit.int .i64 d.aln).wf=true∧(Lit.int .i64 d.cls).wf=true∧(Lit.int .i64 d.cre).wf=true∧(Lit.int .i64 d.exp).wf=true
theorem open_pair {n:Nat} {cs:List Value} {x:DataW H×List MemPlace} (h:DataW.trod enc prog w base spare held n 76 cs=some x):∃ r:Pr,cs=prC r∧True:=by
 obtain ⟨hl,m,hf⟩:=Ex Tryz.underlying76 (hone_of (by kernel_rfl)) (by kernel_rfl) h;have hl':cs.length=2:=hl;obtain ⟨v0,y0,g0,t0⟩:=hf 0 _ rfl;obtain ⟨v1,y1,g1,t1⟩:=hf 1 _ rfl;obtain ⟨a0,e0,_,_⟩:=DataW.trod_string Tryz.underlying9 t0;obtain ⟨a1,e1,_,_⟩:=DataW.trod_string Tryz.underlying9 t1
 match cs,hl' with
 | [c0,c1],_=>
  simp at g0 g1 e0 e1;subst g0 g1 e0 e1;exact ⟨⟨a0,a1⟩,rfl,trivial⟩
theorem open_dset {n:Nat} {cs:List Value} {x:DataW H×List MemPlace} (h:DataW.trod enc prog w base spare held n 27 cs=some x):∃ r:DSet,cs=dC r∧DOk r:=by
 obtain ⟨hl,m,hf⟩:=Ex Tryz.underlying27 (hone_of (by kernel_rfl)) (by kernel_rfl) h;have hl':cs.length=21:=hl;obtain ⟨v0,y0,g0,t0⟩:=hf 0 _ rfl;obtain ⟨v1,y1,g1,t1⟩:=hf 1 _ rfl;obtain ⟨v2,y2,g2,t2⟩:=hf 2 _ rfl;obtain ⟨v3,y3,g3,t3⟩:=hf 3 _ rfl;obtain ⟨v4,y4,g4,t4⟩:=hf 4 _ rfl;obtain ⟨v5,y5,g5,t5⟩:=hf 5 _ rfl;obtain ⟨v6,y6,g6,t6⟩:=hf 6 _ rfl;obtain ⟨v7,y7,g7,t7⟩:=hf 7 _ rfl;obtain ⟨v8,y8,g8,t8⟩:=hf 8 _ rfl;obtain ⟨v9,y9,g9,t9⟩:=hf 9 _ rfl;obtain ⟨v10,y10,g10,t10⟩:=hf 10 _ rfl;obtain ⟨v11,y11,g11,t11⟩:=hf 11 _ rfl;obtain ⟨v12,y12,g12,t12⟩:=hf 12 _ rfl;obtain ⟨v13,y13,g13,t13⟩:=hf 13 _ rfl;obtain ⟨v14,y14,g14,t14⟩:=hf 14 _ rfl;obtain ⟨v15,y15,g15,t15⟩:=hf 15 _ rfl;obtain ⟨v16,y16,g16,t16⟩:=hf 16 _ rfl;obtain ⟨v17,y17,g17,t17⟩:=hf 17 _ rfl;obtain ⟨v18,y18,g18,t18⟩:=hf 18 _ rfl;obtain ⟨v19,y19,g19,t19⟩:=hf 19 _ rfl;obtain ⟨v20,y20,g20,t20⟩:=hf 20 _ rfl
 obtain ⟨a0,e0,_,w0⟩:=DataW.trod_int Tryz.underlying3 t0;obtain ⟨a1,e1,_,w1⟩:=DataW.trod_int Tryz.underlying3 t1;obtain ⟨a2,e2,_,w2⟩:=DataW.trod_int Tryz.underlying3 t2;obtain ⟨a3,e3,_,w3⟩:=DataW.trod_int Tryz.underlying3 t3;obtain ⟨a4,e4,_,w4⟩:=DataW.trod_int Tryz.underlying3 t4;obtain ⟨a5,e5,_,w5⟩:=DataW.trod_int Tryz.underlying3 t5;obtain ⟨a6,e6,_,w6⟩:=DataW.trod_int Tryz.underlying3 t6;obtain ⟨a7,e7,_,w7⟩:=DataW.trod_int Tryz.underlying3 t7;obtain ⟨a8,e8,_,w8⟩:=DataW.trod_int Tryz.underlying3 t8;obtain ⟨a9,e9,_,w9⟩:=DataW.trod_int Tryz.underlying3 t9;obtain ⟨a10,e10,_,w10⟩:=DataW.trod_int Tryz.underlying3 t10;obtain ⟨a11,e11,_,w11⟩:=DataW.trod_int Tryz.underlying3 t11;obtain ⟨a12,e12,_,w12⟩:=DataW.trod_int Tryz.underlying3 t12;obtain ⟨a13,e13,_,w13⟩:=DataW.trod_int Tryz.underlying3 t13;obtain ⟨a14,e14,_⟩:=DataW.trod_bool Tryz.underlying4 t14
 obtain ⟨a15,e15,_,w15⟩:=DataW.trod_int Tryz.underlying3 t15;obtain ⟨a16,e16,_,w16⟩:=DataW.trod_string Tryz.underlying9 t16;obtain ⟨a17,e17,_,w17⟩:=DataW.trod_string Tryz.underlying9 t17;obtain ⟨a18,e18,_,w18⟩:=DataW.trod_int Tryz.underlying3 t18;obtain ⟨a19,e19,_,w19⟩:=DataW.trod_int Tryz.underlying3 t19;obtain ⟨a20,e20,_⟩:=DataW.trod_bool Tryz.underlying4 t20
 match cs,hl' with
 | [c0,c1,c2,c3,c4,c5,c6,c7,c8,c9,c10,c11,c12,c13,c14,c15,c16,c17,c18,c19,c20],_=>
  simp at g0 g1 g2 g3 g4 g5 g6 g7 g8 g9 g10 g11 g12 g13 g14 g15 g16 g17 g18 g19 g20 e0 e1 e2 e3 e4 e5 e6 e7 e8 e9 e10 e11 e12 e13 e14 e15 e16 e17 e18 e19 e20;subst g0 g1 g2 g3 g4 g5 g6 g7 g8 g9 g10 g11 g12 g13 g14 g15 g16 g17 g18 g19 g20 e0 e1 e2 e3 e4 e5 e6 e7 e8 e9 e10 e11 e12 e13 e14 e15 e16 e17 e18 e19 e20;exact ⟨⟨a0,a1,a2,a3,a4,a5,a6,a7,a8,a9,a10,a11,a12,a13,a14,a15,a16,a17,a18,a19,a20⟩,rfl,w0,w1,w2,w3,w4,w5,w6,w7,w8,w9,w10,w11,w12,w13,w15,w18,w19⟩
def CIn (w:World) (x:Cnt):Prop:=Sl prC 2 w w.heap.size x.pA x.pn x.pc x.ps∧x.pn≤maxLen∧(x.pA=none→x.pc=0)∧DOk x.d∧(Lit.int .i64 x.ap).wf=true
theorem open_content {n:Nat} {cs:List Value} {x:DataW H×List MemPlace} (h:DataW.trod enc prog w base spare held n 30 cs=some x):∃ r:Cnt,cs=cnC r∧CIn w r:=by
 obtain ⟨xs,m,_,rfl,hlen,hxl,hf⟩:=DataW.trod_struct Tryz.underlying30 h;have hl':cs.length=23:=hlen.trans (by kernel_rfl);have hxl':xs.length=3:=hxl;have k3:prog.cellsOf 3=1:=by kernel_rfl
 have kD:prog.cellsOf 27=21:=by kernel_rfl
 have kP:prog.cellsOf 28=1:=by kernel_rfl
 match xs,hxl' with
 | [y0,y1,y2],_=>
  have g0:=hf 0 _ rfl;have g1:=hf 1 _ rfl;have g2:=hf 2 _ rfl;obtain ⟨d,e0,hd⟩:=open_dset g0;obtain ⟨a1,e1,_,w1⟩:=DataW.trod_int Tryz.underlying3 g1;obtain ⟨A,n2,c2,l,e2,s2,m2,_⟩:=Zu (Q:=fun _=>True) G2 (by decide) Tryz.underlying28 (by kernel_rfl) (fun m cs y h=>open_pair h) g2
  have hA:A=none→c2=0:=by
   intro hA;subst hA;rcases open_slice Tryz.underlying28 g2 with ⟨h0,_⟩|⟨a,len,cap,m',n',D,Pl,h0,_⟩
   ·rw [e2] at h0
    simp at h0;exact h0.2
   ·rw [e2] at h0
    simp at h0
  refine ⟨⟨d,a1,A,n2,c2,l⟩,?_,s2,m2,hA,hd,w1⟩
  have hc:cs=(cs.drop 0).take 21++((cs.drop 21).take 1++(cs.drop 22).take 1):=by
   rw [List.drop_zero]
   conv=>lhs;rw [←List.take_append_drop 21 cs]
   congr 1
   conv=>lhs;rw [←List.take_append_drop 1 (cs.drop 21)]
   congr 1;rw [List.drop_drop];exact (List.take_of_length_le (by rw [List.length_drop];omega)).symm
  have f0:(cs.drop 0).take 21=dC d:=by rw [←kD];exact e0
  have f1:(cs.drop 21).take 1 = [.int .i64 a1]:=by rw [←k3];exact e1
  have f2:(cs.drop 22).take 1 = [.slice A n2 c2]:=by rw [←kP];exact e2
  rw [hc,f0,f1,f2];rfl
theorem open_contents {r:Reach} {b0:Nat} {v:Value} {d:DataW H} {p:List MemPlace} (hv:Value.okWide prog w r b0 22 v) (h:DataW.Trod enc prog w base spare held 22 v d p):
  ∃ (A:Option Addr) (n c:Nat) (l:List Cnt),v = .slice A n c∧Sl cnC 23 w w.heap.size A n c l∧∀ x∈l,CIn w x:=by
 obtain ⟨a0,len,cap,rfl⟩:=okWide_slice Tryz.underlying22 hv;obtain ⟨fuel,hf⟩:=h;obtain ⟨A,n,c,l,e,hs,_,hq⟩:=Zu cnC_len (by decide) Tryz.underlying22 (by kernel_rfl) (fun m cs y h=>open_content h) hf;simp [Value.cells] at e;obtain ⟨rfl,rfl,rfl⟩:=e;exact ⟨_,_,_,l,rfl,hs,hq⟩
theorem open_rdd {r:Reach} {b0:Nat} {v:Value} {d:DataW H} {p:List MemPlace} (hv:Value.okWide prog w r b0 49 v) (h:DataW.Trod enc prog w base spare held 49 v d p):
  ∃ x:Rdd,v = .agg (rdC x).toArray:=by
 obtain ⟨cs,rfl,hsz⟩:=okWide_struct Tryz.underlying49 hv;obtain ⟨fuel,hf⟩:=h;obtain ⟨a,e⟩:=open_read hf;refine ⟨a,?_⟩;have e':cs.toList=rdC a:=by simpa [Value.cells] using e
 rw [←e']
end
end
section
open Go.ChangeShapes Go.WideShapes Go.ChangeAt Go.RowKit
set_option maxRecDepth 100000
section
variable {H:Type} {enc:TypeId×Value→H} {w:World} {base:Nat} {spare:Nat→Bool} {held:Bool}
theorem Ii {n:Nat} {c0 c1:Value} {a b:Bool} {p:List MemPlace} (h:DataW.trod enc prog w base spare held n 342 [c0,c1]=some (.agg [.lit (.bool a),.lit (.bool b)],p)):c0 = .bool a∧c1 = .bool b:=by
 obtain ⟨xs,m,_,hx,_,hl,hf⟩:=DataW.trod_array Tryz.underlying342 h;have k4:prog.cellsOf 4=1:=by kernel_rfl
 match xs,hl with
 | [y0,y1],_=>
  have g0:=hf 0 (by decide);have g1:=hf 1 (by decide);rw [k4] at g0 g1;obtain ⟨z0,e0,r0⟩:=DataW.trod_bool Tryz.underlying4 g0;obtain ⟨z1,e1,r1⟩:=DataW.trod_bool Tryz.underlying4 g1;simp at e0 e1 hx;subst e0 e1;obtain ⟨⟨h0,h1⟩,_⟩:=hx;rw [r0] at h0;rw [r1] at h1;simp at h0 h1;rw [h0,h1];exact ⟨rfl,rfl⟩
theorem eight_bools {n:Nat} {cs:List Value} {p:List MemPlace} (h:DataW.trod enc prog w base spare held n 343 cs=some (Rows.laid_dasd_spanned_codes,p)):cs = [.bool false,.bool false,.bool false,.bool true,.bool true,.bool false,.bool true,.bool true]:=by
 obtain ⟨xs,m,_,hx,hlen,hl,hf⟩:=DataW.trod_array Tryz.underlying343 h;have hl8:cs.length=8:=hlen.trans (by kernel_rfl);have k2:prog.cellsOf 342=2:=by kernel_rfl
 match cs,hl8 with
 | [c0,c1,c2,c3,c4,c5,c6,c7],_=>
  match xs,hl with
  | [y0,y1,y2,y3],_=>
   have g0:=hf 0 (by decide);have g1:=hf 1 (by decide);have g2:=hf 2 (by decide);have g3:=hf 3 (by decide);rw [k2] at g0 g1 g2 g3;unfold Rows.laid_dasd_spanned_codes at hx;simp only [List.map_cons,List.map_nil,Prod.mk.injEq,DataW.agg.injEq,List.cons.injEq,and_true] at hx;obtain ⟨⟨h0,h1,h2,h3⟩,_⟩:=hx;obtain ⟨d0,q0⟩:=y0;obtain ⟨d1,q1⟩:=y1;obtain ⟨d2,q2⟩:=y2;obtain ⟨d3,q3⟩:=y3;simp only at h0 h1 h2 h3;subst h0 h1 h2 h3;obtain ⟨rfl,rfl⟩:=Ii (by simpa using g0);obtain ⟨rfl,rfl⟩:=Ii (by simpa using g1);obtain ⟨rfl,rfl⟩:=Ii (by simpa using g2);obtain ⟨rfl,rfl⟩:=Ii (by simpa using g3);rfl
end
theorem gCod:prog.globalNamed "dasd/spanned.codes" = some 1:=by kernel_rfl
theorem cod_of_head {W:World} {rest:List (String×DataW Unit)} (h:laidMet prog (("dasd/spanned.codes",Rows.laid_dasd_spanned_codes)::rest) W):Cod W:=by
 obtain ⟨ps,⟨g',t',cs,fuel,p,q,hg',ht',hvar,hd,_,_⟩,_⟩:=h;obtain rfl:=Option.some.inj (gCod.symm.trans hg');obtain rfl:=Option.some.inj ((show (prog.globals[1]?).map (·.type)=some 343 by kernel_rfl).symm.trans ht');have hc:=eight_bools hd;intro i z hz;have hl:i<8:=(List.getElem?_eq_some_iff.1 hz).1;have h1:=World.var?_cell gCod hvar i;rw [h1,←Array.getElem?_toList,hc]
 match i,hl with
 |0,_=>simp at hz;subst hz;rfl
 |1,_=>simp at hz;subst hz;rfl
 |2,_=>simp at hz;subst hz;rfl
 |3,_=>simp at hz;subst hz;rfl
 |4,_=>simp at hz;subst hz;rfl
 |5,_=>simp at hz;subst hz;rfl
 |6,_=>simp at hz;subst hz;rfl
 |7,_=>simp at hz;subst hz;rfl
theorem mx_of_shape {W:World} (h:W.ShapedOpen prog):Mx W:=
 cell_of_shapedOpen_int (g:=2) (t:=3) (zero:=#[.int .i64 0]) (k:=.i64) h (of_decide_eq_true (by kernel_rfl)) (by kernel_rfl) rfl (by kernel_rfl) (by kernel_rfl) Tryz.underlying3
theorem of_laid {W:World} (h:laidMetH prog Rows.historyReadsRow.laid W) (hs:W.ShapedOpen prog):Sta W∧Cod W:=by
 rw [MakeChecks.laidMetH_plain _ _ _ (by kernel_rfl)] at h;exact ⟨⟨mx_of_shape hs,Lib.tabIs_of_head (t:=325) (e:=173) (n:=20) gTab (by kernel_rfl) (by kernel_rfl) (by kernel_rfl) (by kernel_rfl) (by kernel_rfl) h.tail.tail⟩,cod_of_head h.tail.tail.tail.tail⟩
theorem wrapped {H:Type} {enc:TypeId×Value→H} {os:Os} {f:FuncId} {fn:Func} {s:ChangeSpec} {fresh handsOn again:Bool} {X:World→Array Value→Prop}
  (hX:∀ (w w':World) (args:Array Value),w.heap=w'.heap→X w args→X w' args)
  (own:ownKnob Tryz.checked.prog.godebug=none) (started:os.Started) (noInit:Tryz.checked.prog.inits.idxOf? f=none) (hfn:Tryz.checked.prog.funcs[f]? =some fn)
  (witness:∃ (w:World) (tape:Tape) (i:Input),w.os=os∧(w.forCall tape i).Shaped Tryz.checked.prog∧i.vars = []∧Input.okWide Tryz.checked.prog (w.forCall tape i) .any w.heap.size f i ∧
   ((s.pre enc Tryz.checked.prog fn [] false (w.forCall tape i).memory i.args∧X (w.forCall tape i).memory i.args)∧sizedMet enc Tryz.checked.prog fn (OpenSpec.ofChange s) false (w.forCall tape i).memory i.args)∧({}:Assume).holds Tryz.checked.prog (lone (Frame.enter Tryz.checked.prog f i.args .normal) [] (w.forCall tape i)))
  (law:∀ (W:World) (base:Nat) (args:Array Value) (ds gs:List (DataW H)) (before:List MemPlace),
   (∀ (j:Nat) t v,fn.params[j]? =some t→args[j]? =some v→Value.okWide Tryz.checked.prog W .any base t v)→DataW.Whole enc Tryz.checked.prog fn.params.toList s.vars false W args.toList ds gs before→X W args→W.ShapedOpen Tryz.checked.prog →
   Calls Tryz.checked.prog f args W fun e W' => ∃ v,e = .returned v∧s.post enc Tryz.checked.prog fn false fresh handsOn again W args v W'):
  ReturnsInHanded {} Tryz.checked os f .any (fun w args=>(s.pre enc Tryz.checked.prog fn [] false w args∧X w args)∧sizedMet enc Tryz.checked.prog fn (OpenSpec.ofChange s) false w args) (s.post enc Tryz.checked.prog fn false fresh handsOn again):=by
 refine returnsInHanded_of_calls own started noInit witness fun w tape i _ hs _ hok hpre _=>?_
 obtain ⟨_,_,_,fn',hf',_,_,_,_,hval⟩:=hok;obtain rfl:fn'=fn:=Option.some.inj (hf'.symm.trans hfn);obtain ⟨⟨⟨ds,gs,before,hw,_⟩,hx⟩,_⟩:=hpre;refine (law (w.forCall tape i) w.heap.size i.args ds gs before hval (DataW.Whole.of_heap (by rfl) hw) (hX _ _ _ (by rfl) hx) hs).mono fun e W' ⟨v,he,hp⟩=>?_
 subst he;exact ChangeSpec.post_blind hp
end
end Go.Proofs.YtapanepkfbamhaaGreatDoor
