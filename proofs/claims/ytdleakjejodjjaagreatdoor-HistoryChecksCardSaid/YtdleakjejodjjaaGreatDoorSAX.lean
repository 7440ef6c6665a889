/- Of the history laws. -/
import Derived.Test.YtdleakjejodjjaaGreatDoorRows
import Derived.Test.YtdleakjejodjjaaGreatDoorSAU
import Derived.Test.YtdleakjejodjjaaGreatDoorSAW
import Derived.LaidMore
import Derived.Lay
import Derived.Stop.LaidErr
import Derived.SevenTiedAt
namespace Go.Proofs.YtdleakjejodjjaaGreatDoor
open _root_.Go.Proofs.Tryz
set_option linter.defProp false
set_option linter.unusedVariables false
set_option linter.unusedSimpArgs false
set_option maxRecDepth 100000
open Go.RowKit
open Go.ChangeShapes Go.WideShapes Go.ChangeAt
section
variable {H:Type} {enc:TypeId×Value->H} {w:Wd} {base:Nat} {spare:Nat->Bool} {held:Bool}
def Jv {n:Nat} {l c1:Value} {a b:Bool} {p:List MemPlace} (h:DataW.trod enc prog w base spare held n 388 [l,c1]=some (.agg [.lit (.bool a),.lit (.bool b)],p)):l=.bool a/\c1=.bool b:=by
 obtain ⟨xs,m,_,j,_,r,g⟩:=DataW.trod_array underlying388 h;have s:prog.cellsOf 4=1:=Ak
 match xs,r with
 | [y0,y1],_=>
  have f:=g 0 Ac;have i:=g 1 Ac;rw [s] at f i;obtain ⟨u,e,q⟩:=UE underlying4 f;obtain ⟨t,k,o⟩:=UE underlying4 i;simp at e k j;subst e k;obtain ⟨⟨c,d⟩,_⟩:=j;rw [q] at c;rw [o] at d;simp at c d;rw [c,d];exact ⟨rfl,rfl⟩
def Sp {n:Nat} {cs:List Value} {p:List MemPlace} (h:DataW.trod enc prog w base spare held n 389 cs=some (Rows.laid_dasd_spanned_codes,p)):cs=[.bool false,.bool false,.bool false,.bool true,.bool true,.bool false,.bool true,.bool true]:=by
 obtain ⟨xs,m,_,d,a,q,b⟩:=DataW.trod_array underlying389 h;have c:cs.length=8:=a.trans Ak;have r:prog.cellsOf 388=2:=Ak
 match cs,c with
 | [c0,c1,c2,c3,c4,c5,c6,c7],_=>
  match xs,q with
  | [y0,y1,y2,y3],_=>
   have i:=b 0 Ac;have k:=b 1 Ac;have g:=b 2 Ac;have o:=b 3 Ac;rw [r] at i k g o;unfold Rows.laid_dasd_spanned_codes at d;simp only [WS,KN,UN,DataW.agg.injEq,List.cons.injEq,and_true] at d;obtain ⟨⟨f,j,e,l⟩,_⟩:=d;obtain ⟨z,u⟩:=y0;obtain ⟨v,x⟩:=y1;obtain ⟨s,A⟩:=y2;obtain ⟨t,y⟩:=y3;simp only at f j e l;subst f j e l;obtain ⟨rfl,rfl⟩:=Jv (by simpa using i);obtain ⟨rfl,rfl⟩:=Jv (by simpa using k);obtain ⟨rfl,rfl⟩:=Jv (by simpa using g);obtain ⟨rfl,rfl⟩:=Jv (by simpa using o);rfl
end
def gCod:prog.globalNamed "dasd/spanned.codes" = some 1:=Ak
def SK {W:Wd} {rest:List (String×DataW Unit)} (h:laidMet prog (("dasd/spanned.codes",Rows.laid_dasd_spanned_codes)::rest) W):Cod W:=by
 obtain ⟨l,⟨m,k,cs,c,p,q,e,b,a,d,_,_⟩,_⟩:=h;obtain rfl:=WQ (gCod.symm.trans e);obtain rfl:=WQ ((show (prog.globals[1]?).map (·.type)=some 389 from Ak).symm.trans b);have j:=Sp d;intro i z hz;have g:i<8:=(QZ.1 hz).1;have f:=World.var?_cell gCod a i;rw [f,<-YI,j]
 match i,g with
 |0,_=>simp at hz;subst hz;rfl
 |1,_=>simp at hz;subst hz;rfl
 |2,_=>simp at hz;subst hz;rfl
 |3,_=>simp at hz;subst hz;rfl
 |4,_=>simp at hz;subst hz;rfl
 |5,_=>simp at hz;subst hz;rfl
 |6,_=>simp at hz;subst hz;rfl
 |7,_=>simp at hz;subst hz;rfl
def RP {W:Wd} (h:W.ShapedOpen prog):Mx W:=
 cell_of_shapedOpen_int (g:=2) (t:=3) (zero:=#[.int .i64 0]) (k:=.i64) h (ZZ Ak) Ak rfl Ak Ak underlying3
def of_laid {W:Wd} (h:laidMetH prog Rows.historyReplaysRow.laid W) (a:W.ShapedOpen prog):Sta W/\Cod W:=by
 rw [MakeChecks.laidMetH_plain _ _ _ Ak] at h;exact ⟨⟨RP a,Lib.tabIs_of_head (t:=372) (e:=202) (n:=20) j7 Ak Ak Ak Ak Ak h.tail.tail⟩,SK h.tail.tail.tail.tail⟩
def wrapped {H:Type} {enc:TypeId×Value->H} {p:Os} {f:FuncId} {l:Func} {s:ChangeSpec} {g c d:Bool} {X:Wd->Array Value->Prop}
  (B:∀ (w w':Wd) (args:Array Value),w.heap=w'.heap->X w args->X w' args)
  (q:ownKnob checked.prog.godebug=none) (h:p.Started) (m:checked.prog.inits.idxOf? f=none) (y:checked.prog.funcs[f]? =some l)
  (k:∃ (w:Wd) (a:Tape) (i:Input),w.os=p/\(w.forCall a i).Shaped checked.prog/\i.vars=[]/\Input.okWide checked.prog (w.forCall a i) .any w.1.size f i /\
   ((s.pre enc checked.prog l [] false (w.forCall a i).memory i.args/\X (w.forCall a i).memory i.args)/\sizedMet enc checked.prog l (OpenSpec.ofChange s) false (w.forCall a i).memory i.args)/\({}:Assume).holds checked.prog (lone (Frame.enter checked.prog f i.args .normal) [] (w.forCall a i)))
  (A:∀ (W:Wd) (base:Nat) (args:Array Value) (x r:List (DataW H)) (b:List MemPlace),
   (∀ (j:Nat) t v,l.params[j]? =some t->args[j]? =some v->Value.okWide checked.prog W .any base t v)->DataW.Whole enc checked.prog l.params.toList s.vars false W args.toList x r b->X W args->W.ShapedOpen checked.prog ->
   Calls checked.prog f args W fun e W'=>∃ v,e=.returned v/\s.post enc checked.prog l false g c d W args v W'):
  ReturnsInHanded {} checked p f .any (fun w args=>(s.pre enc checked.prog l [] false w args/\X w args)/\sizedMet enc checked.prog l (OpenSpec.ofChange s) false w args) (s.post enc checked.prog l false g c d):=by
 refine returnsInHanded_of_calls q h m k fun w a i _ D _ F o _=>?_
 obtain ⟨_,_,_,z,u,_,_,_,_,n⟩:=F;obtain rfl:z=l:=WQ (u.symm.trans y);obtain ⟨⟨⟨x,r,b,hw,_⟩,E⟩,_⟩:=o;refine (A (w.forCall a i) w.1.size i.args x r b n (DataW.Whole.of_heap Af hw) (B _ _ _ Af E) D).mono fun e W' ⟨v,he,C⟩=>?_
 subst he;exact ChangeSpec.post_blind C
end Go.Proofs.YtdleakjejodjjaaGreatDoor
