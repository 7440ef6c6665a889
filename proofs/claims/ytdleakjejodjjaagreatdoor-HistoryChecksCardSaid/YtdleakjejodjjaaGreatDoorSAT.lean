/- Of the history laws. -/
import Derived.Test.YtdleakjejodjjaaGreatDoorSAJ
import Derived.Test.YtdleakjejodjjaaGreatDoorInsS
namespace Go.Proofs.YtdleakjejodjjaaGreatDoor
open Tryz
set_option linter.defProp false
set_option linter.unusedVariables false
set_option linter.unusedSimpArgs false
set_option maxRecDepth 100000
set_option maxHeartbeats 20000000
open Go.RowKit
open Go.Sort
def cI (a b:Int):Int:=if a<b then -1 else if b<a then 1 else 0
def jJ (x:Int) (w:Wd):Calls prog 67 #[.int .i64 x] w (Ae w (.bool false)):=by
 go_wp2;go_ret;exact ⟨Am,rfl⟩
def pS {G:Prop} (h:G:=by
  go_in;go_wp2_with (go_at_call 67;refine yE (jJ _ _) ?_);go_ret;exact ⟨by rw [hc.o];rfl,rfl⟩):G:=h
def jj (a b:Int) (w:Wd):Calls prog 37 #[.int .i64 a,.int .i64 b] w (Ae w (.int .i64 (cI a b))):=by
 rcases KQ a b with h|h|h
 .have hc:Aw (cI a b = -1):=Hd (by unfold cI;rw [QK h]);have c:=QQ h;clear h;exact pS
 .subst h;have hc:Aw (cI a a=0):=Hd (by unfold cI;rw [QX Oo,QX Oo]);have c:decide (a<a)=false:=Am
  exact pS
 .have hc:Aw (cI a b=1):=Hd (by unfold cI;rw [QX Oo,QK h]);have c:decide (a<b)=false:=As
  have d:=QQ h;clear h;exact pS
def re (a b:Int) (g:Nat) (w:Wd) (k:w.cell? ⟨g,0,none⟩=some (.int .i64 a)) (j:w.cell? ⟨g,1,none⟩=some (.int .i64 b)):
  Calls prog 36 #[.slice (Ah g 0) 2 2] w (Ae w (.int .i64 (if a=0 then b else a))):=by
 obtain ⟨R,c⟩:=yG ((if a=0 then b else a):Int);rw [c];by_cases d:a=0
 .rw [QK d] at c;subst d;have f:=Hd c.symm;clear c;by_cases e:b=0
  .subst e;go_wp2;refine Lu 3 ?_;rw [Rs];go_wp2;rw [Rs];go_wp2;rw [Rs];go_wp2;go_ret;exact ⟨by rw [f.o];rfl,rfl⟩
  .have i:(b != 0)=true:=by simpa using e
   have h:(b == 0)=false:=by simpa using e
   clear e;go_wp2;refine Lu 2 ?_;rw [Rs];go_wp2;rw [Rs];go_wp2;go_ret;exact ⟨by rw [f.o];rfl,rfl⟩
 .rw [QX d] at c;have f:=Hd c.symm;have i:(a != 0)=true:=by simpa using d
  have h:(a == 0)=false:=by simpa using d
  clear d c;go_wp2;refine Lu 1 ?_;rw [Rs];go_wp2;go_ret;exact ⟨by rw [f.o];rfl,rfl⟩
def cfC (a b:Com):Int:=if cI a.num b.num=0 then min 1 (a.cn:Int)-min 1 (b.cn:Int) else cI a.num b.num
def xV:Go.Proofs.ltOf cfC=Z4:=by
 funext a b;unfold Go.Proofs.ltOf cfC Z4 cI;rcases KQ a.num b.num with h|h|h
 .simp [h]
 .simp only [h,Int.lt_irrefl,if_false,VY,UY,VS,Bool.false_or,XL];rw [XW];simp only [QG,QU];omega
 .have h1:¬ a.num<b.num:=Oo
  have c:¬ a.num=b.num:=Oo
  simp [h,h1,c]
def Fd (w:Wd) (o:Obj):w.alloc o=Sort.grow w #[o]:=alloc_eq_grow w o
def xC (x y:Com) (W:Wd):Calls prog 35 (#[.agg (Ud x).toArray,.agg (Ud y).toArray] ++ #[]) W fun e w'=>e=.returned (.int .i64 (cfC x y))/\∃ q i,w'=Sort.grow (W.drewN q) i:=by
 obtain ⟨R,r⟩:=yG (cfC x y);rw [r];obtain ⟨l,f,B,z,E,v,n,cc,rs,cs⟩:=x;obtain ⟨j,d,o,s,p,k,h,m,C,cs'⟩:=y;show Calls prog 35 #[.agg #[.int .i64 l,.int .i64 f,.slice B z E,.slice v n cc],.agg #[.int .i64 j,.int .i64 d,.slice o s p,.slice k h m]] W fun e w'=>e=.returned (.int .i64 R)/\∃ q i,w'=Sort.grow (W.drewN q) i
 obtain ⟨c,t⟩:=yG (cI f d);have A:Aw (∀ W:Wd,Calls prog 37 #[.int .i64 f,.int .i64 d] W (Ae W (.int .i64 c))):=Hd fun W=>by rw [<-t];exact jj f d W
 obtain ⟨q,u⟩:=yG (min 1 (n:Int)-min 1 (h:Int):Int);have F:IntKind.i64.wrap (min 1 (n:Int)-min 1 (h:Int))=q:=by rw [ZE];omega
 have w:R=if c=0 then q else c:=by rw [<-r,<-u,<-t];rfl
 have D:Aw (∀ (g:Nat) (W:Wd),W.cell? ⟨g,0,none⟩=some (.int .i64 c)->W.cell? ⟨g,1,none⟩=some (.int .i64 q)->Calls prog 36 #[.slice (Ah g 0) 2 2] W (Ae W (.int .i64 R))):=Hd fun g W a b=>by rw [w];exact re c q g W a b
 clear t u r w;go_in;go_wp2_with fail
 go_region_held3 (fun w'=>w'.cell? ⟨W.1.size,1,none⟩=some (.int .i64 f)/\w'.cell? ⟨W.1.size,3,none⟩=some (.slice v n cc)/\w'.cell? ⟨W.1.size+1,1,none⟩=some (.int .i64 d)/\w'.cell? ⟨W.1.size+1,3,none⟩=some (.slice k h m)) (first|go_keep) (first|(go_at_call 37;refine yE (A.o _) ?_)|(go_at_call 36;refine yE (D.o _ _ ((U3 _ 3 #[.int .i64 c,.int .i64 q] _ Am).drew.cell 0) ((U3 _ 3 #[.int .i64 c,.int .i64 q] _ Am).drew.cell 1)) ?_))
 all_goals
  go_wp2;go_ret;exact ⟨rfl,1,_,by rw [Fd,Fd,Fd,grow_grow,grow_grow];rfl⟩
end Go.Proofs.YtdleakjejodjjaaGreatDoor
