/- Of the history laws. -/
import Derived.Test.YtdleakjejodjjaaGreatDoorSAM
import Derived.Deep.Light
namespace Go.Proofs.YtdleakjejodjjaaGreatDoor
open Tryz
set_option linter.defProp false
set_option linter.unusedVariables false
set_option linter.unusedSimpArgs false
set_option maxRecDepth 100000
set_option maxHeartbeats 20000000
open Go.RowKit
def rG (t:Bz):t.toList.isEmpty=decide (t.size=0):=by rw [K6];cases t.toList<;>simp
def mj {id g h e d:Int} {f:Bool} {a b c:Bz} (hn:Y4 id=true):Ie id g h e d f a b c=(decide (g<=(a.size:Int))&&decide ((a.size:Int)<=h)&&(decide (e<=(b.size:Int))&&decide ((b.size:Int)<=d))&&(if f=true then Im c else c.toList.isEmpty)):=by
 unfold Ie Ml;rw [hn,rG];rfl
def RcG (k h g e d:Int) (f:Bool):Prop:=∀ (R:Bool) (id:Int) (a b c:Bz) (w:Wd),R=Ie id h g e d f a b c->1<=id->id<=1099511627776->c.size<=maxLen->a.size<=maxLen->b.size<=maxLen ->
  Calls prog 78 #[.agg #[.int .i64 k,.int .i64 id,.string a,.string b,.string c]] w (Ab w (.bool R))
def sx:(RcG 0 1 32 1 200 false/\RcG 1 1 32 0 0 false/\RcG 2 0 0 0 1000 false/\RcG 3 0 0 0 0 false)/\RcG 4 0 0 0 400 true/\RcG 5 0 0 0 0 true/\RcG 6 0 0 0 400 true/\RcG 7 0 0 0 400 true:=by
 refine ⟨⟨?_,?_,?_,?_⟩,?_,?_,?_,?_⟩
 all_goals
  intro R id b c a w d q i r j m;have g:Aw (∀ W:Wd,Calls prog 111 #[.string a] W (Ae W (.bool (Im a)))):=Hd fun W=>zT a W r
  have t:decide (id<1)=false:=As
  have s:decide (1099511627776<id)=false:=As
  rw [mj (by unfold Y4;rw [QQ q,QQ i];rfl)] at d;obtain ⟨p,h⟩:=yG (a.toList.isEmpty:Bool);obtain ⟨v,e⟩:∃ n,b.size=n:=⟨_,rfl⟩
  obtain ⟨u,f⟩:∃ n,c.size=n:=⟨_,rfl⟩
  unfold maxLen at j m;simp only [VM,↓reduceIte,h,e,f] at d j m;generalize Im a=l at g d;have o:=Hd d;have BB:=Hd fun k=>Ul (Xj w #[.int .i64 k,.int .i64 id,.string b,.string c,.string a] 50)
  clear d r q i;go_in;go_wp2_with fail
  go_quiet (fail)
  go_wp2_with (go_at_call 111;refine yE (g.o _) ?_)
  all_goals
   go_ret;refine ⟨?_,Uk (BB.o _) _⟩;rw [o.o];clear g o BB t s
   first
    |(show Ending.returned (.bool p)=_;congr 2;go_light;simp_all;done)
    |(show Ending.returned (.bool p)=_;congr 2;go_light;simp_all;intros;omega)
    |(show Ending.returned (.bool l)=_;congr 2;go_light;simp_all;done)
    |(show Ending.returned (.bool l)=_;congr 2;go_light;simp_all;intros;omega)
    |(show Ending.returned (.bool false)=_;congr 2;go_light;simp_all;done)
    |(show Ending.returned (.bool false)=_;congr 2;go_light;simp_all;intros;omega)
def su (k id:Int) (a b c:Bz) (w:Wd) (e:id<1\/1099511627776<id):
  Calls prog 78 #[.agg #[.int .i64 k,.int .i64 id,.string a,.string b,.string c]] w (Ab w (.bool false)):=by
 have BB:=Hd (Ul (Xj w #[.int .i64 k,.int .i64 id,.string a,.string b,.string c] 50));by_cases d:id<1
 .have d1:=QQ d;clear e d;go_wp2;go_ret;exact ⟨rfl,BB.o⟩
 .have d1:=QW d;have f:decide (1099511627776<id)=true:=As
  clear e d;go_wp2;go_ret;exact ⟨rfl,BB.o⟩
def yu (k id:Int) (b c a:Bz) (w:Wd) (f:1<=id) (d:id<=1099511627776) (e:k<0\/7<k):
  Calls prog 78 #[.agg #[.int .i64 k,.int .i64 id,.string b,.string c,.string a]] w (Ab w (.bool false)):=by
 have BB:=Hd (Ul (Xj w #[.int .i64 k,.int .i64 id,.string b,.string c,.string a] 50));have m:decide (id<1)=false:=As
 have h:decide (1099511627776<id)=false:=As
 have g:(k == 0)=false:=As
 have o:(k == 1)=false:=As
 have n:(k == 2)=false:=As
 have p:(k == 3)=false:=As
 have q:(k == 4)=false:=As
 have i:(k == 5)=false:=As
 have l:(k == 6)=false:=As
 have j:(k == 7)=false:=As
 clear e f d;go_in;go_wp2_with fail
 go_quiet (fail)
 go_wp2;go_ret;exact ⟨rfl,Uk BB.o _⟩
def Ij (x:Chg):Prop:=x.vol.size<=maxLen/\x.key.size<=maxLen/\x.rcd.size<=maxLen
def TZ {id:Int} (h:id<1\/1099511627776<id):Y4 id=false:=by
 unfold Y4;rw [Bool.and_eq_false_iff];simp;omega
def Fz (x:Chg) (w:Wd) (C:Ij x):
  Calls prog 78 #[.agg #[.int .i64 x.kind,.int .i64 x.id,.string x.key,.string x.rcd,.string x.vol]] w (Ab w (.bool (Z6 x))):=by
 obtain ⟨k,id,b,c,a⟩:=x;obtain ⟨i,f,g⟩:=C;simp only [Z6] at i f g ⊢;by_cases r:id<1\/1099511627776<id
 .have e:chB k id b c a=false:=by
   unfold chB Ie;rw [TZ r];simp
  rw [e];exact su k id b c a w r
 have h:1<=id:=Oo
 have d:id<=1099511627776:=Oo
 obtain ⟨⟨t,y,D,z⟩,B,A,v,u⟩:=sx;by_cases l:k=0
 .subst l;exact t _ id b c a w rfl h d i f g
 by_cases n:k=1
 .subst n;exact y _ id b c a w rfl h d i f g
 by_cases j:k=2
 .subst j;exact D _ id b c a w rfl h d i f g
 by_cases q:k=3
 .subst q;exact z _ id b c a w rfl h d i f g
 by_cases m:k=4
 .subst m;exact B _ id b c a w rfl h d i f g
 by_cases p:k=5
 .subst p;exact A _ id b c a w rfl h d i f g
 by_cases s:k=6
 .subst s;exact v _ id b c a w rfl h d i f g
 by_cases o:k=7
 .subst o;exact u _ id b c a w rfl h d i f g
 have e:chB k id b c a=false:=by
  unfold chB;rw [QX l,QX n,QX j,QX q,QX m,QX p,QX s,QX o]
 rw [e];exact yu k id b c a w h d Oo
end Go.Proofs.YtdleakjejodjjaaGreatDoor
