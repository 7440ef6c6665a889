/- Of the history laws. -/
import Derived.Test.YtdleakjejodjjaaGreatDoorSAH
import Derived.Lib.ItoaNum
namespace Go.Proofs.YtdleakjejodjjaaGreatDoor
open Tryz
set_option linter.defProp false
set_option linter.unusedVariables false
set_option linter.unusedSimpArgs false
set_option maxRecDepth 100000
set_option maxHeartbeats 20000000
open Go.RowKit
def YD (n:Int):Bool:=Uo n 0 65536
def Nv (n:Int) (w:Wd):Calls prog 397 #[.int .i64 n] w (Ae w (.bool (YD n))):=by
 unfold YD Uo;obtain ⟨p,a⟩:=yG (decide (0<=n));obtain ⟨q,b⟩:=yG (decide (n<=65536));rw [a,b];cases p
 all_goals
  go_wp2;go_ret;exact ⟨Am,rfl⟩
def xY (y:Int) (w:Wd):Calls prog 418 #[.int .i64 y] w fun e w'=>(∃ b,e=.returned (.bool b))/\w=w':=by
 go_wp2
 all_goals
  go_ret;exact ⟨⟨_,rfl⟩,rfl⟩
def Jd (n:Nat):Int:=365*(n:Int)+((n:Int)+3) / 4-((n:Int)+99) / 100+((n:Int)+399) / 400
def NA (n:Nat):365*(n:Int)<=Jd n/\Jd n<=366*(n:Int)+1:=by unfold Jd;omega
def Ox (n:Nat) (hn:n<=400) (w:Wd):Calls prog 414 #[.int .i64 (2000+(n:Int))] w (Ae w (.int .i64 (Jd n))):=by
 go_wp2;go_ret;refine ⟨?_,rfl⟩;show Ending.returned (.int .i64 (365*(2000+(n:Int)-2000)+(2000+(n:Int)-2000+3) / 4-(2000+(n:Int)-2000+99) / 100+(2000+(n:Int)-2000+399) / 400))=_;unfold Jd;congr 2;omega
def Wf (z:Int):Array Value:=#[.int .i64 31,.int .i64 z,.int .i64 31,.int .i64 30,.int .i64 31,.int .i64 30,.int .i64 31,.int .i64 31,.int .i64 30,.int .i64 31,.int .i64 30,.int .i64 31]
def RU (y:Int) (w:Wd):Calls prog 415 #[.int .i64 y] w fun e w'=>(∃ z:Int,28<=z/\z<=29/\e=.returned (.agg (Wf z)))/\Below w.1.size w w':=by
 have a:=Hd fun W=>xY y W
 go_in;go_wp2_with (go_at_call 418;refine (a.o _).mono ?_;rintro e c ⟨⟨b,rfl⟩,rfl⟩)
 .refine Br (v:=.agg (Wf 29)) (results_cell_row results415 _ _ w.1.size 414 (Wf 29) (0,0) _ rfl ((Blk.new w _ _).alloc _) underlying414 rfl Ak) rfl ?_;exact ⟨⟨29,Ac,Ac,rfl⟩,Aj.alloc Am _⟩
 .refine Br (v:=.agg (Wf 28)) (results_cell_row results415 _ _ w.1.size 414 (Wf 28) (0,0) _ rfl ((Blk.new w _ _).alloc _) underlying414 rfl Ak) rfl ?_;exact ⟨⟨28,Ac,Ac,rfl⟩,Aj.alloc Am _⟩
def rC (z:Int) (a:28<=z) (c:z<=29) (j:Nat) (b:j<12):∃ m:Int,28<=m/\m<=31/\∀ W:Wd,(Instr.index 414 (.agg (Wf z)) (.int .i64 j)).run prog W=.ok (.int .i64 m) W:=by
 have h:j=0\/j=1\/j=2\/j=3\/j=4\/j=5\/j=6\/j=7\/j=8\/j=9\/j=10\/j=11:=Oo
 rcases h with rfl|rfl|rfl|rfl|rfl|rfl|rfl|rfl|rfl|rfl|rfl|rfl
 .exact ⟨31,Ac,Ac,fun W=>Ak⟩
 .exact ⟨z,a,Oo,fun W=>Ak⟩
 .exact ⟨31,Ac,Ac,fun W=>Ak⟩
 .exact ⟨30,Ac,Ac,fun W=>Ak⟩
 .exact ⟨31,Ac,Ac,fun W=>Ak⟩
 .exact ⟨30,Ac,Ac,fun W=>Ak⟩
 .exact ⟨31,Ac,Ac,fun W=>Ak⟩
 .exact ⟨31,Ac,Ac,fun W=>Ak⟩
 .exact ⟨30,Ac,Ac,fun W=>Ak⟩
 .exact ⟨31,Ac,Ac,fun W=>Ak⟩
 .exact ⟨30,Ac,Ac,fun W=>Ak⟩
 .exact ⟨31,Ac,Ac,fun W=>Ak⟩
def jw (w:Wd) (e:Ending) (w':Wd):Prop:=(∃ y m d:Int,e=.returned (.tuple #[.int .i64 y,.int .i64 m,.int .i64 d])/\0<=y/\y<=3000/\0<=m/\m<=13/\-100000<=d/\d<=100000)/\Below w.1.size w w'
def kl {G:Prop} (h:G:=by
  go_wp2;refine Br (JS results398 _ _ _) rfl ?_;exact ⟨⟨_,_,_,rfl,Oo,Oo,Oo,Oo,Oo,Oo⟩,HB.o⟩):G:=h
def uh (a:Int) (w:Wd) (h:YD a=true):Calls prog 398 #[.int .i64 a] w (jw w):=by
 have x:Aw (∀ W,Calls prog 397 #[.int .i64 a] W (Ae W (.bool true))):=Hd fun W=>by have:=Nv a W;rwa [h] at this
 obtain ⟨I,H⟩:0<=a/\a<=65536:=by unfold YD at h;exact winB_true.1 h
 have o:=Hd Ox;have s:=Hd RU;clear h;go_in;go_wp2_with (go_at_call 397;refine yE (x.o _) ?_);go_loopw [5] (fun v wr=>∃ n:Nat,n<=180/\v=.int .i64 (2000+(n:Int))/\wr=w) (fun v _=>2180-(intOf v).toNat)
 .exact ⟨(a / 366).toNat,Oo,by congr 1;omega,rfl⟩
 .obtain ⟨n,hn,rfl,rfl⟩:=hrel;have b:Aw (Calls prog 414 #[.int .i64 (2000+(n:Int)+1)] wr (Ae wr (.int .i64 (Jd (n+1))))):=Hd (by have:=o.o (n+1) Oo wr;rwa [show (2000:Int)+((n+1:Nat):Int)=2000+(n:Int)+1 from Oo] at this);have A:=NA (n+1);obtain ⟨f,r⟩:=yG (Jd (n+1));rw [r] at b A;clear r;by_cases F:f<=a
  .go_wp2_with (go_at_call 414;refine yE b.o ?_);go_roundw
   .exact ⟨n+1,Oo,Au,trivial⟩
   .exact At
  .have HF2:=Hd (o.o n Oo wr);have D:=NA n;obtain ⟨E,k⟩:=yG (Jd n);rw [k] at HF2 D;clear k;go_wp2_with (first|(go_at_call 414;first|((with_reducible show Calls _ _ #[.int .i64 (_+1)] _ _);refine yE b.o ?_)|((with_reducible show Calls _ _ #[.int .i64 (2000+(_:Int))] _ _);refine yE HF2.o ?_))|(go_at_call 415;refine (s.o _ _).mono ?_;rintro e l ⟨⟨z,t,q,rfl⟩,p⟩;have HB:=Hd p;have u:=Hd (And.intro t q);clear p t q));have c:=rC z u.o.1 u.o.2;have g:=Hd c;clear c b HF2 x o s;generalize Wf z=L at g ⊢;have J:Aw (Below l.1.size l l):=Hd (Bf _ _);go_loopw [0,27] (fun v i C=>∃ (j:Nat) (d:Int),j<=12/\i=.int .i64 j/\v=.int .i64 d/\-70000<=d/\d<=70000/\C=l) (fun _ i _=>12-(intOf i).toNat)
   .exact ⟨0,a-E,Oo,rfl,rfl,Oo,Oo,rfl⟩
   .obtain ⟨j,d,hj,rfl,rfl,hd0,hd1,rfl⟩:=hrel;by_cases y:j<12
    .obtain ⟨m,i6,iW,hi⟩:=g.o j y;by_cases B:d<m
     .exact kl
     .go_wp2;go_roundw
      .exact ⟨j+1,d-m,Oo,Au,rfl,Oo,Oo,trivial⟩
      .exact At
    .obtain rfl:j=12:=Oo
     exact kl
end Go.Proofs.YtdleakjejodjjaaGreatDoor
