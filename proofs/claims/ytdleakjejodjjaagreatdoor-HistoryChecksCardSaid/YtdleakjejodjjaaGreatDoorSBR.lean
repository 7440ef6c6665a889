/- Of the history laws. -/
import Derived.Test.YtdleakjejodjjaaGreatDoorSBQ
import Derived.Test.YtdleakjejodjjaaGreatDoorSBI
namespace Go.Proofs.YtdleakjejodjjaaGreatDoor
open Tryz
set_option linter.all false
set_option maxRecDepth 100000
open Go.RowKit
def qu (x:PC) (n:Int) (c:Chg) (y:PC) (h:doF x n c=.inr y):y.d.id=x.d.id:=by rw [uc x n c y h]
def zv (r:Bz) (id:Int) (d:DSet) (h:Uq r id=some d):d.id=id:=NT h
def jS:Option (List Cnt)->Option (List PC)->Prop
 |none,none=>True
 |some s,some t=>Rel (s.map plC) t
 |_,_=>False
def CB:∀ (c b:List Cnt) (t:List PC),Rel (b.map plC) t->jS (F9 vC b c) (Jo t (c.map plC))
 | [],b,t,h=>h
 |x::r,b,t,h=>by
  have d:(Yi b x.d.id).isSome=(Vc t x.d.id).isSome:=by
   rw [<-h.eq,Iy];cases Yi b x.d.id<;>rfl
  rw [WS];unfold F9 Jo;by_cases a:(Yi b x.d.id).isSome=true\/vC x=false
  .rw [QK a,QK (by rw [d] at a;exact a.symm)]
   trivial
  .rw [QX a,QX (by rw [d] at a;exact fun h=>a h.symm)];refine CB r _ _ ?_;rw [<-FC];refine h.ins ?_;rw [d] at a;cases e:Vc t x.d.id with
   |none=>exact e
   |some y=>exact absurd (.inl (by rw [e];rfl)) a
section
variable {iA:Option Addr} {im ic:Nat} {ini:List Cnt} {A:Option Addr} {n c:Nat} {l:List Com} {w:Wd}
def Awk (w:Wd):Prop:=∀ W:Wd,Below w.1.size w W->Calls prog 6 #[] W (Ab W (.bool true))
structure LZ (iA:Option Addr) (im ic:Nat) (ini:List Cnt) (A:Option Addr) (n c:Nat) (l:List Com) (w:Wd):Prop where
 hi:Sl cnC 23 w w.1.size iA im ic ini
 hip:∀ x∈ini,CW w x
 hiw:∀ x∈ini,(Lit.int .i64 x.d.id).wf=true
 hs:Cs w w.1.size A n c l
 few:fewA im ini n l=true
 ht:Sta w
 hc:Cod w
def LZ.next {W:Wd} (h:LZ iA im ic ini A n c l w) (a:Below w.1.size w W):LZ iA im ic ini A n c l W:=
 ⟨h.hi.after a a.size,fun x b=>(h.hip x b).below a,h.hiw,h.hs.after a a.size,h.few,h.ht.after a,h.hc.after a⟩
def LZ.sm (h:LZ iA im ic ini A n c l w):∀ x∈l,SmC x/\x.cn<=8/\∀ y∈x.cs,Ij y:=fun x d=>by
 obtain ⟨b,_,a,_⟩:=Sg ((fewA_facts h.few).2.2.2 x d);refine ⟨fun y hy=>?_,b,fun y hy=>?_⟩
 .have:=a y hy;unfold maxLen;omega
 .have:=a y hy;refine ⟨?_,?_,?_⟩<;>unfold maxLen<;>omega
def LZ.fp (h:LZ iA im ic ini A n c l w):FP iA im ic ini A n c l w:=
 ⟨h.hi,h.hip,(fewA_facts h.few).1,fun x a=>by rw [(h.hip x a).sl.len];exact ((fewA_facts h.few).2.2.1 x a).1,h.hs,fun x a=>(h.sm x a).2.2,fun x a=>(h.sm x a).2.1,(fewA_facts h.few).2.1⟩
def rp_big (iA:Option Addr) (im ic:Nat) (ini:List Cnt) (A:Option Addr) (n c:Nat) (l:List Com) (w:Wd) (k:Sl cnC 23 w w.1.size iA im ic ini) (d:∀ x∈ini,Sl prC 2 w w.1.size x.pA x.pn x.pc x.ps) (j:Cs w w.1.size A n c l) (f:Awk w) (i:fewA im ini n l=false):
  Calls prog 4 #[.slice iA im ic,.slice A n c] w (fun e w'=>e=.returned (.bool true)/\Below w.1.size w w')/\Calls prog 3 #[.slice iA im ic,.slice A n c] w (Ab w (.bool true)):=by
 have g:=Hd (Cm iA im ic ini A n c l w k d j);have m:=Hd f;rw [i] at g;clear k d j f i;constructor
 .go_in;go_wp2_with (first|(go_at_call 5;refine yN g.o fun p b=>?_)|(go_at_call 6;refine yP (m.o _ b.o) fun o a=>?_;have h:=Hd (U0 b.o a b.o.size);clear a));go_ret;exact ⟨rfl,h.o⟩
 .go_in;go_wp2_with (first|(go_at_call 5;refine yN g.o fun p b=>?_)|(go_at_call 6;refine yP (m.o _ b.o) fun o a=>?_;have h:=Hd (U0 b.o a b.o.size);clear a));go_ret;exact ⟨rfl,h.o⟩
end
end Go.Proofs.YtdleakjejodjjaaGreatDoor
