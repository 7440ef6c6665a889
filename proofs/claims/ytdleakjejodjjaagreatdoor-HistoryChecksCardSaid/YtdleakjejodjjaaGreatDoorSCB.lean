/- Of the history laws. -/
import Derived.Test.YtdleakjejodjjaaGreatDoorSBR
import Derived.Test.YtdleakjejodjjaaGreatDoorSCA
namespace Go.Proofs.YtdleakjejodjjaaGreatDoor
open Tryz
set_option linter.all false
set_option maxRecDepth 100000
set_option maxHeartbeats 20000000
open Go.RowKit
section
variable {x y:PC} {r s t:List PC}
section
variable (told:Bz->Int->Option DSet) (doF:PC->Int->Chg->Int ⊕ PC)
variable {told doF}
def ia {s t:List PC} (h:Rel s t) (id:Int):MR s id=MR t id:=by
 unfold MR;rw [h.eq]
def jZ (j:∀ r id d,told r id=some d->d.id=id) (g:∀ x n c y,doF x n c=.inr y->y.d.id=x.d.id):∀ (l:List Com) (i:Nat) (s t:List PC),Rel s t ->
  uq told doF i l s=jX told doF i l t
 | [],i,s,t,h=>rfl
 |u::r,i,s,t,h=>by
  have a:=qV j g u.num u.cs h;have m:(fun x:Rdd => !MW (MR s x.id) x)=fun x => !MW (MR t x.id) x:=funext fun x=>by rw [ia h]
  unfold uq jX;rw [m];split
  .rfl
  .cases ha:aft told doF u.num u.cs s with
   |inl e=>
    rw [ha] at a;cases b:Fe told doF u.num u.cs t with
    |inl f=>rw [b] at a;rw [show e=f from a]
    |inr k=>rw [b] at a;cases a
   |inr o=>
    rw [ha] at a;cases b:Fe told doF u.num u.cs t with
    |inl f=>rw [b] at a;cases a
    |inr k=>rw [b] at a;exact jZ j g r (i+1) o k a
end
end
def i7 (a:List Cnt) (l:List Com):ut a l=i8 a l:=by
 have h:=CB a [] [] Rel.nil;unfold ut i8;cases Zx l with
 |none=>rfl
 |some s=>
  cases c:F9 vC [] a with
  |none=>
   rw [c] at h;cases b:Jo [] (a.map plC) with
   |none=>rfl
   |some t=>rw [b] at h;exact h.elim
  |some d=>
   rw [c] at h;cases b:Jo [] (a.map plC) with
   |none=>rw [b] at h;exact h.elim
   |some t=>rw [b] at h;exact jZ zv qu s 0 _ _ h
section
variable {iA:Option Addr} {im ic:Nat} {ini:List Cnt} {A:Option Addr} {n c:Nat} {l:List Com} {w:Wd}
def LZ.check (h:LZ iA im ic ini A n c l w):Calls prog 7 #[.slice iA im ic,.slice A n c] w (jx (ut ini l) w):=
 OX iA im ic ini A n c l w h.hi h.hip (by have:=(fewA_facts h.few).1;omega) h.hs (fun x a=>(h.sm x a).1) (fewA_facts h.few).2.1 h.ht h.hc
def checks_few (iA:Option Addr) (im ic:Nat) (ini:List Cnt) (A:Option Addr) (n c:Nat) (l:List Com) (w:Wd) (h:LZ iA im ic ini A n c l w) (g:Awk w):
  Calls prog 3 #[.slice iA im ic,.slice A n c] w (Ab w (.bool true)):=by
 have t:=Hd (Cm iA im ic ini A n c l w h.hi (fun x z=>(h.hip x z).sl) h.hs);rw [h.few] at t;have B:=Hd g
 have u:Aw (∃ i k f,∀ W,Below w.1.size w W->Calls prog 7 #[.slice iA im ic,.slice A n c] W (fun e w'=>e=.returned (.tuple #[.int .i64 i,.int .i64 k,.int .i64 f])/\Below W.1.size W w')/\Calls prog 8 #[.slice iA im ic,.slice A n c] W (Ab W (.tuple #[.int .i64 i,.int .i64 k,.int .i64 f]))):=Hd (by
  have b:=fun W (a:Below w.1.size w W)=>(h.next a).check
  have d:=fun W (a:Below w.1.size w W)=>jW iA im ic ini A n c l W (h.next a).fp
  rw [i7 ini l] at b;generalize i8 ini l=R at b d
  match R,b,d with
  |.inl f,b,d=>exact ⟨0,0,f,fun W a=>⟨(b W a).mono fun e w' q=>q.2,d W a⟩⟩
  |.inr none,b,d=>exact ⟨-1,-1,0,fun W a=>⟨b W a,d W a⟩⟩
  |.inr (some (i,k)),b,d=>exact ⟨i,k,0,fun W a=>⟨b W a,d W a⟩⟩)
 obtain ⟨i,k,f,v⟩:=u.o;have m:=Hd v;clear h g u v;go_in;go_wp2_with (first|(go_at_call 5;refine yN t.o fun G r=>?_)|(go_at_call 7;refine (m.o _ r.o).1.mono ?_;rintro e E ⟨rfl,y⟩;have o:=Hd (U0 r.o y r.o.size);clear y)|(go_at_call 8;refine (m.o _ o.o).2.mono ?_;rintro e D ⟨rfl,s⟩;have p:=Hd (U0 o.o s o.o.size);clear s)|(go_at_call 6;refine yP (B.o _ p.o) fun F j=>?_;have C:=Hd (U0 p.o j p.o.size);clear j));go_ret;exact ⟨rfl,C.o⟩
end
end Go.Proofs.YtdleakjejodjjaaGreatDoor
