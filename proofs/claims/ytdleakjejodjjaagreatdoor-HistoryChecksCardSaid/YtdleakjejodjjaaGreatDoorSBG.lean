/- Of the history laws. -/
import Derived.Test.YtdleakjejodjjaaGreatDoorSBC
import Derived.Test.YtdleakjejodjjaaGreatDoorSIS
namespace Go.Proofs.YtdleakjejodjjaaGreatDoor
open Tryz
set_option linter.defProp false
set_option linter.unusedVariables false
set_option linter.unusedSimpArgs false
open Go.RowKit
section
variable {x y:PC} {r s t:List PC}
def S1 (h:y.d.id<x.d.id):insP x (y::r)=y::insP x r:=by
 unfold insP Od;rw [ZF];simp [h]
def Nw (h:¬ y.d.id<x.d.id):insP x (y::r)=x::y::r:=by
 unfold insP Od;rw [ZF];simp [h]
def mem_insP {z:PC}:z∈insP x s<->z=x\/z∈s:=by
 unfold insP;rw [QC,QH,or_left_comm,<-QC,ZS]
def S9 (x:PC):∀ (s:List PC) (id:Int),Vc s x.d.id=none->Vc (insP x s) id=if x.d.id=id then some x else Vc s id
 | [],id,_=>Vq x [] id
 |y::r,id,h=>by
  rw [Vq] at h;by_cases hy:y.d.id=x.d.id
  .rw [QK hy] at h;cases h
  .rw [QX hy] at h;by_cases b:y.d.id<x.d.id
   .rw [S1 b,Vq,Vq,S9 x r id h];by_cases a:y.d.id=id
    .rw [QK a,QK a,QX Oo]
    .rw [QX a,QX a]
   .rw [Nw b,Vq]
def C2 (x:PC):∀ (s:List PC),N3 s->Vc s x.d.id=none->N3 (insP x s)
 | [],_,_=>List.pairwise_singleton _ _
 |y::r,hs,h=>by
  rw [Vq] at h;have c:=XJ.1 hs;by_cases hy:y.d.id=x.d.id
  .rw [QK hy] at h;cases h
  .rw [QX hy] at h;by_cases b:y.d.id<x.d.id
   .rw [S1 b];refine XJ.2 ⟨fun i a=>?_,C2 x r c.2 h⟩;obtain ⟨z,hz,rfl⟩:=YY.1 a;rcases mem_insP.1 hz with rfl|hz
    .exact b
    .exact c.1 _ (YY.2 ⟨z,hz,rfl⟩)
   .rw [Nw b];refine XJ.2 ⟨fun i a=>?_,hs⟩;rcases QH.1 a with rfl|a
    .show x.d.id<y.d.id;omega
    .have h9:y.d.id<i:=c.1 i a;show x.d.id<i;omega
def zG (h:N3 s):NdP s:=List.Pairwise.imp (fun h=>Oo) h
def sO (h:N3 s) (a:(Vc s x.d.id).isSome=true):N3 (Eo s x):=by
 unfold N3;rw [Hk,LO,QK (ids_get.2 a)];exact h
def qv (h:N3 s) (i:Int):N3 (Ji s i):=by
 rw [Hx];exact List.Pairwise.sublist ((My s i).map _) h
structure Rel (s t:List PC):Prop where
 nd:NdP s
 so:N3 t
 eq:∀ id,Vc s id=Vc t id
def Rel.nil:Rel [] []:=⟨JB,JB,fun _=>rfl⟩
def Rel.put (h:Rel s t) (a:(Vc t x.d.id).isSome=true):Rel (Eo s x) (Eo t x):=
 ⟨yO h.nd x,sO h.so a,fun id=>by rw [Mg,Mg,h.eq]⟩
def Rel.ins (h:Rel s t) (a:Vc t x.d.id=none):Rel (Eo s x) (insP x t):=
 ⟨yO h.nd x,C2 x t h.so a,fun id=>by rw [Mg,S9 x t id a,h.eq]⟩
def Rel.del (h:Rel s t) (i:Int):Rel (Ji s i) (Ji t i):=
 ⟨nZ h.nd i,qv h.so i,fun id=>by rw [Sa h.nd,Sa (zG h.so),h.eq]⟩
section
variable (told:Bz->Int->Option DSet) (doF:PC->Int->Chg->Int ⊕ PC)
def pb:Int ⊕ List PC->Int ⊕ List PC->Prop
 |.inl e,.inl f=>e=f
 |.inr s,.inr t=>Rel s t
 |_,_=>False
variable {told doF}
def MI (e:∀ r id d,told r id=some d->d.id=id) (a:Int):∀ (cs:List Chg) (s t:List PC),Rel s t ->
  (Ju told a cs s=none/\IN told a cs t=none)\/∃ g f,Ju told a cs s=some g/\IN told a cs t=some f/\Rel g f
 | [],s,t,h=>.inr ⟨s,t,rfl,rfl,h⟩
 |c::r,s,t,h=>by
  unfold Ju IN;rw [h.eq c.id];by_cases b:(Vc t c.id).isSome=true\/c.kind≠4
  .rw [QK b,QK b];exact MI e a r s t h
  .rw [QX b,QX b];cases i:told c.rcd c.id with
   |none=>exact .inl ⟨rfl,rfl⟩
   |some d=>
    refine MI e a r _ _ (h.ins ?_);rw [show (PC.mk d (a-1) []).d.id=c.id from e _ _ _ i];cases j:Vc t c.id with
    |none=>rfl
    |some x=>exact absurd (.inl (by rw [j];rfl)) b
def Ex (f:∀ r id d,told r id=some d->d.id=id) (b:∀ x n c y,doF x n c=.inr y->y.d.id=x.d.id) (a:Int):∀ (cs:List Chg) (i:Nat) (s t:List PC),Rel s t ->
  pb (Yc told doF a i cs s) (Yc told doF a i cs t)
 | [],i,s,t,h=>h
 |c::r,i,s,t,h=>by
  unfold Yc;rw [h.eq c.id];cases g:Vc t c.id with
  |none=>exact Ex f b a r (i+1) s t h
  |some x=>
   have k:x.d.id=c.id:=by
    have:=List.find?_some g;simpa [isP] using this
   have j:∀ y:PC,y.d.id=c.id->(Vc t y.d.id).isSome=true:=fun y hy=>by rw [hy,g];rfl
   simp only;split
   .exact Ex f b a r (i+1) _ _ (h.del c.id)
   .split
    .cases hq:told c.rcd c.id with
     |none=>exact Ex f b a r (i+1) s t h
     |some d=>exact Ex f b a r (i+1) _ _ (h.put (j ⟨d,x.ap,x.ps⟩ (f _ _ _ hq)))
    .split
     .exact Ex f b a r (i+1) s t h
     .cases hq:doF x (a+i) c with
      |inl e=>rfl
      |inr y=>exact Ex f b a r (i+1) _ _ (h.put (j y (by rw [b _ _ _ _ hq,k])))
def qV (f:∀ r id d,told r id=some d->d.id=id) (g:∀ x n c y,doF x n c=.inr y->y.d.id=x.d.id) (a:Int) (cs:List Chg) {s t:List PC} (h:Rel s t):
  pb (aft told doF a cs s) (Fe told doF a cs t):=by
 unfold aft Fe;rcases MI f a cs s t h with ⟨e,b⟩|⟨j,i,e,b,k⟩
 .rw [e,b];rfl
 .rw [e,b];exact Ex f g a cs 0 j i k
end
end
end Go.Proofs.YtdleakjejodjjaaGreatDoor
