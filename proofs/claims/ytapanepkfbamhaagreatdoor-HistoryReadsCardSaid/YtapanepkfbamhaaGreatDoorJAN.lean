/- Part of the proof of HistoryReads. -/
import Derived.Test.YtapanepkfbamhaaGreatDoorJAM
namespace Go.Proofs.YtapanepkfbamhaaGreatDoor
open Tryz (prog)
open Go.RowKit
structure PC where
 d:DSet
 ap:Int
 ps:List Pr
def plC (x:Cnt):PC:=⟨x.d,x.ap,x.ps⟩
def isP (id:Int) (x:PC):Bool:=decide (x.d.id=id)
def Z4 (st:List PC) (id:Int):Option PC:=st.find? (isP id)
def putP (st:List PC) (x:PC):List PC:=if st.findIdx (isP x.d.id)<st.length then st.set (st.findIdx (isP x.d.id)) x else st++[x]
def delP (st:List PC) (id:Int):List PC:=st.eraseIdx (st.findIdx (isP id))
theorem isP_pl (id:Int):isP id∘plC=Vp id:=rfl
theorem G8 (st:List Cnt) (id:Int):Z4 (st.map plC) id=(Y5 st id).map plC:=by
 unfold Z4 Y5;rw [List.find?_map,isP_pl]
theorem idx_pl (st:List Cnt) (id:Int):(st.map plC).findIdx (isP id)=st.findIdx (Vp id):=by
 rw [List.findIdx_map,isP_pl]
theorem Js (st:List Cnt) (x:Cnt):putP (st.map plC) (plC x)=(Eo st x).map plC:=by
 unfold putP Eo;rw [show (plC x).d.id=x.d.id from rfl,idx_pl,List.length_map];split
 ·rw [List.map_set]
 ·simp
theorem delP_pl (st:List Cnt) (id:Int):delP (st.map plC) id=(delS st id).map plC:=by
 unfold delP delS;rw [idx_pl,List.eraseIdx_eq_take_drop_succ,List.eraseIdx_eq_take_drop_succ,List.map_append,List.map_take,List.map_drop]
def Y4 (st:List PC) (id:Int):List Pr:=match Z4 st id with|some x=>x.ps|none=>[]
def ansF (ps:List Pr) (r:Rdd):ByteArray×ByteArray×Int:=
 if r.kind=0 then (if (Eb ps r.key).2=0 then (r.key,(Eb ps r.key).1,0) else (⟨#[]⟩,⟨#[]⟩,6))
 else (if (Yq ps r.key).2.2=0 then Yq ps r.key else (⟨#[]⟩,⟨#[]⟩,6))
def Xy (ps:List Pr) (r:Rdd):Bool:=decide ((r.ak,r.ar,r.code)=ansF ps r)
def rexB (ps:List Pr) (r:Rdd):Bool:=
 if r.kind=0 then (if (Eb ps r.key).2=0 then decide ((r.ak,r.ar,r.code)=(r.key,(Eb ps r.key).1,(0:Int))) else decide (r.code=6))
 else (if (Yq ps r.key).2.2=0 then decide ((r.ak,r.ar,r.code)=((Yq ps r.key).1,(Yq ps r.key).2.1,(0:Int))) else decide (r.code=6))
theorem rex_is {ps:List Pr} {r:Rdd} (h:rdB r=true):rexB ps r=Xy ps r:=by
 have hc:r.code=0∨(r.ak=⟨#[]⟩∧r.ar=⟨#[]⟩∧r.code=6):=by
  unfold rdB at h;simp only [Bool.and_eq_true,Bool.or_eq_true,decide_eq_true_eq] at h;rcases h.2 with h|⟨⟨h1,h2⟩,h3⟩
  ·exact .inl h
  ·exact .inr ⟨ba_nil h1,ba_nil h2,h3⟩
 have h6:decide (r.code=6)=decide ((r.ak,r.ar,r.code)=((⟨#[]⟩:ByteArray),(⟨#[]⟩:ByteArray),(6:Int))):=by
  rcases hc with hc|⟨h1,h2,h3⟩
  ·rw [hc];simp
  ·rw [h1,h2,h3];simp
 unfold rexB Xy ansF;by_cases hk:r.kind=0
 ·rw [if_pos hk,if_pos hk]
  by_cases he:(Eb ps r.key).2=0
  ·rw [if_pos he,if_pos he]
  ·rw [if_neg he,if_neg he,h6]
 ·rw [if_neg hk,if_neg hk]
  by_cases he:(Yq ps r.key).2.2=0
  ·rw [if_pos he,if_pos he]
   generalize Yq ps r.key=v at he;obtain ⟨a,b,c⟩:=v;simp only at he;subst he;rfl
  ·rw [if_neg he,if_neg he,h6]
section
variable (told:ByteArray→Int→Option DSet) (doF:PC→Int→Chg→Int ⊕ PC)
def Kh (num:Int):List Chg→List PC→Option (List PC)
 | [],s=>some s
 |c::r,s=>if (Z4 s c.id).isSome=true∨c.kind≠4 then Kh num r s else match told c.rcd c.id with
  |none=>none
  |some d=>Kh num r (putP s ⟨d,num-1,[]⟩)
def Zn (num:Int):Nat→List Chg→List PC→Int ⊕ List PC
 |_,[],s=>.inr s
 |i,c::r,s=>match Z4 s c.id with
  |none=>Zn num (i+1) r s
  |some x=>
   if c.kind=5 then Zn num (i+1) r (delP s c.id)
   else if c.kind=6∨c.kind=7 then (match told c.rcd c.id with
    |none=>Zn num (i+1) r s
    |some d=>Zn num (i+1) r (putP s ⟨d,x.ap,x.ps⟩))
   else if c.kind=4 then Zn num (i+1) r s
   else match doF x (num+i) c with
    |.inl e=>.inl e
    |.inr y=>Zn num (i+1) r (putP s y)
def aft (num:Int) (cs:List Chg) (s:List PC):Int ⊕ List PC:=match Kh told num cs s with
 |none=>.inl 11
 |some s1=>Zn told doF num 0 cs s1
def Et:List Com→List PC→Int ⊕ List PC
 | [],s=>.inr s
 |u::r,s=>match aft told doF u.num u.cs s with
  |.inl e=>.inl e
  |.inr s1=>Et r s1
def chkF:Nat→List Com→List PC→Int ⊕ Option (Nat×Nat)
 |_,[],_=>.inr none
 |i,u::r,s=>
  if u.rs.findIdx (fun x => !Xy (Y4 s x.id) x)<u.rs.length then .inr (some (i,u.rs.findIdx (fun x => !Xy (Y4 s x.id) x)))
  else match aft told doF u.num u.cs s with
   |.inl e=>.inl e
   |.inr s1=>chkF (i+1) r s1
variable {told doF}
theorem aft_nil (num:Int) (s:List PC):aft told doF num [] s = .inr s:=rfl
theorem chk_end (x:Com) (r:Rdd) (hr:x.rs = [r]) (hc:x.cs = []):∀ (l:List Com) (i:Nat) (s:List PC),(∀ u∈l,u.rs = []) →
  chkF told doF i (l++[x]) s=match Et told doF l s with
   |.inl e=>.inl e
   |.inr s1=>if Xy (Y4 s1 r.id) r=true then .inr none else .inr (some (i+l.length,0))
 | [],i,s,_=>by
  show chkF told doF i [x] s=_;unfold chkF Et;rw [hr,hc];by_cases h:Xy (Y4 s r.id) r=true
  ·rw [if_neg (by simp [List.findIdx_cons,h]),aft_nil]
   simp only;rw [if_pos h];rfl
  ·have h':Xy (Y4 s r.id) r=false:=by simpa using h
   rw [if_pos (by simp [List.findIdx_cons,h'])];simp only;rw [if_neg h];simp [List.findIdx_cons,h']
 |u::l,i,s,h=>by
  have hu:u.rs = []:=h u List.mem_cons_self;show chkF told doF i (u::(l++[x])) s=_;unfold chkF Et;rw [hu,if_neg (by simp)];cases ha:aft told doF u.num u.cs s with
  |inl e=>rfl
  |inr s1=>
   simp only;rw [chk_end x r hr hc l (i+1) s1 fun v hv=>h v (List.mem_cons_of_mem _ hv)];cases Et told doF l s1 with
   |inl e=>rfl
   |inr s2=>
    simp only [List.length_cons];rw [show i+1+l.length=i+(l.length+1) from by omega]
end
theorem getP_id {st:List PC} {id:Int} {x:PC} (h:Z4 st id=some x):x.d.id=id:=by
 have:=List.find?_some h;simpa [isP] using this
theorem getP_map (st:List PC) (id:Int):∀ (ks:List Int) (now:List PC),now.map some=ks.map (Z4 st)→Z4 now id=if id∈ks then Z4 st id else none
 | [],now,h=>by
  have:now = []:=by simpa using h
  subst this;simp [Z4]
 |k::ks,[],h=>by simp at h
 |k::ks,y::r,h=>by
  simp only [List.map_cons,List.cons.injEq] at h;obtain ⟨h1,h2⟩:=h;have hy:=getP_id h1.symm;have ih:=getP_map st id ks r h2;unfold Z4 at ih ⊢;rw [List.find?_cons];by_cases e:k=id
  ·subst e
   have hi:isP k y=true:=by simp [isP,hy]
   rw [hi,if_pos List.mem_cons_self];exact h1
  ·have hi:isP id y=false:=by simp [isP,hy,e]
   rw [hi];simp only;rw [ih];by_cases hm:id∈ks
   ·rw [if_pos hm,if_pos (List.mem_cons_of_mem _ hm)]
   ·rw [if_neg hm,if_neg (by simp only [List.mem_cons,not_or];exact ⟨fun h=>e h.symm,hm⟩)]
theorem psOf_map (st:List PC) (id:Int) (ks:List Int) (now:List PC) (h:now.map some=ks.map (Z4 st)) (hk:∀ i,(Z4 st i).isSome=true→i∈ks):Y4 now id=Y4 st id:=by
 unfold Y4;rw [getP_map st id ks now h];by_cases hm:id∈ks
 ·rw [if_pos hm]
 ·rw [if_neg hm]
  cases hg:Z4 st id with
  |none=>rfl
  |some x=>exact absurd (hk id (by rw [hg];rfl)) hm
end Go.Proofs.YtapanepkfbamhaaGreatDoor
