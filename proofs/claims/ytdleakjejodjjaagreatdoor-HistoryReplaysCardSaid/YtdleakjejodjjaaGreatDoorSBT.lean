/- Of the history laws. -/
import Derived.Test.YtdleakjejodjjaaGreatDoorSBG
import Derived.Test.YtdleakjejodjjaaGreatDoorSBS
namespace Go.Proofs.YtdleakjejodjjaaGreatDoor
open Tryz
set_option linter.all false
set_option maxHeartbeats 20000000
open Go.RowKit
open Go.Maps Go.Sort Go.Shelf
def rE:Value->Option (DataW Unit×List MemPlace):=fun _=>some (.nil,[])
def kT {e:MapEntry} {i:Int} (a:e.key=.int .i64 i) (hw:(Lit.int .i64 i).wf=true):WideElems.rd (H:=Unit) prog 3 rE e=some (.int .i64 i,.nil):=by
 simp [WideElems.rd,a,keyOf_int_mk underlying3 hw,rE]
def NC:∀ (a:List MapEntry) (b:List Cnt),Ent a b->(∀ x∈b,(Lit.int .i64 x.d.id).wf=true) ->
  (∀ e∈a,∃ y,WideElems.rd (H:=Unit) prog 3 rE e=some y)/\(a.map (WideElems.rg (H:=Unit) prog 3 rE)).map (fun p=>Go.intOf p.1)=b.map (·.d.id)
 | [],b,h,_=>by
  obtain rfl:=h.nil_l;exact ⟨fun e he=>(by cases he),rfl⟩
 |e::a,b,h,hw=>by
  obtain ⟨x,r,rfl,d,j,g⟩:=h.cons_l;have c:=kT d (hw x QP);obtain ⟨f,i⟩:=NC a r g fun y hy=>hw y (QN _ hy)
  refine ⟨fun y hy=>?_,?_⟩
  .rcases QH.1 hy with rfl|hy
   .exact ⟨_,c⟩
   .exact f y hy
  .simp only [WS];rw [i,WideElems.rg_of c];rfl
def oT {w:Wd} {b:Nat} {a:List Cnt} (h:SB w b a) (hw:∀ x∈a,(Lit.int .i64 x.d.id).wf=true) (hn:a.length<=maxLen):
  ∃ g:DataW Unit,w.ownsMap prog 3 rE b a.length g/\(intKeys g).Perm (a.map (·.d.id))/\Maps.size g=a.length:=by
 obtain ⟨d,c,k,he,f⟩:=h;obtain ⟨j,i⟩:=NC d.toList a he hw;have e:d.size=a.length:=by have:=he.len;simpa using this
 refine ⟨.map ((d.toList.map (WideElems.rg (H:=Unit) prog 3 rE)).foldr DataW.insert []),⟨d,c,k,⟨Oo,f,j⟩,Oo,rfl⟩,?_,?_⟩
 .show (((d.toList.map (WideElems.rg (H:=Unit) prog 3 rE)).foldr DataW.insert []).map fun p=>Go.intOf p.1).Perm _;rw [<-i];exact (Go.WideShapes.sorted_perm _).map _
 .show ((d.toList.map (WideElems.rg (H:=Unit) prog 3 rE)).foldr DataW.insert []).length=_;rw [length_sorted];simp [e]
def idsP (s:List PC):List Int:=(s.map (·.d.id)).mergeSort fun x y=>decide (x<=y)
def mem_idsP {s:List PC} {i:Int}:i∈idsP s<->∃ x∈s,x.d.id=i:=by
 unfold idsP;rw [(List.mergeSort_perm _ _).mem_iff,YY]
def vq (s:List PC):(idsP s).length=s.length:=by
 unfold idsP;rw [List.length_mergeSort,XT]
def ns (a:List Cnt):(a.map plC).map (·.d.id)=a.map (·.d.id):=by
 rw [JD];rfl
def oF (m:Nat):AnyZI.SortsIn prog sortedE_ren Fence.wide m:=
 ⟨fun blk c a e W f b d=>IQ.2 (AnyM.slices_Sort_int sortE blk c a e W f b d),
  fun p a W=>IQ.2 (AnyM.slices_Sort_int_none sortE p a W)⟩
def Of (b:Nat) (W:Wd):Calls prog 27 #[.map (some b)] W fun e w'=>e=.returned (.func (.func 56) #[] #[Ag W.1.size 0])/\w'=Aa W #[.map (some b)] 57:=
 (IQ (n:=5)).1 (AnyZI.keys_in keysE Fence.wide 5 trivial rfl (some b) W)
def Qq (b:Nat) (a:List Cnt) (w:Wd) (t:SB w b a) (hw:∀ x∈a,(Lit.int .i64 x.d.id).wf=true) (hn:a.length<=1000):
  Calls prog 26 #[.func (.func 56) #[] #[Ag w.1.size 0]] (Aa w #[.map (some b)] 57) fun e w'=>∃ v:Value,e=.returned v /\
   w'.ownsRow (Aa w #[.map (some b)] 57).1.size 3 1 v (idsP (a.map plC)).length ((idsP (a.map plC)).map encZ)/\Below (Aa w #[.map (some b)] 57).1.size (Aa w #[.map (some b)] 57) w':=by
 obtain ⟨k,l,d,m⟩:=oT t hw (by unfold maxLen;omega);have i:=l.lt
 have g:SeqGives Fence.wide 2 prog 56 #[Ag w.1.size 0] encZ (fun h=>h.Perm (intKeys k)) (Maps.size k) (Aa w #[.map (some b)] 57):=
  AnyZI.keys_gives (ρ:=keysE_ren) { keysE with } Fence.wide _ trivial rfl Oo w.1.size b a.length k _ Am Am (by
   obtain ⟨z,f,j,s,A,r⟩:=l;exact ⟨z,f,(YQ _ _ b i).trans j,s,A,r⟩)
 have o:=AnyZI.sorted_in sortedE Fence.wide 5 trivial trivial trivial trivial rfl Oo (oF _) (enters_of func55 Ak rfl) 56 #[Ag w.1.size 0] trivial (enters_of func56 Ak rfl) _ _ (by rw [m];unfold maxLen;omega) (by rw [m];omega) _ g;change CallsIn _ _ prog 26 _ _ _ at o;refine ((IQ (n:=5)).1 o).mono ?_;rintro e w' ⟨v,h,rfl,B,c,q,j⟩
 have p:h.mergeSort (fun x y=>decide (x<=y))=idsP (a.map plC):=by
  unfold idsP;rw [ns];exact mergeSort_of_perm_i (B.trans d)
 have u:h.length=(idsP (a.map plC)).length:=by rw [<-p,List.length_mergeSort]
 rw [p,u] at c;exact ⟨v,rfl,c,j⟩
end Go.Proofs.YtdleakjejodjjaaGreatDoor
