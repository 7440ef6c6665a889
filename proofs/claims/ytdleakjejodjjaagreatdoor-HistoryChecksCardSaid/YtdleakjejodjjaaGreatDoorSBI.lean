/- Of the history laws. -/
import Derived.Test.YtdleakjejodjjaaGreatDoorSBH
import Derived.Test.YtdleakjejodjjaaGreatDoorSBG
namespace Go.Proofs.YtdleakjejodjjaaGreatDoor
open Tryz
set_option linter.defProp false
set_option linter.unusedVariables false
set_option linter.unusedSimpArgs false
open Go.RowKit
section
variable {w:Wd} {y:Cnt} {v:Value} {bs:Nat} {w0:Wd} {st:List Cnt} {x:Cnt} {A':Option Addr} {c':Nat} {wx w2:Wd} {out:List Cnt}
def CW.grown {w':Wd} {row:Option Nat} (h:CW w y) (f:w.grownBy w' row) (g:0<y.pn->∀ a,y.pA=some a->some a.block≠row):CW w' y:=by
 refine ⟨⟨h.sl.1,h.sl.2.1,h.sl.2.2.1,fun c=>?_⟩,h.le,h.nil,h.rz⟩;obtain ⟨b,o,e,d,k⟩:=h.sl.2.2.2 c;refine ⟨b,o,e,WK d f.size,fun j u i=>?_⟩;rw [WO (a:=⟨b,o+j,none⟩) (f.block b d (g c _ e))];exact k j u i
def CW.lt (h:CW w y) (d:0<y.pn) (a:Addr) (c:y.pA=some a):a.block<w.1.size:=by
 obtain ⟨b,o,e,f,_⟩:=h.sl.2.2.2 d;rw [c] at e;injection e with e
 subst e;exact f
structure NK (bs:Nat) (w0 W:Wd) (v:Value) (st out:List Cnt):Prop where
 own:W.ownsRow w0.1.size 37 23 v out.length (U7 cnC out)
 ps:∀ y∈out,CW W y/\(0<y.pn->∀ a,y.pA=some a->some a.block≠v.ownBlock)
 nw:∀ y∈out,0<y.pn->∀ a,y.pA=some a->w0.1.size<=a.block
 be:Below w0.1.size w0 W
 sw:SW w0 bs st
def Pj {base n k:Nat} {t:TypeId} {xs:List Value} (h:w.ownsRow base t k v n xs):∀ g,v.ownBlock=some g->g<w.1.size/\base<=g:=by
 intro g a;rcases h.2 with ⟨b,_⟩|⟨f,d,c,b,e,hw,_⟩
 .subst b;cases a
 .subst b;injection a with a
  subst a;exact ⟨(WA.1 hw).1,e⟩
def NK.start (h:SW w0 bs st):NK bs w0 w0 (.slice none 0 0) st []:=
 ⟨⟨rfl,.inl ⟨rfl,rfl⟩⟩,fun y hy=>(by cases hy),fun y hy=>(by cases hy),Bf _ _,h⟩
abbrev LN (wx:Wd) (x):=wx.alloc (.cells (cnC x).toArray 37)
abbrev LM (w2:Wd) (wx:Wd) (n_) (A') (x:Cnt) (c'):=w2.setCell ⟨wx.1.size,22,n_⟩ (.slice A' x.pn c')
def M7 (b:Obj) (a:Below (LN wx x).1.size (LN wx x) w2):
  Below wx.1.size wx ((LM w2 wx none A' x c').alloc b):=by
 have hz:=a.size;simp at hz;exact ((((Bf wx.1.size wx).alloc (Le _) _).trans (a.mono Am)).setCell (Le _) _).alloc As _
def NK.step {o:Wd} {f:Value} {b:Obj} (h:NK bs w0 wx v st out) (E:x.pn<=1024) (r:∀ q∈x.ps,q.rcd.size<=maxLen)
  (p:Below (LN wx x).1.size (LN wx x) w2)
  (C:w2.ownsRow (LN wx x).1.size 74 2 (.slice A' x.pn c') x.pn (U7 prC x.ps))
  (D:o.ownsRow w0.1.size 37 23 f (out.length+1) (U7 cnC out++cnC (reP x A' c')))
  (t:((LM w2 wx none A' x c').alloc b).grownBy o v.ownBlock)
  (m:f.ownBlock=v.ownBlock\/f.ownBlock=some ((LM w2 wx none A' x c').alloc b).1.size):NK bs w0 o f st (out++[reP x A' c']):=by
 have s:=M7 (A':=A') (c':=c') b p;have hz:=p.size;simp at hz;have F:Blk w2 wx.1.size 37 (cnC x).toArray:=(Blk.new wx _ _).below p Am;have z:=(BN C F Ac 22 (.slice A' x.pn c')).alloc b;have B:CW ((LM w2 wx none A' x c').alloc b) (reP x A' c'):=CW.of_own' z E r;have i:=Pj h.own;have g:=Pj z;refine ⟨?_,fun y hy=>?_,fun y hy j a c=>?_,?_,h.sw⟩
 .rw [WW,V9,Xr];exact D
 .have key:∀ y,CW ((LM w2 wx none A' x c').alloc b) y->(0<y.pn->∀ a,y.pA=some a->some a.block≠v.ownBlock)->CW o y/\(0<y.pn->∀ a,y.pA=some a->some a.block≠f.ownBlock):=by
   intro y hy u;refine ⟨hy.grown t u,fun j a c=>?_⟩;rcases m with m|m
   .rw [m];exact u j a c
   .rw [m];have:=hy.lt j a c;intro e;injection e with e
    omega
  rcases QC.1 hy with hy|hy
  .obtain ⟨l,n⟩:=h.ps y hy;exact key y (l.below s) n
  .rw [QT] at hy;subst hy;refine key _ B fun j a c e=>?_
   have d:A'=some a:=c;have l:=g a.block (by rw [d];rfl);have n:=i a.block e.symm;have:=l.2;simp at this;omega
 .rcases QC.1 hy with hy|hy
  .exact h.nw y hy j a c
  .rw [QT] at hy;subst hy;have d:A'=some a:=c;have l:=g a.block (by rw [d];rfl);have n:=l.2;have G:=h.be.size;simp at n;omega
 .have h5:Below w0.1.size w0 ((LM w2 wx none A' x c').alloc b):=h.be.trans (s.mono h.be.size);exact h5.grown t (Lx h.be.size s.size) fun k A=>(i k A).2
end
end Go.Proofs.YtdleakjejodjjaaGreatDoor
