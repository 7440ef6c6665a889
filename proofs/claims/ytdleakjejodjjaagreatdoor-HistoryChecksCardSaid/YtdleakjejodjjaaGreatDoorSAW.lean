/- Of the history laws. -/
import Derived.Test.YtdleakjejodjjaaGreatDoorSAG
import Derived.Test.YtdleakjejodjjaaGreatDoorSAH
namespace Go.Proofs.YtdleakjejodjjaaGreatDoor
open Tryz
set_option linter.defProp false
set_option linter.unusedVariables false
set_option linter.unusedSimpArgs false
set_option maxRecDepth 100000
open Go.RowKit
open Go.Joins Go.ChangeShapes Go.WideShapes Go.Deep
section
variable {H:Type} {enc:TypeId×Value->H} {w:Wd} {base:Nat} {spare:Nat->Bool} {held:Bool}
def DOk (d:DSet):Prop:=(Lit.int .i64 d.id).wf=true/\(Lit.int .i64 d.org).wf=true/\(Lit.int .i64 d.fmt).wf=true/\(Lit.int .i64 d.len).wf=true/\(Lit.int .i64 d.blk).wf=true/\(Lit.int .i64 d.kat).wf=true/\(Lit.int .i64 d.kln).wf=true/\(Lit.int .i64 d.itv).wf=true/\(Lit.int .i64 d.area).wf=true/\(Lit.int .i64 d.fi).wf=true/\(Lit.int .i64 d.fa).wf=true/\(Lit.int .i64 d.base).wf=true/\(Lit.int .i64 d.aat).wf=true/\(Lit.int .i64 d.aln).wf=true/\(Lit.int .i64 d.cls).wf=true/\(Lit.int .i64 d.cre).wf=true/\(Lit.int .i64 d.exp).wf=true
def O5 {n:Nat} {cs:List Value} {x:DataW H×List MemPlace} (h:DataW.trod enc prog w base spare held n 74 cs=some x):∃ r:Pr,cs=prC r/\True:=by
 obtain ⟨j,m,d⟩:=J9 underlying74 (hone_of Ak) Ak h;have a:cs.length=2:=j;obtain ⟨s,q,c,g⟩:=d 0 _ rfl;obtain ⟨p,o,e,i⟩:=d 1 _ rfl;obtain ⟨k,b,_,_⟩:=YB underlying9 g;obtain ⟨l,f,_,_⟩:=YB underlying9 i
 match cs,a with
 | [c0,c1],_=>
  simp at c e b f;subst c e b f;exact ⟨⟨k,l⟩,rfl,trivial⟩
def O6 {n:Nat} {cs:List Value} {x:DataW H×List MemPlace} (h:DataW.trod enc prog w base spare held n 34 cs=some x):∃ r:DSet,cs=dC r/\DOk r:=by
 obtain ⟨hl,m,a⟩:=J9 underlying34 (hone_of Ak) Ak h;have hl':cs.length=21:=hl;obtain ⟨v0,y0,g0,t0⟩:=a 0 _ rfl;obtain ⟨v1,y1,g1,t1⟩:=a 1 _ rfl;obtain ⟨v2,y2,g2,t2⟩:=a 2 _ rfl;obtain ⟨v3,y3,g3,t3⟩:=a 3 _ rfl;obtain ⟨v4,y4,g4,t4⟩:=a 4 _ rfl;obtain ⟨v5,y5,g5,t5⟩:=a 5 _ rfl;obtain ⟨v6,y6,g6,t6⟩:=a 6 _ rfl;obtain ⟨v7,y7,g7,t7⟩:=a 7 _ rfl;obtain ⟨v8,y8,g8,t8⟩:=a 8 _ rfl;obtain ⟨v9,y9,g9,t9⟩:=a 9 _ rfl;obtain ⟨v10,y10,s,M⟩:=a 10 _ rfl;obtain ⟨v11,y11,c,K⟩:=a 11 _ rfl;obtain ⟨v12,y12,B,X⟩:=a 12 _ rfl;obtain ⟨v13,y13,A,J⟩:=a 13 _ rfl;obtain ⟨v14,y14,l,t14⟩:=a 14 _ rfl;obtain ⟨v15,y15,d,U⟩:=a 15 _ rfl;obtain ⟨v16,y16,q,E⟩:=a 16 _ rfl;obtain ⟨v17,y17,i,N⟩:=a 17 _ rfl;obtain ⟨v18,y18,f,t18⟩:=a 18 _ rfl;obtain ⟨v19,y19,j,V⟩:=a 19 _ rfl;obtain ⟨v20,y20,o,t20⟩:=a 20 _ rfl
 obtain ⟨a0,e0,_,w0⟩:=WH underlying3 t0;obtain ⟨a1,e1,_,w1⟩:=WH underlying3 t1;obtain ⟨a2,e2,_,w2⟩:=WH underlying3 t2;obtain ⟨a3,e3,_,w3⟩:=WH underlying3 t3;obtain ⟨a4,e4,_,w4⟩:=WH underlying3 t4;obtain ⟨a5,e5,_,w5⟩:=WH underlying3 t5;obtain ⟨a6,e6,_,w6⟩:=WH underlying3 t6;obtain ⟨a7,e7,_,w7⟩:=WH underlying3 t7;obtain ⟨a8,e8,_,w8⟩:=WH underlying3 t8;obtain ⟨a9,e9,_,w9⟩:=WH underlying3 t9;obtain ⟨I,u,_,Z⟩:=WH underlying3 M;obtain ⟨O,z,_,T⟩:=WH underlying3 K;obtain ⟨L,y,_,w12⟩:=WH underlying3 X;obtain ⟨a13,g,_,Y⟩:=WH underlying3 J;obtain ⟨F,t,_⟩:=UE underlying4 t14
 obtain ⟨a15,e,_,P⟩:=WH underlying3 U;obtain ⟨G,p,_,w16⟩:=YB underlying9 E;obtain ⟨W,C,_,w17⟩:=YB underlying9 N;obtain ⟨D,b,_,w18⟩:=WH underlying3 t18;obtain ⟨Q,v,_,R⟩:=WH underlying3 V;obtain ⟨S,k,_⟩:=UE underlying4 t20
 match cs,hl' with
 | [c0,c1,c2,c3,c4,c5,c6,c7,c8,c9,c10,c11,c12,c13,c14,c15,c16,c17,c18,c19,c20],_=>
  simp at g0 g1 g2 g3 g4 g5 g6 g7 g8 g9 s c B A l d q i f j o e0 e1 e2 e3 e4 e5 e6 e7 e8 e9 u z y g t e p C b v k;subst g0 g1 g2 g3 g4 g5 g6 g7 g8 g9 s c B A l d q i f j o e0 e1 e2 e3 e4 e5 e6 e7 e8 e9 u z y g t e p C b v k;exact ⟨⟨a0,a1,a2,a3,a4,a5,a6,a7,a8,a9,I,O,L,a13,F,a15,G,W,D,Q,S⟩,rfl,w0,w1,w2,w3,w4,w5,w6,w7,w8,w9,Z,T,w12,Y,P,w18,R⟩
def CIn (w:Wd) (x:Cnt):Prop:=Sl prC 2 w w.1.size x.pA x.pn x.pc x.ps/\x.pn<=maxLen/\(x.pA=none->x.pc=0)/\DOk x.d/\(Lit.int .i64 x.ap).wf=true
def Pk {n:Nat} {cs:List Value} {x:DataW H×List MemPlace} (h:DataW.trod enc prog w base spare held n 37 cs=some x):∃ r:Cnt,cs=cnC r/\CIn w r:=by
 obtain ⟨xs,m,_,rfl,e,f,j⟩:=IU underlying37 h;have J:cs.length=23:=e.trans Ak;have c:xs.length=3:=f;have B:prog.cellsOf 3=1:=Ak
 have z:prog.cellsOf 34=21:=Ak
 have K:prog.cellsOf 35=1:=Ak
 match xs,c with
 | [y0,y1,y2],_=>
  have F:=j 0 _ rfl;have I:=j 1 _ rfl;have k:=j 2 _ rfl;obtain ⟨d,t,q⟩:=O6 F;obtain ⟨o,M,_,s⟩:=WH underlying3 I;obtain ⟨A,p,c2,l,i,E,u,_⟩:=I2 (Q:=fun _=>True) Hl Ac underlying35 Ak (fun m cs y h=>O5 h) k
  have g:A=none->c2=0:=by
   intro g;subst g;rcases open_slice underlying35 k with ⟨b,_⟩|⟨a,len,G,P,O,D,R,b,_⟩
   .rw [i] at b;simp at b;exact b.2
   .rw [i] at b;simp at b
  refine ⟨⟨d,o,A,p,c2,l⟩,?_,E,u,g,q,s⟩
  have N:cs=(cs.drop 0).take 21++((cs.drop 21).take 1++(cs.drop 22).take 1):=by
   rw [VF]
   conv=>lhs;rw [<-ZS 21 cs]
   congr 1
   conv=>lhs;rw [<-ZS 1 (cs.drop 21)]
   congr 1;rw [List.drop_drop];exact (WU (by rw [XD];omega)).symm
  have v:(cs.drop 0).take 21=dC d:=by rw [<-z];exact t
  have C:(cs.drop 21).take 1=[.int .i64 o]:=by rw [<-B];exact M
  have L:(cs.drop 22).take 1=[.slice A p c2]:=by rw [<-K];exact i
  rw [N,v,C,L];rfl
def open_contents {r:Reach} {f:Nat} {v:Value} {d:DataW H} {p:List MemPlace} (k:Value.okWide prog w r f 22 v) (h:DataW.Trod enc prog w base spare held 22 v d p):
  ∃ (A:Option Addr) (n c:Nat) (l:List Cnt),v=.slice A n c/\Sl cnC 23 w w.1.size A n c l/\∀ x∈l,CIn w x:=by
 obtain ⟨o,len,g,rfl⟩:=okWide_slice underlying22 k;obtain ⟨a,i⟩:=h;obtain ⟨A,n,c,l,e,j,_,b⟩:=I2 qI Ac underlying22 Ak (fun m cs y h=>Pk h) i;simp [Value.cells] at e;obtain ⟨rfl,rfl,rfl⟩:=e;exact ⟨_,_,_,l,rfl,j,b⟩
end
end Go.Proofs.YtdleakjejodjjaaGreatDoor
