/- Of the history laws. -/
import Derived.Test.YtdleakjejodjjaaGreatDoorSAD
import Derived.Lib.SmallJoins
namespace Go.Proofs.YtdleakjejodjjaaGreatDoor
open Tryz
set_option linter.defProp false
set_option linter.unusedVariables false
set_option linter.unusedSimpArgs false
set_option maxRecDepth 100000
open Go.RowKit
open Go.Joins Go.ChangeShapes Go.WideShapes Go.Deep
def ME {α:Type} {P:Nat->α->Prop}:∀ (m:Nat),(∀ i,i<m->∃ x,P i x)->∃ l:List α,l.length=m/\∀ i x,l[i]? =some x->P i x
 |0,_=>⟨[],rfl,fun i x h=>by simp at h⟩
 |m+1,h=>by
  obtain ⟨l,a,b⟩:=ME m fun i d=>h i Oo
  obtain ⟨x,c⟩:=h m Oo;refine ⟨l++[x],by simp [a],fun i y hy=>?_⟩;rw [JY] at hy;split at hy
  .exact b i y hy
  .have:i=m:=by
    have:=(QZ.1 hy).1;simp at this;omega
   subst this;rw [a,VG] at hy;injection hy with hy
   subst hy;exact c
def tO {α:Type} {f:α->List Value} {k:Nat} (o:∀ x,(f x).length=k) (r:0<k) {w:Wd} {a:Addr} {n c:Nat} {l:List α} (hz:l.length=n) (B:n<=c)
  (v:∀ i x,l[i]? =some x->∀ j u,(f x)[j]? =some u->w.cell? (a.add (i*k+j))=some u):Sl f k w w.1.size (some a) n c l:=by
 refine ⟨B,hz,by rw [Vm o,hz],fun hn=>?_⟩;obtain ⟨b,g,m⟩:=a;have A:l[0]? =some l[0]:=QV Oo;have q:(f l[0])[0]? =some ((f l[0])[0]'(by rw [o];exact r)):=QV _;have p:=v 0 _ A 0 _ q;have e:m=none:=by simpa [Addr.add] using World.cell?_spot p
 subst e;have d:∀ j,(⟨b,g,none⟩:Addr).add j=⟨b,g+j,none⟩:=fun j=>by unfold Addr.add;split<;>simp_all
 refine ⟨b,g,rfl,?_,fun j u y=>?_⟩
 .rw [d] at p;by_cases s:b<w.1.size
  .exact s
  .simp [World.cell?,XH (Nat.not_lt.1 s)] at p
 .have hj:j<n*k:=by have:=(QZ.1 y).1;rwa [Vm o,hz] at this
  have D:j / k<l.length:=by rw [hz];exact Nat.div_lt_of_lt_mul (by rwa [Nat.mul_comm] at hj)
  have h:l[j / k]? =some l[j / k]:=QV D;have C:j % k<k:=Nat.mod_lt _ r;have he:j / k*k+j % k=j:=by rw [Nat.mul_comm];exact Nat.div_add_mod j k
  have t:=Er o l (j / k) _ h (j % k) C;rw [he,y] at t;have z:=v (j / k) _ h (j % k) u t.symm
  rwa [he,d] at z
section
variable {H:Type} {enc:TypeId×Value->H} {w:Wd} {base:Nat} {spare:Nat->Bool} {held:Bool}
def J9 {P:Program} {t:TypeId} {c:Array Field} {n:Nat} {cs:List Value} {x:DataW H×List MemPlace} (o:P.underlying t=some (.struct c))
  (d:∀ (i:Nat) (f:Field),c[i]? =some f->f.offset=i/\P.cellsOf f.type=1) (l:P.cellsOf t=c.size) (h:DataW.trod enc P w base spare held n t cs=some x):
  cs.length=c.size/\∃ m,∀ (i:Nat) (f:Field),c[i]? =some f->∃ v y,cs[i]? =some v/\DataW.trod enc P w base spare held m f.type [v]=some y:=by
 obtain ⟨xs,m,_,rfl,a,k,p⟩:=IU o h;refine ⟨a.trans l,m,fun i f e=>?_⟩;have r:=(WA.1 e).1;obtain ⟨q,j⟩:=d i f e;have g:=p i f e;have b:i<cs.length:=Oo
 rw [q,j,take1_drop cs i undef b,QV Oo] at g;exact ⟨_,_,by simp [List.getD,QV b],g⟩
def RL {n:Nat} {cs:List Value} {x:DataW H×List MemPlace} (h:DataW.trod enc prog w base spare held n 50 cs=some x):∃ r:Chg,cs=chC r:=by
 obtain ⟨y,m,a⟩:=J9 underlying50 (hone_of Ak) Ak h;have b:cs.length=5:=y;obtain ⟨L,K,e,t⟩:=a 0 _ rfl;obtain ⟨F,D,i,v⟩:=a 1 _ rfl;obtain ⟨G,M,d,p⟩:=a 2 _ rfl;obtain ⟨C,E,o,t3⟩:=a 3 _ rfl;obtain ⟨I,J,g,q⟩:=a 4 _ rfl;obtain ⟨z,c,_,_⟩:=WH underlying3 t;obtain ⟨A,j,_,_⟩:=WH underlying3 v;obtain ⟨B,f,_,_⟩:=YB underlying9 p;obtain ⟨s,k,_,_⟩:=YB underlying9 t3;obtain ⟨u,l,_,_⟩:=YB underlying9 q
 match cs,b with
 | [c0,c1,c2,c3,c4],_=>
  simp at e i d o g c j f k l;subst e i d o g c j f k l;exact ⟨⟨z,A,B,s,u⟩,rfl⟩
def RM {n:Nat} {cs:List Value} {x:DataW H×List MemPlace} (h:DataW.trod enc prog w base spare held n 46 cs=some x):∃ a b c,cs=[.string a,.string b,.int .i64 c]:=by
 obtain ⟨r,m,d⟩:=J9 underlying46 (hone_of Ak) Ak h;have e:cs.length=3:=r;obtain ⟨B,A,i,p⟩:=d 0 _ rfl;obtain ⟨y,v,k,q⟩:=d 1 _ rfl;obtain ⟨z,C,g,o⟩:=d 2 _ rfl;obtain ⟨s,f,_,_⟩:=YB underlying9 p;obtain ⟨t,l,_,_⟩:=YB underlying9 q;obtain ⟨u,j,_,_⟩:=WH underlying26 o
 match cs,e with
 | [c0,c1,c2],_=>
  simp at i k g f l j;subst i k g f l j;exact ⟨s,t,u,rfl⟩
def O4 {n:Nat} {cs:List Value} {x:DataW H×List MemPlace} (h:DataW.trod enc prog w base spare held n 48 cs=some x):∃ r:Rdd,cs=rdC r:=by
 obtain ⟨xs,m,_,rfl,b,e,c⟩:=IU underlying48 h;have f:cs.length=6:=b.trans Ak;have a:xs.length=4:=e;have t:prog.cellsOf 3=1:=Ak
 have s:prog.cellsOf 9=1:=Ak
 have D:prog.cellsOf 46=3:=Ak
 match cs,f,xs,a with
 | [c0,c1,c2,c3,c4,c5],_,[y0,y1,y2,y3],_=>
  have j:=c 0 _ rfl;have l:=c 1 _ rfl;have i:=c 2 _ rfl;have p:=c 3 _ rfl;simp [t,s,D] at j l i p;obtain ⟨z,g,_,_⟩:=WH underlying3 j;obtain ⟨A,o,_,_⟩:=WH underlying3 l;obtain ⟨B,k,_,_⟩:=YB underlying9 i;obtain ⟨u,y,v,d⟩:=RM p;simp at g o k d;obtain ⟨d,C,q⟩:=d;subst g o k d C q;exact ⟨⟨z,A,B,u,y,v⟩,rfl⟩
def I2 {α:Type} {f:α->List Value} {k:Nat} {Q:α->Prop} (s:∀ x,(f x).length=k) (C:0<k) {t e:TypeId} {n:Nat} {cs:List Value} {x:DataW H×List MemPlace}
  (F:prog.underlying t=some (.slice e)) (N:prog.cellsOf e=k)
  (J:∀ m cs y,DataW.trod enc prog w base spare held m e cs=some y->∃ r:α,cs=f r/\Q r) (h:DataW.trod enc prog w base spare held n t cs=some x):
  ∃ (A:Option Addr) (n c:Nat) (l:List α),cs=[.slice A n c]/\Sl f k w w.1.size A n c l/\n<=maxLen/\∀ x∈l,Q x:=by
 rcases open_slice F h with ⟨rfl,_⟩|⟨a,len,q,m,O,D,S,rfl,_,K,R,p,_,d⟩
 .exact ⟨none,0,0,[],rfl,Sl.nil,Oo,fun x d=>by simp at d⟩
 have L:len<=m:=by rw [p];split<;>omega
 obtain ⟨l,o,b⟩:=ME (P:=fun i r=>(∀ j u,(f r)[j]? =some u->w.cell? (a.add (i*k+j))=some u)/\Q r) len fun i g=>by
  obtain ⟨cs',v,E⟩:=d i Oo;obtain ⟨r,rfl,G⟩:=J _ _ _ E;rw [N] at v;obtain ⟨_,z,I⟩:=World.cells?_some v;refine ⟨r,fun j u B=>?_,G⟩;have M:j<k:=by have:=(QZ.1 B).1;rwa [s] at this
  have:=I j M;rw [add_add,B] at this;exact this
 refine ⟨some a,len,q,l,rfl,tO s C o K fun i x g=>(b i x g).1,Oo,fun x d=>?_⟩;obtain ⟨i,g,rfl⟩:=XG d;exact (b i _ (QV g)).2
def O3 {n:Nat} {cs:List Value} {x:DataW H×List MemPlace} (h:DataW.trod enc prog w base spare held n 42 cs=some x):∃ r:Com,cs=Ud r/\ComOk w w.1.size r:=by
 obtain ⟨A,m,a⟩:=J9 underlying42 (hone_of Ak) Ak h;have c:cs.length=4:=A;obtain ⟨P,O,f,u⟩:=a 0 _ rfl;obtain ⟨M,K,i,z⟩:=a 1 _ rfl;obtain ⟨N,R,e,o⟩:=a 2 _ rfl;obtain ⟨J,L,l,t3⟩:=a 3 _ rfl;obtain ⟨B,d,_,_⟩:=WH underlying3 u;obtain ⟨E,j,_,_⟩:=WH underlying3 z;obtain ⟨F,I,c2,G,g,t,p,_⟩:=I2 (Q:=fun _=>True) Pa Ac underlying39 Ak (fun m cs y h=>let ⟨r,b⟩:=O4 h;⟨r,b,trivial⟩) o;obtain ⟨C,s,c3,v,k,D,q,_⟩:=I2 (Q:=fun _=>True) PU Ac underlying40 Ak (fun m cs y h=>let ⟨r,b⟩:=RL h;⟨r,b,trivial⟩) t3
 match cs,c with
 | [c0,c1,c2',c3'],_=>
  simp at f i e l d j g k;subst f i e l d j g k;exact ⟨⟨B,E,F,I,c2,C,s,c3,G,v⟩,rfl,t,D,p,q⟩
def open_units {r:Reach} {f:Nat} {v:Value} {d:DataW H} {p:List MemPlace} (k:Value.okWide prog w r f 23 v) (h:DataW.Trod enc prog w base spare held 23 v d p):
  ∃ (A:Option Addr) (n c:Nat) (l:List Com),v=.slice A n c/\Cs w w.1.size A n c l:=by
 obtain ⟨o,len,g,rfl⟩:=okWide_slice underlying23 k;obtain ⟨a,i⟩:=h;obtain ⟨A,n,c,l,e,j,_,b⟩:=I2 Vo Ac underlying23 Ak (fun m cs y h=>O3 h) i;simp [Value.cells] at e;obtain ⟨rfl,rfl,rfl⟩:=e;exact ⟨_,_,_,l,rfl,j,b⟩
end
end Go.Proofs.YtdleakjejodjjaaGreatDoor
