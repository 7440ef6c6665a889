/- Of the history laws. -/
import Derived.Test.YtdleakjejodjjaaGreatDoorSBC
import Derived.Test.YtdleakjejodjjaaGreatDoorSBD
import Derived.Test.YtdleakjejodjjaaGreatDoorSAS
namespace Go.Proofs.YtdleakjejodjjaaGreatDoor
open Tryz
set_option linter.defProp false
set_option linter.unusedVariables false
set_option linter.unusedSimpArgs false
set_option maxRecDepth 100000
set_option maxHeartbeats 20000000
open Go.RowKit
section
variable {l:Bz} {e m k:Int} {nm left:Bz}
def Ia (k:Int) (nm left:Bz):En×Bz×Int:=
 let p:=Xz 14 left 0;let t:=Uy p.2.1 p.2.2;let c:=rnF t.2.1 t.2.2;let v:=U8 c.2.1 c.2.2 8;let o:=U8 v.2.1 v.2.2 8;let q:=Xz 2 o.2.1 o.2.2;let b:=Uy q.2.1 q.2.2;let n:=Xa b.2.1 b.2.2 4;let a:=Xz n.1.toNat n.2.1 n.2.2;let u:=rnF a.2.1 a.2.2
 (⟨k,nm,⟨p.1.getD 0 0,p.1.getD 1 0,p.1.getD 2 0,p.1.getD 3 0,p.1.getD 4 0,p.1.getD 5 0,p.1.getD 6 0,p.1.getD 7 0,p.1.getD 8 0,p.1.getD 9 0,p.1.getD 10 0,p.1.getD 11 0,p.1.getD 12 0,p.1.getD 13 0,t.1,c.1,v.1,o.1,q.1.getD 0 0,q.1.getD 1 0,b.1⟩,a.1,u.1,0,0,false,⟨#[]⟩,⟨#[]⟩,0,0,[]⟩,u.2)
def GA (k:Int) (nm left:Bz):En×Bz×Int:=
 let q:=Xz 2 left 0;let b:=Uy q.2.1 q.2.2;let o:=U8 b.2.1 b.2.2 8
 (⟨k,nm,dZ,[],0,q.1.getD 0 0,q.1.getD 1 0,b.1,o.1,⟨#[]⟩,0,0,[]⟩,o.2)
def I0 (k:Int) (nm left:Bz):En×Bz×Int:=if k=0 then Ia 0 nm left else GA 1 nm left
def Bs (e:En):En:=if e.kind=0 then ⟨e.kind,e.name,e.d,e.alts,e.used,0,0,false,⟨#[]⟩,⟨#[]⟩,0,0,[]⟩ else ⟨e.kind,e.name,dZ,[],0,e.limit,e.last,e.empty,e.owner,⟨#[]⟩,0,0,[]⟩
noncomputable def vQ (e:En):Bool:=M8 e.kind e.name&&MU e.kind e&&decide (e=Bs e)
noncomputable def Z2 (e:En):Option Bz:=if vQ e then some (Jb (if e.kind=0 then 68 else 71) e.name++IM e.kind e) else none
noncomputable def deQ (k:Int) (rec:Bz):Option En:=
 let R:=I0 k (Ei (rec.extract 1 32)) (rec.extract 32 rec.size)
 if Yj R.2.1 R.2.2=0/\Z2 R.1=some rec then some R.1 else none
def Iu (h:(V2 l e).2.2=0):e=0:=by
 unfold V2 at h;split at h
 .assumption
 .exact h
def Qg (h:(Uy l e).2.2=0):e=0:=by
 unfold Uy at h;split at h
 .assumption
 .exact h
def Hz (h:(Xa l e m).2.2=0):(V2 l e).2.2=0/\(V2 l e).1<=m/\Xa l e m=V2 l e:=by
 unfold Xa at h ⊢;split at h
 .rename_i h1;split at h
  .cases h
  .rename_i h2;exact ⟨h1,Oo,by rw [QK h1,QX h2]⟩
 .rename_i h1;exact absurd h h1
def AU (h:(V2 l e).2.2=0) (a:(V2 l e).1<=m):Xa l e m=V2 l e:=by
 unfold Xa;rw [QK h,QX Oo]
def NS (h:(U8 l e m).2.2=0):(Xa l e m).2.2=0/\(((Xa l e m).2.1.size:Int)<(Xa l e m).1)=False:=by
 unfold U8 at h;split at h
 .rename_i h1;split at h
  .cases h
  .rename_i h2;exact ⟨h1,by simpa using h2⟩
 .rename_i h1;exact absurd h h1
def Qd (h:(U8 l e m).2.2=0):e=0:=Iu (Hz (NS h).1).1
def Qc {a:Int} (h:Xa l e m=Xa l e a):U8 l e m=U8 l e a:=by
 unfold U8;rw [h]
def Th (h:(U8 l e 8).2.2=0):U8 l e 200=U8 l e 8:=by
 have a:=Hz (NS h).1;exact Qc (by rw [a.2.2,AU a.1 Oo])
def Ti (h:(U8 l e 200).2.2=0) (hz:(U8 l e 200).1.size<=8):U8 l e 8=U8 l e 200:=by
 have b:=NS h;have a:=Hz b.1;apply Qc;rw [a.2.2];apply AU a.1;have c:¬ ((Xa l e 200).2.1.size:Int)<(Xa l e 200).1:=by rw [b.2];exact fun h=>h
 unfold U8 at hz;rw [QK b.1,QX c,a.2.2] at hz;rw [a.2.2] at c;have d:=(IC l).1
 have f:0<=(V2 l e).1:=by
  unfold V2;split
  .split<;>exact d
  .exact XI _
 simp at hz;omega
def yb (h:0<=(rnF l e).1):Ur l e=rnF l e:=by
 unfold rnF at h ⊢;unfold Ur GF;split at h
 .have h2:=h;omega
 .rename_i h1;rw [QX h1,QX h1]
def yc (h:(Ur l e).1<=1099511627776):rnF l e=Ur l e:=by
 unfold Ur GF at h ⊢;unfold rnF;simp only at h;split at h
 .rename_i h1;omega
 .rename_i h1;rw [QX h1,QX h1]
def Lz:∀ (k:Nat) (l:Bz) (e:Int),(∀ x∈(Xz k l e).1,0<=x)->Uj k l e=Xz k l e
 |0,l,e,_=>rfl
 |k+1,l,e,h=>by
  have a:=yb (l:=l) (e:=e) (h _ QP);unfold Uj Xz;rw [a,Lz k _ _ fun x b=>h x (QN _ b)]
def LA:∀ (k:Nat) (l:Bz) (e:Int),(∀ x∈(Uj k l e).1,x<=1099511627776)->Xz k l e=Uj k l e
 |0,l,e,_=>rfl
 |k+1,l,e,h=>by
  have a:=yc (l:=l) (e:=e) (h _ QP);unfold Uj Xz;rw [a,LA k _ _ fun x b=>h x (QN _ b)]
def LY:∀ (k:Nat) (l:Bz) (e:Int),(Uj k l e).2.2=0->e=0
 |0,_,_,h=>h
 |k+1,_,_,h=>Iu (LY k _ _ h)
def P5:∀ (k:Nat) (l:Bz) (e:Int),(Xz k l e).2.2=0->e=0
 |0,_,_,h=>h
 |k+1,_,_,h=>Iu (P5 k _ _ h)
def Cp (h:Yj l e=0):e=0:=by
 unfold Yj at h;split at h
 .assumption
 .exact h
def IH {l:List Int} {n:Nat} {P:Int->Prop} (d:l.length=n) (h:∀ i,i<n->P (l.getD i 0)):∀ x∈l,P x:=fun x c=>by
 obtain ⟨i,b⟩:=ZA c;have f:=(QZ.1 b).1;have a:=h i Oo;rw [WJ,b] at a;exact a
structure DatOk (e:En):Prop where
 n:∀ x∈[e.d.id,e.d.org,e.d.fmt,e.d.len,e.d.blk,e.d.kat,e.d.kln,e.d.itv,e.d.area,e.d.fi,e.d.fa,e.d.base,e.d.aat,e.d.aln,e.d.cls,e.d.cre,e.d.exp,e.used],0<=x/\x<=1099511627776
 v:e.d.vol.size<=8
 o:e.d.own.size<=8
 l:e.alts.length<=4
 a:∀ x∈e.alts,0<=x/\x<=1099511627776
def Eh {b c:Int} {l:List Int} (h:wiB b c l=true):∀ x∈l,b<=x/\x<=c:=by
 intro x d;have a:=WE.1 h x d;unfold Uo at a;simpa using a
def qC {l:List Int} (h:OR l=true):∀ x∈l,0<=x/\x<=65536:=by
 intro x b;unfold OR at h;simp only [XN,YC] at h;have a:=h x b;unfold YD Uo at a;simpa using a
def AQ {e:En} (h:IL e=true):DatOk e:=by
 unfold IL GD Jr at h;simp only [QU,QG] at h;obtain ⟨ha,⟨⟨⟨⟨⟨⟨⟨h1,h2⟩,h3⟩,h4⟩,h5⟩,h6⟩,h7⟩,h8⟩,h9⟩:=h;have a:=Eh h1;have b:=Eh h2;have c:=Eh h3;have f:=Eh h4;have d:=Eh h5;have g:=qC h8;simp only [QH,QM,XP,WR,YR] at a b c f d g;refine ⟨?_,G7 h6,G7 h7,h9,?_⟩
 .simp only [QH,QM,XP,WR,YR];omega
 .refine IH rfl fun i j=>?_
  have:=WE.1 ha i (YO.2 j);unfold Zs at this;simp only [QU,QG] at this;omega
theorem mP {G:Prop} (h:G:=by
  rw [hp];have:i=0\/i=1\/i=2\/i=3\/i=4\/i=5\/i=6\/i=7\/i=8\/i=9\/i=10\/i=11\/i=12\/i=13:=by omega
  rcases this with rfl|rfl|rfl|rfl|rfl|rfl|rfl|rfl|rfl|rfl|rfl|rfl|rfl|rfl<;>omega):G:=h
theorem uT {G:Prop} (h:G:=by
  rw [hq];have:i=0\/i=1:=by omega
  rcases this with rfl|rfl<;>omega):G:=h
def qD (h:(Ia k nm left).2.2=0) (H:IL (Ia k nm left).1=true):Et k nm left=Ia k nm left:=by
 have C:=AQ H;clear H;obtain ⟨p,hp⟩:=yG (Xz 14 left 0);obtain ⟨t,J⟩:=yG (Uy p.2.1 p.2.2);obtain ⟨c,F⟩:=yG (rnF t.2.1 t.2.2);obtain ⟨v,E⟩:=yG (U8 c.2.1 c.2.2 8);obtain ⟨o,j⟩:=yG (U8 v.2.1 v.2.2 8);obtain ⟨q,hq⟩:=yG (Xz 2 o.2.1 o.2.2);obtain ⟨b,y⟩:=yG (Uy q.2.1 q.2.2);obtain ⟨n,hn⟩:=yG (Xa b.2.1 b.2.2 4);obtain ⟨a,g⟩:=yG (Xz n.1.toNat n.2.1 n.2.2);obtain ⟨u,r⟩:=yG (rnF a.2.1 a.2.2)
 have M:Ia k nm left=(⟨k,nm,⟨p.1.getD 0 0,p.1.getD 1 0,p.1.getD 2 0,p.1.getD 3 0,p.1.getD 4 0,p.1.getD 5 0,p.1.getD 6 0,p.1.getD 7 0,p.1.getD 8 0,p.1.getD 9 0,p.1.getD 10 0,p.1.getD 11 0,p.1.getD 12 0,p.1.getD 13 0,t.1,c.1,v.1,o.1,q.1.getD 0 0,q.1.getD 1 0,b.1⟩,a.1,u.1,0,0,false,⟨#[]⟩,⟨#[]⟩,0,0,[]⟩,u.2):=by
  subst hp J F E j hq y hn g r;rfl
 rw [M] at h C ⊢;have Q:=C.n;simp only [QH,QM,XP,WR,YR] at Q;have K:=Iu (by rw [<-r] at h;exact h);have R:=P5 _ _ _ (by rw [<-g] at K;exact K);have w:=Hz (by rw [hn];exact R:(Xa b.2.1 b.2.2 4).2.2=0);have I:=Iu w.1;have L:=Qg (by rw [<-y] at I;exact I);have s:=P5 _ _ _ (by rw [<-hq] at L;exact L);have V:=Qd (by rw [<-j] at s;exact s)
 have P:Uj 14 left 0=p:=by
  rw [<-hp];refine Lz _ _ _ (IH (EC _ _ _) fun i S=>?_);exact mP
 have z:Ur t.2.1 t.2.2=c:=by rw [<-F];exact yb (by rw [F];omega)
 have O:U8 c.2.1 c.2.2 200=v:=by rw [<-E];exact Th (by rw [E];exact V)
 have D:U8 v.2.1 v.2.2 200=o:=by rw [<-j];exact Th (by rw [j];exact s)
 have N:Uj 2 o.2.1 o.2.2=q:=by
  rw [<-hq];refine Lz _ _ _ (IH (EC _ _ _) fun i S=>?_);exact uT
 have f:n=V2 b.2.1 b.2.2:=by rw [<-hn];exact w.2.2
 have W:0<=n.1/\n.1<=4:=by
  rw [f];exact ⟨ED _ _,w.2.1⟩
 have B:Ur b.2.1 b.2.2=n:=by
  unfold Ur GF;rw [<-f,QX Oo]
 have U:(Z3 n.1 4).toNat=n.1.toNat:=by
  unfold Z3;rw [QX Oo]
 have d:Uj n.1.toNat n.2.1 n.2.2=a:=by
  rw [<-g];apply Lz _ _ _;rw [g];exact fun x T=>(C.a x T).1
 have A:Ur a.2.1 a.2.2=u:=by rw [<-r];exact yb (by rw [r];omega)
 unfold Et;simp only [P,J,z,O,D,N,y,B,U,d,A]
def qE (h:(Et k nm left).2.2=0) (I:IL (Et k nm left).1=true):Ia k nm left=Et k nm left:=by
 have f:=AQ I;clear I;obtain ⟨p,hp⟩:=yG (Uj 14 left 0);obtain ⟨t,L⟩:=yG (Uy p.2.1 p.2.2);obtain ⟨c,H⟩:=yG (Ur t.2.1 t.2.2);obtain ⟨v,w⟩:=yG (U8 c.2.1 c.2.2 200);obtain ⟨o,j⟩:=yG (U8 v.2.1 v.2.2 200);obtain ⟨q,hq⟩:=yG (Uj 2 o.2.1 o.2.2);obtain ⟨b,z⟩:=yG (Uy q.2.1 q.2.2);obtain ⟨n,hn⟩:=yG (Ur b.2.1 b.2.2);obtain ⟨a,d⟩:=yG (Uj (Z3 n.1 4).toNat n.2.1 n.2.2);obtain ⟨u,s⟩:=yG (Ur a.2.1 a.2.2)
 have Q:Et k nm left=(⟨k,nm,⟨p.1.getD 0 0,p.1.getD 1 0,p.1.getD 2 0,p.1.getD 3 0,p.1.getD 4 0,p.1.getD 5 0,p.1.getD 6 0,p.1.getD 7 0,p.1.getD 8 0,p.1.getD 9 0,p.1.getD 10 0,p.1.getD 11 0,p.1.getD 12 0,p.1.getD 13 0,t.1,c.1,v.1,o.1,q.1.getD 0 0,q.1.getD 1 0,b.1⟩,a.1,u.1,0,0,false,⟨#[]⟩,⟨#[]⟩,0,0,[]⟩,u.2):=by
  subst hp L H w j hq z hn d s;rfl
 rw [Q] at h f ⊢;have V:=f.n;simp only [QH,QM,XP,WR,YR] at V;have M:=Iu (by rw [<-s] at h;exact h);have O:=LY _ _ _ (by rw [<-d] at M;exact M);have g:(V2 b.2.1 b.2.2).2.2=0:=by rw [<-hn] at O;exact O
 have K:=Iu g;have N:=Qg (by rw [<-z] at K;exact K);have y:=LY _ _ _ (by rw [<-hq] at N;exact N);have Z:=Qd (by rw [<-j] at y;exact y)
 have U:Xz 14 left 0=p:=by
  rw [<-hp];refine LA _ _ _ (IH (X0 _ _ _) fun i W=>?_);exact mP
 have A:rnF t.2.1 t.2.2=c:=by rw [<-H];exact yc (by rw [H];omega)
 have T:U8 c.2.1 c.2.2 8=v:=by rw [<-w];exact Ti (by rw [w];exact Z) (by rw [w];exact f.v)
 have F:U8 v.2.1 v.2.2 8=o:=by rw [<-j];exact Ti (by rw [j];exact y) (by rw [j];exact f.o)
 have R:Xz 2 o.2.1 o.2.2=q:=by
  rw [<-hq];refine LA _ _ _ (IH (X0 _ _ _) fun i W=>?_);exact uT
 have E:(Z3 n.1 4).toNat<=4:=by
  have:=f.l;rw [show a.1.length=(Z3 n.1 4).toNat by rw [<-d];exact X0 _ _ _] at this;exact this
 have S:0<=n.1/\n.1<=4:=by
  unfold Z3 at E;split at E
  .exact absurd E Ac
  .omega
 have P:(V2 b.2.1 b.2.2).1=n.1/\(V2 b.2.1 b.2.2)=n:=by
  have B:n.1=GF (V2 b.2.1 b.2.2).1:=by rw [<-hn];rfl
  have J:(V2 b.2.1 b.2.2).1=n.1:=by
   unfold GF at B;split at B
   .omega
   .exact B.symm
  refine ⟨J,Prod.ext J ?_⟩;rw [<-hn];rfl
 have D:Xa b.2.1 b.2.2 4=n:=by rw [AU g (by rw [P.1];exact S.2),P.2]
 have Y:(Z3 n.1 4).toNat=n.1.toNat:=by
  unfold Z3;rw [QX Oo]
 rw [Y] at d
 have r:Xz n.1.toNat n.2.1 n.2.2=a:=by
  rw [<-d];apply LA _ _ _;rw [d];exact fun x X=>(f.a x X).2
 have C:rnF a.2.1 a.2.2=u:=by rw [<-s];exact yc (by rw [s];omega)
 unfold Ia;simp only [U,L,A,T,F,R,z,D,r,C]
def nx (h:(GA k nm left).2.2=0) (a:GZ (GA k nm left).1=true):F4 k nm left=GA k nm left:=by
 obtain ⟨q,hq⟩:=yG (Xz 2 left 0);obtain ⟨b,f⟩:=yG (Uy q.2.1 q.2.2);obtain ⟨o,c⟩:=yG (U8 b.2.1 b.2.2 8)
 have n:GA k nm left=(⟨k,nm,dZ,[],0,q.1.getD 0 0,q.1.getD 1 0,b.1,o.1,⟨#[]⟩,0,0,[]⟩,o.2):=by
  subst hq f c;rfl
 rw [n] at h a ⊢;unfold GZ at a;simp only [QU] at a;have g:=Eh a.1.1;have j:=Eh a.1.2;simp only [QH,QM,XP,YR] at g j
 have p:Uj 2 left 0=q:=by
  rw [<-hq];refine Lz _ _ _ (IH (EC _ _ _) fun i r=>?_);exact uT
 have d:U8 b.2.1 b.2.2 200=o:=by rw [<-c];exact Th (by rw [c];exact h)
 unfold F4;simp only [p,f,d]
def nz (h:(F4 k nm left).2.2=0) (a:GZ (F4 k nm left).1=true):GA k nm left=F4 k nm left:=by
 obtain ⟨q,hq⟩:=yG (Uj 2 left 0);obtain ⟨b,f⟩:=yG (Uy q.2.1 q.2.2);obtain ⟨o,c⟩:=yG (U8 b.2.1 b.2.2 200)
 have n:F4 k nm left=(⟨k,nm,dZ,[],0,q.1.getD 0 0,q.1.getD 1 0,b.1,o.1,⟨#[]⟩,0,0,[]⟩,o.2):=by
  subst hq f c;rfl
 rw [n] at h a ⊢;unfold GZ at a;simp only [QU] at a;have g:=Eh a.1.1;have j:=Eh a.1.2;simp only [QH,QM,XP,YR] at g j
 have p:Xz 2 left 0=q:=by
  rw [<-hq];refine LA _ _ _ (IH (X0 _ _ _) fun i r=>?_);exact uT
 have d:U8 b.2.1 b.2.2 8=o:=by rw [<-c];exact Ti (by rw [c];exact h) (by rw [c];exact G7 a.2)
 unfold GA;simp only [p,f,d]
def sk (h:(I0 k nm left).2.2=0) (a:MU k (I0 k nm left).1=true):Yu k nm left=I0 k nm left:=by
 unfold I0 MU at *;unfold Yu;split
 .rename_i hk;rw [QK hk] at h a;rw [QK hk] at a;exact qD h a
 .rename_i hk;rw [QX hk] at h a;rw [QX hk] at a;exact nx h a
def sn (h:(Yu k nm left).2.2=0) (a:MU k (Yu k nm left).1=true):I0 k nm left=Yu k nm left:=by
 unfold Yu MU at *;unfold I0;split
 .rename_i hk;rw [QK hk] at h a;rw [QK hk] at a;exact qE h a
 .rename_i hk;rw [QX hk] at h a;rw [QX hk] at a;exact nz h a
def BK (a:k=0\/k=1) (nm left:Bz):(Yu k nm left).1.kind=k/\(Yu k nm left).1.name=nm/\(Yu k nm left).1=Bs (Yu k nm left).1:=by
 rcases a with rfl|rfl
 .exact ⟨rfl,rfl,rfl⟩
 .exact ⟨rfl,rfl,rfl⟩
def rF (L:Int) (nm:Bz) (h:nm.size<=31):(Jb L nm).size=32:=by
 unfold Jb;rw [QX Oo];simp only [QY,Zt];show 1+nm.size+(Lib.repeatL [32] (31-nm.size)).toArray.size=32;rw [YZ,JL];simp;omega
def yg {L:Int} {b a:Bz} (h:nm.size<=31) (c:Jb L nm++b=a):a.extract 32 a.size=b:=by
 subst c;exact JP (rF L nm h).symm (by rw [QY])
def pD (j:k=0\/k=1) (a:Bz):deQ k a=deF k a:=by
 unfold deQ deF;simp only;obtain ⟨nm,q⟩:=yG (Ei (a.extract 1 32));rw [q];by_cases c:Yj (Yu k nm (a.extract 32 a.size)).2.1 (Yu k nm (a.extract 32 a.size)).2.2=0/\I7 (Yu k nm (a.extract 32 a.size)).1=some a
 .rw [QK c];have f:=c.2;obtain ⟨i,s,o⟩:=BK j nm (a.extract 32 a.size);unfold I7 at f;split at f
  .rename_i hv;unfold Gd at hv;rw [i] at hv f;simp only [QU] at hv;have d:=sn (Cp c.1) hv.2.1
   have r:Z2 (Yu k nm (a.extract 32 a.size)).1=some a:=by
    unfold Z2 vQ;rw [i,hv.1,hv.2.1,QQ o];exact f
   rw [d,QK ⟨c.1,r⟩]
  .cases f
 .rw [QX c,QX];rintro ⟨h,b⟩;unfold Z2 at b;split at b
  .rename_i hv;unfold vQ at hv;simp only [QU] at hv
   have g:(I0 k nm (a.extract 32 a.size)).1.kind=k/\(I0 k nm (a.extract 32 a.size)).1.name=nm:=by
    rcases j with rfl|rfl
    .exact ⟨rfl,rfl⟩
    .exact ⟨rfl,rfl⟩
   rw [g.1,g.2] at hv b;have d:=sk (Cp h) hv.1.2;refine c ⟨by rw [d];exact h,?_⟩;have p:=WQ b;have n:=yg (Gx hv.1.1).2 p;unfold I7 Gd;rw [d,g.1,g.2,hv.1.1,hv.1.2,<-n,d,QQ h,QQ rfl];rw [<-n] at b;exact b
  .cases b
end
def ui (e:En):IL e=(Dc e.d&&((Jr e.alts&&decide (e.alts.length<=4))&&Uo e.used 0 65536)):=by
 rw [XW];unfold IL GD Dc wiB Uo OR YD Uo Eu;simp only [QU,UT,IK,List.any_cons,List.any_nil,Bool.or_false,VZ,QG,XN,JZ,Bool.not_eq_false']
 grind
def vq0 (b:Bz) (d:DSet) (a:List Int) (u:Int):vQ ⟨0,b,d,a,u,0,0,false,⟨#[]⟩,⟨#[]⟩,0,0,[]⟩=(Uw b&&(Dc d&&((Jr a&&decide (a.length<=4))&&Uo u 0 65536))):=by
 have h:(⟨0,b,d,a,u,0,0,false,⟨#[]⟩,⟨#[]⟩,0,0,[]⟩:En)=Bs ⟨0,b,d,a,u,0,0,false,⟨#[]⟩,⟨#[]⟩,0,0,[]⟩:=rfl;unfold vQ M8 MU;rw [ui,QQ h,VZ];rfl
def vq1 (c:Bz) (a b:Int) (e:Bool) (d:Bz):vQ ⟨1,c,dZ,[],0,a,b,e,d,⟨#[]⟩,0,0,[]⟩=(Vt c&&(decide (1<=a)&&(decide (a<=63)&&(decide (0<=b)&&(decide (b<=9999)&&orW d))))):=by
 have h:(⟨1,c,dZ,[],0,a,b,e,d,⟨#[]⟩,0,0,[]⟩:En)=Bs ⟨1,c,dZ,[],0,a,b,e,d,⟨#[]⟩,0,0,[]⟩:=rfl;unfold vQ;rw [QQ h,VZ];show (Vt c&&(wiB 1 63 [a]&&wiB 0 9999 [b]&&orW d))=_;unfold wiB Uo;simp [ZL]
structure VX (e:En) (a:EnA) (w W:Wd):Prop where
 b:Blk W w.1.size 144 (enC e a).toArray
 be:Below w.1.size w W
def VX.next {e:En} {a:EnA} {w W W':Wd} (h:VX e a w W) (b:Below W.1.size W W'):VX e a w W':=⟨h.b.below b h.b.lt,h.be.trans (b.mono h.be.size)⟩
def VX.new (e:En) (a:EnA) (w:Wd):VX e a w (w.alloc (.cells (enC e a).toArray 144)):=⟨Blk.new w _ _,Aj⟩
def VX.c {e:En} {a:EnA} {w W:Wd} (h:VX e a w W) (i:Nat) (v:Value) (b:(enC e a)[i]? =some v):W.cell? ⟨w.1.size,i,none⟩=some v:=by rw [h.b.cell];simpa using b
def OnB (p:Prop) (q:Bool) (w:Wd) (x:Ending) (w':Wd):Prop:=(∃ b,x=.returned (.bool b)/\(p->b=q))/\Below w.1.size w w'
section
variable {P:Program} {o:Oper} {x y:Operand} {T':TypeId} {s t:Bz} {ops:Array Oper} {Z:Act->Wd->Prop} {S:Wd->Prop} {i:Nat} {os:List Oper} {I:List (Wi Rb)} {F:List (Nat×(Wd->Prop))} {e:En} {a:EnA} {w W:Wd} {L:List Int}
def Ff:∀ (l:List Int) (b:Bz),wrN b l=b++wrN ⟨#[]⟩ l
 | [],b=>(UV).symm
 |n::l,b=>by
  show wrN (b++Vu n) l=b++wrN (⟨#[]⟩++Vu n) l;rw [Ff l (b++Vu n),Ff l (⟨#[]⟩++Vu n),ZU];congr 1
def Xu (l:List Int) (n:Nat) (h:l.length<=n):(wrN ⟨#[]⟩ l).size<=10*n:=by
 have:=Xe l ⟨#[]⟩;have b:(⟨#[]⟩:Bz).size=0:=rfl;omega
def CJ {ρ:Operand->Value} (b:o.op=.binOp .add 9 x y T') (c:ρ x=.string s) (hy:ρ y=.string t) (hz:s.size+t.size<=9223372036854775807) (w:Wd):(execOp ρ o).run P w=.ok (.value (.string (s++t))) w:=by
 have h:decide (9223372036854775807<s.size+t.size)=false:=QW Oo;unfold execOp;simp only [b,c,hy];go_simp
def xq {a b:Act} (c:o.op=.binOp .add 9 x y T':=by rfl) (f:a.eval x=.string s:=by rfl) (hy:a.eval y=.string t:=by rfl) (hz:s.size+t.size<=9223372036854775807)
  (hw:Region.wanted o (yielded ops a.tmps)=true:=by rfl)
  (d:a.put o.dst (.string (s++t))=b:=by conv=>lhs;simp only [Act.put,Sv,Sz,Sw]) (h:WzL P ops Z S Rb (i+1) os I F b):WzL P ops Z S Rb i (o::os) (.ex (.string (s++t))::I) F a:=
 xp _ (WL ⟨hw,fun w _=>CJ c f hy hz w⟩) d h
structure BX (e:En) (a:EnA) (w W:Wd):Prop where
 b1:Blk W w.1.size 144 (enC e a).toArray
 b2:Blk W (w.1.size+1) 34 (dC e.d).toArray
 be:Below w.1.size w W
def BX.next {W':Wd} (h:BX e a w W) (b:Below W.1.size W W'):BX e a w W':=⟨h.b1.below b h.b1.lt,h.b2.below b h.b2.lt,h.be.trans (b.mono h.be.size)⟩
def BX.drew (h:BX e a w W):BX e a w W.drew:=⟨h.b1,h.b2,h.be.drew⟩
abbrev Pd (w:Wd) (e) (a):=w.alloc (.cells (enC e a).toArray 144)
def BX.new (e:En) (a:EnA) (w:Wd) (b:Array Value):BX e a w ((Aa (Pd w e a) b 34).setRow (w.1.size+1) (dC e.d).toArray):=
 ⟨Uh ((Blk.new w _ _).alloc _) Oo,QR _ _ _ _ _ _ (U3 (w.alloc _) _ _ (w.1.size+1) Am),Xq (Aj.alloc Am _) Oo _⟩
def BX.c1 (h:BX e a w W) (i:Nat) (v:Value) (b:(enC e a)[i]? =some v):W.cell? ⟨w.1.size,i,none⟩=some v:=by rw [h.b1.cell];simpa using b
def BX.c2 (h:BX e a w W) (i:Nat) (v:Value) (b:(dC e.d)[i]? =some v):W.cell? ⟨w.1.size+1,i,none⟩=some v:=by rw [h.b2.cell];simpa using b
abbrev Pv (x:Int):Prop:=0<=x/\x<=9223372036854775807
def IaP (L:List Int) (x:Value) (w:Wd):Prop:=∃ A c,x=.slice A L.length c/\Sl iC 1 w w.1.size A L.length c L
def IaM (x:Value) (w w':Wd) (h:Rb w w') (b:IaP L x w):IaP L x w':=by
 obtain ⟨A,c,rfl,d⟩:=b;exact ⟨A,c,rfl,d.after h h.size⟩
def Jy {x:Value} (h:IaP L x w) (hn:L.length<=1000) (b:∀ x∈L,0<=x/\x<=9223372036854775807):Calls prog 303 #[x] w (StG (wrN ⟨#[]⟩ L) w):=by
 obtain ⟨A,c,rfl,d⟩:=h;exact Lw A L.length c L w d hn b
def xi (l:List Int) (n:Nat) {a:Act} {cs:Array Value} {g:Value->Act}
  (b:(U7 iC l).toArray=cs:=by conv=>lhs;simp only [U7,iC,List.flatMap_cons,List.flatMap_nil,KE,YN]) (hn:l.length=n:=by rfl)
  (he:∀ w,(execOp a.eval o).run P w=.ok (.value (.slice (Ah w.1.size 0) n n)) (Aa w cs 3):=by intro w';go_simp) (hw:Region.wanted o (yielded ops a.tmps)=true:=by rfl)
  (j:∀ x,a.put o.dst x=g x:=by intro x;conv=>lhs;simp only [Act.put,Sv,Sz,Sw]) (h:∀ x,WzL P ops Z S Rb (i+1) os I ((i,IaP l x)::F) (g x)):WzL P ops Z S Rb i (o::os) (.an (IaP l) IaM::I) F a:=by
 refine ⟨fun w p m=>?_,fun x=>by rw [j];exact h x⟩;rw [QK hw];intro q Q d;unfold Oper.wp;rw [he w];refine d.out _ _ ⟨Aj,_,_,by rw [hn],?_⟩;subst b hn;have h:=Sl.new (f:=iC) (k:=1) (fun _=>rfl) w 3 l;have c:w.1.size+1<=(Aa w (U7 iC l).toArray 3).1.size:=Am
 exact h.more c
def Bo (n:Int):wrN ⟨#[]⟩ [n]=Vu n:=ByteArray.empty_append
def SE (e:En):wrN ⟨#[]⟩ (Eu e.d)++EQ e.d.uniq++wrN ⟨#[]⟩ [e.d.cls]++Vh e.d.vol++Vh e.d.own++wrN ⟨#[]⟩ [e.d.cre,e.d.exp]++EQ e.d.arch++wrN ⟨#[]⟩ [(e.alts.length:Int)]++wrN ⟨#[]⟩ e.alts++wrN ⟨#[]⟩ [e.used]=Kn ⟨#[]⟩ e:=by
 unfold Kn Eu;rw [Bo e.d.cls,Bo (e.alts.length:Int)]
 conv=>rhs;rw [Ff [e.used],Ff e.alts,Ff [e.d.cre,e.d.exp]]
abbrev Pc (w) (e) (a):=Blk.new w 144 (enC e a).toArray
def sD (T:e.kind=0) (w:Wd) (hw:EW [] w e a) (H:(∀ x∈Eu e.d,Pv x)/\(∀ x∈[e.d.cls],Pv x)/\(∀ x∈[e.d.cre,e.d.exp],Pv x)/\(∀ x∈e.alts,Pv x)/\∀ x∈[e.used],Pv x) (V:e.alts.length<=1000) (M:e.d.vol.size<=1000) (ho:e.d.own.size<=1000):Calls prog 229 #[.agg (enC e a).toArray] w (StG (Kn ⟨#[]⟩ e) w):=by
 have X:=fun W (G:Below w.1.size w W)=>(hw.below G).sa
 have N:=Hd V;have Y:=fun D=>BX.new e a w D
 have K:=((Pc w e a).cell 0).trans (show _=some (Value.int .i64 0) by rw [<-T];rfl);have m1:=K;have U:=show (Pd w e a).rangeAt w.1.size 2 (dC e.d) from fun j v M=>by rw [Blk.cell (Pc w e a)];have hj:=(QZ.1 M).1;have h:=Jj e a j hj;rw [<-M,<-h];simp
 have O:=fun D:Array Value=>U3 (Pd w e a) 34 D (w.1.size+1) Am
 clear m1;go_in;go_wp2_with (first|(apply Gl 34 7;apply Ln 34 w.1.size 2 (dC e.d) U underlying34)|(apply Gt 34 3;apply Lv 34 (w.1.size+1) (dC e.d).toArray (O _) (Xc e.d);apply Wg (Φ:=BX e a w) (Y _);intro W1 Q;clear K;have K:=Q.c1 0 _ (XK some (XK (Value.int .i64) T))));have l:=And.intro (Xu (Eu e.d) 14 (by simp [Eu])) (And.intro (KM (Vr e.d.uniq)) (And.intro (Xu [e.d.cls] 1 Am) (And.intro (Ut e.d.vol) (And.intro (Ut e.d.own) (And.intro (Xu [e.d.cre,e.d.exp] 2 Am) (And.intro (KM (Vr e.d.arch)) (And.intro (Xu [(e.alts.length:Int)] 1 Am) (And.intro (Xu e.alts 1000 V) (And.intro (Xu [e.used] 1 Am) (And.intro M ho))))))))));apply WzR (S:=BX e a w) (R:=Rb) Q.drew (fun _ _ h G=>h.next G)
 apply xr (fun W h=>h.b2) underlying34;apply xk IaM (fun W h k=>(Fw e.d W).mono fun x W2 ⟨A,c,h1,h2,h3⟩=>⟨_,h1,⟨A,c,rfl,h2⟩,h3⟩);intro x;apply xc (f:=303) (v:=.string (wrN ⟨#[]⟩ (Eu e.d))) (fun W h k=>Jy (xf 0 k) ((by simp [Eu])) H.1);apply xA (v:=_);apply xl (.bool e.d.uniq) (fun W h=>h.c2 14 _ rfl);apply xc (f:=305) (v:=.string (EQ e.d.uniq)) (fun W h k=>Ir e.d.uniq W);apply xq (hz:=by obtain ⟨r,p,B,q,n,z,m,C,u,b,g,d⟩:=l;(try simp only [QY]);omega);apply xA (v:=_);apply xl (.int .i64 e.d.cls) (fun W h=>h.c2 15 _ rfl);apply xi [e.d.cls] 1;intro x14;apply xc (f:=303) (v:=.string (wrN ⟨#[]⟩ [e.d.cls])) (fun W h k=>Jy (xf 0 k) (Am) H.2.1);apply xq (hz:=by obtain ⟨r,p,B,q,n,z,m,C,u,b,g,d⟩:=l;(try simp only [QY]);omega);apply xA (v:=_)
 apply xl (.string e.d.vol) (fun W h=>h.c2 16 _ rfl);apply xc (f:=179) (v:=.string (Vh e.d.vol)) (fun W h k=>Xp e.d.vol W Oo);apply xq (hz:=by obtain ⟨r,p,B,q,n,z,m,C,u,b,g,d⟩:=l;(try simp only [QY]);omega);apply xA (v:=_);apply xl (.string e.d.own) (fun W h=>h.c2 17 _ rfl);apply xc (f:=179) (v:=.string (Vh e.d.own)) (fun W h k=>Xp e.d.own W Oo);apply xq (hz:=by obtain ⟨r,p,B,q,n,z,m,C,u,b,g,d⟩:=l;(try simp only [QY]);omega);apply xA (v:=_);apply xl (.int .i64 e.d.cre) (fun W h=>h.c2 18 _ rfl);apply xA (v:=_);apply xl (.int .i64 e.d.exp) (fun W h=>h.c2 19 _ rfl);apply xi [e.d.cre,e.d.exp] 2;intro x29;apply xc (f:=303) (v:=.string (wrN ⟨#[]⟩ [e.d.cre,e.d.exp])) (fun W h k=>Jy (xf 0 k) (Am) H.2.2.1)
 apply xq (hz:=by obtain ⟨r,p,B,q,n,z,m,C,u,b,g,d⟩:=l;(try simp only [QY]);omega);apply xA (v:=_);apply xl (.bool e.d.arch) (fun W h=>h.c2 20 _ rfl);apply xc (f:=305) (v:=.string (EQ e.d.arch)) (fun W h k=>Ir e.d.arch W);apply xq (hz:=by obtain ⟨r,p,B,q,n,z,m,C,u,b,g,d⟩:=l;(try simp only [QY]);omega);apply (xv);refine xn fun W2 E _=>?_
 clear K Y O U;go_wp2;apply WzR (S:=BX e a w) (R:=Rb) E.drew (fun _ _ h G=>h.next G);apply (xv);apply xA (v:=_);apply xl (.slice a.aA e.alts.length a.aC) (fun W h=>h.c1 23 _ rfl);apply xA (v:=_);apply xi [(e.alts.length:Int)] 1;intro x45;apply xc (f:=303) (v:=.string (wrN ⟨#[]⟩ [(e.alts.length:Int)])) (fun W h k=>Jy (xf 0 k) (Am) (fun x hx=>by rw [QT.1 hx];exact ⟨Int.natCast_nonneg _,by have:=N.o;omega⟩));apply xq (hz:=by obtain ⟨r,p,B,q,n,z,m,C,u,b,g,d⟩:=l;(try simp only [QY]);omega);apply xA (v:=_);apply xl (.slice a.aA e.alts.length a.aC) (fun W h=>h.c1 23 _ rfl);apply xc (f:=303) (v:=.string (wrN ⟨#[]⟩ e.alts)) (fun W h k=>Lw _ _ _ _ W (X W h.be) N H.2.2.2.1);apply xq (hz:=by obtain ⟨r,p,B,q,n,z,m,C,u,b,g,d⟩:=l;(try simp only [QY]);omega);apply xA (v:=_)
 apply xl (.int .i64 e.used) (fun W h=>h.c1 24 _ rfl);apply xi [e.used] 1;intro x54;apply xc (f:=303) (v:=.string (wrN ⟨#[]⟩ [e.used])) (fun W h k=>Jy (xf 0 k) (Am) H.2.2.2.2);apply xq (hz:=by obtain ⟨r,p,B,q,n,z,m,C,u,b,g,d⟩:=l;(try simp only [QY]);omega);apply (xv);refine xn fun W3 J _=>?_
 rw [SE e];have HB:=J.be;clear E J l X N;go_wp2;go_ret;exact ⟨rfl,HB⟩
def LS (w:Wd) (x:Ending) (w':Wd):Prop:=∃ s:Bz,s.size<=10000000/\x=.returned (.string s)/\Below w.1.size w w'
def sC (n:e.kind=1) (w:Wd) (G:∀ x∈[e.limit,e.last],Pv x) (E:e.owner.size<=1000):Calls prog 229 #[.agg (enC e a).toArray] w (StG (Pw ⟨#[]⟩ e) w):=by
 have k:=And.intro (Xu [e.limit,e.last] 2 Am) (And.intro (KM (Vr e.empty)) (And.intro (Ut e.owner) E));have r:=fun b=>BX.new e a w b
 have d:=((Pc w e a).cell 0).trans (show _=some (Value.int .i64 1) by rw [<-n];rfl);have H:=d;have p:=show (Pd w e a).rangeAt w.1.size 2 (dC e.d) from fun j v q=>by rw [Blk.cell (Pc w e a)];have K:=(QZ.1 q).1;have h:=Jj e a j K;rw [<-q,<-h];simp
 have l:=fun b:Array Value=>U3 (Pd w e a) 34 b (w.1.size+1) Am
 clear H;go_in;go_wp2_with (first|(apply Gl 34 7;apply Ln 34 w.1.size 2 (dC e.d) p underlying34)|(apply Gt 34 3;apply Lv 34 (w.1.size+1) (dC e.d).toArray (l _) (Xc e.d);apply Wg (Φ:=BX e a w) (r _);intro M m;clear d;have d:=m.c1 0 _ (XK some (XK (Value.int .i64) n))));apply WzR (S:=BX e a w) (R:=Rb) m.drew (fun _ _ h u=>h.next u);apply xA (v:=_);apply xl (.int .i64 e.limit) (fun W h=>h.c1 25 _ rfl);apply xA (v:=_);apply xl (.int .i64 e.last) (fun W h=>h.c1 26 _ rfl);apply xi [e.limit,e.last] 2;intro D;apply xc (f:=303) (v:=.string (wrN ⟨#[]⟩ [e.limit,e.last])) (fun W h g=>Jy (xf 0 g) (Am) G);apply xA (v:=_);apply xl (.bool e.empty) (fun W h=>h.c1 27 _ rfl);apply xc (f:=305) (v:=.string (EQ e.empty)) (fun W h g=>Ir e.empty W)
 apply xq (hz:=by obtain ⟨C,z,J,A⟩:=k;(try simp only [QY]);omega);apply xA (v:=_);apply xl (.string e.owner) (fun W h=>h.c1 28 _ rfl);apply xc (f:=179) (v:=.string (Vh e.owner)) (fun W h g=>Xp e.owner W Oo);apply xq (hz:=by obtain ⟨C,z,J,A⟩:=k;(try simp only [QY]);omega);apply (xv);refine xn fun N c _=>?_
 have B:=c.be;clear c k d r l p;go_wp2;go_ret;exact ⟨rfl,B⟩
theorem lh {G:Prop} (h:G:=by
  have m1:=m0;have HR:=Hd (show (Pd w e a).rangeAt w.1.size 2 (dC e.d) from fun j v hv=>by rw [Blk.cell (Pc w e a)];have hj:j<21:=(QZ.1 hv).1;have h:=Jj e a j hj;rw [<-hv,<-h];simp);have KX:=Hd fun old:Array Value=>U3 (Pd w e a) 34 old (w.1.size+1) Am
  clear hk m1;go_in
  first
   |go_wp2_with (first|(refine Gl 34 7 ?_;refine Ln 34 w.1.size 2 (dC e.d) HR underlying34 ?_)|(refine Gt 34 3 ?_;refine Lv 34 (w.1.size+1) (dC e.d).toArray (KX _) (Xc e.d) ?_;refine Wg (Φ:=BX e a w) (HX _) ?_;intro W1 hX;clear m0;have HY:=Hd hX;have m0:=hX.c1 0 _ (XK some (XK (Value.int .i64) KK));have m2:=hX.c1 29 _ rfl;clear hX)|(go_at_call 179;refine yT (Xp e.target _ (by have:=HZ.2;omega)) HY.next fun w5 HB=>?_))
    go_ret;exact ⟨_,by obtain ⟨z1,z2⟩:=HZ;omega,rfl,HB.be⟩
   |go_wp2_with (first|(refine Gl 34 7 ?_;refine Ln 34 w.1.size 2 (dC e.d) HR underlying34 ?_)|(refine Gt 34 3 ?_;refine Lv 34 (w.1.size+1) (dC e.d).toArray (KX _) (Xc e.d) ?_;refine Wg (Φ:=BX e a w) (HX _) ?_;intro W1 hX;clear m0;have HY:=Hd hX;have m0:=hX.c1 0 _ (XK some (XK (Value.int .i64) KK));have m2:=hX.c1 30 _ rfl;clear hX)|(go_at_call 303;refine yP (Ls _ _ _ [e.catalog] _ ((Sl.new (f:=iC) (k:=1) (fun _=>rfl) _ 3 [e.catalog]).more Am) Am) fun w5 hb=>?_;have HB:=Hd (HY.be.trans ((Aj.trans (hb.mono Am)).mono HY.be.size));clear hb))
    go_ret;exact ⟨_,Lx (Xu _ 1 Am) Oo,rfl,HB⟩):G:=h
def sB (hk:e.kind=2) (w:Wd) (b:e.target.size<=1000):Calls prog 229 #[.agg (enC e a).toArray] w (LS w):=by
 have KK:=Hd hk;have HZ:=And.intro (Ut e.target) b;have HX:=fun old=>BX.new e a w old
 have m0:=((Pc w e a).cell 0).trans (show _=some (Value.int .i64 2) by rw [<-hk];rfl);exact lh
def sA (hk:e.kind=3) (w:Wd)  : Calls prog 229 #[.agg (enC e a).toArray] w (LS w):=by
 have KK:=Hd hk;have HX:=fun old=>BX.new e a w old
 have m0:=((Pc w e a).cell 0).trans (show _=some (Value.int .i64 3) by rw [<-hk];rfl);exact lh
structure KX4 (e:En) (a:EnA) (w:Wd) (j:Nat) (s:Bz) (W:Wd):Prop where
 x:BX e a w W
 z:s.size<=2000+2000*j
def sy (hk:e.kind=4) (w:Wd) (hw:EW [] w e a) (ho:e.owner.size<=1000) (hl:e.grants.length<=1000) (D:∀ g∈e.grants,g.who.size<=1000):Calls prog 229 #[.agg (enC e a).toArray] w (LS w):=by
 have HL:=Hd fun W (B:Below w.1.size w W)=>(hw.below B).sg
 have E:=Hd (And.intro hl D);have Y:=fun (W:Wd) (x:Value) (n:Int) (h:IaP [n] x W)=>show Calls prog 303 #[x] W (StG (wrN ⟨#[]⟩ [IntKind.u64.wrap n]) W) by obtain ⟨A,c,rfl,U⟩:=h;exact Ls A 1 c [n] W U Oo
 have m:=And.intro (Xu [IntKind.u64.wrap e.level] 1 Am) (And.intro (Ut e.owner) (And.intro ho (Xu [IntKind.u64.wrap (e.grants.length:Int)] 1 Am)));clear hw hl D;have C:=fun z=>BX.new e a w z
 have T:=((Pc w e a).cell 0).trans (show _=some (Value.int .i64 4) by rw [<-hk];rfl);have m1:=T;have HR:=show (Pd w e a).rangeAt w.1.size 2 (dC e.d) from fun j v V=>by rw [Blk.cell (Pc w e a)];have X:=(QZ.1 V).1;have h:=Jj e a j X;rw [<-V,<-h];simp
 have KX:=fun z:Array Value=>U3 (Pd w e a) 34 z (w.1.size+1) Am
 clear m1;go_in;go_wp2_with (first|(apply Gl 34 7;apply Ln 34 w.1.size 2 (dC e.d) HR underlying34)|(apply Gt 34 3;apply Lv 34 (w.1.size+1) (dC e.d).toArray (KX _) (Xc e.d);refine Wg (Φ:=BX e a w) (C _) ?_;intro W1 p;clear T;have T:=p.c1 0 _ (XK some (XK (Value.int .i64) hk))));apply WzR (S:=BX e a w) (R:=Rb) p.drew (fun _ _ h B=>h.next B);apply xA (v:=_);apply xl (.int .i64 e.level) (fun W h=>h.c1 31 _ rfl);apply xi [e.level] 1;intro x95;apply xc (f:=303) (v:=.string (wrN ⟨#[]⟩ [IntKind.u64.wrap e.level])) (fun W h u=>Y W _ _ (xf 0 u));apply xA (v:=_);apply xl (.string e.owner) (fun W h=>h.c1 28 _ rfl);apply xc (f:=179) (v:=.string (Vh e.owner)) (fun W h u=>Xp e.owner W Oo);apply xq (hz:=by obtain ⟨J,G,K,H⟩:=m;(try simp only [QY]);omega);apply xA (v:=_)
 apply xl (.slice a.gA e.grants.length a.gC) (fun W h=>h.c1 32 _ rfl);apply xA (v:=_);apply xi [(e.grants.length:Int)] 1;intro x104;apply xc (f:=303) (v:=.string (wrN ⟨#[]⟩ [IntKind.u64.wrap (e.grants.length:Int)])) (fun W h u=>Y W _ _ (xf 0 u));apply xq (hz:=by obtain ⟨J,G,K,H⟩:=m;(try simp only [QY]);omega);apply (xv);refine xn fun W3 d _=>?_
 generalize U:(wrN ⟨#[]⟩ [IntKind.u64.wrap e.level]++Vh e.owner++wrN ⟨#[]⟩ [IntKind.u64.wrap (e.grants.length:Int)])=s0;have dN:KX4 e a w 0 s0 W3:=⟨d,by rw [<-U];obtain ⟨J,G,K,H⟩:=m;simp only [QY];omega⟩
 have M:=Hd dN;clear d T C KX HR dN U;go_wp2;go_loopw [5,6] (fun s i wr=>∃ (j:Nat) (t:Bz),j<=e.grants.length/\i=.int .i64 j/\s=.string t/\KX4 e a w j t wr) (fun _ i _=>e.grants.length-(intOf i).toNat)
 .exact ⟨0,s0,Z0 _,rfl,rfl,M.o⟩
 .obtain ⟨j,t,X,rfl,rfl,p⟩:=hrel;have g0:=p.x.c1 32 _ rfl;have C:=Hd p;clear M m;by_cases N:j<e.grants.length
  .obtain ⟨b,o,x,hA,B,D,aB⟩:=Sl.cell (f:=grC) (k:=3) (fun _=>rfl) (HL.o wr p.x.be) N;have d1:decide ((j:Int)<(e.grants.length:Int))=true:=QQ Oo
   have O:=fun W (hw:Below w.1.size w W) (q:Nat) (v:Value) (V:(grC x)[q]? =some v)=>show W.cell? ⟨b,o+j*3+q,none⟩=some v by
    obtain ⟨b',o',x',Q,_,fG,hc'⟩:=Sl.cell (f:=grC) (k:=3) (fun _=>rfl) (HL.o W hw) N;rw [hA] at Q;injection Q with Q;injection Q with q1 q2;subst q1 q2
    rw [D] at fG;have:=WQ fG;subst this;exact hc' _ _ V
   have HH:=Hd (E.o.2 x (QJ D));have m:=Hd (And.intro (Ut x.who) (And.intro HH.o (And.intro (KM (Vr x.group)) (And.intro (Xu [IntKind.u64.wrap x.level] 1 Am) (And.intro p.z E.o.1)))));have l:=Hd N;obtain ⟨A,r⟩:=yG a.gA;rw [r] at hA g0;subst hA;clear B D aB p X;go_wp2;apply WzR (S:=BX e a w) (R:=Rb) C.o.x.drew (fun _ _ h B=>h.next B);apply (xv);apply xA (v:=_);apply xl (.slice (some ⟨b,o,none⟩) e.grants.length a.gC) (fun W h=>h.c1 32 _ (by rw [<-r];rfl));apply (xv);apply xp (.pointer (some ⟨b,o+j*3,none⟩)) (y:=WL ⟨Af,by intro w2 aO;have h1:=l.o;go_simp⟩);apply xA (v:=_);apply xl (ad:=⟨b,o+j*3,none⟩) (.string x.who) (fun W h=>O W h.be 0 _ rfl);apply xc (f:=179) (v:=.string (Vh x.who)) (fun W h u=>Xp x.who W (by have:=HH.o;omega))
   apply xq (hz:=by obtain ⟨J,G,K,H,z5,z6⟩:=m.o;have:=l.o;(try simp only [QY]);omega);apply xA (v:=_);apply xl (.slice (some ⟨b,o,none⟩) e.grants.length a.gC) (fun W h=>h.c1 32 _ (by rw [<-r];rfl));apply (xv);apply xp (.pointer (some ⟨b,o+j*3,none⟩)) (y:=WL ⟨Af,by intro w2 aO;have h1:=l.o;go_simp⟩);apply xA (v:=_);apply xl (.bool x.group) (fun W h=>O W h.be 1 _ rfl);apply xc (f:=305) (v:=.string (EQ x.group)) (fun W h u=>Ir x.group W);apply xq (hz:=by obtain ⟨J,G,K,H,z5,z6⟩:=m.o;have:=l.o;(try simp only [QY]);omega);apply xA (v:=_);apply xl (.slice (some ⟨b,o,none⟩) e.grants.length a.gC) (fun W h=>h.c1 32 _ (by rw [<-r];rfl));apply (xv);apply xp (.pointer (some ⟨b,o+j*3,none⟩)) (y:=WL ⟨Af,by intro w2 aO;have h1:=l.o;go_simp⟩);apply xA (v:=_)
   apply xl (.int .i64 x.level) (fun W h=>O W h.be 2 _ rfl);apply xi [x.level] 1;intro x133;apply xc (f:=303) (v:=.string (wrN ⟨#[]⟩ [IntKind.u64.wrap x.level])) (fun W h u=>Y W _ _ (xf 0 u));apply xq (hz:=by obtain ⟨J,G,K,H,z5,z6⟩:=m.o;have:=l.o;(try simp only [QY]);omega);apply (xv);refine xn fun W3 d _=>?_
   have HN:KX4 e a w (j+1) (t++Vh x.who++EQ x.group++wrN ⟨#[]⟩ [IntKind.u64.wrap x.level]) W3:=⟨d,by obtain ⟨J,G,K,H,z5,z6⟩:=m.o;simp only [QY];omega⟩
   generalize t++Vh x.who++EQ x.group++wrN ⟨#[]⟩ [IntKind.u64.wrap x.level]=t2 at HN;clear d m O HH C g0;have hn:=E.o.1;have N:=l.o;go_wp2;go_roundw
   .exact ⟨j+1,_,l.o,by have:=E.o.1;have:=l.o;go_num,rfl,HN⟩
   .simp [intOf];have:=E.o.1;have:=l.o;omega
  .obtain rfl:j=e.grants.length:=Oo
   have d1:=QW Oo;clear p X;go_wp2;go_ret;exact ⟨t,by have:=C.o.z;have:=E.o.1;omega,rfl,C.o.x.be⟩
end
section
variable {E:En} {a:EnA} {l:Bz} {e:Int} {w W W':Wd} {Q:Exit->Act->Wd->Prop} {Φ:Wd->Prop} {W0:Wd} {P:Program} {y:Code} {b g:Nat} {t:TypeId} {m:Nat} {l1:Bz} {e1:Int} {nm:Bz} {n:Nat} {D:DSet} {E':En} {a':EnA} {c:Nat} {o:Oper} {ty:TypeId} {v:Value}
structure FB (E:En) (a:EnA) (l:Bz) (e:Int) (w W:Wd):Prop where
 b0:Blk W w.1.size 144 (enC E a).toArray
 b1:Blk W (w.1.size+1) 185 (rdV l e)
 b2:∃ old:Array Value,old.size=33/\Blk W (w.1.size+2) 144 old
 b3:Blk W (w.1.size+3) 185 (rdV ⟨#[]⟩ 0)
 be:Below w.1.size w W
 sz:w.1.size+4<=W.1.size
def FB.keep (h:FB E a l e w W) (d:Below (w.1.size+4) W W'):FB E a l e w W':=by
 obtain ⟨f,i,j⟩:=h.b2;exact ⟨h.b0.below d Oo,h.b1.below d Oo,⟨f,i,j.below d Oo⟩,h.b3.below d Oo,h.be.trans (d.mono Oo),Lx h.sz d.size⟩
def FB.next (h:FB E a l e w W) (d:Below W.1.size W W'):FB E a l e w W':=h.keep (d.mono h.sz)
def FB.new (E:En) (a:EnA) (l:Bz) (e:Int) (w:Wd) (d:Array Value) (f:d.size=33):
  FB E a l e w ((((Aa w (enC E a).toArray 144).alloc (.cells (rdV l e) 185)).alloc (.cells d 144)).alloc (.cells #[.string ⟨#[]⟩,.int .i64 0] 185)):=
 ⟨(((Blk.new w _ _).alloc _).alloc _).alloc _,((U3 (w.alloc _) _ _ (w.1.size+1) Am).alloc _).alloc _,⟨d,f,(U3 ((w.alloc _).alloc _) _ _ (w.1.size+2) Am).alloc _⟩,U3 (((w.alloc _).alloc _).alloc _) _ _ (w.1.size+3) Am,
  ((Aj.alloc Am _).alloc As _).alloc As _,Am⟩
def Fre (w:Wd) (E:En) (a:EnA):Prop:=(∀ p,a.aA=some p->0<E.alts.length->w.1.size<=p.block)/\∀ p,a.gA=some p->0<E.grants.length->w.1.size<=p.block
def FdG (R:En×Bz×Int) (w:Wd) (x:Ending) (w':Wd):Prop:=∃ a,x=.returned (.tuple #[.agg (enC R.1 a).toArray,.agg (rdV R.2.1 R.2.2)])/\(EW [] w' R.1 a/\Fre w R.1 a)/\UsA R.1 a/\Below w.1.size w w'
structure FlS (nm:Bz) (l:Bz) (e:Int) (g m:Nat) (L:List Int) (l1:Bz) (e1:Int) (w W:Wd):Prop where
 x:FB (enK 0 nm) enN l e w W
 c:∀ k,k<14->W.cell? ⟨g,k,none⟩=some (.int .i64 (L.getD k 0))
 r:Blk W m 185 (rdV l1 e1)
 hm:w.1.size+4<=m
 hg:g<W.1.size
structure FD (nm:Bz) (l:Bz) (e:Int) (m n:Nat) (D:DSet) (l1:Bz) (e1:Int) (w W:Wd):Prop where
 x:FB (enK 0 nm) enN l e w W
 r:Blk W m 185 (rdV l1 e1)
 d:Blk W n 34 (dC D).toArray
 hm:w.1.size+4<=m
 hn:m<n
def WgQ {x:Exit} {a:Act} (d:Φ W0) (h:∀ W,Φ W->Q x a W):Q x a W0:=h W0 d
def Ii {cs:Array Value} (d:g≠b):∀ (l:List Value) (o:Nat) (w:Wd),Blk w g t cs->Blk (w.setCells b o l) g t cs
 | [],_,_,h=>h
 |v::l,o,w,h=>Ii d l (o+1) (w.setCell ⟨b,o,none⟩ v) (h.far d v)
def tS (E:En) (a:EnA) (d:DSet):setL (enC E a).toArray 2 (dC d)=(enC { E with d:=d } a).toArray:=Ak
structure FE (E:En) (a:EnA) (l:Bz) (e:Int) (m:Nat) (l1:Bz) (e1:Int) (w W:Wd):Prop where
 x:FB E a l e w W
 r:Blk W m 185 (rdV l1 e1)
 hm:w.1.size+4<=m
def FE.next (h:FE E a l e m l1 e1 w W) (d:Below W.1.size W W'):FE E a l e m l1 e1 w W':=⟨h.x.next d,h.r.below d h.r.lt,h.hm⟩
def FE.put (h:FE E a l e m l1 e1 w W) (f:Bz) (d:Int):FE E a l e m f d w (W.setRow m (rdV f d)):=
 ⟨h.x.keep (Xq (Bf _ _) h.hm _),QR _ _ _ _ _ _ h.r,h.hm⟩
def FD.next (h:FD nm l e m n D l1 e1 w W) (d:Below W.1.size W W'):FD nm l e m n D l1 e1 w W':=⟨h.x.next d,h.r.below d h.r.lt,h.d.below d h.d.lt,h.hm,h.hn⟩
def FD.put (h:FD nm l e m n D l1 e1 w W) (f:Bz) (d:Int):FD nm l e m n D f d w (W.setRow m (rdV f d)):=
 ⟨h.x.keep (Xq (Bf _ _) h.hm _),QR _ _ _ _ _ _ h.r,(QE _ _ _ _ (ZB h.hn)).trans h.d,h.hm,h.hn⟩
def FB.set (h:FB E a l e w W) (i:Nat) (v:Value) (f:(enC E a).toArray.setIfInBounds i v=(enC E' a').toArray):FB E' a' l e w (W.setCell ⟨w.1.size,i,none⟩ v):=by
 obtain ⟨d,j,k⟩:=h.b2;exact ⟨by rw [<-f];exact h.b0.set i v,h.b1.far (by show w.1.size+1≠w.1.size;omega) v,⟨d,j,k.far (by show w.1.size+2≠w.1.size;omega) v⟩,h.b3.far (by show w.1.size+3≠w.1.size;omega) v,h.be.setCell (by show _<=w.1.size;omega) _,by simpa using h.sz⟩
def FE.set (h:FE E a l e m l1 e1 w W) (i:Nat) (v:Value) (d:(enC E a).toArray.setIfInBounds i v=(enC E' a').toArray):FE E' a' l e m l1 e1 w (W.setCell ⟨w.1.size,i,none⟩ v):=
 ⟨h.x.set i v d,h.r.far (by have:=h.hm;show m≠w.1.size;omega) v,h.hm⟩
def FD.fill (h:FD nm l e m n D l1 e1 w W):FE { enK 0 nm with d:=D } enN l e m l1 e1 w (W.setCells w.1.size 2 (dC D)):=by
 have f:=h.x;have j:=h.hm;obtain ⟨i,k,q⟩:=f.b2;have r:=Zh (Le w.1.size) (dC D) 2 W f.be
 have hz:(W.setCells w.1.size 2 (dC D)).1.size=W.1.size:=by
  have:∀ (l:List Value) (o:Nat) (W:Wd),(W.setCells w.1.size o l).1.size=W.1.size:=fun l=>by
   induction l with
   |nil=>intro o W;rfl
   |cons v l p=>intro o W;exact (p (o+1) _).trans Am
  exact this _ _ _
 exact ⟨⟨by rw [<-tS];exact Ke _ _ _ _ f.b0,Ii Oo _ _ _ f.b1,⟨i,k,Ii Oo _ _ _ q⟩,Ii Oo _ _ _ f.b3,r,by rw [hz];exact f.sz⟩,Ii Oo _ _ _ h.r,j⟩
def FZ (l:Bz) (e m:Int) (d:0<=m):0<=(Xa l e m).1/\(Xa l e m).1<=m:=by
 unfold Xa;split
 .split
  .exact ⟨XI _,d⟩
  .exact ⟨(Iv l e),Oo⟩
 .exact ⟨XI _,d⟩
structure FZ' (E:En) (a:EnA) (l:Bz) (e:Int) (w W:Wd):Prop where
 b2:Blk W (w.1.size+2) 144 (enC E a).toArray
 b3:Blk W (w.1.size+3) 185 (rdV l e)
 be:Below w.1.size w W
structure FF (E:En) (a:EnA) (l:Bz) (e:Int) (m:Nat) (l1:Bz) (e1:Int) (B:Nat) (A:Option Addr) (c:Nat) (L:List Int) (w W:Wd):Prop where
 f:FE E a l e m l1 e1 w W
 o:W.ownsRow B 3 1 (.slice A L.length c) L.length (L.map (Value.int .i64))
 hB:w.1.size+4<=B
 hm:m<B
section
variable {E E':En} {a a':EnA} {l:Bz} {e:Int} {m:Nat} {l1:Bz} {e1:Int} {B:Nat} {A:Option Addr} {c:Nat} {L:List Int} {w W W':Wd}
def Mj:∀ L:List Int,U7 Xg L=L.map (Value.int .i64)
 | []=>rfl
 |n::L=>by rw [Vg,Mj L];rfl
def BI (l:Bz) (e:Int):Xz 2 l e=([(rnF l e).1,(rnF (rnF l e).2.1 (rnF l e).2.2).1],(rnF (rnF l e).2.1 (rnF l e).2.2).2):=rfl
def FF.next (h:FF E a l e m l1 e1 B A c L w W) (d:Below W.1.size W W'):FF E a l e m l1 e1 B A c L w W':=⟨h.f.next d,Ub h.o d,h.hB,h.hm⟩
def FF.put (h:FF E a l e m l1 e1 B A c L w W) (f:Bz) (d:Int):FF E a l e m f d B A c L w (W.setRow m (rdV f d)):=⟨h.f.put f d,Y3 h.o (Yy h.o (.inl h.hm)) _,h.hB,h.hm⟩
def FF.set (h:FF E a l e m l1 e1 B A c L w W) (i:Nat) (v:Value) (d:(enC E a).toArray.setIfInBounds i v=(enC E' a').toArray):FF E' a' l e m l1 e1 B A c L w (W.setCell ⟨w.1.size,i,none⟩ v):=
 ⟨h.f.set i v d,ownsRow_setCell_below h.o (by have:=h.hB;show w.1.size<B;omega) _,h.hB,h.hm⟩
def FF.sl (h:FF E a l e m l1 e1 B A c L w W):Sl Xg 1 W W.1.size A L.length c L:=Sl.of_own (f:=Xg) (k:=1) (fun _=>rfl) Ac (by have:=h.o;rwa [show L.map (Value.int .i64)=U7 Xg L from (Mj L).symm] at this)
def FB.gt (h:FB E a l e w W) (i:Nat) (v:Value) (d:(enC E a)[i]? =some v):W.cell? ⟨w.1.size,i,none⟩=some v:=by rw [h.b0.cell];simpa using d
end
def zx (h:Blk W g 144 (enC E a).toArray) (j:Nat) (d:j<21):(W.cell? ⟨g,2+j,none⟩).isSome=true/\W.frozen? ⟨g,2+j,none⟩=false:=by
 refine ⟨?_,h.free _⟩;rw [h.cell,Ga,QV (by rw [qj];omega)];rfl
def P4 {f:Func} {d:Array Value} {p q:Nat} {u:TypeId} {x y:Value} (h:f.results=#[.cell p t,.cell q u]) (i:d.getD p undef=(Ag b 0)) (j:d.getD q undef=(Ag c 0))
  (r:(loadVar t ⟨b,0,none⟩).run P W=.ok x W) (hy:(loadVar u ⟨c,0,none⟩).run P W=.ok y W):(results f d).run P W=.ok (.tuple #[x,y]) W:=by
 have k:d[p]?.getD undef=Ag b 0:=by simpa using i
 have s:d[q]?.getD undef=Ag c 0:=by simpa using j
 simp [results,h,k,s,asAddr,r,hy]
def ra {base:Nat} {A:Option Addr} {L:List Int} (h:W.ownsRow base 3 1 (.slice A n c) n (L.map (Value.int .i64))) (hn:0<n) (q:L.length=n):∃ g,A=some ⟨g,0,none⟩/\g<W.1.size/\n<=c/\base<=g/\∀ k,k<n->W.cell? ⟨g,k,none⟩=some (.int .i64 (L.getD k 0)):=by
 obtain ⟨g,d,e,f,i,j⟩:=J7 h hn;injection e with e1 e2 e3
 subst e1 e3;refine ⟨g,rfl,i,j,f,fun k p=>?_⟩;rw [World.ownsRow.cellAt h k Oo,YK,QV (by omega:k<L.length),WJ,QV (by omega:k<L.length)];rfl
def Uz {ρ:Operand->Value} {x y:Operand} (r:o.op=.store ty x y) (b i:Nat) (v f:Value) (z:ρ x=(Ag b i)) (hy:ρ y=v) (u:w.cell? ⟨b,i,none⟩=some f) (p:w.frozen? ⟨b,i,none⟩=false) (h:v.oneCell'=true) (k:(P.info? ty).map (·.size)=some 1):
  (execOp ρ o).run P w=.ok .skip (w.setCell ⟨b,i,none⟩ v):=by
 have q:v.cells=#[v]:=by cases v<;>first|rfl|cases h
 cases d:P.info? ty with
 |none=>simp [d] at k
 |some j=>
  have s:j.size=1:=by simpa [d] using k
  unfold execOp;simp [r,z,hy,Instr.storeAt,Instr.sureAddr,storeVar,sizeOf,typeInfo,d,q,s,storeCells,run_store,h,show Addr.add ⟨b,i,none⟩ 0=⟨b,i,none⟩ from rfl,u,p]
def Eg {ops:Array Oper} {rest:List Oper} {a:Act} {w':Wd} (hw:Region.wanted o (yielded ops a.tmps)=true) (d:(execOp a.eval o).run P w=.ok .skip w') (h:wpList P ops Q rest (a.put o.dst undef) w'):wpList P ops Q (o::rest) a w:=
 Yl hw fun _ f=>by
  unfold Oper.wp;rw [d];exact f _ _ h
def Ek:∀ (k:Nat) (l:Bz) (e:Int),(Xz k l e).2.1.size<=l.size
 |0,_,_=>Le _
 |k+1,l,e=>Lx (Ek k _ _) (Zd l e)
def FD.step (h:FD nm l e m n D l1 e1 w W) (d:Below W.1.size W W') (k:DSet) (i:Nat) (v:Value) (j:Bz) (p:Int) (r:(dC D).toArray.setIfInBounds i v=(dC k).toArray):
  FD nm l e m n k j p w ((W'.setCell ⟨n,i,none⟩ v).setRow m (rdV j p)):=by
 have f:=h.hm;have hn:=h.hn;have q:=h.x.next d;refine ⟨q.keep (Xq ((Bf _ _).setCell (by show _<=n;omega) _) f _),QR _ _ _ _ _ _ (Blk.far (h.r.below d h.r.lt) (by show m≠n;omega) v),(QE _ _ _ _ Oo).trans ?_,f,hn⟩;rw [<-r];exact (h.d.below d h.d.lt).set i v
def fS {id:Nat} {u s r F q p z C:Oper} {a I U Y S J H a':Act} {x1 x6 y6 x8 y8:Operand} {d:Bz} {j:Int} {f:FuncId} {args:Array Value} (m n i:Nat)
  (hr:Blk w m 185 (rdV l e)) (hc:Calls prog f args w (RdG v d j w)) (hd:∀ W,Below w.1.size w W->∃ t cs k,Blk W n t cs/\cs[i]? =some k) (R:n≠m)
  (h:∀ W,Below w.1.size w W->y.wp prog Q a' ((W.setCell ⟨n,i,none⟩ v).setRow m (rdV d j)))
  (s1:a.put u.dst (.agg (rdV l e))=I:=by rfl) (s2:I.put s.dst (.tuple #[v,.agg (rdV d j)])=U:=by rfl) (s3:U.put r.dst (.tuple #[v,.agg (rdV d j)])=Y:=by rfl) (s4:Y.put F.dst v=S:=by rfl) (s5:S.put q.dst (.agg (rdV d j))=J:=by rfl) (s6:J.put p.dst (Ag n i)=H:=by rfl)
  (h1:v.oneCell'=true:=by rfl) (dW:u.op=.load 185 x1:=by rfl) (g1:u.guard=none:=by rfl) (Z:a.eval x1=Ag m 0:=by kernel_rfl)
  (w2:Region.wanted s (yielded #[u,s,r,F,q,p,z,C] I.tmps)=true:=by kernel_rfl) (he:(execOp I.eval s).run prog w=.ok (.enter f args) w:=by kernel_rfl)
  (r3:∀ W,(execOp U.eval r).run prog W=.ok (.value (.tuple #[v,.agg (rdV d j)])) W:=by intro W;kernel_rfl) (g3:r.guard=none:=by rfl)
  (r4:∀ W,(execOp Y.eval F).run prog W=.ok (.value v) W:=by intro W;kernel_rfl) (g4:F.guard=none:=by rfl)
  (r5:∀ W,(execOp S.eval q).run prog W=.ok (.value (.agg (rdV d j))) W:=by intro W;kernel_rfl) (g5:q.guard=none:=by rfl)
  (r6:∀ W,(execOp J.eval p).run prog W=.ok (.value (Ag n i)) W:=by intro W;kernel_rfl) (g6:p.guard=none:=by rfl)
  (O:z.op=.store ty x6 y6:=by rfl) (g7:z.guard=none:=by rfl) (d7:z.dst=none:=by rfl) (T:H.eval x6=Ag n i:=by kernel_rfl)
  (K:H.eval y6=v:=by kernel_rfl) (hi:(prog.info? ty).map (·.size)=some 1:=by kernel_rfl)
  (M:C.op=.store 185 x8 y8:=by rfl) (g8:C.guard=none:=by rfl) (d8:C.dst=none:=by rfl) (V:H.eval x8=Ag m 0:=by kernel_rfl)
  (X:H.eval y8=.agg (rdV d j):=by kernel_rfl)
  (ha:J.put p.dst (Ag n i)=a':=by conv=>lhs;simp only [Act.put,Sv,Sz,Sw]):
  ((Code.region id [u,s,r,F,q,p,z,C].toArray false).seq y).wp prog Q a w:=by
 subst s1 s2 s3 s4 s5 s6;have G:∀ {o:Oper} {a:Act},o.guard=none->Region.wanted o (yielded [u,s,r,F,q,p,z,C].toArray a.tmps)=true:=fun hg=>by unfold Region.wanted;rw [hg]
 refine wp_seq (UF ?_);refine Lq 185 m (rdV l e) hr underlying185 ?_ g1 dW Z;refine Zv w2 f args he (hc.mono ?_);rintro x W ⟨rfl,N⟩;refine V0 (G g3) _ (r3 W) (V0 (G g4) _ (r4 W) (V0 (G g5) _ (r5 W) (V0 (G g6) _ (r6 W) ?_)));obtain ⟨t,cs,k,hB,ho⟩:=hd W N;refine Eg (G g7) (Uz O n i v k T K (by rw [hB.cell];exact ho) (hB.free i) h1 hi) ?_;rw [d7];refine Lv 185 m (rdV d j) (Blk.far (hr.below N hr.lt) (fun e=>R e.symm) v) (Ua _ _) ?_ g8 M V X;rw [d8];apply KY;have h2:=h W N;rw [<-ha] at h2;exact h2
def fFd {i:Nat} (h:FD nm l e m n D l1 e1 w W0) (j:i<(dC D).toArray.size:=by exact Nat.lt_of_sub_eq_succ rfl):∀ W,Below W0.1.size W0 W->∃ t cs d,Blk W n t cs/\cs[i]? =some d:=fun _ f=>⟨_,_,_,h.d.below f h.d.lt,WI j⟩
def fWd {a:Act} {d:Bz} {j:Int} (h:FD nm l e m n D l1 e1 w W) (q:Below W.1.size W W') (i:Nat) (f:DSet) (r:(dC D).toArray.setIfInBounds i v=(dC f).toArray)
  (k:∀ p D2,Aw (FD nm l e m n D2 d j w p)->Aw (D2=f)->y.wp P Q a p):y.wp P Q a ((W'.setCell ⟨n,i,none⟩ v).setRow m (rdV d j)):=k _ _ (h.step q f i v d j r) rfl
def nR (l:Bz) (e:Int) (z:l.size<=maxLen):∃ q d f,Aw (∀ W,Calls prog 226 #[.agg (rdV l e)] W (RdG (.int .i64 q) d f W))/\d.size<=maxLen/\Aw (rnF l e=(q,d,f)):=⟨_,_,_,fun W=>Gk l e W z,Lx (Zd l e) z,rfl⟩
def nB (l:Bz) (e:Int) (z:l.size<=maxLen):∃ q d f,Aw (∀ W,Calls prog 225 #[.agg (rdV l e)] W (RdG (.bool q) d f W))/\d.size<=maxLen/\Aw (Uy l e=(q,d,f)):=⟨_,_,_,fun W=>Dy l e W z,Lx (Xn l e) z,rfl⟩
def nT (l:Bz) (e:Int) (k:Int) (z:l.size<=maxLen) (i:0<=k:=by decide) (h:k<=100000:=by decide):∃ q d f,Aw (∀ W,Calls prog 123 #[.agg (rdV l e),.int .i64 k] W (RdG (.string q) d f W))/\d.size<=maxLen/\Aw (U8 l e k=(q,d,f)):=⟨_,_,_,fun W=>Gj l e k W z i h,Lx (Vf l e k).2 z,rfl⟩
def nC (l:Bz) (e:Int) (k:Int) (z:l.size<=maxLen) (i:0<=k:=by decide) (h:k<=100000:=by decide):∃ q d f,Aw (∀ W,Calls prog 174 #[.agg (rdV l e),.int .i64 k] W (RdG (.int .i64 q) d f W))/\d.size<=maxLen/\Aw (Xa l e k=(q,d,f)):=⟨_,_,_,fun W=>LK l e k W z i h,Lx (Ee l e k) z,rfl⟩
def Dt (nm l:Bz) (e:Int) (he:e=0) (w:Wd) (hs:l.size<=maxLen):Calls prog 176 #[.agg (enC (enK 0 nm) enN).toArray,.agg (rdV l e)] w (FdG (Ia 0 nm l) w):=by
 have HX:=Hd fun Y ho=>FB.new (enK 0 nm) enN l e w Y ho
 have m0:=fun Y:Array Value=>((((Blk.new w 144 (enC (enK 0 nm) enN).toArray).alloc (.cells (rdV l e) 185)).alloc (.cells Y 144)).alloc (.cells #[.string ⟨#[]⟩,.int .i64 0] 185)).cell 0 |>.trans (show _=some (Value.int .i64 0) from rfl)
 have HR:=fun W=>Ng 14 Ac l e W hs
 have hl:=EC 14 l e;obtain ⟨R,hR⟩:=yG (Xz 14 l e);rw [hR] at HR hl;obtain ⟨L,l1,e1⟩:=R;simp only at hl;unfold RlG at HR;simp only [hl] at HR;obtain ⟨q1,l2,e2,H1,z2,E1⟩:=nB l1 e1 (Lx (by have:=Ek 14 l e;rw [hR] at this;exact this) hs);obtain ⟨q2,l3,e3,H2,z3,E2⟩:=nR l2 e2 z2;clear z2;obtain ⟨q3,l4,e4,H3,z4,E3⟩:=nT l3 e3 8 z3;clear z3;obtain ⟨q4,l5,e5,H4,z5,E4⟩:=nT l4 e4 8 z4;clear z4;obtain ⟨q5,l6,e6,H5,z6,E5⟩:=nR l5 e5 z5;clear z5;obtain ⟨q6,l7,e7,H6,z7,E6⟩:=nR l6 e6 z6;clear z6;obtain ⟨q7,l8,e8,H7,z8,E7⟩:=nB l7 e7 z7;clear z7;obtain ⟨q8,T,U,H8,z9,E8⟩:=nC l8 e8 4 z8;clear z8;have Z:=FZ l8 e8 4 Ac;rw [E8.o] at Z;obtain ⟨N,hN⟩:=JM Z.1;have hN4:N<=4:=by have:=Z.2;simp only at this;omega
 simp only at hN;have bZ:=Hd fun W=>Ng N Oo T U W z9
 have eN:=EC N T U;have X:(Xz N T U).2.1.size<=maxLen:=Lx (Ek N T U) z9;obtain ⟨⟨s,J,O⟩,h9⟩:∃ t,Xz N T U=t:=⟨_,rfl⟩
 rw [h9] at bZ eN X;unfold RlG at bZ;simp only at eN X bZ;obtain ⟨⟨I,F,C⟩,fH⟩:∃ t,rnF J O=t:=⟨_,rfl⟩
 have H10:=Hd fun W=>(by have h:=Gk J O W X;simp only [fH] at h;exact h:Calls prog _ _ W (RdG (.int .i64 I) F C W))
 have E10:=Hd fH;subst hN;have HL2:=Hd eN;have HE0:=Hd he;clear z9 he Z hN4 fH eN X;go_in;go_wp2_with (first|(apply Gl 185 3;refine yW (Φ:=FB (enK 0 nm) enN l e w) (HX.o _ Af) fun W1 HY=>?_;clear m0;apply yK HY.o.b1)|(go_at_call 224;apply (HR _).mono;rintro x z ⟨A,c,rfl,ho,q⟩;have HO:=Hd ho;have M:=Hd (HY.o.next q);clear ho q)|(apply Gt 185 7;go_must (apply yV (Blk.new z _ _) (Ua _ _);obtain ⟨g,hA,hg,hc,q,aB⟩:=ra HO.o Ac hl;subst hA;refine Wg (Φ:=FlS nm l e g z.1.size L l1 e1 w) ⟨M.o.keep (Xq ((Bf _ _).alloc M.o.sz _) M.o.sz _),fun k hk=>(WO ((QE _ _ _ _ (KF hg)).trans (YQ _ _ _ hg))).trans (aB k hk),QR _ _ _ _ _ _ (Blk.new z _ _),M.o.sz,As⟩ ?_;intro V h2;have H:=Hd h2;clear h2 q aB)))
 obtain ⟨D,hD⟩:∃ D,D=(⟨L.getD 0 0,L.getD 1 0,L.getD 2 0,L.getD 3 0,L.getD 4 0,L.getD 5 0,L.getD 6 0,L.getD 7 0,L.getD 8 0,L.getD 9 0,L.getD 10 0,L.getD 11 0,L.getD 12 0,L.getD 13 0,false,0,⟨#[]⟩,⟨#[]⟩,0,0,false⟩:DSet):=⟨_,rfl⟩
 have HD:=Hd hD;refine Rw (S:=fun W=>∀ k,k<14->W.cell? ⟨g,k,none⟩=some (.int .i64 (L.getD k 0))) Ak H.o.c (fun i=>?_)
 iterate 2 apply tB i
 apply tC 2 (fun _ r=>r 0 Ac) i
 iterate 2 apply tB i
 apply tC 5 (fun _ r=>r 1 Ac) i
 iterate 2 apply tB i
 apply tC 8 (fun _ r=>r 2 Ac) i
 iterate 2 apply tB i
 apply tC 11 (fun _ r=>r 3 Ac) i
 iterate 2 apply tB i
 apply tC 14 (fun _ r=>r 4 Ac) i
 iterate 2 apply tB i
 apply tC 17 (fun _ r=>r 5 Ac) i
 iterate 2 apply tB i
 apply tC 20 (fun _ r=>r 6 Ac) i
 iterate 2 apply tB i
 apply tC 23 (fun _ r=>r 7 Ac) i
 iterate 2 apply tB i
 apply tC 26 (fun _ r=>r 8 Ac) i
 iterate 2 apply tB i
 apply tC 29 (fun _ r=>r 9 Ac) i
 iterate 2 apply tB i
 apply tC 32 (fun _ r=>r 10 Ac) i
 iterate 2 apply tB i
 apply tC 35 (fun _ r=>r 11 Ac) i
 iterate 2 apply tB i
 apply tC 38 (fun _ r=>r 12 Ac) i
 iterate 2 apply tB i
 apply tC 41 (fun _ r=>r 13 Ac) i;refine tk 42 (.agg (dC D).toArray) i ?_ (y:=WL ⟨Af,fun W r=>by rw [hD];kernel_rfl⟩);clear hD;apply Aq [43];refine Rc (fun K hK=>?_) An;go_simp;refine hK.out _ _ (fun k hk=>(WO (YQ _ _ _ H.o.hg)).trans (H.o.c k hk)) (fun i=>?_);clear hK K;try simp only [Act.put,Sv,Sz,Sw]
 refine ts 44 (dC D).toArray (Blk.new _ _ _) (Xc D) (fun k hk=>(WO (QE _ _ _ _ (KF H.o.hg))).trans (i k hk)) ?_;simp only [Act.put];refine Ad Ak ?_ _;apply WgQ (Φ:=FD nm l e z.1.size V.1.size D l1 e1 w)
 .exact ⟨H.o.x.keep (Xq (((Bf _ _).alloc H.o.x.sz _).drew) H.o.x.sz _),(QE _ _ _ _ (KF H.o.r.lt)).trans ((YQ _ _ _ H.o.r.lt).trans H.o.r),QR _ _ _ _ _ _ (Blk.new V _ _),H.o.hm,H.o.r.lt⟩
 intro W3 hW3;have d:=Hd hW3;clear i hW3;clear H HO HY M HX HR hg hc;simp only [Exit.then];rename_i hK;apply hK _ _;clear hK;refine fS z.1.size V.1.size 14 d.o.r (H1.o _) (fFd d.o) (ZB d.o.hn) (fun W5 q=>?_);refine fWd d.o q 14 { D with uniq:=q1 } rfl fun W3 D1 d HD1=>?_
 clear q;refine fS z.1.size V.1.size 15 d.o.r (H2.o _) (fFd d.o) (ZB d.o.hn) (fun W5 q=>?_);refine fWd d.o q 15 { D1 with cls:=q2 } rfl fun W3 D2 d bH=>?_
 clear q;refine fS z.1.size V.1.size 16 d.o.r (H3.o _) (fFd d.o) (ZB d.o.hn) (fun W5 q=>?_);refine fWd d.o q 16 { D2 with vol:=q3 } rfl fun W3 D3 d HD3=>?_
 clear q;refine fS z.1.size V.1.size 17 d.o.r (H4.o _) (fFd d.o) (ZB d.o.hn) (fun W5 q=>?_);refine fWd d.o q 17 { D3 with own:=q4 } rfl fun W3 D4 d HD4=>?_
 clear q;refine fS z.1.size V.1.size 18 d.o.r (H5.o _) (fFd d.o) (ZB d.o.hn) (fun W5 q=>?_);refine fWd d.o q 18 { D4 with cre:=q5 } rfl fun W3 D5 d HD5=>?_
 clear q;refine fS z.1.size V.1.size 19 d.o.r (H6.o _) (fFd d.o) (ZB d.o.hn) (fun W5 q=>?_);refine fWd d.o q 19 { D5 with exp:=q6 } rfl fun W3 D6 d HD6=>?_
 clear q;refine fS z.1.size V.1.size 20 d.o.r (H7.o _) (fFd d.o) (ZB d.o.hn) (fun W5 q=>?_);refine fWd d.o q 20 { D6 with arch:=q7 } rfl fun W3 G d HD7=>?_
 clear q;clear H1 H2 H3 H4 H5 H6 H7
 go_wp2_with (first|(with_reducible apply yL 185 7 d.o.r)|(with_reducible refine yL 185 7 d.o.f.r ?_)|(go_at_call 174;refine yT (H8.o _) d.o.next fun w6 d=>?_)|(with_reducible refine yS 185 7 d.o.r (Ua _ _) ?_;refine yW (Φ:=FD nm l e z.1.size V.1.size G T U w) (d.o.put T U) fun W6 d=>?_)|(with_reducible refine yL 34 8 d.o.d ?_)|(refine Gt 34 113 ?_;go_must (refine JO rfl 34 _ _ rfl w.1.size 2 (dC G).toArray rfl rfl (fun j hj=>zx d.o.x.b0 j hj) Ak (Xc G) ?_;refine yW (Φ:=FE (⟨0,nm,G,[],0,0,0,false,⟨#[]⟩,⟨#[]⟩,0,0,[]⟩) enN l e z.1.size T U w) d.o.fill fun W7 d=>?_))|(go_at_call 224;refine (bZ.o _).mono ?_;rintro x w8 ⟨u,c2,rfl,bL,q⟩;have d:Aw (FF (⟨0,nm,G,[],0,0,0,false,⟨#[]⟩,⟨#[]⟩,0,0,[]⟩) (enN) l e z.1.size T U (W7.1.size+2) u c2 s w w8):=Hd ⟨d.o.next q,bL,by have:=d.o.x.sz;omega,by have:=d.o.r.lt;omega⟩;clear bL q)|(refine Gt 67 120 ?_;go_must (refine Eg Af (Uz rfl w.1.size 23 (.slice u s.length c2) _ rfl rfl (d.o.f.x.gt 23 _ rfl) (d.o.f.x.b0.free 23) rfl Ak) ?_;refine yW (Φ:=FF (⟨0,nm,G,s,0,0,0,false,⟨#[]⟩,⟨#[]⟩,0,0,[]⟩) (⟨u,c2,none,0⟩) l e z.1.size T U (W7.1.size+2) u c2 s w) (d.o.set 23 _ rfl) fun W9 d=>?_))|(with_reducible refine yS 185 7 d.o.f.r (Ua _ _) ?_;refine yW (Φ:=FF (⟨0,nm,G,s,0,0,0,false,⟨#[]⟩,⟨#[]⟩,0,0,[]⟩) (⟨u,c2,none,0⟩) l e z.1.size J O (W7.1.size+2) u c2 s w) (d.o.put J O) fun W10 d=>?_)|(go_at_call 226;refine yT (H10.o _) d.o.next fun w11 d=>?_)|(refine Gt 3 126 ?_;go_must (refine Eg Af (Uz rfl w.1.size 24 (.int .i64 I) _ rfl rfl (d.o.f.x.gt 24 _ rfl) (d.o.f.x.b0.free 24) rfl Ak) ?_;refine yW (Φ:=FF (⟨0,nm,G,s,I,0,0,false,⟨#[]⟩,⟨#[]⟩,0,0,[]⟩) (⟨u,c2,none,0⟩) l e z.1.size J O (W7.1.size+2) u c2 s w) (d.o.set 24 _ rfl) fun W12 d=>?_))|(with_reducible refine yS 185 7 d.o.f.r (Ua _ _) ?_;refine yW (Φ:=FF (⟨0,nm,G,s,I,0,0,false,⟨#[]⟩,⟨#[]⟩,0,0,[]⟩) (⟨u,c2,none,0⟩) l e z.1.size F C (W7.1.size+2) u c2 s w) (d.o.put F C) fun W13 d=>?_))
 clear H8 bZ H10;have HG:=Hd (show Blk _ w.1.size 144 (enC ⟨0,nm,G,s,I,0,0,false,⟨#[]⟩,⟨#[]⟩,0,0,[]⟩ ⟨u,c2,none,0⟩).toArray/\Blk _ z.1.size 185 (rdV F C) from ⟨d.o.f.x.b0,d.o.f.r⟩);refine Rw (S:=fun W=>Blk W w.1.size 144 (enC ⟨0,nm,G,s,I,0,0,false,⟨#[]⟩,⟨#[]⟩,0,0,[]⟩ ⟨u,c2,none,0⟩).toArray/\Blk W z.1.size 185 (rdV F C)) Ak HG.o (fun i=>?_);obtain ⟨Y,ho,aH⟩:=d.o.f.x.b2;apply tr (cs:=enC ⟨0,nm,G,s,I,0,0,false,⟨#[]⟩,⟨#[]⟩,0,0,[]⟩ ⟨u,c2,none,0⟩) 0 (fun W h=>h.1) i underlying144;apply tr (cs:=[.string F,.int .i64 C]) 1 (fun W h=>h.2) i underlying185;refine ts 2 (enC ⟨0,nm,G,s,I,0,0,false,⟨#[]⟩,⟨#[]⟩,0,0,[]⟩ ⟨u,c2,none,0⟩).toArray aH (Um _ _) ⟨(QE _ _ _ _ Oo).trans i.1,(QE _ _ _ _ (by have:=d.o.f.hm;omega)).trans i.2⟩ ?_ (hold:=ho);simp only [Act.put]
 refine ts 3 (rdV F C) ((QE _ _ _ _ Oo).trans d.o.f.x.b3) (Ua _ _) ⟨(QE _ _ _ _ Oo).trans ((QE _ _ _ _ Oo).trans i.1),(QE _ _ _ _ (by have:=d.o.f.hm;omega)).trans ((QE _ _ _ _ (by have:=d.o.f.hm;omega)).trans i.2)⟩ ?_;simp only [Act.put];refine Ad Ak ?_ _;refine WgQ (Φ:=fun W=>FZ' ⟨0,nm,G,s,I,0,0,false,⟨#[]⟩,⟨#[]⟩,0,0,[]⟩ ⟨u,c2,none,0⟩ F C w W/\W.ownsRow (W7.1.size+2) 3 1 (.slice u s.length c2) s.length (s.map (Value.int .i64))) ⟨⟨(QE _ _ _ _ Oo).trans (QR _ _ _ _ _ _ aH),QR _ _ _ _ _ _ ((QE _ _ _ _ Oo).trans d.o.f.x.b3),Xq (Xq d.o.f.x.be.drew Oo _) Oo _⟩,?_⟩ (fun WZ hZ=>?_)
 .have h1:=Y3 d.o.o.drew (Yy d.o.o.drew (g:=w.1.size+2) (.inl (by have:=d.o.hB;omega))) (enC (⟨0,nm,G,s,I,0,0,false,⟨#[]⟩,⟨#[]⟩,0,0,[]⟩) ⟨u,c2,none,0⟩).toArray;exact Y3 h1 (Yy h1 (g:=w.1.size+3) (.inl (by have:=d.o.hB;omega))) _
 clear i aH ho HG;go_wp2;apply Br (P4 results176 rfl rfl (Ux _ _ _ hZ.1.b2 rfl) (El _ _ _ hZ.1.b3 rfl)) rfl
 have hq:Ia 0 nm l=(⟨0,nm,G,s,I,0,0,false,⟨#[]⟩,⟨#[]⟩,0,0,[]⟩,F,C):=by
  have he:=HE0.o;subst he;unfold Ia;simp only [hR,E1.o,E2.o,E3.o,E4.o,BI,E5.o,E6.o,E7.o,E8.o,XO,h9,E10.o,List.getD_cons_zero,List.getD_cons_succ];rw [HD7.o,HD6.o,HD5.o,HD4.o,HD3.o,bH.o,HD1.o,HD.o]
 rw [hq];refine ⟨⟨u,c2,none,0⟩,rfl,⟨⟨Sl.of_own (f:=Xg) (k:=1) (fun _=>rfl) Ac (by have:=hZ.2;rwa [<-Mj] at this),Sl.nil,fun _ _ _ h=>(QM h).elim,fun _ _ _ h=>(QM h).elim⟩,fun p hp _=>U9 hZ.2 (by have:=d.o.hB;omega) p.block (by rw [show u=some p from hp];rfl),fun _ _ h=>absurd h (KD _)⟩,.k0 nm G s I u c2,hZ.1.be⟩
end
end Go.Proofs.YtdleakjejodjjaaGreatDoor
