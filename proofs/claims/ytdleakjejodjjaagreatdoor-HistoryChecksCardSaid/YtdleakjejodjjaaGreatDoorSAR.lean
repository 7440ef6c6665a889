/- Of the history laws. -/
import Derived.Test.YtdleakjejodjjaaGreatDoorSAO
import Derived.Test.YtdleakjejodjjaaGreatDoorSAN
import Derived.Test.YtdleakjejodjjaaGreatDoorSAL
namespace Go.Proofs.YtdleakjejodjjaaGreatDoor
open Tryz
set_option linter.defProp false
set_option linter.unusedVariables false
set_option linter.unusedSimpArgs false
set_option maxRecDepth 100000
set_option maxHeartbeats 20000000
open Go.RowKit
section
variable {l:List Int} {cs:Array Value} {W2:Wd} {h n:Nat} {W:Wd} {c r g:Nat} {w:Wd} {er:Int}
def enK (k:Int) (a:Bz):En:=⟨k,a,dZ,[],0,0,0,false,⟨#[]⟩,⟨#[]⟩,0,0,[]⟩
def Et (k:Int) (e a:Bz):En×Bz×Int:=
 let p:=Uj 14 a 0;let t:=Uy p.2.1 p.2.2;let c:=Ur t.2.1 t.2.2;let v:=U8 c.2.1 c.2.2 200;let o:=U8 v.2.1 v.2.2 200;let q:=Uj 2 o.2.1 o.2.2;let b:=Uy q.2.1 q.2.2;let n:=Ur b.2.1 b.2.2;let d:=Uj (Z3 n.1 4).toNat n.2.1 n.2.2;let u:=Ur d.2.1 d.2.2
 (⟨k,e,⟨p.1.getD 0 0,p.1.getD 1 0,p.1.getD 2 0,p.1.getD 3 0,p.1.getD 4 0,p.1.getD 5 0,p.1.getD 6 0,p.1.getD 7 0,p.1.getD 8 0,p.1.getD 9 0,p.1.getD 10 0,p.1.getD 11 0,p.1.getD 12 0,p.1.getD 13 0,t.1,c.1,v.1,o.1,q.1.getD 0 0,q.1.getD 1 0,b.1⟩,d.1,u.1,0,0,false,⟨#[]⟩,⟨#[]⟩,0,0,[]⟩,u.2)
structure DrI (c r g:Nat) (w W:Wd) (cs:Array Value) (l:Bz) (er:Int):Prop where
 cr:Cr W c r
 rd:Rdr W r l er
 bg:Blk W g 144 cs
 fa:Far [r,g] w W
 n1:r≠g
 n2:c≠r
 n3:c≠g
 sz:l.size<=1000000
section
variable {c r g:Nat} {w W:Wd} {cs:Array Value} {l:Bz} {er:Int}
def DrI.step (h:DrI c r g w W cs l er) {W2:Wd} {a:Array Value} {d:Bz} {b:Int} (j:Rdr W2 r d b) (i:Blk W2 g 144 a) (e:Far [r,g] W W2) (f:d.size<=l.size):DrI c r g w W2 a d b:=
 ⟨Blk.far' h.cr e (by simp only [QH,QM,XP,not_or];exact ⟨h.n2,h.n3⟩),j,i,h.fa.trans e,h.n1,h.n2,h.n3,Lx f h.sz⟩
def DrI.keep (h:DrI c r g w W cs l er) {W2:Wd} (a:Below W.1.size W W2):DrI c r g w W2 cs l er:=
 h.step (Blk.below h.rd a (Blk.lt h.rd)) (h.bg.below a h.bg.lt) (Far.of_below a) (Le _)
def DrI.alloc (h:DrI c r g w W cs l er) (o:Obj):DrI c r g w (W.alloc o) cs l er:=h.keep ((Bf _ _).alloc (Le _) o)
def DrI.drew (h:DrI c r g w W cs l er):DrI c r g w W.drew cs l er:=h.keep (Bf _ _).drew
def DrI.lt (h:DrI c r g w W cs l er):c<W.1.size/\r<W.1.size/\g<W.1.size:=⟨Blk.lt h.cr,Blk.lt h.rd,h.bg.lt⟩
def DrI.left (h:DrI c r g w W cs l er):l.size<=maxLen:=by have:=h.sz;unfold maxLen;omega
def DrI.rr (h:DrI c r g w W cs l er) {W2:Wd} {b:Bz} {a:Int} (d:RrP W r b a W2) (e:b.size<=l.size):DrI c r g w W2 cs b a:=
 h.step d.1 (h.bg.far' d.2 (by simpa using h.n1.symm)) (d.2.mono Am) e
end
def Xn (l:Bz) (e:Int):(Uy l e).2.1.size<=l.size:=by
 unfold Uy;split
 .split
  .exact Z0 _
  .simp
 .exact Le _
def EA (l:Bz) (e:Int):(U8 l e 200).1.size<=200:=by
 unfold U8;split
 .rename_i h;split
  .exact Z0 _
  .have h2:=F7 l e 200 Ac h;simp;omega
 .exact Z0 _
def pw (h:l.length=2):∃ a b,l=[a,b]:=by
 match l,h with
 | [a,b],_=>exact ⟨a,b,rfl⟩
def ni (h:l.length=14):∃ j k m q f s t o i p e a b d,l=[j,k,m,q,f,s,t,o,i,p,e,a,b,d]:=by
 match l,h with
 | [j,k,m,q,f,s,t,o,i,p,e,a,b,d],_=>exact ⟨_,_,_,_,_,_,_,_,_,_,_,_,_,_,rfl⟩
def pq (cs:Array Value) (o:Nat):Bool:=match cs[o]? with|some (.int .i64 _)=>true|_=>false
def Pn {b:List Nat} (h:b.all (pq cs)=true):∀ (j o:Nat),b[j]? =some o->∃ m:Int,cs[o]? =some (.int .i64 m):=by
 intro j o d;have a:=WE.1 h o (QJ d);unfold pq at a;split at a
 .rename_i m hm;exact ⟨m,hm⟩
 .cases a
def rL:(prog.info? 3).map (fun i=>(i.zero,i.size,i.bytes))=some (some (.int .i64 0),1,8):=Ak
def xS (n i:Nat) (h:i<n):(madeCells #[.int .i64 0] n)[i]? =some (.int .i64 0):=by
 unfold madeCells;rw [UA,UG];simp [h];rw [Nat.mod_one];rfl
def NumB (W:Wd) (h n:Nat) (l:List Int):Prop:=∃ cs:Array Value,Blk W h 3 cs/\cs.size=n/\(∀ t,t<n->∃ m:Int,cs[t]? =some (.int .i64 m))/\∀ (t:Nat) (x:Int),l[t]? =some x->cs[t]? =some (.int .i64 x)
def NumB.snoc {x:Int} (hz:cs.size=n) (b:∀ t,t<n->∃ m:Int,cs[t]? =some (.int .i64 m)) (a:∀ (t:Nat) (x:Int),l[t]? =some x->cs[t]? =some (.int .i64 x))
  (i:l.length<n) (f:Blk W2 h 3 (cs.setIfInBounds l.length (.int .i64 x))):NumB W2 h n (l++[x]):=by
 refine ⟨_,f,by simp [hz],fun t d=>?_,fun t y hy=>?_⟩
 .by_cases e:l.length=t
  .subst e;exact ⟨x,XR Oo⟩
  .obtain ⟨m,hm⟩:=b t d;exact ⟨m,by rw [QD e];exact hm⟩
 .by_cases e:l.length=t
  .subst e;rw [XR Oo];simp at hy;rw [hy]
  .rw [QD e];apply a t y;rw [JY] at hy;split at hy
   .exact hy
   .rename_i hnl;have:t-l.length≠0:=Oo
    rw [WM As] at hy;cases hy
def NumB.sl (p:NumB W h n l) (e:l.length=n):Sl Xg 1 W W.1.size (Ah h 0) n n l:=by
 obtain ⟨cs,i,_,_,o⟩:=p;refine ⟨Le _,e,by rw [Vm (k:=1) (fun _=>rfl),e],fun _=>⟨h,0,rfl,i.lt,fun j u a=>?_⟩⟩;rw [QB,i.cell]
 have d:j<l.length:=by
  have:=(QZ.1 a).1
  rwa [Vm (k:=1) (fun _=>rfl),WY] at this
 have m:=Er (f:=Xg) (k:=1) (fun _=>rfl) l j l[j] (QV d) 0 Ac;rw [WY,QF] at m;rw [m] at a;have b:u=.int .i64 l[j]:=by injection a with a;exact a.symm
 rw [b];exact o j _ (QV d)
def DrI.stepH {l b:Bz} {a:Int} (k:DrI c r g w W cs l er) (j:Rdr W2 r b a) (d:Far [r,h] W W2) (m:h≠g) (o:h≠c) (hn:w.1.size<=h) (f:b.size<=l.size):DrI c r g w W2 cs b a:=
 ⟨Blk.far' k.cr d (by simp only [QH,QM,XP,not_or];exact ⟨k.n2,o.symm⟩),j,k.bg.far' d (by simp only [QH,QM,XP,not_or];exact ⟨k.n1.symm,m.symm⟩),k.fa.next d (by intro i e;simp only [QH,QM,XP] at e;rcases e with rfl|rfl;exact .inl Am;exact .inr hn),k.n1,k.n2,k.n3,Lx f k.sz⟩
def DrI.store {l:Bz} (k:DrI c r g w W cs l er) (i:Nat) (v:Value):DrI c r g w (W.setCell ⟨g,i,none⟩ v) (cs.setIfInBounds i v) l er:=
 k.step (Blk.far k.rd k.n1 v) (k.bg.set i v) ((Far.refl _ _).set _ _ _ (.inl Am)) (Le _)
def Ob (n:Nat) (hn:n<=1000) (W:Wd):(Instr.makeSlice 67 (.int .i64 n) (.int .i64 n)).run prog W=.ok (.slice (Ah W.1.size 0) n n) (Aa W (madeCells #[.int .i64 0] n) 3):=by
 obtain ⟨b,f,i,e,d⟩:=WG rL;have a:=run_make (P:=prog) (w:=W) 67 3 b _ underlying67 f i .i64 .i64 (n:Int) (n:Int) Oo (XI _) (by rw [d];omega) Oo;rw [e] at a;simp only [XO,WY] at a;exact a
def xI (W:Wd) (n:Nat):NumB (Aa W (madeCells #[.int .i64 0] n) 3) W.1.size n []:=
 ⟨_,Blk.new W _ _,by simp [madeCells],fun t a=>⟨0,xS n t a⟩,fun t x h=>by simp at h⟩
structure EWn (n:Nat) (w:Wd) (e:En) (a:EnA):Prop where
 sa:Sl Xg 1 w w.1.size a.aA e.alts.length a.aC e.alts
 sg:Sl grC 3 w w.1.size a.gA e.grants.length a.gC e.grants
 na:∀ p,a.aA=some p->0<e.alts.length->n<=p.block
 ng:∀ p,a.gA=some p->0<e.grants.length->n<=p.block
def EWn.ew {S:List Nat} {e:En} {a:EnA} (h:EWn n w e a) (i:∀ k∈S,k<n):EW S w e a:=
 ⟨h.sa,h.sg,fun p b f d=>by have:=h.na p b f;have:=i _ d;omega,fun p b f d=>by have:=h.ng p b f;have:=i _ d;omega⟩
def DrP (b r g:Nat) (R:En×Bz×Int) (w:Wd) (x:Ending) (w':Wd):Prop:=x=.returned (.tuple #[])/\∃ a:EnA,Rdr w' r R.2.1 R.2.2/\Blk w' g 144 (enC R.1 a).toArray/\EWn w.1.size w' R.1 a/\Far [r,g] w w'
def jH (e:En) (a:EnA) (s q o m t u p x k v f i j b:Int):Z7 (enC e a).toArray [2,3,4,5,6,7,8,9,10,11,12,13,14,15] [s,q,o,m,t,u,p,x,k,v,f,i,j,b]=(enC { e with d:={ e.d with id:=s,org:=q,fmt:=o,len:=m,blk:=t,kat:=u,kln:=p,itv:=x,area:=k,fi:=v,fa:=f,base:=i,aat:=j,aln:=b } } a).toArray:=by simp [Z7,enC]
def jC (e:En) (a:EnA) (f b:Int):Z7 (enC e a).toArray [20,21] [f,b]=(enC { e with d:={ e.d with cre:=f,exp:=b } } a).toArray:=by simp [Z7,enC]
def jG (e:En) (a:EnA) (x:Bool):(enC e a).toArray.setIfInBounds 16 (.bool x)=(enC { e with d:={ e.d with uniq:=x } } a).toArray:=by simp [enC]
def jF (e:En) (a:EnA) (x:Int):(enC e a).toArray.setIfInBounds 17 (.int .i64 x)=(enC { e with d:={ e.d with cls:=x } } a).toArray:=by simp [enC]
def jE (e:En) (a:EnA) (x:Bz):(enC e a).toArray.setIfInBounds 18 (.string x)=(enC { e with d:={ e.d with vol:=x } } a).toArray:=by simp [enC]
def jD (e:En) (a:EnA) (x:Bz):(enC e a).toArray.setIfInBounds 19 (.string x)=(enC { e with d:={ e.d with own:=x } } a).toArray:=by simp [enC]
def kK (e:En) (a:EnA) (x:Bool):(enC e a).toArray.setIfInBounds 22 (.bool x)=(enC { e with d:={ e.d with arch:=x } } a).toArray:=by simp [enC]
def kJ (e:En) (a:EnA) (x:Int):(enC e a).toArray.setIfInBounds 24 (.int .i64 x)=(enC { e with used:=x } a).toArray:=by simp [enC]
def jB (e:En) (a:EnA) (h n:Nat) (b:List Int) (d:b.length=n):(enC e a).toArray.setIfInBounds 23 (.slice (Ah h 0) n n)=(enC { e with alts:=b } ⟨some ⟨h,0,none⟩,n,a.gA,a.gC⟩).toArray:=by subst d;simp [enC]
abbrev sJ (w:Wd) (g) (n_):=w.alloc (.cells #[.pointer (some ⟨g,2,n_⟩),.pointer (some ⟨g,3,n_⟩),.pointer (some ⟨g,4,n_⟩),.pointer (some ⟨g,5,n_⟩),.pointer (some ⟨g,6,n_⟩),.pointer (some ⟨g,7,n_⟩),.pointer (some ⟨g,8,n_⟩),.pointer (some ⟨g,9,n_⟩),.pointer (some ⟨g,10,n_⟩),.pointer (some ⟨g,11,n_⟩),.pointer (some ⟨g,12,n_⟩),.pointer (some ⟨g,13,n_⟩),.pointer (some ⟨g,14,n_⟩),.pointer (some ⟨g,15,n_⟩)] 208)
abbrev oP (k) (nm) (f_):=enC (⟨k,nm,⟨0,0,0,0,0,0,0,0,0,0,0,0,0,0,f_,0,⟨#[]⟩,⟨#[]⟩,0,0,f_⟩,[],0,0,0,f_,⟨#[]⟩,⟨#[]⟩,0,0,[]⟩:En) enN
abbrev sI (a:Wd) (g) (n_):=a.drew.alloc (.cells #[.pointer (some ⟨g,20,n_⟩),.pointer (some ⟨g,21,n_⟩)] 208)
def mh (c r g:Nat) (k:Int) (z o:Bz) (w:Wd) (hc:Cr w c r) (hr:Rdr w r o 0) (hg:Blk w g 144 (enC (enK k z) enN).toArray) (hs:o.size<=1000000) (n1:r≠g) (n2:c≠r) (n3:c≠g):
  Calls prog 254 #[Ag c 0,Ag g 0] w (DrP c r g (Et k z o) w):=by
 have cK:DrI c r g w w (oP k z false).toArray o 0:=⟨hc,hr,hg,Far.refl _ _,n1,n2,n3,hs⟩
 have iB:=cK.lt;clear hc hr hg hs;have q1:=X0 14 o 0;have s1':=Zc 14 o 0;obtain ⟨p,B⟩:=yG (Uj 14 o 0);rw [B] at q1 s1';obtain ⟨pl,l1,r1⟩:=p;obtain ⟨I,G,Q,L,N,R,M,H,J,P,t,s,u,q,rfl⟩:=ni q1;have z2:=Xn l1 r1;obtain ⟨p2,ht⟩:∃ p,Uy l1 r1=p:=⟨_,rfl⟩
 rw [ht] at z2;obtain ⟨T,l2,r2⟩:=p2;have z3:=Y7 l2 r2;obtain ⟨p3,hcl⟩:∃ p,Ur l2 r2=p:=⟨_,rfl⟩
 rw [hcl] at z3;obtain ⟨v,l3,r3⟩:=p3;have z4:=(Vf l3 r3 200).2;obtain ⟨p4,hv⟩:∃ p,U8 l3 r3 200=p:=⟨_,rfl⟩
 rw [hv] at z4;obtain ⟨X,l4,r4⟩:=p4;have z5:=(Vf l4 r4 200).2;obtain ⟨p5,ho⟩:∃ p,U8 l4 r4 200=p:=⟨_,rfl⟩
 rw [ho] at z5;obtain ⟨Z,l5,r5⟩:=p5;have q6:=X0 2 l5 r5;have z6:=Zc 2 l5 r5;obtain ⟨p6,hq⟩:∃ p,Uj 2 l5 r5=p:=⟨_,rfl⟩
 rw [hq] at z6;obtain ⟨ql,l6,r6⟩:=p6;rw [hq] at q6;obtain ⟨D,E,rfl⟩:=pw q6;have z7:=Xn l6 r6;obtain ⟨p7,F⟩:∃ p,Uy l6 r6=p:=⟨_,rfl⟩
 rw [F] at z7;obtain ⟨b2,l7,r7⟩:=p7;have nn:=Vz l7 r7;have z8:=Y7 l7 r7;obtain ⟨p8,hn⟩:∃ p,Ur l7 r7=p:=⟨_,rfl⟩
 rw [hn] at z8;obtain ⟨v17,A,C⟩:=p8;rw [hn] at nn;obtain ⟨n,fB⟩:∃ n:Nat,Z3 v17 4=n:=⟨(Z3 v17 4).toNat,by unfold Z3;simp only at nn;split<;>omega⟩
 have hn5:n<=5:=by have:Z3 v17 4<=5:=(by unfold Z3;split<;>omega);omega
 have q9:=X0 n A C;have z9:=Zc n A C;obtain ⟨p9,bP⟩:∃ p,Uj n A C=p:=⟨_,rfl⟩
 rw [bP] at z9;obtain ⟨al,l9,r9⟩:=p9;rw [bP] at q9;have z10:=Y7 l9 r9;obtain ⟨p10,hu⟩:∃ p,Ur l9 r9=p:=⟨_,rfl⟩
 rw [hu] at z10;obtain ⟨v18,l10,r10⟩:=p10
 have hR:Et k z o=((⟨k,z,⟨I,G,Q,L,N,R,M,H,J,P,t,s,u,q,T,v,X,Z,D,E,b2⟩,al,v18,0,0,false,⟨#[]⟩,⟨#[]⟩,0,0,[]⟩:En),l10,r10):=by
  have hct:(Z3 v17 4).toNat=n:=by rw [fB];rfl
  unfold Et;simp only [B,ht,hcl,hv,ho,hq,F,hn,hct,bP,hu];rfl
 rw [hR];have U:=And.intro s1' (And.intro z2 (And.intro z3 (And.intro z4 (And.intro z5 (And.intro z6 (And.intro z7 (And.intro z8 (And.intro z9 z10))))))));have O:=And.intro B (And.intro ht (And.intro hcl (And.intro hv (And.intro ho (And.intro hq (And.intro F (And.intro hn (And.intro bP hu))))))));have wJ:=Hd fB;clear hR q1 s1' z2 z3 z4 z5 z6 z7 z8 z9 z10 q6 B ht hcl hv ho hq F hn bP hu nn fB;have bY:Aw (DrI c r g w (sJ w g none).drew (oP k z false).toArray o 0):=Hd (cK.alloc _).drew;have dJ:w.1.size≠r:=by have:=iB.2.1;omega
 have cR:w.1.size≠g:=by have:=iB.2.2;omega
 have HPT:Aw (Blk (sJ w g none).drew w.1.size 208 (RC g [2,3,4,5,6,7,8,9,10,11,12,13,14,15])):=Hd (Blk.new w _ _).drew;have HCN1:Aw (Calls prog 258 #[Ag c 0,.slice (Ah w.1.size 0) 14 14] ((sJ w g none).drew) fun x w'=>x=.returned (.tuple #[])/\Rdr w' r l1 r1/\Blk w' g 144 (enC (⟨k,z,⟨I,G,Q,L,N,R,M,H,J,P,t,s,u,q,false,0,⟨#[]⟩,⟨#[]⟩,0,0,false⟩,[],0,0,0,false,⟨#[]⟩,⟨#[]⟩,0,0,[]⟩:En) enN).toArray/\Far [r,g] ((sJ w g none).drew) w'):=Hd (by have h:=PQ c r g w.1.size 14 14 144 [2,3,4,5,6,7,8,9,10,11,12,13,14,15] (oP k z false).toArray o 0 _ bY.o.left bY.o.cr bY.o.rd bY.o.bg Ac rfl (Ea HPT.o) (Pn Af) n1 dJ cR n2 n3;rw [O.1] at h;rw [jH] at h;exact h);clear dJ cR;go_in;go_wp2_with fail
 refine Rw (S:=fun _=>True) Ak trivial (fun Hh=>?_)
 iterate 43 refine tB Hh ?_
 refine Aq [43] ?_;refine Rc (fun K Y=>?_) ?_
 .go_simp;refine Y.out _ _ trivial (fun Hh=>?_);clear Y K;try simp only [Act.put,Sv,Sz,Sw]
  refine Aq [44] ?_;refine Rc (fun K Y=>?_) ?_
  .go_simp;refine HCN1.o.mono ?_;rintro x w1 ⟨rfl,d,b,f⟩;simp only [];have a:=Hd (bY.o.step d b f U.1);clear d b f;refine Y.out _ _ trivial (fun Hh=>?_);clear Y K;try simp only [Act.put,Sv,Sz,Sw]
   refine Ad Ak ?_ _;clear Hh bY HPT HCN1
   go_wp2_with (first|(go_at_call 259;(with_reducible show Calls _ _ #[_,.pointer (some ⟨_,16,none⟩)] _ _);refine (Jk c r g 16 144 _ false l1 r1 _ a.o.left a.o.cr a.o.rd a.o.bg rfl a.o.n1).mono ?_;rintro x e ⟨rfl,d,b,f⟩;rw [O.2.1] at d b;rw [jG] at b;have a:Aw (DrI c r g w e (enC (⟨k,z,⟨I,G,Q,L,N,R,M,H,J,P,t,s,u,q,T,0,⟨#[]⟩,⟨#[]⟩,0,0,false⟩,[],0,0,0,false,⟨#[]⟩,⟨#[]⟩,0,0,[]⟩:En) enN).toArray l2 r2):=Hd (a.o.step d b f U.2.1);clear d b f)|(go_at_call 271;(with_reducible show Calls _ _ #[_,.pointer (some ⟨_,17,none⟩)] _ _);refine (ER c r g 17 144 _ 0 l2 r2 _ a.o.left a.o.cr a.o.rd a.o.bg rfl a.o.n1).mono ?_;rintro x e ⟨rfl,d,b,f⟩;rw [O.2.2.1] at d b;rw [jF] at b;have a:Aw (DrI c r g w e (enC (⟨k,z,⟨I,G,Q,L,N,R,M,H,J,P,t,s,u,q,T,v,⟨#[]⟩,⟨#[]⟩,0,0,false⟩,[],0,0,0,false,⟨#[]⟩,⟨#[]⟩,0,0,[]⟩:En) enN).toArray l3 r3):=Hd (a.o.step d b f U.2.2.1);clear d b f)|(go_at_call 260;(with_reducible show Calls _ _ #[_,.pointer (some ⟨_,18,none⟩)] _ _);refine (IE c r g 18 144 _ ⟨#[]⟩ l3 r3 _ a.o.left a.o.cr a.o.rd a.o.bg rfl a.o.n1).mono ?_;rintro x e ⟨rfl,d,b,f⟩;rw [O.2.2.2.1] at d b;rw [jE] at b;have a:Aw (DrI c r g w e (enC (⟨k,z,⟨I,G,Q,L,N,R,M,H,J,P,t,s,u,q,T,v,X,⟨#[]⟩,0,0,false⟩,[],0,0,0,false,⟨#[]⟩,⟨#[]⟩,0,0,[]⟩:En) enN).toArray l4 r4):=Hd (a.o.step d b f U.2.2.2.1);clear d b f)|(go_at_call 260;(with_reducible show Calls _ _ #[_,.pointer (some ⟨_,19,none⟩)] _ _);refine (IE c r g 19 144 _ ⟨#[]⟩ l4 r4 _ a.o.left a.o.cr a.o.rd a.o.bg rfl a.o.n1).mono ?_;rintro x e ⟨rfl,d,b,f⟩;rw [O.2.2.2.2.1] at d b;rw [jD] at b;have a:Aw (DrI c r g w e (enC (⟨k,z,⟨I,G,Q,L,N,R,M,H,J,P,t,s,u,q,T,v,X,Z,0,0,false⟩,[],0,0,0,false,⟨#[]⟩,⟨#[]⟩,0,0,[]⟩:En) enN).toArray l5 r5):=Hd (a.o.step d b f U.2.2.2.2.1);clear d b f))
   have bE:Aw (DrI c r g w (sI e g none) (enC (⟨k,z,⟨I,G,Q,L,N,R,M,H,J,P,t,s,u,q,T,v,X,Z,0,0,false⟩,[],0,0,0,false,⟨#[]⟩,⟨#[]⟩,0,0,[]⟩:En) enN).toArray l5 r5):=Hd (a.o.drew.alloc _);have HLT5:=Hd a.o.lt;have dJ:e.1.size≠r:=by have:=HLT5.o.2.1;omega
   have cR:e.1.size≠g:=by have:=HLT5.o.2.2;omega
   have HPT6:Aw (Blk (sI e g none) e.1.size 208 (RC g [20,21])):=Hd (Blk.new e.drew _ _);have HCN6:Aw (Calls prog 258 #[Ag c 0,.slice (Ah e.1.size 0) 2 2] (sI e g none) fun x w'=>x=.returned (.tuple #[])/\Rdr w' r l6 r6/\Blk w' g 144 (enC (⟨k,z,⟨I,G,Q,L,N,R,M,H,J,P,t,s,u,q,T,v,X,Z,D,E,false⟩,[],0,0,0,false,⟨#[]⟩,⟨#[]⟩,0,0,[]⟩:En) enN).toArray/\Far [r,g] (sI e g none) w'):=Hd (by have h:=PQ c r g e.1.size 2 2 144 [20,21] (enC (⟨k,z,⟨I,G,Q,L,N,R,M,H,J,P,t,s,u,q,T,v,X,Z,0,0,false⟩,[],0,0,0,false,⟨#[]⟩,⟨#[]⟩,0,0,[]⟩:En) enN).toArray l5 r5 _ bE.o.left bE.o.cr bE.o.rd bE.o.bg Ac rfl (Ea HPT6.o) (Pn Af) n1 dJ cR n2 n3;rw [O.2.2.2.2.2.1] at h;rw [jC] at h;exact h);clear dJ cR
   refine Rw (S:=fun _=>True) Ak trivial (fun Hh=>?_)
   iterate 7 apply tB Hh
   apply Aq [7];refine Rc (fun K Y=>?_) ?_
   .go_simp;refine Y.out _ _ trivial (fun Hh=>?_);clear Y K;try simp only [Act.put,Sv,Sz,Sw]
    apply Aq [8];refine Rc (fun K Y=>?_) ?_
    .go_simp;apply HCN6.o.mono;rintro x w1 ⟨rfl,d,b,f⟩;simp only [];have a:=Hd (bE.o.step d b f U.2.2.2.2.2.1);clear d b f;refine Y.out _ _ trivial (fun Hh=>?_);clear Y K;try simp only [Act.put,Sv,Sz,Sw]
     refine Ad Ak ?_ _;clear Hh bE HPT6 HCN6;by_cases h0:n=0
     .subst h0;have V:=O.2.2.2.2.2.2.2.2.1;obtain ⟨rfl,rfl,rfl⟩ : []=al/\A=l9/\C=r9:=by unfold Uj at V;injection V with d b;injection b with b f;exact ⟨d,b,f⟩
      clear V
      go_wp2_with (first|(go_at_call 259;(with_reducible show Calls _ _ #[_,.pointer (some ⟨_,22,none⟩)] _ _);apply (Jk c r g 22 144 _ false l6 r6 _ a.o.left a.o.cr a.o.rd a.o.bg rfl a.o.n1).mono;rintro x e ⟨rfl,d,b,f⟩;rw [O.2.2.2.2.2.2.1] at d b;rw [kK] at b;have a:Aw (DrI c r g w e (enC (⟨k,z,⟨I,G,Q,L,N,R,M,H,J,P,t,s,u,q,T,v,X,Z,D,E,b2⟩,[],0,0,0,false,⟨#[]⟩,⟨#[]⟩,0,0,[]⟩:En) enN).toArray l7 r7):=Hd (a.o.step d b f U.2.2.2.2.2.2.1);clear d b f;have y:=(a.o.bg.ce 23 (.slice none 0 0)))|(go_at_call 335;refine yP (G2 c r 0 4 l7 r7 _ a.o.left a.o.cr a.o.rd Ac Ac) fun e d=>?_;rw [O.2.2.2.2.2.2.2.1] at d ⊢;simp only at d ⊢;rw [wJ.o];have a:=Hd (a.o.rr d U.2.2.2.2.2.2.2.1);have c1:=a.o.cr.c1;clear y;have y:=a.o.bg.ce 23 (.slice none 0 0);clear d))
      apply Lu 1;rw [Rs];go_wp2_with (go_at_call 271;apply (ER c r g 24 144 _ 0 A C _ a.o.left a.o.cr a.o.rd a.o.bg rfl a.o.n1).mono;rintro x e ⟨rfl,d,b,f⟩;rw [O.2.2.2.2.2.2.2.2.2] at d b;rw [kJ] at b;have a:DrI c r g w e (enC (⟨k,z,⟨I,G,Q,L,N,R,M,H,J,P,t,s,u,q,T,v,X,Z,D,E,b2⟩,[],v18,0,0,false,⟨#[]⟩,⟨#[]⟩,0,0,[]⟩:En) enN).toArray l10 r10:=a.o.step d b f U.2.2.2.2.2.2.2.2.2;clear d b f)
      go_end0
      exact ⟨rfl,enN,a.rd,a.bg,⟨Sl.nil,Sl.nil,fun p B _=>(by cases B),fun p B _=>(by cases B)⟩,a.fa⟩
     .have hmk0:=Ob n Oo;have hpos:decide ((0:Int)<(n:Int))=true:=QQ Oo
      go_wp2_with (first|(go_at_call 259;(with_reducible show Calls _ _ #[_,.pointer (some ⟨_,22,none⟩)] _ _);apply (Jk c r g 22 144 _ false l6 r6 _ a.left a.cr a.rd a.bg rfl a.n1).mono;rintro x e ⟨rfl,d,b,f⟩;rw [O.2.2.2.2.2.2.1] at d b;rw [kK] at b;have a:Aw (DrI c r g w e (enC (⟨k,z,⟨I,G,Q,L,N,R,M,H,J,P,t,s,u,q,T,v,X,Z,D,E,b2⟩,[],0,0,0,false,⟨#[]⟩,⟨#[]⟩,0,0,[]⟩:En) enN).toArray l7 r7):=Hd (a.o.step d b f U.2.2.2.2.2.2.1);clear d b f;have y:=(a.o.bg.ce 23 (.slice none 0 0)))|(go_at_call 335;refine yP (G2 c r 0 4 l7 r7 _ a.o.left a.o.cr a.o.rd Ac Ac) fun e d=>?_;rw [O.2.2.2.2.2.2.2.1] at d ⊢;simp only at d ⊢;rw [wJ.o];have a:=Hd (a.o.rr d U.2.2.2.2.2.2.2.1);have c1:=a.o.cr.c1;clear y;have y:=a.o.bg.ce 23 (.slice none 0 0);clear d;have wI:=hmk0 e;have HXm:=Hd (a.o.alloc (.cells (madeCells #[.int .i64 0] n) 3));have d23:=HXm.o.bg.ce 23 (.slice none 0 0);have f23:=HXm.o.bg.free 23;have aQ:=Hd (HXm.o.store 23 (.slice (Ah e.1.size 0) n n));have e23:=(aQ.o.bg.ce 23 (.slice (Ah e.1.size 0) n n))))
      have hxq:=aQ.o;rw [jB _ _ _ n al q9] at hxq;have aZ:DrI c r g w ((Aa e (madeCells #[.int .i64 0] n) 3).setCell ⟨g,23,none⟩ (.slice (Ah e.1.size 0) n n)) (enC (⟨k,z,⟨I,G,Q,L,N,R,M,H,J,P,t,s,u,q,T,v,X,Z,D,E,b2⟩,al,0,0,0,false,⟨#[]⟩,⟨#[]⟩,0,0,[]⟩:En) ⟨some ⟨e.1.size,0,none⟩,n,none,0⟩).toArray A C:=hxq;have cE:e.1.size≠g:=by have:=a.o.lt.2.2;omega
      have dU:r≠e.1.size:=by have:=a.o.lt.2.1;omega
      have fN:e.1.size≠c:=by have:=a.o.lt.1;omega
      have cM:w.1.size<=e.1.size:=a.o.fa.size;have HNB:NumB ((Aa e (madeCells #[.int .i64 0] n) 3).setCell ⟨g,23,none⟩ (.slice (Ah e.1.size 0) n n)) e.1.size n []:=by obtain ⟨cs,d,b,f,h4⟩:=xI e n;exact ⟨cs,d.far cE _,b,f,h4⟩
      clear hxq c1 y d23 f23 e23 wI hmk0;clear aQ HXm a;obtain ⟨F,hhb⟩:=yG e.1.size;simp only [hhb] at cE dU fN cM HNB aZ ⊢;simp only [show decide (0<n)=true from QQ Oo];clear hpos;go_loopw [115] (fun i wr=>∃ j:Nat,j<=n/\i=.int .i64 j/\DrI c r g w wr (enC (⟨k,z,⟨I,G,Q,L,N,R,M,H,J,P,t,s,u,q,T,v,X,Z,D,E,b2⟩,al,0,0,0,false,⟨#[]⟩,⟨#[]⟩,0,0,[]⟩:En) ⟨some ⟨F,0,none⟩,n,none,0⟩).toArray (Uj j A C).2.1 (Uj j A C).2.2/\NumB wr F n (Uj j A C).1) (fun i _=>n-(intOf i).toNat)
      .exact ⟨0,Z0 _,rfl,aZ,HNB⟩
      .obtain ⟨j,hj,rfl,hx,i7⟩:=hrel;clear aZ HNB;by_cases aE:j<n
       .obtain ⟨cs,b1',b2',b3',b4'⟩:=i7;obtain ⟨m,hm⟩:=b3' j aE;have gY:(Uj j A C).1.length=j:=X0 j A C;have dI:=ER c r F j 3 cs m (Uj j A C).2.1 (Uj j A C).2.2 wr hx.left hx.cr hx.rd b1' hm dU;have HSN:=It j A C;have HNS:∀ (W2:Wd) (x:Int),Blk W2 F 3 (cs.setIfInBounds j (.int .i64 x))->NumB W2 F n ((Uj j A C).1++[x]):=fun W2 x h=>NumB.snoc b2' b3' b4' (by rw [gY];exact aE) (by rw [gY];exact h)
        have y:=hx.bg.ce 23 (.slice (Ah F 0) al.length n);rw [q9] at y;have gT:=Y7 (Uj j A C).2.1 (Uj j A C).2.2;clear b1' b2' b3' b4' hm gY;go_wp2_with (go_at_call 271;apply dI.mono;rintro x w5 ⟨rfl,d,b,f⟩;have aR:=hx.stepH d f cE fN cM gT;have HN5:=HNS _ _ b;clear d b f);go_roundw
        .exact ⟨j+1,Oo,Au,by rw [HSN];exact aR,by rw [HSN];exact HN5⟩
        .exact At
       .obtain rfl:j=n:=Oo
        have bW:=i7.sl (X0 j A C);clear i7;rw [O.2.2.2.2.2.2.2.2.1] at bW hx;have y:=hx.bg.ce 23 (.slice (Ah F 0) al.length j);rw [q9] at y;go_wp2_with (go_at_call 271;apply (ER c r g 24 144 _ 0 l9 r9 _ hx.left hx.cr hx.rd hx.bg rfl hx.n1).mono;rintro x w5 ⟨rfl,d,b,f⟩;rw [O.2.2.2.2.2.2.2.2.2] at d b;rw [kJ] at b;have aR:=hx.step d b f U.2.2.2.2.2.2.2.2.2)
        go_end0
        refine ⟨rfl,⟨some ⟨F,0,none⟩,j,none,0⟩,aR.rd,aR.bg,⟨?_,Sl.nil,fun p B _=>?_,fun p B _=>(by cases B)⟩,aR.fa⟩
        .show Sl Xg 1 w5 w5.1.size (Ah F 0) al.length j al;rw [q9];exact bW.off f (fun p B _=>by injection B with B;subst B;simp only [QH,QM,XP,not_or];exact ⟨dU.symm,cE⟩)
        .injection B with B
         subst B;exact cM
    exact An
   exact An
  exact An
 exact An
end
def ku {G:Prop} (h:G:=by
  intro v' w' aD aI _;have bX:=Hd aD;have eH:=Hd aI;clear aD aI;go_wp2;go_ret;exact ⟨v',rfl,by simpa using bX.o,Aj.grown eH.o Am (by intro k hk;simp [Value.ownBlock] at hk;omega)⟩):G:=h
def kt {G:Prop} (h:G:=by
  have hz:n=0:=by
   rcases WB n with h|h
   .exact h
   .obtain ⟨b,o,e,_⟩:=hs.rd.2 h;cases e
  subst hz;have:l=[]:=QA hl;subst this;clear hs hl hn
  first
   |go_in
    go_wp2;go_ret;exact ⟨_,rfl,⟨rfl,.inl ⟨rfl,rfl⟩⟩,Bf _ _⟩
   |go_in
    go_wp2;go_ret;exact ⟨_,rfl,⟨rfl,.inl ⟨rfl,rfl⟩⟩,Bf _ _⟩):G:=h
def AY (A:Option Addr) (n c:Nat) (l:List Bz) (w:Wd) (hs:Sl Ug 1 w w.1.size A n c l) (hn:n<=1000000):
  Calls prog 158 #[.slice A n c] w fun e w'=>∃ v,e=.returned v/\w'.ownsRow w.1.size 9 1 v n (U7 Ug l)/\Below w.1.size w w':=by
 have hl:=hs.len;have s:∀ (w:Wd) (a:Option Addr) (n c d c':Nat),(binOp .eql 133 (.slice a n c) (.slice none d c')).run prog w=.ok (.bool a.isNone) w:=fun w a n c d c'=>KA w _ _ a n c d c' underlying133
 cases A with
 |none=>
  exact kt
 |some ad=>
  obtain ⟨m,i,r,g,f⟩:=WG V5;have j:=hs.rd.alloc (Le _) (.cells #[] 9);have p:=Sb l;have q:=WC (e:=9) (base:=w.1.size) (size:=1) w #[] 0 (Le _) Ac rfl;clear hs hl;go_in;go_wp2_with (at_builtin;go_must (apply Ui _ rfl _ _ 133 rfl w.1.size 9 m _ 1 16 underlying133 i r g f rfl Ac _ _ _ rfl q w.1.size (some ad) n c (U7 Ug l) rfl j p ?c2 ?c3 ?c4))
  case c2=>simp [maxLen];omega
  case c3=>omega
  exact ku
def F8 (A:Option Addr) (n c:Nat) (l:List Pr) (w:Wd) (hs:Sl prC 2 w w.1.size A n c l) (hn:n<=1000000):
  Calls prog 28 #[.slice A n c] w fun e w'=>∃ v,e=.returned v/\w'.ownsRow w.1.size 74 2 v n (U7 prC l)/\Below w.1.size w w':=by
 have hl:=hs.len;have s:∀ (w:Wd) (a:Option Addr) (n c d c':Nat),(binOp .eql 35 (.slice a n c) (.slice none d c')).run prog w=.ok (.bool a.isNone) w:=fun w a n c d c'=>KA w _ _ a n c d c' underlying35
 cases A with
 |none=>
  exact kt
 |some ad=>
  obtain ⟨m,i,r,g,f⟩:=WG Vl;have j:=hs.rd.alloc (Le _) (.cells #[] 74);have p:=Yx l;have q:=WC (e:=74) (base:=w.1.size) (size:=2) w #[] 0 (Le _) Ac rfl;clear hs hl;go_in;go_wp2_with (at_builtin;go_must (apply Ui _ rfl _ _ 35 rfl w.1.size 74 m _ 2 32 underlying35 i r g f rfl Ac _ _ _ rfl q w.1.size (some ad) n c (U7 prC l) rfl j p ?c2 ?c3 ?c4))
  case c2=>simp [maxLen];omega
  case c3=>omega
  exact ku
structure Edn where
 ci:Int
 A:Option Addr
 n:Nat
 c:Nat
 rs:List Bz
 sp:Int
def edC (x:Edn):List Value:=[.int .i64 x.ci,.slice x.A x.n x.c,.int .i64 x.sp]
def zEd:List Value:=[.int .i64 0,.slice none 0 0,.int .i64 0]
def Vp (d:DSet) (r:Bz) (a:Int) (rs:List Bz) (b:Int):Bz×(Int×List Bz×Int):=
 if 0<a/\Zo d.itv (rs++[r])=true then (V8 (IntKind.i64.wrap (IntKind.i64.wrap (a*d.itv)+b)),(a,rs++[r],IntKind.i64.wrap (b+r.size)))
 else (V8 (IntKind.i64.wrap (IntKind.i64.wrap (a+1)*d.itv)),(IntKind.i64.wrap (a+1),[r],(r.size:Int)))
def oH {α:Type} {f:α->List Value} {k B n c:Nat} {A:Option Addr} {l:List α} {w:Wd} (h:Sl f k w B A n c l) (g:Nat) (cs:Array Value) (i:∀ a,A=some a->a.block≠g):Sl f k (w.setRow g cs) (w.setRow g cs).1.size A n c l\/w.1.size<B:=by
 rcases ZW w.1.size B with d|d
 .exact .inr d
 .refine .inl ⟨h.1,h.2.1,h.2.2.1,fun hn=>?_⟩;obtain ⟨b,o,e,q,p⟩:=h.2.2.2 hn;exact ⟨b,o,e,by rw [size_setRow];omega,fun j u m=>(cell_setRow_other w g cs ⟨b,o+j,none⟩ (i ⟨b,o,none⟩ e)).trans (p j u m)⟩
def Io {α:Type} {f:α->List Value} {k n c:Nat} {A:Option Addr} {l:List α} {w:Wd} (h:Sl f k w w.1.size A n c l) (g:Nat) (cs:Array Value) (b:∀ a,A=some a->a.block≠g):Sl f k (w.setRow g cs) (w.setRow g cs).1.size A n c l:=
 (oH h g cs b).resolve_right Oo
structure EN (x:Edn) (d:DSet) (w W:Wd):Prop where
 b1:Blk W w.1.size 168 (edC x).toArray
 b2:Blk W (w.1.size+1) 34 (dC d).toArray
 b3:Blk W (w.1.size+2) 168 zEd.toArray
 be:Below w.1.size w W
 sz:w.1.size+3<=W.1.size
def IA {x:Edn} {d:DSet} {w W W':Wd} (h:EN x d w W) (a:Below W.1.size W W'):EN x d w W':=
 ⟨h.b1.below a h.b1.lt,h.b2.below a h.b2.lt,h.b3.below a h.b3.lt,U0 h.be a h.be.size,Lx h.sz a.size⟩
def vX {x:Edn} {d:DSet} {w W W':Wd} {o:Obj} {row:Option Nat} (h:EN x d w W) (a:(W.alloc o).grownBy W' row) (f:∀ k,row=some k->w.1.size+3<=k):EN x d w W':=
 have hz:=h.sz;have b:∀ k,k<w.1.size+3->some k≠row:=fun k c e=>by have:=f k e.symm;omega
 ⟨(h.b1.alloc o).grown a (b _ Oo),(h.b2.alloc o).grown a (b _ Oo),(h.b3.alloc o).grown a (b _ Oo),
  (h.be.alloc h.be.size o).grown a (by have:=h.be.size;simp;omega) (fun k c=>by have:=f k c;omega),Lx As a.size⟩
abbrev kW (w:Wd) (x) (d):=((w.alloc (.cells (edC x).toArray 168)).alloc (.cells (dC d).toArray 34)).alloc (.cells zEd.toArray 168)
def nN (x:Edn) (d:DSet) (w:Wd):EN x d w (kW w x d):=
 ⟨((Blk.new w _ _).alloc _).alloc _,(U3 (w.alloc _) _ _ _ Am).alloc _,U3 ((w.alloc _).alloc _) _ _ _ Am,(Aj.alloc Am _).alloc As _,Am⟩
def Gr {P:Program} {d:Func} {a:Array Value} {p q:Nat} {t:TypeId} {b:Nat} {c v:Value} {W:Wd} (h:d.results=#[.tmp q,.cell p t]) (e:a.getD p undef=(Ag b 0)) (f:a.getD q undef=v)
  (g:(loadVar t ⟨b,0,none⟩).run P W=.ok c W):(results d a).run P W=.ok (.tuple #[v,c]) W:=by
 have i:a[p]?.getD undef=Ag b 0:=by simpa using e
 have j:a[q]?.getD undef=v:=by simpa using f
 simp [results,h,i,j,asAddr,g]
def LG (W:Wd) (b:Nat) (cs:Array Value) (h:Blk W b 168 cs) (a:cs.size=3):(loadVar 168 ⟨b,0,none⟩).run prog W=.ok (.agg cs) W:=
 ZQ W b 168 168 cs (0,0) _ h underlying168 rfl (by rw [a];kernel_rfl)
def NxG (d:DSet) (r:Bz) (x:Edn) (w:Wd) (e:Ending) (w':Wd):Prop:=∃ y:Edn,e=.returned (.tuple #[.string (Vp d r x.ci x.rs x.sp).1,.agg (edC y).toArray])/\(y.ci,y.rs,y.sp)=(Vp d r x.ci x.rs x.sp).2/\Sl Ug 1 w' w'.1.size y.A y.n y.c y.rs/\(∀ a,y.A=some a->w.1.size<=a.block)/\Below w.1.size w w'
def NqP (q:Int) (r:Bz) (N:Nat) (u:Value) (W:Wd):Prop:=∃ g,N<=g/\u=.agg #[.int .i64 q,.slice (Ah g 0) 1 1,.int .i64 (r.size:Int)]/\Blk W g 9 #[.string r]
def kv {G:Prop} (h:G:=by
  simp only [Act.put];refine Ad Ak ?_ _;clear hS;go_wp2;have fD:=LG (w6.setRow (w.1.size+2) (edC y).toArray) (w.1.size+2) (edC y).toArray (QR _ _ _ _ _ _ HE6.o.b3) rfl;refine Br (v:=.tuple #[.string (V8 q2),.agg (edC y).toArray]) (Gr results108 rfl rfl fD) rfl ⟨y,by rw [HQ.o],?_⟩;subst hy;exact ⟨by rw [HQ.o],Io HS6.o _ _ (fun a ha=>by have:=HA4.o a ha;omega),(fun a ha=>by have:=HA4.o a ha;omega),Uf HE6.o.be Oo _⟩):G:=h
def Wc (d:DSet) (r:Bz) (x:Edn) (w:Wd) (T:Sl Ug 1 w w.1.size x.A x.n x.c x.rs) (hn:x.n<=1999):
  Calls prog 108 #[.agg #[.int .i64 x.ci,.slice x.A x.n x.c,.int .i64 x.sp],.agg (dC d).toArray,.string r] w (NxG d r x w):=by
 obtain ⟨i0,Y,bB,X,U⟩:=WG V5;have N:=nN x d w;have F:∀ W,EN x d w W->Sl Ug 1 W W.1.size x.A x.n x.c x.rs:=fun W h=>T.after h.be h.be.size
 have e1:=N.b1.ce 1 (.slice x.A x.n x.c);have iP:=AY x.A x.n x.c x.rs _ (F _ N) Oo;clear T;go_in;by_cases K:0<x.ci
 case' pos=>
  obtain ⟨z,j⟩:=yH (Zo d.itv (x.rs++[r]));cases z
 all_goals go_wp2_with (first|(go_at_call 158;refine iP.mono ?_;rintro e M ⟨v,rfl,O,b⟩;have o:=IA N b;have dM:=Yv M [.string r] 9 1 1 rfl;clear b e1)|(at_builtin;go_must (refine Ui _ rfl _ _ 133 rfl (kW w x d).1.size 9 i0 _ 1 16 underlying133 Y bB X U rfl Ac v x.n (U7 Ug x.rs) rfl (O.alloc _) (M.1.size+1) (Ah M.1.size 0) 1 1 [.string r] rfl dM (Yn r) (by have:=hn;unfold maxLen;omega) (by have:=hn;omega) (by have:=o.sz;simp;omega) ?_;intro v' t p Q _;obtain ⟨q,c4,rfl,_⟩:=U4 p;have HA4:Aw (∀ a,q=some a->w.1.size+3<=a.block):=Hd (fun a ha=>by subst ha;have:=(p.lt _ rfl).1;simp at this;omega);have c:=vX o Q (fun k hk=>by have:=(O.lt k hk).1;simp at this;omega);have m:Aw (Sl Ug 1 t t.1.size q (x.n+1) c4 (x.rs++[r])):=Hd (Sl.of_own (f:=Ug) (fun _=>rfl) Ac (by rw [V9,Xr];exact p));have f0:=c.b1.ce 0 (.int .i64 x.ci);have f2:=c.b1.ce 2 (.int .i64 x.sp);have f7:=c.b2.ce 7 (.int .i64 d.itv);clear p Q))|(go_at_call 159;refine (Ol d.itv q (x.n+1) c4 (x.rs++[r]) t m (by have:=hn;omega)).mono ?_;rw [j.o];rintro e P ⟨rfl,b⟩;have n:=Hd (IA c b);have J:=Hd (m.after b b.size);clear b f0 f2 f7))
 rotate_left
 .obtain ⟨q1,hq1⟩:=yG (IntKind.i64.wrap (x.ci*d.itv));obtain ⟨q2,C⟩:=yG (IntKind.i64.wrap (q1+x.sp));obtain ⟨E,L⟩:=yG (IntKind.i64.wrap (x.sp+(r.size:Int)));have HQ:Aw (Vp d r x.ci x.rs x.sp=(V8 q2,(x.ci,x.rs++[r],E))):=Hd (by unfold Vp;rw [QK ⟨K,j.o⟩,hq1,C,L]);apply Bi 19 1 (S:=fun W=>EN x d w W/\Below P.1.size P W) (R:=Rb) (S':=fun _=>True) ⟨IA n (Bf _ _).drew,(Bf _ _).drew⟩ (fun _ _ h b=>⟨IA h.1 b,U0 h.2 b h.2.size⟩);apply xA (v:=_);apply xl (.int .i64 x.ci) (fun W h=>(h.1.b1.cell 0).trans rfl);apply xA (v:=_);apply xl (.int .i64 d.itv) (fun W h=>(h.1.b2.cell 7).trans rfl);apply xp (.int .i64 q1);apply xA (v:=_);apply xl (.int .i64 x.sp) (fun W h=>(h.1.b1.cell 2).trans rfl);apply xp (.int .i64 q2);apply xc (fun W _ _=>Fn q2 W);apply xA (v:=_);apply xl (.int .i64 x.ci) (fun W h=>(h.1.b1.cell 0).trans rfl)
  iterate 2 apply xA (v:=_)
  apply xl (.int .i64 x.sp) (fun W h=>(h.1.b1.cell 2).trans rfl)
  iterate 2 apply xA (v:=_)
  apply xp (.int .i64 E)
  iterate 2 apply xA (v:=_)
  refine xn fun w6 hS _=>?_
  have HE6:=Hd hS.1;have HS6:=Hd (J.after hS.2 hS.2.size);obtain ⟨y,hy⟩:∃ y:Edn,y=⟨x.ci,q,x.n+1,c4,x.rs++[r],E⟩:=⟨_,rfl⟩
  refine ts 19 (edC y).toArray HE6.b3 (by simp [edC,Value.oneCell']) trivial ?_ (hy:=by subst hy;rfl);exact kv
 all_goals
  have I:¬ (0<x.ci/\Zo d.itv (x.rs++[r])=true):=by first|(rw [j.o];simp)|exact fun h=>by have:=h.1;omega
  first|have l:=Hd (IA n (Bf _ _).drew)|have l:=Hd (IA c (Bf _ _).drew)
  obtain ⟨i,D⟩:=yG (IntKind.i64.wrap (x.ci+1));obtain ⟨q2,C⟩:=yG (IntKind.i64.wrap (i*d.itv));have HQ:Aw (Vp d r x.ci x.rs x.sp=(V8 q2,(i,[r],(r.size:Int)))):=Hd (by unfold Vp;rw [QX I,D,C]);apply Bi 16 1 (S:=EN x d w) (R:=Rb) (S':=fun _=>True) l (fun _ _ h b=>IA h b);apply xA (v:=_);apply xl (.int .i64 x.ci) (fun W h=>(h.b1.cell 0).trans rfl);apply xp (.int .i64 i);apply xA (v:=_);apply xl (.int .i64 d.itv) (fun W h=>(h.b2.cell 7).trans rfl);apply xp (.int .i64 q2);apply xc (fun W _ _=>Fn q2 W);apply xA (v:=_);apply xl (.int .i64 x.ci) (fun W h=>(h.b1.cell 0).trans rfl);apply xp (.int .i64 i);apply xA (v:=_);apply xd (w.1.size+3) 9 1 #[.string r] (fun W h=>h.sz);intro v
  iterate 2 apply xA (v:=_)
  apply xz (NqP i r (w.1.size+3)) (fun u W W' b ⟨g,B,V,s⟩=>⟨g,B,V,s.below b s.lt⟩) (fun W _ H=>by obtain ⟨g,B,rfl,s⟩:=xf 0 H;exact ⟨.agg #[.int .i64 i,.slice (Ah g 0) 1 1,.int .i64 (r.size:Int)],Az,g,B,rfl,s⟩);intro u;apply xA (v:=_);refine xn fun w6 hS H=>?_
  obtain ⟨g,A,rfl,Z⟩:=H _ (.head _);have HE6:=Hd hS;have HS6:=Hd (Kq Z);have HA4:Aw (∀ a,some (⟨g,0,none⟩:Addr)=some a->w.1.size+3<=a.block):=Hd (fun a ha=>by injection ha with ha;subst ha;exact A);obtain ⟨y,hy⟩:∃ y:Edn,y=⟨i,some ⟨g,0,none⟩,1,1,[r],r.size⟩:=⟨_,rfl⟩
  refine ts 16 (edC y).toArray HE6.b3 (by simp [edC,Value.oneCell']) trivial ?_ (hy:=by subst hy;rfl);exact kv
def MG (d:DSet) (s:Int×List Bz×Int):List Pr->Int×List Bz×Int
 | []=>s
 |p::r=>MG d (Vp d p.rcd s.1 s.2.1 s.2.2).2 r
def Nt (d:DSet) (r:Bz) (b:Int) (rs:List Bz) (a:Int):(Vp d r b rs a).2.2.1.length<=rs.length+1:=by
 unfold Vp;split<;>simp
structure BH (d:DSet) (y:Edn) (w W:Wd):Prop where
 b1:Blk W w.1.size 34 (dC d).toArray
 b2:Blk W (w.1.size+1) 168 zEd.toArray
 b3:Blk W (w.1.size+2) 168 (edC y).toArray
 sl:Sl Ug 1 W W.1.size y.A y.n y.c y.rs
 na:∀ a,y.A=some a->w.1.size+3<=a.block
 be:Below w.1.size w W
 sz:w.1.size+3<=W.1.size
def CA {d:DSet} {y:Edn} {w W W':Wd} (h:BH d y w W) (a:Below W.1.size W W'):BH d y w W':=
 ⟨h.b1.below a h.b1.lt,h.b2.below a h.b2.lt,h.b3.below a h.b3.lt,h.sl.after a a.size,h.na,U0 h.be a h.be.size,Lx h.sz a.size⟩
def mr {d:DSet} {y z:Edn} {w W:Wd} (h:BH d y w W) (e:Sl Ug 1 W W.1.size z.A z.n z.c z.rs) (hz:∀ a,z.A=some a->w.1.size+3<=a.block):BH d z w (W.setRow (w.1.size+2) (edC z).toArray):=
 have b:Below (w.1.size+2) W (W.setRow (w.1.size+2) (edC z).toArray):=Uf (Bf _ _) (Le _) _
 ⟨h.b1.below b Oo,h.b2.below b Oo,QR _ _ _ _ _ _ h.b3,Io e _ _ (fun a c=>by have:=hz a c;omega),hz,Uf h.be Oo _,by rw [size_setRow];exact h.sz⟩
def ms (d:DSet) (w:Wd):BH d ⟨0,none,0,0,[],0⟩ w (((Aa w (dC d).toArray 34).alloc (.cells zEd.toArray 168)).alloc (.cells zEd.toArray 168)):=
 ⟨((Blk.new w _ _).alloc _).alloc _,(U3 (w.alloc _) _ _ _ Am).alloc _,U3 ((w.alloc _).alloc _) _ _ _ Am,Sl.nil,fun a b=>by simp at b,(Aj.alloc Am _).alloc As _,Am⟩
def BhG (d:DSet) (n:Nat) (l:List Pr) (w:Wd) (e:Ending) (w':Wd):Prop:=∃ y:Edn,e=.returned (.agg (edC y).toArray)/\(y.ci,y.rs,y.sp)=MG d (0,[],0) l/\Sl Ug 1 w' w'.1.size y.A y.n y.c y.rs/\y.n<=n/\(∀ a,y.A=some a->w.1.size<=a.block)/\Below w.1.size w w'
def B7 (d:DSet) (A:Option Addr) (n c:Nat) (l:List Pr) (w:Wd) (H:Sl prC 2 w w.1.size A n c l) (hn:n<=1999):
  Calls prog 217 #[.agg (dC d).toArray,.slice A n c] w (BhG d n l w):=by
 obtain ⟨R,K⟩:=yG (MG d (0,[],0) l);unfold BhG;rw [K];have HS:=Hd H;have HR:=Hd K;have T:=Hd H.len;have HB:=Hd (ms d w);clear H K;go_wp2;go_loopw [10] (fun m wr=>∃ (j:Nat) (y:Edn),j<=n/\m=.int .i64 j/\MG d (y.ci,y.rs,y.sp) (l.drop j)=R/\y.n<=j/\BH d y w wr) (fun m _=>n-(intOf m).toNat)
 .exact ⟨0,_,Z0 _,rfl,HR.o,Le _,HB.o⟩
 .obtain ⟨j,y,hj,rfl,aG,hyn,hbh⟩:=hrel;obtain ⟨i,rfl⟩:∃ z:Wd,z=wr:=⟨_,rfl⟩
  have g:=Hd hbh;have V:=Hd aG;have q:=Hd hyn;clear hbh aG hyn;by_cases M:j<n
  .obtain ⟨b,o,x,rfl,C,hg,aB⟩:=Sl.cell (f:=prC) (k:=2) (fun _=>rfl) (HS.o.below g.o.be) M;have Y:Aw (i.rangeAt b (o+j*2) (prC x)):=Hd fun t u hu=>aB t u hu
   have Q:l.drop j=x::l.drop (j+1):=by
    have O:j<l.length:=by rw [T.o];exact M
    rw [QO O];congr 1;rw [QV O] at hg;injection hg
   have F:Aw (MG d (Vp d x.rcd y.ci y.rs y.sp).2 (l.drop (j+1))=R):=Hd (by have h:=V.o;rw [Q] at h;exact h);have L:=Hd fun p=>Blk.new i 74 p
   have J:=Hd fun p=>U5 i p (prC x).toArray 74
   have G:Aw ((prC x).toArray.all (·.oneCell')=true):=Hd (by simp [prC,Value.oneCell']);have s:Aw (BH d y w (Aa i (prC x).toArray 74)):=Hd (CA g.o Aj);have c1:(Aa i (prC x).toArray 74).cell? ⟨i.1.size,1,none⟩=some (.string x.rcd):=((Blk.new i _ _).cell 1).trans rfl;have D:Aw (Calls prog 108 #[.agg (edC y).toArray,.agg (dC d).toArray,.string x.rcd] (Aa i (prC x).toArray 74) (NxG d x.rcd y (Aa i (prC x).toArray 74))):=Hd (Wc d x.rcd y _ s.o.sl (by have:=q.o;omega));clear C hg aB Q
   go_wp2_with (first|(with_reducible refine yM 74 12 Y.o ?_)|(with_reducible refine yS 74 7 (L.o _) G.o ?_;rw [J.o])|(with_reducible refine yL 168 5 s.o.b3 ?_)|(with_reducible refine yL 34 2 s.o.b1 ?_)|(go_at_call 108;refine D.o.mono ?_;rintro e w2 ⟨z,rfl,hz,S,r,C⟩;have U:=Hd hz;have W:=Hd (CA s.o C);have N:=Hd S;have I:Aw (∀ a,z.A=some a->w.1.size+3<=a.block):=Hd (fun a B=>by have h1:=r a B;have X:=s.o.sz;omega);have E:Aw ((edC z).toArray.all (·.oneCell')=true):=Hd (by simp [edC,Value.oneCell']);clear hz S r C)|(with_reducible refine yS 168 5 W.o.b3 E.o ?_));go_roundw
   .refine ⟨j+1,z,Oo,Au,by rw [U.o];exact F.o,?_,mr W.o N.o I.o⟩;have h1:=N.o.len;have X:=g.o.sl.len;have h3:=Nt d x.rcd y.ci y.rs y.sp;have h4:z.rs=(Vp d x.rcd y.ci y.rs y.sp).2.2.1:=XK (·.2.1) U.o;rw [<-h4] at h3;have:=q.o;omega
   .exact At
  .obtain rfl:j=n:=Oo
   have P:(y.ci,y.rs,y.sp)=R:=by
    have h:=V.o;rw [WP (by rw [T.o];exact Le _)] at h;exact h
   have F:=Hd P;have G:Aw ((edC y).toArray.all (·.oneCell')=true):=Hd (by simp [edC,Value.oneCell']);clear P;go_wp2_with (first|(with_reducible refine yL 168 5 g.o.b3 ?_)|(with_reducible refine yS 168 4 g.o.b2 G.o ?_));have Z:=LG (i.setRow (w.1.size+1) (edC y).toArray) (w.1.size+1) (edC y).toArray (QR _ _ _ _ _ _ g.o.b2) rfl;exact Br (v:=.agg (edC y).toArray) (Vx results217 rfl Z) rfl ⟨y,rfl,F.o,Io g.o.sl _ _ (fun a B=>by have:=g.o.na a B;omega),q.o,fun a B=>by have:=g.o.na a B;omega,Uf g.o.be Oo _⟩
section
variable {x:Cnt} {w W W':Wd} {E0:Nat} {y:Edn}
def Vv (d:DSet) (j:Nat) (s:Int×List Bz×Int) (q:Pr):Bool:=
 if d.org=0 then (V8 ((j:Int)+1)).toList == q.key.toList else if d.org=1 then (Vp d q.rcd s.1 s.2.1 s.2.2).1.toList == q.key.toList else true
def I8 (d:DSet) (s:Int×List Bz×Int) (q:Pr):Int×List Bz×Int:=if d.org=1 then (Vp d q.rcd s.1 s.2.1 s.2.2).2 else s
def Ni (a:Option Bz) (k:Bz):Bool:=match a with
 |none=>true
 |some q=>Un q k
def fvL (d:DSet):Option Bz->Nat->Int×List Bz×Int->List Pr->Bool
 |_,_,_,[]=>true
 |prev,j,s,q::r=>Ue d q&&Ni prev q.key&&Vv d j s q&&fvL d (some q.key) (j+1) (I8 d s q) r
def Vi (d:DSet) (a:Int) (b:List Pr):Bool:=Zq d&&decide (0<=a)&&decide (a<=1099511627776)&&Y9 d a b&&fvL d none 0 (0,[],0) b
def J4 (l:List Pr) (j:Nat):Option Bz:=if j=0 then none else (l[j-1]?).map (·.key)
def Zb (l:List Pr) (j:Nat) (q:Pr) (h:l[j]? =some q):J4 l (j+1)=some q.key:=by simp [J4,h]
structure FV2 (x:Cnt) (w W:Wd):Prop where
 b1:Blk W w.1.size 37 (cnC x).toArray
 b2:Blk W (w.1.size+1) 34 (dC x.d).toArray
 sz:w.1.size+2<=W.1.size
 be:Below w.1.size w W
def Xh (h:FV2 x w W) (a:Below W.1.size W W'):FV2 x w W':=
 ⟨h.b1.below a h.b1.lt,h.b2.below a h.b2.lt,Lx h.sz a.size,U0 h.be a h.be.size⟩
def Ch (x:Cnt) (w:Wd):FV2 x w ((Aa w (cnC x).toArray 37).alloc (.cells (dC x.d).toArray 34)):=
 ⟨(Blk.new w _ _).alloc _,U3 (w.alloc _) _ _ _ Am,Am,Aj.alloc Am _⟩
structure FL (E0:Nat) (x:Cnt) (y:Edn) (w W:Wd):Prop where
 b1:Blk W w.1.size 37 (cnC x).toArray
 b2:Blk W (w.1.size+1) 34 (dC x.d).toArray
 b3:Blk W E0 168 (edC y).toArray
 sl:Sl Ug 1 W W.1.size y.A y.n y.c y.rs
 na:∀ a,y.A=some a->E0+1<=a.block
 be:Below w.1.size w W
 sz:E0+1<=W.1.size
 ge:w.1.size+2<=E0
def FM (h:FL E0 x y w W) (a:Below W.1.size W W'):FL E0 x y w W':=
 ⟨h.b1.below a h.b1.lt,h.b2.below a h.b2.lt,h.b3.below a h.b3.lt,h.sl.after a a.size,h.na,U0 h.be a h.be.size,Lx h.sz a.size,h.ge⟩
def vO {z:Edn} (h:FL E0 x y w W) (d:Sl Ug 1 W W.1.size z.A z.n z.c z.rs) (hz:∀ a,z.A=some a->E0+1<=a.block):FL E0 x z w (W.setRow E0 (edC z).toArray):=
 have b:Below E0 W (W.setRow E0 (edC z).toArray):=Uf (Bf _ _) (Le _) _;have e:=h.ge
 ⟨h.b1.below b Oo,h.b2.below b Oo,QR _ _ _ _ _ _ h.b3,Io d _ _ (fun a c=>by have:=hz a c;omega),hz,Uf h.be Oo _,by rw [size_setRow];exact h.sz,e⟩
def nM (h:FV2 x w W):FL W.1.size x ⟨0,none,0,0,[],0⟩ w (Aa W zEd.toArray 168):=
 ⟨h.b1.alloc _,h.b2.alloc _,Blk.new _ _ _,Sl.nil,fun a b=>by simp at b,h.be.alloc h.be.size _,Am,h.sz⟩
structure FPv (E0:Nat) (x:Cnt) (y:Edn) (w:Wd) (g:Nat) (q:Pr) (pa:Addr) (pv:Option Value) (W:Wd):Prop where
 f:FL E0 x y w W
 p:Blk W g 74 (prC q).toArray
 c:∀ v,pv=some v->W.cell? pa=some v
 l:pa.block<W.1.size
def FPv.next {g:Nat} {q:Pr} {b:Addr} {c:Option Value} (h:FPv E0 x y w g q b c W) (a:Rb W W'):FPv E0 x y w g q b c W':=
 ⟨FM h.f a,h.p.below a h.p.lt,fun v d=>(a.cell h.l).trans (h.c v d),WK h.l a.size⟩
theorem zCC {G:Prop} (h:G:=by
  subst hr;go_in;go_wp2_with (first|(with_reducible refine yM 34 8 HM.o ?_)|(with_reducible refine yS 34 3 (HB.o _) H1.o ?_;rw [HS.o])|(with_reducible refine yL 34 3 HX.o.b2 ?_)|(go_at_call 104;refine yT (HD.o _) (Xh HX.o) fun w2 aJ=>?_;have c21:=aJ.o.b1.ce 21 (.int .i64 ap);have c22:=(aJ.o.b1.ce 22 (.slice A n c))));go_ret;exact ⟨rfl,aJ.o.be⟩):G:=h
def Mh (d:DSet) (ap:Int) (A:Option Addr) (n c:Nat) (g:List Pr) (w:Wd) (hx:CW w ⟨d,ap,A,n,c,g⟩) (hc:Cod w) (hrz:∀ q∈g,q.rcd.size<=maxLen):
  Calls prog 74 #[.agg (cnC ⟨d,ap,A,n,c,g⟩).toArray] w (Ab w (.bool (Vi d ap g))):=by
 obtain ⟨C,U⟩:∃ R,Vi d ap g=R:=⟨_,rfl⟩
 rw [U];have F:=Hd U;have HM:=Hd (SL ⟨d,ap,A,n,c,g⟩ w 37);have H1:=Hd (Xc d);have HB:=Hd fun i=>U3 (Aa w (cnC ⟨d,ap,A,n,c,g⟩).toArray 37) 34 i (w.1.size+1) Am
 have HS:Aw (∀ i,((Aa w (cnC ⟨d,ap,A,n,c,g⟩).toArray 37).alloc (.cells i 34)).setRow (w.1.size+1) (dC d).toArray=((Aa w (cnC ⟨d,ap,A,n,c,g⟩).toArray 37).alloc (.cells (dC d).toArray 34))):=Hd fun i=>X6 (Aa w (cnC ⟨d,ap,A,n,c,g⟩).toArray 37) (w.1.size+1) Am i (dC d).toArray 34
 have HX:=Hd (Ch ⟨d,ap,A,n,c,g⟩ w);have HD:Aw (∀ W,Calls prog 104 #[.agg (dC d).toArray] W (Ab W (.bool (Zq d)))):=Hd fun W=>MY d W
 have HV:Aw (∀ W,Below w.1.size w W->Calls prog 105 #[.agg (cnC ⟨d,ap,A,n,c,g⟩).toArray] W (Ab W (.bool (Y9 d ap g)))):=Hd fun W m=>N0 ⟨d,ap,A,n,c,g⟩ W (hx.below m)
 have bW:Aw (Sl prC 2 w w.1.size A n c g):=Hd hx.sl;have hn:n<=1024:=hx.le;have HC:=Hd hc;have HRZ:=Hd hrz;have HL:Aw (g.length=n):=Hd hx.sl.len;clear hx U hc hrz;obtain ⟨da,ha⟩:=yG (Y9 d ap g);rw [ha] at HV;cases Q:Zq d
 .rw [Q] at HD;have hr:C=false:=by rw [<-F.o];unfold Vi;rw [Q];rfl
  exact zCC
 rw [Q] at HD;rcases (by omega:¬ 0<=ap\/0<=ap) with hq|a1
 .have f1:decide (ap<0)=true:=QQ Oo;have hr:C=false:=by rw [<-F.o];unfold Vi;rw [Q,QW hq];rfl
  exact zCC
 have f1:decide (ap<0)=false:=QW Oo;rcases (by omega:¬ ap<=1099511627776\/ap<=1099511627776) with hq|a2
 .have f2:decide ((1099511627776:Int)<ap)=true:=QQ Oo;have hr:C=false:=by rw [<-F.o];unfold Vi;rw [Q,QQ a1,QW hq];rfl
  exact zCC
 have f2:decide ((1099511627776:Int)<ap)=false:=QW Oo;have f3:decide ((1024:Int)<(n:Int))=false:=QW Oo;cases da
 case' false=>obtain rfl:C=false:=by rw [<-F.o];unfold Vi;rw [Q,QQ a1,QQ a2,ha];rfl
 all_goals
  go_in
  go_wp2_with (first|(with_reducible refine yM 34 8 HM.o ?_)|(with_reducible refine yS 34 3 (HB.o _) H1.o ?_;rw [HS.o])|((with_reducible refine Gl 34 3 ?_);refine Up Ak 34 _ rfl (w.1.size+1) rfl 34 (dC d).toArray (0,0) _ aJ.o.b2 underlying34 rfl Ak ?_)|(with_reducible refine yL 34 3 HX.o.b2 ?_)|(go_at_call 104;refine yT (HD.o _) (Xh HX.o) fun w2 aJ=>?_;have c21:=aJ.o.b1.ce 21 (.int .i64 ap);have c22:=(aJ.o.b1.ce 22 (.slice A n c)))|((with_reducible refine Gb 129 ?_);refine U1 Ak 129 _ rfl (cnC ⟨d,ap,A,n,c,g⟩).toArray Ak ?_)|(go_at_call 105;refine yT (HV.o _ aJ.o.be) (Xh aJ.o) fun I aQ=>?_;clear c21 c22;have c22:=fun ob=>((aQ.o.b1.alloc ob).ce 22 (.slice A n c))))
 .go_ret;exact ⟨rfl,aQ.o.be⟩
 have HQ0:Aw (fvL d none 0 (0,[],0) g=C):=Hd (by rw [<-F.o];unfold Vi;rw [Q,QQ a1,QQ a2,ha];rfl);go_loopw [42] (fun T wr=>∃ (j:Nat) (y:Edn),j<=n/\T=.int .i64 j/\fvL d (J4 g j) j (y.ci,y.rs,y.sp) (g.drop j)=C/\y.n<=j/\FL I.1.size ⟨d,ap,A,n,c,g⟩ y w wr) (fun T _=>n-(intOf T).toNat)
 .exact ⟨0,⟨0,none,0,0,[],0⟩,Z0 _,rfl,HQ0.o,Le _,nM aQ.o⟩
 .obtain ⟨j,y,hj,rfl,aG,hyn,jU⟩:=hrel;obtain ⟨l,rfl⟩:∃ z:Wd,z=wr:=⟨_,rfl⟩
  have H:=Hd jU;have aX:=Hd aG;have J:=Hd hyn;clear jU aG hyn c22;by_cases aE:j<n
  .have HSW:=Hd (bW.o.below H.o.be);obtain ⟨b,o,q,rfl,m,hg,aB⟩:=Sl.cell (f:=prC) (k:=2) (fun _=>rfl) HSW.o aE;have fX:=Hd m;have HMQ:Aw (l.rangeAt b (o+j*2) (prC q)):=Hd fun t u hu=>aB t u hu
   have HG:Aw (g[j]? =some q):=Hd hg
   have dQ:g.drop j=q::g.drop (j+1):=by
    have gY:j<g.length:=by rw [HL.o];exact aE
    rw [QO gY];congr 1;rw [QV gY] at hg;injection hg
   have O:Aw ((Ue d q&&Ni (J4 g j) q.key&&Vv d j (y.ci,y.rs,y.sp) q&&fvL d (some q.key) (j+1) (I8 d (y.ci,y.rs,y.sp) q) (g.drop (j+1)))=C):=Hd (by have h:=aX.o;rw [dQ] at h;exact h);have HRQ:Aw (q.rcd.size<=maxLen):=Hd (HRZ.o q (QJ hg));have cG:=Hd fun (W:Wd) (m:Below w.1.size w W)=>Js d q W (HC.o.after m) HRQ.o
   have HBn:=Hd fun i=>Blk.new l 74 i
   have HSn:=Hd fun i=>U5 l i (prC q).toArray 74
   have iE:Aw ((prC q).toArray.all (·.oneCell')=true):=Hd (by simp [prC,Value.oneCell']);have HF1:Aw (FL I.1.size ⟨d,ap,some ⟨b,o,none⟩,n,c,g⟩ y w (Aa l (prC q).toArray 74)):=Hd (FM H.o Aj);have gO:Aw (Blk (Aa l (prC q).toArray 74) l.1.size 74 (prC q).toArray):=Hd (Blk.new _ _ _);have HXW:Aw (I.1.size+1<=l.1.size):=Hd H.o.sz;clear m hg aB dQ;go_wp2_with (first|(with_reducible refine yM 74 45 HMQ.o ?_)|(with_reducible refine yS 74 6 (HBn.o _) iE.o ?_;rw [HSn.o]));have L:=Hd (FM HF1.o (Bf _ _).drew);have dG:b<l.1.size:=by have X:=fX.o;have h2:=H.o.be.size;omega
   obtain ⟨al,bP⟩:=yG (Ue d q);rw [bP] at cG;have HS:Aw (FPv I.1.size ⟨d,ap,some ⟨b,o,none⟩,n,c,g⟩ y w l.1.size q ⟨b,o,none⟩ none (Aa l (prC q).toArray 74).drew):=Hd ⟨L.o,gO.o.drew,fun v hv=>(by cases hv),As⟩;cases al
   case' true=>
    by_cases hj0:j=0
    case' pos=>
     have HJ0:Aw (decide ((0:Int)<(j:Int))=false/\decide (0<j)=false):=Hd ⟨QW Oo,QW Oo⟩;have B:Aw ((Vv d j (y.ci,y.rs,y.sp) q&&fvL d (some q.key) (j+1) (I8 d (y.ci,y.rs,y.sp) q) (g.drop (j+1)))=C):=Hd (by have h:=O.o;rw [bP,show J4 g j=none from by simp [J4,hj0]] at h;exact h)
    case' neg=>
     obtain ⟨k,hk⟩:∃ k,j=k+1:=⟨j-1,Oo⟩
     have hkn:k<n:=Oo
     obtain ⟨b2,o2,V,gU,aH,cE,dF⟩:=Sl.cell (f:=prC) (k:=2) (fun _=>rfl) HSW.o hkn;cases gU
     replace HS:Aw (FPv I.1.size ⟨d,ap,some ⟨b,o,none⟩,n,c,g⟩ y w l.1.size q ⟨b,o+k*2,none⟩ (some (.string V.key)) (Aa l (prC q).toArray 74).drew):=Hd ⟨L.o,gO.o.drew,fun v hv=>(by cases hv;exact (((Bf l.1.size l).alloc (Le _) (.cells (prC q).toArray 74)).cell (p:=⟨b,o+k*2,none⟩) dG).trans (by have h:=dF 0 _ rfl;simpa using h)),As⟩
     obtain ⟨z,hz⟩:=yG (Un V.key q.key);have HGE:Aw (Op.bytesLess V.key.toList q.key.toList=z):=Hd hz;have HQ3:Aw ((z&&(Vv d j (y.ci,y.rs,y.sp) q&&fvL d (some q.key) (j+1) (I8 d (y.ci,y.rs,y.sp) q) (g.drop (j+1))))=C):=Hd (by have h:=O.o;rw [bP,show J4 g j=some V.key by rw [hk];exact Zb g k V cE,ZL,ZL] at h;rw [<-hz];exact h);have HJ1:Aw (decide ((0:Int)<(j:Int))=true/\decide (0<j)=true):=Hd ⟨QQ Oo,QQ Oo⟩;have P:Aw (IntKind.i64.wrap ((j:Int)-1)=(k:Int)/\(j:Int)-1=(k:Int)/\IntKind.i64.wrap (k:Int)=(k:Int)):=Hd ⟨by rw [ZE];omega,Oo,by rw [ZE];omega⟩;clear aH cE dF hk hz
    all_goals clear hj0
   all_goals
    clear dG;apply WzR (S:=FPv I.1.size ⟨d,ap,some ⟨b,o,none⟩,n,c,g⟩ y w l.1.size q _ _) (R:=Rb) HS.o (fun _ _ h m=>h.next m);apply xr (fun W h=>h.f.b2) underlying34;apply xr (fun W h=>h.p) underlying74;apply xc (fun W h _=>cG.o W h.f.be) (he:=fun W=>by go_simp;rfl)
    iterate 2 apply xA (v:=_)
   case' false=>
    iterate 14 apply xp undef (VH ⟨Af,Af⟩)
    apply xA (v:=_);refine xn fun w6 Y _=>?_
    have D:=Hd Y.f;clear Y;go_wp2;go_ret;exact ⟨by rw [<-O.o,bP];rfl,D.o.be⟩
   case' pos=>
    apply xA (v:=_);apply xp (.bool false) (WL ⟨Af,fun w' _=>by have X:=HJ0.o.1;have h2:=HJ0.o.2;go_simp⟩);apply xA (v:=_)
    iterate 10 apply xp undef (VH ⟨Af,Af⟩)
    iterate 2 apply xA (v:=_)
   case' neg=>
    apply xA (v:=_);apply xp (.bool true) (WL ⟨Af,fun w' _=>by have X:=HJ1.o.1;have h2:=HJ1.o.2;go_simp⟩)
    iterate 2 apply xA (v:=_)
    apply xl (.slice (Ah b o) n c) (fun W h=>(h.f.b1.cell 22).trans rfl);apply xA (v:=_);apply xp (.int .i64 k) (WL ⟨Af,fun w' _=>by have X:=P.o.1;have h2:=P.o.2.1;have h3:=P.o.2.2;go_simp⟩);apply xp (Ag b (o+k*2));apply xA (v:=_);apply xl (.string V.key) (fun W h=>h.c _ rfl);apply xA (v:=_);apply xl (.string q.key) (fun W h=>(h.p.cell 0).trans rfl);apply xp (.bool (!z)) (WL ⟨Af,fun w' _=>by have X:=HGE.o;go_simp⟩)
    iterate 2 apply xA (v:=_)
   all_goals
    refine xn fun w6 Y _=>?_
    have D:=Hd Y.f;have r:=Hd Y.p;clear Y
   case' neg=>
    cases z
    .go_wp2;go_ret;exact ⟨by rw [<-HQ3.o];rfl,D.o.be⟩
    have B:Aw ((Vv d j (y.ci,y.rs,y.sp) q&&fvL d (some q.key) (j+1) (I8 d (y.ci,y.rs,y.sp) q) (g.drop (j+1)))=C):=Hd HQ3.o
   all_goals
    have d1:=D.o.b2.ce 1 (.int .i64 d.org);have p0:=r.o.ce 0 (.string q.key);have p1:=r.o.ce 1 (.string q.rcd);by_cases M:d.org=0
    .have k0:(d.org == 0)=true:=by simpa using M
     obtain ⟨kk,fT⟩:=yG (V8 ((j:Int)+1));have HSLT:=Hd fun W=>fT▸Fn ((j:Int)+1) W
     have jT:Aw (Vv d j (y.ci,y.rs,y.sp) q=(kk.toList == q.key.toList)/\I8 d (y.ci,y.rs,y.sp) q=(y.ci,y.rs,y.sp)):=Hd ⟨by unfold Vv;rw [QK M,fT],by unfold I8;rw [QX Oo]⟩;clear M fT;cases hz:(kk.toList == q.key.toList)
     all_goals go_wp2_with (go_at_call 107;refine yP (HSLT.o _) fun w7 m=>?_;have s:=Hd (FM D.o m);have N:=Hd (r.o.below m r.o.lt);have p07:=N.o.ce 0 (.string q.key);clear m d1 p0 p1)
     .go_ret;exact ⟨by rw [<-B.o,jT.o.1,hz];rfl,s.o.be⟩
     .go_roundw
      .exact ⟨j+1,y,Oo,Au,by rw [Zb g j q HG.o,<-B.o,jT.o.1,jT.o.2,hz,XL],by have:=J.o;omega,s.o⟩
      .exact At
    have k0:(d.org == 0)=false:=by simpa using M
    by_cases K:d.org=1
    .have k1:(d.org == 1)=true:=by simpa using K
     obtain ⟨kk,Z⟩:=yH ((Vp d q.rcd y.ci y.rs y.sp).1);have HNX:=Hd (Wc d q.rcd y w6 D.o.sl (by have:=J.o;omega));have jT:Aw (Vv d j (y.ci,y.rs,y.sp) q=(kk.toList == q.key.toList)/\I8 d (y.ci,y.rs,y.sp) q=(Vp d q.rcd y.ci y.rs y.sp).2):=Hd ⟨by unfold Vv;rw [QX M,QK K,Z.o],by unfold I8;rw [QK K]⟩;clear M K;cases hz:(kk.toList == q.key.toList)
     all_goals go_wp2_with (first|(with_reducible refine yL 168 4 D.o.b3 ?_)|(with_reducible refine yL 34 3 D.o.b2 ?_)|(go_at_call 108;refine HNX.o.mono ?_;rintro e w7 ⟨z,rfl,aT,bN,hna,m⟩;rw [Z.o];have HZ:=Hd aT;have s:=Hd (FM D.o m);have N:=Hd (r.o.below m r.o.lt);have E:=Hd bN;have HNA:Aw (∀ a,z.A=some a->I.1.size+1<=a.block):=Hd (fun a ha=>by have X:=hna a ha;have h2:=D.o.sz;omega);have HZO:Aw ((edC z).toArray.all (·.oneCell')=true):=Hd (by simp [edC,Value.oneCell']);have HPF:Aw (l.1.size≠I.1.size):=Hd (by have:=HXW.o;omega);have p07:(w7.setRow I.1.size (edC z).toArray).cell? ⟨l.1.size,0,none⟩=some (.string q.key):=(cell_setRow_other w7 _ _ ⟨l.1.size,0,none⟩ HPF.o).trans ((N.o.cell 0).trans rfl);clear aT bN hna m d1 p0 p1)|(with_reducible refine yS 168 4 s.o.b3 HZO.o ?_))
     .go_ret;exact ⟨by rw [<-B.o,jT.o.1,hz];rfl,(vO s.o E.o HNA.o).be⟩
     .have HLZ:Aw (z.n<=j+1):=Hd (by have X:=E.o.len;have h2:=D.o.sl.len;have h3:=Nt d q.rcd y.ci y.rs y.sp;have h4:z.rs=(Vp d q.rcd y.ci y.rs y.sp).2.2.1:=XK (·.2.1) HZ.o;rw [<-h4] at h3;have:=J.o;omega);go_roundw
      .exact ⟨j+1,z,Oo,Au,by rw [Zb g j q HG.o,HZ.o,<-B.o,jT.o.1,jT.o.2,hz,XL],HLZ.o,vO s.o E.o HNA.o⟩
      .exact At
    have k1:(d.org == 1)=false:=by simpa using K
    have HQY:Aw (fvL d (some q.key) (j+1) (y.ci,y.rs,y.sp) (g.drop (j+1))=C):=Hd (by have h:=B.o;unfold Vv I8 at h;rw [QX M,QX K,QX K,XL] at h;exact h);clear M K;go_wp2;go_roundw
    .exact ⟨j+1,y,Oo,Au,by rw [Zb g j q HG.o];exact HQY.o,by have:=J.o;omega,D.o⟩
    .exact At
  .obtain rfl:j=n:=Oo
   obtain rfl:C=true:=by rw [<-aX.o,WP (by rw [HL.o];exact Le _)];rfl
   go_wp2;go_ret;exact ⟨rfl,H.o.be⟩
end
def Srt (l:List Pr):Prop:=l.Pairwise fun p q=>Un p.key q.key=true
def Xs {a b:Bz} (h:(a.toList == b.toList)=true):a=b:=by
 have c:a.toList=b.toList:=by simpa using h
 rw [Vb,Vb] at c;exact Ev c
def GH (a:Bz):(a.toList == a.toList)=true:=Am
def N6 {a b:Bz} (h:a≠b):(a.toList == b.toList)=false:=by
 cases c:(a.toList == b.toList) with
 |false=>rfl
 |true=>exact absurd (Xs c) h
def xX {a b:Bz} (h:Un a b=false):a=b\/Un b a=true:=by
 have c:=F2 a b;rw [h] at c;by_cases e:a=b
 .exact .inl e
 .rw [QW e] at c;exact .inr c
def Lb {p:Pr} {t:List Pr} (h:Srt (p::t)):Srt t/\∀ q∈t,Un p.key q.key=true:=⟨(XJ.1 h).2,(XJ.1 h).1⟩
def Ky:List Pr->Bz->Bz->List Pr
 | [],k,r=>[⟨k,r⟩]
 |p::t,k,r=>if Un p.key k=true then p::Ky t k r else if p.key=k then ⟨k,r⟩::t else ⟨k,r⟩::p::t
def AA:List Pr->Bz->List Pr
 | [],_=>[]
 |p::t,k=>if Un p.key k=true then p::AA t k else if p.key=k then t else p::t
def Wz {p:Pr} {t:List Pr} {k:Bz} (h:Un p.key k=true):(p::t).findIdx (geK k)=t.findIdx (geK k)+1:=by
 have:geK k p=false:=by unfold geK;rw [h];rfl
 rw [ZF,this];rfl
def PA {p:Pr} {t:List Pr} {k:Bz} (h:Un p.key k=false):(p::t).findIdx (geK k)=0:=by
 have:geK k p=true:=by unfold geK;rw [h];rfl
 rw [ZF,this];rfl
def vu {p:Pr} {t:List Pr} {k:Bz} (h:Un p.key k=true):Y6 (p::t) k=Y6 t k:=by
 unfold Y6;rw [Wz h,Gn]
def C5 {p:Pr} {t:List Pr} {k:Bz} (h:Un p.key k=false):Y6 (p::t) k=(p.key.toList == k.toList):=by
 unfold Y6;rw [PA h];rfl
def vt (k:Bz):Y6 [] k=false:=rfl
def TT:∀ (l:List Pr) (k r:Bz),(if Y6 l k=true then l.set (l.findIdx (geK k)) ⟨k,r⟩ else IS l (l.findIdx (geK k)) k r)=Ky l k r
 | [],k,r=>by rw [vt];rfl
 |p::t,k,r=>by
  unfold Ky;cases a:Un p.key k with
  |true=>
   rw [vu a,Wz a,<-TT t k r,QK rfl];split
   .rfl
   .rfl
  |false=>
   rw [C5 a,PA a,QX ZP];by_cases e:p.key=k
   .rw [QK e,e,GH,QK rfl];rfl
   .rw [QX e,N6 e,QX ZP];rfl
def Al:∀ (l:List Pr) (k:Bz),(if Y6 l k=true then l.eraseIdx (l.findIdx (geK k)) else l)=AA l k
 | [],k=>by rw [vt];rfl
 |p::t,k=>by
  unfold AA;cases a:Un p.key k with
  |true=>
   rw [vu a,Wz a,<-Al t k,QK rfl];split
   .rfl
   .rfl
  |false=>
   rw [C5 a,PA a,QX ZP];by_cases e:p.key=k
   .rw [QK e,e,GH,QK rfl];rfl
   .rw [QX e,N6 e,QX ZP]
def Rx:∀ (l:List Pr) (k r:Bz) (q:Pr),q∈Ky l k r->q.key=k\/q∈l
 | [],k,r,q,h=>by
  rw [Ky,QT] at h;subst h;exact .inl rfl
 |p::t,k,r,q,h=>by
  unfold Ky at h;split at h
  .rcases QH.1 h with h|h
   .exact .inr (h▸QP)
   .rcases Rx t k r q h with h|h
    .exact .inl h
    .exact .inr (QN _ h)
  .split at h
   .rcases QH.1 h with h|h
    .subst h;exact .inl rfl
    .exact .inr (QN _ h)
   .rcases QH.1 h with h|h
    .subst h;exact .inl rfl
    .exact .inr h
def Bv:∀ (l:List Pr) (k r:Bz),Srt l->Srt (Ky l k r)
 | [],k,r,_=>by unfold Ky;exact XJ.2 ⟨fun q c=>by (cases c),JB⟩
 |p::t,k,r,h=>by
  obtain ⟨g,f⟩:=Lb h;unfold Ky;split
  .rename_i hl;refine XJ.2 ⟨fun q c=>?_,Bv t k r g⟩;rcases Rx t k r q c with e|e
   .rw [e];exact hl
   .exact f q e
  .rename_i hl;split
   .rename_i e;exact XJ.2 ⟨fun q c=>by show Un k q.key=true;rw [<-e];exact f q c,g⟩
   .rename_i e
    have d:Un k p.key=true:=by
     rcases xX (a:=p.key) (b:=k) (by simpa using hl) with d|d
     .exact absurd d e
     .exact d
    refine XJ.2 ⟨fun q c=>?_,h⟩;rcases QH.1 c with rfl|c
    .exact d
    .exact Iw d (f q c)
def FT:∀ (l:List Pr) (k:Bz),(AA l k).Sublist l
 | [],k=>IJ _
 |p::t,k=>by
  unfold AA;split
  .exact (FT t k).cons_cons p
  .split
   .exact UK _ _
   .exact IJ _
def tH (l:List Pr) (k:Bz) (h:Srt l):Srt (AA l k):=List.Pairwise.sublist (FT l k) h
def Py (d:DSet):∀ (b:List Pr) (a:Option Bz) (j:Nat) (s:Int×List Bz×Int),fvL d a j s b=true->Srt b/\∀ q,a=some q->∀ p∈b,Un q p.key=true
 | [],a,j,s,_=>⟨JB,fun q _ p m=>by cases m⟩
 |p::r,a,j,s,h=>by
  unfold fvL at h;simp only [QU] at h;obtain ⟨⟨⟨o,i⟩,t⟩,l⟩:=h;obtain ⟨g,n⟩:=Py d r (some p.key) (j+1) _ l;have e:=n p.key rfl;refine ⟨XJ.2 ⟨e,g⟩,fun q k x c=>?_⟩;subst k;have f:Un q p.key=true:=i;rcases QH.1 c with rfl|c
  .exact f
  .exact Iw f (e x c)
def Ce {d:DSet} {b:Int} {a:List Pr} (h:Vi d b a=true):Srt a:=by
 unfold Vi at h;simp only [QU] at h;exact (Py d a none 0 _ h.2).1
end Go.Proofs.YtdleakjejodjjaaGreatDoor
