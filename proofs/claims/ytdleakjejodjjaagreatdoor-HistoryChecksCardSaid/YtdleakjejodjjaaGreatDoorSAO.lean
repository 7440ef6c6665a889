/- Of the history laws. -/
import Derived.Test.YtdleakjejodjjaaGreatDoorSAJ
import Derived.Test.YtdleakjejodjjaaGreatDoorSAI
namespace Go.Proofs.YtdleakjejodjjaaGreatDoor
open Tryz
set_option linter.defProp false
set_option linter.unusedVariables false
set_option linter.unusedSimpArgs false
set_option maxRecDepth 100000
set_option maxHeartbeats 20000000
open Go.RowKit
structure Gra where
 who:Bz
 group:Bool
 level:Int
def grC (g:Gra):List Value:=[.string g.who,.bool g.group,.int .i64 g.level]
structure En where
 kind:Int
 name:Bz
 d:DSet
 alts:List Int
 used:Int
 limit:Int
 last:Int
 empty:Bool
 owner:Bz
 target:Bz
 catalog:Int
 level:Int
 grants:List Gra
structure EnA where
 aA:Option Addr
 aC:Nat
 gA:Option Addr
 gC:Nat
def enC (e:En) (a:EnA):List Value:=[.int .i64 e.kind,.string e.name,.int .i64 e.d.id,.int .i64 e.d.org,.int .i64 e.d.fmt,.int .i64 e.d.len,.int .i64 e.d.blk,.int .i64 e.d.kat,.int .i64 e.d.kln,.int .i64 e.d.itv,.int .i64 e.d.area,.int .i64 e.d.fi,.int .i64 e.d.fa,.int .i64 e.d.base,.int .i64 e.d.aat,.int .i64 e.d.aln,.bool e.d.uniq,.int .i64 e.d.cls,.string e.d.vol,.string e.d.own,.int .i64 e.d.cre,.int .i64 e.d.exp,.bool e.d.arch,
 .slice a.aA e.alts.length a.aC,.int .i64 e.used,.int .i64 e.limit,.int .i64 e.last,.bool e.empty,.string e.owner,.string e.target,.int .i64 e.catalog,.int .i64 e.level,.slice a.gA e.grants.length a.gC]
def qj (e:En) (a:EnA):(enC e a).length=33:=rfl
def Um (e:En) (a:EnA):(enC e a).toArray.all (·.oneCell')=true:=by simp [enC,Value.oneCell']
def dZ:DSet:=⟨0,0,0,0,0,0,0,0,0,0,0,0,0,0,false,0,⟨#[]⟩,⟨#[]⟩,0,0,false⟩
def enZ:En:=⟨0,⟨#[]⟩,dZ,[],0,0,0,false,⟨#[]⟩,⟨#[]⟩,0,0,[]⟩
def enN:EnA:=⟨none,0,none,0⟩
structure EW (S:List Nat) (w:Wd) (e:En) (a:EnA):Prop where
 sa:Sl Xg 1 w w.1.size a.aA e.alts.length a.aC e.alts
 sg:Sl grC 3 w w.1.size a.gA e.grants.length a.gC e.grants
 na:∀ p,a.aA=some p->0<e.alts.length->p.block ∉ S
 ng:∀ p,a.gA=some p->0<e.grants.length->p.block ∉ S
structure Sm (e:En):Prop where
 nm:e.name.size<=1000
 vo:e.d.vol.size<=1000
 ow:e.d.own.size<=1000
 eo:e.owner.size<=1000
 ta:e.target.size<=1000
 la:e.alts.length<=5
 lg:e.grants.length<=9
 al:∀ n∈e.alts,0<=n/\n<=9223372036854775807
 gr:∀ g∈e.grants,g.who.size<=1000/\0<=g.level/\g.level<=9223372036854775807
 nu:∀ n∈[e.d.id,e.d.org,e.d.fmt,e.d.len,e.d.blk,e.d.kat,e.d.kln,e.d.itv,e.d.area,e.d.fi,e.d.fa,e.d.base,e.d.aat,e.d.aln,e.d.cls,e.d.cre,e.d.exp,e.used,e.limit,e.last,e.catalog,e.level],0<=n/\n<=9223372036854775807
def Sl.off {α:Type} {f:α->List Value} {k:Nat} {w w':Wd} {A:Option Addr} {n c:Nat} {l:List α} {S:List Nat} (h:Sl f k w w.1.size A n c l) (g:Far S w w') (hn:∀ p,A=some p->0<n->p.block ∉ S):Sl f k w' w'.1.size A n c l:=by
 refine ⟨h.cap,h.len,?_⟩;have i:=h.rd;refine ⟨i.1,fun a=>?_⟩;obtain ⟨b,o,e,d,q⟩:=i.2 a;refine ⟨b,o,e,WK d g.size,fun j u m=>?_⟩;rw [<-q j u m];exact WO (g.block b d (hn _ e a))
def EW.far {S T:List Nat} {w w':Wd} {e:En} {a:EnA} (h:EW S w e a) (f:Far T w w') (g:∀ k∈T,k∈S):EW S w' e a:=
 ⟨h.sa.off f fun p b d c=>h.na p b d (g _ c),h.sg.off f fun p b d c=>h.ng p b d (g _ c),h.na,h.ng⟩
def EW.below {S:List Nat} {w w':Wd} {e:En} {a:EnA} (h:EW S w e a) (b:Below w.1.size w w'):EW S w' e a:=
 h.far (T:=[]) (Far.of_below b) Am
def EW.less {S T:List Nat} {w:Wd} {e:En} {a:EnA} (h:EW S w e a) (f:∀ k∈T,k∈S):EW T w e a:=
 ⟨h.sa,h.sg,fun p b d c=>h.na p b d (f _ c),fun p b d c=>h.ng p b d (f _ c)⟩
def Sl.blk {α:Type} {f:α->List Value} {k:Nat} {w:Wd} {B n c:Nat} {l:List α} {p:Addr} (h:Sl f k w B (some p) n c l) (a:0<n):p.block<B:=by
 obtain ⟨b,o,e,d,_⟩:=h.rd.2 a;injection e with e
 rw [e];exact d
def EW.fresh {S T:List Nat} {w W:Wd} {e:En} {a:EnA} (h:EW T w e a) (m:Below w.1.size w W) (i:∀ k∈S,w.1.size<=k):EW S W e a:=
 have g:=h.below m
 ⟨g.sa,g.sg,fun p c f d=>by
  have b:=h.sa;rw [c] at b;have j:=b.blk f;have l:=i _ d;omega,fun p c f d=>by
  have b:=h.sg;rw [c] at b;have j:=b.blk f;have l:=i _ d;omega⟩
def wrN:Bz->List Int->Bz
 |out,[]=>out
 |out,n::l=>wrN (out++Vu n) l
def Xe:∀ (l:List Int) (a:Bz),(wrN a l).size<=a.size+10*l.length
 | [],a=>by simp [wrN]
 |n::l,a=>by
  have b:=Xe l (a++Vu n);have c:=V6 n;unfold wrN;simp only [QY,QS] at b ⊢;omega
def Q7:∀ (l:List Int) (n:Int) (a:Bz),wrN a (l++[n])=wrN a l++Vu n
 | [],n,a=>rfl
 |m::l,n,a=>by
  show wrN (a++Vu m) (l++[n])=wrN (a++Vu m) l++Vu n;exact Q7 l n _
def L5 {l:List Int} {j:Nat} {n:Int} (a:Bz) (h:l[j]? =some n):wrN a (l.take (j+1))=wrN a (l.take j)++Vu n:=by
 rw [YG,h];exact Q7 _ _ _
def Uj:Nat->Bz->Int->List Int×Bz×Int
 |0,l,e=>([],l,e)
 |k+1,l,e=>((Ur l e).1::(Uj k (Ur l e).2.1 (Ur l e).2.2).1,(Uj k (Ur l e).2.1 (Ur l e).2.2).2)
def X0:∀ (k:Nat) (l:Bz) (e:Int),(Uj k l e).1.length=k
 |0,_,_=>rfl
 |k+1,l,e=>by
  show (_::(Uj k _ _).1).length=k+1;rw [QS,X0 k]
def Y7 (l:Bz) (e:Int):(Ur l e).2.1.size<=l.size:=Zd l e
def Vz (l:Bz) (e:Int):0<=(Ur l e).1/\(Ur l e).1<=1099511627777:=MD (ED l e)
def Zc:∀ (k:Nat) (l:Bz) (e:Int),(Uj k l e).2.1.size<=l.size
 |0,_,_=>Le _
 |k+1,l,e=>Lx (Zc k _ _) (Y7 l e)
def Zn:∀ (k:Nat) (l:Bz) (e:Int),∀ n∈(Uj k l e).1,0<=n/\n<=1099511627777
 |0,_,_,n,h=>by cases h
 |k+1,l,e,n,h=>by
  rcases QH.1 h with rfl|h
  .exact Vz l e
  .exact Zn k _ _ n h
def It:∀ (k:Nat) (l:Bz) (e:Int),Uj (k+1) l e=((Uj k l e).1++[(Ur (Uj k l e).2.1 (Uj k l e).2.2).1],(Ur (Uj k l e).2.1 (Uj k l e).2.2).2)
 |0,l,e=>rfl
 |k+1,l,e=>by
  have h:=It k (Ur l e).2.1 (Ur l e).2.2;show ((Ur l e).1::(Uj (k+1) (Ur l e).2.1 (Ur l e).2.2).1,(Uj (k+1) (Ur l e).2.1 (Ur l e).2.2).2)=_;rw [h];rfl
def Z7:Array Value->List Nat->List Int->Array Value
 |cs,o::os,n::l=>Z7 (cs.setIfInBounds o (.int .i64 n)) os l
 |cs,_,_=>cs
def Ll:∀ (a:List Nat) (l:List Int) (cs:Array Value) (o:Nat) (n:Int),a.length=l.length->Z7 cs (a++[o]) (l++[n])=(Z7 cs a l).setIfInBounds o (.int .i64 n)
 | [],[],cs,o,n,_=>rfl
 |p::a,m::l,cs,o,n,h=>Ll a l _ o n (by simpa using h)
 | [],_::_,_,_,_,h=>by simp at h
 |_::_,[],_,_,_,h=>by simp at h
def Nc:∀ (a:List Nat) (l:List Int) (cs:Array Value) (i:Nat),(∃ m,cs[i]? =some (.int .i64 m))->∃ m,(Z7 cs a l)[i]? =some (.int .i64 m)
 | [],_,cs,i,h=>by unfold Z7;exact h
 |o::a,[],cs,i,h=>by unfold Z7;exact h
 |o::a,n::l,cs,i,h=>by
  unfold Z7;refine Nc a l _ i ?_;obtain ⟨m,b⟩:=h;by_cases c:o=i
  .subst c;refine ⟨n,?_⟩;rw [XR];exact (WA.1 b).1
  .exact ⟨m,by rw [QD c];exact b⟩
def If {S:List Nat} {w w':Wd} {p:Addr} {v:Value} (h:w.cell? p=some v) (c:Far S w w') (b:p.block ∉ S):w'.cell? p=some v:=by
 have d:p.block<w.1.size:=by
  rcases ZW p.block w.1.size with a|a
  .exact a
  .simp [World.cell?,XH a] at h
 rw [WO (c.block p.block d b)];exact h
def PP (c g h cc:Nat) (q:List Nat) (l:List Int) (a:Bz) (w:Wd) (y:Cw w c a) (f:a.size+10*l.length<=1000000000) (I:l.length<=1000) (d:q.length=l.length)
  (s:∀ (j o:Nat),q[j]? =some o->w.cell? ⟨h,j,none⟩=some (Ag g o))
  (v:∀ (j o:Nat) (n:Int),q[j]? =some o->l[j]? =some n->w.cell? ⟨g,o,none⟩=some (.int .i64 n)) (t:∀ n∈l,0<=n/\n<=9223372036854775807) (jW:g≠c) (k:h≠c):
  Calls prog 258 #[Ag c 0,.slice (Ah h 0) l.length cc] w fun x w'=>x=.returned (.tuple #[])/\Cw w' c (wrN a l)/\Far [c] w w':=by
 have F:=Hd y;have C:=Hd s;have M:=Hd v;have E:=Hd t;have B:=Hd jW;have L:=Hd k;have J:=Hd d;have H:=Hd f;obtain ⟨n,hn⟩:=yG l.length;rw [hn] at I ⊢;have u:=Hd hn;clear y s v t jW k d hn f;go_wp2;go_loopw [8] (fun i wr=>∃ j:Nat,j<=n/\i=.int .i64 j/\Cw wr c (wrN a (l.take j))/\Far [c] w wr) (fun i _=>n-(intOf i).toNat)
 .exact ⟨0,Z0 _,rfl,F.o,Far.refl _ _⟩
 .obtain ⟨j,hj,rfl,eW,gW⟩:=hrel;have p:=Hd eW;have b:=Hd gW;clear eW gW;by_cases z:j<n
  .have hjl:j<l.length:=by rw [u.o];exact z
   obtain ⟨o,f⟩:∃ o,q[j]? =some o:=⟨_,QV (by rw [J.o];exact hjl)⟩
   obtain ⟨m,r⟩:∃ m,l[j]? =some m:=⟨_,QV hjl⟩
   have Q:=If (C.o j o f) b.o (by simpa using L.o);have c1:=If (M.o j o m f r) b.o (by simpa using B.o);have e:=E.o m (QJ r)
   have hz:(wrN a (l.take j)).size<=1000000000:=by
    have D:=Xe (l.take j) a;have O:=H.o;rw [WX] at D;omega
   have A:=Hd (Jl c g o (wrN a (l.take j)) m wr p.o c1 hz e.1 e.2);have N:=Hd (L5 a r);clear c1 e hz f r hjl;go_wp2_with (go_at_call 271;refine yN2 A.o fun P G K=>?_);go_roundw
   .exact ⟨j+1,Oo,Au,by rw [N.o];exact G.o,b.o.trans K.o⟩
   .exact At
  .have gG:j=n:=Oo
   subst gG;go_wp2
   go_end0
   exact ⟨rfl,by have h:=p.o;rwa [WU (by rw [u.o];exact Le _)] at h,b.o⟩
def PQ (c r g h cc n:Nat) (t:TypeId) (d:List Nat) (cs:Array Value) (a:Bz) (b:Int) (w:Wd) (I:a.size<=maxLen) (L:Cr w c r) (H:Rdr w r a b) (D:Blk w g t cs) (hn:n<=1000) (f:d.length=n)
  (G:∀ (j o:Nat),d[j]? =some o->w.cell? ⟨h,j,none⟩=some (Ag g o))
  (K:∀ (j o:Nat),d[j]? =some o->∃ m:Int,cs[o]? =some (.int .i64 m)) (s:r≠g) (v:h≠r) (l:h≠g) (y:c≠r) (u:c≠g):
  Calls prog 258 #[Ag c 0,.slice (Ah h 0) n cc] w fun x w'=>x=.returned (.tuple #[])/\Rdr w' r (Uj n a b).2.1 (Uj n a b).2.2/\Blk w' g t (Z7 cs d (Uj n a b).1)/\Far [r,g] w w':=by
 have P:=Hd L;have Q:=Hd H;have A:=Hd D;have V:=Hd G;have U:=Hd K;have p:=Hd (And.intro s (And.intro v (And.intro l (And.intro y u))));have z:=Hd f;have S:=Hd I;clear L H D G K s v l y u f I;go_wp2;go_loopw [8] (fun i wr=>∃ j:Nat,j<=n/\i=.int .i64 j/\Rdr wr r (Uj j a b).2.1 (Uj j a b).2.2/\Blk wr g t (Z7 cs (d.take j) (Uj j a b).1)/\Far [r,g] w wr) (fun i _=>n-(intOf i).toNat)
 .exact ⟨0,Z0 _,rfl,Q,A,Far.refl _ _⟩
 .obtain ⟨j,hj,rfl,fO,hgb,gW⟩:=hrel;have E:=Hd fO;have q:=Hd hgb;have e:=Hd gW;clear fO hgb gW;by_cases M:j<n
  .obtain ⟨o,ho⟩:∃ o,d[j]? =some o:=⟨_,QV (by rw [z.o];exact M)⟩
   have Y:=If (V j o ho) e (by simp only [QH,QM,XP,not_or];exact ⟨p.2.1,p.2.2.1⟩);obtain ⟨m,J⟩:=Nc (d.take j) (Uj j a b).1 cs o (U j o ho);have k:Cr wr c r:=Blk.far' P e (by simp only [QH,QM,XP,not_or];exact ⟨p.2.2.2.1,p.2.2.2.2⟩);have O:=Hd (ER c r g o t (Z7 cs (d.take j) (Uj j a b).1) m (Uj j a b).2.1 (Uj j a b).2.2 wr (Lx (Zc j a b) S) k E q J p.1);have C:d.take (j+1)=d.take j++[o]:=by rw [YG,ho];rfl
   have F:(d.take j).length=(Uj j a b).1.length:=by rw [X0,WX,z.o];omega
   have W:Aw (Z7 cs (d.take (j+1)) (Uj (j+1) a b).1=(Z7 cs (d.take j) (Uj j a b).1).setIfInBounds o (.int .i64 (Ur (Uj j a b).2.1 (Uj j a b).2.2).1)):=Hd (by rw [C,It];exact Ll _ _ _ _ _ F);have B:Aw ((Uj (j+1) a b).2=(Ur (Uj j a b).2.1 (Uj j a b).2.2).2):=Hd (by rw [It]);clear J k C F ho;go_wp2_with (go_at_call 271;refine yN3 O fun X R T N=>?_);go_roundw
   .exact ⟨j+1,Oo,Au,by rw [B.o];exact R,by rw [W.o];exact T,e.trans N⟩
   .exact At
  .have gG:j=n:=Oo
   subst gG;go_wp2
   go_end0
   exact ⟨rfl,E,by have h:=q.o;rwa [WU (by rw [z.o];exact Le _)] at h,e⟩
section
def Kn (out:Bz) (e:En):Bz:=
 wrN (wrN (wrN (wrN out [e.d.id,e.d.org,e.d.fmt,e.d.len,e.d.blk,e.d.kat,e.d.kln,e.d.itv,e.d.area,e.d.fi,e.d.fa,e.d.base,e.d.aat,e.d.aln]++EQ e.d.uniq++Vu e.d.cls++Vh e.d.vol++Vh e.d.own) [e.d.cre,e.d.exp]++EQ e.d.arch++Vu e.alts.length) e.alts) [e.used]
structure DwI (c g:Nat) (e:En) (a:EnA) (w W:Wd) (out:Bz):Prop where
 cw:Cw W c out
 bg:Blk W g 144 (enC e a).toArray
 ew:EW [c] W e a
 fa:Far [c] w W
 ne:g≠c
section
variable {c g:Nat} {e:En} {a:EnA} {w W:Wd} {out:Bz}
def DwI.step (h:DwI c g e a w W out) {d:Wd} {f:Bz} (j:Cw d c f) (b:Far [c] W d):DwI c g e a w d f:=
 ⟨j,h.bg.far' b (by simpa using h.ne),h.ew.far b (fun k i=>i),h.fa.trans b,h.ne⟩
def DwI.cell (h:DwI c g e a w W out) (i:Nat) (v:Value) (b:(enC e a)[i]? =some v):W.cell? ⟨g,i,none⟩=some v:=by
 rw [h.bg.cell];simpa using b
def DwI.alloc (h:DwI c g e a w W out) (o:Obj):DwI c g e a w (W.alloc o) out:=h.step (Blk.alloc h.cw o) ((Far.refl _ _).alloc o)
def DwI.drew (h:DwI c g e a w W out):DwI c g e a w W.drew out:=h.step (Blk.drew h.cw) ((Far.refl _ _).drewN 1)
def DwI.lt (h:DwI c g e a w W out):c<W.1.size/\g<W.1.size:=⟨Blk.lt h.cw,h.bg.lt⟩
end
def RC (g:Nat) (b:List Nat):Array Value:=(b.map fun o=>(Ag g o)).toArray
def Ea {W:Wd} {h g:Nat} {t:TypeId} {b:List Nat} (f:Blk W h t (RC g b)):∀ (j o:Nat),b[j]? =some o->W.cell? ⟨h,j,none⟩=some (Ag g o):=by
 intro j o d;rw [f.cell];simp [RC,d]
def G6 {W:Wd} {g:Nat} {b:List Nat} {l:List Int} (h:∀ p∈b.zip l,W.cell? ⟨g,p.1,none⟩=some (.int .i64 p.2)):∀ (j o:Nat) (n:Int),b[j]? =some o->l[j]? =some n->W.cell? ⟨g,o,none⟩=some (.int .i64 n):=by
 intro j o n d hn;refine h (o,n) (QJ (i:=j) ?_);rw [List.getElem?_zip_eq_some];exact ⟨d,hn⟩
def Vr (b:Bool):(EQ b).size=1:=by cases b<;>rfl
abbrev sK (w:Wd) (g) (n_):=w.alloc (.cells #[.pointer (some ⟨g,2,n_⟩),.pointer (some ⟨g,3,n_⟩),.pointer (some ⟨g,4,n_⟩),.pointer (some ⟨g,5,n_⟩),.pointer (some ⟨g,6,n_⟩),.pointer (some ⟨g,7,n_⟩),.pointer (some ⟨g,8,n_⟩),.pointer (some ⟨g,9,n_⟩),.pointer (some ⟨g,10,n_⟩),.pointer (some ⟨g,11,n_⟩),.pointer (some ⟨g,12,n_⟩),.pointer (some ⟨g,13,n_⟩),.pointer (some ⟨g,14,n_⟩),.pointer (some ⟨g,15,n_⟩)] 208)
def mg (c g:Nat) (e:En) (a:EnA) (out:Bz) (w:Wd) (hc:Cw w c out) (U:Blk w g 144 (enC e a).toArray) (hw:EW [c] w e a) (R:Sm e) (ho:out.size<=100000) (jW:g≠c):
  Calls prog 254 #[Ag c 0,Ag g 0] w fun x w'=>x=.returned (.tuple #[])/\Cw w' c (Kn out e)/\Far [c] w w':=by
 obtain ⟨A,C,gA,gC⟩:=a;have d:DwI c g e ⟨A,C,gA,gC⟩ w w out:=⟨hc,U,hw,Far.refl _ _,jW⟩
 have iB:=d.lt;have hla:=R.la;clear hc U hw;unfold Kn;have q1:=Xe [e.d.id,e.d.org,e.d.fmt,e.d.len,e.d.blk,e.d.kat,e.d.kln,e.d.itv,e.d.area,e.d.fi,e.d.fa,e.d.base,e.d.aat,e.d.aln] out;simp only [QS,XS] at q1;obtain ⟨o1,dW⟩:=yG (wrN out [e.d.id,e.d.org,e.d.fmt,e.d.len,e.d.blk,e.d.kat,e.d.kln,e.d.itv,e.d.area,e.d.fi,e.d.fa,e.d.base,e.d.aat,e.d.aln]);rw [dW];obtain ⟨o2,bL⟩:=yG (o1++EQ e.d.uniq);rw [bL];obtain ⟨o3,iU⟩:=yG (o2++Vu e.d.cls);rw [iU];obtain ⟨o4,gL⟩:=yG (o3++Vh e.d.vol);rw [gL];obtain ⟨G,fP⟩:=yG (o4++Vh e.d.own);rw [fP];obtain ⟨V,gQ⟩:=yG (wrN G [e.d.cre,e.d.exp]);rw [gQ];obtain ⟨o7,B⟩:=yG (V++EQ e.d.arch);rw [B];obtain ⟨E,v⟩:=yG (o7++Vu e.alts.length);rw [v];rw [dW] at q1;have q2:o2.size=o1.size+1:=by rw [<-bL,QY,Vr]
 have q3:o3.size<=o2.size+10:=by have:=V6 e.d.cls;rw [<-iU,QY];omega
 have q4:o4.size<=o3.size+1010:=by have:=Ut e.d.vol;have:=R.vo;rw [<-gL,QY];omega
 have q5:G.size<=o4.size+1010:=by have:=Ut e.d.own;have:=R.ow;rw [<-fP,QY];omega
 have q6:V.size<=G.size+20:=by have:=Xe [e.d.cre,e.d.exp] G;rw [<-gQ];simp only [QS,XS] at this;omega
 have q7:o7.size=V.size+1:=by rw [<-B,QY,Vr]
 have q8:E.size<=o7.size+10:=by have:=V6 e.alts.length;rw [<-v,QY];omega
 have z1:o1.size<=1000000000:=Oo
 have z2:o2.size<=1000000000:=Oo
 have z3:o3.size<=1000000000:=Oo
 have z4:o4.size<=1000000000:=Oo
 have z5:G.size<=1000000000:=Oo
 have z6:V.size<=1000000000:=Oo
 have z7:o7.size<=1000000000:=Oo
 have z0:out.size+10*14<=1000000000:=Oo
 have z5':G.size+10*2<=1000000000:=Oo
 have z8:E.size+100<=1000000000:=Oo
 have y:=And.intro z0 (And.intro z1 (And.intro z2 (And.intro z3 (And.intro z4 (And.intro z5' (And.intro z6 (And.intro z7 z8)))))));have L:=And.intro dW (And.intro bL (And.intro iU (And.intro gL (And.intro fP (And.intro gQ (And.intro B v))))));clear q1 q2 q3 q4 q5 q6 q7 q8 z0 z1 z2 z3 z4 z5 z5' z6 z7 z8 dW bL iU gL fP gQ B v ho;have HVO:e.d.vol.size<=1000000000/\e.d.own.size<=1000000000:=⟨by have:=R.vo;omega,by have:=R.ow;omega⟩
 have hnu:=R.nu;simp only [QH,QM,XP,WR,YR] at hnu;obtain ⟨nu0,nu1,X,nu3,nu4,nu5,nu6,nu7,nu8,nu9,J,I,M,O,P,s,r,H,nu18,nu19,Z,nu21⟩:=hnu;have z:=And.intro P (And.intro s (And.intro r H));have HNL:∀ n∈[e.d.id,e.d.org,e.d.fmt,e.d.len,e.d.blk,e.d.kat,e.d.kln,e.d.itv,e.d.area,e.d.fi,e.d.fa,e.d.base,e.d.aat,e.d.aln],0<=n/\n<=9223372036854775807:=by simp only [QH,QM,XP,WR,YR];exact ⟨nu0,nu1,X,nu3,nu4,nu5,nu6,nu7,nu8,nu9,J,I,M,O⟩
 have HNC:∀ n∈[e.d.cre,e.d.exp],0<=n/\n<=9223372036854775807:=by simp only [QH,QM,XP,WR,YR];exact ⟨s,r⟩
 clear nu0 nu1 X nu3 nu4 nu5 nu6 nu7 nu8 nu9 J I M O P s r H nu18 nu19 Z nu21;have p:DwI c g e ⟨A,C,gA,gC⟩ w (sK w g none).drew out:=(d.alloc _).drew;have dJ:w.1.size≠c:=by have:=iB.1;omega
 have HPT:Blk (sK w g none).drew w.1.size 208 (RC g [2,3,4,5,6,7,8,9,10,11,12,13,14,15]):=(Blk.new w _ _).drew
 have wJ:Calls prog 258 #[Ag c 0,.slice (Ah w.1.size 0) 14 14] (sK w g none).drew fun x w'=>x=.returned (.tuple #[])/\Cw w' c o1/\Far [c] (sK w g none).drew w':=by rw [<-L.1];exact PP c g w.1.size 14 [2,3,4,5,6,7,8,9,10,11,12,13,14,15] [e.d.id,e.d.org,e.d.fmt,e.d.len,e.d.blk,e.d.kat,e.d.kln,e.d.itv,e.d.area,e.d.fi,e.d.fa,e.d.base,e.d.aat,e.d.aln] out _ p.cw y.1 Am rfl (Ea HPT) (G6 (by simp only [UB,UC,QH,QM,XP,WR,YR];exact ⟨p.cell 2 _ rfl,p.cell 3 _ rfl,p.cell 4 _ rfl,p.cell 5 _ rfl,p.cell 6 _ rfl,p.cell 7 _ rfl,p.cell 8 _ rfl,p.cell 9 _ rfl,p.cell 10 _ rfl,p.cell 11 _ rfl,p.cell 12 _ rfl,p.cell 13 _ rfl,p.cell 14 _ rfl,p.cell 15 _ rfl⟩)) HNL jW dJ
 clear dJ;go_in;go_wp2_with fail;refine Rw (S:=fun _=>True) Ak trivial (fun D=>?_)
 iterate 43 apply tB D
 apply Aq [43];refine Rc (fun K u=>?_) ?_
 .go_simp;refine u.out _ _ trivial (fun D=>?_);clear u K;try simp only [Act.put,Sv,Sz,Sw]
  apply Aq [44];refine Rc (fun K u=>?_) ?_
  .go_simp;apply wJ.mono;rintro x w1 ⟨rfl,l,m⟩;simp only [];have d:=p.step l m;clear l m;refine u.out _ _ trivial (fun D=>?_);clear u K;try simp only [Act.put,Sv,Sz,Sw]
   refine Ad Ak ?_ _;clear D p HPT wJ
   go_wp2_with (first|(go_at_call 259;(with_reducible show Calls _ _ #[_,.pointer (some ⟨_,16,none⟩)] _ _);refine (FX c g 16 o1 e.d.uniq _ d.cw y.2.1 (d.cell 16 _ rfl)).mono ?_;rintro x q ⟨rfl,l,m⟩;rw [L.2.1] at l;have d:=d.step l m;clear l m)|(go_at_call 271;(with_reducible show Calls _ _ #[_,.pointer (some ⟨_,17,none⟩)] _ _);refine (Jl c g 17 o2 e.d.cls _ d.cw (d.cell 17 _ rfl) y.2.2.1 z.1.1 z.1.2).mono ?_;rintro x q ⟨rfl,l,m⟩;rw [L.2.2.1] at l;have d:=d.step l m;clear l m)|(go_at_call 260;(with_reducible show Calls _ _ #[_,.pointer (some ⟨_,18,none⟩)] _ _);refine (Kb c g 18 o3 e.d.vol _ d.cw (d.cell 18 _ rfl) y.2.2.2.1 HVO.1).mono ?_;rintro x q ⟨rfl,l,m⟩;rw [L.2.2.2.1] at l;have d:=d.step l m;clear l m)|(go_at_call 260;(with_reducible show Calls _ _ #[_,.pointer (some ⟨_,19,none⟩)] _ _);refine (Kb c g 19 o4 e.d.own _ d.cw (d.cell 19 _ rfl) y.2.2.2.2.1 HVO.2).mono ?_;rintro x q ⟨rfl,l,m⟩;rw [L.2.2.2.2.1] at l;have d:=d.step l m;clear l m))
   have bE:DwI c g e ⟨A,C,gA,gC⟩ w (Aa q.drew #[Ag g 20,Ag g 21] 208) G:=d.drew.alloc _;have HLT5:=d.lt;have cR:q.1.size≠c:=by have:=HLT5.1;omega
   have N:Aw (Blk (Aa q.drew #[Ag g 20,Ag g 21] 208) q.1.size 208 (RC g [20,21])):=Hd (Blk.new q.drew _ _);have Q:Aw (Calls prog 258 #[Ag c 0,.slice (Ah q.1.size 0) 2 2] (Aa q.drew #[Ag g 20,Ag g 21] 208) fun x w'=>x=.returned (.tuple #[])/\Cw w' c V/\Far [c] (Aa q.drew #[Ag g 20,Ag g 21] 208) w'):=Hd (by rw [<-L.2.2.2.2.2.1];exact PP c g q.1.size 2 [20,21] [e.d.cre,e.d.exp] G _ bE.cw y.2.2.2.2.2.1 Am rfl (Ea N) (G6 (by simp only [UB,UC,QH,QM,XP,WR,YR];exact ⟨bE.cell 20 _ rfl,bE.cell 21 _ rfl⟩)) HNC jW cR);clear cR
   refine Rw (S:=fun _=>True) Ak trivial (fun D=>?_)
   iterate 7 refine tB D ?_
   refine Aq [7] ?_;refine Rc (fun K u=>?_) ?_
   .go_simp;refine u.out _ _ trivial (fun D=>?_);clear u K;try simp only [Act.put,Sv,Sz,Sw]
    refine Aq [8] ?_;refine Rc (fun K u=>?_) ?_
    .go_simp;refine Q.mono ?_;rintro x w1 ⟨rfl,l,m⟩;simp only [];have d:=Hd (bE.step l m);clear l m;refine u.out _ _ trivial (fun D=>?_);clear u K;try simp only [Act.put,Sv,Sz,Sw]
     refine Ad Ak ?_ _;clear D bE N Q;go_wp2_with (first|(go_at_call 259;(with_reducible show Calls _ _ #[_,.pointer (some ⟨_,22,none⟩)] _ _);refine (FX c g 22 V e.d.arch _ d.cw y.2.2.2.2.2.2.1 (d.cell 22 _ rfl)).mono ?_;rintro x q ⟨rfl,l,m⟩;rw [L.2.2.2.2.2.2.1] at l;have d:=Hd (d.step l m);clear l m;have F:=d.cell 23 (.slice A e.alts.length C) rfl)|(go_at_call 335;refine (SN c o7 e.alts.length 4 _ d.cw y.2.2.2.2.2.2.2.1 Oo Oo Ac Ac).mono ?_;rintro x q ⟨rfl,l,m⟩;rw [L.2.2.2.2.2.2.2] at l;have d:=Hd (d.step l m);have c1:=d.cw.c1;clear F;have F:=d.cell 23 (.slice A e.alts.length C) rfl;clear l m));clear c1 F;go_loopw [115] (fun i wr=>∃ j:Nat,j<=e.alts.length/\i=.int .i64 j/\DwI c g e ⟨A,C,gA,gC⟩ w wr (wrN E (e.alts.take j))) (fun i _=>e.alts.length-(intOf i).toNat)
     .exact ⟨0,Z0 _,rfl,d⟩
     .obtain ⟨j,hj,rfl,hx⟩:=hrel;have d:=Hd hx;clear hx;have t:(wrN E (e.alts.take j)).size<=1000000000:=by have l:=Xe (e.alts.take j) E;have m:=y.2.2.2.2.2.2.2.2;rw [WX] at l;omega
      by_cases aE:j<e.alts.length
      .obtain ⟨b,o,x,hA,hb,U,aB⟩:=Sl.cell (f:=Xg) (k:=1) (fun _=>rfl) d.ew.sa aE;have fV:A=some ⟨b,o,none⟩:=hA;subst fV;have aS:=d.ew.na _ rfl Oo;have cx:=aB 0 _ rfl;simp only [QF,WY] at cx;have hr:=R.al x (QJ U);have dI:=Hd (Jl c b (o+j) (wrN E (e.alts.take j)) x wr d.cw cx t hr.1 hr.2);have HT:=Hd (L5 E U);have F:=d.cell 23 (.slice (Ah b o) e.alts.length C) rfl;clear hA hb U aB aS cx hr t;go_wp2_with (go_at_call 271;refine dI.mono ?_;rintro x q ⟨rfl,l,m⟩;rw [<-HT.o] at l;have d:=Hd (d.step l m);clear l m);go_roundw
       .exact ⟨j+1,Oo,Au,d⟩
       .exact At
      .obtain rfl:j=e.alts.length:=Oo
       have Y:Aw (e.alts.take e.alts.length=e.alts):=Hd (List.take_length);have T:=Hd (by have h:=d.o;rwa [Y] at h);have hz9:(wrN E e.alts).size<=1000000000:=by rw [Y.o] at t;exact t
       have HC9:=Jl c g 24 (wrN E e.alts) e.used wr T.cw (T.cell 24 _ rfl) hz9 z.2.2.2.1 z.2.2.2.2;clear t hz9;go_wp2_with (go_at_call 271;apply HC9.mono;rintro x q ⟨rfl,l,m⟩;have d:=T.step l m;clear l m)
       go_end0
       exact ⟨rfl,d.cw,d.fa⟩
    exact An
   exact An
  exact An
 exact An
end
def jb {α:Type} {l m:List α} (b:l.length=m.length) (h:∀ (t:Nat) (x y:α),l[t]? =some x->m[t]? =some y->x=y):l=m:=by
 refine ZV fun t=>?_
 by_cases a:t<l.length
 .rw [QV a,QV (b▸a)];rw [h t _ _ (QV a) (QV (b▸a))]
 .rw [WM Oo,WM Oo]
def kj {G:Prop} (h:G:=by
  go_wp2;go_roundw
  .refine ⟨j+1,Oo,Au,fun t a b ht ha hb=>?_,HB.o.drew⟩;by_cases e:t=j
   .subst e;rw [fJ.o] at ha;rw [HG2.o] at hb;injection ha with ha;injection hb with hb;rw [<-ha,<-hb];exact bR.o
   .exact HA.o t a b Oo ha hb
  .simp [intOf];omega):G:=h
def ki {G:Prop} (h:G:=by
  .obtain rfl:j=n:=by omega
   have HE:Aw (l1=l2):=Hd (jb (by rw [jZ.o,HL2.o]) fun t x y hx hy=>HA.o t x y (by have:=(QZ.1 hx).1;rw [jZ.o] at this;exact this) hx hy);go_wp2;go_ret;exact ⟨⟨true,rfl,⟨fun _=>HE.o,fun _=>rfl⟩⟩,HB.o⟩):G:=h
def kh {G:Prop} (h:G:=by
  go_wp2;go_ret;exact ⟨⟨false,rfl,⟨fun h=>(by cases h),fun h=>by subst h;exact absurd (jZ.o.symm.trans HL2.o) HNM.o⟩⟩,Bf _ _⟩):G:=h
def AB (A B:Option Addr) (n m p r:Nat) (l1 l2:List Int) (w:Wd) (d:Sl Xg 1 w w.1.size A n p l1) (g:Sl Xg 1 w w.1.size B m r l2) (hn:n<=1000000) (I:m<=1000000):
  Calls prog 283 #[.slice A n p,.slice B m r] w fun e w'=>(∃ z:Bool,e=.returned (.bool z)/\(z=true<->l1=l2))/\Below w.1.size w w':=by
 have jZ:=Hd d.len;have HL2:=Hd g.len;by_cases s:n=m
 .subst s;have H:=Hd d;have J:=Hd g;clear d g I;go_wp2;go_loopw [13] (fun i wr=>∃ j:Nat,j<=n/\i=.int .i64 j/\(∀ (t:Nat) x y,t<j->l1[t]? =some x->l2[t]? =some y->x=y)/\Below w.1.size w wr) (fun i _=>n-(intOf i).toNat)
  .exact ⟨0,Z0 _,rfl,fun t x y h=>absurd h Oo,Bf _ _⟩
  .obtain ⟨j,hj,rfl,hall,aF⟩:=hrel;have HA:=Hd hall;have HB:=Hd aF;clear hall aF;by_cases v:j<n
   .obtain ⟨b1,o1,x,rfl,aL,eQ,hc1⟩:=Sl.cell (f:=Xg) (k:=1) (fun _=>rfl) (H.below HB) v;obtain ⟨o,l,y,rfl,K,D,E⟩:=Sl.cell (f:=Xg) (k:=1) (fun _=>rfl) (J.below HB) v;have fJ:=Hd eQ;have HG2:=Hd D;clear eQ D aL K;have c1:=hc1 0 _ rfl;have c2:=E 0 _ rfl;simp only [QF,WY] at c1 c2;have C:Aw ((wr.drew).cell? ⟨b1,o1+j,none⟩=some (.int .i64 x)/\(wr.drew).cell? ⟨o,l+j,none⟩=some (.int .i64 y)):=Hd ⟨c1,c2⟩;clear hc1 E c1 c2;go_wp2_with fail;refine Rw (S:=fun w'=>w'.cell? ⟨b1,o1+j,none⟩=some (.int .i64 x)/\w'.cell? ⟨o,l+j,none⟩=some (.int .i64 y)) Ak C (fun c=>?_);refine tk 0 (.slice (Ah b1 o1) n p) c ?_;refine tk 1 (.int .i64 j) c ?_;refine tk 2 (Ag b1 (o1+j)) c ?_;refine tj 3 (.int .i64 x) c ?_ (y:=by intro w' q;have F:=q.1;go_simp)
    refine tk 4 (.slice (Ah o l) n r) c ?_;refine tk 5 (.int .i64 j) c ?_;refine tk 6 (Ag o (l+j)) c ?_;refine tj 7 (.int .i64 y) c ?_ (y:=by intro w' q;have F:=q.2;go_simp);refine tk 8 (.bool (x != y)) c ?_;refine Ad Ak ?_ _;clear c C;obtain ⟨z,u⟩:=yH (x != y);rw [u.o];cases z with
    |true=>
     go_wp2;go_ret;exact ⟨⟨false,rfl,⟨fun h=>(by cases h),fun h=>by subst h;have d:=fJ.o;rw [HG2.o] at d;injection d with d;subst d;have g:=u.o;simp at g⟩⟩,HB.drew⟩
    |false=>
     have bR:Aw (x=y):=Hd (by have g:=u.o;simpa using g);exact kj
   exact ki
 .have HNM:=Hd s;have L:((n:Int) != (m:Int))=true:=As
  clear d g s;go_in;exact kh
def Ny (x y:Gra):Bool := !((x.who.toList == y.who.toList)&&(x.group == y.group)&&(x.level == y.level))
def vE {x y:Gra} (h:Ny x y=false):x=y:=by
 obtain ⟨a,b,c⟩:=x;obtain ⟨g,i,c2⟩:=y;unfold Ny at h;simp at h;obtain ⟨⟨d,e⟩,f⟩:=h;rw [Vb,Vb] at d;rw [Ev d,e,f]
def AF (A B:Option Addr) (n m q r:Nat) (l1 l2:List Gra) (w:Wd) (d:Sl grC 3 w w.1.size A n q l1) (g:Sl grC 3 w w.1.size B m r l2) (hn:n<=1000000) (L:m<=1000000):
  Calls prog 284 #[.slice A n q,.slice B m r] w fun e w'=>(∃ z:Bool,e=.returned (.bool z)/\(z=true<->l1=l2))/\Below w.1.size w w':=by
 have jZ:=Hd d.len;have HL2:=Hd g.len;by_cases v:n=m
 .subst v;have K:=Hd d;have M:=Hd g;clear d g L;go_wp2;go_loopw [13] (fun i wr=>∃ j:Nat,j<=n/\i=.int .i64 j/\(∀ (t:Nat) x y,t<j->l1[t]? =some x->l2[t]? =some y->x=y)/\Below w.1.size w wr) (fun i _=>n-(intOf i).toNat)
  .exact ⟨0,Z0 _,rfl,fun t x y h=>absurd h Oo,Bf _ _⟩
  .obtain ⟨j,hj,rfl,hall,aF⟩:=hrel;have HA:=Hd hall;have HB:=Hd aF;clear hall aF;by_cases D:j<n
   .obtain ⟨b1,o1,x,rfl,aL,eQ,hc1⟩:=Sl.cell (f:=grC) (k:=3) (fun _=>rfl) (K.below HB) D;obtain ⟨o,l,y,rfl,O,F,H⟩:=Sl.cell (f:=grC) (k:=3) (fun _=>rfl) (M.below HB) D;have fJ:=Hd eQ;have HG2:=Hd F;clear eQ F aL O;have E:Aw (wr.drew.rangeAt b1 (o1+j*3) (grC x)/\wr.drew.rangeAt o (l+j*3) (grC y)):=Hd ⟨fun t u s=>hc1 t u s,fun t u s=>H t u s⟩;clear hc1 H;go_wp2_with fail;refine Rw (S:=fun w'=>w'.rangeAt b1 (o1+j*3) (grC x)/\w'.rangeAt o (l+j*3) (grC y)) Ak E (fun c=>?_);refine tk 0 (.slice (Ah b1 o1) n q) c ?_;refine tk 1 (.int .i64 j) c ?_;refine tk 2 (Ag b1 (o1+j*3)) c ?_
    refine tk 3 (.agg #[.string x.who,.bool x.group,.int .i64 x.level]) c ?_ (y:=by exact WT Af 287 _ rfl b1 (o1+j*3) rfl (grC x) _ (fun w' p=>p.1) underlying287 rfl Ak);refine tk 4 (.slice (Ah o l) n r) c ?_;refine tk 5 (.int .i64 j) c ?_;refine tk 6 (Ag o (l+j*3)) c ?_;refine tk 7 (.agg #[.string y.who,.bool y.group,.int .i64 y.level]) c ?_ (y:=by exact WT Af 287 _ rfl o (l+j*3) rfl (grC y) _ (fun w' p=>p.2) underlying287 rfl Ak);refine tj 8 (.bool (Ny x y)) c ?_ (y:=by intro w' p;go_simp;unfold Ny;by_cases I:x.who.toList=y.who.toList<;>by_cases N:x.group=y.group<;>by_cases J:x.level=y.level<;>simp [I,N,J]);refine Ad Ak ?_ _;clear c E;obtain ⟨z,C⟩:=yH (Ny x y);rw [C.o];cases z with
    |true=>
     go_wp2;go_ret;exact ⟨⟨false,rfl,⟨fun h=>(by cases h),fun h=>by subst h;have d:=fJ.o;rw [HG2.o] at d;injection d with d;subst d;have g:=C.o;simp [Ny] at g⟩⟩,HB.drew⟩
    |false=>
     have bR:Aw (x=y):=Hd (by have g:=C.o;exact vE g);exact kj
   exact ki
 .have HNM:=Hd v;have P:((n:Int) != (m:Int))=true:=As
  clear d g v;go_in;exact kh
section
def Dec (p:Prop) (w:Wd) (e:Ending) (w':Wd):Prop:=(∃ z:Bool,e=.returned (.bool z)/\(z=true<->p))/\Below w.1.size w w'
def Sy (x y:DSet):Bool:=decide (x.id=y.id)&&decide (x.org=y.org)&&decide (x.fmt=y.fmt)&&decide (x.len=y.len)&&decide (x.blk=y.blk)&&decide (x.kat=y.kat)&&decide (x.kln=y.kln)&&decide (x.itv=y.itv)&&decide (x.area=y.area)&&decide (x.fi=y.fi)&&decide (x.fa=y.fa)&&decide (x.base=y.base)&&decide (x.aat=y.aat)&&decide (x.aln=y.aln)&&decide (x.uniq=y.uniq)&&decide (x.cls=y.cls)&&decide (x.vol.toList=y.vol.toList)&&decide (x.own.toList=y.own.toList)&&decide (x.cre=y.cre)&&decide (x.exp=y.exp)&&decide (x.arch=y.arch)
def NE (x y:DSet):Sy x y=true<->x=y:=by
 unfold Sy;simp only [QU,QG];constructor
 .rintro ⟨⟨⟨⟨⟨⟨⟨⟨⟨⟨⟨⟨⟨⟨⟨⟨⟨⟨⟨⟨h0,h1⟩,h2⟩,h3⟩,h4⟩,h5⟩,h6⟩,h7⟩,h8⟩,h9⟩,fH⟩,h11⟩,h12⟩,h13⟩,h14⟩,h15⟩,h16⟩,h17⟩,h18⟩,h19⟩,h20⟩;rw [Vb,Vb] at h16 h17;have b:=Ev h16;have c:=Ev h17;obtain ⟨H,x1,V,K,J,X,x6,M,Z,U,C,e,s,z,E,g,D,F,u,d,k⟩:=x;obtain ⟨Y,L,y2,N,W,R,S,I,O,T,i,G,B,j,v,l,A,m,n,t,r⟩:=y;simp only at h0 h1 h2 h3 h4 h5 h6 h7 h8 h9 fH h11 h12 h13 h14 h15 b c h18 h19 h20;subst h0 h1 h2 h3 h4 h5 h6 h7 h8 h9 fH h11 h12 h13 h14 h15 b c h18 h19 h20;rfl
 .intro h;subst h;simp
def ifc {p:Prop} [Decidable p] {x:Result Value} {b:Bool} {W:Wd} (h:x=.ok (.bool b) W):(if p then x else .ok (.bool false) W)=.ok (.bool (decide p&&b)) W:=by by_cases c:p<;>simp [c,h]
def Sx (x y:DSet) (W:Wd):(binOp .eql 34 (.agg (dC x).toArray) (.agg (dC y).toArray)).run prog W=.ok (.bool (Sy x y)) W:=by
 unfold Sy dC;go_simp;simp only [ZL]
 iterate 20 apply ifc
 by_cases h:x.arch=y.arch<;>simp [h]
def qo (x y:DSet):∃ z:Bool,(z=true<->x=y)/\∀ W:Wd,(binOp .eql 34 (.agg (dC x).toArray) (.agg (dC y).toArray)).run prog W=.ok (.bool z) W:=
 ⟨Sy x y,NE x y,Sx x y⟩
def Jj (e:En) (a:EnA) (j:Nat) (b:j<21):(enC e a)[2+j]? =(dC e.d)[j]?:=by
 have h:enC e a=[.int .i64 e.kind,.string e.name]++(dC e.d++(enC e a).drop 23):=rfl;rw [h,ZJ Am,WF (by rw [mi];simp;exact b)];congr 1;simp
def nO {e f:En} (h:e.kind=f.kind) (j:e.name=f.name) (g:e.d=f.d) (n:e.alts=f.alts) (i:e.used=f.used) (l:e.limit=f.limit) (r:e.last=f.last) (k:e.empty=f.empty) (m:e.owner=f.owner) (s:e.target=f.target) (d:e.catalog=f.catalog) (c:e.level=f.level) (b:e.grants=f.grants):e=f:=by
 obtain ⟨A,U,M,D,C,O,T,F,S,L,y,t,v⟩:=e;obtain ⟨R,E,V,G,N,I,J,B,H,K,u,z,x⟩:=f;simp only at h j g n i l r k m s d c b;subst h j g n i l r k m s d c b;rfl
def eqS (a b:Bz):(a.toList == b.toList)=true<->a=b:=⟨fun h=>by have h:=YT.1 h;rw [Vb,Vb] at h;exact Ev h,fun h=>by rw [h];exact beq_self_eq_true _⟩
section
variable {P:Program} {ops:Array Oper} {rest:List Oper} {o:Oper} {a a':Act} {w:Wd} {Q:Exit->Act->Wd->Prop} {f:FuncId} {args:Array Value} {q:Bool} {p:Prop}
def wE (b:q=true<->p) (c:¬ p->wpList P ops Q rest (a.put o.dst (.bool false)) w) (e:p->wpList P ops Q rest a' w) (r:(execOp a.eval o).run P w=.ok (.value (.bool q)) w:=by kernel_rfl)
  (hw:Region.wanted o (yielded ops a.tmps)=true:=by kernel_rfl) (d:a.put o.dst (.bool true)=a':=by conv=>lhs;simp only [Act.put,Sv,Sz,Sw]):wpList P ops Q (o::rest) a w:=by
 subst d;apply V0 hw _ r;cases q with
 |false=>exact c fun h=>by cases b.2 h
 |true=>exact e (b.1 rfl)
def wD (i:Calls P f args w (Dec p w)) (c:∀ w',Below w.1.size w w'->¬ p->wpList P ops Q rest (a.put o.dst (.bool false)) w') (g:∀ w',Aw (Below w.1.size w w')->p->wpList P ops Q rest a' w') (e:(execOp a.eval o).run P w=.ok (.enter f args) w:=by kernel_rfl)
  (hw:Region.wanted o (yielded ops a.tmps)=true:=by kernel_rfl) (d:a.put o.dst (.bool true)=a':=by conv=>lhs;simp only [Act.put,Sv,Sz,Sw]):wpList P ops Q (o::rest) a w:=by
 subst d;refine Zv hw f args e (i.mono ?_);rintro x w' ⟨⟨q,rfl,b⟩,h⟩;cases q with
 |false=>exact c _ h fun h=>by cases b.2 h
 |true=>exact g _ h (b.1 rfl)
def wR {T:TypeId} {b k:Nat} {cs:List Value} {d:TypeDesc} {x:Operand} (c:w.rangeAt b k cs) (j:P.underlying T=some d) (h:wpList P ops Q rest a' w) (g:o.op=.load T x:=by rfl) (l:a.eval x=Ag b k:=by rfl) (e:d.isRow=true:=by rfl)
  (hn:(P.info? T).map (·.size)=some cs.length:=by kernel_rfl) (hw:Region.wanted o (yielded ops a.tmps)=true:=by kernel_rfl) (i:a.put o.dst (.agg cs.toArray)=a':=by conv=>lhs;simp only [Act.put,Sv,Sz,Sw]):wpList P ops Q (o::rest) a w:=by
 subst i;exact V3 hw T x g b k l cs d c j e hn h
end
abbrev w2E (w:Wd) (e:En) (a:EnA) (f:En) (b:EnA):Wd:=(w.alloc (.cells (enC e a).toArray 144)).alloc (.cells (enC f b).toArray 144)
theorem zDK {G:Prop} (h:G:=by exact Il 4 (.bool false) Ak (by intro a' h4 hd;simp only [Exit.then];refine hK2 _ _ ?_;go_wp2;exact Br (v:=.bool false) ((VK results207 a'.tmps _ _).trans (by rw [h4])) hd ⟨⟨false,rfl,⟨fun h=>(by cases h),fun h=>absurd (by rw [h]) tt⟩⟩,aK.o⟩)):G:=h
def Qw (e f:En) (a b:EnA) (w:Wd) (he:EW [] w e a) (A:EW [] w f b) (S:e.alts.length<=1000) (I:f.alts.length<=1000) (X:e.grants.length<=1000) (h4:f.grants.length<=1000):
  Calls prog 207 #[.agg (enC e a).toArray,.agg (enC f b).toArray] w (Dec (e=f) w):=by
 have m:Below w.1.size w (w2E w e a f b):=Aj.alloc Am _;have n:Blk (w2E w e a f b) w.1.size 144 (enC e a).toArray:=(Blk.new w _ _).alloc _;have s:Blk (w2E w e a f b) (w.1.size+1) 144 (enC f b).toArray:=U3 (Aa w (enC e a).toArray 144) _ _ (w.1.size+1) Am;have g:Aw (∀ W,Below (w2E w e a f b).1.size (w2E w e a f b) W->∀ i v,(enC e a)[i]? =some v->W.cell? ⟨w.1.size,i,none⟩=some v):=Hd fun W d i v l=>by rw [(n.below d n.lt).cell];simpa using l
 have k:∀ W,Below (w2E w e a f b).1.size (w2E w e a f b) W->∀ i v,(enC f b)[i]? =some v->W.cell? ⟨w.1.size+1,i,none⟩=some v:=fun W d i v l=>by rw [(s.below d s.lt).cell];simpa using l
 have u:Aw (∀ W,Below (w2E w e a f b).1.size (w2E w e a f b) W->Calls prog 283 #[.slice a.aA e.alts.length a.aC,.slice b.aA f.alts.length b.aC] W (Dec (e.alts=f.alts) W)):=Hd fun W d=>AB _ _ _ _ _ _ _ _ W ((he.below m).below d).sa ((A.below m).below d).sa Oo Oo
 have x:Aw (∀ W,Below (w2E w e a f b).1.size (w2E w e a f b) W->Calls prog 284 #[.slice a.gA e.grants.length a.gC,.slice b.gA f.grants.length b.gC] W (Dec (e.grants=f.grants) W)):=Hd fun W d=>AF _ _ _ _ _ _ _ _ W ((he.below m).below d).sg ((A.below m).below d).sg Oo Oo
 have E:Aw ((w2E w e a f b).rangeAt w.1.size 2 (dC e.d)):=Hd fun j v l=>g (w2E w e a f b) (Bf _ _) (2+j) v (by have F:j<21:=(QZ.1 l).1;rw [<-l];exact Jj e a j F)
 have t:Aw ((w2E w e a f b).rangeAt (w.1.size+1) 2 (dC f.d)):=Hd fun j v l=>k (w2E w e a f b) (Bf _ _) (2+j) v (by have F:j<21:=(QZ.1 l).1;rw [<-l];exact Jj f b j F)
 obtain ⟨Z,y,B⟩:=qo e.d f.d;have aK:=Hd m;clear he A S I X h4 m n s;go_in;go_wp2_with ((with_reducible show wpList _ _ _ (⟨some 2,_,_,_,_,_⟩::_) _ _);refine Stop.go ?_);refine Stop.in' ?_;rename_i K H;refine Wa ?_;refine Wa ?_;refine Wn ?_;refine KY ?_;simp only [Exit.then];refine H _ _ ?_;refine wp_seq_k fun K2 hK2=>?_
 refine UF ?_;clear H;refine Wn ?_;refine Wl (g _ (Bf _ _) 0 _ rfl) ?_;refine Wn ?_;refine Wl (k _ (Bf _ _) 0 _ rfl) ?_;refine wE (YT (a:=e.kind) (b:=f.kind)) (fun tt=>zDK) fun R=>?_
 iterate 2 refine Wn ?_
 refine Wl (g _ (Bf _ _) 1 _ rfl) ?_;refine Wn ?_;refine Wl (k _ (Bf _ _) 1 _ rfl) ?_;refine wE (eqS e.name f.name) (fun tt=>zDK) fun n=>?_
 iterate 3 refine Wn ?_
 refine wR E underlying34 ?_;refine Wn ?_;refine wR t underlying34 ?_;refine wE y (fun tt=>zDK) (fun s=>?_) (r:=Mr rfl rfl rfl Ak (B _))
 iterate 3 refine Wn ?_
 refine Wl (g _ (Bf _ _) 23 _ rfl) ?_;refine Wn ?_;refine Wl (k _ (Bf _ _) 23 _ rfl) ?_;refine wD (u _ (Bf _ _)) (fun T d tt=>by have aK:=Hd (U0 aK d aK.size);exact zDK) fun T c O=>?_
 replace aK:=Hd (U0 aK c aK.size)
 iterate 3 refine Wn ?_
 refine Wl (g _ c 24 _ rfl) ?_;refine Wn ?_;refine Wl (k _ c 24 _ rfl) ?_;refine wE (YT (a:=e.used) (b:=f.used)) (fun tt=>zDK) fun Y=>?_
 iterate 3 refine Wn ?_
 refine Wl (g _ c 25 _ rfl) ?_;refine Wn ?_;refine Wl (k _ c 25 _ rfl) ?_;refine wE (YT (a:=e.limit) (b:=f.limit)) (fun tt=>zDK) fun U=>?_
 iterate 3 refine Wn ?_
 refine Wl (g _ c 26 _ rfl) ?_;refine Wn ?_;refine Wl (k _ c 26 _ rfl) ?_;refine wE (YT (a:=e.last) (b:=f.last)) (fun tt=>zDK) fun V=>?_
 iterate 3 refine Wn ?_
 refine Wl (g _ c 27 _ rfl) ?_;refine Wn ?_;refine Wl (k _ c 27 _ rfl) ?_;refine wE (YT (a:=e.empty) (b:=f.empty)) (fun tt=>zDK) fun L=>?_
 iterate 3 refine Wn ?_
 refine Wl (g _ c 28 _ rfl) ?_;refine Wn ?_;refine Wl (k _ c 28 _ rfl) ?_;refine wE (eqS e.owner f.owner) (fun tt=>zDK) fun J=>?_
 iterate 3 refine Wn ?_
 refine Wl (g _ c 29 _ rfl) ?_;refine Wn ?_;refine Wl (k _ c 29 _ rfl) ?_;refine wE (eqS e.target f.target) (fun tt=>zDK) fun N=>?_
 iterate 3 refine Wn ?_
 refine Wl (g _ c 30 _ rfl) ?_;refine Wn ?_;refine Wl (k _ c 30 _ rfl) ?_;refine wE (YT (a:=e.catalog) (b:=f.catalog)) (fun tt=>zDK) fun z=>?_
 iterate 3 refine Wn ?_
 refine Wl (g _ c 31 _ rfl) ?_;refine Wn ?_;refine Wl (k _ c 31 _ rfl) ?_;refine wE (YT (a:=e.level) (b:=f.level)) (fun tt=>zDK) fun C=>?_
 iterate 3 refine Wn ?_
 refine Wl (g _ c 32 _ rfl) ?_;refine Wn ?_;refine Wl (k _ c 32 _ rfl) ?_;refine wD (x _ c) (fun M d tt=>by have aK:=Hd (U0 aK d aK.size);exact zDK) fun M d D=>?_
 replace aK:=Hd (U0 aK d.o aK.size)
 exact Il 4 (.bool true) Ak (by intro a' h4 hd;simp only [Exit.then];refine hK2 _ _ ?_;go_wp2;exact Br (v:=.bool true) ((VK results207 a'.tmps _ _).trans (by rw [h4])) hd ⟨⟨true,rfl,⟨fun _=>nO R n s O Y U V L J N z C D,fun _=>rfl⟩⟩,aK⟩)
end
def tn {G:Prop} (h:G:=by
  by_cases h:t=j
  .subst h;rw [HX.o] at hy;injection hy with hy;omega
  .have:=HA.o t Oo y hy;omega):G:=h
def ko {G:Prop} (h:G:=by
  .obtain rfl:j=n:=by omega
   go_wp2;go_ret;refine ⟨⟨m,rfl,HM.o,fun x hx=>?_⟩,rfl⟩;obtain ⟨t,ht,rfl⟩:=XG hx;exact HA.o t (by rw [<-HL.o];exact ht) _ (QV ht)):G:=h
def km {G:Prop} (h:G:=by
  refine ⟨1,x0,Le _,hn,rfl,rfl,QJ HG.o,fun t ht x hx=>?_,rfl⟩;obtain rfl:t=0:=by omega
  rw [HG.o] at hx;injection hx with hx
  omega):G:=h
def ru (A:Option Addr) (n c:Nat) (l:List Int) (w:Wd) (g:Sl Xg 1 w w.1.size A n c l) (hn:1<=n) (z:n<=1000):
  Calls prog 342 #[.slice A n c] w fun e w'=>(∃ m:Int,e=.returned (.int .i64 m)/\m∈l/\∀ x∈l,m<=x)/\w=w':=by
 have s:=Hd g;have HL:=Hd g.len;obtain ⟨b,o,x0,rfl,q,a,d⟩:=Sl.cell (f:=Xg) (k:=1) (fun _=>rfl) g (show 0<n from Oo);have p:=d 0 _ rfl;simp only [QF,JK] at p;have HG:=Hd a;clear g a d q;go_wp2;go_loopw [3,4] (fun v i wr=>∃ (j:Nat) (m:Int),1<=j/\j<=n/\i=.int .i64 j/\v=.int .i64 m/\m∈l/\(∀ t,t<j->∀ x,l[t]? =some x->m<=x)/\wr=w) (fun _ i _=>n-(intOf i).toNat)
 .exact km
 .obtain ⟨j,m,j1,hj,rfl,rfl,hm,hall,rfl⟩:=hrel;have HA:=Hd hall;have HM:=Hd hm;clear hall hm p;by_cases r:j<n
  .obtain ⟨b2,o2,x,gE,q,a,d⟩:=Sl.cell (f:=Xg) (k:=1) (fun _=>rfl) s.o r;injection gE with gE
   injection gE with e1 e2
   subst e1 e2;have p:=d 0 _ rfl;simp only [QF,WY] at p;have HX:=Hd a;clear a d q;by_cases u:m<=x
   .have hmin:min m x=m:=Oo
    go_wp2;go_roundw
    .refine ⟨j+1,m,Oo,Oo,Au,by first|(simp;done)|(simp;omega),HM.o,fun t ht y hy=>?_,trivial⟩;exact tn
    .exact At
   .have hmin:min m x=x:=Oo
    go_wp2;go_roundw
    .refine ⟨j+1,x,Oo,Oo,Au,by first|(simp;done)|(simp;omega),QJ HX.o,fun t ht y hy=>?_,trivial⟩;exact tn
    .exact At
  exact ko
def rv (A:Option Addr) (n c:Nat) (l:List Int) (w:Wd) (g:Sl Xg 1 w w.1.size A n c l) (hn:1<=n) (z:n<=1000):
  Calls prog 343 #[.slice A n c] w fun e w'=>(∃ m:Int,e=.returned (.int .i64 m)/\m∈l/\∀ x∈l,x<=m)/\w=w':=by
 have s:=Hd g;have HL:=Hd g.len;obtain ⟨b,o,x0,rfl,q,a,d⟩:=Sl.cell (f:=Xg) (k:=1) (fun _=>rfl) g (show 0<n from Oo);have p:=d 0 _ rfl;simp only [QF,JK] at p;have HG:=Hd a;clear g a d q;go_wp2;go_loopw [3,4] (fun v i wr=>∃ (j:Nat) (m:Int),1<=j/\j<=n/\i=.int .i64 j/\v=.int .i64 m/\m∈l/\(∀ t,t<j->∀ x,l[t]? =some x->x<=m)/\wr=w) (fun _ i _=>n-(intOf i).toNat)
 .exact km
 .obtain ⟨j,m,j1,hj,rfl,rfl,hm,hall,rfl⟩:=hrel;have HA:=Hd hall;have HM:=Hd hm;clear hall hm p;by_cases r:j<n
  .obtain ⟨b2,o2,x,gE,q,a,d⟩:=Sl.cell (f:=Xg) (k:=1) (fun _=>rfl) s.o r;injection gE with gE
   injection gE with e1 e2
   subst e1 e2;have p:=d 0 _ rfl;simp only [QF,WY] at p;have HX:=Hd a;clear a d q;by_cases u:m<=x
   .have hmin:max m x=x:=Oo
    go_wp2;go_roundw
    .refine ⟨j+1,x,Oo,Oo,Au,by first|(simp;done)|(simp;omega),QJ HX.o,fun t ht y hy=>?_,trivial⟩;exact tn
    .exact At
   .have hmin:max m x=m:=Oo
    go_wp2;go_roundw
    .refine ⟨j+1,m,Oo,Oo,Au,by first|(simp;done)|(simp;omega),HM.o,fun t ht y hy=>?_,trivial⟩;exact tn
    .exact At
  exact ko
def wiB (a b:Int) (l:List Int):Bool:=l.all (Uo · a b)
def ov {d e a b:Int} {l:List Int} (g:a∈l) (c:∀ x∈l,a<=x) (j:b∈l) (i:∀ x∈l,x<=b):wiB d e l=(decide (d<=a)&&decide (b<=e)):=by
 unfold wiB;rw [XW];simp only [WE,winB_true,QU,QG];exact ⟨fun h=>⟨(h a g).1,(h b j).2⟩,fun h x f=>⟨by have:=c x f;omega,by have:=i x f;omega⟩⟩
def C6:∀ l:List Int,l≠[]->∃ a∈l,∀ x∈l,a<=x
 | [],h=>absurd rfl h
 | [y],_=>⟨y,Am,fun x b=>by simp at b;omega⟩
 |y::z::r,_=>by
  obtain ⟨a,c,h⟩:=C6 (z::r) Am;by_cases hy:y<=a
  .exact ⟨y,Am,fun x b=>by rcases QH.1 b with rfl|b;omega;have:=h x b;omega⟩
  .exact ⟨a,QN _ c,fun x b=>by rcases QH.1 b with rfl|b;omega;exact h x b⟩
def C7:∀ l:List Int,l≠[]->∃ a∈l,∀ x∈l,x<=a
 | [],h=>absurd rfl h
 | [y],_=>⟨y,Am,fun x b=>by simp at b;omega⟩
 |y::z::r,_=>by
  obtain ⟨a,c,h⟩:=C7 (z::r) Am;by_cases hy:a<=y
  .exact ⟨y,Am,fun x b=>by rcases QH.1 b with rfl|b;omega;have:=h x b;omega⟩
  .exact ⟨a,QN _ c,fun x b=>by rcases QH.1 b with rfl|b;omega;exact h x b⟩
def Vy (y r:Int) (A:Option Addr) (n c:Nat) (l:List Int) (w:Wd) (i:Sl Xg 1 w w.1.size A n c l) (x:n<=1000):
  Calls prog 262 #[.int .i64 y,.int .i64 r,.slice A n c] w (Ae w (.bool (wiB y r l))):=by
 have d:=i.len;by_cases B:n=0
 .subst B;have F:l=[]:=QA d;subst F;clear i d;go_wp2;go_ret;exact ⟨rfl,rfl⟩
 .have hp:1<=n:=Oo
  have o:l≠[]:=fun h=>by subst h;simp at d;omega
  obtain ⟨a,u,g⟩:=C6 l o;obtain ⟨b,k,v⟩:=C7 l o;rw [ov u g k v]
  have z:Aw (Calls prog 342 #[.slice A n c] w (Ae w (.int .i64 a))):=Hd ((ru A n c l w i hp x).mono (by
   rintro e w' ⟨⟨m,rfl,t,f⟩,rfl⟩;have D:=f a u;have C:=g m t;obtain rfl:m=a:=Oo
   exact ⟨rfl,rfl⟩))
  have s:Aw (Calls prog 343 #[.slice A n c] w (Ae w (.int .i64 b))):=Hd ((rv A n c l w i hp x).mono (by
   rintro e w' ⟨⟨m,rfl,t,f⟩,rfl⟩;have D:=f b k;have C:=v m t;obtain rfl:m=b:=Oo
   exact ⟨rfl,rfl⟩))
  have G:((n:Int) == 0)=false:=As
  obtain ⟨p,E⟩:=yG (decide (y<=a));obtain ⟨q,j⟩:=yG (decide (b<=r));rw [E,j];clear i d B o u g k v hp x;cases p
  all_goals
   go_in;go_wp2_with (first|(go_at_call 342;refine yE z.o ?_)|(go_at_call 343;refine yE s.o ?_));go_ret;exact ⟨Am,rfl⟩
def Ir (x:Bool) (w:Wd):Calls prog 305 #[.bool x] w (StG (EQ x) w):=by
 unfold EQ;cases x with
 |true=>
  go_wp2;go_ret;exact ⟨rfl,Bf _ _⟩
 |false=>
  go_wp2;go_ret;exact ⟨rfl,Bf _ _⟩
def Xp (s:Bz) (w:Wd) (c:s.size<=1000000):Calls prog 179 #[.string s] w (StG (Vh s) w):=by
 have a:=Hd (Gm (s.size:Int) w Oo Oo);have hz:=V6 (s.size:Int);unfold Vh;generalize Vu (s.size:Int)=q at a hz ⊢;have e:IntKind.u64.wrap (s.size:Int)=(s.size:Int):=by rw [YU];omega
 have d:q.size+s.size<=9223372036854775807:=Oo
 clear hz c;go_in;go_wp2_with (go_at_call 169;refine yP a.o fun f b=>?_);go_ret;exact ⟨rfl,b⟩
def iC (n:Int):List Value:=[.int .i64 n]
def Ls (A:Option Addr) (n c:Nat) (l:List Int) (w:Wd) (m:Sl iC 1 w w.1.size A n c l) (hn:n<=1000):
  Calls prog 303 #[.slice A n c] w (StG (wrN ⟨#[]⟩ (l.map IntKind.u64.wrap)) w):=by
 have D:=Hd m;have C:=Hd m.len;clear m;obtain ⟨L,e⟩:=yH (l.map IntKind.u64.wrap);rw [e.o];go_wp2;go_loopw [3,4] (fun s i wr=>∃ j:Nat,j<=n/\i=.int .i64 j/\s=.string (wrN ⟨#[]⟩ (L.take j))/\Below w.1.size w wr) (fun _ i _=>n-(intOf i).toNat)
 .exact ⟨0,Z0 _,rfl,rfl,Bf _ _⟩
 .obtain ⟨j,hj,rfl,rfl,aF⟩:=hrel;have g:=Hd aF;have hz:=Xe (L.take j) ⟨#[]⟩;by_cases r:j<n
  .obtain ⟨b,o,x,rfl,hb,a,aB⟩:=Sl.cell (f:=iC) (k:=1) (fun _=>rfl) (D.o.below aF) r;have F:=aB 0 _ rfl;simp only [QF,WY] at F;have d:0<=IntKind.u64.wrap x/\IntKind.u64.wrap x<18446744073709551616:=by rw [YU];omega
   have a:L[j]? =some (IntKind.u64.wrap x):=by rw [<-e.o,YK,a];rfl
   generalize I:IntKind.u64.wrap x=y at d a;have p:=Hd (L5 (⟨#[]⟩:Bz) a);have u:=V6 y;have v:=Hd fun W=>Gm y W d.1 d.2
   have h:(⟨#[]⟩:Bz).size+10*(L.take j).length<=100000:=by rw [WX];show 0+_<=_;omega
   generalize H:wrN ⟨#[]⟩ (L.take j)=q at hz p ⊢;generalize Vu y=s at v p u;have G:q.size+s.size<=9223372036854775807:=Oo
   have B:decide ((j:Int)<(n:Int))=true:=QQ Oo;have t:=Hd r;clear a aB aF hb h hz u d;go_wp2_with (go_at_call 169;refine yP (v.o _) fun J z=>?_;have E:=Hd (g.o.trans (z.mono g.o.size));clear z);go_roundw
   .exact ⟨j+1,by have:=t.o;omega,Au,by rw [p.o],E.o⟩
   .simp [intOf];have:=t.o;omega
  .obtain rfl:j=n:=Oo
   have B:decide ((j:Int)<(j:Int))=false:=QW Oo;clear aF hj;go_wp2;go_ret;exact ⟨by rw [WU (by rw [<-e.o,XT,C.o];exact Le _)];rfl,g.o⟩
def Lw (A:Option Addr) (n c:Nat) (l:List Int) (w:Wd) (b:Sl iC 1 w w.1.size A n c l) (hn:n<=1000) (a:∀ x∈l,0<=x/\x<=9223372036854775807):
  Calls prog 303 #[.slice A n c] w (StG (wrN ⟨#[]⟩ l) w):=by
 have h:=Ls A n c l w b hn
 rwa [show l.map IntKind.u64.wrap=l from (VE (g:=id) fun x d=>by have:=a x d;rw [YU];simp only [id];omega).trans (List.map_id l)] at h
def uV {G:Prop} (h:G:=by
  go_wp2;go_ret
  first
   |exact ⟨by rw [<-hz];rfl,rfl⟩
   |exact ⟨by rw [HZ.o];rfl,rfl⟩):G:=h
def Wp (n:Int) (w:Wd):Calls prog 197 #[.int .i64 n] w (Ae w (.bool (Xf n))):=by
 obtain ⟨z,hz⟩:=yG (Xf n);rw [hz];unfold Xf at hz;by_cases c:n=128
 .subst c;exact uV
 by_cases b:n=256
 .subst b;exact uV
 by_cases d:n=512
 .subst d;exact uV
 have e:(n == 128)=false:=by simpa using c
 have g:(n == 256)=false:=by simpa using b
 have f:(n == 512)=false:=by simpa using d
 have a:z=false:=by rw [<-hz];simp [c,b,d]
 have HZ:=Hd a;clear c b d hz a;exact uV
def Fc (s:Bz):Bool:=decide (1<=s.size)&&decide (s.size<=200)
def MH (l:List Bz):Bool:=l.all Fc
def pQ {G:Prop} (h:G:=by
  have bZ:=Hd hr;clear hr;go_wp2;go_ret;exact ⟨by rw [bZ.o];rfl,rfl⟩):G:=h
def vr (A:Option Addr) (n c:Nat) (l:List Bz) (w:Wd) (g:Sl Ug 1 w w.1.size A n c l) (hn:n<=2000):
  Calls prog 198 #[.slice A n c] w (Ae w (.bool (MH l))):=by
 have y:=Hd g;have x:=Hd g.len;clear g;obtain ⟨R,d⟩:=yH (MH l);rw [d.o];go_wp2;go_loop [7] (fun i=>∃ j:Nat,j<=n/\i=.int .i64 j/\∀ t,t<j->∀ e,l[t]? =some e->Fc e=true) (fun i=>n-(intOf i).toNat)
 .exact ⟨0,Z0 _,rfl,fun t h=>absurd h Oo⟩
 .obtain ⟨j,hj,rfl,hall⟩:=hrel;have p:=Hd hall;clear hall;by_cases r:j<n
  .obtain ⟨b,o,s,rfl,hb,hg,aB⟩:=Sl.cell (f:=Ug) (k:=1) (fun _=>rfl) y.o r;have z:=aB 0 _ rfl;simp only [QF,WY] at z;have u:=Hd hg
   have q:Fc s=false->R=false:=fun h=>by
    rw [<-d.o];unfold MH;rw [ZM];exact ⟨s,QJ hg,by simpa using h⟩
   have m:=Hd q;clear hb hg aB q;by_cases B:s.size<1
   .have hr:=m.o (by unfold Fc;simp;omega);exact pQ
   .by_cases h2:200<s.size
    .have hr:=m.o (by unfold Fc;simp;omega);exact pQ
    .have bP:Fc s=true:=by unfold Fc;simp;omega
     have v:=Hd bP;clear bP;go_wp2
     go_round
     .refine ⟨j+1,Oo,Au,fun t a e he=>?_⟩;rcases VT.1 a with h|h
      .exact p.o t h e he
      .subst h;rw [u.o] at he;injection he with he
       subst he;exact v.o
     .exact At
  .obtain rfl:j=n:=Oo
   have hr:R=true:=by
    rw [<-d.o];unfold MH;rw [WE];intro e he;obtain ⟨t,a,rfl⟩:=XG he;exact p.o t (by rw [<-x.o];exact a) _ (QV a)
   exact pQ
def Xv (z:Nat):List Bz->Nat
 | []=>0
 |s::r=>if s.size=z then Xv z r+1 else 0
def Hg (z:Nat):∀ l:List Bz,Xv z l<=l.length
 | []=>Le _
 |s::r=>by
  unfold Xv;split
  .have:=Hg z r;simp;omega
  .exact Z0 _
def Fv {z:Nat}:∀ (l:List Bz) (k:Nat),k<=l.length->(∀ t,t<k->∀ s,l[t]? =some s->s.size=z)->(∀ s,l[k]? =some s->s.size≠z)->Xv z l=k
 | [],k,hk,_,_=>by simp at hk;subst hk;rfl
 |s::r,0,_,_,h=>by
  unfold Xv;rw [QX (h s rfl)]
 |s::r,k+1,hk,h1,h2=>by
  unfold Xv;rw [QK (h1 0 Oo s rfl),Fv r k (by simpa using hk) (fun t b x a=>h1 (t+1) Oo x a) (fun x a=>h2 x a)]
def Kt:Nat->List Bz->Int
 |0,_=>0
 |_,[]=>0
 |f+1,s::r=>((Xv s.size r+1:Nat):Int)*(s.size:Int)+3*min ((Xv s.size r+1:Nat):Int) 2+Kt f (r.drop (Xv s.size r))
def J1 (l:List Bz):Int:=4+Kt l.length l
def pR {G:Prop} (h:G:=by
  go_wp2
  go_end0
  exact ⟨rfl,by rw [<-HE.o];try rfl⟩):G:=h
def Da (n z g:Nat) (m:Int) (w:Wd) (c:Blk w g 3 #[.int .i64 m]) (hn:1<=n) (l:n<=2000) (hz:z<=200) (i6:0<=m) (t:m<=1000000):
  Calls prog 251 #[.int .i64 n,.int .i64 z,Ag g 0] w fun e w'=>e=.returned (.tuple #[])/\w'=w.setCell ⟨g,0,none⟩ (.int .i64 (m+((n:Int)*(z:Int)+3*min (n:Int) 2))):=by
 have u:=c.ce 0 (.int .i64 m);have o:=c.free 0
 have k:(n:Int)*(z:Int)<=400000:=by
  have h:n*z<=400000:=Lx (JW l hz) Ac;rw [<-Int.natCast_mul];exact UJ.2 h
 have j:0<=(n:Int)*(z:Int):=Int.mul_nonneg Oo Oo;obtain ⟨p,b⟩:=yG ((n:Int)*(z:Int));have i:=Hd b;rw [b] at k j ⊢;have hw:IntKind.i64.wrap ((n:Int)*(z:Int))=p:=by rw [b];exact QL _ Oo
 clear c;by_cases f:n=1
 .subst f;have a:m+((z:Int)+3)=m+(p+3*min ((1:Nat):Int) 2):=by have:=i.o;simp at this;omega
  have HE:=Hd a;clear a;exact pR
 by_cases d:n=2
 .subst d;have a:m+(2*(z:Int)+6)=m+(p+3*min ((2:Nat):Int) 2):=by have:=i.o;simp at this;omega
  have HE:=Hd a;clear a;exact pR
 have s:¬ ((n:Int)<=2):=Oo
 have q:¬ ((n:Int)<2):=Oo
 have r:(2:Int)<n:=Oo
 have a:m+(p+6)=m+(p+3*min (n:Int) 2):=Oo
 have HE:=Hd a;clear a f d;exact pR
def pj:Value->Nat
 |.slice _ n _=>n
 |_=>0
def jO (g:Nat) (m:Int) (w w':Wd):Prop:=Blk w' g 3 #[.int .i64 m]/\Far [g] w w'
def tW (z k:Nat) (hz:z<=200):((k:Nat):Int)*(z:Int)+3*min (k:Int) 2<=206*(k:Int):=by
 have h:k*z<=k*200:=JW (Le _) hz
 have a:((k:Nat):Int)*(z:Int)<=200*(k:Int):=by
  rw [<-Int.natCast_mul];have:((k*z:Nat):Int)<=((k*200:Nat):Int):=UJ.2 h;rw [Int.natCast_mul k 200] at this;omega
 omega
def tN {n c g:Nat} {A:Option Addr} {l:List Bz} {w w':Wd} {v:Value} (h:Sl Ug 1 w w.1.size A n c l) (t:Blk w g 3 #[v]) (B:∃ m,v=.int .i64 m) (p:Far [g] w w'):Sl Ug 1 w' w'.1.size A n c l:=by
 refine ⟨h.1,h.2.1,h.2.2.1,fun hn=>?_⟩;obtain ⟨b,o,rfl,i,q⟩:=h.2.2.2 hn;refine ⟨b,o,rfl,WK i p.size,fun j u y=>?_⟩
 have x:b≠g:=by
  intro e;subst e;obtain ⟨m,rfl⟩:=B;have C:l.length=n:=h.2.1;obtain ⟨s,z⟩:∃ s,l[0]? =some s:=⟨_,QV Oo⟩
  have r:(U7 Ug l)[0]? =some (.string s):=by
   have:=Er (f:=Ug) (k:=1) (fun _=>rfl) l 0 s z 0 Ac;rw [JK,QB] at this;exact this
  have d:=q 0 _ r;rw [t.cell,QF] at d;rcases WB o with a|a
  .subst a;simp at d
  .simp [ZB a] at d
 rw [WO (p.block b i (by simpa using x))];exact q j u y
def zM {n c k:Nat} {A:Option Addr} {l:List Bz} {w:Wd} {B:Nat} (h:Sl Ug 1 w B A n c l) (a:k<=n):Sl Ug 1 w B (if c=k then A else A.map (·.add (k*1))) (n-k) (c-k) (l.drop k):=by
 have d:=h.cap;refine ⟨Oo,by rw [XD,h.len],?_⟩;have b:=h.rd.drop a d
 rwa [Eb (f:=Ug) (k:=1) (fun _=>rfl) l k] at b
def Qs (W:Wd) (a:Option Addr) (j b k:Nat) (c:k<=j):(Instr.slice 133 (.slice a j b) (some (.int .i64 (k:Int))) none none).run prog W=.ok (.slice (if b=k then a else a.map (·.add (k*1))) (j-k) (b-k)) W:=by
 have h:=run_slice_l (P:=prog) (w:=W) 133 a j b underlying133 .i64 (k:Int) Oo Oo;rw [h,show prog.elem 133=9 from Ak,sizeOf9 W];simp [Result.andThen,sliced]
def rt (k:Nat):0<=3*min (k:Int) 2:=Oo
def lw {G:Prop} (h:G:=by
  obtain ⟨W8,hW8⟩:=yG (wx.drewN (d+nq));have wU:Aw (Blk W8 g 3 #[.int .i64 acc]):=Hd (by rw [<-hW8];exact fJ.o);have HF8:Aw (Far [g] wx W8):=Hd (by rw [<-hW8];exact (Far.refl _ _).drewN _);have e0:W8.cell? ⟨b,o,none⟩=some (.string s0):=by rw [<-hW8];exact HC0.o
  rw [hW8];clear d0 hW8;have gV:=Hd (Da k s0.size g acc W8 wU.o eZ Oo eJ.o ha0 Oo);obtain ⟨B2,hB2⟩:=yG (if c1=k then some (⟨b,o,none⟩:Addr) else (some (⟨b,o,none⟩:Addr)).map (·.add (k*1)));obtain ⟨acc2,hacc⟩:=yG (acc+((k:Int)*(s0.size:Int)+3*min (k:Int) 2));have dH:=Hd hB2;have HAC:=Hd hacc;rw [hacc] at gV;have bN:=fun W=>Qs W (Ah b o) n1 c1 k hkn
  rw [hB2] at bN;clear hB2 hacc;go_wp2_with (go_at_call 251;refine gV.o.mono ?_;rintro e w5 ⟨rfl,rfl⟩);go_roundw
  .have hg5:Blk (W8.setCell ⟨g,0,none⟩ (.int .i64 acc2)) g 3 #[.int .i64 acc2]:=wU.o.set 0 _;have hf5:Far [g] wx (W8.setCell ⟨g,0,none⟩ (.int .i64 acc2)):=HF8.o.set _ _ _ (.inl Am);have hs5:=zM (tN dE.o fJ.o ⟨acc,rfl⟩ hf5) hkn;rw [dH.o] at hs5;obtain ⟨f2,hf2⟩:∃ f2,f=f2+1:=⟨f-1,Oo⟩
   have aN:=tW s0.size k eJ.o;have hrun0:0<=(k:Int)*(s0.size:Int):=Int.mul_nonneg Oo Oo;have hm2:=rt k;have hac:=HAC.o;refine ⟨B2,n1-k,c1-k,f2,l1.drop k,acc2,rfl,hs5,Oo,fun s hs=>fM.o s (ZY hs),Oo,Oo,Oo,?_,hg5,HFAR.o.trans hf5⟩;rw [<-aX.o,hf2,HLR.o];have gD:k=(k-1)+1:=by omega
   have hru:Kt (f2+1) (s0::r)=((Xv s0.size r+1:Nat):Int)*(s0.size:Int)+3*min ((Xv s0.size r+1:Nat):Int) 2+Kt f2 (r.drop (Xv s0.size r)):=rfl;rw [hru,HRK.o,<-gD,<-hac]
   have hdd:(s0::r).drop k=r.drop (k-1):=by
    conv=>lhs;rw [gD]
    rfl
   rw [hdd];omega
  .simp [pj];omega):G:=h
def zU (g:Nat) (m:Int) (A:Option Addr) (n c:Nat) (l:List Bz) (w:Wd) (hs:Sl Ug 1 w w.1.size A n c l) (p:Blk w g 3 #[.int .i64 m]) (hz:∀ s∈l,s.size<=200) (hn:n<=2000) (i6:0<=m) (Y:m<=10):
  Calls prog 250 #[.slice A n c,.func (.func 251) #[] #[Ag g 0]] w fun e w'=>e=.returned (.tuple #[])/\jO g (m+Kt l.length l) w w':=by
 obtain ⟨R,J⟩:=yG (m+Kt l.length l);rw [J];have K:n<=l.length:=by rw [hs.len];exact Le _
 go_wp2;go_loopw [0] (fun v wr=>∃ (B:Option Addr) (n1 c1 f:Nat) (l1:List Bz) (acc:Int),v=.slice B n1 c1/\Sl Ug 1 wr wr.1.size B n1 c1 l1/\n1<=f/\(∀ s∈l1,s.size<=200)/\n1<=n/\0<=acc/\acc<=10+206*((n:Int)-n1)/\acc+Kt f l1=R/\Blk wr g 3 #[.int .i64 acc]/\Far [g] w wr) (fun v _=>pj v)
 .exact ⟨A,n,c,l.length,l,m,rfl,hs,K,hz,Le _,i6,Oo,J,p,Far.refl _ _⟩
 .obtain ⟨B,n1,c1,f,l1,acc,rfl,hs,hnf,hz,hnn,ha0,ha1,aG,p,cJ⟩:=hrel;obtain ⟨wx,rfl⟩:∃ z:Wd,z=wr:=⟨_,rfl⟩
  have dE:=Hd hs;have jZ:=Hd hs.len;have fM:=Hd hz;have fJ:=Hd p;have HFAR:=Hd cJ;have aX:=Hd aG;have I:=hs.cap;clear hz p cJ aG;by_cases H:0<n1
  .obtain ⟨b,o,s0,hA,hb,hg0,fY⟩:=Sl.cell (f:=Ug) (k:=1) (fun _=>rfl) hs H;have D:=fY 0 _ rfl;simp only [QF,WY] at D;subst hA
   obtain ⟨r,F⟩:∃ r,l1=s0::r:=by
    cases l1 with
    |nil=>simp at hg0
    |cons x r=>injection hg0 with e;exact ⟨r,by rw [e]⟩
   have HLR:=Hd F;have eJ:=Hd (fM s0 (by rw [F];exact QP));have U:=eJ.o;have HC0:=Hd D;clear hb hg0 fY F hs;go_wp2_with fail;go_loopw [4] (fun N wy=>∃ d k:Nat,wy=wx.drewN d/\N=.int .i64 k/\1<=k/\k<=n1/\Aw (∀ t,1<=t->t<k->∀ s,l1[t]? =some s->s.size=s0.size)) (fun v _=>n1-(intOf v).toNat)
   .exact ⟨0,1,rfl,rfl,Le _,H,Hd fun t C u=>absurd C Oo⟩
   .obtain ⟨d,k,rfl,rfl,eZ,hkn,HK⟩:=hrel;have d0:=HC0.o;clear D;by_cases y:k<n1
    .obtain ⟨b2,o2,s,gU,aH,hgk,aB⟩:=Sl.cell (f:=Ug) (k:=1) (fun _=>rfl) dE y;injection gU with gU
     injection gU with hA3 hA4 _
     subst hA3;subst hA4;have E:=aB 0 _ rfl;simp only [QF,WY] at E;have V:=E;have i:=Hd hgk;have Q:decide (k<n1)=true:=by simpa using y
     have O:decide ((k:Int)<(n1:Int))=true:=As
     have T:(0:Int)<=(k:Int):=Oo
     have Z:(k:Int)<(n1:Int):=Oo
     have X:(0:Int)<(n1:Int):=Oo
     clear aH hgk aB E;by_cases he:s.size=s0.size
     .have x3:((s.size:Int) == (s0.size:Int))=true:=by simp [he]
      have S:=Hd he;clear he;go_wp2_with fail
      go_quiet (fail)
      go_wp2;go_roundw
      .refine ⟨d+nq,k+1,rfl,Au,Oo,Oo,Hd fun t C u x j=>?_⟩;by_cases h:t=k
       .subst h;rw [i.o] at j;injection j with j
        subst j;exact S
       .exact HK t C Oo x j
      .exact At
     .have x3:((s.size:Int) == (s0.size:Int))=false:=As
      have P:=Hd he;clear he;go_wp2_with fail
      go_quiet (fail)
      go_wp2_with fail;have HRK:Aw (Xv s0.size r=k-1):=Hd (by rw [HLR.o] at HK jZ;exact Fv r (k-1) (by have:=jZ.o;simp at this;omega) (fun t L s hs=>HK (t+1) Oo Oo s (by simpa using hs)) (fun s hs=>by have q:=i.o;rw [HLR.o,show k=(k-1)+1 from Oo,Gn,hs] at q;injection q with q;subst q;exact P));exact lw
    .have Q:decide (k<n1)=false:=by simpa using y
     have O:decide ((k:Int)<(n1:Int))=false:=As
     go_wp2_with fail
     go_quiet (fail)
     go_wp2_with fail;have HRK:Aw (Xv s0.size r=k-1):=Hd (by rw [HLR.o] at HK jZ;exact Fv r (k-1) (by have:=jZ.o;simp at this;omega) (fun t L s hs=>HK (t+1) Oo Oo s (by simpa using hs)) (fun s hs=>by exfalso;have:=(QZ.1 hs).1;have u:=jZ.o;simp at u;omega));exact lw
  .obtain rfl:n1=0:=Oo
   have a:=QA jZ;have M:acc=R:=by rw [<-aX.o,a];cases f<;>simp [Kt]
   clear a;go_wp2
   go_end0
   exact ⟨rfl,by rw [<-M];exact fJ,HFAR⟩
def zO (A:Option Addr) (n c:Nat) (l:List Bz) (w:Wd) (b:Sl Ug 1 w w.1.size A n c l) (hz:∀ s∈l,s.size<=200) (hn:n<=2000):
  Calls prog 199 #[.slice A n c] w (Ab w (.int .i64 (J1 l))):=by
 have d:=zU w.1.size 4 A n c l (Aa w #[.int .i64 4] 3) (b.after Aj Am) (Blk.new w 3 #[.int .i64 4]) hz hn Ac Ac;unfold J1;generalize 4+Kt l.length l=R at d;clear b hz;go_in;go_wp2_with (go_at_call 250;apply d.mono;rintro e g ⟨rfl,a,f⟩;have h:=a.ce 0 (.int .i64 R);clear a);go_ret;exact ⟨rfl,(((Far.refl [w.1.size] w).alloc _).trans f).below Am (Le _)⟩
def Zo (z:Int) (l:List Bz):Bool:=Xf z&&MH l&&decide (J1 l<=z)
def lu {G:Prop} (h:G:=by
  rw [d3];generalize J1 l=S at HC h3 d3;go_in;go_wp2_with (first|(go_at_call 197;refine yE (HI.o _) ?_)|(go_at_call 198;refine yE HA.o ?_)|(go_at_call 199;refine yN HC.o fun w2 HB=>?_));go_ret;exact ⟨rfl,HB.o⟩):G:=h
def Ol (z:Int) (A:Option Addr) (n c:Nat) (l:List Bz) (w:Wd) (b:Sl Ug 1 w w.1.size A n c l) (hn:n<=2000):
  Calls prog 159 #[.int .i64 z,.slice A n c] w (Ab w (.bool (Zo z l))):=by
 have e:=Hd b;unfold Zo;have HI:=Hd fun W=>Wp z W
 obtain ⟨f,d⟩:∃ q,Xf z=q:=⟨_,rfl⟩
 rw [d];simp only [d] at HI;clear d b;cases f with
 |false=>
  go_in;go_wp2_with (go_at_call 197;apply yE (HI _));go_ret;exact ⟨rfl,Bf _ _⟩
 |true=>
  have HA:=Hd (vr A n c l w e hn);obtain ⟨g,a⟩:∃ q,MH l=q:=⟨_,rfl⟩
  rw [a];rw [a] at HA;cases g with
  |false=>
   clear a;go_in;go_wp2_with (first|(go_at_call 197;apply yE (HI _))|(go_at_call 198;apply yE HA));go_ret;exact ⟨rfl,Bf _ _⟩
  |true=>
   have hz:∀ s∈l,s.size<=200:=fun s b=>by
    have:=WE.1 a s b;unfold Fc at this;simp at this;omega
   have HC:=Hd (zO A n c l w e hz hn);clear a hz;by_cases h3:J1 l<=z
   .have d3:=QQ h3;exact lu
   .have d3:=QW h3;exact lu
end Go.Proofs.YtdleakjejodjjaaGreatDoor
