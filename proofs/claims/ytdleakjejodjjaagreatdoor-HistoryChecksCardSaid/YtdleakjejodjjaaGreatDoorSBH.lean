/- Of the history laws. -/
import Derived.Test.YtdleakjejodjjaaGreatDoorSBF
import Derived.Test.YtdleakjejodjjaaGreatDoorSAV
namespace Go.Proofs.YtdleakjejodjjaaGreatDoor
open Tryz
set_option linter.defProp false
set_option linter.unusedVariables false
set_option linter.unusedSimpArgs false
set_option maxRecDepth 100000
set_option maxHeartbeats 20000000
open Go.RowKit
section
variable {w:Wd} {e:Ending} {w' w1 W W':Wd} {st:List Cnt}
def SJ (x:Com):(Ud x).toArray.all (·.oneCell')=true:=by simp [Ud,Value.oneCell']
def vC (x:Cnt):Bool:=Vi x.d x.ap x.ps
def SmC (x:Com):Prop:=∀ c∈x.cs,c.rcd.size<=maxLen/\c.vol.size<=maxLen
def NJ (A:Option Addr) (n c:Nat) (l:List Cnt) (w:Wd) (f:Sl cnC 23 w w.1.size A n c l) (a:∀ x∈l,CW w x) (hn:n<=1024) (g:Cod w):
  Calls prog 42 #[.slice A n c] w (pe (F9 vC [] l) w):=
 qM vC A n c l w f a hn fun x d W b=>Mh x.d x.ap x.pA x.pn x.pc x.ps W ((a x d).below b) (g.after b) (a x d).rz
def uI (x:Com) (d:Nat) (st:List Cnt) (w1 W:Wd) (o:ComOk w1 w1.1.size x) (b:Below w1.1.size w1 W) (he:d=w1.1.size) (m:SW W d st) (f:Zy x=true) (hz:SmC x) (j:Sta w1) (l:Cod w1):
  Calls prog 43 #[.map (some d),.agg (Ud x).toArray] W (jz (aft Uq doF x.num x.cs (st.map plC)) d W):=by
 obtain ⟨k,i,p⟩:=FY f;refine qU Uq doF x d st W m (o.after b b.size) Oo k i (fun c a W' g=>?_) (fun c a y n h _ _ W' g hy=>?_)
 .exact zw c W' (hz c a).1 (j.after (Ec b g Oo b.size))
 .exact jK y n c W' h hy (l.after (Ec b g Oo b.size)) (hz c a).1 (hz c a).2
noncomputable def ut (ini:List Cnt) (l:List Com):Int ⊕ Option (Nat×Nat):=match Zx l,F9 vC [] ini with
 |some s,some st=>uq Uq doF 0 s (st.map plC)
 |_,_=>.inl 1
def uN (R:Int ⊕ Option (Nat×Nat)) (a b:Nat) (w:Wd) (e:Ending) (w':Wd):Prop:=match R with
 |.inl er=>er≠0/\e=.returned (.tuple #[.map none,.int .i64 er])/\Below w.1.size w w'
 |.inr none=>(∃ v,e=.returned (.tuple #[v,.int .i64 0]))/\Below w.1.size w w'
 |.inr (some p)=>(∃ v,e=.returned (.tuple #[v,.int .i64 0]))/\Far [a,b] w w'/\w'.cell? ⟨a,0,none⟩=some (.int .i64 (p.1:Nat))/\w'.cell? ⟨b,0,none⟩=some (.int .i64 (p.2:Nat))
def I1 {r:Option (List Com)} (h:pd r w e w'):(match r with
  |none=>e=.returned (.tuple #[.slice none 0 0,.bool false])/\Below w.1.size w w'
  |some s=>∃ A c,e=.returned (.tuple #[.slice A s.length c,.bool true])/\Cs w' w'.1.size A s.length c s/\Below w.1.size w w'):=by
 rcases h with ⟨rfl,b,a⟩|⟨s,rfl,A,c,b,a,d⟩
 .exact ⟨b,a⟩
 .exact ⟨A,c,b,a,d⟩
structure PK (w w1 W:Wd) (st:List Cnt):Prop where
 sw:SW W w1.1.size st
 be:Below w1.1.size w1 W
 sz:w1.1.size+1<=W.1.size
 b0:Below w.1.size w w1
def PK.next (h:PK w w1 W st) (a:Below W.1.size W W'):PK w w1 W' st:=
 ⟨h.sw.below a,U0 h.be a (by have:=h.sz;omega),Lx h.sz a.size,h.b0⟩
def PK.far {a:List Cnt} (h:PK w w1 W st) (c:SW W' w1.1.size a) (b:Far [w1.1.size] W W'):PK w w1 W' a:=
 ⟨c,Ec h.be b (Le _) h.be.size,Lx h.sz b.size,h.b0⟩
def PK.base (h:PK w w1 W st):Below w.1.size w W:=U0 h.b0 h.be h.b0.size
def SU {R:Option (List Cnt)} (h:pe R w e w'):∃ v z,e=.returned (.tuple #[.map v,.bool z])/\Below w.1.size w w':=by
 unfold pe at h;cases R with
 |none=>exact ⟨_,_,h.1,h.2⟩
 |some st=>exact ⟨_,_,h.1,h.2.2⟩
def yR (iA:Option Addr) (im ic:Nat) (B:List Cnt) (A:Option Addr) (n c:Nat) (l:List Com) (w:Wd) (pu pr:Nat) (hu:Blk w pu 3 #[.int .i64 (-1)]) (hp:Blk w pr 3 #[.int .i64 (-1)]) (aS:pu≠pr) (hi:Sl cnC 23 w w.1.size iA im ic B) (X:∀ x∈B,CW w x) (iM:im<=1024)
  (hs:Cs w w.1.size A n c l) (hv:∀ x∈l,SmC x) (hn:n<=12) (ht:Sta w) (hc:Cod w):
  Calls prog 16 #[.slice iA im ic,.slice A n c,.func (.func 17) #[] #[Ag pu 0,Ag pr 0]] w (uN (ut B l) pu pr w):=by
 have Y:=K5 A n c l w hs (fun x hx y hy=>(hv x hx y hy).2) hn;have dS:=fun W (hW:Below w.1.size w W)=>NJ iA im ic B W (hi.after hW hW.size) (fun x hx=>(X x hx).below hW) iM (hc.after hW)
 obtain ⟨U,G⟩:=yG (ut B l);rw [G];unfold ut at G;have HU:=Hd hu;clear hu;have cF:=hs.1.len;clear hi X iM hs;cases a:Zx l with
 |none=>
  rw [a] at Y;have hq:U=.inl 1:=by rw [<-G,a]
  clear G a;go_in;go_wp2_with (first|(go_at_call 14;apply Y.mono;intro e w1 g;obtain ⟨rfl,p⟩:=I1 g;clear g)|(go_at_call 42;apply (dS w1 p).mono;rintro e w2 T;have cE:=SU T;obtain ⟨v,z,rfl,H⟩:=cE;have N:=U0 p H p.size;clear T H))
  all_goals
   go_ret2
   rw [hq];exact ⟨Ac,rfl,N⟩
 |some s=>
  have bN:=Hp a;have cD:=Ho a;rw [a] at Y;cases d:F9 vC [] B with
  |none=>
   rw [d] at dS;have hq:U=.inl 1:=by rw [<-G,a,d]
   clear G a d bN cD;go_in;go_wp2_with (first|(go_at_call 14;apply Y.mono;intro e w1 g;obtain ⟨A',c',rfl,R,p⟩:=I1 g;clear g R)|(go_at_call 42;refine yP (dS w1 p) fun w2 H=>?_;have N:=U0 p H p.size;clear H))
   go_ret2
   rw [hq];exact ⟨Ac,rfl,N⟩
  |some Q=>
   rw [d] at dS;have hq:uq Uq doF 0 s (Q.map plC)=U:=by rw [<-G,a,d]
   obtain ⟨m,hm⟩:=yG s.length;have HSM:m<=12:=Oo
   clear G a d bN cF hn;go_in;go_wp2_with (first|(go_at_call 14;apply Y.mono;intro e w1 g;obtain ⟨A',c',rfl,R,p⟩:=I1 g;rw [hm] at R ⊢;clear g)|(go_at_call 42;apply (dS w1 p).mono;rintro e w2 ⟨rfl,O,H⟩;have HPK:PK w w1 w2 Q:=⟨O,H,O.sb.lt,p⟩;clear O H));go_loopw [33] (fun i wr=>∃ (j:Nat) (st:List Cnt),j<=m/\i=.int .i64 j/\uq Uq doF j (s.drop j) (st.map plC)=U/\PK w w1 wr st) (fun i _=>m-(intOf i).toNat)
   .exact ⟨0,Q,Z0 _,rfl,hq,HPK⟩
   .obtain ⟨j,st,hj,rfl,aG,hpk⟩:=hrel;obtain ⟨wx,rfl⟩:∃ x:Wd,x=wr:=⟨_,rfl⟩
    have hm12:=HSM;by_cases aE:j<m
    .obtain ⟨b,o,x,rfl,hb,T,aB⟩:=Sl.cell (f:=Ud) (k:=4) (fun _=>rfl) (R.1.below hpk.be) aE;have q:=QJ T
     have hd:s.drop j=x::s.drop (j+1):=by
      have hjl:j<s.length:=by rw [hm];exact aE
      rw [QO hjl];congr 1;exact (QZ.1 T).2
     rw [hd] at aG;unfold uq at aG;have P:wx.rangeAt b (o+j*4) (Ud x):=fun t u hu=>aB t u hu
     have L:=SJ x;have N:=fun K=>Blk.new wx 42 K
     have dL:=fun K=>U5 wx K (Ud x).toArray 42
     have J:=hpk.next ((Bf _ _).alloc (Le _) (.cells (Ud x).toArray 42));have S:=Blk.new wx 42 (Ud x).toArray;have Z:=fun (W:Wd) (h:PK w w1 W st)=>uI x w1.1.size st w1 W (R.2 x q) h.be rfl h.sw (cD x q).2 (hv x (cD x q).1) (ht.after p) (hc.after p)
     have HUX:=HU.o.below J.base HU.o.lt;have HPX:=hp.below J.base hp.lt;have dI:=us x j pu pr w1.1.size (-1) (-1) st _ J.sw ((R.2 x q).1.after J.be J.be.size) (R.2 x q).2.2.1 HUX HPX aS;clear hb T aB hd q;by_cases D:x.rs.findIdx (GG (st.map plC))<x.rs.length
     .have dB:Sum.inr (some (j,x.rs.findIdx (GG (st.map plC))))=U:=by
       rw [<-aG,QK (show x.rs.findIdx (fun r => !MW (MR (st.map plC) r.id) r)<x.rs.length from D)];rfl
      clear aG;go_wp2_with (first|(with_reducible apply yM 42 36 P)|(with_reducible apply yS 42 13 (N _) L;rw [dL])|(with_reducible apply yL 42 13 S)|(go_at_call 17;apply dI.mono;intro e w3 g;unfold T7 at g;rw [QK D] at g;obtain ⟨rfl,hf3,h31,h32⟩:=g))
      go_ret2
      rw [<-dB];exact ⟨⟨_,rfl⟩,(Far.of_below J.base).trans hf3,h31,h32⟩
     .have dB:=aG;rw [QX (show ¬ x.rs.findIdx (fun r => !MW (MR (st.map plC) r.id) r)<x.rs.length from D)] at dB;clear aG;cases E:aft Uq doF x.num x.cs (st.map plC) with
      |inl er=>
       rw [E] at dB;go_wp2_with (first|(with_reducible apply yM 42 36 P)|(with_reducible apply yS 42 13 (N _) L;rw [dL])|(with_reducible apply yL 42 13 S)|(go_at_call 17;apply dI.mono;intro e w3 g;unfold T7 at g;rw [QX D] at g;obtain ⟨rfl,M⟩:=g;have V:=J.next M;have bD:=S.below M Am;clear M S)|(with_reducible apply yL 42 13 bD)|(go_at_call 43;apply (Z _ V).mono;intro e w4 ha;rw [E] at ha;obtain ⟨I,rfl,C⟩:=ha;have iF:=(by simpa using I);have cO:=U0 p (Ec V.be C (Le _) V.be.size) p.size;clear C))
       go_ret2
       rw [<-dB];exact ⟨I,rfl,cO⟩
      |inr s1=>
       rw [E] at dB;go_wp2_with (first|(with_reducible apply yM 42 36 P)|(with_reducible apply yS 42 13 (N _) L;rw [dL])|(with_reducible apply yL 42 13 S)|(go_at_call 17;apply dI.mono;intro e w3 g;unfold T7 at g;rw [QX D] at g;obtain ⟨rfl,M⟩:=g;have V:=J.next M;have bD:=S.below M Am;clear M S)|(with_reducible apply yL 42 13 bD)|(go_at_call 43;apply (Z _ V).mono;intro e w4 ha;rw [E] at ha;obtain ⟨st4,hst4,rfl,F,C⟩:=ha;have HK4:=V.far F C;clear F C));go_roundw
       .exact ⟨j+1,st4,by have:=aE;omega,Au,by rw [hst4];exact dB,HK4⟩
       .simp [intOf];have:=aE;omega
    .obtain rfl:j=m:=Oo
     have eV:U=.inr none:=by rw [<-aG,WP (by rw [hm];exact Le _)];rfl
     clear aG;go_wp2
     go_ret2
     rw [eV];exact ⟨⟨_,rfl⟩,hpk.base⟩
end
def cW (w:Wd):Wd:=(Aa w #[.int .i64 (-1)] 3).alloc (.cells #[.int .i64 (-1)] 3)
def Jn (w:Wd):Below w.1.size w (cW w):=Aj.alloc Am _
def mn (w:Wd):Blk (cW w) w.1.size 3 #[.int .i64 (-1)]:=(Blk.new w 3 _).alloc _
def mo (w:Wd):Blk (cW w) (w.1.size+1) 3 #[.int .i64 (-1)]:=U3 (Aa w #[.int .i64 (-1)] 3) 3 _ _ Am
def mm (o:Option (Nat×Nat)):Int:=match o with|none => -1|some p=>(p.1:Nat)
def ml (o:Option (Nat×Nat)):Int:=match o with|none => -1|some p=>(p.2:Nat)
def jx (R:Int ⊕ Option (Nat×Nat)) (w:Wd) (e:Ending) (w':Wd):Prop:=match R with
 |.inl er=>er≠0/\e=.returned (.tuple #[.int .i64 0,.int .i64 0,.int .i64 er])/\Below w.1.size w w'
 |.inr o=>e=.returned (.tuple #[.int .i64 (mm o),.int .i64 (ml o),.int .i64 0])/\Below w.1.size w w'
def DN (o:Option (Nat×Nat)) (w:Wd) (e:Ending) (w':Wd) (h:uN (.inr o) w.1.size (w.1.size+1) (cW w) e w'):
  ∃ v,e=.returned (.tuple #[v,.int .i64 0])/\w'.cell? ⟨w.1.size,0,none⟩=some (.int .i64 (mm o))/\w'.cell? ⟨w.1.size+1,0,none⟩=some (.int .i64 (ml o))/\Below w.1.size w w':=by
 have hz:w.1.size<=(cW w).1.size:=(Jn w).size;cases o with
 |none=>
  obtain ⟨⟨v,rfl⟩,a⟩:=h;exact ⟨v,rfl,((mn w).below a (mn w).lt).cell 0,((mo w).below a (mo w).lt).cell 0,U0 (Jn w) a hz⟩
 |some p=>
  obtain ⟨⟨v,rfl⟩,c,f,d⟩:=h;refine ⟨v,rfl,f,d,(Jn w).trans (c.below (fun b a=>?_) hz)⟩;simp at a;omega
def qK (R:Int ⊕ Option (Nat×Nat)) (k:Option Addr) (l i:Nat) (A:Option Addr) (n c:Nat) (w:Wd)
  (j:Calls prog 16 #[.slice k l i,.slice A n c,.func (.func 17) #[] #[Ag w.1.size 0,Ag (w.1.size+1) 0]] (cW w) (uN R w.1.size (w.1.size+1) (cW w))):
  Calls prog 7 #[.slice k l i,.slice A n c] w (jx R w):=by
 have d:=Hd j;have a:=Hd (Jn w);clear j;cases R with
 |inl q=>
  unfold cW at d a;go_in;go_wp2_with (go_at_call 16;refine d.o.mono ?_;rintro e p ⟨g,rfl,b⟩;have r:=Hd g;have s:(q != 0)=true:=(by simpa using g);have f:=Hd (U0 a.o b a.o.size);clear g b)
  go_ret3
  exact ⟨r.o,rfl,f.o⟩
 |inr o=>
  have m:=Hd (DN o w);unfold cW at d m;go_in;go_wp2_with (go_at_call 16;refine d.o.mono ?_;intro e p h;obtain ⟨v,rfl,c1,c2,b⟩:=m.o _ _ h;have f:=Hd b;clear h b)
  go_quiet (fail)
  go_wp2
  go_ret3
  exact ⟨rfl,Uk f.o _⟩
def OX (e:Option Addr) (b d:Nat) (a:List Cnt) (A:Option Addr) (n c:Nat) (l:List Com) (w:Wd) (i:Sl cnC 23 w w.1.size e b d a) (f:∀ x∈a,CW w x) (o:b<=1024)
  (h:Cs w w.1.size A n c l) (k:∀ x∈l,SmC x) (hn:n<=12) (g:Sta w) (m:Cod w):
  Calls prog 7 #[.slice e b d,.slice A n c] w (jx (ut a l) w):=by
 have hz:=Jn w;exact qK _ e b d A n c w (yR e b d a A n c l (cW w) w.1.size (w.1.size+1) (mn w) (mo w) Oo (i.after hz hz.size) (fun x j=>(f x j).below hz) o (h.after hz hz.size) k hn (g.after hz) (m.after hz))
section
def exC:Cnt:=⟨⟨200,3,0,8,0,0,1,128,2,0,0,0,0,0,false,0,⟨#[]⟩,⟨#[]⟩,0,0,false⟩,4,none,0,0,[]⟩
def jI (g:Nat):Zx (exL g 5)=some [Fx g 5,Ry g]:=Ak
def vS {P:Com->Prop} {g:Nat} {k:Int} (c:P (Ry g)) (b:P (Fx g k)):∀ x∈exL g k,P x:=fun x a=>by
 simp at a;rcases a with rfl|rfl
 .exact c
 .exact b
def zL (g:Nat) (k:Int):∀ x∈exL g k,SmC x/\MJ x:=by
 refine vS ⟨?_,?_⟩ ⟨?_,?_⟩<;>simp [SmC,MJ,Ry,Fx,sR,maxLen]<;>decide
def oG {α:Type} {f:α->List Value} {k:Nat} (g:∀ x,(f x).length=k) {w:Wd} {B n c:Nat} {A:Option Addr} {x y:α} (h:Sl f k w B A n c [x,y]):n=2/\∃ b o,A=some ⟨b,o,none⟩/\b<B/\w.rangeAt b o (f x)/\w.rangeAt b (o+k) (f y):=by
 obtain rfl:2=n:=h.len;obtain ⟨b,o,e,i,m⟩:=h.2.2.2 Ac;have d:=fun j u l=>m j u (by simpa [U7] using l)
 exact ⟨rfl,b,o,e,i,fun j v a=>d j v (by rw [WF (QZ.1 a).1];exact a),fun j v a=>by rw [UP];exact d _ v (by rw [ZJ (by rw [g];omega),g,Nat.add_sub_cancel_left];exact a)⟩
structure AWM (w W:Wd) (k:Int):Prop where
 b0:Blk W w.1.size 37 (cnC exC).toArray
 b1:Blk W (w.1.size+1) 50 (chC sR).toArray
 b2:Blk W (w.1.size+1+1) 42 (Ud (Ry w.1.size)).toArray
 b3:Blk W (w.1.size+1+1+1) 48 (rdC yk).toArray
 b4:Blk W (w.1.size+1+1+1+1) 42 (Ud (Fx w.1.size k)).toArray
 sz:w.1.size+5<=W.1.size
 be:Below w.1.size w W
abbrev exW (w:Wd):Wd:=((((w.alloc (.cells (cnC exC).toArray 37)).alloc (.cells (chC sR).toArray 50)).alloc (.cells (Ud (Ry w.1.size)).toArray 42)).alloc (.cells (rdC yk).toArray 48)).alloc (.cells (Ud (Fx w.1.size 5)).toArray 42)
abbrev uW (w W:Wd) (k:Int):Wd:=W.alloc (.cells (U7 Ud (exL w.1.size k)).toArray 42)
section
variable {w W W':Wd} {k:Int}
def AWM.next (h:AWM w W k) (a:Below W.1.size W W'):AWM w W' k:=
 have hz:=h.sz
 ⟨h.b0.below a Oo,h.b1.below a Oo,h.b2.below a Oo,h.b3.below a Oo,h.b4.below a Oo,Lx hz a.size,U0 h.be a Oo⟩
def AWM.alloc (h:AWM w W k) (o:Obj):AWM w (W.alloc o) k:=h.next Aj
def AWM.start (w:Wd):AWM w (exW w) 5:=
 ⟨((((Blk.new w _ _).alloc _).alloc _).alloc _).alloc _,(((U3 (w.alloc _) _ _ (w.1.size+1) Am).alloc _).alloc _).alloc _,((U3 ((w.alloc _).alloc _) _ _ (w.1.size+1+1) Am).alloc _).alloc _,(U3 (((w.alloc _).alloc _).alloc _) _ _ (w.1.size+1+1+1) Am).alloc _,U3 ((((w.alloc _).alloc _).alloc _).alloc _) _ _ (w.1.size+1+1+1+1) Am,Am,
  (((Aj.alloc Am _).alloc As _).alloc As _).alloc As _⟩
def AWM.set (h:AWM w W k) (a:Int):AWM w (W.setCell ⟨w.1.size+1+1+1+1,1,none⟩ (.int .i64 a)) a:=
 ⟨h.b0.far (by simp<;>omega) _,h.b1.far (by simp<;>omega) _,h.b2.far (by simp<;>omega) _,h.b3.far (by simp<;>omega) _,h.b4.set 1 _,by simpa using h.sz,h.be.setCell (by simp<;>omega) _⟩
def Tt {α:Type} {f:α->List Value} {m b:Nat} {t:TypeId} {x:α} (a:(f x).length=m) (h:Blk W b t (f x).toArray):Sl f m W W.1.size (Ah b 0) 1 1 [x]:=
 ⟨Le _,rfl,by simp [U7,a],fun _=>⟨b,0,rfl,h.lt,fun j u d=>h.range 0 _ (fun j v c=>by rw [Ga,QB];exact c) j u (by simpa [U7] using d)⟩⟩
def AWM.units (h:AWM w W k):Cs (uW w W k) (uW w W k).1.size (Ah W.1.size 0) 2 2 (exL w.1.size k):=
 ⟨(Sl.new Vo W 42 (exL w.1.size k)).more Am,vS ⟨Sl.nil,Tt rfl (h.alloc _).b1,Z0 _,(by decide:1<=maxLen)⟩ ⟨Tt rfl (h.alloc _).b3,Sl.nil,(by decide:1<=maxLen),Z0 _⟩⟩
def jN (h:AWM w W k) (g:Sta W) (i:Cod W) {r:Option (Nat×Nat)} (f:ut [exC] (exL w.1.size k)=.inr r):
  Calls prog 7 #[.slice (Ah W.1.size 0) 1 1,.slice (Ah (W.1.size+1) 0) 2 2] (uW w (Aa W (cnC exC).toArray 37) k) fun e w'=>e=.returned (.tuple #[.int .i64 (mm r),.int .i64 (ml r),.int .i64 0])/\AWM w w' k/\Below W.1.size W w':=by
 have hz:(Aa W (cnC exC).toArray 37).1.size=W.1.size+1:=Am
 have c:=(h.alloc (.cells (cnC exC).toArray 37)).units;rw [hz] at c;have a:Below W.1.size W (uW w (Aa W (cnC exC).toArray 37) k):=Aj.alloc Am _;have:=OX (Ah W.1.size 0) 1 1 [exC] _ 2 2 _ _ (Tt rfl ((Blk.new W _ _).alloc _)) (fun x b=>by simp at b;subst b;exact ⟨Sl.nil,Ac,fun _=>rfl,by simp [exC]⟩) Ac c (fun x b=>(zL _ _ x b).1) Ac (g.after a) (i.after a);rw [f] at this;refine this.mono fun e w' ⟨he,d⟩=>⟨he,((h.alloc _).alloc _).next d,U0 a d a.size⟩
structure AZ (w:Wd) (b o:Nat) (W:Wd):Prop where
 lb:b<W.1.size
 ne:b≠w.1.size+1+1+1+1
 c:W.cell? ⟨b,o,none⟩=some (.int .i64 8)
def BQ {l s:List Com} {e:Ending} (h:pd (Zx l) w e W') (a:Zx l=some s):uO w s e W':=by
 rcases h with ⟨h,_⟩|⟨b,h,hy⟩
 .rw [a] at h;cases h
 .rw [a] at h;cases h;exact hy
def AZ.next {b o:Nat} (h:AZ w b o W) (a:Below W.1.size W W'):AZ w b o W':=⟨WK h.lb a.size,h.ne,(a.cell (p:=⟨b,o,none⟩) h.lb).trans h.c⟩
def AZ.start {g:Int} {b o:Nat} (h:AWM w W k) (a:b<W.1.size) (f:W.rangeAt b o (Ud (Fx w.1.size g))) (d:W.rangeAt b (o+4) (Ud (Ry w.1.size))):AZ w b o W:=by
 refine ⟨a,fun e=>?_,f 0 _ rfl⟩;subst e;have c:=d 0 _ rfl;rw [h.b4.cell] at c;simp [Fx,Ud] at c
def awake_any (w:Wd) (y:Sta w) (L:Cod w):Calls prog 6 #[] w (Ab w (.bool true)):=by
 obtain ⟨G,z,M,l,T⟩:=WG X8;have q:=Hd fun (W:Wd) (k:Int) (h:AWM w W k) (r:Option (Nat×Nat)) P=>jN (r:=r) h (y.after h.be) (L.after h.be) P
 clear y L;have F:=Hd (Va exC);have D:=Hd fun g=>Blk.new w 37 g
 have n:=Hd fun g=>U5 w g (cnC exC).toArray 37
 go_in
 go_upto_region 4 with (first|((with_reducible refine Gb 34 ?_);refine U1 Ak 34 _ rfl (dC exC.d).toArray Ak ?_)|((with_reducible refine Gb 37 ?_);refine U1 Ak 37 _ rfl (cnC exC).toArray Ak ?_)|((with_reducible refine Gt 37 1 ?_);refine Lv 37 w.1.size (cnC exC).toArray (D.o _) F.o ?_;rw [n.o]))
 have a:=Hd (AWM.start w);obtain ⟨W,t⟩:=yG (exW w);rw [t] at a;change Code.wp _ _ _ _ (exW w);rw [t];clear t D n F
 go_upto_region 6 with (first|((with_reducible refine Gl 42 2 ?_);refine Lq 42 (w.1.size+1+1) #[.int .i64 9,.int .i64 5,.slice none 0 0,.slice (Ah (w.1.size+1) 0) 1 1] (by first|exact a.o.b2|exact (a.o.alloc _).b2) underlying42 ?_)|((with_reducible refine Gl 42 3 ?_);refine Lq 42 (w.1.size+1+1+1+1) #[.int .i64 8,.int .i64 5,.slice (Ah (w.1.size+1+1+1) 0) 1 1,.slice none 0 0] (by first|exact a.o.b4|exact (a.o.alloc _).b4) underlying42 ?_)|((with_reducible refine Gl 37 1 ?_);refine Lq 37 w.1.size _ (by first|exact a.o.b0|exact (a.o.alloc _).b0) underlying37 ?_)|((with_reducible refine Gc 22 ?_);refine JR rfl 22 37 1 _ rfl (cnC exC).toArray G (.agg zV.toArray) underlying22 z M (by rw [l];decide) (by rw [l];decide) (by rw [l];kernel_rfl) ?_)|(go_at_call 14;refine (K5 _ 2 2 _ _ a.o.units (fun x c=>(zL _ _ x c).2) Ac).mono ?_;intro e S H;obtain ⟨U,c1,rfl,u,B⟩:=BQ H (jI _);obtain ⟨_,b,o,rfl,m,A,E⟩:=oG Vo u.1;replace a:=Hd ((a.o.alloc _).next B);have d:=Hd (AZ.start a.o m A E);clear H u B m A E)|(go_at_call 7;refine (q.o _ _ a.o none Ak).mono ?_;rintro e J ⟨rfl,c,f⟩;replace a:=Hd c;replace d:=Hd (d.o.next f);clear c f))
 have I:=a.o.b4.cell 1;have N:=a.o.b4.free 1;simp at I
 go_upto_region 7 with (fail)
 obtain ⟨O,j⟩:=yG (J.setCell ⟨w.1.size+1+1+1+1,1,none⟩ (.int .i64 6));have c:=a.o.set 6
 replace d:=Hd (show AZ w b o O from j▸⟨by simpa using d.o.lb,d.o.ne,(VR J _ _ _ (fun e=>by injection e with e _ _;exact d.o.ne e.symm)).trans d.o.c⟩)
 rw [j] at c ⊢
 replace a:=Hd c
 clear j c I N;have Y:∀ W:Wd,(binOp .eql 55 (.agg #[.int .i64 0,.int .i64 1]) (.agg #[.int .i64 0,.int .i64 1])).run prog W=.ok (.bool true) W:=fun W=>Ak
 go_wp2_with (first|((with_reducible refine Gl 42 2 ?_);refine Lq 42 (w.1.size+1+1) #[.int .i64 9,.int .i64 5,.slice none 0 0,.slice (Ah (w.1.size+1) 0) 1 1] (by first|exact a.o.b2|exact (a.o.alloc _).b2) underlying42 ?_)|((with_reducible refine Gl 42 3 ?_);refine Lq 42 (w.1.size+1+1+1+1) #[.int .i64 8,.int .i64 6,.slice (Ah (w.1.size+1+1+1) 0) 1 1,.slice none 0 0] (by first|exact a.o.b4|exact (a.o.alloc _).b4) underlying42 ?_)|((with_reducible refine Gl 37 1 ?_);refine Lq 37 w.1.size _ (by first|exact a.o.b0|exact (a.o.alloc _).b0) underlying37 ?_)|((with_reducible refine Gc 22 ?_);refine JR rfl 22 37 1 _ rfl (cnC exC).toArray G (.agg zV.toArray) underlying22 z M (by rw [l];decide) (by rw [l];decide) (by rw [l];kernel_rfl) ?_)|(go_at_call 7;refine (q.o _ _ a.o (some (1,0)) Ak).mono ?_;rintro e R ⟨rfl,c,f⟩;replace a:=Hd c;replace d:=Hd (d.o.next f);clear c f)|(go_at_call 15;refine (vw w.1.size 2 2 rfl _ 2 _ ((K5 _ 2 2 _ _ a.o.units (fun x c=>(zL _ _ x c).2) Ac).mono fun _ _ h=>BQ (s:=exL w.1.size 6) h Ak)).mono ?_;rintro e K ⟨V,c5,rfl,p,f⟩;obtain ⟨v,C,rfl,_,i⟩:=p.2.2.2 Ac;have Q:K.cell? ⟨v,C,none⟩=some (.int .i64 0):=i 0 _ rfl;have Z:K.cell? ⟨v,C+1,none⟩=some (.int .i64 1):=i 1 _ rfl;have X:=((d.o.next Aj).next f).c;replace a:=Hd ((a.o.alloc _).next f);clear f p i))
 go_ret;exact ⟨rfl,a.o.be⟩
end
end
end Go.Proofs.YtdleakjejodjjaaGreatDoor
