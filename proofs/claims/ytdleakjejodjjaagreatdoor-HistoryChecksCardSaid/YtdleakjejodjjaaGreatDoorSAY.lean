/- Of the history laws. -/
import Derived.Test.YtdleakjejodjjaaGreatDoorSAR
import Derived.Test.YtdleakjejodjjaaGreatDoorSAU
namespace Go.Proofs.YtdleakjejodjjaaGreatDoor
open Tryz
set_option linter.defProp false
set_option linter.unusedVariables false
set_option linter.unusedSimpArgs false
set_option maxRecDepth 100000
set_option maxHeartbeats 20000000
open Go.RowKit
def Pw (a:Bz) (e:En):Bz:=wrN a [e.limit,e.last]++EQ e.empty++Vh e.owner
def F4 (k:Int) (c a:Bz):En×Bz×Int:=
 let q:=Uj 2 a 0;let b:=Uy q.2.1 q.2.2;let o:=U8 b.2.1 b.2.2 200
 (⟨k,c,dZ,[],0,q.1.getD 0 0,q.1.getD 1 0,b.1,o.1,⟨#[]⟩,0,0,[]⟩,o.2)
def GZ (e:En):Bool:=wiB 1 63 [e.limit]&&wiB 0 9999 [e.last]&&orW e.owner
def nmP (k:Int) (s:Bz) (b:Bool):Prop:=(k=0->b=Uw s)/\(k=1->b=Vt s)
def vaP (k:Int) (e:En) (b:Bool):Prop:=(k=0->b=IL e)/\(k=1->b=GZ e)
def wrP (k:Int) (e:En) (s:Bz):Prop:=(k=0->s=Kn ⟨#[]⟩ e)/\(k=1->s=Pw ⟨#[]⟩ e)
def rdP (k:Int) (b a:Bz) (R:En×Bz×Int):Prop:=(k=0->R=Et k b a)/\(k=1->R=F4 k b a)
def BoP (P:Bool->Prop) (w:Wd) (e:Ending) (w':Wd):Prop:=(∃ b,P b/\e=.returned (.bool b))/\Below w.1.size w w'
def FwP (P:Bz->Prop) (c:Nat) (w:Wd) (x:Ending) (w':Wd):Prop:=x=.returned (.tuple #[])/\∃ s:Bz,P s/\s.size<=100000/\Cw w' c s/\Far [c] w w'
def FrP (P:En×Bz×Int->Prop) (c r g:Nat) (k:Int) (b:Bz) (w:Wd) (x:Ending) (w':Wd):Prop:=
 x=.returned (.tuple #[])/\∃ (R:En×Bz×Int) (a:EnA),P R/\Sm R.1/\R.1.kind=k/\R.1.name=b/\Rdr w' r R.2.1 R.2.2/\Blk w' g 144 (enC R.1 a).toArray/\EWn w.1.size w' R.1 a/\Far [r,g] w w'
structure FormOk (k:Int) (nf vf ff:Nat):Prop where
 nm:∀ (s:Bz) (W:Wd),s.size<=1000->Sta W->Calls prog nf #[.string s] W (BoP (nmP k s) W)
 va:∀ (e:En) (a:EnA) (W:Wd),EW [] W e a->Sm e->Sta W->Calls prog vf #[.agg (enC e a).toArray] W (BoP (vaP k e) W)
 fw:∀ (c g:Nat) (e:En) (a:EnA) (W:Wd),Cw W c ⟨#[]⟩->Blk W g 144 (enC e a).toArray->EW [c] W e a->Sm e->g≠c->Calls prog ff #[Ag c 0,Ag g 0] W (FwP (wrP k e) c W)
 fr:∀ (c r g:Nat) (nm left:Bz) (W:Wd),Cr W c r->Rdr W r left 0->Blk W g 144 (enC (enK k nm) enN).toArray->left.size<=1000000->nm.size<=1000->r≠g->c≠r->c≠g ->
  Calls prog ff #[Ag c 0,Ag g 0] W (FrP (rdP k nm left) c r g k nm W)
def kQ (e:En) (a:EnA) (x y:Int):Z7 (enC e a).toArray [25,26] [x,y]=(enC { e with limit:=x,last:=y } a).toArray:=by simp [Z7,enC]
def kO (e:En) (a:EnA) (x:Bool):(enC e a).toArray.setIfInBounds 27 (.bool x)=(enC { e with empty:=x } a).toArray:=by simp [enC]
def zE (e:En) (a:EnA) (x:Bz):(enC e a).toArray.setIfInBounds 28 (.string x)=(enC { e with owner:=x } a).toArray:=by simp [enC]
def kN (e:En) (a:EnA) (x:Bz):(enC e a).toArray.setIfInBounds 29 (.string x)=(enC { e with target:=x } a).toArray:=by simp [enC]
def kM (e:En) (a:EnA) (x:Int):(enC e a).toArray.setIfInBounds 30 (.int .i64 x)=(enC { e with catalog:=x } a).toArray:=by simp [enC]
def pi (e:En) (a:EnA) (x:Int):(enC e a).toArray.setIfInBounds 31 (.int .i64 x)=(enC { e with level:=x } a).toArray:=by simp [enC]
def lZ {G:Prop} (h:G:=by
  go_in;go_wp2_with fail;refine Rw (S:=fun _=>True) Ak trivial (fun Hh=>?_)
  iterate 7 refine tB Hh ?_
  refine Aq [7] ?_;refine Rc (fun K hK=>?_) ?_
  first
   |.go_simp
     refine hK.out _ _ trivial (fun Hh=>?_);clear hK K;try simp only [Act.put,Sv,Sz,Sw]
     refine Aq [8] ?_;refine Rc (fun K hK=>?_) ?_
     .go_simp;refine wJ.o.mono ?_;rintro x w1 ⟨rfl,h1,h2⟩;simp only [];have HX:=Hd (bY.o.step h1 h2);clear h1 h2;refine hK.out _ _ trivial (fun Hh=>?_);clear hK K;try simp only [Act.put,Sv,Sz,Sw]
      refine Ad Ak ?_ _;clear Hh bY HPT wJ;go_wp2_with (first|(go_at_call 259;refine (FX c g 27 o1 e.empty _ HX.o.cw HZ.o.1 (HX.o.cell 27 _ rfl)).mono ?_;rintro x w2 ⟨rfl,h1,h2⟩;rw [i8.o] at h1;have HX:=Hd (HX.o.step h1 h2);clear h1 h2)|(go_at_call 260;refine (Kb c g 28 o2 e.owner _ HX.o.cw (HX.o.cell 28 _ rfl) HZ.o.2.1 HZ.o.2.2).mono ?_;rintro x w2 ⟨rfl,h1,h2⟩;have HX:=Hd (HX.o.step h1 h2);clear h1 h2))
      go_end0
      exact ⟨rfl,HX.o.cw,HX.o.fa⟩
     exact An
    exact An
   |.go_simp
     refine hK.out _ _ trivial (fun Hh=>?_);clear hK K;try simp only [Act.put,Sv,Sz,Sw]
     refine Aq [8] ?_;refine Rc (fun K hK=>?_) ?_
     .go_simp;refine wJ.o.mono ?_;rintro x w1 ⟨rfl,h1,h2,h3⟩;simp only [];have HX:=Hd (bY.o.step h1 h2 h3 HZ.o.1);clear h1 h2 h3;refine hK.out _ _ trivial (fun Hh=>?_);clear hK K;try simp only [Act.put,Sv,Sz,Sw]
      refine Ad Ak ?_ _;clear Hh bY HPT wJ;go_wp2_with (first|(go_at_call 259;refine (Jk c r g 27 144 _ false l1 r1 _ HX.o.left HX.o.cr HX.o.rd HX.o.bg rfl HX.o.n1).mono ?_;rintro x w2 ⟨rfl,h1,h2,h3⟩;rw [HE.o.2.1] at h1 h2;rw [kO] at h2;have HX:=Hd (HX.o.step h1 h2 h3 HZ.o.2.1);clear h1 h2 h3)|(go_at_call 260;refine (IE c r g 28 144 _ ⟨#[]⟩ l2 r2 _ HX.o.left HX.o.cr HX.o.rd HX.o.bg rfl HX.o.n1).mono ?_;rintro x w2 ⟨rfl,h1,h2,h3⟩;rw [HE.o.2.2] at h1 h2;rw [zE] at h2;have HX:=Hd (HX.o.step h1 h2 h3 HZ.o.2.2);clear h1 h2 h3))
      go_end0
      exact ⟨rfl,enN,HX.o.rd,HX.o.bg,⟨Sl.nil,Sl.nil,fun p hp _=>(by cases hp),fun p hp _=>(by cases hp)⟩,HX.o.fa⟩
     exact An
    exact An):G:=h
abbrev Ru (w:Wd) (g) (n_):=w.alloc (.cells #[.pointer (some ⟨g,25,n_⟩),.pointer (some ⟨g,26,n_⟩)] 208)
def rQ (c g:Nat) (e:En) (a:EnA) (b:Bz) (w:Wd) (F:Cw w c b) (E:Blk w g 144 (enC e a).toArray) (hw:EW [c] w e a) (y:Sm e) (O:b.size<=100000) (jW:g≠c):
  Calls prog 257 #[Ag c 0,Ag g 0] w fun x w'=>x=.returned (.tuple #[])/\Cw w' c (Pw b e)/\Far [c] w w':=by
 have HX:Aw (DwI c g e a w w b):=Hd ⟨F,E,hw,Far.refl _ _,jW⟩;have T:=Hd HX.lt;have o:=y.eo;have d:=y.nu;simp only [QH,QM,XP,WR,YR] at d;obtain ⟨N,U,V,J,L,I,P,Q,R,M,k,z,B,C,m,u,A,l,i,f,t,D⟩:=d;have s:Aw (∀ n∈[e.limit,e.last],0<=n/\n<=9223372036854775807):=Hd (by simp only [QH,QM,XP,WR,YR];exact ⟨i,f⟩);clear N U V J L I P Q R M k z B C m u A l i f t D F E hw y;unfold Pw;have q:=Xe [e.limit,e.last] b;simp only [QS,XS] at q;obtain ⟨o1,v⟩:=yG (wrN b [e.limit,e.last]);rw [v] at q ⊢;obtain ⟨o2,j⟩:=yG (o1++EQ e.empty);rw [j];have W:o2.size=o1.size+1:=by rw [<-j,QY,Vr]
 have HZ:Aw (o1.size<=1000000000/\o2.size<=1000000000/\e.owner.size<=1000000000):=Hd ⟨Oo,Oo,Oo⟩;have bY:Aw (DwI c g e a w (Ru w g none).drew b):=Hd (HX.alloc _).drew;have H:w.1.size≠c:=by have:=T.1;omega
 have HPT:Aw (Blk (Ru w g none).drew w.1.size 208 (RC g [25,26])):=Hd (Blk.new w _ _).drew;have wJ:Aw (Calls prog 258 #[Ag c 0,.slice (Ah w.1.size 0) 2 2] (Ru w g none).drew fun x w'=>x=.returned (.tuple #[])/\Cw w' c o1/\Far [c] (Ru w g none).drew w'):=Hd (by rw [<-v];exact PP c g w.1.size 2 [25,26] [e.limit,e.last] b _ bY.cw As Am rfl (Ea HPT) (G6 (by simp only [UB,UC,QH,QM,XP,WR,YR];exact ⟨bY.cell 25 _ rfl,bY.cell 26 _ rfl⟩)) s jW H);have i8:=Hd j;clear H o q W v j O;exact lZ
def rR (c r g:Nat) (k:Int) (b a:Bz) (w:Wd) (F:Cr w c r) (v:Rdr w r a 0) (s:Blk w g 144 (enC (enK k b) enN).toArray) (z:a.size<=1000000) (B:r≠g) (E:c≠r) (q:c≠g):
  Calls prog 257 #[Ag c 0,Ag g 0] w (DrP c r g (F4 k b a) w):=by
 have o:Aw (DrI c r g w w (enC (enK k b) enN).toArray a 0):=Hd ⟨F,v,s,Far.refl _ _,B,E,q,z⟩;have A:=Hd o.lt;clear F v s z;have l:=X0 2 a 0;have m:=Zc 2 a 0;obtain ⟨p,f⟩:=yG (Uj 2 a 0);rw [f] at l m;obtain ⟨M,l1,r1⟩:=p;obtain ⟨D,t,rfl⟩:=pw l;have j:=Xn l1 r1;obtain ⟨p,d⟩:=yG (Uy l1 r1);rw [d] at j;obtain ⟨I,l2,r2⟩:=p;have n:=(Vf l2 r2 200).2;obtain ⟨p,i⟩:=yG (U8 l2 r2 200);rw [i] at n;obtain ⟨L,J,H⟩:=p
 have C:F4 k b a=((⟨k,b,dZ,[],0,D,t,I,L,⟨#[]⟩,0,0,[]⟩:En),J,H):=by
  unfold F4;simp only [f,d,i];rfl
 rw [C];have HZ:=Hd (And.intro m (And.intro j n));have HE:=Hd (And.intro f (And.intro d i));clear C l m j n f d i;have bY:Aw (DrI c r g w (Ru w g none).drew (enC (enK k b) enN).toArray a 0):=Hd (o.alloc _).drew;have u:w.1.size≠r:=by have:=A.2.1;omega
 have y:w.1.size≠g:=by have:=A.2.2;omega
 have HPT:Aw (Blk (Ru w g none).drew w.1.size 208 (RC g [25,26])):=Hd (Blk.new w _ _).drew;have wJ:Aw (Calls prog 258 #[Ag c 0,.slice (Ah w.1.size 0) 2 2] (Ru w g none).drew fun x w'=>x=.returned (.tuple #[])/\Rdr w' r l1 r1/\Blk w' g 144 (enC { enK k b with limit:=D,last:=t } enN).toArray/\Far [r,g] (Ru w g none).drew w'):=Hd (by have h:=PQ c r g w.1.size 2 2 144 [25,26] (enC (enK k b) enN).toArray a 0 _ bY.left bY.cr bY.rd bY.bg Ac rfl (Ea HPT) (Pn Af) B u y E q;rw [HE.o.1] at h;rw [kQ] at h;exact h);clear u y;exact lZ
section
variable {e:En} {a:EnA} {w W:Wd}
structure EB (e:En) (a:EnA) (w W:Wd):Prop where
 e1:Blk W w.1.size 144 (enC e a).toArray
 be:Below w.1.size w W
 sz:w.1.size+1<=W.1.size
 st:Sta W
def EB.next {W':Wd} (h:EB e a w W) (b:Below W.1.size W W'):EB e a w W':=
 have hz:=h.sz
 ⟨h.e1.below b h.e1.lt,U0 h.be b Oo,Lx h.sz b.size,h.st.after b⟩
def EB.alloc (h:EB e a w W) (o:Obj):EB e a w (W.alloc o):=h.next ((Bf _ _).alloc (Le _) o)
def EB.cell (h:EB e a w W) (i:Nat) (v:Value) (b:(enC e a)[i]? =some v):W.cell? ⟨w.1.size,i,none⟩=some v:=by rw [h.e1.cell];simpa using b
abbrev Rt (w:Wd) (e) (a):=w.alloc (.cells (enC e a).toArray 144)
def EB.new (e:En) (a:EnA) (w:Wd) (h:Sta w):EB e a w (Rt w e a):=
 have b:Below w.1.size w (Rt w e a):=Aj
 ⟨Blk.new w _ _,b,Am,h.after b⟩
def Fo (W:Wd) (l:List Int) (t:TypeId):Sl Xg 1 (W.alloc (.cells (l.map (Value.int .i64)).toArray t)) (W.alloc (.cells (l.map (Value.int .i64)).toArray t)).1.size (Ah W.1.size 0) l.length l.length l:=by
 have h:=Sl.new (f:=Xg) (k:=1) (fun _=>rfl) W t l
 have b:U7 Xg l=l.map (Value.int .i64):=by
  induction l with
  |nil=>rfl
  |cons x r c=>rw [Vg,c (Sl.new (f:=Xg) (k:=1) (fun _=>rfl) W t r)];rfl
 rw [b] at h;exact h.more Am
theorem lY {G:Prop} (h:G:=by
  have HF:R=false:=by rw [<-gZ.o];unfold GZ;simp [hq]
  exact Il 2 (.bool false) Ak (by intro a' h4 hd;simp only [Exit.then];refine hK _ _ ?_;go_wp2;exact Br (v:=.bool false) ((VK results261 a'.tmps _ _).trans (by rw [h4])) hd ⟨by rw [HF],HX.o.be⟩)):G:=h
def Wu (e:En) (a:EnA) (w:Wd) (u:Sm e) (p:Sta w):
  Calls prog 261 #[.agg (enC e a).toArray] w (Ab w (.bool (GZ e))):=by
 obtain ⟨R,m⟩:=yG (GZ e);rw [m];have gZ:=Hd m;have HX:=Hd (EB.new e a w p);have j:Aw (e.owner.size<=maxLen):=Hd (by have:=u.eo;unfold maxLen;omega);have k:=HX.cell 25 (.int .i64 e.limit) rfl;clear m u p;go_in;go_wp2_with ((with_reducible show Calls _ _ _ _ _);refine Stop.go ?_);refine Stop.in' ?_;rename_i K hK X s;obtain ⟨d,l⟩:=yG (Rt w e a);have o:w.1.size+1=d.1.size:=by rw [<-l];simp
 simp only [l] at HX ⊢;simp only [o];clear k l o;have c:Aw (Sl Xg 1 (Aa d #[.int .i64 e.limit] 3) (Aa d #[.int .i64 e.limit] 3).1.size (Ah d.1.size 0) 1 1 [e.limit]):=Hd (Fo d [e.limit] 3);have HX:=Hd (HX.alloc (.cells #[.int .i64 e.limit] 3));obtain ⟨b,f⟩:∃ V,Aa d #[.int .i64 e.limit] 3=V:=⟨_,rfl⟩
 simp only [f] at HX c ⊢;clear f;refine yE (Vy 1 63 _ 1 1 [e.limit] b c Ac) ?_;simp only [];refine s _ _ ?_;clear s;obtain ⟨q,hq⟩:=yG (wiB 1 63 [e.limit]);rw [hq];cases q with
 |false=>
  exact lY
 |true=>
  have t:=Hd hq;clear hq;refine Wv (.bool true) ?_;refine Wv (Ag w.1.size 26) ?_;have i:=HX.cell 26 (.int .i64 e.last) rfl;refine Wv (.int .i64 e.last) ?_ (r:=Az);clear i;refine G8 Ak (.slice (Ah b.1.size 0) 1 1) (Aa b #[.int .i64 e.last] 3) Az ?_;simp only [Act.put,Sv,Sz,Sw];have c:Aw (Sl Xg 1 (Aa b #[.int .i64 e.last] 3) (Aa b #[.int .i64 e.last] 3).1.size (Ah b.1.size 0) 1 1 [e.last]):=Hd (Fo b [e.last] 3);have HX:=Hd (HX.alloc (.cells #[.int .i64 e.last] 3));obtain ⟨g,f⟩:∃ V,Aa b #[.int .i64 e.last] 3=V:=⟨_,rfl⟩
  simp only [f] at HX c ⊢;clear f;refine Zv Ak 262 #[.int .i64 0,.int .i64 9999,.slice (Ah b.1.size 0) 1 1] Ak ?_;refine yE (Vy 0 9999 _ 1 1 [e.last] g c Ac) ?_;simp only [];simp only [Act.put,Sv,Sz,Sw];obtain ⟨q,hq⟩:=yG (wiB 0 9999 [e.last]);rw [hq];cases q with
  |false=>
   exact lY
  |true=>
   have n:=Hd hq;clear hq;refine Wv (.bool true) ?_;refine Wv (.bool true) ?_;refine Wv (Ag w.1.size 28) ?_;have i:=HX.cell 28 (.string e.owner) rfl;refine Wv (.string e.owner) ?_ (r:=Az);clear i;refine Wv (.bool (e.owner.toList == [])) ?_;obtain ⟨z,hz⟩:=yG (e.owner.toList == []);rw [hz];cases z with
   |true=>
    have HF:R=true:=by rw [<-gZ.o];unfold GZ orW;rw [t.o,n.o,QQ (YT.1 hz)];rfl
    exact Il 2 (.bool true) Ak (by intro a' h4 hd;simp only [Exit.then];refine hK _ _ ?_;go_wp2;exact Br (v:=.bool true) ((VK results261 a'.tmps _ _).trans (by rw [h4])) hd ⟨by rw [HF],HX.be⟩)
   |false=>
    refine Wv (.bool false) ?_;refine Wv (Ag w.1.size 28) ?_;have i:=HX.cell 28 (.string e.owner) rfl;refine Wv (.string e.owner) ?_ (r:=Az);clear i;refine Zv Ak 263 #[.string e.owner] Ak ?_;refine yT (I6 e.owner g j HX.st.mx) HX.next fun V HX=>?_
    simp only [];simp only [Act.put,Sv,Sz,Sw];have HF:R=EU e.owner:=by rw [<-gZ.o];unfold GZ orW;rw [t.o,n.o,QW (fun h=>by rw [h] at hz;cases hz)];rfl
    obtain ⟨q,hq⟩:=yG (EU e.owner);rw [hq] at HF ⊢;exact Il 2 (.bool q) (by cases q<;>kernel_rfl) (by intro a' h4 hd;simp only [Exit.then];refine hK _ _ ?_;go_wp2;exact Br (v:=.bool q) ((VK results261 a'.tmps _ _).trans (by rw [h4])) hd ⟨by rw [HF],HX.be⟩)
def Bg (s:Bz) (w:Wd) (k:s.size<=1000) (c:Sta w):Calls prog 264 #[.string s] w (BoolG w):=by
 have j:=Hd (Na s w Oo c.mx);have i:=Hd fun W (h:Sta W)=>Yo s W (by unfold maxLen;omega) h.mx
 have m:=Hd c;clear k c;go_in;go_wp2_with (first|(go_at_call 265;refine yP j fun n b=>?_;have d:=Hd b;have l:=Hd (m.after b);clear b)|(go_at_call 253;refine yP (i _ l) fun o f=>?_;have g:=Hd (U0 d f d.size);clear f;generalize Uw s=z;cases z))
 all_goals
  go_ret;exact ⟨⟨_,rfl⟩,g⟩
def uv (s:Bz) (w:Wd) (g:s.size<=1000) (b:Sta w):Calls prog 268 #[.string s] w (BoolG w):=by
 have f:=Hd (Yo s w (by unfold maxLen;omega) b.mx);have c:=Hd fun W=>strings_Count_one s 46 W
 generalize (Lib.countByte s.data.toList 46)=n at c;clear g b;go_in;go_wp2_with (first|(go_at_call 253;refine yN f fun h d=>?_;generalize Uw s=z;cases z)|(go_at_call 269;refine yF (c _) ?_))
 all_goals
  go_ret;exact ⟨⟨_,rfl⟩,d⟩
def Be (e:En) (a:EnA) (w:Wd) (h:Sm e) (g:Sta w):Calls prog 267 #[.agg (enC e a).toArray] w (BoolG w):=by
 have d:=Hd (EB.new e a w g);have b:=d.cell 29 (.string e.target) rfl;have j:=Hd (Yo e.target _ (by have:=h.ta;unfold maxLen;omega) d.st.mx);clear h g;go_in;go_wp2_with (go_at_call 253;refine yP j fun k f=>?_;have c:=Hd (d.next f);have i:=c.cell 29 (.string e.target) rfl;have l:=c.cell 1 (.string e.name) rfl;clear f b;generalize Uw e.target=z;cases z)
 all_goals
  go_ret;exact ⟨⟨_,rfl⟩,c.be⟩
def uu (e:En) (a:EnA) (w:Wd) (c:Sta w):Calls prog 272 #[.agg (enC e a).toArray] w (BoolG w):=by
 have d:=Hd (EB.new e a w c);have f:=d.cell 30 (.int .i64 e.catalog) rfl;have h:Aw (Calls prog 262 #[.int .i64 1,.int .i64 15,.slice (Ah (w.1.size+1) 0) 1 1] (Aa (Rt w e a) #[.int .i64 e.catalog] 3) fun x w'=>x=.returned (.bool (wiB 1 15 [e.catalog]))/\(Aa (Rt w e a) #[.int .i64 e.catalog] 3)=w'):=Hd (by have b:=Fo (Rt w e a) [e.catalog] 3;rw [show (Rt w e a).1.size=w.1.size+1 from Am] at b;exact Vy 1 15 _ 1 1 [e.catalog] _ b Ac);have g:Aw (Below w.1.size w (Aa (Rt w e a) #[.int .i64 e.catalog] 3)):=Hd (d.alloc _).be;clear c;go_in;go_wp2_with (go_at_call 262;refine yE h ?_);go_ret;exact ⟨⟨_,rfl⟩,g⟩
end
def DK (c g:Nat) (e:En) (a:EnA) (w:Wd) (hc:Cw w c ⟨#[]⟩) (v:Blk w g 144 (enC e a).toArray) (hw:EW [c] w e a) (z:Sm e) (jW:g≠c):
  Calls prog 274 #[Ag c 0,Ag g 0] w (FwP (fun _=>True) c w):=by
 obtain ⟨A,C,s,r⟩:=a;have l:Aw (DwI c g e ⟨A,C,s,r⟩ w w ⟨#[]⟩):=Hd ⟨hc,v,hw,Far.refl _ _,jW⟩;have HS:=Hd z;have hlg:=z.lg;have t:=z.nu;simp only [QH,QM,XP,WR,YR] at t;obtain ⟨n0,n1,n2,n3,n4,n5,n6,n7,n8,n9,T,K,S,n13,P,W,L,U,J,Y,Q,u⟩:=t;have D:=Hd u;have q1:=V6 e.level;have q2:=Ut e.owner;have q3:=z.eo;obtain ⟨F,X⟩:=yG ((⟨#[]⟩:Bz)++Vu e.level);obtain ⟨E,V⟩:=yG (F++Vh e.owner);obtain ⟨o3,O⟩:=yG (E++Vu e.grants.length);have q4:=V6 e.grants.length;have z1:F.size<=10:=by have h0:(⟨#[]⟩:Bz).size=0:=rfl;rw [<-X,QY];omega
 have z2:E.size<=1030:=by rw [<-V,QY];omega
 have z3:o3.size<=1050:=by rw [<-O,QY];omega
 have R:=Hd (And.intro X (And.intro V O));have M:Aw (F.size<=1000000000/\E.size<=1000000000/\e.owner.size<=1000000000):=Hd ⟨Oo,Oo,Oo⟩;clear n0 n1 n2 n3 n4 n5 n6 n7 n8 n9 T K S n13 P W L U J Y Q u hc v hw z q1 q2 q3 q4 z1 z2 X V O;go_in
 go_wp2_with (first|(go_at_call 271;(with_reducible show Calls _ _ #[_,.pointer (some ⟨_,31,none⟩)] _ _);refine (Jl c g 31 ⟨#[]⟩ e.level _ l.cw (l.cell 31 _ rfl) Ac D.1 D.2).mono ?_;rintro x I ⟨rfl,h,d⟩;rw [R.o.1] at h;have l:=Hd (l.step h d);clear h d)|(go_at_call 260;(with_reducible show Calls _ _ #[_,.pointer (some ⟨_,28,none⟩)] _ _);refine (Kb c g 28 F e.owner _ l.cw (l.cell 28 _ rfl) M.1 M.2.2).mono ?_;rintro x I ⟨rfl,h,d⟩;rw [R.o.2.1] at h;have l:=Hd (l.step h d);have m:=l.cell 32 (.slice s e.grants.length r) rfl;clear h d)|(go_at_call 335;refine (SN c E e.grants.length 8 _ l.cw M.2.1 Oo Oo Ac Ac).mono ?_;rintro x I ⟨rfl,h,d⟩;rw [R.o.2.2] at h;have l:=Hd (l.step h d);have c1:=l.cw.c1;clear m;have m:=l.cell 32 (.slice s e.grants.length r) rfl;clear h d))
 clear c1 m;have aJ:=l;clear l;go_loopw [43] (fun i wr=>∃ (j:Nat) (o:Bz),j<=e.grants.length/\i=.int .i64 j/\o.size<=1050+1100*j/\DwI c g e ⟨A,C,s,r⟩ w wr o) (fun i _=>e.grants.length-(intOf i).toNat)
 .exact ⟨0,o3,Z0 _,rfl,Oo,aJ⟩
 .obtain ⟨j,o,hj,rfl,hz,hx⟩:=hrel;have n:=Hd hx;clear hx aJ;by_cases aE:j<e.grants.length
  .obtain ⟨b,p,x,hA,hb,v,aB⟩:=Sl.cell (f:=grC) (k:=3) (fun _=>rfl) n.ew.sg aE;have fV:s=some ⟨b,p,none⟩:=hA;subst fV;have aS:=n.ew.ng _ rfl Oo;have G:=aB 0 _ rfl;have k1:=aB 1 _ rfl;have k2:=aB 2 _ rfl;simp only [QF] at G;have hr:=HS.gr x (QJ v);have B:=Hd (And.intro G (And.intro k1 (And.intro k2 (show b≠c from by simpa using aS))));have HR:=Hd hr;have m:=n.cell 32 (.slice (Ah b p) e.grants.length r) rfl;have u1:=Ut x.who;have u2:=V6 x.level
   have H:Aw (o.size<=1000000000/\(o++Vh x.who).size<=1000000000/\(o++Vh x.who++EQ x.group).size<=1000000000/\(o++Vh x.who++EQ x.group++Vu x.level).size<=1050+1100*(j+1)):=Hd ⟨Oo,by rw [QY];omega,by rw [QY,QY,Vr];omega,by rw [QY,QY,QY,Vr];omega⟩;have gX:=Hd (Kb c b (p+j*3) o x.who wr n.cw G H.1 Oo);clear hA hb v aB aS G k1 k2 hr u1 u2
   go_wp2_with (first|(go_at_call 260;refine gX.mono ?_;rintro y I ⟨rfl,h,d⟩;have q:=Hd (n.step h d);have N:=Hd (FX c b (p+j*3+1) _ x.group I q.cw H.2.1 (If B.2.1 d (by simpa using B.2.2.2)));have HT3:=Hd (If B.2.2.1 d (by simpa using B.2.2.2));clear h d)|(go_at_call 259;refine N.mono ?_;rintro y w3 ⟨rfl,h,d⟩;have q:=Hd (q.step h d);have Z:=Hd (Jl c b (p+j*3+2) _ x.level w3 q.cw (If HT3 d (by simpa using B.2.2.2)) H.2.2.1 HR.2.1 HR.2.2);clear h d)|(go_at_call 271;refine Z.mono ?_;rintro y w4 ⟨rfl,h,d⟩;have q:=Hd (q.step h d);clear h d));go_roundw
   .exact ⟨j+1,_,Oo,Au,H.2.2.2,q⟩
   .exact At
  .obtain rfl:j=e.grants.length:=Oo
   have m:=n.cell 32 (.slice s e.grants.length r) rfl;go_wp2
   go_end0
   exact ⟨rfl,o,trivial,Oo,n.cw,n.fa⟩
section
variable {cs:Array Value} {t j:Nat}
def rM:(prog.info? 287).map (fun i=>(i.zero,i.size,i.bytes))=some (some (.agg #[.string ⟨#[]⟩,.bool false,.int .i64 0]),3,32):=Ak
def Ma (n t k:Nat) (h:t<n) (d:k<3):(madeCells #[.string ⟨#[]⟩,.bool false,.int .i64 0] (n*3))[t*3+k]? =#[Value.string ⟨#[]⟩,.bool false,.int .i64 0][k]?:=by
 unfold madeCells;rw [UA,UG];have c:t*3+k<n*3:=Oo
 have b:(t*3+k) % 3=k:=Oo
 have a:k=0\/k=1\/k=2:=Oo
 simp only [c,VY,KR];rcases a with rfl|rfl|rfl<;>simp [b]
def GraAt (cs:Array Value) (t:Nat):Prop:=∃ x:Gra,x.who.size<=1000/\0<=x.level/\x.level<=9223372036854775807/\cs[t*3]? =some (.string x.who)/\cs[t*3+1]? =some (.bool x.group)/\cs[t*3+2]? =some (.int .i64 x.level)
def GraB (W:Wd) (h n:Nat):Prop:=∃ cs:Array Value,Blk W h 287 cs/\cs.size=n*3/\∀ t,t<n->GraAt cs t
theorem oe {G:Prop} (h:G:=by
  .exact ⟨x,h1,h2,h3,by rw [QD Oo];exact k0,by rw [QD Oo];exact k1,by rw [QD Oo];exact k2⟩):G:=h
def GraAt.s0 (h:GraAt cs t) (s:Bz) (a:s.size<=1000):GraAt (cs.setIfInBounds (j*3) (.string s)) t:=by
 obtain ⟨x,h1,h2,h3,k0,k1,k2⟩:=h;by_cases e:j=t
 .subst e;exact ⟨⟨s,x.group,x.level⟩,a,h2,h3,XR (WA.1 k0).1,by rw [QD Oo];exact k1,by rw [QD Oo];exact k2⟩
 exact oe
def GraAt.s1 (h:GraAt cs t) (b:Bool):GraAt (cs.setIfInBounds (j*3+1) (.bool b)) t:=by
 obtain ⟨x,h1,h2,h3,k0,k1,k2⟩:=h;by_cases e:j=t
 .subst e;exact ⟨⟨x.who,b,x.level⟩,h1,h2,h3,by rw [QD Oo];exact k0,XR (WA.1 k1).1,by rw [QD Oo];exact k2⟩
 exact oe
def GraAt.s2 (h:GraAt cs t) (m:Int) (a:0<=m) (b:m<=9223372036854775807):GraAt (cs.setIfInBounds (j*3+2) (.int .i64 m)) t:=by
 obtain ⟨x,h1,h2,h3,k0,k1,k2⟩:=h;by_cases e:j=t
 .subst e;exact ⟨⟨x.who,x.group,m⟩,h1,a,b,by rw [QD Oo];exact k0,by rw [QD Oo];exact k1,XR (WA.1 k2).1⟩
 exact oe
def BU {α:Type} {P:Nat->α->Prop}:∀ n:Nat,(∀ t,t<n->∃ x,P t x)->∃ l:List α,l.length=n/\∀ (t:Nat) (x:α),l[t]? =some x->P t x
 |0,_=>⟨[],rfl,fun t x h=>by simp at h⟩
 |n+1,h=>by
  obtain ⟨l,c,b⟩:=BU n fun t f=>h t Oo
  obtain ⟨x,d⟩:=h n Oo;refine ⟨l++[x],by simp [c],fun t y hy=>?_⟩;rw [JY] at hy;split at hy
  .exact b t y hy
  .have e:t-l.length=0:=by
    rcases WB (t-l.length) with a|a
    .exact a
    .rw [WM As] at hy;cases hy
   rw [e] at hy;simp at hy;subst hy;have:t=n:=Oo
   rw [this];exact d
def GraB.sl {W:Wd} {h n:Nat} (k:GraB W h n):∃ l:List Gra,l.length=n/\Sl grC 3 W W.1.size (Ah h 0) n n l/\∀ x∈l,x.who.size<=1000/\0<=x.level/\x.level<=9223372036854775807:=by
 obtain ⟨cs,e,hz,y⟩:=k;obtain ⟨l,d,g⟩:=BU n y;refine ⟨l,d,⟨Le _,d,by rw [Vm (k:=3) (fun _=>rfl),d],fun _=>⟨h,0,rfl,e.lt,fun j u a=>?_⟩⟩,fun x v=>?_⟩
 .rw [QB,e.cell]
  have z:j<l.length*3:=by
   have:=(QZ.1 a).1
   rwa [Vm (k:=3) (fun _=>rfl)] at this
  obtain ⟨t,k,rfl,p⟩:∃ t k,j=t*3+k/\k<3:=⟨j / 3,j % 3,Oo,Oo⟩
  have b:t<l.length:=Oo
  have o:=Er (f:=grC) (k:=3) (fun _=>rfl) l t l[t] (QV b) k p;rw [o] at a;obtain ⟨_,_,_,q,i,w⟩:=g t l[t] (QV b);have c:k=0\/k=1\/k=2:=Oo
  rcases c with rfl|rfl|rfl
  .rw [<-a];exact q
  .rw [<-a];exact i
  .rw [<-a];exact w
 .obtain ⟨t,b,rfl⟩:=XG v;obtain ⟨r,m,s,_⟩:=g t l[t] (QV b);exact ⟨r,m,s⟩
end
def Kp (s:Bz) (g:Bool):Value:=.agg #[.string s,.bool g]
def Q9 (D:Nat) (s:Bz) (g:Bool) (h:s.size<=maxLen):prog.keyLits (D+2) 362 (Kp s g).cells.toList=some [.string s.data.toList,.bool g]:=by
 have c1:prog.cellsOf 362=2:=Ak
 have c2:prog.cellsOf 9=1:=Ak
 have c3:prog.cellsOf 4=1:=Ak
 simp [Program.keyLits,Kp,Value.cells,underlying362,underlying9,underlying4,c1,c2,c3,h]
def Bp (s:Bz) (g:Bool) (h:s.size<=maxLen):∃ l,keyOf prog 362 (Kp s g)=some l:=by
 have b:decide (1<=prog.types.size)=true:=Ak
 have e:=ZZ b;obtain ⟨D,d⟩:∃ D,prog.types.size+1=D+2:=⟨prog.types.size-1,Oo⟩
 have c:prog.keyType 362=true:=Ak
 have a:(Kp s g).formed prog 362=true:=Ak
 unfold keyOf;rw [underlying362];simp only [c,a,Bool.and_self,VY,d,Q9 D s g h,KR];exact ⟨_,rfl⟩
def SeenM (W:Wd) (b:Nat):Prop:=∃ (a:Array MapEntry) (c:Nat),W.1[b]? =some (.map a c)/\∀ e∈a.toList,(∃ s g,e.key=Kp s g/\s.size<=maxLen)/\e.val=.bool true
def SeenM.lt {W:Wd} {b:Nat} (h:SeenM W b):b<W.1.size:=by
 obtain ⟨f,c,d,_⟩:=h;rcases ZW b W.1.size with e|a
 .exact e
 .rw [XH a] at d;cases d
def SeenM.below {W W':Wd} {b:Nat} (h:SeenM W b) (g:Below W.1.size W W'):SeenM W' b:=by
 have d:=h.lt;obtain ⟨f,c,e,a⟩:=h;exact ⟨f,c,(g.block b d).trans e,a⟩
def SeenM.new (W:Wd):SeenM (W.alloc (.map #[] 0)) W.1.size:=⟨#[],0,YH W _,fun e he=>by simp at he⟩
def De (a:List MapEntry) (h:∀ e∈a,(∃ s g,e.key=Kp s g/\s.size<=maxLen)/\e.val=.bool true) (s:Bz) (g:Bool) (t:s.size<=maxLen) (W:Wd):
  ∃ r,(Instr.findKey 362 (Kp s g) a).run prog W=.ok r W/\(r=none\/∃ i,r=some (i,.bool true)):=by
 have f:∀ {x y:Value} {k o:Lit},keyOf prog 362 x=some k->keyOf prog 362 y=some o->∃ r:Bool,(Op.equal 362 x y).run prog W=.ok r W/\(r=true<->k=o):=
  fun l hy=>run_equal_deep W (m:=3) Ac Ak (by rw [underlying362]) l hy
 obtain ⟨k,l⟩:=Bp s g t;cases a with
 |nil=>exact ⟨none,by simp [Instr.findKey,WN underlying362,Instr.findNow,Result.andThen],.inl rfl⟩
 |cons e a=>
  have hn:∀ d,prog.underlying 362=some d->Instr.findNow d (Kp s g) (e::a) 0=none:=fun d b=>by
   rw [underlying362] at b;injection b with b
   subst b;simp [Instr.findNow,Instr.sameNow]
  have n:=hn _ underlying362;rcases run_findAsking_of W f l (e::a) 0 (fun x c=>by obtain ⟨⟨u,v,q,p⟩,_⟩:=h x c;rw [q];exact Bp u v p) with ⟨h1,_⟩|⟨j,e2,h1,h2,_⟩
  .exact ⟨none,by simp [Instr.findKey,WN underlying362,n,h1,Result.andThen],.inl rfl⟩
  .exact ⟨some (0+j,e2.val),by simp [Instr.findKey,WN underlying362,n,h1,Result.andThen],.inr ⟨0+j,by rw [(h e2 (QJ h2)).2]⟩⟩
def N5 (a:Bool) (s:Bz) (g:Bool) (b:s.size<=maxLen) (W:Wd):(Instr.checkKey a 10000 362 (Kp s g)).run prog W=.ok () W:=
 run_checkKey_deep a 9997 3 362 Ak W 4 (Kp s g) _ Ak (Q9 2 s g b)
def zQ {W:Wd} {b:Nat} (h:SeenM W b) (s:Bz) (g:Bool) (f:s.size<=maxLen):
  (Instr.lookup 360 (.map (some b)) (Kp s g) false).run prog W=.ok (.bool true) W \/
  ((Instr.lookup 360 (.map (some b)) (Kp s g) false).run prog W=.ok (.bool false) W /\
   ∃ W',(Instr.mapUpdate 360 (.map (some b)) (Kp s g) (.bool true)).run prog W=.ok () W'/\SeenM W' b/\Far [b] W W'):=by
 obtain ⟨k,c,d,he⟩:=h;obtain ⟨r,j,n⟩:=De k.toList he s g f W;have l:=N5 k.isEmpty s g f W;have m:=N5 false s g f W;rcases n with rfl|⟨i,rfl⟩
 .refine .inr ⟨by simp [Instr.lookup,WN underlying360,WV d,l,j],{ W with heap:=W.heap.setIfInBounds b (.map (k.push ⟨Kp s g,.bool true,c⟩) (c+1)) },?_,⟨_,_,(VQ d).1,fun e a=>?_⟩,FSw⟩
  .simp [Instr.mapUpdate,WN underlying360,WV d,m,j,YS _ d,Result.andThen]
  .rw [Array.toList_push] at a;rcases QC.1 a with a|a
   .exact he e a
   .rw [QT.1 a];exact ⟨⟨s,g,rfl,f⟩,rfl⟩
 .exact .inl (by simp [Instr.lookup,WN underlying360,WV d,l,j])
def kL (e:En) (a:EnA) (h n:Nat) (b:List Gra) (c:b.length=n):(enC e a).toArray.setIfInBounds 32 (.slice (Ah h 0) n n)=(enC { e with grants:=b } ⟨a.aA,a.aC,some ⟨h,0,none⟩,n⟩).toArray:=by subst c;simp [enC]
abbrev sG (n):=madeCells #[.string ⟨#[]⟩,.bool false,.int .i64 0] (n*3)
def Oc (n:Nat) (hn:n<=1000) (W:Wd):(Instr.makeSlice 142 (.int .i64 n) (.int .i64 n)).run prog W=.ok (.slice (Ah W.1.size 0) n n) (Aa W (sG n) 287):=by
 obtain ⟨b,e,f,d,c⟩:=WG rM;have a:=run_make (P:=prog) (w:=W) 142 287 b _ underlying142 e f .i64 .i64 (n:Int) (n:Int) Oo (XI _) (by rw [c];omega) Oo;rw [d] at a;simp only [XO] at a;exact a
def rS (W:Wd) (n:Nat):GraB (Aa W (sG n) 287) W.1.size n:=by
 refine ⟨_,Blk.new W _ _,by simp [madeCells],fun t a=>⟨⟨⟨#[]⟩,false,0⟩,Ac,Ac,Ac,?_,?_,?_⟩⟩
 .exact (Ma n t 0 a Ac).trans rfl
 .exact (Ma n t 1 a Ac).trans rfl
 .exact (Ma n t 2 a Ac).trans rfl
def u4 (k:Int) (b:Bz) (d:b.size<=1000) (v:Int) (g:0<=v/\v<=1099511627777) (s:Bz) (e:s.size<=1000) (a:List Gra) (c:a.length<=9) (f:∀ x∈a,x.who.size<=1000/\0<=x.level/\x.level<=9223372036854775807):
  Sm { enK k b with level:=v,owner:=s,grants:=a }:=
 ⟨d,by show (0:Nat)<=1000;omega,by show (0:Nat)<=1000;omega,e,by show (0:Nat)<=1000;omega,by show (0:Nat)<=5;omega,c,fun n h=>(by cases h),f,by
  simp only [enK,dZ,QH,QM,XP,WR,YR];refine ⟨?_,?_,?_,?_,?_,?_,?_,?_,?_,?_,?_,?_,?_,?_,?_,?_,?_,?_,?_,?_,?_,?_⟩<;>omega⟩
def DM (c r g:Nat) (k:Int) (v e:Bz) (w:Wd) (hc:Cr w c r) (hr:Rdr w r e 0) (hg:Blk w g 144 (enC (enK k v) enN).toArray) (hs:e.size<=1000000) (bU:v.size<=1000) (n1:r≠g) (n2:c≠r) (n3:c≠g):
  Calls prog 274 #[Ag c 0,Ag g 0] w (FrP (fun _=>True) c r g k v w):=by
 have a:Aw (DrI c r g w w (enC (enK k v) enN).toArray e 0):=Hd ⟨hc,hr,hg,Far.refl _ _,n1,n2,n3,hs⟩;clear hc hr hg;have z1:=Y7 e 0;have C:=Vz e 0;obtain ⟨p,d⟩:=yG (Ur e 0);rw [d] at z1 C;obtain ⟨H,l1,Y⟩:=p;have z2:=(Vf l1 Y 200).2;have M:=EA l1 Y;obtain ⟨p,f⟩:=yG (U8 l1 Y 200);rw [f] at z2 M;obtain ⟨Q,U,r2⟩:=p;have z3:=Y7 U r2;have J:=Vz U r2;obtain ⟨p,m⟩:=yG (Ur U r2);rw [m] at z3 J;obtain ⟨v2,l3,r3⟩:=p;simp only at z1 z2 z3 C J M;obtain ⟨n,fB⟩:∃ n:Nat,Z3 v2 8=n:=⟨(Z3 v2 8).toNat,by unfold Z3;split<;>omega⟩
 have hn9:n<=9:=by
  have:Z3 v2 8<=9:=by unfold Z3;split<;>omega
  omega
 have dE:Aw (Q.size<=1000/\(0<=H/\H<=1099511627777)):=Hd ⟨Oo,C⟩;have O:=Hd (And.intro z1 (And.intro z2 z3));have P:=Hd (And.intro d (And.intro f m));have wJ:=Hd fB;have T:=Hd bU;clear d f m z1 z2 z3 C J M fB hs bU;go_in;by_cases h0:n=0
 .subst h0
  go_wp2_with (first|(go_at_call 271;(with_reducible show Calls _ _ #[_,.pointer (some ⟨_,31,none⟩)] _ _);refine (ER c r g 31 144 _ 0 e 0 _ a.left a.cr a.rd a.bg rfl a.n1).mono ?_;rintro x o ⟨rfl,d,f,m⟩;rw [P.o.1] at d f;rw [pi] at f;have a:=Hd (a.step d f m O.1);clear d f m)|(go_at_call 260;(with_reducible show Calls _ _ #[_,.pointer (some ⟨_,28,none⟩)] _ _);refine (IE c r g 28 144 _ ⟨#[]⟩ l1 Y _ a.left a.cr a.rd a.bg rfl a.n1).mono ?_;rintro x o ⟨rfl,d,f,m⟩;rw [P.o.2.1] at d f;rw [zE] at f;have a:=Hd (a.step d f m O.2.1);have q:=a.bg.ce 32 (.slice none 0 0);clear d f m)|(go_at_call 335;refine yP (G2 c r 0 8 U r2 _ a.left a.cr a.rd Ac Ac) fun o d=>?_;rw [P.o.2.2] at d ⊢;simp only at d ⊢;rw [wJ.o];have a:=Hd (a.rr d O.2.2);have c1:=a.cr.c1;clear q;have q:=a.bg.ce 32 (.slice none 0 0);clear d))
  refine Lu 1 ?_;rw [Rs];go_wp2
  go_end0
  refine ⟨rfl,({ { enK k v with level:=H } with owner:=Q },l3,r3),enN,trivial,?_,rfl,rfl,a.rd,a.bg,⟨Sl.nil,Sl.nil,fun p B _=>(by cases B),fun p B _=>(by cases B)⟩,a.fa⟩;exact u4 k v T H dE.2 Q dE.1 [] Am (fun x h=>by cases h)
 .have hmk0:=Hd (Oc n Oo);have S:decide ((0:Int)<(n:Int))=true:=QQ Oo
  go_wp2_with (first|(go_at_call 271;(with_reducible show Calls _ _ #[_,.pointer (some ⟨_,31,none⟩)] _ _);refine (ER c r g 31 144 _ 0 e 0 _ a.left a.cr a.rd a.bg rfl a.n1).mono ?_;rintro x o ⟨rfl,d,f,m⟩;rw [P.o.1] at d f;rw [pi] at f;have a:=Hd (a.step d f m O.1);clear d f m)|(go_at_call 260;(with_reducible show Calls _ _ #[_,.pointer (some ⟨_,28,none⟩)] _ _);refine (IE c r g 28 144 _ ⟨#[]⟩ l1 Y _ a.left a.cr a.rd a.bg rfl a.n1).mono ?_;rintro x o ⟨rfl,d,f,m⟩;rw [P.o.2.1] at d f;rw [zE] at f;have a:=Hd (a.step d f m O.2.1);have q:=a.bg.ce 32 (.slice none 0 0);clear d f m)|(go_at_call 335;refine yP (G2 c r 0 8 U r2 _ a.left a.cr a.rd Ac Ac) fun o d=>?_;rw [P.o.2.2] at d ⊢;simp only at d ⊢;rw [wJ.o];have a:=Hd (a.rr d O.2.2);have c1:=a.cr.c1;clear q;have q:=a.bg.ce 32 (.slice none 0 0);clear d;have wI:=hmk0.o o;have A:=Hd (a.alloc (.cells (sG n) 287));have d32:=A.bg.ce 32 (.slice none 0 0);have f32:=A.bg.free 32;have aQ:=Hd (A.store 32 (.slice (Ah o.1.size 0) n n));have e32:=(aQ.bg.ce 32 (.slice (Ah o.1.size 0) n n))))
  have Z:o.1.size≠g:=by have:=a.lt.2.2;omega
  have dU:r≠o.1.size:=by have:=a.lt.2.1;omega
  have fN:o.1.size≠c:=by have:=a.lt.1;omega
  have W:w.1.size<=o.1.size:=a.fa.size;have L:Aw (GraB ((Aa o (sG n) 287).setCell ⟨g,32,none⟩ (.slice (Ah o.1.size 0) n n)) o.1.size n):=Hd (by obtain ⟨cs,d,f,m⟩:=rS o n;exact ⟨cs,d.far Z _,f,m⟩);have aZ:=aQ;clear c1 q d32 f32 e32 wI hmk0 aQ A a;obtain ⟨z,K⟩:=yG o.1.size;simp only [K] at Z dU fN W L aZ ⊢;simp only [show decide (0<n)=true from QQ Oo];clear S;have HHB:=Hd K;clear K;go_loopw [43] (fun i wr=>∃ (j:Nat) (l:Bz) (N:Int),j<=n/\i=.int .i64 j/\DrI c r g w wr ((enC { { enK k v with level:=H } with owner:=Q } enN).toArray.setIfInBounds 32 (.slice (Ah z 0) n n)) l N/\GraB wr z n) (fun i _=>n-(intOf i).toNat)
  .exact ⟨0,l3,r3,Z0 _,rfl,aZ,L⟩
  .obtain ⟨j,l,N,hj,rfl,hx,i7⟩:=hrel;have G:=Hd hx;clear hx aZ L;have q:wr.cell? ⟨g,32,none⟩=some (.slice (Ah z 0) n n):=(G.bg.cell 32).trans (by simp [enC]);by_cases aE:j<n
   .obtain ⟨cs,b1',b2',b3'⟩:=i7;obtain ⟨x,x1,x2,x3,k0,k1,k2⟩:=b3' j aE;have gX:=Hd (IE c r z (j*3) 287 cs x.who l N wr G.left G.cr G.rd b1' k0 dU);have fM:=Hd (And.intro (EA l N) (Vf l N 200).2);have HC3:=Hd b3';have HCZ:=Hd b2';have HK1:Aw (∀ s,(cs.setIfInBounds (j*3) (.string s))[j*3+1]? =some (.bool x.group)):=Hd fun s=>by rw [QD Oo];exact k1
    have cT:Aw (∀ s b,((cs.setIfInBounds (j*3) (.string s)).setIfInBounds (j*3+1) (.bool b))[j*3+2]? =some (.int .i64 x.level)):=Hd fun s b=>by rw [QD Oo,QD Oo];exact k2
    clear b1' b2' b3' x1 x2 x3 k0 k1 k2;go_wp2_with (first|(go_at_call 260;refine gX.mono ?_;rintro y w5 ⟨rfl,F,E,D⟩;have u:=Hd (G.stepH F D Z fN W fM.2);have HT2:=Hd (Jk c r z (j*3+1) 287 _ x.group _ _ w5 u.left u.cr u.rd E (HK1 _) dU);clear F E D)|(go_at_call 259;refine HT2.mono ?_;rintro y w6 ⟨rfl,F,E,D⟩;have u:=Hd (u.stepH F D Z fN W (Xn _ _));have HT3:=Hd (ER c r z (j*3+2) 287 _ x.level _ _ w6 u.left u.cr u.rd E (cT _ _) dU);clear F E D)|(go_at_call 271;refine HT3.mono ?_;rintro y w7 ⟨rfl,F,E,D⟩;have u:=Hd (u.stepH F D Z fN W (Y7 _ _));have HGB:Aw (GraB w7 z n):=Hd ⟨_,E,by simp [HCZ.o],fun t ht=>(((HC3 t ht).s0 _ (by have:=fM.1;omega)).s1 _).s2 _ (Vz _ _).1 (Int.le_trans (Vz _ _).2 Ac)⟩;clear F E D));go_roundw
    .exact ⟨j+1,_,_,Oo,Au,u,HGB⟩
    .exact At
   .obtain rfl:j=n:=Oo
    obtain ⟨X,R,bN,hgz⟩:=i7.sl;have I:=Hd R;have bW:=Hd bN;have HGZ:=Hd hgz;clear R bN hgz i7;go_wp2
    go_end0
    have V:=G.bg;rw [kL _ _ _ _ X I.o] at V;refine ⟨rfl,({ { { enK k v with level:=H } with owner:=Q } with grants:=X },l,N),⟨none,0,some ⟨z,0,none⟩,j⟩,trivial,?_,rfl,rfl,G.rd,V,⟨Sl.nil,?_,fun p B _=>(by cases B),fun p B _=>?_⟩,G.fa⟩
    .exact u4 k v T H dE.2 Q dE.1 X (by rw [I.o];exact hn9) HGZ
    .show Sl grC 3 wr wr.1.size (Ah z 0) X.length j X;rw [I.o];exact bW
    .injection B with B
     subst B;exact W
def EB.far {e:En} {a:EnA} {w W W':Wd} {b:Nat} (h:EB e a w W) (c:Far [b] W W') (g:w.1.size<b) (f:Sta w):EB e a w W':=
 have d:Below w.1.size w W':=h.be.trans (c.below As (by have:=h.sz;omega))
 ⟨h.e1.far' c As,d,Lx h.sz c.size,f.after d⟩
structure PRd (e:En) (a:EnA) (x:Gra) (h:Nat) (w W:Wd):Prop where
 eb:EB e a w W
 sm:SeenM W (w.1.size+1)
 b1:Blk W h 287 (grC x).toArray
 b2:Blk W (h+1) 362 #[.string x.who,.bool x.group]
def PRd.next {e:En} {a:EnA} {x:Gra} {h:Nat} {w W W':Wd} (k:PRd e a x h w W) (b:Below W.1.size W W'):PRd e a x h w W':=
 ⟨k.eb.next b,k.sm.below b,k.b1.below b k.b1.lt,k.b2.below b k.b2.lt⟩
def og {G:Prop} (h:G:=by
  refine Wn ?_;refine KY ?_;simp only [Exit.then];refine hK _ _ ?_;clear hK;go_wp2;go_ret;exact ⟨⟨_,rfl⟩,HP.o.eb.be⟩):G:=h
abbrev sH (wr:Wd) (x):=wr.alloc (.cells (grC x).toArray 287)
def G9 (e:En) (a:EnA) (w:Wd) (hw:EW [] w e a) (J:Sm e) (D:Sta w):
  Calls prog 275 #[.agg (enC e a).toArray] w (BoolG w):=by
 obtain ⟨A,C,c,b⟩:=a;have W:=Hd (EB.new e ⟨A,C,c,b⟩ w D);have B:=Hd hw.sg;have U:=Hd J;have hmm:=@run_makeMap prog;have H:=((W.o.alloc (.map #[] 0)).cell 32 (.slice c e.grants.length b) rfl)
 have HT:=Hd D;have hlg:=J.lg;have E:Aw (SeenM ((Aa w (enC e ⟨A,C,c,b⟩).toArray 144).alloc (.map #[] 0)) (w.1.size+1)):=Hd (by have h:=SeenM.new (Aa w (enC e ⟨A,C,c,b⟩).toArray 144);rwa [show (Aa w (enC e ⟨A,C,c,b⟩).toArray 144).1.size=w.1.size+1 from Am] at h);have R:=Hd (W.o.alloc (.map #[] 0));clear hw J D;go_wp2;clear H;go_loopw [11] (fun i wr=>∃ j:Nat,j<=e.grants.length/\i=.int .i64 j/\EB e ⟨A,C,c,b⟩ w wr/\SeenM wr (w.1.size+1)) (fun i _=>e.grants.length-(intOf i).toNat)
 .exact ⟨0,Z0 _,rfl,R.o,E.o⟩
 .obtain ⟨j,hj,rfl,hx,iO⟩:=hrel;have q:=Hd hx;have r:=Hd iO;clear hx iO R;by_cases Z:j<e.grants.length
  .obtain ⟨b2,o2,x,rfl,s,hg,aB⟩:=Sl.cell (f:=grC) (k:=3) (fun _=>rfl) (B.o.below q.o.be) Z;have N:Aw (wr.rangeAt b2 (o2+j*3) (grC x)):=Hd fun t u hu=>aB t u hu
   have P:=Hd (U.o.gr x (QJ hg));have y:=Hd fun d=>Blk.new wr 287 d
   have M:=Hd fun d=>U5 wr d (grC x).toArray 287
   have T:=Hd (show (grC x).toArray.all (·.oneCell')=true by simp [grC,Value.oneCell']);have g0:=(Blk.new wr 287 (grC x).toArray).ce 0 (.string x.who);have g1:=(Blk.new wr 287 (grC x).toArray).ce 1 (.bool x.group);have Q:=((y.o (grC x).toArray).alloc (.cells #[.string x.who,.bool x.group] 362)).cell 0 |>.trans (show _=some (Value.string x.who) from rfl)
   clear hg aB s;go_wp2_with (first|(with_reducible refine yM 287 13 N.o ?_)|(with_reducible refine yS 287 5 (y.o _) T.o ?_;rw [M.o])|((with_reducible show Calls _ _ _ _ _);refine Stop.go ?_));refine Stop.in' ?_;rename_i K hK X O;have HP:Aw (PRd e ⟨A,C,some ⟨b2,o2,none⟩,b⟩ x wr.1.size w (Aa (sH wr x) #[.string x.who,.bool x.group] 362)):=Hd ⟨(q.o.alloc _).alloc _,r.o.below (W':=(Aa (sH wr x) #[.string x.who,.bool x.group] 362)) (((Bf wr.1.size wr).alloc (Le _) (.cells (grC x).toArray 287)).alloc Am _),(Blk.new wr _ _).alloc _,U3 (sH wr x) _ _ (wr.1.size+1) Am⟩;obtain ⟨Y,p⟩:=yG (Aa (sH wr x) #[.string x.who,.bool x.group] 362);simp only [p] at HP ⊢;clear p g0 g1 Q y M T N q r
   refine yT (I6 x.who Y (by have:=P.o.1;unfold maxLen;omega) HP.o.eb.st.mx) HP.o.next fun l HP=>?_
   simp only [];refine O _ _ ?_;clear O;generalize EU x.who=F;cases F with
   |false=>
    iterate 2 refine Wn ?_
    iterate 5 refine Wk ?_
    iterate 2 refine Wn ?_
    iterate 3 refine Wk ?_
    exact og
   |true=>
    iterate 3 refine Wn ?_
    refine Wl (HP.o.b1.ce 2 (.int .i64 x.level)) ?_;refine Wa ?_;have o:Aw (Sl Xg 1 (Aa l #[.int .i64 x.level] 3) (Aa l #[.int .i64 x.level] 3).1.size (Ah l.1.size 0) 1 1 [x.level]):=Hd (Fo l [x.level] 3);have HP:=Hd (HP.o.next ((Bf _ _).alloc (Le _) (.cells #[.int .i64 x.level] 3)));refine Zv Ak 262 #[.int .i64 0,.int .i64 3,.slice (Ah l.1.size 0) 1 1] Ak ?_;refine yE (Vy 0 3 _ 1 1 [x.level] _ o.o Ac) ?_;simp only [];simp only [Act.put,Sv,Sz,Sw];obtain ⟨Y2,p⟩:∃ Y,Aa l #[.int .i64 x.level] 3=Y:=⟨_,rfl⟩
    simp only [p] at HP ⊢;clear p o;generalize wiB 0 3 [x.level]=L;cases L with
    |false=>
     iterate 3 refine Wn ?_
     iterate 3 refine Wk ?_
     exact og
    |true=>
     iterate 4 refine Wn ?_
     refine Up Ak 362 _ rfl (wr.1.size+1) rfl 362 #[.string x.who,.bool x.group] (0,0) _ HP.o.b2 underlying362 rfl Ak ?_;simp only [Act.put,Sv,Sz,Sw];rcases zQ HP.o.sm x.who x.group (by have:=P.o.1;unfold maxLen;omega) with hl|⟨hl,W',hup,hsm',cJ⟩
     .refine V0 Ak (.bool true) (GQ rfl rfl rfl hl) ?_;simp only [Act.put,Sv,Sz,Sw];exact og
     .refine V0 Ak (.bool false) (GQ rfl rfl rfl hl) ?_;simp only [Act.put,Sv,Sz,Sw];refine Wn ?_;refine KY ?_;simp only [Exit.then];refine hK _ _ ?_;clear hK;have Q:=HP.o.b2.ce 0 (.string x.who);have k1:=HP.o.b2.ce 1 (.bool x.group);unfold Kp at hup;have I:=Hd (HP.o.eb.far cJ Oo HT.o);have dL:=Hd hsm';clear hl hsm' cJ;go_wp2;go_roundw
      .exact ⟨j+1,Oo,Au,I.o,dL.o⟩
      .exact At
  .obtain rfl:j=e.grants.length:=Oo
   have c31:=q.o.cell 31 (.int .i64 e.level) rfl;have g:=Hd (q.o.alloc (.cells #[.int .i64 e.level] 3));have d28:=g.o.cell 28 (.string e.owner) rfl;have v:=g.o.cell 32 (.slice c e.grants.length b) rfl;have n:Aw (Calls prog 262 #[.int .i64 0,.int .i64 3,.slice (Ah wr.1.size 0) 1 1] (Aa wr #[.int .i64 e.level] 3) fun x w'=>x=.returned (.bool (wiB 0 3 [e.level]))/\(Aa wr #[.int .i64 e.level] 3)=w'):=Hd (Vy 0 3 _ 1 1 [e.level] _ (Fo wr [e.level] 3) Ac);have m:=Hd (I6 e.owner _ (by have:=U.o.eo;unfold maxLen;omega) g.o.st.mx);obtain ⟨z,hz⟩:=yG (e.owner.toList == []);have S:decide ((e.grants.length:Int)<=8)=true\/decide ((e.grants.length:Int)<=8)=false:=by cases decide ((e.grants.length:Int)<=8)<;>simp
   generalize wiB 0 3 [e.level]=F at n;generalize EU e.owner=L at m;cases F<;>cases z<;>cases L
   all_goals
    go_wp2_with (first|(go_at_call 262;refine yE n.o ?_)|(go_at_call 263;refine yP m.o fun V s=>?_;have g:=Hd (g.o.next s);have v:=g.o.cell 32 (.slice c e.grants.length b) rfl;clear s));go_ret;exact ⟨⟨_,rfl⟩,g.o.be⟩
def fvC (L:Int) (c b a:Nat):Array Value:=#[.int .u8 L,.func (.func c) #[] #[],.func (.func b) #[] #[],.func (.func a) #[] #[]]
def EFV (L:Int) (c b a:Nat):Value:=.agg (fvC L c b a)
def Hu (L:Int) (c b a:Nat):(fvC L c b a).all (·.oneCell')=true:=by simp [fvC,Value.oneCell']
def fm1:Array MapEntry:=#[⟨.int .i64 0,(EFV 68 253 254 255),0⟩]
def fm2:Array MapEntry:=fm1.push ⟨.int .i64 1,(EFV 71 256 257 261),1⟩
def fm3:Array MapEntry:=fm2.push ⟨.int .i64 2,(EFV 65 264 266 267),2⟩
def fm4:Array MapEntry:=fm3.push ⟨.int .i64 3,(EFV 67 268 270 272),3⟩
def fm5:Array MapEntry:=fm4.push ⟨.int .i64 4,(EFV 80 273 274 275),4⟩
def Jf (w:Wd) (b:Array MapEntry) (c:Nat) (a:Int) (val:Value) (e:Instr.findNow (.int .i64) (.int .i64 a) b.toList 0=some none):
  (Instr.mapUpdate 261 (.map (some w.1.size)) (.int .i64 a) val).run prog (w.alloc (.map b c))=.ok () (w.alloc (.map (b.push ⟨.int .i64 a,val,c⟩) (c+1))):=by
 have d:(w.alloc (.map b c)).1[w.1.size]? =some (.map b c):=YH w _;have g:(Instr.checkKey false 10000 3 (.int .i64 a)).run prog (w.alloc (.map b c))=.ok () (w.alloc (.map b c)):=YL (k:=.int .i64 a) underlying3 (by simp [MapKept.IsKey]) false 9999
 have f:({ w.alloc (.map b c) with heap:=(w.alloc (.map b c)).heap.setIfInBounds w.1.size (.map (b.push ⟨.int .i64 a,val,c⟩) (c+1)) }:Wd)=w.alloc (.map (b.push ⟨.int .i64 a,val,c⟩) (c+1)):=by
  unfold World.alloc;simp only [LQ]
 simp [Instr.mapUpdate,WN underlying261,WV d,g,XE underlying3 e,YS _ d,Result.andThen];exact f
def Zg (w:Wd):Calls prog 203 #[] w fun e w'=>e=.returned (.map (some w.1.size))/\w.alloc (.map fm5 5)=w':=by
 have a:=@run_makeMap prog;have b:(Instr.mapUpdate 261 (.map (some w.1.size)) (.int .i64 0) (.agg #[.int .u8 68,Ai 253,Ai 254,Ai 255])).run prog (w.alloc (.map #[] 0))=.ok () (w.alloc (.map fm1 1)):=Jf w #[] 0 0 _ rfl;have c:(Instr.mapUpdate 261 (.map (some w.1.size)) (.int .i64 1) (.agg #[.int .u8 71,Ai 256,Ai 257,Ai 261])).run prog (w.alloc (.map fm1 1))=.ok () (w.alloc (.map fm2 2)):=Jf w fm1 1 1 _ rfl;have g:(Instr.mapUpdate 261 (.map (some w.1.size)) (.int .i64 2) (.agg #[.int .u8 65,Ai 264,Ai 266,Ai 267])).run prog (w.alloc (.map fm2 2))=.ok () (w.alloc (.map fm3 3)):=Jf w fm2 2 2 _ rfl
 have d:(Instr.mapUpdate 261 (.map (some w.1.size)) (.int .i64 3) (.agg #[.int .u8 67,Ai 268,Ai 270,Ai 272])).run prog (w.alloc (.map fm3 3))=.ok () (w.alloc (.map fm4 4)):=Jf w fm3 3 3 _ rfl;have f:(Instr.mapUpdate 261 (.map (some w.1.size)) (.int .i64 4) (.agg #[.int .u8 80,Ai 273,Ai 274,Ai 275])).run prog (w.alloc (.map fm4 4))=.ok () (w.alloc (.map fm5 5)):=Jf w fm4 4 4 _ rfl;go_wp2;go_ret;exact ⟨rfl,rfl⟩
def fmV (k:Int):Value:=if k=0 then (EFV 68 253 254 255) else if k=1 then (EFV 71 256 257 261) else if k=2 then (EFV 65 264 266 267) else if k=3 then (EFV 67 268 270 272) else (EFV 80 273 274 275)
def qd (k:Int) (a:0<=k) (b:k<=4):∃ i,Instr.findNow (.int .i64) (.int .i64 k) fm5.toList 0=some (some (i,fmV k)):=by
 have:k=0\/k=1\/k=2\/k=3\/k=4:=Oo
 rcases this with rfl|rfl|rfl|rfl|rfl
 .exact ⟨0,rfl⟩
 .exact ⟨1,rfl⟩
 .exact ⟨2,rfl⟩
 .exact ⟨3,rfl⟩
 .exact ⟨4,rfl⟩
def vR (w:Wd) (b:Nat) (k:Int) (f:w.1[b]? =some (.map fm5 5)) (e:0<=k) (d:k<=4) (a:Bool):
  (Instr.lookup 261 (.map (some b)) (.int .i64 k) a).run prog w=.ok (if a then .tuple #[fmV k,.bool true] else fmV k) w:=by
 obtain ⟨i,c⟩:=qd k e d;have g:(Instr.checkKey fm5.isEmpty 10000 3 (.int .i64 k)).run prog w=.ok () w:=YL (k:=.int .i64 k) underlying3 (by simp [MapKept.IsKey]) _ 9999;simp [Instr.lookup,WN underlying261,WV f,g,XE underlying3 c]
structure FormC (nf ff vf:Nat):Prop where
 n:∀ args W,(callFunc nf args).run prog W=.ok (.enter nf args) W
 f:∀ args W,(callFunc ff args).run prog W=.ok (.enter ff args) W
 v:∀ args W,(callFunc vf args).run prog W=.ok (.enter vf args) W
def nL:FormC 253 254 255:=⟨fun args W=>Ak,fun args W=>Ak,fun args W=>Ak⟩
def nK:FormC 256 257 261:=⟨fun args W=>Ak,fun args W=>Ak,fun args W=>Ak⟩
def nJ:FormC 264 266 267:=⟨fun args W=>Ak,fun args W=>Ak,fun args W=>Ak⟩
def nI:FormC 268 270 272:=⟨fun args W=>Ak,fun args W=>Ak,fun args W=>Ak⟩
def nH:FormC 273 274 275:=⟨fun args W=>Ak,fun args W=>Ak,fun args W=>Ak⟩
def BoolG.bo {w w':Wd} {e:Ending} {P:Bool->Prop} (h:BoolG w e w') (a:∀ b,P b):BoP P w e w':=by
 obtain ⟨⟨b,rfl⟩,c⟩:=h;exact ⟨⟨b,a b,rfl⟩,c⟩
def M6 {k:Int} (c:k≠0) (a:k≠1) (s:Bz) (b:Bool):nmP k s b:=⟨fun h=>absurd h c,fun h=>absurd h a⟩
def L8 {k:Int} (c:k≠0) (a:k≠1) (e:En) (b:Bool):vaP k e b:=⟨fun h=>absurd h c,fun h=>absurd h a⟩
def zn {k:Int} (b:k≠0) (a:k≠1) (e:En) (s:Bz):wrP k e s:=⟨fun h=>absurd h b,fun h=>absurd h a⟩
def yq {k:Int} (d:k≠0) (c:k≠1) (b a:Bz) (R:En×Bz×Int):rdP k b a R:=⟨fun h=>absurd h d,fun h=>absurd h c⟩
def Vd {l:List Int} {i:Nat} (h:∀ n∈l,0<=n/\n<=1099511627777):0<=l.getD i 0/\l.getD i 0<=9223372036854775807:=by
 rw [WJ];cases a:l[i]? with
 |none=>simp
 |some x=>have:=h x (QJ a);simp;omega
def uj (k:Int) (j d:Bz) (s:j.size<=1000):Sm (Et k j d).1:=by
 have a:=Zn 14 d 0;unfold Et;dsimp only;generalize Uj 14 d 0=p at a ⊢;generalize Uy p.2.1 p.2.2=t;have i:=Vz t.2.1 t.2.2;generalize Ur t.2.1 t.2.2=c at i ⊢;have r:=EA c.2.1 c.2.2;generalize U8 c.2.1 c.2.2 200=v at r ⊢;have m:=EA v.2.1 v.2.2;generalize U8 v.2.1 v.2.2 200=o at m ⊢;have g:=Zn 2 o.2.1 o.2.2;generalize Uj 2 o.2.1 o.2.2=q at g ⊢;generalize Uy q.2.1 q.2.2=b;have y:=Vz b.2.1 b.2.2;generalize Ur b.2.1 b.2.2=n at y ⊢;have z:(Z3 n.1 4).toNat<=5:=by unfold Z3;split<;>omega
 have w:=X0 (Z3 n.1 4).toNat n.2.1 n.2.2;have l:=Zn (Z3 n.1 4).toNat n.2.1 n.2.2;generalize Uj (Z3 n.1 4).toNat n.2.1 n.2.2=f at w l ⊢;have e:=Vz f.2.1 f.2.2;generalize Ur f.2.1 f.2.2=u at e ⊢
 exact ⟨s,by show v.1.size<=1000;omega,by show o.1.size<=1000;omega,by show (0:Nat)<=1000;omega,by show (0:Nat)<=1000;omega,by show f.1.length<=5;omega,by show (0:Nat)<=9;omega,fun x h=>by have:=l x h;omega,fun x h=>(by cases h),by
  simp only [QH,QM,XP,WR,YR];exact ⟨Vd a,Vd a,Vd a,Vd a,Vd a,Vd a,Vd a,Vd a,Vd a,Vd a,Vd a,Vd a,Vd a,Vd a,⟨i.1,Oo⟩,Vd g,Vd g,⟨e.1,Oo⟩,Oo,Oo,Oo,Oo⟩⟩
def rP (k:Int) (e a:Bz) (f:e.size<=1000):Sm (F4 k e a).1:=by
 have c:=Zn 2 a 0;unfold F4;dsimp only;generalize Uj 2 a 0=q at c ⊢;generalize Uy q.2.1 q.2.2=b;have g:=EA b.2.1 b.2.2;generalize U8 b.2.1 b.2.2 200=o at g ⊢
 exact ⟨f,by show (0:Nat)<=1000;omega,by show (0:Nat)<=1000;omega,by show o.1.size<=1000;omega,by show (0:Nat)<=1000;omega,by show (0:Nat)<=5;omega,by show (0:Nat)<=9;omega,fun x d=>(by cases d),fun x d=>(by cases d),by
  simp only [dZ,QH,QM,XP,WR,YR];refine ⟨?_,?_,?_,?_,?_,?_,?_,?_,?_,?_,?_,?_,?_,?_,?_,?_,?_,?_,Vd c,Vd c,?_,?_⟩<;>omega⟩
def AO (e:En) (a:Sm e):(Kn ⟨#[]⟩ e).size<=100000:=by
 unfold Kn;have f:=a.vo;have c:=a.ow;have h:=a.la;have d:=Ut e.d.vol;have j:=Ut e.d.own;have i:=V6 e.d.cls;have b:=V6 e.alts.length;have g:(⟨#[]⟩:Bz).size=0:=rfl;refine Lx (Xe _ _) ?_;refine Lx (XQ (Xe _ _) _) ?_;simp only [QY,Vr];refine Lx (XQ (XQ (XQ (XQ (Xe _ _) _) _) _) _) ?_;simp only [QY,Vr];refine Lx (XQ (XQ (XQ (XQ (XQ (XQ (XQ (XQ (XQ (Xe _ _) _) _) _) _) _) _) _) _) _) ?_;simp only [QS,XS];omega
def On (e:En) (a:Sm e):(Pw ⟨#[]⟩ e).size<=100000:=by
 unfold Pw;have d:=a.eo;have c:=Ut e.owner;have b:=Xe [e.limit,e.last] ⟨#[]⟩;have f:(⟨#[]⟩:Bz).size=0:=rfl;simp only [QY,Vr,QS,XS] at b ⊢;omega
section
variable {k L:Int} {nf ff vf g n:Nat} {w:Wd} {e:En} {a:EnA}
def uy (m:FormOk k nf vf ff) (d:FormC nf ff vf) (e:En) (a:EnA) (w:Wd) (hw:EW [] w e a) (p:Sm e):
  Calls prog 282 #[EFV L nf ff vf,.agg (enC e a).toArray] w fun x w'=>(∃ s:Bz,wrP k e s/\s.size<=100000/\x=.returned (.string s))/\Below w.1.size w w':=by
 have b:Below w.1.size w (((Aa w (fvC L nf ff vf) 266).alloc (.cells (enC e a).toArray 144)).alloc (.cells #[.string ⟨#[]⟩,.pointer none] 270)):=(Aj.alloc Am _).alloc As _;have r:(((Aa w (fvC L nf ff vf) 266).alloc (.cells (enC e a).toArray 144)).alloc (.cells #[.string ⟨#[]⟩,.pointer none] 270)).cell? ⟨w.1.size,2,none⟩=some (.func (.func ff) #[] #[]):=((((Blk.new w _ _).alloc _).alloc _).cell 2).trans rfl
 have h:=m.fw (w.1.size+2) (w.1.size+1) e a (((Aa w (fvC L nf ff vf) 266).alloc (.cells (enC e a).toArray 144)).alloc (.cells #[.string ⟨#[]⟩,.pointer none] 270)) (U3 ((Aa w (fvC L nf ff vf) 266).alloc (.cells (enC e a).toArray 144)) _ _ (w.1.size+2) Am) ((U3 (Aa w (fvC L nf ff vf) 266) _ _ (w.1.size+1) Am).alloc _) (hw.fresh b (by intro k i;simp at i;omega)) p Oo;have q:=d.f;unfold EFV;go_in;go_wp2_with ((with_reducible show Calls _ _ _ _ _);apply h.mono;rintro x t ⟨rfl,s,l,f,o,j⟩;have c:=And.intro l f;have u:=o.c0);go_ret;exact ⟨⟨s,c.1,c.2,rfl⟩,b.trans (j.below Am (b.size))⟩
def Uh {W:Wd} {b:Nat} {t:TypeId} {cs c2:Array Value} (h:Blk W b t cs) (hn:b≠g):Blk (W.setRow g c2) b t cs:=(QE W g b c2 hn).trans h
def EWn.ew0 (h:EWn n w e a):EW [] w e a:=h.ew Am
def Cn (W:Wd) (g:Nat) (cs:Array Value):Far [g] W (W.setRow g cs):=⟨rfl,rfl,rfl,Am,fun i _ b=>QE W g i cs (by simpa using b)⟩
def EWn.row (h:EWn n w e a) (b:g<n) (cs:Array Value):EW [] (w.setRow g cs) e a:=
 ((h.ew (S:=[g]) (by simpa using b)).far (Cn w g cs) (fun _ h=>h)).less Am
def Ux (W:Wd) (b:Nat) (cs:Array Value) (h:Blk W b 144 cs) (c:cs.size=33):(loadVar 144 ⟨b,0,none⟩).run prog W=.ok (.agg cs) W:=
 ZQ W b 144 144 cs (0,0) _ h underlying144 rfl (by rw [c];kernel_rfl)
def rdN (b:Wd) (s:Bz):Rdr ((Aa b #[.string s,.int .i64 0] 258).alloc (.cells #[.string ⟨#[]⟩,Ag b.1.size 0] 270)) b.1.size s 0:=(Blk.new b _ _).alloc _
def crN (b:Wd) (s:Bz):Cr ((Aa b #[.string s,.int .i64 0] 258).alloc (.cells #[.string ⟨#[]⟩,Ag b.1.size 0] 270)) (b.1.size+1) b.1.size:=U3 (b.alloc _) _ _ (b.1.size+1) Am
structure BA (w w2 W:Wd) (R:En×Bz×Int) (a':EnA):Prop where
 rd:Rdr W w2.1.size R.2.1 R.2.2
 cr:Cr W (w2.1.size+1) w2.1.size
 bg:Blk W (w.1.size+3) 144 (enC R.1 a').toArray
 ew:EWn w2.1.size W R.1 a'
 ol:∃ old:Array Value,old.size=33/\Blk W (w.1.size+2) 144 old
 be:Below w.1.size w W
 sz:w.1.size+4<=w2.1.size
def jy (k:Int) (e:En) (w:Wd) (x:Ending) (w':Wd):Prop:=
 (∃ (s:Bz) (R:En×Bz×Int) (b:EnA),wrP k e s/\rdP k e.name s R/\Sm R.1/\R.1.kind=k/\R.1.name=e.name/\x=.returned (.tuple #[.agg (enC R.1 b).toArray,.bool (decide (Yj R.2.1 R.2.2=0))])/\EW [] w' R.1 b)/\Below w.1.size w w'
def mt (O:FormOk k nf vf ff) (G:FormC nf ff vf) (e:En) (a:EnA) (w:Wd) (hw:EW [] w e a) (U:Sm e) (B:e.kind=k):
  Calls prog 355 #[EFV L nf ff vf,.agg (enC e a).toArray] w (jy k e w):=by
 subst B;have c0:=(U3 (Aa w (fvC L nf ff vf) 266) 144 (enC e a).toArray (w.1.size+1) Am).ce 0 (.int .i64 e.kind);have c1:=(U3 (Aa w (fvC L nf ff vf) 266) 144 (enC e a).toArray (w.1.size+1) Am).ce 1 (.string e.name);have D:∀ b,Below w.1.size w ((((Aa w (fvC L nf ff vf) 266).alloc (.cells (enC e a).toArray 144)).alloc (.cells b 144)).alloc (.cells (enC (enK e.kind e.name) enN).toArray 144)):=fun b=>((Aj.alloc Am _).alloc As _).alloc As _
 have C:∀ b,Blk ((((Aa w (fvC L nf ff vf) 266).alloc (.cells (enC e a).toArray 144)).alloc (.cells b 144)).alloc (.cells (enC (enK e.kind e.name) enN).toArray 144)) w.1.size 266 (fvC L nf ff vf):=fun b=>(((Blk.new w _ _).alloc _).alloc _).alloc _
 have Y:∀ b,Blk ((((Aa w (fvC L nf ff vf) 266).alloc (.cells (enC e a).toArray 144)).alloc (.cells b 144)).alloc (.cells (enC (enK e.kind e.name) enN).toArray 144)) (w.1.size+1) 144 (enC e a).toArray:=fun b=>((U3 (Aa w (fvC L nf ff vf) 266) _ _ (w.1.size+1) Am).alloc _).alloc _
 have M:∀ b,Blk ((((Aa w (fvC L nf ff vf) 266).alloc (.cells (enC e a).toArray 144)).alloc (.cells b 144)).alloc (.cells (enC (enK e.kind e.name) enN).toArray 144)) (w.1.size+2) 144 b:=fun b=>(U3 ((Aa w (fvC L nf ff vf) 266).alloc (.cells (enC e a).toArray 144)) _ _ (w.1.size+2) Am).alloc _
 have N:∀ b,Blk ((((Aa w (fvC L nf ff vf) 266).alloc (.cells (enC e a).toArray 144)).alloc (.cells b 144)).alloc (.cells (enC (enK e.kind e.name) enN).toArray 144)) (w.1.size+3) 144 (enC (enK e.kind e.name) enN).toArray:=fun b=>U3 (((Aa w (fvC L nf ff vf) 266).alloc (.cells (enC e a).toArray 144)).alloc (.cells b 144)) _ _ (w.1.size+3) Am
 have W:∀ b m,Blk ((((Aa w (fvC L nf ff vf) 266).alloc (.cells (enC e a).toArray 144)).alloc (.cells b 144)).alloc (.cells m 144)) (w.1.size+3) 144 m:=fun b m=>U3 (((Aa w (fvC L nf ff vf) 266).alloc (.cells (enC e a).toArray 144)).alloc (.cells b 144)) _ _ (w.1.size+3) Am
 have Z:∀ b m,((((Aa w (fvC L nf ff vf) 266).alloc (.cells (enC e a).toArray 144)).alloc (.cells b 144)).alloc (.cells m 144)).setRow (w.1.size+3) (enC (enK e.kind e.name) enN).toArray=((((Aa w (fvC L nf ff vf) 266).alloc (.cells (enC e a).toArray 144)).alloc (.cells b 144)).alloc (.cells (enC (enK e.kind e.name) enN).toArray 144)):=fun b m=>by
  have h:=U5 (((Aa w (fvC L nf ff vf) 266).alloc (.cells (enC e a).toArray 144)).alloc (.cells b 144)) m (enC (enK e.kind e.name) enN).toArray 144
  rwa [show (((Aa w (fvC L nf ff vf) 266).alloc (.cells (enC e a).toArray 144)).alloc (.cells b 144)).1.size=w.1.size+3 from Am] at h
 have iY:=Um (enK e.kind e.name) enN;have l:∀ b,Calls prog 282 #[EFV L nf ff vf,.agg (enC e a).toArray] ((((Aa w (fvC L nf ff vf) 266).alloc (.cells (enC e a).toArray 144)).alloc (.cells b 144)).alloc (.cells (enC (enK e.kind e.name) enN).toArray 144)) fun x w'=>(∃ s:Bz,wrP e.kind e s/\s.size<=100000/\x=.returned (.string s))/\Below (((((Aa w (fvC L nf ff vf) 266).alloc (.cells (enC e a).toArray 144)).alloc (.cells b 144)).alloc (.cells (enC (enK e.kind e.name) enN).toArray 144))).1.size ((((Aa w (fvC L nf ff vf) 266).alloc (.cells (enC e a).toArray 144)).alloc (.cells b 144)).alloc (.cells (enC (enK e.kind e.name) enN).toArray 144)) w':=fun b=>uy O G e a _ (hw.fresh (D b) Am) U
 have J:=O.fr;have P:=U.nm;have V:=G.f;unfold EFV at l ⊢;clear O G hw U;go_in
 go_wp2_with (first|((with_reducible refine Gb 144 ?_);refine U1 Ak 144 _ rfl (enC (enK e.kind e.name) enN).toArray Ak ?_)|(with_reducible refine yS 144 6 (W _ _) iY ?_;rw [Z])|(with_reducible refine yL 266 2 (C _) ?_)|(with_reducible refine yL 144 3 (Y _) ?_)|(go_at_call 282;refine (l _).mono ?_;rintro x d ⟨⟨s,r,hz,rfl⟩,o⟩;have HP:=And.intro r hz;have Q:=(C _).below o (C _).lt;have wA:=(N _).below o (N _).lt;have T:=(M _).below o (M _).lt;have E:=Hd (U0 (D _) o (D _).size);have q:Aw (w.1.size+4<=d.1.size):=Hd (by have:=o.size;simpa using this);clear r hz o c0 c1 C Y M N W Z D l)|(go_at_call 160;refine (EP s _).mono ?_;rintro x w3 ⟨rfl,rfl⟩;have f2:=((Q.alloc (.cells #[.string s,.int .i64 0] 258)).alloc (.cells #[.string ⟨#[]⟩,Ag d.1.size 0] 270)).ce 2 (.func (.func ff) #[] #[]);have wZ:=Hd (J (d.1.size+1) d.1.size (w.1.size+3) e.name s _ (crN d s) (rdN d s) ((wA.alloc (.cells #[.string s,.int .i64 0] 258)).alloc (.cells #[.string ⟨#[]⟩,Ag d.1.size 0] 270)) (by have:=HP.2;omega) P (by have:=q.o;omega) Oo (by have:=q.o;omega)))|((with_reducible show Calls _ _ #[Ag (d.1.size+1) 0,_] _ _);refine wZ.o.mono ?_;rintro x I ⟨rfl,R,j,hR,iO,B,bU,fO,z,u,A⟩;have F:=Hd (And.intro hR (And.intro iO (And.intro B bU)));have i:Aw (BA w d I R j):=Hd ⟨fO,Blk.far' (crN d s) A (by have:=q.o;simp;omega),z,⟨u.sa,u.sg,fun p r H=>by have:=u.na p r H;simp at this;omega,fun p r H=>by have:=u.ng p r H;simp at this;omega⟩,⟨_,Af,((T.alloc (.cells #[.string s,.int .i64 0] 258)).alloc (.cells #[.string ⟨#[]⟩,Ag d.1.size 0] 270)).far' A (by have:=q.o;simp;omega)⟩,((E.o.alloc E.o.size _).alloc (by have:=E.o.size;simp;omega) _).trans (A.below (by have:=q.o;simp;omega) (by have:=E.o.size;simp;omega)),q.o⟩;clear hR iO B bU fO z u A f2 V wZ))
 have c:Aw (BA w d I.drew R j):=Hd ⟨i.o.rd,i.o.cr,i.o.bg,⟨i.o.ew.sa,i.o.ew.sg,i.o.ew.na,i.o.ew.ng⟩,i.o.ol,i.o.be.drew,i.o.sz⟩;refine Rw (S:=fun w'=>Cr w' (d.1.size+1) d.1.size/\Blk w' (w.1.size+3) 144 (enC R.1 j).toArray) Ak ⟨c.o.cr,c.o.bg⟩ (fun f=>?_);apply tR 0 (fun _ h=>h.2) f
 iterate 3 apply tB f
 refine tj 4 (Ag d.1.size 0) f ?_ (y:=by intro w' aO;have h1:=aO.1.c1;go_simp);apply Aq [5];refine Rc (fun K t=>?_) ?_
 .go_simp;apply (Gs _ _ _ _ c.o.rd).mono;rintro e w8 ⟨rfl,rfl⟩;simp only [];refine t.out _ _ f (fun f=>?_);clear t K;try simp only [Act.put,Sv,Sz,Sw]
  apply tA 6 f;obtain ⟨b,dW,X⟩:=c.o.ol;apply Aq [7];refine Rc (fun K t=>?_) ?_
  .apply KH 144 _ _ rfl (w.1.size+2) (enC R.1 j).toArray rfl rfl 144 b X Ak dW (Um _ _);refine t.out _ _ ⟨Uh f.1 (by have:=c.o.sz;omega),Uh f.2 Oo⟩ (fun f=>?_);clear t K;try simp only [Act.put]
   apply tA 8 f;clear f;refine Ad Ak ?_ _;go_wp2;have fD:=Ux (I.drew.setRow (w.1.size+2) (enC R.1 j).toArray) (w.1.size+2) (enC R.1 j).toArray (QR _ _ _ _ _ _ X) (by simp [enC]);exact Br (v:=.tuple #[.agg (enC R.1 j).toArray,.bool (Yj R.2.1 R.2.2 == 0)]) (U2 results355 rfl rfl fD) rfl ⟨⟨s,R,j,HP.1,F.o.1,F.o.2.1,F.o.2.2.1,F.o.2.2.2,rfl,c.o.ew.row (by have:=c.o.sz;omega) _⟩,Uf c.o.be Oo _⟩
  exact An
 exact An
end
end Go.Proofs.YtdleakjejodjjaaGreatDoor
