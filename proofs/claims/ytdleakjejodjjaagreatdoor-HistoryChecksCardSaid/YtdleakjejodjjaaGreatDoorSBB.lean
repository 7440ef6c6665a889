/- Of the history laws. -/
import Derived.Test.YtdleakjejodjjaaGreatDoorSAY
namespace Go.Proofs.YtdleakjejodjjaaGreatDoor
open Tryz
set_option linter.defProp false
set_option linter.unusedVariables false
set_option linter.unusedSimpArgs false
set_option maxRecDepth 100000
set_option maxHeartbeats 20000000
open Go.RowKit
def qS (c g:Nat) (e:En) (a:EnA) (w:Wd) (f:Cw w c ⟨#[]⟩) (d:Blk w g 144 (enC e a).toArray) (b:Sm e):
  Calls prog 266 #[Ag c 0,Ag g 0] w (FwP (fun _=>True) c w):=by
 have k:=Hd (Kb c g 29 ⟨#[]⟩ e.target w f ((d.cell 29).trans rfl) Ac (by have:=b.ta;omega));have j:Aw (((⟨#[]⟩:Bz)++Vh e.target).size<=100000):=Hd (by have l:(⟨#[]⟩:Bz).size=0:=rfl;have:=b.ta;have:=Ut e.target;rw [QY];omega);clear f d b;go_in;go_wp2_with (go_at_call 260;refine yN2 k.o fun m i h=>?_)
 go_end0
 exact ⟨rfl,_,trivial,j.o,i.o,h.o⟩
def qT (c r g:Nat) (k:Int) (e a:Bz) (w:Wd) (t:Cr w c r) (o:Rdr w r a 0) (m:Blk w g 144 (enC (enK k e) enN).toArray) (y:a.size<=1000000) (q:e.size<=1000) (z:r≠g):
  Calls prog 266 #[Ag c 0,Ag g 0] w (FrP (fun _=>True) c r g k e w):=by
 have d:=IE c r g 29 144 _ ⟨#[]⟩ a 0 w (by unfold maxLen;omega) t o m rfl z;have f:=EA a 0;obtain ⟨p,b⟩:=yG (U8 a 0 200);rw [b] at d f;rw [kN] at d;have v:=Hd d;have h:=Hd q;have u:=Hd f;clear d t o m y q f b;go_in;go_wp2_with (go_at_call 260;refine v.o.mono ?_;rintro x A ⟨rfl,n,l,s⟩;have i:=Hd (And.intro n (And.intro l s));clear n l s)
 go_end0
 exact ⟨rfl,({ enK k e with target:=p.1 },p.2.1,p.2.2),enN,trivial,⟨h.o,by show (0:Nat)<=1000;omega,by show (0:Nat)<=1000;omega,by show (0:Nat)<=1000;omega,by show p.1.size<=1000;have:=u.o;omega,by show (0:Nat)<=5;omega,by show (0:Nat)<=9;omega,fun x j=>(by cases j),fun x j=>(by cases j),by
  simp only [enK,dZ,QH,QM,XP,WR,YR];refine ⟨?_,?_,?_,?_,?_,?_,?_,?_,?_,?_,?_,?_,?_,?_,?_,?_,?_,?_,?_,?_,?_,?_⟩<;>omega⟩,rfl,rfl,i.o.1,i.o.2.1,⟨Sl.nil,Sl.nil,fun p b _=>(by cases b),fun p b _=>(by cases b)⟩,i.o.2.2⟩
def jl (c g:Nat) (e:En) (a:EnA) (w:Wd) (f:Cw w c ⟨#[]⟩) (d:Blk w g 144 (enC e a).toArray) (b:Sm e):
  Calls prog 270 #[Ag c 0,Ag g 0] w (FwP (fun _=>True) c w):=by
 have hn:0<=e.catalog/\e.catalog<=9223372036854775807:=b.nu _ Am;have k:=Hd (Jl c g 30 ⟨#[]⟩ e.catalog w f ((d.cell 30).trans rfl) Ac hn.1 hn.2);have j:Aw (((⟨#[]⟩:Bz)++Vu e.catalog).size<=100000):=Hd (by have l:(⟨#[]⟩:Bz).size=0:=rfl;have:=V6 e.catalog;rw [QY];omega);clear hn;clear f d b;go_in;go_wp2_with (go_at_call 271;refine yN2 k.o fun m i h=>?_)
 go_end0
 exact ⟨rfl,_,trivial,j.o,i.o,h.o⟩
def jm (c r g:Nat) (k:Int) (f a:Bz) (w:Wd) (t:Cr w c r) (o:Rdr w r a 0) (m:Blk w g 144 (enC (enK k f) enN).toArray) (y:a.size<=1000000) (q:f.size<=1000) (z:r≠g):
  Calls prog 270 #[Ag c 0,Ag g 0] w (FrP (fun _=>True) c r g k f w):=by
 have e:=ER c r g 30 144 _ 0 a 0 w (by unfold maxLen;omega) t o m rfl z;have d:=Vz a 0;obtain ⟨p,b⟩:=yG (Ur a 0);rw [b] at e d;rw [kM] at e;have v:=Hd e;have h:=Hd q;have u:=Hd d;clear e t o m y q d b;go_in;go_wp2_with (go_at_call 271;refine v.o.mono ?_;rintro x A ⟨rfl,n,l,s⟩;have i:=Hd (And.intro n (And.intro l s));clear n l s)
 go_end0
 exact ⟨rfl,({ enK k f with catalog:=p.1 },p.2.1,p.2.2),enN,trivial,⟨h.o,by show (0:Nat)<=1000;omega,by show (0:Nat)<=1000;omega,by show (0:Nat)<=1000;omega,by show (0:Nat)<=1000;omega,by show (0:Nat)<=5;omega,by show (0:Nat)<=9;omega,fun x j=>(by cases j),fun x j=>(by cases j),by
  have d:=u.o;simp only [enK,dZ,QH,QM,XP,WR,YR];refine ⟨?_,?_,?_,?_,?_,?_,?_,?_,?_,?_,?_,?_,?_,?_,?_,?_,?_,?_,?_,?_,?_,?_⟩<;>omega⟩,rfl,rfl,i.o.1,i.o.2.1,⟨Sl.nil,Sl.nil,fun p b _=>(by cases b),fun p b _=>(by cases b)⟩,i.o.2.2⟩
def FwP.loose {k:Int} (f:k≠0) (d:k≠1) {e:En} {c:Nat} {w w':Wd} {x:Ending} (h:FwP (fun _=>True) c w x w'):FwP (wrP k e) c w x w':=by
 obtain ⟨rfl,s,_,a,g,b⟩:=h;exact ⟨rfl,s,zn f d e s,a,g,b⟩
def FrP.loose {e:Int} (j:e≠0) (m:e≠1) {c r g:Nat} {k:Int} {f d b:Bz} {w w':Wd} {x:Ending} (h:FrP (fun _=>True) c r g k f w x w'):FrP (rdP e d b) c r g k f w x w':=by
 obtain ⟨rfl,R,a,_,i,o,l,n⟩:=h;exact ⟨rfl,R,a,yq j m d b R,i,o,l,n⟩
def BoP.exact {P:Bool->Prop} {b:Bool} {w w':Wd} {x:Ending} (a:P b) (h:x=.returned (.bool b)/\Below w.1.size w w'):BoP P w x w':=⟨⟨b,a,h.1⟩,h.2⟩
def SF (k:Int) (b a:Bz):(Et k b a).1.kind=k/\(Et k b a).1.name=b:=⟨rfl,rfl⟩
def Cc (k:Int) (b a:Bz):(F4 k b a).1.kind=k/\(F4 k b a).1.name=b:=⟨rfl,rfl⟩
def qc:FormOk 0 253 255 254 where
 nm s W hs ht:=(Yo s W (by unfold maxLen;omega) ht.mx).mono fun _ _ h=>BoP.exact ⟨fun _=>rfl,fun h=>absurd h Ac⟩ h
 va e a W hw hs ht:=(ML e a W hw hs ht).mono fun _ _ h=>BoP.exact ⟨fun _=>rfl,fun h=>absurd h Ac⟩ h
 fw c g e a W hc hg hw hs jW:=(mg c g e a ⟨#[]⟩ W hc hg hw hs Ac jW).mono fun _ _ ⟨d,b,f⟩=>⟨d,_,⟨fun _=>rfl,fun h=>absurd h Ac⟩,AO e hs,b,f⟩
 fr c r g nm left W hc hr hg hs bU n1 n2 n3:=(mh c r g 0 nm left W hc hr hg hs n1 n2 n3).mono fun _ _ ⟨d,a,b,f,i,j⟩=>⟨d,_,a,⟨fun _=>rfl,fun h=>absurd h Ac⟩,uj 0 nm left bU,(SF 0 nm left).1,(SF 0 nm left).2,b,f,i,j⟩
def qb:FormOk 1 256 261 257 where
 nm s W hs ht:=(GO s W (by unfold maxLen;omega) ht.mx).mono fun _ _ h=>BoP.exact ⟨fun h=>absurd h Ac,fun _=>rfl⟩ h
 va e a W _ hs ht:=(Wu e a W hs ht).mono fun _ _ h=>BoP.exact ⟨fun h=>absurd h Ac,fun _=>rfl⟩ h
 fw c g e a W hc hg hw hs jW:=(rQ c g e a ⟨#[]⟩ W hc hg hw hs Ac jW).mono fun _ _ ⟨d,b,f⟩=>⟨d,_,⟨fun h=>absurd h Ac,fun _=>rfl⟩,On e hs,b,f⟩
 fr c r g nm left W hc hr hg hs bU n1 n2 n3:=(rR c r g 1 nm left W hc hr hg hs n1 n2 n3).mono fun _ _ ⟨d,a,b,f,i,j⟩=>⟨d,_,a,⟨fun h=>absurd h Ac,fun _=>rfl⟩,rP 1 nm left bU,(Cc 1 nm left).1,(Cc 1 nm left).2,b,f,i,j⟩
def qa:FormOk 2 264 267 266 where
 nm s W hs ht:=(Bg s W hs ht).mono fun _ _ h=>h.bo (M6 Ac Ac s)
 va e a W _ hs ht:=(Be e a W hs ht).mono fun _ _ h=>h.bo (L8 Ac Ac e)
 fw c g e a W hc hg _ hs _:=(qS c g e a W hc hg hs).mono fun _ _ h=>h.loose Ac Ac
 fr c r g nm left W hc hr hg hs bU n1 _ _:=(qT c r g 2 nm left W hc hr hg hs bU n1).mono fun _ _ h=>h.loose Ac Ac
def rZ:FormOk 3 268 272 270 where
 nm s W hs ht:=(uv s W hs ht).mono fun _ _ h=>h.bo (M6 Ac Ac s)
 va e a W _ _ ht:=(uu e a W ht).mono fun _ _ h=>h.bo (L8 Ac Ac e)
 fw c g e a W hc hg _ hs _:=(jl c g e a W hc hg hs).mono fun _ _ h=>h.loose Ac Ac
 fr c r g nm left W hc hr hg hs bU n1 _ _:=(jm c r g 3 nm left W hc hr hg hs bU n1).mono fun _ _ h=>h.loose Ac Ac
def rY:FormOk 4 273 275 274 where
 nm s W hs ht:=(RG s W (by unfold maxLen;omega) ht.mx).mono fun _ _ h=>h.bo (M6 Ac Ac s)
 va e a W hw hs ht:=(G9 e a W hw hs ht).mono fun _ _ h=>h.bo (L8 Ac Ac e)
 fw c g e a W hc hg hw hs jW:=(DK c g e a W hc hg hw hs jW).mono fun _ _ h=>h.loose Ac Ac
 fr c r g nm left W hc hr hg hs bU n1 n2 n3:=(DM c r g 4 nm left W hc hr hg hs bU n1 n2 n3).mono fun _ _ h=>h.loose Ac Ac
def Pz (k:Int) (e:0<=k) (d:k<=4):∃ (L:Int) (c b a:Nat),fmV k=EFV L c b a/\FormOk k c a b/\FormC c b a/\65<=L/\L<=80/\(L=68<->k=0)/\(L=71<->k=1):=by
 have:k=0\/k=1\/k=2\/k=3\/k=4:=Oo
 rcases this with rfl|rfl|rfl|rfl|rfl
 .exact ⟨68,_,_,_,rfl,qc,nL,Ac,Ac,Ac,Ac⟩
 .exact ⟨71,_,_,_,rfl,qb,nK,Ac,Ac,Ac,Ac⟩
 .exact ⟨65,_,_,_,rfl,qa,nJ,Ac,Ac,Ac,Ac⟩
 .exact ⟨67,_,_,_,rfl,rZ,nI,Ac,Ac,Ac,Ac⟩
 .exact ⟨80,_,_,_,rfl,rY,nH,Ac,Ac,Ac,Ac⟩
section
variable {w:Wd} {e:En} {k:Int} {s:Bz} {b:Bool} {R:En×Bz×Int}
noncomputable instance:DecidableEq En:=fun a b=>Classical.propDecidable (a=b)
def S5 {b:Nat} {o:Obj} (h:w.1[b]? =some o) (c:Obj):(w.alloc c).1[b]? =some o:=by
 rcases ZW b w.1.size with a|a
 .simp only [World.alloc];rw [Array.getElem?_push_lt a,<-WI a];exact h
 .rw [XH a] at h;cases h
def EB.row {a:EnA} {W:Wd} (h:EB e a w W) (c:Sta w) {g:Nat} (d:w.1.size+1<=g) (cs:Array Value):EB e a w (W.setRow g cs):=
 ⟨Uh h.e1 Oo,Uf h.be Oo _,by simpa using h.sz,c.after (Uf h.be Oo _)⟩
def Ym {P:Program} {f:Region.Mode} {ops:Array Oper} {Q:Exit->Act->Wd->Prop} {S S':Wd->Prop} (j:∀ w,S' w->S w):
  ∀ (c:Nat) (d:Array Bool) (a:Act) (w:Wd),wpAnyH P f ops Q S' c d a w->wpAnyH P f ops Q S c d a w
 |0,_,_,_,h=>h
 |c+1,_,_,_,h=>⟨h.1,fun i m=>wpOp_mono (fun l w' g=>⟨j _ g.1,Ym j c _ l w' g.2⟩) (h.2 i m)⟩
def IM (k:Int) (e:En):Bz:=if k=0 then Kn ⟨#[]⟩ e else Pw ⟨#[]⟩ e
def Yu (k:Int) (c a:Bz):En×Bz×Int:=if k=0 then Et 0 c a else F4 1 c a
def M8 (k:Int) (s:Bz):Bool:=if k=0 then Uw s else Vt s
def MU (k:Int) (e:En):Bool:=if k=0 then IL e else GZ e
noncomputable def Gd (e:En):Bool:=M8 e.kind e.name&&(MU e.kind e&&(decide (Yj (Yu e.kind e.name (IM e.kind e)).2.1 (Yu e.kind e.name (IM e.kind e)).2.2=0)&&decide ((Yu e.kind e.name (IM e.kind e)).1=e)))
def Tg (e:En) (b:Bool):Prop:=e.kind=0\/e.kind=1->b=Gd e
def xK (h:nmP k s b) (a:k=0\/k=1):b=M8 k s:=by
 rcases a with rfl|rfl
 .exact h.1 rfl
 .exact h.2 rfl
def zt (h:vaP k e b) (a:k=0\/k=1):b=MU k e:=by
 rcases a with rfl|rfl
 .exact h.1 rfl
 .exact h.2 rfl
def zo (h:wrP k e s) (a:k=0\/k=1):s=IM k e:=by
 rcases a with rfl|rfl
 .exact h.1 rfl
 .exact h.2 rfl
def yr {c a:Bz} (h:rdP k c a R) (d:k=0\/k=1):R=Yu k c a:=by
 rcases d with rfl|rfl
 .exact h.1 rfl
 .exact h.2 rfl
def tw {n v:Bool} (h:nmP e.kind e.name n) (d:vaP e.kind e v) (i:wrP e.kind e s) (f:rdP e.kind e.name s R):Tg e (n&&(v&&(decide (Yj R.2.1 R.2.2=0)&&decide (R.1=e)))):=by
 intro a;have g:=yr f a;have c:=zo i a;subst g;subst c;rw [xK h a,zt d a];rfl
def oy (a:nmP e.kind e.name false):Tg e false:=by
 intro c;unfold Gd;rw [<-xK a c];rfl
def ox (a:vaP e.kind e false):Tg e false:=by
 intro c;unfold Gd;rw [<-zt a c];simp
theorem lJ {G:Prop} (h:G:=by
  simp only [Act.put,Sv,Sz,Sw];have f3:=HG4.o.ce 3 (.func (.func vf) #[] #[]);refine Wv (.func (.func vf) #[] #[]) ?_ (r:=Az);clear f3;refine Up Ak 144 _ rfl w.1.size rfl 144 (enC e a).toArray (0,0) _ aZ.o.e1 underlying144 rfl Ak ?_;simp only [Act.put,Sv,Sz,Sw];refine Zv Ak vf #[.agg (enC e a).toArray] Az ?_;clear eP;refine (HF.o.va e a _ (HW.o.below aZ.o.be) HS.o aZ.o.st).mono ?_;rintro x w5 ⟨⟨vb,hv,rfl⟩,hb⟩;have aR:=Hd (aZ.o.next hb);have HG5:=Hd (HG4.o.below hb HG4.o.lt);clear hb;simp only [];try simp only [Act.put,Sv,Sz,Sw]
  cases vb with
  |false=>
   refine Wv (.bool true) ?_;refine Wv (.bool true) ?_;refine KY ?_;simp only [Exit.then];refine hK _ _ ?_;clear hK;go_wp2;go_ret;exact ⟨⟨false,ox hv,rfl⟩,aR.o.be⟩
  |true=>
   refine Wv (.bool false) ?_;refine Wv (.bool false) ?_;refine KY ?_;simp only [Exit.then];refine hK _ _ ?_;clear hK;go_wp2_with (first|(with_reducible refine yL 266 3 HG5.o ?_)|(with_reducible refine yL 144 1 aR.o.e1 ?_)|(go_at_call 355;refine (mt HF.o HC.o e a _ (HW.o.below aR.o.be) HS.o rfl).mono ?_;rintro x w6 ⟨⟨s,R,a',h1,h2,h3,h4,h5,rfl,cQ⟩,hb⟩;obtain ⟨q,hq⟩:∃ q,decide (Yj R.2.1 R.2.2=0)=q:=⟨_,rfl⟩;rw [hq];have HQ:=Hd hq;have HR:=Hd (And.intro h1 (And.intro h2 h3));have bE:=Hd (aR.o.next hb);have HE6:=Hd cQ;have cY:=Hd fun old=>Blk.new w6 144 old;have HS6:=Hd fun old=>U5 w6 old (enC R.1 a').toArray 144;have wP:=Hd (Um R.1 a');clear h1 h2 h3 h4 h5 cQ hb hq)|(with_reducible refine yS 144 5 (cY.o _) wP.o ?_;rw [HS6.o];refine Stop.go ?_));refine Stop.in' ?_;rename_i K2 hK2
   have fE:=Hd (bE.o.alloc (.cells (enC R.1 a').toArray 144));refine Wv (.bool q) ?_;refine KY ?_;simp only [Exit.then];refine hK2 _ _ ?_;clear hK2;refine wp_seq_k fun K3 hK3=>?_
   refine UF ?_;refine Wv (.bool q) ?_;refine Wv (.bool q) ?_;have hvp:=tw hn hv HR.o.1 HR.o.2.1;rw [HQ.o] at hvp;cases q with
   |false=>
    refine Wk ?_;refine Wk ?_;refine Wk ?_;refine Wv (.bool false) ?_;refine Wv (.bool false) ?_;refine KY ?_;simp only [Exit.then];refine hK3 _ _ ?_;clear hK3;go_wp2;go_ret;exact ⟨⟨false,by simpa using hvp,rfl⟩,fE.o.be⟩
   |true=>
    refine Up Ak 144 _ rfl w6.1.size rfl 144 (enC R.1 a').toArray (0,0) _ (Blk.new w6 _ _) underlying144 rfl Ak ?_;simp only [Act.put,Sv,Sz,Sw];refine Up Ak 144 _ rfl w.1.size rfl 144 (enC e a).toArray (0,0) _ fE.o.e1 underlying144 rfl Ak ?_;simp only [Act.put,Sv,Sz,Sw];refine Zv Ak 207 #[.agg (enC R.1 a').toArray,.agg (enC e a).toArray] Ak ?_;refine (Qw R.1 e a' a _ (HE6.o.below Aj) (HW.o.below fE.o.be) (by have:=HR.o.2.2.la;omega) (by have:=HS.o.la;omega) (by have:=HR.o.2.2.lg;omega) (by have:=HS.o.lg;omega)).mono ?_;rintro x w7 ⟨⟨z,rfl,hz⟩,hb⟩;have HX8:=Hd (fE.o.next hb);clear hb;simp only [];try simp only [Act.put,Sv,Sz,Sw]
    have hvz:Tg e z:=by
     have e1:z=decide (R.1=e):=by
      cases z
      .exact (QW (fun h=>by cases hz.2 h)).symm
      .exact (QQ (hz.1 rfl)).symm
     rw [e1];simpa using hvp
    refine Wv (.bool z) ?_;refine Wv (.bool z) ?_;refine KY ?_;simp only [Exit.then];refine hK3 _ _ ?_;clear hK3;go_wp2;go_ret;exact ⟨⟨z,hvz,rfl⟩,HX8.o.be⟩):G:=h
theorem lI {G:Prop} (h:G:=by
  refine Wv (.bool true) ?_;refine Wv (.bool true) ?_;refine Wv (.bool true) ?_;refine Wk ?_;refine Wk ?_;refine Wk ?_;refine Wk ?_;refine Wk ?_;refine Wv (.bool true) ?_;refine KY ?_;simp only [Exit.then];refine hK _ _ ?_;clear hK;go_wp2;go_ret;exact ⟨⟨false,oy hn,rfl⟩,aZ.o.be⟩):G:=h
abbrev GX (w:Wd) (e) (a):=w.alloc (.cells (enC e a).toArray 144)
def A6 (e:En) (a:EnA) (w:Wd) (hw:EW [] w e a) (H:Sm e) (t:0<=e.kind) (h4:e.kind<=4) (p:Sta w):
  Calls prog 280 #[.agg (enC e a).toArray] w (BoP (Tg e) w):=by
 obtain ⟨L,d,f,vf,l,F,E,D,B,_⟩:=Pz e.kind t h4;have N:=EB.new e a w p;have n:∀ W b,W.1[b]? =some (.map fm5 5)->(Instr.lookup 261 (.map (some b)) (.int .i64 e.kind) true).run prog W=.ok (.tuple #[.agg (fvC L d f vf),.bool true]) W:=fun W b hb=>by have h:=vR W b e.kind hb t h4 true;rw [l] at h;exact h
 have HF:=Hd F;have HC:=Hd E;have HS:=Hd H;have I:=Hd p;have HW:=Hd hw;clear hw H t h4 p l F E D B;go_in;go_wp2_with fail;have A:=Hd (N.next (Bf _ _).drew);refine Rw (S:=fun w'=>EB e a w w') Ak A (fun c=>?_);apply tk 1 (Ag w.1.size 0) c;refine tj 2 (.int .i64 e.kind) c ?_ (y:=by intro w' o;have h1:=o.cell 0 (.int .i64 e.kind) rfl;go_simp);apply Ar (rs:=[0,7]) Ak Am;refine Rc (fun K hK=>?_) ?_
 .go_simp;apply (Zg _).mono;rintro x M ⟨rfl,rfl⟩;simp only [];refine hK.out _ _ (c.alloc _) (fun c=>?_);clear hK K;try simp only [Act.put,Sv,Sz,Sw]
  apply Ym (S':=fun w'=>EB e a w w'/\w'.1[(w.1.size+1)]? =some (.map fm5 5)) (fun _ h=>h.1) _ _ _ _
  replace c:EB e a w ((GX w e a).drew.alloc (.map fm5 5))/\((GX w e a).drew.alloc (.map fm5 5)).1[(w.1.size+1)]? =some (.map fm5 5):=⟨c,Vw _ _ _ (by simp [World.drew])⟩
  refine tj 3 (.tuple #[.agg (fvC L d f vf),.bool true]) c ?_ (y:=by intro w' o;have h1:=n w' ((w.1.size+1)) o.2;go_simp);apply tk 4 (.tuple #[.agg (fvC L d f vf),.bool true]) c;apply tk 5 (.agg (fvC L d f vf)) c;apply tk 6 (.bool true) c;apply Ar (rs:=[7]) Ak Am;refine Rc (fun K hK=>?_) ?_
  .go_simp;refine hK.out _ _ ⟨c.1.alloc _,S5 c.2 _⟩ (fun c=>?_);clear hK K;try simp only [Act.put,Sv,Sz,Sw]
   have j:Aw (Blk (Aa ((GX w e a).alloc (.map fm5 5)) #[.int .u8 0,.nilFunc,.nilFunc,.nilFunc] 266).drew (w.1.size+2) 266 #[.int .u8 0,.nilFunc,.nilFunc,.nilFunc]):=Hd (U3 ((GX w e a).alloc (.map fm5 5)) _ _ _ Am).drew;apply Ar (rs:=[8]) Ak Am;refine Rc (fun K hK=>?_) ?_
   .apply KH 266 _ _ rfl ((w.1.size+2)) (fvC L d f vf) rfl rfl 266 #[.int .u8 0,.nilFunc,.nilFunc,.nilFunc] j Ak rfl (Hu _ _ _ _);refine hK.out _ _ ⟨c.1.row I Oo _,(QE _ _ _ _ Oo).trans c.2⟩ (fun c=>?_);clear hK K;try simp only [Act.put]
    apply tk 9 (.bool true) c;refine Ad Ak ?_ _;have g:Aw (EB e a w ((Aa ((GX w e a).alloc (.map fm5 5)) #[.int .u8 0,.nilFunc,.nilFunc,.nilFunc] 266).drew.setRow ((w.1.size+2)) (fvC L d f vf))):=Hd c.1;have i:Aw (Blk ((Aa ((GX w e a).alloc (.map fm5 5)) #[.int .u8 0,.nilFunc,.nilFunc,.nilFunc] 266).drew.setRow ((w.1.size+2)) (fvC L d f vf)) ((w.1.size+2)) 266 (fvC L d f vf)):=Hd (QR _ _ _ (fvC L d f vf) _ _ j);have v:=i.ce 1 (.func (.func d) #[] #[]);have c1:=g.cell 1 (.string e.name) rfl;have C:=HC.n;have eP:=HC.v;clear c j;go_wp2_with ((with_reducible show Calls _ _ _ _ _);apply Stop.go);apply Stop.in';rename_i K hK X m;apply (HF.nm e.name _ HS.nm g.st).mono;rintro x J ⟨⟨u,hn,rfl⟩,hb⟩;have aZ:=Hd (g.next hb);have HG4:=Hd (i.below hb i.lt);clear hb v c1 C
    simp only [];apply m _ _;clear m;try simp only [Act.put,Sv,Sz,Sw]
    cases u with
    |false=>
     exact lI
    |true=>
     apply V0 Ak (.bool false) Ak;simp only [Act.put,Sv,Sz,Sw];apply V0 Ak (.bool false) Ak;simp only [Act.put,Sv,Sz,Sw];apply V0 Ak (.bool false) Ak;simp only [Act.put,Sv,Sz,Sw];apply V0 Ak (Ag (w.1.size+2) 3) Ak;exact lJ
   exact An
  exact An
 refine Rc (fun K hK=>?_) ?_
 .go_simp;refine hK.out _ _ (c.alloc _) (fun c=>?_);clear hK K;try simp only [Act.put,Sv,Sz,Sw]
  apply Ar (rs:=[0]) Ak Am;refine Rc (fun K hK=>?_) ?_
  .go_simp;apply (Zg _).mono;rintro x M ⟨rfl,rfl⟩;simp only [];refine hK.out _ _ (c.alloc _) (fun c=>?_);clear hK K;try simp only [Act.put,Sv,Sz,Sw]
   apply Ym (S':=fun w'=>EB e a w w'/\w'.1[(w.1.size+2)]? =some (.map fm5 5)) (fun _ h=>h.1) _ _ _ _
   replace c:EB e a w (((GX w e a).drew.alloc (.cells #[.int .u8 0,.nilFunc,.nilFunc,.nilFunc] 266)).alloc (.map fm5 5))/\(((GX w e a).drew.alloc (.cells #[.int .u8 0,.nilFunc,.nilFunc,.nilFunc] 266)).alloc (.map fm5 5)).1[(w.1.size+2)]? =some (.map fm5 5):=⟨c,Vw _ _ _ (by simp [World.drew])⟩
   refine tj 3 (.tuple #[.agg (fvC L d f vf),.bool true]) c ?_ (y:=by intro w' o;have h1:=n w' ((w.1.size+2)) o.2;go_simp);apply tk 4 (.tuple #[.agg (fvC L d f vf),.bool true]) c;apply tk 5 (.agg (fvC L d f vf)) c;apply tk 6 (.bool true) c;have j:Aw (Blk ((Aa (GX w e a) #[.int .u8 0,.nilFunc,.nilFunc,.nilFunc] 266).alloc (.map fm5 5)).drew (w.1.size+1) 266 #[.int .u8 0,.nilFunc,.nilFunc,.nilFunc]):=Hd ((U3 (GX w e a) _ _ _ Am).alloc _).drew;apply Ar (rs:=[8]) Ak Am;refine Rc (fun K hK=>?_) ?_
   .apply KH 266 _ _ rfl ((w.1.size+1)) (fvC L d f vf) rfl rfl 266 #[.int .u8 0,.nilFunc,.nilFunc,.nilFunc] j Ak rfl (Hu _ _ _ _);refine hK.out _ _ ⟨c.1.row I Oo _,(QE _ _ _ _ Oo).trans c.2⟩ (fun c=>?_);clear hK K;try simp only [Act.put]
    apply tk 9 (.bool true) c;refine Ad Ak ?_ _;have g:Aw (EB e a w (((Aa (GX w e a) #[.int .u8 0,.nilFunc,.nilFunc,.nilFunc] 266).alloc (.map fm5 5)).drew.setRow ((w.1.size+1)) (fvC L d f vf))):=Hd c.1;have i:Aw (Blk (((Aa (GX w e a) #[.int .u8 0,.nilFunc,.nilFunc,.nilFunc] 266).alloc (.map fm5 5)).drew.setRow ((w.1.size+1)) (fvC L d f vf)) ((w.1.size+1)) 266 (fvC L d f vf)):=Hd (QR _ _ _ (fvC L d f vf) _ _ j);have v:=i.ce 1 (.func (.func d) #[] #[]);have c1:=g.cell 1 (.string e.name) rfl;have C:=HC.n;have eP:=HC.v;clear c j;go_wp2_with ((with_reducible show Calls _ _ _ _ _);apply Stop.go);apply Stop.in';rename_i K hK X m;apply (HF.nm e.name _ HS.nm g.st).mono;rintro x J ⟨⟨u,hn,rfl⟩,hb⟩;have aZ:=Hd (g.next hb);have HG4:=Hd (i.below hb i.lt);clear hb v c1 C
    simp only [];apply m _ _;clear m;try simp only [Act.put,Sv,Sz,Sw]
    cases u with
    |false=>
     exact lI
    |true=>
     apply V0 Ak (.bool false) Ak;simp only [Act.put,Sv,Sz,Sw];apply V0 Ak (.bool false) Ak;simp only [Act.put,Sv,Sz,Sw];apply V0 Ak (.bool false) Ak;simp only [Act.put,Sv,Sz,Sw];apply V0 Ak (Ag (w.1.size+1) 3) Ak;exact lJ
   exact An
  exact An
 exact An
end
def Jb (L:Int) (a:Bz):Bz:=if 31<a.size then ⟨#[]⟩ else strOfNums [L]++a ++ ⟨(Lib.repeatL [32] (31-a.size)).toArray⟩
def jn (W:Wd) (g:Nat) (a:Int) (h:Blk W g 5 #[.int .u8 a]):(convert 183 9 (.slice (Ah g 0) 1 1)).run prog W=.ok (.string (strOfNums [a])) W:=
 Y8 _ g 1 1 5 [a] h rfl
def Zt (a:Int):(strOfNums [a]).size=1:=rfl
def lH {G:Prop} (h:G:=by
  refine tj 10 (.string (s1++nm++sp)) Hh ?_ (y:=by intro w' aO;have h1:=HZ.o.2;go_simp);refine tk 11 (.string (s1++nm++sp)) Hh ?_;refine Ad Ak ?_ _;clear Hh;go_wp2;go_ret
  first
   |exact ⟨rfl,(U0 (HB.o.alloc HB.o.size _).drew dY.o (by have:=HB.o.size;simp;omega))⟩
   |exact ⟨rfl,(dY.o.alloc dY.o.size _)⟩):G:=h
def rD (k L:Int) (e d b:Nat) (nm:Bz) (w:Wd) (F:0<=k) (H:k<=4) (p:fmV k=EFV L e d b) (M:nm.size<=1000):
  Calls prog 281 #[.int .i64 k,.string nm] w (Ab w (.string (Jb L nm))):=by
 have D:(Instr.lookup 261 (.map (some w.1.size)) (.int .i64 k) true).run prog (w.alloc (.map fm5 5))=.ok (.tuple #[.agg (fvC L e d b),.bool true]) (w.alloc (.map fm5 5)):=by
  have h:=vR (w.alloc (.map fm5 5)) w.1.size k (YH w _) F H true;rw [p] at h;exact h
 have s:(w.alloc (.map fm5 5)).1.size=w.1.size+1:=Am
 have z:Aw (∀ a,Blk ((w.alloc (.map fm5 5)).alloc (.cells a 266)) (w.1.size+1) 266 a):=Hd fun a=>U3 (w.alloc (.map fm5 5)) _ _ (w.1.size+1) Am
 have v:Aw (∀ a,((w.alloc (.map fm5 5)).alloc (.cells a 266)).setRow (w.1.size+1) (fvC L e d b)=(w.alloc (.map fm5 5)).alloc (.cells (fvC L e d b) 266)):=Hd fun a=>by have h:=U5 (w.alloc (.map fm5 5)) a (fvC L e d b) 266;rwa [s] at h
 have A:=Hd (Hu L e d b);have HB:Aw (Below w.1.size w ((w.alloc (.map fm5 5)).alloc (.cells (fvC L e d b) 266))):=Hd (Aj.alloc Am _);clear s F H p;unfold Jb;by_cases hz:31<nm.size
 .rw [QK hz];have E:decide ((31:Int)<(nm.size:Int))=true:=QQ Oo;clear hz M;go_in;go_wp2_with (first|(go_at_call 203;refine (Zg _).mono ?_;rintro x P ⟨rfl,rfl⟩)|(with_reducible refine yS 266 5 (z.o _) A.o ?_;rw [v.o]));go_ret;exact ⟨rfl,HB.o⟩
 .rw [QX hz];have E:decide ((31:Int)<(nm.size:Int))=false:=QW Oo;obtain ⟨c,O⟩:=yG (31-nm.size:Nat)
  have J:IntKind.i64.wrap (31-(nm.size:Int))=(c:Int):=by
   rw [show (31:Int)-(nm.size:Int)=(c:Int) from Oo];rw [ZE];omega
  rw [O];have n:=Hd fun W=>strings_Repeat ⟨#[32]⟩ c W Oo (by rw [show (⟨#[32]⟩:Bz).size=1 from rfl];omega)
  have u:(⟨(Lib.repeatL [32] c).toArray⟩:Bz).size<=31:=by
   have h:=JL [32] c;show (Lib.repeatL [32] c).toArray.size<=31;rw [YZ,h];simp only [QS,XS];omega
  have q:=Zt L;have B:=Hd fun W g=>jn W g L
  obtain ⟨sp,i⟩:=yG (⟨(Lib.repeatL [32] c).toArray⟩:Bz);obtain ⟨s1,I⟩:=yG (strOfNums [L]);rw [i] at n u ⊢;rw [I] at B q ⊢;have j:s1.size+nm.size<=9223372036854775807:=Oo
  have l:s1.size+nm.size+sp.size<=9223372036854775807:=Oo
  have C:=Hd J;have HZ:=Hd (And.intro j l);clear hz M O J u q i I j l;go_in;go_wp2_with (first|(go_at_call 203;refine (Zg _).mono ?_;rintro x P ⟨rfl,rfl⟩)|(with_reducible refine yS 266 5 (z.o _) A.o ?_;rw [v.o]));clear D E z v A;have t:Aw (Blk ((w.alloc (.map fm5 5)).alloc (.cells (fvC L e d b) 266)).drew (w.1.size+1) 266 (fvC L e d b)):=Hd (U3 (w.alloc (.map fm5 5)) _ _ (w.1.size+1) Am).drew;obtain ⟨V,N⟩:=yG ((w.alloc (.map fm5 5)).alloc (.cells (fvC L e d b) 266));simp only [N] at HB t ⊢;clear N;refine Rw (S:=fun w'=>Blk w' (w.1.size+1) 266 (fvC L e d b)) Ak t.o (fun Hh=>?_);refine tk 0 (Ag (w.1.size+1) 0) Hh ?_
  refine tj 1 (.int .u8 L) Hh ?_ (y:=by intro w' aO;have h1:=aO.ce 0 (.int .u8 L);go_simp);refine tk 4 (.string nm) Hh ?_;refine tk 6 (.string nm) Hh ?_;refine tk 7 (.int .i64 (nm.size:Int)) Hh ?_;refine tj 8 (.int .i64 (c:Int)) Hh ?_ (y:=by intro w' aO;have h1:=C.o;go_simp);refine Aq [2,9] ?_;refine Rc (fun K f=>?_) ?_
  .go_simp;have r:Blk (Aa V.drew #[.int .u8 L] 5) V.drew.1.size 5 #[.int .u8 L]:=Blk.new _ _ _;refine f.out _ _ (Hh.alloc _) (fun Hh=>?_);refine Ym (S':=fun w'=>Blk w' (w.1.size+1) 266 (fvC L e d b)/\Blk w' V.1.size 5 #[.int .u8 L]) (fun _ h=>h.1) _ _ _ _ ?_
   replace Hh:Blk (Aa V.drew #[.int .u8 L] 5) (w.1.size+1) 266 (fvC L e d b)/\Blk (Aa V.drew #[.int .u8 L] 5) V.1.size 5 #[.int .u8 L]:=⟨Hh,r⟩
   clear f K r;try simp only [Act.put,Sv,Sz,Sw]
   refine tj 3 (.string s1) Hh ?_ (y:=by intro w' aO;have h1:=B.o w' _ aO.2;go_simp);refine tj 5 (.string (s1++nm)) Hh ?_ (y:=by intro w' aO;have h1:=HZ.o.1;go_simp);refine Aq [9] ?_;refine Rc (fun K f=>?_) ?_
   .go_simp;refine (n.o _).mono ?_;rintro x m ⟨rfl,o⟩;simp only [];refine f.out _ _ ⟨Hh.1.below o Hh.1.lt,Hh.2.below o Hh.2.lt⟩ (fun Hh=>?_);clear f K;try simp only [Act.put,Sv,Sz,Sw]
    have dY:=Hd o;exact lH
   exact An
  refine Rc (fun K f=>?_) ?_
  .go_simp;refine (n.o _).mono ?_;rintro x m ⟨rfl,o⟩;simp only [];refine f.out _ _ (Hh.below o Hh.lt) (fun Hh=>?_);clear f K;try simp only [Act.put,Sv,Sz,Sw]
   have dY:Aw (Below w.1.size w m):=Hd (U0 HB.o.drew o HB.o.size);clear o;refine Aq [2] ?_;refine Rc (fun K f=>?_) ?_
   .go_simp;have r:Blk (Aa m #[.int .u8 L] 5) m.1.size 5 #[.int .u8 L]:=Blk.new _ _ _;refine f.out _ _ (Hh.alloc _) (fun Hh=>?_);refine Ym (S':=fun w'=>Blk w' (w.1.size+1) 266 (fvC L e d b)/\Blk w' m.1.size 5 #[.int .u8 L]) (fun _ h=>h.1) _ _ _ _ ?_
    replace Hh:Blk (Aa m #[.int .u8 L] 5) (w.1.size+1) 266 (fvC L e d b)/\Blk (Aa m #[.int .u8 L] 5) m.1.size 5 #[.int .u8 L]:=⟨Hh,r⟩
    clear f K r;try simp only [Act.put,Sv,Sz,Sw]
    refine tj 3 (.string s1) Hh ?_ (y:=by intro w' aO;have h1:=B.o w' _ aO.2;go_simp);refine tj 5 (.string (s1++nm)) Hh ?_ (y:=by intro w' aO;have h1:=HZ.o.1;go_simp);exact lH
   exact An
  exact An
noncomputable def I7 (e:En):Option Bz:=if Gd e then some (Jb (if e.kind=0 then 68 else 71) e.name++IM e.kind e) else none
def vW (e:En) (o:Option Bz):Prop:=e.kind=0\/e.kind=1->o=I7 e
def vV:Option Bz->Value
 |none=>.tuple #[.string ⟨#[]⟩,.int .i64 1]
 |some s=>.tuple #[.string s,.int .i64 0]
def jR (e:En) (w:Wd) (x:Ending) (w':Wd):Prop:=(∃ o:Option Bz,vW e o/\(∀ s,o=some s->s.size<=200000)/\x=.returned (vV o))/\Below w.1.size w w'
def Oh (L:Int) (a:Bz):(Jb L a).size<=100:=by
 unfold Jb;split
 .exact Z0 _
 .rename_i h;have b:=JL [32] (31-a.size);rw [QY,QY,Zt];show 1+a.size+(Lib.repeatL [32] (31-a.size)).toArray.size<=100;rw [YZ,b];simp only [QS,XS];omega
def F6 (e:En) (a:EnA) (w:Wd) (hw:EW [] w e a) (z:Sm e) (o:0<=e.kind) (q:e.kind<=4) (M:Sta w):
  Calls prog 205 #[.agg (enC e a).toArray] w (jR e w):=by
 obtain ⟨L,I,F,B,k,Q,J,H,G,u,p⟩:=Pz e.kind o q;have v:=Hd (EB.new e a w M);have E:Aw (∀ W b,W.1[b]? =some (.map fm5 5)->(Instr.lookup 261 (.map (some b)) (.int .i64 e.kind) false).run prog W=.ok (.agg (fvC L I F B)) W):=Hd fun W b d=>by have h:=vR W b e.kind d o q false;rw [k] at h;exact h
 have HV:=Hd (A6 e a _ (hw.below v.o.be) z o q v.o.st);have n:=Hd fun W=>rD e.kind L I F B e.name W o q k z.nm
 have C:=Hd fun W (h:EB e a w W)=>uy (L:=L) Q J e a W (hw.below h.be) z
 have r:Aw (∀ b s,Tg e b->wrP e.kind e s->vW e (if b then some (Jb L e.name++s) else none)):=Hd fun b s g Y f=>by
  rw [g f,zo Y f];unfold I7;rcases f with f|f
  .rw [u.2 f,QK f]
  .rw [p.2 f,QX (show ¬ e.kind=0 from Oo)]
 have l:=Hd (Oh L e.name)
 have A:Aw (Tg e false->vW e none):=Hd fun g f=>by
  unfold I7;rw [<-g f];rfl
 generalize Jb L e.name=D at n r l;clear hw z o q M k Q J H G u p;go_in;go_wp2_with (first|(with_reducible refine yL 144 1 v.o.e1 ?_)|(go_at_call 280;refine HV.o.mono ?_;rintro x w2 ⟨⟨b,T,rfl⟩,d⟩;have X:=Hd T;have V:=Hd (v.o.next d);clear d T;cases b))
 .refine Br (YP results205 _ _ _) rfl ?_;exact ⟨⟨none,A X,(fun s h=>by cases h),rfl⟩,V.o.be⟩
 .have HXd:Aw (EB e a w w2.drew):=Hd (V.o.next (Bf _ _).drew);clear v;refine Rw (S:=fun w'=>EB e a w w') Ak HXd (fun c=>?_);refine tA 0 c ?_;refine tj 1 (.int .i64 e.kind) c ?_ (y:=by intro w' j;have g:=j.cell 0 (.int .i64 e.kind) rfl;go_simp);refine tA 2 c ?_;refine tj 3 (.string e.name) c ?_ (y:=by intro w' j;have g:=j.cell 1 (.string e.name) rfl;go_simp);refine tA 6 c ?_;refine tj 7 (.int .i64 e.kind) c ?_ (y:=by intro w' j;have g:=j.cell 0 (.int .i64 e.kind) rfl;go_simp);refine tR 9 (fun _ h=>h.e1) c ?_;refine Aq [4] ?_;refine Rc (fun K i=>?_) ?_
  .go_simp;refine (n _).mono ?_;rintro x m ⟨rfl,d⟩;simp only [];have Z:=Hd (HXd.o.next d);refine i.out _ _ Z (fun c=>?_);clear i K d;try simp only [Act.put,Sv,Sz,Sw]
   refine Aq [5] ?_;refine Rc (fun K i=>?_) ?_
   .go_simp;refine (Zg _).mono ?_;rintro x w4 ⟨rfl,rfl⟩;simp only [];refine i.out _ _ (c.alloc _) (fun c=>?_);clear i K;try simp only [Act.put,Sv,Sz,Sw]
    refine Ym (S':=fun w'=>EB e a w w'/\w'.1[m.1.size]? =some (.map fm5 5)) (fun _ h=>h.1) _ _ _ _ ?_
    replace c:EB e a w (m.alloc (.map fm5 5))/\(m.alloc (.map fm5 5)).1[m.1.size]? =some (.map fm5 5):=⟨c,YH m _⟩
    refine tj 8 (.agg (fvC L I F B)) c ?_ (y:=by intro w' j;have g:=E w' m.1.size j.2;go_simp);refine Aq [10] ?_;refine Rc (fun K i=>?_) ?_
    .go_simp;refine (C _ c.1).mono ?_;rintro x w5 ⟨⟨s,P,N,rfl⟩,d⟩;simp only [];have U:=Hd (c.1.next d);have O:D.size+s.size<=9223372036854775807:=by have:=l.o;omega
     have R:=Hd (And.intro P N);refine i.out _ _ ⟨U,(d.block _ Am).trans c.2⟩ (fun c=>?_);clear i K d P N;try simp only [Act.put,Sv,Sz,Sw]
     refine tj 11 (.string (D++s)) c ?_ (y:=by intro w' j;have g:=O;go_simp)
     iterate 2 refine tB c ?_
     refine Ad Ak ?_ _;clear c O;go_wp2;refine Br (YP results205 _ _ _) rfl ?_;exact ⟨⟨some (D++s),r true s X R.o.1,(fun t h=>by injection h with h;subst h;rw [QY];have:=R.o.2;have:=l.o;omega),rfl⟩,U.o.be⟩
    exact An
   exact An
  exact An
section
variable {l:List UInt8} {s:Bz}
def Xi:List UInt8->List (List UInt8)
 | []=>[[]]
 |c::r=>if c=46 then []::Xi r else match Xi r with
  |h::t=>(c::h)::t
  | []=>[[c]]
def Cx:∀ l,Xi l≠[]
 | []=>by simp [Xi]
 |c::r=>by
  unfold Xi;split
  .simp
  .split<;>simp
def Hy (h:(46:UInt8) ∉ l):Xi l=[l]:=by
 induction l with
 |nil=>rfl
 |cons c r b=>
  unfold Xi;rw [QX (fun e=>h (by rw [e];exact QP)),b fun a=>h (QN _ a)]
def um {a:List UInt8} (b:List UInt8) (h:(46:UInt8) ∉ a):Xi (a++46::b)=a::Xi b:=by
 induction a with
 |nil=>simp [Xi]
 |cons c r f=>
  rw [KE]
  conv=>lhs;unfold Xi
  rw [QX (fun e=>h (by rw [e];exact QP)),f fun d=>h (QN _ d)]
theorem pH {G:Prop} (h:G:=by
  by_cases hc:c=46
  .rw [QK hc,QK hc];rfl
  .rw [QX hc,QX hc];rfl):G:=h
def OS (l:List UInt8) (c:UInt8):∃ q z,Xi l=q++[z]/\Xi (l++[c])=if c=46 then q++[z,[]] else q++[z++[c]]:=by
 induction l with
 |nil=>
  refine ⟨[],[],rfl,?_⟩;show Xi [c]=_;by_cases h:c=46
  .rw [QK h];simp [Xi,h]
  .rw [QX h];simp [Xi,h]
 |cons b r f=>
  obtain ⟨q,z,e,d⟩:=f;rw [KE];unfold Xi;by_cases a:b=46
  .rw [QK a,QK a,e,d];refine ⟨[]::q,z,rfl,?_⟩;exact pH
  .rw [QX a,QX a,e,d];cases q with
   |nil=>
    refine ⟨[],b::z,rfl,?_⟩;exact pH
   |cons x q=>
    refine ⟨(b::x)::q,z,rfl,?_⟩;exact pH
def Kj:List (List UInt8)->List UInt8
 | []=>[]
 | [a]=>a
 |a::b::r=>a++46::Kj (b::r)
def Ib:∀ l,Kj (Xi l)=l/\∀ p∈Xi l,(46:UInt8) ∉ p
 | []=>⟨rfl,fun p d=>by rw [QT.1 d];simp⟩
 |c::r=>by
  have e:=Ib r;have g:=Cx r;unfold Xi;split
  .rename_i hc;refine ⟨?_,fun p d=>?_⟩
   .cases f:Xi r with
    |nil=>exact absurd f g
    |cons a t=>
     rw [f] at e;show []++46::Kj (a::t)=c::r;rw [e.1,hc];rfl
   .rcases QH.1 d with rfl|d
    .simp
    .exact e.2 p d
  .rename_i hc;cases f:Xi r with
   |nil=>exact absurd f g
   |cons a t=>
    rw [f] at e;refine ⟨?_,fun p d=>?_⟩
    .cases t with
     |nil=>show c::a=c::r;rw [show a=r from e.1]
     |cons b t=>show (c::a)++46::Kj (b::t)=c::r;rw [<-e.1];rfl
    .rcases QH.1 d with rfl|d
     .intro hm;rcases QH.1 hm with h|h
      .exact hc h.symm
      .exact e.2 a QP h
     .exact e.2 p (QN _ d)
def occ_dot {j:Nat}:Lib.occAt l [46] j=true<->l[j]? =some 46:=by
 unfold Lib.occAt;cases h:l[j]? with
 |none=>
  rw [JC (List.getElem?_eq_none_iff.1 h)];simp [List.isPrefixOf]
 |some c=>
  have a:=(QZ.1 h)
  rw [QO a.1,a.2];simp only [List.isPrefixOf,VZ,YT,IW];exact ⟨fun h=>h.symm,fun h=>h.symm⟩
theorem mO {G:Prop} (h:G:=by
  obtain ⟨j,hj⟩:=ZA hm;have:=h2 j (by have:=(QZ.1 hj).1;omega);rw [occ_dot.2 hj] at this;cases this):G:=h
def Tp:∀ (n:Nat) (l:List UInt8),l.length<=n->Lib.splitK [46] 0 (Lib.count l [46]) l=Xi l:=by
 intro n;induction n with
 |zero=>
  intro l h;obtain rfl:l=[]:=QA Oo;rfl
 |succ n f=>
  intro l h;rcases Lib.index_spec l [46] with ⟨a,h2⟩|⟨i,a,h2,g,e⟩
  .have b:(46:UInt8) ∉ l:=fun hm=>by
    exact mO
   rw [Lib.count_miss a,Hy b];rfl
  .have hi:=QZ.1 (occ_dot.1 g)
   have b:(46:UInt8) ∉ l.take i:=fun hm=>by
    obtain ⟨j,hj⟩:=ZA hm;have c:=(QZ.1 hj).1;rw [WX] at c;have:=e j Oo;rw [VB Oo] at hj;rw [occ_dot.2 hj] at this;cases this
   have d:l=l.take i++46::l.drop (i+1):=by
    conv=>lhs;rw [<-ZS i l,QO hi.1,hi.2]
   rw [Lib.count_hit Am a,UZ];unfold Lib.splitK;rw [QX (by rw [a];simp),a];simp only [QS,XS,XO,QF,QB];rw [f _ (by rw [XD];omega)]
   conv=>rhs;rw [d]
   rw [um _ b]
def Hm (s:Bz):(pcs s).map (·.data.toList)=Xi s.data.toList:=by
 unfold pcs;rw [Lib.splitB_data];exact Tp _ _ (Le _)
def mkB (l:List UInt8):Bz:=⟨l.toArray⟩
def oS (s:Bz):pcs s=(Xi s.data.toList).map mkB:=by
 rw [<-Hm,JD];refine (List.map_id _).symm.trans (VE fun x _=>?_);show x=mkB x.data.toList;unfold mkB;simp
def sW (h:(pcs s).length=1):pcs s=[s]:=by
 have d:=Hm s;have b:=Ib s.data.toList;rw [<-d] at b
 match hq:pcs s with
 | [a]=>
  rw [hq] at b;have c:a.data.toList=s.data.toList:=b.1
  have:a=s:=by
   apply KZ;exact UQ.1 c
  rw [this]
 | []=>rw [hq] at h;simp at h
 |_::_::_=>rw [hq] at h;simp at h
def Q8 (s:Bz):EU s=(Uw s&&decide ((pcs s).length=1)):=by
 unfold EU;congr 1;rw [XW];simp only [XN,KJ,QG];rw [<-Lib.index_one];have g:=Hm s;have b:(pcs s).length=(Xi s.data.toList).length:=by rw [<-g,XT]
 rw [b];rcases Lib.index_spec s.data.toList [46] with ⟨d,h2⟩|⟨i,d,h2,f,k⟩
 .have eI:(46:UInt8) ∉ s.data.toList:=fun hm=>by
   exact mO
  rw [Hy eI];refine ⟨fun _=>rfl,fun _=>?_⟩;have:Lib.index s.data.toList [46] = -1:=d;omega
 .have hp:=Ib s.data.toList;have:(0:Int)<=Lib.index s.data.toList [46]:=Oo
  refine ⟨fun h=>absurd this h,fun h=>?_⟩
  match hq:Xi s.data.toList with
  | [a]=>
   rw [hq] at hp;have e:a=s.data.toList:=hp.1;have c:=hp.2 a QP;rw [e] at c;exact absurd (QJ (occ_dot.1 f)) c
  | []=>rw [hq] at h;simp at h
  |_::_::_=>rw [hq] at h;simp at h
def G7 (h:orW s=true):s.size<=8:=by
 unfold orW at h;simp only [XU,QG] at h;rcases h with h|h
 .rw [Fa ((nil_iff s).2 h)];decide
 .rw [Q8] at h;simp only [QU,QG] at h;have a:=h.1;unfold Uw at a;rw [sW h.2] at a;simp only [QU,UT,IK,VZ] at a;have b:=a.2;unfold Xw at b;simp only [QU,QG] at b;exact b.1.1.2
def Gx {k:Int} (h:M8 k s=true):1<=s.size/\s.size<=31:=by
 have a:Uw s=true->1<=s.size/\s.size<=31:=fun h=>by
  unfold Uw at h;simp only [QU,QG] at h;exact h.1
 unfold M8 at h;split at h
 .exact a h
 .unfold Vt at h;simp only [QU,QG] at h;exact a h.1.2
end
def RY:∀ (L:List (List UInt8)) (p:List UInt8),p∈L->p.length<=(Kj L).length
 | [],p,h=>by cases h
 | [a],p,h=>by rw [QT.1 h];exact Le _
 |a::b::r,p,h=>by
  have c:=RY (b::r);unfold Kj;rw [WW,QS];rcases QH.1 h with rfl|h
  .omega
  .have:=c p h;omega
def qF {l p:List UInt8} (h:p∈Xi l):p.length<=l.length:=by
 have:=RY _ p h
 rwa [(Ib l).1] at this
def PtG (L:List Bz) (w:Wd) (e:Ending) (w':Wd):Prop:=∃ A c,e=.returned (.slice A L.length c)/\w'.ownsRow w.1.size 9 1 (.slice A L.length c) L.length (L.map Value.string)/\Below w.1.size w w'
def Yt (s:Bz):∀ u∈[Value.string s],u.oneCell'=true:=fun u a=>by rw [QT.1 a];rfl
def rq (z:List UInt8) (c:UInt8):mkB (z++[c])=mkB z ++ ⟨#[c]⟩:=by
 apply KZ;rw [KO];simp [mkB]
def Tk {s:Bz} {j:Nat} (h:j<s.size):s.data.toList.take (j+1)=s.data.toList.take j++[s[j]]:=by
 rw [YG];congr 1
 have:s.data.toList[j]? =some s[j]:=by
  rw [YI,WI h];rfl
 rw [this];rfl
def Ej (s:Bz) (w:Wd) (hs:s.size<=10000):Calls prog 299 #[.string s] w (PtG (pcs s) w):=by
 rw [oS];go_wp2
 go_loopw [3,4] (fun v i wr=>∃ j:Nat,j<=s.size/\i=.int .i64 j/\(∃ A c,v=.slice A (Xi (s.data.toList.take j)).length c)/\(Xi (s.data.toList.take j)).length<=j+1 /\
   wr.ownsRow w.1.size 9 1 v (Xi (s.data.toList.take j)).length (((Xi (s.data.toList.take j)).map mkB).map Value.string)/\Below w.1.size w wr) (fun _ i _=>s.size-(intOf i).toNat)
 .exact ⟨0,Z0 _,rfl,⟨_,_,rfl⟩,by simp [Xi],WC _ _ _ (Le _) Ac rfl,Aj⟩
 .obtain ⟨j,hj,rfl,⟨A,c,rfl⟩,hlen,aD,aF⟩:=hrel;by_cases M:j<s.size
  .obtain ⟨b,hb⟩:=yG ((s[j]).toNat);have y:=Tk M;have r:∀ u:UInt8,s[j]=u->u.toNat=b:=fun u h=>by rw [<-h,hb]
   have F:s.extract j (j+1)=⟨#[s[j]]⟩:=by
    rw [ByteArray.extract_add_one Oo];apply KZ;rw [List.data_toByteArray]
   obtain ⟨u,J⟩:=yG (s[j]);rw [J] at y F;have f:=r u J;obtain ⟨q,z,D,G⟩:=OS (s.data.toList.take j) u;clear r J;have n:Xi (s.data.toList.take (j+1))=if u=46 then q++[z,[]] else q++[z++[u]]:=by rw [y];exact G
   rw [D] at aD hlen ⊢;have C:=Hd aF;have L:=Hd hlen;have B:=Hd M;by_cases a:u=46
   .obtain rfl:b=46:=by rw [<-f,a];rfl
    rw [QK a] at n;have m:=Hd n;have E:=Hd (aD.alloc (.cells #[.string ⟨#[]⟩] 9));have I:=Hd (aF.alloc aF.size (.cells #[.string ⟨#[]⟩] 9));have X:=Hd (show (q++[z]).length<=100000 from Oo);clear D G n aD aF a y F hlen;go_wp2_with (at_builtin;go_must (refine Ap V5 underlying133 E.o (Blk.new wr _ _) (Yt _) X.o (I.o).size ?_;intro v' w5 d P;have x:=Hd d;have Q:=Hd (I.o.grown P I.o.size (U9 E.o (Le _)));clear d P));go_roundw
    .obtain ⟨A',c',rfl,_⟩:=U4 x.o;refine ⟨j+1,by have:=B.o;omega,Au,⟨A',c',?_⟩,?_,?_,Q.o⟩
     .rw [m.o];simp
     .rw [m.o];have:=L.o;simp at this ⊢;omega
     .rw [m.o];have:=x.o;simpa [mkB] using this
    .simp [intOf];have:=B.o;omega
   .have e46:((b:Int) == 46)=false:=by
     rw [JV];intro h;refine a (VV.1 ?_);rw [f];show b=46;omega
    rw [QX a] at n;have m:=Hd n;obtain ⟨g,W,hv,R,cE,S⟩:=J7 aD Am;injection hv with hv1 iG hv3
    subst hv1 hv3;have o:∃ K,q.length=K:=⟨_,rfl⟩
    obtain ⟨K,o⟩:=o;have H:(q++[z]).length=K+1:=by simp [o]
    rw [H] at aD ⊢;have U:wr.cell? ⟨g,K,none⟩=some (.string (mkB z)):=by rw [aD.cellAt _ Oo];simp [<-o]
    have hcf:=aD.frozenAt K;have t:=aD.stored K (.string (mkB z++s.extract j (j+1)));have N:=Hd t;have r1:(0:Int)<=(j:Int):=Oo
    have r2:(j:Int)<=(j:Int)+1:=Oo
    have r3:(j:Int)+1<=(s.size:Int):=Oo
    have r4:IntKind.i64.wrap ((j:Int)+1)=(j:Int)+1:=QL _ Oo;have Z:K<=100000:=by have:=L.o;rw [H] at this;omega
    have Y:=Hd F
    have fL:(mkB z).size+(s.extract j (j+1)).size<=9223372036854775807:=by
     have h9:(mkB z).size=z.length:=by simp [mkB,ByteArray.size]
     have h8:z.length<=j:=by
      have V:=qF (l:=s.data.toList.take j) (p:=z) (by rw [D];simp);rw [WX] at V;omega
     rw [XZ];omega
    have O:=Hd o;clear D G n aD aF a y F hlen t o f H;go_wp2
    go_region
    go_wp2;go_roundw
    .refine ⟨j+1,by have:=B.o;omega,Au,⟨some ⟨g,0,none⟩,c,?_⟩,?_,?_,(C.o.grown N.o.2 C.o.size (by rintro k ⟨⟩;exact R)).drew⟩
     .rw [m.o];simp [O.o]
     .rw [m.o];have:=L.o;simp at this ⊢;omega
     .rw [m.o];have e:mkB (z++[u])=mkB z++s.extract j (j+1):=by rw [rq,Y.o]
      have:=N.o.1.drew;simpa [O.o,e] using this
    .simp [intOf];have:=B.o;omega
  .obtain rfl:j=s.size:=Oo
   have T:s.data.toList.take s.size=s.data.toList:=WU (by rw [XY];exact Le _);rw [T] at aD ⊢;have E:=Hd aD;have C:=Hd aF;clear aD aF;go_wp2;go_ret;refine ⟨A,c,?_,?_,C.o⟩
   .rw [XT];rfl
   .rw [XT];exact E.o
def BoS (a:Bool) (p:Bool) (w:Wd) (e:Ending) (w':Wd):Prop:=(∃ b,e=.returned (.bool b)/\(a=false->b=p))/\Below w.1.size w w'
def Di (s:Bz) (a:Bool) (w:Wd) (c:s.size<=maxLen):Calls prog 389 #[.string s,.bool a] w fun e w'=>(∃ b,e=.returned (.bool b)/\(a=false->b=Xw s))/\w=w':=by
 cases a with
 |false=>exact (sf s w c).mono fun e w' h=>⟨⟨_,h.1,fun _=>rfl⟩,h.2⟩
 |true=>exact (sd s w c).mono fun e w' h=>⟨h.1.imp fun b d=>⟨d,fun h=>by cases h⟩,h.2⟩
def Li {w w':Wd} {A:Option Addr} {c:Nat} {L:List Bz} (h:w'.ownsRow w.1.size 9 1 (.slice A L.length c) L.length (L.map Value.string)):Sl Ug 1 w' w'.1.size A L.length c L:=by
 rw [<-Xt] at h;exact Sl.of_own (f:=Ug) (k:=1) (fun _=>rfl) Ac h
def Qx (s:Bz) (g:Bool) (w:Wd):Calls prog 359 #[.string s,.bool g] w (BoS g (Uw s) w):=by
 by_cases I:s.size<1
 .have q1:decide ((s.size:Int)<1)=true:=QQ Oo;go_wp2;go_ret;exact ⟨⟨_,rfl,fun _=>by unfold Uw;rw [QW Oo];simp⟩,Bf _ _⟩
 .have q1:decide ((s.size:Int)<1)=false:=QW Oo;by_cases M:31<s.size
  .have q2:decide ((31:Int)<(s.size:Int))=true:=QQ Oo;go_wp2;go_ret;exact ⟨⟨_,rfl,fun _=>by unfold Uw;rw [QW (show ¬ s.size<=31 from Oo)];simp⟩,Bf _ _⟩
  .have q2:decide ((31:Int)<(s.size:Int))=false:=QW Oo;have m:Aw (Uw s=(pcs s).all Xw):=Hd (by unfold Uw;rw [QQ Oo,QQ Oo];rfl);have H:=Hd (Ej s w Oo);have G:Aw (∀ q∈pcs s,q.size<=maxLen):=Hd fun q K=>by have:=FH K;unfold maxLen;omega
   have i7:(pcs s).length<=1000:=by have:=Jz s;have:=Ed s;omega
   clear I M;go_in;go_wp2_with (go_at_call 299;refine H.o.mono ?_;rintro e O ⟨A,c,rfl,E,d⟩;have l:=Hd (Li E);have B:=Hd d;clear E d);obtain ⟨L,D⟩:=yG (pcs s);rw [D] at m G l i7 ⊢;clear D H;obtain ⟨n,F⟩:=yH L.length;rw [F.o] at l i7 ⊢;go_loop [6] (fun i=>∃ j:Nat,j<=n/\i=.int .i64 j/\∀ t,t<j->∀ x,L[t]? =some x->g=false->Xw x=true) (fun i=>n-(intOf i).toNat)
   .exact ⟨0,Z0 _,rfl,fun t h=>absurd h Oo⟩
   .obtain ⟨j,hj,rfl,hall⟩:=hrel;have C:=Hd hall;clear hall;by_cases p:j<n
    .obtain ⟨b,o,x,rfl,d,hg,aB⟩:=Sl.cell (f:=Ug) (k:=1) (fun _=>rfl) l.o p;have P:=aB 0 _ rfl;simp only [QF,WY] at P;have v:=Hd hg;have u:=Hd p;have J:=Hd (Di x g O (G.o x (QJ hg)));clear hg aB d;go_wp2_with (go_at_call 389;refine J.o.mono ?_;rintro e Q ⟨⟨z,rfl,hz⟩,rfl⟩;have a:=Hd hz;clear hz;cases z)
     .go_ret;exact ⟨⟨_,rfl,fun h=>by rw [m.o];exact (Q0 v.o (a.o h).symm).symm⟩,B.o⟩
     .go_round
      .exact ⟨j+1,by have:=u.o;omega,Au,fun t r y hy h=>by
       by_cases e:t=j
       .subst e;rw [v.o] at hy;injection hy with hy;subst hy;exact (a.o h).symm
       .exact C.o t Oo y hy h⟩
      .simp [intOf];have:=u.o;omega
    .obtain rfl:j=n:=Oo
     go_wp2;go_ret;exact ⟨⟨_,rfl,fun h=>by rw [m.o];exact (L0 F.o fun t r x N=>C.o t r x N h).symm⟩,B.o⟩
def Is (s:Bz) (w:Wd):Calls prog 293 #[.string s] w (Ab w (.bool (Uw s))):=by
 have a:=Hd (Qx s false w);go_in;go_wp2_with (go_at_call 359;refine a.o.mono ?_;rintro e c ⟨⟨z,rfl,hz⟩,b⟩);go_ret;exact ⟨by first|rfl|(rw [<-hz rfl];rfl),b⟩
def Rp (s:Bz) (w:Wd):Calls prog 300 #[.string s] w fun e w'=>(∃ b,e=.returned (.bool b))/\Below w.1.size w w':=by
 have a:=Hd (Qx s true w);go_in;go_wp2_with (go_at_call 359;refine a.o.mono ?_;rintro e d ⟨⟨z,rfl,hz⟩,c⟩);go_ret;exact ⟨⟨_,rfl⟩,c⟩
def pG {G:Prop} (h:G:=by
  go_wp2;go_ret;exact ⟨rfl,rfl⟩):G:=h
def Nj (s:Bz) (w:Wd):Calls prog 307 #[.string s] w (Ae w (.int .i64 (Ez s))):=by
 obtain ⟨R,a⟩:=yG (Ez s);rw [a];unfold Ez at a;by_cases o:s.size=8
 .rw [QX (by simpa using o)] at a;have E:0<s.size:=Oo
  obtain ⟨b,r⟩:=yG ((s[0]).toNat);have x:bAt s 0=b:=by rw [Vs s 0 E,r]
  have H:=(s[0]).toNat_lt;rw [r] at H;rw [x] at a;clear x;have t:((s.size:Int) != 8)=false:=As
  by_cases g:b=71
  .rw [QX (by simpa using g)] at a;rw [o] at a;have hz:=MF (s.extract 5 8) v00;rw [show v00.toList=[86,48,48] from by rw [Vb];rfl] at hz;by_cases d:s.extract 5 8=v00
   .rw [QX (by simpa using d)] at a;have D:=Hd a;clear a;rw [QQ d] at hz;subst g;have K:=Hd d;clear d;go_wp2;clear r hz;go_loop [3,4] (fun n i=>∃ (j f:Nat) (m:Int),j+f=5/\1<=j/\0<=m/\m<10 ^ j/\n=.int .i64 m/\i=.int .i64 j/\Ou s f j m=R) (fun _ i=>5-(intOf i).toNat)
    .exact ⟨1,4,0,rfl,Le _,Oo,Ac,rfl,rfl,D.o⟩
    .obtain ⟨j,f,m,hj,j1,m0,m1,rfl,rfl,aG⟩:=hrel
     match f,hj,aG with
     |0,hj,aG=>
      obtain rfl:j=5:=Oo
      have k:=Hd aG;clear aG;go_wp2;go_ret;exact ⟨by rw [<-k.o];rfl,rfl⟩
     |f+1,hj,aG=>
      have C:j<s.size:=Oo
      have I:j<5:=Oo
      obtain ⟨c,A⟩:=yG ((s[j]).toNat);have z:bAt s j=c:=by rw [Vs s j C,A]
      have u:=(s[j]).toNat_lt;rw [A] at u;unfold Ou at aG;rw [z] at aG;clear z;obtain ⟨p,l⟩:=yG (dgB (c:Int));have v:=Hd (fun W=>Em (c:Int) W);simp only [l] at v;rw [l] at aG
      have y:(10:Int) ^ j<=10000:=by
       have:j<=4:=Oo
       match j,this with
       |0,_=>decide
       |1,_=>decide
       |2,_=>decide
       |3,_=>decide
       |4,_=>decide
      cases p with
      |false=>
       have k:=Hd aG;clear aG l;go_wp2_with (go_at_call 362;refine yE (v.o _) ?_);go_ret;exact ⟨by rw [<-k.o];rfl,rfl⟩
      |true=>
       simp [dgB] at l;have k:=Hd aG;have J:IntKind.u8.wrap ((c:Int)-48)=(c:Int)-48:=by rw [ZX];omega
       have B:=Hd hj;have e:10*m+((c:Int)-48)<10 ^ (j+1):=by rw [IV];omega
       have q:=Hd e;clear aG hj e;go_wp2_with (go_at_call 362;refine yE (v.o _) ?_)
       go_round
       .exact ⟨j+1,f,10*m+((c:Int)-48),by have:=B.o;omega,Oo,Oo,q.o,Au,Au,by have:=k.o;simpa using this⟩
       .exact At
   .rw [QK (by simpa using d)] at a;rw [QW d] at hz;subst g;clear d;subst a;exact pG
  .rw [QK (by simpa using g)] at a;have F:((b:Int) != 71)=true:=As
   subst a;clear g;exact pG
 .rw [QK (by simpa using o)] at a;have t:((s.size:Int) != 8)=true:=As
  subst a;clear o;exact pG
def mL {G:Prop} (h:G:=by
  clear hv;go_in;go_wp2_with (go_at_call 293;refine yP HV.o fun w2 hb=>?_);go_ret;exact ⟨by rw [HG.o];rfl,hb⟩):G:=h
def LD (s:Bz) (w:Wd):Calls prog 297 #[.string s] w (Ab w (.bool (Vt s))):=by
 have HV:=Hd (Is s w);cases hv:Uw s with
 |false=>
  rw [hv] at HV;have HG:Aw (Vt s=false):=Hd (by unfold Vt;rw [hv];simp);exact mL
 |true=>
  rw [hv] at HV;by_cases F:22<s.size
  .have q2:decide ((22:Int)<(s.size:Int))=true:=QQ Oo;have HG:Aw (Vt s=false):=Hd (by unfold Vt;rw [QW (show ¬ s.size<=22 from Oo)];simp);exact mL
  .have q2:decide ((22:Int)<(s.size:Int))=false:=QW Oo;have HG:Aw (Vt s = !(pcs s).any fun q=>decide (0<Ez q)):=Hd (by unfold Vt;rw [hv,QQ (show s.size<=22 from Oo)];rfl);have D:=Hd fun W=>Ej s W Oo
   have i7:(pcs s).length<=1000:=by have:=Jz s;have:=Ed s;omega
   clear hv F;go_in;go_wp2_with (first|(go_at_call 293;refine yN HV.o fun I l=>?_)|(go_at_call 299;refine (D.o _).mono ?_;rintro e w2 ⟨A,c,rfl,B,hb⟩;have d:=Hd (Li B);have u:=Hd (l.o.trans (hb.mono l.o.size));clear B hb));obtain ⟨L,z⟩:=yG (pcs s);rw [z] at HG d i7 ⊢;clear z D;obtain ⟨n,C⟩:=yH L.length;rw [C.o] at d i7 ⊢;go_loop [4] (fun i=>∃ j:Nat,j<=n/\i=.int .i64 j/\∀ t,t<j->∀ x,L[t]? =some x->(fun q => !decide (0<Ez q)) x=true) (fun i=>n-(intOf i).toNat)
   .exact ⟨0,Z0 _,rfl,fun t h=>absurd h Oo⟩
   .obtain ⟨j,hj,rfl,hall⟩:=hrel;have v:=Hd hall;clear hall;have a:Aw (Vt s=L.all fun q => !decide (0<Ez q)):=Hd (by rw [HG.o,List.not_any_eq_all_not]);by_cases m:j<n
    .obtain ⟨b,o,x,rfl,hb,hg,aB⟩:=Sl.cell (f:=Ug) (k:=1) (fun _=>rfl) d.o m;have H:=aB 0 _ rfl;simp only [QF,WY] at H;have E:=Hd hg;have p:=Hd m;have r:=Hd (Nj x w2);clear hg aB hb;cases hz:decide (0<Ez x) with
     |true=>
      have g:=Hd hz;go_wp2_with (go_at_call 307;refine yE r.o ?_);go_ret;exact ⟨by rw [a.o,Q0 E.o (by rw [g.o];rfl)];rfl,u.o⟩
     |false=>
      have g:=Hd hz;go_wp2_with (go_at_call 307;refine yE r.o ?_)
      go_round
      .exact ⟨j+1,by have:=p.o;omega,Au,fun t J y hy=>by
       by_cases e:t=j
       .subst e;rw [E.o] at hy;injection hy with hy;subst hy;rw [g.o];rfl
       .exact v.o t Oo y hy⟩
      .simp [intOf];have:=p.o;omega
    .obtain rfl:j=n:=Oo
     go_wp2;go_ret;exact ⟨by rw [a.o,L0 C.o v.o];rfl,u.o⟩
def joinB:List Bz->Bz
 | []=>⟨#[]⟩
 |a::r=>joinF a r
where joinF (a:Bz):List Bz->Bz
 | []=>a
 |b::r=>joinF (a ++ ⟨#[46]⟩++b) r
def Mc:∀ (r:List Bz) (a b:Bz),joinB.joinF a (r++[b])=joinB.joinF a r ++ ⟨#[46]⟩++b
 | [],_,_=>rfl
 |_::r,_,b=>Mc r _ b
def Wh {l:List Bz} (h:l≠[]) (b:Bz):joinB (l++[b])=joinB l ++ ⟨#[46]⟩++b:=by
 cases l with
 |nil=>exact absurd rfl h
 |cons a r=>exact Mc r a b
def Md:∀ (r:List Bz) (a:Bz),(joinB.joinF a r).data.toList=Kj (a.data.toList::r.map (·.data.toList))
 | [],_=>rfl
 |b::r,a=>by
  show (joinB.joinF (a ++ ⟨#[46]⟩++b) r).data.toList=_;rw [Md r];cases r with
  |nil=>simp [Kj,KO]
  |cons c r=>simp [Kj,KO]
def Wm (l:List Bz):(joinB l).data.toList=Kj (l.map (·.data.toList)):=by
 cases l with
 |nil=>rfl
 |cons a r=>exact Md r a
def tD {l:List Bz} {j:Nat} {x:Bz} (h:l[j]? =some x):l.take (j+1)=l.take j++[x]:=by
 rw [YG,h];rfl
def Dl (A:Option Addr) (n c:Nat) (l:List Bz) (w:Wd) (r:Sl Ug 1 w w.1.size A n c l) (hn:n<=1000) (hz:∀ j,(joinB (l.take j)).size<=100000) (D:∀ x∈l,x.size<=100000):
  Calls prog 306 #[.slice A n c] w (Ae w (.string (joinB l))):=by
 have H:=Hd r;have B:=Hd r.len;have J:=Hd D;have I:=Hd hz;clear r D hz;go_wp2;go_loop [3,4] (fun s i=>∃ j:Nat,j<=n/\i=.int .i64 j/\s=.string (joinB (l.take j))) (fun _ i=>n-(intOf i).toNat)
 .exact ⟨0,Z0 _,rfl,rfl⟩
 .obtain ⟨j,hj,rfl,rfl⟩:=hrel;by_cases v:j<n
  .obtain ⟨b,o,x,rfl,hb,hg,aB⟩:=Sl.cell (f:=Ug) (k:=1) (fun _=>rfl) H.o v;have E:=aB 0 _ rfl;simp only [QF,WY] at E;have p:=I.o j;have G:=J.o x (QJ hg);have e:=tD hg;have g:=Hd v;have a:=fun h:l.take j≠[]=>Wh h x
   rw [<-e] at a;obtain ⟨q,m⟩:=yG (joinB (l.take j));rw [m] at p a ⊢;clear hb aB;by_cases u:j=0
   .subst u;rw [QF] at E;have z:q=⟨#[]⟩:=by rw [<-m];rfl
    have d:joinB (l.take (0+1))=q++x:=by rw [e,z];show x=_;rw [show (⟨#[]⟩:Bz)=ByteArray.empty from rfl,ByteArray.empty_append]
    have t:=Hd d;have F:q.size+x.size<=9223372036854775807:=Oo
    clear hg e a m z d;go_wp2
    go_round
    .exact ⟨1,by have:=g.o;omega,rfl,by rw [t.o]⟩
    .simp [intOf];have:=g.o;omega
   .have d:joinB (l.take (j+1))=q ++ ⟨#[46]⟩++x:=a (fun h=>by
     have C:=XK List.length h;rw [WX,B.o] at C;simp at C;omega)
    have t:=Hd d;have K:decide ((0:Int)<(j:Int))=true:=QQ Oo;have F:q.size+1<=9223372036854775807:=Oo
    have y:q.size+1+x.size<=9223372036854775807:=Oo
    clear hg e a m d;go_wp2
    go_round
    .exact ⟨j+1,by have:=g.o;omega,Au,by rw [t.o]⟩
    .simp [intOf];have:=g.o;omega
  .obtain rfl:j=n:=Oo
   go_wp2;go_ret;exact ⟨by rw [WU (by rw [B.o];exact Le _)];rfl,rfl⟩
def AR (c:UInt8) (r:List UInt8):∃ h t,Xi r=h::t/\Xi (c::r)=if c=46 then []::h::t else (c::h)::t:=by
 cases a:Xi r with
 |nil=>exact absurd a (Cx r)
 |cons h t=>
  refine ⟨h,t,rfl,?_⟩
  conv=>lhs;unfold Xi
  rw [a]
def SH (b:List UInt8):∀ a:List UInt8,Xi (a++46::b)=Xi a++Xi b
 | []=>by
  obtain ⟨h,t,e,d⟩:=AR 46 b;rw [YN,d,QK rfl,e];rfl
 |c::r=>by
  have f:=SH b r;obtain ⟨h,t,e,d⟩:=AR c r;obtain ⟨j,k,i,g⟩:=AR c (r++46::b);rw [i,e,KE] at f;injection f with e1 e2
  rw [KE,g,d,e1,e2];split<;>rfl
def mu {s:Bz} {j:Nat} {x:UInt8} (h:s.data.toList[j]? =some x):s.data[j]! =x:=by
 rw [YI] at h;rw [getElem!_def,h]
def N8 (s:Bz) (k:Nat):(s.extract k s.size).data.toList=s.data.toList.drop k:=by
 rw [ByteArray.data_extract,Array.toList_extract,List.extract_eq_take_drop];exact WU (by rw [XD,XY];exact Le _)
def zI (q:List Bz) (z:Bz):Bz×Int×Bool:=if Ez z=0\/Vt (joinB q)=false then (⟨#[]⟩,0,false) else (joinB q,Ez z,true)
def Oq:Vt ⟨#[]⟩=false:=by
 unfold Vt Uw;rw [QW (show ¬ 1<=(⟨#[]⟩:Bz).size from Ac)];simp
def oE {s z:Bz} {q:List Bz} (h:pcs s=q++[z]):zI q z=Xy s:=by
 have c:=Hm s;rw [h,XM] at c;unfold Xy;rcases Lib.lastIndexByte_spec s 46 with ⟨m,g⟩|⟨i,m,g,u,r⟩
 .have hs:Ld s = -1:=m;rw [hs,QK Ac]
  have l:(46:UInt8) ∉ s.data.toList:=fun f=>by
   obtain ⟨j,a⟩:=ZA f;have b:=(QZ.1 a).1;rw [XY] at b;exact g j b (by rw [mu a];rfl)
  rw [Hy l] at c
  have k:q=[]:=by
   have:=XK List.length c;rw [WW,XT] at this;simp only [XT,QS,XS] at this;exact QA Oo
  unfold zI;rw [k,QK (.inr Oq)]
 .have hs:Ld s=i:=g;rw [hs,QX Oo,XO]
  have t:s.data.toList=(s.extract 0 i).data.toList++46::(s.extract (i+1) s.size).data.toList:=by
   have o:i<s.data.toList.length:=by rw [XY];exact m
   have p:s.data.toList[i]=46:=by
    have:=mu (QV o);rw [this] at u;refine VV.1 ?_;show (s.data.toList[i]).toNat=46;omega
   rw [N8,Lib.extract_from_zero]
   conv=>lhs;rw [<-ZS i s.data.toList,QO o,p]
  have l:(46:UInt8) ∉ (s.extract (i+1) s.size).data.toList:=fun f=>by
   rw [N8] at f;obtain ⟨j,a⟩:=ZA f;rw [YF] at a;have b:=(QZ.1 a).1;rw [XY] at b;exact r _ Oo b (by rw [mu a];rfl)
  rw [t,SH,Hy l] at c;have n:=List.append_inj' c rfl
  have hz:z=s.extract (i+1) s.size:=by
   have:=n.2;simp only [WS,KN,List.cons.injEq,and_true] at this;apply KZ;exact UQ.1 this
  have k:joinB q=s.extract 0 i:=by
   apply KZ;apply UQ.1;rw [Wm,n.1,(Ib _).1]
  unfold zI;rw [k,<-hz];by_cases e:Vt (s.extract 0 i)=false
  .rw [QK (.inr e),QK e]
  .rw [QX e];by_cases d:Ez z=0
   .rw [QK (.inl d),QK d]
   .rw [QX (fun h=>h.elim d e),QX d]
def Sl.upto {α:Type} {f:α->List Value} {k:Nat} {w:Wd} {B n c m:Nat} {A:Option Addr} {l:List α} (d:∀ x,(f x).length=k) (h:Sl f k w B A n c l) (s:m<=n):Sl f k w B A m c (l.take m):=by
 have r:=h.len;have t:=h.cap;refine ⟨Oo,by rw [WX];omega,by rw [Vm d,WX,ZI Oo],fun q=>?_⟩;obtain ⟨b,o,e,g,i⟩:=h.rd.2 Oo;refine ⟨b,o,e,g,fun j u a=>i j u ?_⟩;rw [<-Zf d] at a;have p:=(QZ.1 a).1;rw [WX] at p
 rwa [VB Oo] at a
def Wj:∀ (l:List Bz) (m:Nat),(∀ x∈l,x.size<=m)->(joinB l).size<=l.length*(m+1)
 | [],_,_=>Z0 _
 |a::r,m,h=>by
  have c:∀ (r:List Bz) (a:Bz) (z:Nat),a.size<=z->(∀ x∈r,x.size<=m)->(joinB.joinF a r).size<=z+r.length*(m+1):=by
   intro r;induction r with
   |nil=>intro a z e _;show a.size<=_;simp;exact e
   |cons b r g=>
    intro a z e f;have i:=g (a ++ ⟨#[46]⟩++b) (z+(m+1)) (by rw [QY,QY];have:=f b QP;show a.size+1+b.size<=_;omega) (fun x d=>f x (QN _ d));show (joinB.joinF (a ++ ⟨#[46]⟩++b) r).size<=_;rw [QS,ZH];omega
  have:=c r a m (h a QP) (fun x d=>h x (QN _ d));show (joinB.joinF a r).size<=_;rw [QS,ZH];omega
def mK {G:Prop} (h:G:=by
  rw [hg] at eH;clear hg h0;go_wp2_with (go_at_call 297;refine yP eH.o fun w3 hb=>?_;have bD:=Hd (HBD.o.trans (hb.mono HBD.o.size));clear hb);refine Br (JS results230 _ _ _) rfl ?_;exact ⟨rfl,bD.o⟩):G:=h
def Lo (s:Bz) (w:Wd) (Z:s.size<=300):Calls prog 230 #[.string s] w (Ab w (.tuple #[.string (Xy s).1,.int .i64 (Xy s).2.1,.bool (Xy s).2.2])):=by
 obtain ⟨q,z,l⟩:∃ q z,pcs s=q++[z]:=by
  have X:pcs s≠[]:=fun h=>by have:=Jz s;rw [h] at this;simp at this
  exact ⟨(pcs s).dropLast,(pcs s).getLast X,(VI X).symm⟩
 rw [<-oE l];obtain ⟨R,n⟩:=yH (zI q z);rw [n.o];have M:=Hd (Ej s w Oo);have E:∀ x∈pcs s,x.size<=300:=fun x D=>Lx (FH D) Z
 have F:=Jz s;have J:=Ed s;rw [l] at M E F;obtain ⟨K,d⟩:=yG q.length;have H:(q++[z]).length=K+1:=by simp [d]
 rw [H] at F;have hKb:K<=300:=Oo
 have v:∀ j,(joinB (q.take j)).size<=100000:=fun j=>by
  have B:=Wj (q.take j) 300 (fun x D=>E x (YJ _ (XA D)));have P:(q.take j).length<=300:=by rw [WX];omega
  have h3:(q.take j).length*301<=300*301:=JQ _ P;omega
 have r:=Hd E;clear E F J l;go_in;go_wp2_with (go_at_call 299;refine M.o.mono ?_;rintro e p ⟨A,c,rfl,U,hb⟩;have I:=Hd (Li U);have Y:=Hd hb;clear U hb);rw [H] at I;have g:=Hd (I.o.drew)
 have t:Sl Ug 1 p.drew p.drew.1.size A K c q:=by
  have:=Sl.upto (f:=Ug) (k:=1) (m:=K) (fun _=>rfl) g.o Oo;rw [List.take_append_of_le_length Oo,WU Oo] at this;exact this
 have O:=Hd (Dl A K c q p.drew t Oo v (fun x D=>Lx (r.o x (YJ _ D)) Ac));have Q:=Hd (Nj z p.drew);obtain ⟨b,o,x,rfl,hb,hg,T⟩:=Sl.cell (f:=Ug) (k:=1) (fun _=>rfl) g.o (i:=K) Oo
 obtain rfl:x=z:=by
  rw [ZJ Oo,d] at hg;simp at hg;exact hg.symm
 have L:=T 0 _ rfl;simp only [QF,WY] at L;have hw:IntKind.i64.wrap (K:Int)=(K:Int):=QL _ Oo;have V:¬ ((K:Int)+1<=(K:Int)):=Oo
 have u:Aw (K<=c):=Hd (by have:=g.o.cap;omega);have eH:=Hd (LD (joinB q) p.drew);clear hg T hb M H d v t I;have HBD:=Hd Y.o.drew;refine Rw (S:=fun W=>W=p.drew) Ak rfl (fun a=>?_);refine tk 0 (.slice (Ah b o) (K+1) c) a ?_;refine tk 1 (.slice (Ah b o) (K+1) c) a ?_;refine tk 2 (.int .i64 ((K+1:Nat):Int)) a ?_;refine tk 3 (.int .i64 K) a ?_ (y:=by exact WL ⟨Af,by intro w' C;have B:=hw;go_simp⟩);refine tk 4 (.slice (Ah b o) K c) a ?_ (y:=by exact WL ⟨Af,by intro w' C;have B:=hw;have P:=u.o;go_simp⟩);refine tk 6 (.slice (Ah b o) (K+1) c) a ?_;refine tk 7 (.slice (Ah b o) (K+1) c) a ?_;refine tk 8 (.int .i64 ((K+1:Nat):Int)) a ?_
 refine tk 9 (.int .i64 K) a ?_ (y:=by exact WL ⟨Af,by intro w' C;have B:=hw;go_simp⟩);refine tk 10 (Ag b (o+K)) a ?_ (y:=by exact WL ⟨Af,by intro w' C;have B:=V;go_simp⟩);refine tk 11 (.string x) a ?_ (y:=by exact WL ⟨Af,by intro w' C;subst C;have B:=L;go_simp⟩);refine Aq [5] ?_;refine Rc (fun N d=>?_) An;go_simp;refine yE O.o ?_;simp only [];refine d.out _ _ rfl (fun a=>?_);clear d N;try simp only [Act.put,Sv,Sz,Sw]
 refine Aq [12] ?_;refine Rc (fun N d=>?_) An;go_simp;refine yE Q.o ?_;simp only [];refine d.out _ _ rfl (fun a=>?_);clear d N;try simp only [Act.put,Sv,Sz,Sw]
 refine tk 13 (.string (joinB q)) a ?_;refine tk 14 (.int .i64 (Ez x)) a ?_;refine Ad Ak ?_ _;clear a L hw V O Q u g r;unfold zI at n;generalize Ez x=m at n ⊢;by_cases h0:m=0
 .obtain rfl:R=(⟨#[]⟩,0,false):=by rw [<-n.o,QK (.inl h0)]
  subst h0;go_wp2;refine Br (JS results230 _ _ _) rfl ?_;exact ⟨rfl,HBD.o⟩
 .have e0:(m == 0)=false:=by simpa using h0
  cases hg:Vt (joinB q) with
  |false=>
   obtain rfl:R=(⟨#[]⟩,0,false):=by rw [<-n.o,QK (.inr hg)]
   exact mK
  |true=>
   obtain rfl:R=(joinB q,m,true):=by rw [<-n.o,QX (fun h=>h.elim h0 (fun h=>by rw [hg] at h;cases h))]
   exact mK
def QI (n:Int) (w:Wd):Calls prog 360 #[.int .i64 n] w (Ae w (.bool (Uo n 0 1099511627776))):=by
 unfold Uo;cases a:decide ((0:Int)<=n)<;>cases b:decide (n<=(1099511627776:Int))
 all_goals
  go_wp2;go_ret;exact ⟨rfl,rfl⟩
def LB (n:Int) (w:Wd):Calls prog 301 #[.int .i64 n] w (Ae w (.bool (Uo n 0 3))):=by
 unfold Uo;cases a:decide ((0:Int)<=n)<;>cases b:decide (n<=(3:Int))
 all_goals
  go_wp2;go_ret;exact ⟨rfl,rfl⟩
def LJ (n:Int) (w:Wd):Calls prog 296 #[.int .i64 n] w (Ae w (.bool (Uo n 0 65536))):=by
 unfold Uo;cases a:decide ((0:Int)<=n)<;>cases b:decide (n<=(65536:Int))
 all_goals
  go_wp2;go_ret;exact ⟨rfl,rfl⟩
def mJ {G:Prop} (h:G:=by
  go_in;go_wp2_with (first|(go_at_call 293;refine yN HV.o fun w2 HB=>?_)|(go_at_call 299;refine (HP.o _).mono ?_;rintro e w3 ⟨A,c,rfl,_,hb⟩;have bD:=Hd (HB.o.trans (hb.mono HB.o.size));clear hb));go_ret;exact ⟨rfl,bD.o⟩):G:=h
def Nf (s:Bz) (w:Wd):Calls prog 361 #[.string s] w (Ab w (.bool (EU s))):=by
 rw [Q8];have HV:=Hd (Is s w);cases a:Uw s with
 |false=>
  rw [a] at HV;clear a;go_in;go_wp2_with (go_at_call 293;refine yP HV.o fun w2 hb=>?_);go_ret;exact ⟨rfl,hb⟩
 |true=>
  rw [a] at HV;have hz:=Gx (k:=0) (s:=s) (by unfold M8;rw [QK rfl];exact a);have HP:=Hd fun W=>Ej s W Oo
  clear a hz;generalize pcs s=L at HP ⊢;have d:(((L.length:Nat):Int) == 1)=decide (L.length=1):=by rw [XW];simp;omega
  cases b:decide (L.length=1) with
  |false=>
   rw [b] at d;clear b;exact mJ
  |true=>
   have f:L.length=1:=ZZ b
   obtain ⟨q,rfl⟩:∃ q,L=[q]:=by
    match L,f with
    | [q],_=>exact ⟨q,rfl⟩
   clear b d f;exact mJ
def Ip (s:Bz) (w:Wd):Calls prog 298 #[.string s] w (Ab w (.bool (orW s))):=by
 unfold orW;have c:=Hd (Nf s w);by_cases hn:s.toList=[]
 .obtain rfl:=Fa ((nil_iff s).2 hn);go_wp2;go_ret;exact ⟨by rw [QQ hn];rfl,Bf _ _⟩
 .have h1:(s.toList == [])=false:=by simpa using hn
  have d:s.toList.isEmpty=false:=by cases a:s.toList with
   |nil=>exact absurd a hn
   |cons=>rfl
  rw [QW hn];clear hn;go_in;go_wp2_with (go_at_call 361;refine yP c.o fun e b=>?_);go_ret;exact ⟨rfl,b⟩
end Go.Proofs.YtdleakjejodjjaaGreatDoor
