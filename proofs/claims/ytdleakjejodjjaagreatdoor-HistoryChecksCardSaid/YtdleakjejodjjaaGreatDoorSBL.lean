/- Of the history laws. -/
import Derived.Test.YtdleakjejodjjaaGreatDoorSBJ
import Derived.Test.YtdleakjejodjjaaGreatDoorSBK
namespace Go.Proofs.YtdleakjejodjjaaGreatDoor
open Tryz
set_option linter.defProp false
set_option linter.unusedVariables false
set_option linter.unusedSimpArgs false
set_option maxRecDepth 100000
set_option maxHeartbeats 20000000
open Go.RowKit
structure EOk (e:En):Prop where
 al:e.alts.length<=1000
 gr:e.grants.length<=1000
 nm:e.name.size<=300
 vo:e.d.vol.size<=1000
 ow:e.d.own.size<=1000
 eo:e.owner.size<=1000
 ta:e.target.size<=1000
 gw:∀ g∈e.grants,g.who.size<=1000
abbrev K01 (e:En):Prop:=e.kind=0\/e.kind=1
def UsA.kind {e:En} {a:EnA} (h:UsA e a):e.kind=0\/e.kind=1\/e.kind=2\/e.kind=3\/e.kind=4:=by cases h<;>simp
def BoG (e:En) (w:Wd) (x:Ending) (w':Wd):Prop:=∃ s:Bz,x=.returned (.string s)/\(s.size<=10000000/\(K01 e->s=IM e.kind e))/\Below w.1.size w w'
def SD (e:En) (h:EOk e):(Kn ⟨#[]⟩ e).size<=100000:=by
 have c:=Xu (Eu e.d) 14 (by simp [Eu]);have d:=Xu [e.d.cls] 1 Am;have g:=Xu [e.d.cre,e.d.exp] 2 Am;have a:=Xu [(e.alts.length:Int)] 1 Am;have i:=Xu e.alts 1000 h.al;have j:=Xu [e.used] 1 Am;have b:=Ut e.d.vol;have f:=Ut e.d.own;have:=h.vo;have:=h.ow;rw [<-SE e];simp only [QY,Vr];omega
def Cb (e:En) (h:EOk e):(Pw ⟨#[]⟩ e).size<=100000:=by
 have a:=Xu [e.limit,e.last] 2 Am;have b:=Ut e.owner;have:=h.eo;unfold Pw;simp only [QY,Vr];omega
def Dz {e:En} {a:EnA} (b:e.kind=0\/e.kind=1\/e.kind=2\/e.kind=3\/e.kind=4) (h:EOk e) (w:Wd) (hw:EW [] w e a) (l:K01 e->vQ e=true):Calls prog 229 #[.agg (enC e a).toArray] w (BoG e w):=by
 have d:¬ K01 e->∀ {x:Ending} {w':Wd},LS w x w'->BoG e w x w':=fun hn x w' ⟨s,hz,c,m⟩=>⟨s,c,⟨hz,fun h=>absurd h hn⟩,m⟩
 have j:∀ n:Int,e.kind=n->n≠0->n≠1->¬ K01 e:=fun n hn o f b=>by rcases b with h|h<;>omega
 rcases b with b|b|b|b|b
 .have f:=l (.inl b);unfold vQ MU at f;simp only [b,VY,QU] at f;have k:=AQ f.1.2;have i:=k.n;have P:∀ x:Int,0<=x/\x<=1099511627776->Pv x:=fun x h=>⟨h.1,Oo⟩
  refine (sD b w hw ⟨fun x c=>P x (i x ?_),fun x c=>P x (i x ?_),fun x c=>P x (i x ?_),fun x c=>P x (k.a x c),fun x c=>P x (i x ?_)⟩ h.al h.vo h.ow).mono fun x w' c=>⟨_,c.1,⟨Lx (SD e h) Ac,fun _=>by unfold IM;rw [QK b]⟩,c.2⟩
  all_goals
   simp only [Eu,QH,QM,XP] at c ⊢
   grind
 .have f:=l (.inr b);unfold vQ MU at f;simp only [b,QX (show ¬ (1:Int)=0 from Ac),QU] at f;have g:=f.1.2;unfold GZ at g;simp only [QU] at g;have p:=Eh g.1.1 e.limit Am;have q:=Eh g.1.2 e.last Am;refine (sC b w (fun x c=>?_) h.eo).mono fun x w' c=>⟨_,c.1,⟨Lx (Cb e h) Ac,fun _=>by unfold IM;rw [QX Oo]⟩,c.2⟩
  simp only [QH,QM,XP] at c;rcases c with rfl|rfl
  .exact ⟨Oo,Oo⟩
  .exact ⟨Oo,Oo⟩
 .exact (sB b w h.ta).mono fun x w'=>d (j 2 b Ac Ac)
 .exact (sA b w).mono fun x w'=>d (j 3 b Ac Ac)
 .exact (sy b w hw h.eo h.gr h.gw).mono fun x w'=>d (j 4 b Ac Ac)
def sP (Φ:Bz->Prop) (x:Value) (_:Wd):Prop:=∃ s,x=.string s/\Φ s
def sM {Φ:Bz->Prop} (x:Value) (w w':Wd) (_:Rb w w') (h:sP Φ x w):sP Φ x w':=h
def EnG (e:En) (w:Wd) (x:Ending) (w':Wd):Prop:=∃ (s:Bz) (f:Int),x=.returned (.tuple #[.string s,.int .i64 f])/\s.size<=20000000/\(K01 e->(f=0/\Z2 e=some s)\/(f=1/\Z2 e=none/\s=⟨#[]⟩))/\Below w.1.size w w'
def BY (L:Int) (a:Bz):(Jb L a).size<=100:=by
 unfold Jb;split
 .decide
 .have h:=JL [32] (31-a.size);rw [QY,QY,WD]
  have b:(⟨(Lib.repeatL [32] (31-a.size)).toArray⟩:Bz).size=31-a.size:=by
   show (Lib.repeatL [32] (31-a.size)).toArray.size=_;rw [YZ,h];simp
  rw [b];simp only [QS,XS];omega
def LH {e:En} {a:EnA} (j:UsA e a) (h:EOk e) (w:Wd) (hw:EW [] w e a):Calls prog 177 #[.agg (enC e a).toArray] w (EnG e w):=by
 have E:=Hd fun W d=>Ks j W (hw.below (w':=W) d) h.al h.gr h.nm
 have A:=Hd fun (o:K01 e->vQ e=true) W d=>Dz j.kind h W (hw.below (w':=W) d) o
 have D:=Hd fun W=>yd (k:=e.kind) (by rcases j.kind with h|h|h|h|h<;>omega) (by rcases j.kind with h|h|h|h|h<;>omega) e.name W
 have y:=Hd (BY (F1 e.kind) e.name)
 have C:Aw (K01 e->F1 e.kind=if e.kind=0 then 68 else 71):=Hd fun c=>by
  rcases c with c|c<;>rw [c]<;>rfl
 have q:=Hd (VX.new e a w);clear j h hw;go_in;go_wp2_with (first|(with_reducible refine yL 144 1 q.o.b ?_)|(go_at_call 227;refine (E.o _ q.o.be).mono ?_;rintro x J ⟨⟨b,rfl,o⟩,d⟩;have r:=Hd (q.o.next d);have u:=Hd o;clear d o;cases b))
 .refine Br (YP results177 _ _ _) rfl ?_;refine ⟨⟨#[]⟩,1,rfl,Ac,fun c=>.inr ⟨rfl,?_,rfl⟩,r.o.be⟩;unfold Z2;rw [QX];rw [<-u.o c];exact ZP
 .have HQ:Aw (K01 e->vQ e=true):=Hd fun c=>(u.o c).symm
  apply WzR (S:=VX e a w) (R:=Rb) (r.o.next (Bf _ _).drew) (fun _ _ h d=>h.next d);apply xA (v:=_);apply xl (.int .i64 e.kind) (fun W h=>h.c 0 _ rfl);apply xA (v:=_);apply xl (.string e.name) (fun W h=>h.c 1 _ rfl);apply xc (f:=228) (v:=.string (Jb (F1 e.kind) e.name)) (fun W h g=>D.o W);apply xr (fun W h=>h.b) underlying144;apply xk (p:=sP fun s=>s.size<=10000000/\(K01 e->s=IM e.kind e)) sM (fun W h g=>(A.o HQ.o W h.be).mono fun x w' ⟨s,t,n,d⟩=>⟨_,t,⟨s,rfl,n⟩,d⟩);intro I
  apply xz (sP fun s=>s.size<=20000000/\(K01 e->Z2 e=some s)) sM (fun W h g=>by
   obtain ⟨s,t,n,m⟩:=xf 0 g;subst t;refine ⟨_,CJ rfl rfl rfl (by have:=y.o;omega) W,_,rfl,by have:=y.o;rw [QY];omega,fun c=>?_⟩;unfold Z2;rw [QK (HQ.o c),<-C.o c,m c])
  intro F
  apply xz (sP fun s=>s.size<=20000000/\(K01 e->Z2 e=some s)) sM (fun W h g=>by
   have n:=xf 0 g;exact ⟨F,rfl,n⟩)
  intro H;apply xA (v:=_);refine xn fun G l g=>?_
  obtain ⟨s,rfl,B,m⟩:=g _ (QJ (i:=0) rfl);have z:=Hd (And.intro B (And.intro m l.be));clear l B m g q r u HQ y C A E D;go_wp2;refine Br (YP results177 _ _ _) rfl ?_;exact ⟨s,0,rfl,z.o.1,fun c=>.inl ⟨rfl,z.o.2.1 c⟩,z.o.2.2⟩
def Rj (a b:Bool) (x:Bz) (w:Wd) (i:x.size<=2000):Calls prog 358 #[.agg (sgC a b x).toArray] w (SzG (4+x.size) w):=by
 have d:=Hd (((Bf w.1.size w).alloc (Le _) (.cells (sgC a b x).toArray 323)));have c:=Hd (Blk.new w 323 (sgC a b x).toArray);have h:=c.ce 0 (.bool a);have c1:=c.ce 1 (.bool b);have c2:=c.ce 2 (.string x);have c3:∀ o,((Aa w (sgC a b x).toArray 323).alloc o).cell? ⟨w.1.size,2,none⟩=some (.string x):=fun o=>((c.alloc o).cell 2).trans rfl
 have g:=fun p q r:Int=>Y8 ((Aa w (sgC a b x).toArray 323).alloc (.cells #[.int .u8 p,.int .u8 q,.int .u8 r,.int .u8 0] 5)) (w.1.size+1) 4 4 5 [p,q,r,0] (U3 (w.alloc _) _ _ _ Am) rfl
 have f:∀ p q r:Int,¬ (9223372036854775807<(strOfNums [p,q,r,0]).size+x.size):=fun p q r=>by rw [WD];simp;omega
 have e:Aw (∀ p q r:Int,(strOfNums [p,q,r,0]).size=4):=Hd fun p q r=>by rw [WD];rfl
 cases a<;>cases b
 all_goals
  go_wp2;go_ret;exact ⟨_,rfl,by rw [QY,e.o],d.alloc d.size _⟩
def G5 (b:Int) (s:Bz):Prop:=s.size=0\/(4<=s.size/\(s.size:Int)<=b)
def TO (a b:Bool) (y x:Bz) (w:Wd) (u:x.size<=2000) (hy:G5 2000 y):Calls prog 289 #[.string y,.agg (sgC a b x).toArray] w (SzG (max 4 y.size+4+x.size) w):=by
 have j:=Hd (((Bf w.1.size w).alloc (Le _) (.cells (sgC a b x).toArray 323)));have n:=Hd (Blk.new w 323 (sgC a b x).toArray);have m:=Hd fun W=>Rj a b x W u
 rcases hy with l|⟨s,B⟩
 .have hE:=AH l;obtain ⟨v,t⟩:=hE;have o:=Hd l;go_in;go_wp2_with (first|(with_reducible refine yL 323 3 n.o ?_)|(go_at_call 358;refine (m.o _).mono ?_;rintro e z ⟨f,rfl,h,c⟩;have g:=Hd h;have i:=Hd (j.o.trans (c.mono j.o.size));have hw:=Z9 (4+(f.size:Int));have q:¬ (9223372036854775807<(Fh (4+(f.size:Int))).size+f.size):=Oo;clear c h)|(go_at_call 288;refine yP (Jx _ _ (by have:=g.o;omega) (by have:=g.o;omega)) fun p c=>?_;have k:=Hd (i.o.trans (c.mono i.o.size));clear c));go_ret;exact ⟨_,rfl,by have:=g.o;have:=o.o;rw [QY,Z9];omega,k.o⟩
 .have hF:=I4 (d:=y) Oo;obtain ⟨v,t⟩:=hF;have r:=Hd s;go_in;go_wp2_with (first|(with_reducible refine yL 323 3 n.o ?_)|(go_at_call 358;refine (m.o _).mono ?_;rintro e z ⟨f,rfl,h,c⟩;have g:=Hd h;have i:=Hd (j.o.trans (c.mono j.o.size));have A:f.size<=2100:=Oo;clear c h)|(go_at_call 288;refine yP (Jx _ _ Oo Oo) fun p c=>?_;have k:=Hd (i.o.trans (c.mono i.o.size));have q:¬ (9223372036854775807<(Fh (4+(((y.size-4:Nat):Int)+(f.size:Int)))).size+(y.extract 4 y.size++f).size):=(by rw [Z9,QY,XZ];omega);clear c));go_ret;exact ⟨_,rfl,by have:=g.o;have:=r.o;rw [QY,Z9,QY,XZ];omega,k.o⟩
def Hn (w:Wd):(Aa w #[] 9).ownsRow w.1.size 9 1 (.slice (Ah w.1.size 0) 0 0) ([]:List Bz).length (([]:List Bz).map Value.string):=WC (e:=9) (base:=w.1.size) (size:=1) w #[] 0 (Le _) Ac rfl
def P2 (A:Option Addr) (n c:Nat) (l:List Pr) (w:Wd) (r:Sl prC 2 w w.1.size A n c l) (hn:n<=2000):
  Calls prog 82 #[.slice A n c] w fun e w'=>∃ B k,e=.returned (.slice B n k)/\Sl Ug 1 w' w'.1.size B n k (l.map (·.rcd))/\Below w.1.size w w':=by
 have x:=Hd r;have u:=Hd r.len;clear r;go_wp2;go_loopw [3,4] (fun v i wr=>∃ j:Nat,j<=n/\i=.int .i64 j/\wr.ownsRow w.1.size 9 1 v j (((l.map (·.rcd)).take j).map Value.string)/\Below w.1.size w wr) (fun _ i _=>n-(intOf i).toNat)
 .exact ⟨0,Z0 _,rfl,Hn w,Aj⟩
 .obtain ⟨j,hj,rfl,a,hb⟩:=hrel;have q:=Hd a;have d:=Hd hb;by_cases g:j<n
  .obtain ⟨b,o,y,rfl,eM,hg,aB⟩:=Sl.cell (f:=prC) (k:=2) (fun _=>rfl) x.o g;have c1:=(hb.cell (p:=⟨b,o+j*2+1,none⟩) eM).trans (aB 1 _ rfl);have t:decide ((j:Int)<(n:Int))=true:=QQ Oo;have E:decide (j<n)=true:=QQ g;have D:=Hd g
   have z:Aw (((l.map (·.rcd)).take (j+1)).map Value.string=((l.map (·.rcd)).take j).map Value.string++[.string y.rcd]):=Hd (by
    rw [YG,YK,hg];simp)
   clear a hb hg aB eM;go_wp2_with (at_builtin;go_must (refine Ap V5 underlying133 (q.o.alloc _) (Blk.new _ _ _) (Yt y.rcd) Oo (Lx d.o.size (U6 _ _)) ?_;intro G F a s;have C:=Hd a;have m:=Hd s;clear a s));go_roundw
   .exact ⟨j+1,D.o,Au,by rw [z.o];exact C.o,(d.o.alloc d.o.size _).grown m.o (Lx d.o.size (U6 _ _)) (U9 q.o (Le _))⟩
   .exact At
  .obtain rfl:j=n:=Oo
   obtain ⟨B,k,rfl,_⟩:=U4 a;have t:decide ((j:Int)<(j:Int))=false:=QW Oo;clear hb a;go_wp2;go_ret;have h:=q.o;rw [WU (by rw [XT,u.o];exact Le _),<-Xt] at h;exact ⟨B,k,rfl,Sl.of_own (f:=Ug) (k:=1) (fun _=>rfl) Ac h,d.o⟩
def Nr (s:Bz):0<=(Uc s).1/\(Uc s).1<=1099511627776:=by
 rw [Gv];split
 .exact ⟨XI _,Ac⟩
 .split
  .exact ⟨XI _,Ac⟩
  .exact ⟨M4 s 8 0 (XI _),Ay⟩
def ud {n z:Int} (a:0<=n) (f:n<=1099511627776) (hz:z=128\/z=256\/z=512):0<=n / z/\n / z<=1099511627776/\n / z*z<=1099511627776/\0<=n / z*z/\(n / z+1)*z=n / z*z+z:=by
 have d:n / z*z<=n:=Int.ediv_mul_le n Oo;have b:0<=n / z:=Int.ediv_nonneg a Oo;have e:n / z<=n:=Int.ediv_le_self _ a;have c:0<=n / z*z:=Int.mul_nonneg b Oo;exact ⟨b,Oo,Oo,c,by rw [JN,Int.one_mul]⟩
section
variable {W:Wd} {base g c n K:Nat} {M:List Bz} {y:Bz} {b:Int} {x:Bz}
def Lh:Value->Nat
 |.slice _ n _=>n
 |_=>0
def jP (m:Nat) (b:Int) (w:Wd) (e:Ending) (w':Wd):Prop:=∃ A k c L,e=.returned (.slice A k c)/\w'.ownsRow w.1.size 9 1 (.slice A k c) k (L.map Value.string)/\L.length=k/\L≠[]/\k<=m/\(∀ s∈L,G5 b s)/\Below w.1.size w w'
def RI (h:W.ownsRow base 9 1 (.slice (Ah g 0) n c) n ((M++[y]).map Value.string)) (a:M.length=K) (x:Bz):
  (W.setCell ⟨g,K,none⟩ (.string x)).ownsRow base 9 1 (.slice (Ah g 0) n c) n ((M++[x]).map Value.string)/\W.grownBy (W.setCell ⟨g,K,none⟩ (.string x)) (some g):=by
 subst a;have:=h.stored M.length (.string x);exact ⟨by simpa [List.set_append] using this.1,this.2⟩
def Bx {d:Nat} (_:G5 b y) (a:x.size=max 4 y.size+4+d) (e:(d:Int)<=b-max 4 (y.size:Int)-4):G5 b x:=.inr ⟨Oo,Oo⟩
def Tu (h:∀ s∈M,G5 b s) (d:G5 b x):∀ s∈M++[x],G5 b s:=fun s a=>by
 rcases QC.1 a with a|a
 .exact h s a
 .rw [QT.1 a];exact d
def zZ (b:Int) (F o:Bz) (w:Wd) (Z:9<=b) (i:b<=1024) (hy:G5 b F) (hr:o.size<=1000):Calls prog 221 #[.int .i64 b,.string F,.string o] w (jP (o.size+2) b w):=by
 have HN:=Blk.new w 9 #[.string F];have H9:=Hd Z;clear Z;go_wp2;go_loopw [7,8,2] (fun v bf r wr=>∃ (A:Option Addr) (n c:Nat) (z:Bool) (a:Bz) (M:List Bz) (y:Bz),v=.slice A n c/\bf=.bool z/\r=.string a/\wr.ownsRow w.1.size 9 1 (.slice A n c) n ((M++[y]).map Value.string)/\(M++[y]).length=n/\(∀ s∈M,G5 b s)/\G5 b y/\n+a.size+(if y.size=0 then 0 else 1)<=o.size+2/\a.size<=o.size/\Below w.1.size w wr) (fun v _ _ _=>o.size+3-Lh v)
 .exact ⟨_,1,1,false,o,[],F,rfl,rfl,rfl,WC (e:=9) (base:=w.1.size) (size:=1) w #[.string F] 1 (Le _) Ac rfl,rfl,fun s h=>(by cases h),hy,by split<;>omega,Le _,Aj⟩
 .obtain ⟨A,n,c,z,a,M,y,rfl,rfl,rfl,j,hlen,hM,hy,hn,hrc,aF⟩:=hrel;have B:=Hd hn;obtain ⟨g,M2,y2,rfl,eQ,Y,fI,he,hm,I,u,D⟩:=LV j hlen Am;obtain ⟨rfl,Q⟩:=List.append_inj' he rfl;injection Q with Q _
  subst Q;subst hm;have hyz:y.size<=1024:=by rcases hy with h|h;(· omega);have:=i;omega
  obtain ⟨K,l⟩:=yG M.length;rw [l] at hn fI I u D B ⊢;obtain ⟨ρ,J⟩:=yG (b-max 4 (y.size:Int)-4:Int);have hK2:K<=1002:=by have:=hr;omega
  have Z:=H9.o;have fH:=i;have hw0:IntKind.i64.wrap (K:Int)=K:=QL _ Oo;have cX:IntKind.i64.wrap (b-max 4 (y.size:Int))=b-max 4 (y.size:Int):=QL _ Oo;have iN:=(QL _ Oo).trans J;have U:G5 2000 y:=by rcases hy with h|h;(· exact .inl h);exact .inr ⟨h.1,Oo⟩
  have G:∀ (p q:Bool) (x:Bz) (W:Wd),x.size<=2000->Calls prog 289 #[.string y,.agg #[.bool p,.bool q,.string x]] W (SzG (max 4 y.size+4+x.size) W):=fun p q x W t=>TO p q y x W t U
  have E:wr.ownsRow w.1.size 9 1 (.slice (Ah g 0) (K+1) c) (K+1) ((M++[y]).map Value.string):=by rw [<-l];exact j
  have gH:a.size<=1000:=by have:=hr;omega
  have hk3:¬ ((K:Int)+1<=(K:Int)):=Oo
  clear he hlen;rcases (by omega:(a.size:Int)<=ρ\/(1<=ρ/\ρ<(a.size:Int))\/(ρ<1/\ρ<(a.size:Int))) with hA|⟨hB,P⟩|⟨hC,N⟩
  .have d1:=QQ hA;go_wp2_with (go_at_call 289;apply (G _ _ _ _ Oo).mono;rintro e w5 ⟨x,rfl,t,i⟩;have c5:=(i.cell (p:=⟨g,K,none⟩) Y).trans I;have f5:=(Ub E i).frozenAt K);go_ret;have C:=RI (Ub E i) l x;exact ⟨_,_,_,M++[x],rfl,C.1,by have:=l;simp;omega,Am,by have:=B.o;have:=l;omega,Tu hM (Bx hy t (by have:=J;have:=hA;omega)),(aF.trans (i.mono aF.size)).grown C.2 (Lx aF.size i.size) (by rintro k ⟨⟩;exact eQ)⟩
  .obtain ⟨q,rfl⟩:∃ q:Nat,ρ=q:=⟨ρ.toNat,Oo⟩
   have d1:=QW Oo;have d2:=QQ hB;have d3:decide (a.size<=q)=false:=QW Oo;have d4:decide (1<=q)=true:=QQ Oo;have V:1<=q:=Oo
   have eV:q<=a.size:=Oo
   have HQ:=And.intro V eV;clear hB P;go_wp2;apply Bi 13 1 (S:=Below wr.1.size wr) (R:=Rb) (S':=fun _=>True) (Bf _ _).drew (fun _ _ h i=>h.trans (i.mono h.size));apply xp (.slice (Ah g 0) (K+1) c);apply xp (.int .i64 K);apply xp (.slice (Ah g 0) (K+1) c);apply xp (.int .i64 K);apply xp (Ag g K);apply xl (.string y) (fun W h=>(h.cell (p:=⟨g,K,none⟩) Y).trans I);apply xp (.bool z);apply xp (.string a);apply xp (.int .i64 q);apply xp (.string (a.extract 0 q));apply xp (.agg #[.bool z,.bool true,.string (a.extract 0 q)]);apply xk (f:=289) (p:=sP fun x=>x.size=max 4 y.size+4+q) sM (fun W _ _=>(G z true (a.extract 0 q) W As).mono fun e W' ⟨x,he,t,i⟩=>⟨_,he,⟨x,rfl,t.trans As⟩,i⟩);intro v1;apply xp (Ag g K);refine xn fun W H hF=>?_
   obtain ⟨x,rfl,t⟩:=hF _ (.head _);have m:=Ub E H;have C:=RI m l x;apply tc 13 g K (.string x) ((H.cell (p:=⟨g,K,none⟩) Y).trans I) (m.frozenAt K) rfl trivial;refine Ad Ak ?_ _;have cY:=(aF.trans (H.mono aF.size)).grown C.2 (Lx aF.size H.size) (by rintro k ⟨⟩;exact eQ);have wP:=C.1;simp only [Act.put];refine WgQ (Φ:=fun W=>W.ownsRow w.1.size 9 1 (.slice (Ah g 0) (K+1) c) (K+1) ((M++[x]).map Value.string)/\Below w.1.size w W) ⟨wP,cY⟩ (fun W6 d=>?_);clear C m hF H wP cY;go_wp2_with (at_builtin;go_must (apply Ap V5 underlying133 (d.1.alloc _) (Blk.new _ _ _) (Yt ⟨#[]⟩) Oo (Lx d.2.size (U6 _ _));intro v7 w7 j T));obtain ⟨O,X,rfl,_⟩:=U4 j;go_roundw
   .have hq:=HQ;have L:=Lx (Nat.le_add_right _ _) B.o;exact ⟨O,K+1+1,X,true,a.extract q a.size,M++[x],⟨#[]⟩,rfl,rfl,rfl,by simpa using j,by have:=l;simp;omega,Tu hM (Bx hy t (by have:=J;omega)),.inl rfl,by rw [QK (show (⟨#[]⟩:Bz).size=0 from rfl),XZ];omega,by have:=hrc;simp;omega,(d.2.alloc d.2.size _).grown T (Lx d.2.size (U6 _ _)) (U9 d.1 (Le _))⟩
   .have L:=Lx (Nat.le_add_right _ _) B.o;simp [Lh];omega
  .have d1:decide ((a.size:Int)<=ρ)=false:=QW Oo;have d2:decide ((1:Int)<=ρ)=false:=QW Oo;clear N;go_wp2_with (at_builtin;go_must (refine Ap V5 underlying133 (E.alloc _) (Blk.new _ _ _) (Yt ⟨#[]⟩) Oo (Lx aF.size (U6 _ _)) ?_;intro v7 w7 j T));obtain ⟨O,X,rfl,_⟩:=U4 j;go_roundw
   .have hy0:¬ (y.size=0):=by have:=hC;have:=J;omega
    have L:=B.o;rw [QX hy0] at L;exact ⟨O,K+1+1,X,z,a,M++[y],⟨#[]⟩,rfl,rfl,rfl,by simpa using j,by have:=l;simp;omega,Tu hM hy,.inl rfl,by rw [QK (show (⟨#[]⟩:Bz).size=0 from rfl)];omega,hrc,(aF.alloc aF.size _).grown T (Lx aF.size (U6 _ _)) (U9 E (Le _))⟩
   .have L:=Lx (Nat.le_add_right _ _) B.o;simp [Lh];omega
def xx (h:W.ownsRow base 9 1 (.slice (Ah g 0) n c) n ((M++[y]).map Value.string)) (i:M.length=K):W.ownsRow base 9 1 (.slice (Ah g 0) K c) K (M.map Value.string):=by
 obtain ⟨m,e⟩:=h;have hn:n=K+1:=by simp at m;omega
 refine ⟨by simp [i],?_⟩;rcases e with ⟨e,_⟩|⟨k,f,d,a,b,c1,c2,c3,c4,c5⟩
 .cases e
 .injection a with a1 a2 a3
  refine .inr ⟨k,f,d,by rw [a1,a3],b,c1,Oo,c3,c4,?_⟩;have j:=XK (List.take (K*1)) c5;have l:(M.map Value.string).length=K*1:=by simp [i]
  rw [JT,ZI Oo,XM] at j;rw [j,<-l];exact List.take_left
def PtP (m:Nat) (b:Int) (base:Nat) (x:Value) (W:Wd):Prop:=∃ A k c L,x=.slice A k c/\W.ownsRow base 9 1 (.slice A k c) k (L.map Value.string)/\L.length=k/\L≠[]/\k<=m/\∀ s∈L,G5 b s
def ptM {m:Nat} (x:Value) (W W':Wd) (f:Rb W W') (h:PtP m b base x W):PtP m b base x W':=by
 obtain ⟨A,k,c,L,d,a,e⟩:=h;exact ⟨A,k,c,L,d,Ub a f,e⟩
def CV (l:List Bz):∀ u∈l.map Value.string,u.oneCell'=true:=fun u a=>by obtain ⟨x,_,rfl⟩:=YY.1 a;rfl
def R6 (l b:Int) (A0:Option Addr) (n U:Nat) (E:List Bz) (w:Wd) (r:Sl Ug 1 w w.1.size A0 n U E) (hn:n<=1100) (Q:svB l b=true):
  Calls prog 168 #[.int .i64 l,.int .i64 b,.slice A0 n U] w (RpG (if E.all fun s=>decide ((s.size:Int)<=l) then 0 else 2) w):=by
 have HV:=BG l b w;rw [Q] at HV;have Z:1<=l/\l<=1000/\9<=b/\b<=1024:=by unfold svB at Q;simp at Q;omega
 obtain ⟨R,Y⟩:=yG ((if E.all fun s=>decide ((s.size:Int)<=l) then 0 else 2):Int);rw [Y];have HL:=r.len;have T:=Hd Z;go_in;go_wp2_with (go_at_call 120;apply yE HV);go_loopw [8,9] (fun v i wr=>∃ (j:Nat) (L:List Bz),j<=n/\i=.int .i64 j/\wr.ownsRow w.1.size 9 1 v L.length (L.map Value.string)/\Below w.1.size w wr/\L.length<=1002*j/\(0<j->L≠[])/\(∀ s∈L,G5 b s)/\∀ t,t<j->∀ e,E[t]? =some e->decide ((e.size:Int)<=l)=true) (fun _ i _=>n-(intOf i).toNat)
 .exact ⟨0,[],Z0 _,rfl,Hn w,Aj,Le _,fun h=>absurd h Ac,fun s h=>(by cases h),fun t h=>absurd h Oo⟩
 .obtain ⟨j,L,hj,rfl,a,aF,gY,m,hz,hall⟩:=hrel;have P:=Hd a;have d:=Hd aF;have HA:=Hd hall;have HZ:=Hd hz;have O:=Hd gY;by_cases N:j<n
  .obtain ⟨bb,o,s,rfl,eM,hg,aB⟩:=Sl.cell (f:=Ug) (k:=1) (fun _=>rfl) r N;have c1:=aB 0 _ rfl;simp only [QF,WY] at c1;have HC:=Hd fun (W:Wd) (h:Below w.1.size w W)=>(h.cell (p:=⟨bb,o+j,none⟩) eM).trans c1
   have cr:=HC _ aF;have HG:=Hd hg;have HT:=Hd N;have d2:decide (j<n)=true:=QQ N;by_cases C:(s.size:Int)<=l
   .have d3:decide (l<(s.size:Int))=false:=QW Oo;have dD:s.size<=1000:=by have:=T.o;omega
    have gJ:=Hd (Xk HA HG (QQ C));have D:=Hd fun (y:Bz) (W:Wd) (hy:G5 b y)=>zZ b y s W T.2.2.1 T.2.2.2 hy dD
    rcases WB j with rfl|h0
    .simp only [QF] at cr;clear hall hg aB eM c1 hj C hz a gY aF m;go_wp2_with (go_at_call 221;refine (D _ _ (.inl rfl)).mono ?_;rintro e w5 ⟨A,k,c,z,rfl,a,G,m,F,u,q⟩;have J:=Hd a;have cP:=Hd q;have B:=Hd (And.intro G (And.intro m (And.intro F u)));clear a G m F u q);go_roundw
     .exact ⟨1,z,HT,rfl,by rw [B.o.1];exact X7 J d.size,d.trans (cP.mono d.size),by have:=B.o;omega,fun _=>B.2.1,B.2.2.2,gJ⟩
     .exact At
    .have hj0:((j:Int) == 0)=false:=As
     obtain ⟨A,c,rfl,_⟩:=U4 a;obtain ⟨g,M,y,rfl,eQ,cE,fI,rfl,hm,hc,_,_⟩:=LV a rfl (m h0);obtain ⟨K,X⟩:=yG M.length;rw [hm] at a fI ⊢;rw [X] at a hc fI ⊢;have hy:=hz y Am;have hKb:K<=1002*j:=by simp at gY;omega
     have hw:IntKind.i64.wrap (K:Int)=K:=QL _ Oo;have hk3:¬ ((K:Int)+1<=(K:Int)):=Oo
     have hkc:¬ (c<K):=Oo
     have V:=fun s (h:s∈M)=>hz s (YJ _ h)
     clear hall hg aB eM c1 hj C hz gY aF m h0 hm P O HZ;go_wp2;apply Bi 13 2 (S:=Below wr.1.size wr) (R:=Rb) (S':=fun _=>True) (Bf _ _).drew (fun _ _ h q=>h.trans (q.mono h.size));apply xp (.slice (Ah g 0) (K+1) c);apply xp (.int .i64 K);apply xp (.slice (Ah g 0) K c);apply xp (.int .i64 b);apply xp (.slice (Ah g 0) (K+1) c);apply xp (.int .i64 K);apply xp (Ag g K);apply xl (.string y) (fun W h=>(h.cell (p:=⟨g,K,none⟩) cE).trans hc);apply xp (.slice (Ah bb o) n U);apply xp (.int .i64 j);apply xp (Ag bb (o+j));apply xl (.string s) (fun W h=>HC W (d.trans (h.mono d.size)));apply xk (f:=221) (p:=PtP (s.size+2) b wr.1.size) ptM (fun W h _=>(D y W hy).mono fun e W' ⟨A,k,c,z,he,ho,G,m,F,u,q⟩=>⟨_,he,⟨A,k,c,z,rfl,X7 ho h.size,G,m,F,u⟩,q⟩);intro v1
     refine xn fun W H hF=>?_
     obtain ⟨A2,k2,c2,z,rfl,bL,eN,cR,gD,u⟩:=hF _ (.head _);refine ta 13 V5 underlying133 (xx (Ub a H) X) (Rd.of_own bL) (CV z) Oo (Lx d.size H.size) (fun v4 w4 a aI=>?_);refine tk 14 v4 trivial ?_;refine Ad Ak ?_ _;have cO:=(d.trans (H.mono d.size)).grown aI (Lx d.size H.size) (by rintro k ⟨⟩;exact eQ);have B:=And.intro eN (And.intro cR (And.intro gD u));go_wp2;go_roundw
     .have hx:=B;refine ⟨j+1,M++z,HT,Au,?_,cO,As,fun _=>by simp [hx.2.1],fun s r=>?_,gJ⟩
      .have h:=a;rw [WW,XM,X,hx.1];exact h
      .rcases QC.1 r with h|h
       .exact V s h
       .exact hx.2.2.2 s h
     .exact At
   .have d3:decide (l<(s.size:Int))=true:=QQ Oo;have I:=alN Y HG (QW C);clear C;go_wp2
    go_ret2
    exact RpG.no I d
  .obtain rfl:j=n:=Oo
   have I:=alY Y HL HA;obtain ⟨A,c,rfl,_⟩:=U4 P;go_wp2
   go_ret2
   exact RpG.yes I P Oo (fun s r=>by rcases HZ.o s r with h|h<;>omega) d
end
def GJ (s:Bz) (w:Wd) (d:s.size<=1000):Calls prog 170 #[.string s,.int .i64 128] w (SzG (max s.size 128) w):=by
 have g:=Hd d;clear d;go_wp2;go_loopw [0] (fun v wr=>∃ q:Bz,v=.string q/\max q.size 128=max s.size 128/\wr=w) (fun v _=>128-NU v)
 .exact ⟨s,rfl,rfl,rfl⟩
 .obtain ⟨q,rfl,hq,rfl⟩:=hrel;have e:=Hd hq;by_cases c:q.size<128
  .have d1:decide ((q.size:Int)<128)=true:=QQ Oo;have f:¬ (9223372036854775807<q.size+(⟨#[0]⟩:Bz).size):=by have:(⟨#[0]⟩:Bz).size=1:=rfl;omega
   have b:=Hd c;clear hq;go_wp2;go_roundw
   .exact ⟨_,rfl,by have:=e.o;have:=b.o;have a:(⟨#[0]⟩:Bz).size=1:=rfl;rw [QY,a];omega,trivial⟩
   .have a:(⟨#[0]⟩:Bz).size=1:=rfl;simp only [NU,QY,a];omega
  .have d1:decide ((q.size:Int)<128)=false:=QW Oo;have b:=Hd c;clear hq;go_wp2;go_ret;exact ⟨q,rfl,by have:=e.o;have:=b.o;omega,Bf _ _⟩
def MN (n:Int) (w:Wd):Calls prog 113 #[.int .i64 n] w (Ae w (.bool (In n))):=by
 unfold In;generalize d:decide (0<=n)=b1;generalize c:decide (n<=1099511627776)=a;rcases ch (b:=b1) (ch0 a) with rfl|⟨rfl,rfl|rfl⟩
 all_goals
  go_wp2;go_ret;exact ⟨rfl,rfl⟩
def Ly (n:Nat) (w:Wd) (h:n<=9223372036854775807):Calls prog 169 #[.int .u64 n] w fun e w'=>∃ s:Bz,e=.returned (.string s)/\s.size<=10/\Below w.1.size w w':=
 (Gm n w Oo Oo).mono fun e w' ⟨b,a⟩=>⟨_,b,V6 _,a⟩
def oC (n:Int) (v:Bz):(#[.int .i64 n,.string v]:Array Value).all (·.oneCell')=true:=by simp [Value.oneCell']
structure OB (t:TypeId) (cs:Array Value) (w W:Wd):Prop where
 b:Blk W w.1.size t cs
 be:Below w.1.size w W
def OB.new (t:TypeId) (cs:Array Value) (w:Wd):OB t cs w (w.alloc (.cells cs t)):=⟨Blk.new w _ _,Aj⟩
def OB.next {t:TypeId} {cs:Array Value} {w W W':Wd} (h:OB t cs w W) (a:Below W.1.size W W'):OB t cs w W':=⟨h.b.below a h.b.lt,h.be.trans (a.mono h.be.size)⟩
def OB.row {t:TypeId} {cs cs':Array Value} {w W:Wd} (h:OB t cs w W):OB t cs' w (W.setRow w.1.size cs'):=⟨QR _ _ _ _ _ _ h.b,Xq h.be (Le _) _⟩
def Rh (a b c:Nat) (w:Wd) (q:a<=9223372036854775807) (d:b<=9223372036854775807) (x:c<=9223372036854775807):Calls prog 116 #[.int .i64 a,.int .i64 b,.int .i64 c] w (HdG w):=by
 have k:=Hd fun W=>Ly a W q
 have j:=Hd fun W=>Ly b W d
 have l:=Hd fun W=>Ly c W x
 have I:IntKind.u64.wrap (a:Int)=a:=by rw [YU];omega
 have H:IntKind.u64.wrap (b:Int)=b:=by rw [YU];omega
 have E:IntKind.u64.wrap (c:Int)=c:=by rw [YU];omega
 have B:=Hd fun g=>OB.new 177 g w
 clear q d x;go_in
 go_wp2_with (first|(go_at_call 169;refine (k _).mono ?_;rintro e J ⟨s,rfl,p,d⟩;have h:=Hd p;have A:=Hd ((B _).next d);clear d p k)|(go_at_call 169;refine (j _).mono ?_;rintro e D ⟨t,rfl,i,d⟩;have m:=Hd i;have y:=Hd (A.o.next d);have G:¬ (9223372036854775807<s.size+t.size):=(by have:=h.o;omega);clear d i j)|(go_at_call 169;refine (l _).mono ?_;rintro e C ⟨u,rfl,n,d⟩;have f:=Hd n;have z:=Hd (y.o.next d);have F:¬ (9223372036854775807<(s++t).size+u.size):=(by have:=h.o;have:=m.o;rw [QY];omega);clear d n l)|(go_at_call 170;refine (GJ _ _ (by have:=h.o;have:=m.o;have:=f.o;rw [QY,QY];omega)).mono ?_;rintro e K ⟨v,rfl,_,d⟩;have r:=Hd (z.o.next d);clear d)|(with_reducible refine yS 177 6 r.o.b (oC 0 v) ?_))
 have o:=Hd (r.o.row (cs':=#[.int .i64 0,.string v]));exact Br (v:=.agg #[.int .i64 0,.string v]) (Vx results116 rfl (LF _ w.1.size _ o.o.b rfl)) rfl ⟨0,v,rfl,o.o.be⟩
def Qz (A:Option Addr) (n c:Nat) (l:List Bz) (w:Wd) (z:Sl Ug 1 w w.1.size A n c l) (hn:n<=2000000) (hz:∀ s∈l,s.size<=2000000):
  Calls prog 115 #[.slice A n c] w fun e w'=>∃ s:Bz,e=.returned (.string s)/\s.size<=2000002*n/\Below w.1.size w w':=by
 have I:=Hd z;have K:=Hd hz;clear z hz;go_wp2;go_loopw [3,4] (fun v i wr=>∃ (j:Nat) (q:Bz),j<=n/\i=.int .i64 j/\v=.string q/\q.size<=2000002*j/\Below w.1.size w wr) (fun _ i _=>n-(intOf i).toNat)
 .exact ⟨0,_,Z0 _,rfl,rfl,Le _,Bf _ _⟩
 .obtain ⟨j,q,hj,rfl,rfl,hq,a⟩:=hrel;have x:=Hd a;have t:=Hd hq;by_cases m:j<n
  .obtain ⟨b,o,s,rfl,eM,d,aB⟩:=Sl.cell (f:=Ug) (k:=1) (fun _=>rfl) I m;have r:=aB 0 _ rfl;simp only [QF,WY] at r;have y:=Hd fun (W:Wd) (h:Below w.1.size w W)=>(h.cell (p:=⟨b,o+j,none⟩) eM).trans r
   have P:=y _ a;have D:=K s (QJ d);have N:decide ((j:Int)<(n:Int))=true:=QQ Oo;have M:decide (j<n)=true:=QQ m;have T:IntKind.u8.wrap ((s.size:Int) % 256)=(s.size:Int) % 256:=by rw [ZX];omega
   have L:=Hd m;have F:=Hd D;obtain ⟨k,E⟩:=yG (IntKind.u8.wrap ((s.size:Int) / 256));have Q:((s.size:Int)).tmod 256=(s.size:Int) % 256:=Int.tmod_eq_emod_of_nonneg Oo;have U:IntKind.i64.wrap ((s.size:Int) / 256)=(s.size:Int) / 256:=QL _ Oo;have G:q.size<=5000000000000:=Oo
   have B:(strOfNums [(s.size:Int) % 256,k]).size=2:=by rw [WD];rfl
   clear a hq d aB r eM hj;go_wp2;apply WzR (S:=fun W=>Below w.1.size w W) (R:=Rb) x.drew (fun _ _ h a=>h.trans (a.mono h.size));apply xp (.string q);apply xp (.int .i64 s.size);apply xp (.int .i64 ((s.size:Int) % 256));apply xp (.int .u8 ((s.size:Int) % 256));apply xp (.int .i64 s.size);apply xp (.int .i64 ((s.size:Int) / 256));apply xp (.int .u8 k);apply xb 5 2 #[.int .u8 ((s.size:Int) % 256),.int .u8 k];intro O;apply xy (.string (strOfNums [(s.size:Int) % 256,k])) (fun W _ H=>by obtain ⟨g,rfl,d⟩:=xf 0 H;have h:=Y8 W g 2 2 5 [(s.size:Int) % 256,k] d rfl;go_simp);apply xq (hz:=Oo);apply xp (.slice (Ah b o) n c);apply xp (.int .i64 j);apply xp (Ag b (o+j));apply xl (.string s) (fun W h=>y W h);apply xq (hz:=by rw [QY];omega);apply xv (v:=.string (q++strOfNums [(s.size:Int) % 256,k]++s))
   refine xn fun W u _=>?_
   have J:=Hd u;have C:=Hd B;clear u E;go_wp2;go_roundw
   .exact ⟨j+1,_,L,Au,rfl,by have:=t.o;have:=C.o;have:=F.o;simp only [QY];omega,J⟩
   .exact At
  .obtain rfl:j=n:=Oo
   clear a hq;go_wp2;go_ret;exact ⟨_,rfl,t,x⟩
section
variable {P:Program} {md:Region.Mode} {ops:Array Oper} {Q:Exit->Act->Wd->Prop} {fuel:Nat} {listed:Array Bool} {oi:Oper} {a:Act} {w:Wd} {v:Value} {S:Wd->Prop}
def tp {f:FuncId} {args:Array Value} (i:Nat)
  (j:Calls P f args w fun x w'=>x=.returned v/\Below w.1.size w w') (c:∀ w',Below w.1.size w w'->S w') (h:∀ w',Below w.1.size w w'->wpAnyH P md ops Q S fuel (listed.setIfInBounds i true) (a.put oi.dst v) w')
  (g:ops[i]? =some oi:=by simp only [Ga,Gz,Gn];rfl)
  (he:∀ w,(execOp a.eval oi).run P w=.ok (.enter f args) w:=by intro w';go_simp) (d:Region.ready md ops listed=[i]:=by kernel_rfl) (hw:Region.wanted oi (yielded ops a.tmps)=true:=by rfl):wpAnyH P md ops Q S (fuel+1) listed a w:=by
 refine Ar d Am (XX g (fun K e=>?_) An);rw [QK hw];unfold Oper.wp;rw [he w];refine yP j fun w' b=>?_
 exact e.out _ _ (c w' b) fun _=>h w' b
def tb (i:Nat) (e:TypeId) (n:Nat) (cs:Array Value) (b:S (w.alloc (.cells cs e)))
  (h:wpAnyH P md ops Q S fuel (listed.setIfInBounds i true) (a.put oi.dst (.slice (Ah w.1.size 0) n n)) (w.alloc (.cells cs e)))
  (f:ops[i]? =some oi:=by simp only [Ga,Gz,Gn];rfl)
  (he:(execOp a.eval oi).run P w=.ok (.value (.slice (Ah w.1.size 0) n n)) (w.alloc (.cells cs e)):=by go_simp) (c:Region.ready md ops listed=[i]:=by kernel_rfl) (hw:Region.wanted oi (yielded ops a.tmps)=true:=by rfl):wpAnyH P md ops Q S (fuel+1) listed a w:=by
 refine Ar c Am (XX f (fun K d=>?_) An);rw [QK hw];unfold Oper.wp;rw [he];exact d.out _ _ b fun _=>h
def tg {o:Oper} {s x:Operand} {t e:TypeId} {z:Value} {size b n m base B c:Nat} {A:Option Addr} {xs news:List Value} (i:Nat)
  (F:(P.info? e).map (fun i=>(i.zero,i.size,i.bytes))=some (some z,size,b)) (p:P.underlying t=some (.slice e)) (k:w.ownsRow base e size v n xs) (H:Rd w B size A m news) (C:∀ u∈news,u.oneCell'=true) (hn:n+m<=100000000000) (O:base<=w.1.size)
  (R:∀ d w',w'.ownsRow base e size d (n+m) (xs++news)->w.grownBy w' v.ownBlock->S w')
  (h:∀ d w',w'.ownsRow base e size d (n+m) (xs++news)->w.grownBy w' v.ownBlock->wpAnyH P md ops Q S fuel (listed.setIfInBounds i true) (a.put o.dst d) w')
  (L:ops[i]? =some o:=by simp only [Ga,Gz,Gn];rfl)
  (G:o.op=.call { callee:=.builtin .append,args:=#[s,x],argTypes:=#[t,t] }:=by rfl) (N:Region.ready md ops listed=[i]:=by kernel_rfl)
  (I:a.eval s=v:=by rfl) (M:a.eval x=.slice A m c:=by rfl) (hw:Region.wanted o (yielded ops a.tmps)=true:=by rfl)
  (J:z.cells.size=size:=by rfl) (y:0<size:=by decide) (r:b<=1000:=by decide):wpAnyH P md ops Q S (fuel+1) listed a w:=by
 obtain ⟨E,q,T,l,j⟩:=WG F;refine Ar N Am (XX L (fun K D=>?_) An);rw [QK hw];refine Tc w s x t G base e E z size b p q T l j J y v n xs I k B A m c news M H C (by unfold maxLen;omega) ?_ O fun d w' f g _=>D.out _ _ (R d w' f g) fun _=>h d w' f g
 have:(n+m)*b<=100000000000*1000:=JW hn r;omega
def rf (d:DSet) (b:Int) (l:List Pr):(onP d b l).length<=l.length:=by
 unfold onP;rw [XT];exact List.length_filter_le _ _
def oU (d:DSet) (e:Int) (l:List Pr) (k:Nat) (h:∀ p∈l,p.rcd.size<=k):∀ s∈onP d e l,s.size<=k:=fun s b=>by
 unfold onP at b;obtain ⟨p,c,rfl⟩:=YY.1 b;exact h p (UU.1 c).1
def Bu:∀ (l:List Bz),(∀ s∈l,s.size<=1000)->0<=Ye l/\Ye l<=1000*(l.length:Int)
 | [],_=>by simp [Ye]
 |s::r,h=>by
  have e:=Bu r fun x c=>h x (QN _ c)
  have d:=h s QP;have b:Ye (s::r)=(s.size:Int)+Ye r:=rfl;rw [b,QS];omega
def tG (l:List Bz) (h:∀ s∈l,s.size<=1000) (b:l.length<=1100):0<=Ye l/\Ye l<=2000000:=by
 have:=Bu l h;omega
def FA (d:DSet) (A:Option Addr) (n c:Nat) (l:List Pr) (r:Bz) (w:Wd) (X:Sl prC 2 w w.1.size A n c l) (hn:n<=1100) (hz:d.itv=128\/d.itv=256\/d.itv=512) (hr:∀ p∈l,p.rcd.size<=1000):
  Calls prog 87 #[.agg (dC d).toArray,.slice A n c,.string r] w (StG (N2 d l r) w):=by
 have HX:=Hd (DX.new d w);have HS:=Hd X;have HL:=Hd X.len;have HR:=Hd hr;have HN:=Hd hn;obtain ⟨z,U⟩:=yG d.itv;have HDZ:=Hd U;have c7:∀ W,DX d w W->W.cell? ⟨w.1.size,7,none⟩=some (.int .i64 z):=fun W h=>by rw [<-U];exact h.c 7 _ rfl
 have O:=Hd c7;have g7:=c7 _ HX;rw [U] at hz;have HZ:=Hd hz;clear hr c7;rcases WB n with h0|h0
 .have hl:l=[]:=QA (by rw [X.len,h0]);subst hl;have hq:N2 d [] r=V8 z:=by rw [<-U];rfl
  rw [hq];subst h0;clear X U hz hn hq;go_in;go_wp2_with (go_at_call 88;refine yT (EZ z _) HX.next fun w2 C=>?_);go_ret;exact ⟨rfl,C.be⟩
 .obtain ⟨m,rfl⟩:∃ m,n=m+1:=⟨n-1,Oo⟩
  obtain ⟨b,o,q,rfl,eM,hg,aB⟩:=Sl.cell (f:=prC) (k:=2) (fun _=>rfl) X (show m<m+1 from Oo);have k0:=(HX.be.cell (p:=⟨b,o+m*2,none⟩) eM).trans (aB 0 _ rfl);have dK:l.getLast? =some q:=by rw [List.getLast?_eq_getElem?,X.len];exact hg
  have J:N2 d l r=if Zo z (onP d ((Uc q.key).1 / z) l++[r])=true then V8 ((Uc q.key).1 / z*z+Ye (onP d ((Uc q.key).1 / z) l)) else V8 (((Uc q.key).1 / z+1)*z):=by
   unfold N2;rw [dK];simp only [U]
  obtain ⟨Z,Y,N,M,R⟩:=ud (Nr q.key).1 (Nr q.key).2 hz;have E:=Hd fun W=>Zl q.key W
  have I:=(Nr q.key).1;have e1:¬ (z=0):=Oo
  rw [J];generalize Uc q.key=nq at E Z Y N M R I ⊢;obtain ⟨nq,bq⟩:=nq;simp only at E Z Y N M R I ⊢;obtain ⟨e,F⟩:=yG (nq / z);rw [F] at Z Y N M R ⊢;have t1:nq.tdiv z=e:=(Int.tdiv_eq_ediv_of_nonneg I).trans F;have t2:IntKind.i64.wrap e=e:=QL _ Oo;obtain ⟨V,HV⟩:=yH (if Zo z (onP d e l++[r])=true then V8 (e*z+Ye (onP d e l)) else V8 ((e+1)*z));rw [HV.o];clear X eM hg aB dK J U;go_in;go_wp2_with (go_at_call 86;refine yE (E _) ?_);have HP:=Hd (And.intro Z (And.intro Y (And.intro N (And.intro M R))));have HPG:=Hd F;clear k0 I Z Y N M R F E t1 t2
  go_loopw [10,11,12] (fun v u i wr=>∃ j:Nat,j<=m+1/\i=.int .i64 j/\u=.int .i64 (Ye (onP d e (l.take j)))/\wr.ownsRow (w.1.size+1) 9 1 v (onP d e (l.take j)).length ((onP d e (l.take j)).map Value.string)/\DX d w wr) (fun _ _ i _=>m+1-(intOf i).toNat)
  .have h:=Hn (w.alloc (.cells (dC d).toArray 34));rw [show (w.alloc (.cells (dC d).toArray 34)).1.size=w.1.size+1 from Am] at h;exact ⟨0,Z0 _,rfl,rfl,h,HX.next Aj⟩
  .obtain ⟨j,hj,rfl,rfl,t,hx⟩:=hrel;have D:=Hd t;have C:=Hd hx;have g:(onP d e (l.take j)).length<=1100:=Lx (rf d e _) (by rw [WX,HL.o];have:=HN.o;omega);have hsum:=tG (onP d e (l.take j)) (oU d e _ 1000 fun p hp=>HR p (XA hp)) g;obtain ⟨T,eO⟩:=hsum;have g7:=O _ hx;by_cases aE:j<m+1
   .obtain ⟨b2,o2,y,hA,aH,hgy,hcy⟩:=Sl.cell (f:=prC) (k:=2) (fun _=>rfl) HS aE;injection hA with hA
    injection hA with hA3 hA4 _
    subst hA3;subst hA4;have c0:=(hx.be.cell (p:=⟨b,o+j*2,none⟩) aH).trans (hcy 0 _ rfl);have c1:=(hx.be.cell (p:=⟨b,o+j*2+1,none⟩) aH).trans (hcy 1 _ rfl);have gV:=Hd fun (W:Wd) (h:DX d w W)=>(h.be.cell (p:=⟨b,o+j*2+1,none⟩) aH).trans (hcy 1 _ rfl)
    have d1:decide ((j:Int)<((m+1:Nat):Int))=true:=QQ Oo;have d2:decide (j<m+1)=true:=QQ aE;have HT:=Hd aE;have hrz:y.rcd.size<=1000:=HR y (QJ hgy)
    have cH:onP d e (l.take (j+1))=if (Uc y.key).1 / z=e then onP d e (l.take j)++[y.rcd] else onP d e (l.take j):=by
     rw [YG,hgy,Option.toList_some,LW,HDZ.o]
    have bV:=Hd cH;have H:=Hd fun W=>Zl y.key W
    have I:=(Nr y.key).1;have q0:=(ud (Nr y.key).1 (Nr y.key).2 HZ)
    generalize Uc y.key=G at H bV I q0;obtain ⟨G,by'⟩:=G;simp only at H bV I q0;obtain ⟨q0,q1,_⟩:=q0;have t1:G.tdiv z=G / z:=Int.tdiv_eq_ediv_of_nonneg I;have t2:IntKind.i64.wrap (G / z)=G / z:=QL _ Oo;obtain ⟨K,hK⟩:=yG (onP d e (l.take j));rw [hK] at D T eO g bV ⊢;clear t hx hcy hgy aH cH hK;by_cases he:G / z=e
    .have x1:(G / z == e)=true:=by simpa using he
     have HE:Aw (onP d e (l.take (j+1))=K++[y.rcd]):=Hd (by rw [bV.o,QK he]);clear he;go_wp2_with (first|(go_at_call 86;refine yE (H _) ?_)|(at_builtin;go_must (refine Ap V5 underlying133 (D.alloc _) (Blk.new _ _ _) (Yt y.rcd) Oo (Lx (Nat.succ_le_of_lt C.b.lt) (U6 _ _)) ?_;intro v7 w7 t s;have gM:=Hd t;have fE:Aw (DX d w w7):=(Hd ⟨(C.b.alloc _).grown s (fun h=>Yy D (.inl (JJ _)) h.symm),(C.be.alloc C.be.size _).grown s (Lx C.be.size (U6 _ _)) (U9 D (JX _))⟩);have c17:=gV _ fE;clear t s)));go_roundw
     .exact ⟨j+1,HT,Au,by rw [HE.o,Zz],by rw [HE.o,XM,WW];exact gM,fE⟩
     .exact At
    .have x1:(G / z == e)=false:=by simpa using he
     have HE:Aw (onP d e (l.take (j+1))=K):=Hd (by rw [bV.o,QX he]);clear he;go_wp2_with (go_at_call 86;refine yE (H _) ?_);go_roundw
     .exact ⟨j+1,HT,Au,by rw [HE.o],by rw [HE.o];exact D,C⟩
     .exact At
   .obtain rfl:j=m+1:=Oo
    have d1:decide (((m+1:Nat):Int)<((m+1:Nat):Int))=false:=QW Oo;have L:l.take (m+1)=l:=WU (by rw [HL.o];exact Le _);rw [L] at D T eO g ⊢;obtain ⟨K,hK⟩:=yG (onP d e l);rw [hK] at D T eO g HV ⊢;obtain ⟨Z,Y,N,M,R⟩:=HP.o;have w1:IntKind.i64.wrap (e*z)=e*z:=QL _ Oo;have w2:IntKind.i64.wrap (e*z+Ye K)=e*z+Ye K:=QL _ Oo;have w3:IntKind.i64.wrap (e+1)=e+1:=QL _ Oo;have w4:IntKind.i64.wrap ((e+1)*z)=(e+1)*z:=QL _ Oo;have HFI:=Hd fun (B:Option Addr) (k:Nat) (W:Wd) (h:Sl Ug 1 W W.1.size B (K.length+1) k (K++[r]))=>TG z B (K.length+1) k (K++[r]) W h Oo
    generalize Zo z (K++[r])=ft at HV HFI;obtain ⟨A4,c4,rfl,_⟩:=U4 D;clear t hx L hK Z Y N M R;go_wp2;refine Rw (S:=DX d w) Ak (C.next (Bf _ _).drew) (fun hH=>?_);refine tA 0 hH ?_;refine tC 1 (fun W hW=>O W hW) hH ?_
    iterate 2 refine tB hH ?_
    have ho:=(Ub D (Bf _ _).drew).alloc (.cells #[.string r] 9);have hS:=hH.next ((Bf _ _).alloc (Le _) (.cells #[.string r] 9));have hg:=Blk.new wr.drew 9 #[.string r];refine tb 4 9 1 #[.string r] hS ?_;have x:∀ {w5:Wd},(wr.drew.alloc (.cells #[.string r] 9)).grownBy w5 (Value.slice A4 K.length c4).ownBlock->DX d w w5:=fun s=>⟨hS.b.grown s (fun h=>Yy ho (.inl (JJ _)) h.symm),hS.be.grown s hS.be.size (U9 ho (JX _))⟩
    refine tg 5 V5 underlying133 ho (ET hg rfl) (Yt r) Oo (Nat.succ_le_of_lt hS.b.lt) (fun v5 w5 _ s=>x s) (fun v5 w5 t s=>?_);obtain ⟨A5,c5,rfl,_⟩:=U4 t;refine tp 6 (HFI A5 c5 w5 (Sl.of_own (f:=Ug) (k:=1) (fun _=>rfl) Ac (by rw [Xt,XM];exact t))) (fun w6 hb=>(x s).next hb) (fun w6 hb=>?_);refine Ad Ak ?_ _;have bE:=Hd ((x s).next hb);have g6:=O _ bE;clear x hb t s ho hg hS g7 hH;cases ft with
    |true=>
     have hv:=HV.o;rw [QK rfl] at hv;subst hv;go_wp2_with (go_at_call 88;refine yT (EZ _ _) bE.next fun w2 fE=>?_);go_ret;exact ⟨rfl,fE.be⟩
    |false=>
     have hv:=HV.o;rw [QX Ac] at hv;subst hv;go_wp2_with (go_at_call 88;refine yT (EZ _ _) bE.next fun w2 fE=>?_);go_ret;exact ⟨rfl,fE.be⟩
end
def yt (s:Bz) (w:Wd) (x:s.size<=5000000000000):Calls prog 117 #[.string s] w fun e w'=>∃ A k c,∃ L:List Bz,e=.returned (.slice A k c)/\(w'.ownsRow w.1.size 9 1 (.slice A k c) k (L.map Value.string)/\L.length=k)/\k<=50000000000/\Below w.1.size w w':=by
 have u:=Hd x;go_wp2;go_loopw [3,4] (fun v i wr=>∃ (p:Nat) (L:List Bz),i=.int .i64 p/\128*L.length=p/\p<=s.size+127/\wr.ownsRow w.1.size 9 1 v L.length (L.map Value.string)/\Below w.1.size w wr) (fun _ i _=>s.size+128-(intOf i).toNat)
 .exact ⟨0,[],rfl,rfl,Z0 _,Hn w,Aj⟩
 .obtain ⟨p,L,rfl,hL,hp,a,b⟩:=hrel;have d:=Hd b;have j:=Hd a;have l:=Hd hL;by_cases g:p<s.size
  .have r:decide ((p:Int)<(s.size:Int))=true:=QQ Oo;have q:decide (p<s.size)=true:=QQ g;have hw:IntKind.i64.wrap ((p:Int)+128)=(p:Int)+128:=QL _ Oo;obtain ⟨m,F⟩:∃ m:Nat,min ((p:Int)+128) (s.size:Int)=m:=⟨min (p+128) s.size,Oo⟩
   have D:p<=m:=Oo
   have B:m<=s.size:=Oo
   have o:=Hd g;have hz:(s.extract p m).size<=1000:=by rw [XZ];omega
   have y:=Hd fun W=>GJ (s.extract p m) W hz
   clear a b hL hz;go_wp2_with (first|(go_at_call 170;refine (y.o _).mono ?_;rintro e G ⟨t,rfl,_,b⟩;have f:=Hd b;clear b)|(at_builtin;go_must (refine Ap2 V5 underlying133 ((Ub j.o f.o).alloc _) (ET (Blk.new _ _ _) rfl) (Yt t) (by have:=l.o;omega) (Lx (Lx d.o.size f.o.size) (U6 _ _)) ?_;intro E C a n;have z:=Hd a;have h:=Hd n;clear a n)));go_roundw
   .have bG:=d.o.trans (f.o.mono d.o.size);exact ⟨p+128,L++[t],Au,by have:=l.o;simp;omega,by have:=o.o;omega,by simpa using z.o,(bG.alloc bG.size _).grown h.o (Lx bG.size (U6 _ _)) (U9 j.o (Le _))⟩
   .have:=o.o;simp [intOf];omega
  .obtain ⟨A,c,rfl,_⟩:=U4 a;have r:decide ((p:Int)<(s.size:Int))=false:=QW Oo;have q:decide (p<s.size)=false:=QW g;clear b hL;go_wp2;go_ret;exact ⟨A,_,c,L,rfl,⟨j.o,rfl⟩,by have:=l.o;have:=u.o;omega,d.o⟩
def kH (n:Int):n=0\/n=1\/n=2\/((n == 0)=false/\(n == 1)=false/\(n == 2)=false):=by
 by_cases c:n=0
 .exact .inl c
 by_cases a:n=1
 .exact .inr (.inl a)
 by_cases b:n=2
 .exact .inr (.inr (.inl b))
 exact .inr (.inr (.inr ⟨by simpa using c,by simpa using a,by simpa using b⟩))
def mW {G:Prop} (h:G:=by
  go_wp2;go_ret;exact ⟨by rw [HQ.o];rfl,HX.o.be⟩):G:=h
def Fr (d:DSet) (w:Wd):Calls prog 83 #[.agg (dC d).toArray] w (Ab w (.bool (EO d))):=by
 have HX:=Hd (DX.new d w);obtain ⟨R,c⟩:=yG (EO d);rw [c];unfold EO at c;have o:=HX.c 1 _ rfl;have j:=HX.c 2 _ rfl;have i:=HX.c 3 _ rfl;have n:=HX.c 4 _ rfl;generalize d.org=org at c o;generalize d.fmt=k at c j;generalize d.len=l at c i;generalize d.blk=b at c n;have e:=Hd c;clear c;by_cases f:org=0
 .subst f;rcases kH k with rfl|rfl|rfl|⟨g,q,m⟩
  .have HF:=Hd fun W=>P7 l b W
   have a:fvB l b=R:=by rw [<-e.o];cases h:fvB l b<;>simp [Fp,zP,h];simp [fvB] at h;omega
   rw [a] at HF;clear a;go_in;go_wp2_with (go_at_call 118;refine yE (HF _) ?_);go_ret;exact ⟨rfl,HX.be⟩
  .have HF:=Hd fun W=>BC l b W
   have a:vvB l b=R:=by rw [<-e.o];cases h:vvB l b<;>simp [Fp,zP,h];simp [vvB] at h;omega
   rw [a] at HF;clear a;go_in;go_wp2_with (go_at_call 119;refine yE (HF _) ?_);go_ret;exact ⟨rfl,HX.be⟩
  .have HF:=Hd fun W=>BG l b W
   have a:(svB l b&&decide (32<=b))=R:=by rw [<-e.o];simp [Fp,zP]
   generalize svB l b=p at HF a;generalize r:decide (32<=b)=s2 at a;have HQ:=Hd a;clear a;rcases ch (b:=p) (ch0 s2) with rfl|⟨rfl,rfl|rfl⟩
   all_goals
    go_in;go_wp2_with (go_at_call 120;refine yE (HF _) ?_);go_ret;exact ⟨by rw [<-HQ.o];rfl,HX.be⟩
  .have a:R=false:=by rw [<-e.o];simp at g q m;simp;omega
   have HQ:=Hd a;clear a;exact mW
 .have a:R=false:=by rw [<-e.o];simp [f]
  have HQ:=Hd a;have s:(org != 0)=true:=by simpa using f
  clear a f;exact mW
def Dx (d:DSet) (l:List Bz):(l.all fun s=>Z8 d s.size)=if d.fmt=0 then l.all fun s=>(s.size:Int) == d.len else l.all fun s=>decide ((s.size:Int)<=d.len):=by
 unfold Z8;split<;>rfl
def mX {G:Prop} (h:G:=by
  generalize (if l.all fun s=>decide ((s.size:Int)<=ln) then (0:Int) else 2)=R at HP ⊢;clear iG;go_in
  first
   |go_wp2_with (go_at_call 167;refine HP.o.mono ?_;rintro e w2 ⟨A2,k,c2,L,rfl,h1,hb⟩;have HR:=Hd h1;have HB:=Hd (HX.o.next hb);clear h1 hb)
    go_ret2
    exact ⟨A2,k,c2,L,rfl,HR.o,HB.o.be⟩
   |go_wp2_with (go_at_call 168;refine HP.o.mono ?_;rintro e w2 ⟨A2,k,c2,L,rfl,h1,hb⟩;have HR:=Hd h1;have HB:=Hd (HX.o.next hb);clear h1 hb)
    go_ret2
    exact ⟨A2,k,c2,L,rfl,HR.o,HB.o.be⟩):G:=h
def R5 (d:DSet) (A:Option Addr) (n c:Nat) (l:List Bz) (w:Wd) (j:Sl Ug 1 w w.1.size A n c l) (hn:n<=1100) (a:EO d=true):
  Calls prog 114 #[.agg (dC d).toArray,.slice A n c] w (RpG (if l.all fun s=>Z8 d s.size then 0 else 2) w):=by
 have HX:=Hd (DX.new d w);have m:=HX.c 2 _ rfl;have q:=HX.c 3 _ rfl;have o:=HX.c 4 _ rfl;have i:=j.alloc (Le _) (.cells (dC d).toArray 34);have g:=Hd (i.more (B':=(Aa w (dC d).toArray 34).1.size) Am);have iG:(0<=d.fmt/\d.fmt<=2)/\Fp d.fmt d.len d.blk=true:=by unfold EO at a;simp only [QU,QG] at a;exact ⟨⟨a.1.1.1.2,a.1.1.2⟩,a.1.2⟩
 obtain ⟨p,iG⟩:=iG;rw [Dx];unfold Fp at iG;generalize d.fmt=f at p iG m ⊢;generalize d.len=ln at iG q ⊢;generalize d.blk=b at iG o;clear j i a;rcases (by omega:f=0\/f=1\/f=2) with rfl|rfl|rfl
 .have HP:=Hd (R9 ln b A n c l _ g hn iG);rw [QK rfl];generalize (if l.all fun s=>(s.size:Int) == ln then (0:Int) else 2)=R at HP ⊢;clear iG;go_in;go_wp2_with (go_at_call 166;refine HP.mono ?_;rintro e w2 ⟨A2,k,c2,L,rfl,h1,hb⟩;have HR:=Hd h1;have HB:=Hd (HX.next hb);clear h1 hb)
  go_ret2
  exact ⟨A2,k,c2,L,rfl,HR,HB.be⟩
 .have HP:=Hd (R7 ln b A n c l _ g Oo iG);rw [QX (show ¬ ((1:Int)=0) from Ac)];exact mX
 .have HP:=Hd (R6 ln b A n c l _ g hn iG);rw [QX (show ¬ ((2:Int)=0) from Ac)];exact mX
def tz (n:Int) (s:Bz):∀ u∈[Value.int .i64 n,Value.string s],u.oneCell'=true:=fun u a=>by
 simp at a;rcases a with rfl|rfl<;>rfl
def Pb (d:DSet) (A:Option Addr) (n c:Nat) (l:List Bz) (w:Wd) (B:Sl Ug 1 w w.1.size A n c l) (hn:n<=1100):
  Calls prog 81 #[.agg (dC d).toArray,.int .i64 0,.slice A n c] w (BuG (if EO d then (if l.all fun s=>Z8 d s.size then 0 else 2) else 1) w):=by
 have x:=Hd (DX.new d w);have E:=Hd fun W=>Fr d W
 have J:=Hd fun W=>MN 0 W
 rw [show In 0=true from rfl] at J;have HS:=Hd B;obtain ⟨z,hz⟩:=yG (EO d);rw [hz] at E ⊢;cases z with
 |false=>
  rw [QX Ac];clear B hz;go_in;go_wp2_with (first|(with_reducible refine yL 34 3 x.o.b ?_)|(go_at_call 83;refine yT (E _) x.o.next fun X g=>?_))
  go_ret2
  exact ⟨_,rfl,g.o.be⟩
 |true=>
  rw [QK rfl];have P:=Hd fun (W:Wd) (h:Below w.1.size w W)=>R5 d A n c l W (B.after h h.size) hn hz
  have V:(if l.all fun s=>Z8 d s.size then (0:Int) else 2)=0\/(if l.all fun s=>Z8 d s.size then (0:Int) else 2)=2:=by split<;>simp
  generalize (if l.all fun s=>Z8 d s.size then (0:Int) else 2)=R at P V ⊢;have HNN:=Hd hn;have HH:Aw (∀ (b q:Nat) (W:Wd),b<=9223372036854775807->q<=9223372036854775807->Calls prog 116 #[.int .i64 0,.int .i64 b,.int .i64 q] W fun e w'=>∃ m t,e=.returned (.agg #[.int .i64 m,.string t])/\Below W.1.size W w'):=Hd fun b q W a hq=>Rh 0 b q W Ac a hq
  clear B hz;rcases V with rfl|rfl
  rotate_left
  .go_in;go_wp2_with (first|(refine Gl 34 3 ?_;first|(refine yK g.o.b ?_)|(refine yK x.o.b ?_))|(go_at_call 83;refine yT (E _) x.o.next fun X g=>?_)|(go_at_call 113;refine yE (J _) ?_)|(go_at_call 114;refine (P _ g.o.be).mono ?_;rintro e w4 ⟨A2,k,c2,L,rfl,C,a⟩;have O:=Hd (g.o.next a);clear C a))
   go_ret2
   exact ⟨_,rfl,O.o.be⟩
  .go_in
   go_wp2_with (first|(refine Gl 34 3 ?_;first|(refine yK g.o.b ?_)|(refine yK x.o.b ?_))|(go_at_call 83;refine yT (E _) x.o.next fun X g=>?_)|(go_at_call 113;refine yE (J _) ?_)|(go_at_call 114;refine (P _ g.o.be).mono ?_;rintro e w4 ⟨A2,k,c2,L,rfl,C,a⟩;have D:=Hd (C rfl);have O:=Hd (g.o.next a);clear C a)|(go_at_call 115;refine (Qz _ _ _ _ _ D.o.1 D.o.2.1 D.o.2.2).mono ?_;rintro e w5 ⟨s,rfl,Z,a⟩;have H:s.size<=5000000000000:=(by have:=D.o.2.1;omega);have aR:=Hd (O.o.next a);clear Z a)|(go_at_call 116;refine (HH _ _ _ Oo Oo).mono ?_;rintro e w6 ⟨m,t,rfl,a⟩;have F:=Hd (aR.o.next a);have wP:=Hd (WC (e:=177) (base:=w.1.size) (size:=2) w6 #[.int .i64 m,.string t] 1 F.o.be.size Ac rfl);clear a)|(go_at_call 117;refine (yt _ _ H).mono ?_;rintro e w7 ⟨A3,p,c3,Y,rfl,r,K,a⟩;have N:=Hd (And.intro (X7 r.1 (F.o.next Aj).be.size) r.2);have fE:=Hd ((F.o.next Aj).next a);have gM:=Hd (Ub wP a);clear r a))
   have iS:=Hd K;go_loopw [11,13] (fun v i wr=>∃ (j:Nat) (xs:List Value),j<=p/\i=.int .i64 j/\wr.ownsRow w.1.size 177 2 v (j+1) xs/\wr.ownsRow w.1.size 9 1 (.slice A3 p c3) p (Y.map Value.string)/\Below w.1.size w wr) (fun _ i _=>p-(intOf i).toNat)
   .exact ⟨0,_,Z0 _,rfl,gM,N.o.1,fE.o.be⟩
   .obtain ⟨j,xs,hj,rfl,u,hl3,a⟩:=hrel;have I:=Hd u;have M:=Hd a;have S:=Hd hl3;have y:=a.size;by_cases G:j<p
    .rw [<-Xt] at hl3;obtain ⟨bb,o,s2,rfl,eM,hg,Q⟩:=Sl.cell (f:=Ug) (k:=1) (fun _=>rfl) (Sl.of_own (f:=Ug) (k:=1) (fun _=>rfl) Ac hl3) G;have cr:=Q 0 _ rfl;simp only [QF,WY] at cr;have d1:decide ((j:Int)<(p:Int))=true:=QQ Oo;have d2:decide (j<p)=true:=QQ G;have hw:IntKind.i64.wrap (1+(j:Int))=1+(j:Int):=QL _ Oo;have HT:=Hd G;clear u a eM hg Q hl3 hj;go_wp2_with (at_builtin;go_must (refine Ap2 vp underlying130 (I.o.alloc _) (ET (Blk.new _ _ _) rfl) (tz _ s2) Oo (Lx y (U6 _ _)) ?_;intro v8 w8 u U;have wK:=Hd u;have T:=Hd U;clear u U));go_roundw
     .exact ⟨j+1,_,HT,Au,wK,(S.o.alloc _).kept T ((O2 S I Ac).imp id id),(M.o.alloc M.o.size _).grown T (Lx y (U6 _ _)) (U9 I (Le _))⟩
     .exact At
    .obtain rfl:j=p:=Oo
     have d1:decide ((j:Int)<(j:Int))=false:=QW Oo;clear u a hl3;go_wp2
     go_ret2
     exact ⟨_,rfl,M⟩
section
variable {ps:List Pr} {j:Nat} {q:Pr} {d:DSet} {s:Int×List Bz×Int} {R:Bool} {t:TypeId} {w W:Wd}
structure LI (d:DSet) (ps:List Pr) (j:Nat) (s:Int×List Bz×Int) (R:Bool):Prop where
 eq:fvL d (J4 ps j) j s (ps.drop j)=R
 ad:d.org=1->AdrI d (ps.take j) s
def Cu (b:ps[j]? =some q):ps.drop j=q::ps.drop (j+1):=by
 obtain ⟨a,rfl⟩:=QZ.1 b;exact QO a
def LI.no (h:LI d ps j s R) (a:ps[j]? =some q) (hn:Ue d q=false\/Ni (J4 ps j) q.key=false\/Vv d j s q=false):R=false:=by
 rw [<-h.eq,Cu a];unfold fvL;rcases hn with h|h|h<;>rw [h]<;>simp
def LI.next (h:LI d ps j s R) (e:ps[j]? =some q) (b:Ue d q=true) (f:Ni (J4 ps j) q.key=true) (c:Vv d j s q=true)
  (hz:d.org=1->(d.itv=128\/d.itv=256\/d.itv=512)/\d.len<=200) (i:j<=1024):LI d ps (j+1) (I8 d s q) R:=by
 refine ⟨?_,fun a=>?_⟩
 .rw [<-h.eq,Cu e,Zb ps j q e]
  conv=>rhs;unfold fvL
  rw [b,f,c];rfl
 .have hk:(Vp d q.rcd s.1 s.2.1 s.2.2).1=q.key:=by
   unfold Vv at c;rw [QX Oo,QK a] at c;exact Xs c
  have g:q.rcd.size<=200:=by
   unfold Ue at b;rw [QX Oo,QX Oo,QK a] at b;simp only [QU,QG] at b;have:=(hz a).2;omega
  have hn:=T3 (r:=q.rcd) (h.ad a) (hz a).1 (by rw [WX];omega) g;rw [hk] at hn;unfold I8;rw [QK a,YG,e];exact hn
def LI.key (h:LI d ps j s R) (a:d.org=1) (hz:d.itv=128\/d.itv=256\/d.itv=512) (b:j<=1024) (q:Pr):Vv d j s q=((N2 d (ps.take j) q.rcd).toList == q.key.toList):=by
 unfold Vv;rw [QX Oo,QK a,CG (h.ad a) hz (by rw [WX];omega)]
def LI.done (h:LI d ps j s R) (a:ps.length=j):R=true:=by
 rw [<-h.eq,JC Oo];rfl
def LI.start (d:DSet) (ps:List Pr):LI d ps 0 (0,[],0) (fvL d none 0 (0,[],0) ps):=⟨rfl,fun _=>AdrI.start d⟩
def OB.c {l:List Value} (h:OB t l.toArray w W) (i:Nat) (v:Value) (a:l[i]? =some v):W.cell? ⟨w.1.size,i,none⟩=some v:=by rw [h.b.cell];simpa using a
def OB.mid {x:Cnt} (h:OB t (cnC x).toArray w W):W.rangeAt w.1.size 0 (dC x.d):=by
 intro j v a;refine h.c (0+j) v ?_;obtain ⟨b,c⟩:=QZ.1 a;rw [QB,cnC,WF b,a]
def TA (x:Cnt) (r:Bz) (w:Wd) (e:CW w x) (hz:x.d.org≠0->x.d.itv=128\/x.d.itv=256\/x.d.itv=512) (g:∀ p∈x.ps,p.rcd.size<=1000):
  Calls prog 91 #[.agg (cnC x).toArray,.string r] w (StG (J5 x.d x.ps r) w):=by
 have c:=Hd (OB.new 37 (cnC x).toArray w);have c1:=c.o.c 1 _ rfl;have l:=c.o.c 22 _ rfl;have o:=e.le;have a:=e.sl.len;unfold J5;by_cases b:x.d.org=0
 .rw [QK b,a];have f:=c1;rw [b] at f;have hw:IntKind.i64.wrap ((x.pn:Int)+1)=(x.pn:Int)+1:=QL _ Oo;clear e hz g c1 b a;go_in;go_wp2_with (go_at_call 88;refine yT (EZ _ _) c.o.next fun m i=>?_);go_ret;exact ⟨rfl,i.o.be⟩
 .rw [QX b];have k:=Hd fun (W:Wd) (h:Below w.1.size w W)=>FA x.d x.pA x.pn x.pc x.ps r W (e.sl.after h h.size) Oo (hz b) g
  have n:(x.d.org == 0)=false:=by simpa using b
  clear e hz g a b;go_in;go_wp2_with (first|(with_reducible refine yM 34 14 c.o.mid ?_)|(go_at_call 87;refine yT (k.o _ c.o.be) c.o.next fun m i=>?_));go_ret;exact ⟨rfl,i.o.be⟩
end
section
variable {x:Cnt} {w W:Wd} {d:DSet} {ps:List Pr}
section
variable {P:Program} {ops:Array Oper} {Q:Exit->Act->Wd->Prop} {rest:List Oper} {o:Oper} {a:Act} {w:Wd} {x:Operand} {d:TypeDesc}
def LqH (ty:TypeId) (g:Nat) (cs:Array Value) (f:w.1[g]? =some (.cells cs ty (0,0))) (e:P.underlying ty=some d) (h:wpList P ops Q rest (a.put o.dst (.agg cs)) w)
  (hw:Region.wanted o (yielded ops a.tmps)=true:=by kernel_rfl) (c:o.op=.load ty x:=by rfl) (j:a.eval x=Ag g 0:=by rfl)
  (b:(match d with | .struct _ | .array _ _=>true|_=>false)=true:=by rfl) (i:(P.info? ty).map (·.size)=some cs.size:=by kernel_rfl):wpList P ops Q (o::rest) a w:=
 Up hw ty x c g j ty cs (0,0) d f e b i h
end
def cht {b:Bool} {P:Prop} (h:P):b=true\/(b=false/\P):=by
 cases b with
 |true=>exact .inl rfl
 |false=>exact .inr ⟨rfl,h⟩
def Cg (x:Cnt) (w:Wd) (b:Array Value):FV2 x w (((Aa w (cnC x).toArray 37).alloc (.cells b 34)).setRow (w.1.size+1) (dC x.d).toArray):=by
 have h:=U5 (Aa w (cnC x).toArray 37) b (dC x.d).toArray 34;rw [show (Aa w (cnC x).toArray 37).1.size=w.1.size+1 by simp] at h;rw [h];exact Ch x w
def FV2.c1 (h:FV2 x w W) (i:Nat) (v:Value) (b:(cnC x)[i]? =some v):W.cell? ⟨w.1.size,i,none⟩=some v:=by rw [h.b1.cell];simpa using b
def FV2.c2 (h:FV2 x w W) (i:Nat) (v:Value) (b:(dC x.d)[i]? =some v):W.cell? ⟨w.1.size+1,i,none⟩=some v:=by rw [h.b2.cell];simpa using b
def RcP (l:List Bz) (n:Nat) (x:Value) (W:Wd):Prop:=∃ B k,x=.slice B n k/\Sl Ug 1 W W.1.size B n k l
def rcM {l:List Bz} {n:Nat} (x:Value) (W W':Wd) (b:Rb W W') (h:RcP l n x W):RcP l n x W':=by
 obtain ⟨B,k,e,c⟩:=h;exact ⟨B,k,e,c.after b b.size⟩
def BuP (R:Int) (x:Value) (_:Wd):Prop:=∃ v,x=.tuple #[v,.int .i64 R]
def j9 {R:Bool} (e:EO d=true) (j:d.org=0) (g:fvL d none 0 (0,[],0) ps=R) (h:(ps.map (·.rcd)).all (fun s=>Z8 d s.size)=false):R=false:=by
 cases R with
 |false=>rfl
 |true=>
  exfalso;rw [ZM] at h;obtain ⟨s,i,f⟩:=h;obtain ⟨p,c,rfl⟩:=YY.1 i;have b:=Ze d ps _ _ _ g p c;unfold Ue Dd at b;rw [QX (by omega),QX (by omega),QX (by omega),e,QK rfl,QX f] at b;exact absurd b (by decide)
def mB (c:EO d=true) (f:d.org=0) (h:(ps.map (·.rcd)).all (fun s=>Z8 d s.size)=true):∀ q∈ps,Ue d q=true:=fun q b=>by
 have e:=WE.1 h q.rcd (YY.2 ⟨q,b,rfl⟩);unfold Ue Dd;rw [QX (by omega),QX (by omega),QX (by omega),c,QK rfl,QK e];rfl
def hdB (d:DSet):Bool:=if d.org=0 then EO d else Yd d
def P1 (x:Cnt) (w:Wd) (m:CW w x) (c:(decide (x.d.id<1) || decide (1099511627776<x.d.id) || decide (x.ap<0) || decide (1099511627776<x.ap) || !Y9 x.d x.ap x.ps)=true):Calls prog 48 #[.agg (cnC x).toArray] w (Ab w (.bool (Vi x.d x.ap x.ps))):=by
 obtain ⟨R,q⟩:=yG (Vi x.d x.ap x.ps);rw [q];have v:=Hd (OB.new 37 (cnC x).toArray w);have H:=Hd (Xc x.d);have B:=Hd fun e=>U3 (Aa w (cnC x).toArray 37) 34 e (w.1.size+1) (by simp)
 have I:=Hd fun e=>Cg x w e
 have t:Aw (∀ W,Below w.1.size w W->Calls prog 80 #[.agg (cnC x).toArray] W (Ab W (.bool (Y9 x.d x.ap x.ps)))):=Hd fun W A=>Nl x W (m.below A)
 have u:=m.le;have S:decide ((1024:Int)<(x.pn:Int))=false:=QW (by omega);generalize E:decide (x.d.id<1)=l at c;generalize y:decide (1099511627776<x.d.id)=k at c;generalize J:decide (x.ap<0)=i at c;generalize C:decide (1099511627776<x.ap)=j at c;generalize s:Y9 x.d x.ap x.ps=r at t c
 have K:Aw (R=(((!l&&!k)&&hdB x.d)&&!i&&!j&&r&&fvL x.d none 0 (0,[],0) x.ps)):=Hd (by
  have L:decide (1<=x.d.id) = !l:=by rw [<-E];by_cases h:x.d.id<1<;>simp [h]<;>omega
  have G:decide (x.d.id<=1099511627776) = !k:=by rw [<-y];by_cases h:1099511627776<x.d.id<;>simp [h]<;>omega
  have M:decide (0<=x.ap) = !i:=by rw [<-J];by_cases h:x.ap<0<;>simp [h]<;>omega
  have N:decide (x.ap<=1099511627776) = !j:=by rw [<-C];by_cases h:1099511627776<x.ap<;>simp [h]<;>omega
  rw [<-q];unfold Vi Zq;rw [L,G,M,N,s];rfl)
 have z:=Hd c;clear m q s u c;rcases cht (b:=l) (cht (b:=k) (cht (b:=i) (cht (b:=j) (ch0 r)))) with rfl|⟨rfl,rfl|⟨rfl,rfl|⟨rfl,rfl|⟨rfl,rfl|rfl⟩⟩⟩⟩
 rotate_left 5
 .exact absurd z.o (by decide)
 all_goals
  go_in
  go_upto_if 47 with (first|(with_reducible refine yM 34 12 v.o.mid ?_)|(with_reducible refine yS 34 3 (B.o _) H.o ?_;refine Wg (Φ:=FV2 x w) (I.o _) (fun T f=>?_);have g:=Hd f;have D:=f.c2 0 _ rfl;have n:=f.c1 21 _ rfl;have p:=f.c1 22 _ rfl;clear f)|((with_reducible refine Gl 34 3 ?_);refine Wk ?_ (hw:=by rfl))|((with_reducible refine Gb 129 ?_);refine Wk ?_ (hw:=by rfl))|((with_reducible refine Gl 34 3 ?_);refine LqH 34 (w.1.size+1) (dC x.d).toArray g.o.b2 underlying34 ?_)|((with_reducible refine Gb 129 ?_);refine U1 (by kernel_rfl) 129 _ rfl (cnC x).toArray (by kernel_rfl) ?_)|(go_at_call 80;refine yT (t.o _ g.o.be) (Xh g.o) fun O F=>?_;clear D n p))
  go_wp2;go_ret;refine ⟨by rw [K.o];cases hdB x.d<;>rfl,?_⟩;first|exact F.o.be|exact g.o.be
end
section
variable {d:DSet} {x:Cnt} {q:Pr} {g:Nat} {w W:Wd}
def RW (h:Yd d=true):(d.itv=128\/d.itv=256\/d.itv=512)/\d.len<=200/\1<=d.org/\d.org<=3:=by
 unfold Yd EF at h;simp only [QU] at h;obtain ⟨⟨⟨⟨c,a⟩,b⟩,_⟩,_⟩:=h;have a:=winB_true.1 a;have b:=winB_true.1 b;exact ⟨Kr c,Oo,a.1,a.2⟩
def CD {e:Int} {a:List Pr} (h:Y9 d e a=true):∀ p∈a,p.key.size<=32/\p.rcd.size<=1000:=fun p b=>by
 unfold Y9 at h;simp only [QU,XN] at h;have c:=YC.1 h.2 p b;simp [IG] at c;omega
structure P3 (x:Cnt) (q:Pr) (g:Nat) (w W:Wd):Prop where
 fv:FV2 x w W
 p:Blk W g 74 #[.string q.key,.string q.rcd]
def P3.next {W':Wd} (h:P3 x q g w W) (a:Below W.1.size W W'):P3 x q g w W':=⟨Xh h.fv a,h.p.below a h.p.lt⟩
def P3.k0 (h:P3 x q g w W):W.cell? ⟨g,0,none⟩=some (.string q.key):=(h.p.cell 0).trans rfl
def P3.k1 (h:P3 x q g w W):W.cell? ⟨g,1,none⟩=some (.string q.rcd):=(h.p.cell 1).trans rfl
end
end Go.Proofs.YtdleakjejodjjaaGreatDoor
