/- Of the history laws. -/
import Derived.Test.YtdleakjejodjjaaGreatDoorSBM
namespace Go.Proofs.YtdleakjejodjjaaGreatDoor
open Tryz
set_option linter.defProp false
set_option linter.unusedVariables false
set_option linter.unusedSimpArgs false
set_option maxRecDepth 100000
set_option maxHeartbeats 20000000
open Go.RowKit
section
structure DE2 (R:En×Bz×Int) (a:EnA) (g k:Nat) (w W:Wd):Prop where
 d:DB w W
 b:Blk W g 144 (enC R.1 a).toArray
 r:Blk W k 185 (rdV R.2.1 R.2.2)
 ew:EW [w.1.size] W R.1 a
 hg:w.1.size+1<=g
def DE2.next {R:En×Bz×Int} {a:EnA} {g k:Nat} {w W W':Wd} (h:DE2 R a g k w W) (b:Below W.1.size W W'):DE2 R a g k w W':=⟨h.d.next b,h.b.below b h.b.lt,h.r.below b h.r.lt,h.ew.below b,h.hg⟩
structure KB (R:En×Bz×Int) (f:Option EnA) (g k:Option Nat) (w W:Wd):Prop where
 d:DB w W
 e:∀ a,f=some a->EW (w.1.size::(g.toList++k.toList)) W R.1 a/\UsA R.1 a
 b:∀ g0,g=some g0->w.1.size+1<=g0/\∃ old:Array Value,old.size=33/\Blk W g0 144 old
 r:∀ k0,k=some k0->w.1.size+1<=k0/\∃ old:Array Value,old.size=2/\Blk W k0 185 old
section
variable {R:En×Bz×Int} {f:Option EnA} {g k:Option Nat} {w W W':Wd} {E:En} {a:EnA} {S T:List Nat}
def DB.lt (h:DB w W):w.1.size+1<=W.1.size:=by
 obtain ⟨⟨c,_,b⟩,_⟩:=h;exact b.lt
def DB.row (h:DB w W) {g:Nat} (i:w.1.size+1<=g) (cs:Array Value):DB w (W.setRow g cs):=by
 obtain ⟨⟨b,c,d⟩,e⟩:=h;exact ⟨⟨b,c,(QE _ _ _ _ Oo).trans d⟩,Xq e Oo _⟩
def EW.more (h:EW S W E a) (i:∀ k∈T,k∈S\/W.1.size<=k):EW T W E a:=
 ⟨h.sa,h.sg,fun p b d e=>by
  rcases i _ e with c|c
  .exact h.na p b d c
  .have h3:=h.sa;rw [b] at h3;have:=h3.blk d;omega,fun p b d e=>by
  rcases i _ e with c|c
  .exact h.ng p b d c
  .have h3:=h.sg;rw [b] at h3;have:=h3.blk d;omega⟩
def EW.fre (h:EW [] W' E a) (e:Fre W E a) (i:∀ k∈T,k<W.1.size):EW T W' E a:=
 ⟨h.sa,h.sg,fun p b d c=>by have:=e.1 p b d;have:=i _ c;omega,fun p b d c=>by have:=e.2 p b d;have:=i _ c;omega⟩
def EW.row (h:EW S W E a) {g:Nat} (c:g∈S) (cs:Array Value):EW S (W.setRow g cs) E a:=
 h.far (T:=[g]) ⟨rfl,rfl,rfl,Am,fun k _ b=>QE _ _ _ _ (by simpa using b)⟩ (fun k b=>by rw [QT.1 b];exact c)
def KB.next (h:KB R f g k w W) (d:Below W.1.size W W'):KB R f g k w W':=
 ⟨h.d.next d,fun a j=>⟨(h.e a j).1.below d,(h.e a j).2⟩,fun m o=>by
  obtain ⟨i,b,e,c⟩:=h.b m o;exact ⟨i,b,e,c.below d c.lt⟩,fun n l=>by
  obtain ⟨i,b,e,c⟩:=h.r n l;exact ⟨i,b,e,c.below d c.lt⟩⟩
def KB.call (h:KB R none g k w W) (e:Below W.1.size W W') {a:EnA} (he:EW [] W' R.1 a/\Fre W R.1 a) (i:UsA R.1 a):KB R (some a) g k w W':=
 have d:=h.next e
 ⟨d.d,fun b e=>by
  rw [<-WQ e];refine ⟨he.1.fre he.2 fun x c=>?_,i⟩;rcases QH.1 c with rfl|c
  .exact h.d.lt
  rcases QC.1 c with c|c
  .obtain ⟨_,old,_,h3⟩:=h.b x (by simpa using c);exact h3.lt
  .obtain ⟨_,old,_,h3⟩:=h.r x (by simpa using c);exact h3.lt,d.b,d.r⟩
def KB.newE (h:KB R f none k w W) (z:Array Value) (hz:z.size=33):KB R f (some W.1.size) k w (Aa W z 144):=
 have e:=(Bf W.1.size W).alloc (Le _) (.cells z 144);have d:=h.next e
 ⟨d.d,fun a c=>⟨((h.e a c).1.more fun x b=>by
  rcases QH.1 b with rfl|b
  .exact .inl QP
  rcases QC.1 b with b|b
  .exact .inr (KM (QT.1 b).symm)
  .exact .inl (QN _ (KC _ b))).below e,(h.e a c).2⟩,fun j i=>by rw [<-WQ i];exact ⟨h.d.lt,z,hz,Blk.new _ _ _⟩,d.r⟩
def KB.newR (h:KB R f g none w W) (z:Array Value) (hz:z.size=2):KB R f g (some W.1.size) w (Aa W z 185):=
 have e:=(Bf W.1.size W).alloc (Le _) (.cells z 185);have d:=h.next e
 ⟨d.d,fun a c=>⟨((h.e a c).1.more fun x b=>by
  rcases QH.1 b with rfl|b
  .exact .inl QP
  rcases QC.1 b with b|b
  .exact .inl (QN _ (YJ _ b))
  .exact .inr (KM (QT.1 b).symm)).below e,(h.e a c).2⟩,d.b,fun j i=>by rw [<-WQ i];exact ⟨h.d.lt,z,hz,Blk.new _ _ _⟩⟩
def KB.fill {a:EnA} {g k:Nat} (h:KB R (some a) (some g) (some k) w W) (j:w.1.size+1<=g) (l:w.1.size+1<=k) {d b:Array Value} (c:Blk W g 144 d) (e:Blk W k 185 b) (i:g≠k):
  DE2 R a g k w ((W.setRow g (enC R.1 a).toArray).setRow k (rdV R.2.1 R.2.2)):=
 ⟨(h.d.row j _).row l _,(QE _ _ _ _ i).trans (QR _ _ _ _ _ _ c),QR _ _ _ _ _ _ ((QE _ _ _ _ i.symm).trans e),(((h.e a rfl).1.row Am _).row Am _).less Am,j⟩
end
def WgH {P:Program} {e:Region.Mode} {ops:Array Oper} {Q:Exit->Act->Wd->Prop} {S:Wd->Prop} {c:Nat} {b:Array Bool} {a:Act} {Φ:Wd->Prop} {d:Wd} (i:Φ d) (h:∀ W,Φ W->wpAnyH P e ops Q S c b a W):wpAnyH P e ops Q S c b a d:=h d i
def jL {α:Type} {G:α->Nat->Nat->Wd->Prop} {Φ:α->Nat->Nat->Wd->Prop} {X:Prop} (b:∀ a g k W,Φ a g k W->G a g k W) (c:(∀ a g k W,Φ a g k W->G a g k W)->X):X:=c b
def ch4 (p q r:Prop):¬ p\/(p/\¬ q)\/(p/\q/\¬ r)\/(p/\q/\r):=by
 by_cases b:p<;>by_cases c:q<;>by_cases d:r<;>simp [b,c,d]
def GL (s:Bz) (w:Wd) (hs:s.size<=maxLen):Calls prog 124 #[.string s] w (DeG s w):=by
 by_cases hz:s.size<32\/200<s.size
 .have hd:II s=none:=by unfold II;rw [QK hz]
  have hc:(s.size<32)\/(¬ s.size<32/\200<s.size):=Oo
  clear hz hs
  have fN:(decide ((s.size:Int)<32)=true)\/(decide ((s.size:Int)<32)=false/\decide (200<(s.size:Int))=true):=by
   rcases hc with h|⟨h,z⟩
   .exact .inl (QQ Oo)
   .exact .inr ⟨QW Oo,QQ Oo⟩
  clear hc;rcases fN with d1|⟨d1,d2⟩
  all_goals
   go_in;go_wp2_with (first|(apply Gb 144;apply U1 Ak 144 _ rfl (enC enZ enN).toArray Ak)|(apply Gt 144 2;apply Lv 144 w.1.size (enC enZ enN).toArray (Blk.new w _ _) (Um _ _);apply Wg (Φ:=fun W=>Blk W w.1.size 144 (enC enZ enN).toArray/\Below w.1.size w W) ⟨QR _ _ _ _ _ _ (Blk.new w _ _),Xq Aj (Le _) _⟩;intro W1 A));refine Br (U2 results124 rfl rfl (Ux _ _ _ A.1 rfl)) rfl ?_;exact ⟨enZ,enN,_,rfl,pz,⟨vZ,fun _=>rfl⟩,vY _,.inr ⟨hd,.inl rfl⟩,A.2⟩
 .have aT:32<=s.size/\s.size<=200:=Oo
  have d1:decide ((s.size:Int)<32)=false:=QW Oo;have d2:decide (200<(s.size:Int))=false:=QW Oo;have eL:=fun J:Array Value=>show J.size=33->DB w (Aa w J 144) from fun X=>⟨⟨J,X,Blk.new w _ _⟩,Aj⟩
  obtain ⟨p,hp⟩:∃ p,Yr s=p:=⟨_,rfl⟩
  have cU:0<s.size:=Oo
  have H0:((s[0]).toNat:Int)=p:=by
   rw [<-hp];unfold Yr;rw [WJ,QV (by exact cU)];rfl
  obtain ⟨lf,M⟩:∃ lf,s.extract 32 s.size=lf:=⟨_,rfl⟩
  have hlz:lf.size<=maxLen:=by rw [<-M,XZ];omega
  clear hz hs;go_wp2;go_loopw [4] (fun i wr=>∃ j:Nat,j<=5/\i=.int .i64 j/\DI s j/\DB w wr) (fun i _=>5-(intOf i).toNat)
  .exact ⟨0,Z0 _,rfl,.inl fun k o=>absurd o (Nat.not_lt_zero _),eL _ rfl⟩
  .obtain ⟨j,hj,rfl,hD,hB⟩:=hrel;have t:=Hd hB;have HD:=Hd hD;by_cases C:j<5
   .have d3:decide ((j:Int)<=4)=true:=QQ Oo;have N:j<(⟨#[68,71,65,67,80]⟩:Bz).size:=C;obtain ⟨q,hq⟩:∃ q:Int,F1 j=q:=⟨_,rfl⟩
    have HL:(((⟨#[68,71,65,67,80]⟩:Bz)[j]).toNat:Int)=q:=by
     rw [<-hq];rcases (show j=0\/j=1\/j=2\/j=3\/j=4 from Oo) with rfl|rfl|rfl|rfl|rfl<;>rfl
    have HQ:=Hd hq;have HJ5:=Hd C;clear hB hD hq hj;go_wp2;by_cases hm:p=q
    .have HM:=Hd hm;clear hm;apply WzR (S:=DB w) (R:=Rb) (t.next (Bf _ _).drew) (fun _ _ h r=>h.next r);apply xp (.string s);apply xp (.int .u8 p) (y:=WL ⟨Af,by intro w2 _;have A:=cU;have z:=H0;go_simp⟩);apply xp (.int .i64 j);apply xp (.int .u8 q) (y:=WL ⟨Af,by intro w2 _;have A:=N;have z:=HL;go_simp;intro h5;exact absurd h5 Oo⟩);apply xp (.bool false) (y:=WL ⟨Af,by intro w2 _;go_simp;exact HM⟩);refine xn fun W1 jV _=>?_
     have t:=Hd jV;have HJZ:=Hd N;clear jV HL H0 N;go_wp2;go_loopw [5] (fun v wq=>∃ n:Nat,n<=31/\v=.int .i64 ((n:Int)+1)/\(∀ x (h:x<s.size),n+1<=x->x<32->s[x]=32)/\DB w wq) (fun v _=>(intOf v).toNat)
     .exact ⟨31,Le _,rfl,fun x _ A z=>absurd A Oo,t⟩
     .obtain ⟨n,hn,rfl,hbl,hB⟩:=hrel;have t:=Hd hB;have fX:=Hd hbl;have hns:n<s.size:=by have:=aT.1;omega
      have cX:IntKind.i64.wrap ((n:Int)+1-1)=n:=by rw [ZE];omega
      obtain ⟨c,hc⟩:∃ c,(s[n]).toNat=c:=⟨_,rfl⟩
      have hcase:(decide ((1:Int)<(n:Int)+1)=true/\c=32/\n≠0)\/((decide ((1:Int)<(n:Int)+1)=false\/(decide ((1:Int)<(n:Int)+1)=true/\¬ c=32))/\(n+1=1\/∃ h:n+1-1<s.size,s[n+1-1]≠32)):=by
       by_cases hn0:n=0
       .exact .inr ⟨.inl (QW Oo),.inl Oo⟩
       .have Z:decide ((1:Int)<(n:Int)+1)=true:=QQ Oo;by_cases F:c=32
        .exact .inl ⟨Z,F,hn0⟩
        .refine .inr ⟨.inr ⟨Z,F⟩,.inr ⟨hns,fun h=>F ?_⟩⟩;rw [<-hc];have z:s[n]=32:=h;rw [z];rfl
      rcases hcase with ⟨Z,rfl,hn0⟩|⟨Z,hx⟩
      .clear hB hbl;go_wp2;refine ⟨⟨n-1,Oo,by rw [show ((n-1:Nat):Int)+1=n from Oo],fun x h A z=>?_,t⟩,by simp [intOf]⟩;by_cases hxn:x=n
       .subst hxn;exact VV.1 hc
       .exact fX x h Oo z
      .obtain ⟨O,bU⟩:∃ O,Ei (s.extract 1 32)=O:=⟨_,rfl⟩
       have hE:s.extract 1 (n+1)=O:=by rw [<-bU];exact zu Oo Oo aT.1 (fun x h A z=>fX x h A z) hx
       have hnz:O.size<=300:=by rw [<-hE,XZ];omega
       have HE:=Hd (And.intro hE bU);have HNZ:=Hd hnz;clear hB hbl hx hE bU hnz fX;obtain ⟨b,V⟩:∃ R,rdQ j O lf=R:=⟨_,rfl⟩
       have H:=Hd fun W=>Rk (by omega:(j:Int)=0\/(j:Int)=1\/(j:Int)=2\/(j:Int)=3\/(j:Int)=4) O lf W hlz
       rw [V] at H;have HR8:=Hd V;clear V;rcases Z with Z|⟨Z,F⟩
       all_goals
        go_wp2;apply jL (Φ:=fun a g k W=>DE2 b a g k w W/\UsA b.1 a);rotate_left
        .intro TAIL;refine Rw (S:=fun _=>True) Ak trivial (fun e=>?_);refine tk 0 (.int .i64 j) e ?_;refine tk 1 (.string s) e ?_;refine tk 2 (.int .i64 ((n:Int)+1)) e ?_;refine tk 3 (.string O) e ?_ (y:=WL ⟨Af,by intro w2 _;have h:=HE.1;have z:=hns;go_simp;rw [QK ⟨Oo,Oo⟩,QK Oo]⟩);refine tk 4 (.agg (enC (enK j O) enN).toArray) e ?_ (y:=WL ⟨Af,fun _ _=>Ak⟩);refine tk 5 (.string s) e ?_;refine tk 6 (.string lf) e ?_ (y:=WL ⟨Af,by intro w2 _;have h:=M;have z:=aT.1;go_simp;intro h5;exact absurd h5 Oo⟩);refine tk 7 (.agg (rdV lf 0)) e ?_ (y:=WL ⟨Af,fun _ _=>Ak⟩);have l:Aw (KB b none none none w wr.drew):=Hd ⟨t.next (Bf _ _).drew,fun a h=>by (cases h),fun g h=>by (cases h),fun k h=>by (cases h)⟩;apply Aq [8,12,13]
         refine (Rc (fun K d=>?_) (Rc (fun K d=>?_) (Rc (fun K d=>?_) An)));go_simp;apply (H _).mono;rintro x Q ⟨a,rfl,D,B,r⟩;simp only [];have l:=Hd (l.call r D B);refine d.out _ _ trivial (fun e=>?_);clear d K r D B;try simp only [Act.put,Sv,Sz,Sw]
         apply tk 9 (.tuple #[.agg (enC b.1 a).toArray,.agg (rdV b.2.1 b.2.2)]) e;apply tk 10 (.agg (enC b.1 a).toArray) e;apply tk 11 (.agg (rdV b.2.1 b.2.2)) e;apply Aq [12,13];refine (Rc (fun K d=>?_) (Rc (fun K d=>?_) An));go_simp;refine d.out _ _ trivial (fun e=>?_);clear d K;try simp only [Act.put,Sv,Sz,Sw]
         obtain ⟨g,u⟩:∃ g,g=Q.1.size:=⟨_,rfl⟩
         rw [<-u];refine WgH (Φ:=KB b (some a) (some g) none w) (by rw [u];exact l.newE _ rfl) (fun I m=>?_);have l:=Hd m;clear m u;apply Aq [13];refine (Rc (fun K d=>?_) An);go_simp;refine d.out _ _ trivial (fun e=>?_);clear d K;try simp only [Act.put,Sv,Sz,Sw]
         obtain ⟨k,o⟩:∃ k,k=I.1.size:=⟨_,rfl⟩
         rw [<-o];refine WgH (Φ:=KB b (some a) (some g) (some k) w) (by rw [o];exact l.newR _ rfl) (fun G m=>?_);have l:=Hd m;clear m o;rotate_left;go_simp;refine d.out _ _ trivial (fun e=>?_);clear d K;try simp only [Act.put,Sv,Sz,Sw]
         obtain ⟨k,o⟩:∃ k,k=Q.1.size:=⟨_,rfl⟩
         rw [<-o];refine WgH (Φ:=KB b (some a) none (some k) w) (by rw [o];exact l.newR _ rfl) (fun G m=>?_);have l:=Hd m;clear m o;apply Aq [12];refine (Rc (fun K d=>?_) An);go_simp;refine d.out _ _ trivial (fun e=>?_);clear d K;try simp only [Act.put,Sv,Sz,Sw]
         obtain ⟨g,u⟩:∃ g,g=G.1.size:=⟨_,rfl⟩
         rw [<-u];refine WgH (Φ:=KB b (some a) (some g) (some k) w) (by rw [u];exact l.newE _ rfl) (fun I m=>?_);have l:=Hd m;clear m u;rotate_left;go_simp;refine d.out _ _ trivial (fun e=>?_);clear d K;try simp only [Act.put,Sv,Sz,Sw]
         obtain ⟨g,u⟩:∃ g,g=wr.1.size:=⟨_,rfl⟩
         rw [<-u];refine WgH (Φ:=KB b none (some g) none w) (by rw [u];exact l.newE _ rfl) (fun I m=>?_);have l:=Hd m;clear m u;apply Aq [8,13];refine (Rc (fun K d=>?_) (Rc (fun K d=>?_) An));go_simp;apply (H _).mono;rintro x Q ⟨a,rfl,D,B,r⟩;simp only [];have l:=Hd (l.call r D B);refine d.out _ _ trivial (fun e=>?_);clear d K r D B;try simp only [Act.put,Sv,Sz,Sw]
         apply tk 9 (.tuple #[.agg (enC b.1 a).toArray,.agg (rdV b.2.1 b.2.2)]) e;apply tk 10 (.agg (enC b.1 a).toArray) e;apply tk 11 (.agg (rdV b.2.1 b.2.2)) e;apply Aq [13];refine (Rc (fun K d=>?_) An);go_simp;refine d.out _ _ trivial (fun e=>?_);clear d K;try simp only [Act.put,Sv,Sz,Sw]
         obtain ⟨k,o⟩:∃ k,k=Q.1.size:=⟨_,rfl⟩
         rw [<-o];refine WgH (Φ:=KB b (some a) (some g) (some k) w) (by rw [o];exact l.newR _ rfl) (fun G m=>?_);have l:=Hd m;clear m o;rotate_left;go_simp;refine d.out _ _ trivial (fun e=>?_);clear d K;try simp only [Act.put,Sv,Sz,Sw]
         obtain ⟨k,o⟩:∃ k,k=I.1.size:=⟨_,rfl⟩
         rw [<-o];refine WgH (Φ:=KB b none (some g) (some k) w) (by rw [o];exact l.newR _ rfl) (fun G m=>?_);have l:=Hd m;clear m o;apply Aq [8];refine (Rc (fun K d=>?_) An);go_simp;apply (H _).mono;rintro x Q ⟨a,rfl,D,B,r⟩;simp only [];have l:=Hd (l.call r D B);refine d.out _ _ trivial (fun e=>?_);clear d K r D B;try simp only [Act.put,Sv,Sz,Sw]
         apply tk 9 (.tuple #[.agg (enC b.1 a).toArray,.agg (rdV b.2.1 b.2.2)]) e;apply tk 10 (.agg (enC b.1 a).toArray) e;apply tk 11 (.agg (rdV b.2.1 b.2.2)) e;rotate_left;go_simp;refine d.out _ _ trivial (fun e=>?_);clear d K;try simp only [Act.put,Sv,Sz,Sw]
         obtain ⟨k,o⟩:∃ k,k=wr.1.size:=⟨_,rfl⟩
         rw [<-o];refine WgH (Φ:=KB b none none (some k) w) (by rw [o];exact l.newR _ rfl) (fun G m=>?_);have l:=Hd m;clear m o;apply Aq [8,12];refine (Rc (fun K d=>?_) (Rc (fun K d=>?_) An));go_simp;apply (H _).mono;rintro x Q ⟨a,rfl,D,B,r⟩;simp only [];have l:=Hd (l.call r D B);refine d.out _ _ trivial (fun e=>?_);clear d K r D B;try simp only [Act.put,Sv,Sz,Sw]
         apply tk 9 (.tuple #[.agg (enC b.1 a).toArray,.agg (rdV b.2.1 b.2.2)]) e;apply tk 10 (.agg (enC b.1 a).toArray) e;apply tk 11 (.agg (rdV b.2.1 b.2.2)) e;apply Aq [12];refine (Rc (fun K d=>?_) An);go_simp;refine d.out _ _ trivial (fun e=>?_);clear d K;try simp only [Act.put,Sv,Sz,Sw]
         obtain ⟨g,u⟩:∃ g,g=Q.1.size:=⟨_,rfl⟩
         rw [<-u];refine WgH (Φ:=KB b (some a) (some g) (some k) w) (by rw [u];exact l.newE _ rfl) (fun I m=>?_);have l:=Hd m;clear m u;rotate_left;go_simp;refine d.out _ _ trivial (fun e=>?_);clear d K;try simp only [Act.put,Sv,Sz,Sw]
         obtain ⟨g,u⟩:∃ g,g=G.1.size:=⟨_,rfl⟩
         rw [<-u];refine WgH (Φ:=KB b none (some g) (some k) w) (by rw [u];exact l.newE _ rfl) (fun I m=>?_);have l:=Hd m;clear m u;apply Aq [8];refine (Rc (fun K d=>?_) An);go_simp;apply (H _).mono;rintro x Q ⟨a,rfl,D,B,r⟩;simp only [];have l:=Hd (l.call r D B);refine d.out _ _ trivial (fun e=>?_);clear d K r D B;try simp only [Act.put,Sv,Sz,Sw]
         apply tk 9 (.tuple #[.agg (enC b.1 a).toArray,.agg (rdV b.2.1 b.2.2)]) e;apply tk 10 (.agg (enC b.1 a).toArray) e;apply tk 11 (.agg (rdV b.2.1 b.2.2)) e;rotate_left
         all_goals
          obtain ⟨D,B⟩:=l.o.e a rfl;obtain ⟨eQ,olde,hgz,hgb⟩:=l.o.b g rfl;obtain ⟨eZ,oldr,hkz,Y⟩:=l.o.r k rfl
          have aS:g≠k:=fun h=>by
           subst h;have z:=hgb.symm.trans Y;injection z with z
           injection z with _ z
           exact absurd z Ac
          refine ts 14 (enC b.1 a).toArray hgb (Um _ _) trivial ?_ (hold:=hgz);simp only [Act.put];refine ts 15 (rdV b.2.1 b.2.2) ((QE _ _ _ _ aS.symm).trans Y) (Ua _ _) trivial ?_ (hold:=hkz);simp only [Act.put];refine Ad Ak ?_ _;refine WgQ (Φ:=DE2 b a g k w) (l.fill eQ eZ hgb Y aS) (fun WZ hZ=>?_);exact TAIL a g k WZ ⟨hZ,B⟩
        .intro a g k WZ hZU;obtain ⟨hZ,hU⟩:=hZU;have L:=Hd hZ;have HU:=Hd hU;clear hZ hU;have hR:=oM (by omega:(j:Int)=0\/(j:Int)=1\/(j:Int)=2\/(j:Int)=3\/(j:Int)=4) HNZ hlz;rw [HR8.o] at hR;have gZ:=Hd hR;obtain ⟨ee,hee⟩:∃ ee,Yj b.2.1 b.2.2=ee:=⟨_,rfl⟩
         have HEE:=Hd hee;have HEN:=Hd fun W=>(by have h:=Rm b.2.1 b.2.2 W gZ.2.2;rw [hee] at h;exact h:Calls prog 126 #[.agg (rdV b.2.1 b.2.2)] W (Ab W (.int .i64 ee)))
         clear hR hee hns cX hc cU
         go_wp2_with (first|(apply Gl 144 6;apply Lq 144 g (enC b.1 a).toArray L.b underlying144)|(apply Gl 185 7;apply Lq 185 k (rdV b.2.1 b.2.2) L.r underlying185)|(go_at_call 177;apply (LH HU gZ.2.1 _ (L.ew.less Am)).mono;rintro x w9 ⟨s9,f9,rfl,aM,P,r⟩;have HN:=Hd P;have L:=Hd (L.next r);clear aM P r;have hq3:=Jw s9 s;rcases ch4 (ee=0) (f9=0) (s9=s) with c1|⟨c1,c2⟩|⟨c1,c2,c3⟩|⟨c1,c2,c3⟩)|(go_at_call 126;refine yT (HEN _) L.next fun w10 L=>?_)|(apply Gt 144 2;obtain ⟨⟨J,X,U⟩,aH⟩:=L.o.d;refine Lv 144 w.1.size (enC b.1 a).toArray U (Um _ _) ?_ (hold:=X);apply Wg (Φ:=fun W=>Blk W w.1.size 144 (enC b.1 a).toArray/\EW [] W b.1 a/\Below w.1.size w W) ⟨QR _ _ _ _ _ _ U,(L.ew.row Am _).less Am,Xq aH (Le _) _⟩;intro W1 A;have HW:=Hd A;clear A U aH X))
         all_goals first
          |exact ⟨⟨j+1,C,Au,mc aT C (by rw [hp,HQ.o];exact HM) (by rw [M,HE.o.2];exact HR8) (fun h01=>qB (by rw [K01,gZ.o.1];omega) HEE HN (by first|exact fun h=>c1 h.1|exact fun h=>c2 h.2.1|exact fun h=>c3 h.2.2)),L.d⟩,by simp [intOf];omega⟩
          |(apply Br (U2 results124 rfl rfl (Ux _ _ _ HW.1 rfl)) rfl
            exact ⟨b.1,a,0,rfl,HU,⟨gZ.2.1,fun hz=>by rcases HN.o (by rw [hz];exact .inl rfl) with ⟨_,h⟩|⟨h,_⟩;exact (vT hz h).elim;omega⟩,HW.2.1,ma aT C (by rw [hp,HQ.o];exact HM) (by rw [M,HE.o.2];exact HR8) gZ.1 (HEE.trans c1) (fun o=>by rcases HN.o o with ⟨_,h⟩|⟨h,_⟩;rw [h,c3];omega),HW.2.2⟩)
    .have HM:=Hd hm;clear hm;apply WzR (S:=DB w) (R:=Rb) (t.next (Bf _ _).drew) (fun _ _ h r=>h.next r);apply xp (.string s);apply xp (.int .u8 p) (y:=WL ⟨Af,by intro w2 _;have A:=cU;have z:=H0;go_simp⟩);apply xp (.int .i64 j);apply xp (.int .u8 q) (y:=WL ⟨Af,by intro w2 _;have A:=N;have z:=HL;go_simp;intro h5;exact absurd h5 Oo⟩);apply xp (.bool true) (y:=WL ⟨Af,by intro w2 _;go_simp;exact HM⟩);refine xn fun W1 jV _=>?_
     have t:=Hd jV;clear jV;go_wp2;go_roundw
     .exact ⟨j+1,C,Au,HD.miss (by rw [hp,HQ.o];exact HM),t⟩
     .exact At
   .obtain rfl:j=5:=Oo
    clear hB hD hj C;go_wp2_with (first|(apply Gb 144;apply U1 Ak 144 _ rfl (enC enZ enN).toArray Ak)|(apply Gt 144 2;obtain ⟨⟨J,X,U⟩,aH⟩:=t.o;refine Lv 144 w.1.size (enC enZ enN).toArray U (Um _ _) ?_ (hold:=X);apply Wg (Φ:=fun W=>Blk W w.1.size 144 (enC enZ enN).toArray/\Below w.1.size w W) ⟨QR _ _ _ _ _ _ U,Xq aH (Le _) _⟩;intro W1 A;have HW:=Hd A;clear A U aH X));apply Br (U2 results124 rfl rfl (Ux _ _ _ HW.1 rfl)) rfl;exact ⟨enZ,enN,_,rfl,pz,⟨vZ,fun _=>rfl⟩,vY _,.inr ⟨HD.none,.inl rfl⟩,HW.2⟩
end
section
variable {e:En} {a:EnA} {w W:Wd}
structure S2 (e:En) (a:EnA) (w W:Wd):Prop where
 b1:Blk W w.1.size 144 (enC e a).toArray
 b2:Blk W (w.1.size+1) 144 (enC enZ enN).toArray
 be:Below w.1.size w W
def S2.new (e:En) (a:EnA) (w:Wd):S2 e a w ((Aa w (enC e a).toArray 144).alloc (.cells (enC enZ enN).toArray 144)):=
 ⟨(Blk.new w _ _).alloc _,U3 (w.alloc _) _ _ _ Am,Aj.alloc Am _⟩
def S2.c1 (h:S2 e a w W) (i:Nat) (v:Value) (b:(enC e a)[i]? =some v):W.cell? ⟨w.1.size,i,none⟩=some v:=by rw [h.b1.cell];simpa using b
def S2.c2 (h:S2 e a w W) (i:Nat) (v:Value) (b:(enC enZ enN)[i]? =some v):W.cell? ⟨w.1.size+1,i,none⟩=some v:=by rw [h.b2.cell];simpa using b
theorem ld {G:Prop} (h:G:=by
  go_wp2;refine Lu 1 ?_;rw [Rs];go_wp2;go_ret;exact ⟨rfl,HX.o.be⟩):G:=h
def tY (w:Wd) (c:e.kind≠0\/e.name.toList≠[]):Calls prog 231 #[.agg (enC e a).toArray,.agg (enC enZ enN).toArray] w (Ab w (.bool false)):=by
 have HX:=Hd (S2.new e a w);have c1:=HX.o.c1 32 _ rfl;have c2:=HX.o.c2 32 (.slice none 0 0) rfl;by_cases f:e.grants.length=0
 .rw [f] at c1;have g:=HX.o.c1 0 _ rfl;have i:=HX.o.c2 0 (.int .i64 0) rfl;have j:=HX.o.c1 1 _ rfl;have k:=HX.o.c2 1 (.string ⟨#[]⟩) rfl;by_cases b:e.kind=0
  .have hn:=c.resolve_left (fun h=>h b);rw [b] at g;have d:(e.name.toList == [])=false:=by simpa using hn
   clear c hn b;exact ld
  .have d:(e.kind == 0)=false:=by simpa using b
   clear c;exact ld
 .have d:((e.grants.length:Int) == 0)=false:=by simpa using f
  go_wp2;go_ret;exact ⟨rfl,HX.o.be⟩
end
section
section
variable {P:Program} {ops:Array Oper} {rest:List Oper} {o:Oper} {a a':Act} {w:Wd} {Q:Exit->Act->Wd->Prop}
def wrw {T:TypeId} {g:Nat} {cs:List Value} {d:TypeDesc} {x:Operand} (f:Blk w g T cs.toArray) (l:P.underlying T=some d) (h:wpList P ops Q rest a' w) (k:o.op=.load T x:=by rfl) (m:a.eval x=Ag g 0:=by rfl) (c:d.isRow=true:=by rfl)
  (hn:(P.info? T).map (·.size)=some cs.length:=by kernel_rfl) (hw:Region.wanted o (yielded ops a.tmps)=true:=by rfl) (n:a.put o.dst (.agg cs.toArray)=a':=by conv=>lhs;simp only [Act.put,Sv,Sz,Sw]):wpList P ops Q (o::rest) a w:=
 wy (S:=fun W=>Blk W g T cs.toArray) (WT hw T x k g 0 m cs d (fun W i j v p=>by rw [Blk.cell i];simpa using p) l c hn) f h n
end
def GOk (g:En) (b:EnA):Prop:=(g=enZ->b=enN)/\(g=enZ\/g.kind≠0\/g.name.toList≠[])
structure BB (e:En) (a:EnA) (g:En) (b:EnA) (w W:Wd):Prop where
 b1:Blk W w.1.size 144 (enC e a).toArray
 b2:Blk W (w.1.size+1) 144 (enC g b).toArray
 be:Below w.1.size w W
def BB.new (e:En) (a:EnA) (g:En) (b:EnA) (w:Wd):BB e a g b w ((Aa w (enC e a).toArray 144).alloc (.cells (enC g b).toArray 144)):=
 ⟨(Blk.new w _ _).alloc _,U3 (w.alloc _) _ _ _ Am,Aj.alloc Am _⟩
section
variable {e:En} {a:EnA} {g:En} {b:EnA} {w W W':Wd}
def BB.next (h:BB e a g b w W) (c:Below W.1.size W W'):BB e a g b w W':=⟨h.b1.below c h.b1.lt,h.b2.below c h.b2.lt,h.be.trans (c.mono h.be.size)⟩
def BB.c1 (h:BB e a g b w W) (i:Nat) (v:Value) (c:(enC e a)[i]? =some v):W.cell? ⟨w.1.size,i,none⟩=some v:=by rw [h.b1.cell];simpa using c
def BB.c2 (h:BB e a g b w W) (i:Nat) (v:Value) (c:(enC g b)[i]? =some v):W.cell? ⟨w.1.size+1,i,none⟩=some v:=by rw [h.b2.cell];simpa using c
end
def tZ {g:En} {b:EnA} (c:GOk g b) (w:Wd) (hw:EW [] w g b):Calls prog 231 #[.agg (enC g b).toArray,.agg (enC enZ enN).toArray] w (Ab w (.bool (decide (g=enZ)))):=by
 by_cases hz:g=enZ
 .rw [QQ hz];obtain rfl:=hz;rw [c.1 rfl];exact Lp enZ enN w (vY w) (Z0 _) (Z0 _)
 .rw [QW hz];exact tY w (c.2.resolve_left hz)
theorem zl {G:Prop} (h:G:=by
  go_in
  go_wp2_with (first|((with_reducible refine Gl 144 2 ?_);refine wrw (g:=w.1.size) (cs:=enC e a) HX.o.b1 underlying144 ?_)|((with_reducible refine Gl 144 3 ?_);refine wrw (g:=w.1.size+1) (cs:=enC g b) HX.o.b2 underlying144 ?_)|((with_reducible show Calls _ _ #[.agg (enC e a).toArray] _ _);go_at_call 227;refine yP (HVV.o _ HX.o.be) fun w5 hb=>?_;clear c0;have HX:=Hd (HX.o.next hb);clear hb;have e1:=HX.o.c1 1 _ rfl;have g0:=HX.o.c2 0 _ rfl;have g1:=HX.o.c2 1 _ rfl)|(go_at_call 230;refine yP (HT.o _) fun w6 hb=>?_;clear e1 g0 g1;have HX:=Hd (HX.o.next hb);clear hb;have e1:=HX.o.c1 1 _ rfl;have g0:=HX.o.c2 0 _ rfl;have g1:=HX.o.c2 1 _ rfl)|(refine Gb 144 ?_;refine U1 Ak 144 _ rfl (enC enZ enN).toArray Ak ?_)|(go_at_call 231;refine yT (HS.o _ HX.o.be) HX.o.next fun w7 HX=>?_)|((with_reducible show Calls _ _ #[.agg (enC g b).toArray] _ _);go_at_call 227;refine yT (HG.o _ HX.o.be) HX.o.next fun w8 HX=>?_))
  go_ret;exact ⟨rfl,HX.o.be⟩):G:=h
def Dm {e g:En} {a b:EnA} (F:UsA e a) (p:EOk e) (l:UsA g b) (u:EOk g) (D:GOk g b) (w:Wd) (hw:EW [] w e a) (A:EW [] w g b):Calls prog 178 #[.agg (enC e a).toArray,.agg (enC g b).toArray] w (Ab w (.bool (FN e g))):=by
 have HX:=Hd (BB.new e a g b w);have H:=Hd fun W hb=>Ks F W (hw.below (w':=W) hb) p.al p.gr p.nm
 have z:=Hd fun W hb=>Ks l W (A.below (w':=W) hb) u.al u.gr u.nm
 have HS:=Hd fun W hb=>tZ D W (A.below (w':=W) hb)
 have HT:=Hd fun W=>Lo e.name W p.nm
 have c0:=HX.c1 0 _ rfl;clear F p l u D hw A;by_cases f:e.kind=0
 .rw [f] at c0;have I:=Hd f
  have m:FN e g=(vQ e&&(if (Xy e.name).2.2=true then decide (g.kind=1)&&(decide (g.name=(Xy e.name).1)&&vQ g) else decide (g=enZ))):=by
   unfold FN;rw [QQ f,XL]
  rw [m];clear f m;obtain ⟨v,C⟩:=yG (vQ e);have HVV:Aw (∀ W,Below w.1.size w W->Calls prog 227 #[.agg (enC e a).toArray] W (Ab W (.bool v))):=Hd fun W hb=>(H W hb).mono fun x w' ⟨⟨b,n,k⟩,h3⟩=>⟨by rw [n,k (.inl I.o),C],h3⟩
  obtain ⟨⟨s,q,y⟩,B⟩:∃ t,Xy e.name=t:=⟨_,rfl⟩
  rw [B] at HT;rw [C,B];simp only at HT ⊢;clear H C B;have HG:Aw (g.kind=1->∀ W,Below w.1.size w W->Calls prog 227 #[.agg (enC g b).toArray] W (Ab W (.bool (vQ g)))):=Hd fun f W hb=>(z W hb).mono fun x w' ⟨⟨c,n,k⟩,h3⟩=>⟨by rw [n,k (.inr f)],h3⟩
  have i:v=false\/(v=true/\(y=false\/(y=true/\(¬ g.kind=1\/(g.kind=1/\(¬ g.name=s\/g.name=s)))))):=by
   cases v<;>cases y<;>by_cases n:g.kind=1<;>by_cases k:g.name=s<;>simp [n,k]
  have r:=Jw g.name s;rcases i with rfl|⟨rfl,rfl|⟨rfl,d|⟨d,j|j⟩⟩⟩
  .rw [YM];exact zl
  .rw [QX ZP,XL];exact zl
  .have E:(g.kind == 1)=false:=by simpa using d
   rw [QK rfl,QW d,YM];clear d HG;exact zl
  .have HG:=Hd (HG d);have E:(g.kind == 1)=true:=by simpa using d
   rw [QK rfl,QQ d,QW j,YM,KG,KG];rw [QW j] at r;clear d j;exact zl
  .have HG:=Hd (HG d);have E:(g.kind == 1)=true:=by simpa using d
   rw [QK rfl,QQ d,QQ j,XL,XL,XL];rw [QQ j] at r;clear d j;exact zl
 .have m:FN e g=false:=by unfold FN;rw [QW f,YM]
  rw [m];have J:(e.kind != 0)=true:=by simpa using f
  clear f m;go_wp2;go_ret;exact ⟨rfl,HX.be⟩
def NoG (e g:En) (w:Wd) (x:Ending) (w':Wd):Prop:=∃ (s:Bz) (f:Int),x=.returned (.tuple #[.string s,.int .i64 f])/\((f=0/\EE e g=some s)\/(f=1/\EE e g=none))/\Below w.1.size w w'
def vU {e:En} {s:Bz} (h:EOk e) (he:Z2 e=some s):s.size<=200000:=by
 unfold Z2 at he;split at he
 .rw [<-WQ he,QY];have d:=BY (if e.kind=0 then 68 else 71) e.name
  have c:(IM e.kind e).size<=100000:=by
   unfold IM;split
   .exact SD e h
   .exact Cb e h
  omega
 .cases he
theorem lc {G:Prop} (h:G:=by
  refine Br (YP results125 _ _ _) rfl ?_;exact ⟨_,_,rfl,.inl ⟨rfl,HR.o⟩,HX.o.be⟩):G:=h
def Dj {e g:En} {a b:EnA} (K:UsA e a) (E:EOk e) (n:UsA g b) (C:EOk g) (S:GOk g b) (w:Wd) (hw:EW [] w e a) (I:EW [] w g b):Calls prog 125 #[.agg (enC e a).toArray,.agg (enC g b).toArray] w (NoG e g w):=by
 have HX:=Hd (BB.new e a g b w);have D:=Hd fun W i=>Dm K E n C S W (hw.below (w':=W) i) (I.below (w':=W) i)
 have l:=Hd fun W i=>LH K E W (hw.below (w':=W) i)
 have q:=Hd fun W i=>LH n C W (I.below (w':=W) i)
 obtain ⟨v,k⟩:=yG (FN e g);simp only [k] at D;have N:=Hd k
 have T:v=true->(K01 e/\vQ e=true)/\(g=enZ\/(K01 g/\vQ g=true/\g.name.toList≠[])):=fun h=>by
  rw [h] at k;have r:=Sf k;refine ⟨⟨.inl r.1,r.2⟩,?_⟩;rcases py k with j|j
  .have t:vQ g=true:=by
    unfold FN at k;simp only [QU] at k;have u:=k.2.2;split at u
    .simp only [QU] at u;exact u.2.2
    .simp only [QG] at u;rw [u] at j;exact absurd j Ac
   exact .inr ⟨.inr j,t,NR t⟩
  .exact .inl j
 have Z:=Hd T;have z:=Hd (And.intro E C);clear K E n C S hw I k T;go_in;cases v with
 |false=>
  go_wp2_with (first|((with_reducible refine Gl 144 2 ?_);refine wrw (g:=w.1.size) (cs:=enC e a) HX.b1 underlying144 ?_)|((with_reducible refine Gl 144 3 ?_);refine wrw (g:=w.1.size+1) (cs:=enC g b) HX.b2 underlying144 ?_)|(go_at_call 178;refine yT (D _ HX.be) HX.next fun y HX=>?_));refine Br (YP results125 _ _ _) rfl ?_;exact ⟨_,_,rfl,.inr ⟨rfl,by unfold EE;rw [N.o];rfl⟩,HX.be⟩
 |true=>
  obtain ⟨⟨J,m⟩,L⟩:=Z.o rfl;obtain ⟨c,p⟩:∃ s,Z2 e=some s:=by unfold Z2;rw [QK m];exact ⟨_,rfl⟩
  have R:=vU z.1 p
  have l:Aw (∀ W,Below w.1.size w W->Calls prog 177 #[.agg (enC e a).toArray] W (Ab W (.tuple #[.string c,.int .i64 0]))):=Hd fun W i=>(l W i).mono fun x w' ⟨s,f,r,_,j,t⟩=>by
   rcases j J with ⟨rfl,h⟩|⟨_,h,_⟩
   .rw [p] at h;exact ⟨by rw [r,WQ h],t⟩
   .rw [p] at h;cases h
  have F:=Hd fun W=>Xp c W Oo
  have A:=Ut c;rcases L with rfl|⟨V,U,B⟩
  .have d:=Hd fun W=>Xp ⟨#[]⟩ W (Z0 _)
   have O:=Ut ⟨#[]⟩;have M:(⟨#[]⟩:Bz).size=0:=rfl;have hz:(Vh c).size+(Vh ⟨#[]⟩).size<=9223372036854775807:=Oo
   have HR:Aw (EE e enZ=some (Vh c++Vh ⟨#[]⟩)):=Hd (by unfold EE;rw [N.o,QK rfl,p,QK (show enZ.name.toList=[] from (nil_iff _).1 rfl)];rfl);clear A O M R p J m;generalize Vh c=x1 at F hz HR;generalize Vh ⟨#[]⟩=x2 at d hz HR;go_wp2_with (first|((with_reducible refine Gl 144 2 ?_);refine wrw (g:=w.1.size) (cs:=enC e a) HX.b1 underlying144 ?_)|((with_reducible refine Gl 144 3 ?_);refine wrw (g:=w.1.size+1) (cs:=enC enZ b) HX.b2 underlying144 ?_)|(go_at_call 178;refine yT (D _ HX.be) HX.next fun y HX=>?_)|(go_at_call 177;refine yT (l _ HX.be) HX.next fun y HX=>?_;have n1:=HX.c2 1 (.string ⟨#[]⟩) rfl)|((with_reducible show Calls _ _ #[.string c] _ _);go_at_call 179;refine yT (F _) HX.next fun H HX=>?_)|(go_at_call 179;refine yT (d _) HX.next fun H HX=>?_));exact lc
  .obtain ⟨s2,dD⟩:∃ s,Z2 g=some s:=by unfold Z2;rw [QK U];exact ⟨_,rfl⟩
   have Y:=vU z.2 dD
   have q:Aw (∀ W,Below w.1.size w W->Calls prog 177 #[.agg (enC g b).toArray] W (Ab W (.tuple #[.string s2,.int .i64 0]))):=Hd fun W i=>(q W i).mono fun x w' ⟨s,f,r,_,j,t⟩=>by
    rcases j V with ⟨rfl,h⟩|⟨_,h,_⟩
    .rw [dD] at h;exact ⟨by rw [r,WQ h],t⟩
    .rw [dD] at h;cases h
   have d:=Hd fun W=>Xp s2 W Oo
   have O:=Ut s2;have hz:(Vh c).size+(Vh s2).size<=9223372036854775807:=Oo
   have HR:Aw (EE e g=some (Vh c++Vh s2)):=Hd (by unfold EE;rw [N.o,QK rfl,p,dD,QX B];rfl);have hd:(g.name.toList != [])=true:=by simpa using B
   have X:(g.name.toList == [])=false:=by simpa using B
   have hd3:=B;clear A O R Y p dD J m V U B;generalize Vh c=x1 at F hz HR;generalize Vh s2=x2 at d hz HR;go_wp2_with (first|((with_reducible refine Gl 144 2 ?_);refine wrw (g:=w.1.size) (cs:=enC e a) HX.b1 underlying144 ?_)|((with_reducible refine Gl 144 3 ?_);refine wrw (g:=w.1.size+1) (cs:=enC g b) HX.b2 underlying144 ?_)|(go_at_call 178;refine yT (D _ HX.be) HX.next fun y HX=>?_)|((with_reducible show Calls _ _ #[.agg (enC e a).toArray] _ _);go_at_call 177;refine yT (l _ HX.be) HX.next fun y HX=>?_;have n1:=HX.c2 1 _ rfl)|(go_at_call 177;refine yT (q _ HX.be) HX.next fun y HX=>?_)|((with_reducible show Calls _ _ #[.string c] _ _);go_at_call 179;refine yT (F _) HX.next fun H HX=>?_)|(go_at_call 179;refine yT (d _) HX.next fun H HX=>?_));exact lc
end
section
variable {w W W':Wd} {k:Nat} {l:Bz} {e:Int} {g:Nat} {E:En} {a:EnA}
def nD {s:Bz} {g:En} {b:EnA} (hz:g=enZ->b=enN) (h:DqR s g):GOk g b:=by
 refine ⟨hz,?_⟩;rcases h with h|⟨_,h|⟨h,_⟩⟩
 .rw [Mz] at h;exact .inr (.inr (NR (Cq (Ka h).1)))
 .exact .inl h
 .exact .inr (.inl Oo)
structure DpS (w W:Wd):Prop where
 b2:∃ old:Array Value,old.size=33/\Blk W w.1.size 144 old
 b3:∃ old:Array Value,old.size=33/\Blk W (w.1.size+1) 144 old
 be:Below w.1.size w W
 sz:w.1.size+2<=W.1.size
def DpS.keep (h:DpS w W) (b:Below (w.1.size+2) W W'):DpS w W':=by
 obtain ⟨m,c,i⟩:=h.b2;obtain ⟨j,d,f⟩:=h.b3;exact ⟨⟨m,c,i.below b Oo⟩,⟨j,d,f.below b Oo⟩,h.be.trans (b.mono Oo),Lx h.sz b.size⟩
def DpS.new (w:Wd) (c b:Array Value) (f:c.size=33) (d:b.size=33):DpS w ((Aa w c 144).alloc (.cells b 144)):=
 ⟨⟨c,f,(Blk.new w _ _).alloc _⟩,⟨b,d,U3 (w.alloc _) _ _ _ Am⟩,Aj.alloc Am _,Am⟩
structure DR (k:Nat) (l:Bz) (e:Int) (w W:Wd):Prop where
 p:DpS w W
 r:Blk W k 185 (rdV l e)
 hk:w.1.size+2<=k
def DR.next (h:DR k l e w W) (b:Below W.1.size W W'):DR k l e w W':=⟨h.p.keep (b.mono h.p.sz),h.r.below b h.r.lt,h.hk⟩
def DR.put (h:DR k l e w W) (c:Bz) (b:Int):DR k c b w (W.setRow k (rdV c b)):=⟨h.p.keep (Xq (Bf _ _) h.hk _),QR _ _ _ _ _ _ h.r,h.hk⟩
def DpS.rd (h:DpS w W) (z:Array Value) (l:Bz) (e:Int):DR W.1.size l e w ((Aa W z 185).setRow W.1.size (rdV l e)):=
 ⟨h.keep (Xq ((Bf _ _).alloc h.sz _) h.sz _),QR _ _ _ _ _ _ (Blk.new W _ _),h.sz⟩
structure DE (g:Nat) (E:En) (a:EnA) (W:Wd):Prop where
 b:Blk W g 144 (enC E a).toArray
 ew:EW [] W E a
def DE.next (h:DE g E a W) (b:Below W.1.size W W'):DE g E a W':=⟨h.b.below b h.b.lt,h.ew.below b⟩
def Sk (h:EW [] W E a) (z cs:Array Value):EW [] ((Aa W z 144).setRow W.1.size cs) E a:=by
 have b:EW [W.1.size] W E a:=h.more fun x c=>.inr (KM (QT.1 c).symm)
 exact ((b.below ((Bf _ _).alloc (Le _) (.cells z 144))).row Am cs).less Am
def DE.new (h:EW [] W E a) (z:Array Value):DE W.1.size E a ((Aa W z 144).setRow W.1.size (enC E a).toArray):=⟨QR _ _ _ _ _ _ (Blk.new W _ _),Sk h _ _⟩
def DE.beside (h:DE g E a W) (z cs:Array Value):DE g E a ((Aa W z 144).setRow W.1.size cs):=
 ⟨(QE _ _ _ _ (KF h.b.lt)).trans (h.b.alloc _),Sk h.ew _ _⟩
def DR.beside (h:DR k l e w W) (z cs:Array Value):DR k l e w ((Aa W z 144).setRow W.1.size cs):=
 ⟨h.p.keep (Xq ((Bf _ _).alloc h.p.sz _) h.p.sz _),(QE _ _ _ _ (KF h.r.lt)).trans (h.r.alloc _),h.hk⟩
def PaR (note:Bz) (w:Wd) (x:Ending) (w':Wd):Prop:=∃ (e g:En) (a b:EnA) (f:Int),x=.returned (.tuple #[.agg (enC e a).toArray,.agg (enC g b).toArray,.int .i64 f])/\((f=0/\Xb note=some e)\/(f=11/\Xb note=none))/\Below w.1.size w w'
def R3 {P:Program} {i:Func} {d:Array Value} {p q r:Nat} {t u:TypeId} {b c:Nat} {x y z:Value} (h:i.results=#[.cell p t,.cell q u,.tmp r]) (n:d.getD p undef=(Ag b 0)) (m:d.getD q undef=(Ag c 0)) (o:d.getD r undef=z)
  (v:(loadVar t ⟨b,0,none⟩).run P W=.ok x W) (hy:(loadVar u ⟨c,0,none⟩).run P W=.ok y W):(results i d).run P W=.ok (.tuple #[x,y,z]) W:=by
 have s:d[p]?.getD undef=Ag b 0:=by simpa using n
 have j:d[q]?.getD undef=Ag c 0:=by simpa using m
 have f:d[r]?.getD undef=z:=by simpa using o
 simp [results,h,s,j,f,asAddr,v,hy]
structure D2 (E:En) (a:EnA) (G:En) (b:EnA) (w W:Wd):Prop where
 b2:Blk W w.1.size 144 (enC E a).toArray
 b3:Blk W (w.1.size+1) 144 (enC G b).toArray
 be:Below w.1.size w W
def DpS.two (h:DpS w W) (E:En) (a:EnA) (G:En) (b:EnA):D2 E a G b w ((W.setRow w.1.size (enC E a).toArray).setRow (w.1.size+1) (enC G b).toArray):=by
 obtain ⟨m,f,d⟩:=h.b2;obtain ⟨j,i,c⟩:=h.b3;exact ⟨(QE _ _ _ _ Oo).trans (QR _ _ _ _ _ _ d),QR _ _ _ _ _ _ ((QE _ _ _ _ Oo).trans c),Xq (Xq h.be (Le _) _) Oo _⟩
def TC (note:Bz) (w:Wd) (T:note.size<=maxLen):Calls prog 90 #[.string note] w (PaR note w):=by
 have HD:=Hd fun o1 Z n m=>DpS.new w o1 Z n m
 obtain ⟨⟨s,B,C⟩,n⟩:∃ t,U8 note 0 200=t:=⟨_,rfl⟩
 have H1:=Hd fun W=>(by have h:=Gj note 0 200 W T Ac Ac;simp only [n] at h;exact h:Calls prog _ _ W (RdG (.string s) B C W))
 have N:s.size<=maxLen/\B.size<=maxLen:=by have h:=Vf note 0 200;rw [n] at h;exact ⟨Lx h.1 T,Lx h.2 T⟩
 obtain ⟨⟨t,q,y⟩,m⟩:∃ t,U8 B C 200=t:=⟨_,rfl⟩
 have H2:=Hd fun W=>(by have h:=Gj B C 200 W N.2 Ac Ac;simp only [m] at h;exact h:Calls prog _ _ W (RdG (.string t) q y W))
 have z2:t.size<=maxLen/\q.size<=maxLen:=by have h:=Vf B C 200;rw [m] at h;exact ⟨Lx h.1 N.2,Lx h.2 N.2⟩
 obtain ⟨ee,r⟩:=yG (Yj q y);have Y:=Hd fun W=>(by have h:=Rm q y W z2.2;rw [r] at h;exact h:Calls prog 126 #[.agg (rdV q y)] W (Ab W (.int .i64 ee)))
 have HD1:=Hd fun W=>GL s W N.1
 have bH:=Hd fun W=>GL t W z2.1
 have HP:=Hd fun e g (he:DqR s e) (hg:DqR t g)=>(by have h:=yZ note e g (by rw [n];exact he) (by rw [n];simp only;rw [m];exact hg);rw [n] at h;simp only [m,r] at h;exact h:(if ee=0/\EE e g=some note then some e else none)=Xb note)
 clear n m N z2 r T;go_in
 go_wp2_with (first|((with_reducible show Calls _ _ #[.agg #[.string note,.int .i64 0],_] _ _);go_at_call 123;refine yP (H1 _) fun D f=>?_;have HW:Aw (DpS w D):=Hd ((HD _ _ Af Af).keep (f.mono Am));clear f)|(with_reducible refine yS 185 6 (Blk.new D _ _) (Ua _ _) ?_;refine yW (Φ:=DR D.1.size B C w) (HW.o.rd _ _ _) fun W1 d=>?_)|(with_reducible refine yL 185 6 d.o.r ?_)|((with_reducible show Calls _ _ #[.agg (rdV B C),_] _ _);go_at_call 123;refine yT (H2 _) d.o.next fun w6 d=>?_)|(with_reducible refine yS 185 6 d.o.r (Ua _ _) ?_;refine yW (Φ:=DR D.1.size q y w) (d.o.put _ _) fun W2 d=>?_)|((with_reducible show Calls _ _ #[.string s] _ _);go_at_call 124;refine (HD1 _).mono ?_;rintro x U ⟨e,a,c,rfl,P,G,O,R,f⟩;have d:=Hd (d.o.next f);have V:=Hd d.o.p.sz;have HU:=Hd P;have HO:=Hd G;have HEW:=Hd O;have HQ:=Hd R;clear P G O R f)|(refine Gt 144 8 ?_;go_must (refine yV (Blk.new U _ _) (Um _ _) ?_;refine Wg (Φ:=fun W=>DR D.1.size q y w W/\DE U.1.size e a W) ⟨d.o.beside _ _,DE.new HEW _⟩ ?_;intro W9 h9;have d:=Hd h9.1;have j:=Hd h9.2;clear h9))|(go_at_call 124;refine (bH _).mono ?_;rintro x z ⟨g,b,c2,rfl,P,G,O,R,f⟩;have d:=Hd (d.o.next f);have j:=Hd (j.o.next f);have K:=Hd d.o.p.sz;have HU2:=Hd P;have i8:=Hd G;have M:=Hd O;have A:=Hd R;clear P G O R f)|(refine Gt 144 10 ?_;go_must (refine yV (Blk.new z _ _) (Um _ _) ?_;refine Wg (Φ:=fun W=>DR D.1.size q y w W/\DE U.1.size e a W/\DE z.1.size g b W) ⟨d.o.beside _ _,j.o.beside _ _,DE.new M _⟩ ?_;intro W11 p;have d:=Hd p.1;have j:=Hd p.2.1;have u:=Hd p.2.2;clear p))|(with_reducible refine yL 144 8 j.o.b ?_)|(with_reducible refine yL 144 10 u.o.b ?_)|(go_at_call 125;refine (Dj HU HO.o.1 HU2 i8.o.1 (nD i8.o.2 A) _ j.o.ew u.o.ew).mono ?_;rintro x w12 ⟨s9,f9,rfl,hn,f⟩;have d:=Hd (d.o.next f);have j:=Hd (j.o.next f);have u:=Hd (u.o.next f);have HN:=Hd hn;clear hn f;have hq3:=Jw s9 note;rcases ch4 (ee=0) (f9=0) (s9=note) with c1|⟨c1,c2⟩|⟨c1,c2,c3⟩|⟨c1,c2,c3⟩)|(go_at_call 126;refine yP (Y _) fun w13 f=>?_;have d:=Hd (d.o.next f);have j:=Hd (j.o.next f);have u:=Hd (u.o.next f);clear f)|(refine Gb 144 ?_;refine U1 Ak 144 _ rfl (enC enZ enN).toArray Ak ?_)|(refine Gt 144 2 ?_;obtain ⟨Z,L,H⟩:=d.o.p.b2;refine Lv 144 w.1.size (enC enZ enN).toArray H (Um _ _) ?_ (hold:=L);clear H L)|(refine Gt 144 3 ?_;obtain ⟨o3,J,I⟩:=d.o.p.b3;refine Lv 144 (w.1.size+1) (enC enZ enN).toArray ((QE _ _ _ _ Oo).trans I) (Um _ _) ?_ (hold:=J);refine Wg (Φ:=D2 enZ enN enZ enN w) (d.o.p.two _ _ _ _) ?_;intro W14 F;have i:=Hd F;clear F I J))
 all_goals first
  |(refine Br (R3 results90 rfl rfl rfl (Ux _ _ _ i.o.b2 rfl) (Ux _ _ _ i.o.b3 rfl)) rfl ?_
    refine ⟨enZ,enZ,enN,enN,11,rfl,.inr ⟨rfl,?_⟩,i.o.be⟩;rw [<-HP.o e g HQ.o A.o,QX];rintro ⟨n,m⟩;rcases HN.o with ⟨h3,v⟩|⟨_,v⟩
    .rw [m] at v;have h5:=WQ v;first|exact c1 n|exact c2 h3|exact c3 h5.symm
    .rw [m] at v;cases v)
  |skip
 have X:=V.o;have Q:=K.o;refine Rw (S:=fun W=>Blk W U.1.size 144 (enC e a).toArray/\Blk W z.1.size 144 (enC g b).toArray) Ak ⟨j.o.b,u.o.b⟩ (fun o=>?_);refine tr (cs:=enC e a) 0 (fun W h=>h.1) o underlying144 ?_;refine tr (cs:=enC g b) 1 (fun W h=>h.2) o underlying144 ?_;obtain ⟨Z,L,H⟩:=d.o.p.b2;obtain ⟨o3,J,I⟩:=d.o.p.b3;refine ts 2 (enC e a).toArray H (Um _ _) ⟨(QE _ _ _ _ Oo).trans o.1,(QE _ _ _ _ Oo).trans o.2⟩ ?_ (hold:=L);simp only [Act.put];refine ts 3 (enC g b).toArray ((QE _ _ _ _ Oo).trans I) (Um _ _) ⟨(QE _ _ _ _ Oo).trans ((QE _ _ _ _ Oo).trans o.1),(QE _ _ _ _ Oo).trans ((QE _ _ _ _ Oo).trans o.2)⟩ ?_ (hold:=J);simp only [Act.put]
 refine tA 4 ⟨(QE _ _ _ _ Oo).trans ((QE _ _ _ _ Oo).trans o.1),(QE _ _ _ _ Oo).trans ((QE _ _ _ _ Oo).trans o.2)⟩ ?_;refine Ad Ak ?_ _;refine WgQ (Φ:=D2 e a g b w) ((d.o.next (Bf _ _).drew).p.two _ _ _ _) (fun WZ hZ=>?_);have i:=Hd hZ;clear hZ o H I L J X Q;go_wp2;refine Br (R3 results90 rfl rfl rfl (Ux _ _ _ i.o.b2 rfl) (Ux _ _ _ i.o.b3 rfl)) rfl ?_
 have hn:EE e g=some note:=by
  rcases HN.o with ⟨_,v⟩|⟨h3,_⟩
  .rw [v,c3]
  .omega
 exact ⟨e,g,a,b,0,rfl,.inl ⟨rfl,by rw [<-HP.o e g HQ.o A.o,QK ⟨c1,hn⟩]⟩,i.o.be⟩
end
def TgQ (R:Option DSet) (w:Wd) (x:Ending) (w':Wd):Prop:=∃ d q,x=.returned (.tuple #[.agg (dC d).toArray,.bool q])/\((q=true/\R=some d)\/(q=false/\R=none))/\Below w.1.size w w'
structure TQ (c:Chg) (e:En) (a:EnA) (p:Nat) (w W:Wd):Prop where
 b0:Blk W w.1.size 50 (chC c).toArray
 b1:Blk W (w.1.size+1) 34 (dC dZ).toArray
 b2:Blk W p 144 (enC e a).toArray
 be:Below w.1.size w W
 lt:w.1.size+2<=p
def Nd (c:Chg) (w:Wd) (C:c.rcd.size<=maxLen):Calls prog 52 #[.agg (chC c).toArray] w (TgQ (Uq c.rcd c.id) w):=by
 have I:=Hd fun W=>TC c.rcd W C
 have l:Aw (Blk ((Aa w (chC c).toArray 50).alloc (.cells (dC dZ).toArray 34)) w.1.size 50 (chC c).toArray/\Blk ((Aa w (chC c).toArray 50).alloc (.cells (dC dZ).toArray 34)) (w.1.size+1) 34 (dC dZ).toArray/\Below w.1.size w ((Aa w (chC c).toArray 50).alloc (.cells (dC dZ).toArray 34))):=
  Hd ⟨(Blk.new w _ _).alloc _,U3 (w.alloc _) _ _ _ Am,Aj.alloc Am _⟩
 have c3:∀ m,((Aa w (chC c).toArray 50).alloc (.cells m 34)).cell? ⟨w.1.size,3,none⟩=some (.string c.rcd):=fun m=>(((Blk.new w 50 (chC c).toArray).alloc _).cell 3).trans rfl
 clear C;go_in
 go_wp2_with (first|(go_at_call 90;refine (I.o _).mono ?_;rintro x j ⟨e,g,a,b,f,rfl,B,r⟩;have G:=Hd B;have E:Aw (∀ A v:Array Value,TQ c e a j.1.size w ((((Aa j A 144).alloc (.cells v 144)).setRow j.1.size (enC e a).toArray).setRow (j.1.size+1) (enC g b).toArray)):=Hd fun A v=>(have F:=l.o.1.below r l.o.1.lt;have u:=l.o.2.1.below r l.o.2.1.lt;have z:=u.lt;⟨Uh (Uh ((F.alloc _).alloc _) Oo) Oo,Uh (Uh ((u.alloc _).alloc _) Oo) Oo,Uh (QR _ _ _ _ _ _ ((Blk.new j _ _).alloc _)) Oo,Xq (Xq (((l.o.2.2.trans (r.mono l.o.2.2.size)).alloc Oo _).alloc (Lx Oo (U6 _ _)) _) Oo _) Oo _,z⟩);clear B r)|(refine Gt 144 4 ?_;go_must (refine Lv 144 j.1.size (enC e a).toArray ((Blk.new j _ _).alloc _) (Um _ _) ?_))|(refine Gt 144 5 ?_;go_must (refine Lv 144 (j.1.size+1) (enC g b).toArray ((QE _ _ _ _ Oo).trans (U3 (j.alloc _) _ _ _ Am)) (Um _ _) ?_;refine Wg (Φ:=TQ c e a j.1.size w) (E.o _ _) ?_;intro J D;have i:=Hd D;clear D E)))
 rcases G.o with ⟨rfl,n⟩|⟨rfl,n⟩
 .have HPF:=Hd n;obtain ⟨q,s⟩:=yG (e.d.id == c.id);have t:=Hd s;refine Rw (S:=fun W=>Blk W w.1.size 50 (chC c).toArray/\Blk W j.1.size 144 (enC e a).toArray) Ak ⟨i.o.b0,i.o.b2⟩ (fun d=>?_);refine tA 0 d ?_;refine tk 1 (.agg (dC e.d).toArray) d ?_ (y:=WT Af 34 _ rfl j.1.size 2 rfl (dC e.d) _ (fun W k=>PD k.2) underlying34 rfl Ak)
  iterate 5 refine tB d ?_
  refine tk 7 (.int .i64 e.d.id) d ?_ (y:=WL ⟨Af,by intro W k;have h:=k.2.ce 2 (.int .i64 e.d.id);go_simp⟩);refine tA 8 d ?_;refine tk 9 (.int .i64 c.id) d ?_ (y:=WL ⟨Af,by intro W k;have h:=k.1.ce 1 (.int .i64 c.id);go_simp⟩);refine tk 10 (.bool q) d ?_ (y:=WL ⟨Af,by intro W k;have h:=s;go_simp⟩);refine tA 11 d ?_;refine ts 12 (dC e.d).toArray i.o.b1 (Xc e.d) ⟨Uh d.1 Oo,Uh d.2 (by have:=i.o.lt;omega)⟩ ?_;simp only [Act.put];refine tA 13 ⟨Uh d.1 Oo,Uh d.2 (by have:=i.o.lt;omega)⟩ ?_;refine Ad Ak ?_ _;refine WgQ (Φ:=fun W=>Blk W (w.1.size+1) 34 (dC e.d).toArray/\Below w.1.size w W) ⟨QR _ _ _ _ _ _ i.o.b1,Xq i.o.be.drew Oo _⟩ (fun H o=>?_);have p:=Hd o;clear o d s n
  go_wp2;refine Br (U2 results52 rfl rfl (ZQ _ _ 34 34 _ (0,0) _ p.o.1 underlying34 rfl Ak)) rfl ?_;refine ⟨e.d,q,rfl,?_,p.o.2⟩;unfold Uq;rw [HPF.o];simp only;cases q with
  |true=>exact .inl ⟨rfl,QK (by simpa using t.o)⟩
  |false=>exact .inr ⟨rfl,QX (by simpa using t.o)⟩
 .have HPF:=Hd n;refine Rw (S:=fun W=>Blk W w.1.size 50 (chC c).toArray/\Blk W j.1.size 144 (enC e a).toArray) Ak ⟨i.o.b0,i.o.b2⟩ (fun d=>?_);refine tA 0 d ?_;refine tk 1 (.agg (dC e.d).toArray) d ?_ (y:=WT Af 34 _ rfl j.1.size 2 rfl (dC e.d) _ (fun W k=>PD k.2) underlying34 rfl Ak)
  iterate 3 refine tB d ?_
  refine tku 5 d ?_;refine tku 6 d ?_;refine tku 7 d ?_;refine tku 8 d ?_;refine tku 9 d ?_;refine tku 10 d ?_;refine tA 11 d ?_;refine ts 12 (dC e.d).toArray i.o.b1 (Xc e.d) ⟨Uh d.1 Oo,Uh d.2 (by have:=i.o.lt;omega)⟩ ?_;simp only [Act.put];refine tA 13 ⟨Uh d.1 Oo,Uh d.2 (by have:=i.o.lt;omega)⟩ ?_;refine Ad Ak ?_ _;refine WgQ (Φ:=fun W=>Blk W (w.1.size+1) 34 (dC e.d).toArray/\Below w.1.size w W) ⟨QR _ _ _ _ _ _ i.o.b1,Xq i.o.be.drew Oo _⟩ (fun H o=>?_);have p:=Hd o;clear o d n;go_wp2;refine Br (U2 results52 rfl rfl (ZQ _ _ 34 34 _ (0,0) _ p.o.1 underlying34 rfl Ak)) rfl ?_;exact ⟨e.d,false,rfl,.inr ⟨rfl,by unfold Uq;rw [HPF.o]⟩,p.o.2⟩
end Go.Proofs.YtdleakjejodjjaaGreatDoor
