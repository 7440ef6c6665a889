/- Of the history laws. -/
import Derived.Test.YtdleakjejodjjaaGreatDoorSBH
import Derived.Test.YtdleakjejodjjaaGreatDoorSBS
namespace Go.Proofs.YtdleakjejodjjaaGreatDoor
open Tryz
set_option linter.all false
set_option maxRecDepth 100000
set_option maxHeartbeats 20000000
open Go.RowKit
section
variable {w:Wd} {e:Ending} {w' w1 W W':Wd} {st:List Cnt}
noncomputable def P8 (ini:List Cnt) (l:List Com):Int ⊕ List PC:=match Zx l,F9 vC [] ini with
 |some s,some st=>FG Uq doF s (st.map plC)
 |_,_=>.inl 1
def pF (R:Int ⊕ List PC) (w:Wd) (e:Ending) (w':Wd):Prop:=match R with
 |.inl er=>er≠0/\e=.returned (.tuple #[.map none,.int .i64 er])/\Below w.1.size w w'
 |.inr s=>∃ (a:Nat) (st:List Cnt),st.map plC=s/\e=.returned (.tuple #[.map (some a),.int .i64 0])/\w.1.size<=a/\SW w' a st/\Below w.1.size w w'
def yQ (iA:Option Addr) (im ic:Nat) (p:List Cnt) (A:Option Addr) (n c:Nat) (l:List Com) (w:Wd) (hi:Sl cnC 23 w w.1.size iA im ic p) (P:∀ x∈p,CW w x) (iM:im<=1024)
  (hs:Cs w w.1.size A n c l) (hv:∀ x∈l,SmC x) (hn:n<=12) (ht:Sta w) (hc:Cod w):
  Calls prog 16 #[.slice iA im ic,.slice A n c,Ai 25] w (pF (P8 p l) w):=by
 have R:=K5 A n c l w hs (fun x hx y hy=>(hv x hx y hy).2) hn;have dS:=fun W (hW:Below w.1.size w W)=>NJ iA im ic p W (hi.after hW hW.size) (fun x hx=>(P x hx).below hW) iM (hc.after hW)
 obtain ⟨Z,D⟩:=yG (P8 p l);rw [D];unfold P8 at D;have cF:=hs.1.len;clear hi P iM hs;cases a:Zx l with
 |none=>
  rw [a] at R;have Y:Z=.inl 1:=by rw [<-D,a]
  clear D a;go_in;go_wp2_with (first|(go_at_call 14;apply R.mono;intro e w1 F;obtain ⟨rfl,g⟩:=I1 F;clear F)|(go_at_call 42;apply (dS w1 g).mono;rintro e w2 M;have cE:=SU M;obtain ⟨v,z,rfl,E⟩:=cE;have L:=U0 g E g.size;clear M E))
  all_goals
   go_ret2
   rw [Y];exact ⟨Ac,rfl,L⟩
 |some s=>
  have bN:=Hp a;have cD:=Ho a;rw [a] at R;cases d:F9 vC [] p with
  |none=>
   rw [d] at dS;have Y:Z=.inl 1:=by rw [<-D,a,d]
   clear D a d bN cD;go_in;go_wp2_with (first|(go_at_call 14;apply R.mono;intro e w1 F;obtain ⟨A',c',rfl,V,g⟩:=I1 F;clear F V)|(go_at_call 42;refine yP (dS w1 g) fun w2 E=>?_;have L:=U0 g E g.size;clear E))
   go_ret2
   rw [Y];exact ⟨Ac,rfl,L⟩
  |some K=>
   rw [d] at dS;have Y:FG Uq doF s (K.map plC)=Z:=by rw [<-D,a,d]
   obtain ⟨m,hm⟩:=yG s.length;have HSM:m<=12:=Oo
   clear D a d bN cF hn;go_in;go_wp2_with (first|(go_at_call 14;apply R.mono;intro e w1 F;obtain ⟨A',c',rfl,V,g⟩:=I1 F;rw [hm] at V ⊢;clear F)|(go_at_call 42;apply (dS w1 g).mono;rintro e w2 ⟨rfl,J,E⟩;have HPK:PK w w1 w2 K:=⟨J,E,J.sb.lt,g⟩;clear J E));go_loopw [33] (fun i wr=>∃ (j:Nat) (st:List Cnt),j<=m/\i=.int .i64 j/\FG Uq doF (s.drop j) (st.map plC)=Z/\PK w w1 wr st) (fun i _=>m-(intOf i).toNat)
   .exact ⟨0,K,Z0 _,rfl,Y,HPK⟩
   .obtain ⟨j,st,hj,rfl,aG,hpk⟩:=hrel;obtain ⟨wx,rfl⟩:∃ x:Wd,x=wr:=⟨_,rfl⟩
    have hm12:=HSM;by_cases aE:j<m
    .obtain ⟨b,o,x,rfl,hb,M,aB⟩:=Sl.cell (f:=Ud) (k:=4) (fun _=>rfl) (V.1.below hpk.be) aE;have r:=QJ M
     have hd:s.drop j=x::s.drop (j+1):=by
      have hjl:j<s.length:=by rw [hm];exact aE
      rw [QO hjl];congr 1;exact (QZ.1 M).2
     rw [hd] at aG;unfold FG at aG;have T:wx.rangeAt b (o+j*4) (Ud x):=fun t u hu=>aB t u hu
     have Q:=SJ x;have L:=fun H=>Blk.new wx 42 H
     have dL:=fun H=>U5 wx H (Ud x).toArray 42
     have cT:=hpk.next ((Bf _ _).alloc (Le _) (.cells (Ud x).toArray 42));have N:=Blk.new wx 42 (Ud x).toArray;have S:=fun (W:Wd) (h:PK w w1 W st)=>uI x w1.1.size st w1 W (V.2 x r) h.be rfl h.sw (cD x r).2 (hv x (cD x r).1) (ht.after g) (hc.after g)
     clear hb M aB hd r;cases B:aft Uq doF x.num x.cs (st.map plC) with
     |inl er=>
      rw [B] at aG;go_wp2_with (first|(with_reducible apply yM 42 36 T)|(with_reducible apply yS 42 13 (L _) Q;rw [dL])|(with_reducible apply yL 42 13 N)|(go_at_call 25;refine yP (Nk x j w1.1.size _) fun w3 I=>?_;have O:=cT.next I;have bD:=N.below I Am;clear I N)|(with_reducible apply yL 42 13 bD)|(go_at_call 43;apply (S _ O).mono;intro e w4 U;rw [B] at U;obtain ⟨G,rfl,q⟩:=U;have iF:=(by simpa using G);have cO:=U0 g (Ec O.be q (Le _) O.be.size) g.size;clear q))
      go_ret2
      rw [<-aG];exact ⟨G,rfl,cO⟩
     |inr s1=>
      rw [B] at aG;go_wp2_with (first|(with_reducible apply yM 42 36 T)|(with_reducible apply yS 42 13 (L _) Q;rw [dL])|(with_reducible apply yL 42 13 N)|(go_at_call 25;refine yP (Nk x j w1.1.size _) fun w3 I=>?_;have O:=cT.next I;have bD:=N.below I Am;clear I N)|(with_reducible apply yL 42 13 bD)|(go_at_call 43;apply (S _ O).mono;intro e w4 U;rw [B] at U;obtain ⟨st4,X,rfl,C,q⟩:=U;have HK4:=O.far C q;clear C q));go_roundw
      .exact ⟨j+1,st4,by have:=aE;omega,Au,by rw [X];exact aG,HK4⟩
      .simp [intOf];have:=aE;omega
    .obtain rfl:j=m:=Oo
     have eV:Z=.inr (st.map plC):=by rw [<-aG,WP (by rw [hm];exact Le _)];rfl
     go_wp2
     go_ret2
     rw [eV];exact ⟨w1.1.size,st,rfl,rfl,g.size,hpk.sw,hpk.base⟩
end
def Zu (s:List PC):Prop:=∀ x∈s,(Lit.int .i64 x.d.id).wf=true
def oW {n:Int} (h:Y4 n=true):(Lit.int .i64 n).wf=true:=by
 have:=Gw h;simp [Lit.wf,IntKind.min,IntKind.max,IntKind.bits,IntKind.signed];omega
def Hj {s:List PC} {x:PC} (h:Zu s) (a:(Lit.int .i64 x.d.id).wf=true):Zu (Eo s x)/\(Eo s x).length<=s.length+1:=by
 unfold Eo;split
 .refine ⟨fun y hy=>?_,Am⟩;rcases ZD hy with hy|rfl
  .exact h y hy
  .exact a
 .refine ⟨fun y hy=>?_,Am⟩;rcases QC.1 hy with hy|hy
  .exact h y hy
  .rw [QT] at hy;subst hy;exact a
def qy {s:List PC} {id:Int} (h:Zu s):Zu (Ji s id)/\(Ji s id).length<=s.length:=by
 unfold Ji;refine ⟨fun y hy=>h y (VC hy),?_⟩;rw [List.length_eraseIdx];split<;>omega
def Qh {a:Bz} {id:Int} {d:DSet} (h:Uq a id=some d):d.id=id:=by
 unfold Uq at h;split at h
 .cases h
 .split at h
  .rename_i e _ he;injection h with h
   subst h;exact he
  .cases h
def Q3 (a:Int):∀ (cs:List Chg) (s b:List PC),Zu s->(∀ c∈cs,(Lit.int .i64 c.id).wf=true)->Ju Uq a cs s=some b->Zu b/\b.length<=s.length+cs.length
 | [],s,b,hs,_,h=>by
  injection h with h
  subst h;exact ⟨hs,Le _⟩
 |c::r,s,b,hs,hc,h=>by
  have f:∀ x∈r,(Lit.int .i64 x.id).wf=true:=fun x e=>hc x (QN _ e)
  unfold Ju at h;split at h
  .have:=Q3 a r s b hs f h;exact ⟨this.1,As⟩
  .split at h
   .cases h
   .rename_i d hd
    have e:(Lit.int .i64 (⟨d,a-1,[]⟩:PC).d.id).wf=true:=by
     show (Lit.int .i64 d.id).wf=true;rw [Qh hd];exact hc c QP
    have g:=Hj hs e;have:=Q3 a r _ b g.1 f h;exact ⟨this.1,As⟩
def CF (e:Int):∀ (cs:List Chg) (i:Nat) (s b:List PC),Zu s->(∀ c∈cs,(Lit.int .i64 c.id).wf=true)->Yc Uq doF e i cs s=.inr b->Zu b/\b.length<=s.length+cs.length
 | [],i,s,b,hs,_,h=>by
  injection h with h
  subst h;exact ⟨hs,Le _⟩
 |c::r,i,s,b,hs,hc,h=>by
  have l:∀ x∈r,(Lit.int .i64 x.id).wf=true:=fun x j=>hc x (QN _ j)
  have a:∀ f:List PC,Zu f/\f.length<=s.length+1->Yc Uq doF e (i+1) r f=.inr b->Zu b/\b.length<=s.length+(c::r).length:=fun f k m=>by
   have:=CF e r (i+1) f b k.1 l m;exact ⟨this.1,As⟩
  unfold Yc at h;split at h
  .exact a s ⟨hs,Oo⟩ h
  .rename_i x j;have g:x∈s:=ZC j;split at h
   .have:=qy (id:=c.id) hs;exact a _ ⟨this.1,Oo⟩ h
   .split at h
    .split at h
     .exact a s ⟨hs,Oo⟩ h
     .rename_i d hd;refine a _ (Hj hs ?_) h;show (Lit.int .i64 d.id).wf=true;rw [Qh hd];exact hc c QP
    .split at h
     .exact a s ⟨hs,Oo⟩ h
     .split at h
      .cases h
      .rename_i y hy;refine a _ (Hj hs ?_) h;rw [uc _ _ _ _ hy];exact hs x g
def RF:∀ (l:List Com) (s a:List PC),Zu s->(∀ u∈l,u.cs.length<=8/\∀ c∈u.cs,(Lit.int .i64 c.id).wf=true)->FG Uq doF l s=.inr a->Zu a/\a.length<=s.length+16*l.length
 | [],s,a,hs,_,h=>by
  injection h with h
  subst h;exact ⟨hs,Le _⟩
 |u::r,s,a,hs,hu,h=>by
  obtain ⟨i,b⟩:=hu u QP;unfold FG at h;split at h
  .cases h
  .rename_i s2 h2;unfold aft at h2;split at h2
   .cases h2
   .rename_i s3 h3;have d:=Q3 u.num u.cs s s3 hs b h3;have e:=CF u.num u.cs 0 s3 s2 d.1 b h2;have f:=RF r s2 a e.1 (fun v g=>hu v (QN _ g)) h;refine ⟨f.1,?_⟩;simp only [QS];omega
def sQ {a:List Cnt} {x:Cnt} (h:Zu (a.map plC)) (b:(Lit.int .i64 x.d.id).wf=true):Zu ((IR a x).map plC)/\(IR a x).length<=a.length+1:=by
 have:=Hj (x:=plC x) h b;rw [FC] at this;simpa using this
def CC (v:Cnt->Bool):∀ (l b a:List Cnt),Zu (b.map plC)->(∀ x∈l,(Lit.int .i64 x.d.id).wf=true)->F9 v b l=some a->Zu (a.map plC)/\a.length<=b.length+l.length
 | [],b,a,hs,_,h=>by
  injection h with h
  subst h;exact ⟨hs,Le _⟩
 |x::r,b,a,hs,hx,h=>by
  unfold F9 at h;split at h
  .cases h
  .have h1:=sQ hs (hx x QP);have:=CC v r _ a h1.1 (fun y hy=>hx y (QN _ hy)) h;exact ⟨this.1,As⟩
def qJ {c:Chg} (h:Z6 c=true):Y4 c.id=true:=by
 unfold Z6 chB at h
 repeat' split at h
 all_goals first
  |cases h
  |(unfold Ie at h;simp only [QU] at h;simp [h])
def oJ {a:List Cnt} {l:List Com} {s:List PC} (j:∀ x∈a,(Lit.int .i64 x.d.id).wf=true) (hn:a.length<=100) (o:l.length<=12) (n:∀ u∈l,u.cs.length<=8) (h:P8 a l=.inr s):(∀ x∈s,(Lit.int .i64 x.d.id).wf=true)/\s.length<=1000:=by
 unfold P8 at h;split at h
 .rename_i s0 st0 ho hb;have f:=CC vC a [] st0 (fun x k=>by cases k) j hb
  have e:=RF s0 (st0.map plC) s f.1 (fun u i=>by
   obtain ⟨m,b⟩:=Ho ho u i;refine ⟨n u m,fun c d=>oW (qJ ?_)⟩;unfold Zy at b;simp only [QU,XN,YC] at b;have:=b.1.2 c d;simpa using this) h
  have p:=Hp ho;refine ⟨e.1,?_⟩;have:=e.2;rw [XT] at this;have g:=f.2;simp at g;omega
 .cases h
end Go.Proofs.YtdleakjejodjjaaGreatDoor
