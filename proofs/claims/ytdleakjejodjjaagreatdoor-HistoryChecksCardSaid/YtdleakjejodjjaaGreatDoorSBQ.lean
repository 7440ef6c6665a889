/- Of the history laws. -/
import Derived.Test.YtdleakjejodjjaaGreatDoorSBP
namespace Go.Proofs.YtdleakjejodjjaaGreatDoor
open Tryz
set_option linter.all false
set_option maxRecDepth 100000
set_option maxHeartbeats 20000000
open Go.RowKit
section
variable {l:List Com} {x:Com} {w:Wd} {base n c k:Nat} {A:Option Addr}
def OU (x:Com):∀ u∈Ud x,u.oneCell'=true:=by
 have h:=MC [x]
 rwa [Xr] at h
def bsM {o:Oper} {a:Act} (b:Operand) (x:Com) (g:o.op=.buildSlice 23 1 #[(0,b)]) (j:a.eval b=.agg (Ud x).toArray) (w:Wd):(execOp a.eval o).run prog w=.ok (.value (.slice (Ah w.1.size 0) 1 1)) (Aa w (Ud x).toArray 42):=by
 obtain ⟨e,i,f,d,m⟩:=WG FK;have h:=run_buildSlice (P:=prog) w 23 42 1 #[(0,.agg (Ud x).toArray)] (Ud x).toArray e _ underlying23 i f (by rw [d];decide) (by rw [d];decide) (by rw [d];kernel_rfl);unfold execOp;simp only [g,ZG,KL,KV,WS,KN,j,h,XB]
def TX (a:Option Addr) (b k:Nat):Option Addr:=if b=k then a else a.map (·.add (k*4))
theorem lp {G:Prop} (h:G:=by
  rw [h,show prog.elem 23=42 from Ak,sizeOf42 W];simp [Result.andThen,sliced,TX]):G:=h
def Qt (W:Wd) (a:Option Addr) (j b k:Nat) (d:k<=j):(Instr.slice 23 (.slice a j b) (some (.int .i64 (k:Int))) none none).run prog W=.ok (.slice (TX a b k) (j-k) (b-k)) W:=by
 have h:=run_slice_l (P:=prog) (w:=W) 23 a j b underlying23 .i64 (k:Int) Oo Oo;exact lp
def D9 (W:Wd) (a:Option Addr) (j b k:Nat) (d:k<=b):(Instr.slice 23 (.slice a j b) none (some (.int .i64 (k:Int))) none).run prog W=.ok (.slice (TX a b 0) k b) W:=by
 have h:=run_slice_h (P:=prog) (w:=W) 23 a j b underlying23 .i64 (k:Int) Oo Oo;exact lp
def Tr {j:Nat} (h:l[j]? =some x):Xl Z4 [] (l.take (j+1))=I3 Z4 x (Xl Z4 [] (l.take j)):=by
 have:l.take (j+1)=l.take j++[x]:=by
  rw [YG,h];rfl
 rw [this,Lf]
def vh {a:List Com} {y:Com} {q:Nat} (d:∀ p z,q+1<=p->a[p]? =some z->Z4 x z=true) (f:a[q]? =some y) (e:Z4 x y=true):∀ p z,q<=p->a[p]? =some z->Z4 x z=true:=by
 intro p z g hz;by_cases b:p=q
 .subst b;rw [f] at hz;injection hz with hz
  subst hz;exact e
 .exact d p z Oo hz
def qH (h:w.ownsRow base 42 4 (.slice A n c) n (U7 Ud l)) (d:k<=n) (b:n<=c):Rd w w.1.size 4 (TX A c 0) k (U7 Ud (l.take k)):=by
 have a:=(Rd.drop (Rd.of_own h) (Z0 n) b).take (k:=k) Oo;rw [JK,VF,Zf (f:=Ud) (k:=4) (fun _=>rfl)] at a;exact a
def un (h:w.ownsRow base 42 4 (.slice A n c) n (U7 Ud l)) (b:k<=n) (d:n<=c):Rd w w.1.size 4 (TX A c k) (n-k) (U7 Ud (l.drop k)):=by
 have a:=Rd.drop (Rd.of_own h) b d;rw [Eb (f:=Ud) (k:=4) (fun _=>rfl)] at a;exact a
def TD (A:Option Addr) (n c:Nat) (l:List Com) (w:Wd) (hs:Cs w w.1.size A n c l) (P:∀ x∈l,∀ c∈x.cs,Ij c) (hn:n<=1000):
  Calls prog 21 #[.slice A n c] w (pd (Zx l) w):=by
 obtain ⟨R,hR⟩:∃ R,Zx l=R:=⟨_,rfl⟩
 rw [hR];have HR:=Hd hR;have HL:=hs.1.len;have HS:=Hd hs;have HV:=Hd P;have V:=Hd hn;have H0:=Hd (And.intro (GY w 42 4) ((Bf w.1.size w).alloc (Le _) (.cells #[] 42)));clear hR hs P hn;go_wp2;go_loopw [4,5] (fun v i wr=>∃ j:Nat,j<=n/\i=.int .i64 j/\(∀ t,t<j->∀ e,l[t]? =some e->Zy e=true)/\wr.ownsRow w.1.size 42 4 v j (U7 Ud (Xl Z4 [] (l.take j)))/\Below w.1.size w wr) (fun _ i _=>n-(intOf i).toNat)
 .exact ⟨0,Z0 _,rfl,fun t h=>absurd h Oo,H0.o.1,H0.o.2⟩
 .obtain ⟨j,hj,rfl,hall,aD,aF⟩:=hrel;have HA:=Hd hall;have HO:=Hd aD;have u:=Hd aF;obtain ⟨G,c4,rfl,fC,_⟩:=U4 aD;have eD:=Hd fC;by_cases D:j<n
  .obtain ⟨b,o,x,rfl,g,E,aB⟩:=Sl.cell (f:=Ud) (k:=4) Vo HS.o.1 D;have K:=Hd fun (W:Wd) (Y:Below w.1.size w W) (i:Nat) (v:Value) (P:(Ud x)[i]? =some v)=>(Y.cell (p:=⟨b,o+j*4+i,none⟩) g).trans (aB i v P)
   have T:=QJ E;have HX:=Hd (Ty x wr ((HS.o.2 x T).after u.o u.o.size) (HV.o x T));have HG:=Hd E;have d1:decide ((j:Int)<(n:Int))=true:=QQ Oo;have d2:decide (j<n)=true:=QQ D;have J:=Hd D;clear g E aB T aD aF hall fC hj;cases Z:Zy x with
   |false=>
    rw [Z] at HX;have eU:Aw (R=none):=Hd (by rw [<-HR.o];unfold Zx;rw [QK (Ve HG.o Z)]);clear Z;go_wp2_with (first|((with_reducible refine Gl 42 18 ?_);refine Ln 42 b (o+j*4) (Ud x) (K.o _ u.o) underlying42 ?_)|(go_at_call 45;refine yP HX.o fun H g=>?_;have M:=Hd (U0 u.o g u.o.size);clear g))
    go_ret2
    exact .inl ⟨eU.o,rfl,M.o⟩
   |true=>
    rw [Z] at HX;have HP:=Hd Z;clear Z
    go_upto_region 7 with (first|((with_reducible refine Gl 42 18 ?_);refine Ln 42 b (o+j*4) (Ud x) (K.o _ u.o) underlying42 ?_)|(go_at_call 45;refine yP HX.o fun H g=>?_;have M:=Hd (U0 u.o g u.o.size);have i8:=Hd (Ub HO.o g);clear g))
    obtain ⟨a,r⟩:∃ a,Xl Z4 [] (l.take j)=a:=⟨_,rfl⟩
    rw [r] at i8;have HOUT:=Hd r;have HOL:Aw (a.length=j):=Hd (by rw [<-r,E9,WX];have:=HL;have:=J.o;simp;omega);clear HX HO r;go_wp2;go_loopw [6] (fun v wx=>∃ k:Nat,k<=j/\v=.int .i64 k/\(∀ p y,k<=p->a[p]? =some y->Z4 x y=true)/\Below H.1.size H wx) (fun v _=>(intOf v).toNat)
    .exact ⟨j,Le _,rfl,fun p y Z hy=>by have:=(QZ.1 hy).1;rw [HOL.o] at this;omega,Bf _ _⟩
    .obtain ⟨k,hk,rfl,hf,dG⟩:=hrel;have HF:=Hd hf;have bM:=Hd dG;have F:=Hd hk;clear hf dG;refine (WB k).elim (fun h0=>?zero) (fun h0=>?more)
     case' zero=>
      have i7:∀ y,0<k->a[k-1]? =some y->Z4 x y=false:=fun y h=>absurd h Oo
      have X:=Hd i7;have d3:decide ((0:Int)<(k:Int))=false:=QW Oo;have d4:decide (0<k)=false:=QW Oo;clear i7 h0 hk;go_wp2;apply WzR (S:=Below H.1.size H) (R:=Rb) (bM.o.trans ((Bf _ _).drew.mono bM.o.size)) (fun _ _ h g=>h.trans (g.mono h.size));apply xp (.int .i64 k);apply xp (.bool false);apply xp (.bool false)
      iterate 10 apply xp undef (VH ⟨Af,Af⟩)
      apply xp (.bool false);refine xn fun W hS _=>?_
      have wS:=Hd hS;clear hS
     case' more=>
      obtain ⟨q,rfl⟩:∃ q,k=q+1:=⟨k-1,Oo⟩
      obtain ⟨b4,o4,y,rfl,gS,iT,fC⟩:=Sl.cell (f:=Ud) (k:=4) Vo (Sl.of_own (f:=Ud) (k:=4) Vo Ac i8.o) (show q<j from Oo);have HC4:=Hd fun (W:Wd) (Y:Below H.1.size H W) (i:Nat) (v:Value) (P:(Ud y)[i]? =some v)=>(Y.cell (p:=⟨b4,o4+q*4+i,none⟩) gS).trans (fC i v P)
      have HGY:=Hd iT;have bT:=Hd fun W=>Ro x y W
      have d3:decide ((0:Int)<((q+1:Nat):Int))=true:=QQ Oo;have cX:IntKind.i64.wrap (((q+1:Nat):Int)-1)=q:=(QL _ (by have:=J.o;have:=V.o;omega)).trans Oo;have wi:IntKind.i64.wrap (q:Int)=q:=QL _ (by have:=J.o;have:=V.o;omega);have hq1:¬ (j<=q):=Oo
      obtain ⟨z,hz⟩:∃ z,Z4 x y=z:=⟨_,rfl⟩
      rw [hz] at bT;have HZ:=Hd hz;clear gS iT fC hz hk h0;go_wp2;apply WzR (S:=Below H.1.size H) (R:=Rb) (bM.o.trans ((Bf _ _).drew.mono bM.o.size)) (fun _ _ h g=>h.trans (g.mono h.size));apply xp (.int .i64 ((q+1:Nat):Int));apply xp (.bool true);apply xp (.bool true);apply xp (.slice (Ah b o) n c);apply xp (.int .i64 j);apply xp (Ag b (o+j*4));apply xp (.agg (Ud x).toArray) (WT Af 42 _ rfl b (o+j*4) rfl (Ud x) _ (fun W h=>K.o W (M.o.trans (h.mono M.o.size))) underlying42 rfl Ak);apply xp (.slice (Ah b4 o4) j c4);apply xp (.int .i64 ((q+1:Nat):Int));apply xp (.int .i64 q);apply xp (Ag b4 (o4+q*4));apply xp (.agg (Ud y).toArray) (WT Af 42 _ rfl b4 (o4+q*4) rfl (Ud y) _ (fun W h=>HC4.o W h) underlying42 rfl Ak)
      apply xc (fun W _ _=>bT.o W);apply xp (.bool z);refine xn fun W hS _=>?_
      have wS:=Hd hS;clear hS;cases z;rotate_left
      .go_wp2;go_roundw
       .exact ⟨q,by have:=F.o;omega,rfl,vh HF.o HGY.o HZ.o,wS.o⟩
       .simp [intOf]
      have X:Aw (∀ y,0<q+1->a[q+1-1]? =some y->Z4 x y=false):=Hd fun y' _ hy=>by rw [VL,HGY.o] at hy;injection hy with hy;subst hy;exact HZ.o
      obtain ⟨G,hA4⟩:∃ G,(some ⟨b4,o4,none⟩:Option Addr)=G:=⟨_,rfl⟩
      rw [hA4] at i8 ⊢;generalize q+1=k at HF bM F X ⊢
     all_goals
      have HINS:Aw (Xl Z4 [] (l.take (j+1))=a.take k++[x]++a.drop k):=Hd (by rw [Tr HG.o,HOUT.o,rJ (by rw [HOL.o];exact F.o) HF.o X.o];simp);have iZ:=qH (k:=k) i8.o F.o eD.o;have dX:=un (k:=k) i8.o F.o eD.o;have hst:=fun W=>D9 W G j c4 k (Lx F.o eD.o)
      have bN:=fun W=>Qt W G j c4 k F.o
      go_wp2;refine Rw (S:=Below H.1.size H) Ak (wS.o.trans ((Bf _ _).drew.mono wS.o.size)) (fun d=>?_);apply tk 1 (.slice G j c4) d;apply tk 2 (.int .i64 k) d;apply tk 3 (.slice (TX G c4 0) k c4) d;apply tk 5 (.slice (Ah b o) n c) d;refine tk 6 (.int .i64 j) d ?_;refine tk 7 (Ag b (o+j*4)) d ?_;refine trm 8 42 (Ud x) (fun W Y=>K.o W (M.o.trans (Y.mono M.o.size))) d underlying42 ?_;refine tk 11 (.slice G j c4) d ?_;refine tk 12 (.int .i64 k) d ?_;refine tk 13 (.slice (TX G c4 k) (j-k) (c4-k)) d ?_
      refine t3 0 9 4 42 23 (Ud x) FK underlying23 ((iZ.below d).more d.size) (by have:=F.o;have:=J.o;have:=V.o;omega) (fun W Y=>d.trans (Y.mono d.size)) (fun v0 v1 g2 W3 g ho E=>?_) (ej0:=fun w=>bsM (.tmp 48) x rfl rfl w) (ej1:=fun _ w=>bsM (.tmp 48) x rfl rfl w) (ej2:=fun _ _ w=>bsM (.tmp 48) x rfl rfl w);refine tg 10 FK underlying23 ho (ET E rfl) (OU x) (by have:=F.o;have:=J.o;have:=V.o;omega) g.size (fun v5 w5 _ aI=>(d.trans (g.mono d.size)).grown aI (Lx d.size g.size) (U9 ho d.size)) (fun v5 w5 fP aI=>?_);have Q:=g.grown aI g.size (U9 ho (Le _))
      refine tg 14 FK underlying23 fP ((dX.below (d.trans (Q.mono d.size))).more (Lx d.size Q.size)) (MC _) (by have:=F.o;have:=J.o;have:=V.o;omega) Q.size (fun v6 w6 _ aI=>(d.trans (Q.mono d.size)).grown aI (Lx d.size Q.size) (U9 fP d.size)) (fun v6 w6 gQ N=>?_);have eG:=Q.grown N Q.size (U9 fP (Le _));refine tk 15 v6 (d.trans (eG.mono d.size)) ?_;refine Ad Ak ?_ _;have jU:U7 Ud (a.take k)++Ud x++U7 Ud (a.drop k)=U7 Ud (Xl Z4 [] (l.take (j+1))):=by rw [HINS.o,V9,V9,Xr]
      have fT:k+1+(j-k)=j+1:=by have:=F.o;omega
      rw [jU,fT] at gQ;have L:Below w.1.size w W.drew:=M.o.trans (d.mono M.o.size);have wP:=Hd (X7 gQ L.size);have cY:=Hd (L.trans (eG.mono L.size));have hw:IntKind.i64.wrap ((j:Int)+1)=(j:Int)+1:=QL _ (by have:=J.o;have:=V.o;omega);clear L eG d gQ fP ho E aI N g Q jU fT iZ dX hst bN;go_wp2;go_roundw
      .exact ⟨j+1,J.o,Au,Xk HA.o HG.o HP.o,wP.o,cY.o⟩
      .simp [intOf];have:=J.o;omega
  .obtain rfl:j=n:=Oo
   have wL:l.take j=l:=WU (by rw [HL];exact Le _);obtain ⟨s,dA⟩:∃ s,Xl Z4 [] l=s:=⟨_,rfl⟩
   rw [wL,dA] at HO
   have m:∀ x∈l,Zy x=true:=fun x C=>by
    obtain ⟨t,ht,rfl⟩:=XG C;exact HA.o t (by have:=HL;omega) _ (QV ht)
   have cD:∀ x∈s,x∈l:=fun x C=>by
    rw [<-dA,K7] at C;exact C.resolve_left Am
   have B:Aw (s.length=j):=Hd (by rw [<-dA,E9];simpa using HL)
   have aU:Aw (R=if Hc 0 s=true then some s else none):=Hd (by
    rw [<-HR.o,<-dA];unfold Zx;rw [QX (by rw [VW];rintro ⟨x,C,I⟩;rw [m x C] at I;simp at I)])
   have O:=Hd fun x C=>And.intro (cD x C) (m x (cD x C))
   have bW:=Hd (Sl.of_own (f:=Ud) (k:=4) Vo Ac HO.o);have HCS:=Hd (show Cs wr wr.1.size G j c4 s from ⟨bW.o,fun x C=>(HS.o.2 x (O.o x C).1).after u.o u.o.size⟩);obtain ⟨C0,U⟩:∃ C0,Hc 0 s=C0:=⟨_,rfl⟩
   rw [U] at aU;have HC0:=Hd U;clear wL dA m cD aD aF hall fC hj D HO HA HR H0 U;go_wp2;go_loopw [7,8] (fun v i wx=>∃ (k:Nat) (nv:Int),k<=j/\i=.int .i64 k/\v=.int .i64 nv/\C0=Hc nv (s.drop k)/\Below wr.1.size wr wx) (fun _ i _=>j-(intOf i).toNat)
   .exact ⟨0,0,Z0 _,rfl,rfl,HC0.o.symm,Bf _ _⟩
   .obtain ⟨k,nv,hk,rfl,rfl,eS,dG⟩:=hrel;by_cases D:k<j
    .obtain ⟨b,o,x,rfl,g,E,aB⟩:=Sl.cell (f:=Ud) (k:=4) Vo (bW.o.below dG) D;have c1:=aB 1 _ rfl;have c3:=aB 3 _ rfl;obtain ⟨n1,n2,n3⟩:=FY (O.o x (QJ E)).2;have hd:s.drop k=x::s.drop (k+1):=by rw [QO (QZ.1 E).1,(QZ.1 E).2]
     rw [hd] at eS;unfold Hc at eS;have HLA:=fun W=>Nh x W n1 n2 n3
     have d1:decide ((k:Int)<(j:Int))=true:=QQ Oo;have d2:decide (k<j)=true:=QQ D;have hw:IntKind.i64.wrap ((k:Int)+1)=(k:Int)+1:=QL _ (by have:=V.o;omega);clear g E hd hk n1 n2 n3;by_cases bF:x.num<=nv
     .have eU:R=none:=by rw [aU.o,eS,QK bF];rfl
      have e1:=QQ bF;clear eS bF;go_wp2_with fail
      go_ret2
      exact .inl ⟨eU,rfl,u.o.trans (dG.mono u.o.size)⟩
     .rw [QX bF] at eS;have e1:=QW bF;clear bF;by_cases I:0<x.cn
      .rw [QK I] at eS;have e2:=QQ Oo;have e3:=QQ I;clear I;go_wp2_with (first|((with_reducible apply Gl 42 77);apply Ln 42 b (o+k*4) (Ud x) (fun i v P=>aB i v P) underlying42)|(go_at_call 47;refine yP (HLA _) fun w4 gS=>?_;have cO:=U0 dG gS dG.size;clear gS));go_roundw
       .exact ⟨k+1,_,D,Au,rfl,eS,cO⟩
       .simp [intOf];have:=D;omega
      .rw [QX I] at eS;have e2:=QW Oo;have e3:=QW I;clear I;go_wp2_with fail;go_roundw
       .exact ⟨k+1,_,D,Au,rfl,eS,dG⟩
       .simp [intOf];have:=D;omega
    .obtain rfl:k=j:=Oo
     have eU:R=some s:=by rw [aU.o,eS,WP (by rw [B.o];exact Le _)];rfl
     clear hk;go_wp2_with fail
     go_ret2
     exact .inr ⟨s,eU,G,c4,by rw [B.o];rfl,by rw [B.o];exact HCS.o.after dG dG.size,u.o.trans (dG.mono u.o.size)⟩
end
section
variable {j:Nat} {w W W':Wd} {v:Value} {now:List Cnt} {A:Option Addr} {c:Nat} {iA:Option Addr} {im ic:Nat} {ini:List Cnt} {n:Nat} {l:List Com}
def Ey (a:Int) (b:Int):∀ (cs:List Chg) (i:Nat) (s:List PC),Yc Uq doF a i cs s=.inl b->b≠0
 | [],i,s,h=>by cases h
 |c::r,i,s,h=>by
  unfold Yc at h;split at h
  .exact Ey a b r _ _ h
  .split at h
   .exact Ey a b r _ _ h
   .split at h
    .split at h
     .exact Ey a b r _ _ h
     .exact Ey a b r _ _ h
    .split at h
     .exact Ey a b r _ _ h
     .split at h
      .rename_i hd;injection h with h
       subst h;exact PM _ _ _ _ hd
      .exact Ey a b r _ _ h
def uJ {a:Int} {cs:List Chg} {s:List PC} {b:Int} (h:Fe Uq doF a cs s=.inl b):b≠0:=by
 unfold Fe at h;split at h
 .injection h with h
  omega
 .exact Ey _ _ _ _ _ h
structure FP (iA:Option Addr) (im ic:Nat) (ini:List Cnt) (A:Option Addr) (n c:Nat) (l:List Com) (w:Wd):Prop where
 hi:Sl cnC 23 w w.1.size iA im ic ini
 ip:∀ x∈ini,CW w x
 im:im<=4
 iz:∀ x∈ini,x.ps.length<=20
 hs:Cs w w.1.size A n c l
 st:∀ x∈l,∀ c∈x.cs,Ij c
 c8:∀ x∈l,x.cn<=8
 hn:n<=12
structure RJ (j:Nat) (w:Wd) (v:Value) (now:List Cnt) (W:Wd):Prop where
 nw:NW w.1.size W v now
 be:Below w.1.size w W
 len:now.length<=4+8*j
 pl:∀ y∈now,y.ps.length<=20+8*j
def RJ.next (h:RJ j w v now W) (a:Below W.1.size W W'):RJ j w v now W':=⟨h.nw.below a,U0 h.be a h.be.size,h.len,h.pl⟩
def RJ.more {k:Nat} (h:RJ j w v now W) (a:j<=k):RJ k w v now W:=⟨h.nw,h.be,by have:=h.len;omega,fun y hy=>by have:=h.pl y hy;omega⟩
def RJ.aft {m:Nat} {u:Com} (h:RJ j w (.slice A m c) now W) (I:j<=12) (t:ComOk W W.1.size u) (f:∀ c∈u.cs,Ij c) (G:u.cn<=8) (D:Zy u=true):
  Calls prog 24 #[.slice A m c,.agg (Ud u).toArray] W fun e w'=>(∃ b,Fe Uq doF u.num u.cs (now.map plC)=.inl b/\b≠0/\e=.returned (.tuple #[.slice none 0 0,.int .i64 b])/\Below W.1.size W w')\/(∃ p a,Fe Uq doF u.num u.cs (now.map plC)=.inr (a.map plC)/\e=.returned (.tuple #[p,.int .i64 0])/\RJ (j+1) w p a w'/\Below W.1.size W w'):=by
 obtain ⟨q,E⟩:=h.nw.sl;obtain ⟨B,C,_⟩:=FY D;have F:=h.len;refine (TN (20+8*j+u.cn) A m c now u W q (fun x i=>(h.nw.ps x i).1) t f Oo Oo B C Oo Oo (fun x i=>by have:=h.pl x i;omega)).mono ?_;intro e w' d;cases g:Fe Uq doF u.num u.cs (now.map plC) with
 |inl b=>
  rw [g] at d;exact .inl ⟨b,rfl,uJ g,d.1,d.2⟩
 |inr s=>
  rw [g] at d;obtain ⟨v,a,rfl,z,k,o,H,r⟩:=d;exact .inr ⟨v,a,rfl,z,⟨⟨X7 k.own h.be.size,k.ps⟩,h.be.trans (o.mono h.be.size),Oo,fun y hy=>by have:=r y hy;omega⟩,o⟩
def FP.com {s:List Com} (h:FP iA im ic ini A n c l w) (b:Zx l=some s):s.length<=12/\∀ u∈s,(∀ c∈u.cs,Ij c)/\u.cn<=8/\Zy u=true:=by
 refine ⟨by rw [Hp b,h.hs.1.len];exact h.hn,fun u e=>?_⟩;obtain ⟨a,d⟩:=Ho b u e;exact ⟨h.st u a,h.c8 u a,d⟩
def NL:∀ (l s t:List PC),Jo s l=some t->∀ y∈t,y∈s\/y∈l
 | [],s,t,h,y,hy=>by
  injection h with h
  subst h;exact .inl hy
 |x::r,s,t,h,y,hy=>by
  unfold Jo at h;split at h
  .cases h
  .rcases NL r _ t h y hy with a|a
   .unfold insP at a;rw [QC,QH] at a;rcases a with a|rfl|a
    .exact .inl (XA a)
    .exact .inr QP
    .exact .inl (ZY a)
   .exact .inr (QN _ a)
def SY:∀ (l s t:List PC),Jo s l=some t->t.length=s.length+l.length
 | [],s,t,h=>by
  injection h with h
  rw [h];rfl
 |x::r,s,t,h=>by
  unfold Jo at h;split at h
  .cases h
  .rw [SY r _ t h];unfold insP;simp;omega
def FP.beg {t:List PC} (h:FP iA im ic ini A n c l w) (d:Jo [] (ini.map plC)=some t) (hn:now.map plC=t) (b:Below w.1.size w W) (hw:NW W.1.size W' v now) (f:Below W.1.size W W'):RJ 0 w v now W':=by
 refine ⟨⟨X7 hw.own b.size,hw.ps⟩,b.trans (f.mono b.size),?_,fun y hy=>?_⟩
 .have a:=SY _ _ _ d;rw [<-hn] at a;simp at a;have:=h.hi.len;have:=h.im;omega
 .have a:=NL _ _ _ d (plC y) (by rw [<-hn];exact UH hy);rcases a with a|a
  .cases a
  .obtain ⟨z,hz,he⟩:=YY.1 a;have e:=h.iz z hz;have g:z.ps=y.ps:=XK PC.ps he;rw [g] at e;omega
end
end Go.Proofs.YtdleakjejodjjaaGreatDoor
