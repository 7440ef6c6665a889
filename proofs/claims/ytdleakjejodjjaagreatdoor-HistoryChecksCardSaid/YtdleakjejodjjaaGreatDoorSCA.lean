/- Of the history laws. -/
import Derived.Test.YtdleakjejodjjaaGreatDoorSBQ
import Derived.Test.YtdleakjejodjjaaGreatDoorSBZ
namespace Go.Proofs.YtdleakjejodjjaaGreatDoor
open Tryz
set_option linter.all false
set_option maxRecDepth 100000
set_option maxHeartbeats 20000000
open Go.RowKit
noncomputable def i8 (ini:List Cnt) (l:List Com):Int ⊕ Option (Nat×Nat):=match Zx l with
 |none=>.inl 1
 |some s=>match Jo [] (ini.map plC) with
  |none=>.inl 1
  |some t=>jX Uq doF 0 s t
def ChR (R:Int ⊕ Option (Nat×Nat)) (w:Wd) (e:Ending) (w':Wd):Prop:=match R with
 |.inl er=>e=.returned (.tuple #[.int .i64 0,.int .i64 0,.int .i64 er])/\Below w.1.size w w'
 |.inr none=>e=.returned (.tuple #[.int .i64 (-1),.int .i64 (-1),.int .i64 0])/\Below w.1.size w w'
 |.inr (some (i,k))=>e=.returned (.tuple #[.int .i64 i,.int .i64 k,.int .i64 0])/\Below w.1.size w w'
def ib {u:Com} (h:Zy u=true):∀ r∈u.rs,rdB r=true:=fun r a=>by
 unfold Zy at h;simp only [QU,XN] at h;have b:=YC.1 h.2 r a;simpa using b
def ii {G:Prop} (h:G:=by
  clear hx hby;go_wp2_with (first|(with_reducible refine yM 48 54 HCR.o ?_)|(go_at_call 23;refine yN HE.o fun w3 bD=>?_;clear c2))
  first
   |go_ret3
    rw [HR.o];exact ⟨rfl,HRJ.o.be.trans ((HBY.o.trans (bD.o.mono HBY.o.size)).mono HRJ.o.be.size)⟩
   |go_roundw
    .exact ⟨k+1,HKL.o,Au,gJ.o,HBY.o.trans (bD.o.mono HBY.o.size)⟩
    .simp [intOf];have:=HKL.o;omega):G:=h
def jW (iA:Option Addr) (im ic:Nat) (g:List Cnt) (A:Option Addr) (n c:Nat) (l:List Com) (w:Wd) (h:FP iA im ic g A n c l w):
  Calls prog 8 #[.slice iA im ic,.slice A n c] w (ChR (i8 g l) w):=by
 obtain ⟨R,q⟩:=yG (i8 g l);rw [q];have HF:=Hd h;have HO:=Hd (TD A n c l w h.hs h.st (by have:=h.hn;omega));have T:=Hd fun W (J:Below w.1.size w W)=>TM iA im ic g W (h.hi.after J J.size) (fun x hx=>(h.ip x hx).below J) (by have:=h.im;omega)
 unfold i8 at q;clear h;cases X:Zx l with
 |none=>
  rw [X] at HO q;have HR:Aw (R=.inl 1):=Hd q.symm;clear q;go_in;cases F:Jo [] (g.map plC)
  all_goals
   rw [F] at T;go_wp2_with (first|(go_at_call 21;refine HO.o.mono ?_;intro e w1 E;obtain ⟨rfl,L⟩:=E.resolve_right (by rintro ⟨_,h,_⟩;cases h) |>.2;have B:=Hd L;clear E L)|(go_at_call 22;refine (T.o _ B.o).mono ?_;intro e w2 E;first|(obtain ⟨rfl,z⟩:=E;have N:=Hd (B.o.trans (z.mono B.o.size));clear z)|(obtain ⟨v,a,_,rfl,_,z⟩:=E;have N:=Hd (B.o.trans (z.mono B.o.size));clear z)))
   go_ret3
   rw [HR.o];exact ⟨rfl,N.o⟩
 |some s=>
  have K:=Hd (HF.o.com X);rw [X] at HO q;simp only at q;cases F:Jo [] (g.map plC) with
  |none=>
   rw [F] at T q;have HR:Aw (R=.inl 1):=Hd q.symm;clear q X F;go_in;go_wp2_with (first|(go_at_call 21;refine HO.o.mono ?_;intro e w1 E;obtain ⟨s',_,A',c',rfl,_,L⟩:=E.resolve_left (by rintro ⟨h,_⟩;cases h);have B:=Hd L;clear E L)|(go_at_call 22;refine yP (T.o _ B.o) fun w2 z=>?_;have N:=Hd (B.o.trans (z.mono B.o.size));clear z))
   go_ret3
   rw [HR.o];exact ⟨rfl,N.o⟩
  |some t=>
   rw [F] at T q;have HR:Aw (jX Uq doF 0 s t=R):=Hd q;have bT:=Hd F;clear q X F;go_in;go_wp2_with (first|(go_at_call 21;refine HO.o.mono ?_;intro e w1 E;obtain ⟨s',O,A',c',rfl,cL,L⟩:=E.resolve_left (by rintro ⟨h,_⟩;cases h);injection O with O;subst O;have B:=Hd L;have HCS:=Hd cL;clear E L cL)|(go_at_call 22;refine (T.o _ B.o).mono ?_;rintro e w2 ⟨v,a,C,rfl,Y,z⟩;have N:=Hd z;have gK:=Hd C;have HRJ:=Hd (HF.o.beg bT.o C B.o Y z);clear z C Y));go_loopw [9,11] (fun v i wr=>∃ (j:Nat) (a:List Cnt),j<=s.length/\i=.int .i64 j/\RJ j w v a wr/\jX Uq doF j (s.drop j) (a.map plC)=R/\Below w1.1.size w1 wr) (fun _ i _=>s.length-(intOf i).toNat)
   .exact ⟨0,a,Z0 _,rfl,HRJ.o,by rw [gK.o];exact HR.o,N.o⟩
   .clear gK HRJ HR bT N;obtain ⟨j,a,hj,rfl,I,d,dG⟩:=hrel;have HRJ:=Hd I;have S:=Hd dG;obtain ⟨A4,c4,rfl,_⟩:=U4 I.nw.own;obtain ⟨m,hm⟩:=yG a.length;rw [hm] at HRJ ⊢;by_cases aE:j<s.length
    .obtain ⟨b,o,u,hAc,F,hg,aB⟩:=Sl.cell (f:=Ud) (k:=4) Vo (HCS.o.after S.o S.o.size).1 aE;subst hAc;have P:=Hd fun (W:Wd) (J:Below wr.1.size wr W) (i:Nat) (v:Value) (hv:(Ud u)[i]? =some v)=>(J.cell (p:=⟨b,o+j*4+i,none⟩) F).trans (aB i v hv)
     have hu:=QJ hg;have HU:=Hd (K.o.2 u hu);have Q:=Hd ((HCS.o.after S.o S.o.size).2 u hu);have hd:s.drop j=u::s.drop (j+1):=by rw [QO (QZ.1 hg).1,(QZ.1 hg).2]
     rw [hd] at d;unfold jX at d;have cC:=Hd d;have d1:decide ((j:Int)<(s.length:Int))=true:=QQ Oo;have d2:decide (j<s.length)=true:=QQ aE;have HT:=Hd aE;have hw:IntKind.i64.wrap ((j:Int)+1)=(j:Int)+1:=QL _ (by have:=K.o.1;omega)
     have HEX:=Hd fun (r:Rdd) W (J:Below wr.1.size wr W)=>(by
      have h1:=(HRJ.o.next J)
      have h2:=h1.nw.sl;have h3:=h1.len;exact jT r A4 m c4 a W h2.1 (fun y hy=>(h1.nw.ps y hy).1) (by have:=K.o.1;have:=HT.o;omega):Calls prog 23 #[.slice A4 m c4,.agg (rdC r).toArray] W (Ab W (.bool (jU (MR (a.map plC) r.id) r))))
     clear F hg aB hu hd I hj aE dG hm d;go_wp2_with fail;go_loopw [12] (fun v wx=>∃ k:Nat,k<=u.rn/\v=.int .i64 k/\(∀ t,t<k->∀ r,u.rs[t]? =some r->(!MW (MR (a.map plC) r.id) r)=false)/\Below wr.1.size wr wx) (fun v _=>u.rn-(intOf v).toNat)
     .exact ⟨0,Z0 _,rfl,fun t h=>absurd h Oo,Bf _ _⟩
     .obtain ⟨k,hk,rfl,hall,hby⟩:=hrel;have HA:=Hd hall;have HBY:=Hd hby;have c2:=P.o _ hby 2 _ rfl;by_cases D:k<u.rn
      .obtain ⟨b5,o5,r,hA5,bG,hg5,hc5⟩:=Sl.cell (f:=rdC) (k:=6) (fun _=>rfl) (Q.o.1.after hby hby.size) D;rw [hA5] at c2;have HCR:Aw (wr.rangeAt b5 (o5+k*6) (rdC r)):=Hd fun i v hv=>hc5 i v hv
       have U:=Hd hg5;have HE:=Hd (HEX.o r wr hby);rw [ig (ib HU.o.2.2 r (QJ hg5))] at HE;have HRL:=Hd Q.o.1.len;have e1:decide ((k:Int)<(u.rn:Int))=true:=QQ Oo;have e2:decide (k<u.rn)=true:=QQ D;have HKL:=Hd D;have M:=fun W (J:Below wr.1.size wr W)=>P.o W (hby.trans (J.mono hby.size)) 2 _ rfl
       rw [hA5] at M;have gP:=Hd M;have iN:IntKind.i64.wrap ((k:Int)+1)=(k:Int)+1:=QL _ (by have:=Q.o.2.2.1;unfold maxLen at this;omega);clear hA5 bG hg5 hc5 hk hall D M;cases hx:MW (MR (a.map plC) r.id) r with
       |false=>
        rw [hx] at HE;have HR:Aw (R=.inr (some (j,k))):=Hd (by rw [<-cC.o,Vn HA.o U.o (by rw [hx];rfl),QK (by rw [HRL.o];exact HKL.o)]);exact ii
       |true=>
        rw [hx] at HE;have gJ:=Hd (NM HA.o U.o (by rw [hx];rfl));exact ii
      .obtain rfl:k=u.rn:=Oo
       have d:=cC.o;rw [Vj Q.o.1.len HA.o,QX (by rw [Q.o.1.len];omega)] at d;have HJ:=Hd (HRJ.o.next hby);have H:=Hd (HJ.o.aft (by have:=K.o.1;have:=HT.o;omega) (Q.o.after hby hby.size) HU.o.1 HU.o.2.1 HU.o.2.2);have aU:Aw (wr.rangeAt b (o+j*4) (Ud u)):=Hd fun i v hv=>P.o wr hby i v hv
       clear hk hall D hby;cases hq:Fe Uq doF u.num u.cs (a.map plC) with
       |inl er=>
        rw [hq] at d H;have HR:Aw (R=.inl er):=Hd d.symm;clear d hq;go_wp2_with (first|(with_reducible refine yM 42 64 aU.o ?_)|(go_at_call 24;refine H.o.mono ?_;intro e w3 hr;obtain ⟨er',he,aS,rfl,Z⟩:=hr.resolve_right (by rintro ⟨_,_,h,_⟩;cases h);injection he with he;subst he;have e9:(er != 0)=true:=(by simpa using aS);have bD:=Hd (U0 HJ.o.be Z HJ.o.be.size);clear hr Z aS))
        go_ret3
        rw [HR.o];exact ⟨rfl,bD.o⟩
       |inr s1=>
        rw [hq] at d H;have gB:=Hd d;clear d hq;go_wp2_with (first|(with_reducible refine yM 42 64 aU.o ?_)|(go_at_call 24;refine H.o.mono ?_;intro e w3 hr;obtain ⟨v2,V,he,rfl,dU,Z⟩:=hr.resolve_left (by rintro ⟨_,h,_⟩;cases h);injection he with he;subst he;have bZ:=Hd dU;have bD:=Hd Z;clear hr dU Z));go_roundw
        .exact ⟨j+1,V,HT.o,Au,bZ.o,gB.o,S.o.trans ((HBY.o.trans (bD.o.mono HBY.o.size)).mono S.o.size)⟩
        .simp [intOf];have:=HT.o;omega
    .obtain rfl:j=s.length:=Oo
     have HR:Aw (R=.inr none):=Hd (by rw [<-d,WP (Le _)];rfl);clear d hj aE dG I;go_wp2_with fail
     go_ret3
     rw [HR.o];exact ⟨rfl,HRJ.o.be⟩
end Go.Proofs.YtdleakjejodjjaaGreatDoor
