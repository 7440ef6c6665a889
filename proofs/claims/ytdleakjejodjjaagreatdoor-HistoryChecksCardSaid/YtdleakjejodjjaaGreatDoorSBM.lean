/- Of the history laws. -/
import Derived.Test.YtdleakjejodjjaaGreatDoorSBL
namespace Go.Proofs.YtdleakjejodjjaaGreatDoor
open Tryz
set_option linter.defProp false
set_option linter.unusedVariables false
set_option linter.unusedSimpArgs false
set_option maxRecDepth 100000
set_option maxHeartbeats 20000000
open Go.RowKit
def Xo (x:Cnt) (w:Wd) (X:CW w x):Calls prog 48 #[.agg (cnC x).toArray] w (Ab w (.bool (Vi x.d x.ap x.ps))):=by
 cases hbd:(decide (x.d.id<1) || decide (1099511627776<x.d.id) || decide (x.ap<0) || decide (1099511627776<x.ap) || !Y9 x.d x.ap x.ps) with
 |true=>exact P1 x w X hbd
 |false=>
  simp only [JZ,Bool.not_eq_false'] at hbd;obtain ⟨⟨⟨⟨J,I⟩,E⟩,h4⟩,h5⟩:=hbd;obtain ⟨R,hR⟩:∃ R,Vi x.d x.ap x.ps=R:=⟨_,rfl⟩
  rw [hR];obtain ⟨F,C⟩:∃ F,fvL x.d none 0 (0,[],0) x.ps=F:=⟨_,rfl⟩
  have aU:Aw (R=(hdB x.d&&F)):=Hd (by
   have q1:=JI J;have q2:=JI I;have q3:=JI E;have q4:=JI h4;rw [<-hR,<-C];unfold Vi Zq;rw [h5,QQ (show 1<=x.d.id from Oo),QQ (show x.d.id<=1099511627776 from Oo),QQ (show 0<=x.ap from Oo),QQ (show x.ap<=1099511627776 from Oo)];simp [hdB])
  have HAR:=Hd h5;have HF:=Hd C;have H0:=Hd (OB.new 37 (cnC x).toArray w);have H1:=Hd (Xc x.d);have HB:=Hd fun old=>U3 (w.alloc (.cells (cnC x).toArray 37)) 34 old (w.1.size+1) Am
  have HN:=Hd fun old=>Cg x w old
  have HA:Aw (∀ W,Below w.1.size w W->Calls prog 80 #[.agg (cnC x).toArray] W (Ab W (.bool true))):=Hd fun W a=>by have h:=Nl x W (X.below a);rw [h5] at h;exact h
  have HRC:=Hd fun (W:Wd) (h:Below w.1.size w W)=>P2 x.pA x.pn x.pc x.ps W (X.sl.after h h.size) (by have:=X.le;omega)
  have bW:=Hd X.sl;have dP:=Hd X.le;have bF:=X.le;have f0:decide ((1024:Int)<(x.pn:Int))=false:=QW Oo;clear X hR h5 bF C;go_in
  go_upto_if 47 with (first|((with_reducible refine Gl 34 12 ?_);refine Ln 34 w.1.size 0 (dC x.d) H0.o.mid underlying34 ?_)|((with_reducible refine Gt 34 3 ?_);refine Lv 34 (w.1.size+1) (dC x.d).toArray (HB.o _) H1.o ?_;refine Wg (Φ:=FV2 x w) (HN.o _) (fun W1 hW=>?_);have HX:=Hd hW;have g0:=hW.c2 0 _ rfl;have g21:=hW.c1 21 _ rfl;have g22:=hW.c1 22 _ rfl;clear hW)|((with_reducible refine Gl 34 3 ?_);refine LqH 34 (w.1.size+1) (dC x.d).toArray HX.o.b2 underlying34 ?_)|((with_reducible refine Gb 129 ?_);refine U1 Ak 129 _ rfl (cnC x).toArray Ak ?_)|(go_at_call 80;refine (HA.o _ HX.o.be).mono ?_;rintro e w3 ⟨rfl,a⟩;have aQ:=Hd (Xh HX.o a);clear a g0 g21 g22))
  have k1:=aQ.o.c2 1 _ rfl
  go_upto_if 50 with (fail)
  go_cut [5] (fun v W=>FV2 x w W/\(hdB x.d=true/\(x.d.org=0->∀ q∈x.ps,Ue x.d q=true)))
  case first=>
   by_cases T:x.d.org=0
   .have d0:(x.d.org == 0)=true:=by simpa using T
    have hh:hdB x.d=EO x.d:=by unfold hdB;rw [QK T]
    obtain ⟨RB,hRB⟩:∃ RB,(if EO x.d then (if (x.ps.map (·.rcd)).all fun s=>Z8 x.d s.size then (0:Int) else 2) else 1)=RB:=⟨_,rfl⟩
    have HBU:Aw (∀ (B:Option Addr) (k:Nat) (W:Wd),Sl Ug 1 W W.1.size B x.pn k (x.ps.map (·.rcd))->Calls prog 81 #[.agg (dC x.d).toArray,.int .i64 0,.slice B x.pn k] W (BuG RB W)):=Hd fun B k W h=>by rw [<-hRB];exact Pb x.d B x.pn k _ W h (by have:=dP.o;omega)
    have m:=Hd fun W=>Fr x.d W
    have HH:=Hd hh;have HO:=Hd T;have HRB:=Hd hRB;clear hh T hRB;go_wp2;apply WzR (S:=FV2 x w) (R:=Rb) (Xh aQ.o (Bf _ _).drew) (fun _ _ h a=>Xh h a);apply xr (fun W h=>h.b2) underlying34;apply xp (Ag w.1.size 22);apply xl (.slice x.pA x.pn x.pc) (fun W h=>h.c1 22 _ rfl);apply xk (f:=82) (p:=RcP (x.ps.map (·.rcd)) x.pn) rcM (fun W h _=>(HRC.o W h.be).mono fun e W' ⟨B,k,he,hs,a⟩=>⟨_,he,⟨B,k,rfl,hs⟩,a⟩);intro v1;apply xk (f:=81) (args:=#[.agg (dC x.d).toArray,.int .i64 0,v1]) (p:=BuP RB) (fun _ _ _ _ h=>h) (fun W h C=>by obtain ⟨B,k,rfl,hs⟩:=xf 0 C;exact (HBU.o B k W hs).mono fun e W' ⟨v,he,a⟩=>⟨_,he,⟨v,rfl⟩,a⟩);intro v2;apply xz (BuP RB) (fun _ _ _ _ h=>h) (fun W _ C=>⟨v2,Az,xf 0 C⟩);intro v3;apply xz (fun _ _=>True) (fun _ _ _ _ h=>h) (fun W _ C=>by obtain ⟨u,rfl⟩:=xf 0 C;exact ⟨u,Az,trivial⟩);intro v4
    apply xy (.int .i64 RB) (fun W _ C=>by obtain ⟨u,rfl⟩:=xf 1 C;go_simp);apply xz (fun _ _=>True) (fun _ _ _ _ h=>h) (fun W _ _=>⟨v4,Az,trivial⟩);intro v5;apply xp (.int .i64 RB);refine xn fun W d C=>?_
    have aZ:=Hd d;clear d C;cases U:EO x.d with
    |false=>
     simp only [U] at m;have M:=Hd U;clear U;go_wp2_with (first|((with_reducible refine Gl 34 3 ?_);refine Lq 34 (w.1.size+1) (dC x.d).toArray aZ.o.b2 underlying34 ?_)|(go_at_call 83;refine (m.o _).mono ?_;rintro e w5 ⟨rfl,a⟩;have aR:=Hd (Xh aZ.o a);clear a));go_ret;exact ⟨by rw [aU.o,HH.o,M.o];rfl,aR.o.be⟩
    |true=>
     simp only [U] at m;have M:=Hd U;have N:=HRB.o;rw [U,QK rfl] at N;cases c:(x.ps.map (·.rcd)).all fun s=>Z8 x.d s.size with
     |false=>
      rw [c,QX Ac] at N;have A:=Hd c;subst N;clear U c;go_wp2_with (first|((with_reducible refine Gl 34 3 ?_);refine Lq 34 (w.1.size+1) (dC x.d).toArray aZ.o.b2 underlying34 ?_)|(go_at_call 83;refine (m.o _).mono ?_;rintro e w5 ⟨rfl,a⟩;have aR:=Hd (Xh aZ.o a);clear a));go_ret;exact ⟨by rw [aU.o,j9 M.o HO.o HF.o A.o,KG];rfl,aR.o.be⟩
     |true=>
      rw [c,QK rfl] at N;have A:=Hd c;subst N;clear U c;go_wp2_with (first|((with_reducible refine Gl 34 3 ?_);refine Lq 34 (w.1.size+1) (dC x.d).toArray aZ.o.b2 underlying34 ?_)|(go_at_call 83;refine (m.o _).mono ?_;rintro e w5 ⟨rfl,a⟩;have aR:=Hd (Xh aZ.o a);clear a))
      go_meet
      .exact ⟨aR.o,HH.o.trans M.o,fun _=>mB M.o HO.o A.o⟩
   .have d0:(x.d.org == 0)=false:=by simpa using T
    have hh:hdB x.d=Yd x.d:=by unfold hdB;rw [QX T]
    have m:=Hd fun W=>Kh x.d W
    have HH:=Hd hh;have HO:=Hd T;clear hh T;cases hkb:Yd x.d
    all_goals
     simp only [hkb] at m;have HKB:=Hd hkb;clear hkb;go_wp2_with (first|((with_reducible refine Gl 34 3 ?_);refine Lq 34 (w.1.size+1) (dC x.d).toArray aQ.o.b2 underlying34 ?_)|(go_at_call 84;refine (m.o _).mono ?_;rintro e w5 ⟨rfl,a⟩;have aR:=Hd (Xh aQ.o a);clear a))
    .go_ret;exact ⟨by rw [aU.o,HH.o,HKB.o];rfl,aR.o.be⟩
    .go_meet
     .exact ⟨aR.o,HH.o.trans HKB.o,fun h=>absurd h HO.o⟩
  case rest=>
   obtain ⟨O,hHD⟩:=hcut;have aZ:=Hd O;have HHD:=Hd hHD;clear O hHD;have HRF:Aw (R=F):=Hd (by rw [aU.o,HHD.o.1];rfl);have iZ:=Hd (CD HAR.o);have HZ:Aw (x.d.org≠0->(x.d.itv=128\/x.d.itv=256\/x.d.itv=512)/\x.d.len<=200/\1<=x.d.org/\x.d.org<=3):=Hd fun h=>RW (by have J:=HHD.o.1;unfold hdB at J;rwa [QX h] at J)
   clear J I E h4 f0;go_wp2;go_loopw [6] (fun v wr=>∃ (j:Nat) (s:Int×List Bz×Int),j<=x.pn/\v=.int .i64 j/\LI x.d x.ps j s F/\FV2 x w wr) (fun v _=>x.pn-(intOf v).toNat)
   .exact ⟨0,(0,[],0),Z0 _,rfl,by have h:=LI.start x.d x.ps;rw [HF.o] at h;exact h,aZ.o⟩
   .obtain ⟨j,s,hj,rfl,hli,O⟩:=hrel;have HX:=Hd O;have HLI:=Hd hli;have bF:=dP.o;by_cases aE:j<x.pn
    .obtain ⟨b,o,q,hA,eM,hg,aB⟩:=Sl.cell (f:=prC) (k:=2) (fun _=>rfl) (bW.o.below O.be) aE;have c0:=aB 0 _ rfl;have c1:=aB 1 _ rfl;simp only [QF] at c0;have k22:=O.c1 22 _ rfl;rw [hA] at k22;have HG:=Hd hg;have HT:=Hd aE;have P:=Hd hA;have d1:decide ((j:Int)<(x.pn:Int))=true:=QQ Oo;have d2:decide (j<x.pn)=true:=QQ aE;have hw:IntKind.i64.wrap ((j:Int)+1)=(j:Int)+1:=QL _ Oo;have HP3:Aw (P3 x q wr.1.size w (wr.alloc (.cells #[.string q.key,.string q.rcd] 74))):=Hd ⟨Xh O Aj,Blk.new _ _ _⟩;clear hg aB eM hli O hA
     go_upto_region 14 with (fail)
     generalize wr.alloc (.cells #[.string q.key,.string q.rcd] 74)=W1 at HP3 ⊢;obtain ⟨z,hz⟩:∃ z,Ni (J4 x.ps j) q.key=z:=⟨_,rfl⟩
     have cN:=Hd hz
     go_cut [94] from 69 to 172 (fun v W=>v=.bool (!z)/\P3 x q wr.1.size w W)
     case first=>
      rcases WB j with rfl|T
      .have bB:z=true:=by rw [<-hz];rfl
       subst bB;clear hz;apply WzR (S:=P3 x q wr.1.size w) (R:=Rb) (HP3.o.next (Bf _ _).drew) (fun _ _ h a=>h.next a);apply xp (.int .i64 ((0:Nat):Int));apply xp (.bool false);apply xp (.bool false)
       iterate 10 apply xp undef (VH ⟨Af,Af⟩)
       apply xp (.bool false);refine xn fun W d _=>?_
       have Q:=Hd d;clear d;go_wp2
       go_meet
       .exact ⟨rfl,Q.o⟩
      .obtain ⟨i,rfl⟩:∃ i,j=i+1:=⟨j-1,Oo⟩
       obtain ⟨b2,o2,y,gU,aH,cE,fN⟩:=Sl.cell (f:=prC) (k:=2) (fun _=>rfl) bW.o (show i<x.pn from Oo);rw [P.o] at gU;injection gU with gU
       injection gU with hA3 hA4 _
       subst hA3;subst hA4;have HCY:=Hd fun (W:Wd) (h:Below w.1.size w W)=>(h.cell (p:=⟨b,o+i*2,none⟩) aH).trans (fN 0 _ rfl)
       rw [Zb x.ps i y cE] at hz;have hl:Op.bytesLess y.key.toList q.key.toList=z:=hz;have wi:IntKind.i64.wrap (i:Int)=i:=QL _ Oo;have hi:¬ (x.pn<=i):=Oo
       have cX:IntKind.i64.wrap (((i+1:Nat):Int)-1)=i:=(QL _ Oo).trans Oo;clear aH cE fN hz;apply WzR (S:=P3 x q wr.1.size w) (R:=Rb) (HP3.o.next (Bf _ _).drew) (fun _ _ h a=>h.next a);apply xp (.int .i64 ((i+1:Nat):Int));apply xp (.bool true);apply xp (.bool true);apply xp (Ag w.1.size 22);apply xl (.slice (Ah b o) x.pn x.pc) (fun W h=>by have:=h.fv.c1 22 _ rfl;rwa [P.o] at this);apply xp (.int .i64 ((i+1:Nat):Int));apply xp (.int .i64 i);apply xp (Ag b (o+i*2));apply xp (Ag b (o+i*2));apply xl (.string y.key) (fun W h=>HCY.o W h.fv.be);apply xp (Ag wr.1.size 0);apply xl (.string q.key) (fun W h=>h.k0);apply xp (.bool (!z));apply xp (.bool (!z));refine xn fun W d _=>?_
       have Q:=Hd d;clear d hl;go_wp2
       go_meet
       .exact ⟨rfl,Q.o⟩
     case rest=>
      obtain ⟨rfl,hP⟩:=hcut;have D:=Hd hP;clear hP hz;have aP:=dP.o;have t:Aw (Ue x.d q=true->Vv x.d j s q=true->z=true->LI x.d x.ps (j+1) (I8 x.d s q) F):=Hd fun J E hz=>HLI.o.next HG.o J (cN.o.trans hz) E (fun h=>⟨(HZ.o Oo).1,(HZ.o Oo).2.1⟩) Oo
      have NO:Aw (Ue x.d q=false\/z=false\/Vv x.d j s q=false->R=false):=Hd fun h=>by rw [HRF.o];exact HLI.o.no HG.o (h.imp id (Or.imp (fun h=>cN.o.trans h) id))
      have eJ:=Hd (iZ.o q (QJ HG.o));have k1:=D.o.fv.c2 1 _ rfl;have k3:=D.o.fv.c2 3 _ rfl;have p0:=D.o.k0;have p1:=D.o.k1;cases z with
      |false=>
       go_wp2;go_ret;exact ⟨by rw [NO.o (.inr (.inl Am))];rfl,D.o.fv.be⟩
      |true=>
       by_cases V:x.d.org=3
       .have al:Ue x.d q=((ofF x.d q.rcd).2 == 0&&(ofF x.d q.rcd).1.toList == q.key.toList):=by unfold Ue;rw [QK V]
        have jT:Aw (Vv x.d j s q=true):=Hd (by unfold Vv;rw [QX Oo,QX Oo]);have HOF:=Hd fun W=>si x.d q.rcd W (by have:=eJ.o.2;unfold maxLen;omega)
        rw [V] at k1;generalize ofF x.d q.rcd=ke at HOF al;obtain ⟨k,e⟩:=ke;simp only at al HOF;generalize he:(e == 0)=b1 at al;generalize hk:(k.toList == q.key.toList)=b2 at al;have he2:(e != 0) = !b1:=by rw [<-he];rfl
        have A:=Hd al;clear al V he;rcases ch (b:=b1) (ch0 b2) with rfl|⟨rfl,rfl|rfl⟩
        all_goals
         go_wp2_with (first|((with_reducible refine Gl 34 3 ?_);refine Lq 34 (w.1.size+1) (dC x.d).toArray D.o.fv.b2 underlying34 ?_)|(go_at_call 85;refine (HOF.o _).mono ?_;rintro e w5 ⟨rfl,a⟩;have g:=Hd (D.o.next a);clear a p0 p1 k1 k3;have p0:=g.o.k0))
        rotate_left 2
        .go_roundw
         .exact ⟨j+1,_,HT.o,Au,t.o (by rw [A.o];rfl) jT.o Am,g.o.fv⟩
         .exact At
        all_goals
         go_ret;exact ⟨by rw [NO.o (.inl (by rw [A.o];rfl))];rfl,g.o.fv.be⟩
       by_cases o2:x.d.org=2
       .have al:Ue x.d q=(IT q.key&&((q.rcd.size:Int) == x.d.len)):=by unfold Ue;rw [QX V,QK o2]
        have jT:Aw (Vv x.d j s q=true):=Hd (by unfold Vv;rw [QX Oo,QX Oo]);have HNU:=Hd fun W=>Zl q.key W
        unfold IT at al;rw [o2] at k1;generalize Uc q.key=nk at HNU al;obtain ⟨n,ok⟩:=nk;simp only at al HNU;generalize x.d.len=ln at al k3;generalize J:decide (n<1)=G;generalize I:decide (65536<n)=H;generalize E:((q.rcd.size:Int) != ln)=e1
        have A:Aw (Ue x.d q=(ok&&!G&&!H&&!e1)):=Hd (by
         rw [al,<-J,<-I,<-E];have q1:decide (1<=n) = !decide (n<1):=by by_cases h:n<1<;>simp [h]<;>omega
         have q2:decide (n<=65536) = !decide (65536<n):=by by_cases h:65536<n<;>simp [h]<;>omega
         rw [q1,q2];simp [bne])
        clear al V o2;rcases ch (b:=ok) (cht (b:=G) (cht (b:=H) (ch0 e1))) with rfl|⟨rfl,rfl|⟨rfl,rfl|⟨rfl,rfl|rfl⟩⟩⟩
        all_goals
         go_wp2_with (go_at_call 86;refine (HNU.o _).mono ?_;rintro e w5 ⟨rfl,rfl⟩)
        rotate_left 3
        .go_roundw
         .exact ⟨j+1,_,HT.o,Au,t.o (by rw [A.o];rfl) jT.o Am,D.o.fv⟩
         .exact At
        all_goals
         go_ret;exact ⟨by rw [NO.o (.inl (by rw [A.o];rfl))];rfl,D.o.fv.be⟩
       by_cases o1:x.d.org=1
       .have A:Aw (Ue x.d q=(decide (1<=(q.rcd.size:Int))&&decide ((q.rcd.size:Int)<=x.d.len))):=Hd (by unfold Ue;rw [QX V,QX o2,QK o1]);have gT:=(HZ.o Oo).1;have jT:=Hd (HLI.o.key o1 gT Oo q)
        have HAD:=Hd fun (W:Wd) (h:Below w.1.size w W)=>FA x.d (Ah b o) j x.pc (x.ps.take j) q.rcd W (by
         have I:=(bW.o.after h h.size)
         rw [P.o] at I;exact ⟨Lx (IY HT.o) I.cap,by rw [WX,I.len];have:=HT.o;omega,by rw [<-Zf (f:=prC) (k:=2) (fun _=>rfl)];exact I.rd.take (IY HT.o)⟩) (by have:=HT.o;omega) gT (fun p hp=>(iZ.o p (XA hp)).2)
        rw [o1] at k1;generalize N2 x.d (x.ps.take j) q.rcd=ad at jT HAD;have K3:=Hd fun (W:Wd) (h:FV2 x w W)=>h.c2 3 _ rfl
        generalize x.d.len=ln at k3 K3 A;generalize J:decide ((q.rcd.size:Int)<1)=G;generalize I:decide (ln<(q.rcd.size:Int))=H;generalize E:(q.key.toList == ad.toList)=r
        have Y:Aw (Ue x.d q=(!G&&!H)):=Hd (by
         have q1:decide (1<=(q.rcd.size:Int)) = !decide ((q.rcd.size:Int)<1):=by by_cases h:(q.rcd.size:Int)<1<;>simp [h]<;>omega
         have q2:decide ((q.rcd.size:Int)<=ln) = !decide (ln<(q.rcd.size:Int)):=by by_cases h:ln<(q.rcd.size:Int)<;>simp [h]<;>omega
         rw [A.o,q1,q2,J,I])
        have l:Aw (Vv x.d j s q=r):=Hd (by rw [jT.o,<-E];exact BEq.comm);have hjc:¬ (x.pc<j):=by have:=bW.o.cap;omega
        clear V o2 gT
        go_upto_region 28 with (fail)
        go_cut [172] from 69 to 172 (fun v W=>v=.bool (G || (H || !r))/\P3 x q wr.1.size w W)
        case first=>
         rcases cht (b:=G) (ch0 H) with rfl|⟨rfl,rfl|rfl⟩
         .apply WzR (S:=P3 x q wr.1.size w) (R:=Rb) (D.o.next (Bf _ _).drew) (fun _ _ h a=>h.next a);apply xp (Ag wr.1.size 1);apply xl (.string q.rcd) (fun W h=>h.k1);apply xp (.int .i64 q.rcd.size);apply xp (.bool true);apply xp (.bool true)
          iterate 6 apply xp undef (VH ⟨Af,Af⟩)
          apply xp (.bool true);apply xp (.bool true)
          iterate 11 apply xp undef (VH ⟨Af,Af⟩)
          apply xp (.bool true);refine xn fun W d _=>?_
          have Q:=Hd d;clear d;go_wp2
          go_meet
          .exact ⟨rfl,Q.o⟩
         .apply WzR (S:=P3 x q wr.1.size w) (R:=Rb) (D.o.next (Bf _ _).drew) (fun _ _ h a=>h.next a);apply xp (Ag wr.1.size 1);apply xl (.string q.rcd) (fun W h=>h.k1);apply xp (.int .i64 q.rcd.size);apply xp (.bool false);apply xp (.bool false);apply xp (Ag wr.1.size 1);apply xl (.string q.rcd) (fun W h=>h.k1);apply xp (.int .i64 q.rcd.size);apply xp (Ag (w.1.size+1) 3);apply xl (.int .i64 ln) (fun W h=>K3.o W h.fv);apply xp (.bool false);apply xp (.bool false);apply xp (.bool false);apply xp (Ag wr.1.size 0);apply xl (.string q.key) (fun W h=>h.k0);apply xr (fun W h=>h.fv.b2) underlying34;apply xp (Ag w.1.size 22);apply xl (.slice (Ah b o) x.pn x.pc) (fun W h=>by have:=h.fv.c1 22 _ rfl;rwa [P.o] at this);apply xp (.int .i64 j)
          apply xp (.slice (Ah b o) j x.pc);apply xp (Ag wr.1.size 1);apply xl (.string q.rcd) (fun W h=>h.k1);apply xc (f:=87) (v:=.string ad) (fun W h _=>HAD.o W h.fv.be);apply xp (.bool (!r));apply xp (.bool (!r));refine xn fun W d _=>?_
          have Q:=Hd d;clear d;go_wp2
          go_meet
          .exact ⟨rfl,Q.o⟩
         .apply WzR (S:=P3 x q wr.1.size w) (R:=Rb) (D.o.next (Bf _ _).drew) (fun _ _ h a=>h.next a);apply xp (Ag wr.1.size 1);apply xl (.string q.rcd) (fun W h=>h.k1);apply xp (.int .i64 q.rcd.size);apply xp (.bool false);apply xp (.bool false);apply xp (Ag wr.1.size 1);apply xl (.string q.rcd) (fun W h=>h.k1);apply xp (.int .i64 q.rcd.size);apply xp (Ag (w.1.size+1) 3);apply xl (.int .i64 ln) (fun W h=>K3.o W h.fv);apply xp (.bool true);apply xp (.bool true);apply xp (.bool true)
          iterate 11 apply xp undef (VH ⟨Af,Af⟩)
          apply xp (.bool true);refine xn fun W d _=>?_
          have Q:=Hd d;clear d;go_wp2
          go_meet
          .exact ⟨rfl,Q.o⟩
        case rest=>
         obtain ⟨rfl,hP5⟩:=hcut;have g:=Hd hP5;clear hP5 J I E
         have cB:(G || (H || !r))=true->R=false:=fun h=>NO.o (by
          rw [Y.o,l.o];cases G<;>cases H<;>cases r<;>simp at h ⊢)
         have K:(G || (H || !r))=false->(G=false/\H=false)/\r=true:=fun h=>by cases G<;>cases H<;>cases r<;>simp at h ⊢
         have eA:=Hd cB;have L:=Hd K;clear cB K;generalize (G || (H || !r))=bad at eA L ⊢;cases bad with
         |true=>
          have HQ:=Hd (eA.o rfl);go_wp2;go_ret;exact ⟨by rw [HQ.o];rfl,g.o.fv.be⟩
         |false=>
          have HQ:=Hd (L.o rfl);go_wp2;go_roundw
          .exact ⟨j+1,_,HT.o,Au,t.o (by rw [Y.o,HQ.o.1.1,HQ.o.1.2];rfl) (l.o.trans HQ.o.2) Am,g.o.fv⟩
          .exact At
       have o0:x.d.org=0:=by
        by_cases h:x.d.org=0
        .exact h
        .have:=(HZ.o h).2.2;omega
       have A:=Hd (HHD.o.2 o0 q (QJ HG.o));have jT:Aw (Vv x.d j s q=((V8 ((j:Int)+1)).toList == q.key.toList)):=Hd (by unfold Vv;rw [QK o0]);have Z:=Hd fun W=>EZ ((j:Int)+1) W
       rw [o0] at k1;generalize V8 ((j:Int)+1)=sl at jT Z;generalize E:(q.key.toList == sl.toList)=r;have l:Aw (Vv x.d j s q=r):=Hd (by rw [jT.o,<-E];exact BEq.comm);clear V o2 o1 o0;go_wp2;apply WzR (S:=P3 x q wr.1.size w) (R:=Rb) (D.o.next (Bf _ _).drew) (fun _ _ h a=>h.next a);apply xp (Ag wr.1.size 0);apply xl (.string q.key) (fun W h=>h.k0);apply xp (.int .i64 j);apply xp (.int .i64 ((j:Int)+1));apply xc (f:=88) (v:=.string sl) (fun W _ _=>Z.o W);apply xp (.bool (!r));refine xn fun W d _=>?_
       have g:=Hd d;clear d E;cases r with
       |false=>
        go_wp2;go_ret;exact ⟨by rw [NO.o (.inr (.inr l.o))];rfl,g.o.fv.be⟩
       |true=>
        go_wp2;go_roundw
        .exact ⟨j+1,_,HT.o,Au,t.o A.o l.o Am,g.o.fv⟩
        .exact At
    .obtain rfl:j=x.pn:=Oo
     have k22:=O.c1 22 _ rfl;have d1:decide ((x.pn:Int)<(x.pn:Int))=false:=QW Oo;have HQ:=Hd (hli.done bW.o.len);clear hli O;go_wp2;go_ret;exact ⟨by rw [HRF.o,HQ.o];rfl,HX.o.be⟩
section
def L9 (l:Bz) (e m:Int) (b:0<=m):((U8 l e m).1.size:Int)<=m:=by
 have h:=FZ l e m b;unfold U8;split
 .split
  .exact b
  .simp only [XZ];omega
 .exact b
section
variable {E E':En} {a a':EnA} {l:Bz} {e:Int} {w W:Wd}
def FB.putR (h:FB E a l e w W) (c:Bz) (d:Int):FB E a c d w (W.setRow (w.1.size+1) (rdV c d)):=by
 obtain ⟨b,f,g⟩:=h.b2;exact ⟨(QE _ _ _ _ Oo).trans h.b0,QR _ _ _ _ _ _ h.b1,⟨b,f,(QE _ _ _ _ Oo).trans g⟩,(QE _ _ _ _ Oo).trans h.b3,Xq h.be Oo _,by simpa using h.sz⟩
end
def alQ (b l:Bz) (e:Int):En×Bz×Int:=(⟨2,b,dZ,[],0,0,0,false,⟨#[]⟩,(U8 l e 31).1,0,0,[]⟩,(U8 l e 31).2)
def caQ (b l:Bz) (e:Int):En×Bz×Int:=(⟨3,b,dZ,[],0,0,0,false,⟨#[]⟩,⟨#[]⟩,(rnF l e).1,0,[]⟩,(rnF l e).2)
theorem pL {G:Prop} (h:G:=by
  have cN:=Hd hZ;clear hZ hH aH ho HG;go_wp2;refine Br (P4 results176 rfl rfl (Ux _ _ _ cN.o.1.b2 rfl) (El _ _ _ cN.o.1.b3 rfl)) rfl ?_
  first
   |have hq:GA 1 nm l0=(⟨1,nm,dZ,[],0,q1,q2,q3,q4,⟨#[]⟩,0,0,[]⟩,l4,e4):=by
     have he:=HE0.o;subst he;unfold GA;simp only [BI,E1.o,E2.o,E3.o,E4.o,List.getD_cons_zero,List.getD_cons_succ]
    rw [hq];exact ⟨enN,rfl,⟨⟨Sl.nil,Sl.nil,fun _ _ _ h=>(QM h).elim,fun _ _ _ h=>(QM h).elim⟩,fun _ _ h=>absurd h (KD _),fun _ _ h=>absurd h (KD _)⟩,.k1 nm q1 q2 q3 q4,cN.o.1.be⟩
   |unfold alQ
    rw [E1.o];exact ⟨enN,rfl,⟨⟨Sl.nil,Sl.nil,fun _ _ _ h=>(QM h).elim,fun _ _ _ h=>(QM h).elim⟩,fun _ _ h=>absurd h (KD _),fun _ _ h=>absurd h (KD _)⟩,.k2 nm q1,cN.o.1.be⟩
   |unfold caQ
    rw [E1.o];exact ⟨enN,rfl,⟨⟨Sl.nil,Sl.nil,fun _ _ _ h=>(QM h).elim,fun _ _ _ h=>(QM h).elim⟩,fun _ _ h=>absurd h (KD _),fun _ _ h=>absurd h (KD _)⟩,.k3 nm q1,cN.o.1.be⟩):G:=h
def Ds (nm l0:Bz) (d:Int) (w:Wd) (x:l0.size<=maxLen) (he:d=0):Calls prog 176 #[.agg (enC (enK 1 nm) enN).toArray,.agg (rdV l0 d)] w (FdG (GA 1 nm l0) w):=by
 have B:=Hd fun c ho=>FB.new (enK 1 nm) enN l0 d w c ho
 have A:=fun c:Array Value=>((((Blk.new w 144 (enC (enK 1 nm) enN).toArray).alloc (.cells (rdV l0 d) 185)).alloc (.cells c 144)).alloc (.cells #[.string ⟨#[]⟩,.int .i64 0] 185)).cell 0 |>.trans (show _=some (Value.int .i64 1) from rfl)
 obtain ⟨q1,m,j,u,t,E1⟩:=nR l0 d x;obtain ⟨q2,n,g,y,s,E2⟩:=nR m j t;obtain ⟨q3,i,k,q,v,E3⟩:=nB n g s;obtain ⟨q4,l4,e4,r,z,E4⟩:=nT i k 8 v;have HE0:=Hd he;clear he;clear x t s v z;go_in
 go_wp2_with (first|(with_reducible apply yL 185 3 b.o.b1)|(apply Gl 185 3;refine yW (Φ:=FB (enK 1 nm) enN l0 d w) (B.o _ Af) fun D b=>?_;clear A;apply yK b.o.b1)|((with_reducible show Calls _ _ #[.agg (rdV l0 d)] _ _);go_at_call 226;refine yT (u.o _) b.o.next fun o b=>?_)|(apply Gt 3 136;go_must (apply Eg Af (Uz rfl w.1.size 25 (.int .i64 q1) _ rfl rfl (b.o.gt 25 _ rfl) (b.o.b0.free 25) rfl Ak);refine yW (Φ:=FB ⟨1,nm,dZ,[],0,q1,0,false,⟨#[]⟩,⟨#[]⟩,0,0,[]⟩ enN l0 d w) (b.o.set 25 _ rfl) fun p b=>?_))|(with_reducible apply yS 185 3 b.o.b1 (Ua _ _);refine yW (Φ:=FB ⟨1,nm,dZ,[],0,q1,0,false,⟨#[]⟩,⟨#[]⟩,0,0,[]⟩ enN m j w) (b.o.putR m j) fun f b=>?_)|((with_reducible show Calls _ _ #[.agg (rdV m j)] _ _);go_at_call 226;refine yT (y.o _) b.o.next fun o b=>?_)|(apply Gt 3 142;go_must (apply Eg Af (Uz rfl w.1.size 26 (.int .i64 q2) _ rfl rfl (b.o.gt 26 _ rfl) (b.o.b0.free 26) rfl Ak);refine yW (Φ:=FB ⟨1,nm,dZ,[],0,q1,q2,false,⟨#[]⟩,⟨#[]⟩,0,0,[]⟩ enN m j w) (b.o.set 26 _ rfl) fun p b=>?_))|(with_reducible apply yS 185 3 b.o.b1 (Ua _ _);refine yW (Φ:=FB ⟨1,nm,dZ,[],0,q1,q2,false,⟨#[]⟩,⟨#[]⟩,0,0,[]⟩ enN n g w) (b.o.putR n g) fun f b=>?_)|((with_reducible show Calls _ _ #[.agg (rdV n g)] _ _);go_at_call 225;refine yT (q.o _) b.o.next fun o b=>?_)|(apply Gt 4 148;go_must (apply Eg Af (Uz rfl w.1.size 27 (.bool q3) _ rfl rfl (b.o.gt 27 _ rfl) (b.o.b0.free 27) rfl Ak);refine yW (Φ:=FB ⟨1,nm,dZ,[],0,q1,q2,q3,⟨#[]⟩,⟨#[]⟩,0,0,[]⟩ enN n g w) (b.o.set 27 _ rfl) fun p b=>?_))|(with_reducible apply yS 185 3 b.o.b1 (Ua _ _);refine yW (Φ:=FB ⟨1,nm,dZ,[],0,q1,q2,q3,⟨#[]⟩,⟨#[]⟩,0,0,[]⟩ enN i k w) (b.o.putR i k) fun f b=>?_)|((with_reducible show Calls _ _ #[.agg (rdV i k),.int .i64 8] _ _);go_at_call 123;refine yT (r.o _) b.o.next fun o b=>?_)|(apply Gt 9 154;go_must (apply Eg Af (Uz rfl w.1.size 28 (.string q4) _ rfl rfl (b.o.gt 28 _ rfl) (b.o.b0.free 28) rfl Ak);refine yW (Φ:=FB ⟨1,nm,dZ,[],0,q1,q2,q3,q4,⟨#[]⟩,0,0,[]⟩ enN i k w) (b.o.set 28 _ rfl) fun p b=>?_))|(with_reducible apply yS 185 3 b.o.b1 (Ua _ _);refine yW (Φ:=FB ⟨1,nm,dZ,[],0,q1,q2,q3,q4,⟨#[]⟩,0,0,[]⟩ enN l4 e4 w) (b.o.putR l4 e4) fun f b=>?_))
 clear u y q r;have HG:=Hd (show Blk _ w.1.size 144 (enC ⟨1,nm,dZ,[],0,q1,q2,q3,q4,⟨#[]⟩,0,0,[]⟩ enN).toArray/\Blk _ (w.1.size+1) 185 (rdV l4 e4) from ⟨b.o.b0,b.o.b1⟩);refine Rw (S:=fun W=>Blk W w.1.size 144 (enC ⟨1,nm,dZ,[],0,q1,q2,q3,q4,⟨#[]⟩,0,0,[]⟩ enN).toArray/\Blk W (w.1.size+1) 185 (rdV l4 e4)) Ak HG.o (fun hH=>?_);obtain ⟨c,ho,aH⟩:=b.o.b2;apply tr (cs:=enC ⟨1,nm,dZ,[],0,q1,q2,q3,q4,⟨#[]⟩,0,0,[]⟩ enN) 0 (fun W h=>h.1) hH underlying144;apply tr (cs:=[.string l4,.int .i64 e4]) 1 (fun W h=>h.2) hH underlying185;refine ts 2 (enC ⟨1,nm,dZ,[],0,q1,q2,q3,q4,⟨#[]⟩,0,0,[]⟩ enN).toArray aH (Um _ _) ⟨(QE _ _ _ _ Oo).trans hH.1,(QE _ _ _ _ Oo).trans hH.2⟩ ?_ (hold:=ho);simp only [Act.put]
 refine ts 3 (rdV l4 e4) ((QE _ _ _ _ Oo).trans b.o.b3) (Ua _ _) ⟨(QE _ _ _ _ Oo).trans ((QE _ _ _ _ Oo).trans hH.1),(QE _ _ _ _ Oo).trans ((QE _ _ _ _ Oo).trans hH.2)⟩ ?_;simp only [Act.put];refine Ad Ak ?_ _;refine WgQ (Φ:=fun W=>FZ' ⟨1,nm,dZ,[],0,q1,q2,q3,q4,⟨#[]⟩,0,0,[]⟩ enN l4 e4 w W/\True) ⟨⟨(QE _ _ _ _ Oo).trans (QR _ _ _ _ _ _ aH),QR _ _ _ _ _ _ ((QE _ _ _ _ Oo).trans b.o.b3),Xq (Xq b.o.be.drew Oo _) Oo _⟩,?_⟩ (fun C hZ=>?_)
 .trivial
 exact pL
def Dr (nm l0:Bz) (d:Int) (w:Wd) (j:l0.size<=maxLen):Calls prog 176 #[.agg (enC (enK 2 nm) enN).toArray,.agg (rdV l0 d)] w (FdG (alQ nm l0 d) w):=by
 have o:=fun c ho=>FB.new (enK 2 nm) enN l0 d w c ho
 have m:=fun c:Array Value=>((((Blk.new w 144 (enC (enK 2 nm) enN).toArray).alloc (.cells (rdV l0 d) 185)).alloc (.cells c 144)).alloc (.cells #[.string ⟨#[]⟩,.int .i64 0] 185)).cell 0 |>.trans (show _=some (Value.int .i64 2) from rfl)
 obtain ⟨q1,g,f,i,k,E1⟩:=nT l0 d 31 j;clear j k;go_in;go_wp2_with (first|(with_reducible apply yL 185 3 b.o.b1)|(apply Gl 185 3;refine yW (Φ:=FB (enK 2 nm) enN l0 d w) (o _ Af) fun r b=>?_;clear m;apply yK b.o.b1)|((with_reducible show Calls _ _ #[.agg (rdV l0 d),.int .i64 31] _ _);go_at_call 123;refine yT (i.o _) b.o.next fun p b=>?_)|(apply Gt 9 164;go_must (apply Eg Af (Uz rfl w.1.size 29 (.string q1) _ rfl rfl (b.o.gt 29 _ rfl) (b.o.b0.free 29) rfl Ak);refine yW (Φ:=FB ⟨2,nm,dZ,[],0,0,0,false,⟨#[]⟩,q1,0,0,[]⟩ enN l0 d w) (b.o.set 29 _ rfl) fun s b=>?_))|(with_reducible apply yS 185 3 b.o.b1 (Ua _ _);refine yW (Φ:=FB ⟨2,nm,dZ,[],0,0,0,false,⟨#[]⟩,q1,0,0,[]⟩ enN g f w) (b.o.putR g f) fun n b=>?_));clear i
 have HG:=show Blk _ w.1.size 144 (enC ⟨2,nm,dZ,[],0,0,0,false,⟨#[]⟩,q1,0,0,[]⟩ enN).toArray/\Blk _ (w.1.size+1) 185 (rdV g f) from ⟨b.o.b0,b.o.b1⟩
 refine Rw (S:=fun W=>Blk W w.1.size 144 (enC ⟨2,nm,dZ,[],0,0,0,false,⟨#[]⟩,q1,0,0,[]⟩ enN).toArray/\Blk W (w.1.size+1) 185 (rdV g f)) Ak HG (fun hH=>?_);obtain ⟨c,ho,aH⟩:=b.o.b2;apply tr (cs:=enC ⟨2,nm,dZ,[],0,0,0,false,⟨#[]⟩,q1,0,0,[]⟩ enN) 0 (fun W h=>h.1) hH underlying144;apply tr (cs:=[.string g,.int .i64 f]) 1 (fun W h=>h.2) hH underlying185;refine ts 2 (enC ⟨2,nm,dZ,[],0,0,0,false,⟨#[]⟩,q1,0,0,[]⟩ enN).toArray aH (Um _ _) ⟨(QE _ _ _ _ Oo).trans hH.1,(QE _ _ _ _ Oo).trans hH.2⟩ ?_ (hold:=ho);simp only [Act.put];refine ts 3 (rdV g f) ((QE _ _ _ _ Oo).trans b.o.b3) (Ua _ _) ⟨(QE _ _ _ _ Oo).trans ((QE _ _ _ _ Oo).trans hH.1),(QE _ _ _ _ Oo).trans ((QE _ _ _ _ Oo).trans hH.2)⟩ ?_
 simp only [Act.put];refine Ad Ak ?_ _;refine WgQ (Φ:=fun W=>FZ' ⟨2,nm,dZ,[],0,0,0,false,⟨#[]⟩,q1,0,0,[]⟩ enN g f w W/\True) ⟨⟨(QE _ _ _ _ Oo).trans (QR _ _ _ _ _ _ aH),QR _ _ _ _ _ _ ((QE _ _ _ _ Oo).trans b.o.b3),Xq (Xq b.o.be.drew Oo _) Oo _⟩,?_⟩ (fun q hZ=>?_)
 .trivial
 exact pL
def Dp (nm l0:Bz) (d:Int) (w:Wd) (j:l0.size<=maxLen):Calls prog 176 #[.agg (enC (enK 3 nm) enN).toArray,.agg (rdV l0 d)] w (FdG (caQ nm l0 d) w):=by
 have o:=fun c ho=>FB.new (enK 3 nm) enN l0 d w c ho
 have m:=fun c:Array Value=>((((Blk.new w 144 (enC (enK 3 nm) enN).toArray).alloc (.cells (rdV l0 d) 185)).alloc (.cells c 144)).alloc (.cells #[.string ⟨#[]⟩,.int .i64 0] 185)).cell 0 |>.trans (show _=some (Value.int .i64 3) from rfl)
 obtain ⟨q1,g,f,i,k,E1⟩:=nR l0 d j;clear j k;go_in;go_wp2_with (first|(with_reducible apply yL 185 3 b.o.b1)|(apply Gl 185 3;refine yW (Φ:=FB (enK 3 nm) enN l0 d w) (o _ Af) fun r b=>?_;clear m;apply yK b.o.b1)|((with_reducible show Calls _ _ #[.agg (rdV l0 d)] _ _);go_at_call 226;refine yT (i.o _) b.o.next fun p b=>?_)|(apply Gt 3 174;go_must (apply Eg Af (Uz rfl w.1.size 30 (.int .i64 q1) _ rfl rfl (b.o.gt 30 _ rfl) (b.o.b0.free 30) rfl Ak);refine yW (Φ:=FB ⟨3,nm,dZ,[],0,0,0,false,⟨#[]⟩,⟨#[]⟩,q1,0,[]⟩ enN l0 d w) (b.o.set 30 _ rfl) fun s b=>?_))|(with_reducible apply yS 185 3 b.o.b1 (Ua _ _);refine yW (Φ:=FB ⟨3,nm,dZ,[],0,0,0,false,⟨#[]⟩,⟨#[]⟩,q1,0,[]⟩ enN g f w) (b.o.putR g f) fun n b=>?_));clear i
 have HG:=show Blk _ w.1.size 144 (enC ⟨3,nm,dZ,[],0,0,0,false,⟨#[]⟩,⟨#[]⟩,q1,0,[]⟩ enN).toArray/\Blk _ (w.1.size+1) 185 (rdV g f) from ⟨b.o.b0,b.o.b1⟩
 refine Rw (S:=fun W=>Blk W w.1.size 144 (enC ⟨3,nm,dZ,[],0,0,0,false,⟨#[]⟩,⟨#[]⟩,q1,0,[]⟩ enN).toArray/\Blk W (w.1.size+1) 185 (rdV g f)) Ak HG (fun hH=>?_);obtain ⟨c,ho,aH⟩:=b.o.b2;apply tr (cs:=enC ⟨3,nm,dZ,[],0,0,0,false,⟨#[]⟩,⟨#[]⟩,q1,0,[]⟩ enN) 0 (fun W h=>h.1) hH underlying144;apply tr (cs:=[.string g,.int .i64 f]) 1 (fun W h=>h.2) hH underlying185;refine ts 2 (enC ⟨3,nm,dZ,[],0,0,0,false,⟨#[]⟩,⟨#[]⟩,q1,0,[]⟩ enN).toArray aH (Um _ _) ⟨(QE _ _ _ _ Oo).trans hH.1,(QE _ _ _ _ Oo).trans hH.2⟩ ?_ (hold:=ho);simp only [Act.put];refine ts 3 (rdV g f) ((QE _ _ _ _ Oo).trans b.o.b3) (Ua _ _) ⟨(QE _ _ _ _ Oo).trans ((QE _ _ _ _ Oo).trans hH.1),(QE _ _ _ _ Oo).trans ((QE _ _ _ _ Oo).trans hH.2)⟩ ?_
 simp only [Act.put];refine Ad Ak ?_ _;refine WgQ (Φ:=fun W=>FZ' ⟨3,nm,dZ,[],0,0,0,false,⟨#[]⟩,⟨#[]⟩,q1,0,[]⟩ enN g f w W/\True) ⟨⟨(QE _ _ _ _ Oo).trans (QR _ _ _ _ _ _ aH),QR _ _ _ _ _ _ ((QE _ _ _ _ Oo).trans b.o.b3),Xq (Xq b.o.be.drew Oo _) Oo _⟩,?_⟩ (fun q hZ=>?_)
 .trivial
 exact pL
end
section
def j3:(prog.info? 287).map (fun i=>(i.zero,i.size,i.bytes))=some (some (.agg #[.string ⟨#[]⟩,.bool false,.int .i64 0]),3,32):=Ak
def rT (x:Gra):∀ u∈grC x,u.oneCell'=true:=fun u a=>by
 simp only [grC,QH,QM,XP] at a;rcases a with rfl|rfl|rfl<;>rfl
def nA (x:Gra):(grC x).toArray.all (·.oneCell')=true:=by simp [grC,Value.oneCell']
abbrev en4 (nm:Bz) (q1:Int) (q2:Bz) (G:List Gra):En:=⟨4,nm,dZ,[],0,0,0,false,q2,⟨#[]⟩,0,q1,G⟩
structure KO4 (nm:Bz) (q1:Int) (q2:Bz) (G:List Gra) (A:Option Addr) (c:Nat) (l:Bz) (e:Int) (w W:Wd):Prop where
 x:FB (en4 nm q1 q2 G) ⟨none,0,A,c⟩ l e w W
 o:W.ownsRow (w.1.size+4) 287 3 (.slice A G.length c) G.length (U7 grC G)
structure KG4 (nm:Bz) (q1:Int) (q2:Bz) (G:List Gra) (A:Option Addr) (c:Nat) (l:Bz) (e:Int) (k:Nat) (x:Gra) (w W:Wd):Prop where
 f:KO4 nm q1 q2 G A c l e w W
 r:Blk W k 287 (grC x).toArray
 hk:w.1.size+4<=k
 ne:(Value.slice A G.length c).ownBlock≠some k
def gsF:Nat->Bz->Int->List Gra×Bz×Int
 |0,l,e=>([],l,e)
 |k+1,l,e=>
  let t:=U8 l e 8;let b:=Uy t.2.1 t.2.2;let r:=rnF b.2.1 b.2.2
  (⟨t.1,b.1,r.1⟩::(gsF k r.2.1 r.2.2).1,(gsF k r.2.1 r.2.2).2)
def prQ (nm l:Bz) (e:Int):En×Bz×Int:=
 let r:=rnF l e;let t:=U8 r.2.1 r.2.2 8;let c:=Xa t.2.1 t.2.2 8;let g:=gsF c.1.toNat c.2.1 c.2.2
 (en4 nm r.1 t.1 g.1,g.2)
def nt (k:Nat) {l d j b h:Bz} {e i f a g:Int} {m:Bool} (o:U8 l e 8=(h,d,i)) (p:Uy d i=(m,j,f)) (n:rnF j f=(g,b,a)):gsF (k+1) l e=(⟨h,m,g⟩::(gsF k b a).1,(gsF k b a).2):=by
 show (_::_,_)=_;rw [o];simp only [p,n]
section
variable {nm:Bz} {q1:Int} {q2:Bz} {G:List Gra} {A:Option Addr} {c:Nat} {l:Bz} {e:Int} {k:Nat} {x x':Gra} {w W W':Wd}
def KO4.next (h:KO4 nm q1 q2 G A c l e w W) (a:Below W.1.size W W'):KO4 nm q1 q2 G A c l e w W':=⟨h.x.next a,Ub h.o a⟩
def KO4.putR (h:KO4 nm q1 q2 G A c l e w W) (b:Bz) (a:Int):KO4 nm q1 q2 G A c b a w (W.setRow (w.1.size+1) (rdV b a)):=⟨h.x.putR b a,Y3 h.o (Yy h.o (.inl Oo)) _⟩
def KG4.next (h:KG4 nm q1 q2 G A c l e k x w W) (a:Below W.1.size W W'):KG4 nm q1 q2 G A c l e k x w W':=⟨h.f.next a,h.r.below a h.r.lt,h.hk,h.ne⟩
def KG4.putR (h:KG4 nm q1 q2 G A c l e k x w W) (b:Bz) (a:Int):KG4 nm q1 q2 G A c b a k x w (W.setRow (w.1.size+1) (rdV b a)):=⟨h.f.putR b a,(QE _ _ _ _ (by have:=h.hk;omega)).trans h.r,h.hk,h.ne⟩
def KG4.set (h:KG4 nm q1 q2 G A c l e k x w W) (i:Nat) (v:Value) (a:(grC x).toArray.setIfInBounds i v=(grC x').toArray):KG4 nm q1 q2 G A c l e k x' w (W.setCell ⟨k,i,none⟩ v):=
 ⟨⟨h.f.x.keep ((Bf _ _).setCell h.hk _),ownsRow_setCell_other h.f.o h.ne v⟩,by rw [<-a];exact h.r.set i v,h.hk,h.ne⟩
def KO4.new (h:KO4 nm q1 q2 G A c l e w W) (z:Array Value) (x:Gra):KG4 nm q1 q2 G A c l e W.1.size x w ((Aa W z 287).setRow W.1.size (grC x).toArray):=
 have a:=Yy h.o (.inr (Le _))
 ⟨⟨h.x.keep (Xq ((Bf _ _).alloc h.x.sz _) h.x.sz _),Y3 (h.o.alloc _) a _⟩,QR _ _ _ _ _ _ (Blk.new W _ _),h.x.sz,a⟩
def KO4.push {a:Option Addr} {c2:Nat} {x:Gra} (g:FB (en4 nm q1 q2 G) ⟨none,0,A,c⟩ l e w W) (d:W.ownsRow (w.1.size+4) 287 3 (.slice a (G.length+1) c2) (G.length+1) (U7 grC G++grC x)):
  KO4 nm q1 q2 (G++[x]) a c2 l e w (W.setCell ⟨w.1.size,32,none⟩ (.slice a (G.length+1) c2)):=by
 have f:(G++[x]).length=G.length+1:=Am
 have b:U7 grC (G++[x])=U7 grC G++grC x:=by simp [U7]
 refine ⟨g.set 32 _ (by simp [enC]),?_⟩;rw [f,b];exact ownsRow_setCell_below d (by show w.1.size<_;omega) _
def KG4.gt (h:KG4 nm q1 q2 G A c l e k x w W) (i:Nat) (v:Value) (a:(grC x)[i]? =some v):W.cell? ⟨k,i,none⟩=some v:=by rw [h.r.cell];simpa using a
end
def Do (nm s:Bz) (u:Int) (w:Wd) (z0:s.size<=maxLen):Calls prog 176 #[.agg (enC (enK 4 nm) enN).toArray,.agg (rdV s u)] w (FdG (prQ nm s u) w):=by
 have HX:=Hd fun v X=>FB.new (enK 4 nm) enN s u w v X
 have m0:=fun v:Array Value=>((((Blk.new w 144 (enC (enK 4 nm) enN).toArray).alloc (.cells (rdV s u) 185)).alloc (.cells v 144)).alloc (.cells #[.string ⟨#[]⟩,.int .i64 0] 185)).cell 0 |>.trans (show _=some (Value.int .i64 4) from rfl)
 obtain ⟨q1,Q,I,H1,z1,E1⟩:=nR s u z0;obtain ⟨q2,L,O,H2,z2,E2⟩:=nT Q I 8 z1;obtain ⟨q3,d,m,H3,K,Y⟩:=nC L O 8 z2;have y:=FZ L O 8 Ac;rw [Y.o] at y;obtain ⟨N,hN⟩:=JM y.1;have hN4:N<=8:=by have:=y.2;simp only at this;omega
 simp only at hN;subst hN;obtain ⟨T,hT⟩:=yG (gsF N d m);have q:=Hd hT;have F:=Hd K;have HP:Aw (prQ nm s u=(en4 nm q1 q2 T.1,T.2)):=Hd (by unfold prQ;simp only [E1.o,E2.o,Y.o,XO,hT]);clear y hT;clear z0 z1 z2 K;go_in
 go_wp2_with (first|(apply Gl 185 3;apply Lq 185 (w.1.size+1) _ a.o.b1 underlying185)|(apply Gl 185 3;refine yW (Φ:=FB (enK 4 nm) enN s u w) (HX.o _ Af) fun W1 a=>?_;clear m0;apply Lq 185 (w.1.size+1) _ a.o.b1 underlying185)|((with_reducible show Calls _ _ #[.agg (rdV s u)] _ _);go_at_call 226;apply (H1.o _).mono;rintro x U ⟨rfl,b⟩;have a:=Hd (a.o.next b);clear b)|(refine Gt 3 182 ?_;go_must (refine Eg Af (Uz rfl w.1.size 31 (.int .i64 q1) _ rfl rfl (a.o.gt 31 _ rfl) (a.o.b0.free 31) rfl Ak) ?_;refine yW (Φ:=FB ⟨4,nm,dZ,[],0,0,0,false,⟨#[]⟩,⟨#[]⟩,0,q1,[]⟩ enN s u w) (a.o.set 31 _ rfl) fun Z a=>?_))|(refine Gt 185 3 ?_;refine Lv 185 (w.1.size+1) (rdV Q I) a.o.b1 (Ua _ _) ?_;refine yW (Φ:=FB ⟨4,nm,dZ,[],0,0,0,false,⟨#[]⟩,⟨#[]⟩,0,q1,[]⟩ enN Q I w) (a.o.putR Q I) fun n a=>?_)|((with_reducible show Calls _ _ #[.agg (rdV Q I),.int .i64 8] _ _);go_at_call 123;refine (H2.o _).mono ?_;rintro x U ⟨rfl,b⟩;have a:=Hd (a.o.next b);clear b)|(refine Gt 9 188 ?_;go_must (refine Eg Af (Uz rfl w.1.size 28 (.string q2) _ rfl rfl (a.o.gt 28 _ rfl) (a.o.b0.free 28) rfl Ak) ?_;refine yW (Φ:=FB ⟨4,nm,dZ,[],0,0,0,false,q2,⟨#[]⟩,0,q1,[]⟩ enN Q I w) (a.o.set 28 _ rfl) fun Z a=>?_))|(refine Gt 185 3 ?_;refine Lv 185 (w.1.size+1) (rdV L O) a.o.b1 (Ua _ _) ?_;refine yW (Φ:=FB ⟨4,nm,dZ,[],0,0,0,false,q2,⟨#[]⟩,0,q1,[]⟩ enN L O w) (a.o.putR L O) fun n a=>?_)|((with_reducible show Calls _ _ #[.agg (rdV L O),.int .i64 8] _ _);go_at_call 174;refine (H3.o _).mono ?_;rintro x U ⟨rfl,b⟩;have a:=Hd (a.o.next b);clear b)|(refine Gt 185 3 ?_;refine Lv 185 (w.1.size+1) (rdV d m) a.o.b1 (Ua _ _) ?_;refine yW (Φ:=FB ⟨4,nm,dZ,[],0,0,0,false,q2,⟨#[]⟩,0,q1,[]⟩ enN d m w) (a.o.putR d m) fun n a=>?_))
 have HK:Aw (KO4 nm q1 q2 [] none 0 d m w _):=Hd ⟨a.o,⟨rfl,.inl ⟨rfl,rfl⟩⟩⟩;clear H1 H2 H3 a;go_loopw [11] (fun i wr=>∃ (j:Nat) (G:List Gra) (A:Option Addr) (c:Nat) (l:Bz) (e:Int),j<=N/\i=.int .i64 j/\G.length=j/\T=(G++(gsF (N-j) l e).1,(gsF (N-j) l e).2)/\l.size<=maxLen/\KO4 nm q1 q2 G A c l e w wr) (fun i _=>N-(intOf i).toNat)
 .exact ⟨0,[],none,0,d,m,Z0 _,rfl,rfl,q.o.symm,F.o,HK.o⟩
 .obtain ⟨j,G,A,c,d,m,hj,rfl,hG,hw8,K,hX⟩:=hrel;have a:=Hd hX;by_cases aE:j<N
  .have d1:decide ((j:Int)<(N:Int))=true:=QQ Oo;obtain ⟨o,H,P,H4,z4,E4⟩:=nT d m 8 K;obtain ⟨t,J,M,H5,z5,E5⟩:=nB H P z4;obtain ⟨z,C,B,H6,z6,E6⟩:=nR J M z5;have HW:Aw (T=((G++[⟨o,t,z⟩])++(gsF (N-(j+1)) C B).1,(gsF (N-(j+1)) C B).2)):=Hd (by rw [hw8,show N-j=(N-(j+1))+1 from Oo,nt _ E4.o E5.o E6.o,ZO];rfl);have R:=Hd hG;have bA:=Hd aE;have HZ6:=Hd z6;have HNN:Aw (G.length<=100000):=Hd Oo;clear hX hG hw8 K z4 z5 z6 E1 E2 Y F HK HX q
   go_wp2_with (first|(refine Gt 287 12 ?_;go_must (refine Lv 287 wr.1.size (grC ⟨⟨#[]⟩,false,0⟩).toArray (Blk.new wr _ _) (nA _) ?_;refine yW (Φ:=KG4 nm q1 q2 G A c d m wr.1.size ⟨⟨#[]⟩,false,0⟩ w) (a.o.new _ _) fun W1 a=>?_))|(refine Gl 185 3 ?_;refine Lq 185 (w.1.size+1) _ a.o.f.x.b1 underlying185 ?_)|(refine Gl 287 12 ?_;refine Lq 287 wr.1.size #[.string o,.bool t,.int .i64 z] a.o.r underlying287 ?_)|((with_reducible show Calls _ _ #[.agg (rdV d m),.int .i64 8] _ _);go_at_call 123;refine (H4.o _).mono ?_;rintro x U ⟨rfl,b⟩;have a:=Hd (a.o.next b);clear b)|(refine Gt 9 205 ?_;go_must (refine Eg Af (Uz rfl wr.1.size 0 (.string o) _ rfl rfl (a.o.gt 0 _ rfl) (a.o.r.free 0) rfl Ak) ?_;refine yW (Φ:=KG4 nm q1 q2 G A c d m wr.1.size ⟨o,false,0⟩ w) (a.o.set 0 _ rfl) fun Z a=>?_))|(refine Gt 185 3 ?_;refine Lv 185 (w.1.size+1) (rdV H P) a.o.f.x.b1 (Ua _ _) ?_;refine Wg (Φ:=KG4 nm q1 q2 G A c H P wr.1.size ⟨o,false,0⟩ w) (a.o.putR H P) ?_;intro n r;have a:=Hd r;have cg:=r.f.x.gt 32 _ rfl;clear r)|((with_reducible show Calls _ _ #[.agg (rdV H P)] _ _);go_at_call 225;refine (H5.o _).mono ?_;rintro x U ⟨rfl,b⟩;have a:=Hd (a.o.next b);clear b)|(refine Gt 4 211 ?_;go_must (refine Eg Af (Uz rfl wr.1.size 1 (.bool t) _ rfl rfl (a.o.gt 1 _ rfl) (a.o.r.free 1) rfl Ak) ?_;refine yW (Φ:=KG4 nm q1 q2 G A c H P wr.1.size ⟨o,t,0⟩ w) (a.o.set 1 _ rfl) fun Z a=>?_))|(refine Gt 185 3 ?_;refine Lv 185 (w.1.size+1) (rdV J M) a.o.f.x.b1 (Ua _ _) ?_;refine Wg (Φ:=KG4 nm q1 q2 G A c J M wr.1.size ⟨o,t,0⟩ w) (a.o.putR J M) ?_;intro n r;have a:=Hd r;have cg:=r.f.x.gt 32 _ rfl;clear r)|((with_reducible show Calls _ _ #[.agg (rdV J M)] _ _);go_at_call 226;refine (H6.o _).mono ?_;rintro x U ⟨rfl,b⟩;have a:=Hd (a.o.next b);clear b)|(refine Gt 3 217 ?_;go_must (refine Eg Af (Uz rfl wr.1.size 2 (.int .i64 z) _ rfl rfl (a.o.gt 2 _ rfl) (a.o.r.free 2) rfl Ak) ?_;refine yW (Φ:=KG4 nm q1 q2 G A c J M wr.1.size ⟨o,t,z⟩ w) (a.o.set 2 _ rfl) fun Z a=>?_))|(refine Gt 185 3 ?_;refine Lv 185 (w.1.size+1) (rdV C B) a.o.f.x.b1 (Ua _ _) ?_;refine Wg (Φ:=KG4 nm q1 q2 G A c C B wr.1.size ⟨o,t,z⟩ w) (a.o.putR C B) ?_;intro n r;have a:=Hd r;have cg:=r.f.x.gt 32 _ rfl;clear r)|(at_builtin;go_must (refine Ap (news:=grC ⟨o,t,z⟩) j3 underlying142 (a.o.f.o.alloc _) (Blk.new n _ _) (rT _) HNN.o (Lx a.o.f.x.sz (U6 _ _)) ?_;intro v' w7 aD aI;have wK:=Hd aD;have wU:=Hd aI;clear aD aI))|(refine Gt 142 223 ?_;go_must (obtain ⟨A2,c2,rfl,_⟩:=U4 wK.o;have E:Aw (FB (en4 nm q1 q2 G) ⟨none,0,A,c⟩ C B w w7):=Hd (a.o.f.x.keep (((Bf _ _).alloc a.o.f.x.sz _).grown wU.o (Lx a.o.f.x.sz (U6 _ _)) (U9 (a.o.f.o.alloc (.cells (grC ⟨o,t,z⟩).toArray 287)) (Le _))));refine Eg Af (Uz rfl w.1.size 32 (.slice A2 (G.length+1) c2) _ rfl rfl (E.o.gt 32 _ rfl) (E.o.b0.free 32) rfl Ak) ?_;refine yW (Φ:=KO4 nm q1 q2 (G++[⟨o,t,z⟩]) A2 c2 C B w) (KO4.push E.o wK.o) fun W11 HC=>?_)))
   go_roundw
   .exact ⟨j+1,_,_,_,C,B,bA.o,by have:=bA.o;go_num,by rw [WW,R.o];rfl,HW.o,HZ6.o,HC.o⟩
   .simp [intOf];have:=bA.o;omega
  .obtain rfl:j=N:=Oo
   have d1:decide ((j:Int)<(j:Int))=false:=QW Oo;have R:=Hd hG;have HW:Aw (T=(G,d,m)):=Hd (by rw [hw8,VG];show (G++[],_)=_;rw [UI];rfl);clear hX hG hw8 K hj E1 E2 Y F HK HX q;go_wp2;have HG:=Hd (show Blk _ w.1.size 144 (enC (en4 nm q1 q2 G) ⟨none,0,A,c⟩).toArray/\Blk _ (w.1.size+1) 185 (rdV d m) from ⟨a.o.x.b0,a.o.x.b1⟩);refine Rw (S:=fun W=>Blk W w.1.size 144 (enC (en4 nm q1 q2 G) ⟨none,0,A,c⟩).toArray/\Blk W (w.1.size+1) 185 (rdV d m)) Ak HG.o (fun D=>?_);obtain ⟨v,X,aH⟩:=a.o.x.b2;refine tr (cs:=enC (en4 nm q1 q2 G) ⟨none,0,A,c⟩) 0 (fun W h=>h.1) D underlying144 ?_;refine tr (cs:=[.string d,.int .i64 m]) 1 (fun W h=>h.2) D underlying185 ?_
   refine ts 2 (enC (en4 nm q1 q2 G) ⟨none,0,A,c⟩).toArray aH (Um _ _) ⟨(QE _ _ _ _ Oo).trans D.1,(QE _ _ _ _ Oo).trans D.2⟩ ?_ (hold:=X);simp only [Act.put];refine ts 3 (rdV d m) ((QE _ _ _ _ Oo).trans a.o.x.b3) (Ua _ _) ⟨(QE _ _ _ _ Oo).trans ((QE _ _ _ _ Oo).trans D.1),(QE _ _ _ _ Oo).trans ((QE _ _ _ _ Oo).trans D.2)⟩ ?_;simp only [Act.put];refine Ad Ak ?_ _
   refine WgQ (Φ:=fun W=>FZ' (en4 nm q1 q2 G) ⟨none,0,A,c⟩ d m w W/\W.ownsRow (w.1.size+4) 287 3 (.slice A G.length c) G.length (U7 grC G)) ⟨⟨(QE _ _ _ _ Oo).trans (QR _ _ _ _ _ _ aH),QR _ _ _ _ _ _ ((QE _ _ _ _ Oo).trans a.o.x.b3),Xq (Xq a.o.x.be.drew Oo _) Oo _⟩,?_⟩ (fun WZ V=>?_)
   .have h1:=Y3 a.o.o.drew (Yy a.o.o.drew (g:=w.1.size+2) (.inl Oo)) (enC (en4 nm q1 q2 G) ⟨none,0,A,c⟩).toArray;exact Y3 h1 (Yy h1 (g:=w.1.size+3) (.inl Oo)) _
   clear D aH X HG;go_wp2;apply Br (P4 results176 rfl rfl (Ux _ _ _ V.1.b2 rfl) (El _ _ _ V.1.b3 rfl)) rfl;rw [HP.o,HW.o];exact ⟨⟨none,0,A,c⟩,rfl,⟨⟨Sl.nil,Sl.of_own (f:=grC) (k:=3) (fun _=>rfl) Ac V.2,fun _ _ _ h=>(QM h).elim,fun _ _ _ h=>(QM h).elim⟩,fun _ _ h=>absurd h (KD _),fun p hp _=>U9 V.2 Oo p.block (by rw [show A=some p from hp];rfl)⟩,.k4 nm q1 q2 G A c,V.1.be⟩
end
def rdQ (k:Int) (a l:Bz):En×Bz×Int:=if k=0 then Ia 0 a l else if k=1 then GA 1 a l else if k=2 then alQ a l 0 else if k=3 then caQ a l 0 else prQ a l 0
def J2 (l:Bz) (e:Int):(rnF l e).2.1.size<=l.size:=Zd l e
def uU {G:Prop} (h:G:=by
  have h:=fun (l:Bz) (e:Int)=>L9 l e 8 Ac
  exact Lx (UJ.1 (h _ _)) Ac):G:=h
def jh {a l:Bz} (hn:a.size<=300) (b:l.size<=maxLen):EOk (Ia 0 a l).1/\(Ia 0 a l).2.1.size<=maxLen:=by
 refine ⟨⟨?_,Z0 _,hn,?_,?_,Z0 _,Z0 _,fun g c=>(QM c).elim⟩,Lx (J2 _ _) (Lx (Ek _ _ _) (Lx (Ee _ _ _) (Lx (Xn _ _) (Lx (Ek _ _ _) (Lx (Vf _ _ _).2 (Lx (Vf _ _ _).2 (Lx (J2 _ _) (Lx (Xn _ _) (Lx (Ek _ _ _) b)))))))))⟩
 .show (Xz _ _ _).1.length<=1000;rw [EC];have h:=fun (l:Bz) (e:Int)=>(FZ l e 4 Ac).2
  exact Lx (Int.toNat_le.2 (h _ _)) Ac
 .exact uU
 .exact uU
def j8 {a l:Bz} (hn:a.size<=300) (b:l.size<=maxLen):EOk (GA 1 a l).1/\(GA 1 a l).2.1.size<=maxLen:=by
 refine ⟨⟨Z0 _,Z0 _,hn,Z0 _,Z0 _,?_,Z0 _,fun g c=>(QM c).elim⟩,Lx (Vf _ _ _).2 (Lx (Xn _ _) (Lx (Ek _ _ _) b))⟩;exact uU
def vB:∀ (k:Nat) (l:Bz) (e:Int),(gsF k l e).1.length=k
 |0,_,_=>rfl
 |k+1,_,_=>XK (· + 1) (vB k _ _)
def vy:∀ (k:Nat) (l:Bz) (e:Int),∀ g∈(gsF k l e).1,g.who.size<=1000
 |0,_,_,_,h=>(QM h).elim
 |k+1,l,e,g,h=>by
  rcases QH.1 h with rfl|h
  .exact Lx (UJ.1 (L9 l e 8 Ac)) Ac
  .exact vy k _ _ g h
def Ca:∀ (k:Nat) (l:Bz) (e:Int),(gsF k l e).2.1.size<=l.size
 |0,_,_=>Le _
 |k+1,_,_=>Lx (Ca k _ _) (Lx (J2 _ _) (Lx (Xn _ _) (Vf _ _ _).2))
def oM {k:Int} (f:k=0\/k=1\/k=2\/k=3\/k=4) {c l:Bz} (hn:c.size<=300) (b:l.size<=maxLen):(rdQ k c l).1.kind=k/\EOk (rdQ k c l).1/\(rdQ k c l).2.1.size<=maxLen:=by
 have a:∀ n:Nat,(⟨#[]⟩:Bz).size<=n:=fun _=>Z0 _
 rcases f with rfl|rfl|rfl|rfl|rfl
 .exact ⟨rfl,jh hn b⟩
 .exact ⟨rfl,j8 hn b⟩
 .refine ⟨rfl,⟨Z0 _,Z0 _,hn,a _,a _,a _,?_,fun g d=>(QM d).elim⟩,Lx (Vf _ _ _).2 b⟩;exact Lx (UJ.1 (L9 l 0 31 Ac)) Ac
 .exact ⟨rfl,⟨Z0 _,Z0 _,hn,a _,a _,a _,a _,fun g d=>(QM d).elim⟩,Lx (J2 _ _) b⟩
 .refine ⟨rfl,⟨Z0 _,?_,hn,a _,a _,?_,a _,vy _ _ _⟩,Lx (Ca _ _ _) (Lx (Ee _ _ _) (Lx (Vf _ _ _).2 (Lx (J2 _ _) b)))⟩
  .show (gsF _ _ _).1.length<=1000;rw [vB];have h:=fun (l:Bz) (e:Int)=>(FZ l e 8 Ac).2
   exact Lx (Int.toNat_le.2 (h _ _)) Ac
  .exact uU
def Rk {k:Int} (c:k=0\/k=1\/k=2\/k=3\/k=4) (a l:Bz) (w:Wd) (b:l.size<=maxLen):Calls prog 176 #[.agg (enC (enK k a) enN).toArray,.agg (rdV l 0)] w (FdG (rdQ k a l) w):=by
 rcases c with rfl|rfl|rfl|rfl|rfl
 .exact Dt a l 0 rfl w b
 .exact Ds a l 0 w b rfl
 .exact Dr a l 0 w b
 .exact Dp a l 0 w b
 .exact Do a l 0 w b
def Si (s:Bz) (a b:Nat):(s.extract a b).data.toList=(s.data.toList.drop a).take (b-a):=by
 rw [ByteArray.data_extract,Array.toList_extract,List.extract_eq_take_drop]
def zu {s:Bz} {m:Nat} (t:1<=m) (l:m<=32) (u:32<=s.size) (k:∀ p (h:p<s.size),m<=p->p<32->s[p]=32) (he:m=1\/∃ h:m-1<s.size,s[m-1]≠32):s.extract 1 m=Ei (s.extract 1 32):=by
 have q:s.data.toList.length=s.size:=rfl
 have d:∀ j,j<31->∀ b,((s.data.toList.drop 1).take 31)[j]? =some b->∃ h:1+j<s.size,s[1+j]=b:=fun j g b h=>by
  rw [YV,QK g,YF,QV Oo] at h;exact ⟨Oo,by rw [<-WQ h];simp [UO]⟩
 have f:((s.data.toList.drop 1).take 31).length=31:=by rw [WX,XD];omega
 have i:=Lib.trimRightB_take ((s.data.toList.drop 1).take 31) 32 (m-1) Oo (fun j b g a=>by
  have c:j<31:=by have:=(QZ.1 a).1;omega
  obtain ⟨h,e⟩:=d j c b a;rw [<-e];exact k _ h Oo Oo) (fun b o a=>by
  obtain ⟨h,e⟩:=d (m-1-1) Oo b a;rcases he with he|⟨r,he⟩
  .omega
  .rw [<-e];intro n;refine he ?_;rw [<-n];congr 1;omega)
 unfold Ei;rw [Si,i,JT,ZI (by omega:m-1<=31)];apply KZ;rw [<-Si]
section
variable {s:Bz} {j:Nat} {R:En×Bz×Int}
def DeG (s:Bz) (w:Wd) (x:Ending) (w':Wd):Prop:=∃ e a f,x=.returned (.tuple #[.agg (enC e a).toArray,.int .i64 f])/\UsA e a/\(EOk e/\(e=enZ->a=enN))/\EW [] w' e a/\DqR s e/\Below w.1.size w w'
def DB (w W:Wd):Prop:=(∃ a:Array Value,a.size=33/\Blk W w.1.size 144 a)/\Below w.1.size w W
def DB.next {w W W':Wd} (h:DB w W) (d:Below W.1.size W W'):DB w W':=by
 obtain ⟨⟨a,e,c⟩,b⟩:=h;exact ⟨⟨a,e,c.below d c.lt⟩,b.trans (d.mono b.size)⟩
def vZ:EOk enZ:=⟨Z0 _,Z0 _,Z0 _,Z0 _,Z0 _,Z0 _,Z0 _,fun _ a=>(QM a).elim⟩
def vY (w:Wd):EW [] w enZ enN:=⟨Sl.nil,Sl.nil,fun _ _ _ h=>(QM h).elim,fun _ _ _ h=>(QM h).elim⟩
def pz:UsA enZ enN:=.k0 ⟨#[]⟩ dZ [] 0 none 0
def DI (s:Bz) (j:Nat):Prop:=(∀ k:Nat,k<j->Yr s≠F1 k)\/(II s=none/\∃ m:Nat,m<j/\Yr s=F1 m)
def DI.none (h:DI s 5):II s=none:=by
 rcases h with h|h
 .have h0:Yr s≠68:=h 0 Ac;have a:Yr s≠71:=h 1 Ac;unfold II;rw [QX h0,QX a];exact ite_self _
 .exact h.1
def DI.miss (h:DI s j) (hn:Yr s≠F1 j):DI s (j+1):=by
 rcases h with h|⟨h,m,b,he⟩
 .exact .inl fun k c=>by
   by_cases a:k=j
   .rw [a];exact hn
   .exact h k Oo
 .exact .inr ⟨h,m,Oo,he⟩
def Cv (a:32<=s.size/\s.size<=200) (b:j<5) (h:Yr s=F1 j):II s=if j=0 then deQ 0 s else if j=1 then deQ 1 s else none:=by
 unfold II;rw [QX Oo,h];rcases (show j=0\/j=1\/j=2\/j=3\/j=4 from Oo) with rfl|rfl|rfl|rfl|rfl<;>rfl
def ma (f:32<=s.size/\s.size<=200) (i:j<5) (h:Yr s=F1 j) (d:rdQ j (Ei (s.extract 1 32)) (s.extract 32 s.size)=R) (c:R.1.kind=j) (he:Yj R.2.1 R.2.2=0) (g:K01 R.1->Z2 R.1=some s):DqR s R.1:=by
 have b:=Cv f i h;by_cases a:j=0\/j=1
 .refine .inl ?_;have e:=g (by rcases a with rfl|rfl;exact .inl c;exact .inr c);rcases a with rfl|rfl
  .rw [b,QK rfl];unfold deQ;rw [show I0 0 (Ei (s.extract 1 32)) (s.extract 32 s.size)=R from d];exact QK ⟨he,e⟩
  .rw [b,QX Ac,QK rfl];unfold deQ;rw [show I0 1 (Ei (s.extract 1 32)) (s.extract 32 s.size)=R from d];exact QK ⟨he,e⟩
 .refine .inr ⟨by rw [b,QX Oo,QX Oo],.inr ⟨by rw [c];omega,f.1⟩⟩
def mc (f:32<=s.size/\s.size<=200) (e:j<5) (h:Yr s=F1 j) (a:rdQ j (Ei (s.extract 1 32)) (s.extract 32 s.size)=R) (hn:(j=0\/j=1)->¬ (Yj R.2.1 R.2.2=0/\Z2 R.1=some s)):DI s (j+1):=by
 have d:=Cv f e h;refine .inr ⟨?_,j,Oo,h⟩;rw [d];by_cases c:j=0
 .subst c;rw [QK rfl];unfold deQ;rw [show I0 0 (Ei (s.extract 1 32)) (s.extract 32 s.size)=R from a];exact QX (hn (.inl rfl))
 .rw [QX c];by_cases b:j=1
  .subst b;rw [QK rfl];unfold deQ;rw [show I0 1 (Ei (s.extract 1 32)) (s.extract 32 s.size)=R from a];exact QX (hn (.inr rfl))
  .exact QX b
def vT {E:En} (h:E=enZ) (he:Z2 E=some s):False:=by
 rw [h] at he;unfold Z2 at he;rw [Bq] at he;cases he
def qB {c:Bz} {b e:Int} (f:K01 R.1) (he:Yj R.2.1 R.2.2=e) (hn:K01 R.1->(b=0/\Z2 R.1=some c)\/(b=1/\Z2 R.1=none/\c=⟨#[]⟩)) (i:¬ (e=0/\b=0/\c=s)):¬ (Yj R.2.1 R.2.2=0/\Z2 R.1=some s):=by
 rintro ⟨g,d⟩;rcases hn f with ⟨h,a⟩|⟨_,a,_⟩
 .rw [d] at a;exact i ⟨he.symm.trans g,h,(WQ a).symm⟩
 .rw [d] at a;cases a
end
end Go.Proofs.YtdleakjejodjjaaGreatDoor
