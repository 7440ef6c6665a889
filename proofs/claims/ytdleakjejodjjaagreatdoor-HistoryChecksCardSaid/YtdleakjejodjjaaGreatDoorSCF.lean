/- Of the history laws. -/
import Derived.Test.YtdleakjejodjjaaGreatDoorSBN
namespace Go.Proofs.YtdleakjejodjjaaGreatDoor
open Tryz
set_option linter.all false
set_option maxRecDepth 100000
set_option maxHeartbeats 20000000
open Go.RowKit
def oL (x:Cnt) (n:Int) (c:Chg) (w:Wd) (H:CW w x) (hc:Ij c) (hn:x.ps.length<=1000) (bS:(Vi x.d x.ap x.ps&&Z6 c&&!decide (n<1)&&!decide (1099511627776<n))=true) (h5:(c.id != x.d.id)=false) (h6:decide (n<=x.ap)=false) (hk:c.kind=0\/c.kind=1) (hd:Xd x.d=true) (t:Y0 x.d c.key=true):
  Calls prog 53 #[.agg (cnC x).toArray,.agg (nbC n c).toArray] w (DoS x (doR (plC x) n c) w):=by
 rw [PL bS h5 h6];obtain ⟨R,hR⟩:=yG (qk x.d n (Ys x.d x.ps c):Int ⊕ PC);rw [hR];have HE:Aw (∀ e,Ys x.d x.ps c=.inl e->R=.inl e):=Hd fun e h=>by rw [<-hR,h];rfl
 have HL:Aw (∀ l,Ys x.d x.ps c=.inr l->R=if Vi x.d n l=true then .inr ⟨x.d,n,l⟩ else .inl 2):=Hd fun l h=>by rw [<-hR,h];rfl
 simp only [QU,XN] at bS;obtain ⟨⟨⟨h1,h2⟩,N⟩,h4⟩:=bS;have H0:=Hd (IB x n c w);have H1:=Kc c;have HB:=fun M=>U3 (dw0 x n c w) 50 M (w.1.size+3) (Es x n c w).symm
 have HN:=fun M=>DO.new x n c w M
 have HV:∀ W,Below w.1.size w W->Calls prog 48 #[.agg (cnC x).toArray] W (Ab W (.bool true)):=fun W b=>by rw [<-h1];exact Xo x W (H.below b)
 have eF:∀ W,Calls prog 78 #[.agg (chC c).toArray] W (Ab W (.bool true)):=fun W=>by rw [<-h2];exact Fz c W hc
 have H3:=fun z=>Va z
 have HS:=Hd hc;have dP:=Hd hn;clear hR hc hn;go_in
 go_upto_region 6 with (first|((with_reducible refine Gl 50 16 ?_);refine Ln 50 (w.1.size+1) 1 (chC c) (Km H0) underlying50 ?_)|((with_reducible refine Gt 50 6 ?_);refine Lv 50 (w.1.size+3) (chC c).toArray (HB _) H1 ?_;refine Wg (Φ:=DO x n c w) (HN _) (fun W1 i=>?_);have a:=Hd i;clear i)|((with_reducible refine Gl 37 2 ?_);refine LqH 37 w.1.size (cnC x).toArray a.dw.b1 underlying37 ?_)|((with_reducible refine Gl 50 6 ?_);refine LqH 50 (w.1.size+3) (chC c).toArray a.b4 underlying50 ?_)|(go_at_call 48;refine (HV _ a.dw.be).mono ?_;rintro e w2 ⟨rfl,b⟩;have a:=Hd (a.next b);clear b)|(go_at_call 78;refine (eF _).mono ?_;rintro e w2 ⟨rfl,b⟩;have a:=Hd (a.next b);have n0:=a.n;have c0:=a.c 0 _ rfl;have c1:=a.c 1 _ rfl;have x0:=a.x 0 _ rfl;have x21:=a.x 21 _ rfl;clear b))
 have x1:=a.x 1 _ rfl;clear n0 c0 c1 x0 x21 N h4 h5 h6
 go_cut [7] from 7 to 7 (fun v W=>v=.bool (Xd x.d)/\W=w2)
 case first=>
  have S:=Hd (show Xd x.d=((x.d.org == 3) || (x.d.org == 2)) from rfl);generalize hq:(x.d.org == 3)=q at S;generalize eV:(x.d.org == 2)=q2 at S;cases q with
  |true=>
   go_wp2_with fail
   go_meet
   .exact ⟨by rw [S.o];rfl,rfl⟩
  |false=>
   go_wp2_with fail
   go_meet
   .exact ⟨by rw [S.o];rfl,rfl⟩
 case rest=>
  obtain ⟨rfl,rfl⟩:=hcut;have HA:=Hd ((Bf wc.1.size wc).alloc (Le _) (.cells #[] 74));have x22:=(a.next HA).x 22 _ rfl
  go_upto_block 0 with (at_builtin;go_must (refine Ap2 Vl underlying35 (GY wc 74 2) ((H.sl.below (a.next HA).dw.be).rd) (Yx _) (by have:=H.le;omega) (U6 _ _) ?_;intro v4 w4 o s;have b:=HA.grown s (U6 _ _) (U9 (GY wc 74 2) (Le _));rw [QB,YN] at o;have o:=X7 o a.s4;obtain ⟨A4,Y,rfl,hk,gD⟩:=U4 o;have HK:=Hd hk;have a:=Hd (a.next b);have HO:=Hd o;have c0:=a.c 0 _ rfl;clear o s b hk gD))
  clear x22
  go_cut [8] from 8 to 8 (fun v W=>∃ A m k l,v=.slice A m k/\Ys x.d x.ps c=.inr l/\DT x n c ⟨x.d,n,A,m,k,l⟩ w W)
  case first=>
   have bJ:w4.1.size >= w.1.size+4:=a.s4;have HK01:=Hd hk;have fT:(c.kind == 0)=true\/((c.kind == 0)=false/\(c.kind == 1)=true):=by rcases hk with h|h<;>simp [h]
   clear hk
   go_upto_if 67 with fail
   go_cut [67] from 67 to 67 (fun v W=>v=.bool true/\W=w4)
   case first=>
    rcases fT with e0|⟨e0,e1⟩
    all_goals
     go_wp2_with fail
     go_meet
     .first|exact ⟨rfl,rfl⟩|exact ⟨by rw [e0],rfl⟩
   obtain ⟨rfl,rfl⟩:=hcut;clear fT;try rw [hd]
   have S:=Hd hd;clear hd;have dX:=Hd t;clear t;have X:=fun W=>Zl c.key W
   have c2:=a.c 2 _ rfl;have x1:=a.x 1 _ rfl;have x6:=a.x 6 _ rfl;have HP:Y0 x.d c.key=if (x.d.org == 3)=true then ((c.key.size:Int) == x.d.kln) else ((Uc c.key).2&&decide (1<=(Uc c.key).1)&&decide ((Uc c.key).1<=65536)):=by unfold Y0 IT;simp
   generalize Uc c.key=nb at X HP;obtain ⟨L,bk⟩:=nb;simp only at X HP
   go_upto_region 14 with (go_at_call 86;refine (X _).mono ?_;rintro e w5 ⟨rfl,rfl⟩)
   have HB:=Hd bJ;clear bJ c0
   go_cut [109] from 109 to 109 (fun v W=>v=.bool (!Y0 x.d c.key)/\W=wc)
   case first=>
    have E:=HP;cases N:(x.d.org == 3) with
    |true=>
     have h2:(x.d.org == 2)=false:=by have:=eq_of_beq N;rw [this];rfl
     rw [N,QK rfl] at E;have fR:=Hd (show (!Y0 x.d c.key)=((c.key.size:Int) != x.d.kln) by rw [E];rfl);clear E;have hq:((c.key.size:Int) != x.d.kln)=false:=by rw [<-fR.o,dX.o];rfl
     go_wp2_with fail
     go_meet
     .exact ⟨by rw [dX.o];rfl,rfl⟩
    |false=>
     have h2:(x.d.org == 2)=true:=by have:=S.o;unfold Xd at this;simp only [JV] at N;simp [N] at this;simp [this]
     rw [N,QX Ac] at E;have e2:decide (1<=L) = !decide (L<1):=by by_cases h:L<1<;>simp [h]<;>omega
     have e3:decide (L<=65536) = !decide (65536<L):=by by_cases h:65536<L<;>simp [h]<;>omega
     rw [e2,e3] at E;generalize eV:decide (L<1)=q2 at E;generalize hq3:decide (65536<L)=q3 at E;rw [dX.o] at E;clear e2 e3;have b:bk=true/\q2=false/\q3=false:=by revert E;cases bk<;>cases q2<;>cases q3<;>simp
     obtain ⟨rfl,rfl,rfl⟩:=b;clear E;go_wp2_with fail
     go_meet
     .exact ⟨by rw [dX.o];rfl,rfl⟩
   case rest=>
    obtain ⟨rfl,rfl⟩:=hcut;have t:=dX.o;rw [t];have r:=Hd (nS (l:=x.ps) HK01 S t);have hxl:=H.sl.len;have hxn:=H.le;have D:=KP (xs:=x.ps) (p:=geK c.key);have U:=fun W (h:Sl prC 2 W W.1.size A4 x.pn Y x.ps)=>Dn c.key A4 x.pn Y x.ps W h Oo
    have jU:Y6 x.ps c.key=true->x.ps.findIdx (geK c.key)<x.ps.length:=vx;generalize x.ps.findIdx (geK c.key)=I at r D U jU;generalize Y6 x.ps c.key=F at r U jU;rw [hxl] at D jU;have bN:=fun W=>GI W A4 x.pn Y I D
    have hst:=fun W=>D8 W A4 x.pn Y I (Lx D HK)
    clear x1 x6 t
    go_upto_if 121 with (go_at_call 89;refine (U _ (Sl.of_own (f:=prC) (fun _=>rfl) Ac HO)).mono ?_;rintro e w5 ⟨rfl,b⟩;have a:=Hd (a.next b);have HO:=Hd (Ub HO b);have c0:=a.c 0 _ rfl;clear b)
    obtain ⟨J,K⟩:=yG (if F=true then I+1 else I)
    have y:J<=x.pn:=by
     rw [<-K];split
     .exact jU (by assumption)
     .exact D
    rw [K] at r;have HJ:=Hd y;have HIJ:Aw (I<=J):=Hd (by rw [<-K];split<;>omega)
    go_cut [13] from 13 to 13 (fun v W=>v=.slice (xE A4 Y J) (x.pn-J) (Y-J)/\W=w5)
    case first=>
     clear c0 hst bN;cases F with
     |true=>
      rw [QK rfl] at K;subst K;have eO:=fun W=>GI W A4 x.pn Y (I+1) y
      have dD:=eO;simp only [JU,Int.natCast_one] at dD;have hw:IntKind.i64.wrap ((I:Int)+1)=(I:Int)+1:=QL _ Oo;clear y;go_wp2_with fail
      go_meet
      .exact ⟨rfl,rfl⟩
     |false=>
      rw [QX Ac] at K;subst K;clear y;go_wp2_with fail
      go_meet
      .exact ⟨rfl,rfl⟩
    obtain ⟨rfl,rfl⟩:=hcut;clear bN jU K y;have fO:=Rd.of_own HO;have HTK:=Rd.take (yo fO (Z0 _) HK) (k:=I) (by rw [Nat.sub_zero];exact D);have C:=yo fO HJ HK;clear fO
    go_upto_region 21 with (at_builtin;go_must (refine Ap2 Vl underlying35 (GY wc 74 2) (HTK.alloc (Le _) _) (fun u hu=>Yx x.ps u (ZY (XA hu))) (by have:=D;omega) (U6 _ _) ?_;intro v6 w6 wP s;have b:=((Bf wc.1.size wc).alloc (Le _) (.cells #[] 74)).grown s (U6 _ _) (U9 (GY wc 74 2) (Le _));have C:=C.below b;have Z:=b.size;have G:=a;have a:=a.next b;have c0:=a.c 0 _ rfl;have c2:=a.c 2 _ rfl;have c3:=a.c 3 _ rfl;clear s))
    rw [QB,YN] at wP;have hxs:(List.take (I*2) (List.drop (0*2) (U7 prC x.ps)))=U7 prC (x.ps.take I):=by rw [JK,VF];exact Zf (f:=prC) (k:=2) (fun _=>rfl) _ _
    have hds:(List.drop (J*2) (U7 prC x.ps))=U7 prC (x.ps.drop J):=Eb (f:=prC) (k:=2) (fun _=>rfl) _ _;rw [hxs] at wP;rw [hds] at C;clear hxs hds hst HTK HO;cases hq:(c.kind == 0) with
    |false=>
     rw [hq] at r;go_wp2_with (at_builtin;go_must (refine Ap2 Vl underlying35 wP C (Yx _) (by have:=D;omega) Z ?_;intro v7 w7 o s;have a:=G.next (b.grown s Z (U9 wP (Le _)));clear s));obtain ⟨A7,k7,rfl,_⟩:=U4 o
     go_meet
     .exact ⟨A7,_,k7,_,rfl,by rw [r.o];rfl,DT.of [] a H dP (by rw [show U7 prC ([]:List Pr)=[] from rfl,UI];exact o) G.s4 Am HIJ Am⟩
    |true=>
     rw [hq] at r;have HM1:Aw (∀ u∈[Value.string c.key,Value.string c.rcd],u.oneCell'=true):=Hd (Yx [⟨c.key,c.rcd⟩])
     go_upto_region 23 with (at_builtin;go_must (refine Ap Vl underlying35 (wP.alloc _) (Blk.new _ _ _) HM1 (by have:=D;have:=H.le;omega) (Lx Z (U6 _ _)) ?_;intro v7 w7 o s;have T:=Hd ((b.alloc Z _).grown s (Lx Z (U6 _ _)) (U9 wP (Le _)));have HDR7:=Hd ((C.alloc Z _).grown s (Lx Z (U6 _ _)) (U9 wP (Le _)));have gM:=Hd o;clear o s))
     go_wp2_with (at_builtin;go_must (refine Ap2 Vl underlying35 gM HDR7 (Yx _) (by have:=D;have:=H.le;omega) T.size ?_;intro v8 w8 o s;have a:=Hd (G.next (T.grown s T.size (U9 gM (Le _))));have wK:=Hd o;clear o s));obtain ⟨A8,k8,rfl,_⟩:=U4 wK
     go_meet
     .exact ⟨A8,_,k8,_,rfl,by rw [r.o];rfl,DT.of [⟨c.key,c.rcd⟩] a H dP wK G.s4 Am HIJ (by simpa using HS.2.2)⟩
  case rest=>
   obtain ⟨d,m,g,l,rfl,he,B⟩:=hcut;have HT:=Hd B;obtain ⟨V,hV⟩:=yG (Vi x.d n l);have HR:Aw (R=if V=true then .inr ⟨x.d,n,l⟩ else .inl 2):=Hd (by rw [<-hV];exact HL l he);have HVZ:Aw (∀ W,CW W ⟨x.d,n,d,m,g,l⟩->Calls prog 48 #[.agg (cnC ⟨x.d,n,d,m,g,l⟩).toArray] W (Ab W (.bool V))):=Hd fun W h=>by rw [<-hV];exact Xo ⟨x.d,n,d,m,g,l⟩ W h
   have f0:decide ((1024:Int)<(m:Int))=false:=QW (by have:=B.le;simp only at this;omega);have n0:=B.dw.n;have HM:=Hd B.dw.mid;clear he B hV;cases V with
   |false=>
    go_wp2_with (first|((with_reducible refine Gl 34 161 ?_);refine Ln 34 w.1.size 0 (dC x.d) HM underlying34 ?_)|((with_reducible show wpList _ _ _ (⟨_,.build 37 #[_,_,_],_,_,_,_⟩::_) _ _);refine U1 Ak 37 _ rfl (cnC ⟨x.d,n,d,m,g,l⟩).toArray Ak ?_)|((with_reducible refine Gt 37 14 ?_);refine Lv 37 wc.1.size (cnC ⟨x.d,n,d,m,g,l⟩).toArray (U3 _ _ _ _ rfl) (H3 _) ?_;refine Wg (Φ:=DT2 x n c ⟨x.d,n,d,m,g,l⟩ wc.1.size w) (HT.box _) (fun Q i=>?_);have j:=Hd i;clear i n0)|((with_reducible refine Gl 37 14 ?_);refine LqH 37 wc.1.size (cnC ⟨x.d,n,d,m,g,l⟩).toArray j.b underlying37 ?_)|((with_reducible refine Gt 37 15 ?_);apply Lv 37 Q.1.size (cnC ⟨x.d,n,d,m,g,l⟩).toArray (U3 _ _ _ _ rfl) (H3 _);refine Wg (Φ:=fun W=>Blk W Q.1.size 37 (cnC ⟨x.d,n,d,m,g,l⟩).toArray/\DT2 x n c ⟨x.d,n,d,m,g,l⟩ wc.1.size w W) (j.box _) (fun W6 i=>?_);have O:=Hd i.1;have j:=Hd i.2;clear i)|((with_reducible apply Gl 37 15);apply LqH 37 Q.1.size (cnC ⟨x.d,n,d,m,g,l⟩).toArray O underlying37)|(go_at_call 48;apply (HVZ _ j.dt.cw).mono;rintro e w7 ⟨rfl,b⟩;have j:=Hd (j.next b);clear b)|((with_reducible show wpList _ _ _ (⟨_,.build 37 #[],_,_,_,_⟩::_) _ _);apply U1 Ak 37 _ rfl zV.toArray Ak)|((with_reducible apply Gt 37 4);apply Lv 37 (w.1.size+2) zV.toArray j.dt.dw.dw.b3 Ik;refine Wg (Φ:=RoP w zV) (RoP.put j.dt.dw _) (fun W2 i=>?_);have P:=Hd i;clear i))
    rw [HR.o];exact Br (v:=.tuple #[.agg zV.toArray,.int .i64 2]) (U2 results53 rfl rfl (Us _ _ _ P.1 rfl)) rfl ⟨rfl,P.2⟩
   |true=>
    go_wp2_with (first|((with_reducible apply Gl 34 161);apply Ln 34 w.1.size 0 (dC x.d) HM underlying34)|((with_reducible show wpList _ _ _ (⟨_,.build 37 #[_,_,_],_,_,_,_⟩::_) _ _);apply U1 Ak 37 _ rfl (cnC ⟨x.d,n,d,m,g,l⟩).toArray Ak)|((with_reducible apply Gt 37 14);apply Lv 37 wc.1.size (cnC ⟨x.d,n,d,m,g,l⟩).toArray (U3 _ _ _ _ rfl) (H3 _);refine Wg (Φ:=DT2 x n c ⟨x.d,n,d,m,g,l⟩ wc.1.size w) (HT.box _) (fun Q i=>?_);have j:=Hd i;clear i n0)|((with_reducible apply Gl 37 14);apply LqH 37 wc.1.size (cnC ⟨x.d,n,d,m,g,l⟩).toArray j.b underlying37)|((with_reducible apply Gt 37 15);apply Lv 37 Q.1.size (cnC ⟨x.d,n,d,m,g,l⟩).toArray (U3 _ _ _ _ rfl) (H3 _);refine Wg (Φ:=fun W=>Blk W Q.1.size 37 (cnC ⟨x.d,n,d,m,g,l⟩).toArray/\DT2 x n c ⟨x.d,n,d,m,g,l⟩ wc.1.size w W) (j.box _) (fun W6 i=>?_);have O:=Hd i.1;have j:=Hd i.2;clear i)|((with_reducible apply Gl 37 15);apply LqH 37 Q.1.size (cnC ⟨x.d,n,d,m,g,l⟩).toArray O underlying37)|(go_at_call 48;apply (HVZ _ j.dt.cw).mono;rintro e w7 ⟨rfl,b⟩;have j:=Hd (j.next b);clear b)|((with_reducible show wpList _ _ _ (⟨_,.build 37 #[],_,_,_,_⟩::_) _ _);apply U1 Ak 37 _ rfl zV.toArray Ak)|((with_reducible apply Gt 37 4);apply Lv 37 (w.1.size+2) (cnC ⟨x.d,n,d,m,g,l⟩).toArray j.dt.dw.dw.b3 (H3 _);refine Wg (Φ:=DtP ⟨x.d,n,d,m,g,l⟩ w) j.dt.put (fun W2 i=>?_);have P:=Hd i;clear i))
    rw [HR.o];exact Br (v:=.tuple #[.agg (cnC ⟨x.d,n,d,m,g,l⟩).toArray,.int .i64 0]) (U2 results53 rfl rfl (Us _ _ _ P.1.1 rfl)) rfl ⟨⟨x.d,n,d,m,g,l⟩,rfl,rfl,P.2.1,.inr P.2.2,P.1.2⟩
end Go.Proofs.YtdleakjejodjjaaGreatDoor
