/- Of the history laws. -/
import Derived.Test.YtdleakjejodjjaaGreatDoorSCF
namespace Go.Proofs.YtdleakjejodjjaaGreatDoor
open Tryz
set_option linter.all false
set_option maxRecDepth 100000
set_option maxHeartbeats 20000000
open Go.RowKit
section
variable {x:Cnt} {c:Chg} {d:DSet} {l:List Pr}
def DO.low {n:Int} {w W W':Wd} (h:DO x n c w W) (a:Below (w.1.size+4) W W'):DO x n c w W':=by
 have e:=a.size;have b:=h.s4;refine ⟨⟨h.dw.b1.below a Oo,h.dw.b2.below a Oo,h.dw.b3.below a Oo,Oo,h.dw.be.trans (a.mono Oo)⟩,h.b4.below a Oo,Oo⟩
def nQ (h:c.kind=2) (a:Xd d=true):Ys d l c=.inl 7:=by
 unfold Ys;rw [a];simp [h]
def nP (h:c.kind=2) (a:Xd d=false):Ys d l c=.inr (l++[⟨J5 d l c.rcd,c.rcd⟩]):=by
 unfold Ys;rw [a];simp [h]
def jf (h:c.kind=3):Ys d l c=.inr []:=by
 unfold Ys;simp [h]
def jd (e:c.kind≠0) (a:c.kind≠1) (b:c.kind≠2) (f:c.kind≠3):Ys d l c=.inr l:=by
 unfold Ys;simp [e,a,b,f]
def yU (h:Vi x.d x.ap x.ps=true):(x.d.org≠0->x.d.itv=128\/x.d.itv=256\/x.d.itv=512)/\∀ p∈x.ps,p.rcd.size<=1000:=by
 have H:=fwd_parts.1 h;refine ⟨fun f=>?_,fun p e=>(CD H.ar p e).2⟩;have a:=H.de;unfold Zq at a;simp only [QU] at a;have b:=a.2;rw [QX f] at b;exact (RW b).1
def oK (x:Cnt) (n:Int) (c:Chg) (w:Wd) (Y:CW w x) (hc:Ij c) (hn:x.ps.length<=1000) (bS:(Vi x.d x.ap x.ps&&Z6 c&&!decide (n<1)&&!decide (1099511627776<n))=true) (h5:(c.id != x.d.id)=false) (h6:decide (n<=x.ap)=false) (dN:c.kind≠0) (eZ:c.kind≠1):
  Calls prog 53 #[.agg (cnC x).toArray,.agg (nbC n c).toArray] w (DoS x (doR (plC x) n c) w):=by
 rw [PL bS h5 h6];obtain ⟨R,Q⟩:=yG (qk x.d n (Ys x.d x.ps c):Int ⊕ PC);rw [Q];have HE:Aw (∀ e,Ys x.d x.ps c=.inl e->R=.inl e):=Hd fun e h=>by rw [<-Q,h];rfl
 have HL:Aw (∀ l,Ys x.d x.ps c=.inr l->R=if Vi x.d n l=true then .inr ⟨x.d,n,l⟩ else .inl 2):=Hd fun l h=>by rw [<-Q,h];rfl
 simp only [QU,XN] at bS;obtain ⟨⟨⟨h1,D⟩,s⟩,h4⟩:=bS;have H0:=Hd (IB x n c w);have H1:=Kc c;have HB:=fun u=>U3 (dw0 x n c w) 50 u (w.1.size+3) (Es x n c w).symm
 have HN:=fun u=>DO.new x n c w u
 have HV:∀ W,Below w.1.size w W->Calls prog 48 #[.agg (cnC x).toArray] W (Ab W (.bool true)):=fun W j=>by rw [<-h1];exact Xo x W (Y.below j)
 have eF:∀ W,Calls prog 78 #[.agg (chC c).toArray] W (Ab W (.bool true)):=fun W=>by rw [<-D];exact Fz c W hc
 have t:=Hd Y;have J:=fun z=>Va z
 clear Y Q;have F:=yU h1;go_in
 go_upto_region 6 with (first|((with_reducible apply Gl 50 16);apply Ln 50 (w.1.size+1) 1 (chC c) (Km H0.o) underlying50)|((with_reducible apply Gt 50 6);apply Lv 50 (w.1.size+3) (chC c).toArray (HB _) H1;refine Wg (Φ:=DO x n c w) (HN _) (fun W1 f=>?_);have i:=Hd f;clear f)|((with_reducible apply Gl 37 2);apply LqH 37 w.1.size (cnC x).toArray i.o.dw.b1 underlying37)|((with_reducible apply Gl 50 6);apply LqH 50 (w.1.size+3) (chC c).toArray i.o.b4 underlying50)|(go_at_call 48;apply (HV _ i.o.dw.be).mono;rintro e w2 ⟨rfl,j⟩;have i:=Hd (i.o.next j);clear j)|(go_at_call 78;refine (eF _).mono ?_;rintro e w2 ⟨rfl,j⟩;have i:=Hd (i.o.next j);have M:=i.o.n;have c0:=i.o.c 0 _ rfl;have c1:=i.o.c 1 _ rfl;have x0:=i.o.x 0 _ rfl;have X:=i.o.x 21 _ rfl;clear j))
 have x1:=i.o.x 1 _ rfl;clear M c0 c1 x0 X s h4 h5 h6
 go_cut [7] from 7 to 7 (fun v W=>v=.bool (Xd x.d)/\W=w2)
 case first=>
  have N:=Hd (show Xd x.d=((x.d.org == 3) || (x.d.org == 2)) from rfl);generalize P:(x.d.org == 3)=q at N;generalize eV:(x.d.org == 2)=q2 at N;cases q with
  |true=>
   go_wp2_with fail
   go_meet
   .exact ⟨by rw [N.o];rfl,rfl⟩
  |false=>
   go_wp2_with fail
   go_meet
   .exact ⟨by rw [N.o];rfl,rfl⟩
 case rest=>
  obtain ⟨rfl,rfl⟩:=hcut;have T:=Hd ((Bf wc.1.size wc).alloc (Le _) (.cells #[] 74));have x22:=(i.o.next T.o).x 22 _ rfl
  go_upto_block 0 with (at_builtin;go_must (refine Ap2 Vl underlying35 (GY wc 74 2) ((t.o.sl.below (i.o.next T.o).dw.be).rd) (Yx _) (by have:=t.o.le;omega) (U6 _ _) ?_;intro v4 w4 r O;have j:=T.o.grown O (U6 _ _) (U9 (GY wc 74 2) (Le _));rw [QB,YN] at r;have r:=X7 r i.o.s4;obtain ⟨A4,k4,rfl,hk,gD⟩:=U4 r;have i:=i.o.next j;have HO:=Hd r;have c0:=i.c 0 _ rfl;clear r O j gD))
  clear x22;generalize I:Xd x.d=DB
  go_cut [8] from 8 to 8 (fun v W=>∃ A m k l,v=.slice A m k/\Ys x.d x.ps c=.inr l/\DT x n c ⟨x.d,n,A,m,k,l⟩ w W)
  case first=>
   have q0:(c.kind == 0)=false:=by simpa using dN
   have q1:(c.kind == 1)=false:=by simpa using eZ
   by_cases D:c.kind=2
   .have q2:(c.kind == 2)=true:=by simpa using D
    cases DB with
    |true=>
     have hR7:=HE.o 7 (nQ D I);have Z:=RoP.put i zV;go_wp2_with (first|((with_reducible show wpList _ _ _ (⟨_,.build 37 #[],_,_,_,_⟩::_) _ _);refine U1 Ak 37 _ rfl zV.toArray Ak ?_)|((with_reducible refine Gt 37 4 ?_);refine Lv 37 (w.1.size+2) zV.toArray i.dw.b3 Ik ?_;refine Wg (Φ:=RoP w zV) Z (fun W2 f=>?_)));rw [hR7];exact Br (v:=.tuple #[.agg zV.toArray,.int .i64 7]) (U2 results53 rfl rfl (Us _ _ _ f.1 rfl)) rfl ⟨rfl,f.2⟩
    |false=>
     have G:=nP (l:=x.ps) D I;have H:∀ W,Below w.1.size w W->Calls prog 91 #[.agg (cnC x).toArray,.string c.rcd] W (StG (J5 x.d x.ps c.rcd) W):=fun W j=>TA x c.rcd W (t.o.below j) F.1 F.2
     generalize J5 x.d x.ps c.rcd=K at G H;go_wp2_with fail;apply Bi 9 2 (S:=fun W=>DO x n c w W/\W.ownsRow (w.1.size+4) 74 2 (.slice A4 x.pn k4) x.pn (U7 prC x.ps)) (R:=Rb) (S':=fun _=>True) ⟨i.next (Bf _ _).drew,Ub HO.o (Bf _ _).drew⟩ (fun _ _ h j=>⟨h.1.next j,Ub h.2 j⟩);apply xA (v:=_);apply xr (fun W h=>h.1.dw.b1) underlying37;apply xA (v:=_);apply xl (.string c.rcd) (fun W h=>h.1.c 3 _ rfl);apply xc (fun W h _=>H W h.1.dw.be);apply xA (v:=_);apply xl (.string c.rcd) (fun W h=>h.1.c 3 _ rfl);apply xA (v:=_);apply xb 74 1 #[.string K,.string c.rcd];intro v1;refine xn fun W L hF=>?_
     obtain ⟨g,rfl,hg⟩:=hF _ (.head _);refine tg 9 Vl underlying35 L.2 (ET hg rfl) (Yx [⟨K,c.rcd⟩]) (by have:=t.o.le;omega) L.1.s4 (fun _ _ _ _=>trivial) (fun v5 w5 r O=>?_);refine tA 10 trivial ?_;refine Ad Ak ?_ _;obtain ⟨a,b,rfl,_⟩:=U4 r;have U:=L.1.low ((Bf (w.1.size+4) W).grown O L.1.s4 (U9 L.2 (Le _)));go_wp2
     go_meet
     .exact ⟨a,_,b,_,rfl,G,U,by rw [V9];exact r,by have:=t.o.sl.len;have:=hn;show x.pn+1<=1001;omega,fun q P=>(QC.1 P).elim (t.o.rz q) fun h=>by rw [QT.1 h];exact hc.2.2⟩
   .have q2:(c.kind == 2)=false:=by simpa using D
    by_cases s:c.kind=3
    .have q3:(c.kind == 3)=true:=by simpa using s
     have iS:=Hd s;clear s;go_wp2_with fail
     go_meet
     .exact ⟨none,0,0,[],rfl,jf iS.o,i,⟨rfl,.inl ⟨rfl,rfl⟩⟩,Z0 _,fun q P=>by cases P⟩
    .have q3:(c.kind == 3)=false:=by simpa using s
     have iS:=Hd s;clear s;go_wp2_with fail
     go_meet
     .exact ⟨A4,x.pn,k4,x.ps,rfl,jd dN eZ D iS.o,i,HO.o,by have:=t.o.sl.len;have:=hn;show x.pn<=1001;omega,t.o.rz⟩
  case rest=>
   obtain ⟨a,m,b,l,rfl,he,p⟩:=hcut;have HT:=Hd p;obtain ⟨V,hV⟩:=yG (Vi x.d n l);have HR:Aw (R=if V=true then .inr ⟨x.d,n,l⟩ else .inl 2):=Hd (by rw [<-hV];exact HL.o l he);have E:Aw (∀ W,CW W ⟨x.d,n,a,m,b,l⟩->Calls prog 48 #[.agg (cnC ⟨x.d,n,a,m,b,l⟩).toArray] W (Ab W (.bool V))):=Hd fun W h=>by rw [<-hV];exact Xo ⟨x.d,n,a,m,b,l⟩ W h
   have f0:decide ((1024:Int)<(m:Int))=false:=QW (by have:=p.le;simp only at this;omega);have M:=p.dw.n;have HM:=Hd p.dw.mid;clear he p hV;cases V with
   |false=>
    go_wp2_with (first|((with_reducible refine Gl 34 161 ?_);refine Ln 34 w.1.size 0 (dC x.d) HM.o underlying34 ?_)|((with_reducible show wpList _ _ _ (⟨_,.build 37 #[_,_,_],_,_,_,_⟩::_) _ _);refine U1 Ak 37 _ rfl (cnC ⟨x.d,n,a,m,b,l⟩).toArray Ak ?_)|((with_reducible refine Gt 37 14 ?_);refine Lv 37 wc.1.size (cnC ⟨x.d,n,a,m,b,l⟩).toArray (U3 _ _ _ _ rfl) (J _) ?_;refine Wg (Φ:=DT2 x n c ⟨x.d,n,a,m,b,l⟩ wc.1.size w) (HT.o.box _) (fun C f=>?_);have o:=Hd f;clear f M)|((with_reducible refine Gl 37 14 ?_);refine LqH 37 wc.1.size (cnC ⟨x.d,n,a,m,b,l⟩).toArray o.o.b underlying37 ?_)|((with_reducible refine Gt 37 15 ?_);refine Lv 37 C.1.size (cnC ⟨x.d,n,a,m,b,l⟩).toArray (U3 _ _ _ _ rfl) (J _) ?_;refine Wg (Φ:=fun W=>Blk W C.1.size 37 (cnC ⟨x.d,n,a,m,b,l⟩).toArray/\DT2 x n c ⟨x.d,n,a,m,b,l⟩ wc.1.size w W) (o.o.box _) (fun W6 f=>?_);have y:=Hd f.1;have o:=Hd f.2;clear f)|((with_reducible refine Gl 37 15 ?_);refine LqH 37 C.1.size (cnC ⟨x.d,n,a,m,b,l⟩).toArray y.o underlying37 ?_)|(go_at_call 48;refine (E.o _ o.o.dt.cw).mono ?_;rintro e w7 ⟨rfl,j⟩;have o:=Hd (o.o.next j);clear j)|((with_reducible show wpList _ _ _ (⟨_,.build 37 #[],_,_,_,_⟩::_) _ _);refine U1 Ak 37 _ rfl zV.toArray Ak ?_)|((with_reducible refine Gt 37 4 ?_);refine Lv 37 (w.1.size+2) zV.toArray o.o.dt.dw.dw.b3 Ik ?_;refine Wg (Φ:=RoP w zV) (RoP.put o.o.dt.dw _) (fun W2 f=>?_);have B:=Hd f;clear f))
    rw [HR.o];exact Br (v:=.tuple #[.agg zV.toArray,.int .i64 2]) (U2 results53 rfl rfl (Us _ _ _ B.o.1 rfl)) rfl ⟨rfl,B.o.2⟩
   |true=>
    go_wp2_with (first|((with_reducible refine Gl 34 161 ?_);refine Ln 34 w.1.size 0 (dC x.d) HM.o underlying34 ?_)|((with_reducible show wpList _ _ _ (⟨_,.build 37 #[_,_,_],_,_,_,_⟩::_) _ _);refine U1 Ak 37 _ rfl (cnC ⟨x.d,n,a,m,b,l⟩).toArray Ak ?_)|((with_reducible refine Gt 37 14 ?_);refine Lv 37 wc.1.size (cnC ⟨x.d,n,a,m,b,l⟩).toArray (U3 _ _ _ _ rfl) (J _) ?_;refine Wg (Φ:=DT2 x n c ⟨x.d,n,a,m,b,l⟩ wc.1.size w) (HT.o.box _) (fun C f=>?_);have o:=Hd f;clear f M)|((with_reducible refine Gl 37 14 ?_);refine LqH 37 wc.1.size (cnC ⟨x.d,n,a,m,b,l⟩).toArray o.o.b underlying37 ?_)|((with_reducible refine Gt 37 15 ?_);refine Lv 37 C.1.size (cnC ⟨x.d,n,a,m,b,l⟩).toArray (U3 _ _ _ _ rfl) (J _) ?_;refine Wg (Φ:=fun W=>Blk W C.1.size 37 (cnC ⟨x.d,n,a,m,b,l⟩).toArray/\DT2 x n c ⟨x.d,n,a,m,b,l⟩ wc.1.size w W) (o.o.box _) (fun W6 f=>?_);have y:=Hd f.1;have o:=Hd f.2;clear f)|((with_reducible refine Gl 37 15 ?_);refine LqH 37 C.1.size (cnC ⟨x.d,n,a,m,b,l⟩).toArray y.o underlying37 ?_)|(go_at_call 48;refine (E.o _ o.o.dt.cw).mono ?_;rintro e w7 ⟨rfl,j⟩;have o:=Hd (o.o.next j);clear j)|((with_reducible show wpList _ _ _ (⟨_,.build 37 #[],_,_,_,_⟩::_) _ _);refine U1 Ak 37 _ rfl zV.toArray Ak ?_)|((with_reducible refine Gt 37 4 ?_);refine Lv 37 (w.1.size+2) (cnC ⟨x.d,n,a,m,b,l⟩).toArray o.o.dt.dw.dw.b3 (J _) ?_;refine Wg (Φ:=DtP ⟨x.d,n,a,m,b,l⟩ w) o.o.dt.put (fun W2 f=>?_);have B:=Hd f;clear f))
    rw [HR.o];exact Br (v:=.tuple #[.agg (cnC ⟨x.d,n,a,m,b,l⟩).toArray,.int .i64 0]) (U2 results53 rfl rfl (Us _ _ _ B.o.1.1 rfl)) rfl ⟨⟨x.d,n,a,m,b,l⟩,rfl,rfl,B.o.2.1,.inr B.o.2.2,B.o.1.2⟩
end
def sr (x:Cnt) (n:Int) (c:Chg) (w:Wd) (d:CW w x) (b:Ij c) (hn:x.ps.length<=1000):
  Calls prog 53 #[.agg (cnC x).toArray,.agg (nbC n c).toArray] w (DoS x (doF (plC x) n c) w):=by
 rw [<-pB (x:=plC x) hn];cases f:(!Vi x.d x.ap x.ps || !Z6 c || decide (n<1) || decide (1099511627776<n) || c.id != x.d.id || decide (n<=x.ap)) with
 |true=>exact sq x n c w d b f
 |false=>
  simp only [JZ] at f;obtain ⟨⟨⟨⟨⟨h1,h2⟩,h3⟩,h4⟩,h5⟩,h6⟩:=f
  have e:(Vi x.d x.ap x.ps&&Z6 c&&!decide (n<1)&&!decide (1099511627776<n))=true:=by
   rw [h3,h4];simpa using And.intro h1 h2
  by_cases a:c.kind=0\/c.kind=1
  .cases hd:Xd x.d with
   |false=>exact ym x n c w d b hn e h5 h6 a (.inl hd)
   |true=>
    cases g:Y0 x.d c.key with
    |false=>exact ym x n c w d b hn e h5 h6 a (.inr g)
    |true=>exact oL x n c w d b hn e h5 h6 a hd g
  .exact oK x n c w d b hn e h5 h6 (fun h=>a (.inl h)) fun h=>a (.inr h)
def NM {α:Type} {p:α->Bool} {l:List α} {j:Nat} {e:α} (h:∀ t,t<j->∀ e,l[t]? =some e->p e=false) (c:l[j]? =some e) (b:p e=false):∀ t,t<j+1->∀ e,l[t]? =some e->p e=false:=fun t d u a=>by
 by_cases q:t=j
 .subst q;rw [c] at a;injection a with a;subst a;exact b
 .exact h t Oo u a
def S4 (id:Int) (l:List Cnt):Int:=if l.findIdx (Y5 id)<l.length then (l.findIdx (Y5 id):Int) else -1
def LC (id:Int) (A:Option Addr) (n c:Nat) (l:List Cnt) (w:Wd) (p:Sl cnC 23 w w.1.size A n c l) (hn:n<=100000):
  Calls prog 49 #[.slice A n c,.int .i64 id] w (Ae w (.int .i64 (S4 id l))):=by
 have u:=Hd p;have m:=Hd p.len;obtain ⟨V,q⟩:=yG (S4 id l);rw [q];have s:=Hd q;clear p q;go_wp2;go_loopw [5] (fun i wr=>∃ j:Nat,j<=n/\i=.int .i64 j/\(∀ t,t<j->∀ e,l[t]? =some e->Y5 id e=false)/\wr=w) (fun i _=>n-(intOf i).toNat)
 .exact ⟨0,Z0 _,rfl,fun t h=>absurd h Oo,rfl⟩
 .obtain ⟨j,hj,rfl,hall,rfl⟩:=hrel;have k:=Hd hall;clear hall;by_cases f:j<n
  .obtain ⟨b,o,x,rfl,hb,hg,c0,_⟩:=qG u.o f;have r:=Hd hg;have B:decide ((j:Int)<(n:Int))=true:=As
   have z:decide (j<n)=true:=As
   have g:=Hd f;clear hb hg f;by_cases a:x.d.id=id
   .have h1:Y5 id x=true:=by simp [Y5,a]
    have y:(x.d.id == id)=true:=by simpa using a
    have d:Aw (V=(j:Int)):=Hd (by rw [<-s.o];unfold S4;rw [Vn k.o r.o h1,QK (by rw [m.o];exact g.o)]);clear a h1;go_wp2;go_ret;exact ⟨by rw [d.o];rfl,rfl⟩
   .have h1:Y5 id x=false:=by simp [Y5,a]
    have y:(x.d.id == id)=false:=by simpa using a
    have v:=Hd (NM k.o r.o h1);clear a h1;go_wp2;go_roundw
    .exact ⟨j+1,g.o,Au,v.o,trivial⟩
    .simp [intOf];have:=g.o;omega
  .obtain rfl:j=n:=Oo
   have d:Aw (V = -1):=Hd (by rw [<-s.o];unfold S4;rw [Vj m.o k.o,QX (by rw [m.o];omega)]);clear hj f;go_wp2;go_ret;exact ⟨by rw [d.o];rfl,rfl⟩
def Lc (l:List Value) (o:Nat):Yh l o []=l:=by
 apply ZV;intro k;rw [Zj,QX As]
def Qp:∀ (p r:List Value) (o:Nat) (a:List Value),Yh (p++r) (p.length+o) a=p++Yh r o a
 | [],r,o,a=>Am
 |c::p,r,o,a=>by
  have h:=Qp p r o a;rw [KE,QS,show p.length+1+o=(p.length+o)+1 from Oo];show c::Yh (p++r) (p.length+o) a=_;rw [h];rfl
def Qo:∀ (p r a:List Value),a.length<=p.length->Yh (p++r) 0 a=Yh p 0 a++r
 |p,r,[],_=>by rw [Lc,Lc]
 | [],r,v::a,h=>by simp at h
 |c::p,r,v::a,h=>by
  have b:=Qo p r a (by simpa using h);show v::Yh (p++r) 0 a=_;rw [b];rfl
def Nb {α:Type} {f:α->List Value} {k:Nat} (b:∀ x,(f x).length=k) (a:List Value) (c:a.length<=k) (z:α):∀ (l:List α) (i:Nat) (y:α),l[i]? =some y->Yh (f y) 0 a=f z->Yh (U7 f l) (i*k) a=U7 f (l.set i z)
 | [],_,_,h,_=>by simp at h
 |x::l,0,y,h,hz=>by
  have e:x=y:=by simpa using h
  subst e;rw [Sz,Vg,Vg,JK,Qo _ _ _ (by rw [b];exact c),hz]
 |x::l,i+1,y,h,hz=>by
  have d:=Nb b a c z l i y (by simpa using h) hz;rw [Sw,Vg,Vg,show (i+1)*k=(f x).length+i*k from by rw [b,ZH,UZ],Qp,d]
def Lj:∀ (a:List Value) (cs:Array Value) (o:Nat),(setL cs o a).toList=Yh cs.toList o a
 | [],cs,o=>by rw [Lc];rfl
 |v::a,cs,o=>by
  show (setL (cs.setIfInBounds o v) (o+1) a).toList=_;rw [Lj a _ (o+1),VP];apply ZV;intro k;rw [Zj,Zj,IZ,KT,QS];by_cases c:o=k
  .subst c;by_cases b:o<cs.toList.length
   .rw [QX Oo,QK rfl,QK b,QK ⟨Oo,Oo,b⟩,VG];rfl
   .rw [QX Oo,QK rfl,QX b,QX Oo,WM Oo]
  .rw [QX c];by_cases b:o+1<=k/\k<o+1+a.length/\k<cs.toList.length
   .rw [QK b,QK Oo,show k-o=(k-(o+1))+1 from Oo,Gn]
   .rw [QX b,QX Oo]
def CY (l:List Value) (o m:Nat) (a:List Value) (h:o+a.length<=m):(Yh l o a).take m=Yh (l.take m) o a:=by
 apply ZV;intro k;rw [YV,Zj,Zj,WX,YV];by_cases b:k<m
 .rw [QK b,QK b];by_cases c:o<=k/\k<o+a.length/\k<l.length
  .rw [QK c,QK Oo]
  .rw [QX c,QX Oo]
 .rw [QX b,QX b,QX Oo]
def Sh {g:Nat}:∀ (c:List Value) (o:Nat) (w:Wd),w.grownBy (w.setCells g o c) (some g)
 | [],_,w=>⟨rfl,rfl,rfl,Le _,fun _ _ _=>rfl⟩
 |v::r,o,w=>by
  have h:=Sh (g:=g) r (o+1) (w.setCell ⟨g,o,none⟩ v);have hz:(w.setCell ⟨g,o,none⟩ v).1.size=w.1.size:=by simp [World.setCell]
  exact ⟨h.os,h.tape,h.output,by rw [<-hz];exact h.size,fun k b a=>(h.block k (by rw [hz];exact b) a).trans (KW w ⟨g,o,none⟩ v k fun e=>a (by rw [e]))⟩
def Nq {w:Wd} {base k g n b:Nat} {e:TypeId} {xs:List Value} (h:w.ownsRow base e k (.slice (Ah g 0) n b) n xs):∃ a:Array Value,base<=g/\Blk w g e a/\n<=b/\b<=maxLen/\a.size=b*k/\a.toList.take (n*k)=xs:=by
 rcases h.2 with ⟨c,_⟩|⟨o,d,a,c,i,j,hn,m,l,f⟩
 .cases c
 .injection c with e1 _ e3
  injection e1 with e1
  injection e1 with e1
  subst e1;subst e3;exact ⟨a,i,j,hn,m,l,f⟩
def xu {α:Type} {f:α->List Value} {w:Wd} {base k g n a i:Nat} {e:TypeId} {l:List α} {y z:α} {b:List Value} (d:∀ x,(f x).length=k) (h:w.ownsRow base e k (.slice (Ah g 0) n a) n (U7 f l)) (hn:l.length=n) (hy:l[i]? =some y) (t:b.length<=k) (hz:Yh (f y) 0 b=f z):
  (w.setCells g (i*k) b).ownsRow base e k (.slice (Ah g 0) n a) n (U7 f (l.set i z)):=by
 obtain ⟨c,m,o,u,s,p,j⟩:=Nq h;have r:i<n:=by rw [<-hn];exact (QZ.1 hy).1
 have q:i*k+k<=n*k:=by rw [<-ZH];exact JQ _ r
 refine ⟨by rw [Vm d,KT,hn],.inr ⟨g,a,_,rfl,m,Ke b (i*k) w c o,u,s,?_,?_⟩⟩
 .have h1:=XK List.length (Lj b c (i*k));rw [Fm] at h1;simpa [p] using h1
 .rw [Lj,CY _ _ _ _ Oo,j,Nb d b t z l i y hy hz]
def N7 {w:Wd} {base k g n a i:Nat} {e:TypeId} {xs:List Value} (h:w.ownsRow base e k (.slice (Ah g 0) n a) n xs) (f:i<n) (m:Nat) (q:m<=k):w.there g (i*k) m:=by
 obtain ⟨d,o,b,l,_,p,_⟩:=Nq h;have c:i*k+k<=a*k:=by rw [<-ZH];exact JQ _ (WK f l)
 intro j r;refine ⟨?_,b.free _⟩;rw [b.cell,WI Oo];rfl
def SG {w w':Wd} {row:Option Nat} {y:Cnt} (h:CW w y) (f:w.grownBy w' row) (i:0<y.pn->∀ a,y.pA=some a->some a.block≠row):CW w' y:=by
 refine ⟨⟨h.sl.1,h.sl.2.1,h.sl.2.2.1,fun c=>?_⟩,h.le,h.nil,h.rz⟩;obtain ⟨b,o,e,d,k⟩:=h.sl.2.2.2 c;refine ⟨b,o,e,WK d f.size,fun j u g=>?_⟩;rw [WO (a:=⟨b,o+j,none⟩) (f.block b d (i c _ e))];exact k j u g
def ul {w:Wd} {y:Cnt} (h:CW w y) (d:0<y.pn) (a:Addr) (c:y.pA=some a):a.block<w.1.size:=by
 obtain ⟨b,o,e,f,_⟩:=h.sl.2.2.2 d;rw [c] at e;injection e with e
 subst e;exact f
structure NW (base:Nat) (W:Wd) (v:Value) (now:List Cnt):Prop where
 own:W.ownsRow base 37 23 v now.length (U7 cnC now)
 ps:∀ y∈now,CW W y/\(0<y.pn->∀ a,y.pA=some a->some a.block≠v.ownBlock)
def NW.below {base:Nat} {W W':Wd} {v:Value} {a:List Cnt} (h:NW base W v a) (b:Below W.1.size W W'):NW base W' v a:=⟨Ub h.own b,fun y hy=>⟨(h.ps y hy).1.below b,(h.ps y hy).2⟩⟩
def NW.fresh {base:Nat} {W W':Wd} {v:Value} {n:Nat} {b:List Cnt} (hw:∀ y∈b,CW W y) (h:Below W.1.size W W') (j:base<=W.1.size) (c:W'.ownsRow W.1.size 37 23 v n (U7 cnC b)):NW base W' v b:=by
 have hn:n=b.length:=by
  have d:=c.1;rw [Vm (f:=cnC) (k:=23) (fun _=>rfl)] at d;omega
 subst hn;refine ⟨X7 c j,fun y hy=>⟨(hw y hy).below h,fun g a i e=>?_⟩⟩;have d:=ul (hw y hy) g a i;have l:=U9 c (Le _) a.block e.symm;omega
def NW.sl {base:Nat} {W:Wd} {A:Option Addr} {c n:Nat} {a:List Cnt} (h:NW base W (.slice A n c) a):Sl cnC 23 W W.1.size A n c a/\n=a.length:=by
 obtain ⟨A',c',e,_⟩:=U4 h.own;injection e with e1 e2 e3
 subst e2;exact ⟨Sl.of_own (f:=cnC) (k:=23) (fun _=>rfl) Ac h.own,rfl⟩
def NW.set {base g c i:Nat} {W:Wd} {b:List Cnt} {y z:Cnt} {l:List Value} (h:NW base W (.slice (Ah g 0) b.length c) b) (hy:b[i]? =some y) (r:l.length<=23) (hz:Yh (cnC y) 0 l=cnC z) (hw:CW W z) (p:0<z.pn->∀ a,z.pA=some a->a.block≠g):
  NW base (W.setCells g (i*23) l) (.slice (Ah g 0) b.length c) (b.set i z):=by
 refine ⟨by rw [KT];exact xu (f:=cnC) (fun _=>rfl) h.own rfl hy r hz,fun q m=>?_⟩;have j:∀ q:Cnt,CW W q->(0<q.pn->∀ a,q.pA=some a->a.block≠g)->CW (W.setCells g (i*23) l) q/\(0<q.pn->∀ a,q.pA=some a->some a.block≠(Value.slice (Ah g 0) b.length c).ownBlock):=fun q o n=>⟨SG o (Sh _ _ _) fun d a k e=>n d a k (by injection e),fun d a k e=>n d a k (by injection e)⟩
 rcases ZD m with m|rfl
 .exact j q (h.ps q m).1 fun d a k e=>(h.ps q m).2 d a k (by rw [e];rfl)
 .exact j _ hw p
def Gu (a:Option Addr) (b k:Nat):Option Addr:=if b=k then a else a.map (·.add (k*23))
def BL {w:Wd} {B n k a:Nat} {A:Option Addr} {xs:List Value} (h:Rd w B 23 A n xs) (b:k<=n) (c:n<=a):Rd w B 23 (Gu A a k) (n-k) (xs.drop (k*23)):=Rd.drop h b c
def J0 (W:Wd) (a:Option Addr) (j b k:Nat) (c:k<=j):(Instr.slice 22 (.slice a j b) (some (.int .i64 (k:Int))) none none).run prog W=.ok (.slice (Gu a b k) (j-k) (b-k)) W:=by
 have h:=run_slice_l (P:=prog) (w:=W) 22 a j b underlying22 .i64 (k:Int) Oo Oo;rw [h,show prog.elem 22=37 from Ak,sizeOf37 W];simp [Result.andThen,sliced,Gu]
def Gi (W:Wd) (a:Option Addr) (j b k:Nat) (c:k<=b):(Instr.slice 22 (.slice a j b) none (some (.int .i64 (k:Int))) none).run prog W=.ok (.slice (Gu a b 0) k b) W:=by
 have h:=run_slice_h (P:=prog) (w:=W) 22 a j b underlying22 .i64 (k:Int) Oo Oo;rw [h,show prog.elem 22=37 from Ak,sizeOf37 W];simp [Result.andThen,sliced,Gu]
def NW.pre {base n c k:Nat} {W:Wd} {A:Option Addr} {a:List Cnt} (h:NW base W (.slice A n c) a) (e:k<=n) (d:n<=c):Rd W W.1.size 23 (Gu A c 0) k (U7 cnC (a.take k)):=by
 have b:=(BL h.sl.1.rd (Z0 n) d).take (k:=k) Oo;rw [JK,VF,Zf (f:=cnC) (k:=23) (fun _=>rfl)] at b;exact b
def NW.post {base n c k:Nat} {W:Wd} {A:Option Addr} {a:List Cnt} (h:NW base W (.slice A n c) a) (d:k<=n) (e:n<=c):Rd W W.1.size 23 (Gu A c k) (n-k) (U7 cnC (a.drop k)):=by
 have b:=BL h.sl.1.rd d e;rw [Eb (f:=cnC) (k:=23) (fun _=>rfl)] at b;exact b
section
variable {P:Program} {md:Region.Mode} {ops:Array Oper} {Q:Exit->Act->Wd->Prop} {S:Wd->Prop} {w:Wd} {oi:Oper} {fuel:Nat} {listed:Array Bool} {a:Act} {x:Operand}
def trm {g p:Nat} {d:TypeDesc} (i:Nat) (ty:TypeId) (cs:List Value) {b:Act}
  (f:∀ w,S w->w.rangeAt g p cs) (t:S w) (n:P.underlying ty=some d)
  (h:wpAnyH P md ops Q S fuel (listed.setIfInBounds i true) b w)
  (q:ops[i]? =some oi:=by simp only [Ga,Gz,Gn];rfl)
  (l:oi.op=.load ty x:=by rfl) (o:Region.noSelect ops=true:=by kernel_rfl) (k:Region.free md ops listed i=true:=by kernel_rfl) (m:(Region.ready md ops listed).contains i=true:=by kernel_rfl)
  (r:a.eval x=Ag g p:=by rfl) (j:∀ c a w,Q (.panic c) (a.put oi.dst (.agg cs.toArray)) w->Q (.panic c) a w:=by exact fun _ _ _ h=>h)
  (e:d.isRow=true:=by rfl) (hn:(P.info? ty).map (·.size)=some cs.length:=by kernel_rfl) (hw:Region.wanted oi (yielded ops a.tmps)=true:=by rfl)
  (s:a.put oi.dst (.agg cs.toArray)=b:=by conv=>lhs;simp only [Act.put,Sv,Sz,Sw]):wpAnyH P md ops Q S (fuel+1) listed a w:=by
 subst s;exact JF q o k m j (WT hw ty x l g p r cs d f n e hn) t h
def t3 (i j k:Nat) (e t:TypeId) (cs:List Value) {l q:Oper} {z:Value} {size n m c:Nat} {A:Option Addr} {news:List Value} {s:Operand} {g:Value->Value->Value->Act}
  (hf:(P.info? e).map (fun i=>(i.zero,i.size,i.bytes))=some (some z,size,n)) (ht:P.underlying t=some (.slice e)) (hr:Rd w w.1.size size A m news) (hm:m<=100000) (B:∀ W,Below w.1.size w W->S W)
  (h:∀ v0 v1 g2 W,Below w.1.size w W->W.ownsRow w.1.size e size v1 m news->Blk W g2 e cs.toArray->wpAnyH P md ops Q S fuel (((listed.setIfInBounds i true).setIfInBounds k true).setIfInBounds j true) (g v0 v1 (.slice (Ah g2 0) 1 1)) W)
  (hi:ops[i]? =some oi:=by simp only [Ga,Gz,Gn];rfl)
  (O:ops[j]? =some l:=by simp only [Ga,Gz,Gn];rfl)
  (V:ops[k]? =some q:=by simp only [Ga,Gz,Gn];rfl)
  (r0:Region.ready md ops listed=[i,j]:=by kernel_rfl) (r1:Region.ready md ops (listed.setIfInBounds i true)=[k,j]:=by kernel_rfl) (r2:Region.ready md ops (listed.setIfInBounds j true)=[i]:=by kernel_rfl)
  (r3:Region.ready md ops ((listed.setIfInBounds i true).setIfInBounds k true)=[j]:=by kernel_rfl) (r4:Region.ready md ops ((listed.setIfInBounds i true).setIfInBounds j true)=[k]:=by kernel_rfl) (r5:Region.ready md ops ((listed.setIfInBounds j true).setIfInBounds i true)=[k]:=by kernel_rfl)
  (ei:∀ (a:Act) w,(execOp a.eval oi).run P w=.ok (.value (.slice (Ah w.1.size 0) 0 0)) (w.alloc (.cells #[] e)):=by intro F w';go_simp)
  (ej0:∀ w,(execOp a.eval l).run P w=.ok (.value (.slice (Ah w.1.size 0) 1 1)) (w.alloc (.cells cs.toArray e)):=by intro w';go_simp)
  (ej1:∀ x w,(execOp (a.put oi.dst x).eval l).run P w=.ok (.value (.slice (Ah w.1.size 0) 1 1)) (w.alloc (.cells cs.toArray e)):=by intro x' w';go_simp)
  (ej2:∀ x v w,(execOp ((a.put oi.dst x).put q.dst v).eval l).run P w=.ok (.value (.slice (Ah w.1.size 0) 1 1)) (w.alloc (.cells cs.toArray e)):=by intro x' p w';go_simp)
  (ho:q.op=.call { callee:=.builtin .append,args:=#[s,x],argTypes:=#[t,t] }:=by rfl)
  (Y:∀ u,(a.put oi.dst u).eval s=u:=by intro u;rfl) (Z:∀ u,(a.put oi.dst u).eval x=.slice A m c:=by intro u;rfl)
  (J:∀ u y,((a.put oi.dst u).put l.dst y).eval s=u:=by intro u y;rfl) (M:∀ u y,((a.put oi.dst u).put l.dst y).eval x=.slice A m c:=by intro u y;rfl)
  (R:∀ u y,((a.put l.dst y).put oi.dst u).eval s=u:=by intro u y;rfl) (ex2:∀ u y,((a.put l.dst y).put oi.dst u).eval x=.slice A m c:=by intro u y;rfl)
  (a0:∀ u v y,((a.put oi.dst u).put q.dst v).put l.dst y=g u v y:=by intro u v y;conv=>lhs;simp only [Act.put,Sv,Sz,Sw])
  (a1:∀ u v y,((a.put oi.dst u).put l.dst y).put q.dst v=g u v y:=by intro u v y;conv=>lhs;simp only [Act.put,Sv,Sz,Sw])
  (a2:∀ u v y,((a.put l.dst y).put oi.dst u).put q.dst v=g u v y:=by intro u v y;conv=>lhs;simp only [Act.put,Sv,Sz,Sw])
  (wi:∀ a:Act,Region.wanted oi (yielded ops a.tmps)=true:=by intro _;rfl) (T:∀ a:Act,Region.wanted l (yielded ops a.tmps)=true:=by intro _;rfl) (X:∀ a:Act,Region.wanted q (yielded ops a.tmps)=true:=by intro _;rfl)
  (N:i≠j:=by decide) (njk:k≠j:=by decide) (fL:z.cells.size=size:=by rfl) (aM:0<size:=by decide) (H:n<=1000:=by decide):wpAnyH P md ops Q S (fuel+1+1+1) listed a w:=by
 have E:∀ W o,Below w.1.size w W->Below w.1.size w (W.alloc o):=fun W o H=>H.alloc H.size o
 have L:∀ (F:Act) (W:Wd) (b:Nat) (U:Act->Wd->Prop),Below w.1.size w W->w.1.size<=b->Blk W b e #[]->F.eval s=.slice (Ah b 0) 0 0->F.eval x=.slice A m c->(∀ p w',w'.ownsRow w.1.size e size p m news->Below W.1.size W w'->U (F.put q.dst p) w')->Oper.wp P q F W U Q:=by
  intro F W b U hW dO eM h1 h2 d;obtain ⟨p,w',aN,f,D⟩:=Qy (ty:=q.type) hf ht fL aM H eM dO (hr.below hW) hm;unfold Oper.wp execOp;simp only [ho,resolve,invoke,builtin,ZG,KL,XB,KV,WS,KN,h1,h2];rw [aN];exact d p w' f D
 have L1:((listed.setIfInBounds i true).setIfInBounds j true).setIfInBounds k true=((listed.setIfInBounds i true).setIfInBounds k true).setIfInBounds j true:=Array.setIfInBounds_comm _ _ njk.symm;have L2:((listed.setIfInBounds j true).setIfInBounds i true).setIfInBounds k true=((listed.setIfInBounds i true).setIfInBounds k true).setIfInBounds j true:=by rw [Array.setIfInBounds_comm _ _ N.symm,L1]
 refine Ar r0 Am (XX hi (fun K d=>?_) (XX O (fun K d=>?_) An))
 .rw [QK (wi _)];unfold Oper.wp;rw [ei];have r:=E w (.cells #[] e) (Bf _ _);have I:=Blk.new w e #[];refine d.out _ _ (B _ r) fun _=>Ar r1 Am (XX V (fun K d=>?_) (XX O (fun K d=>?_) An))
  .rw [QK (X _)];refine L _ _ w.1.size K r (Le _) I (Y _) (Z _) fun p w' G C=>?_
   have f:Below w.1.size w w':=r.trans (C.mono r.size);refine d.out _ _ (B _ f) fun _=>Ar r3 Am (XX O (fun K d=>?_) An)
   rw [QK (T _)];unfold Oper.wp;rw [ej2];refine d.out _ _ (B _ (E _ _ f)) fun _=>?_
   rw [a0];exact h _ p w'.1.size _ (E _ _ f) (G.alloc _) (Blk.new _ _ _)
  .rw [QK (T _)];unfold Oper.wp;rw [ej1];have f:=E _ (.cells cs.toArray e) r;refine d.out _ _ (B _ f) fun _=>Ar r4 Am (XX V (fun K d=>?_) An)
   rw [QK (X _)];refine L _ _ w.1.size K f (Le _) (I.alloc _) (J _ _) (M _ _) fun p w' G C=>?_
   have D:Below w.1.size w w':=f.trans (C.mono f.size);refine d.out _ _ (B _ D) fun _=>?_
   rw [a1,L1];exact h _ p _ _ D G ((Blk.new _ e cs.toArray).below C (Blk.new _ e cs.toArray).lt)
 .rw [QK (T _)];unfold Oper.wp;rw [ej0];have r:=E w (.cells cs.toArray e) (Bf _ _);refine d.out _ _ (B _ r) fun _=>Ar r2 Am (XX hi (fun K d=>?_) An)
  rw [QK (wi _)];unfold Oper.wp;rw [ei];have f:=E _ (.cells #[] e) r;refine d.out _ _ (B _ f) fun _=>Ar r5 Am (XX V (fun K d=>?_) An)
  rw [QK (X _)];have I:=Blk.new (w.alloc (.cells cs.toArray e)) e #[];refine L _ _ _ K f (Lx (Le _) r.size) I (R _ _) (ex2 _ _) fun p w' G C=>?_
  have D:Below w.1.size w w':=f.trans (C.mono f.size);refine d.out _ _ (B _ D) fun _=>?_
  rw [a2,L2];exact h _ p _ _ D G (((Blk.new w e cs.toArray).alloc _).below C ((Blk.new w e cs.toArray).alloc _).lt)
end
end Go.Proofs.YtdleakjejodjjaaGreatDoor
