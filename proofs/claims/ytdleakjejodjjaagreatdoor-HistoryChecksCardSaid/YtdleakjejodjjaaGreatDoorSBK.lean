/- Of the history laws. -/
import Derived.Test.YtdleakjejodjjaaGreatDoorSBE
namespace Go.Proofs.YtdleakjejodjjaaGreatDoor
open Tryz
set_option linter.defProp false
set_option linter.unusedVariables false
set_option linter.unusedSimpArgs false
set_option maxRecDepth 100000
set_option maxHeartbeats 20000000
open Go.RowKit
def pK {G:Prop} (h:G:=by
  go_wp2;go_ret
  first
   |exact ⟨by rw [<-hz];rfl,rfl⟩
   |exact ⟨rfl,rfl⟩):G:=h
def Re (n:Int) (w:Wd):Calls prog 171 #[.int .i64 n] w (Ae w (.bool (Xf n))):=by
 obtain ⟨z,hz⟩:=yG (Xf n);rw [hz];unfold Xf at hz;by_cases b:n=128
 .subst b;exact pK
 by_cases a:n=256
 .subst a;exact pK
 have c:(n == 128)=false:=by simpa using b
 have e:(n == 256)=false:=by simpa using a
 have d:(n == 512)=z:=by rw [<-hz];simp [b,a];exact XW.2 Am
 clear b a hz;exact pK
def DC (A:Option Addr) (n c:Nat) (l:List Bz) (w:Wd) (r:Sl Ug 1 w w.1.size A n c l) (hn:n<=2000):
  Calls prog 172 #[.slice A n c] w (Ae w (.bool (MH l))):=by
 have x:=r.len;obtain ⟨R,m⟩:=yH (MH l);rw [m.o];go_wp2;go_loop [3] (fun i=>∃ j:Nat,j<=n/\i=.int .i64 j/\∀ t,t<j->∀ e,l[t]? =some e->Fc e=true) (fun i=>n-(intOf i).toNat)
 .exact ⟨0,Z0 _,rfl,fun t h=>absurd h Oo⟩
 .obtain ⟨j,hj,rfl,hall⟩:=hrel;by_cases p:j<n
  .obtain ⟨b,o,s,rfl,hb,hg,aB⟩:=Sl.cell (f:=Ug) (k:=1) (fun _=>rfl) r p;have y:=aB 0 _ rfl;simp only [QF,WY] at y
   have q:Fc s=false->R=false:=fun h=>by
    rw [<-m.o];unfold MH;rw [ZM];exact ⟨s,QJ hg,by simpa using h⟩
   have D:=QQ p;have C:decide ((j:Int)<(n:Int))=true:=QQ Oo;clear hb aB;by_cases B:s.size<1
   .have a:=q (by unfold Fc;simp;omega);have d:=Hd a;have v:decide ((s.size:Int)<1)=true:=QQ Oo;clear a;go_wp2;go_ret;exact ⟨by rw [d.o];rfl,rfl⟩
   .have v:decide ((s.size:Int)<1)=false:=QW Oo;by_cases z:200<s.size
    .have a:=q (by unfold Fc;simp;omega);have d:=Hd a;have u:decide ((200:Int)<(s.size:Int))=true:=QQ Oo;clear a;go_wp2;go_ret;exact ⟨by rw [d.o];rfl,rfl⟩
    .have bP:Fc s=true:=by unfold Fc;simp;omega
     have u:=QW Oo;go_wp2
     go_round
     .refine ⟨j+1,Oo,Au,fun t g e he=>?_⟩;rcases VT.1 g with h|h
      .exact hall t h e he
      .subst h;rw [hg] at he;injection he with he
       subst he;exact bP
     .exact At
  .obtain rfl:j=n:=Oo
   have a:R=true:=by
    rw [<-m.o];unfold MH;rw [WE];intro e he;obtain ⟨t,g,rfl⟩:=XG he;exact hall t (by rw [<-x];exact g) _ (QV g)
   have d:=Hd a;clear a;go_wp2;go_ret;exact ⟨by rw [d.o];rfl,rfl⟩
def mZ {G:Prop} (h:G:=by
  go_wp2;go_ret;exact ⟨by rw [HRK,Nat.sub_add_cancel eZ];rfl,(((Far.refl [] w).drewN _).drewN _).below Am (Le _)⟩):G:=h
def zY (j:Nat) (A:Option Addr) (n c:Nat) (l:List Bz) (w:Wd) (a:Sl Ug 1 w w.1.size A n c l) (hn:n<=2000) {p:Bz} {r:List Bz} (u:l.drop j=p::r):
  Calls prog 290 #[.slice A n c,.int .i64 j] w (Ab w (.int .i64 ((Xv p.size r+1:Nat):Int))):=by
 have R:=a.len
 have g:l[j]? =some p:=by
  have h:=YF (xs:=l) (i:=j) (j:=0);rw [u] at h;exact h.symm
 have y:j<n:=by
  rw [<-a.len];exact (QZ.1 g).1
 have H:∀ t,r[t]? =l[j+1+t]?:=fun t=>by
  have h:=YF (xs:=l) (i:=j) (j:=t+1);rw [u] at h;rw [<- (show j+(t+1)=j+1+t from Oo),<-h];rfl
 have J:r.length+j+1=n:=by
  have h:=XK List.length u;rw [XD,a.len] at h;simp only [QS] at h;omega
 obtain ⟨b,o,m,rfl,E,q,D⟩:=Sl.cell (f:=Ug) (k:=1) (fun _=>rfl) a y;have L:=D 0 _ rfl;simp only [QF,WY] at L;obtain rfl:m=p:=by rw [g] at q;exact (WQ q).symm
 clear E q D g;go_wp2;go_loopw [5] (fun v wy=>∃ d k:Nat,wy=w.drewN d/\v=.int .i64 k/\1<=k/\j+k<=n/\Aw (∀ t,t+1<k->∀ s,r[t]? =some s->s.size=m.size)) (fun v _=>n-(intOf v).toNat)
 .exact ⟨0,1,rfl,rfl,Le _,y,Hd fun t F=>absurd F Oo⟩
 .obtain ⟨d,k,rfl,rfl,eZ,hkn,HK⟩:=hrel;have hw:IntKind.i64.wrap ((j:Int)+(k:Int))=(j:Int)+(k:Int):=QL _ Oo;by_cases z:j+k<n
  .obtain ⟨b2,o2,s,gU,aH,hgk,aB⟩:=Sl.cell (f:=Ug) (k:=1) (fun _=>rfl) a z;injection gU with gU
   injection gU with hA3 hA4 _
   subst hA3;subst hA4;have I:=aB 0 _ rfl;simp only [QF,WY] at I;have e:r[k-1]? =some s:=by rw [H,<-hgk];congr 1;omega
   have K:decide ((j:Int)+(k:Int)<(n:Int))=true:=As
   have M:=QQ z;have T:=QQ y;have S:(0:Int)<=(j:Int)+(k:Int):=Oo
   have P:(j:Int)+(k:Int)<(n:Int):=Oo
   have N:(0:Int)<=(j:Int):=Oo
   have Q:(j:Int)<(n:Int):=Oo
   have O:((j:Int)+(k:Int)).toNat=j+k:=Oo
   clear aH hgk aB;by_cases he:s.size=m.size
   .have x3:((s.size:Int) == (m.size:Int))=true:=by simp [he]
    go_wp2_with fail
    go_quiet (fail)
    go_wp2;go_roundw
    .refine ⟨d+nq,k+1,rfl,Au,Oo,Oo,Hd fun t B x C=>?_⟩;by_cases h:t+1=k
     .have:=e;rw [<-h,VL,C] at this;rw [WQ this];exact he
     .exact HK t Oo x C
    .exact At
   .have x3:((s.size:Int) == (m.size:Int))=false:=As
    go_wp2_with fail
    go_quiet (fail)
    go_wp2_with fail;have HRK:=Fv r (k-1) Oo (fun t B=>HK t Oo) (fun s a=>by rw [e] at a;rw [<-WQ a];exact he);exact mZ
  .have K:decide ((j:Int)+(k:Int)<(n:Int))=false:=As
   have HRK:=Fv r (k-1) Oo (fun t B=>HK t Oo) (fun s a=>by have:=(QZ.1 a).1;omega);go_wp2_with fail
   go_quiet (fail)
   go_wp2_with fail;exact mZ
def fsF:Nat->List Bz->Nat
 |0,_=>0
 |_,[]=>0
 |f+1,s::r=>3*min (Xv s.size r+1) 2+fsF f (r.drop (Xv s.size r))
def Ww:∀ (f:Nat) (l:List Bz),fsF f l<=6*l.length
 |0,_=>Z0 _
 |_+1,[]=>Z0 _
 |f+1,s::r=>by
  have h:=Ww f (r.drop (Xv s.size r));have a:=Hg s.size r;rw [XD] at h;unfold fsF;rw [QS];omega
def zsF (l:List Bz):Int:=(l.map fun s=>(s.size:Int)).sum
def Q5 (z:Nat):∀ l:List Bz,zsF l=((Xv z l:Nat):Int)*(z:Int)+zsF (l.drop (Xv z l))
 | []=>by simp [Xv,zsF]
 |s::r=>by
  unfold Xv;split
  .next h=>
   have a:=Q5 z r;rw [UL];have b:zsF (s::r)=(s.size:Int)+zsF r:=by simp [zsF]
   rw [b,a,h,JU,JN];omega
  .simp
def BE:∀ (f:Nat) (l:List Bz),l.length<=f->Kt f l=(fsF f l:Int)+zsF l
 |0,[],_=>rfl
 |_+1,[],_=>rfl
 |f+1,s::r,h=>by
  have d:=Hg s.size r;have c:=BE f (r.drop (Xv s.size r)) (by rw [XD];simp at h;omega);have a:=Q5 s.size r;have b:zsF (s::r)=(s.size:Int)+zsF r:=by simp [zsF]
  unfold Kt fsF;rw [c,b,a,JU,JN];omega
def zi:∀ (l:List Bz),(∀ s∈l,s.size<=200)->0<=zsF l/\zsF l<=200*(l.length:Int)
 | [],_=>by simp [zsF]
 |s::r,h=>by
  have b:=zi r fun x a=>h x (QN _ a)
  have d:=h s QP;have c:zsF (s::r)=(s.size:Int)+zsF r:=by simp [zsF]
  rw [QS];omega
def Ow (c n:Int):Bz:=strOfNums [IntKind.u8.wrap c,n % 256,n / 256]
def Yp (c n:Int):(Ow c n).size=3:=by unfold Ow;rw [WD];rfl
def Ku (c n:Int) (w:Wd) (e:0<=n) (b:n<=2000):Calls prog 291 #[.int .i64 c,.int .i64 n] w (StG (Ow c n) w):=by
 have d:=fun x y z=>Y8 (Aa w #[.int .u8 x,.int .u8 y,.int .u8 z] 5) w.1.size 3 3 5 [x,y,z] (Blk.new w _ _) rfl
 unfold Ow;have a:IntKind.u8.wrap (n % 256)=n % 256:=by rw [ZX];omega
 have f:IntKind.u8.wrap (n / 256 % 256)=n / 256:=by rw [ZX];omega
 go_wp2;go_ret;exact ⟨rfl,Aj⟩
def P6 (A:Option Addr) (n c:Nat) (l:List Bz) (w:Wd) (E:Sl Ug 1 w w.1.size A n c l) (hz:∀ s∈l,s.size<=200) (hn:n<=2000):
  Calls prog 222 #[.slice A n c] w fun e w'=>∃ s:Bz,e=.returned (.string s)/\s.size=fsF l.length l/\Below w.1.size w w':=by
 have t:=E.len;have P:=Ww l.length l;obtain ⟨T,I⟩:=yG (fsF l.length l);rw [I] at P ⊢;go_wp2;go_loopw [3,4] (fun v i wr=>∃ (j f:Nat) (q:Bz),j<=n/\i=.int .i64 j/\v=.string q/\n<=j+f/\q.size+fsF f (l.drop j)=T/\Below w.1.size w wr) (fun _ i _=>n-(intOf i).toNat)
 .exact ⟨0,l.length,_,Z0 _,rfl,rfl,by have:=t;omega,by rw [VF,I];exact QB _,Bf _ _⟩
 .obtain ⟨j,f,q,hj,rfl,rfl,hf,hq,aF⟩:=hrel;by_cases H:j<n
  .obtain ⟨m,r,hd⟩:∃ m r,l.drop j=m::r:=by
    cases h:l.drop j with
    |nil=>have:=List.drop_eq_nil_iff.1 h;have:=t;omega
    |cons a b=>exact ⟨a,b,rfl⟩
   obtain ⟨g,rfl⟩:∃ g,f=g+1:=⟨f-1,Oo⟩
   have D:r.length+j+1=n:=by
    have h:=XK List.length hd;rw [XD,t] at h;simp only [QS] at h;omega
   have U:=Hg m.size r;rw [hd] at hq;have z:q.size+(3*min (Xv m.size r+1) 2+fsF g (r.drop (Xv m.size r)))=T:=hq
   have J:r.drop (Xv m.size r)=l.drop (j+(Xv m.size r+1)):=by
    rw [<-List.drop_drop,hd];rfl
   rw [J] at z;have C:=zY j A n c l wr (E.after aF aF.size) hn hd;obtain ⟨b,o,d,rfl,y,B,K⟩:=Sl.cell (f:=Ug) (k:=1) (fun _=>rfl) E H;have G:=K 0 _ rfl
   obtain rfl:d=m:=by
    have h:=YF (xs:=l) (i:=j) (j:=0);rw [hd] at h;rw [QF,B] at h;exact (WQ h).symm
   have fL:=hz d (QJ B);obtain ⟨k,M⟩:=yG (Xv d.size r+1);rw [M] at C z;have eZ:1<=k:=Oo
   have p:j+k<=n:=Oo
   have HTT:=P;have Q:=t;have V:q.size<=12000:=Oo
   simp only [QF,WY] at G;have ka:=QQ H;have Z:=QQ Oo;have L:=fun (W:Wd) (h:Below w.1.size w W)=>(h.cell (by exact y)).trans G
   have f1:=Yp 0 (d.size:Int);clear y B K hq J hd D U M G hj;by_cases gD:1<k
   .have d2:=QQ Oo;go_wp2_with (first|(go_at_call 290;refine yP C fun O u=>?_;have x:=aF.trans (u.mono aF.size);clear u)|fail);apply WzR (S:=fun W=>Below w.1.size w W) (R:=Rb) x.drew (fun _ _ h y=>h.trans (y.mono h.size));apply xv (v:=.int .i64 k);apply xc (fun W h _=>Ku 8 k W Oo Oo);apply xv (v:=.slice (Ah b o) n c);apply xv (v:=.int .i64 j);apply xp (Ag b (o+j));apply xl (.string d) (fun W h=>L W h);apply xp (.int .i64 d.size);apply xc (fun W h _=>Ku 64 d.size W Oo Oo);apply xq (hz:=by rw [Yp,Yp];omega);apply xv (v:=.string q);apply xq (hz:=by rw [QY,Yp,Yp];omega);apply xv (v:=.string (Ow 8 k++Ow 64 d.size++q));refine xn fun W hS X=>?_
    clear X;go_wp2;go_roundw
    .exact ⟨j+k,g,_,p,Au,rfl,Oo,by rw [QY,QY,Yp,Yp];have:=z;omega,hS⟩
    .exact At
   .obtain rfl:k=1:=Oo
    go_wp2_with (first|(go_at_call 290;refine yP C fun O u=>?_;have x:=aF.trans (u.mono aF.size);have c2:=L O x;clear u)|(go_at_call 291;refine yP (Ku 0 d.size _ Oo Oo) fun w3 N=>?_;have Y:=x.trans (N.mono x.size);clear N)|fail);go_roundw
    .exact ⟨j+1,g,_,p,Au,rfl,Oo,by rw [QY,Yp];have:=z;omega,Y⟩
    .exact At
  .obtain rfl:j=n:=Oo
   have Z:=QW Oo
   have F:q.size=T:=by
    rw [<-hq,JC (by rw [t];exact Le _)];cases f<;>rfl
   clear hq hf;go_wp2;go_ret;exact ⟨q,rfl,F,aF⟩
def zh {l:List Bz} {j:Nat} {s:Bz} (h:l[j]? =some s):zsF (l.take (j+1))=zsF (l.take j)+(s.size:Int):=by
 unfold zsF;rw [YG,h];simp
def Dg (A:Option Addr) (n c:Nat) (l:List Bz) (w:Wd) (d:Sl Ug 1 w w.1.size A n c l) (hz:∀ s∈l,s.size<=200) (hn:n<=2000):
  Calls prog 173 #[.slice A n c] w (Ab w (.int .i64 (J1 l))):=by
 have r:=P6 A n c l w d hz hn;have m:J1 l=4+((fsF l.length l:Nat):Int)+zsF (l.take n):=by unfold J1;rw [BE _ _ (Le _),<-d.len,List.take_length];omega
 have C:=Hd d;have u:=Ww l.length l;have z:=d.len;have F:=d.len;have p:fsF l.length l<=12000:=Oo
 generalize J1 l=R at m;generalize fsF l.length l=T at r m p;clear d u z;go_in;go_wp2_with (go_at_call 222;apply r.mono;rintro e J ⟨s,rfl,d,t⟩;have u:=p;have I:IntKind.i64.wrap (4+(s.size:Int))=4+(T:Int):=by { rw [d];exact QL _ Oo });go_loop [3,4] (fun v i=>∃ (j:Nat),j<=n/\i=.int .i64 j/\v=.int .i64 (4+(T:Int)+zsF (l.take j))) (fun _ i=>n-(intOf i).toNat)
 .exact ⟨0,Z0 _,rfl,by simp [zsF]⟩
 .obtain ⟨j,hj,rfl,rfl⟩:=hrel;have g:=zi (l.take j) fun s h=>hz s (XA h)
  rw [WX] at g;by_cases q:j<n
  .obtain ⟨b,o,x,rfl,hb,hg,aB⟩:=Sl.cell (f:=Ug) (k:=1) (fun _=>rfl) (C.below t) q;have D:=aB 0 _ rfl;simp only [QF,WY] at D;have G:=hz x (QJ hg);have y:=zh hg;generalize zsF (l.take j)=a at y g ⊢;have B:=QQ Oo;have E:=QQ q;have H:IntKind.i64.wrap (4+(T:Int)+a+(x.size:Int))=4+(T:Int)+a+(x.size:Int):=QL _ Oo;clear hb hg aB;go_wp2
   go_round
   .exact ⟨j+1,Oo,Au,by rw [y,<-Int.add_assoc]⟩
   .exact At
  .obtain rfl:j=n:=Oo
   have B:=QW Oo;rw [<-m];clear g;go_wp2;go_ret;exact ⟨rfl,t⟩
def TG (z:Int) (A:Option Addr) (n c:Nat) (l:List Bz) (w:Wd) (b:Sl Ug 1 w w.1.size A n c l) (hn:n<=2000):
  Calls prog 122 #[.int .i64 z,.slice A n c] w (Ab w (.bool (Zo z l))):=by
 have i:=Hd b;obtain ⟨R,a⟩:=yG (Zo z l);rw [a];unfold Zo at a;have f:=fun W=>Re z W
 have g:=DC A n c l w i hn;cases e:Xf z with
 |false=>
  rw [e] at f a;clear b e;go_in;go_wp2_with (go_at_call 171;apply yE (f _));go_ret;exact ⟨by rw [<-a];rfl,Bf _ _⟩
 |true=>
  rw [e] at f a;cases d:MH l with
  |false=>
   rw [d] at g a;clear b e d;go_in;go_wp2_with (first|(go_at_call 171;apply yE (f _))|(go_at_call 172;apply yE g));go_ret;exact ⟨by rw [<-a];rfl,Bf _ _⟩
  |true=>
   rw [d] at g a
   have hz:∀ s∈l,s.size<=200:=fun s b=>by
    have:=WE.1 d s b;unfold Fc at this;simp at this;omega
   have h:=Dg A n c l w i hz hn;generalize J1 l=S at h a;have k:decide (S<=z)=R:=a;clear d hz e b;go_in;go_wp2_with (first|(go_at_call 171;refine yE (f _) ?_)|(go_at_call 172;refine yE g ?_)|(go_at_call 173;refine yP h fun m j=>?_));go_ret;exact ⟨rfl,j⟩
section
variable {s:Bz} {e g:En}
noncomputable def II (s:Bz):Option En:=if s.size<32\/200<s.size then none else if Yr s=68 then deQ 0 s else if Yr s=71 then deQ 1 s else none
def Mz (s:Bz):II s=I9 s:=by
 unfold II I9;rw [pD (.inl rfl),pD (.inr rfl)]
def DqR (s:Bz) (e:En):Prop:=II s=some e\/(II s=none/\(e=enZ\/(2<=e.kind/\32<=s.size)))
noncomputable def FN (e g:En):Bool:=decide (e.kind=0)&&(vQ e&&(if (Xy e.name).2.2=true then decide (g.kind=1)&&(decide (g.name=(Xy e.name).1)&&vQ g) else decide (g=enZ)))
noncomputable def EE (e g:En):Option Bz:=if FN e g=true then some (Vh ((Z2 e).getD ⟨#[]⟩)++Vh (if g.name.toList=[] then ⟨#[]⟩ else (Z2 g).getD ⟨#[]⟩)) else none
def Ka (h:I9 s=some e):Z2 e=some s/\I7 e=some s/\(e.kind=0\/e.kind=1)/\s.size<=200/\32<=s.size:=by
 have d:=h;rw [<-Mz] at d;unfold I9 at h;unfold II at d;split at h
 .cases h
 .rename_i hz;rw [QX hz] at d;have l:s.size<=200/\32<=s.size:=Oo
  have f:∀ k:Int,k=0\/k=1->deF k s=some e->deQ k s=some e->Z2 e=some s/\I7 e=some s/\(e.kind=0\/e.kind=1):=fun k i h d=>by
   unfold deF at h;unfold deQ at d;simp only at h d;split at h
   .rename_i hc;split at d
    .rename_i fN;have j:=WQ h;have m:=WQ d;refine ⟨by rw [<-m];exact fN.2,by rw [<-j];exact hc.2,?_⟩;rw [<-j,(BK i _ _).1];exact i
    .cases d
   .cases h
  split at h
  .rename_i h68;rw [QK h68] at d;obtain ⟨a,b,c⟩:=f 0 (.inl rfl) h d;exact ⟨a,b,c,l⟩
  .rename_i h68;rw [QX h68] at d;split at h
   .rename_i h71;rw [QK h71] at d;obtain ⟨a,b,c⟩:=f 1 (.inr rfl) h d;exact ⟨a,b,c,l⟩
   .cases h
def Cq (h:Z2 e=some s):vQ e=true:=by
 unfold Z2 at h;split at h
 .assumption
 .cases h
def NR (h:vQ e=true):e.name.toList≠[]:=by
 unfold vQ at h;simp only [QU] at h;have a:=(Gx h.1.1).1;intro b;rw [Fa ((nil_iff _).2 b)] at a;exact absurd a Ac
def Bq:vQ enZ=false:=by
 cases h:vQ enZ with
 |false=>rfl
 |true=>exact absurd ((nil_iff _).1 rfl) (NR h)
def Sf (h:FN e g=true):e.kind=0/\vQ e=true:=by
 unfold FN at h;simp only [QU,QG] at h;exact ⟨h.1,h.2.1⟩
def py (h:FN e g=true):g.kind=1\/g=enZ:=by
 unfold FN at h;simp only [QU,QG] at h;have a:=h.2.2;split at a
 .simp only [QU,QG] at a;exact .inl a.1
 .simp only [QG] at a;exact .inr a
def yZ (note:Bz) (e g:En) (he:DqR (U8 note 0 200).1 e) (a:DqR (U8 (U8 note 0 200).2.1 (U8 note 0 200).2.2 200).1 g):
  (if Yj (U8 (U8 note 0 200).2.1 (U8 note 0 200).2.2 200).2.1 (U8 (U8 note 0 200).2.1 (U8 note 0 200).2.2 200).2.2=0/\EE e g=some note then some e else none)=Xb note:=by
 obtain ⟨u,f⟩:∃ t,U8 note 0 200=t:=⟨_,rfl⟩
 unfold Xb;rw [f] at he a ⊢;obtain ⟨k,j⟩:∃ t,U8 u.2.1 u.2.2 200=t:=⟨_,rfl⟩
 rw [j] at a ⊢;simp only;unfold DqR at he a;rw [Mz] at he a;by_cases c:Yj k.2.1 k.2.2=0
 .rw [j,QK c];simp only [c,true_and]
  have x:∀ {o:Option En},(o=none)->(¬ FN e g=true)->(if EE e g=some note then some e else none)=o:=fun D l=>by
   rw [D,QX];unfold EE;rw [QX l];exact fun h=>by cases h
  rcases he with he|⟨he,w⟩
  .rw [he];obtain ⟨A,z,G,C,H⟩:=Ka he
   have B:k.1.toList=[]->g=enZ:=fun h=>by
    rcases a with a|⟨_,a|a⟩
    .have:=(Ka a).2.2.2.2;rw [Fa ((nil_iff _).2 h)] at this;exact absurd this Ac
    .exact a
    .have:=a.2;rw [Fa ((nil_iff _).2 h)] at this;exact absurd this Ac
   have b:(g=enZ\/I9 k.1=some g)->EE e g=Xm e g:=fun i=>by
    unfold EE Xm FN;rw [A,z,Cq A];by_cases p:e.kind=0
    .rw [QQ p,QK p];simp only [XL];by_cases q:(Xy e.name).2.2=true
     .rw [QK q,QK q];by_cases d:g.kind=1/\g.name=(Xy e.name).1
      .rcases i with rfl|i
       .exact absurd d.1 Ac
       .obtain ⟨b1,b2,_⟩:=Ka i;rw [QK d,QQ d.1,QQ d.2,Cq b1,b1,b2,QX (NR (Cq b1))];simp [ZU];rfl
      .rw [QX d,QX];simp only [QU,QG];exact fun h=>d ⟨h.1,h.2.1⟩
     .rw [QX q,QX q];by_cases hz:g=enZ
      .rw [QQ hz,QK rfl,QK hz,hz,QK ((nil_iff _).1 rfl)];simp [ZU];rfl
      .rw [QW hz,QX hz];rfl
    .rw [QW p,QX p];rfl
   by_cases n:k.1.toList=[]
   .rw [QK n];have v:=B n;subst v;simp only;rw [b (.inl rfl)]
   .rw [QX n];rcases a with a|⟨a,r⟩
    .rw [a];simp only;rw [b (.inr a)]
    .rw [a];simp only;rcases r with rfl|⟨y,_⟩
     .rw [QX];intro hn;rw [b (.inl rfl)] at hn;unfold Xm at hn;rw [z] at hn;refine n ?_
      have F:note=Vh u.1++Vh ⟨#[]⟩:=by
       split at hn
       .simp only at hn;split at hn
        .rename_i hq;rw [QX (fun h=>absurd h.1 Ac)] at hn;cases hn
        .simp only [VY] at hn;have:=WQ hn;rw [<-this];simp [ZU];rfl
       .cases hn
      rw [F,Qe _ _ C] at f;rw [<-f] at j
      have E:U8 (Vh ⟨#[]⟩) 0 200=(⟨#[]⟩,⟨#[]⟩,0):=by
       have:=Qe ⟨#[]⟩ ⟨#[]⟩ Ac;exact this
      simp only at j;rw [E] at j;rw [<-j];exact (nil_iff _).1 rfl
     .refine x rfl fun l=>?_
      rcases py l with h|h
      .omega
      .rw [h] at y;exact absurd y Ac
  .rw [he];refine x rfl fun l=>?_
   have m:=Sf l;rcases w with rfl|⟨h,_⟩
   .rw [Bq] at m;cases m.2
   .omega
 .rw [j,QX c,QX (fun h=>c h.1)]
end
end Go.Proofs.YtdleakjejodjjaaGreatDoor
