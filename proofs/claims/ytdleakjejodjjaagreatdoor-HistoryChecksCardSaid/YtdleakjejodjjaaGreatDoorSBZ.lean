/- Of the history laws. -/
import Derived.Test.YtdleakjejodjjaaGreatDoorSBF
namespace Go.Proofs.YtdleakjejodjjaaGreatDoor
open Tryz
set_option linter.defProp false
set_option linter.unusedVariables false
set_option linter.unusedSimpArgs false
set_option maxRecDepth 100000
set_option maxHeartbeats 20000000
open Go.RowKit
section
def jU (a:List Pr) (r:Rdd):Bool:=
 if r.kind=0 then (if (Px a r.key).2=0 then decide ((r.ak,r.ar,r.code)=(r.key,(Px a r.key).1,(0:Int))) else decide (r.code=6))
 else (if (Ns a r.key).2.2=0 then decide ((r.ak,r.ar,r.code)=((Ns a r.key).1,(Ns a r.key).2.1,(0:Int))) else decide (r.code=6))
def ig {d:List Pr} {r:Rdd} (h:rdB r=true):jU d r=MW d r:=by
 have j:r.code=0\/(r.ak=⟨#[]⟩/\r.ar=⟨#[]⟩/\r.code=6):=by
  unfold rdB at h;simp only [QU,XU,QG] at h;rcases h.2 with h|⟨⟨g,f⟩,i⟩
  .exact .inl h
  .exact .inr ⟨Fa g,Fa f,i⟩
 have k:decide (r.code=6)=decide ((r.ak,r.ar,r.code)=((⟨#[]⟩:Bz),(⟨#[]⟩:Bz),(6:Int))):=by
  rcases j with j|⟨g,f,i⟩
  .rw [j];simp
  .rw [g,f,i];simp
 unfold jU MW uC;by_cases e:r.kind=0
 .rw [QK e,QK e];by_cases he:(Px d r.key).2=0
  .rw [QK he,QK he]
  .rw [QX he,QX he,k]
 .rw [QX e,QX e];by_cases he:(Ns d r.key).2.2=0
  .rw [QK he,QK he];generalize Ns d r.key=v at he;obtain ⟨a,b,c⟩:=v;simp only at he;subst he;rfl
  .rw [QX he,QX he,k]
section
variable (told:Bz->Int->Option DSet) (doF:PC->Int->Chg->Int ⊕ PC)
variable {told doF}
end
end
section
section
variable (told:Bz->Int->Option DSet) (doF:PC->Int->Chg->Int ⊕ PC)
def jX:Nat->List Com->List PC->Int ⊕ Option (Nat×Nat)
 |_,[],_=>.inr none
 |i,u::r,s=>
  if u.rs.findIdx (fun x => !MW (MR s x.id) x)<u.rs.length then .inr (some (i,u.rs.findIdx (fun x => !MW (MR s x.id) x)))
  else match Fe told doF u.num u.cs s with
   |.inl e=>.inl e
   |.inr s1=>jX (i+1) r s1
end
end
section
variable {k:Bz} {x:Pr} {j:Nat} {l:List Cnt} {id:Int} {n:Nat}
def jY {x:Cnt} (b:∀ t,t<j->∀ e,l[t]? =some e->Y5 id e=false) (a:l[j]? =some x) (c:Y5 id x=true):MR (l.map plC) id=x.ps:=by
 refine sS ?_;unfold Yi;rw [List.find?_eq_getElem?_findIdx];have:=Vn b a c;rw [this];exact a
def jV (d:l.length=n) (b:∀ t,t<n->∀ e,l[t]? =some e->Y5 id e=false):MR (l.map plC) id=[]:=by
 refine sU ?_;unfold Yi;rw [JH];intro x c;obtain ⟨t,a⟩:=ZA c;have f:=(QZ.1 a).1;rw [b t Oo x a];simp
def i6 {a:List Pr} (h:Y6 a k=true):∃ q,a[a.findIdx (geK k)]? =some q:=by
 unfold Y6 at h;cases b:a[a.findIdx (geK k)]? with
 |some q=>exact ⟨q,rfl⟩
 |none=>rw [b] at h;cases h
def i9 (id:Int) (k:Bz) (A:Option Addr) (n c:Nat) (l:List Cnt) (w:Wd) (G:Sl cnC 23 w w.1.size A n c l) (R:∀ x∈l,CW w x) (hn:n<=1000):
  Calls prog 50 #[.slice A n c,.int .i64 id,.string k] w (T6 (Px (MR (l.map plC) id) k) w):=by
 have X:=Hd G;have W:=Hd G.len;have Z:=Hd R;obtain ⟨V,M⟩:=yG (Px (MR (l.map plC) id) k);rw [M];have T:=Hd M;clear G R M;go_wp2;go_loopw [8] (fun i wr=>∃ j:Nat,j<=n/\i=.int .i64 j/\(∀ t,t<j->∀ e,l[t]? =some e->Y5 id e=false)/\wr=w) (fun i _=>n-(intOf i).toNat)
 .exact ⟨0,Z0 _,rfl,fun t h=>absurd h Oo,rfl⟩
 .obtain ⟨j,hj,rfl,hall,rfl⟩:=hrel;have F:=Hd hall;clear hall;by_cases O:j<n
  .obtain ⟨b,o,x,rfl,hb,hg,c0,c22⟩:=qG X.o O;have Q:=Hd hg;have C:=Z.o x (QJ hg);have z:=Hd C;have u:=Hd (Dn k x.pA x.pn x.pc x.ps wr C.sl (by have:=C.le;omega));have Y:=Hd hb;have P:=Hd O;clear hg C hb;by_cases d:x.d.id=id
   .have h1:Y5 id x=true:=by simp [Y5,d]
    have y:Aw (Px x.ps k=V):=Hd (by rw [<-T.o,jY F.o Q.o h1]);subst d;clear h1;cases g:Y6 x.ps k with
    |false=>
     rw [g] at u;have a:Aw (V=(⟨#[]⟩,6)):=Hd (by rw [<-y.o];unfold Px;rw [g];rfl);clear g;go_wp2_with (go_at_call 89;refine yN u.o fun m L=>?_)
     go_ret2
     rw [a.o];exact ⟨rfl,L.o⟩
    |true=>
     rw [g] at u;obtain ⟨q,v⟩:=i6 g;have a:Aw (V=(q.rcd,0)):=Hd (by rw [<-y.o];unfold Px;rw [g,v];rfl);obtain ⟨i,S⟩:=yG (x.ps.findIdx (geK k));rw [S] at v u;have H:i<x.pn:=by rw [<-z.o.sl.len];exact (QZ.1 v).1
     have HX:Aw (∀ m,Below wr.1.size wr m->∃ r s,x.pA=some ⟨r,s,none⟩/\m.cell? ⟨b,o+j*23+22,none⟩=some (.slice x.pA x.pn x.pc)/\m.cell? ⟨r,s+i*2+1,none⟩=some (.string q.rcd)):=Hd fun m N=>by
      obtain ⟨r,s,q',D,J,B,E⟩:=Sl.cell (f:=prC) (k:=2) (fun _=>rfl) z.o.sl H;rw [v] at B;injection B with B
      subst B;exact ⟨r,s,D,(N.cell (p:=⟨b,o+j*23+22,none⟩) Y.o).trans c22,(N.cell (p:=⟨r,s+i*2+1,none⟩) J).trans (E 1 _ rfl)⟩
     have e1:decide ((0:Int)<=(i:Int))=true:=Am
     clear g S v;go_wp2_with (go_at_call 89;refine yP u.o fun m K=>?_;obtain ⟨r,s,D,U,k2⟩:=HX.o m K;rw [D] at U;have L:=Hd K;clear K c0 c22 D)
     go_ret2
     rw [a.o];exact ⟨rfl,L.o⟩
   .have h1:Y5 id x=false:=by simp [Y5,d]
    have I:=Hd h1;have aL:(x.d.id == id)=false:=by simpa using d
    clear h1 d;go_wp2;go_roundw
    .exact ⟨j+1,by have:=P.o;omega,Au,fun t ht e he=>by
     by_cases h:t=j
     .subst h;rw [Q.o] at he;injection he with he;subst he;exact I.o
     .exact F.o t Oo e he,trivial⟩
    .simp [intOf];have:=P.o;omega
  .obtain rfl:j=n:=Oo
   have a:Aw (V=(⟨#[]⟩,6)):=Hd (by rw [<-T.o,jV W.o F.o];rfl);go_wp2
   go_ret2
   rw [a.o];exact ⟨rfl,Bf _ _⟩
end
def ik {G:Prop} (h:G:=by
  go_wp2_with (go_at_call 89;refine yP HF.o fun w2 aH=>?_;have k1:=HX.o w2 aH;obtain ⟨k2,k3⟩:=eD.o w2 aH;have aK:=Hd aH;clear aH c0 c22);refine Rw (S:=fun w'=>w'.cell? ⟨b,o+j*23+22,none⟩=some (.slice (Ah b' o') x.pn x.pc)/\w'.cell? ⟨b',o'+i*2,none⟩=some (.string q.key)/\w'.cell? ⟨b',o'+i*2+1,none⟩=some (.string q.rcd)) Ak ⟨k1,k2,k3⟩ (fun Hh=>?_);refine tk 0 (.slice (Ah b o) n c) Hh ?_;refine tk 1 (.int .i64 j) Hh ?_;refine tk 2 (Ag b (o+j*23)) Hh ?_;refine tk 3 (Ag b (o+j*23+22)) Hh ?_;refine tj 4 (.slice (Ah b' o') x.pn x.pc) Hh ?_ (y:=by intro w' aO;have h1:=aO.1;go_simp);refine tk 5 (.int .i64 i) Hh ?_;refine tk 6 (Ag b' (o'+i*2)) Hh ?_;refine tk 7 (Ag b' (o'+i*2)) Hh ?_
  refine tj 8 (.string q.key) Hh ?_ (y:=by intro w' aO;have h1:=aO.2.1;go_simp);refine tk 9 (.slice (Ah b o) n c) Hh ?_;refine tk 10 (.int .i64 j) Hh ?_;refine tk 11 (Ag b (o+j*23)) Hh ?_;refine tk 12 (Ag b (o+j*23+22)) Hh ?_;refine tj 13 (.slice (Ah b' o') x.pn x.pc) Hh ?_ (y:=by intro w' aO;have h1:=aO.1;go_simp);refine tk 14 (.int .i64 i) Hh ?_;refine tk 15 (Ag b' (o'+i*2)) Hh ?_;refine tk 16 (Ag b' (o'+i*2+1)) Hh ?_;refine tj 17 (.string q.rcd) Hh ?_ (y:=by intro w' aO;have h1:=aO.2.2;go_simp);refine tk 18 (.string q.key) Hh ?_;refine tk 19 (.string q.rcd) Hh ?_;refine tk 20 (.int .i64 0) Hh ?_;refine Ad Ak ?_ _;clear Hh;go_wp2
  go_ret3
  rw [HV3.o];exact ⟨rfl,aK.o.drew⟩):G:=h
def ij {G:Prop} (h:G:=by
  go_wp2_with (go_at_call 89;refine yP HF.o fun w2 aH=>?_;have k1:=HX.o w2 aH;have aK:=Hd aH;clear aH c0 c22)
  go_ret3
  rw [HV3.o];exact ⟨rfl,aK.o⟩):G:=h
def i5 (id:Int) (k:Bz) (A:Option Addr) (n c:Nat) (l:List Cnt) (w:Wd) (O:Sl cnC 23 w w.1.size A n c l) (Y:∀ x∈l,CW w x) (hn:n<=1000):
  Calls prog 51 #[.slice A n c,.int .i64 id,.string k] w (NP (Ns (MR (l.map plC) id) k) w):=by
 have HS:=Hd O;have HL:=Hd O.len;have HP:=Hd Y;obtain ⟨V,T⟩:=yG (Ns (MR (l.map plC) id) k);rw [T];have Z:=Hd T;clear O Y T;go_wp2;go_loopw [9] (fun i wr=>∃ j:Nat,j<=n/\i=.int .i64 j/\(∀ t,t<j->∀ e,l[t]? =some e->Y5 id e=false)/\wr=w) (fun i _=>n-(intOf i).toNat)
 .exact ⟨0,Z0 _,rfl,fun t h=>absurd h Oo,rfl⟩
 .obtain ⟨j,hj,rfl,hall,rfl⟩:=hrel;have L:=Hd hall;clear hall;by_cases U:j<n
  .obtain ⟨b,o,x,rfl,hb,hg,c0,c22⟩:=qG HS.o U;have W:=Hd hg;have J:=HP.o x (QJ hg);have u:=Hd J;have HF:=Hd (Dn k x.pA x.pn x.pc x.ps wr J.sl (by have:=J.le;omega));have fX:=Hd hb;have K:=Hd U;clear hg J hb;by_cases g:x.d.id=id
   .have h1:Y5 id x=true:=by simp [Y5,g]
    have Q:Aw (Ns x.ps k=V):=Hd (by rw [<-Z.o,jY L.o W.o h1]);subst g;clear h1;have hpl:=u.o.le;have s:=u.o.sl.len;have jU:x.ps.findIdx (geK k)<=x.pn:=by rw [<-s];exact KP
    obtain ⟨i,R⟩:=yG (nxI x.ps k);obtain ⟨f,N⟩:=yG (x.ps.findIdx (geK k));have C:V=(match x.ps[i]? with|some p=>(p.key,p.rcd,0)|none=>(⟨#[]⟩,⟨#[]⟩,6)):=by rw [<-Q.o,<-R];rfl
    have D:=Hd C;have E:Aw (i=if Y6 x.ps k=true then f+1 else f):=Hd (by rw [<-R,<-N];rfl);rw [N] at HF jU;have HX:Aw (∀ w2,Below wr.1.size wr w2->w2.cell? ⟨b,o+j*23+22,none⟩=some (.slice x.pA x.pn x.pc)):=Hd fun w2 I=>(I.cell (p:=⟨b,o+j*23+22,none⟩) fX.o).trans c22
    have aJ:Aw (∀ q,x.ps[i]? =some q->∃ b' o',x.pA=some ⟨b',o',none⟩/\∀ w2,Below wr.1.size wr w2->w2.cell? ⟨b',o'+i*2,none⟩=some (.string q.key)/\w2.cell? ⟨b',o'+i*2+1,none⟩=some (.string q.rcd)):=Hd fun q m=>by
     have r:i<x.pn:=by rw [<-s];exact (QZ.1 m).1
     obtain ⟨b',o',q',F,B,H,z⟩:=Sl.cell (f:=prC) (k:=2) (fun _=>rfl) u.o.sl r;rw [m] at H;injection H with H
     subst H;have X:=z 0 _ rfl;simp only [QF] at X;exact ⟨b',o',F,fun w2 I=>⟨(I.cell (p:=⟨b',o'+i*2,none⟩) B).trans X,(I.cell (p:=⟨b',o'+i*2+1,none⟩) B).trans (z 1 _ rfl)⟩⟩
    clear R N C;cases m:x.ps[i]? with
    |none=>
     have r:x.pn<=i:=by rw [<-s];exact List.getElem?_eq_none_iff.1 m
     have HV3:Aw (V=(⟨#[]⟩,⟨#[]⟩,6)):=Hd (by rw [D.o,m]);have d1:decide ((i:Int)<(x.pn:Int))=false:=As
     have d2:decide ((x.pn:Int)<=(i:Int))=true:=As
     have d3:decide (i<x.pn)=false:=As
     have d4:decide (x.pn<=i)=true:=As
     have P:=Hd s;have a:=E.o;clear s m;cases d:Y6 x.ps k with
     |true=>
      rw [d,QK rfl] at a;rw [d] at HF;have hw:IntKind.i64.wrap ((f:Int)+1)=(i:Int):=by rw [a];exact QL _ Oo
      clear d a;exact ij
     |false=>
      rw [d,QX Am] at a;rw [d] at HF;subst a;clear d;exact ij
    |some q=>
     have r:i<x.pn:=by rw [<-s];exact (QZ.1 m).1
     have HV3:Aw (V=(q.key,q.rcd,0)):=Hd (by rw [D.o,m]);obtain ⟨b',o',F,v⟩:=aJ.o q m;have eD:=Hd v;clear v;rw [F] at HX;clear F;have d1:decide ((i:Int)<(x.pn:Int))=true:=As
     have b0:(0:Int)<=(i:Int):=Oo
     have b1:(i:Int)<(x.pn:Int):=Oo
     have b2:(0:Int)<=(j:Int):=Oo
     have b3:(j:Int)<(n:Int):=by have:=K.o;omega
     have d2:decide ((x.pn:Int)<=(i:Int))=false:=As
     have d3:decide (i<x.pn)=true:=As
     have d4:decide (x.pn<=i)=false:=As
     have P:=Hd s;have HIL:=Hd r;have a:=E.o;clear s m;cases d:Y6 x.ps k with
     |true=>
      rw [d,QK rfl] at a;rw [d] at HF;have hw:IntKind.i64.wrap ((f:Int)+1)=(i:Int):=by rw [a];exact QL _ Oo
      clear d a;exact ik
     |false=>
      rw [d,QX Am] at a;rw [d] at HF;subst a;clear d;exact ik
   .have h1:Y5 id x=false:=by simp [Y5,g]
    have M:=Hd h1;have aL:(x.d.id == id)=false:=by simpa using g
    clear h1 g;go_wp2;go_roundw
    .exact ⟨j+1,by have:=K.o;omega,Au,fun t ht e he=>by
     by_cases h:t=j
     .subst h;rw [W.o] at he;injection he with he;subst he;exact M.o
     .exact L.o t Oo e he,trivial⟩
    .simp [intOf];have:=K.o;omega
  .obtain rfl:j=n:=Oo
   have HV3:Aw (V=(⟨#[]⟩,⟨#[]⟩,6)):=Hd (by rw [<-Z.o,jV HL.o L.o];rfl);go_wp2
   go_ret3
   rw [HV3.o];exact ⟨rfl,Bf _ _⟩
def io {G:Prop} (h:G:=by
  have b2:(v2 != 0)=true:=by simpa using hz
  have fM:Aw (jU ps r=(r.code == 6)):=Hd (by rw [HREX.o,QX hz];rfl);obtain ⟨z,gT⟩:=yG (r.code == 6);have HZZ:=Hd gT;clear hz;go_in
  first
   |go_wp2_with (go_at_call 50;refine yP HG.o fun w2 aH=>?_;have aK:=Hd (bI.o.trans (aH.mono bI.o.size));have c5:=(HBK.o.below aH HBK.o.lt).ce 5 (.int .i64 r.code);clear aH c0 c1 c2)
    go_ret;exact ⟨by rw [fM.o,HZZ.o];rfl,aK.o⟩
   |go_wp2_with (go_at_call 51;refine yP HG.o fun w2 aH=>?_;have aK:=Hd (bI.o.trans (aH.mono bI.o.size));have c5:=(HBK.o.below aH HBK.o.lt).ce 5 (.int .i64 r.code);clear aH c0 c1 c2)
    go_ret;exact ⟨by rw [fM.o,HZZ.o];rfl,aK.o⟩):G:=h
def il {G:Prop} (h:G:=by
  simp only at aT;have fM:Aw (jU ps r=z):=Hd (by rw [HREX.o,QK rfl];exact aP);clear aP;go_in
  first
   |go_wp2_with (first|(go_at_call 50;refine yP HG.o fun w2 aH=>?_;have aK:=Hd (bI.o.trans (aH.mono bI.o.size));have HBK2:=Hd (HBK.o.below aH HBK.o.lt);clear aH c0 c1 c2)|(with_reducible refine yM 46 38 (yp HBK2.o) ?_)|((with_reducible refine Gb 46 ?_);refine U1 Ak 46 _ rfl (#[.string r.key,.string v1,.int .i64 0]) Ak ?_))
    go_ret;exact ⟨by rw [fM.o];rfl,aK.o⟩
   |go_wp2_with (first|(go_at_call 51;refine yP HG.o fun w2 aH=>?_;have aK:=Hd (bI.o.trans (aH.mono bI.o.size));have HBK2:=Hd (HBK.o.below aH HBK.o.lt);clear aH c0 c1 c2)|(with_reducible refine yM 46 38 (yp HBK2.o) ?_)|((with_reducible refine Gb 46 ?_);refine U1 Ak 46 _ rfl (#[.string v0,.string v1,.int .i64 0]) Ak ?_))
    go_ret;exact ⟨by rw [fM.o];rfl,aK.o⟩):G:=h
def jT (r:Rdd) (A:Option Addr) (n c:Nat) (l:List Cnt) (w:Wd) (m:Sl cnC 23 w w.1.size A n c l) (j:∀ x∈l,CW w x) (hn:n<=1000):
  Calls prog 23 #[.slice A n c,.agg (rdC r).toArray] w (Ab w (.bool (jU (MR (l.map plC) r.id) r))):=by
 have f:Below w.1.size w (Aa w (rdC r).toArray 48):=Aj;have bI:=Hd f;have k:=Hd (m.after f f.size);have i:=Hd fun x o=>(j x o).below f
 have HBK:=Hd (Blk.new w 48 (rdC r).toArray);have c0:(Aa w (rdC r).toArray 48).cell? ⟨w.1.size,0,none⟩=some (.int .i64 r.kind):=((Blk.new w _ _).cell 0).trans rfl;have c1:(Aa w (rdC r).toArray 48).cell? ⟨w.1.size,1,none⟩=some (.int .i64 r.id):=((Blk.new w _ _).cell 1).trans rfl;have c2:(Aa w (rdC r).toArray 48).cell? ⟨w.1.size,2,none⟩=some (.string r.key):=((Blk.new w _ _).cell 2).trans rfl;obtain ⟨ps,g⟩:=yG (MR (l.map plC) r.id);rw [g];have e:=Hd g;clear m j f g;by_cases d:r.kind=0
 .have b0:(r.kind == 0)=true:=by simpa using d
  obtain ⟨v,b⟩:=yG (Px ps r.key);obtain ⟨v1,v2⟩:=v;have a:=i9 r.id r.key A n c l _ k i hn;rw [e.o,b] at a;have HG:=Hd a;have HREX:Aw (jU ps r=if v2=0 then decide ((r.ak,r.ar,r.code)=(r.key,v1,(0:Int))) else decide (r.code=6)):=Hd (by unfold jU;rw [QK d,b]);clear d b a;by_cases hz:v2=0
  .subst hz;obtain ⟨z,aP,aT⟩:=Ba (r.ak,r.ar,r.code) (r.key,v1,0);exact il
  .exact io
 .have b0:(r.kind == 0)=false:=by simpa using d
  obtain ⟨v,b⟩:=yG (Ns ps r.key);obtain ⟨v0,v1,v2⟩:=v;have a:=i5 r.id r.key A n c l _ k i hn;rw [e.o,b] at a;have HG:=Hd a;have HREX:Aw (jU ps r=if v2=0 then decide ((r.ak,r.ar,r.code)=(v0,v1,(0:Int))) else decide (r.code=6)):=Hd (by unfold jU;rw [QX d,b]);clear d b a;by_cases hz:v2=0
  .subst hz;obtain ⟨z,aP,aT⟩:=Ba (r.ak,r.ar,r.code) (v0,v1,0);exact il
  .exact io
end Go.Proofs.YtdleakjejodjjaaGreatDoor
