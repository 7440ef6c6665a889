/- Of the history laws. -/
import Derived.Test.YtdleakjejodjjaaGreatDoorSBT
import Derived.Test.YtdleakjejodjjaaGreatDoorSBU
import Derived.Test.YtdleakjejodjjaaGreatDoorSBR
namespace Go.Proofs.YtdleakjejodjjaaGreatDoor
open Tryz
set_option linter.all false
set_option maxRecDepth 100000
set_option maxHeartbeats 20000000
open Go.RowKit
section
variable {x y:PC} {r s t:List PC}
def Ql:∀ {t:List PC},N3 t->t.map some=(t.map (·.d.id)).map (Vc t)
 | [],_=>rfl
 |y::r,h=>by
  have a:=XJ.1 h;rw [WS,WS,WS,Vq,QK rfl,Ql a.2,JD,JD];congr 1;refine VE fun z hz=>?_
  show Vc r z.d.id=Vc (y::r) z.d.id;have b:y.d.id<z.d.id:=a.1 _ (YY.2 ⟨z,hz,rfl⟩);rw [Vq,QX Oo]
def rO (h:Rel s t):idsP s=t.map (·.d.id):=by
 unfold idsP;have f:(s.map (·.d.id)).Perm (t.map (·.d.id)):=(List.perm_ext_iff_of_nodup h.nd (zG h.so)).2 fun i=>by rw [ids_get,ids_get,h.eq]
 have d:(t.map (·.d.id)).Pairwise fun x y=>decide (x<=y)=true:=List.Pairwise.imp (fun h=>As) h.so
 refine List.Perm.eq_of_pairwise (le:=fun x y:Int=>decide (x<=y)=true) (fun a b _ _ e d=>by simp at e d;omega) (List.pairwise_mergeSort (fun a b c e d=>by simp at e d ⊢;omega) (fun a b=>As) _) d ((List.mergeSort_perm _ _).trans f)
def rk {a:List PC} (h:Rel s t) (hn:a.map some=(idsP s).map (Vc s)):a=t:=by
 rw [rO h,show Vc s=Vc t from funext h.eq,<-Ql h.so] at hn;exact (List.map_inj_right fun _ _ h=>WQ h).1 hn
section
variable (told:Bz->Int->Option DSet) (doF:PC->Int->Chg->Int ⊕ PC)
variable {told doF}
def RE (i:∀ r id d,told r id=some d->d.id=id) (g:∀ x n c y,doF x n c=.inr y->y.d.id=x.d.id):∀ (l:List Com) (s t:List PC),Rel s t ->
  pb (FG told doF l s) (LR told doF l t)
 | [],s,t,h=>h
 |u::r,s,t,h=>by
  have a:=qV i g u.num u.cs h;unfold FG LR;cases k:aft told doF u.num u.cs s with
  |inl e=>
   rw [k] at a;cases b:Fe told doF u.num u.cs t with
   |inl f=>rw [b] at a;exact a
   |inr j=>rw [b] at a;cases a
  |inr m=>
   rw [k] at a;cases b:Fe told doF u.num u.cs t with
   |inl f=>rw [b] at a;cases a
   |inr j=>rw [b] at a;exact RE i g r m j a
end
end
def R4 (A A':Option Addr) (n c c':Nat) (l:List Pr) (w:Wd) (q:Sl prC 2 w w.1.size A n c l) (h:Sl prC 2 w w.1.size A' n c' l) (hn:n<=1100):
  Calls prog 57 #[.slice A n c,.slice A' n c'] w (Ab w (.bool true)):=by
 have t:=Hd q;have u:=Hd h;clear q h;go_wp2;go_loopw [5] (fun i wr=>∃ j:Nat,j<=n/\i=.int .i64 j/\Below w.1.size w wr) (fun i _=>n-(intOf i).toNat)
 .exact ⟨0,Z0 _,rfl,Bf _ _⟩
 .obtain ⟨j,hj,rfl,aF⟩:=hrel;have p:=Hd aF;by_cases d:j<n
  .obtain ⟨b,o,x,rfl,hb,hg,aB⟩:=Sl.cell (f:=prC) (k:=2) (fun _=>rfl) (t.o.below aF) d;obtain ⟨z,E,D,rfl,g,a,e⟩:=Sl.cell (f:=prC) (k:=2) (fun _=>rfl) (u.o.below aF) d;rw [hg] at a;injection a with a
   subst a;obtain ⟨k,r⟩:=x;have v:=aB 0 _ rfl;have c1:=aB 1 _ rfl;have s:=e 0 _ rfl;have C:=e 1 _ rfl;simp only [QF] at v s;have B:(0:Int)<=(j:Int):=Oo
   have y:(j:Int)<(n:Int):=Oo
   have m:=Hd d;clear hb g hg aB e aF;go_wp2
   go_quiet (fail)
   go_wp2;go_roundw
   .exact ⟨j+1,by have:=m.o;omega,Au,Uk p.o _⟩
   .simp [intOf];have:=m.o;omega
  .obtain rfl:j=n:=Oo
   clear aF;go_wp2;go_ret;exact ⟨rfl,p.o⟩
def OP (d:DSet) (W:Wd):(binOp .eql 34 (.agg (dC d).toArray) (.agg (dC d).toArray)).run prog W=.ok (.bool true) W:=by
 obtain ⟨t,u,v,o,q,p,s,n,m,r,e,f,j,l,b,g,c,h,a,i,k⟩:=d;unfold dC;go_simp
def Cz {W:Wd} {g:Nat} {x:Cnt} (h:Blk W g 37 (cnC x).toArray):W.rangeAt g 0 (dC x.d):=fun j v a=>by
 rw [QB,h.cell];obtain ⟨b,c⟩:=QZ.1 a;rw [Ga,cnC,WF b,a]
def Dh (x y:Cnt) (w:Wd) (c:CW w x) (hy:CW w y) (g:y.d=x.d) (e:y.ps=x.ps):
  Calls prog 29 #[.agg (cnC x).toArray,.agg (cnC y).toArray] w (Ab w (.bool true)):=by
 have b:Below w.1.size w ((Aa w (cnC x).toArray 37).alloc (.cells (cnC y).toArray 37)):=Aj.alloc Am _;have d:Blk ((Aa w (cnC x).toArray 37).alloc (.cells (cnC y).toArray 37)) w.1.size 37 (cnC x).toArray:=(Blk.new w _ _).alloc _;have f:Blk ((Aa w (cnC x).toArray 37).alloc (.cells (cnC y).toArray 37)) (w.1.size+1) 37 (cnC y).toArray:=U3 (w.alloc _) _ _ _ Am;have c1:=IF d;have c2:=IF f;have a:y.pn=x.pn:=by rw [<-hy.sl.len,<-c.sl.len,e]
 have m:=Hd (R4 x.pA y.pA x.pn x.pc y.pc x.ps _ (c.sl.after b b.size) (by have:=hy.sl.after b b.size;rw [e,a] at this;exact this) (by have:=c.le;omega));have k:=Hd (Cz d);have i:=Hd (Cz f);rw [g] at i;rw [a] at c2;have hz:=OP x.d;have h:=Hd b;clear c hy g e b d f a;go_in;go_wp2_with (first|(with_reducible refine yM 34 5 k.o ?_)|(with_reducible refine yM 34 7 i.o ?_)|(go_at_call 57;refine yP m.o fun n j=>?_;have l:=Hd (h.o.trans (j.mono h.o.size));clear j c1 c2));go_ret;exact ⟨rfl,l.o⟩
def CK (l a:List Cnt):Prop:=l.map (fun x=>(x.d,x.ps))=a.map (fun x=>(x.d,x.ps))
def tV {l a:List Cnt} (h:CK l a) {j:Nat} {x y:Cnt} (c:l[j]? =some x) (b:a[j]? =some y):y.d=x.d/\y.ps=x.ps:=by
 unfold CK at h;have:=XK (fun l=>l[j]?) h;simp only [YK,c,b,KR,IW,UN] at this;exact ⟨this.1.symm,this.2.symm⟩
def J3 (A A':Option Addr) (n c c':Nat) (l E:List Cnt) (w:Wd) (M:Sl cnC 23 w w.1.size A n c l) (I:Sl cnC 23 w w.1.size A' n c' E) (O:∀ x∈l,CW w x) (P:∀ x∈E,CW w x) (hn:n<=1000) (Q:CK l E):
  Calls prog 11 #[.slice A n c,.slice A' n c'] w (Ab w (.bool true)):=by
 have W:=Hd M;have Y:=Hd I;have Z:=Hd O;have D:=Hd P;have X:=Hd Q;clear M I O P Q;go_wp2;go_loopw [5] (fun i wr=>∃ j:Nat,j<=n/\i=.int .i64 j/\Below w.1.size w wr) (fun i _=>n-(intOf i).toNat)
 .exact ⟨0,Z0 _,rfl,Bf _ _⟩
 .obtain ⟨j,hj,rfl,aF⟩:=hrel;obtain ⟨h,rfl⟩:∃ x:Wd,x=wr:=⟨_,rfl⟩
  have z:=Hd aF;by_cases v:j<n
  .obtain ⟨b,o,x,rfl,hb,hg,aB⟩:=Sl.cell (f:=cnC) (k:=23) (fun _=>rfl) (W.o.below aF) v;obtain ⟨e,m,y,rfl,q,s,R⟩:=Sl.cell (f:=cnC) (k:=23) (fun _=>rfl) (Y.o.below aF) v;obtain ⟨G,T⟩:=tV X.o hg s;have F:=Hd (Dh x y h.drew (((Z.o x (QJ hg)).below aF).below (Bf _ _).drew) (((D.o y (QJ s)).below aF).below (Bf _ _).drew) G T);have U:Aw (h.drew.rangeAt b (o+j*23) (cnC x)/\h.drew.rangeAt e (m+j*23) (cnC y)):=Hd ⟨(World.rangeAt_drew _ _ _ _).2 fun t u g=>aB t u g,(World.rangeAt_drew _ _ _ _).2 fun t u g=>R t u g⟩;have B:Aw (b<h.drew.1.size/\e<h.drew.1.size):=Hd ⟨WK hb aF.size,WK q aF.size⟩;have b0:(0:Int)<=(j:Int):=Oo
   have b1:(j:Int)<(n:Int):=Oo
   have J:=Hd v;clear hb q hg s aB R aF G T;go_wp2;refine Rw (S:=fun w'=>w'.rangeAt b (o+j*23) (cnC x)/\w'.rangeAt e (m+j*23) (cnC y)) Ak U.o (fun a=>?_);refine tk 0 (.slice (Ah b o) n c) a ?_;refine tk 1 (.int .i64 j) a ?_;refine tk 2 (Ag b (o+j*23)) a ?_;refine tk 3 (.agg (cnC x).toArray) a ?_ (y:=by exact WT Af 37 _ rfl b (o+j*23) rfl (cnC x) _ (fun w' C=>C.1) underlying37 rfl Ak);refine tk 4 (.slice (Ah e m) n c') a ?_;refine tk 5 (.int .i64 j) a ?_;refine tk 6 (Ag e (m+j*23)) a ?_;refine tk 7 (.agg (cnC y).toArray) a ?_ (y:=by exact WT Af 37 _ rfl e (m+j*23) rfl (cnC y) _ (fun w' C=>C.2) underlying37 rfl Ak);refine Aq [8] ?_
   refine Rc (fun K N=>?_) ?_
   .go_simp;refine yP F.o fun w3 r=>?_
    simp only [];have V:=Hd (U0 z.o.drew r z.o.size);obtain ⟨H,L⟩:=a;have d:=B.o;refine N.out _ _ ⟨fun t u g=>(r.cell (p:=⟨b,_,none⟩) d.1).trans (H t u g),fun t u g=>(r.cell (p:=⟨e,_,none⟩) d.2).trans (L t u g)⟩ (fun a=>?_);clear N K r H L d;try simp only [Act.put,Sv,Sz,Sw]
    refine tk 9 (.bool false) a ?_;refine Ad Ak ?_ _;clear a;go_wp2;go_roundw
    .exact ⟨j+1,by have:=J.o;omega,Au,V.o⟩
    .simp [intOf];have:=J.o;omega
   exact An
  .obtain rfl:j=n:=Oo
   clear aF;go_wp2;go_ret;exact ⟨rfl,z.o⟩
def Dv (a:List Cnt) (l:List Com):pb (P8 a l) (Dw a l):=by
 have h:=CB a [] [] Rel.nil;unfold P8 Dw;cases Zx l with
 |none=>rfl
 |some s=>
  cases c:F9 vC [] a with
  |none=>
   rw [c] at h;cases b:Jo [] (a.map plC) with
   |none=>rfl
   |some t=>rw [b] at h;exact h.elim
  |some d=>
   rw [c] at h;cases b:Jo [] (a.map plC) with
   |none=>rw [b] at h;exact h.elim
   |some t=>rw [b] at h;exact RE zv qu s _ _ h
section
variable {w:Wd} {y:Cnt} {v:Value} {bs:Nat} {w0:Wd} {st:List Cnt} {x:Cnt} {A':Option Addr} {c':Nat} {wx w2:Wd} {out:List Cnt}
def Oe (w:Wd) (b:Nat) (st:List Cnt) (id:Int) (x:Cnt) (h:SB w b st) (f:Yi st id=some x):
  (Instr.lookup 57 (.map (some b)) (.int .i64 id) false).run prog w=.ok (.agg (cnC x).toArray) w:=by
 obtain ⟨d,c,e,he,_⟩:=h;have a:=FO id d.toList st 0 he;have g:(Instr.checkKey d.isEmpty 10000 3 (.int .i64 id)).run prog w=.ok () w:=YL (k:=.int .i64 id) underlying3 (by simp [MapKept.IsKey]) _ 9999;rw [f] at a;simp [Instr.lookup,WN underlying57,WV e,g,XE underlying3 a]
def NK.own4 (h:NK bs w0 wx v st out) (a:Obj) (b:Below (LN wx x).1.size (LN wx x) w2):
  ((LM w2 wx none A' x c').alloc a).ownsRow w0.1.size 37 23 v out.length (U7 cnC out):=Ub h.own (M7 a b)
def jt (R:Int ⊕ List PC) (w:Wd) (e:Ending) (w':Wd):Prop:=match R with
 |.inl er=>er≠0/\e=.returned (.tuple #[.slice none 0 0,.int .i64 er])/\Below w.1.size w w'
 |.inr s=>∃ (A:Option Addr) (c:Nat) (b:List Cnt),e=.returned (.tuple #[.slice A b.length c,.int .i64 0])/\Sl cnC 23 w' w'.1.size A b.length c b/\(∀ a,A=some a->w.1.size<=a.block)/\(∀ y∈b,CW w' y/\(0<y.pn->∀ a,y.pA=some a->w.1.size<=a.block))/\(b.map plC).map some=(idsP s).map (Vc s)/\b.length<=1000/\Below w.1.size w w'
def idC (i:Int):List Value:=[.int .i64 i]
def vN (s:List Int):s.map encZ=U7 idC s:=by
 induction s with
 |nil=>rfl
 |cons x r a=>rw [WS,Vg,a];rfl
def tL {s:List PC} (c:st.map plC=s) {i:Int} (d:i∈idsP s):∃ x∈st,Yi st i=some x:=by
 obtain ⟨y,hy,he⟩:=mem_idsP.1 d;subst c;obtain ⟨z,hz,rfl⟩:=YY.1 hy;cases a:Yi st i with
 |some x=>exact ⟨x,ZC a,rfl⟩
 |none=>
  have:=JH.1 a z hz;have b:z.d.id=i:=he;simp [Y5,b] at this
def Du (R:Int ⊕ List PC) (iA:Option Addr) (im ic:Nat) (A:Option Addr) (n c:Nat) (w:Wd) (bS:∀ s,R=.inr s->(∀ x∈s,(Lit.int .i64 x.d.id).wf=true)/\s.length<=1000)
  (hp:Calls prog 16 #[.slice iA im ic,.slice A n c,Ai 25] w (pF R w)):
  Calls prog 9 #[.slice iA im ic,.slice A n c] w (jt R w):=by
 obtain ⟨i0,bC,D,S,aT⟩:=WG X8;have HP:=Hd hp;have gZ:=Hd bS;clear hp bS;cases R with
 |inl er=>
  go_in;go_wp2_with (go_at_call 16;refine HP.o.mono ?_;rintro e M ⟨W,rfl,p⟩;have wV:=Hd W;have iF:(er != 0)=true:=(by simpa using W);have N:=Hd p;clear W p)
  go_ret2
  exact ⟨wV.o,rfl,N.o⟩
 |inr s=>
  obtain ⟨L,d⟩:=gZ.o s rfl;obtain ⟨m,U⟩:=yG ((idsP s).length);have iW:m<=1000:=by rw [<-U,vq];exact d
  have Y:=Hd L;have fQ:=Hd d;have HM:=Hd U;clear L d;go_in;go_wp2_with (first|(go_at_call 16;refine HP.o.mono ?_;rintro e M ⟨bs,st,F,rfl,V,K,p⟩;have E:=Hd F;have O:=Hd K;have N:=Hd p;clear F K p V)|(go_at_call 27;refine (Of bs M).mono ?_;rintro e w2 ⟨rfl,rfl⟩)|(go_at_call 26;refine (Qq bs st M O.o.sb (fun x T=>Y.o (plC x) (by rw [<-E.o];exact UH T)) (by have:=fQ.o;rw [<-E.o,XT] at this;exact this)).mono ?_;rintro e w0 ⟨v,rfl,B,p⟩;rw [E.o,U] at B;obtain ⟨vA,vc,rfl,_,_⟩:=U4 B;rw [vN] at B;have H:=Hd (Sl.of_own (f:=idC) (k:=1) (fun _=>rfl) Ac B);have bJ:Below M.1.size M w0:=Aj.trans (p.mono Am);have eL:=Hd bJ;have l:=Hd (O.o.below bJ);clear B p bJ U))
  go_loopw [8,25] (fun v i wr=>∃ (j:Nat) (out:List Cnt),j<=m/\i=.int .i64 j/\out.length=j/\(out.map plC).map some=((idsP s).take j).map (Vc s)/\NK bs w0 wr v st out) (fun _ i _=>m-(intOf i).toNat)
  .exact ⟨0,[],Z0 _,rfl,rfl,rfl,NK.start l.o⟩
  .obtain ⟨j,out,hj,rfl,d,aG,hnk⟩:=hrel;obtain ⟨wx,rfl⟩:∃ x:Wd,x=wr:=⟨_,rfl⟩
   obtain ⟨av,cv,rfl,eP,_⟩:=U4 hnk.own;have q:=Hd hnk;have Q:=Hd d;have aX:=Hd aG;by_cases Z:j<m
   .obtain ⟨b,o,i,hA0,p,hg,aB⟩:=Sl.cell (f:=idC) (k:=1) (fun _=>rfl) (H.o.below hnk.be) Z;subst hA0;have ci:=aB 0 _ rfl;simp only [QF,WY] at ci;obtain ⟨x,T,t⟩:=tL E.o (QJ hg);have hl:=Oe wx bs st i x (l.o.below hnk.be).sb t;have g:=(l.o.below hnk.be).cw x T
    have u:Aw (((idsP s).take (j+1)).map (Vc s)=((idsP s).take j).map (Vc s)++[some (plC x)]):=Hd (by
     rw [YG,hg,XM];congr 1;show [Vc s i]=_;rw [<-E.o,Iy,t];rfl)
    have H1:=Hd (Va x);have bI:=Hd fun r=>Blk.new wx 37 r
    have dE:=Hd fun r=>U5 wx r (cnC x).toArray 37
    have cF:=g.sl.len;have HC:Aw (Calls prog 28 #[.slice x.pA x.pn x.pc] (LN wx x) (Q4 (LN wx x) x.ps)):=Hd (Cy x.pA x.pn x.pc x.ps _ (g.sl.after Aj Am) (by have:=g.le;omega) g.nil);have HLX:=Hd cF;have dI:=Hd g;have bA:=Hd Z;have X:=IF (Blk.new wx 37 (cnC x).toArray);clear p hg aB t T g cF Z hnk d aG eP;have I:Aw (out.length+1<=maxLen):=Hd (by have:=Q.o;unfold maxLen;omega);have C:Aw ((out.length+1)*216<=140737488355328):=Hd (by have:=Q.o;omega);have J:Aw (∀ w2:Wd,Below (LN wx x).1.size (LN wx x) w2->∀ (A':Option Addr) (c':Nat) (P:Obj),w0.1.size<=((LM w2 wx none A' x c').alloc P).1.size):=Hd (fun w2 h A' c' P=>Lx q.o.be.size (M7 P h).size);clear hj
    go_wp2_with (first|((with_reducible refine Gt 37 11 ?_);refine Lv 37 wx.1.size (cnC x).toArray (bI.o _) H1.o ?_;rw [dE.o])|(go_at_call 28;refine HC.o.mono ?_;rintro e w2 ⟨A',c',rfl,bL,z⟩;rw [HLX.o] at bL ⊢;have i8:=Hd bL;have aK:=Hd z;clear X bL;have d22:=IF ((Blk.new wx 37 (cnC x).toArray).below z Am);have f22:=((Blk.new wx 37 (cnC x).toArray).below z Am).free 22;have HKB:=Hd (uo (A:=A') (c:=c') ((Blk.new wx 37 (cnC x).toArray).below z Am));have dM:=Hd (Yv (LM w2 wx none A' x c') (cnC (reP x A' c')) 37 1 23 rfl);have fK:=Hd fun P=>q.o.own4 (A':=A') (c':=c') P z;clear z hl)|((with_reducible refine Gl 37 11 ?_);refine Lq 37 wx.1.size _ HKB.o underlying37 ?_)|((with_reducible refine Gc 22 ?_);refine JR rfl 22 37 1 _ rfl (cnC (reP x A' c')).toArray i0 (.agg zV.toArray) underlying22 bC D (by rw [S];decide) (by rw [S];decide) (by rw [S];kernel_rfl) ?_)|(at_builtin;go_must (refine Ui _ rfl _ _ 22 rfl w0.1.size 37 i0 _ 23 216 underlying22 bC D S aT rfl Ac (.slice av out.length cv) out.length (U7 cnC out) rfl (fK.o _) ((LM w2 wx none A' x c').1.size+1) (Ah ((LM w2 wx none A' x c').1.size) 0) 1 1 (cnC (reP x A' c')) rfl dM.o (Ic (reP x A' c')) I.o C.o (J.o _ aK.o A' c' _) ?_;intro v' w5 aD aI G;have HNK:=Hd (q.o.step dI.o.le dI.o.rz aK.o i8.o aD aI G);clear aD aI G)))
    go_roundw
    .exact ⟨j+1,out++[reP x A' c'],by have:=bA.o;omega,Au,by rw [WW,Q.o];rfl,by rw [u.o,XM,XM,aX.o];rfl,HNK.o⟩
    .simp [intOf];have:=bA.o;omega
   .obtain rfl:j=m:=Oo
    have HE:Aw ((out.map plC).map some=(idsP s).map (Vc s)):=Hd (by rw [aG,WU (by rw [HM.o];exact Le _)]);clear aG hnk;go_wp2
    go_ret2
    have D:w.1.size<=w0.1.size:=Lx N.o.size eL.o.size;refine ⟨av,cv,out,rfl,?_,fun a ha=>Lx D (Pj q.o.own a.block (by rw [ha];rfl)).2,fun y hy=>⟨(q.o.ps y hy).1,fun h0 a ha=>Lx D (q.o.nw y hy h0 a ha)⟩,HE.o,by rw [Q.o];exact iW,U0 N.o (eL.o.trans (q.o.be.mono eL.o.size)) N.o.size⟩;exact Sl.of_own (f:=cnC) (k:=23) (fun _=>rfl) Ac q.o.own
end
section
variable {iA:Option Addr} {im ic:Nat} {ini:List Cnt} {A:Option Addr} {n c:Nat} {l:List Com} {w:Wd}
def LZ.replay (h:LZ iA im ic ini A n c l w):Calls prog 9 #[.slice iA im ic,.slice A n c] w (jt (P8 ini l) w):=
 Du _ iA im ic A n c w
  (fun s b=>oJ h.hiw (by have:=h.hi.len;have:=(fewA_facts h.few).1;omega) (by rw [h.hs.1.len];exact (fewA_facts h.few).2.1) (fun u a=>by rw [(h.hs.2 u a).2.1.len];exact (h.sm u a).2.1) b)
  (yQ iA im ic ini A n c l w h.hi h.hip (by have:=(fewA_facts h.few).1;omega) h.hs (fun x d=>(h.sm x d).1) (fewA_facts h.few).2.1 h.ht h.hc)
def zS {l a:List Cnt} (h:l.map plC=a.map plC):CK l a:=by
 have b:=XK (List.map fun y:PC=>(y.d,y.ps)) h;rw [JD,JD] at b;exact b
def replays_few (iA:Option Addr) (im ic:Nat) (ini:List Cnt) (A:Option Addr) (n c:Nat) (l:List Com) (w:Wd) (h:LZ iA im ic ini A n c l w) (o:Awk w):
  Calls prog 4 #[.slice iA im ic,.slice A n c] w (Ab w (.bool true)):=by
 have z:=Hd (Cm iA im ic ini A n c l w h.hi (fun x q=>(h.hip x q).sl) h.hs);rw [h.few] at z;have Q:=Hd o;have D:=Hd fun W (B:Below w.1.size w W)=>(h.next B).replay
 have F:=Hd fun W (B:Below w.1.size w W)=>R2 iA im ic ini A n c l W (h.next B).fp
 have b:=Dv ini l;clear h o;obtain ⟨R,V⟩:=yG (P8 ini l);obtain ⟨S,X⟩:=yG (Dw ini l);rw [V] at D b;rw [X] at F b;clear V X;cases R with
 |inl er=>
  cases S with
  |inr t=>exact b.elim
  |inl L=>
   obtain rfl:er=L:=b;have E:=Hd fun W=>J3 none none 0 0 0 [] [] W Sl.nil Sl.nil (fun x q=>by cases q) (fun x q=>by cases q) Oo rfl
   go_in;go_wp2_with (first|(go_at_call 5;refine yN z.o fun w2 k=>?_)|(go_at_call 9;refine (D.o _ k.o).mono ?_;rintro e Z ⟨_,rfl,r⟩;have i:=Hd (U0 k.o r k.o.size);clear r)|(go_at_call 10;refine (F.o _ i.o).mono ?_;rintro e u ⟨_,rfl,H⟩;have p:=Hd (U0 i.o H i.o.size);clear H)|(go_at_call 11;refine yP (E.o _) fun w5 m=>?_;have j:=Hd (U0 p.o m p.o.size);clear m)|(go_at_call 6;refine yP (Q.o _ j.o) fun w9 f=>?_;have G:=Hd (U0 j.o f j.o.size);clear f));go_ret;exact ⟨rfl,G.o⟩
 |inr s=>
  cases S with
  |inl L=>exact b.elim
  |inr t=>
   have C:=Hd b;clear b;go_in
   go_wp2_with (first|(go_at_call 5;refine yN z.o fun w2 k=>?_)|(go_at_call 9;refine (D.o _ k.o).mono ?_;rintro e Z ⟨U,c3,g,rfl,J,_,P,I,K,r⟩;have M:=Hd (And.intro J fun y hy=>(P y hy).1);have N:=Hd (And.intro (rk C.o I) K);have i:=Hd (U0 k.o r k.o.size);clear r J P I K)|(go_at_call 10;refine (F.o _ i.o).mono ?_;rintro e u ⟨v,d,Y,rfl,a⟩;have HRJ:=Hd a;have E:Aw (Calls prog 11 #[.slice U g.length c3,v] u (Ab u (.bool true))):=(Hd (by obtain ⟨A4,c4,rfl,_⟩:=U4 a.nw.own;have T:g.map plC=d.map plC:=N.o.1.trans Y.symm;have hl:d.length=g.length:=(by simpa using (XK List.length T).symm);have O:=a.nw.sl.1;rw [hl] at O ⊢;exact J3 U A4 g.length c3 c4 g d u (M.o.1.after a.be a.be.size) O (fun y hy=>(M.o.2 y hy).below a.be) (fun y hy=>(a.nw.ps y hy).1) N.o.2 (zS T)));have p:=Hd (U0 i.o a.be i.o.size);clear a Y)|(go_at_call 11;refine yP E.o fun w5 m=>?_;have j:=Hd (U0 p.o m p.o.size);clear m)|(go_at_call 6;refine yP (Q.o _ j.o) fun w9 f=>?_;have G:=Hd (U0 j.o f j.o.size);clear f))
   go_ret;exact ⟨rfl,G.o⟩
end
end Go.Proofs.YtdleakjejodjjaaGreatDoor
