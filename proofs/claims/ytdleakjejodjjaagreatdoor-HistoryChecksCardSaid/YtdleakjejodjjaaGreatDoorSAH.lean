/- Of the history laws. -/
import Derived.Test.YtdleakjejodjjaaGreatDoorSAE
namespace Go.Proofs.YtdleakjejodjjaaGreatDoor
open Tryz
set_option linter.defProp false
set_option linter.unusedVariables false
set_option linter.unusedSimpArgs false
set_option maxRecDepth 100000
set_option maxHeartbeats 20000000
open Go.RowKit
section
variable {w:Wd} {g:Nat} {t:TypeId} {cs:Array Value} {j:Nat} {v:Value} {W:Wd}
section
variable {P:Program} {ops:Array Oper} {rest:List Oper} {o:Oper} {a:Act} {w:Wd} {Q:Exit->Act->Wd->Prop}
def V3 (hw:Region.wanted o (yielded ops a.tmps)=true) (ty:TypeId) (x:Operand) (e:o.op=.load ty x)
  (b s:Nat) (m:a.eval x=(Ag b s)) (cs:List Value) (d:TypeDesc) (k:w.rangeAt b s cs)
  (i:P.underlying ty=some d) (c:d.isRow=true) (l:(P.info? ty).map (·.size)=some cs.length)
  (h:wpList P ops Q rest (a.put o.dst (.agg cs.toArray)) w):wpList P ops Q (o::rest) a w:=
 Yl hw fun _ f=>wp_load_mid ty x e b s m cs d k i c l (f _ _ h)
end
def Blk.range (h:Blk w g t cs) (o:Nat) (xs:List Value) (c:∀ j v,xs[j]? =some v->cs[o+j]? =some v):w.rangeAt g o xs:=
 fun j v b=>(h.cell (o+j)).trans (c j v b)
def nV:List Value:=[.int .i64 5,.int .i64 0,.int .i64 200,.string ⟨#[107]⟩,.string ⟨#[107,49]⟩,.string ⟨#[]⟩]
def cV:List Value:=[.int .i64 0,.int .i64 200,.string ⟨#[107]⟩,.string ⟨#[107,49]⟩,.string ⟨#[]⟩]
def mz {xs b:List Value} (h:xs[j]? =some v):(xs++b).toArray[0+j]? =some v:=by
 obtain ⟨c,_⟩:=QZ.1 h;rw [Ga,QB,WF c,h]
structure EV (w W:Wd):Prop where
 b1:Blk W w.1.size 37 (aV 200).toArray
 b2:Blk W (w.1.size+1) 108 nV.toArray
 b3:∃ old,old.size=23/\Blk W (w.1.size+2) 37 old
 sz:w.1.size+3<=W.1.size
 be:Below w.1.size w W
def Uf {B:Nat} {b:Wd} (d:Below B b w) (c:B<=g) (cs:Array Value):Below B b (w.setRow g cs):=
 d.trans ⟨rfl,rfl,rfl,Am,fun k e=>QE w g k cs Oo⟩
def Us (W:Wd) (b:Nat) (cs:Array Value) (h:Blk W b 37 cs) (c:cs.size=23):(loadVar 37 ⟨b,0,none⟩).run prog W=.ok (.agg cs) W:=
 ZQ W b 37 37 cs (0,0) _ h underlying37 rfl (by rw [c];kernel_rfl)
def U2 {P:Program} {e:Func} {d:Array Value} {p q:Nat} {b:Nat} {c:Value} (h:e.results=#[.cell p t,.tmp q]) (f:d.getD p undef=(Ag b 0)) (i:d.getD q undef=v)
  (k:(loadVar t ⟨b,0,none⟩).run P W=.ok c W):(results e d).run P W=.ok (.tuple #[c,v]) W:=by
 have l:d[p]?.getD undef=Ag b 0:=by simpa using f
 have m:d[q]?.getD undef=v:=by simpa using i
 simp [results,h,l,m,asAddr,k]
def Mu (W:Wd):Below W.1.size W (W.alloc (.map ef4 4)):=Aj
end
structure XV (bs:Nat) (w W:Wd):Prop where
 b1:Blk W (w.1.size+1+1+1) 50 cV.toArray
 st:St W bs (aV 200)
 lt:bs<w.1.size
 sz:w.1.size+5<=W.1.size
 be:Below w.1.size w W
def U5 (X:Wd) (a cs:Array Value) (t:TypeId):(X.alloc (.cells a t)).setRow X.1.size cs=X.alloc (.cells cs t):=World.setRow_alloc_new X a cs t
section
variable {w w':Wd} {g:Nat} {b:Bool} {A:Option Addr} {n c:Nat} {W:Wd} {ap:Int}
def PR (b:Bool) (w:Wd) (A:Option Addr) (n c:Nat):Prop:=
 if b=true then ∃ g,A=some ⟨g,0,none⟩/\n=1/\1<=c/\c<=maxLen/\g<w.1.size/\w.rangeAt g 0 [.string ⟨#[107]⟩,.string ⟨#[107,49]⟩] else A=none/\n=0/\c=0
def Zm {B o:Nat} {xs:List Value} (h:w.rangeAt g o xs) (d:Below B w w') (e:g<B):w'.rangeAt g o xs:=fun j v a=>(d.cell (p:=⟨g,o+j,none⟩) e).trans (h j v a)
def PR.below (h:PR b w A n c) (e:Below w.1.size w w'):PR b w' A n c:=by
 cases b with
 |false=>exact h
 |true=>
  obtain ⟨g,i,f,k,a,d,j⟩:=h;exact ⟨g,i,f,k,a,WK d e.size,Zm j e d⟩
def PR.of_own {base:Nat} (h:w.ownsRow base 74 2 (.slice (Ah g 0) 1 c) 1 [.string ⟨#[107]⟩,.string ⟨#[107,49]⟩]):PR true w (Ah g 0) 1 c:=by
 obtain ⟨A',c',e,f,a⟩:=U4 h;injection e with _ _ e
 subst e;refine ⟨g,rfl,rfl,f,a,(h.lt g rfl).2,fun j v d=>?_⟩;rw [QB];have:=h.cells (g:=g) rfl j v d
 rwa [show ((⟨g,0,none⟩:Addr).add j)=⟨g,j,none⟩ from by unfold Addr.add;split<;>simp_all] at this
def PR.rd (h:PR true w A n c):Rd w w.1.size 2 A n [.string ⟨#[107]⟩,.string ⟨#[107,49]⟩]:=by
 obtain ⟨g,rfl,rfl,_,_,a,d⟩:=h;exact ⟨rfl,fun _=>⟨g,0,rfl,a,fun j u e=>d j u e⟩⟩
def PR.set (h:PR b w A n c) (p:Addr) (v:Value) (i:∀ a,A=some a->p.block<a.block):PR b (w.setCell p v) A n c:=by
 cases b with
 |false=>exact h
 |true=>
  obtain ⟨g,f,k,q,d,l,m⟩:=h;have r:p.block<g:=i _ f;exact ⟨g,f,k,q,d,by simpa using l,fun j u o=>(VR w p _ v (fun e=>by subst e;simp at r)).trans (m j u o)⟩
def EI (h:w.grownBy w' none):Below w.1.size w w':=⟨h.os,h.tape,h.output,h.size,fun k a=>h.block k a Am⟩
def X8:(prog.info? 37).map (fun i=>(i.zero,i.size,i.bytes))=some (some (.agg zV.toArray),23,216):=Ak
def tQ {a:Wd} {o d:Obj} {p:Addr} {v:Value} (h:Below (w.alloc o).1.size (w.alloc o) a):w.1.size<=((a.setCell p v).alloc d).1.size:=by
 have:=h.size;simp at this ⊢;omega
end
section
variable {w w5 w7:Wd} {g:Nat} {W:Wd} {x:Bz} {y:Int}
def O1 {base h c n k:Nat} {t:TypeId} {xs:List Value} (a:w.ownsRow base t k (.slice (Ah h 0) n c) n xs):w.rangeAt h 0 xs:=fun j v b=>by
 rw [QB];have:=a.cells (g:=h) rfl j v b
 rwa [show ((⟨h,0,none⟩:Addr).add j)=⟨h,j,none⟩ from by unfold Addr.add;split<;>simp_all] at this
def rV:List Value:=[.int .i64 0,.int .i64 200,.string ⟨#[107]⟩,.string ⟨#[]⟩,.string ⟨#[]⟩,.int .i64 6]
structure EX (w W:Wd) (g:Nat) (x:Bz) (y:Int):Prop where
 b1:Blk W w.1.size 48 rV.toArray
 b2:Blk W g 46 #[.string ⟨#[107]⟩,.string x,.int .i64 y]
 lt:w.1.size<g
 be:Below w.1.size w W
end
def RH (g:Nat) (p:Pr->Bool) (A:Option Addr) (n c:Nat) (l:List Pr) (w:Wd) (u:Sl prC 2 w w.1.size A n c l) (hn:n<=9223372036854775807)
  (z:∀ x∈l,∀ W:Wd,Below w.1.size w W->Calls prog 285 #[.agg #[.string x.key,.string x.rcd],Ag g 0] W (Ab W (.bool (p x)))):
  Calls prog 191 #[.slice A n c,.func (.func 285) #[] #[Ag g 0]] w (Ab w (.int .i64 (if l.findIdx p<n then (l.findIdx p:Int) else -1))):=by
 have J:=Hd u;have I:=Hd u.len;have H:=Hd z;clear u z;obtain ⟨R,s⟩:=yH ((if l.findIdx p<n then (l.findIdx p:Int) else -1):Int);rw [s.o];go_wp2;go_loopw [8] (fun i wr=>∃ j:Nat,j<=n/\i=.int .i64 j/\(∀ t,t<j->∀ e,l[t]? =some e->p e=false)/\Below w.1.size w wr) (fun i _=>n-(intOf i).toNat)
 .exact ⟨0,Z0 _,rfl,fun t h=>absurd h Oo,Bf _ _⟩
 .obtain ⟨j,hj,rfl,hall,aF⟩:=hrel;have r:=Hd hall;have D:=aF.size;clear hall;by_cases B:j<n
  .obtain ⟨b,o,x,rfl,hb,hg,aB⟩:=Sl.cell (f:=prC) (k:=2) (fun _=>rfl) (J.o.below aF) B;have K:=aB 0 _ rfl;have c1:=aB 1 _ rfl;simp only [QF] at K;have C:=Hd (H.o x (QJ hg) wr aF);have E:=Hd hg;clear hg aB;cases d:p x with
   |true=>
    have m:R=(j:Int):=by rw [<-s.o,Vn r.o E.o d,QK B]
    have v:=Hd m;have q:=Hd d;clear m d;go_wp2_with fail;refine yP C.o fun F a=>?_
    rw [q.o];have y:=U0 aF a D;clear a;go_wp2;go_ret;exact ⟨by rw [v.o];rfl,y⟩
   |false=>
    have q:=Hd d;clear d;go_wp2_with fail;refine yP C.o fun F a=>?_
    rw [q.o];have y:=U0 aF a D;clear a;go_wp2;go_roundw
    .refine ⟨j+1,Oo,Au,fun t G e he=>?_,y⟩;by_cases h:t=j
     .subst h;rw [E.o] at he;injection he with he;subst he;exact q.o
     .exact r.o t Oo e he
    .exact At
  .have m:R = -1:=by rw [<-s.o,Vj I.o (fun t G=>r.o t Oo),QX Oo]
   have v:=Hd m;clear m;go_wp2;go_ret;exact ⟨by rw [v.o];rfl,aF⟩
def Kd {w:Wd} {b i:Nat} {v:Value} (h:w.cell? ⟨b,i,none⟩=some v):b<w.1.size:=by
 rcases ZW b w.1.size with c|a
 .exact c
 .simp [World.cell?,XH a] at h
def Oy (k:Bz) (x:Pr) (b:Nat) (w:Wd) (h:w.cell? ⟨b,0,none⟩=some (.string k)):
  Calls prog 285 #[.agg #[.string x.key,.string x.rcd],Ag b 0] w (Ab w (.bool (!Un x.key k))):=by
 obtain ⟨xk,xr⟩:=x;show Calls prog _ _ w fun e w'=>e=.returned (.bool (!Un xk k))/\_
 have d:=Kd h;obtain ⟨R,a⟩:=yG (Un xk k);have c:Op.bytesLess xk.toList k.toList=R:=a;rw [a];clear a;cases R
 all_goals
  go_wp2;go_ret;exact ⟨rfl,Aj⟩
def geK (k:Bz) (p:Pr):Bool := !Un p.key k
def Y6 (l:List Pr) (k:Bz):Bool:=match l[l.findIdx (geK k)]? with
 |some p=>p.key.toList == k.toList
 |none=>false
def C9 {l:List Pr} {k:Bz} {x:Pr} (h:l[l.findIdx (geK k)]? =some x):Y6 l k=(x.key.toList == k.toList):=by unfold Y6;rw [h]
def Hr {l:List Pr} {k:Bz} (h:l[l.findIdx (geK k)]? =none):Y6 l k=false:=by unfold Y6;rw [h]
def FQ (k:Bz) (A:Option Addr) (n c:Nat) (l:List Pr) (w:Wd) (g:Sl prC 2 w w.1.size A n c l) (hn:n<=maxLen):
  Calls prog 211 #[.slice A n c,.string k] w (Ab w (.tuple #[.int .i64 (l.findIdx (geK k)),.bool (Y6 l k)])):=by
 unfold maxLen at hn;have i:Below w.1.size w (Aa w #[.string k] 9):=Aj;have m:=Blk.new w 9 #[.string k];have u:l.findIdx (geK k)<=n:=by rw [<-g.len];exact KP
 have j:=Hd (RH w.1.size (geK k) A n c l (Aa w #[.string k] 9) (g.after i i.size) Oo
  fun x _ W z=>Oy k x w.1.size W ((m.below z Am).cell 0))
 have v:=Hd i;have B:=Hd m;obtain ⟨q,d⟩:=yG (l.findIdx (geK k));by_cases s:q<n
 .obtain ⟨b,o,x,rfl,hb,hg,aB⟩:=Sl.cell (f:=prC) (k:=2) (fun _=>rfl) g s;have e:Y6 l k=(x.key.toList == k.toList):=C9 (by rw [d];exact hg);have a:=aB 0 _ rfl;simp only [QF] at a;obtain ⟨xk,xr⟩:=x;simp only at a e;obtain ⟨R,C⟩:=yG (xk.toList == k.toList);rw [e,d,C];simp only [d,QK s] at j;have t:=Hd a;have D:=Hd hb;clear g i m u hg aB e d a hb;go_in;go_wp2_with (go_at_call 191;refine yP j.o fun y h=>?_;have r:=Hd (v.o.trans (h.mono Am));have E:=(r.o.cell (p:=⟨b,o+q*2,none⟩) D.o).trans t.o;have c1:y.cell? ⟨w.1.size,0,none⟩=some (.string k):=(B.o.below h Am).cell 0;clear h)
  go_quiet (fail)
  go_wp2
  go_ret2
  exact ⟨rfl,Uk r.o _⟩
 .have hqn:q=n:=Oo
  subst hqn;have e:Y6 l k=false:=Hr (by rw [d,<-g.len];exact WM (Le _));rw [e,d];simp only [d,QX s] at j;clear g i m u e d;go_in;go_wp2_with (go_at_call 191;refine yP j.o fun y h=>?_;have r:=Hd (v.o.trans (h.mono Am));clear h)
  go_ret2
  exact ⟨rfl,r.o⟩
section
variable {w w':Wd} {x:Cnt} {k n c base:Nat} {t:TypeId} {xs:List Value} {A:Option Addr} {W:Wd} {b:Nat}
structure CW (w:Wd) (x:Cnt):Prop where
 sl:Sl prC 2 w w.1.size x.pA x.pn x.pc x.ps
 le:x.pn<=1024
 nil:x.pA=none->x.pc=0
 rz:∀ q∈x.ps,q.rcd.size<=maxLen
def CW.below (h:CW w x) (a:Below w.1.size w w'):CW w' x:=⟨h.sl.after a a.size,h.le,h.nil,h.rz⟩
def Sl.none_len {α:Type} {f:α->List Value} {B:Nat} {l:List α} (h:Sl f k w B none n c l):n=0:=by
 rcases WB n with a|a
 .exact a
 .obtain ⟨b,o,e,_⟩:=h.rd.2 a;cases e
def Q4 (w:Wd) (l:List Pr) (e:Ending) (w':Wd):Prop:=∃ A c,e=.returned (.slice A l.length c)/\w'.ownsRow w.1.size 74 2 (.slice A l.length c) l.length (U7 prC l)/\Below w.1.size w w'
def Pi (h:w.ownsRow base t k (.slice A n c) n xs):A=none->c=0:=by
 intro d;subst d;rcases h.2 with ⟨a,_⟩|⟨_,_,_,a,_⟩
 .injection a
 .injection a with hA _ _
  cases hA
def CW.of_own {d:DSet} {e:Int} {l:List Pr} (h:w.ownsRow base 74 2 (.slice A l.length c) l.length (U7 prC l)) (a:l.length<=1024) (hz:∀ q∈l,q.rcd.size<=maxLen):CW w ⟨d,e,A,l.length,c,l⟩:=
 ⟨Sl.of_own (fun _=>rfl) Ac h,a,Pi h,hz⟩
def Cy (A:Option Addr) (n c:Nat) (l:List Pr) (w:Wd) (d:Sl prC 2 w w.1.size A n c l) (hn:n<=1100) (h:A=none->c=0):
  Calls prog 28 #[.slice A n c] w (Q4 w l):=by
 have f:=d.len;subst f
 match A,d,h with
 |none,d,h=>
  have u:=d.none_len;obtain rfl:l=[]:=QA u;obtain rfl:=h rfl;exact (B5 w).mono fun e w' ⟨B,q⟩=>⟨none,0,B,⟨rfl,.inl ⟨rfl,rfl⟩⟩,q▸Bf _ _⟩
 |some a,d,_=>
  have H:∀ (w:Wd) (a:Option Addr) (n c g c':Nat),(binOp .eql 35 (.slice a n c) (.slice none g c')).run prog w=.ok (.bool a.isNone) w:=fun w a n c g c'=>KA w _ _ a n c g c' underlying35
  obtain ⟨C,v,F,s,p⟩:=WG Vl;have o:=d.rd.alloc (Le _) (.cells #[] 74);have D:=WC (e:=74) (base:=w.1.size) (size:=2) w #[] 0 (Le _) Ac rfl;have E:=Yx l;clear d;obtain ⟨n,j⟩:=yH l.length;rw [j.o] at o hn ⊢;go_in;go_wp2_with (at_builtin;go_must (refine Ui _ rfl _ _ 35 rfl w.1.size 74 C _ 2 32 underlying35 v F s p rfl Ac _ _ _ rfl D w.1.size (some a) n c (U7 prC l) rfl o E (by have:=hn;unfold maxLen;omega) (by have:=hn;omega) Am ?_;intro G w' r m _;have y:World.grownBy _ w' (Value.slice (Ah w.1.size 0) 0 0).ownBlock:=m;clear m));go_ret;have i:=r;rw [QB] at i;obtain ⟨A',c',rfl,_⟩:=U4 i
  refine ⟨A',c',by rw [j.o];rfl,?_,Aj.grown y Am (by intro k z;simp [Value.ownBlock] at z;omega)⟩;rw [j.o];simpa using i
def Ic (x:Cnt):∀ u∈cnC x,u.oneCell'=true:=by
 intro u a;have:=Va x;simp only [List.all_toArray,WE] at this;exact this u a
def reP (x:Cnt) (A:Option Addr) (c:Nat):Cnt:=⟨x.d,x.ap,A,x.pn,c,x.ps⟩
structure R1 (w:Wd) (h:Nat) (x:Cnt):Prop where
 lt:h<w.1.size
 rg:∃ A c,w.rangeAt h 0 (cnC (reP x A c))/\CW w (reP x A c)
def R1.below {h:Nat} (k:R1 w h x) (a:Below w.1.size w w'):R1 w' h x:=by
 obtain ⟨A,c,e,d⟩:=k.rg;exact ⟨WK k.lt a.size,A,c,Zm e a k.lt,d.below a⟩
def CL (x:Cnt) (w:Wd) (e:Ending) (w':Wd):Prop:=∃ h c,e=.returned (.iface 126 (.slice (Ah h 0) 1 c))/\R1 w' h x/\Below w.1.size w w'
def IF (h:Blk W b 37 (cnC x).toArray):W.cell? ⟨b,22,none⟩=some (.slice x.pA x.pn x.pc):=(h.cell 22).trans rfl
def uo (h:Blk W b 37 (cnC x).toArray):Blk (W.setCell ⟨b,22,none⟩ (.slice A x.pn c)) b 37 (cnC (reP x A c)).toArray:=by
 have e:(cnC x).toArray.setIfInBounds 22 (.slice A x.pn c)=(cnC (reP x A c)).toArray:=rfl;have:=h.set 22 (.slice A x.pn c)
 rwa [e] at this
def CW.of_own' (h:w.ownsRow base 74 2 (.slice A x.pn c) x.pn (U7 prC x.ps)) (a:x.pn<=1024) (hz:∀ q∈x.ps,q.rcd.size<=maxLen):CW w (reP x A c):=
 ⟨Sl.of_own (fun _=>rfl) Ac h,a,Pi h,hz⟩
def oN (x:Cnt) (A:Option Addr) (c r h a:Nat) (w i d:Wd) (o:Obj) (e:Below (Aa w (cnC x).toArray 37).1.size (Aa w (cnC x).toArray 37) i)
  (u:i.ownsRow (Aa w (cnC x).toArray 37).1.size 74 2 (.slice A x.pn c) x.pn (U7 prC x.ps)) (y:x.pn<=1024) (f:∀ q∈x.ps,q.rcd.size<=maxLen)
  (m:d.ownsRow w.1.size 37 23 (.slice (Ah h 0) 1 a) r (cnC (reP x A c))) (l:((i.setCell ⟨w.1.size,22,none⟩ (.slice A x.pn c)).alloc o).grownBy d none):
  CL x w (.returned (.iface 126 (.slice (Ah h 0) 1 a))) d:=by
 have hz:=e.size;simp at hz;have B:=(Blk.new w _ _).below e Am;have p:=BN u B Ac 22 (.slice A x.pn c);have s:=Ub (p.alloc o) (EI l);refine ⟨h,a,rfl,⟨(m.lt h rfl).2,A,c,fun j v z=>?_,CW.of_own' s y f⟩,?_⟩
 .rw [QB];have:=m.cells (g:=h) rfl j v z
  rwa [show ((⟨h,0,none⟩:Addr).add j)=⟨h,j,none⟩ from by unfold Addr.add;split<;>simp_all] at this
 .refine Below.trans ?_ ((EI l).mono As);exact (((((Bf w.1.size w).alloc (Le _) _).trans (e.mono Am)).setCell (Le _) _)).alloc As _
def uL (x:Cnt) (g cc:Nat) (w:Wd) (d:CW w x) (L:w.rangeAt g 0 (cnC x)):
  Calls prog 44 #[.slice (Ah g 0) 1 cc] w (CL x w):=by
 obtain ⟨y,u,z,j,B⟩:=WG X8;have K:=Va x;have H:=fun a=>Blk.new w 37 a
 have M:=fun a=>U5 w a (cnC x).toArray 37
 have f:=d.sl.len;have I:∀ o,Calls prog 28 #[.slice x.pA x.pn x.pc] (w.alloc o) (Q4 (w.alloc o) x.ps):=fun o=>Cy x.pA x.pn x.pc x.ps (w.alloc o) (d.sl.after Aj Am) (by have:=d.le;omega) d.nil
 have F:=d.le;have m:=d.rz;have q:=IF (Blk.new w 37 (cnC x).toArray);clear d;go_wp2;apply Lu 2;rw [Rs]
 go_wp2_with (first|(with_reducible apply yM 37 10 L)|(with_reducible apply yS 37 5 (H _) K;rw [M])|(go_at_call 28;apply (I _).mono;rintro e l ⟨A',c',rfl,s,i⟩;rw [f] at s ⊢;clear q;have C:=IF ((Blk.new w 37 (cnC x).toArray).below i Am);have G:=((Blk.new w 37 (cnC x).toArray).below i Am).free 22;have N:=uo (A:=A') (c:=c') ((Blk.new w 37 (cnC x).toArray).below i Am);have J:=Yv (l.setCell ⟨w.1.size,22,none⟩ (.slice A' x.pn c')) (cnC (reP x A' c')) 37 1 23 rfl)|(with_reducible apply yL 37 5 N)|((with_reducible apply Gc 126);refine JR rfl 126 37 1 _ rfl (cnC (reP x A' c')).toArray y (.agg zV.toArray) underlying126 u z (by rw [j];decide) (by rw [j];decide) (by rw [j];kernel_rfl) ?_)|(at_builtin;go_must (apply Ui _ rfl _ _ 126 rfl w.1.size 37 y _ 23 216 underlying126 u z j B rfl Ac (.slice none 0 0) 0 [] rfl ⟨rfl,.inl ⟨rfl,rfl⟩⟩ ((l.setCell ⟨w.1.size,22,none⟩ (.slice A' x.pn c')).1.size+1) (Ah ((l.setCell ⟨w.1.size,22,none⟩ (.slice A' x.pn c')).1.size) 0) 1 1 (cnC (reP x A' c')) rfl J (Ic (reP x A' c')) Ac Ac (tQ i);intro O D r v _;have E:=v;clear v)))
 rw [Rs];go_wp2;go_ret;obtain ⟨h,p,rfl,_⟩:=J7 r Ac;exact oN x _ _ _ h p w l D _ i s F m r E
def T4 (w:Wd):Calls prog 44 #[.slice none 0 0] w (Ab w (.iface 126 (.slice none 0 0))):=by
 go_wp2;apply Lu 1;rw [Rs];go_wp2;go_ret;exact ⟨rfl,Bf _ _⟩
def xm (x:Cnt) (b:Nat) (w:Wd) (h:w.cell? ⟨b,0,none⟩=some (.int .i64 x.d.id)):
  Calls prog 438 #[.agg (cnC x).toArray,Ag b 0] w (Ab w (.bool true)):=by
 have a:=Kd h;have d:=(Blk.new w 37 (cnC x).toArray).ce 0 (.int .i64 x.d.id);have c1:(Aa w (cnC x).toArray 37).cell? ⟨b,0,none⟩=some (.int .i64 x.d.id):=(XC w _ _ a).trans h;clear h a;go_wp2;go_ret;exact ⟨Am,Aj⟩
theorem lM {G:Prop} (h:G:=by
  go_wp2;refine Lu 1 ?_;rw [Rs]
  first
   |go_wp2_with (first|(with_reducible refine yM 37 14 HR.o ?_)|(go_at_call 438;refine yN HC.o fun w2 HB=>?_))
    go_ret;exact ⟨rfl,HB.o⟩
   |go_wp2
    go_ret;exact ⟨rfl,rfl⟩):G:=h
def yf (x:Cnt) (b h cc:Nat) (w:Wd) (d:w.cell? ⟨b,0,none⟩=some (.int .i64 x.d.id)) (a:w.rangeAt h 0 (cnC x)):
  Calls prog 437 #[.slice (Ah h 0) 1 cc,.func (.func 438) #[] #[Ag b 0]] w (Ab w (.int .i64 0)):=by
 have HR:=Hd a;have HC:=Hd (xm x b w d);clear a d;exact lM
def Rf (b:Nat) (w:Wd):
  Calls prog 437 #[.slice none 0 0,.func (.func 438) #[] #[Ag b 0]] w (Ae w (.int .i64 (-1))):=by
 exact lM
def sX (x:Cnt) (h cc:Nat) (w:Wd) (d:h<w.1.size) (e:w.rangeAt h 0 (cnC x)):
  Calls prog 436 #[.slice (Ah h 0) 1 cc,.int .i64 x.d.id] w (Ab w (.slice x.pA x.pn x.pc)):=by
 have i:=yf x w.1.size h cc (Aa w #[.int .i64 x.d.id] 3) ((Blk.new w 3 #[.int .i64 x.d.id]).cell 0) (Zm e Aj d);go_in;go_wp2_with (go_at_call 437;refine yP i fun j f=>?_;have a:=((Bf w.1.size w).alloc (Le _) _).trans (f.mono Am);clear f;have g:=(Zm e a d 22 (.slice x.pA x.pn x.pc) rfl));go_ret;exact ⟨rfl,a⟩
def TV (id:Int) (w:Wd):Calls prog 436 #[.slice none 0 0,.int .i64 id] w (Ab w (.slice none 0 0)):=by
 have a:=Rf w.1.size (Aa w #[.int .i64 id] 3);go_in;go_wp2_with (go_at_call 437;apply yE a);go_ret;exact ⟨rfl,Aj⟩
def Px (l:List Pr) (k:Bz):Bz×Int:=if Y6 l k=true then (match l[l.findIdx (geK k)]? with|some p=>(p.rcd,0)|none=>(⟨#[]⟩,6)) else (⟨#[]⟩,6)
def nxI (l:List Pr) (k:Bz):Nat:=if Y6 l k=true then l.findIdx (geK k)+1 else l.findIdx (geK k)
def Ns (l:List Pr) (k:Bz):Bz×Bz×Int:=match l[nxI l k]? with|some p=>(p.key,p.rcd,0)|none=>(⟨#[]⟩,⟨#[]⟩,6)
def T6 (v:Bz×Int) (w:Wd) (e:Ending) (w':Wd):Prop:=e=.returned (.tuple #[.string v.1,.int .i64 v.2])/\Below w.1.size w w'
def NP (v:Bz×Bz×Int) (w:Wd) (e:Ending) (w':Wd):Prop:=e=.returned (.tuple #[.string v.1,.string v.2.1,.int .i64 v.2.2])/\Below w.1.size w w'
structure RS (w:Wd) (sv:Value) (id:Int) (x:Cnt):Prop where
 cw:CW w x
 pairs:∀ W,Below w.1.size w W->Calls prog 436 #[sv,.int .i64 id] W (Ab W (.slice x.pA x.pn x.pc))
def jv (A:Option Addr) (n c:Nat) (id:Int) (k:Bz) (x:Cnt) (w:Wd) (d:RS w (.slice A n c) id x):
  Calls prog 434 #[.slice A n c,.int .i64 id,.string k] w (T6 (Px x.ps k) w):=by
 have l:=d.pairs w (Bf _ _);have a:=fun W (g:Below w.1.size w W)=>FQ k x.pA x.pn x.pc x.ps W (d.cw.below g).sl (by have:=d.cw.le;unfold maxLen;omega)
 have s:x.ps.findIdx (geK k)<=x.pn:=by rw [<-d.cw.sl.len];exact KP
 by_cases e:Y6 x.ps k=true
 .have aE:x.ps.findIdx (geK k)<x.pn:=by
   rcases ZW (x.ps.findIdx (geK k)) x.pn with h|h
   .exact h
   .have h2:=WM (by rw [d.cw.sl.len];exact h);rw [Hr h2] at e;cases e
  obtain ⟨b,o,p,z,E,u,y⟩:=Sl.cell (f:=prC) (k:=2) (fun _=>rfl) d.cw.sl aE;have m:Px x.ps k=(p.rcd,0):=by unfold Px;rw [QK e,u]
  have j:=y 1 _ rfl;rw [m];simp only [e] at a;obtain ⟨q,v⟩:=yG (x.ps.findIdx (geK k));simp only [v] at a aE j;rw [z] at l a;have C:=d.cw.le;generalize x.pn=F at l a aE C;generalize x.pc=G at l a;clear d s e z u y m v;go_in;go_wp2_with (first|(go_at_call 436;refine yN l fun D i=>?_)|(go_at_call 211;refine yP (a _ i) fun B g=>?_;have r:=U0 i g i.size;have c1:=(r.cell (p:=⟨b,o+q*2+1,none⟩) E).trans j;clear g))
  go_ret2
  exact ⟨rfl,r⟩
 .have hh':Y6 x.ps k=false:=by simpa using e
  have m:Px x.ps k=(⟨#[]⟩,6):=by unfold Px;rw [QX e]
  rw [m];simp only [hh'] at a;generalize x.ps.findIdx (geK k)=q at a;clear d s e hh' m;go_in;go_wp2_with (first|(go_at_call 436;refine yN l fun D i=>?_)|(go_at_call 211;refine yP (a _ i) fun B g=>?_;have r:=U0 i g i.size;clear g))
  go_ret2
  exact ⟨rfl,r⟩
theorem lO {G:Prop} (h:G:=by
  .rw [WM (by rw [hx.cw.sl.len];omega)];generalize x.pn=pn at HC HF aE aM bF;generalize x.pc=pc at HC HF;clear hx hi hq ht;go_in;go_wp2_with (first|(go_at_call 436;refine yN HC fun w2 HB=>?_)|(go_at_call 211;refine yP (HF _ HB) fun w3 hb=>?_;have bD:=Hd (U0 HB hb HB.size);clear hb))
   go_ret3
   exact ⟨rfl,bD⟩):G:=h
theorem lN {G:Prop} (h:G:=by
  obtain ⟨b,o,p,hA,hb,hg,aB⟩:=Sl.cell (f:=prC) (k:=2) (fun _=>rfl) hx.cw.sl aE;have c0':=aB 0 _ rfl;have c1':=aB 1 _ rfl;simp only [QF] at c0';rw [hg];rw [hA] at HC HF;have HCE0:=Hd c0';have HCE:=Hd c1';have fX:=Hd hb;generalize x.pn=pn at HC HF aE aM bF;generalize x.pc=pc at HC HF;clear hx hA hb hg aB hi hq ht c0' c1';go_in
  first
   |go_wp2_with (first|(go_at_call 436;refine yN HC fun w2 HB=>?_)|(go_at_call 211;refine yP (HF _ HB) fun w3 hb=>?_;have bD:=Hd (U0 HB hb HB.size);have c0:=(bD.cell (p:=⟨b,o+(q+1)*2,none⟩) fX).trans HCE0;have c1:=(bD.cell (p:=⟨b,o+(q+1)*2+1,none⟩) fX).trans HCE;clear hb))
    go_quiet (fail)
    go_wp2
    go_ret3
    exact ⟨rfl,Uk bD _⟩
   |go_wp2_with (first|(go_at_call 436;refine yN HC fun w2 HB=>?_)|(go_at_call 211;refine yP (HF _ HB) fun w3 hb=>?_;have bD:=Hd (U0 HB hb HB.size);have c0:=(bD.cell (p:=⟨b,o+q*2,none⟩) fX).trans HCE0;have c1:=(bD.cell (p:=⟨b,o+q*2+1,none⟩) fX).trans HCE;clear hb))
    go_quiet (fail)
    go_wp2
    go_ret3
    exact ⟨rfl,Uk bD _⟩):G:=h
def mE (A:Option Addr) (n c:Nat) (id:Int) (k:Bz) (x:Cnt) (w:Wd) (hx:RS w (.slice A n c) id x):
  Calls prog 435 #[.slice A n c,.int .i64 id,.string k] w (NP (Ns x.ps k) w):=by
 have HC:=hx.pairs w (Bf _ _);have HF:=fun W (hb:Below w.1.size w W)=>FQ k x.pA x.pn x.pc x.ps W (hx.cw.below hb).sl (by have:=hx.cw.le;unfold maxLen;omega)
 have bF:x.ps.findIdx (geK k)<=x.pn:=by rw [<-hx.cw.sl.len];exact KP
 have aM:=hx.cw.le;obtain ⟨t,ht⟩:=yG (Y6 x.ps k);obtain ⟨q,hq⟩:=yG (x.ps.findIdx (geK k));have hi:nxI x.ps k=if t=true then q+1 else q:=by unfold nxI;rw [ht,hq]
 simp only [ht,hq] at HF;rw [hq] at bF;unfold Ns;rw [hi];cases t with
 |true=>
  rw [QK rfl];by_cases aE:q+1<x.pn
  .exact lN
  exact lO
 |false=>
  rw [QX Ac];by_cases aE:q<x.pn
  .exact lN
  exact lO
end
def stp (n:Int) (b i:Nat):Int:=bits BinOp.or IntKind.u64 n (IntKind.u64.wrap (IntKind.u64.wrap (bits BinOp.and IntKind.u8 (b:Int) 127)*2 ^ (7*i)))
def Tm (n:Int) (b i:Nat):0<=stp n b i:=by
 unfold stp bits;exact wrap_u64_nonneg _
def Zr (s:Bz):Nat->Int->Nat->Int×Int
 |0,_,_=>(0,0)
 |f+1,n,i=>
  if i<s.size then
   if i=9/\1<bAt s i then (0,0)
   else if bAt s i<128 then (if bAt s i=0/\0<i then (0,0) else (stp n (bAt s i) i,(i:Int)+1))
   else Zr s f (stp n (bAt s i) i) (i+1)
  else (0,0)
def ID (s:Bz):Int×Int:=Zr s 10 0 0
def MA (s:Bz):∀ (f:Nat) (n:Int) (i:Nat),0<=(Zr s f n i).1/\0<=(Zr s f n i).2/\(Zr s f n i).2<=s.size
 |0,_,_=>by simp [Zr]
 |f+1,n,i=>by
  unfold Zr;split
  .split
   .simp
   .split
    .split
     .simp
     .exact ⟨Tm _ _ _,As,As⟩
    .exact MA s f _ _
  .simp
def IC (s:Bz):0<=(ID s).1/\0<=(ID s).2/\(ID s).2<=s.size:=MA s 10 0 0
def Qf {a b c d:Int} (f:a=c) (e:b=d):Ending.returned (.tuple #[.int .u64 a,.int .i64 b])=.returned (.tuple #[.int .u64 c,.int .i64 d]):=by rw [f,e]
def AN (s:Bz) (w:Wd) (x:s.size<=maxLen):Calls prog 329 #[.string s] w (Ae w (.tuple #[.int .u64 (ID s).1,.int .i64 (ID s).2])):=by
 unfold maxLen at x;obtain ⟨R,p⟩:=yH (ID s);rw [p.o];go_wp2;go_loop [4,5] (fun n i=>∃ (j f:Nat) (m:Int),j+f=10/\n=.int .u64 m/\i=.int .i64 j/\Zr s f m j=R) (fun _ i=>10-(intOf i).toNat)
 .exact ⟨0,10,0,Ac,rfl,rfl,p.o⟩
 .obtain ⟨j,f,m,hj,rfl,rfl,aG⟩:=hrel
  match f,hj,aG with
  |0,hj,aG=>
   obtain rfl:j=10:=Oo
   have c:=Hd aG;clear aG;go_wp2
   all_goals
    go_ret2
    exact ⟨Qf (by rw [<-c.o];rfl) (by rw [<-c.o];rfl),rfl⟩
  |f+1,hj,aG=>
   have A:j<10:=Oo
   have t:=Hd hj;by_cases e:j<s.size
   .obtain ⟨b,hb⟩:=yG ((s[j]).toNat);have o:bAt s j=b:=by rw [Vs s j e,hb]
    have z:=(s[j]).toNat_lt;rw [hb] at z
    have q:Zr s (f+1) m j=if j=9/\1<b then (0,0) else if b<128 then (if b=0/\0<j then (0,0) else (stp m b j,(j:Int)+1)) else Zr s f (stp m b j) (j+1):=by
     conv=>lhs;unfold Zr
     rw [QK e,o]
    rw [q] at aG;have c:=Hd aG;clear o aG q hj;by_cases l:j=9
    .subst l;by_cases u:1<b
     .go_wp2
      go_ret2
      have a:=c.o;simp [u] at a;exact ⟨Qf (by rw [<-a]) (by rw [<-a]),rfl⟩
     .by_cases h0:b=0
      .subst h0;go_wp2
       go_ret2
       have a:=c.o;simp at a;exact ⟨Qf (by rw [<-a]) (by rw [<-a]),rfl⟩
      .obtain rfl:b=1:=Oo
       go_wp2
       go_ret2
       have a:=c.o;simp at a;exact ⟨Qf (by rw [<-a];rfl) (by rw [<-a]),rfl⟩
    .have e9:((j:Int) == 9)=false:=As
     have g:=Hd l;clear l;by_cases d:b<128
     .by_cases h0:b=0
      .subst h0;by_cases k:j=0
       .subst k;go_wp2
        go_ret2
        have a:=c.o;simp at a;exact ⟨Qf (by rw [<-a];rfl) (by rw [<-a]),rfl⟩
       .have hj1:0<j:=Oo
        go_wp2
        go_ret2
        have a:=c.o;have v:=g.o;simp [v,hj1] at a;exact ⟨Qf (by rw [<-a]) (by rw [<-a]),rfl⟩
      .have e0:((b:Int) == 0)=false:=As
       have r:=Hd h0;clear h0;go_wp2
       go_ret2
       have a:=c.o;rw [QX (by intro h;exact g.o h.1),QK d,QX (by intro h;exact r.o h.1)] at a;exact ⟨Qf (by rw [<-a];rfl) (by rw [<-a]),rfl⟩
     .have a:=c.o;rw [QX (by intro h;exact g.o h.1),QX d] at a;have y:=Hd a;clear a;go_wp2
      go_round
      .exact ⟨j+1,f,stp m b j,by have:=t.o;omega,rfl,Au,y.o⟩
      .exact At
   .have a:Zr s (f+1) m j=(0,0):=by unfold Zr;rw [QX e]
    rw [a] at aG;have c:=Hd aG;clear a aG hj;go_wp2
    go_ret2
    exact ⟨Qf (by rw [<-c.o]) (by rw [<-c.o]),rfl⟩
section
variable {w:Wd} {r:Nat} {left:Bz} {err:Int} {l2:Bz}
structure Far (S:List Nat) (w w':Wd):Prop where
 os:w'.os=w.os
 tape:w'.tape=w.tape
 output:w'.output=w.output
 size:w.1.size<=w'.1.size
 block:∀ k,k<w.1.size->k ∉ S->w'.1[k]? =w.1[k]?
section
variable {w w' w'':Wd} {S T:List Nat}
def Far.refl (S:List Nat) (w:Wd):Far S w w:=⟨rfl,rfl,rfl,Le _,fun _ _ _=>rfl⟩
def Far.trans (h:Far S w w') (k:Far S w' w''):Far S w w'':=
 ⟨k.os.trans h.os,k.tape.trans h.tape,k.output.trans h.output,Lx h.size k.size,fun i a hn=>(k.block i (WK a h.size) hn).trans (h.block i a hn)⟩
def Far.next (h:Far S w w') (k:Far T w' w'') (b:∀ i∈T,i∈S\/w.1.size<=i):Far S w w'':=
 ⟨k.os.trans h.os,k.tape.trans h.tape,k.output.trans h.output,Lx h.size k.size,fun i a hn=>(k.block i (WK a h.size) (fun c=>(b i c).elim hn Oo)).trans (h.block i a hn)⟩
def Far.of_below (h:Below w.1.size w w'):Far S w w':=⟨h.os,h.tape,h.output,h.size,fun i a _=>h.block i a⟩
def Far.below {B:Nat} (h:Far S w w') (a:∀ k∈S,B<=k) (b:B<=w.1.size):Below B w w':=
 ⟨h.os,h.tape,h.output,h.size,fun i d=>h.block i (WK d b) (fun c=>by have:=a i c;omega)⟩
def Far.alloc (h:Far S w w') (o:Obj):Far S w (w'.alloc o):=
 ⟨h.os,h.tape,h.output,by simp;have:=h.size;omega,fun i a hn=>(YQ w' o i (WK a h.size)).trans (h.block i a hn)⟩
def Far.set (h:Far S w w') (g o:Nat) (v:Value) (a:g∈S\/w.1.size<=g):Far S w (w'.setCell ⟨g,o,none⟩ v):=
 ⟨h.os,h.tape,h.output,by simpa [World.setCell] using h.size,fun i c hn=>(KW w' ⟨g,o,none⟩ v i (by intro e;have b:=e;subst b;rcases a with a|a;exact hn a;omega)).trans (h.block i c hn)⟩
def Far.drewN (h:Far S w w') (n:Nat):Far S w (w'.drewN n):=⟨h.os,h.tape,h.output,h.size,h.block⟩
def Far.mono (h:Far S w w') (a:∀ k∈S,k∈T):Far T w w':=⟨h.os,h.tape,h.output,h.size,fun i b hn=>h.block i b fun k=>hn (a i k)⟩
def Blk.far' {g:Nat} {t:TypeId} {cs:Array Value} (h:Blk w g t cs) (a:Far S w w') (b:g ∉ S):Blk w' g t cs:=(a.block g h.lt b).trans h
end
def Rdr (w:Wd) (r:Nat) (left:Bz) (err:Int):Prop:=Blk w r 258 #[.string left,.int .i64 err]
def Rdr.c0 (h:Rdr w r left err):w.cell? ⟨r,0,none⟩=some (.string left):=(Blk.cell h 0).trans rfl
def Rdr.c1 (h:Rdr w r left err):w.cell? ⟨r,1,none⟩=some (.int .i64 err):=(Blk.cell h 1).trans rfl
def Rdr.set {a:Int} (h:Rdr w r left err):Rdr ((w.setCell ⟨r,1,none⟩ (.int .i64 a)).setCell ⟨r,0,none⟩ (.string l2)) r l2 a:=((Blk.set h 1 _).set 0 _)
def Rdr.setL (h:Rdr w r left err):Rdr (w.setCell ⟨r,0,none⟩ (.string l2)) r l2 err:=(Blk.set h 0 _)
def RrP (w:Wd) (r:Nat) (l:Bz) (e:Int) (w':Wd):Prop:=Rdr w' r l e/\Far [r] w w'
def Hv (r:Nat) (left:Bz) (e:Int) (w:Wd) (a:Rdr w r left 0):Calls prog 201 #[Ag r 0,.int .i64 e] w fun x w'=>x=.returned (.tuple #[])/\RrP w r ⟨#[]⟩ e w':=by
 have c1:=a.c1;have f:=Blk.free a 0;have b:=Blk.free a 1;have d:(w.setCell ⟨r,1,none⟩ (.int .i64 e)).cell? ⟨r,0,none⟩=some (.string left):=((Blk.set a 1 _).cell 0).trans rfl;have c:=Blk.free (Blk.set a 1 (.int .i64 e)) 0;go_wp2
 go_end0
 exact ⟨rfl,a.set,((Far.refl _ _).set _ _ _ (.inl Am)).set _ _ _ (.inl Am)⟩
def EP (s:Bz) (w:Wd):Calls prog 160 #[.string s] w fun x w'=>x=.returned (Ag w.1.size 0)/\w'=Aa w #[.string s,.int .i64 0] 258:=by
 go_wp2;go_ret;exact ⟨rfl,rfl⟩
def xJ (s:Bz) (g:Nat) (n:Int) (w:Wd) (b:s.size<=maxLen) (a:Blk w g 202 #[.int .u64 n]):
  Calls prog 328 #[.string s,Ag g 0] w fun x w'=>x=.returned (.int .i64 (ID s).2)/\w'=w.setCell ⟨g,0,none⟩ (.int .u64 (ID s).1):=by
 have c:=AN s w b;have d:=a.ce 0 (.int .u64 n);have e:=a.free 0;clear a b;go_in;go_wp2_with (go_at_call 329;apply yE c);go_ret;exact ⟨rfl,rfl⟩
def V2 (left:Bz) (err:Int):Int×Bz×Int:=
 if err=0 then (if (ID left).2=0 then ((ID left).1,⟨#[]⟩,11) else ((ID left).1,left.extract (ID left).2.toNat left.size,0)) else (0,left,err)
def TkP (w:Wd) (r g:Nat) (R:Int×Bz×Int) (x:Ending) (w':Wd):Prop:=x=.returned (.tuple #[])/\Rdr w' r R.2.1 R.2.2/\Blk w' g 202 #[.int .u64 R.1]/\Far [r,g] w w'
def zB (r g:Nat) (left:Bz) (err:Int) (w:Wd) (s:left.size<=maxLen) (f:Rdr w r left err) (i:Blk w g 202 #[.int .u64 0]) (l:r≠g):
  Calls prog 327 #[Ag r 0,.func (.func 328) #[] #[Ag g 0]] w (TkP w r g (V2 left err)):=by
 have c1:=f.c1;have F:=f.c0;by_cases he:err=0
 .subst he;obtain ⟨v,t,A⟩:=IC left;have d:=xJ left g 0 w s i;obtain ⟨n,k,h⟩:∃ n k,ID left=(n,k):=⟨_,_,rfl⟩
  have hn:V2 left 0=if k=0 then (n,⟨#[]⟩,11) else (n,left.extract k.toNat left.size,0):=by simp [V2,h]
  rw [hn];simp only [h] at d v t A;obtain ⟨b,a⟩:=yG (w.setCell ⟨g,0,none⟩ (.int .u64 n));have c:Rdr b r left 0:=by rw [<-a];exact Blk.far f l _
  have q:Blk b g 202 #[.int .u64 n]:=by rw [<-a];exact i.set 0 _
  have o:Far [r,g] w b:=by rw [<-a];exact (Far.refl _ _).set _ _ _ (.inl Am)
  simp only [a] at d;unfold maxLen at s;clear h hn a;by_cases j:k=0
  .subst j;rw [QK rfl];have u:=Hv r left 11 b c;go_in;go_wp2_with (first|(go_at_call 328;apply d.mono;rintro e w' ⟨rfl,rfl⟩)|(go_at_call 201;apply u.mono;rintro e w' ⟨rfl,x,p⟩))
   go_end0
   exact ⟨rfl,x,q.far' p (by simp;exact l.symm),o.trans (p.mono Am)⟩
  .rw [QX j];have B:(k == 0)=false:=by simpa using j
   have C:=c.c0;have E:=Blk.free c 0;obtain ⟨m,rfl⟩:∃ m:Nat,k=m:=⟨k.toNat,Oo⟩
   have D:m<=left.size:=Oo
   go_in;go_wp2_with (go_at_call 328;apply d.mono;rintro e w' ⟨rfl,rfl⟩)
   go_end0
   exact ⟨rfl,c.setL,q.far l.symm _,o.set _ _ _ (.inl Am)⟩
 .have hn:V2 left err=(0,left,err):=by simp [V2,he]
  rw [hn];have y:(err == 0)=false:=by simpa using he
  have z:(err != 0)=true:=by simpa using he
  clear hn he;go_wp2
  go_end0
  exact ⟨rfl,f,i,Far.refl _ _⟩
def M5:0<=(V2 left 0).1:=by
 unfold V2;rw [QK rfl];split<;>exact (IC left).1
def Fy (r:Nat) (left:Bz) (err:Int) (w:Wd) (d:left.size<=maxLen) (a:Rdr w r left err):
  Calls prog 252 #[Ag r 0] w fun x w'=>x=.returned (.int .u64 (V2 left err).1)/\RrP w r (V2 left err).2.1 (V2 left err).2.2 w':=by
 have g:=zB r w.1.size left err (Aa w #[.int .u64 0] 202) d (Blk.alloc a _) (Blk.new w _ _) (by have:=Blk.lt a;omega);have k:=Blk.lt a;clear a d;obtain ⟨R,b⟩:=yG (V2 left err);rw [b];rw [b] at g;clear b;obtain ⟨n,l,e⟩:=R;go_in;go_wp2_with (go_at_call 327;apply g.mono;rintro x w' ⟨rfl,h,c,j⟩;have m:=c.ce 0 (.int .u64 n);clear c);go_ret;exact ⟨rfl,h,((Far.refl _ _).alloc _).next j (by intro i f;simp at f;rcases f with rfl|rfl;exact .inl Am;exact .inr (Le _))⟩
def Xa (left:Bz) (err:Int) (a:Int):Int×Bz×Int:=
 if (V2 left err).2.2=0 then (if a<(V2 left err).1 then (0,⟨#[]⟩,8) else V2 left err) else (0,(V2 left err).2)
theorem lK {G:Prop} (h:G:=by
  go_in;go_wp2_with (go_at_call 252;refine HN.o.mono ?_;rintro x w1 ⟨rfl,h1,h2⟩;have H1:=Hd h1;have H2:=Hd h2;have c1:=h1.c1;clear h1 h2);go_ret;exact ⟨rfl,H1.o,H2.o⟩):G:=h
def Rn (r:Nat) (left:Bz) (err a:Int) (w:Wd) (k:left.size<=maxLen) (c:Rdr w r left err) (i6:0<=a) (o:a<=4611686018427387904):
  Calls prog 200 #[Ag r 0,.int .i64 a] w fun x w'=>x=.returned (.int .i64 (Xa left err a).1)/\RrP w r (Xa left err a).2.1 (Xa left err a).2.2 w':=by
 have HN:=Hd (Fy r left err w k c);clear c;obtain ⟨R,b⟩:=yG (V2 left err)
 have hz:R.2.2=0->0<=R.1:=fun h=>by
  rw [<-b] at h ⊢;by_cases he:err=0
  .subst he;exact M5
  .simp [V2,he] at h
 unfold Xa;rw [b];rw [b] at HN;clear b;obtain ⟨n,l,e⟩:=R;simp only at hz HN ⊢;by_cases he:e=0
 .subst he;have m:=hz rfl;rw [QK rfl];clear hz;by_cases d:a<n
  .rw [QK d];go_in;go_wp2_with (first|(go_at_call 252;apply HN.o.mono;rintro x w1 ⟨rfl,h1,h2⟩;have H1:=Hd h1;have H2:=Hd h2;have c1:=h1.c1;clear h1 h2)|(go_at_call 201;refine yN2 (Hv r l 8 _ H1.o) fun p f g=>?_));go_ret;exact ⟨rfl,f.o,H2.o.trans g.o⟩
  .rw [QX d];exact lK
 .rw [QX he];have j:(e != 0)=true:=by simpa using he
  have i:(e == 0)=false:=by simpa using he
  clear he hz;exact lK
end
section
variable {st:List Cnt} {e:MapEntry} {es:List MapEntry} {w:Wd} {b:Nat} {w':Wd} {id:Int} {x y:Cnt}
def Y5 (id:Int) (x:Cnt):Bool:=decide (x.d.id=id)
def Yi (st:List Cnt) (id:Int):Option Cnt:=st.find? (Y5 id)
def IR (st:List Cnt) (x:Cnt):List Cnt:=if st.findIdx (Y5 x.d.id)<st.length then st.set (st.findIdx (Y5 x.d.id)) x else st++[x]
def Mw (st:List Cnt) (id:Int):List Cnt:=st.eraseIdx (st.findIdx (Y5 id))
def kvE (e:MapEntry):Value×Value:=(e.key,e.val)
def kvX (x:Cnt):Value×Value:=(.int .i64 x.d.id,.agg (cnC x).toArray)
def Ent (es:List MapEntry) (st:List Cnt):Prop:=es.map kvE=st.map kvX
def Ent.nil_l (h:Ent [] st):st=[]:=by
 unfold Ent at h;simpa using h.symm
def Ent.cons_l (h:Ent (e::es) st):∃ x r,st=x::r/\e.key=.int .i64 x.d.id/\e.val=.agg (cnC x).toArray/\Ent es r:=by
 unfold Ent at h;cases st with
 |nil=>simp at h
 |cons x r=>
  simp only [WS,List.cons.injEq] at h;obtain ⟨a,c⟩:=h;unfold kvE kvX at a;injection a with h3 h4
  exact ⟨x,r,rfl,h3,h4,c⟩
def Ent.len (h:Ent es st):es.length=st.length:=by
 have:=XK List.length h;simpa using this
def FO (id:Int):∀ (es:List MapEntry) (st:List Cnt) (k:Nat),Ent es st ->
  Instr.findNow (.int .i64) (.int .i64 id) es k=some ((Yi st id).map fun x=>(k+st.findIdx (Y5 id),.agg (cnC x).toArray))
 | [],st,k,h=>by
  obtain rfl:=h.nil_l;rfl
 |e::es,st,k,h=>by
  obtain ⟨x,r,rfl,a,d,f⟩:=h.cons_l;by_cases he:x.d.id=id
  .have hi:Y5 id x=true:=by simp [Y5,he]
   simp [Instr.findNow,a,Instr.sameNow,he,Yi,hi,ZF,d]
  .have hi:Y5 id x=false:=by simp [Y5,he]
   have g:(id == x.d.id)=false:=As
   have c:=FO id es r (k+1) f;have i:Yi (x::r) id=Yi r id:=by simp [Yi,hi]
   have j:(x::r).findIdx (Y5 id)=r.findIdx (Y5 id)+1:=by simp [ZF,hi]
   rw [i,j];simp only [Instr.findNow,a,Instr.sameNow,VY,g];rw [c];congr 2;funext y;rw [UP,UZ 1]
def SB (w:Wd) (b:Nat) (st:List Cnt):Prop:=∃ (es:Array MapEntry) (c:Nat),w.1[b]? =some (.map es c)/\Ent es.toList st/\MapKept.Stamped es c
def SB.lt (h:SB w b st):b<w.1.size:=by
 obtain ⟨es,c,d,_⟩:=h;rcases ZW b w.1.size with f|a
 .exact f
 .rw [XH a] at d;cases d
def SB.below {B:Nat} (h:SB w b st) (g:Below B w w') (f:b<B):SB w' b st:=by
 obtain ⟨es,c,d,a⟩:=h;exact ⟨es,c,(g.block b f).trans d,a⟩
def SB.after (h:SB w b st) (a:Below w.1.size w w'):SB w' b st:=h.below a h.lt
def SB.alloc (h:SB w b st) (o:Obj):SB (w.alloc o) b st:=h.after ((Bf _ _).alloc (Le _) o)
def SB.empty (w:Wd):SB (w.alloc (.map #[] 0)) w.1.size []:=⟨#[],0,YH w _,rfl,MapKept.stamped_empty 0⟩
def Jc (h:Yi st id=some x):st.findIdx (Y5 id)<st.length/\st[st.findIdx (Y5 id)]? =some x/\x.d.id=id:=by
 have a:Y5 id x=true:=List.find?_some h;have c:x∈st:=ZC h;have f:st.findIdx (Y5 id)<st.length:=ZN.2 ⟨x,c,a⟩;refine ⟨f,?_,by simpa [Y5] using a⟩;have d:=List.find?_eq_getElem?_findIdx (p:=Y5 id) (xs:=st);rw [<-d];exact h
def GB (h:Yi st id=none):¬ st.findIdx (Y5 id)<st.length:=by
 intro c;have:=JH.1 h;obtain ⟨x,d,a⟩:=ZN.1 c;exact this x d a
theorem lL {G:Prop} (h:G:=by
  have hf:=FO id es.toList st 0 he;have hc:(Instr.checkKey es.isEmpty 10000 3 (.int .i64 id)).run prog w=.ok () w:=YL (k:=.int .i64 id) underlying3 (by simp [MapKept.IsKey]) _ 9999
  first
   |cases hg:Yi st id with
    |none=>
     rw [hg] at hf;unfold zV;simp [Instr.lookup,WN underlying57,WV hb,hc,XE underlying3 hf]
    |some x=>
     rw [hg] at hf;simp [Instr.lookup,WN underlying57,WV hb,hc,XE underlying3 hf]
   |cases hg:Yi st id with
    |none=>
     rw [hg] at hf;have hn:=GB hg;refine ⟨{ w with heap:=w.heap.setIfInBounds b (.map es c) },?_,⟨es,c,(VQ hb).1,?_,hs⟩,FSw⟩
     .simp [Builtin.delete_,WN underlying57,WV hb,hc,XE underlying3 hf,YS _ hb,Result.andThen]
     .unfold Mw;rw [List.eraseIdx_of_length_le Oo];exact he
    |some y=>
     rw [hg] at hf;obtain ⟨aE,fF,hid⟩:=Jc hg;obtain ⟨i,hi⟩:=yG (st.findIdx (Y5 id))
     have hlt2:i<es.size:=by
      have:=he.len;rw [XY] at this;omega
     refine ⟨{ w with heap:=w.heap.setIfInBounds b (.map (es.eraseIdxIfInBounds i) c) },?_,⟨_,_,(VQ hb).1,?_,MapKept.stamped_erase hs i⟩,FSw⟩
     .rw [hi] at hf;simp only [KR,QB] at hf;simp [Builtin.delete_,WN underlying57,WV hb,hc,XE underlying3 hf,YS _ hb,Result.andThen]
     .unfold Mw;rw [hi]
      have e:(es.eraseIdxIfInBounds i).toList=es.toList.eraseIdx i:=by
       unfold Array.eraseIdxIfInBounds;rw [dif_pos hlt2,Array.toList_eraseIdx]
      rw [e];exact he.erase i):G:=h
def Ja (w:Wd) (b:Nat) (st:List Cnt) (id:Int) (h:SB w b st):
  (Instr.lookup 57 (.map (some b)) (.int .i64 id) true).run prog w=.ok (match Yi st id with|some x=>.tuple #[.agg (cnC x).toArray,.bool true]|none=>.tuple #[.agg zV.toArray,.bool false]) w:=by
 obtain ⟨es,c,hb,he,_⟩:=h;exact lL
def FSw {o:Obj}:Far [b] w { w with heap:=w.heap.setIfInBounds b o }:=
 ⟨rfl,rfl,rfl,Am,fun k a hn=>by
  show (w.heap.setIfInBounds b o)[k]? =_;rw [QD (by intro e;subst e;simp at hn)]⟩
def Ent.modify (h:Ent es st) (i:Nat) (x:Cnt):Ent (es.modify i fun e=>{ e with key:=.int .i64 x.d.id,val:=.agg (cnC x).toArray }) (st.set i x):=by
 unfold Ent at h ⊢;apply ZV;intro j;have c:=XK (fun l=>l[j]?) h;simp only [YK] at c ⊢;rw [List.getElem?_modify,IZ];by_cases e:i=j
 .subst e;have f:=h▸(XK List.length h);rcases ZW i es.length with d|a
  .have hlt2:i<st.length:=by have:=XK List.length h;simp at this;omega
   rw [QV d];simp [hlt2,kvE,kvX]
  .have hge2:st.length<=i:=by have:=XK List.length h;simp at this;omega
   rw [WM a];simp [Nat.not_lt.2 hge2]
 .rw [QX e];simp [e];simpa using c
def Ent.keys (h:Ent es st) (he:e∈es):∃ x∈st,e.key=.int .i64 x.d.id:=by
 unfold Ent at h;have:kvE e∈st.map kvX:=h▸UH he;obtain ⟨x,c,a⟩:=YY.1 this;refine ⟨x,c,?_⟩;unfold kvE kvX at a;injection a with h1 _
 exact h1.symm
def Hi (w:Wd) (b:Nat) (st:List Cnt) (x:Cnt) (h:SB w b st):
  ∃ w',(Instr.mapUpdate 57 (.map (some b)) (.int .i64 x.d.id) (.agg (cnC x).toArray)).run prog w=.ok () w'/\SB w' b (IR st x)/\Far [b] w w':=by
 obtain ⟨es,c,g,he,u⟩:=h;have m:=FO x.d.id es.toList st 0 he;have z:(Instr.checkKey false 10000 3 (.int .i64 x.d.id)).run prog w=.ok () w:=YL (k:=.int .i64 x.d.id) underlying3 (by simp [MapKept.IsKey]) false 9999;cases n:Yi st x.d.id with
 |none=>
  rw [n] at m;have hn:=GB n;refine ⟨{ w with heap:=w.heap.setIfInBounds b (.map (es.push ⟨.int .i64 x.d.id,.agg (cnC x).toArray,c⟩) (c+1)) },?_,⟨_,_,(VQ g).1,?_,?_⟩,FSw⟩
  .simp [Instr.mapUpdate,WN underlying57,WV g,z,XE underlying3 m,YS _ g,Result.andThen]
  .unfold IR;rw [QX hn];unfold Ent at he ⊢;rw [Array.toList_push,XM,he,XM];rfl
  .refine MapKept.stamped_push u fun e B j=>?_
   obtain ⟨y,hy,q⟩:=Ent.keys he B;rw [q] at j;injection j with _ j
   have:=JH.1 n y hy;exact this (by simp [Y5,j])
 |some y=>
  rw [n] at m;obtain ⟨A,s,r⟩:=Jc n
  have v:st.findIdx (Y5 x.d.id)<es.size:=by
   have:=he.len;rw [XY] at this;omega
  obtain ⟨i,p⟩:=yG (st.findIdx (Y5 x.d.id))
  have a:(es[i]?.map fun e=>e.key)=some (.int .i64 x.d.id):=by
   have f:=XK (fun l=>l[i]?) he;simp only [YK,YI] at f;rw [p] at s;rw [s] at f;cases t:es[i]? with
   |none=>rw [t] at f;simp at f
   |some e=>
    rw [t] at f;simp [kvE,kvX] at f;simp [f.1,r]
  have j:(Instr.keyThatStays ((Option.map (fun x=>x.key) es[i]?).getD (.int .i64 x.d.id)) (.int .i64 x.d.id)).run prog w=.ok (.int .i64 x.d.id) w:=by
   rw [a];exact MapKept.run_keyThatStays (d:=.int .i64) (by simp [MapKept.IsKey])
  refine ⟨{ w with heap:=w.heap.setIfInBounds b (.map (es.modify i fun e=>{ e with key:=.int .i64 x.d.id,val:=.agg (cnC x).toArray }) c) },?_,⟨_,_,(VQ g).1,?_,?_⟩,FSw⟩
  .rw [p] at m;simp only [KR,QB] at m;simp [Instr.mapUpdate,WN underlying57,WV g,z,XE underlying3 m,YS _ g,j,Result.andThen]
  .unfold IR;rw [QK A,p,Array.toList_modify];exact he.modify i x
  .refine MapKept.stamped_modify u _ _ (fun _ _=>rfl) fun e _ o=>?_
   rw [o] at a;simp at a;exact a.symm
def Ent.erase (h:Ent es st) (i:Nat):Ent (es.eraseIdx i) (st.eraseIdx i):=by
 unfold Ent at h ⊢;rw [YW,YW,XM,XM,UR,US,UR,US,h]
def qw (ty:TypeId) (w:Wd) (b:Nat) (st:List Cnt) (id:Int) (h:SB w b st):
  ∃ w',(Builtin.delete_ #[57,3] ty #[.map (some b),.int .i64 id]).run prog w=.ok (.tuple #[]) w'/\SB w' b (Mw st id)/\Far [b] w w':=by
 obtain ⟨es,c,hb,he,hs⟩:=h;exact lL
def G0 {es:Array MapEntry} {c:Nat} (h:w.1[b]? =some (.map es c)) (p:Addr) (a:p.block=b):w.cell? p=none:=by
 subst a;simp [World.cell?,h]
structure SW (w:Wd) (b:Nat) (st:List Cnt):Prop where
 sb:SB w b st
 cw:∀ x∈st,CW w x
def SW.below (h:SW w b st) (a:Below w.1.size w w'):SW w' b st:=⟨h.sb.after a,fun x c=>(h.cw x c).below a⟩
def CW.far {d:List Cnt} (h:CW w x) (j:SB w b st) (i:SB w' b d) (f:Far [b] w w'):CW w' x:=by
 refine ⟨(h.sl.keep fun p g=>?_).more f.size,h.le,h.nil,h.rz⟩;by_cases e:p.block=b
 .obtain ⟨es,c,hb,_⟩:=j;obtain ⟨k,c',a,_⟩:=i;rw [G0 hb p e,G0 a p e]
 .exact WO (f.block p.block g (by simpa using e))
def xN (h:y∈IR st x):y=x\/y∈st:=by
 unfold IR at h;split at h
 .rcases ZD h with h|h
  .exact .inr h
  .exact .inl h
 .rcases QC.1 h with h|h
  .exact .inr h
  .exact .inl (by simpa using h)
def xQ (h:y∈Mw st id):y∈st:=VC h
def xP (h:Yi st id=some x):x∈st:=ZC h
def SW.get (h:SW w b st) (a:Yi st id=some x):CW w x:=h.cw x (xP a)
def SW.put (h:SW w b st) (d:CW w x) (a:SB w' b (IR st x)) (c:Far [b] w w'):SW w' b (IR st x):=
 ⟨a,fun y hy=>by
  rcases xN hy with rfl|hy
  .exact d.far h.sb a c
  .exact (h.cw y hy).far h.sb a c⟩
def SW.del (h:SW w b st) (a:SB w' b (Mw st id)) (c:Far [b] w w'):SW w' b (Mw st id):=
 ⟨a,fun y hy=>(h.cw y (xQ hy)).far h.sb a c⟩
end
def F9 (v:Cnt->Bool):List Cnt->List Cnt->Option (List Cnt)
 |st,[]=>some st
 |st,x::r=>if (Yi st x.d.id).isSome=true\/v x=false then none else F9 v (IR st x) r
def pe (R:Option (List Cnt)) (w:Wd) (e:Ending) (w':Wd):Prop:=match R with
 |none=>e=.returned (.tuple #[.map none,.bool false])/\Below w.1.size w w'
 |some a=>e=.returned (.tuple #[.map (some w.1.size),.bool true])/\SW w' w.1.size a/\Below w.1.size w w'
def Ec {a w w':Wd} {B b:Nat} (h:Below B a w) (c:Far [b] w w') (e:B<=b) (d:B<=w.1.size):Below B a w':=
 h.trans (c.below (by simpa using e) d)
def qM (v:Cnt->Bool) (A:Option Addr) (n c:Nat) (l:List Cnt) (w:Wd) (hs:Sl cnC 23 w w.1.size A n c l) (hp:∀ x∈l,CW w x) (hn:n<=1024)
  (HV:∀ x∈l,∀ W,Below w.1.size w W->Calls prog 74 #[.agg (cnC x).toArray] W (Ab W (.bool (v x)))):
  Calls prog 42 #[.slice A n c] w (pe (F9 v [] l) w):=by
 have HS:=Hd hs;have HL:=Hd hs.len;have HP:=Hd hp;have V:=Hd HV;clear hs hp HV;obtain ⟨R,HR⟩:=yH (F9 v [] l);rw [HR.o];have HZ:=Hd Ik;have hmm:=@run_makeMap prog;have H0:Aw (SW (w.alloc (.map #[] 0)) w.1.size []):=Hd ⟨SB.empty w,fun x M=>by simp at M⟩;go_wp2;go_loopw [12] (fun i wr=>∃ (j:Nat) (B:List Cnt),j<=n/\i=.int .i64 j/\F9 v B (l.drop j)=R/\SW wr w.1.size B/\Below w.1.size w wr/\w.1.size+1<=wr.1.size) (fun i _=>n-(intOf i).toNat)
 .exact ⟨0,[],Z0 _,rfl,HR,H0,Aj,Am⟩
 .obtain ⟨j,B,hj,rfl,aG,hst,aF,aM⟩:=hrel;obtain ⟨d,rfl⟩:∃ x:Wd,x=wr:=⟨_,rfl⟩
  have e:=Hd aF;have bV:=Hd hst;have eJ:=Hd aM;by_cases aE:j<n
  .obtain ⟨b,o,x,rfl,hb,hg,aB⟩:=Sl.cell (f:=cnC) (k:=23) (fun _=>rfl) (HS.below aF) aE;have M:x∈l:=QJ hg
   have hd:l.drop j=x::l.drop (j+1):=by
    have U:j<l.length:=by rw [HL.o];exact aE
    rw [QO U];congr 1;exact (QZ.1 hg).2
   rw [hd] at aG;unfold F9 at aG;have T:Aw (d.rangeAt b (o+j*23) (cnC x)):=Hd fun t u hu=>aB t u hu
   have r:=Hd (Va x);have bI:=Hd fun a=>Blk.new d 37 a
   have S:=Hd fun a=>U5 d a (cnC x).toArray 37
   obtain ⟨X,E⟩:=yG (Aa d (cnC x).toArray 37);have D:Below d.1.size d X:=by rw [<-E];exact Aj
   have s:Blk X d.1.size 37 (cnC x).toArray:=by rw [<-E];exact Blk.new d _ _
   have K:X.1.size=d.1.size+1:=by rw [<-E];simp
   simp only [E] at S;have F:=Ja X w.1.size B x.d.id (hst.below D).sb;have c0:=s.ce 0 (.int .i64 x.d.id);have aK:=Hd fun a=>U3 X 37 a (d.1.size+1) K.symm
   have HX:=Hd E;have L:=Hd D;have HXK:=Hd s;have Q:=Hd K;have N:=Hd aG;have G:=Hd M;have bA:=Hd aE;clear hb hg aB hd aG hst aF aM E D s M;cases z:Yi B x.d.id with
   |some y=>
    rw [z] at F;simp only at F;have h:=N.o;rw [z,QK (.inl rfl)] at h;have J:=Hd h;have HY:=Hd (Va y);have H:Aw (∀ a,(Aa X a 37).setRow (d.1.size+1) (cnC y).toArray=(Aa X (cnC y).toArray 37)):=Hd fun a=>X6 X (d.1.size+1) Q.symm a (cnC y).toArray 37
    clear h z;go_wp2_with (first|(refine yJ T ?_)|(refine yV (bI _) r ?_;rw [S.o])|(refine yV (aK _) HY ?_;rw [H.o]))
    go_ret2
    rw [<-J.o];exact ⟨rfl,(U0 e L e.size).alloc (by have:=eJ.o;have:=Q.o;omega) _⟩
   |none=>
    rw [z] at F;simp only at F;have H:Aw (∀ a,(Aa X a 37).setRow (d.1.size+1) zV.toArray=(Aa X zV.toArray 37)):=Hd fun a=>X6 X (d.1.size+1) Q.symm a zV.toArray 37
    obtain ⟨Y,O⟩:=yG (Aa X zV.toArray 37);have C:Below d.1.size d Y:=by rw [<-O];exact L.alloc (by have:=Q.o;omega) _
    have I:Blk Y d.1.size 37 (cnC x).toArray:=by rw [<-O];exact HXK.alloc _
    simp only [O] at H;have m:=Hd C;have P:=Hd I;have eF:=Hd (V x G Y (U0 e C e.size));obtain ⟨q,hq⟩:=yG (v x);have h:=N.o;rw [hq] at eF;rw [z,hq] at h;clear O C I hq;cases q with
    |false=>
     rw [QK (.inr rfl)] at h;have J:=Hd h;clear h z;go_wp2_with (first|(refine yJ T ?_)|(refine yV (bI _) r ?_;rw [S.o])|(refine yV (aK _) HZ ?_;rw [H.o])|(refine Up Ak 37 _ rfl d.1.size rfl 37 _ (0,0) _ P underlying37 rfl Ak ?_)|(go_at_call 74;refine yN eF fun w2 p=>?_;clear c0 F))
     go_ret2
     rw [<-J.o];exact ⟨rfl,U0 (U0 e m e.size) p (Lx e.size m.size)⟩
    |true=>
     rw [QX Am] at h;have J:=Hd h;clear h z;go_wp2_with (first|(refine yJ T ?_)|(refine yV (bI _) r ?_;rw [S.o])|(refine yV (aK _) HZ ?_;rw [H.o])|(refine Up Ak 37 _ rfl d.1.size rfl 37 _ (0,0) _ P underlying37 rfl Ak ?_)|(go_at_call 74;refine yP eF fun w2 Z=>?_;have p:=Hd (m.trans (Z.mono m.size));have gD:=P.below Z (by have:=P.lt;exact this);have cT:=Hd gD;clear c0 F;have c0:=gD.ce 0 (.int .i64 x.d.id);obtain ⟨w3,jX,eE,cJ⟩:=Hi w2 w.1.size B x (bV.below p).sb;have HSB:=Hd eE;have g:=Hd cJ;clear Z gD eE cJ)|(refine yK cT ?_));go_roundw
     .have dD:=bV.below p;have eW:=((HP x G).below e).below p;refine ⟨j+1,IR B x,by have:=bA.o;omega,Au,J,dD.put eW HSB g,Ec (U0 e p e.size) g (Le _) (Lx e.size p.size),?_⟩;have:=eJ.o;have:=p.size;have:=g.size;omega
     .simp [intOf];have:=bA.o;omega
  .obtain rfl:j=n:=Oo
   rw [WP (by rw [HL.o];exact Le _)] at aG;have N:=Hd aG;clear aG hst aF aM;go_wp2
   go_ret2
   rw [<-N.o];exact ⟨rfl,bV,e⟩
end Go.Proofs.YtdleakjejodjjaaGreatDoor
