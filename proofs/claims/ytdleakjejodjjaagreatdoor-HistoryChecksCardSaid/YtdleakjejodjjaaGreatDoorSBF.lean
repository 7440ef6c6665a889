/- Of the history laws. -/
import Derived.Test.YtdleakjejodjjaaGreatDoorSBC
namespace Go.Proofs.YtdleakjejodjjaaGreatDoor
open Tryz
set_option linter.defProp false
set_option linter.unusedVariables false
set_option linter.unusedSimpArgs false
set_option maxRecDepth 100000
set_option maxHeartbeats 20000000
open Go.RowKit
section
variable {w w':Wd} {sv:Value} {id:Int} {x:Cnt} {W:Wd} {g:Nat} {r:Rdd} {w5:Wd} {k:Bz} {y:Int} {o2:Obj} {st:List Cnt}
def qR (a e:Bz) (c1:Int) (b d:Bz) (c2:Int) (W:Wd):(binOp .eql 46 (.agg #[.string a,.string e,.int .i64 c1]) (.agg #[.string b,.string d,.int .i64 c2])).run prog W=.ok (.bool (decide (a.toList=b.toList)&&decide (e.toList=d.toList)&&decide (c1=c2))) W:=by
 go_simp;by_cases c:a.toList=b.toList;rotate_left
 .rw [QX c,QW c];simp
 rw [QK c,QQ c];by_cases a:e.toList=d.toList;rotate_left
 .rw [QX a,QW a];simp
 rw [QK a,QQ a];by_cases b:c1=c2
 .rw [QK b,QQ b];rfl
 .rw [QX b,QW b];rfl
def Ba (a b:Bz×Bz×Int):∃ z:Bool,decide (a=b)=z/\∀ W:Wd,(binOp .eql 46 (.agg #[.string a.1,.string a.2.1,.int .i64 a.2.2]) (.agg #[.string b.1,.string b.2.1,.int .i64 b.2.2])).run prog W=.ok (.bool z) W:=by
 obtain ⟨c,f,c1⟩:=a;obtain ⟨d,e,c2⟩:=b;refine ⟨_,rfl,fun W=>?_⟩;rw [qR];congr 2;rw [XW];simp only [QU,QG,UN];constructor
 .rintro ⟨⟨h1,h2⟩,h3⟩;rw [Vb,Vb] at h1 h2;exact ⟨Ev h1,Ev h2,h3⟩
 .rintro ⟨rfl,rfl,rfl⟩;exact ⟨⟨rfl,rfl⟩,rfl⟩
def RS.below (h:RS w sv id x) (a:Below w.1.size w w'):RS w' sv id x:=
 ⟨h.cw.below a,fun W b=>h.pairs W (U0 a b a.size)⟩
def RSP (sv:Value) (id:Int) (a:List Pr) (w:Wd):Prop:=∃ x:Cnt,RS w sv id x/\x.ps=a
def sc (id:Int) (w:Wd):RSP (.slice none 0 0) id [] w:=⟨⟨dZ,0,none,0,0,[]⟩,⟨MB w dZ 0,fun W _=>TV id W⟩,rfl⟩
def s8 {h cc:Nat} (a:R1 w h x):RSP (.slice (Ah h 0) 1 cc) x.d.id x.ps w:=by
 obtain ⟨A,c,e,d⟩:=a.rg;exact ⟨reP x A c,⟨d,fun W b=>sX (reP x A c) h cc W (WK a.lt b.size) (Zm e b a.lt)⟩,rfl⟩
def nE (A:Option Addr) (n c:Nat) (id:Int) (k:Bz) (a:List Pr) (w:Wd) (b:RSP (.slice A n c) id a w):Calls prog 434 #[.slice A n c,.int .i64 id,.string k] w (T6 (Px a k) w):=by
 obtain ⟨x,h,rfl⟩:=b;exact jv A n c id k x w h
def rp (A:Option Addr) (n c:Nat) (id:Int) (k:Bz) (a:List Pr) (w:Wd) (b:RSP (.slice A n c) id a w):Calls prog 435 #[.slice A n c,.int .i64 id,.string k] w (NP (Ns a k) w):=by
 obtain ⟨x,h,rfl⟩:=b;exact mE A n c id k x w h
def RSP.below {a:List Pr} (h:RSP sv id a w) (d:Below w.1.size w w'):RSP sv id a w':=by
 obtain ⟨x,c,b⟩:=h;exact ⟨x,c.below d,b⟩
def yp (h:Blk W g 48 (rdC r).toArray):W.rangeAt g 3 [.string r.ak,.string r.ar,.int .i64 r.code]:=by
 refine h.range 3 _ fun j v a=>?_
 match j,a with
 |0,a=>exact a
 |1,a=>exact a
 |2,a=>exact a
structure EY (r:Rdd) (w W:Wd) (g:Nat) (k x:Bz) (y:Int):Prop where
 b1:Blk W w.1.size 48 (rdC r).toArray
 b2:Blk W g 46 #[.string k,.string x,.int .i64 y]
 lt:w.1.size<g
 be:Below w.1.size w W
def EY.mk' {d:Wd} (b:Blk w5 w.1.size 48 (rdC r).toArray) (c:Below w.1.size w w5) (a:Below (Aa w5 #[.string k,.string ⟨#[]⟩,.int .i64 0] 46).1.size (Aa w5 #[.string k,.string ⟨#[]⟩,.int .i64 0] 46) d):
  EY r w d w5.1.size k ⟨#[]⟩ 0:=
 have e:=b.lt
 ⟨(b.alloc _).below a As,(Blk.new w5 _ _).below a Am,e,(c.alloc c.size _).trans (a.mono As)⟩
def EY.set2 {x:Bz} (h:EY r w W g k x y) (b:Bz) (a:Int):EY r w ((W.setCell ⟨g,1,none⟩ (.string b)).setCell ⟨g,2,none⟩ (.int .i64 a)) g k b a:=
 have c:=h.lt
 ⟨(h.b1.far As _).far As _,(h.b2.set 1 _).set 2 _,h.lt,(h.be.setCell As _).setCell As _⟩
def EY.set3 {x:Bz} (h:EY r w W g k x y) (a b:Bz) (c:Int):EY r w (((W.setCell ⟨g,0,none⟩ (.string a)).setCell ⟨g,1,none⟩ (.string b)).setCell ⟨g,2,none⟩ (.int .i64 c)) g a b c:=
 have d:=h.lt
 ⟨((h.b1.far As _).far As _).far As _,((h.b2.set 0 _).set 1 _).set 2 _,h.lt,((h.be.setCell As _).setCell As _).setCell As _⟩
def EY.row {x:Bz} (h:EY r w W g k x y):EY r w (W.setRow g #[.string ⟨#[]⟩,.string ⟨#[]⟩,.int .i64 6]) g ⟨#[]⟩ ⟨#[]⟩ 6:=
 have a:=h.lt
 ⟨Uh h.b1 Oo,QR _ _ _ _ _ _ h.b2,h.lt,Uf h.be Oo _⟩
abbrev DH (w:Wd) (r):=w.alloc (.cells (rdC r).toArray 48)
def qg {c:Wd} {a:Obj} (d:Below (((DH w r).alloc o2).alloc a).1.size (((DH w r).alloc o2).alloc a) c) (b:Below c.1.size c w5):
  Blk w5 w.1.size 48 (rdC r).toArray/\Below w.1.size w w5:=by
 have e:=d.size;have f:=b.size;simp at e;refine ⟨((((Blk.new w 48 (rdC r).toArray).alloc o2).alloc a).below d As).below b Oo,?_⟩;exact (((Aj.alloc Am _).alloc As _).trans (d.mono As)).trans (b.mono Oo)
def qf (h:Below ((DH w r).alloc o2).1.size ((DH w r).alloc o2) w5):
  Blk w5 w.1.size 48 (rdC r).toArray/\Below w.1.size w w5:=
 ⟨((Blk.new w 48 (rdC r).toArray).alloc o2).below h As,(Aj.alloc Am _).trans (h.mono As)⟩
def Oa (A:Option Addr) (n c:Nat) (w:Wd):(method 535 126 (.slice A n c) "Get").run prog w=.ok (434,.slice A n c) w:=Ak
def O9 (A:Option Addr) (n c:Nat) (w:Wd):(method 535 126 (.slice A n c) "Next").run prog w=.ok (435,.slice A n c) w:=Ak
def ExG (a:List Pr) (r:Rdd) (w:Wd) (e:Ending) (w':Wd):Prop:=e=.returned (.bool (MW a r))/\Below w.1.size w w'
def sS (h:Yi st id=some x):MR (st.map plC) id=x.ps:=by
 unfold MR;rw [Iy,h];rfl
def sU (h:Yi st id=none):MR (st.map plC) id=[]:=by
 unfold MR;rw [Iy,h];rfl
theorem zGJ {G:Prop} (h:G:=by
  go_in
  go_upto_region 10 with (first|(with_reducible refine yS 37 6 (HB.o _ _) H1.o ?_;rw [HS.o])|(with_reducible refine yL 37 6 (HB.o _ _) ?_)|((with_reducible refine Gc 22 ?_);refine JR rfl 22 37 1 _ rfl (cnC x).toArray i0 (.agg zV.toArray) underlying22 bC bB (by rw [aP];decide) (by rw [aP];decide) (by rw [aP];kernel_rfl) ?_)|(at_builtin;go_must (refine Ui _ rfl _ _ 22 rfl w.1.size 37 i0 _ 23 216 underlying22 bC bB aP aT rfl Ac (.slice none 0 0) 0 [] rfl ⟨rfl,.inl ⟨rfl,rfl⟩⟩ _ _ 1 1 (cnC x) rfl (dM.o _ _) (Ic x) Ac Ac As ?_;intro v' w3 aD aI _;obtain ⟨h,c'',rfl,_⟩:=J7 aD Ac;have bX:=Hd aD;have bT:=Hd (EI (show World.grownBy _ w3 none from aI));have HP3:=Hd ((HP.o _ _ _).below bT.o);clear aD aI))|(go_at_call 44;(first|(refine (uL x h c'' w3 HP3.o (O1 bX.o)).mono ?_;rintro e w5 ⟨h5,c5,rfl,hr5,bG⟩;obtain ⟨RA,rn,rc,hRA⟩:∃ RA rn rc,(Value.slice (some ⟨h5,0,none⟩) 1 c5)=.slice RA rn rc:=⟨_,_,_,rfl⟩;have gH:=s8 (cc:=c5) hr5;rw [hRA] at gH ⊢;rw [HID.o,HPS.o] at gH;have HRS:=Hd gH;have bM:=Hd (qg (r:=r) bT.o bG);clear hr5 bG hl hRA gH r0 r1)|(refine yP (T4 _) fun w5 bG=>?_;obtain ⟨RA,rn,rc,hRA⟩:∃ RA rn rc,(Value.slice none 0 0)=.slice RA rn rc:=⟨_,_,_,rfl⟩;have gH:=sc r.id w5;rw [hRA] at gH ⊢;rw [HPS.o] at gH;have HRS:=Hd gH;have bM:Aw (Blk w5 w.1.size 48 (rdC r).toArray/\Below w.1.size w w5):=Hd (qf bG);clear bG hl hRA gH r0 r1));have k2:=bM.o.1.ce 2 (.string r.key);have a0:∀ o,(w5.alloc o).cell? ⟨w.1.size,0,none⟩=some (.int .i64 r.kind):=fun o=>((bM.o.1.alloc o).cell 0).trans rfl;have a1:∀ o,(w5.alloc o).cell? ⟨w.1.size,1,none⟩=some (.int .i64 r.id):=fun o=>((bM.o.1.alloc o).cell 1).trans rfl;have a2:∀ o,(w5.alloc o).cell? ⟨w.1.size,2,none⟩=some (.string r.key):=fun o=>((bM.o.1.alloc o).cell 2).trans rfl)|(go_at_call 434;refine yP (nE RA rn rc r.id r.key PS _ (HRS.o.below Aj)) fun w7 hb=>?_;rw [HV.o];have he:=EY.mk' bM.o.1 bM.o.2 hb;have HE7:=Hd he;have q0:=he.b2.ce 0 (.string r.key);have q1:=he.b2.ce 1 (.string ⟨#[]⟩);have q2:=he.b2.ce 2 (.int .i64 0);have f0:=he.b2.free 0;have f1:=he.b2.free 1;have f2:=he.b2.free 2;clear hb he k2 a0 a1 a2 hg hn)|(go_at_call 435;refine yP (rp RA rn rc r.id r.key PS _ (HRS.o.below Aj)) fun w7 hb=>?_;rw [HV.o];have he:=EY.mk' bM.o.1 bM.o.2 hb;have HE7:=Hd he;have q0:=he.b2.ce 0 (.string r.key);have q1:=he.b2.ce 1 (.string ⟨#[]⟩);have q2:=he.b2.ce 2 (.int .i64 0);have f0:=he.b2.free 0;have f1:=he.b2.free 1;have f2:=he.b2.free 2;clear hb he k2 a0 a1 a2 hg hn))
  first|(obtain ⟨W,hW,he⟩:∃ W,((w7.setCell ⟨w5.1.size,0,none⟩ (.string v0)).setCell ⟨w5.1.size,1,none⟩ (.string v1)).setCell ⟨w5.1.size,2,none⟩ (.int .i64 v2)=W/\EY r w W w5.1.size v0 v1 v2:=⟨_,rfl,HE7.o.set3 _ _ _⟩;rw [hW])|(obtain ⟨W,hW,he⟩:∃ W,(w7.setCell ⟨w5.1.size,1,none⟩ (.string v1)).setCell ⟨w5.1.size,2,none⟩ (.int .i64 v2)=W/\EY r w W w5.1.size r.key v1 v2:=⟨_,rfl,HE7.o.set2 _ _⟩;rw [hW])
  have HE:=Hd he;have r2:=he.b2.ce 2 (.int .i64 v2);clear hW q0 q1 q2 f0 f1 f2 he;by_cases hz:v2=0
  .subst hz;first|obtain ⟨z,aP,aT⟩:=Ba (r.ak,r.ar,r.code) (v0,v1,0)|obtain ⟨z,aP,aT⟩:=Ba (r.ak,r.ar,r.code) (r.key,v1,0)
   simp only at aT;have fM:Aw (MW PS r=z):=Hd (by unfold MW;rw [HANS.o,QK rfl];exact aP);clear aP;go_wp2_with (first|(with_reducible refine yM 46 58 (yp HE.o.b1) ?_)|(with_reducible refine yL 46 9 HE.o.b2 ?_));go_ret;exact ⟨by rw [fM.o];rfl,HE.o.be⟩
  .have b2:(v2 != 0)=true:=by simpa using hz
   obtain ⟨z,aP,aT⟩:=Ba (r.ak,r.ar,r.code) (⟨#[]⟩,⟨#[]⟩,6);simp only at aT;have fM:Aw (MW PS r=z):=Hd (by unfold MW;rw [HANS.o,QX hz];exact aP);have HQ:Aw ((#[.string ⟨#[]⟩,.string ⟨#[]⟩,.int .i64 6]:Array Value).all (·.oneCell')=true):=Hd (by simp [Value.oneCell']);clear aP hz;go_wp2_with (first|(with_reducible refine yS 46 9 HE.o.b2 HQ.o ?_)|(with_reducible refine yM 46 58 (yp HE.o.row.b1) ?_)|(with_reducible refine yL 46 9 HE.o.row.b2 ?_));go_ret;exact ⟨by rw [fM.o];rfl,HE.o.row.be⟩):G:=h
def Sj (r:Rdd) (f:Nat) (st:List Cnt) (w:Wd) (j:SW w f st):
  Calls prog 20 #[.map (some f),.agg (rdC r).toArray] w (ExG (MR (st.map plC) r.id) r w):=by
 obtain ⟨i0,bC,bB,aP,aT⟩:=WG X8;have hg:=Oa;have hn:=O9;have HB:Aw (∀ a b,Blk ((w.alloc a).alloc (.cells b 37)) (w.1.size+1) 37 b):=Hd fun a b=>U3 (w.alloc a) _ b _ Am
 have HS:Aw (∀ a b cs,((w.alloc a).alloc (.cells b 37)).setRow (w.1.size+1) cs=(w.alloc a).alloc (.cells cs 37)):=Hd fun a b cs=>X6 (w.alloc a) _ Am b cs _
 have r0:∀ o,((DH w r).alloc o).cell? ⟨w.1.size,1,none⟩=some (.int .i64 r.id):=fun o=>(((Blk.new w _ _).alloc _).cell 1).trans rfl
 have r1:(DH w r).cell? ⟨w.1.size,1,none⟩=some (.int .i64 r.id):=((Blk.new w _ _).cell 1).trans rfl;cases c:Yi st r.id
 case' some x=>
  rw [sS c];have l:=(Jc c).2.2;have m:=j.get c;have hl:∀ a,(Instr.lookup 57 (.map (some f)) (.int .i64 r.id) true).run prog (w.alloc a)=.ok (.tuple #[.agg (cnC x).toArray,.bool true]) (w.alloc a):=fun a=>by have h:=Ja (w.alloc a) f st r.id (j.sb.after Aj);rw [c] at h;exact h
  have H1:=Hd (Va x);obtain ⟨PS,HPS⟩:=yH x.ps;have dM:Aw (∀ a o2,Rd (((w.alloc a).alloc o2).alloc (.cells (cnC x).toArray 37)) (((w.alloc a).alloc o2).1.size+1) 23 (Ah (((w.alloc a).alloc o2).1.size) 0) 1 (cnC x)):=Hd fun a o2=>Yv ((w.alloc a).alloc o2) (cnC x) 37 1 23 rfl
  have HP:Aw (∀ a o2 n,CW (((w.alloc a).alloc o2).alloc n) x):=Hd fun a o2 n=>m.below ((Aj.alloc Am _).alloc As _)
  have HID:=Hd l;rw [HPS.o];clear j m l c
 case' none=>
  rw [sU c];have hl:∀ a,(Instr.lookup 57 (.map (some f)) (.int .i64 r.id) true).run prog (w.alloc a)=.ok (.tuple #[.agg zV.toArray,.bool false]) (w.alloc a):=fun a=>by have h:=Ja (w.alloc a) f st r.id (j.sb.after Aj);rw [c] at h;exact h
  have H1:=Hd (Ik);obtain ⟨PS,HPS⟩:=yH ([]:List Pr);rw [HPS.o];clear j c
 all_goals
  by_cases i:r.kind=0
  .have b0:(r.kind == 0)=true:=by simpa using i
   obtain ⟨⟨v1,v2⟩,d⟩:=yG (Px PS r.key);have HANS:Aw (uC PS r=if v2=0 then (r.key,v1,0) else (⟨#[]⟩,⟨#[]⟩,6)):=Hd (by unfold uC;rw [QK i,d]);have HV:=Hd d;clear i d;exact zGJ
  .have b0:(r.kind == 0)=false:=by simpa using i
   obtain ⟨⟨v0,v1,v2⟩,d⟩:=yG (Ns PS r.key);have HANS:Aw (uC PS r=if v2=0 then (v0,v1,v2) else (⟨#[]⟩,⟨#[]⟩,6)):=Hd (by unfold uC;rw [QX i,d]);have HV:=Hd d;clear i d;exact zGJ
end
section
variable {k:Bz} {x:Pr} {j:Nat} {l:List Cnt} {id:Int} {n:Nat}
def j6 (h:Op.bytesLess x.key.toList k.toList=true):geK k x=false:=by
 unfold geK Un;rw [h];rfl
def nF (h:Op.bytesLess x.key.toList k.toList=false):geK k x=true:=by
 unfold geK Un;rw [h];rfl
def vP {l:List Pr} (a:∀ t,t<j->∀ e,l[t]? =some e->geK k e=false) (b:l[j]? =some x) (c:geK k x=true):l.findIdx (geK k)=j:=Vn a b c
def Dn (k:Bz) (A:Option Addr) (n c:Nat) (l:List Pr) (w:Wd) (s:Sl prC 2 w w.1.size A n c l) (hn:n<=1100):
  Calls prog 89 #[.slice A n c,.string k] w (Ab w (.tuple #[.int .i64 (l.findIdx (geK k)),.bool (Y6 l k)])):=by
 have F:=Hd s;have D:=Hd s.len;obtain ⟨R,v⟩:=yG (l.findIdx (geK k):Nat);obtain ⟨Z,u⟩:=yG (Y6 l k);rw [v,u];have g:=Hd v;have E:=Hd u;clear v s u;go_wp2;go_loopw [6] (fun i wr=>∃ j:Nat,j<=n/\i=.int .i64 j/\(∀ t,t<j->∀ e,l[t]? =some e->geK k e=false)/\Below w.1.size w wr) (fun i _=>n-(intOf i).toNat)
 .exact ⟨0,Z0 _,rfl,fun t h=>absurd h Oo,Bf _ _⟩
 .obtain ⟨j,hj,rfl,hall,aF⟩:=hrel;have q:=Hd hall;have p:=Hd aF;clear hall;by_cases y:j<n
  .obtain ⟨b,o,x,rfl,hb,hg,aB⟩:=Sl.cell (f:=prC) (k:=2) (fun _=>rfl) (F.o.below aF) y;have H:=aB 0 _ rfl;simp only [QF] at H;have m:=Hd hg;have K:decide ((j:Int)<(n:Int))=true:=As
   have I:decide (j<n)=true:=As
   have B:=Hd y;clear hg aB aF hb;cases C:Op.bytesLess x.key.toList k.toList with
   |true=>
    have G:=Hd (j6 C);go_wp2;go_roundw
    .exact ⟨j+1,by have:=B.o;omega,Au,fun t J e he=>by
     by_cases h:t=j
     .subst h;rw [m.o] at he;injection he with he;subst he;exact G.o
     .exact q.o t Oo e he,p.o⟩
    .simp [intOf];have:=B.o;omega
   |false=>
    have a:R=j:=by rw [<-g.o];exact vP q.o m.o (nF C)
    have d:Aw (Z=(x.key.toList == k.toList)):=Hd (by rw [<-E.o];refine C9 ?_;rw [g.o,a];exact m.o);obtain ⟨z,hz⟩:=yG (x.key.toList == k.toList);rw [hz] at d;have r:=Hd a;clear a hj;go_wp2
    go_quiet (fail)
    go_wp2
    go_ret2
    rw [r.o,d.o];exact ⟨rfl,Uk p.o _⟩
  .obtain rfl:j=n:=Oo
   have a:R=j:=by rw [<-g.o];rw [Vj D.o q.o]
   have d:Aw (Z=false):=Hd (by rw [<-E.o];refine Hr ?_;rw [g.o,a];exact WM (by rw [D.o];exact Le _));have r:=Hd a;clear a aF hj;go_wp2
   go_quiet (fail)
   go_wp2
   go_ret2
   rw [r.o,d.o];exact ⟨rfl,Uk p.o _⟩
def qG {A:Option Addr} {c:Nat} {w:Wd} (i:Sl cnC 23 w w.1.size A n c l) (e:j<n):∃ b o x,A=some ⟨b,o,none⟩/\b<w.1.size/\l[j]? =some x/\w.cell? ⟨b,o+j*23,none⟩=some (.int .i64 x.d.id)/\w.cell? ⟨b,o+j*23+22,none⟩=some (.slice x.pA x.pn x.pc):=by
 obtain ⟨b,o,x,m,h,g,d⟩:=Sl.cell (f:=cnC) (k:=23) (fun _=>rfl) i e;have a:=d 0 _ rfl;simp only [QF] at a;exact ⟨b,o,x,m,h,g,a,d 22 _ rfl⟩
end
def SI (E:Nat) (p:Rdd->Bool) (A:Option Addr) (n c:Nat) (l:List Rdd) (w:Wd) (s:Sl rdC 6 w w.1.size A n c l) (hn:n<=9223372036854775807)
  (y:∀ x∈l,∀ W:Wd,Below w.1.size w W->Calls prog 19 #[.agg #[.int .i64 x.kind,.int .i64 x.id,.string x.key,.string x.ak,.string x.ar,.int .i64 x.code],Ag E 0] W (Ab W (.bool (p x)))):
  Calls prog 18 #[.slice A n c,.func (.func 19) #[] #[Ag E 0]] w (Ab w (.int .i64 (if l.findIdx p<n then (l.findIdx p:Int) else -1))):=by
 have J:=Hd s;have I:=Hd s.len;have H:=Hd y;clear s y;obtain ⟨R,r⟩:=yH ((if l.findIdx p<n then (l.findIdx p:Int) else -1):Int);rw [r.o];go_wp2;go_loopw [8] (fun i wr=>∃ j:Nat,j<=n/\i=.int .i64 j/\(∀ t,t<j->∀ e,l[t]? =some e->p e=false)/\Below w.1.size w wr) (fun i _=>n-(intOf i).toNat)
 .exact ⟨0,Z0 _,rfl,fun t h=>absurd h Oo,Bf _ _⟩
 .obtain ⟨j,hj,rfl,hall,aF⟩:=hrel;have q:=Hd hall;have C:=aF.size;clear hall;by_cases z:j<n
  .obtain ⟨b,o,x,rfl,hb,hg,aB⟩:=Sl.cell (f:=rdC) (k:=6) (fun _=>rfl) (J.below aF) z;have K:=aB 0 _ rfl;have c1:=aB 1 _ rfl;have c2:=aB 2 _ rfl;have c3:=aB 3 _ rfl;have c4:=aB 4 _ rfl;have c5:=aB 5 _ rfl;simp only [QF] at K;have B:=Hd (H x (QJ hg) wr aF);have D:=Hd hg;clear hg aB;cases d:p x with
   |true=>
    have g:R=(j:Int):=by rw [<-r.o,Vn q.o D.o d,QK z]
    have u:=Hd g;have m:=Hd d;clear g d;go_wp2_with fail;refine yP B fun F a=>?_
    rw [m.o];have v:=U0 aF a C;clear a;go_wp2;go_ret;exact ⟨by rw [u.o];rfl,v⟩
   |false=>
    have m:=Hd d;clear d;go_wp2_with fail;refine yP B fun F a=>?_
    rw [m.o];have v:=U0 aF a C;clear a;go_wp2;go_roundw
    .refine ⟨j+1,Oo,Au,fun t G e he=>?_,v⟩;by_cases h:t=j
     .subst h;rw [D.o] at he;injection he with he;subst he;exact m
     .exact q t Oo e he
    .exact At
  .have g:R = -1:=by rw [<-r.o,Vj I.o (fun t G=>q.o t Oo),QX Oo]
   have u:=Hd g;clear g;go_wp2;go_ret;exact ⟨by rw [u.o];rfl,aF⟩
def GG (s:List PC) (r:Rdd):Bool := !MW (MR s r.id) r
def OY (r:Rdd) (c a:Nat) (f:List Cnt) (w:Wd) (i:SW w a f) (b:w.cell? ⟨c,0,none⟩=some (.map (some a))):
  Calls prog 19 #[.agg #[.int .i64 r.kind,.int .i64 r.id,.string r.key,.string r.ak,.string r.ar,.int .i64 r.code],Ag c 0] w (Ab w (.bool (GG (f.map plC) r))):=by
 have e:Below w.1.size w (Aa w (rdC r).toArray 48):=Aj;have k:=Hd (Sj r a f _ (i.below e));have l:∀ o,(w.alloc o).cell? ⟨c,0,none⟩=some (.map (some a)):=fun o=>(XC w _ _ (Kd b)).trans b
 have d:=Hd (Blk.new w 48 (rdC r).toArray);have g:=Hd e;unfold GG;clear i b e;go_in;go_wp2_with (first|(with_reducible refine yL 48 2 d ?_)|(go_at_call 20;refine yP k fun m h=>?_;have j:=Hd (g.trans (h.mono g.size));clear h));go_ret;exact ⟨rfl,j⟩
def T7 (s:List PC) (i:Nat) (rs:List Rdd) (a b:Nat) (w:Wd) (e:Ending) (w':Wd):Prop:=
 if rs.findIdx (GG s)<rs.length then e=.returned (.bool false)/\Far [a,b] w w'/\w'.cell? ⟨a,0,none⟩=some (.int .i64 i)/\w'.cell? ⟨b,0,none⟩=some (.int .i64 (rs.findIdx (GG s):Nat))
 else e=.returned (.bool true)/\Below w.1.size w w'
def us (x:Com) (i f e d:Nat) (G z:Int) (h:List Cnt) (w:Wd) (D:SW w d h) (o:Sl rdC 6 w w.1.size x.rA x.rn x.rc x.rs) (hn:x.rn<=maxLen) (b:Blk w f 3 #[.int .i64 G]) (a:Blk w e 3 #[.int .i64 z]) (C:f≠e):
  Calls prog 17 #[.map (some d),.int .i64 i,.agg (Ud x).toArray,Ag f 0,Ag e 0] w (T7 (h.map plC) i x.rs f e w):=by
 have g:Below w.1.size w ((Aa w #[.map (some d)] 57).alloc (.cells (Ud x).toArray 42)):=Aj.alloc Am _;have m:Blk ((Aa w #[.map (some d)] 57).alloc (.cells (Ud x).toArray 42)) w.1.size 57 #[.map (some d)]:=(Blk.new w _ _).alloc _;have H:((Aa w #[.map (some d)] 57).alloc (.cells (Ud x).toArray 42)).cell? ⟨w.1.size+1,2,none⟩=some (.slice x.rA x.rn x.rc):=((U3 (w.alloc _) _ _ _ Am).cell 2).trans rfl;have j:=Hd (SI w.1.size (GG (h.map plC)) x.rA x.rn x.rc x.rs _ (o.after g g.size) (by unfold maxLen at hn;omega) fun r _ W v=>OY r w.1.size d h W ((D.below g).below v) (((m.below v m.lt).cell 0).trans rfl));have B:=o.len;have l:=Hd g;have E:=Hd (b.below g b.lt);have A:=Hd (a.below g a.lt);have M:=Hd (And.intro b.lt a.lt)
 have F:=Hd C;unfold T7;rw [B];obtain ⟨q,y⟩:=yG (x.rs.findIdx (GG (h.map plC)));rw [y] at j ⊢;clear D o hn b a g m B y;by_cases k:q<x.rn
 .simp only [QK k] at j ⊢;have P:decide ((0:Int)<=(q:Int))=true:=QQ Oo;have L:decide ((q:Int)<0)=false:=QW Oo;have R:=C.symm;clear k;go_in;go_wp2_with (go_at_call 18;refine yP j fun I c=>?_;have b:=E.below c E.lt;have a:=A.below c A.lt;have s:=Hd b;have t:=Hd a;have n:=Hd (l.trans (c.mono l.size));have Q:=(b.cell 0).trans (show _=some (Value.int .i64 G) from rfl);have S:=(a.cell 0).trans (show _=some (Value.int .i64 z) from rfl);have N:=b.free 0;have O:=a.free 0;clear c b a H);go_ret;have J:Far [f,e] w ((I.setCell ⟨f,0,none⟩ (.int .i64 i)).setCell ⟨e,0,none⟩ (.int .i64 q)):=((Far.of_below n).set _ _ _ (.inl Am)).set _ _ _ (.inl Am);have u:=(((s.set 0 (.int .i64 i)).far (p:=⟨e,0,none⟩) F (.int .i64 q)).cell 0)
  have K:=((t.far (p:=⟨f,0,none⟩) F.symm (.int .i64 i)).set 0 (.int .i64 q)).cell 0;exact ⟨rfl,J,u.trans rfl,K.trans rfl⟩
 .simp only [QX k] at j ⊢;clear k;go_in;go_wp2_with (go_at_call 18;refine yP j fun I c=>?_;have n:=Hd (l.trans (c.mono l.size));clear c H);go_ret;exact ⟨rfl,n⟩
end Go.Proofs.YtdleakjejodjjaaGreatDoor
