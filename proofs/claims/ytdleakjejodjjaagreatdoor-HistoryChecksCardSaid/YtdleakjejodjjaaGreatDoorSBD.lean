/- Of the history laws. -/
import Derived.Test.YtdleakjejodjjaaGreatDoorSBB
import Derived.Test.YtdleakjejodjjaaGreatDoorSAM
namespace Go.Proofs.YtdleakjejodjjaaGreatDoor
open Tryz
set_option linter.defProp false
set_option linter.unusedVariables false
set_option linter.unusedSimpArgs false
set_option maxRecDepth 100000
set_option maxHeartbeats 20000000
open Go.RowKit
def ch {b:Bool} {P:Prop} (h:P):b=false\/(b=true/\P):=by
 cases b with
 |false=>exact .inl rfl
 |true=>exact .inr ⟨rfl,h⟩
def ch0 (b:Bool):b=false\/b=true:=by cases b<;>simp
def IaG (L:List Int) (w:Wd) (e:Ending) (w':Wd):Prop:=∃ A c,e=.returned (.slice A L.length c)/\Sl iC 1 w' w'.1.size A L.length c L/\Below w.1.size w w'
def Eu (d:DSet):List Int:=[d.id,d.org,d.fmt,d.len,d.blk,d.kat,d.kln,d.itv,d.area,d.fi,d.fa,d.base,d.aat,d.aln]
def Fw (d:DSet) (w:Wd):Calls prog 304 #[.agg (dC d).toArray] w (IaG (Eu d) w):=by
 have m:=(Blk.new w 34 (dC d).toArray).ce 0 (.int .i64 d.id);have c1:=(Blk.new w 34 (dC d).toArray).ce 1 (.int .i64 d.org);have c2:=(Blk.new w 34 (dC d).toArray).ce 2 (.int .i64 d.fmt);have c3:=(Blk.new w 34 (dC d).toArray).ce 3 (.int .i64 d.len);have c4:=(Blk.new w 34 (dC d).toArray).ce 4 (.int .i64 d.blk);have c5:=(Blk.new w 34 (dC d).toArray).ce 5 (.int .i64 d.kat);have l:=(Blk.new w 34 (dC d).toArray).ce 6 (.int .i64 d.kln);have i:=(Blk.new w 34 (dC d).toArray).ce 7 (.int .i64 d.itv);have j:=(Blk.new w 34 (dC d).toArray).ce 8 (.int .i64 d.area)
 have g:=(Blk.new w 34 (dC d).toArray).ce 9 (.int .i64 d.fi);have b:=(Blk.new w 34 (dC d).toArray).ce 10 (.int .i64 d.fa);have c:=(Blk.new w 34 (dC d).toArray).ce 11 (.int .i64 d.base);have a:=(Blk.new w 34 (dC d).toArray).ce 12 (.int .i64 d.aat);have e:=(Blk.new w 34 (dC d).toArray).ce 13 (.int .i64 d.aln);go_wp2;go_ret;have h:=Sl.new (f:=iC) (k:=1) (fun _=>rfl) (Aa w (dC d).toArray 34) 3 (Eu d);rw [show (Aa w (dC d).toArray 34).1.size=w.1.size+1 from Am] at h;exact ⟨_,_,rfl,h.more Am,Aj.alloc Am _⟩
def Dc (d:DSet):Bool:=(Eu d).all (Uo · 0 1099511627776)&&(decide (1<=d.id))&&(decide (d.org<=3))&&(decide (d.fmt<=2))&&(decide (0<=d.cls))&&(decide (d.cls<=3))&&(orW d.vol)&&(orW d.own)&&(Uo d.cre 0 65536)&&(Uo d.exp 0 65536)
def oI (d:DSet) (w:Wd):Calls prog 294 #[.agg (dC d).toArray] w (Ab w (.bool (Dc d))):=by
 have I:Aw (Blk (Aa w (dC d).toArray 34) w.1.size 34 (dC d).toArray):=Hd (Blk.new w _ _);have U:=Hd (Fw d (Aa w (dC d).toArray 34));unfold Dc;have iY:=Hd fun W=>Ip d.vol W
 have i8:=Hd fun W=>Ip d.own W
 have v:=Hd fun W=>LJ d.cre W
 have bH:=Hd fun W=>LJ d.exp W
 obtain ⟨J,F⟩:∃ b,decide (1<=d.id)=b:=⟨_,rfl⟩
 obtain ⟨X,D⟩:∃ b,decide (d.org<=3)=b:=⟨_,rfl⟩
 obtain ⟨N,G⟩:∃ b,decide (d.fmt<=2)=b:=⟨_,rfl⟩
 obtain ⟨Y,H⟩:∃ b,decide (0<=d.cls)=b:=⟨_,rfl⟩
 obtain ⟨K,z⟩:∃ b,decide (d.cls<=3)=b:=⟨_,rfl⟩
 obtain ⟨b6,P⟩:∃ b,orW d.vol=b:=⟨_,rfl⟩
 obtain ⟨b7,M⟩:∃ b,orW d.own=b:=⟨_,rfl⟩
 obtain ⟨b8,V⟩:∃ b,Uo d.cre 0 65536=b:=⟨_,rfl⟩
 obtain ⟨b9,O⟩:∃ b,Uo d.exp 0 65536=b:=⟨_,rfl⟩
 rw [F,D,G,H,z,P,M,V,O];simp only [P] at iY;simp only [M] at i8;simp only [V] at v;simp only [O] at bH;clear P M V O;have HE:Aw (decide (1<=d.id)=J/\decide (d.org<=3)=X/\decide (d.fmt<=2)=N/\decide (0<=d.cls)=Y/\decide (d.cls<=3)=K):=Hd ⟨F,D,G,H,z⟩;clear F D G H z;obtain ⟨L,T⟩:=yG (Eu d);have i7:L.length=14:=by rw [<-T];rfl
 have fQ:=Hd i7;rw [T] at U ⊢;clear T;obtain ⟨R,E⟩:=yH (L.all (Uo · 0 1099511627776)&&J&&X&&N&&Y&&K&&b6&&b7&&b8&&b9);rw [E.o];go_in;go_wp2_with (first|(with_reducible refine yL 34 1 I.o ?_)|(go_at_call 304;refine U.o.mono ?_;rintro e w2 ⟨A,c,rfl,hs,a⟩;have Z:=Hd hs;have l:=Hd (I.o.below a I.o.lt);have C:=Hd ((Bf w.1.size w).alloc (Le _) (.cells (dC d).toArray 34) |>.trans (a.mono Am));clear hs a));rw [i7] at Z;clear i7 U;go_loop [4] (fun i=>∃ j:Nat,j<=14/\i=.int .i64 j/\∀ t,t<j->∀ x,L[t]? =some x->(fun n=>Uo n 0 1099511627776) x=true) (fun i=>14-(intOf i).toNat)
 .exact ⟨0,Z0 _,rfl,fun t h=>absurd h Oo⟩
 .obtain ⟨j,hj,rfl,g⟩:=hrel;have S:=Hd g;clear g;by_cases aE:j<14
  .obtain ⟨b,o,x,rfl,a,hg,aB⟩:=Sl.cell (f:=iC) (k:=1) (fun _=>rfl) Z.o aE;have c0:=aB 0 _ rfl;simp only [QF,WY] at c0;have HG:=Hd hg;have s:=Hd aE;have B:=Hd (QI x w2);clear hg aB a;cases hz:Uo x 0 1099511627776 with
   |false=>
    rw [hz] at B;have HZ:=Hd hz;go_wp2_with (go_at_call 360;refine yE B.o ?_);go_ret;exact ⟨by rw [<-E.o,Q0 HG.o HZ.o];rfl,C.o⟩
   |true=>
    rw [hz] at B;have HZ:=Hd hz;go_wp2_with (go_at_call 360;refine yE B.o ?_)
    go_round
    .exact ⟨j+1,by have:=s.o;omega,Au,fun t ht y hy=>by
     by_cases e:t=j
     .subst e;rw [HG.o] at hy;injection hy with hy;subst hy;exact HZ.o
     .exact S.o t Oo y hy⟩
    .simp [intOf];have:=s.o;omega
  .obtain rfl:j=14:=Oo
   have g:L.all (Uo · 0 1099511627776)=true:=L0 fQ.o S.o;have eK:=E.o;rw [g] at eK;have s:Aw (w.1.size<w2.1.size):=Hd l.o.lt;have c0:=l.o.ce 0 (.int .i64 d.id);have c1:=l.o.ce 1 (.int .i64 d.org);have c2:=l.o.ce 2 (.int .i64 d.fmt);have c15:=l.o.ce 15 (.int .i64 d.cls);have c16:=l.o.ce 16 (.string d.vol);have u:=l.o.ce 17 (.string d.own);have q:=l.o.ce 18 (.int .i64 d.cre);have m:=l.o.ce 19 (.int .i64 d.exp);obtain ⟨F,D,G,H,z⟩:=HE.o;clear g I l Z fQ S HE E
   rcases ch (b:=J) (ch (b:=X) (ch (b:=N) (ch (b:=Y) (ch (b:=K) (ch (b:=b6) (ch (b:=b7) (ch (b:=b8) (ch0 b9)))))))) with rfl|⟨rfl,rfl|⟨rfl,rfl|⟨rfl,rfl|⟨rfl,rfl|⟨rfl,rfl|⟨rfl,rfl|⟨rfl,rfl|⟨rfl,rfl|rfl⟩⟩⟩⟩⟩⟩⟩⟩
   all_goals
    subst eK
    go_wp2_with (first|(go_at_call 298;(with_reducible show Calls _ _ #[.string d.vol] _ _);refine yP (iY.o _) fun w4 a=>?_;have u:=(a.cell (p:=⟨w.1.size,17,none⟩) s.o).trans u;have q:=(a.cell (p:=⟨w.1.size,18,none⟩) s.o).trans q;have m:=(a.cell (p:=⟨w.1.size,19,none⟩) s.o).trans m;have Q:=Hd (C.o.trans (a.mono C.o.size));have r:=Hd (WK s.o a.size);clear a)|(go_at_call 298;(with_reducible show Calls _ _ #[.string d.own] _ _);refine yP (i8.o _) fun w5 a=>?_;have q:=(a.cell (p:=⟨w.1.size,18,none⟩) r.o).trans q;have m:=(a.cell (p:=⟨w.1.size,19,none⟩) r.o).trans m;have cP:=Hd (Q.o.trans (a.mono Q.o.size));clear a)|(go_at_call 296;(with_reducible show Calls _ _ #[.int .i64 d.cre] _ _);refine yE (v.o _) ?_)|(go_at_call 296;(with_reducible show Calls _ _ #[.int .i64 d.exp] _ _);refine yE (bH.o _) ?_))
    go_ret;exact ⟨rfl,by first|exact cP.o|exact Q.o|exact C.o⟩
def Bc {l:List Int} {j:Nat} {x:Int} (d:l[j]? =some x) (b:Bool) (c:b=(decide (j=0) || decide (l.getD (j-1) 0<x))):Zs l j=(decide (1<=x)&&decide (x<=1099511627776)&&b):=by
 have a:l.getD j 0=x:=by rw [WJ,d];rfl
 unfold Zs;rw [a,c]
def DA (A:Option Addr) (n c:Nat) (l:List Int) (w:Wd) (C:Sl iC 1 w w.1.size A n c l) (hn:n<=1000):Calls prog 295 #[.slice A n c] w (Ab w (.bool (Jr l&&decide (l.length<=4)))):=by
 have K:=Hd C;have B:=Hd C.len;obtain ⟨R,z⟩:=yH (Jr l&&decide (l.length<=4));rw [z.o];clear C;go_wp2;go_loopw [3] (fun i wr=>∃ j:Nat,j<=n/\i=.int .i64 j/\(∀ t,t<j->Zs l t=true)/\Below w.1.size w wr) (fun i _=>n-(intOf i).toNat)
 .exact ⟨0,Z0 _,rfl,fun t h=>absurd h Oo,Bf _ _⟩
 .obtain ⟨j,hj,rfl,hall,aF⟩:=hrel;have e:=Hd aF;have G:=Hd hall;clear hall aF;by_cases L:j<n
  .have eA:Aw (Zs l j=false->R=false):=Hd fun h=>by
    rw [<-z.o,show Jr l=false from ZM.2 ⟨j,YO.2 (by have:=B.o;omega),by rw [h];simp⟩];rfl
   obtain ⟨b,o,x,rfl,N,E,H⟩:=Sl.cell (f:=iC) (k:=1) (fun _=>rfl) (K.below e) L;have F:=H 0 _ rfl;simp only [QF,WY] at F;have v:=Hd E;clear N E H;by_cases q:x<1
   .have e1:decide (x<1)=true:=QQ q;have d:Aw (R=false):=Hd (eA (by rw [Bc v.o _ rfl,QW Oo];rfl));go_wp2
    go_region
    go_wp2;go_ret;exact ⟨by rw [d.o];rfl,e.drew⟩
   .have e1:decide (x<1)=false:=QW q;by_cases g:1099511627776<x
    .have e2:decide (1099511627776<x)=true:=QQ g;have d:Aw (R=false):=Hd (eA (by rw [Bc v.o _ rfl,QQ (show 1<=x from Oo),QW (show ¬ x<=1099511627776 from Oo)];rfl));go_wp2
     go_region
     go_wp2;go_ret;exact ⟨by rw [d.o];rfl,e.drew⟩
    .have e2:decide (1099511627776<x)=false:=QW g;have a:Aw (∀ s,s=(decide (j=0) || decide (l.getD (j-1) 0<x))->Zs l j=s):=Hd fun s P=>by rw [Bc v.o s P,QQ (show 1<=x from Oo),QQ (show x<=1099511627776 from Oo)];rfl
     cases j with
     |zero=>
      rw [show ((0:Nat):Int)=0 from rfl];simp only [QF] at F;go_wp2
      go_region
      go_wp2;go_roundw
      .exact ⟨1,Oo,Au,fun t u=>by (obtain rfl:t=0:=by omega);exact a true rfl,e.drew⟩
      .exact At
     |succ m=>
      obtain ⟨W,V,y,D,S,J,I⟩:=Sl.cell (f:=iC) (k:=1) (fun _=>rfl) (K.below e) (show m<n from Oo);injection D with D
      injection D with q1 q2
      subst q1 q2;have M:=I 0 _ rfl;simp only [QF,WY] at M;have p:Aw (l.getD (m+1-1) 0=y):=Hd (by rw [show m+1-1=m from rfl,WJ,J];rfl);clear S J I;have U:IntKind.i64.wrap (m:Int)=m:=QL _ Oo;have r2:(0:Int)<=(m:Int)+1:=Oo
      by_cases r:x<=y
      .have e3:decide (x<=y)=true:=QQ r;have d:Aw (R=false):=Hd (eA (a false (by rw [p.o,QW (show ¬ y<x from Oo)];simp)));go_wp2
       go_region
       go_wp2;go_ret;exact ⟨by rw [d.o];rfl,e.drew⟩
      .have e3:decide (x<=y)=false:=QW r;have Q:Aw (Zs l (m+1)=true):=Hd (a true (by rw [p.o,QQ (show y<x from Oo)];simp));go_wp2
       go_region
       go_wp2;go_roundw
       .refine ⟨m+2,Oo,Au,fun t u=>?_,e.drew⟩;by_cases T:t=m+1
        .rw [T];exact Q
        .exact G t Oo
       .exact At
  .obtain rfl:j=n:=Oo
   have d:Aw (R=decide (j<=4)):=Hd (by
    rw [<-z.o,show Jr l=true from WE.2 fun t u=>G.o t (by have:=YO.1 u;have:=B.o;omega),B.o];rfl)
   have O:decide ((j:Int)<=4)=decide (j<=4):=by rw [XW];simp only [QG];omega
   rcases ch0 (decide (j<=4)) with h|h
   all_goals
    rw [h] at O d;clear h;go_wp2;go_ret;exact ⟨by rw [d.o];rfl,e⟩
def TF (A:Option Addr) (n c:Nat) (l:List Int) (w:Wd) (d:Sl iC 1 w w.1.size A n c l) (hn:n<=1000):Calls prog 308 #[.slice A n c,.slice A n c] w (Ab w (.bool true)):=by
 have h:=Hd d;clear d;go_wp2;go_loopw [5] (fun i wr=>∃ j:Nat,j<=n/\i=.int .i64 j/\Below w.1.size w wr) (fun i _=>n-(intOf i).toNat)
 .exact ⟨0,Z0 _,rfl,Bf _ _⟩
 .obtain ⟨j,hj,rfl,aF⟩:=hrel;have a:=Hd aF;by_cases e:j<n
  .obtain ⟨b,o,x,rfl,hb,hg,aB⟩:=Sl.cell (f:=iC) (k:=1) (fun _=>rfl) (h.below aF) e;have g:=aB 0 _ rfl;simp only [QF,WY] at g;clear hb hg aB aF;go_wp2
   go_region
   go_wp2;go_roundw
   .exact ⟨j+1,Oo,Au,a.drew⟩
   .exact At
  .obtain rfl:j=n:=Oo
   clear aF;go_wp2;go_ret;exact ⟨rfl,a⟩
section
variable {e:En} {a:EnA} {w W:Wd}
section
variable {P:Program} {ops:Array Oper} {r:List Oper} {a:Act} {w:Wd} {Q:Exit->Act->Wd->Prop}
def I5 {ρ:Operand->Value} {o:Oper} {T:TypeId} {x:Operand} {p:Addr} {v:Value} (b:o.op=.load T x) (f:ρ x=.pointer (some p)) (d:w.cell? p=some v) (c:(isAgg T).run P w=.ok false w):(execOp ρ o).run P w=.ok (.value v) w:=by
 unfold execOp;simp only [b,f,Instr.loadAt,Instr.sureAddr,loadVar,ZG,KL,XB,c,VM,if_false,run_load,d]
def EK {b c d f i:Oper} {T l y:TypeId} {n m k j:Operand} (p q:Addr) (v:Value) (G:w.cell? p=some v) (z:w.cell? q=some v) (H:(binOp .eql T v v).run P w=.ok (.bool true) w)
  (h:wpList P ops Q r (((((a.put b.dst (.pointer (some p))).put c.dst v).put d.dst (.pointer (some q))).put f.dst v).put i.dst (.bool true)) w)
  (t:Region.wanted b (yielded ops a.tmps)=true:=by kernel_rfl) (A:(execOp a.eval b).run P w=.ok (.value (.pointer (some p))) w:=by kernel_rfl)
  (K:Region.wanted c (yielded ops (a.put b.dst (.pointer (some p))).tmps)=true:=by kernel_rfl) (I:c.op=.load l n:=by rfl) (E:(a.put b.dst (.pointer (some p))).eval n=.pointer (some p):=by rfl) (o:(isAgg l).run P w=.ok false w:=by kernel_rfl)
  (B:Region.wanted d (yielded ops ((a.put b.dst (.pointer (some p))).put c.dst v).tmps)=true:=by kernel_rfl) (x:(execOp ((a.put b.dst (.pointer (some p))).put c.dst v).eval d).run P w=.ok (.value (.pointer (some q))) w:=by kernel_rfl)
  (s:Region.wanted f (yielded ops (((a.put b.dst (.pointer (some p))).put c.dst v).put d.dst (.pointer (some q))).tmps)=true:=by kernel_rfl) (F:f.op=.load l m:=by rfl) (J:(((a.put b.dst (.pointer (some p))).put c.dst v).put d.dst (.pointer (some q))).eval m=.pointer (some q):=by rfl)
  (L:Region.wanted i (yielded ops ((((a.put b.dst (.pointer (some p))).put c.dst v).put d.dst (.pointer (some q))).put f.dst v).tmps)=true:=by kernel_rfl) (C:i.op=.binOp .eql T k j y:=by rfl)
  (u:((((a.put b.dst (.pointer (some p))).put c.dst v).put d.dst (.pointer (some q))).put f.dst v).eval k=v:=by rfl) (D:((((a.put b.dst (.pointer (some p))).put c.dst v).put d.dst (.pointer (some q))).put f.dst v).eval j=v:=by rfl) (g:(eqGuard .eql T k j v v).run P w=.ok () w:=by kernel_rfl):
  wpList P ops Q (b::c::d::f::i::r) a w:=
 V0 t _ A (V0 K _ (I5 I E G o) (V0 B _ x (V0 s _ (I5 F J z o) (V0 L _ (Mr C u D g H) h))))
def Yg {b d:Oper} (c f:Value) (h:wpList P ops Q r ((a.put b.dst c).put d.dst f) w)
  (g:Region.wanted b (yielded ops a.tmps)=true:=by kernel_rfl) (i:(execOp a.eval b).run P w=.ok (.value c) w:=by kernel_rfl)
  (j:Region.wanted d (yielded ops (a.put b.dst c).tmps)=true:=by kernel_rfl) (r2:(execOp (a.put b.dst c).eval d).run P w=.ok (.value f) w:=by kernel_rfl):wpList P ops Q (b::d::r) a w:=V0 g _ i (V0 j _ r2 h)
end
structure SX (e:En) (a:EnA) (w W:Wd):Prop where
 b1:Blk W w.1.size 144 (enC e a).toArray
 b2:Blk W (w.1.size+1) 144 (enC e a).toArray
 be:Below w.1.size w W
def SX.new (e:En) (a:EnA) (w:Wd):SX e a w ((Aa w (enC e a).toArray 144).alloc (.cells (enC e a).toArray 144)):=
 ⟨(Blk.new w _ _).alloc _,U3 (w.alloc _) _ _ (w.1.size+1) Am,Aj.alloc Am _⟩
def SX.next {W':Wd} (h:SX e a w W) (b:Below W.1.size W W'):SX e a w W':=⟨h.b1.below b h.b1.lt,h.b2.below b h.b2.lt,h.be.trans (b.mono h.be.size)⟩
def SX.c1 (h:SX e a w W) (i:Nat) (v:Value) (b:(enC e a)[i]? =some v):W.cell? ⟨w.1.size,i,none⟩=some v:=by rw [h.b1.cell];simpa using b
def SX.c2 (h:SX e a w W) (i:Nat) (v:Value) (b:(enC e a)[i]? =some v):W.cell? ⟨w.1.size+1,i,none⟩=some v:=by rw [h.b2.cell];simpa using b
def Lp (e:En) (a:EnA) (w:Wd) (hw:EW [] w e a) (B:e.alts.length<=1000) (L:e.grants.length<=1000):
  Calls prog 231 #[.agg (enC e a).toArray,.agg (enC e a).toArray] w (Ab w (.bool true)):=by
 have c:=Hd (SX.new e a w);obtain ⟨J,jV⟩:∃ W,(Aa w (enC e a).toArray 144).alloc (.cells (enC e a).toArray 144)=W:=⟨_,rfl⟩
 rw [jV] at c;have c1:=c.c1 32 _ rfl;have c2:=c.c2 32 _ rfl;have q:Aw (∀ W,Below w.1.size w W->Calls prog 308 #[.slice a.aA e.alts.length a.aC,.slice a.aA e.alts.length a.aC] W (Ab W (.bool true))):=Hd fun W d=>TF _ _ _ _ W ((hw.below d).sa) B
 have s:Aw (∀ W,Below w.1.size w W->Sl grC 3 W W.1.size a.gA e.grants.length a.gC e.grants):=Hd fun W d=>(hw.below d).sg
 have E:Aw (∀ W:Wd,(binOp .eql 34 (.agg (dC e.d).toArray) (.agg (dC e.d).toArray)).run prog W=.ok (.bool true) W):=Hd fun W=>by rw [Sx,(NE e.d e.d).2 rfl]
 have m:=Hd fun j y=>Jj e a j y
 clear hw;go_in;go_wp2_with (rw [jV]);clear c1 c2 jV;go_loopw [5] (fun i wr=>∃ j:Nat,j<=e.grants.length/\i=.int .i64 j/\SX e a w wr) (fun i _=>e.grants.length-(intOf i).toNat)
 .exact ⟨0,Z0 _,rfl,c⟩
 .obtain ⟨j,y,rfl,hx⟩:=hrel;have c:=Hd hx;have c1:=hx.c1 32 _ rfl;have c2:=hx.c2 32 _ rfl;clear hx;by_cases z:j<e.grants.length
  .have hsg:=s wr c.be;obtain ⟨b,o,g,d,D,A,p⟩:=Sl.cell (f:=grC) (k:=3) (fun _=>rfl) hsg z;rw [d] at c1 c2;have C:=p 0 _ rfl;have H:=p 1 _ rfl;have F:=p 2 _ rfl;simp only [QF] at C;clear D A p hsg d;go_wp2
   go_region
   go_wp2;go_roundw
   .exact ⟨j+1,Oo,Au,c.next (Bf _ _).drew⟩
   .exact At
  .obtain rfl:j=e.grants.length:=Oo
   go_wp2_with ((with_reducible show wpList _ _ _ (⟨_,.fieldAddr _ _ _,_,_,_,_⟩::_) _ _);refine Stop.go ?_);refine Stop.in' ?_;refine Yg (Ag w.1.size 32) (.slice a.gA e.grants.length a.gC) ?_ (r2:=I5 rfl rfl (c.c1 32 _ rfl) Ak);simp only [Act.put,Sv,Sz,Sw];refine Yg (.int .i64 e.grants.length) (.bool false) ?_ (r2:=Az);simp only [Act.put,Sv,Sz,Sw];refine KY ?_;simp only [Exit.then];clear c1 c2;rename_i N I l O G t K x;have h:=Hd l;clear l;refine x _ _ ?_;clear x K;go_wp2;refine h _ _ ?_;clear h t;refine wp_seq_k fun M u=>?_
   refine UF ?_;refine EK (T:=3) ⟨w.1.size,0,none⟩ ⟨w.1.size+1,0,none⟩ (.int .i64 e.kind) (c.c1 0 _ rfl) (c.c2 0 _ rfl) Az ?_;simp only [Act.put,Sv,Sz,Sw];refine Wn ?_;refine EK (T:=9) ⟨w.1.size,1,none⟩ ⟨w.1.size+1,1,none⟩ (.string e.name) (c.c1 1 _ rfl) (c.c2 1 _ rfl) Az ?_;simp only [Act.put,Sv,Sz,Sw];refine Yg (.bool true) (.bool true) ?_;simp only [Act.put,Sv,Sz,Sw];refine Wn ?_;refine V3 Ak 34 _ rfl w.1.size 2 rfl (dC e.d) _ (fun j v n=>c.c1 (2+j) v (by rw [m.o j (QZ.1 n).1];exact n)) underlying34 rfl Ak ?_;simp only [Act.put,Sv,Sz,Sw];refine Wn ?_
   refine V3 Ak 34 _ rfl (w.1.size+1) 2 rfl (dC e.d) _ (fun j v n=>c.c2 (2+j) v (by rw [m.o j (QZ.1 n).1];exact n)) underlying34 rfl Ak ?_;simp only [Act.put,Sv,Sz,Sw];refine V0 Ak (.bool true) (Mr rfl rfl rfl Ak (E _)) ?_;simp only [Act.put,Sv,Sz,Sw];refine Yg (.bool true) (.bool true) ?_;simp only [Act.put,Sv,Sz,Sw];refine Yg (Ag w.1.size 23) (.slice a.aA e.alts.length a.aC) ?_ (r2:=I5 rfl rfl (c.c1 23 _ rfl) Ak);simp only [Act.put,Sv,Sz,Sw];refine Yg (Ag (w.1.size+1) 23) (.slice a.aA e.alts.length a.aC) ?_ (r2:=I5 rfl rfl (c.c2 23 _ rfl) Ak);simp only [Act.put,Sv,Sz,Sw]
   refine Zv Ak 308 #[.slice a.aA e.alts.length a.aC,.slice a.aA e.alts.length a.aC] Ak ?_;refine yT (q _ c.be) c.next fun R c=>?_
   simp only [];simp only [Act.put,Sv,Sz,Sw];refine Yg (.bool true) (.bool true) ?_;simp only [Act.put,Sv,Sz,Sw];refine EK (T:=3) ⟨w.1.size,24,none⟩ ⟨w.1.size+1,24,none⟩ (.int .i64 e.used) (c.c1 24 _ rfl) (c.c2 24 _ rfl) Az ?_;simp only [Act.put,Sv,Sz,Sw];refine Yg (.bool true) (.bool true) ?_;simp only [Act.put,Sv,Sz,Sw];refine EK (T:=3) ⟨w.1.size,25,none⟩ ⟨w.1.size+1,25,none⟩ (.int .i64 e.limit) (c.c1 25 _ rfl) (c.c2 25 _ rfl) Az ?_;simp only [Act.put,Sv,Sz,Sw];refine Yg (.bool true) (.bool true) ?_;simp only [Act.put,Sv,Sz,Sw];refine EK (T:=3) ⟨w.1.size,26,none⟩ ⟨w.1.size+1,26,none⟩ (.int .i64 e.last) (c.c1 26 _ rfl) (c.c2 26 _ rfl) Az ?_;simp only [Act.put,Sv,Sz,Sw];refine Yg (.bool true) (.bool true) ?_;simp only [Act.put,Sv,Sz,Sw]
   refine EK (T:=4) ⟨w.1.size,27,none⟩ ⟨w.1.size+1,27,none⟩ (.bool e.empty) (c.c1 27 _ rfl) (c.c2 27 _ rfl) Az ?_;simp only [Act.put,Sv,Sz,Sw];refine Yg (.bool true) (.bool true) ?_;simp only [Act.put,Sv,Sz,Sw];refine EK (T:=9) ⟨w.1.size,28,none⟩ ⟨w.1.size+1,28,none⟩ (.string e.owner) (c.c1 28 _ rfl) (c.c2 28 _ rfl) Az ?_;simp only [Act.put,Sv,Sz,Sw];refine Yg (.bool true) (.bool true) ?_;simp only [Act.put,Sv,Sz,Sw];refine EK (T:=9) ⟨w.1.size,29,none⟩ ⟨w.1.size+1,29,none⟩ (.string e.target) (c.c1 29 _ rfl) (c.c2 29 _ rfl) Az ?_;simp only [Act.put,Sv,Sz,Sw];refine Yg (.bool true) (.bool true) ?_;simp only [Act.put,Sv,Sz,Sw];refine EK (T:=3) ⟨w.1.size,30,none⟩ ⟨w.1.size+1,30,none⟩ (.int .i64 e.catalog) (c.c1 30 _ rfl) (c.c2 30 _ rfl) Az ?_;simp only [Act.put,Sv,Sz,Sw]
   refine Yg (.bool true) (.bool true) ?_;simp only [Act.put,Sv,Sz,Sw];refine EK (T:=3) ⟨w.1.size,31,none⟩ ⟨w.1.size+1,31,none⟩ (.int .i64 e.level) (c.c1 31 _ rfl) (c.c2 31 _ rfl) Az ?_;simp only [Act.put,Sv,Sz,Sw];refine Yg (.bool true) (.bool true) ?_;simp only [Act.put,Sv,Sz,Sw];refine KY ?_;simp only [Exit.then];refine u _ _ ?_;go_wp2;go_ret;exact ⟨rfl,c.be⟩
end
def LoB (w:Wd) (x:Ending) (w':Wd):Prop:=(∃ b,x=.returned (.bool b))/\Below w.1.size w w'
def mI {G:Prop} (h:G:=by
  go_wp2_with (first|(go_at_call 361;refine yP HQ.o fun w2 aH=>?_;have c2:=gP.o _ aH;have aK:=Hd (HB.o.trans (aH.mono HB.o.size));clear aH)|(go_at_call 301;refine yE (HL.o _) ?_))
  first
   |go_ret
    exact ⟨⟨_,rfl⟩,aK.o⟩
   |clear c0 c2 gP HQ HL
    go_loopw [4] (fun i wq=>∃ m:Nat,m<=j/\i=.int .i64 m/\Below w.1.size w wq) (fun i _=>j-(intOf i).toNat)
    .exact ⟨0,Z0 _,rfl,aK.o⟩
    .obtain ⟨m,hm,rfl,hbq⟩:=hrel;have HBq:=Hd hbq;by_cases hml:m<j
     .obtain ⟨b',o',y,fV,hB',fG,aY⟩:=Sl.cell (f:=grC) (k:=3) (fun _=>rfl) (HS.o.below hbq) aE;injection fV with fV;injection fV with q1 q2;subst q1 q2
      have x0:=aY 0 _ rfl;have x1:=aY 1 _ rfl;obtain ⟨b',o',z,fV,hB',fG,aY⟩:=Sl.cell (f:=grC) (k:=3) (fun _=>rfl) (HS.o.below hbq) (show m<n from Oo);injection fV with fV;injection fV with q1 q2;subst q1 q2
      have y0:=aY 0 _ rfl;have y1:=aY 1 _ rfl;simp only [QF] at x0 y0;clear hB' fG aY hbq HA aK;obtain ⟨who,g1,le⟩:=y;obtain ⟨who2,g2,le2⟩:=z;obtain ⟨q,hq⟩:=yG (who2.toList == who.toList);cases q<;>cases g1<;>cases g2
      all_goals
       go_wp2
       go_region
       go_wp2
       first
        |(go_roundw
          .exact ⟨m+1,Oo,Au,HBq.o.drew⟩
          .simp [intOf];omega)
        |(go_ret
          exact ⟨⟨_,rfl⟩,HBq.o.drew⟩)
     .obtain rfl:m=j:=by omega
      go_wp2;go_roundw
      .exact ⟨m+1,Oo,Au,HBq.o⟩
      .simp [intOf];omega):G:=h
def Ri (A:Option Addr) (n c:Nat) (l:List Gra) (w:Wd) (d:Sl grC 3 w w.1.size A n c l) (hn:n<=1000):Calls prog 302 #[.slice A n c] w (LoB w):=by
 have HS:=Hd d;clear d;go_wp2;go_loopw [3] (fun i wr=>∃ j:Nat,j<=n/\i=.int .i64 j/\Below w.1.size w wr) (fun i _=>n-(intOf i).toNat)
 .exact ⟨0,Z0 _,rfl,Bf _ _⟩
 .obtain ⟨j,hj,rfl,aF⟩:=hrel;have HB:=Hd aF;by_cases aE:j<n
  .obtain ⟨b,o,x,hA,a,hg,aB⟩:=Sl.cell (f:=grC) (k:=3) (fun _=>rfl) (HS.below aF) aE;have c0:=aB 0 _ rfl;have c2:=aB 2 _ rfl;simp only [QF] at c0;have HQ:=Hd (Nf x.who wr);have HL:=Hd fun W=>LB x.level W
   have HA:=Hd hA;subst hA;clear a hg aB aF;generalize EU x.who=e at HQ;generalize Uo x.level 0 3=g at HL;cases e with
   |false=>
    go_wp2_with (go_at_call 361;refine yP HQ fun w2 aH=>?_;have aK:=Hd (HB.trans (aH.mono HB.size));clear aH);go_ret;exact ⟨⟨_,rfl⟩,aK⟩
   |true=>
    have gP:Aw (∀ W,Below wr.1.size wr W->W.cell? ⟨b,o+j*3+2,none⟩=some (.int .i64 x.level)):=Hd fun W a=>by
     obtain ⟨b',o',r,fV,hB',fG,aY⟩:=Sl.cell (f:=grC) (k:=3) (fun _=>rfl) (HS.below HB) aE;injection fV with fV;injection fV with q1 q2;subst q1 q2
     exact (a.cell (p:=⟨b,_,none⟩) (WK hB' HB.size)).trans c2
    clear c2;cases g with
    |false=>
     exact mI
    |true=>
     exact mI
  .obtain rfl:j=n:=Oo
   have hq:decide ((j:Int)<=8)=decide (j<=8):=by rw [XW];simp only [QG];omega
   rcases ch0 (decide (j<=8)) with h|h
   all_goals
    rw [h] at hq;clear h aF;go_wp2;go_ret;exact ⟨⟨_,rfl⟩,HB⟩
section
variable {e:En} {a:EnA} {cs:Array Value} {w W:Wd}
inductive UsA:En->EnA->Prop
 |k0 (nm:Bz) (d:DSet) (al:List Int) (u:Int) (A:Option Addr) (C:Nat):UsA ⟨0,nm,d,al,u,0,0,false,⟨#[]⟩,⟨#[]⟩,0,0,[]⟩ ⟨A,C,none,0⟩
 |k1 (nm:Bz) (li la:Int) (em:Bool) (ow:Bz):UsA ⟨1,nm,dZ,[],0,li,la,em,ow,⟨#[]⟩,0,0,[]⟩ enN
 |k2 (nm t:Bz):UsA ⟨2,nm,dZ,[],0,0,0,false,⟨#[]⟩,t,0,0,[]⟩ enN
 |k3 (nm:Bz) (c:Int):UsA ⟨3,nm,dZ,[],0,0,0,false,⟨#[]⟩,⟨#[]⟩,c,0,[]⟩ enN
 |k4 (nm:Bz) (lv:Int) (ow:Bz) (g:List Gra) (A:Option Addr) (C:Nat):UsA ⟨4,nm,dZ,[],0,0,0,false,ow,⟨#[]⟩,0,lv,g⟩ ⟨none,0,A,C⟩
structure UX (e:En) (a:EnA) (cs:Array Value) (w W:Wd):Prop where
 b0:Blk W w.1.size 144 (enC e a).toArray
 b1:∃ old:Array Value,old.size=33/\Blk W (w.1.size+1) 144 old
 b2:Blk W (w.1.size+2) 144 cs
 be:Below w.1.size w W
abbrev oO (w:Wd) (e) (a) (old):=(w.alloc (.cells (enC e a).toArray 144)).alloc (.cells old 144)
def UX.new (e:En) (a:EnA) (w:Wd) (b cs:Array Value) (c:b.size=33):UX e a cs w (Aa (oO w e a b) cs 144):=
 ⟨((Blk.new w _ _).alloc _).alloc _,⟨b,c,(U3 (w.alloc _) _ _ (w.1.size+1) Am).alloc _⟩,U3 ((w.alloc _).alloc _) _ _ (w.1.size+2) Am,(Aj.alloc Am _).alloc As _⟩
def UX.row (h:UX e a cs w W) (c2:Array Value):UX e a c2 w (W.setRow (w.1.size+2) c2):=by
 obtain ⟨b,c,d⟩:=h.b1;exact ⟨Uh h.b0 Oo,⟨b,c,Uh d Oo⟩,QR _ _ _ _ _ _ h.b2,Xq h.be Oo _⟩
def UX.drew (h:UX e a cs w W):UX e a cs w W.drew:=⟨h.b0,h.b1,h.b2,h.be.drew⟩
def UX.set (h:UX e a cs w W) (i:Nat) (v:Value):UX e a (cs.setIfInBounds i v) w (W.setCell ⟨w.1.size+2,i,none⟩ v):=by
 obtain ⟨b,c,d⟩:=h.b1;exact ⟨h.b0.far (by show w.1.size≠w.1.size+2;omega) v,⟨b,c,d.far (by show w.1.size+1≠w.1.size+2;omega) v⟩,h.b2.set i v,h.be.setCell (by show _<=w.1.size+2;omega) _⟩
def UX.ret (h:UX e a (enC e a).toArray w W) {c:Func} {b:Act} {p:Nat} (g:c.results=#[.cell p 144]) (f:b.tmps.getD p undef=(Ag (w.1.size+1) 0)) (d:b.defers=[]):
  bodyPost prog c (fun x w'=>x=.returned (.agg (enC e a).toArray)/\Below w.1.size w w') .ret b (W.setRow (w.1.size+1) (enC e a).toArray):=by
 obtain ⟨i,k,j⟩:=h.b1;refine Br (BM g f (Ux _ _ _ (QR _ _ _ _ _ _ j) rfl)) d ?_;exact ⟨rfl,Xq h.be Oo _⟩
def tsg {P:Program} {d:Region.Mode} {ops:Array Oper} {Q:Exit->Act->Wd->Prop} {c:Nat} {a:Act} {b:Array Bool} {s:Sto} {g:Nat} {t:TypeId} (i:StoOk P ops a w s) (f:Blk w g t cs) (hn:s.g≠g)
  (h:Blk (Sto.go w s) g t cs->wpAnyH P d ops Q (fun W=>Blk W g t cs) c (b.setIfInBounds s.i true) a (Sto.go w s)) (j:Region.ready d ops b=[s.i]:=by kernel_rfl):wpAnyH P d ops Q (fun W=>Blk W g t cs) (c+1) b a w:=
 ts1 i (S7 f hn) (h (S7 f hn)) j
theorem zYY {G:Prop} (h:G:=by
  refine Ad Ak ?_ _;clear Hh HD HU HX KX KS iY HE m0;go_wp2_with (first|(refine Gl 144 3 ?_;refine yK HR.o.b2 ?_)|(refine Gt 144 2 ?_;obtain ⟨old,ho,hb⟩:=HR.o.b1;refine yV hb HO.o ?_ (hold:=ho);clear hb ho));exact HR.o.ret results292 rfl rfl):G:=h
def Df (h:UsA e a) (w:Wd):Calls prog 292 #[.agg (enC e a).toArray] w (Ab w (.agg (enC e a).toArray)):=by
 have HX:=Hd fun old cs ho=>UX.new e a w old cs ho
 have m0:=fun old:Array Value=>(((Blk.new w 144 (enC e a).toArray).alloc (.cells old 144)).ce 0 (.int .i64 e.kind))
 have z:=fun old:Array Value=>(((Blk.new w 144 (enC e a).toArray).alloc (.cells old 144)).ce 1 (.string e.name))
 have iY:=Hd (Um (enK e.kind e.name) enN);have HO:=Hd (Um e a);have KX:=Hd fun (old r:Array Value)=>U3 (oO w e a old) 144 r (w.1.size+2) Am
 have KS:=Hd fun (old r:Array Value)=>X6 (oO w e a old) (w.1.size+2) Am r (enC (enK e.kind e.name) enN).toArray 144
 have hn:w.1.size+2≠w.1.size:=Oo
 obtain ⟨D,he⟩:=yG e;obtain ⟨J,s⟩:=yG a;rw [he,s] at h;rcases h with ⟨b,d,l,u,A,C⟩|⟨b,n,o,m,k⟩|⟨b,t⟩|⟨b,c⟩|⟨b,p,k,g,A,C⟩
 all_goals
  have HE:=Hd (And.intro he s);clear he s;go_in
  go_wp2_with (first|(refine Gb 144 ?_;refine U1 Ak 144 _ rfl (enC (enK e.kind e.name) enN).toArray Ak ?_)|(refine Gt 144 3 ?_;refine Lv 144 (w.1.size+2) (enC (enK e.kind e.name) enN).toArray (KX _ _) iY ?_;rw [KS.o];refine Wg (Φ:=UX e a (enC (enK e.kind e.name) enN).toArray w) (HX _ _ Af) ?_;intro i f;clear m0 z;have HU:=Hd f;have m0:=f.b0.ce 0 (.int .i64 e.kind);rw [HE.o.1] at m0;simp only at m0;try (have E:=f.b0.ce 29 (.string e.target);have F:=f.b0.ce 30 (.int .i64 e.catalog);have H:=f.b2.free 29;have I:=f.b2.ce 29 (.string ⟨#[]⟩);have L:=f.b2.free 30;have K:=f.b2.ce 30 (.int .i64 0);first|have HR:=Hd (show UX e a (enC e a).toArray w (i.setCell ⟨w.1.size+2,29,none⟩ (.string e.target)) by obtain ⟨rfl,rfl⟩:=HE.o;exact f.set 29 _)|have HR:=Hd (show UX e a (enC e a).toArray w (i.setCell ⟨w.1.size+2,30,none⟩ (.int .i64 e.catalog)) by obtain ⟨rfl,rfl⟩:=HE.o;exact f.set 30 _));clear f)|(refine Gl 144 3 ?_;refine yK HR.b2 ?_)|(refine Gt 144 2 ?_;obtain ⟨old,ho,hb⟩:=HR.o.b1;refine yV hb HO ?_ (hold:=ho);clear hb ho))
 .have HD:=Hd HU.drew;obtain ⟨rfl,rfl⟩:=HE.o;refine Rw (S:=fun W=>Blk W w.1.size 144 _) Ak HD.b0 (fun Hh=>?_);refine tA 0 Hh ?_;refine tk 1 (.agg (dC d).toArray) Hh ?_ (y:=WT Af 34 _ rfl w.1.size 2 rfl (dC d) _ (fun W x j v q=>by rw [Blk.cell x];have B:j<21:=(QZ.1 q).1;have h:=Jj ⟨0,b,d,l,u,0,0,false,⟨#[]⟩,⟨#[]⟩,0,0,[]⟩ ⟨A,C,none,0⟩ j B;rw [<-q,<-h];simp) underlying34 rfl Ak);refine tA 2 Hh ?_;refine tC 3 (fun _ h=>(Blk.cell h 23).trans rfl) Hh ?_;refine tA 4 Hh ?_;refine tC 5 (fun _ h=>(Blk.cell h 24).trans rfl) Hh ?_;refine tA 6 Hh ?_;refine tsg (sto 7 (w.1.size+2) 2 (dC d) HD.b2 (fun v q=>Array.all_eq_true_iff_forall_mem.1 (Xc d) v (by simpa using q))) Hh hn (fun Hh=>?_);refine tA 8 Hh ?_
  refine tsg ((sto 9 (w.1.size+2) 23 ([.slice A l.length C]) HD.b2 (Pm rfl)).go _) Hh hn (fun Hh=>?_);refine tA 10 Hh ?_;refine tsg (((sto 11 (w.1.size+2) 24 ([.int .i64 u]) HD.b2 (Pm rfl)).go _).go _) Hh hn (fun Hh=>?_);change wpAnyH _ _ _ _ _ _ _ _ (List.foldl Sto.go i.drew ([⟨7,w.1.size+2,2,dC d⟩,⟨9,w.1.size+2,23,[.slice A l.length C]⟩,⟨11,w.1.size+2,24,[.int .i64 u]⟩]:List Sto));rw [show List.foldl Sto.go i.drew ([⟨7,w.1.size+2,2,dC d⟩,⟨9,w.1.size+2,23,[.slice A l.length C]⟩,⟨11,w.1.size+2,24,[.int .i64 u]⟩]:List Sto)=i.drew.setRow (w.1.size+2) (enC ⟨0,b,d,l,u,0,0,false,⟨#[]⟩,⟨#[]⟩,0,0,[]⟩ ⟨A,C,none,0⟩).toArray from (Hs _ HD.o.b2 Am).trans rfl];have HR:=Hd (HD.row (enC ⟨0,b,d,l,u,0,0,false,⟨#[]⟩,⟨#[]⟩,0,0,[]⟩ ⟨A,C,none,0⟩).toArray);exact zYY
 .have HD:=Hd HU.drew;obtain ⟨rfl,rfl⟩:=HE.o;refine Rw (S:=fun W=>Blk W w.1.size 144 _) Ak HD.b0 (fun Hh=>?_);refine tA 0 Hh ?_;refine tC 1 (fun _ h=>(Blk.cell h 25).trans rfl) Hh ?_;refine tA 2 Hh ?_;refine tC 3 (fun _ h=>(Blk.cell h 26).trans rfl) Hh ?_;refine tA 4 Hh ?_;refine tC 5 (fun _ h=>(Blk.cell h 27).trans rfl) Hh ?_;refine tA 6 Hh ?_;refine tC 7 (fun _ h=>(Blk.cell h 28).trans rfl) Hh ?_;refine tA 8 Hh ?_;refine tsg (sto 9 (w.1.size+2) 25 ([.int .i64 n]) HD.b2 (Pm rfl)) Hh hn (fun Hh=>?_);refine tA 10 Hh ?_;refine tsg ((sto 11 (w.1.size+2) 26 ([.int .i64 o]) HD.b2 (Pm rfl)).go _) Hh hn (fun Hh=>?_);refine tA 12 Hh ?_;refine tsg (((sto 13 (w.1.size+2) 27 ([.bool m]) HD.b2 (Pm rfl)).go _).go _) Hh hn (fun Hh=>?_);refine tA 14 Hh ?_
  refine tsg ((((sto 15 (w.1.size+2) 28 ([.string k]) HD.b2 (Pm rfl)).go _).go _).go _) Hh hn (fun Hh=>?_);change wpAnyH _ _ _ _ _ _ _ _ (List.foldl Sto.go i.drew ([⟨9,w.1.size+2,25,[.int .i64 n]⟩,⟨11,w.1.size+2,26,[.int .i64 o]⟩,⟨13,w.1.size+2,27,[.bool m]⟩,⟨15,w.1.size+2,28,[.string k]⟩]:List Sto));rw [show List.foldl Sto.go i.drew ([⟨9,w.1.size+2,25,[.int .i64 n]⟩,⟨11,w.1.size+2,26,[.int .i64 o]⟩,⟨13,w.1.size+2,27,[.bool m]⟩,⟨15,w.1.size+2,28,[.string k]⟩]:List Sto)=i.drew.setRow (w.1.size+2) (enC ⟨1,b,dZ,[],0,n,o,m,k,⟨#[]⟩,0,0,[]⟩ enN).toArray from (Hs _ HD.o.b2 Am).trans rfl];have HR:=Hd (HD.row (enC ⟨1,b,dZ,[],0,n,o,m,k,⟨#[]⟩,0,0,[]⟩ enN).toArray);exact zYY
 .exact HR.ret results292 rfl rfl
 .exact HR.ret results292 rfl rfl
 .have HD:=Hd HU.drew;obtain ⟨rfl,rfl⟩:=HE.o;refine Rw (S:=fun W=>Blk W w.1.size 144 _) Ak HD.b0 (fun Hh=>?_);refine tA 0 Hh ?_;refine tC 1 (fun _ h=>(Blk.cell h 31).trans rfl) Hh ?_;refine tA 2 Hh ?_;refine tC 3 (fun _ h=>(Blk.cell h 28).trans rfl) Hh ?_;refine tA 4 Hh ?_;refine tC 5 (fun _ h=>(Blk.cell h 32).trans rfl) Hh ?_;refine tA 6 Hh ?_;refine tsg (sto 7 (w.1.size+2) 31 ([.int .i64 p]) HD.b2 (Pm rfl)) Hh hn (fun Hh=>?_);refine tA 8 Hh ?_;refine tsg ((sto 9 (w.1.size+2) 28 ([.string k]) HD.b2 (Pm rfl)).go _) Hh hn (fun Hh=>?_);refine tA 10 Hh ?_;refine tsg (((sto 11 (w.1.size+2) 32 ([.slice A g.length C]) HD.b2 (Pm rfl)).go _).go _) Hh hn (fun Hh=>?_)
  change wpAnyH _ _ _ _ _ _ _ _ (List.foldl Sto.go i.drew ([⟨7,w.1.size+2,31,[.int .i64 p]⟩,⟨9,w.1.size+2,28,[.string k]⟩,⟨11,w.1.size+2,32,[.slice A g.length C]⟩]:List Sto));rw [show List.foldl Sto.go i.drew ([⟨7,w.1.size+2,31,[.int .i64 p]⟩,⟨9,w.1.size+2,28,[.string k]⟩,⟨11,w.1.size+2,32,[.slice A g.length C]⟩]:List Sto)=i.drew.setRow (w.1.size+2) (enC ⟨4,b,dZ,[],0,0,0,false,k,⟨#[]⟩,0,p,g⟩ ⟨none,0,A,C⟩).toArray from (Hs _ HD.o.b2 Am).trans rfl];have HR:=Hd (HD.row (enC ⟨4,b,dZ,[],0,0,0,false,k,⟨#[]⟩,0,p,g⟩ ⟨none,0,A,C⟩).toArray);exact zYY
end
def F1 (k:Int):Int:=if k=0 then 68 else if k=1 then 71 else if k=2 then 65 else if k=3 then 67 else 80
def He (j:Nat):Bz:=⟨(Lib.repeatL [32] j).toArray⟩
def ze (j:Nat):(He j).size=j:=by
 have h:=JL [32] j;show (Lib.repeatL [32] j).toArray.size=j;rw [YZ,h];simp
def Rl:∀ j:Nat,Lib.repeatL [32] (j+1)=Lib.repeatL [32] j++[32]
 |0=>rfl
 |j+1=>by
  show [32]++Lib.repeatL [32] (j+1)=[32]++Lib.repeatL [32] j++[32];rw [Rl j,ZO]
def zc (q:Bz) (j:Nat):q++He j ++ ⟨#[32]⟩=q++He (j+1):=by
 rw [ZU];congr 1;unfold He;rw [Rl];apply KZ;simp [KO]
def szV (v:Value):Nat:=match v with
 |.string t=>t.size
 |_=>0
def yd {k:Int} (r:0<=k) (u:k<=4) (a:Bz) (w:Wd):Calls prog 228 #[.int .i64 k,.string a] w (StG (Jb (F1 k) a) w):=by
 have h:k=0\/k=1\/k=2\/k=3\/k=4:=Oo
 clear r u;by_cases hz:31<a.size
 .have d1:decide ((31:Int)<(a.size:Int))=true:=QQ Oo;have e:=Hd (show Jb (F1 k) a=⟨#[]⟩ from QK hz);clear hz;rw [e.o];rcases h with rfl|rfl|rfl|rfl|rfl
  all_goals
   go_wp2;go_ret;exact ⟨rfl,Bf _ _⟩
 .have d1:decide ((31:Int)<(a.size:Int))=false:=QW Oo;obtain ⟨q,c⟩:=yG (strOfNums [F1 k]++a);have d:q.size=1+a.size:=by rw [<-c,QY,WD];rfl
  have e:=Hd (show Jb (F1 k) a=q++He (31-a.size) by rw [<-c];exact QX hz);rw [e.o];have t:=Hd d;have m:(strOfNums [F1 k]).size+a.size<=9223372036854775807:=by rw [WD];simp;omega
  have hn:a.size<=31:=Oo
  clear hz d e;rcases h with rfl|rfl|rfl|rfl|rfl
  all_goals
   go_wp2;go_loopw [5] (fun s wr=>∃ j:Nat,j<=31-a.size/\s=.string (q++He j)/\Below w.1.size w wr) (fun s _=>32-szV s)
   .refine ⟨0,Z0 _,?_,Bf _ _⟩;rw [<-c];exact XK Value.string (UV (b:=_)).symm
   .obtain ⟨j,hj,rfl,aF⟩:=hrel;have hz:(q++He j).size=1+a.size+j:=by rw [QY,t.o,ze]
    have i:=Hd aF;by_cases p:j<31-a.size
    .have f:decide (((q++He j).size:Int)<32)=true:=QQ Oo;have o:(q++He j).size+(⟨#[32]⟩:Bz).size<=9223372036854775807:=by rw [hz];show _+1<=_;omega
     have l:=Hd (zc q j);have g:=Hd hz;clear hz m d1 c;generalize q++He j=s at f o l g ⊢;go_wp2;go_roundw
     .exact ⟨j+1,p,by rw [l.o],i.o⟩
     .have h3:=g.o;show 32-(s ++ ⟨#[32]⟩:Bz).size<32-s.size;rw [QY,h3];show 32-(_+1)<_;omega
    .obtain rfl:j=31-a.size:=Oo
     have f:decide (((q++He (31-a.size)).size:Int)<32)=false:=QW Oo;clear hz m d1 c;obtain ⟨s,n⟩:=yH (q++He (31-a.size));rw [n.o] at f ⊢;go_wp2;go_ret;exact ⟨by rw [n.o];rfl,i.o⟩
end Go.Proofs.YtdleakjejodjjaaGreatDoor
