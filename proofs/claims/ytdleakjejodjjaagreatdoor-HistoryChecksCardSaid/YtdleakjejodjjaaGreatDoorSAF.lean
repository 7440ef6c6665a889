/- Of the history laws. -/
import Derived.Test.YtdleakjejodjjaaGreatDoorSAD
import Derived.Deep.CutBlock
import Derived.Deep.DeepCutAuto
import Derived.BigQuiet
import Derived.Sort.Defs
namespace Go.Proofs.YtdleakjejodjjaaGreatDoor
open Tryz
set_option linter.defProp false
set_option linter.unusedVariables false
set_option linter.unusedSimpArgs false
set_option maxRecDepth 100000
set_option maxHeartbeats 20000000
section
open Go.RowKit
def V7 (n a b:Int) (w:Wd):Calls prog 157 #[.int .i64 n,.int .i64 a,.int .i64 b] w (Ae w (.bool (Uo n a b))):=by
 obtain ⟨R,c⟩:=yH (Uo n a b);rw [c.o];by_cases d:a<=n
 .go_wp2;go_ret;exact ⟨by rw [<-c.o];simp [Uo,d],rfl⟩
 .go_wp2;go_ret;exact ⟨by rw [<-c.o];simp [Uo];omega,rfl⟩
def uR {l:List Int} {j:Nat} {n:Int} (h:l[j]? =some n) (hn:n≠0):L4 l=false:=by
 unfold L4;rw [ZM];exact ⟨n,QJ h,by simpa using hn⟩
def zj {l:List Int} (h:∀ (j:Nat) (n:Int),l[j]? =some n->n=0):L4 l=true:=by
 unfold L4;rw [WE];intro n hn;obtain ⟨j,a,rfl⟩:=XG hn;simpa using h j _ (QV a)
def N4 (l:List Int) (g c:Nat) (w:Wd) (r:∀ (j:Nat) (n:Int),l[j]? =some n->w.cell? ⟨g,j,none⟩=some (.int .i64 n)) (u:l.length<=1000):
  Calls prog 189 #[.slice (Ah g 0) l.length c] w (Ae w (.bool (L4 l))):=by
 obtain ⟨R,f⟩:=yG (L4 l);rw [f];have p:=Hd f;have s:=Hd r;obtain ⟨m,d⟩:=yG l.length;rw [d] at u ⊢;have k:=Hd d;clear f r d;go_wp2;go_loop [7] (fun i=>∃ j:Nat,j<=m/\i=.int .i64 j/\∀ t n,t<j->l[t]? =some n->n=0) (fun i=>m-(intOf i).toNat)
 .exact ⟨0,Z0 _,rfl,fun t n h _=>absurd h Oo⟩
 .obtain ⟨j,hj,rfl,hall⟩:=hrel;have o:=Hd hall;clear hall;by_cases v:j<m
  .obtain ⟨n,hn⟩:∃ n,l[j]? =some n:=⟨_,QV (by have:=k.o;omega)⟩
   have z:=s j n hn;have q:=Hd hn;clear hn;by_cases a:n=0
   .subst a;go_wp2
    go_round
    .refine ⟨j+1,Oo,Au,fun t x y b=>?_⟩;by_cases e:t=j
     .subst e;rw [q.o] at b;cases b;rfl
     .exact o t x Oo b
    .exact At
   .have e0:(n == 0)=false:=by simpa using a
    have A:(n != 0)=true:=by simpa using a
    go_wp2;go_ret;exact ⟨by rw [<-p.o,uR q.o a];rfl,rfl⟩
  .go_wp2;go_ret;exact ⟨by rw [<-p.o,zj fun t n hn=>o.o t n (by have:=(QZ.1 hn).1;have:=k.o;omega) hn];rfl,rfl⟩
def Ta (a b:Int) (g:Nat) (w:Wd) (h:Blk w g 3 #[.int .i64 a,.int .i64 b]):Calls prog 189 #[.slice (Ah g 0) 2 2] w (Ae w (.bool (L4 [a,b]))):=by
 refine N4 [a,b] g 2 w (fun j n c=>?_) Am;rw [h.cell]
 match j,c with
 |0,c=>cases c;rfl
 |1,c=>cases c;rfl
def T9 (a b c d e:Int) (g:Nat) (w:Wd) (h:Blk w g 3 #[.int .i64 a,.int .i64 b,.int .i64 c,.int .i64 d,.int .i64 e]):Calls prog 189 #[.slice (Ah g 0) 5 5] w (Ae w (.bool (L4 [a,b,c,d,e]))):=by
 refine N4 [a,b,c,d,e] g 5 w (fun j n f=>?_) Am;rw [h.cell]
 match j,f with
 |0,f=>cases f;rfl
 |1,f=>cases f;rfl
 |2,f=>cases f;rfl
 |3,f=>cases f;rfl
 |4,f=>cases f;rfl
def Kr {n:Int} (h:Xf n=true):n=128\/n=256\/n=512:=by
 simp [Xf] at h;rcases h with (h|h)|h
 .exact .inl h
 .exact .inr (.inl h)
 .exact .inr (.inr h)
def ti {G:Prop} (h:G:=by
  go_wp2_with fail;refine Lu 4 ?_;rw [Rs];go_wp2;rw [Rs];go_wp2;rw [Rs];go_wp2;rw [Rs];go_wp2
  go_meet
  first
   |case rel=>exact ⟨rfl,rfl⟩
   |case rel=>exact ⟨by rw [ES.o],rfl⟩):G:=h
def lQ {G:Prop} (h:G:=by
  go_wp2_with (first|(go_at_call 157;refine yE (V7 _ _ _ _) ?_)|(go_at_call 189;refine yE (Ta _ _ _ _ (U3 _ 3 _ _ Am)) ?_))
  go_meet
  .exact ⟨by simp [EF,HZ.o,ho,EM.o,hl],HK.o.alloc _,HB.o.alloc As _⟩):G:=h
def lP {G:Prop} (h:G:=by
  go_wp2_with (go_at_call 157;refine yE (V7 _ _ _ _) ?_)
  go_meet
  .exact ⟨by simp [EF,EM.o,hl],HK.o,HB.o⟩):G:=h
def FI (d:DSet) (w:Wd):Calls prog 147 #[.agg (dC d).toArray] w (Ab w (.bool (Yd d))):=by
 obtain ⟨id,org,fmt,len,blk,kat,kln,itv,area,fi,fa,base,aat,aln,a,f,c,e,g,exp,b⟩:=d;obtain ⟨R,k⟩:=yH (Yd ⟨id,org,fmt,len,blk,kat,kln,itv,area,fi,fa,base,aat,aln,a,f,c,e,g,exp,b⟩);rw [k.o];unfold dC;dsimp only;have W:∀ w,(Instr.index 246 (.agg #[.int .i64 128,.int .i64 256,.int .i64 512]) (.int .i64 0)).run prog w=.ok (.int .i64 128) w:=fun _=>Ak
 have i1:∀ w,(Instr.index 246 (.agg #[.int .i64 128,.int .i64 256,.int .i64 512]) (.int .i64 1)).run prog w=.ok (.int .i64 256) w:=fun _=>Ak
 have i2:∀ w,(Instr.index 246 (.agg #[.int .i64 128,.int .i64 256,.int .i64 512]) (.int .i64 2)).run prog w=.ok (.int .i64 512) w:=fun _=>Ak
 have HB:Aw (Below w.1.size w ((Aa w #[.int .i64 id,.int .i64 org,.int .i64 fmt,.int .i64 len,.int .i64 blk,.int .i64 kat,.int .i64 kln,.int .i64 itv,.int .i64 area,.int .i64 fi,.int .i64 fa,.int .i64 base,.int .i64 aat,.int .i64 aln,.bool a,.int .i64 f,.string c,.string e,.int .i64 g,.int .i64 exp,.bool b] 34).alloc (.cells #[.int .i64 128,.int .i64 256,.int .i64 512] 246))):=Hd (((Bf w.1.size w).alloc (Le _) _).alloc Am _);go_in
 go_upto_block 0 with fail
 go_cut [4] (fun v o=>v=.bool (Xf itv)/\o=(Aa w #[.int .i64 id,.int .i64 org,.int .i64 fmt,.int .i64 len,.int .i64 blk,.int .i64 kat,.int .i64 kln,.int .i64 itv,.int .i64 area,.int .i64 fi,.int .i64 fa,.int .i64 base,.int .i64 aat,.int .i64 aln,.bool a,.int .i64 f,.string c,.string e,.int .i64 g,.int .i64 exp,.bool b] 34).alloc (.cells #[.int .i64 128,.int .i64 256,.int .i64 512] 246))
 case first=>
  by_cases q:itv=128
  .subst q;exact ti
  by_cases p:itv=256
  .subst p;exact ti
  by_cases i:itv=512
  .subst i;exact ti
  have e1:(itv == 128)=false:=by simpa using q
  have e2:(itv == 256)=false:=by simpa using p
  have e3:(itv == 512)=false:=by simpa using i
  have H:Xf itv=false:=by simp [Xf,q,p,i]
  have ES:=Hd H;clear q p i H;exact ti
 case rest=>
  obtain ⟨rfl,rfl⟩:=hcut;clear W i1 i2;have HK:Aw (Blk ((Aa w #[.int .i64 id,.int .i64 org,.int .i64 fmt,.int .i64 len,.int .i64 blk,.int .i64 kat,.int .i64 kln,.int .i64 itv,.int .i64 area,.int .i64 fi,.int .i64 fa,.int .i64 base,.int .i64 aat,.int .i64 aln,.bool a,.int .i64 f,.string c,.string e,.int .i64 g,.int .i64 exp,.bool b] 34).alloc (.cells #[.int .i64 128,.int .i64 256,.int .i64 512] 246)) w.1.size 34 #[.int .i64 id,.int .i64 org,.int .i64 fmt,.int .i64 len,.int .i64 blk,.int .i64 kat,.int .i64 kln,.int .i64 itv,.int .i64 area,.int .i64 fi,.int .i64 fa,.int .i64 base,.int .i64 aat,.int .i64 aln,.bool a,.int .i64 f,.string c,.string e,.int .i64 g,.int .i64 exp,.bool b]):=Hd ((Blk.new w _ _).alloc _);generalize hz:Xf itv=z;have HZ:=Hd hz;clear hz
  go_upto_region 8 with (fail)
  go_cut [46] (fun v o=>v=.bool (!EF itv org len fmt blk)/\Blk o w.1.size 34 #[.int .i64 id,.int .i64 org,.int .i64 fmt,.int .i64 len,.int .i64 blk,.int .i64 kat,.int .i64 kln,.int .i64 itv,.int .i64 area,.int .i64 fi,.int .i64 fa,.int .i64 base,.int .i64 aat,.int .i64 aln,.bool a,.int .i64 f,.string c,.string e,.int .i64 g,.int .i64 exp,.bool b]/\Below w.1.size w o)
  case first=>
   cases z with
   |false=>
    go_wp2
    go_meet
    .exact ⟨by simp [EF,HZ.o],HK,HB⟩
   |true=>
    have m:128<=itv/\itv<=512:=by rcases Kr HZ with h|h|h<;>omega
    obtain ⟨m,b2⟩:=m;cases ho:Uo org 1 3 with
    |false=>
     go_wp2_with (go_at_call 157;refine yE (V7 _ _ _ _) ?_)
     go_meet
     .exact ⟨by simp [EF,ho],HK,HB⟩
    |true=>
     by_cases X:itv-7<200
     .have em:min 200 (itv-7)=itv-7:=Oo
      have EM:=Hd em;clear em;have u:=QQ X;cases hl:Uo len 1 (itv-7) with
      |false=>
       exact lP
      |true=>
       exact lQ
     .have em:min 200 (itv-7)=200:=Oo
      have EM:=Hd em;clear em;have u:decide (itv-7<200)=false:=As
      cases hl:Uo len 1 (200) with
      |false=>
       exact lP
      |true=>
       exact lQ
  case rest=>
   obtain ⟨rfl,E,B⟩:=hcut;have l:=Hd E;have j:=Hd B;clear E B HK HB;generalize n:EF itv org len fmt blk=z2;have r:=Hd n;clear n;have c1:=l.cell 1;have c3:=l.cell 3;have c5:=l.cell 5;have Z:=l.cell 6;have c7:=l.cell 7;have U:=l.cell 8;have Q:=l.cell 9;have s:=l.cell 10;simp at c1 c3 c5 Z c7 U Q s;cases z2 with
   |false=>
    go_wp2;go_ret;exact ⟨by rw [<-k.o];simp [Yd,r.o],j⟩
   |true=>
    have J:=r.o;simp only [EF,QU] at J;obtain ⟨⟨⟨F,N⟩,C⟩,Y⟩:=J;have m:128<=itv/\itv<=512:=by rcases Kr F with h|h|h<;>omega
    obtain ⟨m,b2⟩:=m;have P:=winB_true.1 C;have M:1<=len/\len<=200:=Oo
    obtain ⟨M,b5⟩:=M;clear F N C Y P;by_cases i:org=3
    .have HH3:=Hd i;have A:(org != 3)=false:=by simpa using i
     clear i;cases K:decide (len<=itv / 2-8) with
     |false=>
      go_wp2_with (go_at_call 157;refine yE (V7 _ _ _ _) ?_);go_ret;exact ⟨by rw [<-k.o];simp [Yd,HH3.o,K],j⟩
     |true=>
     cases t:Uo kat 0 len with
     |false=>
      go_wp2_with (go_at_call 157;refine yE (V7 _ _ _ _) ?_);go_ret;exact ⟨by rw [<-k.o];simp [Yd,HH3.o,t],j⟩
     |true=>
     have q2:=winB_true.1 t;obtain ⟨q2a,T⟩:=q2;cases x:Uo kln 1 (itv / 16) with
     |false=>
      go_wp2_with (go_at_call 157;refine yE (V7 _ _ _ _) ?_);go_ret;exact ⟨by rw [<-k.o];simp [Yd,HH3.o,x],j⟩
     |true=>
     have S:=winB_true.1 x;obtain ⟨q3a,V⟩:=S;cases I:decide (kat+kln<=len) with
     |false=>
      go_wp2_with (go_at_call 157;apply yE (V7 _ _ _ _));go_ret;exact ⟨by rw [<-k.o];simp [Yd,HH3.o,I],j⟩
     |true=>
     cases y:Uo area 2 8 with
     |false=>
      go_wp2_with (go_at_call 157;apply yE (V7 _ _ _ _));go_ret;exact ⟨by rw [<-k.o];simp [Yd,HH3.o,y],j⟩
     |true=>
     have q5:=winB_true.1 y;obtain ⟨O,q5b⟩:=q5;cases L:Uo fi 0 90 with
     |false=>
      go_wp2_with (go_at_call 157;apply yE (V7 _ _ _ _));go_ret;exact ⟨by rw [<-k.o];simp [Yd,HH3.o,L],j⟩
     |true=>
     cases D:Uo fa 0 (area-1) with
     |false=>
      go_wp2_with (go_at_call 157;apply yE (V7 _ _ _ _));go_ret;exact ⟨by rw [<-k.o];simp [Yd,HH3.o,D],j⟩
     |true=>
     go_wp2_with (go_at_call 157;apply yE (V7 _ _ _ _));go_ret;have n:=r.o;rw [HH3.o] at n;exact ⟨by rw [<-k.o];simp only [Yd,HH3.o,n,K,t,x,I,y,L,D];rfl,j⟩
    .have HH3:=Hd i;have A:(org != 3)=true:=by simpa using i
     clear i;go_wp2_with (go_at_call 189;apply yE (T9 _ _ _ _ _ _ _ (U3 _ 3 _ _ Am)));go_ret;exact ⟨by rw [<-k.o];simp [Yd,r.o,HH3.o],j.alloc j.size _⟩
end
section
open Go.RowKit
variable {P:Program} {md:Region.Mode} {ops:Array Oper} {Q:Exit->Act->Wd->Prop} {S:Wd->Prop} {w:Wd} {ty:TypeId} {g:Nat} {oi:Oper} {fuel:Nat} {listed:Array Bool} {a:Act} {x:Operand}
def ts {c:Array Value} (i:Nat) (b:Array Value) {y:Operand}
  (d:w.1[g]? =some (.cells c ty (0,0))) (e:b.all (·.oneCell')=true) (n:S (w.setRow g b))
  (h:wpAnyH P md ops Q S fuel (listed.setIfInBounds i true) (a.put oi.dst undef) (w.setRow g b))
  (l:ops[i]? =some oi:=by simp only [Ga,Gz,Gn];rfl)
  (j:oi.op=.store ty x y:=by rfl) (k:Region.ready md ops listed=[i]:=by kernel_rfl) (m:a.eval x=Ag g 0:=by rfl) (hy:a.eval y=.agg b:=by rfl)
  (hn:(P.info? ty).map (·.size)=some b.size:=by kernel_rfl) (hold:c.size=b.size:=by rfl) (hw:Region.wanted oi (yielded ops a.tmps)=true:=by rfl):wpAnyH P md ops Q S (fuel+1) listed a w:=by
 refine Ar k Am (XX l (fun K f=>?_) An);rw [QK hw];exact KH ty x y j g b m hy ty c d hn hold e (f.out _ _ n fun _=>h)
def tl {cs:Array Value} {d:TypeDesc} (i:Nat)
  (l:w.1[g]? =some (.cells cs ty (0,0))) (e:S w) (k:P.underlying ty=some d)
  (h:wpAnyH P md ops Q S fuel (listed.setIfInBounds i true) (a.put oi.dst (.agg cs)) w)
  (m:ops[i]? =some oi:=by simp only [Ga,Gz,Gn];rfl)
  (c:oi.op=.load ty x:=by rfl) (f:Region.ready md ops listed=[i]:=by kernel_rfl) (n:a.eval x=Ag g 0:=by rfl)
  (b:(match d with | .struct _ | .array _ _=>true|_=>false)=true:=by rfl) (hn:(P.info? ty).map (·.size)=some cs.size:=by kernel_rfl) (hw:Region.wanted oi (yielded ops a.tmps)=true:=by rfl):wpAnyH P md ops Q S (fuel+1) listed a w:=by
 refine Ar f Am (XX m (fun K j=>?_) An);rw [QK hw];exact wp_load_row ty x c g n ty cs (0,0) d l k b hn (j.out _ _ e fun _=>h)
def Ap {rest:List Oper} {o:Oper} {s:Operand} {t e:TypeId} {z:Value} {size b n base:Nat} {v:Value} {xs news:List Value}
  (D:(P.info? e).map (fun i=>(i.zero,i.size,i.bytes))=some (some z,size,b)) (q:P.underlying t=some (.slice e)) (m:w.ownsRow base e size v n xs) (f:Blk w g e news.toArray) (B:∀ u∈news,u.oneCell'=true) (hn:n<=100000) (L:base<=w.1.size)
  (h:∀ c w',w'.ownsRow base e size c (n+1) (xs++news)->w.grownBy w' v.ownBlock->wpList P ops Q rest (a.put o.dst c) w')
  (F:news.length=1*size:=by rfl) (J:z.cells.size=size:=by rfl) (A:0<size:=by decide) (y:b<=1000:=by decide) (d:o.guard=none:=by rfl)
  (E:o.op=.call { callee:=.builtin .append,args:=#[s,x],argTypes:=#[t,t] }:=by rfl) (I:a.eval s=v:=by rfl) (K:a.eval x=.slice (Ah g 0) 1 1:=by rfl):wpList P ops Q (o::rest) a w:=by
 obtain ⟨C,r,M,p,k⟩:=WG D;refine Ui w d s x t E base e C z size b q r M p k J A v n xs I m w.1.size (Ah g 0) 1 1 news K ⟨F,fun _=>⟨g,0,rfl,f.lt,fun j u G=>?_⟩⟩ B (by unfold maxLen;omega) ?_ L fun c w' l H _=>h c w' l H
 .rw [QB,f.cell];simpa using G
 .have:(n+1)*b<=100001*1000:=JW Oo y;omega
end
section
open Go.RowKit
inductive Wi (R:Wd->Wd->Prop) where
 |ex (v:Value)
 |an (p:Value->Wd->Prop) (m:∀ x w w',R w w'->p x w->p x w')
def Wi.ok {R:Wd->Wd->Prop}:Wi R->Value->Wd->Prop
 |.ex v,x,_=>x=v
 |.an p _,x,w=>p x w
def wzD (o:Oper):List Nat:=(o.after.toList.filter fun e=>Region.binds .any e).map (·.on)
def StV (P:Program) (o:Oper) (a:Act) (w:Wd) (K:Value->Wd->Prop):Prop:=
 ∀ (b:Act->Wd->Prop) (Q:Exit->Act->Wd->Prop),Shut (∀ x w',K x w'->b (a.put o.dst x) w')->Oper.wp P o a w b Q
def yD {a b:Act} {d:Option Tmp} {x u:Value} (f:a.tmps.size=b.tmps.size) (h:b.put d u=b.put d x):a.put d u=a.put d x:=by
 cases d with
 |none=>rfl
 |some d=>
  have e:(b.put (some d) u).tmps[d]? =(b.put (some d) x).tmps[d]?:=by rw [h]
  simp only [Act.put,Array.getElem?_setIfInBounds_self] at e;by_cases c:d<b.tmps.size
  .rw [QK c,QK c] at e;rw [WQ e]
  .have:a.tmps.size<=d:=by rw [f];exact Nat.le_of_not_lt c
   simp [Act.put,Array.setIfInBounds_eq_of_size_le this]
def StV.congr {P:Program} {o:Oper} {a b:Act} {w:Wd} {K:Value->Wd->Prop} (he:execOp a.eval o=execOp b.eval o) (s:a.tmps.size=b.tmps.size) (h:StV P o b w K):StV P o a w K:=by
 intro t Q q;have g:=h (fun p w'=>∃ x,K x w'/\p=b.put o.dst x) (fun _ _ _=>False) fun x w' k=>⟨x,k,rfl⟩
 unfold Oper.wp at g ⊢;rw [he]
 have i:∀ u w',(∃ x,K x w'/\b.put o.dst u=b.put o.dst x)->t (a.put o.dst u) w':=fun u w' ⟨x,k,e⟩=>by
  rw [yD s e];exact q.out _ _ k
 generalize (execOp b.eval o).run P w=r at g;cases r with
 |ok n w'=>
  cases n<;>simp only [Oper.upon] at g ⊢
  case value u=>exact i _ _ g
  case skip=>exact i _ _ g
  case defer d=>
   obtain ⟨x,_,e⟩:=g;have m:=XK (fun b:Act=>b.defers.length) e;cases l:o.dst<;>simp [Act.put,l] at m
  case enter f args=>
   refine Calls.mono g fun e j he=>?_
   cases e with
   |returned u=>exact i _ _ he
   |panicked c=>exact he.elim
   |outgrown=>obtain ⟨_,_,h⟩:=he;exact h.elim
  case row row args=>exact Rows.mono g fun u j he=>i _ _ he
 |halt x w'=>cases x<;>simp only [Oper.upon] at g ⊢
section
variable {P:Program} {ops:Array Oper} {Q:Exit->Act->Wd->Prop} {Z:Act->Wd->Prop} {S:Wd->Prop} {R:Wd->Wd->Prop}
def WzS (P:Program) (ops:Array Oper) (S:Wd->Prop) (R:Wd->Wd->Prop) (o:Oper) (v:Wi R) (F:List (Nat×(Wd->Prop))) (a:Act):Prop:=
 ∀ w,S w->(∀ q∈F,q.1∈wzD o->q.2 w)->if Region.wanted o (yielded ops a.tmps)=true then StV P o a w fun x w'=>R w w'/\v.ok x w' else v.ok undef w
def WzL (P:Program) (ops:Array Oper) (Z:Act->Wd->Prop) (S:Wd->Prop) (R:Wd->Wd->Prop):Nat->List Oper->List (Wi R)->List (Nat×(Wd->Prop))->Act->Prop
 |_,[],[],F,a=>∀ w,S w->(∀ q∈F,q.2 w)->Z a w
 |i,o::os,.ex v::I,F,a=>WzS P ops S R o (.ex v) F a/\WzL P ops Z S R (i+1) os I F (a.put o.dst v)
 |i,o::os,.an p m::I,F,a=>WzS P ops S R o (.an p m) F a/\∀ x,WzL P ops Z S R (i+1) os I ((i,p x)::F) (a.put o.dst x)
 |_,_,_,_,_=>False
def WzT (P:Program) (ops:Array Oper) (Z:Act->Wd->Prop) (S:Wd->Prop) (R:Wd->Wd->Prop):List (Nat×Oper×Wi R)->List (Nat×(Wd->Prop))->Act->Prop
 | [],F,a=>∀ w,S w->(∀ q∈F,q.2 w)->Z a w
 |(_,o,.ex v)::T,F,a=>WzS P ops S R o (.ex v) F a/\WzT P ops Z S R T F (a.put o.dst v)
 |(i,o,.an p m)::T,F,a=>WzS P ops S R o (.an p m) F a/\∀ x,WzT P ops Z S R T ((i,p x)::F) (a.put o.dst x)
def wzZ {R:Wd->Wd->Prop}:Nat->List Oper->List (Wi R)->List (Nat×Oper×Wi R)
 |i,o::os,v::I=>(i,o,v)::wzZ (i+1) os I
 |_,_,_=>[]
def WzT.of:∀ (b:List Oper) (I:List (Wi R)) (i:Nat) (F:List (Nat×(Wd->Prop))) (a:Act),WzL P ops Z S R i b I F a->b.length=I.length/\WzT P ops Z S R (wzZ i b I) F a
 | [],[],_,_,_,h=>⟨rfl,h⟩
 | [],_::_,_,_,_,h=>h.elim
 |_::_,[],_,_,_,h=>h.elim
 |o::b,.ex v::I,i,F,a,h=>⟨by simp [(WzT.of b I _ _ _ h.2).1],h.1,(WzT.of b I _ _ _ h.2).2⟩
 |o::b,.an p m::I,i,F,a,h=>⟨by simp [(WzT.of b I _ _ _ (h.2 undef)).1],h.1,fun x=>(WzT.of b I _ _ _ (h.2 x)).2⟩
def WzS.more {o:Oper} {v:Wi R} {F b:List (Nat×(Wd->Prop))} {a:Act} (h:WzS P ops S R o v F a) (g:∀ q∈F,q.1∈wzD o->q∈b):WzS P ops S R o v b a:=
 fun w e d=>h w e fun q f c=>d q (g q f c) c
def WzT.more:∀ {T:List (Nat×Oper×Wi R)} {F c:List (Nat×(Wd->Prop))} {a:Act},WzT P ops Z S R T F a->(∀ q∈F,q∈c)->WzT P ops Z S R T c a
 | [],_,_,_,h,hF=>fun w e d=>h w e fun q b=>d q (hF q b)
 |(_,_,.ex _)::_,_,_,_,h,hF=>⟨h.1.more fun q b _=>hF q b,WzT.more h.2 hF⟩
 |(_,_,.an _ _)::_,_,_,_,h,hF=>⟨h.1.more fun q b _=>hF q b,fun x=>WzT.more (h.2 x) fun q b=>by
   rcases QH.1 b with rfl|b
   .exact QP
   .exact QN _ (hF q b)⟩
def WzS.put {o e:Oper} {v:Wi R} {F:List (Nat×(Wd->Prop))} {a:Act} {x:Value} (g:∀ cs b,o.op≠.select cs b) (f:∀ d,e.dst=some d->d ∉ o.looksAt ops):WzS P ops S R o v F (a.put e.dst x)<->WzS P ops S R o v F a:=by
 have he:=execOp_put (ops:=ops) o g a e.dst x f;have hw:=wanted_put (ops:=ops) o a e.dst x f;have hz:(a.put e.dst x).tmps.size=a.tmps.size:=by cases e.dst<;>simp [Act.put]
 constructor
 .intro h w hS hF;have c:=h w hS hF;rw [hw] at c;split
  .rename_i hc;rw [QK hc] at c;exact StV.congr he.symm hz.symm c
  .rename_i hc;rw [QX hc] at c;exact c
 .intro h w hS hF;have c:=h w hS hF;rw [hw];split
  .rename_i hc;rw [QK hc] at c;exact StV.congr he hz c
  .rename_i hc;rw [QX hc] at c;exact c
def WzT.pick {i:Nat} {o:Oper} {v:Wi R} {z:List (Nat×Oper×Wi R)} (f:∀ (j:Nat) (o:Oper) cs b,ops[j]? =some o->o.op≠.select cs b) (g:ops[i]? =some o):∀ (d:List (Nat×Oper×Wi R)) (F:List (Nat×(Wd->Prop))) (a:Act),WzT P ops Z S R (d++(i,o,v)::z) F a ->
  (∀ t∈d,ops[t.1]? =some t.2.1/\o.apart ops t.2.1=true/\t.1 ∉ wzD o) ->
  WzS P ops S R o v F a/\∀ x,(∀ y,v=.ex y->x=y)->WzT P ops Z S R (d++z) ((i,fun w=>v.ok x w)::F) (a.put o.dst x)
 | [],F,a,h,_=>by
  cases v with
  |ex y=>exact ⟨h.1,fun x k=>by rw [k y rfl];exact WzT.more h.2 fun q c=>QN _ c⟩
  |an p m=>exact ⟨h.1,fun x _=>h.2 x⟩
 |(j,oj,vj)::d,F,a,h,hT=>by
  obtain ⟨u,l,r⟩:=hT _ QP;have e:=fun t B=>hT t (QN _ B)
  obtain ⟨c1,c2,c3⟩:=Oper.apart_spec l;have s:∀ q∈(i,fun w=>v.ok undef w)::F,q∈(i,fun w=>v.ok undef w)::F:=fun _ h=>h
  cases vj with
  |ex y=>
   obtain ⟨n,C⟩:=WzT.pick f g d F _ h.2 e;refine ⟨(WzS.put (f i o · · g) c3).1 n,fun x k=>⟨(WzS.put (f j oj · · u) c1).2 (h.1.more fun q c _=>QN _ c),?_⟩⟩;rw [Act.put_comm a x y c2];exact C x k
  |an p m=>
   have n:=(WzT.pick f g d _ _ (h.2 undef) e).1;refine ⟨(WzS.put (f i o · · g) c3).1 (n.more fun q c A=>?_),fun x k=>⟨(WzS.put (f j oj · · u) c1).2 (h.1.more fun q c _=>QN _ c),fun y=>?_⟩⟩
   .rcases QH.1 c with rfl|c
    .exact absurd A r
    .exact c
   .rw [Act.put_comm a x y c2];refine WzT.more ((WzT.pick f g d _ _ (h.2 y) e).2 x k) fun q c=>?_
    simp only [QH] at c ⊢;rcases c with h|h|h
    .exact .inr (.inl h)
    .exact .inl h
    .exact .inr (.inr h)
def wzB (ops:Array Oper):Bool:=(List.range ops.size).all fun i=>match ops[i]? with
 |some o=>(wzD o).all (fun k=>decide (k<i))&&(List.range i).all fun j=>(wzD o).contains j || match ops[j]? with
  |some a=>o.apart ops a
  |none=>true
 |none=>true
def Bm {i:Nat} {o:Oper} (h:wzB ops=true) (d:ops[i]? =some o):(∀ k∈wzD o,k<i)/\∀ j a,j<i->ops[j]? =some a->j ∉ wzD o->o.apart ops a=true:=by
 have g:=(WA.1 d).1;have c:=WE.1 h i (YO.2 g);simp only [d,QU,WE,QG,XU,JA,YO] at c;refine ⟨c.1,fun j a f b hn=>?_⟩;have e:=(c.2 j f).resolve_left hn;rw [b] at e;exact e
def tu {o:Oper} {e:Edge} (he:e∈o.after) (a:Region.binds .any e=true):e.on∈wzD o:=by
 unfold wzD;exact YY.2 ⟨e,UU.2 ⟨by simpa using he,a⟩,rfl⟩
def wzM (ops:Array Oper):Nat->List Nat->List Nat
 |0,L=>L
 |n+1,L=>wzM ops n (if L.contains n then (match ops[n]? with|some o=>wzD o|none=>[])++L else L)
def Bl {p:Nat->Prop} (h:∀ n o,ops[n]? =some o->p n->∀ d∈wzD o,p d):∀ (n:Nat) (L:List Nat),(∀ i∈L,p i)->∀ i∈wzM ops n L,p i
 |0,_,hL=>hL
 |n+1,L,hL=>by
  unfold wzM;refine Bl h n _ fun i a=>?_
  split at a
  .rename_i hc;rcases QC.1 a with a|a
   .cases ho:ops[n]? with
    |none=>rw [ho] at a;cases a
    |some o=>rw [ho] at a;exact h n o ho (hL n (JA.1 hc)) i a
   .exact hL i a
  .exact hL i a
def wzK (ops:Array Oper) (k:Nat):Bool:=(List.range ops.size).all fun j=>decide (j<k) || match ops[j]? with
 |some o=>(List.range k).all fun i=>(wzM ops k (wzD o)).contains i
 |none=>true
def tq {k:Nat} (h:wzK ops k=true) {j:Nat} {o:Oper} (b:ops[j]? =some o) (d:k<=j):∀ i,i<k->i∈wzM ops k (wzD o):=by
 have c:=(WA.1 b).1;have a:=WE.1 h j (YO.2 c);rw [b] at a;simp only [XU,QG,WE,YO,JA] at a;exact a.resolve_left Oo
def wz0 (k n:Nat):Array Bool:=(List.replicate k true++List.replicate (n-k) false).toArray
def Bn (k n i:Nat) (a:k<=n):(wz0 k n)[i]? =if i<k then some true else if i<n then some false else none:=by
 unfold wz0;rw [Ga,JY,List.length_replicate,VO,VO];split
 .rfl
 .split
  .rw [QK Oo]
  .rw [QX Oo]
def ou {k m:Nat} (W:k<=ops.size) (hs:∀ (j:Nat) (o:Oper) cs b,ops[j]? =some o->o.op≠.select cs b) (hB:wzB ops=true) (hK:wzK ops k=true) (hSR:∀ w w',S w->R w w'->S w') (hZ:∀ a w,Z a w->wpAny P .any ops Q m (wz0 k ops.size) a w):
  ∀ (f:Nat) (c:Array Bool) (T:List (Nat×Oper×Wi R)) (F:List (Nat×(Wd->Prop))) (a:Act) (w:Wd),WzT P ops Z S R T F a->S w->(∀ q∈F,q.2 w)->(∀ q∈F,∀ w w',R w w'->q.2 w->q.2 w') ->
   T.length=f->c.size=ops.size->(∀ i,i<k->(c.getD i true=false<->∃ t∈T,t.1=i))->(∀ i,k<=i->i<ops.size->c.getD i true=false)->(∀ t∈T,ops[t.1]? =some t.2.1/\t.1<k)->T.Pairwise (fun s t=>s.1<t.1)->(∀ n o,ops[n]? =some o->c.getD n true=true->∀ d∈wzD o,c.getD d true=true)->wpAny P .any ops Q (m+f) c a w:=by
 intro f;have J:∀ (c:Array Bool) (i:Nat),i<c.size->c.getD i true=c.getD i false:=fun c i h=>by simp [h]
 induction f with
 |zero=>
  intro c T F a w hT hS X hM hn aM B eN M hp hD;have hT0:=List.length_eq_zero_iff.1 hn;subst hT0
  have he:c=wz0 k ops.size:=by
   apply Array.ext_getElem?;intro i;rw [Bn k _ i W];by_cases C:i<c.size
   .rw [WI C];have hg:c.getD i true=c[i]:=by simp [C]
    by_cases z:i<k
    .rw [QK z];have u:=B i z;cases hc:c[i] with
     |true=>rfl
     |false=>
      rw [hg,hc] at u;obtain ⟨t,g,_⟩:=u.1 rfl;cases g
    .rw [QX z,QK Oo,<-hg,eN i Oo Oo]
   .rw [XH Oo,QX Oo,QX Oo]
  rw [he];exact hZ _ _ (hT w hS X)
 |succ f ih=>
  intro c T F a w hT hS X hM hn aM B eN M hp hD
  have D:∀ {o:Oper},(∀ e∈o.after,Region.binds .any e=true->c.getD e.on false=true)->∀ d∈wzD o,c.getD d true=true:=fun {o} l d I=>by
   obtain ⟨e,he,rfl⟩:=YY.1 I;obtain ⟨G,L⟩:=UU.1 he;have H:=l e (by simpa using G) L;by_cases O:e.on<c.size
   .rw [J c e.on O,H]
   .simp [O]
  have cD:∀ {i:Nat},i∈Region.ready .any ops c->i<k:=fun {i} C=>by
   obtain ⟨h0,o,r,l⟩:=mem_ready.1 C;refine Nat.lt_of_not_le fun hki=>?_
   cases T with
   |nil=>cases hn
   |cons t T=>
    have u:=M t QP;have H:=Bl hD k (wzD o) (D l) t.1 (tq hK r hki t.1 u.2);have N:=(B t.1 u.2).2 ⟨t,QP,rfl⟩;rw [N] at H;cases H
  refine ⟨fun hr=>?_,fun i C=>?_⟩
  .exfalso;cases T with
   |nil=>cases hn
   |cons t T=>
    have u:=M t QP
    have hm:=mem_ready.2 ⟨(B _ u.2).2 ⟨t,QP,rfl⟩,t.2.1,u.1,fun e he hb=>by
     have O:=(Bm hB u.1).1 _ (tu he hb);rw [<-J c e.on Oo];cases hc:c.getD e.on true with
     |true=>rfl
     |false=>
      obtain ⟨s,eO,dD⟩:=(B _ Oo).1 hc;rcases QH.1 eO with rfl|eO
      .omega
      .have:=(XJ.1 hp).1 s eO;omega⟩
    rw [hr] at hm;cases hm
  .have z:=cD C;obtain ⟨h0,o,r,l⟩:=mem_ready.1 C;obtain ⟨⟨E,o',v⟩,g,rfl⟩:=(B i z).1 h0;have e1:=(M _ g).1;simp only at e1 r l h0 C z;rw [r] at e1;have e2:=WQ e1;subst e2;obtain ⟨T1,T2,rfl⟩:=List.append_of_mem g;have O:∀ t∈T1,t.1<E:=fun t h=>(VJ.1 hp).2.2 t h _ QP
   have hgt:∀ t∈T2,E<t.1:=fun t h=>(XJ.1 (VJ.1 hp).2.1).1 t h
   have hT1:∀ t∈T1,ops[t.1]? =some t.2.1/\o.apart ops t.2.1=true/\t.1 ∉ wzD o:=fun t h=>by
    have K:=M t (YJ _ h)
    have hnd:t.1 ∉ wzD o:=fun I=>by
     obtain ⟨e,he,hon⟩:=YY.1 I;obtain ⟨G,L⟩:=UU.1 he;have H:=l e (by simpa using G) L;have N:=(B t.1 K.2).2 ⟨t,YJ _ h,rfl⟩;rw [hon,<-J c t.1 Oo,N] at H;cases H
    exact ⟨K.1,(Bm hB r).2 _ _ (O t h) K.1 hnd,hnd⟩
   obtain ⟨s1,s2⟩:=WzT.pick hs r T1 F a hT hT1;have u:=s1 w hS fun q A _=>X q A
   have go:∀ x w',S w'->(R w w'\/w'=w)->v.ok x w'->wpAny P .any ops Q (m+f) (c.setIfInBounds E true) (a.put o.dst x) w':=fun x w' hS' U hx=>by
    have hx2:∀ y,v=.ex y->x=y:=fun y hy=>by subst hy;exact hx
    refine ih _ (T1++T2) _ _ w' (s2 x hx2) hS' (fun q A=>?_) (fun q A=>?_) ?_ (by simpa using aM) (fun j hj=>?_) (fun j hj1 hj2=>?_) (fun t h=>?_) ?_ ?_
    .rcases QH.1 A with rfl|A
     .exact hx
     .rcases U with U|rfl
      .exact hM q A _ _ U (X q A)
      .exact X q A
    .rcases QH.1 A with rfl|A
     .intro w1 w2 h12 N;cases v with
      |ex y=>exact N
      |an p m=>exact m _ _ _ h12 N
     .exact hM q A
    .simp only [WW,QS] at hn ⊢;omega
    .by_cases W:E=j
     .subst W;constructor
      .intro h;simp [show E<c.size from Oo] at h
      .rintro ⟨t,g,he⟩;rcases QC.1 g with g|g
       .have:=O t g;omega
       .have:=hgt t g;omega
     .rw [getD_set_ne true W,B j hj];constructor
      .rintro ⟨t,g,he⟩;refine ⟨t,?_,he⟩;rcases QC.1 g with g|g
       .exact YJ _ g
       .rcases QH.1 g with rfl|g
        .exact absurd he W
        .exact KC _ g
      .rintro ⟨t,g,he⟩;refine ⟨t,?_,he⟩;rcases QC.1 g with g|g
       .exact YJ _ g
       .exact KC _ (QN _ g)
    .rw [getD_set_ne true Oo];exact eN j hj1 hj2
    .apply M t;rcases QC.1 h with h|h
     .exact YJ _ h
     .exact KC _ (QN _ h)
    .exact hp.sublist (List.Sublist.append_left (UK _ _) _)
    .intro n o2 bL cM d I;by_cases V:E=d
     .subst V;simp [show E<c.size from Oo]
     rw [getD_set_ne true V];by_cases Y:E=n
     .subst Y;rw [r] at bL;rw [<-WQ bL] at I;exact D l d I
     .rw [getD_set_ne true Y] at cM;exact hD n o2 bL cM d I
   unfold wpOp;simp only [r];split
   .rename_i hw;rw [QK hw] at u;exact .inl (u _ _ fun x w' ⟨U,hx⟩=>go x w' (hSR _ _ hS U) (.inl U) hx)
   .rename_i hw;rw [QX hw] at u;exact go _ w hS (.inr rfl) u
def Bk {R:Wd->Wd->Prop}:∀ (f:List Oper) (I:List (Wi R)) (n:Nat),f.length=I.length->(∀ t∈wzZ n f I,n<=t.1/\f[t.1-n]? =some t.2.1)/\(∀ i,n<=i->i<n+f.length->∃ t∈wzZ n f I,t.1=i)/\(wzZ n f I).Pairwise (fun s t=>s.1<t.1)/\(wzZ n f I).length=f.length
 | [],[],n,_=>⟨fun t h=>(QM h).elim,fun i k j=>by simp only [XS] at j;omega,JB,rfl⟩
 |o::f,v::I,n,h=>by
  obtain ⟨a,b,c,d⟩:=Bk f I (n+1) (by simpa using h);refine ⟨fun t g=>?_,fun i k j=>?_,XJ.2 ⟨fun t g=>Nat.lt_of_succ_le (a t g).1,c⟩,by simp [wzZ,d]⟩
  .rcases QH.1 g with rfl|g
   .exact ⟨Le _,Am⟩
   .obtain ⟨k,j⟩:=a t g;refine ⟨Oo,?_⟩;rw [show t.1-n=(t.1-(n+1))+1 from Oo];simpa using j
  .by_cases hi:i=n
   .exact ⟨_,QP,hi.symm⟩
   .obtain ⟨t,g,e⟩:=b i Oo (by simp only [QS] at j;omega);exact ⟨t,QN _ g,e⟩
 | [],_::_,_,h=>by cases h
 |_::_,[],_,h=>by cases h
def Q6 {a:Act} {w:Wd} {I:List (Wi R)} {k m:Nat} (hn:k+m=ops.size) (z:S w) (f:∀ w w',S w->R w w'->S w') (A:wzB ops=true) (r:wzK ops k=true) (v:Region.noSelect ops=true)
  (h:WzL P ops Z S R 0 (ops.toList.take k) I [] a) (x:∀ a w,Z a w->wpAny P .any ops Q m (wz0 k ops.size) a w):wpAny P .any ops Q ops.size (Array.replicate ops.size false) a w:=by
 obtain ⟨u,p⟩:=WzT.of _ _ _ _ _ h;obtain ⟨y,g,c1,j⟩:=Bk (ops.toList.take k) I 0 u;have b:(ops.toList.take k).length=k:=by rw [WX];simp;omega
 rw [b] at g j;have e:∀ i,i<ops.size->(Array.replicate ops.size false).getD i true=false:=fun i c=>by simp [c]
 rw [show ops.size=m+k from Oo];rw [show Array.replicate (m+k) false=Array.replicate ops.size false by rw [show m+k=ops.size from Oo]];refine ou Oo (Region.noSelect_spec v) A r f x _ _ _ _ _ _ p z (fun q h=>by cases h) (fun q h=>by cases h) j Am (fun i c=>?_) (fun i _ c=>e i c) (fun t l=>?_) c1 (fun n o s h=>by rw [e n (WA.1 s).1] at h;cases h)
 .constructor
  .intro _;exact g i (Z0 _) Oo
  .intro _;exact e i Oo
 .have h1:=(y t l).2;simp only [Nat.sub_zero] at h1;have d:=(QZ.1 h1).1;rw [b] at d;rw [YV,QK d] at h1;exact ⟨by simpa using h1,d⟩
def WzR {id:Nat} {a:Act} {w:Wd} {I:List (Wi R)} (q:S w.drew) (c:∀ w w',S w->R w w'->S w') (n:P.follows .mixedOrders=true:=by kernel_rfl) (r:wzB ops=true:=by kernel_rfl) (g:Region.noSelect ops=true:=by kernel_rfl)
  (h:WzL P ops (Q .normal) S R 0 ops.toList I [] a):(Code.region id ops true).wp P Q a w:=by
 refine wp_region_any n (Q6 (k:=ops.size) (m:=0) rfl q c r ?_ g (by rw [WU Am];exact h) fun a w hz=>⟨?_,hz⟩)
 .unfold wzK;rw [WE];intro j p;rw [QQ (YO.1 p)];rfl
 .cases hr:Region.ready .any ops (wz0 ops.size ops.size) with
  |nil=>rfl
  |cons i rs=>
   have l:i∈Region.ready .any ops (wz0 ops.size ops.size):=by rw [hr];exact QP
   obtain ⟨d,o,b,_⟩:=mem_ready.1 l;have f:=(WA.1 b).1;have e:=Bn ops.size ops.size i (Le _);rw [QK f] at e;rw [Array.getD_eq_getD_getElem?,e] at d;cases d
def Bi {id:Nat} {a:Act} {w:Wd} {I:List (Wi R)} {S':Wd->Prop} (k m:Nat) (d:S w.drew) (b:∀ w w',S w->R w w'->S w') (hn:k+m=ops.size:=by rfl) (c:P.follows .mixedOrders=true:=by kernel_rfl) (f:wzB ops=true:=by kernel_rfl) (e:wzK ops k=true:=by kernel_rfl) (g:Region.noSelect ops=true:=by kernel_rfl)
  (h:WzL P ops (fun a w=>wpAnyH P .any ops Q S' m (wz0 k ops.size) a w) S R 0 (ops.toList.take k) I [] a):(Code.region id ops true).wp P Q a w:=
 wp_region_any c (Q6 hn d b f e g h fun _ _ hz=>wpAny_of_held _ _ _ _ hz)
end
end
section
open Go.RowKit
variable {P:Program} {ops:Array Oper} {Q:Exit->Act->Wd->Prop} {a:Act}
abbrev Rb (w w':Wd):Prop:=Below w.1.size w w'
section
variable {P:Program} {ops:Array Oper} {Z:Act->Wd->Prop} {S:Wd->Prop} {i:Nat} {o:Oper} {os:List Oper} {I:List (Wi Rb)} {F:List (Nat×(Wd->Prop))} {a a':Act}
def xn (h:∀ w,S w->(∀ q∈F,q.2 w)->Z a w):WzL P ops Z S Rb i [] [] F a:=h
def xs {v:Value} (d:∀ w,S w->(∀ q∈F,q.1∈wzD o->q.2 w)->StV P o a w fun x w'=>Rb w w'/\x=v) (hw:Region.wanted o (yielded ops a.tmps)=true:=by rfl)
  (b:a.put o.dst v=a':=by conv=>lhs;simp only [Act.put,Sv,Sz,Sw]) (h:WzL P ops Z S Rb (i+1) os I F a'):WzL P ops Z S Rb i (o::os) (.ex v::I) F a:=by
 subst b;exact ⟨fun w c e=>by rw [QK hw];exact d w c e,h⟩
def xp (v:Value) (y:YieldsIf P ops S o v a:=by exact WL ⟨Af,by intro w' k;go_simp⟩)
  (d:a.put o.dst v=a':=by conv=>lhs;simp only [Act.put,Sv,Sz,Sw]) (h:WzL P ops Z S Rb (i+1) os I F a'):WzL P ops Z S Rb i (o::os) (.ex v::I) F a:=by
 subst d;refine ⟨fun w e g=>?_,h⟩;rcases y with ⟨c,b⟩|⟨c,b⟩
 .rw [QK c];intro j Q f;unfold Oper.wp;rw [b w e];exact f.out _ _ ⟨Bf _ _,rfl⟩
 .rw [QX (by rw [c];exact ZP)];exact b.symm
def xA {v:Value} (y:∀ w,S w->(execOp a.eval o).run P w=.ok (.value v) w:=by intro w' c;conv=>lhs;simp [go_sem]) (hw:Region.wanted o (yielded ops a.tmps)=true:=by rfl)
  (b:a.put o.dst v=a':=by conv=>lhs;simp only [Act.put,Sv,Sz,Sw]) (h:WzL P ops Z S Rb (i+1) os I F a'):WzL P ops Z S Rb i (o::os) (.ex v::I) F a:=
 xp v (WL ⟨hw,y⟩) b h
def xv {x:Operand} {v:Value} (b:o.op=.assign x\/o.op=.move x:=by first|exact WL rfl|exact VH rfl) (d:a.eval x=v:=by rfl) (hw:Region.wanted o (yielded ops a.tmps)=true:=by rfl)
  (c:a.put o.dst v=a':=by conv=>lhs;simp only [Act.put,Sv,Sz,Sw]) (h:WzL P ops Z S Rb (i+1) os I F a'):WzL P ops Z S Rb i (o::os) (.ex v::I) F a:=
 xp v (WL ⟨hw,fun w _=>by unfold execOp;rcases b with b|b<;>simp only [b,d]<;>rfl⟩) c h
def xl {ad:Addr} (v:Value) (d:∀ w,S w->w.cell? ad=some v)
  (he:∀ w,w.cell? ad=some v->(execOp a.eval o).run P w=.ok (.value v) w:=by intro w' e;go_simp) (hw:Region.wanted o (yielded ops a.tmps)=true:=by rfl)
  (b:a.put o.dst v=a':=by conv=>lhs;simp only [Act.put,Sv,Sz,Sw]) (h:WzL P ops Z S Rb (i+1) os I F a'):WzL P ops Z S Rb i (o::os) (.ex v::I) F a:=
 xp v (WL ⟨hw,fun w c=>he w (d w c)⟩) b h
def xr {ty:TypeId} {g:Nat} {cs:Array Value} {d:TypeDesc} {x:Operand} (c:∀ w,S w->Blk w g ty cs) (j:P.underlying ty=some d)
  (f:o.op=.load ty x:=by rfl) (k:a.eval x=Ag g 0:=by rfl)
  (b:(match d with | .struct _ | .array _ _=>true|_=>false)=true:=by rfl) (hn:(P.info? ty).map (·.size)=some cs.size:=by kernel_rfl) (hw:Region.wanted o (yielded ops a.tmps)=true:=by rfl)
  (l:a.put o.dst (.agg cs)=a':=by conv=>lhs;simp only [Act.put,Sv,Sz,Sw]) (h:WzL P ops Z S Rb (i+1) os I F a'):WzL P ops Z S Rb i (o::os) (.ex (.agg cs)::I) F a:=
 xs (fun w m _ n Q e=>wp_load_row ty x f g k ty cs (0,0) d (c w m) j (by cases d<;>exact b) hn (e.out _ _ ⟨Bf _ _,rfl⟩)) hw l h
def xc {f:FuncId} {args:Array Value} {v:Value} (j:∀ w,S w->(∀ q∈F,q.1∈wzD o->q.2 w)->Calls P f args w fun x w'=>x=.returned v/\Below w.1.size w w')
  (he:∀ w,(execOp a.eval o).run P w=.ok (.enter f args) w:=by intro w';go_simp) (hw:Region.wanted o (yielded ops a.tmps)=true:=by rfl)
  (e:a.put o.dst v=a':=by conv=>lhs;simp only [Act.put,Sv,Sz,Sw]) (h:WzL P ops Z S Rb (i+1) os I F a'):WzL P ops Z S Rb i (o::os) (.ex v::I) F a:=by
 refine xs (fun w g d k Q c=>?_) hw e h;unfold Oper.wp;rw [he w];refine yP (j w g d) fun w' b=>?_
 exact c.out _ _ ⟨b,rfl⟩
def xk {f:FuncId} {args:Array Value} {g:Value->Act} {p:Value->Wd->Prop} (m:∀ x w w',Rb w w'->p x w->p x w') (l:∀ w,S w->(∀ q∈F,q.1∈wzD o->q.2 w)->Calls P f args w fun x w'=>∃ u,x=.returned u/\p u w'/\Below w.1.size w w')
  (he:∀ w,(execOp a.eval o).run P w=.ok (.enter f args) w:=by intro w';go_simp) (hw:Region.wanted o (yielded ops a.tmps)=true:=by rfl)
  (j:∀ x,a.put o.dst x=g x:=by intro x;conv=>lhs;simp only [Act.put,Sv,Sz,Sw]) (h:∀ x,WzL P ops Z S Rb (i+1) os I ((i,p x)::F) (g x)):WzL P ops Z S Rb i (o::os) (.an p m::I) F a:=by
 refine ⟨fun w k d=>?_,fun x=>by rw [j];exact h x⟩;rw [QK hw];intro n Q c;unfold Oper.wp;rw [he w];apply (l w k d).mono;rintro x w' ⟨u,rfl,e,b⟩;exact c.out _ _ ⟨b,e⟩
def xbP (e:TypeId) (n:Nat) (cs:Array Value) (x:Value) (w:Wd):Prop:=∃ g,x=.slice (Ah g 0) n n/\Blk w g e cs
def xbM {e:TypeId} {n:Nat} {cs:Array Value} (x:Value) (w w':Wd) (h:Rb w w') (c:xbP e n cs x w):xbP e n cs x w':=by
 obtain ⟨g,rfl,b⟩:=c;exact ⟨g,rfl,b.below h b.lt⟩
def xb (e:TypeId) (n:Nat) (cs:Array Value) {g:Value->Act}
  (he:∀ w,(execOp a.eval o).run P w=.ok (.value (.slice (Ah w.1.size 0) n n)) (w.alloc (.cells cs e)):=by intro w';go_simp) (hw:Region.wanted o (yielded ops a.tmps)=true:=by rfl)
  (b:∀ x,a.put o.dst x=g x:=by intro x;conv=>lhs;simp only [Act.put,Sv,Sz,Sw]) (h:∀ x,WzL P ops Z S Rb (i+1) os I ((i,xbP e n cs x)::F) (g x)):WzL P ops Z S Rb i (o::os) (.an (xbP e n cs) xbM::I) F a:=by
 refine ⟨fun w d f=>?_,fun x=>by rw [b];exact h x⟩;rw [QK hw];intro j Q c;unfold Oper.wp;rw [he w];exact c.out _ _ ⟨Aj,_,rfl,Blk.new _ _ _⟩
end
def xbQ (base:Nat) (e:TypeId) (n:Nat) (cs:Array Value) (x:Value) (w:Wd):Prop:=∃ g,base<=g/\x=.slice (Ah g 0) n n/\Blk w g e cs
def xbN {base:Nat} {e:TypeId} {n:Nat} {cs:Array Value} (x:Value) (w w':Wd) (h:Rb w w') (c:xbQ base e n cs x w):xbQ base e n cs x w':=by
 obtain ⟨g,d,rfl,b⟩:=c;exact ⟨g,d,rfl,b.below h b.lt⟩
section
variable {P:Program} {ops:Array Oper} {Z:Act->Wd->Prop} {S:Wd->Prop} {i:Nat} {o:Oper} {os:List Oper} {I:List (Wi Rb)} {F:List (Nat×(Wd->Prop))} {a a':Act}
def xd (base:Nat) (e:TypeId) (n:Nat) (cs:Array Value) {g:Value->Act} (f:∀ w,S w->base<=w.1.size)
  (he:∀ w,(execOp a.eval o).run P w=.ok (.value (.slice (Ah w.1.size 0) n n)) (w.alloc (.cells cs e)):=by intro w';go_simp) (hw:Region.wanted o (yielded ops a.tmps)=true:=by rfl)
  (d:∀ x,a.put o.dst x=g x:=by intro x;conv=>lhs;simp only [Act.put,Sv,Sz,Sw]) (h:∀ x,WzL P ops Z S Rb (i+1) os I ((i,xbQ base e n cs x)::F) (g x)):WzL P ops Z S Rb i (o::os) (.an (xbQ base e n cs) xbN::I) F a:=by
 refine ⟨fun w b _=>?_,fun x=>by rw [d];exact h x⟩;rw [QK hw];intro j Q c;unfold Oper.wp;rw [he w];exact c.out _ _ ⟨Aj,_,f w b,rfl,Blk.new _ _ _⟩
def xy (v:Value) (he:∀ w,S w->(∀ q∈F,q.1∈wzD o->q.2 w)->(execOp a.eval o).run P w=.ok (.value v) w) (hw:Region.wanted o (yielded ops a.tmps)=true:=by rfl)
  (b:a.put o.dst v=a':=by conv=>lhs;simp only [Act.put,Sv,Sz,Sw]) (h:WzL P ops Z S Rb (i+1) os I F a'):WzL P ops Z S Rb i (o::os) (.ex v::I) F a:=
 xs (fun w c e K Q d=>by unfold Oper.wp;rw [he w c e];exact d.out _ _ ⟨Bf _ _,rfl⟩) hw b h
def xz {g:Value->Act} (p:Value->Wd->Prop) (m:∀ x w w',Rb w w'->p x w->p x w') (f:∀ w,S w->(∀ q∈F,q.1∈wzD o->q.2 w)->∃ v,(execOp a.eval o).run P w=.ok (.value v) w/\p v w) (hw:Region.wanted o (yielded ops a.tmps)=true:=by rfl)
  (j:∀ x,a.put o.dst x=g x:=by intro x;conv=>lhs;simp only [Act.put,Sv,Sz,Sw]) (h:∀ x,WzL P ops Z S Rb (i+1) os I ((i,p x)::F) (g x)):WzL P ops Z S Rb i (o::os) (.an p m::I) F a:=by
 refine ⟨fun w k e=>?_,fun x=>by rw [j];exact h x⟩;rw [QK hw];intro l Q c;obtain ⟨v,d,b⟩:=f w k e;unfold Oper.wp;rw [d];exact c.out _ _ ⟨Bf _ _,b⟩
def xf {q:Nat×(Wd->Prop)} {w:Wd} (k:Nat) (d:∀ q∈F,q.1∈wzD o->q.2 w) (c:F[k]? =some q:=by rfl) (b:(wzD o).contains q.1=true:=by kernel_rfl):q.2 w:=d q (QJ c) (JA.1 b)
end
def Wg {rest:List Oper} {Φ:Wd->Prop} {b:Wd} (c:Φ b) (h:∀ W,Φ W->wpList P ops Q rest a W):wpList P ops Q rest a b:=h b c
def tr {k:Region.Mode} {S:Wd->Prop} {w:Wd} {ty:TypeId} {g:Nat} {cs:List Value} {d:TypeDesc} (i:Nat) {f:Oper} {e:Nat} {b:Array Bool} {a':Act} {x:Operand}
  (n:∀ w,S w->Blk w g ty cs.toArray) (C:S w) (t:P.underlying ty=some d)
  (h:wpAnyH P k ops Q S e (b.setIfInBounds i true) a' w)
  (y:ops[i]? =some f:=by simp only [Ga,Gz,Gn];rfl)
  (r:f.op=.load ty x:=by rfl) (u:Region.noSelect ops=true:=by kernel_rfl) (q:Region.free k ops b i=true:=by kernel_rfl) (s:(Region.ready k ops b).contains i=true:=by kernel_rfl)
  (z:a.eval x=Ag g 0:=by rfl) (m:∀ c a w,Q (.panic c) (a.put f.dst (.agg cs.toArray)) w->Q (.panic c) a w:=by exact fun _ _ _ h=>h)
  (l:d.isRow=true:=by rfl) (hn:(P.info? ty).map (·.size)=some cs.length:=by kernel_rfl) (hw:Region.wanted f (yielded ops a.tmps)=true:=by rfl)
  (A:a.put f.dst (.agg cs.toArray)=a':=by conv=>lhs;simp only [Act.put,Sv,Sz,Sw]):wpAnyH P k ops Q S (e+1) b a w:=by
 subst A;exact JF y u q s m (WT hw ty x r g 0 z cs d (fun W p j v B=>by rw [Blk.cell (n W p)];simpa using B) t l hn) C h
end
section
open Go.RowKit
def Yh:List Value->Nat->List Value->List Value
 | [],_,_=>[]
 |c::r,0,[]=>c::r
 |_::r,0,v::vs=>v::Yh r 0 vs
 |c::r,o+1,vs=>c::Yh r o vs
def Zj:∀ (l:List Value) (o:Nat) (a:List Value) (k:Nat),(Yh l o a)[k]? =if o<=k/\k<o+a.length/\k<l.length then a[k-o]? else l[k]?
 | [],o,a,k=>by simp [Yh]
 |c::r,0,[],k=>by simp [Yh]
 |c::r,0,v::a,0=>by simp [Yh]
 |c::r,0,v::a,k+1=>by
  have:=Zj r 0 a k;simp only [Yh,Gn,this,QS];by_cases h:k<a.length/\k<r.length
  .rw [QK Oo,QK Oo];simp
  .rw [QX Oo,QX Oo]
 |c::r,o+1,a,0=>by simp [Yh]
 |c::r,o+1,a,k+1=>by
  have:=Zj r o a k;simp only [Yh,Gn,this,QS];by_cases h:o<=k/\k<o+a.length/\k<r.length
  .rw [QK h,QK Oo,Nat.add_sub_add_right]
  .rw [QX h,QX Oo]
def Fm:∀ (l:List Value) (o:Nat) (a:List Value),(Yh l o a).length=l.length
 | [],_,_=>rfl
 |_::_,0,[]=>rfl
 |_::r,0,_::a=>XK (· + 1) (Fm r 0 a)
 |_::r,o+1,a=>XK (· + 1) (Fm r o a)
structure Sto where
 i:Nat
 g:Nat
 o:Nat
 vs:List Value
def Sto.row (s:Sto):Obj->Obj
 |.cells cs t fr=>.cells (Yh cs.toList s.o s.vs).toArray t fr
 |x=>x
def Sto.go (w:Wd) (s:Sto):Wd:={ w with heap:=w.heap.modify s.g s.row }
def Sto.apart (s t:Sto):Prop:=s.g≠t.g\/s.o+s.vs.length<=t.o\/t.o+t.vs.length<=s.o
structure StoOk (P:Program) (ops:Array Oper) (a:Act) (w:Wd) (s:Sto):Prop where
 op:∃ o ty x y,ops[s.i]? =some o/\o.op=.store ty x y/\o.dst=none/\Region.wanted o (yielded ops a.tmps)=true/\a.eval x=Ag s.g s.o/\(a.eval y).cells.toList=s.vs/\(P.info? ty).map (·.size)=some s.vs.length
 one:∀ v∈s.vs,v.oneCell'=true
 at':∃ cs t,w.1[s.g]? =some (.cells cs t (0,0))/\s.o+s.vs.length<=cs.size
def StoOk.go {P:Program} {ops:Array Oper} {a:Act} {w:Wd} {s:Sto} (h:StoOk P ops a w s) (t:Sto):StoOk P ops a (Sto.go w t) s:=by
 refine ⟨h.op,h.one,?_⟩;obtain ⟨cs,ty,c,b⟩:=h.at';by_cases e:t.g=s.g
 .exact ⟨(Yh cs.toList t.o t.vs).toArray,ty,by simp [Sto.go,YA,e,c,Sto.row],by simpa [Fm] using b⟩
 .exact ⟨cs,ty,by simp [Sto.go,YA,e,c],b⟩
def vF {w:Wd} {g:Nat} {t:TypeId} {cs:Array Value} (h:Blk w g t cs) (i o:Nat) (a:List Value):Sto.go w ⟨i,g,o,a⟩=w.setRow g (Yh cs.toList o a).toArray:=by
 unfold Sto.go World.setRow;congr 1;apply Array.ext_getElem?;intro k;simp only [YA];by_cases e:g=k
 .subst e;rw [h];rfl
 .simp [e]
def S7 {w:Wd} {g:Nat} {t:TypeId} {cs:Array Value} (h:Blk w g t cs) {s:Sto} (a:s.g≠g):Blk (Sto.go w s) g t cs:=by
 unfold Blk at h ⊢;simp [Sto.go,YA,a,h]
def Hs {g:Nat} {t:TypeId}:∀ (l:List Sto) {w:Wd} {cs:Array Value},Blk w g t cs->(∀ s∈l,s.g=g)->l.foldl Sto.go w=w.setRow g (l.foldl (fun c s=>(Yh c.toList s.o s.vs).toArray) cs)
 | [],w,cs,h,_=>(setRow_self w g cs t (0,0) h).symm
 |⟨i,k,o,vs⟩::l,w,cs,h,hg=>by
  obtain rfl:k=g:=hg _ QP;simp only [List.foldl_cons];rw [vF h,Hs l (QR _ _ _ _ _ _ h) (fun s a=>hg s (QN _ a)),setRow_setRow]
def StoOk.run {P:Program} {ops:Array Oper} {a:Act} {w:Wd} {s:Sto} (h:StoOk P ops a w s):∃ o,ops[s.i]? =some o/\Region.wanted o (yielded ops a.tmps)=true/\∀ K Q,K a (Sto.go w s)->Oper.wp P o a w K Q:=by
 obtain ⟨⟨o,ty,x,y,z,m,A,B,i,g,f⟩,l,cs,t,e,r⟩:=h;refine ⟨o,z,B,fun K Q j=>?_⟩;have b:=run_storeCells_at P s.g s.o t s.vs 0 cs w e (by simpa using r) l
 have d:w.setRow s.g (cs.toList.take (s.o+0)++s.vs++cs.toList.drop (s.o+0+s.vs.length)).toArray=Sto.go w s:=by
  rw [show Sto.go w s=_ from vF e s.i s.o s.vs];congr 2;apply ZV;intro k;rw [Zj];have hz:cs.toList.length=cs.size:=Am
  simp only [QF];by_cases q:s.o<=k/\k<s.o+s.vs.length/\k<cs.toList.length
  .rw [QK q,WF As,ZJ As];congr 1;simp;omega
  .rw [QX q];by_cases C:k<s.o
   .rw [WF As,WF As,YV,QK C]
   .rw [ZJ As,YF];congr 1;simp;omega
 rw [d] at b;have n:a.put o.dst undef=a:=by rw [A];rfl
 unfold Oper.wp execOp;cases c:P.info? ty with
 |none=>simp [c] at f
 |some p=>
  have u:(a.eval y).cells.size=p.size:=by
   rw [<-XY,g];simpa [c] using f.symm
  have v:(storeVar ty ⟨s.g,s.o,none⟩ (a.eval y)).run P w=.ok () (Sto.go w s):=by
   simp [storeVar,sizeOf,typeInfo,c,u,g,b]
  simp only [m,i,Instr.storeAt,Instr.sureAddr,ZG,KL,XB,v];show K (a.put o.dst undef) _;rw [n];exact j
def ts1 {P:Program} {d:Region.Mode} {ops:Array Oper} {Q:Exit->Act->Wd->Prop} {S:Wd->Prop} {c:Nat} {a:Act} {b:Array Bool} {w:Wd} {s:Sto} (m:StoOk P ops a w s) (l:S (Sto.go w s))
  (h:wpAnyH P d ops Q S c (b.setIfInBounds s.i true) a (Sto.go w s)) (j:Region.ready d ops b=[s.i]:=by kernel_rfl):wpAnyH P d ops Q S (c+1) b a w:=
 wpAnyH_all j Am fun i k=>by
  rw [QT.1 k];obtain ⟨o,g,e,n⟩:=m.run
  exact wpOp_step g fun p f=>by
   rw [QK e];exact n _ _ (f _ _ ⟨l,h⟩)
def sto {P:Program} {ops:Array Oper} {a:Act} {w:Wd} {t ty:TypeId} {cs:Array Value} {c:Oper} {x y:Operand} (i g o:Nat) (b:List Value) (e:Blk w g t cs) (f:∀ v∈b,v.oneCell'=true) (j:o+b.length<=cs.size:=by exact Nat.le_of_ble_eq_true rfl)
  (k:ops[i]? =some c:=by simp only [Ga,Gz,Gn];rfl) (h:c.op=.store ty x y:=by rfl) (d:c.dst=none:=by rfl) (hw:Region.wanted c (yielded ops a.tmps)=true:=by rfl)
  (l:a.eval x=Ag g o:=by rfl) (hy:(a.eval y).cells.toList=b:=by rfl) (hn:(P.info? ty).map (·.size)=some b.length:=by kernel_rfl):StoOk P ops a w ⟨i,g,o,b⟩:=
 ⟨⟨c,ty,x,y,k,h,d,hw,l,hy,hn⟩,f,cs,t,e,j⟩
def Pm {v:Value} (h:v.oneCell'=true):∀ u∈[v],u.oneCell'=true:=fun u a=>by rw [QT.1 a];exact h
end
section
open Go.Sort
section
variable {α:Type} [Inhabited α] {lt:α->α->Bool}
def zC {d:Array α} {p s:List α} {x y:α} (h:d.toList=p++y::x::s):(swp d (p.length+1) p.length).toList=p++x::y::s:=by
 obtain ⟨l⟩:=d;simp only at h;subst h;have a:(p++y::x::s).toArray[p.length]! =y:=Am
 have b:(p++y::x::s).toArray[p.length+1]! =x:=by
  simp
 unfold swp;rw [a,b];simp only [Sv,List.toList_toArray];apply ZV;intro i;simp only [IZ,JY,KT,WW,QS];rcases IX i p.length with h|h|h
 .rw [QX Oo,QX Oo,QK h,QK h]
 .subst h;simp
 .rcases IX i (p.length+1) with h'|h'|h'
  .omega
  .subst h';simp
  .rw [QX Oo,QX Oo,QX Oo,QX Oo];obtain ⟨k,rfl⟩:∃ k,i=p.length+2+k:=⟨i-(p.length+2),Oo⟩
   have:p.length+2+k-p.length=k+2:=Oo
   rw [this];rfl
def Kl:∀ (j:Nat) (p:List α) (x:α) (s:List α) (d:Array α),p.length=j->d.toList=p++x::s->(insInner lt 0 j d).toList=I3 lt x p++s
 |0,p,x,s,d,hp,hd=>by
  have:p=[]:=QA hp;subst this;unfold insInner;simpa [I3,Ix] using hd
 |j+1,p,x,s,d,hp,hd=>by
  obtain ⟨q,y,rfl⟩:∃ q y,p=q++[y]:=⟨p.dropLast,p.getLast (by intro h;subst h;simp at hp),(VI _).symm⟩
  have b:q.length=j:=by simpa using hp
  have a:d.toList=q++y::x::s:=by simpa using hd
  have g:d[j]! =y:=by
   obtain ⟨l⟩:=d;simp only at a;subst a;rw [<-b];simp
  have i:d[j+1]! =x:=by
   obtain ⟨l⟩:=d;simp only at a;subst a;rw [<-b];simp
  unfold insInner;rw [g,i]
  have e:I3 lt x (q++[y])=if lt x y then I3 lt x q++[y] else q++[y]++[x]:=by
   unfold I3;rw [List.reverse_append];show ((if lt x y then _ else _:List α)).reverse=_;split<;>simp
  by_cases c:lt x y=true
  .rw [QK (by simp [c]),e,QK c];have f:=zC (d:=d) (p:=q) (s:=s) (x:=x) (y:=y) a;rw [b] at f;rw [Kl j q x (y::s) _ b f];simp
  .rw [QX (by simp [c]),e,QX c,a];simp
def Kk (n:Nat):∀ (m i:Nat) (a b:List α) (d:Array α),n-i=m->a.length=i->i<=n->d.toList=a++b->d.size=n->(insOuter lt 0 n i d).toList=Xl lt a b
 |0,i,a,b,d,hm,ha,hi,hd,hs=>by
  have c:a.length+b.length=n:=by rw [<-hs,<-XY,hd,WW]
  have:b=[]:=QA Oo;subst this;rw [insOuter,QX Oo,hd];simp [Xl]
 |m+1,i,a,b,d,hm,ha,hi,hd,hs=>by
  have c:a.length+b.length=n:=by rw [<-hs,<-XY,hd,WW]
  match b,hd with
  | [],_=>simp at c;omega
  |x::b,hd=>
   have e:=Kl (lt:=lt) i a x b d ha hd;rw [insOuter,QK Oo]
   have f:(insInner lt 0 i d).size=n:=by
    rw [<-XY,e,WW,Mf];simp at c;omega
   exact Kk n m (i+1) (I3 lt x a) b _ Oo (by rw [Mf,ha]) Oo e f
def F3 (l:List α):(insertionSort lt l.toArray 0 l.length).toList=Xl lt [] l:=by
 unfold insertionSort;cases l with
 |nil=>rw [insOuter,QX Am];rfl
 |cons x l=>
  have:=Kk (lt:=lt) (l.length+1) l.length 1 [x] l (x::l).toArray Oo rfl Oo rfl Am;simpa [Xl,I3,Ix] using this
end
end
end Go.Proofs.YtdleakjejodjjaaGreatDoor
