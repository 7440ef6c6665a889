/- Of the history laws. -/
import Derived.Test.YtdleakjejodjjaaGreatDoorSAJ
import Derived.Test.YtdleakjejodjjaaGreatDoorSAI
import Derived.Test.YtdleakjejodjjaaGreatDoorShelfS
namespace Go.Proofs.YtdleakjejodjjaaGreatDoor
open Tryz
set_option linter.defProp false
set_option linter.unusedVariables false
set_option linter.unusedSimpArgs false
set_option maxRecDepth 100000
set_option maxHeartbeats 20000000
open Go.RowKit
section
variable {w w':Wd} {α:Type} {p:α->Bool} {l:List α}
def Mx (w:Wd):Prop:=∃ m:Int,w.cell? ⟨2,0,none⟩=some (.int .i64 m)
def Mx.lt (h:Mx w):2<w.1.size:=by
 obtain ⟨m,a⟩:=h;exact Kd a
def Mx.next {B:Nat} (h:Mx w) (c:Below B w w') (b:2<B):Mx w':=by
 obtain ⟨m,a⟩:=h;exact ⟨m,(c.cell (p:=⟨_,0,none⟩) b).trans a⟩
def Mx.after (h:Mx w) (a:Below w.1.size w w'):Mx w':=h.next a h.lt
abbrev dot:Bz:=⟨#[46]⟩
def pcs (s:Bz):List Bz:=Lib.splitB dot 0 (Lib.countB s dot) s
def Fl (a:Bz):∀ (k:Nat) (s q:Bz),q∈Lib.splitB a 0 k s->q.size<=s.size
 |0,s,q,h=>by
  simp [Lib.splitB] at h;subst h;exact Le _
 |k+1,s,q,h=>by
  unfold Lib.splitB at h;split at h
  .simp at h;subst h;exact Le _
  .rcases QH.1 h with rfl|h
   .simp;omega
   .have:=Fl a k _ q h;simp at this;omega
def FH {s q:Bz} (h:q∈pcs s):q.size<=s.size:=Fl dot _ s q h
def Jz (s:Bz):(pcs s).length=Lib.countB s dot+1:=Lib.splitB_all dot Ac 0 _ s rfl
def Xt:∀ l:List Bz,U7 Ug l=l.map Value.string
 | []=>rfl
 |x::l=>by rw [Vg,Xt l];rfl
def NZ (w:Wd) (s:Bz):Sl Ug 1 (Aa w ((pcs s).map Value.string).toArray 9) (w.1.size+1) (Ah w.1.size 0) (Lib.countB s dot+1) (Lib.countB s dot+1) (pcs s):=by
 have h:=Sl.new (f:=Ug) (k:=1) (fun _=>rfl) w 9 (pcs s);rw [Xt,Jz] at h;exact h
def Ed (s:Bz):Lib.countB s dot<=s.size:=Lib.countB_le dot Ac s.size s (Le _)
def Uw (s:Bz):Bool:=decide (1<=s.size)&&decide (s.size<=31)&&(pcs s).all Xw
def Q0 {j:Nat} {x:α} (a:l[j]? =some x) (h:p x=false):l.all p=false:=by
 rw [ZM];exact ⟨x,QJ a,by simp [h]⟩
def L0 {n:Nat} (hn:l.length=n) (h:∀ t,t<n->∀ e,l[t]? =some e->p e=true):l.all p=true:=by
 rw [WE];intro e he;obtain ⟨t,a,rfl⟩:=XG he;exact h t Oo _ (QV a)
def uE (s:Bz) (w:Wd) (L:s.size<=maxLen) (a:Mx w):
  Calls prog 330 #[.string s,.int .i64 31,Ai 331] w (Ab w (.bool (Uw s))):=by
 obtain ⟨R,v⟩:=yH (Uw s);rw [v.o];have D:=L;unfold maxLen at L;by_cases X:s.size<1
 .have c:=Hd (show R=false by rw [<-v.o];unfold Uw;rw [QW Oo];simp);clear a;go_wp2;go_ret;exact ⟨by rw [c.o];rfl,Bf _ _⟩
 .by_cases h31:31<s.size
  .have c:=Hd (show R=false by rw [<-v.o];unfold Uw;rw [QW (show ¬ s.size<=31 from Oo)];simp);clear a;go_wp2;go_ret;exact ⟨by rw [c.o];rfl,Bf _ _⟩
  .obtain ⟨m,a⟩:=a;have y:=Hd (strings_Split s dot m w Oo a Ac);have d:=Hd (NZ w s);have E:=Hd (Jz s);have O:=Hd (fun q (h:q∈pcs s) W=>Tf q W (Lx (FH h) D));have Q:=Ed s;obtain ⟨n,hn⟩:=yG (Lib.countB s dot+1);have N:R=(pcs s).all Xw:=by rw [<-v.o];unfold Uw;rw [QQ (show 1<=s.size from Oo),QQ (show s.size<=31 from Oo)];rfl
   have F:=Hd N;have M:Lib.splitB dot 0 (Lib.countB s dot) s=pcs s:=rfl;simp only [M,hn] at y d E;have S:n<=32:=Oo
   clear a N M hn Q;generalize pcs s=l at y d E O F;obtain ⟨r,u⟩:=yG (Aa w (l.map Value.string).toArray 9);have I:Below w.1.size w r:=by rw [<-u];exact Aj
   have A:w.1.size+1=r.1.size:=by rw [<-u];simp
   have H:=Hd I;simp only [u] at y d;rw [A] at d;have G:=Hd A;clear u I A;go_in;go_wp2_with (go_at_call 337;refine yP y fun w' hw=>?_;rw [hw];clear hw w');go_loopw [21] (fun i wr=>∃ j:Nat,j<=n/\i=.int .i64 j/\(∀ t,t<j->∀ e,l[t]? =some e->Xw e=true)/\Below r.1.size r wr) (fun i _=>n-(intOf i).toNat)
   .exact ⟨0,Z0 _,rfl,fun t h=>absurd h Oo,Bf _ _⟩
   .obtain ⟨j,hj,rfl,hall,aF⟩:=hrel;have K:=Hd hall;clear hall;by_cases P:j<n
    .obtain ⟨b,o,x,gE,hb,hg,aB⟩:=Sl.cell (f:=Ug) (k:=1) (fun _=>rfl) (d.below aF) P;injection gE with gE
     injection gE with e1 e2
     subst e1 e2;have T:=aB 0 _ rfl;simp only [QF,QB,WY] at T;have B:=Hd (fun W=>O x (QJ hg) W);have J:=Hd hg;have z:=Hd aF;clear hg aB hb;obtain ⟨q,C⟩:=yG (Xw x);have g:=Hd C;simp only [C] at B;clear C;cases q with
     |false=>
      have c:=Hd (show R=false by rw [F.o];exact Q0 J g);go_wp2_with (go_at_call 331;refine yE (B _) ?_);go_ret;exact ⟨by rw [c.o];rfl,U0 H z (by have:=G.o;omega)⟩
     |true=>
      go_wp2_with (go_at_call 331;refine yE (B _) ?_);go_roundw
      .refine ⟨j+1,Oo,Au,fun t V e he=>?_,z⟩;by_cases h:t=j
       .subst h;rw [J.o] at he;injection he with he;subst he;exact g
       .exact K t Oo e he
      .exact At
    .obtain rfl:j=n:=Oo
     have U:=Hd (show R=true by rw [F.o];exact L0 E K);have z:=Hd aF;clear aF;go_wp2;go_ret;exact ⟨by rw [U.o];rfl,U0 H z (by have:=G.o;omega)⟩
def Yo (s:Bz) (w:Wd) (d:s.size<=maxLen) (a:Mx w):
  Calls prog 253 #[.string s] w (Ab w (.bool (Uw s))):=by
 have c:=Hd (uE s w d a);clear a;go_in;go_wp2_with (go_at_call 330;refine yN c fun e b=>?_);go_ret;exact ⟨rfl,b⟩
def Wo (s:Bz) (w:Wd):Calls prog 338 #[.string s] w (Ab w (.bool (decide (0<Ez s)))):=by
 have a:=Hd (S8 s w);go_in;go_wp2_with (go_at_call 339;refine yE a ?_);go_ret;exact ⟨rfl,Bf _ _⟩
def Vt (s:Bz):Bool:=decide (s.size<=22)&&Uw s&&!(pcs s).any fun q=>decide (0<Ez q)
def GO (s:Bz) (w:Wd) (i:s.size<=maxLen) (g:Mx w):
  Calls prog 256 #[.string s] w (Ab w (.bool (Vt s))):=by
 by_cases b:s.size<=22
 .have HV:=Hd (Yo s w i g);have c:=g;unfold Vt;rw [QQ b];obtain ⟨v,y⟩:=yG (Uw s);rw [y] at HV ⊢;clear y;have C:=i;unfold maxLen at i;cases v with
  |false=>
   clear g c;go_in;go_wp2_with (go_at_call 253;refine HV.mono ?_;rintro e z ⟨rfl,d⟩;have f:=Hd d;clear d);go_ret;exact ⟨rfl,f⟩
  |true=>
   have t:=Hd (fun (W:Wd) (m:Int) (h:W.cell? ⟨2,0,none⟩=some (.int .i64 m))=>strings_Split s dot m W Oo h Ac);have E:=Hd c;have H:=Hd (fun W=>NZ W s);have D:=Ed s;have o:=Hd (fun (W:Wd) (hb:Below (W.1.size+1) (Aa W ((pcs s).map Value.string).toArray 9) (Aa W ((pcs s).map Value.string).toArray 9))=>Oj (fun q=>decide (0<Ez q)) (Ah W.1.size 0) (Lib.countB s dot+1) (Lib.countB s dot+1) (pcs s) (Aa W ((pcs s).map Value.string).toArray 9) ((NZ W s).more Am) Oo fun x _ W' _=>Wo x W');obtain ⟨a,j⟩:=yG ((pcs s).any (fun q=>decide (0<Ez q)));rw [j];simp only [j] at o;have u:Lib.splitB dot 0 (Lib.countB s dot) s=pcs s:=rfl;simp only [u] at t;clear g c j u D;go_in
   go_wp2_with (first|(go_at_call 253;refine HV.mono ?_;rintro e z ⟨rfl,d⟩;obtain ⟨m,n⟩:=E.o.after d;have f:=Hd d;have A:=Hd n;clear d n)|(go_at_call 337;refine (t _ m A).mono ?_;rintro e G ⟨rfl,rfl⟩)|(go_at_call 246;refine (o _ (Bf _ _)).mono ?_;rintro e F ⟨rfl,r⟩;have B:=Hd r;clear r));go_ret;exact ⟨Am,U0 ((f).alloc (f.size) _) B (by have:=f.size;simp;omega)⟩
 .have h23:22<s.size:=Oo
  have k:Vt s=false:=by unfold Vt;rw [QW b];rfl
  rw [k];unfold maxLen at i;clear b k g;go_wp2;go_ret;exact ⟨rfl,Bf _ _⟩
def Ld (s:Bz):Int:=Lib.lastIndexByte s 46
def Xy (s:Bz):Bz×Int×Bool:=
 if Ld s<0 then (⟨#[]⟩,0,false)
 else if Vt (s.extract 0 (Ld s).toNat)=false then (⟨#[]⟩,0,false)
 else if Ez (s.extract ((Ld s).toNat+1) s.size)=0 then (⟨#[]⟩,0,false)
 else (s.extract 0 (Ld s).toNat,Ez (s.extract ((Ld s).toNat+1) s.size),true)
def Tq (s:Bz):Ld s = -1\/∃ i:Nat,Ld s=i/\i<s.size:=by
 rcases Lib.lastIndexByte_spec s 46 with ⟨h,_⟩|⟨i,b,a,_⟩
 .exact .inl h
 .exact .inr ⟨i,a,b⟩
def Na (s:Bz) (w:Wd) (E:s.size<=4611686018427387000) (o:Mx w):
  Calls prog 265 #[.string s] w (Ab w (.tuple #[.string (Xy s).1,.int .i64 (Xy s).2.1,.bool (Xy s).2.2])):=by
 have c:=Hd (strings_LastIndexByte s 46 Oo w);have A:=Tq s;have z:Lib.lastIndexByte s 46=Ld s:=rfl;rw [z] at c;clear z;unfold Xy;obtain ⟨k,v⟩:∃ k,Ld s=k:=⟨_,rfl⟩
 rw [v] at c A ⊢;clear v;rcases A with rfl|⟨i,rfl,D⟩
 .rw [QK Ac];clear o;go_in;go_wp2_with (go_at_call 345;refine c.mono ?_;rintro e j ⟨rfl,rfl⟩);refine Br (JS results265 _ _ _) rfl ?_;exact ⟨rfl,Bf _ _⟩
 .rw [QX Oo];simp only [XO];have x:(s.extract 0 i).size<=maxLen:=by unfold maxLen;simp;omega
  have f:=Hd (GO (s.extract 0 i) w x o);have h:=Hd (fun W=>S8 (s.extract (i+1) s.size) W);obtain ⟨g,m⟩:∃ g,Vt (s.extract 0 i)=g:=⟨_,rfl⟩
  obtain ⟨q,n⟩:∃ q,Ez (s.extract (i+1) s.size)=q:=⟨_,rfl⟩
  simp only [m] at f;simp only [n] at h;rw [m,n];clear o m n x;cases g with
  |false=>
   rw [QK rfl];go_in;go_wp2_with (first|(go_at_call 345;refine c.mono ?_;rintro e j ⟨rfl,rfl⟩)|(go_at_call 256;refine f.mono ?_;rintro e t ⟨rfl,b⟩;have d:=Hd b;clear b));refine Br (JS results265 _ _ _) rfl ?_;exact ⟨rfl,d⟩
  |true=>
   rw [QX Ac];by_cases hz:q=0
   .subst hz;rw [QK rfl];go_in;go_wp2_with (first|(go_at_call 345;refine c.mono ?_;rintro e j ⟨rfl,rfl⟩)|(go_at_call 256;refine f.mono ?_;rintro e t ⟨rfl,b⟩;have d:=Hd b;clear b)|(go_at_call 339;refine (h _).mono ?_;rintro e u ⟨rfl,rfl⟩));refine Br (JS results265 _ _ _) rfl ?_;exact ⟨rfl,d⟩
   .rw [QX hz];have C:(q == 0)=false:=by simpa using hz
    clear hz;go_in;go_wp2_with (first|(go_at_call 345;refine c.mono ?_;rintro e j ⟨rfl,rfl⟩)|(go_at_call 256;refine f.mono ?_;rintro e t ⟨rfl,b⟩;have d:=Hd b;clear b)|(go_at_call 339;refine (h _).mono ?_;rintro e u ⟨rfl,rfl⟩));have B:IntKind.i64.wrap ((i:Int)+1)=(i:Int)+1:=by rw [ZE];omega
    have r:=Hd (h t.drew);refine Rw (S:=fun _=>True) Ak trivial (fun a=>?_);refine tk 0 (.string s) a ?_;refine tk 1 (.int .i64 i) a ?_;refine tk 2 (.string (s.extract 0 i)) a ?_;refine tk 3 (.string s) a ?_;refine tk 4 (.int .i64 i) a ?_;refine tk 5 (.int .i64 ((i:Int)+1)) a ?_;refine tk 6 (.string (s.extract (i+1) s.size)) a ?_;refine Aq [7] ?_;refine Rc (fun K y=>?_) ?_
    .go_simp;refine r.mono ?_;rintro e u ⟨rfl,rfl⟩;simp only [];refine y.out _ _ trivial (fun a=>?_);clear y K;try simp only [Act.put,Sv,Sz,Sw]
     refine tk 8 (.string (s.extract 0 i)) a ?_;refine tk 9 (.int .i64 q) a ?_;refine tk 10 (.bool true) a ?_;refine Ad Ak ?_ _;clear a;go_wp2;refine Br (JS results265 _ _ _) rfl ?_;exact ⟨rfl,d.drew⟩
    exact An
end
def GK (z:Int) (w:Wd):Calls prog 411 #[.int .u8 z] w (Ae w (.bool (upB z))):=by
 unfold upB;cases a:decide ((65:Int)<=z)<;>cases b:decide (z<=(90:Int))
 all_goals
  go_wp2;go_ret;exact ⟨rfl,rfl⟩
def Em (z:Int) (w:Wd):Calls prog 362 #[.int .u8 z] w (Ae w (.bool (dgB z))):=by
 unfold dgB;cases a:decide ((48:Int)<=z)<;>cases b:decide (z<=(57:Int))
 all_goals
  go_wp2;go_ret;exact ⟨rfl,rfl⟩
def OQ {z:Int} (h:dgB z=true):upB z=false:=by
 unfold dgB at h;unfold upB;simp only [QU,QG] at h;rw [QW Oo];rfl
def uS {G:Prop} (h:G:=by
  go_in;go_wp2_with (go_at_call 362;refine yE (HD.o _) ?_)
  first
   |go_ret
    exact ⟨rfl,rfl⟩
   |clear hb
    go_loop [5,6] (fun i _=>∃ j:Nat,j<=s.size/\i=.int .i64 j/\∀ t,t<j->plB (bAt s t)=true) (fun i _=>s.size-(intOf i).toNat)
    .exact ⟨0,Oo,rfl,fun t h=>absurd h Oo⟩
    .obtain ⟨j,hj,rfl,hall⟩:=hrel;have HA:=Hd hall;clear hall;by_cases aE:j<s.size
     .obtain ⟨c,hc⟩:=yG ((s[j]).toNat);have eD:=Hd (show bAt s j=c by rw [Vs s j aE,hc]);have HP:=Hd (fun W=>GK (c:Int) W);have HQ:=Hd (fun W=>Em (c:Int) W);have HPL:Aw (plB (c:Int)=(upB c || dgB c)):=Hd rfl;have bA:=Hd aE;generalize upB (c:Int)=p at HP HPL;generalize dgB (c:Int)=q at HQ HPL
      have hnext:(p || q)=true->∀ t,t<j+1->plB (bAt s t)=true:=fun hpq t ht=>by
       by_cases e:t=j
       .subst e;rw [eD.o,HPL.o,hpq]
       .exact HA.o t Oo
      have HNX:=Hd hnext;clear hnext;cases p with
      |true=>
       go_wp2_with (go_at_call 411;refine yE (HP.o _) ?_)
       go_round
       .exact ⟨j+1,Oo,Au,HNX.o rfl⟩
       .exact At
      |false=>
       cases q with
       |true=>
        go_wp2_with (first|(go_at_call 411;refine yE (HP.o _) ?_)|(go_at_call 362;refine yE (HQ.o _) ?_))
        go_round
        .exact ⟨j+1,Oo,Au,HNX.o rfl⟩
        .exact At
       |false=>
        obtain rfl:R=false:=by
         rw [<-HR.o];by_cases e:j=0
         .subst e;unfold Xw;have h1:=HPL.o
          have h2:upB (c:Int)=false:=by
           unfold plB at h1;cases hq:upB (c:Int) with
           |false=>rfl
           |true=>rw [hq] at h1;cases h1
          rw [eD.o,h2];simp
         .exact Rq aE e (by rw [eD.o];exact HPL.o)
        go_wp2_with (first|(go_at_call 411;refine yE (HP.o _) ?_)|(go_at_call 362;refine yE (HQ.o _) ?_));go_ret;exact ⟨rfl,rfl⟩
     .obtain rfl:j=s.size:=by omega
      obtain rfl:R=true:=by
       rw [<-HR.o];have h1:=HA.o 0 Oo
       have hup:upB (bAt s 0)=true:=by
        unfold plB at h1;rw [dH.o] at h1 ⊢;rw [HU.o] at h1;simpa using h1
       unfold Xw;rw [hup,QQ (show 1<=s.size from Oo),QQ (show s.size<=8 from Oo),Yw (fun t ht=>by simp [HA.o t ht])];rfl
      go_wp2;go_ret;exact ⟨rfl,rfl⟩
   |all_goals
     go_ret;exact ⟨⟨_,rfl⟩,rfl⟩
   |.go_ret
     exact ⟨⟨_,rfl⟩,rfl⟩
    .clear hb;go_loop [5,6] (fun i _=>∃ j:Nat,j<=s.size/\i=.int .i64 j) (fun i _=>s.size-(intOf i).toNat)
     .exact ⟨0,Oo,rfl⟩
     .obtain ⟨j,hj,rfl⟩:=hrel;by_cases aE:j<s.size
      .obtain ⟨c,hc⟩:=yG ((s[j]).toNat);have HP:=Hd (fun W=>GK (c:Int) W);have HQ:=Hd (fun W=>Em (c:Int) W);generalize upB (c:Int)=p at HP;generalize dgB (c:Int)=q at HQ;have bA:=Hd aE;by_cases hj0:j=0
       .subst hj0;cases p<;>cases q
        all_goals
         go_wp2_with (first|(go_at_call 411;refine yE (HP.o _) ?_)|(go_at_call 362;refine yE (HQ.o _) ?_))
        all_goals first
         |(go_ret;exact ⟨⟨_,rfl⟩,rfl⟩)
         |(go_round;(case rel=>exact ⟨1,Oo,rfl⟩);(case measure=>simp [intOf];omega))
       .obtain ⟨m,rfl⟩:∃ m,j=m+1:=⟨j-1,Oo⟩
        have hml:m<s.size:=by omega
        obtain ⟨d,hd⟩:=yG ((s[m]).toNat);have q3:decide ((0:Int)<((m+1:Nat):Int))=true:=QQ Oo;have q4:(((m+1:Nat):Int))-1=(m:Int):=by omega
        cases p<;>cases q
        all_goals
         go_wp2_with (first|(go_at_call 411;refine yE (HP.o _) ?_)|(go_at_call 362;refine yE (HQ.o _) ?_))
        all_goals first
         |(go_ret;exact ⟨⟨_,rfl⟩,rfl⟩)
         |(go_round;(case rel=>exact ⟨m+1+1,Oo,Au⟩);(case measure=>simp [intOf];omega))
      .obtain rfl:j=s.size:=by omega
       go_wp2;go_ret;exact ⟨⟨_,rfl⟩,rfl⟩):G:=h
def mN {G:Prop} (h:G:=by
  have q2:decide ((8:Int)<(s.size:Int))=true:=QQ Oo;go_wp2
  first
   |go_ret
    exact ⟨rfl,rfl⟩
   |all_goals
     go_ret;exact ⟨⟨_,rfl⟩,rfl⟩):G:=h
def mM {G:Prop} (h:G:=by
  have q1:decide ((s.size:Int)<1)=true:=QQ Oo;go_wp2
  first
   |go_ret
    exact ⟨rfl,rfl⟩
   |all_goals
     go_ret;exact ⟨⟨_,rfl⟩,rfl⟩):G:=h
def sf (s:Bz) (w:Wd) (g:s.size<=maxLen):Calls prog 389 #[.string s,.bool false] w (Ae w (.bool (Xw s))):=by
 unfold maxLen at g;obtain ⟨R,HR⟩:=yH (Xw s);rw [HR.o];by_cases l:s.size<1
 .obtain rfl:R=false:=by rw [<-HR.o];unfold Xw;rw [QW Oo];simp
  exact mM
 .have q1:decide ((s.size:Int)<1)=false:=QW Oo;by_cases k:8<s.size
  .obtain rfl:R=false:=by rw [<-HR.o];unfold Xw;rw [QW (show ¬ s.size<=8 from Oo)];simp
   exact mN
  .have q2:decide ((8:Int)<(s.size:Int))=false:=QW Oo;have f:0<s.size:=Oo
   obtain ⟨b,hb⟩:=yG ((s[0]).toNat);have dH:=Hd (show bAt s 0=b by rw [Vs s 0 f,hb]);have HD:=Hd (fun W=>Em (b:Int) W);obtain ⟨u,a⟩:=yG (dgB (b:Int));simp only [a] at HD;cases u with
   |true=>
    obtain rfl:R=false:=by rw [<-HR.o];unfold Xw;rw [dH.o,OQ a];simp
    clear a;exact uS
   |false=>
    have HU:=Hd a;clear a;exact uS
def BoW (w:Wd) (e:Ending) (w':Wd):Prop:=(∃ b,e=.returned (.bool b))/\w=w'
def sd (s:Bz) (w:Wd) (a:s.size<=maxLen):Calls prog 389 #[.string s,.bool true] w (BoW w):=by
 unfold maxLen at a;by_cases k:s.size<1
 .exact mM
 .have q1:decide ((s.size:Int)<1)=false:=QW Oo;have g:0<s.size:=Oo
  obtain ⟨b,hb⟩:=yG ((s[0]).toNat);have HD:=Hd (fun W=>Em (b:Int) W);generalize dgB (b:Int)=u at HD;by_cases f:8<s.size
  .exact mN
  .have q2:decide ((8:Int)<(s.size:Int))=false:=QW Oo;cases u with
   |true=>
    exact uS
   |false=>
    exact uS
end Go.Proofs.YtdleakjejodjjaaGreatDoor
