/- Of the history laws. -/
import Derived.Lib.Strings
import Derived.Test.YtdleakjejodjjaaGreatDoorSAD
import Derived.WalkSpells
import Derived.WalkLawsBesides
import Derived.BigQuiet
import Derived.Laws.EntriesVeiled
import Derived.Deep.DeepCutAuto
import Derived.Deep.WholeRow
namespace Go.Proofs.YtdleakjejodjjaaGreatDoor
open Tryz
set_option linter.defProp false
set_option linter.unusedVariables false
set_option linter.unusedSimpArgs false
set_option maxRecDepth 100000
set_option maxHeartbeats 20000000
section
variable {a b d:Bz}
def Ev (h:a.data.toList=b.data.toList):a=b:=by
 apply KZ;exact UQ.1 h
def PZ (a:Bz):a.data.toList.length=a.size:=by rw [XY];rfl
def my (a b:Bz):(a++b).data.toList=a.data.toList++b.data.toList:=Am
def Vb (d:Bz):d.toList=d.data.toList:=ByteArray.toList_eq d
def mw (t:Bz) (i:Nat) (h:i<t.size):t.data.toList[i]? =some t[i]:=by
 rw [QV (by rw [PZ];exact h)];rfl
def AH (h:d.size=0):d.toList.isEmpty=true/\d.toList=[]:=by
 have:d.toList=[]:=by rw [Vb];apply QA;rw [PZ];exact h
 exact ⟨by rw [this];rfl,this⟩
def I4 (h:d.size≠0):d.toList.isEmpty=false/\¬ d.toList=[]:=by
 have:¬ d.toList=[]:=by
  intro e;have:=PZ d;rw [<-Vb,e] at this;simp at this;omega
 exact ⟨by simpa using this,this⟩
def BT (x:Bz):(⟨#[]⟩:Bz)++x=x:=by apply Ev;rw [my];rfl
def GP (d:Bz):d.extract 0 d.size=d:=Am
def mv (h:a.toList=b.toList):a=b:=Ev (by rw [<-Vb,<-Vb];exact h)
def MF (a b:Bz):(a.toList == b.toList)=decide (a=b):=by
 by_cases h:a=b
 .subst h;simp
 .rw [QW h];simp;exact fun e=>h (mv e)
def Jp (h:d.size=0):d=⟨#[]⟩:=by
 apply Ev;apply QA;rw [PZ];exact h
def Un (a b:Bz):Bool:=Op.bytesLess a.toList b.toList
def oB (a b:UInt8):(a<b/\¬ b<a/\a≠b)\/(a=b/\¬ a<b/\¬ b<a)\/(b<a/\¬ a<b/\a≠b):=by
 rcases IX a.toNat b.toNat with h|h|h
 .exact .inl ⟨YX.2 h,fun k=>by have:=YX.1 k;omega,fun e=>by subst e;omega⟩
 .exact .inr (.inl ⟨VV.1 h,fun k=>by have:=YX.1 k;omega,fun k=>by have:=YX.1 k;omega⟩)
 .exact .inr (.inr ⟨YX.2 h,fun k=>by have:=YX.1 k;omega,fun e=>by subst e;omega⟩)
def SS:∀ x y:List UInt8,Op.bytesLess y x = !(Op.bytesLess x y || x == y)
 | [],[]=>rfl
 | [],_::_=>by simp [Op.bytesLess]
 |_::_,[]=>by simp [Op.bytesLess]
 |a::x,b::y=>by
  have g:=SS x y;rcases oB a b with ⟨c,e,f⟩|⟨rfl,c,e⟩|⟨c,e,f⟩
  .simp [Op.bytesLess,c,e,Ne.symm f]
  .simp [Op.bytesLess,c,g]
  .simp [Op.bytesLess,c,e,f]
def SR:∀ x y z:List UInt8,Op.bytesLess x y=true->Op.bytesLess y z=true->Op.bytesLess x z=true
 |_,_,[],_,h=>by simp [Op.bytesLess] at h
 | [],_,_::_,_,_=>by simp [Op.bytesLess]
 |_::_,[],_::_,h,_=>by simp [Op.bytesLess] at h
 |a::x,b::y,c::z,h,k=>by
  simp only [Op.bytesLess,XU,QG,QU,YT] at h k ⊢;rcases h with h|⟨rfl,h⟩
  .rcases k with k|⟨rfl,k⟩
   .left;have:=YX.1 h;have:=YX.1 k;exact YX.2 Oo
   .exact .inl h
  .rcases k with k|⟨rfl,k⟩
   .exact .inl k
   .exact .inr ⟨rfl,SR x y z h k⟩
def F2 (a b:Bz):Un b a = !(Un a b || decide (a=b)):=by
 unfold Un;rw [SS,MF]
def Iw {c:Bz} (h:Un a b=true) (k:Un b c=true):Un a c=true:=SR _ _ _ h k
def nj (a b:Bz):(Op.bytesLess a.toList b.toList || a.toList == b.toList) = !Un b a:=by
 rw [F2];unfold Un;rw [MF];simp
end
section
open Go.RowKit
def Y4 (n:Int):Bool:=decide (1<=n)&&decide (n<=1099511627776)
def Gw {n:Int} (h:Y4 n=true):1<=n/\n<=1099511627776:=by simpa [Y4] using h
def F0 (n:Int) (w:Wd):Calls prog 59 #[.int .i64 n] w (Ae w (.bool (Y4 n))):=by
 by_cases a:1<=n
 .by_cases h2:n<=1099511627776
  .go_wp2;go_ret;exact ⟨by simp [Y4,a,h2],rfl⟩
  .go_wp2;go_ret;exact ⟨by simp [Y4,a,h2],rfl⟩
 .go_wp2;go_ret;exact ⟨by simp [Y4];omega,rfl⟩
def RV (x:Com) (w:Wd) (b:1<=x.num) (a:x.num<=1099511627776) (c:x.cn<=300):
  Calls prog 38 #[OT x] w (Ab w (.int .i64 (x.num+x.cn-1))):=by
 unfold OT;go_wp2;go_ret;exact ⟨rfl,Aj⟩
def Se (b a:Int) (s:Bz) (w:Wd):
  Calls prog 97 #[.agg #[.int .i64 b,.int .i64 a],.string s] w (Ab w (.bool (decide (b<=(s.size:Int))&&decide ((s.size:Int)<=a)))):=by
 by_cases c:b<=(s.size:Int)
 .by_cases h2:(s.size:Int)<=a
  all_goals
   go_wp2;go_ret;exact ⟨by simp [c,h2],Aj⟩
 .go_wp2;go_ret;exact ⟨As,Aj⟩
def bAt (s:Bz) (i:Nat):Nat:=if h:i<s.size then (s[i]).toNat else 0
def Vs (s:Bz) (i:Nat) (h:i<s.size):bAt s i=(s[i]).toNat:=by simp [bAt,h]
def IP (i b:Nat):Bool:=(decide (65<=b)&&decide (b<=90)) || (decide (48<=b)&&decide (b<=57)&&decide (i≠0))
def Im (s:Bz):Bool:=decide (1<=s.size)&&decide (s.size<=8)&&(List.range s.size).all fun i=>IP i (bAt s i)
def Yf {p:Nat->Bool} {n j:Nat} (a:j<n) (h:p j=false):(List.range n).all p=false:=by
 rw [ZM];exact ⟨j,YO.2 a,by simp [h]⟩
def Yw {p:Nat->Bool} {n:Nat} (h:∀ j,j<n->p j=true):(List.range n).all p=true:=by
 rw [WE];exact fun j a=>h j (YO.1 a)
def AT (W:Wd) (t:Bz):∃ c W',(convert 9 183 (.string t)).run prog W=.ok (.slice (Ah W.1.size 0) t.size c) W' /\
  (∀ j (h:j<t.size),W'.cell? ⟨W.1.size,j,none⟩=some (.int .u8 ((t[j]).toNat:Int)))/\W.grownBy W' none:=by
 refine ⟨_,_,run_bytes_of_string (P:=prog) W 9 183 5 t underlying9 underlying183 underlying5,fun j h=>?_,?_⟩
 .rw [show W.1.size=W.drew.1.size from rfl,World.cell?_alloc_mark];exact bytesRow_at t _ j h
 .exact ⟨rfl,rfl,rfl,Am,fun i a _=>YQ W.drew _ i a⟩
def pW {G:Prop} (h:G:=by
  go_wp2;go_ret;exact ⟨by rw [HF.o];rfl,(Bf w.1.size w).grown HG.o (Le _) (by rintro k ⟨⟩)⟩):G:=h
def lC {G:Prop} (h:G:=by
  go_wp2
  go_round
  .exact ⟨j+1,Oo,Au,eR.o (by have:=HZ.o;simp [IP];omega)⟩
  .simp [intOf];omega):G:=h
def L7 (s:Bz) (w:Wd) (H:s.size<=maxLen):Calls prog 98 #[.string s] w (Ab w (.bool (Im s))):=by
 unfold maxLen at H;obtain ⟨c,W',F,x,u⟩:=AT w s;have D:=Hd x;have HG:=Hd u;clear x u;obtain ⟨R,l⟩:=yH (Im s);rw [l.o];go_wp2;clear F;go_loop [10] (fun i=>∃ j:Nat,j<=s.size/\i=.int .i64 j/\∀ t,t<j->IP t (bAt s t)=true) (fun i=>s.size-(intOf i).toNat)
 .exact ⟨0,Z0 _,rfl,fun t h=>absurd h Oo⟩
 .obtain ⟨j,hj,rfl,hall⟩:=hrel;have v:=Hd hall;clear hall;by_cases f:j<s.size
  .have hc:=D.o j f;obtain ⟨b,g⟩:=yG ((s[j]).toNat);have p:bAt s j=b:=by rw [Vs s j f,g]
   have n:=Hd p;have I:=(s[j]).toNat_lt;rw [g] at I hc;clear g p;have q:IP j b=false->R=false:=fun h=>by rw [<-l.o];unfold Im;rw [Yf f (by rw [n.o];exact h)];simp
   have o:=Hd q
   have a:IP j b=true->∀ t,t<j+1->IP t (bAt s t)=true:=fun h t J=>by
    by_cases e:t=j
    .subst e;rw [n.o];exact h
    .exact v.o t Oo
   have eR:=Hd a;clear q a;obtain ⟨z,HZ⟩:=yH ((b:Int):Int);rw [HZ.o] at hc;by_cases d:65<=z/\z<=90
   .obtain ⟨d,l2⟩:=d;exact lC
   .by_cases d1:48<=z/\z<=57
    .obtain ⟨d1,d2⟩:=d1;clear d;have d:z<65:=Oo
     by_cases hz:j=0
     .subst hz;go_wp2;go_ret;exact ⟨by rw [o.o (by have:=HZ.o;simp [IP];omega)];rfl,(Bf w.1.size w).grown HG.o (Le _) (by rintro k ⟨⟩)⟩
     .have hz':((j:Int) == 0)=false:=As
      exact lC
    .have hf:R=false:=o.o (by have:=HZ.o;simp [IP];omega);have HF:=Hd hf;clear hf;by_cases m:65<=z
     .have B:90<z:=Oo
      have r:57<z:=Oo
      have L:48<=z:=Oo
      have K:decide (z<=90)=false:=As
      have E:decide (z<=57)=false:=As
      clear d d1;exact pW
     .have k1':z<65:=Oo
      by_cases B:48<=z
      .have r:57<z:=Oo
       have E:decide (z<=57)=false:=As
       clear d d1 m;exact pW
      .have r:z<48:=Oo
       clear d d1 m B;exact pW
  .obtain rfl:j=s.size:=Oo
   have y:R=(decide (1<=s.size)&&decide (s.size<=8)):=by rw [<-l.o];unfold Im;rw [Yw v.o];simp
   have A:=Hd y;clear y;by_cases C:1<=s.size
   .by_cases h2:s.size<=8
    all_goals
     go_wp2;go_ret;exact ⟨by rw [A.o];simp [C,h2];omega,(Bf w.1.size w).grown HG.o (Le _) (by rintro k ⟨⟩)⟩
   .go_wp2;go_ret;exact ⟨by rw [A.o];simp;omega,(Bf w.1.size w).grown HG.o (Le _) (by rintro k ⟨⟩)⟩
end
section
open Go.RowKit
variable {α:Type} {p:α->Bool} {l:List α}
def Vn {x:α} {j:Nat} (a:∀ t,t<j->∀ e,l[t]? =some e->p e=false) (b:l[j]? =some x) (h:p x=true):l.findIdx p=j:=by
 have d:=(QZ.1 b).1;rw [List.findIdx_eq d];have c:=(QZ.1 b).2;refine ⟨by rw [c];exact h,fun t f=>?_⟩;exact a t f _ (QV Oo)
def Vj {n:Nat} (b:l.length=n) (a:∀ t,t<n->∀ e,l[t]? =some e->p e=false):l.findIdx p=n:=by
 rw [<-b,List.findIdx_eq_length];intro e he;obtain ⟨t,c,rfl⟩:=XG he;exact a t Oo _ (QV c)
def EJ (p:α->Bool) (l:List α):l.any p=decide (l.findIdx p<l.length):=by
 rw [XW];simp [ZN]
theorem pV {G:Prop} (h:G:=by
  simp only [QF] at c0;have dI:=Hd (HC.o x (QJ hg) wr aF);have HG:=Hd hg;clear hg aB;cases hl:p x with
  |true=>
   have hr:R=(j:Int):=by rw [<-HR.o,Vn HA.o HG.o hl,QK aE]
   have aU:=Hd hr;have bQ:=Hd hl;clear hr hl;go_wp2_with fail;refine yP dI.o fun w1 aL=>?_
   rw [bQ.o];have aH:=U0 aF aL aM;clear aL;go_wp2;go_ret;exact ⟨by rw [aU.o];rfl,aH⟩
  |false=>
   have bQ:=Hd hl;clear hl;go_wp2_with fail;refine yP dI.o fun w1 aL=>?_
   rw [bQ.o];have aH:=U0 aF aL aM;clear aL;go_wp2;go_roundw
   .refine ⟨j+1,Oo,Au,fun t ht e he=>?_,aH⟩;by_cases h:t=j
    .subst h;rw [HG.o] at he;injection he with he;subst he;exact bQ.o
    .exact HA.o t Oo e he
   .simp [intOf];omega):G:=h
theorem pU {G:Prop} (h:G:=by
  .have hr:R = -1:=by rw [<-HR.o,Vj HL.o (fun t ht=>HA.o t Oo),QX Oo]
   have aU:=Hd hr;clear hr;go_wp2;go_ret;exact ⟨by rw [aU.o];rfl,aF⟩):G:=h
def Qb  (p:Com->Bool) (A:Option Addr) (n c:Nat) (l:List Com) (w:Wd) (a:Sl Ud 4 w w.1.size A n c l) (hn:n<=9223372036854775807)
  (d:∀ x∈l,∀ W:Wd,Below w.1.size w W->Calls prog 31 #[.agg #[.int .i64 x.unit,.int .i64 x.num,.slice x.rA x.rn x.rc,.slice x.cA x.cn x.cc]] W (Ab W (.bool (p x)))):
  Calls prog 58 #[.slice A n c,Ai 31] w (Ab w (.int .i64 (if l.findIdx p<n then (l.findIdx p:Int) else -1))):=by
 have g:=Hd a;have HL:=Hd a.len;have HC:=Hd d;clear a d;obtain ⟨R,HR⟩:=yH ((if l.findIdx p<n then (l.findIdx p:Int) else -1):Int);rw [HR.o];go_wp2;go_loopw [8] (fun i wr=>∃ j:Nat,j<=n/\i=.int .i64 j/\(∀ t,t<j->∀ e,l[t]? =some e->p e=false)/\Below w.1.size w wr) (fun i _=>n-(intOf i).toNat)
 .exact ⟨0,Z0 _,rfl,fun t h=>absurd h Oo,Bf _ _⟩
 .obtain ⟨j,hj,rfl,hall,aF⟩:=hrel;have HA:=Hd hall;have aM:=aF.size;clear hall;by_cases aE:j<n
  .obtain ⟨b,o,x,rfl,hb,hg,aB⟩:=Sl.cell (f:=Ud) (k:=4) (fun _=>rfl) (g.o.below aF) aE;have c0:=aB 0 _ rfl;have c1:=aB 1 _ rfl;have c2:=aB 2 _ rfl;have c3:=aB 3 _ rfl;exact pV
  exact pU
theorem pT {G:Prop} (h:G:=by
  have ha:=EJ p l;rw [hs.len] at ha;have HA:=Hd ha;clear hs hC ha;generalize l.findIdx p=q at H HA
  first
   |go_in
    by_cases hq:q<n
    .rw [QK hq] at H;go_wp2_with (go_at_call 58;refine yP H.o fun w1 hb=>?_);go_ret;exact ⟨by rw [HA.o];simp [hq],hb⟩
    .rw [QX hq] at H;go_wp2_with (go_at_call 58;refine yP H.o fun w1 hb=>?_);go_ret;exact ⟨by rw [HA.o];simp [hq],hb⟩
   |go_in
    by_cases hq:q<n
    .rw [QK hq] at H;go_wp2_with (go_at_call 95;refine yP H.o fun w1 hb=>?_);go_ret;exact ⟨by rw [HA.o];simp [hq],hb⟩
    .rw [QX hq] at H;go_wp2_with (go_at_call 95;refine yP H.o fun w1 hb=>?_);go_ret;exact ⟨by rw [HA.o];simp [hq],hb⟩
   |go_in
    by_cases hq:q<n
    .rw [QK hq] at H;go_wp2_with (go_at_call 18;refine yP H.o fun w1 hb=>?_);go_ret;exact ⟨by rw [HA.o];simp [hq],hb⟩
    .rw [QX hq] at H;go_wp2_with (go_at_call 18;refine yP H.o fun w1 hb=>?_);go_ret;exact ⟨by rw [HA.o];simp [hq],hb⟩):G:=h
def CP  (p:Com->Bool) (A:Option Addr) (n c:Nat) (l:List Com) (w:Wd) (hs:Sl Ud 4 w w.1.size A n c l) (hn:n<=9223372036854775807)
  (hC:∀ x∈l,∀ W:Wd,Below w.1.size w W->Calls prog 31 #[.agg #[.int .i64 x.unit,.int .i64 x.num,.slice x.rA x.rn x.rc,.slice x.cA x.cn x.cc]] W (Ab W (.bool (p x)))):
  Calls prog 30 #[.slice A n c,Ai 31] w (Ab w (.bool (l.any p))):=by
 have H:=Hd (Qb p A n c l w hs hn hC);exact pT
def B6  (p:Chg->Bool) (A:Option Addr) (n c:Nat) (l:List Chg) (w:Wd) (a:Sl chC 5 w w.1.size A n c l) (hn:n<=9223372036854775807)
  (d:∀ x∈l,∀ W:Wd,Below w.1.size w W->Calls prog 61 #[.agg #[.int .i64 x.kind,.int .i64 x.id,.string x.key,.string x.rcd,.string x.vol]] W (Ab W (.bool (p x)))):
  Calls prog 95 #[.slice A n c,Ai 61] w (Ab w (.int .i64 (if l.findIdx p<n then (l.findIdx p:Int) else -1))):=by
 have g:=Hd a;have HL:=Hd a.len;have HC:=Hd d;clear a d;obtain ⟨R,HR⟩:=yH ((if l.findIdx p<n then (l.findIdx p:Int) else -1):Int);rw [HR.o];go_wp2;go_loopw [8] (fun i wr=>∃ j:Nat,j<=n/\i=.int .i64 j/\(∀ t,t<j->∀ e,l[t]? =some e->p e=false)/\Below w.1.size w wr) (fun i _=>n-(intOf i).toNat)
 .exact ⟨0,Z0 _,rfl,fun t h=>absurd h Oo,Bf _ _⟩
 .obtain ⟨j,hj,rfl,hall,aF⟩:=hrel;have HA:=Hd hall;have aM:=aF.size;clear hall;by_cases aE:j<n
  .obtain ⟨b,o,x,rfl,hb,hg,aB⟩:=Sl.cell (f:=chC) (k:=5) (fun _=>rfl) (g.o.below aF) aE;have c0:=aB 0 _ rfl;have c1:=aB 1 _ rfl;have c2:=aB 2 _ rfl;have c3:=aB 3 _ rfl;have c4:=aB 4 _ rfl;exact pV
  exact pU
def ur  (p:Chg->Bool) (A:Option Addr) (n c:Nat) (l:List Chg) (w:Wd) (hs:Sl chC 5 w w.1.size A n c l) (hn:n<=9223372036854775807)
  (hC:∀ x∈l,∀ W:Wd,Below w.1.size w W->Calls prog 61 #[.agg #[.int .i64 x.kind,.int .i64 x.id,.string x.key,.string x.rcd,.string x.vol]] W (Ab W (.bool (p x)))):
  Calls prog 60 #[.slice A n c,Ai 61] w (Ab w (.bool (l.any p))):=by
 have H:=Hd (B6 p A n c l w hs hn hC);exact pT
def TJ  (p:Rdd->Bool) (A:Option Addr) (n c:Nat) (l:List Rdd) (w:Wd) (a:Sl rdC 6 w w.1.size A n c l) (hn:n<=9223372036854775807)
  (d:∀ x∈l,∀ W:Wd,Below w.1.size w W->Calls prog 64 #[.agg #[.int .i64 x.kind,.int .i64 x.id,.string x.key,.string x.ak,.string x.ar,.int .i64 x.code]] W (Ab W (.bool (p x)))):
  Calls prog 18 #[.slice A n c,Ai 64] w (Ab w (.int .i64 (if l.findIdx p<n then (l.findIdx p:Int) else -1))):=by
 have g:=Hd a;have HL:=Hd a.len;have HC:=Hd d;clear a d;obtain ⟨R,HR⟩:=yH ((if l.findIdx p<n then (l.findIdx p:Int) else -1):Int);rw [HR.o];go_wp2;go_loopw [8] (fun i wr=>∃ j:Nat,j<=n/\i=.int .i64 j/\(∀ t,t<j->∀ e,l[t]? =some e->p e=false)/\Below w.1.size w wr) (fun i _=>n-(intOf i).toNat)
 .exact ⟨0,Z0 _,rfl,fun t h=>absurd h Oo,Bf _ _⟩
 .obtain ⟨j,hj,rfl,hall,aF⟩:=hrel;have HA:=Hd hall;have aM:=aF.size;clear hall;by_cases aE:j<n
  .obtain ⟨b,o,x,rfl,hb,hg,aB⟩:=Sl.cell (f:=rdC) (k:=6) (fun _=>rfl) (g.o.below aF) aE;have c0:=aB 0 _ rfl;have c1:=aB 1 _ rfl;have c2:=aB 2 _ rfl;have c3:=aB 3 _ rfl;have c4:=aB 4 _ rfl;have c5:=aB 5 _ rfl;exact pV
  exact pU
def yn  (p:Rdd->Bool) (A:Option Addr) (n c:Nat) (l:List Rdd) (w:Wd) (hs:Sl rdC 6 w w.1.size A n c l) (hn:n<=9223372036854775807)
  (hC:∀ x∈l,∀ W:Wd,Below w.1.size w W->Calls prog 64 #[.agg #[.int .i64 x.kind,.int .i64 x.id,.string x.key,.string x.ak,.string x.ar,.int .i64 x.code]] W (Ab W (.bool (p x)))):
  Calls prog 63 #[.slice A n c,Ai 64] w (Ab w (.bool (l.any p))):=by
 have H:=Hd (TJ p A n c l w hs hn hC);exact pT
end
section
open Go.RowKit
def rdB (x:Rdd):Bool:=(decide (x.kind=0) || decide (x.kind=1))&&Y4 x.id&&decide (x.key.size<=32)&&(decide (x.code=0) || (decide (x.ak.size=0)&&decide (x.ar.size=0)&&decide (x.code=6)))
def Fa {t:Bz} (h:t.size=0):t=⟨#[]⟩:=by
 obtain ⟨a⟩:=t;simp [ByteArray.size] at h;simp [h]
def nil_iff (t:Bz):t.size=0<->t.toList=[]:=by
 constructor
 .intro h;rw [Fa h,Vb]
 .intro h;rw [Vb] at h;simpa using XK List.length h
def K6 (t:Bz):decide (t.size=0)=decide (t.toList=[]):=decide_eq_decide.2 (nil_iff t)
def uY {G:Prop} (h:G:=by
  go_in;go_wp2_with (go_at_call 59;refine yE (HN.o _) ?_)
  first
   |go_ret
    exact ⟨rfl,Aj⟩
   |all_goals
     go_ret;refine ⟨?_,Aj⟩;rw [<-HR.o]
     first
      |(show Ending.returned (.bool true)=_;congr 2;simp_all;done)
      |(show Ending.returned (.bool false)=_;congr 2;simp_all;done)):G:=h
def MK (x:Rdd) (w:Wd):Calls prog 65 #[.agg #[.int .i64 x.kind,.int .i64 x.id,.string x.key,.string x.ak,.string x.ar,.int .i64 x.code]] w (Ab w (.bool (rdB x))):=by
 obtain ⟨k,id,c,g,e,a⟩:=x;simp only;have HN:Aw (∀ W:Wd,Calls prog 59 #[.int .i64 id] W (Ae W (.bool (Y4 id)))):=Hd fun W=>F0 id W
 by_cases d:k=0\/k=1
 .have b:(decide (k=0) || decide (k=1))=true:=by simpa using d
  have l:rdB ⟨k,id,c,g,e,a⟩=(Y4 id&&decide (c.size<=32)&&(decide (a=0) || (decide (g.size=0)&&decide (e.size=0)&&decide (a=6)))):=by
   simp only [rdB,b,XL]
  rw [l];have T:∀ W:Wd,True:=fun _=>trivial
  cases hn:Y4 id with
  |false=>
   rw [hn] at HN;simp only [YM];clear hn l b T;rcases d with rfl|rfl
   all_goals
    exact uY
  |true=>
   rw [hn] at HN;simp only [XL];clear hn l b T;by_cases f:c.size<=32
   .simp only [f,VS,XL];by_cases j:a=0
    .subst j;simp only [VS,Bool.true_or];rcases d with rfl|rfl
     all_goals
      exact uY
    .have hc0:(a == 0)=false:=by simpa using j
     obtain ⟨R,i⟩:=yG ((decide (a=0) || (decide (g.size=0)&&decide (e.size=0)&&decide (a=6))):Bool);rw [i]
     have i:(decide (g.toList=[])&&decide (e.toList=[])&&decide (a=6))=R:=by
      rw [<-i,K6 g,K6 e];simp [j]
     have HR:=Hd i;clear i j;rcases d with rfl|rfl
     all_goals
      exact uY
   .simp only [f,UY,YM];have m:32<c.size:=Oo
    rcases d with rfl|rfl
    all_goals
     exact uY
 .have k0:(k == 0)=false:=As
  have n:(k == 1)=false:=As
  have p:(k != 0)=true:=As
  have o:(k != 1)=true:=As
  have b:(decide (k=0) || decide (k=1))=false:=As
  simp only [rdB,b,YM];clear b d;go_wp2;go_ret;exact ⟨rfl,Aj⟩
end
section
open Go.RowKit
def LQ {α:Type} (a:Array α) (x y:α):(a.push x).setIfInBounds a.size y=a.push y:=by
 apply Array.ext';simp
def uw (w:Wd) (b:Array MapEntry) (c:Nat) (a:Int) (val:Value) (e:Instr.findNow (.int .i64) (.int .i64 a) b.toList 0=some none):
  (Instr.mapUpdate 159 (.map (some w.1.size)) (.int .i64 a) val).run prog (w.alloc (.map b c))=.ok () (w.alloc (.map (b.push ⟨.int .i64 a,val,c⟩) (c+1))):=by
 have d:(w.alloc (.map b c)).1[w.1.size]? =some (.map b c):=YH w _;have g:(Instr.checkKey false 10000 3 (.int .i64 a)).run prog (w.alloc (.map b c))=.ok () (w.alloc (.map b c)):=YL (k:=.int .i64 a) underlying3 (by simp [MapKept.IsKey]) false 9999
 have f:({ w.alloc (.map b c) with heap:=(w.alloc (.map b c)).heap.setIfInBounds w.1.size (.map (b.push ⟨.int .i64 a,val,c⟩) (c+1)) }:Wd)=w.alloc (.map (b.push ⟨.int .i64 a,val,c⟩) (c+1)):=by
  unfold World.alloc;simp only [LQ]
 simp [Instr.mapUpdate,WN underlying159,WV d,g,XE underlying3 e,YS _ d,Result.andThen];exact f
def lB {G:Prop} (h:G:=by
  have hc:(Instr.checkKey es.isEmpty 10000 3 (.int .i64 key)).run prog w=.ok () w:=YL (k:=.int .i64 key) underlying3 (by simp [MapKept.IsKey]) _ 9999;simp [Instr.lookup,WN underlying159,WV hb,hc,XE underlying3 hf]):G:=h
def Ef (w:Wd) (b:Nat) (es:Array MapEntry) (c:Nat) (key:Int) (v:Value) (i:Nat) (hb:w.1[b]? =some (.map es c)) (hf:Instr.findNow (.int .i64) (.int .i64 key) es.toList 0=some (some (i,v))):
  (Instr.lookup 159 (.map (some b)) (.int .i64 key) true).run prog w=.ok (.tuple #[v,.bool true]) w:=by
 exact lB
def Ig (w:Wd) (b:Nat) (es:Array MapEntry) (c:Nat) (key:Int) (hb:w.1[b]? =some (.map es c)) (hf:Instr.findNow (.int .i64) (.int .i64 key) es.toList 0=some none):
  (Instr.lookup 159 (.map (some b)) (.int .i64 key) true).run prog w=.ok (.tuple #[.agg #[.string ⟨#[]⟩,.int .i64 0,.int .i64 0,.int .i64 0,.int .i64 0,.bool false,.nilFunc],.bool false]) w:=by
 exact lB
abbrev fV0 (b:Nat):Value:=.agg #[.string ⟨#[112,117,116]⟩,.int .i64 1,.int .i64 32,.int .i64 1,.int .i64 200,.bool false,.func (.func 141) #[] #[.pointer (some ⟨b,0,none⟩)]]
abbrev fV1:Value:=.agg #[.string ⟨#[101,114,97,115,101]⟩,.int .i64 1,.int .i64 32,.int .i64 0,.int .i64 0,.bool false,.func (.func 143) #[] #[]]
abbrev fV2:Value:=.agg #[.string ⟨#[97,112,112,101,110,100]⟩,.int .i64 0,.int .i64 0,.int .i64 0,.int .i64 1000,.bool false,.func (.func 138) #[] #[]]
abbrev fV3:Value:=.agg #[.string ⟨#[101,109,112,116,121]⟩,.int .i64 0,.int .i64 0,.int .i64 0,.int .i64 0,.bool false,.nilFunc]
abbrev fV4:Value:=.agg #[.string ⟨#[99,114,101,97,116,101]⟩,.int .i64 0,.int .i64 0,.int .i64 0,.int .i64 400,.bool true,.func (.func 140) #[] #[]]
abbrev fV5:Value:=.agg #[.string ⟨#[114,101,109,111,118,101]⟩,.int .i64 0,.int .i64 0,.int .i64 0,.int .i64 0,.bool true,.func (.func 140) #[] #[]]
abbrev fV6:Value:=.agg #[.string ⟨#[109,111,118,101]⟩,.int .i64 0,.int .i64 0,.int .i64 0,.int .i64 400,.bool true,.func (.func 140) #[] #[]]
abbrev fV7:Value:=.agg #[.string ⟨#[110,111,116,101]⟩,.int .i64 0,.int .i64 0,.int .i64 0,.int .i64 400,.bool true,.func (.func 140) #[] #[]]
def fE1 (b:Nat):Array MapEntry:=#[⟨.int .i64 0,fV0 b,0⟩]
def fE2 (b:Nat):Array MapEntry:=(fE1 b).push ⟨.int .i64 1,fV1,1⟩
def fE3 (b:Nat):Array MapEntry:=(fE2 b).push ⟨.int .i64 2,fV2,2⟩
def fE4 (b:Nat):Array MapEntry:=(fE3 b).push ⟨.int .i64 3,fV3,3⟩
def fE5 (b:Nat):Array MapEntry:=(fE4 b).push ⟨.int .i64 4,fV4,4⟩
def fE6 (b:Nat):Array MapEntry:=(fE5 b).push ⟨.int .i64 5,fV5,5⟩
def fE7 (b:Nat):Array MapEntry:=(fE6 b).push ⟨.int .i64 6,fV6,6⟩
def fE8 (b:Nat):Array MapEntry:=(fE7 b).push ⟨.int .i64 7,fV7,7⟩
abbrev fW (w:Wd):Wd:=((w.alloc (.cells #[.int .i64 1,.int .i64 32] 154)).alloc (.cells #[.int .i64 0,.int .i64 400] 154)).alloc (.cells #[.func (.func 138) #[] #[]] 155)
def fU (w:Wd) (b:Array MapEntry) (c:Nat) (a:Int) (val:Value) (d:Instr.findNow (.int .i64) (.int .i64 a) b.toList 0=some none):
  (Instr.mapUpdate 159 (.map (some (w.1.size+3))) (.int .i64 a) val).run prog ((fW w).alloc (.map b c))=.ok () ((fW w).alloc (.map (b.push ⟨.int .i64 a,val,c⟩) (c+1))):=by
 have h:=uw (fW w) b c a val d;rw [show (fW w).1.size=w.1.size+3 from Am] at h;exact h
def Nz (w:Wd):Calls prog 96 #[] w fun e w'=>e=.returned (.map (some (w.1.size+3)))/\w'=(fW w).alloc (.map (fE8 (w.1.size+2)) 8):=by
 have a:=@run_makeMap prog;have b:_=Result.ok () ((fW w).alloc (.map (fE1 (w.1.size+2)) 1)):=fU w #[] 0 0 (fV0 (w.1.size+2)) Af;have d:_=Result.ok () ((fW w).alloc (.map (fE2 (w.1.size+2)) 2)):=fU w (fE1 (w.1.size+2)) 1 1 fV1 Af;have j:_=Result.ok () ((fW w).alloc (.map (fE3 (w.1.size+2)) 3)):=fU w (fE2 (w.1.size+2)) 2 2 fV2 Af;have f:_=Result.ok () ((fW w).alloc (.map (fE4 (w.1.size+2)) 4)):=fU w (fE3 (w.1.size+2)) 3 3 fV3 Af;have h:_=Result.ok () ((fW w).alloc (.map (fE5 (w.1.size+2)) 5)):=fU w (fE4 (w.1.size+2)) 4 4 fV4 Af;have c:_=Result.ok () ((fW w).alloc (.map (fE6 (w.1.size+2)) 6)):=fU w (fE5 (w.1.size+2)) 5 5 fV5 Af;have g:_=Result.ok () ((fW w).alloc (.map (fE7 (w.1.size+2)) 7)):=fU w (fE6 (w.1.size+2)) 6 6 fV6 Af
 have i:_=Result.ok () ((fW w).alloc (.map (fE8 (w.1.size+2)) 8)):=fU w (fE7 (w.1.size+2)) 7 7 fV7 Af;go_wp2;go_ret;exact ⟨rfl,rfl⟩
end
section
open Go.RowKit
def Ml (a b:Int) (s:Bz):Bool:=decide (a<=(s.size:Int))&&decide ((s.size:Int)<=b)
def Ie (id g h e d:Int) (f:Bool) (b c a:Bz):Bool:=Y4 id&&Ml g h b&&Ml e d c&&(if f then Im a else decide (a.size=0))
def Vw (w:Wd) (o:Obj) (b:Nat) (h:b=w.1.size):(w.alloc o).1[b]? =some o:=by subst h;exact YH w o
def qZ (w:Wd) (d:Array Value) (i:Bz) (e h c b:Int) (f:Bool) (g:Nat) (a:Wd):Prop:=
 Blk a w.1.size 50 d/\(∃ s,Blk a g 157 #[.string i,.int .i64 e,.int .i64 h,.int .i64 c,.int .i64 b,.bool f,s])/\Below w.1.size w a/\w.1.size<=a.1.size
def zs (w:Wd) (c:Array Value) (h:Bz) (d f b a:Int) (e:Bool) (s:Value) (c1 c2 c3 m:Obj) (g:Nat) (i:g=w.1.size+5):
  qZ w c h d f b a e g ((((((Aa w c 50).alloc c1).alloc c2).alloc c3).alloc m).alloc (.cells #[.string h,.int .i64 d,.int .i64 f,.int .i64 b,.int .i64 a,.bool e,s] 157)).drew:=
 ⟨((((((Blk.new w 50 c).alloc _).alloc _).alloc _).alloc _).alloc _).drew,⟨s,Vw _ _ _ (by subst i;simp)⟩,((((((((Bf w.1.size w).alloc (Le _) _).alloc Am _).alloc As _).alloc As _).alloc As _).alloc As _)).drew,As⟩
def zr (w:Wd) (c:Array Value) (h:Bz) (d f b a:Int) (e:Bool) (s:Value) (c1 c2 c3 m:Obj) (g:Nat) (i:g=w.1.size+1):
  qZ w c h d f b a e g ((((((Aa w c 50).alloc (.cells #[.string h,.int .i64 d,.int .i64 f,.int .i64 b,.int .i64 a,.bool e,s] 157)).alloc c1).alloc c2).alloc c3).alloc m).drew:=
 ⟨((((((Blk.new w 50 c).alloc _).alloc _).alloc _).alloc _).alloc _).drew,⟨s,(((((show Blk _ _ _ _ from Vw (Aa w c 50) _ _ (by subst i;simp)).alloc _).alloc _).alloc _).alloc _).drew⟩,((((((((Bf w.1.size w).alloc (Le _) _).alloc Am _).alloc As _).alloc As _).alloc As _).alloc As _)).drew,As⟩
abbrev wC (w:Wd) (k id:Int) (a b c:Bz):Wd:=w.alloc (.cells #[.int .i64 k,.int .i64 id,.string a,.string b,.string c] 50)
abbrev Lk (W:Wd) (b:Nat) (k:Int) (F:Array Value) (z:Bool):Prop:=(Instr.lookup 159 (.map (some b)) (.int .i64 k) true).run prog W=.ok (.tuple #[.agg F,.bool z]) W
abbrev wM (W:Wd) (b:Nat):Wd:=(((W.alloc (.cells #[.int .i64 1,.int .i64 32] 154)).alloc (.cells #[.int .i64 0,.int .i64 400] 154)).alloc (.cells #[.func (.func 138) #[] #[]] 155)).alloc (.map (fE8 b) 8)
abbrev fZ:Array Value:=#[.string ⟨#[]⟩,.int .i64 0,.int .i64 0,.int .i64 0,.int .i64 0,.bool false,.nilFunc]
def Yq (k id:Int) (j h d:Bz) (w:Wd) (wd:Bz) (s t p o:Int) (A:Bool) (i:Nat->Nat) (P:Nat->Value) (ho:∀ b,(P b).oneCell'=true)
  (hf:∀ b,Instr.findNow (.int .i64) (.int .i64 k) (fE8 b).toList 0=some (some (i b,.agg #[.string wd,.int .i64 s,.int .i64 t,.int .i64 p,.int .i64 o,.bool A,P b]))) (hv:d.size<=maxLen):
  Calls prog 62 #[.agg #[.int .i64 k,.int .i64 id,.string j,.string h,.string d]] w (Ab w (.bool (Ie id s t p o A j h d))):=by
 have s1:(wM (wC w k id j h d) (w.1.size+3)).cell? ⟨w.1.size,0,none⟩=some (.int .i64 k):=((((((Blk.new w _ _).alloc _).alloc _).alloc _).alloc _)).cell 0;have l1:Lk (wM (wC w k id j h d) (w.1.size+3)) (w.1.size+4) k (#[.string wd,.int .i64 s,.int .i64 t,.int .i64 p,.int .i64 o,.bool A,P (w.1.size+3)]) true:=Ef (wM (wC w k id j h d) (w.1.size+3)) (w.1.size+4) (fE8 (w.1.size+3)) 8 k _ _ (Vw (Aa (((wC w k id j h d).alloc (.cells #[.int .i64 1,.int .i64 32] 154)).alloc (.cells #[.int .i64 0,.int .i64 400] 154)) #[Ai 138] 155) (.map (fE8 (w.1.size+3)) 8) _ Am) (hf _)
 have l1d:Lk ((wM (wC w k id j h d) (w.1.size+3)).drew) (w.1.size+4) k (#[.string wd,.int .i64 s,.int .i64 t,.int .i64 p,.int .i64 o,.bool A,P (w.1.size+3)]) true:=Ef (wM (wC w k id j h d) (w.1.size+3)).drew (w.1.size+4) (fE8 (w.1.size+3)) 8 k _ _ (Vw (Aa (((wC w k id j h d).alloc (.cells #[.int .i64 1,.int .i64 32] 154)).alloc (.cells #[.int .i64 0,.int .i64 400] 154)) #[Ai 138] 155) (.map (fE8 (w.1.size+3)) 8) _ Am) (hf _)
 have l2:Lk (Aa (wM (wC w k id j h d) (w.1.size+3)) fZ 157) (w.1.size+4) k (#[.string wd,.int .i64 s,.int .i64 t,.int .i64 p,.int .i64 o,.bool A,P (w.1.size+3)]) true:=Ef (Aa (wM (wC w k id j h d) (w.1.size+3)) fZ 157) (w.1.size+4) (fE8 (w.1.size+3)) 8 k _ _ ((YQ (wM (wC w k id j h d) (w.1.size+3)) (.cells fZ 157) _ Am).trans (Vw (Aa (((wC w k id j h d).alloc (.cells #[.int .i64 1,.int .i64 32] 154)).alloc (.cells #[.int .i64 0,.int .i64 400] 154)) #[Ai 138] 155) (.map (fE8 (w.1.size+3)) 8) _ Am)) (hf _)
 have l2d:Lk ((Aa (wM (wC w k id j h d) (w.1.size+3)) fZ 157).drew) (w.1.size+4) k (#[.string wd,.int .i64 s,.int .i64 t,.int .i64 p,.int .i64 o,.bool A,P (w.1.size+3)]) true:=Ef (Aa (wM (wC w k id j h d) (w.1.size+3)) fZ 157).drew (w.1.size+4) (fE8 (w.1.size+3)) 8 k _ _ ((YQ (wM (wC w k id j h d) (w.1.size+3)) (.cells fZ 157) _ Am).trans (Vw (Aa (((wC w k id j h d).alloc (.cells #[.int .i64 1,.int .i64 32] 154)).alloc (.cells #[.int .i64 0,.int .i64 400] 154)) #[Ai 138] 155) (.map (fE8 (w.1.size+3)) 8) _ Am)) (hf _);have s3:(wM (Aa (wC w k id j h d) fZ 157) (w.1.size+4)).cell? ⟨w.1.size,0,none⟩=some (.int .i64 k):=(((((((Blk.new w _ _).alloc _).alloc _).alloc _).alloc _).alloc _)).cell 0
 have l3:Lk (wM (Aa (wC w k id j h d) fZ 157) (w.1.size+4)) (w.1.size+5) k (#[.string wd,.int .i64 s,.int .i64 t,.int .i64 p,.int .i64 o,.bool A,P (w.1.size+4)]) true:=Ef (wM (Aa (wC w k id j h d) fZ 157) (w.1.size+4)) (w.1.size+5) (fE8 (w.1.size+4)) 8 k _ _ (Vw (Aa ((((wC w k id j h d).alloc (.cells fZ 157)).alloc (.cells #[.int .i64 1,.int .i64 32] 154)).alloc (.cells #[.int .i64 0,.int .i64 400] 154)) #[Ai 138] 155) (.map (fE8 (w.1.size+4)) 8) _ Am) (hf _)
 have l3d:Lk ((wM (Aa (wC w k id j h d) fZ 157) (w.1.size+4)).drew) (w.1.size+5) k (#[.string wd,.int .i64 s,.int .i64 t,.int .i64 p,.int .i64 o,.bool A,P (w.1.size+4)]) true:=Ef (wM (Aa (wC w k id j h d) fZ 157) (w.1.size+4)).drew (w.1.size+5) (fE8 (w.1.size+4)) 8 k _ _ (Vw (Aa ((((wC w k id j h d).alloc (.cells fZ 157)).alloc (.cells #[.int .i64 1,.int .i64 32] 154)).alloc (.cells #[.int .i64 0,.int .i64 400] 154)) #[Ai 138] 155) (.map (fE8 (w.1.size+4)) 8) _ Am) (hf _);have s5:(wM (Aa (wC w k id j h d) #[.string wd,.int .i64 s,.int .i64 t,.int .i64 p,.int .i64 o,.bool A,P (w.1.size+4)] 157) (w.1.size+4)).cell? ⟨w.1.size,0,none⟩=some (.int .i64 k):=((((((Blk.new w _ _).alloc _).alloc _).alloc _).alloc _).alloc _).cell 0
 have s6:(Aa (wM (wC w k id j h d) (w.1.size+3)) #[.string wd,.int .i64 s,.int .i64 t,.int .i64 p,.int .i64 o,.bool A,P (w.1.size+3)] 157).cell? ⟨w.1.size,0,none⟩=some (.int .i64 k):=((((((Blk.new w _ _).alloc _).alloc _).alloc _).alloc _).alloc _).cell 0;obtain ⟨R,hR⟩:=yG (Ie id s t p o A j h d);rw [hR];have HR:=Hd hR;have g3:=fun W a m=>run_store prog W a (P (w.1.size+3)) m (ho _)
 have g4:=fun W a m=>run_store prog W a (P (w.1.size+4)) m (ho _)
 clear hR hf;go_in;go_wp2_with fail
 go_upto_region 2 with (fail)
 go_cut [3,4] (fun v3 v4 wx=>∃ g,v3=Ag g 0/\v4=.bool true/\qZ w #[.int .i64 k,.int .i64 id,.string j,.string h,.string d] wd s t p o A g wx)
 case first=>
  go_region_held3 (fun w'=>w'.cell? ⟨w.1.size,0,none⟩=some (.int .i64 k)) (first|go_keep|exact s1|exact s3|exact s5|exact s6) ((go_at_call 96;refine (Nz _).mono ?_;rintro e w' ⟨rfl,rfl⟩;unfold fW))
  all_goals
   go_wp2_with fail
   go_meet
  all_goals
   first
    |exact ⟨_,rfl,rfl,zs _ _ _ _ _ _ _ _ _ _ _ _ _ _ rfl⟩
    |exact ⟨_,rfl,rfl,zr _ _ _ _ _ _ _ _ _ _ _ _ _ _ rfl⟩
 case rest=>
  clear l1 l1d l2 l2d l3 l3d s1 s3 s5 s6;obtain ⟨g,rfl,rfl,k1,⟨s0,k2⟩,k3,k4⟩:=hcut;obtain ⟨wx,rfl⟩:∃ x:Wd,x=wc:=⟨_,rfl⟩
  have L1:w.1.size<wx.1.size:=k1.lt;have L2:g<wx.1.size:=k2.lt;have a0:=k1.cell 0;have a1:=k1.cell 1;have a2:=k1.cell 2;have a3:=k1.cell 3;have a4:=k1.cell 4;have b0:=k2.cell 0;have b1:=k2.cell 1;have b2:=k2.cell 2;have b3:=k2.cell 3;have b4:=k2.cell 4;have b5:=k2.cell 5;have b6:=k2.cell 6;simp at a0 a1 a2 a3 a4 b0 b1 b2 b3 b4 b5 b6;have K1:=Hd k1;have K2:=Hd k2;have K3:=Hd k3;clear k1 k2 k3 k4;by_cases hi1:1<=id
  .by_cases hi2:id<=1099511627776
   .have H1:Aw (∀ W:Wd,Calls prog 97 #[.agg #[.int .i64 s,.int .i64 t],.string j] W (Ab W (.bool (Ml s t j)))):=Hd fun W=>Se s t j W
    have H2:Aw (∀ W:Wd,Calls prog 97 #[.agg #[.int .i64 p,.int .i64 o],.string h] W (Ab W (.bool (Ml p o h)))):=Hd fun W=>Se p o h W
    have Q:R=(Ml s t j&&Ml p o h&&(if A then Im d else decide (d.size=0))):=by rw [<-HR.o];simp [Ie,Y4,hi1,hi2]
    cases iR:Ml s t j with
    |false=>
     rw [iR] at H1;have dU:R=false:=by rw [Q,iR];rfl
     have U:=Hd dU;clear Q dU iR;go_wp2_with ((go_at_call 97;(with_reducible refine (H1.o _).mono ?_);rintro e w1 ⟨rfl,r⟩;have f:=K1.o.below r L1;have c:=K2.o.below r L2;have F:=f.cell 0;have y:=f.cell 1;have C:=f.cell 2;have v:=f.cell 3;have D:=f.cell 4;have G:=c.cell 0;have u:=c.cell 1;have B:=c.cell 2;have I:=c.cell 3;have H:=c.cell 4;have E:=c.cell 5;have z:=c.cell 6;simp at F y C v D G u B I H E z;have K:=f.lt;have M:=c.lt;have N:=Hd f;have L:=Hd c;have q:=Hd (U0 K3.o r K3.o.size);clear r f c));go_ret;exact ⟨by rw [U.o];rfl,q.o⟩
    |true=>
     rw [iR] at H1;cases fR:Ml p o h with
     |false=>
      rw [fR] at H2;have dU:R=false:=by rw [Q,iR,fR];rfl
      have U:=Hd dU;clear Q dU iR fR
      go_wp2_with (first|((go_at_call 97;(with_reducible refine (H1.o _).mono ?_);rintro e w1 ⟨rfl,r⟩;have f:=K1.o.below r L1;have c:=K2.o.below r L2;have F:=f.cell 0;have y:=f.cell 1;have C:=f.cell 2;have v:=f.cell 3;have D:=f.cell 4;have G:=c.cell 0;have u:=c.cell 1;have B:=c.cell 2;have I:=c.cell 3;have H:=c.cell 4;have E:=c.cell 5;have z:=c.cell 6;simp at F y C v D G u B I H E z;have K:=f.lt;have M:=c.lt;have N:=Hd f;have L:=Hd c;have q:=Hd (U0 K3.o r K3.o.size);clear r f c))|((go_at_call 97;(with_reducible refine (H2.o _).mono ?_);rintro e w2 ⟨rfl,J⟩;have n:=N.o.below J K;have l:=L.o.below J M;have X:=n.cell 0;have V:=n.cell 1;have da2:=n.cell 2;have Y:=n.cell 3;have da4:=n.cell 4;have db0:=l.cell 0;have db1:=l.cell 1;have Z:=l.cell 2;have S:=l.cell 3;have T:=l.cell 4;have db5:=l.cell 5;have db6:=l.cell 6;simp at X V da2 Y da4 db0 db1 Z S T db5 db6;have L12:=n.lt;have L22:=l.lt;have K12:=Hd n;have K22:=Hd l;have O:=Hd (U0 q.o J q.o.size);clear J n l)))
      go_ret;exact ⟨by rw [U.o];rfl,O.o⟩
     |true=>
      rw [fR] at H2;have dU:R=(if A then Im d else decide (d.size=0)):=by rw [Q,iR,fR];rfl
      clear Q iR fR;cases A with
      |true=>
       have U:=Hd (show R=Im d from dU);clear dU
       go_wp2_with (first|((go_at_call 97;(with_reducible refine (H1.o _).mono ?_);rintro e w1 ⟨rfl,r⟩;have f:=K1.o.below r L1;have c:=K2.o.below r L2;have F:=f.cell 0;have y:=f.cell 1;have C:=f.cell 2;have v:=f.cell 3;have D:=f.cell 4;have G:=c.cell 0;have u:=c.cell 1;have B:=c.cell 2;have I:=c.cell 3;have H:=c.cell 4;have E:=c.cell 5;have z:=c.cell 6;simp at F y C v D G u B I H E z;have K:=f.lt;have M:=c.lt;have N:=Hd f;have L:=Hd c;have q:=Hd (U0 K3.o r K3.o.size);clear r f c))|((go_at_call 97;(with_reducible refine (H2.o _).mono ?_);rintro e w2 ⟨rfl,J⟩;have n:=N.o.below J K;have l:=L.o.below J M;have X:=n.cell 0;have V:=n.cell 1;have da2:=n.cell 2;have Y:=n.cell 3;have da4:=n.cell 4;have db0:=l.cell 0;have db1:=l.cell 1;have Z:=l.cell 2;have S:=l.cell 3;have T:=l.cell 4;have db5:=l.cell 5;have db6:=l.cell 6;simp at X V da2 Y da4 db0 db1 Z S T db5 db6;have L12:=n.lt;have L22:=l.lt;have K12:=Hd n;have K22:=Hd l;have O:=Hd (U0 q.o J q.o.size);clear J n l))|(go_at_call 98;refine (L7 d _ hv).mono ?_;rintro e w3 ⟨rfl,aW⟩;have K33:=Hd (U0 O.o aW O.o.size);clear aW))
       go_ret;exact ⟨by rw [U.o];rfl,K33.o⟩
      |false=>
       have U:=Hd (show R=decide (d.toList=[]) from by rw [<-K6];exact dU);clear dU
       go_wp2_with (first|((go_at_call 97;(with_reducible refine (H1.o _).mono ?_);rintro e w1 ⟨rfl,r⟩;have f:=K1.o.below r L1;have c:=K2.o.below r L2;have F:=f.cell 0;have y:=f.cell 1;have C:=f.cell 2;have v:=f.cell 3;have D:=f.cell 4;have G:=c.cell 0;have u:=c.cell 1;have B:=c.cell 2;have I:=c.cell 3;have H:=c.cell 4;have E:=c.cell 5;have z:=c.cell 6;simp at F y C v D G u B I H E z;have K:=f.lt;have M:=c.lt;have N:=Hd f;have L:=Hd c;have q:=Hd (U0 K3.o r K3.o.size);clear r f c))|((go_at_call 97;(with_reducible refine (H2.o _).mono ?_);rintro e w2 ⟨rfl,J⟩;have n:=N.o.below J K;have l:=L.o.below J M;have X:=n.cell 0;have V:=n.cell 1;have da2:=n.cell 2;have Y:=n.cell 3;have da4:=n.cell 4;have db0:=l.cell 0;have db1:=l.cell 1;have Z:=l.cell 2;have S:=l.cell 3;have T:=l.cell 4;have db5:=l.cell 5;have db6:=l.cell 6;simp at X V da2 Y da4 db0 db1 Z S T db5 db6;have L12:=n.lt;have L22:=l.lt;have K12:=Hd n;have K22:=Hd l;have O:=Hd (U0 q.o J q.o.size);clear J n l)))
       all_goals
        go_ret;refine ⟨?_,O.o⟩;rw [U.o]
        first
         |(show Ending.returned (.bool true)=_;congr 2;simp_all;done)
         |(show Ending.returned (.bool false)=_;congr 2;simp_all;done)
         |(show Ending.returned (.bool d.toList.isEmpty)=_;rw [show d.toList.isEmpty=decide (d.toList=[]) from by cases d.toList<;>simp])
   .have Q:R=false:=by rw [<-HR.o];simp [Ie,Y4,hi2]
    have U:=Hd Q;clear Q;go_wp2;go_ret;exact ⟨by rw [U.o];rfl,K3.o⟩
  .have Q:R=false:=by rw [<-HR.o];simp only [Ie,Y4,hi1,UY,YM]
   have U:=Hd Q;clear Q;go_wp2;go_ret;exact ⟨by rw [U.o];rfl,K3.o⟩
end
section
open Go.RowKit
def Mq (g:Nat):List Value:=[Ag g 0,Ag g 1,Ag g 2,Ag g 3,Ag g 4,Ag g 5,Ag g 6,Ag g 7,Ag g 8,Ag g 9,Ag g 10,Ag g 11,Ag g 12,Ag g 13]
def Wy (g:Nat) (w:Wd):Calls prog 148 #[Ag g 0] w fun e w'=>e=.returned (.slice (Ah w.1.size 0) 14 14)/\w'=(Aa w (Mq g).toArray 208).drew:=by
 unfold Mq;go_in;go_wp2_with fail
 go_region_held3 (fun _=>True) (trivial) (fail)
 all_goals
  go_wp2;go_ret;exact ⟨rfl,rfl⟩
end
section
open Go.RowKit
def rK:(prog.info? 208).map (fun i=>(i.zero,i.size,i.bytes))=some (some (.pointer none),1,8):=Ak
def dV (id:Int):List Value:=[.int .i64 id,.int .i64 3,.int .i64 0,.int .i64 8,.int .i64 0,.int .i64 0,.int .i64 1,.int .i64 128,.int .i64 2,.int .i64 0,.int .i64 0,.int .i64 0,.int .i64 0,.int .i64 0,.bool false,.int .i64 0,.string ⟨#[]⟩,.string ⟨#[]⟩,.int .i64 0,.int .i64 0,.bool false]
def aV (id:Int):List Value:=dV id++[.int .i64 4,.slice none 0 0]
structure AV (id:Int) (w W:Wd):Prop where
 b1:Blk W w.1.size 129 (aV id).toArray
 b2:Blk W (w.1.size+1) 34 (dV id).toArray
 own:W.ownsRow (w.1.size+2) 208 1 (.slice (Ah (w.1.size+2) 0) 14 14) 14 (Mq (w.1.size+1))
 sz:W.1.size=w.1.size+3
 be:Below w.1.size w W
def X6 (X:Wd) (b:Nat) (h:b=X.1.size) (a cs:Array Value) (t:TypeId):(X.alloc (.cells a t)).setRow b cs=X.alloc (.cells cs t):=by
 subst h;exact World.setRow_alloc_new X a cs t
def Mi (A B:Nat):List Value:=[Ag B 15,Ag B 18,Ag B 19,Ag A 21]
def Cj (A B:Nat) (W:Wd):Rd (Aa W (Mi A B).toArray 208) (W.1.size+1) 1 (Ah W.1.size 0) 4 (Mi A B):=by
 refine ⟨rfl,fun _=>⟨W.1.size,0,rfl,Oo,fun j u a=>?_⟩⟩;rw [(Blk.new W 208 (Mi A B).toArray).cell,QB,Ga];exact a
end
section
open Go.RowKit
def qe (k:Int) (h:k<0\/7<k) (b:Nat):Instr.findNow (.int .i64) (.int .i64 k) (fE8 b).toList 0=some none:=by
 have f:=MapKept.findNow_spec (d:=.int .i64) (k:=.int .i64 k) (by simp [MapKept.IsKey]) (fE8 b).toList 0 (by simp [fE8,fE7,fE6,fE5,fE4,fE3,fE2,fE1,MapKept.IsKey]);rcases f with ⟨g,_⟩|⟨j,e,_,c,i⟩
 .exact g
 .exfalso;have a:=QJ c;simp [fE8,fE7,fE6,fE5,fE4,fE3,fE2,fE1] at a;rcases a with rfl|rfl|rfl|rfl|rfl|rfl|rfl|rfl<;>(simp at i;omega)
def PT (k id:Int) (b c a:Bz) (w:Wd) (l:k<0\/7<k):
  Calls prog 62 #[.agg #[.int .i64 k,.int .i64 id,.string b,.string c,.string a]] w (Ab w (.bool false)):=by
 have d:=qe k l;clear l;have o:(wM (wC w k id b c a) (w.1.size+3)).cell? ⟨w.1.size,0,none⟩=some (.int .i64 k):=((((((Blk.new w _ _).alloc _).alloc _).alloc _).alloc _)).cell 0;have z:Lk (wM (wC w k id b c a) (w.1.size+3)) (w.1.size+4) k fZ false:=Ig (wM (wC w k id b c a) (w.1.size+3)) (w.1.size+4) (fE8 (w.1.size+3)) 8 k (Vw (Aa (((wC w k id b c a).alloc (.cells #[.int .i64 1,.int .i64 32] 154)).alloc (.cells #[.int .i64 0,.int .i64 400] 154)) #[Ai 138] 155) (.map (fE8 (w.1.size+3)) 8) _ Am) (d _)
 have h:Lk ((wM (wC w k id b c a) (w.1.size+3)).drew) (w.1.size+4) k fZ false:=Ig (wM (wC w k id b c a) (w.1.size+3)).drew (w.1.size+4) (fE8 (w.1.size+3)) 8 k (Vw (Aa (((wC w k id b c a).alloc (.cells #[.int .i64 1,.int .i64 32] 154)).alloc (.cells #[.int .i64 0,.int .i64 400] 154)) #[Ai 138] 155) (.map (fE8 (w.1.size+3)) 8) _ Am) (d _)
 have A:Lk (Aa (wM (wC w k id b c a) (w.1.size+3)) fZ 157) (w.1.size+4) k fZ false:=Ig (Aa (wM (wC w k id b c a) (w.1.size+3)) fZ 157) (w.1.size+4) (fE8 (w.1.size+3)) 8 k ((YQ (wM (wC w k id b c a) (w.1.size+3)) (.cells fZ 157) _ Am).trans (Vw (Aa (((wC w k id b c a).alloc (.cells #[.int .i64 1,.int .i64 32] 154)).alloc (.cells #[.int .i64 0,.int .i64 400] 154)) #[Ai 138] 155) (.map (fE8 (w.1.size+3)) 8) _ Am)) (d _)
 have f:Lk ((Aa (wM (wC w k id b c a) (w.1.size+3)) fZ 157).drew) (w.1.size+4) k fZ false:=Ig (Aa (wM (wC w k id b c a) (w.1.size+3)) fZ 157).drew (w.1.size+4) (fE8 (w.1.size+3)) 8 k ((YQ (wM (wC w k id b c a) (w.1.size+3)) (.cells fZ 157) _ Am).trans (Vw (Aa (((wC w k id b c a).alloc (.cells #[.int .i64 1,.int .i64 32] 154)).alloc (.cells #[.int .i64 0,.int .i64 400] 154)) #[Ai 138] 155) (.map (fE8 (w.1.size+3)) 8) _ Am)) (d _);have p:(wM (Aa (wC w k id b c a) fZ 157) (w.1.size+4)).cell? ⟨w.1.size,0,none⟩=some (.int .i64 k):=(((((((Blk.new w _ _).alloc _).alloc _).alloc _).alloc _).alloc _)).cell 0
 have u:Lk (wM (Aa (wC w k id b c a) fZ 157) (w.1.size+4)) (w.1.size+5) k fZ false:=Ig (wM (Aa (wC w k id b c a) fZ 157) (w.1.size+4)) (w.1.size+5) (fE8 (w.1.size+4)) 8 k (Vw (Aa ((((wC w k id b c a).alloc (.cells fZ 157)).alloc (.cells #[.int .i64 1,.int .i64 32] 154)).alloc (.cells #[.int .i64 0,.int .i64 400] 154)) #[Ai 138] 155) (.map (fE8 (w.1.size+4)) 8) _ Am) (d _)
 have i:Lk ((wM (Aa (wC w k id b c a) fZ 157) (w.1.size+4)).drew) (w.1.size+5) k fZ false:=Ig (wM (Aa (wC w k id b c a) fZ 157) (w.1.size+4)).drew (w.1.size+5) (fE8 (w.1.size+4)) 8 k (Vw (Aa ((((wC w k id b c a).alloc (.cells fZ 157)).alloc (.cells #[.int .i64 1,.int .i64 32] 154)).alloc (.cells #[.int .i64 0,.int .i64 400] 154)) #[Ai 138] 155) (.map (fE8 (w.1.size+4)) 8) _ Am) (d _);have q:(wM (Aa (wC w k id b c a) fZ 157) (w.1.size+4)).cell? ⟨w.1.size,0,none⟩=some (.int .i64 k):=((((((Blk.new w _ _).alloc _).alloc _).alloc _).alloc _).alloc _).cell 0;have j:(Aa (wM (wC w k id b c a) (w.1.size+3)) fZ 157).cell? ⟨w.1.size,0,none⟩=some (.int .i64 k):=((((((Blk.new w _ _).alloc _).alloc _).alloc _).alloc _).alloc _).cell 0
 clear d;go_in;go_wp2_with fail
 go_upto_region 2 with (fail)
 go_cut [3,4] (fun s v n=>∃ g,s=Ag g 0/\v=.bool false/\qZ w #[.int .i64 k,.int .i64 id,.string b,.string c,.string a] ⟨#[]⟩ 0 0 0 0 false g n)
 case first=>
  go_region_held3 (fun w'=>w'.cell? ⟨w.1.size,0,none⟩=some (.int .i64 k)) (first|go_keep|exact o|exact p|exact q|exact j) ((go_at_call 96;refine (Nz _).mono ?_;rintro e w' ⟨rfl,rfl⟩;unfold fW))
  all_goals
   go_wp2_with fail
   go_meet
  all_goals
   first
    |exact ⟨_,rfl,rfl,zs _ _ _ _ _ _ _ _ _ _ _ _ _ _ rfl⟩
    |exact ⟨_,rfl,rfl,zr _ _ _ _ _ _ _ _ _ _ _ _ _ _ rfl⟩
 case rest=>
  clear z h A f u i o p q j;obtain ⟨g,rfl,rfl,r,⟨C,y⟩,m,B⟩:=hcut;obtain ⟨n,rfl⟩:∃ x:Wd,x=wc:=⟨_,rfl⟩
  have t:=Hd m;clear r y m B;go_wp2;go_ret;exact ⟨rfl,t.o⟩
def chB (k id:Int) (a b c:Bz):Bool:=
 if k=0 then Ie id 1 32 1 200 false a b c
 else if k=1 then Ie id 1 32 0 0 false a b c
 else if k=2 then Ie id 0 0 0 1000 false a b c
 else if k=3 then Ie id 0 0 0 0 false a b c
 else if k=4 then Ie id 0 0 0 400 true a b c
 else if k=5 then Ie id 0 0 0 0 true a b c
 else if k=6 then Ie id 0 0 0 400 true a b c
 else if k=7 then Ie id 0 0 0 400 true a b c
 else false
def GV (k id:Int) (c d a:Bz) (w:Wd) (f:a.size<=maxLen):
  Calls prog 62 #[.agg #[.int .i64 k,.int .i64 id,.string c,.string d,.string a]] w (Ab w (.bool (chB k id c d a))):=by
 by_cases n:k=0
 .subst n;exact Yq 0 id c d a w _ 1 32 1 200 false (fun _=>0) (fun b=>.func (.func 141) #[] #[Ag b 0]) (fun _=>rfl) (fun b=>rfl) f
 by_cases j:k=1
 .subst j;exact Yq 1 id c d a w _ 1 32 0 0 false (fun _=>1) (fun _=>(Ai 143)) (fun _=>rfl) (fun b=>rfl) f
 by_cases h:k=2
 .subst h;exact Yq 2 id c d a w _ 0 0 0 1000 false (fun _=>2) (fun _=>(Ai 138)) (fun _=>rfl) (fun b=>rfl) f
 by_cases o:k=3
 .subst o;exact Yq 3 id c d a w _ 0 0 0 0 false (fun _=>3) (fun _=>.nilFunc) (fun _=>rfl) (fun b=>rfl) f
 by_cases i:k=4
 .subst i;exact Yq 4 id c d a w _ 0 0 0 400 true (fun _=>4) (fun _=>(Ai 140)) (fun _=>rfl) (fun b=>rfl) f
 by_cases m:k=5
 .subst m;exact Yq 5 id c d a w _ 0 0 0 0 true (fun _=>5) (fun _=>(Ai 140)) (fun _=>rfl) (fun b=>rfl) f
 by_cases g:k=6
 .subst g;exact Yq 6 id c d a w _ 0 0 0 400 true (fun _=>6) (fun _=>(Ai 140)) (fun _=>rfl) (fun b=>rfl) f
 by_cases l:k=7
 .subst l;exact Yq 7 id c d a w _ 0 0 0 400 true (fun _=>7) (fun _=>(Ai 140)) (fun _=>rfl) (fun b=>rfl) f
 have e:chB k id c d a=false:=by
  unfold chB;rw [QX n,QX j,QX h,QX o,QX i,QX m,QX g,QX l]
 rw [e];exact PT k id c d a w Oo
end
section
open Go.RowKit
variable {id:Int} {w W:Wd}
section
variable {P:Program} {ops:Array Oper} {rest:List Oper} {o:Oper} {a:Act} {w:Wd} {Q:Exit->Act->Wd->Prop}
def Yl (hw:Region.wanted o (yielded ops a.tmps)=true) (h:∀ K:Act->Wd->Prop,(∀ a w,wpList P ops Q rest a w->K a w)->o.wp P a w K Q):wpList P ops Q (o::rest) a w:=
 wpList_step fun K b=>by simp only [hw,VY];exact h K b
def Up (hw:Region.wanted o (yielded ops a.tmps)=true) (ty:TypeId) (x:Operand) (e:o.op=.load ty x)
  (g:Nat) (l:a.eval x=(Ag g 0)) (t:TypeId) (cs:Array Value) (b:Nat×Nat) (d:TypeDesc) (i:w.1[g]? =some (.cells cs t b))
  (j:P.underlying ty=some d) (c:(match d with | .struct _ | .array _ _=>true|_=>false)=true) (k:(P.info? ty).map (·.size)=some cs.size)
  (h:wpList P ops Q rest (a.put o.dst (.agg cs)) w):wpList P ops Q (o::rest) a w:=
 Yl hw fun _ f=>wp_load_row ty x e g l t cs b d i j c k (f _ _ h)
def U1 (hw:Region.wanted o (yielded ops a.tmps)=true) (t:TypeId) (b:Array (Nat×Operand)) (e:o.op=.build t b)
  (c:Array Value) (d:P.built t (b.map fun (i,x)=>(i,a.eval x)).toList=some c)
  (h:wpList P ops Q rest (a.put o.dst (.agg c)) w):wpList P ops Q (o::rest) a w:=
 Yl hw fun _ f=>by
  unfold Oper.wp execOp;simp only [e,ZG,run_build w t _ _ d,XB];exact f _ _ h
end
structure FV (id:Int) (w W:Wd):Prop where
 b1:Blk W w.1.size 37 (aV id).toArray
 b2:Blk W (w.1.size+1) 34 (dV id).toArray
 sz:w.1.size+2<=W.1.size
 be:Below w.1.size w W
end
section
open Go.RowKit
variable {w:Wd} {b:Nat} {v:List Value} {B:Nat}
def zV:List Value:=[.int .i64 0,.int .i64 0,.int .i64 0,.int .i64 0,.int .i64 0,.int .i64 0,.int .i64 0,.int .i64 0,.int .i64 0,.int .i64 0,.int .i64 0,.int .i64 0,.int .i64 0,.int .i64 0,.bool false,.int .i64 0,.string ⟨#[]⟩,.string ⟨#[]⟩,.int .i64 0,.int .i64 0,.bool false,.int .i64 0,.slice none 0 0]
def Ik:zV.toArray.all (·.oneCell')=true:=by simp [zV,Value.oneCell']
def stE (v:List Value):Array MapEntry:=#[⟨.int .i64 200,.agg v.toArray,0⟩]
def St (w:Wd) (b:Nat) (v:List Value):Prop:=w.1[b]? =some (.map (stE v) 1)
def St.lt (h:St w b v):b<w.1.size:=by
 rcases ZW b w.1.size with c|a
 .exact c
 .unfold St at h;rw [XH a] at h;cases h
def St.below {w':Wd} (h:St w b v) (c:Below B w w') (a:b<B):St w' b v:=(c.block b a).trans h
def St.alloc (h:St w b v) (o:Obj):St (w.alloc o) b v:=(YQ w o b h.lt).trans h
structure BV (w W:Wd):Prop where
 b1:W.1[w.1.size]? =some (.map #[] 0)
 b2:Blk W (w.1.size+1) 37 (aV 200).toArray
 sz:w.1.size+3<=W.1.size
 be:Below w.1.size w W
end
section
open Go.RowKit
def Vl:(prog.info? 74).map (fun i=>(i.zero,i.size,i.bytes))=some (some (.agg #[.string ⟨#[]⟩,.string ⟨#[]⟩]),2,32):=Ak
def B5 (w:Wd):Calls prog 28 #[.slice none 0 0] w (Ae w (.slice none 0 0)):=by
 have d:∀ (w:Wd) (a:Option Addr) (n c b c':Nat),(binOp .eql 35 (.slice a n c) (.slice none b c')).run prog w=.ok (.bool a.isNone) w:=fun w a n c b c'=>KA w _ _ a n c b c' underlying35
 go_wp2;go_ret;exact ⟨rfl,rfl⟩
structure DV (id:Int) (w W:Wd):Prop where
 b1:Blk W w.1.size 34 (dV id).toArray
 sz:w.1.size+1<=W.1.size
 be:Below w.1.size w W
end
section
open Go.RowKit
def ef1:Array MapEntry:=#[⟨.int .i64 0,Ai 209,0⟩]
def ef2:Array MapEntry:=ef1.push ⟨.int .i64 1,Ai 213,1⟩
def ef3:Array MapEntry:=ef2.push ⟨.int .i64 2,Ai 216,2⟩
def ef4:Array MapEntry:=ef3.push ⟨.int .i64 3,Ai 218,3⟩
def FU (w:Wd) (b:Array MapEntry) (c:Nat) (a:Int) (val:Value) (e:Instr.findNow (.int .i64) (.int .i64 a) b.toList 0=some none):
  (Instr.mapUpdate 222 (.map (some w.1.size)) (.int .i64 a) val).run prog (w.alloc (.map b c))=.ok () (w.alloc (.map (b.push ⟨.int .i64 a,val,c⟩) (c+1))):=by
 have d:(w.alloc (.map b c)).1[w.1.size]? =some (.map b c):=YH w _;have g:(Instr.checkKey false 10000 3 (.int .i64 a)).run prog (w.alloc (.map b c))=.ok () (w.alloc (.map b c)):=YL (k:=.int .i64 a) underlying3 (by simp [MapKept.IsKey]) false 9999
 have f:({ w.alloc (.map b c) with heap:=(w.alloc (.map b c)).heap.setIfInBounds w.1.size (.map (b.push ⟨.int .i64 a,val,c⟩) (c+1)) }:Wd)=w.alloc (.map (b.push ⟨.int .i64 a,val,c⟩) (c+1)):=by
  unfold World.alloc;simp only [LQ]
 simp [Instr.mapUpdate,WN underlying222,WV d,g,XE underlying3 e,YS _ d,Result.andThen];exact f
def GR (w:Wd):Calls prog 165 #[] w fun e w'=>e=.returned (.map (some w.1.size))/\w.alloc (.map ef4 4)=w':=by
 have d:=@run_makeMap prog;have a:=FU w #[] 0 0 (Ai 209) rfl;have b:=FU w ef1 1 1 (Ai 213) rfl;have f:=FU w ef2 2 2 (Ai 216) rfl;have c:=FU w ef3 3 3 (Ai 218) rfl;rw [show (#[]:Array MapEntry).push ⟨.int .i64 0,Ai 209,0⟩=ef1 from rfl] at a;rw [show ef1.push ⟨.int .i64 1,Ai 213,1⟩=ef2 from rfl] at b;rw [show ef2.push ⟨.int .i64 2,Ai 216,2⟩=ef3 from rfl] at f;rw [show ef3.push ⟨.int .i64 3,Ai 218,3⟩=ef4 from rfl] at c;go_wp2;go_ret;exact ⟨rfl,rfl⟩
structure PV (w W:Wd):Prop where
 b1:Blk W w.1.size 34 (dV 200).toArray
 b2:Blk W (w.1.size+1) 50 #[.int .i64 0,.int .i64 200,.string ⟨#[107]⟩,.string ⟨#[107,49]⟩,.string ⟨#[]⟩]
 b3:Blk W (w.1.size+2) 74 #[.string ⟨#[107]⟩,.string ⟨#[107,49]⟩]
 sz:w.1.size+3<=W.1.size
 be:Below w.1.size w W
end
end Go.Proofs.YtdleakjejodjjaaGreatDoor
