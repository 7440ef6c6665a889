/- Of the history laws. -/
import Derived.Test.YtdleakjejodjjaaGreatDoorSAP
import Derived.Test.YtdleakjejodjjaaGreatDoorSAK
import Derived.Lib.SmallJoins
import Derived.Lib.AppendIntMem
import Derived.Test.YtdleakjejodjjaaGreatDoorSAO
namespace Go.Proofs.YtdleakjejodjjaaGreatDoor
open Tryz
set_option linter.defProp false
set_option linter.unusedVariables false
set_option linter.unusedSimpArgs false
set_option maxRecDepth 100000
set_option maxHeartbeats 20000000
open Go.RowKit
def EU (s:Bz):Bool:=Uw s&&!(decide (0<=Lib.indexByte s.data.toList 46))
def I6 (s:Bz) (w:Wd) (g:s.size<=maxLen) (d:Mx w):Calls prog 263 #[.string s] w (Ab w (.bool (EU s))):=by
 have f:=Hd (Yo s w g d);have h:Aw (∀ W,Calls prog 344 #[.string s,.string ⟨#[46]⟩] W fun e w'=>e=.returned (.bool (decide (0<=Lib.indexByte s.data.toList 46)))/\w'=W):=Hd fun W=>strings_Contains_one s 46 W
 unfold EU;obtain ⟨v,a⟩:=yG (Uw s);obtain ⟨c,b⟩:=yG (decide (0<=Lib.indexByte s.data.toList 46));rw [a] at f;simp only [b] at h;rw [a,b];clear d g a b;cases v
 all_goals
  go_in;go_wp2_with (first|(go_at_call 253;refine yN f fun j i=>?_)|(go_at_call 344;refine yF (h _) ?_));go_ret;exact ⟨Am,i⟩
def Tab (w:Wd):Prop:=Lib.TabIs prog w "internal/strconv.uint64pow10" .u64 Lib.pow10Tab
def j7:prog.globalNamed "internal/strconv.uint64pow10" = some 0:=Ak
def Tab.below {w w':Wd} {B:Nat} (h:Tab w) (b:Below B w w') (a:w.1.size<=B):Tab w':=Joins.tab_stays j7 h b a
def Tab.after {w w':Wd} (h:Tab w) (a:Below w.1.size w w'):Tab w':=h.below a (Le _)
def qA {n:Nat} (h:¬ n<10):Lib.decDigits n=Lib.decDigits (n / 10)++[UInt8.ofNat (48+n % 10)]:=by rw [Lib.decDigits,dif_neg h]
def PN:∀ (k n:Nat),n<10 ^ (k+1)->1<=(Lib.decDigits n).length/\(Lib.decDigits n).length<=k+1
 |0,n,h=>by rw [Lib.decDigits_one Oo];simp
 |k+1,n,h=>by
  by_cases a:n<10
  .rw [Lib.decDigits_one a];simp
  .rw [qA a,WW];have:=PN k (n / 10) (by rw [Nat.pow_succ] at h;omega);simp;omega
def BZ (n:Int) (f : -1000000<=n) (d:n<=1000000) (w:Wd) (b:Tab w):
  Calls prog 139 #[.int .i64 n] w fun e w'=>(∃ t:Bz,e=.returned (.string t)/\1<=t.size/\t.size<=1000)/\Below w.1.size w w':=by
 have c:=PN 9 n.toNat Oo;have g:=PN 9 n.natAbs Oo
 have hz:1<=(⟨(Lib.itoa n).toArray⟩:Bz).size/\(⟨(Lib.itoa n).toArray⟩:Bz).size<=1000:=by
  show 1<=(Lib.itoa n).toArray.size/\(Lib.itoa n).toArray.size<=1000;rw [YZ,Lib.itoa];split
  .rw [QS];omega
  .omega
 exact (strconv_Itoa n Oo Oo w b).mono fun _ _ ⟨he,k,a,hw⟩=>⟨⟨_,he,hz.1,hz.2⟩,by rw [hw];exact Lib.below_grow _ _ (Le _) k a⟩
def vL (n:Int) (i : -100000<=n) (h:n<=100000) (w:Wd) (a:Tab w):Calls prog 399 #[.int .i64 n] w fun e w'=>(∃ t:Bz,e=.returned (.string t)/\t.size<=1000)/\Below w.1.size w w':=by
 have d:=Hd (BZ (n+100) Oo Oo w a);clear a;go_in;go_wp2_with (go_at_call 139;refine d.mono ?_;rintro e f ⟨⟨t,rfl,j,g⟩,b⟩;have c:=Hd b;clear b);go_ret;exact ⟨⟨_,rfl,As⟩,c⟩
def mF (n:Int) (w:Wd) (e:Ending) (w':Wd):Prop:=(∃ t:Bz,e=.returned (.string t)/\(t.size=0<->YD n=false))/\Below w.1.size w w'
def Wx (n:Int) (w:Wd) (g:Tab w):Calls prog 377 #[.int .i64 n] w (mF n w):=by
 have f:Aw (∀ W,Calls prog 397 #[.int .i64 n] W (Ae W (.bool (YD n)))):=Hd fun W=>Nv n W
 unfold mF;cases hz:YD n with
 |false=>
  simp only [hz] at f;clear g;go_in;go_wp2_with (go_at_call 397;refine yE (f _) ?_);go_ret;exact ⟨⟨_,rfl,⟨fun _=>trivial,fun _=>rfl⟩⟩,Bf _ _⟩
 |true=>
  simp only [hz] at f;have i:=Hd (uh n w hz);have p:=Hd BZ;have j:=Hd vL;have q:=Hd g;clear g hz;go_in
  go_wp2_with (first|(go_at_call 397;refine yE (f _) ?_)|(go_at_call 398;refine i.mono ?_;rintro e r ⟨⟨y,m,d,rfl,D,u,B,C,z,v⟩,a⟩;have b:=Hd a;have c:=Hd (q.after a);clear a)|(go_at_call 139;refine (p y Oo Oo _ c).mono ?_;rintro e k ⟨⟨t,rfl,x,A⟩,a⟩;have c:=Hd (c.after a);have b:=Hd (U0 b a b.size);clear a)|(go_at_call 399;(with_reducible show Calls _ _ #[.int .i64 m] _ _);refine (j m Oo Oo _ c).mono ?_;rintro e k ⟨⟨s,rfl,l⟩,a⟩;have c:=Hd (c.after a);have b:=Hd (U0 b a b.size);clear a)|(go_at_call 399;(with_reducible show Calls _ _ #[.int .i64 d] _ _);refine (j d Oo Oo _ c).mono ?_;rintro e k ⟨⟨t3,rfl,o⟩,a⟩;have c:=Hd (c.after a);have b:=Hd (U0 b a b.size);clear a));go_ret
  exact ⟨⟨_,rfl,⟨fun h=>by simp only [QY] at h;omega,fun h=>by cases h⟩⟩,b⟩
def ug (n:Int) (w:Wd) (f:Tab w):Calls prog 376 #[.int .i64 n] w (Ab w (.bool (!YD n))):=by
 have c:=Hd (Wx n w f);clear f;obtain ⟨z,hz⟩:=yG (YD n);unfold mF at c;rw [hz] at c ⊢;clear hz;cases z with
 |false=>
  go_in;go_wp2_with (go_at_call 377;refine c.mono ?_;rintro e g ⟨⟨t,rfl,a⟩,b⟩;obtain rfl:=Fa (a.2 rfl);have d:=Hd b;clear b a);go_ret;exact ⟨Af,d⟩
 |true=>
  go_in;go_wp2_with (go_at_call 377;refine c.mono ?_;rintro e g ⟨⟨t,rfl,a⟩,b⟩;have d:=Hd b;have i:t.toList≠[]:=(fun h=>by have j:=a.1 ((nil_iff t).2 h);cases j);have k:(t.toList == ([]:List UInt8))=false:=JV.2 i;clear b a);go_ret;exact ⟨Am,d⟩
def OR (l:List Int):Bool := !(l.any fun n => !YD n)
def OO (A:Option Addr) (n c:Nat) (l:List Int) (w:Wd) (b:Sl Xg 1 w w.1.size A n c l) (hn:n<=1000) (a:Tab w):
  Calls prog 336 #[.slice A n c] w (Ab w (.bool (OR l))):=by
 have d:=Hd (u6 (fun n => !YD n) A n c l w b Oo fun x _ W f=>ug x W (a.after f));unfold OR;generalize l.any (fun n => !YD n)=z at d;clear b hn a;go_in;go_wp2_with (go_at_call 375;refine yN d.o fun g e=>?_);go_ret;exact ⟨rfl,e.o⟩
def T8 (w:Wd) (e:Ending) (w':Wd):Prop:=(∃ b,e=.returned (.bool b))/\w=w'
def BoolG (w:Wd) (e:Ending) (w':Wd):Prop:=(∃ b,e=.returned (.bool b))/\Below w.1.size w w'
def zD (z:Int) (w:Wd):Calls prog 349 #[.int .u8 z] w (T8 w):=by
 have a:=Hd fun W=>Gf z W
 generalize upB z=u at a;cases u
 all_goals
  go_in;go_wp2_with (go_at_call 333;refine yE (a.o _) ?_);go_ret;exact ⟨⟨_,rfl⟩,rfl⟩
def CX (z:Int) (w:Wd):Calls prog 351 #[.int .u8 z] w (T8 w):=by
 have a:=Hd fun W=>No z W
 generalize plB z=u at a;cases u
 all_goals
  go_in;go_wp2_with (go_at_call 334;refine yE (a.o _) ?_);go_ret;exact ⟨⟨_,rfl⟩,rfl⟩
def DD (s:Bz) (w:Wd) (b:s.size<=maxLen):Calls prog 332 #[.string s,Ai 349,Ai 351] w (T8 w):=by
 unfold maxLen at b;have d:=Hd zD;have c:=Hd CX;by_cases g:s.size<1
 .go_wp2;go_ret;exact ⟨⟨_,rfl⟩,rfl⟩
 .by_cases h8:8<s.size
  .go_wp2;go_ret;exact ⟨⟨_,rfl⟩,rfl⟩
  .have cU:0<s.size:=Oo
   go_in;go_wp2_with (go_at_call 349;refine (d.o _ _).mono ?_;rintro e a ⟨⟨u,rfl⟩,rfl⟩;cases u)
   .go_ret;exact ⟨⟨_,rfl⟩,rfl⟩
   .go_loop [7] (fun i=>∃ j:Nat,1<=j/\j<=s.size/\i=.int .i64 j) (fun i=>s.size-(intOf i).toNat)
    .exact ⟨1,Le _,Oo,rfl⟩
    .obtain ⟨j,j1,hj,rfl⟩:=hrel;by_cases f:j<s.size
     .go_wp2_with (go_at_call 351;refine (c.o _ _).mono ?_;rintro e a ⟨⟨u,rfl⟩,rfl⟩;cases u)
      .go_ret;exact ⟨⟨_,rfl⟩,rfl⟩
      .go_round
       .exact ⟨j+1,Oo,Oo,Au⟩
       .exact At
     .obtain rfl:j=s.size:=Oo
      go_wp2;go_ret;exact ⟨⟨_,rfl⟩,rfl⟩
def yY (s:Bz) (h:Nat) (w:Wd) (c:s.size<4294967281) (a:Mx w) (i:w.cell? ⟨h,0,none⟩=some (Ai 349)):
  Calls prog 350 #[.string s,Ag h 0] w (T8 w):=by
 have d:=Hd (DD s w (by unfold maxLen;omega));obtain ⟨m,a⟩:=a;have b:=Hd (strings_Contains s ⟨#[42,42]⟩ m w c a);generalize Lib.contains s.data.toList (⟨#[42,42]⟩:Bz).data.toList=z at b;obtain ⟨q,g⟩:=yG (s.toList == [42,42]);clear a;cases q
 .go_in;go_wp2_with (first|(go_at_call 332;refine d.o.mono ?_;rintro e f ⟨⟨u,rfl⟩,rfl⟩;cases u)|(go_at_call 344;refine yF b.o ?_))
  all_goals
   go_ret;exact ⟨⟨_,rfl⟩,rfl⟩
 .go_wp2;go_ret;exact ⟨⟨_,rfl⟩,rfl⟩
def uF (s:Bz) (h:Nat) (w:Wd) (H:s.size<=maxLen) (a:Mx w) (d:w.cell? ⟨h,0,none⟩=some (Ai 349)):
  Calls prog 330 #[.string s,.int .i64 31,.func (.func 350) #[] #[Ag h 0]] w (BoolG w):=by
 unfold maxLen at H;by_cases L:s.size<1
 .clear a d;go_wp2;go_ret;exact ⟨⟨_,rfl⟩,Bf _ _⟩
 .by_cases h31:31<s.size
  .clear a d;go_wp2;go_ret;exact ⟨⟨_,rfl⟩,Bf _ _⟩
  .have hmx:=a;obtain ⟨m,a⟩:=a;have t:=Hd (strings_Split s dot m w Oo a Ac);have c:=Hd (NZ w s);have C:Aw (∀ q∈pcs s,∀ W,Below w.1.size w W->Calls prog 350 #[.string q,Ag h 0] W (T8 W)):=Hd fun q F W g=>yY q h W (by have:=FH F;omega) (hmx.after g) ((g.cell (p:=⟨h,0,none⟩) (Kd d)).trans d)
   have I:=Ed s;obtain ⟨n,hn⟩:=yG (Lib.countB s dot+1);have B:Lib.splitB dot 0 (Lib.countB s dot) s=pcs s:=rfl;simp only [B,hn] at t c;have J:n<=32:=Oo
   clear a hmx d B hn I;generalize pcs s=l at t c C;obtain ⟨v,r⟩:=yG (Aa w (l.map Value.string).toArray 9);have A:Below w.1.size w v:=by rw [<-r];exact Aj
   have z:w.1.size+1=v.1.size:=by rw [<-r];simp
   have y:=Hd A;simp only [r] at t c;rw [z] at c;have K:=Hd z;clear r A z;go_in;go_wp2_with (go_at_call 337;refine yP t.o fun w' hw=>?_;rw [hw];clear hw w');go_loopw [21] (fun i wr=>∃ j:Nat,j<=n/\i=.int .i64 j/\wr=v) (fun i _=>n-(intOf i).toNat)
   .exact ⟨0,Z0 _,rfl,rfl⟩
   .obtain ⟨j,hj,rfl,rfl⟩:=hrel;by_cases D:j<n
    .obtain ⟨b,o,x,gE,g,hg,aB⟩:=Sl.cell (f:=Ug) (k:=1) (fun _=>rfl) c.o D;injection gE with gE
     injection gE with e1 e2
     subst e1 e2;have G:=aB 0 _ rfl;simp only [QF,QB,WY] at G;have E:=Hd (C.o x (QJ hg) wr y.o);clear hg aB g;go_wp2_with (go_at_call 350;refine E.o.mono ?_;rintro e w' ⟨⟨u,rfl⟩,rfl⟩;cases u)
     .go_ret;exact ⟨⟨_,rfl⟩,y.o⟩
     .go_roundw
      .exact ⟨j+1,Oo,Au,trivial⟩
      .exact At
    .obtain rfl:j=n:=Oo
     go_wp2;go_ret;exact ⟨⟨_,rfl⟩,y.o⟩
def RG (s:Bz) (w:Wd) (g:s.size<=maxLen) (c:Mx w):Calls prog 273 #[.string s] w (BoolG w):=by
 have a:Below w.1.size w (Aa w #[Ai 349] 353):=Aj;have i:=Hd (uF s w.1.size _ g (c.after a) (((Blk.new w 353 #[Ai 349]).cell 0).trans rfl));have d:=Hd a;clear g c a;go_in;go_wp2_with (go_at_call 330;refine i.o.mono ?_;rintro e j ⟨⟨b,rfl⟩,f⟩;have h:=Hd f;clear f);go_ret;exact ⟨⟨_,rfl⟩,U0 d.o h.o d.o.size⟩
section
variable {w:Wd} {e:En} {a:EnA} {W:Wd}
def Zs (l:List Int) (j:Nat):Bool:=decide (1<=l.getD j 0)&&decide (l.getD j 0<=1099511627776)&&(decide (j=0) || decide (l.getD (j-1) 0<l.getD j 0))
def Jr (l:List Int):Bool:=(List.range l.length).all (Zs l)
def orW (s:Bz):Bool:=decide (s.toList=[]) || EU s
def GD (e:En):Bool:=wiB 0 1099511627776 [e.d.len,e.d.blk,e.d.kat,e.d.kln,e.d.itv,e.d.area,e.d.fi,e.d.fa,e.d.base,e.d.aat,e.d.aln]&&wiB 1 1099511627776 [e.d.id]&&wiB 0 3 [e.d.org]&&wiB 0 2 [e.d.fmt]&&wiB 0 3 [e.d.cls]&&orW e.d.vol&&orW e.d.own&&OR [e.d.cre,e.d.exp,e.used]&&decide (e.alts.length<=4)
def IL (e:En):Bool:=Jr e.alts&&GD e
structure Sta (w:Wd):Prop where
 mx:Mx w
 tb:Tab w
def Sta.after {w':Wd} (h:Sta w) (b:Below w.1.size w w'):Sta w':=⟨h.mx.after b,h.tb.after b⟩
structure VD (e:En) (a:EnA) (w W:Wd):Prop where
 e1:Blk W w.1.size 144 (enC e a).toArray
 e2:Blk W (w.1.size+1) 34 (dC e.d).toArray
 be:Below w.1.size w W
 sz:w.1.size+2<=W.1.size
 st:Sta W
def VD.next {W':Wd} (h:VD e a w W) (b:Below W.1.size W W'):VD e a w W':=
 have hz:=h.sz
 ⟨h.e1.below b h.e1.lt,h.e2.below b h.e2.lt,U0 h.be b Oo,Lx h.sz b.size,h.st.after b⟩
def VD.alloc (h:VD e a w W) (o:Obj):VD e a w (W.alloc o):=h.next ((Bf _ _).alloc (Le _) o)
def VD.cell (h:VD e a w W) (i:Nat) (v:Value) (b:(dC e.d)[i]? =some v):W.cell? ⟨w.1.size+1,i,none⟩=some v:=by rw [h.e2.cell];simpa using b
def VD.cell1 (h:VD e a w W) (i:Nat) (v:Value) (b:(enC e a)[i]? =some v):W.cell? ⟨w.1.size,i,none⟩=some v:=by rw [h.e1.cell];simpa using b
def VN (e:En) (a:EnA) (w:Wd) (g:Nat) (L:List Int) (W:Wd):Prop:=VD e a w W/\Sl Xg 1 W W.1.size (Ah g 0) L.length L.length L
def VN.new (h:VD e a w W) (L:List Int):VN e a w W.1.size L (Aa W (U7 Xg L).toArray 3):=⟨h.alloc _,(Sl.new (f:=Xg) (k:=1) (fun _=>rfl) W 3 L).more Am⟩
theorem zDM {G:Prop} (h:G:=by
  have HF:R=false:=by rw [gZ.o];unfold GD;simp [hq]
  exact Il 2 (.bool false) Ak (by intro a' h4 hd;simp only [Exit.then];refine hK _ _ ?_;go_wp2;exact Br (v:=.bool false) ((VK results255 a'.tmps _ _).trans (by rw [h4])) hd ⟨by rw [HF],HX.o.be⟩)):G:=h
def ML (e:En) (a:EnA) (w:Wd) (hw:EW [] w e a) (hs:Sm e) (F:Sta w):
  Calls prog 255 #[.agg (enC e a).toArray] w (Ab w (.bool (IL e))):=by
 obtain ⟨A,C,l,g⟩:=a;obtain ⟨R,hR⟩:=yG (IL e);rw [hR];have HR:=Hd hR;have hla:=hs.la;have bI:=Hd (Blk.new w 144 (enC e ⟨A,C,l,g⟩).toArray);have HM:Aw ((Aa w (enC e ⟨A,C,l,g⟩).toArray 144).rangeAt w.1.size 2 (dC e.d)):=Hd fun j v hv=>by rw [bI.o.cell];have hj:j<21:=(QZ.1 hv).1;have h:=Jj e ⟨A,C,l,g⟩ j hj;rw [<-hv,<-h];simp
 have u:=Hd fun s=>U3 (Aa w (enC e ⟨A,C,l,g⟩).toArray 144) 34 s (w.1.size+1) Am
 have dL:=Hd fun s=>X6 (Aa w (enC e ⟨A,C,l,g⟩).toArray 144) (w.1.size+1) Am s (dC e.d).toArray 34
 have O:=Hd (Xc e.d);have P:=Hd hw.sa;have bV:=Hd F;have HS:=Hd hs;obtain ⟨H,jV⟩:=yG ((Aa w (enC e ⟨A,C,l,g⟩).toArray 144).alloc (.cells (dC e.d).toArray 34));have d:Aw (Below w.1.size w H):=Hd (by rw [<-jV];exact Aj.alloc Am _);have B:Aw (Blk H w.1.size 144 (enC e ⟨A,C,l,g⟩).toArray):=Hd (by rw [<-jV];exact bI.o.alloc _);have D:Aw (Blk H (w.1.size+1) 34 (dC e.d).toArray):=Hd (by rw [<-jV];exact u.o _);have E:=B.o.ce 23 (.slice A e.alts.length C);clear hR hw hs F;go_in;go_wp2_with (first|(with_reducible refine yM 34 6 HM.o ?_)|(with_reducible refine yS 34 3 (u.o _) O.o ?_;rw [dL.o];rw [jV]));have p:=Hd E;have bW:Aw (Sl Xg 1 H H.1.size A e.alts.length C e.alts):=Hd (P.o.after d.o d.o.size);clear E
 go_loopw [11] (fun i wr=>∃ j:Nat,j<=e.alts.length/\i=.int .i64 j/\(∀ t,t<j->Zs e.alts t=true)/\wr=H) (fun i _=>e.alts.length-(intOf i).toNat)
 .exact ⟨0,Z0 _,rfl,fun t h=>absurd h Oo,rfl⟩
 .obtain ⟨j,hj,rfl,hall,rfl⟩:=hrel;have U:=Hd hall;clear hall;by_cases aE:j<e.alts.length
  .have cB:Zs e.alts j=false->R=false:=fun h=>by
    rw [<-HR.o];unfold IL;rw [show Jr e.alts=false from ZM.2 ⟨j,YO.2 aE,by rw [h];simp⟩];rfl
   have eA:=Hd cB;obtain ⟨b,o,x,rfl,hb,hg,aB⟩:=Sl.cell (f:=Xg) (k:=1) (fun _=>rfl) bW.o aE;have cx:=aB 0 _ rfl;simp only [QF,WY] at cx;have J:e.alts.getD j 0=x:=by rw [WJ,hg];rfl
   have n:=Hd J;have HHB:=Hd hb;clear cB hb hg aB J;have E:=p.o;by_cases Q:x<1
   .have e1:decide (x<1)=true:=QQ Q;have HF:Aw (R=false):=Hd (eA.o (by unfold Zs;rw [n.o,QW Oo];rfl));go_wp2;go_ret;exact ⟨by rw [HF.o];rfl,d.o⟩
   .have e1:decide (x<1)=false:=QW Q;by_cases I:1099511627776<x
    .have e2:decide (1099511627776<x)=true:=QQ I;have HF:Aw (R=false):=Hd (eA.o (by unfold Zs;rw [n.o,QQ (show 1<=x from Oo),QW (show ¬ x<=1099511627776 from Oo)];rfl));go_wp2;go_ret;exact ⟨by rw [HF.o];rfl,d.o⟩
    .have e2:decide (1099511627776<x)=false:=QW I;cases j with
     |zero=>
      have gZ:Aw (Zs e.alts 0=true):=Hd (by unfold Zs;rw [n.o,QQ (show 1<=x from Oo),QQ (show x<=1099511627776 from Oo)];rfl);rw [show ((0:Nat):Int)=0 from rfl];simp only [QF] at cx;go_wp2;go_roundw
      .exact ⟨1,Oo,Au,fun t F=>by (obtain rfl:t=0:=by omega);exact gZ.o,trivial⟩
      .exact At
     |succ m=>
      obtain ⟨b2,o2,y,gE,aH,cE,dF⟩:=Sl.cell (f:=Xg) (k:=1) (fun _=>rfl) bW.o (show m<e.alts.length from Oo);injection gE with gE
      injection gE with q1 q2
      subst q1 q2;have cy:=dF 0 _ rfl;simp only [QF,WY] at cy;have S:e.alts.getD m 0=y:=by rw [WJ,cE];rfl
      have M:=Hd S;clear aH cE dF S;by_cases N:x<=y
      .have e3:decide (x<=y)=true:=QQ N;have HF:Aw (R=false):=Hd (eA.o (by unfold Zs;rw [n.o,show m+1-1=m from rfl,M.o,QQ (show 1<=x from Oo),QQ (show x<=1099511627776 from Oo),QW (show ¬ y<x from Oo)];simp));go_wp2;go_ret;exact ⟨by rw [HF.o];rfl,d.o⟩
      .have e3:decide (x<=y)=false:=QW N;have gZ:Aw (Zs e.alts (m+1)=true):=Hd (by unfold Zs;rw [n.o,show m+1-1=m from rfl,M.o,QQ (show 1<=x from Oo),QQ (show x<=1099511627776 from Oo),QQ (show y<x from Oo)];simp);go_wp2;go_roundw
       .refine ⟨m+2,Oo,Au,fun t F=>?_,trivial⟩;by_cases wY:t=m+1
        .rw [wY];exact gZ.o
        .exact U.o t Oo
       .exact At
  .obtain rfl:j=e.alts.length:=Oo
   have gZ:Aw (R=GD e):=Hd (by
    rw [<-HR.o];unfold IL;rw [show Jr e.alts=true from WE.2 fun t F=>U.o t (YO.1 F)];rfl)
   have HX:Aw (VD e ⟨A,C,l,g⟩ w wr):=Hd ⟨B.o,D.o,d.o,by have:=D.o.lt;omega,bV.o.after d.o⟩;have L:Aw (e.d.vol.size<=maxLen/\e.d.own.size<=maxLen):=Hd ⟨by have:=HS.o.vo;unfold maxLen;omega,by have:=HS.o.ow;unfold maxLen;omega⟩;clear B D d bV HS bW P bI HM u dL O p HR U;have d3:=HX.o.cell 3 (.int .i64 e.d.len) rfl;have d4:=HX.o.cell 4 (.int .i64 e.d.blk) rfl;have d5:=HX.o.cell 5 (.int .i64 e.d.kat) rfl;have d6:=HX.o.cell 6 (.int .i64 e.d.kln) rfl;have d7:=HX.o.cell 7 (.int .i64 e.d.itv) rfl;have d8:=HX.o.cell 8 (.int .i64 e.d.area) rfl;have d9:=HX.o.cell 9 (.int .i64 e.d.fi) rfl;have d10:=HX.o.cell 10 (.int .i64 e.d.fa) rfl;have Y:=HX.o.cell 11 (.int .i64 e.d.base) rfl;have d12:=HX.o.cell 12 (.int .i64 e.d.aat) rfl;have T:=HX.o.cell 13 (.int .i64 e.d.aln) rfl
   go_wp2_with ((with_reducible show Calls _ _ _ _ _);refine Stop.go ?_);refine Stop.in' ?_;rename_i K hK X hX;clear d3 d4 d5 d6 d7 d8 d9 d10 Y d12 T;have c:=Hd (VN.new HX.o [e.d.len,e.d.blk,e.d.kat,e.d.kln,e.d.itv,e.d.area,e.d.fi,e.d.fa,e.d.base,e.d.aat,e.d.aln]);obtain ⟨W11,hW⟩:=yG (Aa wr (U7 Xg [e.d.len,e.d.blk,e.d.kat,e.d.kln,e.d.itv,e.d.area,e.d.fi,e.d.fa,e.d.base,e.d.aat,e.d.aln]).toArray 3);rw [hW] at c;change Calls _ _ _ (Aa wr (U7 Xg [e.d.len,e.d.blk,e.d.kat,e.d.kln,e.d.itv,e.d.area,e.d.fi,e.d.fa,e.d.base,e.d.aat,e.d.aln]).toArray 3) _;rw [hW];clear hW;refine yE (Vy 0 1099511627776 _ 11 11 _ W11 c.o.2 Ac) ?_
   replace HX:=Hd c.o.1
   simp only [];refine hX _ _ ?_;clear hX;obtain ⟨q,hq⟩:=yG (wiB 0 1099511627776 [e.d.len,e.d.blk,e.d.kat,e.d.kln,e.d.itv,e.d.area,e.d.fi,e.d.fa,e.d.base,e.d.aat,e.d.aln]);rw [hq];cases q
   .exact zDM
   have k0:=Hd hq;clear hq
   iterate 2 refine Wn ?_
   refine Wl (HX.o.cell 0 _ rfl) ?_;refine Wa ?_;refine yW (Φ:=VN e ⟨A,C,l,g⟩ w _ [e.d.id]) (VN.new HX.o _) fun W12 c=>?_
   replace HX:=Hd c.o.1
   refine wb (Vy 1 1099511627776 _ 1 1 _ W12 c.o.2 Ac) (fun hq=>zDM) fun k1=>?_
   iterate 3 refine Wn ?_
   refine Wl (HX.o.cell 1 _ rfl) ?_;refine Wa ?_;refine yW (Φ:=VN e ⟨A,C,l,g⟩ w _ [e.d.org]) (VN.new HX.o _) fun Z c=>?_
   replace HX:=Hd c.o.1
   refine wb (Vy 0 3 _ 1 1 _ Z c.o.2 Ac) (fun hq=>zDM) fun k2=>?_
   iterate 3 refine Wn ?_
   refine Wl (HX.o.cell 2 _ rfl) ?_;refine Wa ?_;refine yW (Φ:=VN e ⟨A,C,l,g⟩ w _ [e.d.fmt]) (VN.new HX.o _) fun W14 c=>?_
   replace HX:=Hd c.o.1
   refine wb (Vy 0 2 _ 1 1 _ W14 c.o.2 Ac) (fun hq=>zDM) fun k3=>?_
   iterate 3 refine Wn ?_
   refine Wl (HX.o.cell 15 _ rfl) ?_;refine Wa ?_;refine yW (Φ:=VN e ⟨A,C,l,g⟩ w _ [e.d.cls]) (VN.new HX.o _) fun W15 c=>?_
   replace HX:=Hd c.o.1
   refine wb (Vy 0 3 _ 1 1 _ W15 c.o.2 Ac) (fun hq=>zDM) fun k4=>?_
   iterate 3 refine Wn ?_
   refine Wl (HX.o.cell 16 _ rfl) ?_;refine Wn (v:=.bool (e.d.vol.toList == [])) ?_ (r:=Ak);obtain ⟨z,hz⟩:=yG (e.d.vol.toList == []);rw [hz];cases z
   case' true=>
    have k5:Aw (orW e.d.vol=true):=Hd (by unfold orW;rw [QQ (YT.1 hz)];rfl);refine Wn ?_
    iterate 3 refine Wk ?_
   case' false=>
    iterate 2 refine Wn ?_
    refine Wl (HX.o.cell 16 _ rfl) ?_;refine wB (show EU e.d.vol=orW e.d.vol by unfold orW;rw [QW (fun h=>by rw [h] at hz;cases hz)];rfl) (I6 e.d.vol _ L.o.1 HX.o.st.mx) (fun V h hq=>by have HX:=Hd (HX.o.next h);exact zDM) fun V h k5=>?_
    replace HX:=Hd (HX.o.next h.o)
   all_goals
    iterate 4 refine Wn ?_
    refine Wl (HX.o.cell 17 _ rfl) ?_;refine Wn (v:=.bool (e.d.own.toList == [])) ?_ (r:=Ak);obtain ⟨z,hz⟩:=yG (e.d.own.toList == []);rw [hz];cases z
    case' true=>
     have k6:Aw (orW e.d.own=true):=Hd (by unfold orW;rw [QQ (YT.1 hz)];rfl);refine Wn ?_
     iterate 3 refine Wk ?_
    case' false=>
     iterate 2 refine Wn ?_
     refine Wl (HX.o.cell 17 _ rfl) ?_;refine wB (show EU e.d.own=orW e.d.own by unfold orW;rw [QW (fun h=>by rw [h] at hz;cases hz)];rfl) (I6 e.d.own _ L.o.2 HX.o.st.mx) (fun V h hq=>by have HX:=Hd (HX.o.next h);exact zDM) fun V h k6=>?_
     replace HX:=Hd (HX.o.next h.o)
    all_goals
     iterate 4 refine Wn ?_
     refine Wl (HX.o.cell 18 _ rfl) ?_;refine Wn ?_;refine Wl (HX.o.cell 19 _ rfl) ?_;refine Wn ?_;refine Wl (HX.o.cell1 24 _ rfl) ?_;refine Wa ?_;refine yW (Φ:=VN e ⟨A,C,l,g⟩ w _ [e.d.cre,e.d.exp,e.used]) (VN.new HX.o _) fun W16 c=>?_
     replace HX:=Hd c.o.1
     refine wB rfl (OO _ 3 3 _ W16 c.o.2 Ac HX.o.st.tb) (fun V h hq=>by have HX:=Hd (HX.o.next h);exact zDM) fun V h k7=>?_
     replace HX:=Hd (HX.o.next h.o)
     iterate 3 refine Wn ?_
     refine Wl (HX.o.cell1 23 _ rfl) ?_
     iterate 2 refine Wn ?_
     obtain ⟨q,hq⟩:=yG (decide ((e.alts.length:Int)<=4));rw [hq];have HF:R=q:=by rw [gZ.o];unfold GD;simp only [k0.o,k1.o,k2.o,k3.o,k4.o,k5.o,k6.o,k7.o,XL];rw [<-hq];exact decide_eq_decide.2 Oo
     exact Il 2 (.bool q) (by cases q<;>kernel_rfl) (by intro a' h4 hd;simp only [Exit.then];refine hK _ _ ?_;go_wp2;exact Br (v:=.bool q) ((VK results255 a'.tmps _ _).trans (by rw [h4])) hd ⟨by rw [HF],HX.o.be⟩)
end
end Go.Proofs.YtdleakjejodjjaaGreatDoor
