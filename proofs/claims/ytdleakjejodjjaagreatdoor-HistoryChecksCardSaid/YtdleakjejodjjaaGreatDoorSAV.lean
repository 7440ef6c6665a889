/- Of the history laws. -/
import Derived.Test.YtdleakjejodjjaaGreatDoorSAT
import Derived.Test.YtdleakjejodjjaaGreatDoorSAM
import Derived.Shelf.SlSortCmp.NoneTotal
namespace Go.Proofs.YtdleakjejodjjaaGreatDoor
open Tryz
set_option linter.defProp false
set_option linter.unusedVariables false
set_option linter.unusedSimpArgs false
set_option maxRecDepth 100000
set_option maxHeartbeats 20000000
open Go.RowKit
section
open Go.Sort Go.Proofs
instance:Inhabited Com:=⟨⟨0,0,none,0,0,none,0,0,[],[]⟩⟩
section
variable {α:Type} [Inhabited α] {enc:α->List Value} {k:Nat}
def Mk (b:∀ x,(enc x).length=k) (l:List α):(flatK enc k l.toArray).toList=U7 enc l:=by
 apply ZV;intro t;by_cases a:t<l.length*k
 .have k0:0<k:=by
   rcases WB k with h|h;· subst h;simp at a
   .exact h
  have d:t / k<l.length:=(Nat.div_lt_iff_lt_mul k0).2 a;have c:t % k<k:=Nat.mod_lt _ k0;have e:=Er b l (t / k) _ (QV d) (t % k) c;rw [show t / k*k+t % k=t from by rw [Nat.mul_comm];exact Nat.div_add_mod t k] at e;rw [e,YI];have f:(flatK enc k l.toArray).size=l.length*k:=Am
  have g:=get_flatK enc k l.toArray t (by simpa using a);rw [UW _ t (by rw [f];exact a)] at g;rw [WI (by rw [f];exact a),g];have i:l.toArray[t / k]! =l[t / k]:=by rw [UW l.toArray (t / k) (by simpa using d)];simp
  rw [i,UW (enc l[t / k]) (t % k) (by rw [b];exact c),QV (by rw [b];exact c)]
 .rw [WM (by rw [XY];simp;omega),WM (by rw [Vm b];omega)]
def MT (o:∀ x,(enc x).length=k) {w:Wd} {base g n d:Nat} {e:TypeId} {l:List α} (h:w.ownsRow base e k (.slice (Ah g 0) n d) n (U7 enc l)):HoldsK enc k w g 0 l.toArray:=by
 have r:=h.cells (g:=g) rfl
 have hz:∃ a,w.1[g]? =some (.cells a e (0,0)):=by
  rcases h.2 with ⟨q,_⟩|⟨s,m,a,p,_,c,_⟩
  .cases q
  .injection p with e1 _ _
   injection e1 with e1
   injection e1 with e1
   subst e1;exact ⟨a,c⟩
 obtain ⟨a,c⟩:=hz;intro j i;have b:j<(U7 enc l).length:=by rw [Vm o];simpa using i
 refine ⟨?_,by simp [World.frozen?,c]⟩;have:=r j _ (QV b);rw [show ((⟨g,0,none⟩:Addr).add j)=⟨g,0+j,none⟩ from by unfold Addr.add;split<;>simp_all] at this;rw [this];congr 1;rw [UW _ j i];have f:=XK (·[j]?) (Mk o l);simp only [YI] at f;rw [WI i,QV b] at f;exact (WQ f).symm
def O0 (r:∀ x,(enc x).length=k) {w:Wd} {base g n a m:Nat} {e:TypeId} {l s:List α} {y:Array Obj} (h:w.ownsRow base e k (.slice (Ah g 0) n a) n (U7 enc l)) (o:s.length=n):
  (sortWorldK enc k w g 0 m s.toArray y).ownsRow base e k (.slice (Ah g 0) n a) n (U7 enc s):=by
 rcases h.2 with ⟨d,_⟩|⟨C,q,b,d,v,f,hn,z,t,B⟩
 .cases d
 .injection d with e1 _ e3
  injection e1 with e1
  injection e1 with e1
  subst e1;subst e3
  have u:g<w.1.size:=by
   rcases ZW g w.1.size with i|i
   .exact i
   .rw [XH i] at f;cases f
  have A:n*k<=b.size:=by rw [t];exact JQ _ hn
  refine ⟨by rw [Vm r,o],.inr ⟨g,a,putCells id 0 (flatK enc k s.toArray) b,rfl,v,?_,hn,z,by simpa [putCells] using t,?_⟩⟩
  .simp only [sortWorldK,Sort.grow,putRowK,putRow,mapBlock,Sort.ahead];rw [Array.getElem?_append_left (by simpa using u)];simp [YA,f,onCells]
  .apply ZV;intro j;rw [YV,<-Mk r s,YI,YI];by_cases p:j<n*k
   .have hjc:j<b.size:=Oo
    have c:j<(flatK enc k s.toArray).size:=by simp [o];exact p
    simp only [QK p,putCells,Array.getElem?_mapIdx,WI hjc,KR];rw [QK ⟨Z0 _,by rw [QB];exact c⟩,WI c];simp only [Nat.sub_zero,id];rw [UW _ j c]
   .rw [QX p,XH (by simp [o];omega)]
def ST {w:Wd} {B g m:Nat} {d:Array α} {a:Array Obj} (b:B<=w.1.size) (c:B<=g):Below B w (sortWorldK enc k w g 0 m d a):=by
 refine ⟨rfl,rfl,rfl,?_,fun i e=>?_⟩
 .simp [sortWorldK,Sort.grow,putRowK,putRow,mapBlock,Sort.ahead]
 .simp only [sortWorldK,Sort.grow,putRowK,putRow,mapBlock,Sort.ahead];rw [Array.getElem?_append_left As,YA,QX Oo]
end
def OW (A:Option Addr) (n c:Nat) (l:List Com) (w:Wd) (d:Sl Ud 4 w w.1.size A n c l) (hn:n<=1000):
  Calls prog 33 #[.slice A n c] w fun e w'=>∃ v,e=.returned v/\w'.ownsRow w.1.size 42 4 v n (U7 Ud l)/\Below w.1.size w w':=by
 have g:=d.len;have D:∀ (w:Wd) (a:Option Addr) (n c f c':Nat),(binOp .eql 23 (.slice a n c) (.slice none f c')).run prog w=.ok (.bool a.isNone) w:=fun w a n c f c'=>KA w _ _ a n c f c' underlying23
 cases A with
 |none=>
  have hz:n=0:=by
   rcases WB n with h|h
   .exact h
   .obtain ⟨b,o,e,_⟩:=d.rd.2 h;cases e
  subst hz;have:l=[]:=QA g;subst this;clear d g hn;go_wp2;go_ret;exact ⟨_,rfl,⟨rfl,.inl ⟨rfl,rfl⟩⟩,Bf _ _⟩
 |some ad=>
  obtain ⟨x,r,C,q,m⟩:=WG FK;have u:=Hd (d.rd.alloc (Le _) (.cells #[] 42));have y:=Hd (MC l);have z:=Hd (WC (e:=42) (base:=w.1.size) (size:=4) w #[] 0 (Le _) Ac rfl);clear d g;go_in;go_wp2_with (at_builtin;go_must (refine Ui _ rfl _ _ 23 rfl w.1.size 42 x _ 4 64 underlying23 r C q m rfl Ac _ _ _ rfl z.o w.1.size (some ad) n c (U7 Ud l) rfl u.o y.o ?c2 ?c3 ?c4 ?_))
  case c2=>simp [maxLen];omega
  case c3=>omega
  intro p w' i j _;have B:=Hd i;have s:=Hd j;clear i j;go_wp2;go_ret;exact ⟨p,rfl,by simpa using B.o,Aj.grown s.o Am (by intro k t;simp [Value.ownBlock] at t;omega)⟩
end
section
open Go.Sort Go.Proofs
def OV:∀ (x:Com),∀ v∈Ud x,v.oneCell'=true:=by
 intro x v a;simp [Ud] at a;rcases a with rfl|rfl|rfl|rfl<;>rfl
def up (blk a size:Nat) (w:Wd):CmpLays prog 35 #[] Ud 4 cfC blk a size w:=fun _ _ _ _ x y=>xC x y _
def rH (g n a:Nat) (l:List Com) (w:Wd) (base:Nat) (h:w.ownsRow base 42 4 (.slice (Ah g 0) n a) n (U7 Ud l)) (f:l.length=n) (hn:n<=1000):
  Calls prog 99 #[.slice (Ah g 0) n a,.int .i64 0,.int .i64 n,Ai 35] w fun e w'=>e=.returned (.tuple #[])/\w'.ownsRow base 42 4 (.slice (Ah g 0) n a) n (U7 Ud (Xl Z4 [] l))/\(base<=w.1.size->Below base w w'):=by
 subst f;have d:∀ args w,(callFunc 35 args).run prog w=.ok (.enter 35 args) w:=enters_of func35 Ak rfl
 have c:base<=g/\g<w.1.size:=h.lt g rfl;have i:=MT (enc:=Ud) (k:=4) Vo h;have b:=AnyQ.insertionSortCmpFunc (P:=prog) insort 4 isAgg42 sizeOf42 Ud Vo OV cfC 35 #[] g 0 a 0 l.length l.toArray w d (up _ _ _ _) i c.2 (Z0 _) Am As;change Calls prog 99 _ _ _ at b;simp only [YZ] at b;refine b.mono ?_;rintro e w' ⟨rfl,m,q,rfl⟩;rw [xV];have j:=F3 (lt:=Z4) l;have o:Go.Sort.insertionSort Z4 l.toArray 0 l.length=(Xl Z4 [] l).toArray:=by rw [<-j]
 rw [o];exact ⟨rfl,O0 (enc:=Ud) (k:=4) Vo h (by rw [E9];simp),fun p=>ST p c.1⟩
def vl (p:Option Addr) (a:Nat) (w:Wd):
  Calls prog 99 #[.slice p 0 a,.int .i64 0,.int .i64 0,Ai 35] w (Ae w (.tuple #[])):=
 (AnyF.insertionSortCmpFunc_none (P:=prog) insort p a _ w).mono fun _ _ ⟨he,hw⟩=>⟨he,hw.symm⟩
def Tn (v:Value) (n:Nat) (l:List Com) (w:Wd) (base:Nat) (h:w.ownsRow base 42 4 v n (U7 Ud l)) (a:l.length=n) (hn:n<=12) (b:base<=w.1.size):
  Calls prog 66 #[v,.int .i64 n,Ai 35] w fun e w'=>e=.returned (.tuple #[])/\w'.ownsRow base 42 4 v n (U7 Ud (Xl Z4 [] l))/\Below base w w':=by
 have s:decide ((20:Int)<=(n:Int))=false:=As
 have q:decide ((20:Int)<(n:Int))=false:=As
 have r:decide (20<=n)=false:=As
 have t:decide (20<n)=false:=As
 rcases h.2 with ⟨rfl,hz⟩|⟨g,c,m,rfl,j⟩
 .subst hz;have:l=[]:=QA a;subst this;have p:=Hd h;have d:=Hd b;clear a h hn b;go_wp2;refine Lu 1 ?_;rw [Rs];go_wp2_with (go_at_call 99;refine yE (vl _ _ _) ?_);refine Lu 1 ?_;rw [Rs];go_wp2
  go_end0
  exact ⟨rfl,p.o,Bf _ _⟩
 .have HI:=Hd (rH g n c l w base h a Oo);have d:=Hd b;clear j h a hn b;go_wp2;refine Lu 1 ?_;rw [Rs];go_wp2_with (go_at_call 99;refine HI.o.mono ?_;rintro e w' ⟨rfl,i,f⟩;have o:=Hd i;have k:=Hd (f d.o);clear i f);refine Lu 1 ?_;rw [Rs];go_wp2
  go_end0
  exact ⟨rfl,o.o,k.o⟩
def zK (v:Value) (n:Nat) (l:List Com) (w:Wd) (base:Nat) (h:w.ownsRow base 42 4 v n (U7 Ud l)) (a:l.length=n) (hn:n<=12) (b:base<=w.1.size):
  Calls prog 34 #[v,Ai 35] w fun e w'=>e=.returned (.tuple #[])/\w'.ownsRow base 42 4 v n (U7 Ud (Xl Z4 [] l))/\Below base w w':=by
 have j:=Hd (Tn v n l w base h a hn b);obtain ⟨A,c,rfl,i,g⟩:=U4 h;clear h a hn b i g;go_in;go_wp2_with (go_at_call 66;refine yN2 j.o fun w' d f=>?_)
 go_end0
 exact ⟨rfl,d.o,f.o⟩
end
def oV (x:Com) (w:Wd) (c:ComOk w w.1.size x) (b:MJ x):
  Calls prog 31 #[.agg #[.int .i64 x.unit,.int .i64 x.num,.slice x.rA x.rn x.rc,.slice x.cA x.cn x.cc]] w (Ab w (.bool (!Zy x))):=by
 have h:=CO x (Aa w #[.int .i64 x.unit,.int .i64 x.num,.slice x.rA x.rn x.rc,.slice x.cA x.cn x.cc] 42) (c.after Aj Am) b;unfold OT at h;generalize Zy x=R at h ⊢;have H:=Hd h;clear h c b;generalize x.unit=g at H ⊢;generalize x.num=i at H ⊢;generalize x.rA=l at H ⊢;generalize x.rn=d at H ⊢;generalize x.rc=m at H ⊢;generalize x.cA=n at H ⊢;generalize x.cn=j at H ⊢;generalize x.cc=e at H ⊢;go_in;go_wp2_with fail;refine yP H.o fun f a=>?_
 have k:=Hd (Ul (show Below (w.1.size+1) (Aa w #[.int .i64 g,.int .i64 i,.slice l d m,.slice n j e] 42) f by simpa using a));clear a;go_wp2;go_ret;exact ⟨rfl,k.o⟩
def K5 (A:Option Addr) (n c:Nat) (l:List Com) (w:Wd) (J:Cs w w.1.size A n c l) (V:∀ x∈l,MJ x) (hn:n<=12):
  Calls prog 14 #[.slice A n c] w (pd (Zx l) w):=by
 have P:=J.1.len;have R:=Hd (CP (fun x => !Zy x) A n c l w J.1 Oo fun x a W M=>oV x W ((J.2 x a).after M M.size) (V x a));cases E:(l.any fun x => !Zy x) with
 |true=>
  rw [E] at R;have HO:Aw (Zx l=none):=Hd (by unfold Zx;rw [QK E]);clear J V hn P E;go_in;go_wp2_with (go_at_call 30;refine yP R.o fun X G=>?_)
  go_ret2
  exact .inl ⟨HO.o,rfl,G⟩
 |false=>
  rw [E] at R
  have p:∀ x∈l,Zy x=true:=fun x a=>by
   have:=YC.1 E x a;simpa using this
  obtain ⟨s,L⟩:=yG (Xl Z4 [] l)
  have cD:∀ x∈s,x∈l:=fun x a=>by
   rw [<-L,K7] at a;rcases a with a|a
   .cases a
   .exact a
  have bN:s.length=n:=by rw [<-L,E9];simpa using P
  obtain ⟨r,Z⟩:=yG (Zx l);have dU:r=if Hc 0 s=true then some s else none:=by rw [<-Z,<-L];unfold Zx;rw [E];simp
  rw [Z];have K:=Hd p;have q:=Hd cD;have Q:=Hd bN;have aU:=Hd dU;have HL:=Hd P;have F:=Hd L;have HS:=Hd J;have T:n<=1000:=Oo
  have HN:=Hd hn;clear p cD bN Z dU P L E J V hn;go_in;go_wp2_with fail;refine yP R.o fun X G=>?_
  have iP:=Hd (OW A n c l X (HS.o.1.after G G.size) T);have B1:=Hd G;clear G;go_wp2_with fail;refine iP.o.mono ?_;rintro e w2 ⟨v,rfl,y,S⟩;have HSO:=Hd (zK v n l w2 X.1.size y HL.o HN.o S.size);obtain ⟨A2,c2,rfl,hc1,fN⟩:=U4 y;have B2:=Hd S;clear y S hc1 fN;go_wp2_with fail;refine HSO.o.mono ?_;rintro e I ⟨rfl,y,aW⟩;rw [F.o] at y;have h:=Hd (Sl.of_own (f:=Ud) (k:=4) Vo Ac y);have C:=Hd (U0 B1.o (B2.o.trans aW) (B1.o.size));have U:=Hd (show Cs I I.1.size A2 n c2 s from ⟨h.o,fun x a=>(HS.o.2 x (q.o x a)).after C.o C.o.size⟩);clear y aW;go_wp2;go_loopw [5,16] (fun v5 i wr=>∃ (j:Nat) (H:Int),j<=n/\i=.int .i64 j/\v5=.int .i64 H/\Hc 0 s=Hc H (s.drop j)/\Below I.1.size I wr) (fun _ i _=>n-(intOf i).toNat)
  .exact ⟨0,0,Z0 _,rfl,rfl,rfl,Bf _ _⟩
  .obtain ⟨j,H,hj,rfl,rfl,eS,aF⟩:=hrel;have m:=Hd eS;have t:=Hd aF;clear eS aF;by_cases aE:j<n
   .obtain ⟨b,o,x,rfl,M,hg,aB⟩:=Sl.cell (f:=Ud) (k:=4) Vo (h.o.below t.o) aE;have c0:=aB 0 _ rfl;have c1:=aB 1 _ rfl;have c2:=aB 2 _ rfl;have c3:=aB 3 _ rfl;simp only [QF] at c0;have a:=K.o x (q.o x (QJ hg));obtain ⟨N,n2,O⟩:=FY a
    have hd:s.drop j=x::s.drop (j+1):=by
     have Y:j<s.length:=by rw [Q.o];exact aE
     rw [QO Y];congr 1;exact (QZ.1 hg).2
    have d:Hc 0 s=if x.num<=H then false else Hc (if 0<x.cn then x.num+x.cn-1 else H) (s.drop (j+1)):=by rw [m.o,hd];rfl
    have D:=Hd fun W=>RV x W N n2 O
    have g:=t.o.size;unfold OT at D;clear M hg aB a n2 hd;by_cases u:x.num<=H
    .rw [QK u] at d;have B:Aw (r=none):=Hd (by rw [aU.o,d];rfl);have d1:=QQ u;clear d u N O;go_wp2
     go_ret2
     exact .inl ⟨B.o,rfl,(C.o.trans (t.o.mono C.o.size)).alloc (Lx C.o.size g) _⟩
    .rw [QX u] at d;have d1:=QW u;by_cases z:0<x.cn
     .rw [QK z] at d;have B:=Hd d;have d2:=QQ z;have d3:decide ((0:Int)<(x.cn:Int))=true:=by simpa using z
      have bQ:=Hd (D.o (Aa wr #[.int .i64 x.num,.int .i64 x.num] 42));clear bQ;clear d u z N O;go_wp2_with (go_at_call 38;refine yP (D.o _) fun w4 gS=>?_;have cO:=Hd (show Below I.1.size I w4 from U0 (t.o.alloc g _) gS (Lx g Am));clear gS);go_roundw
      .exact ⟨j+1,_,Oo,Au,rfl,B.o,cO.o⟩
      .exact At
     .rw [QX z] at d;have B:=Hd d;have d2:=QW z;have d3:decide ((0:Int)<(x.cn:Int))=false:=As
      clear d u z N O;go_wp2;go_roundw
      .exact ⟨j+1,_,Oo,Au,rfl,B.o,t.o.alloc g _⟩
      .exact At
   .have hst:Hc 0 s=true:=by rw [m.o,WP (by rw [Q.o];omega)];rfl
    have B:Aw (r=some s):=Hd (by rw [aU.o,hst];rfl);have BW:=Hd (C.o.trans (t.o.mono C.o.size));clear hst;go_wp2
    go_ret2
    exact .inr ⟨s,B.o,A2,c2,by rw [Q.o];rfl,by rw [Q.o];exact U.o.after t.o t.o.size,BW.o⟩
end Go.Proofs.YtdleakjejodjjaaGreatDoor
