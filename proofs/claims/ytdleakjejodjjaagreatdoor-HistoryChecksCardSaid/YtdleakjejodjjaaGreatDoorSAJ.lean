/- Of the history laws. -/
import Derived.Test.YtdleakjejodjjaaGreatDoorSAH
import Derived.Lib.VarintBits
import Derived.Lib.Varint
import Derived.Test.YtdleakjejodjjaaGreatDoorSAF
namespace Go.Proofs.YtdleakjejodjjaaGreatDoor
open Tryz
set_option linter.defProp false
set_option linter.unusedVariables false
set_option linter.unusedSimpArgs false
set_option maxRecDepth 100000
set_option maxHeartbeats 20000000
open Go.RowKit
def F7 (b:Bz) (c a:Int) (e:0<=a) (h:(Xa b c a).2.2=0):0<=(Xa b c a).1/\(Xa b c a).1<=a:=by
 unfold Xa at h ⊢;by_cases he:(V2 b c).2.2=0
 .rw [QK he] at h ⊢;by_cases hn:a<(V2 b c).1
  .rw [QK hn];simp;exact e
  .rw [QX hn];refine ⟨?_,Oo⟩;by_cases d:c=0
   .subst d;exact M5
   .simp [V2,d] at he
 .rw [QX he] at h;exact absurd h he
def U8 (a:Bz) (c b:Int):Bz×Bz×Int:=
 if (Xa a c b).2.2=0 then
  (if ((Xa a c b).2.1.size:Int)<(Xa a c b).1 then (⟨#[]⟩,⟨#[]⟩,11)
   else ((Xa a c b).2.1.extract 0 (Xa a c b).1.toNat,(Xa a c b).2.1.extract (Xa a c b).1.toNat (Xa a c b).2.1.size,0))
 else (⟨#[]⟩,(Xa a c b).2)
def Zd (a:Bz) (b:Int):(V2 a b).2.1.size<=a.size:=by
 unfold V2;split
 .split
  .exact Z0 _
  .simp
 .simp
def Ee (a:Bz) (c b:Int):(Xa a c b).2.1.size<=a.size:=by
 unfold Xa;split
 .split
  .exact Z0 _
  .exact Zd _ _
 .exact Zd _ _
def Vf (a:Bz) (c b:Int):(U8 a c b).1.size<=a.size/\(U8 a c b).2.1.size<=a.size:=by
 have h:=Ee a c b;unfold U8;split
 .split
  .exact ⟨Z0 _,Z0 _⟩
  .simp;omega
 .exact ⟨Z0 _,h⟩
def Kw (r:Nat) (b:Bz) (c a:Int) (w:Wd) (k:b.size<=maxLen) (q:Rdr w r b c) (i6:0<=a) (v:a<=4611686018427387904):
  Calls prog 161 #[Ag r 0,.int .i64 a] w fun x w'=>x=.returned (.string (U8 b c a).1)/\RrP w r (U8 b c a).2.1 (U8 b c a).2.2 w':=by
 have h:=Hd (Rn r b c a w k q i6 v);have hz:=F7 b c a i6;have j:=Ee b c a;unfold maxLen at k;clear q;obtain ⟨R,o⟩:=yG (Xa b c a);unfold U8;rw [o];rw [o] at h hz j;clear o;obtain ⟨n,l,e⟩:=R;simp only at hz j h ⊢;have D:l.size<=2 ^ 63-1:=Oo
 by_cases he:e=0
 .subst he;obtain ⟨B,d⟩:=hz rfl;obtain ⟨m,rfl⟩:∃ m:Nat,n=m:=⟨n.toNat,Oo⟩
  rw [QK rfl];clear hz k j;by_cases E:l.size<m
  .rw [QK Oo];go_in;go_wp2_with (first|(go_at_call 200;refine h.o.mono ?_;rintro x p ⟨rfl,d,f⟩;have g:=Hd d;have i:=Hd f;have c1:=d.c1;have y:=d.c0;clear d f)|(go_at_call 201;refine yN2 (Hv r l 11 _ g.o) fun F t u=>?_));go_ret;exact ⟨rfl,t.o,i.o.trans u.o⟩
  .rw [QX Oo];have s:m<=l.size:=Oo
   go_in;go_wp2_with (go_at_call 200;refine h.o.mono ?_;rintro x p ⟨rfl,d,f⟩;have g:=Hd d;have i:=Hd f;have c1:=d.c1;have y:=d.c0;have C:=Blk.free d 0;clear d f);go_ret;exact ⟨rfl,g.o.setL,i.o.set _ _ _ (.inl Am)⟩
 .rw [QX he];have A:(e != 0)=true:=by simpa using he
  have z:(e == 0)=false:=by simpa using he
  clear he hz k j;go_in;go_wp2_with (go_at_call 200;refine h.o.mono ?_;rintro x p ⟨rfl,d,f⟩;have g:=Hd d;have i:=Hd f;have c1:=d.c1;clear d f);go_ret;exact ⟨rfl,g.o,i.o⟩
def Yj (b:Bz) (a:Int):Int:=if a=0 then (if b.size=0 then 0 else 11) else a
def pY {G:Prop} (h:G:=by
  go_wp2;go_ret;exact ⟨rfl,rfl⟩):G:=h
def TK (r:Nat) (a:Bz) (b:Int) (w:Wd) (e:Rdr w r a b):
  Calls prog 202 #[Ag r 0] w (Ae w (.bool (decide (b=0)&&decide (a.size≠0)))):=by
 have j:=e.c0;have c1:=e.c1;clear e;by_cases he:b=0
 .subst he;by_cases d:a.size=0
  .obtain rfl:=Jp d;exact pY
  .obtain ⟨q1,q2⟩:=I4 d;have i:a.toList.isEmpty=false:=q1;have c:=QQ d;rw [c];have g:=Hd d;clear d c;exact pY
 .have c:=QW he;have f:(b == 0)=false:=by simpa using he
  rw [c];clear he c;exact pY
def pZ {G:Prop} (h:G:=by
  go_in;go_wp2_with (go_at_call 202;refine yE HO.o ?_);go_ret;exact ⟨rfl,rfl⟩):G:=h
def Gs (r:Nat) (a:Bz) (b:Int) (w:Wd) (d:Rdr w r a b):
  Calls prog 162 #[Ag r 0] w (Ae w (.int .i64 (Yj a b))):=by
 have HO:=Hd (TK r a b w d);have c1:=d.c1;unfold Yj;clear d;by_cases he:b=0
 .subst he;rw [QK rfl];by_cases c:a.size=0
  .rw [QK c];have e:(decide ((0:Int)=0)&&decide (a.size≠0))=false:=by simp [c]
   rw [e] at HO;clear e c;exact pZ
  .rw [QX c];have e:(decide ((0:Int)=0)&&decide (a.size≠0))=true:=by simp [c]
   rw [e] at HO;clear e c;exact pZ
 .rw [QX he];have e:(decide (b=0)&&decide (a.size≠0))=false:=by simp [he]
  rw [e] at HO;clear e he;exact pZ
def Zp:Nat->Int->List Int
 |0,n=>[n]
 |f+1,n=>if 128<=n then bits BinOp.or IntKind.u8 (n % 256) 128::Zp f (n / 128) else [n]
def Vu (n:Int):Bz:=strOfNums (Zp 9 n)
def Mt:∀ (f:Nat) (n:Int),(Zp f n).length<=f+1
 |0,_=>by simp [Zp]
 |f+1,n=>by
  unfold Zp;split
  .have:=Mt f (n / 128);rw [QS];omega
  .simp
def V6 (n:Int):(Vu n).size<=10:=by
 unfold Vu;rw [WD];exact Mt 9 n
def GW (a:List Int):Array Value:=((a++List.replicate (10-a.length) 0).map (Value.int .u8)).toArray
def Qi (a:List Int) (v:Int) (h:a.length<10):(GW a).setIfInBounds a.length (.int .u8 v)=GW (a++[v]):=by
 unfold GW;obtain ⟨m,c⟩:∃ m,10-a.length=m+1:=⟨10-a.length-1,Oo⟩
 have b:10-(a++[v]).length=m:=As
 rw [c,b,List.replicate_succ];simp
def zA (a:List Int) (i:Nat) (v:Int) (h:a[i]? =some v):(GW a)[i]? =some (.int .u8 v):=by
 have b:i<a.length:=(QZ.1 h).1;unfold GW;rw [Ga,YK,WF b,h];rfl
def AG (f:Nat) (m:Int) (h:¬ 128<=m):Zp f m=[m]:=by
 cases f with
 |zero=>rfl
 |succ f=>unfold Zp;rw [QX h]
def CS (W:Wd) (g k:Nat) (h:k<=9):(Instr.sliceAt 347 (Ag g 0) none (some (.int .i64 ((k:Int)+1))) none).run prog W=.ok (.slice (Ah g 0) (k+1) 10) W:=by
 have c:prog.underlying 347=some (.array 10 5):=Ak
 have b:prog.arrayLen 347=10:=by unfold Program.arrayLen;rw [c]
 have a:prog.elem 347=5:=by unfold Program.elem;rw [c]
 have d:(sizeOf (prog.elem 347)).run prog W=.ok 1 W:=by rw [a];exact sizeOf5 W
 rw [run_sliceAt_array_h W 347 ⟨g,0,none⟩ (by rw [b,a];exact c) .i64 _ Oo (by rw [b];omega),d,b];have e:((k:Int)+1).toNat=k+1:=Oo
 simp [XB,slicedAt,e];rfl
def zy (W:Wd) (g k:Nat) (xs:List Int) (b:Blk W g 347 (GW xs)) (c:xs.length=k+1):(convert 183 9 (.slice (Ah g 0) (k+1) 10)).run prog W=.ok (.string (strOfNums xs)) W:=
 ZR W 183 5 Ak Ak g 0 (k+1) 10 xs c (fun i d=>by
  obtain ⟨v,a⟩:∃ v,xs[i]? =some v:=⟨_,QV Oo⟩
  rw [QB,b.cell i,zA xs i v a,WJ,a];rfl) 9 Ak
def Ew (s:Bz) (n:Int) (w:Wd) (Q:s.size<=1000000000) (G:0<=n) (O:n<18446744073709551616):
  Calls prog 248 #[.string s,.int .u64 n] w (Ab w (.string (s++Vu n))):=by
 obtain ⟨R,z⟩:=yG (Zp 9 n);unfold Vu;rw [z];have I:=Hd z;have J:=Hd (Blk.new w 347 (GW []));clear z;have j:=(Bf w.1.size w).alloc (Le _) (.cells (GW []) 347);have H:=Hd j;clear j;go_wp2;go_loopw [1,6] (fun v i wr=>∃ (a:List Int) (f:Nat) (m:Int),a.length+f=9/\v=.int .u64 m/\i=.int .i64 a.length/\0<=m/\m<2 ^ (7*f+1)/\a++Zp f m=R/\Blk wr w.1.size 347 (GW a)/\Below w.1.size w wr) (fun _ i _=>10-(intOf i).toNat)
 .exact ⟨[],9,n,rfl,rfl,rfl,G,Oo,I.o,J.o,H.o⟩
 .obtain ⟨a,f,m,hl,rfl,rfl,m0,m1,hr,j,iF⟩:=hrel;obtain ⟨r,rfl⟩:∃ x:Wd,x=wr:=⟨_,rfl⟩
  have C:=Hd iF;have E:=Hd j;obtain ⟨k,u⟩:=yG a.length;have g:=Hd u;have c:=Hd hr;have y:k<=9:=Oo
  have L:=j.free k
  obtain ⟨B,F⟩:∃ B,r.cell? ⟨w.1.size,k,none⟩=some B:=by
   rw [j.cell k];exact ⟨_,WI (by unfold GW;simp;omega)⟩
  rw [u] at hl ⊢;clear u j iF hr;by_cases d:128<=m
  .match f,hl,m1,c with
   |0,hl,m1,c=>exfalso;simp at m1;omega
   |f+1,hl,m1,c=>
    obtain ⟨v,D⟩:=yG (bits BinOp.or IntKind.u8 (m % 256) 128);have S:=Hd D
    have o:(a++[v])++Zp f (m / 128)=R:=by
     have h:=c.o;unfold Zp at h;rw [QK d,D] at h;simpa using h
    have A:=Hd o
    have q:Blk (r.setCell ⟨w.1.size,k,none⟩ (.int .u8 v)) w.1.size 347 (GW (a++[v])):=by
     have h:=E.o.set k (.int .u8 v);have e:=Qi a v (by rw [g.o];omega);rw [g.o] at e
     rwa [e] at h
    have K:=Hd q;have b:=Hd (C.o.setCell (p:=⟨w.1.size,k,none⟩) (Le _) (.int .u8 v))
    have l:m / 128<2 ^ (7*f+1):=by
     have e:(2:Int) ^ (7*(f+1)+1)=128*2 ^ (7*f+1):=by
      rw [show 7*(f+1)+1=7+(7*f+1) from Oo,Int.pow_add];rfl
     rw [e] at m1;omega
    have t:=Hd l;clear o q l m1;go_wp2;go_roundw
    .exact ⟨a++[v],f,m / 128,by simp [g.o];omega,rfl,by simp [g.o],Oo,t.o,A.o,K.o,b.o⟩
    .exact At
  .have o:a++[m]=R:=by rw [<-c.o,AG f m d]
   have A:=Hd o
   have q:Blk (r.setCell ⟨w.1.size,k,none⟩ (.int .u8 m)) w.1.size 347 (GW (a++[m])):=by
    have h:=E.o.set k (.int .u8 m);have e:=Qi a m (by rw [g.o];omega);rw [g.o] at e
    rwa [e] at h
   have M:¬ 9223372036854775807<s.size+(strOfNums (a++[m])).size:=by rw [WD,WW,g.o,List.length_singleton];omega
   have P:=CS (r.setCell ⟨w.1.size,k,none⟩ (.int .u8 m)) w.1.size k y;have N:=zy _ w.1.size k (a++[m]) q (by simp [g.o]);have b:=Hd (C.o.setCell (p:=⟨w.1.size,k,none⟩) (Le _) (.int .u8 m));clear o q;go_wp2;go_ret;exact ⟨by rw [<-A.o];rfl,b.o⟩
def Ih (s:Bz):Bool×Int:=if s.size=0 then (false,0) else if 1<bAt s 0 then (false,0) else (decide (bAt s 0=1),1)
def SO (s:Bz):0<=(Ih s).2/\(Ih s).2<=s.size:=by
 unfold Ih;split
 .simp
 .split
  .simp
  .simp;omega
def tm {G:Prop} (h:G:=by
  go_wp2;go_ret
  first
   |exact ⟨rfl,HG.o,Far.refl _ _⟩
   |exact ⟨rfl,HG.o.set 0 _,(Far.refl _ _).set _ _ _ (.inl Am)⟩):G:=h
def za (s:Bz) (g:Nat) (w:Wd) (k:s.size<=maxLen) (a:Blk w g 4 #[.bool false]):
  Calls prog 379 #[.string s,Ag g 0] w fun x w'=>x=.returned (.int .i64 (Ih s).2)/\Blk w' g 4 #[.bool (Ih s).1]/\Far [g] w w':=by
 unfold maxLen at k;have HG:=Hd a;have o:=a.ce 0 (.bool false);have m:=a.free 0;clear a;by_cases hz:s.size=0
 .obtain rfl:=Jp hz;exact tm
 .have h0:0<s.size:=Oo
  obtain ⟨j,p⟩:=I4 hz;have n:s.toList.isEmpty=false:=j;obtain ⟨b,c⟩:=yG ((s[0]).toNat);have d:bAt s 0=b:=by rw [Vs s 0 h0,c]
  have l:=(s[0]).toNat_lt;rw [c] at l;have f:Ih s=if 1<b then (false,0) else (decide (b=1),1):=by unfold Ih;rw [QX hz,d]
  rw [f];clear f d;by_cases e:1<b
  .rw [QK e];exact tm
  .rw [QX e];by_cases i:b=1
   .subst i;exact tm
   .obtain rfl:b=0:=Oo
    exact tm
def Uy (a:Bz) (b:Int):Bool×Bz×Int:=
 if b=0 then (if (Ih a).2=0 then ((Ih a).1,⟨#[]⟩,11) else ((Ih a).1,a.extract (Ih a).2.toNat a.size,0)) else (false,a,b)
def TbP (w:Wd) (r g:Nat) (R:Bool×Bz×Int) (x:Ending) (w':Wd):Prop:=x=.returned (.tuple #[])/\Rdr w' r R.2.1 R.2.2/\Blk w' g 4 #[.bool R.1]/\Far [r,g] w w'
def CU (r g:Nat) (a:Bz) (b:Int) (w:Wd) (x:a.size<=maxLen) (h:Rdr w r a b) (j:Blk w g 4 #[.bool false]) (v:r≠g):
  Calls prog 327 #[Ag r 0,.func (.func 379) #[] #[Ag g 0]] w (TbP w r g (Uy a b)):=by
 have p:=Hd h;have A:=Hd j;have c1:=h.c1;have K:=h.c0;by_cases he:b=0
 .subst he;obtain ⟨z,E⟩:=SO a;have q:=Hd (za a g w x j);obtain ⟨n,k,o⟩:∃ n k,Ih a=(n,k):=⟨_,_,rfl⟩
  have hn:Uy a 0=if k=0 then (n,⟨#[]⟩,11) else (n,a.extract k.toNat a.size,0):=by simp [Uy,o]
  rw [hn];simp only [o] at q z E;have l:=Hd v;clear v;unfold maxLen at x;clear h j o hn;by_cases d:k=0
  .subst d;rw [QK rfl];go_in;go_wp2_with (first|(go_at_call 379;refine q.o.mono ?_;rintro e u ⟨rfl,f,c⟩;have t:=Hd f;have s:=Hd c;have R1:=Hd (Blk.far' p.o c (by simpa using l.o));clear f c)|(go_at_call 201;refine yN2 (Hv r a 11 _ R1.o) fun w' C y=>?_))
   go_end0
   exact ⟨rfl,C.o,t.o.far' y.o (by simp;exact l.o.symm),(s.o.mono Am).trans (y.o.mono Am)⟩
  .rw [QX d];have F:(k == 0)=false:=by simpa using d
   obtain ⟨m,rfl⟩:∃ m:Nat,k=m:=⟨k.toNat,Oo⟩
   have H:m<=a.size:=Oo
   have I:=Hd d;clear d;go_in;go_wp2_with (go_at_call 379;refine q.o.mono ?_;rintro e u ⟨rfl,f,c⟩;have t:=Hd f;have s:=Hd c;have i:Rdr u r a 0:=Blk.far' p.o c (by simpa using l.o);have R1:=Hd i;have G:=i.c0;have J:=Blk.free i 0;clear f c i)
   go_end0
   exact ⟨rfl,R1.o.setL,t.o.far l.o.symm _,(s.o.mono Am).set _ _ _ (.inl Am)⟩
 .have hn:Uy a b=(false,a,b):=by simp [Uy,he]
  rw [hn];have B:(b == 0)=false:=by simpa using he
  have D:(b != 0)=true:=by simpa using he
  clear h j hn he;go_wp2
  go_end0
  exact ⟨rfl,p.o,A.o,Far.refl _ _⟩
def TL (r:Nat) (a:Bz) (b:Int) (w:Wd) (j:a.size<=maxLen) (c:Rdr w r a b):
  Calls prog 341 #[Ag r 0] w fun x w'=>x=.returned (.bool (Uy a b).1)/\RrP w r (Uy a b).2.1 (Uy a b).2.2 w':=by
 have m:=Hd (CU r w.1.size a b (Aa w #[.bool false] 4) j (Blk.alloc c _) (Blk.new w _ _) (by have:=Blk.lt c;omega));have s:=Hd (Blk.lt c);clear c j;obtain ⟨R,d⟩:=yG (Uy a b);rw [d];rw [d] at m;clear d;obtain ⟨n,l,e⟩:=R;go_in;go_wp2_with (go_at_call 327;refine m.mono ?_;rintro x w' ⟨rfl,g,f,h⟩;have p:=Hd g;have o:=Hd h;have q:=f.ce 0 (.bool n);clear g f h);go_ret;exact ⟨rfl,p,((Far.refl _ _).alloc _).next o (by intro i k;simp at k;rcases k with rfl|rfl;exact .inl Am;exact .inr (Le _))⟩
def EQ (b:Bool):Bz:=if b then ⟨#[1]⟩ else ⟨#[0]⟩
def T0 (s:Bz) (b:Bool) (w:Wd) (a:s.size<=1000000000):Calls prog 340 #[.string s,.bool b] w (Ae w (.string (s++EQ b))):=by
 cases b with
 |true=>
  go_wp2;go_ret;exact ⟨rfl,rfl⟩
 |false=>
  go_wp2;go_ret;exact ⟨rfl,rfl⟩
def Vh (t:Bz):Bz:=Vu t.size++t
def Ut (t:Bz):(Vh t).size<=10+t.size:=by
 have:=V6 t.size;unfold Vh;rw [QY];omega
def Jq (s t:Bz) (w:Wd) (c:s.size<=1000000000) (f:t.size<=1000000000):
  Calls prog 208 #[.string s,.string t] w (Ab w (.string (s++Vh t))):=by
 have b:=Hd (Ew s t.size w c Oo Oo)
 have e:¬ 9223372036854775807<(s++Vu t.size).size+t.size:=by
  have:=V6 t.size;rw [QY];omega
 go_in;go_wp2_with (go_at_call 248;refine yN b fun d a=>?_);go_ret;exact ⟨by rw [Vh,ZU];rfl,a⟩
section
variable {w:Wd} {c:Nat} {out:Bz}
def Cw (w:Wd) (c:Nat) (out:Bz):Prop:=Blk w c 270 #[.string out,.pointer none]
def Cr (w:Wd) (c r:Nat):Prop:=Blk w c 270 #[.string ⟨#[]⟩,Ag r 0]
def Cw.c0 (h:Cw w c out):w.cell? ⟨c,0,none⟩=some (.string out):=(Blk.cell h 0).trans rfl
def Cw.c1 (h:Cw w c out):w.cell? ⟨c,1,none⟩=some (.pointer none):=(Blk.cell h 1).trans rfl
def Cr.c1 {r:Nat} (h:Cr w c r):w.cell? ⟨c,1,none⟩=some (Ag r 0):=(Blk.cell h 1).trans rfl
def Cw.set {a:Bz} (h:Cw w c out):Cw (w.setCell ⟨c,0,none⟩ (.string a)) c a:=Blk.set h 0 _
def GF (n:Int):Int:=if 1099511627776<n then 1099511627777 else n
def Ur (a:Bz) (b:Int):Int×Bz×Int:=(GF (V2 a b).1,(V2 a b).2)
def ED (b:Bz) (a:Int):0<=(V2 b a).1:=by
 by_cases he:a=0
 .subst he;exact M5
 .simp [V2,he]
def MD {n:Int} (h:0<=n):0<=GF n/\GF n<=1099511627777:=by
 unfold GF;split<;>omega
theorem od {G:Prop} (h:G:=by
  go_in
  first
   |have hw:IntKind.u64.wrap n=n:=by rw [YU];omega
    go_wp2
    go_region_law (first|(go_simp;go_at_call 248;refine yP (HN.o _) fun w1 h1=>?_;have h2:Cw w1 c out:=Blk.below (w:=w.drew) HC.o h1 HL.o;have H1:=Hd h1;have H2:=Hd h2;have f0:=Blk.free h2 0;have q0:=h2.c0;clear h1 h2))
    all_goals
     go_wp2
     (try simp only [Exit.inBlock,Exit.then])
     refine Br (results_none rfl _ _ _) rfl ?_;exact ⟨rfl,H2.o.set,(Far.of_below (S:=[c]) (U0 (Bf _ _).drew H1.o (Le _))).set _ _ _ (.inl Am)⟩
   |go_wp2_with (go_at_call 252;refine HN.o.mono ?_;rintro x w1 ⟨rfl,k1,k2⟩;have K1:=Hd k1;have K2:=Hd k2;have b1:Blk w1 g t cs:=HG.o.far' k2 (by simpa using H2.o.symm);have B1:=Hd b1;have f0:=b1.free o;have q0:=(b1.cell o).trans HO.o;clear k1 k2 b1)
    go_end0
    exact ⟨rfl,Blk.far K1.o H2.o _,B1.o.set _ _,(K2.o.mono Am).set _ _ _ (.inl Am)⟩):G:=h
def Jl (c g o:Nat) (out:Bz) (n:Int) (w:Wd) (a:Cw w c out) (d:w.cell? ⟨g,o,none⟩=some (.int .i64 n)) (b:out.size<=1000000000) (hn:0<=n) (e:n<=9223372036854775807):
  Calls prog 271 #[Ag c 0,Ag g o] w fun x w'=>x=.returned (.tuple #[])/\Cw w' c (out++Vu n)/\Far [c] w w':=by
 have HC:=Hd a;have f:=a.c0;have c1:=a.c1;have HN:=Hd fun W=>Ew out n W b hn Oo
 have HL:=Hd a.lt;clear a;exact od
def ER (c r g o:Nat) (t:TypeId) (cs:Array Value) (m:Int) (a:Bz) (b:Int) (w:Wd) (u:a.size<=maxLen) (q:Cr w c r) (j:Rdr w r a b) (d:Blk w g t cs) (f:cs[o]? =some (.int .i64 m)) (h2:r≠g):
  Calls prog 271 #[Ag c 0,Ag g o] w fun x w'=>x=.returned (.tuple #[])/\Rdr w' r (Ur a b).2.1 (Ur a b).2.2/\Blk w' g t (cs.setIfInBounds o (.int .i64 (Ur a b).1))/\Far [r,g] w w':=by
 have HN:=Hd (Fy r a b w u j);have HG:=Hd d;have c1:=q.c1;have i:=ED a b;have H2:=Hd h2;have s:=(d.cell o).trans f;have HO:=Hd f;clear q j d h2 f;unfold Ur;obtain ⟨R,p⟩:=yG (V2 a b);rw [p] at HN i ⊢;clear p;obtain ⟨n,l,e⟩:=R;simp only at i HN ⊢;by_cases k:1099511627776<n
 .have hcap:GF n=1099511627777:=by unfold GF;rw [QK k]
  rw [hcap];clear hcap;exact od
 .have hcap:GF n=n:=by unfold GF;rw [QX k]
  rw [hcap];clear hcap;exact od
def Kb (c g o:Nat) (out s:Bz) (w:Wd) (a:Cw w c out) (k:w.cell? ⟨g,o,none⟩=some (.string s)) (f:out.size<=1000000000) (hn:s.size<=1000000000):
  Calls prog 260 #[Ag c 0,Ag g o] w fun x w'=>x=.returned (.tuple #[])/\Cw w' c (out++Vh s)/\Far [c] w w':=by
 have m:=a.c0;have c1:=a.c1;have h:=fun W=>Jq out s W f hn
 have i:=a.lt;clear hn;go_wp2
 go_region_law (first|(go_simp;go_at_call 208;refine yP (h _) fun e d=>?_;have b:Cw e c out:=Blk.below (w:=w.drew) a d i;have l:=Blk.free b 0;have j:=b.c0))
 all_goals
  go_wp2
  (try simp only [Exit.inBlock,Exit.then])
  apply Br (results_none rfl _ _ _) rfl;exact ⟨rfl,b.set,(Far.of_below (S:=[c]) (U0 (Bf _ _).drew d (Le _))).set _ _ _ (.inl Am)⟩
def IE (c r g o:Nat) (t:TypeId) (cs:Array Value) (m:Bz) (a:Bz) (b:Int) (w:Wd) (v:a.size<=maxLen) (p:Cr w c r) (h:Rdr w r a b) (s:Blk w g t cs) (u:cs[o]? =some (.string m)) (f:r≠g):
  Calls prog 260 #[Ag c 0,Ag g o] w fun x w'=>x=.returned (.tuple #[])/\Rdr w' r (U8 a b 200).2.1 (U8 a b 200).2.2/\Blk w' g t (cs.setIfInBounds o (.string (U8 a b 200).1))/\Far [r,g] w w':=by
 have i:=Kw r a b 200 w v h Ac Ac;have c1:=p.c1;clear p h;obtain ⟨R,k⟩:=yG (U8 a b 200);rw [k] at i ⊢;clear k;obtain ⟨n,l,e⟩:=R;go_in;go_wp2_with (go_at_call 161;apply i.mono;rintro x y ⟨rfl,q,j⟩;have d:=s.far' j (by simpa using f.symm);have A:=d.free o;have z:=(d.cell o).trans u)
 go_end0
 exact ⟨rfl,Blk.far q f _,d.set _ _,(j.mono Am).set _ _ _ (.inl Am)⟩
def FX (c g o:Nat) (out:Bz) (b:Bool) (w:Wd) (a:Cw w c out) (d:out.size<=1000000000) (f:w.cell? ⟨g,o,none⟩=some (.bool b)):
  Calls prog 259 #[Ag c 0,Ag g o] w fun x w'=>x=.returned (.tuple #[])/\Cw w' c (out++EQ b)/\Far [c] w w':=by
 have h:=a.c0;have c1:=a.c1;have i:=Blk.free a 0;have e:=fun W=>T0 out b W d
 go_wp2
 go_region_law (first|(go_simp;go_at_call 340;apply yE (e _)))
 all_goals
  go_wp2
  (try simp only [Exit.inBlock,Exit.then])
  apply Br (results_none rfl _ _ _) rfl;exact ⟨rfl,(show Cw _ c out from a).set,((Far.refl _ _).drewN 1).set _ _ _ (.inl Am)⟩
def Jk (c r g o:Nat) (t:TypeId) (cs:Array Value) (m:Bool) (a:Bz) (b:Int) (w:Wd) (v:a.size<=maxLen) (p:Cr w c r) (h:Rdr w r a b) (s:Blk w g t cs) (u:cs[o]? =some (.bool m)) (f:r≠g):
  Calls prog 259 #[Ag c 0,Ag g o] w fun x w'=>x=.returned (.tuple #[])/\Rdr w' r (Uy a b).2.1 (Uy a b).2.2/\Blk w' g t (cs.setIfInBounds o (.bool (Uy a b).1))/\Far [r,g] w w':=by
 have i:=TL r a b w v h;have c1:=p.c1;clear p h;obtain ⟨R,k⟩:=yG (Uy a b);rw [k] at i ⊢;clear k;obtain ⟨n,l,e⟩:=R;go_in;go_wp2_with (go_at_call 341;apply i.mono;rintro x y ⟨rfl,q,j⟩;have d:=s.far' j (by simpa using f.symm);have A:=d.free o;have z:=(d.cell o).trans u)
 go_end0
 exact ⟨rfl,Blk.far q f _,d.set _ _,(j.mono Am).set _ _ _ (.inl Am)⟩
def Z3 (n a:Int):Int:=if n<0\/a<n then a+1 else n
theorem lW {G:Prop} (h:G:=by
  go_in;go_wp2_with (go_at_call 271;refine HN.o.mono ?_;rintro x w1 ⟨rfl,h1,h2⟩;have c0:=(Blk.cell (HG.o.far' h2 (by simp;have:=HL.o;omega)) 0).trans (show _=some (Value.int .i64 n) from rfl);have H1:=Hd h1;have H2:=Hd h2;clear h1 h2);go_ret;exact ⟨rfl,H1.o,((Far.refl _ _).alloc _).trans H2.o⟩):G:=h
def SN (c:Nat) (out:Bz) (n a:Int) (w:Wd) (b:Cw w c out) (f:out.size<=1000000000) (hn:0<=n) (g:n<=9223372036854775807) (i6:0<=a) (i:a<=1000):
  Calls prog 335 #[Ag c 0,.int .i64 n,.int .i64 a] w fun x w'=>x=.returned (.int .i64 (Z3 n a))/\Cw w' c (out++Vu n)/\Far [c] w w':=by
 have d:=Blk.lt b;have HN:=Hd (Jl c w.1.size 0 out n (Aa w #[.int .i64 n] 3) (Blk.alloc b _) ((Blk.cell (Blk.new w _ _) 0).trans rfl) f hn g);have HG:=Hd (Blk.new w 3 #[.int .i64 n]);have HL:=Hd d;clear b d;unfold Z3;by_cases e:a<n
 .rw [QK (.inr e)];exact lW
 .rw [QX Oo];exact lW
theorem lX {G:Prop} (h:G:=by
  go_in;go_wp2_with (go_at_call 271;refine HN.o.mono ?_;rintro y w1 ⟨rfl,k1,k2,k3⟩;have c0:=(Blk.cell k2 0).trans (show _=some (Value.int .i64 x) from rfl);have K1:=Hd k1;have K3:=Hd k3;clear k1 k2 k3);go_ret;exact ⟨rfl,K1.o,((Far.refl _ _).alloc _).next K3.o (by intro i hi;simp at hi;rcases hi with rfl|rfl;exact .inl Am;exact .inr (Le _))⟩):G:=h
def G2 (c r:Nat) (n d:Int) (a:Bz) (b:Int) (w:Wd) (j:a.size<=maxLen) (o:Cr w c r) (g:Rdr w r a b) (i6:0<=d) (s:d<=1000):
  Calls prog 335 #[Ag c 0,.int .i64 n,.int .i64 d] w fun x w'=>x=.returned (.int .i64 (Z3 (Ur a b).1 d))/\RrP w r (Ur a b).2.1 (Ur a b).2.2 w':=by
 have k:=Blk.lt g;have HN:=Hd (ER c r w.1.size 0 3 #[.int .i64 n] n a b (Aa w #[.int .i64 n] 3) j (Blk.alloc o _) (Blk.alloc g _) (Blk.new w _ _) rfl Oo);have q:=Hd k;clear o g k j;have f:0<=(Ur a b).1/\(Ur a b).1<=1099511627777:=MD (ED a b);obtain ⟨R,m⟩:=yG (Ur a b);rw [m] at HN f ⊢;clear m;obtain ⟨x,l,e⟩:=R;simp only at f HN ⊢;obtain ⟨t,u⟩:=f;unfold Z3;by_cases p:d<x
 .rw [QK (.inr p)];exact lX
 .rw [QX Oo];exact lX
end
def upB (z:Int):Bool:=decide (65<=z)&&decide (z<=90)
def dgB (z:Int):Bool:=decide (48<=z)&&decide (z<=57)
def plB (z:Int):Bool:=upB z || dgB z
def Gf (z:Int) (w:Wd):Calls prog 333 #[.int .u8 z] w (Ae w (.bool (upB z))):=by
 unfold upB;by_cases a:65<=z
 .by_cases h2:z<=90
  .rw [QQ a,QQ h2];go_wp2;go_ret;exact ⟨by first|rfl|simp [a,h2],rfl⟩
  .have h3:90<z:=Oo
   have b:=QW h2;rw [QQ a,b];clear h2;go_wp2;go_ret;exact ⟨by first|rfl|simp [b],rfl⟩
 .have h3:z<65:=Oo
  have b:=QW a;rw [b];clear a;go_wp2;go_ret;exact ⟨by first|rfl|simp [b],rfl⟩
def NF (z:Int) (w:Wd):Calls prog 374 #[.int .u8 z] w (Ae w (.bool (dgB z))):=by
 unfold dgB;by_cases a:48<=z
 .by_cases h2:z<=57
  .rw [QQ a,QQ h2];go_wp2;go_ret;exact ⟨by first|rfl|simp [a,h2],rfl⟩
  .have h3:57<z:=Oo
   have b:=QW h2;rw [QQ a,b];clear h2;go_wp2;go_ret;exact ⟨by first|rfl|simp [b],rfl⟩
 .have h3:z<48:=Oo
  have b:=QW a;rw [b];clear a;go_wp2;go_ret;exact ⟨by first|rfl|simp [b],rfl⟩
def lV {G:Prop} (h:G:=by
  go_in;go_wp2_with (first|(go_at_call 333;refine yE (HU.o _) ?_)|(go_at_call 374;refine yE (HD.o _) ?_));go_ret
  first
   |exact ⟨rfl,rfl⟩
   |exact ⟨Am,rfl⟩):G:=h
def No (z:Int) (w:Wd):Calls prog 334 #[.int .u8 z] w (Ae w (.bool (plB z))):=by
 have HU:=Hd (fun W=>Gf z W);have HD:=Hd (fun W=>NF z W);unfold plB;obtain ⟨d,a⟩:=yG (dgB z);obtain ⟨u,b⟩:=yG (upB z);simp only [a] at HD;simp only [b] at HU;rw [b,a];clear b a;cases u with
 |true=>
  exact lV
 |false=>
  exact lV
def Xw (s:Bz):Bool:=decide (1<=s.size)&&decide (s.size<=8)&&upB (bAt s 0)&&(List.range s.size).all fun i=>decide (i=0) || plB (bAt s i)
def Rq {s:Bz} {j:Nat} (a:j<s.size) (b:j≠0) (h:plB (bAt s j)=false):Xw s=false:=by
 unfold Xw;rw [Yf a (by simp [b,h])];simp
def lU {G:Prop} (h:G:=by
  clear hu;go_in;go_wp2_with (go_at_call 333;refine yE (HU.o _) ?_)
  first
   |go_ret
    exact ⟨by rw [HF.o];rfl,rfl⟩
   |clear hb
    go_loop [7] (fun i=>∃ j:Nat,1<=j/\j<=s.size/\i=.int .i64 j/\∀ t,t<j->t≠0->plB (bAt s t)=true) (fun i=>s.size-(intOf i).toNat)
    .exact ⟨1,Le _,Oo,rfl,fun t h k=>absurd h Oo⟩
    .obtain ⟨j,j1,hj,rfl,hall⟩:=hrel;have HA:=Hd hall;clear hall;by_cases aE:j<s.size
     .obtain ⟨c,hc⟩:=yG ((s[j]).toNat);have wQ:bAt s j=c:=by rw [Vs s j aE,hc]
      have hc3:=(s[j]).toNat_lt;rw [hc] at hc3;have eD:=Hd wQ;clear wQ;obtain ⟨p,hp⟩:=yG (plB (c:Int));have HP:=Hd (fun W=>No (c:Int) W);simp only [hp] at HP;have HPP:=Hd hp;clear hp;cases p with
      |false=>
       have HF:=Hd (show R=false by rw [<-HR.o];exact Rq aE Oo (by rw [eD.o];exact HPP.o));go_wp2_with (go_at_call 334;refine yE (HP.o _) ?_);go_ret;exact ⟨by rw [HF.o];rfl,rfl⟩
      |true=>
       go_wp2_with (go_at_call 334;refine yE (HP.o _) ?_)
       go_round
       .refine ⟨j+1,Oo,Oo,Au,fun t ht k=>?_⟩;by_cases e:t=j
        .subst e;rw [eD.o];exact HPP.o
        .exact HA.o t Oo k
       .exact At
     .obtain rfl:j=s.size:=by omega
      have HT:=Hd (show R=true by
       rw [<-HR.o];unfold Xw;rw [dH.o,HU1.o,QQ (show 1<=s.size from Oo),QQ (show s.size<=8 from Oo),Yw (fun t ht=>by by_cases e:t=0;simp [e];simp [e,HA.o t ht e])];rfl)
      go_wp2;go_ret;exact ⟨by rw [HT.o];rfl,rfl⟩):G:=h
def yv (s:Bz) (w:Wd) (f:s.size<=maxLen):Calls prog 332 #[.string s,Ai 333,Ai 334] w (Ae w (.bool (Xw s))):=by
 unfold maxLen at f;obtain ⟨R,HR⟩:=yH (Xw s);rw [HR.o];by_cases g:s.size<1
 .have HF:=Hd (show R=false by rw [<-HR.o];unfold Xw;rw [QW Oo];simp);go_wp2;go_ret;exact ⟨by rw [HF.o];rfl,rfl⟩
 .by_cases h8:8<s.size
  .have HF:=Hd (show R=false by rw [<-HR.o];unfold Xw;rw [QW (show ¬ s.size<=8 from Oo)];simp);go_wp2;go_ret;exact ⟨by rw [HF.o];rfl,rfl⟩
  .have cU:0<s.size:=Oo
   obtain ⟨b,hb⟩:=yG ((s[0]).toNat);have a:bAt s 0=b:=by rw [Vs s 0 cU,hb]
   have d:=(s[0]).toNat_lt;rw [hb] at d;have dH:=Hd a;clear a;obtain ⟨u,hu⟩:=yG (upB (b:Int));have HU:=Hd (fun W=>Gf (b:Int) W);simp only [hu] at HU;cases u with
   |false=>
    have HF:=Hd (show R=false by rw [<-HR.o];unfold Xw;rw [dH.o,hu];simp);exact lU
   |true=>
    have HU1:=Hd hu;exact lU
def Tf (s:Bz) (w:Wd) (a:s.size<=maxLen):Calls prog 331 #[.string s] w (Ae w (.bool (Xw s))):=by
 have b:=yv s w a;go_in;go_wp2_with (go_at_call 332;apply yE b);go_ret;exact ⟨rfl,rfl⟩
def Ou (s:Bz):Nat->Nat->Int->Int
 |0,_,n=>n
 |f+1,i,n=>if dgB (bAt s i) then Ou s f (i+1) (10*n+((bAt s i:Int)-48)) else 0
def v00:Bz:=⟨#[86,48,48]⟩
def Ez (s:Bz):Int:=if s.size≠8 then 0 else if bAt s 0≠71 then 0 else if s.extract 5 s.size≠v00 then 0 else Ou s 4 1 0
def oc {G:Prop} (h:G:=by
  go_wp2;go_ret;exact ⟨rfl,rfl⟩):G:=h
def S8 (s:Bz) (w:Wd):Calls prog 339 #[.string s] w (Ae w (.int .i64 (Ez s))):=by
 obtain ⟨R,a⟩:=yG (Ez s);rw [a];unfold Ez at a;by_cases k:s.size=8
 .rw [QX (by simpa using k)] at a;have A:0<s.size:=Oo
  obtain ⟨b,l⟩:=yG ((s[0]).toNat);have u:bAt s 0=b:=by rw [Vs s 0 A,l]
  have C:=(s[0]).toNat_lt;rw [l] at C;rw [u] at a;clear u;have q:((s.size:Int) != 8)=false:=As
  by_cases e:b=71
  .rw [QX (by simpa using e)] at a;rw [k] at a;have hz:=MF (s.extract 5 8) v00;rw [show v00.toList=[86,48,48] from by rw [Vb];rfl] at hz;by_cases d:s.extract 5 8=v00
   .rw [QX (by simpa using d)] at a;rw [QQ d] at hz;subst e;have F:=Hd d;clear d;go_wp2;clear l hz;go_loop [3,4] (fun n i=>∃ (j f:Nat) (m:Int),j+f=5/\1<=j/\0<=m/\m<10 ^ j/\n=.int .i64 m/\i=.int .i64 j/\Ou s f j m=R) (fun _ i=>5-(intOf i).toNat)
    .exact ⟨1,4,0,rfl,Le _,Oo,Ac,rfl,rfl,a⟩
    .obtain ⟨j,f,m,hj,j1,m0,m1,rfl,rfl,aG⟩:=hrel
     match f,hj,aG with
     |0,hj,aG=>
      obtain rfl:j=5:=Oo
      go_wp2;go_ret;exact ⟨by rw [<-aG];rfl,rfl⟩
     |f+1,hj,aG=>
      have z:j<s.size:=Oo
      have D:j<5:=Oo
      obtain ⟨c,y⟩:=yG ((s[j]).toNat);have x:bAt s j=c:=by rw [Vs s j z,y]
      have r:=(s[j]).toNat_lt;rw [y] at r;unfold Ou at aG;rw [x] at aG;clear x;obtain ⟨p,g⟩:=yG (dgB (c:Int));have t:=fun W=>NF (c:Int) W
      simp only [g] at t;rw [g] at aG
      have v:(10:Int) ^ j<=10000:=by
       have:j<=4:=Oo
       match j,this with
       |0,_=>decide
       |1,_=>decide
       |2,_=>decide
       |3,_=>decide
       |4,_=>decide
      cases p with
      |false=>
       clear g;go_wp2_with (go_at_call 374;apply yE (t _));go_ret;exact ⟨by rw [<-aG];rfl,rfl⟩
      |true=>
       simp [dgB] at g;have E:IntKind.u8.wrap ((c:Int)-48)=(c:Int)-48:=by rw [ZX];omega
       have o:10*m+((c:Int)-48)<10 ^ (j+1):=by rw [IV];omega
       go_wp2_with (go_at_call 374;apply yE (t _))
       go_round
       .exact ⟨j+1,f,10*m+((c:Int)-48),by have:=hj;omega,Oo,Oo,o,Au,Au,by have:=aG;simpa using this⟩
       .exact At
   .rw [QK (by simpa using d)] at a;rw [QW d] at hz;subst e;clear d;subst a;exact oc
  .rw [QK (by simpa using e)] at a;have B:((b:Int) != 71)=true:=As
   subst a;clear e;exact oc
 .rw [QK (by simpa using k)] at a;have q:((s.size:Int) != 8)=true:=As
  subst a;clear k;exact oc
section
def Stop (p:Prop):Prop:=p
def Stop.go {p:Prop} (h:Stop p):p:=h
def Stop.in' {p:Prop} (h:p):Stop p:=h
section
variable {P:Program} {ops:Array Oper} {rest:List Oper} {o:Oper} {a:Act} {w:Wd} {Q:Exit->Act->Wd->Prop}
def G8 (hw:Region.wanted o (yielded ops a.tmps)=true) (v:Value) (w':Wd) (b:(execOp a.eval o).run P w=.ok (.value v) w') (h:wpList P ops Q rest (a.put o.dst v) w'):wpList P ops Q (o::rest) a w:=
 Yl hw fun _ c=>by
  unfold Oper.wp;rw [b];exact c _ _ h
def V0 (hw:Region.wanted o (yielded ops a.tmps)=true) (v:Value) (b:(execOp a.eval o).run P w=.ok (.value v) w) (h:wpList P ops Q rest (a.put o.dst v) w):wpList P ops Q (o::rest) a w:=G8 hw v w b h
def Wv (v:Value) {b:Act} (h:wpList P ops Q rest b w) (hw:Region.wanted o (yielded ops a.tmps)=true:=by kernel_rfl) (r:(execOp a.eval o).run P w=.ok (.value v) w:=by kernel_rfl)
  (c:a.put o.dst v=b:=by conv=>lhs;simp only [Act.put,Sv,Sz,Sw]):wpList P ops Q (o::rest) a w:=by
 subst c;exact V0 hw v r h
def Mr {ρ:Operand->Value} {b:BinOp} {T ty:TypeId} {x y:Operand} {p q v:Value} (c:o.op=.binOp b T x y ty) (f:ρ x=p) (hy:ρ y=q) (e:(eqGuard b T x y p q).run P w=.ok () w) (d:(binOp b T p q).run P w=.ok v w):
  (execOp ρ o).run P w=.ok (.value v) w:=by
 unfold execOp;rw [c];simp only [f,hy,ZG,e,d,XB];rfl
def GQ {ρ:Operand->Value} {T:TypeId} {x y:Operand} {b:Bool} {p q v:Value} (c:o.op=.lookup T x y b) (e:ρ x=p) (hy:ρ y=q) (d:(Instr.lookup T p q b).run P w=.ok v w):
  (execOp ρ o).run P w=.ok (.value v) w:=by
 unfold execOp;rw [c];simp only [e,hy,ZG,d,XB];rfl
def Zv (hw:Region.wanted o (yielded ops a.tmps)=true) (f:FuncId) (args:Array Value) (b:(execOp a.eval o).run P w=.ok (.enter f args) w)
  (h:Calls P f args w fun e w'=>match e with | .returned v=>wpList P ops Q rest (a.put o.dst v) w' | .panicked c=>Q (.panic c) a w' | .outgrown=>LetsOut Q):wpList P ops Q (o::rest) a w:=
 Yl hw fun K d=>by
  unfold Oper.wp;rw [b,Oper.upon_enter];refine h.mono ?_;intro e w' he;cases e with
  |returned v=>exact d _ _ he
  |panicked c=>exact he
  |outgrown=>exact he
def Zi (ops:Array Oper):List Oper->Act->Option Act
 | [],a=>some a
 |o::r,a=>match Region.wanted o (yielded ops a.tmps) with
  |false=>Zi ops r (a.put o.dst undef)
  |true=>match o.op with
   |.move x=>Zi ops r (a.put o.dst (a.eval x))
   |.assign x=>Zi ops r (a.put o.dst (a.eval x))
   |.pick c x y=>match a.eval c with
    |.bool true=>Zi ops r (a.put o.dst (a.eval x))
    |.bool false=>Zi ops r (a.put o.dst (a.eval y))
    |_=>none
   |_=>none
def Za (ops:Array Oper):∀ (rest:List Oper) (a b:Act),Zi ops rest a=some b->Q .normal b w->wpList P ops Q rest a w
 | [],a,b,h,hq=>by
  unfold Zi at h;injection h with h
  subst h;unfold wpList;exact hq
 |o::r,a,b,h,hq=>by
  unfold Zi at h;split at h
  .rename_i hw;exact wpList_skip hw (Za ops r _ b h hq)
  .rename_i hw;split at h
   .rename_i x ho;exact G8 hw (a.eval x) w (by unfold execOp;rw [ho];rfl) (Za ops r _ b h hq)
   .rename_i x ho;exact G8 hw (a.eval x) w (by unfold execOp;rw [ho];rfl) (Za ops r _ b h hq)
   .rename_i c x y ho;split at h
    .rename_i hc;exact G8 hw (a.eval x) w (by unfold execOp;rw [ho];simp only [hc];rfl) (Za ops r _ b h hq)
    .rename_i hc;exact G8 hw (a.eval y) w (by unfold execOp;rw [ho];simp only [hc];rfl) (Za ops r _ b h hq)
    .cases h
   .cases h
def Il (t:Nat) (v:Value) (c:(Zi ops rest a).map (fun x=>(x.tmps.getD t undef,x.defers))=some (v,[])) (h:∀ b:Act,b.tmps.getD t undef=v->b.defers=[]->Q .normal b w):wpList P ops Q rest a w:=by
 cases d:Zi ops rest a with
 |none=>rw [d] at c;cases c
 |some b=>
  rw [d] at c;simp only [KR,IW,UN] at c;exact Za ops rest a b d (h b c.1 c.2)
def wB {P:Program} {ops:Array Oper} {rest:List Oper} {o:Oper} {a c:Act} {w:Wd} {Q:Exit->Act->Wd->Prop} {f:FuncId} {args:Array Value} {q b:Bool} {Φ:Wd->Prop} (e:b=q) (k:Calls P f args w fun x w'=>x=.returned (.bool b)/\Φ w')
  (g:∀ w',Φ w'->q=false->wpList P ops Q rest (a.put o.dst (.bool false)) w') (d:∀ w',Aw (Φ w')->Aw (q=true)->wpList P ops Q rest c w') (i:(execOp a.eval o).run P w=.ok (.enter f args) w:=by kernel_rfl)
  (hw:Region.wanted o (yielded ops a.tmps)=true:=by kernel_rfl) (j:a.put o.dst (.bool true)=c:=by conv=>lhs;simp only [Act.put,Sv,Sz,Sw]):wpList P ops Q (o::rest) a w:=by
 subst e j;refine Zv hw f args i (k.mono ?_);rintro x w' ⟨rfl,h⟩;cases b with
 |false=>exact g _ h rfl
 |true=>exact d _ (Hd h) (Hd rfl)
def wb {P:Program} {ops:Array Oper} {rest:List Oper} {o:Oper} {a b:Act} {w:Wd} {Q:Exit->Act->Wd->Prop} {f:FuncId} {args:Array Value} {q:Bool} (j:Calls P f args w fun x w'=>x=.returned (.bool q)/\w=w')
  (d:q=false->wpList P ops Q rest (a.put o.dst (.bool false)) w) (c:Aw (q=true)->wpList P ops Q rest b w) (g:(execOp a.eval o).run P w=.ok (.enter f args) w:=by kernel_rfl)
  (hw:Region.wanted o (yielded ops a.tmps)=true:=by kernel_rfl) (i:a.put o.dst (.bool true)=b:=by conv=>lhs;simp only [Act.put,Sv,Sz,Sw]):wpList P ops Q (o::rest) a w:=
 wB rfl j (fun _ e h=>e▸d h) (fun _ e h=>e.o▸c h) g hw i
end
end
def Bb:∀ a:Fin 256,(a.val &&& 127)=a.val % 128:=Ac
def CQ (n:Nat) (h:n<256):bits .and .u8 (n:Int) 127=((n % 128:Nat):Int):=by
 have a:=(bits_nat .u8 8 Ac wraps_u8 n 127 (by simpa using h) Ac).1;have e:((127:Nat):Int)=127:=rfl;rw [e] at a;rw [a,Bb ⟨n,h⟩]
def Fj {m:Int} {b j:Nat} (h:j<=9) (c:0<=m) (e:m<2 ^ (7*j)) (f:b<256) (g:j=9->b<=1):stp m b j=m+((b % 128:Nat):Int)*2 ^ (7*j):=by
 unfold stp;rw [CQ b f];have hw:∀ x:Int,0<=x->x<18446744073709551616->IntKind.u64.wrap x=x:=fun x a b=>by rw [YU];omega
 have d:j=0\/j=1\/j=2\/j=3\/j=4\/j=5\/j=6\/j=7\/j=8\/j=9:=Oo
 rcases d with rfl|rfl|rfl|rfl|rfl|rfl|rfl|rfl|rfl|rfl
 all_goals
  simp only [Nat.reduceMul,Int.reducePow] at e ⊢;rw [hw ((b % 128:Nat):Int) Oo Oo,hw _ Oo Oo]
 .exact Go.u64_orv0 _ _ c Oo Oo Oo Oo
 .exact Go.u64_orv7 _ _ c Oo Oo Oo Oo
 .exact Go.u64_orv14 _ _ c Oo Oo Oo Oo
 .exact Go.u64_orv21 _ _ c Oo Oo Oo Oo
 .exact Go.u64_orv28 _ _ c Oo Oo Oo Oo
 .exact Go.u64_orv35 _ _ c Oo Oo Oo Oo
 .exact Go.u64_orv42 _ _ c Oo Oo Oo Oo
 .exact Go.u64_orv49 _ _ c Oo Oo Oo Oo
 .exact Go.u64_orv56 _ _ c Oo Oo Oo Oo
 .exact Go.u64_orv63 _ _ c Oo Oo Oo Oo
def oD {m:Int} {b j:Nat} (f:j<=9) (g:0<=m) (d:m<2 ^ (7*j)) (h:b<256) (e:j=9->b<=1):IntKind.u64.wrap (m+IntKind.u64.wrap ((b:Int) % 128*2 ^ (7*j)))=stp m b j/\0<=stp m b j/\(j<=8->stp m b j<2 ^ (7*(j+1))):=by
 rw [Fj f g d h e];have hw:∀ x:Int,0<=x->x<18446744073709551616->IntKind.u64.wrap x=x:=fun x a b=>by rw [YU];omega
 have c:j=0\/j=1\/j=2\/j=3\/j=4\/j=5\/j=6\/j=7\/j=8\/j=9:=Oo
 rcases c with rfl|rfl|rfl|rfl|rfl|rfl|rfl|rfl|rfl|rfl
 all_goals
  simp only [Nat.reduceMul,Nat.reduceAdd,Int.reducePow] at d ⊢;refine ⟨?_,Oo,fun _=>Oo⟩;rw [hw ((b:Int) % 128*_) Oo Oo,hw _ Oo Oo];omega
def G3 (xs:List Int) (r:Bz) (i:Nat) (x:Int) (h:xs[i]? =some x) (c:0<=x) (b:x<256):bAt (strOfNums xs++r) i=x.toNat:=by
 have d:i<xs.length:=(QZ.1 h).1;have hz:(strOfNums xs).size=xs.length:=WD xs;rw [Vs _ _ (by rw [QY];omega),ByteArray.getElem_append_left Oo]
 have:(strOfNums xs)[i]' Oo=UInt8.ofNat x.toNat:=by
  rw [UO];have a:=(QZ.1 h).2;simp [strOfNums,a]
 rw [this];simp only [UD];omega
def ri {n:Nat} (h:n<=200) (r:Bz):V2 (Vu n++r) 0=((n:Int),r,0):=by
 have d:(Vu n++r).size=(Vu n).size+r.size:=QY
 have a:ID (Vu n++r)=((n:Int),(((Vu n).size:Nat):Int)):=by
  by_cases hn:n<128
  .have he:Vu n=strOfNums [(n:Int)]:=by
    unfold Vu Zp;rw [QX Oo]
   have e:bAt (Vu n++r) 0=n:=by rw [he,G3 [(n:Int)] r 0 n rfl Oo Oo];simp
   have hz:(Vu n).size=1:=by rw [he];rfl
   unfold ID Zr;rw [QK Oo,QX Oo,e,QK hn,QX Oo,Fj Oo Oo Ac Oo Oo,hz];simp;omega
  .have he:Vu n=strOfNums [(n:Int) % 128+128,1]:=by
    unfold Vu Zp;rw [QK Oo,Lib.u8_or128_any _ Oo Oo];unfold Zp;rw [QX Oo];congr 2
    .omega
    .congr 1;omega
   have c:bAt (Vu n++r) 0=n % 128+128:=by rw [he,G3 _ r 0 ((n:Int) % 128+128) rfl Oo Oo];omega
   have b:bAt (Vu n++r) 1=1:=by rw [he,G3 _ r 1 1 rfl Oo Oo];rfl
   have hz:(Vu n).size=2:=by rw [he];rfl
   unfold ID Zr;rw [QK Oo,QX Oo,c,QX Oo,Fj Oo Oo Ac Oo Oo];unfold Zr;rw [QK Oo,QX Oo,b,QK Oo,QX Oo,Fj Oo Oo As Oo Oo,hz];simp;omega
 have f:0<(Vu n).size:=by
  unfold Vu;rw [WD];unfold Zp;split<;>simp
 unfold V2;rw [QK rfl,a,QX (fun h=>by have g:(((Vu n).size:Nat):Int)=0:=h;omega)];simp only [XO];rw [JP rfl d]
def Qe (a r:Bz) (h:a.size<=200):U8 (Vh a++r) 0 200=(a,r,0):=by
 unfold Vh;rw [ZU];have hn:=ri h (a++r);unfold U8 Xa;rw [hn];have b:¬ (200:Int)<(a.size:Int):=Oo
 simp only [QK,QX b,QY,XO];rw [QX Oo,ByteArray.extract_append_eq_left rfl,JP rfl rfl]
def rnF (l:Bz) (e:Int):Int×Bz×Int:=(if 1099511627776<(V2 l e).1 then -1 else (V2 l e).1,(V2 l e).2)
def Xz:Nat->Bz->Int->List Int×Bz×Int
 |0,l,e=>([],l,e)
 |k+1,l,e=>((rnF l e).1::(Xz k (rnF l e).2.1 (rnF l e).2.2).1,(Xz k (rnF l e).2.1 (rnF l e).2.2).2)
def EC:∀ (k:Nat) (l:Bz) (e:Int),(Xz k l e).1.length=k
 |0,_,_=>rfl
 |k+1,l,e=>by
  show (_::(Xz k _ _).1).length=k+1;rw [QS,EC k]
def qL (W:Wd) (g:Nat) (t:TypeId) (a:Int) (b:Blk W g t #[.int .u8 a]):(convert 183 9 (.slice (Ah g 0) 1 1)).run prog W=.ok (.string (strOfNums [a])) W:=
 ZR W 183 5 Ak Ak g 0 1 1 [a] rfl (fun i c=>by
  obtain rfl:i=0:=Oo
  exact b.cell 0) 9 Ak
def grow {P:Program} {d:Region.Mode} {ops:Array Oper} {Q:Exit->Act->Wd->Prop} {S S':Wd->Prop} (f:∀ w,S' w->S w):
  ∀ {c:Nat} {b:Array Bool} {a:Act} {w:Wd},wpAnyH P d ops Q S' c b a w->wpAnyH P d ops Q S c b a w
 |0,_,_,_,h=>h
 |_+1,_,_,_,h=>⟨h.1,fun i g=>wpOp_mono (fun _ _ e=>⟨f _ e.1,grow f e.2⟩) (h.2 i g)⟩
def OM (f:Nat) (n:Int):(strOfNums (Zp f n)).size<=f+1:=by
 rw [WD];exact Mt f n
def OL {f m:Nat} (h:128<=m):strOfNums (Zp (f+1) m)=strOfNums [((m % 128+128:Nat):Int)]++strOfNums (Zp f ((m:Int) / 128)):=by
 have e:Zp (f+1) (m:Int)=((m % 128+128:Nat):Int)::Zp f ((m:Int) / 128):=by
  conv=>lhs;unfold Zp
  rw [QK Oo,Lib.u8_or128_any _ Oo Oo];congr 1;omega
 rw [e];apply KZ;rw [KO];simp [strOfNums]
def StG (s:Bz) (w:Wd) (x:Ending) (w':Wd):Prop:=x=.returned (.string s)/\Below w.1.size w w'
def mR {G:Prop} (h:G:=by
  refine tk 9 (.string (strOfNums [(x:Int)]++s)) Hh ?_ (y:=by exact WL ⟨Af,by intro w' aO;have h1:=HZ.o;go_simp⟩);refine tA 10 Hh ?_;refine Ad Ak ?_ _;clear Hh;go_wp2;go_ret
  first
   |exact ⟨rfl,HB.o⟩
   |exact ⟨rfl,HB.o.alloc HB.o.size _⟩):G:=h
def mQ {G:Prop} (h:G:=by
  go_wp2;go_ret;exact ⟨rfl,Aj⟩):G:=h
def sj:∀ (f m:Nat) (w:Wd),m<128 ^ (f+1)->f<=9->Calls prog 169 #[.int .u64 m] w (StG (strOfNums (Zp f m)) w):=by
 intro f;induction f with
 |zero=>
  intro m w d e;have hw:IntKind.u8.wrap (m:Int)=m:=by rw [ZX];omega
  have u:=qL (Aa w #[.int .u8 m] 5) w.1.size 5 m (Blk.new _ _ _);have h1:decide ((m:Int)<128)=true:=QQ Oo;unfold Zp;clear d e;exact mQ
 |succ f j=>
  intro m w d e;by_cases n:m<128
  .have hw:IntKind.u8.wrap (m:Int)=m:=by rw [ZX];omega
   have u:=qL (Aa w #[.int .u8 m] 5) w.1.size 5 m (Blk.new _ _ _);have h1:decide ((m:Int)<128)=true:=QQ Oo;unfold Zp;rw [QX Oo];clear d e j n;exact mQ
  .rw [OL Oo]
   have l:∀ W:Wd,Calls prog 169 #[.int .u64 ((m:Int) / 128)] W (StG (strOfNums (Zp f ((m:Int) / 128))) W):=fun W=>by
    have:=j (m / 128) W (by rw [Nat.pow_succ] at d;exact Nat.div_lt_of_lt_mul Oo) Oo
    rwa [Int.natCast_ediv] at this
   have k:=Hd l;have hz:=OM f ((m:Int) / 128);generalize strOfNums (Zp f ((m:Int) / 128))=s at k hz ⊢;obtain ⟨x,t⟩:=yG (m % 128+128:Nat);rw [t];have h1:decide ((m:Int)<128)=false:=QW Oo;have p:(m:Int).tmod 128=(m:Int) % 128:=Int.tmod_eq_emod_of_nonneg Oo;have q:(128:Nat) ^ (f+1+1)<=128 ^ (9+1):=Nat.pow_le_pow_right Ac Oo;have o:(128:Nat) ^ (9+1)=1180591620717411303424:=Ac
   have g:IntKind.u64.wrap ((m:Int) / 128)=(m:Int) / 128:=by rw [YU];omega
   clear q o;have r:IntKind.u64.wrap ((m:Int) % 128+128)=(x:Int):=by rw [YU];omega
   have i:IntKind.u8.wrap (x:Int)=x:=by rw [ZX];omega
   have HZ:Aw ((strOfNums [(x:Int)]).size+s.size<=9223372036854775807):=Hd (by rw [WD];simp;omega);clear d e j n l hz;go_wp2;refine Rw (S:=fun _=>True) Ak trivial (fun Hh=>?_);refine tA 0 Hh ?_;refine tk 1 (.int .u64 ((m:Int) % 128)) Hh ?_ (y:=by exact WL ⟨Af,by intro w' aO;have h1:=p;go_simp⟩);refine tk 2 (.int .u64 x) Hh ?_ (y:=by exact WL ⟨Af,by intro w' aO;have h1:=r;go_simp⟩);refine tk 3 (.int .u8 x) Hh ?_ (y:=by exact WL ⟨Af,by intro w' aO;have h1:=i;go_simp⟩);refine tA 6 Hh ?_;refine tk 7 (.int .u64 ((m:Int) / 128)) Hh ?_ (y:=by exact WL ⟨Af,by intro w' aO;have h1:=g;go_simp⟩);refine Aq [4,8] ?_;refine Rc (fun K a=>?_) (Rc (fun K a=>?_) An)
   .go_simp;refine a.out _ _ trivial (fun _=>?_);clear a K Hh;try simp only [Act.put,Sv,Sz,Sw]
    refine grow (S':=fun W=>Blk W w.1.size 5 #[.int .u8 x]) (fun _ _=>trivial) ?_;have Hh:Blk (Aa w.drew #[.int .u8 x] 5) w.1.size 5 #[.int .u8 x]:=Blk.new w.drew _ _;refine tk 5 (.string (strOfNums [(x:Int)])) Hh ?_ (y:=by exact WL ⟨Af,by intro w' aO;have h1:=qL w' _ _ _ aO;go_simp⟩);refine Aq [8] ?_;refine Rc (fun K a=>?_) An;go_simp;refine yP (k.o _) fun b c=>?_
    simp only [];have HB:Aw (Below w.1.size w b):=Hd (((Bf _ _).drew.alloc (Le _) _).trans (c.mono Am));refine a.out _ _ (Hh.below c Hh.lt) (fun Hh=>?_);clear a K c;try simp only [Act.put,Sv,Sz,Sw]
    exact mR
   .go_simp;refine yP (k.o _) fun b c=>?_
    simp only [];have HB:Aw (Below w.1.size w b):=Hd ((Bf _ _).drew.trans c);refine a.out _ _ trivial (fun _=>?_);clear a K c Hh;try simp only [Act.put,Sv,Sz,Sw]
    have Hh:True:=trivial;refine Aq [4] ?_;refine Rc (fun K a=>?_) An;go_simp;refine a.out _ _ trivial (fun _=>?_);clear a K Hh;try simp only [Act.put,Sv,Sz,Sw]
    refine grow (S':=fun W=>Blk W b.1.size 5 #[.int .u8 x]) (fun _ _=>trivial) ?_;have Hh:Blk (Aa b #[.int .u8 x] 5) b.1.size 5 #[.int .u8 x]:=Blk.new b _ _;refine tk 5 (.string (strOfNums [(x:Int)])) Hh ?_ (y:=by exact WL ⟨Af,by intro w' aO;have h1:=qL w' _ _ _ aO;go_simp⟩);exact mR
def Gm (n:Int) (w:Wd) (a:0<=n) (b:n<18446744073709551616):Calls prog 169 #[.int .u64 n] w (StG (Vu n) w):=by
 obtain ⟨m,rfl⟩:=JM a
 exact sj 9 m w (by
  have:(128:Nat) ^ (9+1)=1180591620717411303424:=Ac
  omega) (Le _)
section
variable {P:Program} {fn:Func} {tmps:Array Value} {p q:Nat} {t:TypeId} {b:Nat} {c:Value} {W:Wd} {g:Nat} {w:Wd} {l:Bz} {e:Int} {X:Wd} {s:Bz} {f j:Nat} {m:Int}
def rdV (l:Bz) (e:Int):Array Value:=#[.string l,.int .i64 e]
def Ua (l:Bz) (e:Int):(rdV l e).all (·.oneCell')=true:=by simp [rdV,Value.oneCell']
def BF {v:Value} (h:fn.results=#[.tmp q,.cell p t]) (a:tmps.getD p undef=(Ag b 0)) (d:tmps.getD q undef=v)
  (i:(loadVar t ⟨b,0,none⟩).run P W=.ok c W):(results fn tmps).run P W=.ok (.tuple #[v,c]) W:=by
 have k:tmps[p]?.getD undef=Ag b 0:=by simpa using a
 have n:tmps[q]?.getD undef=v:=by simpa using d
 simp [results,h,k,n,asAddr,i]
def El (W:Wd) (b:Nat) (cs:Array Value) (h:Blk W b 185 cs) (a:cs.size=2):(loadVar 185 ⟨b,0,none⟩).run prog W=.ok (.agg cs) W:=
 ZQ W b 185 185 cs (0,0) _ h underlying185 rfl (by rw [a];kernel_rfl)
def Xq {B:Nat} {a:Wd} (h:Below B a w) (d:B<=g) (cs:Array Value):Below B a (w.setRow g cs):=
 h.trans ⟨rfl,rfl,rfl,Am,fun k i=>QE w g k cs Oo⟩
def BM (h:fn.results=#[.cell p t]) (d:tmps.getD p undef=(Ag b 0))
  (a:(loadVar t ⟨b,0,none⟩).run P W=.ok c W):(results fn tmps).run P W=.ok c W:=by
 have i:tmps[p]?.getD undef=Ag b 0:=by simpa using d
 simp [results,h,i,asAddr,a]
def Gp (e:Int) (w:Wd):Calls prog 175 #[.int .i64 e] w (Ab w (.agg (rdV ⟨#[]⟩ e))):=by
 go_in;have a:Aw (Blk (Aa w #[.string ⟨#[]⟩,.int .i64 e] 185) w.1.size 185 #[.string ⟨#[]⟩,.int .i64 e]):=Hd (Blk.new w _ _);go_wp2;refine Br (v:=.agg (rdV ⟨#[]⟩ e)) (BM results175 rfl (El _ _ _ a rfl)) rfl ?_;exact ⟨rfl,Aj⟩
structure RX (l:Bz) (e:Int) (w X:Wd):Prop where
 b1:Blk X w.1.size 185 (rdV l e)
 b2:Blk X (w.1.size+1) 185 (rdV ⟨#[]⟩ 0)
 be:Below w.1.size w X
 sz:w.1.size+2<=X.1.size
def RX.new (l:Bz) (e:Int) (w:Wd):RX l e w ((Aa w (rdV l e) 185).alloc (.cells #[.string ⟨#[]⟩,.int .i64 0] 185)):=
 ⟨(Blk.new w _ _).alloc _,U3 (w.alloc _) _ _ _ Am,Aj.alloc Am _,Am⟩
def RX.next {d:Wd} (h:RX l e w X) (a:Below X.1.size X d):RX l e w d:=
 have hz:=h.sz
 ⟨h.b1.below a Oo,h.b2.below a Oo,U0 h.be a Oo,Lx hz a.size⟩
def RX.c0 (h:RX l e w X):X.cell? ⟨w.1.size,0,none⟩=some (.string l):=(h.b1.cell 0).trans rfl
def RX.c1 (h:RX l e w X):X.cell? ⟨w.1.size,1,none⟩=some (.int .i64 e):=(h.b1.cell 1).trans rfl
def RdG (v:Value) (l:Bz) (e:Int) (w:Wd) (x:Ending) (w':Wd):Prop:=x=.returned (.tuple #[v,.agg (rdV l e)])/\Below w.1.size w w'
def RX.rd (h:RX l e w X) (a:Bz) (b:Int):(loadVar 185 ⟨w.1.size+1,0,none⟩).run prog (X.setRow (w.1.size+1) (rdV a b))=.ok (.agg (rdV a b)) (X.setRow (w.1.size+1) (rdV a b)):=
 El _ _ _ (QR _ _ _ _ _ _ h.b2) rfl
def RX.post (h:RX l e w X) (v:Value) (a:Bz) (b:Int):RdG v a b w (.returned (.tuple #[v,.agg (rdV a b)])) (X.setRow (w.1.size+1) (rdV a b)):=
 ⟨rfl,Xq h.be Oo _⟩
def RX.ret (h:RX l e w X) (v:Value) (a:Bz) (b:Int) {d:Act} (n:fn.results=#[.tmp q,.cell p 185])
  (k:d.tmps.getD p undef=Ag (w.1.size+1) 0:=by rfl) (o:d.tmps.getD q undef=v:=by rfl) (i:d.defers=[]:=by rfl):bodyPost prog fn (RdG v a b w) .ret d (X.setRow (w.1.size+1) (rdV a b)):=
 Br (BF n k o (h.rd a b)) i (h.post v a b)
def RX.drew (h:RX l e w X):RX l e w X.drew:=h.next (Bf _ _).drew
def RdS (l:Bz) (e:Int) (g:Nat) (W:Wd):Prop:=Blk W g 185 (rdV l e)
def RdS.c0 (h:RdS l e g W):W.cell? ⟨g,0,none⟩=some (.string l):=(Blk.cell h 0).trans rfl
def RdS.c1 (h:RdS l e g W):W.cell? ⟨g,1,none⟩=some (.int .i64 e):=(Blk.cell h 1).trans rfl
def RdS.row {k:Nat} (h:RdS l e g W) (a:k≠g) (cs:Array Value):RdS l e g (W.setRow k cs):=(QE W k g cs (fun e=>a e.symm)).trans h
def xH (h:ID l=(0,0)):V2 l 0=(0,⟨#[]⟩,11):=by
 unfold V2;rw [h,QK rfl,QK rfl]
def rj {n k:Int} (h:ID l=(n,k)) (a:k≠0):V2 l 0=(n,l.extract k.toNat l.size,0):=by
 unfold V2;rw [h,QK rfl,QX a]
def ue (d:j<s.size) (a:bAt s j=b):Zr s (f+1) m j=if j=9/\1<b then (0,0) else if b<128 then (if b=0/\0<j then (0,0) else (stp m b j,(j:Int)+1)) else Zr s f (stp m b j) (j+1):=by
 conv=>lhs;unfold Zr
 rw [QK d,a]
def qz (a:¬ j<s.size):Zr s (f+1) m j=(0,0):=by unfold Zr;rw [QX a]
theorem zk {G:Prop} (h:G:=by
  go_wp2_with (first|(go_at_call 175;refine yT (Gp _ _) HX.o.next fun w5 aR=>?_)|(with_reducible refine yS 185 3 aR.o.b2 (Ua _ _) ?_))
  first
   |all_goals
     exact aR.o.ret (.int .u64 0) (⟨#[]⟩) (11) results223
   |exact aR.o.ret (.int .u64 0) (⟨#[]⟩) (11) results223):G:=h
def Ra (l:Bz) (e:Int) (w:Wd) (hs:l.size<=maxLen):Calls prog 223 #[.agg (rdV l e)] w (RdG (.int .u64 (V2 l e).1) (V2 l e).2.1 (V2 l e).2.2 w):=by
 have HX:=Hd (RX.new l e w);have c0:=HX.c0;have c1:=HX.c1;unfold maxLen at hs;by_cases he:e=0
 .subst he;obtain ⟨D,U⟩:=yG (ID l);obtain ⟨R,O⟩:=yG (V2 l 0);rw [O];have Y:=Hd O;have Q:=Hd U;clear O U;go_wp2;generalize (Aa w (rdV l 0) 185).alloc (.cells #[.string ⟨#[]⟩,.int .i64 0] 185)=X at HX c0 c1 ⊢;go_loop [4,5,6] (fun n i _=>∃ (j f:Nat) (m:Int),j+f=10/\n=.int .u64 m/\i=.int .i64 j/\0<=m/\m<2 ^ (7*j)/\Zr l f m j=D) (fun _ i _=>10-(intOf i).toNat)
  .exact ⟨0,10,0,Ac,rfl,rfl,XI _,Ac,Q⟩
  .obtain ⟨j,f,m,hj,rfl,rfl,i6,iW,r⟩:=hrel;have E:D=(0,0)->R=(0,⟨#[]⟩,11):=fun h=>by rw [<-Y.o];exact xH (Q.trans h)
   have v:=Hd E;clear E
   match f,hj,r with
   |0,hj,r=>
    obtain rfl:j=10:=Oo
    obtain rfl:=v.o r.symm;clear r i6 iW;exact zk
   |f+1,hj,r=>
    have fH:j<10:=Oo
    have HJ:=Hd hj;by_cases J:j<l.size
    .obtain ⟨b,x⟩:=yG ((l[j]).toNat);have Z:=(l[j]).toNat_lt;rw [x] at Z;rw [ue J (by rw [Vs l j J,x])] at r;have C:=Hd r;have T:Aw (0<=m/\m<2 ^ (7*j)):=Hd ⟨i6,iW⟩;clear r hj;by_cases z:j=9/\1<b
     .obtain ⟨rfl,k⟩:=z;obtain rfl:=v.o (by rw [<-C.o,QK ⟨rfl,k⟩]);exact zk
     .have hst:=oD Oo i6 iW Z (fun h=>by have:=fun k=>z ⟨h,k⟩;omega);have r:=C.o;rw [QX z] at r;have C:=Hd r;have F:=Hd hst;have L:IntKind.i64.wrap ((j:Int)+1)=(j:Int)+1:=QL _ Oo;have i0:(0:Int)<=(j:Int)+1:=Oo
      have M:(j:Int)+1<=(l.size:Int):=Oo
      have H:Aw (b<128->¬ (b=0/\0<j)->R=(stp m b j,l.extract ((j:Int)+1).toNat l.size,0)):=Hd (fun k B=>by
       have A:=C.o;rw [QK k,QX B] at A;rw [<-Y.o];exact rj (Q.trans A.symm) Oo)
      have I:Aw (b<128->(b=0/\0<j)->R=(0,⟨#[]⟩,11)):=Hd (fun k B=>by
       have A:=C.o;rw [QK k,QK B] at A;exact v A.symm)
      clear hst r v;by_cases u:b<128
      .by_cases x:b=0/\0<j
       .obtain rfl:=I.o u x;clear H I z;obtain ⟨rfl,x⟩:=x;by_cases d:j=9
        .subst d;exact zk
        .have V:((j:Int) == 9)=false:=As
         clear d;exact zk
       .obtain rfl:=H.o u x;clear H I;by_cases N:b=0
        .subst N;obtain rfl:j=0:=Oo
         obtain rfl:m=0:=Oo
         clear x z;go_wp2;refine Rw (S:=RdS l 0 w.1.size) Ak HX.drew.b1 (fun a=>?_)
         iterate 2 refine tB a ?_
         refine tk 2 (.string l) a ?_ (y:=by exact WL ⟨Af,by intro w' o;have k:=o.c0;go_simp⟩);refine tA 3 a ?_;refine tk 4 (.int .i64 1) a ?_ (y:=by exact WL ⟨Af,by intro w' o;go_simp;rfl⟩);refine tk 5 (.string (l.extract 1 l.size)) a ?_ (y:=by exact WL ⟨Af,by intro w' o;have B:¬ ((l.size:Int)<1):=(by have:=M;omega);go_simp⟩);refine tk 6 (.agg (rdV (l.extract 1 l.size) 0)) a ?_ (y:=by exact WL ⟨Af,by intro w' o;go_simp;rfl⟩);refine tA 7 a ?_;refine ts 8 (rdV (l.extract 1 l.size) 0) HX.drew.b2 (Ua _ _) (a.row Oo _) ?_;simp only [Act.put];refine Ad Ak ?_ _;clear a;go_wp2;rw [show stp 0 0 0=0 from rfl];exact HX.drew.ret (.int .u64 0) (l.extract 1 l.size) 0 results223
        .by_cases d:j=9
         .subst d;obtain rfl:b=1:=by have:=fun k=>z ⟨rfl,k⟩;omega
          clear x N z;go_wp2;refine Rw (S:=RdS l 0 w.1.size) Ak HX.drew.b1 (fun a=>?_)
          iterate 2 refine tB a ?_
          refine tk 2 (.string l) a ?_ (y:=by exact WL ⟨Af,by intro w' o;have k:=o.c0;go_simp⟩);refine tA 3 a ?_;refine tk 4 (.int .i64 10) a ?_ (y:=by exact WL ⟨Af,by intro w' o;go_simp;rfl⟩);refine tk 5 (.string (l.extract 10 l.size)) a ?_ (y:=by exact WL ⟨Af,by intro w' o;have B:¬ ((l.size:Int)<10):=(by have:=M;omega);go_simp⟩);refine tk 6 (.agg (rdV (l.extract 10 l.size) 0)) a ?_ (y:=by exact WL ⟨Af,by intro w' o;go_simp;rfl⟩);refine tA 7 a ?_;refine ts 8 (rdV (l.extract 10 l.size) 0) HX.drew.b2 (Ua _ _) (a.row Oo _) ?_;simp only [Act.put];refine Ad Ak ?_ _;clear a;go_wp2;rw [show stp m 1 9=m+9223372036854775808 by rw [Fj Ac T.o.1 T.o.2 Ac (fun _=>Ac)];simp only [Nat.reduceMod,Nat.reduceMul,Int.reducePow];omega]
          exact HX.drew.ret (.int .u64 (m+9223372036854775808)) (l.extract 10 l.size) 0 results223
         .have e0:((b:Int) == 0)=false:=As
          have V:((j:Int) == 9)=false:=As
          clear x d N z;go_wp2;have HQ:=Hd F.1.symm;generalize hq:IntKind.u64.wrap (m+IntKind.u64.wrap ((b:Int) % 128*2 ^ (7*j)))=q;have HG:=Hd hq;refine Rw (S:=RdS l 0 w.1.size) Ak HX.drew.b1 (fun a=>?_)
          iterate 2 refine tB a ?_
          refine tk 2 (.string l) a ?_ (y:=by exact WL ⟨Af,by intro w' o;have k:=o.c0;go_simp⟩);refine tA 3 a ?_;refine tk 4 (.int .i64 ((j:Int)+1)) a ?_ (y:=by exact WL ⟨Af,by intro w' o;have k:=L;go_simp⟩);refine tk 5 (.string (l.extract ((j:Int)+1).toNat l.size)) a ?_ (y:=by exact WL ⟨Af,by intro w' o;have k:=i0;have B:=M;go_simp⟩);refine tk 6 (.agg (rdV (l.extract ((j:Int)+1).toNat l.size) 0)) a ?_ (y:=by exact WL ⟨Af,by intro w' o;go_simp;rfl⟩);refine tA 7 a ?_;refine ts 8 (rdV (l.extract ((j:Int)+1).toNat l.size) 0) HX.drew.b2 (Ua _ _) (a.row Oo _) ?_;simp only [Act.put];refine Ad Ak ?_ _;clear a;go_wp2;rw [show stp m b j=q from HQ.o.trans HG.o];exact HX.drew.ret (.int .u64 q) (l.extract ((j:Int)+1).toNat l.size) 0 results223
      .have aU:Aw (Zr l f (stp m b j) (j+1)=D):=Hd (by have A:=C.o;rw [QX u] at A;exact A);have d:j≠9:=fun h=>z ⟨h,Oo⟩
       have V:((j:Int) == 9)=false:=As
       have K:=Hd d;clear H I z d;go_wp2
       go_round
       .exact ⟨j+1,f,stp m b j,by have:=HJ.o;omega,by rw [F.o.1],Au,F.2.1,F.2.2 (by have:=K.o;omega),aU⟩
       .exact At
    .obtain rfl:=v.o (by rw [<-r,qz J]);clear r i6 iW hj;exact zk
 .have k:(e != 0)=true:=by simpa using he
  have hn:V2 l e=(0,l,e):=by unfold V2;rw [QX he]
  rw [hn];clear hn he;go_wp2;refine Rw (S:=RdS l e w.1.size) Ak HX.drew.b1 (fun a=>?_);refine tA 1 a ?_;refine tl 0 (a) a underlying185 ?_;simp only [Act.put,Sv,Sz,Sw];refine ts 2 (rdV l e) HX.drew.b2 (Ua _ _) (a.row Oo _) ?_;simp only [Act.put];refine Ad Ak ?_ _;clear a;go_wp2;exact HX.drew.ret (.int .u64 0) (l) e results223
end
def Jt (w:Wd) (o:Obj):w.1.size<=(w.alloc o).1.size:=Am
def Z6 (x:Chg):Bool:=chB x.kind x.id x.key x.rcd x.vol
def oA (x:Chg) (w:Wd) (d:x.vol.size<=maxLen):
  Calls prog 61 #[.agg #[.int .i64 x.kind,.int .i64 x.id,.string x.key,.string x.rcd,.string x.vol]] w (Ab w (.bool (!Z6 x))):=by
 obtain ⟨k,id,a,b,c⟩:=x;simp only at d ⊢;obtain ⟨R,e⟩:=yG (Z6 ⟨k,id,a,b,c⟩);rw [e];have H:=Hd (GV k id a b c (Aa w #[.int .i64 k,.int .i64 id,.string a,.string b,.string c] 50) d);rw [show chB k id a b c=R from e] at H;clear e d;have i:=Hd (Xj w #[.int .i64 k,.int .i64 id,.string a,.string b,.string c] 50);go_in;go_wp2_with fail;refine yP H fun g f=>?_
 have h:=Hd (Ul (show Below (w.1.size+1) (Aa w #[.int .i64 k,.int .i64 id,.string a,.string b,.string c] 50) g by simpa using f));clear f;go_wp2;go_ret;exact ⟨rfl,h⟩
def oz (x:Rdd) (w:Wd):
  Calls prog 64 #[.agg #[.int .i64 x.kind,.int .i64 x.id,.string x.key,.string x.ak,.string x.ar,.int .i64 x.code]] w (Ab w (.bool (!rdB x))):=by
 have H:=fun W=>Hd (MK x W)
 obtain ⟨k,id,b,d,c,a⟩:=x;simp only at H ⊢;generalize rdB ⟨k,id,b,d,c,a⟩=R at H ⊢;have H:=H (Aa w #[.int .i64 k,.int .i64 id,.string b,.string d,.string c,.int .i64 a] 48);go_in;go_wp2_with fail;refine yP H fun f e=>?_
 have g:=Hd (Ul (show Below (w.1.size+1) (Aa w #[.int .i64 k,.int .i64 id,.string b,.string d,.string c,.int .i64 a] 48) f by simpa using e));clear e;go_wp2;go_ret;exact ⟨rfl,g⟩
def MJ (x:Com):Prop:=∀ c∈x.cs,c.vol.size<=maxLen
def Zy (x:Com):Bool:=Y4 x.unit&&decide (x.cn<=300)&&Y4 x.num&&decide (x.num+x.cn-1<=1099511627776)&&!(x.cs.any fun c => !Z6 c)&&!(x.rs.any fun r => !rdB r)
def lA {G:Prop} (h:G:=by
  go_in;go_wp2_with (go_at_call 59;(with_reducible refine (HU.o _).mono ?_);rintro e w' ⟨rfl,rfl⟩);go_ret;exact ⟨by rw [aU.o];rfl,Ul B0.o⟩):G:=h
def CO (x:Com) (w:Wd) (bS:ComOk w w.1.size x) (K:MJ x):
  Calls prog 32 #[OT x] w (Ab w (.bool (Zy x))):=by
 obtain ⟨R,i⟩:=yG (Zy x);rw [i];have B:=fun W f l k=>RV x W f l k
 obtain ⟨a,b,u,o,t,p,g,cc,rs,cs⟩:=x;unfold OT at B ⊢;obtain ⟨H,E,D,I⟩:=bS;simp only [Zy] at B H E D I K i ⊢;unfold maxLen at D I;have HU:Aw (∀ W:Wd,Calls prog 59 #[.int .i64 a] W (Ae W (.bool (Y4 a)))):=Hd fun W=>F0 a W
 have v:Aw (∀ W:Wd,Calls prog 59 #[.int .i64 b] W (Ae W (.bool (Y4 b)))):=Hd fun W=>F0 b W
 have N:=Hd B
 have F:Aw (∀ W:Wd,Below w.1.size w W->Calls prog 60 #[.slice p g cc,Ai 61] W (Ab W (.bool (cs.any fun c => !Z6 c)))):=
  Hd fun W z=>ur _ p g cc cs W (E.after z z.size) Oo fun x O W' _=>oA x W' (K x O)
 have M:Aw (∀ W:Wd,Below w.1.size w W->Calls prog 63 #[.slice u o t,Ai 64] W (Ab W (.bool (rs.any fun r => !rdB r)))):=
  Hd fun W z=>yn _ u o t rs W (H.after z z.size) Oo fun x O W' _=>oz x W'
 clear B H E D I K;have B0:=Hd (Xj w #[.int .i64 a,.int .i64 b,.slice u o t,.slice p g cc] 42);cases f:Y4 a with
 |false=>
  rw [f] at HU;have d:R=false:=by rw [<-i,f];rfl
  have aU:=Hd d;clear i d f;exact lA
 |true=>
 rw [f] at HU;by_cases l:g<=300;rotate_left
 .have d:R=false:=by rw [<-i,f];simp [l]
  have aU:=Hd d;have X:decide ((300:Int)<(g:Int))=true:=As
  have T:decide (300<g)=true:=As
  clear i d f l;exact lA
 have X:decide ((300:Int)<(g:Int))=false:=As
 have T:decide (300<g)=false:=As
 cases k:Y4 b with
 |false=>
  rw [k] at v;have d:R=false:=by rw [<-i,f,k];simp
  have aU:=Hd d;clear i d f l k;go_in;go_wp2_with (go_at_call 59;first|((with_reducible refine (HU.o _).mono ?_);rintro e w' ⟨rfl,rfl⟩)|((with_reducible refine (v.o _).mono ?_);rintro e w' ⟨rfl,rfl⟩));go_ret;exact ⟨by rw [aU.o];rfl,Ul B0.o⟩
 |true=>
 rw [k] at v;obtain ⟨P,S⟩:=Gw k;have m:=Hd (N.o (Aa w #[.int .i64 a,.int .i64 b,.slice u o t,.slice p g cc] 42) P S l);obtain ⟨q,L⟩:=yG (b+g-1:Int);rw [L] at m i;clear N L P S;by_cases C:q<=1099511627776;rotate_left
 .have d:R=false:=by rw [<-i,f,k];simp [C]
  have aU:=Hd d;have Z:decide ((1099511627776:Int)<q)=true:=As
  clear i d f l k C;go_in;go_wp2_with (first|(go_at_call 59;(with_reducible refine (HU.o _).mono ?_);rintro e w' ⟨rfl,rfl⟩)|(go_at_call 59;(with_reducible refine (v.o _).mono ?_);rintro e w' ⟨rfl,rfl⟩)|(go_at_call 38;refine yP m.o fun y n=>?_;have j:=Hd (show Below (w.1.size+1) (Aa w #[.int .i64 a,.int .i64 b,.slice u o t,.slice p g cc] 42) y by simpa using n);clear n));go_ret;exact ⟨by rw [aU.o];rfl,Ul j.o⟩
 have Z:decide ((1099511627776:Int)<q)=false:=As
 have d:R=(!(cs.any fun c => !Z6 c)&&!(rs.any fun r => !rdB r)):=by rw [<-i,f,k];simp [l,C]
 clear i f l k C;generalize (cs.any fun c => !Z6 c)=Y at F d;generalize (rs.any fun r => !rdB r)=U at M d;have aU:=Hd d;clear d;cases Y with
 |true=>
  go_in;go_wp2_with (first|(go_at_call 59;(with_reducible refine (HU.o _).mono ?_);rintro e w' ⟨rfl,rfl⟩)|(go_at_call 59;(with_reducible refine (v.o _).mono ?_);rintro e w' ⟨rfl,rfl⟩)|(go_at_call 38;refine yP m.o fun y n=>?_;have j:=Hd (show Below (w.1.size+1) (Aa w #[.int .i64 a,.int .i64 b,.slice u o t,.slice p g cc] 42) y by simpa using n);have c2:=EG j.o 2;have c3:=EG j.o 3;simp at c2 c3;clear n)|(go_at_call 60;refine yP (F.o _ (Ul j.o)) fun w2 A=>?_;have s:=Hd (U0 j.o A (Xx j.o));have J:=EG s.o 2;simp at J;clear A));go_ret;exact ⟨by rw [aU.o];rfl,Ul s.o⟩
 |false=>
  go_in;go_wp2_with (first|(go_at_call 59;(with_reducible refine (HU.o _).mono ?_);rintro e w' ⟨rfl,rfl⟩)|(go_at_call 59;(with_reducible refine (v.o _).mono ?_);rintro e w' ⟨rfl,rfl⟩)|(go_at_call 38;refine yP m.o fun y n=>?_;have j:=Hd (show Below (w.1.size+1) (Aa w #[.int .i64 a,.int .i64 b,.slice u o t,.slice p g cc] 42) y by simpa using n);have c2:=EG j.o 2;have c3:=EG j.o 3;simp at c2 c3;clear n)|(go_at_call 60;refine yP (F.o _ (Ul j.o)) fun w2 A=>?_;have s:=Hd (U0 j.o A (Xx j.o));have J:=EG s.o 2;simp at J;clear A)|(go_at_call 63;refine yP (M.o _ (Ul s.o)) fun w3 Q=>?_;have V:=Hd (U0 s.o Q (Xx s.o));clear Q));go_ret;exact ⟨by rw [aU.o];cases U<;>rfl,Ul V.o⟩
end Go.Proofs.YtdleakjejodjjaaGreatDoor
