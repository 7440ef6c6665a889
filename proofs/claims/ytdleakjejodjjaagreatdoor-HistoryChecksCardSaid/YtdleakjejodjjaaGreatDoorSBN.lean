/- Of the history laws. -/
import Derived.Test.YtdleakjejodjjaaGreatDoorSBM
import Derived.Test.YtdleakjejodjjaaGreatDoorSAQ
import Derived.Test.YtdleakjejodjjaaGreatDoorSBF
namespace Go.Proofs.YtdleakjejodjjaaGreatDoor
open Tryz
set_option linter.all false
set_option maxRecDepth 100000
set_option maxHeartbeats 20000000
open Go.RowKit
structure DO (x:Cnt) (n:Int) (c:Chg) (w W:Wd):Prop where
 dw:DW x n c w W
 b4:Blk W (w.1.size+3) 50 (chC c).toArray
 s4:w.1.size+4<=W.1.size
def DO.next {x:Cnt} {n:Int} {c:Chg} {w W W':Wd} (h:DO x n c w W) (a:Below W.1.size W W'):DO x n c w W':=⟨Vk h.dw a,h.b4.below a h.b4.lt,Lx h.s4 a.size⟩
def dw0 (x:Cnt) (n:Int) (c:Chg) (w:Wd):Wd:=((Aa w (cnC x).toArray 37).alloc (.cells (nbC n c).toArray 108)).alloc (.cells zV.toArray 37)
def Es (x:Cnt) (n:Int) (c:Chg) (w:Wd):(dw0 x n c w).1.size=w.1.size+3:=by simp [dw0]
def DO.new (x:Cnt) (n:Int) (c:Chg) (w:Wd) (a:Array Value):DO x n c w ((Aa (dw0 x n c w) a 50).setRow (w.1.size+3) (chC c).toArray):=by
 have h:=U5 (dw0 x n c w) a (chC c).toArray 50;rw [Es] at h;rw [h];have b:Below (dw0 x n c w).1.size (dw0 x n c w) (Aa (dw0 x n c w) (chC c).toArray 50):=Aj;exact ⟨Vk (IB x n c w) b,U3 _ _ _ _ (Es x n c w).symm,by simp [Es]⟩
def DO.n {x:Cnt} {n:Int} {c:Chg} {w W:Wd} (h:DO x n c w W):W.cell? ⟨w.1.size+1,0,none⟩=some (.int .i64 n):=by rw [h.dw.b2.cell];rfl
def DO.x {x:Cnt} {n:Int} {c:Chg} {w W:Wd} (h:DO x n c w W) (i:Nat) (v:Value) (a:(cnC x)[i]? =some v):W.cell? ⟨w.1.size,i,none⟩=some v:=by rw [h.dw.b1.cell];simpa using a
def DO.c {x:Cnt} {n:Int} {c:Chg} {w W:Wd} (h:DO x n c w W) (i:Nat) (v:Value) (a:(chC c)[i]? =some v):W.cell? ⟨w.1.size+3,i,none⟩=some v:=by rw [h.b4.cell];simpa using a
def Kc (c:Chg):(chC c).toArray.all (·.oneCell')=true:=by simp [chC,Value.oneCell']
def qs {x:Cnt} {n:Int} {c:Chg} (h:(Vi x.d x.ap x.ps&&Z6 c&&!decide (n<1)&&!decide (1099511627776<n))=false):doR (plC x) n c=.inl 1:=by
 unfold doR;rw [QX];intro a;simp only [QU,QG] at a;have b:Z6 c=true:=a.1.1.2;rw [show Vi x.d x.ap x.ps=true from a.1.1.1,b,QW (show ¬ n<1 from Oo),QW (show ¬ 1099511627776<n from Oo)] at h;exact absurd h Ac
def ua {x:Cnt} {n:Int} {c:Chg} (h:(Vi x.d x.ap x.ps&&Z6 c&&!decide (n<1)&&!decide (1099511627776<n))=true):(Vi (plC x).d (plC x).ap (plC x).ps&&chB c.kind c.id c.key c.rcd c.vol&&decide (1<=n)&&decide (n<=1099511627776))=true:=by
 simp only [QU,XN,KJ,QG] at h ⊢;exact ⟨⟨⟨h.1.1.1,h.1.1.2⟩,Oo⟩,Oo⟩
def u9 {x:Cnt} {n:Int} {c:Chg} (h:(Vi x.d x.ap x.ps&&Z6 c&&!decide (n<1)&&!decide (1099511627776<n))=true) (a:(c.id != x.d.id || decide (n<=x.ap))=true):doR (plC x) n c=.inr (plC x):=by
 unfold doR;rw [QK (ua h),QK];simp only [XU,bne_iff_ne,QG] at a;exact a
def DoS (x:Cnt) (R:Int ⊕ PC) (w:Wd) (e:Ending) (w':Wd):Prop:=match R with
 |.inl er=>e=.returned (.tuple #[.agg zV.toArray,.int .i64 er])/\Below w.1.size w w'
 |.inr y=>∃ z:Cnt,plC z=y/\e=.returned (.tuple #[.agg (cnC z).toArray,.int .i64 0])/\CW w' z/\(z=x\/∀ a,z.pA=some a->w.1.size<=a.block)/\Below w.1.size w w'
def RoP (w:Wd) (cs:List Value) (W:Wd):Prop:=Blk W (w.1.size+2) 37 cs.toArray/\Below w.1.size w W
def RoP.put {x:Cnt} {n:Int} {c:Chg} {w W:Wd} (h:DO x n c w W) (cs:List Value):RoP w cs (W.setRow (w.1.size+2) cs.toArray):=⟨QR _ _ _ _ _ _ h.dw.b3,Uf h.dw.be Oo _⟩
def sq (x:Cnt) (n:Int) (c:Chg) (w:Wd) (p:CW w x) (t:Ij c) (d:(!Vi x.d x.ap x.ps || !Z6 c || decide (n<1) || decide (1099511627776<n) || c.id != x.d.id || decide (n<=x.ap))=true):
  Calls prog 53 #[.agg (cnC x).toArray,.agg (nbC n c).toArray] w (DoS x (doR (plC x) n c) w):=by
 obtain ⟨R,m⟩:=yG (doR (plC x) n c);rw [m];have A:=Hd (IB x n c w);have J:=Hd (Kc c);have G:=Hd fun j=>U3 (dw0 x n c w) 50 j (w.1.size+3) (Es x n c w).symm
 have L:=Hd fun j=>DO.new x n c w j
 have s:Aw (∀ W,Below w.1.size w W->Calls prog 48 #[.agg (cnC x).toArray] W (Ab W (.bool (Vi x.d x.ap x.ps)))):=Hd fun W k=>Xo x W (p.below k)
 have r:Aw (∀ W,Calls prog 78 #[.agg (chC c).toArray] W (Ab W (.bool (Z6 c)))):=Hd fun W=>Fz c W t
 have E:=Hd p;have O:=Hd Ik;have F:=Hd (Va x);have g:(Vi x.d x.ap x.ps&&Z6 c&&!decide (n<1)&&!decide (1099511627776<n))=false->R=.inl 1:=fun h=>by rw [<-m];exact qs h
 have i:(Vi x.d x.ap x.ps&&Z6 c&&!decide (n<1)&&!decide (1099511627776<n))=true->(c.id != x.d.id || decide (n<=x.ap))=true->R=.inr (plC x):=fun h o=>by rw [<-m];exact u9 h o
 generalize H:Vi x.d x.ap x.ps=I at s d g i;generalize o:Z6 c=B at r d g i;generalize X:decide (n<1)=u at d g i;generalize T:decide (1099511627776<n)=z at d g i;generalize U:(c.id != x.d.id)=y at d g i;generalize Y:decide (n<=x.ap)=C at d g i;have D:=Hd d;have Q:=Hd g;have M:=Hd i;clear p m H o d g i t;rcases ch (b:=I) (ch (b:=B) (cht (b:=u) (cht (b:=z) (cht (b:=y) (ch0 C))))) with rfl|⟨rfl,rfl|⟨rfl,rfl|⟨rfl,rfl|⟨rfl,rfl|⟨rfl,rfl|rfl⟩⟩⟩⟩⟩
 rotate_left 5
 .exact absurd D.o Ac
 rotate_left 1
 all_goals
  go_in
  go_wp2_with (first|((with_reducible refine Gl 50 16 ?_);refine Ln 50 (w.1.size+1) 1 (chC c) (Km A.o) underlying50 ?_)|((with_reducible refine Gt 50 6 ?_);refine Lv 50 (w.1.size+3) (chC c).toArray (G.o _) J.o ?_;refine Wg (Φ:=DO x n c w) (L.o _) (fun V f=>?_);have a:=Hd f;clear f)|((with_reducible refine Gl 37 2 ?_);refine LqH 37 w.1.size (cnC x).toArray a.o.dw.b1 underlying37 ?_)|((with_reducible refine Gl 50 6 ?_);refine Wk ?_ (hw:=Af))|((with_reducible refine Gl 50 6 ?_);refine LqH 50 (w.1.size+3) (chC c).toArray a.o.b4 underlying50 ?_)|(go_at_call 48;refine (s.o _ a.o.dw.be).mono ?_;rintro e P ⟨rfl,k⟩;have a:=Hd (a.o.next k);have q:=a.o.n;clear k)|(go_at_call 78;refine (r.o _).mono ?_;rintro e P ⟨rfl,k⟩;have a:=Hd (a.o.next k);clear q;have q:=a.o.n;have c1:=a.o.c 1 _ rfl;have S:=a.o.x 0 _ rfl;have K:=a.o.x 21 _ rfl;clear k)|((with_reducible refine Gb 37 ?_);refine U1 Ak 37 _ rfl zV.toArray Ak ?_)|((with_reducible refine Gt 37 4 ?_);refine Lv 37 (w.1.size+2) zV.toArray a.o.dw.b3 O.o ?_;refine Wg (Φ:=RoP w zV) (RoP.put a.o _) (fun N f=>?_);have l:=Hd f;clear f)|((with_reducible refine Gt 37 4 ?_);refine Lv 37 (w.1.size+2) (cnC x).toArray a.o.dw.b3 F.o ?_;refine Wg (Φ:=RoP w (cnC x)) (RoP.put a.o _) (fun N f=>?_);have l:=Hd f;clear f))
  first
   |(rw [Q.o rfl];exact Br (v:=.tuple #[.agg zV.toArray,.int .i64 1]) (U2 results53 rfl rfl (Us _ _ _ l.o.1 rfl)) rfl ⟨rfl,l.o.2⟩)
   |(rw [M.o rfl rfl];exact Br (v:=.tuple #[.agg (cnC x).toArray,.int .i64 0]) (U2 results53 rfl rfl (Us _ _ _ l.o.1 rfl)) rfl ⟨x,rfl,rfl,E.o.below l.o.2,.inl rfl,l.o.2⟩)
   |done
section
variable {x:Cnt} {n:Int} {c:Chg} {z:Cnt} {w W W':Wd} {base g k:Nat} {A:Option Addr} {l:List Pr} {d:DSet}
structure DT (x:Cnt) (n:Int) (c:Chg) (z:Cnt) (w W:Wd):Prop where
 dw:DO x n c w W
 ow:W.ownsRow (w.1.size+4) 74 2 (.slice z.pA z.pn z.pc) z.pn (U7 prC z.ps)
 le:z.pn<=1001
 rz:∀ q∈z.ps,q.rcd.size<=maxLen
def DT.next (h:DT x n c z w W) (a:Below W.1.size W W'):DT x n c z w W':=⟨h.dw.next a,Ub h.ow a,h.le,h.rz⟩
def uk (h:W.ownsRow base 74 2 (.slice z.pA z.pn z.pc) z.pn (U7 prC z.ps)) (a:z.pn<=1001) (hz:∀ q∈z.ps,q.rcd.size<=maxLen):CW W z:=⟨Sl.of_own (f:=prC) (fun _=>rfl) Ac h,Lx a Ac,Pi h,hz⟩
def DT.cw (h:DT x n c z w W):CW W z:=uk h.ow h.le h.rz
def DtP (z:Cnt) (w W:Wd):Prop:=RoP w (cnC z) W/\CW W z/\∀ a,z.pA=some a->w.1.size<=a.block
def DT.put (h:DT x n c z w W):DtP z w (W.setRow (w.1.size+2) (cnC z).toArray):=by
 have b:=U9 h.ow (Le _);refine ⟨RoP.put h.dw _,uk (Y3 h.ow (fun e=>?_) _) h.le h.rz,fun a f=>?_⟩
 .have:=b _ e;omega
 .have:=b a.block (by rw [f];rfl);omega
def DO.mid (h:DO x n c w W):W.rangeAt w.1.size 0 (dC x.d):=by
 intro j v a;refine h.x (0+j) v ?_;obtain ⟨b,e⟩:=QZ.1 a;rw [QB,cnC,WF b,a]
structure DT2 (x:Cnt) (n:Int) (c:Chg) (z:Cnt) (g:Nat) (w W:Wd):Prop where
 dt:DT x n c z w W
 b:Blk W g 37 (cnC z).toArray
def DT2.next (h:DT2 x n c z g w W) (a:Below W.1.size W W'):DT2 x n c z g w W':=⟨h.dt.next a,h.b.below a h.b.lt⟩
def DT.box (h:DT x n c z w W) (a:Array Value):DT2 x n c z W.1.size w ((Aa W a 37).setRow W.1.size (cnC z).toArray):=by
 rw [U5];exact ⟨h.next Aj,Blk.new _ _ _⟩
def DT2.box (h:DT2 x n c z g w W) (a:Array Value):Blk ((Aa W a 37).setRow W.1.size (cnC z).toArray) W.1.size 37 (cnC z).toArray/\DT2 x n c z g w ((Aa W a 37).setRow W.1.size (cnC z).toArray):=by
 rw [U5];exact ⟨Blk.new _ _ _,h.next Aj⟩
def qk (d:DSet) (n:Int):Int ⊕ List Pr->Int ⊕ PC
 |.inl e=>.inl e
 |.inr l=>if Vi d n l=true then .inr ⟨d,n,l⟩ else .inl 2
def PL (h:(Vi x.d x.ap x.ps&&Z6 c&&!decide (n<1)&&!decide (1099511627776<n))=true) (a:(c.id != x.d.id)=false) (b:decide (n<=x.ap)=false):doR (plC x) n c=qk x.d n (Ys x.d x.ps c):=by
 unfold doR;rw [QK (ua h),QX]
 .rfl
 simp only [bne_eq_false_iff_eq,KJ] at a b;rintro (h|h)
 .exact h a
 .exact b h
def DT.of {I J m:Nat} (b:List Pr) (h:DO x n c w W) (i:CW w x) (hn:x.ps.length<=1000) (e:W.ownsRow base 74 2 (.slice A m k) m (U7 prC (x.ps.take I)++U7 prC b++U7 prC (x.ps.drop J))) (o:w.1.size+4<=base) (p:b.length<=1) (j:I<=J) (hz:∀ q∈b,q.rcd.size<=maxLen):DT x n c ⟨x.d,n,A,m,k,x.ps.take I++b++x.ps.drop J⟩ w W:=by
 rw [<-V9,<-V9] at e;refine ⟨h,X7 e o,?_,fun q a=>?_⟩
 .have h1:=e.1;rw [Vm (f:=prC) (k:=2) (fun _=>rfl)] at h1;simp only [WW,WX,XD] at h1;show m<=1001;omega
 .rcases QC.1 a with a|a
  .rcases QC.1 a with a|a
   .exact i.rz q (XA a)
   .exact hz q a
  .exact i.rz q (ZY a)
def xE (a:Option Addr) (b k:Nat):Option Addr:=if b=k then a else a.map (·.add (k*2))
def yo {B n a:Nat} {xs:List Value} (h:Rd w B 2 A n xs) (b:k<=n) (e:n<=a):Rd w B 2 (xE A a k) (n-k) (xs.drop (k*2)):=Rd.drop h b e
theorem mU {G:Prop} (h:G:=by
  rw [h,show prog.elem 35=74 from Ak,sizeOf74 W];simp [Result.andThen,sliced,xE]):G:=h
def GI (W:Wd) (a:Option Addr) (j b k:Nat) (e:k<=j):(Instr.slice 35 (.slice a j b) (some (.int .i64 (k:Int))) none none).run prog W=.ok (.slice (xE a b k) (j-k) (b-k)) W:=by
 have h:=run_slice_l (P:=prog) (w:=W) 35 a j b underlying35 .i64 (k:Int) Oo Oo;exact mU
def D8 (W:Wd) (a:Option Addr) (j b k:Nat) (e:k<=b):(Instr.slice 35 (.slice a j b) none (some (.int .i64 (k:Int))) none).run prog W=.ok (.slice (xE a b 0) k b) W:=by
 have h:=run_slice_h (P:=prog) (w:=W) 35 a j b underlying35 .i64 (k:Int) Oo Oo;exact mU
def vx {k:Bz} (h:Y6 l k=true):l.findIdx (geK k)<l.length:=by
 unfold Y6 at h;split at h
 .rename_i p hp;exact (QZ.1 hp).1
 .cases h
def je (h:c.kind=0\/c.kind=1) (a:Xd d=false):Ys d l c=.inl 7:=by
 unfold Ys;rw [a];rcases h with h|h<;>simp [h]
def jg (h:c.kind=0\/c.kind=1) (a:Xd d=true) (b:Y0 d c.key=false):Ys d l c=.inl 2:=by
 unfold Ys;rw [a,b];rcases h with h|h<;>simp [h]
def nS (h:c.kind=0\/c.kind=1) (b:Xd d=true) (e:Y0 d c.key=true):Ys d l c=.inr (l.take (l.findIdx (geK c.key))++(if (c.kind == 0)=true then [⟨c.key,c.rcd⟩] else [])++l.drop (if Y6 l c.key=true then l.findIdx (geK c.key)+1 else l.findIdx (geK c.key))):=by
 have f:Y6 l c.key=true->l.findIdx (geK c.key)<l.length:=vx;unfold Ys;rw [b,e];rcases h with h|h
 .simp only [h,<-TT];by_cases a:Y6 l c.key=true
  .simp [a,List.set_eq_take_append_cons_drop,f a]
  .simp [a,IS]
 .simp only [h,<-Al];by_cases a:Y6 l c.key=true
  .simp [a,YW]
  .simp [a]
def GY (W:Wd) (e:TypeId) (size:Nat):(W.alloc (.cells #[] e)).ownsRow W.1.size e size (.slice (Ah W.1.size 0) 0 0) 0 []:=⟨Am,.inr ⟨W.1.size,0,#[],rfl,Le _,Blk.new _ _ _,Le _,Z0 _,Am,Am⟩⟩
theorem mV {G:Prop} (h:G:=by
  go_wp2_with (first|((with_reducible show wpList _ _ _ (⟨_,.build 37 #[],_,_,_,_⟩::_) _ _);refine U1 Ak 37 _ rfl zV.toArray Ak ?_)|((with_reducible refine Gt 37 4 ?_);refine Lv 37 (w.1.size+2) zV.toArray HX.o.dw.b3 H2.o ?_;refine Wg (Φ:=RoP w zV) HW4.o (fun W2 hW=>?_);have HW:=Hd hW;clear hW))
  first
   |rw [hR7]
    exact Br (v:=.tuple #[.agg zV.toArray,.int .i64 7]) (U2 results53 rfl rfl (Us _ _ _ HW.o.1 rfl)) rfl ⟨rfl,HW.o.2⟩
   |rw [eK]
    exact Br (v:=.tuple #[.agg zV.toArray,.int .i64 2]) (U2 results53 rfl rfl (Us _ _ _ HW.o.1 rfl)) rfl ⟨rfl,HW.o.2⟩):G:=h
def ym (x:Cnt) (n:Int) (c:Chg) (w:Wd) (H:CW w x) (J:Ij c) (hn:x.ps.length<=1000) (I:(Vi x.d x.ap x.ps&&Z6 c&&!decide (n<1)&&!decide (1099511627776<n))=true) (P:(c.id != x.d.id)=false) (h6:decide (n<=x.ap)=false) (u:c.kind=0\/c.kind=1) (eI:Xd x.d=false\/Y0 x.d c.key=false):
  Calls prog 53 #[.agg (cnC x).toArray,.agg (nbC n c).toArray] w (DoS x (doR (plC x) n c) w):=by
 rw [PL I P h6];obtain ⟨R,D⟩:=yG (qk x.d n (Ys x.d x.ps c):Int ⊕ PC);rw [D];have S:Aw (∀ e,Ys x.d x.ps c=.inl e->R=.inl e):=Hd fun e h=>by rw [<-D,h];rfl
 have HL:Aw (∀ l,Ys x.d x.ps c=.inr l->R=if Vi x.d n l=true then .inr ⟨x.d,n,l⟩ else .inl 2):=Hd fun l h=>by rw [<-D,h];rfl
 simp only [QU,XN] at I;obtain ⟨⟨⟨M,y⟩,p⟩,h4⟩:=I;have H0:=Hd (IB x n c w);have H1:=Hd (Kc c);have HB:=Hd fun o=>U3 (dw0 x n c w) 50 o (w.1.size+3) (Es x n c w).symm
 have HN:=Hd fun o=>DO.new x n c w o
 have HV:Aw (∀ W,Below w.1.size w W->Calls prog 48 #[.agg (cnC x).toArray] W (Ab W (.bool true))):=Hd fun W i=>by rw [<-M];exact Xo x W (H.below i)
 have eF:Aw (∀ W,Calls prog 78 #[.agg (chC c).toArray] W (Ab W (.bool true))):=Hd fun W=>by rw [<-y];exact Fz c W J
 have U:=Hd H;have H2:=Hd Ik;have H3:=Hd fun z=>Va z
 have HFW:=Hd M;have HC:=Hd y;have HS:=Hd J;have dP:=Hd hn;clear H D M y J hn;go_in
 go_upto_region 6 with (first|((with_reducible apply Gl 50 16);apply Ln 50 (w.1.size+1) 1 (chC c) (Km H0) underlying50)|((with_reducible apply Gt 50 6);apply Lv 50 (w.1.size+3) (chC c).toArray (HB _) H1;refine Wg (Φ:=DO x n c w) (HN _) (fun W1 hW=>?_);have HX:=Hd hW;clear hW)|((with_reducible apply Gl 37 2);apply LqH 37 w.1.size (cnC x).toArray HX.dw.b1 underlying37)|((with_reducible apply Gl 50 6);refine LqH 50 (w.1.size+3) (chC c).toArray HX.b4 underlying50 ?_)|(go_at_call 48;refine (HV _ HX.dw.be).mono ?_;rintro e w2 ⟨rfl,i⟩;have HX:=Hd (HX.next i);clear i)|(go_at_call 78;refine (eF _).mono ?_;rintro e w2 ⟨rfl,i⟩;have HX:=Hd (HX.next i);have n0:=HX.n;have L:=HX.c 0 _ rfl;have c1:=HX.c 1 _ rfl;have x0:=HX.x 0 _ rfl;have F:=HX.x 21 _ rfl;clear i))
 have Y:=HX.x 1 _ rfl;clear n0 L c1 x0 F p h4 P h6
 go_cut [7] from 7 to 7 (fun v W=>v=.bool (Xd x.d)/\W=w2)
 case first=>
  have r:=Hd (show Xd x.d=((x.d.org == 3) || (x.d.org == 2)) from rfl);generalize hq:(x.d.org == 3)=q at r;generalize eV:(x.d.org == 2)=Z at r;cases q with
  |true=>
   go_wp2_with fail
   go_meet
   .exact ⟨by rw [r.o];rfl,rfl⟩
  |false=>
   go_wp2_with fail
   go_meet
   .exact ⟨by rw [r.o];rfl,rfl⟩
 case rest=>
  obtain ⟨rfl,rfl⟩:=hcut;have E:=Hd ((Bf wc.1.size wc).alloc (Le _) (.cells #[] 74));have K:=(HX.next E).x 22 _ rfl
  go_upto_block 0 with (at_builtin;go_must (refine Ap2 Vl underlying35 (GY wc 74 2) ((U.sl.below (HX.next E).dw.be).rd) (Yx _) (by have:=U.le;omega) (U6 _ _) ?_;intro v4 T t V;have i:=E.grown V (U6 _ _) (U9 (GY wc 74 2) (Le _));rw [QB,YN] at t;have t:=X7 t HX.s4;obtain ⟨A4,k4,rfl,u,gD⟩:=U4 t;have HK:=Hd u;have HX:=Hd (HX.next i);have HO:=Hd t;have L:=HX.c 0 _ rfl;clear t V i u gD))
  have bJ:T.1.size >= w.1.size+4:=HX.s4;clear K;have j:=Hd u;have fT:(c.kind == 0)=true\/((c.kind == 0)=false/\(c.kind == 1)=true):=by rcases u with h|h<;>simp [h]
  clear u
  go_upto_if 67 with fail
  go_cut [67] from 67 to 67 (fun v W=>v=.bool true/\W=T)
  case first=>
   rcases fT with O|⟨O,e1⟩
   all_goals
    go_wp2_with fail
    go_meet
    .first|exact ⟨rfl,rfl⟩|exact ⟨by rw [O],rfl⟩
  obtain ⟨rfl,rfl⟩:=hcut;clear fT;cases C:Xd x.d with
  |false=>
   have hR7:=S 7 (je j C);have HW4:=Hd (RoP.put HX zV);exact mV
  |true=>
   have f:Y0 x.d c.key=false:=eI.resolve_left (by rw [C];decide);have r:=Hd C;clear eI C;have B:=Hd f;clear f;have s:=Hd fun W=>Zl c.key W
   have c2:=HX.c 2 _ rfl;have Y:=HX.x 1 _ rfl;have x6:=HX.x 6 _ rfl;have N:Aw (Y0 x.d c.key=if (x.d.org == 3)=true then ((c.key.size:Int) == x.d.kln) else ((Uc c.key).2&&decide (1<=(Uc c.key).1)&&decide ((Uc c.key).1<=65536))):=Hd (by unfold Y0 IT;simp);generalize Uc c.key=nb at s N;obtain ⟨m,bk⟩:=nb;simp only at s N
   go_upto_region 14 with (go_at_call 86;apply (s _).mono;rintro e w5 ⟨rfl,rfl⟩)
   have HB:=Hd bJ;clear bJ L
   go_cut [109] from 109 to 109 (fun v W=>v=.bool (!Y0 x.d c.key)/\W=wc)
   case first=>
    have a:=N.o;cases p:(x.d.org == 3) with
    |true=>
     have y:(x.d.org == 2)=false:=by have:=eq_of_beq p;rw [this];rfl
     rw [p,QK rfl] at a;have fR:=Hd (show (!Y0 x.d c.key)=((c.key.size:Int) != x.d.kln) by rw [a];rfl);clear a;have hq:((c.key.size:Int) != x.d.kln)=true:=by rw [<-fR.o,B.o];rfl
     go_wp2_with fail
     go_meet
     .exact ⟨by rw [B.o];rfl,rfl⟩
    |false=>
     have y:(x.d.org == 2)=true:=by have:=r.o;unfold Xd at this;simp only [JV] at p;simp [p] at this;simp [this]
     rw [p,QX Ac] at a;have X:decide (1<=m) = !decide (m<1):=by by_cases h:m<1<;>simp [h]<;>omega
     have e3:decide (m<=65536) = !decide (65536<m):=by by_cases h:65536<m<;>simp [h]<;>omega
     rw [X,e3] at a;generalize eV:decide (m<1)=Z at a;generalize hq3:decide (65536<m)=q3 at a;rw [B.o] at a;have Q:=Hd a;clear a;have a:=Q;clear Q;clear X e3;rcases ch (b:=bk) (cht (b:=Z) (ch0 q3)) with rfl|⟨rfl,rfl|⟨rfl,rfl|rfl⟩⟩
     rotate_left 2
     .exact absurd a.o Ac
     all_goals
      go_wp2_with fail
      go_meet
      .exact ⟨by rw [B.o];rfl,rfl⟩
   case rest=>
    obtain ⟨rfl,rfl⟩:=hcut;have f:=B.o;rw [f];have eK:=S 2 (jg j r f);have HW4:=Hd (RoP.put HX zV);clear Y x6;exact mV
end
end Go.Proofs.YtdleakjejodjjaaGreatDoor
