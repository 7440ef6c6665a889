/- Of the history laws. -/
import Derived.Test.YtdleakjejodjjaaGreatDoorSAJ
namespace Go.Proofs.YtdleakjejodjjaaGreatDoor
open Tryz
set_option linter.defProp false
set_option linter.unusedVariables false
set_option linter.unusedSimpArgs false
set_option maxRecDepth 100000
set_option maxHeartbeats 20000000
open Go.RowKit
def NG (s:Bz):∀ (f:Nat) (n:Int) (i:Nat),(Zr s f n i).2=0->(Zr s f n i).1=0
 |0,_,_,_=>rfl
 |f+1,n,i,h=>by
  unfold Zr at h ⊢;split
  .rename_i h1;rw [QK h1] at h;split
   .rfl
   .rename_i h2;rw [QX h2] at h;split
    .rename_i h3;rw [QK h3] at h;split
     .rfl
     .rename_i h4;rw [QX h4] at h;simp only at h;omega
    .rename_i h3;rw [QX h3] at h;exact NG s f _ _ h
  .rfl
def O7 {l:Bz} {e:Int} (h:(V2 l e).2.2≠0):(V2 l e).1=0:=by
 unfold V2 at h ⊢;split
 .rename_i he;rw [QK he] at h;split
  .rename_i h2;exact NG l 10 0 0 h2
  .rename_i h2;rw [QX h2] at h;exact absurd rfl h
 .rfl
def Iv (l:Bz) (e:Int):0<=(V2 l e).1:=by
 have a:=(IC l).1;unfold V2;split
 .split<;>exact a
 .exact XI _
def RX.two {l:Bz} {e:Int} {w X:Wd} (h:RX l e w X) (a:Bz) (b:Int) (z:Array Value):RX l e w ((Aa X z 185).setRow X.1.size (rdV a b))/\RdS a b X.1.size ((Aa X z 185).setRow X.1.size (rdV a b)):=
 have hz:=h.sz;have c:=h.next ((Bf _ _).alloc (Le _) (.cells z 185))
 ⟨⟨(QE _ _ _ _ Oo).trans c.b1,(QE _ _ _ _ Oo).trans c.b2,Xq c.be Oo _,by simpa using c.sz⟩,QR _ _ _ _ _ _ (Blk.new X _ _)⟩
def mT {G:Prop} (h:G:=by
  go_in;go_wp2_with (first|(go_at_call 175;refine yT (Gp _ _) HX.o.next fun w5 aR=>?_)|(with_reducible refine yS 185 3 aR.o.b2 (Ua _ _) ?_));exact aR.o.ret (.bool false) (⟨#[]⟩) (11) results225):G:=h
def Dy (l:Bz) (e:Int) (w:Wd) (m:l.size<=maxLen):Calls prog 225 #[.agg (rdV l e)] w (RdG (.bool (Uy l e).1) (Uy l e).2.1 (Uy l e).2.2 w):=by
 have HX:=Hd (RX.new l e w);have p:=HX.c0;have c1:=HX.c1;unfold maxLen at m;by_cases he:e=0
 .subst he;by_cases hz:l.size=0
  .obtain rfl:=Jp hz;clear hz;exact mT
  .have h0:0<l.size:=Oo
   have n:((l.size:Int) == 0)=false:=JV.2 Oo;have k:¬ ((l.size:Int)<1):=Oo
   obtain ⟨b,i⟩:=yG ((l[0]).toNat)
   have j:Uy l 0=if 1<b then (false,⟨#[]⟩,11) else (decide (b=1),l.extract 1 l.size,0):=by
    unfold Uy Ih;rw [QK rfl,QX hz,Vs l 0 h0,i];split
    .rfl
    .rfl
   rw [j];clear j hz;by_cases c:1<b
   .rw [QK c];exact mT
   .rw [QX c];have f:((b:Int) == 1)=decide (b=1):=by rw [XW];simp;omega
    have g:=Hd f;clear f;go_wp2;refine Rw (S:=RdS l 0 w.1.size) Ak HX.drew.b1 (fun a=>?_);refine tA 0 a ?_;refine tk 1 (.string l) a ?_ (y:=by exact WL ⟨Af,by intro w' d;have c:=d.c0;go_simp⟩);refine tk 2 (.int .u8 b) a ?_ (y:=by exact WL ⟨Af,by intro w' d;have c:=i;have o:=h0;go_simp⟩)
    iterate 2 apply tB a
    refine tk 5 (.string l) a ?_ (y:=by exact WL ⟨Af,by intro w' d;have c:=d.c0;go_simp⟩);refine tk 6 (.string (l.extract 1 l.size)) a ?_ (y:=by exact WL ⟨Af,by intro w' d;have c:=k;go_simp⟩);refine tk 7 (.agg (rdV (l.extract 1 l.size) 0)) a ?_ (y:=by exact WL ⟨Af,by intro w' d;go_simp;rfl⟩);apply tA 8 a;apply ts 9 (rdV (l.extract 1 l.size) 0) HX.drew.b2 (Ua _ _) (a.row Oo _);simp only [Act.put];refine Ad Ak ?_ _;clear a;go_wp2;rw [<-g.o];exact HX.drew.ret (.bool ((b:Int) == 1)) (l.extract 1 l.size) 0 results225
 .have c:(e != 0)=true:=by simpa using he
  have hn:Uy l e=(false,l,e):=by unfold Uy;rw [QX he]
  rw [hn];clear hn he;go_wp2;refine Rw (S:=RdS l e w.1.size) Ak HX.drew.b1 (fun a=>?_);apply tA 1 a;apply tl 0 (a) a underlying185;simp only [Act.put,Sv,Sz,Sw];apply ts 2 (rdV l e) HX.drew.b2 (Ua _ _) (a.row Oo _);simp only [Act.put];refine Ad Ak ?_ _;clear a;go_wp2;exact HX.drew.ret (.bool false) (l) e results225
def pI {G:Prop} (h:G:=by
  go_wp2;go_ret;exact ⟨rfl,HX.o.2⟩):G:=h
def Rm (l:Bz) (e:Int) (w:Wd) (a:l.size<=maxLen):Calls prog 126 #[.agg (rdV l e)] w (Ab w (.int .i64 (Yj l e))):=by
 have HX:Aw (RdS l e w.1.size (Aa w (rdV l e) 185)/\Below w.1.size w (Aa w (rdV l e) 185)):=Hd ⟨Blk.new _ _ _,Aj⟩;have d:=HX.1.c0;have c1:=HX.1.c1;unfold maxLen at a;unfold Yj;by_cases he:e=0
 .subst he;rw [QK rfl];by_cases hz:l.size=0
  .obtain rfl:=Jp hz;exact pI
  .rw [QX hz];have c:decide ((0:Int)<(l.size:Int))=true:=QQ Oo;exact pI
 .rw [QX he];have b:(e == 0)=false:=by simpa using he
  clear he;exact pI
def mS {G:Prop} (h:G:=by
  go_wp2_with (first|(go_at_call 175;refine yT (Gp _ _) HY.o.next fun w6 bE=>?_)|(with_reducible refine yS 185 5 bE.o.b2 (Ua _ _) ?_))
  first
   |exact bE.o.ret (.int .i64 0) (⟨#[]⟩) (8) results174
   |exact bE.o.ret (.string ⟨#[]⟩) (⟨#[]⟩) (11) results123):G:=h
abbrev DF (a:Wd):=a.alloc (.cells #[.string ⟨#[]⟩,.int .i64 0] 185)
def LK (l:Bz) (e c:Int) (w:Wd) (A:l.size<=maxLen) (i6:0<=c) (F:c<=100000):Calls prog 174 #[.agg (rdV l e),.int .i64 c] w (RdG (.int .i64 (Xa l e c).1) (Xa l e c).2.1 (Xa l e c).2.2 w):=by
 have m:=Hd (RX.new l e w);have H:=m.o.c0;have c1:=m.o.c1;have o:=Hd (Ra l e ((Aa w (rdV l e) 185).alloc (.cells #[.string ⟨#[]⟩,.int .i64 0] 185)) A);have hz:=@O7 l e;have p:=Iv l e;unfold Xa;obtain ⟨R,B⟩:=yG (V2 l e);rw [B] at o hz p ⊢;clear B A;obtain ⟨n,a,b⟩:=R;simp only at o hz p ⊢;by_cases t:b=0
 .subst t;rw [QK rfl];by_cases q:c<n
  .rw [QK q];have v:decide (c<0)=false:=QW Oo;have E:decide (c<n)=true:=QQ q;clear hz;go_in;go_wp2_with (first|(with_reducible refine yL 185 2 m.o.b1 ?_)|(go_at_call 223;refine yT o m.o.next fun k j=>?_)|(with_reducible refine yS 185 7 (Blk.new k _ _) (Ua _ _) ?_;have d:=Hd (j.o.two a 0 #[.string ⟨#[]⟩,.int .i64 0]);obtain ⟨g,i⟩:=yG k.1.size;rw [i] at d ⊢;have r:Aw (w.1.size+2<=g):=Hd (by rw [<-i];exact j.o.sz);clear i;generalize (DF k).setRow g (rdV a 0)=Y at d ⊢;have z:=d.o.2.c0;have x:=d.o.2.c1;have HY:=Hd d.o.1;have s:=Hd d.o.2;clear d j));exact mS
  .rw [QX q];have v:decide (c<0)=false:=QW Oo;have E:decide (c<n)=false:=QW q;have u:IntKind.i64.wrap n=n:=QL _ Oo;clear hz;go_in;go_wp2_with (first|(with_reducible refine yL 185 2 m.o.b1 ?_)|(go_at_call 223;refine yT o m.o.next fun k j=>?_)|(with_reducible refine yS 185 7 (Blk.new k _ _) (Ua _ _) ?_;have d:=Hd (j.o.two a 0 #[.string ⟨#[]⟩,.int .i64 0]);obtain ⟨g,i⟩:=yG k.1.size;rw [i] at d ⊢;have r:Aw (w.1.size+2<=g):=Hd (by rw [<-i];exact j.o.sz);clear i;generalize (DF k).setRow g (rdV a 0)=Y at d ⊢;have z:=d.o.2.c0;have x:=d.o.2.c1;have HY:=Hd d.o.1;have s:=Hd d.o.2;clear d j));go_wp2;refine Rw (S:=RdS a 0 g) Ak s (fun f=>?_);refine tA 0 f ?_
   refine tk 1 (.int .i64 n) f ?_ (y:=by exact WL ⟨Af,by intro w' D;have C:=u;go_simp⟩);refine tA 3 f ?_;refine tl 2 (f) f underlying185 ?_;simp only [Act.put,Sv,Sz,Sw];refine ts 4 (rdV a 0) HY.o.drew.b2 (Ua _ _) (f.row (by have:=r.o;omega) _) ?_;simp only [Act.put];refine Ad Ak ?_ _;clear f;go_wp2;exact HY.o.drew.ret (.int .i64 n) (a) 0 results174
 .rw [QX t];obtain rfl:n=0:=hz t;have v:(b == 0)=false:=by simpa using t
  have u:IntKind.i64.wrap 0=0:=rfl;clear hz;go_in;go_wp2_with (first|(with_reducible refine yL 185 2 m.o.b1 ?_)|(go_at_call 223;refine yT o m.o.next fun k j=>?_)|(with_reducible refine yS 185 7 (Blk.new k _ _) (Ua _ _) ?_;have d:=Hd (j.o.two a b #[.string ⟨#[]⟩,.int .i64 0]);obtain ⟨g,i⟩:=yG k.1.size;rw [i] at d ⊢;have r:Aw (w.1.size+2<=g):=Hd (by rw [<-i];exact j.o.sz);clear i;generalize (DF k).setRow g (rdV a b)=Y at d ⊢;have z:=d.o.2.c0;have x:=d.o.2.c1;have HY:=Hd d.o.1;have s:=Hd d.o.2;clear d j));go_wp2;refine Rw (S:=RdS a b g) Ak s (fun f=>?_);refine tA 0 f ?_;refine tk 1 (.int .i64 0) f ?_ (y:=by exact WL ⟨Af,by intro w' D;have C:=u;go_simp⟩);refine tA 3 f ?_;refine tl 2 (f) f underlying185 ?_
  simp only [Act.put,Sv,Sz,Sw];refine ts 4 (rdV a b) HY.o.drew.b2 (Ua _ _) (f.row (by have:=r.o;omega) _) ?_;simp only [Act.put];refine Ad Ak ?_ _;clear f;go_wp2;exact HY.o.drew.ret (.int .i64 0) (a) b results174
def Gj (l:Bz) (e c:Int) (w:Wd) (D:l.size<=maxLen) (i6:0<=c) (I:c<=100000):Calls prog 123 #[.agg (rdV l e),.int .i64 c] w (RdG (.string (U8 l e c).1) (U8 l e c).2.1 (U8 l e c).2.2 w):=by
 have m:=Hd (RX.new l e w);have M:=m.o.c0;have c1:=m.o.c1;have p:=Hd (LK l e c ((Aa w (rdV l e) 185).alloc (.cells #[.string ⟨#[]⟩,.int .i64 0] 185)) D i6 I);have hz:=F7 l e c i6;have v:=Ee l e c;unfold maxLen at D;unfold U8;obtain ⟨R,E⟩:=yG (Xa l e c);rw [E] at p hz v ⊢;clear E;obtain ⟨n,a,b⟩:=R;simp only at p hz v ⊢;by_cases t:b=0
 .subst t;have hz:=hz rfl;rw [QK rfl];by_cases q:(a.size:Int)<n
  .rw [QK q];have u:=QQ q;go_in;go_wp2_with (first|(with_reducible apply yL 185 2 m.o.b1)|(go_at_call 174;refine yT p m.o.next fun k j=>?_)|(with_reducible apply yS 185 7 (Blk.new k _ _) (Ua _ _);have d:=Hd (j.o.two a 0 #[.string ⟨#[]⟩,.int .i64 0]);obtain ⟨g,i⟩:=yG k.1.size;rw [i] at d ⊢;have r:Aw (w.1.size+2<=g):=Hd (by rw [<-i];exact j.o.sz);clear i;generalize (DF k).setRow g (rdV a 0)=Y at d ⊢;have B:=d.o.2.c0;have x:=d.o.2.c1;have HY:=Hd d.o.1;have s:=Hd d.o.2;clear d j));exact mS
  .rw [QX q];have u:=QW q;have z:=hz.1;have C:¬ n<0:=Oo
   have A:n<=(a.size:Int):=Oo
   go_in;go_wp2_with (first|(with_reducible apply yL 185 2 m.o.b1)|(go_at_call 174;refine yT p m.o.next fun k j=>?_)|(with_reducible refine yS 185 7 (Blk.new k _ _) (Ua _ _) ?_;have d:=Hd (j.o.two a 0 #[.string ⟨#[]⟩,.int .i64 0]);obtain ⟨g,i⟩:=yG k.1.size;rw [i] at d ⊢;have r:Aw (w.1.size+2<=g):=Hd (by rw [<-i];exact j.o.sz);clear i;generalize (DF k).setRow g (rdV a 0)=Y at d ⊢;have B:=d.o.2.c0;have x:=d.o.2.c1;have HY:=Hd d.o.1;have s:=Hd d.o.2;clear d j));go_wp2;refine Rw (S:=RdS a 0 g) Ak s (fun f=>?_);apply tA 0 f;apply tC 1 (fun _ o=>o.c0) f;apply tA 2 f;refine tk 3 (.string (a.extract 0 n.toNat)) f ?_ (y:=by exact WL ⟨Af,by intro w' o;have J:=z;have F:=A;have K:=C;have H:=u;go_simp⟩);apply tA 4 f
   apply tC 5 (fun _ o=>o.c0) f;apply tA 6 f;refine tk 7 (.string (a.extract n.toNat a.size)) f ?_ (y:=by exact WL ⟨Af,by intro w' o;have J:=z;have F:=A;have K:=C;have H:=u;go_simp⟩);refine tk 8 (.agg (rdV (a.extract n.toNat a.size) 0)) f ?_ (y:=by exact WL ⟨Af,by intro w' o;go_simp;rfl⟩);apply tA 9 f;refine ts 10 (rdV (a.extract n.toNat a.size) 0) HY.o.drew.b2 (Ua _ _) (f.row (by have:=r.o;omega) _) ?_;simp only [Act.put];refine Ad Ak ?_ _;clear f;go_wp2;exact HY.o.drew.ret (.string (a.extract 0 n.toNat)) (a.extract n.toNat a.size) 0 results123
 .rw [QX t];have L:(b == 0)=false:=by simpa using t
  have u:(b != 0)=true:=by simpa using t
  clear hz;go_in;go_wp2_with (first|(with_reducible apply yL 185 2 m.o.b1)|(go_at_call 174;refine yT p m.o.next fun k j=>?_)|(with_reducible refine yS 185 7 (Blk.new k _ _) (Ua _ _) ?_;have d:=Hd (j.o.two a b #[.string ⟨#[]⟩,.int .i64 0]);obtain ⟨g,i⟩:=yG k.1.size;rw [i] at d ⊢;have r:Aw (w.1.size+2<=g):=Hd (by rw [<-i];exact j.o.sz);clear i;generalize (DF k).setRow g (rdV a b)=Y at d ⊢;have B:=d.o.2.c0;have x:=d.o.2.c1;have HY:=Hd d.o.1;have s:=Hd d.o.2;clear d j));go_wp2;refine Rw (S:=RdS a b g) Ak s (fun f=>?_);apply tA 1 f;apply tl 0 (f) f underlying185;simp only [Act.put,Sv,Sz,Sw];refine ts 2 (rdV a b) HY.o.drew.b2 (Ua _ _) (f.row (by have:=r.o;omega) _) ?_;simp only [Act.put];refine Ad Ak ?_ _
  clear f;go_wp2;exact HY.o.drew.ret (.string ⟨#[]⟩) (a) b results123
def RX.put {l:Bz} {e:Int} {w X:Wd} (h:RX l e w X) (a:Bz) (b:Int):RX a b w (X.setRow w.1.size (rdV a b)):=
 ⟨QR _ _ _ _ _ _ h.b1,(QE _ _ _ _ Oo).trans h.b2,Xq h.be (Le _) _,by simpa using h.sz⟩
def Gk (l:Bz) (e:Int) (w:Wd) (m:l.size<=maxLen):Calls prog 226 #[.agg (rdV l e)] w (RdG (.int .i64 (rnF l e).1) (rnF l e).2.1 (rnF l e).2.2 w):=by
 have j:=Hd (RX.new l e w);have i:=Hd (Ra l e ((Aa w (rdV l e) 185).alloc (.cells #[.string ⟨#[]⟩,.int .i64 0] 185)) m);have g:=Iv l e;unfold rnF;obtain ⟨R,o⟩:=yG (V2 l e);rw [o] at i g ⊢;clear o m;obtain ⟨n,a,b⟩:=R;simp only at i g ⊢;by_cases h:1099511627776<n
 .rw [QK h];have q:decide (1099511627776<n)=true:=QQ h;go_in;go_wp2_with (first|(with_reducible refine yL 185 1 j.o.b1 ?_)|(go_at_call 223;refine yT i.o j.o.next fun k f=>?_)|(with_reducible refine yS 185 1 f.o.b1 (Ua _ _) ?_;have d:=Hd (f.o.put a b);clear f;generalize k.setRow w.1.size (rdV a b)=Y at d ⊢));refine Rw (S:=RdS a b w.1.size) Ak d.o.drew.b1 (fun c=>?_);refine tA 1 c ?_;refine tl 0 (c) c underlying185 ?_;simp only [Act.put,Sv,Sz,Sw];refine ts 2 (rdV a b) d.o.drew.b2 (Ua _ _) (c.row Oo _) ?_;simp only [Act.put];refine Ad Ak ?_ _;clear c;go_wp2;exact d.o.drew.ret (.int .i64 (-1)) (a) b results226
 .rw [QX h];have q:decide (1099511627776<n)=false:=QW h;have p:IntKind.i64.wrap n=n:=QL _ Oo;go_in;go_wp2_with (first|(with_reducible refine yL 185 1 j.o.b1 ?_)|(go_at_call 223;refine yT i.o j.o.next fun k f=>?_)|(with_reducible refine yS 185 1 f.o.b1 (Ua _ _) ?_;have d:=Hd (f.o.put a b);clear f;generalize k.setRow w.1.size (rdV a b)=Y at d ⊢));refine Rw (S:=RdS a b w.1.size) Ak d.o.drew.b1 (fun c=>?_);refine tA 0 c ?_;refine tk 1 (.int .i64 n) c ?_ (y:=by exact WL ⟨Af,by intro w' s;have r:=p;go_simp⟩);refine tA 3 c ?_;refine tl 2 (c) c underlying185 ?_;simp only [Act.put,Sv,Sz,Sw];refine ts 4 (rdV a b) d.o.drew.b2 (Ua _ _) (c.row Oo _) ?_;simp only [Act.put]
  refine Ad Ak ?_ _;clear c;go_wp2;exact d.o.drew.ret (.int .i64 n) (a) b results226
section
variable {α:Type} {p:α->Bool} {l:List α} {j:Nat} {e:α}
def Ve (h:l[j]? =some e) (a:p e=false):(l.any fun x => !p x)=true:=by
 rw [VW];exact ⟨e,QJ h,by rw [a];rfl⟩
def Yb {n:Nat} (c:l.length=n) (h:∀ t,t<n->∀ e,l[t]? =some e->p e=true):(l.any fun x => !p x)=false:=by
 rw [YC];intro x b;obtain ⟨t,a,rfl⟩:=XG b;rw [h t Oo _ (QV a)];simp
def Xk (h:∀ t,t<j->∀ e,l[t]? =some e->p e=true) (d:l[j]? =some e) (a:p e=true):∀ t,t<j+1->∀ e,l[t]? =some e->p e=true:=by
 intro t f c he;by_cases b:t=j
 .subst b;rw [d] at he;injection he with he;subst he;exact a
 .exact h t Oo c he
def Hb (c:Chg):Bool:=decide (c.key.size<=50)&&decide (c.rcd.size<=1200)&&decide (c.vol.size<=20)
def Ha (r:Rdd):Bool:=decide (r.key.size<=60)&&decide (r.ak.size<=60)&&decide (r.ar.size<=300)
def Mn (n:Nat) (l:List Chg):Bool:=decide (n<=8)&&!(l.any fun x => !Hb x)
def Je (x:Com):Bool:=Mn x.cn x.cs&&decide (x.rn<=8)&&!(x.rs.any fun r => !Ha r)
def OD (A:Option Addr) (n c:Nat) (l:List Chg) (w:Wd) (y:Sl chC 5 w w.1.size A n c l):
  Calls prog 13 #[.agg #[.int .i64 0,.int .i64 0,.slice A n c],.int .i64 8] w (Ab w (.bool (Mn n l))):=by
 obtain ⟨R,s⟩:=yG (Mn n l);rw [s];have K:=Hd (Xj w #[.int .i64 0,.int .i64 0,.slice A n c] 44);have N:=Hd y;have M:=Hd y.len;by_cases C:n<=8;rotate_left
 .have hr:R=false:=by rw [<-s];unfold Mn;rw [QW C];rfl
  have g:=Hd hr;have I:decide ((8:Int)<(n:Int))=true:=As
  have D:decide (8<n)=true:=As
  clear s hr y;go_wp2;go_ret;exact ⟨by rw [g.o];rfl,Ul K.o⟩
 have I:decide ((8:Int)<(n:Int))=false:=As
 have D:decide (8<n)=false:=As
 have z:R = !(l.any fun x => !Hb x):=by rw [<-s];unfold Mn;rw [QQ C];rfl
 have g:=Hd z;clear s z y;go_wp2;go_loopw [5] (fun i wr=>∃ j:Nat,j<=n/\i=.int .i64 j/\(∀ t,t<j->∀ e,l[t]? =some e->Hb e=true)/\Below (w.1.size+1) (Aa w #[.int .i64 0,.int .i64 0,.slice A n c] 44) wr) (fun i _=>n-(intOf i).toNat)
 .exact ⟨0,Z0 _,rfl,fun t h=>absurd h Oo,Bf _ _⟩
 .obtain ⟨j,hj,rfl,hall,aF⟩:=hrel;have B:=Hd hall;have d:=Hd aF;have L:=EG aF 2;simp at L;have q:=Xx aF;have V:w.1.size<wr.1.size:=Oo
  clear hall aF;by_cases F:j<n
  .obtain ⟨b,o,x,rfl,hb,hg,aB⟩:=Sl.cell (f:=chC) (k:=5) PU (N.o.after (Ul d.o) (YE q)) F;have S:=aB 0 _ rfl;have c1:=aB 1 _ rfl;have c2:=aB 2 _ rfl;have c3:=aB 3 _ rfl;have c4:=aB 4 _ rfl;simp only [QF] at S;have u:=Hd hg;clear hg aB hb;by_cases a:x.key.size<=50;rotate_left
   .have hp:Hb x=false:=by unfold Hb;rw [QW a];rfl
    have m:Aw (R=false):=Hd (by rw [g.o,Ve u.o hp];rfl);have O:decide ((50:Int)<(x.key.size:Int))=true:=As
    have J:decide (50<x.key.size)=true:=As
    clear hp a;go_wp2;go_ret;exact ⟨by rw [m.o];rfl,Ul (d.o.alloc q _)⟩
   have O:decide ((50:Int)<(x.key.size:Int))=false:=As
   have J:decide (50<x.key.size)=false:=As
   by_cases r:x.rcd.size<=1200;rotate_left
   .have hp:Hb x=false:=by unfold Hb;rw [QW r];simp
    have m:Aw (R=false):=Hd (by rw [g.o,Ve u.o hp];rfl);have P:decide ((1200:Int)<(x.rcd.size:Int))=true:=As
    have Q:decide (1200<x.rcd.size)=true:=As
    clear hp a r;go_wp2;go_ret;exact ⟨by rw [m.o];rfl,Ul (d.o.alloc q _)⟩
   have P:decide ((1200:Int)<(x.rcd.size:Int))=false:=As
   have Q:decide (1200<x.rcd.size)=false:=As
   by_cases v:x.vol.size<=20;rotate_left
   .have hp:Hb x=false:=by unfold Hb;rw [QW v];simp
    have m:Aw (R=false):=Hd (by rw [g.o,Ve u.o hp];rfl);have E:decide ((20:Int)<(x.vol.size:Int))=true:=As
    have G:decide (20<x.vol.size)=true:=As
    clear hp a r v;go_wp2;go_ret;exact ⟨by rw [m.o];rfl,Ul (d.o.alloc q _)⟩
   have E:decide ((20:Int)<(x.vol.size:Int))=false:=As
   have G:decide (20<x.vol.size)=false:=As
   have H:Aw (Hb x=true):=Hd (by unfold Hb;rw [QQ a,QQ r,QQ v];rfl);have T:=Hd (d.o.alloc q (.cells #[.int .i64 x.kind,.int .i64 x.id,.string x.key,.string x.rcd,.string x.vol] 50));clear a r v;go_wp2;go_roundw
   .exact ⟨j+1,Oo,Au,Xk B.o u.o H.o,T.o⟩
   .exact At
  .have gG:n=j:=Oo
   subst gG;have U:Aw (R=true):=Hd (by rw [g.o,Yb M.o B.o];rfl);go_wp2;go_ret;exact ⟨by rw [U.o];rfl,Ul d.o⟩
end
def Te {s:Bz} (a:0<s.size) (h:¬ (65<=bAt s 0/\bAt s 0<=90)):Im s=false:=by
 unfold Im;rw [Yf a (by simp [IP];omega)];simp
def uX {G:Prop} (h:G:=by
  go_wp2;go_ret;exact ⟨by rw [HR.o];rfl,rfl⟩):G:=h
def zT (s:Bz) (w:Wd) (T:s.size<=maxLen):Calls prog 111 #[.string s] w (Ae w (.bool (Im s))):=by
 unfold maxLen at T;obtain ⟨R,c⟩:=yG (Im s);rw [c];by_cases u:0<s.size;rotate_left
 .have hr:R=false:=by rw [<-c];unfold Im;rw [QW (by omega:¬ 1<=s.size)];rfl
  have HR:=Hd hr;have H:decide ((s.size:Int)<1)=true:=As
  have D:s.size=0:=Oo
  clear c hr u;exact uX
 by_cases Y:s.size<=8;rotate_left
 .have hr:R=false:=by rw [<-c];unfold Im;rw [QW (by omega:¬ s.size<=8)];simp
  have HR:=Hd hr;have H:decide ((s.size:Int)<1)=false:=As
  have D:decide ((8:Int)<(s.size:Int))=true:=As
  have M:decide (8<s.size)=true:=As
  have V:¬ s.size=0:=Oo
  clear c hr;exact uX
 have H:decide ((s.size:Int)<1)=false:=As
 have D:decide ((8:Int)<(s.size:Int))=false:=As
 have M:decide (8<s.size)=false:=As
 have V:¬ s.size=0:=Oo
 obtain ⟨b,r⟩:=yG ((s[0]'u).toNat);have d:bAt s 0=b:=by rw [Vs s 0 u,r]
 obtain ⟨z,hz⟩:=yG ((b:Int):Int);by_cases C:65<=z/\z<=90;rotate_left
 .have hr:R=false:=by rw [<-c];exact Te u (by rw [d];omega)
  have HR:=Hd hr;by_cases q:z<65
  .have B:=QQ q;clear c hr C d;exact uX
  .have B:=QW q;have K:decide (90<z)=true:=As
   clear c hr C q d;exact uX
 obtain ⟨q,B⟩:=C;have N:Aw (65<=bAt s 0/\bAt s 0<=90):=Hd (by rw [d];omega);have HR:=Hd c;have K:decide (z<65)=false:=As
 have P:decide (90<z)=false:=As
 clear c d;go_wp2;go_loop [3] (fun i=>∃ j:Nat,j<=s.size/\i=.int .i64 j/\∀ t,t<j->IP t (bAt s t)=true) (fun i=>s.size-(intOf i).toNat)
 .exact ⟨0,Z0 _,rfl,fun t h=>absurd h Oo⟩
 .clear r hz q B K P;obtain ⟨j,hj,rfl,g⟩:=hrel;have I:=Hd g;clear g;by_cases E:j<s.size
  .obtain ⟨b',r⟩:∃ b,(s[j]).toNat=b:=⟨_,rfl⟩
   have d:bAt s j=b':=by rw [Vs s j E,r]
   have v:=Hd d;obtain ⟨l,hz⟩:∃ z:Int,(b':Int)=z:=⟨_,rfl⟩
   have n:=Hd hz;have F:IP j b'=false->R=false:=fun h=>by rw [<-HR.o];unfold Im;rw [Yf E (by rw [v.o];exact h)];simp
   have x:=Hd F
   have f:IP j b'=true->∀ t,t<j+1->IP t (bAt s t)=true:=fun h t O=>by
    by_cases e:t=j
    .subst e;rw [v.o];exact h
    .exact I.o t Oo
   have J:=Hd f;have X:(0:Int)<=(j:Int):=Oo
   have Z:(j:Int)<(s.size:Int):=Oo
   clear F f d;by_cases k:l<65
   .have k2:=QQ k;by_cases a:l<48
    .have m2:=QQ a;clear k a;go_wp2;go_ret;exact ⟨by rw [x.o (by have:=n.o;have m:=ZZ m2;simp [IP];omega)];rfl,rfl⟩
    .have m2:=QW a;by_cases o:57<l
     .have L:=QQ o;clear a;go_wp2;go_ret;exact ⟨by rw [x.o (by have:=n.o;simp [IP];omega)];rfl,rfl⟩
     .have L:=QW o
      have p:j≠0:=by
       rintro rfl;have:=N.o;have e1:=v.o;have W:=n.o;omega
      have A:=Hd p;have y:=Hd a;have Q:=Hd o;clear a o p;go_wp2
      go_round
      .exact ⟨j+1,Oo,Au,J.o (by have:=n.o;have:=y.o;have:=Q.o;have:=A.o;simp [IP];omega)⟩
      .exact At
   .have k2:=QW k;by_cases a:90<l
    .have m2:=QQ a;have o:decide (l<48)=false:=As
     have L:decide (57<l)=true:=As
     clear k;go_wp2;go_ret;exact ⟨by rw [x.o (by have:=n.o;simp [IP];omega)];rfl,rfl⟩
    .have m2:=QW a;have S:=Hd k;have y:=Hd a;clear k a;go_wp2
     go_round
     .exact ⟨j+1,Oo,Au,J.o (by have:=n.o;have:=y.o;have:=S.o;simp [IP];omega)⟩
     .exact At
  .have hr:R=true:=by
    rw [<-HR.o];unfold Im;rw [Yw fun t O=>I.o t Oo];simp;omega
   have U:=Hd hr;clear hr;go_wp2;go_ret;exact ⟨by rw [U.o];rfl,rfl⟩
def Hc (n:Int):List Com->Bool
 | []=>true
 |c::r=>if c.num<=n then false else Hc (if 0<c.cn then c.num+c.cn-1 else n) r
def Zx (l:List Com):Option (List Com):=if (l.any fun x => !Zy x)=true then none else if Hc 0 (Xl Z4 [] l)=true then some (Xl Z4 [] l) else none
def ju (w:Wd) (e:Ending) (w':Wd):Prop:=e=.returned (.tuple #[.slice none 0 0,.bool false])/\Below w.1.size w w'
def uO (w:Wd) (s:List Com) (e:Ending) (w':Wd):Prop:=∃ A c,e=.returned (.tuple #[.slice A s.length c,.bool true])/\Cs w' w'.1.size A s.length c s/\Below w.1.size w w'
def pd (r:Option (List Com)) (w:Wd) (e:Ending) (w':Wd):Prop:=(r=none/\ju w e w')\/(∃ s,r=some s/\uO w s e w')
def FY {x:Com} (h:Zy x=true):1<=x.num/\x.num<=1099511627776/\x.cn<=300:=by
 unfold Zy at h;simp only [QU,QG] at h;have:=Gw h.1.1.1.2;exact ⟨this.1,this.2,h.1.1.1.1.2⟩
def FK:(prog.info? 42).map (fun i=>(i.zero,i.size,i.bytes))=some (some (.agg #[.int .i64 0,.int .i64 0,.slice none 0 0,.slice none 0 0]),4,64):=Ak
def Ho {l s:List Com} (h:Zx l=some s):∀ x∈s,x∈l/\Zy x=true:=by
 unfold Zx at h;split at h
 .cases h
 .rename_i ha;split at h
  .injection h with h
   subst h;intro x a;rw [K7] at a
   have b:x∈l:=by
    rcases a with a|a
    .cases a
    .exact a
   refine ⟨b,?_⟩;cases c:Zy x with
   |true=>rfl
   |false=>exact absurd (VW.2 ⟨x,b,by simp [c]⟩) ha
  .cases h
def Hp {l s:List Com} (h:Zx l=some s):s.length=l.length:=by
 unfold Zx at h;split at h
 .cases h
 .split at h
  .injection h with h
   subst h;rw [E9];simp
  .cases h
structure Rg where
 lo:Bz
 hi:Bz
 en:Bool
def rgV (r:Rg):Value:=.agg #[.string r.lo,.string r.hi,.bool r.en]
def Ci (k:Bz):Rg:=⟨k,⟨#[]⟩,true⟩
def Pg (k:Bz):Rg:=⟨k,k,false⟩
def vK (k:Bz) (w:Wd):Calls prog 72 #[.string k] w (Ab w (rgV (Ci k))):=by
 unfold rgV Ci;go_wp2;exact Br (v:=.agg #[.string k,.string ⟨#[]⟩,.bool true]) (by simp [results,results72,go_sem]) rfl ⟨rfl,Aj⟩
def Nn (k:Bz) (w:Wd):Calls prog 73 #[.string k] w (Ab w (rgV (Pg k))):=by
 unfold rgV Pg;go_wp2;exact Br (v:=.agg #[.string k,.string k,.bool false]) (by simp [results,results73,go_sem]) rfl ⟨rfl,Aj⟩
def inB (r:Rg) (k:Bz):Bool := !Un k r.lo&&!(!r.en&&Un r.hi k)
def j5 (a b:Bz):(!Op.bytesLess a.toList b.toList&&!(a.toList == b.toList))=Un b a:=by
 rw [F2];unfold Un;rw [MF,Bool.not_or]
def rN (h a k:Bz) (d:Bool) (b e:Nat) (w:Wd) (f:w.cell? ⟨b,0,none⟩=some (.string h)) (l:w.cell? ⟨b,1,none⟩=some (.string a)) (j:w.cell? ⟨b,2,none⟩=some (.bool d)) (m:w.cell? ⟨e,0,none⟩=some (.string k)):
  Calls prog 187 #[Ag b 0,Ag e 0] w (Ab w (.bool (!d&&Un a k))):=by
 have g:=f;clear f g;obtain ⟨R,c⟩:=yG (Un a k);have i:Aw ((!Op.bytesLess k.toList a.toList&&!(k.toList == a.toList))=R):=Hd (by rw [j5,c]);rw [c];clear c;cases d with
 |true=>
  go_wp2;go_ret;exact ⟨rfl,Bf _ _⟩
 |false=>
  go_wp2;go_ret;refine ⟨?_,Bf _ _⟩;rw [<-i.o];rfl
def nr (r:Rg) (k:Bz) (w:Wd):Calls prog 145 #[rgV r,.string k] w (Ab w (.bool (inB r k))):=by
 obtain ⟨a,c,b⟩:=r;unfold rgV inB;simp only;have g:=Hd (Xj w #[.string a,.string c,.bool b] 119);have f:=Hd ((Ul g).alloc (YE (Xx g)) (.cells #[.string k] 9));have d:=(Blk.new w 119 #[.string a,.string c,.bool b]).alloc (.cells #[.string k] 9);have h:=U3 (Aa w #[.string a,.string c,.bool b] 119) 9 #[.string k] (w.1.size+1) Am;have l:=Hd (rN a c k b w.1.size (w.1.size+1) _ (d.cell 0) (d.cell 1) (d.cell 2) (h.cell 0));clear d h;obtain ⟨R,j⟩:=yG (!b&&Un c k);rw [j] at l ⊢;clear j;cases e:Un k a with
 |true=>
  have m:Op.bytesLess k.toList a.toList=true:=e;clear e;go_wp2;go_ret;exact ⟨rfl,f⟩
 |false=>
  have m:Op.bytesLess k.toList a.toList=false:=e;clear e;go_in;go_wp2_with (go_at_call 187;refine yP l fun o i=>?_;have n:=Hd (U0 f i f.size);clear i);go_ret;exact ⟨rfl,n⟩
def PE (r:Rg):Bool := !inB r r.lo
def S0 (r:Rg) (w:Wd):Calls prog 102 #[rgV r] w (Ab w (.bool (PE r))):=by
 have a:=fun W=>Hd (nr r r.lo W)
 unfold PE;generalize inB r r.lo=R at a ⊢;obtain ⟨e,f,d⟩:=r;unfold rgV at a ⊢;simp only at a ⊢;have a:=a (Aa w #[.string e,.string f,.bool d] 119);have b:=Hd (Xj w #[.string e,.string f,.bool d] 119);go_in;go_wp2_with (go_at_call 145;refine yP a fun h c=>?_;have g:=Hd (U0 (Ul b) c (YE (Xx b)));clear c);go_ret;exact ⟨rfl,g⟩
def mxS (a b:Bz):Bz:=if Un a b then b else a
def mnS (a b:Bz):Bz:=if Un b a then b else a
def Nu (a b:Rg):Rg:=⟨mxS a.lo b.lo,if a.en&&b.en then ⟨#[]⟩ else if a.en then b.hi else if b.en then a.hi else mnS a.hi b.hi,a.en&&b.en⟩
def zX (W:Wd) (a b:Bz):(Builtin.max_ #[9,9] 9 #[.string a,.string b]).run prog W=.ok (.string (mxS a b)) W:=by
 cases h:Op.bytesLess a.toList b.toList<;>simp [Builtin.max_,Builtin.max2,Op.stringOp,mxS,Un,asBool,h]
def zW (W:Wd) (a b:Bz):(Builtin.min_ #[9,9] 9 #[.string a,.string b]).run prog W=.ok (.string (mnS a b)) W:=by
 have d:=nj a b;cases h:Un b a<;>rw [h] at d<;>simp [Builtin.min_,Builtin.min2,Op.stringOp,mnS,asBool,h]
 .simp at d;intro f e;rcases d with c|c
  .rw [f] at c;cases c
  .exact absurd c e
 .simp_all
def xR (a b:Rg) (w:Wd):Calls prog 103 #[rgV a,rgV b] w (Ab w (rgV (Nu a b))):=by
 obtain ⟨m,e,o⟩:=a;obtain ⟨d,c,f⟩:=b;unfold rgV Nu;simp only;obtain ⟨M,g⟩:=yG (mxS m d);obtain ⟨N,l⟩:=yG (mnS e c);have p:=fun W=>zX W m d
 have n:=fun W=>zW W e c
 rw [g] at p ⊢;rw [l] at n ⊢;clear g l;have BB:Aw (∀ i h j k,Below w.1.size w ((((w.alloc i).alloc h).alloc j).alloc k)):=Hd fun i h j k=>((((Bf w.1.size w).alloc (Le _) _).alloc Am _).alloc As _).alloc As _
 cases o<;>cases f
 .go_wp2;exact Br (v:=.agg #[.string M,.string N,.bool false]) (by simp [results,results103,go_sem]) rfl ⟨rfl,BB _ _ _ _⟩
 .go_wp2;exact Br (v:=.agg #[.string M,.string e,.bool false]) (by simp [results,results103,go_sem]) rfl ⟨rfl,BB _ _ _ _⟩
 .go_wp2;exact Br (v:=.agg #[.string M,.string c,.bool false]) (by simp [results,results103,go_sem]) rfl ⟨rfl,BB _ _ _ _⟩
 .go_wp2;exact Br (v:=.agg #[.string M,.string ⟨#[]⟩,.bool true]) (by simp [results,results103,go_sem]) rfl ⟨rfl,BB _ _ _ _⟩
def J8 (a b:Rg):Bool := !PE (Nu a b)
def RK (a b:Rg) (w:Wd):Calls prog 71 #[rgV a,rgV b] w (Ab w (.bool (J8 a b))):=by
 have d:=Hd fun W=>xR a b W
 have c:=Hd fun W=>S0 (Nu a b) W
 unfold J8;generalize PE (Nu a b)=R at c ⊢;generalize Nu a b=m at d c;obtain ⟨l,r,q⟩:=a;obtain ⟨f,e,g⟩:=b;obtain ⟨s,o,n⟩:=m;unfold rgV at d c ⊢;simp only at d c ⊢;have h:Aw (Below w.1.size w ((Aa w #[.string l,.string r,.bool q] 119).alloc (.cells #[.string f,.string e,.bool g] 119))):=Hd (((Bf w.1.size w).alloc (Le _) _).alloc Am _);go_in;go_wp2_with (first|(go_at_call 103;refine yP (d _) fun u i=>?_;have k:=Hd (U0 h i h.size);clear i)|(go_at_call 102;refine yP (c _) fun t j=>?_;have p:=Hd (U0 k j k.size);clear j));go_ret;exact ⟨rfl,p⟩
structure Tch where
 id:Int
 r:Rg
def EL (t:Tch):List Value:=[.int .i64 t.id,.string t.r.lo,.string t.r.hi,.bool t.r.en]
def Qj (t:Tch):(EL t).length=4:=rfl
def P9 (W:Wd) (k:Nat) (cs:List Value) (t:TypeId) (n size:Nat) (h:cs.length=n*size) (hz:W.1.size=k):Rd (W.alloc (.cells cs.toArray t)) (k+1) size (Ah k 0) n cs:=by
 subst hz;exact Yv W cs t n size h
def chT (c:Chg):Tch:=⟨c.id,if c.kind=0\/c.kind=1 then Pg c.key else Ci ⟨#[]⟩⟩
def C4:(prog.info? 121).map (fun i=>(i.zero,i.size,i.bytes))=some (some (.agg #[.int .i64 0,.string ⟨#[]⟩,.string ⟨#[]⟩,.bool false]),4,48):=Ak
def Ki {α β:Type} (f:α->β) {l:List α} {j:Nat} {x:α} (h:l[j]? =some x):(l.map f).take (j+1)=(l.map f).take j++[f x]:=by
 rw [YG,YK,h];rfl
def Bj (w:Wd) (n:Nat) (l:List Tch) (e:Ending) (w':Wd):Prop:=∃ A c,e=.returned (.slice A n c)/\Sl EL 4 w' w'.1.size A n c l/\Below w.1.size w w'
def GU (x:Com) (w:Wd) (H:ComOk w w.1.size x) (hn:x.cn<=1000) (J:∀ c∈x.cs,c.kind=0):
  Calls prog 40 #[.agg #[.int .i64 x.unit,.int .i64 x.num,.slice x.rA x.rn x.rc,.slice x.cA x.cn x.cc]] w (Bj w x.cn (x.cs.map chT)):=by
 have HS:=Hd H.2.1;have n:=Hd J;have HL:=Hd H.2.1.len;obtain ⟨i0,V,bB,U,Q⟩:=WG C4;have z:Aw (∀ W:Wd,Calls prog 72 #[.string ⟨#[]⟩] W (Ab W (.agg #[.string ⟨#[]⟩,.string ⟨#[]⟩,.bool true]))):=Hd fun W=>vK ⟨#[]⟩ W
 clear H J;go_in;have B:=EG (Xj w #[.int .i64 x.unit,.int .i64 x.num,.slice x.rA x.rn x.rc,.slice x.cA x.cn x.cc] 42) 3;clear B;go_wp2;go_loopw [3,10] (fun S i wr=>∃ j:Nat,j<=x.cn/\i=.int .i64 j/\wr.ownsRow (w.1.size+1) 121 4 S j (U7 EL ((x.cs.map chT).take j))/\Below (w.1.size+1) (w.alloc (.cells #[.int .i64 x.unit,.int .i64 x.num,.slice x.rA x.rn x.rc,.slice x.cA x.cn x.cc] 42)) wr) (fun _ i _=>x.cn-(intOf i).toNat)
 .exact ⟨0,Z0 _,rfl,⟨rfl,.inl ⟨rfl,rfl⟩⟩,Bf _ _⟩
 .obtain ⟨j,hj,rfl,aD,aF⟩:=hrel;have l:=Hd aD;have A:=Hd aF;have r:=Xx aF;clear aD aF;by_cases R:j<x.cn
  .obtain ⟨b,o,y,hA,hb,hg,aB⟩:=Sl.cell (f:=chC) (k:=5) PU (HS.after (Ul A) (YE r)) R;have v:=Hd hg;have HCA:=Hd aB;have fX:=Hd hb;have F:Aw (U7 EL ((x.cs.map chT).take (j+1))=U7 EL ((x.cs.map chT).take j)++EL (chT y)):=Hd (by rw [Ki chT v.o,V9,Xr]);have I:=Hd hA;rw [hA];have O:=aB 0 _ rfl;have c1:=aB 1 _ rfl;have c2:=aB 2 _ rfl;have c3:=aB 3 _ rfl;have c4:=aB 4 _ rfl;simp only [QF] at O;clear hg aB hb hA;have D:Aw (chT y=⟨y.id,⟨y.key,y.key,false⟩⟩):=Hd (by unfold chT;rw [QK (.inl (n.o y (QJ v.o)))];rfl);have E:Aw (∀ W:Wd,Calls prog 73 #[.string y.key] W (Ab W (.agg #[.string y.key,.string y.key,.bool false]))):=Hd fun W=>Nn y.key W
   rw [n.o y (QJ v.o)] at O;go_wp2_with fail;refine yP (z _) fun g G=>?_
   have d:=(Blk.new wr 50 #[.int .i64 0,.int .i64 y.id,.string y.key,.string y.rcd,.string y.vol]).below G Am;have a0:=d.cell 0;have a1:=d.cell 1;have a2:=d.cell 2;simp at a0 a1 a2;have l1:=d.lt;have e:=Hd (U0 ((Bf wr.1.size wr).alloc (Le _) _) G Am);clear G;go_wp2_with fail;refine yP (E _) fun w3 t=>?_
   have m:=(d.alloc (.cells #[.string ⟨#[]⟩,.string ⟨#[]⟩,.bool true] 119)).below t As;have a:=(Blk.new g 119 #[.string ⟨#[]⟩,.string ⟨#[]⟩,.bool true]).below t Am;have Z:=m.cell 1;have Y:=a.cell 0;have T:=a.cell 1;have r2:=a.cell 2;have f0:=a.free 0;have f1:=a.free 1;have f2:=a.free 2;simp at Z Y T r2;have l2:=a.lt;have l3:wr.1.size≠g.1.size:=Oo
   have l4:¬ wr.1.size=g.1.size:=l3;have B3:=Hd (U0 (e.alloc e.size _) t (Lx e.size (Jt _ _)));have s:=Hd (((B3.setCell (p:=⟨g.1.size,0,none⟩) e.size (.string y.key)).setCell (p:=⟨g.1.size,1,none⟩) e.size (.string y.key)).setCell (p:=⟨g.1.size,2,none⟩) e.size (.bool false));clear d m a t;go_wp2_with (at_builtin;go_must (refine Ui _ rfl _ _ 85 rfl (w.1.size+1) 121 i0 _ 4 48 underlying85 V bB U Q rfl Ac _ j _ rfl ((Ub l s).alloc _) _ _ 1 1 [.int .i64 y.id,.string y.key,.string y.key,.bool false] rfl (P9 _ _ [.int .i64 y.id,.string y.key,.string y.key,.bool false] 121 1 4 rfl ?c5) ?c1 ?c2 ?c3 ?c4 ?_))
   case c5=>simp
   case c1=>intro u M;simp at M;rcases M with rfl|rfl|rfl|rfl<;>rfl
   case c2=>simp only [maxLen];omega
   case c3=>omega
   case c4=>simp;omega
   intro v4 P N L _;have B4:=Hd (((A.trans (s.mono r)).alloc (Lx r s.size) _).grown L (Lx (Lx r s.size) (Jt _ _)) (U9 l (Le _)));have fK:Aw (P.ownsRow (w.1.size+1) 121 4 v4 (j+1) (U7 EL ((x.cs.map chT).take (j+1)))):=Hd (by rw [F.o,D.o];exact N);clear N L;go_wp2;go_roundw
   .exact ⟨j+1,Oo,Au,fK,by have h:=B4.o;rw [I.o] at h;exact h⟩
   .exact At
  .have gG:x.cn=j:=Oo
   have K:(x.cs.map chT).take j=x.cs.map chT:=WU (by rw [XT,HL.o];omega);rw [K] at l;obtain ⟨A5,c5,C,_,_⟩:=U4 l;subst C;have X:=Hd (Sl.of_own (f:=EL) (k:=4) Qj Ac l);have q:=Hd gG;clear K gG;go_wp2;go_ret;exact ⟨A5,c5,by rw [q.o];rfl,by rw [q.o];exact X,Ul A⟩
def rdT (r:Rdd):Tch:=⟨r.id,if r.kind=0 then Pg r.key else if r.code≠0 then Ci r.key else ⟨r.key,r.ak,false⟩⟩
def yj (x:Com) (w:Wd) (B:ComOk w w.1.size x) (hn:x.rn<=1000) (D:∀ c∈x.rs,c.kind=0):
  Calls prog 41 #[.agg #[.int .i64 x.unit,.int .i64 x.num,.slice x.rA x.rn x.rc,.slice x.cA x.cn x.cc]] w (Bj w x.rn (x.rs.map rdT)):=by
 have HS:=Hd B.1;have g:=Hd D;have Y:=Hd B.1.len;obtain ⟨V,P,bB,O,K⟩:=WG C4;clear B D;go_wp2;go_loopw [3,10] (fun M i wr=>∃ j:Nat,j<=x.rn/\i=.int .i64 j/\wr.ownsRow (w.1.size+1) 121 4 M j (U7 EL ((x.rs.map rdT).take j))/\Below (w.1.size+1) (Aa w #[.int .i64 x.unit,.int .i64 x.num,.slice x.rA x.rn x.rc,.slice x.cA x.cn x.cc] 42) wr) (fun _ i _=>x.rn-(intOf i).toNat)
 .exact ⟨0,Z0 _,rfl,⟨rfl,.inl ⟨rfl,rfl⟩⟩,Bf _ _⟩
 .obtain ⟨j,hj,rfl,aD,aF⟩:=hrel;have e:=Hd aD;have s:=Hd aF;have m:=Xx aF;clear aD aF;by_cases L:j<x.rn
  .obtain ⟨b,o,y,hA,hb,hg,aB⟩:=Sl.cell (f:=rdC) (k:=6) Pa (HS.o.after (Ul s.o) (YE m)) L;have r:=Hd hg;have A:Aw (U7 EL ((x.rs.map rdT).take (j+1))=U7 EL ((x.rs.map rdT).take j)++EL (rdT y)):=Hd (by rw [Ki rdT r.o,V9,Xr]);have C:=Hd hA;rw [hA];have I:=aB 0 _ rfl;have c1:=aB 1 _ rfl;have c2:=aB 2 _ rfl;have c3:=aB 3 _ rfl;have c4:=aB 4 _ rfl;have c5:=aB 5 _ rfl;simp only [QF] at I;clear hg aB hb hA;have z:Aw (∀ W:Wd,Calls prog 73 #[.string y.key] W (Ab W (.agg #[.string y.key,.string y.key,.bool false]))):=Hd fun W=>Nn y.key W
   rw [g.o y (QJ r.o)] at I;have v:Aw (rdT y=⟨y.id,⟨y.key,y.key,false⟩⟩):=Hd (by unfold rdT;rw [g.o y (QJ r.o),QK rfl];rfl);go_wp2_with fail;refine yP (z.o _) fun w3 q=>?_
   have d:=((Blk.new wr 48 #[.int .i64 0,.int .i64 y.id,.string y.key,.string y.ak,.string y.ar,.int .i64 y.code]).alloc (.cells #[.string y.key,.string y.ak,.bool false] 119)).below q As;have a:=(U3 (Aa wr #[.int .i64 0,.int .i64 y.id,.string y.key,.string y.ak,.string y.ar,.int .i64 y.code] 48) 119 #[.string y.key,.string y.ak,.bool false] (wr.1.size+1) Am).below q Am;have S:=d.cell 1;have U:=d.cell 5;have R:=a.cell 0;have N:=a.cell 1;have r2:=a.cell 2;have f0:=a.free 0;have f1:=a.free 1;have f2:=a.free 2;simp at S U R N r2;have l2:=a.lt;have X:=Hd (U0 (((Bf wr.1.size wr).alloc (Le _) (.cells #[.int .i64 0,.int .i64 y.id,.string y.key,.string y.ak,.string y.ar,.int .i64 y.code] 48)).alloc (Jt _ _) (.cells #[.string y.key,.string y.ak,.bool false] 119)) q As)
   have n:=Hd (((X.o.setCell (p:=⟨wr.1.size+1,0,none⟩) (JX _) (.string y.key)).setCell (p:=⟨wr.1.size+1,1,none⟩) (JX _) (.string y.key)).setCell (p:=⟨wr.1.size+1,2,none⟩) (JX _) (.bool false));clear d a q;go_wp2_with (at_builtin;go_must (refine Ui _ rfl _ _ 85 rfl (w.1.size+1) 121 V _ 4 48 underlying85 P bB O K rfl Ac _ j _ rfl ((Ub e.o n.o).alloc _) _ _ 1 1 [.int .i64 y.id,.string y.key,.string y.key,.bool false] rfl (P9 _ _ [.int .i64 y.id,.string y.key,.string y.key,.bool false] 121 1 4 rfl ?c5) ?c1 ?c2 ?c3 ?c4 ?_))
   case c5=>simp
   case c1=>intro u G;simp at G;rcases G with rfl|rfl|rfl|rfl<;>rfl
   case c2=>simp only [maxLen];omega
   case c3=>omega
   case c4=>simp;omega
   intro Z J H F _;have B4:=Hd (((s.o.trans (n.o.mono m)).alloc (Lx m n.o.size) _).grown F (Lx (Lx m n.o.size) (Jt _ _)) (U9 e.o (Le _)));have fK:Aw (J.ownsRow (w.1.size+1) 121 4 Z (j+1) (U7 EL ((x.rs.map rdT).take (j+1)))):=Hd (by rw [A.o,v.o];exact H);clear H F;go_wp2;go_roundw
   .exact ⟨j+1,Oo,Au,fK.o,by have h:=B4.o;rw [C.o] at h;exact h⟩
   .exact At
  .have gG:x.rn=j:=Oo
   have E:(x.rs.map rdT).take j=x.rs.map rdT:=WU (by rw [XT,Y.o];omega);rw [E] at e;obtain ⟨T,c5,t,_,_⟩:=U4 e.o;subst t;have Q:=Hd (Sl.of_own (f:=EL) (k:=4) Qj Ac e.o);have l:=Hd gG;clear E gG;go_wp2;go_ret;exact ⟨T,c5,by rw [l.o];rfl,by rw [l.o];exact Q.o,Ul s.o⟩
def tE (F:Nat) (J:F=70\/F=69) (E:Nat) (p:Tch->Bool) (A:Option Addr) (n c:Nat) (l:List Tch) (w:Wd) (s:Sl EL 4 w w.1.size A n c l) (hn:n<=9223372036854775807)
  (y:∀ x∈l,∀ W:Wd,Below w.1.size w W->Calls prog F #[.agg #[.int .i64 x.id,.string x.r.lo,.string x.r.hi,.bool x.r.en],Ag E 0] W (Ab W (.bool (p x)))):
  Calls prog 101 #[.slice A n c,.func (.func F) #[] #[Ag E 0]] w (Ab w (.int .i64 (if l.findIdx p<n then (l.findIdx p:Int) else -1))):=by
 have L:=Hd s;have K:=Hd s.len;have I:=Hd y;clear s y;obtain ⟨R,r⟩:=yH ((if l.findIdx p<n then (l.findIdx p:Int) else -1):Int);rw [r.o];rcases J with rfl|rfl
 all_goals
  go_wp2;go_loopw [8] (fun i wr=>∃ j:Nat,j<=n/\i=.int .i64 j/\(∀ t,t<j->∀ e,l[t]? =some e->p e=false)/\Below w.1.size w wr) (fun i _=>n-(intOf i).toNat)
  .exact ⟨0,Z0 _,rfl,fun t h=>absurd h Oo,Bf _ _⟩
  .obtain ⟨j,hj,rfl,hall,aF⟩:=hrel;have q:=Hd hall;have C:=aF.size;clear hall;by_cases z:j<n
   .obtain ⟨b,o,x,rfl,hb,hg,aB⟩:=Sl.cell (f:=EL) (k:=4) (fun _=>rfl) (L.below aF) z;have M:=aB 0 _ rfl;have c1:=aB 1 _ rfl;have c2:=aB 2 _ rfl;have c3:=aB 3 _ rfl;simp only [QF] at M;have B:=Hd (I x (QJ hg) wr aF);have D:=Hd hg;clear hg aB;cases d:p x with
    |true=>
     have g:R=(j:Int):=by rw [<-r.o,Vn q.o D.o d,QK z]
     have u:=Hd g;have m:=Hd d;clear g d;go_wp2_with fail;refine yP B fun G a=>?_
     rw [m.o];have v:=U0 aF a C;clear a;go_wp2;go_ret;exact ⟨by rw [u.o];rfl,v⟩
    |false=>
     have m:=Hd d;clear d;go_wp2_with fail;refine yP B fun G a=>?_
     rw [m.o];have v:=U0 aF a C;clear a;go_wp2;go_roundw
     .refine ⟨j+1,Oo,Au,fun t H e he=>?_,v⟩;by_cases h:t=j
      .subst h;rw [D.o] at he;injection he with he;subst he;exact m
      .exact q t Oo e he
     .exact At
   .have g:R = -1:=by rw [<-r.o,Vj K.o (fun t H=>q.o t Oo),QX Oo]
    have u:=Hd g;clear g;go_wp2;go_ret;exact ⟨by rw [u.o];rfl,aF⟩
def ph (F:Nat) (h:F=70\/F=69) (a:Nat) (p:Tch->Bool) (A:Option Addr) (n c:Nat) (l:List Tch) (w:Wd) (b:Sl EL 4 w w.1.size A n c l) (hn:n<=9223372036854775807)
  (e:∀ x∈l,∀ W:Wd,Below w.1.size w W->Calls prog F #[.agg #[.int .i64 x.id,.string x.r.lo,.string x.r.hi,.bool x.r.en],Ag a 0] W (Ab W (.bool (p x)))):
  Calls prog 68 #[.slice A n c,.func (.func F) #[] #[Ag a 0]] w (Ab w (.bool (l.any p))):=by
 have H:=Hd (tE F h a p A n c l w b hn e);have d:=EJ p l;rw [b.len] at d;have g:=Hd d;clear b e d h;generalize l.findIdx p=q at H g;go_in;by_cases f:q<n
 all_goals
  simp only [f,VY,if_false] at H;go_wp2_with (go_at_call 101;refine yP H fun j i=>?_);go_ret;exact ⟨by rw [g.o];simp [f],i⟩
def tmB (x y:Tch):Bool:=decide (x.id=y.id)&&J8 x.r y.r
def XF (x:Tch) (g:Nat) (w:Wd):Prop:=w.cell? ⟨g,0,none⟩=some (.int .i64 x.id)/\w.cell? ⟨g,1,none⟩=some (.string x.r.lo)/\w.cell? ⟨g,2,none⟩=some (.string x.r.hi)/\w.cell? ⟨g,3,none⟩=some (.bool x.r.en)
def ry (x y:Tch) (g:Nat) (w:Wd) (p:XF x g w):
  Calls prog 70 #[.agg #[.int .i64 y.id,.string y.r.lo,.string y.r.hi,.bool y.r.en],Ag g 0] w (Ab w (.bool (tmB x y))):=by
 obtain ⟨j,q,o,n⟩:=p;have lt:=block_lt_of_cell j;simp only at lt;obtain ⟨xi,xl,e,f⟩:=x;obtain ⟨h,b,d,c⟩:=y;unfold tmB;simp only at j q o n ⊢;have i:=Hd (Xj w #[.int .i64 h,.string b,.string d,.bool c] 121);by_cases a:xi=h
 .rw [QQ a,XL];have k:(xi == h)=true:=by simpa using a
  have l:Aw (∀ W:Wd,Calls prog 71 #[.agg #[.string xl,.string e,.bool f],.agg #[.string b,.string d,.bool c]] W (Ab W (.bool (J8 ⟨xl,e,f⟩ ⟨b,d,c⟩)))):=Hd fun W=>RK ⟨xl,e,f⟩ ⟨b,d,c⟩ W
  generalize J8 ⟨xl,e,f⟩ ⟨b,d,c⟩=R at l ⊢;subst a;clear k;go_in;go_wp2_with (go_at_call 71;refine yP (l _) fun s m=>?_;have r:=Hd (U0 (Ul i) m (YE (Xx i)));clear m);go_ret;exact ⟨rfl,r⟩
 .rw [QW a,YM];have k:(xi == h)=false:=by simpa using a
  clear a;go_wp2;go_ret;exact ⟨rfl,Ul i⟩
def ls {G:Prop} (h:G:=by
  go_wp2_with (go_at_call 68;refine yP HA.o fun w2 aH=>?_;have X2:=Hd (U0 (Ul B0.o) aH (YE (Xx B0.o)));clear aH);go_ret;exact ⟨rfl,X2.o⟩):G:=h
def nc (x:Tch) (A:Option Addr) (n c:Nat) (l:List Tch) (g:Nat) (w:Wd) (e:w.cell? ⟨g,0,none⟩=some (.slice A n c)) (d:Sl EL 4 w w.1.size A n c l) (hn:n<=1000):
  Calls prog 69 #[.agg #[.int .i64 x.id,.string x.r.lo,.string x.r.hi,.bool x.r.en],Ag g 0] w (Ab w (.bool (l.any fun y=>tmB x y))):=by
 have lt:=block_lt_of_cell e;simp only at lt;have B0:=Hd (Xj w #[.int .i64 x.id,.string x.r.lo,.string x.r.hi,.bool x.r.en] 121);have a:=Blk.new w 121 #[.int .i64 x.id,.string x.r.lo,.string x.r.hi,.bool x.r.en];have HA:=Hd (ph _ (.inl rfl) w.1.size (fun y=>tmB x y) A n c l (Aa w #[.int .i64 x.id,.string x.r.lo,.string x.r.hi,.bool x.r.en] 121) (d.after (Ul B0) (YE (Xx B0))) Oo (fun y _ W b=>ry x y w.1.size W ⟨(a.below b a.lt).cell 0,(a.below b a.lt).cell 1,(a.below b a.lt).cell 2,(a.below b a.lt).cell 3⟩));generalize (l.any fun y=>tmB x y)=R at HA ⊢;clear a d;go_in;exact ls
def RQ (a b:List Tch):Bool:=a.any fun x=>b.any fun y=>tmB x y
def Om (A A':Option Addr) (n c d c':Nat) (a b:List Tch) (w:Wd) (j:Sl EL 4 w w.1.size A n c a) (i:Sl EL 4 w w.1.size A' d c' b) (hn:n<=1000) (f:d<=1000):
  Calls prog 39 #[.slice A n c,.slice A' d c'] w (Ab w (.bool (RQ a b))):=by
 have B0:=Hd (Xj w #[.slice A' d c'] 85);have g:=Blk.new w 85 #[.slice A' d c'];have HA:=Hd (ph _ (.inr rfl) w.1.size (fun x=>b.any fun y=>tmB x y) A n c a (Aa w #[.slice A' d c'] 85) (j.after (Ul B0) (YE (Xx B0))) Oo (fun x _ W e=>nc x A' d c' b w.1.size W ((g.below e g.lt).cell 0) (i.after ((Ul B0).trans (e.mono (YE (Xx B0)))) (Lx (YE (Xx B0)) e.size)) f));unfold RQ;generalize (a.any fun x=>b.any fun y=>tmB x y)=R at HA ⊢;clear g j i;go_in;exact ls
def sR:Chg:=⟨0,200,⟨#[107]⟩,⟨#[107,49]⟩,⟨#[]⟩⟩
def yk:Rdd:=⟨0,200,⟨#[107]⟩,⟨#[]⟩,⟨#[]⟩,6⟩
def Ry (g:Nat):Com:=⟨9,5,none,0,0,some ⟨g+1,0,none⟩,1,1,[],[sR]⟩
def Fx (g:Nat) (k:Int):Com:=⟨8,k,some ⟨g+1+1+1,0,none⟩,1,1,none,0,0,[yk],[]⟩
abbrev exL (g:Nat) (k:Int):List Com:=[Ry g,Fx g k]
def pC (p:Nat×Nat):List Value:=[.int .i64 p.1,.int .i64 p.2]
def np:(prog.info? 55).map (fun i=>(i.zero,i.size,i.bytes))=some (some (.agg #[.int .i64 0,.int .i64 0]),2,16):=Ak
def LL (i k:Nat):List (Nat×Nat):=if i=0/\k<=1 then [] else [(0,1)]
def uP (i k:Nat):(LL i k).length<=1:=by unfold LL;split<;>simp
def LP (n:Nat) (l:List Tch) (v:Value) (W:Wd):Prop:=∃ A c,v=.slice A n c/\Sl EL 4 W W.1.size A n c l
def LPm {n:Nat} {l:List Tch} (v:Value) (w w':Wd) (h:Rb w w') (a:LP n l v w):LP n l v w':=let ⟨A,c,e,b⟩:=a;⟨A,c,e,b.after h h.size⟩
def LP.of {f:Nat} {a:Array Value} {W:Wd} {n:Nat} {l:List Tch} (h:Calls prog f a W (Bj W n l)):Calls prog f a W fun x w'=>∃ u,x=.returned u/\LP n l u w'/\Below W.1.size W w':=
 h.mono fun _ _ ⟨A,c,d,b,e⟩=>⟨_,d,⟨A,c,rfl,b⟩,e⟩
def LP.meet {W:Wd} {n a:Nat} {l d:List Tch} {v e:Value} {R:Bool} (h:LP n l v W) (g:LP a d e W) (j:RQ l d=R) (hn:n<=1000) (b:a<=1000):Calls prog 39 #[v,e] W (Ab W (.bool R)):=by
 obtain ⟨A,c,rfl,i⟩:=h;obtain ⟨A',c',rfl,f⟩:=g;subst j;exact Om A A' n c a c' l d W i f hn b
structure CI (wx:Wd) (ga:Nat) (ca cb:Array Value) (W:Wd):Prop where
 bx:Below wx.1.size wx W
 ba:Blk W ga 42 ca
 bb:Blk W wx.1.size 42 cb
def CI.next {d W W':Wd} {c:Nat} {e b:Array Value} (h:CI d c e b W) (a:Rb W W'):CI d c e b W':=⟨U0 h.bx a h.bx.size,h.ba.below a h.ba.lt,h.bb.below a h.bb.lt⟩
def vw (g n m:Nat) (hm:m=2) (A:Option Addr) (c:Nat) (w:Wd) (ho:Calls prog 14 #[.slice A n c] w fun e w'=>∃ A c,e=.returned (.tuple #[.slice A m c,.bool true])/\Cs w' w'.1.size A m c (exL g 6)/\Below w.1.size w w'):
  Calls prog 15 #[.slice A n c] w fun e w'=>∃ A c,e=.returned (.slice A 1 c)/\Sl pC 2 w' w'.1.size A 1 c [(0,1)]/\Below w.1.size w w':=by
 have HO:=Hd ho;have P:=Hd hm;have hm2:=KM hm;obtain ⟨i0,bC,bB,aP,aT⟩:=WG np;clear ho hm;go_in;go_wp2_with (go_at_call 14;refine HO.mono ?_;rintro e q ⟨A1,c1,rfl,cL,aL⟩;have z:=Hd cL;have bI:=Hd aL;clear cL aL HO);go_loopw [5,17] (fun v5 E wr=>∃ i:Nat,i<=m/\E=.int .i64 i/\wr.ownsRow q.1.size 55 2 v5 (LL i (i+1)).length (U7 pC (LL i (i+1)))/\Below q.1.size q wr) (fun _ E _=>m-(intOf E).toNat)
 .exact ⟨0,Oo,rfl,⟨rfl,.inl ⟨rfl,rfl⟩⟩,Bf _ _⟩
 .obtain ⟨F,iN⟩:∃ F,F=wr:=⟨_,rfl⟩
  subst iN;obtain ⟨i,hi,rfl,H,M⟩:=hrel;have T:=Hd H;have U:=Hd M;clear H M;by_cases aE:i<m
  .obtain ⟨b,o,a,rfl,Q,hg,aB⟩:=Sl.cell (f:=Ud) (k:=4) Vo z.1 aE;have D:=Hd hg;have d:=fun j v h=>(U.cell (p:=⟨b,o+i*4+j,none⟩) Q).trans (aB j v h)
   have c0:=d 0 _ rfl;have c1:=d 1 _ rfl;have c2:=d 2 _ rfl;have c3:=d 3 _ rfl;simp only [QF] at c0;clear Q hg aB d;go_wp2_with fail;go_loopw [5,8] (fun v5 v8 Y=>∃ k:Nat,i<k/\k<=m/\v8=.int .i64 k/\Y.ownsRow q.1.size 55 2 v5 (LL i k).length (U7 pC (LL i k))/\Blk Y F.1.size 42 #[.int .i64 a.unit,.int .i64 a.num,.slice a.rA a.rn a.rc,.slice a.cA a.cn a.cc]/\Below q.1.size q Y) (fun _ v8 _=>m-(intOf v8).toNat)
   .exact ⟨i+1,Oo,aE,Au,T.alloc _,Blk.new F _ _,U.alloc U.size _⟩
   .obtain ⟨k,hik,hk,rfl,H,hblk,M⟩:=hrel;have y:=Hd H;have Z:=Hd hblk;have s:=Hd M;clear H hblk M c0 c1 c2 c3;by_cases hkm:k<m
    .have HK1:Aw (k=1):=Hd (by have:=P.o;omega);have O:Aw (i=0):=Hd (by have:=P.o;omega);obtain ⟨b9,o9,x,hA9,J,B,l⟩:=Sl.cell (f:=Ud) (k:=4) Vo z.1 hkm;cases hA9;have d:=fun j v h=>(s.cell (p:=⟨b,o+k*4+j,none⟩) J).trans (l j v h)
     have d0:=d 0 _ rfl;have d1:=d 1 _ rfl;have d2:=d 2 _ rfl;have d3:=d 3 _ rfl;simp only [QF] at d0
     have r:Aw ((a.cn<=1000/\∀ c∈a.cs,c.kind=0)/\(x.cn<=1000/\∀ c∈x.cs,c.kind=0)/\(x.rn<=1000/\∀ c∈x.rs,c.kind=0)/\RQ (a.cs.map chT) (x.cs.map chT)=false/\RQ (a.cs.map chT) (x.rs.map rdT)=true):=Hd (by
      obtain rfl:Ry g=a:=WQ (by rw [O.o] at D;exact D);obtain rfl:Fx g 6=x:=WQ (by rw [HK1.o] at B;exact B);exact ⟨⟨(by decide:1<=1000),by intro c d;cases d with|head=>rfl|tail _ h=>cases h⟩,⟨(by decide:0<=1000),by intro c d;cases d⟩,⟨(by decide:1<=1000),by intro c d;cases d with|head=>rfl|tail _ h=>cases h⟩,rfl,Ak⟩)
     have L:=Hd fun (W:Wd) (C:Below q.1.size q W)=>LP.of (GU a W ((z.2 _ (QJ D)).after C C.size) r.1.1 r.1.2)
     have N:=Hd (z.2 _ (QJ B));have dI:=Hd fun (W:Wd) (C:Below q.1.size q W)=>LP.of (GU x W (N.after C C.size) r.2.1.1 r.2.1.2)
     have X:=Hd fun (W:Wd) (C:Below q.1.size q W)=>LP.of (yj x W (N.after C C.size) r.2.2.1.1 r.2.2.1.2)
     clear J B l d;have HX:Aw (CI wr F.1.size (Ud a).toArray (Ud x).toArray (Aa wr (Ud x).toArray 42)):=Hd ⟨Aj,Z.alloc _,Blk.new wr _ _⟩;go_wp2_with fail;apply WzR (S:=CI wr F.1.size (Ud a).toArray (Ud x).toArray) (R:=Rb) (HX.next (Bf _ _).drew) (fun _ _ h Q=>h.next Q);apply xr (fun W h=>h.ba) underlying42;apply xk (f:=40) (p:=LP a.cn (a.cs.map chT)) LPm (fun W h _=>L W (U0 s h.bx s.size)) (he:=fun W=>by go_simp;rfl);intro v1;apply xr (fun W h=>h.bb) underlying42;apply xk (f:=40) (p:=LP x.cn (x.cs.map chT)) LPm (fun W h _=>dI W (U0 s h.bx s.size)) (he:=fun W=>by go_simp;rfl);intro v2;apply xc (f:=39) (v:=.bool false) (fun W h K=>LP.meet (xf 1 K) (xf 0 K) r.2.2.2.1 r.1.1 r.2.1.1);apply xv (x:=_);apply xr (fun W h=>h.ba) underlying42
     apply xk (f:=40) (p:=LP a.cn (a.cs.map chT)) LPm (fun W h _=>L W (U0 s h.bx s.size)) (he:=fun W=>by go_simp;rfl);intro v3;apply xr (fun W h=>h.bb) underlying42;apply xk (f:=41) (p:=LP x.rn (x.rs.map rdT)) LPm (fun W h _=>X W (U0 s h.bx s.size)) (he:=fun W=>by go_simp;rfl);intro v4;apply xc (f:=39) (v:=.bool true) (fun W h K=>LP.meet (xf 1 K) (xf 0 K) r.2.2.2.2 r.1.1 r.2.2.1.1);apply xA (v:=_);apply xv (x:=_)
     iterate 5 apply xp undef (VH ⟨Af,Af⟩)
     apply xA (v:=_);refine xn fun W V _=>?_
     have I:=Hd (Ub y V.bx);have t:=Hd (U0 s V.bx s.size);have G:=Hd V.ba;clear V;go_wp2_with (at_builtin;go_must (refine Ui _ rfl _ _ 53 rfl q.1.size 55 i0 _ 2 16 underlying53 bC bB aP aT rfl Ac _ _ _ rfl (I.alloc _) _ _ 1 1 [.int .i64 i,.int .i64 k] rfl (P9 _ _ [.int .i64 i,.int .i64 k] 55 1 2 rfl ?c5) ?c1 ?c2 ?c3 ?c4 ?_))
     case c5=>simp
     case c1=>intro u hu;simp at hu;rcases hu with rfl|rfl<;>rfl
     case c2=>have:=uP i k;simp only [maxLen];omega
     case c3=>have:=uP i k;omega
     case c4=>have:=t.size;simp;omega
     intro v4 w4 gL iT _;have B4:=Hd ((t.alloc t.size _).grown iT (Lx t.size (Jt _ _)) (U9 y (Le _)));have HK4:=Hd ((G.alloc _).grown iT (BP I G Ac).symm);have fK:Aw (w4.ownsRow q.1.size 55 2 v4 (LL i (k+1)).length (U7 pC (LL i (k+1)))):=Hd (by rw [show LL i (k+1)=LL i k++[(i,k)] by rw [O.o,HK1.o];rfl,V9,Xr,WW];exact gL);clear gL iT;go_wp2;go_roundw
     .exact ⟨k+1,Oo,Oo,Au,fK,HK4,B4⟩
     .exact At
    .have HC:Aw (LL i k=LL (i+1) (i+1+1)):=Hd (by rw [show k=2 by have:=P.o;omega];simp [LL]);rw [HC.o] at y;go_wp2_with fail;go_roundw
     .exact ⟨i+1,aE,Au,y,s⟩
     .exact At
  .have HI2:Aw (i=2):=Hd (by have:=P.o;omega);rw [HI2.o] at T;obtain ⟨A5,c5,hv5,_,_⟩:=U4 T;subst hv5;have bW:=Hd (Sl.of_own (f:=pC) (k:=2) (fun _=>rfl) Ac T);go_wp2;go_ret;exact ⟨A5,c5,rfl,bW,U0 bI U bI.size⟩
def MV (q:Pr):Bool:=decide (q.key.size<=40)&&decide (q.rcd.size<=1200)
def FR (x:Cnt):Bool:=decide (x.pn<=20)&&!(x.ps.any fun q => !MV q)
def fewA (b:Nat) (a:List Cnt) (n:Nat) (l:List Com):Bool:=decide (b<=4)&&(decide (n<=12)&&(!(a.any fun x => !FR x)&&!(l.any fun x => !Je x)))
abbrev Rr (w:Wd) (x):=w.alloc (.cells (cnC x).toArray 37)
def jk {w W:Wd} {x:Cnt} (h:Below (Rr w x).1.size (Rr w x) W):W.cell? ⟨w.1.size,22,none⟩=some (.slice x.pA x.pn x.pc):=
 IF ((Blk.new w 37 (cnC x).toArray).below h Am)
def NI {w W:Wd} {x:Cnt} (h:Below (Rr w x).1.size (Rr w x) W):Below w.1.size w W:=
 Aj.trans (h.mono Am)
def OA (x:Cnt) (w:Wd) (r:Sl prC 2 w w.1.size x.pA x.pn x.pc x.ps):
  Calls prog 12 #[.agg (cnC x).toArray,.int .i64 20] w (Ab w (.bool (FR x))):=by
 obtain ⟨R,d⟩:=yG (FR x);rw [d];have n:=Bf (Rr w x).1.size (Rr w x);have B:=r.len;have c:=jk n;by_cases p:x.pn<=20;rotate_left
 .have hr:R=false:=by rw [<-d];unfold FR;rw [QW p];rfl
  have v:decide ((20:Int)<(x.pn:Int))=true:=As
  have s:decide (20<x.pn)=true:=As
  clear d;go_wp2;go_ret;exact ⟨by rw [hr];rfl,NI n⟩
 have v:decide ((20:Int)<(x.pn:Int))=false:=As
 have s:decide (20<x.pn)=false:=As
 have m:R = !(x.ps.any fun q => !MV q):=by rw [<-d];unfold FR;rw [QQ p];rfl
 clear d;go_wp2;go_loopw [5] (fun i wr=>∃ j:Nat,j<=x.pn/\i=.int .i64 j/\(∀ t,t<j->∀ e,x.ps[t]? =some e->MV e=true)/\Below (Rr w x).1.size (Rr w x) wr) (fun i _=>x.pn-(intOf i).toNat)
 .exact ⟨0,Z0 _,rfl,fun t h=>absurd h Oo,n⟩
 .obtain ⟨j,hj,rfl,hall,aF⟩:=hrel;have c:=jk aF;by_cases u:j<x.pn
  .obtain ⟨b,o,y,hA,hb,hg,aB⟩:=Sl.cell (f:=prC) (k:=2) (fun _=>rfl) (r.after (NI aF) ((NI aF).size)) u;rw [hA] at c;have z:=aB 0 _ rfl;have c1:=aB 1 _ rfl;simp only [QF] at z;clear aB hb hA;by_cases a:y.key.size<=40;rotate_left
   .have hp:MV y=false:=by unfold MV;rw [QW a];rfl
    have l:R=false:=by rw [m,Ve hg hp];rfl
    have C:decide ((40:Int)<(y.key.size:Int))=true:=As
    have A:decide (40<y.key.size)=true:=As
    clear hp a;go_wp2;go_ret;exact ⟨by rw [l];rfl,NI aF⟩
   have C:decide ((40:Int)<(y.key.size:Int))=false:=As
   have A:decide (40<y.key.size)=false:=As
   by_cases g:y.rcd.size<=1200;rotate_left
   .have hp:MV y=false:=by unfold MV;rw [QW g];simp
    have l:R=false:=by rw [m,Ve hg hp];rfl
    have D:decide ((1200:Int)<(y.rcd.size:Int))=true:=As
    have E:decide (1200<y.rcd.size)=true:=As
    clear hp a g;go_wp2;go_ret;exact ⟨by rw [l];rfl,NI aF⟩
   have D:decide ((1200:Int)<(y.rcd.size:Int))=false:=As
   have E:decide (1200<y.rcd.size)=false:=As
   have F:MV y=true:=by unfold MV;rw [QQ a,QQ g];rfl
   clear a g;go_wp2;go_roundw
   .exact ⟨j+1,Oo,Au,Xk hall hg F,aF⟩
   .exact At
  .have gG:x.pn=j:=Oo
   have G:R=true:=by rw [m,Yb B (fun t I=>hall t Oo)];rfl
   have H:decide ((j:Int)<(x.pn:Int))=false:=As
   have J:decide (j<x.pn)=false:=As
   go_wp2;go_ret;exact ⟨by rw [G];rfl,NI aF⟩
def lE {G:Prop} (h:G:=by
  clear hf;go_wp2_with (first|(with_reducible refine yM 37 25 HM.o ?_)|(go_at_call 12;refine yP HF.o fun w2 aH=>?_;have X2:=Hd (U0 bI.o aH bI.o.size);clear aH))
  first
   |go_ret
    exact ⟨by rw [HFF.o];rfl,X2.o⟩
   |go_roundw
    .exact ⟨j0+1,Oo,Au,Xk HA0.o HG.o HFT.o,X2.o⟩
    .simp [intOf];omega):G:=h
def lD {G:Prop} (h:G:=by
  clear hR hr;go_wp2;go_ret;exact ⟨by rw [HR.o];rfl,Bf _ _⟩):G:=h
def Cm (iA:Option Addr) (d V:Nat) (g:List Cnt) (A:Option Addr) (n c:Nat) (l:List Com) (w:Wd) (N:Sl cnC 23 w w.1.size iA d V g) (C:∀ x∈g,Sl prC 2 w w.1.size x.pA x.pn x.pc x.ps) (M:Cs w w.1.size A n c l):
  Calls prog 5 #[.slice iA d V,.slice A n c] w (Ab w (.bool (fewA d g n l))):=by
 obtain ⟨R,hR⟩:=yG (fewA d g n l);rw [hR];have HI:=Hd N;have Q:=Hd C;have O:=Hd N.len;have W:=Hd M;have HL:=Hd M.1.len;clear N C M;by_cases Y:d<=4;rotate_left
 .have hr:R=false:=by rw [<-hR];unfold fewA;rw [QW Y];rfl
  have HR:=Hd hr;have U:decide ((4:Int)<(d:Int))=true:=As
  have S:decide (4<d)=true:=As
  exact lD
 have b1:decide ((4:Int)<(d:Int))=false:=As
 have b2:decide (4<d)=false:=As
 by_cases Z:n<=12;rotate_left
 .have hr:R=false:=by rw [<-hR];unfold fewA;rw [QW Z];simp
  have HR:=Hd hr;have U:decide ((12:Int)<(n:Int))=true:=As
  have S:decide (12<n)=true:=As
  exact lD
 have U:decide ((12:Int)<(n:Int))=false:=As
 have S:decide (12<n)=false:=As
 have eK:R=(!(g.any fun x => !FR x)&&!(l.any fun x => !Je x)):=by rw [<-hR];unfold fewA;rw [QQ Y,QQ Z];rfl
 have B:=Hd eK;clear hR eK;go_wp2;go_loopw [5] (fun i wr=>∃ j:Nat,j<=d/\i=.int .i64 j/\(∀ t,t<j->∀ e,g[t]? =some e->FR e=true)/\Below w.1.size w wr) (fun i _=>d-(intOf i).toNat)
 .exact ⟨0,Z0 _,rfl,fun t h=>absurd h Oo,Bf _ _⟩
 .obtain ⟨j0,hj0,rfl,hall0,hbel0⟩:=hrel;have HA0:=Hd hall0;have bI:=Hd hbel0;clear hall0 hbel0;by_cases X:j0<d
  .obtain ⟨b,o,x,rfl,hb,hg,aB⟩:=Sl.cell (f:=cnC) (k:=23) (fun _=>rfl) (HI.below bI) X;have HM:Aw (wr.rangeAt b (o+j0*23) (cnC x)):=Hd fun t u hu=>aB t u hu
   have HG:=Hd hg;have HF:=Hd (OA x wr ((Q x (QJ hg)).after bI bI.size));clear hb hg aB;cases hf:FR x with
   |false=>
    rw [hf] at HF;have HFF:Aw (R=false):=Hd (by rw [B.o,Ve HG.o hf];rfl);exact lE
   |true=>
    rw [hf] at HF;have HFT:=Hd hf;exact lE
  .have gG:d=j0:=Oo
   subst gG;have HR:R = !(l.any fun x => !Je x):=by rw [B.o,Yb O.o HA0.o];rfl
   obtain ⟨wq,rfl⟩:∃ x:Wd,x=wr:=⟨_,rfl⟩
   clear X hj0;go_wp2;go_loopw [6] (fun i wr=>∃ j:Nat,j<=n/\i=.int .i64 j/\(∀ t,t<j->∀ e,l[t]? =some e->Je e=true)/\Below w.1.size w wr) (fun i _=>n-(intOf i).toNat)
   .exact ⟨0,Z0 _,rfl,fun t h=>absurd h Oo,bI⟩
   .obtain ⟨j,hj,rfl,HA,aF⟩:=hrel;by_cases L:j<n
    .obtain ⟨b,o,x,rfl,hb,hg,aB⟩:=Sl.cell (f:=Ud) (k:=4) Vo W.1 L;have T:=Hd hb;have HG:=Hd hg;have K:=W.2 x (QJ hg);have c2:=(aF.cell (p:=⟨b,o+j*4+2,none⟩) hb).trans (aB 2 _ rfl);have c3:=(aF.cell (p:=⟨b,o+j*4+3,none⟩) hb).trans (aB 3 _ rfl);have HF:=OD x.cA x.cn x.cc x.cs wr (K.2.1.after aF aF.size);clear hb hg;cases hf:Mn x.cn x.cs with
     |false=>
      rw [hf] at HF;have a:Je x=false:=by unfold Je;rw [hf];rfl
      have HFF:R=false:=by rw [HR,Ve HG.o a];rfl
      clear hf a;go_wp2_with (go_at_call 13;refine yP HF fun w2 aH=>?_;have X2:=U0 aF aH aF.size;clear aH);go_ret;exact ⟨by rw [HFF];rfl,X2⟩
     |true=>
      rw [hf] at HF;have HFT:=Hd hf;clear hf;go_wp2_with fail;refine yP HF fun w2 aH=>?_
      have X2:=U0 aF aH aF.size;clear aH c2 c3;have c2:=(X2.cell (p:=⟨b,o+j*4+2,none⟩) T).trans (aB 2 _ rfl);by_cases v:x.rn<=8;rotate_left
      .have a:Je x=false:=by unfold Je;rw [QW v];simp
       have HFF:R=false:=by rw [HR,Ve HG.o a];rfl
       have E:decide ((8:Int)<(x.rn:Int))=true:=As
       have I:decide (8<x.rn)=true:=As
       clear a v;go_wp2;go_ret;exact ⟨by rw [HFF];rfl,X2⟩
      have E:decide ((8:Int)<(x.rn:Int))=false:=As
      have I:decide (8<x.rn)=false:=As
      have F:Je x = !(x.rs.any fun r => !Ha r):=by unfold Je;rw [HFT.o,QQ v];rfl
      go_wp2;go_loopw [7] (fun i wx=>∃ q:Nat,q<=x.rn/\i=.int .i64 q/\(∀ t,t<q->∀ e,x.rs[t]? =some e->Ha e=true)/\Below w.1.size w wx) (fun i _=>x.rn-(intOf i).toNat)
      .exact ⟨0,Z0 _,rfl,fun t h=>absurd h Oo,X2⟩
      .obtain ⟨q,hq,rfl,hall,dG⟩:=hrel;have m:=dG.size;clear c2 E I;have c2:=(dG.cell (p:=⟨b,o+j*4+2,none⟩) T).trans (aB 2 _ rfl);by_cases J:q<x.rn
       .obtain ⟨b',o',y,fV,hb',fG,aY⟩:=Sl.cell (f:=rdC) (k:=6) Pa (K.1.after dG dG.size) J;rw [fV] at c2;have y0:=aY 0 _ rfl;have y1:=aY 1 _ rfl;have y2:=aY 2 _ rfl;have y3:=aY 3 _ rfl;have y4:=aY 4 _ rfl;have y5:=aY 5 _ rfl;simp only [QF] at y0;clear aY hb' fV;by_cases z:y.key.size<=60;rotate_left
        .have a:Ha y=false:=by unfold Ha;rw [QW z];rfl
         have s:Je x=false:=by rw [F,Ve fG a];rfl
         have HFF:R=false:=by rw [HR,Ve HG.o s];rfl
         have E:decide ((60:Int)<(y.key.size:Int))=true:=As
         have I:decide (60<y.key.size)=true:=As
         clear a s z;go_wp2;go_ret;exact ⟨by rw [HFF];rfl,dG.alloc m _⟩
        have E:decide ((60:Int)<(y.key.size:Int))=false:=As
        have I:decide (60<y.key.size)=false:=As
        by_cases D:y.ak.size<=60;rotate_left
        .have a:Ha y=false:=by unfold Ha;rw [QW D];simp
         have s:Je x=false:=by rw [F,Ve fG a];rfl
         have HFF:R=false:=by rw [HR,Ve HG.o s];rfl
         have e3:decide ((60:Int)<(y.ak.size:Int))=true:=As
         have e4:decide (60<y.ak.size)=true:=As
         clear a s z D;go_wp2;go_ret;exact ⟨by rw [HFF];rfl,dG.alloc m _⟩
        have e3:decide ((60:Int)<(y.ak.size:Int))=false:=As
        have e4:decide (60<y.ak.size)=false:=As
        by_cases H:y.ar.size<=300;rotate_left
        .have a:Ha y=false:=by unfold Ha;rw [QW H];simp
         have s:Je x=false:=by rw [F,Ve fG a];rfl
         have HFF:R=false:=by rw [HR,Ve HG.o s];rfl
         have e5:decide ((300:Int)<(y.ar.size:Int))=true:=As
         have e6:decide (300<y.ar.size)=true:=As
         clear a s z D H;go_wp2;go_ret;exact ⟨by rw [HFF];rfl,dG.alloc m _⟩
        have e5:decide ((300:Int)<(y.ar.size:Int))=false:=As
        have e6:decide (300<y.ar.size)=false:=As
        have P:Ha y=true:=by unfold Ha;rw [QQ z,QQ D,QQ H];rfl
        clear z D H;go_wp2;go_roundw
        .exact ⟨q+1,Oo,Au,Xk hall fG P,dG.alloc m _⟩
        .exact At
       .have P:Je x=true:=by rw [F,Yb K.1.len (fun t ht=>hall t Oo)];rfl
        go_wp2;go_roundw
        .exact ⟨j+1,by have:=L;omega,Au,Xk HA HG P,dG⟩
        .have:=L;simp [intOf];omega
    .have gG:n=j:=Oo
     subst gG;have HT:R=true:=by rw [HR,Yb HL.o HA];rfl
     go_wp2;go_ret;exact ⟨by rw [HT];rfl,aF⟩
def fewA_facts {c n:Nat} {a:List Cnt} {l:List Com} (h:fewA c a n l=true):c<=4/\n<=12/\(∀ x∈a,x.pn<=20/\∀ q∈x.ps,q.key.size<=40/\q.rcd.size<=1200)/\(∀ x∈l,Je x=true):=by
 unfold fewA at h;simp only [QU,QG,XN,YC] at h;obtain ⟨g,e,i,f⟩:=h;refine ⟨g,e,fun x b=>?_,fun x b=>by simpa using f x b⟩;have:=i x b;simp only [FR,Bool.not_eq_false,QU,QG,XN,YC] at this;refine ⟨this.1,fun q d=>?_⟩;have:=this.2 q d;simpa [MV] using this
def Sg {x:Com} (h:Je x=true):x.cn<=8/\x.rn<=8/\(∀ c∈x.cs,c.key.size<=50/\c.rcd.size<=1200/\c.vol.size<=20)/\(∀ r∈x.rs,r.key.size<=60/\r.ak.size<=60/\r.ar.size<=300):=by
 unfold Je Mn at h;simp only [QU,QG,XN,YC] at h;refine ⟨h.1.1.1,h.1.2,fun c b=>?_,fun r a=>?_⟩
 .have:=h.1.1.2 c b;simpa [Hb,and_assoc] using this
 .have:=h.2 r a;simpa [Ha,and_assoc] using this
end Go.Proofs.YtdleakjejodjjaaGreatDoor
