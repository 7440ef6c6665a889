/- Of the history laws. -/
import Derived.Test.YtdleakjejodjjaaGreatDoorSAH
import Derived.Lib.Overlaps
import Derived.Lib.AppendZerosOnto
namespace Go.Proofs.YtdleakjejodjjaaGreatDoor
open Tryz
set_option linter.defProp false
set_option linter.unusedVariables false
set_option linter.unusedSimpArgs false
set_option maxRecDepth 100000
set_option maxHeartbeats 20000000
open Go.RowKit
section
variable {P:Program} {w:Wd} {ops:Array Oper} {o:Oper} {a:Act} {Q:Exit->Act->Wd->Prop} {es:List Pr} {i base n:Nat} {w1:Wd} {r:Option Nat} {α:Type}
def eC (es:List Pr):List Value:=U7 prC es
def Yk (es:List Pr):(eC es).length=es.length*2:=Vm Hl es
def PF (es:List Pr) (i:Nat):(eC es).take (i*2)=eC (es.take i):=Zf Hl es i
def PG (es:List Pr) (i:Nat):(eC es).drop (i*2)=eC (es.drop i):=Eb Hl es i
def GC (a b:List Pr):eC (a++b)=eC a++eC b:=V9 a b
def PH (x:Pr) (l:List Pr):eC (x::l)=[.string x.key,.string x.rcd]++eC l:=Vg x l
def AJ (l:List Pr):∀ u∈eC l,u.oneCell'=true:=Yx l
def Pe (x p:Bz):∀ v∈([.string x,.string p]:List Value),v.oneCell'=true:=by
 intro v b;simp at b;rcases b with rfl|rfl<;>rfl
def NH (w:Wd) (u z ty b:TypeId) (g o c h:Nat) (a:Addr) (f m:Nat) (d:List Value) (t:TypeId) (cs:List Value)
  (B:P.underlying u=some (.slice b)) (s:(P.info? b).map (·.size)=some 2) (q:Blk w g t d.toArray) (hn:cs.length=Nat.min f c*2)
  (A:∀ j v,cs[j]? =some v->w.cell? (a.add j)=some v) (l:o+cs.length<=d.length) (y:∀ v∈cs,v.oneCell'=true):
  ∃ w',(Builtin.copy_ #[u,z] ty #[.slice (Ah g o) c h,.slice (some a) f m]).run P w=.ok (goInt (Nat.min f c)) w'/\Blk w' g t (splice d o cs).toArray/\w.grownBy w' (some g):=by
 refine ⟨w.setRow g (splice d o cs).toArray,?_,QR w g _ _ t (0,0) q,⟨rfl,rfl,rfl,Am,fun k _ x=>QE w g k _ (fun e=>x (by rw [e]))⟩⟩;cases p:P.info? b with
 |none=>simp [p] at s
 |some i=>
  simp [Builtin.copy_,WN B,Builtin.lenOf,Builtin.firstCells,sizeOf,typeInfo,p,(by simpa [p] using s),<-hn,(run_loadCells_list (P:=P) w a cs A),(run_storeCells_at P g o t cs 0 d.toArray w q (by simpa using l) y),splice]
theorem lT {G:Prop} (h:G:=by
  unfold Oper.wp;simp only [execOp,ho,resolve,invoke,builtin,ZG,KL,XB,KV,WS,KN,hd,hs,aN]
  first
   |exact hK _ _ (h w' hb aI)
   |exact h w' hb aI):G:=h
def Fg {rest:List Oper} (q:o.guard=none) (d s:Operand) (u x:TypeId)
  (ho:o.op=.call { callee:=.builtin .copy,args:=#[d,s],argTypes:=#[u,x] }) (e:TypeId) (C:P.underlying u=some (.slice e)) (z:(P.info? e).map (·.size)=some 2)
  (g k b l:Nat) (ad:Addr) (c m:Nat) (hd:a.eval d=.slice (Ah g k) b l) (hs:a.eval s=.slice (some ad) c m)
  (f:List Value) (t:TypeId) (y:Blk w g t f.toArray) (cs:List Value) (hn:cs.length=Nat.min c b*2)
  (B:∀ j v,cs[j]? =some v->w.cell? (ad.add j)=some v) (p:k+cs.length<=f.length) (A:∀ v∈cs,v.oneCell'=true)
  (h:∀ w',Blk w' g t (splice f k cs).toArray->w.grownBy w' (some g)->wpList P ops Q rest (a.put o.dst (goInt (Nat.min c b))) w'):wpList P ops Q (o::rest) a w:=by
 refine wpList_plain q fun K hK=>?_
 obtain ⟨w',aN,hb,aI⟩:=NH w u x o.type e g k b l ad c m f t cs C z y hn B p A;exact lT
def La {K:Act->Wd->Prop} {E:Prop} (q:o.guard=none) (d s:Operand) (u x:TypeId)
  (ho:o.op=.call { callee:=.builtin .copy,args:=#[d,s],argTypes:=#[u,x] }) (e:TypeId) (C:P.underlying u=some (.slice e)) (z:(P.info? e).map (·.size)=some 2)
  (g k b l:Nat) (ad:Addr) (c m:Nat) (hd:a.eval d=.slice (Ah g k) b l) (hs:a.eval s=.slice (some ad) c m)
  (f:List Value) (t:TypeId) (y:Blk w g t f.toArray) (cs:List Value) (hn:cs.length=Nat.min c b*2)
  (B:∀ j v,cs[j]? =some v->w.cell? (ad.add j)=some v) (p:k+cs.length<=f.length) (A:∀ v∈cs,v.oneCell'=true)
  (h:∀ w',Blk w' g t (splice f k cs).toArray->w.grownBy w' (some g)->K (a.put o.dst (goInt (Nat.min c b))) w'):
  if Region.wanted o (yielded ops a.tmps)=true then Oper.wp P o a w K Q else E:=by
 obtain ⟨w',aN,hb,aI⟩:=NH w u x o.type e g k b l ad c m f t cs C z y hn B p A;rw [QK (by simp [Region.wanted,q])];exact lT
def IS (es:List Pr) (i:Nat) (x:Bz) (p:Bz):List Pr:=es.take i ++ ⟨x,p⟩::es.drop i
def S3 (h:i<=es.length) (x:Bz) (p:Bz):(IS es i x p).length=es.length+1:=by
 unfold IS;simp;omega
def C3 {W:Wd} {g b:Nat} {x:Bz} {p:Bz} {row:List Value} {T:List Value} (k:Blk W g 74 row.toArray) (j:row=eC (es.take i)++([.string x,.string p]++(eC (es.drop i)++T)))
  (m:i<=n) (f:es.length=n) (h:base<=g) (l:n+1<=b) (d:b<=maxLen) (hz:row.length=b*2):W.ownsRow base 74 2 (.slice (Ah g 0) (n+1) b) (n+1) (eC (IS es i x p)):=by
 have e:row=eC (IS es i x p)++T:=by rw [j,IS,GC,PH];simp
 have c:(eC (IS es i x p)).length=(n+1)*2:=by rw [Yk,S3 Oo,f]
 exact ⟨c,.inr ⟨g,b,row.toArray,rfl,h,k,l,d,by simpa using hz,by
  rw [e,List.take_left' c]⟩⟩
def Ps:(prog.info? 74).map (·.size)=some 2:=by
 obtain ⟨d,c,f,b,e⟩:=WG Vl;rw [c];simp [b]
def Kf (b o j:Nat):(⟨b,o,none⟩:Addr).add j=⟨b,o+j,none⟩:=by unfold Addr.add;split<;>simp_all
def Wt {d:Wd} (h:w.grownBy w1 r) (k:w1.grownBy d r):w.grownBy d r:=
 ⟨k.os.trans h.os,k.tape.trans h.tape,k.output.trans h.output,Lx h.size k.size,fun b e c=>(k.block b (WK e h.size) c).trans (h.block b e c)⟩
def F5 (h:w.drew.grownBy w1 r):w.grownBy w1 r:=⟨h.os,h.tape,h.output,h.size,h.block⟩
def tJ (L:List α) (b:Nat) (cs:List α) {k:Nat} (h:k<=b) (c:b<=L.length):(splice L b cs).take k=L.take k:=by
 unfold splice;rw [List.take_append_of_le_length (by rw [WX];omega),JT,ZI h]
def tK (L:List α) (b:Nat) (cs:List α) (c:b<=L.length):(splice L b cs).drop b=cs++L.drop (b+cs.length):=by
 unfold splice;rw [List.drop_left' (by rw [WX];omega)]
def vi (base g n c i f:Nat) (es:List Pr) (x:Bz) (p:Bz) (w:Wd) (U:w.ownsRow base 74 2 (.slice (Ah g 0) n c) n (eC es)) (C:Blk w f 74 #[.string x,.string p]) (G:f≠g)
  (hi:i<n) (hn:n<=1100) (hc:n+1<=c):
  Calls prog 212 #[.slice (Ah g 0) n c,.int .i64 i,.slice (Ah f 0) 1 1] w fun e w'=>∃ v,e=.returned v/\w'.ownsRow base 74 2 v (n+1) (eC (IS es i x p))/\w.grownBy w' (some g):=by
 have hl:es.length=n:=by have:=U.1;rw [Yk] at this;omega
 obtain ⟨b,bO,I,k,E,X⟩:∃ b:List Value,base<=g/\Blk w g 74 b.toArray/\c<=maxLen/\b.length=c*2/\b.take (n*2)=eC es:=by
  rcases U.2 with ⟨h,_⟩|⟨g',V,b,wF,hb,hh,h1,h2,h3,h4⟩
  .cases h
  .injection wF with m e2 e3
   injection m with m
   injection m with m _ _
   subst m e3;exact ⟨b.toList,hb,hh,h2,by simpa using h3,h4⟩
 have hz:∀ w,(Go.sizeOf 74).run prog w=.ok 2 w:=fun w=>by
  obtain ⟨i0,Z,bB,Y,aT⟩:=WG Vl;simp [sizeOf,typeInfo,Z,Y]
 have J:∀ N R,(callFunc 286 #[.slice (Ah f 0) 1 1,.slice (Ah g ((i+1)*2)) N R]).run prog w=.ok (.value (.bool false)) w:=fun N R=>by
  rw [run_callFunc_extern func286 Ak Ak Ak (e:=Extern.SlicesOverlaps.overlaps #[35,35] #[4]) Ak,
   Lib.run_overlaps_apart w 35 4 74 underlying35 2 hz ⟨f,0,none⟩ ⟨g,(i+1)*2,none⟩ 1 1 N R G 74 74 2 b.length (by unfold Blk at C;simp [World.shape?,C]) (by unfold Blk at I;simp [World.shape?,I]) Oo (C.free _) (C.free _)]
  rfl
 have s:(eC (es.drop i)).length=(n-i)*2:=by rw [Yk];simp;omega
 have t:Nat.min (n+1-i) (n+1-(i+1))=n-i:=by simp only [Nat.min_def];split<;>omega
 have l:Nat.min 1 (n+1-i)=1:=by simp only [Nat.min_def];split<;>omega
 have q:∀ W:Wd,(∀ a,W.cell? a=w.cell? a)->∀ (j:Nat) (v:Value),(eC (es.drop i))[j]? =some v->W.cell? ((⟨g,i*2,none⟩:Addr).add j)=some v:=by
  intro W O j v H;rw [Kf,O,I.cell];have e:(eC es)[i*2+j]? =some v:=by rw [<-PG,YF] at H;exact H
  rw [<-X,YV] at e;split at e
  .simpa using e
  .cases e
 have u:=k;unfold maxLen at u;go_in;go_wp2_with (simp only [J]);have cX:IntKind.i64.wrap ((i:Int)+1)=(i:Int)+1:=by rw [ZE];omega
 have aL:(0:Int)<=(i:Int)+1:=Oo
 have htn:((i:Int)+1).toNat=i+1:=Oo
 have aH:¬ (c=i+1):=Oo
 have aW:(i:Int)<=(n:Int)+1:=Oo
 have gS:¬ (c=i):=Oo
 have bG:i<=n:=Oo
 go_region_law (refine La (P:=prog) rfl _ _ 35 35 rfl 74 underlying35 Ps g ((i+1)*2) (n+1-(i+1)) (c-(i+1)) ⟨g,i*2,none⟩ (n+1-i) (c-i) (by simp [Act.eval,Act.put]) (by simp [Act.eval,Act.put]) b 74 (I.drewN 1) (eC (es.drop i)) (by rw [s,t]) (q _ (fun _=>rfl)) (by rw [s,E];omega) (AJ _) ?_;intro w1 z D)
 have A:Blk w1 f 74 #[.string x,.string p]:=C.drew.grown D (by simpa using G)
 have y:∀ W:Wd,(∀ a,W.cell? a=w1.cell? a)->∀ (j:Nat) (v:Value),([.string x,.string p]:List Value)[j]? =some v->W.cell? ((⟨f,0,none⟩:Addr).add j)=some v:=by
  intro W O j v H;rw [Kf,O,A.cell];simpa using H
 have M:∀ v∈([.string x,.string p]:List Value),v.oneCell'=true:=Pe _ _
 obtain ⟨d,S⟩:∃ r,r=splice b ((i+1)*2) (eC (es.drop i)):=⟨_,rfl⟩
 have B:d.length=c*2:=by rw [S,UM _ _ _ (by rw [s,E];omega),E]
 rw [<-S] at z;have iD:([.string x,.string p]:List Value).length=Nat.min 1 (n+1-i)*2:=l.symm▸rfl;have F:i*2+([.string x,.string p]:List Value).length<=d.length:=by rw [B,QS,QS,XS];omega
 clear A;go_wp2_with ((refine Fg (P:=prog) rfl _ _ 35 35 rfl 74 underlying35 Ps g (i*2) (n+1-i) (c-i) ⟨f,0,none⟩ 1 1 rfl rfl d 74 z [.string x,.string p] iD (y _ (fun _=>rfl)) F M ?_;intro w2 K L));go_ret;have m:b.take (i*2)=eC (es.take i):=by rw [<-PF,<-X,JT,ZI Oo]
 refine ⟨_,rfl,C3 (T:=b.drop ((i+1)*2+(eC (es.drop i)).length)) K ?_ Oo hl bO hc k (by rw [UM _ _ _ F,B]),Wt (F5 D) L⟩;show d.take (i*2)++([.string x,.string p]++d.drop (i*2+2))=_;rw [show i*2+2=(i+1)*2 from Oo,S,tJ _ _ _ Oo (by rw [E];omega),tK _ _ _ (by rw [E];omega),m]
def vm (base g n b i I:Nat) (es:List Pr) (x:Bz) (p:Bz) (w:Wd) (Y:w.ownsRow base 74 2 (.slice (Ah g 0) n b) n (eC es)) (hv:Blk w I 74 #[.string x,.string p])
  (hi:i<n) (hn:n<=1100) (hc:b<n+1):
  Calls prog 212 #[.slice (Ah g 0) n b,.int .i64 i,.slice (Ah I 0) 1 1] w fun e w'=>∃ v,e=.returned v/\w'.ownsRow base 74 2 v (n+1) (eC (IS es i x p))/\w.grownBy w' none:=by
 have hl:es.length=n:=by have:=Y.1;rw [Yk] at this;omega
 obtain ⟨f,bO,L,fI,cL,wL⟩:∃ f:List Value,base<=g/\Blk w g 74 f.toArray/\n<=b/\f.length=b*2/\f.take (n*2)=eC es:=by
  rcases Y.2 with ⟨h,_⟩|⟨g',cap',f,wF,hb,hh,h1,h2,h3,h4⟩
  .cases h
  .injection wF with A e2 e3
   injection A with A
   injection A with A _ _
   subst A e3;exact ⟨f.toList,hb,hh,h1,by simpa using h3,h4⟩
 obtain ⟨i0,bC,bB,fL,B⟩:=WG Vl;have A:f.take (i*2)=eC (es.take i):=by rw [<-PF,<-wL,JT,ZI Oo]
 have q:(eC (es.take i)).length=i*2:=by rw [Yk];simp;omega
 have fT:(n:Int)+1-(i:Int)=((n+1-i:Nat):Int):=Oo
 have F:i+(n+1-i)=n+1:=Oo
 have hold:(Builtin.firstCells i0.size i (.slice (Ah g 0) i b)).run prog w.drew=.ok (eC (es.take i)).toArray w.drew:=by
  rw [fL]
  exact run_firstCells_some w.drew 2 i ⟨g,0,none⟩ i b (eC (es.take i)) q (fun j v y=>by
   rw [Kf];show w.cell? _=_;rw [L.cell];rw [<-A,YV] at y;split at y
   .simpa using y
   .cases y)
 have E:∃ G c,n+1<=G/\G<=maxLen/\c.length=G*2/\c.take (i*2)=eC (es.take i)/\∀ ty,(Builtin.append_ #[35,3] ty #[.slice (Ah g 0) i b,.int .i64 ((n:Int)+1-(i:Int))]).run prog w =
   .ok (.slice (Ah w.1.size 0) (n+1) G) (Aa w.drew (List.toArray c) 74):=by
  have h:=fun ty=>Lib.run_append_grow_zeros w 35 3 ty 74 i0 _ .i64 .i64 underlying35 underlying3 bC bB (Ah g 0) i b (eC (es.take i)) hold (n+1-i) Oo Oo Oo Oo (by rw [B];omega) (by rw [B,F];exact growslice_fits hc Oo)
  rw [F] at h;have g1:=grownCap_ge w (n+1) b 74;have g2:=grownCap_le_maxLen w (n+1) b 74 (by unfold maxLen;omega);generalize grownCap w (n+1) b 74=G at h g1 g2;refine ⟨G,((eC (es.take i)).toArray++Builtin.zeroCells (Value.agg #[.string ⟨#[]⟩,.string ⟨#[]⟩]).cells (n+1-i)++Builtin.zeroCells (Value.agg #[.string ⟨#[]⟩,.string ⟨#[]⟩]).cells (G-(n+1))).toList,g1,g2,?_,?_,fun ty=>?_⟩
  .simp [Builtin.zeroCells,Value.cells,q];omega
  .simp only [Array.toList_append,ZO];rw [List.take_left' q]
  .rw [fT,h ty]
 obtain ⟨G,c,z,m,V,hRT,E⟩:=E;have O:(eC (es.drop i)).length=(n-i)*2:=by rw [Yk];simp;omega
 have Z:g≠w.1.size:=KF L.lt;have hvw:I≠w.1.size:=KF hv.lt;have t:Nat.min (n-i) (n+1-(i+1))=n-i:=by simp only [Nat.min_def];split<;>omega
 have s:Nat.min 1 (n+1-i)=1:=by simp only [Nat.min_def];split<;>omega
 have D:=m;unfold maxLen at D;have hB0:Blk (Aa w.drew c.toArray 74) w.1.size 74 c.toArray:=Blk.new w.drew 74 _;have S:Blk (Aa w.drew c.toArray 74) I 74 #[.string x,.string p]:=hv.drew.alloc _;have hg0:Blk (Aa w.drew c.toArray 74) g 74 f.toArray:=L.drew.alloc _;have l:w.grownBy (Aa w.drew c.toArray 74) none:=⟨rfl,rfl,rfl,Am,fun k hk _=>YQ w.drew _ k hk⟩
 have HN1:([.string x,.string p]:List Value).length=Nat.min 1 (n+1-i)*2:=s.symm▸rfl;have K:i*2+([.string x,.string p]:List Value).length<=c.length:=by rw [V,QS,QS,XS];omega
 have dE:∀ W:Wd,(∀ a,W.cell? a=(Aa w.drew c.toArray 74).cell? a)->∀ (j:Nat) (v:Value),([.string x,.string p]:List Value)[j]? =some v->W.cell? ((⟨I,0,none⟩:Addr).add j)=some v:=by
  intro W hW j v y;rw [Kf,hW,S.cell];simpa using y
 have H1C:∀ v∈([.string x,.string p]:List Value),v.oneCell'=true:=Pe _ _
 have R:=Hd O;have HM1:=Hd t;have HL:=Hd hl;have HC:=Hd cL;have HMX:=Hd m;have HGB:=Hd L;clear Y L hv O t s hl cL m S hold q F fT bC bB fL B i0;have cX:IntKind.i64.wrap ((i:Int)+1)=(i:Int)+1:=by rw [ZE];omega
 have aL:(0:Int)<=(i:Int)+1:=Oo
 have htn:((i:Int)+1).toNat=i+1:=Oo
 have aH:¬ (G=i+1):=Oo
 have eG:¬ (G=i):=Oo
 have aW:(i:Int)<=(n:Int):=Oo
 have gS:¬ (b=i):=Oo
 have bG:i<=n:=Oo
 go_in
 go_wp2_with (first
  |(at_builtin;refine Lib.wpList_append_run _ rfl _ _ _ _ rfl _ _ rfl rfl _ _ (E _) ?_)
  |((refine Fg (P:=prog) rfl _ _ 35 35 rfl 74 underlying35 Ps w.1.size (i*2) (n+1-i) (G-i) ⟨I,0,none⟩ 1 1 rfl rfl c 74 hB0 [.string x,.string p] HN1 (dE _ (fun _=>rfl)) K H1C ?_;intro w1 J z;have bI:=Hd J;have H:=Hd z;clear J z)))
 have dL:Aw (∀ W:Wd,(∀ a,W.cell? a=w1.cell? a)->∀ (j:Nat) (v:Value),(eC (es.drop i))[j]? =some v->W.cell? ((⟨g,i*2,none⟩:Addr).add j)=some v):=Hd (by
  intro W hW j v y;rw [Kf,hW,(hg0.grown H.o (by simpa using Z)).cell];have e:(eC es)[i*2+j]? =some v:=by rw [<-PG,YF] at y;exact y
  rw [<-wL,YV] at e;split at e
  .simpa using e
  .cases e)
 obtain ⟨d,X⟩:∃ r,r=splice c (i*2) [.string x,.string p]:=⟨_,rfl⟩
 have C:d.length=G*2:=by rw [X,UM _ _ _ K,V]
 rw [<-X] at bI;have HR1:=Hd X;have M:=Hd C;have iD:Aw ((eC (es.drop i)).length=Nat.min (n-i) (n+1-(i+1))*2):=Hd (by rw [R.o,HM1.o]);have U:Aw ((i+1)*2+(eC (es.drop i)).length<=d.length):=Hd (by rw [R.o,C];omega);clear X C
 go_region_law (refine La (P:=prog) rfl _ _ 35 35 rfl 74 underlying35 Ps w.1.size ((i+1)*2) (n+1-(i+1)) (G-(i+1)) ⟨g,i*2,none⟩ (n-i) (b-i) (by simp [Act.eval,Act.put]) (by simp [Act.eval,Act.put]) d 74 bI.drew (eC (es.drop i)) iD (dL _ (fun _=>rfl)) U (AJ _) ?_;intro w2 N m;have aK:=Hd N;have u:=Hd m;clear N m)
 go_wp2;go_ret;have hb:=HGB.lt;refine ⟨_,rfl,C3 (T:=d.drop ((i+1)*2+(eC (es.drop i)).length)) aK ?_ bG HL Oo z HMX (by rw [UM _ _ _ U.o,M.o]),?_⟩
 .show d.take ((i+1)*2)++(eC (es.drop i)++_)=_
  have e2:d.take ((i+1)*2)=eC (es.take i)++[.string x,.string p]:=by
   rw [HR1.o,splice,hRT,<-ZO];have q:(eC (es.take i)).length=i*2:=by rw [Yk];have:=HL.o;simp;omega
   exact List.take_left' (by rw [WW,q];simp;omega)
  rw [e2,ZO]
 .have eO:w.1.size+1<=w1.1.size:=by have:=H.size;simpa using this
  refine ⟨u.os.trans (H.os.trans l.os),u.tape.trans (H.tape.trans l.tape),u.output.trans (H.output.trans l.output),by have:=u.size;simp at this;omega,fun k hk _=>?_⟩;have aS:some k≠some w.1.size:=As
  exact (u.block k (by show k<w1.1.size;omega) aS).trans ((H.block k As aS).trans (l.block k hk Am))
def X7 {d:Nat} {e:TypeId} {size:Nat} {v:Value} {xs:List Value} (h:w.ownsRow base e size v n xs) (m:d<=base):w.ownsRow d e size v n xs:=by
 obtain ⟨l,j⟩:=h;refine ⟨l,?_⟩;rcases j with j|⟨g,k,f,a,b,c⟩
 .exact .inl j
 .exact .inr ⟨g,k,f,a,Oo,c⟩
def rI (base g n b i f:Nat) (t:Int) (es:List Pr) (x:Bz) (p:Bz) (w:Wd) (m:w.ownsRow base 74 2 (.slice (Ah g 0) n b) n (eC es)) (s:Blk w f 74 #[.string x,.string p]) (l:f≠g)
  (q:i<n) (hn:n<=1100) (j:t=(i:Int)):
  Calls prog 212 #[.slice (Ah g 0) n b,.int .i64 t,.slice (Ah f 0) 1 1] w fun e w'=>∃ A c,e=.returned (.slice A (n+1) c)/\w'.ownsRow base 74 2 (.slice A (n+1) c) (n+1) (eC (IS es i x p))/\w.grownBy w' (some g):=by
 subst j;by_cases y:n+1<=b
 .apply (vi base g n b i f es x p w m s l q hn y).mono;rintro e w' ⟨v,rfl,h,d⟩;obtain ⟨A,c,rfl,_⟩:=U4 h;exact ⟨A,c,rfl,h,d⟩
 .apply (vm base g n b i f es x p w m s q hn Oo).mono;rintro e w' ⟨v,rfl,h,d⟩;obtain ⟨A,c,rfl,_⟩:=U4 h;exact ⟨A,c,rfl,h,⟨d.os,d.tape,d.output,d.size,fun k u _=>d.block k u Am⟩⟩
end
section
variable {w:Wd} {base g n cap:Nat} {xs:List Value} {t:TypeId} {o:Nat} {l:List Pr}
section
variable {P:Program} {w:Wd}
def Tb {o:Oper} {a:Act} {K:Act->Wd->Prop} {Q:Exit->Act->Wd->Prop} (s x:Operand) (t:TypeId)
  (b:o.op=.call { callee:=.builtin .append,args:=#[s,x],argTypes:=#[t,t] }) (v u r:Value) (w':Wd) (c:a.eval s=v) (e:a.eval x=u)
  (d:(Builtin.append_ #[t,t] o.type #[v,u]).run P w=.ok r w') (h:K (a.put o.dst r) w'):o.wp P a w K Q:=by
 unfold Oper.wp execOp;simp only [b,resolve,invoke,builtin,ZG,KL,XB,KV,WS,KN,c,e,d];exact h
def NV {ops:Array Oper} {o:Oper} {a:Act} {K:Act->Wd->Prop} {Q:Exit->Act->Wd->Prop} {E:Prop} (b:o.guard=none) (s x:Operand) (t:TypeId)
  (c:o.op=.call { callee:=.builtin .append,args:=#[s,x],argTypes:=#[t,t] }) (v u r:Value) (w':Wd) (d:a.eval s=v) (e:a.eval x=u)
  (f:(Builtin.append_ #[t,t] o.type #[v,u]).run P w=.ok r w') (h:K (a.put o.dst r) w'):if Region.wanted o (yielded ops a.tmps)=true then Oper.wp P o a w K Q else E:=by
 have hw:Region.wanted o (yielded ops a.tmps)=true:=by simp [Region.wanted,b]
 rw [QK hw];exact Tb s x t c v u r w' d e f h
end
def Ep (h:w.ownsRow base t 2 (.slice (Ah g 0) n cap) n xs):
  ∃ a:Array Value,base<=g/\Blk w g t a/\n<=cap/\cap<=maxLen/\a.size=cap*2/\a.toList.take (n*2)=xs:=by
 rcases h.2 with ⟨b,_⟩|⟨k,c,a,b,i,j,hn,d,e,f⟩
 .cases b
 .injection b with e1 _ e3
  injection e1 with e1
  injection e1 with e1
  subst e1;subst e3;exact ⟨a,i,j,hn,d,e,f⟩
def TW {a:Array Value} (d:xs.length=n*2) (f:base<=g) (h:Blk w g t a) (hn:n<=cap) (b:cap<=maxLen) (c:a.size=cap*2) (e:a.toList.take (n*2)=xs):w.ownsRow base t 2 (.slice (Ah g 0) n cap) n xs:=
 ⟨d,.inr ⟨g,cap,a,rfl,f,h,hn,b,c,e⟩⟩
def SQ {cs:Array Value} (h:Blk w g t cs) (a b:Value):Blk (w.setCells g o [a,b]) g t ((cs.setIfInBounds o a).setIfInBounds (o+1) b):=(h.set o a).set (o+1) b
def Mo (a b:Value):w.grownBy (w.setCells g o [a,b]) (some g):=
 ⟨rfl,rfl,rfl,by simp [World.setCells,World.setCell],fun k _ d=>by
  have c:k≠g:=fun e=>d (by rw [e])
  exact (KW _ ⟨g,o+1,none⟩ b k c).trans (KW w ⟨g,o,none⟩ a k c)⟩
def CT {α:Type} (l:List α) (i:Nat) (a b:α) (m:Nat) (h:m<=i):((l.set i a).set (i+1) b).take m=l.take m:=by
 rw [List.take_set_of_le Oo,List.take_set_of_le h]
def Ct:∀ (l:List Pr) (i:Nat) (x:Pr),i<l.length->((eC l).set (i*2) (.string x.key)).set (i*2+1) (.string x.rcd)=eC (l.set i x)
 | [],_,_,h=>absurd h Am
 |y::l,0,x,_=>rfl
 |y::l,i+1,x,h=>by
  have a:=Ct l i x (by simpa using h);rw [PH,Sw,PH,<-a];rw [show (i+1)*2=i*2+1+1 from Oo];rfl
def sY (h:w.ownsRow base 74 2 (.slice (Ah g 0) n cap) n (eC l)) (i:Nat) (x:Pr) (k:i<n):
  (w.setCells g (i*2) [.string x.key,.string x.rcd]).ownsRow base 74 2 (.slice (Ah g 0) n cap) n (eC (l.set i x)):=by
 obtain ⟨a,f,j,hn,b,c,e⟩:=Ep h;have d:l.length=n:=by have:=h.1;rw [Yk] at this;omega
 apply TW (by rw [Yk,KT,d]) f (SQ j _ _) hn b (by simpa using c);rw [<-Ct l i x Oo,<-e];simp only [VP];rw [List.take_set,List.take_set]
def Gg (h:w.ownsRow base 74 2 (.slice (Ah g 0) n cap) n (eC l)) (i:Nat) (m:i<cap):w.there g (i*2) 2:=by
 obtain ⟨b,k,a,hn,c,d,f⟩:=Ep h;intro j e;refine ⟨?_,a.free _⟩;rw [a.cell,WI Oo];rfl
def Fs (w:Wd) (ty:TypeId) (b o c:Nat) (f:w.there b o 2):
  (Builtin.clear_ #[35] ty #[.slice (Ah b o) 1 c]).run prog w=.ok (.tuple #[]) (w.setCells b o [.string ⟨#[]⟩,.string ⟨#[]⟩]):=by
 obtain ⟨k,h,i,p,m⟩:=WG Vl;have e:(Builtin.zeroCells (Value.cells (.agg #[.string ⟨#[]⟩,.string ⟨#[]⟩])) 1).toList=[.string ⟨#[]⟩,.string ⟨#[]⟩]:=by first|kernel_rfl|(simp [Builtin.zeroCells,Value.cells];done)
 have a:=run_storeCells_cells (P:=prog) b o [.string ⟨#[]⟩,.string ⟨#[]⟩] 0 w (fun j d=>(f j d).1) (fun j d=>(f j d).2) (Pe _ _);simp only [QF] at a;simp [Builtin.clear_,WN underlying35,zeroValue,typeInfo,h,i,e,a]
def sZ (h:w.ownsRow base 74 2 (.slice (Ah g 0) n cap) n (eC l)) (i:Nat) (k:i<=n):w.ownsRow base 74 2 (.slice (Ah g 0) i cap) i (eC (l.take i)):=by
 obtain ⟨a,e,f,hn,b,c,d⟩:=Ep h;have j:l.length=n:=by have:=h.1;rw [Yk] at this;omega
 refine TW (by rw [Yk,WX];omega) e f Oo b c ?_;rw [<-PF,<-d,JT,ZI Oo]
def BO (h:w.ownsRow base 74 2 (.slice (Ah g 0) n cap) n (eC l)) (i:Nat) (m:n<=i) (a b:Value):(w.setCells g (i*2) [a,b]).ownsRow base 74 2 (.slice (Ah g 0) n cap) n (eC l):=by
 obtain ⟨c,j,k,hn,d,e,f⟩:=Ep h;refine TW h.1 j (SQ k _ _) hn d (by simpa using e) ?_;simp only [VP];rw [CT _ _ _ _ _ Oo,f]
theorem lR {G:Prop} (h:G:=by
  refine Aq [6] ?_;refine Rc (fun K hK=>?_) ?_
  .refine NV Af (.tmp 22) (.tmp 25) 35 Af _ _ _ _ Af Af (cC.o _) ?_;refine hK.out _ _ trivial (fun Hh=>?_);clear hK K;try simp only [Act.put,Sv,Sz,Sw]
   refine tA 7 Hh ?_;refine Ad Ak ?_ _;clear Hh;have hcl:=iP.o;go_wp2;go_ret;exact ⟨rfl,HO.o,HG.o⟩
  exact An):G:=h
def AK (base g n cap i:Nat) (l:List Pr) (w:Wd) (p:w.ownsRow base 74 2 (.slice (Ah g 0) n cap) n (eC l)) (Y:i<n) (hn:n<=1100):
  Calls prog 215 #[.slice (Ah g 0) n cap,.int .i64 i,.int .i64 ((i:Int)+1)] w fun e w'=>e=.returned (.slice (Ah g 0) (n-1) cap)/\w'.ownsRow base 74 2 (.slice (Ah g 0) (n-1) cap) (n-1) (eC (l.eraseIdx i))/\w.grownBy w' (some g):=by
 obtain ⟨M,J,bB,I,W⟩:=WG Vl;have B:l.length=n:=by have:=p.1;rw [Yk] at this;omega
 obtain ⟨N,X,v,T,Q,E,s⟩:=Ep p;have a:=sZ p i Oo
 have C:∀ (A:Addr) (j:Nat) (u:Value),(n=i+1\/A=⟨g,(i+1)*2,none⟩)->(eC (l.drop (i+1)))[j]? =some u->w.drew.cell? (A.add j)=some u:=by
  intro A j u x f;have R:j<(eC (l.drop (i+1))).length:=(QZ.1 f).1;rw [Yk,XD] at R;rcases x with h|rfl
  .omega
  .rw [Kf,(v.drew).cell];rw [<-PG,YF,<-s,YV] at f;split at f
   .simpa using f
   .cases f
 have r:∀ (A:Addr) (c:Nat),(n=i+1\/A=⟨g,(i+1)*2,none⟩)->∃ w',(∀ ty,(Builtin.append_ #[35,35] ty #[.slice (Ah g 0) i cap,.slice (some A) (n-(i+1)) c]).run prog w.drew=.ok (.slice (Ah g 0) (n-1) cap) w')/\w'.ownsRow base 74 2 (.slice (Ah g 0) (n-1) cap) (n-1) (eC (l.eraseIdx i))/\w.drew.grownBy w' (some g):=by
  intro A c x;have h:=fun ty=>run_append_fits (P:=prog) w.drew base 35 ty 74 M 2 underlying35 J I g i cap _ a.drew A (n-(i+1)) c (eC (l.drop (i+1))) (by rw [Yk,XD,B]) (fun j u f=>C A j u x f) (AJ _) Oo
  rw [show i+(n-(i+1))=n-1 from Oo,<-GC,<-YW] at h;obtain ⟨w',L,H,O⟩:=h 0;refine ⟨w',fun ty=>?_,H,O⟩;obtain ⟨Z,V,_⟩:=h ty;have e:(Builtin.append_ #[35,35] ty #[.slice (Ah g 0) i cap,.slice (some A) (n-(i+1)) c])=(Builtin.append_ #[35,35] 0 #[.slice (Ah g 0) i cap,.slice (some A) (n-(i+1)) c]):=rfl;rw [e];exact L
 have F:=T;have D:=Q;unfold maxLen at D;by_cases U:cap=i+1
 .subst U;obtain rfl:n=i+1:=Oo
  obtain ⟨d,m,b,q⟩:=r ⟨g,0,none⟩ 0 (.inl rfl);simp only [VG,VL] at m b;have hcl:∀ ty,(Builtin.clear_ #[35] ty #[.slice (Ah g (i*2)) 1 1]).run prog d=.ok (.tuple #[]) (d.setCells g (i*2) [.string ⟨#[]⟩,.string ⟨#[]⟩]):=fun ty=>Fs d ty g _ _ (Gg b i Oo)
  have HO:=Hd (BO b i (Le _) (.string ⟨#[]⟩) (.string ⟨#[]⟩));have HG:=Hd (Wt (F5 q) (Mo (o:=i*2) (.string ⟨#[]⟩) (.string ⟨#[]⟩)));have cC:=Hd m;have iP:=Hd hcl;rw [VL];clear p B v a C r s E b q m hcl;go_wp2;refine Rw (S:=fun _=>True) Ak trivial (fun Hh=>?_)
  iterate 2 apply tB Hh
  refine tj 2 (.slice (Ah g 0) i (i+1)) Hh ?_ (y:=by intro w' z;(go_simp<;>(intro k;exfalso;omega)))
  iterate 2 apply tB Hh
  refine tj 5 (.slice (Ah g 0) 0 0) Hh ?_ (y:=by intro w' z;(go_simp<;>(intro k;exfalso;omega)));exact lR
 .obtain ⟨d,m,b,q⟩:=r ⟨g,(i+1)*2,none⟩ (cap-(i+1)) (.inr rfl);have hcl:∀ ty,(Builtin.clear_ #[35] ty #[.slice (Ah g ((n-1)*2)) (n-(n-1)) (cap-(n-1))]).run prog d=.ok (.tuple #[]) (d.setCells g ((n-1)*2) [.string ⟨#[]⟩,.string ⟨#[]⟩]):=fun ty=>by rw [show n-(n-1)=1 from Oo];exact Fs d ty g _ _ (Gg b (n-1) Oo)
  have HO:=Hd (BO b (n-1) (Le _) (.string ⟨#[]⟩) (.string ⟨#[]⟩));have HG:=Hd (Wt (F5 q) (Mo (o:=(n-1)*2) (.string ⟨#[]⟩) (.string ⟨#[]⟩)));have cC:=Hd m;have iP:=Hd hcl;clear p B v a C r s E b q m hcl;go_wp2;refine Rw (S:=fun _=>True) Ak trivial (fun Hh=>?_)
  iterate 2 apply tB Hh
  refine tj 2 (.slice (Ah g 0) i cap) Hh ?_ (y:=by intro w' z;(go_simp<;>(intro k;exfalso;omega)))
  iterate 2 apply tB Hh
  refine tj 5 (.slice (Ah g ((i+1)*2)) (n-(i+1)) (cap-(i+1))) Hh ?_ (y:=by intro w' z;(go_simp<;>(intro k;exfalso;omega)));exact lR
theorem lS {G:Prop} (h:G:=by
  go_in;go_wp2_with (at_builtin;go_must (refine Ui _ rfl _ _ 35 rfl base 74 i0 _ 2 32 underlying35 bC bB aP aT rfl Ac _ _ (eC l) rfl HO.o w.1.size (Ah vb 0) 1 1 [.string x,.string p] rfl HR.o H1.o (by have:=HN.o;unfold maxLen;omega) (by have:=HN.o;omega) dH.o ?_;intro v' w' aD aI _;have bX:=Hd aD;have eH:=Hd aI;clear aD aI));go_ret;exact FIN.o _ _ bX.o eH.o):G:=h
def vg (base vb:Nat) (A:Option Addr) (n c:Nat) (l:List Pr) (x p:Bz) (w:Wd) (aD:w.ownsRow base 74 2 (.slice A n c) n (eC l)) (f:Blk w vb 74 #[.string x,.string p]) (hn:n<=1100) (q:base<=w.1.size):
  Calls prog 212 #[.slice A n c,.int .i64 n,.slice (Ah vb 0) 1 1] w fun e w'=>∃ A' c',e=.returned (.slice A' (n+1) c')/\w'.ownsRow base 74 2 (.slice A' (n+1) c') (n+1) (eC (l++[⟨x,p⟩]))/\w.grownBy w' (Value.slice A n c).ownBlock:=by
 obtain ⟨i0,bC,bB,aP,aT⟩:=WG Vl;have HR:Aw (Rd w w.1.size 2 (Ah vb 0) 1 [.string x,.string p]):=Hd ⟨rfl,fun _=>⟨vb,0,rfl,f.lt,fun j u m=>by rw [QB,f.cell,Ga];exact m⟩⟩;have H1:=Hd (Pe x p);have HO:=Hd aD;obtain ⟨s,c1,d,v,b⟩:=U4 aD;injection d with e0 _ d
 subst d;subst e0;have HN:=Hd hn;have dH:=Hd q;unfold maxLen at b;clear aD f
 have a:∀ v' w',w'.ownsRow base 74 2 v' (n+1) (eC l++[.string x,.string p])->w.grownBy w' (Value.slice A n c).ownBlock->∃ A' c',Ending.returned v'=.returned (.slice A' (n+1) c')/\w'.ownsRow base 74 2 (.slice A' (n+1) c') (n+1) (eC (l++[⟨x,p⟩]))/\w.grownBy w' (Value.slice A n c).ownBlock:=by
  intro v' w' i k;obtain ⟨A',c',rfl,_⟩:=U4 i;refine ⟨A',c',rfl,?_,k⟩;rw [GC];exact i
 have FIN:=Hd a;clear a;by_cases r:c=n
 .subst r;exact lS
 .exact lS
def vn (l:List Pr) (x p:Bz):IS l l.length x p=l++[⟨x,p⟩]:=by
 unfold IS;rw [List.take_length,List.drop_length]
def Nx {w':Wd} {A:Option Addr} {c:Nat} (h:w.ownsRow base t 2 (.slice A n c) n xs) (b:w.grownBy w' (Value.slice A n c).ownBlock) (a:base<=w.1.size):Below base w w':=
 (Bf base w).grown b a (U9 h (Le _))
def ve (base d:Nat) (A:Option Addr) (n c i:Nat) (l:List Pr) (x p:Bz) (w:Wd) (b:w.ownsRow base 74 2 (.slice A n c) n (eC l)) (r:Blk w d 74 #[.string x,.string p]) (k:∀ a,A=some a->d≠a.block) (s:i<=n) (hn:n<=1100) (m:base<=w.1.size):
  Calls prog 212 #[.slice A n c,.int .i64 i,.slice (Ah d 0) 1 1] w fun e w'=>∃ A' c',e=.returned (.slice A' (n+1) c')/\w'.ownsRow base 74 2 (.slice A' (n+1) c') (n+1) (eC (IS l i x p))/\Below base w w':=by
 have q:l.length=n:=by have:=b.1;rw [Yk] at this;omega
 by_cases h:i=n
 .subst h;apply (vg base d A i c l x p w b r hn m).mono;rintro e w' ⟨A',c',rfl,j,f⟩;refine ⟨A',c',rfl,?_,Nx b f m⟩;rw [<-q,vn,q];exact j
 .obtain ⟨g,cap,hsv,hbg,hgl,fI⟩:=J7 b Oo;injection hsv with e1 _ e2
  subst e1;subst e2;apply (rI base g n c i d i l x p w b r (k _ rfl) Oo hn rfl).mono;rintro e w' ⟨A',c',rfl,j,f⟩;exact ⟨A',c',rfl,j,Nx b (by simpa [Value.ownBlock] using f) m⟩
end
section
variable {d:DSet} {c:Chg} {w W W':Wd} {l:List Pr} {base n cc:Nat} {A:Option Addr}
def Xd (d:DSet):Bool:=decide (d.org=3) || decide (d.org=2)
theorem oa {G:Prop} (h:G:=by
  go_wp2;go_ret
  first
   |exact ⟨by first|rfl|simp [h3],Aj⟩
   |exact ⟨by first|rfl|simp [e2],Aj⟩):G:=h
abbrev yy (w:Wd) (d):=w.alloc (.cells (dC d).toArray 34)
def Mv (d:DSet) (w:Wd):Calls prog 210 #[.agg (dC d).toArray] w (Ab w (.bool (Xd d))):=by
 have c1:=(Blk.new w 34 (dC d).toArray).ce 1 (.int .i64 d.org);unfold Xd;by_cases h3:d.org=3
 .have e3:(d.org == 3)=true:=by simpa using h3
  rw [QQ h3];exact oa
 .have e3:(d.org == 3)=false:=by simpa using h3
  rw [QW h3];by_cases a:d.org=2
  .have e2:(d.org == 2)=true:=by simpa using a
   rw [QQ a];clear h3;exact oa
  .have e2:(d.org == 2)=false:=by simpa using a
   rw [QW a];clear h3 a;exact oa
def uQ (base:Nat) (R:Int ⊕ List Pr) (w:Wd) (e:Ending) (w':Wd):Prop:=match R with
 |.inl code=>e=.returned (.tuple #[.slice none 0 0,.int .i64 code])/\Below base w w'
 |.inr l=>∃ A c,e=.returned (.tuple #[.slice A l.length c,.int .i64 0])/\w'.ownsRow base 74 2 (.slice A l.length c) l.length (eC l)/\Below base w w'
def DJ (a b:Bool) (l:List Pr) (c:Chg):Int ⊕ List Pr:=
 if a=false then .inl 7 else if b=false then .inl 2
 else if Y6 l c.key=true then .inr (l.set (l.findIdx (geK c.key)) ⟨c.key,c.rcd⟩) else .inr (IS l (l.findIdx (geK c.key)) c.key c.rcd)
def OH (a b:Bool) (l:List Pr) (c:Chg):Int ⊕ List Pr:=
 if a=false then .inl 7 else if b=false then .inl 2
 else if Y6 l c.key=true then .inr (l.eraseIdx (l.findIdx (geK c.key))) else .inr l
structure PW (d:DSet) (c:Chg) (w W:Wd):Prop where
 b1:Blk W w.1.size 34 (dC d).toArray
 b2:Blk W (w.1.size+1) 50 (chC c).toArray
 sz:w.1.size+2<=W.1.size
 be:Below w.1.size w W
def Uu (h:PW d c w W) (a:Below W.1.size W W'):PW d c w W':=
 have hz:=h.sz
 ⟨h.b1.below a Oo,h.b2.below a Oo,Lx h.sz a.size,U0 h.be a Oo⟩
def Rv (h:PW d c w W):W.cell? ⟨w.1.size+1,2,none⟩=some (.string c.key):=(h.b2.cell 2).trans rfl
def yC (h:PW d c w W):W.cell? ⟨w.1.size+1,3,none⟩=some (.string c.rcd):=(h.b2.cell 3).trans rfl
def TS (h:PW d c w W):W.cell? ⟨w.1.size,1,none⟩=some (.int .i64 d.org):=(h.b1.cell 1).trans rfl
structure PX (d:DSet) (c:Chg) (w W:Wd):Prop extends PW d c w W where
 b3:Blk W (w.1.size+2) 74 #[.string c.key,.string c.rcd]
 sz3:w.1.size+3<=W.1.size
abbrev kV (w:Wd) (d) (c):=(yy w d).alloc (.cells (chC c).toArray 50)
def yz (d:DSet) (c:Chg) (w:Wd):PX d c w (Aa (kV w d c) #[.string c.key,.string c.rcd] 74):=
 ⟨⟨((Blk.new w _ _).alloc _).alloc _,(U3 (yy w d) _ _ (w.1.size+1) Am).alloc _,Am,(Aj.alloc Am _).alloc As _⟩,U3 _ _ _ _ Am,Am⟩
def Zw (h:PX d c w W) (a:Below W.1.size W W'):PX d c w W':=
 have hz:=h.sz3
 ⟨Uu h.toPW a,h.b3.below a Oo,Lx h.sz3 a.size⟩
def yB (h:PX d c w W):W.cell? ⟨w.1.size+2,0,none⟩=some (.string c.key):=(h.b3.cell 0).trans rfl
def yA (h:PX d c w W):W.cell? ⟨w.1.size+2,1,none⟩=some (.string c.rcd):=(h.b3.cell 1).trans rfl
def By (l:List Pr) (i:Nat) (x:Pr):(l.set i x).length=l.length:=KT
def nG (l:List Pr) (k:Bz):l.findIdx (geK k)<=l.length:=KP
def C8 {k:Bz} (h:Y6 l k=true):l.findIdx (geK k)<l.length:=by
 rcases ZW (l.findIdx (geK k)) l.length with a|a
 .exact a
 .rw [Hr (WM a)] at h;cases h
def P0 (h:w.ownsRow base 74 2 (.slice A n cc) n (eC l)):Sl prC 2 w w.1.size A n cc l:=Sl.of_own (f:=prC) (fun _=>rfl) Ac h
def J6 (h:w.ownsRow base 74 2 (.slice A n cc) n (eC l)) (w':Wd) (a:Below w.1.size w w'):w'.ownsRow base 74 2 (.slice A n cc) n (eC l):=Ub h a
def kY (d:DSet) (c:Chg) (A:Option Addr) (cc:Nat) (l:List Pr) (base:Nat) (M:Bool) (w:Wd) (j:w.ownsRow base 74 2 (.slice A l.length cc) l.length (eC l)) (x:base<=w.1.size) (hn:l.length<=1024)
  (H:∀ W,Below w.1.size w W->Calls prog 106 #[.agg (dC d).toArray,.agg #[.string c.key,.string c.rcd]] W (Ab W (.bool M))):
  Calls prog 209 #[.agg (dC d).toArray,.slice A l.length cc,.agg (chC c).toArray] w (uQ base (DJ (Xd d) M l c) w):=by
 have r:=yz d c w;have B:=fun W=>Mv d W
 have K:=fun W (h:Below w.1.size w W)=>J6 j W h
 have u:=fun W (h:Below w.1.size w W)=>FQ c.key A l.length cc l W (P0 (J6 j W h)) (by unfold maxLen;omega)
 have k2:=(U3 (yy w d) 50 (chC c).toArray (w.1.size+1) Am).ce 2 (.string c.key);have k3:=(U3 (yy w d) 50 (chC c).toArray (w.1.size+1) Am).ce 3 (.string c.rcd);have s:=nG l c.key;unfold DJ;obtain ⟨dr,I⟩:=yG (Xd d);rw [I];simp only [I] at B;clear I;cases dr with
 |false=>
  rw [QK rfl];clear j s;go_in;go_wp2_with (first|(apply yK r.b1)|(go_at_call 210;refine yT (B _) (Zw r) fun P b=>?_))
  go_ret2
  exact ⟨rfl,b.be.mono x⟩
 |true=>
  rw [QX Ac];cases M with
  |false=>
   rw [QK rfl];clear j s;go_in;go_wp2_with (first|(apply yK r.b1)|(apply yK b.b1)|(go_at_call 210;refine yT (B _) (Zw r) fun P b=>?_;have v:=yB b;have c1:=yA b)|(go_at_call 106;refine yT (H _ b.be) (Zw b) fun Q o=>?_;clear v c1))
   go_ret2
   exact ⟨rfl,o.be.mono x⟩
  |true=>
   rw [QX Ac];obtain ⟨t,z⟩:=yG (Y6 l c.key);rw [z];simp only [z] at u;cases t with
   |true=>
    rw [QK rfl];have E:=C8 z;obtain ⟨g,U,F,hbg,hgl,fI⟩:=J7 j Oo;injection F with e1 _ e2
    subst e1;subst e2;generalize l.findIdx (geK c.key)=q at u E s;obtain ⟨n,m⟩:=yG l.length;rw [m] at u K E hn fI;rw [m];have Y:=hn;clear j s z;go_in;go_wp2_with (first|(apply yK r.b1)|(refine yK b.b1 ?_)|(go_at_call 210;refine yT (B _) (Zw r) fun P b=>?_;have v:=yB b;have c1:=yA b)|(go_at_call 106;refine yT (H _ b.be) (Zw b) fun Q o=>?_;clear v c1;have c2:=Rv o.toPW)|(go_at_call 211;refine yT (u _ o.be) (Zw o) fun T f=>?_;clear c2;have v:=yB f;have c1:=yA f;have HT:=Gg (K _ f.be) q Oo)|(refine JO rfl 74 _ _ rfl g (q*2) #[.string c.key,.string c.rcd] rfl rfl HT Ak (by simp [Value.oneCell']) ?_))
    go_ret2
    have Z:=K _ f.be;refine ⟨some ⟨g,0,none⟩,cc,by rw [By,m];rfl,?_,?_⟩
    .rw [By,m];exact sY Z q ⟨c.key,c.rcd⟩ E
    .exact (f.be.mono x).grown (Mo _ _) (by have:=f.be.size;have:=x;omega) (by intro k D;injection D with D;omega)
   |false=>
    rw [QX Ac];have i:=fun (W:Wd) (h:Below w.1.size w W) (G:Nat) (hv:Blk W G 74 #[.string c.key,.string c.rcd]) (N:∀ a,A=some a->G≠a.block)=>ve base G A l.length cc (l.findIdx (geK c.key)) l c.key c.rcd W (J6 j W h) hv N s Oo (Lx x h.size)
    have y:∀ a,A=some a->a.block<w.1.size:=by
     intro a O;subst O;rcases j.2 with ⟨C,_⟩|⟨S,R,X,C,hb',fG,_⟩
     .cases C
     .have D:(Value.slice (some a) l.length cc).ownBlock=some S:=by rw [C];rfl
      injection C with h1 _ _
      injection h1 with h1
      rw [h1];exact (j.lt S D).2
    have p:(IS l (l.findIdx (geK c.key)) c.key c.rcd).length=l.length+1:=S3 s _ _;obtain ⟨L,J⟩:=yG (IS l (l.findIdx (geK c.key)) c.key c.rcd);simp only [J] at i p;rw [J];generalize l.findIdx (geK c.key)=q at u i;obtain ⟨n,m⟩:=yG l.length;rw [m] at u p;simp only [m] at i;rw [m];clear j s z m J;go_in
    go_wp2_with (first|(apply yK r.b1)|(apply yK b.b1)|(go_at_call 210;refine yT (B _) (Zw r) fun P b=>?_;have v:=yB b;have c1:=yA b)|(go_at_call 106;refine yT (H _ b.be) (Zw b) fun Q o=>?_;clear v c1;have c2:=Rv o.toPW)|(go_at_call 211;refine yT (u _ o.be) (Zw o) fun T f=>?_;clear c2;have v:=yB f;have c1:=yA f)|(go_at_call 212;refine (i _ (f.be.alloc (by have:=f.sz;omega) _) _ (Blk.new _ _ _) (by intro a O;have:=y a O;have:=f.be.size;omega)).mono ?_;rintro e w5 ⟨A',c',rfl,V,h6⟩))
    go_ret2
    refine ⟨A',c',by rw [p];rfl,?_,?_⟩
    .rw [p];exact V
    .exact ((f.be.alloc (by have:=f.sz;omega) _).mono x).trans h6
def ja (d:DSet) (c:Chg) (A:Option Addr) (cc:Nat) (l:List Pr) (base:Nat) (B:Bool) (w:Wd) (j:w.ownsRow base 74 2 (.slice A l.length cc) l.length (eC l)) (r:base<=w.1.size) (hn:l.length<=1024)
  (C:∀ W,Below w.1.size w W->Calls prog 214 #[.agg (dC d).toArray,.string c.key] W (Ab W (.bool B))):
  Calls prog 213 #[.agg (dC d).toArray,.slice A l.length cc,.agg (chC c).toArray] w (uQ base (OH (Xd d) B l c) w):=by
 have f:PW d c w (kV w d c):=⟨(Blk.new w _ _).alloc _,U3 (yy w d) _ _ (w.1.size+1) Am,Am,Aj.alloc Am _⟩
 have s:=fun W=>Mv d W
 have H:=fun W (h:Below w.1.size w W)=>J6 j W h
 have m:=fun W (h:Below w.1.size w W)=>FQ c.key A l.length cc l W (P0 (J6 j W h)) (by unfold maxLen;omega)
 unfold OH;obtain ⟨P,D⟩:=yG (Xd d);rw [D];simp only [D] at s;clear D;cases P with
 |false=>
  rw [QK rfl];clear j;go_in;go_wp2_with (first|(apply yK f.b1)|(go_at_call 210;refine yT (s _) (Uu f) fun E a=>?_))
  go_ret2
  exact ⟨rfl,a.be.mono r⟩
 |true=>
  rw [QX Ac];have I:=Rv f;cases B with
  |false=>
   rw [QK rfl];clear j;go_in;go_wp2_with (first|(apply yK f.b1)|(apply yK a.b1)|(go_at_call 210;refine yT (s _) (Uu f) fun E a=>?_;have c2:=Rv a)|(go_at_call 214;refine yT (C _ a.be) (Uu a) fun F e=>?_;clear c2))
   go_ret2
   exact ⟨rfl,e.be.mono r⟩
  |true=>
   rw [QX Ac];obtain ⟨t,p⟩:=yG (Y6 l c.key);rw [p];simp only [p] at m;cases t with
   |true=>
    rw [QK rfl];have u:=C8 p;obtain ⟨g,N,z,O,Q,S⟩:=J7 j Oo;injection z with e1 _ e2
    subst e1;subst e2;have i:=fun W (h:Below w.1.size w W)=>AK base g l.length cc (l.findIdx (geK c.key)) l W (J6 j W h) u Oo
    have b:(l.eraseIdx (l.findIdx (geK c.key))).length=l.length-1:=by rw [List.length_eraseIdx,QK u]
    obtain ⟨L,x⟩:=yG (l.eraseIdx (l.findIdx (geK c.key)));simp only [x] at i;rw [x] at b;rw [x];have y:l.findIdx (geK c.key)<1024:=Oo
    generalize l.findIdx (geK c.key)=q at m u i y;obtain ⟨n,v⟩:=yG l.length;rw [v] at m u b;simp only [v] at i;rw [v];clear j p v hn x H;go_in;go_wp2_with (first|(apply yK f.b1)|(apply yK a.b1)|(go_at_call 210;refine yT (s _) (Uu f) fun E a=>?_;clear I;have c2:=Rv a)|(go_at_call 214;refine yT (C _ a.be) (Uu a) fun F e=>?_;clear c2;have c2:=Rv e)|(go_at_call 211;refine yT (m _ e.be) (Uu e) fun K o=>?_;clear c2)|(go_at_call 215;refine yN2 (i _ o.be) fun R M J=>?_))
    go_ret2
    refine ⟨some ⟨g,0,none⟩,cc,by rw [b];rfl,?_,?_⟩
    .rw [b];exact M
    .exact (o.be.mono r).grown J (by have:=o.be.size;have:=r;omega) (by intro k G;injection G with G;omega)
   |false=>
    rw [QX Ac];generalize l.findIdx (geK c.key)=q at m;clear p;go_in;go_wp2_with (first|(apply yK f.b1)|(apply yK a.b1)|(go_at_call 210;refine yT (s _) (Uu f) fun E a=>?_;clear I;have c2:=Rv a)|(go_at_call 214;refine yT (C _ a.be) (Uu a) fun F e=>?_;clear c2;have c2:=Rv e)|(go_at_call 211;refine yT (m _ e.be) (Uu e) fun K o=>?_;clear c2))
    go_ret2
    exact ⟨A,cc,rfl,H _ o.be,o.be.mono r⟩
def jc (d:DSet) (A:Option Addr) (n cc:Nat) (c:Chg) (base:Nat) (w:Wd) (a:base<=w.1.size):Calls prog 218 #[.agg (dC d).toArray,.slice A n cc,.agg (chC c).toArray] w (uQ base (.inr []) w):=by
 go_wp2
 go_ret2
 exact ⟨none,0,rfl,⟨rfl,.inl ⟨rfl,rfl⟩⟩,(Aj.alloc Am _).mono a⟩
end
def In (n:Int):Bool:=decide (0<=n)&&decide (n<=1099511627776)
def oq {G:Prop} (h:G:=by
  go_wp2;go_ret;exact ⟨rfl,rfl⟩):G:=h
def SZ (n:Int) (w:Wd):Calls prog 151 #[.int .i64 n] w (Ae w (.bool (In n))):=by
 unfold In;by_cases a:0<=n
 .by_cases h2:n<=1099511627776
  .have d1:=QQ a;have b:=QQ h2;rw [d1,b];clear a h2;exact oq
  .have d1:=QQ a;have b:=QW h2;rw [d1,b];clear a h2;exact oq
 .have d1:=QW a;rw [d1];clear a;exact oq
def qP (b o:Nat) (n:Int) (w:Wd) (c:w.cell? ⟨b,o,none⟩=some (.int .i64 n)):
  Calls prog 150 #[Ag b o] w (Ae w (.bool (!In n))):=by
 have a:=fun W=>SZ n W
 obtain ⟨z,hz⟩:=yG (In n);simp only [hz] at a;rw [hz];clear hz;go_in;go_wp2_with (go_at_call 151;apply yE (a _));go_ret;exact ⟨rfl,rfl⟩
def uM (w:Wd) (g o:Nat) (l:List Int):Prop:=∀ (j:Nat) (v:Int),l[j]? =some v->∃ b q,w.cell? ⟨g,o+j,none⟩=some (Ag b q)/\w.cell? ⟨b,q,none⟩=some (.int .i64 v)
def Kg (n:Int):Bool := !In n
def Rz (g o c:Nat) (l:List Int) (w:Wd) (f:uM w g o l) (hn:l.length<=1000):
  Calls prog 190 #[.slice (Ah g o) l.length c,Ai 150] w (Ae w (.int .i64 (if l.findIdx Kg<l.length then (l.findIdx Kg:Int) else -1))):=by
 obtain ⟨R,m⟩:=yG ((if l.findIdx Kg<l.length then (l.findIdx Kg:Int) else -1):Int);rw [m];obtain ⟨n,a⟩:=yG l.length;rw [a] at m hn ⊢;go_wp2;go_loop [8] (fun i=>∃ j:Nat,j<=n/\i=.int .i64 j/\∀ t,t<j->∀ e,l[t]? =some e->Kg e=false) (fun i=>n-(intOf i).toNat)
 .exact ⟨0,Z0 _,rfl,fun t h=>absurd h Oo⟩
 .obtain ⟨j,hj,rfl,hall⟩:=hrel;by_cases p:j<n
  .have hg:l[j]? =some (l[j]'(by rw [a];exact p)):=QV _;obtain ⟨v,u⟩:=yG (l[j]'(by rw [a];exact p));rw [u] at hg;obtain ⟨b,q,c1,c2⟩:=f j v hg;have r:=qP b q v w c2;clear u c2;obtain ⟨z,s⟩:=yH (In v);rw [s.o] at r;cases z with
   |false=>
    have k:R=(j:Int):=by rw [<-m,Vn hall hg (by simp [Kg,s.o]),QK p]
    go_wp2_with fail;refine yE r ?_;go_wp2;go_ret;exact ⟨by rw [k];rfl,rfl⟩
   |true=>
    go_wp2_with fail;refine yE r ?_;go_wp2
    go_round
    .refine ⟨j+1,Oo,Au,fun t d e he=>?_⟩;rcases VT.1 d with h|h
     .exact hall t h e he
     .subst h;rw [hg] at he;injection he with he
      subst he;simp [Kg,s.o]
    .exact At
  .obtain rfl:j=n:=Oo
   have k:R = -1:=by
    rw [<-m,QX];intro h;rw [<-a] at h;obtain ⟨x,A,f⟩:=ZN.1 h;obtain ⟨t,d,rfl⟩:=XG A;rw [hall t (by rw [<-a];exact d) _ (QV d)] at f;cases f
   have y:=Hd k;clear k;go_wp2;go_ret;exact ⟨by rw [y.o];rfl,rfl⟩
def kE {G:Prop} (h:G:=by
  go_in;go_wp2_with (go_at_call 190;refine yE HI.o ?_);go_ret;exact ⟨rfl,rfl⟩):G:=h
def Nm (g o n c:Nat) (l:List Int) (w:Wd) (a:uM w g o l) (hn:l.length<=1000) (b:l.length=n):
  Calls prog 149 #[.slice (Ah g o) n c,Ai 150] w (Ae w (.bool (l.any Kg))):=by
 subst b;have HI:=Hd (Rz g o c l w a hn);clear a;by_cases h:l.findIdx Kg<l.length
 .have ha:l.any Kg=true:=by
   obtain ⟨x,d,a⟩:=ZN.1 h;exact VW.2 ⟨x,d,a⟩
  rw [ha];rw [QK h] at HI;obtain ⟨q,e⟩:=yG (l.findIdx Kg);rw [e] at HI;clear ha h e;exact kE
 .have ha:l.any Kg=false:=by
   rw [YC];intro x d a;exact h (ZN.2 ⟨x,d,a⟩)
  rw [ha];rw [QX h] at HI;clear ha h;exact kE
def IG (p:Pr):Bool:=decide (32<p.key.size) || decide (1000<p.rcd.size)
def oo {G:Prop} (h:G:=by
  go_wp2;go_ret
  first
   |exact ⟨rfl,HB.o⟩
   |exact ⟨As,HB.o⟩):G:=h
def qO (p:Pr) (w:Wd):Calls prog 153 #[.agg #[.string p.key,.string p.rcd]] w (Ab w (.bool (IG p))):=by
 have c:(Aa w #[.string p.key,.string p.rcd] 74).cell? ⟨w.1.size,0,none⟩=some (.string p.key):=((Blk.new w 74 _).cell 0).trans rfl;have c1:(Aa w #[.string p.key,.string p.rcd] 74).cell? ⟨w.1.size,1,none⟩=some (.string p.rcd):=((Blk.new w 74 _).cell 1).trans rfl;have HB:=Hd ((Bf w.1.size w).alloc (Le _) (.cells #[.string p.key,.string p.rcd] 74));unfold IG;by_cases b:32<p.key.size
 .have d1:=QQ b;rw [d1];exact oo
 .have d1:=QW b;rw [d1];by_cases a:1000<p.rcd.size
  .have d2:=QQ a;rw [d2];exact oo
  .have d2:=QW a;rw [d2];exact oo
def zf  (p:Pr->Bool) (A:Option Addr) (n c:Nat) (l:List Pr) (w:Wd) (v:Sl prC 2 w w.1.size A n c l) (hn:n<=9223372036854775807)
  (z:∀ x∈l,∀ W:Wd,Below w.1.size w W->Calls prog 153 #[.agg #[.string x.key,.string x.rcd]] W (Ab W (.bool (p x)))):
  Calls prog 191 #[.slice A n c,Ai 153] w (Ab w (.int .i64 (if l.findIdx p<n then (l.findIdx p:Int) else -1))):=by
 have C:=v.len;obtain ⟨R,g⟩:=yH ((if l.findIdx p<n then (l.findIdx p:Int) else -1):Int);rw [g.o];go_wp2;go_loopw [8] (fun i wr=>∃ j:Nat,j<=n/\i=.int .i64 j/\(∀ t,t<j->∀ e,l[t]? =some e->p e=false)/\Below w.1.size w wr) (fun i _=>n-(intOf i).toNat)
 .exact ⟨0,Z0 _,rfl,fun t h=>absurd h Oo,Bf _ _⟩
 .obtain ⟨j,hj,rfl,hall,aF⟩:=hrel;have u:=aF.size;by_cases r:j<n
  .obtain ⟨b,o,x,rfl,hb,hg,aB⟩:=Sl.cell (f:=prC) (k:=2) (fun _=>rfl) (v.below aF) r;have D:=aB 0 _ rfl;have c1:=aB 1 _ rfl;simp only [QF] at D;have s:=z x (QJ hg) wr aF;clear aB;cases d:p x with
   |true=>
    have m:R=(j:Int):=by rw [<-g.o,Vn hall hg d,QK r]
    go_wp2_with fail;refine yP s fun y a=>?_
    rw [d];have q:=U0 aF a u;clear a;go_wp2;go_ret;exact ⟨by rw [m];rfl,q⟩
   |false=>
    go_wp2_with fail;refine yP s fun y a=>?_
    rw [d];have q:=U0 aF a u;clear a;go_wp2;go_roundw
    .refine ⟨j+1,Oo,Au,fun t B e he=>?_,q⟩;by_cases h:t=j
     .subst h;rw [hg] at he;injection he with he;subst he;exact d
     .exact hall t Oo e he
    .exact At
  .have m:R = -1:=by rw [<-g.o,Vj C (fun t B=>hall t Oo),QX Oo]
   go_wp2;go_ret;exact ⟨by rw [m];rfl,aF⟩
def kC {G:Prop} (h:G:=by
  go_wp2_with (go_at_call 191;refine yP H.o fun w1 hb=>?_);go_ret;exact ⟨by rw [HA.o];simp [hq],hb⟩):G:=h
def qN  (p:Pr->Bool) (A:Option Addr) (n c:Nat) (l:List Pr) (w:Wd) (b:Sl prC 2 w w.1.size A n c l) (hn:n<=9223372036854775807)
  (d:∀ x∈l,∀ W:Wd,Below w.1.size w W->Calls prog 153 #[.agg #[.string x.key,.string x.rcd]] W (Ab W (.bool (p x)))):
  Calls prog 152 #[.slice A n c,Ai 153] w (Ab w (.bool (l.any p))):=by
 have H:=Hd (zf p A n c l w b hn d);have a:=EJ p l;rw [b.len] at a;have HA:=Hd a;clear b d a;generalize l.findIdx p=q at H HA;go_in;by_cases hq:q<n
 .rw [QK hq] at H;exact kC
 .rw [QX hq] at H;exact kC
def arL (d:DSet) (a:Int):List Int:=[d.id,d.org,d.fmt,d.len,d.blk,d.kat,d.kln,d.itv,d.area,d.fi,d.fa,d.base,d.aat,d.aln,d.cls,d.cre,d.exp,a]
def Y9 (d:DSet) (b:Int) (a:List Pr):Bool := !((arL d b).any Kg)&&!(decide (31<d.own.size) || decide (31<d.vol.size) || decide (1024<a.length))&&!(a.any IG)
def SL (x:Cnt) (w:Wd) (t:TypeId):(w.alloc (.cells (cnC x).toArray t)).rangeAt w.1.size 0 (dC x.d):=by
 intro j v a;rw [(U3 w t (cnC x).toArray w.1.size rfl).cell (0+j)];rw [Ga,QB];obtain ⟨b,c⟩:=QZ.1 a;rw [cnC,WF b,a]
structure AW (x:Cnt) (w W:Wd):Prop where
 b1:Blk W w.1.size 129 (cnC x).toArray
 b2:Blk W (w.1.size+1) 34 (dC x.d).toArray
 own:W.ownsRow (w.1.size+2) 208 1 (.slice (Ah (w.1.size+2) 0) 14 14) 14 (Mq (w.1.size+1))
 sz:W.1.size=w.1.size+3
 be:Below w.1.size w W
def jo (x:Cnt) (w a:Wd) (b:a=(Aa w (cnC x).toArray 129).alloc (.cells (dC x.d).toArray 34)):AW x w (Aa a (Mq (w.1.size+1)).toArray 208).drew:=by
 have d:a.1.size=w.1.size+2:=by rw [b];simp
 have g:Below w.1.size w a:=by rw [b];exact ((Bf w.1.size w).alloc (Le _) _).alloc Am _
 have f:Blk a w.1.size 129 (cnC x).toArray:=by rw [b];exact (Blk.new w 129 _).alloc _
 have h:Blk a (w.1.size+1) 34 (dC x.d).toArray:=by rw [b];exact U3 _ _ _ _ Am
 have c:=WC (e:=208) (base:=a.1.size) (size:=1) a (Mq (w.1.size+1)).toArray 14 (Le _) Ac rfl;rw [d] at c;exact ⟨(f.alloc _).drew,(h.alloc _).drew,c.drew,by simp [World.drew,d],(g.alloc Oo _).drew⟩
def Oz (x:Cnt) (w:Wd):Calls prog 148 #[Ag (w.1.size+1) 0] ((Aa w (cnC x).toArray 129).alloc (.cells (dC x.d).toArray 34)) fun e W=>e=.returned (.slice (Ah (w.1.size+2) 0) 14 14)/\AW x w W:=by
 apply (Wy (w.1.size+1) _).mono;rintro e W ⟨rfl,rfl⟩;exact ⟨Am,jo x w _ rfl⟩
def uA (x:Cnt) (w n w':Wd) (e:Value) (b:AW x w n)
  (f:w'.ownsRow (w.1.size+2) 208 1 e 18 (Mq (w.1.size+1)++Mi w.1.size (w.1.size+1)))
  (c:(Aa n (Mi w.1.size (w.1.size+1)).toArray 208).grownBy w' (Value.slice (Ah (w.1.size+2) 0) 14 14).ownBlock):
  ∃ g a,e=.slice (Ah g 0) 18 a/\Blk w' w.1.size 129 (cnC x).toArray/\Blk w' (w.1.size+1) 34 (dC x.d).toArray/\uM w' g 0 (arL x.d x.ap)/\Below w.1.size w w':=by
 have m:=(b.b1.alloc _).grown c (by simp [Value.ownBlock]);have o:=(b.b2.alloc _).grown c (by simp [Value.ownBlock]);have l:Below w.1.size w w':=(b.be.alloc (by have:=b.sz;omega) _).grown c (by have:=b.sz;simp;omega) (by intro k q;simp [Value.ownBlock] at q;omega)
 obtain ⟨g,a,rfl⟩:∃ g a,e=.slice (some ⟨g,0,none⟩) 18 a:=by
  rcases f.2 with ⟨_,p⟩|⟨g,a,r,rfl,_⟩
  .exact absurd p Ac
  .exact ⟨g,a,rfl⟩
 refine ⟨g,a,rfl,m,o,fun j v d=>?_,l⟩;have h:j<18:=(QZ.1 d).1;rw [QB,f.cellAt j Oo];have i:j=0\/j=1\/j=2\/j=3\/j=4\/j=5\/j=6\/j=7\/j=8\/j=9\/j=10\/j=11\/j=12\/j=13\/j=14\/j=15\/j=16\/j=17:=Oo
 clear c f l h;rcases i with rfl|rfl|rfl|rfl|rfl|rfl|rfl|rfl|rfl|rfl|rfl|rfl|rfl|rfl|rfl|rfl|rfl|rfl
 all_goals
  injection d with d
  subst d;exact ⟨_,_,rfl,(by first|(rw [o.cell];rfl)|(rw [m.cell];rfl))⟩
def ot {G:Prop} (h:G:=by
  go_in
  go_wp2_with (first|(refine yJ HM.o ?_)|(refine yV (HB.o _) H1.o ?_;rw [HS.o])|(go_at_call 148;refine yN HF.o fun W3 HA=>?_;have HO:=Hd (HA.o.own.alloc (.cells (Mi w.1.size (w.1.size+1)).toArray 208));have HR:=Hd (Cj w.1.size (w.1.size+1) W3))|(at_builtin;go_must (refine Ui _ rfl _ _ 205 rfl (w.1.size+2) 208 i0 _ 1 8 underlying205 bC bB aP aT rfl Ac _ 14 _ rfl HO.o (W3.1.size+1) (Ah W3.1.size 0) 4 4 (Mi w.1.size (w.1.size+1)) rfl HR.o (by simp [Mi,Value.oneCell']) Ac Ac (by have:=HA.o.sz;simp;omega) ?_;intro v' w4 aD aI _;obtain ⟨g,cap,rfl,q1,q2,q3,q4⟩:=uA x w _ _ _ HA.o aD aI;clear aD aI HO HR HA;have c17:=q2.ce 17 (.string x.d.own);have c16:=q2.ce 16 (.string x.d.vol);have c22:=q1.ce 22 (.slice x.pA x.pn x.pc);have HC:=Hd (Nm g 0 18 cap (arL x.d x.ap) w4 q3 (by simp [arL]) (by simp [arL]));have HE:=Hd q4;clear q1 q2 q3 q4))|(go_at_call 149;refine yE HC.o ?_;rw [fM.o]))
  go_ret
  first
   |exact ⟨by rw [<-aU.o];simp only [Y9,fM.o];rfl,HE.o⟩
   |exact ⟨by rw [<-aU.o];simp only [Y9,fM.o,cN.o];rfl,HE.o⟩
   |exact ⟨by rw [<-aU.o];simp only [Y9,fM.o,cN.o,HZ3.o];rfl,HE.o⟩):G:=h
def kF {G:Prop} (h:G:=by
  go_in
  go_wp2_with (first|(refine yJ HM.o ?_)|(refine yV (HB.o _) H1.o ?_;rw [HS.o])|(go_at_call 148;refine yN HF.o fun W3 HA=>?_;have HO:=Hd (HA.o.own.alloc (.cells (Mi w.1.size (w.1.size+1)).toArray 208));have HR:=Hd (Cj w.1.size (w.1.size+1) W3))|(at_builtin;go_must (refine Ui _ rfl _ _ 205 rfl (w.1.size+2) 208 i0 _ 1 8 underlying205 bC bB aP aT rfl Ac _ 14 _ rfl HO.o (W3.1.size+1) (Ah W3.1.size 0) 4 4 (Mi w.1.size (w.1.size+1)) rfl HR.o (by simp [Mi,Value.oneCell']) Ac Ac (by have:=HA.o.sz;simp;omega) ?_;intro v' w4 aD aI _;obtain ⟨g,cap,rfl,q1,q2,q3,q4⟩:=uA x w _ _ _ HA.o aD aI;clear aD aI HO HR HA;have c17:=q2.ce 17 (.string x.d.own);have c16:=q2.ce 16 (.string x.d.vol);have c22:=q1.ce 22 (.slice x.pA x.pn x.pc);have HC:=Hd (Nm g 0 18 cap (arL x.d x.ap) w4 q3 (by simp [arL]) (by simp [arL]));have HE:=Hd q4;clear q1 q2 q3 q4))|(go_at_call 149;refine yE HC.o ?_;rw [fM.o])|(go_at_call 152;refine yP (HQ.o _ HE.o) fun w6 eG=>?_;have HE6:=Hd (U0 HE.o eG HE.o.size);clear eG;rw [HZ5.o]))
  go_ret;exact ⟨by rw [<-aU.o];simp only [Y9,fM.o,cN.o,HZ3.o,HZ4.o,HZ5.o];rfl,HE6.o⟩):G:=h
def N0 (x:Cnt) (w:Wd) (e:CW w x):Calls prog 105 #[.agg (cnC x).toArray] w (Ab w (.bool (Y9 x.d x.ap x.ps))):=by
 obtain ⟨i0,bC,bB,aP,aT⟩:=WG rK;have HM:=Hd (SL x w 129);have H1:=Hd (Xc x.d);have HF:=Hd (Oz x w);have HB:=Hd fun b=>U3 (Aa w (cnC x).toArray 129) 34 b (w.1.size+1) Am
 have HS:=Hd fun b=>X6 (Aa w (cnC x).toArray 129) (w.1.size+1) Am b (dC x.d).toArray 34
 have HQ:Aw (∀ W,Below w.1.size w W->Calls prog 152 #[.slice x.pA x.pn x.pc,Ai 153] W (Ab W (.bool (x.ps.any IG)))):=Hd fun W j=>qN IG x.pA x.pn x.pc x.ps W (e.sl.after j j.size) (by have:=e.le;omega) (fun y _ W' _=>qO y W')
 have n:=e.le;have d:=e.sl.len;obtain ⟨o,f⟩:=yG (Y9 x.d x.ap x.ps);rw [f];have aU:=Hd f;obtain ⟨m,a⟩:∃ z,(arL x.d x.ap).any Kg=z:=⟨_,rfl⟩
 have fM:=Hd a;have HZ4:Aw (decide (1024<x.ps.length)=false):=Hd As;clear f a e d;cases m with
 |true=>
  exact ot
 |false=>
  by_cases i:31<x.d.own.size
  .have cN:Aw (decide (31<x.d.own.size)=true):=Hd (by simpa using i);exact ot
  .have cN:Aw (decide (31<x.d.own.size)=false):=Hd (by simpa using i);by_cases k:31<x.d.vol.size
   .have HZ3:Aw (decide (31<x.d.vol.size)=true):=Hd (by simpa using k);exact ot
   .have HZ3:Aw (decide (31<x.d.vol.size)=false):=Hd (by simpa using k);obtain ⟨l,c⟩:∃ z,x.ps.any IG=z:=⟨_,rfl⟩
    have HZ5:=Hd c;clear c;cases l with
    |true=>
     exact kF
    |false=>
     exact kF
def CM {G:Prop} (h:G:=by
  go_wp2
  first
   |go_ret
    exact ⟨rfl,BB.o⟩
   |all_goals
     go_ret;refine ⟨?_,Aj⟩;rw [<-HR.o]
     first
      |(show Ending.returned (.bool true)=_;congr 2;simp_all;done)
      |(show Ending.returned (.bool false)=_;congr 2;simp_all;done)):G:=h
def Tx (x:Rdd) (w:Wd):Calls prog 79 #[.agg #[.int .i64 x.kind,.int .i64 x.id,.string x.key,.string x.ak,.string x.ar,.int .i64 x.code]] w (Ab w (.bool (rdB x))):=by
 obtain ⟨k,id,b,f,e,a⟩:=x;simp only;have BB:=Hd (Ul (Xj w #[.int .i64 k,.int .i64 id,.string b,.string f,.string e,.int .i64 a] 48));by_cases d:k=0\/k=1;rotate_left
 .have k0:(k == 0)=false:=As
  have s:(k == 1)=false:=As
  have u:(k != 0)=true:=As
  have t:(k != 1)=true:=As
  have c:(decide (k=0) || decide (k=1))=false:=As
  simp only [rdB,c,YM];clear c d;exact CM
 have c:(decide (k=0) || decide (k=1))=true:=by simpa using d
 have n:rdB ⟨k,id,b,f,e,a⟩=(Y4 id&&decide (b.size<=32)&&(decide (a=0) || (decide (f.size=0)&&decide (e.size=0)&&decide (a=6)))):=by
  simp only [rdB,c,XL]
 rw [n];clear c n;by_cases i:id<1
 .have q:=QQ i;have hn:Y4 id=false:=by unfold Y4;rw [QW (by omega:¬ 1<=id)];rfl
  simp only [hn,YM];clear hn i;rcases d with rfl|rfl
  all_goals
   exact CM
 have q:=QW i;by_cases l:1099511627776<id
 .have o:=QQ l;have hn:Y4 id=false:=by unfold Y4;rw [QW (by omega:¬ id<=1099511627776)];simp
  simp only [hn,YM];clear hn i l;rcases d with rfl|rfl
  all_goals
   exact CM
 have o:=QW l;have hn:Y4 id=true:=by unfold Y4;rw [QQ (by omega:1<=id),QQ (by omega:id<=1099511627776)];rfl
 simp only [hn,XL];clear hn i l;by_cases g:b.size<=32
 .simp only [g,VS,XL];have p:decide ((32:Int)<(b.size:Int))=false:=As
  have r:decide (32<b.size)=false:=As
  by_cases m:a=0
  .subst m;simp only [VS,Bool.true_or];rcases d with rfl|rfl
   all_goals
    exact CM
  .have hc0:(a == 0)=false:=by simpa using m
   obtain ⟨R,j⟩:=yG ((decide (a=0) || (decide (f.size=0)&&decide (e.size=0)&&decide (a=6))):Bool);rw [j]
   have j:(decide (f.toList=[])&&decide (e.toList=[])&&decide (a=6))=R:=by
    rw [<-j,K6 f,K6 e];simp [m]
   have HR:=Hd j;clear j m;rcases d with rfl|rfl
   all_goals
    exact CM
 .simp only [g,UY,YM];have p:decide ((32:Int)<(b.size:Int))=true:=As
  have r:decide (32<b.size)=true:=As
  rcases d with rfl|rfl
  all_goals
   exact CM
end Go.Proofs.YtdleakjejodjjaaGreatDoor
