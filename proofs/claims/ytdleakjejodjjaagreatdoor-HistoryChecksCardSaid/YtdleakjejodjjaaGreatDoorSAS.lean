/- Of the history laws. -/
import Derived.Test.YtdleakjejodjjaaGreatDoorSAM
import Derived.Test.YtdleakjejodjjaaGreatDoorSAO
namespace Go.Proofs.YtdleakjejodjjaaGreatDoor
open Tryz
set_option linter.defProp false
set_option linter.unusedVariables false
set_option linter.unusedSimpArgs false
set_option maxRecDepth 100000
set_option maxHeartbeats 20000000
open Go.RowKit
variable {w:Wd} {base size:Nat} {v:Value} {n:Nat} {xs:List Value} {g:Nat} {l:Bz} {e:Int} {X:Wd} {L:List Int}
def Y3 {e:TypeId} (h:w.ownsRow base e size v n xs) (i:v.ownBlock≠some g) (cs:Array Value):(w.setRow g cs).ownsRow base e size v n xs:=by
 obtain ⟨j,b⟩:=h;refine ⟨j,?_⟩;rcases b with b|⟨m,c,a,d,k,f,r⟩
 .exact WL b
 .subst d;exact VH ⟨m,c,a,rfl,k,(QE _ _ _ _ (fun e=>i (by rw [<-e];rfl))).trans f,r⟩
def Yy {e:TypeId} (h:w.ownsRow base e size v n xs) (k:g<base\/w.1.size<=g):v.ownBlock≠some g:=by
 intro he;rcases h.2 with ⟨a,_⟩|⟨f,d,b,a,m,c,_⟩
 .rw [a] at he;cases he
 .subst a;have i:f=g:=WQ he;have j:=(WA.1 c).1;omega
def RX.keep {b:Wd} (h:RX l e w X) (a:Below (w.1.size+2) X b):RX l e w b:=
 ⟨h.b1.below a Oo,h.b2.below a Oo,h.be.trans (a.mono Oo),Lx h.sz a.size⟩
def RlG (R:List Int×Bz×Int) (w:Wd) (x:Ending) (w':Wd):Prop:=∃ A c,x=.returned (.tuple #[.slice A R.1.length c,.agg (rdV R.2.1 R.2.2)])/\w'.ownsRow (w.1.size+2) 3 1 (.slice A R.1.length c) R.1.length (R.1.map (Value.int .i64))/\Below w.1.size w w'
def ya {k:Nat} {T:List Int×Bz×Int} (h:T=(L++(Xz (k+1) l e).1,(Xz (k+1) l e).2)):T=((L++[(rnF l e).1])++(Xz k (rnF l e).2.1 (rnF l e).2.2).1,(Xz k (rnF l e).2.1 (rnF l e).2.2).2):=by
 rw [h];show (L++((rnF l e).1::_),_)=_;rw [ZO];rfl
def px:(prog.info? 3).map (fun i=>(i.zero,i.size,i.bytes))=some (some (.int .i64 0),1,8):=Ak
def U6 (W:Wd) (o:Obj):W.1.size<=(W.alloc o).1.size:=Am
def C1 (n:Int):∀ u∈[Value.int .i64 n],u.oneCell'=true:=fun u a=>by rw [QT.1 a];rfl
structure LX (l:Bz) (e:Int) (w:Wd) (v:Value) (L:List Int) (W:Wd):Prop where
 x:RX l e w W
 o:W.ownsRow (w.1.size+2) 3 1 v L.length (L.map (Value.int .i64))
def LX.next {W W':Wd} (h:LX l e w v L W) (a:Below W.1.size W W'):LX l e w v L W':=⟨h.x.next a,Ub h.o a⟩
def LX.two (h:LX l e w v L X) (a:Bz) (b:Int) (z:Array Value):LX l e w v L ((Aa X z 185).setRow X.1.size (rdV a b))/\RdS a b X.1.size ((Aa X z 185).setRow X.1.size (rdV a b)):=
 have c:=h.x.two a b z
 ⟨⟨c.1,Y3 (h.o.alloc _) (Yy h.o (.inr (Le _))) _⟩,c.2⟩
def LX.put (h:LX l e w v L X) (a:Bz) (b:Int):LX a b w v L (X.setRow w.1.size (rdV a b)):=
 ⟨h.x.put a b,Y3 h.o (Yy h.o (.inl Oo)) _⟩
def Ng (n:Nat) (hn:n<=1000) (l:Bz) (e:Int) (w:Wd) (Q:l.size<=maxLen):Calls prog 224 #[.agg (rdV l e),.int .i64 n] w (RlG (Xz n l e) w):=by
 have t:=Hd (RX.new l e w);obtain ⟨T,u⟩:=yG (Xz n l e);have q:T.1.length=n:=by rw [<-u];exact EC n l e
 have G:=Hd u;have HTl:=Hd q;have D:=Hd Q;rw [u];clear u q Q;go_wp2;go_loopw [6,7] (fun v i wr=>∃ (j:Nat) (d:Bz) (f:Int) (L:List Int),j<=n/\i=.int .i64 j/\L.length=j/\T=(L++(Xz (n-j) d f).1,(Xz (n-j) d f).2)/\d.size<=maxLen/\LX d f w v L wr) (fun _ i _=>n-(intOf i).toNat)
 .exact ⟨0,l,e,[],Z0 _,rfl,rfl,G.o.symm,D.o,⟨t.o.keep ((Bf _ _).alloc t.o.sz _),by have h:=WC (e:=3) (size:=1) ((Aa w (rdV l e) 185).alloc (.cells #[.string ⟨#[]⟩,.int .i64 0] 185)) #[] 0 t.o.sz (Z0 _) rfl;simpa using h⟩⟩
 .obtain ⟨j,d,f,L,hj,rfl,hL,hT2,dD,hX⟩:=hrel;obtain ⟨A,c,rfl,_⟩:=U4 hX.o;by_cases aE:j<n
  .have hk:n-j=(n-(j+1))+1:=Oo
   rw [hk] at hT2;have m:=Hd (ya hT2);have C:=Hd fun W=>Gk d f W dD
   have z:=Hd (Lx (Zd d f) dD);have hz:(rnF d f).2=(V2 d f).2:=rfl;rw [<-hz] at z;clear hz;obtain ⟨R,Y⟩:=yG (rnF d f);rw [Y] at C m z;obtain ⟨k,a,b⟩:=R;simp only at C m z;have o:=Hd hX;have HL:=Hd hL;have K:=Hd aE;have F:Aw (L.length<=100000):=Hd Oo;have d1:decide ((j:Int)<(n:Int))=true:=QQ Oo;clear hX hT2 dD hk G t D Y hL
   go_wp2_with (first|(refine Gl 185 2 ?_;refine Lq 185 w.1.size _ o.o.x.b1 underlying185 ?_)|(go_at_call 226;refine (C.o _).mono ?_;rintro x y ⟨rfl,J⟩;have V:=Hd (o.o.next J);clear J)|(refine Gt 185 9 ?_;go_must (refine Lv 185 y.1.size (rdV a b) (Blk.new y _ _) (Ua _ _) ?_;refine Wg (Φ:=fun W=>LX d f w (.slice A L.length c) L W/\RdS a b y.1.size W) (V.o.two a b _) ?_;intro W1 M;have B:=Hd M;clear M V))|(refine Gl 185 9 ?_;refine Lq 185 y.1.size _ B.o.2 underlying185 ?_)|(refine Gt 185 2 ?_;refine Lv 185 w.1.size (rdV a b) B.o.1.x.b1 (Ua _ _) ?_;refine Wg (Φ:=LX a b w (.slice A L.length c) L) (B.o.1.put a b) ?_;intro W2 H;have p:=Hd H;clear H B)|(at_builtin;go_must (refine Ap px underlying67 (p.o.o.alloc _) (Blk.new W2 _ _) (C1 k) F.o (Lx p.o.x.sz (U6 _ _)) ?_;intro Z w7 I O;have U:=Hd I;have N:=Hd O;clear I O)))
   have E:Aw (LX a b w Z (L++[k]) w7):=Hd ⟨p.o.x.keep (((Bf _ _).alloc p.o.x.sz _).grown N.o (Lx p.o.x.sz (U6 _ _)) (U9 (p.o.o.alloc (.cells #[.int .i64 k] 3)) (Le _))),by simpa using U.o⟩;clear U N p;go_roundw
   .exact ⟨j+1,a,b,L++[k],K.o,Au,by rw [WW,HL.o];rfl,m.o,z.o,E.o⟩
   .simp [intOf];have:=K.o;omega
  .obtain rfl:j=n:=Oo
   have d1:decide ((j:Int)<(j:Int))=false:=QW Oo;rw [VG] at hT2;have o:=Hd hX;have s:T=(L,d,f):=by rw [hT2];show (L++[],_)=_;rw [UI];rfl
   have m:=Hd s;clear hX hT2 dD G t D hj s;go_wp2;refine Rw (S:=RdS d f w.1.size) Ak o.o.x.drew.b1 (fun r=>?_);refine tA 0 r ?_;refine tr (cs:=[.string d,.int .i64 f]) 1 (fun W h=>h) r underlying185 ?_;refine tA 2 r ?_;refine ts 3 (rdV d f) o.o.x.drew.b2 (Ua _ _) (r.row Oo _) ?_;simp only [Act.put];refine Ad Ak ?_ _;have HO:=Hd (Y3 o.o.o.drew (Yy o.o.o.drew (.inl (by omega:w.1.size+1<w.1.size+2))) (rdV d f));have P:=Hd o.o.x.drew;clear r;go_wp2;refine Br (BF results224 rfl rfl (P.o.rd d f)) rfl ?_;rw [m.o];exact ⟨A,c,rfl,HO.o,Xq P.o.be Oo _⟩
end Go.Proofs.YtdleakjejodjjaaGreatDoor
