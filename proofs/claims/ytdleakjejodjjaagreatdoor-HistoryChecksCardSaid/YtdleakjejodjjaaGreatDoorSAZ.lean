/- Of the history laws. -/
import Derived.Test.YtdleakjejodjjaaGreatDoorSAR
namespace Go.Proofs.YtdleakjejodjjaaGreatDoor
open Tryz
set_option linter.defProp false
set_option linter.unusedVariables false
set_option linter.unusedSimpArgs false
set_option maxRecDepth 100000
set_option maxHeartbeats 20000000
open Go.RowKit
def G4 (d:DSet) (l:List Pr) (r:Bz):Bz:=
 if d.org=1 then (Vp d r (MG d (0,[],0) l).1 (MG d (0,[],0) l).2.1 (MG d (0,[],0) l).2.2).1 else V8 ((l.length:Int)+1)
def N1 (d:DSet) (l:List Pr) (c:Chg):Int ⊕ List Pr:=
 if Xd d=true then .inl 7 else if Ue d ⟨G4 d l c.rcd,c.rcd⟩=true then .inr (l++[⟨G4 d l c.rcd,c.rcd⟩]) else .inl 2
def ks {G:Prop} (h:G:=by
  go_ret2
  exact ⟨A',c',by rw [WW];rfl,by rw [WW];unfold eC;rw [V9,Xr];exact bX.o,((bE.o.be.mono dH.o).alloc (HLC.o _ bE.o.be) _).grown eH.o (bQ.o _ _ bE.o.be) (U9 (HO.o _ bE.o.be) (Le _))⟩):G:=h
abbrev sL (a:Wd) (k) (c:Chg):=a.alloc (.cells #[.string k,.string c.rcd] 74)
def jp (d:DSet) (c:Chg) (A:Option Addr) (cc:Nat) (l:List Pr) (base:Nat) (w:Wd) (hc:Cod w) (hr:c.rcd.size<=maxLen) (m:w.ownsRow base 74 2 (.slice A l.length cc) l.length (eC l)) (hB:base<=w.1.size) (hn:l.length<=1024):
  Calls prog 216 #[.agg (dC d).toArray,.slice A l.length cc,.agg (chC c).toArray] w (uQ base (N1 d l c) w):=by
 obtain ⟨i0,bC,bB,aP,aT⟩:=WG Vl;have B:Aw (PW d c w ((Aa w (dC d).toArray 34).alloc (.cells (chC c).toArray 50))):=Hd ⟨(Blk.new w _ _).alloc _,U3 (Aa w (dC d).toArray 34) _ _ (w.1.size+1) Am,Am,Aj.alloc Am _⟩;have V:=Hd fun W=>Mv d W
 have HO:=Hd fun W (h:Below w.1.size w W)=>J6 m W h
 have dH:=Hd hB;have HN:=Hd hn;have U:=Hd fun W (h:Below w.1.size w W)=>Fn ((l.length:Int)+1) W
 have bT:=Hd fun W (h:Below w.1.size w W)=>B7 d A l.length cc l W (P0 (J6 m W h)) Oo
 have Z:Aw (∀ (k:Bz) W,Below w.1.size w W->Calls prog 106 #[.agg (dC d).toArray,.agg #[.string k,.string c.rcd]] W (Ab W (.bool (Ue d ⟨k,c.rcd⟩)))):=Hd fun k W a=>Js d ⟨k,c.rcd⟩ W (hc.after a) hr
 unfold N1;clear hc hr m hB hn;have gR:l.length<=1024:=HN.o;have hwr:IntKind.i64.wrap ((l.length:Int)+1)=(l.length:Int)+1:=by rw [ZE];omega
 have jZ:Aw (l.length+1<=maxLen):=Hd (by unfold maxLen;omega);have L:Aw ((l.length+1)*32<=140737488355328):=Hd Oo;have bQ:Aw (∀ W o,Below w.1.size w W->base<=(World.alloc W o).1.size):=Hd fun W o h=>by have Y:=h.size;have:=dH.o;simp;omega
 have HLC:Aw (∀ W,Below w.1.size w W->base<=W.1.size):=Hd fun W h=>by have Y:=h.size;have:=dH.o;omega
 have x:Aw (∀ k:Bz,∀ u∈[Value.string k,.string c.rcd],u.oneCell'=true):=Hd fun k=>by simp [Value.oneCell']
 by_cases H:Xd d=true
 .rw [QK H];have HDD:=Hd H;go_in;go_wp2_with (first|(with_reducible refine yL 34 3 B.o.b1 ?_)|(go_at_call 210;refine yP (V.o _) fun w2 a=>?_;have r:=Hd (Uu B.o a);rw [H];clear a))
  go_ret2
  exact ⟨rfl,r.o.be.mono dH.o⟩
 rw [QX H];have C:Xd d=false:=by simpa using H
 clear H;obtain ⟨k,v⟩:=yG (G4 d l c.rcd);have HK:=Hd v;rw [v];unfold G4 at v;obtain ⟨R,F⟩:=yH (if Ue d ⟨k,c.rcd⟩=true then Sum.inr (l++[⟨k,c.rcd⟩]) else Sum.inl 2:Int ⊕ List Pr);rw [F.o];by_cases E:d.org=1
 .have ho':(d.org == 1)=true:=by simpa using E
  rw [QK E] at v;have I:=Hd v;clear v E HK;go_in;go_wp2_with (first|(with_reducible refine yL 34 3 B.o.b1 ?_)|(go_at_call 210;refine yP (V.o _) fun w2 a=>?_;have r:=Hd (Uu B.o a);rw [C];clear a)|(go_at_call 107;refine yP (U.o _ r.o.be) fun j a=>?_;have q:=Hd (Uu r.o a);have c1:=TS q.o;have c3:=yC q.o;clear a));have n:Aw (PW d c w j.drew):=Hd (Uu q.o (Bf _ _).drew);clear c1 c3;refine Rw (S:=fun w'=>PW d c w w') Ak n.o (fun p=>?_);refine tR 0 (fun _ h=>h.b1) p ?_;refine tA 1 p ?_;refine tR 3 (fun _ h=>h.b1) p ?_;refine tA 4 p ?_;refine tC 5 (fun _ aO=>yC aO) p ?_;refine Aq [2] ?_;refine Rc (fun K P=>?_) ?_
  .go_simp;refine (bT.o _ n.o.be).mono ?_;rintro e w4 ⟨y,rfl,hy,bN,Q,hna,a⟩;simp only [];have aZ:=Hd (Uu n.o a);have HY:=Hd hy;have J:=Hd Q;have bW:=Hd bN;refine P.out _ _ (Uu p a) (fun p=>?_);clear P K a hy bN Q hna;try simp only [Act.put,Sv,Sz,Sw]
   refine Aq [6] ?_;refine Rc (fun K P=>?_) ?_
   .go_simp;refine (Wc d c.rcd y _ bW.o (by have:=J.o;have:=HN.o;omega)).mono ?_;rintro e T ⟨z,rfl,_,_,_,a⟩;simp only [];have aR:=Hd (Uu aZ.o a);have fT:(Vp d c.rcd y.ci y.rs y.sp).1=k:=by have Y:=I.o;rw [<-HY.o] at Y;exact Y
    rw [fT];refine P.out _ _ (Uu p a) (fun p=>?_);clear P K a J bW;try simp only [Act.put,Sv,Sz,Sw]
    iterate 4 refine tB p ?_
    refine Ad Ak ?_ _;clear p fT I HY;have N:=Hd fun f=>Blk.new T 74 f
    have O:=Hd fun f=>U5 T f #[.string k,.string c.rcd] 74
    have iE:Aw ((#[.string k,.string c.rcd]:Array Value).all (·.oneCell')=true):=Hd (by simp [Value.oneCell']);have b:Aw (PW d c w (Aa T #[.string k,.string c.rcd] 74)):=Hd (Uu aR.o Aj);have i:Aw (Blk (Aa T #[.string k,.string c.rcd] 74) T.1.size 74 #[.string k,.string c.rcd]):=Hd (Blk.new _ _ _);have c3:=yC aR.o;have dM:Aw (∀ X,Rd (World.alloc X (.cells #[.string k,.string c.rcd] 74)) (X.1.size+1) 2 (Ah X.1.size 0) 1 [.string k,.string c.rcd]):=Hd fun X=>Yv X [.string k,.string c.rcd] 74 1 2 rfl
    cases t:Ue d ⟨k,c.rcd⟩ with
    |false=>
     have D:R=.inl 2:=by rw [<-F.o,t];rfl
     subst D;go_wp2_with (first|(with_reducible refine yL 34 3 b.o.b1 ?_)|(with_reducible refine yL 74 9 (by first|exact g.o|exact i.o) ?_)|(go_at_call 106;refine (Z.o k _ b.o.be).mono ?_;rw [t];rintro e s ⟨rfl,a⟩;have bE:=Hd (Uu b.o a);have g:=Hd (i.o.below a i.o.lt);clear a c3))
     go_ret2
     exact ⟨rfl,bE.o.be.mono dH.o⟩
    |true=>
     have D:R=.inr (l++[⟨k,c.rcd⟩]):=by rw [<-F.o,t];rfl
     subst D;go_wp2_with (first|(with_reducible refine yL 34 3 b.o.b1 ?_)|(with_reducible refine yL 74 9 (by first|exact g.o|exact i.o) ?_)|(go_at_call 106;refine (Z.o k _ b.o.be).mono ?_;rw [t];rintro e s ⟨rfl,a⟩;have bE:=Hd (Uu b.o a);have g:=Hd (i.o.below a i.o.lt);clear a c3)|(at_builtin;go_must (refine Ui _ rfl _ _ 35 rfl base 74 i0 _ 2 32 underlying35 bC bB aP aT rfl Ac (.slice A l.length cc) l.length (eC l) rfl ((HO.o _ bE.o.be).alloc _) (s.1.size+1) (Ah s.1.size 0) 1 1 [.string k,.string c.rcd] rfl (dM.o s) (x.o k) jZ.o L.o (bQ.o _ _ bE.o.be) ?_;intro v' w7 m M _;obtain ⟨A',c',rfl,_⟩:=U4 m;have bX:=Hd m;have eH:=Hd M;clear m M)));exact ks
   exact An
  exact An
 .have ho':(d.org == 1)=false:=by simpa using E
  rw [QX E] at v;clear HK E;subst v;generalize V8 ((l.length:Int)+1)=k at U F;go_in;have dM:Aw (∀ X,Rd (World.alloc X (.cells #[.string k,.string c.rcd] 74)) (X.1.size+1) 2 (Ah X.1.size 0) 1 [.string k,.string c.rcd]):=Hd fun X=>Yv X [.string k,.string c.rcd] 74 1 2 rfl
  cases t:Ue d ⟨k,c.rcd⟩ with
  |false=>
   have D:R=.inl 2:=by rw [<-F.o,t];rfl
   subst D
   go_wp2_with (first|(with_reducible refine yL 34 3 (by first|exact b.o.b1|exact B.o.b1) ?_)|(with_reducible refine yL 74 9 (by first|exact g.o|exact i.o) ?_)|(go_at_call 106;refine (Z.o k _ b.o.be).mono ?_;rw [t];rintro e s ⟨rfl,a⟩;have bE:=Hd (Uu b.o a);have g:=Hd (i.o.below a i.o.lt);clear a c3 c1)|(go_at_call 210;refine yP (V.o _) fun w2 a=>?_;have r:=Hd (Uu B.o a);rw [C];clear a)|(go_at_call 107;refine yP (U.o _ r.o.be) fun j a=>?_;have q:=Hd (Uu r.o a);have c1:=TS q.o;have c3:=yC q.o;have N:=Hd fun f=>Blk.new j 74 f;have O:=Hd fun f=>U5 j f #[.string k,.string c.rcd] 74;have iE:Aw ((#[.string k,.string c.rcd]:Array Value).all (·.oneCell')=true):=Hd (by simp [Value.oneCell']);have b:Aw (PW d c w (sL j k c)):=Hd (Uu q.o Aj);have i:Aw (Blk (sL j k c) j.1.size 74 #[.string k,.string c.rcd]):=Hd (Blk.new _ _ _);clear a))
   go_ret2
   exact ⟨rfl,bE.o.be.mono dH.o⟩
  |true=>
   have D:R=.inr (l++[⟨k,c.rcd⟩]):=by rw [<-F.o,t];rfl
   subst D
   go_wp2_with (first|(with_reducible refine yL 34 3 (by first|exact b.o.b1|exact B.o.b1) ?_)|(with_reducible refine yL 74 9 (by first|exact g.o|exact i.o) ?_)|(go_at_call 106;refine (Z.o k _ b.o.be).mono ?_;rw [t];rintro e s ⟨rfl,a⟩;have bE:=Hd (Uu b.o a);have g:=Hd (i.o.below a i.o.lt);clear a c3 c1)|(go_at_call 210;refine yP (V.o _) fun w2 a=>?_;have r:=Hd (Uu B.o a);rw [C];clear a)|(go_at_call 107;refine yP (U.o _ r.o.be) fun j a=>?_;have q:=Hd (Uu r.o a);have c1:=TS q.o;have c3:=yC q.o;have N:=Hd fun f=>Blk.new j 74 f;have O:=Hd fun f=>U5 j f #[.string k,.string c.rcd] 74;have iE:Aw ((#[.string k,.string c.rcd]:Array Value).all (·.oneCell')=true):=Hd (by simp [Value.oneCell']);have b:Aw (PW d c w (sL j k c)):=Hd (Uu q.o Aj);have i:Aw (Blk (sL j k c) j.1.size 74 #[.string k,.string c.rcd]):=Hd (Blk.new _ _ _);clear a)|(at_builtin;go_must (refine Ui _ rfl _ _ 35 rfl base 74 i0 _ 2 32 underlying35 bC bB aP aT rfl Ac (.slice A l.length cc) l.length (eC l) rfl ((HO.o _ bE.o.be).alloc _) (s.1.size+1) (Ah s.1.size 0) 1 1 [.string k,.string c.rcd] rfl (dM.o s) (x.o k) jZ.o L.o (bQ.o _ _ bE.o.be) ?_;intro v' w7 m M _;obtain ⟨A',c',rfl,_⟩:=U4 m;have bX:=Hd m;have eH:=Hd M;clear m M)))
   exact ks
def Jh (d:DSet) (l:List Pr) (c:Chg):Int ⊕ List Pr:=
 if c.kind=0 then DJ (Xd d) (Ue d ⟨c.key,c.rcd⟩) l c
 else if c.kind=1 then OH (Xd d) (Y0 d c.key) l c
 else if c.kind=2 then N1 d l c
 else if c.kind=3 then .inr []
 else .inr l
def doP (x:PC) (n:Int) (c:Chg):Int ⊕ PC:=
 if ¬ (c.id=x.d.id)\/n<=x.ap then .inr x
 else match Jh x.d x.ps c with
  |.inl e=>.inl e
  |.inr l=>if 1024<l.length then .inl 8 else .inr ⟨x.d,n,l⟩
def doF (x:PC) (n:Int) (c:Chg):Int ⊕ PC:=
 if Vi x.d x.ap x.ps&&chB c.kind c.id c.key c.rcd c.vol&&decide (1<=n)&&decide (n<=1099511627776) then doP x n c else .inl 1
def Jg (d:DSet) (l:List Pr) (c:Chg) (e:Int) (h:Jh d l c=.inl e):e≠0:=by
 unfold Jh DJ OH N1 at h
 repeat' split at h
 all_goals first
  |(injection h with h;omega)
  |cases h
def PM (x:PC) (n:Int) (c:Chg) (e:Int) (h:doF x n c=.inl e):e≠0:=by
 unfold doF doP at h;split at h
 .split at h
  .cases h
  .split at h
   .rename_i e' he;injection h with h
    subst h;exact Jg _ _ _ _ he
   .split at h
    .injection h with h;omega
    .cases h
 .injection h with h;omega
def EH {a b:Int} (xs c:List Int) (e:0<=a/\a<256) (f:0<=b/\b<256):
  Op.bytesLess ((a::xs).map fun n=>UInt8.ofNat n.toNat) ((b::c).map fun n=>UInt8.ofNat n.toNat)=true<->a<b\/(a=b/\Op.bytesLess (xs.map fun n=>UInt8.ofNat n.toNat) (c.map fun n=>UInt8.ofNat n.toNat)=true):=by
 obtain ⟨x,rfl⟩:∃ x:Nat,a=x:=⟨a.toNat,Oo⟩
 obtain ⟨y,rfl⟩:∃ y:Nat,b=y:=⟨b.toNat,Oo⟩
 have g:x<256:=Oo
 have hy:y<256:=Oo
 have d:(UInt8.ofNat x).toNat=x:=by rw [UD];omega
 have ty:(UInt8.ofNat y).toNat=y:=by rw [UD];omega
 simp only [WS,Op.bytesLess,XO,XU,QG,QU,YT,YX,<-VV,d,ty];constructor
 .rintro (h|⟨h,h2⟩)
  .exact .inl Oo
  .exact .inr ⟨Oo,h2⟩
 .rintro (h|⟨h,h2⟩)
  .exact .inl Oo
  .exact .inr ⟨Oo,h2⟩
def Uv (n:Int) (i:Nat):0<=nb8 n i/\nb8 n i<256:=by
 unfold nb8;exact ⟨Int.emod_nonneg _ Ac,Int.emod_lt_of_pos _ Ac⟩
def Gh {a b:Int} (e:0<=a) (K:a<b) (d:b<=1099511627776):Un (V8 a) (V8 b)=true:=by
 have wa:Uo a 0 1099511627776=true:=winB_true.2 ⟨e,Oo⟩;have wb:Uo b 0 1099511627776=true:=winB_true.2 ⟨Oo,d⟩;unfold V8;rw [QK wa,QK wb];unfold Un;rw [Vb,Vb];show Op.bytesLess ((Zk a).map fun n=>UInt8.ofNat n.toNat) ((Zk b).map fun n=>UInt8.ofNat n.toNat)=true;have I:Zk a=[nb8 a 7,nb8 a 6,nb8 a 5,nb8 a 4,nb8 a 3,nb8 a 2,nb8 a 1,nb8 a 0]:=by simp [Zk,VU]
 have u:Zk b=[nb8 b 7,nb8 b 6,nb8 b 5,nb8 b 4,nb8 b 3,nb8 b 2,nb8 b 1,nb8 b 0]:=by simp [Zk,VU]
 rw [I,u];rw [EH _ _ (Uv a 7) (Uv b 7),EH _ _ (Uv a 6) (Uv b 6),EH _ _ (Uv a 5) (Uv b 5),EH _ _ (Uv a 4) (Uv b 4),EH _ _ (Uv a 3) (Uv b 3),EH _ _ (Uv a 2) (Uv b 2),EH _ _ (Uv a 1) (Uv b 1),EH _ _ (Uv a 0) (Uv b 0)];have f:∀ n:Int,0<=n->n<=1099511627776->nb8 n 7=0:=fun n h g=>by unfold nb8;simp only [Nat.reduceMul,Int.reducePow];omega
 have i:∀ n:Int,0<=n->n<=1099511627776->nb8 n 6=0:=fun n h g=>by unfold nb8;simp only [Nat.reduceMul,Int.reducePow];omega
 rw [f a e Oo,f b Oo d,i a e Oo,i b Oo d]
 have c:∀ n:Int,0<=n->n<=1099511627776->n=nb8 n 5*1099511627776+nb8 n 4*4294967296+nb8 n 3*16777216+nb8 n 2*65536+nb8 n 1*256+nb8 n 0:=fun n h g=>by
  unfold nb8;simp only [Nat.reduceMul,Int.reducePow];omega
 have M:=c a e Oo;have N:=c b Oo d;have A:=Uv a 5;have x:=Uv a 4;have z:=Uv a 3;have E:=Uv a 2;have p:=Uv a 1;have H:=Uv a 0;have y:=Uv b 5;have s:=Uv b 4;have D:=Uv b 3;have l:=Uv b 2;have w:=Uv b 1;have o:=Uv b 0;generalize nb8 a 5=t at *;generalize nb8 a 4=v at *;generalize nb8 a 3=r at *;generalize nb8 a 2=F at *;generalize nb8 a 1=G at *;generalize nb8 a 0=L at *;generalize nb8 b 5=k at *;generalize nb8 b 4=B at *;generalize nb8 b 3=m at *;generalize nb8 b 2=C at *;generalize nb8 b 1=j at *;generalize nb8 b 0=J at *;refine .inr ⟨rfl,.inr ⟨rfl,?_⟩⟩;rcases KQ t k with q|q|q
 .exact .inl q
 .refine .inr ⟨q,?_⟩;rcases KQ v B with q|q|q
  .exact .inl q
  .refine .inr ⟨q,?_⟩;rcases KQ r m with q|q|q
   .exact .inl q
   .refine .inr ⟨q,?_⟩;rcases KQ F C with q|q|q
    .exact .inl q
    .refine .inr ⟨q,?_⟩;rcases KQ G j with q|q|q
     .exact .inl q
     .refine .inr ⟨q,.inl ?_⟩;omega
     .omega
    .omega
   .omega
  .omega
 .omega
def Ye:List Bz->Int
 | []=>0
 |s::r=>(s.size:Int)+Ye r
def Zz:∀ (l:List Bz) (r:Bz),Ye (l++[r])=Ye l+(r.size:Int)
 | [],r=>by simp [Ye]
 |s::l,r=>by
  show (s.size:Int)+Ye (l++[r])=(s.size:Int)+Ye l+r.size;rw [Zz l r];omega
def Qk (z:Nat):∀ (r:List Bz),Ye r=(Xv z r:Nat)*(z:Int)+Ye (r.drop (Xv z r))
 | []=>by simp [Xv,Ye]
 |s::r=>by
  unfold Xv;split
  .rename_i h;rw [UL];show (s.size:Int)+Ye r=_;rw [Qk z r,h]
   have:((Xv z r+1:Nat):Int)*(z:Int)=(Xv z r:Nat)*(z:Int)+z:=by
    rw [JU,JN];simp
   rw [this];omega
  .simp
def BD:∀ (f:Nat) (l:List Bz),l.length<=f->Ye l<=Kt f l
 |0,[],_=>by simp [Ye,Kt]
 |0,s::r,h=>by simp at h
 |f+1,[],_=>by simp [Ye,Kt]
 |f+1,s::r,h=>by
  have a:=BD f (r.drop (Xv s.size r)) (by rw [XD];simp at h;omega);show (s.size:Int)+Ye r<=_;unfold Kt;rw [Qk s.size r]
  have:((Xv s.size r+1:Nat):Int)*(s.size:Int)=(Xv s.size r:Nat)*(s.size:Int)+s.size:=by
   rw [JU,JN];simp
  rw [this];omega
def Sd {z:Int} {l:List Bz} (h:Zo z l=true):Ye l+4<=z:=by
 unfold Zo J1 at h;simp only [QU,QG] at h;have:=BD l.length l (Le _);omega
structure EndOk (itv:Int) (m:Nat) (s:Int×List Bz×Int) (prev:Option Bz):Prop where
 ci0:0<=s.1
 ci1:s.1<=m
 sp:s.2.2=Ye s.2.1
 sp0:0<=s.2.2
 sp1:s.2.2<=1000
 no:prev=none->s.1=0
 last:∀ q,prev=some q->∃ off:Int,0<=off/\off<itv/\off<s.2.2/\1<=s.1/\q=V8 (s.1*itv+off)
def OI (itv:Int):EndOk itv 0 (0,[],0) none:=⟨XI _,XI _,rfl,XI _,Ac,fun _=>rfl,fun q h=>by cases h⟩
def Gy {a b:Int} (c:0<=a) (d:a<=2000) (hz:b=128\/b=256\/b=512):0<=a*b/\a*b<=1024000:=by
 rcases hz with rfl|rfl|rfl<;>omega
def Sn {d:DSet} {m:Nat} {s:Int×List Bz×Int} {c:Option Bz} {r:Bz} (h:EndOk d.itv m s c) (hz:d.itv=128\/d.itv=256\/d.itv=512) (z:m<=1100) (u:1<=r.size) (y:r.size<=200):
  EndOk d.itv (m+1) (Vp d r s.1 s.2.1 s.2.2).2 (some (Vp d r s.1 s.2.1 s.2.2).1)/\∀ q,c=some q->Un q (Vp d r s.1 s.2.1 s.2.2).1=true:=by
 obtain ⟨c1,c2,c3,c4,c5,v,g⟩:=h;obtain ⟨b,o,f⟩:=s;simp only at c1 c2 c3 c4 c5 v g ⊢;have x:=Gy c1 Oo hz;have l:IntKind.i64.wrap (b*d.itv)=b*d.itv:=QL _ Oo;have w:IntKind.i64.wrap (b*d.itv+f)=b*d.itv+f:=QL _ Oo;have n:IntKind.i64.wrap (b+1)=b+1:=QL _ Oo;have j:(b+1)*d.itv=b*d.itv+d.itv:=by rw [JN,Int.one_mul]
 have k:IntKind.i64.wrap ((b+1)*d.itv)=b*d.itv+d.itv:=by rw [j];exact QL _ Oo
 have p:IntKind.i64.wrap (f+(r.size:Int))=f+r.size:=QL _ Oo;unfold Vp;by_cases i:0<b/\Zo d.itv (o++[r])=true
 .rw [QK i];simp only [l,w,p];have t:=Sd i.2;rw [Zz,<-c3] at t;refine ⟨⟨c1,Oo,by rw [Zz,<-c3],Ay,Ay,fun e=>(by cases e),fun q a=>?_⟩,fun q a=>?_⟩
  .injection a with a
   exact ⟨f,c4,Oo,Ay,Ay,a.symm⟩
  .obtain ⟨off,o1,o2,o3,o4,rfl⟩:=g q a;exact Gh Oo Oo Oo
 .rw [QX i];simp only [n,k];refine ⟨⟨Ay,Ay,by simp [Ye],Ay,Ay,fun e=>(by cases e),fun q a=>?_⟩,fun q a=>?_⟩
  .injection a with a
   refine ⟨0,XI _,Oo,Ay,Ay,?_⟩;simp only;rw [<-a,j,Int.add_zero]
  .obtain ⟨off,o1,o2,o3,o4,rfl⟩:=g q a;exact Gh Oo Oo Oo
def Cf (d:DSet) (g:d.org=1) (hz:d.itv=128\/d.itv=256\/d.itv=512) (F:d.len<=200):∀ (c:List Pr) (b:Option Bz) (j m:Nat) (s:Int×List Bz×Int),EndOk d.itv m s b->m+c.length<=1100->fvL d b j s c=true ->
  ∃ a,EndOk d.itv (m+c.length) (MG d s c) a/\(c=[]->a=b)/\∀ p∈c,∃ q,a=some q/\(p.key=q\/Un p.key q=true)
 | [],b,j,m,s,h,_,_=>⟨b,h,fun _=>rfl,fun p E=>by cases E⟩
 |p::r,b,j,m,s,h,hm,hv=>by
  have k:=(Py d (p::r) b j s hv).1;unfold fvL at hv;simp only [QU] at hv;obtain ⟨⟨⟨l,G⟩,i⟩,v⟩:=hv
  have z:1<=p.rcd.size/\p.rcd.size<=200:=by
   unfold Ue at l;rw [QX Oo,QX Oo,QK g] at l;simp only [QU,QG] at l;omega
  have B:(Vp d p.rcd s.1 s.2.1 s.2.2).1=p.key:=by
   unfold Vv at i;rw [QX Oo,QK g] at i;exact Xs i
  have he:I8 d s p=(Vp d p.rcd s.1 s.2.1 s.2.2).2:=by unfold I8;rw [QK g]
  have hn:=(Sn h hz (by simp at hm;omega) z.1 z.2).1;rw [B] at hn;rw [he] at v;obtain ⟨a,A,C,w⟩:=Cf d g hz F r (some p.key) (j+1) (m+1) _ hn (by simp at hm ⊢;omega) v;have f:m+(p::r).length=m+1+r.length:=As
  rw [f];refine ⟨a,A,fun e=>(by cases e),fun x n=>?_⟩;rcases QH.1 n with rfl|n
  .cases r with
   |nil=>exact ⟨x.key,C rfl,.inl rfl⟩
   |cons y t=>
    obtain ⟨q,D,o⟩:=w y QP;refine ⟨q,D,.inr ?_⟩;have u:=(Lb k).2 y QP;rcases o with rfl|o
    .exact u
    .exact Iw u o
  .exact w x n
def zF {l:List Pr} {x:Pr} (h:Srt l) (e:∀ p∈l,Un p.key x.key=true):Srt (l++[x]):=
 VJ.2 ⟨h,List.pairwise_singleton _ _,fun a d b c=>by rw [QT] at c;subst c;exact e a d⟩
def vI (d:DSet) (e:d.org=0):∀ (c:List Pr) (a:Option Bz) (j:Nat) (s:Int×List Bz×Int),fvL d a j s c=true->∀ (i:Nat) (p:Pr),c[i]? =some p->p.key=V8 ((j+i:Nat)+1)
 | [],a,j,s,_,i,p,hp=>by simp at hp
 |q::r,a,j,s,hv,i,p,hp=>by
  unfold fvL at hv;simp only [QU] at hv;obtain ⟨⟨⟨h,g⟩,b⟩,f⟩:=hv;cases i with
  |zero=>
   simp at hp;subst hp;unfold Vv at b;rw [QK e] at b;exact (Xs b).symm
  |succ i=>
   rw [Gn] at hp;rw [vI d e r (some q.key) (j+1) _ f i p hp];congr 2;omega
def qQ {d:DSet} {I:Int} {f l:List Pr} {c:Chg} (m:Vi d I f=true) (h:N1 d f c=.inr l):Srt l:=by
 have F:=Ce m;unfold Vi at m;simp only [QU,QG] at m;obtain ⟨⟨⟨⟨b,E⟩,x⟩,g⟩,j⟩:=m
 have u:f.length<=1024:=by
  unfold Y9 at g;simp only [QU,XN,JZ,KJ] at g;omega
 unfold N1 at h;split at h
 .cases h
 .rename_i eB;split at h
  .rename_i bP;injection h with h
   subst h;refine zF F fun p v=>?_
   show Un p.key (G4 d f c.rcd)=true;have B:d.org≠2:=by intro e;apply eB;unfold Xd;simp [e]
   have z:d.org≠3:=by intro e;apply eB;unfold Xd;simp [e]
   unfold G4;by_cases k:d.org=1
   .rw [QK k];unfold Zq at b;simp only [QU] at b;have a:=b.2;rw [QX Oo] at a;unfold Yd EF at a;simp only [QU] at a;obtain ⟨⟨⟨⟨s,K⟩,A⟩,L⟩,_⟩:=a
    have hz:d.itv=128\/d.itv=256\/d.itv=512:=by
     unfold Xf at s;simp only [XU,QG] at s;omega
    have J:=(winB_true.1 A).2;unfold Ue at bP;rw [QX z,QX B,QK k] at bP;simp only [QU,QG] at bP;obtain ⟨n,H,_,D⟩:=Cf d k hz Oo f none 0 0 (0,[],0) (OI _) Oo j;have hn:=(Sn H hz Oo (r:=c.rcd) Oo Oo).2;obtain ⟨q,C,o⟩:=D p v;have t:=hn q C;rcases o with rfl|o
    .exact t
    .exact Iw o t
   .rw [QX k]
    have y:d.org=0:=by
     unfold Zq at b;simp only [QU] at b;have a:=b.2;by_cases e:d.org=0
     .exact e
     .rw [QX e] at a;unfold Yd EF at a;simp only [QU] at a;have:=winB_true.1 a.1.1.1.2;omega
    obtain ⟨i,w⟩:=ZA v;have G:=(QZ.1 w).1;rw [vI d y f none 0 _ j i p w];exact Gh Oo Oo Oo
  .cases h
section
variable {n:Int} {d:DSet} {l:List Pr} {s:Int×List Bz×Int} {r:Bz}
def Yz (s:Bz):Nat->Int->Int
 |0,n=>n
 |f+1,n=>Yz s f (n*256+(bAt s (7-f):Int))
def Fb (s:Bz) (i:Nat):bAt s i<256:=by
 unfold bAt;split
 .exact UInt8.toNat_lt _
 .decide
def rb {b:Nat} (g:0<=n) (i:n<72057594037927936) (j:b<256):bits .or .u64 (IntKind.u64.wrap (n*256)) (IntKind.u64.wrap (b:Int))=n*256+b:=by
 have hw:∀ x:Int,0<=x->x<18446744073709551616->IntKind.u64.wrap x=x:=fun x a b=>by rw [YU];omega
 rw [hw _ Oo Oo,hw _ Oo Oo];obtain ⟨m,rfl⟩:=JM g;have c:=(bits_nat .u64 64 Ac wraps_u64 (m*256) b As As).2;have h:=(bits_nat .u64 64 Ac wraps_u64 b (m*256) As As).2;rw [Nat.or_comm,<-h] at c;have e:=Go.u64_or8 (b:Int) ((m*256:Nat):Int) Oo Oo Oo Oo Oo;rw [e] at c;have f:((m*256:Nat):Int)=(m:Int)*256:=Oo
 rw [f] at c;rw [c];omega
def xG (s:Bz):∀ (f:Nat) (n:Int),0<=n->n<256 ^ (8-f)->f<=8->Po s f n=Yz s f n
 |0,_,_,_,_=>rfl
 |f+1,n,h0,h1,hf=>by
  have b:n<72057594037927936:=by
   refine Int.lt_of_lt_of_le h1 ?_;have:f=0\/f=1\/f=2\/f=3\/f=4\/f=5\/f=6\/f=7:=Oo
   rcases this with rfl|rfl|rfl|rfl|rfl|rfl|rfl|rfl<;>decide
  have c:=Fb s (7-f);unfold Po Yz;rw [rb h0 b c];refine xG s f _ Oo ?_ Oo
  have a:(256:Int) ^ (8-f)=256 ^ (8-(f+1))*256:=by
   rw [<-IV];congr 1;omega
  rw [a];omega
def Gv (s:Bz):Uc s=if s.size≠8 then (0,false) else if 1099511627776<Yz s 8 0 then (0,false) else (Yz s 8 0,true):=by
 unfold Uc;rw [xG s 8 0 (XI _) Ac (Le _)]
def Qr (f:0<=n) (e:n<=1099511627776):Uc (V8 n)=(n,true):=by
 have hw:Uo n 0 1099511627776=true:=by simp [Uo,f,e]
 have a:∀ i,i<8->(bAt (V8 n) i:Int)=nb8 n (7-i):=fun i g=>by
  have c:=Uv n (7-i);unfold V8;rw [QK hw,<-UV (b:=strOfNums (Zk n)),G3 (Zk n) _ i (nb8 n (7-i)) ?_ c.1 c.2]
  .omega
  .unfold Zk;rw [YK,List.getElem?_range g];rfl
 have hz:(V8 n).size=8:=by
  unfold V8;rw [QK hw,WD];simp [Zk]
 have hn:Yz (V8 n) 8 0=n:=by
  simp only [Yz,Nat.reduceSub];rw [a 0 Oo,a 1 Oo,a 2 Oo,a 3 Oo,a 4 Oo,a 5 Oo,a 6 Oo,a 7 Oo];simp only [nb8,Nat.reduceSub,Nat.reduceMul,Int.reducePow];omega
 rw [Gv,QX Oo,hn,QX Oo]
def onP (d:DSet) (a:Int) (l:List Pr):List Bz:=(l.filter fun p=>decide ((Uc p.key).1 / d.itv=a)).map (·.rcd)
def N2 (d:DSet) (l:List Pr) (r:Bz):Bz:=match l.getLast? with
 |none=>V8 d.itv
 |some q=>if Zo d.itv (onP d ((Uc q.key).1 / d.itv) l++[r])=true then V8 ((Uc q.key).1 / d.itv*d.itv+Ye (onP d ((Uc q.key).1 / d.itv) l)) else V8 (((Uc q.key).1 / d.itv+1)*d.itv)
structure AdrI (d:DSet) (l:List Pr) (s:Int×List Bz×Int):Prop where
 ci0:0<=s.1
 ci1:s.1<=l.length
 sp:s.2.2=Ye s.2.1
 sp0:0<=s.2.2
 sp1:s.2.2<=1000
 lo:∀ p∈l,(Uc p.key).1 / d.itv<=s.1
 nil:l=[]->s.1=0
 last:∀ q,l.getLast? =some q->(Uc q.key).1 / d.itv=s.1/\0<s.1
 on:0<s.1->onP d s.1 l=s.2.1
def AdrI.start (d:DSet):AdrI d [] (0,[],0):=⟨XI _,XI _,rfl,XI _,Ac,fun p h=>(by cases h),fun _=>rfl,fun q h=>(by cases h),fun h=>absurd h Ac⟩
def LW (d:DSet) (a:Int) (l:List Pr) (q:Pr):onP d a (l++[q])=if (Uc q.key).1 / d.itv=a then onP d a l++[q.rcd] else onP d a l:=by
 unfold onP;rw [List.filter_append,XM];by_cases h:(Uc q.key).1 / d.itv=a
 .rw [QK h];simp [h]
 .rw [QX h];simp [h]
def xD {a:Int} (h:∀ p∈l,(Uc p.key).1 / d.itv<a):onP d a l=[]:=by
 unfold onP;rw [List.map_eq_nil_iff,List.filter_eq_nil_iff];intro p b;have:=h p b;simp only [QG];omega
def CG (h:AdrI d l s) (hz:d.itv=128\/d.itv=256\/d.itv=512) (A:l.length<=1100):N2 d l r=(Vp d r s.1 s.2.1 s.2.2).1:=by
 obtain ⟨c1,c2,c3,c4,c5,x,j,g,i⟩:=h;obtain ⟨a,w,m⟩:=s;simp only at c1 c2 c3 c4 c5 x j g i ⊢;have z:=Gy c1 Oo hz;have u:IntKind.i64.wrap (a*d.itv)=a*d.itv:=QL _ Oo;have y:IntKind.i64.wrap (a*d.itv+m)=a*d.itv+m:=QL _ Oo;have v:IntKind.i64.wrap (a+1)=a+1:=QL _ Oo;have o:(a+1)*d.itv=a*d.itv+d.itv:=by rw [JN,Int.one_mul]
 have t:IntKind.i64.wrap ((a+1)*d.itv)=a*d.itv+d.itv:=by rw [o];exact QL _ Oo
 unfold Vp;by_cases f:0<a/\Zo d.itv (w++[r])=true
 .rw [QK f];simp only [u,y];have p:l≠[]:=fun e=>by have:=j e;omega
  unfold N2;obtain ⟨q,b⟩:∃ q,l.getLast? =some q:=⟨l.getLast p,List.getLast?_eq_some_getLast p⟩
  rw [b];simp only;rw [(g q b).1,i f.1,QK f.2,<-c3]
 .rw [QX f];simp only [v,t];unfold N2;cases b:l.getLast? with
  |none=>
   have c:l=[]:=List.getLast?_eq_none_iff.1 b;have:a=0:=j c;subst this;simp
  |some q=>
   have k:=g q b;simp only;rw [k.1,i k.2,QX (fun h=>f ⟨k.2,h⟩),o]
def T3 (h:AdrI d l s) (hz:d.itv=128\/d.itv=256\/d.itv=512) (M:l.length<=1100) (L:r.size<=200):
  AdrI d (l++[⟨(Vp d r s.1 s.2.1 s.2.2).1,r⟩]) (Vp d r s.1 s.2.1 s.2.2).2:=by
 obtain ⟨c1,c2,c3,c4,c5,w,F,D,y⟩:=h;obtain ⟨a,E,m⟩:=s;simp only at c1 c2 c3 c4 c5 w F D y ⊢;have g:=Gy c1 Oo hz;have B:IntKind.i64.wrap (a*d.itv)=a*d.itv:=QL _ Oo;have K:IntKind.i64.wrap (a*d.itv+m)=a*d.itv+m:=QL _ Oo;have C:IntKind.i64.wrap (a+1)=a+1:=QL _ Oo;have I:(a+1)*d.itv=a*d.itv+d.itv:=by rw [JN,Int.one_mul]
 have A:IntKind.i64.wrap ((a+1)*d.itv)=a*d.itv+d.itv:=by rw [I];exact QL _ Oo
 have H:IntKind.i64.wrap (m+(r.size:Int))=m+r.size:=QL _ Oo;have f:∀ k:Bz,(l++[(⟨k,r⟩:Pr)]).length=l.length+1:=fun k=>Am
 have i:∀ (c o:Int),0<=o->o<d.itv->(c*d.itv+o) / d.itv=c:=fun c o z v=>by
  rw [Int.add_comm,Int.add_mul_ediv_right _ _ Oo,Int.ediv_eq_zero_of_lt z v];omega
 have u:∀ (c:Int) (k:Bz),a<=c->(Uc k).1 / d.itv=c->∀ p∈l++[(⟨k,r⟩:Pr)],(Uc p.key).1 / d.itv<=c:=fun c k z v p g=>by
  rcases QC.1 g with g|g
  .have:=w p g;omega
  .rw [QT.1 g];exact Int.le_of_eq v
 have x:∀ (k:Bz),(l++[(⟨k,r⟩:Pr)]).getLast? =some ⟨k,r⟩:=fun k=>Am
 unfold Vp;by_cases t:0<a/\Zo d.itv (E++[r])=true
 .rw [QK t];simp only [B,K,H];have J:=Sd t.2;rw [Zz,<-c3] at J;have j:(Uc (V8 (a*d.itv+m))).1 / d.itv=a:=by rw [Qr Oo Oo];exact i a m c4 Oo
  refine ⟨c1,by rw [f];simp only;omega,by rw [Zz,<-c3],Ay,Ay,u a _ (XI _) j,fun e=>by simp at e,fun q b=>?_,fun _=>?_⟩
  .rw [x] at b;injection b with b
   rw [<-b];exact ⟨j,t.1⟩
  .rw [LW,QK j,y t.1]
 .rw [QX t];simp only [C,A];have G:a*d.itv+d.itv=(a+1)*d.itv+0:=Oo
  have j:(Uc (V8 (a*d.itv+d.itv))).1 / d.itv=a+1:=by rw [Qr Oo Oo,G];exact i (a+1) 0 (XI _) Oo
  refine ⟨Ay,by rw [f];simp only;omega,by simp [Ye],Ay,Ay,u (a+1) _ Oo j,fun e=>by simp at e,fun q b=>?_,fun _=>?_⟩
  .rw [x] at b;injection b with b
   rw [<-b];exact ⟨j,Ay⟩
  .rw [LW,QK j,xD (fun p g=>by have:=w p g;omega)];rfl
def CH (d:DSet) (e:d.org=1) (hz:d.itv=128\/d.itv=256\/d.itv=512) (m:d.len<=200):∀ (c a:List Pr) (b:Option Bz) (j:Nat) (s:Int×List Bz×Int),AdrI d a s->a.length+c.length<=1100->fvL d b j s c=true ->
  AdrI d (a++c) (MG d s c)
 | [],a,b,j,s,h,_,_=>by rw [UI];exact h
 |p::r,a,b,j,s,h,hm,hv=>by
  unfold fvL at hv;simp only [QU] at hv;obtain ⟨⟨⟨g,q⟩,f⟩,i⟩:=hv
  have o:p.rcd.size<=200:=by
   unfold Ue at g;rw [QX Oo,QX Oo,QK e] at g;simp only [QU,QG] at g;omega
  have k:(Vp d p.rcd s.1 s.2.1 s.2.2).1=p.key:=by
   unfold Vv at f;rw [QX Oo,QK e] at f;exact Xs f
  have he:I8 d s p=(Vp d p.rcd s.1 s.2.1 s.2.2).2:=by unfold I8;rw [QK e]
  have hn:=T3 (r:=p.rcd) h hz (by simp at hm;omega) o;rw [k] at hn;rw [he] at i;have:=CH d e hz m r (a++[p]) (some p.key) (j+1) _ hn (by simp at hm ⊢;omega) i;rw [ZO] at this;exact this
end
section
variable {k:Bz} {d:DSet} {ap:Int} {ps:List Pr} {n:Int}
def J5 (d:DSet) (l:List Pr) (r:Bz):Bz:=if d.org=0 then V8 ((l.length:Int)+1) else N2 d l r
def Ys (d:DSet) (l:List Pr) (c:Chg):Int ⊕ List Pr:=
 if c.kind=0 then (if Xd d=false then .inl 7 else if Y0 d c.key=false then .inl 2 else .inr (Ky l c.key c.rcd))
 else if c.kind=1 then (if Xd d=false then .inl 7 else if Y0 d c.key=false then .inl 2 else .inr (AA l c.key))
 else if c.kind=2 then (if Xd d=true then .inl 7 else .inr (l++[⟨J5 d l c.rcd,c.rcd⟩]))
 else if c.kind=3 then .inr []
 else .inr l
def doR (x:PC) (n:Int) (c:Chg):Int ⊕ PC:=
 if Vi x.d x.ap x.ps&&chB c.kind c.id c.key c.rcd c.vol&&decide (1<=n)&&decide (n<=1099511627776) then
  (if ¬ (c.id=x.d.id)\/n<=x.ap then .inr x
   else match Ys x.d x.ps c with
   |.inl e=>.inl e
   |.inr l=>if Vi x.d n l=true then .inr ⟨x.d,n,l⟩ else .inl 2)
 else .inl 1
def Ze (d:DSet):∀ (ps:List Pr) (a:Option Bz) (j:Nat) (s:Int×List Bz×Int),fvL d a j s ps=true->∀ p∈ps,Ue d p=true
 | [],_,_,_,_,p,b=>by cases b
 |q::r,a,j,s,h,p,b=>by
  unfold fvL at h;simp only [QU] at h;rcases QH.1 b with rfl|b
  .exact h.1.1.1
  .exact Ze d r _ _ _ h.2 p b
def BJ {a:Option Bz} (h:∀ q,a=some q->Un q k=true):Ni a k=true:=by
 cases a with
 |none=>rfl
 |some q=>exact h q rfl
def vJ (c:d.org=2\/d.org=3):∀ (ps:List Pr) (a:Option Bz) (j:Nat) (s:Int×List Bz×Int),(∀ p∈ps,Ue d p=true)->Srt ps->(∀ q,a=some q->∀ p∈ps,Un q p.key=true)->fvL d a j s ps=true
 | [],_,_,_,_,_,_=>rfl
 |p::r,a,j,s,ha,hs,hp=>by
  obtain ⟨g,f⟩:=Lb hs
  have e:Vv d j s p=true:=by
   unfold Vv;rw [QX Oo,QX Oo]
  unfold fvL;rw [ha p QP,BJ fun q b=>hp q b p QP,e];exact vJ c r (some p.key) (j+1) _ (fun q b=>ha q (QN _ b)) g fun q b x h=>by injection b with b;rw [<-b];exact f x h
def Ms (d:DSet) (s:Int×List Bz×Int) (ps:List Pr):Int×List Bz×Int:=if d.org=1 then MG d s ps else s
def rW (d:DSet) (x:Pr) (m:Ue d x=true):∀ (ps:List Pr) (a:Option Bz) (j:Nat) (s:Int×List Bz×Int),fvL d a j s ps=true->(∀ p∈ps,Un p.key x.key=true)->(∀ q,a=some q->Un q x.key=true) ->
  Vv d (j+ps.length) (Ms d s ps) x=true->fvL d a j s (ps++[x])=true:=by
 intro ps;induction ps with
 |nil=>
  intro a j s _ _ f c
  have i:Vv d j s x=true:=by
   have e:Ms d s []=s:=by unfold Ms;split<;>rfl
   rw [XS,QF,e] at c;exact c
  rw [YN];unfold fvL;rw [m,BJ f,i];rfl
 |cons p r t=>
  intro a j s h g f c;unfold fvL at h;simp only [QU] at h;rw [KE];unfold fvL;rw [h.1.1.1,h.1.1.2,h.1.2];refine t (some p.key) (j+1) (I8 d s p) h.2 (fun q b=>g q (QN _ b)) (fun q b=>by injection b with b;rw [<-b];exact g p QP) ?_;have o:j+1+r.length=j+(p::r).length:=As
  have l:Ms d (I8 d s p) r=Ms d s (p::r):=by
   unfold Ms I8;split<;>rfl
  rw [o,l];exact c
def Pq:∀ (l:List Pr) (k r:Bz),(⟨k,r⟩:Pr)∈Ky l k r/\(Ky l k r).length<=l.length+1/\∀ q∈Ky l k r,q=⟨k,r⟩\/q∈l
 | [],k,r=>⟨QP,Le _,fun q a=>.inl (QT.1 a)⟩
 |p::t,k,r=>by
  obtain ⟨b,e,c⟩:=Pq t k r;unfold Ky;split
  .refine ⟨QN _ b,As,fun q a=>?_⟩;rcases QH.1 a with rfl|a
   .exact .inr QP
   .exact (c q a).imp id (QN _)
  .split
   .refine ⟨QP,Am,fun q a=>?_⟩;rcases QH.1 a with rfl|a
    .exact .inl rfl
    .exact .inr (QN _ a)
   .exact ⟨QP,Am,fun q a=>QH.1 a⟩
structure FwP' (d:DSet) (ap:Int) (ps:List Pr):Prop where
 de:Zq d=true
 a0:0<=ap
 a1:ap<=1099511627776
 ar:Y9 d ap ps=true
 fv:fvL d none 0 (0,[],0) ps=true
def fwd_parts:Vi d ap ps=true<->FwP' d ap ps:=by
 unfold Vi;simp only [QU,QG];exact ⟨fun h=>⟨h.1.1.1.1,h.1.1.1.2,h.1.1.2,h.1.2,h.2⟩,fun h=>⟨⟨⟨⟨h.de,h.a0⟩,h.a1⟩,h.ar⟩,h.fv⟩⟩
def uB {l:List Pr} (h:Y9 d ap ps=true) (c:0<=n) (e:n<=1099511627776) (D:l.length<=1024) (m:∀ p∈l,p∈ps\/(p.key.size<=32/\p.rcd.size<=1000)):Y9 d n l=true:=by
 unfold Y9 at h ⊢;simp only [QU,XN,JZ,KJ,YC] at h ⊢;obtain ⟨⟨a,o,B⟩,s⟩:=h;refine ⟨⟨?_,o,Oo⟩,?_⟩
 .intro x hx;unfold arL at a hx;simp only [QH,QM,XP,WR,YR] at a hx;have hn:¬ Kg n=true:=by simp [Kg,In,c,e]
  obtain ⟨F,v,y,H,E,u,C,A,z,i,q,f,r,j,t,b,g,_⟩:=a;rcases hx with rfl|rfl|rfl|rfl|rfl|rfl|rfl|rfl|rfl|rfl|rfl|rfl|rfl|rfl|rfl|rfl|rfl|rfl<;>assumption
 .intro p hp;rcases m p hp with h|⟨w,G⟩
  .exact s p h
  .unfold IG;simp only [XU,QG];omega
def rh {r:Bz} (h:ofF d r=(k,0)) (a:Yd d=true) (c:d.org=3):(k.size:Int)=d.kln:=by
 have e:=Mb a c;unfold ofF at h;split at h
 .cases h
 .split at h
  .cases h
  .split at h
   .cases h
   .rename_i _ _ hw;have b:Uo r.size (d.kat+d.kln) d.len=true:=by simpa using hw
    rw [winB_true] at b;injection h with h _
    rw [<-h];simp only [XZ];omega
def Bd {p:Pr} (a:Zq d=true) (e:Xd d=true) (h:Ue d p=true):Y0 d p.key=true:=by
 unfold Xd at e;simp only [XU,QG] at e;unfold Ue at h;unfold Y0
 have c:Yd d=true:=by
  unfold Zq at a;simp only [QU] at a;have:=a.2;rw [QX Oo] at this;exact this
 by_cases b:d.org=3
 .rw [QK b] at h ⊢;simp only [QU,YT] at h ⊢;have f:ofF d p.rcd=(p.key,0):=Prod.ext (Xs (by simpa using h.2)) h.1;exact rh f c b
 .rw [QX b] at h ⊢;rw [QK Oo] at h;simp only [QU] at h;exact h.1
def We (d:DSet) (r:Bz) (b:Int) (rs:List Bz) (a:Int):(Vp d r b rs a).1.size<=8:=by
 unfold Vp;split<;>exact Lg _
def pB {x:PC} {c:Chg} (R:x.ps.length<=1000):doR x n c=doF x n c:=by
 unfold doR doF;split
 .rename_i hc;simp only [QU,QG] at hc;obtain ⟨⟨⟨E,h⟩,Q⟩,J⟩:=hc;unfold doP;split
  .rfl
  .have HV:=fwd_parts.1 E;have I:=Ce E;have i:∀ l:List Pr,l.length<=1001->(∀ p∈l,p∈x.ps\/(p.key.size<=32/\p.rcd.size<=1000))->fvL x.d none 0 (0,[],0) l=true->Vi x.d n l=true:=fun l r K M=>fwd_parts.2 ⟨HV.de,Oo,J,uB HV.ar Oo J Oo K,M⟩
   unfold Ys Jh;by_cases u:c.kind=0
   .rw [QK u,QK u];unfold DJ
    have A:c.key.size<=32/\c.rcd.size<=200:=by
     unfold chB Ie Ml at h;rw [QK u] at h;simp only [QU,QG] at h;omega
    by_cases b:Xd x.d=false
    .rw [QK b,QK b]
    .rw [QX b,QX b];have g:Xd x.d=true:=by simpa using b
     have s:x.d.org=2\/x.d.org=3:=by
      unfold Xd at g;simp only [XU,QG] at g;omega
     rw [<-apply_ite Sum.inr,TT];obtain ⟨L,P,F⟩:=Pq x.ps c.key c.rcd;by_cases o:Ue x.d ⟨c.key,c.rcd⟩=false
     .rw [QK o];by_cases a:Y0 x.d c.key=false
      .rw [QK a]
      .rw [QX a];simp only;rw [QX];intro D;have:=Ze _ _ _ _ _ (fwd_parts.1 D).fv _ L;rw [o] at this;cases this
     .have ha2:Ue x.d ⟨c.key,c.rcd⟩=true:=by simpa using o
      rw [QX o,Bd HV.de g ha2,QX Ac];simp only;rw [QK,QX Oo];refine i (Ky x.ps c.key c.rcd) Oo (fun p a=>(F p a).symm.imp id fun e=>by rw [e];exact ⟨A.1,Lx A.2 Ac⟩) (vJ s _ _ _ _ (fun p a=>?_) (Bv _ _ _ I) fun q w=>(by cases w));rcases F p a with rfl|a
      .exact ha2
      .exact Ze _ _ _ _ _ HV.fv p a
   .rw [QX u,QX u];by_cases v:c.kind=1
    .rw [QK v,QK v];unfold OH;by_cases b:Xd x.d=false
     .rw [QK b,QK b]
     .rw [QX b,QX b]
      have s:x.d.org=2\/x.d.org=3:=by
       have g:Xd x.d=true:=by simpa using b
       unfold Xd at g;simp only [XU,QG] at g;omega
      rw [<-apply_ite Sum.inr,Al];by_cases a:Y0 x.d c.key=false
      .rw [QK a]
      .rw [QX a];have j:=FT x.ps c.key;have O:=j.length_le;simp only;rw [QK,QX Oo];exact i _ Oo (fun p a=>.inl (j.subset a)) (vJ s _ _ _ _ (fun p a=>Ze _ _ _ _ _ HV.fv p (j.subset a)) (tH _ _ I) fun q w=>(by cases w))
    .rw [QX v,QX v];by_cases z:c.kind=2
     .rw [QK z,QK z];by_cases b:Xd x.d=true
      .unfold N1;rw [QK b,QK b]
      .have A:c.rcd.size<=1000:=by
        unfold chB Ie Ml at h;rw [QX u,QX v,QK z] at h;simp only [QU,QG] at h;omega
       have f:=HV.de;unfold Zq at f;simp only [QU] at f
       have N:x.d.org≠2/\x.d.org≠3:=by
        unfold Xd at b;simp only [XU,QG] at b;omega
       have m:J5 x.d x.ps c.rcd=G4 x.d x.ps c.rcd:=by
        unfold J5 G4;by_cases t:x.d.org=0
        .rw [QK t,QX Oo]
        .have hkb:=f.2;rw [QX t] at hkb;unfold Yd EF Xf at hkb;simp only [QU,XU,QG,winB_true] at hkb;have r:x.d.org=1:=Oo
         rw [QX t,QK r];have H:=CH x.d r Oo Oo x.ps [] none 0 (0,[],0) (AdrI.start _) As HV.fv;rw [YN] at H;exact CG H Oo Oo
       have y:N1 x.d x.ps c=if Ue x.d ⟨G4 x.d x.ps c.rcd,c.rcd⟩=true then .inr (x.ps++[⟨G4 x.d x.ps c.rcd,c.rcd⟩]) else .inl 2:=by
        unfold N1;rw [QX b]
       rw [QX b,m];by_cases o:Ue x.d ⟨G4 x.d x.ps c.rcd,c.rcd⟩=true
       .rw [QK o] at y;have B:=qQ E y;rw [y];simp only;rw [QK,QX As]
        have C:(G4 x.d x.ps c.rcd).size<=32:=by
         unfold G4;split
         .exact Lx (We _ _ _ _ _) Ac
         .exact Lx (Lg _) Ac
        refine i _ As (fun p a=>?_) (rW _ _ o _ _ _ _ HV.fv (fun p a=>?_) (fun q w=>(by cases w)) ?_)
        .rcases QC.1 a with a|a
         .exact .inl a
         .rw [QT.1 a];exact .inr ⟨C,A⟩
        .exact (VJ.1 B).2.2 p a _ (QT.2 rfl)
        .unfold Vv Ms G4;by_cases t:x.d.org=0
         .rw [QK t,QX Oo];simp
         .rw [QX t];by_cases r:x.d.org=1
          .rw [QK r,QK r,QK r];simp
          .rw [QX r]
       .rw [QX o] at y;rw [y];simp only;rw [QX];intro D;exact o (Ze _ _ _ _ _ (fwd_parts.1 D).fv _ (KC _ (QT.2 rfl)))
     .rw [QX z,QX z];by_cases G:c.kind=3
      .rw [QK G];simp only;rw [QK (i [] Am (fun p a=>(by cases a)) rfl),QX Am]
      .rw [QX G];simp only;rw [QK (i x.ps Oo (fun p a=>.inl a) HV.fv),QX Oo]
 .rfl
end
def qn (k:Int) (h:k<0\/3<k):Instr.findNow (.int .i64) (.int .i64 k) ef4.toList 0=some none:=by
 have c:=MapKept.findNow_spec (d:=.int .i64) (k:=.int .i64 k) (by simp [MapKept.IsKey]) ef4.toList 0 (by simp [ef4,ef3,ef2,ef1,MapKept.IsKey]);rcases c with ⟨f,_⟩|⟨j,e,_,b,g⟩
 .exact f
 .exfalso;have a:=QJ b;simp [ef4,ef3,ef2,ef1] at a;rcases a with rfl|rfl|rfl|rfl<;>(simp at g;omega)
def efV (k:Int):Value:=if k=0 then (Ai 209) else if k=1 then (Ai 213) else if k=2 then (Ai 216) else (Ai 218)
def qm (k:Int) (b:0<=k) (a:k<=3):∃ i,Instr.findNow (.int .i64) (.int .i64 k) ef4.toList 0=some (some (i,efV k)):=by
 have:k=0\/k=1\/k=2\/k=3:=Oo
 rcases this with rfl|rfl|rfl|rfl
 .exact ⟨0,rfl⟩
 .exact ⟨1,rfl⟩
 .exact ⟨2,rfl⟩
 .exact ⟨3,rfl⟩
def kr {G:Prop} (h:G:=by
  have hc:(Instr.checkKey ef4.isEmpty 10000 3 (.int .i64 k)).run prog w=.ok () w:=YL (k:=.int .i64 k) underlying3 (by simp [MapKept.IsKey]) _ 9999;simp [Instr.lookup,WN underlying222,WV hb,hc,XE underlying3 hf]):G:=h
def Sq (w:Wd) (b:Nat) (k:Int) (hb:w.1[b]? =some (.map ef4 4)) (a:0<=k) (c:k<=3):
  (Instr.lookup 222 (.map (some b)) (.int .i64 k) true).run prog w=.ok (.tuple #[efV k,.bool true]) w:=by
 obtain ⟨i,hf⟩:=qm k a c;exact kr
def Sr (w:Wd) (b:Nat) (k:Int) (hb:w.1[b]? =some (.map ef4 4)) (h:k<0\/3<k):
  (Instr.lookup 222 (.map (some b)) (.int .i64 k) true).run prog w=.ok (.tuple #[.nilFunc,.bool false]) w:=by
 have hf:=qn k h;exact kr
structure DW (x:Cnt) (n:Int) (c:Chg) (w W:Wd):Prop where
 b1:Blk W w.1.size 37 (cnC x).toArray
 b2:Blk W (w.1.size+1) 108 (nbC n c).toArray
 b3:Blk W (w.1.size+2) 37 zV.toArray
 sz:w.1.size+3<=W.1.size
 be:Below w.1.size w W
def Vk {x:Cnt} {n:Int} {c:Chg} {w W W':Wd} (h:DW x n c w W) (a:Below W.1.size W W'):DW x n c w W':=
 ⟨h.b1.below a h.b1.lt,h.b2.below a h.b2.lt,h.b3.below a h.b3.lt,Lx h.sz a.size,U0 h.be a h.be.size⟩
def IB (x:Cnt) (n:Int) (c:Chg) (w:Wd):DW x n c w (((Aa w (cnC x).toArray 37).alloc (.cells (nbC n c).toArray 108)).alloc (.cells zV.toArray 37)):=
 ⟨((Blk.new w _ _).alloc _).alloc _,(U3 (w.alloc _) _ _ _ Am).alloc _,U3 ((w.alloc _).alloc _) _ _ _ Am,Am,(Aj.alloc Am _).alloc As _⟩
def kp {G:Prop} (h:G:=by
  clear h hi;go_in;go_wp2_with (first|((with_reducible refine Gl 37 2 ?_);refine Lq 37 w.1.size (cnC x).toArray HX.o.b1 underlying37 ?_)|((with_reducible refine Gt 37 4 ?_);refine Lv 37 (w.1.size+2) (cnC x).toArray HX.o.b3 iE.o ?_));have hr:=Us (((((Aa w (cnC x).toArray 37).alloc (.cells (nbC n c).toArray 108)).alloc (.cells zV.toArray 37))).setRow (w.1.size+2) (cnC x).toArray) (w.1.size+2) (cnC x).toArray (QR _ _ _ _ _ _ HX.o.b3) rfl;exact Br (v:=.tuple #[.agg (cnC x).toArray,.int .i64 0]) (U2 results110 rfl rfl hr) rfl ⟨rfl,Uf HX.o.be Oo _⟩):G:=h
def qp (x:Cnt) (n:Int) (c:Chg) (w:Wd) (h:¬ (c.id=x.d.id)\/n<=x.ap):
  Calls prog 110 #[.agg (cnC x).toArray,.agg (nbC n c).toArray] w (Ab w (.tuple #[.agg (cnC x).toArray,.int .i64 0])):=by
 have HX:=Hd (IB x n c w);have f:=HX.o.b2.ce 0 (.int .i64 n);have d:=HX.o.b2.ce 2 (.int .i64 c.id);have e:=HX.o.b1.ce 0 (.int .i64 x.d.id);have a:=HX.o.b1.ce 21 (.int .i64 x.ap);have iE:=Hd (Va x);unfold zV at f d e a;by_cases hi:c.id=x.d.id
 .have h2:n<=x.ap:=h.resolve_left (fun q=>q hi);have b:(c.id != x.d.id)=false:=by simpa using hi
  have g:decide (n<=x.ap)=true:=QQ h2;exact kp
 .have b:(c.id != x.d.id)=true:=by simpa using hi
  exact kp
section
variable {x:Cnt} {n:Int} {c:Chg} {w W:Wd}
def DoE (R:Int ⊕ List Pr) (x:Cnt) (n:Int) (w:Wd) (e:Ending) (w':Wd):Prop:=match R with
 |.inl er=>e=.returned (.tuple #[.agg zV.toArray,.int .i64 er])/\Below w.1.size w w'
 |.inr l=>(1024<l.length/\e=.returned (.tuple #[.agg zV.toArray,.int .i64 8])/\Below w.1.size w w')\/∃ A cc,l.length<=1024/\e=.returned (.tuple #[.agg (cnC ⟨x.d,n,A,l.length,cc,l⟩).toArray,.int .i64 0])/\CW w' ⟨x.d,n,A,l.length,cc,l⟩/\(∀ a,A=some a->w.1.size<=a.block)/\Below w.1.size w w'
def PI {B:Nat} {W':Wd} (h:DW x n c w W) (a:Below B W W') (b:w.1.size+3<=B):DW x n c w W':=
 ⟨h.b1.below a Oo,h.b2.below a Oo,h.b3.below a Oo,Lx h.sz a.size,h.be.trans (a.mono Oo)⟩
def Su (h:DW x n c w W):W.rangeAt w.1.size 0 (dC x.d):=h.b1.range 0 _ fun _ _ a=>mz a
def kZ {j:Nat} {v:Value} (h:(chC c)[j]? =some v):(nbC n c).toArray[1+j]? =some v:=by
 rw [Ga,UZ];exact h
def Km (h:DW x n c w W):W.rangeAt (w.1.size+1) 1 (chC c):=h.b2.range 1 _ fun _ _ a=>kZ a
def PJ (x:Cnt) (n:Int) (c:Chg) (w:Wd) (s:Nat) (R:Int ⊕ List Pr) (Q:CW w x) (hi:c.id=x.d.id) (hn:x.ap<n) (Y:0<=c.kind) (X:c.kind<=3) (I:efV c.kind=.func (.func s) #[] #[])
  (N:∀ C,R=.inl C->C≠0) (M:∀ l,R=.inr l->∀ q∈l,q.rcd.size<=maxLen)
  (z:∀ args W,(callFunc s args).run prog W=.ok (.enter s args) W)
  (hE:∀ W A cc base,Below w.1.size w W->W.ownsRow base 74 2 (.slice A x.pn cc) x.pn (eC x.ps)->base<=W.1.size->Calls prog s #[.agg (dC x.d).toArray,.slice A x.pn cc,.agg (chC c).toArray] W (uQ base R W)):
  Calls prog 110 #[.agg (cnC x).toArray,.agg (nbC n c).toArray] w (DoE R x n w):=by
 have B:=IB x n c w;have Z:=B.b2.ce 0 (.int .i64 n);have n2:=B.b2.ce 2 (.int .i64 c.id);have c0:=B.b1.ce 0 (.int .i64 x.d.id);have G:=B.b1.ce 21 (.int .i64 x.ap);have J:=B.b1.ce 22 (.slice x.pA x.pn x.pc);have iP:∀ W,Below w.1.size w W->Calls prog 28 #[.slice x.pA x.pn x.pc] W fun e w'=>∃ v,e=.returned v/\w'.ownsRow W.1.size 74 2 v x.pn (U7 prC x.ps)/\Below W.1.size W w':=fun W d=>F8 x.pA x.pn x.pc x.ps W (Q.sl.after d d.size) (by have:=Q.le;omega)
 have D:∀ W b,W.1[b]? =some (.map ef4 4)->(Instr.lookup 222 (.map (some b)) (.int .i64 c.kind) true).run prog W=.ok (.tuple #[.func (.func s) #[] #[],.bool true]) W:=fun W b d=>by rw [<-I];exact Sq W b c.kind d Y X
 have L:=Hd z;have e1:(c.id != x.d.id)=false:=by simpa using hi
 have e2:decide (n<=x.ap)=false:=QW Oo;unfold zV at Z n2 c0 G J;clear Q hi hn Y X I z;go_in;go_wp2_with (first|(go_at_call 28;apply (iP _ B.be).mono;rintro e o ⟨v,rfl,p,d⟩;have aJ:=Vk B d;obtain ⟨A2,U,rfl,_⟩:=U4 p;clear d Z n2 c0 G J)|fail);have t:DW x n c w o.drew:=Vk aJ (Bf _ _).drew;refine Rw (S:=fun w'=>DW x n c w w') Ak t (fun j=>?_);apply tk 1 (Ag (w.1.size+1) 1) j;apply tk 2 (Ag (w.1.size+1) 1) j;refine tj 3 (.int .i64 c.kind) j ?_ (y:=by intro w' aO;have h1:=aO.b2.ce 1 (.int .i64 c.kind);go_simp);apply Ar (rs:=[0]) Ak Am;refine Rc (fun K E=>?_) ?_
 .go_simp;apply (GR _).mono;rintro e w3 ⟨rfl,rfl⟩;simp only [];have d:=Mu o.drew;have aQ:=Vk t d;refine E.out _ _ (Vk j d) (fun j=>?_);clear E K d;try simp only [Act.put,Sv,Sz,Sw]
  apply Ar (rs:=[4]) Ak Am;refine Rc (fun K E=>?_) ?_
  .go_simp;have hl:=D (o.drew.alloc (.map ef4 4)) o.1.size (YH o.drew _);have eN:=D ((o.alloc (.map ef4 4)).drew) o.1.size (YH o _);go_simp;refine E.out _ _ j (fun j=>?_);clear E K hl eN;try simp only [Act.put,Sv,Sz,Sw]
   apply tk 5 (.tuple #[.func (.func s) #[] #[],.bool true]) j;apply tk 6 (.func (.func s) #[] #[]) j;apply tk 7 (.bool true) j;apply tk 8 (.func (.func s) #[] #[]) j;apply tk 9 (.bool true) j;refine Ad Ak ?_ _;clear j;have k:=aQ;have H:(((Aa w (cnC x).toArray 37).alloc (.cells (nbC n c).toArray 108)).alloc (.cells zV.toArray 37)).1.size=w.1.size+3:=Am
   have m:=hE (o.alloc (.map ef4 4)).drew A2 U _ k.be (p.alloc _) (by rw [H];exact k.sz);have z:=L.o;rw [H] at m;cases R with
   |inl C=>
    have e3:(C != 0)=true:=by simpa using (N C rfl)
    go_wp2_with (first|((with_reducible apply Gl 34 39);apply Ln 34 w.1.size (0) (dC x.d) (Su k) underlying34)|((with_reducible apply Gl 50 42);apply Ln 50 (w.1.size+1) (1) (chC c) (Km k) underlying50)|((with_reducible show Calls _ _ _ _ _);apply m.mono;rintro e F ⟨rfl,d⟩;have i:=PI k d (Le _);clear d)|((with_reducible apply Gb 37);apply U1 Ak 37 _ rfl zV.toArray Ak)|((with_reducible apply Gt 37 4);apply Lv 37 (w.1.size+2) zV.toArray i.b3 (by simp [zV,Value.oneCell'])));have P:=Us (F.setRow (w.1.size+2) zV.toArray) (w.1.size+2) zV.toArray (QR _ _ _ _ _ _ i.b3) rfl;exact Br (v:=.tuple #[.agg zV.toArray,.int .i64 C]) (U2 results110 rfl rfl P) rfl ⟨rfl,Uf i.be Oo _⟩
   |inr l=>
    by_cases r:1024<l.length
    .have e4:=QQ Oo;go_wp2_with (first|((with_reducible apply Gl 34 39);apply Ln 34 w.1.size (0) (dC x.d) (Su k) underlying34)|((with_reducible apply Gl 50 42);apply Ln 50 (w.1.size+1) (1) (chC c) (Km k) underlying50)|((with_reducible show Calls _ _ _ _ _);apply m.mono;rintro e F ⟨u,f,rfl,p,d⟩;have i:=PI k d (Le _);have O:=i.b2.ce 0 (.int .i64 n);clear d)|((with_reducible apply Gb 37);apply U1 Ak 37 _ rfl zV.toArray Ak)|((with_reducible apply Gt 37 4);apply Lv 37 (w.1.size+2) zV.toArray i.b3 (by simp [zV,Value.oneCell'])));have P:=Us (F.setRow (w.1.size+2) zV.toArray) (w.1.size+2) zV.toArray (QR _ _ _ _ _ _ i.b3) rfl
     exact Br (v:=.tuple #[.agg zV.toArray,.int .i64 8]) (U2 results110 rfl rfl P) rfl (.inl ⟨r,rfl,Uf i.be Oo _⟩)
    .have e4:=QW Oo;have V:l.length<=1024:=Oo
     clear r;go_wp2_with (first|((with_reducible apply Gl 34 39);apply Ln 34 w.1.size (0) (dC x.d) (Su k) underlying34)|((with_reducible apply Gl 50 42);apply Ln 50 (w.1.size+1) (1) (chC c) (Km k) underlying50)|((with_reducible show Calls _ _ _ _ _);apply m.mono;rintro e F ⟨u,f,rfl,p,d⟩;have i:=PI k d (Le _);have O:=i.b2.ce 0 (.int .i64 n);clear d)|((with_reducible apply Gl 34 55);apply Ln 34 w.1.size (0) (dC x.d) (Su i) underlying34)|((with_reducible apply Gb 37);apply U1 Ak 37 _ rfl (cnC ⟨x.d,n,u,l.length,f,l⟩).toArray Ak)|((with_reducible apply Gt 37 4);apply Lv 37 (w.1.size+2) (cnC ⟨x.d,n,u,l.length,f,l⟩).toArray i.b3 (Va _)))
     exact Br (v:=.tuple #[.agg (cnC ⟨x.d,n,u,l.length,f,l⟩).toArray,.int .i64 0]) (U2 results110 rfl rfl (Us (F.setRow (w.1.size+2) (cnC ⟨x.d,n,u,l.length,f,l⟩).toArray) (w.1.size+2) (cnC ⟨x.d,n,u,l.length,f,l⟩).toArray (QR _ _ _ _ _ _ i.b3) rfl)) rfl (.inr ⟨u,f,V,rfl,(⟨Io (P0 p) _ _ (fun a T=>by subst T;have:=(p.lt _ rfl).1;omega),V,fun h=>by subst h;rcases p.2 with ⟨e,_⟩|⟨g,cap,cur,e,_⟩<;>(injection e with e6 e7 e8)<;>(first|exact e8|cases e6),M l rfl⟩),(fun a T=>by subst T;have:=(p.lt _ rfl).1;omega),Uf i.be Oo _⟩)
  exact An
 exact An
end
def qr (x:Cnt) (n:Int) (c:Chg) (w:Wd) (r:CW w x) (I:c.id=x.d.id) (hn:x.ap<n) (G:c.kind<0\/3<c.kind):
  Calls prog 110 #[.agg (cnC x).toArray,.agg (nbC n c).toArray] w (DoE (.inr x.ps) x n w):=by
 have s:=Hd (IB x n c w);have H:=s.o.b2.ce 0 (.int .i64 n);have J:=s.o.b2.ce 2 (.int .i64 c.id);have L:=s.o.b1.ce 0 (.int .i64 x.d.id);have z:=s.o.b1.ce 21 (.int .i64 x.ap);have B:=s.o.b1.ce 22 (.slice x.pA x.pn x.pc);have Y:Aw (∀ W,Below w.1.size w W->Calls prog 28 #[.slice x.pA x.pn x.pc] W fun e w'=>∃ v,e=.returned v/\w'.ownsRow W.1.size 74 2 v x.pn (U7 prC x.ps)/\Below W.1.size W w'):=Hd fun W k=>F8 x.pA x.pn x.pc x.ps W (r.sl.after k k.size) (by have:=r.le;omega)
 have t:Aw (∀ W b,W.1[b]? =some (.map ef4 4)->(Instr.lookup 222 (.map (some b)) (.int .i64 c.kind) true).run prog W=.ok (.tuple #[.nilFunc,.bool false]) W):=Hd fun W b k=>Sr W b c.kind k G
 have E:Aw (∀ q∈x.ps,q.rcd.size<=maxLen):=Hd r.rz;have o:Aw (x.pn<=1024/\x.ps.length=x.pn):=Hd ⟨r.le,r.sl.len⟩;have e4:decide ((1024:Int)<(x.pn:Int))=false:=QW (by have:=r.le;omega);have e1:(c.id != x.d.id)=false:=by simpa using I
 have e2:decide (n<=x.ap)=false:=QW Oo;unfold zV at H J L z B;clear r I hn G;go_in;go_wp2_with (first|(go_at_call 28;refine (Y.o _ s.o.be).mono ?_;rintro e j ⟨v,rfl,D,k⟩;have Z:=Hd (Vk s.o k);obtain ⟨m,d,rfl,_⟩:=U4 D;have M:=Hd D;clear D k H J L z B)|fail);have l:Aw (DW x n c w j.drew):=Hd (Vk Z.o (Bf _ _).drew);refine Rw (S:=fun w'=>DW x n c w w') Ak l.o (fun i=>?_);refine tk 1 (Ag (w.1.size+1) 1) i ?_;refine tk 2 (Ag (w.1.size+1) 1) i ?_;refine tj 3 (.int .i64 c.kind) i ?_ (y:=by intro w' R;have h1:=R.b2.ce 1 (.int .i64 c.kind);go_simp);refine Aq [0] ?_;refine Rc (fun K u=>?_) ?_
 .go_simp;refine (GR _).mono ?_;rintro e w3 ⟨rfl,rfl⟩;simp only [];have k:=Mu j.drew;have O:=Hd (Vk l.o k);refine u.out _ _ (Vk i k) (fun i=>?_);clear u K k;try simp only [Act.put,Sv,Sz,Sw]
  refine Aq [4] ?_;refine Rc (fun K u=>?_) ?_
  .go_simp;have U:=t.o (j.drew.alloc (.map ef4 4)) j.1.size (YH j.drew _);have P:=t.o ((j.alloc (.map ef4 4)).drew) j.1.size (YH j _);go_simp;refine u.out _ _ i (fun i=>?_);clear u K U P;try simp only [Act.put,Sv,Sz,Sw]
   refine tk 5 (.tuple #[.nilFunc,.bool false]) i ?_;refine tk 6 .nilFunc i ?_;refine tk 7 (.bool false) i ?_;refine tk 8 .nilFunc i ?_;refine tk 9 (.bool false) i ?_;refine Ad Ak ?_ _;clear i;have A:Aw (DW x n c w (j.alloc (.map ef4 4)).drew):=Hd O.o;have C:Aw ((j.alloc (.map ef4 4)).drew.ownsRow (w.1.size+3) 74 2 (.slice m x.pn d) x.pn (eC x.ps)):=Hd (by have h:=M.o.alloc (.map ef4 4);have e:(((Aa w (cnC x).toArray 37).alloc (.cells (nbC n c).toArray 108)).alloc (.cells zV.toArray 37)).1.size=w.1.size+3:=Am;rw [e] at h;exact h);have V:=A.o.b2.ce 0 (.int .i64 n)
   go_wp2_with (first|(with_reducible refine yM 34 55 (Su A.o) ?_)|((with_reducible refine Gb 37 ?_);refine U1 Ak 37 _ rfl (cnC ⟨x.d,n,m,x.pn,d,x.ps⟩).toArray Ak ?_)|(with_reducible refine yS 37 4 A.o.b3 (Va _) ?_));have X:=Us ((j.alloc (.map ef4 4)).drew.setRow (w.1.size+2) (cnC ⟨x.d,n,m,x.pn,d,x.ps⟩).toArray) (w.1.size+2) (cnC ⟨x.d,n,m,x.pn,d,x.ps⟩).toArray (QR _ _ _ _ _ _ A.o.b3) rfl;have Q:CW ((j.alloc (.map ef4 4)).drew.setRow (w.1.size+2) (cnC ⟨x.d,n,m,x.pn,d,x.ps⟩).toArray) ⟨x.d,n,m,x.pn,d,x.ps⟩:=⟨Io (Sl.of_own (f:=prC) (fun _=>rfl) Ac C.o) _ _ (fun a F=>by subst F;have:=(C.o.lt _ rfl).1;omega),o.o.1,fun h=>by subst h;rcases C.o.2 with ⟨e,_⟩|⟨g,N,T,e,_⟩<;>(injection e with e6 e7 e8)<;>(first|exact e8|cases e6),E.o⟩
   have p:=o.o.2;exact Br (v:=.tuple #[.agg (cnC ⟨x.d,n,m,x.pn,d,x.ps⟩).toArray,.int .i64 0]) (U2 results110 rfl rfl X) rfl (.inr ⟨m,d,by rw [p];exact o.o.1,by rw [p],by rw [p];exact Q,(fun a F=>by subst F;have:=(C.o.lt _ rfl).1;omega),Uf A.o.be Oo _⟩)
  exact An
 exact An
def DoR (xA:Option Addr) (R:Int ⊕ PC) (w:Wd) (e:Ending) (w':Wd):Prop:=match R with
 |.inl er=>e=.returned (.tuple #[.agg zV.toArray,.int .i64 er])/\Below w.1.size w w'
 |.inr y=>∃ z:Cnt,plC z=y/\e=.returned (.tuple #[.agg (cnC z).toArray,.int .i64 0])/\CW w' z/\(∀ a,z.pA=some a->w.1.size<=a.block\/xA=some a)/\Below w.1.size w w'
def SA {R:Int ⊕ List Pr} {x:Cnt} {n:Int} {c:Chg} {w w':Wd} {e:Ending} (k:c.id=x.d.id) (hn:x.ap<n) (o:Jh x.d x.ps c=R) (h:DoE R x n w e w'):DoR x.pA (doP (plC x) n c) w e w':=by
 have g:¬ (¬ (c.id=(plC x).d.id)\/n<=(plC x).ap):=by
  rintro (q|q)
  .exact q k
  .have:(plC x).ap=x.ap:=rfl;omega
 unfold doP;rw [QX g,show Jh (plC x).d (plC x).ps c=R from o];cases R with
 |inl p=>exact h
 |inr l=>
  rcases h with ⟨f,b,d⟩|⟨A,cc,f,b,d,j,i⟩
  .simp only [QK f];exact ⟨b,d⟩
  .simp only [QX (show ¬ 1024<l.length from Oo)];exact ⟨_,rfl,b,d,fun a m=>.inl (j a m),i⟩
def Hw (d:DSet) (l f:List Pr) (c:Chg) (b:∀ q∈l,q.rcd.size<=maxLen) (e:c.rcd.size<=maxLen) (h:Jh d l c=.inr f):∀ q∈f,q.rcd.size<=maxLen:=by
 unfold Jh DJ OH N1 at h
 repeat' split at h
 all_goals first
  |cases h;done
  |(injection h with h;subst h;intro q a)
 .rcases ZD a with h|h
  .exact b q h
  .rw [h];exact e
 .unfold IS at a;rcases QC.1 a with h|h
  .exact b q (XA h)
  .rcases QH.1 h with h|h
   .rw [h];exact e
   .exact b q (ZY h)
 .exact b q (VC a)
 .exact b q a
 .rcases QC.1 a with h|h
  .exact b q h
  .rw [QT.1 h];exact e
 .cases a
 .exact b q a
def nW (x:Cnt) (n:Int) (c:Chg) (w:Wd) (b:CW w x) (s:Cod w) (j:c.rcd.size<=maxLen):
  Calls prog 110 #[.agg (cnC x).toArray,.agg (nbC n c).toArray] w (DoR x.pA (doP (plC x) n c) w):=by
 by_cases m:¬ (c.id=x.d.id)\/n<=x.ap
 .refine yP (qp x n c w m) fun w' g=>?_
  unfold doP;rw [QK (show ¬ (c.id=(plC x).d.id)\/n<=(plC x).ap from m)];exact ⟨x,rfl,rfl,b.below g,fun a v=>.inr v,g⟩
 have d:c.id=x.d.id:=Classical.not_not.1 fun q=>m (.inl q)
 have hn:x.ap<n:=by
  have:¬ n<=x.ap:=fun q=>m (.inr q)
  omega
 have p:x.ps.length=x.pn:=b.sl.len;have y:=b.le;by_cases t:c.kind<0\/3<c.kind
 .refine (qr x n c w b d hn t).mono fun e w' h=>SA d hn ?_ h
  unfold Jh;rw [QX Oo,QX Oo,QX Oo,QX Oo]
 have u:c.kind=0\/c.kind=1\/c.kind=2\/c.kind=3:=Oo
 rcases u with k|k|k|k
 .refine (PJ x n c w 209 (Jh x.d x.ps c) b d hn Oo Oo (by rw [k];rfl) (fun o h=>Jg _ _ _ _ h) (fun l h=>Hw _ _ _ _ b.rz j h) (fun args W=>Ak) ?_).mono fun e w' h=>SA d hn rfl h
  intro W A cc base g f i;unfold Jh;rw [QK k];rw [<-p] at f ⊢;exact kY x.d c A cc x.ps base _ W f i Oo (fun W' r=>Js x.d ⟨c.key,c.rcd⟩ W' ((s.after g).after r) j)
 .refine (PJ x n c w 213 (Jh x.d x.ps c) b d hn Oo Oo (by rw [k];rfl) (fun o h=>Jg _ _ _ _ h) (fun l h=>Hw _ _ _ _ b.rz j h) (fun args W=>Ak) ?_).mono fun e w' h=>SA d hn rfl h
  intro W A cc base g f i;unfold Jh;rw [QX Oo,QK k];rw [<-p] at f ⊢;exact ja x.d c A cc x.ps base _ W f i Oo (fun W' _=>Pf x.d c.key W')
 .refine (PJ x n c w 216 (Jh x.d x.ps c) b d hn Oo Oo (by rw [k];rfl) (fun o h=>Jg _ _ _ _ h) (fun l h=>Hw _ _ _ _ b.rz j h) (fun args W=>Ak) ?_).mono fun e w' h=>SA d hn rfl h
  intro W A cc base g f i;unfold Jh;rw [QX Oo,QX Oo,QK k];rw [<-p] at f ⊢;exact jp x.d c A cc x.ps base W (s.after g) j f i Oo
 .refine (PJ x n c w 218 (Jh x.d x.ps c) b d hn Oo Oo (by rw [k];rfl) (fun o h=>Jg _ _ _ _ h) (fun l h=>Hw _ _ _ _ b.rz j h) (fun args W=>Ak) ?_).mono fun e w' h=>SA d hn rfl h
  intro W A cc base g f i;unfold Jh;rw [QX Oo,QX Oo,QX Oo,QK k];exact jc x.d A x.pn cc c base W i
end Go.Proofs.YtdleakjejodjjaaGreatDoor
