/- Of HistorySwaps. -/
import Derived.Test.YtoakknkmjnebjaaGreatDoorSAZ
namespace Go.Proofs.YtoakknkmjnebjaaGreatDoor
open Tryz (prog)
set_option maxRecDepth 100000
set_option maxHeartbeats 4000000
open Go.RowKit
theorem Zp {a b:Int} (xs ys:List Int) (ha:0≤a∧a<256) (hb:0≤b∧b<256):
  Op.bytesLess ((a::xs).map fun n=>UInt8.ofNat n.toNat) ((b::ys).map fun n=>UInt8.ofNat n.toNat)=true↔a<b∨(a=b∧Op.bytesLess (xs.map fun n=>UInt8.ofNat n.toNat) (ys.map fun n=>UInt8.ofNat n.toNat)=true):=by
 obtain ⟨x,rfl⟩:∃ x:Nat,a=x:=⟨a.toNat,by omega⟩
 obtain ⟨y,rfl⟩:∃ y:Nat,b=y:=⟨b.toNat,by omega⟩
 have hx:x<256:=by omega
 have hy:y<256:=by omega
 have tx:(UInt8.ofNat x).toNat=x:=by rw [UInt8.toNat_ofNat'];omega
 have ty:(UInt8.ofNat y).toNat=y:=by rw [UInt8.toNat_ofNat'];omega
 simp only [List.map_cons,Op.bytesLess,Int.toNat_natCast,Bool.or_eq_true,decide_eq_true_eq,Bool.and_eq_true,beq_iff_eq,UInt8.lt_iff_toNat_lt,←UInt8.toNat_inj,tx,ty];constructor
 ·rintro (h|⟨h,h2⟩)
  ·exact .inl (by omega)
  ·exact .inr ⟨by omega,h2⟩
 ·rintro (h|⟨h,h2⟩)
  ·exact .inl (by omega)
  ·exact .inr ⟨by omega,h2⟩
theorem Uq (n:Int) (i:Nat):0≤nb8 n i∧nb8 n i<256:=by
 unfold nb8;exact ⟨Int.emod_nonneg _ (by decide),Int.emod_lt_of_pos _ (by decide)⟩
theorem Fj {a b:Int} (h0:0≤a) (h1:a<b) (h2:b≤1099511627776):U8 (Vu a) (Vu b)=true:=by
 have wa:Xx a 0 1099511627776=true:=winB_true.2 ⟨h0,by omega⟩;have wb:Xx b 0 1099511627776=true:=winB_true.2 ⟨by omega,h2⟩;unfold Vu;rw [if_pos wa,if_pos wb];unfold U8;rw [Uv,Uv];show Op.bytesLess ((I5 a).map fun n=>UInt8.ofNat n.toNat) ((I5 b).map fun n=>UInt8.ofNat n.toNat)=true;have ea:I5 a = [nb8 a 7,nb8 a 6,nb8 a 5,nb8 a 4,nb8 a 3,nb8 a 2,nb8 a 1,nb8 a 0]:=by simp [I5,List.range_succ]
 have eb:I5 b = [nb8 b 7,nb8 b 6,nb8 b 5,nb8 b 4,nb8 b 3,nb8 b 2,nb8 b 1,nb8 b 0]:=by simp [I5,List.range_succ]
 rw [ea,eb];rw [Zp _ _ (Uq a 7) (Uq b 7),Zp _ _ (Uq a 6) (Uq b 6),Zp _ _ (Uq a 5) (Uq b 5),Zp _ _ (Uq a 4) (Uq b 4),Zp _ _ (Uq a 3) (Uq b 3),Zp _ _ (Uq a 2) (Uq b 2),Zp _ _ (Uq a 1) (Uq b 1),Zp _ _ (Uq a 0) (Uq b 0)];have z7:∀ n:Int,0≤n→n≤1099511627776→nb8 n 7=0:=fun n h h'=>by unfold nb8;simp only [Nat.reduceMul,Int.reducePow];omega
 have z6:∀ n:Int,0≤n→n≤1099511627776→nb8 n 6=0:=fun n h h'=>by unfold nb8;simp only [Nat.reduceMul,Int.reducePow];omega
 rw [z7 a h0 (by omega),z7 b (by omega) h2,z6 a h0 (by omega),z6 b (by omega) h2]
 have sum:∀ n:Int,0≤n→n≤1099511627776→n=nb8 n 5*1099511627776+nb8 n 4*4294967296+nb8 n 3*16777216+nb8 n 2*65536+nb8 n 1*256+nb8 n 0:=fun n h h'=>by
  unfold nb8;simp only [Nat.reduceMul,Int.reducePow];omega
 have sa:=sum a h0 (by omega);have sb:=sum b (by omega) h2;have ra5:=Uq a 5;have ra4:=Uq a 4;have ra3:=Uq a 3;have ra2:=Uq a 2;have ra1:=Uq a 1;have ra0:=Uq a 0;have rb5:=Uq b 5;have rb4:=Uq b 4;have rb3:=Uq b 3;have rb2:=Uq b 2;have rb1:=Uq b 1;have rb0:=Uq b 0;generalize nb8 a 5=a5 at *;generalize nb8 a 4=a4 at *;generalize nb8 a 3=a3 at *;generalize nb8 a 2=a2 at *;generalize nb8 a 1=a1 at *;generalize nb8 a 0=a0 at *;generalize nb8 b 5=b5 at *;generalize nb8 b 4=b4 at *;generalize nb8 b 3=b3 at *;generalize nb8 b 2=b2 at *;generalize nb8 b 1=b1 at *;generalize nb8 b 0=b0 at *;refine .inr ⟨rfl,.inr ⟨rfl,?_⟩⟩;rcases Int.lt_trichotomy a5 b5 with q|q|q
 ·exact .inl q
 ·refine .inr ⟨q,?_⟩;rcases Int.lt_trichotomy a4 b4 with q|q|q
  ·exact .inl q
  ·refine .inr ⟨q,?_⟩;rcases Int.lt_trichotomy a3 b3 with q|q|q
   ·exact .inl q
   ·refine .inr ⟨q,?_⟩;rcases Int.lt_trichotomy a2 b2 with q|q|q
    ·exact .inl q
    ·refine .inr ⟨q,?_⟩;rcases Int.lt_trichotomy a1 b1 with q|q|q
     ·exact .inl q
     ·refine .inr ⟨q,.inl ?_⟩;omega
     ·omega
    ·omega
   ·omega
  ·omega
 ·omega
def Ic:List Bz→Int
 | []=>0
 |s::r=>(s.size:Int)+Ic r
theorem Fh:∀ (l:List Bz) (r:Bz),Ic (l++[r])=Ic l+(r.size:Int)
 | [],r=>by simp [Ic]
 |s::l,r=>by
  show (s.size:Int)+Ic (l++[r])=(s.size:Int)+Ic l+r.size;rw [Fh l r];omega
theorem sumS_run (z:Nat):∀ (r:List Bz),Ic r=(Yy z r:Nat)*(z:Int)+Ic (r.drop (Yy z r))
 | []=>by simp [Yy,Ic]
 |s::r=>by
  unfold Yy;split
  ·rename_i h;rw [List.drop_succ_cons];show (s.size:Int)+Ic r=_;rw [sumS_run z r,h]
   have:((Yy z r+1:Nat):Int)*(z:Int)=(Yy z r:Nat)*(z:Int)+z:=by
    rw [Int.natCast_add,Int.add_mul];simp
   rw [this];omega
  ·simp
theorem runF_ge:∀ (f:Nat) (l:List Bz),l.length≤f→Ic l≤Jx f l
 |0,[],_=>by simp [Ic,Jx]
 |0,s::r,h=>by simp at h
 |f+1,[],_=>by simp [Ic,Jx]
 |f+1,s::r,h=>by
  have ih:=runF_ge f (r.drop (Yy s.size r)) (by rw [List.length_drop];simp at h;omega);show (s.size:Int)+Ic r≤_;unfold Jx;rw [sumS_run s.size r]
  have:((Yy s.size r+1:Nat):Int)*(s.size:Int)=(Yy s.size r:Nat)*(s.size:Int)+s.size:=by
   rw [Int.natCast_add,Int.add_mul];simp
  rw [this];omega
theorem fits_sum {z:Int} {l:List Bz} (h:Kz z l=true):Ic l+4≤z:=by
 unfold Kz Km at h;simp only [Bool.and_eq_true,decide_eq_true_eq] at h;have:=runF_ge l.length l (Le _);omega
structure EndOk (itv:Int) (m:Nat) (s:Int×List Bz×Int) (prev:Option Bz):Prop where
 ci0:0≤s.1
 ci1:s.1≤m
 sp:s.2.2=Ic s.2.1
 sp0:0≤s.2.2
 sp1:s.2.2≤1000
 no:prev=none→s.1=0
 last:∀ q,prev=some q→∃ off:Int,0≤off∧off<itv∧off<s.2.2∧1≤s.1∧q=Vu (s.1*itv+off)
theorem end_start (itv:Int):EndOk itv 0 (0,[],0) none:=⟨Int.le_refl _,Int.le_refl _,rfl,Int.le_refl _,by decide,fun _=>rfl,fun q h=>by cases h⟩
theorem mul_small {a b:Int} (ha:0≤a) (hb:a≤2000) (hz:b=128∨b=256∨b=512):0≤a*b∧a*b≤1024000:=by
 rcases hz with rfl|rfl|rfl<;>omega
theorem end_next {d:DSet} {m:Nat} {s:Int×List Bz×Int} {prev:Option Bz} {r:Bz} (h:EndOk d.itv m s prev) (hz:d.itv=128∨d.itv=256∨d.itv=512) (hm:m≤1100) (hr1:1≤r.size) (bS:r.size≤200):
  EndOk d.itv (m+1) (Vh d r s.1 s.2.1 s.2.2).2 (some (Vh d r s.1 s.2.1 s.2.2).1)∧∀ q,prev=some q→U8 q (Vh d r s.1 s.2.1 s.2.2).1=true:=by
 obtain ⟨c1,c2,c3,c4,c5,c6,c7⟩:=h;obtain ⟨ci,on,sp⟩:=s;simp only at c1 c2 c3 c4 c5 c6 c7 ⊢;have hp:=mul_small c1 (by omega) hz;have w1:IntKind.i64.wrap (ci*d.itv)=ci*d.itv:=IntWalk.i64_in _ (by omega);have w2:IntKind.i64.wrap (ci*d.itv+sp)=ci*d.itv+sp:=IntWalk.i64_in _ (by omega);have w3:IntKind.i64.wrap (ci+1)=ci+1:=IntWalk.i64_in _ (by omega);have eX:(ci+1)*d.itv=ci*d.itv+d.itv:=by rw [Int.add_mul,Int.one_mul]
 have w4:IntKind.i64.wrap ((ci+1)*d.itv)=ci*d.itv+d.itv:=by rw [eX];exact IntWalk.i64_in _ (by omega)
 have w5:IntKind.i64.wrap (sp+(r.size:Int))=sp+r.size:=IntWalk.i64_in _ (by omega);unfold Vh;by_cases hf:0<ci∧Kz d.itv (on++[r])=true
 ·rw [if_pos hf];simp only [w1,w2,w5];have hs:=fits_sum hf.2;rw [Fh,←c3] at hs;refine ⟨⟨c1,by omega,by rw [Fh,←c3],by simp only;omega,by simp only;omega,fun e=>(by cases e),fun q hq=>?_⟩,fun q hq=>?_⟩
  ·injection hq with hq
   exact ⟨sp,c4,by omega,by simp only;omega,by simp only;omega,hq.symm⟩
  ·obtain ⟨off,o1,o2,o3,o4,rfl⟩:=c7 q hq;exact Fj (by omega) (by omega) (by omega)
 ·rw [if_neg hf];simp only [w3,w4];refine ⟨⟨by simp only;omega,by simp only;omega,by simp [Ic],by simp only;omega,by simp only;omega,fun e=>(by cases e),fun q hq=>?_⟩,fun q hq=>?_⟩
  ·injection hq with hq
   refine ⟨0,Int.le_refl _,by omega,by simp only;omega,by simp only;omega,?_⟩;simp only;rw [←hq,eX,Int.add_zero]
  ·obtain ⟨off,o1,o2,o3,o4,rfl⟩:=c7 q hq;exact Fj (by omega) (by omega) (by omega)
theorem fv_last (d:DSet) (h1:d.org=1) (hz:d.itv=128∨d.itv=256∨d.itv=512) (hl:d.len≤200):∀ (ps:List Pr) (prev:Option Bz) (j m:Nat) (s:Int×List Bz×Int),EndOk d.itv m s prev→m+ps.length≤1100→fvL d prev j s ps=true →
  ∃ prev',EndOk d.itv (m+ps.length) (behF d s ps) prev'∧(ps = []→prev'=prev)∧∀ p∈ps,∃ q,prev'=some q∧(p.key=q∨U8 p.key q=true)
 | [],prev,j,m,s,h,_,_=>⟨prev,h,fun _=>rfl,fun p hp=>by cases hp⟩
 |p::r,prev,j,m,s,h,hm,hv=>by
  have hsr:=(fvL_srt d (p::r) prev j s hv).1;unfold fvL at hv;simp only [Bool.and_eq_true] at hv;obtain ⟨⟨⟨v1,v2⟩,v3⟩,v4⟩:=hv
  have ha:1≤p.rcd.size∧p.rcd.size≤200:=by
   unfold Vp at v1;rw [if_neg (by omega),if_neg (by omega),if_pos h1] at v1;simp only [Bool.and_eq_true,decide_eq_true_eq] at v1;omega
  have hk:(Vh d p.rcd s.1 s.2.1 s.2.2).1=p.key:=by
   unfold Y3 at v3;rw [if_neg (by omega),if_pos h1] at v3;exact Zv v3
  have he:Eu d s p=(Vh d p.rcd s.1 s.2.1 s.2.2).2:=by unfold Eu;rw [if_pos h1]
  have hn:=(end_next h hz (by simp at hm;omega) ha.1 ha.2).1;rw [hk] at hn;rw [he] at v4;obtain ⟨prev',k1,k0,k2⟩:=fv_last d h1 hz hl r (some p.key) (j+1) (m+1) _ hn (by simp at hm ⊢;omega) v4;have hlen:m+(p::r).length=m+1+r.length:=by simp;omega
  rw [hlen];refine ⟨prev',k1,fun e=>(by cases e),fun x hx=>?_⟩;rcases List.mem_cons.1 hx with rfl|hx
  ·cases r with
   |nil=>exact ⟨x.key,k0 rfl,.inl rfl⟩
   |cons y t=>
    obtain ⟨q,q1,q2⟩:=k2 y List.mem_cons_self;refine ⟨q,q1,.inr ?_⟩;have h5:=(Xb hsr).2 y List.mem_cons_self;rcases q2 with rfl|q2
    ·exact h5
    ·exact Zc h5 q2
  ·exact k2 x hx
theorem srt_snoc {l:List Pr} {x:Pr} (h:Srt l) (hx:∀ p∈l,U8 p.key x.key=true):Srt (l++[x]):=
 List.pairwise_append.2 ⟨h,List.pairwise_singleton _ _,fun a ha b hb=>by rw [List.mem_singleton] at hb;subst hb;exact hx a ha⟩
theorem fv_seq (d:DSet) (h0:d.org=0):∀ (ps:List Pr) (prev:Option Bz) (j:Nat) (s:Int×List Bz×Int),fvL d prev j s ps=true→∀ (i:Nat) (p:Pr),ps[i]? =some p→p.key=Vu ((j+i:Nat)+1)
 | [],prev,j,s,_,i,p,hp=>by simp at hp
 |q::r,prev,j,s,hv,i,p,hp=>by
  unfold fvL at hv;simp only [Bool.and_eq_true] at hv;obtain ⟨⟨⟨v1,v2⟩,v3⟩,v4⟩:=hv;cases i with
  |zero=>
   simp at hp;subst hp;unfold Y3 at v3;rw [if_pos h0] at v3;exact (Zv v3).symm
  |succ i=>
   rw [Gn] at hp;rw [fv_seq d h0 r (some q.key) (j+1) _ v4 i p hp];congr 2;omega
theorem app_srt {d:DSet} {ap:Int} {ps l:List Pr} {c:Chg} (hv:In d ap ps=true) (h:appE d ps c = .inr l):Srt l:=by
 have hs:=fwd_srt hv;unfold In at hv;simp only [Bool.and_eq_true,decide_eq_true_eq] at hv;obtain ⟨⟨⟨⟨hd,ha0⟩,ha1⟩,har⟩,hfv⟩:=hv
 have hlen:ps.length≤1024:=by
  unfold Iz at har;simp only [Bool.and_eq_true,Bool.not_eq_true',Bool.or_eq_false_iff,decide_eq_false_iff_not] at har;omega
 unfold appE at h;split at h
 ·cases h
 ·rename_i iK;split at h
  ·rename_i bU;injection h with h
   subst h;refine srt_snoc hs fun p hp=>?_
   show U8 p.key (appK d ps c.rcd)=true;have n2:d.org≠2:=by intro e;apply iK;unfold G2;simp [e]
   have n3:d.org≠3:=by intro e;apply iK;unfold G2;simp [e]
   unfold appK;by_cases h1:d.org=1
   ·rw [if_pos h1];unfold Iv at hd;simp only [Bool.and_eq_true] at hd;have hk:=hd.2;rw [if_neg (by omega)] at hk;unfold Ea Ec at hk;simp only [Bool.and_eq_true] at hk;obtain ⟨⟨⟨⟨k1,k2⟩,k3⟩,k4⟩,_⟩:=hk
    have hz:d.itv=128∨d.itv=256∨d.itv=512:=by
     unfold E1 at k1;simp only [Bool.or_eq_true,decide_eq_true_eq] at k1;omega
    have hl:=(winB_true.1 k3).2;unfold Vp at bU;rw [if_neg n3,if_neg n2,if_pos h1] at bU;simp only [Bool.and_eq_true,decide_eq_true_eq] at bU;obtain ⟨prev',e1,_,e2⟩:=fv_last d h1 hz (by omega) ps none 0 0 (0,[],0) (end_start _) (by omega) hfv;have hn:=(end_next e1 hz (by omega) (r:=c.rcd) (by omega) (by omega)).2;obtain ⟨q,q1,q2⟩:=e2 p hp;have h5:=hn q q1;rcases q2 with rfl|q2
    ·exact h5
    ·exact Zc q2 h5
   ·rw [if_neg h1]
    have h0:d.org=0:=by
     unfold Iv at hd;simp only [Bool.and_eq_true] at hd;have hk:=hd.2;by_cases e:d.org=0
     ·exact e
     ·rw [if_neg e] at hk;unfold Ea Ec at hk;simp only [Bool.and_eq_true] at hk;have:=winB_true.1 hk.1.1.1.2;omega
    obtain ⟨i,hi⟩:=List.getElem?_of_mem hp;have hil:=(List.getElem?_eq_some_iff.1 hi).1;rw [fv_seq d h0 ps none 0 _ hfv i p hi];exact Fj (by omega) (by omega) (by omega)
  ·cases h
def ReS (s t:List PC):Prop:=∀ id,RV (V4 s id) (V4 t id)
theorem K9 (s:List PC) (id:Int):IdL id (V4 s id):=fun _ h=>getP_id h
structure StO (n:Int) (s:List PC):Prop where
 nd:NdP s
 ap:∀ id,ApL n (V4 s id)
 sr:∀ id,SrV (V4 s id)
theorem crt1_srt {num:Int} {c:Chg} {v v1:Option PC} (h:SrV v) (h1:crt1 num c v=some v1):SrV v1:=by
 unfold crt1 at h1;split at h1
 ·injection h1 with h1;subst h1;exact h
 ·split at h1
  ·cases h1
  ·injection h1 with h1;subst h1;exact fun x hx=>by injection hx with hx;subst hx;exact List.Pairwise.nil
theorem doF_srt {x y:PC} {n:Int} {c:Chg} (hs:Srt x.ps) (h:doF x n c = .inr y):Srt y.ps:=by
 unfold doF at h;split at h
 ·rename_i hc;simp only [Bool.and_eq_true] at hc;have hv:=hc.1.1.1;unfold doP at h;split at h
  ·injection h with h;subst h;exact hs
  ·split at h
   ·cases h
   ·rename_i l hl;split at h
    ·cases h
    ·injection h with h
     subst h;show Srt l;unfold Ew at hl;split at hl
     ·unfold putE at hl;split at hl
      ·cases hl
      ·split at hl
       ·cases hl
       ·have:l=Fo x.ps c.key c.rcd:=by
         rw [←put_is];by_cases hh:Y4 x.ps c.key=true
         ·rw [if_pos hh] at hl ⊢;injection hl with hl;exact hl.symm
         ·rw [if_neg hh] at hl ⊢;injection hl with hl;exact hl.symm
        rw [this];exact srt_put _ _ _ hs
     ·split at hl
      ·unfold eraE at hl;split at hl
       ·cases hl
       ·split at hl
        ·cases hl
        ·have:l=eraL x.ps c.key:=by
          rw [←era_is];by_cases hh:Y4 x.ps c.key=true
          ·rw [if_pos hh] at hl ⊢;injection hl with hl;exact hl.symm
          ·rw [if_neg hh] at hl ⊢;injection hl with hl;exact hl.symm
         rw [this];exact srt_era _ _ hs
      ·split at hl
       ·exact app_srt hv hl
       ·split at hl
        ·injection hl with hl;subst hl;exact List.Pairwise.nil
        ·injection hl with hl;subst hl;exact hs
 ·cases h
theorem stp1_srt {n:Int} {c:Chg} {v v1:Option PC} (h:SrV v) (h1:El n c v = .inr v1):SrV v1:=by
 cases v with
 |none=>
  unfold El at h1;injection h1 with h1
  subst h1;exact h
 |some x=>
  have hx:=h x rfl;unfold El at h1;simp only at h1;split at h1
  ·injection h1 with h1;subst h1;exact fun x hx=>by cases hx
  ·split at h1
   ·split at h1
    ·injection h1 with h1;subst h1;exact h
    ·injection h1 with h1;subst h1;exact fun y hy=>by injection hy with hy;subst hy;exact hx
   ·split at h1
    ·injection h1 with h1;subst h1;exact h
    ·split at h1
     ·cases h1
     ·rename_i y hy;injection h1 with h1
      subst h1;exact fun z hz=>by injection hz with hz;subst hz;exact doF_srt hx hy
theorem ga1_srt {num id:Int}:∀ (cs:List Chg) (v v1:Option PC),SrV v→ga1 num id cs v=some v1→SrV v1
 | [],v,v1,h,h1=>by injection h1 with h1;subst h1;exact h
 |c::r,v,v1,h,h1=>by
  unfold ga1 at h1;split at h1
  ·split at h1
   ·cases h1
   ·rename_i v2 h2;exact ga1_srt r v2 v1 (crt1_srt h h2) h1
  ·exact ga1_srt r v v1 h h1
theorem ga2_srt {num id:Int}:∀ (cs:List Chg) (i:Nat) (v v1:Option PC),SrV v→ga2 num id i cs v = .inr v1→SrV v1
 | [],i,v,v1,h,h1=>by injection h1 with h1;subst h1;exact h
 |c::r,i,v,v1,h,h1=>by
  unfold ga2 at h1;split at h1
  ·split at h1
   ·cases h1
   ·rename_i v2 h2;exact ga2_srt r (i+1) v2 v1 (stp1_srt h h2) h1
  ·exact ga2_srt r (i+1) v v1 h h1
theorem gaU_srt {num id:Int} {cs:List Chg} {v v1:Option PC} (h:SrV v) (h1:gaU num id cs v = .inr v1):SrV v1:=by
 unfold gaU at h1;split at h1
 ·cases h1
 ·rename_i v2 h2;exact ga2_srt cs 0 v2 v1 (ga1_srt cs v v2 h h2) h1
theorem Zy {n:Int} {cs:List Chg} {s s1:List PC} (h:StO n s) (h1:aft Ud doF n cs s = .inr s1):StO (n+cs.length) s1:=by
 obtain ⟨k1,k2⟩:=Zr h.nd h1;refine ⟨k1,fun id=>?_,fun id=>gaU_srt (h.sr id) (k2 id)⟩;exact (Gj (RV.refl _) (h.ap id) (h.ap id) (K9 s id) (K9 s id) (k2 id) (k2 id)).2.1
theorem aft_re {n m:Int} {cs:List Chg} {s t s1 t1:List PC} (hr:ReS s t) (hs:StO n s) (ht:StO m t) (h1:aft Ud doF n cs s = .inr s1) (h2:aft Ud doF m cs t = .inr t1):ReS s1 t1:=fun id=>
 (Gj (hr id) (hs.ap id) (ht.ap id) (K9 s id) (K9 t id) ((Zr hs.nd h1).2 id) ((Zr ht.nd h2).2 id)).1
def NoCC (xs ys:List Chg):Prop:=∀ x∈xs,∀ y∈ys,x.id=y.id→(x.kind=0∨x.kind=1)∧(y.kind=0∨y.kind=1)∧x.key≠y.key
theorem aft_swap {n:Int} {xs ys:List Chg} {s t sa sab tb tba:List PC} (hm:NoCC xs ys) (hr:ReS s t) (hs:StO n s) (ht:StO n t)
  (h1:aft Ud doF n xs s = .inr sa) (h2:aft Ud doF (n+xs.length) ys sa = .inr sab) (h3:aft Ud doF n ys t = .inr tb) (h4:aft Ud doF (n+ys.length) xs tb = .inr tba):ReS sab tba:=fun id=>by
 have a1:=Zr hs.nd h1;have a2:=Zr a1.1 h2;have a3:=Zr ht.nd h3;have a4:=Zr a3.1 h4;exact (swap_id (fun x hx y hy e1 e2=>hm x hx y hy (e1.trans e2.symm)) (hr id) (hs.ap id) (ht.ap id) (K9 s id) (K9 t id) (a1.2 id) (a2.2 id) (a3.2 id) (a4.2 id)).1
theorem aft_read {n:Int} {cs:List Chg} {s s1:List PC} {r:Rdd} (hs:StO n s) (hm:∀ c∈cs,c.id=r.id→V0 (chT c).r (rng r)=false∨V0 (rng r) (chT c).r=false) (h:aft Ud doF n cs s = .inr s1):Vy (Zj s r.id) r=Vy (Zj s1 r.id) r:=by
 have a:=Zr hs.nd h;rw [psOf_V,psOf_V];exact read_id hm (hs.sr _) ((Zy hs h).sr _) (K9 s _) (hs.ap _) (a.2 _)
theorem re_ps {s t:List PC} (h:ReS s t) (id:Int):Zj s id=Zj t id:=by
 rw [psOf_V,psOf_V];have:=h id;cases hg:V4 s id with
 |none=>
  rw [hg] at this;rw [this.none]
 |some x=>
  rw [hg] at this;obtain ⟨y,hy,_,h2⟩:=this.some;rw [hy];exact h2.symm
def Yl (n:Int) (c:Com):Com:={ c with num:=n }
def Y7:Int→List Com→List Com
 |_,[]=>[]
 |n,c::r=>Yl n c::Y7 (n+c.cn) r
def endS':Int→List Com→Int
 |n,[]=>n
 |n,c::r=>endS' (n+c.cn) r
theorem Ks:∀ (a b:List Com) (n:Int),Y7 n (a++b)=Y7 n a++Y7 (endS' n a) b
 | [],_,_=>rfl
 |c::r,b,n=>by
  show Yl n c::Y7 (n+c.cn) (r++b)=_;rw [Ks r b];rfl
theorem play_one (u:Com) (r:List Com) (s:List PC):Vs Ud doF (u::r) s=match aft Ud doF u.num u.cs s with | .inl e=>.inl e | .inr s1=>Vs Ud doF r s1:=rfl
theorem play_app:∀ (a b:List Com) (s:List PC),Vs Ud doF (a++b) s=match Vs Ud doF a s with | .inl e=>.inl e | .inr s1=>Vs Ud doF b s1
 | [],_,_=>rfl
 |u::r,b,s=>by
  rw [List.cons_append,play_one,play_one];cases aft Ud doF u.num u.cs s with
  |inl e=>rfl
  |inr s1=>exact play_app r b s1
theorem Vx {u:Com} {r:List Com} {s s1:List PC} (h:Vs Ud doF (u::r) s = .inr s1):∃ s2,aft Ud doF u.num u.cs s = .inr s2∧Vs Ud doF r s2 = .inr s1:=by
 unfold Vs at h;split at h
 ·cases h
 ·rename_i s2 h2;exact ⟨s2,h2,h⟩
theorem play_split {a b:List Com} {s s1:List PC} (h:Vs Ud doF (a++b) s = .inr s1):∃ s2,Vs Ud doF a s = .inr s2∧Vs Ud doF b s2 = .inr s1:=by
 rw [play_app] at h;split at h
 ·cases h
 ·rename_i s2 h2;exact ⟨s2,h2,h⟩
def Lens (l:List Com):Prop:=∀ u∈l,u.cs.length=u.cn
theorem He:∀ (l:List Com) (n:Int) (s s1:List PC),Lens l→StO n s→Vs Ud doF (Y7 n l) s = .inr s1→StO (endS' n l) s1
 | [],n,s,s1,_,hs,h=>by injection h with h;subst h;exact hs
 |c::r,n,s,s1,hl,hs,h=>by
  obtain ⟨s2,h1,h2⟩:=Vx (u:=Yl n c) (r:=Y7 (n+c.cn) r) h;have:=Zy hs h1;rw [show (Yl n c).cs.length=c.cn from hl c List.mem_cons_self] at this;exact He r (n+c.cn) s2 s1 (fun u hu=>hl u (List.mem_cons_of_mem _ hu)) this h2
theorem play_re:∀ (l:List Com) (n:Int) (s t s1 t1:List PC),Lens l→ReS s t→StO n s→StO n t→Vs Ud doF (Y7 n l) s = .inr s1→Vs Ud doF (Y7 n l) t = .inr t1→ReS s1 t1
 | [],n,s,t,s1,t1,_,hr,_,_,h1,h2=>by injection h1 with h1;injection h2 with h2;subst h1 h2;exact hr
 |c::r,n,s,t,s1,t1,hl,hr,hs,ht,h1,h2=>by
  obtain ⟨s2,a1,a2⟩:=Vx (u:=Yl n c) (r:=Y7 (n+c.cn) r) h1;obtain ⟨t2,b1,b2⟩:=Vx (u:=Yl n c) (r:=Y7 (n+c.cn) r) h2;have k1:=Zy hs a1;have k2:=Zy ht b1;rw [show (Yl n c).cs.length=c.cn from hl c List.mem_cons_self] at k1 k2;exact play_re r (n+c.cn) s2 t2 s1 t1 (fun u hu=>hl u (List.mem_cons_of_mem _ hu)) (aft_re hr hs ht a1 b1) k1 k2 a2 b2
def allX:List Com→List PC→Prop
 | [],_=>True
 |u::r,s=>(∀ x∈u.rs,Vy (Zj s x.id) x=true)∧∀ s1,aft Ud doF u.num u.cs s = .inr s1→allX r s1
theorem chk_all:∀ (l:List Com) (i:Nat) (s s1:List PC),Vs Ud doF l s = .inr s1→∃ o,chkF Ud doF i l s = .inr o∧(o=none↔allX l s)
 | [],i,s,s1,_=>⟨none,rfl,fun _=>trivial,fun _=>rfl⟩
 |u::r,i,s,s1,h=>by
  obtain ⟨s2,h1,h2⟩:=Vx h;unfold chkF;by_cases hf:u.rs.findIdx (fun x => !Vy (Zj s x.id) x)<u.rs.length
  ·rw [if_pos hf];refine ⟨_,rfl,fun e=>(by cases e),fun hx=>?_⟩;obtain ⟨x,jF,hx2⟩:=List.findIdx_lt_length.1 hf;rw [hx.1 x jF] at hx2;cases hx2
  ·rw [if_neg hf,h1];obtain ⟨o,o1,o2⟩:=chk_all r (i+1) s2 s1 h2;refine ⟨o,o1,?_⟩;rw [o2];constructor
   ·intro hx;refine ⟨fun x jF=>?_,fun s3 h3=>?_⟩
    ·cases he:Vy (Zj s x.id) x with
     |true=>rfl
     |false=>exact absurd (List.findIdx_lt_length.2 ⟨x,jF,by rw [he];rfl⟩) hf
    ·rw [h1] at h3;injection h3 with h3;subst h3;exact hx
   ·exact fun hx=>hx.2 s2 h1
theorem all_app:∀ (a b:List Com) (s s1:List PC),Vs Ud doF a s = .inr s1→(allX (a++b) s↔allX a s∧allX b s1)
 | [],b,s,s1,h=>by injection h with h;subst h;exact ⟨fun hx=>⟨trivial,hx⟩,fun hx=>hx.2⟩
 |u::r,b,s,s1,h=>by
  obtain ⟨s2,h1,h2⟩:=Vx h;have ih:=all_app r b s2 s1 h2;constructor
  ·rintro ⟨x1,x2⟩;have:=ih.1 (x2 s2 h1);exact ⟨⟨x1,fun s3 h3=>by rw [h1] at h3;injection h3 with h3;subst h3;exact this.1⟩,this.2⟩
  ·rintro ⟨⟨x1,x2⟩,x3⟩;exact ⟨x1,fun s3 h3=>by rw [h1] at h3;injection h3 with h3;subst h3;exact ih.2 ⟨x2 s2 h1,x3⟩⟩
theorem all_re:∀ (l:List Com) (n:Int) (s t s1 t1:List PC),Lens l→ReS s t→StO n s→StO n t→Vs Ud doF (Y7 n l) s = .inr s1→Vs Ud doF (Y7 n l) t = .inr t1→allX (Y7 n l) s→allX (Y7 n l) t
 | [],n,s,t,s1,t1,_,_,_,_,_,_,_=>trivial
 |c::r,n,s,t,s1,t1,hl,hr,hs,ht,h1,h2,hx=>by
  obtain ⟨s2,a1,a2⟩:=Vx (u:=Yl n c) (r:=Y7 (n+c.cn) r) h1;obtain ⟨t2,b1,b2⟩:=Vx (u:=Yl n c) (r:=Y7 (n+c.cn) r) h2;have k1:=Zy hs a1;have k2:=Zy ht b1;rw [show (Yl n c).cs.length=c.cn from hl c List.mem_cons_self] at k1 k2;refine ⟨fun x jF=>by rw [←re_ps hr];exact hx.1 x jF,fun t3 h3=>?_⟩;rw [b1] at h3;injection h3 with h3
  subst h3;exact all_re r (n+c.cn) s2 t2 s1 t1 (fun u hu=>hl u (List.mem_cons_of_mem _ hu)) (aft_re hr hs ht a1 b1) k1 k2 a2 b2 (hx.2 s2 a1)
theorem ReS.refl (s:List PC):ReS s s:=fun _=>rfl
theorem ReS.symm {s t:List PC} (h:ReS s t):ReS t s:=fun id=>(h id).symm
theorem conf_cc {a b:Com} (h:Zn a b=false):NoCC a.cs b.cs:=by
 unfold Zn at h;simp only [Bool.or_eq_false_iff] at h;exact fun x hx y hy e=>ch_meet e (meet_no h.1 _ (List.mem_map_of_mem hx) _ (List.mem_map_of_mem hy))
theorem conf_cr {a b:Com} (h:Zn a b=false):∀ r∈b.rs,∀ c∈a.cs,c.id=r.id→V0 (chT c).r (rng r)=false:=by
 unfold Zn at h;simp only [Bool.or_eq_false_iff] at h;intro r hr c hc e;have:=meet_no h.2.1 _ (List.mem_map_of_mem hc) _ (List.mem_map_of_mem hr);unfold tmB at this;rw [show (chT c).id=(rdT r).id from e,decide_eq_true rfl,Bool.true_and] at this;exact this
theorem conf_rc {a b:Com} (h:Zn a b=false):∀ r∈a.rs,∀ c∈b.cs,c.id=r.id→V0 (rng r) (chT c).r=false:=by
 unfold Zn at h;simp only [Bool.or_eq_false_iff] at h;intro r hr c hc e;have:=meet_no h.2.2 _ (List.mem_map_of_mem hr) _ (List.mem_map_of_mem hc);unfold tmB at this;rw [show (rdT r).id=(chT c).id from e.symm,decide_eq_true rfl,Bool.true_and] at this;exact this
theorem swap_plain {p q:List Com} {a b:Com} {s s1 t1:List PC} (hs:StO 1 s) (hl:Lens (p++a::b::q)) (hc:Zn a b=false) (h1:Vs Ud doF (Y7 1 (p++a::b::q)) s = .inr s1) (h2:Vs Ud doF (Y7 1 (p++b::a::q)) s = .inr t1):
  ReS s1 t1∧NdP s1∧NdP t1∧(allX (Y7 1 (p++a::b::q)) s↔allX (Y7 1 (p++b::a::q)) s):=by
 have hlp:Lens p:=fun u hu=>hl u (List.mem_append_left _ hu)
 have hla:a.cs.length=a.cn:=hl a (by simp);have hlb:b.cs.length=b.cn:=hl b (by simp);have hlq:Lens q:=fun u hu=>hl u (by simp [hu])
 rw [Ks] at h1 h2;rw [Ks,Ks];obtain ⟨n,hn⟩:∃ n,endS' 1 p=n:=⟨_,rfl⟩
 have ea:Y7 n (a::b::q)=Yl n a::Yl (n+a.cn) b::Y7 (n+a.cn+b.cn) q:=rfl
 have eb:Y7 n (b::a::q)=Yl n b::Yl (n+b.cn) a::Y7 (n+a.cn+b.cn) q:=by
  show Yl n b::Yl (n+b.cn) a::Y7 (n+b.cn+a.cn) q=_;rw [show n+(b.cn:Int)+a.cn=n+a.cn+b.cn from by omega]
 rw [hn] at h1 h2 ⊢;rw [ea] at h1 ⊢;rw [eb] at h2 ⊢;obtain ⟨s0,p1,p2⟩:=play_split h1;obtain ⟨s0',p1',p3⟩:=play_split h2;rw [p1] at p1';injection p1' with p1'
 subst p1';have hs0:=He p 1 s s0 hlp hs p1;rw [hn] at hs0;obtain ⟨sa,a1,a2⟩:=Vx p2;obtain ⟨sab,a3,a4⟩:=Vx a2;obtain ⟨tb,b1,b2⟩:=Vx p3;obtain ⟨tba,b3,b4⟩:=Vx b2;have a1':aft Ud doF n a.cs s0 = .inr sa:=a1;have a3':aft Ud doF (n+a.cn) b.cs sa = .inr sab:=a3;have b1':aft Ud doF n b.cs s0 = .inr tb:=b1;have b3':aft Ud doF (n+b.cn) a.cs tb = .inr tba:=b3;have ka:=Zy hs0 a1';rw [hla] at ka;have kb:=Zy hs0 b1';rw [hlb] at kb;have kab:=Zy ka a3';rw [hlb] at kab;have kba:=Zy kb b3';rw [hla,show n+(b.cn:Int)+a.cn=n+a.cn+b.cn from by omega] at kba;have hre:ReS sab tba:=aft_swap (conf_cc hc) (ReS.refl s0) hs0 hs0 a1' (by rw [hla];exact a3') b1' (by rw [hlb];exact b3');have f1:=He q (n+a.cn+b.cn) sab s1 hlq kab a4;have f2:=He q (n+a.cn+b.cn) tba t1 hlq kba b4;refine ⟨play_re q _ sab tba s1 t1 hlq hre kab kba a4 b4,f1.nd,f2.nd,?_⟩
 rw [all_app _ _ s s0 p1,all_app _ _ s s0 p1];have rb:∀ r∈b.rs,Vy (Zj s0 r.id) r=Vy (Zj sa r.id) r:=fun r hr=>aft_read hs0 (fun c iR e=>.inl (conf_cr hc r hr c iR e)) a1'
 have ra:∀ r∈a.rs,Vy (Zj s0 r.id) r=Vy (Zj tb r.id) r:=fun r hr=>aft_read hs0 (fun c iR e=>.inr (conf_rc hc r hr c iR e)) b1'
 refine and_congr_right fun _=>⟨fun hx=>?_,fun hx=>?_⟩
 ·obtain ⟨x1,x2⟩:=hx;obtain ⟨x3,x4⟩:=x2 sa a1;have x5:=x4 sab a3;refine ⟨fun r hr=>by rw [rb r hr];exact x3 r hr,fun z hz=>?_⟩;rw [b1] at hz;injection hz with hz
  subst hz;refine ⟨fun r hr=>by rw [←ra r hr];exact x1 r hr,fun z hz=>?_⟩;rw [b3] at hz;injection hz with hz
  subst hz;exact all_re q _ sab tba s1 t1 hlq hre kab kba a4 b4 x5
 ·obtain ⟨x1,x2⟩:=hx;obtain ⟨x3,x4⟩:=x2 tb b1;have x5:=x4 tba b3;refine ⟨fun r hr=>by rw [ra r hr];exact x3 r hr,fun z hz=>?_⟩;rw [a1] at hz;injection hz with hz
  subst hz;refine ⟨fun r hr=>by rw [←rb r hr];exact x1 r hr,fun z hz=>?_⟩;rw [a3] at hz;injection hz with hz
  subst hz;exact all_re q _ tba sab t1 s1 hlq hre.symm kba kab b4 a4 x5
theorem ans_run (k1 s1:Bz) (c1:Int) (k2 s2:Bz) (c2:Int) (W:Wd):(binOp .eql 47 (.agg #[.string k1,.string s1,.int .i64 c1]) (.agg #[.string k2,.string s2,.int .i64 c2])).run prog W = .ok (.bool (decide (k1.toList=k2.toList)&&decide (s1.toList=s2.toList)&&decide (c1=c2))) W:=by
 go_simp;by_cases k0:k1.toList=k2.toList;rotate_left
 ·rw [if_neg k0,decide_eq_false k0];simp
 rw [if_pos k0,decide_eq_true k0];by_cases k1:s1.toList=s2.toList;rotate_left
 ·rw [if_neg k1,decide_eq_false k1];simp
 rw [if_pos k1,decide_eq_true k1];by_cases k2:c1=c2
 ·rw [if_pos k2,decide_eq_true k2];rfl
 ·rw [if_neg k2,decide_eq_false k2];rfl
theorem J1 (a b:Bz×Bz×Int):∃ z:Bool,decide (a=b)=z∧∀ W:Wd,(binOp .eql 47 (.agg #[.string a.1,.string a.2.1,.int .i64 a.2.2]) (.agg #[.string b.1,.string b.2.1,.int .i64 b.2.2])).run prog W = .ok (.bool z) W:=by
 obtain ⟨k1,s1,c1⟩:=a;obtain ⟨k2,s2,c2⟩:=b;refine ⟨_,rfl,fun W=>?_⟩;rw [ans_run];congr 2;rw [Bool.eq_iff_iff];simp only [Bool.and_eq_true,decide_eq_true_eq,Prod.mk.injEq];constructor
 ·rintro ⟨⟨h1,h2⟩,h3⟩;rw [Uv,Uv] at h1 h2;exact ⟨Yh h1,Yh h2,h3⟩
 ·rintro ⟨rfl,rfl,rfl⟩;exact ⟨⟨rfl,rfl⟩,rfl⟩
theorem RS.below {w w':Wd} {sv:Value} {id:Int} {x:Cnt} (h:RS w sv id x) (hb:Below w.heap.size w w'):RS w' sv id x:=
 ⟨h.cw.below hb,fun W hW=>h.pairs W (U0 hb hW hb.size)⟩
def RSP (sv:Value) (id:Int) (ps:List Pr) (w:Wd):Prop:=∃ x:Cnt,RS w sv id x∧x.ps=ps
theorem rs_none (id:Int) (w:Wd):RSP (.slice none 0 0) id [] w:=⟨⟨dZ,0,none,0,0,[]⟩,⟨cw_empty w dZ 0,fun W _=>pairs_none id W⟩,rfl⟩
theorem rs_some {h cc:Nat} {x:Cnt} {w:Wd} (hr:R1 w h x):RSP (.slice (some ⟨h,0,none⟩) 1 cc) x.d.id x.ps w:=by
 obtain ⟨A,c,h1,h2⟩:=hr.rg;exact ⟨reP x A c,⟨h2,fun W hW=>pairs_g (reP x A c) h cc W (Nat.lt_of_lt_of_le hr.lt hW.size) (Ua h1 hW hr.lt)⟩,rfl⟩
theorem get_at (A:Option Addr) (n c:Nat) (id:Int) (k:Bz) (ps:List Pr) (w:Wd) (hx:RSP (.slice A n c) id ps w):Calls prog 340 #[.slice A n c,.int .i64 id,.string k] w (GivesGet (Fw ps k) w):=by
 obtain ⟨x,h,rfl⟩:=hx;exact Get_g A n c id k x w h
theorem next_at (A:Option Addr) (n c:Nat) (id:Int) (k:Bz) (ps:List Pr) (w:Wd) (hx:RSP (.slice A n c) id ps w):Calls prog 341 #[.slice A n c,.int .i64 id,.string k] w (GivesNext (Gh ps k) w):=by
 obtain ⟨x,h,rfl⟩:=hx;exact Next_g A n c id k x w h
theorem RSP.below {sv:Value} {id:Int} {ps:List Pr} {w w':Wd} (h:RSP sv id ps w) (hb:Below w.heap.size w w'):RSP sv id ps w':=by
 obtain ⟨x,h1,h2⟩:=h;exact ⟨x,h1.below hb,h2⟩
theorem Id {W:Wd} {g:Nat} {r:Rdd} (h:Blk W g 49 (rdC r).toArray):W.rangeAt g 3 [.string r.ak,.string r.ar,.int .i64 r.code]:=by
 refine h.range 3 _ fun j v hv=>?_
 match j,hv with
 |0,hv=>exact hv
 |1,hv=>exact hv
 |2,hv=>exact hv
structure EY (r:Rdd) (w W:Wd) (g:Nat) (k x:Bz) (y:Int):Prop where
 b1:Blk W w.heap.size 49 (rdC r).toArray
 b2:Blk W g 47 #[.string k,.string x,.int .i64 y]
 lt:w.heap.size<g
 be:Below w.heap.size w W
theorem EY.mk' {r:Rdd} {w w5 w7:Wd} {k:Bz} (h1:Blk w5 w.heap.size 49 (rdC r).toArray) (be:Below w.heap.size w w5) (hb:Below (w5.alloc (.cells #[.string k,.string ⟨#[]⟩,.int .i64 0] 47)).heap.size (w5.alloc (.cells #[.string k,.string ⟨#[]⟩,.int .i64 0] 47)) w7):
  EY r w w7 w5.heap.size k ⟨#[]⟩ 0:=
 have hl:=h1.lt
 ⟨(h1.alloc _).below hb (by simp;omega),(Blk.new w5 _ _).below hb (by simp),hl,(be.alloc be.size _).trans (hb.mono (by simp;omega))⟩
theorem EY.set2 {r:Rdd} {w W:Wd} {g:Nat} {k x:Bz} {y:Int} (h:EY r w W g k x y) (x2:Bz) (y2:Int):EY r w ((W.setCell ⟨g,1,none⟩ (.string x2)).setCell ⟨g,2,none⟩ (.int .i64 y2)) g k x2 y2:=
 have hl:=h.lt
 ⟨(h.b1.far (by simp;omega) _).far (by simp;omega) _,(h.b2.set 1 _).set 2 _,h.lt,(h.be.setCell (by simp;omega) _).setCell (by simp;omega) _⟩
theorem EY.set3 {r:Rdd} {w W:Wd} {g:Nat} {k x:Bz} {y:Int} (h:EY r w W g k x y) (k2 x2:Bz) (y2:Int):EY r w (((W.setCell ⟨g,0,none⟩ (.string k2)).setCell ⟨g,1,none⟩ (.string x2)).setCell ⟨g,2,none⟩ (.int .i64 y2)) g k2 x2 y2:=
 have hl:=h.lt
 ⟨((h.b1.far (by simp;omega) _).far (by simp;omega) _).far (by simp;omega) _,((h.b2.set 0 _).set 1 _).set 2 _,h.lt,((h.be.setCell (by simp;omega) _).setCell (by simp;omega) _).setCell (by simp;omega) _⟩
theorem EY.row {r:Rdd} {w W:Wd} {g:Nat} {k x:Bz} {y:Int} (h:EY r w W g k x y):EY r w (W.setRow g #[.string ⟨#[]⟩,.string ⟨#[]⟩,.int .i64 6]) g ⟨#[]⟩ ⟨#[]⟩ 6:=
 have hl:=h.lt
 ⟨Um h.b1 (by omega),setRow_heap _ _ _ _ _ _ h.b2,h.lt,U6 h.be (by omega) _⟩
theorem ex_box2 {r:Rdd} {w w3 w5:Wd} {o2 o3:Obj} (h1:Below (((w.alloc (.cells (rdC r).toArray 49)).alloc o2).alloc o3).heap.size (((w.alloc (.cells (rdC r).toArray 49)).alloc o2).alloc o3) w3) (h2:Below w3.heap.size w3 w5):
  Blk w5 w.heap.size 49 (rdC r).toArray∧Below w.heap.size w w5:=by
 have e1:=h1.size;have e2:=h2.size;simp at e1;refine ⟨((((Blk.new w 49 (rdC r).toArray).alloc o2).alloc o3).below h1 (by simp;omega)).below h2 (by omega),?_⟩;exact (((((Bf _ _).alloc (Le _) _).alloc (by simp) _).alloc (by simp;omega) _).trans (h1.mono (by simp;omega))).trans (h2.mono (by omega))
theorem ex_box3 {r:Rdd} {w w5:Wd} {o2:Obj} (h:Below ((w.alloc (.cells (rdC r).toArray 49)).alloc o2).heap.size ((w.alloc (.cells (rdC r).toArray 49)).alloc o2) w5):
  Blk w5 w.heap.size 49 (rdC r).toArray∧Below w.heap.size w w5:=
 ⟨((Blk.new w 49 (rdC r).toArray).alloc o2).below h (by simp;omega),(((Bf _ _).alloc (Le _) _).alloc (by simp) _).trans (h.mono (by simp;omega))⟩
theorem method_g1 (A:Option Addr) (n c:Nat) (w:Wd):(method 489 132 (.slice A n c) "Get").run prog w = .ok (340,.slice A n c) w:=by kernel_rfl
theorem method_n1 (A:Option Addr) (n c:Nat) (w:Wd):(method 489 132 (.slice A n c) "Next").run prog w = .ok (341,.slice A n c) w:=by kernel_rfl
def ExG (ps:List Pr) (r:Rdd) (w:Wd) (e:Ending) (w':Wd):Prop:=e = .returned (.bool (Vy ps r))∧Below w.heap.size w w'
theorem ps_some {st:List Cnt} {id:Int} {x:Cnt} (h:Yn st id=some x):Zj (st.map plC) id=x.ps:=by
 unfold Zj;rw [Hk,h];rfl
theorem ps_none {st:List Cnt} {id:Int} (h:Yn st id=none):Zj (st.map plC) id = []:=by
 unfold Zj;rw [Hk,h];rfl
theorem explained_g (r:Rdd) (bs:Nat) (st:List Cnt) (w:Wd) (hs:SW w bs st):
  Calls prog 28 #[.map (some bs),.agg (rdC r).toArray] w (ExG (Zj (st.map plC) r.id) r w):=by
 obtain ⟨i0,aU,aW,aK,aR⟩:=info_parts Eb;have hg:=method_g1;have hn:=method_n1;cases dY:Yn st r.id with
 |some x=>
  rw [ps_some dY];have hid:=(Kx dY).2.2;have dO:=hs.get dY;have hl:∀ o1,(Instr.lookup 65 (.map (some bs)) (.int .i64 r.id) true).run prog (w.alloc o1) = .ok (.tuple #[.agg (cnC x).toArray,.bool true]) (w.alloc o1):=fun o1=>by have h:=Ii (w.alloc o1) bs st r.id (hs.sb.after ((Bf _ _).alloc (Le _) _));rw [dY] at h;exact h
  have H1:=Hd (Vz x);have HB:Hid (∀ o1 old,Blk ((w.alloc o1).alloc (.cells old 30)) (w.heap.size+1) 30 old):=Hd fun o1 old=>U3 (w.alloc o1) _ old _ (by simp)
  have HS:Hid (∀ o1 old cs,((w.alloc o1).alloc (.cells old 30)).setRow (w.heap.size+1) cs=(w.alloc o1).alloc (.cells cs 30)):=Hd fun o1 old cs=>Ug (w.alloc o1) _ (by simp) old cs _
  have r0:∀ o,((w.alloc (.cells (rdC r).toArray 49)).alloc o).cell? ⟨w.heap.size,1,none⟩=some (.int .i64 r.id):=fun o=>(((Blk.new w _ _).alloc _).cell 1).trans rfl
  have r1:(w.alloc (.cells (rdC r).toArray 49)).cell? ⟨w.heap.size,1,none⟩=some (.int .i64 r.id):=((Blk.new w _ _).cell 1).trans rfl;have cF:Hid (∀ o1 o2,Rd (((w.alloc o1).alloc o2).alloc (.cells (cnC x).toArray 30)) (((w.alloc o1).alloc o2).heap.size+1) 23 (some ⟨((w.alloc o1).alloc o2).heap.size,0,none⟩) 1 (cnC x)):=Hd fun o1 o2=>Vw ((w.alloc o1).alloc o2) (cnC x) 30 1 23 rfl
  have HP:Hid (∀ o1 o2 o3,CW (((w.alloc o1).alloc o2).alloc o3) x):=Hd fun o1 o2 o3=>dO.below ((((Bf _ _).alloc (Le _) _).alloc (by simp) _).alloc (by simp;omega) _)
  have HID:=Hd hid;clear hs dO hid dY;by_cases hk:r.kind=0
  ·have b0:(r.kind == 0)=true:=by simpa using hk
   obtain ⟨v,hv⟩:∃ v,Fw x.ps r.key=v:=⟨_,rfl⟩
   obtain ⟨v1,v2⟩:=v;have eH:Hid (ansF x.ps r=if v2=0 then (r.key,v1,0) else (⟨#[]⟩,⟨#[]⟩,6)):=Hd (by unfold ansF;rw [if_pos hk,hv]);have HV:=Hd hv;clear hk hv;go_enter Tryz.func28,Tryz.ntmps28
   go_upto_region 10 with (first|((with_reducible refine Gt 30 6 ?_);refine Lv 30 (w.heap.size+1) ((cnC x).toArray) (HB.out _ _) H1.out ?_;rw [HS.out])|((with_reducible refine Gl 30 6 ?_);refine Lq 30 (w.heap.size+1) _ (HB.out _ _) Tryz.underlying30 ?_)|((with_reducible refine Gc 22 ?_);refine wpList_buildSlice rfl 22 30 1 _ rfl (cnC x).toArray i0 (.agg zV.toArray) Tryz.underlying22 aU aW (by rw [aK];decide) (by rw [aK];decide) (by rw [aK];kernel_rfl) ?_)|(at_builtin;go_must (refine U5 _ rfl _ _ 22 rfl w.heap.size 30 i0 _ 23 216 Tryz.underlying22 aU aW aK aR rfl (by decide) (.slice none 0 0) 0 [] rfl ⟨rfl,.inl ⟨rfl,rfl⟩⟩ _ _ 1 1 (cnC x) rfl (cF.out _ _) (Fa x) (by decide) (by decide) (by simp;omega) ?_;intro v' w3 aD aO _;obtain ⟨h,c'',rfl,_⟩:=Zt aD (by decide);have aS:=Hd aD;have bG:=Hd (Xh (show World.grownBy _ w3 none from aO));have jH:=Hd ((HP.out _ _ _).below bG.out);clear aD aO))|(go_at_call 52;refine (Reader_g x h c'' w3 jH.out (Fp aS.out)).mono ?_;rintro e w5 ⟨h5,c5,rfl,hr5,dG⟩;obtain ⟨RA,rn,rc,hRA⟩:∃ RA rn rc,(Value.slice (some ⟨h5,0,none⟩) 1 c5) = .slice RA rn rc:=⟨_,_,_,rfl⟩;have cU:=rs_some (cc:=c5) hr5;rw [hRA] at cU ⊢;rw [HID.out] at cU;have kM:=Hd cU;have bH:=Hd (ex_box2 (r:=r) bG.out dG);clear hr5 dG hl hRA cU r0 r1;have k2:=(bH.out.1.cell 2).trans (show _=some (Value.string r.key) from rfl);have a0:∀ o,(w5.alloc o).cell? ⟨w.heap.size,0,none⟩=some (.int .i64 r.kind):=fun o=>((bH.out.1.alloc o).cell 0).trans rfl;have a1:∀ o,(w5.alloc o).cell? ⟨w.heap.size,1,none⟩=some (.int .i64 r.id):=fun o=>((bH.out.1.alloc o).cell 1).trans rfl;have a2:∀ o,(w5.alloc o).cell? ⟨w.heap.size,2,none⟩=some (.string r.key):=fun o=>((bH.out.1.alloc o).cell 2).trans rfl;)|(go_at_call 340;refine (get_at RA rn rc r.id r.key x.ps _ (kM.out.below ((Bf _ _).alloc (Le _) _))).mono ?_;rintro e w7 ⟨rfl,hb⟩;rw [HV.out];have he:=EY.mk' bH.out.1 bH.out.2 hb;have eP:=Hd he;have q0:=(he.b2.cell 0).trans (show _=some (Value.string r.key) from rfl);have q1:=(he.b2.cell 1).trans (show _=some (Value.string ⟨#[]⟩) from rfl);have q2:=(he.b2.cell 2).trans (show _=some (Value.int .i64 0) from rfl);have f0:=he.b2.free 0;have f1:=he.b2.free 1;have f2:=he.b2.free 2;clear hb he k2 a0 a1 a2 hg hn))
   obtain ⟨W,hW,he⟩:∃ W,(w7.setCell ⟨w5.heap.size,1,none⟩ (.string v1)).setCell ⟨w5.heap.size,2,none⟩ (.int .i64 v2)=W∧EY r w W w5.heap.size r.key v1 v2:=⟨_,rfl,eP.out.set2 _ _⟩
   rw [hW];have HE:=Hd he;have r2:=(he.b2.cell 2).trans (show _=some (Value.int .i64 v2) from rfl);clear hW q0 q1 q2 f0 f1 f2 he;by_cases hz:v2=0
   ·subst hz;obtain ⟨z,aK,aR⟩:=J1 (r.ak,r.ar,r.code) (r.key,v1,0);simp only at aR;have cJ:Hid (Vy x.ps r=z):=Hd (by unfold Vy;rw [eH.out,if_pos rfl];exact aK);clear aK;go_wp2_with (first|((with_reducible refine Gl 47 58 ?_);refine Ln 47 w.heap.size 3 _ (Id HE.out.b1) Tryz.underlying47 ?_)|((with_reducible refine Gl 47 9 ?_);refine Lq 47 w5.heap.size (_) HE.out.b2 Tryz.underlying47 ?_));go_ret;exact ⟨by rw [cJ.out];rfl,HE.out.be⟩
   ·have b2:(v2 != 0)=true:=by simpa using hz
    obtain ⟨z,aK,aR⟩:=J1 (r.ak,r.ar,r.code) (⟨#[]⟩,⟨#[]⟩,6);simp only at aR;have cJ:Hid (Vy x.ps r=z):=Hd (by unfold Vy;rw [eH.out,if_neg hz];exact aK);have HQ:Hid ((#[.string ⟨#[]⟩,.string ⟨#[]⟩,.int .i64 6]:Array Value).all (·.oneCell')=true):=Hd (by simp [Value.oneCell']);clear aK hz;go_wp2_with (first|((with_reducible refine Gt 47 9 ?_);refine Lv 47 w5.heap.size (#[.string ⟨#[]⟩,.string ⟨#[]⟩,.int .i64 6]) HE.out.b2 HQ.out ?_)|((with_reducible refine Gl 47 58 ?_);refine Ln 47 w.heap.size 3 _ (Id HE.out.row.b1) Tryz.underlying47 ?_)|((with_reducible refine Gl 47 9 ?_);refine Lq 47 w5.heap.size (_) HE.out.row.b2 Tryz.underlying47 ?_));go_ret;exact ⟨by rw [cJ.out];rfl,HE.out.row.be⟩
  ·have b0:(r.kind == 0)=false:=by simpa using hk
   obtain ⟨v,hv⟩:∃ v,Gh x.ps r.key=v:=⟨_,rfl⟩
   obtain ⟨v0,v1,v2⟩:=v;have eH:Hid (ansF x.ps r=if v2=0 then (v0,v1,v2) else (⟨#[]⟩,⟨#[]⟩,6)):=Hd (by unfold ansF;rw [if_neg hk,hv]);have HV:=Hd hv;clear hk hv;go_enter Tryz.func28,Tryz.ntmps28
   go_upto_region 10 with (first|((with_reducible refine Gt 30 6 ?_);refine Lv 30 (w.heap.size+1) ((cnC x).toArray) (HB.out _ _) H1.out ?_;rw [HS.out])|((with_reducible refine Gl 30 6 ?_);refine Lq 30 (w.heap.size+1) _ (HB.out _ _) Tryz.underlying30 ?_)|((with_reducible refine Gc 22 ?_);refine wpList_buildSlice rfl 22 30 1 _ rfl (cnC x).toArray i0 (.agg zV.toArray) Tryz.underlying22 aU aW (by rw [aK];decide) (by rw [aK];decide) (by rw [aK];kernel_rfl) ?_)|(at_builtin;go_must (refine U5 _ rfl _ _ 22 rfl w.heap.size 30 i0 _ 23 216 Tryz.underlying22 aU aW aK aR rfl (by decide) (.slice none 0 0) 0 [] rfl ⟨rfl,.inl ⟨rfl,rfl⟩⟩ _ _ 1 1 (cnC x) rfl (cF.out _ _) (Fa x) (by decide) (by decide) (by simp;omega) ?_;intro v' w3 aD aO _;obtain ⟨h,c'',rfl,_⟩:=Zt aD (by decide);have aS:=Hd aD;have bG:=Hd (Xh (show World.grownBy _ w3 none from aO));have jH:=Hd ((HP.out _ _ _).below bG.out);clear aD aO))|(go_at_call 52;refine (Reader_g x h c'' w3 jH.out (Fp aS.out)).mono ?_;rintro e w5 ⟨h5,c5,rfl,hr5,dG⟩;obtain ⟨RA,rn,rc,hRA⟩:∃ RA rn rc,(Value.slice (some ⟨h5,0,none⟩) 1 c5) = .slice RA rn rc:=⟨_,_,_,rfl⟩;have cU:=rs_some (cc:=c5) hr5;rw [hRA] at cU ⊢;rw [HID.out] at cU;have kM:=Hd cU;have bH:=Hd (ex_box2 (r:=r) bG.out dG);clear hr5 dG hl hRA cU r0 r1;have k2:=(bH.out.1.cell 2).trans (show _=some (Value.string r.key) from rfl);have a0:∀ o,(w5.alloc o).cell? ⟨w.heap.size,0,none⟩=some (.int .i64 r.kind):=fun o=>((bH.out.1.alloc o).cell 0).trans rfl;have a1:∀ o,(w5.alloc o).cell? ⟨w.heap.size,1,none⟩=some (.int .i64 r.id):=fun o=>((bH.out.1.alloc o).cell 1).trans rfl;have a2:∀ o,(w5.alloc o).cell? ⟨w.heap.size,2,none⟩=some (.string r.key):=fun o=>((bH.out.1.alloc o).cell 2).trans rfl;)|(go_at_call 341;refine (next_at RA rn rc r.id r.key x.ps _ (kM.out.below ((Bf _ _).alloc (Le _) _))).mono ?_;rintro e w7 ⟨rfl,hb⟩;rw [HV.out];have he:=EY.mk' bH.out.1 bH.out.2 hb;have eP:=Hd he;have q0:=(he.b2.cell 0).trans (show _=some (Value.string r.key) from rfl);have q1:=(he.b2.cell 1).trans (show _=some (Value.string ⟨#[]⟩) from rfl);have q2:=(he.b2.cell 2).trans (show _=some (Value.int .i64 0) from rfl);have f0:=he.b2.free 0;have f1:=he.b2.free 1;have f2:=he.b2.free 2;clear hb he k2 a0 a1 a2 hg hn))
   obtain ⟨W,hW,he⟩:∃ W,((w7.setCell ⟨w5.heap.size,0,none⟩ (.string v0)).setCell ⟨w5.heap.size,1,none⟩ (.string v1)).setCell ⟨w5.heap.size,2,none⟩ (.int .i64 v2)=W∧EY r w W w5.heap.size v0 v1 v2:=⟨_,rfl,eP.out.set3 _ _ _⟩
   rw [hW];have HE:=Hd he;have r2:=(he.b2.cell 2).trans (show _=some (Value.int .i64 v2) from rfl);clear hW q0 q1 q2 f0 f1 f2 he;by_cases hz:v2=0
   ·subst hz;obtain ⟨z,aK,aR⟩:=J1 (r.ak,r.ar,r.code) (v0,v1,0);simp only at aR;have cJ:Hid (Vy x.ps r=z):=Hd (by unfold Vy;rw [eH.out,if_pos rfl];exact aK);clear aK;go_wp2_with (first|((with_reducible refine Gl 47 58 ?_);refine Ln 47 w.heap.size 3 _ (Id HE.out.b1) Tryz.underlying47 ?_)|((with_reducible refine Gl 47 9 ?_);refine Lq 47 w5.heap.size (_) HE.out.b2 Tryz.underlying47 ?_));go_ret;exact ⟨by rw [cJ.out];rfl,HE.out.be⟩
   ·have b2:(v2 != 0)=true:=by simpa using hz
    obtain ⟨z,aK,aR⟩:=J1 (r.ak,r.ar,r.code) (⟨#[]⟩,⟨#[]⟩,6);simp only at aR;have cJ:Hid (Vy x.ps r=z):=Hd (by unfold Vy;rw [eH.out,if_neg hz];exact aK);have HQ:Hid ((#[.string ⟨#[]⟩,.string ⟨#[]⟩,.int .i64 6]:Array Value).all (·.oneCell')=true):=Hd (by simp [Value.oneCell']);clear aK hz;go_wp2_with (first|((with_reducible refine Gt 47 9 ?_);refine Lv 47 w5.heap.size (#[.string ⟨#[]⟩,.string ⟨#[]⟩,.int .i64 6]) HE.out.b2 HQ.out ?_)|((with_reducible refine Gl 47 58 ?_);refine Ln 47 w.heap.size 3 _ (Id HE.out.row.b1) Tryz.underlying47 ?_)|((with_reducible refine Gl 47 9 ?_);refine Lq 47 w5.heap.size (_) HE.out.row.b2 Tryz.underlying47 ?_));go_ret;exact ⟨by rw [cJ.out];rfl,HE.out.row.be⟩
 |none=>
  rw [ps_none dY];have hl:∀ o1,(Instr.lookup 65 (.map (some bs)) (.int .i64 r.id) true).run prog (w.alloc o1) = .ok (.tuple #[.agg zV.toArray,.bool false]) (w.alloc o1):=fun o1=>by have h:=Ii (w.alloc o1) bs st r.id (hs.sb.after ((Bf _ _).alloc (Le _) _));rw [dY] at h;exact h
  have H1:=Hd (zV_one);have HB:Hid (∀ o1 old,Blk ((w.alloc o1).alloc (.cells old 30)) (w.heap.size+1) 30 old):=Hd fun o1 old=>U3 (w.alloc o1) _ old _ (by simp)
  have HS:Hid (∀ o1 old cs,((w.alloc o1).alloc (.cells old 30)).setRow (w.heap.size+1) cs=(w.alloc o1).alloc (.cells cs 30)):=Hd fun o1 old cs=>Ug (w.alloc o1) _ (by simp) old cs _
  have r0:∀ o,((w.alloc (.cells (rdC r).toArray 49)).alloc o).cell? ⟨w.heap.size,1,none⟩=some (.int .i64 r.id):=fun o=>(((Blk.new w _ _).alloc _).cell 1).trans rfl
  have r1:(w.alloc (.cells (rdC r).toArray 49)).cell? ⟨w.heap.size,1,none⟩=some (.int .i64 r.id):=((Blk.new w _ _).cell 1).trans rfl;clear hs dY;by_cases hk:r.kind=0
  ·have b0:(r.kind == 0)=true:=by simpa using hk
   obtain ⟨v,hv⟩:∃ v,Fw [] r.key=v:=⟨_,rfl⟩
   obtain ⟨v1,v2⟩:=v;have eH:Hid (ansF [] r=if v2=0 then (r.key,v1,0) else (⟨#[]⟩,⟨#[]⟩,6)):=Hd (by unfold ansF;rw [if_pos hk,hv]);have HV:=Hd hv;clear hk hv;go_enter Tryz.func28,Tryz.ntmps28
   go_upto_region 10 with (first|((with_reducible refine Gt 30 6 ?_);refine Lv 30 (w.heap.size+1) (zV.toArray) (HB.out _ _) H1.out ?_;rw [HS.out])|(go_at_call 52;refine (Gs _).mono ?_;rintro e w5 ⟨rfl,dG⟩;obtain ⟨RA,rn,rc,hRA⟩:∃ RA rn rc,(Value.slice none 0 0) = .slice RA rn rc:=⟨_,_,_,rfl⟩;have cU:=rs_none r.id w5;rw [hRA] at cU ⊢;have kM:=Hd cU;have bH:Hid (Blk w5 w.heap.size 49 (rdC r).toArray∧Below w.heap.size w w5):=Hd (ex_box3 dG);clear dG hl hRA cU r0 r1;have k2:=(bH.out.1.cell 2).trans (show _=some (Value.string r.key) from rfl);have a0:∀ o,(w5.alloc o).cell? ⟨w.heap.size,0,none⟩=some (.int .i64 r.kind):=fun o=>((bH.out.1.alloc o).cell 0).trans rfl;have a1:∀ o,(w5.alloc o).cell? ⟨w.heap.size,1,none⟩=some (.int .i64 r.id):=fun o=>((bH.out.1.alloc o).cell 1).trans rfl;have a2:∀ o,(w5.alloc o).cell? ⟨w.heap.size,2,none⟩=some (.string r.key):=fun o=>((bH.out.1.alloc o).cell 2).trans rfl;)|(go_at_call 340;refine (get_at RA rn rc r.id r.key [] _ (kM.out.below ((Bf _ _).alloc (Le _) _))).mono ?_;rintro e w7 ⟨rfl,hb⟩;rw [HV.out];have he:=EY.mk' bH.out.1 bH.out.2 hb;have eP:=Hd he;have q0:=(he.b2.cell 0).trans (show _=some (Value.string r.key) from rfl);have q1:=(he.b2.cell 1).trans (show _=some (Value.string ⟨#[]⟩) from rfl);have q2:=(he.b2.cell 2).trans (show _=some (Value.int .i64 0) from rfl);have f0:=he.b2.free 0;have f1:=he.b2.free 1;have f2:=he.b2.free 2;clear hb he k2 a0 a1 a2 hg hn))
   obtain ⟨W,hW,he⟩:∃ W,(w7.setCell ⟨w5.heap.size,1,none⟩ (.string v1)).setCell ⟨w5.heap.size,2,none⟩ (.int .i64 v2)=W∧EY r w W w5.heap.size r.key v1 v2:=⟨_,rfl,eP.out.set2 _ _⟩
   rw [hW];have HE:=Hd he;have r2:=(he.b2.cell 2).trans (show _=some (Value.int .i64 v2) from rfl);clear hW q0 q1 q2 f0 f1 f2 he;by_cases hz:v2=0
   ·subst hz;obtain ⟨z,aK,aR⟩:=J1 (r.ak,r.ar,r.code) (r.key,v1,0);simp only at aR;have cJ:Hid (Vy [] r=z):=Hd (by unfold Vy;rw [eH.out,if_pos rfl];exact aK);clear aK;go_wp2_with (first|((with_reducible refine Gl 47 58 ?_);refine Ln 47 w.heap.size 3 _ (Id HE.out.b1) Tryz.underlying47 ?_)|((with_reducible refine Gl 47 9 ?_);refine Lq 47 w5.heap.size (_) HE.out.b2 Tryz.underlying47 ?_));go_ret;exact ⟨by rw [cJ.out];rfl,HE.out.be⟩
   ·have b2:(v2 != 0)=true:=by simpa using hz
    obtain ⟨z,aK,aR⟩:=J1 (r.ak,r.ar,r.code) (⟨#[]⟩,⟨#[]⟩,6);simp only at aR;have cJ:Hid (Vy [] r=z):=Hd (by unfold Vy;rw [eH.out,if_neg hz];exact aK);have HQ:Hid ((#[.string ⟨#[]⟩,.string ⟨#[]⟩,.int .i64 6]:Array Value).all (·.oneCell')=true):=Hd (by simp [Value.oneCell']);clear aK hz;go_wp2_with (first|((with_reducible refine Gt 47 9 ?_);refine Lv 47 w5.heap.size (#[.string ⟨#[]⟩,.string ⟨#[]⟩,.int .i64 6]) HE.out.b2 HQ.out ?_)|((with_reducible refine Gl 47 58 ?_);refine Ln 47 w.heap.size 3 _ (Id HE.out.row.b1) Tryz.underlying47 ?_)|((with_reducible refine Gl 47 9 ?_);refine Lq 47 w5.heap.size (_) HE.out.row.b2 Tryz.underlying47 ?_));go_ret;exact ⟨by rw [cJ.out];rfl,HE.out.row.be⟩
  ·have b0:(r.kind == 0)=false:=by simpa using hk
   obtain ⟨v,hv⟩:∃ v,Gh [] r.key=v:=⟨_,rfl⟩
   obtain ⟨v0,v1,v2⟩:=v;have eH:Hid (ansF [] r=if v2=0 then (v0,v1,v2) else (⟨#[]⟩,⟨#[]⟩,6)):=Hd (by unfold ansF;rw [if_neg hk,hv]);have HV:=Hd hv;clear hk hv;go_enter Tryz.func28,Tryz.ntmps28
   go_upto_region 10 with (first|((with_reducible refine Gt 30 6 ?_);refine Lv 30 (w.heap.size+1) (zV.toArray) (HB.out _ _) H1.out ?_;rw [HS.out])|(go_at_call 52;refine (Gs _).mono ?_;rintro e w5 ⟨rfl,dG⟩;obtain ⟨RA,rn,rc,hRA⟩:∃ RA rn rc,(Value.slice none 0 0) = .slice RA rn rc:=⟨_,_,_,rfl⟩;have cU:=rs_none r.id w5;rw [hRA] at cU ⊢;have kM:=Hd cU;have bH:Hid (Blk w5 w.heap.size 49 (rdC r).toArray∧Below w.heap.size w w5):=Hd (ex_box3 dG);clear dG hl hRA cU r0 r1;have k2:=(bH.out.1.cell 2).trans (show _=some (Value.string r.key) from rfl);have a0:∀ o,(w5.alloc o).cell? ⟨w.heap.size,0,none⟩=some (.int .i64 r.kind):=fun o=>((bH.out.1.alloc o).cell 0).trans rfl;have a1:∀ o,(w5.alloc o).cell? ⟨w.heap.size,1,none⟩=some (.int .i64 r.id):=fun o=>((bH.out.1.alloc o).cell 1).trans rfl;have a2:∀ o,(w5.alloc o).cell? ⟨w.heap.size,2,none⟩=some (.string r.key):=fun o=>((bH.out.1.alloc o).cell 2).trans rfl;)|(go_at_call 341;refine (next_at RA rn rc r.id r.key [] _ (kM.out.below ((Bf _ _).alloc (Le _) _))).mono ?_;rintro e w7 ⟨rfl,hb⟩;rw [HV.out];have he:=EY.mk' bH.out.1 bH.out.2 hb;have eP:=Hd he;have q0:=(he.b2.cell 0).trans (show _=some (Value.string r.key) from rfl);have q1:=(he.b2.cell 1).trans (show _=some (Value.string ⟨#[]⟩) from rfl);have q2:=(he.b2.cell 2).trans (show _=some (Value.int .i64 0) from rfl);have f0:=he.b2.free 0;have f1:=he.b2.free 1;have f2:=he.b2.free 2;clear hb he k2 a0 a1 a2 hg hn))
   obtain ⟨W,hW,he⟩:∃ W,((w7.setCell ⟨w5.heap.size,0,none⟩ (.string v0)).setCell ⟨w5.heap.size,1,none⟩ (.string v1)).setCell ⟨w5.heap.size,2,none⟩ (.int .i64 v2)=W∧EY r w W w5.heap.size v0 v1 v2:=⟨_,rfl,eP.out.set3 _ _ _⟩
   rw [hW];have HE:=Hd he;have r2:=(he.b2.cell 2).trans (show _=some (Value.int .i64 v2) from rfl);clear hW q0 q1 q2 f0 f1 f2 he;by_cases hz:v2=0
   ·subst hz;obtain ⟨z,aK,aR⟩:=J1 (r.ak,r.ar,r.code) (v0,v1,0);simp only at aR;have cJ:Hid (Vy [] r=z):=Hd (by unfold Vy;rw [eH.out,if_pos rfl];exact aK);clear aK;go_wp2_with (first|((with_reducible refine Gl 47 58 ?_);refine Ln 47 w.heap.size 3 _ (Id HE.out.b1) Tryz.underlying47 ?_)|((with_reducible refine Gl 47 9 ?_);refine Lq 47 w5.heap.size (_) HE.out.b2 Tryz.underlying47 ?_));go_ret;exact ⟨by rw [cJ.out];rfl,HE.out.be⟩
   ·have b2:(v2 != 0)=true:=by simpa using hz
    obtain ⟨z,aK,aR⟩:=J1 (r.ak,r.ar,r.code) (⟨#[]⟩,⟨#[]⟩,6);simp only at aR;have cJ:Hid (Vy [] r=z):=Hd (by unfold Vy;rw [eH.out,if_neg hz];exact aK);have HQ:Hid ((#[.string ⟨#[]⟩,.string ⟨#[]⟩,.int .i64 6]:Array Value).all (·.oneCell')=true):=Hd (by simp [Value.oneCell']);clear aK hz;go_wp2_with (first|((with_reducible refine Gt 47 9 ?_);refine Lv 47 w5.heap.size (#[.string ⟨#[]⟩,.string ⟨#[]⟩,.int .i64 6]) HE.out.b2 HQ.out ?_)|((with_reducible refine Gl 47 58 ?_);refine Ln 47 w.heap.size 3 _ (Id HE.out.row.b1) Tryz.underlying47 ?_)|((with_reducible refine Gl 47 9 ?_);refine Lq 47 w5.heap.size (_) HE.out.row.b2 Tryz.underlying47 ?_));go_ret;exact ⟨by rw [cJ.out];rfl,HE.out.row.be⟩
theorem cread_index (b0:Nat) (p:Rdd→Bool) (A:Option Addr) (n c:Nat) (l:List Rdd) (w:Wd) (hs:Sl rdC 6 w w.heap.size A n c l) (hn:n≤9223372036854775807)
  (hC:∀ x∈l,∀ W:Wd,Below w.heap.size w W→Calls prog 27 #[.agg #[.int .i64 x.kind,.int .i64 x.id,.string x.key,.string x.ak,.string x.ar,.int .i64 x.code],.pointer (some ⟨b0,0,none⟩)] W fun e w'=>e = .returned (.bool (p x))∧Below W.heap.size W w'):
  Calls prog 26 #[.slice A n c,.func (.func 27) #[] #[.pointer (some ⟨b0,0,none⟩)]] w fun e w'=>e = .returned (.int .i64 (if l.findIdx p<n then (l.findIdx p:Int) else -1))∧Below w.heap.size w w':=by
 have HS:=Hd hs;have HL:=Hd hs.len;have HC:=Hd hC;clear hs hC;obtain ⟨R,hR⟩:∃ R:Int,(if l.findIdx p<n then (l.findIdx p:Int) else -1)=R:=⟨_,rfl⟩
 rw [hR];have HR:=Hd hR;clear hR;go_enter Tryz.func26,Tryz.ntmps26;go_wp2;go_loopw [8] (fun i wr => ∃ j:Nat,j≤n∧i = .int .i64 j∧(∀ t,t<j→∀ e,l[t]? =some e→p e=false)∧Below w.heap.size w wr) (fun i _=>n-(intOf i).toNat)
 case atStart=>exact ⟨0,Z0 _,rfl,fun t h=>absurd h (by omega),Bf _ _⟩
 case round=>
  obtain ⟨j,hj,rfl,hall,aE⟩:=hrel;have HA:=Hd hall;have aN:=aE.size;clear hall;by_cases aG:j<n
  ·obtain ⟨b,o,x,rfl,hb,hg,aB⟩:=Sl.cell (f:=rdC) (k:=6) (fun _=>rfl) (HS.out.below aE) aG;have c0:=aB 0 _ rfl;have c1:=aB 1 _ rfl;have c2:=aB 2 _ rfl;have c3:=aB 3 _ rfl;have c4:=aB 4 _ rfl;have c5:=aB 5 _ rfl;simp only [Nat.add_zero] at c0;have bN:=Hd (HC.out x (List.mem_of_getElem? hg) wr aE);have HG:=Hd hg;clear hg aB;cases hl:p x with
   |true=>
    have hr:R=(j:Int):=by rw [←HR.out,Uy HA.out HG.out hl,if_pos aG]
    have aT:=Hd hr;have bD:=Hd hl;clear hr hl;go_wp2_with fail;refine bN.out.mono ?_;rintro e w1 ⟨rfl,aJ⟩;rw [bD.out];have aF:=U0 aE aJ aN;clear aJ;go_wp2;go_ret;exact ⟨by rw [aT.out];rfl,aF⟩
   |false=>
    have bD:=Hd hl;clear hl;go_wp2_with fail;refine bN.out.mono ?_;rintro e w1 ⟨rfl,aJ⟩;rw [bD.out];have aF:=U0 aE aJ aN;clear aJ;go_wp2;go_roundw
    case rel=>
     refine ⟨j+1,by omega,by go_num,fun t ht e he=>?_,aF⟩;by_cases h:t=j
     ·subst h;rw [HG.out] at he;injection he with he;subst he;exact bD.out
     ·exact HA.out t (by omega) e he
    case measure=>simp [intOf];omega
  ·have hr:R = -1:=by rw [←HR.out,Uu HL.out (fun t ht=>HA.out t (by omega)),if_neg (by omega)]
   have aT:=Hd hr;clear hr;go_wp2;go_ret;exact ⟨by rw [aT.out];rfl,aE⟩
def G8 (s:List PC) (r:Rdd):Bool := !Vy (Zj s r.id) r
theorem check11_g (r:Rdd) (b0 bs:Nat) (st:List Cnt) (w:Wd) (hs:SW w bs st) (bT:w.cell? ⟨b0,0,none⟩=some (.map (some bs))):
  Calls prog 27 #[.agg #[.int .i64 r.kind,.int .i64 r.id,.string r.key,.string r.ak,.string r.ar,.int .i64 r.code],.pointer (some ⟨b0,0,none⟩)] w fun e w'=>e = .returned (.bool (G8 (st.map plC) r))∧Below w.heap.size w w':=by
 have hb:Below w.heap.size w (w.alloc (.cells (rdC r).toArray 49)):=(Bf _ _).alloc (Le _) _;have HX:=Hd (explained_g r bs st _ (hs.below hb));have c0:∀ o,(w.alloc o).cell? ⟨b0,0,none⟩=some (.map (some bs)):=fun o=>(World.cell?_alloc_lt w _ _ (Jh bT)).trans bT
 have kC:=Hd (Blk.new w 49 (rdC r).toArray);have HB:=Hd hb;unfold G8;clear hs bT hb;go_enter Tryz.func27,Tryz.ntmps27;go_wp2_with (first|((with_reducible refine Gl 49 2 ?_);refine Lq 49 w.heap.size ((rdC r).toArray) kC.out Tryz.underlying49 ?_)|(go_at_call 28;refine HX.out.mono ?_;rintro e w2 ⟨rfl,aF⟩;have aL:=Hd (HB.out.trans (aF.mono HB.out.size));clear aF));go_ret;exact ⟨rfl,aL.out⟩
def Chk1P (s:List PC) (i:Nat) (rs:List Rdd) (pu pr:Nat) (w:Wd) (e:Ending) (w':Wd):Prop:=
 if rs.findIdx (G8 s)<rs.length then e = .returned (.bool false)∧Far [pu,pr] w w'∧w'.cell? ⟨pu,0,none⟩=some (.int .i64 i)∧w'.cell? ⟨pr,0,none⟩=some (.int .i64 (rs.findIdx (G8 s):Nat))
 else e = .returned (.bool true)∧Below w.heap.size w w'
theorem check1_g (x:Com) (i pu pr bs:Nat) (a0 b0:Int) (st:List Cnt) (w:Wd) (hs:SW w bs st) (hr:Sl rdC 6 w w.heap.size x.rA x.rn x.rc x.rs) (hn:x.rn≤maxLen) (hu:Blk w pu 3 #[.int .i64 a0]) (hp:Blk w pr 3 #[.int .i64 b0]) (aZ:pu≠pr):
  Calls prog 25 #[.map (some bs),.int .i64 i,.agg (U7 x).toArray,.pointer (some ⟨pu,0,none⟩),.pointer (some ⟨pr,0,none⟩)] w (Chk1P (st.map plC) i x.rs pu pr w):=by
 have aF:Below w.heap.size w ((w.alloc (.cells #[.map (some bs)] 65)).alloc (.cells (U7 x).toArray 34)):=((Bf _ _).alloc (Le _) _).alloc (by simp) _;have k1:Blk ((w.alloc (.cells #[.map (some bs)] 65)).alloc (.cells (U7 x).toArray 34)) w.heap.size 65 #[.map (some bs)]:=(Blk.new w _ _).alloc _;have k2:((w.alloc (.cells #[.map (some bs)] 65)).alloc (.cells (U7 x).toArray 34)).cell? ⟨w.heap.size+1,2,none⟩=some (.slice x.rA x.rn x.rc):=((U3 (w.alloc _) _ _ _ (by simp)).cell 2).trans rfl;have HX:=Hd (cread_index w.heap.size (G8 (st.map plC)) x.rA x.rn x.rc x.rs _ (hr.after aF aF.size) (by unfold maxLen at hn;omega) fun r _ W hW=>check11_g r w.heap.size bs st W ((hs.below aF).below hW) (((k1.below hW k1.lt).cell 0).trans rfl));have hl:=hr.len;have HB:=Hd aF;have HU:=Hd (hu.below aF hu.lt);have HP:=Hd (hp.below aF hp.lt);have bE:=Hd (And.intro hu.lt hp.lt)
 have eY:=Hd aZ;unfold Chk1P;rw [hl];obtain ⟨q,hq⟩:∃ q,x.rs.findIdx (G8 (st.map plC))=q:=⟨_,rfl⟩
 rw [hq] at HX ⊢;clear hs hr hn hu hp aF k1 hl hq;by_cases aG:q<x.rn
 ·simp only [if_pos aG] at HX ⊢;have d1:decide ((0:Int)≤(q:Int))=true:=decide_eq_true (by omega);have d2:decide ((q:Int)<0)=false:=decide_eq_false (by omega);have dD:=aZ.symm;clear aG;go_enter Tryz.func25,Tryz.ntmps25;go_wp2_with (go_at_call 26;refine HX.out.mono ?_;rintro e w2 ⟨rfl,hb⟩;have hu:=HU.out.below hb HU.out.lt;have hp:=HP.out.below hb HP.out.lt;have HU2:=Hd hu;have HP2:=Hd hp;have bC:=Hd (HB.out.trans (hb.mono HB.out.size));have u0:=(hu.cell 0).trans (show _=some (Value.int .i64 a0) from rfl);have p0:=(hp.cell 0).trans (show _=some (Value.int .i64 b0) from rfl);have f0:=hu.free 0;have f1:=hp.free 0;clear hb hu hp k2);go_ret;have hf:Far [pu,pr] w ((w2.setCell ⟨pu,0,none⟩ (.int .i64 i)).setCell ⟨pr,0,none⟩ (.int .i64 q)):=((Far.of_below bC.out).set _ _ _ (.inl (by simp))).set _ _ _ (.inl (by simp))
  have hc1:=(((HU2.out.set 0 (.int .i64 i)).far (p:=⟨pr,0,none⟩) eY.out (.int .i64 q)).cell 0)
  have iD:=((HP2.out.far (p:=⟨pu,0,none⟩) eY.out.symm (.int .i64 i)).set 0 (.int .i64 q)).cell 0;exact ⟨rfl,hf,hc1.trans rfl,iD.trans rfl⟩
 ·simp only [if_neg aG] at HX ⊢;clear aG;go_enter Tryz.func25,Tryz.ntmps25;go_wp2_with (go_at_call 26;refine HX.out.mono ?_;rintro e w2 ⟨rfl,hb⟩;have bC:=Hd (HB.out.trans (hb.mono HB.out.size));clear hb k2);go_ret;exact ⟨rfl,bC.out⟩
theorem replay1_g (x:Com) (i bs:Nat) (w:Wd):Calls prog 21 #[.map (some bs),.int .i64 i,.agg (U7 x).toArray] w fun e w'=>e = .returned (.bool true)∧Below w.heap.size w w':=by
 go_enter Tryz.func21,Tryz.ntmps21;go_wp2;go_ret;exact ⟨rfl,(Bf _ _).alloc (Le _) _⟩
end Go.Proofs.YtoakknkmjnebjaaGreatDoor
