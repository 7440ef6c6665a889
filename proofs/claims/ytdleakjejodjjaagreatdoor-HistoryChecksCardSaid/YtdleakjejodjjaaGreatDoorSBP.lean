/- Of the history laws. -/
import Derived.Test.YtdleakjejodjjaaGreatDoorSCG
import Derived.Test.YtdleakjejodjjaaGreatDoorSBO
namespace Go.Proofs.YtdleakjejodjjaaGreatDoor
open Tryz
set_option linter.all false
set_option maxRecDepth 100000
set_option maxHeartbeats 20000000
open Go.RowKit
section
variable {id:Int} {now:List Cnt} {k:Nat}
def Wr (h:Vc (now.map plC) id=none):S4 id now = -1:=by
 rw [Iy] at h;cases a:Yi now id with
 |some y=>rw [a] at h;cases h
 |none=>unfold S4;rw [QX (GB a)]
def Ws {y:PC} (h:Vc (now.map plC) id=some y):∃ (i:Nat) (x:Cnt),now[i]? =some x/\plC x=y/\x.d.id=id/\S4 id now=(i:Int)/\i<now.length/\now.findIdx (Y5 id)=i:=by
 rw [Iy] at h;cases a:Yi now id with
 |none=>rw [a] at h;cases h
 |some x=>
  rw [a] at h;obtain ⟨b,c,d⟩:=Jc a;exact ⟨_,x,c,by injection h,d,by unfold S4;rw [QK b],b,rfl⟩
def MZ (id:Int) (now:List Cnt) (k:Nat):Bool:=match now[k]? with|some y=>decide (y.d.id<id)|none=>false
def MS (id:Int) (y:Cnt):Bool := !decide (y.d.id<id)
def nh (id:Int) (now:List Cnt):Od id (now.map plC)=now.findIdx (MS id):=by
 unfold Od;rw [List.findIdx_map];rfl
def xW (h:∀ t,t<k->∀ e,now[t]? =some e->MS id e=false) (c:k<=now.length) (a:MZ id now k=false):now.findIdx (MS id)=k:=by
 unfold MZ at a;cases b:now[k]? with
 |none=>
  have hn:=List.getElem?_eq_none_iff.1 b;obtain rfl:k=now.length:=Oo
  exact Vj rfl h
 |some y=>
  rw [b] at a;exact Vn h b (by unfold MS;rw [show decide (y.d.id<id)=false from a];rfl)
def RT (h:∀ t,t<k->∀ e,now[t]? =some e->MS id e=false) (a:MZ id now k=true):k<now.length/\∀ t,t<k+1->∀ e,now[t]? =some e->MS id e=false:=by
 unfold MZ at a;cases b:now[k]? with
 |none=>rw [b] at a;cases a
 |some y=>
  rw [b] at a;exact ⟨(QZ.1 b).1,NM h b (by unfold MS;rw [show decide (y.d.id<id)=true from a];rfl)⟩
def vk {x:Cnt} (h:now.findIdx (MS x.d.id)=k):(now.take k++[x]++now.drop k).map plC=insP (plC x) (now.map plC):=by
 unfold insP;rw [show (plC x).d.id=x.d.id from rfl,nh,h];simp
def Jm (l:List Cnt):∀ u∈U7 cnC l,u.oneCell'=true:=by
 intro u a;unfold U7 at a;obtain ⟨x,_,b⟩:=VA.1 a;exact Ic x u b
def bsC {o:Oper} {a:Act} (b:Operand) (x:Cnt) (f:o.op=.buildSlice 22 1 #[(0,b)]) (i:a.eval b=.agg (cnC x).toArray) (w:Wd):(execOp a.eval o).run prog w=.ok (.value (.slice (Ah w.1.size 0) 1 1)) (Aa w (cnC x).toArray 37):=by
 obtain ⟨d,g,e,c,j⟩:=WG X8;have h:=run_buildSlice (P:=prog) w 22 37 1 #[(0,.agg (cnC x).toArray)] (cnC x).toArray d (.agg zV.toArray) underlying22 g e (by rw [c];decide) (by rw [c];decide) (by rw [c];kernel_rfl);unfold execOp;simp only [f,ZG,KL,KV,WS,KN,i,h,XB]
def BgG (R:Option (List PC)) (w:Wd) (e:Ending) (w':Wd):Prop:=match R with
 |none=>e=.returned (.tuple #[.slice none 0 0,.bool false])/\Below w.1.size w w'
 |some s=>∃ v now,now.map plC=s/\e=.returned (.tuple #[v,.bool true])/\NW w.1.size w' v now/\Below w.1.size w w'
def TM (A:Option Addr) (n c:Nat) (l:List Cnt) (w:Wd) (hs:Sl cnC 23 w w.1.size A n c l) (hp:∀ x∈l,CW w x) (hn:n<=1000):
  Calls prog 22 #[.slice A n c] w (BgG (Jo [] (l.map plC)) w):=by
 obtain ⟨R,hR⟩:∃ R,Jo [] (l.map plC)=R:=⟨_,rfl⟩
 rw [hR];have HR:=Hd hR;have HS:=Hd hs;have HL:=Hd hs.len;have HP:=Hd hp;have U:=Hd hn;have H0:Aw (NW w.1.size (Aa w #[] 37) (.slice (Ah w.1.size 0) 0 0) []/\Below w.1.size w (Aa w #[] 37)):=Hd ⟨⟨GY w 37 23,fun y hy=>by cases hy⟩,Aj⟩;clear hR hs hp hn;go_wp2;go_loopw [4,5] (fun v i wr=>∃ (j:Nat) (now:List Cnt),j<=n/\i=.int .i64 j/\NW w.1.size wr v now/\now.length=j/\Jo (now.map plC) ((l.drop j).map plC)=R/\Below w.1.size w wr) (fun _ i _=>n-(intOf i).toNat)
 .exact ⟨0,[],Z0 _,rfl,H0.1,rfl,HR,H0.2⟩
 .obtain ⟨j,now,hj,rfl,hnw,hnl,aN,aF⟩:=hrel;have g:=Hd aF;have Z:=Hd hnw;have B:=Hd hnl;obtain ⟨D,c4,rfl,Q,_⟩:=U4 hnw.own;rw [hnl] at Z ⊢;rw [hnl] at Q;have eD:=Hd Q;by_cases aE:j<n
  .obtain ⟨b,o,x,rfl,d,M,aB⟩:=Sl.cell (f:=cnC) (k:=23) (fun _=>rfl) HS aE;have C:=Hd fun (W:Wd) (r:Below w.1.size w W) (i:Nat) (v:Value) (I:(cnC x)[i]? =some v)=>(r.cell (p:=⟨b,o+j*23+i,none⟩) d).trans (aB i v I)
   have L:Aw (∀ W,Below w.1.size w W->W.cell? ⟨b,o+j*23,none⟩=some (.int .i64 x.d.id)):=Hd fun W r=>C W r 0 _ rfl
   have Y:=QJ M;have HX:=Hd (HP x Y);have V:=Hd fun W (r:Below w.1.size w W)=>Xo x W (HX.below r)
   have HI:=Hd fun W (r:Below wr.1.size wr W)=>LC x.d.id D j c4 now W (Z.below r).sl.1 (by have:=U.o;omega)
   have dQ:l.drop j=x::l.drop (j+1):=by rw [QO (QZ.1 M).1,(QZ.1 M).2]
   rw [dQ,WS] at aN;unfold Jo at aN;have d1:decide ((j:Int)<(n:Int))=true:=QQ Oo;have d2:decide (j<n)=true:=QQ aE;have N:=Hd aE;clear d M aB Y dQ hnw aF hnl Q hj;cases I:Vi x.d x.ap x.ps with
   |false=>
    rw [I] at V;have eU:Aw (R=none):=Hd (by rw [<-aN,QK (.inl I)]);clear aN I;go_wp2_with (first|((with_reducible refine Gl 37 16 ?_);refine Ln 37 b (o+j*23) (cnC x) (C _ g) underlying37 ?_)|(go_at_call 48;refine yP (V _ g) fun u d=>?_;have s:=Hd (U0 g d g.size);clear d))
    go_ret2
    rw [eU.o];exact ⟨rfl,s⟩
   |true=>
    rw [I] at V;cases q:Vc (now.map plC) x.d.id with
    |some y=>
     have eU:Aw (R=none):=Hd (by rw [<-aN,QK (.inr (by rw [show (plC x).d.id=x.d.id from rfl,q];rfl))]);obtain ⟨i,_,_,_,_,hi,_⟩:=Ws q;rw [hi] at HI;have d3:decide ((0:Int)<=(i:Int))=true:=QQ Oo;clear aN I q;go_wp2_with (first|((with_reducible refine Gl 37 16 ?_);refine Ln 37 b (o+j*23) (cnC x) (C _ g) underlying37 ?_)|(go_at_call 48;refine yP (V _ g) fun u d=>?_;have s:=Hd (U0 g d g.size);have c0:=L _ s;have F:=Hd d;clear d)|(go_at_call 49;refine yE (HI _ F) ?_))
     go_ret2
     rw [eU.o];exact ⟨rfl,s⟩
    |none=>
     rw [QX (by rw [show (plC x).d.id=x.d.id from rfl,q,show Vi (plC x).d (plC x).ap (plC x).ps=true from I];simp)] at aN;have cC:=Hd aN;rw [Wr q] at HI;clear aN I q
     go_upto_region 7 with (first|((with_reducible refine Gl 37 16 ?_);refine Ln 37 b (o+j*23) (cnC x) (C _ g) underlying37 ?_)|(go_at_call 48;refine yP (V _ g) fun u d=>?_;have s:=Hd (U0 g d g.size);have c0:=L _ s;have F:=Hd d;clear d)|(go_at_call 49;refine yE (HI _ F) ?_))
     have m:=Hd (Z.below F);clear Z g V HI F;go_wp2;go_loopw [6] (fun v wx=>∃ k:Nat,k<=j/\v=.int .i64 k/\(∀ t,t<k->∀ e,now[t]? =some e->MS x.d.id e=false)/\Below u.1.size u wx) (fun v _=>j-(intOf v).toNat)
     .exact ⟨0,Z0 _,rfl,fun t h=>absurd h Oo,Bf _ _⟩
     .obtain ⟨k,hk,rfl,hall,dG⟩:=hrel;have HA:=Hd hall;have bM:=Hd dG;have H:=Hd hk;obtain ⟨z,hz⟩:∃ z,MZ x.d.id now k=z:=⟨_,rfl⟩
      have HZ:=Hd hz;clear hall dG c0;refine (ZW k j).elim (fun G=>?lt) (fun hge=>?eq)
      case' lt=>
       have d3:decide ((k:Int)<(j:Int))=true:=QQ Oo;have d4:decide (k<j)=true:=QQ G;obtain ⟨O,P,y,rfl,gS,iT,Q⟩:=Sl.cell (f:=cnC) (k:=23) (fun _=>rfl) m.sl.1 G;have HC4:=Hd fun (W:Wd) (r:Below u.1.size u W)=>(r.cell (p:=⟨O,P+k*23,none⟩) gS).trans (Q 0 _ rfl)
       have aT:decide (y.d.id<x.d.id)=z:=by rw [<-hz];unfold MZ;rw [iT]
       clear hz gS iT Q hk;go_wp2;apply WzR (S:=Below u.1.size u) (R:=Rb) (bM.trans ((Bf _ _).drew.mono bM.size)) (fun _ _ h d=>h.trans (d.mono h.size));apply xp (.int .i64 k);apply xp (.slice (Ah O P) j c4);apply xp (.int .i64 j);apply xp (.bool true);apply xp (.bool true);apply xp (.slice (Ah O P) j c4);apply xp (.int .i64 k);apply xp (Ag O (P+k*23));apply xp (Ag O (P+k*23));apply xp (Ag O (P+k*23));apply xl (.int .i64 y.d.id) (fun W h=>HC4 W h);apply xp (.slice (Ah b o) n c);apply xp (.int .i64 j);apply xp (Ag b (o+j*23));apply xp (Ag b (o+j*23));apply xp (Ag b (o+j*23));apply xl (.int .i64 x.d.id) (fun W h=>L W (s.trans (h.mono s.size)));apply xp (.bool z);apply xp (.bool z);refine xn fun W hS _=>?_
       have wS:=Hd hS;clear hS aT;cases z;rotate_left
       .obtain ⟨h1,h2⟩:=RT HA HZ;have HQ:=Hd (And.intro h1 h2);have hw:IntKind.i64.wrap ((k:Int)+1)=(k:Int)+1:=QL _ (by have:=N.o;have:=U.o;omega);clear h1 h2;go_wp2;go_roundw
        .exact ⟨k+1,by have:=HQ.1;rw [B.o] at this;exact this,Au,HQ.2,wS⟩
        .have:=HQ.1;rw [B.o] at this;simp [intOf];omega
       obtain ⟨D,hA4⟩:∃ D,(some ⟨O,P,none⟩:Option Addr)=D:=⟨_,rfl⟩
       rw [hA4] at m ⊢
      case' eq=>
       have G:k=j:=Oo
       have aT:z=false:=by rw [<-hz];unfold MZ;rw [WM (by rw [B.o];exact hge)]
       subst aT;have d3:decide ((k:Int)<(j:Int))=false:=QW Oo;have d4:decide (k<j)=false:=QW Oo;clear hz hk hge G;go_wp2;apply WzR (S:=Below u.1.size u) (R:=Rb) (bM.trans ((Bf _ _).drew.mono bM.size)) (fun _ _ h d=>h.trans (d.mono h.size));apply xp (.int .i64 k);apply xp (.slice D j c4);apply xp (.int .i64 j);apply xp (.bool false);apply xp (.bool false)
       iterate 13 apply xp undef (VH ⟨Af,Af⟩)
       apply xp (.bool false);refine xn fun W hS _=>?_
       have wS:=Hd hS;clear hS
      all_goals
       have X:=Hd (xW HA (by rw [B.o];exact H) HZ);go_wp2;have iZ:=m.pre (k:=k) H eD;have dX:=m.post (k:=k) H eD;have hst:=fun W=>Gi W D j c4 k (Lx H eD)
       have bN:=fun W=>J0 W D j c4 k H
       refine Rw (S:=Below u.1.size u) Ak (wS.trans ((Bf _ _).drew.mono wS.size)) (fun a=>?_);refine tk 1 (.slice D j c4) a ?_;apply tk 2 (.int .i64 k) a;apply tk 3 (.slice (Gu D c4 0) k c4) a;apply tk 5 (.slice (Ah b o) n c) a;apply tk 6 (.int .i64 j) a;apply tk 7 (Ag b (o+j*23)) a;apply trm 8 37 (cnC x) (fun W r=>C W (s.trans (r.mono s.size))) a underlying37;apply tk 11 (.slice D j c4) a;apply tk 12 (.int .i64 k) a;apply tk 13 (.slice (Gu D c4 k) (j-k) (c4-k)) a
       refine t3 0 9 4 37 22 (cnC x) X8 underlying22 ((iZ.below a).more a.size) (by have:=H.o;have:=N.o;have:=U.o;omega) (fun W r=>a.trans (r.mono a.size)) (fun v0 v1 g2 W3 d ho M=>?_) (ej0:=fun w=>bsC (.tmp 60) x rfl rfl w) (ej1:=fun _ w=>bsC (.tmp 60) x rfl rfl w) (ej2:=fun _ _ w=>bsC (.tmp 60) x rfl rfl w);refine tg 10 X8 underlying22 ho (ET M rfl) (Ic x) (by have:=H.o;have:=N.o;have:=U.o;omega) d.size (fun v5 w5 _ T=>(a.trans (d.mono a.size)).grown T (Lx a.size d.size) (U9 ho a.size)) (fun v5 w5 fP T=>?_);have K:=d.grown T d.size (U9 ho (Le _))
       refine tg 14 X8 underlying22 fP ((dX.below (a.trans (K.mono a.size))).more (Lx a.size K.size)) (Jm _) (by have:=H.o;have:=N.o;have:=U.o;omega) K.size (fun v6 w6 _ T=>(a.trans (K.mono a.size)).grown T (Lx a.size K.size) (U9 fP a.size)) (fun v6 w6 gQ J=>?_);have eG:=K.grown J K.size (U9 fP (Le _));apply tk 15 v6 (a.trans (eG.mono a.size));refine Ad Ak ?_ _;have jU:U7 cnC (now.take k)++cnC x++U7 cnC (now.drop k)=U7 cnC (now.take k++[x]++now.drop k):=by rw [V9,V9,Xr]
       rw [jU] at gQ;have E:Below w.1.size w W.drew:=s.trans (a.mono s.size)
       have HW6:Aw (NW w.1.size w6 v6 (now.take k++[x]++now.drop k)):=Hd (by
        refine NW.fresh (W:=W.drew) (fun y hy=>?_) eG E.size gQ;rcases QC.1 hy with hy|hy
        .rcases QC.1 hy with hy|hy
         .exact ((m.below a).ps y (XA hy)).1
         .rw [QT.1 hy];exact HX.below E
        .exact ((m.below a).ps y (ZY hy)).1)
       have cY:=Hd (E.trans (eG.mono E.size));have hw:IntKind.i64.wrap ((j:Int)+1)=(j:Int)+1:=QL _ (by have:=N.o;have:=U.o;omega);have eT:Aw ((now.take k++[x]++now.drop k).length=j+1):=Hd (by have:=B.o;have:=H.o;simp;omega);clear E eG a gQ fP ho M T J d K jU iZ dX hst bN;go_wp2;go_roundw
       .exact ⟨j+1,_,N,Au,HW6,eT,by rw [vk X.o];exact cC,cY⟩
       .simp [intOf];have:=N.o;omega
  .obtain rfl:j=n:=Oo
   have eU:Aw (R=some (now.map plC)):=Hd (by rw [<-aN,WP (by rw [HL.o];exact Le _)];rfl);clear aN aE hj hnw aF hnl Q;go_wp2
   go_ret2
   rw [eU.o];exact ⟨_,now,rfl,rfl,Z,g⟩
end
section
variable {d:DSet} {c:Chg} {now:List Cnt} {id:Int} {i:Nat} {z:Cnt} {M:Nat} {u:Com} {m q:Nat} {w W W':Wd} {v:Value} {q' k n:Nat} {v':Value} {N base g:Nat} {x:Cnt} {R:Int ⊕ PC} {wc wb:Wd} {g4:Nat} {e:Ending} {o:Oper} {a:Act} {P:Program} {K:Act->Wd->Prop} {Q:Exit->Act->Wd->Prop} {f:FuncId} {args:Array Value} {md:Region.Mode} {ops:Array Oper} {S:Wd->Prop} {fuel:Nat} {listed:Array Bool} {oi:Oper}
def u5 {l b:List Pr} (h:Ys d l c=.inr b):b.length<=l.length+1:=by
 unfold Ys at h
 repeat' split at h
 all_goals first
  |cases h;done
  |(injection h with h;subst h;first|exact (Pq l c.key c.rcd).2.1|exact Nat.le_succ_of_le (FT l c.key).length_le|simp)
def qt {x y:PC} {n:Int} (b:x.ps.length<=1000) (h:doF x n c=.inr y):y.d=x.d/\y.ps.length<=x.ps.length+1:=by
 rw [<-pB b] at h;unfold doR at h;split at h
 .split at h
  .injection h with h
   subst h;exact ⟨rfl,JX _⟩
  .split at h
   .cases h
   .rename_i l2 eN;split at h
    .injection h with h
     subst h;exact ⟨rfl,u5 eN⟩
    .cases h
 .cases h
def nY (h:now.findIdx (Y5 id)=i):(now.take i++now.drop (i+1)).map plC=Ji (now.map plC) id:=by
 unfold Ji;rw [Pu,h,YW,XM,UR,US]
def yI (h:now.findIdx (Y5 id)=i) (b:i<now.length) (hz:z.d.id=id):(now.set i z).map plC=Eo (now.map plC) (plC z):=by
 unfold Eo;rw [show (plC z).d.id=id from hz,Pu,h,XT,QK b,List.map_set]
structure AS (M:Nat) (u:Com) (m q:Nat) (w:Wd) (v:Value) (now:List Cnt) (W:Wd):Prop where
 nw:NW (w.1.size+1) W v now
 b:Blk W w.1.size 42 (Ud u).toArray
 be:Below w.1.size w W
 len:now.length<=m
 sh:∀ y∈now,y.ps.length+q<=M
def AS.next (h:AS M u m q w v now W) (b:Below W.1.size W W'):AS M u m q w v now W':=⟨h.nw.below b,h.b.below b h.b.lt,U0 h.be b h.be.size,h.len,h.sh⟩
def AS.less {b:Nat} (h:AS M u m q w v now W) (j:m<=b) (l:q'<=q):AS M u b q' w v now W:=⟨h.nw,h.b,h.be,Lx h.len j,fun y hy=>by have:=h.sh y hy;omega⟩
def AS.ins {j:Nat} {b:Int} (h:AS M u (n+j) q w v now W) (t:k<=m) (s:now.length=m) (B:m<=n+j) (A:q<=M) (l:Below W.1.size W W') (r:W'.ownsRow W.1.size 37 23 v' N (U7 cnC (now.take k++[⟨d,b,none,0,0,[]⟩]++now.drop k))):AS M u (n+(j+1)) q w v' (now.take k++[⟨d,b,none,0,0,[]⟩]++now.drop k) W':=by
 have p:∀ y∈now.take k++[⟨d,b,none,0,0,[]⟩]++now.drop k,y∈now\/y=⟨d,b,none,0,0,[]⟩:=fun y hy=>by
  rcases QC.1 hy with hy|hy
  .rcases QC.1 hy with hy|hy
   .exact .inl (XA hy)
   .exact .inr (QT.1 hy)
  .exact .inl (ZY hy)
 refine ⟨NW.fresh (fun y hy=>?_) l h.b.lt r,h.b.below l h.b.lt,U0 h.be l h.be.size,As,fun y hy=>?_⟩
 .rcases p y hy with h1|rfl
  .exact (h.nw.ps y h1).1
  .exact MB W d b
 .rcases p y hy with h1|rfl
  .exact h.sh y h1
  .show 0+q<=M;omega
def AS.del (h:AS M u m q w v now W) (p:q'<=q) (b:Below W.1.size W W') (l:W'.ownsRow W.1.size 37 23 v' N (U7 cnC (now.take i++now.drop (i+1)))):AS M u m q' w v' (now.take i++now.drop (i+1)) W':=by
 have j:∀ y∈now.take i++now.drop (i+1),y∈now:=fun y hy=>(QC.1 hy).elim XA ZY
 exact ⟨NW.fresh (fun y hy=>(h.nw.ps y (j y hy)).1) b h.b.lt l,h.b.below b h.b.lt,U0 h.be b h.be.size,by have:=h.len;simp;omega,fun y hy=>by have:=h.sh y (j y hy);omega⟩
def NW.form {c:Nat} {A:Option Addr} (h:NW base W (.slice A m c) now) (b:0<m):∃ g,A=some ⟨g,0,none⟩:=by
 rcases h.own.2 with ⟨e,_⟩|⟨g,_,_,e,_⟩
 .injection e with _ e2
  omega
 .injection e with e1
  exact ⟨g,e1⟩
def AS.set {b:Nat} {y:Cnt} {l:List Value} (h:AS M u m q w (.slice (Ah g 0) n b) now W) (hn:now.length=n) (hy:now[i]? =some y) (r:l.length<=23) (hz:Yh (cnC y) 0 l=cnC z) (hw:CW W z) (t:0<z.pn->∀ a,z.pA=some a->a.block≠g) (A:q'<=q) (s:z.ps.length+q'<=M):
  AS M u m q' w (.slice (Ah g 0) n b) (now.set i z) (W.setCells g (i*23) l):=by
 subst hn;have B:=U9 h.nw.own (Le _) g rfl;refine ⟨h.nw.set hy r hz hw t,Ii Oo _ _ _ h.b,Zh Oo _ _ _ h.be,by rw [KT];exact h.len,fun p j=>?_⟩;rcases ZD j with j|rfl
 .have:=h.sh p j;omega
 .exact s
def tI (y z:Cnt):Yh (cnC y) 0 (cnC z)=cnC z:=Ak
def kS (y:Cnt) (d:DSet):Yh (cnC y) 0 (dC d)=cnC ⟨d,y.ap,y.pA,y.pn,y.pc,y.ps⟩:=Ak
structure AC (M:Nat) (u:Com) (m q:Nat) (w:Wd) (v:Value) (now:List Cnt) (g:Nat) (c:Chg) (W:Wd):Prop where
 s:AS M u m q w v now W
 c:Blk W g 50 (chC c).toArray
 ne:g≠w.1.size
def AC.next (h:AC M u m q w v now g c W) (b:Below W.1.size W W'):AC M u m q w v now g c W':=⟨h.s.next b,h.c.below b h.c.lt,h.ne⟩
def AS.box (h:AS M u m q w v now W) (c:Chg) (b:Array Value):AC M u m q w v now W.1.size c ((Aa W b 50).setRow W.1.size (chC c).toArray):=by
 rw [U5];exact ⟨h.next Aj,Blk.new _ _ _,ZB h.b.lt⟩
def AC.cell (h:AC M u m q w v now g c W) (i:Nat) (x:Value) (b:(chC c)[i]? =some x):W.cell? ⟨g,i,none⟩=some x:=by rw [h.c.cell];simpa using b
def AS.cell (h:AS M u m q w v now W) (i:Nat) (x:Value) (b:(Ud u)[i]? =some x):W.cell? ⟨w.1.size,i,none⟩=some x:=by rw [h.b.cell];simpa using b
structure AD (M:Nat) (u:Com) (m q:Nat) (w:Wd) (v:Value) (now:List Cnt) (g:Nat) (c:Chg) (k:Nat) (d:DSet) (W:Wd):Prop where
 s:AC M u m q w v now g c W
 d:Blk W k 34 (dC d).toArray
def AD.next (h:AD M u m q w v now g c k d W) (b:Below W.1.size W W'):AD M u m q w v now g c k d W':=⟨h.s.next b,h.d.below b h.d.lt⟩
def AC.box (h:AC M u m q w v now g c W) (d:DSet) (b:Array Value):AD M u m q w v now g c W.1.size d ((Aa W b 34).setRow W.1.size (dC d).toArray):=by
 rw [U5];exact ⟨h.next Aj,Blk.new _ _ _⟩
def NW.at {c:Nat} (h:NW base W (.slice (Ah g 0) m c) now) (r:now[i]? =some x):W.rangeAt g (i*23) (cnC x)/\g<W.1.size:=by
 have C:=(QZ.1 r).1;obtain ⟨A,rfl⟩:=h.sl;obtain ⟨b,o,y,p,B,l,D⟩:=Sl.cell (f:=cnC) (k:=23) (fun _=>rfl) A C;rw [r] at l;injection l with l
 subst l;injection p with p
 injection p with e1 e2 _
 subst e1;subst e2;refine ⟨fun j v s=>?_,B⟩;have t:=D j v s
 rwa [QB] at t
def vD (W:Wd) (g:Nat) (cs:Array Value):W.grownBy (W.setRow g cs) (some g):=⟨rfl,rfl,rfl,by simp [World.setRow],fun k _ b=>by
 have:g≠k:=fun e=>b (by rw [e])
 simp [World.setRow,YA,this]⟩
structure DZ (x:Cnt) (R:Int ⊕ PC) (wc:Wd) (g4:Nat) (cs:List Value) (er:Int) (g:Nat) (W:Wd):Prop where
 be:Below wc.1.size wc W
 le:wc.1.size<=g
 b:Blk W g 37 zV.toArray
 len:cs.length=23
 one:cs.toArray.all (·.oneCell')=true
 is:(er≠0/\R=.inl er)\/(er=0/\∃ z,cs=cnC z/\R=.inr (plC z)/\CW W z/\(0<z.pn->∀ a,z.pA=some a->a.block≠g4/\a.block≠g))
def DZ.after {wa:Wd} (E:∀ b,R=.inl b->b≠0) (s:DoS x R wa e wb) (l:Below wc.1.size wc wa) (F:g4<wc.1.size) (D:0<x.pn->∀ a,x.pA=some a->a.block≠g4):
  ∃ cs b,e=.returned (.tuple #[.agg cs.toArray,.int .i64 b])/\DZ x R wc g4 cs b wb.1.size (Aa wb zV.toArray 37)/\Below wa.1.size wa wb:=by
 have B:=l.size;cases R with
 |inl b=>
  obtain ⟨rfl,j⟩:=s;have h:=l.trans (j.mono B);exact ⟨zV,b,rfl,⟨h.alloc h.size _,h.size,Blk.new _ _ _,Ak,Ik,.inl ⟨E b rfl,rfl⟩⟩,j⟩
 |inr y=>
  obtain ⟨z,C,rfl,A,p,j⟩:=s;subst C;have h:=l.trans (j.mono B);refine ⟨cnC z,0,rfl,⟨h.alloc h.size _,h.size,Blk.new _ _ _,rfl,Va z,.inr ⟨rfl,z,rfl,rfl,A.below Aj,fun t a r=>⟨?_,KF (ul A t a r)⟩⟩⟩,j⟩;rcases p with rfl|p
  .exact D t a r
  .have:=p a r;omega
def DZ.before (D:∀ b,R=.inl b->b≠0) (s:DoS x R (Aa wc zV.toArray 37) e wb) (hw:CW wc x) (E:g4<wc.1.size) (C:0<x.pn->∀ a,x.pA=some a->a.block≠g4):
  ∃ cs b,e=.returned (.tuple #[.agg cs.toArray,.int .i64 b])/\DZ x R wc g4 cs b wc.1.size wb/\Below (Aa wc zV.toArray 37).1.size (Aa wc zV.toArray 37) wb:=by
 have hz:(Aa wc zV.toArray 37).1.size=wc.1.size+1:=Am
 have j:=(Bf wc.1.size wc).alloc (Le _) (.cells zV.toArray 37);have l:=Blk.new wc 37 zV.toArray;cases R with
 |inl b=>
  obtain ⟨rfl,h⟩:=s;exact ⟨zV,b,rfl,⟨j.trans (h.mono j.size),Le _,l.below h l.lt,Ak,Ik,.inl ⟨D b rfl,rfl⟩⟩,h⟩
 |inr y=>
  obtain ⟨z,B,rfl,A,p,h⟩:=s;subst B;refine ⟨cnC z,0,rfl,⟨j.trans (h.mono j.size),Le _,l.below h l.lt,rfl,Va z,.inr ⟨rfl,z,rfl,rfl,A,fun t a r=>?_⟩⟩,h⟩;rcases p with rfl|p
  .exact ⟨C t a r,KF (ul hw t a r)⟩
  .have:=p a r;omega
structure DY (x:Cnt) (R:Int ⊕ PC) (wc:Wd) (g4:Nat) (cs:List Value) (er:Int) (g:Nat) (W:Wd):Prop where
 be:Below wc.1.size wc W
 b:Blk W g 37 cs.toArray
 is:(er≠0/\R=.inl er)\/(er=0/\∃ z,cs=cnC z/\R=.inr (plC z)/\CW W z/\(0<z.pn->∀ a,z.pA=some a->a.block≠g4))
def DZ.put {cs:List Value} {p:Int} (h:DZ x R wc g4 cs p g W):DY x R wc g4 cs p g (W.setRow g cs.toArray):=by
 refine ⟨Uf h.be h.le _,QR _ _ _ _ _ _ h.b,?_⟩;rcases h.is with j|⟨j,z,s,y,t,r⟩
 .exact .inl j
 .exact .inr ⟨j,z,s,y,SG t (vD _ _ _) fun l a b e=>(r l a b).2 (by injection e),fun l a b=>(r l a b).1⟩
def Tz (b:o.op=.alloc 37) (w:Wd):(execOp a.eval o).run prog w=.ok (.value (Ag w.1.size 0)) (Aa w zV.toArray 37):=by
 obtain ⟨h,p,r,l,j⟩:=WG X8;unfold execOp;simp only [b];go_simp;rfl
def zp (h:Calls P f args w fun x w'=>∃ v,x=.returned v/\K (a.put o.dst v) w') (he:∀ w,(execOp a.eval o).run P w=.ok (.enter f args) w:=by intro w';go_simp):Oper.wp P o a w K Q:=by
 unfold Oper.wp;rw [he w];refine h.mono ?_;rintro x w' ⟨v,rfl,b⟩;exact b
def te (i:Nat)
  (p:Calls P f args w fun x w'=>∃ v,x=.returned v/\S w'/\wpAnyH P md ops Q S fuel (listed.setIfInBounds i true) (a.put oi.dst v) w')
  (r:ops[i]? =some oi:=by simp only [Ga,Gz,Gn];rfl)
  (he:∀ w,(execOp a.eval oi).run P w=.ok (.enter f args) w:=by intro w';go_simp) (h:Region.ready md ops listed=[i]:=by kernel_rfl) (hw:Region.wanted oi (yielded ops a.tmps)=true:=by rfl):wpAnyH P md ops Q S (fuel+1) listed a w:=by
 refine Ar h Am (XX r (fun K j=>?_) An);rw [QK hw];refine zp (p.mono ?_) he;rintro x w' ⟨v,rfl,l,b⟩;exact ⟨v,rfl,j.out _ _ l fun _=>b⟩
def zq (b:o.op=.alloc 37) (h:K (a.put o.dst (Ag w.1.size 0)) (Aa w zV.toArray 37)):Oper.wp prog o a w K Q:=by
 unfold Oper.wp;rw [Tz b];exact h
def tal {b:Act} (i:Nat) (p:S (Aa w zV.toArray 37))
  (h:wpAnyH prog md ops Q S fuel (listed.setIfInBounds i true) b (Aa w zV.toArray 37))
  (t:ops[i]? =some oi:=by simp only [Ga,Gz,Gn];rfl) (j:oi.op=.alloc 37:=by rfl) (r:Region.ready md ops listed=[i]:=by kernel_rfl) (hw:Region.wanted oi (yielded ops a.tmps)=true:=by rfl)
  (l:a.put oi.dst (Ag w.1.size 0)=b:=by conv=>lhs;simp only [Act.put,Sv,Sz,Sw]):wpAnyH prog md ops Q S (fuel+1) listed a w:=by
 subst l;refine Ar r Am (XX t (fun K s=>?_) An);rw [QK hw];exact zq j (s.out _ _ p fun _=>h)
def jM {G Φ:List Value->Int->Nat->Wd->Prop} {X:Prop} (b:∀ a e g W,Φ a e g W->G a e g W) (h:(∀ a e g W,Φ a e g W->G a e g W)->X):X:=h b
def WgA {Φ:Wd->Prop} {b:Wd} (j:Φ b) (h:∀ W,Φ W->wpAnyH P md ops Q S fuel listed a W):wpAnyH P md ops Q S fuel listed a b:=h b j
def wlE (L:Array Bool) (h:wpAnyH P md ops Q S fuel L a w) (e:listed=L:=by kernel_rfl):wpAnyH P md ops Q S fuel listed a w:=e▸h
def AfG (N M:Nat) (R:Int ⊕ List PC) (w:Wd) (e:Ending) (w':Wd):Prop:=match R with
 |.inl er=>e=.returned (.tuple #[.slice none 0 0,.int .i64 er])/\Below w.1.size w w'
 |.inr s=>∃ v now,now.map plC=s/\e=.returned (.tuple #[v,.int .i64 0])/\NW w.1.size w' v now/\Below w.1.size w w'/\now.length<=N/\∀ y∈now,y.ps.length<=M
end
abbrev TP (w:Wd) (u):=w.alloc (.cells (Ud u).toArray 42)
abbrev kU:=#[true,true,true,true,true,true,true,true,true,true,true,true,true,true,true,false,false]
def TN (M:Nat) (A:Option Addr) (n c:Nat) (l:List Cnt) (u:Com) (w:Wd) (hs:Sl cnC 23 w w.1.size A n c l) (hp:∀ x∈l,CW w x) (hu:ComOk w w.1.size u) (hz:∀ c∈u.cs,Ij c) (hn:n<=500) (fB:u.cn<=400) (hn0:1<=u.num) (gR:u.num<=1099511627776) (hM:M<=1000) (hcm:u.cn<=M) (hl:∀ x∈l,x.ps.length+u.cn<=M):
  Calls prog 24 #[.slice A n c,.agg (Ud u).toArray] w (AfG (n+u.cn) M (Fe Uq doF u.num u.cs (l.map plC)) w):=by
 obtain ⟨R,hR⟩:=yG (Fe Uq doF u.num u.cs (l.map plC));obtain ⟨R1,hR1⟩:=yG (IN Uq u.num u.cs (l.map plC));rw [hR];have HR1:=Hd hR1;have HE:Aw (R1=none->R=.inl 11):=Hd fun h=>by rw [<-hR];unfold Fe;rw [hR1,h]
 have HG:Aw (∀ s,R1=some s->Yc Uq doF u.num 0 u.cs s=R):=Hd fun s h=>by rw [<-hR];unfold Fe;rw [hR1,h]
 have HSC:=Hd fun W (h:Below w.1.size w W)=>hu.2.1.after h h.size
 have iP:=Hd hu.2.1.len;have HZ:=Hd hz;have HN:=Hd (And.intro hn (And.intro fB (And.intro hn0 gR)));have eL:Aw (Blk (TP w u) w.1.size 42 (Ud u).toArray/\Below w.1.size w (TP w u)):=Hd ⟨Blk.new _ _ _,Aj⟩;have dM:=Hd ((hs.below eL.o.2).rd.alloc (by have:=eL.o.2.size;exact this) (.cells #[] 37));have HCW:=Hd fun x hx=>(hp x hx).below eL.o.2
 have HSH:=Hd hl;have HMM:=Hd (And.intro hM hcm);have Z:=Hd hs.len;have hq:n<=500:=hn;have aP:(TP w u).1.size=w.1.size+1:=Am
 have H00:Aw ((Aa (TP w u) #[] 37).ownsRow (w.1.size+1) 37 23 (.slice (Ah (w.1.size+1) 0) 0 0) 0 []):=Hd (by have h:=GY (TP w u) 37 23;rw [aP] at h;exact h);clear hR hR1 hs hp hu hz hn fB hn0 gR hl hM hcm;go_in
 go_upto_region 2 with (at_builtin;go_must (refine Ap2 X8 underlying22 H00.o dM.o (Jm _) Oo Am ?_;intro v6 w6 aD X;have eG:=((Bf (TP w u).1.size (TP w u)).alloc (Le _) (.cells #[] 37)).grown X (U6 _ _) (U9 H00.o (KM aP));rw [QB,YN] at aD;have iK:=Hd aD;have cY:=Hd eG;clear aD X eG))
 have HAS:Aw (AS M u (n+0) u.cn w v6 l w6):=Hd ⟨NW.fresh HCW.o cY.o Am (by rw [aP];exact iK.o),eL.o.1.below cY.o eL.o.1.lt,U0 eL.o.2 cY.o eL.o.2.size,by rw [Z.o];exact Le _,HSH.o⟩;clear dM HCW HSH Z iK cY eL H00 aP hq;go_wp2;go_loopw [6,7] (fun v i wr=>∃ (j:Nat) (r:List Cnt),j<=u.cn/\i=.int .i64 j/\AS M u (n+j) u.cn w v r wr/\IN Uq u.num (u.cs.drop j) (r.map plC)=R1) (fun _ i _=>u.cn-(intOf i).toNat)
 .exact ⟨0,l,Z0 _,rfl,HAS.o,HR1.o⟩
 .obtain ⟨j,r,hj,rfl,wX,N⟩:=hrel;have P:=Hd wX;have u3:=wX.cell 3 _ rfl;obtain ⟨A4,c4,rfl,fC,_⟩:=U4 wX.nw.own;have eD:=Hd fC;have cF:=wX.len;obtain ⟨m,hm⟩:=yG r.length;have HM:=Hd hm;rw [hm] at P eD cF ⊢;have Z:=Hd cF;by_cases aE:j<u.cn
  .obtain ⟨b,o,c,hAc,D,hg,aB⟩:=Sl.cell (f:=chC) (k:=5) (fun _=>rfl) (HSC.o _ wX.be) aE;have HAC:=Hd hAc;have HCR:Aw (wr.rangeAt b (o+j*5) (chC c)):=Hd fun i v hv=>aB i v hv
   have HSK:=Hd (HZ.o c (QJ hg));have H1:=Hd (Kc c);have dQ:u.cs.drop j=c::u.cs.drop (j+1):=by rw [QO (QZ.1 hg).1,(QZ.1 hg).2]
   rw [dQ] at N;unfold IN at N;have d1:decide ((j:Int)<(u.cn:Int))=true:=QQ Oo;have d2:decide (j<u.cn)=true:=QQ aE;have E:=Hd aE;have cC:=Hd N;have bM:=Hd fun Y=>P.o.box c Y
   have eY:wr.1.size=wr.1.size:=rfl;clear hAc D hg aB dQ wX fC cF hm hj N eY u3;have u3:=P.o.cell 3 _ rfl;rw [HAC.o] at u3
   go_upto_region 6 with (first|(with_reducible refine yM 50 32 HCR.o ?_)|(with_reducible refine yS 50 8 (U3 _ _ _ _ rfl) H1.o ?_;refine Wg (Φ:=AC M u (n+j) u.cn w (.slice A4 m c4) r wr.1.size c) (bM.o _) (fun W1 C=>?_);have F:=Hd C;clear C))
   generalize wr.1.size=g1 at F ⊢;clear u3 P HCR bM H1 wr;have c0:=F.o.cell 0 _ rfl;have c1:=F.o.cell 1 _ rfl;have hw:IntKind.i64.wrap ((j:Int)+1)=(j:Int)+1:=QL _ (by have:=E.o;have:=HN.o;omega);have HI:=Hd (LC c.id A4 m c4 r W1 F.o.s.nw.sl.1 (by have:=Z.o;have:=E.o;have:=HN.o;omega));by_cases hk:c.kind=4;rotate_left
   .have b4:(c.kind != 4)=true:=by simpa using hk
    have gB:Aw (IN Uq u.num (List.drop (j+1) u.cs) (r.map plC)=R1):=Hd (by rw [<-cC.o,QK (.inr hk)]);clear hk HI;go_wp2_with fail;go_roundw
    .exact ⟨j+1,r,E.o,Au,F.o.s.less Oo (Le _),gB.o⟩
    .simp [intOf];have:=E.o;omega
   have b4:(c.kind != 4)=false:=by simpa using hk
   have HK4:=Hd hk;clear hk;cases G:Vc (r.map plC) c.id with
   |some y=>
    obtain ⟨i,_,_,_,_,hi,_⟩:=Ws G;rw [hi] at HI;have d3:decide ((0:Int)<=(i:Int))=true:=QQ Oo;have gB:Aw (IN Uq u.num (List.drop (j+1) u.cs) (r.map plC)=R1):=Hd (by rw [<-cC.o,QK (.inl (by rw [G];rfl))]);clear G hi;go_wp2_with (go_at_call 49;refine yE HI.o ?_);go_roundw
    .exact ⟨j+1,r,E.o,Au,F.o.s.less Oo (Le _),gB.o⟩
    .simp [intOf];have:=E.o;omega
   |none=>
    rw [Wr G] at HI;have eI:¬ ((Vc (r.map plC) c.id).isSome=true\/c.kind≠4):=by rw [G];simp [HK4.o]
    have gK:Aw (Uq c.rcd c.id=none->R1=none):=Hd fun h=>by rw [<-cC.o,QX eI,h]
    have eR:Aw (∀ d,Uq c.rcd c.id=some d->IN Uq u.num (u.cs.drop (j+1)) (insP ⟨d,u.num-1,[]⟩ (r.map plC))=R1):=Hd fun d h=>by rw [<-cC.o,QX eI,h]
    have HTO:=Hd fun W=>Nd c W HSK.o.2.2
    have H34:=Hd fun d=>Xc d
    clear G cC eI
    go_upto_region 8 with (first|(go_at_call 49;refine yE HI.o ?_)|((with_reducible refine Gl 50 8 ?_);refine LqH 50 g1 (chC c).toArray F.o.c underlying50 ?_)|(go_at_call 52;refine (HTO.o _).mono ?_;rintro e w2 ⟨d,q,rfl,hdq,D⟩;have aJ:=Hd (F.o.next D);have jY:=Hd hdq;have V:=Hd fun Y=>aJ.o.box d Y;clear hdq D c0 c1)|(with_reducible refine yS 34 9 (U3 _ _ _ _ rfl) (H34.o d) ?_;refine Wg (Φ:=AD M u (n+j) u.cn w (.slice A4 m c4) r g1 c w2.1.size d) (V.o _) (fun W3 C=>?_);have Q:=Hd C;clear C))
    generalize w2.1.size=g2 at Q ⊢;clear HI F aJ V HTO W1 w2;cases q with
    |false=>
     have hn:Uq c.rcd c.id=none:=by
      rcases jY.o with ⟨h,_⟩|⟨_,h⟩
      .cases h
      .exact h
     have eU:=Hd (HE.o (gK.o hn));clear hn;go_wp2_with fail
     go_ret2
     rw [eU.o];exact ⟨rfl,Q.o.s.s.be⟩
    |true=>
     have hd:Uq c.rcd c.id=some d:=by
      rcases jY.o with ⟨_,h⟩|⟨h,_⟩
      .exact h
      .cases h
     have HDI:=Hd (NT hd);have gB:=Hd (eR.o d hd);clear hd jY gK eR b4;go_wp2_with fail;go_loopw [11] (fun v wx=>∃ k:Nat,k<=m/\v=.int .i64 k/\(∀ t,t<k->∀ e,r[t]? =some e->MS c.id e=false)/\Below W3.1.size W3 wx) (fun v _=>m-(intOf v).toNat)
     .exact ⟨0,Z0 _,rfl,fun t h=>absurd h Oo,Bf _ _⟩
     .obtain ⟨k,hk,rfl,hall,dG⟩:=hrel;have P:=Hd hall;have bM:=Hd dG;have HK:=Hd hk;obtain ⟨z,hz⟩:=yG (MZ c.id r k);have cN:=Hd hz;clear hall dG;refine (ZW k m).elim (fun hkj=>?lt) (fun hge=>?eq)
      case' lt=>
       have d3:decide ((k:Int)<(m:Int))=true:=QQ Oo;have d4:decide (k<m)=true:=QQ hkj;obtain ⟨b4,o4,y,rfl,gS,iT,fC⟩:=Sl.cell (f:=cnC) (k:=23) (fun _=>rfl) Q.o.s.s.nw.sl.1 hkj;have HC4:=Hd fun (W:Wd) (C:Below W3.1.size W3 W)=>(C.cell (p:=⟨b4,o4+k*23,none⟩) gS).trans (fC 0 _ rfl)
       have aT:decide (y.d.id<c.id)=z:=by rw [<-hz];unfold MZ;rw [iT]
       clear hz gS iT fC hk;go_wp2;apply WzR (S:=Below W3.1.size W3) (R:=Rb) (bM.o.trans ((Bf _ _).drew.mono bM.o.size)) (fun _ _ h D=>h.trans (D.mono h.size));apply xp (.int .i64 k);apply xp (.slice (Ah b4 o4) m c4);apply xp (.int .i64 m);apply xp (.bool true);apply xp (.bool true);apply xp (.slice (Ah b4 o4) m c4);apply xp (.int .i64 k);apply xp (Ag b4 (o4+k*23));apply xp (Ag b4 (o4+k*23));apply xp (Ag b4 (o4+k*23));apply xl (.int .i64 y.d.id) (fun W h=>HC4.o W h);apply xp (Ag g1 1);apply xl (.int .i64 c.id) (fun W h=>(Q.o.next h).s.cell 1 _ rfl);apply xp (.bool z);apply xp (.bool z);refine xn fun W hS _=>?_
       have wS:=Hd hS;clear hS aT;cases z;rotate_left
       .obtain ⟨h1,h2⟩:=RT P.o cN.o;have HQ:=Hd (And.intro h1 h2);have iN:IntKind.i64.wrap ((k:Int)+1)=(k:Int)+1:=QL _ (by have:=E.o;have:=HN.o;have:=Z.o;omega);clear h1 h2;go_wp2;go_roundw
        .exact ⟨k+1,by have:=HQ.o.1;rw [HM.o] at this;exact this,Au,HQ.o.2,wS.o⟩
        .have:=HQ.o.1;rw [HM.o] at this;simp [intOf];omega
       obtain ⟨A4,hA4⟩:=yG (some ⟨b4,o4,none⟩:Option Addr);rw [hA4] at Q ⊢
      case' eq=>
       have hkj:k=m:=Oo
       have aT:z=false:=by rw [<-hz];unfold MZ;rw [WM (by rw [HM.o];exact hge)]
       subst aT;have d3:decide ((k:Int)<(m:Int))=false:=QW Oo;have d4:decide (k<m)=false:=QW Oo;clear hz hk hge hkj;go_wp2;apply WzR (S:=Below W3.1.size W3) (R:=Rb) (bM.o.trans ((Bf _ _).drew.mono bM.o.size)) (fun _ _ h D=>h.trans (D.mono h.size));apply xp (.int .i64 k);apply xp (.slice A4 m c4);apply xp (.int .i64 m);apply xp (.bool false);apply xp (.bool false)
       iterate 9 apply xp undef (VH ⟨Af,Af⟩)
       apply xp (.bool false);refine xn fun W hS _=>?_
       have wS:=Hd hS;clear hS
      all_goals
       have HLOW:=Hd (xW P.o (by rw [HM.o];exact HK.o) cN.o);have iZ:=Q.o.s.s.nw.pre (k:=k) HK.o eD.o;have dX:=Q.o.s.s.nw.post (k:=k) HK.o eD.o;have hst:=fun W=>Gi W A4 m c4 k (Lx HK.o eD.o)
       have bN:=fun W=>J0 W A4 m c4 k HK.o
       have hws:IntKind.i64.wrap (u.num-1)=u.num-1:=QL _ (by have:=HN.o;omega);go_wp2;refine Rw (S:=Below W3.1.size W3) Ak (wS.o.trans ((Bf _ _).drew.mono wS.o.size)) (fun B=>?_);refine tk 1 (.slice A4 m c4) B ?_;refine tk 2 (.int .i64 k) B ?_;refine tk 3 (.slice (Gu A4 c4 0) k c4) B ?_;refine tr 5 (cs:=dC d) (fun W C=>(Q.o.next C).d) B underlying34 ?_;refine tk 6 (Ag w.1.size 1) B ?_;refine tk 7 (.int .i64 u.num) B ?_ (y:=WL ⟨Af,by intro W C;have h:=(Q.o.next C).s.s.cell 1 _ rfl;go_simp⟩);refine tk 8 (.int .i64 (u.num-1)) B ?_;refine tk 9 (.agg (cnC ⟨d,u.num-1,none,0,0,[]⟩).toArray) B ?_ (y:=WL ⟨Af,fun _ _=>Ak⟩);refine tk 12 (.slice A4 m c4) B ?_;refine tk 13 (.int .i64 k) B ?_;refine tk 14 (.slice (Gu A4 c4 k) (m-k) (c4-k)) B ?_
       refine t3 0 10 4 37 22 (cnC ⟨d,u.num-1,none,0,0,[]⟩) X8 underlying22 ((iZ.below B).more B.size) (by have:=HK.o;have:=E.o;have:=HN.o;have:=Z.o;omega) (fun W C=>B.trans (C.mono B.size)) (fun v0 v1 g2 W4 D ho hg=>?_) (ej0:=fun w=>bsC (.tmp 77) ⟨d,u.num-1,none,0,0,[]⟩ rfl rfl w) (ej1:=fun _ w=>bsC (.tmp 77) ⟨d,u.num-1,none,0,0,[]⟩ rfl rfl w) (ej2:=fun _ _ w=>bsC (.tmp 77) ⟨d,u.num-1,none,0,0,[]⟩ rfl rfl w);refine tg 11 X8 underlying22 ho (ET hg rfl) (Ic ⟨d,u.num-1,none,0,0,[]⟩) (by have:=HK.o;have:=E.o;have:=HN.o;have:=Z.o;omega) D.size (fun v5 w5 _ X=>(B.trans (D.mono B.size)).grown X (Lx B.size D.size) (U9 ho B.size)) (fun v5 w5 fP X=>?_);have U:=D.grown X D.size (U9 ho (Le _))
       refine tg 15 X8 underlying22 fP ((dX.below (B.trans (U.mono B.size))).more (Lx B.size U.size)) (Jm _) (by have:=HK.o;have:=E.o;have:=HN.o;have:=Z.o;omega) U.size (fun v6 w6 _ X=>(B.trans (U.mono B.size)).grown X (Lx B.size U.size) (U9 fP B.size)) (fun v6 w6 gQ T=>?_);have eG:=U.grown T U.size (U9 fP (Le _));refine tk 16 v6 (B.trans (eG.mono B.size)) ?_;refine Ad Ak ?_ _;have jU:U7 cnC (r.take k)++cnC ⟨d,u.num-1,none,0,0,[]⟩++U7 cnC (r.drop k)=U7 cnC (r.take k++[⟨d,u.num-1,none,0,0,[]⟩]++r.drop k):=by rw [V9,V9,Xr]
       rw [jU] at gQ;have H:=Hd ((Q.o.s.s.next B).ins (d:=d) HK.o HM.o Z.o HMM.o.2 eG gQ);clear eG B gQ fP ho hg X T D U jU iZ dX hst bN hws;go_wp2;go_roundw
       .exact ⟨j+1,_,E.o,Au,H.o,by rw [vk (by rw [HDI.o];exact HLOW.o)];exact gB.o⟩
       .simp [intOf];have:=E.o;omega
  .obtain rfl:j=u.cn:=Oo
   have hR1:R1=some (r.map plC):=by rw [<-N,WP (by rw [iP.o];exact Le _)];rfl
   have HRUN0:=Hd (HG.o _ hR1);have HA0:Aw (AS M u (n+u.cn) (u.cn-0) w (.slice A4 m c4) r wr):=P;clear hR1 N hj aE wX fC cF hm HR1 HE HG HAS;go_wp2_with fail;go_loopw [6,12] (fun v i wr=>∃ (j:Nat) (r:List Cnt),j<=u.cn/\i=.int .i64 j/\AS M u (n+u.cn) (u.cn-j) w v r wr/\Yc Uq doF u.num j (u.cs.drop j) (r.map plC)=R) (fun _ i _=>u.cn-(intOf i).toNat)
   .exact ⟨0,r,Z0 _,rfl,HA0.o,HRUN0.o⟩
   .clear HRUN0 HA0 P HM Z eD u3;obtain ⟨j,r,hj,rfl,wX,N⟩:=hrel;have P:=Hd wX;have u3:=wX.cell 3 _ rfl;obtain ⟨A4,c4,rfl,fC,_⟩:=U4 wX.nw.own;have eD:=Hd fC;have cF:=wX.len;obtain ⟨m,hm⟩:=yG r.length;have HM:=Hd hm;rw [hm] at P eD cF ⊢;have Z:=Hd cF;by_cases aE:j<u.cn
    .obtain ⟨b,o,c,hAc,D,hg,aB⟩:=Sl.cell (f:=chC) (k:=5) (fun _=>rfl) (HSC.o _ wX.be) aE;have HAC:=Hd hAc;have HCR:Aw (wr.rangeAt b (o+j*5) (chC c)):=Hd fun i v hv=>aB i v hv
     have HSK:=Hd (HZ.o c (QJ hg));have H1:=Hd (Kc c);have dQ:u.cs.drop j=c::u.cs.drop (j+1):=by rw [QO (QZ.1 hg).1,(QZ.1 hg).2]
     rw [dQ] at N;unfold Yc at N;have d1:decide ((j:Int)<(u.cn:Int))=true:=QQ Oo;have d2:decide (j<u.cn)=true:=QQ aE;have E:=Hd aE;have bM:=Hd fun Y=>P.o.box c Y
     clear hAc D hg aB dQ wX fC cF hm hj u3;have u3:=P.o.cell 3 _ rfl;rw [HAC.o] at u3
     go_upto_region 18 with (first|(with_reducible refine yM 50 94 HCR.o ?_)|(with_reducible refine yS 50 13 (U3 _ _ _ _ rfl) H1.o ?_;refine Wg (Φ:=AC M u (n+u.cn) (u.cn-j) w (.slice A4 m c4) r wr.1.size c) (bM.o _) (fun W1 C=>?_);have F:=Hd C;clear C))
     generalize wr.1.size=g1 at F ⊢;clear u3 P HCR bM H1 wr;have c0:=F.o.cell 0 _ rfl;have c1:=F.o.cell 1 _ rfl;have hw:IntKind.i64.wrap ((j:Int)+1)=(j:Int)+1:=QL _ (by have:=E.o;have:=HN.o;omega);have HI:=Hd (LC c.id A4 m c4 r W1 F.o.s.nw.sl.1 (by have:=Z.o;have:=E.o;have:=HN.o;omega));cases G:Vc (r.map plC) c.id with
     |none=>
      rw [G] at N;have cC:=Hd N;rw [Wr G] at HI;clear N G c0;go_wp2_with (go_at_call 49;refine yE HI.o ?_);go_roundw
      .exact ⟨j+1,r,E.o,Au,F.o.s.less (Le _) Oo,cC.o⟩
      .simp [intOf];have:=E.o;omega
     |some y=>
      rw [G] at N;obtain ⟨i,x,hxi,rfl,hxid,hi,iM,hfi⟩:=Ws G;rw [hi] at HI;rw [HM.o] at iM;obtain ⟨I,rfl⟩:=F.o.s.nw.form Oo;have J:=Hd (And.intro hxi (And.intro hxid (And.intro iM hfi)));have d3:decide ((i:Int)<0)=false:=QW Oo;clear G hi hxi hxid hfi;by_cases k5:c.kind=5
      .have e5:(c.kind == 5)=true:=by simpa using k5
       have cC:Aw (Yc Uq doF u.num (j+1) (u.cs.drop (j+1)) (Ji (r.map plC) c.id)=R):=Hd (by rw [<-N];simp only [QK k5]);clear N k5;go_wp2_with (go_at_call 49;refine yE HI.o ?_);have iZ:=F.o.s.nw.pre (k:=i) (IY iM) eD.o;have dX:=F.o.s.nw.post (k:=i+1) iM eD.o;have hst:=fun W=>Gi W (Ah I 0) m c4 i (Lx (IY iM) eD.o)
       have bN:=fun W=>J0 W (Ah I 0) m c4 (i+1) iM
       have dD:=bN;simp only [JU,Int.natCast_one] at dD;have hw5:IntKind.i64.wrap ((i:Int)+1)=((i+1:Nat):Int):=(QL _ (by have:=HN.o;have:=Z.o;omega)).trans Oo;refine Rw (S:=Below W1.1.size W1) Ak (Bf _ _).drew (fun B=>?_);refine tk 1 (.slice (Ah I 0) m c4) B ?_;refine tk 2 (.int .i64 i) B ?_;refine tk 3 (.slice (Gu (Ah I 0) c4 0) i c4) B ?_;refine tk 5 (.slice (Ah I 0) m c4) B ?_;refine tk 6 (.int .i64 i) B ?_;refine tk 7 (.int .i64 ((i+1:Nat):Int)) B ?_;refine tk 8 (.slice (Gu (Ah I 0) c4 (i+1)) (m-(i+1)) (c4-(i+1))) B ?_;have ho:=GY W1.drew 37 23;have D:=(Bf W1.drew.1.size W1.drew).alloc (Le _) (.cells #[] 37);refine tb 0 37 0 #[] (B.trans (D.mono B.size)) ?_
       refine tg 4 X8 underlying22 ho ((iZ.below (B.trans (D.mono B.size))).more (Lx B.size D.size)) (Jm _) (by have:=HN.o;have:=Z.o;omega) D.size (fun v5 w5 _ X=>(B.trans (D.mono B.size)).grown X (Lx B.size D.size) (U9 ho B.size)) (fun v5 w5 fP X=>?_);have U:=D.grown X D.size (U9 ho (Le _));refine tg 9 X8 underlying22 fP ((dX.below (B.trans (U.mono B.size))).more (Lx B.size U.size)) (Jm _) (by have:=HN.o;have:=Z.o;omega) U.size (fun v6 w6 _ X=>(B.trans (U.mono B.size)).grown X (Lx B.size U.size) (U9 fP B.size)) (fun v6 w6 gQ T=>?_);have eG:=U.grown T U.size (U9 fP (Le _));refine tk 10 v6 (B.trans (eG.mono B.size)) ?_;refine Ad Ak ?_ _;rw [YN,<-V9] at gQ
       have H:Aw (AS M u (n+u.cn) (u.cn-(j+1)) w v6 (r.take i++r.drop (i+1)) w6):=Hd ((F.o.s.next B).del Oo eG gQ);clear eG B gQ fP ho X T D U iZ dX hst bN dD hw5;go_wp2;go_roundw
       .exact ⟨j+1,_,E.o,Au,H.o,by rw [nY J.o.2.2.2];exact cC.o⟩
       .simp [intOf];have:=E.o;omega
      .have e5:(c.kind == 5)=false:=by simpa using k5
       simp only [QX k5] at N;have cC:=Hd N;clear N k5
       go_upto_if 137 with (go_at_call 49;refine yE HI.o ?_)
       go_cut [137] (fun v W=>v=.bool (c.kind == 6 || c.kind == 7)/\W=W1)
       case first=>
        cases k6:(c.kind == 6) with
        |true=>
         go_wp2_with fail
         go_meet
         .exact ⟨by rw [k6];rfl,rfl⟩
        |false=>
         go_wp2_with fail
         go_meet
         .exact ⟨by rw [k6];rfl,rfl⟩
       case rest=>
        obtain ⟨rfl,rfl⟩:=hcut;cases k67:(c.kind == 6 || c.kind == 7) with
        |true=>
         have h67:c.kind=6\/c.kind=7:=by simpa using k67
         have gK:Aw (Uq c.rcd c.id=none->Yc Uq doF u.num (j+1) (u.cs.drop (j+1)) (r.map plC)=R):=Hd fun h=>by rw [<-cC.o,QK h67,h]
         have eR:Aw (∀ d,Uq c.rcd c.id=some d->Yc Uq doF u.num (j+1) (u.cs.drop (j+1)) (Eo (r.map plC) (plC ⟨d,x.ap,x.pA,x.pn,x.pc,x.ps⟩))=R):=Hd fun d h=>by rw [<-cC.o,QK h67,h];rfl
         have HTO:=Hd fun W=>Nd c W HSK.o.2.2
         have H34:=Hd fun d=>Xc d
         clear h67 cC k67
         go_upto_region 30 with (first|((with_reducible refine Gl 50 13 ?_);refine LqH 50 g1 (chC c).toArray F.o.c underlying50 ?_)|(go_at_call 52;refine (HTO.o _).mono ?_;rintro e w2 ⟨d,q,rfl,hdq,D⟩;have aJ:=Hd (F.o.next D);have jY:=Hd hdq;have V:=Hd fun Y=>aJ.o.box d Y;clear hdq D c0 c1)|(with_reducible refine yS 34 15 (U3 _ _ _ _ rfl) (H34.o d) ?_;refine Wg (Φ:=AD M u (n+u.cn) (u.cn-j) w (.slice (Ah I 0) m c4) r g1 c w2.1.size d) (V.o _) (fun W3 C=>?_);have Q:=Hd C;clear C))
         generalize w2.1.size=g2 at Q ⊢;cases q with
         |false=>
          have eU:=Hd (gK.o (by
           rcases jY.o with ⟨h,_⟩|⟨_,h⟩
           .cases h
           .exact h))
          go_wp2_with fail;go_roundw
          .exact ⟨j+1,r,E.o,Au,Q.o.s.s.less (Le _) Oo,eU.o⟩
          .simp [intOf];have:=E.o;omega
         |true=>
          have hd:Uq c.rcd c.id=some d:=by
           rcases jY.o with ⟨_,h⟩|⟨h,_⟩
           .exact h
           .cases h
          have HDI:=Hd (NT hd);have gB:=Hd (eR.o d hd);have HTH:=Hd (N7 (i:=i) (by have h:=Q.o.s.s.nw.own;rw [HM.o] at h;exact h) iM 21 Ac)
          have H:Aw (AS M u (n+u.cn) (u.cn-(j+1)) w (.slice (Ah I 0) m c4) (r.set i ⟨d,x.ap,x.pA,x.pn,x.pc,x.ps⟩) (W3.setCells I (i*23) (dC d))):=Hd (by
           have hx:=Q.o.s.s.nw.ps x (QJ J.o.1);have hs:=Q.o.s.s.sh x (QJ J.o.1);exact Q.o.s.s.set HM.o J.o.1 (by show 21<=23;decide) (kS x d) (ji hx.1 d) (fun h0 a ha e=>hx.2 h0 a ha (by rw [e];rfl)) Oo (by show x.ps.length+_<=_;omega))
          clear hd jY gK eR F aJ V HTO HI;go_wp2_with (first|((with_reducible refine Gl 34 15 ?_);refine LqH 34 g2 (dC d).toArray Q.o.d underlying34 ?_)|((with_reducible refine Gt 34 150 ?_);go_must (refine JO rfl 34 _ _ rfl I (i*23) (dC d).toArray rfl rfl HTH.o Ak (H34.o d) ?_);refine Wg (Φ:=AS M u (n+u.cn) (u.cn-(j+1)) w (.slice (Ah I 0) m c4) (r.set i ⟨d,x.ap,x.pA,x.pn,x.pc,x.ps⟩)) H.o (fun W6 C=>?_);have bE:=Hd C;clear C));go_roundw
          .exact ⟨j+1,_,E.o,Au,bE.o,by rw [yI J.o.2.2.2 (by rw [HM.o];exact iM) HDI.o];exact gB.o⟩
          .simp [intOf];have:=E.o;omega
        |false=>
         have h67:¬ (c.kind=6\/c.kind=7):=by simpa using k67
         have O:=Hd ((QX h67).symm.trans cC.o);clear h67 cC k67;by_cases k4:c.kind=4
         .have e4:(c.kind == 4)=true:=by simpa using k4
          have eU:=Hd ((QK k4).symm.trans O.o);clear O k4;go_wp2_with fail;go_roundw
          .exact ⟨j+1,r,E.o,Au,F.o.s.less (Le _) Oo,eU.o⟩
          .simp [intOf];have:=E.o;omega
         .have e4:(c.kind == 4)=false:=by simpa using k4
          have eU:=Hd ((QX k4).symm.trans O.o);clear O k4;have gK:Aw (∀ L,doF (plC x) (u.num+j) c=.inl L->R=.inl L):=Hd fun L h=>by rw [<-eU.o,h]
          have eR:Aw (∀ y,doF (plC x) (u.num+j) c=.inr y->Yc Uq doF u.num (j+1) (u.cs.drop (j+1)) (Eo (r.map plC) y)=R):=Hd fun y h=>by rw [<-eU.o,h]
          have hxx:=F.o.s.nw.ps x (QJ J.o.1);have HXX:Aw (CW wc x/\(0<x.pn->∀ a,x.pA=some a->a.block≠I)):=Hd ⟨hxx.1,fun h0 a ha e=>hxx.2 h0 a ha (by rw [e];rfl)⟩;have HSX:=Hd (F.o.s.sh x (QJ J.o.1));have HDO:Aw (∀ W,Below wc.1.size wc W->Calls prog 53 #[.agg (cnC x).toArray,.agg (nbC (u.num+j) c).toArray] W (DoS x (doF (plC x) (u.num+j) c) W)):=Hd fun W C=>sr x _ c W (HXX.o.1.below C) HSK.o (by have:=HSX.o;have:=HMM.o.1;omega)
          have HER:=Hd fun L (h:doF (plC x) (u.num+j) c=.inl L)=>PM _ _ _ L h
          have HNEW:=Hd fun y (h:doF (plC x) (u.num+j) c=.inr y)=>qt (x:=plC x) (by have:=HSX.o;have:=HMM.o.1;show x.ps.length<=1000;omega) h
          have HAT:=Hd (F.o.s.nw.at J.o.1);generalize doF (plC x) (u.num+j) c=RD at gK eR HDO HER HNEW;have hwn:IntKind.i64.wrap (u.num+(j:Int))=u.num+j:=QL _ (by have:=E.o;have:=HN.o;omega);clear eU HI hxx c0 c1;go_wp2_with fail;refine Rw (S:=Below wc.1.size wc) Ak (Bf _ _).drew (fun B=>?_);refine tk 0 (.slice (Ah I 0) m c4) B ?_;refine tk 1 (.int .i64 i) B ?_;refine tk 2 (Ag I (i*23)) B ?_;refine trm 3 37 (cnC x) (fun W C j v hv=>(C.cell (p:=⟨I,i*23+j,none⟩) HAT.o.2).trans (HAT.o.1 j v hv)) B underlying37 ?_;refine tk 4 (Ag w.1.size 1) B ?_;refine tk 5 (.int .i64 u.num) B ?_ (y:=WL ⟨Af,by intro W C;have h:=(F.o.next C).s.cell 1 _ rfl;go_simp⟩);refine tk 6 (.int .i64 j) B ?_;refine tk 7 (.int .i64 (u.num+j)) B ?_
          refine tr 8 (cs:=chC c) (fun W C=>(F.o.next C).c) B underlying50 ?_;refine tk 9 (.agg (nbC (u.num+j) c).toArray) B ?_ (y:=WL ⟨Af,fun _ _=>Ak⟩);have bY:=Hd (F.o.next B);have HXW:=Hd (HXX.o.1.below B);have HG4:=Hd (WK HAT.o.2 B.size);have HH:=Hd B;clear B;generalize wc.drew=wd at bY HXW HG4 HH ⊢;apply jM (Φ:=DZ x RD wd I);rotate_left
          .intro TAIL;refine Ar (rs:=[10,14]) Ak Am (XX (i:=10) Ax (fun K hK=>?_) (XX (i:=14) Ax (fun K hK=>?_) An))
           .rw [QK Af];refine zp ((HDO.o wd HH.o).mono ?_);rintro e wb hd;obtain ⟨cs,L,rfl,hz,D⟩:=DZ.after HER.o hd (Bf _ _) HG4.o HXX.o.2;refine ⟨_,rfl,hK.out _ _ (HH.o.trans (D.mono HH.o.size)) fun hS=>?_⟩;refine tk 11 (.tuple #[.agg cs.toArray,.int .i64 L]) hS ?_;refine tk 12 (.agg cs.toArray) hS ?_;refine tk 13 (.int .i64 L) hS ?_;refine tal 14 (hS.alloc hS.size _) ?_;refine WgA (Φ:=DZ x RD wd I cs L wb.1.size) hz (fun W C=>?_);generalize wb.1.size=g at C ⊢;refine wlE (kU) ?_;exact TAIL cs L g W C
           .rw [QK Af];refine zq rfl (hK.out _ _ (HH.o.alloc HH.o.size _) fun hS=>?_);refine te 10 ((HDO.o _ hS).mono ?_);rintro e wb hd;obtain ⟨cs,L,rfl,hz,D⟩:=DZ.before HER.o hd HXW.o HG4.o HXX.o.2;have wN:=hS.trans (D.mono hS.size);refine ⟨_,rfl,wN,?_⟩;refine tk 11 (.tuple #[.agg cs.toArray,.int .i64 L]) wN ?_;refine tk 12 (.agg cs.toArray) wN ?_;refine tk 13 (.int .i64 L) wN ?_;refine WgA (Φ:=DZ x RD wd I cs L wd.1.size) hz (fun W C=>?_);generalize wd.1.size=g at C ⊢;refine wlE (kU) ?_;exact TAIL cs L g W C
          .intro cs L g W C;refine ts 15 cs.toArray C.b C.one (HH.o.trans (C.put.be.mono HH.o.size)) ?_ (hn:=by rw [YZ,C.len];kernel_rfl) (hold:=by rw [YZ,YZ,C.len];rfl);refine WgA (Φ:=DY x RD wd I cs L g) C.put (fun W2 hY=>?_);refine tk 16 (.int .i64 L) (HH.o.trans (hY.be.mono HH.o.size)) ?_;refine Ad Ak ?_ _;have HXA:=Hd (bY.o.next hY.be);have HGB:=Hd hY.b;rcases hY.is with ⟨h1,h2⟩|⟨rfl,z,rfl,h2,h3,h4⟩
           .have e9:(L != 0)=true:=by simpa using h1
            have aU:=Hd (gK.o L h2);clear h1 h2 hY C;go_wp2_with fail
            go_ret2
            rw [aU.o];exact ⟨rfl,HXA.o.s.be⟩
           .have hnew:=HNEW.o _ h2;have aU:=Hd (eR.o _ h2);have HTH:=Hd (N7 (i:=i) (by have h:=HXA.o.s.nw.own;rw [HM.o] at h;exact h) iM 23 Ac)
            have hzd:z.d.id=c.id:=by
             have h5:z.d=x.d:=hnew.1;rw [h5];exact J.o.2.1
            have H:Aw (AS M u (n+u.cn) (u.cn-(j+1)) w (.slice (Ah I 0) m c4) (r.set i z) (W2.setCells I (i*23) (cnC z))):=Hd (HXA.o.s.set HM.o J.o.1 (Le 23) (tI x z) h3 h4 Oo (by
             have h5:z.ps.length<=x.ps.length+1:=hnew.2;have h6:=HSX.o;have h7:=E.o;omega))
            have HPL:=Hd (yI (z:=z) J.o.2.2.2 (by rw [HM.o];exact iM) hzd);have fM:=Hd (Va z);clear hnew hzd h2 h3 h4 hY C;go_wp2_with (first|((with_reducible refine Gl 37 17 ?_);refine LqH 37 g (cnC z).toArray HGB.o underlying37 ?_)|((with_reducible refine Gt 37 124 ?_);go_must (refine JO rfl 37 _ _ rfl I (i*23) (cnC z).toArray rfl rfl HTH.o Ak fM.o ?_);refine Wg (Φ:=AS M u (n+u.cn) (u.cn-(j+1)) w (.slice (Ah I 0) m c4) (r.set i z)) H.o (fun W6 C=>?_);have bE:=Hd C;clear C));go_roundw
            .exact ⟨j+1,_,E.o,Au,bE.o,by rw [HPL.o];exact aU.o⟩
            .simp [intOf];have:=E.o;omega
    .obtain rfl:j=u.cn:=Oo
     have cZ:R=.inr (r.map plC):=by rw [<-N,WP (by rw [iP.o];exact Le _)];rfl
     have aU:=Hd cZ;clear cZ N hj aE wX fC cF hm;go_wp2_with fail
     go_ret2
     rw [aU.o];exact ⟨_,r,rfl,rfl,⟨X7 P.o.nw.own (JX _),P.o.nw.ps⟩,P.o.be,P.o.len,fun y hy=>by have:=P.o.sh y hy;omega⟩
def Nh (x:Com) (w:Wd) (b:1<=x.num) (a:x.num<=1099511627776) (c:x.cn<=300):
  Calls prog 47 #[.agg (Ud x).toArray] w (Ab w (.int .i64 (x.num+x.cn-1))):=by
 unfold Ud;go_wp2;go_ret;exact ⟨rfl,Aj⟩
structure OC (x y:Com) (w W:Wd):Prop where
 b:Blk W w.1.size 42 (Ud x).toArray
 c:Blk W (w.1.size+1) 42 (Ud y).toArray
 be:Below w.1.size w W
def Ro (x y:Com) (w:Wd):Calls prog 46 #[.agg (Ud x).toArray,.agg (Ud y).toArray] w (Ab w (.bool (Z4 x y))):=by
 have h:OC x y w ((Aa w (Ud x).toArray 42).alloc (.cells (Ud y).toArray 42)):=⟨(Blk.new _ _ _).alloc _,U3 (w.alloc _) _ _ _ Am,Aj.alloc Am _⟩
 have c1:=h.b.ce 1 (.int .i64 x.num);have c3:=h.b.ce 3 (.slice x.cA x.cn x.cc);have p:=h.c.ce 1 (.int .i64 y.num);have q:=h.c.ce 3 (.slice y.cA y.cn y.cc);have g:=Hd h.be
 have e:Z4 x y=(decide (x.num<y.num) || (x.num == y.num&&((x.cn:Int) == 0&&decide ((0:Int)<(y.cn:Int))))):=by
  rw [XW];simp [Z4]
 rw [e];generalize m:decide (x.num<y.num)=j;generalize k:(x.num == y.num)=f;generalize d:((x.cn:Int) == 0)=a;generalize i:decide ((0:Int)<(y.cn:Int))=c;have n:(x.cn == 0)=a:=by rw [<-d,XW];simp
 have o:decide (x.cn=0)=a:=by rw [<-d,XW];simp
 have l:decide (0<y.cn)=c:=by rw [<-i,XW];simp
 clear e h;rcases cht (b:=j) (ch (b:=f) (ch (b:=a) (ch0 c))) with rfl|⟨rfl,rfl|⟨rfl,rfl|⟨rfl,rfl|rfl⟩⟩⟩
 all_goals
  go_wp2;go_ret;exact ⟨rfl,g⟩
def lr {G:Prop} (h:G:=by
  clear hAc hb hg aB hall hx hj aE hc;go_wp2_with (first|(with_reducible refine yM 48 58 HCR.o ?_)|(go_at_call 79;refine yT eF.o HX.o.next fun w2 aJ=>?_))
  first
   |go_ret
    exact ⟨by rw [HN.o];rfl,aJ.o.be⟩
   |go_roundw
    .exact ⟨j+1,HT.o,Au,gJ.o,aJ.o⟩
    .simp [intOf];have:=HT.o;omega):G:=h
def lq {G:Prop} (h:G:=by
  clear hAc hb hg aB hall hx hj aE hc;go_wp2_with (first|(with_reducible refine yM 50 44 HCR.o ?_)|(go_at_call 78;refine yT eF.o HX.o.next fun w2 aJ=>?_))
  first
   |go_ret
    exact ⟨by rw [HN.o];rfl,aJ.o.be⟩
   |go_roundw
    .exact ⟨j+1,HT.o,Au,gJ.o,aJ.o⟩
    .simp [intOf];have:=HT.o;omega):G:=h
def Ty (x:Com) (w:Wd) (m:ComOk w w.1.size x) (l:∀ c∈x.cs,Ij c):
  Calls prog 45 #[.agg (Ud x).toArray] w (Ab w (.bool (Zy x))):=by
 have HX:=Hd (OB.new 42 (Ud x).toArray w);have D:=Hd fun W (h:Below w.1.size w W)=>m.2.1.after h h.size
 have A:=Hd fun W (h:Below w.1.size w W)=>m.1.after h h.size
 have iP:=Hd m.2.1.len;have B:=Hd m.1.len;have HV:=Hd l;have K:=Hd m.2.2;obtain ⟨R,F⟩:=yG (Zy x);rw [F]
 have a:Zy x=(!decide (x.unit<1)&&(!decide (1099511627776<x.unit)&&(!decide ((300:Int)<(x.cn:Int))&&(!decide (x.num<1)&&(!decide (1099511627776<x.num)&&(!decide (1099511627776<x.num+x.cn-1)&&(!(x.cs.any fun c => !Z6 c)&&!(x.rs.any fun r => !rdB r)))))))):=by
  have J:∀ u:Int,Y4 u=(!decide (u<1)&&!decide (1099511627776<u)):=fun u=>by rw [XW];simp [Y4]
  have Z:decide (x.cn<=300) = !decide ((300:Int)<(x.cn:Int)):=by rw [XW];simp;omega
  have e3:decide (x.num+x.cn-1<=1099511627776) = !decide (1099511627776<x.num+x.cn-1):=by rw [XW];simp
  unfold Zy;rw [J,J,Z,e3];simp only [ZL]
 rw [F] at a;have g:Aw (decide ((300:Int)<(x.cn:Int))=false->decide (x.num<1)=false->decide (1099511627776<x.num)=false->∀ W,Calls prog 47 #[.agg (Ud x).toArray] W (Ab W (.int .i64 (x.num+x.cn-1)))):=Hd fun C z E W=>Nh x W (by simp at z;omega) (by simp at E;omega) (by simp at C;omega)
 generalize C:decide (x.unit<1)=p1 at a;generalize z:decide (1099511627776<x.unit)=T at a;generalize E:decide ((300:Int)<(x.cn:Int))=N at a g;generalize V:decide (x.num<1)=Q at a g;generalize Y:decide (1099511627776<x.num)=S at a g;generalize h6:decide (1099511627776<x.num+x.cn-1)=U at a;have s:=Hd a;clear F a m l;rcases cht (b:=p1) (cht (b:=T) (cht (b:=N) (cht (b:=Q) (cht (b:=S) (ch0 U).symm)))) with rfl|⟨rfl,rfl|⟨rfl,rfl|⟨rfl,rfl|⟨rfl,rfl|⟨rfl,rfl|rfl⟩⟩⟩⟩⟩
 rotate_left 6
 .have H:=HX.c 0 _ rfl;have L:=HX.c 1 _ rfl;have y:=HX.c 2 _ rfl;have n:=HX.c 3 _ rfl;go_in;go_wp2_with (first|(go_at_call 47;refine yT (g rfl rfl rfl _) HX.next fun P I=>?_));clear H L y n C z E V Y h6 g;go_loopw [3] (fun i wr=>∃ j:Nat,j<=x.cn/\i=.int .i64 j/\(∀ t,t<j->∀ e,x.cs[t]? =some e->Z6 e=true)/\OB 42 (Ud x).toArray w wr) (fun i _=>x.cn-(intOf i).toNat)
  .exact ⟨0,Z0 _,rfl,fun t h=>absurd h Oo,I⟩
  .clear HX I;obtain ⟨j,hj,rfl,hall,hx⟩:=hrel;have d:=Hd hall;have HX:=Hd hx;have n:=hx.c 3 _ rfl;by_cases aE:j<x.cn
   .obtain ⟨b,o,c,hAc,hb,hg,aB⟩:=Sl.cell (f:=chC) (k:=5) (fun _=>rfl) (D _ hx.be) aE;rw [hAc] at n;have HCR:Aw (wr.rangeAt b (o+j*5) (chC c)):=Hd fun i v l=>aB i v l
    have p:=Hd hg;have eF:=Hd (Fz c wr (HV c (QJ hg)));have X:decide ((j:Int)<(x.cn:Int))=true:=QQ Oo;have O:decide (j<x.cn)=true:=QQ aE;have HT:=Hd aE;have hw:IntKind.i64.wrap ((j:Int)+1)=(j:Int)+1:=QL _ (by have:=K.2;unfold maxLen at this;omega);cases hc:Z6 c with
    |false=>
     rw [hc] at eF;have HN:Aw (R=false):=Hd (by rw [s.o,Ve p.o hc];rfl);exact lq
    |true=>
     rw [hc] at eF;have gJ:=Hd (Xk d p hc);exact lq
   .obtain rfl:j=x.cn:=Oo
    have q:Aw (R = !(x.rs.any fun r => !rdB r)):=Hd (by rw [s.o,Yb iP.o d.o];rfl);clear hall hx hj aE s;go_wp2_with fail;go_loopw [4] (fun i wr=>∃ j:Nat,j<=x.rn/\i=.int .i64 j/\(∀ t,t<j->∀ e,x.rs[t]? =some e->rdB e=true)/\OB 42 (Ud x).toArray w wr) (fun i _=>x.rn-(intOf i).toNat)
    .exact ⟨0,Z0 _,rfl,fun t h=>absurd h Oo,HX⟩
    .clear n HX d;obtain ⟨j,hj,rfl,hall,hx⟩:=hrel;have d:=Hd hall;have HX:=Hd hx;have y:=hx.c 2 _ rfl;by_cases aE:j<x.rn
     .obtain ⟨b,o,c,hAc,hb,hg,aB⟩:=Sl.cell (f:=rdC) (k:=6) (fun _=>rfl) (A _ hx.be) aE;rw [hAc] at y;have HCR:Aw (wr.rangeAt b (o+j*6) (rdC c)):=Hd fun i v l=>aB i v l
      have p:=Hd hg;have eF:=Hd (Tx c wr);have X:decide ((j:Int)<(x.rn:Int))=true:=QQ Oo;have O:decide (j<x.rn)=true:=QQ aE;have HT:=Hd aE;have hw:IntKind.i64.wrap ((j:Int)+1)=(j:Int)+1:=QL _ (by have:=K.1;unfold maxLen at this;omega);cases hc:rdB c with
      |false=>
       rw [hc] at eF;have HN:Aw (R=false):=Hd (by rw [q.o,Ve p.o hc];rfl);exact lr
      |true=>
       rw [hc] at eF;have gJ:=Hd (Xk d p hc);exact lr
     .obtain rfl:j=x.rn:=Oo
      have HN:Aw (R=true):=Hd (by rw [q.o,Yb B.o d.o];rfl);clear hall hx hj aE;go_wp2_with fail;go_ret;exact ⟨by rw [HN.o];rfl,HX.be⟩
 all_goals
  have HN:Aw (R=false):=s;have H:=HX.c 0 _ rfl;have L:=HX.c 1 _ rfl;have y:=HX.c 2 _ rfl;have n:=HX.c 3 _ rfl;have M:=Hd HX.be;go_in;go_wp2_with (first|(go_at_call 47;refine yP (g rfl rfl rfl _) fun P hb=>?_;have M:=Hd (HX.next hb).be;clear hb));go_ret;exact ⟨by rw [HN.o];rfl,M⟩
end Go.Proofs.YtdleakjejodjjaaGreatDoor
