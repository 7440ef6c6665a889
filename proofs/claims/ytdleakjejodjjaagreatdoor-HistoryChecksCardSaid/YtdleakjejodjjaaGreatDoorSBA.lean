/- Of the history laws. -/
import Derived.Test.YtdleakjejodjjaaGreatDoorSAZ
namespace Go.Proofs.YtdleakjejodjjaaGreatDoor
open Tryz
set_option linter.defProp false
set_option linter.unusedVariables false
set_option linter.unusedSimpArgs false
set_option maxRecDepth 100000
set_option maxHeartbeats 20000000
open Go.RowKit
def u7 {x:Cnt} {n:Int} {c:Chg} {w W:Wd} (h:DW x n c w W) (A:Option Addr) (cc:Nat):DW ⟨x.d,x.ap,A,x.pn,cc,x.ps⟩ n c w (W.setCell ⟨w.1.size,22,none⟩ (.slice A x.pn cc)):=by
 have hz:=h.sz;refine ⟨?_,h.b2.far Am _,h.b3.far Am _,by simpa using hz,h.be.setCell (Le _) _⟩;have:=h.b1.set 22 (.slice A x.pn cc);exact this
def Bw {α:Type} {f:α->List Value} {k n c:Nat} {A:Option Addr} {l:List α} {w:Wd} (h:Sl f k w w.1.size A n c l) (p:Addr) (u:Value) (g:∀ a,A=some a->a.block≠p.block):Sl f k (w.setCell p u) (w.setCell p u).1.size A n c l:=
 ⟨h.1,h.2.1,h.2.2.1,fun hn=>by
  obtain ⟨b,o,e,d,m⟩:=h.2.2.2 hn;exact ⟨b,o,e,by simpa using d,fun j v i=>(WO (KW w p u b (fun q=>g ⟨b,o,none⟩ e q))).trans (m j v i)⟩⟩
def oh {G:Prop} (h:G:=by
  subst hq;go_in
  go_wp2_with (first|(with_reducible refine yL 37 2 cK.o.b1 ?_)|(go_at_call 74;refine (HV.o _ cK.o.be).mono ?_;rw [hfv];rintro e w2 ⟨rfl,hb⟩;have aJ:=Hd (Vk cK.o hb);have n0:=aJ.o.b2.ce 0 (.int .i64 n);clear hb)|((with_reducible refine Gl 50 10 ?_);refine V3 Ak 50 _ rfl (w.1.size+1) 1 rfl (chC c) _ (Km aJ.o) underlying50 rfl Ak ?_)|(go_at_call 62;refine (eF.o _).mono ?_;rw [eP];rintro e w3 ⟨rfl,hb⟩;have aQ:=Hd (Vk aJ.o hb);clear n0;have n0:=aQ.o.b2.ce 0 (.int .i64 n);have c22:=aQ.o.b1.ce 22 (.slice x.pA x.pn x.pc);clear hb)|((with_reducible refine Gb 37 ?_);refine U1 Ak 37 _ rfl zV.toArray Ak ?_)|(with_reducible refine yS 37 4 aQ.o.b3 HZO.o ?_))
  have hr:=Us (w3.setRow (w.1.size+2) zV.toArray) (w.1.size+2) zV.toArray (QR _ _ _ _ _ _ aQ.o.b3) rfl;exact Br (v:=.tuple #[.agg zV.toArray,.int .i64 1]) (U2 results77 rfl rfl hr) rfl ⟨rfl,Uf aQ.o.be Oo _⟩):G:=h
def mG (x:Cnt) (n:Int) (c:Chg) (w:Wd) (r:CW w x) (T:Cod w) (hr:c.rcd.size<=maxLen) (Y:c.vol.size<=maxLen):
  Calls prog 77 #[.agg (cnC x).toArray,.agg (nbC n c).toArray] w (DoR none (doF (plC x) n c) w):=by
 obtain ⟨R,S⟩:=yG (doF (plC x) n c);rw [S];have F:=Hd S;have HX:=Hd (IB x n c w);have HV:Aw (∀ W,Below w.1.size w W->Calls prog 74 #[.agg (cnC x).toArray] W (Ab W (.bool (Vi x.d x.ap x.ps)))):=Hd fun W hb=>Mh x.d x.ap x.pA x.pn x.pc x.ps W (r.below hb) (T.after hb) r.rz
 have eF:Aw (∀ W,Calls prog 62 #[.agg (chC c).toArray] W (Ab W (.bool (chB c.kind c.id c.key c.rcd c.vol)))):=Hd fun W=>GV c.kind c.id c.key c.rcd c.vol W Y
 have X:Aw (∀ W,Below w.1.size w W->Calls prog 28 #[.slice x.pA x.pn x.pc] W fun e w'=>∃ v,e=.returned v/\w'.ownsRow W.1.size 74 2 v x.pn (U7 prC x.ps)/\Below W.1.size W w'):=Hd fun W hb=>F8 x.pA x.pn x.pc x.ps W (r.sl.after hb hb.size) (by have:=r.le;omega)
 have u:Aw (∀ (A:Option Addr) (cc:Nat) W,Below w.1.size w W->CW W ⟨x.d,x.ap,A,x.pn,cc,x.ps⟩->Calls prog 110 #[.agg (cnC ⟨x.d,x.ap,A,x.pn,cc,x.ps⟩).toArray,.agg (nbC n c).toArray] W (DoR A (doP (plC x) n c) W)):=Hd fun A cc W hb h=>nW ⟨x.d,x.ap,A,x.pn,cc,x.ps⟩ n c W h (T.after hb) hr
 have V:Aw (x.pn<=1024):=Hd r.le;have D:Aw (∀ q∈x.ps,q.rcd.size<=maxLen):=Hd r.rz;have HZO:Aw (zV.toArray.all (·.oneCell')=true):=Hd (by simp [zV,Value.oneCell']);clear r T hr Y S;have s:=HX.o;unfold zV at s;have cK:=Hd s;clear s;cases hfv:Vi x.d x.ap x.ps with
 |false=>
  have hq:R=.inl 1:=by rw [<-F.o];unfold doF;rw [QX];rw [show Vi (plC x).d (plC x).ap (plC x).ps=false from hfv];simp
  subst hq;go_in;go_wp2_with (first|(with_reducible refine yL 37 2 cK.o.b1 ?_)|(go_at_call 74;refine (HV.o _ cK.o.be).mono ?_;rw [hfv];rintro e w2 ⟨rfl,hb⟩;have aJ:=Hd (Vk cK.o hb);have n0:=aJ.o.b2.ce 0 (.int .i64 n);clear hb)|((with_reducible refine Gb 37 ?_);refine U1 Ak 37 _ rfl zV.toArray Ak ?_)|(with_reducible refine yS 37 4 aJ.o.b3 HZO.o ?_));have hr:=Us (w2.setRow (w.1.size+2) zV.toArray) (w.1.size+2) zV.toArray (QR _ _ _ _ _ _ aJ.o.b3) rfl;exact Br (v:=.tuple #[.agg zV.toArray,.int .i64 1]) (U2 results77 rfl rfl hr) rfl ⟨rfl,Uf aJ.o.be Oo _⟩
 |true=>
  cases eP:chB c.kind c.id c.key c.rcd c.vol with
  |false=>
   have hq:R=.inl 1:=by rw [<-F.o];unfold doF;rw [QX];rw [eP];simp
   exact oh
  |true=>
   rcases (by omega:n<1\/1<=n) with P|P
   .have f1:decide (n<1)=true:=QQ P;have hq:R=.inl 1:=by rw [<-F.o];unfold doF;rw [QX];simp;omega
    exact oh
   have f1:decide (n<1)=false:=QW Oo;rcases (by omega:1099511627776<n\/n<=1099511627776) with L|L
   .have f2:decide ((1099511627776:Int)<n)=true:=QQ L;have hq:R=.inl 1:=by rw [<-F.o];unfold doF;rw [QX];simp;omega
    exact oh
   have f2:decide ((1099511627776:Int)<n)=false:=QW Oo;have hq:R=doP (plC x) n c:=by rw [<-F.o];unfold doF;rw [QK];rw [show Vi (plC x).d (plC x).ap (plC x).ps=true from hfv,eP];simp [P,L]
   rw [hq];clear hq;generalize doP (plC x) n c=Q at u ⊢;cases Q with
   |inl Z=>
    go_in
    go_wp2_with (first|(with_reducible refine yL 37 2 cK.o.b1 ?_)|(go_at_call 74;refine (HV.o _ cK.o.be).mono ?_;rw [hfv];rintro e w2 ⟨rfl,hb⟩;have aJ:=Hd (Vk cK.o hb);have n0:=aJ.o.b2.ce 0 (.int .i64 n);clear hb)|((with_reducible refine Gl 50 10 ?_);refine V3 Ak 50 _ rfl (w.1.size+1) 1 rfl (chC c) _ (Km aJ.o) underlying50 rfl Ak ?_)|(go_at_call 62;refine (eF.o _).mono ?_;rw [eP];rintro e w3 ⟨rfl,hb⟩;have aQ:=Hd (Vk aJ.o hb);clear n0;have n0:=aQ.o.b2.ce 0 (.int .i64 n);have c22:=aQ.o.b1.ce 22 (.slice x.pA x.pn x.pc);clear hb)|(go_at_call 28;refine (X.o _ aQ.o.be).mono ?_;rintro e K ⟨v,rfl,l,hb⟩;obtain ⟨o,b,rfl,_⟩:=U4 l;have k:=Hd l;have t:=Hd (Vk aQ.o hb);have i:=Hd (u7 t.o o b);have B:=t.o.b1.ce 22 (.slice x.pA x.pn x.pc);have m:=t.o.b1.free 22;have d:=Hd aQ.o.sz;clear l hb c22 n0)|(with_reducible refine yL 37 2 i.o.b1 ?_)|(with_reducible refine yL 108 3 i.o.b2 ?_)|(go_at_call 110;refine yP (u.o o b _ i.o.be ⟨Bw (Sl.of_own (f:=prC) (fun _=>rfl) Ac k.o) _ _ (fun a j=>by subst j;have C:=(k.o.lt _ rfl).1;have U:=d.o;show a.block≠w.1.size;omega),V.o,fun h=>by subst h;rcases k.o.2 with ⟨e,_⟩|⟨g,N,O,e,_⟩<;>(injection e with e6 e7 e8)<;>(first|exact e8|cases e6),D.o⟩) fun M hb=>?_;have p:=Hd (Vk i.o hb);have E:Aw (w.1.size+3<=(K.setCell ⟨w.1.size,22,none⟩ (.slice o x.pn b)).1.size):=Hd i.o.sz;clear hb B m)|(with_reducible refine yS 37 4 p.o.b3 HZO.o ?_))
    have hr:=Us (M.setRow (w.1.size+2) (zV).toArray) (w.1.size+2) (zV).toArray (QR _ _ _ _ _ _ p.o.b3) rfl;exact Br (v:=.tuple #[.agg (zV).toArray,.int .i64 Z]) (U2 results77 rfl rfl hr) rfl ⟨rfl,Uf p.o.be Oo _⟩
   |inr y=>
    have HQ:Aw True:=Hd trivial;go_in
    go_wp2_with (first|(with_reducible refine yL 37 2 cK.o.b1 ?_)|(go_at_call 74;refine (HV.o _ cK.o.be).mono ?_;rw [hfv];rintro e w2 ⟨rfl,hb⟩;have aJ:=Hd (Vk cK.o hb);have n0:=aJ.o.b2.ce 0 (.int .i64 n);clear hb)|((with_reducible refine Gl 50 10 ?_);refine V3 Ak 50 _ rfl (w.1.size+1) 1 rfl (chC c) _ (Km aJ.o) underlying50 rfl Ak ?_)|(go_at_call 62;refine (eF.o _).mono ?_;rw [eP];rintro e w3 ⟨rfl,hb⟩;have aQ:=Hd (Vk aJ.o hb);clear n0;have n0:=aQ.o.b2.ce 0 (.int .i64 n);have c22:=aQ.o.b1.ce 22 (.slice x.pA x.pn x.pc);clear hb)|(go_at_call 28;refine (X.o _ aQ.o.be).mono ?_;rintro e K ⟨v,rfl,l,hb⟩;obtain ⟨o,b,rfl,_⟩:=U4 l;have k:=Hd l;have t:=Hd (Vk aQ.o hb);have i:=Hd (u7 t.o o b);have B:=t.o.b1.ce 22 (.slice x.pA x.pn x.pc);have m:=t.o.b1.free 22;have d:=Hd aQ.o.sz;clear l hb c22 n0)|(with_reducible refine yL 37 2 i.o.b1 ?_)|(with_reducible refine yL 108 3 i.o.b2 ?_)|(go_at_call 110;refine (u.o o b _ i.o.be ⟨Bw (Sl.of_own (f:=prC) (fun _=>rfl) Ac k.o) _ _ (fun a j=>by subst j;have C:=(k.o.lt _ rfl).1;have U:=d.o;show a.block≠w.1.size;omega),V.o,fun h=>by subst h;rcases k.o.2 with ⟨e,_⟩|⟨g,N,O,e,_⟩<;>(injection e with e6 e7 e8)<;>(first|exact e8|cases e6),D.o⟩).mono ?_;rintro e M ⟨z,hz,rfl,I,J,hb⟩;have p:=Hd (Vk i.o hb);have E:Aw (w.1.size+3<=(K.setCell ⟨w.1.size,22,none⟩ (.slice o x.pn b)).1.size):=Hd i.o.sz;clear hb B m)|(with_reducible refine yS 37 4 p.o.b3 (Va z) ?_))
    have hr:=Us (M.setRow (w.1.size+2) (cnC z).toArray) (w.1.size+2) (cnC z).toArray (QR _ _ _ _ _ _ p.o.b3) rfl
    have H:∀ a,z.pA=some a->w.1.size+3<=a.block:=fun a j=>by
     rcases J a j with C|C
     .have:=E.o;omega
     .subst C;have U:=(k.o.lt _ rfl).1;have:=d.o;omega
    exact Br (v:=.tuple #[.agg (cnC z).toArray,.int .i64 0]) (U2 results77 rfl rfl hr) rfl ⟨z,hz,rfl,⟨Io I.sl _ _ (fun a j=>by have C:=H a j;omega),I.le,I.nil,I.rz⟩,fun a j=>.inl (by have C:=H a j;omega),Uf p.o.be Oo _⟩
def uc (x:PC) (n:Int) (c:Chg) (y:PC) (h:doF x n c=.inr y):y.d=x.d:=by
 unfold doF doP at h;split at h
 .split at h
  .injection h with h;rw [<-h]
  .split at h
   .cases h
   .split at h
    .cases h
    .injection h with h;rw [<-h]
 .cases h
def jK (x:Cnt) (n:Int) (c:Chg) (w:Wd) (j:x.d.id=c.id) (k:CW w x) (m:Cod w) (i:c.rcd.size<=maxLen) (l:c.vol.size<=maxLen):
  Calls prog 77 #[.agg (cnC x).toArray,.agg (nbC n c).toArray] w (DoG (doF (plC x) n c) c.id w):=by
 refine (mG x n c w k m i l).mono ?_;intro e w' h;cases a:doF (plC x) n c with
 |inl o=>
  rw [a] at h;exact ⟨PM _ _ _ _ a,h.1,h.2⟩
 |inr y=>
  rw [a] at h;obtain ⟨z,hz,he,g,_,d⟩:=h;refine ⟨z,hz,?_,he,g,d⟩;have f:=uc _ _ _ _ a;have b:z.d=y.d:=by rw [<-hz];rfl
  rw [b,f];exact j
end Go.Proofs.YtdleakjejodjjaaGreatDoor
