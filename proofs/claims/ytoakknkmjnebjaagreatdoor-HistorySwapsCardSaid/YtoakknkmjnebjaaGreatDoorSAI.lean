/- Of HistorySwaps. -/
import Derived.Test.YtoakknkmjnebjaaGreatDoorSAH
namespace Go.Proofs.YtoakknkmjnebjaaGreatDoor
open Tryz (prog)
set_option maxRecDepth 100000
set_option maxHeartbeats 8000000
open Go.RowKit
section
structure PC where
 d:DSet
 ap:Int
 ps:List Pr
def plC (x:Cnt):PC:=⟨x.d,x.ap,x.ps⟩
def isP (id:Int) (x:PC):Bool:=decide (x.d.id=id)
def V4 (st:List PC) (id:Int):Option PC:=st.find? (isP id)
def I9 (st:List PC) (x:PC):List PC:=if st.findIdx (isP x.d.id)<st.length then st.set (st.findIdx (isP x.d.id)) x else st++[x]
def delP (st:List PC) (id:Int):List PC:=st.eraseIdx (st.findIdx (isP id))
theorem isP_pl (id:Int):isP id∘plC=Ys id:=rfl
theorem Hk (st:List Cnt) (id:Int):V4 (st.map plC) id=(Yn st id).map plC:=by
 unfold V4 Yn;rw [List.find?_map,isP_pl]
theorem idx_pl (st:List Cnt) (id:Int):(st.map plC).findIdx (isP id)=st.findIdx (Ys id):=by
 rw [List.findIdx_map,isP_pl]
theorem J7 (st:List Cnt) (x:Cnt):I9 (st.map plC) (plC x)=(Eo st x).map plC:=by
 unfold I9 Eo;rw [show (plC x).d.id=x.d.id from rfl,idx_pl,List.length_map];split
 ·rw [List.map_set]
 ·simp
theorem delP_pl (st:List Cnt) (id:Int):delP (st.map plC) id=(delS st id).map plC:=by
 unfold delP delS;rw [idx_pl,List.eraseIdx_eq_take_drop_succ,List.eraseIdx_eq_take_drop_succ,List.map_append,List.map_take,List.map_drop]
def Zj (st:List PC) (id:Int):List Pr:=match V4 st id with|some x=>x.ps|none=>[]
def ansF (ps:List Pr) (r:Rdd):Bz×Bz×Int:=
 if r.kind=0 then (if (Fw ps r.key).2=0 then (r.key,(Fw ps r.key).1,0) else (⟨#[]⟩,⟨#[]⟩,6))
 else (if (Gh ps r.key).2.2=0 then Gh ps r.key else (⟨#[]⟩,⟨#[]⟩,6))
def Vy (ps:List Pr) (r:Rdd):Bool:=decide ((r.ak,r.ar,r.code)=ansF ps r)
section
variable (told:Bz→Int→Option DSet) (doF:PC→Int→Chg→Int ⊕ PC)
def Jm (num:Int):List Chg→List PC→Option (List PC)
 | [],s=>some s
 |c::r,s=>if (V4 s c.id).isSome=true∨c.kind≠4 then Jm num r s else match told c.rcd c.id with
  |none=>none
  |some d=>Jm num r (I9 s ⟨d,num-1,[]⟩)
def Z3 (num:Int):Nat→List Chg→List PC→Int ⊕ List PC
 |_,[],s=>.inr s
 |i,c::r,s=>match V4 s c.id with
  |none=>Z3 num (i+1) r s
  |some x=>
   if c.kind=5 then Z3 num (i+1) r (delP s c.id)
   else if c.kind=6∨c.kind=7 then (match told c.rcd c.id with
    |none=>Z3 num (i+1) r s
    |some d=>Z3 num (i+1) r (I9 s ⟨d,x.ap,x.ps⟩))
   else if c.kind=4 then Z3 num (i+1) r s
   else match doF x (num+i) c with
    |.inl e=>.inl e
    |.inr y=>Z3 num (i+1) r (I9 s y)
def aft (num:Int) (cs:List Chg) (s:List PC):Int ⊕ List PC:=match Jm told num cs s with
 |none=>.inl 11
 |some s1=>Z3 told doF num 0 cs s1
def Vs:List Com→List PC→Int ⊕ List PC
 | [],s=>.inr s
 |u::r,s=>match aft told doF u.num u.cs s with
  |.inl e=>.inl e
  |.inr s1=>Vs r s1
def chkF:Nat→List Com→List PC→Int ⊕ Option (Nat×Nat)
 |_,[],_=>.inr none
 |i,u::r,s=>
  if u.rs.findIdx (fun x => !Vy (Zj s x.id) x)<u.rs.length then .inr (some (i,u.rs.findIdx (fun x => !Vy (Zj s x.id) x)))
  else match aft told doF u.num u.cs s with
   |.inl e=>.inl e
   |.inr s1=>chkF (i+1) r s1
variable {told doF}
end
theorem getP_id {st:List PC} {id:Int} {x:PC} (h:V4 st id=some x):x.d.id=id:=by
 have:=List.find?_some h;simpa [isP] using this
end
def ToldG (R:Option DSet) (id:Int) (w:Wd) (e:Ending) (w':Wd):Prop:=(match R with
 |none => ∃ d,e = .returned (.tuple #[.agg (dC d).toArray,.bool false])
 |some d=>d.id=id∧e = .returned (.tuple #[.agg (dC d).toArray,.bool true]))∧Below w.heap.size w w'
def DoG (R:Int ⊕ PC) (id:Int) (w:Wd) (e:Ending) (w':Wd):Prop:=match R with
 |.inl er=>er≠0∧e = .returned (.tuple #[.agg zV.toArray,.int .i64 er])∧Below w.heap.size w w'
 |.inr y => ∃ z:Cnt,plC z=y∧z.d.id=id∧e = .returned (.tuple #[.agg (cnC z).toArray,.int .i64 0])∧CW w' z∧Below w.heap.size w w'
def nbC (n:Int) (c:Chg):List Value:=.int .i64 n::chC c
theorem chC_ones (c:Chg):(chC c).toArray.all (·.oneCell')=true:=by simp [chC,Value.oneCell']
def AftG (R:Int ⊕ List PC) (bs:Nat) (w:Wd) (e:Ending) (w':Wd):Prop:=match R with
 |.inl er=>er≠0∧e = .returned (.int .i64 er)∧Far [bs] w w'
 |.inr s => ∃ st:List Cnt,st.map plC=s∧e = .returned (.int .i64 0)∧SW w' bs st∧Far [bs] w w'
structure AL (x:Com) (bs:Nat) (w W:Wd) (st:List Cnt):Prop where
 sw:SW W bs st
 ub:Blk W w.heap.size 34 (U7 x).toArray
 far:Far [bs] w W
 lt:bs<w.heap.size
 sz:w.heap.size+1≤W.heap.size
theorem Vt {x:Com} {bs:Nat} {w W W':Wd} {st:List Cnt} (h:AL x bs w W st) (hb:Below W.heap.size W W'):AL x bs w W' st:=
 have hz:=h.sz
 ⟨h.sw.below hb,h.ub.below hb (by omega),h.far.trans (Far.of_below hb),h.lt,Lx hz hb.size⟩
theorem al_put {x:Com} {bs:Nat} {w W W':Wd} {st:List Cnt} {y:Cnt} (h:AL x bs w W st) (hy:CW W y) (h2:SB W' bs (Eo st y)) (hf:Far [bs] W W'):AL x bs w W' (Eo st y):=
 have hz:=h.sz;have hl:=h.lt
 ⟨h.sw.put hy h2 hf,h.ub.far' hf (by simp;omega),h.far.trans hf,h.lt,Lx hz hf.size⟩
theorem al_del {x:Com} {bs:Nat} {w W W':Wd} {st:List Cnt} {id:Int} (h:AL x bs w W st) (h2:SB W' bs (delS st id)) (hf:Far [bs] W W'):AL x bs w W' (delS st id):=
 have hz:=h.sz;have hl:=h.lt
 ⟨h.sw.del h2 hf,h.ub.far' hf (by simp;omega),h.far.trans hf,h.lt,Lx hz hf.size⟩
theorem al_start {x:Com} {bs:Nat} {w:Wd} {st:List Cnt} (h:SW w bs st):AL x bs w (w.alloc (.cells (U7 x).toArray 34)) st:=
 ⟨h.below ((Bf _ _).alloc (Le _) _),Blk.new w _ _,(Far.refl _ _).alloc _,h.sb.lt,by simp⟩
theorem sl_farS {α:Type} {f:α→List Value} {k B n c bs:Nat} {A:Option Addr} {l:List α} {w w':Wd} {st st':List Cnt} (h:Sl f k w B A n c l) (hB:B≤w.heap.size) (h1:SB w bs st) (h2:SB w' bs st') (hf:Far [bs] w w'):Sl f k w' B A n c l:=
 h.keep fun p hp=>by
  by_cases e:p.block=bs
  ·obtain ⟨es,c,hb,_⟩:=h1;obtain ⟨es',c',gR,_⟩:=h2;rw [Fb hb p e,Fb gR p e]
  ·exact World.cell?_of_block (hf.block p.block (Nat.lt_of_lt_of_le hp hB) (by simpa using e))
theorem cw_empty (w:Wd) (d:DSet) (n:Int):CW w ⟨d,n,none,0,0,[]⟩:=⟨Sl.nil,by simp,fun _=>rfl,fun q hq=>by cases hq⟩
theorem cw_d {w:Wd} {y:Cnt} (h:CW w y) (d:DSet):CW w ⟨d,y.ap,y.pA,y.pn,y.pc,y.ps⟩:=⟨h.sl,h.le,h.nil,h.rz⟩
theorem Vr {P:Program} {fn:Func} {tmps:Array Value} {p:Nat} {t:TypeId} {b:Nat} {c:Value} {W:Wd} (h:fn.results=#[.cell p t]) (hp:tmps.getD p undef = .pointer (some ⟨b,0,none⟩))
  (hl:(loadVar t ⟨b,0,none⟩).run P W = .ok c W):(results fn tmps).run P W = .ok c W:=by
 have hp':tmps[p]?.getD undef = .pointer (some ⟨b,0,none⟩):=by simpa using hp
 simp [results,h,hp',asAddr,hl]
def setL (cs:Array Value):Nat→List Value→Array Value
 |_,[]=>cs
 |o,v::l=>setL (cs.setIfInBounds o v) (o+1) l
theorem G6 {b:Nat} {t:TypeId}:∀ (l:List Value) (o:Nat) (w:Wd) (cs:Array Value),Blk w b t cs→Blk (w.setCells b o l) b t (setL cs o l)
 | [],_,_,_,h=>h
 |v::l,o,w,cs,h=>G6 l (o+1) (w.setCell ⟨b,o,none⟩ v) (cs.setIfInBounds o v) (h.set o v)
theorem Yg {B b:Nat} {w:Wd} (hB:B≤b):∀ (l:List Value) (o:Nat) (w':Wd),Below B w w'→Below B w (w'.setCells b o l)
 | [],_,_,h=>h
 |v::l,o,w',h=>Yg hB l (o+1) (w'.setCell ⟨b,o,none⟩ v) (h.setCell hB v)
theorem setL_cn (y:Cnt) (d:DSet):setL (cnC y).toArray 0 (dC d)=(cnC ⟨d,y.ap,y.pA,y.pn,y.pc,y.ps⟩).toArray:=by kernel_rfl
theorem there_blk {w:Wd} {b:Nat} {t:TypeId} {cs:Array Value} (h:Blk w b t cs) (n:Nat) (hn:n≤cs.size):w.there b 0 n:=fun j hj=>by
 rw [Nat.zero_add];exact ⟨by rw [h.cell,Array.getElem?_eq_getElem (by omega)];rfl,h.free _⟩
structure AE (x:Com) (bs:Nat) (w:Wd) (st:List Cnt) (y:Cnt) (c:Chg) (d:DSet) (a:Nat) (w2:Wd):Prop where
 th:(w2.alloc (.cells (dC d).toArray 27)).there (a+1) 0 (dC d).length
 cb:Blk ((w2.alloc (.cells (dC d).toArray 27)).setCells (a+1) 0 (dC d)) (a+1) 30 (cnC ⟨d,y.ap,y.pA,y.pn,y.pc,y.ps⟩).toArray
 c1:((w2.alloc (.cells (dC d).toArray 27)).setCells (a+1) 0 (dC d)).cell? ⟨a,1,none⟩=some (.int .i64 c.id)
 put:∃ w4,(Instr.mapUpdate 65 (.map (some bs)) (.int .i64 c.id) (.agg (cnC ⟨d,y.ap,y.pA,y.pn,y.pc,y.ps⟩).toArray)).run prog ((w2.alloc (.cells (dC d).toArray 27)).setCells (a+1) 0 (dC d)) = .ok () w4∧AL x bs w w4 (Eo st ⟨d,y.ap,y.pA,y.pn,y.pc,y.ps⟩)
theorem aft_told {x:Com} {bs a:Nat} {w wx Y w2:Wd} {st:List Cnt} {y:Cnt} {c:Chg} {d:DSet} (hA:AL x bs w Y st) (hC:Blk Y (a+1) 30 (cnC y).toArray) (hK:Blk Y a 58 (chC c).toArray) (hz:Y.heap.size=a+2)
  (hb:Below Y.heap.size Y w2) (hid:d.id=c.id) (hx:Below wx.heap.size wx Y) (ha:a=wx.heap.size) (bU:AL x bs w wx st) (hcx:CW wx y):AE x bs w st y c d a w2:=by
 have hZ:=hb.size;have b1:Below (a+1) Y (w2.alloc (.cells (dC d).toArray 27)):=(hb.mono (by omega)).alloc (by omega) _;have k1:Blk (w2.alloc (.cells (dC d).toArray 27)) (a+1) 30 (cnC y).toArray:=(hC.below hb (by omega)).alloc _;have b2:Below (a+1) Y ((w2.alloc (.cells (dC d).toArray 27)).setCells (a+1) 0 (dC d)):=Yg (Le _) _ _ _ b1;have aG:=bU.sw.sb.lt;have hsbZ:SB ((w2.alloc (.cells (dC d).toArray 27)).setCells (a+1) 0 (dC d)) bs st:=hA.sw.sb.below b2 (by omega);have bx:Below wx.heap.size wx ((w2.alloc (.cells (dC d).toArray 27)).setCells (a+1) 0 (dC d)):=hx.trans (b2.mono (by omega));have hAZ:AL x bs w ((w2.alloc (.cells (dC d).toArray 27)).setCells (a+1) 0 (dC d)) st:=Vt bU bx;refine ⟨there_blk k1 _ (by simp [cnC,dC]),?_,(b2.cell (p:=⟨a,1,none⟩) (Nat.lt_succ_self _)).trans ((hK.cell 1).trans rfl),?_⟩
 ·have h:=G6 (dC d) 0 _ _ k1
  rwa [setL_cn] at h
 ·obtain ⟨w4,dR,jS,bW⟩:=Ha _ bs st ⟨d,y.ap,y.pA,y.pn,y.pc,y.ps⟩ hsbZ;refine ⟨w4,by rw [←hid];exact dR,al_put hAZ ?_ jS bW⟩;exact cw_d (hcx.below bx) d
theorem aft_c1 {Y w2:Wd} {a:Nat} {c:Chg} (hK:Blk Y a 58 (chC c).toArray) (hz:Y.heap.size=a+2) (hb:Below Y.heap.size Y w2) (o:Obj):(w2.alloc o).cell? ⟨a,1,none⟩=some (.int .i64 c.id):=
 (((hK.below hb (by omega)).alloc o).cell 1).trans rfl
theorem aft_do2 {x:Com} {bs:Nat} {w Y w2:Wd} {st:List Cnt} {z:Cnt} {id:Int} (hA:AL x bs w Y st) (hb:Below Y.heap.size Y w2) (dO:CW w2 z) (hid:z.d.id=id):
  ∃ w4,(Instr.mapUpdate 65 (.map (some bs)) (.int .i64 id) (.agg (cnC z).toArray)).run prog (w2.alloc (.cells (cnC z).toArray 30)) = .ok () w4∧AL x bs w w4 (Eo st z):=by
 subst hid;have hA2:=Vt (Vt hA hb) ((Bf _ _).alloc (Le _) (.cells (cnC z).toArray 30));obtain ⟨w4,dR,jS,bW⟩:=Ha _ bs st z hA2.sw.sb;exact ⟨w4,dR,al_put hA2 (dO.below ((Bf _ _).alloc (Le _) _)) jS bW⟩
theorem Hj {st:List Cnt} {id:Int}:V4 (st.map plC) id=(Yn st id).map plC:=Hk st id
theorem empty_any (d:DSet) (n:Int) (w:Wd):Calls prog 70 #[.agg (dC d).toArray,.int .i64 n] w fun e w'=>e = .returned (.agg (cnC ⟨d,n,none,0,0,[]⟩).toArray)∧Below w.heap.size w w':=by
 have HB:=Hd fun o=>(Blk.new w 27 (dC d).toArray).alloc o
 have aL:=Hd fun old=>U3 (w.alloc (.cells (dC d).toArray 27)) 30 old (w.heap.size+1) (by simp)
 have HS:=Hd fun old=>Ug (w.alloc (.cells (dC d).toArray 27)) (w.heap.size+1) (by simp) old (cnC ⟨d,n,none,0,0,[]⟩).toArray 30
 have H1:=Hd (Vz ⟨d,n,none,0,0,[]⟩);have HK:=Hd (U3 (w.alloc (.cells (dC d).toArray 27)) 30 (cnC ⟨d,n,none,0,0,[]⟩).toArray (w.heap.size+1) (by simp));go_enter Tryz.func70,Tryz.ntmps70;go_wp2_with (first|((with_reducible refine Gl 27 2 ?_);refine Lq 27 w.heap.size (dC d).toArray (HB.out _) Tryz.underlying27 ?_)|((with_reducible refine Gb 30 ?_);refine U2 (by kernel_rfl) 30 _ rfl (cnC ⟨d,n,none,0,0,[]⟩).toArray (by kernel_rfl) ?_)|((with_reducible refine Gt 30 4 ?_);refine Lv 30 (w.heap.size+1) (cnC ⟨d,n,none,0,0,[]⟩).toArray (aL.out _) H1.out ?_;rw [HS.out]));have hr:=Uw _ (w.heap.size+1) (cnC ⟨d,n,none,0,0,[]⟩).toArray HK.out rfl
 exact Br (v:=.agg (cnC ⟨d,n,none,0,0,[]⟩).toArray) (Vr Tryz.results70 rfl hr) rfl ⟨rfl,((Bf _ _).alloc (Le _) _).alloc (by simp) _⟩
theorem after_g (told:Bz→Int→Option DSet) (doF:PC→Int→Chg→Int ⊕ PC) (x:Com) (bs:Nat) (st0:List Cnt) (w:Wd) (hs:SW w bs st0) (hx:ComOk w w.heap.size x) (hcn:x.cn≤1000) (hn0:1≤x.num) (hn1:x.num≤1099511627776)
  (HT0:∀ c∈x.cs,∀ W,Far [bs] w W→Calls prog 69 #[.agg (chC c).toArray] W (ToldG (told c.rcd c.id) c.id W))
  (HD0:∀ c∈x.cs,∀ (y:Cnt) (n:Int),y.d.id=c.id→1≤n→n≤1099511628776→∀ W,Far [bs] w W→CW W y→Calls prog 71 #[.agg (cnC y).toArray,.agg (nbC n c).toArray] W (DoG (doF (plC y) n c) c.id W)):
  Calls prog 48 #[.map (some bs),.agg (U7 x).toArray] w (AftG (aft told doF x.num x.cs (st0.map plC)) bs w):=by
 have HT:=Hd HT0;have HD:=Hd HD0;have cG:Hid (∀ W st,AL x bs w W st→Sl chC 5 W w.heap.size x.cA x.cn x.cc x.cs):=Hd fun W st h=>sl_farS hx.2.1 (Le _) hs.sb h.sw.sb h.far
 have HL:=Hd hx.2.1.len;have HA0:=Hd (al_start (x:=x) hs);have HZ:=Hd zV_one;have c3:(w.alloc (.cells (U7 x).toArray 34)).cell? ⟨w.heap.size,3,none⟩=some (.slice x.cA x.cn x.cc):=((Blk.new w 34 (U7 x).toArray).cell 3).trans rfl;obtain ⟨RR,cT⟩:∃ RR,aft told doF x.num x.cs (st0.map plC)=RR:=⟨_,rfl⟩
 rw [cT];unfold aft at cT;obtain ⟨R1,hR1⟩:∃ R1,Jm told x.num x.cs (st0.map plC)=R1:=⟨_,rfl⟩
 rw [hR1] at cT;have gQ:=Hd hR1;have hwr:IntKind.i64.wrap (x.num-1)=x.num-1:=IntWalk.i64_in _ (by omega);have HWR:=Hd hwr;clear hs hx HT0 HD0 hR1 hwr;obtain ⟨cn,hcnn⟩:∃ cn,x.cn=cn:=⟨_,rfl⟩
 rw [hcnn] at hcn HL c3;simp only [hcnn] at cG;have gK:=Hd hcnn;obtain ⟨cA,hcA⟩:∃ cA,x.cA=cA:=⟨_,rfl⟩
 rw [hcA] at c3;simp only [hcA] at cG;have mC:=Hd hcA;obtain ⟨num,hnum⟩:∃ num,x.num=num:=⟨_,rfl⟩
 rw [hnum] at hn0 hn1 gQ HWR cT;have aT:=Hd cT;have HNUM:=Hd hnum;clear hcnn hnum hcA cT;go_enter Tryz.func48,Tryz.ntmps48;go_wp2;go_loopw [22] (fun i wr => ∃ (j:Nat) (st:List Cnt),j≤cn∧i = .int .i64 j∧Jm told num (x.cs.drop j) (st.map plC)=R1∧AL x bs w wr st) (fun i _=>cn-(intOf i).toNat)
 case atStart=>exact ⟨0,st0,Z0 _,rfl,gQ.out,HA0.out⟩
 case round=>
  obtain ⟨j,st,hj,rfl,aI,bU⟩:=hrel;obtain ⟨wx,rfl⟩:∃ z:Wd,z=wr:=⟨_,rfl⟩
  have cK:=Hd bU;clear bU c3;by_cases aG:j<cn
  ·obtain ⟨b,o,c,rfl,hb,hg,aB⟩:=Sl.cell (f:=chC) (k:=5) (fun _=>rfl) (cG.out _ _ cK.out) aG;have hc:=List.mem_of_getElem? hg;have HC:=Hd hc
   have gG:x.cs.drop j=c::x.cs.drop (j+1):=by
    rw [List.drop_eq_getElem_cons (by rw [HL.out];exact aG)];congr 1;exact (List.getElem?_eq_some_iff.1 hg).2
   have HDR:=Hd gG;have HM:Hid (wx.rangeAt b (o+j*5) (chC c)):=Hd fun t u hu=>aB t u hu
   have dI:=Hd (chC_ones c);have aQ:=Hd fun old=>Blk.new wx 58 old
   have bK:=Hd fun old=>U1 wx old (chC c).toArray 58
   obtain ⟨X,hX⟩:∃ X,wx.alloc (.cells (chC c).toArray 58)=X:=⟨_,rfl⟩
   have hXb:Below wx.heap.size wx X:=by rw [←hX];exact (Bf _ _).alloc (Le _) _
   have hXk:Blk X wx.heap.size 58 (chC c).toArray:=by rw [←hX];exact Blk.new wx _ _
   have hXz:X.heap.size=wx.heap.size+1:=by rw [←hX];simp
   simp only [hX] at bK;have hl:=Ii X bs st c.id (cK.out.sw.below hXb).sb;have c1:X.cell? ⟨wx.heap.size,1,none⟩=some (.int .i64 c.id):=(hXk.cell 1).trans rfl;have HXB:=Hd hXb;have HXK:=Hd hXk;have eD:=Hd hXz;have bE:=Hd aG;have aL:=Hd fun old=>U3 X 30 old (wx.heap.size+1) hXz.symm
   clear hb hg aB hc gG hX hXb hXk;cases hgs:Yn st c.id with
   |some y=>
    rw [hgs] at hl;simp only at hl
    have hr:Jm told num (x.cs.drop (j+1)) (st.map plC)=R1:=by
     rw [HDR.out] at aI;unfold Jm at aI
     rwa [Hj,hgs,if_pos (.inl rfl)] at aI
    have HR:=Hd hr;have HY1:=Hd (Vz y);have bR:Hid (∀ old,(X.alloc (.cells old 30)).setRow (wx.heap.size+1) (cnC y).toArray=X.alloc (.cells (cnC y).toArray 30)):=Hd fun old=>Ug X (wx.heap.size+1) eD.out.symm old (cnC y).toArray 30
    obtain ⟨Y,hY⟩:∃ Y,X.alloc (.cells (cnC y).toArray 30)=Y:=⟨_,rfl⟩
    have gN:Below wx.heap.size wx Y:=by rw [←hY];exact HXB.out.alloc (by have:=eD.out;omega) _
    have gS:Blk Y wx.heap.size 58 (chC c).toArray:=by rw [←hY];exact HXK.out.alloc _
    have hYc:Blk Y (wx.heap.size+1) 30 (cnC y).toArray:=by rw [←hY];exact aL.out _
    have hYz:Y.heap.size=wx.heap.size+2:=by rw [←hY];simp;have:=eD.out;omega
    simp only [hY] at bR;have fC:=Hd (Vt cK.out gN);have HYB:=Hd gN;have fE:=Hd gS;have HYC:=Hd hYc;have HYZ:=Hd hYz;have c0:Y.cell? ⟨wx.heap.size,0,none⟩=some (.int .i64 c.kind):=(gS.cell 0).trans rfl;clear hY gN gS hYc hYz;clear hr aI hgs;go_wp2_with (first|((with_reducible refine Gl 58 24 ?_);refine Ln 58 b (o+j*5) (chC c) HM.out Tryz.underlying58 ?_)|((with_reducible refine Gt 58 6 ?_);refine Lv 58 wx.heap.size (chC c).toArray (aQ.out _) dI.out ?_;rw [bK.out])|((with_reducible refine Gt 30 7 ?_);refine Lv 30 (wx.heap.size+1) (cnC y).toArray (aL.out _) HY1.out ?_;rw [bR.out]));go_roundw
    case rel=>exact ⟨j+1,st,by have:=bE.out;omega,by go_num,HR.out,fC.out⟩
    case measure=>simp [intOf];have:=bE.out;omega
   |none=>
    rw [hgs] at hl;simp only at hl;have bR:Hid (∀ old,(X.alloc (.cells old 30)).setRow (wx.heap.size+1) zV.toArray=X.alloc (.cells zV.toArray 30)):=Hd fun old=>Ug X (wx.heap.size+1) eD.out.symm old zV.toArray 30
    obtain ⟨Y,hY⟩:∃ Y,X.alloc (.cells zV.toArray 30)=Y:=⟨_,rfl⟩
    have gN:Below wx.heap.size wx Y:=by rw [←hY];exact HXB.out.alloc (by have:=eD.out;omega) _
    have gS:Blk Y wx.heap.size 58 (chC c).toArray:=by rw [←hY];exact HXK.out.alloc _
    have hYc:Blk Y (wx.heap.size+1) 30 zV.toArray:=by rw [←hY];exact aL.out _
    have hYz:Y.heap.size=wx.heap.size+2:=by rw [←hY];simp;have:=eD.out;omega
    simp only [hY] at bR;have fC:=Hd (Vt cK.out gN);have HYB:=Hd gN;have fE:=Hd gS;have HYC:=Hd hYc;have HYZ:=Hd hYz;have c0:Y.cell? ⟨wx.heap.size,0,none⟩=some (.int .i64 c.kind):=(gS.cell 0).trans rfl;clear hY gN gS hYc hYz;by_cases hk:c.kind=4
    ·have gW:(c.kind != 4)=false:=by simpa using hk
     have hr:(match told c.rcd c.id with|none=>none|some d=>Jm told num (x.cs.drop (j+1)) (I9 (st.map plC) ⟨d,num-1,[]⟩))=R1:=by
      rw [HDR.out] at aI;unfold Jm at aI
      rwa [Hj,hgs,if_neg (by simp [hk])] at aI
     have gM:=Hd (HT.out c HC.out Y fC.out.far);have jW:=Hd hk;clear aI hgs hk;generalize told c.rcd c.id=td at gM hr;cases td with
     |none=>
      have HR:=Hd hr;clear hr
      go_wp2_with (first|((with_reducible refine Gl 58 24 ?_);refine Ln 58 b (o+j*5) (chC c) HM.out Tryz.underlying58 ?_)|((with_reducible refine Gt 58 6 ?_);refine Lv 58 wx.heap.size (chC c).toArray (aQ.out _) dI.out ?_;rw [bK.out])|((with_reducible refine Gt 30 7 ?_);refine Lv 30 (wx.heap.size+1) (zV).toArray (aL.out _) HZ.out ?_;rw [bR.out])|((with_reducible refine Gl 58 6 ?_);refine Lq 58 wx.heap.size _ fE.out Tryz.underlying58 ?_)|(go_at_call 69;refine gM.out.mono ?_;rintro e w2 ⟨⟨d,rfl⟩,aF⟩;have mA:=Hd (Vt fC.out aF);have iF:=Hd (Zg d);have b8:=Hd fun old=>Blk.new w2 27 old;have iY:=Hd fun old=>U1 w2 old (dC d).toArray 27;clear aF)|((with_reducible refine Gt 27 9 ?_);refine Lv 27 w2.heap.size (dC d).toArray (b8.out _) iF.out ?_;rw [iY.out]))
      go_ret;have hq:RR = .inl 11:=by rw [←aT.out,←HR.out]
      rw [hq];exact ⟨by decide,rfl,mA.out.far.alloc _⟩
     |some d=>
      have HR:=Hd hr;clear hr
      go_wp2_with (first|((with_reducible refine Gl 58 24 ?_);refine Ln 58 b (o+j*5) (chC c) HM.out Tryz.underlying58 ?_)|((with_reducible refine Gt 58 6 ?_);refine Lv 58 wx.heap.size (chC c).toArray (aQ.out _) dI.out ?_;rw [bK.out])|((with_reducible refine Gt 30 7 ?_);refine Lv 30 (wx.heap.size+1) (zV).toArray (aL.out _) HZ.out ?_;rw [bR.out])|((with_reducible refine Gl 58 6 ?_);refine Lq 58 wx.heap.size _ fE.out Tryz.underlying58 ?_)|(go_at_call 69;refine gM.out.mono ?_;rintro e w2 ⟨⟨hid,rfl⟩,aF⟩;have HID:=Hd hid;have mA:=Hd (Vt fC.out aF);have HKW:=Hd (fE.out.below aF (by have:=HYZ.out;omega));have gB:=Hd aF.size;have iF:=Hd (Zg d);have b8:=Hd fun old=>Blk.new w2 27 old;have iY:=Hd fun old=>U1 w2 old (dC d).toArray 27;clear aF hid c0 hl)|((with_reducible refine Gt 27 9 ?_);refine Lv 27 w2.heap.size (dC d).toArray (b8.out _) iF.out ?_;rw [iY.out]))
      have HZA:=Hd (Vt mA.out ((Bf _ _).alloc (Le _) (.cells (dC d).toArray 27)).drew);have kC:Hid (Blk (w2.alloc (.cells (dC d).toArray 27)).drew wx.heap.size 58 (chC c).toArray∧Blk (w2.alloc (.cells (dC d).toArray 27)).drew w2.heap.size 27 (dC d).toArray∧Blk (w2.alloc (.cells (dC d).toArray 27)).drew w.heap.size 34 (U7 x).toArray):=Hd ⟨(HKW.out.alloc _).drew,(b8.out _).drew,HZA.out.ub⟩;refine Rw (S:=fun w'=>Blk w' wx.heap.size 58 (chC c).toArray∧Blk w' w2.heap.size 27 (dC d).toArray∧Blk w' w.heap.size 34 (U7 x).toArray) (by kernel_rfl) kC.out (fun Hh=>?_);refine tk 0 (.map (some bs)) Hh ?_;refine tk 1 (.pointer (some ⟨wx.heap.size,1,none⟩)) Hh ?_;refine tj 2 (.int .i64 c.id) Hh ?_ (y:=by intro w' aH;have h1:=(aH.1.cell 1).trans (show _=some (Value.int .i64 c.id) from rfl);go_simp)
      refine tk 3 (.agg (dC d).toArray) Hh ?_ (y:=by exact yieldsIf_load_mid (by rfl) 27 _ rfl w2.heap.size 0 rfl (dC d) _ (fun w' aH j v hv=>by rw [aH.2.1.cell,Nat.zero_add,Ga];exact hv) Tryz.underlying27 rfl (by kernel_rfl));refine tk 4 (.pointer (some ⟨w.heap.size,1,none⟩)) Hh ?_;refine tj 5 (.int .i64 num) Hh ?_ (y:=by intro w' aH;have h1:=(aH.2.2.cell 1).trans (show _=some (Value.int .i64 x.num) from rfl);rw [HNUM.out] at h1;go_simp);refine tj 6 (.int .i64 (num-1)) Hh ?_ (y:=by intro w' aH;have h1:=HWR.out;go_simp);refine Aq [7] ?_;refine Rc (fun K hK=>?_) ?_
      ·go_simp;refine (empty_any d (num-1) _).mono ?_;rintro e w3 ⟨rfl,b7⟩;simp only [];have HA3:=Hd (Vt HZA.out b7);obtain ⟨q0,q1,q2⟩:=Hh;refine hK.out _ _ ⟨q0.below b7 q0.lt,q1.below b7 q1.lt,q2.below b7 q2.lt⟩ (fun Hh=>?_);clear hK K b7 q0 q1 q2;try simp only [Act.put,Sv,Sz,Sw]
       refine Aq [8] ?_;refine Rc (fun K hK=>?_) ?_
       ·go_simp;obtain ⟨w4,dR,jS,bW⟩:=Ha w3 bs st ⟨d,num-1,none,0,0,[]⟩ HA3.out.sw.sb;have hput':(Instr.mapUpdate 65 (.map (some bs)) (.int .i64 c.id) (.agg (cnC ⟨d,num-1,none,0,0,[]⟩).toArray)).run prog w3 = .ok () w4:=by rw [←HID.out];exact dR
        have iJ:=Hd (al_put HA3.out (cw_empty w3 d (num-1)) jS bW);obtain ⟨q0,q1,q2⟩:=Hh;have cP:wx.heap.size≠bs:=by have:=cK.out.sw.sb.lt;omega
        have dD:w2.heap.size≠bs:=by have:=mA.out.sw.sb.lt;omega
        have hne3:w.heap.size≠bs:=by have:=cK.out.lt;omega
        have HQ:=Hd (And.intro (q0.far' bW (by simpa using cP)) (And.intro (q1.far' bW (by simpa using dD)) (q2.far' bW (by simpa using hne3))));clear dR jS bW q0 q1 q2 cP dD hne3;go_simp;refine hK.out _ _ HQ.out (fun Hh=>?_);clear hK K hput';try simp only [Act.put,Sv,Sz,Sw]
        refine Ad (by kernel_rfl) ?_ _;clear Hh;have jK:Hid (Jm told num (x.cs.drop (j+1)) ((Eo st ⟨d,num-1,none,0,0,[]⟩).map plC)=R1):=Hd (by rw [←J7];exact HR.out);go_wp2;go_roundw
        case rel=>exact ⟨j+1,_,by have:=bE.out;omega,by go_num,jK.out,iJ.out⟩
        case measure=>simp [intOf];have:=bE.out;omega
       exact An
      exact An
    ·have gW:(c.kind != 4)=true:=by simpa using hk
     have hr:Jm told num (x.cs.drop (j+1)) (st.map plC)=R1:=by
      rw [HDR.out] at aI;unfold Jm at aI
      rwa [if_pos (.inr hk)] at aI
     have HR:=Hd hr;clear hr aI hgs hk;go_wp2_with (first|((with_reducible refine Gl 58 24 ?_);refine Ln 58 b (o+j*5) (chC c) HM.out Tryz.underlying58 ?_)|((with_reducible refine Gt 58 6 ?_);refine Lv 58 wx.heap.size (chC c).toArray (aQ.out _) dI.out ?_;rw [bK.out])|((with_reducible refine Gt 30 7 ?_);refine Lv 30 (wx.heap.size+1) (zV).toArray (aL.out _) HZ.out ?_;rw [bR.out]));go_roundw
     case rel=>exact ⟨j+1,st,by have:=bE.out;omega,by go_num,HR.out,fC.out⟩
     case measure=>simp [intOf];have:=bE.out;omega
  ·obtain rfl:j=cn:=by omega
   have hR:R1=some (st.map plC):=by rw [←aI,List.drop_of_length_le (by rw [HL.out];exact Le _)];rfl
   have c3:wx.cell? ⟨w.heap.size,3,none⟩=some (.slice cA j x.cc):=(cK.out.ub.cell 3).trans (by rw [←gK.out,←mC.out];rfl);have hR2:Z3 told doF num 0 x.cs (st.map plC)=RR:=by have h:=aT.out;rw [hR] at h;exact h
   have jK:=Hd hR2;clear aI hR hR2 aG hj gQ aT HWR;have hj1:j≤1000:=hcn;go_wp2;go_loopw [58] (fun i wr => ∃ (j2:Nat) (st2:List Cnt),j2≤j∧i = .int .i64 j2∧Z3 told doF num j2 (x.cs.drop j2) (st2.map plC)=RR∧AL x bs w wr st2) (fun i _=>j-(intOf i).toNat)
   case atStart=>exact ⟨0,st,Z0 _,rfl,jK.out,cK.out⟩
   case round=>
    obtain ⟨j2,st2,hj2,rfl,aI,bU⟩:=hrel;obtain ⟨wx,rfl⟩:∃ z:Wd,z=wr:=⟨_,rfl⟩
    have cK:=Hd bU;clear bU c3;by_cases aG:j2<j
    ·obtain ⟨b,o,c,rfl,hb,hg,aB⟩:=Sl.cell (f:=chC) (k:=5) (fun _=>rfl) (cG.out _ _ cK.out) aG;have hc:=List.mem_of_getElem? hg;have HC:=Hd hc
     have gG:x.cs.drop j2=c::x.cs.drop (j2+1):=by
      rw [List.drop_eq_getElem_cons (by rw [HL.out];exact aG)];congr 1;exact (List.getElem?_eq_some_iff.1 hg).2
     have HDR:=Hd gG;have HM:Hid (wx.rangeAt b (o+j2*5) (chC c)):=Hd fun t u hu=>aB t u hu
     have dI:=Hd (chC_ones c);have aQ:=Hd fun old=>Blk.new wx 58 old
     have bK:=Hd fun old=>U1 wx old (chC c).toArray 58
     obtain ⟨X,hX⟩:∃ X,wx.alloc (.cells (chC c).toArray 58)=X:=⟨_,rfl⟩
     have hXb:Below wx.heap.size wx X:=by rw [←hX];exact (Bf _ _).alloc (Le _) _
     have hXk:Blk X wx.heap.size 58 (chC c).toArray:=by rw [←hX];exact Blk.new wx _ _
     have hXz:X.heap.size=wx.heap.size+1:=by rw [←hX];simp
     simp only [hX] at bK;have hl:=Ii X bs st2 c.id (cK.out.sw.below hXb).sb;have c1:X.cell? ⟨wx.heap.size,1,none⟩=some (.int .i64 c.id):=(hXk.cell 1).trans rfl;have HXB:=Hd hXb;have HXK:=Hd hXk;have eD:=Hd hXz;have bE:=Hd aG;have aL:=Hd fun old=>U3 X 30 old (wx.heap.size+1) hXz.symm
     clear hb hg aB hc gG hX hXb hXk;cases hgs:Yn st2 c.id with
     |none=>
      rw [hgs] at hl;simp only at hl
      have hr:Z3 told doF num (j2+1) (x.cs.drop (j2+1)) (st2.map plC)=RR:=by
       rw [HDR.out] at aI;unfold Z3 at aI;rw [Hj,hgs] at aI;exact aI
      have HR:=Hd hr;have bR:Hid (∀ old,(X.alloc (.cells old 30)).setRow (wx.heap.size+1) zV.toArray=X.alloc (.cells zV.toArray 30)):=Hd fun old=>Ug X (wx.heap.size+1) eD.out.symm old zV.toArray 30
      obtain ⟨Y,hY⟩:∃ Y,X.alloc (.cells zV.toArray 30)=Y:=⟨_,rfl⟩
      have gN:Below wx.heap.size wx Y:=by rw [←hY];exact HXB.out.alloc (by have:=eD.out;omega) _
      have gS:Blk Y wx.heap.size 58 (chC c).toArray:=by rw [←hY];exact HXK.out.alloc _
      have hYc:Blk Y (wx.heap.size+1) 30 zV.toArray:=by rw [←hY];exact aL.out _
      have hYz:Y.heap.size=wx.heap.size+2:=by rw [←hY];simp;have:=eD.out;omega
      simp only [hY] at bR;have fC:=Hd (Vt cK.out gN);have HYB:=Hd gN;have fE:=Hd gS;have HYC:=Hd hYc;have HYZ:=Hd hYz;have c0:Y.cell? ⟨wx.heap.size,0,none⟩=some (.int .i64 c.kind):=(gS.cell 0).trans rfl;clear hY gN gS hYc hYz;clear hr aI hgs c0;go_wp2_with (first|((with_reducible refine Gl 58 61 ?_);refine Ln 58 b (o+j2*5) (chC c) HM.out Tryz.underlying58 ?_)|((with_reducible refine Gt 58 12 ?_);refine Lv 58 wx.heap.size (chC c).toArray (aQ.out _) dI.out ?_;rw [bK.out])|((with_reducible refine Gt 30 13 ?_);refine Lv 30 (wx.heap.size+1) (zV).toArray (aL.out _) HZ.out ?_;rw [bR.out]));go_roundw
      case rel=>exact ⟨j2+1,st2,by have:=bE.out;omega,by go_num,HR.out,fC.out⟩
      case measure=>simp [intOf];have:=bE.out;omega
     |some y=>
      rw [hgs] at hl;simp only at hl;have hyid:=(Kx hgs).2.2;have hycw:=(cK.out.sw.get hgs)
      have HY1:=Hd (Vz y);have bR:Hid (∀ old,(X.alloc (.cells old 30)).setRow (wx.heap.size+1) (cnC y).toArray=X.alloc (.cells (cnC y).toArray 30)):=Hd fun old=>Ug X (wx.heap.size+1) eD.out.symm old (cnC y).toArray 30
      obtain ⟨Y,hY⟩:∃ Y,X.alloc (.cells (cnC y).toArray 30)=Y:=⟨_,rfl⟩
      have gN:Below wx.heap.size wx Y:=by rw [←hY];exact HXB.out.alloc (by have:=eD.out;omega) _
      have gS:Blk Y wx.heap.size 58 (chC c).toArray:=by rw [←hY];exact HXK.out.alloc _
      have hYc:Blk Y (wx.heap.size+1) 30 (cnC y).toArray:=by rw [←hY];exact aL.out _
      have hYz:Y.heap.size=wx.heap.size+2:=by rw [←hY];simp;have:=eD.out;omega
      simp only [hY] at bR;have fC:=Hd (Vt cK.out gN);have HYB:=Hd gN;have fE:=Hd gS;have HYC:=Hd hYc;have HYZ:=Hd hYz;have c0:Y.cell? ⟨wx.heap.size,0,none⟩=some (.int .i64 c.kind):=(gS.cell 0).trans rfl;clear hY gN gS hYc hYz;have HYCW:=Hd (hycw.below HYB.out);have HYW:=Hd hycw;have c1y:Y.cell? ⟨wx.heap.size,1,none⟩=some (.int .i64 c.id):=(fE.out.cell 1).trans rfl
      have hr:(if c.kind=5 then Z3 told doF num (j2+1) (x.cs.drop (j2+1)) (delP (st2.map plC) c.id) else if c.kind=6∨c.kind=7 then (match told c.rcd c.id with|none=>Z3 told doF num (j2+1) (x.cs.drop (j2+1)) (st2.map plC)|some d=>Z3 told doF num (j2+1) (x.cs.drop (j2+1)) (I9 (st2.map plC) ⟨d,y.ap,y.ps⟩)) else if c.kind=4 then Z3 told doF num (j2+1) (x.cs.drop (j2+1)) (st2.map plC) else match doF (plC y) (num+j2) c with | .inl e=>.inl e | .inr z=>Z3 told doF num (j2+1) (x.cs.drop (j2+1)) (I9 (st2.map plC) z))=RR:=by
       rw [HDR.out] at aI;unfold Z3 at aI;rw [Hj,hgs] at aI;exact aI
      have HYID:=Hd hyid;clear aI hgs hycw hyid;by_cases hk5:c.kind=5
      ·rw [if_pos hk5] at hr;obtain ⟨w3,hdel,jS,bW⟩:=del_run 0 Y bs st2 c.id fC.out.sw.sb;have HA3:=Hd (al_del fC.out jS bW);have HR:Hid (Z3 told doF num (j2+1) (x.cs.drop (j2+1)) ((delS st2 c.id).map plC)=RR):=Hd (by rw [←delP_pl];exact hr);rw [hk5] at c0;clear hr hk5 jS bW;go_wp2_with (first|((with_reducible refine Gl 58 61 ?_);refine Ln 58 b (o+j2*5) (chC c) HM.out Tryz.underlying58 ?_)|((with_reducible refine Gt 58 12 ?_);refine Lv 58 wx.heap.size (chC c).toArray (aQ.out _) dI.out ?_;rw [bK.out])|((with_reducible refine Gt 30 13 ?_);refine Lv 30 (wx.heap.size+1) (cnC y).toArray (aL.out _) HY1.out ?_;rw [bR.out]));go_roundw
       case rel=>exact ⟨j2+1,_,by have:=bE.out;omega,by go_num,HR.out,HA3.out⟩
       case measure=>simp [intOf];have:=bE.out;omega
      rw [if_neg hk5] at hr;have dG:(c.kind == 5)=false:=by simpa using hk5
      by_cases hk67:c.kind=6∨c.kind=7
      ·rw [if_pos hk67] at hr;have gM:=Hd (HT.out c HC.out Y fC.out.far);generalize told c.rcd c.id=td at gM hr;cases td with
       |none=>
        have HR:=Hd hr;clear hr hk5;rcases hk67 with hk|hk
        ·rw [hk] at c0;clear dG hk
         go_wp2_with (first|((with_reducible refine Gl 58 61 ?_);refine Ln 58 b (o+j2*5) (chC c) HM.out Tryz.underlying58 ?_)|((with_reducible refine Gt 58 12 ?_);refine Lv 58 wx.heap.size (chC c).toArray (aQ.out _) dI.out ?_;rw [bK.out])|((with_reducible refine Gt 30 13 ?_);refine Lv 30 (wx.heap.size+1) (cnC y).toArray (aL.out _) HY1.out ?_;rw [bR.out])|((with_reducible refine Gl 58 12 ?_);refine Lq 58 wx.heap.size _ fE.out Tryz.underlying58 ?_)|(go_at_call 69;refine gM.out.mono ?_;rintro e w2 ⟨⟨d,rfl⟩,aF⟩;have mA:=Hd (Vt fC.out aF);have iF:=Hd (Zg d);have b8:=Hd fun old=>Blk.new w2 27 old;have iY:=Hd fun old=>U1 w2 old (dC d).toArray 27;clear aF c0 c1y hl)|((with_reducible refine Gt 27 15 ?_);refine Lv 27 w2.heap.size (dC d).toArray (b8.out _) iF.out ?_;rw [iY.out]))
         go_roundw
         case rel=>exact ⟨j2+1,st2,by have:=bE.out;omega,by go_num,HR.out,Vt mA.out ((Bf _ _).alloc (Le _) _)⟩
         case measure=>simp [intOf];have:=bE.out;omega
        ·rw [hk] at c0;clear dG hk
         go_wp2_with (first|((with_reducible refine Gl 58 61 ?_);refine Ln 58 b (o+j2*5) (chC c) HM.out Tryz.underlying58 ?_)|((with_reducible refine Gt 58 12 ?_);refine Lv 58 wx.heap.size (chC c).toArray (aQ.out _) dI.out ?_;rw [bK.out])|((with_reducible refine Gt 30 13 ?_);refine Lv 30 (wx.heap.size+1) (cnC y).toArray (aL.out _) HY1.out ?_;rw [bR.out])|((with_reducible refine Gl 58 12 ?_);refine Lq 58 wx.heap.size _ fE.out Tryz.underlying58 ?_)|(go_at_call 69;refine gM.out.mono ?_;rintro e w2 ⟨⟨d,rfl⟩,aF⟩;have mA:=Hd (Vt fC.out aF);have iF:=Hd (Zg d);have b8:=Hd fun old=>Blk.new w2 27 old;have iY:=Hd fun old=>U1 w2 old (dC d).toArray 27;clear aF c0 c1y hl)|((with_reducible refine Gt 27 15 ?_);refine Lv 27 w2.heap.size (dC d).toArray (b8.out _) iF.out ?_;rw [iY.out]))
         go_roundw
         case rel=>exact ⟨j2+1,st2,by have:=bE.out;omega,by go_num,HR.out,Vt mA.out ((Bf _ _).alloc (Le _) _)⟩
         case measure=>simp [intOf];have:=bE.out;omega
       |some d=>
        have HR:=Hd hr;clear hr hk5;rcases hk67 with hk|hk
        ·rw [hk] at c0;clear dG hk
         go_wp2_with (first|((with_reducible refine Gl 58 61 ?_);refine Ln 58 b (o+j2*5) (chC c) HM.out Tryz.underlying58 ?_)|((with_reducible refine Gt 58 12 ?_);refine Lv 58 wx.heap.size (chC c).toArray (aQ.out _) dI.out ?_;rw [bK.out])|((with_reducible refine Gt 30 13 ?_);refine Lv 30 (wx.heap.size+1) (cnC y).toArray (aL.out _) HY1.out ?_;rw [bR.out])|((with_reducible refine Gl 58 12 ?_);refine Lq 58 wx.heap.size _ fE.out Tryz.underlying58 ?_)|(go_at_call 69;go_loud (refine gM.out.mono ?_;rintro e w2 ⟨⟨hid,rfl⟩,aF⟩;have iQ:=Hd (aft_told fC.out HYC.out fE.out HYZ.out aF hid HYB.out rfl cK.out HYW.out);have iF:=Hd (Zg d);have b8:=Hd fun old=>Blk.new w2 27 old;have iY:=Hd fun old=>U1 w2 old (dC d).toArray 27;clear aF hid c0 c1y hl;obtain ⟨w4,dR,iE⟩:=iQ.out.put;have iJ:=Hd iE;have c1z:=iQ.out.c1;clear iE))|((with_reducible refine Gt 27 15 ?_);refine Lv 27 w2.heap.size (dC d).toArray (b8.out _) iF.out ?_;rw [iY.out])|((with_reducible refine Gl 27 15 ?_);refine Lq 27 w2.heap.size _ (b8.out _) Tryz.underlying27 ?_)|((with_reducible refine Gt 27 107 ?_);refine wpList_store_mid rfl 27 _ _ rfl (wx.heap.size+1) 0 (dC d).toArray rfl rfl iQ.out.th (by kernel_rfl) iF.out ?_)|((with_reducible refine Gl 30 13 ?_);refine Lq 30 (wx.heap.size+1) _ iQ.out.cb Tryz.underlying30 ?_))
         go_roundw
         case rel=>exact ⟨j2+1,_,by have:=bE.out;omega,by go_num,(by rw [←J7];exact HR.out),iJ.out⟩
         case measure=>simp [intOf];have:=bE.out;omega
        ·rw [hk] at c0;clear dG hk
         go_wp2_with (first|((with_reducible refine Gl 58 61 ?_);refine Ln 58 b (o+j2*5) (chC c) HM.out Tryz.underlying58 ?_)|((with_reducible refine Gt 58 12 ?_);refine Lv 58 wx.heap.size (chC c).toArray (aQ.out _) dI.out ?_;rw [bK.out])|((with_reducible refine Gt 30 13 ?_);refine Lv 30 (wx.heap.size+1) (cnC y).toArray (aL.out _) HY1.out ?_;rw [bR.out])|((with_reducible refine Gl 58 12 ?_);refine Lq 58 wx.heap.size _ fE.out Tryz.underlying58 ?_)|(go_at_call 69;go_loud (refine gM.out.mono ?_;rintro e w2 ⟨⟨hid,rfl⟩,aF⟩;have iQ:=Hd (aft_told fC.out HYC.out fE.out HYZ.out aF hid HYB.out rfl cK.out HYW.out);have iF:=Hd (Zg d);have b8:=Hd fun old=>Blk.new w2 27 old;have iY:=Hd fun old=>U1 w2 old (dC d).toArray 27;clear aF hid c0 c1y hl;obtain ⟨w4,dR,iE⟩:=iQ.out.put;have iJ:=Hd iE;have c1z:=iQ.out.c1;clear iE))|((with_reducible refine Gt 27 15 ?_);refine Lv 27 w2.heap.size (dC d).toArray (b8.out _) iF.out ?_;rw [iY.out])|((with_reducible refine Gl 27 15 ?_);refine Lq 27 w2.heap.size _ (b8.out _) Tryz.underlying27 ?_)|((with_reducible refine Gt 27 107 ?_);refine wpList_store_mid rfl 27 _ _ rfl (wx.heap.size+1) 0 (dC d).toArray rfl rfl iQ.out.th (by kernel_rfl) iF.out ?_)|((with_reducible refine Gl 30 13 ?_);refine Lq 30 (wx.heap.size+1) _ iQ.out.cb Tryz.underlying30 ?_))
         go_roundw
         case rel=>exact ⟨j2+1,_,by have:=bE.out;omega,by go_num,(by rw [←J7];exact HR.out),iJ.out⟩
         case measure=>simp [intOf];have:=bE.out;omega
      rw [if_neg hk67] at hr;have hb6:(c.kind == 6)=false:=by simp;omega
      have hb7:(c.kind == 7)=false:=by simp;omega
      by_cases gW:c.kind=4
      ·rw [if_pos gW] at hr;have HR:=Hd hr;rw [gW] at c0;clear hr gW hk5 hk67 dG hb6 hb7;go_wp2_with (first|((with_reducible refine Gl 58 61 ?_);refine Ln 58 b (o+j2*5) (chC c) HM.out Tryz.underlying58 ?_)|((with_reducible refine Gt 58 12 ?_);refine Lv 58 wx.heap.size (chC c).toArray (aQ.out _) dI.out ?_;rw [bK.out])|((with_reducible refine Gt 30 13 ?_);refine Lv 30 (wx.heap.size+1) (cnC y).toArray (aL.out _) HY1.out ?_;rw [bR.out]));go_roundw
       case rel=>exact ⟨j2+1,st2,by have:=bE.out;omega,by go_num,HR.out,fC.out⟩
       case measure=>simp [intOf];have:=bE.out;omega
      ·rw [if_neg gW] at hr;have hb4:(c.kind == 4)=false:=by simpa using gW
       have hnn:1≤num+(j2:Int)∧num+(j2:Int)≤1099511628776:=by omega
       have HCD:=Hd (HD.out c HC.out y (num+j2) HYID.out hnn.1 hnn.2 Y fC.out.far HYCW.out);have c1u:Y.cell? ⟨w.heap.size,1,none⟩=some (.int .i64 num):=(fC.out.ub.cell 1).trans (by rw [←HNUM.out];rfl);clear gW hk5 hk67 hnn;generalize doF (plC y) (num+j2) c=dr at HCD hr;cases dr with
       |inl er=>
        have HR:=Hd hr;clear hr
        go_wp2_with (first|((with_reducible refine Gl 58 61 ?_);refine Ln 58 b (o+j2*5) (chC c) HM.out Tryz.underlying58 ?_)|((with_reducible refine Gt 58 12 ?_);refine Lv 58 wx.heap.size (chC c).toArray (aQ.out _) dI.out ?_;rw [bK.out])|((with_reducible refine Gt 30 13 ?_);refine Lv 30 (wx.heap.size+1) (cnC y).toArray (aL.out _) HY1.out ?_;rw [bR.out])|((with_reducible refine Gl 30 13 ?_);refine Lq 30 (wx.heap.size+1) _ HYC.out Tryz.underlying30 ?_)|((with_reducible refine Gl 58 12 ?_);refine Lq 58 wx.heap.size _ fE.out Tryz.underlying58 ?_)|((with_reducible refine Gb 127 ?_);refine U2 (by kernel_rfl) 127 _ rfl (nbC (num+j2) c).toArray (by kernel_rfl) ?_)|(go_at_call 71;refine HCD.out.mono ?_;rintro e w2 ⟨aZ,rfl,aF⟩;have eY:=Hd aZ;have eG:(er != 0)=true:=(by simpa using aZ);have mA:=Hd (Vt fC.out aF);have b8:=Hd fun old=>Blk.new w2 30 old;have iY:=Hd fun old=>U1 w2 old zV.toArray 30;clear aF aZ c0 c1y hl c1u)|((with_reducible refine Gt 30 17 ?_);refine Lv 30 w2.heap.size (zV).toArray (b8.out _) HZ.out ?_;rw [iY.out]))
        go_ret;have hq:RR = .inl er:=HR.out.symm;rw [hq];exact ⟨eY.out,rfl,mA.out.far.alloc _⟩
       |inr z2=>
        have HR:=Hd hr;clear hr
        go_wp2_with (first|((with_reducible refine Gl 58 61 ?_);refine Ln 58 b (o+j2*5) (chC c) HM.out Tryz.underlying58 ?_)|((with_reducible refine Gt 58 12 ?_);refine Lv 58 wx.heap.size (chC c).toArray (aQ.out _) dI.out ?_;rw [bK.out])|((with_reducible refine Gt 30 13 ?_);refine Lv 30 (wx.heap.size+1) (cnC y).toArray (aL.out _) HY1.out ?_;rw [bR.out])|((with_reducible refine Gl 30 13 ?_);refine Lq 30 (wx.heap.size+1) _ HYC.out Tryz.underlying30 ?_)|((with_reducible refine Gl 58 12 ?_);refine Lq 58 wx.heap.size _ fE.out Tryz.underlying58 ?_)|((with_reducible refine Gb 127 ?_);refine U2 (by kernel_rfl) 127 _ rfl (nbC (num+j2) c).toArray (by kernel_rfl) ?_)|(go_at_call 71;refine HCD.out.mono ?_;rintro e w2 ⟨z,hz,hzid,rfl,dO,aF⟩;have HZE:=Hd hz;have cJ:=Hd (Vz z);have b8:=Hd fun old=>Blk.new w2 30 old;have iY:=Hd fun old=>U1 w2 old (cnC z).toArray 30;have HBZ:=Hd (Blk.new w2 30 (cnC z).toArray);have c1z:=aft_c1 fE.out HYZ.out aF (.cells (cnC z).toArray 30);obtain ⟨w4,dR,iE⟩:=aft_do2 fC.out aF dO hzid;have iJ:=Hd iE;clear aF iE hz hzid dO c0 c1y hl c1u)|((with_reducible refine Gt 30 17 ?_);refine Lv 30 w2.heap.size (cnC z).toArray (b8.out _) cJ.out ?_;rw [iY.out])|((with_reducible refine Gl 30 17 ?_);refine Lq 30 w2.heap.size _ HBZ.out Tryz.underlying30 ?_))
        go_roundw
        case rel=>exact ⟨j2+1,_,by have:=bE.out;omega,by go_num,(by rw [←J7,HZE.out];exact HR.out),iJ.out⟩
        case measure=>simp [intOf];have:=bE.out;omega
    ·obtain rfl:j2=j:=by omega
     have hq:RR = .inr (st2.map plC):=by rw [←aI,List.drop_of_length_le (by rw [HL.out];exact Le _)];rfl
     have HQ:=Hd hq;clear hq aI;go_wp2;go_ret;rw [HQ.out];exact ⟨st2,rfl,rfl,cK.out.sw,cK.out.far⟩
def Ui (s:Bz):List Value:=[.string s]
def Vc (n:Int):List Value:=[.int .i64 n]
theorem isgrp_index  (p:Bz→Bool) (A:Option Addr) (n c:Nat) (l:List Bz) (w:Wd) (hs:Sl Ui 1 w w.heap.size A n c l) (hn:n≤9223372036854775807)
  (hC:∀ x∈l,∀ W:Wd,Below w.heap.size w W→Calls prog 251 #[.string x] W fun e w'=>e = .returned (.bool (p x))∧Below W.heap.size W w'):
  Calls prog 239 #[.slice A n c,.func (.func 251) #[] #[]] w fun e w'=>e = .returned (.int .i64 (if l.findIdx p<n then (l.findIdx p:Int) else -1))∧Below w.heap.size w w':=by
 have HS:=Hd hs;have HL:=Hd hs.len;have HC:=Hd hC;clear hs hC;obtain ⟨R,hR⟩:∃ R:Int,(if l.findIdx p<n then (l.findIdx p:Int) else -1)=R:=⟨_,rfl⟩
 rw [hR];have HR:=Hd hR;clear hR;go_enter Tryz.func239,Tryz.ntmps239;go_wp2;go_loopw [8] (fun i wr => ∃ j:Nat,j≤n∧i = .int .i64 j∧(∀ t,t<j→∀ e,l[t]? =some e→p e=false)∧Below w.heap.size w wr) (fun i _=>n-(intOf i).toNat)
 case atStart=>exact ⟨0,Z0 _,rfl,fun t h=>absurd h (by omega),Bf _ _⟩
 case round=>
  obtain ⟨j,hj,rfl,hall,aE⟩:=hrel;have HA:=Hd hall;have aN:=aE.size;clear hall;by_cases aG:j<n
  ·obtain ⟨b,o,x,rfl,hb,hg,aB⟩:=Sl.cell (f:=Ui) (k:=1) (fun _=>rfl) (HS.out.below aE) aG;have c0:=aB 0 _ rfl;simp only [Nat.add_zero,Nat.mul_one] at c0;have bN:=Hd (HC.out x (List.mem_of_getElem? hg) wr aE);have HG:=Hd hg;clear hg aB;cases hl:p x with
   |true=>
    have hr:R=(j:Int):=by rw [←HR.out,Uy HA.out HG.out hl,if_pos aG]
    have aT:=Hd hr;have bD:=Hd hl;clear hr hl;go_wp2_with fail;refine bN.out.mono ?_;rintro e w1 ⟨rfl,aJ⟩;rw [bD.out];have aF:=U0 aE aJ aN;clear aJ;go_wp2;go_ret;exact ⟨by rw [aT.out];rfl,aF⟩
   |false=>
    have bD:=Hd hl;clear hl;go_wp2_with fail;refine bN.out.mono ?_;rintro e w1 ⟨rfl,aJ⟩;rw [bD.out];have aF:=U0 aE aJ aN;clear aJ;go_wp2;go_roundw
    case rel=>
     refine ⟨j+1,by omega,by go_num,fun t ht e he=>?_,aF⟩;by_cases h:t=j
     ·subst h;rw [HG.out] at he;injection he with he;subst he;exact bD.out
     ·exact HA.out t (by omega) e he
    case measure=>simp [intOf];omega
  ·have hr:R = -1:=by rw [←HR.out,Uu HL.out (fun t ht=>HA.out t (by omega)),if_neg (by omega)]
   have aT:=Hd hr;clear hr;go_wp2;go_ret;exact ⟨by rw [aT.out];rfl,aE⟩
theorem isgrp_any  (p:Bz→Bool) (A:Option Addr) (n c:Nat) (l:List Bz) (w:Wd) (hs:Sl Ui 1 w w.heap.size A n c l) (hn:n≤9223372036854775807)
  (hC:∀ x∈l,∀ W:Wd,Below w.heap.size w W→Calls prog 251 #[.string x] W fun e w'=>e = .returned (.bool (p x))∧Below W.heap.size W w'):
  Calls prog 180 #[.slice A n c,.func (.func 251) #[] #[]] w fun e w'=>e = .returned (.bool (l.any p))∧Below w.heap.size w w':=by
 have H:=Hd (isgrp_index p A n c l w hs hn hC);have ha:=Vg p l;rw [hs.len] at ha;have HA:=Hd ha;clear hs hC ha;generalize l.findIdx p=q at H HA;go_enter Tryz.func180,Tryz.ntmps180;by_cases hq:q<n
 ·rw [if_pos hq] at H;go_wp2_with (go_at_call 239;refine H.out.mono ?_;rintro e w1 ⟨rfl,hb⟩);go_ret;exact ⟨by rw [HA.out];simp [hq],hb⟩
 ·rw [if_neg hq] at H;go_wp2_with (go_at_call 239;refine H.out.mono ?_;rintro e w1 ⟨rfl,hb⟩);go_ret;exact ⟨by rw [HA.out];simp [hq],hb⟩
theorem sqall_index (g g2:Nat) (p:Bz→Bool) (A:Option Addr) (n c:Nat) (l:List Bz) (w:Wd) (hs:Sl Ui 1 w w.heap.size A n c l) (hn:n≤9223372036854775807)
  (hC:∀ x∈l,∀ W:Wd,Below w.heap.size w W→Calls prog 181 #[.string x,.pointer (some ⟨g,0,none⟩),.pointer (some ⟨g2,0,none⟩)] W fun e w'=>e = .returned (.bool (p x))∧Below W.heap.size W w'):
  Calls prog 239 #[.slice A n c,.func (.func 181) #[] #[.pointer (some ⟨g,0,none⟩),.pointer (some ⟨g2,0,none⟩)]] w fun e w'=>e = .returned (.int .i64 (if l.findIdx p<n then (l.findIdx p:Int) else -1))∧Below w.heap.size w w':=by
 have HS:=Hd hs;have HL:=Hd hs.len;have HC:=Hd hC;clear hs hC;obtain ⟨R,hR⟩:∃ R:Int,(if l.findIdx p<n then (l.findIdx p:Int) else -1)=R:=⟨_,rfl⟩
 rw [hR];have HR:=Hd hR;clear hR;go_enter Tryz.func239,Tryz.ntmps239;go_wp2;go_loopw [8] (fun i wr => ∃ j:Nat,j≤n∧i = .int .i64 j∧(∀ t,t<j→∀ e,l[t]? =some e→p e=false)∧Below w.heap.size w wr) (fun i _=>n-(intOf i).toNat)
 case atStart=>exact ⟨0,Z0 _,rfl,fun t h=>absurd h (by omega),Bf _ _⟩
 case round=>
  obtain ⟨j,hj,rfl,hall,aE⟩:=hrel;have HA:=Hd hall;have aN:=aE.size;clear hall;by_cases aG:j<n
  ·obtain ⟨b,o,x,rfl,hb,hg,aB⟩:=Sl.cell (f:=Ui) (k:=1) (fun _=>rfl) (HS.out.below aE) aG;have c0:=aB 0 _ rfl;simp only [Nat.add_zero,Nat.mul_one] at c0;have bN:=Hd (HC.out x (List.mem_of_getElem? hg) wr aE);have HG:=Hd hg;clear hg aB;cases hl:p x with
   |true=>
    have hr:R=(j:Int):=by rw [←HR.out,Uy HA.out HG.out hl,if_pos aG]
    have aT:=Hd hr;have bD:=Hd hl;clear hr hl;go_wp2_with fail;refine bN.out.mono ?_;rintro e w1 ⟨rfl,aJ⟩;rw [bD.out];have aF:=U0 aE aJ aN;clear aJ;go_wp2;go_ret;exact ⟨by rw [aT.out];rfl,aF⟩
   |false=>
    have bD:=Hd hl;clear hl;go_wp2_with fail;refine bN.out.mono ?_;rintro e w1 ⟨rfl,aJ⟩;rw [bD.out];have aF:=U0 aE aJ aN;clear aJ;go_wp2;go_roundw
    case rel=>
     refine ⟨j+1,by omega,by go_num,fun t ht e he=>?_,aF⟩;by_cases h:t=j
     ·subst h;rw [HG.out] at he;injection he with he;subst he;exact bD.out
     ·exact HA.out t (by omega) e he
    case measure=>simp [intOf];omega
  ·have hr:R = -1:=by rw [←HR.out,Uu HL.out (fun t ht=>HA.out t (by omega)),if_neg (by omega)]
   have aT:=Hd hr;clear hr;go_wp2;go_ret;exact ⟨by rw [aT.out];rfl,aE⟩
theorem Fi (g g2:Nat) (p:Bz→Bool) (A:Option Addr) (n c:Nat) (l:List Bz) (w:Wd) (hs:Sl Ui 1 w w.heap.size A n c l) (hn:n≤9223372036854775807)
  (hC:∀ x∈l,∀ W:Wd,Below w.heap.size w W→Calls prog 181 #[.string x,.pointer (some ⟨g,0,none⟩),.pointer (some ⟨g2,0,none⟩)] W fun e w'=>e = .returned (.bool (p x))∧Below W.heap.size W w'):
  Calls prog 180 #[.slice A n c,.func (.func 181) #[] #[.pointer (some ⟨g,0,none⟩),.pointer (some ⟨g2,0,none⟩)]] w fun e w'=>e = .returned (.bool (l.any p))∧Below w.heap.size w w':=by
 have H:=Hd (sqall_index g g2 p A n c l w hs hn hC);have ha:=Vg p l;rw [hs.len] at ha;have HA:=Hd ha;clear hs hC ha;generalize l.findIdx p=q at H HA;go_enter Tryz.func180,Tryz.ntmps180;by_cases hq:q<n
 ·rw [if_pos hq] at H;go_wp2_with (go_at_call 239;refine H.out.mono ?_;rintro e w1 ⟨rfl,hb⟩);go_ret;exact ⟨by rw [HA.out];simp [hq],hb⟩
 ·rw [if_neg hq] at H;go_wp2_with (go_at_call 239;refine H.out.mono ?_;rintro e w1 ⟨rfl,hb⟩);go_ret;exact ⟨by rw [HA.out];simp [hq],hb⟩
theorem sppk_index (g:Nat) (p:Bz→Bool) (A:Option Addr) (n c:Nat) (l:List Bz) (w:Wd) (hs:Sl Ui 1 w w.heap.size A n c l) (hn:n≤9223372036854775807)
  (hC:∀ x∈l,∀ W:Wd,Below w.heap.size w W→Calls prog 234 #[.string x,.pointer (some ⟨g,0,none⟩)] W fun e w'=>e = .returned (.bool (p x))∧Below W.heap.size W w'):
  Calls prog 239 #[.slice A n c,.func (.func 234) #[] #[.pointer (some ⟨g,0,none⟩)]] w fun e w'=>e = .returned (.int .i64 (if l.findIdx p<n then (l.findIdx p:Int) else -1))∧Below w.heap.size w w':=by
 have HS:=Hd hs;have HL:=Hd hs.len;have HC:=Hd hC;clear hs hC;obtain ⟨R,hR⟩:∃ R:Int,(if l.findIdx p<n then (l.findIdx p:Int) else -1)=R:=⟨_,rfl⟩
 rw [hR];have HR:=Hd hR;clear hR;go_enter Tryz.func239,Tryz.ntmps239;go_wp2;go_loopw [8] (fun i wr => ∃ j:Nat,j≤n∧i = .int .i64 j∧(∀ t,t<j→∀ e,l[t]? =some e→p e=false)∧Below w.heap.size w wr) (fun i _=>n-(intOf i).toNat)
 case atStart=>exact ⟨0,Z0 _,rfl,fun t h=>absurd h (by omega),Bf _ _⟩
 case round=>
  obtain ⟨j,hj,rfl,hall,aE⟩:=hrel;have HA:=Hd hall;have aN:=aE.size;clear hall;by_cases aG:j<n
  ·obtain ⟨b,o,x,rfl,hb,hg,aB⟩:=Sl.cell (f:=Ui) (k:=1) (fun _=>rfl) (HS.out.below aE) aG;have c0:=aB 0 _ rfl;simp only [Nat.add_zero,Nat.mul_one] at c0;have bN:=Hd (HC.out x (List.mem_of_getElem? hg) wr aE);have HG:=Hd hg;clear hg aB;cases hl:p x with
   |true=>
    have hr:R=(j:Int):=by rw [←HR.out,Uy HA.out HG.out hl,if_pos aG]
    have aT:=Hd hr;have bD:=Hd hl;clear hr hl;go_wp2_with fail;refine bN.out.mono ?_;rintro e w1 ⟨rfl,aJ⟩;rw [bD.out];have aF:=U0 aE aJ aN;clear aJ;go_wp2;go_ret;exact ⟨by rw [aT.out];rfl,aF⟩
   |false=>
    have bD:=Hd hl;clear hl;go_wp2_with fail;refine bN.out.mono ?_;rintro e w1 ⟨rfl,aJ⟩;rw [bD.out];have aF:=U0 aE aJ aN;clear aJ;go_wp2;go_roundw
    case rel=>
     refine ⟨j+1,by omega,by go_num,fun t ht e he=>?_,aF⟩;by_cases h:t=j
     ·subst h;rw [HG.out] at he;injection he with he;subst he;exact bD.out
     ·exact HA.out t (by omega) e he
    case measure=>simp [intOf];omega
  ·have hr:R = -1:=by rw [←HR.out,Uu HL.out (fun t ht=>HA.out t (by omega)),if_neg (by omega)]
   have aT:=Hd hr;clear hr;go_wp2;go_ret;exact ⟨by rw [aT.out];rfl,aE⟩
theorem sppk_any (g:Nat) (p:Bz→Bool) (A:Option Addr) (n c:Nat) (l:List Bz) (w:Wd) (hs:Sl Ui 1 w w.heap.size A n c l) (hn:n≤9223372036854775807)
  (hC:∀ x∈l,∀ W:Wd,Below w.heap.size w W→Calls prog 234 #[.string x,.pointer (some ⟨g,0,none⟩)] W fun e w'=>e = .returned (.bool (p x))∧Below W.heap.size W w'):
  Calls prog 180 #[.slice A n c,.func (.func 234) #[] #[.pointer (some ⟨g,0,none⟩)]] w fun e w'=>e = .returned (.bool (l.any p))∧Below w.heap.size w w':=by
 have H:=Hd (sppk_index g p A n c l w hs hn hC);have ha:=Vg p l;rw [hs.len] at ha;have HA:=Hd ha;clear hs hC ha;generalize l.findIdx p=q at H HA;go_enter Tryz.func180,Tryz.ntmps180;by_cases hq:q<n
 ·rw [if_pos hq] at H;go_wp2_with (go_at_call 239;refine H.out.mono ?_;rintro e w1 ⟨rfl,hb⟩);go_ret;exact ⟨by rw [HA.out];simp [hq],hb⟩
 ·rw [if_neg hq] at H;go_wp2_with (go_at_call 239;refine H.out.mono ?_;rintro e w1 ⟨rfl,hb⟩);go_ret;exact ⟨by rw [HA.out];simp [hq],hb⟩
theorem eday_index  (p:Int→Bool) (A:Option Addr) (n c:Nat) (l:List Int) (w:Wd) (hs:Sl Vc 1 w w.heap.size A n c l) (hn:n≤9223372036854775807)
  (hC:∀ x∈l,∀ W:Wd,Below w.heap.size w W→Calls prog 284 #[.int .i64 x] W fun e w'=>e = .returned (.bool (p x))∧Below W.heap.size W w'):
  Calls prog 303 #[.slice A n c,.func (.func 284) #[] #[]] w fun e w'=>e = .returned (.int .i64 (if l.findIdx p<n then (l.findIdx p:Int) else -1))∧Below w.heap.size w w':=by
 have HS:=Hd hs;have HL:=Hd hs.len;have HC:=Hd hC;clear hs hC;obtain ⟨R,hR⟩:∃ R:Int,(if l.findIdx p<n then (l.findIdx p:Int) else -1)=R:=⟨_,rfl⟩
 rw [hR];have HR:=Hd hR;clear hR;go_enter Tryz.func303,Tryz.ntmps303;go_wp2;go_loopw [8] (fun i wr => ∃ j:Nat,j≤n∧i = .int .i64 j∧(∀ t,t<j→∀ e,l[t]? =some e→p e=false)∧Below w.heap.size w wr) (fun i _=>n-(intOf i).toNat)
 case atStart=>exact ⟨0,Z0 _,rfl,fun t h=>absurd h (by omega),Bf _ _⟩
 case round=>
  obtain ⟨j,hj,rfl,hall,aE⟩:=hrel;have HA:=Hd hall;have aN:=aE.size;clear hall;by_cases aG:j<n
  ·obtain ⟨b,o,x,rfl,hb,hg,aB⟩:=Sl.cell (f:=Vc) (k:=1) (fun _=>rfl) (HS.out.below aE) aG;have c0:=aB 0 _ rfl;simp only [Nat.add_zero,Nat.mul_one] at c0;have bN:=Hd (HC.out x (List.mem_of_getElem? hg) wr aE);have HG:=Hd hg;clear hg aB;cases hl:p x with
   |true=>
    have hr:R=(j:Int):=by rw [←HR.out,Uy HA.out HG.out hl,if_pos aG]
    have aT:=Hd hr;have bD:=Hd hl;clear hr hl;go_wp2_with fail;refine bN.out.mono ?_;rintro e w1 ⟨rfl,aJ⟩;rw [bD.out];have aF:=U0 aE aJ aN;clear aJ;go_wp2;go_ret;exact ⟨by rw [aT.out];rfl,aF⟩
   |false=>
    have bD:=Hd hl;clear hl;go_wp2_with fail;refine bN.out.mono ?_;rintro e w1 ⟨rfl,aJ⟩;rw [bD.out];have aF:=U0 aE aJ aN;clear aJ;go_wp2;go_roundw
    case rel=>
     refine ⟨j+1,by omega,by go_num,fun t ht e he=>?_,aF⟩;by_cases h:t=j
     ·subst h;rw [HG.out] at he;injection he with he;subst he;exact bD.out
     ·exact HA.out t (by omega) e he
    case measure=>simp [intOf];omega
  ·have hr:R = -1:=by rw [←HR.out,Uu HL.out (fun t ht=>HA.out t (by omega)),if_neg (by omega)]
   have aT:=Hd hr;clear hr;go_wp2;go_ret;exact ⟨by rw [aT.out];rfl,aE⟩
theorem eday_any  (p:Int→Bool) (A:Option Addr) (n c:Nat) (l:List Int) (w:Wd) (hs:Sl Vc 1 w w.heap.size A n c l) (hn:n≤9223372036854775807)
  (hC:∀ x∈l,∀ W:Wd,Below w.heap.size w W→Calls prog 284 #[.int .i64 x] W fun e w'=>e = .returned (.bool (p x))∧Below W.heap.size W w'):
  Calls prog 283 #[.slice A n c,.func (.func 284) #[] #[]] w fun e w'=>e = .returned (.bool (l.any p))∧Below w.heap.size w w':=by
 have H:=Hd (eday_index p A n c l w hs hn hC);have ha:=Vg p l;rw [hs.len] at ha;have HA:=Hd ha;clear hs hC ha;generalize l.findIdx p=q at H HA;go_enter Tryz.func283,Tryz.ntmps283;by_cases hq:q<n
 ·rw [if_pos hq] at H;go_wp2_with (go_at_call 303;refine H.out.mono ?_;rintro e w1 ⟨rfl,hb⟩);go_ret;exact ⟨by rw [HA.out];simp [hq],hb⟩
 ·rw [if_neg hq] at H;go_wp2_with (go_at_call 303;refine H.out.mono ?_;rintro e w1 ⟨rfl,hb⟩);go_ret;exact ⟨by rw [HA.out];simp [hq],hb⟩
end Go.Proofs.YtoakknkmjnebjaaGreatDoor
