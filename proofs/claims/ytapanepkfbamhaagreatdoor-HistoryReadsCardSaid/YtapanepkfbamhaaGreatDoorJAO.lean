/- Part of the proof of HistoryReads. -/
import Derived.Test.YtapanepkfbamhaaGreatDoorJAN
namespace Go.Proofs.YtapanepkfbamhaaGreatDoor
open Tryz (prog)
set_option maxRecDepth 100000
set_option maxHeartbeats 8000000
open Go.RowKit
def ToldG (R:Option DSet) (id:Int) (w:World) (e:Ending) (w':World):Prop:=(match R with
 |none => ∃ d,e = .returned (.tuple #[.agg (dC d).toArray,.bool false])
 |some d=>d.id=id∧e = .returned (.tuple #[.agg (dC d).toArray,.bool true]))∧Below w.heap.size w w'
def DoG (R:Int ⊕ PC) (id:Int) (w:World) (e:Ending) (w':World):Prop:=match R with
 |.inl er=>er≠0∧e = .returned (.tuple #[.agg zV.toArray,.int .i64 er])∧Below w.heap.size w w'
 |.inr y => ∃ z:Cnt,plC z=y∧z.d.id=id∧e = .returned (.tuple #[.agg (cnC z).toArray,.int .i64 0])∧CW w' z∧Below w.heap.size w w'
def nbC (n:Int) (c:Chg):List Value:=.int .i64 n::chC c
theorem chC_ones (c:Chg):(chC c).toArray.all (·.oneCell')=true:=by simp [chC,Value.oneCell']
def AftG (R:Int ⊕ List PC) (bs:Nat) (w:World) (e:Ending) (w':World):Prop:=match R with
 |.inl er=>er≠0∧e = .returned (.int .i64 er)∧Far [bs] w w'
 |.inr s => ∃ st:List Cnt,st.map plC=s∧e = .returned (.int .i64 0)∧SW w' bs st∧Far [bs] w w'
structure AL (x:Com) (bs:Nat) (w W:World) (st:List Cnt):Prop where
 sw:SW W bs st
 ub:Blk W w.heap.size 34 (U8 x).toArray
 far:Far [bs] w W
 lt:bs<w.heap.size
 sz:w.heap.size+1≤W.heap.size
theorem Vj {x:Com} {bs:Nat} {w W W':World} {st:List Cnt} (h:AL x bs w W st) (hb:Below W.heap.size W W'):AL x bs w W' st:=
 have hz:=h.sz
 ⟨h.sw.below hb,h.ub.below hb (by omega),h.far.trans (Far.of_below hb),h.lt,Lx hz hb.size⟩
theorem al_put {x:Com} {bs:Nat} {w W W':World} {st:List Cnt} {y:Cnt} (h:AL x bs w W st) (hy:CW W y) (h2:SB W' bs (Eo st y)) (hf:Far [bs] W W'):AL x bs w W' (Eo st y):=
 have hz:=h.sz;have hl:=h.lt
 ⟨h.sw.put hy h2 hf,h.ub.far' hf (by simp;omega),h.far.trans hf,h.lt,Lx hz hf.size⟩
theorem al_del {x:Com} {bs:Nat} {w W W':World} {st:List Cnt} {id:Int} (h:AL x bs w W st) (h2:SB W' bs (delS st id)) (hf:Far [bs] W W'):AL x bs w W' (delS st id):=
 have hz:=h.sz;have hl:=h.lt
 ⟨h.sw.del h2 hf,h.ub.far' hf (by simp;omega),h.far.trans hf,h.lt,Lx hz hf.size⟩
theorem al_start {x:Com} {bs:Nat} {w:World} {st:List Cnt} (h:SW w bs st):AL x bs w (w.alloc (.cells (U8 x).toArray 34)) st:=
 ⟨h.below ((Bf _ _).alloc (Le _) _),Blk.new w _ _,(Far.refl _ _).alloc _,h.sb.lt,by simp⟩
theorem sl_farS {α:Type} {f:α→List Value} {k B n c bs:Nat} {A:Option Addr} {l:List α} {w w':World} {st st':List Cnt} (h:Sl f k w B A n c l) (hB:B≤w.heap.size) (h1:SB w bs st) (h2:SB w' bs st') (hf:Far [bs] w w'):Sl f k w' B A n c l:=
 h.keep fun p hp=>by
  by_cases e:p.block=bs
  ·obtain ⟨es,c,hb,_⟩:=h1
   obtain ⟨es',c',hb',_⟩:=h2;rw [Kf hb p e,Kf hb' p e]
  ·exact World.cell?_of_block (hf.block p.block (Nat.lt_of_lt_of_le hp hB) (by simpa using e))
theorem cw_empty (w:World) (d:DSet) (n:Int):CW w ⟨d,n,none,0,0,[]⟩:=⟨Sl.nil,by simp,fun _=>rfl,fun q hq=>by cases hq⟩
theorem cw_d {w:World} {y:Cnt} (h:CW w y) (d:DSet):CW w ⟨d,y.ap,y.pA,y.pn,y.pc,y.ps⟩:=⟨h.sl,h.le,h.nil,h.rz⟩
theorem Vi {P:Program} {fn:Func} {tmps:Array Value} {p:Nat} {t:TypeId} {b:Nat} {c:Value} {W:World} (h:fn.results=#[.cell p t]) (hp:tmps.getD p undef = .pointer (some ⟨b,0,none⟩))
  (hl:(loadVar t ⟨b,0,none⟩).run P W = .ok c W):(results fn tmps).run P W = .ok c W:=by
 have hp':tmps[p]?.getD undef = .pointer (some ⟨b,0,none⟩):=by simpa using hp
 simp [results,h,hp',asAddr,hl]
def setL (cs:Array Value):Nat→List Value→Array Value
 |_,[]=>cs
 |o,v::l=>setL (cs.setIfInBounds o v) (o+1) l
theorem blk_cells {b:Nat} {t:TypeId}:∀ (l:List Value) (o:Nat) (w:World) (cs:Array Value),Blk w b t cs→Blk (w.setCells b o l) b t (setL cs o l)
 | [],_,_,_,h=>h
 |v::l,o,w,cs,h=>blk_cells l (o+1) (w.setCell ⟨b,o,none⟩ v) (cs.setIfInBounds o v) (h.set o v)
theorem Eh {B b:Nat} {w:World} (hB:B≤b):∀ (l:List Value) (o:Nat) (w':World),Below B w w'→Below B w (w'.setCells b o l)
 | [],_,_,h=>h
 |v::l,o,w',h=>Eh hB l (o+1) (w'.setCell ⟨b,o,none⟩ v) (h.setCell hB v)
theorem setL_cn (y:Cnt) (d:DSet):setL (cnC y).toArray 0 (dC d)=(cnC ⟨d,y.ap,y.pA,y.pn,y.pc,y.ps⟩).toArray:=by kernel_rfl
theorem there_blk {w:World} {b:Nat} {t:TypeId} {cs:Array Value} (h:Blk w b t cs) (n:Nat) (hn:n≤cs.size):w.there b 0 n:=fun j hj=>by
 rw [Nat.zero_add];exact ⟨by rw [h.cell,Array.getElem?_eq_getElem (by omega)];rfl,h.free _⟩
structure AE (x:Com) (bs:Nat) (w:World) (st:List Cnt) (y:Cnt) (c:Chg) (d:DSet) (a:Nat) (w2:World):Prop where
 th:(w2.alloc (.cells (dC d).toArray 27)).there (a+1) 0 (dC d).length
 cb:Blk ((w2.alloc (.cells (dC d).toArray 27)).setCells (a+1) 0 (dC d)) (a+1) 30 (cnC ⟨d,y.ap,y.pA,y.pn,y.pc,y.ps⟩).toArray
 c1:((w2.alloc (.cells (dC d).toArray 27)).setCells (a+1) 0 (dC d)).cell? ⟨a,1,none⟩=some (.int .i64 c.id)
 put:∃ w4,(Instr.mapUpdate 65 (.map (some bs)) (.int .i64 c.id) (.agg (cnC ⟨d,y.ap,y.pA,y.pn,y.pc,y.ps⟩).toArray)).run prog ((w2.alloc (.cells (dC d).toArray 27)).setCells (a+1) 0 (dC d)) = .ok () w4∧AL x bs w w4 (Eo st ⟨d,y.ap,y.pA,y.pn,y.pc,y.ps⟩)
theorem aft_told {x:Com} {bs a:Nat} {w wx Y w2:World} {st:List Cnt} {y:Cnt} {c:Chg} {d:DSet} (hA:AL x bs w Y st) (hC:Blk Y (a+1) 30 (cnC y).toArray) (hK:Blk Y a 58 (chC c).toArray) (hz:Y.heap.size=a+2)
  (hb:Below Y.heap.size Y w2) (hid:d.id=c.id) (hx:Below wx.heap.size wx Y) (ha:a=wx.heap.size) (hal:AL x bs w wx st) (hcx:CW wx y):AE x bs w st y c d a w2:=by
 have hZ:=hb.size;have b1:Below (a+1) Y (w2.alloc (.cells (dC d).toArray 27)):=(hb.mono (by omega)).alloc (by omega) _;have k1:Blk (w2.alloc (.cells (dC d).toArray 27)) (a+1) 30 (cnC y).toArray:=(hC.below hb (by omega)).alloc _;have b2:Below (a+1) Y ((w2.alloc (.cells (dC d).toArray 27)).setCells (a+1) 0 (dC d)):=Eh (Le _) _ _ _ b1;have hlt:=hal.sw.sb.lt;have hsbZ:SB ((w2.alloc (.cells (dC d).toArray 27)).setCells (a+1) 0 (dC d)) bs st:=hA.sw.sb.below b2 (by omega);have bx:Below wx.heap.size wx ((w2.alloc (.cells (dC d).toArray 27)).setCells (a+1) 0 (dC d)):=hx.trans (b2.mono (by omega));have hAZ:AL x bs w ((w2.alloc (.cells (dC d).toArray 27)).setCells (a+1) 0 (dC d)) st:=Vj hal bx;refine ⟨there_blk k1 _ (by simp [cnC,dC]),?_,(b2.cell (p:=⟨a,1,none⟩) (Nat.lt_succ_self _)).trans ((hK.cell 1).trans rfl),?_⟩
 ·have h:=blk_cells (dC d) 0 _ _ k1
  rwa [setL_cn] at h
 ·obtain ⟨w4,hput,hsb,hfar⟩:=Fz _ bs st ⟨d,y.ap,y.pA,y.pn,y.pc,y.ps⟩ hsbZ
  refine ⟨w4,by rw [←hid];exact hput,al_put hAZ ?_ hsb hfar⟩;exact cw_d (hcx.below bx) d
theorem aft_c1 {Y w2:World} {a:Nat} {c:Chg} (hK:Blk Y a 58 (chC c).toArray) (hz:Y.heap.size=a+2) (hb:Below Y.heap.size Y w2) (o:Obj):(w2.alloc o).cell? ⟨a,1,none⟩=some (.int .i64 c.id):=
 (((hK.below hb (by omega)).alloc o).cell 1).trans rfl
theorem aft_do2 {x:Com} {bs:Nat} {w Y w2:World} {st:List Cnt} {z:Cnt} {id:Int} (hA:AL x bs w Y st) (hb:Below Y.heap.size Y w2) (hcw:CW w2 z) (hid:z.d.id=id):
  ∃ w4,(Instr.mapUpdate 65 (.map (some bs)) (.int .i64 id) (.agg (cnC z).toArray)).run prog (w2.alloc (.cells (cnC z).toArray 30)) = .ok () w4∧AL x bs w w4 (Eo st z):=by
 subst hid;have hA2:=Vj (Vj hA hb) ((Bf _ _).alloc (Le _) (.cells (cnC z).toArray 30));obtain ⟨w4,hput,hsb,hfar⟩:=Fz _ bs st z hA2.sw.sb;exact ⟨w4,hput,al_put hA2 (hcw.below ((Bf _ _).alloc (Le _) _)) hsb hfar⟩
theorem G7 {st:List Cnt} {id:Int}:Z4 (st.map plC) id=(Y5 st id).map plC:=G8 st id
theorem empty_any (d:DSet) (n:Int) (w:World):Calls prog 70 #[.agg (dC d).toArray,.int .i64 n] w fun e w'=>e = .returned (.agg (cnC ⟨d,n,none,0,0,[]⟩).toArray)∧Below w.heap.size w w':=by
 have HB:=Hd fun o=>(Blk.new w 27 (dC d).toArray).alloc o
 have HB2:=Hd fun old=>U3 (w.alloc (.cells (dC d).toArray 27)) 30 old (w.heap.size+1) (by simp)
 have HS:=Hd fun old=>Ue (w.alloc (.cells (dC d).toArray 27)) (w.heap.size+1) (by simp) old (cnC ⟨d,n,none,0,0,[]⟩).toArray 30
 have H1:=Hd (Vx ⟨d,n,none,0,0,[]⟩);have HK:=Hd (U3 (w.alloc (.cells (dC d).toArray 27)) 30 (cnC ⟨d,n,none,0,0,[]⟩).toArray (w.heap.size+1) (by simp));go_enter Tryz.func70,Tryz.ntmps70;go_wp2_with (first|((with_reducible refine Gl 27 2 ?_);refine Lr rfl 27 _ rfl w.heap.size rfl 27 (dC d).toArray (0,0) _ (HB.out _) Tryz.underlying27 rfl (by kernel_rfl) ?_)|((with_reducible refine Gb 30 ?_);refine U2 (by kernel_rfl) 30 _ rfl (cnC ⟨d,n,none,0,0,[]⟩).toArray (by kernel_rfl) ?_)|((with_reducible refine Gt 30 4 ?_);refine Lt rfl 30 _ _ rfl (w.heap.size+1) (cnC ⟨d,n,none,0,0,[]⟩).toArray rfl rfl 30 _ (HB2.out _) (by kernel_rfl) rfl H1.out ?_;rw [HS.out]));have hr:=Us _ (w.heap.size+1) (cnC ⟨d,n,none,0,0,[]⟩).toArray HK.out rfl
 exact Br (v:=.agg (cnC ⟨d,n,none,0,0,[]⟩).toArray) (Vi Tryz.results70 rfl hr) rfl ⟨rfl,((Bf _ _).alloc (Le _) _).alloc (by simp) _⟩
theorem after_g (told:ByteArray→Int→Option DSet) (doF:PC→Int→Chg→Int ⊕ PC) (x:Com) (bs:Nat) (st0:List Cnt) (w:World) (hs:SW w bs st0) (hx:ComOk w w.heap.size x) (hcn:x.cn≤1000) (hn0:1≤x.num) (hn1:x.num≤1099511627776)
  (HT0:∀ c∈x.cs,∀ W,Far [bs] w W→Calls prog 69 #[.agg (chC c).toArray] W (ToldG (told c.rcd c.id) c.id W))
  (HD0:∀ c∈x.cs,∀ (y:Cnt) (n:Int),y.d.id=c.id→1≤n→n≤1099511628776→∀ W,Far [bs] w W→CW W y→Calls prog 71 #[.agg (cnC y).toArray,.agg (nbC n c).toArray] W (DoG (doF (plC y) n c) c.id W)):
  Calls prog 48 #[.map (some bs),.agg (U8 x).toArray] w (AftG (aft told doF x.num x.cs (st0.map plC)) bs w):=by
 have HT:=Hd HT0;have HD:=Hd HD0;have HSL:Hid (∀ W st,AL x bs w W st→Sl chC 5 W w.heap.size x.cA x.cn x.cc x.cs):=Hd fun W st h=>sl_farS hx.2.1 (Le _) hs.sb h.sw.sb h.far
 have HL:=Hd hx.2.1.len;have HA0:=Hd (al_start (x:=x) hs);have HZ:=Hd zV_one;have c3:(w.alloc (.cells (U8 x).toArray 34)).cell? ⟨w.heap.size,3,none⟩=some (.slice x.cA x.cn x.cc):=((Blk.new w 34 (U8 x).toArray).cell 3).trans rfl;obtain ⟨RR,hRR⟩:∃ RR,aft told doF x.num x.cs (st0.map plC)=RR:=⟨_,rfl⟩
 rw [hRR];unfold aft at hRR;obtain ⟨R1,hR1⟩:∃ R1,Kh told x.num x.cs (st0.map plC)=R1:=⟨_,rfl⟩
 rw [hR1] at hRR;have HR1:=Hd hR1;have hwr:IntKind.i64.wrap (x.num-1)=x.num-1:=IntWalk.i64_in _ (by omega);have HWR:=Hd hwr;clear hs hx HT0 HD0 hR1 hwr;obtain ⟨cn,hcnn⟩:∃ cn,x.cn=cn:=⟨_,rfl⟩
 rw [hcnn] at hcn HL c3;simp only [hcnn] at HSL;have HCN:=Hd hcnn;obtain ⟨cA,hcA⟩:∃ cA,x.cA=cA:=⟨_,rfl⟩
 rw [hcA] at c3;simp only [hcA] at HSL;have HCA:=Hd hcA;obtain ⟨num,hnum⟩:∃ num,x.num=num:=⟨_,rfl⟩
 rw [hnum] at hn0 hn1 HR1 HWR hRR;have HRR:=Hd hRR;have HNUM:=Hd hnum;clear hcnn hnum hcA hRR;go_enter Tryz.func48,Tryz.ntmps48;go_wp2;go_loopw [22] (fun i wr => ∃ (j:Nat) (st:List Cnt),j≤cn∧i = .int .i64 j∧Kh told num (x.cs.drop j) (st.map plC)=R1∧AL x bs w wr st) (fun i _=>cn-(intOf i).toNat)
 case atStart=>exact ⟨0,st0,Z0 _,rfl,HR1.out,HA0.out⟩
 case round=>
  obtain ⟨j,st,hj,rfl,hrec,hal⟩:=hrel;obtain ⟨wx,rfl⟩:∃ z:World,z=wr:=⟨_,rfl⟩
  have HAL:=Hd hal;clear hal c3;by_cases hlt:j<cn
  ·obtain ⟨b,o,c,rfl,hb,hg,hcell⟩:=Sl.cell (f:=chC) (k:=5) (fun _=>rfl) (HSL.out _ _ HAL.out) hlt
   have hc:=List.mem_of_getElem? hg;have HC:=Hd hc
   have hdr:x.cs.drop j=c::x.cs.drop (j+1):=by
    rw [List.drop_eq_getElem_cons (by rw [HL.out];exact hlt)];congr 1;exact (List.getElem?_eq_some_iff.1 hg).2
   have HDR:=Hd hdr;have HM:Hid (wx.rangeAt b (o+j*5) (chC c)):=Hd fun t u hu=>hcell t u hu
   have HONE:=Hd (chC_ones c);have HB1:=Hd fun old=>Blk.new wx 58 old
   have HS1:=Hd fun old=>U1 wx old (chC c).toArray 58
   obtain ⟨X,hX⟩:∃ X,wx.alloc (.cells (chC c).toArray 58)=X:=⟨_,rfl⟩
   have hXb:Below wx.heap.size wx X:=by rw [←hX];exact (Bf _ _).alloc (Le _) _
   have hXk:Blk X wx.heap.size 58 (chC c).toArray:=by rw [←hX];exact Blk.new wx _ _
   have hXz:X.heap.size=wx.heap.size+1:=by rw [←hX];simp
   simp only [hX] at HS1;have hl:=I1 X bs st c.id (HAL.out.sw.below hXb).sb;have c1:X.cell? ⟨wx.heap.size,1,none⟩=some (.int .i64 c.id):=(hXk.cell 1).trans rfl;have HXB:=Hd hXb;have HXK:=Hd hXk;have HXZ:=Hd hXz;have HLT:=Hd hlt;have HB2:=Hd fun old=>U3 X 30 old (wx.heap.size+1) hXz.symm
   clear hb hg hcell hc hdr hX hXb hXk;cases hgs:Y5 st c.id with
   |some y=>
    rw [hgs] at hl;simp only at hl
    have hr:Kh told num (x.cs.drop (j+1)) (st.map plC)=R1:=by
     rw [HDR.out] at hrec;unfold Kh at hrec
     rwa [G7,hgs,if_pos (.inl rfl)] at hrec
    have HR:=Hd hr;have HY1:=Hd (Vx y);have HS2:Hid (∀ old,(X.alloc (.cells old 30)).setRow (wx.heap.size+1) (cnC y).toArray=X.alloc (.cells (cnC y).toArray 30)):=Hd fun old=>Ue X (wx.heap.size+1) HXZ.out.symm old (cnC y).toArray 30
    obtain ⟨Y,hY⟩:∃ Y,X.alloc (.cells (cnC y).toArray 30)=Y:=⟨_,rfl⟩
    have hYb:Below wx.heap.size wx Y:=by rw [←hY];exact HXB.out.alloc (by have:=HXZ.out;omega) _
    have hYk:Blk Y wx.heap.size 58 (chC c).toArray:=by rw [←hY];exact HXK.out.alloc _
    have hYc:Blk Y (wx.heap.size+1) 30 (cnC y).toArray:=by rw [←hY];exact HB2.out _
    have hYz:Y.heap.size=wx.heap.size+2:=by rw [←hY];simp;have:=HXZ.out;omega
    simp only [hY] at HS2;have HYA:=Hd (Vj HAL.out hYb);have HYB:=Hd hYb;have HYK:=Hd hYk;have HYC:=Hd hYc;have HYZ:=Hd hYz;have c0:Y.cell? ⟨wx.heap.size,0,none⟩=some (.int .i64 c.kind):=(hYk.cell 0).trans rfl;clear hY hYb hYk hYc hYz;clear hr hrec hgs;go_wp2_with (first|((with_reducible refine Gl 58 24 ?_);refine Lm rfl 58 _ rfl b (o+j*5) rfl (chC c) _ HM.out Tryz.underlying58 rfl (by kernel_rfl) ?_)|((with_reducible refine Gt 58 6 ?_);refine Lt rfl 58 _ _ rfl (wx.heap.size) (chC c).toArray rfl rfl 58 _ (HB1.out _) (by kernel_rfl) rfl HONE.out ?_;rw [HS1.out])|((with_reducible refine Gt 30 7 ?_);refine Lt rfl 30 _ _ rfl (wx.heap.size+1) (cnC y).toArray rfl rfl 30 _ (HB2.out _) (by kernel_rfl) rfl HY1.out ?_;rw [HS2.out]));go_roundw
    case rel=>exact ⟨j+1,st,by have:=HLT.out;omega,by go_num,HR.out,HYA.out⟩
    case measure=>simp [intOf];have:=HLT.out;omega
   |none=>
    rw [hgs] at hl;simp only at hl;have HS2:Hid (∀ old,(X.alloc (.cells old 30)).setRow (wx.heap.size+1) zV.toArray=X.alloc (.cells zV.toArray 30)):=Hd fun old=>Ue X (wx.heap.size+1) HXZ.out.symm old zV.toArray 30
    obtain ⟨Y,hY⟩:∃ Y,X.alloc (.cells zV.toArray 30)=Y:=⟨_,rfl⟩
    have hYb:Below wx.heap.size wx Y:=by rw [←hY];exact HXB.out.alloc (by have:=HXZ.out;omega) _
    have hYk:Blk Y wx.heap.size 58 (chC c).toArray:=by rw [←hY];exact HXK.out.alloc _
    have hYc:Blk Y (wx.heap.size+1) 30 zV.toArray:=by rw [←hY];exact HB2.out _
    have hYz:Y.heap.size=wx.heap.size+2:=by rw [←hY];simp;have:=HXZ.out;omega
    simp only [hY] at HS2;have HYA:=Hd (Vj HAL.out hYb);have HYB:=Hd hYb;have HYK:=Hd hYk;have HYC:=Hd hYc;have HYZ:=Hd hYz;have c0:Y.cell? ⟨wx.heap.size,0,none⟩=some (.int .i64 c.kind):=(hYk.cell 0).trans rfl;clear hY hYb hYk hYc hYz;by_cases hk:c.kind=4
    ·have hk4:(c.kind != 4)=false:=by simpa using hk
     have hr:(match told c.rcd c.id with|none=>none|some d=>Kh told num (x.cs.drop (j+1)) (putP (st.map plC) ⟨d,num-1,[]⟩))=R1:=by
      rw [HDR.out] at hrec;unfold Kh at hrec
      rwa [G7,hgs,if_neg (by simp [hk])] at hrec
     have HCT:=Hd (HT.out c HC.out Y HYA.out.far);have HK4:=Hd hk;clear hrec hgs hk;generalize told c.rcd c.id=td at HCT hr;cases td with
     |none=>
      have HR:=Hd hr;clear hr
      go_wp2_with (first|((with_reducible refine Gl 58 24 ?_);refine Lm rfl 58 _ rfl b (o+j*5) rfl (chC c) _ HM.out Tryz.underlying58 rfl (by kernel_rfl) ?_)|((with_reducible refine Gt 58 6 ?_);refine Lt rfl 58 _ _ rfl (wx.heap.size) (chC c).toArray rfl rfl 58 _ (HB1.out _) (by kernel_rfl) rfl HONE.out ?_;rw [HS1.out])|((with_reducible refine Gt 30 7 ?_);refine Lt rfl 30 _ _ rfl (wx.heap.size+1) (zV).toArray rfl rfl 30 _ (HB2.out _) (by kernel_rfl) rfl HZ.out ?_;rw [HS2.out])|((with_reducible refine Gl 58 6 ?_);refine Lr rfl 58 _ rfl (wx.heap.size) rfl 58 _ (0,0) _ HYK.out Tryz.underlying58 rfl (by kernel_rfl) ?_)|(go_at_call 69;refine HCT.out.mono ?_;rintro e w2 ⟨⟨d,rfl⟩,hb2⟩;have HA2:=Hd (Vj HYA.out hb2);have HDO:=Hd (Z6 d);have HB3:=Hd fun old=>Blk.new w2 27 old;have HS3:=Hd fun old=>U1 w2 old (dC d).toArray 27;clear hb2)|((with_reducible refine Gt 27 9 ?_);refine Lt rfl 27 _ _ rfl (w2.heap.size) (dC d).toArray rfl rfl 27 _ (HB3.out _) (by kernel_rfl) rfl HDO.out ?_;rw [HS3.out]))
      go_ret;have hq:RR = .inl 11:=by rw [←HRR.out,←HR.out]
      rw [hq];exact ⟨by decide,rfl,HA2.out.far.alloc _⟩
     |some d=>
      have HR:=Hd hr;clear hr
      go_wp2_with (first|((with_reducible refine Gl 58 24 ?_);refine Lm rfl 58 _ rfl b (o+j*5) rfl (chC c) _ HM.out Tryz.underlying58 rfl (by kernel_rfl) ?_)|((with_reducible refine Gt 58 6 ?_);refine Lt rfl 58 _ _ rfl (wx.heap.size) (chC c).toArray rfl rfl 58 _ (HB1.out _) (by kernel_rfl) rfl HONE.out ?_;rw [HS1.out])|((with_reducible refine Gt 30 7 ?_);refine Lt rfl 30 _ _ rfl (wx.heap.size+1) (zV).toArray rfl rfl 30 _ (HB2.out _) (by kernel_rfl) rfl HZ.out ?_;rw [HS2.out])|((with_reducible refine Gl 58 6 ?_);refine Lr rfl 58 _ rfl (wx.heap.size) rfl 58 _ (0,0) _ HYK.out Tryz.underlying58 rfl (by kernel_rfl) ?_)|(go_at_call 69;refine HCT.out.mono ?_;rintro e w2 ⟨⟨hid,rfl⟩,hb2⟩;have HID:=Hd hid;have HA2:=Hd (Vj HYA.out hb2);have HKW:=Hd (HYK.out.below hb2 (by have:=HYZ.out;omega));have HZ2:=Hd hb2.size;have HDO:=Hd (Z6 d);have HB3:=Hd fun old=>Blk.new w2 27 old;have HS3:=Hd fun old=>U1 w2 old (dC d).toArray 27;clear hb2 hid c0 hl)|((with_reducible refine Gt 27 9 ?_);refine Lt rfl 27 _ _ rfl (w2.heap.size) (dC d).toArray rfl rfl 27 _ (HB3.out _) (by kernel_rfl) rfl HDO.out ?_;rw [HS3.out]))
      have HZA:=Hd (Vj HA2.out ((Bf _ _).alloc (Le _) (.cells (dC d).toArray 27)).drew);have HBK:Hid (Blk (w2.alloc (.cells (dC d).toArray 27)).drew wx.heap.size 58 (chC c).toArray∧Blk (w2.alloc (.cells (dC d).toArray 27)).drew w2.heap.size 27 (dC d).toArray∧Blk (w2.alloc (.cells (dC d).toArray 27)).drew w.heap.size 34 (U8 x).toArray):=Hd ⟨(HKW.out.alloc _).drew,(HB3.out _).drew,HZA.out.ub⟩;refine Rw (S:=fun w'=>Blk w' wx.heap.size 58 (chC c).toArray∧Blk w' w2.heap.size 27 (dC d).toArray∧Blk w' w.heap.size 34 (U8 x).toArray) (by kernel_rfl) HBK.out (fun Hh=>?_);refine tk 0 (.map (some bs)) Hh ?_;refine tk 1 (.pointer (some ⟨wx.heap.size,1,none⟩)) Hh ?_;refine tk 2 (.int .i64 c.id) Hh ?_ (y:=by exact Or.inl ⟨by rfl,by intro w' hSw;have h1:=(hSw.1.cell 1).trans (show _=some (Value.int .i64 c.id) from rfl);go_simp⟩)
      refine tk 3 (.agg (dC d).toArray) Hh ?_ (y:=by exact yieldsIf_load_mid (by rfl) 27 _ rfl w2.heap.size 0 rfl (dC d) _ (fun w' hSw j v hv=>by rw [hSw.2.1.cell,Nat.zero_add,Ga];exact hv) Tryz.underlying27 rfl (by kernel_rfl));refine tk 4 (.pointer (some ⟨w.heap.size,1,none⟩)) Hh ?_;refine tk 5 (.int .i64 num) Hh ?_ (y:=by exact Or.inl ⟨by rfl,by intro w' hSw;have h1:=(hSw.2.2.cell 1).trans (show _=some (Value.int .i64 x.num) from rfl);rw [HNUM.out] at h1;go_simp⟩);refine tk 6 (.int .i64 (num-1)) Hh ?_ (y:=by exact Or.inl ⟨by rfl,by intro w' hSw;have h1:=HWR.out;go_simp⟩);refine Ar (rs:=[7]) (by kernel_rfl) (by simp) ?_;refine Rc (fun K hK=>?_) ?_
      ·go_simp
       refine (empty_any d (num-1) _).mono ?_;rintro e w3 ⟨rfl,hb3⟩;simp only [];have HA3:=Hd (Vj HZA.out hb3);obtain ⟨q0,q1,q2⟩:=Hh;refine hK.out _ _ ⟨q0.below hb3 q0.lt,q1.below hb3 q1.lt,q2.below hb3 q2.lt⟩ (fun Hh=>?_);clear hK K hb3 q0 q1 q2;try simp only [Act.put,Sv,Sz,Sw]
       refine Ar (rs:=[8]) (by kernel_rfl) (by simp) ?_;refine Rc (fun K hK=>?_) ?_
       ·go_simp
        obtain ⟨w4,hput,hsb,hfar⟩:=Fz w3 bs st ⟨d,num-1,none,0,0,[]⟩ HA3.out.sw.sb;have hput':(Instr.mapUpdate 65 (.map (some bs)) (.int .i64 c.id) (.agg (cnC ⟨d,num-1,none,0,0,[]⟩).toArray)).run prog w3 = .ok () w4:=by rw [←HID.out];exact hput
        have HA4:=Hd (al_put HA3.out (cw_empty w3 d (num-1)) hsb hfar);obtain ⟨q0,q1,q2⟩:=Hh;have hne1:wx.heap.size≠bs:=by have:=HAL.out.sw.sb.lt;omega
        have hne2:w2.heap.size≠bs:=by have:=HA2.out.sw.sb.lt;omega
        have hne3:w.heap.size≠bs:=by have:=HAL.out.lt;omega
        have HQ:=Hd (And.intro (q0.far' hfar (by simpa using hne1)) (And.intro (q1.far' hfar (by simpa using hne2)) (q2.far' hfar (by simpa using hne3))));clear hput hsb hfar q0 q1 q2 hne1 hne2 hne3;go_simp;refine hK.out _ _ HQ.out (fun Hh=>?_);clear hK K hput';try simp only [Act.put,Sv,Sz,Sw]
        refine Ad (by kernel_rfl) ?_ _;clear Hh;have HR2:Hid (Kh told num (x.cs.drop (j+1)) ((Eo st ⟨d,num-1,none,0,0,[]⟩).map plC)=R1):=Hd (by rw [←Js];exact HR.out);go_wp2;go_roundw
        case rel=>exact ⟨j+1,_,by have:=HLT.out;omega,by go_num,HR2.out,HA4.out⟩
        case measure=>simp [intOf];have:=HLT.out;omega
       exact An
      exact An
    ·have hk4:(c.kind != 4)=true:=by simpa using hk
     have hr:Kh told num (x.cs.drop (j+1)) (st.map plC)=R1:=by
      rw [HDR.out] at hrec;unfold Kh at hrec
      rwa [if_pos (.inr hk)] at hrec
     have HR:=Hd hr;clear hr hrec hgs hk;go_wp2_with (first|((with_reducible refine Gl 58 24 ?_);refine Lm rfl 58 _ rfl b (o+j*5) rfl (chC c) _ HM.out Tryz.underlying58 rfl (by kernel_rfl) ?_)|((with_reducible refine Gt 58 6 ?_);refine Lt rfl 58 _ _ rfl (wx.heap.size) (chC c).toArray rfl rfl 58 _ (HB1.out _) (by kernel_rfl) rfl HONE.out ?_;rw [HS1.out])|((with_reducible refine Gt 30 7 ?_);refine Lt rfl 30 _ _ rfl (wx.heap.size+1) (zV).toArray rfl rfl 30 _ (HB2.out _) (by kernel_rfl) rfl HZ.out ?_;rw [HS2.out]));go_roundw
     case rel=>exact ⟨j+1,st,by have:=HLT.out;omega,by go_num,HR.out,HYA.out⟩
     case measure=>simp [intOf];have:=HLT.out;omega
  ·obtain rfl:j=cn:=by omega
   have hR:R1=some (st.map plC):=by rw [←hrec,List.drop_of_length_le (by rw [HL.out];exact Le _)];rfl
   have c3:wx.cell? ⟨w.heap.size,3,none⟩=some (.slice cA j x.cc):=(HAL.out.ub.cell 3).trans (by rw [←HCN.out,←HCA.out];rfl);have hR2:Zn told doF num 0 x.cs (st.map plC)=RR:=by have h:=HRR.out;rw [hR] at h;exact h
   have HR2:=Hd hR2;clear hrec hR hR2 hlt hj HR1 HRR HWR;have hj1:j≤1000:=hcn;go_wp2;go_loopw [58] (fun i wr => ∃ (j2:Nat) (st2:List Cnt),j2≤j∧i = .int .i64 j2∧Zn told doF num j2 (x.cs.drop j2) (st2.map plC)=RR∧AL x bs w wr st2) (fun i _=>j-(intOf i).toNat)
   case atStart=>exact ⟨0,st,Z0 _,rfl,HR2.out,HAL.out⟩
   case round=>
    obtain ⟨j2,st2,hj2,rfl,hrec,hal⟩:=hrel;obtain ⟨wx,rfl⟩:∃ z:World,z=wr:=⟨_,rfl⟩
    have HAL:=Hd hal;clear hal c3;by_cases hlt:j2<j
    ·obtain ⟨b,o,c,rfl,hb,hg,hcell⟩:=Sl.cell (f:=chC) (k:=5) (fun _=>rfl) (HSL.out _ _ HAL.out) hlt
     have hc:=List.mem_of_getElem? hg;have HC:=Hd hc
     have hdr:x.cs.drop j2=c::x.cs.drop (j2+1):=by
      rw [List.drop_eq_getElem_cons (by rw [HL.out];exact hlt)];congr 1;exact (List.getElem?_eq_some_iff.1 hg).2
     have HDR:=Hd hdr;have HM:Hid (wx.rangeAt b (o+j2*5) (chC c)):=Hd fun t u hu=>hcell t u hu
     have HONE:=Hd (chC_ones c);have HB1:=Hd fun old=>Blk.new wx 58 old
     have HS1:=Hd fun old=>U1 wx old (chC c).toArray 58
     obtain ⟨X,hX⟩:∃ X,wx.alloc (.cells (chC c).toArray 58)=X:=⟨_,rfl⟩
     have hXb:Below wx.heap.size wx X:=by rw [←hX];exact (Bf _ _).alloc (Le _) _
     have hXk:Blk X wx.heap.size 58 (chC c).toArray:=by rw [←hX];exact Blk.new wx _ _
     have hXz:X.heap.size=wx.heap.size+1:=by rw [←hX];simp
     simp only [hX] at HS1;have hl:=I1 X bs st2 c.id (HAL.out.sw.below hXb).sb;have c1:X.cell? ⟨wx.heap.size,1,none⟩=some (.int .i64 c.id):=(hXk.cell 1).trans rfl;have HXB:=Hd hXb;have HXK:=Hd hXk;have HXZ:=Hd hXz;have HLT:=Hd hlt;have HB2:=Hd fun old=>U3 X 30 old (wx.heap.size+1) hXz.symm
     clear hb hg hcell hc hdr hX hXb hXk;cases hgs:Y5 st2 c.id with
     |none=>
      rw [hgs] at hl;simp only at hl
      have hr:Zn told doF num (j2+1) (x.cs.drop (j2+1)) (st2.map plC)=RR:=by
       rw [HDR.out] at hrec;unfold Zn at hrec;rw [G7,hgs] at hrec;exact hrec
      have HR:=Hd hr;have HS2:Hid (∀ old,(X.alloc (.cells old 30)).setRow (wx.heap.size+1) zV.toArray=X.alloc (.cells zV.toArray 30)):=Hd fun old=>Ue X (wx.heap.size+1) HXZ.out.symm old zV.toArray 30
      obtain ⟨Y,hY⟩:∃ Y,X.alloc (.cells zV.toArray 30)=Y:=⟨_,rfl⟩
      have hYb:Below wx.heap.size wx Y:=by rw [←hY];exact HXB.out.alloc (by have:=HXZ.out;omega) _
      have hYk:Blk Y wx.heap.size 58 (chC c).toArray:=by rw [←hY];exact HXK.out.alloc _
      have hYc:Blk Y (wx.heap.size+1) 30 zV.toArray:=by rw [←hY];exact HB2.out _
      have hYz:Y.heap.size=wx.heap.size+2:=by rw [←hY];simp;have:=HXZ.out;omega
      simp only [hY] at HS2;have HYA:=Hd (Vj HAL.out hYb);have HYB:=Hd hYb;have HYK:=Hd hYk;have HYC:=Hd hYc;have HYZ:=Hd hYz;have c0:Y.cell? ⟨wx.heap.size,0,none⟩=some (.int .i64 c.kind):=(hYk.cell 0).trans rfl;clear hY hYb hYk hYc hYz;clear hr hrec hgs c0;go_wp2_with (first|((with_reducible refine Gl 58 61 ?_);refine Lm rfl 58 _ rfl b (o+j2*5) rfl (chC c) _ HM.out Tryz.underlying58 rfl (by kernel_rfl) ?_)|((with_reducible refine Gt 58 12 ?_);refine Lt rfl 58 _ _ rfl (wx.heap.size) (chC c).toArray rfl rfl 58 _ (HB1.out _) (by kernel_rfl) rfl HONE.out ?_;rw [HS1.out])|((with_reducible refine Gt 30 13 ?_);refine Lt rfl 30 _ _ rfl (wx.heap.size+1) (zV).toArray rfl rfl 30 _ (HB2.out _) (by kernel_rfl) rfl HZ.out ?_;rw [HS2.out]));go_roundw
      case rel=>exact ⟨j2+1,st2,by have:=HLT.out;omega,by go_num,HR.out,HYA.out⟩
      case measure=>simp [intOf];have:=HLT.out;omega
     |some y=>
      rw [hgs] at hl;simp only at hl;have hyid:=(Jx hgs).2.2;have hycw:=(HAL.out.sw.get hgs)
      have HY1:=Hd (Vx y);have HS2:Hid (∀ old,(X.alloc (.cells old 30)).setRow (wx.heap.size+1) (cnC y).toArray=X.alloc (.cells (cnC y).toArray 30)):=Hd fun old=>Ue X (wx.heap.size+1) HXZ.out.symm old (cnC y).toArray 30
      obtain ⟨Y,hY⟩:∃ Y,X.alloc (.cells (cnC y).toArray 30)=Y:=⟨_,rfl⟩
      have hYb:Below wx.heap.size wx Y:=by rw [←hY];exact HXB.out.alloc (by have:=HXZ.out;omega) _
      have hYk:Blk Y wx.heap.size 58 (chC c).toArray:=by rw [←hY];exact HXK.out.alloc _
      have hYc:Blk Y (wx.heap.size+1) 30 (cnC y).toArray:=by rw [←hY];exact HB2.out _
      have hYz:Y.heap.size=wx.heap.size+2:=by rw [←hY];simp;have:=HXZ.out;omega
      simp only [hY] at HS2;have HYA:=Hd (Vj HAL.out hYb);have HYB:=Hd hYb;have HYK:=Hd hYk;have HYC:=Hd hYc;have HYZ:=Hd hYz;have c0:Y.cell? ⟨wx.heap.size,0,none⟩=some (.int .i64 c.kind):=(hYk.cell 0).trans rfl;clear hY hYb hYk hYc hYz;have HYCW:=Hd (hycw.below HYB.out);have HYW:=Hd hycw;have c1y:Y.cell? ⟨wx.heap.size,1,none⟩=some (.int .i64 c.id):=(HYK.out.cell 1).trans rfl
      have hr:(if c.kind=5 then Zn told doF num (j2+1) (x.cs.drop (j2+1)) (delP (st2.map plC) c.id) else if c.kind=6∨c.kind=7 then (match told c.rcd c.id with|none=>Zn told doF num (j2+1) (x.cs.drop (j2+1)) (st2.map plC)|some d=>Zn told doF num (j2+1) (x.cs.drop (j2+1)) (putP (st2.map plC) ⟨d,y.ap,y.ps⟩)) else if c.kind=4 then Zn told doF num (j2+1) (x.cs.drop (j2+1)) (st2.map plC) else match doF (plC y) (num+j2) c with | .inl e=>.inl e | .inr z=>Zn told doF num (j2+1) (x.cs.drop (j2+1)) (putP (st2.map plC) z))=RR:=by
       rw [HDR.out] at hrec;unfold Zn at hrec;rw [G7,hgs] at hrec;exact hrec
      have HYID:=Hd hyid;clear hrec hgs hycw hyid;by_cases hk5:c.kind=5
      ·rw [if_pos hk5] at hr
       obtain ⟨w3,hdel,hsb,hfar⟩:=del_run 0 Y bs st2 c.id HYA.out.sw.sb;have HA3:=Hd (al_del HYA.out hsb hfar);have HR:Hid (Zn told doF num (j2+1) (x.cs.drop (j2+1)) ((delS st2 c.id).map plC)=RR):=Hd (by rw [←delP_pl];exact hr);rw [hk5] at c0;clear hr hk5 hsb hfar;go_wp2_with (first|((with_reducible refine Gl 58 61 ?_);refine Lm rfl 58 _ rfl b (o+j2*5) rfl (chC c) _ HM.out Tryz.underlying58 rfl (by kernel_rfl) ?_)|((with_reducible refine Gt 58 12 ?_);refine Lt rfl 58 _ _ rfl (wx.heap.size) (chC c).toArray rfl rfl 58 _ (HB1.out _) (by kernel_rfl) rfl HONE.out ?_;rw [HS1.out])|((with_reducible refine Gt 30 13 ?_);refine Lt rfl 30 _ _ rfl (wx.heap.size+1) (cnC y).toArray rfl rfl 30 _ (HB2.out _) (by kernel_rfl) rfl HY1.out ?_;rw [HS2.out]));go_roundw
       case rel=>exact ⟨j2+1,_,by have:=HLT.out;omega,by go_num,HR.out,HA3.out⟩
       case measure=>simp [intOf];have:=HLT.out;omega
      rw [if_neg hk5] at hr;have hb5:(c.kind == 5)=false:=by simpa using hk5
      by_cases hk67:c.kind=6∨c.kind=7
      ·rw [if_pos hk67] at hr
       have HCT:=Hd (HT.out c HC.out Y HYA.out.far);generalize told c.rcd c.id=td at HCT hr;cases td with
       |none=>
        have HR:=Hd hr;clear hr hk5;rcases hk67 with hk|hk
        ·rw [hk] at c0
         clear hb5 hk
         go_wp2_with (first|((with_reducible refine Gl 58 61 ?_);refine Lm rfl 58 _ rfl b (o+j2*5) rfl (chC c) _ HM.out Tryz.underlying58 rfl (by kernel_rfl) ?_)|((with_reducible refine Gt 58 12 ?_);refine Lt rfl 58 _ _ rfl (wx.heap.size) (chC c).toArray rfl rfl 58 _ (HB1.out _) (by kernel_rfl) rfl HONE.out ?_;rw [HS1.out])|((with_reducible refine Gt 30 13 ?_);refine Lt rfl 30 _ _ rfl (wx.heap.size+1) (cnC y).toArray rfl rfl 30 _ (HB2.out _) (by kernel_rfl) rfl HY1.out ?_;rw [HS2.out])|((with_reducible refine Gl 58 12 ?_);refine Lr rfl 58 _ rfl (wx.heap.size) rfl 58 _ (0,0) _ HYK.out Tryz.underlying58 rfl (by kernel_rfl) ?_)|(go_at_call 69;refine HCT.out.mono ?_;rintro e w2 ⟨⟨d,rfl⟩,hb2⟩;have HA2:=Hd (Vj HYA.out hb2);have HDO:=Hd (Z6 d);have HB3:=Hd fun old=>Blk.new w2 27 old;have HS3:=Hd fun old=>U1 w2 old (dC d).toArray 27;clear hb2 c0 c1y hl)|((with_reducible refine Gt 27 15 ?_);refine Lt rfl 27 _ _ rfl (w2.heap.size) (dC d).toArray rfl rfl 27 _ (HB3.out _) (by kernel_rfl) rfl HDO.out ?_;rw [HS3.out]))
         go_roundw
         case rel=>exact ⟨j2+1,st2,by have:=HLT.out;omega,by go_num,HR.out,Vj HA2.out ((Bf _ _).alloc (Le _) _)⟩
         case measure=>simp [intOf];have:=HLT.out;omega
        ·rw [hk] at c0
         clear hb5 hk
         go_wp2_with (first|((with_reducible refine Gl 58 61 ?_);refine Lm rfl 58 _ rfl b (o+j2*5) rfl (chC c) _ HM.out Tryz.underlying58 rfl (by kernel_rfl) ?_)|((with_reducible refine Gt 58 12 ?_);refine Lt rfl 58 _ _ rfl (wx.heap.size) (chC c).toArray rfl rfl 58 _ (HB1.out _) (by kernel_rfl) rfl HONE.out ?_;rw [HS1.out])|((with_reducible refine Gt 30 13 ?_);refine Lt rfl 30 _ _ rfl (wx.heap.size+1) (cnC y).toArray rfl rfl 30 _ (HB2.out _) (by kernel_rfl) rfl HY1.out ?_;rw [HS2.out])|((with_reducible refine Gl 58 12 ?_);refine Lr rfl 58 _ rfl (wx.heap.size) rfl 58 _ (0,0) _ HYK.out Tryz.underlying58 rfl (by kernel_rfl) ?_)|(go_at_call 69;refine HCT.out.mono ?_;rintro e w2 ⟨⟨d,rfl⟩,hb2⟩;have HA2:=Hd (Vj HYA.out hb2);have HDO:=Hd (Z6 d);have HB3:=Hd fun old=>Blk.new w2 27 old;have HS3:=Hd fun old=>U1 w2 old (dC d).toArray 27;clear hb2 c0 c1y hl)|((with_reducible refine Gt 27 15 ?_);refine Lt rfl 27 _ _ rfl (w2.heap.size) (dC d).toArray rfl rfl 27 _ (HB3.out _) (by kernel_rfl) rfl HDO.out ?_;rw [HS3.out]))
         go_roundw
         case rel=>exact ⟨j2+1,st2,by have:=HLT.out;omega,by go_num,HR.out,Vj HA2.out ((Bf _ _).alloc (Le _) _)⟩
         case measure=>simp [intOf];have:=HLT.out;omega
       |some d=>
        have HR:=Hd hr;clear hr hk5;rcases hk67 with hk|hk
        ·rw [hk] at c0
         clear hb5 hk
         go_wp2_with (first|((with_reducible refine Gl 58 61 ?_);refine Lm rfl 58 _ rfl b (o+j2*5) rfl (chC c) _ HM.out Tryz.underlying58 rfl (by kernel_rfl) ?_)|((with_reducible refine Gt 58 12 ?_);refine Lt rfl 58 _ _ rfl (wx.heap.size) (chC c).toArray rfl rfl 58 _ (HB1.out _) (by kernel_rfl) rfl HONE.out ?_;rw [HS1.out])|((with_reducible refine Gt 30 13 ?_);refine Lt rfl 30 _ _ rfl (wx.heap.size+1) (cnC y).toArray rfl rfl 30 _ (HB2.out _) (by kernel_rfl) rfl HY1.out ?_;rw [HS2.out])|((with_reducible refine Gl 58 12 ?_);refine Lr rfl 58 _ rfl (wx.heap.size) rfl 58 _ (0,0) _ HYK.out Tryz.underlying58 rfl (by kernel_rfl) ?_)|(go_at_call 69;go_loud (refine HCT.out.mono ?_;rintro e w2 ⟨⟨hid,rfl⟩,hb2⟩;have HAE:=Hd (aft_told HYA.out HYC.out HYK.out HYZ.out hb2 hid HYB.out rfl HAL.out HYW.out);have HDO:=Hd (Z6 d);have HB3:=Hd fun old=>Blk.new w2 27 old;have HS3:=Hd fun old=>U1 w2 old (dC d).toArray 27;clear hb2 hid c0 c1y hl;obtain ⟨w4,hput,hal4⟩:=HAE.out.put;have HA4:=Hd hal4;have c1z:=HAE.out.c1;clear hal4))|((with_reducible refine Gt 27 15 ?_);refine Lt rfl 27 _ _ rfl (w2.heap.size) (dC d).toArray rfl rfl 27 _ (HB3.out _) (by kernel_rfl) rfl HDO.out ?_;rw [HS3.out])|((with_reducible refine Gl 27 15 ?_);refine Lr rfl 27 _ rfl (w2.heap.size) rfl 27 _ (0,0) _ (HB3.out _) Tryz.underlying27 rfl (by kernel_rfl) ?_)|((with_reducible refine Gt 27 107 ?_);refine wpList_store_mid rfl 27 _ _ rfl (wx.heap.size+1) 0 (dC d).toArray rfl rfl HAE.out.th (by kernel_rfl) HDO.out ?_)|((with_reducible refine Gl 30 13 ?_);refine Lr rfl 30 _ rfl (wx.heap.size+1) rfl 30 _ (0,0) _ HAE.out.cb Tryz.underlying30 rfl (by kernel_rfl) ?_))
         go_roundw
         case rel=>exact ⟨j2+1,_,by have:=HLT.out;omega,by go_num,(by rw [←Js];exact HR.out),HA4.out⟩
         case measure=>simp [intOf];have:=HLT.out;omega
        ·rw [hk] at c0
         clear hb5 hk
         go_wp2_with (first|((with_reducible refine Gl 58 61 ?_);refine Lm rfl 58 _ rfl b (o+j2*5) rfl (chC c) _ HM.out Tryz.underlying58 rfl (by kernel_rfl) ?_)|((with_reducible refine Gt 58 12 ?_);refine Lt rfl 58 _ _ rfl (wx.heap.size) (chC c).toArray rfl rfl 58 _ (HB1.out _) (by kernel_rfl) rfl HONE.out ?_;rw [HS1.out])|((with_reducible refine Gt 30 13 ?_);refine Lt rfl 30 _ _ rfl (wx.heap.size+1) (cnC y).toArray rfl rfl 30 _ (HB2.out _) (by kernel_rfl) rfl HY1.out ?_;rw [HS2.out])|((with_reducible refine Gl 58 12 ?_);refine Lr rfl 58 _ rfl (wx.heap.size) rfl 58 _ (0,0) _ HYK.out Tryz.underlying58 rfl (by kernel_rfl) ?_)|(go_at_call 69;go_loud (refine HCT.out.mono ?_;rintro e w2 ⟨⟨hid,rfl⟩,hb2⟩;have HAE:=Hd (aft_told HYA.out HYC.out HYK.out HYZ.out hb2 hid HYB.out rfl HAL.out HYW.out);have HDO:=Hd (Z6 d);have HB3:=Hd fun old=>Blk.new w2 27 old;have HS3:=Hd fun old=>U1 w2 old (dC d).toArray 27;clear hb2 hid c0 c1y hl;obtain ⟨w4,hput,hal4⟩:=HAE.out.put;have HA4:=Hd hal4;have c1z:=HAE.out.c1;clear hal4))|((with_reducible refine Gt 27 15 ?_);refine Lt rfl 27 _ _ rfl (w2.heap.size) (dC d).toArray rfl rfl 27 _ (HB3.out _) (by kernel_rfl) rfl HDO.out ?_;rw [HS3.out])|((with_reducible refine Gl 27 15 ?_);refine Lr rfl 27 _ rfl (w2.heap.size) rfl 27 _ (0,0) _ (HB3.out _) Tryz.underlying27 rfl (by kernel_rfl) ?_)|((with_reducible refine Gt 27 107 ?_);refine wpList_store_mid rfl 27 _ _ rfl (wx.heap.size+1) 0 (dC d).toArray rfl rfl HAE.out.th (by kernel_rfl) HDO.out ?_)|((with_reducible refine Gl 30 13 ?_);refine Lr rfl 30 _ rfl (wx.heap.size+1) rfl 30 _ (0,0) _ HAE.out.cb Tryz.underlying30 rfl (by kernel_rfl) ?_))
         go_roundw
         case rel=>exact ⟨j2+1,_,by have:=HLT.out;omega,by go_num,(by rw [←Js];exact HR.out),HA4.out⟩
         case measure=>simp [intOf];have:=HLT.out;omega
      rw [if_neg hk67] at hr;have hb6:(c.kind == 6)=false:=by simp;omega
      have hb7:(c.kind == 7)=false:=by simp;omega
      by_cases hk4:c.kind=4
      ·rw [if_pos hk4] at hr
       have HR:=Hd hr;rw [hk4] at c0;clear hr hk4 hk5 hk67 hb5 hb6 hb7;go_wp2_with (first|((with_reducible refine Gl 58 61 ?_);refine Lm rfl 58 _ rfl b (o+j2*5) rfl (chC c) _ HM.out Tryz.underlying58 rfl (by kernel_rfl) ?_)|((with_reducible refine Gt 58 12 ?_);refine Lt rfl 58 _ _ rfl (wx.heap.size) (chC c).toArray rfl rfl 58 _ (HB1.out _) (by kernel_rfl) rfl HONE.out ?_;rw [HS1.out])|((with_reducible refine Gt 30 13 ?_);refine Lt rfl 30 _ _ rfl (wx.heap.size+1) (cnC y).toArray rfl rfl 30 _ (HB2.out _) (by kernel_rfl) rfl HY1.out ?_;rw [HS2.out]));go_roundw
       case rel=>exact ⟨j2+1,st2,by have:=HLT.out;omega,by go_num,HR.out,HYA.out⟩
       case measure=>simp [intOf];have:=HLT.out;omega
      ·rw [if_neg hk4] at hr
       have hb4:(c.kind == 4)=false:=by simpa using hk4
       have hnn:1≤num+(j2:Int)∧num+(j2:Int)≤1099511628776:=by omega
       have HCD:=Hd (HD.out c HC.out y (num+j2) HYID.out hnn.1 hnn.2 Y HYA.out.far HYCW.out);have c1u:Y.cell? ⟨w.heap.size,1,none⟩=some (.int .i64 num):=(HYA.out.ub.cell 1).trans (by rw [←HNUM.out];rfl);clear hk4 hk5 hk67 hnn;generalize doF (plC y) (num+j2) c=dr at HCD hr;cases dr with
       |inl er=>
        have HR:=Hd hr;clear hr
        go_wp2_with (first|((with_reducible refine Gl 58 61 ?_);refine Lm rfl 58 _ rfl b (o+j2*5) rfl (chC c) _ HM.out Tryz.underlying58 rfl (by kernel_rfl) ?_)|((with_reducible refine Gt 58 12 ?_);refine Lt rfl 58 _ _ rfl (wx.heap.size) (chC c).toArray rfl rfl 58 _ (HB1.out _) (by kernel_rfl) rfl HONE.out ?_;rw [HS1.out])|((with_reducible refine Gt 30 13 ?_);refine Lt rfl 30 _ _ rfl (wx.heap.size+1) (cnC y).toArray rfl rfl 30 _ (HB2.out _) (by kernel_rfl) rfl HY1.out ?_;rw [HS2.out])|((with_reducible refine Gl 30 13 ?_);refine Lr rfl 30 _ rfl (wx.heap.size+1) rfl 30 _ (0,0) _ HYC.out Tryz.underlying30 rfl (by kernel_rfl) ?_)|((with_reducible refine Gl 58 12 ?_);refine Lr rfl 58 _ rfl (wx.heap.size) rfl 58 _ (0,0) _ HYK.out Tryz.underlying58 rfl (by kernel_rfl) ?_)|((with_reducible refine Gb 127 ?_);refine U2 (by kernel_rfl) 127 _ rfl (nbC (num+j2) c).toArray (by kernel_rfl) ?_)|(go_at_call 71;refine HCD.out.mono ?_;rintro e w2 ⟨hne,rfl,hb2⟩;have HNE:=Hd hne;have hbe:(er != 0)=true:=(by simpa using hne);have HA2:=Hd (Vj HYA.out hb2);have HB3:=Hd fun old=>Blk.new w2 30 old;have HS3:=Hd fun old=>U1 w2 old zV.toArray 30;clear hb2 hne c0 c1y hl c1u)|((with_reducible refine Gt 30 17 ?_);refine Lt rfl 30 _ _ rfl (w2.heap.size) (zV).toArray rfl rfl 30 _ (HB3.out _) (by kernel_rfl) rfl HZ.out ?_;rw [HS3.out]))
        go_ret;have hq:RR = .inl er:=HR.out.symm;rw [hq];exact ⟨HNE.out,rfl,HA2.out.far.alloc _⟩
       |inr z2=>
        have HR:=Hd hr;clear hr
        go_wp2_with (first|((with_reducible refine Gl 58 61 ?_);refine Lm rfl 58 _ rfl b (o+j2*5) rfl (chC c) _ HM.out Tryz.underlying58 rfl (by kernel_rfl) ?_)|((with_reducible refine Gt 58 12 ?_);refine Lt rfl 58 _ _ rfl (wx.heap.size) (chC c).toArray rfl rfl 58 _ (HB1.out _) (by kernel_rfl) rfl HONE.out ?_;rw [HS1.out])|((with_reducible refine Gt 30 13 ?_);refine Lt rfl 30 _ _ rfl (wx.heap.size+1) (cnC y).toArray rfl rfl 30 _ (HB2.out _) (by kernel_rfl) rfl HY1.out ?_;rw [HS2.out])|((with_reducible refine Gl 30 13 ?_);refine Lr rfl 30 _ rfl (wx.heap.size+1) rfl 30 _ (0,0) _ HYC.out Tryz.underlying30 rfl (by kernel_rfl) ?_)|((with_reducible refine Gl 58 12 ?_);refine Lr rfl 58 _ rfl (wx.heap.size) rfl 58 _ (0,0) _ HYK.out Tryz.underlying58 rfl (by kernel_rfl) ?_)|((with_reducible refine Gb 127 ?_);refine U2 (by kernel_rfl) 127 _ rfl (nbC (num+j2) c).toArray (by kernel_rfl) ?_)|(go_at_call 71;refine HCD.out.mono ?_;rintro e w2 ⟨z,hz,hzid,rfl,hcw,hb2⟩;have HZE:=Hd hz;have HZ1:=Hd (Vx z);have HB3:=Hd fun old=>Blk.new w2 30 old;have HS3:=Hd fun old=>U1 w2 old (cnC z).toArray 30;have HBZ:=Hd (Blk.new w2 30 (cnC z).toArray);have c1z:=aft_c1 HYK.out HYZ.out hb2 (.cells (cnC z).toArray 30);obtain ⟨w4,hput,hal4⟩:=aft_do2 HYA.out hb2 hcw hzid;have HA4:=Hd hal4;clear hb2 hal4 hz hzid hcw c0 c1y hl c1u)|((with_reducible refine Gt 30 17 ?_);refine Lt rfl 30 _ _ rfl (w2.heap.size) (cnC z).toArray rfl rfl 30 _ (HB3.out _) (by kernel_rfl) rfl HZ1.out ?_;rw [HS3.out])|((with_reducible refine Gl 30 17 ?_);refine Lr rfl 30 _ rfl (w2.heap.size) rfl 30 _ (0,0) _ HBZ.out Tryz.underlying30 rfl (by kernel_rfl) ?_))
        go_roundw
        case rel=>exact ⟨j2+1,_,by have:=HLT.out;omega,by go_num,(by rw [←Js,HZE.out];exact HR.out),HA4.out⟩
        case measure=>simp [intOf];have:=HLT.out;omega
    ·obtain rfl:j2=j:=by omega
     have hq:RR = .inr (st2.map plC):=by rw [←hrec,List.drop_of_length_le (by rw [HL.out];exact Le _)];rfl
     have HQ:=Hd hq;clear hq hrec;go_wp2;go_ret;rw [HQ.out];exact ⟨st2,rfl,rfl,HAL.out.sw,HAL.out.far⟩
end Go.Proofs.YtapanepkfbamhaaGreatDoor
