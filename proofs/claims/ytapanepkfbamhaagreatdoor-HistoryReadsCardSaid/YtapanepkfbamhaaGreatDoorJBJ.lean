/- Part of the proof of HistoryReads. -/
import Derived.Test.YtapanepkfbamhaaGreatDoorJAM
import Derived.Lib.Overlaps
import Derived.Lib.AppendZerosOnto
import Derived.Laws.CopyOwn
namespace Go.Proofs.YtapanepkfbamhaaGreatDoor
open Tryz (prog)
section
set_option maxRecDepth 100000
set_option maxHeartbeats 2000000
open Go.RowKit
def eC (es:List Pr):List Value:=Ua prC es
theorem Xq (es:List Pr):(eC es).length=es.length*2:=Vm G2 es
theorem eC_take (es:List Pr) (i:Nat):(eC es).take (i*2)=eC (es.take i):=flat_take G2 es i
theorem eC_drop (es:List Pr) (i:Nat):(eC es).drop (i*2)=eC (es.drop i):=F1 G2 es i
theorem F3 (a b:List Pr):eC (a++b)=eC a++eC b:=Uy a b
theorem eC_cons (x:Pr) (l:List Pr):eC (x::l) = [.string x.key,.string x.rcd]++eC l:=Vs x l
theorem eC_one (l:List Pr):∀ u∈eC l,u.oneCell'=true:=prC_one l
theorem pr_one (x p:ByteArray):∀ v∈([.string x,.string p]:List Value),v.oneCell'=true:=by
 intro v hv;simp at hv;rcases hv with rfl|rfl<;>rfl
theorem copy2_run {P:Program} (w:World) (dT sT ty elem:TypeId) (g o dLen dCap:Nat) (a:Addr) (sLen sCap:Nat) (cur:List Value) (t:TypeId) (cs:List Value)
  (hu:P.underlying dT=some (.slice elem)) (hs:(P.info? elem).map (·.size)=some 2) (hg:Blk w g t cur.toArray) (hn:cs.length=Nat.min sLen dLen*2)
  (hsrc:∀ j v,cs[j]? =some v→w.cell? (a.add j)=some v) (hfit:o+cs.length≤cur.length) (h1:∀ v∈cs,v.oneCell'=true):
  ∃ w',(Builtin.copy_ #[dT,sT] ty #[.slice (some ⟨g,o,none⟩) dLen dCap,.slice (some a) sLen sCap]).run P w = .ok (goInt (Nat.min sLen dLen)) w'∧Blk w' g t (splice cur o cs).toArray∧w.grownBy w' (some g):=by
 refine ⟨w.setRow g (splice cur o cs).toArray,?_,setRow_heap w g _ _ t (0,0) hg,⟨rfl,rfl,rfl,by simp,fun k _ hk=>setRow_other w g k _ (fun e=>hk (by rw [e]))⟩⟩;have hl:=run_loadCells_list (P:=P) w a cs hsrc;have hst:=run_storeCells_at P g o t cs 0 cur.toArray w hg (by simpa using hfit) h1;cases hq:P.info? elem with
 |none=>simp [hq] at hs
 |some i=>
  have hi:i.size=2:=by simpa [hq] using hs
  simp [Builtin.copy_,run_underlying hu,Builtin.lenOf,Builtin.firstCells,sizeOf,typeInfo,hq,hi,←hn,hl,hst,splice]
theorem Jk {P:Program} {w:World} {ops:Array Oper} {rest:List Oper} {o:Oper} {a:Act} {Q:Exit→Act→World→Prop} (hgd:o.guard=none) (d s:Operand) (dT sT:TypeId)
  (ho:o.op = .call { callee:=.builtin .copy,args:=#[d,s],argTypes:=#[dT,sT] }) (elem:TypeId) (hu:P.underlying dT=some (.slice elem)) (hsz:(P.info? elem).map (·.size)=some 2)
  (g off dLen dCap:Nat) (ad:Addr) (sLen sCap:Nat) (hd:a.eval d = .slice (some ⟨g,off,none⟩) dLen dCap) (hs:a.eval s = .slice (some ad) sLen sCap)
  (cur:List Value) (t:TypeId) (hg:Blk w g t cur.toArray) (cs:List Value) (hn:cs.length=Nat.min sLen dLen*2)
  (hsrc:∀ j v,cs[j]? =some v→w.cell? (ad.add j)=some v) (hfit:off+cs.length≤cur.length) (h1:∀ v∈cs,v.oneCell'=true)
  (h:∀ w',Blk w' g t (splice cur off cs).toArray→w.grownBy w' (some g)→wpList P ops Q rest (a.put o.dst (goInt (Nat.min sLen dLen))) w'):wpList P ops Q (o::rest) a w:=by
 refine wpList_plain hgd fun K hK=>?_
 obtain ⟨w',hrun,hb,hgr⟩:=copy2_run w dT sT o.type elem g off dLen dCap ad sLen sCap cur t cs hu hsz hg hn hsrc hfit h1;unfold Oper.wp;simp only [execOp,ho,resolve,invoke,builtin,Sem.run_bind,Sem.run_pure,Result.andThen_ok,List.map_toArray,List.map_cons,List.map_nil,hd,hs,hrun];exact hK _ _ (h w' hb hgr)
theorem step_copy2 {P:Program} {ops:Array Oper} {o:Oper} {a:Act} {w:World} {K:Act→World→Prop} {Q:Exit→Act→World→Prop} {E:Prop} (hgd:o.guard=none) (d s:Operand) (dT sT:TypeId)
  (ho:o.op = .call { callee:=.builtin .copy,args:=#[d,s],argTypes:=#[dT,sT] }) (elem:TypeId) (hu:P.underlying dT=some (.slice elem)) (hsz:(P.info? elem).map (·.size)=some 2)
  (g off dLen dCap:Nat) (ad:Addr) (sLen sCap:Nat) (hd:a.eval d = .slice (some ⟨g,off,none⟩) dLen dCap) (hs:a.eval s = .slice (some ad) sLen sCap)
  (cur:List Value) (t:TypeId) (hg:Blk w g t cur.toArray) (cs:List Value) (hn:cs.length=Nat.min sLen dLen*2)
  (hsrc:∀ j v,cs[j]? =some v→w.cell? (ad.add j)=some v) (hfit:off+cs.length≤cur.length) (h1:∀ v∈cs,v.oneCell'=true)
  (h:∀ w',Blk w' g t (splice cur off cs).toArray→w.grownBy w' (some g)→K (a.put o.dst (goInt (Nat.min sLen dLen))) w'):
  if Region.wanted o (yielded ops a.tmps)=true then Oper.wp P o a w K Q else E:=by
 obtain ⟨w',hrun,hb,hgr⟩:=copy2_run w dT sT o.type elem g off dLen dCap ad sLen sCap cur t cs hu hsz hg hn hsrc hfit h1;have hw:Region.wanted o (yielded ops a.tmps)=true:=by simp [Region.wanted,hgd]
 rw [if_pos hw];unfold Oper.wp;simp only [execOp,ho,resolve,invoke,builtin,Sem.run_bind,Sem.run_pure,Result.andThen_ok,List.map_toArray,List.map_cons,List.map_nil,hd,hs,hrun];exact h w' hb hgr
def Iv (es:List Pr) (i:Nat) (x:ByteArray) (p:ByteArray):List Pr:=es.take i ++ ⟨x,p⟩::es.drop i
theorem insE_len {es:List Pr} {i:Nat} (h:i≤es.length) (x:ByteArray) (p:ByteArray):(Iv es i x p).length=es.length+1:=by
 unfold Iv;simp;omega
theorem ins_own {W:World} {base g cap i n:Nat} {es:List Pr} {x:ByteArray} {p:ByteArray} {row:List Value} {T:List Value} (hb:Blk W g 76 row.toArray) (hr:row=eC (es.take i)++([.string x,.string p]++(eC (es.drop i)++T)))
  (hi:i≤n) (hl:es.length=n) (hbase:base≤g) (hc:n+1≤cap) (hm:cap≤maxLen) (hz:row.length=cap*2):W.ownsRow base 76 2 (.slice (some ⟨g,0,none⟩) (n+1) cap) (n+1) (eC (Iv es i x p)):=by
 have e:row=eC (Iv es i x p)++T:=by rw [hr,Iv,F3,eC_cons];simp
 have hll:(eC (Iv es i x p)).length=(n+1)*2:=by rw [Xq,insE_len (by omega),hl]
 exact ⟨hll,.inr ⟨g,cap,row.toArray,rfl,hbase,hb,hc,hm,by simpa using hz,by
  show row.take _=_;rw [e,List.take_left' hll]⟩⟩
theorem infoP2:(prog.info? 76).map (·.size)=some 2:=by
 obtain ⟨i0,hi0,hz0,hz1,hz2⟩:=info_parts Xe;rw [hi0];simp [hz1]
theorem Iu (b o j:Nat):(⟨b,o,none⟩:Addr).add j=⟨b,o+j,none⟩:=by unfold Addr.add;split<;>simp_all
theorem grown2 {w w1 w2:World} {r:Option Nat} (h:w.grownBy w1 r) (k:w1.grownBy w2 r):w.grownBy w2 r:=
 ⟨k.os.trans h.os,k.tape.trans h.tape,k.output.trans h.output,Lx h.size k.size,fun b hb hr=>(k.block b (Nat.lt_of_lt_of_le hb h.size) hr).trans (h.block b hb hr)⟩
theorem Je {w w1:World} {r:Option Nat} (h:w.drew.grownBy w1 r):w.grownBy w1 r:=⟨h.os,h.tape,h.output,h.size,h.block⟩
theorem sp_take {α:Type} (L:List α) (off:Nat) (cs:List α) {k:Nat} (h:k≤off) (hl:off≤L.length):(splice L off cs).take k=L.take k:=by
 unfold splice;rw [List.take_append_of_le_length (by rw [List.length_take];omega),List.take_take,Nat.min_eq_left h]
theorem sp_drop {α:Type} (L:List α) (off:Nat) (cs:List α) (hl:off≤L.length):(splice L off cs).drop off=cs++L.drop (off+cs.length):=by
 unfold splice;rw [List.drop_left' (by rw [List.length_take];omega)]
theorem ins_room (base g n cap i vb:Nat) (es:List Pr) (x:ByteArray) (p:ByteArray) (w:World) (hown:w.ownsRow base 76 2 (.slice (some ⟨g,0,none⟩) n cap) n (eC es)) (hv:Blk w vb 76 #[.string x,.string p]) (hvg:vb≠g)
  (hi:i<n) (hn:n≤1100) (hc:n+1≤cap):
  Calls prog 159 #[.slice (some ⟨g,0,none⟩) n cap,.int .i64 i,.slice (some ⟨vb,0,none⟩) 1 1] w fun e w' => ∃ v,e = .returned v∧w'.ownsRow base 76 2 v (n+1) (eC (Iv es i x p))∧w.grownBy w' (some g):=by
 have hl:es.length=n:=by have:=hown.1;rw [Xq] at this;omega
 obtain ⟨cur,hbase,hg,hmax,hcs,htk⟩:∃ cur:List Value,base≤g∧Blk w g 76 cur.toArray∧cap≤maxLen∧cur.length=cap*2∧cur.take (n*2)=eC es:=by
  rcases hown.2 with ⟨h,_⟩|⟨g',cap',cur,hv',hb,hh,h1,h2,h3,h4⟩
  ·cases h
  ·injection hv' with e1 e2 e3
   injection e1 with e1
   injection e1 with e1 _ _
   subst e1 e3;exact ⟨cur.toList,hb,hh,h2,by simpa using h3,h4⟩
 have hz:∀ w,(Go.sizeOf 76).run prog w = .ok 2 w:=fun w=>by
  obtain ⟨i0,hi0,hz0,hz1,hz2⟩:=info_parts Xe;simp [sizeOf,typeInfo,hi0,hz1]
 have hov:∀ lb cb,(callFunc 220 #[.slice (some ⟨vb,0,none⟩) 1 1,.slice (some ⟨g,(i+1)*2,none⟩) lb cb]).run prog w = .ok (.value (.bool false)) w:=fun lb cb=>by
  rw [run_callFunc_extern Tryz.func220 (by kernel_rfl) (by kernel_rfl) (by kernel_rfl) (e:=Extern.SlicesOverlaps.overlaps #[28,28] #[4]) (by kernel_rfl),
   Lib.run_overlaps_apart w 28 4 76 Tryz.underlying28 2 hz ⟨vb,0,none⟩ ⟨g,(i+1)*2,none⟩ 1 1 lb cb hvg 76 76 2 cur.length (by unfold Blk at hv;simp [World.shape?,hv]) (by unfold Blk at hg;simp [World.shape?,hg]) (by omega) (hv.free _) (hv.free _)]
  rfl
 have hdl:(eC (es.drop i)).length=(n-i)*2:=by rw [Xq];simp;omega
 have hmin1:Nat.min (n+1-i) (n+1-(i+1))=n-i:=by simp only [Nat.min_def];split<;>omega
 have hmin2:Nat.min 1 (n+1-i)=1:=by simp only [Nat.min_def];split<;>omega
 have hsrc1:∀ W:World,(∀ a,W.cell? a=w.cell? a)→∀ (j:Nat) (v:Value),(eC (es.drop i))[j]? =some v→W.cell? ((⟨g,i*2,none⟩:Addr).add j)=some v:=by
  intro W hW j v hj;rw [Iu,hW,hg.cell];have e:(eC es)[i*2+j]? =some v:=by rw [←eC_drop,List.getElem?_drop] at hj;exact hj
  rw [←htk,List.getElem?_take] at e;split at e
  ·simpa using e
  ·cases e
 have hmax':=hmax;unfold maxLen at hmax';have H1:=Hd hown;have HG:=Hd hg;have HV:=Hd hv;have HT:=Hd htk;have HS:=Hd hsrc1;have HDL:=Hd hdl;have HM1:=Hd hmin1;have HM2:=Hd hmin2;have HL:=Hd hl;have HC:=Hd hcs;have HZ:=Hd hz;have HMX:=Hd hmax;clear hown hg hv htk hsrc1 hdl hmin1 hmin2 hl hcs hz hmax;go_enter Tryz.func159,Tryz.ntmps159;go_wp2_with (simp only [hov]);have hw1:IntKind.i64.wrap ((i:Int)+1)=(i:Int)+1:=by rw [IntKind.wrap_i64];omega
 have hb1:(0:Int)≤(i:Int)+1:=by omega
 have htn:((i:Int)+1).toNat=i+1:=by omega
 have hb2:¬ (cap=i+1):=by omega
 have hb3:(i:Int)≤(n:Int)+1:=by omega
 have hb4:¬ (cap=i):=by omega
 have hb5:i≤n:=by omega
 go_region_law (refine step_copy2 (P:=prog) rfl _ _ 28 28 rfl 76 Tryz.underlying28 infoP2 g ((i+1)*2) (n+1-(i+1)) (cap-(i+1)) ⟨g,i*2,none⟩ (n+1-i) (cap-i) (by simp [Act.eval,Act.put]) (by simp [Act.eval,Act.put]) cur 76 (HG.out.drewN 1) (eC (es.drop i)) (by rw [HDL.out,HM1.out]) (HS.out _ (fun _=>rfl)) (by rw [HDL.out,HC.out];omega) (eC_one _) ?_;intro w1 hB1 hG1;have HB1:=Hd hB1;have HG1:=Hd hG1;clear hB1 hG1)
 have hv1:Blk w1 vb 76 #[.string x,.string p]:=HV.out.drew.grown HG1.out (by simpa using hvg)
 have hsrc2:∀ W:World,(∀ a,W.cell? a=w1.cell? a)→∀ (j:Nat) (v:Value),([.string x,.string p]:List Value)[j]? =some v→W.cell? ((⟨vb,0,none⟩:Addr).add j)=some v:=by
  intro W hW j v hj;rw [Iu,hW,hv1.cell];simpa using hj
 have HS2:=Hd hsrc2;have h1c:∀ v∈([.string x,.string p]:List Value),v.oneCell'=true:=pr_one _ _
 have H1C:=Hd h1c;obtain ⟨row1,hrow1⟩:∃ r,r=splice cur ((i+1)*2) (eC (es.drop i)):=⟨_,rfl⟩
 have hrl:row1.length=cap*2:=by rw [hrow1,length_splice _ _ _ (by rw [HDL.out,HC.out];omega),HC.out]
 have HRL:=Hd hrl;rw [←hrow1] at HB1;have HR1:=Hd hrow1;have HN2:Hid (([.string x,.string p]:List Value).length=Nat.min 1 (n+1-i)*2):=Hd (HM2.out.symm▸rfl);have HF2:Hid (i*2+([.string x,.string p]:List Value).length≤row1.length):=Hd (by rw [hrl,List.length_cons,List.length_cons,List.length_nil];omega);clear hv1 hsrc2 h1c hrl hrow1;go_wp2_with ((refine Jk (P:=prog) rfl _ _ 28 28 rfl 76 Tryz.underlying28 infoP2 g (i*2) (n+1-i) (cap-i) ⟨vb,0,none⟩ 1 1 rfl rfl row1 76 HB1.out [.string x,.string p] HN2.out (HS2.out _ (fun _=>rfl)) HF2.out H1C.out ?_;intro w2 hB2 hG2;have HB2:=Hd hB2;have HG2:=Hd hG2;clear hB2 hG2));go_ret;have e1:cur.take (i*2)=eC (es.take i):=by rw [←eC_take,←HT.out,List.take_take,Nat.min_eq_left (by omega)]
 refine ⟨_,rfl,ins_own (T:=cur.drop ((i+1)*2+(eC (es.drop i)).length)) HB2.out ?_ (by omega) HL.out hbase hc HMX.out (by rw [length_splice _ _ _ HF2.out,HRL.out]),grown2 (Je HG1.out) HG2.out⟩;show row1.take (i*2)++([.string x,.string p]++row1.drop (i*2+2))=_;rw [show i*2+2=(i+1)*2 from by omega,HR1.out,sp_take _ _ _ (by omega) (by rw [HC.out];omega),sp_drop _ _ _ (by rw [HC.out];omega),e1]
theorem ins_grow (base g n cap i vb:Nat) (es:List Pr) (x:ByteArray) (p:ByteArray) (w:World) (hown:w.ownsRow base 76 2 (.slice (some ⟨g,0,none⟩) n cap) n (eC es)) (hv:Blk w vb 76 #[.string x,.string p])
  (hi:i<n) (hn:n≤1100) (hc:cap<n+1):
  Calls prog 159 #[.slice (some ⟨g,0,none⟩) n cap,.int .i64 i,.slice (some ⟨vb,0,none⟩) 1 1] w fun e w' => ∃ v,e = .returned v∧w'.ownsRow base 76 2 v (n+1) (eC (Iv es i x p))∧w.grownBy w' none:=by
 have hl:es.length=n:=by have:=hown.1;rw [Xq] at this;omega
 obtain ⟨cur,hbase,hg,hnc,hcs,htk⟩:∃ cur:List Value,base≤g∧Blk w g 76 cur.toArray∧n≤cap∧cur.length=cap*2∧cur.take (n*2)=eC es:=by
  rcases hown.2 with ⟨h,_⟩|⟨g',cap',cur,hv',hb,hh,h1,h2,h3,h4⟩
  ·cases h
  ·injection hv' with e1 e2 e3
   injection e1 with e1
   injection e1 with e1 _ _
   subst e1 e3;exact ⟨cur.toList,hb,hh,h1,by simpa using h3,h4⟩
 obtain ⟨i0,hi0,hz0,hzs,hzb⟩:=info_parts Xe;have e1:cur.take (i*2)=eC (es.take i):=by rw [←eC_take,←htk,List.take_take,Nat.min_eq_left (by omega)]
 have hel:(eC (es.take i)).length=i*2:=by rw [Xq];simp;omega
 have hkk:(n:Int)+1-(i:Int)=((n+1-i:Nat):Int):=by omega
 have hik:i+(n+1-i)=n+1:=by omega
 have hold:(Builtin.firstCells i0.size i (.slice (some ⟨g,0,none⟩) i cap)).run prog w.drew = .ok (eC (es.take i)).toArray w.drew:=by
  rw [hzs]
  exact run_firstCells_some w.drew 2 i ⟨g,0,none⟩ i cap (eC (es.take i)) hel (fun j v hj=>by
   rw [Iu];show w.cell? _=_;rw [hg.cell];rw [←e1,List.getElem?_take] at hj;split at hj
   ·simpa using hj
   ·cases hj)
 have hrz:∃ G ROW,n+1≤G∧G≤maxLen∧ROW.length=G*2∧ROW.take (i*2)=eC (es.take i)∧∀ ty,(Builtin.append_ #[28,3] ty #[.slice (some ⟨g,0,none⟩) i cap,.int .i64 ((n:Int)+1-(i:Int))]).run prog w =
   .ok (.slice (some ⟨w.heap.size,0,none⟩) (n+1) G) (w.drew.alloc (.cells (List.toArray ROW) 76)):=by
  have h:=fun ty=>Lib.run_append_grow_zeros w 28 3 ty 76 i0 _ .i64 .i64 Tryz.underlying28 Tryz.underlying3 hi0 hz0 (some ⟨g,0,none⟩) i cap (eC (es.take i)) hold (n+1-i) (by omega) (by omega) (by omega) (by omega) (by rw [hzb];omega) (by rw [hzb,hik];exact growslice_fits hc (by omega))
  rw [hik] at h;have g1:=grownCap_ge w (n+1) cap 76;have g2:=grownCap_le_maxLen w (n+1) cap 76 (by unfold maxLen;omega);generalize grownCap w (n+1) cap 76=G at h g1 g2;refine ⟨G,((eC (es.take i)).toArray++Builtin.zeroCells (Value.agg #[.string ⟨#[]⟩,.string ⟨#[]⟩]).cells (n+1-i)++Builtin.zeroCells (Value.agg #[.string ⟨#[]⟩,.string ⟨#[]⟩]).cells (G-(n+1))).toList,g1,g2,?_,?_,fun ty=>?_⟩
  ·simp [Builtin.zeroCells,Value.cells,hel]
   omega
  ·simp only [Array.toList_append,List.append_assoc]
   rw [List.take_left' hel]
  ·rw [hkk,h ty]
 obtain ⟨G,ROW,hG1,hG2,hRL,hRT,hrz⟩:=hrz;have hdl:(eC (es.drop i)).length=(n-i)*2:=by rw [Xq];simp;omega
 have hgw:g≠w.heap.size:=Nat.ne_of_lt hg.lt;have hvw:vb≠w.heap.size:=Nat.ne_of_lt hv.lt;have hmin1:Nat.min (n-i) (n+1-(i+1))=n-i:=by simp only [Nat.min_def];split<;>omega
 have hmin2:Nat.min 1 (n+1-i)=1:=by simp only [Nat.min_def];split<;>omega
 have hmax':=hG2;unfold maxLen at hmax';have hB0:Blk (w.drew.alloc (.cells ROW.toArray 76)) w.heap.size 76 ROW.toArray:=Blk.new w.drew 76 _;have hv0:Blk (w.drew.alloc (.cells ROW.toArray 76)) vb 76 #[.string x,.string p]:=hv.drew.alloc _;have hg0:Blk (w.drew.alloc (.cells ROW.toArray 76)) g 76 cur.toArray:=hg.drew.alloc _;have hgr0:w.grownBy (w.drew.alloc (.cells ROW.toArray 76)) none:=⟨rfl,rfl,rfl,by simp,fun k hk _=>Below.heap_alloc w.drew _ k hk⟩
 have HN1:Hid (([.string x,.string p]:List Value).length=Nat.min 1 (n+1-i)*2):=Hd (hmin2.symm▸rfl);have HF1:Hid (i*2+([.string x,.string p]:List Value).length≤ROW.length):=Hd (by rw [hRL,List.length_cons,List.length_cons,List.length_nil];omega)
 have HS1:Hid (∀ W:World,(∀ a,W.cell? a=(w.drew.alloc (.cells ROW.toArray 76)).cell? a)→∀ (j:Nat) (v:Value),([.string x,.string p]:List Value)[j]? =some v→W.cell? ((⟨vb,0,none⟩:Addr).add j)=some v):=Hd (by
  intro W hW j v hj;rw [Iu,hW,hv0.cell];simpa using hj)
 have H1C:Hid (∀ v∈([.string x,.string p]:List Value),v.oneCell'=true):=Hd (pr_one _ _);have HB0:=Hd hB0;have HG0:=Hd hg0;have HGR0:=Hd hgr0;have HT:=Hd htk;have HE:=Hd e1;have HRT:=Hd hRT;have HRL:=Hd hRL;have HDL:=Hd hdl;have HM1:=Hd hmin1;have HL:=Hd hl;have HC:=Hd hcs;have HMX:=Hd hG2;have HGB:=Hd hg;clear hown hg hv htk hdl hmin1 hmin2 hl hcs hG2 hRT hRL hB0 hv0 hg0 hgr0 e1 hold hel hik hkk hi0 hz0 hzs hzb i0;have hw1:IntKind.i64.wrap ((i:Int)+1)=(i:Int)+1:=by rw [IntKind.wrap_i64];omega
 have hb1:(0:Int)≤(i:Int)+1:=by omega
 have htn:((i:Int)+1).toNat=i+1:=by omega
 have hb2:¬ (G=i+1):=by omega
 have hb6:¬ (G=i):=by omega
 have hb3:(i:Int)≤(n:Int):=by omega
 have hb4:¬ (cap=i):=by omega
 have hb5:i≤n:=by omega
 go_enter Tryz.func159,Tryz.ntmps159
 go_wp2_with (first
  |(at_builtin;refine Lib.wpList_append_run _ rfl _ _ _ _ rfl _ _ rfl rfl _ _ (hrz _) ?_)
  |((refine Jk (P:=prog) rfl _ _ 28 28 rfl 76 Tryz.underlying28 infoP2 w.heap.size (i*2) (n+1-i) (G-i) ⟨vb,0,none⟩ 1 1 rfl rfl ROW 76 HB0.out [.string x,.string p] HN1.out (HS1.out _ (fun _=>rfl)) HF1.out H1C.out ?_;intro w1 hB1 hG1;have HB1:=Hd hB1;have HG1:=Hd hG1;clear hB1 hG1)))
 have HS2:Hid (∀ W:World,(∀ a,W.cell? a=w1.cell? a)→∀ (j:Nat) (v:Value),(eC (es.drop i))[j]? =some v→W.cell? ((⟨g,i*2,none⟩:Addr).add j)=some v):=Hd (by
  intro W hW j v hj;rw [Iu,hW,(HG0.out.grown HG1.out (by simpa using hgw)).cell];have e:(eC es)[i*2+j]? =some v:=by rw [←eC_drop,List.getElem?_drop] at hj;exact hj
  rw [←HT.out,List.getElem?_take] at e;split at e
  ·simpa using e
  ·cases e)
 obtain ⟨row1,hrow1⟩:∃ r,r=splice ROW (i*2) [.string x,.string p]:=⟨_,rfl⟩
 have hrl:row1.length=G*2:=by rw [hrow1,length_splice _ _ _ HF1.out,HRL.out]
 rw [←hrow1] at HB1;have HR1:=Hd hrow1;have HRL1:=Hd hrl;have HN2:Hid ((eC (es.drop i)).length=Nat.min (n-i) (n+1-(i+1))*2):=Hd (by rw [HDL.out,HM1.out]);have HF2:Hid ((i+1)*2+(eC (es.drop i)).length≤row1.length):=Hd (by rw [HDL.out,hrl];omega);clear hrow1 hrl
 go_region_law (refine step_copy2 (P:=prog) rfl _ _ 28 28 rfl 76 Tryz.underlying28 infoP2 w.heap.size ((i+1)*2) (n+1-(i+1)) (G-(i+1)) ⟨g,i*2,none⟩ (n-i) (cap-i) (by simp [Act.eval,Act.put]) (by simp [Act.eval,Act.put]) row1 76 HB1.out.drew (eC (es.drop i)) HN2.out (HS2.out _ (fun _=>rfl)) HF2.out (eC_one _) ?_;intro w2 hB2 hG2;have HB2:=Hd hB2;have HG2:=Hd hG2;clear hB2 hG2)
 go_wp2;go_ret;have hb:=HGB.out.lt;refine ⟨_,rfl,ins_own (T:=row1.drop ((i+1)*2+(eC (es.drop i)).length)) HB2.out ?_ hb5 HL.out (by omega) hG1 HMX.out (by rw [length_splice _ _ _ HF2.out,HRL1.out]),?_⟩
 ·show row1.take ((i+1)*2)++(eC (es.drop i)++_)=_
  have e2:row1.take ((i+1)*2)=eC (es.take i)++[.string x,.string p]:=by
   rw [HR1.out,splice,HRT.out,←List.append_assoc];have hel:(eC (es.take i)).length=i*2:=by rw [Xq];have:=HL.out;simp;omega
   exact List.take_left' (by rw [List.length_append,hel];simp;omega)
  rw [e2,List.append_assoc]
 ·have hs1:w.heap.size+1≤w1.heap.size:=by have:=HG1.out.size;simpa using this
  refine ⟨HG2.out.os.trans (HG1.out.os.trans HGR0.out.os),HG2.out.tape.trans (HG1.out.tape.trans HGR0.out.tape),HG2.out.output.trans (HG1.out.output.trans HGR0.out.output),by have:=HG2.out.size;simp at this;omega,fun k hk _=>?_⟩;have hne:some k≠some w.heap.size:=by simp;omega
  exact (HG2.out.block k (by show k<w1.heap.size;omega) hne).trans ((HG1.out.block k (by simp;omega) hne).trans (HGR0.out.block k hk (by simp)))
theorem ins_all (base g n cap i vb:Nat) (iv:Int) (es:List Pr) (x:ByteArray) (p:ByteArray) (w:World) (hown:w.ownsRow base 76 2 (.slice (some ⟨g,0,none⟩) n cap) n (eC es)) (hv:Blk w vb 76 #[.string x,.string p]) (hvg:vb≠g)
  (hi:i<n) (hn:n≤1100) (hiv:iv=(i:Int)):
  Calls prog 159 #[.slice (some ⟨g,0,none⟩) n cap,.int .i64 iv,.slice (some ⟨vb,0,none⟩) 1 1] w fun e w' => ∃ A c,e = .returned (.slice A (n+1) c)∧w'.ownsRow base 76 2 (.slice A (n+1) c) (n+1) (eC (Iv es i x p))∧w.grownBy w' (some g):=by
 subst hiv;by_cases hc:n+1≤cap
 ·refine (ins_room base g n cap i vb es x p w hown hv hvg hi hn hc).mono ?_
  rintro e w' ⟨v,rfl,h1,h2⟩;obtain ⟨A,c,rfl,_⟩:=Ub h1;exact ⟨A,c,rfl,h1,h2⟩
 ·refine (ins_grow base g n cap i vb es x p w hown hv hi hn (by omega)).mono ?_
  rintro e w' ⟨v,rfl,h1,h2⟩;obtain ⟨A,c,rfl,_⟩:=Ub h1;exact ⟨A,c,rfl,h1,⟨h2.os,h2.tape,h2.output,h2.size,fun k hk _=>h2.block k hk (by simp)⟩⟩
end
section
set_option maxRecDepth 100000
set_option maxHeartbeats 1000000
open Go.RowKit
section
variable {P:Program} {w:World}
theorem wp_app_run {o:Oper} {a:Act} {K:Act→World→Prop} {Q:Exit→Act→World→Prop} (s x:Operand) (t:TypeId)
  (ho:o.op = .call { callee:=.builtin .append,args:=#[s,x],argTypes:=#[t,t] }) (v u r:Value) (w':World) (hs:a.eval s=v) (hx:a.eval x=u)
  (hrun:(Builtin.append_ #[t,t] o.type #[v,u]).run P w = .ok r w') (h:K (a.put o.dst r) w'):o.wp P a w K Q:=by
 unfold Oper.wp execOp;simp only [ho,resolve,invoke,builtin,Sem.run_bind,Sem.run_pure,Result.andThen_ok,List.map_toArray,List.map_cons,List.map_nil,hs,hx,hrun];exact h
theorem Jl {ops:Array Oper} {o:Oper} {a:Act} {K:Act→World→Prop} {Q:Exit→Act→World→Prop} {E:Prop} (hgd:o.guard=none) (s x:Operand) (t:TypeId)
  (ho:o.op = .call { callee:=.builtin .append,args:=#[s,x],argTypes:=#[t,t] }) (v u r:Value) (w':World) (hs:a.eval s=v) (hx:a.eval x=u)
  (hrun:(Builtin.append_ #[t,t] o.type #[v,u]).run P w = .ok r w') (h:K (a.put o.dst r) w'):if Region.wanted o (yielded ops a.tmps)=true then Oper.wp P o a w K Q else E:=by
 have hw:Region.wanted o (yielded ops a.tmps)=true:=by simp [Region.wanted,hgd]
 rw [if_pos hw];exact wp_app_run s x t ho v u r w' hs hx hrun h
end
theorem Z2 {w:World} {base g n cap:Nat} {xs:List Value} {t:TypeId} (h:w.ownsRow base t 2 (.slice (some ⟨g,0,none⟩) n cap) n xs):
  ∃ cur:Array Value,base≤g∧Blk w g t cur∧n≤cap∧cap≤maxLen∧cur.size=cap*2∧cur.toList.take (n*2)=xs:=by
 rcases h.2 with ⟨e0,_⟩|⟨g',cap',cur,e0,hb,hg,hn,hm,hsz,ht⟩
 ·cases e0
 ·injection e0 with e1 _ e3
  injection e1 with e1
  injection e1 with e1
  subst e1;subst e3;exact ⟨cur,hb,hg,hn,hm,hsz,ht⟩
theorem own_mk {w:World} {base g n cap:Nat} {xs:List Value} {t:TypeId} {cur:Array Value} (hl:xs.length=n*2) (hb:base≤g) (hg:Blk w g t cur) (hn:n≤cap) (hm:cap≤maxLen) (hsz:cur.size=cap*2) (ht:cur.toList.take (n*2)=xs):w.ownsRow base t 2 (.slice (some ⟨g,0,none⟩) n cap) n xs:=
 ⟨hl,.inr ⟨g,cap,cur,rfl,hb,hg,hn,hm,hsz,ht⟩⟩
theorem blk_set2 {w:World} {g o:Nat} {t:TypeId} {cs:Array Value} (h:Blk w g t cs) (a b:Value):Blk (w.setCells g o [a,b]) g t ((cs.setIfInBounds o a).setIfInBounds (o+1) b):=(h.set o a).set (o+1) b
theorem far_set2 {w:World} {g o:Nat} (a b:Value):w.grownBy (w.setCells g o [a,b]) (some g):=
 ⟨rfl,rfl,rfl,by simp [World.setCells,World.setCell],fun k _ hk=>by
  have hne:k≠g:=fun e=>hk (by rw [e])
  exact (Below.heap_setCell _ ⟨g,o+1,none⟩ b k hne).trans (Below.heap_setCell w ⟨g,o,none⟩ a k hne)⟩
theorem take_set2 {α:Type} (l:List α) (i:Nat) (a b:α) (m:Nat) (h:m≤i):((l.set i a).set (i+1) b).take m=l.take m:=by
 rw [List.take_set_of_le (by omega),List.take_set_of_le h]
theorem eC_set2:∀ (l:List Pr) (i:Nat) (x:Pr),i<l.length→((eC l).set (i*2) (.string x.key)).set (i*2+1) (.string x.rcd)=eC (l.set i x)
 | [],_,_,h=>absurd h (by simp)
 |y::l,0,x,_=>rfl
 |y::l,i+1,x,h=>by
  have ih:=eC_set2 l i x (by simpa using h);rw [eC_cons,Sw,eC_cons,←ih];rw [show (i+1)*2=i*2+1+1 from by omega];rfl
theorem own_put {w:World} {base g n cap:Nat} {l:List Pr} (h:w.ownsRow base 76 2 (.slice (some ⟨g,0,none⟩) n cap) n (eC l)) (i:Nat) (x:Pr) (hi:i<n):
  (w.setCells g (i*2) [.string x.key,.string x.rcd]).ownsRow base 76 2 (.slice (some ⟨g,0,none⟩) n cap) n (eC (l.set i x)):=by
 obtain ⟨cur,hb,hg,hn,hm,hsz,ht⟩:=Z2 h;have hl:l.length=n:=by have:=h.1;rw [Xq] at this;omega
 refine own_mk (by rw [Xq,List.length_set,hl]) hb (blk_set2 hg _ _) hn hm (by simpa using hsz) ?_;rw [←eC_set2 l i x (by omega),←ht];simp only [Array.toList_setIfInBounds];rw [List.take_set,List.take_set]
theorem Kl {w:World} {base g n cap:Nat} {l:List Pr} (h:w.ownsRow base 76 2 (.slice (some ⟨g,0,none⟩) n cap) n (eC l)) (i:Nat) (hi:i<cap):w.there g (i*2) 2:=by
 obtain ⟨cur,hb,hg,hn,hm,hsz,ht⟩:=Z2 h;intro j hj;refine ⟨?_,hg.free _⟩;rw [hg.cell,Array.getElem?_eq_getElem (by omega)];rfl
theorem Jq (w:World) (ty:TypeId) (b o c:Nat) (ht:w.there b o 2):
  (Builtin.clear_ #[28] ty #[.slice (some ⟨b,o,none⟩) 1 c]).run prog w = .ok (.tuple #[]) (w.setCells b o [.string ⟨#[]⟩,.string ⟨#[]⟩]):=by
 obtain ⟨i0,hi0,hz0,hz1,hz2⟩:=info_parts Xe;have hzc:(Builtin.zeroCells (Value.cells (.agg #[.string ⟨#[]⟩,.string ⟨#[]⟩])) 1).toList = [.string ⟨#[]⟩,.string ⟨#[]⟩]:=by first|kernel_rfl|(simp [Builtin.zeroCells,Value.cells];done)
 have hst:=run_storeCells_cells (P:=prog) b o [.string ⟨#[]⟩,.string ⟨#[]⟩] 0 w (fun j hj=>(ht j hj).1) (fun j hj=>(ht j hj).2) (pr_one _ _);simp only [Nat.add_zero] at hst;simp [Builtin.clear_,run_underlying Tryz.underlying28,zeroValue,typeInfo,hi0,hz0,hzc,hst]
theorem own_pre {w:World} {base g n cap:Nat} {l:List Pr} (h:w.ownsRow base 76 2 (.slice (some ⟨g,0,none⟩) n cap) n (eC l)) (i:Nat) (hi:i≤n):w.ownsRow base 76 2 (.slice (some ⟨g,0,none⟩) i cap) i (eC (l.take i)):=by
 obtain ⟨cur,hb,hg,hn,hm,hsz,ht⟩:=Z2 h;have hl:l.length=n:=by have:=h.1;rw [Xq] at this;omega
 refine own_mk (by rw [Xq,List.length_take];omega) hb hg (by omega) hm hsz ?_;rw [←eC_take,←ht,List.take_take,Nat.min_eq_left (by omega)]
theorem own_clr {w:World} {base g n cap:Nat} {l:List Pr} (h:w.ownsRow base 76 2 (.slice (some ⟨g,0,none⟩) n cap) n (eC l)) (i:Nat) (hi:n≤i) (a b:Value):(w.setCells g (i*2) [a,b]).ownsRow base 76 2 (.slice (some ⟨g,0,none⟩) n cap) n (eC l):=by
 obtain ⟨cur,hb,hg,hn,hm,hsz,ht⟩:=Z2 h;refine own_mk h.1 hb (blk_set2 hg _ _) hn hm (by simpa using hsz) ?_;simp only [Array.toList_setIfInBounds];rw [take_set2 _ _ _ _ _ (by omega),ht]
theorem delete_own (base g n cap i:Nat) (l:List Pr) (w:World) (hown:w.ownsRow base 76 2 (.slice (some ⟨g,0,none⟩) n cap) n (eC l)) (hi:i<n) (hn:n≤1100):
  Calls prog 162 #[.slice (some ⟨g,0,none⟩) n cap,.int .i64 i,.int .i64 ((i:Int)+1)] w fun e w'=>e = .returned (.slice (some ⟨g,0,none⟩) (n-1) cap)∧w'.ownsRow base 76 2 (.slice (some ⟨g,0,none⟩) (n-1) cap) (n-1) (eC (l.eraseIdx i))∧w.grownBy w' (some g):=by
 obtain ⟨i0,hi0,hz0,hz1,hz2⟩:=info_parts Xe;have hl:l.length=n:=by have:=hown.1;rw [Xq] at this;omega
 obtain ⟨cur,hb,hg,hnc,hm,hsz,ht⟩:=Z2 hown;have hpre:=own_pre hown i (by omega)
 have hsrc:∀ (A:Addr) (j:Nat) (u:Value),(n=i+1∨A=⟨g,(i+1)*2,none⟩)→(eC (l.drop (i+1)))[j]? =some u→w.drew.cell? (A.add j)=some u:=by
  intro A j u hA hu;have hj:j<(eC (l.drop (i+1))).length:=(List.getElem?_eq_some_iff.1 hu).1;rw [Xq,List.length_drop] at hj;rcases hA with h|rfl
  ·omega
  ·rw [Iu,(hg.drew).cell]
   rw [←eC_drop,List.getElem?_drop,←ht,List.getElem?_take] at hu;split at hu
   ·simpa using hu
   ·cases hu
 have happ:∀ (A:Addr) (c:Nat),(n=i+1∨A=⟨g,(i+1)*2,none⟩)→∃ w',(∀ ty,(Builtin.append_ #[28,28] ty #[.slice (some ⟨g,0,none⟩) i cap,.slice (some A) (n-(i+1)) c]).run prog w.drew = .ok (.slice (some ⟨g,0,none⟩) (n-1) cap) w')∧w'.ownsRow base 76 2 (.slice (some ⟨g,0,none⟩) (n-1) cap) (n-1) (eC (l.eraseIdx i))∧w.drew.grownBy w' (some g):=by
  intro A c hA;have h:=fun ty=>run_append_fits (P:=prog) w.drew base 28 ty 76 i0 2 Tryz.underlying28 hi0 hz1 g i cap _ hpre.drew A (n-(i+1)) c (eC (l.drop (i+1))) (by rw [Xq,List.length_drop,hl]) (fun j u hu=>hsrc A j u hA hu) (eC_one _) (by omega)
  rw [show i+(n-(i+1))=n-1 from by omega,←F3,←List.eraseIdx_eq_take_drop_succ] at h;obtain ⟨w',h1,h2,h3⟩:=h 0;refine ⟨w',fun ty=>?_,h2,h3⟩;obtain ⟨w2,k1,_⟩:=h ty;have e:(Builtin.append_ #[28,28] ty #[.slice (some ⟨g,0,none⟩) i cap,.slice (some A) (n-(i+1)) c])=(Builtin.append_ #[28,28] 0 #[.slice (some ⟨g,0,none⟩) i cap,.slice (some A) (n-(i+1)) c]):=rfl;rw [e];exact h1
 have hcap:n≤cap:=hnc;have hml:=hm;unfold maxLen at hml;by_cases hc:cap=i+1
 ·subst hc
  obtain rfl:n=i+1:=by omega
  obtain ⟨w1,hrun,ho1,hg1⟩:=happ ⟨g,0,none⟩ 0 (.inl rfl);simp only [Nat.sub_self,Nat.add_sub_cancel] at hrun ho1;have hcl:∀ ty,(Builtin.clear_ #[28] ty #[.slice (some ⟨g,i*2,none⟩) 1 1]).run prog w1 = .ok (.tuple #[]) (w1.setCells g (i*2) [.string ⟨#[]⟩,.string ⟨#[]⟩]):=fun ty=>Jq w1 ty g _ _ (Kl ho1 i (by omega))
  have HO:=Hd (own_clr ho1 i (Le _) (.string ⟨#[]⟩) (.string ⟨#[]⟩));have HG:=Hd (grown2 (Je hg1) (far_set2 (o:=i*2) (.string ⟨#[]⟩) (.string ⟨#[]⟩)));have HRUN:=Hd hrun;have HCL:=Hd hcl;rw [Nat.add_sub_cancel];clear hown hl hg hpre hsrc happ ht hsz ho1 hg1 hrun hcl;go_enter Tryz.func162,Tryz.ntmps162;go_wp2;refine Rw (S:=fun _=>True) (by kernel_rfl) trivial (fun Hh=>?_);refine tk 0 (.slice (some ⟨g,0,none⟩) (i+1) (i+1)) Hh ?_;refine tk 1 (.int .i64 i) Hh ?_;refine tk 2 (.slice (some ⟨g,0,none⟩) i (i+1)) Hh ?_ (y:=by exact Or.inl ⟨by rfl,by intro w' hSw;(go_simp<;>(intro hbd;exfalso;omega))⟩);refine tk 3 (.slice (some ⟨g,0,none⟩) (i+1) (i+1)) Hh ?_;refine tk 4 (.int .i64 ((i:Int)+1)) Hh ?_;refine tk 5 (.slice (some ⟨g,0,none⟩) 0 0) Hh ?_ (y:=by exact Or.inl ⟨by rfl,by intro w' hSw;(go_simp<;>(intro hbd;exfalso;omega))⟩)
  refine Ar (rs:=[6]) (by kernel_rfl) (by simp) ?_;refine Rc (fun K hK=>?_) ?_
  ·refine Jl (by rfl) (.tmp 22) (.tmp 25) 28 (by rfl) _ _ _ _ (by rfl) (by rfl) (HRUN.out _) ?_
   refine hK.out _ _ trivial (fun Hh=>?_);clear hK K;try simp only [Act.put,Sv,Sz,Sw]
   refine tk 7 (.slice (some ⟨g,0,none⟩) i (i+1)) Hh ?_;refine Ad (by kernel_rfl) ?_ _;clear Hh;have hcl:=HCL.out;go_wp2;go_ret;exact ⟨rfl,HO.out,HG.out⟩
  exact An
 ·obtain ⟨w1,hrun,ho1,hg1⟩:=happ ⟨g,(i+1)*2,none⟩ (cap-(i+1)) (.inr rfl)
  have hcl:∀ ty,(Builtin.clear_ #[28] ty #[.slice (some ⟨g,(n-1)*2,none⟩) (n-(n-1)) (cap-(n-1))]).run prog w1 = .ok (.tuple #[]) (w1.setCells g ((n-1)*2) [.string ⟨#[]⟩,.string ⟨#[]⟩]):=fun ty=>by rw [show n-(n-1)=1 from by omega];exact Jq w1 ty g _ _ (Kl ho1 (n-1) (by omega))
  have HO:=Hd (own_clr ho1 (n-1) (Le _) (.string ⟨#[]⟩) (.string ⟨#[]⟩));have HG:=Hd (grown2 (Je hg1) (far_set2 (o:=(n-1)*2) (.string ⟨#[]⟩) (.string ⟨#[]⟩)));have HRUN:=Hd hrun;have HCL:=Hd hcl;clear hown hl hg hpre hsrc happ ht hsz ho1 hg1 hrun hcl;go_enter Tryz.func162,Tryz.ntmps162;go_wp2;refine Rw (S:=fun _=>True) (by kernel_rfl) trivial (fun Hh=>?_);refine tk 0 (.slice (some ⟨g,0,none⟩) n cap) Hh ?_;refine tk 1 (.int .i64 i) Hh ?_;refine tk 2 (.slice (some ⟨g,0,none⟩) i cap) Hh ?_ (y:=by exact Or.inl ⟨by rfl,by intro w' hSw;(go_simp<;>(intro hbd;exfalso;omega))⟩);refine tk 3 (.slice (some ⟨g,0,none⟩) n cap) Hh ?_;refine tk 4 (.int .i64 ((i:Int)+1)) Hh ?_;refine tk 5 (.slice (some ⟨g,(i+1)*2,none⟩) (n-(i+1)) (cap-(i+1))) Hh ?_ (y:=by exact Or.inl ⟨by rfl,by intro w' hSw;(go_simp<;>(intro hbd;exfalso;omega))⟩)
  refine Ar (rs:=[6]) (by kernel_rfl) (by simp) ?_;refine Rc (fun K hK=>?_) ?_
  ·refine Jl (by rfl) (.tmp 22) (.tmp 25) 28 (by rfl) _ _ _ _ (by rfl) (by rfl) (HRUN.out _) ?_
   refine hK.out _ _ trivial (fun Hh=>?_);clear hK K;try simp only [Act.put,Sv,Sz,Sw]
   refine tk 7 (.slice (some ⟨g,0,none⟩) (n-1) cap) Hh ?_;refine Ad (by kernel_rfl) ?_ _;clear Hh;have hcl:=HCL.out;go_wp2;go_ret;exact ⟨rfl,HO.out,HG.out⟩
  exact An
theorem ins_tail (base vb:Nat) (A:Option Addr) (n c:Nat) (l:List Pr) (x p:ByteArray) (w:World) (hown:w.ownsRow base 76 2 (.slice A n c) n (eC l)) (hv:Blk w vb 76 #[.string x,.string p]) (hn:n≤1100) (hB:base≤w.heap.size):
  Calls prog 159 #[.slice A n c,.int .i64 n,.slice (some ⟨vb,0,none⟩) 1 1] w fun e w' => ∃ A' c',e = .returned (.slice A' (n+1) c')∧w'.ownsRow base 76 2 (.slice A' (n+1) c') (n+1) (eC (l++[⟨x,p⟩]))∧w.grownBy w' (Value.slice A n c).ownBlock:=by
 obtain ⟨i0,hi0,hz0,hz1,hz2⟩:=info_parts Xe;have HR:Hid (Rd w w.heap.size 2 (some ⟨vb,0,none⟩) 1 [.string x,.string p]):=Hd ⟨rfl,fun _=>⟨vb,0,rfl,hv.lt,fun j u hu=>by rw [Nat.zero_add,hv.cell,Ga];exact hu⟩⟩;have H1:=Hd (pr_one x p);have HO:=Hd hown;obtain ⟨A1,c1,e1,hnc,hcm⟩:=Ub hown;injection e1 with e0 _ e1
 subst e1;subst e0;have HN:=Hd hn;have HBB:=Hd hB;unfold maxLen at hcm;clear hown hv
 have fin:∀ v' w',w'.ownsRow base 76 2 v' (n+1) (eC l++[.string x,.string p])→w.grownBy w' (Value.slice A n c).ownBlock→∃ A' c',Ending.returned v' = .returned (.slice A' (n+1) c')∧w'.ownsRow base 76 2 (.slice A' (n+1) c') (n+1) (eC (l++[⟨x,p⟩]))∧w.grownBy w' (Value.slice A n c).ownBlock:=by
  intro v' w' h1 h2;obtain ⟨A',c',rfl,_⟩:=Ub h1;refine ⟨A',c',rfl,?_,h2⟩;rw [F3];exact h1
 have FIN:=Hd fin;clear fin;by_cases hc:c=n
 ·subst hc
  go_enter Tryz.func159,Tryz.ntmps159;go_wp2_with (at_builtin;go_must (refine U4 _ rfl _ _ 28 rfl base 76 i0 _ 2 32 Tryz.underlying28 hi0 hz0 hz1 hz2 rfl (by decide) _ _ (eC l) rfl HO.out w.heap.size (some ⟨vb,0,none⟩) 1 1 [.string x,.string p] rfl HR.out H1.out (by have:=HN.out;unfold maxLen;omega) (by have:=HN.out;omega) HBB.out ?_;intro v' w' hown hgr _;have HOWN:=Hd hown;have HGR:=Hd hgr;clear hown hgr));go_ret;exact FIN.out _ _ HOWN.out HGR.out
 ·go_enter Tryz.func159,Tryz.ntmps159
  go_wp2_with (at_builtin;go_must (refine U4 _ rfl _ _ 28 rfl base 76 i0 _ 2 32 Tryz.underlying28 hi0 hz0 hz1 hz2 rfl (by decide) _ _ (eC l) rfl HO.out w.heap.size (some ⟨vb,0,none⟩) 1 1 [.string x,.string p] rfl HR.out H1.out (by have:=HN.out;unfold maxLen;omega) (by have:=HN.out;omega) HBB.out ?_;intro v' w' hown hgr _;have HOWN:=Hd hown;have HGR:=Hd hgr;clear hown hgr));go_ret;exact FIN.out _ _ HOWN.out HGR.out
theorem insE_end (l:List Pr) (x p:ByteArray):Iv l l.length x p=l++[⟨x,p⟩]:=by
 unfold Iv;rw [List.take_length,List.drop_length]
theorem grown_own {w w':World} {A:Option Addr} {n c base:Nat} {xs:List Value} {t:TypeId} (h:w.ownsRow base t 2 (.slice A n c) n xs) (hg:w.grownBy w' (Value.slice A n c).ownBlock) (hB:base≤w.heap.size):Below base w w':=
 (Bf base w).grown hg hB (Vv h (Le _))
theorem insert_g (base vb:Nat) (A:Option Addr) (n c i:Nat) (l:List Pr) (x p:ByteArray) (w:World) (hown:w.ownsRow base 76 2 (.slice A n c) n (eC l)) (hv:Blk w vb 76 #[.string x,.string p]) (hvg:∀ a,A=some a→vb≠a.block) (hi:i≤n) (hn:n≤1100) (hB:base≤w.heap.size):
  Calls prog 159 #[.slice A n c,.int .i64 i,.slice (some ⟨vb,0,none⟩) 1 1] w fun e w' => ∃ A' c',e = .returned (.slice A' (n+1) c')∧w'.ownsRow base 76 2 (.slice A' (n+1) c') (n+1) (eC (Iv l i x p))∧Below base w w':=by
 have hl:l.length=n:=by have:=hown.1;rw [Xq] at this;omega
 by_cases h:i=n
 ·subst h
  refine (ins_tail base vb A i c l x p w hown hv hn hB).mono ?_;rintro e w' ⟨A',c',rfl,h1,h2⟩;refine ⟨A',c',rfl,?_,grown_own hown h2 hB⟩;rw [←hl,insE_end,hl];exact h1
 ·obtain ⟨g,cap,hsv,hbg,hgl,hnc⟩:=Zg hown (by omega)
  injection hsv with e1 _ e2
  subst e1;subst e2;refine (ins_all base g n c i vb i l x p w hown hv (hvg _ rfl) (by omega) hn rfl).mono ?_;rintro e w' ⟨A',c',rfl,h1,h2⟩;exact ⟨A',c',rfl,h1,grown_own hown (by simpa [Value.ownBlock] using h2) hB⟩
end
end Go.Proofs.YtapanepkfbamhaaGreatDoor
