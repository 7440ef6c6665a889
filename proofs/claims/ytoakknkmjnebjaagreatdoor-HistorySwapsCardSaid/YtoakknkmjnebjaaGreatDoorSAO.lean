/- Of HistorySwaps. -/
import Derived.Test.YtoakknkmjnebjaaGreatDoorSAH
import Derived.Lib.Overlaps
import Derived.Lib.AppendZerosOnto
import Derived.Laws.CopyOwn
namespace Go.Proofs.YtoakknkmjnebjaaGreatDoor
open Tryz (prog)
set_option maxRecDepth 100000
set_option maxHeartbeats 2000000
open Go.RowKit
def eC (es:List Pr):List Value:=Ub prC es
theorem Xs (es:List Pr):(eC es).length=es.length*2:=Vi Hc es
theorem eC_take (es:List Pr) (i:Nat):(eC es).take (i*2)=eC (es.take i):=flat_take Hc es i
theorem eC_drop (es:List Pr) (i:Nat):(eC es).drop (i*2)=eC (es.drop i):=Fz Hc es i
theorem G0 (a b:List Pr):eC (a++b)=eC a++eC b:=Vb a b
theorem eC_cons (x:Pr) (l:List Pr):eC (x::l) = [.string x.key,.string x.rcd]++eC l:=V8 x l
theorem eC_one (l:List Pr):∀ u∈eC l,u.oneCell'=true:=prC_one l
theorem pr_one (x p:Bz):∀ v∈([.string x,.string p]:List Value),v.oneCell'=true:=by
 intro v hv;simp at hv;rcases hv with rfl|rfl<;>rfl
theorem copy2_run {P:Program} (w:Wd) (dT sT ty elem:TypeId) (g o dLen dCap:Nat) (a:Addr) (sLen sCap:Nat) (cur:List Value) (t:TypeId) (cs:List Value)
  (hu:P.underlying dT=some (.slice elem)) (hs:(P.info? elem).map (·.size)=some 2) (hg:Blk w g t cur.toArray) (hn:cs.length=Nat.min sLen dLen*2)
  (gI:∀ j v,cs[j]? =some v→w.cell? (a.add j)=some v) (hfit:o+cs.length≤cur.length) (h1:∀ v∈cs,v.oneCell'=true):
  ∃ w',(Builtin.copy_ #[dT,sT] ty #[.slice (some ⟨g,o,none⟩) dLen dCap,.slice (some a) sLen sCap]).run P w = .ok (goInt (Nat.min sLen dLen)) w'∧Blk w' g t (splice cur o cs).toArray∧w.grownBy w' (some g):=by
 refine ⟨w.setRow g (splice cur o cs).toArray,?_,setRow_heap w g _ _ t (0,0) hg,⟨rfl,rfl,rfl,by simp,fun k _ hk=>setRow_other w g k _ (fun e=>hk (by rw [e]))⟩⟩;have hl:=run_loadCells_list (P:=P) w a cs gI;have hst:=run_storeCells_at P g o t cs 0 cur.toArray w hg (by simpa using hfit) h1;cases hq:P.info? elem with
 |none=>simp [hq] at hs
 |some i=>
  have hi:i.size=2:=by simpa [hq] using hs
  simp [Builtin.copy_,run_underlying hu,Builtin.lenOf,Builtin.firstCells,sizeOf,typeInfo,hq,hi,←hn,hl,hst,splice]
theorem Ki {P:Program} {w:Wd} {ops:Array Oper} {rest:List Oper} {o:Oper} {a:Act} {Q:Exit→Act→Wd→Prop} (hgd:o.guard=none) (d s:Operand) (dT sT:TypeId)
  (ho:o.op = .call { callee:=.builtin .copy,args:=#[d,s],argTypes:=#[dT,sT] }) (elem:TypeId) (hu:P.underlying dT=some (.slice elem)) (aN:(P.info? elem).map (·.size)=some 2)
  (g off dLen dCap:Nat) (ad:Addr) (sLen sCap:Nat) (hd:a.eval d = .slice (some ⟨g,off,none⟩) dLen dCap) (hs:a.eval s = .slice (some ad) sLen sCap)
  (cur:List Value) (t:TypeId) (hg:Blk w g t cur.toArray) (cs:List Value) (hn:cs.length=Nat.min sLen dLen*2)
  (gI:∀ j v,cs[j]? =some v→w.cell? (ad.add j)=some v) (hfit:off+cs.length≤cur.length) (h1:∀ v∈cs,v.oneCell'=true)
  (h:∀ w',Blk w' g t (splice cur off cs).toArray→w.grownBy w' (some g)→wpList P ops Q rest (a.put o.dst (goInt (Nat.min sLen dLen))) w'):wpList P ops Q (o::rest) a w:=by
 refine wpList_plain hgd fun K hK=>?_
 obtain ⟨w',bM,hb,aO⟩:=copy2_run w dT sT o.type elem g off dLen dCap ad sLen sCap cur t cs hu aN hg hn gI hfit h1;unfold Oper.wp;simp only [execOp,ho,resolve,invoke,builtin,Sem.run_bind,Sem.run_pure,Result.andThen_ok,List.map_toArray,List.map_cons,List.map_nil,hd,hs,bM];exact hK _ _ (h w' hb aO)
theorem step_copy2 {P:Program} {ops:Array Oper} {o:Oper} {a:Act} {w:Wd} {K:Act→Wd→Prop} {Q:Exit→Act→Wd→Prop} {E:Prop} (hgd:o.guard=none) (d s:Operand) (dT sT:TypeId)
  (ho:o.op = .call { callee:=.builtin .copy,args:=#[d,s],argTypes:=#[dT,sT] }) (elem:TypeId) (hu:P.underlying dT=some (.slice elem)) (aN:(P.info? elem).map (·.size)=some 2)
  (g off dLen dCap:Nat) (ad:Addr) (sLen sCap:Nat) (hd:a.eval d = .slice (some ⟨g,off,none⟩) dLen dCap) (hs:a.eval s = .slice (some ad) sLen sCap)
  (cur:List Value) (t:TypeId) (hg:Blk w g t cur.toArray) (cs:List Value) (hn:cs.length=Nat.min sLen dLen*2)
  (gI:∀ j v,cs[j]? =some v→w.cell? (ad.add j)=some v) (hfit:off+cs.length≤cur.length) (h1:∀ v∈cs,v.oneCell'=true)
  (h:∀ w',Blk w' g t (splice cur off cs).toArray→w.grownBy w' (some g)→K (a.put o.dst (goInt (Nat.min sLen dLen))) w'):
  if Region.wanted o (yielded ops a.tmps)=true then Oper.wp P o a w K Q else E:=by
 obtain ⟨w',bM,hb,aO⟩:=copy2_run w dT sT o.type elem g off dLen dCap ad sLen sCap cur t cs hu aN hg hn gI hfit h1;have hw:Region.wanted o (yielded ops a.tmps)=true:=by simp [Region.wanted,hgd]
 rw [if_pos hw];unfold Oper.wp;simp only [execOp,ho,resolve,invoke,builtin,Sem.run_bind,Sem.run_pure,Result.andThen_ok,List.map_toArray,List.map_cons,List.map_nil,hd,hs,bM];exact h w' hb aO
def Ik (es:List Pr) (i:Nat) (x:Bz) (p:Bz):List Pr:=es.take i ++ ⟨x,p⟩::es.drop i
theorem insE_len {es:List Pr} {i:Nat} (h:i≤es.length) (x:Bz) (p:Bz):(Ik es i x p).length=es.length+1:=by
 unfold Ik;simp;omega
theorem ins_own {W:Wd} {base g cap i n:Nat} {es:List Pr} {x:Bz} {p:Bz} {row:List Value} {T:List Value} (hb:Blk W g 76 row.toArray) (hr:row=eC (es.take i)++([.string x,.string p]++(eC (es.drop i)++T)))
  (hi:i≤n) (hl:es.length=n) (cR:base≤g) (hc:n+1≤cap) (hm:cap≤maxLen) (hz:row.length=cap*2):W.ownsRow base 76 2 (.slice (some ⟨g,0,none⟩) (n+1) cap) (n+1) (eC (Ik es i x p)):=by
 have e:row=eC (Ik es i x p)++T:=by rw [hr,Ik,G0,eC_cons];simp
 have hll:(eC (Ik es i x p)).length=(n+1)*2:=by rw [Xs,insE_len (by omega),hl]
 exact ⟨hll,.inr ⟨g,cap,row.toArray,rfl,cR,hb,hc,hm,by simpa using hz,by
  show row.take _=_;rw [e,List.take_left' hll]⟩⟩
theorem infoP2:(prog.info? 76).map (·.size)=some 2:=by
 obtain ⟨i0,aU,aW,aK,aR⟩:=info_parts Xe;rw [aU];simp [aK]
theorem Jj (b o j:Nat):(⟨b,o,none⟩:Addr).add j=⟨b,o+j,none⟩:=by unfold Addr.add;split<;>simp_all
theorem grown2 {w w1 w2:Wd} {r:Option Nat} (h:w.grownBy w1 r) (k:w1.grownBy w2 r):w.grownBy w2 r:=
 ⟨k.os.trans h.os,k.tape.trans h.tape,k.output.trans h.output,Lx h.size k.size,fun b hb hr=>(k.block b (Nat.lt_of_lt_of_le hb h.size) hr).trans (h.block b hb hr)⟩
theorem Ka {w w1:Wd} {r:Option Nat} (h:w.drew.grownBy w1 r):w.grownBy w1 r:=⟨h.os,h.tape,h.output,h.size,h.block⟩
theorem sp_take {α:Type} (L:List α) (off:Nat) (cs:List α) {k:Nat} (h:k≤off) (hl:off≤L.length):(splice L off cs).take k=L.take k:=by
 unfold splice;rw [List.take_append_of_le_length (by rw [List.length_take];omega),List.take_take,Nat.min_eq_left h]
theorem sp_drop {α:Type} (L:List α) (off:Nat) (cs:List α) (hl:off≤L.length):(splice L off cs).drop off=cs++L.drop (off+cs.length):=by
 unfold splice;rw [List.drop_left' (by rw [List.length_take];omega)]
theorem ins_room (base g n cap i vb:Nat) (es:List Pr) (x:Bz) (p:Bz) (w:Wd) (aD:w.ownsRow base 76 2 (.slice (some ⟨g,0,none⟩) n cap) n (eC es)) (hv:Blk w vb 76 #[.string x,.string p]) (hvg:vb≠g)
  (hi:i<n) (hn:n≤1100) (hc:n+1≤cap):
  Calls prog 159 #[.slice (some ⟨g,0,none⟩) n cap,.int .i64 i,.slice (some ⟨vb,0,none⟩) 1 1] w fun e w' => ∃ v,e = .returned v∧w'.ownsRow base 76 2 v (n+1) (eC (Ik es i x p))∧w.grownBy w' (some g):=by
 have hl:es.length=n:=by have:=aD.1;rw [Xs] at this;omega
 obtain ⟨cur,cR,hg,hmax,cL,kS⟩:∃ cur:List Value,base≤g∧Blk w g 76 cur.toArray∧cap≤maxLen∧cur.length=cap*2∧cur.take (n*2)=eC es:=by
  rcases aD.2 with ⟨h,_⟩|⟨g',cap',cur,hv',hb,hh,h1,h2,h3,h4⟩
  ·cases h
  ·injection hv' with e1 e2 e3
   injection e1 with e1
   injection e1 with e1 _ _
   subst e1 e3;exact ⟨cur.toList,hb,hh,h2,by simpa using h3,h4⟩
 have hz:∀ w,(Go.sizeOf 76).run prog w = .ok 2 w:=fun w=>by
  obtain ⟨i0,aU,aW,aK,aR⟩:=info_parts Xe;simp [sizeOf,typeInfo,aU,aK]
 have hov:∀ lb cb,(callFunc 220 #[.slice (some ⟨vb,0,none⟩) 1 1,.slice (some ⟨g,(i+1)*2,none⟩) lb cb]).run prog w = .ok (.value (.bool false)) w:=fun lb cb=>by
  rw [run_callFunc_extern Tryz.func220 (by kernel_rfl) (by kernel_rfl) (by kernel_rfl) (e:=Extern.SlicesOverlaps.overlaps #[28,28] #[4]) (by kernel_rfl),
   Lib.run_overlaps_apart w 28 4 76 Tryz.underlying28 2 hz ⟨vb,0,none⟩ ⟨g,(i+1)*2,none⟩ 1 1 lb cb hvg 76 76 2 cur.length (by unfold Blk at hv;simp [World.shape?,hv]) (by unfold Blk at hg;simp [World.shape?,hg]) (by omega) (hv.free _) (hv.free _)]
  rfl
 have kE:(eC (es.drop i)).length=(n-i)*2:=by rw [Xs];simp;omega
 have iP:Nat.min (n+1-i) (n+1-(i+1))=n-i:=by simp only [Nat.min_def];split<;>omega
 have iL:Nat.min 1 (n+1-i)=1:=by simp only [Nat.min_def];split<;>omega
 have hsrc1:∀ W:Wd,(∀ a,W.cell? a=w.cell? a)→∀ (j:Nat) (v:Value),(eC (es.drop i))[j]? =some v→W.cell? ((⟨g,i*2,none⟩:Addr).add j)=some v:=by
  intro W hW j v hj;rw [Jj,hW,hg.cell];have e:(eC es)[i*2+j]? =some v:=by rw [←eC_drop,List.getElem?_drop] at hj;exact hj
  rw [←kS,List.getElem?_take] at e;split at e
  ·simpa using e
  ·cases e
 have hmax':=hmax;unfold maxLen at hmax';have H1:=Hd aD;have HG:=Hd hg;have HV:=Hd hv;have HT:=Hd kS;have HS:=Hd hsrc1;have HDL:=Hd kE;have HM1:=Hd iP;have jQ:=Hd iL;have HL:=Hd hl;have HC:=Hd cL;have HZ:=Hd hz;have kN:=Hd hmax;clear aD hg hv kS hsrc1 kE iP iL hl cL hz hmax;go_enter Tryz.func159,Tryz.ntmps159;go_wp2_with (simp only [hov]);have dN:IntKind.i64.wrap ((i:Int)+1)=(i:Int)+1:=by rw [IntKind.wrap_i64];omega
 have aJ:(0:Int)≤(i:Int)+1:=by omega
 have htn:((i:Int)+1).toNat=i+1:=by omega
 have aF:¬ (cap=i+1):=by omega
 have b7:(i:Int)≤(n:Int)+1:=by omega
 have hb4:¬ (cap=i):=by omega
 have dG:i≤n:=by omega
 go_region_law (refine step_copy2 (P:=prog) rfl _ _ 28 28 rfl 76 Tryz.underlying28 infoP2 g ((i+1)*2) (n+1-(i+1)) (cap-(i+1)) ⟨g,i*2,none⟩ (n+1-i) (cap-i) (by simp [Act.eval,Act.put]) (by simp [Act.eval,Act.put]) cur 76 (HG.out.drewN 1) (eC (es.drop i)) (by rw [HDL.out,HM1.out]) (HS.out _ (fun _=>rfl)) (by rw [HDL.out,HC.out];omega) (eC_one _) ?_;intro w1 hB1 hG1;have aQ:=Hd hB1;have fL:=Hd hG1;clear hB1 hG1)
 have hv1:Blk w1 vb 76 #[.string x,.string p]:=HV.out.drew.grown fL.out (by simpa using hvg)
 have hsrc2:∀ W:Wd,(∀ a,W.cell? a=w1.cell? a)→∀ (j:Nat) (v:Value),([.string x,.string p]:List Value)[j]? =some v→W.cell? ((⟨vb,0,none⟩:Addr).add j)=some v:=by
  intro W hW j v hj;rw [Jj,hW,hv1.cell];simpa using hj
 have bR:=Hd hsrc2;have h1c:∀ v∈([.string x,.string p]:List Value),v.oneCell'=true:=pr_one _ _
 have H1C:=Hd h1c;obtain ⟨row1,dH⟩:∃ r,r=splice cur ((i+1)*2) (eC (es.drop i)):=⟨_,rfl⟩
 have hrl:row1.length=cap*2:=by rw [dH,length_splice _ _ _ (by rw [HDL.out,HC.out];omega),HC.out]
 have jU:=Hd hrl;rw [←dH] at aQ;have gQ:=Hd dH;have jL:Hid (([.string x,.string p]:List Value).length=Nat.min 1 (n+1-i)*2):=Hd (jQ.out.symm▸rfl);have kI:Hid (i*2+([.string x,.string p]:List Value).length≤row1.length):=Hd (by rw [hrl,List.length_cons,List.length_cons,List.length_nil];omega);clear hv1 hsrc2 h1c hrl dH;go_wp2_with ((refine Ki (P:=prog) rfl _ _ 28 28 rfl 76 Tryz.underlying28 infoP2 g (i*2) (n+1-i) (cap-i) ⟨vb,0,none⟩ 1 1 rfl rfl row1 76 aQ.out [.string x,.string p] jL.out (bR.out _ (fun _=>rfl)) kI.out H1C.out ?_;intro w2 kY hG2;have aL:=Hd kY;have fP:=Hd hG2;clear kY hG2));go_ret;have e1:cur.take (i*2)=eC (es.take i):=by rw [←eC_take,←HT.out,List.take_take,Nat.min_eq_left (by omega)]
 refine ⟨_,rfl,ins_own (T:=cur.drop ((i+1)*2+(eC (es.drop i)).length)) aL.out ?_ (by omega) HL.out cR hc kN.out (by rw [length_splice _ _ _ kI.out,jU.out]),grown2 (Ka fL.out) fP.out⟩;show row1.take (i*2)++([.string x,.string p]++row1.drop (i*2+2))=_;rw [show i*2+2=(i+1)*2 from by omega,gQ.out,sp_take _ _ _ (by omega) (by rw [HC.out];omega),sp_drop _ _ _ (by rw [HC.out];omega),e1]
theorem ins_grow (base g n cap i vb:Nat) (es:List Pr) (x:Bz) (p:Bz) (w:Wd) (aD:w.ownsRow base 76 2 (.slice (some ⟨g,0,none⟩) n cap) n (eC es)) (hv:Blk w vb 76 #[.string x,.string p])
  (hi:i<n) (hn:n≤1100) (hc:cap<n+1):
  Calls prog 159 #[.slice (some ⟨g,0,none⟩) n cap,.int .i64 i,.slice (some ⟨vb,0,none⟩) 1 1] w fun e w' => ∃ v,e = .returned v∧w'.ownsRow base 76 2 v (n+1) (eC (Ik es i x p))∧w.grownBy w' none:=by
 have hl:es.length=n:=by have:=aD.1;rw [Xs] at this;omega
 obtain ⟨cur,cR,hg,i6,cL,kS⟩:∃ cur:List Value,base≤g∧Blk w g 76 cur.toArray∧n≤cap∧cur.length=cap*2∧cur.take (n*2)=eC es:=by
  rcases aD.2 with ⟨h,_⟩|⟨g',cap',cur,hv',hb,hh,h1,h2,h3,h4⟩
  ·cases h
  ·injection hv' with e1 e2 e3
   injection e1 with e1
   injection e1 with e1 _ _
   subst e1 e3;exact ⟨cur.toList,hb,hh,h1,by simpa using h3,h4⟩
 obtain ⟨i0,aU,aW,hzs,hzb⟩:=info_parts Xe;have e1:cur.take (i*2)=eC (es.take i):=by rw [←eC_take,←kS,List.take_take,Nat.min_eq_left (by omega)]
 have kW:(eC (es.take i)).length=i*2:=by rw [Xs];simp;omega
 have eS:(n:Int)+1-(i:Int)=((n+1-i:Nat):Int):=by omega
 have hik:i+(n+1-i)=n+1:=by omega
 have mB:(Builtin.firstCells i0.size i (.slice (some ⟨g,0,none⟩) i cap)).run prog w.drew = .ok (eC (es.take i)).toArray w.drew:=by
  rw [hzs]
  exact run_firstCells_some w.drew 2 i ⟨g,0,none⟩ i cap (eC (es.take i)) kW (fun j v hj=>by
   rw [Jj];show w.cell? _=_;rw [hg.cell];rw [←e1,List.getElem?_take] at hj;split at hj
   ·simpa using hj
   ·cases hj)
 have hrz:∃ G ROW,n+1≤G∧G≤maxLen∧ROW.length=G*2∧ROW.take (i*2)=eC (es.take i)∧∀ ty,(Builtin.append_ #[28,3] ty #[.slice (some ⟨g,0,none⟩) i cap,.int .i64 ((n:Int)+1-(i:Int))]).run prog w =
   .ok (.slice (some ⟨w.heap.size,0,none⟩) (n+1) G) (w.drew.alloc (.cells (List.toArray ROW) 76)):=by
  have h:=fun ty=>Lib.run_append_grow_zeros w 28 3 ty 76 i0 _ .i64 .i64 Tryz.underlying28 Tryz.underlying3 aU aW (some ⟨g,0,none⟩) i cap (eC (es.take i)) mB (n+1-i) (by omega) (by omega) (by omega) (by omega) (by rw [hzb];omega) (by rw [hzb,hik];exact growslice_fits hc (by omega))
  rw [hik] at h;have g1:=grownCap_ge w (n+1) cap 76;have g2:=grownCap_le_maxLen w (n+1) cap 76 (by unfold maxLen;omega);generalize grownCap w (n+1) cap 76=G at h g1 g2;refine ⟨G,((eC (es.take i)).toArray++Builtin.zeroCells (Value.agg #[.string ⟨#[]⟩,.string ⟨#[]⟩]).cells (n+1-i)++Builtin.zeroCells (Value.agg #[.string ⟨#[]⟩,.string ⟨#[]⟩]).cells (G-(n+1))).toList,g1,g2,?_,?_,fun ty=>?_⟩
  ·simp [Builtin.zeroCells,Value.cells,kW];omega
  ·simp only [Array.toList_append,List.append_assoc];rw [List.take_left' kW]
  ·rw [eS,h ty]
 obtain ⟨G,ROW,hG1,hG2,hRL,hRT,hrz⟩:=hrz;have kE:(eC (es.drop i)).length=(n-i)*2:=by rw [Xs];simp;omega
 have hgw:g≠w.heap.size:=Nat.ne_of_lt hg.lt;have hvw:vb≠w.heap.size:=Nat.ne_of_lt hv.lt;have iP:Nat.min (n-i) (n+1-(i+1))=n-i:=by simp only [Nat.min_def];split<;>omega
 have iL:Nat.min 1 (n+1-i)=1:=by simp only [Nat.min_def];split<;>omega
 have hmax':=hG2;unfold maxLen at hmax';have hB0:Blk (w.drew.alloc (.cells ROW.toArray 76)) w.heap.size 76 ROW.toArray:=Blk.new w.drew 76 _;have hv0:Blk (w.drew.alloc (.cells ROW.toArray 76)) vb 76 #[.string x,.string p]:=hv.drew.alloc _;have hg0:Blk (w.drew.alloc (.cells ROW.toArray 76)) g 76 cur.toArray:=hg.drew.alloc _;have hgr0:w.grownBy (w.drew.alloc (.cells ROW.toArray 76)) none:=⟨rfl,rfl,rfl,by simp,fun k hk _=>Below.heap_alloc w.drew _ k hk⟩
 have HN1:Hid (([.string x,.string p]:List Value).length=Nat.min 1 (n+1-i)*2):=Hd (iL.symm▸rfl);have HF1:Hid (i*2+([.string x,.string p]:List Value).length≤ROW.length):=Hd (by rw [hRL,List.length_cons,List.length_cons,List.length_nil];omega)
 have bK:Hid (∀ W:Wd,(∀ a,W.cell? a=(w.drew.alloc (.cells ROW.toArray 76)).cell? a)→∀ (j:Nat) (v:Value),([.string x,.string p]:List Value)[j]? =some v→W.cell? ((⟨vb,0,none⟩:Addr).add j)=some v):=Hd (by
  intro W hW j v hj;rw [Jj,hW,hv0.cell];simpa using hj)
 have H1C:Hid (∀ v∈([.string x,.string p]:List Value),v.oneCell'=true):=Hd (pr_one _ _);have eM:=Hd hB0;have HG0:=Hd hg0;have HGR0:=Hd hgr0;have HT:=Hd kS;have HE:=Hd e1;have HRT:=Hd hRT;have jU:=Hd hRL;have HDL:=Hd kE;have HM1:=Hd iP;have HL:=Hd hl;have HC:=Hd cL;have kN:=Hd hG2;have HGB:=Hd hg;clear aD hg hv kS kE iP iL hl cL hG2 hRT hRL hB0 hv0 hg0 hgr0 e1 mB kW hik eS aU aW hzs hzb i0;have dN:IntKind.i64.wrap ((i:Int)+1)=(i:Int)+1:=by rw [IntKind.wrap_i64];omega
 have aJ:(0:Int)≤(i:Int)+1:=by omega
 have htn:((i:Int)+1).toNat=i+1:=by omega
 have aF:¬ (G=i+1):=by omega
 have hb6:¬ (G=i):=by omega
 have b7:(i:Int)≤(n:Int):=by omega
 have hb4:¬ (cap=i):=by omega
 have dG:i≤n:=by omega
 go_enter Tryz.func159,Tryz.ntmps159
 go_wp2_with (first
  |(at_builtin;refine Lib.wpList_append_run _ rfl _ _ _ _ rfl _ _ rfl rfl _ _ (hrz _) ?_)
  |((refine Ki (P:=prog) rfl _ _ 28 28 rfl 76 Tryz.underlying28 infoP2 w.heap.size (i*2) (n+1-i) (G-i) ⟨vb,0,none⟩ 1 1 rfl rfl ROW 76 eM.out [.string x,.string p] HN1.out (bK.out _ (fun _=>rfl)) HF1.out H1C.out ?_;intro w1 hB1 hG1;have aQ:=Hd hB1;have fL:=Hd hG1;clear hB1 hG1)))
 have bR:Hid (∀ W:Wd,(∀ a,W.cell? a=w1.cell? a)→∀ (j:Nat) (v:Value),(eC (es.drop i))[j]? =some v→W.cell? ((⟨g,i*2,none⟩:Addr).add j)=some v):=Hd (by
  intro W hW j v hj;rw [Jj,hW,(HG0.out.grown fL.out (by simpa using hgw)).cell];have e:(eC es)[i*2+j]? =some v:=by rw [←eC_drop,List.getElem?_drop] at hj;exact hj
  rw [←HT.out,List.getElem?_take] at e;split at e
  ·simpa using e
  ·cases e)
 obtain ⟨row1,dH⟩:∃ r,r=splice ROW (i*2) [.string x,.string p]:=⟨_,rfl⟩
 have hrl:row1.length=G*2:=by rw [dH,length_splice _ _ _ HF1.out,jU.out]
 rw [←dH] at aQ;have gQ:=Hd dH;have HRL1:=Hd hrl;have jL:Hid ((eC (es.drop i)).length=Nat.min (n-i) (n+1-(i+1))*2):=Hd (by rw [HDL.out,HM1.out]);have kI:Hid ((i+1)*2+(eC (es.drop i)).length≤row1.length):=Hd (by rw [HDL.out,hrl];omega);clear dH hrl
 go_region_law (refine step_copy2 (P:=prog) rfl _ _ 28 28 rfl 76 Tryz.underlying28 infoP2 w.heap.size ((i+1)*2) (n+1-(i+1)) (G-(i+1)) ⟨g,i*2,none⟩ (n-i) (cap-i) (by simp [Act.eval,Act.put]) (by simp [Act.eval,Act.put]) row1 76 aQ.out.drew (eC (es.drop i)) jL.out (bR.out _ (fun _=>rfl)) kI.out (eC_one _) ?_;intro w2 kY hG2;have aL:=Hd kY;have fP:=Hd hG2;clear kY hG2)
 go_wp2;go_ret;have hb:=HGB.out.lt;refine ⟨_,rfl,ins_own (T:=row1.drop ((i+1)*2+(eC (es.drop i)).length)) aL.out ?_ dG HL.out (by omega) hG1 kN.out (by rw [length_splice _ _ _ kI.out,HRL1.out]),?_⟩
 ·show row1.take ((i+1)*2)++(eC (es.drop i)++_)=_
  have e2:row1.take ((i+1)*2)=eC (es.take i)++[.string x,.string p]:=by
   rw [gQ.out,splice,HRT.out,←List.append_assoc];have kW:(eC (es.take i)).length=i*2:=by rw [Xs];have:=HL.out;simp;omega
   exact List.take_left' (by rw [List.length_append,kW];simp;omega)
  rw [e2,List.append_assoc]
 ·have hs1:w.heap.size+1≤w1.heap.size:=by have:=fL.out.size;simpa using this
  refine ⟨fP.out.os.trans (fL.out.os.trans HGR0.out.os),fP.out.tape.trans (fL.out.tape.trans HGR0.out.tape),fP.out.output.trans (fL.out.output.trans HGR0.out.output),by have:=fP.out.size;simp at this;omega,fun k hk _=>?_⟩;have aZ:some k≠some w.heap.size:=by simp;omega
  exact (fP.out.block k (by show k<w1.heap.size;omega) aZ).trans ((fL.out.block k (by simp;omega) aZ).trans (HGR0.out.block k hk (by simp)))
theorem ins_all (base g n cap i vb:Nat) (iv:Int) (es:List Pr) (x:Bz) (p:Bz) (w:Wd) (aD:w.ownsRow base 76 2 (.slice (some ⟨g,0,none⟩) n cap) n (eC es)) (hv:Blk w vb 76 #[.string x,.string p]) (hvg:vb≠g)
  (hi:i<n) (hn:n≤1100) (hiv:iv=(i:Int)):
  Calls prog 159 #[.slice (some ⟨g,0,none⟩) n cap,.int .i64 iv,.slice (some ⟨vb,0,none⟩) 1 1] w fun e w' => ∃ A c,e = .returned (.slice A (n+1) c)∧w'.ownsRow base 76 2 (.slice A (n+1) c) (n+1) (eC (Ik es i x p))∧w.grownBy w' (some g):=by
 subst hiv;by_cases hc:n+1≤cap
 ·refine (ins_room base g n cap i vb es x p w aD hv hvg hi hn hc).mono ?_;rintro e w' ⟨v,rfl,h1,h2⟩;obtain ⟨A,c,rfl,_⟩:=Ue h1;exact ⟨A,c,rfl,h1,h2⟩
 ·refine (ins_grow base g n cap i vb es x p w aD hv hi hn (by omega)).mono ?_;rintro e w' ⟨v,rfl,h1,h2⟩;obtain ⟨A,c,rfl,_⟩:=Ue h1;exact ⟨A,c,rfl,h1,⟨h2.os,h2.tape,h2.output,h2.size,fun k hk _=>h2.block k hk (by simp)⟩⟩
section
section
variable {P:Program} {w:Wd}
theorem wp_app_run {o:Oper} {a:Act} {K:Act→Wd→Prop} {Q:Exit→Act→Wd→Prop} (s x:Operand) (t:TypeId)
  (ho:o.op = .call { callee:=.builtin .append,args:=#[s,x],argTypes:=#[t,t] }) (v u r:Value) (w':Wd) (hs:a.eval s=v) (hx:a.eval x=u)
  (bM:(Builtin.append_ #[t,t] o.type #[v,u]).run P w = .ok r w') (h:K (a.put o.dst r) w'):o.wp P a w K Q:=by
 unfold Oper.wp execOp;simp only [ho,resolve,invoke,builtin,Sem.run_bind,Sem.run_pure,Result.andThen_ok,List.map_toArray,List.map_cons,List.map_nil,hs,hx,bM];exact h
theorem Kj {ops:Array Oper} {o:Oper} {a:Act} {K:Act→Wd→Prop} {Q:Exit→Act→Wd→Prop} {E:Prop} (hgd:o.guard=none) (s x:Operand) (t:TypeId)
  (ho:o.op = .call { callee:=.builtin .append,args:=#[s,x],argTypes:=#[t,t] }) (v u r:Value) (w':Wd) (hs:a.eval s=v) (hx:a.eval x=u)
  (bM:(Builtin.append_ #[t,t] o.type #[v,u]).run P w = .ok r w') (h:K (a.put o.dst r) w'):if Region.wanted o (yielded ops a.tmps)=true then Oper.wp P o a w K Q else E:=by
 have hw:Region.wanted o (yielded ops a.tmps)=true:=by simp [Region.wanted,hgd]
 rw [if_pos hw];exact wp_app_run s x t ho v u r w' hs hx bM h
end
theorem Za {w:Wd} {base g n cap:Nat} {xs:List Value} {t:TypeId} (h:w.ownsRow base t 2 (.slice (some ⟨g,0,none⟩) n cap) n xs):
  ∃ cur:Array Value,base≤g∧Blk w g t cur∧n≤cap∧cap≤maxLen∧cur.size=cap*2∧cur.toList.take (n*2)=xs:=by
 rcases h.2 with ⟨e0,_⟩|⟨g',cap',cur,e0,hb,hg,hn,hm,aN,ht⟩
 ·cases e0
 ·injection e0 with e1 _ e3
  injection e1 with e1
  injection e1 with e1
  subst e1;subst e3;exact ⟨cur,hb,hg,hn,hm,aN,ht⟩
theorem own_mk {w:Wd} {base g n cap:Nat} {xs:List Value} {t:TypeId} {cur:Array Value} (hl:xs.length=n*2) (hb:base≤g) (hg:Blk w g t cur) (hn:n≤cap) (hm:cap≤maxLen) (aN:cur.size=cap*2) (ht:cur.toList.take (n*2)=xs):w.ownsRow base t 2 (.slice (some ⟨g,0,none⟩) n cap) n xs:=
 ⟨hl,.inr ⟨g,cap,cur,rfl,hb,hg,hn,hm,aN,ht⟩⟩
theorem blk_set2 {w:Wd} {g o:Nat} {t:TypeId} {cs:Array Value} (h:Blk w g t cs) (a b:Value):Blk (w.setCells g o [a,b]) g t ((cs.setIfInBounds o a).setIfInBounds (o+1) b):=(h.set o a).set (o+1) b
theorem far_set2 {w:Wd} {g o:Nat} (a b:Value):w.grownBy (w.setCells g o [a,b]) (some g):=
 ⟨rfl,rfl,rfl,by simp [World.setCells,World.setCell],fun k _ hk=>by
  have aZ:k≠g:=fun e=>hk (by rw [e])
  exact (Below.heap_setCell _ ⟨g,o+1,none⟩ b k aZ).trans (Below.heap_setCell w ⟨g,o,none⟩ a k aZ)⟩
theorem take_set2 {α:Type} (l:List α) (i:Nat) (a b:α) (m:Nat) (h:m≤i):((l.set i a).set (i+1) b).take m=l.take m:=by
 rw [List.take_set_of_le (by omega),List.take_set_of_le h]
theorem eC_set2:∀ (l:List Pr) (i:Nat) (x:Pr),i<l.length→((eC l).set (i*2) (.string x.key)).set (i*2+1) (.string x.rcd)=eC (l.set i x)
 | [],_,_,h=>absurd h (by simp)
 |y::l,0,x,_=>rfl
 |y::l,i+1,x,h=>by
  have ih:=eC_set2 l i x (by simpa using h);rw [eC_cons,Sw,eC_cons,←ih];rw [show (i+1)*2=i*2+1+1 from by omega];rfl
theorem own_put {w:Wd} {base g n cap:Nat} {l:List Pr} (h:w.ownsRow base 76 2 (.slice (some ⟨g,0,none⟩) n cap) n (eC l)) (i:Nat) (x:Pr) (hi:i<n):
  (w.setCells g (i*2) [.string x.key,.string x.rcd]).ownsRow base 76 2 (.slice (some ⟨g,0,none⟩) n cap) n (eC (l.set i x)):=by
 obtain ⟨cur,hb,hg,hn,hm,aN,ht⟩:=Za h;have hl:l.length=n:=by have:=h.1;rw [Xs] at this;omega
 refine own_mk (by rw [Xs,List.length_set,hl]) hb (blk_set2 hg _ _) hn hm (by simpa using aN) ?_;rw [←eC_set2 l i x (by omega),←ht];simp only [Array.toList_setIfInBounds];rw [List.take_set,List.take_set]
theorem Fg {w:Wd} {base g n cap:Nat} {l:List Pr} (h:w.ownsRow base 76 2 (.slice (some ⟨g,0,none⟩) n cap) n (eC l)) (i:Nat) (hi:i<cap):w.there g (i*2) 2:=by
 obtain ⟨cur,hb,hg,hn,hm,aN,ht⟩:=Za h;intro j hj;refine ⟨?_,hg.free _⟩;rw [hg.cell,Array.getElem?_eq_getElem (by omega)];rfl
theorem Kp (w:Wd) (ty:TypeId) (b o c:Nat) (ht:w.there b o 2):
  (Builtin.clear_ #[28] ty #[.slice (some ⟨b,o,none⟩) 1 c]).run prog w = .ok (.tuple #[]) (w.setCells b o [.string ⟨#[]⟩,.string ⟨#[]⟩]):=by
 obtain ⟨i0,aU,aW,aK,aR⟩:=info_parts Xe;have hzc:(Builtin.zeroCells (Value.cells (.agg #[.string ⟨#[]⟩,.string ⟨#[]⟩])) 1).toList = [.string ⟨#[]⟩,.string ⟨#[]⟩]:=by first|kernel_rfl|(simp [Builtin.zeroCells,Value.cells];done)
 have hst:=run_storeCells_cells (P:=prog) b o [.string ⟨#[]⟩,.string ⟨#[]⟩] 0 w (fun j hj=>(ht j hj).1) (fun j hj=>(ht j hj).2) (pr_one _ _);simp only [Nat.add_zero] at hst;simp [Builtin.clear_,run_underlying Tryz.underlying28,zeroValue,typeInfo,aU,aW,hzc,hst]
theorem own_pre {w:Wd} {base g n cap:Nat} {l:List Pr} (h:w.ownsRow base 76 2 (.slice (some ⟨g,0,none⟩) n cap) n (eC l)) (i:Nat) (hi:i≤n):w.ownsRow base 76 2 (.slice (some ⟨g,0,none⟩) i cap) i (eC (l.take i)):=by
 obtain ⟨cur,hb,hg,hn,hm,aN,ht⟩:=Za h;have hl:l.length=n:=by have:=h.1;rw [Xs] at this;omega
 refine own_mk (by rw [Xs,List.length_take];omega) hb hg (by omega) hm aN ?_;rw [←eC_take,←ht,List.take_take,Nat.min_eq_left (by omega)]
theorem own_clr {w:Wd} {base g n cap:Nat} {l:List Pr} (h:w.ownsRow base 76 2 (.slice (some ⟨g,0,none⟩) n cap) n (eC l)) (i:Nat) (hi:n≤i) (a b:Value):(w.setCells g (i*2) [a,b]).ownsRow base 76 2 (.slice (some ⟨g,0,none⟩) n cap) n (eC l):=by
 obtain ⟨cur,hb,hg,hn,hm,aN,ht⟩:=Za h;refine own_mk h.1 hb (blk_set2 hg _ _) hn hm (by simpa using aN) ?_;simp only [Array.toList_setIfInBounds];rw [take_set2 _ _ _ _ _ (by omega),ht]
theorem delete_own (base g n cap i:Nat) (l:List Pr) (w:Wd) (aD:w.ownsRow base 76 2 (.slice (some ⟨g,0,none⟩) n cap) n (eC l)) (hi:i<n) (hn:n≤1100):
  Calls prog 162 #[.slice (some ⟨g,0,none⟩) n cap,.int .i64 i,.int .i64 ((i:Int)+1)] w fun e w'=>e = .returned (.slice (some ⟨g,0,none⟩) (n-1) cap)∧w'.ownsRow base 76 2 (.slice (some ⟨g,0,none⟩) (n-1) cap) (n-1) (eC (l.eraseIdx i))∧w.grownBy w' (some g):=by
 obtain ⟨i0,aU,aW,aK,aR⟩:=info_parts Xe;have hl:l.length=n:=by have:=aD.1;rw [Xs] at this;omega
 obtain ⟨cur,hb,hg,i6,hm,aN,ht⟩:=Za aD;have hpre:=own_pre aD i (by omega)
 have gI:∀ (A:Addr) (j:Nat) (u:Value),(n=i+1∨A=⟨g,(i+1)*2,none⟩)→(eC (l.drop (i+1)))[j]? =some u→w.drew.cell? (A.add j)=some u:=by
  intro A j u hA hu;have hj:j<(eC (l.drop (i+1))).length:=(List.getElem?_eq_some_iff.1 hu).1;rw [Xs,List.length_drop] at hj;rcases hA with h|rfl
  ·omega
  ·rw [Jj,(hg.drew).cell];rw [←eC_drop,List.getElem?_drop,←ht,List.getElem?_take] at hu;split at hu
   ·simpa using hu
   ·cases hu
 have happ:∀ (A:Addr) (c:Nat),(n=i+1∨A=⟨g,(i+1)*2,none⟩)→∃ w',(∀ ty,(Builtin.append_ #[28,28] ty #[.slice (some ⟨g,0,none⟩) i cap,.slice (some A) (n-(i+1)) c]).run prog w.drew = .ok (.slice (some ⟨g,0,none⟩) (n-1) cap) w')∧w'.ownsRow base 76 2 (.slice (some ⟨g,0,none⟩) (n-1) cap) (n-1) (eC (l.eraseIdx i))∧w.drew.grownBy w' (some g):=by
  intro A c hA;have h:=fun ty=>run_append_fits (P:=prog) w.drew base 28 ty 76 i0 2 Tryz.underlying28 aU aK g i cap _ hpre.drew A (n-(i+1)) c (eC (l.drop (i+1))) (by rw [Xs,List.length_drop,hl]) (fun j u hu=>gI A j u hA hu) (eC_one _) (by omega)
  rw [show i+(n-(i+1))=n-1 from by omega,←G0,←List.eraseIdx_eq_take_drop_succ] at h;obtain ⟨w',h1,h2,h3⟩:=h 0;refine ⟨w',fun ty=>?_,h2,h3⟩;obtain ⟨w2,k1,_⟩:=h ty;have e:(Builtin.append_ #[28,28] ty #[.slice (some ⟨g,0,none⟩) i cap,.slice (some A) (n-(i+1)) c])=(Builtin.append_ #[28,28] 0 #[.slice (some ⟨g,0,none⟩) i cap,.slice (some A) (n-(i+1)) c]):=rfl;rw [e];exact h1
 have jJ:n≤cap:=i6;have hml:=hm;unfold maxLen at hml;by_cases hc:cap=i+1
 ·subst hc;obtain rfl:n=i+1:=by omega
  obtain ⟨w1,bM,dQ,hg1⟩:=happ ⟨g,0,none⟩ 0 (.inl rfl);simp only [Nat.sub_self,Nat.add_sub_cancel] at bM dQ;have hcl:∀ ty,(Builtin.clear_ #[28] ty #[.slice (some ⟨g,i*2,none⟩) 1 1]).run prog w1 = .ok (.tuple #[]) (w1.setCells g (i*2) [.string ⟨#[]⟩,.string ⟨#[]⟩]):=fun ty=>Kp w1 ty g _ _ (Fg dQ i (by omega))
  have HO:=Hd (own_clr dQ i (Le _) (.string ⟨#[]⟩) (.string ⟨#[]⟩));have HG:=Hd (grown2 (Ka hg1) (far_set2 (o:=i*2) (.string ⟨#[]⟩) (.string ⟨#[]⟩)));have HRUN:=Hd bM;have fG:=Hd hcl;rw [Nat.add_sub_cancel];clear aD hl hg hpre gI happ ht aN dQ hg1 bM hcl;go_enter Tryz.func162,Tryz.ntmps162;go_wp2;refine Rw (S:=fun _=>True) (by kernel_rfl) trivial (fun Hh=>?_);refine tk 0 (.slice (some ⟨g,0,none⟩) (i+1) (i+1)) Hh ?_;refine tk 1 (.int .i64 i) Hh ?_;refine tj 2 (.slice (some ⟨g,0,none⟩) i (i+1)) Hh ?_ (y:=by intro w' aH;(go_simp<;>(intro hbd;exfalso;omega)));refine tk 3 (.slice (some ⟨g,0,none⟩) (i+1) (i+1)) Hh ?_;refine tk 4 (.int .i64 ((i:Int)+1)) Hh ?_;refine tj 5 (.slice (some ⟨g,0,none⟩) 0 0) Hh ?_ (y:=by intro w' aH;(go_simp<;>(intro hbd;exfalso;omega)));refine Aq [6] ?_
  refine Rc (fun K hK=>?_) ?_
  ·refine Kj (by rfl) (.tmp 22) (.tmp 25) 28 (by rfl) _ _ _ _ (by rfl) (by rfl) (HRUN.out _) ?_;refine hK.out _ _ trivial (fun Hh=>?_);clear hK K;try simp only [Act.put,Sv,Sz,Sw]
   refine tk 7 (.slice (some ⟨g,0,none⟩) i (i+1)) Hh ?_;refine Ad (by kernel_rfl) ?_ _;clear Hh;have hcl:=fG.out;go_wp2;go_ret;exact ⟨rfl,HO.out,HG.out⟩
  exact An
 ·obtain ⟨w1,bM,dQ,hg1⟩:=happ ⟨g,(i+1)*2,none⟩ (cap-(i+1)) (.inr rfl);have hcl:∀ ty,(Builtin.clear_ #[28] ty #[.slice (some ⟨g,(n-1)*2,none⟩) (n-(n-1)) (cap-(n-1))]).run prog w1 = .ok (.tuple #[]) (w1.setCells g ((n-1)*2) [.string ⟨#[]⟩,.string ⟨#[]⟩]):=fun ty=>by rw [show n-(n-1)=1 from by omega];exact Kp w1 ty g _ _ (Fg dQ (n-1) (by omega))
  have HO:=Hd (own_clr dQ (n-1) (Le _) (.string ⟨#[]⟩) (.string ⟨#[]⟩));have HG:=Hd (grown2 (Ka hg1) (far_set2 (o:=(n-1)*2) (.string ⟨#[]⟩) (.string ⟨#[]⟩)));have HRUN:=Hd bM;have fG:=Hd hcl;clear aD hl hg hpre gI happ ht aN dQ hg1 bM hcl;go_enter Tryz.func162,Tryz.ntmps162;go_wp2;refine Rw (S:=fun _=>True) (by kernel_rfl) trivial (fun Hh=>?_);refine tk 0 (.slice (some ⟨g,0,none⟩) n cap) Hh ?_;refine tk 1 (.int .i64 i) Hh ?_;refine tj 2 (.slice (some ⟨g,0,none⟩) i cap) Hh ?_ (y:=by intro w' aH;(go_simp<;>(intro hbd;exfalso;omega)));refine tk 3 (.slice (some ⟨g,0,none⟩) n cap) Hh ?_;refine tk 4 (.int .i64 ((i:Int)+1)) Hh ?_;refine tj 5 (.slice (some ⟨g,(i+1)*2,none⟩) (n-(i+1)) (cap-(i+1))) Hh ?_ (y:=by intro w' aH;(go_simp<;>(intro hbd;exfalso;omega)));refine Aq [6] ?_
  refine Rc (fun K hK=>?_) ?_
  ·refine Kj (by rfl) (.tmp 22) (.tmp 25) 28 (by rfl) _ _ _ _ (by rfl) (by rfl) (HRUN.out _) ?_;refine hK.out _ _ trivial (fun Hh=>?_);clear hK K;try simp only [Act.put,Sv,Sz,Sw]
   refine tk 7 (.slice (some ⟨g,0,none⟩) (n-1) cap) Hh ?_;refine Ad (by kernel_rfl) ?_ _;clear Hh;have hcl:=fG.out;go_wp2;go_ret;exact ⟨rfl,HO.out,HG.out⟩
  exact An
theorem ins_tail (base vb:Nat) (A:Option Addr) (n c:Nat) (l:List Pr) (x p:Bz) (w:Wd) (aD:w.ownsRow base 76 2 (.slice A n c) n (eC l)) (hv:Blk w vb 76 #[.string x,.string p]) (hn:n≤1100) (hB:base≤w.heap.size):
  Calls prog 159 #[.slice A n c,.int .i64 n,.slice (some ⟨vb,0,none⟩) 1 1] w fun e w' => ∃ A' c',e = .returned (.slice A' (n+1) c')∧w'.ownsRow base 76 2 (.slice A' (n+1) c') (n+1) (eC (l++[⟨x,p⟩]))∧w.grownBy w' (Value.slice A n c).ownBlock:=by
 obtain ⟨i0,aU,aW,aK,aR⟩:=info_parts Xe;have HR:Hid (Rd w w.heap.size 2 (some ⟨vb,0,none⟩) 1 [.string x,.string p]):=Hd ⟨rfl,fun _=>⟨vb,0,rfl,hv.lt,fun j u hu=>by rw [Nat.zero_add,hv.cell,Ga];exact hu⟩⟩;have H1:=Hd (pr_one x p);have HO:=Hd aD;obtain ⟨A1,c1,e1,i6,iR⟩:=Ue aD;injection e1 with e0 _ e1
 subst e1;subst e0;have HN:=Hd hn;have bZ:=Hd hB;unfold maxLen at iR;clear aD hv
 have fin:∀ v' w',w'.ownsRow base 76 2 v' (n+1) (eC l++[.string x,.string p])→w.grownBy w' (Value.slice A n c).ownBlock→∃ A' c',Ending.returned v' = .returned (.slice A' (n+1) c')∧w'.ownsRow base 76 2 (.slice A' (n+1) c') (n+1) (eC (l++[⟨x,p⟩]))∧w.grownBy w' (Value.slice A n c).ownBlock:=by
  intro v' w' h1 h2;obtain ⟨A',c',rfl,_⟩:=Ue h1;refine ⟨A',c',rfl,?_,h2⟩;rw [G0];exact h1
 have FIN:=Hd fin;clear fin;by_cases hc:c=n
 ·subst hc;go_enter Tryz.func159,Tryz.ntmps159;go_wp2_with (at_builtin;go_must (refine U5 _ rfl _ _ 28 rfl base 76 i0 _ 2 32 Tryz.underlying28 aU aW aK aR rfl (by decide) _ _ (eC l) rfl HO.out w.heap.size (some ⟨vb,0,none⟩) 1 1 [.string x,.string p] rfl HR.out H1.out (by have:=HN.out;unfold maxLen;omega) (by have:=HN.out;omega) bZ.out ?_;intro v' w' aD aO _;have aS:=Hd aD;have bQ:=Hd aO;clear aD aO));go_ret;exact FIN.out _ _ aS.out bQ.out
 ·go_enter Tryz.func159,Tryz.ntmps159;go_wp2_with (at_builtin;go_must (refine U5 _ rfl _ _ 28 rfl base 76 i0 _ 2 32 Tryz.underlying28 aU aW aK aR rfl (by decide) _ _ (eC l) rfl HO.out w.heap.size (some ⟨vb,0,none⟩) 1 1 [.string x,.string p] rfl HR.out H1.out (by have:=HN.out;unfold maxLen;omega) (by have:=HN.out;omega) bZ.out ?_;intro v' w' aD aO _;have aS:=Hd aD;have bQ:=Hd aO;clear aD aO));go_ret;exact FIN.out _ _ aS.out bQ.out
theorem insE_end (l:List Pr) (x p:Bz):Ik l l.length x p=l++[⟨x,p⟩]:=by
 unfold Ik;rw [List.take_length,List.drop_length]
theorem grown_own {w w':Wd} {A:Option Addr} {n c base:Nat} {xs:List Value} {t:TypeId} (h:w.ownsRow base t 2 (.slice A n c) n xs) (hg:w.grownBy w' (Value.slice A n c).ownBlock) (hB:base≤w.heap.size):Below base w w':=
 (Bf base w).grown hg hB (X6 h (Le _))
theorem insert_g (base vb:Nat) (A:Option Addr) (n c i:Nat) (l:List Pr) (x p:Bz) (w:Wd) (aD:w.ownsRow base 76 2 (.slice A n c) n (eC l)) (hv:Blk w vb 76 #[.string x,.string p]) (hvg:∀ a,A=some a→vb≠a.block) (hi:i≤n) (hn:n≤1100) (hB:base≤w.heap.size):
  Calls prog 159 #[.slice A n c,.int .i64 i,.slice (some ⟨vb,0,none⟩) 1 1] w fun e w' => ∃ A' c',e = .returned (.slice A' (n+1) c')∧w'.ownsRow base 76 2 (.slice A' (n+1) c') (n+1) (eC (Ik l i x p))∧Below base w w':=by
 have hl:l.length=n:=by have:=aD.1;rw [Xs] at this;omega
 by_cases h:i=n
 ·subst h;refine (ins_tail base vb A i c l x p w aD hv hn hB).mono ?_;rintro e w' ⟨A',c',rfl,h1,h2⟩;refine ⟨A',c',rfl,?_,grown_own aD h2 hB⟩;rw [←hl,insE_end,hl];exact h1
 ·obtain ⟨g,cap,hsv,iS,hgl,i6⟩:=Zt aD (by omega);injection hsv with e1 _ e2
  subst e1;subst e2;refine (ins_all base g n c i vb i l x p w aD hv (hvg _ rfl) (by omega) hn rfl).mono ?_;rintro e w' ⟨A',c',rfl,h1,h2⟩;exact ⟨A',c',rfl,h1,grown_own aD (by simpa [Value.ownBlock] using h2) hB⟩
end
def G2 (d:DSet):Bool:=decide (d.org=3) || decide (d.org=2)
theorem direct_g (d:DSet) (w:Wd):Calls prog 157 #[.agg (dC d).toArray] w fun e w'=>e = .returned (.bool (G2 d))∧Below w.heap.size w w':=by
 have c1:(w.alloc (.cells (dC d).toArray 27)).cell? ⟨w.heap.size,1,none⟩=some (.int .i64 d.org):=((Blk.new w 27 (dC d).toArray).cell 1).trans rfl;unfold G2;by_cases h3:d.org=3
 ·have e3:(d.org == 3)=true:=by simpa using h3
  rw [decide_eq_true h3];go_enter Tryz.func157,Tryz.ntmps157;go_wp2;go_ret;exact ⟨by first|rfl|simp [h3],(Bf _ _).alloc (Le _) _⟩
 ·have e3:(d.org == 3)=false:=by simpa using h3
  rw [decide_eq_false h3];by_cases h2:d.org=2
  ·have e2:(d.org == 2)=true:=by simpa using h2
   rw [decide_eq_true h2];clear h3;go_enter Tryz.func157,Tryz.ntmps157;go_wp2;go_ret;exact ⟨by first|rfl|simp [e2],(Bf _ _).alloc (Le _) _⟩
  ·have e2:(d.org == 2)=false:=by simpa using h2
   rw [decide_eq_false h2];clear h3 h2;go_enter Tryz.func157,Tryz.ntmps157;go_wp2;go_ret;exact ⟨by first|rfl|simp [e2],(Bf _ _).alloc (Le _) _⟩
def EffP (base:Nat) (R:Int ⊕ List Pr) (w:Wd) (e:Ending) (w':Wd):Prop:=match R with
 |.inl code=>e = .returned (.tuple #[.slice none 0 0,.int .i64 code])∧Below base w w'
 |.inr l => ∃ A c,e = .returned (.tuple #[.slice A l.length c,.int .i64 0])∧w'.ownsRow base 76 2 (.slice A l.length c) l.length (eC l)∧Below base w w'
def putE (dir al:Bool) (l:List Pr) (c:Chg):Int ⊕ List Pr:=
 if dir=false then .inl 7 else if al=false then .inl 2
 else if Y4 l c.key=true then .inr (l.set (l.findIdx (geK c.key)) ⟨c.key,c.rcd⟩) else .inr (Ik l (l.findIdx (geK c.key)) c.key c.rcd)
def eraE (dir po:Bool) (l:List Pr) (c:Chg):Int ⊕ List Pr:=
 if dir=false then .inl 7 else if po=false then .inl 2
 else if Y4 l c.key=true then .inr (l.eraseIdx (l.findIdx (geK c.key))) else .inr l
structure PW (d:DSet) (c:Chg) (w W:Wd):Prop where
 b1:Blk W w.heap.size 27 (dC d).toArray
 b2:Blk W (w.heap.size+1) 58 (chC c).toArray
 sz:w.heap.size+2≤W.heap.size
 be:Below w.heap.size w W
theorem Uo {d:DSet} {c:Chg} {w W W':Wd} (h:PW d c w W) (hb:Below W.heap.size W W'):PW d c w W':=
 have hz:=h.sz
 ⟨h.b1.below hb (by omega),h.b2.below hb (by omega),Lx h.sz hb.size,U0 h.be hb (by omega)⟩
theorem pw_2 {d:DSet} {c:Chg} {w W:Wd} (h:PW d c w W):W.cell? ⟨w.heap.size+1,2,none⟩=some (.string c.key):=(h.b2.cell 2).trans rfl
theorem pw_3 {d:DSet} {c:Chg} {w W:Wd} (h:PW d c w W):W.cell? ⟨w.heap.size+1,3,none⟩=some (.string c.rcd):=(h.b2.cell 3).trans rfl
theorem pw_org {d:DSet} {c:Chg} {w W:Wd} (h:PW d c w W):W.cell? ⟨w.heap.size,1,none⟩=some (.int .i64 d.org):=(h.b1.cell 1).trans rfl
structure PX (d:DSet) (c:Chg) (w W:Wd):Prop extends PW d c w W where
 b3:Blk W (w.heap.size+2) 76 #[.string c.key,.string c.rcd]
 sz3:w.heap.size+3≤W.heap.size
theorem px_start (d:DSet) (c:Chg) (w:Wd):PX d c w (((w.alloc (.cells (dC d).toArray 27)).alloc (.cells (chC c).toArray 58)).alloc (.cells #[.string c.key,.string c.rcd] 76)):=
 ⟨⟨((Blk.new w _ _).alloc _).alloc _,(U3 (w.alloc (.cells (dC d).toArray 27)) _ _ (w.heap.size+1) (by simp)).alloc _,by simp,(((Bf _ _).alloc (Le _) _).alloc (by simp) _).alloc (by simp;omega) _⟩,U3 _ _ _ _ (by simp),by simp⟩
theorem Yz {d:DSet} {c:Chg} {w W W':Wd} (h:PX d c w W) (hb:Below W.heap.size W W'):PX d c w W':=
 have hz:=h.sz3
 ⟨Uo h.toPW hb,h.b3.below hb (by omega),Lx h.sz3 hb.size⟩
theorem px_0 {d:DSet} {c:Chg} {w W:Wd} (h:PX d c w W):W.cell? ⟨w.heap.size+2,0,none⟩=some (.string c.key):=(h.b3.cell 0).trans rfl
theorem px_1 {d:DSet} {c:Chg} {w W:Wd} (h:PX d c w W):W.cell? ⟨w.heap.size+2,1,none⟩=some (.string c.rcd):=(h.b3.cell 1).trans rfl
theorem set_len (l:List Pr) (i:Nat) (x:Pr):(l.set i x).length=l.length:=List.length_set
theorem geI_le (l:List Pr) (k:Bz):l.findIdx (geK k)≤l.length:=List.findIdx_le_length
theorem hasK_lt {l:List Pr} {k:Bz} (h:Y4 l k=true):l.findIdx (geK k)<l.length:=by
 rcases Nat.lt_or_ge (l.findIdx (geK k)) l.length with h1|h1
 ·exact h1
 ·rw [hasK_no (List.getElem?_eq_none h1)] at h;cases h
theorem sl_own {w:Wd} {base n cc:Nat} {A:Option Addr} {l:List Pr} (h:w.ownsRow base 76 2 (.slice A n cc) n (eC l)):Sl prC 2 w w.heap.size A n cc l:=Sl.of_own (f:=prC) (fun _=>rfl) (by decide) h
theorem If {w:Wd} {base n cc:Nat} {A:Option Addr} {l:List Pr} (h:w.ownsRow base 76 2 (.slice A n cc) n (eC l)) (w':Wd) (hb:Below w.heap.size w w'):w'.ownsRow base 76 2 (.slice A n cc) n (eC l):=Up h hb
theorem put_g (d:DSet) (c:Chg) (A:Option Addr) (cc:Nat) (l:List Pr) (base:Nat) (al:Bool) (w:Wd) (aD:w.ownsRow base 76 2 (.slice A l.length cc) l.length (eC l)) (hB:base≤w.heap.size) (hn:l.length≤1024)
  (HA:∀ W,Below w.heap.size w W→Calls prog 84 #[.agg (dC d).toArray,.agg #[.string c.key,.string c.rcd]] W fun e w'=>e = .returned (.bool al)∧Below W.heap.size W w'):
  Calls prog 156 #[.agg (dC d).toArray,.slice A l.length cc,.agg (chC c).toArray] w (EffP base (putE (G2 d) al l c) w):=by
 have HX:Hid (PX d c w (((w.alloc (.cells (dC d).toArray 27)).alloc (.cells (chC c).toArray 58)).alloc (.cells #[.string c.key,.string c.rcd] 76))):=Hd (px_start d c w);have HD:=Hd fun W=>direct_g d W
 have cK:=Hd HA;have HO:=Hd fun W (h:Below w.heap.size w W)=>If aD W h
 have bZ:=Hd hB;have HN:=Hd hn;have HF:=Hd fun W (h:Below w.heap.size w W)=>F1 c.key A l.length cc l W (sl_own (If aD W h)) (by unfold maxLen;omega)
 have k2:((w.alloc (.cells (dC d).toArray 27)).alloc (.cells (chC c).toArray 58)).cell? ⟨w.heap.size+1,2,none⟩=some (.string c.key):=((U3 (w.alloc (.cells (dC d).toArray 27)) 58 (chC c).toArray (w.heap.size+1) (by simp)).cell 2).trans rfl;have k3:((w.alloc (.cells (dC d).toArray 27)).alloc (.cells (chC c).toArray 58)).cell? ⟨w.heap.size+1,3,none⟩=some (.string c.rcd):=((U3 (w.alloc (.cells (dC d).toArray 27)) 58 (chC c).toArray (w.heap.size+1) (by simp)).cell 3).trans rfl;have bO:=geI_le l c.key;unfold putE;obtain ⟨dr,gG⟩:∃ dr,G2 d=dr:=⟨_,rfl⟩
 rw [gG];simp only [gG] at HD;clear gG HA;cases dr with
 |false=>
  rw [if_pos rfl];clear aD bO;go_enter Tryz.func156,Tryz.ntmps156;go_wp2_with (first|(refine Lq 27 w.heap.size _ HX.out.b1 Tryz.underlying27 ?_)|(go_at_call 157;refine (HD.out _).mono ?_;rintro e w2 ⟨rfl,hb⟩;have aM:=Hd (Yz HX.out hb);clear hb))
  go_ret2
  exact ⟨rfl,aM.out.be.mono bZ.out⟩
 |true=>
  rw [if_neg (by decide)];cases al with
  |false=>
   rw [if_pos rfl];clear aD bO;go_enter Tryz.func156,Tryz.ntmps156;go_wp2_with (first|(refine Lq 27 w.heap.size _ HX.out.b1 Tryz.underlying27 ?_)|(refine Lq 27 w.heap.size _ aM.out.b1 Tryz.underlying27 ?_)|(go_at_call 157;refine (HD.out _).mono ?_;rintro e w2 ⟨rfl,hb⟩;have aM:=Hd (Yz HX.out hb);clear hb;have c0:=px_0 aM.out;have c1:=px_1 aM.out)|(go_at_call 84;refine (cK.out _ aM.out.be).mono ?_;rintro e w3 ⟨rfl,hb⟩;have aP:=Hd (Yz aM.out hb);clear hb c0 c1))
   go_ret2
   exact ⟨rfl,aP.out.be.mono bZ.out⟩
  |true=>
   rw [if_neg (by decide)];obtain ⟨t,ht⟩:∃ t,Y4 l c.key=t:=⟨_,rfl⟩
   rw [ht];simp only [ht] at HF;cases t with
   |true=>
    rw [if_pos rfl];have aG:=hasK_lt ht;obtain ⟨g,cap,hsv,iS,hgl,i6⟩:=Zt aD (by omega);injection hsv with e1 _ e2
    subst e1;subst e2;generalize l.findIdx (geK c.key)=q at HF aG bO;obtain ⟨n,fQ⟩:∃ n,l.length=n:=⟨_,rfl⟩
    have fH:=Hd fQ;rw [fQ] at HF HO aG HN i6;rw [fQ];have hn':=HN.out;clear aD bO ht fQ hn;go_enter Tryz.func156,Tryz.ntmps156
    go_wp2_with (first|(refine Lq 27 w.heap.size _ HX.out.b1 Tryz.underlying27 ?_)|(refine Lq 27 w.heap.size _ aM.out.b1 Tryz.underlying27 ?_)|(go_at_call 157;refine (HD.out _).mono ?_;rintro e w2 ⟨rfl,hb⟩;have aM:=Hd (Yz HX.out hb);clear hb;have c0:=px_0 aM.out;have c1:=px_1 aM.out)|(go_at_call 84;refine (cK.out _ aM.out.be).mono ?_;rintro e w3 ⟨rfl,hb⟩;have aP:=Hd (Yz aM.out hb);clear hb c0 c1;have c2:=pw_2 aP.out.toPW)|(go_at_call 158;refine (HF.out _ aP.out.be).mono ?_;rintro e w4 ⟨rfl,hb⟩;have aX:=Hd (Yz aP.out hb);clear hb c2;have c0:=px_0 aX.out;have c1:=px_1 aX.out;have HT:=Hd (Fg (HO.out _ aX.out.be) q (by omega)))|(refine wpList_store_mid rfl 76 _ _ rfl g (q*2) #[.string c.key,.string c.rcd] rfl rfl HT.out (by kernel_rfl) (by simp [Value.oneCell']) ?_))
    go_ret2
    have ho:=HO.out _ aX.out.be;refine ⟨some ⟨g,0,none⟩,cc,by rw [set_len,fH.out];rfl,?_,?_⟩
    ·rw [set_len,fH.out];exact own_put ho q ⟨c.key,c.rcd⟩ aG
    ·exact (aX.out.be.mono bZ.out).grown (far_set2 _ _) (by have:=aX.out.be.size;have:=bZ.out;omega) (by intro k hk;injection hk with hk;omega)
   |false=>
    rw [if_neg (by decide)];have hins:=Hd fun (W:Wd) (h:Below w.heap.size w W) (vb:Nat) (hv:Blk W vb 76 #[.string c.key,.string c.rcd]) (hvg:∀ a,A=some a→vb≠a.block)=>insert_g base vb A l.length cc (l.findIdx (geK c.key)) l c.key c.rcd W (If aD W h) hv hvg bO (by omega) (Lx hB h.size)
    have eZ:∀ a,A=some a→a.block<w.heap.size:=by
     intro a ha;subst ha;rcases aD.2 with ⟨h0,_⟩|⟨g',cap',cur,h0,gR,iT,_⟩
     ·cases h0
     ·have hk:(Value.slice (some a) l.length cc).ownBlock=some g':=by rw [h0];rfl
      injection h0 with h1 _ _
      injection h1 with h1
      rw [h1];exact (aD.lt g' hk).2
    have HLOW:=Hd eZ;have hil:(Ik l (l.findIdx (geK c.key)) c.key c.rcd).length=l.length+1:=insE_len bO _ _;have HIL:=Hd hil;obtain ⟨L,hL⟩:∃ L,Ik l (l.findIdx (geK c.key)) c.key c.rcd=L:=⟨_,rfl⟩
    simp only [hL] at hins HIL;rw [hL];generalize l.findIdx (geK c.key)=q at HF hins;obtain ⟨n,fQ⟩:∃ n,l.length=n:=⟨_,rfl⟩
    rw [fQ] at HF HIL;simp only [fQ] at hins;rw [fQ];clear aD bO ht fQ hn eZ hil hL;go_enter Tryz.func156,Tryz.ntmps156
    go_wp2_with (first|(refine Lq 27 w.heap.size _ HX.out.b1 Tryz.underlying27 ?_)|(refine Lq 27 w.heap.size _ aM.out.b1 Tryz.underlying27 ?_)|(go_at_call 157;refine (HD.out _).mono ?_;rintro e w2 ⟨rfl,hb⟩;have aM:=Hd (Yz HX.out hb);clear hb;have c0:=px_0 aM.out;have c1:=px_1 aM.out)|(go_at_call 84;refine (cK.out _ aM.out.be).mono ?_;rintro e w3 ⟨rfl,hb⟩;have aP:=Hd (Yz aM.out hb);clear hb c0 c1;have c2:=pw_2 aP.out.toPW)|(go_at_call 158;refine (HF.out _ aP.out.be).mono ?_;rintro e w4 ⟨rfl,hb⟩;have aX:=Hd (Yz aP.out hb);clear hb c2;have c0:=px_0 aX.out;have c1:=px_1 aX.out)|(go_at_call 159;refine (hins.out _ (aX.out.be.alloc (by have:=aX.out.sz;omega) _) _ (Blk.new _ _ _) (by intro a ha;have:=HLOW.out a ha;have:=aX.out.be.size;omega)).mono ?_;rintro e w5 ⟨A',c',rfl,h5,h6⟩;have H5:=Hd h5;have H6:=Hd h6;clear h5 h6))
    go_ret2
    refine ⟨A',c',by rw [HIL.out];rfl,?_,?_⟩
    ·rw [HIL.out];exact H5.out
    ·exact ((aX.out.be.alloc (by have:=aX.out.sz;omega) _).mono bZ.out).trans H6.out
theorem era_g (d:DSet) (c:Chg) (A:Option Addr) (cc:Nat) (l:List Pr) (base:Nat) (po:Bool) (w:Wd) (aD:w.ownsRow base 76 2 (.slice A l.length cc) l.length (eC l)) (hB:base≤w.heap.size) (hn:l.length≤1024)
  (HA:∀ W,Below w.heap.size w W→Calls prog 161 #[.agg (dC d).toArray,.string c.key] W fun e w'=>e = .returned (.bool po)∧Below W.heap.size W w'):
  Calls prog 160 #[.agg (dC d).toArray,.slice A l.length cc,.agg (chC c).toArray] w (EffP base (eraE (G2 d) po l c) w):=by
 have HX:Hid (PW d c w ((w.alloc (.cells (dC d).toArray 27)).alloc (.cells (chC c).toArray 58))):=Hd ⟨(Blk.new w _ _).alloc _,U3 (w.alloc (.cells (dC d).toArray 27)) _ _ (w.heap.size+1) (by simp),by simp,((Bf _ _).alloc (Le _) _).alloc (by simp) _⟩;have HD:=Hd fun W=>direct_g d W
 have cK:=Hd HA;have HO:=Hd fun W (h:Below w.heap.size w W)=>If aD W h
 have bZ:=Hd hB;have HF:=Hd fun W (h:Below w.heap.size w W)=>F1 c.key A l.length cc l W (sl_own (If aD W h)) (by unfold maxLen;omega)
 unfold eraE;obtain ⟨dr,gG⟩:∃ dr,G2 d=dr:=⟨_,rfl⟩
 rw [gG];simp only [gG] at HD;clear gG HA;cases dr with
 |false=>
  rw [if_pos rfl];clear aD;go_enter Tryz.func160,Tryz.ntmps160;go_wp2_with (first|(refine Lq 27 w.heap.size _ HX.out.b1 Tryz.underlying27 ?_)|(go_at_call 157;refine (HD.out _).mono ?_;rintro e w2 ⟨rfl,hb⟩;have aM:=Hd (Uo HX.out hb);clear hb))
  go_ret2
  exact ⟨rfl,aM.out.be.mono bZ.out⟩
 |true=>
  rw [if_neg (by decide)];have k2:((w.alloc (.cells (dC d).toArray 27)).alloc (.cells (chC c).toArray 58)).cell? ⟨w.heap.size+1,2,none⟩=some (.string c.key):=pw_2 HX.out;cases po with
  |false=>
   rw [if_pos rfl];clear aD;go_enter Tryz.func160,Tryz.ntmps160;go_wp2_with (first|(refine Lq 27 w.heap.size _ HX.out.b1 Tryz.underlying27 ?_)|(refine Lq 27 w.heap.size _ aM.out.b1 Tryz.underlying27 ?_)|(go_at_call 157;refine (HD.out _).mono ?_;rintro e w2 ⟨rfl,hb⟩;have aM:=Hd (Uo HX.out hb);clear hb;have c2:=pw_2 aM.out)|(go_at_call 161;refine (cK.out _ aM.out.be).mono ?_;rintro e w3 ⟨rfl,hb⟩;have aP:=Hd (Uo aM.out hb);clear hb c2))
   go_ret2
   exact ⟨rfl,aP.out.be.mono bZ.out⟩
  |true=>
   rw [if_neg (by decide)];obtain ⟨t,ht⟩:∃ t,Y4 l c.key=t:=⟨_,rfl⟩
   rw [ht];simp only [ht] at HF;cases t with
   |true=>
    rw [if_pos rfl];have aG:=hasK_lt ht;obtain ⟨g,cap,hsv,iS,hgl,i6⟩:=Zt aD (by omega);injection hsv with e1 _ e2
    subst e1;subst e2;have m6:=Hd fun W (h:Below w.heap.size w W)=>delete_own base g l.length cc (l.findIdx (geK c.key)) l W (If aD W h) aG (by omega)
    have kW:(l.eraseIdx (l.findIdx (geK c.key))).length=l.length-1:=by rw [List.length_eraseIdx,if_pos aG]
    obtain ⟨L,hL⟩:∃ L,l.eraseIdx (l.findIdx (geK c.key))=L:=⟨_,rfl⟩
    simp only [hL] at m6;rw [hL] at kW;rw [hL];have HEL:=Hd kW;have hq1:l.findIdx (geK c.key)<1024:=by omega
    generalize l.findIdx (geK c.key)=q at HF aG m6 hq1;obtain ⟨n,fQ⟩:∃ n,l.length=n:=⟨_,rfl⟩
    rw [fQ] at HF aG HEL;simp only [fQ] at m6;rw [fQ];clear aD ht fQ hn kW hL HO;go_enter Tryz.func160,Tryz.ntmps160;go_wp2_with (first|(refine Lq 27 w.heap.size _ HX.out.b1 Tryz.underlying27 ?_)|(refine Lq 27 w.heap.size _ aM.out.b1 Tryz.underlying27 ?_)|(go_at_call 157;refine (HD.out _).mono ?_;rintro e w2 ⟨rfl,hb⟩;have aM:=Hd (Uo HX.out hb);clear hb k2;have c2:=pw_2 aM.out)|(go_at_call 161;refine (cK.out _ aM.out.be).mono ?_;rintro e w3 ⟨rfl,hb⟩;have aP:=Hd (Uo aM.out hb);clear hb c2;have c2:=pw_2 aP.out)|(go_at_call 158;refine (HF.out _ aP.out.be).mono ?_;rintro e w4 ⟨rfl,hb⟩;have aX:=Hd (Uo aP.out hb);clear hb c2)|(go_at_call 162;refine (m6.out _ aX.out.be).mono ?_;rintro e w5 ⟨rfl,h5,h6⟩;have H5:=Hd h5;have H6:=Hd h6;clear h5 h6))
    go_ret2
    refine ⟨some ⟨g,0,none⟩,cc,by rw [HEL.out];rfl,?_,?_⟩
    ·rw [HEL.out];exact H5.out
    ·exact (aX.out.be.mono bZ.out).grown H6.out (by have:=aX.out.be.size;have:=bZ.out;omega) (by intro k hk;injection hk with hk;omega)
   |false=>
    rw [if_neg (by decide)];generalize l.findIdx (geK c.key)=q at HF;clear ht;go_enter Tryz.func160,Tryz.ntmps160;go_wp2_with (first|(refine Lq 27 w.heap.size _ HX.out.b1 Tryz.underlying27 ?_)|(refine Lq 27 w.heap.size _ aM.out.b1 Tryz.underlying27 ?_)|(go_at_call 157;refine (HD.out _).mono ?_;rintro e w2 ⟨rfl,hb⟩;have aM:=Hd (Uo HX.out hb);clear hb k2;have c2:=pw_2 aM.out)|(go_at_call 161;refine (cK.out _ aM.out.be).mono ?_;rintro e w3 ⟨rfl,hb⟩;have aP:=Hd (Uo aM.out hb);clear hb c2;have c2:=pw_2 aP.out)|(go_at_call 158;refine (HF.out _ aP.out.be).mono ?_;rintro e w4 ⟨rfl,hb⟩;have aX:=Hd (Uo aP.out hb);clear hb c2))
    go_ret2
    exact ⟨A,cc,rfl,HO.out _ aX.out.be,aX.out.be.mono bZ.out⟩
theorem emp_g (d:DSet) (A:Option Addr) (n cc:Nat) (c:Chg) (base:Nat) (w:Wd) (hB:base≤w.heap.size):Calls prog 165 #[.agg (dC d).toArray,.slice A n cc,.agg (chC c).toArray] w (EffP base (.inr []) w):=by
 have bZ:=Hd hB;go_enter Tryz.func165,Tryz.ntmps165;go_wp2
 go_ret2
 exact ⟨none,0,rfl,⟨rfl,.inl ⟨rfl,rfl⟩⟩,(((Bf _ _).alloc (Le _) _).alloc (by simp) _).mono bZ.out⟩
end Go.Proofs.YtoakknkmjnebjaaGreatDoor
