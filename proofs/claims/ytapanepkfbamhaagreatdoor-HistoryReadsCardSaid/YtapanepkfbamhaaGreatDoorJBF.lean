/- Part of the proof of HistoryReads. -/
import Derived.Test.YtapanepkfbamhaaGreatDoorJBE
namespace Go.Proofs.YtapanepkfbamhaaGreatDoor
open Tryz (prog)
section
set_option maxRecDepth 100000
set_option maxHeartbeats 4000000
open Go.RowKit
def Vr (d:DSet) (p:Pr):Bool:=if d.org=3 then ((ofF d p.rcd).2 == 0)&&((ofF d p.rcd).1.toList == p.key.toList)
 else if d.org=2 then slotOk p.key&&((p.rcd.size:Int) == d.len)
 else if d.org=1 then decide (1≤(p.rcd.size:Int))&&decide ((p.rcd.size:Int)≤d.len)
 else seqE d p.rcd.size == 0
structure DP (d:DSet) (p:Pr) (w W:World):Prop where
 b1:Blk W w.heap.size 27 (dC d).toArray
 b2:Blk W (w.heap.size+1) 76 (prC p).toArray
 be:Below w.heap.size w W
theorem dp_new (d:DSet) (p:Pr) (w:World):DP d p w ((w.alloc (.cells (dC d).toArray 27)).alloc (.cells #[.string p.key,.string p.rcd] 76)):=
 ⟨(Blk.new w _ _).alloc _,U3 (w.alloc _) _ _ _ (by simp),((Bf _ _).alloc (Le _) _).alloc (by simp) _⟩
theorem Ip {d:DSet} {p:Pr} {w W W':World} (h:DP d p w W) (hb:Below W.heap.size W W'):DP d p w W':=
 ⟨h.b1.below hb h.b1.lt,h.b2.below hb h.b2.lt,U0 h.be hb h.be.size⟩
theorem Ig (d:DSet) (p:Pr) (w:World) (hc:Cod w) (hr:p.rcd.size≤maxLen):
  Calls prog 84 #[.agg (dC d).toArray,.agg #[.string p.key,.string p.rcd]] w fun e w'=>e = .returned (.bool (Vr d p))∧Below w.heap.size w w':=by
 have HD:=Hd (dp_new d p w);have HC:=Hd hc;have HRZ:=Hd hr;clear hc hr;have c1:((w.alloc (.cells (dC d).toArray 27)).alloc (.cells #[.string p.key,.string p.rcd] 76)).cell? ⟨w.heap.size,1,none⟩=some (.int .i64 d.org):=(HD.out.b1.cell 1).trans rfl;have c3:((w.alloc (.cells (dC d).toArray 27)).alloc (.cells #[.string p.key,.string p.rcd] 76)).cell? ⟨w.heap.size,3,none⟩=some (.int .i64 d.len):=(HD.out.b1.cell 3).trans rfl;have d0:((w.alloc (.cells (dC d).toArray 27)).alloc (.cells #[.string p.key,.string p.rcd] 76)).cell? ⟨w.heap.size+1,0,none⟩=some (.string p.key):=(HD.out.b2.cell 0).trans rfl;have d1:((w.alloc (.cells (dC d).toArray 27)).alloc (.cells #[.string p.key,.string p.rcd] 76)).cell? ⟨w.heap.size+1,1,none⟩=some (.string p.rcd):=(HD.out.b2.cell 1).trans rfl;unfold Vr;by_cases h3:d.org=3
 ·rw [if_pos h3]
  have k3:(d.org == 3)=true:=by simpa using h3
  have HK:=Hd (keyOf_any d p.rcd ((w.alloc (.cells (dC d).toArray 27)).alloc (.cells #[.string p.key,.string p.rcd] 76)) HRZ.out);generalize ofF d p.rcd=o at HK ⊢;obtain ⟨o1,o2⟩:=o;simp only at HK ⊢;clear h3;by_cases hz:o2=0
  ·have kz:(o2 == 0)=true:=by simpa using hz
   clear hz;go_enter Tryz.func84,Tryz.ntmps84;go_wp2_with (first|((with_reducible refine Gl 27 2 ?_);refine Lr rfl 27 _ rfl (w.heap.size) rfl 27 (dC d).toArray (0,0) _ HD.out.b1 Tryz.underlying27 rfl (by kernel_rfl) ?_)|(go_at_call 116;refine HK.out.mono ?_;rintro e w2 ⟨rfl,hb⟩;have HD2:=Hd (Ip HD.out hb);have e0:=(HD2.out.b2.cell 0).trans (show _=some (Value.string p.key) from rfl);clear hb c1 c3 d0 d1));go_ret;exact ⟨by rw [kz];simp,HD2.out.be⟩
  ·have kz:(o2 == 0)=false:=by simpa using hz
   clear hz;go_enter Tryz.func84,Tryz.ntmps84;go_wp2_with (first|((with_reducible refine Gl 27 2 ?_);refine Lr rfl 27 _ rfl (w.heap.size) rfl 27 (dC d).toArray (0,0) _ HD.out.b1 Tryz.underlying27 rfl (by kernel_rfl) ?_)|(go_at_call 116;refine HK.out.mono ?_;rintro e w2 ⟨rfl,hb⟩;have HD2:=Hd (Ip HD.out hb);have e0:=(HD2.out.b2.cell 0).trans (show _=some (Value.string p.key) from rfl);clear hb c1 c3 d0 d1));go_ret;exact ⟨by rw [kz];simp,HD2.out.be⟩
 rw [if_neg h3];have k3:(d.org == 3)=false:=by simpa using h3
 by_cases h2:d.org=2
 ·rw [if_pos h2]
  have k2:(d.org == 2)=true:=by simpa using h2
  have HN:=Hd (Fi p.key ((w.alloc (.cells (dC d).toArray 27)).alloc (.cells #[.string p.key,.string p.rcd] 76)));unfold slotOk;generalize Xv p.key=o at HN ⊢;obtain ⟨n,z⟩:=o;simp only at HN ⊢;clear h3 h2;cases z with
  |false=>
   go_enter Tryz.func84,Tryz.ntmps84;go_wp2_with (first|((with_reducible refine Gl 27 2 ?_);refine Lr rfl 27 _ rfl (w.heap.size) rfl 27 (dC d).toArray (0,0) _ HD.out.b1 Tryz.underlying27 rfl (by kernel_rfl) ?_)|(go_at_call 117;refine HN.out.mono ?_;rintro e w2 ⟨rfl,hb⟩;have HD2:=Hd (Ip HD.out hb);have e1:=(HD2.out.b2.cell 1).trans (show _=some (Value.string p.rcd) from rfl);have e3:=(HD2.out.b1.cell 3).trans (show _=some (Value.int .i64 d.len) from rfl);clear hb c1 c3 d0 d1));go_ret;exact ⟨by simp,HD2.out.be⟩
  |true=>
   rcases (by omega:n<1∨1≤n) with m1|m1
   ·go_enter Tryz.func84,Tryz.ntmps84
    go_wp2_with (first|((with_reducible refine Gl 27 2 ?_);refine Lr rfl 27 _ rfl (w.heap.size) rfl 27 (dC d).toArray (0,0) _ HD.out.b1 Tryz.underlying27 rfl (by kernel_rfl) ?_)|(go_at_call 117;refine HN.out.mono ?_;rintro e w2 ⟨rfl,hb⟩;have HD2:=Hd (Ip HD.out hb);have e1:=(HD2.out.b2.cell 1).trans (show _=some (Value.string p.rcd) from rfl);have e3:=(HD2.out.b1.cell 3).trans (show _=some (Value.int .i64 d.len) from rfl);clear hb c1 c3 d0 d1));go_ret
    exact ⟨by
     have q:decide (1≤n)=false:=decide_eq_false (by omega);rw [q];simp,HD2.out.be⟩
   rcases (by omega:65536<n∨n≤65536) with m2|m2
   ·go_enter Tryz.func84,Tryz.ntmps84
    go_wp2_with (first|((with_reducible refine Gl 27 2 ?_);refine Lr rfl 27 _ rfl (w.heap.size) rfl 27 (dC d).toArray (0,0) _ HD.out.b1 Tryz.underlying27 rfl (by kernel_rfl) ?_)|(go_at_call 117;refine HN.out.mono ?_;rintro e w2 ⟨rfl,hb⟩;have HD2:=Hd (Ip HD.out hb);have e1:=(HD2.out.b2.cell 1).trans (show _=some (Value.string p.rcd) from rfl);have e3:=(HD2.out.b1.cell 3).trans (show _=some (Value.int .i64 d.len) from rfl);clear hb c1 c3 d0 d1));go_ret
    exact ⟨by
     have q:decide (n≤65536)=false:=decide_eq_false (by omega);rw [q];simp,HD2.out.be⟩
   ·go_enter Tryz.func84,Tryz.ntmps84
    go_wp2_with (first|((with_reducible refine Gl 27 2 ?_);refine Lr rfl 27 _ rfl (w.heap.size) rfl 27 (dC d).toArray (0,0) _ HD.out.b1 Tryz.underlying27 rfl (by kernel_rfl) ?_)|(go_at_call 117;refine HN.out.mono ?_;rintro e w2 ⟨rfl,hb⟩;have HD2:=Hd (Ip HD.out hb);have e1:=(HD2.out.b2.cell 1).trans (show _=some (Value.string p.rcd) from rfl);have e3:=(HD2.out.b1.cell 3).trans (show _=some (Value.int .i64 d.len) from rfl);clear hb c1 c3 d0 d1));go_ret;exact ⟨by simp [m1,m2],HD2.out.be⟩
 rw [if_neg h2];have k2:(d.org == 2)=false:=by simpa using h2
 by_cases h1:d.org=1
 ·rw [if_pos h1]
  have k1:(d.org == 1)=true:=by simpa using h1
  clear h3 h2 h1;by_cases m1:p.rcd.size=0
  ·have q1:¬ ((1:Int)≤(p.rcd.size:Int)):=by omega
   have q0:¬ (1≤p.rcd.size):=by omega
   go_enter Tryz.func84,Tryz.ntmps84;go_wp2_with (first|((with_reducible refine Gl 27 2 ?_);refine Lr rfl 27 _ rfl (w.heap.size) rfl 27 (dC d).toArray (0,0) _ HD.out.b1 Tryz.underlying27 rfl (by kernel_rfl) ?_));go_ret;exact ⟨by simp,HD.out.be⟩
  ·have q1:(1:Int)≤(p.rcd.size:Int):=by omega
   have q0:1≤p.rcd.size:=by omega
   clear m1;go_enter Tryz.func84,Tryz.ntmps84;go_wp2_with (first|((with_reducible refine Gl 27 2 ?_);refine Lr rfl 27 _ rfl (w.heap.size) rfl 27 (dC d).toArray (0,0) _ HD.out.b1 Tryz.underlying27 rfl (by kernel_rfl) ?_));go_ret;exact ⟨by simp [q1],HD.out.be⟩
 rw [if_neg h1];have k1:(d.org == 1)=false:=by simpa using h1
 have HBU:=Hd (build_any d (w.heap.size+2) p.rcd (((w.alloc (.cells (dC d).toArray 27)).alloc (.cells #[.string p.key,.string p.rcd] 76)).alloc (.cells #[.string p.rcd] 9)) ((HC.out.after HD.out.be).after ((Bf _ _).alloc (Le _) _)) (U3 ((w.alloc _).alloc _) _ _ _ (by simp)));have HX3:=Hd (HD.out.be.alloc HD.out.be.size (.cells #[.string p.rcd] 9));generalize seqE d p.rcd.size=R at HBU ⊢;clear h3 h2 h1;go_enter Tryz.func84,Tryz.ntmps84;go_wp2_with (first|((with_reducible refine Gl 27 2 ?_);refine Lr rfl 27 _ rfl (w.heap.size) rfl 27 (dC d).toArray (0,0) _ HD.out.b1 Tryz.underlying27 rfl (by kernel_rfl) ?_)|(go_at_call 118;refine HBU.out.mono ?_;rintro e w2 ⟨v,rfl,hb⟩;have HB2:=Hd (U0 HX3.out hb HX3.out.size);clear hb));go_ret;exact ⟨rfl,HB2.out⟩
end
section
set_option maxRecDepth 100000
open Go.RowKit
theorem isSize_any (n:Int) (w:World):Calls prog 144 #[.int .i64 n] w fun e w'=>e = .returned (.bool (Ek n))∧w=w':=by
 obtain ⟨z,hz⟩:∃ z,Ek n=z:=⟨_,rfl⟩
 rw [hz];unfold Ek at hz;by_cases h1:n=128
 ·subst h1
  go_enter Tryz.func144,Tryz.ntmps144;go_wp2;go_ret;exact ⟨by rw [←hz];rfl,rfl⟩
 by_cases h2:n=256
 ·subst h2
  go_enter Tryz.func144,Tryz.ntmps144;go_wp2;go_ret;exact ⟨by rw [←hz];rfl,rfl⟩
 by_cases h3:n=512
 ·subst h3
  go_enter Tryz.func144,Tryz.ntmps144;go_wp2;go_ret;exact ⟨by rw [←hz];rfl,rfl⟩
 have e1:(n == 128)=false:=by simpa using h1
 have e2:(n == 256)=false:=by simpa using h2
 have e3:(n == 512)=false:=by simpa using h3
 have hz':z=false:=by rw [←hz];simp [h1,h2,h3]
 have HZ:=Hd hz';clear h1 h2 h3 hz hz';go_enter Tryz.func144,Tryz.ntmps144;go_wp2;go_ret;exact ⟨by rw [HZ.out];rfl,rfl⟩
def alwS (s:ByteArray):Bool:=decide (1≤s.size)&&decide (s.size≤200)
def alwB (l:List ByteArray):Bool:=l.all alwS
theorem ialw_any (A:Option Addr) (n c:Nat) (l:List ByteArray) (w:World) (hs:Sl Ug 1 w w.heap.size A n c l) (hn:n≤2000):
  Calls prog 145 #[.slice A n c] w fun e w'=>e = .returned (.bool (alwB l))∧w=w':=by
 have HS:=Hd hs;have HL:=Hd hs.len;clear hs;obtain ⟨R,hR⟩:∃ R,alwB l=R:=⟨_,rfl⟩
 rw [hR];have HR:=Hd hR;clear hR;go_enter Tryz.func145,Tryz.ntmps145;go_wp2;go_loop [7] (fun i => ∃ j:Nat,j≤n∧i = .int .i64 j∧∀ t,t<j→∀ e,l[t]? =some e→alwS e=true) (fun i=>n-(intOf i).toNat)
 case atStart=>exact ⟨0,Z0 _,rfl,fun t h=>absurd h (by omega)⟩
 case round=>
  obtain ⟨j,hj,rfl,hall⟩:=hrel;have HA:=Hd hall;clear hall;by_cases hlt:j<n
  ·obtain ⟨b,o,s,rfl,hb,hg,hcell⟩:=Sl.cell (f:=Ug) (k:=1) (fun _=>rfl) HS.out hlt
   have c0:=hcell 0 _ rfl;simp only [Nat.add_zero,Nat.mul_one] at c0;have HG:=Hd hg
   have no:alwS s=false→R=false:=fun h=>by
    rw [←HR.out];unfold alwB;rw [List.all_eq_false];exact ⟨s,List.mem_of_getElem? hg,by simpa using h⟩
   have HNO:=Hd no;clear hb hg hcell no;by_cases h1:s.size<1
   ·have hr:=HNO.out (by unfold alwS;simp;omega)
    have HR2:=Hd hr;clear hr;go_wp2;go_ret;exact ⟨by rw [HR2.out];rfl,rfl⟩
   ·by_cases h2:200<s.size
    ·have hr:=HNO.out (by unfold alwS;simp;omega)
     have HR2:=Hd hr;clear hr;go_wp2;go_ret;exact ⟨by rw [HR2.out];rfl,rfl⟩
    ·have hal:alwS s=true:=by unfold alwS;simp;omega
     have HAL:=Hd hal;clear hal;go_wp2
     go_round
     case rel=>
      refine ⟨j+1,by omega,by go_num,fun t ht e he=>?_⟩;rcases Nat.lt_succ_iff_lt_or_eq.1 ht with h|h
      ·exact HA.out t h e he
      ·subst h
       rw [HG.out] at he;injection he with he
       subst he;exact HAL.out
     case measure=>simp [intOf];omega
  ·obtain rfl:j=n:=by omega
   have hr:R=true:=by
    rw [←HR.out];unfold alwB;rw [List.all_eq_true];intro e he;obtain ⟨t,ht,rfl⟩:=List.getElem_of_mem he;exact HA.out t (by rw [←HL.out];exact ht) _ (List.getElem?_eq_getElem ht)
   have HR2:=Hd hr;clear hr;go_wp2;go_ret;exact ⟨by rw [HR2.out];rfl,rfl⟩
def J6 (z:Nat):List ByteArray→Nat
 | []=>0
 |s::r=>if s.size=z then J6 z r+1 else 0
theorem runK_is {z:Nat}:∀ (l:List ByteArray) (k:Nat),k≤l.length→(∀ t,t<k→∀ s,l[t]? =some s→s.size=z)→(∀ s,l[k]? =some s→s.size≠z)→J6 z l=k
 | [],k,hk,_,_=>by simp at hk;subst hk;rfl
 |s::r,0,_,_,h=>by
  unfold J6;rw [if_neg (h s rfl)]
 |s::r,k+1,hk,h1,h2=>by
  unfold J6;rw [if_pos (h1 0 (by omega) s rfl),runK_is r k (by simpa using hk) (fun t ht x hx=>h1 (t+1) (by omega) x hx) (fun x hx=>h2 x hx)]
def runF:Nat→List ByteArray→Int
 |0,_=>0
 |_,[]=>0
 |f+1,s::r=>((J6 s.size r+1:Nat):Int)*(s.size:Int)+3*min ((J6 s.size r+1:Nat):Int) 2+runF f (r.drop (J6 s.size r))
def Ff (l:List ByteArray):Int:=4+runF l.length l
theorem size1_any (n z g:Nat) (m:Int) (w:World) (hg:Blk w g 3 #[.int .i64 m]) (hn:1≤n) (hn2:n≤2000) (hz:z≤200) (hm0:0≤m) (hm:m≤1000000):
  Calls prog 185 #[.int .i64 n,.int .i64 z,.pointer (some ⟨g,0,none⟩)] w fun e w'=>e = .returned (.tuple #[])∧w'=w.setCell ⟨g,0,none⟩ (.int .i64 (m+((n:Int)*(z:Int)+3*min (n:Int) 2))):=by
 have c0:=(hg.cell 0).trans (show _=some (Value.int .i64 m) from rfl);have f0:=hg.free 0
 have hp:(n:Int)*(z:Int)≤400000:=by
  have h:n*z≤400000:=Lx (Nat.mul_le_mul hn2 hz) (by decide);rw [←Int.natCast_mul];exact Int.ofNat_le.2 h
 have hp0:0≤(n:Int)*(z:Int):=Int.mul_nonneg (by omega) (by omega);obtain ⟨p,hpp⟩:∃ p,(n:Int)*(z:Int)=p:=⟨_,rfl⟩
 have HP:=Hd hpp;rw [hpp] at hp hp0 ⊢;have hw:IntKind.i64.wrap ((n:Int)*(z:Int))=p:=by rw [hpp];exact IntWalk.i64_in _ (by omega)
 clear hg;by_cases h1:n=1
 ·subst h1
  have e2:m+((z:Int)+3)=m+(p+3*min ((1:Nat):Int) 2):=by have:=HP.out;simp at this;omega
  have HE:=Hd e2;clear e2;go_enter Tryz.func185,Tryz.ntmps185;go_wp2
  go_end0
  exact ⟨rfl,by rw [←HE.out];try rfl⟩
 by_cases h2:n=2
 ·subst h2
  have e2:m+(2*(z:Int)+6)=m+(p+3*min ((2:Nat):Int) 2):=by have:=HP.out;simp at this;omega
  have HE:=Hd e2;clear e2;go_enter Tryz.func185,Tryz.ntmps185;go_wp2
  go_end0
  exact ⟨rfl,by rw [←HE.out];try rfl⟩
 have h3:¬ ((n:Int)≤2):=by omega
 have h4:¬ ((n:Int)<2):=by omega
 have h5:(2:Int)<n:=by omega
 have e2:m+(p+6)=m+(p+3*min (n:Int) 2):=by omega
 have HE:=Hd e2;clear e2 h1 h2;go_enter Tryz.func185,Tryz.ntmps185;go_wp2
 go_end0
 exact ⟨rfl,by rw [←HE.out];try rfl⟩
def slLen:Value→Nat
 |.slice _ n _=>n
 |_=>0
def SumP (g:Nat) (m:Int) (w w':World):Prop:=Blk w' g 3 #[.int .i64 m]∧Far [g] w w'
theorem run_sum (z k:Nat) (hz:z≤200):((k:Nat):Int)*(z:Int)+3*min (k:Int) 2≤206*(k:Int):=by
 have h:k*z≤k*200:=Nat.mul_le_mul (Le _) hz
 have h2:((k:Nat):Int)*(z:Int)≤200*(k:Int):=by
  rw [←Int.natCast_mul];have:((k*z:Nat):Int)≤((k*200:Nat):Int):=Int.ofNat_le.2 h;rw [Int.natCast_mul k 200] at this;omega
 omega
theorem sl_far1 {n c g:Nat} {A:Option Addr} {l:List ByteArray} {w w':World} {v:Value} (h:Sl Ug 1 w w.heap.size A n c l) (hg:Blk w g 3 #[v]) (hi:∃ m,v = .int .i64 m) (hf:Far [g] w w'):Sl Ug 1 w' w'.heap.size A n c l:=by
 refine ⟨h.1,h.2.1,h.2.2.1,fun hn=>?_⟩;obtain ⟨b,o,rfl,hb,hc⟩:=h.2.2.2 hn;refine ⟨b,o,rfl,Nat.lt_of_lt_of_le hb hf.size,fun j u hu=>?_⟩
 have hne:b≠g:=by
  intro e;subst e;obtain ⟨m,rfl⟩:=hi;have hl:l.length=n:=h.2.1;obtain ⟨s,hs⟩:∃ s,l[0]? =some s:=⟨_,List.getElem?_eq_getElem (by omega)⟩
  have h0:(Ua Ug l)[0]? =some (.string s):=by
   have:=Xx (f:=Ug) (k:=1) (fun _=>rfl) l 0 s hs 0 (by decide);rw [Nat.zero_mul,Nat.zero_add] at this;exact this
  have hcc:=hc 0 _ h0;rw [hg.cell,Nat.add_zero] at hcc;rcases Nat.eq_zero_or_pos o with ho|ho
  ·subst ho
   simp at hcc
  ·simp [Nat.ne_of_gt ho] at hcc
 rw [World.cell?_of_block (hf.block b hb (by simpa using hne))];exact hc j u hu
theorem sl_drop1 {n c k:Nat} {A:Option Addr} {l:List ByteArray} {w:World} {B:Nat} (h:Sl Ug 1 w B A n c l) (hk:k≤n):Sl Ug 1 w B (if c=k then A else A.map (·.add (k*1))) (n-k) (c-k) (l.drop k):=by
 have h1:=h.cap;refine ⟨by omega,by rw [List.length_drop,h.len],?_⟩;have h2:=h.rd.drop hk h1
 rwa [F1 (f:=Ug) (k:=1) (fun _=>rfl) l k] at h2
end
section
set_option maxRecDepth 100000
set_option maxHeartbeats 4000000
open Go.RowKit
theorem Fe (W:World) (a:Option Addr) (j cap k:Nat) (hk:k≤j):(Instr.slice 150 (.slice a j cap) (some (.int .i64 (k:Int))) none none).run prog W = .ok (.slice (if cap=k then a else a.map (·.add (k*1))) (j-k) (cap-k)) W:=by
 have h:=run_slice_l (P:=prog) (w:=W) 150 a j cap Tryz.underlying150 .i64 (k:Int) (by omega) (by omega);rw [h,show prog.elem 150=9 from by kernel_rfl,Tryz.sizeOf9 W];simp [Result.andThen,sliced]
theorem min_le2 (k:Nat):0≤3*min (k:Int) 2:=by omega
theorem runs_any (g:Nat) (m:Int) (A:Option Addr) (n c:Nat) (l:List ByteArray) (w:World) (hs:Sl Ug 1 w w.heap.size A n c l) (hg:Blk w g 3 #[.int .i64 m]) (hz:∀ s∈l,s.size≤200) (hn:n≤2000) (hm0:0≤m) (hm:m≤10):
  Calls prog 184 #[.slice A n c,.func (.func 185) #[] #[.pointer (some ⟨g,0,none⟩)]] w fun e w'=>e = .returned (.tuple #[])∧SumP g (m+runF l.length l) w w':=by
 obtain ⟨R,hR⟩:∃ R,m+runF l.length l=R:=⟨_,rfl⟩
 rw [hR];have HR:=Hd hR;have HS:=Hd hs;have HZ:=Hd hz;have HG:=Hd hg;have HLN:Hid (n≤l.length):=Hd (by rw [hs.len];exact Le _);clear hs hg hz hR;go_enter Tryz.func184,Tryz.ntmps184;go_wp2;go_loopw [0] (fun v wr => ∃ (A1:Option Addr) (n1 c1 f:Nat) (l1:List ByteArray) (acc:Int),v = .slice A1 n1 c1∧Sl Ug 1 wr wr.heap.size A1 n1 c1 l1∧n1≤f∧(∀ s∈l1,s.size≤200)∧n1≤n∧0≤acc∧acc≤10+206*((n:Int)-n1)∧acc+runF f l1=R∧Blk wr g 3 #[.int .i64 acc]∧Far [g] w wr) (fun v _=>slLen v)
 case atStart=>exact ⟨A,n,c,l.length,l,m,rfl,HS.out,HLN.out,HZ.out,Le _,hm0,by omega,HR.out,HG.out,Far.refl _ _⟩
 case round=>
  obtain ⟨A1,n1,c1,f,l1,acc,rfl,hs,hnf,hz,hnn,ha0,ha1,hrec,hg,hfar⟩:=hrel;obtain ⟨wx,rfl⟩:∃ z:World,z=wr:=⟨_,rfl⟩
  have HS1:=Hd hs;have HL1:=Hd hs.len;have HZ1:=Hd hz;have HG1:=Hd hg;have HFAR:=Hd hfar;have HREC:=Hd hrec;have hcap:=hs.cap;clear hz hg hfar hrec;by_cases h0:0<n1
  ·obtain ⟨b,o,s0,hA,hb,hg0,hcell0⟩:=Sl.cell (f:=Ug) (k:=1) (fun _=>rfl) hs h0
   have c0:=hcell0 0 _ rfl;simp only [Nat.add_zero,Nat.mul_one] at c0;subst hA
   obtain ⟨r,hr⟩:∃ r,l1=s0::r:=by
    cases l1 with
    |nil=>simp at hg0
    |cons x r=>injection hg0 with e;exact ⟨r,by rw [e]⟩
   have HLR:=Hd hr;have HSZ:Hid (s0.size≤200):=Hd (HZ1.out s0 (by rw [hr];exact List.mem_cons_self));have hsz:=HSZ.out;have HC0:=Hd c0;clear hb hg0 hcell0 hr hs;go_wp2_with fail;go_loopw [4] (fun v4 wy => ∃ d k:Nat,wy=wx.drewN d∧v4 = .int .i64 k∧1≤k∧k≤n1∧Hid (∀ t,1≤t→t<k→∀ s,l1[t]? =some s→s.size=s0.size)) (fun v _=>n1-(intOf v).toNat)
   case atStart=>exact ⟨0,1,rfl,rfl,Le _,h0,Hd fun t h1 h2=>absurd h1 (by omega)⟩
   case round=>
    obtain ⟨d,k,rfl,rfl,hk1,hkn,HK⟩:=hrel;have d0:wx.cell? ⟨b,o,none⟩=some (.string s0):=HC0.out;clear c0;by_cases hlt:k<n1
    ·obtain ⟨b2,o2,s,hA2,hb2,hgk,hcell⟩:=Sl.cell (f:=Ug) (k:=1) (fun _=>rfl) HS1.out hlt
     injection hA2 with hA2
     injection hA2 with hA3 hA4 _
     subst hA3;subst hA4;have ck:=hcell 0 _ rfl;simp only [Nat.add_zero,Nat.mul_one] at ck;have dk:wx.cell? ⟨b,o+k,none⟩=some (.string s):=ck;have HGK:=Hd hgk;have x1:decide (k<n1)=true:=by simpa using hlt
     have x2:decide ((k:Int)<(n1:Int))=true:=by simp;omega
     have ka:(0:Int)≤(k:Int):=by omega
     have kb:(k:Int)<(n1:Int):=by omega
     have kc:(0:Int)<(n1:Int):=by omega
     clear hb2 hgk hcell ck;by_cases he:s.size=s0.size
     ·have x3:((s.size:Int) == (s0.size:Int))=true:=by simp [he]
      have HE:=Hd he;clear he;go_wp2_with fail
      go_quiet (fail)
      go_wp2;go_roundw
      case rel=>
       refine ⟨d+nq,k+1,rfl,by go_num,by omega,by omega,Hd fun t h1 h2 x hx=>?_⟩;by_cases h:t=k
       ·subst h
        rw [HGK.out] at hx;injection hx with hx
        subst hx;exact HE.out
       ·exact HK.out t h1 (by omega) x hx
      case measure=>simp [intOf];omega
     ·have x3:((s.size:Int) == (s0.size:Int))=false:=by simp;omega
      have HNE:=Hd he;clear he;go_wp2_with fail
      go_quiet (fail)
      go_wp2_with fail;have HRK:Hid (J6 s0.size r=k-1):=Hd (by rw [HLR.out] at HK HL1;exact runK_is r (k-1) (by have:=HL1.out;simp at this;omega) (fun t ht s hs=>HK.out (t+1) (by omega) (by omega) s (by simpa using hs)) (fun s hs=>by have h3:=HGK.out;rw [HLR.out,show k=(k-1)+1 from by omega,Gn,hs] at h3;injection h3 with h3;subst h3;exact HNE.out));obtain ⟨W8,hW8⟩:∃ W8,wx.drewN (d+nq)=W8:=⟨_,rfl⟩
      have HG8:Hid (Blk W8 g 3 #[.int .i64 acc]):=Hd (by rw [←hW8];exact HG1.out);have HF8:Hid (Far [g] wx W8):=Hd (by rw [←hW8];exact (Far.refl _ _).drewN _);have e0:W8.cell? ⟨b,o,none⟩=some (.string s0):=by rw [←hW8];exact HC0.out
      rw [hW8];clear d0 hW8;have HC1:=Hd (size1_any k s0.size g acc W8 HG8.out hk1 (by omega) HSZ.out ha0 (by omega));obtain ⟨B2,hB2⟩:∃ B2,(if c1=k then some (⟨b,o,none⟩:Addr) else (some (⟨b,o,none⟩:Addr)).map (·.add (k*1)))=B2:=⟨_,rfl⟩
      obtain ⟨acc2,hacc⟩:∃ acc2,acc+((k:Int)*(s0.size:Int)+3*min (k:Int) 2)=acc2:=⟨_,rfl⟩
      have HBB:=Hd hB2;have HAC:=Hd hacc;rw [hacc] at HC1;have hsl:=fun W=>Fe W (some ⟨b,o,none⟩) n1 c1 k hkn
      rw [hB2] at hsl;clear hB2 hacc;go_wp2_with (go_at_call 185;refine HC1.out.mono ?_;rintro e w5 ⟨rfl,rfl⟩);go_roundw
      case rel=>
       have hg5:Blk (W8.setCell ⟨g,0,none⟩ (.int .i64 acc2)) g 3 #[.int .i64 acc2]:=HG8.out.set 0 _;have hf5:Far [g] wx (W8.setCell ⟨g,0,none⟩ (.int .i64 acc2)):=HF8.out.set _ _ _ (.inl (by simp));have hs5:=sl_drop1 (sl_far1 HS1.out HG1.out ⟨acc,rfl⟩ hf5) hkn;rw [HBB.out] at hs5;obtain ⟨f2,hf2⟩:∃ f2,f=f2+1:=⟨f-1,by omega⟩
       have hrun:=run_sum s0.size k HSZ.out;have hrun0:0≤(k:Int)*(s0.size:Int):=Int.mul_nonneg (by omega) (by omega);have hm2:=min_le2 k;have hac:=HAC.out;refine ⟨B2,n1-k,c1-k,f2,l1.drop k,acc2,rfl,hs5,by omega,fun s hs=>HZ1.out s (List.mem_of_mem_drop hs),by omega,by omega,by omega,?_,hg5,HFAR.out.trans hf5⟩;rw [←HREC.out,hf2,HLR.out];have hk2:k=(k-1)+1:=by omega
       have hru:runF (f2+1) (s0::r)=((J6 s0.size r+1:Nat):Int)*(s0.size:Int)+3*min ((J6 s0.size r+1:Nat):Int) 2+runF f2 (r.drop (J6 s0.size r)):=rfl;rw [hru,HRK.out,←hk2,←hac]
       have hdd:(s0::r).drop k=r.drop (k-1):=by
        conv=>lhs;rw [hk2]
        rfl
       rw [hdd];omega
      case measure=>simp [slLen];omega
    ·have x1:decide (k<n1)=false:=by simpa using hlt
     have x2:decide ((k:Int)<(n1:Int))=false:=by simp;omega
     go_wp2_with fail
     go_quiet (fail)
     go_wp2_with fail;have HRK:Hid (J6 s0.size r=k-1):=Hd (by rw [HLR.out] at HK HL1;exact runK_is r (k-1) (by have:=HL1.out;simp at this;omega) (fun t ht s hs=>HK.out (t+1) (by omega) (by omega) s (by simpa using hs)) (fun s hs=>by exfalso;have:=(List.getElem?_eq_some_iff.1 hs).1;have h2:=HL1.out;simp at h2;omega));obtain ⟨W8,hW8⟩:∃ W8,wx.drewN (d+nq)=W8:=⟨_,rfl⟩
     have HG8:Hid (Blk W8 g 3 #[.int .i64 acc]):=Hd (by rw [←hW8];exact HG1.out);have HF8:Hid (Far [g] wx W8):=Hd (by rw [←hW8];exact (Far.refl _ _).drewN _);have e0:W8.cell? ⟨b,o,none⟩=some (.string s0):=by rw [←hW8];exact HC0.out
     rw [hW8];clear d0 hW8;have HC1:=Hd (size1_any k s0.size g acc W8 HG8.out hk1 (by omega) HSZ.out ha0 (by omega));obtain ⟨B2,hB2⟩:∃ B2,(if c1=k then some (⟨b,o,none⟩:Addr) else (some (⟨b,o,none⟩:Addr)).map (·.add (k*1)))=B2:=⟨_,rfl⟩
     obtain ⟨acc2,hacc⟩:∃ acc2,acc+((k:Int)*(s0.size:Int)+3*min (k:Int) 2)=acc2:=⟨_,rfl⟩
     have HBB:=Hd hB2;have HAC:=Hd hacc;rw [hacc] at HC1;have hsl:=fun W=>Fe W (some ⟨b,o,none⟩) n1 c1 k hkn
     rw [hB2] at hsl;clear hB2 hacc;go_wp2_with (go_at_call 185;refine HC1.out.mono ?_;rintro e w5 ⟨rfl,rfl⟩);go_roundw
     case rel=>
      have hg5:Blk (W8.setCell ⟨g,0,none⟩ (.int .i64 acc2)) g 3 #[.int .i64 acc2]:=HG8.out.set 0 _;have hf5:Far [g] wx (W8.setCell ⟨g,0,none⟩ (.int .i64 acc2)):=HF8.out.set _ _ _ (.inl (by simp));have hs5:=sl_drop1 (sl_far1 HS1.out HG1.out ⟨acc,rfl⟩ hf5) hkn;rw [HBB.out] at hs5;obtain ⟨f2,hf2⟩:∃ f2,f=f2+1:=⟨f-1,by omega⟩
      have hrun:=run_sum s0.size k HSZ.out;have hrun0:0≤(k:Int)*(s0.size:Int):=Int.mul_nonneg (by omega) (by omega);have hm2:=min_le2 k;have hac:=HAC.out;refine ⟨B2,n1-k,c1-k,f2,l1.drop k,acc2,rfl,hs5,by omega,fun s hs=>HZ1.out s (List.mem_of_mem_drop hs),by omega,by omega,by omega,?_,hg5,HFAR.out.trans hf5⟩;rw [←HREC.out,hf2,HLR.out];have hk2:k=(k-1)+1:=by omega
      have hru:runF (f2+1) (s0::r)=((J6 s0.size r+1:Nat):Int)*(s0.size:Int)+3*min ((J6 s0.size r+1:Nat):Int) 2+runF f2 (r.drop (J6 s0.size r)):=rfl;rw [hru,HRK.out,←hk2,←hac]
      have hdd:(s0::r).drop k=r.drop (k-1):=by
       conv=>lhs;rw [hk2]
       rfl
      rw [hdd];omega
     case measure=>simp [slLen];omega
  ·obtain rfl:n1=0:=by omega
   have hl0:l1 = []:=List.eq_nil_of_length_eq_zero HL1.out;have hq:acc=R:=by rw [←HREC.out,hl0];cases f<;>simp [runF]
   have HQ:=Hd hq;clear hq hl0;go_wp2
   go_end0
   exact ⟨rfl,by rw [←HQ.out];exact HG1.out,HFAR.out⟩
theorem size_any (A:Option Addr) (n c:Nat) (l:List ByteArray) (w:World) (hs:Sl Ug 1 w w.heap.size A n c l) (hz:∀ s∈l,s.size≤200) (hn:n≤2000):
  Calls prog 146 #[.slice A n c] w fun e w'=>e = .returned (.int .i64 (Ff l))∧Below w.heap.size w w':=by
 have HC:=Hd (runs_any w.heap.size 4 A n c l (w.alloc (.cells #[.int .i64 4] 3)) (hs.after ((Bf _ _).alloc (Le _) _) (by simp)) (Blk.new w 3 #[.int .i64 4]) hz hn (by decide) (by decide));unfold Ff;generalize 4+runF l.length l=R at HC;clear hs hz;go_enter Tryz.func146,Tryz.ntmps146;go_wp2_with (go_at_call 184;refine HC.out.mono ?_;rintro e w2 ⟨rfl,h1,h2⟩;have c0:=(h1.cell 0).trans (show _=some (Value.int .i64 R) from rfl);have HF:=Hd h2;clear h1 h2);go_ret;exact ⟨rfl,(((Far.refl [w.heap.size] w).alloc _).trans HF.out).below (by simp) (Le _)⟩
def fitsB (z:Int) (l:List ByteArray):Bool:=Ek z&&alwB l&&decide (Ff l≤z)
theorem ifits_any (z:Int) (A:Option Addr) (n c:Nat) (l:List ByteArray) (w:World) (hs:Sl Ug 1 w w.heap.size A n c l) (hn:n≤2000):
  Calls prog 121 #[.int .i64 z,.slice A n c] w fun e w'=>e = .returned (.bool (fitsB z l))∧Below w.heap.size w w':=by
 have HS:=Hd hs;unfold fitsB;have HI:=Hd fun W=>isSize_any z W
 obtain ⟨q1,h1⟩:∃ q,Ek z=q:=⟨_,rfl⟩
 rw [h1];simp only [h1] at HI;clear h1 hs;cases q1 with
 |false=>
  go_enter Tryz.func121,Tryz.ntmps121;go_wp2_with (go_at_call 144;refine (HI.out _).mono ?_;rintro e w2 ⟨rfl,rfl⟩);go_ret;exact ⟨rfl,Bf _ _⟩
 |true=>
  have HA:=Hd (ialw_any A n c l w HS.out hn);obtain ⟨q2,h2⟩:∃ q,alwB l=q:=⟨_,rfl⟩
  rw [h2];rw [h2] at HA;cases q2 with
  |false=>
   clear h2;go_enter Tryz.func121,Tryz.ntmps121;go_wp2_with (first|(go_at_call 144;refine (HI.out _).mono ?_;rintro e w2 ⟨rfl,rfl⟩)|(go_at_call 145;refine HA.out.mono ?_;rintro e w2 ⟨rfl,rfl⟩));go_ret;exact ⟨rfl,Bf _ _⟩
  |true=>
   have hz:∀ s∈l,s.size≤200:=fun s hs=>by
    have:=List.all_eq_true.1 h2 s hs;unfold alwS at this;simp at this;omega
   have HC:=Hd (size_any A n c l w HS.out hz hn);clear h2 hz;by_cases h3:Ff l≤z
   ·have d3:decide (Ff l≤z)=true:=by simpa using h3
    rw [d3];generalize Ff l=S at HC h3 d3;go_enter Tryz.func121,Tryz.ntmps121;go_wp2_with (first|(go_at_call 144;refine (HI.out _).mono ?_;rintro e w2 ⟨rfl,rfl⟩)|(go_at_call 145;refine HA.out.mono ?_;rintro e w2 ⟨rfl,rfl⟩)|(go_at_call 146;refine HC.out.mono ?_;rintro e w2 ⟨rfl,hb⟩;have HB:=Hd hb;clear hb));go_ret;exact ⟨rfl,HB.out⟩
   ·have d3:decide (Ff l≤z)=false:=by simpa using h3
    rw [d3];generalize Ff l=S at HC h3 d3;go_enter Tryz.func121,Tryz.ntmps121;go_wp2_with (first|(go_at_call 144;refine (HI.out _).mono ?_;rintro e w2 ⟨rfl,rfl⟩)|(go_at_call 145;refine HA.out.mono ?_;rintro e w2 ⟨rfl,rfl⟩)|(go_at_call 146;refine HC.out.mono ?_;rintro e w2 ⟨rfl,hb⟩;have HB:=Hd hb;clear hb));go_ret;exact ⟨rfl,HB.out⟩
end
end Go.Proofs.YtapanepkfbamhaaGreatDoor
