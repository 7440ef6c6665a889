/- Part of the proof of HistoryReads. -/
import Derived.Test.YtapanepkfbamhaaGreatDoorShelfJ
import Derived.Test.YtapanepkfbamhaaGreatDoorJAG
import Derived.Lib.SmallJoins
import Derived.Lib.AppendIntMem
namespace Go.Proofs.YtapanepkfbamhaaGreatDoor
open Tryz (prog)
section
set_option maxRecDepth 100000
set_option maxHeartbeats 400000
open Go.RowKit
def upB (z:Int):Bool:=decide (65≤z)&&decide (z≤90)
def dgB (z:Int):Bool:=decide (48≤z)&&decide (z≤57)
def plB (z:Int):Bool:=upB z || dgB z
theorem Kk (z:Int) (w:World):Calls prog 246 #[.int .u8 z] w fun e w'=>e = .returned (.bool (upB z))∧w=w':=by
 unfold upB;by_cases h1:65≤z
 ·by_cases h2:z≤90
  ·rw [decide_eq_true h1,decide_eq_true h2]
   go_enter Tryz.func246,Tryz.ntmps246;go_wp2;go_ret;exact ⟨by first|rfl|simp [h1,h2],rfl⟩
  ·have h3:90<z:=by omega
   have h4:decide (z≤90)=false:=decide_eq_false h2;rw [decide_eq_true h1,h4];clear h2;go_enter Tryz.func246,Tryz.ntmps246;go_wp2;go_ret;exact ⟨by first|rfl|simp [h4],rfl⟩
 ·have h3:z<65:=by omega
  have h4:decide (65≤z)=false:=decide_eq_false h1;rw [h4];clear h1;go_enter Tryz.func246,Tryz.ntmps246;go_wp2;go_ret;exact ⟨by first|rfl|simp [h4],rfl⟩
theorem digit_any (z:Int) (w:World):Calls prog 282 #[.int .u8 z] w fun e w'=>e = .returned (.bool (dgB z))∧w=w':=by
 unfold dgB;by_cases h1:48≤z
 ·by_cases h2:z≤57
  ·rw [decide_eq_true h1,decide_eq_true h2]
   go_enter Tryz.func282,Tryz.ntmps282;go_wp2;go_ret;exact ⟨by first|rfl|simp [h1,h2],rfl⟩
  ·have h3:57<z:=by omega
   have h4:decide (z≤57)=false:=decide_eq_false h2;rw [decide_eq_true h1,h4];clear h2;go_enter Tryz.func282,Tryz.ntmps282;go_wp2;go_ret;exact ⟨by first|rfl|simp [h4],rfl⟩
 ·have h3:z<48:=by omega
  have h4:decide (48≤z)=false:=decide_eq_false h1;rw [h4];clear h1;go_enter Tryz.func282,Tryz.ntmps282;go_wp2;go_ret;exact ⟨by first|rfl|simp [h4],rfl⟩
theorem plain_any (z:Int) (w:World):Calls prog 247 #[.int .u8 z] w fun e w'=>e = .returned (.bool (plB z))∧w=w':=by
 have HU:=Hd (fun W=>Kk z W);have HD:=Hd (fun W=>digit_any z W);unfold plB;obtain ⟨d,hd⟩:∃ d,dgB z=d:=⟨_,rfl⟩
 obtain ⟨u,hu⟩:∃ u,upB z=u:=⟨_,rfl⟩
 simp only [hd] at HD;simp only [hu] at HU;rw [hu,hd];clear hu hd;cases u with
 |true=>
  go_enter Tryz.func247,Tryz.ntmps247;go_wp2_with (first|(go_at_call 246;refine (HU.out _).mono ?_;rintro e w1 ⟨rfl,rfl⟩)|(go_at_call 282;refine (HD.out _).mono ?_;rintro e w1 ⟨rfl,rfl⟩));go_ret;exact ⟨rfl,rfl⟩
 |false=>
  go_enter Tryz.func247,Tryz.ntmps247;go_wp2_with (first|(go_at_call 246;refine (HU.out _).mono ?_;rintro e w1 ⟨rfl,rfl⟩)|(go_at_call 282;refine (HD.out _).mono ?_;rintro e w1 ⟨rfl,rfl⟩));go_ret;exact ⟨by simp,rfl⟩
def Zq (s:ByteArray):Bool:=decide (1≤s.size)&&decide (s.size≤8)&&upB (bAt s 0)&&(List.range s.size).all fun i=>decide (i=0) || plB (bAt s i)
theorem qualB_no {s:ByteArray} {j:Nat} (hj:j<s.size) (h0:j≠0) (h:plB (bAt s j)=false):Zq s=false:=by
 unfold Zq;rw [El hj (by simp [h0,h])];simp
theorem qual_any (s:ByteArray) (w:World) (hs:s.size≤maxLen):Calls prog 245 #[.string s,.func (.func 246) #[] #[],.func (.func 247) #[] #[]] w fun e w'=>e = .returned (.bool (Zq s))∧w=w':=by
 unfold maxLen at hs;obtain ⟨R,hR⟩:∃ R,Zq s=R:=⟨_,rfl⟩
 rw [hR];have HR:=Hd hR;clear hR;by_cases h0:s.size<1
 ·have HF:=Hd (show R=false by rw [←HR.out];unfold Zq;rw [decide_eq_false (by omega)];simp)
  go_enter Tryz.func245,Tryz.ntmps245;go_wp2;go_ret;exact ⟨by rw [HF.out];rfl,rfl⟩
 ·by_cases h8:8<s.size
  ·have HF:=Hd (show R=false by rw [←HR.out];unfold Zq;rw [decide_eq_false (show ¬ s.size≤8 by omega)];simp)
   go_enter Tryz.func245,Tryz.ntmps245;go_wp2;go_ret;exact ⟨by rw [HF.out];rfl,rfl⟩
  ·have hlt0:0<s.size:=by omega
   obtain ⟨b,hb⟩:∃ b,(s[0]).toNat=b:=⟨_,rfl⟩
   have hbb:bAt s 0=b:=by rw [Zd s 0 hlt0,hb]
   have hb3:=(s[0]).toNat_lt;rw [hb] at hb3;have HBB:=Hd hbb;clear hbb;obtain ⟨u,hu⟩:∃ u,upB (b:Int)=u:=⟨_,rfl⟩
   have HU:=Hd (fun W=>Kk (b:Int) W);simp only [hu] at HU;cases u with
   |false=>
    have HF:=Hd (show R=false by rw [←HR.out];unfold Zq;rw [HBB.out,hu];simp);clear hu;go_enter Tryz.func245,Tryz.ntmps245;go_wp2_with (go_at_call 246;refine (HU.out _).mono ?_;rintro e w1 ⟨rfl,rfl⟩);go_ret;exact ⟨by rw [HF.out];rfl,rfl⟩
   |true=>
    have HU1:=Hd hu;clear hu;go_enter Tryz.func245,Tryz.ntmps245;go_wp2_with (go_at_call 246;refine (HU.out _).mono ?_;rintro e w1 ⟨rfl,rfl⟩);clear hb;go_loop [7] (fun i => ∃ j:Nat,1≤j∧j≤s.size∧i = .int .i64 j∧∀ t,t<j→t≠0→plB (bAt s t)=true) (fun i=>s.size-(intOf i).toNat)
    case atStart=>exact ⟨1,Le _,by omega,rfl,fun t h k=>absurd h (by omega)⟩
    case round=>
     obtain ⟨j,j1,hj,rfl,hall⟩:=hrel;have HA:=Hd hall;clear hall;by_cases hlt:j<s.size
     ·obtain ⟨c,hc⟩:∃ c,(s[j]).toNat=c:=⟨_,rfl⟩
      have hcc:bAt s j=c:=by rw [Zd s j hlt,hc]
      have hc3:=(s[j]).toNat_lt;rw [hc] at hc3;have HCC:=Hd hcc;clear hcc;obtain ⟨p,hp⟩:∃ p,plB (c:Int)=p:=⟨_,rfl⟩
      have HP:=Hd (fun W=>plain_any (c:Int) W);simp only [hp] at HP;have HPP:=Hd hp;clear hp;cases p with
      |false=>
       have HF:=Hd (show R=false by rw [←HR.out];exact qualB_no hlt (by omega) (by rw [HCC.out];exact HPP.out));go_wp2_with (go_at_call 247;refine (HP.out _).mono ?_;rintro e w1 ⟨rfl,rfl⟩);go_ret;exact ⟨by rw [HF.out];rfl,rfl⟩
      |true=>
       go_wp2_with (go_at_call 247;refine (HP.out _).mono ?_;rintro e w1 ⟨rfl,rfl⟩)
       go_round
       case rel=>
        refine ⟨j+1,by omega,by omega,by go_num,fun t ht k=>?_⟩;by_cases e:t=j
        ·subst e;rw [HCC.out];exact HPP.out
        ·exact HA.out t (by omega) k
       case measure=>simp [intOf];omega
     ·obtain rfl:j=s.size:=by omega
      have HT:=Hd (show R=true by
       rw [←HR.out];unfold Zq;rw [HBB.out,HU1.out,decide_eq_true (show 1≤s.size by omega),decide_eq_true (show s.size≤8 by omega),Es (fun t ht=>by by_cases e:t=0;simp [e];simp [e,HA.out t ht e])];rfl)
      go_wp2;go_ret;exact ⟨by rw [HT.out];rfl,rfl⟩
theorem valid1_any (s:ByteArray) (w:World) (hs:s.size≤maxLen):Calls prog 244 #[.string s] w fun e w'=>e = .returned (.bool (Zq s))∧w=w':=by
 have HQ:=Hd (qual_any s w hs);go_enter Tryz.func244,Tryz.ntmps244;go_wp2_with (go_at_call 245;refine HQ.out.mono ?_;rintro e w1 ⟨rfl,rfl⟩);go_ret;exact ⟨rfl,rfl⟩
def genL (s:ByteArray):Nat→Nat→Int→Int
 |0,_,n=>n
 |f+1,i,n=>if dgB (bAt s i) then genL s f (i+1) (10*n+((bAt s i:Int)-48)) else 0
def v00:ByteArray:=⟨#[86,48,48]⟩
def Ky (s:ByteArray):Int:=if s.size≠8 then 0 else if bAt s 0≠71 then 0 else if s.extract 5 s.size≠v00 then 0 else genL s 4 1 0
theorem genL_range (s:ByteArray):∀ (f i:Nat) (n m:Int),0≤n→n≤m→0≤genL s f i n∧genL s f i n≤10 ^ f*(m+1)
 |0,_,n,m,h0,h1=>by unfold genL;exact ⟨h0,by omega⟩
 |f+1,i,n,m,h0,h1=>by
  unfold genL;have hp:(0:Int)<10 ^ f:=Int.pow_pos (by decide);split
  ·rename_i h
   simp [dgB] at h;obtain ⟨k0,k1⟩:=genL_range s f (i+1) (10*n+((bAt s i:Int)-48)) (10*m+9) (by omega) (by omega);refine ⟨k0,Int.le_trans k1 (Int.le_of_eq ?_)⟩;rw [Int.pow_succ,Int.mul_assoc];congr 1;omega
  ·refine ⟨by omega,Int.mul_nonneg (Int.le_of_lt (Int.pow_pos (by decide))) (by omega)⟩
theorem genN_range (s:ByteArray):0≤Ky s∧Ky s≤10000:=by
 unfold Ky;split
 ·omega
 ·split
  ·omega
  ·split
   ·omega
   ·have:=genL_range s 4 1 0 0 (by omega) (by omega)
    omega
theorem gnum_any (s:ByteArray) (w:World):Calls prog 252 #[.string s] w fun e w'=>e = .returned (.int .i64 (Ky s))∧w=w':=by
 obtain ⟨R,hR⟩:∃ R,Ky s=R:=⟨_,rfl⟩
 rw [hR];unfold Ky at hR;by_cases h8:s.size=8
 ·rw [if_neg (by simpa using h8)] at hR
  have hlt0:0<s.size:=by omega
  obtain ⟨b,hb⟩:∃ b,(s[0]).toNat=b:=⟨_,rfl⟩
  have hbb:bAt s 0=b:=by rw [Zd s 0 hlt0,hb]
  have hb3:=(s[0]).toNat_lt;rw [hb] at hb3;rw [hbb] at hR;clear hbb;have h88:((s.size:Int) != 8)=false:=by simp;omega
  by_cases hG:b=71
  ·rw [if_neg (by simpa using hG)] at hR
   rw [h8] at hR;have hz:=beq_ba (s.extract 5 8) v00;rw [show v00.toList = [86,48,48] from by rw [V2];rfl] at hz;by_cases hv:s.extract 5 8=v00
   ·rw [if_neg (by simpa using hv)] at hR
    have HR:=Hd hR;clear hR;rw [decide_eq_true hv] at hz;subst hG;have HV:=Hd hv;clear hv;go_enter Tryz.func252,Tryz.ntmps252;go_wp2;clear hb hz;go_loop [3,4] (fun n i => ∃ (j f:Nat) (m:Int),j+f=5∧1≤j∧0≤m∧m<10 ^ j∧n = .int .i64 m∧i = .int .i64 j∧genL s f j m=R) (fun _ i=>5-(intOf i).toNat)
    case atStart=>exact ⟨1,4,0,rfl,Le _,by omega,by decide,rfl,rfl,HR.out⟩
    case round=>
     obtain ⟨j,f,m,hj,j1,m0,m1,rfl,rfl,hrec⟩:=hrel
     match f,hj,hrec with
     |0,hj,hrec=>
      obtain rfl:j=5:=by omega
      have HREC:=Hd hrec;clear hrec;go_wp2;go_ret;exact ⟨by rw [←HREC.out];rfl,rfl⟩
     |f+1,hj,hrec=>
      have hlt:j<s.size:=by omega
      have h5:j<5:=by omega
      obtain ⟨c,hc⟩:∃ c,(s[j]).toNat=c:=⟨_,rfl⟩
      have hcc:bAt s j=c:=by rw [Zd s j hlt,hc]
      have hc3:=(s[j]).toNat_lt;rw [hc] at hc3;unfold genL at hrec;rw [hcc] at hrec;clear hcc;obtain ⟨p,hp⟩:∃ p,dgB (c:Int)=p:=⟨_,rfl⟩
      have HP:=Hd (fun W=>digit_any (c:Int) W);simp only [hp] at HP;rw [hp] at hrec
      have hp10:(10:Int) ^ j≤10000:=by
       have:j≤4:=by omega
       match j,this with
       |0,_=>decide
       |1,_=>decide
       |2,_=>decide
       |3,_=>decide
       |4,_=>decide
      cases p with
      |false=>
       have HREC:=Hd hrec;clear hrec hp;go_wp2_with (go_at_call 282;refine (HP.out _).mono ?_;rintro e w1 ⟨rfl,rfl⟩);go_ret;exact ⟨by rw [←HREC.out];rfl,rfl⟩
      |true=>
       simp [dgB] at hp;have HREC:=Hd hrec;have hw1:IntKind.u8.wrap ((c:Int)-48)=(c:Int)-48:=by rw [IntKind.wrap_u8];omega
       have HJ:=Hd hj;have hnx:10*m+((c:Int)-48)<10 ^ (j+1):=by rw [Int.pow_succ];omega
       have HNX:=Hd hnx;clear hrec hj hnx;go_wp2_with (go_at_call 282;refine (HP.out _).mono ?_;rintro e w1 ⟨rfl,rfl⟩)
       go_round
       case rel=>exact ⟨j+1,f,10*m+((c:Int)-48),by have:=HJ.out;omega,by omega,by omega,HNX.out,by go_num,by go_num,by have:=HREC.out;simpa using this⟩
       case measure=>simp [intOf];omega
   ·rw [if_pos (by simpa using hv)] at hR
    rw [decide_eq_false hv] at hz;subst hG;clear hv;subst hR;go_enter Tryz.func252,Tryz.ntmps252;go_wp2;go_ret;exact ⟨rfl,rfl⟩
  ·rw [if_pos (by simpa using hG)] at hR
   have hG2:((b:Int) != 71)=true:=by simp;omega
   subst hR;clear hG;go_enter Tryz.func252,Tryz.ntmps252;go_wp2;go_ret;exact ⟨rfl,rfl⟩
 ·rw [if_pos (by simpa using h8)] at hR
  have h88:((s.size:Int) != 8)=true:=by simp;omega
  subst hR;clear h8;go_enter Tryz.func252,Tryz.ntmps252;go_wp2;go_ret;exact ⟨rfl,rfl⟩
end
section
set_option maxRecDepth 100000
set_option maxHeartbeats 400000
open Go.RowKit
def Mx (w:World):Prop:=∃ m:Int,w.cell? ⟨2,0,none⟩=some (.int .i64 m)
theorem Mx.lt {w:World} (h:Mx w):2<w.heap.size:=by
 obtain ⟨m,hm⟩:=h;exact Is hm
theorem Mx.next {w w':World} {B:Nat} (h:Mx w) (hb:Below B w w') (hB:2<B):Mx w':=by
 obtain ⟨m,hm⟩:=h;exact ⟨m,(hb.cell (p:=⟨_,0,none⟩) hB).trans hm⟩
theorem Mx.after {w w':World} (h:Mx w) (hb:Below w.heap.size w w'):Mx w':=h.next hb h.lt
abbrev dot:ByteArray:=⟨#[46]⟩
def pcs (s:ByteArray):List ByteArray:=Lib.splitB dot 0 (Lib.countB s dot) s
theorem Jm (sep:ByteArray):∀ (k:Nat) (s q:ByteArray),q∈Lib.splitB sep 0 k s→q.size≤s.size
 |0,s,q,h=>by
  simp [Lib.splitB] at h;subst h;exact Le _
 |k+1,s,q,h=>by
  unfold Lib.splitB at h;split at h
  ·simp at h
   subst h;exact Le _
  ·rcases List.mem_cons.1 h with rfl|h
   ·simp;omega
   ·have:=Jm sep k _ q h
    simp at this;omega
theorem pcs_size {s q:ByteArray} (h:q∈pcs s):q.size≤s.size:=Jm dot _ s q h
theorem pcs_len (s:ByteArray):(pcs s).length=Lib.countB s dot+1:=Lib.splitB_all dot (by decide) 0 _ s rfl
theorem flat_strs:∀ l:List ByteArray,Ua Ug l=l.map Value.string
 | []=>rfl
 |x::l=>by rw [Vs,flat_strs l];rfl
theorem sl_pcs (w:World) (s:ByteArray):Sl Ug 1 (w.alloc (.cells ((pcs s).map Value.string).toArray 9)) (w.heap.size+1) (some ⟨w.heap.size,0,none⟩) (Lib.countB s dot+1) (Lib.countB s dot+1) (pcs s):=by
 have h:=Sl.new (f:=Ug) (k:=1) (fun _=>rfl) w 9 (pcs s);rw [flat_strs,pcs_len] at h;exact h
theorem F6 (s:ByteArray):Lib.countB s dot≤s.size:=Lib.countB_le dot (by decide) s.size s (Le _)
def Xn (s:ByteArray):Bool:=decide (1≤s.size)&&decide (s.size≤31)&&(pcs s).all Zq
theorem all_no {α:Type} {p:α→Bool} {l:List α} {j:Nat} {x:α} (hg:l[j]? =some x) (h:p x=false):l.all p=false:=by
 rw [List.all_eq_false];exact ⟨x,List.mem_of_getElem? hg,by simp [h]⟩
theorem all_yes {α:Type} {p:α→Bool} {l:List α} {n:Nat} (hn:l.length=n) (h:∀ t,t<n→∀ e,l[t]? =some e→p e=true):l.all p=true:=by
 rw [List.all_eq_true];intro e he;obtain ⟨t,ht,rfl⟩:=List.getElem_of_mem he;exact h t (by omega) _ (List.getElem?_eq_getElem ht)
theorem allv_any (s:ByteArray) (w:World) (hs:s.size≤maxLen) (hm:Mx w):
  Calls prog 243 #[.string s,.int .i64 31,.func (.func 244) #[] #[]] w fun e w'=>e = .returned (.bool (Xn s))∧Below w.heap.size w w':=by
 obtain ⟨R,hR⟩:∃ R,Xn s=R:=⟨_,rfl⟩
 rw [hR];have HR:=Hd hR;clear hR;have hml:=hs;unfold maxLen at hs;by_cases h0:s.size<1
 ·have HF:=Hd (show R=false by rw [←HR.out];unfold Xn;rw [decide_eq_false (by omega)];simp)
  clear hm;go_enter Tryz.func243,Tryz.ntmps243;go_wp2;go_ret;exact ⟨by rw [HF.out];rfl,Bf _ _⟩
 ·by_cases h31:31<s.size
  ·have HF:=Hd (show R=false by rw [←HR.out];unfold Xn;rw [decide_eq_false (show ¬ s.size≤31 by omega)];simp)
   clear hm;go_enter Tryz.func243,Tryz.ntmps243;go_wp2;go_ret;exact ⟨by rw [HF.out];rfl,Bf _ _⟩
  ·obtain ⟨m,hm⟩:=hm
   have HS:=Hd (Tryz.strings_Split s dot m w (by omega) hm (by decide));have HP:=Hd (sl_pcs w s);have HL:=Hd (pcs_len s);have HZ:=Hd (fun q (h:q∈pcs s) W=>valid1_any q W (Lx (pcs_size h) hml));have hcn:=F6 s;obtain ⟨n,hn⟩:∃ n,Lib.countB s dot+1=n:=⟨_,rfl⟩
   have hv:R=(pcs s).all Zq:=by rw [←HR.out];unfold Xn;rw [decide_eq_true (show 1≤s.size by omega),decide_eq_true (show s.size≤31 by omega)];rfl
   have HV:=Hd hv;have hps:Lib.splitB dot 0 (Lib.countB s dot) s=pcs s:=rfl;simp only [hps,hn] at HS HP HL;have hnn:n≤32:=by omega
   clear hm hv hps hn hcn;generalize pcs s=l at HS HP HL HZ HV;obtain ⟨w1,hw1⟩:∃ w1,w.alloc (.cells (l.map Value.string).toArray 9)=w1:=⟨_,rfl⟩
   have hb1:Below w.heap.size w w1:=by rw [←hw1];exact (Bf _ _).alloc (Le _) _
   have hz1:w.heap.size+1=w1.heap.size:=by rw [←hw1];simp
   have HB1:=Hd hb1;simp only [hw1] at HS HP;rw [hz1] at HP;have HZ1:=Hd hz1;clear hw1 hb1 hz1;go_enter Tryz.func243,Tryz.ntmps243;go_wp2_with (go_at_call 250;refine HS.out.mono ?_;rintro e w' ⟨rfl,hw⟩;rw [hw];clear hw w');go_loopw [21] (fun i wr => ∃ j:Nat,j≤n∧i = .int .i64 j∧(∀ t,t<j→∀ e,l[t]? =some e→Zq e=true)∧Below w1.heap.size w1 wr) (fun i _=>n-(intOf i).toNat)
   case atStart=>exact ⟨0,Z0 _,rfl,fun t h=>absurd h (by omega),Bf _ _⟩
   case round=>
    obtain ⟨j,hj,rfl,hall,hbel⟩:=hrel;have HA:=Hd hall;clear hall;by_cases hlt:j<n
    ·obtain ⟨b,o,x,hbo,hb,hg,hcell⟩:=Sl.cell (f:=Ug) (k:=1) (fun _=>rfl) (HP.out.below hbel) hlt
     injection hbo with hbo
     injection hbo with e1 e2
     subst e1 e2;have c0:=hcell 0 _ rfl;simp only [Nat.add_zero,Nat.zero_add,Nat.mul_one] at c0;have HQ:=Hd (fun W=>HZ.out x (List.mem_of_getElem? hg) W);have HG:=Hd hg;have HBE:=Hd hbel;clear hg hcell hb;obtain ⟨q,hq⟩:∃ q,Zq x=q:=⟨_,rfl⟩
     have HQQ:=Hd hq;simp only [hq] at HQ;clear hq;cases q with
     |false=>
      have HF:=Hd (show R=false by rw [HV.out];exact all_no HG.out HQQ.out);go_wp2_with (go_at_call 244;refine (HQ.out _).mono ?_;rintro e w' ⟨rfl,rfl⟩);go_ret;exact ⟨by rw [HF.out];rfl,U0 HB1.out HBE.out (by have:=HZ1.out;omega)⟩
     |true=>
      go_wp2_with (go_at_call 244;refine (HQ.out _).mono ?_;rintro e w' ⟨rfl,rfl⟩);go_roundw
      case rel=>
       refine ⟨j+1,by omega,by go_num,fun t ht e he=>?_,HBE.out⟩;by_cases h:t=j
       ·subst h;rw [HG.out] at he;injection he with he;subst he;exact HQQ.out
       ·exact HA.out t (by omega) e he
      case measure=>simp [intOf];omega
    ·obtain rfl:j=n:=by omega
     have HT:=Hd (show R=true by rw [HV.out];exact all_yes HL.out HA.out);have HBE:=Hd hbel;clear hbel;go_wp2;go_ret;exact ⟨by rw [HT.out];rfl,U0 HB1.out HBE.out (by have:=HZ1.out;omega)⟩
theorem Xs (s:ByteArray) (w:World) (hs:s.size≤maxLen) (hm:Mx w):
  Calls prog 187 #[.string s] w fun e w'=>e = .returned (.bool (Xn s))∧Below w.heap.size w w':=by
 have HV:=Hd (allv_any s w hs hm);clear hm;go_enter Tryz.func187,Tryz.ntmps187;go_wp2_with (go_at_call 243;refine HV.out.mono ?_;rintro e w1 ⟨rfl,h1⟩;have H1:=Hd h1;clear h1);go_ret;exact ⟨rfl,H1.out⟩
theorem isgrp1_any (s:ByteArray) (w:World):Calls prog 251 #[.string s] w fun e w'=>e = .returned (.bool (decide (0<Ky s)))∧Below w.heap.size w w':=by
 have HQ:=Hd (gnum_any s w);go_enter Tryz.func251,Tryz.ntmps251;go_wp2_with (go_at_call 252;refine HQ.out.mono ?_;rintro e w1 ⟨rfl,rfl⟩);go_ret;exact ⟨rfl,Bf _ _⟩
def I3 (s:ByteArray):Bool:=decide (s.size≤22)&&Xn s&&!(pcs s).any fun q=>decide (0<Ky q)
theorem Fk (s:ByteArray) (w:World) (hs:s.size≤maxLen) (hm:Mx w):
  Calls prog 190 #[.string s] w fun e w'=>e = .returned (.bool (I3 s))∧Below w.heap.size w w':=by
 by_cases h22:s.size≤22
 ·have HV:=Hd (Xs s w hs hm)
  have hmx:=hm;unfold I3;rw [decide_eq_true h22];obtain ⟨v,hv⟩:∃ v,Xn s=v:=⟨_,rfl⟩
  rw [hv] at HV ⊢;clear hv;have hml:=hs;unfold maxLen at hs;cases v with
  |false=>
   clear hm hmx;go_enter Tryz.func190,Tryz.ntmps190;go_wp2_with (go_at_call 187;refine HV.out.mono ?_;rintro e w1 ⟨rfl,h1⟩;have H1:=Hd h1;clear h1);go_ret;exact ⟨rfl,H1.out⟩
  |true=>
   have HS:=Hd (fun (W:World) (m:Int) (h:W.cell? ⟨2,0,none⟩=some (.int .i64 m))=>Tryz.strings_Split s dot m W (by omega) h (by decide));have HX:=Hd hmx;have HP:=Hd (fun W=>sl_pcs W s);have hcn:=F6 s;have HC:=Hd (fun (W:World) (hb:Below (W.heap.size+1) (W.alloc (.cells ((pcs s).map Value.string).toArray 9)) (W.alloc (.cells ((pcs s).map Value.string).toArray 9)))=>isgrp_any (fun q=>decide (0<Ky q)) (some ⟨W.heap.size,0,none⟩) (Lib.countB s dot+1) (Lib.countB s dot+1) (pcs s) (W.alloc (.cells ((pcs s).map Value.string).toArray 9)) ((sl_pcs W s).more (by simp)) (by omega) fun x _ W' _=>isgrp1_any x W');obtain ⟨a,ha⟩:∃ a,(pcs s).any (fun q=>decide (0<Ky q))=a:=⟨_,rfl⟩
   rw [ha];simp only [ha] at HC;have hps:Lib.splitB dot 0 (Lib.countB s dot) s=pcs s:=rfl;simp only [hps] at HS;clear hm hmx ha hps hcn;go_enter Tryz.func190,Tryz.ntmps190;go_wp2_with (first|(go_at_call 187;refine HV.out.mono ?_;rintro e w1 ⟨rfl,h1⟩;obtain ⟨m,hm1⟩:=HX.out.after h1;have H1:=Hd h1;have HM:=Hd hm1;clear h1 hm1)|(go_at_call 250;refine (HS.out _ m HM.out).mono ?_;rintro e w2 ⟨rfl,rfl⟩)|(go_at_call 180;refine (HC.out _ (Bf _ _)).mono ?_;rintro e w3 ⟨rfl,h3⟩;have H3:=Hd h3;clear h3));go_ret;exact ⟨by simp,U0 ((H1.out).alloc (H1.out.size) _) H3.out (by have:=H1.out.size;simp;omega)⟩
 ·have h23:22<s.size:=by omega
  have hg:I3 s=false:=by unfold I3;rw [decide_eq_false h22];rfl
  rw [hg];unfold maxLen at hs;clear h22 hg hm;go_enter Tryz.func190,Tryz.ntmps190;go_wp2;go_ret;exact ⟨rfl,Bf _ _⟩
def splI (s:ByteArray):Int:=Lib.lastIndexByte s 46
def Ze (s:ByteArray):ByteArray×Int×Bool:=
 if splI s<0 then (⟨#[]⟩,0,false)
 else if I3 (s.extract 0 (splI s).toNat)=false then (⟨#[]⟩,0,false)
 else if Ky (s.extract ((splI s).toNat+1) s.size)=0 then (⟨#[]⟩,0,false)
 else (s.extract 0 (splI s).toNat,Ky (s.extract ((splI s).toNat+1) s.size),true)
theorem splI_cases (s:ByteArray):splI s = -1∨∃ i:Nat,splI s=i∧i<s.size:=by
 rcases Lib.lastIndexByte_spec s 46 with ⟨h,_⟩|⟨i,h1,h2,_⟩
 ·exact .inl h
 ·exact .inr ⟨i,h2,h1⟩
theorem split_any (s:ByteArray) (w:World) (hs:s.size≤4611686018427387000) (hm:Mx w):
  Calls prog 199 #[.string s] w fun e w'=>e = .returned (.tuple #[.string (Ze s).1,.int .i64 (Ze s).2.1,.bool (Ze s).2.2])∧Below w.heap.size w w':=by
 have HI:=Hd (Tryz.strings_LastIndexByte s 46 (by omega) w);have hc:=splI_cases s;have hi:Lib.lastIndexByte s 46=splI s:=rfl;rw [hi] at HI;clear hi;unfold Ze;obtain ⟨k,hk⟩:∃ k,splI s=k:=⟨_,rfl⟩
 rw [hk] at HI hc ⊢;clear hk;rcases hc with rfl|⟨i,rfl,hlt⟩
 ·rw [if_pos (by decide)]
  clear hm;go_enter Tryz.func199,Tryz.ntmps199;go_wp2_with (go_at_call 258;refine HI.out.mono ?_;rintro e w1 ⟨rfl,rfl⟩);refine Br (results_tmp3 Tryz.results199 _ _ _) rfl ?_;exact ⟨rfl,Bf _ _⟩
 ·rw [if_neg (by omega)]
  simp only [Int.toNat_natCast];have z1:(s.extract 0 i).size≤maxLen:=by unfold maxLen;simp;omega
  have HG:=Hd (Fk (s.extract 0 i) w z1 hm);have HN:=Hd (fun W=>gnum_any (s.extract (i+1) s.size) W);obtain ⟨g,hg⟩:∃ g,I3 (s.extract 0 i)=g:=⟨_,rfl⟩
  obtain ⟨q,hq⟩:∃ q,Ky (s.extract (i+1) s.size)=q:=⟨_,rfl⟩
  simp only [hg] at HG;simp only [hq] at HN;rw [hg,hq];clear hm hg hq z1;cases g with
  |false=>
   rw [if_pos rfl];go_enter Tryz.func199,Tryz.ntmps199;go_wp2_with (first|(go_at_call 258;refine HI.out.mono ?_;rintro e w1 ⟨rfl,rfl⟩)|(go_at_call 190;refine HG.out.mono ?_;rintro e w2 ⟨rfl,h2⟩;have H2:=Hd h2;clear h2));refine Br (results_tmp3 Tryz.results199 _ _ _) rfl ?_;exact ⟨rfl,H2.out⟩
  |true=>
   rw [if_neg (by decide)];by_cases hz:q=0
   ·subst hz
    rw [if_pos rfl];go_enter Tryz.func199,Tryz.ntmps199;go_wp2_with (first|(go_at_call 258;refine HI.out.mono ?_;rintro e w1 ⟨rfl,rfl⟩)|(go_at_call 190;refine HG.out.mono ?_;rintro e w2 ⟨rfl,h2⟩;have H2:=Hd h2;clear h2)|(go_at_call 252;refine (HN.out _).mono ?_;rintro e w3 ⟨rfl,rfl⟩));refine Br (results_tmp3 Tryz.results199 _ _ _) rfl ?_;exact ⟨rfl,H2.out⟩
   ·rw [if_neg hz]
    have hz':(q == 0)=false:=by simpa using hz
    clear hz;go_enter Tryz.func199,Tryz.ntmps199;go_wp2_with (first|(go_at_call 258;refine HI.out.mono ?_;rintro e w1 ⟨rfl,rfl⟩)|(go_at_call 190;refine HG.out.mono ?_;rintro e w2 ⟨rfl,h2⟩;have H2:=Hd h2;clear h2)|(go_at_call 252;refine (HN.out _).mono ?_;rintro e w3 ⟨rfl,rfl⟩));have hwi:IntKind.i64.wrap ((i:Int)+1)=(i:Int)+1:=by rw [IntKind.wrap_i64];omega
    have HNN:=Hd (HN.out w2.drew);refine Rw (S:=fun _=>True) (by kernel_rfl) trivial (fun Hh=>?_);refine tk 0 (.string s) Hh ?_;refine tk 1 (.int .i64 i) Hh ?_;refine tk 2 (.string (s.extract 0 i)) Hh ?_;refine tk 3 (.string s) Hh ?_;refine tk 4 (.int .i64 i) Hh ?_;refine tk 5 (.int .i64 ((i:Int)+1)) Hh ?_;refine tk 6 (.string (s.extract (i+1) s.size)) Hh ?_;refine Ar (rs:=[7]) (by kernel_rfl) (by simp) ?_;refine Rc (fun K hK=>?_) ?_
    ·go_simp
     refine HNN.out.mono ?_;rintro e w3 ⟨rfl,rfl⟩;simp only [];refine hK.out _ _ trivial (fun Hh=>?_);clear hK K;try simp only [Act.put,Sv,Sz,Sw]
     refine tk 8 (.string (s.extract 0 i)) Hh ?_;refine tk 9 (.int .i64 q) Hh ?_;refine tk 10 (.bool true) Hh ?_;refine Ad (by kernel_rfl) ?_ _;clear Hh;go_wp2;refine Br (results_tmp3 Tryz.results199 _ _ _) rfl ?_;exact ⟨rfl,H2.out.drew⟩
    exact An
end
section
set_option maxRecDepth 100000
set_option maxHeartbeats 1000000
open Go.RowKit
def Ym (n:Int):Bool:=Y3 n 0 65536
theorem isDay_any (n:Int) (w:World):Calls prog 304 #[.int .i64 n] w fun e w'=>e = .returned (.bool (Ym n))∧w=w':=by
 unfold Ym Y3;obtain ⟨p,hp⟩:∃ p,decide (0≤n)=p:=⟨_,rfl⟩
 obtain ⟨q,hq⟩:∃ q,decide (n≤65536)=q:=⟨_,rfl⟩
 rw [hp,hq];cases p
 all_goals
  go_enter Tryz.func304,Tryz.ntmps304;go_wp2;go_ret;exact ⟨by simp,rfl⟩
theorem leap_any (y:Int) (w:World):Calls prog 324 #[.int .i64 y] w fun e w'=>(∃ b,e = .returned (.bool b))∧w=w':=by
 go_enter Tryz.func324,Tryz.ntmps324;go_wp2
 all_goals
  go_ret;exact ⟨⟨_,rfl⟩,rfl⟩
def I4 (n:Nat):Int:=365*(n:Int)+((n:Int)+3) / 4-((n:Int)+99) / 100+((n:Int)+399) / 400
theorem firstF_ge (n:Nat):365*(n:Int)≤I4 n∧I4 n≤366*(n:Int)+1:=by unfold I4;omega
theorem first_any (n:Nat) (hn:n≤400) (w:World):Calls prog 320 #[.int .i64 (2000+(n:Int))] w fun e w'=>e = .returned (.int .i64 (I4 n))∧w=w':=by
 go_enter Tryz.func320,Tryz.ntmps320;go_wp2;go_ret;refine ⟨?_,rfl⟩;show Ending.returned (.int .i64 (365*(2000+(n:Int)-2000)+(2000+(n:Int)-2000+3) / 4-(2000+(n:Int)-2000+99) / 100+(2000+(n:Int)-2000+399) / 400))=_;unfold I4;congr 2;omega
def lenV (z:Int):Array Value:=#[.int .i64 31,.int .i64 z,.int .i64 31,.int .i64 30,.int .i64 31,.int .i64 30,.int .i64 31,.int .i64 31,.int .i64 30,.int .i64 31,.int .i64 30,.int .i64 31]
theorem lengths_any (y:Int) (w:World):Calls prog 321 #[.int .i64 y] w fun e w'=>(∃ z:Int,28≤z∧z≤29∧e = .returned (.agg (lenV z)))∧Below w.heap.size w w':=by
 have HL:=Hd fun W=>leap_any y W
 go_enter Tryz.func321,Tryz.ntmps321;go_wp2_with (go_at_call 324;refine (HL.out _).mono ?_;rintro e w2 ⟨⟨b,rfl⟩,rfl⟩)
 ·refine Br (v:=.agg (lenV 29)) (results_cell_row Tryz.results321 _ _ w.heap.size 368 (lenV 29) (0,0) _ rfl ((Blk.new w _ _).alloc _) Tryz.underlying368 rfl (by kernel_rfl)) rfl ?_
  exact ⟨⟨29,by decide,by decide,rfl⟩,((Bf _ _).alloc (Le _) _).alloc (by simp) _⟩
 ·refine Br (v:=.agg (lenV 28)) (results_cell_row Tryz.results321 _ _ w.heap.size 368 (lenV 28) (0,0) _ rfl ((Blk.new w _ _).alloc _) Tryz.underlying368 rfl (by kernel_rfl)) rfl ?_
  exact ⟨⟨28,by decide,by decide,rfl⟩,((Bf _ _).alloc (Le _) _).alloc (by simp) _⟩
theorem lenV_at (z:Int) (z0:28≤z) (z1:z≤29) (j:Nat) (hj:j<12):∃ m:Int,28≤m∧m≤31∧∀ W:World,(Instr.index 368 (.agg (lenV z)) (.int .i64 j)).run prog W = .ok (.int .i64 m) W:=by
 have h:j=0∨j=1∨j=2∨j=3∨j=4∨j=5∨j=6∨j=7∨j=8∨j=9∨j=10∨j=11:=by omega
 rcases h with rfl|rfl|rfl|rfl|rfl|rfl|rfl|rfl|rfl|rfl|rfl|rfl
 ·exact ⟨31,by decide,by decide,fun W=>by kernel_rfl⟩
 ·exact ⟨z,z0,by omega,fun W=>by kernel_rfl⟩
 ·exact ⟨31,by decide,by decide,fun W=>by kernel_rfl⟩
 ·exact ⟨30,by decide,by decide,fun W=>by kernel_rfl⟩
 ·exact ⟨31,by decide,by decide,fun W=>by kernel_rfl⟩
 ·exact ⟨30,by decide,by decide,fun W=>by kernel_rfl⟩
 ·exact ⟨31,by decide,by decide,fun W=>by kernel_rfl⟩
 ·exact ⟨31,by decide,by decide,fun W=>by kernel_rfl⟩
 ·exact ⟨30,by decide,by decide,fun W=>by kernel_rfl⟩
 ·exact ⟨31,by decide,by decide,fun W=>by kernel_rfl⟩
 ·exact ⟨30,by decide,by decide,fun W=>by kernel_rfl⟩
 ·exact ⟨31,by decide,by decide,fun W=>by kernel_rfl⟩
def DateG (w:World) (e:Ending) (w':World):Prop:=(∃ y m d:Int,e = .returned (.tuple #[.int .i64 y,.int .i64 m,.int .i64 d])∧0≤y∧y≤3000∧0≤m∧m≤13∧-100000≤d∧d≤100000)∧Below w.heap.size w w'
theorem date_any (day:Int) (w:World) (h:Ym day=true):Calls prog 305 #[.int .i64 day] w (DateG w):=by
 have HD:Hid (∀ W,Calls prog 304 #[.int .i64 day] W fun e w'=>e = .returned (.bool true)∧W=w'):=Hd fun W=>by have:=isDay_any day W;rwa [h] at this
 obtain ⟨d0,d1⟩:0≤day∧day≤65536:=by unfold Ym at h;exact winB_true.1 h
 have HF:=Hd first_any;have HL:=Hd lengths_any;clear h;go_enter Tryz.func305,Tryz.ntmps305;go_wp2_with (go_at_call 304;refine (HD.out _).mono ?_;rintro e w2 ⟨rfl,rfl⟩);go_loopw [5] (fun v wr => ∃ n:Nat,n≤180∧v = .int .i64 (2000+(n:Int))∧wr=w) (fun v _=>2180-(intOf v).toNat)
 case atStart=>exact ⟨(day / 366).toNat,by omega,by congr 1;omega,rfl⟩
 case round=>
  obtain ⟨n,hn,rfl,rfl⟩:=hrel;have HFN:Hid (Calls prog 320 #[.int .i64 (2000+(n:Int)+1)] wr fun e w'=>e = .returned (.int .i64 (I4 (n+1)))∧wr=w'):=Hd (by have:=HF.out (n+1) (by omega) wr;rwa [show (2000:Int)+((n+1:Nat):Int)=2000+(n:Int)+1 from by omega] at this);have hg:=firstF_ge (n+1);obtain ⟨f,hf⟩:∃ f,I4 (n+1)=f:=⟨_,rfl⟩
  rw [hf] at HFN hg;clear hf;by_cases hle:f≤day
  ·go_wp2_with (go_at_call 320;refine HFN.out.mono ?_;rintro e w2 ⟨rfl,rfl⟩)
   go_roundw
   case rel=>exact ⟨n+1,by omega,by go_num,trivial⟩
   case measure=>simp [intOf];omega
  ·have HF2:=Hd (HF.out n (by omega) wr)
   have hg2:=firstF_ge n;obtain ⟨f2,hf2⟩:∃ f2,I4 n=f2:=⟨_,rfl⟩
   rw [hf2] at HF2 hg2;clear hf2;go_wp2_with (first|(go_at_call 320;first|((with_reducible show Calls _ _ #[.int .i64 (_+1)] _ _);refine HFN.out.mono ?_;rintro e w2 ⟨rfl,rfl⟩)|((with_reducible show Calls _ _ #[.int .i64 (2000+(_:Int))] _ _);refine HF2.out.mono ?_;rintro e w2 ⟨rfl,rfl⟩))|(go_at_call 321;refine (HL.out _ _).mono ?_;rintro e w3 ⟨⟨z,z0,z1,rfl⟩,hb⟩;have HB:=Hd hb;have HZ:=Hd (And.intro z0 z1);clear hb z0 z1));have hix:=lenV_at z HZ.out.1 HZ.out.2;have HIX:=Hd hix;clear hix HFN HF2 HD HF HL;generalize lenV z=L at HIX ⊢;have HB2:Hid (Below w3.heap.size w3 w3):=Hd (Bf _ _);go_loopw [0,27] (fun v i wz => ∃ (j:Nat) (d:Int),j≤12∧i = .int .i64 j∧v = .int .i64 d∧-70000≤d∧d≤70000∧wz=w3) (fun _ i _=>12-(intOf i).toNat)
   case atStart=>exact ⟨0,day-f2,by omega,rfl,rfl,by omega,by omega,rfl⟩
   case round=>
    obtain ⟨j,d,hj,rfl,rfl,hd0,hd1,rfl⟩:=hrel;by_cases hlt:j<12
    ·obtain ⟨m,hm0,hm1,hi⟩:=HIX.out j hlt
     by_cases hdm:d<m
     ·go_wp2
      refine Br (results_tmp3 Tryz.results305 _ _ _) rfl ?_;exact ⟨⟨_,_,_,rfl,by omega,by omega,by omega,by omega,by omega,by omega⟩,HB.out⟩
     ·go_wp2
      go_roundw
      case rel=>exact ⟨j+1,d-m,by omega,by go_num,rfl,by omega,by omega,trivial⟩
      case measure=>simp [intOf];omega
    ·obtain rfl:j=12:=by omega
     go_wp2;refine Br (results_tmp3 Tryz.results305 _ _ _) rfl ?_;exact ⟨⟨_,_,_,rfl,by omega,by omega,by omega,by omega,by omega,by omega⟩,HB.out⟩
end
section
set_option maxRecDepth 100000
open Go.RowKit
def Ix (s:ByteArray):Bool:=Xn s&&!(decide (0≤Lib.indexByte s.data.toList 46))
theorem Z1 (s:ByteArray) (w:World) (hs:s.size≤maxLen) (hm:Mx w):Calls prog 197 #[.string s] w fun e w'=>e = .returned (.bool (Ix s))∧Below w.heap.size w w':=by
 have HV:=Hd (Xs s w hs hm);have HC:Hid (∀ W,Calls prog 257 #[.string s,.string ⟨#[46]⟩] W fun e w'=>e = .returned (.bool (decide (0≤Lib.indexByte s.data.toList 46)))∧w'=W):=Hd fun W=>Tryz.strings_Contains_one s 46 W
 unfold Ix;obtain ⟨v,hv⟩:∃ v,Xn s=v:=⟨_,rfl⟩
 obtain ⟨c,hcc⟩:∃ c,decide (0≤Lib.indexByte s.data.toList 46)=c:=⟨_,rfl⟩
 rw [hv] at HV;simp only [hcc] at HC;rw [hv,hcc];clear hm hs hv hcc;cases v
 all_goals
  go_enter Tryz.func197,Tryz.ntmps197;go_wp2_with (first|(go_at_call 187;refine HV.out.mono ?_;rintro e w1 ⟨rfl,h1⟩;have H1:=Hd h1;clear h1)|(go_at_call 257;refine (HC.out _).mono ?_;rintro e w1 ⟨rfl,rfl⟩));go_ret;exact ⟨by simp,H1.out⟩
def Tab (w:World):Prop:=Lib.TabIs prog w "internal/strconv.uint64pow10" .u64 Lib.pow10Tab
theorem gTab:prog.globalNamed "internal/strconv.uint64pow10" = some 0:=by kernel_rfl
theorem Tab.below {w w':World} {B:Nat} (h:Tab w) (hb:Below B w w') (hB:w.heap.size≤B):Tab w':=Joins.tab_stays gTab h hb hB
theorem Tab.after {w w':World} (h:Tab w) (hb:Below w.heap.size w w'):Tab w':=h.below hb (Le _)
theorem dec_big {n:Nat} (h:¬ n<10):Lib.decDigits n=Lib.decDigits (n / 10)++[UInt8.ofNat (48+n % 10)]:=by rw [Lib.decDigits,dif_neg h]
theorem dec_len:∀ (k n:Nat),n<10 ^ (k+1)→1≤(Lib.decDigits n).length∧(Lib.decDigits n).length≤k+1
 |0,n,h=>by rw [Lib.decDigits_one (by omega)];simp
 |k+1,n,h=>by
  by_cases h0:n<10
  ·rw [Lib.decDigits_one h0];simp
  ·rw [dec_big h0,List.length_append]
   have:=dec_len k (n / 10) (by rw [Nat.pow_succ] at h;omega);simp;omega
theorem itoa_lo (n:Int) (h0 : -1000000≤n) (h1:n≤1000000) (w:World) (ht:Tab w):
  Calls prog 101 #[.int .i64 n] w fun e w'=>(∃ t:ByteArray,e = .returned (.string t)∧1≤t.size∧t.size≤1000)∧Below w.heap.size w w':=by
 have hl:=dec_len 9 n.toNat (by omega);have hl2:=dec_len 9 n.natAbs (by omega)
 have hz:1≤(⟨(Lib.itoa n).toArray⟩:ByteArray).size∧(⟨(Lib.itoa n).toArray⟩:ByteArray).size≤1000:=by
  show 1≤(Lib.itoa n).toArray.size∧(Lib.itoa n).toArray.size≤1000;rw [List.size_toArray,Lib.itoa];split
  ·rw [List.length_cons];omega
  ·omega
 exact (Tryz.strconv_Itoa n (by omega) (by omega) w ht).mono fun _ _ ⟨he,k,os,hw⟩=>⟨⟨_,he,hz.1,hz.2⟩,by rw [hw];exact Lib.below_grow _ _ (Le _) k os⟩
theorem fmt1_any (n:Int) (h0 : -100000≤n) (h1:n≤100000) (w:World) (ht:Tab w):Calls prog 306 #[.int .i64 n] w fun e w'=>(∃ t:ByteArray,e = .returned (.string t)∧t.size≤1000)∧Below w.heap.size w w':=by
 have HI:=Hd (itoa_lo (n+100) (by omega) (by omega) w ht);clear ht;go_enter Tryz.func306,Tryz.ntmps306;go_wp2_with (go_at_call 101;refine HI.out.mono ?_;rintro e w1 ⟨⟨t,rfl,t0,t1⟩,hb⟩;have HB:=Hd hb;clear hb);go_ret;exact ⟨⟨_,rfl,by simp;omega⟩,HB.out⟩
def FmtG (n:Int) (w:World) (e:Ending) (w':World):Prop:=(∃ t:ByteArray,e = .returned (.string t)∧(t.size=0↔Ym n=false))∧Below w.heap.size w w'
theorem format_any (n:Int) (w:World) (ht:Tab w):Calls prog 285 #[.int .i64 n] w (FmtG n w):=by
 have HD:Hid (∀ W,Calls prog 304 #[.int .i64 n] W fun e w'=>e = .returned (.bool (Ym n))∧W=w'):=Hd fun W=>isDay_any n W
 unfold FmtG;cases hz:Ym n with
 |false=>
  simp only [hz] at HD;clear ht;go_enter Tryz.func285,Tryz.ntmps285;go_wp2_with (go_at_call 304;refine (HD.out _).mono ?_;rintro e w1 ⟨rfl,rfl⟩);go_ret;exact ⟨⟨_,rfl,⟨fun _=>trivial,fun _=>rfl⟩⟩,Bf _ _⟩
 |true=>
  simp only [hz] at HD;have HDT:=Hd (date_any n w hz);have HI:=Hd itoa_lo;have HF:=Hd fmt1_any;have HT:=Hd ht;clear ht hz;go_enter Tryz.func285,Tryz.ntmps285
  go_wp2_with (first|(go_at_call 304;refine (HD.out _).mono ?_;rintro e w1 ⟨rfl,rfl⟩)|(go_at_call 305;refine HDT.out.mono ?_;rintro e w1 ⟨⟨y,m,d,rfl,y0,y1,m0,m1,d0,d1⟩,hb⟩;have HB:=Hd hb;have HT1:=Hd (HT.out.after hb);clear hb)|(go_at_call 101;refine (HI.out y (by omega) (by omega) _ HT1.out).mono ?_;rintro e w2 ⟨⟨t,rfl,t0,t1⟩,hb⟩;have HT1:=Hd (HT1.out.after hb);have HB:=Hd (U0 HB.out hb HB.out.size);clear hb)|(go_at_call 306;(with_reducible show Calls _ _ #[.int .i64 m] _ _);refine (HF.out m (by omega) (by omega) _ HT1.out).mono ?_;rintro e w2 ⟨⟨t2,rfl,tt1⟩,hb⟩;have HT1:=Hd (HT1.out.after hb);have HB:=Hd (U0 HB.out hb HB.out.size);clear hb)|(go_at_call 306;(with_reducible show Calls _ _ #[.int .i64 d] _ _);refine (HF.out d (by omega) (by omega) _ HT1.out).mono ?_;rintro e w2 ⟨⟨t3,rfl,tt2⟩,hb⟩;have HT1:=Hd (HT1.out.after hb);have HB:=Hd (U0 HB.out hb HB.out.size);clear hb))
  go_ret;exact ⟨⟨_,rfl,⟨fun h=>by simp only [ByteArray.size_append] at h;omega,fun h=>by cases h⟩⟩,HB.out⟩
theorem day1_any (n:Int) (w:World) (ht:Tab w):Calls prog 284 #[.int .i64 n] w fun e w'=>e = .returned (.bool (!Ym n))∧Below w.heap.size w w':=by
 have HF:=Hd (format_any n w ht);clear ht;obtain ⟨z,hz⟩:∃ z,Ym n=z:=⟨_,rfl⟩
 unfold FmtG at HF;rw [hz] at HF ⊢;clear hz;cases z with
 |false=>
  go_enter Tryz.func284,Tryz.ntmps284;go_wp2_with (go_at_call 285;refine HF.out.mono ?_;rintro e w1 ⟨⟨t,rfl,h1⟩,hb⟩;obtain rfl:=ba_nil (h1.2 rfl);have HB:=Hd hb;clear hb h1);go_ret;exact ⟨by rfl,HB.out⟩
 |true=>
  go_enter Tryz.func284,Tryz.ntmps284;go_wp2_with (go_at_call 285;refine HF.out.mono ?_;rintro e w1 ⟨⟨t,rfl,h1⟩,hb⟩;have HB:=Hd hb;have hne:t.toList≠[]:=(fun h=>by have h3:=h1.1 ((nil_iff t).2 h);cases h3);have h2:(t.toList == ([]:List UInt8))=false:=beq_eq_false_iff_ne.2 hne;clear hb h1);go_ret;exact ⟨by simp,HB.out⟩
end
end Go.Proofs.YtapanepkfbamhaaGreatDoor
