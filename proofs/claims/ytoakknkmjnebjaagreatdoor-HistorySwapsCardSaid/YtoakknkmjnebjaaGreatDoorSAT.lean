/- Of HistorySwaps. -/
import Derived.Test.YtoakknkmjnebjaaGreatDoorSAS
import Derived.Lib.SmallJoins
import Derived.Lib.AppendIntMem
namespace Go.Proofs.YtoakknkmjnebjaaGreatDoor
open Tryz (prog)
set_option maxRecDepth 100000
set_option maxHeartbeats 4000000
open Go.RowKit
def Jn (s:Bz):Bool:=Xo s&&!(decide (0≤Lib.indexByte s.data.toList 46))
theorem Z9 (s:Bz) (w:Wd) (hs:s.size≤maxLen) (hm:Mx w):Calls prog 197 #[.string s] w fun e w'=>e = .returned (.bool (Jn s))∧Below w.heap.size w w':=by
 have HV:=Hd (Xv s w hs hm);have HC:Hid (∀ W,Calls prog 257 #[.string s,.string ⟨#[46]⟩] W fun e w'=>e = .returned (.bool (decide (0≤Lib.indexByte s.data.toList 46)))∧w'=W):=Hd fun W=>Tryz.strings_Contains_one s 46 W
 unfold Jn;obtain ⟨v,hv⟩:∃ v,Xo s=v:=⟨_,rfl⟩
 obtain ⟨c,m7⟩:∃ c,decide (0≤Lib.indexByte s.data.toList 46)=c:=⟨_,rfl⟩
 rw [hv] at HV;simp only [m7] at HC;rw [hv,m7];clear hm hs hv m7;cases v
 all_goals
  go_enter Tryz.func197,Tryz.ntmps197;go_wp2_with (first|(go_at_call 187;refine HV.out.mono ?_;rintro e w1 ⟨rfl,h1⟩;have H1:=Hd h1;clear h1)|(go_at_call 257;refine (HC.out _).mono ?_;rintro e w1 ⟨rfl,rfl⟩));go_ret;exact ⟨by simp,H1.out⟩
def Tab (w:Wd):Prop:=Lib.TabIs prog w "internal/strconv.uint64pow10" .u64 Lib.pow10Tab
theorem gTab:prog.globalNamed "internal/strconv.uint64pow10" = some 0:=by kernel_rfl
theorem Tab.below {w w':Wd} {B:Nat} (h:Tab w) (hb:Below B w w') (hB:w.heap.size≤B):Tab w':=Joins.tab_stays gTab h hb hB
theorem Tab.after {w w':Wd} (h:Tab w) (hb:Below w.heap.size w w'):Tab w':=h.below hb (Le _)
theorem dec_big {n:Nat} (h:¬ n<10):Lib.decDigits n=Lib.decDigits (n / 10)++[UInt8.ofNat (48+n % 10)]:=by rw [Lib.decDigits,dif_neg h]
theorem dec_len:∀ (k n:Nat),n<10 ^ (k+1)→1≤(Lib.decDigits n).length∧(Lib.decDigits n).length≤k+1
 |0,n,h=>by rw [Lib.decDigits_one (by omega)];simp
 |k+1,n,h=>by
  by_cases h0:n<10
  ·rw [Lib.decDigits_one h0];simp
  ·rw [dec_big h0,List.length_append];have:=dec_len k (n / 10) (by rw [Nat.pow_succ] at h;omega);simp;omega
theorem itoa_lo (n:Int) (h0 : -1000000≤n) (h1:n≤1000000) (w:Wd) (ht:Tab w):
  Calls prog 101 #[.int .i64 n] w fun e w'=>(∃ t:Bz,e = .returned (.string t)∧1≤t.size∧t.size≤1000)∧Below w.heap.size w w':=by
 have hl:=dec_len 9 n.toNat (by omega);have gT:=dec_len 9 n.natAbs (by omega)
 have hz:1≤(⟨(Lib.itoa n).toArray⟩:Bz).size∧(⟨(Lib.itoa n).toArray⟩:Bz).size≤1000:=by
  show 1≤(Lib.itoa n).toArray.size∧(Lib.itoa n).toArray.size≤1000;rw [List.size_toArray,Lib.itoa];split
  ·rw [List.length_cons];omega
  ·omega
 exact (Tryz.strconv_Itoa n (by omega) (by omega) w ht).mono fun _ _ ⟨he,k,os,hw⟩=>⟨⟨_,he,hz.1,hz.2⟩,by rw [hw];exact Lib.below_grow _ _ (Le _) k os⟩
theorem fmt1_any (n:Int) (h0 : -100000≤n) (h1:n≤100000) (w:Wd) (ht:Tab w):Calls prog 306 #[.int .i64 n] w fun e w'=>(∃ t:Bz,e = .returned (.string t)∧t.size≤1000)∧Below w.heap.size w w':=by
 have HI:=Hd (itoa_lo (n+100) (by omega) (by omega) w ht);clear ht;go_enter Tryz.func306,Tryz.ntmps306;go_wp2_with (go_at_call 101;refine HI.out.mono ?_;rintro e w1 ⟨⟨t,rfl,t0,t1⟩,hb⟩;have HB:=Hd hb;clear hb);go_ret;exact ⟨⟨_,rfl,by simp;omega⟩,HB.out⟩
def FmtG (n:Int) (w:Wd) (e:Ending) (w':Wd):Prop:=(∃ t:Bz,e = .returned (.string t)∧(t.size=0↔Yt n=false))∧Below w.heap.size w w'
theorem format_any (n:Int) (w:Wd) (ht:Tab w):Calls prog 285 #[.int .i64 n] w (FmtG n w):=by
 have HD:Hid (∀ W,Calls prog 304 #[.int .i64 n] W fun e w'=>e = .returned (.bool (Yt n))∧W=w'):=Hd fun W=>isDay_any n W
 unfold FmtG;cases hz:Yt n with
 |false=>
  simp only [hz] at HD;clear ht;go_enter Tryz.func285,Tryz.ntmps285;go_wp2_with (go_at_call 304;refine (HD.out _).mono ?_;rintro e w1 ⟨rfl,rfl⟩);go_ret;exact ⟨⟨_,rfl,⟨fun _=>trivial,fun _=>rfl⟩⟩,Bf _ _⟩
 |true=>
  simp only [hz] at HD;have HDT:=Hd (date_any n w hz);have HI:=Hd itoa_lo;have HF:=Hd fmt1_any;have HT:=Hd ht;clear ht hz;go_enter Tryz.func285,Tryz.ntmps285
  go_wp2_with (first|(go_at_call 304;refine (HD.out _).mono ?_;rintro e w1 ⟨rfl,rfl⟩)|(go_at_call 305;refine HDT.out.mono ?_;rintro e w1 ⟨⟨y,m,d,rfl,y0,y1,m0,m1,d0,d1⟩,hb⟩;have HB:=Hd hb;have gY:=Hd (HT.out.after hb);clear hb)|(go_at_call 101;refine (HI.out y (by omega) (by omega) _ gY.out).mono ?_;rintro e w2 ⟨⟨t,rfl,t0,t1⟩,hb⟩;have gY:=Hd (gY.out.after hb);have HB:=Hd (U0 HB.out hb HB.out.size);clear hb)|(go_at_call 306;(with_reducible show Calls _ _ #[.int .i64 m] _ _);refine (HF.out m (by omega) (by omega) _ gY.out).mono ?_;rintro e w2 ⟨⟨t2,rfl,tt1⟩,hb⟩;have gY:=Hd (gY.out.after hb);have HB:=Hd (U0 HB.out hb HB.out.size);clear hb)|(go_at_call 306;(with_reducible show Calls _ _ #[.int .i64 d] _ _);refine (HF.out d (by omega) (by omega) _ gY.out).mono ?_;rintro e w2 ⟨⟨t3,rfl,tt2⟩,hb⟩;have gY:=Hd (gY.out.after hb);have HB:=Hd (U0 HB.out hb HB.out.size);clear hb))
  go_ret;exact ⟨⟨_,rfl,⟨fun h=>by simp only [ByteArray.size_append] at h;omega,fun h=>by cases h⟩⟩,HB.out⟩
theorem day1_any (n:Int) (w:Wd) (ht:Tab w):Calls prog 284 #[.int .i64 n] w fun e w'=>e = .returned (.bool (!Yt n))∧Below w.heap.size w w':=by
 have HF:=Hd (format_any n w ht);clear ht;obtain ⟨z,hz⟩:∃ z,Yt n=z:=⟨_,rfl⟩
 unfold FmtG at HF;rw [hz] at HF ⊢;clear hz;cases z with
 |false=>
  go_enter Tryz.func284,Tryz.ntmps284;go_wp2_with (go_at_call 285;refine HF.out.mono ?_;rintro e w1 ⟨⟨t,rfl,h1⟩,hb⟩;obtain rfl:=ba_nil (h1.2 rfl);have HB:=Hd hb;clear hb h1);go_ret;exact ⟨by rfl,HB.out⟩
 |true=>
  go_enter Tryz.func284,Tryz.ntmps284;go_wp2_with (go_at_call 285;refine HF.out.mono ?_;rintro e w1 ⟨⟨t,rfl,h1⟩,hb⟩;have HB:=Hd hb;have aZ:t.toList≠[]:=(fun h=>by have h3:=h1.1 ((nil_iff t).2 h);cases h3);have h2:(t.toList == ([]:List UInt8))=false:=beq_eq_false_iff_ne.2 aZ;clear hb h1);go_ret;exact ⟨by simp,HB.out⟩
def dayB (l:List Int):Bool := !(l.any fun n => !Yt n)
theorem Jd (A:Option Addr) (n c:Nat) (l:List Int) (w:Wd) (hs:Sl Vc 1 w w.heap.size A n c l) (hn:n≤1000) (ht:Tab w):
  Calls prog 249 #[.slice A n c] w fun e w'=>e = .returned (.bool (dayB l))∧Below w.heap.size w w':=by
 have HC:=Hd (eday_any (fun n => !Yt n) A n c l w hs (by omega) fun x _ W hb=>day1_any x W (ht.after hb));unfold dayB;generalize l.any (fun n => !Yt n)=z at HC;clear hs hn ht;go_enter Tryz.func249,Tryz.ntmps249;go_wp2_with (go_at_call 283;refine HC.out.mono ?_;rintro e w1 ⟨rfl,h1⟩;have H1:=Hd h1;clear h1);go_ret;exact ⟨rfl,H1.out⟩
def BoolW (w:Wd) (e:Ending) (w':Wd):Prop:=(∃ b,e = .returned (.bool b))∧w=w'
def BoolG (w:Wd) (e:Ending) (w':Wd):Prop:=(∃ b,e = .returned (.bool b))∧Below w.heap.size w w'
theorem star_any (z:Int) (w:Wd):Calls prog 262 #[.int .u8 z] w (BoolW w):=by
 have HU:=Hd fun W=>Ff z W
 generalize upB z=u at HU;cases u
 all_goals
  go_enter Tryz.func262,Tryz.ntmps262;go_wp2_with (go_at_call 246;refine (HU.out _).mono ?_;rintro e w1 ⟨rfl,rfl⟩);go_ret;exact ⟨⟨_,rfl⟩,rfl⟩
theorem stars_any (z:Int) (w:Wd):Calls prog 264 #[.int .u8 z] w (BoolW w):=by
 have HU:=Hd fun W=>plain_any z W
 generalize plB z=u at HU;cases u
 all_goals
  go_enter Tryz.func264,Tryz.ntmps264;go_wp2_with (go_at_call 247;refine (HU.out _).mono ?_;rintro e w1 ⟨rfl,rfl⟩);go_ret;exact ⟨⟨_,rfl⟩,rfl⟩
theorem quals_any (s:Bz) (w:Wd) (hs:s.size≤maxLen):Calls prog 245 #[.string s,.func (.func 262) #[] #[],.func (.func 264) #[] #[]] w (BoolW w):=by
 unfold maxLen at hs;have HU:=Hd star_any;have HV:=Hd stars_any;by_cases h0:s.size<1
 ·go_enter Tryz.func245,Tryz.ntmps245;go_wp2;go_ret;exact ⟨⟨_,rfl⟩,rfl⟩
 ·by_cases h8:8<s.size
  ·go_enter Tryz.func245,Tryz.ntmps245;go_wp2;go_ret;exact ⟨⟨_,rfl⟩,rfl⟩
  ·have iC:0<s.size:=by omega
   go_enter Tryz.func245,Tryz.ntmps245;go_wp2_with (go_at_call 262;refine (HU.out _ _).mono ?_;rintro e w1 ⟨⟨u,rfl⟩,rfl⟩;cases u)
   ·go_ret;exact ⟨⟨_,rfl⟩,rfl⟩
   ·go_loop [7] (fun i => ∃ j:Nat,1≤j∧j≤s.size∧i = .int .i64 j) (fun i=>s.size-(intOf i).toNat)
    case atStart=>exact ⟨1,Le _,by omega,rfl⟩
    case round=>
     obtain ⟨j,j1,hj,rfl⟩:=hrel;by_cases aG:j<s.size
     ·go_wp2_with (go_at_call 264;refine (HV.out _ _).mono ?_;rintro e w1 ⟨⟨u,rfl⟩,rfl⟩;cases u)
      ·go_ret;exact ⟨⟨_,rfl⟩,rfl⟩
      ·go_round
       case rel=>exact ⟨j+1,by omega,by omega,by go_num⟩
       case measure=>simp [intOf];omega
     ·obtain rfl:j=s.size:=by omega
      go_wp2;go_ret;exact ⟨⟨_,rfl⟩,rfl⟩
theorem pat2_any (s:Bz) (h:Nat) (w:Wd) (hs:s.size<4294967281) (hm:Mx w) (hc:w.cell? ⟨h,0,none⟩=some (.func (.func 262) #[] #[])):
  Calls prog 263 #[.string s,.pointer (some ⟨h,0,none⟩)] w (BoolW w):=by
 have HQ:=Hd (quals_any s w (by unfold maxLen;omega));obtain ⟨m,hm⟩:=hm;have HC:=Hd (Tryz.strings_Contains s ⟨#[42,42]⟩ m w hs hm);generalize Lib.contains s.data.toList (⟨#[42,42]⟩:Bz).data.toList=z at HC;obtain ⟨q,hq⟩:∃ q,(s.toList == [42,42])=q:=⟨_,rfl⟩
 clear hm;cases q
 ·go_enter Tryz.func263,Tryz.ntmps263;go_wp2_with (first|(go_at_call 245;refine HQ.out.mono ?_;rintro e w1 ⟨⟨u,rfl⟩,rfl⟩;cases u)|(go_at_call 257;refine HC.out.mono ?_;rintro e w1 ⟨rfl,rfl⟩))
  all_goals
   go_ret;exact ⟨⟨_,rfl⟩,rfl⟩
 ·go_enter Tryz.func263,Tryz.ntmps263;go_wp2;go_ret;exact ⟨⟨_,rfl⟩,rfl⟩
theorem allp_any (s:Bz) (h:Nat) (w:Wd) (hs:s.size≤maxLen) (hm:Mx w) (hc:w.cell? ⟨h,0,none⟩=some (.func (.func 262) #[] #[])):
  Calls prog 243 #[.string s,.int .i64 31,.func (.func 263) #[] #[.pointer (some ⟨h,0,none⟩)]] w (BoolG w):=by
 unfold maxLen at hs;by_cases h0:s.size<1
 ·clear hm hc;go_enter Tryz.func243,Tryz.ntmps243;go_wp2;go_ret;exact ⟨⟨_,rfl⟩,Bf _ _⟩
 ·by_cases h31:31<s.size
  ·clear hm hc;go_enter Tryz.func243,Tryz.ntmps243;go_wp2;go_ret;exact ⟨⟨_,rfl⟩,Bf _ _⟩
  ·have hmx:=hm;obtain ⟨m,hm⟩:=hm;have HS:=Hd (Tryz.strings_Split s dot m w (by omega) hm (by decide));have HP:=Hd (sl_pcs w s);have HZ:Hid (∀ q∈pcs s,∀ W,Below w.heap.size w W→Calls prog 263 #[.string q,.pointer (some ⟨h,0,none⟩)] W (BoolW W)):=Hd fun q hq W hb=>pat2_any q h W (by have:=pcs_size hq;omega) (hmx.after hb) ((hb.cell (p:=⟨h,0,none⟩) (Jh hc)).trans hc)
   have hcn:=G5 s;obtain ⟨n,hn⟩:∃ n,Lib.countB s dot+1=n:=⟨_,rfl⟩
   have hps:Lib.splitB dot 0 (Lib.countB s dot) s=pcs s:=rfl;simp only [hps,hn] at HS HP;have hnn:n≤32:=by omega
   clear hm hmx hc hps hn hcn;generalize pcs s=l at HS HP HZ;obtain ⟨w1,dN⟩:∃ w1,w.alloc (.cells (l.map Value.string).toArray 9)=w1:=⟨_,rfl⟩
   have aJ:Below w.heap.size w w1:=by rw [←dN];exact (Bf _ _).alloc (Le _) _
   have aK:w.heap.size+1=w1.heap.size:=by rw [←dN];simp
   have aQ:=Hd aJ;simp only [dN] at HS HP;rw [aK] at HP;have cJ:=Hd aK;clear dN aJ aK;go_enter Tryz.func243,Tryz.ntmps243;go_wp2_with (go_at_call 250;refine HS.out.mono ?_;rintro e w' ⟨rfl,hw⟩;rw [hw];clear hw w');go_loopw [21] (fun i wr => ∃ j:Nat,j≤n∧i = .int .i64 j∧wr=w1) (fun i _=>n-(intOf i).toNat)
   case atStart=>exact ⟨0,Z0 _,rfl,rfl⟩
   case round=>
    obtain ⟨j,hj,rfl,rfl⟩:=hrel;by_cases aG:j<n
    ·obtain ⟨b,o,x,gD,hb,hg,aB⟩:=Sl.cell (f:=Ui) (k:=1) (fun _=>rfl) HP.out aG;injection gD with gD
     injection gD with e1 e2
     subst e1 e2;have c0:=aB 0 _ rfl;simp only [Nat.add_zero,Nat.zero_add,Nat.mul_one] at c0;have HQ:=Hd (HZ.out x (List.mem_of_getElem? hg) wr aQ.out);clear hg aB hb;go_wp2_with (go_at_call 263;refine HQ.out.mono ?_;rintro e w' ⟨⟨u,rfl⟩,rfl⟩;cases u)
     ·go_ret;exact ⟨⟨_,rfl⟩,aQ.out⟩
     ·go_roundw
      case rel=>exact ⟨j+1,by omega,by go_num,trivial⟩
      case measure=>simp [intOf];omega
    ·obtain rfl:j=n:=by omega
     go_wp2;go_ret;exact ⟨⟨_,rfl⟩,aQ.out⟩
theorem pattern_any (s:Bz) (w:Wd) (hs:s.size≤maxLen) (hm:Mx w):Calls prog 207 #[.string s] w (BoolG w):=by
 have hb:Below w.heap.size w (w.alloc (.cells #[.func (.func 262) #[] #[]] 307)):=(Bf _ _).alloc (Le _) _;have HA:=Hd (allp_any s w.heap.size _ hs (hm.after hb) (((Blk.new w 307 #[.func (.func 262) #[] #[]]).cell 0).trans rfl));have HB:=Hd hb;clear hs hm hb;go_enter Tryz.func207,Tryz.ntmps207;go_wp2_with (go_at_call 243;refine HA.out.mono ?_;rintro e w1 ⟨⟨b,rfl⟩,h1⟩;have H1:=Hd h1;clear h1);go_ret;exact ⟨⟨_,rfl⟩,U0 HB.out H1.out HB.out.size⟩
def Jv (l:List Int) (j:Nat):Bool:=decide (1≤l.getD j 0)&&decide (l.getD j 0≤1099511627776)&&(decide (j=0) || decide (l.getD (j-1) 0<l.getD j 0))
def altsB (l:List Int):Bool:=(List.range l.length).all (Jv l)
def orW (s:Bz):Bool:=decide (s.toList = []) || Jn s
def X4 (e:En):Bool:=wiB 0 1099511627776 [e.d.len,e.d.blk,e.d.kat,e.d.kln,e.d.itv,e.d.area,e.d.fi,e.d.fa,e.d.base,e.d.aat,e.d.aln]&&wiB 1 1099511627776 [e.d.id]&&wiB 0 3 [e.d.org]&&wiB 0 2 [e.d.fmt]&&wiB 0 3 [e.d.cls]&&orW e.d.vol&&orW e.d.own&&dayB [e.d.cre,e.d.exp,e.used]&&decide (e.alts.length≤4)
def dataB (e:En):Bool:=altsB e.alts&&X4 e
structure Sta (w:Wd):Prop where
 mx:Mx w
 tb:Tab w
theorem Sta.after {w w':Wd} (h:Sta w) (hb:Below w.heap.size w w'):Sta w':=⟨h.mx.after hb,h.tb.after hb⟩
structure VD (e:En) (a:EnA) (w W:Wd):Prop where
 e1:Blk W w.heap.size 159 (enC e a).toArray
 e2:Blk W (w.heap.size+1) 27 (dC e.d).toArray
 be:Below w.heap.size w W
 sz:w.heap.size+2≤W.heap.size
 st:Sta W
theorem VD.next {e:En} {a:EnA} {w W W':Wd} (h:VD e a w W) (hb:Below W.heap.size W W'):VD e a w W':=
 have hz:=h.sz
 ⟨h.e1.below hb h.e1.lt,h.e2.below hb h.e2.lt,U0 h.be hb (by omega),Lx h.sz hb.size,h.st.after hb⟩
theorem VD.alloc {e:En} {a:EnA} {w W:Wd} (h:VD e a w W) (o:Obj):VD e a w (W.alloc o):=h.next ((Bf _ _).alloc (Le _) o)
theorem VD.cell {e:En} {a:EnA} {w W:Wd} (h:VD e a w W) (i:Nat) (v:Value) (hv:(dC e.d)[i]? =some v):W.cell? ⟨w.heap.size+1,i,none⟩=some v:=by rw [h.e2.cell];simpa using hv
theorem VD.cell1 {e:En} {a:EnA} {w W:Wd} (h:VD e a w W) (i:Nat) (v:Value) (hv:(enC e a)[i]? =some v):W.cell? ⟨w.heap.size,i,none⟩=some v:=by rw [h.e1.cell];simpa using hv
theorem validData_any (e:En) (a:EnA) (w:Wd) (hw:EW [] w e a) (hs:Sm e) (ht:Sta w):
  Calls prog 189 #[.agg (enC e a).toArray] w fun x w'=>x = .returned (.bool (dataB e))∧Below w.heap.size w w':=by
 obtain ⟨A,C,gA,gC⟩:=a;obtain ⟨R,hR⟩:∃ R,dataB e=R:=⟨_,rfl⟩
 rw [hR];have HR:=Hd hR;have hla:=hs.la;have aQ:=Hd (Blk.new w 159 (enC e ⟨A,C,gA,gC⟩).toArray);have HM:Hid ((w.alloc (.cells (enC e ⟨A,C,gA,gC⟩).toArray 159)).rangeAt w.heap.size 2 (dC e.d)):=Hd fun j v hv=>by rw [aQ.out.cell];have hj:j<21:=(List.getElem?_eq_some_iff.1 hv).1;have h:=dC_in e ⟨A,C,gA,gC⟩ j hj;rw [←hv,←h];simp
 have kC:=Hd fun old=>U3 (w.alloc (.cells (enC e ⟨A,C,gA,gC⟩).toArray 159)) 27 old (w.heap.size+1) (by simp)
 have bR:=Hd fun old=>Ug (w.alloc (.cells (enC e ⟨A,C,gA,gC⟩).toArray 159)) (w.heap.size+1) (by simp) old (dC e.d).toArray 27
 have HD1:=Hd (Zg e.d);have HSA:=Hd hw.sa;have cH:=Hd ht;have HS:=Hd hs;obtain ⟨W1,hW1⟩:∃ W1,(w.alloc (.cells (enC e ⟨A,C,gA,gC⟩).toArray 159)).alloc (.cells (dC e.d).toArray 27)=W1:=⟨_,rfl⟩
 have HW1:Hid (Below w.heap.size w W1):=Hd (by rw [←hW1];exact ((Bf _ _).alloc (Le _) _).alloc (by simp) _);have HE1:Hid (Blk W1 w.heap.size 159 (enC e ⟨A,C,gA,gC⟩).toArray):=Hd (by rw [←hW1];exact aQ.out.alloc _);have fU:Hid (Blk W1 (w.heap.size+1) 27 (dC e.d).toArray):=Hd (by rw [←hW1];exact kC.out _);have c23:=(HE1.out.cell 23).trans (show _=some (Value.slice A e.alts.length C) from rfl);clear hR hw hs ht;go_enter Tryz.func189,Tryz.ntmps189;go_wp2_with (first|((with_reducible refine Gl 27 6 ?_);refine Ln 27 w.heap.size (2) (dC e.d) HM.out Tryz.underlying27 ?_)|((with_reducible refine Gt 27 3 ?_);refine Lv 27 ((w.heap.size+1)) (dC e.d).toArray (kC.out _) HD1.out ?_;rw [bR.out];rw [hW1]));have HC23:=Hd c23
 have cG:Hid (Sl Vc 1 W1 W1.heap.size A e.alts.length C e.alts):=Hd (HSA.out.after HW1.out HW1.out.size);clear c23;go_loopw [11] (fun i wr => ∃ j:Nat,j≤e.alts.length∧i = .int .i64 j∧(∀ t,t<j→Jv e.alts t=true)∧wr=W1) (fun i _=>e.alts.length-(intOf i).toNat)
 case atStart=>exact ⟨0,Z0 _,rfl,fun t h=>absurd h (by omega),rfl⟩
 case round=>
  obtain ⟨j,hj,rfl,hall,rfl⟩:=hrel;have HA:=Hd hall;clear hall;by_cases aG:j<e.alts.length
  ·have hbad:Jv e.alts j=false→R=false:=fun h=>by
    rw [←HR.out];unfold dataB;rw [show altsB e.alts=false from List.all_eq_false.2 ⟨j,List.mem_range.2 aG,by rw [h];simp⟩];rfl
   have HBAD:=Hd hbad;obtain ⟨b,o,x,rfl,hb,hg,aB⟩:=Sl.cell (f:=Vc) (k:=1) (fun _=>rfl) cG.out aG;have cx:=aB 0 _ rfl;simp only [Nat.add_zero,Nat.mul_one] at cx;have hgx:e.alts.getD j 0=x:=by rw [List.getD_eq_getElem?_getD,hg];rfl
   have HGX:=Hd hgx;have HHB:=Hd hb;clear hbad hb hg aB hgx;have c23:=HC23.out;by_cases jF:x<1
   ·have e1:decide (x<1)=true:=decide_eq_true jF;have HF:Hid (R=false):=Hd (HBAD.out (by unfold Jv;rw [HGX.out,decide_eq_false (by omega)];rfl));go_wp2;go_ret;exact ⟨by rw [HF.out];rfl,HW1.out⟩
   ·have e1:decide (x<1)=false:=decide_eq_false jF;by_cases hx2:1099511627776<x
    ·have e2:decide (1099511627776<x)=true:=decide_eq_true hx2;have HF:Hid (R=false):=Hd (HBAD.out (by unfold Jv;rw [HGX.out,decide_eq_true (show 1≤x by omega),decide_eq_false (show ¬ x≤1099511627776 by omega)];rfl));go_wp2;go_ret;exact ⟨by rw [HF.out];rfl,HW1.out⟩
    ·have e2:decide (1099511627776<x)=false:=decide_eq_false hx2;cases j with
     |zero=>
      have dF:Hid (Jv e.alts 0=true):=Hd (by unfold Jv;rw [HGX.out,decide_eq_true (show 1≤x by omega),decide_eq_true (show x≤1099511627776 by omega)];rfl);rw [show ((0:Nat):Int)=0 from rfl];simp only [Nat.add_zero] at cx;go_wp2;go_roundw
      case rel=>exact ⟨1,by omega,by go_num,fun t ht=>by (obtain rfl:t=0:=by omega);exact dF.out,trivial⟩
      case measure=>simp [intOf];omega
     |succ m=>
      obtain ⟨b2,o2,y,gD,aF,dL,eR⟩:=Sl.cell (f:=Vc) (k:=1) (fun _=>rfl) cG.out (show m<e.alts.length by omega);injection gD with gD
      injection gD with q1 q2
      subst q1 q2;have cy:=eR 0 _ rfl;simp only [Nat.add_zero,Nat.mul_one] at cy;have hgy:e.alts.getD m 0=y:=by rw [List.getD_eq_getElem?_getD,dL];rfl
      have HGY:=Hd hgy;clear aF dL eR hgy;by_cases hxy:x≤y
      ·have e3:decide (x≤y)=true:=decide_eq_true hxy;have HF:Hid (R=false):=Hd (HBAD.out (by unfold Jv;rw [HGX.out,show m+1-1=m from rfl,HGY.out,decide_eq_true (show 1≤x by omega),decide_eq_true (show x≤1099511627776 by omega),decide_eq_false (show ¬ y<x by omega)];simp));go_wp2;go_ret;exact ⟨by rw [HF.out];rfl,HW1.out⟩
      ·have e3:decide (x≤y)=false:=decide_eq_false hxy;have dF:Hid (Jv e.alts (m+1)=true):=Hd (by unfold Jv;rw [HGX.out,show m+1-1=m from rfl,HGY.out,decide_eq_true (show 1≤x by omega),decide_eq_true (show x≤1099511627776 by omega),decide_eq_true (show y<x by omega)];simp);go_wp2;go_roundw
       case rel=>
        refine ⟨m+2,by omega,by go_num,fun t ht=>?_,trivial⟩;by_cases ht2:t=m+1
        ·rw [ht2];exact dF.out
        ·exact HA.out t (by omega)
       case measure=>simp [intOf];omega
  ·obtain rfl:j=e.alts.length:=by omega
   have dF:Hid (R=X4 e):=Hd (by
    rw [←HR.out];unfold dataB;rw [show altsB e.alts=true from List.all_eq_true.2 fun t ht=>HA.out t (List.mem_range.1 ht)];rfl)
   have HX:Hid (VD e ⟨A,C,gA,gC⟩ w wr):=Hd ⟨HE1.out,fU.out,HW1.out,by have:=fU.out.lt;omega,cH.out.after HW1.out⟩;have HVO:Hid (e.d.vol.size≤maxLen∧e.d.own.size≤maxLen):=Hd ⟨by have:=HS.out.vo;unfold maxLen;omega,by have:=HS.out.ow;unfold maxLen;omega⟩;clear HE1 fU HW1 cH HS cG HSA aQ HM kC bR HD1 HC23 HR HA;have d3:=HX.out.cell 3 (.int .i64 e.d.len) rfl;have d4:=HX.out.cell 4 (.int .i64 e.d.blk) rfl;have d5:=HX.out.cell 5 (.int .i64 e.d.kat) rfl;have d6:=HX.out.cell 6 (.int .i64 e.d.kln) rfl;have d7:=HX.out.cell 7 (.int .i64 e.d.itv) rfl;have d8:=HX.out.cell 8 (.int .i64 e.d.area) rfl;have d9:=HX.out.cell 9 (.int .i64 e.d.fi) rfl;have d10:=HX.out.cell 10 (.int .i64 e.d.fa) rfl;have d11:=HX.out.cell 11 (.int .i64 e.d.base) rfl;have d12:=HX.out.cell 12 (.int .i64 e.d.aat) rfl;have d13:=HX.out.cell 13 (.int .i64 e.d.aln) rfl
   go_wp2_with ((with_reducible show Calls _ _ _ _ _);refine Stop.go ?_);refine Stop.in' ?_;rename_i K hK X hX;clear d3 d4 d5 d6 d7 d8 d9 d10 d11 d12 d13;have bJ:Hid (Sl Vc 1 (wr.alloc (.cells #[.int .i64 e.d.len,.int .i64 e.d.blk,.int .i64 e.d.kat,.int .i64 e.d.kln,.int .i64 e.d.itv,.int .i64 e.d.area,.int .i64 e.d.fi,.int .i64 e.d.fa,.int .i64 e.d.base,.int .i64 e.d.aat,.int .i64 e.d.aln] 3)) (wr.heap.size+1) (some ⟨wr.heap.size,0,none⟩) 11 11 [e.d.len,e.d.blk,e.d.kat,e.d.kln,e.d.itv,e.d.area,e.d.fi,e.d.fa,e.d.base,e.d.aat,e.d.aln]):=Hd (Sl.new (f:=Vc) (k:=1) (fun _=>rfl) wr 3 [e.d.len,e.d.blk,e.d.kat,e.d.kln,e.d.itv,e.d.area,e.d.fi,e.d.fa,e.d.base,e.d.aat,e.d.aln])
   have HX:=Hd (HX.out.alloc (.cells #[.int .i64 e.d.len,.int .i64 e.d.blk,.int .i64 e.d.kat,.int .i64 e.d.kln,.int .i64 e.d.itv,.int .i64 e.d.area,.int .i64 e.d.fi,.int .i64 e.d.fa,.int .i64 e.d.base,.int .i64 e.d.aat,.int .i64 e.d.aln] 3));have aK:wr.heap.size+1≤(wr.alloc (.cells #[.int .i64 e.d.len,.int .i64 e.d.blk,.int .i64 e.d.kat,.int .i64 e.d.kln,.int .i64 e.d.itv,.int .i64 e.d.area,.int .i64 e.d.fi,.int .i64 e.d.fa,.int .i64 e.d.base,.int .i64 e.d.aat,.int .i64 e.d.aln] 3)).heap.size:=by simp
   obtain ⟨W11,hW⟩:∃ V,wr.alloc (.cells #[.int .i64 e.d.len,.int .i64 e.d.blk,.int .i64 e.d.kat,.int .i64 e.d.kln,.int .i64 e.d.itv,.int .i64 e.d.area,.int .i64 e.d.fi,.int .i64 e.d.fa,.int .i64 e.d.base,.int .i64 e.d.aat,.int .i64 e.d.aln] 3)=V:=⟨_,rfl⟩
   simp only [hW] at HX bJ aK ⊢;have bJ:=Hd (bJ.out.more aK);clear hW aK;refine (Ve 0 1099511627776 _ 11 11 [e.d.len,e.d.blk,e.d.kat,e.d.kln,e.d.itv,e.d.area,e.d.fi,e.d.fa,e.d.base,e.d.aat,e.d.aln] W11 bJ.out (by decide)).mono ?_;rintro x V ⟨rfl,rfl⟩;simp only [];refine hX _ _ ?_;clear hX;obtain ⟨q,hq⟩:∃ q,wiB 0 1099511627776 [e.d.len,e.d.blk,e.d.kat,e.d.kln,e.d.itv,e.d.area,e.d.fi,e.d.fa,e.d.base,e.d.aat,e.d.aln]=q:=⟨_,rfl⟩
   rw [hq];cases q with
   |false=>
    have HF:R=false:=by rw [dF.out];unfold X4;simp [hq]
    exact Uh 2 (.bool false) (by kernel_rfl) (by intro a' h4 hd;simp only [Exit.then];refine hK _ _ ?_;go_wp2;exact Br (v:=.bool false) ((results_tmp Tryz.results189 a'.tmps _ _).trans (by rw [h4])) hd ⟨by rw [HF],HX.out.be⟩)
   |true=>
    have k0:=Hd hq;clear hq;refine Wv (.bool true) ?_;refine Wv (.pointer (some ⟨w.heap.size+1,0,none⟩)) ?_;have m1:=HX.out.cell 0 (.int .i64 e.d.id) rfl;refine Wv (.int .i64 e.d.id) ?_ (r:=by go_simp);clear m1;refine Xa (by kernel_rfl) (.slice (some ⟨W11.heap.size,0,none⟩) 1 1) (W11.alloc (.cells #[.int .i64 e.d.id] 3)) (by go_simp) ?_;simp only [Act.put,Sv,Sz,Sw];have bJ:Hid (Sl Vc 1 (W11.alloc (.cells #[.int .i64 e.d.id] 3)) (W11.heap.size+1) (some ⟨W11.heap.size,0,none⟩) 1 1 [e.d.id]):=Hd (Sl.new (f:=Vc) (k:=1) (fun _=>rfl) W11 3 [e.d.id]);have HX:=Hd (HX.out.alloc (.cells #[.int .i64 e.d.id] 3));have aK:W11.heap.size+1≤(W11.alloc (.cells #[.int .i64 e.d.id] 3)).heap.size:=by simp
    obtain ⟨W12,hW⟩:∃ V,W11.alloc (.cells #[.int .i64 e.d.id] 3)=V:=⟨_,rfl⟩
    simp only [hW] at HX bJ aK ⊢;have bJ:=Hd (bJ.out.more aK);clear hW aK;refine V7 (by kernel_rfl) 196 #[.int .i64 1,.int .i64 1099511627776,.slice (some ⟨W11.heap.size,0,none⟩) 1 1] (by kernel_rfl) ?_;refine (Ve 1 1099511627776 _ 1 1 [e.d.id] W12 bJ.out (by decide)).mono ?_;rintro x V ⟨rfl,rfl⟩;simp only [];simp only [Act.put,Sv,Sz,Sw];obtain ⟨q,hq⟩:∃ q,wiB 1 1099511627776 [e.d.id]=q:=⟨_,rfl⟩
    rw [hq];cases q with
    |false=>
     have HF:R=false:=by rw [dF.out];unfold X4;simp [hq]
     exact Uh 2 (.bool false) (by kernel_rfl) (by intro a' h4 hd;simp only [Exit.then];refine hK _ _ ?_;go_wp2;exact Br (v:=.bool false) ((results_tmp Tryz.results189 a'.tmps _ _).trans (by rw [h4])) hd ⟨by rw [HF],HX.out.be⟩)
    |true=>
     have k1:=Hd hq;clear hq;refine Wv (.bool true) ?_;refine Wv (.bool true) ?_;refine Wv (.pointer (some ⟨w.heap.size+1,1,none⟩)) ?_;have m1:=HX.out.cell 1 (.int .i64 e.d.org) rfl;refine Wv (.int .i64 e.d.org) ?_ (r:=by go_simp);clear m1;refine Xa (by kernel_rfl) (.slice (some ⟨W12.heap.size,0,none⟩) 1 1) (W12.alloc (.cells #[.int .i64 e.d.org] 3)) (by go_simp) ?_;simp only [Act.put,Sv,Sz,Sw];have bJ:Hid (Sl Vc 1 (W12.alloc (.cells #[.int .i64 e.d.org] 3)) (W12.heap.size+1) (some ⟨W12.heap.size,0,none⟩) 1 1 [e.d.org]):=Hd (Sl.new (f:=Vc) (k:=1) (fun _=>rfl) W12 3 [e.d.org]);have HX:=Hd (HX.out.alloc (.cells #[.int .i64 e.d.org] 3));have aK:W12.heap.size+1≤(W12.alloc (.cells #[.int .i64 e.d.org] 3)).heap.size:=by simp
     obtain ⟨W13,hW⟩:∃ V,W12.alloc (.cells #[.int .i64 e.d.org] 3)=V:=⟨_,rfl⟩
     simp only [hW] at HX bJ aK ⊢;have bJ:=Hd (bJ.out.more aK);clear hW aK;refine V7 (by kernel_rfl) 196 #[.int .i64 0,.int .i64 3,.slice (some ⟨W12.heap.size,0,none⟩) 1 1] (by kernel_rfl) ?_;refine (Ve 0 3 _ 1 1 [e.d.org] W13 bJ.out (by decide)).mono ?_;rintro x V ⟨rfl,rfl⟩;simp only [];simp only [Act.put,Sv,Sz,Sw];obtain ⟨q,hq⟩:∃ q,wiB 0 3 [e.d.org]=q:=⟨_,rfl⟩
     rw [hq];cases q with
     |false=>
      have HF:R=false:=by rw [dF.out];unfold X4;simp [hq]
      exact Uh 2 (.bool false) (by kernel_rfl) (by intro a' h4 hd;simp only [Exit.then];refine hK _ _ ?_;go_wp2;exact Br (v:=.bool false) ((results_tmp Tryz.results189 a'.tmps _ _).trans (by rw [h4])) hd ⟨by rw [HF],HX.out.be⟩)
     |true=>
      have k2:=Hd hq;clear hq;refine Wv (.bool true) ?_;refine Wv (.bool true) ?_;refine Wv (.pointer (some ⟨w.heap.size+1,2,none⟩)) ?_;have m1:=HX.out.cell 2 (.int .i64 e.d.fmt) rfl;refine Wv (.int .i64 e.d.fmt) ?_ (r:=by go_simp);clear m1;refine Xa (by kernel_rfl) (.slice (some ⟨W13.heap.size,0,none⟩) 1 1) (W13.alloc (.cells #[.int .i64 e.d.fmt] 3)) (by go_simp) ?_;simp only [Act.put,Sv,Sz,Sw];have bJ:Hid (Sl Vc 1 (W13.alloc (.cells #[.int .i64 e.d.fmt] 3)) (W13.heap.size+1) (some ⟨W13.heap.size,0,none⟩) 1 1 [e.d.fmt]):=Hd (Sl.new (f:=Vc) (k:=1) (fun _=>rfl) W13 3 [e.d.fmt]);have HX:=Hd (HX.out.alloc (.cells #[.int .i64 e.d.fmt] 3));have aK:W13.heap.size+1≤(W13.alloc (.cells #[.int .i64 e.d.fmt] 3)).heap.size:=by simp
      obtain ⟨W14,hW⟩:∃ V,W13.alloc (.cells #[.int .i64 e.d.fmt] 3)=V:=⟨_,rfl⟩
      simp only [hW] at HX bJ aK ⊢;have bJ:=Hd (bJ.out.more aK);clear hW aK;refine V7 (by kernel_rfl) 196 #[.int .i64 0,.int .i64 2,.slice (some ⟨W13.heap.size,0,none⟩) 1 1] (by kernel_rfl) ?_;refine (Ve 0 2 _ 1 1 [e.d.fmt] W14 bJ.out (by decide)).mono ?_;rintro x V ⟨rfl,rfl⟩;simp only [];simp only [Act.put,Sv,Sz,Sw];obtain ⟨q,hq⟩:∃ q,wiB 0 2 [e.d.fmt]=q:=⟨_,rfl⟩
      rw [hq];cases q with
      |false=>
       have HF:R=false:=by rw [dF.out];unfold X4;simp [hq]
       exact Uh 2 (.bool false) (by kernel_rfl) (by intro a' h4 hd;simp only [Exit.then];refine hK _ _ ?_;go_wp2;exact Br (v:=.bool false) ((results_tmp Tryz.results189 a'.tmps _ _).trans (by rw [h4])) hd ⟨by rw [HF],HX.out.be⟩)
      |true=>
       have k3:=Hd hq;clear hq;refine Wv (.bool true) ?_;refine Wv (.bool true) ?_;refine Wv (.pointer (some ⟨w.heap.size+1,15,none⟩)) ?_;have m1:=HX.out.cell 15 (.int .i64 e.d.cls) rfl;refine Wv (.int .i64 e.d.cls) ?_ (r:=by go_simp);clear m1;refine Xa (by kernel_rfl) (.slice (some ⟨W14.heap.size,0,none⟩) 1 1) (W14.alloc (.cells #[.int .i64 e.d.cls] 3)) (by go_simp) ?_;simp only [Act.put,Sv,Sz,Sw];have bJ:Hid (Sl Vc 1 (W14.alloc (.cells #[.int .i64 e.d.cls] 3)) (W14.heap.size+1) (some ⟨W14.heap.size,0,none⟩) 1 1 [e.d.cls]):=Hd (Sl.new (f:=Vc) (k:=1) (fun _=>rfl) W14 3 [e.d.cls]);have HX:=Hd (HX.out.alloc (.cells #[.int .i64 e.d.cls] 3));have aK:W14.heap.size+1≤(W14.alloc (.cells #[.int .i64 e.d.cls] 3)).heap.size:=by simp
       obtain ⟨W15,hW⟩:∃ V,W14.alloc (.cells #[.int .i64 e.d.cls] 3)=V:=⟨_,rfl⟩
       simp only [hW] at HX bJ aK ⊢;have bJ:=Hd (bJ.out.more aK);clear hW aK;refine V7 (by kernel_rfl) 196 #[.int .i64 0,.int .i64 3,.slice (some ⟨W14.heap.size,0,none⟩) 1 1] (by kernel_rfl) ?_;refine (Ve 0 3 _ 1 1 [e.d.cls] W15 bJ.out (by decide)).mono ?_;rintro x V ⟨rfl,rfl⟩;simp only [];simp only [Act.put,Sv,Sz,Sw];obtain ⟨q,hq⟩:∃ q,wiB 0 3 [e.d.cls]=q:=⟨_,rfl⟩
       rw [hq];cases q with
       |false=>
        have HF:R=false:=by rw [dF.out];unfold X4;simp [hq]
        exact Uh 2 (.bool false) (by kernel_rfl) (by intro a' h4 hd;simp only [Exit.then];refine hK _ _ ?_;go_wp2;exact Br (v:=.bool false) ((results_tmp Tryz.results189 a'.tmps _ _).trans (by rw [h4])) hd ⟨by rw [HF],HX.out.be⟩)
       |true=>
        have k4:=Hd hq;clear hq;refine Wv (.bool true) ?_;refine Wv (.bool true) ?_;refine Wv (.pointer (some ⟨w.heap.size+1,16,none⟩)) ?_;have m1:=HX.out.cell 16 (.string e.d.vol) rfl;refine Wv (.string e.d.vol) ?_ (r:=by go_simp);clear m1;refine Wv (.bool (e.d.vol.toList == [])) ?_;obtain ⟨z,hz⟩:∃ z,(e.d.vol.toList == [])=z:=⟨_,rfl⟩
        rw [hz];cases z with
        |true=>
         have hq:orW e.d.vol=true:=by unfold orW;rw [decide_eq_true (beq_iff_eq.1 hz)];rfl
         have k5:=Hd hq;clear hq;clear hz;refine Wv (.bool true) ?_;refine Wk ?_;refine Wk ?_;refine Wk ?_;refine Wv (.bool true) ?_;refine Wv (.bool true) ?_;refine Wv (.bool true) ?_;refine Wv (.pointer (some ⟨w.heap.size+1,17,none⟩)) ?_;have m1:=HX.out.cell 17 (.string e.d.own) rfl;refine Wv (.string e.d.own) ?_ (r:=by go_simp);clear m1;refine Wv (.bool (e.d.own.toList == [])) ?_;obtain ⟨z,hz⟩:∃ z,(e.d.own.toList == [])=z:=⟨_,rfl⟩
         rw [hz];cases z with
         |true=>
          have hq:orW e.d.own=true:=by unfold orW;rw [decide_eq_true (beq_iff_eq.1 hz)];rfl
          have k6:=Hd hq;clear hq;clear hz;refine Wv (.bool true) ?_;refine Wk ?_;refine Wk ?_;refine Wk ?_;refine Wv (.bool true) ?_;refine Wv (.bool true) ?_;refine Wv (.bool true) ?_;refine Wv (.pointer (some ⟨w.heap.size+1,18,none⟩)) ?_;have m1:=HX.out.cell 18 (.int .i64 e.d.cre) rfl;refine Wv (.int .i64 e.d.cre) ?_ (r:=by go_simp);clear m1;refine Wv (.pointer (some ⟨w.heap.size+1,19,none⟩)) ?_;have m1:=HX.out.cell 19 (.int .i64 e.d.exp) rfl;refine Wv (.int .i64 e.d.exp) ?_ (r:=by go_simp);clear m1;refine Wv (.pointer (some ⟨w.heap.size,24,none⟩)) ?_;have m1:=HX.out.cell1 24 (.int .i64 e.used) rfl;refine Wv (.int .i64 e.used) ?_ (r:=by go_simp);clear m1;refine Xa (by kernel_rfl) (.slice (some ⟨W15.heap.size,0,none⟩) 3 3) (W15.alloc (.cells #[.int .i64 e.d.cre,.int .i64 e.d.exp,.int .i64 e.used] 3)) (by go_simp) ?_;simp only [Act.put,Sv,Sz,Sw]
          have bJ:Hid (Sl Vc 1 (W15.alloc (.cells #[.int .i64 e.d.cre,.int .i64 e.d.exp,.int .i64 e.used] 3)) (W15.heap.size+1) (some ⟨W15.heap.size,0,none⟩) 3 3 [e.d.cre,e.d.exp,e.used]):=Hd (Sl.new (f:=Vc) (k:=1) (fun _=>rfl) W15 3 [e.d.cre,e.d.exp,e.used]);have HX:=Hd (HX.out.alloc (.cells #[.int .i64 e.d.cre,.int .i64 e.d.exp,.int .i64 e.used] 3));have aK:W15.heap.size+1≤(W15.alloc (.cells #[.int .i64 e.d.cre,.int .i64 e.d.exp,.int .i64 e.used] 3)).heap.size:=by simp
          obtain ⟨W16,hW⟩:∃ V,W15.alloc (.cells #[.int .i64 e.d.cre,.int .i64 e.d.exp,.int .i64 e.used] 3)=V:=⟨_,rfl⟩
          simp only [hW] at HX bJ aK ⊢;have bJ:=Hd (bJ.out.more aK);clear hW aK;refine V7 (by kernel_rfl) 249 #[.slice (some ⟨W15.heap.size,0,none⟩) 3 3] (by kernel_rfl) ?_;refine (Jd _ 3 3 [e.d.cre,e.d.exp,e.used] W16 bJ.out (by decide) HX.out.st.tb).mono ?_;rintro x V ⟨rfl,hb⟩;have HX:=Hd (HX.out.next hb);clear hb;simp only [];simp only [Act.put,Sv,Sz,Sw];obtain ⟨q,hq⟩:∃ q,dayB [e.d.cre,e.d.exp,e.used]=q:=⟨_,rfl⟩
          rw [hq];cases q with
          |false=>
           have HF:R=false:=by rw [dF.out];unfold X4;simp [hq]
           exact Uh 2 (.bool false) (by kernel_rfl) (by intro a' h4 hd;simp only [Exit.then];refine hK _ _ ?_;go_wp2;exact Br (v:=.bool false) ((results_tmp Tryz.results189 a'.tmps _ _).trans (by rw [h4])) hd ⟨by rw [HF],HX.out.be⟩)
          |true=>
           have k7:=Hd hq;clear hq;refine Wv (.bool true) ?_;refine Wv (.bool true) ?_;refine Wv (.pointer (some ⟨w.heap.size,23,none⟩)) ?_;have m1:=HX.out.cell1 23 (.slice A e.alts.length C) rfl;refine Wv (.slice A e.alts.length C) ?_ (r:=by go_simp);clear m1;refine Wv (.int .i64 e.alts.length) ?_;refine Wv (.bool (decide ((e.alts.length:Int)≤4))) ?_;obtain ⟨q,hq⟩:∃ q,decide ((e.alts.length:Int)≤4)=q:=⟨_,rfl⟩
           rw [hq];have HF:R=q:=by rw [dF.out];unfold X4;simp only [k0.out,k1.out,k2.out,k3.out,k4.out,k5.out,k6.out,k7.out,Bool.true_and];rw [←hq];exact decide_eq_decide.2 (by omega)
           exact Uh 2 (.bool q) (by cases q<;>kernel_rfl) (by intro a' h4 hd;simp only [Exit.then];refine hK _ _ ?_;go_wp2;exact Br (v:=.bool q) ((results_tmp Tryz.results189 a'.tmps _ _).trans (by rw [h4])) hd ⟨by rw [HF],HX.out.be⟩)
         |false=>
          refine Wv (.bool false) ?_;refine Wv (.pointer (some ⟨w.heap.size+1,17,none⟩)) ?_;have m1:=HX.out.cell 17 (.string e.d.own) rfl;refine Wv (.string e.d.own) ?_ (r:=by go_simp);clear m1;refine V7 (by kernel_rfl) 197 #[.string e.d.own] (by kernel_rfl) ?_;refine (Z9 e.d.own W15 HVO.out.2 HX.out.st.mx).mono ?_;rintro x W15V ⟨rfl,hb⟩;have HX:=Hd (HX.out.next hb);clear hb;simp only [];simp only [Act.put,Sv,Sz,Sw];have hor:orW e.d.own=Jn e.d.own:=by unfold orW;rw [decide_eq_false (fun h=>by rw [h] at hz;cases hz)];rfl
          rw [←hor];clear hz hor;obtain ⟨q,hq⟩:∃ q,orW e.d.own=q:=⟨_,rfl⟩
          rw [hq];cases q with
          |false=>
           have HF:R=false:=by rw [dF.out];unfold X4;simp [hq]
           exact Uh 2 (.bool false) (by kernel_rfl) (by intro a' h4 hd;simp only [Exit.then];refine hK _ _ ?_;go_wp2;exact Br (v:=.bool false) ((results_tmp Tryz.results189 a'.tmps _ _).trans (by rw [h4])) hd ⟨by rw [HF],HX.out.be⟩)
          |true=>
           have k6:=Hd hq;clear hq;refine Wv (.bool true) ?_;refine Wv (.bool true) ?_;refine Wv (.bool true) ?_;refine Wv (.pointer (some ⟨w.heap.size+1,18,none⟩)) ?_;have m1:=HX.out.cell 18 (.int .i64 e.d.cre) rfl;refine Wv (.int .i64 e.d.cre) ?_ (r:=by go_simp);clear m1;refine Wv (.pointer (some ⟨w.heap.size+1,19,none⟩)) ?_;have m1:=HX.out.cell 19 (.int .i64 e.d.exp) rfl;refine Wv (.int .i64 e.d.exp) ?_ (r:=by go_simp);clear m1;refine Wv (.pointer (some ⟨w.heap.size,24,none⟩)) ?_;have m1:=HX.out.cell1 24 (.int .i64 e.used) rfl;refine Wv (.int .i64 e.used) ?_ (r:=by go_simp);clear m1;refine Xa (by kernel_rfl) (.slice (some ⟨W15V.heap.size,0,none⟩) 3 3) (W15V.alloc (.cells #[.int .i64 e.d.cre,.int .i64 e.d.exp,.int .i64 e.used] 3)) (by go_simp) ?_;simp only [Act.put,Sv,Sz,Sw]
           have bJ:Hid (Sl Vc 1 (W15V.alloc (.cells #[.int .i64 e.d.cre,.int .i64 e.d.exp,.int .i64 e.used] 3)) (W15V.heap.size+1) (some ⟨W15V.heap.size,0,none⟩) 3 3 [e.d.cre,e.d.exp,e.used]):=Hd (Sl.new (f:=Vc) (k:=1) (fun _=>rfl) W15V 3 [e.d.cre,e.d.exp,e.used]);have HX:=Hd (HX.out.alloc (.cells #[.int .i64 e.d.cre,.int .i64 e.d.exp,.int .i64 e.used] 3));have aK:W15V.heap.size+1≤(W15V.alloc (.cells #[.int .i64 e.d.cre,.int .i64 e.d.exp,.int .i64 e.used] 3)).heap.size:=by simp
           obtain ⟨W17,hW⟩:∃ V,W15V.alloc (.cells #[.int .i64 e.d.cre,.int .i64 e.d.exp,.int .i64 e.used] 3)=V:=⟨_,rfl⟩
           simp only [hW] at HX bJ aK ⊢;have bJ:=Hd (bJ.out.more aK);clear hW aK;refine V7 (by kernel_rfl) 249 #[.slice (some ⟨W15V.heap.size,0,none⟩) 3 3] (by kernel_rfl) ?_;refine (Jd _ 3 3 [e.d.cre,e.d.exp,e.used] W17 bJ.out (by decide) HX.out.st.tb).mono ?_;rintro x V ⟨rfl,hb⟩;have HX:=Hd (HX.out.next hb);clear hb;simp only [];simp only [Act.put,Sv,Sz,Sw];obtain ⟨q,hq⟩:∃ q,dayB [e.d.cre,e.d.exp,e.used]=q:=⟨_,rfl⟩
           rw [hq];cases q with
           |false=>
            have HF:R=false:=by rw [dF.out];unfold X4;simp [hq]
            exact Uh 2 (.bool false) (by kernel_rfl) (by intro a' h4 hd;simp only [Exit.then];refine hK _ _ ?_;go_wp2;exact Br (v:=.bool false) ((results_tmp Tryz.results189 a'.tmps _ _).trans (by rw [h4])) hd ⟨by rw [HF],HX.out.be⟩)
           |true=>
            have k7:=Hd hq;clear hq;refine Wv (.bool true) ?_;refine Wv (.bool true) ?_;refine Wv (.pointer (some ⟨w.heap.size,23,none⟩)) ?_;have m1:=HX.out.cell1 23 (.slice A e.alts.length C) rfl;refine Wv (.slice A e.alts.length C) ?_ (r:=by go_simp);clear m1;refine Wv (.int .i64 e.alts.length) ?_;refine Wv (.bool (decide ((e.alts.length:Int)≤4))) ?_;obtain ⟨q,hq⟩:∃ q,decide ((e.alts.length:Int)≤4)=q:=⟨_,rfl⟩
            rw [hq];have HF:R=q:=by rw [dF.out];unfold X4;simp only [k0.out,k1.out,k2.out,k3.out,k4.out,k5.out,k6.out,k7.out,Bool.true_and];rw [←hq];exact decide_eq_decide.2 (by omega)
            exact Uh 2 (.bool q) (by cases q<;>kernel_rfl) (by intro a' h4 hd;simp only [Exit.then];refine hK _ _ ?_;go_wp2;exact Br (v:=.bool q) ((results_tmp Tryz.results189 a'.tmps _ _).trans (by rw [h4])) hd ⟨by rw [HF],HX.out.be⟩)
        |false=>
         refine Wv (.bool false) ?_;refine Wv (.pointer (some ⟨w.heap.size+1,16,none⟩)) ?_;have m1:=HX.out.cell 16 (.string e.d.vol) rfl;refine Wv (.string e.d.vol) ?_ (r:=by go_simp);clear m1;refine V7 (by kernel_rfl) 197 #[.string e.d.vol] (by kernel_rfl) ?_;refine (Z9 e.d.vol W15 HVO.out.1 HX.out.st.mx).mono ?_;rintro x W15V ⟨rfl,hb⟩;have HX:=Hd (HX.out.next hb);clear hb;simp only [];simp only [Act.put,Sv,Sz,Sw];have hor:orW e.d.vol=Jn e.d.vol:=by unfold orW;rw [decide_eq_false (fun h=>by rw [h] at hz;cases hz)];rfl
         rw [←hor];clear hz hor;obtain ⟨q,hq⟩:∃ q,orW e.d.vol=q:=⟨_,rfl⟩
         rw [hq];cases q with
         |false=>
          have HF:R=false:=by rw [dF.out];unfold X4;simp [hq]
          exact Uh 2 (.bool false) (by kernel_rfl) (by intro a' h4 hd;simp only [Exit.then];refine hK _ _ ?_;go_wp2;exact Br (v:=.bool false) ((results_tmp Tryz.results189 a'.tmps _ _).trans (by rw [h4])) hd ⟨by rw [HF],HX.out.be⟩)
         |true=>
          have k5:=Hd hq;clear hq;refine Wv (.bool true) ?_;refine Wv (.bool true) ?_;refine Wv (.bool true) ?_;refine Wv (.pointer (some ⟨w.heap.size+1,17,none⟩)) ?_;have m1:=HX.out.cell 17 (.string e.d.own) rfl;refine Wv (.string e.d.own) ?_ (r:=by go_simp);clear m1;refine Wv (.bool (e.d.own.toList == [])) ?_;obtain ⟨z,hz⟩:∃ z,(e.d.own.toList == [])=z:=⟨_,rfl⟩
          rw [hz];cases z with
          |true=>
           have hq:orW e.d.own=true:=by unfold orW;rw [decide_eq_true (beq_iff_eq.1 hz)];rfl
           have k6:=Hd hq;clear hq;clear hz;refine Wv (.bool true) ?_;refine Wk ?_;refine Wk ?_;refine Wk ?_;refine Wv (.bool true) ?_;refine Wv (.bool true) ?_;refine Wv (.bool true) ?_;refine Wv (.pointer (some ⟨w.heap.size+1,18,none⟩)) ?_;have m1:=HX.out.cell 18 (.int .i64 e.d.cre) rfl;refine Wv (.int .i64 e.d.cre) ?_ (r:=by go_simp);clear m1;refine Wv (.pointer (some ⟨w.heap.size+1,19,none⟩)) ?_;have m1:=HX.out.cell 19 (.int .i64 e.d.exp) rfl;refine Wv (.int .i64 e.d.exp) ?_ (r:=by go_simp);clear m1;refine Wv (.pointer (some ⟨w.heap.size,24,none⟩)) ?_;have m1:=HX.out.cell1 24 (.int .i64 e.used) rfl;refine Wv (.int .i64 e.used) ?_ (r:=by go_simp);clear m1;refine Xa (by kernel_rfl) (.slice (some ⟨W15V.heap.size,0,none⟩) 3 3) (W15V.alloc (.cells #[.int .i64 e.d.cre,.int .i64 e.d.exp,.int .i64 e.used] 3)) (by go_simp) ?_;simp only [Act.put,Sv,Sz,Sw]
           have bJ:Hid (Sl Vc 1 (W15V.alloc (.cells #[.int .i64 e.d.cre,.int .i64 e.d.exp,.int .i64 e.used] 3)) (W15V.heap.size+1) (some ⟨W15V.heap.size,0,none⟩) 3 3 [e.d.cre,e.d.exp,e.used]):=Hd (Sl.new (f:=Vc) (k:=1) (fun _=>rfl) W15V 3 [e.d.cre,e.d.exp,e.used]);have HX:=Hd (HX.out.alloc (.cells #[.int .i64 e.d.cre,.int .i64 e.d.exp,.int .i64 e.used] 3));have aK:W15V.heap.size+1≤(W15V.alloc (.cells #[.int .i64 e.d.cre,.int .i64 e.d.exp,.int .i64 e.used] 3)).heap.size:=by simp
           obtain ⟨W18,hW⟩:∃ V,W15V.alloc (.cells #[.int .i64 e.d.cre,.int .i64 e.d.exp,.int .i64 e.used] 3)=V:=⟨_,rfl⟩
           simp only [hW] at HX bJ aK ⊢;have bJ:=Hd (bJ.out.more aK);clear hW aK;refine V7 (by kernel_rfl) 249 #[.slice (some ⟨W15V.heap.size,0,none⟩) 3 3] (by kernel_rfl) ?_;refine (Jd _ 3 3 [e.d.cre,e.d.exp,e.used] W18 bJ.out (by decide) HX.out.st.tb).mono ?_;rintro x V ⟨rfl,hb⟩;have HX:=Hd (HX.out.next hb);clear hb;simp only [];simp only [Act.put,Sv,Sz,Sw];obtain ⟨q,hq⟩:∃ q,dayB [e.d.cre,e.d.exp,e.used]=q:=⟨_,rfl⟩
           rw [hq];cases q with
           |false=>
            have HF:R=false:=by rw [dF.out];unfold X4;simp [hq]
            exact Uh 2 (.bool false) (by kernel_rfl) (by intro a' h4 hd;simp only [Exit.then];refine hK _ _ ?_;go_wp2;exact Br (v:=.bool false) ((results_tmp Tryz.results189 a'.tmps _ _).trans (by rw [h4])) hd ⟨by rw [HF],HX.out.be⟩)
           |true=>
            have k7:=Hd hq;clear hq;refine Wv (.bool true) ?_;refine Wv (.bool true) ?_;refine Wv (.pointer (some ⟨w.heap.size,23,none⟩)) ?_;have m1:=HX.out.cell1 23 (.slice A e.alts.length C) rfl;refine Wv (.slice A e.alts.length C) ?_ (r:=by go_simp);clear m1;refine Wv (.int .i64 e.alts.length) ?_;refine Wv (.bool (decide ((e.alts.length:Int)≤4))) ?_;obtain ⟨q,hq⟩:∃ q,decide ((e.alts.length:Int)≤4)=q:=⟨_,rfl⟩
            rw [hq];have HF:R=q:=by rw [dF.out];unfold X4;simp only [k0.out,k1.out,k2.out,k3.out,k4.out,k5.out,k6.out,k7.out,Bool.true_and];rw [←hq];exact decide_eq_decide.2 (by omega)
            exact Uh 2 (.bool q) (by cases q<;>kernel_rfl) (by intro a' h4 hd;simp only [Exit.then];refine hK _ _ ?_;go_wp2;exact Br (v:=.bool q) ((results_tmp Tryz.results189 a'.tmps _ _).trans (by rw [h4])) hd ⟨by rw [HF],HX.out.be⟩)
          |false=>
           refine Wv (.bool false) ?_;refine Wv (.pointer (some ⟨w.heap.size+1,17,none⟩)) ?_;have m1:=HX.out.cell 17 (.string e.d.own) rfl;refine Wv (.string e.d.own) ?_ (r:=by go_simp);clear m1;refine V7 (by kernel_rfl) 197 #[.string e.d.own] (by kernel_rfl) ?_;refine (Z9 e.d.own W15V HVO.out.2 HX.out.st.mx).mono ?_;rintro x W15VV ⟨rfl,hb⟩;have HX:=Hd (HX.out.next hb);clear hb;simp only [];simp only [Act.put,Sv,Sz,Sw];have hor:orW e.d.own=Jn e.d.own:=by unfold orW;rw [decide_eq_false (fun h=>by rw [h] at hz;cases hz)];rfl
           rw [←hor];clear hz hor;obtain ⟨q,hq⟩:∃ q,orW e.d.own=q:=⟨_,rfl⟩
           rw [hq];cases q with
           |false=>
            have HF:R=false:=by rw [dF.out];unfold X4;simp [hq]
            exact Uh 2 (.bool false) (by kernel_rfl) (by intro a' h4 hd;simp only [Exit.then];refine hK _ _ ?_;go_wp2;exact Br (v:=.bool false) ((results_tmp Tryz.results189 a'.tmps _ _).trans (by rw [h4])) hd ⟨by rw [HF],HX.out.be⟩)
           |true=>
            have k6:=Hd hq;clear hq;refine Wv (.bool true) ?_;refine Wv (.bool true) ?_;refine Wv (.bool true) ?_;refine Wv (.pointer (some ⟨w.heap.size+1,18,none⟩)) ?_;have m1:=HX.out.cell 18 (.int .i64 e.d.cre) rfl;refine Wv (.int .i64 e.d.cre) ?_ (r:=by go_simp);clear m1;refine Wv (.pointer (some ⟨w.heap.size+1,19,none⟩)) ?_;have m1:=HX.out.cell 19 (.int .i64 e.d.exp) rfl;refine Wv (.int .i64 e.d.exp) ?_ (r:=by go_simp);clear m1;refine Wv (.pointer (some ⟨w.heap.size,24,none⟩)) ?_;have m1:=HX.out.cell1 24 (.int .i64 e.used) rfl;refine Wv (.int .i64 e.used) ?_ (r:=by go_simp);clear m1;refine Xa (by kernel_rfl) (.slice (some ⟨W15VV.heap.size,0,none⟩) 3 3) (W15VV.alloc (.cells #[.int .i64 e.d.cre,.int .i64 e.d.exp,.int .i64 e.used] 3)) (by go_simp) ?_;simp only [Act.put,Sv,Sz,Sw]
            have bJ:Hid (Sl Vc 1 (W15VV.alloc (.cells #[.int .i64 e.d.cre,.int .i64 e.d.exp,.int .i64 e.used] 3)) (W15VV.heap.size+1) (some ⟨W15VV.heap.size,0,none⟩) 3 3 [e.d.cre,e.d.exp,e.used]):=Hd (Sl.new (f:=Vc) (k:=1) (fun _=>rfl) W15VV 3 [e.d.cre,e.d.exp,e.used]);have HX:=Hd (HX.out.alloc (.cells #[.int .i64 e.d.cre,.int .i64 e.d.exp,.int .i64 e.used] 3));have aK:W15VV.heap.size+1≤(W15VV.alloc (.cells #[.int .i64 e.d.cre,.int .i64 e.d.exp,.int .i64 e.used] 3)).heap.size:=by simp
            obtain ⟨W19,hW⟩:∃ V,W15VV.alloc (.cells #[.int .i64 e.d.cre,.int .i64 e.d.exp,.int .i64 e.used] 3)=V:=⟨_,rfl⟩
            simp only [hW] at HX bJ aK ⊢;have bJ:=Hd (bJ.out.more aK);clear hW aK;refine V7 (by kernel_rfl) 249 #[.slice (some ⟨W15VV.heap.size,0,none⟩) 3 3] (by kernel_rfl) ?_;refine (Jd _ 3 3 [e.d.cre,e.d.exp,e.used] W19 bJ.out (by decide) HX.out.st.tb).mono ?_;rintro x V ⟨rfl,hb⟩;have HX:=Hd (HX.out.next hb);clear hb;simp only [];simp only [Act.put,Sv,Sz,Sw];obtain ⟨q,hq⟩:∃ q,dayB [e.d.cre,e.d.exp,e.used]=q:=⟨_,rfl⟩
            rw [hq];cases q with
            |false=>
             have HF:R=false:=by rw [dF.out];unfold X4;simp [hq]
             exact Uh 2 (.bool false) (by kernel_rfl) (by intro a' h4 hd;simp only [Exit.then];refine hK _ _ ?_;go_wp2;exact Br (v:=.bool false) ((results_tmp Tryz.results189 a'.tmps _ _).trans (by rw [h4])) hd ⟨by rw [HF],HX.out.be⟩)
            |true=>
             have k7:=Hd hq;clear hq;refine Wv (.bool true) ?_;refine Wv (.bool true) ?_;refine Wv (.pointer (some ⟨w.heap.size,23,none⟩)) ?_;have m1:=HX.out.cell1 23 (.slice A e.alts.length C) rfl;refine Wv (.slice A e.alts.length C) ?_ (r:=by go_simp);clear m1;refine Wv (.int .i64 e.alts.length) ?_;refine Wv (.bool (decide ((e.alts.length:Int)≤4))) ?_;obtain ⟨q,hq⟩:∃ q,decide ((e.alts.length:Int)≤4)=q:=⟨_,rfl⟩
             rw [hq];have HF:R=q:=by rw [dF.out];unfold X4;simp only [k0.out,k1.out,k2.out,k3.out,k4.out,k5.out,k6.out,k7.out,Bool.true_and];rw [←hq];exact decide_eq_decide.2 (by omega)
             exact Uh 2 (.bool q) (by cases q<;>kernel_rfl) (by intro a' h4 hd;simp only [Exit.then];refine hK _ _ ?_;go_wp2;exact Br (v:=.bool q) ((results_tmp Tryz.results189 a'.tmps _ _).trans (by rw [h4])) hd ⟨by rw [HF],HX.out.be⟩)
def grpW (out:Bz) (e:En):Bz:=wrN out [e.limit,e.last]++encB e.empty++Z2 e.owner
def grpR (k:Int) (nm left:Bz):En×Bz×Int:=
 let q:=Uk 2 left 0;let b:=X5 q.2.1 q.2.2;let o:=Uj b.2.1 b.2.2 200
 (⟨k,nm,dZ,[],0,q.1.getD 0 0,q.1.getD 1 0,b.1,o.1,⟨#[]⟩,0,0,[]⟩,o.2)
def grpB (e:En):Bool:=wiB 1 63 [e.limit]&&wiB 0 9999 [e.last]&&orW e.owner
def nmP (k:Int) (s:Bz) (b:Bool):Prop:=(k=0→b=Xo s)∧(k=1→b=Il s)
def vaP (k:Int) (e:En) (b:Bool):Prop:=(k=0→b=dataB e)∧(k=1→b=grpB e)
def wrP (k:Int) (e:En) (s:Bz):Prop:=(k=0→s=dataW ⟨#[]⟩ e)∧(k=1→s=grpW ⟨#[]⟩ e)
def rdP (k:Int) (nm left:Bz) (R:En×Bz×Int):Prop:=(k=0→R=F7 k nm left)∧(k=1→R=grpR k nm left)
def BoP (P:Bool→Prop) (w:Wd) (e:Ending) (w':Wd):Prop:=(∃ b,P b∧e = .returned (.bool b))∧Below w.heap.size w w'
def FwP (P:Bz→Prop) (c:Nat) (w:Wd) (x:Ending) (w':Wd):Prop:=x = .returned (.tuple #[])∧∃ s:Bz,P s∧s.size≤100000∧Cw w' c s∧Far [c] w w'
def FrP (P:En×Bz×Int→Prop) (_c r g:Nat) (k:Int) (nm:Bz) (w:Wd) (x:Ending) (w':Wd):Prop:=
 x = .returned (.tuple #[])∧∃ (R:En×Bz×Int) (a:EnA),P R∧Sm R.1∧R.1.kind=k∧R.1.name=nm∧Rdr w' r R.2.1 R.2.2∧Blk w' g 159 (enC R.1 a).toArray∧EWn w.heap.size w' R.1 a∧Far [r,g] w w'
structure FormOk (k:Int) (nf vf ff:Nat):Prop where
 nm:∀ (s:Bz) (W:Wd),s.size≤1000→Sta W→Calls prog nf #[.string s] W (BoP (nmP k s) W)
 va:∀ (e:En) (a:EnA) (W:Wd),EW [] W e a→Sm e→Sta W→Calls prog vf #[.agg (enC e a).toArray] W (BoP (vaP k e) W)
 fw:∀ (c g:Nat) (e:En) (a:EnA) (W:Wd),Cw W c ⟨#[]⟩→Blk W g 159 (enC e a).toArray→EW [c] W e a→Sm e→g≠c→Calls prog ff #[.pointer (some ⟨c,0,none⟩),.pointer (some ⟨g,0,none⟩)] W (FwP (wrP k e) c W)
 fr:∀ (c r g:Nat) (nm left:Bz) (W:Wd),Cr W c r→Rdr W r left 0→Blk W g 159 (enC (enK k nm) enN).toArray→left.size≤1000000→nm.size≤1000→r≠g→c≠r→c≠g →
  Calls prog ff #[.pointer (some ⟨c,0,none⟩),.pointer (some ⟨g,0,none⟩)] W (FrP (rdP k nm left) c r g k nm W)
theorem st_25 (e:En) (a:EnA) (x y:Int):Y8 (enC e a).toArray [25,26] [x,y]=(enC { e with limit:=x,last:=y } a).toArray:=by simp [Y8,enC]
theorem st_27 (e:En) (a:EnA) (x:Bool):(enC e a).toArray.setIfInBounds 27 (.bool x)=(enC { e with empty:=x } a).toArray:=by simp [enC]
theorem st_28 (e:En) (a:EnA) (x:Bz):(enC e a).toArray.setIfInBounds 28 (.string x)=(enC { e with owner:=x } a).toArray:=by simp [enC]
theorem st_29 (e:En) (a:EnA) (x:Bz):(enC e a).toArray.setIfInBounds 29 (.string x)=(enC { e with target:=x } a).toArray:=by simp [enC]
theorem st_30 (e:En) (a:EnA) (x:Int):(enC e a).toArray.setIfInBounds 30 (.int .i64 x)=(enC { e with catalog:=x } a).toArray:=by simp [enC]
theorem st_31 (e:En) (a:EnA) (x:Int):(enC e a).toArray.setIfInBounds 31 (.int .i64 x)=(enC { e with level:=x } a).toArray:=by simp [enC]
theorem group_w (c g:Nat) (e:En) (a:EnA) (out:Bz) (w:Wd) (hc:Cw w c out) (hg:Blk w g 159 (enC e a).toArray) (hw:EW [c] w e a) (hs:Sm e) (ho:out.size≤100000) (eQ:g≠c):
  Calls prog 191 #[.pointer (some ⟨c,0,none⟩),.pointer (some ⟨g,0,none⟩)] w fun x w'=>x = .returned (.tuple #[])∧Cw w' c (grpW out e)∧Far [c] w w':=by
 have HX:Hid (DwI c g e a w w out):=Hd ⟨hc,hg,hw,Far.refl _ _,eQ⟩;have gE:=Hd HX.out.lt;have heo:=hs.eo;have hnu:=hs.nu;simp only [List.mem_cons,List.not_mem_nil,or_false,forall_eq_or_imp,forall_eq] at hnu;obtain ⟨n0,n1,n2,n3,n4,n5,n6,n7,n8,n9,n10,n11,n12,n13,n14,n15,n16,n17,n18,n19,n20,n21⟩:=hnu;have HNL:Hid (∀ n∈[e.limit,e.last],0≤n∧n≤9223372036854775807):=Hd (by simp only [List.mem_cons,List.not_mem_nil,or_false,forall_eq_or_imp,forall_eq];exact ⟨n18,n19⟩);clear n0 n1 n2 n3 n4 n5 n6 n7 n8 n9 n10 n11 n12 n13 n14 n15 n16 n17 n18 n19 n20 n21 hc hg hw hs;unfold grpW;have q1:=X8 [e.limit,e.last] out;simp only [List.length_cons,List.length_nil] at q1;obtain ⟨o1,dQ⟩:∃ o1,wrN out [e.limit,e.last]=o1:=⟨_,rfl⟩
 rw [dQ] at q1 ⊢;obtain ⟨o2,dK⟩:∃ o2,o1++encB e.empty=o2:=⟨_,rfl⟩
 rw [dK];have q2:o2.size=o1.size+1:=by rw [←dK,ByteArray.size_append,Xw]
 have HZ:Hid (o1.size≤1000000000∧o2.size≤1000000000∧e.owner.size≤1000000000):=Hd ⟨by omega,by omega,by omega⟩;have bI:Hid (DwI c g e a w (w.alloc (.cells #[.pointer (some ⟨g,25,none⟩),.pointer (some ⟨g,26,none⟩)] 179)).drew out):=Hd (HX.out.alloc _).drew;have cP:w.heap.size≠c:=by have:=gE.out.1;omega
 have iM:Hid (Blk (w.alloc (.cells #[.pointer (some ⟨g,25,none⟩),.pointer (some ⟨g,26,none⟩)] 179)).drew w.heap.size 179 (ptrs g [25,26])):=Hd (Blk.new w _ _).drew;have gK:Hid (Calls prog 192 #[.pointer (some ⟨c,0,none⟩),.slice (some ⟨w.heap.size,0,none⟩) 2 2] (w.alloc (.cells #[.pointer (some ⟨g,25,none⟩),.pointer (some ⟨g,26,none⟩)] 179)).drew fun x w'=>x = .returned (.tuple #[])∧Cw w' c o1∧Far [c] (w.alloc (.cells #[.pointer (some ⟨g,25,none⟩),.pointer (some ⟨g,26,none⟩)] 179)).drew w'):=Hd (by rw [←dQ];exact cnums_w c g w.heap.size 2 [25,26] [e.limit,e.last] out _ bI.out.cw (by simp;omega) (by simp) rfl (Z5 iM.out) (Fd (by simp only [List.zip_cons_cons,List.zip_nil_right,List.mem_cons,List.not_mem_nil,or_false,forall_eq_or_imp,forall_eq];exact ⟨bI.out.cell 25 _ rfl,bI.out.cell 26 _ rfl⟩)) HNL.out eQ cP);have fW:=Hd dK;clear cP heo q1 q2 dQ dK ho
 go_enter Tryz.func191,Tryz.ntmps191;go_wp2_with fail;refine Rw (S:=fun _=>True) (by kernel_rfl) trivial (fun Hh=>?_);refine tk 0 (.pointer (some ⟨c,0,none⟩)) Hh ?_;refine tk 1 (.pointer (some ⟨g,0,none⟩)) Hh ?_;refine tk 2 (.pointer (some ⟨g,0,none⟩)) Hh ?_;refine tk 3 (.pointer (some ⟨g,25,none⟩)) Hh ?_;refine tk 4 (.pointer (some ⟨g,0,none⟩)) Hh ?_;refine tk 5 (.pointer (some ⟨g,0,none⟩)) Hh ?_;refine tk 6 (.pointer (some ⟨g,26,none⟩)) Hh ?_;refine Aq [7] ?_;refine Rc (fun K hK=>?_) ?_
 ·go_simp;refine hK.out _ _ trivial (fun Hh=>?_);clear hK K;try simp only [Act.put,Sv,Sz,Sw]
  refine Aq [8] ?_;refine Rc (fun K hK=>?_) ?_
  ·go_simp;refine gK.out.mono ?_;rintro x w1 ⟨rfl,h1,h2⟩;simp only [];have HX:=Hd (bI.out.step h1 h2);clear h1 h2;refine hK.out _ _ trivial (fun Hh=>?_);clear hK K;try simp only [Act.put,Sv,Sz,Sw]
   refine Ad (by kernel_rfl) ?_ _;clear Hh bI iM gK;go_wp2_with (first|(go_at_call 193;refine (F8 c g 27 o1 e.empty _ HX.out.cw HZ.out.1 (HX.out.cell 27 _ rfl)).mono ?_;rintro x w2 ⟨rfl,h1,h2⟩;rw [fW.out] at h1;have HX:=Hd (HX.out.step h1 h2);clear h1 h2)|(go_at_call 194;refine (Jf c g 28 o2 e.owner _ HX.out.cw (HX.out.cell 28 _ rfl) HZ.out.2.1 HZ.out.2.2).mono ?_;rintro x w2 ⟨rfl,h1,h2⟩;have HX:=Hd (HX.out.step h1 h2);clear h1 h2))
   go_end0
   exact ⟨rfl,HX.out.cw,HX.out.fa⟩
  exact An
 exact An
theorem group_r (c r g:Nat) (k:Int) (nm left:Bz) (w:Wd) (hc:Cr w c r) (hr:Rdr w r left 0) (hg:Blk w g 159 (enC (enK k nm) enN).toArray) (hs:left.size≤1000000) (n1:r≠g) (n2:c≠r) (n3:c≠g):
  Calls prog 191 #[.pointer (some ⟨c,0,none⟩),.pointer (some ⟨g,0,none⟩)] w (DrP c r g (grpR k nm left) w):=by
 have cE:Hid (DrI c r g w w (enC (enK k nm) enN).toArray left 0):=Hd ⟨hc,hr,hg,Far.refl _ _,n1,n2,n3,hs⟩;have gE:=Hd cE.out.lt;clear hc hr hg hs;have q6:=Xi 2 left 0;have z1:=Yd 2 left 0;obtain ⟨p,hq⟩:∃ p,Uk 2 left 0=p:=⟨_,rfl⟩
 rw [hq] at q6 z1;obtain ⟨ql,l1,r1⟩:=p;obtain ⟨v0,v1,rfl⟩:=list2 q6;have z2:=Ek l1 r1;obtain ⟨p,ht⟩:∃ p,X5 l1 r1=p:=⟨_,rfl⟩
 rw [ht] at z2;obtain ⟨b1,l2,r2⟩:=p;have z3:=(Z4 l2 r2 200).2;obtain ⟨p,hv⟩:∃ p,Uj l2 r2 200=p:=⟨_,rfl⟩
 rw [hv] at z3;obtain ⟨s1,l3,r3⟩:=p
 have hR:grpR k nm left=((⟨k,nm,dZ,[],0,v0,v1,b1,s1,⟨#[]⟩,0,0,[]⟩:En),l3,r3):=by
  unfold grpR;simp only [hq,ht,hv];rfl
 rw [hR];have HZ:=Hd (And.intro z1 (And.intro z2 z3));have HE:=Hd (And.intro hq (And.intro ht hv));clear hR q6 z1 z2 z3 hq ht hv;have bI:Hid (DrI c r g w (w.alloc (.cells #[.pointer (some ⟨g,25,none⟩),.pointer (some ⟨g,26,none⟩)] 179)).drew (enC (enK k nm) enN).toArray left 0):=Hd (cE.out.alloc _).drew;have cP:w.heap.size≠r:=by have:=gE.out.2.1;omega
 have dD:w.heap.size≠g:=by have:=gE.out.2.2;omega
 have iM:Hid (Blk (w.alloc (.cells #[.pointer (some ⟨g,25,none⟩),.pointer (some ⟨g,26,none⟩)] 179)).drew w.heap.size 179 (ptrs g [25,26])):=Hd (Blk.new w _ _).drew;have gK:Hid (Calls prog 192 #[.pointer (some ⟨c,0,none⟩),.slice (some ⟨w.heap.size,0,none⟩) 2 2] (w.alloc (.cells #[.pointer (some ⟨g,25,none⟩),.pointer (some ⟨g,26,none⟩)] 179)).drew fun x w'=>x = .returned (.tuple #[])∧Rdr w' r l1 r1∧Blk w' g 159 (enC { enK k nm with limit:=v0,last:=v1 } enN).toArray∧Far [r,g] (w.alloc (.cells #[.pointer (some ⟨g,25,none⟩),.pointer (some ⟨g,26,none⟩)] 179)).drew w'):=Hd (by have h:=cnums_r c r g w.heap.size 2 2 159 [25,26] (enC (enK k nm) enN).toArray left 0 _ bI.out.left bI.out.cr bI.out.rd bI.out.bg (by decide) rfl (Z5 iM.out) (nums_ok (by rfl)) n1 cP dD n2 n3;rw [HE.out.1] at h;rw [st_25] at h;exact h);clear cP dD;go_enter Tryz.func191,Tryz.ntmps191
 go_wp2_with fail;refine Rw (S:=fun _=>True) (by kernel_rfl) trivial (fun Hh=>?_);refine tk 0 (.pointer (some ⟨c,0,none⟩)) Hh ?_;refine tk 1 (.pointer (some ⟨g,0,none⟩)) Hh ?_;refine tk 2 (.pointer (some ⟨g,0,none⟩)) Hh ?_;refine tk 3 (.pointer (some ⟨g,25,none⟩)) Hh ?_;refine tk 4 (.pointer (some ⟨g,0,none⟩)) Hh ?_;refine tk 5 (.pointer (some ⟨g,0,none⟩)) Hh ?_;refine tk 6 (.pointer (some ⟨g,26,none⟩)) Hh ?_;refine Aq [7] ?_;refine Rc (fun K hK=>?_) ?_
 ·go_simp;refine hK.out _ _ trivial (fun Hh=>?_);clear hK K;try simp only [Act.put,Sv,Sz,Sw]
  refine Aq [8] ?_;refine Rc (fun K hK=>?_) ?_
  ·go_simp;refine gK.out.mono ?_;rintro x w1 ⟨rfl,h1,h2,h3⟩;simp only [];have HX:=Hd (bI.out.step h1 h2 h3 HZ.out.1);clear h1 h2 h3;refine hK.out _ _ trivial (fun Hh=>?_);clear hK K;try simp only [Act.put,Sv,Sz,Sw]
   refine Ad (by kernel_rfl) ?_ _;clear Hh bI iM gK;go_wp2_with (first|(go_at_call 193;refine (Iw c r g 27 159 _ false l1 r1 _ HX.out.left HX.out.cr HX.out.rd HX.out.bg rfl HX.out.n1).mono ?_;rintro x w2 ⟨rfl,h1,h2,h3⟩;rw [HE.out.2.1] at h1 h2;rw [st_27] at h2;have HX:=Hd (HX.out.step h1 h2 h3 HZ.out.2.1);clear h1 h2 h3)|(go_at_call 194;refine (Ex c r g 28 159 _ ⟨#[]⟩ l2 r2 _ HX.out.left HX.out.cr HX.out.rd HX.out.bg rfl HX.out.n1).mono ?_;rintro x w2 ⟨rfl,h1,h2,h3⟩;rw [HE.out.2.2] at h1 h2;rw [st_28] at h2;have HX:=Hd (HX.out.step h1 h2 h3 HZ.out.2.2);clear h1 h2 h3))
   go_end0
   exact ⟨rfl,enN,HX.out.rd,HX.out.bg,⟨Sl.nil,Sl.nil,fun p hp _=>(by cases hp),fun p hp _=>(by cases hp)⟩,HX.out.fa⟩
  exact An
 exact An
end Go.Proofs.YtoakknkmjnebjaaGreatDoor
