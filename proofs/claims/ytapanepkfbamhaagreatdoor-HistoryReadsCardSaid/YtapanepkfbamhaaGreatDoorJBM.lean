/- Part of the proof of HistoryReads. -/
import Derived.Test.YtapanepkfbamhaaGreatDoorJAK
import Derived.Test.YtapanepkfbamhaaGreatDoorInsJ
import Derived.Shelf.SlSortCmp.NoneTotal
namespace Go.Proofs.YtapanepkfbamhaaGreatDoor
open Tryz (prog)
section
set_option maxRecDepth 100000
set_option maxHeartbeats 1000000
open Go.RowKit
theorem Vh (w:World) (o:Obj):w.heap.size≤(w.alloc o).heap.size:=by simp
def chgB (x:Chg):Bool:=chB x.kind x.id x.key x.rcd x.vol
theorem v1_any (x:Chg) (w:World) (hv:x.vol.size≤maxLen):
  Calls prog 58 #[.agg #[.int .i64 x.kind,.int .i64 x.id,.string x.key,.string x.rcd,.string x.vol]] w fun e w'=>e = .returned (.bool (!chgB x))∧Below w.heap.size w w':=by
 obtain ⟨k,id,key,rcd,vol⟩:=x;simp only at hv ⊢;obtain ⟨R,hR⟩:∃ R,chgB ⟨k,id,key,rcd,vol⟩=R:=⟨_,rfl⟩
 rw [hR];have H:=Hd (Ie k id key rcd vol (w.alloc (.cells #[.int .i64 k,.int .i64 id,.string key,.string rcd,.string vol] 58)) hv);rw [show chB k id key rcd vol=R from hR] at H;clear hR hv;have B1:=Hd (Vq w #[.int .i64 k,.int .i64 id,.string key,.string rcd,.string vol] 58);go_enter Tryz.func58,Tryz.ntmps58;go_wp2_with fail;refine H.out.mono ?_;rintro e w1 ⟨rfl,hb1⟩;have X1:=Hd (Uc (show Below (w.heap.size+1) (w.alloc (.cells #[.int .i64 k,.int .i64 id,.string key,.string rcd,.string vol] 58)) w1 by simpa using hb1));clear hb1;go_wp2;go_ret;exact ⟨rfl,X1.out⟩
theorem v2_any (x:Rdd) (w:World):
  Calls prog 61 #[.agg #[.int .i64 x.kind,.int .i64 x.id,.string x.key,.string x.ak,.string x.ar,.int .i64 x.code]] w fun e w'=>e = .returned (.bool (!rdB x))∧Below w.heap.size w w':=by
 have H:=fun W=>Hd (validRead_any x W)
 obtain ⟨k,id,key,ak,ar,code⟩:=x;simp only at H ⊢;generalize rdB ⟨k,id,key,ak,ar,code⟩=R at H ⊢;have H:=H (w.alloc (.cells #[.int .i64 k,.int .i64 id,.string key,.string ak,.string ar,.int .i64 code] 49));go_enter Tryz.func61,Tryz.ntmps61;go_wp2_with fail;refine H.out.mono ?_;rintro e w1 ⟨rfl,hb1⟩;have X1:=Hd (Uc (show Below (w.heap.size+1) (w.alloc (.cells #[.int .i64 k,.int .i64 id,.string key,.string ak,.string ar,.int .i64 code] 49)) w1 by simpa using hb1));clear hb1;go_wp2;go_ret;exact ⟨rfl,X1.out⟩
def VolsOk (x:Com):Prop:=∀ c∈x.cs,c.vol.size≤maxLen
def Z9 (x:Com):Bool:=Xc x.unit&&decide (x.cn≤300)&&Xc x.num&&decide (x.num+x.cn-1≤1099511627776)&&!(x.cs.any fun c => !chgB c)&&!(x.rs.any fun r => !rdB r)
theorem valid_any (x:Com) (w:World) (hok:ComOk w w.heap.size x) (hv:VolsOk x):
  Calls prog 34 #[comV x] w fun e w'=>e = .returned (.bool (Z9 x))∧Below w.heap.size w w':=by
 obtain ⟨R,hR⟩:∃ R,Z9 x=R:=⟨_,rfl⟩
 rw [hR];have hlast:=fun W h1 h2 h3=>last_any x W h1 h2 h3
 obtain ⟨unit,num,rA,rn,rc,cA,cn,cc,rs,cs⟩:=x;unfold comV at hlast ⊢;obtain ⟨ho1,ho2,ho3,ho4⟩:=hok;simp only [Z9] at hlast ho1 ho2 ho3 ho4 hv hR ⊢;unfold maxLen at ho3 ho4;have HU:Hid (∀ W:World,Calls prog 56 #[.int .i64 unit] W fun e w'=>e = .returned (.bool (Xc unit))∧W=w'):=Hd fun W=>Jb unit W
 have HM:Hid (∀ W:World,Calls prog 56 #[.int .i64 num] W fun e w'=>e = .returned (.bool (Xc num))∧W=w'):=Hd fun W=>Jb num W
 have HL:=Hd hlast
 have HC:Hid (∀ W:World,Below w.heap.size w W→Calls prog 57 #[.slice cA cn cc,.func (.func 58) #[] #[]] W fun e w'=>e = .returned (.bool (cs.any fun c => !chgB c))∧Below W.heap.size W w'):=
  Hd fun W hb=>chgs_any _ cA cn cc cs W (ho2.after hb hb.size) (by omega) fun x hx W' _=>v1_any x W' (hv x hx)
 have HR:Hid (∀ W:World,Below w.heap.size w W→Calls prog 60 #[.slice rA rn rc,.func (.func 61) #[] #[]] W fun e w'=>e = .returned (.bool (rs.any fun r => !rdB r))∧Below W.heap.size W w'):=
  Hd fun W hb=>rdds_any _ rA rn rc rs W (ho1.after hb hb.size) (by omega) fun x hx W' _=>v2_any x W'
 clear hlast ho1 ho2 ho3 ho4 hv;have B0:=Hd (Vq w #[.int .i64 unit,.int .i64 num,.slice rA rn rc,.slice cA cn cc] 34);cases h1:Xc unit with
 |false=>
  rw [h1] at HU;have hr:R=false:=by rw [←hR,h1];rfl
  have HRR:=Hd hr;clear hR hr h1;go_enter Tryz.func34,Tryz.ntmps34;go_wp2_with (go_at_call 56;(with_reducible refine (HU.out _).mono ?_);rintro e w' ⟨rfl,rfl⟩);go_ret;exact ⟨by rw [HRR.out];rfl,Uc B0.out⟩
 |true=>
 rw [h1] at HU;by_cases h2:cn≤300;rotate_left
 ·have hr:R=false:=by rw [←hR,h1];simp [h2]
  have HRR:=Hd hr;have d1:decide ((300:Int)<(cn:Int))=true:=by simp;omega
  have d2:decide (300<cn)=true:=by simp;omega
  clear hR hr h1 h2;go_enter Tryz.func34,Tryz.ntmps34;go_wp2_with (go_at_call 56;(with_reducible refine (HU.out _).mono ?_);rintro e w' ⟨rfl,rfl⟩);go_ret;exact ⟨by rw [HRR.out];rfl,Uc B0.out⟩
 have d1:decide ((300:Int)<(cn:Int))=false:=by simp;omega
 have d2:decide (300<cn)=false:=by simp;omega
 cases h3:Xc num with
 |false=>
  rw [h3] at HM;have hr:R=false:=by rw [←hR,h1,h3];simp
  have HRR:=Hd hr;clear hR hr h1 h2 h3;go_enter Tryz.func34,Tryz.ntmps34;go_wp2_with (go_at_call 56;first|((with_reducible refine (HU.out _).mono ?_);rintro e w' ⟨rfl,rfl⟩)|((with_reducible refine (HM.out _).mono ?_);rintro e w' ⟨rfl,rfl⟩));go_ret;exact ⟨by rw [HRR.out];rfl,Uc B0.out⟩
 |true=>
 rw [h3] at HM;obtain ⟨n1,n2⟩:=Kv h3;have HL2:=Hd (HL.out (w.alloc (.cells #[.int .i64 unit,.int .i64 num,.slice rA rn rc,.slice cA cn cc] 34)) n1 n2 h2);obtain ⟨q,hq⟩:∃ q:Int,num+cn-1=q:=⟨_,rfl⟩
 rw [hq] at HL2 hR;clear HL hq n1 n2;by_cases h4:q≤1099511627776;rotate_left
 ·have hr:R=false:=by rw [←hR,h1,h3];simp [h4]
  have HRR:=Hd hr;have d4:decide ((1099511627776:Int)<q)=true:=by simp;omega
  clear hR hr h1 h2 h3 h4;go_enter Tryz.func34,Tryz.ntmps34;go_wp2_with (first|(go_at_call 56;(with_reducible refine (HU.out _).mono ?_);rintro e w' ⟨rfl,rfl⟩)|(go_at_call 56;(with_reducible refine (HM.out _).mono ?_);rintro e w' ⟨rfl,rfl⟩)|(go_at_call 40;refine HL2.out.mono ?_;rintro e w1 ⟨rfl,hb1⟩;have x1:=Hd (show Below (w.heap.size+1) (w.alloc (.cells #[.int .i64 unit,.int .i64 num,.slice rA rn rc,.slice cA cn cc] 34)) w1 by simpa using hb1);clear hb1));go_ret;exact ⟨by rw [HRR.out];rfl,Uc x1.out⟩
 have d4:decide ((1099511627776:Int)<q)=false:=by simp;omega
 have hr:R=(!(cs.any fun c => !chgB c)&&!(rs.any fun r => !rdB r)):=by rw [←hR,h1,h3];simp [h2,h4]
 clear hR h1 h2 h3 h4;generalize (cs.any fun c => !chgB c)=p1 at HC hr;generalize (rs.any fun r => !rdB r)=p2 at HR hr;have HRR:=Hd hr;clear hr;cases p1 with
 |true=>
  go_enter Tryz.func34,Tryz.ntmps34;go_wp2_with (first|(go_at_call 56;(with_reducible refine (HU.out _).mono ?_);rintro e w' ⟨rfl,rfl⟩)|(go_at_call 56;(with_reducible refine (HM.out _).mono ?_);rintro e w' ⟨rfl,rfl⟩)|(go_at_call 40;refine HL2.out.mono ?_;rintro e w1 ⟨rfl,hb1⟩;have x1:=Hd (show Below (w.heap.size+1) (w.alloc (.cells #[.int .i64 unit,.int .i64 num,.slice rA rn rc,.slice cA cn cc] 34)) w1 by simpa using hb1);have c2:=Zc x1.out 2;have c3:=Zc x1.out 3;simp at c2 c3;clear hb1)|(go_at_call 57;refine (HC.out _ (Uc x1.out)).mono ?_;rintro e w2 ⟨rfl,hb2⟩;have x2:=Hd (U0 x1.out hb2 (Vf x1.out));have k2:=Zc x2.out 2;simp at k2;clear hb2));go_ret;exact ⟨by rw [HRR.out];rfl,Uc x2.out⟩
 |false=>
  go_enter Tryz.func34,Tryz.ntmps34;go_wp2_with (first|(go_at_call 56;(with_reducible refine (HU.out _).mono ?_);rintro e w' ⟨rfl,rfl⟩)|(go_at_call 56;(with_reducible refine (HM.out _).mono ?_);rintro e w' ⟨rfl,rfl⟩)|(go_at_call 40;refine HL2.out.mono ?_;rintro e w1 ⟨rfl,hb1⟩;have x1:=Hd (show Below (w.heap.size+1) (w.alloc (.cells #[.int .i64 unit,.int .i64 num,.slice rA rn rc,.slice cA cn cc] 34)) w1 by simpa using hb1);have c2:=Zc x1.out 2;have c3:=Zc x1.out 3;simp at c2 c3;clear hb1)|(go_at_call 57;refine (HC.out _ (Uc x1.out)).mono ?_;rintro e w2 ⟨rfl,hb2⟩;have x2:=Hd (U0 x1.out hb2 (Vf x1.out));have k2:=Zc x2.out 2;simp at k2;clear hb2)|(go_at_call 60;refine (HR.out _ (Uc x2.out)).mono ?_;rintro e w3 ⟨rfl,hb3⟩;have x3:=Hd (U0 x2.out hb3 (Vf x2.out));clear hb3));go_ret;exact ⟨by rw [HRR.out];cases p2<;>rfl,Uc x3.out⟩
end
section
open Go.Sort
section
variable {α:Type} [Inhabited α] {lt:α→α→Bool}
theorem swp_list {d:Array α} {p s:List α} {x y:α} (h:d.toList=p++y::x::s):(swp d (p.length+1) p.length).toList=p++x::y::s:=by
 obtain ⟨l⟩:=d;simp only at h;subst h;have e1:(p++y::x::s).toArray[p.length]! =y:=by simp
 have e2:(p++y::x::s).toArray[p.length+1]! =x:=by
  simp
 unfold swp;rw [e1,e2];simp only [Sv,List.toList_toArray];apply List.ext_getElem?;intro i;simp only [List.getElem?_set,List.getElem?_append,List.length_set,List.length_append,List.length_cons];rcases Nat.lt_trichotomy i p.length with h|h|h
 ·rw [if_neg (by omega),if_neg (by omega),if_pos h,if_pos h]
 ·subst h
  simp
 ·rcases Nat.lt_trichotomy i (p.length+1) with h'|h'|h'
  ·omega
  ·subst h'
   simp
  ·rw [if_neg (by omega),if_neg (by omega),if_neg (by omega),if_neg (by omega)]
   obtain ⟨k,rfl⟩:∃ k,i=p.length+2+k:=⟨i-(p.length+2),by omega⟩
   have:p.length+2+k-p.length=k+2:=by omega
   rw [this];rfl
theorem J1:∀ (j:Nat) (p:List α) (x:α) (s:List α) (d:Array α),p.length=j→d.toList=p++x::s→(insInner lt 0 j d).toList=Zj lt x p++s
 |0,p,x,s,d,hp,hd=>by
  have:p = []:=List.eq_nil_of_length_eq_zero hp;subst this;unfold insInner;simpa [Zj,Ea] using hd
 |j+1,p,x,s,d,hp,hd=>by
  obtain ⟨q,y,rfl⟩:∃ q y,p=q++[y]:=⟨p.dropLast,p.getLast (by intro h;subst h;simp at hp),(List.dropLast_concat_getLast _).symm⟩
  have hq:q.length=j:=by simpa using hp
  have hd':d.toList=q++y::x::s:=by simpa using hd
  have e1:d[j]! =y:=by
   obtain ⟨l⟩:=d;simp only at hd';subst hd';rw [←hq];simp
  have e2:d[j+1]! =x:=by
   obtain ⟨l⟩:=d;simp only at hd';subst hd';rw [←hq];simp
  unfold insInner;rw [e1,e2]
  have hr:Zj lt x (q++[y])=if lt x y then Zj lt x q++[y] else q++[y]++[x]:=by
   unfold Zj;rw [List.reverse_append];show ((if lt x y then _ else _:List α)).reverse=_;split<;>simp
  by_cases hl:lt x y=true
  ·rw [if_pos (by simp [hl]),hr,if_pos hl]
   have hs:=swp_list (d:=d) (p:=q) (s:=s) (x:=x) (y:=y) hd';rw [hq] at hs;rw [J1 j q x (y::s) _ hq hs];simp
  ·rw [if_neg (by simp [hl]),hr,if_neg hl,hd']
   simp
theorem J0 (n:Nat):∀ (m i:Nat) (a b:List α) (d:Array α),n-i=m→a.length=i→i≤n→d.toList=a++b→d.size=n→(insOuter lt 0 n i d).toList=Xa lt a b
 |0,i,a,b,d,hm,ha,hi,hd,hs=>by
  have hl:a.length+b.length=n:=by rw [←hs,←Array.length_toList,hd,List.length_append]
  have:b = []:=List.eq_nil_of_length_eq_zero (by omega);subst this;rw [insOuter,if_neg (by omega),hd];simp [Xa]
 |m+1,i,a,b,d,hm,ha,hi,hd,hs=>by
  have hl:a.length+b.length=n:=by rw [←hs,←Array.length_toList,hd,List.length_append]
  match b,hd with
  | [],_=>simp at hl;omega
  |x::b,hd=>
   have h1:=J1 (lt:=lt) i a x b d ha hd;rw [insOuter,if_pos (by omega)]
   have h2:(insInner lt 0 i d).size=n:=by
    rw [←Array.length_toList,h1,List.length_append,insB_len];simp at hl;omega
   exact J0 n m (i+1) (Zj lt x a) b _ (by omega) (by rw [insB_len,ha]) (by omega) h1 h2
theorem Jd (l:List α):(insertionSort lt l.toArray 0 l.length).toList=Xa lt [] l:=by
 unfold insertionSort;cases l with
 |nil=>rw [insOuter,if_neg (by simp)];rfl
 |cons x l=>
  have:=J0 (lt:=lt) (l.length+1) l.length 1 [x] l (x::l).toArray (by omega) rfl (by omega) rfl (by simp);simpa [Xa,Zj,Ea] using this
end
end
section
set_option maxRecDepth 100000
set_option maxHeartbeats 1000000
open Go.RowKit Go.Sort
def cI (a b:Int):Int:=if a<b then -1 else if b<a then 1 else 0
theorem nanI (x:Int) (w:World):Calls prog 64 #[.int .i64 x] w fun e w'=>e = .returned (.bool false)∧w=w':=by
 go_enter Tryz.func64,Tryz.ntmps64;go_wp2;go_ret;exact ⟨by simp,rfl⟩
theorem compI (a b:Int) (w:World):Calls prog 39 #[.int .i64 a,.int .i64 b] w fun e w'=>e = .returned (.int .i64 (cI a b))∧w=w':=by
 rcases Int.lt_trichotomy a b with h|h|h
 ·have hc:Hid (cI a b = -1):=Hd (by unfold cI;rw [if_pos h])
  have d1:decide (a<b)=true:=by simpa using h
  clear h;go_enter Tryz.func39,Tryz.ntmps39;go_wp2_with (go_at_call 64;refine (nanI _ _).mono ?_;rintro e w' ⟨rfl,rfl⟩);go_ret;exact ⟨by rw [hc.out];rfl,rfl⟩
 ·subst h
  have hc:Hid (cI a a=0):=Hd (by unfold cI;rw [if_neg (by omega),if_neg (by omega)]);have d1:decide (a<a)=false:=by simp
  go_enter Tryz.func39,Tryz.ntmps39;go_wp2_with (go_at_call 64;refine (nanI _ _).mono ?_;rintro e w' ⟨rfl,rfl⟩);go_ret;exact ⟨by rw [hc.out];rfl,rfl⟩
 ·have hc:Hid (cI a b=1):=Hd (by unfold cI;rw [if_neg (by omega),if_pos h])
  have d1:decide (a<b)=false:=by simp;omega
  have d2:decide (b<a)=true:=by simpa using h
  clear h;go_enter Tryz.func39,Tryz.ntmps39;go_wp2_with (go_at_call 64;refine (nanI _ _).mono ?_;rintro e w' ⟨rfl,rfl⟩);go_ret;exact ⟨by rw [hc.out];rfl,rfl⟩
theorem or2_any (a b:Int) (g:Nat) (w:World) (h0:w.cell? ⟨g,0,none⟩=some (.int .i64 a)) (h1:w.cell? ⟨g,1,none⟩=some (.int .i64 b)):
  Calls prog 38 #[.slice (some ⟨g,0,none⟩) 2 2] w fun e w'=>e = .returned (.int .i64 (if a=0 then b else a))∧w=w':=by
 obtain ⟨R,hR⟩:∃ R:Int,(if a=0 then b else a)=R:=⟨_,rfl⟩
 rw [hR];by_cases ha:a=0
 ·rw [if_pos ha] at hR
  subst ha;have HR:=Hd hR.symm;clear hR;by_cases hb:b=0
  ·subst hb
   go_enter Tryz.func38,Tryz.ntmps38;go_wp2;refine Lu 3 ?_;rw [Rs];go_wp2;rw [Rs];go_wp2;rw [Rs];go_wp2;go_ret;exact ⟨by rw [HR.out];rfl,rfl⟩
  ·have d1:(b != 0)=true:=by simpa using hb
   have d2:(b == 0)=false:=by simpa using hb
   clear hb;go_enter Tryz.func38,Tryz.ntmps38;go_wp2;refine Lu 2 ?_;rw [Rs];go_wp2;rw [Rs];go_wp2;go_ret;exact ⟨by rw [HR.out];rfl,rfl⟩
 ·rw [if_neg ha] at hR
  have HR:=Hd hR.symm;have d1:(a != 0)=true:=by simpa using ha
  have d2:(a == 0)=false:=by simpa using ha
  clear ha hR;go_enter Tryz.func38,Tryz.ntmps38;go_wp2;refine Lu 1 ?_;rw [Rs];go_wp2;go_ret;exact ⟨by rw [HR.out];rfl,rfl⟩
def cfC (a b:Com):Int:=if cI a.num b.num=0 then min 1 (a.cn:Int)-min 1 (b.cn:Int) else cI a.num b.num
theorem ltOf_cfC:Go.Proofs.ltOf cfC=E2:=by
 funext a b;unfold Go.Proofs.ltOf cfC E2 cI;rcases Int.lt_trichotomy a.num b.num with h|h|h
 ·simp [h]
 ·simp only [h,Int.lt_irrefl,if_false,if_true,decide_false,decide_true,Bool.false_or,Bool.true_and]
  rw [Bool.eq_iff_iff];simp only [decide_eq_true_eq,Bool.and_eq_true];omega
 ·have h1:¬ a.num<b.num:=by omega
  have h2:¬ a.num=b.num:=by omega
  simp [h,h1,h2]
theorem Jj (w:World) (o:Obj):w.alloc o=grow w #[o]:=alloc_eq_grow w o
theorem ord2_any (x y:Com) (W:World):Calls prog 37 (#[.agg (U8 x).toArray,.agg (U8 y).toArray] ++ #[]) W fun e w'=>e = .returned (.int .i64 (cfC x y))∧∃ q os',w'=grow (W.drewN q) os':=by
 obtain ⟨R,hR⟩:∃ R,cfC x y=R:=⟨_,rfl⟩
 rw [hR];obtain ⟨unit,num,rA,rn,rc,cA,cn,cc,rs,cs⟩:=x;obtain ⟨unit',num',rA',rn',rc',cA',cn',cc',rs',cs'⟩:=y;show Calls prog 37 #[.agg #[.int .i64 unit,.int .i64 num,.slice rA rn rc,.slice cA cn cc],.agg #[.int .i64 unit',.int .i64 num',.slice rA' rn' rc',.slice cA' cn' cc']] W fun e w'=>e = .returned (.int .i64 R)∧∃ q os',w'=grow (W.drewN q) os'
 obtain ⟨c,hc⟩:∃ c,cI num num'=c:=⟨_,rfl⟩
 have HC:Hid (∀ W:World,Calls prog 39 #[.int .i64 num,.int .i64 num'] W fun e w'=>e = .returned (.int .i64 c)∧W=w'):=Hd fun W=>by rw [←hc];exact compI num num' W
 obtain ⟨q,hq⟩:∃ q:Int,min 1 (cn:Int)-min 1 (cn':Int)=q:=⟨_,rfl⟩
 have w1:IntKind.i64.wrap (min 1 (cn:Int)-min 1 (cn':Int))=q:=by rw [IntKind.wrap_i64];omega
 have hr:R=if c=0 then q else c:=by rw [←hR,←hq,←hc];rfl
 have HO:Hid (∀ (g:Nat) (W:World),W.cell? ⟨g,0,none⟩=some (.int .i64 c)→W.cell? ⟨g,1,none⟩=some (.int .i64 q)→Calls prog 38 #[.slice (some ⟨g,0,none⟩) 2 2] W fun e w'=>e = .returned (.int .i64 R)∧W=w'):=Hd fun g W a b=>by rw [hr];exact or2_any c q g W a b
 clear hc hq hR hr;go_enter Tryz.func37,Tryz.ntmps37;go_wp2_with fail
 go_region_held3 (fun w'=>w'.cell? ⟨W.heap.size,1,none⟩=some (.int .i64 num)∧w'.cell? ⟨W.heap.size,3,none⟩=some (.slice cA cn cc)∧w'.cell? ⟨W.heap.size+1,1,none⟩=some (.int .i64 num')∧w'.cell? ⟨W.heap.size+1,3,none⟩=some (.slice cA' cn' cc')) (first|go_keep) (first|(go_at_call 39;refine (HC.out _).mono ?_;rintro e w' ⟨rfl,rfl⟩)|(go_at_call 38;refine (HO.out _ _ ((U3 _ 3 #[.int .i64 c,.int .i64 q] _ (by simp)).drew.cell 0) ((U3 _ 3 #[.int .i64 c,.int .i64 q] _ (by simp)).drew.cell 1)).mono ?_;rintro e w' ⟨rfl,rfl⟩))
 all_goals
  go_wp2;go_ret;exact ⟨rfl,1,_,by rw [Jj,Jj,Jj,grow_grow,grow_grow];rfl⟩
end
section
set_option maxRecDepth 100000
open Go.RowKit Go.Sort Go.Proofs
instance:Inhabited Com:=⟨⟨0,0,none,0,0,none,0,0,[],[]⟩⟩
section
variable {α:Type} [Inhabited α] {enc:α→List Value} {k:Nat}
theorem flatK_list (hk:∀ x,(enc x).length=k) (l:List α):(flatK enc k l.toArray).toList=Ua enc l:=by
 apply List.ext_getElem?;intro t;by_cases ht:t<l.length*k
 ·have k0:0<k:=by
   rcases Nat.eq_zero_or_pos k with h|h;· subst h;simp at ht
   ·exact h
  have hq:t / k<l.length:=(Nat.div_lt_iff_lt_mul k0).2 ht;have hr:t % k<k:=Nat.mod_lt _ k0;have h1:=Xx hk l (t / k) _ (List.getElem?_eq_getElem hq) (t % k) hr;rw [show t / k*k+t % k=t from by rw [Nat.mul_comm];exact Nat.div_add_mod t k] at h1;rw [h1,Array.getElem?_toList];have hs:(flatK enc k l.toArray).size=l.length*k:=by simp
  have hg:=get_flatK enc k l.toArray t (by simpa using ht);rw [getElem!_pos _ t (by rw [hs];exact ht)] at hg;rw [Array.getElem?_eq_getElem (by rw [hs];exact ht),hg];have e1:l.toArray[t / k]! =l[t / k]:=by rw [getElem!_pos l.toArray (t / k) (by simpa using hq)];simp
  rw [e1,getElem!_pos (enc l[t / k]) (t % k) (by rw [hk];exact hr),List.getElem?_eq_getElem (by rw [hk];exact hr)]
 ·rw [List.getElem?_eq_none (by rw [Array.length_toList];simp;omega),List.getElem?_eq_none (by rw [Vm hk];omega)]
theorem holdsK_of_own (hk:∀ x,(enc x).length=k) {w:World} {base g n cap:Nat} {e:TypeId} {l:List α} (h:w.ownsRow base e k (.slice (some ⟨g,0,none⟩) n cap) n (Ua enc l)):HoldsK enc k w g 0 l.toArray:=by
 have hcell:=h.cells (g:=g) rfl
 have hz:∃ cur,w.heap[g]? =some (.cells cur e (0,0)):=by
  rcases h.2 with ⟨h0,_⟩|⟨g',cap',cur,e0,_,hg,_⟩
  ·cases h0
  ·injection e0 with e1 _ _
   injection e1 with e1
   injection e1 with e1
   subst e1;exact ⟨cur,hg⟩
 obtain ⟨cur,hg⟩:=hz;intro j hj;have hj':j<(Ua enc l).length:=by rw [Vm hk];simpa using hj
 refine ⟨?_,by simp [World.frozen?,hg]⟩;have:=hcell j _ (List.getElem?_eq_getElem hj');rw [show ((⟨g,0,none⟩:Addr).add j)=⟨g,0+j,none⟩ from by unfold Addr.add;split<;>simp_all] at this;rw [this];congr 1;rw [getElem!_pos _ j hj];have e2:=congrArg (·[j]?) (flatK_list hk l);simp only [Array.getElem?_toList] at e2;rw [Array.getElem?_eq_getElem hj,List.getElem?_eq_getElem hj'] at e2;exact (Option.some.inj e2).symm
theorem own_sortK (hk:∀ x,(enc x).length=k) {w:World} {base g n cap m:Nat} {e:TypeId} {l s:List α} {os:Array Obj} (h:w.ownsRow base e k (.slice (some ⟨g,0,none⟩) n cap) n (Ua enc l)) (hs:s.length=n):
  (sortWorldK enc k w g 0 m s.toArray os).ownsRow base e k (.slice (some ⟨g,0,none⟩) n cap) n (Ua enc s):=by
 rcases h.2 with ⟨e0,_⟩|⟨g',cap',cur,e0,hb,hg,hn,hm,hsz,ht⟩
 ·cases e0
 ·injection e0 with e1 _ e3
  injection e1 with e1
  injection e1 with e1
  subst e1;subst e3
  have hlt:g<w.heap.size:=by
   rcases Nat.lt_or_ge g w.heap.size with h'|h'
   ·exact h'
   ·rw [Array.getElem?_eq_none h'] at hg;cases hg
  have hcs:n*k≤cur.size:=by rw [hsz];exact Nat.mul_le_mul_right _ hn
  refine ⟨by rw [Vm hk,hs],.inr ⟨g,cap,putCells id 0 (flatK enc k s.toArray) cur,rfl,hb,?_,hn,hm,by simpa [putCells] using hsz,?_⟩⟩
  ·simp only [sortWorldK,grow,putRowK,putRow,mapBlock,Sort.ahead]
   rw [Array.getElem?_append_left (by simpa using hlt)];simp [Array.getElem?_modify,hg,onCells]
  ·apply List.ext_getElem?
   intro j;rw [List.getElem?_take,←flatK_list hk s,Array.getElem?_toList,Array.getElem?_toList];by_cases hj:j<n*k
   ·have hjc:j<cur.size:=by omega
    have hjf:j<(flatK enc k s.toArray).size:=by simp [hs];exact hj
    simp only [if_pos hj,putCells,Array.getElem?_mapIdx,Array.getElem?_eq_getElem hjc,Option.map_some];rw [if_pos ⟨Z0 _,by rw [Nat.zero_add];exact hjf⟩,Array.getElem?_eq_getElem hjf];simp only [Nat.sub_zero,id];rw [getElem!_pos _ j hjf]
   ·rw [if_neg hj,Array.getElem?_eq_none (by simp [hs];omega)]
theorem below_sortK {w:World} {B g m:Nat} {d:Array α} {os:Array Obj} (hB:B≤w.heap.size) (hg:B≤g):Below B w (sortWorldK enc k w g 0 m d os):=by
 refine ⟨rfl,rfl,rfl,?_,fun i hi=>?_⟩
 ·simp [sortWorldK,grow,putRowK,putRow,mapBlock,Sort.ahead]
 ·simp only [sortWorldK,grow,putRowK,putRow,mapBlock,Sort.ahead]
  rw [Array.getElem?_append_left (by simp;omega),Array.getElem?_modify,if_neg (by omega)]
end
theorem infoCom:(prog.info? 34).map (fun i=>(i.zero,i.size,i.bytes))=some (some (.agg #[.int .i64 0,.int .i64 0,.slice none 0 0,.slice none 0 0]),4,64):=by kernel_rfl
theorem clone_any (A:Option Addr) (n c:Nat) (l:List Com) (w:World) (hs:Sl U8 4 w w.heap.size A n c l) (hn:n≤1000):
  Calls prog 35 #[.slice A n c] w fun e w' => ∃ v,e = .returned v∧w'.ownsRow w.heap.size 34 4 v n (Ua U8 l)∧Below w.heap.size w w':=by
 have hl:=hs.len;have qq:∀ (w:World) (a:Option Addr) (n c n' c':Nat),(binOp .eql 23 (.slice a n c) (.slice none n' c')).run prog w = .ok (.bool a.isNone) w:=fun w a n c n' c'=>Lib.run_eql_slice_nil w _ _ a n c n' c' Tryz.underlying23
 cases A with
 |none=>
  have hz:n=0:=by
   rcases Nat.eq_zero_or_pos n with h|h
   ·exact h
   ·obtain ⟨b,o,e,_⟩:=hs.rd.2 h;cases e
  subst hz;have:l = []:=List.eq_nil_of_length_eq_zero hl;subst this;clear hs hl hn;go_enter Tryz.func35,Tryz.ntmps35;go_wp2;go_ret;exact ⟨_,rfl,⟨rfl,.inl ⟨rfl,rfl⟩⟩,Bf _ _⟩
 |some ad=>
  obtain ⟨i0,hi0,hz0,hz1,hz2⟩:=info_parts infoCom;have HR:=Hd (hs.rd.alloc (Le _) (.cells #[] 34));have H1:=Hd (comC_one l);have HO:=Hd (World.ownsRow_lit (e:=34) (base:=w.heap.size) (size:=4) w #[] 0 (Le _) (by decide) rfl);clear hs hl;go_enter Tryz.func35,Tryz.ntmps35;go_wp2_with (at_builtin;go_must (refine U4 _ rfl _ _ 23 rfl w.heap.size 34 i0 _ 4 64 Tryz.underlying23 hi0 hz0 hz1 hz2 rfl (by decide) _ _ _ rfl HO.out w.heap.size (some ad) n c (Ua U8 l) rfl HR.out H1.out ?c2 ?c3 ?c4 ?_))
  case c2=>simp [maxLen];omega
  case c3=>omega
  intro v' w' hown hgr _;have HOWN:=Hd hown;have HGR:=Hd hgr;clear hown hgr;go_wp2;go_ret;exact ⟨v',rfl,by simpa using HOWN.out,((Bf _ _).alloc (Le _) _).grown HGR.out (by simp) (by intro k hk;simp [Value.ownBlock] at hk;omega)⟩
end
section
open Go.RowKit Go.Sort Go.Proofs
theorem Ir:∀ (x:Com),∀ v∈U8 x,v.oneCell'=true:=by
 intro x v hv;simp [U8] at hv;rcases hv with rfl|rfl|rfl|rfl<;>rfl
theorem cmp_lays (blk off size:Nat) (w:World):CmpLays prog 37 #[] U8 4 cfC blk off size w:=fun _ _ _ _ x y=>ord2_any x y _
theorem ins_any (g n cap:Nat) (l:List Com) (w:World) (base:Nat) (h:w.ownsRow base 34 4 (.slice (some ⟨g,0,none⟩) n cap) n (Ua U8 l)) (hl:l.length=n) (hn:n≤1000):
  Calls prog 79 #[.slice (some ⟨g,0,none⟩) n cap,.int .i64 0,.int .i64 n,.func (.func 37) #[] #[]] w fun e w'=>e = .returned (.tuple #[])∧w'.ownsRow base 34 4 (.slice (some ⟨g,0,none⟩) n cap) n (Ua U8 (Xa E2 [] l))∧(base≤w.heap.size→Below base w w'):=by
 subst hl;have eg:∀ args w,(callFunc 37 args).run prog w = .ok (.enter 37 args) w:=enters_of Tryz.func37 (by kernel_rfl) rfl
 have hb:base≤g∧g<w.heap.size:=h.lt g rfl;have hH:=holdsK_of_own (enc:=U8) (k:=4) Uz h;have hc:=AnyQ.insertionSortCmpFunc (P:=prog) Tryz.insort 4 Tryz.isAgg34 Tryz.sizeOf34 U8 Uz Ir cfC 37 #[] g 0 cap 0 l.length l.toArray w eg (cmp_lays _ _ _ _) hH hb.2 (Z0 _) (by simp) (by simp;omega);change Calls prog 79 _ _ _ at hc;simp only [List.size_toArray] at hc;refine hc.mono ?_;rintro e w' ⟨rfl,m,os,rfl⟩;rw [ltOf_cfC];have hs:=Jd (lt:=E2) l;have e1:Go.Sort.insertionSort E2 l.toArray 0 l.length=(Xa E2 [] l).toArray:=by rw [←hs]
 rw [e1];exact ⟨rfl,own_sortK (enc:=U8) (k:=4) Uz h (by rw [Zo];simp),fun hB=>below_sortK hB hb.1⟩
theorem ins_none (p:Option Addr) (cap:Nat) (w:World):
  Calls prog 79 #[.slice p 0 cap,.int .i64 0,.int .i64 0,.func (.func 37) #[] #[]] w fun e w'=>e = .returned (.tuple #[])∧w=w':=
 (AnyF.insertionSortCmpFunc_none (P:=prog) Tryz.insort p cap _ w).mono fun _ _ ⟨he,hw⟩=>⟨he,hw.symm⟩
theorem stable_any (v:Value) (n:Nat) (l:List Com) (w:World) (base:Nat) (h:w.ownsRow base 34 4 v n (Ua U8 l)) (hl:l.length=n) (hn:n≤12) (hB:base≤w.heap.size):
  Calls prog 63 #[v,.int .i64 n,.func (.func 37) #[] #[]] w fun e w'=>e = .returned (.tuple #[])∧w'.ownsRow base 34 4 v n (Ua U8 (Xa E2 [] l))∧Below base w w':=by
 have d1:decide ((20:Int)≤(n:Int))=false:=by simp;omega
 have d2:decide ((20:Int)<(n:Int))=false:=by simp;omega
 have d3:decide (20≤n)=false:=by simp;omega
 have d4:decide (20<n)=false:=by simp;omega
 rcases h.2 with ⟨rfl,hz⟩|⟨g,cap,cur,rfl,hg⟩
 ·subst hz
  have:l = []:=List.eq_nil_of_length_eq_zero hl;subst this;have HH:=Hd h;have HBB:=Hd hB;clear hl h hn hB;go_enter Tryz.func63,Tryz.ntmps63;go_wp2;refine Lu 1 ?_;rw [Rs];go_wp2_with (go_at_call 79;refine (ins_none _ _ _).mono ?_;rintro e w' ⟨rfl,rfl⟩);refine Lu 1 ?_;rw [Rs];go_wp2
  go_end0
  exact ⟨rfl,HH.out,Bf _ _⟩
 ·have HI:=Hd (ins_any g n cap l w base h hl (by omega))
  have HBB:=Hd hB;clear hg h hl hn hB;go_enter Tryz.func63,Tryz.ntmps63;go_wp2;refine Lu 1 ?_;rw [Rs];go_wp2_with (go_at_call 79;refine HI.out.mono ?_;rintro e w' ⟨rfl,ho,hb⟩;have HO:=Hd ho;have HB:=Hd (hb HBB.out);clear ho hb);refine Lu 1 ?_;rw [Rs];go_wp2
  go_end0
  exact ⟨rfl,HO.out,HB.out⟩
theorem sort_any (v:Value) (n:Nat) (l:List Com) (w:World) (base:Nat) (h:w.ownsRow base 34 4 v n (Ua U8 l)) (hl:l.length=n) (hn:n≤12) (hB:base≤w.heap.size):
  Calls prog 36 #[v,.func (.func 37) #[] #[]] w fun e w'=>e = .returned (.tuple #[])∧w'.ownsRow base 34 4 v n (Ua U8 (Xa E2 [] l))∧Below base w w':=by
 have HS:=Hd (stable_any v n l w base h hl hn hB);obtain ⟨A,c,rfl,h1,h2⟩:=Ub h;clear h hl hn hB h1 h2;go_enter Tryz.func36,Tryz.ntmps36;go_wp2_with (go_at_call 63;refine HS.out.mono ?_;rintro e w' ⟨rfl,ho,hb⟩;have HO:=Hd ho;have HB:=Hd hb;clear ho hb)
 go_end0
 exact ⟨rfl,HO.out,HB.out⟩
end
section
set_option maxRecDepth 100000
set_option maxHeartbeats 1000000
open Go.RowKit
theorem o1_any (x:Com) (w:World) (hok:ComOk w w.heap.size x) (hv:VolsOk x):
  Calls prog 33 #[.agg #[.int .i64 x.unit,.int .i64 x.num,.slice x.rA x.rn x.rc,.slice x.cA x.cn x.cc]] w fun e w'=>e = .returned (.bool (!Z9 x))∧Below w.heap.size w w':=by
 have h:=valid_any x (w.alloc (.cells #[.int .i64 x.unit,.int .i64 x.num,.slice x.rA x.rn x.rc,.slice x.cA x.cn x.cc] 34)) (hok.after ((Bf _ _).alloc (Le _) _) (by simp)) hv;unfold comV at h;generalize Z9 x=R at h ⊢;have H:=Hd h;clear h hok hv;generalize x.unit=a1 at H ⊢;generalize x.num=a2 at H ⊢;generalize x.rA=a3 at H ⊢;generalize x.rn=a4 at H ⊢;generalize x.rc=a5 at H ⊢;generalize x.cA=a6 at H ⊢;generalize x.cn=a7 at H ⊢;generalize x.cc=a8 at H ⊢;go_enter Tryz.func33,Tryz.ntmps33;go_wp2_with fail;refine H.out.mono ?_;rintro e w1 ⟨rfl,hb1⟩;have X1:=Hd (Uc (show Below (w.heap.size+1) (w.alloc (.cells #[.int .i64 a1,.int .i64 a2,.slice a3 a4 a5,.slice a6 a7 a8] 34)) w1 by simpa using hb1));clear hb1;go_wp2;go_ret;exact ⟨rfl,X1.out⟩
def F9 (n:Int):List Com→Bool
 | []=>true
 |c::r=>if c.num≤n then false else F9 (if 0<c.cn then c.num+c.cn-1 else n) r
def Yh (l:List Com):Option (List Com):=if (l.any fun x => !Z9 x)=true then none else if F9 0 (Xa E2 [] l)=true then some (Xa E2 [] l) else none
def OrdNo (w:World) (e:Ending) (w':World):Prop:=e = .returned (.tuple #[.slice none 0 0,.bool false])∧Below w.heap.size w w'
def OrdYes (w:World) (s:List Com) (e:Ending) (w':World):Prop:=∃ A c,e = .returned (.tuple #[.slice A s.length c,.bool true])∧Cs w' w'.heap.size A s.length c s∧Below w.heap.size w w'
def OrdP (r:Option (List Com)) (w:World) (e:Ending) (w':World):Prop:=(r=none∧OrdNo w e w')∨(∃ s,r=some s∧OrdYes w s e w')
theorem comB_num {x:Com} (h:Z9 x=true):1≤x.num∧x.num≤1099511627776∧x.cn≤300:=by
 unfold Z9 at h;simp only [Bool.and_eq_true,decide_eq_true_eq] at h;have:=Kv h.1.1.1.2;exact ⟨this.1,this.2,h.1.1.1.1.2⟩
theorem Yy (A:Option Addr) (n c:Nat) (l:List Com) (w:World) (hs:Cs w w.heap.size A n c l) (hv:∀ x∈l,VolsOk x) (hn:n≤12):
  Calls prog 16 #[.slice A n c] w (OrdP (Yh l) w):=by
 have hl:=hs.1.len;have HC:=Hd (units_any (fun x => !Z9 x) A n c l w hs.1 (by omega) fun x hx W hb=>o1_any x W ((hs.2 x hx).after hb hb.size) (hv x hx));cases ha:(l.any fun x => !Z9 x) with
 |true=>
  rw [ha] at HC;have HO:Hid (Yh l=none):=Hd (by unfold Yh;rw [if_pos ha]);clear hs hv hn hl ha;go_enter Tryz.func16,Tryz.ntmps16;go_wp2_with (go_at_call 32;refine HC.out.mono ?_;rintro e w1 ⟨rfl,hb1⟩)
  go_ret2
  exact .inl ⟨HO.out,rfl,hb1⟩
 |false=>
  rw [ha] at HC
  have hall:∀ x∈l,Z9 x=true:=fun x hx=>by
   have:=List.any_eq_false.1 ha x hx;simpa using this
  obtain ⟨s,hsort⟩:∃ s,Xa E2 [] l=s:=⟨_,rfl⟩
  have hmem:∀ x∈s,x∈l:=fun x hx=>by
   rw [←hsort,Il] at hx;rcases hx with hx|hx
   ·cases hx
   ·exact hx
  have hsl:s.length=n:=by rw [←hsort,Zo];simpa using hl
  obtain ⟨r,hr⟩:∃ r,Yh l=r:=⟨_,rfl⟩
  have hr2:r=if F9 0 s=true then some s else none:=by rw [←hr,←hsort];unfold Yh;rw [ha];simp
  rw [hr];have HALL:=Hd hall;have HMEM:=Hd hmem;have HSL:=Hd hsl;have HRR:=Hd hr2;have HL:=Hd hl;have HSORT:=Hd hsort;have HS:=Hd hs;have hn':n≤1000:=by omega
  have HN:=Hd hn;clear hall hmem hsl hr hr2 hl hsort ha hs hv hn;go_enter Tryz.func16,Tryz.ntmps16;go_wp2_with fail;refine HC.out.mono ?_;rintro e w1 ⟨rfl,hb1⟩;have HCL:=Hd (clone_any A n c l w1 (HS.out.1.after hb1 hb1.size) hn');have B1:=Hd hb1;clear hb1;go_wp2_with fail;refine HCL.out.mono ?_;rintro e w2 ⟨v,rfl,ho,hb2⟩;have HSO:=Hd (sort_any v n l w2 w1.heap.size ho HL.out HN.out hb2.size);obtain ⟨A2,c2,rfl,hc1,hc2⟩:=Ub ho;have B2:=Hd hb2;clear ho hb2 hc1 hc2;go_wp2_with fail;refine HSO.out.mono ?_;rintro e w3 ⟨rfl,ho,hb3⟩;rw [HSORT.out] at ho;have HSL3:=Hd (Sl.of_own (f:=U8) (k:=4) Uz (by decide) ho);have B3:=Hd (U0 B1.out (B2.out.trans hb3) (B1.out.size));have HCS:=Hd (show Cs w3 w3.heap.size A2 n c2 s from ⟨HSL3.out,fun x hx=>(HS.out.2 x (HMEM.out x hx)).after B3.out B3.out.size⟩);clear ho hb3;go_wp2
  go_loopw [5,16] (fun v5 i wr => ∃ (j:Nat) (nv:Int),j≤n∧i = .int .i64 j∧v5 = .int .i64 nv∧F9 0 s=F9 nv (s.drop j)∧Below w3.heap.size w3 wr) (fun _ i _=>n-(intOf i).toNat)
  case atStart=>exact ⟨0,0,Z0 _,rfl,rfl,rfl,Bf _ _⟩
  case round=>
   obtain ⟨j,nv,hj,rfl,rfl,hchk,hbel⟩:=hrel;have HCHK:=Hd hchk;have HB:=Hd hbel;clear hchk hbel;by_cases hlt:j<n
   ·obtain ⟨b,o,x,rfl,hb,hg,hcell⟩:=Sl.cell (f:=U8) (k:=4) Uz (HSL3.out.below HB.out) hlt
    have c0:=hcell 0 _ rfl;have c1:=hcell 1 _ rfl;have c2:=hcell 2 _ rfl;have c3:=hcell 3 _ rfl;simp only [Nat.add_zero] at c0;have hx:=HALL.out x (HMEM.out x (List.mem_of_getElem? hg));obtain ⟨n1,n2,n3⟩:=comB_num hx
    have hd:s.drop j=x::s.drop (j+1):=by
     have hjs:j<s.length:=by rw [HSL.out];exact hlt
     rw [List.drop_eq_getElem_cons hjs];congr 1;exact (List.getElem?_eq_some_iff.1 hg).2
    have hstep:F9 0 s=if x.num≤nv then false else F9 (if 0<x.cn then x.num+x.cn-1 else nv) (s.drop (j+1)):=by rw [HCHK.out,hd];rfl
    have HLA:=Hd fun W=>last_any x W n1 n2 n3
    have bsz:=HB.out.size;unfold comV at HLA;clear hb hg hcell hx n2 hd;by_cases hle:x.num≤nv
    ·rw [if_pos hle] at hstep
     have HST:Hid (r=none):=Hd (by rw [HRR.out,hstep];rfl);have d1:decide (x.num≤nv)=true:=by simpa using hle
     clear hstep hle n1 n3;go_wp2
     go_ret2
     exact .inl ⟨HST.out,rfl,(B3.out.trans (HB.out.mono B3.out.size)).alloc (Lx B3.out.size bsz) _⟩
    ·rw [if_neg hle] at hstep
     have d1:decide (x.num≤nv)=false:=by simpa using hle
     by_cases hc:0<x.cn
     ·rw [if_pos hc] at hstep
      have HST:=Hd hstep;have d2:decide (0<x.cn)=true:=by simpa using hc
      have d3:decide ((0:Int)<(x.cn:Int))=true:=by simpa using hc
      have HLB:=Hd (HLA.out (wr.alloc (.cells #[.int .i64 x.num,.int .i64 x.num] 34)));clear HLB;clear hstep hle hc n1 n3;go_wp2_with (go_at_call 40;refine (HLA.out _).mono ?_;rintro e w4 ⟨rfl,hb4⟩;have HB4:=Hd (show Below w3.heap.size w3 w4 from U0 (HB.out.alloc bsz _) hb4 (Lx bsz (by simp)));clear hb4);go_roundw
      case rel=>exact ⟨j+1,_,by omega,by go_num,rfl,HST.out,HB4.out⟩
      case measure=>simp [intOf];omega
     ·rw [if_neg hc] at hstep
      have HST:=Hd hstep;have d2:decide (0<x.cn)=false:=by simpa using hc
      have d3:decide ((0:Int)<(x.cn:Int))=false:=by simp;omega
      clear hstep hle hc n1 n3;go_wp2;go_roundw
      case rel=>exact ⟨j+1,_,by omega,by go_num,rfl,HST.out,HB.out.alloc bsz _⟩
      case measure=>simp [intOf];omega
   ·have hst:F9 0 s=true:=by rw [HCHK.out,List.drop_of_length_le (by rw [HSL.out];omega)];rfl
    have HST:Hid (r=some s):=Hd (by rw [HRR.out,hst];rfl);have BW:=Hd (B3.out.trans (HB.out.mono B3.out.size));clear hst;go_wp2
    go_ret2
    exact .inr ⟨s,HST.out,A2,c2,by rw [HSL.out];rfl,by rw [HSL.out];exact HCS.out.after HB.out HB.out.size,BW.out⟩
end
end Go.Proofs.YtapanepkfbamhaaGreatDoor
