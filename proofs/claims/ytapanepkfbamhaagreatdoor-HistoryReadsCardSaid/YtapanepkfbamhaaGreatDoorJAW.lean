/- Part of the proof of HistoryReads. -/
import Derived.Test.YtapanepkfbamhaaGreatDoorJAV
namespace Go.Proofs.YtapanepkfbamhaaGreatDoor
open Tryz (prog)
set_option maxRecDepth 100000
set_option maxHeartbeats 400000
open Go.RowKit
def dayB (l:List Int):Bool := !(l.any fun n => !Ym n)
theorem Io (A:Option Addr) (n c:Nat) (l:List Int) (w:World) (hs:Sl V3 1 w w.heap.size A n c l) (hn:n≤1000) (ht:Tab w):
  Calls prog 249 #[.slice A n c] w fun e w'=>e = .returned (.bool (dayB l))∧Below w.heap.size w w':=by
 have HC:=Hd (eday_any (fun n => !Ym n) A n c l w hs (by omega) fun x _ W hb=>day1_any x W (ht.after hb));unfold dayB;generalize l.any (fun n => !Ym n)=z at HC;clear hs hn ht;go_enter Tryz.func249,Tryz.ntmps249;go_wp2_with (go_at_call 283;refine HC.out.mono ?_;rintro e w1 ⟨rfl,h1⟩;have H1:=Hd h1;clear h1);go_ret;exact ⟨rfl,H1.out⟩
def BoolW (w:World) (e:Ending) (w':World):Prop:=(∃ b,e = .returned (.bool b))∧w=w'
def BoolG (w:World) (e:Ending) (w':World):Prop:=(∃ b,e = .returned (.bool b))∧Below w.heap.size w w'
theorem star_any (z:Int) (w:World):Calls prog 262 #[.int .u8 z] w (BoolW w):=by
 have HU:=Hd fun W=>Kk z W
 generalize upB z=u at HU;cases u
 all_goals
  go_enter Tryz.func262,Tryz.ntmps262;go_wp2_with (go_at_call 246;refine (HU.out _).mono ?_;rintro e w1 ⟨rfl,rfl⟩);go_ret;exact ⟨⟨_,rfl⟩,rfl⟩
theorem stars_any (z:Int) (w:World):Calls prog 264 #[.int .u8 z] w (BoolW w):=by
 have HU:=Hd fun W=>plain_any z W
 generalize plB z=u at HU;cases u
 all_goals
  go_enter Tryz.func264,Tryz.ntmps264;go_wp2_with (go_at_call 247;refine (HU.out _).mono ?_;rintro e w1 ⟨rfl,rfl⟩);go_ret;exact ⟨⟨_,rfl⟩,rfl⟩
theorem quals_any (s:ByteArray) (w:World) (hs:s.size≤maxLen):Calls prog 245 #[.string s,.func (.func 262) #[] #[],.func (.func 264) #[] #[]] w (BoolW w):=by
 unfold maxLen at hs;have HU:=Hd star_any;have HV:=Hd stars_any;by_cases h0:s.size<1
 ·go_enter Tryz.func245,Tryz.ntmps245
  go_wp2;go_ret;exact ⟨⟨_,rfl⟩,rfl⟩
 ·by_cases h8:8<s.size
  ·go_enter Tryz.func245,Tryz.ntmps245
   go_wp2;go_ret;exact ⟨⟨_,rfl⟩,rfl⟩
  ·have hlt0:0<s.size:=by omega
   go_enter Tryz.func245,Tryz.ntmps245;go_wp2_with (go_at_call 262;refine (HU.out _ _).mono ?_;rintro e w1 ⟨⟨u,rfl⟩,rfl⟩;cases u)
   ·go_ret
    exact ⟨⟨_,rfl⟩,rfl⟩
   ·go_loop [7] (fun i => ∃ j:Nat,1≤j∧j≤s.size∧i = .int .i64 j) (fun i=>s.size-(intOf i).toNat)
    case atStart=>exact ⟨1,Le _,by omega,rfl⟩
    case round=>
     obtain ⟨j,j1,hj,rfl⟩:=hrel;by_cases hlt:j<s.size
     ·go_wp2_with (go_at_call 264;refine (HV.out _ _).mono ?_;rintro e w1 ⟨⟨u,rfl⟩,rfl⟩;cases u)
      ·go_ret
       exact ⟨⟨_,rfl⟩,rfl⟩
      ·go_round
       case rel=>exact ⟨j+1,by omega,by omega,by go_num⟩
       case measure=>simp [intOf];omega
     ·obtain rfl:j=s.size:=by omega
      go_wp2;go_ret;exact ⟨⟨_,rfl⟩,rfl⟩
theorem pat2_any (s:ByteArray) (h:Nat) (w:World) (hs:s.size<4294967281) (hm:Mx w) (hc:w.cell? ⟨h,0,none⟩=some (.func (.func 262) #[] #[])):
  Calls prog 263 #[.string s,.pointer (some ⟨h,0,none⟩)] w (BoolW w):=by
 have HQ:=Hd (quals_any s w (by unfold maxLen;omega));obtain ⟨m,hm⟩:=hm;have HC:=Hd (Tryz.strings_Contains s ⟨#[42,42]⟩ m w hs hm);generalize Lib.contains s.data.toList (⟨#[42,42]⟩:ByteArray).data.toList=z at HC;obtain ⟨q,hq⟩:∃ q,(s.toList == [42,42])=q:=⟨_,rfl⟩
 clear hm;cases q
 ·go_enter Tryz.func263,Tryz.ntmps263
  go_wp2_with (first|(go_at_call 245;refine HQ.out.mono ?_;rintro e w1 ⟨⟨u,rfl⟩,rfl⟩;cases u)|(go_at_call 257;refine HC.out.mono ?_;rintro e w1 ⟨rfl,rfl⟩))
  all_goals
   go_ret;exact ⟨⟨_,rfl⟩,rfl⟩
 ·go_enter Tryz.func263,Tryz.ntmps263
  go_wp2;go_ret;exact ⟨⟨_,rfl⟩,rfl⟩
theorem allp_any (s:ByteArray) (h:Nat) (w:World) (hs:s.size≤maxLen) (hm:Mx w) (hc:w.cell? ⟨h,0,none⟩=some (.func (.func 262) #[] #[])):
  Calls prog 243 #[.string s,.int .i64 31,.func (.func 263) #[] #[.pointer (some ⟨h,0,none⟩)]] w (BoolG w):=by
 unfold maxLen at hs;by_cases h0:s.size<1
 ·clear hm hc
  go_enter Tryz.func243,Tryz.ntmps243;go_wp2;go_ret;exact ⟨⟨_,rfl⟩,Bf _ _⟩
 ·by_cases h31:31<s.size
  ·clear hm hc
   go_enter Tryz.func243,Tryz.ntmps243;go_wp2;go_ret;exact ⟨⟨_,rfl⟩,Bf _ _⟩
  ·have hmx:=hm
   obtain ⟨m,hm⟩:=hm;have HS:=Hd (Tryz.strings_Split s dot m w (by omega) hm (by decide));have HP:=Hd (sl_pcs w s);have HZ:Hid (∀ q∈pcs s,∀ W,Below w.heap.size w W→Calls prog 263 #[.string q,.pointer (some ⟨h,0,none⟩)] W (BoolW W)):=Hd fun q hq W hb=>pat2_any q h W (by have:=pcs_size hq;omega) (hmx.after hb) ((hb.cell (p:=⟨h,0,none⟩) (Is hc)).trans hc)
   have hcn:=F6 s;obtain ⟨n,hn⟩:∃ n,Lib.countB s dot+1=n:=⟨_,rfl⟩
   have hps:Lib.splitB dot 0 (Lib.countB s dot) s=pcs s:=rfl;simp only [hps,hn] at HS HP;have hnn:n≤32:=by omega
   clear hm hmx hc hps hn hcn;generalize pcs s=l at HS HP HZ;obtain ⟨w1,hw1⟩:∃ w1,w.alloc (.cells (l.map Value.string).toArray 9)=w1:=⟨_,rfl⟩
   have hb1:Below w.heap.size w w1:=by rw [←hw1];exact (Bf _ _).alloc (Le _) _
   have hz1:w.heap.size+1=w1.heap.size:=by rw [←hw1];simp
   have HB1:=Hd hb1;simp only [hw1] at HS HP;rw [hz1] at HP;have HZ1:=Hd hz1;clear hw1 hb1 hz1;go_enter Tryz.func243,Tryz.ntmps243;go_wp2_with (go_at_call 250;refine HS.out.mono ?_;rintro e w' ⟨rfl,hw⟩;rw [hw];clear hw w');go_loopw [21] (fun i wr => ∃ j:Nat,j≤n∧i = .int .i64 j∧wr=w1) (fun i _=>n-(intOf i).toNat)
   case atStart=>exact ⟨0,Z0 _,rfl,rfl⟩
   case round=>
    obtain ⟨j,hj,rfl,rfl⟩:=hrel;by_cases hlt:j<n
    ·obtain ⟨b,o,x,hbo,hb,hg,hcell⟩:=Sl.cell (f:=Ug) (k:=1) (fun _=>rfl) HP.out hlt
     injection hbo with hbo
     injection hbo with e1 e2
     subst e1 e2;have c0:=hcell 0 _ rfl;simp only [Nat.add_zero,Nat.zero_add,Nat.mul_one] at c0;have HQ:=Hd (HZ.out x (List.mem_of_getElem? hg) wr HB1.out);clear hg hcell hb;go_wp2_with (go_at_call 263;refine HQ.out.mono ?_;rintro e w' ⟨⟨u,rfl⟩,rfl⟩;cases u)
     ·go_ret
      exact ⟨⟨_,rfl⟩,HB1.out⟩
     ·go_roundw
      case rel=>exact ⟨j+1,by omega,by go_num,trivial⟩
      case measure=>simp [intOf];omega
    ·obtain rfl:j=n:=by omega
     go_wp2;go_ret;exact ⟨⟨_,rfl⟩,HB1.out⟩
theorem pattern_any (s:ByteArray) (w:World) (hs:s.size≤maxLen) (hm:Mx w):Calls prog 207 #[.string s] w (BoolG w):=by
 have hb:Below w.heap.size w (w.alloc (.cells #[.func (.func 262) #[] #[]] 307)):=(Bf _ _).alloc (Le _) _;have HA:=Hd (allp_any s w.heap.size _ hs (hm.after hb) (((Blk.new w 307 #[.func (.func 262) #[] #[]]).cell 0).trans rfl));have HB:=Hd hb;clear hs hm hb;go_enter Tryz.func207,Tryz.ntmps207;go_wp2_with (go_at_call 243;refine HA.out.mono ?_;rintro e w1 ⟨⟨b,rfl⟩,h1⟩;have H1:=Hd h1;clear h1);go_ret;exact ⟨⟨_,rfl⟩,U0 HB.out H1.out HB.out.size⟩
end Go.Proofs.YtapanepkfbamhaaGreatDoor
