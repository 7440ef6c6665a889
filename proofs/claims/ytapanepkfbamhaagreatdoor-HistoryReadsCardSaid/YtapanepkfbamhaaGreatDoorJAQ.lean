/- Part of the proof of HistoryReads. -/
import Derived.Test.YtapanepkfbamhaaGreatDoorJAP
namespace Go.Proofs.YtapanepkfbamhaaGreatDoor
open Tryz (prog)
section
set_option maxRecDepth 100000
set_option maxHeartbeats 2000000
open Go.RowKit
def Jo (f l b:Int):Bool:=if f=0 then fvB l b else if f=1 then vvB l b else svB l b
def seqL (f:Int):Int:=if f=0 then 0 else if f=1 then 0 else 32
def Zp (d:DSet):Bool:=decide (d.org=0)&&decide (0≤d.fmt)&&decide (d.fmt≤2)&&Jo d.fmt d.len d.blk&&decide (seqL d.fmt≤d.blk)
structure SV (d:DSet) (fm:Array Value) (g:Nat) (w W:World):Prop where
 b1:Blk W w.heap.size 27 (dC d).toArray
 b2:Blk W g 211 fm
 be:Below w.heap.size w W
theorem Ei {d:DSet} {w w2:World} (fm:Array Value) (hb:Below (w.alloc (.cells (dC d).toArray 27)).heap.size (w.alloc (.cells (dC d).toArray 27)) w2):SV d fm w2.heap.size w (w2.alloc (.cells fm 211)):=
 ⟨((Blk.new w _ _).below hb (by simp)).alloc _,Blk.new _ _ _,(((Bf _ _).alloc (Le _) _).trans (hb.mono (by simp))).alloc (by have:=hb.size;simp at this;omega) _⟩
theorem Jp (d:DSet) (w:World):Calls prog 108 #[.agg (dC d).toArray] w fun e w'=>e = .returned (.bool (Zp d))∧Below w.heap.size w w':=by
 have HB:=Hd (Blk.new w 27 (dC d).toArray);have HF0:=Hd (Xw d (w.alloc (.cells (dC d).toArray 27)));obtain ⟨R,hR⟩:∃ R,Zp d=R:=⟨_,rfl⟩
 rw [hR];have HR:=Hd hR;clear hR;by_cases h0:d.fmt=0
 ·have HH0:=h0
  have HF:Hid (Calls prog 135 #[.agg (dC d).toArray] (w.alloc (.cells (dC d).toArray 27)) fun e w' => ∃ a b c,e = .returned (.agg #[.func (.func 168) #[] #[],.func (.func 169) #[] #[],.func a b c,.int .i64 0,.func (.func 172) #[] #[]])∧Below (w.alloc (.cells (dC d).toArray 27)).heap.size (w.alloc (.cells (dC d).toArray 27)) w'):=Hd (HF0.out.mono fun e w' h=>by
   obtain ⟨a,b,c,k1,k2⟩:=h;refine ⟨a,b,c,?_,k2⟩;rw [k1];unfold fmC;rw [if_pos h0];try rfl)
  clear HF0;by_cases ho:d.org=0
  ·have ho':(d.org == 0)=true:=by simpa using ho
   cases hv:fvB d.len d.blk with
   |false=>
    have HV:=Hd hv;have hq:R=false:=by rw [←HR.out];simp [Zp,Jo,h0,hv]
    have HQ:=Hd hq;clear hq;go_enter Tryz.func108,Tryz.ntmps108
    go_wp2_with (first|((with_reducible refine Gl 27 1 ?_);refine Lr rfl 27 _ rfl w.heap.size rfl 27 (dC d).toArray (0,0) _ HB.out Tryz.underlying27 rfl (by kernel_rfl) ?_)|(go_at_call 135;refine HF.out.mono ?_;rintro e w2 ⟨a,b,c,rfl,hb⟩;have HS:=Hd (Ei (d:=d) #[.func (.func 168) #[] #[],.func (.func 169) #[] #[],.func a b c,.int .i64 0,.func (.func 172) #[] #[]] hb);have HN:=Hd fun old=>Blk.new w2 211 old;have HSR:=Hd fun old=>U1 w2 old #[.func (.func 168) #[] #[],.func (.func 169) #[] #[],.func a b c,.int .i64 0,.func (.func 172) #[] #[]] 211;have c1:=(HS.out.b1.cell 1).trans (show _=some (Value.int .i64 d.org) from rfl);have c2:=(HS.out.b1.cell 2).trans (show _=some (Value.int .i64 d.fmt) from rfl);have c3:=(HS.out.b1.cell 3).trans (show _=some (Value.int .i64 d.len) from rfl);have c4:=(HS.out.b1.cell 4).trans (show _=some (Value.int .i64 d.blk) from rfl);have e0:=(HS.out.b2.cell 0).trans (show _=some (.func (.func 168) #[] #[]:Value) from rfl);have e3:=(HS.out.b2.cell 3).trans (show _=some (Value.int .i64 0) from rfl);clear hb)|((with_reducible refine Gt 211 3 ?_);refine Lt rfl 211 _ _ rfl w2.heap.size #[.func (.func 168) #[] #[],.func (.func 169) #[] #[],.func a b c,.int .i64 0,.func (.func 172) #[] #[]] rfl rfl 211 _ (HN.out _) (by kernel_rfl) rfl (by simp [Value.oneCell']) ?_;rw [HSR.out])|(go_at_call 168;refine (Yu _ _ _).mono ?_;rintro e w4 ⟨rfl,rfl⟩;rw [HV.out]))
    go_ret;exact ⟨by rw [HQ.out];first|rfl|(simp;omega),HS.out.be⟩
   |true=>
    have HV:=Hd hv;have hbk:0≤d.blk:=by simp [fvB] at hv;omega
    have hq:R=true:=by rw [←HR.out];simp [Zp,Jo,seqL,h0,hv,ho];omega
    have HQ:=Hd hq;clear hq;go_enter Tryz.func108,Tryz.ntmps108
    go_wp2_with (first|((with_reducible refine Gl 27 1 ?_);refine Lr rfl 27 _ rfl w.heap.size rfl 27 (dC d).toArray (0,0) _ HB.out Tryz.underlying27 rfl (by kernel_rfl) ?_)|(go_at_call 135;refine HF.out.mono ?_;rintro e w2 ⟨a,b,c,rfl,hb⟩;have HS:=Hd (Ei (d:=d) #[.func (.func 168) #[] #[],.func (.func 169) #[] #[],.func a b c,.int .i64 0,.func (.func 172) #[] #[]] hb);have HN:=Hd fun old=>Blk.new w2 211 old;have HSR:=Hd fun old=>U1 w2 old #[.func (.func 168) #[] #[],.func (.func 169) #[] #[],.func a b c,.int .i64 0,.func (.func 172) #[] #[]] 211;have c1:=(HS.out.b1.cell 1).trans (show _=some (Value.int .i64 d.org) from rfl);have c2:=(HS.out.b1.cell 2).trans (show _=some (Value.int .i64 d.fmt) from rfl);have c3:=(HS.out.b1.cell 3).trans (show _=some (Value.int .i64 d.len) from rfl);have c4:=(HS.out.b1.cell 4).trans (show _=some (Value.int .i64 d.blk) from rfl);have e0:=(HS.out.b2.cell 0).trans (show _=some (.func (.func 168) #[] #[]:Value) from rfl);have e3:=(HS.out.b2.cell 3).trans (show _=some (Value.int .i64 0) from rfl);clear hb)|((with_reducible refine Gt 211 3 ?_);refine Lt rfl 211 _ _ rfl w2.heap.size #[.func (.func 168) #[] #[],.func (.func 169) #[] #[],.func a b c,.int .i64 0,.func (.func 172) #[] #[]] rfl rfl 211 _ (HN.out _) (by kernel_rfl) rfl (by simp [Value.oneCell']) ?_;rw [HSR.out])|(go_at_call 168;refine (Yu _ _ _).mono ?_;rintro e w4 ⟨rfl,rfl⟩;rw [HV.out]))
    go_ret;exact ⟨by rw [HQ.out];first|rfl|(simp;omega),HS.out.be⟩
  ·have ho':(d.org == 0)=false:=by simpa using ho
   have hq:R=false:=by rw [←HR.out];simp [Zp,ho]
   have HQ:=Hd hq;clear hq;go_enter Tryz.func108,Tryz.ntmps108
   go_wp2_with (first|((with_reducible refine Gl 27 1 ?_);refine Lr rfl 27 _ rfl w.heap.size rfl 27 (dC d).toArray (0,0) _ HB.out Tryz.underlying27 rfl (by kernel_rfl) ?_)|(go_at_call 135;refine HF.out.mono ?_;rintro e w2 ⟨a,b,c,rfl,hb⟩;have HS:=Hd (Ei (d:=d) #[.func (.func 168) #[] #[],.func (.func 169) #[] #[],.func a b c,.int .i64 0,.func (.func 172) #[] #[]] hb);have HN:=Hd fun old=>Blk.new w2 211 old;have HSR:=Hd fun old=>U1 w2 old #[.func (.func 168) #[] #[],.func (.func 169) #[] #[],.func a b c,.int .i64 0,.func (.func 172) #[] #[]] 211;have c1:=(HS.out.b1.cell 1).trans (show _=some (Value.int .i64 d.org) from rfl);have c2:=(HS.out.b1.cell 2).trans (show _=some (Value.int .i64 d.fmt) from rfl);have c3:=(HS.out.b1.cell 3).trans (show _=some (Value.int .i64 d.len) from rfl);have c4:=(HS.out.b1.cell 4).trans (show _=some (Value.int .i64 d.blk) from rfl);have e0:=(HS.out.b2.cell 0).trans (show _=some (.func (.func 168) #[] #[]:Value) from rfl);have e3:=(HS.out.b2.cell 3).trans (show _=some (Value.int .i64 0) from rfl);clear hb)|((with_reducible refine Gt 211 3 ?_);refine Lt rfl 211 _ _ rfl w2.heap.size #[.func (.func 168) #[] #[],.func (.func 169) #[] #[],.func a b c,.int .i64 0,.func (.func 172) #[] #[]] rfl rfl 211 _ (HN.out _) (by kernel_rfl) rfl (by simp [Value.oneCell']) ?_;rw [HSR.out]))
   go_ret;exact ⟨by rw [HQ.out];first|rfl|(simp;omega),HS.out.be⟩
 by_cases h1:d.fmt=1
 ·have HH0:=h1
  have HF:Hid (Calls prog 135 #[.agg (dC d).toArray] (w.alloc (.cells (dC d).toArray 27)) fun e w' => ∃ a b c,e = .returned (.agg #[.func (.func 173) #[] #[],.func (.func 174) #[] #[],.func a b c,.int .i64 0,.func (.func 176) #[] #[]])∧Below (w.alloc (.cells (dC d).toArray 27)).heap.size (w.alloc (.cells (dC d).toArray 27)) w'):=Hd (HF0.out.mono fun e w' h=>by
   obtain ⟨a,b,c,k1,k2⟩:=h;refine ⟨a,b,c,?_,k2⟩;rw [k1];unfold fmC;rw [if_neg h0,if_pos h1];try rfl)
  clear HF0;by_cases ho:d.org=0
  ·have ho':(d.org == 0)=true:=by simpa using ho
   cases hv:vvB d.len d.blk with
   |false=>
    have HV:=Hd hv;have hq:R=false:=by rw [←HR.out];simp [Zp,Jo,h1,hv]
    have HQ:=Hd hq;clear hq;go_enter Tryz.func108,Tryz.ntmps108
    go_wp2_with (first|((with_reducible refine Gl 27 1 ?_);refine Lr rfl 27 _ rfl w.heap.size rfl 27 (dC d).toArray (0,0) _ HB.out Tryz.underlying27 rfl (by kernel_rfl) ?_)|(go_at_call 135;refine HF.out.mono ?_;rintro e w2 ⟨a,b,c,rfl,hb⟩;have HS:=Hd (Ei (d:=d) #[.func (.func 173) #[] #[],.func (.func 174) #[] #[],.func a b c,.int .i64 0,.func (.func 176) #[] #[]] hb);have HN:=Hd fun old=>Blk.new w2 211 old;have HSR:=Hd fun old=>U1 w2 old #[.func (.func 173) #[] #[],.func (.func 174) #[] #[],.func a b c,.int .i64 0,.func (.func 176) #[] #[]] 211;have c1:=(HS.out.b1.cell 1).trans (show _=some (Value.int .i64 d.org) from rfl);have c2:=(HS.out.b1.cell 2).trans (show _=some (Value.int .i64 d.fmt) from rfl);have c3:=(HS.out.b1.cell 3).trans (show _=some (Value.int .i64 d.len) from rfl);have c4:=(HS.out.b1.cell 4).trans (show _=some (Value.int .i64 d.blk) from rfl);have e0:=(HS.out.b2.cell 0).trans (show _=some (.func (.func 173) #[] #[]:Value) from rfl);have e3:=(HS.out.b2.cell 3).trans (show _=some (Value.int .i64 0) from rfl);clear hb)|((with_reducible refine Gt 211 3 ?_);refine Lt rfl 211 _ _ rfl w2.heap.size #[.func (.func 173) #[] #[],.func (.func 174) #[] #[],.func a b c,.int .i64 0,.func (.func 176) #[] #[]] rfl rfl 211 _ (HN.out _) (by kernel_rfl) rfl (by simp [Value.oneCell']) ?_;rw [HSR.out])|(go_at_call 173;refine (E4 _ _ _).mono ?_;rintro e w4 ⟨rfl,rfl⟩;rw [HV.out]))
    go_ret;exact ⟨by rw [HQ.out];first|rfl|(simp;omega),HS.out.be⟩
   |true=>
    have HV:=Hd hv;have hbk:0≤d.blk:=by simp [vvB] at hv;omega
    have hq:R=true:=by rw [←HR.out];simp [Zp,Jo,seqL,h1,hv,ho];omega
    have HQ:=Hd hq;clear hq;go_enter Tryz.func108,Tryz.ntmps108
    go_wp2_with (first|((with_reducible refine Gl 27 1 ?_);refine Lr rfl 27 _ rfl w.heap.size rfl 27 (dC d).toArray (0,0) _ HB.out Tryz.underlying27 rfl (by kernel_rfl) ?_)|(go_at_call 135;refine HF.out.mono ?_;rintro e w2 ⟨a,b,c,rfl,hb⟩;have HS:=Hd (Ei (d:=d) #[.func (.func 173) #[] #[],.func (.func 174) #[] #[],.func a b c,.int .i64 0,.func (.func 176) #[] #[]] hb);have HN:=Hd fun old=>Blk.new w2 211 old;have HSR:=Hd fun old=>U1 w2 old #[.func (.func 173) #[] #[],.func (.func 174) #[] #[],.func a b c,.int .i64 0,.func (.func 176) #[] #[]] 211;have c1:=(HS.out.b1.cell 1).trans (show _=some (Value.int .i64 d.org) from rfl);have c2:=(HS.out.b1.cell 2).trans (show _=some (Value.int .i64 d.fmt) from rfl);have c3:=(HS.out.b1.cell 3).trans (show _=some (Value.int .i64 d.len) from rfl);have c4:=(HS.out.b1.cell 4).trans (show _=some (Value.int .i64 d.blk) from rfl);have e0:=(HS.out.b2.cell 0).trans (show _=some (.func (.func 173) #[] #[]:Value) from rfl);have e3:=(HS.out.b2.cell 3).trans (show _=some (Value.int .i64 0) from rfl);clear hb)|((with_reducible refine Gt 211 3 ?_);refine Lt rfl 211 _ _ rfl w2.heap.size #[.func (.func 173) #[] #[],.func (.func 174) #[] #[],.func a b c,.int .i64 0,.func (.func 176) #[] #[]] rfl rfl 211 _ (HN.out _) (by kernel_rfl) rfl (by simp [Value.oneCell']) ?_;rw [HSR.out])|(go_at_call 173;refine (E4 _ _ _).mono ?_;rintro e w4 ⟨rfl,rfl⟩;rw [HV.out]))
    go_ret;exact ⟨by rw [HQ.out];first|rfl|(simp;omega),HS.out.be⟩
  ·have ho':(d.org == 0)=false:=by simpa using ho
   have hq:R=false:=by rw [←HR.out];simp [Zp,ho]
   have HQ:=Hd hq;clear hq;go_enter Tryz.func108,Tryz.ntmps108
   go_wp2_with (first|((with_reducible refine Gl 27 1 ?_);refine Lr rfl 27 _ rfl w.heap.size rfl 27 (dC d).toArray (0,0) _ HB.out Tryz.underlying27 rfl (by kernel_rfl) ?_)|(go_at_call 135;refine HF.out.mono ?_;rintro e w2 ⟨a,b,c,rfl,hb⟩;have HS:=Hd (Ei (d:=d) #[.func (.func 173) #[] #[],.func (.func 174) #[] #[],.func a b c,.int .i64 0,.func (.func 176) #[] #[]] hb);have HN:=Hd fun old=>Blk.new w2 211 old;have HSR:=Hd fun old=>U1 w2 old #[.func (.func 173) #[] #[],.func (.func 174) #[] #[],.func a b c,.int .i64 0,.func (.func 176) #[] #[]] 211;have c1:=(HS.out.b1.cell 1).trans (show _=some (Value.int .i64 d.org) from rfl);have c2:=(HS.out.b1.cell 2).trans (show _=some (Value.int .i64 d.fmt) from rfl);have c3:=(HS.out.b1.cell 3).trans (show _=some (Value.int .i64 d.len) from rfl);have c4:=(HS.out.b1.cell 4).trans (show _=some (Value.int .i64 d.blk) from rfl);have e0:=(HS.out.b2.cell 0).trans (show _=some (.func (.func 173) #[] #[]:Value) from rfl);have e3:=(HS.out.b2.cell 3).trans (show _=some (Value.int .i64 0) from rfl);clear hb)|((with_reducible refine Gt 211 3 ?_);refine Lt rfl 211 _ _ rfl w2.heap.size #[.func (.func 173) #[] #[],.func (.func 174) #[] #[],.func a b c,.int .i64 0,.func (.func 176) #[] #[]] rfl rfl 211 _ (HN.out _) (by kernel_rfl) rfl (by simp [Value.oneCell']) ?_;rw [HSR.out]))
   go_ret;exact ⟨by rw [HQ.out];first|rfl|(simp;omega),HS.out.be⟩
 have HF:Hid (Calls prog 135 #[.agg (dC d).toArray] (w.alloc (.cells (dC d).toArray 27)) fun e w' => ∃ a b c,e = .returned (.agg #[.func (.func 177) #[] #[],.func (.func 178) #[] #[],.func a b c,.int .i64 32,.func (.func 176) #[] #[]])∧Below (w.alloc (.cells (dC d).toArray 27)).heap.size (w.alloc (.cells (dC d).toArray 27)) w'):=Hd (HF0.out.mono fun e w' h=>by
  obtain ⟨a,b,c,k1,k2⟩:=h;refine ⟨a,b,c,?_,k2⟩;rw [k1];unfold fmC;rw [if_neg h0,if_neg h1];try rfl)
 clear HF0;by_cases ho:d.org=0
 ·have ho':(d.org == 0)=true:=by simpa using ho
  rcases (by omega:d.fmt<0∨0≤d.fmt) with hl|hl
  ·skip
   have hq:R=false:=by rw [←HR.out];simp [Zp];omega
   have HQ:=Hd hq;clear hq;go_enter Tryz.func108,Tryz.ntmps108
   go_wp2_with (first|((with_reducible refine Gl 27 1 ?_);refine Lr rfl 27 _ rfl w.heap.size rfl 27 (dC d).toArray (0,0) _ HB.out Tryz.underlying27 rfl (by kernel_rfl) ?_)|(go_at_call 135;refine HF.out.mono ?_;rintro e w2 ⟨a,b,c,rfl,hb⟩;have HS:=Hd (Ei (d:=d) #[.func (.func 177) #[] #[],.func (.func 178) #[] #[],.func a b c,.int .i64 32,.func (.func 176) #[] #[]] hb);have HN:=Hd fun old=>Blk.new w2 211 old;have HSR:=Hd fun old=>U1 w2 old #[.func (.func 177) #[] #[],.func (.func 178) #[] #[],.func a b c,.int .i64 32,.func (.func 176) #[] #[]] 211;have c1:=(HS.out.b1.cell 1).trans (show _=some (Value.int .i64 d.org) from rfl);have c2:=(HS.out.b1.cell 2).trans (show _=some (Value.int .i64 d.fmt) from rfl);have c3:=(HS.out.b1.cell 3).trans (show _=some (Value.int .i64 d.len) from rfl);have c4:=(HS.out.b1.cell 4).trans (show _=some (Value.int .i64 d.blk) from rfl);have e0:=(HS.out.b2.cell 0).trans (show _=some (.func (.func 177) #[] #[]:Value) from rfl);have e3:=(HS.out.b2.cell 3).trans (show _=some (Value.int .i64 32) from rfl);clear hb)|((with_reducible refine Gt 211 3 ?_);refine Lt rfl 211 _ _ rfl w2.heap.size #[.func (.func 177) #[] #[],.func (.func 178) #[] #[],.func a b c,.int .i64 32,.func (.func 176) #[] #[]] rfl rfl 211 _ (HN.out _) (by kernel_rfl) rfl (by simp [Value.oneCell']) ?_;rw [HSR.out]))
   go_ret;exact ⟨by rw [HQ.out];first|rfl|(simp;omega),HS.out.be⟩
  rcases (by omega:2<d.fmt∨d.fmt≤2) with hu|hu
  ·skip
   have hq:R=false:=by rw [←HR.out];simp [Zp];omega
   have HQ:=Hd hq;clear hq;go_enter Tryz.func108,Tryz.ntmps108
   go_wp2_with (first|((with_reducible refine Gl 27 1 ?_);refine Lr rfl 27 _ rfl w.heap.size rfl 27 (dC d).toArray (0,0) _ HB.out Tryz.underlying27 rfl (by kernel_rfl) ?_)|(go_at_call 135;refine HF.out.mono ?_;rintro e w2 ⟨a,b,c,rfl,hb⟩;have HS:=Hd (Ei (d:=d) #[.func (.func 177) #[] #[],.func (.func 178) #[] #[],.func a b c,.int .i64 32,.func (.func 176) #[] #[]] hb);have HN:=Hd fun old=>Blk.new w2 211 old;have HSR:=Hd fun old=>U1 w2 old #[.func (.func 177) #[] #[],.func (.func 178) #[] #[],.func a b c,.int .i64 32,.func (.func 176) #[] #[]] 211;have c1:=(HS.out.b1.cell 1).trans (show _=some (Value.int .i64 d.org) from rfl);have c2:=(HS.out.b1.cell 2).trans (show _=some (Value.int .i64 d.fmt) from rfl);have c3:=(HS.out.b1.cell 3).trans (show _=some (Value.int .i64 d.len) from rfl);have c4:=(HS.out.b1.cell 4).trans (show _=some (Value.int .i64 d.blk) from rfl);have e0:=(HS.out.b2.cell 0).trans (show _=some (.func (.func 177) #[] #[]:Value) from rfl);have e3:=(HS.out.b2.cell 3).trans (show _=some (Value.int .i64 32) from rfl);clear hb)|((with_reducible refine Gt 211 3 ?_);refine Lt rfl 211 _ _ rfl w2.heap.size #[.func (.func 177) #[] #[],.func (.func 178) #[] #[],.func a b c,.int .i64 32,.func (.func 176) #[] #[]] rfl rfl 211 _ (HN.out _) (by kernel_rfl) rfl (by simp [Value.oneCell']) ?_;rw [HSR.out]))
   go_ret;exact ⟨by rw [HQ.out];first|rfl|(simp;omega),HS.out.be⟩
  cases hv:svB d.len d.blk with
  |false=>
   have HV:=Hd hv;have hq:R=false:=by rw [←HR.out];simp [Zp,Jo,h0,h1,hv]
   have HQ:=Hd hq;clear hq;go_enter Tryz.func108,Tryz.ntmps108
   go_wp2_with (first|((with_reducible refine Gl 27 1 ?_);refine Lr rfl 27 _ rfl w.heap.size rfl 27 (dC d).toArray (0,0) _ HB.out Tryz.underlying27 rfl (by kernel_rfl) ?_)|(go_at_call 135;refine HF.out.mono ?_;rintro e w2 ⟨a,b,c,rfl,hb⟩;have HS:=Hd (Ei (d:=d) #[.func (.func 177) #[] #[],.func (.func 178) #[] #[],.func a b c,.int .i64 32,.func (.func 176) #[] #[]] hb);have HN:=Hd fun old=>Blk.new w2 211 old;have HSR:=Hd fun old=>U1 w2 old #[.func (.func 177) #[] #[],.func (.func 178) #[] #[],.func a b c,.int .i64 32,.func (.func 176) #[] #[]] 211;have c1:=(HS.out.b1.cell 1).trans (show _=some (Value.int .i64 d.org) from rfl);have c2:=(HS.out.b1.cell 2).trans (show _=some (Value.int .i64 d.fmt) from rfl);have c3:=(HS.out.b1.cell 3).trans (show _=some (Value.int .i64 d.len) from rfl);have c4:=(HS.out.b1.cell 4).trans (show _=some (Value.int .i64 d.blk) from rfl);have e0:=(HS.out.b2.cell 0).trans (show _=some (.func (.func 177) #[] #[]:Value) from rfl);have e3:=(HS.out.b2.cell 3).trans (show _=some (Value.int .i64 32) from rfl);clear hb)|((with_reducible refine Gt 211 3 ?_);refine Lt rfl 211 _ _ rfl w2.heap.size #[.func (.func 177) #[] #[],.func (.func 178) #[] #[],.func a b c,.int .i64 32,.func (.func 176) #[] #[]] rfl rfl 211 _ (HN.out _) (by kernel_rfl) rfl (by simp [Value.oneCell']) ?_;rw [HSR.out])|(go_at_call 177;refine (Ys _ _ _).mono ?_;rintro e w4 ⟨rfl,rfl⟩;rw [HV.out]))
   go_ret;exact ⟨by rw [HQ.out];first|rfl|(simp;omega),HS.out.be⟩
  |true=>
   have HV:=Hd hv;rcases (by omega:d.blk<32∨32≤d.blk) with h32|h32
   ·skip
    have hq:R=false:=by rw [←HR.out];simp [Zp,seqL,h0,h1];omega
    have HQ:=Hd hq;clear hq;go_enter Tryz.func108,Tryz.ntmps108
    go_wp2_with (first|((with_reducible refine Gl 27 1 ?_);refine Lr rfl 27 _ rfl w.heap.size rfl 27 (dC d).toArray (0,0) _ HB.out Tryz.underlying27 rfl (by kernel_rfl) ?_)|(go_at_call 135;refine HF.out.mono ?_;rintro e w2 ⟨a,b,c,rfl,hb⟩;have HS:=Hd (Ei (d:=d) #[.func (.func 177) #[] #[],.func (.func 178) #[] #[],.func a b c,.int .i64 32,.func (.func 176) #[] #[]] hb);have HN:=Hd fun old=>Blk.new w2 211 old;have HSR:=Hd fun old=>U1 w2 old #[.func (.func 177) #[] #[],.func (.func 178) #[] #[],.func a b c,.int .i64 32,.func (.func 176) #[] #[]] 211;have c1:=(HS.out.b1.cell 1).trans (show _=some (Value.int .i64 d.org) from rfl);have c2:=(HS.out.b1.cell 2).trans (show _=some (Value.int .i64 d.fmt) from rfl);have c3:=(HS.out.b1.cell 3).trans (show _=some (Value.int .i64 d.len) from rfl);have c4:=(HS.out.b1.cell 4).trans (show _=some (Value.int .i64 d.blk) from rfl);have e0:=(HS.out.b2.cell 0).trans (show _=some (.func (.func 177) #[] #[]:Value) from rfl);have e3:=(HS.out.b2.cell 3).trans (show _=some (Value.int .i64 32) from rfl);clear hb)|((with_reducible refine Gt 211 3 ?_);refine Lt rfl 211 _ _ rfl w2.heap.size #[.func (.func 177) #[] #[],.func (.func 178) #[] #[],.func a b c,.int .i64 32,.func (.func 176) #[] #[]] rfl rfl 211 _ (HN.out _) (by kernel_rfl) rfl (by simp [Value.oneCell']) ?_;rw [HSR.out])|(go_at_call 177;refine (Ys _ _ _).mono ?_;rintro e w4 ⟨rfl,rfl⟩;rw [HV.out]))
    go_ret;exact ⟨by rw [HQ.out];first|rfl|(simp;omega),HS.out.be⟩
   ·skip
    have hq:R=true:=by rw [←HR.out];simp [Zp,Jo,seqL,h0,h1,hv,ho];omega
    have HQ:=Hd hq;clear hq;go_enter Tryz.func108,Tryz.ntmps108
    go_wp2_with (first|((with_reducible refine Gl 27 1 ?_);refine Lr rfl 27 _ rfl w.heap.size rfl 27 (dC d).toArray (0,0) _ HB.out Tryz.underlying27 rfl (by kernel_rfl) ?_)|(go_at_call 135;refine HF.out.mono ?_;rintro e w2 ⟨a,b,c,rfl,hb⟩;have HS:=Hd (Ei (d:=d) #[.func (.func 177) #[] #[],.func (.func 178) #[] #[],.func a b c,.int .i64 32,.func (.func 176) #[] #[]] hb);have HN:=Hd fun old=>Blk.new w2 211 old;have HSR:=Hd fun old=>U1 w2 old #[.func (.func 177) #[] #[],.func (.func 178) #[] #[],.func a b c,.int .i64 32,.func (.func 176) #[] #[]] 211;have c1:=(HS.out.b1.cell 1).trans (show _=some (Value.int .i64 d.org) from rfl);have c2:=(HS.out.b1.cell 2).trans (show _=some (Value.int .i64 d.fmt) from rfl);have c3:=(HS.out.b1.cell 3).trans (show _=some (Value.int .i64 d.len) from rfl);have c4:=(HS.out.b1.cell 4).trans (show _=some (Value.int .i64 d.blk) from rfl);have e0:=(HS.out.b2.cell 0).trans (show _=some (.func (.func 177) #[] #[]:Value) from rfl);have e3:=(HS.out.b2.cell 3).trans (show _=some (Value.int .i64 32) from rfl);clear hb)|((with_reducible refine Gt 211 3 ?_);refine Lt rfl 211 _ _ rfl w2.heap.size #[.func (.func 177) #[] #[],.func (.func 178) #[] #[],.func a b c,.int .i64 32,.func (.func 176) #[] #[]] rfl rfl 211 _ (HN.out _) (by kernel_rfl) rfl (by simp [Value.oneCell']) ?_;rw [HSR.out])|(go_at_call 177;refine (Ys _ _ _).mono ?_;rintro e w4 ⟨rfl,rfl⟩;rw [HV.out]))
    go_ret;exact ⟨by rw [HQ.out];first|rfl|(simp;omega),HS.out.be⟩
 ·have ho':(d.org == 0)=false:=by simpa using ho
  have hq:R=false:=by rw [←HR.out];simp [Zp,ho]
  have HQ:=Hd hq;clear hq;go_enter Tryz.func108,Tryz.ntmps108
  go_wp2_with (first|((with_reducible refine Gl 27 1 ?_);refine Lr rfl 27 _ rfl w.heap.size rfl 27 (dC d).toArray (0,0) _ HB.out Tryz.underlying27 rfl (by kernel_rfl) ?_)|(go_at_call 135;refine HF.out.mono ?_;rintro e w2 ⟨a,b,c,rfl,hb⟩;have HS:=Hd (Ei (d:=d) #[.func (.func 177) #[] #[],.func (.func 178) #[] #[],.func a b c,.int .i64 32,.func (.func 176) #[] #[]] hb);have HN:=Hd fun old=>Blk.new w2 211 old;have HSR:=Hd fun old=>U1 w2 old #[.func (.func 177) #[] #[],.func (.func 178) #[] #[],.func a b c,.int .i64 32,.func (.func 176) #[] #[]] 211;have c1:=(HS.out.b1.cell 1).trans (show _=some (Value.int .i64 d.org) from rfl);have c2:=(HS.out.b1.cell 2).trans (show _=some (Value.int .i64 d.fmt) from rfl);have c3:=(HS.out.b1.cell 3).trans (show _=some (Value.int .i64 d.len) from rfl);have c4:=(HS.out.b1.cell 4).trans (show _=some (Value.int .i64 d.blk) from rfl);have e0:=(HS.out.b2.cell 0).trans (show _=some (.func (.func 177) #[] #[]:Value) from rfl);have e3:=(HS.out.b2.cell 3).trans (show _=some (Value.int .i64 32) from rfl);clear hb)|((with_reducible refine Gt 211 3 ?_);refine Lt rfl 211 _ _ rfl w2.heap.size #[.func (.func 177) #[] #[],.func (.func 178) #[] #[],.func a b c,.int .i64 32,.func (.func 176) #[] #[]] rfl rfl 211 _ (HN.out _) (by kernel_rfl) rfl (by simp [Value.oneCell']) ?_;rw [HSR.out]))
  go_ret;exact ⟨by rw [HQ.out];first|rfl|(simp;omega),HS.out.be⟩
def Ka (d:DSet):Bool:=decide (1≤d.id)&&decide (d.id≤1099511627776)&&(if d.org=0 then Zp d else Ep d)
theorem described_any (d:DSet) (w:World):Calls prog 82 #[.agg (dC d).toArray] w fun e w'=>e = .returned (.bool (Ka d))∧Below w.heap.size w w':=by
 have HB:=Hd (Blk.new w 27 (dC d).toArray);have HX:=Hd ((Bf w.heap.size w).alloc (Le _) (.cells (dC d).toArray 27));have c0:(w.alloc (.cells (dC d).toArray 27)).cell? ⟨w.heap.size,0,none⟩=some (.int .i64 d.id):=(HB.out.cell 0).trans rfl;have c1:(w.alloc (.cells (dC d).toArray 27)).cell? ⟨w.heap.size,1,none⟩=some (.int .i64 d.org):=(HB.out.cell 1).trans rfl;obtain ⟨R,hR⟩:∃ R,Ka d=R:=⟨_,rfl⟩
 rw [hR];have HR:=Hd hR;clear hR;rcases (by omega:d.id<1∨1≤d.id) with h1|h1
 ·have HQ:=Hd (show R=false by rw [←HR.out];simp [Ka];omega)
  go_enter Tryz.func82,Tryz.ntmps82;go_wp2;go_ret;exact ⟨by rw [HQ.out];rfl,HX.out⟩
 rcases (by omega:1099511627776<d.id∨d.id≤1099511627776) with h2|h2
 ·have HQ:=Hd (show R=false by rw [←HR.out];simp [Ka];omega)
  go_enter Tryz.func82,Tryz.ntmps82;go_wp2;go_ret;exact ⟨by rw [HQ.out];rfl,HX.out⟩
 by_cases ho:d.org=0
 ·have HQ:=Hd (show R=Zp d by rw [←HR.out];simp [Ka,ho,h1,h2])
  have HC:=Hd (Jp d (w.alloc (.cells (dC d).toArray 27)));have ho':(d.org == 0)=true:=by simpa using ho
  clear ho;go_enter Tryz.func82,Tryz.ntmps82;go_wp2_with (first|((with_reducible refine Gl 27 1 ?_);refine Lr rfl 27 _ rfl w.heap.size rfl 27 (dC d).toArray (0,0) _ HB.out Tryz.underlying27 rfl (by kernel_rfl) ?_)|(go_at_call 108;refine HC.out.mono ?_;rintro e w2 ⟨rfl,hb⟩;have HB2:=Hd (HX.out.trans (hb.mono (by simp)));clear hb));go_ret;exact ⟨by rw [HQ.out];rfl,HB2.out⟩
 ·have HQ:=Hd (show R=Ep d by rw [←HR.out];simp [Ka,ho,h1,h2])
  have HC:=Hd (Jv d (w.alloc (.cells (dC d).toArray 27)));have ho':(d.org == 0)=false:=by simpa using ho
  clear ho;go_enter Tryz.func82,Tryz.ntmps82;go_wp2_with (first|((with_reducible refine Gl 27 1 ?_);refine Lr rfl 27 _ rfl w.heap.size rfl 27 (dC d).toArray (0,0) _ HB.out Tryz.underlying27 rfl (by kernel_rfl) ?_)|(go_at_call 109;refine HC.out.mono ?_;rintro e w2 ⟨rfl,hb⟩;have HB2:=Hd (HX.out.trans (hb.mono (by simp)));clear hb));go_ret;exact ⟨by rw [HQ.out];rfl,HB2.out⟩
def slotOk (k:ByteArray):Bool:=(Xv k).2&&decide (1≤(Xv k).1)&&decide ((Xv k).1≤65536)
def possB (d:DSet) (k:ByteArray):Bool:=if d.org=3 then ((k.size:Int) == d.kln) else slotOk k
theorem possible_any (d:DSet) (k:ByteArray) (w:World):Calls prog 161 #[.agg (dC d).toArray,.string k] w fun e w'=>e = .returned (.bool (possB d k))∧Below w.heap.size w w':=by
 have HB:=Hd (Blk.new w 27 (dC d).toArray);have HX:=Hd ((Bf w.heap.size w).alloc (Le _) (.cells (dC d).toArray 27));have c1:(w.alloc (.cells (dC d).toArray 27)).cell? ⟨w.heap.size,1,none⟩=some (.int .i64 d.org):=(HB.out.cell 1).trans rfl;have c6:(w.alloc (.cells (dC d).toArray 27)).cell? ⟨w.heap.size,6,none⟩=some (.int .i64 d.kln):=(HB.out.cell 6).trans rfl;unfold possB;by_cases ho:d.org=3
 ·rw [if_pos ho]
  have ho':(d.org == 3)=true:=by simpa using ho
  clear ho;go_enter Tryz.func161,Tryz.ntmps161;go_wp2;go_ret;exact ⟨rfl,HX.out⟩
 ·rw [if_neg ho]
  have ho':(d.org == 3)=false:=by simpa using ho
  have HC:=Hd (Fi k (w.alloc (.cells (dC d).toArray 27)));unfold slotOk;generalize Xv k=nk at HC ⊢;obtain ⟨n,z⟩:=nk;clear ho;simp only at HC ⊢;cases z with
  |false=>
   go_enter Tryz.func161,Tryz.ntmps161;go_wp2_with (go_at_call 117;refine HC.out.mono ?_;rintro e w2 ⟨rfl,hb⟩;have HB2:=Hd (HX.out.trans (hb.mono (by simp)));clear hb);go_ret;exact ⟨rfl,HB2.out⟩
  |true=>
   rcases (by omega:n<1∨1≤n) with h1|h1
   ·go_enter Tryz.func161,Tryz.ntmps161
    go_wp2_with (go_at_call 117;refine HC.out.mono ?_;rintro e w2 ⟨rfl,hb⟩;have HB2:=Hd (HX.out.trans (hb.mono (by simp)));clear hb);go_ret;exact ⟨by simp;omega,HB2.out⟩
   ·go_enter Tryz.func161,Tryz.ntmps161
    go_wp2_with (go_at_call 117;refine HC.out.mono ?_;rintro e w2 ⟨rfl,hb⟩;have HB2:=Hd (HX.out.trans (hb.mono (by simp)));clear hb);go_ret;exact ⟨by simp;omega,HB2.out⟩
end
section
set_option maxRecDepth 100000
set_option maxHeartbeats 1000000
open Go.RowKit
theorem Eg (W:World) (g n c:Nat) (t:TypeId) (xs:List Int) (hb:Blk W g t (xs.map (Value.int .u8)).toArray) (hx:xs.length=n):(convert 175 9 (.slice (some ⟨g,0,none⟩) n c)).run prog W = .ok (.string (strOfNums xs)) W:=
 run_convert_bytes_arg W 175 5 (by kernel_rfl) (by kernel_rfl) g 0 n c xs hx (fun i hi=>by
  obtain ⟨v,hv⟩:∃ v,xs[i]? =some v:=⟨_,List.getElem?_eq_getElem (by omega)⟩
  rw [Nat.zero_add,hb.cell i,Ga,List.getElem?_map,hv,List.getD_eq_getElem?_getD,hv];rfl) 9 (by kernel_rfl)
theorem word_any (n:Int) (w:World) (h0:0≤n) (h1:n≤65535):Calls prog 278 #[.int .i64 n] w fun e w' => ∃ s:ByteArray,e = .returned (.string s)∧s.size=4∧Below w.heap.size w w':=by
 have hcv:=Eg (w.alloc (.cells #[.int .u8 (n / 256),.int .u8 (n % 256),.int .u8 0,.int .u8 0] 5)) w.heap.size 4 4 5 [n / 256,n % 256,0,0] (Blk.new w _ _) rfl;have hz:(strOfNums [n / 256,n % 256,0,0]).size=4:=by rw [strOfNums_size];rfl
 have HZ:=Hd hz;generalize strOfNums [n / 256,n % 256,0,0]=s at hcv HZ;clear hz;go_enter Tryz.func278,Tryz.ntmps278;go_wp2;go_ret;exact ⟨s,rfl,HZ.out,(Bf _ _).alloc (Le _) _⟩
theorem vform_any (r:ByteArray) (w:World) (hr:r.size≤2000):Calls prog 229 #[.string r] w fun e w' => ∃ s:ByteArray,e = .returned (.string s)∧s.size=4+r.size∧Below w.heap.size w w':=by
 have HC:=Hd (word_any (4+(r.size:Int)) w (by omega) (by omega));go_enter Tryz.func229,Tryz.ntmps229;go_wp2_with (go_at_call 278;refine HC.out.mono ?_;rintro e w2 ⟨s,rfl,hs,hb⟩;have HS:=Hd hs;have HB:=Hd hb;have hsz:¬ (9223372036854775807<s.size+r.size):=(by omega);clear hs hb);go_ret;exact ⟨_,rfl,by have:=HS.out;rw [ByteArray.size_append];omega,HB.out⟩
theorem vwhole_any (r:ByteArray) (w:World) (hr:r.size≤2000):Calls prog 230 #[.string r] w fun e w' => ∃ s:ByteArray,e = .returned (.string s)∧s.size=4+r.size∧Below w.heap.size w w':=by
 have HC:=Hd (word_any (4+(r.size:Int)) w (by omega) (by omega));go_enter Tryz.func230,Tryz.ntmps230;go_wp2_with (go_at_call 278;refine HC.out.mono ?_;rintro e w2 ⟨s,rfl,hs,hb⟩;have HS:=Hd hs;have HB:=Hd hb;have hsz:¬ (9223372036854775807<s.size+r.size):=(by omega);clear hs hb);go_ret;exact ⟨_,rfl,by have:=HS.out;rw [ByteArray.size_append];omega,HB.out⟩
theorem swhole_any (r:ByteArray) (w:World) (hr:r.size≤2000):Calls prog 280 #[.string r] w fun e w' => ∃ s:ByteArray,e = .returned (.string s)∧s.size=4+r.size∧Below w.heap.size w w':=by
 have HC:=Hd (word_any (4+(r.size:Int)) w (by omega) (by omega));go_enter Tryz.func280,Tryz.ntmps280;go_wp2_with (go_at_call 278;refine HC.out.mono ?_;rintro e w2 ⟨s,rfl,hs,hb⟩;have HS:=Hd hs;have HB:=Hd hb;have hsz:¬ (9223372036854775807<s.size+r.size):=(by omega);clear hs hb);go_ret;exact ⟨_,rfl,by have:=HS.out;rw [ByteArray.size_append];omega,HB.out⟩
theorem most_any (l b:Int) (w:World) (hv:fvB l b=true):Calls prog 226 #[.int .i64 l,.int .i64 b] w fun e w' => ∃ q:Int,e = .returned (.int .i64 q)∧1≤q∧w=w':=by
 have HV:=Hd (Yu l b w);rw [hv] at HV;have h:1≤l∧l≤1000∧l≤b∧b≤1024:=by unfold fvB at hv;simp at hv;omega
 obtain ⟨h1,h2,h3,h4⟩:=h;clear hv;go_enter Tryz.func226,Tryz.ntmps226;go_wp2_with (go_at_call 168;refine HV.out.mono ?_;rintro e w2 ⟨rfl,rfl⟩);go_ret;exact ⟨b / l,rfl,(Int.le_ediv_iff_mul_le (by omega)).2 (by omega),rfl⟩
theorem join1_any (g:Nat) (s:ByteArray) (w:World) (hg:w.cell? ⟨g,0,none⟩=some (.string s)):Calls prog 227 #[.slice (some ⟨g,0,none⟩) 1 1,.string ⟨#[]⟩] w fun e w'=>e = .returned (.string s)∧w=w':=by
 go_enter Tryz.func227,Tryz.ntmps227;go_wp2;go_ret;exact ⟨rfl,rfl⟩
theorem Z3:(prog.info? 9).map (fun i=>(i.zero,i.size,i.bytes))=some (some (.string ⟨#[]⟩),1,16):=by kernel_rfl
def PkG (w:World) (e:Ending) (w':World):Prop:=∃ A n c L,e = .returned (.tuple #[.slice A n c,.int .i64 0])∧Sl Ug 1 w' w'.heap.size A n c L∧n≤100∧(∀ s∈L,s.size≤2000)∧Below w.heap.size w w'
theorem fixPack_any (l b:Int) (g:Nat) (r:ByteArray) (w:World) (hv:fvB l b=true) (hg:Blk w g 9 #[.string r]) (hr:(r.size:Int)=l):
  Calls prog 169 #[.int .i64 l,.int .i64 b,.slice (some ⟨g,0,none⟩) 1 1] w (PkG w):=by
 obtain ⟨i0,hi0,hz0,hz1,hz2⟩:=info_parts Z3;have HV:=Hd (Yu l b w);rw [hv] at HV;have HM:=Hd (most_any l b w hv);have c0:=(hg.cell 0).trans (show _=some (Value.string r) from rfl);have HJ:=Hd (join1_any g r w c0);have hrs:r.size≤2000:=by unfold fvB at hv;simp at hv;omega
 have HRS:=Hd hrs;have HRD:=Hd (Va w [.string r] 9 1 1 rfl);clear hv hg hrs;subst hr;go_enter Tryz.func169,Tryz.ntmps169;go_wp2_with (go_at_call 168;refine HV.out.mono ?_;rintro e w2 ⟨rfl,rfl⟩);refine Lu 2 ?_;rw [Rs];go_wp2;rw [Rs];go_wp2_with (go_at_call 226;refine HM.out.mono ?_;rintro e w2 ⟨q,rfl,hq,rfl⟩);rcases (by omega:q=1∨1<q) with hq1|hq1
 ·subst hq1
  refine Lu 2 ?_;rw [Rs];go_wp2_with (first|(go_at_call 227;refine HJ.out.mono ?_;rintro e w2 ⟨rfl,rfl⟩)|(at_builtin;go_must (refine U4 _ rfl _ _ 150 rfl w.heap.size 9 i0 _ 1 16 Tryz.underlying150 hi0 hz0 hz1 hz2 rfl (by decide) (.slice none 0 0) 0 [] rfl ⟨rfl,.inl ⟨rfl,rfl⟩⟩ (w.heap.size+1) (some ⟨w.heap.size,0,none⟩) 1 1 [.string r] rfl HRD.out (Vc r) (by decide) (by decide) (by simp) ?_;intro v' w3 hown hgr _;have HOWN:=Hd hown;have HGR:Hid (World.grownBy _ w3 (Value.slice none 0 0).ownBlock):=Hd hgr;clear hown hgr)));rw [Rs];go_wp2
  go_ret2
  obtain ⟨A',c',rfl,_⟩:=Ub HOWN.out;exact ⟨A',1,c',[r],rfl,Sl.of_own (f:=Ug) (fun _=>rfl) (by decide) HOWN.out,by decide,fun s hs=>by simp at hs;subst hs;exact HRS.out,((Bf w.heap.size w).alloc (Le _) _).grown HGR.out (by simp) (by intro k hk;simp [Value.ownBlock] at hk)⟩
 ·have h2:¬ (q≤1):=by omega
  have h3:¬ (q<1):=by omega
  refine Lu 2 ?_;rw [Rs];go_wp2_with (first|(go_at_call 227;refine HJ.out.mono ?_;rintro e w2 ⟨rfl,rfl⟩)|(at_builtin;go_must (refine U4 _ rfl _ _ 150 rfl w.heap.size 9 i0 _ 1 16 Tryz.underlying150 hi0 hz0 hz1 hz2 rfl (by decide) (.slice none 0 0) 0 [] rfl ⟨rfl,.inl ⟨rfl,rfl⟩⟩ (w.heap.size+1) (some ⟨w.heap.size,0,none⟩) 1 1 [.string r] rfl HRD.out (Vc r) (by decide) (by decide) (by simp) ?_;intro v' w3 hown hgr _;have HOWN:=Hd hown;have HGR:Hid (World.grownBy _ w3 (Value.slice none 0 0).ownBlock):=Hd hgr;clear hown hgr)));rw [Rs];go_wp2
  go_ret2
  obtain ⟨A',c',rfl,_⟩:=Ub HOWN.out;exact ⟨A',1,c',[r],rfl,Sl.of_own (f:=Ug) (fun _=>rfl) (by decide) HOWN.out,by decide,fun s hs=>by simp at hs;subst hs;exact HRS.out,((Bf w.heap.size w).alloc (Le _) _).grown HGR.out (by simp) (by intro k hk;simp [Value.ownBlock] at hk)⟩
end
section
set_option maxRecDepth 100000
set_option maxHeartbeats 1000000
open Go.RowKit
theorem varPack_any (l b:Int) (g:Nat) (r:ByteArray) (w:World) (hv:vvB l b=true) (hg:Blk w g 9 #[.string r]) (hr:(r.size:Int)≤l):
  Calls prog 174 #[.int .i64 l,.int .i64 b,.slice (some ⟨g,0,none⟩) 1 1] w (PkG w):=by
 obtain ⟨i0,hi0,hz0,hz1,hz2⟩:=info_parts Z3;have HV:=Hd (E4 l b w);rw [hv] at HV;have c0:=(hg.cell 0).trans (show _=some (Value.string r) from rfl);have hrs:r.size≤1000:=by unfold vvB at hv;simp at hv;omega
 have HF:=Hd (vform_any r w (by omega));have HRS:=Hd hrs;have hlt:¬ (l<(r.size:Int)):=by omega
 clear hv hg hr;go_enter Tryz.func174,Tryz.ntmps174;go_wp2_with (go_at_call 173;refine HV.out.mono ?_;rintro e w2 ⟨rfl,rfl⟩);refine Lu 2 ?_;rw [Rs];go_wp2;rw [Rs];go_wp2;refine Lu 2 ?_;rw [Rs];go_wp2_with (go_at_call 229;refine HF.out.mono ?_;rintro e w2 ⟨f,rfl,hf,hb⟩;have HFS:=Hd hf;have HB:=Hd hb;have hfz:=(Im (d:=f) (by omega));obtain ⟨q1,q2⟩:=hfz;have hsz:¬ (9223372036854775807<f.size):=(by omega);have hnn:=nil_app f;have HW:=Hd (vwhole_any f w2 (by omega));clear hb hf);rw [Rs]
 go_wp2_with (first|(go_at_call 230;refine HW.out.mono ?_;rintro e w3 ⟨f2,rfl,hf2,hb2⟩;have HF2:=Hd hf2;have HB2:=Hd (U0 HB.out hb2 HB.out.size);have HRD:=Hd (Va w3 [.string f2] 9 1 1 rfl);clear hb2 hf2)|(at_builtin;go_must (refine U4 _ rfl _ _ 150 rfl w.heap.size 9 i0 _ 1 16 Tryz.underlying150 hi0 hz0 hz1 hz2 rfl (by decide) (.slice none 0 0) 0 [] rfl ⟨rfl,.inl ⟨rfl,rfl⟩⟩ (w3.heap.size+1) (some ⟨w3.heap.size,0,none⟩) 1 1 [.string f2] rfl HRD.out (Vc f2) (by decide) (by decide) (by have:=HB2.out.size;simp;omega) ?_;intro v' w4 hown hgr _;have HOWN:=Hd hown;have HGR:Hid (World.grownBy _ w4 (Value.slice none 0 0).ownBlock):=Hd hgr;clear hown hgr)))
 go_ret2
 obtain ⟨A',c',rfl,_⟩:=Ub HOWN.out;exact ⟨A',1,c',[f2],rfl,Sl.of_own (f:=Ug) (fun _=>rfl) (by decide) HOWN.out,by decide,fun s hs=>by simp at hs;subst hs;have:=HF2.out;have:=HFS.out;have:=HRS.out;omega,(HB2.out.alloc HB2.out.size _).grown HGR.out (by have:=HB2.out.size;simp;omega) (by intro k hk;simp [Value.ownBlock] at hk)⟩
def Cod (w:World):Prop:=∀ (i:Nat) (z:Bool),[false,false,false,true,true,false,true,true][i]? =some z→w.cell? ⟨1,i,none⟩=some (.bool z)
theorem Cod.next {w w':World} {B:Nat} (h:Cod w) (hb:Below B w w') (hB:1<B):Cod w':=fun i z hz=>(hb.cell (p:=⟨_,i,none⟩) hB).trans (h i z hz)
theorem Cod.lt {w:World} (h:Cod w):1<w.heap.size:=Is (h 0 false rfl)
theorem Cod.after {w w':World} (h:Cod w) (hb:Below w.heap.size w w'):Cod w':=h.next hb h.lt
theorem parts_any (r:ByteArray) (w:World):Calls prog 279 #[.string r] w fun e w'=>e = .returned (.func (.func 301) #[] #[.pointer (some ⟨w.heap.size+2,0,none⟩),.pointer (some ⟨w.heap.size,0,none⟩),.pointer (some ⟨w.heap.size+1,0,none⟩)]) ∧
  w'=((w.alloc (.cells #[.string r] 9)).alloc (.cells #[.bool false] 4)).alloc (.cells #[.bool false] 4):=by
 go_enter Tryz.func279,Tryz.ntmps279;go_wp2;go_ret;exact ⟨rfl,rfl⟩
end
end Go.Proofs.YtapanepkfbamhaaGreatDoor
