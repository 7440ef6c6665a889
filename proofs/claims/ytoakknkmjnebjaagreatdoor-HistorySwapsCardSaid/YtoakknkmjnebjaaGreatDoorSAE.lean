/- Of HistorySwaps. -/
import Derived.Test.YtoakknkmjnebjaaGreatDoorSAD
import Derived.Laws.EntriesVeiled
import Derived.Deep.DeepCutAuto
import Derived.Deep.WholeRow
import Derived.Great.BuildSlice
namespace Go.Proofs.YtoakknkmjnebjaaGreatDoor
open Tryz (prog)
set_option maxRecDepth 100000
set_option maxHeartbeats 2000000
open Go.RowKit
def rdB (x:Rdd):Bool:=(decide (x.kind=0) || decide (x.kind=1))&&Yr x.id&&decide (x.key.size≤32)&&(decide (x.code=0) || (decide (x.ak.size=0)&&decide (x.ar.size=0)&&decide (x.code=6)))
theorem ba_nil {t:Bz} (h:t.size=0):t=⟨#[]⟩:=by
 obtain ⟨a⟩:=t;simp [ByteArray.size] at h;simp [h]
theorem nil_iff (t:Bz):t.size=0↔t.toList = []:=by
 constructor
 ·intro h;rw [ba_nil h,Uv]
 ·intro h;rw [Uv] at h;simpa using congrArg List.length h
theorem Hg (t:Bz):decide (t.size=0)=decide (t.toList = []):=decide_eq_decide.2 (nil_iff t)
theorem validRead_any (x:Rdd) (w:Wd):Calls prog 62 #[.agg #[.int .i64 x.kind,.int .i64 x.id,.string x.key,.string x.ak,.string x.ar,.int .i64 x.code]] w fun e w'=>e = .returned (.bool (rdB x))∧Below w.heap.size w w':=by
 obtain ⟨k,id,key,ak,ar,code⟩:=x;simp only;have HN:Hid (∀ W:Wd,Calls prog 56 #[.int .i64 id] W fun e w'=>e = .returned (.bool (Yr id))∧W=w'):=Hd fun W=>K7 id W
 by_cases hk:k=0∨k=1
 ·have hkd:(decide (k=0) || decide (k=1))=true:=by simpa using hk
  have e0:rdB ⟨k,id,key,ak,ar,code⟩=(Yr id&&decide (key.size≤32)&&(decide (code=0) || (decide (ak.size=0)&&decide (ar.size=0)&&decide (code=6)))):=by
   simp only [rdB,hkd,Bool.true_and]
  rw [e0];have T:∀ W:Wd,True:=fun _=>trivial
  cases hn:Yr id with
  |false=>
   rw [hn] at HN;simp only [Bool.false_and];clear hn e0 hkd T;rcases hk with rfl|rfl
   all_goals
    go_enter Tryz.func62,Tryz.ntmps62;go_wp2_with (go_at_call 56;refine (HN.out _).mono ?_;rintro e w' ⟨rfl,rfl⟩);go_ret;exact ⟨rfl,(Bf _ _).alloc (Le _) _⟩
  |true=>
   rw [hn] at HN;simp only [Bool.true_and];clear hn e0 hkd T;by_cases h32:key.size≤32
   ·simp only [h32,decide_true,Bool.true_and];by_cases hc:code=0
    ·subst hc;simp only [decide_true,Bool.true_or];rcases hk with rfl|rfl
     all_goals
      go_enter Tryz.func62,Tryz.ntmps62;go_wp2_with (go_at_call 56;refine (HN.out _).mono ?_;rintro e w' ⟨rfl,rfl⟩);go_ret;exact ⟨rfl,(Bf _ _).alloc (Le _) _⟩
    ·have hc0:(code == 0)=false:=by simpa using hc
     obtain ⟨R,hR⟩:∃ R:Bool,(decide (code=0) || (decide (ak.size=0)&&decide (ar.size=0)&&decide (code=6)))=R:=⟨_,rfl⟩
     rw [hR]
     have hR:(decide (ak.toList = [])&&decide (ar.toList = [])&&decide (code=6))=R:=by
      rw [←hR,Hg ak,Hg ar];simp [hc]
     have HR:=Hd hR;clear hR hc;rcases hk with rfl|rfl
     all_goals
      go_enter Tryz.func62,Tryz.ntmps62;go_wp2_with (go_at_call 56;refine (HN.out _).mono ?_;rintro e w' ⟨rfl,rfl⟩)
      all_goals
       go_ret;refine ⟨?_,(Bf _ _).alloc (Le _) _⟩;rw [←HR.out]
       first
        |(show Ending.returned (.bool true)=_;congr 2;simp_all;done)
        |(show Ending.returned (.bool false)=_;congr 2;simp_all;done)
   ·simp only [h32,decide_false,Bool.false_and];have h33:32<key.size:=by omega
    rcases hk with rfl|rfl
    all_goals
     go_enter Tryz.func62,Tryz.ntmps62;go_wp2_with (go_at_call 56;refine (HN.out _).mono ?_;rintro e w' ⟨rfl,rfl⟩);go_ret;exact ⟨rfl,(Bf _ _).alloc (Le _) _⟩
 ·have k0:(k == 0)=false:=by simp;omega
  have k1:(k == 1)=false:=by simp;omega
  have k2:(k != 0)=true:=by simp;omega
  have k3:(k != 1)=true:=by simp;omega
  have hkd:(decide (k=0) || decide (k=1))=false:=by simp;omega
  simp only [rdB,hkd,Bool.false_and];clear hkd hk;go_enter Tryz.func62,Tryz.ntmps62;go_wp2;go_ret;exact ⟨rfl,(Bf _ _).alloc (Le _) _⟩
theorem push_set {α:Type} (a:Array α) (x y:α):(a.push x).setIfInBounds a.size y=a.push y:=by
 apply Array.ext';simp
theorem Yp (w:Wd) (es:Array MapEntry) (c:Nat) (key:Int) (val:Value) (hf:Instr.findNow (.int .i64) (.int .i64 key) es.toList 0=some none):
  (Instr.mapUpdate 140 (.map (some w.heap.size)) (.int .i64 key) val).run prog (w.alloc (.map es c)) = .ok () (w.alloc (.map (es.push ⟨.int .i64 key,val,c⟩) (c+1))):=by
 have hb:(w.alloc (.map es c)).heap[w.heap.size]? =some (.map es c):=heap_alloc_new w _;have hc:(Instr.checkKey false 10000 3 (.int .i64 key)).run prog (w.alloc (.map es c)) = .ok () (w.alloc (.map es c)):=MapKept.run_checkKey (k:=.int .i64 key) Tryz.underlying3 (by simp [MapKept.IsKey]) false 9999
 have hs:({ w.alloc (.map es c) with heap:=(w.alloc (.map es c)).heap.setIfInBounds w.heap.size (.map (es.push ⟨.int .i64 key,val,c⟩) (c+1)) }:Wd)=w.alloc (.map (es.push ⟨.int .i64 key,val,c⟩) (c+1)):=by
  unfold World.alloc;simp only [push_set]
 simp [Instr.mapUpdate,run_underlying Tryz.underlying140,MapKept.run_getObj_map hb,hc,MapKept.run_findKey Tryz.underlying3 hf,MapKept.run_setObj_map _ hb,Result.andThen];exact hs
theorem Vk (w:Wd) (b:Nat) (es:Array MapEntry) (c:Nat) (key:Int) (v:Value) (i:Nat) (hb:w.heap[b]? =some (.map es c)) (hf:Instr.findNow (.int .i64) (.int .i64 key) es.toList 0=some (some (i,v))):
  (Instr.lookup 140 (.map (some b)) (.int .i64 key) true).run prog w = .ok (.tuple #[v,.bool true]) w:=by
 have hc:(Instr.checkKey es.isEmpty 10000 3 (.int .i64 key)).run prog w = .ok () w:=MapKept.run_checkKey (k:=.int .i64 key) Tryz.underlying3 (by simp [MapKept.IsKey]) _ 9999;simp [Instr.lookup,run_underlying Tryz.underlying140,MapKept.run_getObj_map hb,hc,MapKept.run_findKey Tryz.underlying3 hf]
theorem Eg (w:Wd) (b:Nat) (es:Array MapEntry) (c:Nat) (key:Int) (hb:w.heap[b]? =some (.map es c)) (hf:Instr.findNow (.int .i64) (.int .i64 key) es.toList 0=some none):
  (Instr.lookup 140 (.map (some b)) (.int .i64 key) true).run prog w = .ok (.tuple #[.agg #[.string ⟨#[]⟩,.int .i64 0,.int .i64 0,.int .i64 0,.int .i64 0,.bool false,.nilFunc],.bool false]) w:=by
 have hc:(Instr.checkKey es.isEmpty 10000 3 (.int .i64 key)).run prog w = .ok () w:=MapKept.run_checkKey (k:=.int .i64 key) Tryz.underlying3 (by simp [MapKept.IsKey]) _ 9999;simp [Instr.lookup,run_underlying Tryz.underlying140,MapKept.run_getObj_map hb,hc,MapKept.run_findKey Tryz.underlying3 hf]
def fE1 (b:Nat):Array MapEntry:=#[⟨.int .i64 0,.agg #[.string ⟨#[112,117,116]⟩,.int .i64 1,.int .i64 32,.int .i64 1,.int .i64 200,.bool false,.func (.func 103) #[] #[.pointer (some ⟨b,0,none⟩)]],0⟩]
def fE2 (b:Nat):Array MapEntry:=(fE1 b).push ⟨.int .i64 1,.agg #[.string ⟨#[101,114,97,115,101]⟩,.int .i64 1,.int .i64 32,.int .i64 0,.int .i64 0,.bool false,.func (.func 105) #[] #[]],1⟩
def fE3 (b:Nat):Array MapEntry:=(fE2 b).push ⟨.int .i64 2,.agg #[.string ⟨#[97,112,112,101,110,100]⟩,.int .i64 0,.int .i64 0,.int .i64 0,.int .i64 1000,.bool false,.func (.func 100) #[] #[]],2⟩
def fE4 (b:Nat):Array MapEntry:=(fE3 b).push ⟨.int .i64 3,.agg #[.string ⟨#[101,109,112,116,121]⟩,.int .i64 0,.int .i64 0,.int .i64 0,.int .i64 0,.bool false,.nilFunc],3⟩
def fE5 (b:Nat):Array MapEntry:=(fE4 b).push ⟨.int .i64 4,.agg #[.string ⟨#[99,114,101,97,116,101]⟩,.int .i64 0,.int .i64 0,.int .i64 0,.int .i64 400,.bool true,.func (.func 102) #[] #[]],4⟩
def fE6 (b:Nat):Array MapEntry:=(fE5 b).push ⟨.int .i64 5,.agg #[.string ⟨#[114,101,109,111,118,101]⟩,.int .i64 0,.int .i64 0,.int .i64 0,.int .i64 0,.bool true,.func (.func 102) #[] #[]],5⟩
def fE7 (b:Nat):Array MapEntry:=(fE6 b).push ⟨.int .i64 6,.agg #[.string ⟨#[109,111,118,101]⟩,.int .i64 0,.int .i64 0,.int .i64 0,.int .i64 400,.bool true,.func (.func 102) #[] #[]],6⟩
def fE8 (b:Nat):Array MapEntry:=(fE7 b).push ⟨.int .i64 7,.agg #[.string ⟨#[110,111,116,101]⟩,.int .i64 0,.int .i64 0,.int .i64 0,.int .i64 400,.bool true,.func (.func 102) #[] #[]],7⟩
theorem Fy (w:Wd):Calls prog 76 #[] w fun e w'=>e = .returned (.map (some (w.heap.size+3)))∧w'=(((w.alloc (.cells #[.int .i64 1,.int .i64 32] 135)).alloc (.cells #[.int .i64 0,.int .i64 400] 135)).alloc (.cells #[.func (.func 100) #[] #[]] 136)).alloc (.map (fE8 (w.heap.size+2)) 8):=by
 have hmm:=@run_makeMap prog;have aN:(((w.alloc (.cells #[.int .i64 1,.int .i64 32] 135)).alloc (.cells #[.int .i64 0,.int .i64 400] 135)).alloc (.cells #[.func (.func 100) #[] #[]] 136)).heap.size=w.heap.size+3:=by simp
 have e0:(Instr.mapUpdate 140 (.map (some (w.heap.size+3))) (.int .i64 0) (.agg #[.string ⟨#[112,117,116]⟩,.int .i64 1,.int .i64 32,.int .i64 1,.int .i64 200,.bool false,.func (.func 103) #[] #[.pointer (some ⟨w.heap.size+2,0,none⟩)]])).run prog ((((w.alloc (.cells #[.int .i64 1,.int .i64 32] 135)).alloc (.cells #[.int .i64 0,.int .i64 400] 135)).alloc (.cells #[.func (.func 100) #[] #[]] 136)).alloc (.map #[] 0)) = .ok () ((((w.alloc (.cells #[.int .i64 1,.int .i64 32] 135)).alloc (.cells #[.int .i64 0,.int .i64 400] 135)).alloc (.cells #[.func (.func 100) #[] #[]] 136)).alloc (.map (fE1 (w.heap.size+2)) 1)):=by
  have:=Yp (((w.alloc (.cells #[.int .i64 1,.int .i64 32] 135)).alloc (.cells #[.int .i64 0,.int .i64 400] 135)).alloc (.cells #[.func (.func 100) #[] #[]] 136)) #[] 0 0 (.agg #[.string ⟨#[112,117,116]⟩,.int .i64 1,.int .i64 32,.int .i64 1,.int .i64 200,.bool false,.func (.func 103) #[] #[.pointer (some ⟨w.heap.size+2,0,none⟩)]]) (by rfl);rw [aN] at this;exact this
 have e1:(Instr.mapUpdate 140 (.map (some (w.heap.size+3))) (.int .i64 1) (.agg #[.string ⟨#[101,114,97,115,101]⟩,.int .i64 1,.int .i64 32,.int .i64 0,.int .i64 0,.bool false,.func (.func 105) #[] #[]])).run prog ((((w.alloc (.cells #[.int .i64 1,.int .i64 32] 135)).alloc (.cells #[.int .i64 0,.int .i64 400] 135)).alloc (.cells #[.func (.func 100) #[] #[]] 136)).alloc (.map (fE1 (w.heap.size+2)) 1)) = .ok () ((((w.alloc (.cells #[.int .i64 1,.int .i64 32] 135)).alloc (.cells #[.int .i64 0,.int .i64 400] 135)).alloc (.cells #[.func (.func 100) #[] #[]] 136)).alloc (.map (fE2 (w.heap.size+2)) 2)):=by
  have:=Yp (((w.alloc (.cells #[.int .i64 1,.int .i64 32] 135)).alloc (.cells #[.int .i64 0,.int .i64 400] 135)).alloc (.cells #[.func (.func 100) #[] #[]] 136)) (fE1 (w.heap.size+2)) 1 1 (.agg #[.string ⟨#[101,114,97,115,101]⟩,.int .i64 1,.int .i64 32,.int .i64 0,.int .i64 0,.bool false,.func (.func 105) #[] #[]]) (by rfl);rw [aN] at this;exact this
 have e2:(Instr.mapUpdate 140 (.map (some (w.heap.size+3))) (.int .i64 2) (.agg #[.string ⟨#[97,112,112,101,110,100]⟩,.int .i64 0,.int .i64 0,.int .i64 0,.int .i64 1000,.bool false,.func (.func 100) #[] #[]])).run prog ((((w.alloc (.cells #[.int .i64 1,.int .i64 32] 135)).alloc (.cells #[.int .i64 0,.int .i64 400] 135)).alloc (.cells #[.func (.func 100) #[] #[]] 136)).alloc (.map (fE2 (w.heap.size+2)) 2)) = .ok () ((((w.alloc (.cells #[.int .i64 1,.int .i64 32] 135)).alloc (.cells #[.int .i64 0,.int .i64 400] 135)).alloc (.cells #[.func (.func 100) #[] #[]] 136)).alloc (.map (fE3 (w.heap.size+2)) 3)):=by
  have:=Yp (((w.alloc (.cells #[.int .i64 1,.int .i64 32] 135)).alloc (.cells #[.int .i64 0,.int .i64 400] 135)).alloc (.cells #[.func (.func 100) #[] #[]] 136)) (fE2 (w.heap.size+2)) 2 2 (.agg #[.string ⟨#[97,112,112,101,110,100]⟩,.int .i64 0,.int .i64 0,.int .i64 0,.int .i64 1000,.bool false,.func (.func 100) #[] #[]]) (by rfl);rw [aN] at this;exact this
 have e3:(Instr.mapUpdate 140 (.map (some (w.heap.size+3))) (.int .i64 3) (.agg #[.string ⟨#[101,109,112,116,121]⟩,.int .i64 0,.int .i64 0,.int .i64 0,.int .i64 0,.bool false,.nilFunc])).run prog ((((w.alloc (.cells #[.int .i64 1,.int .i64 32] 135)).alloc (.cells #[.int .i64 0,.int .i64 400] 135)).alloc (.cells #[.func (.func 100) #[] #[]] 136)).alloc (.map (fE3 (w.heap.size+2)) 3)) = .ok () ((((w.alloc (.cells #[.int .i64 1,.int .i64 32] 135)).alloc (.cells #[.int .i64 0,.int .i64 400] 135)).alloc (.cells #[.func (.func 100) #[] #[]] 136)).alloc (.map (fE4 (w.heap.size+2)) 4)):=by
  have:=Yp (((w.alloc (.cells #[.int .i64 1,.int .i64 32] 135)).alloc (.cells #[.int .i64 0,.int .i64 400] 135)).alloc (.cells #[.func (.func 100) #[] #[]] 136)) (fE3 (w.heap.size+2)) 3 3 (.agg #[.string ⟨#[101,109,112,116,121]⟩,.int .i64 0,.int .i64 0,.int .i64 0,.int .i64 0,.bool false,.nilFunc]) (by rfl);rw [aN] at this;exact this
 have e4:(Instr.mapUpdate 140 (.map (some (w.heap.size+3))) (.int .i64 4) (.agg #[.string ⟨#[99,114,101,97,116,101]⟩,.int .i64 0,.int .i64 0,.int .i64 0,.int .i64 400,.bool true,.func (.func 102) #[] #[]])).run prog ((((w.alloc (.cells #[.int .i64 1,.int .i64 32] 135)).alloc (.cells #[.int .i64 0,.int .i64 400] 135)).alloc (.cells #[.func (.func 100) #[] #[]] 136)).alloc (.map (fE4 (w.heap.size+2)) 4)) = .ok () ((((w.alloc (.cells #[.int .i64 1,.int .i64 32] 135)).alloc (.cells #[.int .i64 0,.int .i64 400] 135)).alloc (.cells #[.func (.func 100) #[] #[]] 136)).alloc (.map (fE5 (w.heap.size+2)) 5)):=by
  have:=Yp (((w.alloc (.cells #[.int .i64 1,.int .i64 32] 135)).alloc (.cells #[.int .i64 0,.int .i64 400] 135)).alloc (.cells #[.func (.func 100) #[] #[]] 136)) (fE4 (w.heap.size+2)) 4 4 (.agg #[.string ⟨#[99,114,101,97,116,101]⟩,.int .i64 0,.int .i64 0,.int .i64 0,.int .i64 400,.bool true,.func (.func 102) #[] #[]]) (by rfl);rw [aN] at this;exact this
 have e5:(Instr.mapUpdate 140 (.map (some (w.heap.size+3))) (.int .i64 5) (.agg #[.string ⟨#[114,101,109,111,118,101]⟩,.int .i64 0,.int .i64 0,.int .i64 0,.int .i64 0,.bool true,.func (.func 102) #[] #[]])).run prog ((((w.alloc (.cells #[.int .i64 1,.int .i64 32] 135)).alloc (.cells #[.int .i64 0,.int .i64 400] 135)).alloc (.cells #[.func (.func 100) #[] #[]] 136)).alloc (.map (fE5 (w.heap.size+2)) 5)) = .ok () ((((w.alloc (.cells #[.int .i64 1,.int .i64 32] 135)).alloc (.cells #[.int .i64 0,.int .i64 400] 135)).alloc (.cells #[.func (.func 100) #[] #[]] 136)).alloc (.map (fE6 (w.heap.size+2)) 6)):=by
  have:=Yp (((w.alloc (.cells #[.int .i64 1,.int .i64 32] 135)).alloc (.cells #[.int .i64 0,.int .i64 400] 135)).alloc (.cells #[.func (.func 100) #[] #[]] 136)) (fE5 (w.heap.size+2)) 5 5 (.agg #[.string ⟨#[114,101,109,111,118,101]⟩,.int .i64 0,.int .i64 0,.int .i64 0,.int .i64 0,.bool true,.func (.func 102) #[] #[]]) (by rfl);rw [aN] at this;exact this
 have e6:(Instr.mapUpdate 140 (.map (some (w.heap.size+3))) (.int .i64 6) (.agg #[.string ⟨#[109,111,118,101]⟩,.int .i64 0,.int .i64 0,.int .i64 0,.int .i64 400,.bool true,.func (.func 102) #[] #[]])).run prog ((((w.alloc (.cells #[.int .i64 1,.int .i64 32] 135)).alloc (.cells #[.int .i64 0,.int .i64 400] 135)).alloc (.cells #[.func (.func 100) #[] #[]] 136)).alloc (.map (fE6 (w.heap.size+2)) 6)) = .ok () ((((w.alloc (.cells #[.int .i64 1,.int .i64 32] 135)).alloc (.cells #[.int .i64 0,.int .i64 400] 135)).alloc (.cells #[.func (.func 100) #[] #[]] 136)).alloc (.map (fE7 (w.heap.size+2)) 7)):=by
  have:=Yp (((w.alloc (.cells #[.int .i64 1,.int .i64 32] 135)).alloc (.cells #[.int .i64 0,.int .i64 400] 135)).alloc (.cells #[.func (.func 100) #[] #[]] 136)) (fE6 (w.heap.size+2)) 6 6 (.agg #[.string ⟨#[109,111,118,101]⟩,.int .i64 0,.int .i64 0,.int .i64 0,.int .i64 400,.bool true,.func (.func 102) #[] #[]]) (by rfl);rw [aN] at this;exact this
 have e7:(Instr.mapUpdate 140 (.map (some (w.heap.size+3))) (.int .i64 7) (.agg #[.string ⟨#[110,111,116,101]⟩,.int .i64 0,.int .i64 0,.int .i64 0,.int .i64 400,.bool true,.func (.func 102) #[] #[]])).run prog ((((w.alloc (.cells #[.int .i64 1,.int .i64 32] 135)).alloc (.cells #[.int .i64 0,.int .i64 400] 135)).alloc (.cells #[.func (.func 100) #[] #[]] 136)).alloc (.map (fE7 (w.heap.size+2)) 7)) = .ok () ((((w.alloc (.cells #[.int .i64 1,.int .i64 32] 135)).alloc (.cells #[.int .i64 0,.int .i64 400] 135)).alloc (.cells #[.func (.func 100) #[] #[]] 136)).alloc (.map (fE8 (w.heap.size+2)) 8)):=by
  have:=Yp (((w.alloc (.cells #[.int .i64 1,.int .i64 32] 135)).alloc (.cells #[.int .i64 0,.int .i64 400] 135)).alloc (.cells #[.func (.func 100) #[] #[]] 136)) (fE7 (w.heap.size+2)) 7 7 (.agg #[.string ⟨#[110,111,116,101]⟩,.int .i64 0,.int .i64 0,.int .i64 0,.int .i64 400,.bool true,.func (.func 102) #[] #[]]) (by rfl);rw [aN] at this;exact this
 clear aN;go_enter Tryz.func76,Tryz.ntmps76;go_wp2;go_ret;exact ⟨rfl,rfl⟩
theorem within_yes (n lo hi:Int) (h1:lo≤n) (h2:n≤hi) (w:Wd):Calls prog 119 #[.int .i64 n,.int .i64 lo,.int .i64 hi] w fun e w'=>e = .returned (.bool true)∧w=w':=by
 go_enter Tryz.func119,Tryz.ntmps119;go_wp2;go_ret;exact ⟨rfl,rfl⟩
theorem zeros2 (g:Nat) (w:Wd) (h0:w.cell? ⟨g,0,none⟩=some (.int .i64 0)) (h1:w.cell? ⟨g,1,none⟩=some (.int .i64 0)):
  Calls prog 136 #[.slice (some ⟨g,0,none⟩) 2 2] w fun e w'=>e = .returned (.bool true)∧w=w':=by
 go_enter Tryz.func136,Tryz.ntmps136;go_wp2;refine Lu 3 ?_;rw [Rs];go_wp2;rw [Rs];go_wp2;rw [Rs];go_wp2;go_ret;exact ⟨rfl,rfl⟩
theorem keyValid_a (id:Int) (w:Wd):Calls prog 109 #[.agg #[.int .i64 id,.int .i64 3,.int .i64 0,.int .i64 8,.int .i64 0,.int .i64 0,.int .i64 1,.int .i64 128,.int .i64 2,.int .i64 0,.int .i64 0,.int .i64 0,.int .i64 0,.int .i64 0,.bool false,.int .i64 0,.string ⟨#[]⟩,.string ⟨#[]⟩,.int .i64 0,.int .i64 0,.bool false]] w fun e w'=>e = .returned (.bool true)∧Below w.heap.size w w':=by
 have i0:∀ w,(Instr.index 213 (.agg #[.int .i64 128,.int .i64 256,.int .i64 512]) (.int .i64 0)).run prog w = .ok (.int .i64 128) w:=fun _=>by kernel_rfl
 have i1:∀ w,(Instr.index 213 (.agg #[.int .i64 128,.int .i64 256,.int .i64 512]) (.int .i64 1)).run prog w = .ok (.int .i64 256) w:=fun _=>by kernel_rfl
 have i2:∀ w,(Instr.index 213 (.agg #[.int .i64 128,.int .i64 256,.int .i64 512]) (.int .i64 2)).run prog w = .ok (.int .i64 512) w:=fun _=>by kernel_rfl
 go_enter Tryz.func109,Tryz.ntmps109;go_wp2;refine Lu 4 ?_;rw [Rs];go_wp2;rw [Rs];go_wp2;rw [Rs];go_wp2;rw [Rs];go_wp2_with (first|(go_at_call 119;refine (within_yes _ _ _ (by omega) (by omega) _).mono ?_;rintro e w' ⟨rfl,rfl⟩)|(go_at_call 136;refine (zeros2 _ _ ((U3 _ 3 #[.int .i64 0,.int .i64 0] _ (by simp)).cell 0) ((U3 _ 3 #[.int .i64 0,.int .i64 0] _ (by simp)).cell 1)).mono ?_;rintro e w' ⟨rfl,rfl⟩));go_ret;exact ⟨rfl,(((Bf w.heap.size w).alloc (Le _) _).alloc (by simp) _).alloc (by simp;omega) _⟩
theorem described_a (id:Int) (w:Wd) (h1:1≤id) (h2:id≤1099511627776):Calls prog 82 #[.agg #[.int .i64 id,.int .i64 3,.int .i64 0,.int .i64 8,.int .i64 0,.int .i64 0,.int .i64 1,.int .i64 128,.int .i64 2,.int .i64 0,.int .i64 0,.int .i64 0,.int .i64 0,.int .i64 0,.bool false,.int .i64 0,.string ⟨#[]⟩,.string ⟨#[]⟩,.int .i64 0,.int .i64 0,.bool false]] w fun e w'=>e = .returned (.bool true)∧Below w.heap.size w w':=by
 have B0:=Hd (Xg w #[.int .i64 id,.int .i64 3,.int .i64 0,.int .i64 8,.int .i64 0,.int .i64 0,.int .i64 1,.int .i64 128,.int .i64 2,.int .i64 0,.int .i64 0,.int .i64 0,.int .i64 0,.int .i64 0,.bool false,.int .i64 0,.string ⟨#[]⟩,.string ⟨#[]⟩,.int .i64 0,.int .i64 0,.bool false] 27);have d1:decide (id<1)=false:=by simp;omega
 have d2:decide (1099511627776<id)=false:=by simp;omega
 clear h1 h2;have HG:=Hd (heap_alloc_new w (.cells #[.int .i64 id,.int .i64 3,.int .i64 0,.int .i64 8,.int .i64 0,.int .i64 0,.int .i64 1,.int .i64 128,.int .i64 2,.int .i64 0,.int .i64 0,.int .i64 0,.int .i64 0,.int .i64 0,.bool false,.int .i64 0,.string ⟨#[]⟩,.string ⟨#[]⟩,.int .i64 0,.int .i64 0,.bool false] 27));have HK:=Hd (keyValid_a id (w.alloc (.cells #[.int .i64 id,.int .i64 3,.int .i64 0,.int .i64 8,.int .i64 0,.int .i64 0,.int .i64 1,.int .i64 128,.int .i64 2,.int .i64 0,.int .i64 0,.int .i64 0,.int .i64 0,.int .i64 0,.bool false,.int .i64 0,.string ⟨#[]⟩,.string ⟨#[]⟩,.int .i64 0,.int .i64 0,.bool false] 27)));go_enter Tryz.func82,Tryz.ntmps82
 go_wp2_with (first|(refine Lq 27 w.heap.size _ HG.out Tryz.underlying27 ?_)|(go_at_call 109;refine HK.out.mono ?_;rintro e w2 ⟨rfl,aF⟩;have X2:=Hd (U0 (Uc B0.out) aF (Nat.le_of_succ_le (Vn B0.out)));clear aF));go_ret;exact ⟨rfl,X2.out⟩
theorem archNum_yes (n:Int) (h1:0≤n) (h2:n≤1099511627776) (w:Wd):Calls prog 113 #[.int .i64 n] w fun e w'=>e = .returned (.bool true)∧w=w':=by
 have d1:decide (0≤n)=true:=by simpa using h1
 have d2:decide (n≤1099511627776)=true:=by simpa using h2
 clear h1 h2;go_enter Tryz.func113,Tryz.ntmps113;go_wp2;go_ret;exact ⟨rfl,rfl⟩
theorem av1_no (b o:Nat) (n:Int) (w:Wd) (hc:w.cell? ⟨b,o,none⟩=some (.int .i64 n)) (h1:0≤n) (h2:n≤1099511627776):
  Calls prog 112 #[.pointer (some ⟨b,o,none⟩)] w fun e w'=>e = .returned (.bool false)∧w=w':=by
 have HN:=Hd fun W=>archNum_yes n h1 h2 W
 clear h1 h2;go_enter Tryz.func112,Tryz.ntmps112;go_wp2_with (go_at_call 113;refine (HN.out _).mono ?_;rintro e w' ⟨rfl,rfl⟩);go_ret;exact ⟨rfl,rfl⟩
def Ptrs (w:Wd) (g o n:Nat):Prop:=∀ j,j<n→∃ b q v,w.cell? ⟨g,o+j,none⟩=some (.pointer (some ⟨b,q,none⟩))∧w.cell? ⟨b,q,none⟩=some (.int .i64 v)∧0≤v∧v≤1099511627776
theorem ptrs_index (g o n c:Nat) (w:Wd) (hp:Ptrs w g o n) (hn:n≤9223372036854775807):
  Calls prog 137 #[.slice (some ⟨g,o,none⟩) n c,.func (.func 112) #[] #[]] w fun e w'=>e = .returned (.int .i64 (-1))∧w=w':=by
 have HP:=Hd hp;clear hp;go_enter Tryz.func137,Tryz.ntmps137;go_wp2;go_loop [8] (fun i => ∃ j:Nat,j≤n∧i = .int .i64 j) (fun i=>n-(intOf i).toNat)
 case atStart=>exact ⟨0,Z0 _,rfl⟩
 case round=>
  obtain ⟨j,hj,rfl⟩:=hrel;by_cases aG:j<n
  ·obtain ⟨b,q,v,c1,c2,v1,v2⟩:=HP.out j aG;have HA:=Hd (av1_no b q v w c2 v1 v2);clear c2 v1 v2;go_wp2_with fail;refine HA.out.mono ?_;rintro e w' ⟨rfl,rfl⟩;go_wp2
   go_round
   case rel=>exact ⟨j+1,by omega,by go_num⟩
   case measure=>simp [intOf];omega
  ·go_wp2;go_ret;exact ⟨rfl,rfl⟩
theorem ptrs_any (g o n c:Nat) (w:Wd) (hp:Ptrs w g o n) (hn:n≤9223372036854775807):
  Calls prog 111 #[.slice (some ⟨g,o,none⟩) n c,.func (.func 112) #[] #[]] w fun e w'=>e = .returned (.bool false)∧w=w':=by
 have HI:=Hd (ptrs_index g o n c w hp hn);clear hp;go_enter Tryz.func111,Tryz.ntmps111;go_wp2_with (go_at_call 137;refine HI.out.mono ?_;rintro e w' ⟨rfl,rfl⟩);go_ret;exact ⟨rfl,rfl⟩
def Ju (g:Nat):List Value:=[.pointer (some ⟨g,0,none⟩),.pointer (some ⟨g,1,none⟩),.pointer (some ⟨g,2,none⟩),.pointer (some ⟨g,3,none⟩),.pointer (some ⟨g,4,none⟩),.pointer (some ⟨g,5,none⟩),.pointer (some ⟨g,6,none⟩),.pointer (some ⟨g,7,none⟩),.pointer (some ⟨g,8,none⟩),.pointer (some ⟨g,9,none⟩),.pointer (some ⟨g,10,none⟩),.pointer (some ⟨g,11,none⟩),.pointer (some ⟨g,12,none⟩),.pointer (some ⟨g,13,none⟩)]
theorem fields_any (g:Nat) (w:Wd):Calls prog 110 #[.pointer (some ⟨g,0,none⟩)] w fun e w'=>e = .returned (.slice (some ⟨w.heap.size,0,none⟩) 14 14)∧w'=(w.alloc (.cells (Ju g).toArray 179)).drew:=by
 unfold Ju;go_enter Tryz.func110,Tryz.ntmps110;go_wp2_with fail
 go_region_held3 (fun _=>True) (trivial) (fail)
 all_goals
  go_wp2;go_ret;exact ⟨rfl,rfl⟩
theorem pairsIndex_nil (w:Wd):Calls prog 138 #[.slice none 0 0,.func (.func 115) #[] #[]] w fun e w'=>e = .returned (.int .i64 (-1))∧w=w':=by
 go_enter Tryz.func138,Tryz.ntmps138;go_wp2;refine Lu 1 ?_;rw [Rs];go_wp2;go_ret;exact ⟨rfl,rfl⟩
theorem pairsAny_nil (w:Wd):Calls prog 114 #[.slice none 0 0,.func (.func 115) #[] #[]] w fun e w'=>e = .returned (.bool false)∧w=w':=by
 go_enter Tryz.func114,Tryz.ntmps114;go_wp2_with (go_at_call 138;refine (pairsIndex_nil _).mono ?_;rintro e w' ⟨rfl,rfl⟩);go_ret;exact ⟨rfl,rfl⟩
theorem infoPtr:(prog.info? 179).map (fun i=>(i.zero,i.size,i.bytes))=some (some (.pointer none),1,8):=by kernel_rfl
def dV (id:Int):List Value:=[.int .i64 id,.int .i64 3,.int .i64 0,.int .i64 8,.int .i64 0,.int .i64 0,.int .i64 1,.int .i64 128,.int .i64 2,.int .i64 0,.int .i64 0,.int .i64 0,.int .i64 0,.int .i64 0,.bool false,.int .i64 0,.string ⟨#[]⟩,.string ⟨#[]⟩,.int .i64 0,.int .i64 0,.bool false]
def aV (id:Int):List Value:=dV id++[.int .i64 4,.slice none 0 0]
theorem aV_range (id:Int) (w:Wd) (t:TypeId):(w.alloc (.cells (aV id).toArray t)).rangeAt w.heap.size 0 (dV id):=by
 intro j v hv;rw [(U3 w t (aV id).toArray w.heap.size rfl).cell (0+j)];rw [Ga,Nat.zero_add];obtain ⟨hj,hv'⟩:=List.getElem?_eq_some_iff.1 hv;rw [aV,List.getElem?_append_left hj,hv]
structure AV (id:Int) (w W:Wd):Prop where
 b1:Blk W w.heap.size 149 (aV id).toArray
 b2:Blk W (w.heap.size+1) 27 (dV id).toArray
 own:W.ownsRow (w.heap.size+2) 179 1 (.slice (some ⟨w.heap.size+2,0,none⟩) 14 14) 14 (Ju (w.heap.size+1))
 sz:W.heap.size=w.heap.size+3
 be:Below w.heap.size w W
theorem aV_mk (id:Int) (w W1:Wd) (h1:W1=(w.alloc (.cells (aV id).toArray 149)).alloc (.cells (dV id).toArray 27)):AV id w (W1.alloc (.cells (Ju (w.heap.size+1)).toArray 179)).drew:=by
 have hs:W1.heap.size=w.heap.size+2:=by rw [h1];simp
 have hb:Below w.heap.size w W1:=by rw [h1];exact ((Bf w.heap.size w).alloc (Le _) _).alloc (by simp) _
 have q1:Blk W1 w.heap.size 149 (aV id).toArray:=by rw [h1];exact (Blk.new w 149 _).alloc _
 have q2:Blk W1 (w.heap.size+1) 27 (dV id).toArray:=by rw [h1];exact U3 _ _ _ _ (by simp)
 have q3:=World.ownsRow_lit (e:=179) (base:=W1.heap.size) (size:=1) W1 (Ju (w.heap.size+1)).toArray 14 (Le _) (by decide) rfl;rw [hs] at q3;exact ⟨(q1.alloc _).drew,(q2.alloc _).drew,q3.drew,by simp [World.drew,hs],(hb.alloc (by omega) _).drew⟩
theorem dV_one (id:Int):(dV id).toArray.all (·.oneCell')=true:=by simp [dV,Value.oneCell']
theorem Ug (X:Wd) (b:Nat) (h:b=X.heap.size) (old cs:Array Value) (t:TypeId):(X.alloc (.cells old t)).setRow b cs=X.alloc (.cells cs t):=by
 subst h;exact World.setRow_alloc_new X old cs t
theorem fields_at (id:Int) (w:Wd):Calls prog 110 #[.pointer (some ⟨w.heap.size+1,0,none⟩)] ((w.alloc (.cells (aV id).toArray 149)).alloc (.cells (dV id).toArray 27)) fun e W=>e = .returned (.slice (some ⟨w.heap.size+2,0,none⟩) 14 14)∧AV id w W:=by
 refine (fields_any (w.heap.size+1) _).mono ?_;rintro e W ⟨rfl,rfl⟩;exact ⟨by simp,aV_mk id w _ rfl⟩
def Yu (A B:Nat):List Value:=[.pointer (some ⟨B,15,none⟩),.pointer (some ⟨B,18,none⟩),.pointer (some ⟨B,19,none⟩),.pointer (some ⟨A,21,none⟩)]
theorem Jb (A B:Nat) (W:Wd):Rd (W.alloc (.cells (Yu A B).toArray 179)) (W.heap.size+1) 1 (some ⟨W.heap.size,0,none⟩) 4 (Yu A B):=by
 refine ⟨rfl,fun _=>⟨W.heap.size,0,rfl,by omega,fun j u hu=>?_⟩⟩;rw [(Blk.new W 179 (Yu A B).toArray).cell,Nat.zero_add,Ga];exact hu
theorem av_app (id:Int) (w W3 w':Wd) (v':Value) (i1:0≤id) (i2:id≤1099511627776) (HA:AV id w W3)
  (aD:w'.ownsRow (w.heap.size+2) 179 1 v' 18 (Ju (w.heap.size+1)++Yu w.heap.size (w.heap.size+1)))
  (aO:(W3.alloc (.cells (Yu w.heap.size (w.heap.size+1)).toArray 179)).grownBy w' (Value.slice (some ⟨w.heap.size+2,0,none⟩) 14 14).ownBlock):
  ∃ g cap,v' = .slice (some ⟨g,0,none⟩) 18 cap∧Blk w' w.heap.size 149 (aV id).toArray∧Blk w' (w.heap.size+1) 27 (dV id).toArray∧Ptrs w' g 0 18∧Below w.heap.size w w':=by
 have q1:Blk w' w.heap.size 149 (aV id).toArray:=(HA.b1.alloc _).grown aO (by simp [Value.ownBlock]);have q2:Blk w' (w.heap.size+1) 27 (dV id).toArray:=(HA.b2.alloc _).grown aO (by simp [Value.ownBlock]);have hb:Below w.heap.size w w':=(HA.be.alloc (by have:=HA.sz;omega) _).grown aO (by have:=HA.sz;simp;omega) (by intro k hk;simp [Value.ownBlock] at hk;omega)
 obtain ⟨g,cap,rfl⟩:∃ g cap,v' = .slice (some ⟨g,0,none⟩) 18 cap:=by
  rcases aD.2 with ⟨_,h0⟩|⟨g,cap,cur,rfl,_⟩
  ·exact absurd h0 (by decide)
  ·exact ⟨g,cap,rfl⟩
 refine ⟨g,cap,rfl,q1,q2,fun j hj=>?_,hb⟩;rw [Nat.zero_add,aD.cellAt j (by omega)];have hj':j=0∨j=1∨j=2∨j=3∨j=4∨j=5∨j=6∨j=7∨j=8∨j=9∨j=10∨j=11∨j=12∨j=13∨j=14∨j=15∨j=16∨j=17:=by omega
 clear aO aD hb;rcases hj' with rfl|rfl|rfl|rfl|rfl|rfl|rfl|rfl|rfl|rfl|rfl|rfl|rfl|rfl|rfl|rfl|rfl|rfl
 all_goals
  refine ⟨_,_,_,rfl,(by first|(rw [q2.cell];rfl)|(rw [q1.cell];rfl)),?_,?_⟩<;>first|exact i1|exact i2|decide
theorem archValid_a (id:Int) (w:Wd) (i1:0≤id) (i2:id≤1099511627776):Calls prog 83 #[.agg (aV id).toArray] w fun e w'=>e = .returned (.bool true)∧Below w.heap.size w w':=by
 obtain ⟨i0,aU,aW,aK,aR⟩:=info_parts infoPtr;have HM:=Hd (aV_range id w 149);have H1:=Hd (dV_one id);have HF:=Hd (fields_at id w);have HB:=Hd fun old=>U3 (w.alloc (.cells (aV id).toArray 149)) 27 old (w.heap.size+1) (by simp)
 have HS:=Hd fun old=>Ug (w.alloc (.cells (aV id).toArray 149)) (w.heap.size+1) (by simp) old (dV id).toArray 27
 have HP:=Hd fun W3 w' v'=>av_app id w W3 w' v' i1 i2
 clear i1 i2;go_enter Tryz.func83,Tryz.ntmps83
 go_wp2_with (first|(refine Ln 27 w.heap.size 0 (dV id) HM.out Tryz.underlying27 ?_)|(refine Lv 27 (w.heap.size+1) (dV id).toArray (HB.out _) H1.out ?_;rw [HS.out])|(go_at_call 110;refine HF.out.mono ?_;rintro e W3 ⟨rfl,H3⟩;have HA:=Hd H3;clear H3;have HO:=Hd (HA.out.own.alloc (.cells (Yu w.heap.size (w.heap.size+1)).toArray 179));have HR:=Hd (Jb w.heap.size (w.heap.size+1) W3))|(at_builtin;go_must (refine U5 _ rfl _ _ 176 rfl (w.heap.size+2) 179 i0 _ 1 8 Tryz.underlying176 aU aW aK aR rfl (by decide) _ 14 _ rfl HO.out (W3.heap.size+1) (some ⟨W3.heap.size,0,none⟩) 4 4 (Yu w.heap.size (w.heap.size+1)) rfl HR.out (by simp [Yu,Value.oneCell']) (by decide) (by decide) (by have:=HA.out.sz;simp;omega) ?_;intro v' w4 aD aO _;obtain ⟨g,cap,rfl,q1,q2,q3,q4⟩:=HP.out _ _ _ HA.out aD aO;clear aD aO HO HR HA;have c17:w4.cell? ⟨w.heap.size+1,17,none⟩=some (.string ⟨#[]⟩):=(q2.cell 17).trans rfl;have c16:w4.cell? ⟨w.heap.size+1,16,none⟩=some (.string ⟨#[]⟩):=(q2.cell 16).trans rfl;have c22:w4.cell? ⟨w.heap.size,22,none⟩=some (.slice none 0 0):=(q1.cell 22).trans rfl;have HC:=Hd (ptrs_any g 0 18 cap w4 q3 (by decide));have HE:=Hd q4;clear q1 q2 q3 q4))|(go_at_call 111;refine HC.out.mono ?_;rintro e w5 ⟨rfl,rfl⟩)|(go_at_call 114;refine (pairsAny_nil _).mono ?_;rintro e w6 ⟨rfl,rfl⟩))
 go_ret;exact ⟨rfl,HE.out⟩
section
section
variable {P:Program} {ops:Array Oper} {rest:List Oper} {o:Oper} {a:Act} {w:Wd} {Q:Exit→Act→Wd→Prop}
theorem Yj (hw:Region.wanted o (yielded ops a.tmps)=true) (h:∀ K:Act→Wd→Prop,(∀ a w,wpList P ops Q rest a w→K a w)→o.wp P a w K Q):wpList P ops Q (o::rest) a w:=
 wpList_step fun K hK=>by simp only [hw,if_true];exact h K hK
theorem U9 (hw:Region.wanted o (yielded ops a.tmps)=true) (ty:TypeId) (x:Operand) (ho:o.op = .load ty x)
  (g:Nat) (hx:a.eval x = .pointer (some ⟨g,0,none⟩)) (t:TypeId) (cs:Array Value) (fr:Nat×Nat) (d:TypeDesc) (hg:w.heap[g]? =some (.cells cs t fr))
  (hu:P.underlying ty=some d) (hd:(match d with | .struct _ | .array _ _=>true|_=>false)=true) (hi:(P.info? ty).map (·.size)=some cs.size)
  (h:wpList P ops Q rest (a.put o.dst (.agg cs)) w):wpList P ops Q (o::rest) a w:=
 Yj hw fun _ hK=>wp_load_row ty x ho g hx t cs fr d hg hu hd hi (hK _ _ h)
theorem U2 (hw:Region.wanted o (yielded ops a.tmps)=true) (t:TypeId) (parts:Array (Nat×Operand)) (ho:o.op = .build t parts)
  (cells:Array Value) (hf:P.built t (parts.map fun (i,x)=>(i,a.eval x)).toList=some cells)
  (h:wpList P ops Q rest (a.put o.dst (.agg cells)) w):wpList P ops Q (o::rest) a w:=
 Yj hw fun _ hK=>by
  unfold Oper.wp execOp;simp only [ho,Sem.run_bind,run_build w t _ _ hf,Result.andThen_ok];exact hK _ _ h
end
def fX (id:Int) (w:Wd):Wd:=(w.alloc (.cells (aV id).toArray 30)).alloc (.cells (dV id).toArray 27)
structure FV (id:Int) (w W:Wd):Prop where
 b1:Blk W w.heap.size 30 (aV id).toArray
 b2:Blk W (w.heap.size+1) 27 (dV id).toArray
 sz:w.heap.size+2≤W.heap.size
 be:Below w.heap.size w W
theorem fv_start (id:Int) (w:Wd):FV id w (fX id w):=
 ⟨(Blk.new w 30 _).alloc _,U3 _ _ _ _ (by simp),by simp [fX],((Bf w.heap.size w).alloc (Le _) _).alloc (by simp) _⟩
theorem fv_next (id:Int) (w W W':Wd) (h:FV id w W) (hb:Below W.heap.size W W'):FV id w W':=
 ⟨h.b1.below hb (by have:=h.sz;omega),h.b2.below hb (by have:=h.sz;omega),Lx h.sz hb.size,U0 h.be hb (by have:=h.sz;omega)⟩
theorem fv_21 {id:Int} {w W:Wd} (h:FV id w W):W.cell? ⟨w.heap.size,21,none⟩=some (.int .i64 4):=(h.b1.cell 21).trans rfl
theorem fv_22 {id:Int} {w W:Wd} (h:FV id w W):W.cell? ⟨w.heap.size,22,none⟩=some (.slice none 0 0):=(h.b1.cell 22).trans rfl
theorem fwdValid_a (id:Int) (w:Wd) (i1:1≤id) (i2:id≤1099511627776):Calls prog 68 #[.agg (aV id).toArray] w fun e w'=>e = .returned (.bool true)∧Below w.heap.size w w':=by
 have HM:=Hd (aV_range id w 30);have H1:=Hd (dV_one id);have HB:=Hd fun old=>U3 (w.alloc (.cells (aV id).toArray 30)) 27 old (w.heap.size+1) (by simp)
 have HS:Hid (∀ old,((w.alloc (.cells (aV id).toArray 30)).alloc (.cells old 27)).setRow (w.heap.size+1) (dV id).toArray=fX id w):=Hd fun old=>Ug (w.alloc (.cells (aV id).toArray 30)) (w.heap.size+1) (by simp) old (dV id).toArray 27
 have HX:=Hd (fv_start id w);have HD:Hid (∀ W,Calls prog 82 #[.agg (dV id).toArray] W fun e w'=>e = .returned (.bool true)∧Below W.heap.size W w'):=Hd fun W=>described_a id W i1 i2
 have HV:=Hd fun W=>archValid_a id W (by omega) i2
 clear i1 i2;go_enter Tryz.func68,Tryz.ntmps68
 go_wp2_with (first|(refine Ln 27 w.heap.size 0 (dV id) HM.out Tryz.underlying27 ?_)|(refine Lv 27 (w.heap.size+1) (dV id).toArray (HB.out _) H1.out ?_;rw [HS.out])|(refine U9 (by kernel_rfl) 27 _ rfl (w.heap.size+1) rfl 27 _ (0,0) _ aM.out.b2 Tryz.underlying27 rfl (by kernel_rfl) ?_)|(refine Lq 27 (w.heap.size+1) _ HX.out.b2 Tryz.underlying27 ?_)|(refine U2 (by kernel_rfl) 149 _ rfl (aV id).toArray (by kernel_rfl) ?_)|(go_at_call 82;refine (HD.out _).mono ?_;rintro e w2 ⟨rfl,hb⟩;have aM:=Hd (fv_next id w _ _ HX.out hb);clear hb;have c21:=fv_21 aM.out;have c22:=fv_22 aM.out)|(go_at_call 83;refine (HV.out _).mono ?_;rintro e w3 ⟨rfl,hb⟩;have aP:=Hd (fv_next id w _ _ aM.out hb);clear hb c21 c22;have c22:=fun ob=>((aP.out.b1.alloc ob).cell 22).trans (show (aV id).toArray[22]? =some (.slice none 0 0) from rfl)))
 refine Lu 1 ?_;rw [Rs];go_wp2;go_ret;exact ⟨rfl,aP.out.be.alloc (by have:=aP.out.sz;omega) _⟩
end
def zV:List Value:=[.int .i64 0,.int .i64 0,.int .i64 0,.int .i64 0,.int .i64 0,.int .i64 0,.int .i64 0,.int .i64 0,.int .i64 0,.int .i64 0,.int .i64 0,.int .i64 0,.int .i64 0,.int .i64 0,.bool false,.int .i64 0,.string ⟨#[]⟩,.string ⟨#[]⟩,.int .i64 0,.int .i64 0,.bool false,.int .i64 0,.slice none 0 0]
theorem zV_one:zV.toArray.all (·.oneCell')=true:=by simp [zV,Value.oneCell']
theorem aV_one (id:Int):(aV id).toArray.all (·.oneCell')=true:=by simp [aV,dV,Value.oneCell']
def stE (v:List Value):Array MapEntry:=#[⟨.int .i64 200,.agg v.toArray,0⟩]
def St (w:Wd) (b:Nat) (v:List Value):Prop:=w.heap[b]? =some (.map (stE v) 1)
theorem St.lt {w:Wd} {b:Nat} {v:List Value} (h:St w b v):b<w.heap.size:=by
 rcases Nat.lt_or_ge b w.heap.size with aG|hge
 ·exact aG
 ·unfold St at h;rw [Array.getElem?_eq_none hge] at h;cases h
theorem St.below {w w':Wd} {b B:Nat} {v:List Value} (h:St w b v) (hb:Below B w w') (hB:b<B):St w' b v:=(hb.block b hB).trans h
theorem St.alloc {w:Wd} {b:Nat} {v:List Value} (h:St w b v) (o:Obj):St (w.alloc o) b v:=(Below.heap_alloc w o b h.lt).trans h
theorem sLook_no (w:Wd) (b:Nat) (hb:w.heap[b]? =some (.map #[] 0)):
  (Instr.lookup 65 (.map (some b)) (.int .i64 200) true).run prog w = .ok (.tuple #[.agg zV.toArray,.bool false]) w:=by
 have hf:Instr.findNow (.int .i64) (.int .i64 200) (#[]:Array MapEntry).toList 0=some none:=rfl;have hc:(Instr.checkKey true 10000 3 (.int .i64 200)).run prog w = .ok () w:=MapKept.run_checkKey (k:=.int .i64 200) Tryz.underlying3 (by simp [MapKept.IsKey]) _ 9999;unfold zV;simp [Instr.lookup,run_underlying Tryz.underlying65,MapKept.run_getObj_map hb,hc,MapKept.run_findKey Tryz.underlying3 hf]
theorem sLook_gen (w:Wd) (b:Nat) (es:Array MapEntry) (c:Nat) (key:Int) (v:Value) (i:Nat) (hb:w.heap[b]? =some (.map es c)) (hf:Instr.findNow (.int .i64) (.int .i64 key) es.toList 0=some (some (i,v))):
  (Instr.lookup 65 (.map (some b)) (.int .i64 key) true).run prog w = .ok (.tuple #[v,.bool true]) w:=by
 have hc:(Instr.checkKey es.isEmpty 10000 3 (.int .i64 key)).run prog w = .ok () w:=MapKept.run_checkKey (k:=.int .i64 key) Tryz.underlying3 (by simp [MapKept.IsKey]) _ 9999;simp [Instr.lookup,run_underlying Tryz.underlying65,MapKept.run_getObj_map hb,hc,MapKept.run_findKey Tryz.underlying3 hf]
theorem Fl (w:Wd) (b:Nat) (v:List Value) (hb:St w b v):
  (Instr.lookup 65 (.map (some b)) (.int .i64 200) true).run prog w = .ok (.tuple #[.agg v.toArray,.bool true]) w:=
 sLook_gen w b (stE v) 1 200 _ 0 hb rfl
def Jo (w:Wd) (b:Nat) (v:List Value):Wd:={ w with heap:=w.heap.setIfInBounds b (.map (stE v) 1) }
theorem setSt_st (w:Wd) (b:Nat) (v:List Value) (h:b<w.heap.size):St (Jo w b v) b v:=by
 unfold St Jo;simp [h]
theorem Gd {a w:Wd} {B b:Nat} (v:List Value) (h:Below B a w) (hb:B≤b):Below B a (Jo w b v):=
 ⟨h.os,h.tape,h.output,by simpa [Jo] using h.size,fun k hk=>by
  show (w.heap.setIfInBounds b (.map (stE v) 1))[k]? =_;rw [Array.getElem?_setIfInBounds_ne (by omega)];exact h.block k hk⟩
theorem sPut_new (w:Wd) (b:Nat) (v:List Value) (hb:w.heap[b]? =some (.map #[] 0)):
  (Instr.mapUpdate 65 (.map (some b)) (.int .i64 200) (.agg v.toArray)).run prog w = .ok () (Jo w b v):=by
 have hf:Instr.findNow (.int .i64) (.int .i64 200) (#[]:Array MapEntry).toList 0=some none:=rfl;have hc:(Instr.checkKey false 10000 3 (.int .i64 200)).run prog w = .ok () w:=MapKept.run_checkKey (k:=.int .i64 200) Tryz.underlying3 (by simp [MapKept.IsKey]) false 9999;simp [Instr.mapUpdate,run_underlying Tryz.underlying65,MapKept.run_getObj_map hb,hc,MapKept.run_findKey Tryz.underlying3 hf,MapKept.run_setObj_map _ hb,Result.andThen];rfl
theorem sPut_old (w:Wd) (b:Nat) (v u:List Value) (hb:St w b u):
  (Instr.mapUpdate 65 (.map (some b)) (.int .i64 200) (.agg v.toArray)).run prog w = .ok () (Jo w b v):=by
 have hf:Instr.findNow (.int .i64) (.int .i64 200) (stE u).toList 0=some (some (0,.agg u.toArray)):=rfl;have hk:(Instr.keyThatStays ((Option.map (fun x=>x.key) (stE u)[0]?).getD (.int .i64 200)) (.int .i64 200)).run prog w = .ok (.int .i64 200) w:=rfl;have hc:(Instr.checkKey false 10000 3 (.int .i64 200)).run prog w = .ok () w:=MapKept.run_checkKey (k:=.int .i64 200) Tryz.underlying3 (by simp [MapKept.IsKey]) false 9999;simp [Instr.mapUpdate,run_underlying Tryz.underlying65,MapKept.run_getObj_map hb,hc,MapKept.run_findKey Tryz.underlying3 hf,MapKept.run_setObj_map _ hb,hk,Result.andThen];rfl
def bX (w:Wd):Wd:=(w.alloc (.map #[] 0)).alloc (.cells (aV 200).toArray 30)
def bY (w:Wd):Wd:=(bX w).alloc (.cells zV.toArray 30)
structure BV (w W:Wd):Prop where
 b1:W.heap[w.heap.size]? =some (.map #[] 0)
 b2:Blk W (w.heap.size+1) 30 (aV 200).toArray
 sz:w.heap.size+3≤W.heap.size
 be:Below w.heap.size w W
theorem Ji (w:Wd):(bX w).heap.size=w.heap.size+2:=by simp [bX]
theorem bX_map (w:Wd):(bX w).heap[w.heap.size]? =some (.map #[] 0):=by
 unfold bX;rw [Below.heap_alloc _ _ _ (by simp)];exact heap_alloc_new w _
theorem bX_blk (w:Wd):Blk (bX w) (w.heap.size+1) 30 (aV 200).toArray:=U3 _ _ _ _ (by simp)
theorem bY_bv (w:Wd):BV w (bY w):=
 ⟨by unfold bY;rw [Below.heap_alloc _ _ _ (by rw [Ji];omega)];exact bX_map w,(bX_blk w).alloc _,by simp [bY,Ji],
  (((Bf w.heap.size w).alloc (Le _) _).alloc (by simp) _).alloc (by show _≤(bX w).heap.size;rw [Ji];omega) _⟩
theorem bv_next (w W W':Wd) (h:BV w W) (hb:Below W.heap.size W W'):BV w W':=
 ⟨(hb.block _ (by have:=h.sz;omega)).trans h.b1,h.b2.below hb (by have:=h.sz;omega),Lx h.sz hb.size,U0 h.be hb (by have:=h.sz;omega)⟩
def BegP (w:Wd) (e:Ending) (w':Wd):Prop:=e = .returned (.tuple #[.map (some w.heap.size),.bool true])∧St w' w.heap.size (aV 200)∧Below w.heap.size w w'
theorem bv_end (w W:Wd) (h:BV w W):St (Jo W w.heap.size (aV 200)) w.heap.size (aV 200)∧Below w.heap.size w (Jo W w.heap.size (aV 200)):=
 ⟨setSt_st _ _ _ (by have:=h.sz;omega),Gd _ h.be (Le _)⟩
theorem begin_a (g:Nat) (w:Wd) (hg:g<w.heap.size) (hr:w.rangeAt g 0 (aV 200)):Calls prog 47 #[.slice (some ⟨g,0,none⟩) 1 1] w (BegP w):=by
 have HM:=Hd (show (w.alloc (.map #[] 0)).rangeAt g 0 (aV 200) from fun j v hv=>(World.cell?_alloc_lt w _ _ hg).trans (hr j v hv));clear hr hg;have HA:=Hd (aV_one 200);have HZ:=Hd zV_one;have aQ:=Hd fun old=>U3 (w.alloc (.map #[] 0)) 30 old (w.heap.size+1) (by simp)
 have bK:Hid (∀ old,((w.alloc (.map #[] 0)).alloc (.cells old 30)).setRow (w.heap.size+1) (aV 200).toArray=bX w):=Hd fun old=>Ug (w.alloc (.map #[] 0)) (w.heap.size+1) (by simp) old (aV 200).toArray 30
 have aL:=Hd fun old=>U3 (bX w) 30 old (w.heap.size+2) (by simp [Ji])
 have bR:Hid (∀ old,((bX w).alloc (.cells old 30)).setRow (w.heap.size+2) zV.toArray=bY w):=Hd fun old=>Ug (bX w) (w.heap.size+2) (by simp [Ji]) old zV.toArray 30
 have HY:=Hd (bY_bv w);have HV:=Hd fun W=>fwdValid_a 200 W (by decide) (by decide)
 have HE:=Hd fun W=>bv_end w W
 have hz:=Ji w;have c0:(bX w).cell? ⟨w.heap.size+1,0,none⟩=some (.int .i64 200):=((bX_blk w).cell 0).trans rfl;have hl:=sLook_no (bX w) w.heap.size (bX_map w);have hmm:=@run_makeMap prog;go_enter Tryz.func47,Tryz.ntmps47;go_wp2;refine Lu 2 ?_;rw [Rs]
 go_wp2_with (first|(refine Ln 30 g 0 (aV 200) HM.out Tryz.underlying30 ?_)|(refine Lv 30 (w.heap.size+1) (aV 200).toArray (aQ.out _) HA.out ?_;rw [bK.out])|(refine Lv 30 (w.heap.size+2) zV.toArray (aL.out _) HZ.out ?_;rw [bR.out])|(refine U9 (by kernel_rfl) 30 _ rfl (w.heap.size+1) rfl 30 _ (0,0) _ HY.out.b2 Tryz.underlying30 rfl (by kernel_rfl) ?_)|(go_at_call 68;refine (HV.out _).mono ?_;rintro e w2 ⟨rfl,hb⟩;have aM:=Hd (bv_next w _ _ HY.out hb);clear hb c0 hl hz;have c0:w2.cell? ⟨w.heap.size+1,0,none⟩=some (.int .i64 200):=(aM.out.b2.cell 0).trans rfl;have hp:=sPut_new w2 w.heap.size (aV 200) aM.out.b1)|(refine Lq 30 (w.heap.size+1) _ aM.out.b2 Tryz.underlying30 ?_))
 rw [Rs];go_wp2
 go_ret2
 obtain ⟨f1,f2⟩:=HE.out _ aM.out;exact ⟨rfl,f1,f2⟩
theorem Xe:(prog.info? 76).map (fun i=>(i.zero,i.size,i.bytes))=some (some (.agg #[.string ⟨#[]⟩,.string ⟨#[]⟩]),2,32):=by kernel_rfl
theorem Ez (w:Wd):Calls prog 24 #[.slice none 0 0] w fun e w'=>e = .returned (.slice none 0 0)∧w=w':=by
 have qq:∀ (w:Wd) (a:Option Addr) (n c n' c':Nat),(binOp .eql 28 (.slice a n c) (.slice none n' c')).run prog w = .ok (.bool a.isNone) w:=fun w a n c n' c'=>Lib.run_eql_slice_nil w _ _ a n c n' c' Tryz.underlying28
 go_enter Tryz.func24,Tryz.ntmps24;go_wp2;go_ret;exact ⟨rfl,rfl⟩
theorem Gv (f:Value) (w:Wd):Calls prog 138 #[.slice none 0 0,f] w fun e w'=>e = .returned (.int .i64 (-1))∧w=w':=by
 go_enter Tryz.func138,Tryz.ntmps138;go_wp2;refine Lu 1 ?_;rw [Rs];go_wp2;go_ret;exact ⟨rfl,rfl⟩
theorem find_nil (k:Bz) (w:Wd):Calls prog 158 #[.slice none 0 0,.string k] w fun e w'=>e = .returned (.tuple #[.int .i64 0,.bool false])∧Below w.heap.size w w':=by
 go_enter Tryz.func158,Tryz.ntmps158;go_wp2_with (go_at_call 138;refine (Gv _ _).mono ?_;rintro e w' ⟨rfl,rfl⟩)
 go_ret2
 exact ⟨rfl,(Bf _ _).alloc (Le _) _⟩
theorem direct_a (id:Int) (w:Wd):Calls prog 157 #[.agg (dV id).toArray] w fun e w'=>e = .returned (.bool true)∧Below w.heap.size w w':=by
 have c1:(w.alloc (.cells (dV id).toArray 27)).cell? ⟨w.heap.size,1,none⟩=some (.int .i64 3):=((Blk.new w 27 (dV id).toArray).cell 1).trans rfl;go_enter Tryz.func157,Tryz.ntmps157;go_wp2;go_ret;exact ⟨rfl,(Bf _ _).alloc (Le _) _⟩
structure DV (id:Int) (w W:Wd):Prop where
 b1:Blk W w.heap.size 27 (dV id).toArray
 sz:w.heap.size+1≤W.heap.size
 be:Below w.heap.size w W
theorem dv_start (id:Int) (w:Wd):DV id w (w.alloc (.cells (dV id).toArray 27)):=⟨Blk.new w _ _,by simp,(Bf _ _).alloc (Le _) _⟩
theorem dv_next (id:Int) (w W W':Wd) (h:DV id w W) (hb:Below W.heap.size W W'):DV id w W':=
 ⟨h.b1.below hb (by have:=h.sz;omega),Lx h.sz hb.size,U0 h.be hb (by have:=h.sz;omega)⟩
theorem Ho {id:Int} {w W:Wd} (h:DV id w W) (i:Nat):W.cell? ⟨w.heap.size,i,none⟩=(dV id)[i]?:=by
 rw [h.b1.cell,Ga]
theorem keyOf_a (w:Wd):Calls prog 116 #[.agg (dV 200).toArray,.string ⟨#[107,49]⟩] w fun e w'=>e = .returned (.tuple #[.string ⟨#[107]⟩,.int .i64 0])∧Below w.heap.size w w':=by
 have HB:=Hd (Blk.new w 27 (dV 200).toArray);have HX:=Hd (dv_start 200 w);have HV:Hid (∀ W,Calls prog 109 #[.agg (dV 200).toArray] W fun e w'=>e = .returned (.bool true)∧Below W.heap.size W w'):=Hd fun W=>keyValid_a 200 W
 have s1:∀ W:Wd,(Instr.slice 9 (.string ⟨#[107,49]⟩) (some (.int .i64 0)) none none).run prog W = .ok (.string ⟨#[107,49]⟩) W:=fun W=>by kernel_rfl
 have s2:∀ W:Wd,(Instr.slice 9 (.string ⟨#[107,49]⟩) none (some (.int .i64 1)) none).run prog W = .ok (.string ⟨#[107]⟩) W:=fun W=>by kernel_rfl
 go_enter Tryz.func116,Tryz.ntmps116;go_wp2_with (first|(refine Lq 27 w.heap.size _ HB.out Tryz.underlying27 ?_)|(go_at_call 109;refine (HV.out _).mono ?_;rintro e w2 ⟨rfl,hb⟩;have aM:=Hd (dv_next 200 w _ _ HX.out hb);clear hb;have c1:=(Ho aM.out 1).trans (show (dV 200)[1]? =some (.int .i64 3) from rfl);have c3:=(Ho aM.out 3).trans (show (dV 200)[3]? =some (.int .i64 8) from rfl);have c5:=(Ho aM.out 5).trans (show (dV 200)[5]? =some (.int .i64 0) from rfl);have c6:=(Ho aM.out 6).trans (show (dV 200)[6]? =some (.int .i64 1) from rfl))|(go_at_call 119;refine (within_yes _ _ _ (by decide) (by decide) _).mono ?_;rintro e w' ⟨rfl,rfl⟩))
 go_quiet (fail)
 go_wp2
 go_ret2
 exact ⟨rfl,Uf aM.out.be _⟩
theorem E5 {w:Wd} {base base':Nat} {e:TypeId} {size:Nat} {v:Value} {n:Nat} {xs:List Value} (h:w.ownsRow base e size v n xs) (hb:base'≤base):w.ownsRow base' e size v n xs:=
 ⟨h.1,h.2.imp id fun ⟨g,cap,cur,h1,h2,h3⟩=>⟨g,cap,cur,h1,Lx hb h2,h3⟩⟩
theorem allowed_a (w:Wd):Calls prog 84 #[.agg (dV 200).toArray,.agg #[.string ⟨#[107]⟩,.string ⟨#[107,49]⟩]] w fun e w'=>e = .returned (.bool true)∧Below w.heap.size w w':=by
 have HB:=Hd ((Blk.new w 27 (dV 200).toArray).alloc (.cells #[.string ⟨#[107]⟩,.string ⟨#[107,49]⟩] 76));have HP:=Hd (U3 (w.alloc (.cells (dV 200).toArray 27)) 76 #[.string ⟨#[107]⟩,.string ⟨#[107,49]⟩] (w.heap.size+1) (by simp));have HX:Hid (Below w.heap.size w ((w.alloc (.cells (dV 200).toArray 27)).alloc (.cells #[.string ⟨#[107]⟩,.string ⟨#[107,49]⟩] 76))):=Hd (((Bf _ _).alloc (Le _) _).alloc (by simp) _);have c1:((w.alloc (.cells (dV 200).toArray 27)).alloc (.cells #[.string ⟨#[107]⟩,.string ⟨#[107,49]⟩] 76)).cell? ⟨w.heap.size,1,none⟩=some (.int .i64 3):=(HB.out.cell 1).trans rfl;go_enter Tryz.func84,Tryz.ntmps84
 go_wp2_with (first|(refine Lq 27 w.heap.size _ HB.out Tryz.underlying27 ?_)|(go_at_call 116;refine (keyOf_a _).mono ?_;rintro e w2 ⟨rfl,hb⟩;have aM:=Hd (U0 HX.out hb (by simp;omega));have d0:=((HP.out.below hb (by simp)).cell 0).trans (show (#[.string ⟨#[107]⟩,.string ⟨#[107,49]⟩]:Array Value)[0]? =some (.string ⟨#[107]⟩) from rfl);clear hb));go_ret;exact ⟨rfl,aM.out⟩
def GivesRow (w:Wd) (t:TypeId) (k n:Nat) (xs:List Value) (e:Ending) (w':Wd):Prop:=∃ v,e = .returned v∧w'.ownsRow w.heap.size t k v n xs∧Below w.heap.size w w'
theorem insert_nil (vb:Nat) (xs:List Value) (w:Wd) (hs:Rd w w.heap.size 2 (some ⟨vb,0,none⟩) 1 xs) (h1:∀ u∈xs,u.oneCell'=true):
  Calls prog 159 #[.slice none 0 0,.int .i64 0,.slice (some ⟨vb,0,none⟩) 1 1] w (GivesRow w 76 2 1 xs):=by
 obtain ⟨i0,aU,aW,aK,aR⟩:=info_parts Xe;have HR:=Hd hs;have H1:=Hd h1;have HO:Hid (w.ownsRow w.heap.size 76 2 (.slice none 0 0) 0 []):=Hd ⟨rfl,.inl ⟨rfl,rfl⟩⟩;clear hs h1;go_enter Tryz.func159,Tryz.ntmps159;go_wp2_with (at_builtin;go_must (refine U5 _ rfl _ _ 28 rfl w.heap.size 76 i0 _ 2 32 Tryz.underlying28 aU aW aK aR rfl (by decide) _ 0 [] rfl HO.out w.heap.size (some ⟨vb,0,none⟩) 1 1 xs rfl HR.out H1.out (by decide) (by decide) (Le _) ?_;intro v' w' aD aO _;have aS:=Hd aD;have bQ:Hid (w.grownBy w' (Value.slice none 0 0).ownBlock):=Hd aO;clear aD aO));go_ret;exact ⟨v',rfl,by simpa using aS.out,(Bf _ _).grown bQ.out (Le _) (by intro k hk;simp [Value.ownBlock] at hk)⟩
def ef1:Array MapEntry:=#[⟨.int .i64 0,.func (.func 156) #[] #[],0⟩]
def ef2:Array MapEntry:=ef1.push ⟨.int .i64 1,.func (.func 160) #[] #[],1⟩
def ef3:Array MapEntry:=ef2.push ⟨.int .i64 2,.func (.func 163) #[] #[],2⟩
def ef4:Array MapEntry:=ef3.push ⟨.int .i64 3,.func (.func 165) #[] #[],3⟩
theorem F6 (w:Wd) (es:Array MapEntry) (c:Nat) (key:Int) (val:Value) (hf:Instr.findNow (.int .i64) (.int .i64 key) es.toList 0=some none):
  (Instr.mapUpdate 201 (.map (some w.heap.size)) (.int .i64 key) val).run prog (w.alloc (.map es c)) = .ok () (w.alloc (.map (es.push ⟨.int .i64 key,val,c⟩) (c+1))):=by
 have hb:(w.alloc (.map es c)).heap[w.heap.size]? =some (.map es c):=heap_alloc_new w _;have hc:(Instr.checkKey false 10000 3 (.int .i64 key)).run prog (w.alloc (.map es c)) = .ok () (w.alloc (.map es c)):=MapKept.run_checkKey (k:=.int .i64 key) Tryz.underlying3 (by simp [MapKept.IsKey]) false 9999
 have hs:({ w.alloc (.map es c) with heap:=(w.alloc (.map es c)).heap.setIfInBounds w.heap.size (.map (es.push ⟨.int .i64 key,val,c⟩) (c+1)) }:Wd)=w.alloc (.map (es.push ⟨.int .i64 key,val,c⟩) (c+1)):=by
  unfold World.alloc;simp only [push_set]
 simp [Instr.mapUpdate,run_underlying Tryz.underlying201,MapKept.run_getObj_map hb,hc,MapKept.run_findKey Tryz.underlying3 hf,MapKept.run_setObj_map _ hb,Result.andThen];exact hs
theorem eLook (w:Wd) (b:Nat) (hb:w.heap[b]? =some (.map ef4 4)):
  (Instr.lookup 201 (.map (some b)) (.int .i64 0) true).run prog w = .ok (.tuple #[.func (.func 156) #[] #[],.bool true]) w:=by
 have hf:Instr.findNow (.int .i64) (.int .i64 0) ef4.toList 0=some (some (0,.func (.func 156) #[] #[])):=rfl;have hc:(Instr.checkKey ef4.isEmpty 10000 3 (.int .i64 0)).run prog w = .ok () w:=MapKept.run_checkKey (k:=.int .i64 0) Tryz.underlying3 (by simp [MapKept.IsKey]) _ 9999;simp [Instr.lookup,run_underlying Tryz.underlying201,MapKept.run_getObj_map hb,hc,MapKept.run_findKey Tryz.underlying3 hf]
theorem It (w:Wd):Calls prog 127 #[] w fun e w'=>e = .returned (.map (some w.heap.size))∧w.alloc (.map ef4 4)=w':=by
 have hmm:=@run_makeMap prog;have e0:=F6 w #[] 0 0 (.func (.func 156) #[] #[]) rfl;have e1:=F6 w ef1 1 1 (.func (.func 160) #[] #[]) rfl;have e2:=F6 w ef2 2 2 (.func (.func 163) #[] #[]) rfl;have e3:=F6 w ef3 3 3 (.func (.func 165) #[] #[]) rfl;rw [show (#[]:Array MapEntry).push ⟨.int .i64 0,.func (.func 156) #[] #[],0⟩=ef1 from rfl] at e0;rw [show ef1.push ⟨.int .i64 1,.func (.func 160) #[] #[],1⟩=ef2 from rfl] at e1;rw [show ef2.push ⟨.int .i64 2,.func (.func 163) #[] #[],2⟩=ef3 from rfl] at e2;rw [show ef3.push ⟨.int .i64 3,.func (.func 165) #[] #[],3⟩=ef4 from rfl] at e3;go_enter Tryz.func127,Tryz.ntmps127;go_wp2;go_ret;exact ⟨rfl,rfl⟩
def PutP (w:Wd) (e:Ending) (w':Wd):Prop:=∃ v,e = .returned (.tuple #[v,.int .i64 0])∧w'.ownsRow w.heap.size 76 2 v 1 [.string ⟨#[107]⟩,.string ⟨#[107,49]⟩]∧Below w.heap.size w w'
structure PV (w W:Wd):Prop where
 b1:Blk W w.heap.size 27 (dV 200).toArray
 b2:Blk W (w.heap.size+1) 58 #[.int .i64 0,.int .i64 200,.string ⟨#[107]⟩,.string ⟨#[107,49]⟩,.string ⟨#[]⟩]
 b3:Blk W (w.heap.size+2) 76 #[.string ⟨#[107]⟩,.string ⟨#[107,49]⟩]
 sz:w.heap.size+3≤W.heap.size
 be:Below w.heap.size w W
def pX (w:Wd):Wd:=((w.alloc (.cells (dV 200).toArray 27)).alloc (.cells #[.int .i64 0,.int .i64 200,.string ⟨#[107]⟩,.string ⟨#[107,49]⟩,.string ⟨#[]⟩] 58)).alloc (.cells #[.string ⟨#[107]⟩,.string ⟨#[107,49]⟩] 76)
theorem pv_start (w:Wd):PV w (pX w):=
 ⟨((Blk.new w _ _).alloc _).alloc _,(U3 (w.alloc (.cells (dV 200).toArray 27)) _ _ (w.heap.size+1) (by simp)).alloc _,U3 _ _ _ _ (by simp),by simp [pX],(((Bf _ _).alloc (Le _) _).alloc (by simp) _).alloc (by simp;omega) _⟩
theorem pv_next (w W W':Wd) (h:PV w W) (hb:Below W.heap.size W W'):PV w W':=
 have hz:=h.sz
 ⟨h.b1.below hb (by omega),h.b2.below hb (by omega),h.b3.below hb (by omega),Lx h.sz hb.size,U0 h.be hb (by omega)⟩
theorem pv_0 {w W:Wd} (h:PV w W):W.cell? ⟨w.heap.size+2,0,none⟩=some (.string ⟨#[107]⟩):=(h.b3.cell 0).trans rfl
theorem pv_1 {w W:Wd} (h:PV w W):W.cell? ⟨w.heap.size+2,1,none⟩=some (.string ⟨#[107,49]⟩):=(h.b3.cell 1).trans rfl
theorem pv_2 {w W:Wd} (h:PV w W):W.cell? ⟨w.heap.size+1,2,none⟩=some (.string ⟨#[107]⟩):=(h.b2.cell 2).trans rfl
theorem pair_rd (W:Wd):Rd (W.alloc (.cells #[.string ⟨#[107]⟩,.string ⟨#[107,49]⟩] 76)) (W.alloc (.cells #[.string ⟨#[107]⟩,.string ⟨#[107,49]⟩] 76)).heap.size 2 (some ⟨W.heap.size,0,none⟩) 1 [.string ⟨#[107]⟩,.string ⟨#[107,49]⟩]:=
 (Vw W [.string ⟨#[107]⟩,.string ⟨#[107,49]⟩] 76 1 2 rfl).more (by simp)
theorem pair_one:∀ u∈([.string ⟨#[107]⟩,.string ⟨#[107,49]⟩]:List Value),u.oneCell'=true:=by
 intro u hu;simp at hu;rcases hu with rfl|rfl<;>rfl
theorem put_end (w W w':Wd) (h:PV w W) (e:Ending) (hg:GivesRow (W.alloc (.cells #[.string ⟨#[107]⟩,.string ⟨#[107,49]⟩] 76)) 76 2 1 [.string ⟨#[107]⟩,.string ⟨#[107,49]⟩] e w'):
  ∃ v,e = .returned v∧w'.ownsRow w.heap.size 76 2 v 1 [.string ⟨#[107]⟩,.string ⟨#[107,49]⟩]∧Below w.heap.size w w':=by
 obtain ⟨v,h1,h2,h3⟩:=hg;have hz:=h.sz;refine ⟨v,h1,E5 h2 (by simp;omega),U0 (h.be.alloc (by omega) _) h3 (by simp;omega)⟩
theorem put_a (w:Wd):Calls prog 156 #[.agg (dV 200).toArray,.slice none 0 0,.agg #[.int .i64 0,.int .i64 200,.string ⟨#[107]⟩,.string ⟨#[107,49]⟩,.string ⟨#[]⟩]] w (PutP w):=by
 have HX:Hid (PV w (((w.alloc (.cells (dV 200).toArray 27)).alloc (.cells #[.int .i64 0,.int .i64 200,.string ⟨#[107]⟩,.string ⟨#[107,49]⟩,.string ⟨#[]⟩] 58)).alloc (.cells #[.string ⟨#[107]⟩,.string ⟨#[107,49]⟩] 76))):=Hd (pv_start w);have HD:=Hd fun W=>direct_a 200 W
 have HI:=Hd fun vb W hs=>insert_nil vb [.string ⟨#[107]⟩,.string ⟨#[107,49]⟩] W hs pair_one
 have HE:=Hd fun W w' h e hg=>put_end w W w' h e hg
 go_enter Tryz.func156,Tryz.ntmps156
 go_wp2_with (first|(refine Lq 27 w.heap.size _ HX.out.b1 Tryz.underlying27 ?_)|(refine Lq 27 w.heap.size _ aM.out.b1 Tryz.underlying27 ?_)|(go_at_call 157;refine (HD.out _).mono ?_;rintro e w2 ⟨rfl,hb⟩;have aM:=Hd (pv_next w _ _ HX.out hb);clear hb;have c0:=pv_0 aM.out;have c1:=pv_1 aM.out)|(go_at_call 84;refine (allowed_a _).mono ?_;rintro e w3 ⟨rfl,hb⟩;have aP:=Hd (pv_next w _ _ aM.out hb);clear hb c0 c1;have c2:=pv_2 aP.out)|(go_at_call 158;refine (find_nil _ _).mono ?_;rintro e w4 ⟨rfl,hb⟩;have aX:=Hd (pv_next w _ _ aP.out hb);clear hb c2;have c0:=pv_0 aX.out;have c1:=pv_1 aX.out)|(go_at_call 159;refine (HI.out _ _ (pair_rd _)).mono ?_;intro e w5 hgv;obtain ⟨v,rfl,aD,aE⟩:=HE.out _ _ aX.out _ hgv;have eW:=Hd aD;have bG:=Hd aE;clear hgv aD aE))
 go_ret2
 exact ⟨v,rfl,eW.out,bG.out⟩
end Go.Proofs.YtoakknkmjnebjaaGreatDoor
