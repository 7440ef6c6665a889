/- Of HistorySwaps. -/
import Derived.Test.YtoakknkmjnebjaaGreatDoorSAF
namespace Go.Proofs.YtoakknkmjnebjaaGreatDoor
open Tryz (prog)
set_option maxRecDepth 100000
set_option maxHeartbeats 4000000
open Go.RowKit
theorem fE_none (k:Int) (h:k<0∨7<k) (b:Nat):Instr.findNow (.int .i64) (.int .i64 k) (fE8 b).toList 0=some none:=by
 have hs:=MapKept.findNow_spec (d:=.int .i64) (k:=.int .i64 k) (by simp [MapKept.IsKey]) (fE8 b).toList 0 (by simp [fE8,fE7,fE6,fE5,fE4,fE3,fE2,fE1,MapKept.IsKey]);rcases hs with ⟨h1,_⟩|⟨j,e,_,h2,h3⟩
 ·exact h1
 ·exfalso;have hm:=List.mem_of_getElem? h2;simp [fE8,fE7,fE6,fE5,fE4,fE3,fE2,fE1] at hm;rcases hm with rfl|rfl|rfl|rfl|rfl|rfl|rfl|rfl<;>(simp at h3;omega)
theorem chValid_none (k id:Int) (key rcd vol:Bz) (w:Wd) (hk:k<0∨7<k):
  Calls prog 59 #[.agg #[.int .i64 k,.int .i64 id,.string key,.string rcd,.string vol]] w fun e w'=>e = .returned (.bool false)∧Below w.heap.size w w':=by
 have hf:=fE_none k hk;clear hk;have s1:(((((w.alloc (.cells #[.int .i64 k,.int .i64 id,.string key,.string rcd,.string vol] 58)).alloc (.cells #[.int .i64 1,.int .i64 32] 135)).alloc (.cells #[.int .i64 0,.int .i64 400] 135)).alloc (.cells #[.func (.func 100) #[] #[]] 136)).alloc (.map (fE8 (w.heap.size+3)) 8)).cell? ⟨w.heap.size,0,none⟩=some (.int .i64 k):=((((((Blk.new w _ _).alloc _).alloc _).alloc _).alloc _)).cell 0
 have l1:(Instr.lookup 140 (.map (some (w.heap.size+4))) (.int .i64 k) true).run prog (((((w.alloc (.cells #[.int .i64 k,.int .i64 id,.string key,.string rcd,.string vol] 58)).alloc (.cells #[.int .i64 1,.int .i64 32] 135)).alloc (.cells #[.int .i64 0,.int .i64 400] 135)).alloc (.cells #[.func (.func 100) #[] #[]] 136)).alloc (.map (fE8 (w.heap.size+3)) 8)) = .ok (.tuple #[.agg #[.string ⟨#[]⟩,.int .i64 0,.int .i64 0,.int .i64 0,.int .i64 0,.bool false,.nilFunc],.bool false]) (((((w.alloc (.cells #[.int .i64 k,.int .i64 id,.string key,.string rcd,.string vol] 58)).alloc (.cells #[.int .i64 1,.int .i64 32] 135)).alloc (.cells #[.int .i64 0,.int .i64 400] 135)).alloc (.cells #[.func (.func 100) #[] #[]] 136)).alloc (.map (fE8 (w.heap.size+3)) 8)):=Eg (((((w.alloc (.cells #[.int .i64 k,.int .i64 id,.string key,.string rcd,.string vol] 58)).alloc (.cells #[.int .i64 1,.int .i64 32] 135)).alloc (.cells #[.int .i64 0,.int .i64 400] 135)).alloc (.cells #[.func (.func 100) #[] #[]] 136)).alloc (.map (fE8 (w.heap.size+3)) 8)) (w.heap.size+4) (fE8 (w.heap.size+3)) 8 k (Ur ((((w.alloc (.cells #[.int .i64 k,.int .i64 id,.string key,.string rcd,.string vol] 58)).alloc (.cells #[.int .i64 1,.int .i64 32] 135)).alloc (.cells #[.int .i64 0,.int .i64 400] 135)).alloc (.cells #[.func (.func 100) #[] #[]] 136)) (.map (fE8 (w.heap.size+3)) 8) _ (by simp)) (hf _)
 have l1d:(Instr.lookup 140 (.map (some (w.heap.size+4))) (.int .i64 k) true).run prog (((((w.alloc (.cells #[.int .i64 k,.int .i64 id,.string key,.string rcd,.string vol] 58)).alloc (.cells #[.int .i64 1,.int .i64 32] 135)).alloc (.cells #[.int .i64 0,.int .i64 400] 135)).alloc (.cells #[.func (.func 100) #[] #[]] 136)).alloc (.map (fE8 (w.heap.size+3)) 8)).drew = .ok (.tuple #[.agg #[.string ⟨#[]⟩,.int .i64 0,.int .i64 0,.int .i64 0,.int .i64 0,.bool false,.nilFunc],.bool false]) (((((w.alloc (.cells #[.int .i64 k,.int .i64 id,.string key,.string rcd,.string vol] 58)).alloc (.cells #[.int .i64 1,.int .i64 32] 135)).alloc (.cells #[.int .i64 0,.int .i64 400] 135)).alloc (.cells #[.func (.func 100) #[] #[]] 136)).alloc (.map (fE8 (w.heap.size+3)) 8)).drew:=Eg (((((w.alloc (.cells #[.int .i64 k,.int .i64 id,.string key,.string rcd,.string vol] 58)).alloc (.cells #[.int .i64 1,.int .i64 32] 135)).alloc (.cells #[.int .i64 0,.int .i64 400] 135)).alloc (.cells #[.func (.func 100) #[] #[]] 136)).alloc (.map (fE8 (w.heap.size+3)) 8)).drew (w.heap.size+4) (fE8 (w.heap.size+3)) 8 k (Ur ((((w.alloc (.cells #[.int .i64 k,.int .i64 id,.string key,.string rcd,.string vol] 58)).alloc (.cells #[.int .i64 1,.int .i64 32] 135)).alloc (.cells #[.int .i64 0,.int .i64 400] 135)).alloc (.cells #[.func (.func 100) #[] #[]] 136)) (.map (fE8 (w.heap.size+3)) 8) _ (by simp)) (hf _)
 have l2:(Instr.lookup 140 (.map (some (w.heap.size+4))) (.int .i64 k) true).run prog ((((((w.alloc (.cells #[.int .i64 k,.int .i64 id,.string key,.string rcd,.string vol] 58)).alloc (.cells #[.int .i64 1,.int .i64 32] 135)).alloc (.cells #[.int .i64 0,.int .i64 400] 135)).alloc (.cells #[.func (.func 100) #[] #[]] 136)).alloc (.map (fE8 (w.heap.size+3)) 8)).alloc (.cells #[.string ⟨#[]⟩,.int .i64 0,.int .i64 0,.int .i64 0,.int .i64 0,.bool false,.nilFunc] 138)) = .ok (.tuple #[.agg #[.string ⟨#[]⟩,.int .i64 0,.int .i64 0,.int .i64 0,.int .i64 0,.bool false,.nilFunc],.bool false]) ((((((w.alloc (.cells #[.int .i64 k,.int .i64 id,.string key,.string rcd,.string vol] 58)).alloc (.cells #[.int .i64 1,.int .i64 32] 135)).alloc (.cells #[.int .i64 0,.int .i64 400] 135)).alloc (.cells #[.func (.func 100) #[] #[]] 136)).alloc (.map (fE8 (w.heap.size+3)) 8)).alloc (.cells #[.string ⟨#[]⟩,.int .i64 0,.int .i64 0,.int .i64 0,.int .i64 0,.bool false,.nilFunc] 138)):=Eg ((((((w.alloc (.cells #[.int .i64 k,.int .i64 id,.string key,.string rcd,.string vol] 58)).alloc (.cells #[.int .i64 1,.int .i64 32] 135)).alloc (.cells #[.int .i64 0,.int .i64 400] 135)).alloc (.cells #[.func (.func 100) #[] #[]] 136)).alloc (.map (fE8 (w.heap.size+3)) 8)).alloc (.cells #[.string ⟨#[]⟩,.int .i64 0,.int .i64 0,.int .i64 0,.int .i64 0,.bool false,.nilFunc] 138)) (w.heap.size+4) (fE8 (w.heap.size+3)) 8 k ((Below.heap_alloc (((((w.alloc (.cells #[.int .i64 k,.int .i64 id,.string key,.string rcd,.string vol] 58)).alloc (.cells #[.int .i64 1,.int .i64 32] 135)).alloc (.cells #[.int .i64 0,.int .i64 400] 135)).alloc (.cells #[.func (.func 100) #[] #[]] 136)).alloc (.map (fE8 (w.heap.size+3)) 8)) (.cells #[.string ⟨#[]⟩,.int .i64 0,.int .i64 0,.int .i64 0,.int .i64 0,.bool false,.nilFunc] 138) _ (by simp)).trans (Ur ((((w.alloc (.cells #[.int .i64 k,.int .i64 id,.string key,.string rcd,.string vol] 58)).alloc (.cells #[.int .i64 1,.int .i64 32] 135)).alloc (.cells #[.int .i64 0,.int .i64 400] 135)).alloc (.cells #[.func (.func 100) #[] #[]] 136)) (.map (fE8 (w.heap.size+3)) 8) _ (by simp))) (hf _)
 have l2d:(Instr.lookup 140 (.map (some (w.heap.size+4))) (.int .i64 k) true).run prog ((((((w.alloc (.cells #[.int .i64 k,.int .i64 id,.string key,.string rcd,.string vol] 58)).alloc (.cells #[.int .i64 1,.int .i64 32] 135)).alloc (.cells #[.int .i64 0,.int .i64 400] 135)).alloc (.cells #[.func (.func 100) #[] #[]] 136)).alloc (.map (fE8 (w.heap.size+3)) 8)).alloc (.cells #[.string ⟨#[]⟩,.int .i64 0,.int .i64 0,.int .i64 0,.int .i64 0,.bool false,.nilFunc] 138)).drew = .ok (.tuple #[.agg #[.string ⟨#[]⟩,.int .i64 0,.int .i64 0,.int .i64 0,.int .i64 0,.bool false,.nilFunc],.bool false]) ((((((w.alloc (.cells #[.int .i64 k,.int .i64 id,.string key,.string rcd,.string vol] 58)).alloc (.cells #[.int .i64 1,.int .i64 32] 135)).alloc (.cells #[.int .i64 0,.int .i64 400] 135)).alloc (.cells #[.func (.func 100) #[] #[]] 136)).alloc (.map (fE8 (w.heap.size+3)) 8)).alloc (.cells #[.string ⟨#[]⟩,.int .i64 0,.int .i64 0,.int .i64 0,.int .i64 0,.bool false,.nilFunc] 138)).drew:=Eg ((((((w.alloc (.cells #[.int .i64 k,.int .i64 id,.string key,.string rcd,.string vol] 58)).alloc (.cells #[.int .i64 1,.int .i64 32] 135)).alloc (.cells #[.int .i64 0,.int .i64 400] 135)).alloc (.cells #[.func (.func 100) #[] #[]] 136)).alloc (.map (fE8 (w.heap.size+3)) 8)).alloc (.cells #[.string ⟨#[]⟩,.int .i64 0,.int .i64 0,.int .i64 0,.int .i64 0,.bool false,.nilFunc] 138)).drew (w.heap.size+4) (fE8 (w.heap.size+3)) 8 k ((Below.heap_alloc (((((w.alloc (.cells #[.int .i64 k,.int .i64 id,.string key,.string rcd,.string vol] 58)).alloc (.cells #[.int .i64 1,.int .i64 32] 135)).alloc (.cells #[.int .i64 0,.int .i64 400] 135)).alloc (.cells #[.func (.func 100) #[] #[]] 136)).alloc (.map (fE8 (w.heap.size+3)) 8)) (.cells #[.string ⟨#[]⟩,.int .i64 0,.int .i64 0,.int .i64 0,.int .i64 0,.bool false,.nilFunc] 138) _ (by simp)).trans (Ur ((((w.alloc (.cells #[.int .i64 k,.int .i64 id,.string key,.string rcd,.string vol] 58)).alloc (.cells #[.int .i64 1,.int .i64 32] 135)).alloc (.cells #[.int .i64 0,.int .i64 400] 135)).alloc (.cells #[.func (.func 100) #[] #[]] 136)) (.map (fE8 (w.heap.size+3)) 8) _ (by simp))) (hf _)
 have s3:((((((w.alloc (.cells #[.int .i64 k,.int .i64 id,.string key,.string rcd,.string vol] 58)).alloc (.cells #[.string ⟨#[]⟩,.int .i64 0,.int .i64 0,.int .i64 0,.int .i64 0,.bool false,.nilFunc] 138)).alloc (.cells #[.int .i64 1,.int .i64 32] 135)).alloc (.cells #[.int .i64 0,.int .i64 400] 135)).alloc (.cells #[.func (.func 100) #[] #[]] 136)).alloc (.map (fE8 (w.heap.size+4)) 8)).cell? ⟨w.heap.size,0,none⟩=some (.int .i64 k):=(((((((Blk.new w _ _).alloc _).alloc _).alloc _).alloc _).alloc _)).cell 0
 have l3:(Instr.lookup 140 (.map (some (w.heap.size+5))) (.int .i64 k) true).run prog ((((((w.alloc (.cells #[.int .i64 k,.int .i64 id,.string key,.string rcd,.string vol] 58)).alloc (.cells #[.string ⟨#[]⟩,.int .i64 0,.int .i64 0,.int .i64 0,.int .i64 0,.bool false,.nilFunc] 138)).alloc (.cells #[.int .i64 1,.int .i64 32] 135)).alloc (.cells #[.int .i64 0,.int .i64 400] 135)).alloc (.cells #[.func (.func 100) #[] #[]] 136)).alloc (.map (fE8 (w.heap.size+4)) 8)) = .ok (.tuple #[.agg #[.string ⟨#[]⟩,.int .i64 0,.int .i64 0,.int .i64 0,.int .i64 0,.bool false,.nilFunc],.bool false]) ((((((w.alloc (.cells #[.int .i64 k,.int .i64 id,.string key,.string rcd,.string vol] 58)).alloc (.cells #[.string ⟨#[]⟩,.int .i64 0,.int .i64 0,.int .i64 0,.int .i64 0,.bool false,.nilFunc] 138)).alloc (.cells #[.int .i64 1,.int .i64 32] 135)).alloc (.cells #[.int .i64 0,.int .i64 400] 135)).alloc (.cells #[.func (.func 100) #[] #[]] 136)).alloc (.map (fE8 (w.heap.size+4)) 8)):=Eg ((((((w.alloc (.cells #[.int .i64 k,.int .i64 id,.string key,.string rcd,.string vol] 58)).alloc (.cells #[.string ⟨#[]⟩,.int .i64 0,.int .i64 0,.int .i64 0,.int .i64 0,.bool false,.nilFunc] 138)).alloc (.cells #[.int .i64 1,.int .i64 32] 135)).alloc (.cells #[.int .i64 0,.int .i64 400] 135)).alloc (.cells #[.func (.func 100) #[] #[]] 136)).alloc (.map (fE8 (w.heap.size+4)) 8)) (w.heap.size+5) (fE8 (w.heap.size+4)) 8 k (Ur (((((w.alloc (.cells #[.int .i64 k,.int .i64 id,.string key,.string rcd,.string vol] 58)).alloc (.cells #[.string ⟨#[]⟩,.int .i64 0,.int .i64 0,.int .i64 0,.int .i64 0,.bool false,.nilFunc] 138)).alloc (.cells #[.int .i64 1,.int .i64 32] 135)).alloc (.cells #[.int .i64 0,.int .i64 400] 135)).alloc (.cells #[.func (.func 100) #[] #[]] 136)) (.map (fE8 (w.heap.size+4)) 8) _ (by simp)) (hf _)
 have l3d:(Instr.lookup 140 (.map (some (w.heap.size+5))) (.int .i64 k) true).run prog ((((((w.alloc (.cells #[.int .i64 k,.int .i64 id,.string key,.string rcd,.string vol] 58)).alloc (.cells #[.string ⟨#[]⟩,.int .i64 0,.int .i64 0,.int .i64 0,.int .i64 0,.bool false,.nilFunc] 138)).alloc (.cells #[.int .i64 1,.int .i64 32] 135)).alloc (.cells #[.int .i64 0,.int .i64 400] 135)).alloc (.cells #[.func (.func 100) #[] #[]] 136)).alloc (.map (fE8 (w.heap.size+4)) 8)).drew = .ok (.tuple #[.agg #[.string ⟨#[]⟩,.int .i64 0,.int .i64 0,.int .i64 0,.int .i64 0,.bool false,.nilFunc],.bool false]) ((((((w.alloc (.cells #[.int .i64 k,.int .i64 id,.string key,.string rcd,.string vol] 58)).alloc (.cells #[.string ⟨#[]⟩,.int .i64 0,.int .i64 0,.int .i64 0,.int .i64 0,.bool false,.nilFunc] 138)).alloc (.cells #[.int .i64 1,.int .i64 32] 135)).alloc (.cells #[.int .i64 0,.int .i64 400] 135)).alloc (.cells #[.func (.func 100) #[] #[]] 136)).alloc (.map (fE8 (w.heap.size+4)) 8)).drew:=Eg ((((((w.alloc (.cells #[.int .i64 k,.int .i64 id,.string key,.string rcd,.string vol] 58)).alloc (.cells #[.string ⟨#[]⟩,.int .i64 0,.int .i64 0,.int .i64 0,.int .i64 0,.bool false,.nilFunc] 138)).alloc (.cells #[.int .i64 1,.int .i64 32] 135)).alloc (.cells #[.int .i64 0,.int .i64 400] 135)).alloc (.cells #[.func (.func 100) #[] #[]] 136)).alloc (.map (fE8 (w.heap.size+4)) 8)).drew (w.heap.size+5) (fE8 (w.heap.size+4)) 8 k (Ur (((((w.alloc (.cells #[.int .i64 k,.int .i64 id,.string key,.string rcd,.string vol] 58)).alloc (.cells #[.string ⟨#[]⟩,.int .i64 0,.int .i64 0,.int .i64 0,.int .i64 0,.bool false,.nilFunc] 138)).alloc (.cells #[.int .i64 1,.int .i64 32] 135)).alloc (.cells #[.int .i64 0,.int .i64 400] 135)).alloc (.cells #[.func (.func 100) #[] #[]] 136)) (.map (fE8 (w.heap.size+4)) 8) _ (by simp)) (hf _)
 have s5:((((((w.alloc (.cells #[.int .i64 k,.int .i64 id,.string key,.string rcd,.string vol] 58)).alloc (.cells #[.string ⟨#[]⟩,.int .i64 0,.int .i64 0,.int .i64 0,.int .i64 0,.bool false,.nilFunc] 138)).alloc (.cells #[.int .i64 1,.int .i64 32] 135)).alloc (.cells #[.int .i64 0,.int .i64 400] 135)).alloc (.cells #[.func (.func 100) #[] #[]] 136)).alloc (.map (fE8 (w.heap.size+4)) 8)).cell? ⟨w.heap.size,0,none⟩=some (.int .i64 k):=((((((Blk.new w _ _).alloc _).alloc _).alloc _).alloc _).alloc _).cell 0
 have s6:((((((w.alloc (.cells #[.int .i64 k,.int .i64 id,.string key,.string rcd,.string vol] 58)).alloc (.cells #[.int .i64 1,.int .i64 32] 135)).alloc (.cells #[.int .i64 0,.int .i64 400] 135)).alloc (.cells #[.func (.func 100) #[] #[]] 136)).alloc (.map (fE8 (w.heap.size+3)) 8)).alloc (.cells #[.string ⟨#[]⟩,.int .i64 0,.int .i64 0,.int .i64 0,.int .i64 0,.bool false,.nilFunc] 138)).cell? ⟨w.heap.size,0,none⟩=some (.int .i64 k):=((((((Blk.new w _ _).alloc _).alloc _).alloc _).alloc _).alloc _).cell 0;clear hf;go_enter Tryz.func59,Tryz.ntmps59;go_wp2_with fail
 go_upto_region 2 with (fail)
 go_cut [3,4] (fun v3 v4 wx => ∃ g,v3 = .pointer (some ⟨g,0,none⟩)∧v4 = .bool false∧VInv w #[.int .i64 k,.int .i64 id,.string key,.string rcd,.string vol] ⟨#[]⟩ 0 0 0 0 false g wx)
 case first=>
  go_region_held3 (fun w'=>w'.cell? ⟨w.heap.size,0,none⟩=some (.int .i64 k)) (first|go_keep|exact s1|exact s3|exact s5|exact s6) ((go_at_call 76;refine (Fy _).mono ?_;rintro e w' ⟨rfl,rfl⟩))
  all_goals
   go_wp2_with fail
   go_meet
  all_goals
   first
    |exact ⟨_,rfl,rfl,vinv_a _ _ _ _ _ _ _ _ _ _ _ _ _ _ rfl⟩
    |exact ⟨_,rfl,rfl,vinv_b _ _ _ _ _ _ _ _ _ _ _ _ _ _ rfl⟩
 case rest=>
  clear l1 l1d l2 l2d l3 l3d s1 s3 s5 s6;obtain ⟨g,rfl,rfl,k1,⟨s0,k2⟩,k3,k4⟩:=hcut;obtain ⟨wx,rfl⟩:∃ x:Wd,x=wc:=⟨_,rfl⟩
  have K3:=Hd k3;clear k1 k2 k3 k4;go_wp2;go_ret;exact ⟨rfl,K3.out⟩
def chB (k id:Int) (key rcd vol:Bz):Bool:=
 if k=0 then I0 id 1 32 1 200 false key rcd vol
 else if k=1 then I0 id 1 32 0 0 false key rcd vol
 else if k=2 then I0 id 0 0 0 1000 false key rcd vol
 else if k=3 then I0 id 0 0 0 0 false key rcd vol
 else if k=4 then I0 id 0 0 0 400 true key rcd vol
 else if k=5 then I0 id 0 0 0 0 true key rcd vol
 else if k=6 then I0 id 0 0 0 400 true key rcd vol
 else if k=7 then I0 id 0 0 0 400 true key rcd vol
 else false
theorem Iy (k id:Int) (key rcd vol:Bz) (w:Wd) (hv:vol.size≤maxLen):
  Calls prog 59 #[.agg #[.int .i64 k,.int .i64 id,.string key,.string rcd,.string vol]] w fun e w'=>e = .returned (.bool (chB k id key rcd vol))∧Below w.heap.size w w':=by
 by_cases h0:k=0
 ·subst h0;exact X0 0 id key rcd vol w _ 1 32 1 200 false (fun _=>0) (.func 103) (fun b=>#[.pointer (some ⟨b,0,none⟩)]) (fun b=>rfl) hv
 by_cases h1:k=1
 ·subst h1;exact X0 1 id key rcd vol w _ 1 32 0 0 false (fun _=>1) (.func 105) (fun _=>#[]) (fun b=>rfl) hv
 by_cases h2:k=2
 ·subst h2;exact X0 2 id key rcd vol w _ 0 0 0 1000 false (fun _=>2) (.func 100) (fun _=>#[]) (fun b=>rfl) hv
 by_cases h3:k=3
 ·subst h3;exact chValid_nil 3 id key rcd vol w _ 0 0 0 0 false (fun _=>3) (fun b=>rfl) hv
 by_cases h4:k=4
 ·subst h4;exact X0 4 id key rcd vol w _ 0 0 0 400 true (fun _=>4) (.func 102) (fun _=>#[]) (fun b=>rfl) hv
 by_cases h5:k=5
 ·subst h5;exact X0 5 id key rcd vol w _ 0 0 0 0 true (fun _=>5) (.func 102) (fun _=>#[]) (fun b=>rfl) hv
 by_cases h6:k=6
 ·subst h6;exact X0 6 id key rcd vol w _ 0 0 0 400 true (fun _=>6) (.func 102) (fun _=>#[]) (fun b=>rfl) hv
 by_cases h7:k=7
 ·subst h7;exact X0 7 id key rcd vol w _ 0 0 0 400 true (fun _=>7) (.func 102) (fun _=>#[]) (fun b=>rfl) hv
 have e:chB k id key rcd vol=false:=by
  unfold chB;rw [if_neg h0,if_neg h1,if_neg h2,if_neg h3,if_neg h4,if_neg h5,if_neg h6,if_neg h7]
 rw [e];exact chValid_none k id key rcd vol w (by omega)
section
section
variable {P:Program} {ops:Array Oper} {rest:List Oper} {o:Oper} {a:Act} {w:Wd} {Q:Exit→Act→Wd→Prop}
theorem Ul (hw:Region.wanted o (yielded ops a.tmps)=true) (ty:TypeId) (x:Operand) (ho:o.op = .load ty x)
  (b s:Nat) (hx:a.eval x = .pointer (some ⟨b,s,none⟩)) (cs:List Value) (d:TypeDesc) (hc:w.rangeAt b s cs)
  (hu:P.underlying ty=some d) (hd:d.isRow=true) (hi:(P.info? ty).map (·.size)=some cs.length)
  (h:wpList P ops Q rest (a.put o.dst (.agg cs.toArray)) w):wpList P ops Q (o::rest) a w:=
 Yj hw fun _ hK=>wp_load_mid ty x ho b s hx cs d hc hu hd hi (hK _ _ h)
end
theorem Blk.range {w:Wd} {g:Nat} {t:TypeId} {cs:Array Value} (h:Blk w g t cs) (o:Nat) (xs:List Value) (hx:∀ j v,xs[j]? =some v→cs[o+j]? =some v):w.rangeAt g o xs:=
 fun j v hv=>(h.cell (o+j)).trans (hx j v hv)
def bV (v:Value):List Value:=dV 200++[.int .i64 5,v]
def nV:List Value:=[.int .i64 5,.int .i64 0,.int .i64 200,.string ⟨#[107]⟩,.string ⟨#[107,49]⟩,.string ⟨#[]⟩]
def cV:List Value:=[.int .i64 0,.int .i64 200,.string ⟨#[107]⟩,.string ⟨#[107,49]⟩,.string ⟨#[]⟩]
theorem app_at {xs ys:List Value} {j:Nat} {v:Value} (h:xs[j]? =some v):(xs++ys).toArray[0+j]? =some v:=by
 obtain ⟨hj,_⟩:=List.getElem?_eq_some_iff.1 h;rw [Ga,Nat.zero_add,List.getElem?_append_left hj,h]
theorem nV_at {j:Nat} {v:Value} (h:cV[j]? =some v):nV.toArray[1+j]? =some v:=by
 rw [Ga,Nat.add_comm];exact h
theorem bV_one (g c:Nat):(bV (.slice (some ⟨g,0,none⟩) 1 c)).toArray.all (·.oneCell')=true:=by simp [bV,dV,Value.oneCell']
structure EV (w W:Wd):Prop where
 b1:Blk W w.heap.size 30 (aV 200).toArray
 b2:Blk W (w.heap.size+1) 127 nV.toArray
 b3:∃ old,old.size=23∧Blk W (w.heap.size+2) 30 old
 sz:w.heap.size+3≤W.heap.size
 be:Below w.heap.size w W
theorem Y6 (w:Wd) (old:Array Value) (h:old.size=23):EV w (((w.alloc (.cells (aV 200).toArray 30)).alloc (.cells nV.toArray 127)).alloc (.cells old 30)):=
 ⟨((Blk.new w _ _).alloc _).alloc _,(U3 (w.alloc (.cells (aV 200).toArray 30)) _ _ (w.heap.size+1) (by simp)).alloc _,⟨old,h,U3 _ _ _ _ (by simp)⟩,by simp,(((Bf _ _).alloc (Le _) _).alloc (by simp) _).alloc (by simp;omega) _⟩
theorem F4 (w W W':Wd) (h:EV w W) (hb:Below W.heap.size W W'):EV w W':=
 have hz:=h.sz
 ⟨h.b1.below hb (by omega),h.b2.below hb (by omega),let ⟨o,h1,h2⟩:=h.b3;⟨o,h1,h2.below hb (by omega)⟩,Lx h.sz hb.size,U0 h.be hb (by omega)⟩
theorem ev_r1 {w W:Wd} (h:EV w W):W.rangeAt w.heap.size 0 (dV 200):=h.b1.range 0 _ fun _ _ hv=>app_at hv
theorem ev_r2 {w W:Wd} (h:EV w W):W.rangeAt (w.heap.size+1) 1 cV:=h.b2.range 1 _ fun _ _ hv=>nV_at hv
theorem ev_0 {w W:Wd} (h:EV w W):W.cell? ⟨w.heap.size,0,none⟩=some (.int .i64 200):=(h.b1.cell 0).trans rfl
theorem ev_21 {w W:Wd} (h:EV w W):W.cell? ⟨w.heap.size,21,none⟩=some (.int .i64 4):=(h.b1.cell 21).trans rfl
theorem ev_22 {w W:Wd} (h:EV w W):W.cell? ⟨w.heap.size,22,none⟩=some (.slice none 0 0):=(h.b1.cell 22).trans rfl
theorem ev_n0 {w W:Wd} (h:EV w W):W.cell? ⟨w.heap.size+1,0,none⟩=some (.int .i64 5):=(h.b2.cell 0).trans rfl
theorem ev_n1 {w W:Wd} (h:EV w W):W.cell? ⟨w.heap.size+1,1,none⟩=some (.int .i64 0):=(h.b2.cell 1).trans rfl
theorem ev_n2 {w W:Wd} (h:EV w W):W.cell? ⟨w.heap.size+1,2,none⟩=some (.int .i64 200):=(h.b2.cell 2).trans rfl
def DoP (w:Wd) (e:Ending) (w':Wd):Prop:=∃ g c,e = .returned (.tuple #[.agg (bV (.slice (some ⟨g,0,none⟩) 1 c)).toArray,.int .i64 0]) ∧
 w'.ownsRow w.heap.size 76 2 (.slice (some ⟨g,0,none⟩) 1 c) 1 [.string ⟨#[107]⟩,.string ⟨#[107,49]⟩]∧Below w.heap.size w w'
theorem U6 {B g:Nat} {w0 w:Wd} (hb:Below B w0 w) (hBg:B≤g) (cs:Array Value):Below B w0 (w.setRow g cs):=
 hb.trans ⟨rfl,rfl,rfl,by simp,fun k hk=>setRow_other w g k cs (by omega)⟩
theorem do_end (w W:Wd) (g c:Nat) (h:EV w W) (ho:W.ownsRow (w.heap.size+3) 76 2 (.slice (some ⟨g,0,none⟩) 1 c) 1 [.string ⟨#[107]⟩,.string ⟨#[107,49]⟩]) (cs:Array Value):
  (W.setRow (w.heap.size+2) cs).ownsRow w.heap.size 76 2 (.slice (some ⟨g,0,none⟩) 1 c) 1 [.string ⟨#[107]⟩,.string ⟨#[107,49]⟩]∧Below w.heap.size w (W.setRow (w.heap.size+2) cs):=by
 have hg:=(ho.lt g rfl).1;refine ⟨E5 (base:=w.heap.size+3) ?_ (by omega),U6 h.be (by omega) _⟩;refine ho.kept (row:=some (w.heap.size+2)) ⟨rfl,rfl,rfl,by simp,fun k _ hk=>setRow_other W _ k cs (fun e=>hk (by rw [e]))⟩ (.inr ?_);simp [Value.ownBlock];omega
theorem Uw (W:Wd) (b:Nat) (cs:Array Value) (h:Blk W b 30 cs) (hs:cs.size=23):(loadVar 30 ⟨b,0,none⟩).run prog W = .ok (.agg cs) W:=
 run_loadVar_row W b 30 30 cs (0,0) _ h Tryz.underlying30 rfl (by rw [hs];kernel_rfl)
theorem U4 {P:Program} {fn:Func} {tmps:Array Value} {p q:Nat} {t:TypeId} {b:Nat} {c v:Value} {W:Wd} (h:fn.results=#[.cell p t,.tmp q]) (hp:tmps.getD p undef = .pointer (some ⟨b,0,none⟩)) (hq:tmps.getD q undef=v)
  (hl:(loadVar t ⟨b,0,none⟩).run P W = .ok c W):(results fn tmps).run P W = .ok (.tuple #[c,v]) W:=by
 have hp':tmps[p]?.getD undef = .pointer (some ⟨b,0,none⟩):=by simpa using hp
 have hq':tmps[q]?.getD undef=v:=by simpa using hq
 simp [results,h,hp',hq',asAddr,hl]
theorem put_split (w W W':Wd) (h:EV w W) (e:Ending) (hp:PutP W e W'):∃ g c,e = .returned (.tuple #[.slice (some ⟨g,0,none⟩) 1 c,.int .i64 0])∧EV w W'∧W'.ownsRow (w.heap.size+3) 76 2 (.slice (some ⟨g,0,none⟩) 1 c) 1 [.string ⟨#[107]⟩,.string ⟨#[107,49]⟩]:=by
 obtain ⟨v,rfl,h2,h3⟩:=hp;obtain ⟨g,c,rfl,_⟩:=Zt h2 (by decide);exact ⟨g,c,rfl,F4 w _ _ h h3,E5 h2 h.sz⟩
theorem Ev (W:Wd):Below W.heap.size W (W.alloc (.map ef4 4)):=(Bf _ _).alloc (Le _) _
theorem ev_drew {w W:Wd} (h:EV w W):EV w W.drew:=⟨h.b1,h.b2,h.b3,h.sz,h.be.drew⟩
theorem do_a (w:Wd):Calls prog 88 #[.agg (aV 200).toArray,.agg nV.toArray] w (DoP w):=by
 have c0:(((w.alloc (.cells (aV 200).toArray 30)).alloc (.cells nV.toArray 127)).alloc (.cells zV.toArray 30)).cell? ⟨w.heap.size,0,none⟩=some (.int .i64 200):=ev_0 (Y6 w _ rfl);have c21:(((w.alloc (.cells (aV 200).toArray 30)).alloc (.cells nV.toArray 127)).alloc (.cells zV.toArray 30)).cell? ⟨w.heap.size,21,none⟩=some (.int .i64 4):=ev_21 (Y6 w _ rfl);have c22:(((w.alloc (.cells (aV 200).toArray 30)).alloc (.cells nV.toArray 127)).alloc (.cells zV.toArray 30)).cell? ⟨w.heap.size,22,none⟩=some (.slice none 0 0):=ev_22 (Y6 w _ rfl);have n0:(((w.alloc (.cells (aV 200).toArray 30)).alloc (.cells nV.toArray 127)).alloc (.cells zV.toArray 30)).cell? ⟨w.heap.size+1,0,none⟩=some (.int .i64 5):=ev_n0 (Y6 w _ rfl)
 have n1:(((w.alloc (.cells (aV 200).toArray 30)).alloc (.cells nV.toArray 127)).alloc (.cells zV.toArray 30)).cell? ⟨w.heap.size+1,1,none⟩=some (.int .i64 0):=ev_n1 (Y6 w _ rfl);have n2:(((w.alloc (.cells (aV 200).toArray 30)).alloc (.cells nV.toArray 127)).alloc (.cells zV.toArray 30)).cell? ⟨w.heap.size+1,2,none⟩=some (.int .i64 200):=ev_n2 (Y6 w _ rfl);have n1e:((((w.alloc (.cells (aV 200).toArray 30)).alloc (.cells nV.toArray 127)).alloc (.cells zV.toArray 30)).alloc (.map ef4 4)).cell? ⟨w.heap.size+1,1,none⟩=some (.int .i64 0):=ev_n1 (F4 w _ _ (Y6 w _ rfl) (Ev _))
 have l1:(Instr.lookup 201 (.map (some (w.heap.size+1+1+1))) (.int .i64 0) true).run prog ((((w.alloc (.cells (aV 200).toArray 30)).alloc (.cells nV.toArray 127)).alloc (.cells zV.toArray 30)).alloc (.map ef4 4)) = .ok (.tuple #[.func (.func 156) #[] #[],.bool true]) ((((w.alloc (.cells (aV 200).toArray 30)).alloc (.cells nV.toArray 127)).alloc (.cells zV.toArray 30)).alloc (.map ef4 4)):=eLook ((((w.alloc (.cells (aV 200).toArray 30)).alloc (.cells nV.toArray 127)).alloc (.cells zV.toArray 30)).alloc (.map ef4 4)) (w.heap.size+3) (Ur (((w.alloc (.cells (aV 200).toArray 30)).alloc (.cells nV.toArray 127)).alloc (.cells zV.toArray 30)) _ (w.heap.size+3) (by simp))
 have l2:(Instr.lookup 201 (.map (some (w.heap.size+1+1+1))) (.int .i64 0) true).run prog ((((w.alloc (.cells (aV 200).toArray 30)).alloc (.cells nV.toArray 127)).alloc (.cells zV.toArray 30)).alloc (.map ef4 4)).drew = .ok (.tuple #[.func (.func 156) #[] #[],.bool true]) ((((w.alloc (.cells (aV 200).toArray 30)).alloc (.cells nV.toArray 127)).alloc (.cells zV.toArray 30)).alloc (.map ef4 4)).drew:=eLook ((((w.alloc (.cells (aV 200).toArray 30)).alloc (.cells nV.toArray 127)).alloc (.cells zV.toArray 30)).alloc (.map ef4 4)).drew (w.heap.size+3) (Ur (((w.alloc (.cells (aV 200).toArray 30)).alloc (.cells nV.toArray 127)).alloc (.cells zV.toArray 30)) _ (w.heap.size+3) (by simp))
 have HE:Hid (EV w ((((w.alloc (.cells (aV 200).toArray 30)).alloc (.cells nV.toArray 127)).alloc (.cells zV.toArray 30)).alloc (.map ef4 4)).drew):=Hd (ev_drew (F4 w _ _ (Y6 w _ rfl) (Ev _)));have HP:=Hd fun W W' h e hp=>put_split w W W' h e hp
 have HD:=Hd fun W g c h ho cs=>do_end w W g c h ho cs
 unfold zV at c0 c21 c22 n0 n1 n2 n1e l1 l2 HE;go_enter Tryz.func88,Tryz.ntmps88;go_wp2_with (go_at_call 24;refine (Ez _).mono ?_;rintro e w' ⟨rfl,rfl⟩)
 go_region_held3 (fun w'=>w'.cell? ⟨w.heap.size+1,1,none⟩=some (.int .i64 0)) (first|go_keep|exact n1|exact n1e) ((go_at_call 127;refine (It _).mono ?_;rintro e w' ⟨rfl,rfl⟩))
 all_goals
  clear l1 l2 c0 c21 c22 n0 n1 n2 n1e
  go_wp2_with (first|(refine Ln 27 w.heap.size 0 (dV 200) (ev_r1 HE.out) Tryz.underlying27 ?_)|(refine Ln 58 (w.heap.size+1) 1 cV (ev_r2 HE.out) Tryz.underlying58 ?_)|(go_at_call 156;refine (put_a _).mono ?_;intro e w5 hp;obtain ⟨g,c,rfl,h5,ho⟩:=HP.out _ _ HE.out _ hp;have bA:=Hd h5;have HO:=Hd ho;clear hp ho;obtain ⟨old,hos,hob⟩:=h5.b3;have HOS:=Hd hos;have HOB:=Hd hob;clear h5 hos hob;have n0:=ev_n0 bA.out)|(refine Ln 27 w.heap.size 0 (dV 200) (ev_r1 bA.out) Tryz.underlying27 ?_)|(refine U2 (by kernel_rfl) 30 _ rfl (bV (.slice (some ⟨g,0,none⟩) 1 c)).toArray (by kernel_rfl) ?_)|(refine Lt rfl 30 _ _ rfl (w.heap.size+1+1) (bV (.slice (some ⟨g,0,none⟩) 1 c)).toArray rfl rfl 30 old HOB.out (by kernel_rfl) HOS.out (bV_one g c) ?_))
  have hr:=Uw (w5.setRow (w.heap.size+1+1) (bV (.slice (some ⟨g,0,none⟩) 1 c)).toArray) (w.heap.size+1+1) (bV (.slice (some ⟨g,0,none⟩) 1 c)).toArray (setRow_heap _ _ _ _ _ _ HOB.out) rfl;exact Br (v:=.tuple #[.agg (bV (.slice (some ⟨g,0,none⟩) 1 c)).toArray,.int .i64 0]) (U4 Tryz.results88 rfl rfl hr) rfl ⟨g,c,rfl,HD.out _ _ _ bA.out HO.out _⟩
end
theorem ev_set {w W:Wd} (h:EV w W):EV w (W.setCell ⟨w.heap.size,22,none⟩ (.slice none 0 0)):=by
 have e:(aV 200).toArray.setIfInBounds 22 (.slice none 0 0)=(aV 200).toArray:=rfl;have hz:=h.sz;obtain ⟨o,h1,h2⟩:=h.b3;refine ⟨?_,h.b2.far (by simp) _,⟨o,h1,h2.far (by simp) _⟩,by simpa using hz,h.be.setCell (Le _) _⟩;have:=h.b1.set 22 (.slice none 0 0)
 rwa [e] at this
theorem do_split (w W W':Wd) (h:EV w W) (e:Ending) (hp:DoP W e W'):∃ g c,e = .returned (.tuple #[.agg (bV (.slice (some ⟨g,0,none⟩) 1 c)).toArray,.int .i64 0])∧EV w W'∧W'.ownsRow (w.heap.size+3) 76 2 (.slice (some ⟨g,0,none⟩) 1 c) 1 [.string ⟨#[107]⟩,.string ⟨#[107,49]⟩]:=by
 obtain ⟨g,c,rfl,h2,h3⟩:=hp;exact ⟨g,c,rfl,F4 w _ _ h h3,E5 h2 h.sz⟩
theorem chPut_a (W:Wd):Calls prog 59 #[.agg cV.toArray] W fun e w'=>e = .returned (.bool true)∧Below W.heap.size W w':=
 Iy 0 200 ⟨#[107]⟩ ⟨#[107,49]⟩ ⟨#[]⟩ W (by decide)
theorem Do_a (w:Wd):Calls prog 71 #[.agg (aV 200).toArray,.agg nV.toArray] w (DoP w):=by
 have HX:Hid (EV w (((w.alloc (.cells (aV 200).toArray 30)).alloc (.cells nV.toArray 127)).alloc (.cells zV.toArray 30))):=Hd (Y6 w _ rfl);unfold zV at HX;have HV:=Hd fun W=>fwdValid_a 200 W (by decide) (by decide)
 have HN:=Hd fun W W' h hb=>F4 w W W' h hb
 have HP:=Hd fun W W' h e hp=>do_split w W W' h e hp
 have HD:=Hd fun W g c h ho cs=>do_end w W g c h ho cs
 go_enter Tryz.func71,Tryz.ntmps71
 go_wp2_with (first|(refine Lq 30 w.heap.size _ HX.out.b1 Tryz.underlying30 ?_)|(go_at_call 68;refine (HV.out _).mono ?_;rintro e w2 ⟨rfl,hb⟩;have aM:=Hd (HN.out _ _ HX.out hb);clear hb)|(refine Ul (by kernel_rfl) 58 _ rfl (w.heap.size+1) 1 rfl cV _ (ev_r2 aM.out) Tryz.underlying58 rfl (by kernel_rfl) ?_)|(go_at_call 59;refine (chPut_a _).mono ?_;rintro e w3 ⟨rfl,hb⟩;have aP:=Hd (HN.out _ _ aM.out hb);clear hb;have n0:=ev_n0 aP.out;have c22:=ev_22 aP.out;have fz:=aP.out.b1.free 22)|(go_at_call 24;refine (Ez _).mono ?_;rintro e w' ⟨rfl,rfl⟩;have aX:=Hd (ev_set aP.out))|(refine Lq 30 w.heap.size _ aX.out.b1 Tryz.underlying30 ?_)|(refine Lq 127 (w.heap.size+1) _ aX.out.b2 Tryz.underlying127 ?_)|(go_at_call 88;refine (do_a _).mono ?_;intro e w5 hp;obtain ⟨g,c,rfl,h5,ho⟩:=HP.out _ _ aX.out _ hp;have bA:=Hd h5;have HO:=Hd ho;obtain ⟨old,hos,hob⟩:=h5.b3;have HOS:=Hd hos;have HOB:=Hd hob;clear hp ho h5 hos hob n0 c22 fz)|(refine Lt rfl 30 _ _ rfl (w.heap.size+1+1) (bV (.slice (some ⟨g,0,none⟩) 1 c)).toArray rfl rfl 30 old HOB.out (by kernel_rfl) HOS.out (bV_one g c) ?_))
 have hr:=Uw (w5.setRow (w.heap.size+1+1) (bV (.slice (some ⟨g,0,none⟩) 1 c)).toArray) (w.heap.size+1+1) (bV (.slice (some ⟨g,0,none⟩) 1 c)).toArray (setRow_heap _ _ _ _ _ _ HOB.out) rfl;exact Br (v:=.tuple #[.agg (bV (.slice (some ⟨g,0,none⟩) 1 c)).toArray,.int .i64 0]) (U4 Tryz.results71 rfl rfl hr) rfl ⟨g,c,rfl,HD.out _ _ _ bA.out HO.out _⟩
theorem after_none (bs:Nat) (u n:Int) (rA:Option Addr) (rn rc:Nat) (w:Wd):Calls prog 48 #[.map (some bs),.agg #[.int .i64 u,.int .i64 n,.slice rA rn rc,.slice none 0 0]] w fun e w'=>e = .returned (.int .i64 0)∧Below w.heap.size w w':=by
 go_enter Tryz.func48,Tryz.ntmps48;go_wp2;refine Lu 1 ?_;rw [Rs];go_wp2;refine Lu 1 ?_;rw [Rs];go_wp2;go_ret;exact ⟨rfl,(Bf _ _).alloc (Le _) _⟩
def AftP (bs:Nat) (w:Wd) (e:Ending) (w':Wd):Prop:=∃ g c,e = .returned (.int .i64 0)∧St w' bs (bV (.slice (some ⟨g,0,none⟩) 1 c)) ∧
 w'.ownsRow (bs+1) 76 2 (.slice (some ⟨g,0,none⟩) 1 c) 1 [.string ⟨#[107]⟩,.string ⟨#[107,49]⟩]∧Below bs w w'
structure XV (bs:Nat) (w W:Wd):Prop where
 b1:Blk W (w.heap.size+1+1+1) 58 cV.toArray
 st:St W bs (aV 200)
 lt:bs<w.heap.size
 sz:w.heap.size+5≤W.heap.size
 be:Below w.heap.size w W
theorem xv_next (bs:Nat) (w W W':Wd) (h:XV bs w W) (hb:Below W.heap.size W W'):XV bs w W':=
 have hz:=h.sz;have hl:=h.lt
 ⟨h.b1.below hb (by omega),h.st.below hb (by omega),hl,Lx hz hb.size,U0 h.be hb (by omega)⟩
theorem xv_start (bs:Nat) (w:Wd) (o1 o2 o3 o5:Obj) (h:St w bs (aV 200)):XV bs w (((((w.alloc o1).alloc o2).alloc o3).alloc (.cells cV.toArray 58)).alloc o5):=
 ⟨(U3 (((w.alloc o1).alloc o2).alloc o3) _ _ _ (by simp)).alloc _,((((h.alloc _).alloc _).alloc _).alloc _).alloc _,h.lt,by simp,(((((Bf _ _).alloc (Le _) _).alloc (by simp) _).alloc (by simp;omega) _).alloc (by simp;omega) _).alloc (by simp;omega) _⟩
theorem aft_end (bs g c:Nat) (w W:Wd) (h:XV bs w W) (ho:W.ownsRow (w.heap.size+5) 76 2 (.slice (some ⟨g,0,none⟩) 1 c) 1 [.string ⟨#[107]⟩,.string ⟨#[107,49]⟩]) (o:Obj):
  AftP bs w (.returned (.int .i64 0)) (Jo (W.alloc o) bs (bV (.slice (some ⟨g,0,none⟩) 1 c))):=by
 have hl:=h.lt;have hz:=h.sz;have hg:=(ho.lt g rfl).1;refine ⟨g,c,rfl,setSt_st _ _ _ (by simp;omega),E5 (base:=w.heap.size+5) ?_ (by omega),Gd _ ((h.be.mono (by omega)).alloc (by omega) _) (Le _)⟩;refine (ho.alloc o).kept (row:=some bs) ⟨rfl,rfl,rfl,by simp [Jo],fun k _ hk=>?_⟩ (.inr (by simp [Value.ownBlock];omega));show ((W.alloc o).heap.setIfInBounds bs _)[k]? =_;rw [Array.getElem?_setIfInBounds_ne (fun e=>hk (by rw [e]))]
theorem aft_do (bs:Nat) (w W W':Wd) (h:XV bs w W) (e:Ending) (hp:DoP W e W'):∃ g c,e = .returned (.tuple #[.agg (bV (.slice (some ⟨g,0,none⟩) 1 c)).toArray,.int .i64 0])∧XV bs w W'∧W'.ownsRow (w.heap.size+5) 76 2 (.slice (some ⟨g,0,none⟩) 1 c) 1 [.string ⟨#[107]⟩,.string ⟨#[107,49]⟩]:=by
 obtain ⟨g,c,rfl,h2,h3⟩:=hp;exact ⟨g,c,rfl,xv_next bs w _ _ h h3,E5 h2 h.sz⟩
theorem U1 (X:Wd) (old cs:Array Value) (t:TypeId):(X.alloc (.cells old t)).setRow X.heap.size cs=X.alloc (.cells cs t):=World.setRow_alloc_new X old cs t
theorem after_put (bs g cc:Nat) (w:Wd) (hs:St w bs (aV 200)) (hg:g<w.heap.size) (hr:w.rangeAt g 0 cV):
  Calls prog 48 #[.map (some bs),.agg #[.int .i64 9,.int .i64 5,.slice none 0 0,.slice (some ⟨g,0,none⟩) 1 cc]] w (AftP bs w):=by
 have hk:∀ (o:Obj) (j:Nat) (W:Wd),g<W.heap.size→(W.alloc o).cell? ⟨g,j,none⟩=W.cell? ⟨g,j,none⟩:=fun o j W h=>World.cell?_alloc_lt W o _ h
 have hc:∀ j v,cV[j]? =some v→w.cell? ⟨g,j,none⟩=some v:=fun j v h=>by have:=hr j v h;rwa [Nat.zero_add] at this
 have gQ:Hid (∀ o1,(w.alloc o1).rangeAt g 0 cV):=Hd fun o1 j v h=>by rw [hk _ _ _ hg];exact hr j v h
 have HR3:Hid (∀ o1 o2 o3,(((w.alloc o1).alloc o2).alloc o3).rangeAt g 0 cV):=Hd fun o1 o2 o3 j v h=>by
  rw [hk _ _ _ (by simp;omega),hk _ _ _ (by simp;omega),hk _ _ _ hg];exact hr j v h
 have l2:∀ o1 o2,(Instr.lookup 65 (.map (some bs)) (.int .i64 200) true).run prog ((w.alloc o1).alloc o2) = .ok (.tuple #[.agg (aV 200).toArray,.bool true]) ((w.alloc o1).alloc o2):=fun o1 o2=>Fl _ bs _ ((hs.alloc _).alloc _)
 have l4:∀ o1 o2 o3 o4,(Instr.lookup 65 (.map (some bs)) (.int .i64 200) true).run prog ((((w.alloc o1).alloc o2).alloc o3).alloc o4) = .ok (.tuple #[.agg (aV 200).toArray,.bool true]) ((((w.alloc o1).alloc o2).alloc o3).alloc o4):=fun o1 o2 o3 o4=>Fl _ bs _ ((((hs.alloc _).alloc _).alloc _).alloc _)
 have HA:=Hd (aV_one 200);have HC:Hid (cV.toArray.all (·.oneCell')=true):=Hd (by simp [cV,Value.oneCell']);have HX:=Hd fun o1 o2 o3 o5=>xv_start bs w o1 o2 o3 o5 hs
 have HD:=Hd fun W W' h e hp=>aft_do bs w W W' h e hp
 have HF:=Hd fun g c W h ho o=>aft_end bs g c w W h ho o
 have B1:Hid (∀ o1 old,Blk ((w.alloc o1).alloc (.cells old 58)) (w.heap.size+1) 58 old):=Hd fun o1 old=>U3 (w.alloc o1) _ old _ (by simp)
 have S1:Hid (∀ o1 old cs,((w.alloc o1).alloc (.cells old 58)).setRow (w.heap.size+1) cs=(w.alloc o1).alloc (.cells cs 58)):=Hd fun o1 old cs=>Ug (w.alloc o1) _ (by simp) old cs _
 have B2:Hid (∀ o1 o2 old,Blk (((w.alloc o1).alloc o2).alloc (.cells old 30)) (w.heap.size+1+1) 30 old):=Hd fun o1 o2 old=>U3 ((w.alloc o1).alloc o2) _ old _ (by simp)
 have S2:Hid (∀ o1 o2 old cs,(((w.alloc o1).alloc o2).alloc (.cells old 30)).setRow (w.heap.size+1+1) cs=((w.alloc o1).alloc o2).alloc (.cells cs 30)):=Hd fun o1 o2 old cs=>Ug ((w.alloc o1).alloc o2) _ (by simp) old cs _
 have B3:Hid (∀ o1 o2 o3 old,Blk ((((w.alloc o1).alloc o2).alloc o3).alloc (.cells old 58)) (w.heap.size+1+1+1) 58 old):=Hd fun o1 o2 o3 old=>U3 (((w.alloc o1).alloc o2).alloc o3) _ old _ (by simp)
 have S3:Hid (∀ o1 o2 o3 old cs,((((w.alloc o1).alloc o2).alloc o3).alloc (.cells old 58)).setRow (w.heap.size+1+1+1) cs=(((w.alloc o1).alloc o2).alloc o3).alloc (.cells cs 58)):=Hd fun o1 o2 o3 old cs=>Ug (((w.alloc o1).alloc o2).alloc o3) _ (by simp) old cs _
 have B4:Hid (∀ o1 o2 o3 o4 old,Blk (((((w.alloc o1).alloc o2).alloc o3).alloc o4).alloc (.cells old 30)) (w.heap.size+1+1+1+1) 30 old):=Hd fun o1 o2 o3 o4 old=>U3 ((((w.alloc o1).alloc o2).alloc o3).alloc o4) _ old _ (by simp)
 have S4:Hid (∀ o1 o2 o3 o4 old cs,(((((w.alloc o1).alloc o2).alloc o3).alloc o4).alloc (.cells old 30)).setRow (w.heap.size+1+1+1+1) cs=((((w.alloc o1).alloc o2).alloc o3).alloc o4).alloc (.cells cs 30)):=Hd fun o1 o2 o3 o4 old cs=>Ug ((((w.alloc o1).alloc o2).alloc o3).alloc o4) _ (by simp) old cs _
 have c1:∀ o1,((w.alloc o1).alloc (.cells cV.toArray 58)).cell? ⟨w.heap.size+1,1,none⟩=some (.int .i64 200):=fun o1=>((B1.out o1 cV.toArray).cell 1).trans rfl
 have c2:∀ o1 o2 o3,((((w.alloc o1).alloc o2).alloc o3).alloc (.cells cV.toArray 58)).cell? ⟨w.heap.size+1+1+1,1,none⟩=some (.int .i64 200):=fun o1 o2 o3=>((B3.out o1 o2 o3 cV.toArray).cell 1).trans rfl
 have c3:∀ o1 o2 o3 o4,(((((w.alloc o1).alloc o2).alloc o3).alloc (.cells cV.toArray 58)).alloc o4).cell? ⟨w.heap.size+1+1+1,0,none⟩=some (.int .i64 0):=fun o1 o2 o3 o4=>(((B3.out o1 o2 o3 cV.toArray).alloc o4).cell 0).trans rfl
 have b8:Hid (∀ o1 o2 o3 o4,Blk (((((w.alloc o1).alloc o2).alloc o3).alloc (.cells cV.toArray 58)).alloc o4) (w.heap.size+1+1+1) 58 cV.toArray):=Hd fun o1 o2 o3 o4=>(B3.out o1 o2 o3 cV.toArray).alloc o4
 have HDo:Hid (∀ W,Calls prog 71 #[.agg (aV 200).toArray,.agg nV.toArray] W (DoP W)):=Hd fun W=>Do_a W
 clear hk hc hr hs hg;go_enter Tryz.func48,Tryz.ntmps48;go_wp2;refine Lu 2 ?_;rw [Rs];go_wp2_with (first|((with_reducible refine Gl 58 24 ?_);refine Ln 58 g 0 cV (gQ.out _) Tryz.underlying58 ?_)|((with_reducible refine Gt 58 6 ?_);refine Lv 58 (w.heap.size+1) cV.toArray (B1.out _ _) HC.out ?_;rw [S1.out])|((with_reducible refine Gt 30 7 ?_);refine Lv 30 (w.heap.size+1+1) (aV 200).toArray (B2.out _ _ _) HA.out ?_;rw [S2.out]));rw [Rs];go_wp2;refine Lu 2 ?_;rw [Rs]
 go_wp2_with (first|((with_reducible refine Gl 58 61 ?_);refine Ln 58 g 0 cV (HR3.out _ _ _) Tryz.underlying58 ?_)|((with_reducible refine Gt 58 12 ?_);refine Lv 58 (w.heap.size+1+1+1) cV.toArray (B3.out _ _ _ _) HC.out ?_;rw [S3.out])|((with_reducible refine Gt 30 13 ?_);refine Lv 30 (w.heap.size+1+1+1+1) (aV 200).toArray (B4.out _ _ _ _ _) HA.out ?_;rw [S4.out])|((with_reducible refine Gl 30 13 ?_);refine Lq 30 (w.heap.size+1+1+1+1) _ (B4.out _ _ _ _ _) Tryz.underlying30 ?_)|((with_reducible refine Gl 58 12 ?_);refine Lq 58 (w.heap.size+1+1+1) _ (b8.out _ _ _ _) Tryz.underlying58 ?_)|((with_reducible refine Gb 127 ?_);refine U2 (by kernel_rfl) 127 _ rfl nV.toArray (by kernel_rfl) ?_))
 refine (HDo.out _).mono ?_;intro e w5 hp;obtain ⟨g',c,rfl,h5,ho⟩:=HD.out _ _ (HX.out _ _ _ _) _ hp;have bA:=Hd h5;have HO:=Hd ho;clear hp h5 ho l2 l4 c1 c2 c3;have c4:∀ o,(w5.alloc o).cell? ⟨w.heap.size+1+1+1,1,none⟩=some (.int .i64 200):=fun o=>((bA.out.b1.alloc o).cell 1).trans rfl
 have hp:=fun o=>sPut_old (w5.alloc o) bs (bV (.slice (some ⟨g',0,none⟩) 1 c)) _ (bA.out.st.alloc o)
 have HB:=Hd fun old=>Blk.new w5 30 old
 have HS:=Hd fun old=>U1 w5 old (bV (.slice (some ⟨g',0,none⟩) 1 c)).toArray 30
 go_wp2_with (first|((with_reducible refine Gt 30 17 ?_);refine Lv 30 w5.heap.size (bV (.slice (some ⟨g',0,none⟩) 1 c)).toArray (HB.out _) (bV_one g' c) ?_;rw [HS.out])|((with_reducible refine Gl 30 17 ?_);refine Lq 30 w5.heap.size _ (HB.out _) Tryz.underlying30 ?_));rw [Rs];go_wp2;go_ret;exact HF.out _ _ _ bA.out HO.out _
def PR (b:Bool) (w:Wd) (A:Option Addr) (n c:Nat):Prop:=
 if b=true then ∃ g,A=some ⟨g,0,none⟩∧n=1∧1≤c∧c≤maxLen∧g<w.heap.size∧w.rangeAt g 0 [.string ⟨#[107]⟩,.string ⟨#[107,49]⟩] else A=none∧n=0∧c=0
theorem Ua {w w':Wd} {B g o:Nat} {xs:List Value} (h:w.rangeAt g o xs) (hb:Below B w w') (hg:g<B):w'.rangeAt g o xs:=fun j v hv=>(hb.cell (p:=⟨g,o+j,none⟩) hg).trans (h j v hv)
theorem PR.below {b:Bool} {w w':Wd} {A:Option Addr} {n c:Nat} (h:PR b w A n c) (hb:Below w.heap.size w w'):PR b w' A n c:=by
 cases b with
 |false=>exact h
 |true=>
  obtain ⟨g,h1,h2,h3,h3',h4,h5⟩:=h;exact ⟨g,h1,h2,h3,h3',Nat.lt_of_lt_of_le h4 hb.size,Ua h5 hb h4⟩
theorem PR.of_own {w:Wd} {base g c:Nat} (h:w.ownsRow base 76 2 (.slice (some ⟨g,0,none⟩) 1 c) 1 [.string ⟨#[107]⟩,.string ⟨#[107,49]⟩]):PR true w (some ⟨g,0,none⟩) 1 c:=by
 obtain ⟨A',c',e,h2,h2'⟩:=Ue h;injection e with _ _ e
 subst e;refine ⟨g,rfl,rfl,h2,h2',(h.lt g rfl).2,fun j v hv=>?_⟩;rw [Nat.zero_add];have:=h.cells (g:=g) rfl j v hv
 rwa [show ((⟨g,0,none⟩:Addr).add j)=⟨g,j,none⟩ from by unfold Addr.add;split<;>simp_all] at this
theorem PR.rd {w:Wd} {A:Option Addr} {n c:Nat} (h:PR true w A n c):Rd w w.heap.size 2 A n [.string ⟨#[107]⟩,.string ⟨#[107,49]⟩]:=by
 obtain ⟨g,rfl,rfl,_,_,h4,h5⟩:=h;exact ⟨rfl,fun _=>⟨g,0,rfl,h4,fun j u hu=>h5 j u hu⟩⟩
def GivesPR (b:Bool) (w:Wd) (e:Ending) (w':Wd):Prop:=∃ A n c,e = .returned (.slice A n c)∧PR b w' A n c∧Below w.heap.size w w'∧∀ a,A=some a→w.heap.size≤a.block
theorem PR.set {b:Bool} {w:Wd} {A:Option Addr} {n c:Nat} (h:PR b w A n c) (p:Addr) (v:Value) (hp:∀ a,A=some a→p.block<a.block):PR b (w.setCell p v) A n c:=by
 cases b with
 |false=>exact h
 |true=>
  obtain ⟨g,h1,h2,h3,h3',h4,h5⟩:=h;have hg:p.block<g:=hp _ h1;exact ⟨g,h1,h2,h3,h3',by simpa using h4,fun j u hu=>(World.cell?_setCell_other w p _ v (fun e=>by subst e;simp at hg)).trans (h5 j u hu)⟩
theorem Xh {w w':Wd} (h:w.grownBy w' none):Below w.heap.size w w':=⟨h.os,h.tape,h.output,h.size,fun k hk=>h.block k hk (by simp)⟩
theorem cloneP_any (b:Bool) (A:Option Addr) (n c:Nat) (w:Wd) (hp:PR b w A n c):Calls prog 24 #[.slice A n c] w (GivesPR b w):=by
 cases b with
 |false=>
  obtain ⟨rfl,rfl,rfl⟩:=hp;exact (Ez w).mono fun e w' ⟨h1,h2⟩=>⟨none,0,0,h1,⟨rfl,rfl,rfl⟩,h2▸Bf _ _,fun a ha=>by cases ha⟩
 |true=>
  have qq:∀ (w:Wd) (a:Option Addr) (n c n' c':Nat),(binOp .eql 28 (.slice a n c) (.slice none n' c')).run prog w = .ok (.bool a.isNone) w:=fun w a n c n' c'=>Lib.run_eql_slice_nil w _ _ a n c n' c' Tryz.underlying28
  obtain ⟨i0,aU,aW,aK,aR⟩:=info_parts Xe;have HR:=Hd ((PR.rd hp).alloc (Le _) (.cells #[] 76));have HO:=Hd (World.ownsRow_lit (e:=76) (base:=w.heap.size) (size:=2) w #[] 0 (Le _) (by decide) rfl);obtain ⟨g,rfl,rfl,_,_,_,_⟩:=hp;go_enter Tryz.func24,Tryz.ntmps24;go_wp2_with (at_builtin;go_must (refine U5 _ rfl _ _ 28 rfl w.heap.size 76 i0 _ 2 32 Tryz.underlying28 aU aW aK aR rfl (by decide) _ _ _ rfl HO.out w.heap.size (some ⟨g,0,none⟩) 1 c [.string ⟨#[107]⟩,.string ⟨#[107,49]⟩] rfl HR.out pair_one (by decide) (by decide) (by simp) ?_;intro v' w' aD aO _;have aS:=Hd aD;have bQ:Hid (World.grownBy _ w' (Value.slice (some ⟨w.heap.size,0,none⟩) 0 0).ownBlock):=Hd aO;clear aD aO));go_ret;obtain ⟨g',c',rfl,_⟩:=Zt aS.out (by decide)
  exact ⟨_,_,_,rfl,PR.of_own (by simpa using aS.out),((Bf _ _).alloc (Le _) _).grown bQ.out (by simp) (by intro k hk;simp [Value.ownBlock] at hk;omega),fun a ha=>by cases ha;exact (aS.out.lt g' rfl).1⟩
def kV (ap:Int) (A:Option Addr) (n c:Nat):List Value:=dV 200++[.int .i64 ap,.slice A n c]
theorem kV_one (ap:Int) (A:Option Addr) (n c:Nat):(kV ap A n c).toArray.all (·.oneCell')=true:=by simp [kV,dV,Value.oneCell']
theorem kV_ones (ap:Int) (A:Option Addr) (n c:Nat):∀ u∈kV ap A n c,u.oneCell'=true:=by
 intro u hu;have:=kV_one ap A n c;simp only [List.all_toArray,List.all_eq_true] at this;exact this u hu
theorem Eb:(prog.info? 30).map (fun i=>(i.zero,i.size,i.bytes))=some (some (.agg zV.toArray),23,216):=by kernel_rfl
def RdP (b:Bool) (ap:Int) (w:Wd) (e:Ending) (w':Wd):Prop:=∃ h c' A n c,e = .returned (.iface 132 (.slice (some ⟨h,0,none⟩) 1 c'))∧h<w'.heap.size∧w'.rangeAt h 0 (kV ap A n c)∧PR b w' A n c∧Below w.heap.size w w'
theorem kv_cell {W:Wd} {b:Nat} {ap:Int} {A:Option Addr} {n c:Nat} (h:Blk W b 30 (kV ap A n c).toArray):W.cell? ⟨b,22,none⟩=some (.slice A n c):=(h.cell 22).trans rfl
theorem kv_set {W:Wd} {b:Nat} {ap:Int} {A A':Option Addr} {n c n' c':Nat} (h:Blk W b 30 (kV ap A n c).toArray):Blk (W.setCell ⟨b,22,none⟩ (.slice A' n' c')) b 30 (kV ap A' n' c').toArray:=by
 have e:(kV ap A n c).toArray.setIfInBounds 22 (.slice A' n' c')=(kV ap A' n' c').toArray:=rfl;have:=h.set 22 (.slice A' n' c')
 rwa [e] at this
theorem rd_end (b:Bool) (ap:Int) (A:Option Addr) (n c n' h c'':Nat) (w w2 w3:Wd) (o o':Obj) (hb:Below (w.alloc o).heap.size (w.alloc o) w2) (hp:PR b w2 A n c) (hq:∀ a,A=some a→(w.alloc o).heap.size≤a.block)
  (ho:w3.ownsRow w.heap.size 30 23 (.slice (some ⟨h,0,none⟩) 1 c'') n' (kV ap A n c)) (hg:((w2.setCell ⟨w.heap.size,22,none⟩ (.slice A n c)).alloc o').grownBy w3 none):
  RdP b ap w (.returned (.iface 132 (.slice (some ⟨h,0,none⟩) 1 c''))) w3:=by
 have hz:=hb.size;simp at hz;refine ⟨h,c'',A,n,c,rfl,(ho.lt h rfl).2,fun j v hv=>?_,?_,?_⟩
 ·rw [Nat.zero_add];have:=ho.cells (g:=h) rfl j v hv
  rwa [show ((⟨h,0,none⟩:Addr).add j)=⟨h,j,none⟩ from by unfold Addr.add;split<;>simp_all] at this
 ·refine ((hp.set ⟨w.heap.size,22,none⟩ (.slice A n c) fun a ha=>?_).below ((Bf _ _).alloc (Le _) o')).below (Xh hg);have:=hq a ha;simp at this;exact this
 ·refine Below.trans ?_ ((Xh hg).mono (by simp;omega));exact (((((Bf w.heap.size w).alloc (Le _) o).trans (hb.mono (by simp))).setCell (Le _) _)).alloc (by simp;omega) _
theorem size_ok {w w2:Wd} {o o':Obj} {p:Addr} {v:Value} (h:Below (w.alloc o).heap.size (w.alloc o) w2):w.heap.size≤((w2.setCell p v).alloc o').heap.size:=by
 have:=h.size;simp at this ⊢;omega
theorem Reader_any (b:Bool) (ap:Int) (A:Option Addr) (n c g cc:Nat) (w:Wd) (hp:PR b w A n c) (hr:w.rangeAt g 0 (kV ap A n c)):
  Calls prog 52 #[.slice (some ⟨g,0,none⟩) 1 cc] w (RdP b ap w):=by
 obtain ⟨i0,aU,aW,aK,aR⟩:=info_parts Eb;have HR:=Hd hr;have H1:=Hd (kV_one ap A n c);have HB:=Hd fun old=>Blk.new w 30 old
 have HS:=Hd fun old=>U1 w old (kV ap A n c).toArray 30
 have HC:Hid (∀ o,Calls prog 24 #[.slice A n c] (w.alloc o) (GivesPR b (w.alloc o))):=Hd fun o=>cloneP_any b A n c (w.alloc o) (hp.below ((Bf _ _).alloc (Le _) _))
 have c22:=kv_cell (Blk.new w 30 (kV ap A n c).toArray);clear hr hp;go_enter Tryz.func52,Tryz.ntmps52;go_wp2;refine Lu 2 ?_;rw [Rs]
 go_wp2_with (first|((with_reducible refine Gl 30 10 ?_);refine Ln 30 g 0 (kV ap A n c) HR.out Tryz.underlying30 ?_)|((with_reducible refine Gt 30 5 ?_);refine Lv 30 w.heap.size (kV ap A n c).toArray (HB.out _) H1.out ?_;rw [HS.out])|(go_at_call 24;refine (HC.out _).mono ?_;rintro e w2 ⟨A',n',c',rfl,dP,aF,gJ⟩;have iO:=Hd gJ;have HP2:=Hd dP;have aL:=Hd aF;clear c22 dP gJ;have d22:=kv_cell ((Blk.new w 30 (kV ap A n c).toArray).below aF (by simp));have f22:=((Blk.new w 30 (kV ap A n c).toArray).below aF (by simp)).free 22;have HK:=Hd (kv_set (A':=A') (n':=n') (c':=c') ((Blk.new w 30 (kV ap A n c).toArray).below aF (by simp)));have cF:=Hd (Vw (w2.setCell ⟨w.heap.size,22,none⟩ (.slice A' n' c')) (kV ap A' n' c') 30 1 23 rfl);clear aF)|((with_reducible refine Gl 30 5 ?_);refine Lq 30 w.heap.size _ HK.out Tryz.underlying30 ?_)|((with_reducible refine Gc 132 ?_);refine wpList_buildSlice rfl 132 30 1 _ rfl (kV ap A' n' c').toArray i0 (.agg zV.toArray) Tryz.underlying132 aU aW (by rw [aK];decide) (by rw [aK];decide) (by rw [aK];kernel_rfl) ?_)|(at_builtin;go_must (refine U5 _ rfl _ _ 132 rfl w.heap.size 30 i0 _ 23 216 Tryz.underlying132 aU aW aK aR rfl (by decide) (.slice none 0 0) 0 [] rfl ⟨rfl,.inl ⟨rfl,rfl⟩⟩ ((w2.setCell ⟨w.heap.size,22,none⟩ (.slice A' n' c')).heap.size+1) (some ⟨(w2.setCell ⟨w.heap.size,22,none⟩ (.slice A' n' c')).heap.size,0,none⟩) 1 1 (kV ap A' n' c') rfl cF.out (kV_ones ap A' n' c') (by decide) (by decide) (size_ok aL.out) ?_;intro v' w3 aD aO _;have aS:=Hd aD;have bQ:Hid (World.grownBy _ w3 (Value.slice none 0 0).ownBlock):=Hd aO;clear aD aO)))
 rw [Rs];go_wp2;go_ret;obtain ⟨h,c'',rfl,_⟩:=Zt aS.out (by decide);exact rd_end b ap _ _ _ _ h c'' w w2 w3 _ _ aL.out HP2.out iO.out aS.out bQ.out
theorem pairs1_any (ap:Int) (A:Option Addr) (n c b:Nat) (w:Wd) (h:w.cell? ⟨b,0,none⟩=some (.int .i64 200)):
  Calls prog 344 #[.agg (kV ap A n c).toArray,.pointer (some ⟨b,0,none⟩)] w fun e w'=>e = .returned (.bool true)∧Below w.heap.size w w':=by
 have hb:b<w.heap.size:=by
  rcases Nat.lt_or_ge b w.heap.size with aG|hge
  ·exact aG
  ·simp [World.cell?,Array.getElem?_eq_none hge] at h
 have c0:(w.alloc (.cells (kV ap A n c).toArray 30)).cell? ⟨w.heap.size,0,none⟩=some (.int .i64 200):=((Blk.new w 30 (kV ap A n c).toArray).cell 0).trans rfl;have c1:(w.alloc (.cells (kV ap A n c).toArray 30)).cell? ⟨b,0,none⟩=some (.int .i64 200):=(World.cell?_alloc_lt w _ _ hb).trans h;clear h hb;go_enter Tryz.func344,Tryz.ntmps344;go_wp2;go_ret;exact ⟨rfl,(Bf _ _).alloc (Le _) _⟩
theorem rindex_any (ap:Int) (A:Option Addr) (n c b h cc:Nat) (w:Wd) (hb:w.cell? ⟨b,0,none⟩=some (.int .i64 200)) (hr:w.rangeAt h 0 (kV ap A n c)):
  Calls prog 343 #[.slice (some ⟨h,0,none⟩) 1 cc,.func (.func 344) #[] #[.pointer (some ⟨b,0,none⟩)]] w fun e w'=>e = .returned (.int .i64 0)∧Below w.heap.size w w':=by
 have HR:=Hd hr;have HC:=Hd (pairs1_any ap A n c b w hb);clear hr hb;go_enter Tryz.func343,Tryz.ntmps343;go_wp2;refine Lu 1 ?_;rw [Rs];go_wp2_with (first|((with_reducible refine Gl 30 14 ?_);refine Ln 30 h 0 (kV ap A n c) HR.out Tryz.underlying30 ?_)|(go_at_call 344;refine HC.out.mono ?_;rintro e w2 ⟨rfl,hb⟩;have HB:=Hd hb;clear hb));go_ret;exact ⟨rfl,HB.out⟩
theorem pairs_any (ap:Int) (A:Option Addr) (n c h cc:Nat) (w:Wd) (hh:h<w.heap.size) (hr:w.rangeAt h 0 (kV ap A n c)):
  Calls prog 342 #[.slice (some ⟨h,0,none⟩) 1 cc,.int .i64 200] w fun e w'=>e = .returned (.slice A n c)∧Below w.heap.size w w':=by
 have HR:=Hd hr;have HH:=Hd hh;have HC:=Hd (rindex_any ap A n c w.heap.size h cc (w.alloc (.cells #[.int .i64 200] 3)) ((Blk.new w 3 #[.int .i64 200]).cell 0) (Ua hr ((Bf _ _).alloc (Le _) _) hh));clear hr hh;go_enter Tryz.func342,Tryz.ntmps342;go_wp2_with (go_at_call 343;refine HC.out.mono ?_;rintro e w2 ⟨rfl,hb⟩;have HB:=Hd (((Bf w.heap.size w).alloc (Le _) _).trans (hb.mono (by simp)));clear hb;have c22:=(Ua HR.out HB.out HH.out 22 (.slice A n c) rfl));go_ret;exact ⟨rfl,HB.out⟩
theorem find1_a (b:Nat) (w:Wd) (h:w.cell? ⟨b,0,none⟩=some (.string ⟨#[107]⟩)):Calls prog 219 #[.agg #[.string ⟨#[107]⟩,.string ⟨#[107,49]⟩],.pointer (some ⟨b,0,none⟩)] w fun e w'=>e = .returned (.bool true)∧Below w.heap.size w w':=by
 have hb:b<w.heap.size:=by
  rcases Nat.lt_or_ge b w.heap.size with aG|hge
  ·exact aG
  ·simp [World.cell?,Array.getElem?_eq_none hge] at h
 have hl:Op.bytesLess (⟨#[107]⟩:Bz).toList (⟨#[107]⟩:Bz).toList=false:=by kernel_rfl
 go_enter Tryz.func219,Tryz.ntmps219;go_wp2;go_ret;exact ⟨rfl,(Bf _ _).alloc (Le _) _⟩
theorem pindex_a (b g c:Nat) (w:Wd) (hb:w.cell? ⟨b,0,none⟩=some (.string ⟨#[107]⟩)) (h0:w.cell? ⟨g,0,none⟩=some (.string ⟨#[107]⟩)) (h1:w.cell? ⟨g,1,none⟩=some (.string ⟨#[107,49]⟩)):
  Calls prog 138 #[.slice (some ⟨g,0,none⟩) 1 c,.func (.func 219) #[] #[.pointer (some ⟨b,0,none⟩)]] w fun e w'=>e = .returned (.int .i64 0)∧Below w.heap.size w w':=by
 have HC:=Hd (find1_a b w hb);clear hb;go_enter Tryz.func138,Tryz.ntmps138;go_wp2;refine Lu 1 ?_;rw [Rs];go_wp2_with (go_at_call 219;refine HC.out.mono ?_;rintro e w2 ⟨rfl,hb⟩;have HB:=Hd hb;clear hb);go_ret;exact ⟨rfl,HB.out⟩
theorem find_one (g c:Nat) (w:Wd) (hg:g<w.heap.size) (hr:w.rangeAt g 0 [.string ⟨#[107]⟩,.string ⟨#[107,49]⟩]):
  Calls prog 158 #[.slice (some ⟨g,0,none⟩) 1 c,.string ⟨#[107]⟩] w fun e w'=>e = .returned (.tuple #[.int .i64 0,.bool true])∧Below w.heap.size w w':=by
 have HR:=Hd hr;have HG:=Hd hg;have HC:=Hd (pindex_a w.heap.size g c (w.alloc (.cells #[.string ⟨#[107]⟩] 9)) ((Blk.new w 9 #[.string ⟨#[107]⟩]).cell 0) ((World.cell?_alloc_lt w _ _ hg).trans (hr 0 _ rfl)) ((World.cell?_alloc_lt w _ _ hg).trans (hr 1 _ rfl)));clear hr hg;go_enter Tryz.func158,Tryz.ntmps158;go_wp2_with (go_at_call 138;refine HC.out.mono ?_;rintro e w2 ⟨rfl,hb⟩;have HB:=Hd (((Bf w.heap.size w).alloc (Le _) _).trans (hb.mono (by simp)));have c0:=(Ua HR.out HB.out HG.out 0 (.string ⟨#[107]⟩) rfl);have c1:w2.cell? ⟨w.heap.size,0,none⟩=some (.string ⟨#[107]⟩):=((Blk.new w 9 #[.string ⟨#[107]⟩]).below hb (by simp)).cell 0;clear hb)
 go_quiet (fail)
 go_wp2
 go_ret2
 exact ⟨rfl,Uf HB.out _⟩
def getV (b:Bool):Value:=if b then .tuple #[.string ⟨#[107,49]⟩,.int .i64 0] else .tuple #[.string ⟨#[]⟩,.int .i64 6]
theorem Get_any (b:Bool) (ap:Int) (A:Option Addr) (n c h cc:Nat) (w:Wd) (hh:h<w.heap.size) (hr:w.rangeAt h 0 (kV ap A n c)) (hp:PR b w A n c):
  Calls prog 340 #[.slice (some ⟨h,0,none⟩) 1 cc,.int .i64 200,.string ⟨#[107]⟩] w fun e w'=>e = .returned (getV b)∧Below w.heap.size w w':=by
 have HC:=Hd (pairs_any ap A n c h cc w hh hr);clear hh hr;cases b with
 |false=>
  obtain ⟨rfl,rfl,rfl⟩:=hp;go_enter Tryz.func340,Tryz.ntmps340;go_wp2_with (first|(go_at_call 342;refine HC.out.mono ?_;rintro e w2 ⟨rfl,hb⟩;have HB:=Hd hb;clear hb)|(go_at_call 158;refine (find_nil _ _).mono ?_;rintro e w3 ⟨rfl,hb⟩;have b8:=Hd (U0 HB.out hb HB.out.size);clear hb))
  go_ret2
  exact ⟨rfl,b8.out⟩
 |true=>
  have HP:=Hd hp;obtain ⟨g,rfl,rfl,_,_,hg,hr⟩:=hp;have HG:=Hd hg;have HR:=Hd hr;clear hg hr;go_enter Tryz.func340,Tryz.ntmps340;go_wp2_with (first|(go_at_call 342;refine HC.out.mono ?_;rintro e w2 ⟨rfl,hb⟩;have HB:=Hd hb;clear hb)|(go_at_call 158;refine (find_one g c _ (Nat.lt_of_lt_of_le HG.out HB.out.size) (Ua HR.out HB.out HG.out)).mono ?_;rintro e w3 ⟨rfl,hb⟩;have b8:=Hd (U0 HB.out hb HB.out.size);have c1:=(Ua HR.out b8.out HG.out 1 (.string ⟨#[107,49]⟩) rfl);clear hb))
  go_ret2
  exact ⟨rfl,b8.out⟩
end Go.Proofs.YtoakknkmjnebjaaGreatDoor
