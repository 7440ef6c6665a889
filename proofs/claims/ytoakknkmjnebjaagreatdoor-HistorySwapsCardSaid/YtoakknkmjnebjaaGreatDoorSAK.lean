/- Of HistorySwaps. -/
import Derived.Test.YtoakknkmjnebjaaGreatDoorSAJ
import Derived.Deep.RegionLaw
import Derived.StillTailTactics
namespace Go.Proofs.YtoakknkmjnebjaaGreatDoor
open Tryz (prog)
set_option maxRecDepth 100000
set_option maxHeartbeats 4000000
open Go.RowKit
theorem I1 (W:Wd) (g n c:Nat) (t:TypeId) (xs:List Int) (hb:Blk W g t (xs.map (Value.int .u8)).toArray) (hx:xs.length=n):(convert 175 9 (.slice (some ⟨g,0,none⟩) n c)).run prog W = .ok (.string (strOfNums xs)) W:=
 run_convert_bytes_arg W 175 5 (by kernel_rfl) (by kernel_rfl) g 0 n c xs hx (fun i hi=>by
  obtain ⟨v,hv⟩:∃ v,xs[i]? =some v:=⟨_,List.getElem?_eq_getElem (by omega)⟩
  rw [Nat.zero_add,hb.cell i,Ga,List.getElem?_map,hv,List.getD_eq_getElem?_getD,hv];rfl) 9 (by kernel_rfl)
theorem word_any (n:Int) (w:Wd) (h0:0≤n) (h1:n≤65535):Calls prog 278 #[.int .i64 n] w fun e w' => ∃ s:Bz,e = .returned (.string s)∧s.size=4∧Below w.heap.size w w':=by
 have dU:=I1 (w.alloc (.cells #[.int .u8 (n / 256),.int .u8 (n % 256),.int .u8 0,.int .u8 0] 5)) w.heap.size 4 4 5 [n / 256,n % 256,0,0] (Blk.new w _ _) rfl;have hz:(strOfNums [n / 256,n % 256,0,0]).size=4:=by rw [strOfNums_size];rfl
 have HZ:=Hd hz;generalize strOfNums [n / 256,n % 256,0,0]=s at dU HZ;clear hz;go_enter Tryz.func278,Tryz.ntmps278;go_wp2;go_ret;exact ⟨s,rfl,HZ.out,(Bf _ _).alloc (Le _) _⟩
theorem vform_any (r:Bz) (w:Wd) (hr:r.size≤2000):Calls prog 229 #[.string r] w fun e w' => ∃ s:Bz,e = .returned (.string s)∧s.size=4+r.size∧Below w.heap.size w w':=by
 have HC:=Hd (word_any (4+(r.size:Int)) w (by omega) (by omega));go_enter Tryz.func229,Tryz.ntmps229;go_wp2_with (go_at_call 278;refine HC.out.mono ?_;rintro e w2 ⟨s,rfl,hs,hb⟩;have HS:=Hd hs;have HB:=Hd hb;have aN:¬ (9223372036854775807<s.size+r.size):=(by omega);clear hs hb);go_ret;exact ⟨_,rfl,by have:=HS.out;rw [ByteArray.size_append];omega,HB.out⟩
theorem vwhole_any (r:Bz) (w:Wd) (hr:r.size≤2000):Calls prog 230 #[.string r] w fun e w' => ∃ s:Bz,e = .returned (.string s)∧s.size=4+r.size∧Below w.heap.size w w':=by
 have HC:=Hd (word_any (4+(r.size:Int)) w (by omega) (by omega));go_enter Tryz.func230,Tryz.ntmps230;go_wp2_with (go_at_call 278;refine HC.out.mono ?_;rintro e w2 ⟨s,rfl,hs,hb⟩;have HS:=Hd hs;have HB:=Hd hb;have aN:¬ (9223372036854775807<s.size+r.size):=(by omega);clear hs hb);go_ret;exact ⟨_,rfl,by have:=HS.out;rw [ByteArray.size_append];omega,HB.out⟩
theorem swhole_any (r:Bz) (w:Wd) (hr:r.size≤2000):Calls prog 280 #[.string r] w fun e w' => ∃ s:Bz,e = .returned (.string s)∧s.size=4+r.size∧Below w.heap.size w w':=by
 have HC:=Hd (word_any (4+(r.size:Int)) w (by omega) (by omega));go_enter Tryz.func280,Tryz.ntmps280;go_wp2_with (go_at_call 278;refine HC.out.mono ?_;rintro e w2 ⟨s,rfl,hs,hb⟩;have HS:=Hd hs;have HB:=Hd hb;have aN:¬ (9223372036854775807<s.size+r.size):=(by omega);clear hs hb);go_ret;exact ⟨_,rfl,by have:=HS.out;rw [ByteArray.size_append];omega,HB.out⟩
theorem most_any (l b:Int) (w:Wd) (hv:fvB l b=true):Calls prog 226 #[.int .i64 l,.int .i64 b] w fun e w' => ∃ q:Int,e = .returned (.int .i64 q)∧1≤q∧w=w':=by
 have HV:=Hd (Z1 l b w);rw [hv] at HV;have h:1≤l∧l≤1000∧l≤b∧b≤1024:=by unfold fvB at hv;simp at hv;omega
 obtain ⟨h1,h2,h3,h4⟩:=h;clear hv;go_enter Tryz.func226,Tryz.ntmps226;go_wp2_with (go_at_call 168;refine HV.out.mono ?_;rintro e w2 ⟨rfl,rfl⟩);go_ret;exact ⟨b / l,rfl,(Int.le_ediv_iff_mul_le (by omega)).2 (by omega),rfl⟩
theorem join1_any (g:Nat) (s:Bz) (w:Wd) (hg:w.cell? ⟨g,0,none⟩=some (.string s)):Calls prog 227 #[.slice (some ⟨g,0,none⟩) 1 1,.string ⟨#[]⟩] w fun e w'=>e = .returned (.string s)∧w=w':=by
 go_enter Tryz.func227,Tryz.ntmps227;go_wp2;go_ret;exact ⟨rfl,rfl⟩
theorem Ze:(prog.info? 9).map (fun i=>(i.zero,i.size,i.bytes))=some (some (.string ⟨#[]⟩),1,16):=by kernel_rfl
def PkG (w:Wd) (e:Ending) (w':Wd):Prop:=∃ A n c L,e = .returned (.tuple #[.slice A n c,.int .i64 0])∧Sl Ui 1 w' w'.heap.size A n c L∧n≤100∧(∀ s∈L,s.size≤2000)∧Below w.heap.size w w'
theorem fixPack_any (l b:Int) (g:Nat) (r:Bz) (w:Wd) (hv:fvB l b=true) (hg:Blk w g 9 #[.string r]) (hr:(r.size:Int)=l):
  Calls prog 169 #[.int .i64 l,.int .i64 b,.slice (some ⟨g,0,none⟩) 1 1] w (PkG w):=by
 obtain ⟨i0,aU,aW,aK,aR⟩:=info_parts Ze;have HV:=Hd (Z1 l b w);rw [hv] at HV;have HM:=Hd (most_any l b w hv);have c0:=(hg.cell 0).trans (show _=some (Value.string r) from rfl);have HJ:=Hd (join1_any g r w c0);have cU:r.size≤2000:=by unfold fvB at hv;simp at hv;omega
 have kM:=Hd cU;have cF:=Hd (Vw w [.string r] 9 1 1 rfl);clear hv hg cU;subst hr;go_enter Tryz.func169,Tryz.ntmps169;go_wp2_with (go_at_call 168;refine HV.out.mono ?_;rintro e w2 ⟨rfl,rfl⟩);refine Lu 2 ?_;rw [Rs];go_wp2;rw [Rs];go_wp2_with (go_at_call 226;refine HM.out.mono ?_;rintro e w2 ⟨q,rfl,hq,rfl⟩);rcases (by omega:q=1∨1<q) with hq1|hq1
 ·subst hq1;refine Lu 2 ?_;rw [Rs];go_wp2_with (first|(go_at_call 227;refine HJ.out.mono ?_;rintro e w2 ⟨rfl,rfl⟩)|(at_builtin;go_must (refine U5 _ rfl _ _ 150 rfl w.heap.size 9 i0 _ 1 16 Tryz.underlying150 aU aW aK aR rfl (by decide) (.slice none 0 0) 0 [] rfl ⟨rfl,.inl ⟨rfl,rfl⟩⟩ (w.heap.size+1) (some ⟨w.heap.size,0,none⟩) 1 1 [.string r] rfl cF.out (Vl r) (by decide) (by decide) (by simp) ?_;intro v' w3 aD aO _;have aS:=Hd aD;have bQ:Hid (World.grownBy _ w3 (Value.slice none 0 0).ownBlock):=Hd aO;clear aD aO)));rw [Rs];go_wp2
  go_ret2
  obtain ⟨A',c',rfl,_⟩:=Ue aS.out;exact ⟨A',1,c',[r],rfl,Sl.of_own (f:=Ui) (fun _=>rfl) (by decide) aS.out,by decide,fun s hs=>by simp at hs;subst hs;exact kM.out,((Bf w.heap.size w).alloc (Le _) _).grown bQ.out (by simp) (by intro k hk;simp [Value.ownBlock] at hk)⟩
 ·have h2:¬ (q≤1):=by omega
  have h3:¬ (q<1):=by omega
  refine Lu 2 ?_;rw [Rs];go_wp2_with (first|(go_at_call 227;refine HJ.out.mono ?_;rintro e w2 ⟨rfl,rfl⟩)|(at_builtin;go_must (refine U5 _ rfl _ _ 150 rfl w.heap.size 9 i0 _ 1 16 Tryz.underlying150 aU aW aK aR rfl (by decide) (.slice none 0 0) 0 [] rfl ⟨rfl,.inl ⟨rfl,rfl⟩⟩ (w.heap.size+1) (some ⟨w.heap.size,0,none⟩) 1 1 [.string r] rfl cF.out (Vl r) (by decide) (by decide) (by simp) ?_;intro v' w3 aD aO _;have aS:=Hd aD;have bQ:Hid (World.grownBy _ w3 (Value.slice none 0 0).ownBlock):=Hd aO;clear aD aO)));rw [Rs];go_wp2
  go_ret2
  obtain ⟨A',c',rfl,_⟩:=Ue aS.out;exact ⟨A',1,c',[r],rfl,Sl.of_own (f:=Ui) (fun _=>rfl) (by decide) aS.out,by decide,fun s hs=>by simp at hs;subst hs;exact kM.out,((Bf w.heap.size w).alloc (Le _) _).grown bQ.out (by simp) (by intro k hk;simp [Value.ownBlock] at hk)⟩
theorem varPack_any (l b:Int) (g:Nat) (r:Bz) (w:Wd) (hv:vvB l b=true) (hg:Blk w g 9 #[.string r]) (hr:(r.size:Int)≤l):
  Calls prog 174 #[.int .i64 l,.int .i64 b,.slice (some ⟨g,0,none⟩) 1 1] w (PkG w):=by
 obtain ⟨i0,aU,aW,aK,aR⟩:=info_parts Ze;have HV:=Hd (Ei l b w);rw [hv] at HV;have c0:=(hg.cell 0).trans (show _=some (Value.string r) from rfl);have cU:r.size≤1000:=by unfold vvB at hv;simp at hv;omega
 have HF:=Hd (vform_any r w (by omega));have kM:=Hd cU;have aG:¬ (l<(r.size:Int)):=by omega
 clear hv hg hr;go_enter Tryz.func174,Tryz.ntmps174;go_wp2_with (go_at_call 173;refine HV.out.mono ?_;rintro e w2 ⟨rfl,rfl⟩);refine Lu 2 ?_;rw [Rs];go_wp2;rw [Rs];go_wp2;refine Lu 2 ?_;rw [Rs];go_wp2_with (go_at_call 229;refine HF.out.mono ?_;rintro e w2 ⟨f,rfl,hf,hb⟩;have HFS:=Hd hf;have HB:=Hd hb;have hfz:=(Ja (d:=f) (by omega));obtain ⟨q1,q2⟩:=hfz;have aN:¬ (9223372036854775807<f.size):=(by omega);have hnn:=nil_app f;have HW:=Hd (vwhole_any f w2 (by omega));clear hb hf);rw [Rs]
 go_wp2_with (first|(go_at_call 230;refine HW.out.mono ?_;rintro e w3 ⟨f2,rfl,hf2,aF⟩;have kI:=Hd hf2;have aL:=Hd (U0 HB.out aF HB.out.size);have cF:=Hd (Vw w3 [.string f2] 9 1 1 rfl);clear aF hf2)|(at_builtin;go_must (refine U5 _ rfl _ _ 150 rfl w.heap.size 9 i0 _ 1 16 Tryz.underlying150 aU aW aK aR rfl (by decide) (.slice none 0 0) 0 [] rfl ⟨rfl,.inl ⟨rfl,rfl⟩⟩ (w3.heap.size+1) (some ⟨w3.heap.size,0,none⟩) 1 1 [.string f2] rfl cF.out (Vl f2) (by decide) (by decide) (by have:=aL.out.size;simp;omega) ?_;intro v' w4 aD aO _;have aS:=Hd aD;have bQ:Hid (World.grownBy _ w4 (Value.slice none 0 0).ownBlock):=Hd aO;clear aD aO)))
 go_ret2
 obtain ⟨A',c',rfl,_⟩:=Ue aS.out;exact ⟨A',1,c',[f2],rfl,Sl.of_own (f:=Ui) (fun _=>rfl) (by decide) aS.out,by decide,fun s hs=>by simp at hs;subst hs;have:=kI.out;have:=HFS.out;have:=kM.out;omega,(aL.out.alloc aL.out.size _).grown bQ.out (by have:=aL.out.size;simp;omega) (by intro k hk;simp [Value.ownBlock] at hk)⟩
def Cod (w:Wd):Prop:=∀ (i:Nat) (z:Bool),[false,false,false,true,true,false,true,true][i]? =some z→w.cell? ⟨1,i,none⟩=some (.bool z)
theorem Cod.next {w w':Wd} {B:Nat} (h:Cod w) (hb:Below B w w') (hB:1<B):Cod w':=fun i z hz=>(hb.cell (p:=⟨_,i,none⟩) hB).trans (h i z hz)
theorem Cod.lt {w:Wd} (h:Cod w):1<w.heap.size:=Jh (h 0 false rfl)
theorem Cod.after {w w':Wd} (h:Cod w) (hb:Below w.heap.size w w'):Cod w':=h.next hb h.lt
theorem parts_any (r:Bz) (w:Wd):Calls prog 279 #[.string r] w fun e w'=>e = .returned (.func (.func 301) #[] #[.pointer (some ⟨w.heap.size+2,0,none⟩),.pointer (some ⟨w.heap.size,0,none⟩),.pointer (some ⟨w.heap.size+1,0,none⟩)]) ∧
  w'=((w.alloc (.cells #[.string r] 9)).alloc (.cells #[.bool false] 4)).alloc (.cells #[.bool false] 4):=by
 go_enter Tryz.func279,Tryz.ntmps279;go_wp2;go_ret;exact ⟨rfl,rfl⟩
structure Pt (W:Wd) (p:Nat) (r:Bz) (bg dn:Bool):Prop where
 r0:Blk W p 9 #[.string r]
 r1:Blk W (p+1) 4 #[.bool bg]
 r2:Blk W (p+2) 4 #[.bool dn]
def sgC (a b:Bool) (s:Bz):List Value:=[.bool a,.bool b,.string s]
theorem setRow_far {S:List Nat} {w W:Wd} {g:Nat} (h:Far S w W) (hg:w.heap.size≤g) (cs:Array Value):Far S w (W.setRow g cs):=
 ⟨h.os,h.tape,h.output,by simpa using h.size,fun k hk hn=>(setRow_other W g k cs (by omega)).trans (h.block k hk hn)⟩
theorem Em (W:Wd) (b:Nat) (cs:Array Value) (h:Blk W b 339 cs) (hs:cs.size=3):(loadVar 339 ⟨b,0,none⟩).run prog W = .ok (.agg cs) W:=
 run_loadVar_row W b 339 339 cs (0,0) _ h Tryz.underlying339 rfl (by rw [hs];kernel_rfl)
theorem next_done (p:Nat) (r:Bz) (bg:Bool) (room:Int) (w:Wd) (hp:Pt w p r bg true):
  Calls prog 301 #[.int .i64 room,.pointer (some ⟨p+2,0,none⟩),.pointer (some ⟨p,0,none⟩),.pointer (some ⟨p+1,0,none⟩)] w fun e w'=>e = .returned (.tuple #[.agg (sgC false false ⟨#[]⟩).toArray,.bool false])∧Below w.heap.size w w':=by
 have c2:∀ o,(w.alloc o).cell? ⟨p+2,0,none⟩=some (.bool true):=fun o=>((hp.r2.alloc o).cell 0).trans rfl
 have HB:=Hd fun old=>Blk.new w 339 old
 have HS:=Hd fun old=>U1 w old #[.bool false,.bool false,.string ⟨#[]⟩] 339
 have HX:Hid (∀ o,Below w.heap.size w (w.alloc o)):=Hd fun o=>(Bf _ _).alloc (Le _) _
 have HK:=Hd (Blk.new w 339 #[.bool false,.bool false,.string ⟨#[]⟩]);clear hp;go_enter Tryz.func301,Tryz.ntmps301;go_wp2;have hr:=Em _ w.heap.size #[.bool false,.bool false,.string ⟨#[]⟩] HK.out rfl;exact Br (v:=.tuple #[.agg #[.bool false,.bool false,.string ⟨#[]⟩],.bool false]) (U4 Tryz.results301 rfl rfl hr) rfl ⟨rfl,HX.out _⟩
structure NX (p:Nat) (r:Bz) (bg:Bool) (x:Bz) (af:Bool) (w W:Wd):Prop where
 pt:Pt W p r bg false
 bz:Blk W w.heap.size 339 #[.bool false,.bool false,.string ⟨#[]⟩]
 bs:Blk W (w.heap.size+1) 339 #[.bool bg,.bool af,.string x]
 be:Below w.heap.size w W
 lt:p+2<w.heap.size
theorem nx_mk {p:Nat} {r:Bz} {bg:Bool} {x:Bz} {af:Bool} {w:Wd} (hp:Pt w p r bg false):NX p r bg x af w ((w.alloc (.cells #[.bool false,.bool false,.string ⟨#[]⟩] 339)).alloc (.cells #[.bool bg,.bool af,.string x] 339)).drew:=
 ⟨⟨(hp.r0.alloc _).alloc _,(hp.r1.alloc _).alloc _,(hp.r2.alloc _).alloc _⟩,(Blk.new w _ _).alloc _,U3 (w.alloc _) _ _ _ (by simp),(((Bf _ _).alloc (Le _) _).alloc (by simp) _).drew,hp.r2.lt⟩
structure NY (p:Nat) (bg:Bool) (x:Bz) (af:Bool) (r2:Bz) (dn:Bool) (w W:Wd):Prop where
 pt:Pt W p r2 true dn
 bz:Blk W w.heap.size 339 #[.bool false,.bool false,.string ⟨#[]⟩]
 bs:Blk W (w.heap.size+1) 339 #[.bool bg,.bool af,.string x]
 fa:Far [p,p+1,p+2] w W
 lt:p+2<w.heap.size
theorem ny_mk {p:Nat} {r:Bz} {bg:Bool} {x:Bz} {af:Bool} {w W:Wd} (h:NX p r bg x af w W) (r2:Bz) (dn:Bool):
  NY p bg x af r2 dn w (((W.setCell ⟨p,0,none⟩ (.string r2)).setCell ⟨p+1,0,none⟩ (.bool true)).setCell ⟨p+2,0,none⟩ (.bool dn)).drew:=by
 have hl:=h.lt
 refine ⟨⟨(((h.pt.r0.set 0 _).far (by simp) _).far (by simp) _).drew,(((h.pt.r1.far (by simp) _).set 0 _).far (by simp) _).drew,(((h.pt.r2.far (by simp) _).far (by simp) _).set 0 _).drew⟩,
  ((((h.bz.far (by simp;omega) _).far (by simp;omega) _).far (by simp;omega) _)).drew,((((h.bs.far (by simp;omega) _).far (by simp;omega) _).far (by simp;omega) _)).drew,?_,hl⟩
 exact (((((Far.of_below h.be).set _ _ _ (.inl (by simp))).set _ _ _ (.inl (by simp))).set _ _ _ (.inl (by simp))).drewN 1)
def NextG (p:Nat) (r:Bz) (room:Int) (w:Wd) (e:Ending) (w':Wd):Prop:=∃ a b x r2 dn,e = .returned (.tuple #[.agg (sgC a b x).toArray,.bool true])∧(x.size:Int)≤room∧x.size≤r.size∧r2.size≤r.size∧(dn=false→r2.size<r.size)∧Pt w' p r2 true dn∧Far [p,p+1,p+2] w w'
theorem ny_end {p:Nat} {bg:Bool} {x:Bz} {af:Bool} {r2:Bz} {dn:Bool} {w W:Wd} {r:Bz} {room:Int} (h:NY p bg x af r2 dn w W) (h1:(x.size:Int)≤room) (h2:x.size≤r.size) (h3:r2.size≤r.size) (h4:dn=false→r2.size<r.size):
  NextG p r room w (.returned (.tuple #[.agg #[.bool bg,.bool af,.string x],.bool true])) (W.setRow w.heap.size #[.bool bg,.bool af,.string x]):=by
 have hl:=h.lt;refine ⟨bg,af,x,r2,dn,rfl,h1,h2,h3,h4,⟨?_,?_,?_⟩,setRow_far h.fa (Le _) _⟩
 ·exact (setRow_other W _ _ _ (by omega)).trans h.pt.r0
 ·exact (setRow_other W _ _ _ (by omega)).trans h.pt.r1
 ·exact (setRow_other W _ _ _ (by omega)).trans h.pt.r2
theorem next_a (p:Nat) (n:Nat) (r:Bz) (bg:Bool) (w:Wd) (hp:Pt w p r bg false) (h1:1≤n) (hn:n<r.size) (_:r.size≤2000):
  Calls prog 301 #[.int .i64 n,.pointer (some ⟨p+2,0,none⟩),.pointer (some ⟨p,0,none⟩),.pointer (some ⟨p+1,0,none⟩)] w (NextG p r n w):=by
 have c0:∀ o,(w.alloc o).cell? ⟨p,0,none⟩=some (.string r):=fun o=>((hp.r0.alloc o).cell 0).trans rfl
 have c1:∀ o,(w.alloc o).cell? ⟨p+1,0,none⟩=some (.bool bg):=fun o=>((hp.r1.alloc o).cell 0).trans rfl
 have c2:∀ o,(w.alloc o).cell? ⟨p+2,0,none⟩=some (.bool false):=fun o=>((hp.r2.alloc o).cell 0).trans rfl
 have m1:(n:Int)≤(r.size:Int):=by omega
 have m2:(n:Int)<(r.size:Int):=by omega
 have m3:n≤r.size:=by omega
 have m4:decide ((n:Int)<(r.size:Int))=true:=by simpa using m2
 have m5:((n:Int) == (r.size:Int))=false:=by simp;omega
 go_enter Tryz.func301,Tryz.ntmps301;go_wp2
 go_region_held3 (fun w'=>w'.cell? ⟨p,0,none⟩=some (.string r)∧w'.cell? ⟨p+1,0,none⟩=some (.bool bg)) (first|go_keep|exact ⟨c0 _,c1 _⟩) (fail)
 have HW:Hid (NX p r bg (r.extract 0 n) true w ((w.alloc (.cells #[.bool false,.bool false,.string ⟨#[]⟩] 339)).alloc (.cells #[.bool bg,.bool true,.string (r.extract 0 n)] 339)).drew):=Hd (nx_mk hp);generalize ((w.alloc (.cells #[.bool false,.bool false,.string ⟨#[]⟩] 339)).alloc (.cells #[.bool bg,.bool true,.string (r.extract 0 n)] 339)).drew=W5 at HW ⊢;clear c0 c1 c2 hp;obtain ⟨k0,k1,k2⟩:=HW.out.pt;have x0:W5.cell? ⟨p,0,none⟩=some (.string r):=(k0.cell 0).trans rfl;have y0:W5.frozen? ⟨p,0,none⟩=false:=k0.free 0;have x1:W5.cell? ⟨p+1,0,none⟩=some (.bool bg):=(k1.cell 0).trans rfl;have y1:W5.frozen? ⟨p+1,0,none⟩=false:=k1.free 0;have x2:W5.cell? ⟨p+2,0,none⟩=some (.bool false):=(k2.cell 0).trans rfl;have y2:W5.frozen? ⟨p+2,0,none⟩=false:=k2.free 0;clear k0 k1 k2;go_wp2_with fail
 go_region_law (fail)
 all_goals
  have HY:Hid (NY p bg (r.extract 0 n) true (r.extract n r.size) false w (((W5.setCell ⟨p,0,none⟩ (.string (r.extract n r.size))).setCell ⟨p+1,0,none⟩ (.bool true)).setCell ⟨p+2,0,none⟩ (.bool false)).drew):=Hd (ny_mk HW.out _ _);generalize (((W5.setCell ⟨p,0,none⟩ (.string (r.extract n r.size))).setCell ⟨p+1,0,none⟩ (.bool true)).setCell ⟨p+2,0,none⟩ (.bool false)).drew=W6 at HY ⊢;go_wp2_with (first|((with_reducible refine Gl 339 8 ?_);refine Lq 339 (w.heap.size+1) #[.bool bg,.bool true,.string (r.extract 0 n)] HY.out.bs Tryz.underlying339 ?_)|((with_reducible refine Gt 339 5 ?_);refine Lt rfl 339 _ _ rfl w.heap.size #[.bool bg,.bool true,.string (r.extract 0 n)] rfl rfl 339 #[.bool false,.bool false,.string ⟨#[]⟩] HY.out.bz (by kernel_rfl) rfl (by simp [Value.oneCell']) ?_))
  have cB:=Em (W6.setRow w.heap.size #[.bool bg,.bool true,.string (r.extract 0 n)]) w.heap.size #[.bool bg,.bool true,.string (r.extract 0 n)] (setRow_heap _ _ _ _ _ _ HY.out.bz) rfl;exact Br (v:=.tuple #[.agg #[.bool bg,.bool true,.string (r.extract 0 n)],.bool true]) (U4 Tryz.results301 rfl rfl cB) rfl (ny_end HY.out (by simp;omega) (by simp;omega) (by simp) (fun _=>by simp;omega))
theorem next_b (p:Nat) (r:Bz) (bg:Bool) (w:Wd) (hp:Pt w p r bg false)  (_:r.size≤2000):
  Calls prog 301 #[.int .i64 r.size,.pointer (some ⟨p+2,0,none⟩),.pointer (some ⟨p,0,none⟩),.pointer (some ⟨p+1,0,none⟩)] w (NextG p r r.size w):=by
 have c0:∀ o,(w.alloc o).cell? ⟨p,0,none⟩=some (.string r):=fun o=>((hp.r0.alloc o).cell 0).trans rfl
 have c1:∀ o,(w.alloc o).cell? ⟨p+1,0,none⟩=some (.bool bg):=fun o=>((hp.r1.alloc o).cell 0).trans rfl
 have c2:∀ o,(w.alloc o).cell? ⟨p+2,0,none⟩=some (.bool false):=fun o=>((hp.r2.alloc o).cell 0).trans rfl
 have e1:r.extract 0 r.size=r:=Is r;go_enter Tryz.func301,Tryz.ntmps301;go_wp2
 go_region_held3 (fun w'=>w'.cell? ⟨p,0,none⟩=some (.string r)∧w'.cell? ⟨p+1,0,none⟩=some (.bool bg)) (first|go_keep|exact ⟨c0 _,c1 _⟩) (fail)
 have HW:Hid (NX p r bg (r) false w ((w.alloc (.cells #[.bool false,.bool false,.string ⟨#[]⟩] 339)).alloc (.cells #[.bool bg,.bool false,.string (r)] 339)).drew):=Hd (nx_mk hp);generalize ((w.alloc (.cells #[.bool false,.bool false,.string ⟨#[]⟩] 339)).alloc (.cells #[.bool bg,.bool false,.string (r)] 339)).drew=W5 at HW ⊢;clear c0 c1 c2 hp;obtain ⟨k0,k1,k2⟩:=HW.out.pt;have x0:W5.cell? ⟨p,0,none⟩=some (.string r):=(k0.cell 0).trans rfl;have y0:W5.frozen? ⟨p,0,none⟩=false:=k0.free 0;have x1:W5.cell? ⟨p+1,0,none⟩=some (.bool bg):=(k1.cell 0).trans rfl;have y1:W5.frozen? ⟨p+1,0,none⟩=false:=k1.free 0;have x2:W5.cell? ⟨p+2,0,none⟩=some (.bool false):=(k2.cell 0).trans rfl;have y2:W5.frozen? ⟨p+2,0,none⟩=false:=k2.free 0;clear k0 k1 k2;go_wp2_with fail
 go_region_law (fail)
 all_goals
  have HY:Hid (NY p bg (r) false ByteArray.empty true w (((W5.setCell ⟨p,0,none⟩ (.string ByteArray.empty)).setCell ⟨p+1,0,none⟩ (.bool true)).setCell ⟨p+2,0,none⟩ (.bool true)).drew):=Hd (ny_mk HW.out _ _);generalize (((W5.setCell ⟨p,0,none⟩ (.string ByteArray.empty)).setCell ⟨p+1,0,none⟩ (.bool true)).setCell ⟨p+2,0,none⟩ (.bool true)).drew=W6 at HY ⊢;go_wp2_with (first|((with_reducible refine Gl 339 8 ?_);refine Lq 339 (w.heap.size+1) #[.bool bg,.bool false,.string (r)] HY.out.bs Tryz.underlying339 ?_)|((with_reducible refine Gt 339 5 ?_);refine Lt rfl 339 _ _ rfl w.heap.size #[.bool bg,.bool false,.string (r)] rfl rfl 339 #[.bool false,.bool false,.string ⟨#[]⟩] HY.out.bz (by kernel_rfl) rfl (by simp [Value.oneCell']) ?_))
  have cB:=Em (W6.setRow w.heap.size #[.bool bg,.bool false,.string (r)]) w.heap.size #[.bool bg,.bool false,.string (r)] (setRow_heap _ _ _ _ _ _ HY.out.bz) rfl;exact Br (v:=.tuple #[.agg #[.bool bg,.bool false,.string (r)],.bool true]) (U4 Tryz.results301 rfl rfl cB) rfl (ny_end HY.out (Int.le_refl _) (Le _) (Z0 _) (fun h=>by cases h))
theorem next_c (p:Nat) (room:Int) (r:Bz) (bg:Bool) (w:Wd) (hp:Pt w p r bg false) (hn:(r.size:Int)<room) (_:r.size≤2000):
  Calls prog 301 #[.int .i64 room,.pointer (some ⟨p+2,0,none⟩),.pointer (some ⟨p,0,none⟩),.pointer (some ⟨p+1,0,none⟩)] w (NextG p r room w):=by
 have c0:∀ o,(w.alloc o).cell? ⟨p,0,none⟩=some (.string r):=fun o=>((hp.r0.alloc o).cell 0).trans rfl
 have c1:∀ o,(w.alloc o).cell? ⟨p+1,0,none⟩=some (.bool bg):=fun o=>((hp.r1.alloc o).cell 0).trans rfl
 have c2:∀ o,(w.alloc o).cell? ⟨p+2,0,none⟩=some (.bool false):=fun o=>((hp.r2.alloc o).cell 0).trans rfl
 have m1:¬ (room≤(r.size:Int)):=by omega
 have m2:¬ (room<(r.size:Int)):=by omega
 have e1:r.extract 0 r.size=r:=Is r;go_enter Tryz.func301,Tryz.ntmps301;go_wp2
 go_region_held3 (fun w'=>w'.cell? ⟨p,0,none⟩=some (.string r)∧w'.cell? ⟨p+1,0,none⟩=some (.bool bg)) (first|go_keep|exact ⟨c0 _,c1 _⟩) (fail)
 have HW:Hid (NX p r bg (r) false w ((w.alloc (.cells #[.bool false,.bool false,.string ⟨#[]⟩] 339)).alloc (.cells #[.bool bg,.bool false,.string (r)] 339)).drew):=Hd (nx_mk hp);generalize ((w.alloc (.cells #[.bool false,.bool false,.string ⟨#[]⟩] 339)).alloc (.cells #[.bool bg,.bool false,.string (r)] 339)).drew=W5 at HW ⊢;clear c0 c1 c2 hp;obtain ⟨k0,k1,k2⟩:=HW.out.pt;have x0:W5.cell? ⟨p,0,none⟩=some (.string r):=(k0.cell 0).trans rfl;have y0:W5.frozen? ⟨p,0,none⟩=false:=k0.free 0;have x1:W5.cell? ⟨p+1,0,none⟩=some (.bool bg):=(k1.cell 0).trans rfl;have y1:W5.frozen? ⟨p+1,0,none⟩=false:=k1.free 0;have x2:W5.cell? ⟨p+2,0,none⟩=some (.bool false):=(k2.cell 0).trans rfl;have y2:W5.frozen? ⟨p+2,0,none⟩=false:=k2.free 0;clear k0 k1 k2;go_wp2_with fail
 go_region_law (fail)
 all_goals
  have HY:Hid (NY p bg (r) false ByteArray.empty true w (((W5.setCell ⟨p,0,none⟩ (.string ByteArray.empty)).setCell ⟨p+1,0,none⟩ (.bool true)).setCell ⟨p+2,0,none⟩ (.bool true)).drew):=Hd (ny_mk HW.out _ _);generalize (((W5.setCell ⟨p,0,none⟩ (.string ByteArray.empty)).setCell ⟨p+1,0,none⟩ (.bool true)).setCell ⟨p+2,0,none⟩ (.bool true)).drew=W6 at HY ⊢;go_wp2_with (first|((with_reducible refine Gl 339 8 ?_);refine Lq 339 (w.heap.size+1) #[.bool bg,.bool false,.string (r)] HY.out.bs Tryz.underlying339 ?_)|((with_reducible refine Gt 339 5 ?_);refine Lt rfl 339 _ _ rfl w.heap.size #[.bool bg,.bool false,.string (r)] rfl rfl 339 #[.bool false,.bool false,.string ⟨#[]⟩] HY.out.bz (by kernel_rfl) rfl (by simp [Value.oneCell']) ?_))
  have cB:=Em (W6.setRow w.heap.size #[.bool bg,.bool false,.string (r)]) w.heap.size #[.bool bg,.bool false,.string (r)] (setRow_heap _ _ _ _ _ _ HY.out.bz) rfl;exact Br (v:=.tuple #[.agg #[.bool bg,.bool false,.string (r)],.bool true]) (U4 Tryz.results301 rfl rfl cB) rfl (ny_end HY.out (by omega) (Le _) (Z0 _) (fun h=>by cases h))
theorem index_any (a b:Bool) (w:Wd) (hc:Cod w):Calls prog 302 #[.slice (some ⟨1,0,none⟩) 4 4,.agg #[.bool a,.bool b]] w fun e w'=>(∃ n:Nat,e = .returned (.int .i64 n)∧n<4)∧Below w.heap.size w w':=by
 have hl:=hc.lt;have g0:∀ o,(w.alloc o).cell? ⟨1,0,none⟩=some (.bool false):=fun o=>(World.cell?_alloc_lt w o _ hl).trans (hc 0 _ rfl)
 have g1:∀ o,(w.alloc o).cell? ⟨1,1,none⟩=some (.bool false):=fun o=>(World.cell?_alloc_lt w o _ hl).trans (hc 1 _ rfl)
 have g2:∀ o,(w.alloc o).cell? ⟨1,2,none⟩=some (.bool false):=fun o=>(World.cell?_alloc_lt w o _ hl).trans (hc 2 _ rfl)
 have g3:∀ o,(w.alloc o).cell? ⟨1,3,none⟩=some (.bool true):=fun o=>(World.cell?_alloc_lt w o _ hl).trans (hc 3 _ rfl)
 have g4:∀ o,(w.alloc o).cell? ⟨1,4,none⟩=some (.bool true):=fun o=>(World.cell?_alloc_lt w o _ hl).trans (hc 4 _ rfl)
 have g5:∀ o,(w.alloc o).cell? ⟨1,5,none⟩=some (.bool false):=fun o=>(World.cell?_alloc_lt w o _ hl).trans (hc 5 _ rfl)
 have g6:∀ o,(w.alloc o).cell? ⟨1,6,none⟩=some (.bool true):=fun o=>(World.cell?_alloc_lt w o _ hl).trans (hc 6 _ rfl)
 have g7:∀ o,(w.alloc o).cell? ⟨1,7,none⟩=some (.bool true):=fun o=>(World.cell?_alloc_lt w o _ hl).trans (hc 7 _ rfl)
 have HX:=Hd fun o=>(Bf w.heap.size w).alloc (Le _) o
 have e0:(w.alloc (.cells #[.bool a,.bool b] 342)).cell? ⟨w.heap.size,0,none⟩=some (.bool a):=((Blk.new w _ _).cell 0).trans rfl;have e1:(w.alloc (.cells #[.bool a,.bool b] 342)).cell? ⟨w.heap.size,1,none⟩=some (.bool b):=((Blk.new w _ _).cell 1).trans rfl;have qq:∀ (a b c d:Bool) (W:Wd),(binOp .eql 342 (.agg #[.bool a,.bool b]) (.agg #[.bool c,.bool d])).run prog W = .ok (.bool (a == c&&b == d)) W:=fun a b c d W=>by cases a<;>cases b<;>cases c<;>cases d<;>kernel_rfl
 clear hc hl;cases a<;>cases b
 ·go_enter Tryz.func302,Tryz.ntmps302;go_wp2;refine Lu 5 ?_;rw [Rs];go_wp2_with fail
  go_quiet (fail)
  go_wp2;go_ret;exact ⟨⟨0,rfl,by decide⟩,by first|exact Uf (HX.out _) _|exact Uf (Uf (HX.out _) _) _⟩
 ·go_enter Tryz.func302,Tryz.ntmps302;go_wp2;refine Lu 5 ?_;rw [Rs];go_wp2_with fail
  go_quiet (fail)
  go_wp2;rw [Rs];go_wp2_with fail
  go_quiet (fail)
  go_wp2;go_ret;exact ⟨⟨1,rfl,by decide⟩,by first|exact Uf (HX.out _) _|exact Uf (Uf (HX.out _) _) _⟩
 ·go_enter Tryz.func302,Tryz.ntmps302;go_wp2;refine Lu 5 ?_;rw [Rs];go_wp2_with fail
  go_quiet (fail)
  go_wp2;rw [Rs];go_wp2_with fail
  go_quiet (fail)
  go_wp2;rw [Rs];go_wp2_with fail
  go_quiet (fail)
  go_wp2;go_ret;exact ⟨⟨2,rfl,by decide⟩,by first|exact Uf (HX.out _) _|exact Uf (Uf (HX.out _) _) _⟩
 ·go_enter Tryz.func302,Tryz.ntmps302;go_wp2;refine Lu 5 ?_;rw [Rs];go_wp2_with fail
  go_quiet (fail)
  go_wp2;rw [Rs];go_wp2_with fail
  go_quiet (fail)
  go_wp2;rw [Rs];go_wp2_with fail
  go_quiet (fail)
  go_wp2;rw [Rs];go_wp2_with fail
  go_quiet (fail)
  go_wp2;go_ret;exact ⟨⟨3,rfl,by decide⟩,by first|exact Uf (HX.out _) _|exact Uf (Uf (HX.out _) _) _⟩
theorem bytes4 (W:Wd) (a b c:Int):(convert 175 9 (.slice (some ⟨W.heap.size,0,none⟩) 4 4)).run prog (W.alloc (.cells #[.int .u8 a,.int .u8 b,.int .u8 c,.int .u8 0] 5)) = .ok (.string (strOfNums [a,b,c,0])) (W.alloc (.cells #[.int .u8 a,.int .u8 b,.int .u8 c,.int .u8 0] 5)):=
 I1 _ W.heap.size 4 4 5 [a,b,c,0] (Blk.new W _ _) rfl
theorem sform_any (a b:Bool) (x:Bz) (w:Wd) (hc:Cod w) (hx:x.size≤2000):Calls prog 281 #[.agg (sgC a b x).toArray] w fun e w' => ∃ s:Bz,e = .returned (.string s)∧s.size=4+x.size∧Below w.heap.size w w':=by
 have c0:(w.alloc (.cells (sgC a b x).toArray 339)).cell? ⟨w.heap.size,0,none⟩=some (.bool a):=((Blk.new w _ _).cell 0).trans rfl;have c1:(w.alloc (.cells (sgC a b x).toArray 339)).cell? ⟨w.heap.size,1,none⟩=some (.bool b):=((Blk.new w _ _).cell 1).trans rfl;have HX:=Hd (((Bf w.heap.size w).alloc (Le _) (.cells (sgC a b x).toArray 339)));have HB:=Hd (Blk.new w 339 (sgC a b x).toArray);have HI:Hid (∀ W,Below w.heap.size w W→Calls prog 302 #[.slice (some ⟨1,0,none⟩) 4 4,.agg #[.bool a,.bool b]] W fun e w'=>(∃ n:Nat,e = .returned (.int .i64 n)∧n<4)∧Below W.heap.size W w'):=Hd fun W hb=>index_any a b W (hc.after hb)
 have dU:=fun W a b c=>bytes4 W a b c
 have aN:∀ a b c:Int,¬ (9223372036854775807<(strOfNums [a,b,c,0]).size+x.size):=fun a b c=>by rw [strOfNums_size];simp;omega
 have eF:Hid (∀ a b c:Int,(strOfNums [a,b,c,0]).size=4):=Hd fun a b c=>by rw [strOfNums_size];rfl
 clear hc;go_enter Tryz.func281,Tryz.ntmps281;go_wp2
 go_region_held3 (fun w'=>w'.cell? ⟨w.heap.size,0,none⟩=some (.bool a)∧w'.cell? ⟨w.heap.size,1,none⟩=some (.bool b)) (first|go_keep|exact ⟨k0,k1⟩) ((go_at_call 302;refine (HI.out _ HX.out.drew).mono ?_;rintro e w3 ⟨⟨n,rfl,hn⟩,b7⟩;have aP:=Hd (U0 HX.out.drew b7 (by simp [World.drew]));have b8:=Hd (HB.out.drew.below b7 HB.out.lt);have k0:=(b8.out.cell 0).trans (show _=some (Value.bool a) from rfl);have k1:=(b8.out.cell 1).trans (show _=some (Value.bool b) from rfl);clear b7))
 have k2:w3.cell? ⟨w.heap.size,2,none⟩=some (.string x):=(b8.out.cell 2).trans rfl;have k3:∀ o,(w3.alloc o).cell? ⟨w.heap.size,2,none⟩=some (.string x):=fun o=>((b8.out.alloc o).cell 2).trans rfl
 have hw:IntKind.u8.wrap (n:Int)=n:=by
  have:n=0∨n=1∨n=2∨n=3:=by omega
  rcases this with rfl|rfl|rfl|rfl<;>rfl
 rw [hw];clear hw c0 c1 k0 k1;go_wp2;go_ret;exact ⟨_,rfl,by rw [ByteArray.size_append,eF.out],aP.out.alloc aP.out.size _⟩
def AddG (w:Wd) (e:Ending) (w':Wd):Prop:=∃ A n c L,e = .returned (.tuple #[.string ⟨#[]⟩,.slice A n c])∧Sl Ui 1 w' w'.heap.size A n c L∧n≤1100∧(∀ s∈L,s.size≤2000)∧Below w.heap.size w w'
def mPt (p:Nat) (w:Wd):Nat:=match w.cell? ⟨p+2,0,none⟩ with
 |some (.bool true)=>0
 |_=>match w.cell? ⟨p,0,none⟩ with
  |some (.string s)=>s.size+1
  |_=>0
theorem mPt_done {p:Nat} {w:Wd} {r:Bz} {bg:Bool} (h:Pt w p r bg true):mPt p w=0:=by
 unfold mPt;rw [(h.r2.cell 0).trans (show _=some (Value.bool true) from rfl)]
theorem mPt_go {p:Nat} {w:Wd} {r:Bz} {bg:Bool} (h:Pt w p r bg false):mPt p w=r.size+1:=by
 unfold mPt;rw [(h.r2.cell 0).trans (show _=some (Value.bool false) from rfl),(h.r0.cell 0).trans (show _=some (Value.string r) from rfl)]
theorem Pt.below {w w':Wd} {p B:Nat} {r:Bz} {bg dn:Bool} (h:Pt w p r bg dn) (hb:Below B w w') (hB:p+2<B):Pt w' p r bg dn:=⟨h.r0.below hb (by omega),h.r1.below hb (by omega),h.r2.below hb hB⟩
theorem Pt.grown {w w':Wd} {p:Nat} {row:Option Nat} {r:Bz} {bg dn:Bool} (h:Pt w p r bg dn) (hb:w.grownBy w' row) (hr:∀ g,row=some g→p+2<g):Pt w' p r bg dn:=
 have k:∀ q,q≤p+2→some q≠row:=fun q hq e=>by have:=hr q e.symm;omega
 ⟨h.r0.grown hb (k _ (by omega)),h.r1.grown hb (k _ (by omega)),h.r2.grown hb (k _ (by omega))⟩
theorem own_farS {S:List Nat} {w w':Wd} {base size n:Nat} {e:TypeId} {v:Value} {xs:List Value} (h:w.ownsRow base e size v n xs) (hf:Far S w w') (hS:∀ k∈S,k<base):w'.ownsRow base e size v n xs:=by
 refine ⟨h.1,h.2.imp id ?_⟩;rintro ⟨g,cap,cur,h1,h2,h3,h4⟩;exact ⟨g,cap,cur,h1,h2,(hf.block g (h.lt g (by rw [h1];rfl)).2 (fun hm=>by have:=hS g hm;omega)).trans h3,h4⟩
theorem next_any (p:Nat) (r:Bz) (bg:Bool) (room:Int) (w:Wd) (hp:Pt w p r bg false) (h1:1≤room) (hr:r.size≤2000):
  Calls prog 301 #[.int .i64 room,.pointer (some ⟨p+2,0,none⟩),.pointer (some ⟨p,0,none⟩),.pointer (some ⟨p+1,0,none⟩)] w (NextG p r room w):=by
 rcases (by omega:(r.size:Int)<room∨room=r.size∨room<(r.size:Int)) with h|h|h
 ·exact next_c p room r bg w hp h hr
 ·subst h;exact next_b p r bg w hp hr
 ·obtain ⟨n,rfl⟩:∃ n:Nat,room=n:=⟨room.toNat,by omega⟩
  exact next_a p n r bg w hp (by omega) (by omega) hr
structure AP (L:List Bz) (A:Option Addr) (c:Nat) (x1 r1 r2 r:Bz) (dn2:Bool) (w W:Wd):Prop where
 pt:Pt W w.heap.size r2 true dn2
 ow:W.ownsRow (w.heap.size+3) 9 1 (.slice A L.length c) L.length (Ub Ui L)
 be:Below w.heap.size w W
 zz:w.heap.size+3≤W.heap.size
 xs:x1.size≤2000
 xb:x1.size≤1016
 rs:r2.size≤r1.size
 dn:dn2=false→r2.size<r1.size
 ln:L.length≤1000
 rr:r1.size≤r.size
 r8:r.size≤1000
theorem ap_mk {L:List Bz} {A:Option Addr} {c:Nat} {x1 r1 r2 r:Bz} {bg dn2:Bool} {w wx w4:Wd} {b:Int} (eG:Below w.heap.size w wx) (hz:w.heap.size+3≤wx.heap.size) (ho:wx.ownsRow (w.heap.size+3) 9 1 (.slice A L.length c) L.length (Ub Ui L)) (_:Pt wx w.heap.size r1 bg false) (hp4:Pt w4 w.heap.size r2 true dn2) (hf:Far [w.heap.size,w.heap.size+1,w.heap.size+2] wx w4)
  (h1:(x1.size:Int)≤b-8) (_:x1.size≤r1.size) (h3:r2.size≤r1.size) (h4:dn2=false→r2.size<r1.size) (hb:b≤1024) (bO:L.length+r1.size≤r.size) (hr:r.size≤1000):AP L A c x1 r1 r2 r dn2 w w4:=
 ⟨hp4,own_farS ho hf (by simp),eG.trans (hf.below (by simp) eG.size),Lx hz hf.size,by omega,by omega,h3,h4,by omega,by omega,hr⟩
theorem ap_next {L:List Bz} {A:Option Addr} {c:Nat} {x1 r1 r2 r:Bz} {dn2:Bool} {w W W':Wd} (h:AP L A c x1 r1 r2 r dn2 w W) (hb:Below W.heap.size W W'):AP L A c x1 r1 r2 r dn2 w W':=
 have hz:=h.zz
 ⟨h.pt.below hb (by omega),Up h.ow hb,U0 h.be hb h.be.size,Lx hz hb.size,h.xs,h.xb,h.rs,h.dn,h.ln,h.rr,h.r8⟩
theorem ap_end {L:List Bz} {A:Option Addr} {c:Nat} {x1 r1 r2 r s6 s7:Bz} {dn2:Bool} {w wx w7 w8:Wd} {v':Value} {o:Obj} (h:AP L A c x1 r1 r2 r dn2 w w7) (bO:false=false→L.length+r1.size≤r.size) (aN:∀ s∈L,s.size≤2000) (h6:s6.size=4+x1.size) (h7:s7.size=4+s6.size) (hm:mPt w.heap.size wx=r1.size+1)
  (aD:w8.ownsRow (w.heap.size+3) 9 1 v' (L.length+1) (Ub Ui L++[.string s7])) (aO:(w7.alloc o).grownBy w8 (Value.slice A L.length c).ownBlock):
  (∃ (r1:Bz) (bg dn:Bool) (L:List Bz),Pt w8 w.heap.size r1 bg dn∧w8.ownsRow (w.heap.size+3) 9 1 v' L.length (Ub Ui L)∧(dn=false→L.length+r1.size≤r.size)∧L.length+r1.size≤r.size+1∧(∀ s∈L,s.size≤2000)∧r1.size≤r.size∧Below w.heap.size w w8∧w.heap.size+3≤w8.heap.size)∧mPt w.heap.size w8<mPt w.heap.size wx:=by
 have hz:=h.zz;have bO:=bO rfl;have jE:∀ g,(Value.slice A L.length c).ownBlock=some g→w.heap.size+3≤g:=fun g hg=>(h.ow.lt g hg).1
 have hp:Pt w8 w.heap.size r2 true dn2:=((h.pt.below ((Bf w7.heap.size w7).alloc (Le _) o) (by omega)).grown aO (fun g hg=>by have:=jE g hg;omega))
 have hb:Below w.heap.size w w8:=(h.be.alloc h.be.size o).grown aO (by simp;omega) (fun g hg=>by have:=jE g hg;omega);have cU:=h.rs;have cB:=h.rr;have hxb:=h.xb;refine ⟨⟨r2,true,dn2,L++[s7],hp,?_,?_,?_,?_,by omega,hb,?_⟩,?_⟩
 ·rw [List.length_append,Vb,Va];exact aD
 ·intro hd;have:=h.dn hd;simp;omega
 ·simp;omega
 ·intro s hs;rcases List.mem_append.1 hs with hs|hs
  ·exact aN s hs
  ·simp at hs;subst hs;omega
 ·have:=aO.size;simp at this;omega
 ·rw [hm];cases dn2 with
  |true=>rw [mPt_done hp];omega
  |false=>
   rw [mPt_go hp];have:=h.dn rfl;omega
theorem add_any (b:Int) (r:Bz) (w:Wd) (hc:Cod w) (bT:9≤b) (aJ:b≤1024) (hr:r.size≤1000):Calls prog 235 #[.int .i64 b,.string ⟨#[]⟩,.string r] w (AddG w):=by
 obtain ⟨i0,aU,aW,aK,aR⟩:=info_parts Ze;have HP:=Hd (parts_any r w);have HCC:=Hd hc;have HR:=Hd hr;have HW0:Hid (Pt (((w.alloc (.cells #[.string r] 9)).alloc (.cells #[.bool false] 4)).alloc (.cells #[.bool false] 4)) w.heap.size r false false):=Hd ⟨((Blk.new w _ _).alloc _).alloc _,(U3 (w.alloc _) _ _ _ (by simp)).alloc _,U3 ((w.alloc _).alloc _) _ _ _ (by simp)⟩;have eM:Hid (Below w.heap.size w (((w.alloc (.cells #[.string r] 9)).alloc (.cells #[.bool false] 4)).alloc (.cells #[.bool false] 4))∧w.heap.size+3≤(((w.alloc (.cells #[.string r] 9)).alloc (.cells #[.bool false] 4)).alloc (.cells #[.bool false] 4)).heap.size):=Hd ⟨(((Bf _ _).alloc (Le _) _).alloc (by simp) _).alloc (by simp;omega) _,by simp⟩;clear hc hr;go_enter Tryz.func235,Tryz.ntmps235;go_wp2_with (go_at_call 279;refine HP.out.mono ?_;rintro e w3 ⟨rfl,rfl⟩)
 generalize ((w.alloc (.cells #[.string r] 9)).alloc (.cells #[.bool false] 4)).alloc (.cells #[.bool false] 4)=W0 at HW0 eM ⊢;go_loopw [13] (fun v wr => ∃ (r1:Bz) (bg dn:Bool) (L:List Bz),Pt wr w.heap.size r1 bg dn∧wr.ownsRow (w.heap.size+3) 9 1 v L.length (Ub Ui L)∧(dn=false→L.length+r1.size≤r.size)∧L.length+r1.size≤r.size+1∧(∀ s∈L,s.size≤2000)∧r1.size≤r.size∧Below w.heap.size w wr∧w.heap.size+3≤wr.heap.size) (fun _ wr=>mPt w.heap.size wr)
 case atStart=>exact ⟨r,false,false,[],HW0.out,⟨rfl,.inl ⟨rfl,rfl⟩⟩,fun _=>by simp,by simp,fun s hs=>by simp at hs,Le _,eM.out.1,eM.out.2⟩
 case round=>
  obtain ⟨r1,bg,dn,L,hpt,aD,bO,hle2,aN,cU,aE,hz⟩:=hrel;obtain ⟨wx,rfl⟩:∃ z:Wd,z=wr:=⟨_,rfl⟩
  have iM:=Hd hpt;have HO:=Hd aD;have dM:=Hd bO;have HLE2:=Hd hle2;have eF:=Hd aN;have kM:=Hd cU;have bG:=Hd aE;have HZ:=Hd hz;have HX:Hid (∀ o,Below wx.heap.size wx (wx.alloc o)):=Hd fun o=>(Bf _ _).alloc (Le _) _
  obtain ⟨A,c,rfl,i6,iR⟩:=Ue aD;cases dn with
  |true=>
   have HN:=Hd (next_done w.heap.size r1 bg (b-8) wx hpt);clear hpt aD bO hle2 aN cU aE hz;go_wp2_with (first|(go_at_call 301;refine HN.out.mono ?_;rintro e w4 ⟨rfl,hb⟩;have cD:=Hd hb;have iW:=Hd fun old=>Blk.new w4 339 old;have HS4:=Hd fun old=>U1 w4 old (sgC false false ⟨#[]⟩).toArray 339;clear hb)|((with_reducible refine Gt 339 14 ?_);refine Lv 339 w4.heap.size (sgC false false ⟨#[]⟩).toArray (iW.out _) (by simp [sgC,Value.oneCell']) ?_;rw [HS4.out]))
   go_ret2
   have ho:=Up (Up HO.out cD.out) ((Bf w4.heap.size w4).alloc (Le _) (.cells (sgC false false ⟨#[]⟩).toArray 339));exact ⟨A,L.length,c,L,rfl,Sl.of_own (f:=Ui) (fun _=>rfl) (by decide) ho,by have:=HLE2.out;have:=HR.out;omega,eF.out,(U0 bG.out cD.out bG.out.size).alloc (Lx bG.out.size cD.out.size) _⟩
  |false=>
   have HN:=Hd (next_any w.heap.size r1 bg (b-8) wx hpt (by omega) (by have:=HR.out;omega));have kN:=Hd (mPt_go hpt);clear hpt aD bO hle2 aN cU aE hz
   go_wp2_with (first|(go_at_call 301;refine HN.out.mono ?_;rintro e w4 ⟨a1,b1,x1,r2,dn2,rfl,jF,hx2,bS,hdn,hpt4,jY⟩;have iJ:=Hd (ap_mk bG.out HZ.out HO.out iM.out hpt4 jY jF hx2 bS hdn aJ (dM.out rfl) HR.out);have iW:=Hd fun old=>Blk.new w4 339 old;have HS4:=Hd fun old=>U1 w4 old (sgC a1 b1 x1).toArray 339;have jW:=Hd (Blk.new w4 339 (sgC a1 b1 x1).toArray);clear jF hx2 bS hdn hpt4 jY)|((with_reducible refine Gt 339 14 ?_);refine Lv 339 w4.heap.size (sgC a1 b1 x1).toArray (iW.out _) (by simp [sgC,Value.oneCell']) ?_;rw [HS4.out])|((with_reducible refine Gl 339 14 ?_);refine Lq 339 w4.heap.size (sgC a1 b1 x1).toArray jW.out Tryz.underlying339 ?_)|(go_at_call 281;refine (sform_any a1 b1 x1 _ (HCC.out.after (iJ.out.be.alloc iJ.out.be.size _)) iJ.out.xs).mono ?_;rintro e w6 ⟨s6,rfl,hs6,hb6⟩;have HA6:=Hd (ap_next iJ.out (((Bf _ _).alloc (Le _) _).trans (hb6.mono (by simp))));have jX:=Hd hs6;clear hb6 hs6)|(go_at_call 280;refine (swhole_any s6 _ (by have:=jX.out;have:=HA6.out.xb;omega)).mono ?_;rintro e w7 ⟨s7,rfl,hs7,hb7⟩;have HA7:=Hd (ap_next HA6.out hb7);have HS7:=Hd hs7;have cF:=Hd (Vw w7 [.string s7] 9 1 1 rfl);clear hb7 hs7)|(at_builtin;go_must (refine U5 _ rfl _ _ 150 rfl (w.heap.size+3) 9 i0 _ 1 16 Tryz.underlying150 aU aW aK aR rfl (by decide) (.slice A L.length c) L.length (Ub Ui L) rfl (HA7.out.ow.alloc _) (w7.heap.size+1) (some ⟨w7.heap.size,0,none⟩) 1 1 [.string s7] rfl cF.out (Vl s7) (by have:=HA7.out.ln;unfold maxLen;omega) (by have:=HA7.out.ln;omega) (by have:=HA7.out.zz;simp;omega) ?_;intro v' w8 hown8 hgr8 _;have kH:=Hd (ap_end HA7.out (fun _=>dM.out trivial) eF.out jX.out HS7.out kN.out hown8 hgr8);clear hown8 hgr8)))
   go_roundw
   case rel=>exact kH.out.1
   case measure=>exact kH.out.2
theorem spk1_any (g:Nat) (l:Int) (s:Bz) (w:Wd) (hg:w.cell? ⟨g,0,none⟩=some (.int .i64 l)):Calls prog 234 #[.string s,.pointer (some ⟨g,0,none⟩)] w fun e w'=>e = .returned (.bool (decide (l<s.size)))∧Below w.heap.size w w':=by
 go_enter Tryz.func234,Tryz.ntmps234;go_wp2;go_ret;exact ⟨rfl,Bf _ _⟩
theorem flat_str (L:List Bz):∀ u∈Ub Ui L,u.oneCell'=true:=by
 intro u hu;obtain ⟨s,_,h⟩:=List.mem_flatMap.1 hu;simp [Ui] at h;subst h;rfl
theorem spnPack_any (l b:Int) (g:Nat) (r:Bz) (w:Wd) (hc:Cod w) (hv:svB l b=true) (hg:Blk w g 9 #[.string r]) (hr:(r.size:Int)≤l):
  Calls prog 178 #[.int .i64 l,.int .i64 b,.slice (some ⟨g,0,none⟩) 1 1] w fun e w' => ∃ A n c L,e = .returned (.tuple #[.slice A n c,.int .i64 0])∧Sl Ui 1 w' w'.heap.size A n c L∧n≤1100∧(∀ s∈L,s.size≤2000)∧Below w.heap.size w w':=by
 obtain ⟨i0,aU,aW,aK,aR⟩:=info_parts Ze;have HV:=Hd (Yx l b (w.alloc (.cells #[.int .i64 l] 3)));rw [hv] at HV;have c0:(w.alloc (.cells #[.int .i64 l] 3)).cell? ⟨w.heap.size,0,none⟩=some (.int .i64 l):=((Blk.new w _ _).cell 0).trans rfl;have hgl:=hg.lt
 have cG:Hid (Sl Ui 1 (w.alloc (.cells #[.int .i64 l] 3)) (w.alloc (.cells #[.int .i64 l] 3)).heap.size (some ⟨g,0,none⟩) 1 1 [r]):=Hd ⟨Le _,rfl,rfl,fun _=>⟨g,0,rfl,by simp;omega,fun j u hu=>by
  rw [(hg.alloc _).cell,Nat.zero_add];have:Ub Ui [r] = [.string r]:=rfl;rw [this] at hu;simpa using hu⟩⟩
 have gU:Hid (Calls prog 180 #[.slice (some ⟨g,0,none⟩) 1 1,.func (.func 234) #[] #[.pointer (some ⟨w.heap.size,0,none⟩)]] (w.alloc (.cells #[.int .i64 l] 3)) fun e w'=>e = .returned (.bool ([r].any fun s=>decide (l<s.size)))∧Below (w.alloc (.cells #[.int .i64 l] 3)).heap.size (w.alloc (.cells #[.int .i64 l] 3)) w'):=
  Hd (sppk_any w.heap.size (fun s=>decide (l<s.size)) _ 1 1 [r] _ cG.out (by decide) (fun x _ W hb=>spk1_any w.heap.size l x W ((hb.cell (p:=⟨w.heap.size,0,none⟩) (by simp)).trans c0)))
 have hany:([r].any fun s=>decide (l<s.size))=false:=by simp;omega
 rw [hany] at gU;have cU:r.size≤1000∧9≤b∧b≤1024:=by unfold svB at hv;simp at hv;omega
 obtain ⟨cU,bT,aJ⟩:=cU;have HX:=Hd ((Bf w.heap.size w).alloc (Le _) (.cells #[.int .i64 l] 3));have HA:Hid (∀ W,Below w.heap.size w W→Calls prog 235 #[.int .i64 b,.string ⟨#[]⟩,.string r] W (AddG W)):=Hd fun W hb=>add_any b r W (hc.after hb) bT aJ cU
 have HG:=Hd hg;clear hc hv hr hany cU bT aJ hg hgl;go_enter Tryz.func178,Tryz.ntmps178;go_wp2_with (first|(go_at_call 177;refine HV.out.mono ?_;rintro e w2 ⟨rfl,rfl⟩)|(go_at_call 180;refine gU.out.mono ?_;rintro e w3 ⟨rfl,hb⟩;have b8:=Hd (HX.out.trans (hb.mono (by simp)));have d0:w3.cell? ⟨g,0,none⟩=some (.string r):=((HG.out.below b8.out HG.out.lt).cell 0).trans rfl;clear hb c0));refine Lu 2 ?_;rw [Rs]
 go_wp2_with (first|(go_at_call 235;refine (HA.out _ b8.out).mono ?_;rintro e w4 ⟨A,n,c,L,rfl,bP,hn,aN,hb⟩;have HS4:=Hd bP;have HN:=Hd hn;have eF:=Hd aN;have cD:=Hd (U0 b8.out hb b8.out.size);clear bP hn aN hb d0)|(at_builtin;go_must (refine U5 _ rfl _ _ 150 rfl w.heap.size 9 i0 _ 1 16 Tryz.underlying150 aU aW aK aR rfl (by decide) (.slice none 0 0) 0 [] rfl ⟨rfl,.inl ⟨rfl,rfl⟩⟩ w4.heap.size A n c (Ub Ui L) rfl HS4.out.rd (flat_str L) (by have:=HN.out;unfold maxLen;omega) (by have:=HN.out;omega) cD.out.size ?_;intro v' w5 aD aO _;have aS:=Hd aD;have bQ:Hid (World.grownBy _ w5 (Value.slice none 0 0).ownBlock):=Hd aO;clear aD aO)));rw [Rs];go_wp2
 go_ret2
 have ho:=aS.out;rw [Nat.zero_add] at ho;obtain ⟨A',c',rfl,_⟩:=Ue ho;exact ⟨A',n,c',L,rfl,Sl.of_own (f:=Ui) (fun _=>rfl) (by decide) ho,HN.out,eF.out,cD.out.grown bQ.out cD.out.size (by intro k hk;simp [Value.ownBlock] at hk)⟩
theorem cntF_range (left:Bz) (err most:Int) (hm:0≤most) (h:(Ee left err most).2.2=0):0≤(Ee left err most).1∧(Ee left err most).1≤most:=by
 unfold Ee at h ⊢;by_cases he:(Ye left err).2.2=0
 ·rw [if_pos he] at h ⊢;by_cases hn:most<(Ye left err).1
  ·rw [if_pos hn];simp;exact hm
  ·rw [if_neg hn];refine ⟨?_,by omega⟩;by_cases e0:err=0
   ·subst e0;exact numF_pos
   ·simp [Ye,e0] at he
 ·rw [if_neg he] at h;exact absurd h he
def Uj (left:Bz) (err most:Int):Bz×Bz×Int:=
 if (Ee left err most).2.2=0 then
  (if ((Ee left err most).2.1.size:Int)<(Ee left err most).1 then (⟨#[]⟩,⟨#[]⟩,11)
   else ((Ee left err most).2.1.extract 0 (Ee left err most).1.toNat,(Ee left err most).2.1.extract (Ee left err most).1.toNat (Ee left err most).2.1.size,0))
 else (⟨#[]⟩,(Ee left err most).2)
theorem Fr (left:Bz) (err:Int):(Ye left err).2.1.size≤left.size:=by
 unfold Ye;split
 ·split
  ·exact Z0 _
  ·simp
 ·simp
theorem cntF_size (left:Bz) (err most:Int):(Ee left err most).2.1.size≤left.size:=by
 unfold Ee;split
 ·split
  ·exact Z0 _
  ·exact Fr _ _
 ·exact Fr _ _
theorem Z4 (left:Bz) (err most:Int):(Uj left err most).1.size≤left.size∧(Uj left err most).2.1.size≤left.size:=by
 have h:=cntF_size left err most;unfold Uj;split
 ·split
  ·exact ⟨Z0 _,Z0 _⟩
  ·simp;omega
 ·exact ⟨Z0 _,h⟩
theorem Jz (r:Nat) (left:Bz) (err most:Int) (w:Wd) (hs:left.size≤maxLen) (hr:Rdr w r left err) (hm0:0≤most) (hm1:most≤4611686018427387904):
  Calls prog 123 #[.pointer (some ⟨r,0,none⟩),.int .i64 most] w fun x w'=>x = .returned (.string (Uj left err most).1)∧RrP w r (Uj left err most).2.1 (Uj left err most).2.2 w':=by
 have HN:=Hd (rdCount_any r left err most w hs hr hm0 hm1);have hz:=cntF_range left err most hm0;have aN:=cntF_size left err most;unfold maxLen at hs;clear hr;obtain ⟨R,hR⟩:∃ R,Ee left err most=R:=⟨_,rfl⟩
 unfold Uj;rw [hR];rw [hR] at HN hz aN;clear hR;obtain ⟨n,l,e⟩:=R;simp only at hz aN HN ⊢;have hl:l.size≤2 ^ 63-1:=by omega
 by_cases he:e=0
 ·subst he;obtain ⟨h0,h1⟩:=hz rfl;obtain ⟨m,rfl⟩:∃ m:Nat,n=m:=⟨n.toNat,by omega⟩
  rw [if_pos rfl];clear hz hs aN;by_cases hm:l.size<m
  ·rw [if_pos (by omega)];go_enter Tryz.func123,Tryz.ntmps123;go_wp2_with (first|(go_at_call 147;refine HN.out.mono ?_;rintro x w1 ⟨rfl,h1,h2⟩;have H1:=Hd h1;have H2:=Hd h2;have c1:=h1.c1;have c0:=h1.c0;clear h1 h2)|(go_at_call 148;refine (Hm r l 11 _ H1.out).mono ?_;rintro x w2 ⟨rfl,h3,h4⟩;have H3:=Hd h3;have H4:=Hd h4;clear h3 h4));go_ret;exact ⟨rfl,H3.out,H2.out.trans H4.out⟩
  ·rw [if_neg (by omega)];have hm':m≤l.size:=by omega
   go_enter Tryz.func123,Tryz.ntmps123;go_wp2_with (go_at_call 147;refine HN.out.mono ?_;rintro x w1 ⟨rfl,h1,h2⟩;have H1:=Hd h1;have H2:=Hd h2;have c1:=h1.c1;have c0:=h1.c0;have f0:=Blk.free h1 0;clear h1 h2);go_ret;exact ⟨rfl,H1.out.setL,H2.out.set _ _ _ (.inl (by simp))⟩
 ·rw [if_neg he];have he2:(e != 0)=true:=by simpa using he
  have he3:(e == 0)=false:=by simpa using he
  clear he hz hs aN;go_enter Tryz.func123,Tryz.ntmps123;go_wp2_with (go_at_call 147;refine HN.out.mono ?_;rintro x w1 ⟨rfl,h1,h2⟩;have H1:=Hd h1;have H2:=Hd h2;have c1:=h1.c1;clear h1 h2);go_ret;exact ⟨rfl,H1.out,H2.out⟩
def Ed (left:Bz) (err:Int):Int:=if err=0 then (if left.size=0 then 0 else 11) else err
theorem rdOpen_any (r:Nat) (left:Bz) (err:Int) (w:Wd) (hr:Rdr w r left err):
  Calls prog 149 #[.pointer (some ⟨r,0,none⟩)] w fun x w'=>x = .returned (.bool (decide (err=0)&&decide (left.size≠0)))∧w=w':=by
 have c0:=hr.c0;have c1:=hr.c1;clear hr;by_cases he:err=0
 ·subst he;by_cases hl:left.size=0
  ·obtain rfl:=ba_empty hl;go_enter Tryz.func149,Tryz.ntmps149;go_wp2;go_ret;exact ⟨rfl,rfl⟩
  ·obtain ⟨q1,q2⟩:=Ja hl;have q3:left.toList.isEmpty=false:=q1;have hd:decide (left.size≠0)=true:=by simpa using hl
   rw [hd];have HL:=Hd hl;clear hl hd;go_enter Tryz.func149,Tryz.ntmps149;go_wp2;go_ret;exact ⟨rfl,rfl⟩
 ·have hd:decide (err=0)=false:=by simpa using he
  have he3:(err == 0)=false:=by simpa using he
  rw [hd];clear he hd;go_enter Tryz.func149,Tryz.ntmps149;go_wp2;go_ret;exact ⟨rfl,rfl⟩
theorem Fm (r:Nat) (left:Bz) (err:Int) (w:Wd) (hr:Rdr w r left err):
  Calls prog 124 #[.pointer (some ⟨r,0,none⟩)] w fun x w'=>x = .returned (.int .i64 (Ed left err))∧w=w':=by
 have HO:=Hd (rdOpen_any r left err w hr);have c1:=hr.c1;unfold Ed;clear hr;by_cases he:err=0
 ·subst he;rw [if_pos rfl];by_cases hl:left.size=0
  ·rw [if_pos hl];have e:(decide ((0:Int)=0)&&decide (left.size≠0))=false:=by simp [hl]
   rw [e] at HO;clear e hl;go_enter Tryz.func124,Tryz.ntmps124;go_wp2_with (go_at_call 149;refine HO.out.mono ?_;rintro x w1 ⟨rfl,rfl⟩);go_ret;exact ⟨rfl,rfl⟩
  ·rw [if_neg hl];have e:(decide ((0:Int)=0)&&decide (left.size≠0))=true:=by simp [hl]
   rw [e] at HO;clear e hl;go_enter Tryz.func124,Tryz.ntmps124;go_wp2_with (go_at_call 149;refine HO.out.mono ?_;rintro x w1 ⟨rfl,rfl⟩);go_ret;exact ⟨rfl,rfl⟩
 ·rw [if_neg he];have e:(decide (err=0)&&decide (left.size≠0))=false:=by simp [he]
  rw [e] at HO;clear e he;go_enter Tryz.func124,Tryz.ntmps124;go_wp2_with (go_at_call 149;refine HO.out.mono ?_;rintro x w1 ⟨rfl,rfl⟩);go_ret;exact ⟨rfl,rfl⟩
def encL:Nat→Int→List Int
 |0,n=>[n]
 |f+1,n=>if 128≤n then bits BinOp.or IntKind.u8 (n % 256) 128::encL f (n / 128) else [n]
def Yo (n:Int):Bz:=strOfNums (encL 9 n)
theorem encL_len:∀ (f:Nat) (n:Int),(encL f n).length≤f+1
 |0,_=>by simp [encL]
 |f+1,n=>by
  unfold encL;split
  ·have:=encL_len f (n / 128);rw [List.length_cons];omega
  ·simp
theorem V9 (n:Int):(Yo n).size≤10:=by
 unfold Yo;rw [strOfNums_size];exact encL_len 9 n
def Gu (acc:List Int):Array Value:=((acc++List.replicate (10-acc.length) 0).map (Value.int .u8)).toArray
theorem tenC_set (acc:List Int) (v:Int) (h:acc.length<10):(Gu acc).setIfInBounds acc.length (.int .u8 v)=Gu (acc++[v]):=by
 unfold Gu;obtain ⟨m,hm⟩:∃ m,10-acc.length=m+1:=⟨10-acc.length-1,by omega⟩
 have gZ:10-(acc++[v]).length=m:=by simp;omega
 rw [hm,gZ,List.replicate_succ];simp
theorem tenC_get (acc:List Int) (i:Nat) (v:Int) (h:acc[i]? =some v):(Gu acc)[i]? =some (.int .u8 v):=by
 have hl:i<acc.length:=(List.getElem?_eq_some_iff.1 h).1;unfold Gu;rw [Ga,List.getElem?_map,List.getElem?_append_left hl,h];rfl
theorem encL_small (f:Nat) (m:Int) (h:¬ 128≤m):encL f m = [m]:=by
 cases f with
 |zero=>rfl
 |succ f=>unfold encL;rw [if_neg h]
theorem ten_slice (W:Wd) (g k:Nat) (h:k≤9):(Instr.sliceAt 300 (.pointer (some ⟨g,0,none⟩)) none (some (.int .i64 ((k:Int)+1))) none).run prog W = .ok (.slice (some ⟨g,0,none⟩) (k+1) 10) W:=by
 have hu:prog.underlying 300=some (.array 10 5):=by kernel_rfl
 have bU:prog.arrayLen 300=10:=by unfold Program.arrayLen;rw [hu]
 have kW:prog.elem 300=5:=by unfold Program.elem;rw [hu]
 have aN:(sizeOf (prog.elem 300)).run prog W = .ok 1 W:=by rw [kW];exact Tryz.sizeOf5 W
 rw [run_sliceAt_array_h W 300 ⟨g,0,none⟩ (by rw [bU,kW];exact hu) .i64 _ (by omega) (by rw [bU];omega),aN,bU];have e:((k:Int)+1).toNat=k+1:=by omega
 simp [Result.andThen_ok,slicedAt,e];rfl
theorem ten_text (W:Wd) (g k:Nat) (xs:List Int) (hb:Blk W g 300 (Gu xs)) (hx:xs.length=k+1):(convert 175 9 (.slice (some ⟨g,0,none⟩) (k+1) 10)).run prog W = .ok (.string (strOfNums xs)) W:=
 run_convert_bytes_arg W 175 5 (by kernel_rfl) (by kernel_rfl) g 0 (k+1) 10 xs hx (fun i hi=>by
  obtain ⟨v,hv⟩:∃ v,xs[i]? =some v:=⟨_,List.getElem?_eq_getElem (by omega)⟩
  rw [Nat.zero_add,hb.cell i,tenC_get xs i v hv,List.getD_eq_getElem?_getD,hv];rfl) 9 (by kernel_rfl)
theorem Zh (s:Bz) (n:Int) (w:Wd) (hs:s.size≤1000000000) (h0:0≤n) (h1:n<18446744073709551616):
  Calls prog 182 #[.string s,.int .u64 n] w fun x w'=>x = .returned (.string (s++Yo n))∧Below w.heap.size w w':=by
 obtain ⟨R,hR⟩:∃ R,encL 9 n=R:=⟨_,rfl⟩
 unfold Yo;rw [hR];have HR:=Hd hR;have HZ:=Hd (Blk.new w 300 (Gu []));clear hR;have hb:=(Bf w.heap.size w).alloc (Le _) (.cells (Gu []) 300);have HB:=Hd hb;clear hb;go_enter Tryz.func182,Tryz.ntmps182;go_wp2;go_loopw [1,6] (fun v i wr => ∃ (acc:List Int) (f:Nat) (m:Int),acc.length+f=9∧v = .int .u64 m∧i = .int .i64 acc.length∧0≤m∧m<2 ^ (7*f+1)∧acc++encL f m=R∧Blk wr w.heap.size 300 (Gu acc)∧Below w.heap.size w wr) (fun _ i _=>10-(intOf i).toNat)
 case atStart=>exact ⟨[],9,n,rfl,rfl,rfl,h0,by omega,HR.out,HZ.out,HB.out⟩
 case round=>
  obtain ⟨acc,f,m,hl,rfl,rfl,m0,m1,hr,hb,eG⟩:=hrel;obtain ⟨wx,rfl⟩:∃ x:Wd,x=wr:=⟨_,rfl⟩
  have bG:=Hd eG;have fD:=Hd hb;obtain ⟨k,hk⟩:∃ k,acc.length=k:=⟨_,rfl⟩
  have HK:=Hd hk;have HRE:=Hd hr;have hk9:k≤9:=by omega
  have f0:=hb.free k
  obtain ⟨c0,hc0⟩:∃ c0,wx.cell? ⟨w.heap.size,k,none⟩=some c0:=by
   rw [hb.cell k];exact ⟨_,Array.getElem?_eq_getElem (by unfold Gu;simp;omega)⟩
  rw [hk] at hl ⊢;clear hk hb eG hr;by_cases h128:128≤m
  ·match f,hl,m1,HRE with
   |0,hl,m1,HRE=>exfalso;simp at m1;omega
   |f+1,hl,m1,HRE=>
    obtain ⟨v,hv⟩:∃ v,bits BinOp.or IntKind.u8 (m % 256) 128=v:=⟨_,rfl⟩
    have hV:=Hd hv
    have aI:(acc++[v])++encL f (m / 128)=R:=by
     have h:=HRE.out;unfold encL at h;rw [if_pos h128,hv] at h;simpa using h
    have aY:=Hd aI
    have aF:Blk (wx.setCell ⟨w.heap.size,k,none⟩ (.int .u8 v)) w.heap.size 300 (Gu (acc++[v])):=by
     have h:=fD.out.set k (.int .u8 v);have e:=tenC_set acc v (by rw [HK.out];omega);rw [HK.out] at e
     rwa [e] at h
    have aL:=Hd aF;have HBE2:=Hd (bG.out.setCell (p:=⟨w.heap.size,k,none⟩) (Le _) (.int .u8 v))
    have gZ:m / 128<2 ^ (7*f+1):=by
     have e:(2:Int) ^ (7*(f+1)+1)=128*2 ^ (7*f+1):=by
      rw [show 7*(f+1)+1=7+(7*f+1) from by omega,Int.pow_add];rfl
     rw [e] at m1;omega
    have jQ:=Hd gZ;clear aI aF gZ m1;go_wp2;go_roundw
    case rel=>exact ⟨acc++[v],f,m / 128,by simp [HK.out];omega,rfl,by simp [HK.out],by omega,jQ.out,aY.out,aL.out,HBE2.out⟩
    case measure=>simp [intOf];omega
  ·have aI:acc++[m]=R:=by rw [←HRE.out,encL_small f m h128]
   have aY:=Hd aI
   have aF:Blk (wx.setCell ⟨w.heap.size,k,none⟩ (.int .u8 m)) w.heap.size 300 (Gu (acc++[m])):=by
    have h:=fD.out.set k (.int .u8 m);have e:=tenC_set acc m (by rw [HK.out];omega);rw [HK.out] at e
    rwa [e] at h
   have aN:¬ 9223372036854775807<s.size+(strOfNums (acc++[m])).size:=by rw [strOfNums_size,List.length_append,HK.out,List.length_singleton];omega
   have bP:=ten_slice (wx.setCell ⟨w.heap.size,k,none⟩ (.int .u8 m)) w.heap.size k hk9;have dU:=ten_text _ w.heap.size k (acc++[m]) aF (by simp [HK.out]);have HBE2:=Hd (bG.out.setCell (p:=⟨w.heap.size,k,none⟩) (Le _) (.int .u8 m));clear aI aF;go_wp2;go_ret;exact ⟨by rw [←aY.out];rfl,HBE2.out⟩
end Go.Proofs.YtoakknkmjnebjaaGreatDoor
