/- Part of the proof of HistoryReads. -/
import Derived.Test.YtapanepkfbamhaaGreatDoorJBN
namespace Go.Proofs.YtapanepkfbamhaaGreatDoor
open Tryz (prog)
section
set_option maxRecDepth 100000
set_option maxHeartbeats 4000000
open Go.RowKit
theorem look_run1 (w:World) (b:Nat) (st:List Cnt) (id:Int) (x:Cnt) (h:SB w b st) (hg:Y5 st id=some x):
  (Instr.lookup 65 (.map (some b)) (.int .i64 id) false).run prog w = .ok (.agg (cnC x).toArray) w:=by
 obtain ⟨es,c,hb,he,_⟩:=h;have hf:=I5 id es.toList st 0 he;have hc:(Instr.checkKey es.isEmpty 10000 3 (.int .i64 id)).run prog w = .ok () w:=MapKept.run_checkKey (k:=.int .i64 id) Tryz.underlying3 (by simp [MapKept.IsKey]) _ 9999;rw [hg] at hf;simp [Instr.lookup,run_underlying Tryz.underlying65,MapKept.run_getObj_map hb,hc,MapKept.run_findKey Tryz.underlying3 hf]
theorem CW.grown {w w':World} {row:Option Nat} {y:Cnt} (h:CW w y) (hg:w.grownBy w' row) (hs:0<y.pn→∀ a,y.pA=some a→some a.block≠row):CW w' y:=by
 refine ⟨⟨h.sl.1,h.sl.2.1,h.sl.2.2.1,fun h0=>?_⟩,h.le,h.nil,h.rz⟩;obtain ⟨b,o,e,hb,hc⟩:=h.sl.2.2.2 h0;refine ⟨b,o,e,Nat.lt_of_lt_of_le hb hg.size,fun j u hu=>?_⟩;rw [World.cell?_of_block (a:=⟨b,o+j,none⟩) (hg.block b hb (hs h0 _ e))];exact hc j u hu
theorem CW.lt {w:World} {y:Cnt} (h:CW w y) (h0:0<y.pn) (a:Addr) (ha:y.pA=some a):a.block<w.heap.size:=by
 obtain ⟨b,o,e,hb,_⟩:=h.sl.2.2.2 h0;rw [ha] at e;injection e with e
 subst e;exact hb
structure NK (bs:Nat) (w0 W:World) (v:Value) (st out:List Cnt):Prop where
 own:W.ownsRow w0.heap.size 30 23 v out.length (Ua cnC out)
 ps:∀ y∈out,CW W y∧(0<y.pn→∀ a,y.pA=some a→some a.block≠v.ownBlock)
 nw:∀ y∈out,0<y.pn→∀ a,y.pA=some a→w0.heap.size≤a.block
 be:Below w0.heap.size w0 W
 sw:SW w0 bs st
theorem Kt {w:World} {base n k:Nat} {t:TypeId} {v:Value} {xs:List Value} (h:w.ownsRow base t k v n xs):∀ g,v.ownBlock=some g→g<w.heap.size∧base≤g:=by
 intro g hg;rcases h.2 with ⟨hv,_⟩|⟨g',cap,cur,hv,hb,hw,_⟩
 ·subst hv;cases hg
 ·subst hv
  injection hg with hg
  subst hg;exact ⟨(Array.getElem?_eq_some_iff.1 hw).1,hb⟩
theorem NK.start {bs:Nat} {w0:World} {st:List Cnt} (h:SW w0 bs st):NK bs w0 w0 (.slice none 0 0) st []:=
 ⟨⟨rfl,.inl ⟨rfl,rfl⟩⟩,fun y hy=>(by cases hy),fun y hy=>(by cases hy),Bf _ _,h⟩
theorem nk_below {x:Cnt} {A':Option Addr} {c':Nat} {wx w2:World} (o4:Obj) (hb:Below (wx.alloc (.cells (cnC x).toArray 30)).heap.size (wx.alloc (.cells (cnC x).toArray 30)) w2):
  Below wx.heap.size wx ((w2.setCell ⟨wx.heap.size,22,none⟩ (.slice A' x.pn c')).alloc o4):=by
 have hz:=hb.size;simp at hz;exact ((((Bf wx.heap.size wx).alloc (Le _) _).trans (hb.mono (by simp))).setCell (Le _) _).alloc (by simp;omega) _
theorem NK.own4 {bs:Nat} {w0 wx w2:World} {v:Value} {st out:List Cnt} {x:Cnt} {A':Option Addr} {c':Nat} (h:NK bs w0 wx v st out) (o4:Obj) (hb:Below (wx.alloc (.cells (cnC x).toArray 30)).heap.size (wx.alloc (.cells (cnC x).toArray 30)) w2):
  ((w2.setCell ⟨wx.heap.size,22,none⟩ (.slice A' x.pn c')).alloc o4).ownsRow w0.heap.size 30 23 v out.length (Ua cnC out):=Ui h.own (nk_below o4 hb)
theorem NK.step {bs:Nat} {w0 wx w2 w5:World} {v v':Value} {st out:List Cnt} {x:Cnt} {A':Option Addr} {c':Nat} {o4:Obj} (h:NK bs w0 wx v st out) (hx:x.pn≤1024) (hrz:∀ q∈x.ps,q.rcd.size≤maxLen)
  (hb:Below (wx.alloc (.cells (cnC x).toArray 30)).heap.size (wx.alloc (.cells (cnC x).toArray 30)) w2)
  (hp:w2.ownsRow (wx.alloc (.cells (cnC x).toArray 30)).heap.size 76 2 (.slice A' x.pn c') x.pn (Ua prC x.ps))
  (ho:w5.ownsRow w0.heap.size 30 23 v' (out.length+1) (Ua cnC out++cnC (reP x A' c')))
  (hg:((w2.setCell ⟨wx.heap.size,22,none⟩ (.slice A' x.pn c')).alloc o4).grownBy w5 v.ownBlock)
  (hv:v'.ownBlock=v.ownBlock∨v'.ownBlock=some ((w2.setCell ⟨wx.heap.size,22,none⟩ (.slice A' x.pn c')).alloc o4).heap.size):NK bs w0 w5 v' st (out++[reP x A' c']):=by
 have h4:=nk_below (A':=A') (c':=c') o4 hb;have hz:=hb.size;simp at hz;have hB:Blk w2 wx.heap.size 30 (cnC x).toArray:=(Blk.new wx _ _).below hb (by simp);have k4:=(own_set hp hB (by decide) 22 (.slice A' x.pn c')).alloc o4;have hcw:CW ((w2.setCell ⟨wx.heap.size,22,none⟩ (.slice A' x.pn c')).alloc o4) (reP x A' c'):=CW.of_own' k4 hx hrz;have hol:=Kt h.own;have hpl:=Kt k4;refine ⟨?_,fun y hy=>?_,fun y hy h0 a ha=>?_,?_,h.sw⟩
 ·rw [List.length_append,Uy,Uv]
  exact ho
 ·have key:∀ y,CW ((w2.setCell ⟨wx.heap.size,22,none⟩ (.slice A' x.pn c')).alloc o4) y→(0<y.pn→∀ a,y.pA=some a→some a.block≠v.ownBlock)→CW w5 y∧(0<y.pn→∀ a,y.pA=some a→some a.block≠v'.ownBlock):=by
   intro y hy hs;refine ⟨hy.grown hg hs,fun h0 a ha=>?_⟩;rcases hv with hv|hv
   ·rw [hv];exact hs h0 a ha
   ·rw [hv]
    have:=hy.lt h0 a ha;intro e;injection e with e
    omega
  rcases List.mem_append.1 hy with hy|hy
  ·obtain ⟨h1,h2⟩:=h.ps y hy
   exact key y (h1.below h4) h2
  ·rw [List.mem_singleton] at hy
   subst hy;refine key _ hcw fun h0 a ha e=>?_
   have ha':A'=some a:=ha;have h1:=hpl a.block (by rw [ha'];rfl);have h2:=hol a.block e.symm;have:=h1.2;simp at this;omega
 ·rcases List.mem_append.1 hy with hy|hy
  ·exact h.nw y hy h0 a ha
  ·rw [List.mem_singleton] at hy
   subst hy;have ha':A'=some a:=ha;have h1:=hpl a.block (by rw [ha'];rfl);have h2:=h1.2;have h3:=h.be.size;simp at h2;omega
 ·have h5:Below w0.heap.size w0 ((w2.setCell ⟨wx.heap.size,22,none⟩ (.slice A' x.pn c')).alloc o4):=h.be.trans (h4.mono h.be.size)
  exact h5.grown hg (Lx h.be.size h4.size) fun k hk=>(hol k hk).2
def RepG (R:Int ⊕ List PC) (w:World) (e:Ending) (w':World):Prop:=match R with
 |.inl er=>er≠0∧e = .returned (.tuple #[.slice none 0 0,.int .i64 er])∧Below w.heap.size w w'
 |.inr s => ∃ (A:Option Addr) (c:Nat) (now:List Cnt),e = .returned (.tuple #[.slice A now.length c,.int .i64 0])∧Sl cnC 23 w' w'.heap.size A now.length c now∧(∀ a,A=some a→w.heap.size≤a.block)∧(∀ y∈now,CW w' y∧(0<y.pn→∀ a,y.pA=some a→w.heap.size≤a.block))∧(now.map plC).map some=(idsP s).map (Z4 s)∧now.length≤1000∧Below w.heap.size w w'
def idC (i:Int):List Value:=[.int .i64 i]
theorem flat_ids (s:List Int):s.map encZ=Ua idC s:=by
 induction s with
 |nil=>rfl
 |cons x r ih=>rw [List.map_cons,Vs,ih];rfl
theorem some_of {s:List PC} {st:List Cnt} (hs:st.map plC=s) {i:Int} (hi:i∈idsP s):∃ x∈st,Y5 st i=some x:=by
 obtain ⟨y,hy,he⟩:=mem_idsP.1 hi;subst hs;obtain ⟨z,hz,rfl⟩:=List.mem_map.1 hy;cases hg:Y5 st i with
 |some x=>exact ⟨x,List.mem_of_find?_eq_some hg,rfl⟩
 |none=>
  have:=List.find?_eq_none.1 hg z hz;have h2:z.d.id=i:=he;simp [Vp,h2] at this
theorem replay_of (R:Int ⊕ List PC) (iA:Option Addr) (im ic:Nat) (A:Option Addr) (n c:Nat) (w:World) (hok:∀ s,R = .inr s→(∀ x∈s,(Lit.int .i64 x.d.id).wf=true)∧s.length≤1000)
  (hp:Calls prog 20 #[.slice iA im ic,.slice A n c,.func (.func 21) #[] #[]] w (PlayR R w)):
  Calls prog 9 #[.slice iA im ic,.slice A n c] w (RepG R w):=by
 obtain ⟨i0,hi0,hz0,hz1,hz2⟩:=info_parts Zv;have HP:=Hd hp;have HOK:=Hd hok;clear hp hok;cases R with
 |inl er=>
  go_enter Tryz.func9,Tryz.ntmps9;go_wp2_with (go_at_call 20;refine HP.out.mono ?_;rintro e w1 ⟨hne,rfl,hb⟩;have HNE:=Hd hne;have hbe:(er != 0)=true:=(by simpa using hne);have HB:=Hd hb;clear hne hb)
  go_ret2
  exact ⟨HNE.out,rfl,HB.out⟩
 |inr s=>
  obtain ⟨hid,hlen⟩:=HOK.out s rfl;obtain ⟨m,hm⟩:∃ m,(idsP s).length=m:=⟨_,rfl⟩
  have hm1:m≤1000:=by rw [←hm,idsP_len];exact hlen
  have HID:=Hd hid;have HLEN:=Hd hlen;have HM:=Hd hm;clear hid hlen;go_enter Tryz.func9,Tryz.ntmps9;go_wp2_with (first|(go_at_call 20;refine HP.out.mono ?_;rintro e w1 ⟨bs,st,hst,rfl,hbs,hsw,hb⟩;have HST:=Hd hst;have HSW:=Hd hsw;have HB:=Hd hb;clear hst hsw hb hbs)|(go_at_call 23;refine (keys_call bs w1).mono ?_;rintro e w2 ⟨rfl,rfl⟩)|(go_at_call 22;refine (sorted_call bs st w1 HSW.out.sb (fun x hx=>HID.out (plC x) (by rw [←HST.out];exact List.mem_map_of_mem hx)) (by have:=HLEN.out;rw [←HST.out,List.length_map] at this;exact this)).mono ?_;rintro e w0 ⟨v,rfl,ho,hb⟩;rw [HST.out,hm] at ho;obtain ⟨vA,vc,rfl,_,_⟩:=Ub ho;rw [flat_ids] at ho;have HROW:=Hd (Sl.of_own (f:=idC) (k:=1) (fun _=>rfl) (by decide) ho);have hb0:Below w1.heap.size w1 w0:=((Bf _ _).alloc (Le _) _).trans (hb.mono (by simp));have HB0:=Hd hb0;have HSW0:=Hd (HSW.out.below hb0);clear ho hb hb0 hm))
  go_loopw [8,25] (fun v i wr => ∃ (j:Nat) (out:List Cnt),j≤m∧i = .int .i64 j∧out.length=j∧(out.map plC).map some=((idsP s).take j).map (Z4 s)∧NK bs w0 wr v st out) (fun _ i _=>m-(intOf i).toNat)
  case atStart=>exact ⟨0,[],Z0 _,rfl,rfl,rfl,NK.start HSW0.out⟩
  case round=>
   obtain ⟨j,out,hj,rfl,hlen,hrec,hnk⟩:=hrel;obtain ⟨wx,rfl⟩:∃ x:World,x=wr:=⟨_,rfl⟩
   obtain ⟨av,cv,rfl,hcv,_⟩:=Ub hnk.own;have HK:=Hd hnk;have HLN:=Hd hlen;have HREC:=Hd hrec;by_cases hlt:j<m
   ·obtain ⟨b,o,i,hA0,hb,hg,hcell⟩:=Sl.cell (f:=idC) (k:=1) (fun _=>rfl) (HROW.out.below hnk.be) hlt
    subst hA0;have ci:=hcell 0 _ rfl;simp only [Nat.add_zero,Nat.mul_one] at ci;obtain ⟨x,hx,hgx⟩:=some_of HST.out (List.mem_of_getElem? hg);have hl:=look_run1 wx bs st i x (HSW0.out.below hnk.be).sb hgx;have hcx:=(HSW0.out.below hnk.be).cw x hx
    have HTAKE:Hid (((idsP s).take (j+1)).map (Z4 s)=((idsP s).take j).map (Z4 s)++[some (plC x)]):=Hd (by
     rw [List.take_add_one,hg,List.map_append];congr 1;show [Z4 s i]=_;rw [←HST.out,G8,hgx];rfl)
    have H1:=Hd (Vx x);have HB1:=Hd fun old=>Blk.new wx 30 old
    have HS1:=Hd fun old=>U1 wx old (cnC x).toArray 30
    have hln:=hcx.sl.len;have HC:Hid (Calls prog 24 #[.slice x.pA x.pn x.pc] (wx.alloc (.cells (cnC x).toArray 30)) (GivesPs (wx.alloc (.cells (cnC x).toArray 30)) x.ps)):=Hd (clone_g x.pA x.pn x.pc x.ps _ (hcx.sl.after ((Bf _ _).alloc (Le _) _) (by simp)) (by have:=hcx.le;omega) hcx.nil);have HLX:=Hd hln;have HCX:=Hd hcx;have HLT:=Hd hlt;have c22:=Kd (Blk.new wx 30 (cnC x).toArray);clear hb hg hcell hgx hx hcx hln hlt hnk hlen hrec hcv;have HAN1:Hid (out.length+1≤maxLen):=Hd (by have:=HLN.out;unfold maxLen;omega);have HAN2:Hid ((out.length+1)*216≤140737488355328):=Hd (by have:=HLN.out;omega)
    have HAN3:Hid (∀ w2:World,Below (wx.alloc (.cells (cnC x).toArray 30)).heap.size (wx.alloc (.cells (cnC x).toArray 30)) w2→∀ (A':Option Addr) (c':Nat) (o4:Obj),w0.heap.size≤((w2.setCell ⟨wx.heap.size,22,none⟩ (.slice A' x.pn c')).alloc o4).heap.size):=Hd (fun w2 h A' c' o4=>Lx HK.out.be.size (nk_below o4 h).size);clear hj
    go_wp2_with (first|((with_reducible refine Gt 30 11 ?_);refine Lt rfl 30 _ _ rfl wx.heap.size (cnC x).toArray rfl rfl 30 _ (HB1.out _) (by kernel_rfl) rfl H1.out ?_;rw [HS1.out])|(go_at_call 24;refine HC.out.mono ?_;rintro e w2 ⟨A',c',rfl,ho2,hb2⟩;rw [HLX.out] at ho2 ⊢;have HO2:=Hd ho2;have HB2:=Hd hb2;clear c22 ho2;have d22:=Kd ((Blk.new wx 30 (cnC x).toArray).below hb2 (by simp));have f22:=((Blk.new wx 30 (cnC x).toArray).below hb2 (by simp)).free 22;have HKB:=Hd (cn_set (A:=A') (c:=c') ((Blk.new wx 30 (cnC x).toArray).below hb2 (by simp)));have HRD:=Hd (Va (w2.setCell ⟨wx.heap.size,22,none⟩ (.slice A' x.pn c')) (cnC (reP x A' c')) 30 1 23 rfl);have HO4:=Hd fun o4=>HK.out.own4 (A':=A') (c':=c') o4 hb2;clear hb2 hl)|((with_reducible refine Gl 30 11 ?_);refine Lr rfl 30 _ rfl wx.heap.size rfl 30 _ (0,0) _ HKB.out Tryz.underlying30 rfl (by kernel_rfl) ?_)|((with_reducible refine Gc 22 ?_);refine wpList_buildSlice rfl 22 30 1 _ rfl (cnC (reP x A' c')).toArray i0 (.agg zV.toArray) Tryz.underlying22 hi0 hz0 (by rw [hz1];decide) (by rw [hz1];decide) (by rw [hz1];kernel_rfl) ?_)|(at_builtin;go_must (refine U4 _ rfl _ _ 22 rfl w0.heap.size 30 i0 _ 23 216 Tryz.underlying22 hi0 hz0 hz1 hz2 rfl (by decide) (.slice av out.length cv) out.length (Ua cnC out) rfl (HO4.out _) ((w2.setCell ⟨wx.heap.size,22,none⟩ (.slice A' x.pn c')).heap.size+1) (some ⟨(w2.setCell ⟨wx.heap.size,22,none⟩ (.slice A' x.pn c')).heap.size,0,none⟩) 1 1 (cnC (reP x A' c')) rfl HRD.out (Ke (reP x A' c')) HAN1.out HAN2.out (HAN3.out _ HB2.out A' c' _) ?_;intro v' w5 hown hgr hor;have HNK:=Hd (HK.out.step HCX.out.le HCX.out.rz HB2.out HO2.out hown hgr hor);clear hown hgr hor)))
    go_roundw
    case rel=>exact ⟨j+1,out++[reP x A' c'],by have:=HLT.out;omega,by go_num,by rw [List.length_append,HLN.out];rfl,by rw [HTAKE.out,List.map_append,List.map_append,HREC.out];rfl,HNK.out⟩
    case measure=>simp [intOf];have:=HLT.out;omega
   ·obtain rfl:j=m:=by omega
    have HE:Hid ((out.map plC).map some=(idsP s).map (Z4 s)):=Hd (by rw [hrec,List.take_of_length_le (by rw [HM.out];exact Le _)]);clear hrec hnk;go_wp2
    go_ret2
    have hz0:w.heap.size≤w0.heap.size:=Lx HB.out.size HB0.out.size;refine ⟨av,cv,out,rfl,?_,fun a ha=>Lx hz0 (Kt HK.out.own a.block (by rw [ha];rfl)).2,fun y hy=>⟨(HK.out.ps y hy).1,fun h0 a ha=>Lx hz0 (HK.out.nw y hy h0 a ha)⟩,HE.out,by rw [HLN.out];exact hm1,U0 HB.out (HB0.out.trans (HK.out.be.mono HB0.out.size)) HB.out.size⟩;exact Sl.of_own (f:=cnC) (k:=23) (fun _=>rfl) (by decide) HK.out.own
end
section
open Go.RowKit
def Yr (s:List PC):Prop:=∀ x∈s,(Lit.int .i64 x.d.id).wf=true
theorem num_wf {n:Int} (h:Xc n=true):(Lit.int .i64 n).wf=true:=by
 have:=Kv h;simp [Lit.wf,IntKind.min,IntKind.max,IntKind.bits,IntKind.signed];omega
theorem G0 {s:List PC} {x:PC} (h:Yr s) (hx:(Lit.int .i64 x.d.id).wf=true):Yr (putP s x)∧(putP s x).length≤s.length+1:=by
 unfold putP;split
 ·refine ⟨fun y hy=>?_,by simp⟩
  rcases List.mem_or_eq_of_mem_set hy with hy|rfl
  ·exact h y hy
  ·exact hx
 ·refine ⟨fun y hy=>?_,by simp⟩
  rcases List.mem_append.1 hy with hy|hy
  ·exact h y hy
  ·rw [List.mem_singleton] at hy;subst hy;exact hx
theorem delP_ok {s:List PC} {id:Int} (h:Yr s):Yr (delP s id)∧(delP s id).length≤s.length:=by
 unfold delP;refine ⟨fun y hy=>h y (List.mem_of_mem_eraseIdx hy),?_⟩;rw [List.length_eraseIdx];split<;>omega
theorem toldF_id {rcd:ByteArray} {id:Int} {d:DSet} (h:Y6 rcd id=some d):d.id=id:=by
 unfold Y6 at h;split at h
 ·cases h
 ·split at h
  ·rename_i e _ he
   injection h with h
   subst h;exact he
  ·cases h
theorem aft1_ok (num:Int):∀ (cs:List Chg) (s s1:List PC),Yr s→(∀ c∈cs,(Lit.int .i64 c.id).wf=true)→Kh Y6 num cs s=some s1→Yr s1∧s1.length≤s.length+cs.length
 | [],s,s1,hs,_,h=>by
  injection h with h
  subst h;exact ⟨hs,Le _⟩
 |c::r,s,s1,hs,hc,h=>by
  have hr:∀ x∈r,(Lit.int .i64 x.id).wf=true:=fun x hx=>hc x (List.mem_cons_of_mem _ hx)
  unfold Kh at h;split at h
  ·have:=aft1_ok num r s s1 hs hr h
   exact ⟨this.1,by simp;omega⟩
  ·split at h
   ·cases h
   ·rename_i d hd
    have hx:(Lit.int .i64 (⟨d,num-1,[]⟩:PC).d.id).wf=true:=by
     show (Lit.int .i64 d.id).wf=true;rw [toldF_id hd];exact hc c List.mem_cons_self
    have h1:=G0 hs hx;have:=aft1_ok num r _ s1 h1.1 hr h;exact ⟨this.1,by simp;omega⟩
theorem aft2_ok (num:Int):∀ (cs:List Chg) (i:Nat) (s s1:List PC),Yr s→(∀ c∈cs,(Lit.int .i64 c.id).wf=true)→Zn Y6 doF num i cs s = .inr s1→Yr s1∧s1.length≤s.length+cs.length
 | [],i,s,s1,hs,_,h=>by
  injection h with h
  subst h;exact ⟨hs,Le _⟩
 |c::r,i,s,s1,hs,hc,h=>by
  have hr:∀ x∈r,(Lit.int .i64 x.id).wf=true:=fun x hx=>hc x (List.mem_cons_of_mem _ hx)
  have key:∀ s2:List PC,Yr s2∧s2.length≤s.length+1→Zn Y6 doF num (i+1) r s2 = .inr s1→Yr s1∧s1.length≤s.length+(c::r).length:=fun s2 h2 h3=>by
   have:=aft2_ok num r (i+1) s2 s1 h2.1 hr h3;exact ⟨this.1,by simp;omega⟩
  unfold Zn at h;split at h
  ·exact key s ⟨hs,by omega⟩ h
  ·rename_i x hx
   have hxm:x∈s:=List.mem_of_find?_eq_some hx;split at h
   ·have:=delP_ok (id:=c.id) hs
    exact key _ ⟨this.1,by omega⟩ h
   ·split at h
    ·split at h
     ·exact key s ⟨hs,by omega⟩ h
     ·rename_i d hd
      refine key _ (G0 hs ?_) h;show (Lit.int .i64 d.id).wf=true;rw [toldF_id hd];exact hc c List.mem_cons_self
    ·split at h
     ·exact key s ⟨hs,by omega⟩ h
     ·split at h
      ·cases h
      ·rename_i y hy
       refine key _ (G0 hs ?_) h;rw [doF_d _ _ _ _ hy];exact hs x hxm
theorem playF_ok:∀ (l:List Com) (s s1:List PC),Yr s→(∀ u∈l,u.cs.length≤8∧∀ c∈u.cs,(Lit.int .i64 c.id).wf=true)→Et Y6 doF l s = .inr s1→Yr s1∧s1.length≤s.length+16*l.length
 | [],s,s1,hs,_,h=>by
  injection h with h
  subst h;exact ⟨hs,Le _⟩
 |u::r,s,s1,hs,hu,h=>by
  obtain ⟨hl,hc⟩:=hu u List.mem_cons_self;unfold Et at h;split at h
  ·cases h
  ·rename_i s2 h2
   unfold aft at h2;split at h2
   ·cases h2
   ·rename_i s3 h3
    have k1:=aft1_ok u.num u.cs s s3 hs hc h3;have k2:=aft2_ok u.num u.cs 0 s3 s2 k1.1 hc h2;have k3:=playF_ok r s2 s1 k2.1 (fun v hv=>hu v (List.mem_cons_of_mem _ hv)) h;refine ⟨k3.1,?_⟩;simp only [List.length_cons];omega
theorem putS_ok {st:List Cnt} {x:Cnt} (h:Yr (st.map plC)) (hx:(Lit.int .i64 x.d.id).wf=true):Yr ((Eo st x).map plC)∧(Eo st x).length≤st.length+1:=by
 have:=G0 (x:=plC x) h hx;rw [Js] at this;simpa using this
theorem begF_ok (v:Cnt→Bool):∀ (l st st1:List Cnt),Yr (st.map plC)→(∀ x∈l,(Lit.int .i64 x.d.id).wf=true)→Fa v st l=some st1→Yr (st1.map plC)∧st1.length≤st.length+l.length
 | [],st,st1,hs,_,h=>by
  injection h with h
  subst h;exact ⟨hs,Le _⟩
 |x::r,st,st1,hs,hx,h=>by
  unfold Fa at h;split at h
  ·cases h
  ·have h1:=putS_ok hs (hx x List.mem_cons_self)
   have:=begF_ok v r _ st1 h1.1 (fun y hy=>hx y (List.mem_cons_of_mem _ hy)) h;exact ⟨this.1,by simp;omega⟩
theorem chgB_id {c:Chg} (h:chgB c=true):Xc c.id=true:=by
 unfold chgB chB at h
 repeat' split at h
 all_goals first
  |cases h
  |(unfold Ef at h;simp only [Bool.and_eq_true] at h;simp [h])
theorem rep_ok {ini:List Cnt} {l:List Com} {s:List PC} (hi:∀ x∈ini,(Lit.int .i64 x.d.id).wf=true) (hn:ini.length≤100) (hl:l.length≤12) (hc:∀ u∈l,u.cs.length≤8) (h:repF ini l = .inr s):(∀ x∈s,(Lit.int .i64 x.d.id).wf=true)∧s.length≤1000:=by
 unfold repF at h;split at h
 ·rename_i s0 st0 ho hb
  have h1:=begF_ok vC ini [] st0 (fun x hx=>by cases hx) hi hb
  have h2:=playF_ok s0 (st0.map plC) s h1.1 (fun u hu=>by
   obtain ⟨hm,hcb⟩:=ord_mem ho u hu;refine ⟨hc u hm,fun c hcm=>num_wf (chgB_id ?_)⟩;unfold Z9 at hcb;simp only [Bool.and_eq_true,Bool.not_eq_true',List.any_eq_false] at hcb;have:=hcb.1.2 c hcm;simpa using this) h
  have h3:=ord_len ho;refine ⟨h2.1,?_⟩;have:=h2.2;rw [List.length_map] at this;have h4:=h1.2;simp at h4;omega
 ·cases h
end
section
set_option maxRecDepth 100000
open Go.RowKit
structure Rg where
 lo:ByteArray
 hi:ByteArray
 en:Bool
def rgV (r:Rg):Value:=.agg #[.string r.lo,.string r.hi,.bool r.en]
def fromR (k:ByteArray):Rg:=⟨k,⟨#[]⟩,true⟩
def pointR (k:ByteArray):Rg:=⟨k,k,false⟩
theorem from_any (k:ByteArray) (w:World):Calls prog 45 #[.string k] w fun e w'=>e = .returned (rgV (fromR k))∧Below w.heap.size w w':=by
 unfold rgV fromR;go_enter Tryz.func45,Tryz.ntmps45;go_wp2;exact Br (v:=.agg #[.string k,.string ⟨#[]⟩,.bool true]) (by simp [results,Tryz.results45,go_sem]) rfl ⟨rfl,(Bf _ _).alloc (Le _) _⟩
theorem point_any (k:ByteArray) (w:World):Calls prog 46 #[.string k] w fun e w'=>e = .returned (rgV (pointR k))∧Below w.heap.size w w':=by
 unfold rgV pointR;go_enter Tryz.func46,Tryz.ntmps46;go_wp2;exact Br (v:=.agg #[.string k,.string k,.bool false]) (by simp [results,Tryz.results46,go_sem]) rfl ⟨rfl,(Bf _ _).alloc (Le _) _⟩
def inB (r:Rg) (k:ByteArray):Bool := !Vl k r.lo&&!(!r.en&&Vl r.hi k)
theorem gt_is (a b:ByteArray):(!Op.bytesLess a.toList b.toList&&!(a.toList == b.toList))=Vl b a:=by
 rw [less_total];unfold Vl;rw [beq_ba,Bool.not_or]
theorem in1_any (lo hi k:ByteArray) (en:Bool) (b1 b2:Nat) (w:World) (h0:w.cell? ⟨b1,0,none⟩=some (.string lo)) (h1:w.cell? ⟨b1,1,none⟩=some (.string hi)) (h2:w.cell? ⟨b1,2,none⟩=some (.bool en)) (h3:w.cell? ⟨b2,0,none⟩=some (.string k)):
  Calls prog 107 #[.pointer (some ⟨b1,0,none⟩),.pointer (some ⟨b2,0,none⟩)] w fun e w'=>e = .returned (.bool (!en&&Vl hi k))∧Below w.heap.size w w':=by
 have _h:=h0;clear h0 _h;obtain ⟨R,hR⟩:∃ R,Vl hi k=R:=⟨_,rfl⟩
 have HR:Hid ((!Op.bytesLess k.toList hi.toList&&!(k.toList == hi.toList))=R):=Hd (by rw [gt_is,hR]);rw [hR];clear hR;cases en with
 |true=>
  go_enter Tryz.func107,Tryz.ntmps107;go_wp2;go_ret;exact ⟨rfl,Bf _ _⟩
 |false=>
  go_enter Tryz.func107,Tryz.ntmps107;go_wp2;go_ret;refine ⟨?_,Bf _ _⟩;rw [←HR.out];rfl
theorem in_any (r:Rg) (k:ByteArray) (w:World):Calls prog 81 #[rgV r,.string k] w fun e w'=>e = .returned (.bool (inB r k))∧Below w.heap.size w w':=by
 obtain ⟨lo,hi,en⟩:=r;unfold rgV inB;simp only;have B0:=Hd (Vq w #[.string lo,.string hi,.bool en] 92);have B1:=Hd ((Uc B0.out).alloc (Nat.le_of_succ_le (Vf B0.out)) (.cells #[.string k] 9));have K0:=(Blk.new w 92 #[.string lo,.string hi,.bool en]).alloc (.cells #[.string k] 9);have K1:=U3 (w.alloc (.cells #[.string lo,.string hi,.bool en] 92)) 9 #[.string k] (w.heap.size+1) (by simp);have HI:=Hd (in1_any lo hi k en w.heap.size (w.heap.size+1) _ (K0.cell 0) (K0.cell 1) (K0.cell 2) (K1.cell 0));clear K0 K1;obtain ⟨R,hR⟩:∃ R,(!en&&Vl hi k)=R:=⟨_,rfl⟩
 rw [hR] at HI ⊢;clear hR;cases hl:Vl k lo with
 |true=>
  have d1:Op.bytesLess k.toList lo.toList=true:=hl;clear hl;go_enter Tryz.func81,Tryz.ntmps81;go_wp2;go_ret;exact ⟨rfl,B1.out⟩
 |false=>
  have d1:Op.bytesLess k.toList lo.toList=false:=hl;clear hl;go_enter Tryz.func81,Tryz.ntmps81;go_wp2_with (go_at_call 107;refine HI.out.mono ?_;rintro e w2 ⟨rfl,hb2⟩;have X2:=Hd (U0 B1.out hb2 B1.out.size);clear hb2);go_ret;exact ⟨rfl,X2.out⟩
def emptyB (r:Rg):Bool := !inB r r.lo
theorem isEmpty_any (r:Rg) (w:World):Calls prog 66 #[rgV r] w fun e w'=>e = .returned (.bool (emptyB r))∧Below w.heap.size w w':=by
 have HI:=fun W=>Hd (in_any r r.lo W)
 unfold emptyB;generalize inB r r.lo=R at HI ⊢;obtain ⟨lo,hi,en⟩:=r;unfold rgV at HI ⊢;simp only at HI ⊢;have HI:=HI (w.alloc (.cells #[.string lo,.string hi,.bool en] 92));have B0:=Hd (Vq w #[.string lo,.string hi,.bool en] 92);go_enter Tryz.func66,Tryz.ntmps66;go_wp2_with (go_at_call 81;refine HI.out.mono ?_;rintro e w2 ⟨rfl,hb2⟩;have X2:=Hd (U0 (Uc B0.out) hb2 (Nat.le_of_succ_le (Vf B0.out)));clear hb2);go_ret;exact ⟨rfl,X2.out⟩
def mxS (a b:ByteArray):ByteArray:=if Vl a b then b else a
def mnS (a b:ByteArray):ByteArray:=if Vl b a then b else a
def meetR (a b:Rg):Rg:=⟨mxS a.lo b.lo,if a.en&&b.en then ⟨#[]⟩ else if a.en then b.hi else if b.en then a.hi else mnS a.hi b.hi,a.en&&b.en⟩
theorem run_maxS (W:World) (a b:ByteArray):(Builtin.max_ #[9,9] 9 #[.string a,.string b]).run prog W = .ok (.string (mxS a b)) W:=by
 cases h:Op.bytesLess a.toList b.toList<;>simp [Builtin.max_,Builtin.max2,Op.stringOp,mxS,Vl,asBool,h]
theorem run_minS (W:World) (a b:ByteArray):(Builtin.min_ #[9,9] 9 #[.string a,.string b]).run prog W = .ok (.string (mnS a b)) W:=by
 have hq:=leq_is a b;cases h:Vl b a<;>rw [h] at hq<;>simp [Builtin.min_,Builtin.min2,Op.stringOp,mnS,asBool,h]
 ·simp at hq
  intro h1 h2;rcases hq with h3|h3
  ·rw [h1] at h3;cases h3
  ·exact absurd h3 h2
 ·simp_all
theorem meet_any (a b:Rg) (w:World):Calls prog 67 #[rgV a,rgV b] w fun e w'=>e = .returned (rgV (meetR a b))∧Below w.heap.size w w':=by
 obtain ⟨lo,hi,en⟩:=a;obtain ⟨lo',hi',en'⟩:=b;unfold rgV meetR;simp only;obtain ⟨M,hM⟩:∃ M,mxS lo lo'=M:=⟨_,rfl⟩
 obtain ⟨N,hN⟩:∃ N,mnS hi hi'=N:=⟨_,rfl⟩
 have m1:=fun W=>run_maxS W lo lo'
 have m2:=fun W=>run_minS W hi hi'
 rw [hM] at m1 ⊢;rw [hN] at m2 ⊢;clear hM hN;have BB:Hid (∀ o1 o2 o3 o4,Below w.heap.size w ((((w.alloc o1).alloc o2).alloc o3).alloc o4)):=Hd fun o1 o2 o3 o4=>((((Bf w.heap.size w).alloc (Le _) _).alloc (by simp) _).alloc (by simp;omega) _).alloc (by simp;omega) _
 cases en<;>cases en'
 ·go_enter Tryz.func67,Tryz.ntmps67
  go_wp2;exact Br (v:=.agg #[.string M,.string N,.bool false]) (by simp [results,Tryz.results67,go_sem]) rfl ⟨rfl,BB.out _ _ _ _⟩
 ·go_enter Tryz.func67,Tryz.ntmps67
  go_wp2;exact Br (v:=.agg #[.string M,.string hi,.bool false]) (by simp [results,Tryz.results67,go_sem]) rfl ⟨rfl,BB.out _ _ _ _⟩
 ·go_enter Tryz.func67,Tryz.ntmps67
  go_wp2;exact Br (v:=.agg #[.string M,.string hi',.bool false]) (by simp [results,Tryz.results67,go_sem]) rfl ⟨rfl,BB.out _ _ _ _⟩
 ·go_enter Tryz.func67,Tryz.ntmps67
  go_wp2;exact Br (v:=.agg #[.string M,.string ⟨#[]⟩,.bool true]) (by simp [results,Tryz.results67,go_sem]) rfl ⟨rfl,BB.out _ _ _ _⟩
def Ev (a b:Rg):Bool := !emptyB (meetR a b)
theorem overlap_any (a b:Rg) (w:World):Calls prog 44 #[rgV a,rgV b] w fun e w'=>e = .returned (.bool (Ev a b))∧Below w.heap.size w w':=by
 have HM:=Hd fun W=>meet_any a b W
 have HE:=Hd fun W=>isEmpty_any (meetR a b) W
 unfold Ev;generalize emptyB (meetR a b)=R at HE ⊢;generalize meetR a b=m at HM HE;obtain ⟨lo,hi,en⟩:=a;obtain ⟨lo',hi',en'⟩:=b;obtain ⟨lo2,hi2,en2⟩:=m;unfold rgV at HM HE ⊢;simp only at HM HE ⊢;have B0:Hid (Below w.heap.size w ((w.alloc (.cells #[.string lo,.string hi,.bool en] 92)).alloc (.cells #[.string lo',.string hi',.bool en'] 92))):=Hd (((Bf w.heap.size w).alloc (Le _) _).alloc (by simp) _);go_enter Tryz.func44,Tryz.ntmps44;go_wp2_with (first|(go_at_call 67;refine (HM.out _).mono ?_;rintro e w2 ⟨rfl,hb2⟩;have X2:=Hd (U0 B0.out hb2 B0.out.size);clear hb2)|(go_at_call 66;refine (HE.out _).mono ?_;rintro e w3 ⟨rfl,hb3⟩;have X3:=Hd (U0 X2.out hb3 X2.out.size);clear hb3));go_ret;exact ⟨rfl,X3.out⟩
end
section
set_option maxRecDepth 100000
set_option maxHeartbeats 2000000
open Go.RowKit
structure Tch where
 id:Int
 r:Rg
def Xl (t:Tch):List Value:=[.int .i64 t.id,.string t.r.lo,.string t.r.hi,.bool t.r.en]
theorem tchC_len (t:Tch):(Xl t).length=4:=rfl
theorem Zb (W:World) (k:Nat) (cs:List Value) (t:TypeId) (n size:Nat) (h:cs.length=n*size) (hz:W.heap.size=k):Rd (W.alloc (.cells cs.toArray t)) (k+1) size (some ⟨k,0,none⟩) n cs:=by
 subst hz;exact Va W cs t n size h
def chT (c:Chg):Tch:=⟨c.id,if c.kind=0∨c.kind=1 then pointR c.key else fromR ⟨#[]⟩⟩
theorem infoTch:(prog.info? 94).map (fun i=>(i.zero,i.size,i.bytes))=some (some (.agg #[.int .i64 0,.string ⟨#[]⟩,.string ⟨#[]⟩,.bool false]),4,48):=by kernel_rfl
theorem Iz {α β:Type} (f:α→β) {l:List α} {j:Nat} {x:α} (h:l[j]? =some x):(l.map f).take (j+1)=(l.map f).take j++[f x]:=by
 rw [List.take_add_one,List.getElem?_map,h];rfl
def Fb (w:World) (n:Nat) (l:List Tch) (e:Ending) (w':World):Prop:=∃ A c,e = .returned (.slice A n c)∧Sl Xl 4 w' w'.heap.size A n c l∧Below w.heap.size w w'
theorem Fp (x:Com) (w:World) (hok:ComOk w w.heap.size x) (hn:x.cn≤1000):
  Calls prog 18 #[.agg #[.int .i64 x.unit,.int .i64 x.num,.slice x.rA x.rn x.rc,.slice x.cA x.cn x.cc]] w (Fb w x.cn (x.cs.map chT)):=by
 have HS:=Hd hok.2.1;have HL:=Hd hok.2.1.len;obtain ⟨i0,hi0,hz0,hz1,hz2⟩:=info_parts infoTch;have HFR:Hid (∀ W:World,Calls prog 45 #[.string ⟨#[]⟩] W fun e w'=>e = .returned (.agg #[.string ⟨#[]⟩,.string ⟨#[]⟩,.bool true])∧Below W.heap.size W w'):=Hd fun W=>from_any ⟨#[]⟩ W
 clear hok;go_enter Tryz.func18,Tryz.ntmps18;have hfX:=Zc (Vq w #[.int .i64 x.unit,.int .i64 x.num,.slice x.rA x.rn x.rc,.slice x.cA x.cn x.cc] 34) 3;clear hfX;go_wp2;go_loopw [3,10] (fun v3 i wr => ∃ j:Nat,j≤x.cn∧i = .int .i64 j∧wr.ownsRow (w.heap.size+1) 94 4 v3 j (Ua Xl ((x.cs.map chT).take j))∧Below (w.heap.size+1) (w.alloc (.cells #[.int .i64 x.unit,.int .i64 x.num,.slice x.rA x.rn x.rc,.slice x.cA x.cn x.cc] 34)) wr) (fun _ i _=>x.cn-(intOf i).toNat)
 case atStart=>exact ⟨0,Z0 _,rfl,⟨rfl,.inl ⟨rfl,rfl⟩⟩,Bf _ _⟩
 case round=>
  obtain ⟨j,hj,rfl,hown,hbel⟩:=hrel;have HOW:=Hd hown;have HB:=Hd hbel;have hsz:=Vf hbel;clear hown hbel;by_cases hlt:j<x.cn
  ·obtain ⟨b,o,y,hA,hb,hg,hcell⟩:=Sl.cell (f:=chC) (k:=5) chC_len (HS.out.after (Uc HB.out) (Nat.le_of_succ_le hsz)) hlt
   have HG:=Hd hg;have HCA:=Hd hcell;have HBL:=Hd hb;have HMT:Hid (Ua Xl ((x.cs.map chT).take (j+1))=Ua Xl ((x.cs.map chT).take j)++Xl (chT y)):=Hd (by rw [Iz chT HG.out,Uy,Uv]);have HAE:=Hd hA;rw [hA];have c0:=hcell 0 _ rfl;have c1:=hcell 1 _ rfl;have c2:=hcell 2 _ rfl;have c3:=hcell 3 _ rfl;have c4:=hcell 4 _ rfl;simp only [Nat.add_zero] at c0;clear hg hcell hb hA;by_cases hk:y.kind=0∨y.kind=1
   ·have HCT:Hid (chT y=⟨y.id,⟨y.key,y.key,false⟩⟩):=Hd (by unfold chT;rw [if_pos hk];rfl)
    have HPT:Hid (∀ W:World,Calls prog 46 #[.string y.key] W fun e w'=>e = .returned (.agg #[.string y.key,.string y.key,.bool false])∧Below W.heap.size W w'):=Hd fun W=>point_any y.key W
    obtain ⟨K1,hK⟩:∃ K1:Int,y.kind=K1:=⟨_,rfl⟩
    rw [hK] at hk c0;have HK:=Hd hK;clear hK;rcases hk with rfl|rfl
    all_goals
     go_wp2_with fail;refine (HFR.out _).mono ?_;rintro e w2 ⟨rfl,hb2⟩;have kA:=(Blk.new wr 58 #[.int .i64 _,.int .i64 y.id,.string y.key,.string y.rcd,.string y.vol]).below hb2 (by simp);have a0:=kA.cell 0;have a1:=kA.cell 1;have a2:=kA.cell 2;simp at a0 a1 a2;have l1:=kA.lt;have B2:=Hd (U0 ((Bf wr.heap.size wr).alloc (Le _) _) hb2 (by simp));clear hb2;go_wp2_with fail;refine (HPT.out _).mono ?_;rintro e w3 ⟨rfl,hb3⟩;have kA3:=(kA.alloc (.cells #[.string ⟨#[]⟩,.string ⟨#[]⟩,.bool true] 92)).below hb3 (by simp;omega);have kR:=(Blk.new w2 92 #[.string ⟨#[]⟩,.string ⟨#[]⟩,.bool true]).below hb3 (by simp);have a3:=kA3.cell 1;have r0:=kR.cell 0;have r1:=kR.cell 1;have r2:=kR.cell 2;have f0:=kR.free 0;have f1:=kR.free 1;have f2:=kR.free 2;simp at a3 r0 r1 r2;have l2:=kR.lt;have l3:wr.heap.size≠w2.heap.size:=by omega
     have l4:¬ wr.heap.size=w2.heap.size:=l3;have B3:=Hd (U0 (B2.out.alloc B2.out.size _) hb3 (Lx B2.out.size (Vh _ _)));have B9:=Hd (((B3.out.setCell (p:=⟨w2.heap.size,0,none⟩) B2.out.size (.string y.key)).setCell (p:=⟨w2.heap.size,1,none⟩) B2.out.size (.string y.key)).setCell (p:=⟨w2.heap.size,2,none⟩) B2.out.size (.bool false));clear kA kA3 kR hb3;go_wp2_with (at_builtin;go_must (refine U4 _ rfl _ _ 62 rfl (w.heap.size+1) 94 i0 _ 4 48 Tryz.underlying62 hi0 hz0 hz1 hz2 rfl (by decide) _ j _ rfl ((Ui HOW.out B9.out).alloc _) _ _ 1 1 [.int .i64 y.id,.string y.key,.string y.key,.bool false] rfl (Zb _ _ [.int .i64 y.id,.string y.key,.string y.key,.bool false] 94 1 4 rfl ?c5) ?c1 ?c2 ?c3 ?c4 ?_))
     case c5=>simp
     case c1=>intro u hu;simp at hu;rcases hu with rfl|rfl|rfl|rfl<;>rfl
     case c2=>simp only [maxLen];omega
     case c3=>omega
     case c4=>simp;omega
     intro v4 w4 ho4 hg4 _;have B4:=Hd (((HB.out.trans (B9.out.mono hsz)).alloc (Lx hsz B9.out.size) _).grown hg4 (Lx (Lx hsz B9.out.size) (Vh _ _)) (Vv HOW.out (Le _)));have HO4:Hid (w4.ownsRow (w.heap.size+1) 94 4 v4 (j+1) (Ua Xl ((x.cs.map chT).take (j+1)))):=Hd (by rw [HMT.out,HCT.out];exact ho4);clear ho4 hg4;go_wp2;go_roundw
     case rel=>exact ⟨j+1,by omega,by go_num,HO4.out,by have h:=B4.out;rw [HAE.out] at h;exact h⟩
     case measure=>simp [intOf];omega
   ·have d0:(y.kind == 0)=false:=by simp;omega
    have d1:(y.kind == 1)=false:=by simp;omega
    have HCT:Hid (chT y=⟨y.id,⟨⟨#[]⟩,⟨#[]⟩,true⟩⟩):=Hd (by unfold chT;rw [if_neg hk];rfl);clear hk;go_wp2_with fail;refine (HFR.out _).mono ?_;rintro e w2 ⟨rfl,hb2⟩;have kA:=(Blk.new wr 58 #[.int .i64 y.kind,.int .i64 y.id,.string y.key,.string y.rcd,.string y.vol]).below hb2 (by simp);have a0:=kA.cell 0;have a1:=kA.cell 1;have a2:=kA.cell 2;simp at a0 a1 a2;have l1:=kA.lt;have B2:=Hd (U0 ((Bf wr.heap.size wr).alloc (Le _) _) hb2 (by simp));clear kA hb2;go_wp2_with (at_builtin;go_must (refine U4 _ rfl _ _ 62 rfl (w.heap.size+1) 94 i0 _ 4 48 Tryz.underlying62 hi0 hz0 hz1 hz2 rfl (by decide) _ j _ rfl (((Ui HOW.out B2.out).alloc _).alloc _) _ _ 1 1 [.int .i64 y.id,.string ⟨#[]⟩,.string ⟨#[]⟩,.bool true] rfl (Zb _ _ [.int .i64 y.id,.string ⟨#[]⟩,.string ⟨#[]⟩,.bool true] 94 1 4 rfl ?c5) ?c1 ?c2 ?c3 ?c4 ?_))
    case c5=>simp
    case c1=>intro u hu;simp at hu;rcases hu with rfl|rfl|rfl|rfl<;>rfl
    case c2=>simp only [maxLen];omega
    case c3=>omega
    case c4=>simp;omega
    intro v4 w4 ho4 hg4 _;have B4:=Hd ((((HB.out.trans (B2.out.mono hsz)).alloc (Lx hsz B2.out.size) _).alloc (Lx (Lx hsz B2.out.size) (Vh _ _)) _).grown hg4 (Lx (Lx (Lx hsz B2.out.size) (Vh _ _)) (Vh _ _)) (Vv HOW.out (Le _)));have HO4:Hid (w4.ownsRow (w.heap.size+1) 94 4 v4 (j+1) (Ua Xl ((x.cs.map chT).take (j+1)))):=Hd (by rw [HMT.out,HCT.out];exact ho4);clear ho4 hg4;go_wp2;go_roundw
    case rel=>exact ⟨j+1,by omega,by go_num,HO4.out,by have h:=B4.out;rw [HAE.out] at h;exact h⟩
    case measure=>simp [intOf];omega
  ·have hjn:x.cn=j:=by omega
   have htk:(x.cs.map chT).take j=x.cs.map chT:=List.take_of_length_le (by rw [List.length_map,HL.out];omega);rw [htk] at HOW;obtain ⟨A5,c5,hv5,_,_⟩:=Ub HOW.out;subst hv5;have HSL:=Hd (Sl.of_own (f:=Xl) (k:=4) tchC_len (by decide) HOW.out);have HJN:=Hd hjn;clear htk hjn;go_wp2;go_ret;exact ⟨A5,c5,by rw [HJN.out];rfl,by rw [HJN.out];exact HSL.out,Uc HB.out⟩
end
end Go.Proofs.YtapanepkfbamhaaGreatDoor
