/- Part of the proof of HistoryReads. -/
import Derived.Test.YtapanepkfbamhaaGreatDoorJBJ
import Derived.Test.YtapanepkfbamhaaGreatDoorJBI
namespace Go.Proofs.YtapanepkfbamhaaGreatDoor
open Tryz (prog)
section
set_option maxRecDepth 100000
set_option maxHeartbeats 2000000
open Go.RowKit
def dirB (d:DSet):Bool:=decide (d.org=3) || decide (d.org=2)
theorem direct_g (d:DSet) (w:World):Calls prog 157 #[.agg (dC d).toArray] w fun e w'=>e = .returned (.bool (dirB d))∧Below w.heap.size w w':=by
 have c1:(w.alloc (.cells (dC d).toArray 27)).cell? ⟨w.heap.size,1,none⟩=some (.int .i64 d.org):=((Blk.new w 27 (dC d).toArray).cell 1).trans rfl;unfold dirB;by_cases h3:d.org=3
 ·have e3:(d.org == 3)=true:=by simpa using h3
  rw [decide_eq_true h3];go_enter Tryz.func157,Tryz.ntmps157;go_wp2;go_ret;exact ⟨by first|rfl|simp [h3],(Bf _ _).alloc (Le _) _⟩
 ·have e3:(d.org == 3)=false:=by simpa using h3
  rw [decide_eq_false h3];by_cases h2:d.org=2
  ·have e2:(d.org == 2)=true:=by simpa using h2
   rw [decide_eq_true h2];clear h3;go_enter Tryz.func157,Tryz.ntmps157;go_wp2;go_ret;exact ⟨by first|rfl|simp [e2],(Bf _ _).alloc (Le _) _⟩
  ·have e2:(d.org == 2)=false:=by simpa using h2
   rw [decide_eq_false h2];clear h3 h2;go_enter Tryz.func157,Tryz.ntmps157;go_wp2;go_ret;exact ⟨by first|rfl|simp [e2],(Bf _ _).alloc (Le _) _⟩
def EffP (base:Nat) (R:Int ⊕ List Pr) (w:World) (e:Ending) (w':World):Prop:=match R with
 |.inl code=>e = .returned (.tuple #[.slice none 0 0,.int .i64 code])∧Below base w w'
 |.inr l => ∃ A c,e = .returned (.tuple #[.slice A l.length c,.int .i64 0])∧w'.ownsRow base 76 2 (.slice A l.length c) l.length (eC l)∧Below base w w'
def putE (dir al:Bool) (l:List Pr) (c:Chg):Int ⊕ List Pr:=
 if dir=false then .inl 7 else if al=false then .inl 2
 else if Yn l c.key=true then .inr (l.set (l.findIdx (geK c.key)) ⟨c.key,c.rcd⟩) else .inr (Iv l (l.findIdx (geK c.key)) c.key c.rcd)
def eraE (dir po:Bool) (l:List Pr) (c:Chg):Int ⊕ List Pr:=
 if dir=false then .inl 7 else if po=false then .inl 2
 else if Yn l c.key=true then .inr (l.eraseIdx (l.findIdx (geK c.key))) else .inr l
structure PW (d:DSet) (c:Chg) (w W:World):Prop where
 b1:Blk W w.heap.size 27 (dC d).toArray
 b2:Blk W (w.heap.size+1) 58 (chC c).toArray
 sz:w.heap.size+2≤W.heap.size
 be:Below w.heap.size w W
theorem Um {d:DSet} {c:Chg} {w W W':World} (h:PW d c w W) (hb:Below W.heap.size W W'):PW d c w W':=
 have hz:=h.sz
 ⟨h.b1.below hb (by omega),h.b2.below hb (by omega),Lx h.sz hb.size,U0 h.be hb (by omega)⟩
theorem pw_2 {d:DSet} {c:Chg} {w W:World} (h:PW d c w W):W.cell? ⟨w.heap.size+1,2,none⟩=some (.string c.key):=(h.b2.cell 2).trans rfl
theorem pw_3 {d:DSet} {c:Chg} {w W:World} (h:PW d c w W):W.cell? ⟨w.heap.size+1,3,none⟩=some (.string c.rcd):=(h.b2.cell 3).trans rfl
theorem pw_org {d:DSet} {c:Chg} {w W:World} (h:PW d c w W):W.cell? ⟨w.heap.size,1,none⟩=some (.int .i64 d.org):=(h.b1.cell 1).trans rfl
structure PX (d:DSet) (c:Chg) (w W:World):Prop extends PW d c w W where
 b3:Blk W (w.heap.size+2) 76 #[.string c.key,.string c.rcd]
 sz3:w.heap.size+3≤W.heap.size
theorem px_start (d:DSet) (c:Chg) (w:World):PX d c w (((w.alloc (.cells (dC d).toArray 27)).alloc (.cells (chC c).toArray 58)).alloc (.cells #[.string c.key,.string c.rcd] 76)):=
 ⟨⟨((Blk.new w _ _).alloc _).alloc _,(U3 (w.alloc (.cells (dC d).toArray 27)) _ _ (w.heap.size+1) (by simp)).alloc _,by simp,(((Bf _ _).alloc (Le _) _).alloc (by simp) _).alloc (by simp;omega) _⟩,U3 _ _ _ _ (by simp),by simp⟩
theorem Yt {d:DSet} {c:Chg} {w W W':World} (h:PX d c w W) (hb:Below W.heap.size W W'):PX d c w W':=
 have hz:=h.sz3
 ⟨Um h.toPW hb,h.b3.below hb (by omega),Lx h.sz3 hb.size⟩
theorem px_0 {d:DSet} {c:Chg} {w W:World} (h:PX d c w W):W.cell? ⟨w.heap.size+2,0,none⟩=some (.string c.key):=(h.b3.cell 0).trans rfl
theorem px_1 {d:DSet} {c:Chg} {w W:World} (h:PX d c w W):W.cell? ⟨w.heap.size+2,1,none⟩=some (.string c.rcd):=(h.b3.cell 1).trans rfl
theorem set_len (l:List Pr) (i:Nat) (x:Pr):(l.set i x).length=l.length:=List.length_set
theorem geI_le (l:List Pr) (k:ByteArray):l.findIdx (geK k)≤l.length:=List.findIdx_le_length
theorem hasK_lt {l:List Pr} {k:ByteArray} (h:Yn l k=true):l.findIdx (geK k)<l.length:=by
 rcases Nat.lt_or_ge (l.findIdx (geK k)) l.length with h1|h1
 ·exact h1
 ·rw [G6 (List.getElem?_eq_none h1)] at h
  cases h
theorem sl_own {w:World} {base n cc:Nat} {A:Option Addr} {l:List Pr} (h:w.ownsRow base 76 2 (.slice A n cc) n (eC l)):Sl prC 2 w w.heap.size A n cc l:=Sl.of_own (f:=prC) (fun _=>rfl) (by decide) h
theorem Eu {w:World} {base n cc:Nat} {A:Option Addr} {l:List Pr} (h:w.ownsRow base 76 2 (.slice A n cc) n (eC l)) (w':World) (hb:Below w.heap.size w w'):w'.ownsRow base 76 2 (.slice A n cc) n (eC l):=Ui h hb
theorem put_g (d:DSet) (c:Chg) (A:Option Addr) (cc:Nat) (l:List Pr) (base:Nat) (al:Bool) (w:World) (hown:w.ownsRow base 76 2 (.slice A l.length cc) l.length (eC l)) (hB:base≤w.heap.size) (hn:l.length≤1024)
  (HA:∀ W,Below w.heap.size w W→Calls prog 84 #[.agg (dC d).toArray,.agg #[.string c.key,.string c.rcd]] W fun e w'=>e = .returned (.bool al)∧Below W.heap.size W w'):
  Calls prog 156 #[.agg (dC d).toArray,.slice A l.length cc,.agg (chC c).toArray] w (EffP base (putE (dirB d) al l c) w):=by
 have HX:Hid (PX d c w (((w.alloc (.cells (dC d).toArray 27)).alloc (.cells (chC c).toArray 58)).alloc (.cells #[.string c.key,.string c.rcd] 76))):=Hd (px_start d c w);have HD:=Hd fun W=>direct_g d W
 have HAL:=Hd HA;have HO:=Hd fun W (h:Below w.heap.size w W)=>Eu hown W h
 have HBB:=Hd hB;have HN:=Hd hn;have HF:=Hd fun W (h:Below w.heap.size w W)=>K5 c.key A l.length cc l W (sl_own (Eu hown W h)) (by unfold maxLen;omega)
 have k2:((w.alloc (.cells (dC d).toArray 27)).alloc (.cells (chC c).toArray 58)).cell? ⟨w.heap.size+1,2,none⟩=some (.string c.key):=((U3 (w.alloc (.cells (dC d).toArray 27)) 58 (chC c).toArray (w.heap.size+1) (by simp)).cell 2).trans rfl;have k3:((w.alloc (.cells (dC d).toArray 27)).alloc (.cells (chC c).toArray 58)).cell? ⟨w.heap.size+1,3,none⟩=some (.string c.rcd):=((U3 (w.alloc (.cells (dC d).toArray 27)) 58 (chC c).toArray (w.heap.size+1) (by simp)).cell 3).trans rfl;have hle:=geI_le l c.key;unfold putE;obtain ⟨dr,hdr⟩:∃ dr,dirB d=dr:=⟨_,rfl⟩
 rw [hdr];simp only [hdr] at HD;clear hdr HA;cases dr with
 |false=>
  rw [if_pos rfl];clear hown hle;go_enter Tryz.func156,Tryz.ntmps156;go_wp2_with (first|(refine Lr rfl 27 _ rfl w.heap.size rfl 27 _ (0,0) _ HX.out.b1 Tryz.underlying27 rfl (by kernel_rfl) ?_)|(go_at_call 157;refine (HD.out _).mono ?_;rintro e w2 ⟨rfl,hb⟩;have HX2:=Hd (Yt HX.out hb);clear hb))
  go_ret2
  exact ⟨rfl,HX2.out.be.mono HBB.out⟩
 |true=>
  rw [if_neg (by decide)];cases al with
  |false=>
   rw [if_pos rfl];clear hown hle;go_enter Tryz.func156,Tryz.ntmps156;go_wp2_with (first|(refine Lr rfl 27 _ rfl w.heap.size rfl 27 _ (0,0) _ HX.out.b1 Tryz.underlying27 rfl (by kernel_rfl) ?_)|(refine Lr rfl 27 _ rfl w.heap.size rfl 27 _ (0,0) _ HX2.out.b1 Tryz.underlying27 rfl (by kernel_rfl) ?_)|(go_at_call 157;refine (HD.out _).mono ?_;rintro e w2 ⟨rfl,hb⟩;have HX2:=Hd (Yt HX.out hb);clear hb;have c0:=px_0 HX2.out;have c1:=px_1 HX2.out)|(go_at_call 84;refine (HAL.out _ HX2.out.be).mono ?_;rintro e w3 ⟨rfl,hb⟩;have HX3:=Hd (Yt HX2.out hb);clear hb c0 c1))
   go_ret2
   exact ⟨rfl,HX3.out.be.mono HBB.out⟩
  |true=>
   rw [if_neg (by decide)];obtain ⟨t,ht⟩:∃ t,Yn l c.key=t:=⟨_,rfl⟩
   rw [ht];simp only [ht] at HF;cases t with
   |true=>
    rw [if_pos rfl];have hlt:=hasK_lt ht;obtain ⟨g,cap,hsv,hbg,hgl,hnc⟩:=Zg hown (by omega);injection hsv with e1 _ e2
    subst e1;subst e2;generalize l.findIdx (geK c.key)=q at HF hlt hle;obtain ⟨n,hln⟩:∃ n,l.length=n:=⟨_,rfl⟩
    have HLN:=Hd hln;rw [hln] at HF HO hlt HN hnc;rw [hln];have hn':=HN.out;clear hown hle ht hln hn;go_enter Tryz.func156,Tryz.ntmps156
    go_wp2_with (first|(refine Lr rfl 27 _ rfl w.heap.size rfl 27 _ (0,0) _ HX.out.b1 Tryz.underlying27 rfl (by kernel_rfl) ?_)|(refine Lr rfl 27 _ rfl w.heap.size rfl 27 _ (0,0) _ HX2.out.b1 Tryz.underlying27 rfl (by kernel_rfl) ?_)|(go_at_call 157;refine (HD.out _).mono ?_;rintro e w2 ⟨rfl,hb⟩;have HX2:=Hd (Yt HX.out hb);clear hb;have c0:=px_0 HX2.out;have c1:=px_1 HX2.out)|(go_at_call 84;refine (HAL.out _ HX2.out.be).mono ?_;rintro e w3 ⟨rfl,hb⟩;have HX3:=Hd (Yt HX2.out hb);clear hb c0 c1;have c2:=pw_2 HX3.out.toPW)|(go_at_call 158;refine (HF.out _ HX3.out.be).mono ?_;rintro e w4 ⟨rfl,hb⟩;have HX4:=Hd (Yt HX3.out hb);clear hb c2;have c0:=px_0 HX4.out;have c1:=px_1 HX4.out;have HT:=Hd (Kl (HO.out _ HX4.out.be) q (by omega)))|(refine wpList_store_mid rfl 76 _ _ rfl g (q*2) #[.string c.key,.string c.rcd] rfl rfl HT.out (by kernel_rfl) (by simp [Value.oneCell']) ?_))
    go_ret2
    have ho:=HO.out _ HX4.out.be;refine ⟨some ⟨g,0,none⟩,cc,by rw [set_len,HLN.out];rfl,?_,?_⟩
    ·rw [set_len,HLN.out]
     exact own_put ho q ⟨c.key,c.rcd⟩ hlt
    ·exact (HX4.out.be.mono HBB.out).grown (far_set2 _ _) (by have:=HX4.out.be.size;have:=HBB.out;omega) (by intro k hk;injection hk with hk;omega)
   |false=>
    rw [if_neg (by decide)];have hins:=Hd fun (W:World) (h:Below w.heap.size w W) (vb:Nat) (hv:Blk W vb 76 #[.string c.key,.string c.rcd]) (hvg:∀ a,A=some a→vb≠a.block)=>insert_g base vb A l.length cc (l.findIdx (geK c.key)) l c.key c.rcd W (Eu hown W h) hv hvg hle (by omega) (Lx hB h.size)
    have hlow:∀ a,A=some a→a.block<w.heap.size:=by
     intro a ha;subst ha;rcases hown.2 with ⟨h0,_⟩|⟨g',cap',cur,h0,hb',hg',_⟩
     ·cases h0
     ·have hk:(Value.slice (some a) l.length cc).ownBlock=some g':=by rw [h0];rfl
      injection h0 with h1 _ _
      injection h1 with h1
      rw [h1];exact (hown.lt g' hk).2
    have HLOW:=Hd hlow;have hil:(Iv l (l.findIdx (geK c.key)) c.key c.rcd).length=l.length+1:=insE_len hle _ _;have HIL:=Hd hil;obtain ⟨L,hL⟩:∃ L,Iv l (l.findIdx (geK c.key)) c.key c.rcd=L:=⟨_,rfl⟩
    simp only [hL] at hins HIL;rw [hL];generalize l.findIdx (geK c.key)=q at HF hins;obtain ⟨n,hln⟩:∃ n,l.length=n:=⟨_,rfl⟩
    rw [hln] at HF HIL;simp only [hln] at hins;rw [hln];clear hown hle ht hln hn hlow hil hL;go_enter Tryz.func156,Tryz.ntmps156
    go_wp2_with (first|(refine Lr rfl 27 _ rfl w.heap.size rfl 27 _ (0,0) _ HX.out.b1 Tryz.underlying27 rfl (by kernel_rfl) ?_)|(refine Lr rfl 27 _ rfl w.heap.size rfl 27 _ (0,0) _ HX2.out.b1 Tryz.underlying27 rfl (by kernel_rfl) ?_)|(go_at_call 157;refine (HD.out _).mono ?_;rintro e w2 ⟨rfl,hb⟩;have HX2:=Hd (Yt HX.out hb);clear hb;have c0:=px_0 HX2.out;have c1:=px_1 HX2.out)|(go_at_call 84;refine (HAL.out _ HX2.out.be).mono ?_;rintro e w3 ⟨rfl,hb⟩;have HX3:=Hd (Yt HX2.out hb);clear hb c0 c1;have c2:=pw_2 HX3.out.toPW)|(go_at_call 158;refine (HF.out _ HX3.out.be).mono ?_;rintro e w4 ⟨rfl,hb⟩;have HX4:=Hd (Yt HX3.out hb);clear hb c2;have c0:=px_0 HX4.out;have c1:=px_1 HX4.out)|(go_at_call 159;refine (hins.out _ (HX4.out.be.alloc (by have:=HX4.out.sz;omega) _) _ (Blk.new _ _ _) (by intro a ha;have:=HLOW.out a ha;have:=HX4.out.be.size;omega)).mono ?_;rintro e w5 ⟨A',c',rfl,h5,h6⟩;have H5:=Hd h5;have H6:=Hd h6;clear h5 h6))
    go_ret2
    refine ⟨A',c',by rw [HIL.out];rfl,?_,?_⟩
    ·rw [HIL.out];exact H5.out
    ·exact ((HX4.out.be.alloc (by have:=HX4.out.sz;omega) _).mono HBB.out).trans H6.out
theorem era_g (d:DSet) (c:Chg) (A:Option Addr) (cc:Nat) (l:List Pr) (base:Nat) (po:Bool) (w:World) (hown:w.ownsRow base 76 2 (.slice A l.length cc) l.length (eC l)) (hB:base≤w.heap.size) (hn:l.length≤1024)
  (HA:∀ W,Below w.heap.size w W→Calls prog 161 #[.agg (dC d).toArray,.string c.key] W fun e w'=>e = .returned (.bool po)∧Below W.heap.size W w'):
  Calls prog 160 #[.agg (dC d).toArray,.slice A l.length cc,.agg (chC c).toArray] w (EffP base (eraE (dirB d) po l c) w):=by
 have HX:Hid (PW d c w ((w.alloc (.cells (dC d).toArray 27)).alloc (.cells (chC c).toArray 58))):=Hd ⟨(Blk.new w _ _).alloc _,U3 (w.alloc (.cells (dC d).toArray 27)) _ _ (w.heap.size+1) (by simp),by simp,((Bf _ _).alloc (Le _) _).alloc (by simp) _⟩;have HD:=Hd fun W=>direct_g d W
 have HAL:=Hd HA;have HO:=Hd fun W (h:Below w.heap.size w W)=>Eu hown W h
 have HBB:=Hd hB;have HF:=Hd fun W (h:Below w.heap.size w W)=>K5 c.key A l.length cc l W (sl_own (Eu hown W h)) (by unfold maxLen;omega)
 unfold eraE;obtain ⟨dr,hdr⟩:∃ dr,dirB d=dr:=⟨_,rfl⟩
 rw [hdr];simp only [hdr] at HD;clear hdr HA;cases dr with
 |false=>
  rw [if_pos rfl];clear hown;go_enter Tryz.func160,Tryz.ntmps160;go_wp2_with (first|(refine Lr rfl 27 _ rfl w.heap.size rfl 27 _ (0,0) _ HX.out.b1 Tryz.underlying27 rfl (by kernel_rfl) ?_)|(go_at_call 157;refine (HD.out _).mono ?_;rintro e w2 ⟨rfl,hb⟩;have HX2:=Hd (Um HX.out hb);clear hb))
  go_ret2
  exact ⟨rfl,HX2.out.be.mono HBB.out⟩
 |true=>
  rw [if_neg (by decide)];have k2:((w.alloc (.cells (dC d).toArray 27)).alloc (.cells (chC c).toArray 58)).cell? ⟨w.heap.size+1,2,none⟩=some (.string c.key):=pw_2 HX.out;cases po with
  |false=>
   rw [if_pos rfl];clear hown;go_enter Tryz.func160,Tryz.ntmps160;go_wp2_with (first|(refine Lr rfl 27 _ rfl w.heap.size rfl 27 _ (0,0) _ HX.out.b1 Tryz.underlying27 rfl (by kernel_rfl) ?_)|(refine Lr rfl 27 _ rfl w.heap.size rfl 27 _ (0,0) _ HX2.out.b1 Tryz.underlying27 rfl (by kernel_rfl) ?_)|(go_at_call 157;refine (HD.out _).mono ?_;rintro e w2 ⟨rfl,hb⟩;have HX2:=Hd (Um HX.out hb);clear hb;have c2:=pw_2 HX2.out)|(go_at_call 161;refine (HAL.out _ HX2.out.be).mono ?_;rintro e w3 ⟨rfl,hb⟩;have HX3:=Hd (Um HX2.out hb);clear hb c2))
   go_ret2
   exact ⟨rfl,HX3.out.be.mono HBB.out⟩
  |true=>
   rw [if_neg (by decide)];obtain ⟨t,ht⟩:∃ t,Yn l c.key=t:=⟨_,rfl⟩
   rw [ht];simp only [ht] at HF;cases t with
   |true=>
    rw [if_pos rfl];have hlt:=hasK_lt ht;obtain ⟨g,cap,hsv,hbg,hgl,hnc⟩:=Zg hown (by omega);injection hsv with e1 _ e2
    subst e1;subst e2;have HDE:=Hd fun W (h:Below w.heap.size w W)=>delete_own base g l.length cc (l.findIdx (geK c.key)) l W (Eu hown W h) hlt (by omega)
    have hel:(l.eraseIdx (l.findIdx (geK c.key))).length=l.length-1:=by rw [List.length_eraseIdx,if_pos hlt]
    obtain ⟨L,hL⟩:∃ L,l.eraseIdx (l.findIdx (geK c.key))=L:=⟨_,rfl⟩
    simp only [hL] at HDE;rw [hL] at hel;rw [hL];have HEL:=Hd hel;have hq1:l.findIdx (geK c.key)<1024:=by omega
    generalize l.findIdx (geK c.key)=q at HF hlt HDE hq1;obtain ⟨n,hln⟩:∃ n,l.length=n:=⟨_,rfl⟩
    rw [hln] at HF hlt HEL;simp only [hln] at HDE;rw [hln];clear hown ht hln hn hel hL HO;go_enter Tryz.func160,Tryz.ntmps160;go_wp2_with (first|(refine Lr rfl 27 _ rfl w.heap.size rfl 27 _ (0,0) _ HX.out.b1 Tryz.underlying27 rfl (by kernel_rfl) ?_)|(refine Lr rfl 27 _ rfl w.heap.size rfl 27 _ (0,0) _ HX2.out.b1 Tryz.underlying27 rfl (by kernel_rfl) ?_)|(go_at_call 157;refine (HD.out _).mono ?_;rintro e w2 ⟨rfl,hb⟩;have HX2:=Hd (Um HX.out hb);clear hb k2;have c2:=pw_2 HX2.out)|(go_at_call 161;refine (HAL.out _ HX2.out.be).mono ?_;rintro e w3 ⟨rfl,hb⟩;have HX3:=Hd (Um HX2.out hb);clear hb c2;have c2:=pw_2 HX3.out)|(go_at_call 158;refine (HF.out _ HX3.out.be).mono ?_;rintro e w4 ⟨rfl,hb⟩;have HX4:=Hd (Um HX3.out hb);clear hb c2)|(go_at_call 162;refine (HDE.out _ HX4.out.be).mono ?_;rintro e w5 ⟨rfl,h5,h6⟩;have H5:=Hd h5;have H6:=Hd h6;clear h5 h6))
    go_ret2
    refine ⟨some ⟨g,0,none⟩,cc,by rw [HEL.out];rfl,?_,?_⟩
    ·rw [HEL.out];exact H5.out
    ·exact (HX4.out.be.mono HBB.out).grown H6.out (by have:=HX4.out.be.size;have:=HBB.out;omega) (by intro k hk;injection hk with hk;omega)
   |false=>
    rw [if_neg (by decide)];generalize l.findIdx (geK c.key)=q at HF;clear ht;go_enter Tryz.func160,Tryz.ntmps160;go_wp2_with (first|(refine Lr rfl 27 _ rfl w.heap.size rfl 27 _ (0,0) _ HX.out.b1 Tryz.underlying27 rfl (by kernel_rfl) ?_)|(refine Lr rfl 27 _ rfl w.heap.size rfl 27 _ (0,0) _ HX2.out.b1 Tryz.underlying27 rfl (by kernel_rfl) ?_)|(go_at_call 157;refine (HD.out _).mono ?_;rintro e w2 ⟨rfl,hb⟩;have HX2:=Hd (Um HX.out hb);clear hb k2;have c2:=pw_2 HX2.out)|(go_at_call 161;refine (HAL.out _ HX2.out.be).mono ?_;rintro e w3 ⟨rfl,hb⟩;have HX3:=Hd (Um HX2.out hb);clear hb c2;have c2:=pw_2 HX3.out)|(go_at_call 158;refine (HF.out _ HX3.out.be).mono ?_;rintro e w4 ⟨rfl,hb⟩;have HX4:=Hd (Um HX3.out hb);clear hb c2))
    go_ret2
    exact ⟨A,cc,rfl,HO.out _ HX4.out.be,HX4.out.be.mono HBB.out⟩
theorem emp_g (d:DSet) (A:Option Addr) (n cc:Nat) (c:Chg) (base:Nat) (w:World) (hB:base≤w.heap.size):Calls prog 165 #[.agg (dC d).toArray,.slice A n cc,.agg (chC c).toArray] w (EffP base (.inr []) w):=by
 have HBB:=Hd hB;go_enter Tryz.func165,Tryz.ntmps165;go_wp2
 go_ret2
 exact ⟨none,0,rfl,⟨rfl,.inl ⟨rfl,rfl⟩⟩,(((Bf _ _).alloc (Le _) _).alloc (by simp) _).mono HBB.out⟩
end
section
set_option maxRecDepth 100000
set_option maxHeartbeats 4000000
open Go.RowKit
def appK (d:DSet) (l:List Pr) (r:ByteArray):ByteArray:=
 if d.org=1 then (Vo d r (behF d (0,[],0) l).1 (behF d (0,[],0) l).2.1 (behF d (0,[],0) l).2.2).1 else Xj ((l.length:Int)+1)
def appE (d:DSet) (l:List Pr) (c:Chg):Int ⊕ List Pr:=
 if dirB d=true then .inl 7 else if Vr d ⟨appK d l c.rcd,c.rcd⟩=true then .inr (l++[⟨appK d l c.rcd,c.rcd⟩]) else .inl 2
theorem app_g (d:DSet) (c:Chg) (A:Option Addr) (cc:Nat) (l:List Pr) (base:Nat) (w:World) (hc:Cod w) (hr:c.rcd.size≤maxLen) (hown:w.ownsRow base 76 2 (.slice A l.length cc) l.length (eC l)) (hB:base≤w.heap.size) (hn:l.length≤1024):
  Calls prog 163 #[.agg (dC d).toArray,.slice A l.length cc,.agg (chC c).toArray] w (EffP base (appE d l c) w):=by
 obtain ⟨i0,hi0,hz0,hz1,hz2⟩:=info_parts Xe;have HX:Hid (PW d c w ((w.alloc (.cells (dC d).toArray 27)).alloc (.cells (chC c).toArray 58))):=Hd ⟨(Blk.new w _ _).alloc _,U3 (w.alloc (.cells (dC d).toArray 27)) _ _ (w.heap.size+1) (by simp),by simp,((Bf _ _).alloc (Le _) _).alloc (by simp) _⟩;have HD:=Hd fun W=>direct_g d W
 have HO:=Hd fun W (h:Below w.heap.size w W)=>Eu hown W h
 have HBB:=Hd hB;have HN:=Hd hn;have HS:=Hd fun W (h:Below w.heap.size w W)=>Yg ((l.length:Int)+1) W
 have HBE:=Hd fun W (h:Below w.heap.size w W)=>behind_any d A l.length cc l W (sl_own (Eu hown W h)) (by omega)
 have HAL:Hid (∀ (k:ByteArray) W,Below w.heap.size w W→Calls prog 84 #[.agg (dC d).toArray,.agg #[.string k,.string c.rcd]] W fun e w'=>e = .returned (.bool (Vr d ⟨k,c.rcd⟩))∧Below W.heap.size W w'):=Hd fun k W hb=>Ig d ⟨k,c.rcd⟩ W (hc.after hb) hr
 unfold appE;clear hc hr hown hB hn;have hn1:l.length≤1024:=HN.out;have hwr:IntKind.i64.wrap ((l.length:Int)+1)=(l.length:Int)+1:=by rw [IntKind.wrap_i64];omega
 have HL1:Hid (l.length+1≤maxLen):=Hd (by unfold maxLen;omega);have HL2:Hid ((l.length+1)*32≤140737488355328):=Hd (by omega);have HLB:Hid (∀ W o,Below w.heap.size w W→base≤(World.alloc W o).heap.size):=Hd fun W o h=>by have h1:=h.size;have:=HBB.out;simp;omega
 have HLC:Hid (∀ W,Below w.heap.size w W→base≤W.heap.size):=Hd fun W h=>by have h1:=h.size;have:=HBB.out;omega
 have HONL:Hid (∀ k:ByteArray,∀ u∈[Value.string k,.string c.rcd],u.oneCell'=true):=Hd fun k=>by simp [Value.oneCell']
 by_cases hd:dirB d=true
 ·rw [if_pos hd]
  have HDD:=Hd hd;go_enter Tryz.func163,Tryz.ntmps163;go_wp2_with (first|((with_reducible refine Gl 27 3 ?_);refine Lr rfl 27 _ rfl (w.heap.size) rfl 27 (dC d).toArray (0,0) _ HX.out.b1 Tryz.underlying27 rfl (by kernel_rfl) ?_)|(go_at_call 157;refine (HD.out _).mono ?_;rintro e w2 ⟨rfl,hb⟩;have HX2:=Hd (Um HX.out hb);rw [hd];clear hb))
  go_ret2
  exact ⟨rfl,HX2.out.be.mono HBB.out⟩
 rw [if_neg hd];have hd':dirB d=false:=by simpa using hd
 clear hd;obtain ⟨k,hk⟩:∃ k,appK d l c.rcd=k:=⟨_,rfl⟩
 have HK:=Hd hk;rw [hk];unfold appK at hk;obtain ⟨R,hR⟩:∃ R,(if Vr d ⟨k,c.rcd⟩=true then Sum.inr (l++[⟨k,c.rcd⟩]) else Sum.inl 2:Int ⊕ List Pr)=R:=⟨_,rfl⟩
 rw [hR];have HRR:=Hd hR;clear hR;by_cases ho:d.org=1
 ·have ho':(d.org == 1)=true:=by simpa using ho
  rw [if_pos ho] at hk;have HK1:=Hd hk;clear hk ho HK;go_enter Tryz.func163,Tryz.ntmps163;go_wp2_with (first|((with_reducible refine Gl 27 3 ?_);refine Lr rfl 27 _ rfl (w.heap.size) rfl 27 (dC d).toArray (0,0) _ HX.out.b1 Tryz.underlying27 rfl (by kernel_rfl) ?_)|(go_at_call 157;refine (HD.out _).mono ?_;rintro e w2 ⟨rfl,hb⟩;have HX2:=Hd (Um HX.out hb);rw [hd'];clear hb)|(go_at_call 85;refine (HS.out _ HX2.out.be).mono ?_;rintro e w3 ⟨rfl,hb⟩;have HX3:=Hd (Um HX2.out hb);have c1:=pw_org HX3.out;have c3:=pw_3 HX3.out;clear hb));have HX3d:Hid (PW d c w w3.drew):=Hd (Um HX3.out (Bf _ _).drew);clear c1 c3;refine Rw (S:=fun w'=>PW d c w w') (by kernel_rfl) HX3d.out (fun Hh=>?_)
  refine tk 0 (.agg (dC d).toArray) Hh ?_ (y:=by exact yieldsIf_load_mid (by rfl) 27 _ rfl w.heap.size 0 rfl (dC d) _ (fun w' hSw j v hv=>by rw [hSw.b1.cell,Nat.zero_add,Ga];exact hv) Tryz.underlying27 rfl (by kernel_rfl));refine tk 1 (.slice A l.length cc) Hh ?_;refine tk 3 (.agg (dC d).toArray) Hh ?_ (y:=by exact yieldsIf_load_mid (by rfl) 27 _ rfl w.heap.size 0 rfl (dC d) _ (fun w' hSw j v hv=>by rw [hSw.b1.cell,Nat.zero_add,Ga];exact hv) Tryz.underlying27 rfl (by kernel_rfl));refine tk 4 (.pointer (some ⟨w.heap.size+1,3,none⟩)) Hh ?_;refine tk 5 (.string c.rcd) Hh ?_ (y:=by exact Or.inl ⟨by rfl,by intro w' hSw;have h1:=pw_3 hSw;go_simp⟩);refine Ar (rs:=[2]) (by kernel_rfl) (by simp) ?_;refine Rc (fun K hK=>?_) ?_
  ·go_simp
   refine (HBE.out _ HX3d.out.be).mono ?_;rintro e w4 ⟨y,rfl,hy,hsl,hyn,hna,hb⟩;simp only [];have HX4:=Hd (Um HX3d.out hb);have HY:=Hd hy;have HYN:=Hd hyn;have HSL:=Hd hsl;refine hK.out _ _ (Um Hh hb) (fun Hh=>?_);clear hK K hb hy hsl hyn hna;try simp only [Act.put,Sv,Sz,Sw]
   refine Ar (rs:=[6]) (by kernel_rfl) (by simp) ?_;refine Rc (fun K hK=>?_) ?_
   ·go_simp
    refine (next_e d c.rcd y _ HSL.out (by have:=HYN.out;have:=HN.out;omega)).mono ?_;rintro e w5 ⟨z,rfl,_,_,_,hb⟩;simp only [];have HX5:=Hd (Um HX4.out hb);have hkk:(Vo d c.rcd y.ci y.rs y.sp).1=k:=by have h1:=HK1.out;rw [←HY.out] at h1;exact h1
    rw [hkk];refine hK.out _ _ (Um Hh hb) (fun Hh=>?_);clear hK K hb HYN HSL;try simp only [Act.put,Sv,Sz,Sw]
    refine tk 7 (.tuple #[.string k,.agg (edC z).toArray]) Hh ?_;refine tk 8 (.string k) Hh ?_;refine tk 9 (.agg (edC z).toArray) Hh ?_;refine tk 10 (.string k) Hh ?_;refine Ad (by kernel_rfl) ?_ _;clear Hh hkk HK1 HY;have HBn:=Hd fun old=>Blk.new w5 76 old
    have HSn:=Hd fun old=>U1 w5 old #[.string k,.string c.rcd] 76
    have HON:Hid ((#[.string k,.string c.rcd]:Array Value).all (·.oneCell')=true):=Hd (by simp [Value.oneCell']);have HXa:Hid (PW d c w (w5.alloc (.cells #[.string k,.string c.rcd] 76))):=Hd (Um HX5.out ((Bf _ _).alloc (Le _) _));have HBa:Hid (Blk (w5.alloc (.cells #[.string k,.string c.rcd] 76)) w5.heap.size 76 #[.string k,.string c.rcd]):=Hd (Blk.new _ _ _);have c3:=pw_3 HX5.out;have HRD:Hid (∀ X,Rd (World.alloc X (.cells #[.string k,.string c.rcd] 76)) (X.heap.size+1) 2 (some ⟨X.heap.size,0,none⟩) 1 [.string k,.string c.rcd]):=Hd fun X=>Va X [.string k,.string c.rcd] 76 1 2 rfl
    cases hal:Vr d ⟨k,c.rcd⟩ with
    |false=>
     have hq:R = .inl 2:=by rw [←HRR.out,hal];rfl
     subst hq;go_wp2_with (first|((with_reducible refine Gl 27 3 ?_);refine Lr rfl 27 _ rfl (w.heap.size) rfl 27 (dC d).toArray (0,0) _ HXa.out.b1 Tryz.underlying27 rfl (by kernel_rfl) ?_)|((with_reducible refine Gl 76 9 ?_);refine Lr rfl 76 _ rfl (w5.heap.size) rfl 76 ([.string k,.string c.rcd]).toArray (0,0) _ (by first|exact HBb.out|exact HBa.out) Tryz.underlying76 rfl (by kernel_rfl) ?_)|(go_at_call 84;refine (HAL.out k _ HXa.out.be).mono ?_;rw [hal];rintro e w6 ⟨rfl,hb⟩;have HX6:=Hd (Um HXa.out hb);have HBb:=Hd (HBa.out.below hb HBa.out.lt);clear hb c3))
     go_ret2
     exact ⟨rfl,HX6.out.be.mono HBB.out⟩
    |true=>
     have hq:R = .inr (l++[⟨k,c.rcd⟩]):=by rw [←HRR.out,hal];rfl
     subst hq
     go_wp2_with (first|((with_reducible refine Gl 27 3 ?_);refine Lr rfl 27 _ rfl (w.heap.size) rfl 27 (dC d).toArray (0,0) _ HXa.out.b1 Tryz.underlying27 rfl (by kernel_rfl) ?_)|((with_reducible refine Gl 76 9 ?_);refine Lr rfl 76 _ rfl (w5.heap.size) rfl 76 ([.string k,.string c.rcd]).toArray (0,0) _ (by first|exact HBb.out|exact HBa.out) Tryz.underlying76 rfl (by kernel_rfl) ?_)|(go_at_call 84;refine (HAL.out k _ HXa.out.be).mono ?_;rw [hal];rintro e w6 ⟨rfl,hb⟩;have HX6:=Hd (Um HXa.out hb);have HBb:=Hd (HBa.out.below hb HBa.out.lt);clear hb c3)|(at_builtin;go_must (refine U4 _ rfl _ _ 28 rfl base 76 i0 _ 2 32 Tryz.underlying28 hi0 hz0 hz1 hz2 rfl (by decide) (.slice A l.length cc) l.length (eC l) rfl ((HO.out _ HX6.out.be).alloc _) (w6.heap.size+1) (some ⟨w6.heap.size,0,none⟩) 1 1 [.string k,.string c.rcd] rfl (HRD.out w6) (HONL.out k) HL1.out HL2.out (HLB.out _ _ HX6.out.be) ?_;intro v' w7 hown hgr _;obtain ⟨A',c',rfl,_⟩:=Ub hown;have HOWN:=Hd hown;have HGR:=Hd hgr;clear hown hgr)))
     go_ret2
     exact ⟨A',c',by rw [List.length_append];rfl,by rw [List.length_append];unfold eC;rw [Uy,Uv];exact HOWN.out,((HX6.out.be.mono HBB.out).alloc (HLC.out _ HX6.out.be) _).grown HGR.out (HLB.out _ _ HX6.out.be) (Vv (HO.out _ HX6.out.be) (Le _))⟩
   exact An
  exact An
 ·have ho':(d.org == 1)=false:=by simpa using ho
  rw [if_neg ho] at hk;clear HK ho;subst hk;generalize Xj ((l.length:Int)+1)=k at HS HRR;go_enter Tryz.func163,Tryz.ntmps163;have HRD:Hid (∀ X,Rd (World.alloc X (.cells #[.string k,.string c.rcd] 76)) (X.heap.size+1) 2 (some ⟨X.heap.size,0,none⟩) 1 [.string k,.string c.rcd]):=Hd fun X=>Va X [.string k,.string c.rcd] 76 1 2 rfl
  cases hal:Vr d ⟨k,c.rcd⟩ with
  |false=>
   have hq:R = .inl 2:=by rw [←HRR.out,hal];rfl
   subst hq
   go_wp2_with (first|((with_reducible refine Gl 27 3 ?_);refine Lr rfl 27 _ rfl (w.heap.size) rfl 27 (dC d).toArray (0,0) _ (by first|exact HXa.out.b1|exact HX.out.b1) Tryz.underlying27 rfl (by kernel_rfl) ?_)|((with_reducible refine Gl 76 9 ?_);refine Lr rfl 76 _ rfl (w3.heap.size) rfl 76 ([.string k,.string c.rcd]).toArray (0,0) _ (by first|exact HBb.out|exact HBa.out) Tryz.underlying76 rfl (by kernel_rfl) ?_)|(go_at_call 84;refine (HAL.out k _ HXa.out.be).mono ?_;rw [hal];rintro e w6 ⟨rfl,hb⟩;have HX6:=Hd (Um HXa.out hb);have HBb:=Hd (HBa.out.below hb HBa.out.lt);clear hb c3 c1)|(go_at_call 157;refine (HD.out _).mono ?_;rintro e w2 ⟨rfl,hb⟩;have HX2:=Hd (Um HX.out hb);rw [hd'];clear hb)|(go_at_call 85;refine (HS.out _ HX2.out.be).mono ?_;rintro e w3 ⟨rfl,hb⟩;have HX3:=Hd (Um HX2.out hb);have c1:=pw_org HX3.out;have c3:=pw_3 HX3.out;have HBn:=Hd fun old=>Blk.new w3 76 old;have HSn:=Hd fun old=>U1 w3 old #[.string k,.string c.rcd] 76;have HON:Hid ((#[.string k,.string c.rcd]:Array Value).all (·.oneCell')=true):=Hd (by simp [Value.oneCell']);have HXa:Hid (PW d c w (w3.alloc (.cells #[.string k,.string c.rcd] 76))):=Hd (Um HX3.out ((Bf _ _).alloc (Le _) _));have HBa:Hid (Blk (w3.alloc (.cells #[.string k,.string c.rcd] 76)) w3.heap.size 76 #[.string k,.string c.rcd]):=Hd (Blk.new _ _ _);clear hb))
   go_ret2
   exact ⟨rfl,HX6.out.be.mono HBB.out⟩
  |true=>
   have hq:R = .inr (l++[⟨k,c.rcd⟩]):=by rw [←HRR.out,hal];rfl
   subst hq
   go_wp2_with (first|((with_reducible refine Gl 27 3 ?_);refine Lr rfl 27 _ rfl (w.heap.size) rfl 27 (dC d).toArray (0,0) _ (by first|exact HXa.out.b1|exact HX.out.b1) Tryz.underlying27 rfl (by kernel_rfl) ?_)|((with_reducible refine Gl 76 9 ?_);refine Lr rfl 76 _ rfl (w3.heap.size) rfl 76 ([.string k,.string c.rcd]).toArray (0,0) _ (by first|exact HBb.out|exact HBa.out) Tryz.underlying76 rfl (by kernel_rfl) ?_)|(go_at_call 84;refine (HAL.out k _ HXa.out.be).mono ?_;rw [hal];rintro e w6 ⟨rfl,hb⟩;have HX6:=Hd (Um HXa.out hb);have HBb:=Hd (HBa.out.below hb HBa.out.lt);clear hb c3 c1)|(go_at_call 157;refine (HD.out _).mono ?_;rintro e w2 ⟨rfl,hb⟩;have HX2:=Hd (Um HX.out hb);rw [hd'];clear hb)|(go_at_call 85;refine (HS.out _ HX2.out.be).mono ?_;rintro e w3 ⟨rfl,hb⟩;have HX3:=Hd (Um HX2.out hb);have c1:=pw_org HX3.out;have c3:=pw_3 HX3.out;have HBn:=Hd fun old=>Blk.new w3 76 old;have HSn:=Hd fun old=>U1 w3 old #[.string k,.string c.rcd] 76;have HON:Hid ((#[.string k,.string c.rcd]:Array Value).all (·.oneCell')=true):=Hd (by simp [Value.oneCell']);have HXa:Hid (PW d c w (w3.alloc (.cells #[.string k,.string c.rcd] 76))):=Hd (Um HX3.out ((Bf _ _).alloc (Le _) _));have HBa:Hid (Blk (w3.alloc (.cells #[.string k,.string c.rcd] 76)) w3.heap.size 76 #[.string k,.string c.rcd]):=Hd (Blk.new _ _ _);clear hb)|(at_builtin;go_must (refine U4 _ rfl _ _ 28 rfl base 76 i0 _ 2 32 Tryz.underlying28 hi0 hz0 hz1 hz2 rfl (by decide) (.slice A l.length cc) l.length (eC l) rfl ((HO.out _ HX6.out.be).alloc _) (w6.heap.size+1) (some ⟨w6.heap.size,0,none⟩) 1 1 [.string k,.string c.rcd] rfl (HRD.out w6) (HONL.out k) HL1.out HL2.out (HLB.out _ _ HX6.out.be) ?_;intro v' w7 hown hgr _;obtain ⟨A',c',rfl,_⟩:=Ub hown;have HOWN:=Hd hown;have HGR:=Hd hgr;clear hown hgr)))
   go_ret2
   exact ⟨A',c',by rw [List.length_append];rfl,by rw [List.length_append];unfold eC;rw [Uy,Uv];exact HOWN.out,((HX6.out.be.mono HBB.out).alloc (HLC.out _ HX6.out.be) _).grown HGR.out (HLB.out _ _ HX6.out.be) (Vv (HO.out _ HX6.out.be) (Le _))⟩
end
section
open Go.RowKit
def Iw (d:DSet) (l:List Pr) (c:Chg):Int ⊕ List Pr:=
 if c.kind=0 then putE (dirB d) (Vr d ⟨c.key,c.rcd⟩) l c
 else if c.kind=1 then eraE (dirB d) (possB d c.key) l c
 else if c.kind=2 then appE d l c
 else if c.kind=3 then .inr []
 else .inr l
def doP (x:PC) (n:Int) (c:Chg):Int ⊕ PC:=
 if ¬ (c.id=x.d.id)∨n≤x.ap then .inr x
 else match Iw x.d x.ps c with
  |.inl e=>.inl e
  |.inr l=>if 1024<l.length then .inl 8 else .inr ⟨x.d,n,l⟩
def doF (x:PC) (n:Int) (c:Chg):Int ⊕ PC:=
 if Kz x.d x.ap x.ps&&chB c.kind c.id c.key c.rcd c.vol&&decide (1≤n)&&decide (n≤1099511627776) then doP x n c else .inl 1
theorem Ib (d:DSet) (l:List Pr) (c:Chg) (e:Int) (h:Iw d l c = .inl e):e≠0:=by
 unfold Iw putE eraE appE at h
 repeat' split at h
 all_goals first
  |(injection h with h;omega)
  |cases h
theorem doF_err (x:PC) (n:Int) (c:Chg) (e:Int) (h:doF x n c = .inl e):e≠0:=by
 unfold doF doP at h;split at h
 ·split at h
  ·cases h
  ·split at h
   ·rename_i e' he
    injection h with h
    subst h;exact Ib _ _ _ _ he
   ·split at h
    ·injection h with h;omega
    ·cases h
 ·injection h with h;omega
end
section
open Go.RowKit
theorem ef_none (k:Int) (h:k<0∨3<k):Instr.findNow (.int .i64) (.int .i64 k) ef4.toList 0=some none:=by
 have hs:=MapKept.findNow_spec (d:=.int .i64) (k:=.int .i64 k) (by simp [MapKept.IsKey]) ef4.toList 0 (by simp [ef4,ef3,ef2,ef1,MapKept.IsKey]);rcases hs with ⟨h1,_⟩|⟨j,e,_,h2,h3⟩
 ·exact h1
 ·exfalso
  have hm:=List.mem_of_getElem? h2;simp [ef4,ef3,ef2,ef1] at hm;rcases hm with rfl|rfl|rfl|rfl<;>(simp at h3;omega)
def efV (k:Int):Value:=if k=0 then .func (.func 156) #[] #[] else if k=1 then .func (.func 160) #[] #[] else if k=2 then .func (.func 163) #[] #[] else .func (.func 165) #[] #[]
theorem ef_some (k:Int) (h0:0≤k) (h3:k≤3):∃ i,Instr.findNow (.int .i64) (.int .i64 k) ef4.toList 0=some (some (i,efV k)):=by
 have:k=0∨k=1∨k=2∨k=3:=by omega
 rcases this with rfl|rfl|rfl|rfl
 ·exact ⟨0,rfl⟩
 ·exact ⟨1,rfl⟩
 ·exact ⟨2,rfl⟩
 ·exact ⟨3,rfl⟩
theorem efLook_some (w:World) (b:Nat) (k:Int) (hb:w.heap[b]? =some (.map ef4 4)) (h0:0≤k) (h3:k≤3):
  (Instr.lookup 201 (.map (some b)) (.int .i64 k) true).run prog w = .ok (.tuple #[efV k,.bool true]) w:=by
 obtain ⟨i,hf⟩:=ef_some k h0 h3;have hc:(Instr.checkKey ef4.isEmpty 10000 3 (.int .i64 k)).run prog w = .ok () w:=MapKept.run_checkKey (k:=.int .i64 k) Tryz.underlying3 (by simp [MapKept.IsKey]) _ 9999;simp [Instr.lookup,run_underlying Tryz.underlying201,MapKept.run_getObj_map hb,hc,MapKept.run_findKey Tryz.underlying3 hf]
theorem efLook_none (w:World) (b:Nat) (k:Int) (hb:w.heap[b]? =some (.map ef4 4)) (h:k<0∨3<k):
  (Instr.lookup 201 (.map (some b)) (.int .i64 k) true).run prog w = .ok (.tuple #[.nilFunc,.bool false]) w:=by
 have hf:=ef_none k h;have hc:(Instr.checkKey ef4.isEmpty 10000 3 (.int .i64 k)).run prog w = .ok () w:=MapKept.run_checkKey (k:=.int .i64 k) Tryz.underlying3 (by simp [MapKept.IsKey]) _ 9999;simp [Instr.lookup,run_underlying Tryz.underlying201,MapKept.run_getObj_map hb,hc,MapKept.run_findKey Tryz.underlying3 hf]
end
section
set_option maxRecDepth 100000
set_option maxHeartbeats 2000000
open Go.RowKit
structure DW (x:Cnt) (n:Int) (c:Chg) (w W:World):Prop where
 b1:Blk W w.heap.size 30 (cnC x).toArray
 b2:Blk W (w.heap.size+1) 127 (nbC n c).toArray
 b3:Blk W (w.heap.size+2) 30 zV.toArray
 sz:w.heap.size+3≤W.heap.size
 be:Below w.heap.size w W
theorem Uw {x:Cnt} {n:Int} {c:Chg} {w W W':World} (h:DW x n c w W) (hb:Below W.heap.size W W'):DW x n c w W':=
 ⟨h.b1.below hb h.b1.lt,h.b2.below hb h.b2.lt,h.b3.below hb h.b3.lt,Lx h.sz hb.size,U0 h.be hb h.be.size⟩
theorem dw_new (x:Cnt) (n:Int) (c:Chg) (w:World):DW x n c w (((w.alloc (.cells (cnC x).toArray 30)).alloc (.cells (nbC n c).toArray 127)).alloc (.cells zV.toArray 30)):=
 ⟨((Blk.new w _ _).alloc _).alloc _,(U3 (w.alloc _) _ _ _ (by simp)).alloc _,U3 ((w.alloc _).alloc _) _ _ _ (by simp),by simp,(((Bf _ _).alloc (Le _) _).alloc (by simp) _).alloc (by simp;omega) _⟩
theorem do_same (x:Cnt) (n:Int) (c:Chg) (w:World) (h:¬ (c.id=x.d.id)∨n≤x.ap):
  Calls prog 88 #[.agg (cnC x).toArray,.agg (nbC n c).toArray] w fun e w'=>e = .returned (.tuple #[.agg (cnC x).toArray,.int .i64 0])∧Below w.heap.size w w':=by
 have HX:=Hd (dw_new x n c w);have n0:=(HX.out.b2.cell 0).trans (show _=some (Value.int .i64 n) from rfl);have n2:=(HX.out.b2.cell 2).trans (show _=some (Value.int .i64 c.id) from rfl);have c0:=(HX.out.b1.cell 0).trans (show _=some (Value.int .i64 x.d.id) from rfl);have c21:=(HX.out.b1.cell 21).trans (show _=some (Value.int .i64 x.ap) from rfl);have HON:=Hd (Vx x);unfold zV at n0 n2 c0 c21;by_cases hi:c.id=x.d.id
 ·have h2:n≤x.ap:=h.resolve_left (fun q=>q hi)
  have e1:(c.id != x.d.id)=false:=by simpa using hi
  have e2:decide (n≤x.ap)=true:=decide_eq_true h2;clear h hi;go_enter Tryz.func88,Tryz.ntmps88;go_wp2_with (first|((with_reducible refine Gl 30 2 ?_);refine Lr rfl 30 _ rfl (w.heap.size) rfl 30 (cnC x).toArray (0,0) _ HX.out.b1 Tryz.underlying30 rfl (by kernel_rfl) ?_)|((with_reducible refine Gt 30 4 ?_);refine Lt rfl 30 _ _ rfl (w.heap.size+2) (cnC x).toArray rfl rfl 30 _ HX.out.b3 (by kernel_rfl) rfl HON.out ?_));have hr:=Us (((((w.alloc (.cells (cnC x).toArray 30)).alloc (.cells (nbC n c).toArray 127)).alloc (.cells zV.toArray 30))).setRow (w.heap.size+2) (cnC x).toArray) (w.heap.size+2) (cnC x).toArray (setRow_heap _ _ _ _ _ _ HX.out.b3) rfl;exact Br (v:=.tuple #[.agg (cnC x).toArray,.int .i64 0]) (U5 Tryz.results88 rfl rfl hr) rfl ⟨rfl,U6 HX.out.be (by omega) _⟩
 ·have e1:(c.id != x.d.id)=true:=by simpa using hi
  clear h hi;go_enter Tryz.func88,Tryz.ntmps88;go_wp2_with (first|((with_reducible refine Gl 30 2 ?_);refine Lr rfl 30 _ rfl (w.heap.size) rfl 30 (cnC x).toArray (0,0) _ HX.out.b1 Tryz.underlying30 rfl (by kernel_rfl) ?_)|((with_reducible refine Gt 30 4 ?_);refine Lt rfl 30 _ _ rfl (w.heap.size+2) (cnC x).toArray rfl rfl 30 _ HX.out.b3 (by kernel_rfl) rfl HON.out ?_));have hr:=Us (((((w.alloc (.cells (cnC x).toArray 30)).alloc (.cells (nbC n c).toArray 127)).alloc (.cells zV.toArray 30))).setRow (w.heap.size+2) (cnC x).toArray) (w.heap.size+2) (cnC x).toArray (setRow_heap _ _ _ _ _ _ HX.out.b3) rfl;exact Br (v:=.tuple #[.agg (cnC x).toArray,.int .i64 0]) (U5 Tryz.results88 rfl rfl hr) rfl ⟨rfl,U6 HX.out.be (by omega) _⟩
end
end Go.Proofs.YtapanepkfbamhaaGreatDoor
