/- Of HistorySwaps. -/
import Derived.Test.YtoakknkmjnebjaaGreatDoorSAV
namespace Go.Proofs.YtoakknkmjnebjaaGreatDoor
open Tryz (prog)
set_option maxRecDepth 100000
set_option maxHeartbeats 4000000
open Go.RowKit
section
open Go.ChangeMaps
theorem let0_eq {w:Wd} (s:Bz) (h:0<s.size):(Result.ok (Value.int .u8 (s[0].toNat:Int)) w:Result Value) = .ok (.int .u8 (Er s)) w:=by
 have:(s[0].toNat:Int)=Er s:=by
  unfold Er
  have e:s.data.toList.getD 0 0=s[0]:=by
   rw [List.getD_eq_getElem?_getD,Array.getElem?_toList,Array.getElem?_eq_getElem (show 0<s.data.size from h)];rfl
  rw [e]
 rw [this]
theorem trimF_size (s:Bz):(trimF s).size≤s.size:=by
 show ((Lib.trimRightB s.data.toList 32).toArray).size≤s.data.size;rw [List.size_toArray];unfold Lib.trimRightB;rw [List.length_reverse];refine Lx (List.Sublist.length_le (List.dropWhile_sublist _)) ?_;rw [List.length_reverse,Array.length_toList];exact Le _
theorem encV_form (rec:Bz) (o:Option Bz):∃ (s:Bz) (c:Int),encV o = .tuple #[.string s,.int .i64 c]∧((c=0∧s=rec)↔o=some rec):=by
 cases o with
 |none=>exact ⟨⟨#[]⟩,1,rfl,by simp⟩
 |some t=>exact ⟨t,0,rfl,by simp⟩
theorem deF_eq {k:Int} (hk:k=0∨k=1) {rec:Bz} {R:En×Bz×Int} {o:Option Bz} (h1:rdP k (trimF (rec.extract 1 32)) (rec.extract 32 rec.size) R) (h2:encP R.1 o) (h3:R.1.kind=k):
  deF k rec=if Ed R.2.1 R.2.2=0∧o=some rec then some R.1 else none:=by
 rw [h2 (by rw [h3];exact hk),rdP_eq h1 hk];rfl
theorem str_beq (a b:Bz):(a.toList == b.toList)=decide (a=b):=by
 by_cases h:a=b
 ·subst h;simp
 ·rw [decide_eq_false h];cases hq:a.toList == b.toList with
  |false=>rfl
  |true=>exact absurd (by have h2:=beq_iff_eq.1 hq;rw [Uv,Uv] at h2;exact Yh h2) h
theorem ewn_below {n m:Nat} {W W':Wd} {e:En} {a:EnA} (h:EWn n W e a) (hb:Below W.heap.size W W') (hm:m≤n):EWn m W' e a:=
 have h2:=h.ew0.below hb
 ⟨h2.sa,h2.sg,fun p hp h0=>Lx hm (h.na p hp h0),fun p hp h0=>Lx hm (h.ng p hp h0)⟩
theorem ewn_row {n m g:Nat} {w:Wd} {e:En} {a:EnA} (h:EWn n w e a) (hg:g<n) (hm:m≤n) (cs:Array Value):EWn m (w.setRow g cs) e a:=
 have h2:=h.row hg cs
 ⟨h2.sa,h2.sg,fun p hp h0=>Lx hm (h.na p hp h0),fun p hp h0=>Lx hm (h.ng p hp h0)⟩
theorem dl_new (w:Wd):DL #[] w (((w.alloc (.cells (enC enZ enN).toArray 159)).alloc (.map fm5 5)).alloc (.mapIter (some (w.heap.size+1)) 5 #[] 5)):=
 ⟨heap_at2 (Ur _ _ _ (by simp)) _,⟨5,Le _,Ur _ _ _ (by simp)⟩,((Blk.new w _ _).alloc _).alloc _,(((Bf _ _).alloc (Le _) _).alloc (by simp) _).alloc (by simp;omega) _,by simp⟩
theorem dec_none {rec:Bz} {w w':Wd} (h:rec.size<32∨200<rec.size) (hb:Below w.heap.size w w'):DecG rec w (.returned (decV none enN)) w':=⟨⟨none,enN,by unfold decP;rw [if_pos h],(fun e h=>by cases h),rfl⟩,hb⟩
theorem edecode_small (rec:Bz) (w:Wd) (hz:rec.size<32∨200<rec.size) (hm:rec.size≤9223372036854775807):Calls prog 125 #[.string rec] w (DecG rec w):=by
 have HZ:=Hd hz;have HB:Hid (∀ cs,Below w.heap.size w (w.alloc (.cells cs 159))):=Hd fun cs=>(Bf _ _).alloc (Le _) _
 have HN:Hid (∀ old,Blk (w.alloc (.cells old 159)) w.heap.size 159 old):=Hd fun old=>Blk.new w _ old
 have HS:Hid (∀ old,(w.alloc (.cells old 159)).setRow w.heap.size (enC enZ enN).toArray=w.alloc (.cells (enC enZ enN).toArray 159)):=Hd fun old=>U1 w old _ _
 have HO:=Hd (Vd enZ enN);have cB:=Yb (w.alloc (.cells (enC enZ enN).toArray 159)) w.heap.size _ (Blk.new w _ _) (by simp [enC]);by_cases h1:rec.size<32
 ·have d1:decide ((rec.size:Int)<32)=true:=decide_eq_true (by omega);clear hz hm h1;go_enter Tryz.func125,Tryz.ntmps125;go_wp2_with (first|((with_reducible refine Gb 159 ?_);refine U2 (by kernel_rfl) 159 _ rfl ((enC enZ enN).toArray) (by kernel_rfl) ?_)|((with_reducible refine Gt 159 2 ?_);refine Lv 159 w.heap.size ((enC enZ enN).toArray) (HN.out _) HO.out ?_;rw [HS.out]));exact Br (v:=.tuple #[.agg (enC enZ enN).toArray,.int .i64 11]) (U4 Tryz.results125 rfl rfl cB) rfl (dec_none HZ.out (HB.out _))
 ·have d1:decide ((rec.size:Int)<32)=false:=decide_eq_false (by omega);have d2:decide ((200:Int)<(rec.size:Int))=true:=decide_eq_true (by omega);clear hz hm h1;go_enter Tryz.func125,Tryz.ntmps125;go_wp2_with (first|((with_reducible refine Gb 159 ?_);refine U2 (by kernel_rfl) 159 _ rfl ((enC enZ enN).toArray) (by kernel_rfl) ?_)|((with_reducible refine Gt 159 2 ?_);refine Lv 159 w.heap.size ((enC enZ enN).toArray) (HN.out _) HO.out ?_;rw [HS.out]));exact Br (v:=.tuple #[.agg (enC enZ enN).toArray,.int .i64 11]) (U4 Tryz.results125 rfl rfl cB) rfl (dec_none HZ.out (HB.out _))
theorem Gm (rec:Bz) (w:Wd) (hm:rec.size≤9223372036854775807) (ht:Sta w):Calls prog 125 #[.string rec] w (DecG rec w):=by
 by_cases hz:rec.size<32∨200<rec.size
 ·exact edecode_small rec w hz hm
 have aK:32≤rec.size:=by omega
 have aR:rec.size≤200:=by omega
 have HT:=Hd ht;have HZ:=Hd (And.intro aK aR);have HO:=Hd (Vd enZ enN);have HD0:=Hd (dl_new w);have d1:decide ((rec.size:Int)<32)=false:=decide_eq_false (by omega);have d2:decide ((200:Int)<(rec.size:Int))=false:=decide_eq_false (by omega)
 have hrg:∀ old,(Instr.range 231 (.map (some (w.heap.size+1)))).run prog ((w.alloc (.cells old 159)).alloc (.map fm5 5)) = .ok (.pointer (some ⟨w.heap.size+2,0,none⟩)) (((w.alloc (.cells old 159)).alloc (.map fm5 5)).alloc (.mapIter (some (w.heap.size+1)) 5 #[] 5)):=fun old=>by
  have h:=run_range_map (P:=prog) ((w.alloc (.cells old 159)).alloc (.map fm5 5)) 231 _ _ (w.heap.size+1) fm5 5 Tryz.underlying231 (Ur _ _ _ (by simp));simpa using h
 clear hz aK aR hm ht;go_enter Tryz.func125,Tryz.ntmps125;go_wp2_with (go_at_call 150;refine (Yf _).mono ?_;rintro x w3 ⟨rfl,rfl⟩);clear hrg d1 d2;go_loopw [5] (fun _ wr => ∃ seen,DL seen w wr∧SeenOk rec seen) (fun _ wr=>(leftOf fm5 (wr.iterSeen (w.heap.size+2))).size)
 case atStart=>exact ⟨_,HD0.out,fun h=>by simp at h,fun h=>by simp at h⟩
 case round=>
  obtain ⟨seen,kE,hso⟩:=hrel;obtain ⟨c,hc5,hit⟩:=kE.it;go_wp2_with (at_next;refine wl_next rfl _ rfl (w.heap.size+2) (w.heap.size+1) 5 c seen fm5 5 rfl hit kE.mb fm5_born hc5 ?_ ?_)
  ·intro h0
   have hnone:decP rec none:=by
    unfold decP;rw [if_neg (by have:=HZ.out;omega)];have h0':(leftOf fm5 seen).size=0:=by rw [h0];rfl
    exact ⟨fun h=>(hso.1 (fm5_all h0' (k:=0) (by omega)) h).symm,fun h=>(hso.2 (fm5_all h0' (k:=1) (by omega)) h).symm,fun _ _ e h=>by cases h⟩
   have HN:=Hd hnone;have HD:=Hd kE;clear kE hso hit hc5 h0 hnone;have cB:=Yb (wr.setRow w.heap.size (enC enZ enN).toArray) w.heap.size _ (setRow_heap _ _ _ _ _ _ HD.out.rc) (by simp [enC]);go_wp2_with (first|((with_reducible refine Gb 159 ?_);refine U2 (by kernel_rfl) 159 _ rfl ((enC enZ enN).toArray) (by kernel_rfl) ?_)|((with_reducible refine Gt 159 2 ?_);refine Lv 159 w.heap.size ((enC enZ enN).toArray) HD.out.rc HO.out ?_));exact Br (v:=.tuple #[.agg (enC enZ enN).toArray,.int .i64 11]) (U4 Tryz.results125 rfl rfl cB) rfl ⟨⟨none,enN,HN.out,(fun e h=>by cases h),rfl⟩,U6 HD.out.be (Le _) _⟩
  ·intro e he w1 dN;obtain ⟨k,gW,ek,ev,eb⟩:=fm5_mem (mem_left (Array.mem_toList_iff.2 he)).1;have hsh:=left_shrinks fm5 seen e (Array.mem_toList_iff.2 he);clear he;obtain ⟨key,val,born⟩:=e;simp only at ek ev eb hsh ⊢;subst ek ev eb;obtain ⟨L,nf,ff,vf,hfm,hF,hC,hL0,hL1,hLD,hLG⟩:=fm_form born (by omega) (by omega);have hd1:=kE.step (k:=born) dN;have hit1:=block_at (ob:=.mapIter (some (w.heap.size+1)) 5 (seen.push born) 5) dN (show w.heap.size+2<wr.heap.size by have:=kE.sz;omega);have hms:(leftOf fm5 (wr.iterSeen (w.heap.size+2))).size=(leftOf fm5 seen).size:=by rw [kE.seenOf]
   have HMS:=Hd hms;have HSH:=Hd hsh;obtain ⟨W1,hW1⟩:∃ W,setBlock w1 (w.heap.size+2) (.mapIter (some (w.heap.size+1)) 5 (seen.push born) 5)=W:=⟨_,rfl⟩
   rw [hW1] at hd1 hit1 ⊢;have hen:=hd1.entry (by omega) hit1;rw [hfm] at hen ⊢;unfold EFV at hen ⊢;have HD:=Hd hd1;have HSO:=Hd hso;have HF:=Hd hF;have HC:=Hd hC;have HL:=Hd (And.intro hLD hLG);have HK:Hid (0≤(born:Int)∧(born:Int)≤4):=Hd ⟨by omega,by omega⟩;have aQ:=Hd fun old=>Blk.new W1 236 old
   have bK:=Hd fun old=>U1 W1 old (fvC L nf ff vf) 236
   have HO1:=Hd (Hl L nf ff vf);clear hd1 hit1 hms hsh hit hc5 kE hso dN hW1 hfm hF hC hLD hLG hL0 hL1 gW;go_wp2_with ((with_reducible refine Gt 236 6 ?_);refine Lv 236 W1.heap.size (fvC L nf ff vf) (aQ.out _) HO1.out ?_;rw [bK.out]);clear hen aQ bK HO1;have HBF:Hid (Blk (W1.alloc (.cells (fvC L nf ff vf) 236)).drew W1.heap.size 236 (fvC L nf ff vf)):=Hd (Blk.new W1 _ _).drew;have dX:Hid (DL (seen.push born) w (W1.alloc (.cells (fvC L nf ff vf) 236)).drew):=Hd (HD.out.next ((Bf _ _).alloc (Le _) _).drew);have eY:Hid (W1.heap.size<(W1.alloc (.cells (fvC L nf ff vf) 236)).drew.heap.size):=Hd HBF.out.lt;refine Rw (S:=fun w'=>Blk w' W1.heap.size 236 (fvC L nf ff vf)) (by kernel_rfl) HBF.out (fun Hh=>?_);refine tk 0 (.pointer (some ⟨W1.heap.size,0,none⟩)) Hh ?_
   refine tj 1 (.int .u8 L) Hh ?_ (y:=by intro w' aH;have h1:=(aH.cell 0).trans (show _=some (Value.int .u8 L) from rfl);go_simp);refine tk 2 (.string rec) Hh ?_;refine tj 3 (.int .u8 (Er rec)) Hh ?_ (y:=by intro w' aH;go_simp;rw [dif_pos (by have:=HZ.out.1;omega),let0_eq rec (by have:=HZ.out.1;omega)];rfl);refine tk 4 (.bool (L != Er rec)) Hh ?_;refine Ad (by kernel_rfl) ?_ _;clear Hh;by_cases hL:¬ L=Er rec
   ·have hd:(L != Er rec)=true:=by simpa using hL
    rw [hd];go_wp2;go_roundw
    case rel=>exact ⟨_,dX.out,HSO.out.push (fun h h2=>absurd ((HL.out.1.2 (by omega)).trans h2.symm) hL) (fun h h2=>absurd ((HL.out.2.2 (by omega)).trans h2.symm) hL)⟩
    case measure=>rw [dX.out.seenOf,HMS.out];exact HSH.out
   ·replace hL:L=Er rec:=Decidable.not_not.1 hL
    have hd:(L != Er rec)=false:=by simpa using hL
    rw [hd];clear hd;obtain ⟨nm,cC⟩:∃ nm,trimF (rec.extract 1 32)=nm:=⟨_,rfl⟩
    obtain ⟨lf,hlf⟩:∃ lf,rec.extract 32 rec.size=lf:=⟨_,rfl⟩
    have HTR:Hid (∀ W,Calls prog 151 #[.string (rec.extract 1 32),.string ⟨#[32]⟩] W fun e w'=>e = .returned (.string nm)∧w'=W):=Hd fun W=>by rw [←cC];exact Tryz.strings_TrimRight_one (rec.extract 1 32) 32 (by decide) W (by rw [ByteArray.size_extract];have:=HZ.out;omega)
    have HNZ:Hid (nm.size≤1000∧lf.size≤1000000):=Hd ⟨by rw [←cC];exact Lx (trimF_size _) (by rw [ByteArray.size_extract];have:=HZ.out;omega),by rw [←hlf,ByteArray.size_extract];have:=HZ.out;omega⟩;have HNL:=Hd (And.intro cC hlf);have HLL:=Hd hL;clear cC hL hlf;have q1:32≤rec.size:=HZ.out.1;have HD3:Hid (DL (seen.push born) w (((W1.alloc (.cells (fvC L nf ff vf) 236)).alloc (.cells (enC (enK born nm) enN).toArray 159)).drew)):=Hd (dX.out.next ((Bf _ _).alloc (Le _) _));have aM:Hid (Blk (((W1.alloc (.cells (fvC L nf ff vf) 236)).alloc (.cells (enC (enK born nm) enN).toArray 159)).drew) (W1.heap.size+1) 159 (enC (enK born nm) enN).toArray):=Hd (U3 (W1.alloc (.cells (fvC L nf ff vf) 236)) _ _ _ (by simp)).drew
    have kI:Hid (Blk (((W1.alloc (.cells (fvC L nf ff vf) 236)).alloc (.cells (enC (enK born nm) enN).toArray 159)).drew) W1.heap.size 236 (fvC L nf ff vf)):=Hd (HBF.out.alloc _);have gB:Hid ((((W1.alloc (.cells (fvC L nf ff vf) 236)).alloc (.cells (enC (enK born nm) enN).toArray 159)).drew).heap.size=W1.heap.size+2):=Hd (by show ((W1.alloc (.cells (fvC L nf ff vf) 236)).alloc (.cells (enC (enK born nm) enN).toArray 159)).heap.size=_;simp);have kK:Hid (∀ old,Blk (((W1.alloc (.cells (fvC L nf ff vf) 236)).alloc (.cells old 159)).drew) (W1.heap.size+1) 159 old):=Hd fun old=>(U3 (W1.alloc (.cells (fvC L nf ff vf) 236)) _ _ _ (by simp)).drew
    have HS7:Hid (∀ old,(((W1.alloc (.cells (fvC L nf ff vf) 236)).alloc (.cells old 159)).drew).setRow (W1.heap.size+1) (enC (enK born nm) enN).toArray=(((W1.alloc (.cells (fvC L nf ff vf) 236)).alloc (.cells (enC (enK born nm) enN).toArray 159)).drew)):=Hd fun old=>by have h:=Ug (W1.alloc (.cells (fvC L nf ff vf) 236)) (W1.heap.size+1) (by simp) old (enC (enK born nm) enN).toArray 159;exact congrArg World.drew h
    have HO7:=Hd (Vd (enK born nm) enN);have kT:=HC.out.f;clear dX HBF eY
    go_wp2_with (first|((with_reducible refine Gb 159 ?_);refine U2 (by kernel_rfl) 159 _ rfl ((enC (enK born nm) enN).toArray) (by kernel_rfl) ?_)|((with_reducible refine Gt 159 7 ?_);refine Lv 159 (W1.heap.size+1) ((enC (enK born nm) enN).toArray) (kK.out _) HO7.out ?_;rw [HS7.out])|((with_reducible refine Gt 159 2 ?_);refine Lv 159 w.heap.size ((enC R.1 a').toArray) HD8.out.rc (Vd _ _) ?_)|(go_at_call 151;refine (HTR.out _).mono ?_;rintro x w4 ⟨rfl,rfl⟩)|(go_at_call 122;rw [HNL.out.2];refine (Zu lf (((W1.alloc (.cells (fvC L nf ff vf) 236)).alloc (.cells (enC (enK born nm) enN).toArray 159)).drew)).mono ?_;rintro x w5 ⟨rfl,rfl⟩;obtain ⟨W2,hW2⟩:∃ W,(((W1.alloc (.cells (fvC L nf ff vf) 236)).alloc (.cells (enC (enK born nm) enN).toArray 159)).drew)=W:=⟨_,rfl⟩;simp only [hW2] at HD3 aM kI gB ⊢;clear hW2;have f2:=(((kI.out.alloc (.cells #[.string lf,.int .i64 0] 228)).alloc (.cells #[.string ⟨#[]⟩,.pointer (some ⟨W2.heap.size,0,none⟩)] 240)).cell 2).trans (show _=some (Value.func (.func ff) #[] #[]) from rfl);have j4:=Hd (HF.out.fr (W2.heap.size+1) W2.heap.size (W1.heap.size+1) nm lf ((W2.alloc (.cells #[.string lf,.int .i64 0] 228)).alloc (.cells #[.string ⟨#[]⟩,.pointer (some ⟨W2.heap.size,0,none⟩)] 240)) (crN W2 lf) (rdN W2 lf) ((aM.out.alloc _).alloc _) HNZ.out.2 HNZ.out.1 (by have:=gB.out;omega) (by omega) (by have:=gB.out;omega)))|((with_reducible show Calls _ _ #[.pointer (some ⟨_,0,none⟩),.pointer (some ⟨_,0,none⟩)] _ _);refine j4.out.mono ?_;rintro x w7 ⟨rfl,R,a',hR,eA,hkd,cC,iX,iS,eU,fS⟩;have HR:=Hd (And.intro hR (And.intro eA hkd));have cF:=Hd iX;have eV:=Hd iS;have HEW:=Hd eU;have HC7:Hid (Cr w7 (W2.heap.size+1) W2.heap.size):=Hd (Blk.far' (crN W2 lf) fS (by have:=gB.out;simp;omega));have HD7:Hid (DL (seen.push born) w w7):=Hd ((HD3.out.next (((Bf _ _).alloc (Le _) (.cells #[.string lf,.int .i64 0] 228)).alloc (by simp) (.cells #[.string ⟨#[]⟩,.pointer (some ⟨W2.heap.size,0,none⟩)] 240))).far fS (by have:=gB.out;have:=HD.out.sz;simp;omega));clear hR eA hkd cC iX iS eU fS f2 kT j4)|((with_reducible refine Gl 159 7 ?_);refine Lq 159 (W1.heap.size+1) ((enC R.1 a').toArray) (by first|exact HBG8.out|exact eV.out) Tryz.underlying159 ?_)|(go_at_call 152;refine (Kc R.1 a' w7 HEW.out.ew0 HR.out.2.1 (by rw [HR.out.2.2];exact HK.out.1) (by rw [HR.out.2.2];exact HK.out.2) (HT.out.after HD7.out.be)).mono ?_;rintro x w8 ⟨⟨o,hp,_,rfl⟩,hb⟩;obtain ⟨es,ec,jN,hiff⟩:=encV_form rec o;rw [jN];have HP:=Hd (And.intro hp hiff);have HD8:=Hd (HD7.out.next hb);have HRD8:Hid (Rdr w8 W2.heap.size R.2.1 R.2.2):=Hd (Blk.below cF.out hb (Blk.lt cF.out));have HBG8:=Hd (eV.out.below hb eV.out.lt);have HC8:Hid (Cr w8 (W2.heap.size+1) W2.heap.size):=Hd (Blk.below HC7.out hb (Blk.lt HC7.out));have HEW8:Hid (EWn W2.heap.size w8 R.1 a'):=Hd (ewn_below HEW.out hb (by simp;try omega));have c1:=HC8.out.c1;have m6:Hid (((born:Int)=0∨(born:Int)=1)→deF born rec=if Ed R.2.1 R.2.2=0∧o=some rec then some R.1 else none):=Hd (fun hk=>deF_eq hk (by rw [HNL.out.1,HNL.out.2];exact HR.out.1) hp HR.out.2.2);clear hp hiff jN hb)|(go_at_call 124;refine (Fm _ _ _ _ HRD8.out).mono ?_;rintro x w9 ⟨rfl,rfl⟩;obtain ⟨ne,aZ⟩:∃ ne,Ed R.2.1 R.2.2=ne:=⟨_,rfl⟩;simp only [aZ] at m6 ⊢;clear aZ;have iY:=str_beq es rec;rcases (show ((ne == 0)=false)∨((ne == 0)=true∧(ec == 0)=false)∨((ne == 0)=true∧(ec == 0)=true∧¬ es=rec)∨((ne == 0)=true∧(ec == 0)=true∧es=rec) by cases (ne == 0)<;>cases (ec == 0)<;>by_cases es=rec<;>simp_all) with b1|⟨b1,b2⟩|⟨b1,b2,b3⟩|⟨b1,b2,b3⟩))
    ·have hno:¬ (ne=0∧o=some rec):=fun ⟨h1,h2⟩=>by have h3:=HP.out.2.2 h2;simp_all
     exact ⟨⟨_,HD8.out,HSO.out.push (fun bT _=>by have h:=m6.out (.inl (by omega));rw [show ((born:Nat):Int)=0 by omega,if_neg hno] at h;exact h) (fun bT _=>by have h:=m6.out (.inr (by omega));rw [show ((born:Nat):Int)=1 by omega,if_neg hno] at h;exact h)⟩,by rw [HD8.out.seenOf,HMS.out];exact HSH.out⟩
    ·have hno:¬ (ne=0∧o=some rec):=fun ⟨h1,h2⟩=>by have h3:=HP.out.2.2 h2;simp_all
     exact ⟨⟨_,HD8.out,HSO.out.push (fun bT _=>by have h:=m6.out (.inl (by omega));rw [show ((born:Nat):Int)=0 by omega,if_neg hno] at h;exact h) (fun bT _=>by have h:=m6.out (.inr (by omega));rw [show ((born:Nat):Int)=1 by omega,if_neg hno] at h;exact h)⟩,by rw [HD8.out.seenOf,HMS.out];exact HSH.out⟩
    ·have hno:¬ (ne=0∧o=some rec):=fun ⟨h1,h2⟩=>by have h3:=HP.out.2.2 h2;simp_all
     exact ⟨⟨_,HD8.out,HSO.out.push (fun bT _=>by have h:=m6.out (.inl (by omega));rw [show ((born:Nat):Int)=0 by omega,if_neg hno] at h;exact h) (fun bT _=>by have h:=m6.out (.inr (by omega));rw [show ((born:Nat):Int)=1 by omega,if_neg hno] at h;exact h)⟩,by rw [HD8.out.seenOf,HMS.out];exact HSH.out⟩
    ·have cB:=Yb (w8.setRow w.heap.size (enC R.1 a').toArray) w.heap.size _ (setRow_heap _ _ _ (enC R.1 a').toArray _ _ HD8.out.rc) (by simp [enC]);have hos:ne=0∧o=some rec:=⟨by simpa using b1,HP.out.2.1 ⟨by simpa using b2,b3⟩⟩
     have hde:=m6.out;rw [if_pos hos] at hde
     have hdp:decP rec (some R.1):=by
      unfold decP;rw [if_neg (by have:=HZ.out;omega)];refine ⟨fun h=>?_,fun h=>?_,fun h h2 e he=>?_⟩
      ·have bT:=HL.out.1.1 (HLL.out.trans h);have h:=hde (.inl bT);rw [bT] at h;exact h.symm
      ·have bT:=HL.out.2.1 (HLL.out.trans h);have h:=hde (.inr bT);rw [bT] at h;exact h.symm
      ·injection he with he
       subst he;rw [HR.out.2.2];have k0:¬ (born:Int)=0:=fun hk=>h (HLL.out.symm.trans (HL.out.1.2 hk))
       have k1:¬ (born:Int)=1:=fun hk=>h2 (HLL.out.symm.trans (HL.out.2.2 hk))
       have:=HK.out;omega
     exact Br (v:=.tuple #[.agg (enC R.1 a').toArray,.int .i64 0]) (U4 Tryz.results125 rfl rfl cB) rfl ⟨⟨some R.1,a',hdp,(fun e he=>by injection he with he;subst he;exact ⟨HR.out.2.1,by rw [HR.out.2.2];exact HK.out.1,by rw [HR.out.2.2];exact HK.out.2,ewn_row HEW8.out (by have:=gB.out;have:=HD.out.sz;omega) (by have:=gB.out;have:=HD.out.sz;omega) _⟩),rfl⟩,U6 HD8.out.be (Le _) _⟩
end
theorem groupOf_any (s:Bz) (w:Wd) (hs:s.size≤1000) (hm:Mx w):Calls prog 153 #[.string s] w fun x w'=>x = .returned (.tuple #[.string (Zs s).1,.bool (Zs s).2.2])∧Below w.heap.size w w':=by
 have HS:=Hd (split_any s w (by omega) hm);clear hs hm;go_enter Tryz.func153,Tryz.ntmps153;go_wp2_with (go_at_call 199;refine HS.out.mono ?_;rintro x w2 ⟨rfl,hb⟩;have HB:=Hd hb;clear hb);refine Br (results_tmp2 Tryz.results153 _ _ _) rfl ?_;exact ⟨rfl,HB.out⟩
noncomputable def Xd (e g:En):Option Bz:=
 if e.kind=0 then (match Kb e with
  |none=>none
  |some a=>if (Zs e.name).2.2=true then (if g.kind=1∧g.name=(Zs e.name).1 then (match Kb g with|none=>none|some b=>some (⟨#[]⟩++Z2 a++Z2 b)) else none)
   else if g=enZ then some (⟨#[]⟩++Z2 a++Z2 ⟨#[]⟩) else none)
 else none
theorem ew_zero (S:List Nat) (W:Wd):EW S W enZ enN:=⟨Sl.nil,Sl.nil,fun p hp _=>(by cases hp),fun p hp _=>(by cases hp)⟩
structure NB (e g:En) (a b:EnA) (w W:Wd):Prop where
 b1:Blk W w.heap.size 159 (enC e a).toArray
 b2:Blk W (w.heap.size+1) 159 (enC g b).toArray
 be:Below w.heap.size w W
 sz:w.heap.size+2≤W.heap.size
theorem NB.next {e g:En} {a b:EnA} {w W W':Wd} (h:NB e g a b w W) (hb:Below W.heap.size W W'):NB e g a b w W':=
 have hz:=h.sz
 ⟨h.b1.below hb h.b1.lt,h.b2.below hb h.b2.lt,U0 h.be hb (by omega),Lx h.sz hb.size⟩
theorem NB.new (e g:En) (a b:EnA) (w:Wd):NB e g a b w ((w.alloc (.cells (enC e a).toArray 159)).alloc (.cells (enC g b).toArray 159)):=
 ⟨(Blk.new w _ _).alloc _,U3 (w.alloc _) _ _ _ (by simp),((Bf _ _).alloc (Le _) _).alloc (by simp) _,by simp⟩
theorem encG_form {e:En} {o:Option Bz} (hp:encP e o) (hz:∀ s,o=some s→s.size≤200000):∃ (s:Bz) (c:Int),encV o = .tuple #[.string s,.int .i64 c]∧s.size≤200000∧(e.kind=0∨e.kind=1→((c != 0)=true→Kb e=none)∧((c != 0)=false→Kb e=some s)):=by
 cases o with
 |none=>exact ⟨⟨#[]⟩,1,rfl,Z0 _,fun hk=>⟨fun _=>(hp hk).symm,fun h=>by simp at h⟩⟩
 |some s=>exact ⟨s,0,rfl,hz s rfl,fun hk=>⟨fun h=>by simp at h,fun _=>(hp hk).symm⟩⟩
theorem noteF_1 {e g:En} (h:e.kind=0→Kb e=none):Xd e g=none:=by
 unfold Xd;split
 ·rename_i hk;rw [h hk]
 ·rfl
theorem noteF_2 {e g:En} {a:Bz} (hk:e.kind=0) (ha:Kb e=some a) (hs:(Zs e.name).2.2=true) (h:g.kind=1→g.name=(Zs e.name).1→Kb g=none):Xd e g=none:=by
 unfold Xd;rw [if_pos hk,ha];simp only [hs,if_true];split
 ·rename_i h2;rw [h h2.1 h2.2]
 ·rfl
theorem noteF_3 {e g:En} {a b:Bz} (hk:e.kind=0) (ha:Kb e=some a) (hs:(Zs e.name).2.2=true) (h1:g.kind=1) (h2:g.name=(Zs e.name).1) (hb:Kb g=some b):Xd e g=some (⟨#[]⟩++Z2 a++Z2 b):=by
 unfold Xd;rw [if_pos hk,ha];simp only [hs,if_true];rw [if_pos ⟨h1,h2⟩,hb]
theorem noteF_4 {e g:En} {a:Bz} (hk:e.kind=0) (ha:Kb e=some a) (hs:(Zs e.name).2.2=false) (h:¬ g=enZ):Xd e g=none:=by
 unfold Xd;rw [if_pos hk,ha];simp only [hs,Bool.false_eq_true,if_false];rw [if_neg h]
theorem noteF_5 {e g:En} {a:Bz} (hk:e.kind=0) (ha:Kb e=some a) (hs:(Zs e.name).2.2=false) (h:g=enZ):Xd e g=some (⟨#[]⟩++Z2 a++Z2 ⟨#[]⟩):=by
 unfold Xd;rw [if_pos hk,ha];simp only [hs,Bool.false_eq_true,if_false];rw [if_pos h]
def NoteG (e g:En) (w:Wd) (x:Ending) (w':Wd):Prop:=x = .returned (encV (Xd e g))∧Below w.heap.size w w'
theorem NoteG.none {e g:En} {w w':Wd} (h:Xd e g=none) (hb:Below w.heap.size w w'):NoteG e g w (.returned (.tuple #[.string ⟨#[]⟩,.int .i64 1])) w':=⟨by rw [h];rfl,hb⟩
theorem NoteG.some {e g:En} {w w':Wd} {s:Bz} (h:Xd e g=some s) (hb:Below w.heap.size w w'):NoteG e g w (.returned (.tuple #[.string s,.int .i64 0])) w':=⟨by rw [h];rfl,hb⟩
theorem encT_le (s:Bz) (h:s.size≤200000):(⟨#[]⟩++Z2 s).size≤1000000000:=by
 have h0:(⟨#[]⟩:Bz).size=0:=rfl;have:=Xj s;rw [ByteArray.size_append];omega
theorem note_any (e g:En) (a b:EnA) (w:Wd) (he:EW [] w e a) (hg:EW [] w g b) (se:Sm e) (sg:Sm g) (e0:0≤e.kind) (e4:e.kind≤4) (g0:0≤g.kind) (g4:g.kind≤4) (ht:Sta w):
  Calls prog 126 #[.agg (enC e a).toArray,.agg (enC g b).toArray] w (NoteG e g w):=by
 have HN1:=Hd (NB.new e g a b w);have HT:=Hd ht;have HE:=Hd fun W (h:NB e g a b w W)=>Kc e a W (he.below h.be) se e0 e4 (ht.after h.be)
 have HG:=Hd fun W (h:NB e g a b w W)=>Kc g b W (hg.below h.be) sg g0 g4 (ht.after h.be)
 have HO:=Hd fun W (h:NB e g a b w W)=>groupOf_any e.name W se.nm (ht.after h.be).mx
 have HSM:=Hd fun W (h:NB e g a b w W)=>same_any g enZ b enN W (hg.below h.be) (ew_zero _ _) (by have:=sg.la;omega) (by decide) (by have:=sg.lg;omega) (by decide)
 clear he hg se sg e0 e4 g0 g4 ht;go_enter Tryz.func126,Tryz.ntmps126
 go_wp2_with (first|((with_reducible refine Gl 159 2 ?_);refine Lq 159 w.heap.size ((enC e a).toArray) (by first|exact HN5.out.b1|exact iW.out.b1|exact HN3.out.b1|exact jL.out.b1|exact HN1.out.b1) Tryz.underlying159 ?_)|((with_reducible refine Gl 159 3 ?_);refine Lq 159 (w.heap.size+1) ((enC g b).toArray) (by first|exact HN5.out.b2|exact iW.out.b2|exact HN3.out.b2|exact jL.out.b2|exact HN1.out.b2) Tryz.underlying159 ?_)|((with_reducible refine Gb 159 ?_);refine U2 (by kernel_rfl) 159 _ rfl ((enC enZ enN).toArray) (by kernel_rfl) ?_)|((with_reducible show Calls _ _ #[.agg (enC e a).toArray] _ _);refine (HE.out _ HN1.out).mono ?_;rintro x w2 ⟨⟨o,hp,hz,rfl⟩,hb⟩;obtain ⟨es,ec,jN,hez,hek⟩:=encG_form hp hz;rw [jN];have jL:=Hd (HN1.out.next hb);have HEZ:=Hd hez;have HEK:=Hd hek;have c0:=(jL.out.b1.cell 0).trans (show _=some (Value.int .i64 e.kind) from rfl);have c1:=(jL.out.b1.cell 1).trans (show _=some (Value.string e.name) from rfl);clear hp hz jN hez hek hb;rcases (show (ec != 0)=true∨((ec != 0)=false∧(e.kind != 0)=true)∨((ec != 0)=false∧(e.kind != 0)=false) by cases (ec != 0)<;>cases (e.kind != 0)<;>simp) with b1|⟨b1,b2⟩|⟨b1,b2⟩)|(go_at_call 153;refine (HO.out _ jL.out).mono ?_;rintro x w3 ⟨rfl,hb⟩;have HN3:=Hd (jL.out.next hb);clear hb c0 c1;rcases (show (Zs e.name).2.2=true∨(Zs e.name).2.2=false by cases (Zs e.name).2.2<;>simp) with s1|s1)|((with_reducible show Calls _ _ #[.agg (enC g b).toArray] _ _);refine (HG.out _ HN3.out).mono ?_;rintro x w4 ⟨⟨o,hp,hz,rfl⟩,hb⟩;obtain ⟨gs,gc,jN,hgz,hgk⟩:=encG_form hp hz;rw [jN];have iW:=Hd (HN3.out.next hb);have HGZ:=Hd hgz;have HGK:=Hd hgk;have d0:=(iW.out.b2.cell 0).trans (show _=some (Value.int .i64 g.kind) from rfl);have d1:=(iW.out.b2.cell 1).trans (show _=some (Value.string g.name) from rfl);clear hp hz jN hgz hgk hb;rcases (show (gc != 0)=true∨((gc != 0)=false∧(g.kind != 1)=true)∨((gc != 0)=false∧(g.kind != 1)=false∧(g.name.toList == (Zs e.name).1.toList)=false)∨((gc != 0)=false∧(g.kind != 1)=false∧(g.name.toList == (Zs e.name).1.toList)=true) by cases (gc != 0)<;>cases (g.kind != 1)<;>cases (g.name.toList == (Zs e.name).1.toList)<;>simp) with r1|⟨r1,r2⟩|⟨r1,r2,r3⟩|⟨r1,r2,r3⟩)|(go_at_call 154;refine (HSM.out _ HN3.out).mono ?_;rintro x w4 ⟨⟨z,rfl,hz⟩,hb⟩;have iW:=Hd (HN3.out.next hb);have HZ:=Hd hz;clear hb hz;cases z)|((with_reducible show Calls _ _ #[.string ⟨#[]⟩,.string _] _ _);refine (J0 ⟨#[]⟩ es _ (by decide) (by have:=HEZ.out;omega)).mono ?_;rintro x w5 ⟨rfl,hb⟩;have HN5:=Hd (iW.out.next hb);clear hb)|(go_at_call 155;refine (J0 _ _ _ (encT_le es HEZ.out) (by first|decide|(have:=HGZ.out;omega))).mono ?_;rintro x w6 ⟨rfl,hb⟩;have HN6:=Hd (HN5.out.next hb);clear hb))
 ·refine Br (results_tmp2 Tryz.results126 _ _ _) rfl (NoteG.none (noteF_1 fun hk=>(HEK.out (.inl hk)).1 b1) jL.out.be)
 ·refine Br (results_tmp2 Tryz.results126 _ _ _) rfl (NoteG.none (noteF_1 fun hk=>by rw [hk] at b2;cases b2) jL.out.be)
 ·have hk:e.kind=0:=by simpa using b2
  have ha:=(HEK.out (.inl hk)).2 b1;refine Br (results_tmp2 Tryz.results126 _ _ _) rfl (NoteG.none (noteF_2 hk ha s1 fun hg _=>(HGK.out (.inr hg)).1 r1) iW.out.be)
 ·have hk:e.kind=0:=by simpa using b2
  have ha:=(HEK.out (.inl hk)).2 b1;refine Br (results_tmp2 Tryz.results126 _ _ _) rfl (NoteG.none (noteF_2 hk ha s1 fun hg _=>absurd hg (by simpa using r2)) iW.out.be)
 ·have hk:e.kind=0:=by simpa using b2
  have ha:=(HEK.out (.inl hk)).2 b1;refine Br (results_tmp2 Tryz.results126 _ _ _) rfl (NoteG.none (noteF_2 hk ha s1 fun _ hn=>by rw [hn] at r3;simp at r3) iW.out.be)
 ·have hk:e.kind=0:=by simpa using b2
  have ha:=(HEK.out (.inl hk)).2 b1;have h1:g.kind=1:=by simpa using r2
  have h2:g.name=(Zs e.name).1:=by rw [str_beq] at r3;simpa using r3
  refine Br (results_tmp2 Tryz.results126 _ _ _) rfl (NoteG.some (noteF_3 hk ha s1 h1 h2 ((HGK.out (.inr h1)).2 r1)) HN6.out.be)
 ·have hk:e.kind=0:=by simpa using b2
  have ha:=(HEK.out (.inl hk)).2 b1;refine Br (results_tmp2 Tryz.results126 _ _ _) rfl (NoteG.none (noteF_4 hk ha s1 fun h=>by have:=HZ.out.2 h;cases this) iW.out.be)
 ·have hk:e.kind=0:=by simpa using b2
  have ha:=(HEK.out (.inl hk)).2 b1;refine Br (results_tmp2 Tryz.results126 _ _ _) rfl (NoteG.some (noteF_5 hk ha s1 (HZ.out.1 (by trivial))) HN6.out.be)
section
noncomputable def Ke (s:Bz):Option En:=if s.size<32∨200<s.size then none else if Er s=68 then deF 0 s else if Er s=71 then deF 1 s else none
noncomputable def Xc (note:Bz):Option En:=
 let t1:=Uj note 0 200;let t2:=Uj t1.2.1 t1.2.2 200
 if Ed t2.2.1 t2.2.2=0 then (match Ke t1.1 with
  |none=>none
  |some e=>match (if t2.1.toList = [] then some enZ else Ke t2.1) with
   |none=>none
   |some g=>if Xd e g=some note then some e else none)
 else none
def Dq (s:Bz) (e:En) (c:Int):Prop:=((c == 0)=false∧Ke s=none)∨((c == 0)=true∧(Ke s=some e∨(Ke s=none∧2≤e.kind)))
theorem H8:Sm enZ:=⟨by decide,by decide,by decide,by decide,by decide,by decide,by decide,fun n h=>(by cases h),fun n h=>(by cases h),by decide⟩
theorem dec_form {n:Nat} {s:Bz} {o:Option En} {a:EnA} {W:Wd} (hp:decP s o) (h:∀ e,o=some e→Sm e∧0≤e.kind∧e.kind≤4∧EWn n W e a):∃ (e:En) (b:EnA) (c:Int),decV o a = .tuple #[.agg (enC e b).toArray,.int .i64 c]∧Dq s e c∧Sm e∧0≤e.kind∧e.kind≤4∧EWn n W e b:=by
 cases o with
 |none=>
  refine ⟨enZ,enN,11,rfl,.inl ⟨rfl,?_⟩,H8,by decide,by decide,⟨Sl.nil,Sl.nil,fun p hp _=>(by cases hp),fun p hp _=>(by cases hp)⟩⟩;unfold decP at hp;unfold Ke;split
  ·rfl
  ·rename_i hz;rw [if_neg hz] at hp;split
   ·rename_i h1;exact (hp.1 h1).symm
   ·split
    ·rename_i h1;exact (hp.2.1 h1).symm
    ·rfl
 |some e=>
  obtain ⟨h1,h2,h3,h4⟩:=h e rfl;refine ⟨e,a,0,rfl,.inr ⟨rfl,?_⟩,h1,h2,h3,h4⟩;unfold decP at hp;unfold Ke;split
  ·rename_i hz;rw [if_pos hz] at hp;cases hp
  ·rename_i hz;rw [if_neg hz] at hp;split
   ·rename_i h1;exact .inl (hp.1 h1).symm
   ·split
    ·rename_i h1;exact .inl (hp.2.1 h1).symm
    ·rename_i k1 k2;exact .inr ⟨rfl,hp.2.2 k1 k2 e rfl⟩
theorem encV_any (o:Option Bz):∃ (s:Bz) (c:Int),encV o = .tuple #[.string s,.int .i64 c]∧(((c == 0)=false∧o=none)∨((c == 0)=true∧o=some s)):=by
 cases o with
 |none=>exact ⟨⟨#[]⟩,1,rfl,.inl ⟨rfl,rfl⟩⟩
 |some t=>exact ⟨t,0,rfl,.inr ⟨rfl,rfl⟩⟩
section
variable {note:Bz}
theorem parse_end (h:(Ed (Uj (Uj note 0 200).2.1 (Uj note 0 200).2.2 200).2.1 (Uj (Uj note 0 200).2.1 (Uj note 0 200).2.2 200).2.2 == 0)=false):Xc note=none:=by
 unfold Xc;dsimp only;rw [if_neg (by simpa using h)]
theorem K6 (h:Ke (Uj note 0 200).1=none):Xc note=none:=by
 unfold Xc;dsimp only;rw [h];split<;>rfl
theorem noteF_kind {e g:En} (h:2≤e.kind):Xd e g=none:=by
 unfold Xd;rw [if_neg (by omega)]
theorem noteF_group {e g:En} (h:2≤g.kind):Xd e g=none:=by
 have h1:¬ g.kind=1:=by omega
 have h2:¬ g=enZ:=fun h3=>by rw [h3] at h;exact absurd h (by decide)
 unfold Xd;split
 ·split
  ·rfl
  ·split
   ·rw [if_neg (fun h=>h1 h.1)]
   ·rfl
 ·rfl
theorem parse_cd {e:En} {c:Int} (hd:Dq (Uj note 0 200).1 e c) (hc:(c == 0)=false):Xc note=none:=by
 rcases hd with ⟨_,h2⟩|⟨h1,_⟩
 ·exact K6 h2
 ·rw [hc] at h1;cases h1
def Gq (s:Bz) (g:En):Prop:=((s.toList == [])=true∧g=enZ)∨((s.toList == [])=false∧(Ke s=some g∨(Ke s=none∧2≤g.kind)))
theorem Gf (h2:¬ (Uj (Uj note 0 200).2.1 (Uj note 0 200).2.2 200).1.toList = []) (h3:Ke (Uj (Uj note 0 200).2.1 (Uj note 0 200).2.2 200).1=none):Xc note=none:=by
 unfold Xc;dsimp only;split
 ·split
  ·rfl
  ·rw [h3]
 ·rfl
theorem parse_c2 {g:En} {c:Int} (h2:((Uj (Uj note 0 200).2.1 (Uj note 0 200).2.2 200).1.toList == [])=false) (hd:Dq (Uj (Uj note 0 200).2.1 (Uj note 0 200).2.2 200).1 g c) (hc:(c == 0)=false):Xc note=none:=by
 rcases hd with ⟨_,h3⟩|⟨h1,_⟩
 ·exact Gf (fun h=>by rw [h] at h2;cases h2) h3
 ·rw [hc] at h1;cases h1
theorem Gq.of {s:Bz} {g:En} {c:Int} (h2:(s.toList == [])=false) (hd:Dq s g c) (hc:(c == 0)=true):Gq s g:=by
 rcases hd with ⟨h1,_⟩|⟨_,h3⟩
 ·rw [hc] at h1;cases h1
 ·exact .inr ⟨h2,h3⟩
theorem parse_last {e g:En} (he:Ke (Uj note 0 200).1=some e) (h0:(Ed (Uj (Uj note 0 200).2.1 (Uj note 0 200).2.2 200).2.1 (Uj (Uj note 0 200).2.1 (Uj note 0 200).2.2 200).2.2 == 0)=true) (hg:(if (Uj (Uj note 0 200).2.1 (Uj note 0 200).2.2 200).1.toList = [] then some enZ else Ke (Uj (Uj note 0 200).2.1 (Uj note 0 200).2.2 200).1)=some g):Xc note=if Xd e g=some note then some e else none:=by
 unfold Xc;dsimp only;rw [if_pos (by simpa using h0),he];simp only [hg]
theorem gq_some {s:Bz} {g:En} (h:Gq s g):(if s.toList = [] then some enZ else Ke s)=some g∨(¬ s.toList = []∧Ke s=none∧2≤g.kind):=by
 rcases h with ⟨h1,rfl⟩|⟨h1,h2|h2⟩
 ·exact .inl (if_pos (by simpa using h1))
 ·exact .inl ((if_neg (fun h=>by rw [h] at h1;cases h1)).trans h2)
 ·exact .inr ⟨(fun h=>by rw [h] at h1;cases h1),h2⟩
theorem parse_bad {e g:En} {c:Int} (hd:Dq (Uj note 0 200).1 e c) (hg:Gq (Uj (Uj note 0 200).2.1 (Uj note 0 200).2.2 200).1 g) (hn:¬ Xd e g=some note):Xc note=none:=by
 rcases hd with ⟨h1,h2⟩|⟨h1,h2|⟨h2,h3⟩⟩
 ·exact K6 h2
 ·rcases gq_some hg with h4|⟨h4,h5,_⟩
  ·cases h0:(Ed (Uj (Uj note 0 200).2.1 (Uj note 0 200).2.2 200).2.1 (Uj (Uj note 0 200).2.1 (Uj note 0 200).2.2 200).2.2 == 0) with
   |false=>exact parse_end h0
   |true=>rw [parse_last h2 h0 h4,if_neg hn]
  ·exact Gf h4 h5
 ·exact K6 h2
theorem parse_good {e g:En} {c:Int} (hd:Dq (Uj note 0 200).1 e c) (hc:(c == 0)=true) (h0:(Ed (Uj (Uj note 0 200).2.1 (Uj note 0 200).2.2 200).2.1 (Uj (Uj note 0 200).2.1 (Uj note 0 200).2.2 200).2.2 == 0)=true) (hg:Gq (Uj (Uj note 0 200).2.1 (Uj note 0 200).2.2 200).1 g) (hn:Xd e g=some note):Xc note=some e:=by
 rcases hd with ⟨h1,_⟩|⟨h1,h2|⟨h2,h3⟩⟩
 ·rw [hc] at h1;cases h1
 ·rcases gq_some hg with h4|⟨_,_,h5⟩
  ·rw [parse_last h2 h0 h4,if_pos hn]
  ·rw [noteF_group h5] at hn;cases hn
 ·rw [noteF_kind h3] at hn;cases hn
end
theorem nn_of {o:Option Bz} {ec:Int} {es note:Bz} (h:((ec == 0)=false∧o=none)∨((ec == 0)=true∧o=some es)) (hb:(ec == 0)=false∨(es.toList == note.toList)=false):¬ o=some note:=by
 rcases h with ⟨_,h⟩|⟨h1,h⟩
 ·rw [h];simp
 ·rw [h];intro h2;injection h2 with h2
  rcases hb with hb|hb
  ·rw [h1] at hb;cases hb
  ·rw [h2] at hb;simp at hb
theorem ny_of {o:Option Bz} {ec:Int} {es note:Bz} (h:((ec == 0)=false∧o=none)∨((ec == 0)=true∧o=some es)) (h1:(ec == 0)=true) (h2:(es.toList == note.toList)=true):o=some note:=by
 rcases h with ⟨h3,_⟩|⟨_,h⟩
 ·rw [h1] at h3;cases h3
 ·rw [h];rw [str_beq] at h2;simpa using h2
def ParG (note:Bz) (w:Wd) (x:Ending) (w':Wd):Prop:=(match Xc note with
 |none=>x = .returned (.tuple #[.agg (enC enZ enN).toArray,.agg (enC enZ enN).toArray,.int .i64 11])
 |some e => ∃ (a:EnA) (g:En) (b:EnA),x = .returned (.tuple #[.agg (enC e a).toArray,.agg (enC g b).toArray,.int .i64 0]))∧Below w.heap.size w w'
theorem ParG.none {note:Bz} {w w':Wd} (h:Xc note=none) (hb:Below w.heap.size w w'):ParG note w (.returned (.tuple #[.agg (enC enZ enN).toArray,.agg (enC enZ enN).toArray,.int .i64 11])) w':=⟨by rw [h],hb⟩
theorem ParG.some {note:Bz} {w w':Wd} {e g:En} {a b:EnA} (h:Xc note=some e) (hb:Below w.heap.size w w'):ParG note w (.returned (.tuple #[.agg (enC e a).toArray,.agg (enC g b).toArray,.int .i64 0])) w':=⟨by rw [h];exact ⟨a,g,b,rfl⟩,hb⟩
structure PB (w W:Wd):Prop where
 b1:Blk W w.heap.size 159 (enC enZ enN).toArray
 b2:Blk W (w.heap.size+1) 159 (enC enZ enN).toArray
 be:Below w.heap.size w W
 sz:w.heap.size+3≤W.heap.size
theorem PB.far {w W W':Wd} {S:List Nat} (h:PB w W) (hf:Far S W W') (hS:∀ k∈S,w.heap.size+2≤k):PB w W':=
 have hz:=h.sz;have ne:∀ k,k<w.heap.size+2→k ∉ S:=fun k hk hm=>by have:=hS k hm;omega
 ⟨h.b1.far' hf (ne _ (by omega)),h.b2.far' hf (ne _ (by omega)),h.be.trans (hf.below (fun k hk=>by have:=hS k hk;omega) h.be.size),Lx h.sz hf.size⟩
theorem PB.next {w W W':Wd} (h:PB w W) (hb:Below W.heap.size W W'):PB w W':=h.far (S:=[]) (Far.of_below hb) (by simp)
theorem Ux {P:Program} {fn:Func} {tmps:Array Value} {p p2 q:Nat} {t t2:TypeId} {b b2:Nat} {c c2 v:Value} {W:Wd} (h:fn.results=#[.cell p t,.cell p2 t2,.tmp q]) (hp:tmps.getD p undef = .pointer (some ⟨b,0,none⟩)) (dP:tmps.getD p2 undef = .pointer (some ⟨b2,0,none⟩)) (hq:tmps.getD q undef=v)
  (hl:(loadVar t ⟨b,0,none⟩).run P W = .ok c W) (gT:(loadVar t2 ⟨b2,0,none⟩).run P W = .ok c2 W):(results fn tmps).run P W = .ok (.tuple #[c,c2,v]) W:=by
 have hp':tmps[p]?.getD undef = .pointer (some ⟨b,0,none⟩):=by simpa using hp
 have hp2':tmps[p2]?.getD undef = .pointer (some ⟨b2,0,none⟩):=by simpa using dP
 have hq':tmps[q]?.getD undef=v:=by simpa using hq
 simp [results,h,hp',hp2',hq',asAddr,hl,gT]
theorem Ut {W:Wd} {g1 g2:Nat} {c1 c2 d1 d2:Array Value} (h1:Blk W g1 159 d1) (h2:Blk W g2 159 d2) (hn:g1≠g2) (z1:c1.size=33) (z2:c2.size=33):
  (loadVar 159 ⟨g1,0,none⟩).run prog ((W.setRow g1 c1).setRow g2 c2) = .ok (.agg c1) ((W.setRow g1 c1).setRow g2 c2)∧(loadVar 159 ⟨g2,0,none⟩).run prog ((W.setRow g1 c1).setRow g2 c2) = .ok (.agg c2) ((W.setRow g1 c1).setRow g2 c2):=
 ⟨Yb _ g1 c1 (Um (setRow_heap _ _ _ _ _ _ h1) hn) z1,Yb _ g2 c2 (setRow_heap _ _ _ _ _ _ (Um h2 (Ne.symm hn))) z2⟩
theorem PB.end' {w W:Wd} (h:PB w W) (c1 c2:Array Value):Below w.heap.size w ((W.setRow w.heap.size c1).setRow (w.heap.size+1) c2):=U6 (U6 h.be (Le _) _) (by omega) _
theorem parse_any (note:Bz) (w:Wd) (hs:note.size≤9223372036854775807) (eA:note.size≤maxLen) (ht:Sta w):Calls prog 87 #[.string note] w (ParG note w):=by
 have HT:=Hd ht;have aK:=(Z4 note 0 200).2;have hl1:=Zk note 0;have gT:=Zk (Uj note 0 200).2.1 (Uj note 0 200).2.2;have HPE:=Hd (parse_end (note:=note));have HPC:=Hd fun e c=>parse_cd (note:=note) (e:=e) (c:=c)
 have HPG:=Hd fun g c=>parse_c2 (note:=note) (g:=g) (c:=c)
 have HPB:=Hd fun e g c=>parse_bad (note:=note) (e:=e) (g:=g) (c:=c)
 have HPO:=Hd fun e g c=>parse_good (note:=note) (e:=e) (g:=g) (c:=c)
 obtain ⟨t1,h1⟩:∃ t,Uj note 0 200=t:=⟨_,rfl⟩
 obtain ⟨a1,l1,r1⟩:=t1;simp only [h1] at aK hl1 gT HPE HPC HPG HPB HPO;obtain ⟨t2,h2⟩:∃ t,Uj l1 r1 200=t:=⟨_,rfl⟩
 obtain ⟨a2,l2,r2⟩:=t2;simp only [h2] at gT HPE HPC HPG HPB HPO;have HS:=Hd (And.intro eA (show l1.size≤maxLen by unfold maxLen at eA ⊢;omega));have HAZ:=Hd (And.intro hl1 gT);have HH:=Hd (And.intro h1 h2);have HO:=Hd (Vd enZ enN)
 have HP0:Hid (PB w (((w.alloc (.cells (enC enZ enN).toArray 159)).alloc (.cells (enC enZ enN).toArray 159)).alloc (.cells #[.string note,.int .i64 0] 228))):=
  Hd ⟨((Blk.new w _ _).alloc _).alloc _,(U3 (w.alloc _) _ _ _ (by simp)).alloc _,(((Bf _ _).alloc (Le _) _).alloc (by simp) _).alloc (by simp;omega) _,by simp⟩
 clear h1 h2 aK hl1 gT hs eA ht;go_enter Tryz.func87,Tryz.ntmps87
 go_wp2_with (first|((with_reducible refine Gb 159 ?_);refine U2 (by kernel_rfl) 159 _ rfl ((enC enZ enN).toArray) (by kernel_rfl) ?_)|(go_at_call 122;refine (Zu note ((w.alloc (.cells (enC enZ enN).toArray 159)).alloc (.cells (enC enZ enN).toArray 159))).mono ?_;rintro x w1 ⟨rfl,rfl⟩;have gQ:Hid (Rdr (((w.alloc (.cells (enC enZ enN).toArray 159)).alloc (.cells (enC enZ enN).toArray 159)).alloc (.cells #[.string note,.int .i64 0] 228)) (w.heap.size+2) note 0):=Hd (U3 ((w.alloc (.cells (enC enZ enN).toArray 159)).alloc (.cells (enC enZ enN).toArray 159)) _ _ _ (by simp));rw [show ((w.alloc (.cells (enC enZ enN).toArray 159)).alloc (.cells (enC enZ enN).toArray 159)).heap.size=w.heap.size+2 by simp])|(go_at_call 123;refine (Jz (w.heap.size+2) note 0 200 _ HS.out.1 gQ.out (by decide) (by decide)).mono ?_;rintro x w2 ⟨rfl,iX,fS⟩;have jK:Hid (Rdr w2 (w.heap.size+2) l1 r1):=Hd (by rw [HH.out.1] at iX;exact iX);have HP2:Hid (PB w w2):=Hd (HP0.out.far fS (by simp));rw [HH.out.1];clear iX fS gQ)|(go_at_call 123;refine (Jz (w.heap.size+2) l1 r1 200 _ HS.out.2 jK.out (by decide) (by decide)).mono ?_;rintro x w3 ⟨rfl,iX,fS⟩;have HR3:Hid (Rdr w3 (w.heap.size+2) l2 r2):=Hd (by rw [HH.out.2] at iX;exact iX);have jH:Hid (PB w w3):=Hd (HP2.out.far fS (by simp));rw [HH.out.2];clear iX fS jK)|(go_at_call 124;refine (Fm _ _ _ _ HR3.out).mono ?_;rintro x w4 ⟨rfl,rfl⟩;obtain ⟨ne,aZ⟩:∃ ne,Ed l2 r2=ne:=⟨_,rfl⟩;simp only [aZ] at HPE HPC HPG HPB HPO ⊢;clear aZ;rcases (show ((ne == 0)=false∧(ne != 0)=true)∨((ne == 0)=true∧(ne != 0)=false) by unfold bne;cases (ne == 0)<;>simp) with ⟨b1,b2⟩|⟨b1,b2⟩)|((with_reducible refine Gt 159 2 ?_);refine Lv 159 w.heap.size ((enC enZ enN).toArray) (by first|exact bL.out.b1|exact jH.out.b1) HO.out ?_)|((with_reducible refine Gt 159 3 ?_);refine Lv 159 (w.heap.size+1) ((enC enZ enN).toArray) (by first|exact Um bL.out.b2 (by omega)|exact Um jH.out.b2 (by omega)) HO.out ?_)|(go_at_call 125;(with_reducible show Calls _ _ #[.string a1] _ _);refine (Gm a1 _ (by have:=HAZ.out.1;omega) (HT.out.after jH.out.be)).mono ?_;rintro x w5 ⟨⟨o,a,hp,hq,rfl⟩,hb⟩;obtain ⟨e,ea,c,hdv,hdq,eA,jV,gW,eU⟩:=dec_form hp hq;rw [hdv];have HP5:=Hd (jH.out.next hb);have HDQ:=Hd hdq;have jA:=Hd (And.intro eA (And.intro jV gW));have HEW5:=Hd eU;have eB:=Hd fun old=>Blk.new w5 159 old;have HS5:=Hd fun old=>U1 w5 old (enC e ea).toArray 159;have HO5:=Hd (Vd e ea);have kG:Hid (∀ old,Blk ((w5.alloc (.cells (enC e ea).toArray 159)).alloc (.cells old 159)) (w5.heap.size+1) 159 old):=Hd fun old=>U3 (w5.alloc (.cells (enC e ea).toArray 159)) _ _ _ (by simp);have jX:Hid (∀ old,((w5.alloc (.cells (enC e ea).toArray 159)).alloc (.cells old 159)).setRow (w5.heap.size+1) (enC enZ enN).toArray=((w5.alloc (.cells (enC e ea).toArray 159)).alloc (.cells (enC enZ enN).toArray 159))):=Hd fun old=>Ug (w5.alloc (.cells (enC e ea).toArray 159)) (w5.heap.size+1) (by simp) old (enC enZ enN).toArray 159;have bB:Hid (Blk ((w5.alloc (.cells (enC e ea).toArray 159)).alloc (.cells (enC enZ enN).toArray 159)) w5.heap.size 159 (enC e ea).toArray∧Blk ((w5.alloc (.cells (enC e ea).toArray 159)).alloc (.cells (enC enZ enN).toArray 159)) (w5.heap.size+1) 159 (enC enZ enN).toArray):=Hd ⟨(Blk.new w5 _ _).alloc _,U3 (w5.alloc (.cells (enC e ea).toArray 159)) _ _ _ (by simp)⟩;have bH:Hid (Below w5.heap.size w5 ((w5.alloc (.cells (enC e ea).toArray 159)).alloc (.cells (enC enZ enN).toArray 159))):=Hd (((Bf _ _).alloc (Le _) _).alloc (by simp) _);have dJ:Hid (PB w ((w5.alloc (.cells (enC e ea).toArray 159)).alloc (.cells (enC enZ enN).toArray 159))):=Hd (HP5.out.next bH.out);clear hdv hdq eA jV gW eU hp hq hb;rcases (show ((c == 0)=false∧(c != 0)=true)∨((c == 0)=true∧(c != 0)=false∧(a2.toList == [])=true)∨((c == 0)=true∧(c != 0)=false∧(a2.toList == [])=false) by unfold bne;cases (c == 0)<;>cases (a2.toList == [])<;>simp) with ⟨c1,c2⟩|⟨c1,c2,q2⟩|⟨c1,c2,q2⟩)|(go_at_call 125;(with_reducible show Calls _ _ #[.string a2] _ _);refine (Gm a2 _ (by have:=HAZ.out.2;omega) (HT.out.after dJ.out.be)).mono ?_;rintro x w8 ⟨⟨o,a,hp,hq,rfl⟩,hb⟩;obtain ⟨g,gb,c3,hdv,hdq,eA,jV,gW,eU⟩:=dec_form hp hq;rw [hdv];have HP8:=Hd (dJ.out.next hb);have HGQ:=Hd hdq;have HG8:=Hd (And.intro eA (And.intro jV gW));have HO8:=Hd (Vd g gb);have iV:=Hd (And.intro (bB.out.1.below hb bB.out.1.lt) (bB.out.2.below hb bB.out.2.lt));have HXR:Hid (Blk (w8.setRow (w5.heap.size+1) (enC g gb).toArray) w5.heap.size 159 (enC e ea).toArray∧Blk (w8.setRow (w5.heap.size+1) (enC g gb).toArray) (w5.heap.size+1) 159 (enC g gb).toArray):=Hd ⟨Um iV.out.1 (by omega),setRow_heap _ _ _ _ _ _ iV.out.2⟩;have j4:Hid (Far [w5.heap.size+1] w8 (w8.setRow (w5.heap.size+1) (enC g gb).toArray)):=Hd (far_row _ _ _);have HPR:Hid (PB w (w8.setRow (w5.heap.size+1) (enC g gb).toArray)):=Hd (HP8.out.far j4.out (by have:=HP5.out.sz;simp;omega));have HEWR:Hid (EW [] (w8.setRow (w5.heap.size+1) (enC g gb).toArray) e ea):=Hd ((((HEW5.out.ew0.fresh (S:=[w5.heap.size+1]) bH.out (by simp)).below hb).far j4.out (fun _ h=>h)).less (by simp));have HGWR:Hid (EW [] (w8.setRow (w5.heap.size+1) (enC g gb).toArray) g gb):=Hd (eU.row (by simp) _);clear hdv hdq eA jV gW eU hp hq hb;have fF:=Hd c1;clear c1 c2;rcases (show ((c3 == 0)=false∧(c3 != 0)=true)∨((c3 == 0)=true∧(c3 != 0)=false) by unfold bne;cases (c3 == 0)<;>simp) with ⟨c1,c2⟩|⟨c1,c2⟩)|((with_reducible refine Gt 159 8 ?_);refine Lv 159 w5.heap.size ((enC e ea).toArray) (eB.out _) HO5.out ?_;rw [HS5.out])|((with_reducible refine Gt 159 10 ?_);refine Lv 159 (w5.heap.size+1) ((enC g gb).toArray) iV.out.2 HO8.out ?_)|((with_reducible refine Gt 159 10 ?_);refine Lv 159 (w5.heap.size+1) ((enC enZ enN).toArray) (kG.out _) HO.out ?_;rw [jX.out])|((with_reducible refine Gl 159 8 ?_);refine Lq 159 w5.heap.size ((enC e ea).toArray) (by first|exact HXR.out.1|exact bB.out.1) Tryz.underlying159 ?_)|((with_reducible refine Gl 159 10 ?_);refine Lq 159 (w5.heap.size+1) ((enC g gb).toArray) HXR.out.2 Tryz.underlying159 ?_)|((with_reducible refine Gl 159 10 ?_);refine Lq 159 (w5.heap.size+1) ((enC enZ enN).toArray) bB.out.2 Tryz.underlying159 ?_)|(go_at_call 126;refine (note_any e g ea gb (w8.setRow (w5.heap.size+1) (enC g gb).toArray) HEWR.out HGWR.out jA.out.1 HG8.out.1 jA.out.2.1 jA.out.2.2 HG8.out.2.1 HG8.out.2.2 (HT.out.after HPR.out.be)).mono ?_;rintro x w9 ⟨rfl,hb⟩;obtain ⟨es,ec,jN,hen⟩:=encV_any (Xd e g);rw [jN];have bL:=Hd (HPR.out.next hb);have HN9:=Hd hen;have iG:=Hd (And.intro (HXR.out.1.below hb HXR.out.1.lt) (HXR.out.2.below hb HXR.out.2.lt));clear jN hen hb;rcases (show ((ec == 0)=false∧(ec != 0)=true)∨((ec == 0)=true∧(ec != 0)=false∧(es.toList == note.toList)=false)∨((ec == 0)=true∧(ec != 0)=false∧(es.toList == note.toList)=true) by unfold bne;cases (ec == 0)<;>cases (es.toList == note.toList)<;>simp) with ⟨n1,n2⟩|⟨n1,n2,n3⟩|⟨n1,n2,n3⟩)|(go_at_call 126;refine (note_any e enZ ea enN ((w5.alloc (.cells (enC e ea).toArray 159)).alloc (.cells (enC enZ enN).toArray 159)) (HEW5.out.ew0.below bH.out) (ew_zero _ _) jA.out.1 (And.intro H8 (And.intro (show (0:Int)≤enZ.kind by decide) (show enZ.kind≤4 by decide))).1 jA.out.2.1 jA.out.2.2 (And.intro H8 (And.intro (show (0:Int)≤enZ.kind by decide) (show enZ.kind≤4 by decide))).2.1 (And.intro H8 (And.intro (show (0:Int)≤enZ.kind by decide) (show enZ.kind≤4 by decide))).2.2 (HT.out.after dJ.out.be)).mono ?_;rintro x w9 ⟨rfl,hb⟩;obtain ⟨es,ec,jN,hen⟩:=encV_any (Xd e enZ);rw [jN];have bL:=Hd (dJ.out.next hb);have HN9:=Hd hen;have iG:=Hd (And.intro (bB.out.1.below hb bB.out.1.lt) (bB.out.2.below hb bB.out.2.lt));clear jN hen hb;rcases (show ((ec == 0)=false∧(ec != 0)=true)∨((ec == 0)=true∧(ec != 0)=false∧(es.toList == note.toList)=false)∨((ec == 0)=true∧(ec != 0)=false∧(es.toList == note.toList)=true) by unfold bne;cases (ec == 0)<;>cases (es.toList == note.toList)<;>simp) with ⟨n1,n2⟩|⟨n1,n2,n3⟩|⟨n1,n2,n3⟩))
 ·exact Br (v:=.tuple #[.agg (enC enZ enN).toArray,.agg (enC enZ enN).toArray,.int .i64 11]) (Ux Tryz.results87 rfl rfl rfl (Ut jH.out.b1 jH.out.b2 (by omega) (by simp [enC]) (by simp [enC])).1 (Ut jH.out.b1 jH.out.b2 (by omega) (by simp [enC]) (by simp [enC])).2) rfl (ParG.none (HPE.out b1) (jH.out.end' _ _))
 ·exact Br (v:=.tuple #[.agg (enC enZ enN).toArray,.agg (enC enZ enN).toArray,.int .i64 11]) (Ux Tryz.results87 rfl rfl rfl (Ut bL.out.b1 bL.out.b2 (by omega) (by simp [enC]) (by simp [enC])).1 (Ut bL.out.b1 bL.out.b2 (by omega) (by simp [enC]) (by simp [enC])).2) rfl (ParG.none (HPC.out e c HDQ.out c1) (bL.out.end' _ _))
 ·exact Br (v:=.tuple #[.agg (enC enZ enN).toArray,.agg (enC enZ enN).toArray,.int .i64 11]) (Ux Tryz.results87 rfl rfl rfl (Ut bL.out.b1 bL.out.b2 (by omega) (by simp [enC]) (by simp [enC])).1 (Ut bL.out.b1 bL.out.b2 (by omega) (by simp [enC]) (by simp [enC])).2) rfl (ParG.none (HPC.out e c HDQ.out c1) (bL.out.end' _ _))
 ·exact Br (v:=.tuple #[.agg (enC enZ enN).toArray,.agg (enC enZ enN).toArray,.int .i64 11]) (Ux Tryz.results87 rfl rfl rfl (Ut bL.out.b1 bL.out.b2 (by omega) (by simp [enC]) (by simp [enC])).1 (Ut bL.out.b1 bL.out.b2 (by omega) (by simp [enC]) (by simp [enC])).2) rfl (ParG.none (HPC.out e c HDQ.out c1) (bL.out.end' _ _))
 ·exact Br (v:=.tuple #[.agg (enC enZ enN).toArray,.agg (enC enZ enN).toArray,.int .i64 11]) (Ux Tryz.results87 rfl rfl rfl (Ut bL.out.b1 bL.out.b2 (by omega) (by simp [enC]) (by simp [enC])).1 (Ut bL.out.b1 bL.out.b2 (by omega) (by simp [enC]) (by simp [enC])).2) rfl (ParG.none (HPB.out e enZ c HDQ.out (.inl ⟨q2,rfl⟩) (nn_of HN9.out (.inl n1))) (bL.out.end' _ _))
 ·exact Br (v:=.tuple #[.agg (enC enZ enN).toArray,.agg (enC enZ enN).toArray,.int .i64 11]) (Ux Tryz.results87 rfl rfl rfl (Ut bL.out.b1 bL.out.b2 (by omega) (by simp [enC]) (by simp [enC])).1 (Ut bL.out.b1 bL.out.b2 (by omega) (by simp [enC]) (by simp [enC])).2) rfl (ParG.none (HPB.out e enZ c HDQ.out (.inl ⟨q2,rfl⟩) (nn_of HN9.out (.inr n3))) (bL.out.end' _ _))
 ·have HXd:Hid (Blk w9.drew w5.heap.size 159 (enC e ea).toArray∧Blk w9.drew (w5.heap.size+1) 159 (enC enZ enN).toArray):=Hd ⟨iG.out.1,iG.out.2⟩;have j6:Hid (PB w w9.drew):=Hd (bL.out.next (Bf _ _).drew);have aN:w.heap.size+3≤w5.heap.size:=HP5.out.sz;refine Rw (S:=fun w'=>Blk w' w5.heap.size 159 (enC e ea).toArray∧Blk w' (w5.heap.size+1) 159 (enC enZ enN).toArray) (by kernel_rfl) HXd.out (fun Hh=>?_);refine tk 0 (.agg (enC e ea).toArray) Hh ?_ (y:=by exact yieldsIf_load_mid (by rfl) 159 _ rfl w5.heap.size 0 rfl (enC e ea) _ (fun w' aH j v hv=>by rw [aH.1.cell,Nat.zero_add,Ga];exact hv) Tryz.underlying159 rfl (by kernel_rfl))
  refine tk 1 (.agg (enC enZ enN).toArray) Hh ?_ (y:=by exact yieldsIf_load_mid (by rfl) 159 _ rfl (w5.heap.size+1) 0 rfl ((enC enZ enN)) _ (fun w' aH j v hv=>by rw [aH.2.cell,Nat.zero_add,Ga];exact hv) Tryz.underlying159 rfl (by kernel_rfl));refine Aq [2] ?_;refine Rc (fun K hK=>?_) ?_
  ·refine wp_store_row 159 _ _ rfl w.heap.size ((enC e ea).toArray) rfl rfl 159 _ j6.out.b1 (by kernel_rfl) rfl (Vd _ _) ?_;refine hK.out _ _ ⟨Um Hh.1 (by omega),Um Hh.2 (by omega)⟩ (fun Hh=>?_);clear hK K;try simp only [Act.put]
   refine Aq [3] ?_;refine Rc (fun K hK=>?_) ?_
   ·refine wp_store_row 159 _ _ rfl (w.heap.size+1) ((enC enZ enN).toArray) rfl rfl 159 _ (Um j6.out.b2 (by omega)) (by kernel_rfl) rfl (Vd _ _) ?_;refine hK.out _ _ ⟨Um Hh.1 (by omega),Um Hh.2 (by omega)⟩ (fun Hh=>?_);clear hK K;try simp only [Act.put]
    refine tk 4 (.int .i64 0) Hh ?_;refine Ad (by kernel_rfl) ?_ _;clear Hh;go_wp2;exact Br (v:=.tuple #[.agg (enC e ea).toArray,.agg (enC enZ enN).toArray,.int .i64 0]) (Ux Tryz.results87 rfl rfl rfl (Ut j6.out.b1 j6.out.b2 (by omega) (by simp [enC]) (by simp [enC])).1 (Ut j6.out.b1 j6.out.b2 (by omega) (by simp [enC]) (by simp [enC])).2) rfl (ParG.some (HPO.out e enZ c HDQ.out c1 b1 (.inl ⟨q2,rfl⟩) (ny_of HN9.out n1 n3)) (j6.out.end' _ _))
   exact An
  exact An
 ·exact Br (v:=.tuple #[.agg (enC enZ enN).toArray,.agg (enC enZ enN).toArray,.int .i64 11]) (Ux Tryz.results87 rfl rfl rfl (Ut bL.out.b1 bL.out.b2 (by omega) (by simp [enC]) (by simp [enC])).1 (Ut bL.out.b1 bL.out.b2 (by omega) (by simp [enC]) (by simp [enC])).2) rfl (ParG.none (HPG.out g c3 q2 HGQ.out c1) (bL.out.end' _ _))
 ·exact Br (v:=.tuple #[.agg (enC enZ enN).toArray,.agg (enC enZ enN).toArray,.int .i64 11]) (Ux Tryz.results87 rfl rfl rfl (Ut bL.out.b1 bL.out.b2 (by omega) (by simp [enC]) (by simp [enC])).1 (Ut bL.out.b1 bL.out.b2 (by omega) (by simp [enC]) (by simp [enC])).2) rfl (ParG.none (HPG.out g c3 q2 HGQ.out c1) (bL.out.end' _ _))
 ·exact Br (v:=.tuple #[.agg (enC enZ enN).toArray,.agg (enC enZ enN).toArray,.int .i64 11]) (Ux Tryz.results87 rfl rfl rfl (Ut bL.out.b1 bL.out.b2 (by omega) (by simp [enC]) (by simp [enC])).1 (Ut bL.out.b1 bL.out.b2 (by omega) (by simp [enC]) (by simp [enC])).2) rfl (ParG.none (HPG.out g c3 q2 HGQ.out c1) (bL.out.end' _ _))
 ·exact Br (v:=.tuple #[.agg (enC enZ enN).toArray,.agg (enC enZ enN).toArray,.int .i64 11]) (Ux Tryz.results87 rfl rfl rfl (Ut bL.out.b1 bL.out.b2 (by omega) (by simp [enC]) (by simp [enC])).1 (Ut bL.out.b1 bL.out.b2 (by omega) (by simp [enC]) (by simp [enC])).2) rfl (ParG.none (HPB.out e g c HDQ.out (Gq.of q2 HGQ.out c1) (nn_of HN9.out (.inl n1))) (bL.out.end' _ _))
 ·exact Br (v:=.tuple #[.agg (enC enZ enN).toArray,.agg (enC enZ enN).toArray,.int .i64 11]) (Ux Tryz.results87 rfl rfl rfl (Ut bL.out.b1 bL.out.b2 (by omega) (by simp [enC]) (by simp [enC])).1 (Ut bL.out.b1 bL.out.b2 (by omega) (by simp [enC]) (by simp [enC])).2) rfl (ParG.none (HPB.out e g c HDQ.out (Gq.of q2 HGQ.out c1) (nn_of HN9.out (.inr n3))) (bL.out.end' _ _))
 ·have HXd:Hid (Blk w9.drew w5.heap.size 159 (enC e ea).toArray∧Blk w9.drew (w5.heap.size+1) 159 (enC g gb).toArray):=Hd ⟨iG.out.1,iG.out.2⟩;have j6:Hid (PB w w9.drew):=Hd (bL.out.next (Bf _ _).drew);have aN:w.heap.size+3≤w5.heap.size:=HP5.out.sz;refine Rw (S:=fun w'=>Blk w' w5.heap.size 159 (enC e ea).toArray∧Blk w' (w5.heap.size+1) 159 (enC g gb).toArray) (by kernel_rfl) HXd.out (fun Hh=>?_);refine tk 0 (.agg (enC e ea).toArray) Hh ?_ (y:=by exact yieldsIf_load_mid (by rfl) 159 _ rfl w5.heap.size 0 rfl (enC e ea) _ (fun w' aH j v hv=>by rw [aH.1.cell,Nat.zero_add,Ga];exact hv) Tryz.underlying159 rfl (by kernel_rfl))
  refine tk 1 (.agg (enC g gb).toArray) Hh ?_ (y:=by exact yieldsIf_load_mid (by rfl) 159 _ rfl (w5.heap.size+1) 0 rfl ((enC g gb)) _ (fun w' aH j v hv=>by rw [aH.2.cell,Nat.zero_add,Ga];exact hv) Tryz.underlying159 rfl (by kernel_rfl));refine Aq [2] ?_;refine Rc (fun K hK=>?_) ?_
  ·refine wp_store_row 159 _ _ rfl w.heap.size ((enC e ea).toArray) rfl rfl 159 _ j6.out.b1 (by kernel_rfl) rfl (Vd _ _) ?_;refine hK.out _ _ ⟨Um Hh.1 (by omega),Um Hh.2 (by omega)⟩ (fun Hh=>?_);clear hK K;try simp only [Act.put]
   refine Aq [3] ?_;refine Rc (fun K hK=>?_) ?_
   ·refine wp_store_row 159 _ _ rfl (w.heap.size+1) ((enC g gb).toArray) rfl rfl 159 _ (Um j6.out.b2 (by omega)) (by kernel_rfl) rfl (Vd _ _) ?_;refine hK.out _ _ ⟨Um Hh.1 (by omega),Um Hh.2 (by omega)⟩ (fun Hh=>?_);clear hK K;try simp only [Act.put]
    refine tk 4 (.int .i64 0) Hh ?_;refine Ad (by kernel_rfl) ?_ _;clear Hh;go_wp2;exact Br (v:=.tuple #[.agg (enC e ea).toArray,.agg (enC g gb).toArray,.int .i64 0]) (Ux Tryz.results87 rfl rfl rfl (Ut j6.out.b1 j6.out.b2 (by omega) (by simp [enC]) (by simp [enC])).1 (Ut j6.out.b1 j6.out.b2 (by omega) (by simp [enC]) (by simp [enC])).2) rfl (ParG.some (HPO.out e g c HDQ.out fF.out b1 (Gq.of q2 HGQ.out c1) (ny_of HN9.out n1 n3)) (j6.out.end' _ _))
   exact An
  exact An
end
end Go.Proofs.YtoakknkmjnebjaaGreatDoor
