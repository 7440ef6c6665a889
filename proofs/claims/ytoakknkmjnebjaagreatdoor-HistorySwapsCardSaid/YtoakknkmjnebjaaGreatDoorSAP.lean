/- Of HistorySwaps. -/
import Derived.Test.YtoakknkmjnebjaaGreatDoorSAO
import Derived.Test.YtoakknkmjnebjaaGreatDoorSAN
namespace Go.Proofs.YtoakknkmjnebjaaGreatDoor
open Tryz (prog)
set_option maxRecDepth 100000
set_option maxHeartbeats 4000000
open Go.RowKit
def appK (d:DSet) (l:List Pr) (r:Bz):Bz:=
 if d.org=1 then (Vh d r (behF d (0,[],0) l).1 (behF d (0,[],0) l).2.1 (behF d (0,[],0) l).2.2).1 else Vu ((l.length:Int)+1)
def appE (d:DSet) (l:List Pr) (c:Chg):Int ⊕ List Pr:=
 if G2 d=true then .inl 7 else if Vp d ⟨appK d l c.rcd,c.rcd⟩=true then .inr (l++[⟨appK d l c.rcd,c.rcd⟩]) else .inl 2
theorem app_g (d:DSet) (c:Chg) (A:Option Addr) (cc:Nat) (l:List Pr) (base:Nat) (w:Wd) (hc:Cod w) (hr:c.rcd.size≤maxLen) (aD:w.ownsRow base 76 2 (.slice A l.length cc) l.length (eC l)) (hB:base≤w.heap.size) (hn:l.length≤1024):
  Calls prog 163 #[.agg (dC d).toArray,.slice A l.length cc,.agg (chC c).toArray] w (EffP base (appE d l c) w):=by
 obtain ⟨i0,aU,aW,aK,aR⟩:=info_parts Xe;have HX:Hid (PW d c w ((w.alloc (.cells (dC d).toArray 27)).alloc (.cells (chC c).toArray 58))):=Hd ⟨(Blk.new w _ _).alloc _,U3 (w.alloc (.cells (dC d).toArray 27)) _ _ (w.heap.size+1) (by simp),by simp,((Bf _ _).alloc (Le _) _).alloc (by simp) _⟩;have HD:=Hd fun W=>direct_g d W
 have HO:=Hd fun W (h:Below w.heap.size w W)=>If aD W h
 have bZ:=Hd hB;have HN:=Hd hn;have HS:=Hd fun W (h:Below w.heap.size w W)=>Yk ((l.length:Int)+1) W
 have bG:=Hd fun W (h:Below w.heap.size w W)=>behind_any d A l.length cc l W (sl_own (If aD W h)) (by omega)
 have cK:Hid (∀ (k:Bz) W,Below w.heap.size w W→Calls prog 84 #[.agg (dC d).toArray,.agg #[.string k,.string c.rcd]] W fun e w'=>e = .returned (.bool (Vp d ⟨k,c.rcd⟩))∧Below W.heap.size W w'):=Hd fun k W hb=>J2 d ⟨k,c.rcd⟩ W (hc.after hb) hr
 unfold appE;clear hc hr aD hB hn;have hn1:l.length≤1024:=HN.out;have hwr:IntKind.i64.wrap ((l.length:Int)+1)=(l.length:Int)+1:=by rw [IntKind.wrap_i64];omega
 have iI:Hid (l.length+1≤maxLen):=Hd (by unfold maxLen;omega);have mD:Hid ((l.length+1)*32≤140737488355328):=Hd (by omega);have bD:Hid (∀ W o,Below w.heap.size w W→base≤(World.alloc W o).heap.size):=Hd fun W o h=>by have h1:=h.size;have:=bZ.out;simp;omega
 have HLC:Hid (∀ W,Below w.heap.size w W→base≤W.heap.size):=Hd fun W h=>by have h1:=h.size;have:=bZ.out;omega
 have HONL:Hid (∀ k:Bz,∀ u∈[Value.string k,.string c.rcd],u.oneCell'=true):=Hd fun k=>by simp [Value.oneCell']
 by_cases hd:G2 d=true
 ·rw [if_pos hd];have HDD:=Hd hd;go_enter Tryz.func163,Tryz.ntmps163;go_wp2_with (first|((with_reducible refine Gl 27 3 ?_);refine Lq 27 w.heap.size (dC d).toArray HX.out.b1 Tryz.underlying27 ?_)|(go_at_call 157;refine (HD.out _).mono ?_;rintro e w2 ⟨rfl,hb⟩;have aM:=Hd (Uo HX.out hb);rw [hd];clear hb))
  go_ret2
  exact ⟨rfl,aM.out.be.mono bZ.out⟩
 rw [if_neg hd];have hd':G2 d=false:=by simpa using hd
 clear hd;obtain ⟨k,hk⟩:∃ k,appK d l c.rcd=k:=⟨_,rfl⟩
 have HK:=Hd hk;rw [hk];unfold appK at hk;obtain ⟨R,hR⟩:∃ R,(if Vp d ⟨k,c.rcd⟩=true then Sum.inr (l++[⟨k,c.rcd⟩]) else Sum.inl 2:Int ⊕ List Pr)=R:=⟨_,rfl⟩
 rw [hR];have aT:=Hd hR;clear hR;by_cases ho:d.org=1
 ·have ho':(d.org == 1)=true:=by simpa using ho
  rw [if_pos ho] at hk;have HK1:=Hd hk;clear hk ho HK;go_enter Tryz.func163,Tryz.ntmps163;go_wp2_with (first|((with_reducible refine Gl 27 3 ?_);refine Lq 27 w.heap.size (dC d).toArray HX.out.b1 Tryz.underlying27 ?_)|(go_at_call 157;refine (HD.out _).mono ?_;rintro e w2 ⟨rfl,hb⟩;have aM:=Hd (Uo HX.out hb);rw [hd'];clear hb)|(go_at_call 85;refine (HS.out _ aM.out.be).mono ?_;rintro e w3 ⟨rfl,hb⟩;have aP:=Hd (Uo aM.out hb);have c1:=pw_org aP.out;have c3:=pw_3 aP.out;clear hb));have HX3d:Hid (PW d c w w3.drew):=Hd (Uo aP.out (Bf _ _).drew);clear c1 c3;refine Rw (S:=fun w'=>PW d c w w') (by kernel_rfl) HX3d.out (fun Hh=>?_)
  refine tk 0 (.agg (dC d).toArray) Hh ?_ (y:=by exact yieldsIf_load_mid (by rfl) 27 _ rfl w.heap.size 0 rfl (dC d) _ (fun w' aH j v hv=>by rw [aH.b1.cell,Nat.zero_add,Ga];exact hv) Tryz.underlying27 rfl (by kernel_rfl));refine tk 1 (.slice A l.length cc) Hh ?_;refine tk 3 (.agg (dC d).toArray) Hh ?_ (y:=by exact yieldsIf_load_mid (by rfl) 27 _ rfl w.heap.size 0 rfl (dC d) _ (fun w' aH j v hv=>by rw [aH.b1.cell,Nat.zero_add,Ga];exact hv) Tryz.underlying27 rfl (by kernel_rfl));refine tk 4 (.pointer (some ⟨w.heap.size+1,3,none⟩)) Hh ?_;refine tj 5 (.string c.rcd) Hh ?_ (y:=by intro w' aH;have h1:=pw_3 aH;go_simp);refine Aq [2] ?_;refine Rc (fun K hK=>?_) ?_
  ·go_simp;refine (bG.out _ HX3d.out.be).mono ?_;rintro e w4 ⟨y,rfl,hy,bP,hyn,gV,hb⟩;simp only [];have aX:=Hd (Uo HX3d.out hb);have HY:=Hd hy;have jG:=Hd hyn;have cG:=Hd bP;refine hK.out _ _ (Uo Hh hb) (fun Hh=>?_);clear hK K hb hy bP hyn gV;try simp only [Act.put,Sv,Sz,Sw]
   refine Aq [6] ?_;refine Rc (fun K hK=>?_) ?_
   ·go_simp;refine (next_e d c.rcd y _ cG.out (by have:=jG.out;have:=HN.out;omega)).mono ?_;rintro e w5 ⟨z,rfl,_,_,_,hb⟩;simp only [];have bA:=Hd (Uo aX.out hb);have eS:(Vh d c.rcd y.ci y.rs y.sp).1=k:=by have h1:=HK1.out;rw [←HY.out] at h1;exact h1
    rw [eS];refine hK.out _ _ (Uo Hh hb) (fun Hh=>?_);clear hK K hb jG cG;try simp only [Act.put,Sv,Sz,Sw]
    refine tk 7 (.tuple #[.string k,.agg (edC z).toArray]) Hh ?_;refine tk 8 (.string k) Hh ?_;refine tk 9 (.agg (edC z).toArray) Hh ?_;refine tk 10 (.string k) Hh ?_;refine Ad (by kernel_rfl) ?_ _;clear Hh eS HK1 HY;have HBn:=Hd fun old=>Blk.new w5 76 old
    have HSn:=Hd fun old=>U1 w5 old #[.string k,.string c.rcd] 76
    have fT:Hid ((#[.string k,.string c.rcd]:Array Value).all (·.oneCell')=true):=Hd (by simp [Value.oneCell']);have jO:Hid (PW d c w (w5.alloc (.cells #[.string k,.string c.rcd] 76))):=Hd (Uo bA.out ((Bf _ _).alloc (Le _) _));have i8:Hid (Blk (w5.alloc (.cells #[.string k,.string c.rcd] 76)) w5.heap.size 76 #[.string k,.string c.rcd]):=Hd (Blk.new _ _ _);have c3:=pw_3 bA.out;have cF:Hid (∀ X,Rd (World.alloc X (.cells #[.string k,.string c.rcd] 76)) (X.heap.size+1) 2 (some ⟨X.heap.size,0,none⟩) 1 [.string k,.string c.rcd]):=Hd fun X=>Vw X [.string k,.string c.rcd] 76 1 2 rfl
    cases bU:Vp d ⟨k,c.rcd⟩ with
    |false=>
     have hq:R = .inl 2:=by rw [←aT.out,bU];rfl
     subst hq;go_wp2_with (first|((with_reducible refine Gl 27 3 ?_);refine Lq 27 w.heap.size (dC d).toArray jO.out.b1 Tryz.underlying27 ?_)|((with_reducible refine Gl 76 9 ?_);refine Lq 76 w5.heap.size ([.string k,.string c.rcd]).toArray (by first|exact HBb.out|exact i8.out) Tryz.underlying76 ?_)|(go_at_call 84;refine (cK.out k _ jO.out.be).mono ?_;rw [bU];rintro e w6 ⟨rfl,hb⟩;have bB:=Hd (Uo jO.out hb);have HBb:=Hd (i8.out.below hb i8.out.lt);clear hb c3))
     go_ret2
     exact ⟨rfl,bB.out.be.mono bZ.out⟩
    |true=>
     have hq:R = .inr (l++[⟨k,c.rcd⟩]):=by rw [←aT.out,bU];rfl
     subst hq
     go_wp2_with (first|((with_reducible refine Gl 27 3 ?_);refine Lq 27 w.heap.size (dC d).toArray jO.out.b1 Tryz.underlying27 ?_)|((with_reducible refine Gl 76 9 ?_);refine Lq 76 w5.heap.size ([.string k,.string c.rcd]).toArray (by first|exact HBb.out|exact i8.out) Tryz.underlying76 ?_)|(go_at_call 84;refine (cK.out k _ jO.out.be).mono ?_;rw [bU];rintro e w6 ⟨rfl,hb⟩;have bB:=Hd (Uo jO.out hb);have HBb:=Hd (i8.out.below hb i8.out.lt);clear hb c3)|(at_builtin;go_must (refine U5 _ rfl _ _ 28 rfl base 76 i0 _ 2 32 Tryz.underlying28 aU aW aK aR rfl (by decide) (.slice A l.length cc) l.length (eC l) rfl ((HO.out _ bB.out.be).alloc _) (w6.heap.size+1) (some ⟨w6.heap.size,0,none⟩) 1 1 [.string k,.string c.rcd] rfl (cF.out w6) (HONL.out k) iI.out mD.out (bD.out _ _ bB.out.be) ?_;intro v' w7 aD aO _;obtain ⟨A',c',rfl,_⟩:=Ue aD;have aS:=Hd aD;have bQ:=Hd aO;clear aD aO)))
     go_ret2
     exact ⟨A',c',by rw [List.length_append];rfl,by rw [List.length_append];unfold eC;rw [Vb,Va];exact aS.out,((bB.out.be.mono bZ.out).alloc (HLC.out _ bB.out.be) _).grown bQ.out (bD.out _ _ bB.out.be) (X6 (HO.out _ bB.out.be) (Le _))⟩
   exact An
  exact An
 ·have ho':(d.org == 1)=false:=by simpa using ho
  rw [if_neg ho] at hk;clear HK ho;subst hk;generalize Vu ((l.length:Int)+1)=k at HS aT;go_enter Tryz.func163,Tryz.ntmps163;have cF:Hid (∀ X,Rd (World.alloc X (.cells #[.string k,.string c.rcd] 76)) (X.heap.size+1) 2 (some ⟨X.heap.size,0,none⟩) 1 [.string k,.string c.rcd]):=Hd fun X=>Vw X [.string k,.string c.rcd] 76 1 2 rfl
  cases bU:Vp d ⟨k,c.rcd⟩ with
  |false=>
   have hq:R = .inl 2:=by rw [←aT.out,bU];rfl
   subst hq
   go_wp2_with (first|((with_reducible refine Gl 27 3 ?_);refine Lq 27 w.heap.size (dC d).toArray (by first|exact jO.out.b1|exact HX.out.b1) Tryz.underlying27 ?_)|((with_reducible refine Gl 76 9 ?_);refine Lq 76 w3.heap.size ([.string k,.string c.rcd]).toArray (by first|exact HBb.out|exact i8.out) Tryz.underlying76 ?_)|(go_at_call 84;refine (cK.out k _ jO.out.be).mono ?_;rw [bU];rintro e w6 ⟨rfl,hb⟩;have bB:=Hd (Uo jO.out hb);have HBb:=Hd (i8.out.below hb i8.out.lt);clear hb c3 c1)|(go_at_call 157;refine (HD.out _).mono ?_;rintro e w2 ⟨rfl,hb⟩;have aM:=Hd (Uo HX.out hb);rw [hd'];clear hb)|(go_at_call 85;refine (HS.out _ aM.out.be).mono ?_;rintro e w3 ⟨rfl,hb⟩;have aP:=Hd (Uo aM.out hb);have c1:=pw_org aP.out;have c3:=pw_3 aP.out;have HBn:=Hd fun old=>Blk.new w3 76 old;have HSn:=Hd fun old=>U1 w3 old #[.string k,.string c.rcd] 76;have fT:Hid ((#[.string k,.string c.rcd]:Array Value).all (·.oneCell')=true):=Hd (by simp [Value.oneCell']);have jO:Hid (PW d c w (w3.alloc (.cells #[.string k,.string c.rcd] 76))):=Hd (Uo aP.out ((Bf _ _).alloc (Le _) _));have i8:Hid (Blk (w3.alloc (.cells #[.string k,.string c.rcd] 76)) w3.heap.size 76 #[.string k,.string c.rcd]):=Hd (Blk.new _ _ _);clear hb))
   go_ret2
   exact ⟨rfl,bB.out.be.mono bZ.out⟩
  |true=>
   have hq:R = .inr (l++[⟨k,c.rcd⟩]):=by rw [←aT.out,bU];rfl
   subst hq
   go_wp2_with (first|((with_reducible refine Gl 27 3 ?_);refine Lq 27 w.heap.size (dC d).toArray (by first|exact jO.out.b1|exact HX.out.b1) Tryz.underlying27 ?_)|((with_reducible refine Gl 76 9 ?_);refine Lq 76 w3.heap.size ([.string k,.string c.rcd]).toArray (by first|exact HBb.out|exact i8.out) Tryz.underlying76 ?_)|(go_at_call 84;refine (cK.out k _ jO.out.be).mono ?_;rw [bU];rintro e w6 ⟨rfl,hb⟩;have bB:=Hd (Uo jO.out hb);have HBb:=Hd (i8.out.below hb i8.out.lt);clear hb c3 c1)|(go_at_call 157;refine (HD.out _).mono ?_;rintro e w2 ⟨rfl,hb⟩;have aM:=Hd (Uo HX.out hb);rw [hd'];clear hb)|(go_at_call 85;refine (HS.out _ aM.out.be).mono ?_;rintro e w3 ⟨rfl,hb⟩;have aP:=Hd (Uo aM.out hb);have c1:=pw_org aP.out;have c3:=pw_3 aP.out;have HBn:=Hd fun old=>Blk.new w3 76 old;have HSn:=Hd fun old=>U1 w3 old #[.string k,.string c.rcd] 76;have fT:Hid ((#[.string k,.string c.rcd]:Array Value).all (·.oneCell')=true):=Hd (by simp [Value.oneCell']);have jO:Hid (PW d c w (w3.alloc (.cells #[.string k,.string c.rcd] 76))):=Hd (Uo aP.out ((Bf _ _).alloc (Le _) _));have i8:Hid (Blk (w3.alloc (.cells #[.string k,.string c.rcd] 76)) w3.heap.size 76 #[.string k,.string c.rcd]):=Hd (Blk.new _ _ _);clear hb)|(at_builtin;go_must (refine U5 _ rfl _ _ 28 rfl base 76 i0 _ 2 32 Tryz.underlying28 aU aW aK aR rfl (by decide) (.slice A l.length cc) l.length (eC l) rfl ((HO.out _ bB.out.be).alloc _) (w6.heap.size+1) (some ⟨w6.heap.size,0,none⟩) 1 1 [.string k,.string c.rcd] rfl (cF.out w6) (HONL.out k) iI.out mD.out (bD.out _ _ bB.out.be) ?_;intro v' w7 aD aO _;obtain ⟨A',c',rfl,_⟩:=Ue aD;have aS:=Hd aD;have bQ:=Hd aO;clear aD aO)))
   go_ret2
   exact ⟨A',c',by rw [List.length_append];rfl,by rw [List.length_append];unfold eC;rw [Vb,Va];exact aS.out,((bB.out.be.mono bZ.out).alloc (HLC.out _ bB.out.be) _).grown bQ.out (bD.out _ _ bB.out.be) (X6 (HO.out _ bB.out.be) (Le _))⟩
def Ew (d:DSet) (l:List Pr) (c:Chg):Int ⊕ List Pr:=
 if c.kind=0 then putE (G2 d) (Vp d ⟨c.key,c.rcd⟩) l c
 else if c.kind=1 then eraE (G2 d) (possB d c.key) l c
 else if c.kind=2 then appE d l c
 else if c.kind=3 then .inr []
 else .inr l
def doP (x:PC) (n:Int) (c:Chg):Int ⊕ PC:=
 if ¬ (c.id=x.d.id)∨n≤x.ap then .inr x
 else match Ew x.d x.ps c with
  |.inl e=>.inl e
  |.inr l=>if 1024<l.length then .inl 8 else .inr ⟨x.d,n,l⟩
def doF (x:PC) (n:Int) (c:Chg):Int ⊕ PC:=
 if In x.d x.ap x.ps&&chB c.kind c.id c.key c.rcd c.vol&&decide (1≤n)&&decide (n≤1099511627776) then doP x n c else .inl 1
theorem Iu (d:DSet) (l:List Pr) (c:Chg) (e:Int) (h:Ew d l c = .inl e):e≠0:=by
 unfold Ew putE eraE appE at h
 repeat' split at h
 all_goals first
  |(injection h with h;omega)
  |cases h
theorem doF_err (x:PC) (n:Int) (c:Chg) (e:Int) (h:doF x n c = .inl e):e≠0:=by
 unfold doF doP at h;split at h
 ·split at h
  ·cases h
  ·split at h
   ·rename_i e' he;injection h with h
    subst h;exact Iu _ _ _ _ he
   ·split at h
    ·injection h with h;omega
    ·cases h
 ·injection h with h;omega
theorem ef_none (k:Int) (h:k<0∨3<k):Instr.findNow (.int .i64) (.int .i64 k) ef4.toList 0=some none:=by
 have hs:=MapKept.findNow_spec (d:=.int .i64) (k:=.int .i64 k) (by simp [MapKept.IsKey]) ef4.toList 0 (by simp [ef4,ef3,ef2,ef1,MapKept.IsKey]);rcases hs with ⟨h1,_⟩|⟨j,e,_,h2,h3⟩
 ·exact h1
 ·exfalso;have hm:=List.mem_of_getElem? h2;simp [ef4,ef3,ef2,ef1] at hm;rcases hm with rfl|rfl|rfl|rfl<;>(simp at h3;omega)
def efV (k:Int):Value:=if k=0 then .func (.func 156) #[] #[] else if k=1 then .func (.func 160) #[] #[] else if k=2 then .func (.func 163) #[] #[] else .func (.func 165) #[] #[]
theorem ef_some (k:Int) (h0:0≤k) (h3:k≤3):∃ i,Instr.findNow (.int .i64) (.int .i64 k) ef4.toList 0=some (some (i,efV k)):=by
 have:k=0∨k=1∨k=2∨k=3:=by omega
 rcases this with rfl|rfl|rfl|rfl
 ·exact ⟨0,rfl⟩
 ·exact ⟨1,rfl⟩
 ·exact ⟨2,rfl⟩
 ·exact ⟨3,rfl⟩
theorem efLook_some (w:Wd) (b:Nat) (k:Int) (hb:w.heap[b]? =some (.map ef4 4)) (h0:0≤k) (h3:k≤3):
  (Instr.lookup 201 (.map (some b)) (.int .i64 k) true).run prog w = .ok (.tuple #[efV k,.bool true]) w:=by
 obtain ⟨i,hf⟩:=ef_some k h0 h3;have hc:(Instr.checkKey ef4.isEmpty 10000 3 (.int .i64 k)).run prog w = .ok () w:=MapKept.run_checkKey (k:=.int .i64 k) Tryz.underlying3 (by simp [MapKept.IsKey]) _ 9999;simp [Instr.lookup,run_underlying Tryz.underlying201,MapKept.run_getObj_map hb,hc,MapKept.run_findKey Tryz.underlying3 hf]
theorem efLook_none (w:Wd) (b:Nat) (k:Int) (hb:w.heap[b]? =some (.map ef4 4)) (h:k<0∨3<k):
  (Instr.lookup 201 (.map (some b)) (.int .i64 k) true).run prog w = .ok (.tuple #[.nilFunc,.bool false]) w:=by
 have hf:=ef_none k h;have hc:(Instr.checkKey ef4.isEmpty 10000 3 (.int .i64 k)).run prog w = .ok () w:=MapKept.run_checkKey (k:=.int .i64 k) Tryz.underlying3 (by simp [MapKept.IsKey]) _ 9999;simp [Instr.lookup,run_underlying Tryz.underlying201,MapKept.run_getObj_map hb,hc,MapKept.run_findKey Tryz.underlying3 hf]
structure DW (x:Cnt) (n:Int) (c:Chg) (w W:Wd):Prop where
 b1:Blk W w.heap.size 30 (cnC x).toArray
 b2:Blk W (w.heap.size+1) 127 (nbC n c).toArray
 b3:Blk W (w.heap.size+2) 30 zV.toArray
 sz:w.heap.size+3≤W.heap.size
 be:Below w.heap.size w W
theorem V1 {x:Cnt} {n:Int} {c:Chg} {w W W':Wd} (h:DW x n c w W) (hb:Below W.heap.size W W'):DW x n c w W':=
 ⟨h.b1.below hb h.b1.lt,h.b2.below hb h.b2.lt,h.b3.below hb h.b3.lt,Lx h.sz hb.size,U0 h.be hb h.be.size⟩
theorem dw_new (x:Cnt) (n:Int) (c:Chg) (w:Wd):DW x n c w (((w.alloc (.cells (cnC x).toArray 30)).alloc (.cells (nbC n c).toArray 127)).alloc (.cells zV.toArray 30)):=
 ⟨((Blk.new w _ _).alloc _).alloc _,(U3 (w.alloc _) _ _ _ (by simp)).alloc _,U3 ((w.alloc _).alloc _) _ _ _ (by simp),by simp,(((Bf _ _).alloc (Le _) _).alloc (by simp) _).alloc (by simp;omega) _⟩
theorem do_same (x:Cnt) (n:Int) (c:Chg) (w:Wd) (h:¬ (c.id=x.d.id)∨n≤x.ap):
  Calls prog 88 #[.agg (cnC x).toArray,.agg (nbC n c).toArray] w fun e w'=>e = .returned (.tuple #[.agg (cnC x).toArray,.int .i64 0])∧Below w.heap.size w w':=by
 have HX:=Hd (dw_new x n c w);have n0:=(HX.out.b2.cell 0).trans (show _=some (Value.int .i64 n) from rfl);have n2:=(HX.out.b2.cell 2).trans (show _=some (Value.int .i64 c.id) from rfl);have c0:=(HX.out.b1.cell 0).trans (show _=some (Value.int .i64 x.d.id) from rfl);have c21:=(HX.out.b1.cell 21).trans (show _=some (Value.int .i64 x.ap) from rfl);have fT:=Hd (Vz x);unfold zV at n0 n2 c0 c21;by_cases hi:c.id=x.d.id
 ·have h2:n≤x.ap:=h.resolve_left (fun q=>q hi);have e1:(c.id != x.d.id)=false:=by simpa using hi
  have e2:decide (n≤x.ap)=true:=decide_eq_true h2;clear h hi;go_enter Tryz.func88,Tryz.ntmps88;go_wp2_with (first|((with_reducible refine Gl 30 2 ?_);refine Lq 30 w.heap.size (cnC x).toArray HX.out.b1 Tryz.underlying30 ?_)|((with_reducible refine Gt 30 4 ?_);refine Lv 30 (w.heap.size+2) (cnC x).toArray HX.out.b3 fT.out ?_));have hr:=Uw (((((w.alloc (.cells (cnC x).toArray 30)).alloc (.cells (nbC n c).toArray 127)).alloc (.cells zV.toArray 30))).setRow (w.heap.size+2) (cnC x).toArray) (w.heap.size+2) (cnC x).toArray (setRow_heap _ _ _ _ _ _ HX.out.b3) rfl;exact Br (v:=.tuple #[.agg (cnC x).toArray,.int .i64 0]) (U4 Tryz.results88 rfl rfl hr) rfl ⟨rfl,U6 HX.out.be (by omega) _⟩
 ·have e1:(c.id != x.d.id)=true:=by simpa using hi
  clear h hi;go_enter Tryz.func88,Tryz.ntmps88;go_wp2_with (first|((with_reducible refine Gl 30 2 ?_);refine Lq 30 w.heap.size (cnC x).toArray HX.out.b1 Tryz.underlying30 ?_)|((with_reducible refine Gt 30 4 ?_);refine Lv 30 (w.heap.size+2) (cnC x).toArray HX.out.b3 fT.out ?_));have hr:=Uw (((((w.alloc (.cells (cnC x).toArray 30)).alloc (.cells (nbC n c).toArray 127)).alloc (.cells zV.toArray 30))).setRow (w.heap.size+2) (cnC x).toArray) (w.heap.size+2) (cnC x).toArray (setRow_heap _ _ _ _ _ _ HX.out.b3) rfl;exact Br (v:=.tuple #[.agg (cnC x).toArray,.int .i64 0]) (U4 Tryz.results88 rfl rfl hr) rfl ⟨rfl,U6 HX.out.be (by omega) _⟩
def DoE (R:Int ⊕ List Pr) (x:Cnt) (n:Int) (w:Wd) (e:Ending) (w':Wd):Prop:=match R with
 |.inl er=>e = .returned (.tuple #[.agg zV.toArray,.int .i64 er])∧Below w.heap.size w w'
 |.inr l=>(1024<l.length∧e = .returned (.tuple #[.agg zV.toArray,.int .i64 8])∧Below w.heap.size w w')∨∃ A cc,l.length≤1024∧e = .returned (.tuple #[.agg (cnC ⟨x.d,n,A,l.length,cc,l⟩).toArray,.int .i64 0])∧CW w' ⟨x.d,n,A,l.length,cc,l⟩∧(∀ a,A=some a→w.heap.size≤a.block)∧Below w.heap.size w w'
theorem dw_base {B:Nat} {x:Cnt} {n:Int} {c:Chg} {w W W':Wd} (h:DW x n c w W) (hb:Below B W W') (hB:w.heap.size+3≤B):DW x n c w W':=
 ⟨h.b1.below hb (by omega),h.b2.below hb (by omega),h.b3.below hb (by omega),Lx h.sz hb.size,h.be.trans (hb.mono (by omega))⟩
theorem dw_r1 {x:Cnt} {n:Int} {c:Chg} {w W:Wd} (h:DW x n c w W):W.rangeAt w.heap.size 0 (dC x.d):=h.b1.range 0 _ fun _ _ hv=>app_at hv
theorem nb_at {n:Int} {c:Chg} {j:Nat} {v:Value} (h:(chC c)[j]? =some v):(nbC n c).toArray[1+j]? =some v:=by
 rw [Ga,Nat.add_comm];exact h
theorem Gp {x:Cnt} {n:Int} {c:Chg} {w W:Wd} (h:DW x n c w W):W.rangeAt (w.heap.size+1) 1 (chC c):=h.b2.range 1 _ fun _ _ hv=>nb_at hv
theorem do_eff (x:Cnt) (n:Int) (c:Chg) (w:Wd) (fn:Nat) (R:Int ⊕ List Pr) (hx:CW w x) (hi:c.id=x.d.id) (hn:x.ap<n) (k0:0≤c.kind) (k3:c.kind≤3) (hfn:efV c.kind = .func (.func fn) #[] #[])
  (hR0:∀ er,R = .inl er→er≠0) (hRZ:∀ l,R = .inr l→∀ q∈l,q.rcd.size≤maxLen)
  (kT:∀ args W,(callFunc fn args).run prog W = .ok (.enter fn args) W)
  (hE:∀ W A cc base,Below w.heap.size w W→W.ownsRow base 76 2 (.slice A x.pn cc) x.pn (eC x.ps)→base≤W.heap.size→Calls prog fn #[.agg (dC x.d).toArray,.slice A x.pn cc,.agg (chC c).toArray] W (EffP base R W)):
  Calls prog 88 #[.agg (cnC x).toArray,.agg (nbC n c).toArray] w (DoE R x n w):=by
 have HX:=Hd (dw_new x n c w);have n0:=(HX.out.b2.cell 0).trans (show _=some (Value.int .i64 n) from rfl);have n2:=(HX.out.b2.cell 2).trans (show _=some (Value.int .i64 c.id) from rfl);have c0:=(HX.out.b1.cell 0).trans (show _=some (Value.int .i64 x.d.id) from rfl);have c21:=(HX.out.b1.cell 21).trans (show _=some (Value.int .i64 x.ap) from rfl);have c22:=(HX.out.b1.cell 22).trans (show _=some (Value.slice x.pA x.pn x.pc) from rfl);have fG:Hid (∀ W,Below w.heap.size w W→Calls prog 24 #[.slice x.pA x.pn x.pc] W fun e w' => ∃ v,e = .returned v∧w'.ownsRow W.heap.size 76 2 v x.pn (Ub prC x.ps)∧Below W.heap.size W w'):=Hd fun W hb=>Kg x.pA x.pn x.pc x.ps W (hx.sl.after hb hb.size) (by have:=hx.le;omega)
 have HLK:Hid (∀ W b,W.heap[b]? =some (.map ef4 4)→(Instr.lookup 201 (.map (some b)) (.int .i64 c.kind) true).run prog W = .ok (.tuple #[.func (.func fn) #[] #[],.bool true]) W):=Hd fun W b hb=>by rw [←hfn];exact efLook_some W b c.kind hb k0 k3
 have HRZL:=Hd hRZ;have HEF:=Hd hE;have gU:=Hd kT;have gL:=Hd hR0;have e1:(c.id != x.d.id)=false:=by simpa using hi
 have e2:decide (n≤x.ap)=false:=decide_eq_false (by omega);unfold zV at n0 n2 c0 c21 c22;clear hx hi hn k0 k3 hfn kT hE hR0 hRZ;go_enter Tryz.func88,Tryz.ntmps88;go_wp2_with (first|(go_at_call 24;refine (fG.out _ HX.out.be).mono ?_;rintro e w2 ⟨v,rfl,aD,hb⟩;have aM:=Hd (V1 HX.out hb);obtain ⟨A2,cc2,rfl,_⟩:=Ue aD;have fW:=Hd aD;clear aD hb n0 n2 c0 c21 c22)|fail);have HX2d:Hid (DW x n c w w2.drew):=Hd (V1 aM.out (Bf _ _).drew);refine Rw (S:=fun w'=>DW x n c w w') (by kernel_rfl) HX2d.out (fun Hh=>?_);refine tk 1 (.pointer (some ⟨w.heap.size+1,1,none⟩)) Hh ?_;refine tk 2 (.pointer (some ⟨w.heap.size+1,1,none⟩)) Hh ?_;refine tj 3 (.int .i64 c.kind) Hh ?_ (y:=by intro w' aH;have h1:=(aH.b2.cell 1).trans (show _=some (Value.int .i64 c.kind) from rfl);go_simp);refine Aq [0] ?_
 refine Rc (fun K hK=>?_) ?_
 ·go_simp;refine (It _).mono ?_;rintro e w3 ⟨rfl,rfl⟩;simp only [];have hb:=Ev w2.drew;have aP:=Hd (V1 HX2d.out hb);refine hK.out _ _ (V1 Hh hb) (fun Hh=>?_);clear hK K hb;try simp only [Act.put,Sv,Sz,Sw]
  refine Aq [4] ?_;refine Rc (fun K hK=>?_) ?_
  ·go_simp;have hl:=HLK.out (w2.drew.alloc (.map ef4 4)) w2.heap.size (heap_alloc_new w2.drew _);have gT:=HLK.out ((w2.alloc (.map ef4 4)).drew) w2.heap.size (heap_alloc_new w2 _);go_simp;refine hK.out _ _ Hh (fun Hh=>?_);clear hK K hl gT;try simp only [Act.put,Sv,Sz,Sw]
   refine tk 5 (.tuple #[.func (.func fn) #[] #[],.bool true]) Hh ?_;refine tk 6 (.func (.func fn) #[] #[]) Hh ?_;refine tk 7 (.bool true) Hh ?_;refine tk 8 (.func (.func fn) #[] #[]) Hh ?_;refine tk 9 (.bool true) Hh ?_;refine Ad (by kernel_rfl) ?_ _;clear Hh;have aX:Hid (DW x n c w (w2.alloc (.map ef4 4)).drew):=Hd aP.out;have HBZ:Hid ((((w.alloc (.cells (cnC x).toArray 30)).alloc (.cells (nbC n c).toArray 127)).alloc (.cells zV.toArray 30)).heap.size=w.heap.size+3):=Hd (by simp);have jA:=Hd (HEF.out (w2.alloc (.map ef4 4)).drew A2 cc2 _ aX.out.be (fW.out.alloc _) (by rw [HBZ.out];exact aX.out.sz));have kT:=gU.out;rw [HBZ.out] at jA;cases R with
   |inl er=>
    have aZ:=gL.out er rfl;have e3:(er != 0)=true:=by simpa using aZ
    clear aZ;go_wp2_with (first|((with_reducible refine Gl 27 39 ?_);refine Ln 27 w.heap.size (0) (dC x.d) (dw_r1 aX.out) Tryz.underlying27 ?_)|((with_reducible refine Gl 58 42 ?_);refine Ln 58 (w.heap.size+1) (1) (chC c) (Gp aX.out) Tryz.underlying58 ?_)|((with_reducible show Calls _ _ _ _ _);refine jA.out.mono ?_;rintro e w5 ⟨rfl,hb⟩;have bA:=Hd (dw_base aX.out hb (Le _));clear hb)|((with_reducible refine Gb 30 ?_);refine U2 (by kernel_rfl) 30 _ rfl zV.toArray (by kernel_rfl) ?_)|((with_reducible refine Gt 30 4 ?_);refine Lv 30 (w.heap.size+2) zV.toArray bA.out.b3 (by simp [zV,Value.oneCell']) ?_))
    have hr:=Uw (w5.setRow (w.heap.size+2) zV.toArray) (w.heap.size+2) zV.toArray (setRow_heap _ _ _ _ _ _ bA.out.b3) rfl;exact Br (v:=.tuple #[.agg zV.toArray,.int .i64 er]) (U4 Tryz.results88 rfl rfl hr) rfl ⟨rfl,U6 bA.out.be (by omega) _⟩
   |inr l=>
    by_cases hlen:1024<l.length
    ·have e4:decide ((1024:Int)<(l.length:Int))=true:=decide_eq_true (by omega);have fH:=Hd hlen;clear hlen
     go_wp2_with (first|((with_reducible refine Gl 27 39 ?_);refine Ln 27 w.heap.size (0) (dC x.d) (dw_r1 aX.out) Tryz.underlying27 ?_)|((with_reducible refine Gl 58 42 ?_);refine Ln 58 (w.heap.size+1) (1) (chC c) (Gp aX.out) Tryz.underlying58 ?_)|((with_reducible show Calls _ _ _ _ _);refine jA.out.mono ?_;rintro e w5 ⟨A5,cc5,rfl,aD,hb⟩;have bA:=Hd (dw_base aX.out hb (Le _));have HO5:=Hd aD;have n05:=(bA.out.b2.cell 0).trans (show _=some (Value.int .i64 n) from rfl);clear hb aD)|((with_reducible refine Gb 30 ?_);refine U2 (by kernel_rfl) 30 _ rfl zV.toArray (by kernel_rfl) ?_)|((with_reducible refine Gt 30 4 ?_);refine Lv 30 (w.heap.size+2) zV.toArray bA.out.b3 (by simp [zV,Value.oneCell']) ?_))
     have hr:=Uw (w5.setRow (w.heap.size+2) zV.toArray) (w.heap.size+2) zV.toArray (setRow_heap _ _ _ _ _ _ bA.out.b3) rfl;exact Br (v:=.tuple #[.agg zV.toArray,.int .i64 8]) (U4 Tryz.results88 rfl rfl hr) rfl (.inl ⟨fH.out,rfl,U6 bA.out.be (by omega) _⟩)
    ·have e4:decide ((1024:Int)<(l.length:Int))=false:=decide_eq_false (by omega);have fH:Hid (l.length≤1024):=Hd (by omega);clear hlen
     go_wp2_with (first|((with_reducible refine Gl 27 39 ?_);refine Ln 27 w.heap.size (0) (dC x.d) (dw_r1 aX.out) Tryz.underlying27 ?_)|((with_reducible refine Gl 58 42 ?_);refine Ln 58 (w.heap.size+1) (1) (chC c) (Gp aX.out) Tryz.underlying58 ?_)|((with_reducible show Calls _ _ _ _ _);refine jA.out.mono ?_;rintro e w5 ⟨A5,cc5,rfl,aD,hb⟩;have bA:=Hd (dw_base aX.out hb (Le _));have HO5:=Hd aD;have n05:=(bA.out.b2.cell 0).trans (show _=some (Value.int .i64 n) from rfl);clear hb aD)|((with_reducible refine Gl 27 55 ?_);refine Ln 27 w.heap.size (0) (dC x.d) (dw_r1 bA.out) Tryz.underlying27 ?_)|((with_reducible refine Gb 30 ?_);refine U2 (by kernel_rfl) 30 _ rfl (cnC ⟨x.d,n,A5,l.length,cc5,l⟩).toArray (by kernel_rfl) ?_)|((with_reducible refine Gt 30 4 ?_);refine Lv 30 (w.heap.size+2) (cnC ⟨x.d,n,A5,l.length,cc5,l⟩).toArray bA.out.b3 (Vz _) ?_))
     have hr:=Uw (w5.setRow (w.heap.size+2) (cnC ⟨x.d,n,A5,l.length,cc5,l⟩).toArray) (w.heap.size+2) (cnC ⟨x.d,n,A5,l.length,cc5,l⟩).toArray (setRow_heap _ _ _ _ _ _ bA.out.b3) rfl;have dO:CW (w5.setRow (w.heap.size+2) (cnC ⟨x.d,n,A5,l.length,cc5,l⟩).toArray) ⟨x.d,n,A5,l.length,cc5,l⟩:=⟨Xy (sl_own HO5.out) _ _ (fun a ha=>by subst ha;have:=(HO5.out.lt _ rfl).1;omega),fH.out,fun h=>by subst h;rcases HO5.out.2 with ⟨e,_⟩|⟨g,cap,cur,e,_⟩<;>(injection e with e6 e7 e8)<;>(first|exact e8|cases e6),HRZL.out l rfl⟩
     exact Br (v:=.tuple #[.agg (cnC ⟨x.d,n,A5,l.length,cc5,l⟩).toArray,.int .i64 0]) (U4 Tryz.results88 rfl rfl hr) rfl (.inr ⟨A5,cc5,fH.out,rfl,dO,(fun a ha=>by subst ha;have:=(HO5.out.lt _ rfl).1;omega),U6 bA.out.be (by omega) _⟩)
  exact An
 exact An
theorem do_none (x:Cnt) (n:Int) (c:Chg) (w:Wd) (hx:CW w x) (hi:c.id=x.d.id) (hn:x.ap<n) (hk:c.kind<0∨3<c.kind):
  Calls prog 88 #[.agg (cnC x).toArray,.agg (nbC n c).toArray] w (DoE (.inr x.ps) x n w):=by
 have HX:=Hd (dw_new x n c w);have n0:=(HX.out.b2.cell 0).trans (show _=some (Value.int .i64 n) from rfl);have n2:=(HX.out.b2.cell 2).trans (show _=some (Value.int .i64 c.id) from rfl);have c0:=(HX.out.b1.cell 0).trans (show _=some (Value.int .i64 x.d.id) from rfl);have c21:=(HX.out.b1.cell 21).trans (show _=some (Value.int .i64 x.ap) from rfl);have c22:=(HX.out.b1.cell 22).trans (show _=some (Value.slice x.pA x.pn x.pc) from rfl);have fG:Hid (∀ W,Below w.heap.size w W→Calls prog 24 #[.slice x.pA x.pn x.pc] W fun e w' => ∃ v,e = .returned v∧w'.ownsRow W.heap.size 76 2 v x.pn (Ub prC x.ps)∧Below W.heap.size W w'):=Hd fun W hb=>Kg x.pA x.pn x.pc x.ps W (hx.sl.after hb hb.size) (by have:=hx.le;omega)
 have HLK:Hid (∀ W b,W.heap[b]? =some (.map ef4 4)→(Instr.lookup 201 (.map (some b)) (.int .i64 c.kind) true).run prog W = .ok (.tuple #[.nilFunc,.bool false]) W):=Hd fun W b hb=>efLook_none W b c.kind hb hk
 have HRZ:Hid (∀ q∈x.ps,q.rcd.size≤maxLen):=Hd hx.rz;have HPN:Hid (x.pn≤1024∧x.ps.length=x.pn):=Hd ⟨hx.le,hx.sl.len⟩;have e4:decide ((1024:Int)<(x.pn:Int))=false:=decide_eq_false (by have:=hx.le;omega);have e1:(c.id != x.d.id)=false:=by simpa using hi
 have e2:decide (n≤x.ap)=false:=decide_eq_false (by omega);unfold zV at n0 n2 c0 c21 c22;clear hx hi hn hk;go_enter Tryz.func88,Tryz.ntmps88;go_wp2_with (first|(go_at_call 24;refine (fG.out _ HX.out.be).mono ?_;rintro e w2 ⟨v,rfl,aD,hb⟩;have aM:=Hd (V1 HX.out hb);obtain ⟨A2,cc2,rfl,_⟩:=Ue aD;have fW:=Hd aD;clear aD hb n0 n2 c0 c21 c22)|fail);have HX2d:Hid (DW x n c w w2.drew):=Hd (V1 aM.out (Bf _ _).drew);refine Rw (S:=fun w'=>DW x n c w w') (by kernel_rfl) HX2d.out (fun Hh=>?_);refine tk 1 (.pointer (some ⟨w.heap.size+1,1,none⟩)) Hh ?_;refine tk 2 (.pointer (some ⟨w.heap.size+1,1,none⟩)) Hh ?_;refine tj 3 (.int .i64 c.kind) Hh ?_ (y:=by intro w' aH;have h1:=(aH.b2.cell 1).trans (show _=some (Value.int .i64 c.kind) from rfl);go_simp);refine Aq [0] ?_;refine Rc (fun K hK=>?_) ?_
 ·go_simp;refine (It _).mono ?_;rintro e w3 ⟨rfl,rfl⟩;simp only [];have hb:=Ev w2.drew;have aP:=Hd (V1 HX2d.out hb);refine hK.out _ _ (V1 Hh hb) (fun Hh=>?_);clear hK K hb;try simp only [Act.put,Sv,Sz,Sw]
  refine Aq [4] ?_;refine Rc (fun K hK=>?_) ?_
  ·go_simp;have hl:=HLK.out (w2.drew.alloc (.map ef4 4)) w2.heap.size (heap_alloc_new w2.drew _);have gT:=HLK.out ((w2.alloc (.map ef4 4)).drew) w2.heap.size (heap_alloc_new w2 _);go_simp;refine hK.out _ _ Hh (fun Hh=>?_);clear hK K hl gT;try simp only [Act.put,Sv,Sz,Sw]
   refine tk 5 (.tuple #[.nilFunc,.bool false]) Hh ?_;refine tk 6 .nilFunc Hh ?_;refine tk 7 (.bool false) Hh ?_;refine tk 8 .nilFunc Hh ?_;refine tk 9 (.bool false) Hh ?_;refine Ad (by kernel_rfl) ?_ _;clear Hh;have aX:Hid (DW x n c w (w2.alloc (.map ef4 4)).drew):=Hd aP.out;have cN:Hid ((w2.alloc (.map ef4 4)).drew.ownsRow (w.heap.size+3) 76 2 (.slice A2 x.pn cc2) x.pn (eC x.ps)):=Hd (by have h:=fW.out.alloc (.map ef4 4);have e:(((w.alloc (.cells (cnC x).toArray 30)).alloc (.cells (nbC n c).toArray 127)).alloc (.cells zV.toArray 30)).heap.size=w.heap.size+3:=(by simp);rw [e] at h;exact h);have n05:=(aX.out.b2.cell 0).trans (show _=some (Value.int .i64 n) from rfl)
   go_wp2_with (first|((with_reducible refine Gl 27 55 ?_);refine Ln 27 w.heap.size (0) (dC x.d) (dw_r1 aX.out) Tryz.underlying27 ?_)|((with_reducible refine Gb 30 ?_);refine U2 (by kernel_rfl) 30 _ rfl (cnC ⟨x.d,n,A2,x.pn,cc2,x.ps⟩).toArray (by kernel_rfl) ?_)|((with_reducible refine Gt 30 4 ?_);refine Lv 30 (w.heap.size+2) (cnC ⟨x.d,n,A2,x.pn,cc2,x.ps⟩).toArray aX.out.b3 (Vz _) ?_));have hr:=Uw ((w2.alloc (.map ef4 4)).drew.setRow (w.heap.size+2) (cnC ⟨x.d,n,A2,x.pn,cc2,x.ps⟩).toArray) (w.heap.size+2) (cnC ⟨x.d,n,A2,x.pn,cc2,x.ps⟩).toArray (setRow_heap _ _ _ _ _ _ aX.out.b3) rfl
   have dO:CW ((w2.alloc (.map ef4 4)).drew.setRow (w.heap.size+2) (cnC ⟨x.d,n,A2,x.pn,cc2,x.ps⟩).toArray) ⟨x.d,n,A2,x.pn,cc2,x.ps⟩:=⟨Xy (Sl.of_own (f:=prC) (fun _=>rfl) (by decide) cN.out) _ _ (fun a ha=>by subst ha;have:=(cN.out.lt _ rfl).1;omega),HPN.out.1,fun h=>by subst h;rcases cN.out.2 with ⟨e,_⟩|⟨g,cap,cur,e,_⟩<;>(injection e with e6 e7 e8)<;>(first|exact e8|cases e6),HRZ.out⟩
   have gX:=HPN.out.2;exact Br (v:=.tuple #[.agg (cnC ⟨x.d,n,A2,x.pn,cc2,x.ps⟩).toArray,.int .i64 0]) (U4 Tryz.results88 rfl rfl hr) rfl (.inr ⟨A2,cc2,by rw [gX];exact HPN.out.1,by rw [gX],by rw [gX];exact dO,(fun a ha=>by subst ha;have:=(cN.out.lt _ rfl).1;omega),U6 aX.out.be (by omega) _⟩)
  exact An
 exact An
def DoR (xA:Option Addr) (R:Int ⊕ PC) (w:Wd) (e:Ending) (w':Wd):Prop:=match R with
 |.inl er=>e = .returned (.tuple #[.agg zV.toArray,.int .i64 er])∧Below w.heap.size w w'
 |.inr y => ∃ z:Cnt,plC z=y∧e = .returned (.tuple #[.agg (cnC z).toArray,.int .i64 0])∧CW w' z∧(∀ a,z.pA=some a→w.heap.size≤a.block∨xA=some a)∧Below w.heap.size w w'
theorem doE_R {R:Int ⊕ List Pr} {x:Cnt} {n:Int} {c:Chg} {w w':Wd} {e:Ending} (hi:c.id=x.d.id) (hn:x.ap<n) (hR:Ew x.d x.ps c=R) (h:DoE R x n w e w'):DoR x.pA (doP (plC x) n c) w e w':=by
 have hq:¬ (¬ (c.id=(plC x).d.id)∨n≤(plC x).ap):=by
  rintro (q|q)
  ·exact q hi
  ·have:(plC x).ap=x.ap:=rfl;omega
 unfold doP;rw [if_neg hq,show Ew (plC x).d (plC x).ps c=R from hR];cases R with
 |inl er=>exact h
 |inr l=>
  rcases h with ⟨h1,h2,h3⟩|⟨A,cc,h1,h2,h3,h5,h4⟩
  ·simp only [if_pos h1];exact ⟨h2,h3⟩
  ·simp only [if_neg (show ¬ 1024<l.length by omega)];exact ⟨_,rfl,h2,h3,fun a ha=>.inl (h5 a ha),h4⟩
theorem Hn (d:DSet) (l l2:List Pr) (c:Chg) (hl:∀ q∈l,q.rcd.size≤maxLen) (hr:c.rcd.size≤maxLen) (h:Ew d l c = .inr l2):∀ q∈l2,q.rcd.size≤maxLen:=by
 unfold Ew putE eraE appE at h
 repeat' split at h
 all_goals first
  |cases h;done
  |(injection h with h;subst h;intro q hq)
 ·rcases List.mem_or_eq_of_mem_set hq with h|h
  ·exact hl q h
  ·rw [h];exact hr
 ·unfold Ik at hq;rcases List.mem_append.1 hq with h|h
  ·exact hl q (List.mem_of_mem_take h)
  ·rcases List.mem_cons.1 h with h|h
   ·rw [h];exact hr
   ·exact hl q (List.mem_of_mem_drop h)
 ·exact hl q (List.mem_of_mem_eraseIdx hq)
 ·exact hl q hq
 ·rcases List.mem_append.1 hq with h|h
  ·exact hl q h
  ·rw [List.mem_singleton.1 h];exact hr
 ·cases hq
 ·exact hl q hq
theorem do_any (x:Cnt) (n:Int) (c:Chg) (w:Wd) (hx:CW w x) (hc:Cod w) (hr:c.rcd.size≤maxLen):
  Calls prog 88 #[.agg (cnC x).toArray,.agg (nbC n c).toArray] w (DoR x.pA (doP (plC x) n c) w):=by
 by_cases hs:¬ (c.id=x.d.id)∨n≤x.ap
 ·refine (do_same x n c w hs).mono ?_;rintro e w' ⟨rfl,hb⟩;unfold doP;rw [if_pos (show ¬ (c.id=(plC x).d.id)∨n≤(plC x).ap from hs)];exact ⟨x,rfl,rfl,hx.below hb,fun a ha=>.inr ha,hb⟩
 have hi:c.id=x.d.id:=Classical.not_not.1 fun q=>hs (.inl q)
 have hn:x.ap<n:=by
  have:¬ n≤x.ap:=fun q=>hs (.inr q)
  omega
 have hl:x.ps.length=x.pn:=hx.sl.len;have bO:=hx.le;by_cases hk:c.kind<0∨3<c.kind
 ·refine (do_none x n c w hx hi hn hk).mono fun e w' h=>doE_R hi hn ?_ h
  unfold Ew;rw [if_neg (by omega),if_neg (by omega),if_neg (by omega),if_neg (by omega)]
 have eS:c.kind=0∨c.kind=1∨c.kind=2∨c.kind=3:=by omega
 rcases eS with k|k|k|k
 ·refine (do_eff x n c w 156 (Ew x.d x.ps c) hx hi hn (by omega) (by omega) (by rw [k];rfl) (fun er h=>Iu _ _ _ _ h) (fun l h=>Hn _ _ _ _ hx.rz hr h) (fun args W=>by kernel_rfl) ?_).mono fun e w' h=>doE_R hi hn rfl h
  intro W A cc base hb aD hB;unfold Ew;rw [if_pos k];rw [←hl] at aD ⊢;exact put_g x.d c A cc x.ps base _ W aD hB (by omega) (fun W' gR=>J2 x.d ⟨c.key,c.rcd⟩ W' ((hc.after hb).after gR) hr)
 ·refine (do_eff x n c w 160 (Ew x.d x.ps c) hx hi hn (by omega) (by omega) (by rw [k];rfl) (fun er h=>Iu _ _ _ _ h) (fun l h=>Hn _ _ _ _ hx.rz hr h) (fun args W=>by kernel_rfl) ?_).mono fun e w' h=>doE_R hi hn rfl h
  intro W A cc base hb aD hB;unfold Ew;rw [if_neg (by omega),if_pos k];rw [←hl] at aD ⊢;exact era_g x.d c A cc x.ps base _ W aD hB (by omega) (fun W' _=>possible_any x.d c.key W')
 ·refine (do_eff x n c w 163 (Ew x.d x.ps c) hx hi hn (by omega) (by omega) (by rw [k];rfl) (fun er h=>Iu _ _ _ _ h) (fun l h=>Hn _ _ _ _ hx.rz hr h) (fun args W=>by kernel_rfl) ?_).mono fun e w' h=>doE_R hi hn rfl h
  intro W A cc base hb aD hB;unfold Ew;rw [if_neg (by omega),if_neg (by omega),if_pos k];rw [←hl] at aD ⊢;exact app_g x.d c A cc x.ps base W (hc.after hb) hr aD hB (by omega)
 ·refine (do_eff x n c w 165 (Ew x.d x.ps c) hx hi hn (by omega) (by omega) (by rw [k];rfl) (fun er h=>Iu _ _ _ _ h) (fun l h=>Hn _ _ _ _ hx.rz hr h) (fun args W=>by kernel_rfl) ?_).mono fun e w' h=>doE_R hi hn rfl h
  intro W A cc base hb aD hB;unfold Ew;rw [if_neg (by omega),if_neg (by omega),if_neg (by omega),if_pos k];exact emp_g x.d A x.pn cc c base W hB
theorem dw_set {x:Cnt} {n:Int} {c:Chg} {w W:Wd} (h:DW x n c w W) (A:Option Addr) (cc:Nat):DW ⟨x.d,x.ap,A,x.pn,cc,x.ps⟩ n c w (W.setCell ⟨w.heap.size,22,none⟩ (.slice A x.pn cc)):=by
 have hz:=h.sz;refine ⟨?_,h.b2.far (by simp) _,h.b3.far (by simp) _,by simpa using hz,h.be.setCell (Le _) _⟩;have:=h.b1.set 22 (.slice A x.pn cc);exact this
theorem sl_cell {α:Type} {f:α→List Value} {k n c:Nat} {A:Option Addr} {l:List α} {w:Wd} (h:Sl f k w w.heap.size A n c l) (p:Addr) (u:Value) (hA:∀ a,A=some a→a.block≠p.block):Sl f k (w.setCell p u) (w.setCell p u).heap.size A n c l:=
 ⟨h.1,h.2.1,h.2.2.1,fun hn=>by
  obtain ⟨b,o,e,hb,hc⟩:=h.2.2.2 hn;exact ⟨b,o,e,by simpa using hb,fun j v hv=>(World.cell?_of_block (Below.heap_setCell w p u b (fun q=>hA ⟨b,o,none⟩ e q))).trans (hc j v hv)⟩⟩
theorem Do_any (x:Cnt) (n:Int) (c:Chg) (w:Wd) (hx:CW w x) (hc:Cod w) (hr:c.rcd.size≤maxLen) (hv:c.vol.size≤maxLen):
  Calls prog 71 #[.agg (cnC x).toArray,.agg (nbC n c).toArray] w (DoR none (doF (plC x) n c) w):=by
 obtain ⟨R,hR⟩:∃ R,doF (plC x) n c=R:=⟨_,rfl⟩
 rw [hR];have HR:=Hd hR;have HX:=Hd (dw_new x n c w);have HV:Hid (∀ W,Below w.heap.size w W→Calls prog 68 #[.agg (cnC x).toArray] W fun e w'=>e = .returned (.bool (In x.d x.ap x.ps))∧Below W.heap.size W w'):=Hd fun W hb=>fwdValid_m x.d x.ap x.pA x.pn x.pc x.ps W (hx.below hb) (hc.after hb) hx.rz
 have kU:Hid (∀ W,Calls prog 59 #[.agg (chC c).toArray] W fun e w'=>e = .returned (.bool (chB c.kind c.id c.key c.rcd c.vol))∧Below W.heap.size W w'):=Hd fun W=>Iy c.kind c.id c.key c.rcd c.vol W hv
 have fG:Hid (∀ W,Below w.heap.size w W→Calls prog 24 #[.slice x.pA x.pn x.pc] W fun e w' => ∃ v,e = .returned v∧w'.ownsRow W.heap.size 76 2 v x.pn (Ub prC x.ps)∧Below W.heap.size W w'):=Hd fun W hb=>Kg x.pA x.pn x.pc x.ps W (hx.sl.after hb hb.size) (by have:=hx.le;omega)
 have iF:Hid (∀ (A:Option Addr) (cc:Nat) W,Below w.heap.size w W→CW W ⟨x.d,x.ap,A,x.pn,cc,x.ps⟩→Calls prog 88 #[.agg (cnC ⟨x.d,x.ap,A,x.pn,cc,x.ps⟩).toArray,.agg (nbC n c).toArray] W (DoR A (doP (plC x) n c) W)):=Hd fun A cc W hb h=>do_any ⟨x.d,x.ap,A,x.pn,cc,x.ps⟩ n c W h (hc.after hb) hr
 have dM:Hid (x.pn≤1024):=Hd hx.le;have HPZ:Hid (∀ q∈x.ps,q.rcd.size≤maxLen):=Hd hx.rz;have j9:Hid (zV.toArray.all (·.oneCell')=true):=Hd (by simp [zV,Value.oneCell']);clear hx hc hr hv hR;have HX':=HX.out;unfold zV at HX';have cE:=Hd HX';clear HX';cases hfv:In x.d x.ap x.ps with
 |false=>
  have hq:R = .inl 1:=by rw [←HR.out];unfold doF;rw [if_neg];rw [show In (plC x).d (plC x).ap (plC x).ps=false from hfv];simp
  subst hq;go_enter Tryz.func71,Tryz.ntmps71;go_wp2_with (first|((with_reducible refine Gl 30 2 ?_);refine Lq 30 w.heap.size (cnC x).toArray cE.out.b1 Tryz.underlying30 ?_)|(go_at_call 68;refine (HV.out _ cE.out.be).mono ?_;rw [hfv];rintro e w2 ⟨rfl,hb⟩;have aM:=Hd (V1 cE.out hb);have n0:=(aM.out.b2.cell 0).trans (show _=some (Value.int .i64 n) from rfl);clear hb)|((with_reducible refine Gb 30 ?_);refine U2 (by kernel_rfl) 30 _ rfl zV.toArray (by kernel_rfl) ?_)|((with_reducible refine Gt 30 4 ?_);refine Lv 30 (w.heap.size+2) zV.toArray aM.out.b3 j9.out ?_));have hr:=Uw (w2.setRow (w.heap.size+2) zV.toArray) (w.heap.size+2) zV.toArray (setRow_heap _ _ _ _ _ _ aM.out.b3) rfl
  exact Br (v:=.tuple #[.agg zV.toArray,.int .i64 1]) (U4 Tryz.results71 rfl rfl hr) rfl ⟨rfl,U6 aM.out.be (by omega) _⟩
 |true=>
  cases dU:chB c.kind c.id c.key c.rcd c.vol with
  |false=>
   have hq:R = .inl 1:=by rw [←HR.out];unfold doF;rw [if_neg];rw [dU];simp
   subst hq;go_enter Tryz.func71,Tryz.ntmps71
   go_wp2_with (first|((with_reducible refine Gl 30 2 ?_);refine Lq 30 w.heap.size (cnC x).toArray cE.out.b1 Tryz.underlying30 ?_)|(go_at_call 68;refine (HV.out _ cE.out.be).mono ?_;rw [hfv];rintro e w2 ⟨rfl,hb⟩;have aM:=Hd (V1 cE.out hb);have n0:=(aM.out.b2.cell 0).trans (show _=some (Value.int .i64 n) from rfl);clear hb)|((with_reducible refine Gl 58 10 ?_);refine Ul (by kernel_rfl) 58 _ rfl (w.heap.size+1) 1 rfl (chC c) _ (Gp aM.out) Tryz.underlying58 rfl (by kernel_rfl) ?_)|(go_at_call 59;refine (kU.out _).mono ?_;rw [dU];rintro e w3 ⟨rfl,hb⟩;have aP:=Hd (V1 aM.out hb);clear n0;have n0:=(aP.out.b2.cell 0).trans (show _=some (Value.int .i64 n) from rfl);have c22:=(aP.out.b1.cell 22).trans (show _=some (Value.slice x.pA x.pn x.pc) from rfl);clear hb)|((with_reducible refine Gb 30 ?_);refine U2 (by kernel_rfl) 30 _ rfl zV.toArray (by kernel_rfl) ?_)|((with_reducible refine Gt 30 4 ?_);refine Lv 30 (w.heap.size+2) zV.toArray aP.out.b3 j9.out ?_))
   have hr:=Uw (w3.setRow (w.heap.size+2) zV.toArray) (w.heap.size+2) zV.toArray (setRow_heap _ _ _ _ _ _ aP.out.b3) rfl;exact Br (v:=.tuple #[.agg zV.toArray,.int .i64 1]) (U4 Tryz.results71 rfl rfl hr) rfl ⟨rfl,U6 aP.out.be (by omega) _⟩
  |true=>
   rcases (by omega:n<1∨1≤n) with m1|m1
   ·have f1:decide (n<1)=true:=decide_eq_true m1;have hq:R = .inl 1:=by rw [←HR.out];unfold doF;rw [if_neg];simp;omega
    subst hq;go_enter Tryz.func71,Tryz.ntmps71
    go_wp2_with (first|((with_reducible refine Gl 30 2 ?_);refine Lq 30 w.heap.size (cnC x).toArray cE.out.b1 Tryz.underlying30 ?_)|(go_at_call 68;refine (HV.out _ cE.out.be).mono ?_;rw [hfv];rintro e w2 ⟨rfl,hb⟩;have aM:=Hd (V1 cE.out hb);have n0:=(aM.out.b2.cell 0).trans (show _=some (Value.int .i64 n) from rfl);clear hb)|((with_reducible refine Gl 58 10 ?_);refine Ul (by kernel_rfl) 58 _ rfl (w.heap.size+1) 1 rfl (chC c) _ (Gp aM.out) Tryz.underlying58 rfl (by kernel_rfl) ?_)|(go_at_call 59;refine (kU.out _).mono ?_;rw [dU];rintro e w3 ⟨rfl,hb⟩;have aP:=Hd (V1 aM.out hb);clear n0;have n0:=(aP.out.b2.cell 0).trans (show _=some (Value.int .i64 n) from rfl);have c22:=(aP.out.b1.cell 22).trans (show _=some (Value.slice x.pA x.pn x.pc) from rfl);clear hb)|((with_reducible refine Gb 30 ?_);refine U2 (by kernel_rfl) 30 _ rfl zV.toArray (by kernel_rfl) ?_)|((with_reducible refine Gt 30 4 ?_);refine Lv 30 (w.heap.size+2) zV.toArray aP.out.b3 j9.out ?_))
    have hr:=Uw (w3.setRow (w.heap.size+2) zV.toArray) (w.heap.size+2) zV.toArray (setRow_heap _ _ _ _ _ _ aP.out.b3) rfl;exact Br (v:=.tuple #[.agg zV.toArray,.int .i64 1]) (U4 Tryz.results71 rfl rfl hr) rfl ⟨rfl,U6 aP.out.be (by omega) _⟩
   have f1:decide (n<1)=false:=decide_eq_false (by omega);rcases (by omega:1099511627776<n∨n≤1099511627776) with m2|m2
   ·have f2:decide ((1099511627776:Int)<n)=true:=decide_eq_true m2;have hq:R = .inl 1:=by rw [←HR.out];unfold doF;rw [if_neg];simp;omega
    subst hq;go_enter Tryz.func71,Tryz.ntmps71
    go_wp2_with (first|((with_reducible refine Gl 30 2 ?_);refine Lq 30 w.heap.size (cnC x).toArray cE.out.b1 Tryz.underlying30 ?_)|(go_at_call 68;refine (HV.out _ cE.out.be).mono ?_;rw [hfv];rintro e w2 ⟨rfl,hb⟩;have aM:=Hd (V1 cE.out hb);have n0:=(aM.out.b2.cell 0).trans (show _=some (Value.int .i64 n) from rfl);clear hb)|((with_reducible refine Gl 58 10 ?_);refine Ul (by kernel_rfl) 58 _ rfl (w.heap.size+1) 1 rfl (chC c) _ (Gp aM.out) Tryz.underlying58 rfl (by kernel_rfl) ?_)|(go_at_call 59;refine (kU.out _).mono ?_;rw [dU];rintro e w3 ⟨rfl,hb⟩;have aP:=Hd (V1 aM.out hb);clear n0;have n0:=(aP.out.b2.cell 0).trans (show _=some (Value.int .i64 n) from rfl);have c22:=(aP.out.b1.cell 22).trans (show _=some (Value.slice x.pA x.pn x.pc) from rfl);clear hb)|((with_reducible refine Gb 30 ?_);refine U2 (by kernel_rfl) 30 _ rfl zV.toArray (by kernel_rfl) ?_)|((with_reducible refine Gt 30 4 ?_);refine Lv 30 (w.heap.size+2) zV.toArray aP.out.b3 j9.out ?_))
    have hr:=Uw (w3.setRow (w.heap.size+2) zV.toArray) (w.heap.size+2) zV.toArray (setRow_heap _ _ _ _ _ _ aP.out.b3) rfl;exact Br (v:=.tuple #[.agg zV.toArray,.int .i64 1]) (U4 Tryz.results71 rfl rfl hr) rfl ⟨rfl,U6 aP.out.be (by omega) _⟩
   have f2:decide ((1099511627776:Int)<n)=false:=decide_eq_false (by omega);have hq:R=doP (plC x) n c:=by rw [←HR.out];unfold doF;rw [if_pos];rw [show In (plC x).d (plC x).ap (plC x).ps=true from hfv,dU];simp [m1,m2]
   rw [hq];clear hq;generalize doP (plC x) n c=Q at iF ⊢;cases Q with
   |inl er=>
    go_enter Tryz.func71,Tryz.ntmps71
    go_wp2_with (first|((with_reducible refine Gl 30 2 ?_);refine Lq 30 w.heap.size (cnC x).toArray cE.out.b1 Tryz.underlying30 ?_)|(go_at_call 68;refine (HV.out _ cE.out.be).mono ?_;rw [hfv];rintro e w2 ⟨rfl,hb⟩;have aM:=Hd (V1 cE.out hb);have n0:=(aM.out.b2.cell 0).trans (show _=some (Value.int .i64 n) from rfl);clear hb)|((with_reducible refine Gl 58 10 ?_);refine Ul (by kernel_rfl) 58 _ rfl (w.heap.size+1) 1 rfl (chC c) _ (Gp aM.out) Tryz.underlying58 rfl (by kernel_rfl) ?_)|(go_at_call 59;refine (kU.out _).mono ?_;rw [dU];rintro e w3 ⟨rfl,hb⟩;have aP:=Hd (V1 aM.out hb);clear n0;have n0:=(aP.out.b2.cell 0).trans (show _=some (Value.int .i64 n) from rfl);have c22:=(aP.out.b1.cell 22).trans (show _=some (Value.slice x.pA x.pn x.pc) from rfl);clear hb)|(go_at_call 24;refine (fG.out _ aP.out.be).mono ?_;rintro e w4 ⟨v,rfl,aD,hb⟩;obtain ⟨A4,cc4,rfl,_⟩:=Ue aD;have cN:=Hd aD;have aX:=Hd (V1 aP.out hb);have bA:=Hd (dw_set aX.out A4 cc4);have g22:=(aX.out.b1.cell 22).trans (show _=some (Value.slice x.pA x.pn x.pc) from rfl);have f22:=aX.out.b1.free 22;have HSZ3:=Hd aP.out.sz;clear aD hb c22 n0)|((with_reducible refine Gl 30 2 ?_);refine Lq 30 w.heap.size (cnC ⟨x.d,x.ap,A4,x.pn,cc4,x.ps⟩).toArray bA.out.b1 Tryz.underlying30 ?_)|((with_reducible refine Gl 127 3 ?_);refine Lq 127 (w.heap.size+1) (nbC n c).toArray bA.out.b2 Tryz.underlying127 ?_)|(go_at_call 88;refine (iF.out A4 cc4 _ bA.out.be ⟨sl_cell (Sl.of_own (f:=prC) (fun _=>rfl) (by decide) cN.out) _ _ (fun a ha=>by subst ha;have h1:=(cN.out.lt _ rfl).1;have h2:=HSZ3.out;show a.block≠w.heap.size;omega),dM.out,fun h=>by subst h;rcases cN.out.2 with ⟨e,_⟩|⟨g,cap,cur,e,_⟩<;>(injection e with e6 e7 e8)<;>(first|exact e8|cases e6),HPZ.out⟩).mono ?_;rintro e w6 ⟨rfl,hb⟩;have bB:=Hd (V1 bA.out hb);have HZ4:Hid (w.heap.size+3≤(w4.setCell ⟨w.heap.size,22,none⟩ (.slice A4 x.pn cc4)).heap.size):=Hd bA.out.sz;clear hb g22 f22)|((with_reducible refine Gt 30 4 ?_);refine Lv 30 (w.heap.size+2) (zV).toArray bB.out.b3 j9.out ?_))
    have hr:=Uw (w6.setRow (w.heap.size+2) (zV).toArray) (w.heap.size+2) (zV).toArray (setRow_heap _ _ _ _ _ _ bB.out.b3) rfl;exact Br (v:=.tuple #[.agg (zV).toArray,.int .i64 er]) (U4 Tryz.results71 rfl rfl hr) rfl ⟨rfl,U6 bB.out.be (by omega) _⟩
   |inr y=>
    have HQ:Hid True:=Hd trivial;go_enter Tryz.func71,Tryz.ntmps71
    go_wp2_with (first|((with_reducible refine Gl 30 2 ?_);refine Lq 30 w.heap.size (cnC x).toArray cE.out.b1 Tryz.underlying30 ?_)|(go_at_call 68;refine (HV.out _ cE.out.be).mono ?_;rw [hfv];rintro e w2 ⟨rfl,hb⟩;have aM:=Hd (V1 cE.out hb);have n0:=(aM.out.b2.cell 0).trans (show _=some (Value.int .i64 n) from rfl);clear hb)|((with_reducible refine Gl 58 10 ?_);refine Ul (by kernel_rfl) 58 _ rfl (w.heap.size+1) 1 rfl (chC c) _ (Gp aM.out) Tryz.underlying58 rfl (by kernel_rfl) ?_)|(go_at_call 59;refine (kU.out _).mono ?_;rw [dU];rintro e w3 ⟨rfl,hb⟩;have aP:=Hd (V1 aM.out hb);clear n0;have n0:=(aP.out.b2.cell 0).trans (show _=some (Value.int .i64 n) from rfl);have c22:=(aP.out.b1.cell 22).trans (show _=some (Value.slice x.pA x.pn x.pc) from rfl);clear hb)|(go_at_call 24;refine (fG.out _ aP.out.be).mono ?_;rintro e w4 ⟨v,rfl,aD,hb⟩;obtain ⟨A4,cc4,rfl,_⟩:=Ue aD;have cN:=Hd aD;have aX:=Hd (V1 aP.out hb);have bA:=Hd (dw_set aX.out A4 cc4);have g22:=(aX.out.b1.cell 22).trans (show _=some (Value.slice x.pA x.pn x.pc) from rfl);have f22:=aX.out.b1.free 22;have HSZ3:=Hd aP.out.sz;clear aD hb c22 n0)|((with_reducible refine Gl 30 2 ?_);refine Lq 30 w.heap.size (cnC ⟨x.d,x.ap,A4,x.pn,cc4,x.ps⟩).toArray bA.out.b1 Tryz.underlying30 ?_)|((with_reducible refine Gl 127 3 ?_);refine Lq 127 (w.heap.size+1) (nbC n c).toArray bA.out.b2 Tryz.underlying127 ?_)|(go_at_call 88;refine (iF.out A4 cc4 _ bA.out.be ⟨sl_cell (Sl.of_own (f:=prC) (fun _=>rfl) (by decide) cN.out) _ _ (fun a ha=>by subst ha;have h1:=(cN.out.lt _ rfl).1;have h2:=HSZ3.out;show a.block≠w.heap.size;omega),dM.out,fun h=>by subst h;rcases cN.out.2 with ⟨e,_⟩|⟨g,cap,cur,e,_⟩<;>(injection e with e6 e7 e8)<;>(first|exact e8|cases e6),HPZ.out⟩).mono ?_;rintro e w6 ⟨z,hz,rfl,dO,gV,hb⟩;have bB:=Hd (V1 bA.out hb);have HZ4:Hid (w.heap.size+3≤(w4.setCell ⟨w.heap.size,22,none⟩ (.slice A4 x.pn cc4)).heap.size):=Hd bA.out.sz;clear hb g22 f22)|((with_reducible refine Gt 30 4 ?_);refine Lv 30 (w.heap.size+2) (cnC z).toArray bB.out.b3 (Vz z) ?_))
    have hr:=Uw (w6.setRow (w.heap.size+2) (cnC z).toArray) (w.heap.size+2) (cnC z).toArray (setRow_heap _ _ _ _ _ _ bB.out.b3) rfl
    have hzb:∀ a,z.pA=some a→w.heap.size+3≤a.block:=fun a ha=>by
     rcases gV a ha with h1|h1
     ·have:=HZ4.out;omega
     ·subst h1;have h2:=(cN.out.lt _ rfl).1;have:=HSZ3.out;omega
    exact Br (v:=.tuple #[.agg (cnC z).toArray,.int .i64 0]) (U4 Tryz.results71 rfl rfl hr) rfl ⟨z,hz,rfl,⟨Xy dO.sl _ _ (fun a ha=>by have h1:=hzb a ha;omega),dO.le,dO.nil,dO.rz⟩,fun a ha=>.inl (by have h1:=hzb a ha;omega),U6 bB.out.be (by omega) _⟩
theorem doF_d (x:PC) (n:Int) (c:Chg) (y:PC) (h:doF x n c = .inr y):y.d=x.d:=by
 unfold doF doP at h;split at h
 ·split at h
  ·injection h with h;rw [←h]
  ·split at h
   ·cases h
   ·split at h
    ·cases h
    ·injection h with h;rw [←h]
 ·cases h
theorem do_G (x:Cnt) (n:Int) (c:Chg) (w:Wd) (hi:x.d.id=c.id) (hx:CW w x) (hc:Cod w) (hr:c.rcd.size≤maxLen) (hv:c.vol.size≤maxLen):
  Calls prog 71 #[.agg (cnC x).toArray,.agg (nbC n c).toArray] w (DoG (doF (plC x) n c) c.id w):=by
 refine (Do_any x n c w hx hc hr hv).mono ?_;intro e w' h;cases hR:doF (plC x) n c with
 |inl er=>
  rw [hR] at h;exact ⟨doF_err _ _ _ _ hR,h.1,h.2⟩
 |inr y=>
  rw [hR] at h;obtain ⟨z,hz,he,dO,_,hb⟩:=h;refine ⟨z,hz,?_,he,dO,hb⟩;have h1:=doF_d _ _ _ _ hR;have h2:z.d=y.d:=by rw [←hz];rfl
  rw [h2,h1];exact hi
def I8 (s:Bz):Bool×Int:=if s.size=0 then (false,0) else if 1<bAt s 0 then (false,0) else (decide (bAt s 0=1),1)
theorem boolF_range (s:Bz):0≤(I8 s).2∧(I8 s).2≤s.size:=by
 unfold I8;split
 ·simp
 ·split
  ·simp
  ·simp;omega
theorem bool1_any (s:Bz) (g:Nat) (w:Wd) (hs:s.size≤maxLen) (hg:Blk w g 4 #[.bool false]):
  Calls prog 287 #[.string s,.pointer (some ⟨g,0,none⟩)] w fun x w'=>x = .returned (.int .i64 (I8 s).2)∧Blk w' g 4 #[.bool (I8 s).1]∧Far [g] w w':=by
 unfold maxLen at hs;have HG:=Hd hg;have c0:=(hg.cell 0).trans (show _=some (Value.bool false) from rfl);have f0:=hg.free 0;clear hg;by_cases hz:s.size=0
 ·obtain rfl:=ba_empty hz;go_enter Tryz.func287,Tryz.ntmps287;go_wp2;go_ret;exact ⟨rfl,HG.out,Far.refl _ _⟩
 ·have h0:0<s.size:=by omega
  obtain ⟨q1,q2⟩:=Ja hz;have q3:s.toList.isEmpty=false:=q1;obtain ⟨b,hb⟩:∃ b,(s[0]).toNat=b:=⟨_,rfl⟩
  have eL:bAt s 0=b:=by rw [Zq s 0 h0,hb]
  have b7:=(s[0]).toNat_lt;rw [hb] at b7;have hB:I8 s=if 1<b then (false,0) else (decide (b=1),1):=by unfold I8;rw [if_neg hz,eL]
  rw [hB];clear hB eL;by_cases h1:1<b
  ·rw [if_pos h1];go_enter Tryz.func287,Tryz.ntmps287;go_wp2;go_ret;exact ⟨rfl,HG.out,Far.refl _ _⟩
  ·rw [if_neg h1];by_cases h2:b=1
   ·subst h2;go_enter Tryz.func287,Tryz.ntmps287;go_wp2;go_ret;exact ⟨rfl,HG.out.set 0 _,(Far.refl _ _).set _ _ _ (.inl (by simp))⟩
   ·obtain rfl:b=0:=by omega
    go_enter Tryz.func287,Tryz.ntmps287;go_wp2;go_ret;exact ⟨rfl,HG.out.set 0 _,(Far.refl _ _).set _ _ _ (.inl (by simp))⟩
def X5 (left:Bz) (err:Int):Bool×Bz×Int:=
 if err=0 then (if (I8 left).2=0 then ((I8 left).1,⟨#[]⟩,11) else ((I8 left).1,left.extract (I8 left).2.toNat left.size,0)) else (false,left,err)
def TbP (w:Wd) (r g:Nat) (R:Bool×Bz×Int) (x:Ending) (w':Wd):Prop:=x = .returned (.tuple #[])∧Rdr w' r R.2.1 R.2.2∧Blk w' g 4 #[.bool R.1]∧Far [r,g] w w'
theorem take_bool (r g:Nat) (left:Bz) (err:Int) (w:Wd) (hs:left.size≤maxLen) (hr:Rdr w r left err) (hg:Blk w g 4 #[.bool false]) (aZ:r≠g):
  Calls prog 240 #[.pointer (some ⟨r,0,none⟩),.func (.func 287) #[] #[.pointer (some ⟨g,0,none⟩)]] w (TbP w r g (X5 left err)):=by
 have HR:=Hd hr;have HG:=Hd hg;have c1:=hr.c1;have c0:=hr.c0;by_cases he:err=0
 ·subst he;obtain ⟨k1,k2⟩:=boolF_range left;have HC:=Hd (bool1_any left g w hs hg);obtain ⟨n,k,hd⟩:∃ n k,I8 left=(n,k):=⟨_,_,rfl⟩
  have hn:X5 left 0=if k=0 then (n,⟨#[]⟩,11) else (n,left.extract k.toNat left.size,0):=by simp [X5,hd]
  rw [hn];simp only [hd] at HC k1 k2;have HN:=Hd aZ;clear aZ;unfold maxLen at hs;clear hr hg hd hn;by_cases hk:k=0
  ·subst hk;rw [if_pos rfl];go_enter Tryz.func240,Tryz.ntmps240;go_wp2_with (first|(go_at_call 287;refine HC.out.mono ?_;rintro e w1 ⟨rfl,h1,h2⟩;have G1:=Hd h1;have B1:=Hd h2;have R1:=Hd (Blk.far' HR.out h2 (by simpa using HN.out));clear h1 h2)|(go_at_call 148;refine (Hm r left 11 _ R1.out).mono ?_;rintro e w' ⟨rfl,h1,h2⟩;have H1:=Hd h1;have H2:=Hd h2;clear h1 h2))
   go_end0
   exact ⟨rfl,H1.out,G1.out.far' H2.out (by simp;exact HN.out.symm),(B1.out.mono (by simp)).trans (H2.out.mono (by simp))⟩
  ·rw [if_neg hk];have jV:(k == 0)=false:=by simpa using hk
   obtain ⟨m,rfl⟩:∃ m:Nat,k=m:=⟨k.toNat,by omega⟩
   have k3:m≤left.size:=by omega
   have HK:=Hd hk;clear hk;go_enter Tryz.func240,Tryz.ntmps240;go_wp2_with (go_at_call 287;refine HC.out.mono ?_;rintro e w1 ⟨rfl,h1,h2⟩;have G1:=Hd h1;have B1:=Hd h2;have r1:Rdr w1 r left 0:=Blk.far' HR.out h2 (by simpa using HN.out);have R1:=Hd r1;have q0:=r1.c0;have z0:=Blk.free r1 0;clear h1 h2 r1)
   go_end0
   exact ⟨rfl,R1.out.setL,G1.out.far HN.out.symm _,(B1.out.mono (by simp)).set _ _ _ (.inl (by simp))⟩
 ·have hn:X5 left err=(false,left,err):=by simp [X5,he]
  rw [hn];have he':(err == 0)=false:=by simpa using he
  have he2:(err != 0)=true:=by simpa using he
  clear hr hg hn he;go_enter Tryz.func240,Tryz.ntmps240;go_wp2
  go_end0
  exact ⟨rfl,HR.out,HG.out,Far.refl _ _⟩
theorem rdBool_any (r:Nat) (left:Bz) (err:Int) (w:Wd) (hs:left.size≤maxLen) (hr:Rdr w r left err):
  Calls prog 254 #[.pointer (some ⟨r,0,none⟩)] w fun x w'=>x = .returned (.bool (X5 left err).1)∧RrP w r (X5 left err).2.1 (X5 left err).2.2 w':=by
 have HT:=Hd (take_bool r w.heap.size left err (w.alloc (.cells #[.bool false] 4)) hs (Blk.alloc hr _) (Blk.new w _ _) (by have:=Blk.lt hr;omega));have HR:=Hd (Blk.lt hr);clear hr hs;obtain ⟨R,hR⟩:∃ R,X5 left err=R:=⟨_,rfl⟩
 rw [hR];rw [hR] at HT;clear hR;obtain ⟨n,l,e⟩:=R;go_enter Tryz.func254,Tryz.ntmps254;go_wp2_with (go_at_call 240;refine HT.out.mono ?_;rintro x w' ⟨rfl,h1,h2,h3⟩;have H1:=Hd h1;have H3:=Hd h3;have c0:=(h2.cell 0).trans (show _=some (Value.bool n) from rfl);clear h1 h2 h3);go_ret;exact ⟨rfl,H1.out,((Far.refl _ _).alloc _).next H3.out (by intro i hi;simp at hi;rcases hi with rfl|rfl;exact .inl (by simp);exact .inr (Le _))⟩
def encB (b:Bool):Bz:=if b then ⟨#[1]⟩ else ⟨#[0]⟩
theorem appBool_any (s:Bz) (b:Bool) (w:Wd) (hs:s.size≤1000000000):Calls prog 253 #[.string s,.bool b] w fun x w'=>x = .returned (.string (s++encB b))∧w=w':=by
 cases b with
 |true=>
  go_enter Tryz.func253,Tryz.ntmps253;go_wp2;go_ret;exact ⟨rfl,rfl⟩
 |false=>
  go_enter Tryz.func253,Tryz.ntmps253;go_wp2;go_ret;exact ⟨rfl,rfl⟩
def Z2 (t:Bz):Bz:=Yo t.size++t
theorem Xj (t:Bz):(Z2 t).size≤10+t.size:=by
 have:=V9 t.size;unfold Z2;rw [ByteArray.size_append];omega
theorem J0 (s t:Bz) (w:Wd) (hs:s.size≤1000000000) (ht:t.size≤1000000000):
  Calls prog 155 #[.string s,.string t] w fun x w'=>x = .returned (.string (s++Z2 t))∧Below w.heap.size w w':=by
 have HN:=Hd (Zh s t.size w hs (by omega) (by omega))
 have aK:¬ 9223372036854775807<(s++Yo t.size).size+t.size:=by
  have:=V9 t.size;rw [ByteArray.size_append];omega
 go_enter Tryz.func155,Tryz.ntmps155;go_wp2_with (go_at_call 182;refine HN.out.mono ?_;rintro x w1 ⟨rfl,h1⟩;have H1:=Hd h1;clear h1);go_ret;exact ⟨by rw [Z2,ByteArray.append_assoc];rfl,H1.out⟩
end Go.Proofs.YtoakknkmjnebjaaGreatDoor
