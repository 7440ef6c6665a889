/- Part of the proof of HistoryReads. -/
import Derived.Test.YtapanepkfbamhaaGreatDoorJAZ
namespace Go.Proofs.YtapanepkfbamhaaGreatDoor
open Tryz (prog)
section
set_option maxRecDepth 100000
open Go.RowKit
theorem alias_w (c g:Nat) (e:En) (a:EnA) (w:World) (hc:Cw w c ⟨#[]⟩) (hg:Blk w g 159 (enC e a).toArray) (hs:Sm e):
  Calls prog 200 #[.pointer (some ⟨c,0,none⟩),.pointer (some ⟨g,0,none⟩)] w (FwP (fun _=>True) c w):=by
 have HC:=Hd (Iq c g 29 ⟨#[]⟩ e.target w hc ((hg.cell 29).trans rfl) (by decide) (by have:=hs.ta;omega));have HZ:Hid (((⟨#[]⟩:ByteArray)++Yv e.target).size≤100000):=Hd (by have h0:(⟨#[]⟩:ByteArray).size=0:=rfl;have:=hs.ta;have:=Xi e.target;rw [ByteArray.size_append];omega);clear hc hg hs;go_enter Tryz.func200,Tryz.ntmps200;go_wp2_with (go_at_call 194;refine HC.out.mono ?_;rintro x w2 ⟨rfl,h1,h2⟩;have H1:=Hd h1;have H2:=Hd h2;clear h1 h2)
 go_end0
 exact ⟨rfl,_,trivial,HZ.out,H1.out,H2.out⟩
theorem alias_r (c r g:Nat) (k:Int) (nm left:ByteArray) (w:World) (hc:Cr w c r) (hr:Rdr w r left 0) (hg:Blk w g 159 (enC (enK k nm) enN).toArray) (hs:left.size≤1000000) (hnm:nm.size≤1000) (n1:r≠g):
  Calls prog 200 #[.pointer (some ⟨c,0,none⟩),.pointer (some ⟨g,0,none⟩)] w (FrP (fun _=>True) c r g k nm w):=by
 have hC:=Ed c r g 29 159 _ ⟨#[]⟩ left 0 w (by unfold maxLen;omega) hc hr hg rfl n1;have hle:=Za left 0;obtain ⟨p,hp⟩:∃ p,Uh left 0 200=p:=⟨_,rfl⟩
 rw [hp] at hC hle;rw [st_29] at hC;have HC:=Hd hC;have HNM:=Hd hnm;have HLE:=Hd hle;clear hC hc hr hg hs hnm hle hp;go_enter Tryz.func200,Tryz.ntmps200;go_wp2_with (go_at_call 194;refine HC.out.mono ?_;rintro x w2 ⟨rfl,h1,h2,h3⟩;have H1:=Hd (And.intro h1 (And.intro h2 h3));clear h1 h2 h3)
 go_end0
 exact ⟨rfl,({ enK k nm with target:=p.1 },p.2.1,p.2.2),enN,trivial,⟨HNM.out,by show (0:Nat)≤1000;omega,by show (0:Nat)≤1000;omega,by show (0:Nat)≤1000;omega,by show p.1.size≤1000;have:=HLE.out;omega,by show (0:Nat)≤5;omega,by show (0:Nat)≤9;omega,fun x hx=>(by cases hx),fun x hx=>(by cases hx),by
  simp only [enK,dZ,List.mem_cons,List.not_mem_nil,or_false,forall_eq_or_imp,forall_eq];refine ⟨?_,?_,?_,?_,?_,?_,?_,?_,?_,?_,?_,?_,?_,?_,?_,?_,?_,?_,?_,?_,?_,?_⟩<;>omega⟩,rfl,rfl,H1.out.1,H1.out.2.1,⟨Sl.nil,Sl.nil,fun p hp _=>(by cases hp),fun p hp _=>(by cases hp)⟩,H1.out.2.2⟩
theorem cat_w (c g:Nat) (e:En) (a:EnA) (w:World) (hc:Cw w c ⟨#[]⟩) (hg:Blk w g 159 (enC e a).toArray) (hs:Sm e):
  Calls prog 204 #[.pointer (some ⟨c,0,none⟩),.pointer (some ⟨g,0,none⟩)] w (FwP (fun _=>True) c w):=by
 have hn:0≤e.catalog∧e.catalog≤9223372036854775807:=hs.nu _ (by simp);have HC:=Hd (Id c g 30 ⟨#[]⟩ e.catalog w hc ((hg.cell 30).trans rfl) (by decide) hn.1 hn.2);have HZ:Hid (((⟨#[]⟩:ByteArray)++Yk e.catalog).size≤100000):=Hd (by have h0:(⟨#[]⟩:ByteArray).size=0:=rfl;have:=V1 e.catalog;rw [ByteArray.size_append];omega);clear hn;clear hc hg hs;go_enter Tryz.func204,Tryz.ntmps204;go_wp2_with (go_at_call 205;refine HC.out.mono ?_;rintro x w2 ⟨rfl,h1,h2⟩;have H1:=Hd h1;have H2:=Hd h2;clear h1 h2)
 go_end0
 exact ⟨rfl,_,trivial,HZ.out,H1.out,H2.out⟩
theorem cat_r (c r g:Nat) (k:Int) (nm left:ByteArray) (w:World) (hc:Cr w c r) (hr:Rdr w r left 0) (hg:Blk w g 159 (enC (enK k nm) enN).toArray) (hs:left.size≤1000000) (hnm:nm.size≤1000) (n1:r≠g):
  Calls prog 204 #[.pointer (some ⟨c,0,none⟩),.pointer (some ⟨g,0,none⟩)] w (FrP (fun _=>True) c r g k nm w):=by
 have hC:=Zk c r g 30 159 _ 0 left 0 w (by unfold maxLen;omega) hc hr hg rfl n1;have hle:=V6 left 0;obtain ⟨p,hp⟩:∃ p,Uu left 0=p:=⟨_,rfl⟩
 rw [hp] at hC hle;rw [st_30] at hC;have HC:=Hd hC;have HNM:=Hd hnm;have HLE:=Hd hle;clear hC hc hr hg hs hnm hle hp;go_enter Tryz.func204,Tryz.ntmps204;go_wp2_with (go_at_call 205;refine HC.out.mono ?_;rintro x w2 ⟨rfl,h1,h2,h3⟩;have H1:=Hd (And.intro h1 (And.intro h2 h3));clear h1 h2 h3)
 go_end0
 exact ⟨rfl,({ enK k nm with catalog:=p.1 },p.2.1,p.2.2),enN,trivial,⟨HNM.out,by show (0:Nat)≤1000;omega,by show (0:Nat)≤1000;omega,by show (0:Nat)≤1000;omega,by show (0:Nat)≤1000;omega,by show (0:Nat)≤5;omega,by show (0:Nat)≤9;omega,fun x hx=>(by cases hx),fun x hx=>(by cases hx),by
  have hle:=HLE.out;simp only [enK,dZ,List.mem_cons,List.not_mem_nil,or_false,forall_eq_or_imp,forall_eq];refine ⟨?_,?_,?_,?_,?_,?_,?_,?_,?_,?_,?_,?_,?_,?_,?_,?_,?_,?_,?_,?_,?_,?_⟩<;>omega⟩,rfl,rfl,H1.out.1,H1.out.2.1,⟨Sl.nil,Sl.nil,fun p hp _=>(by cases hp),fun p hp _=>(by cases hp)⟩,H1.out.2.2⟩
theorem FwP.loose {k:Int} (h0:k≠0) (h1:k≠1) {e:En} {c:Nat} {w w':World} {x:Ending} (h:FwP (fun _=>True) c w x w'):FwP (wrP k e) c w x w':=by
 obtain ⟨rfl,s,_,h2,h3,h4⟩:=h;exact ⟨rfl,s,wr_loose h0 h1 e s,h2,h3,h4⟩
theorem FrP.loose {kk:Int} (h0:kk≠0) (h1:kk≠1) {c r g:Nat} {k:Int} {nm nm2 left:ByteArray} {w w':World} {x:Ending} (h:FrP (fun _=>True) c r g k nm w x w'):FrP (rdP kk nm2 left) c r g k nm w x w':=by
 obtain ⟨rfl,R,a,_,h2,h3,h4,h5⟩:=h;exact ⟨rfl,R,a,rd_loose h0 h1 nm2 left R,h2,h3,h4,h5⟩
theorem BoP.exact {P:Bool→Prop} {b:Bool} {w w':World} {x:Ending} (hP:P b) (h:x = .returned (.bool b)∧Below w.heap.size w w'):BoP P w x w':=⟨⟨b,hP,h.1⟩,h.2⟩
theorem dataR_kn (k:Int) (nm left:ByteArray):(Kb k nm left).1.kind=k∧(Kb k nm left).1.name=nm:=⟨rfl,rfl⟩
theorem grpR_kn (k:Int) (nm left:ByteArray):(grpR k nm left).1.kind=k∧(grpR k nm left).1.name=nm:=⟨rfl,rfl⟩
theorem formOk0:FormOk 0 187 189 188 where
 nm s W hs ht:=(Xs s W (by unfold maxLen;omega) ht.mx).mono fun _ _ h=>BoP.exact ⟨fun _=>rfl,fun h=>absurd h (by decide)⟩ h
 va e a W hw hs ht:=(validData_any e a W hw hs ht).mono fun _ _ h=>BoP.exact ⟨fun _=>rfl,fun h=>absurd h (by decide)⟩ h
 fw c g e a W hc hg hw hs hgc:=(data_w c g e a ⟨#[]⟩ W hc hg hw hs (by decide) hgc).mono fun _ _ ⟨h1,h2,h3⟩=>⟨h1,_,⟨fun _=>rfl,fun h=>absurd h (by decide)⟩,dataW_size e hs,h2,h3⟩
 fr c r g nm left W hc hr hg hs hnm n1 n2 n3:=(data_r c r g 0 nm left W hc hr hg hs n1 n2 n3).mono fun _ _ ⟨h1,a,h2,h3,h4,h5⟩=>⟨h1,_,a,⟨fun _=>rfl,fun h=>absurd h (by decide)⟩,dataR_sm 0 nm left hnm,(dataR_kn 0 nm left).1,(dataR_kn 0 nm left).2,h2,h3,h4,h5⟩
theorem formOk1:FormOk 1 190 195 191 where
 nm s W hs ht:=(Fk s W (by unfold maxLen;omega) ht.mx).mono fun _ _ h=>BoP.exact ⟨fun h=>absurd h (by decide),fun _=>rfl⟩ h
 va e a W _ hs ht:=(groupV_any e a W hs ht).mono fun _ _ h=>BoP.exact ⟨fun h=>absurd h (by decide),fun _=>rfl⟩ h
 fw c g e a W hc hg hw hs hgc:=(group_w c g e a ⟨#[]⟩ W hc hg hw hs (by decide) hgc).mono fun _ _ ⟨h1,h2,h3⟩=>⟨h1,_,⟨fun h=>absurd h (by decide),fun _=>rfl⟩,grpW_size e hs,h2,h3⟩
 fr c r g nm left W hc hr hg hs hnm n1 n2 n3:=(group_r c r g 1 nm left W hc hr hg hs n1 n2 n3).mono fun _ _ ⟨h1,a,h2,h3,h4,h5⟩=>⟨h1,_,a,⟨fun h=>absurd h (by decide),fun _=>rfl⟩,grpR_sm 1 nm left hnm,(grpR_kn 1 nm left).1,(grpR_kn 1 nm left).2,h2,h3,h4,h5⟩
theorem formOk2:FormOk 2 198 201 200 where
 nm s W hs ht:=(aliasN_any s W hs ht).mono fun _ _ h=>h.bo (nm_loose (by decide) (by decide) s)
 va e a W _ hs ht:=(aliasV_any e a W hs ht).mono fun _ _ h=>h.bo (va_loose (by decide) (by decide) e)
 fw c g e a W hc hg _ hs _:=(alias_w c g e a W hc hg hs).mono fun _ _ h=>h.loose (by decide) (by decide)
 fr c r g nm left W hc hr hg hs hnm n1 _ _:=(alias_r c r g 2 nm left W hc hr hg hs hnm n1).mono fun _ _ h=>h.loose (by decide) (by decide)
theorem formOk3:FormOk 3 202 206 204 where
 nm s W hs ht:=(catN_any s W hs ht).mono fun _ _ h=>h.bo (nm_loose (by decide) (by decide) s)
 va e a W _ _ ht:=(catV_any e a W ht).mono fun _ _ h=>h.bo (va_loose (by decide) (by decide) e)
 fw c g e a W hc hg _ hs _:=(cat_w c g e a W hc hg hs).mono fun _ _ h=>h.loose (by decide) (by decide)
 fr c r g nm left W hc hr hg hs hnm n1 _ _:=(cat_r c r g 3 nm left W hc hr hg hs hnm n1).mono fun _ _ h=>h.loose (by decide) (by decide)
theorem formOk4:FormOk 4 207 209 208 where
 nm s W hs ht:=(pattern_any s W (by unfold maxLen;omega) ht.mx).mono fun _ _ h=>h.bo (nm_loose (by decide) (by decide) s)
 va e a W hw hs ht:=(Kj e a W hw hs ht).mono fun _ _ h=>h.bo (va_loose (by decide) (by decide) e)
 fw c g e a W hc hg hw hs hgc:=(profile_w c g e a W hc hg hw hs hgc).mono fun _ _ h=>h.loose (by decide) (by decide)
 fr c r g nm left W hc hr hg hs hnm n1 n2 n3:=(profile_r c r g 4 nm left W hc hr hg hs hnm n1 n2 n3).mono fun _ _ h=>h.loose (by decide) (by decide)
theorem fm_form (k:Int) (h0:0≤k) (h4:k≤4):∃ (L:Int) (nf ff vf:Nat),fmV k=EFV L nf ff vf∧FormOk k nf vf ff∧FormC nf ff vf∧65≤L∧L≤80∧(L=68↔k=0)∧(L=71↔k=1):=by
 have:k=0∨k=1∨k=2∨k=3∨k=4:=by omega
 rcases this with rfl|rfl|rfl|rfl|rfl
 ·exact ⟨68,_,_,_,rfl,formOk0,formC0,by decide,by decide,by decide,by decide⟩
 ·exact ⟨71,_,_,_,rfl,formOk1,formC1,by decide,by decide,by decide,by decide⟩
 ·exact ⟨65,_,_,_,rfl,formOk2,formC2,by decide,by decide,by decide,by decide⟩
 ·exact ⟨67,_,_,_,rfl,formOk3,formC3,by decide,by decide,by decide,by decide⟩
 ·exact ⟨80,_,_,_,rfl,formOk4,formC4,by decide,by decide,by decide,by decide⟩
end
section
set_option maxRecDepth 100000
set_option maxHeartbeats 4000000
open Go.RowKit
noncomputable instance:DecidableEq En:=fun a b=>Classical.propDecidable (a=b)
theorem heap_at2 {w:World} {b:Nat} {o:Obj} (h:w.heap[b]? =some o) (o2:Obj):(w.alloc o2).heap[b]? =some o:=by
 rcases Nat.lt_or_ge b w.heap.size with hb|hb
 ·simp only [World.alloc]
  rw [Array.getElem?_push_lt hb,←Array.getElem?_eq_getElem hb];exact h
 ·rw [Array.getElem?_eq_none hb] at h
  cases h
theorem EB.row {e:En} {a:EnA} {w W:World} (h:EB e a w W) (ht:Sta w) {g:Nat} (hg:w.heap.size+1≤g) (cs:Array Value):EB e a w (W.setRow g cs):=
 ⟨Ul h.e1 (by omega),U6 h.be (by omega) _,by simpa using h.sz,ht.after (U6 h.be (by omega) _)⟩
theorem Xr {P:Program} {md:Region.Mode} {ops:Array Oper} {Q:Exit→Act→World→Prop} {S S':World→Prop} (hS:∀ w,S' w→S w):
  ∀ (fuel:Nat) (listed:Array Bool) (a:Act) (w:World),wpAnyH P md ops Q S' fuel listed a w→wpAnyH P md ops Q S fuel listed a w
 |0,_,_,_,h=>h
 |fuel+1,_,_,_,h=>⟨h.1,fun i hi=>wpOp_mono (fun a' w' h'=>⟨hS _ h'.1,Xr hS fuel _ a' w' h'.2⟩) (h.2 i hi)⟩
def bodyF (k:Int) (e:En):ByteArray:=if k=0 then dataW ⟨#[]⟩ e else grpW ⟨#[]⟩ e
def readF (k:Int) (nm left:ByteArray):En×ByteArray×Int:=if k=0 then Kb 0 nm left else grpR 1 nm left
def nameF (k:Int) (s:ByteArray):Bool:=if k=0 then Xn s else I3 s
def fldF (k:Int) (e:En):Bool:=if k=0 then dataB e else grpB e
noncomputable def validE (e:En):Bool:=nameF e.kind e.name&&(fldF e.kind e&&(decide (Zw (readF e.kind e.name (bodyF e.kind e)).2.1 (readF e.kind e.name (bodyF e.kind e)).2.2=0)&&decide ((readF e.kind e.name (bodyF e.kind e)).1=e)))
def valP (e:En) (b:Bool):Prop:=e.kind=0∨e.kind=1→b=validE e
theorem nmP_eq {k:Int} {s:ByteArray} {b:Bool} (h:nmP k s b) (hk:k=0∨k=1):b=nameF k s:=by
 rcases hk with rfl|rfl
 ·exact h.1 rfl
 ·exact h.2 rfl
theorem vaP_eq {k:Int} {e:En} {b:Bool} (h:vaP k e b) (hk:k=0∨k=1):b=fldF k e:=by
 rcases hk with rfl|rfl
 ·exact h.1 rfl
 ·exact h.2 rfl
theorem wrP_eq {k:Int} {e:En} {s:ByteArray} (h:wrP k e s) (hk:k=0∨k=1):s=bodyF k e:=by
 rcases hk with rfl|rfl
 ·exact h.1 rfl
 ·exact h.2 rfl
theorem rdP_eq {k:Int} {nm left:ByteArray} {R:En×ByteArray×Int} (h:rdP k nm left R) (hk:k=0∨k=1):R=readF k nm left:=by
 rcases hk with rfl|rfl
 ·exact h.1 rfl
 ·exact h.2 rfl
theorem valP_of {e:En} {n v:Bool} {s:ByteArray} {R:En×ByteArray×Int} (h1:nmP e.kind e.name n) (h2:vaP e.kind e v) (h3:wrP e.kind e s) (h4:rdP e.kind e.name s R):valP e (n&&(v&&(decide (Zw R.2.1 R.2.2=0)&&decide (R.1=e)))):=by
 intro hk;have e4:=rdP_eq h4 hk;have e3:=wrP_eq h3 hk;subst e4;subst e3;rw [nmP_eq h1 hk,vaP_eq h2 hk];rfl
theorem valP_n {e:En} (h1:nmP e.kind e.name false):valP e false:=by
 intro hk;unfold validE;rw [←nmP_eq h1 hk];rfl
theorem valP_v {e:En} (h2:vaP e.kind e false):valP e false:=by
 intro hk;unfold validE;rw [←vaP_eq h2 hk];simp
theorem evalid_any (e:En) (a:EnA) (w:World) (hw:EW [] w e a) (hs:Sm e) (h0:0≤e.kind) (h4:e.kind≤4) (ht:Sta w):
  Calls prog 214 #[.agg (enC e a).toArray] w (BoP (valP e) w):=by
 obtain ⟨L,nf,ff,vf,hfm,hF,hC,hL0,hL1,_⟩:=fm_form e.kind h0 h4;have HX:=Hd (EB.new e a w ht);have HLK:Hid (∀ W b,W.heap[b]? =some (.map fm5 5)→(Instr.lookup 231 (.map (some b)) (.int .i64 e.kind) true).run prog W = .ok (.tuple #[.agg (fvC L nf ff vf),.bool true]) W):=Hd fun W b hb=>by have h:=fLook W b e.kind hb h0 h4 true;rw [hfm] at h;exact h
 have HF:=Hd hF;have HC:=Hd hC;have HS:=Hd hs;have HT:=Hd ht;have HW:=Hd hw;clear hw hs h0 h4 ht hfm hF hC hL0 hL1;go_enter Tryz.func214,Tryz.ntmps214;go_wp2_with fail;have HXd:Hid (EB e a w (w.alloc (.cells (enC e a).toArray 159)).drew):=Hd (HX.out.next (Bf _ _).drew);refine Rw (S:=fun w'=>EB e a w w') (by kernel_rfl) HXd.out (fun Hh=>?_);refine tk 1 (.pointer (some ⟨w.heap.size,0,none⟩)) Hh ?_;refine tk 2 (.int .i64 e.kind) Hh ?_ (y:=by exact Or.inl ⟨by rfl,by intro w' hSw;have h1:=hSw.cell 0 (.int .i64 e.kind) rfl;go_simp⟩);refine Ar (rs:=[0,7]) (by kernel_rfl) (by simp) ?_;refine Rc (fun K hK=>?_) ?_
 ·go_simp
  refine (Yd _).mono ?_;rintro x w3 ⟨rfl,rfl⟩;simp only [];refine hK.out _ _ (Hh.alloc _) (fun Hh=>?_);clear hK K;try simp only [Act.put,Sv,Sz,Sw]
  refine Xr (S':=fun w'=>EB e a w w'∧w'.heap[(w.heap.size+1)]? =some (.map fm5 5)) (fun _ h=>h.1) _ _ _ _ ?_
  replace Hh:EB e a w ((w.alloc (.cells (enC e a).toArray 159)).drew.alloc (.map fm5 5))∧((w.alloc (.cells (enC e a).toArray 159)).drew.alloc (.map fm5 5)).heap[(w.heap.size+1)]? =some (.map fm5 5):=⟨Hh,Uo _ _ _ (by simp [World.drew])⟩
  refine tk 3 (.tuple #[.agg (fvC L nf ff vf),.bool true]) Hh ?_ (y:=by exact Or.inl ⟨by rfl,by intro w' hSw;have h1:=HLK.out w' ((w.heap.size+1)) hSw.2;go_simp⟩);refine tk 4 (.tuple #[.agg (fvC L nf ff vf),.bool true]) Hh ?_;refine tk 5 (.agg (fvC L nf ff vf)) Hh ?_;refine tk 6 (.bool true) Hh ?_;refine Ar (rs:=[7]) (by kernel_rfl) (by simp) ?_;refine Rc (fun K hK=>?_) ?_
  ·go_simp
   refine hK.out _ _ ⟨Hh.1.alloc _,heap_at2 Hh.2 _⟩ (fun Hh=>?_);clear hK K;try simp only [Act.put,Sv,Sz,Sw]
   have HBG:Hid (Blk (((w.alloc (.cells (enC e a).toArray 159)).alloc (.map fm5 5)).alloc (.cells #[.int .u8 0,.nilFunc,.nilFunc,.nilFunc] 236)).drew (w.heap.size+2) 236 #[.int .u8 0,.nilFunc,.nilFunc,.nilFunc]):=Hd (U3 ((w.alloc (.cells (enC e a).toArray 159)).alloc (.map fm5 5)) _ _ _ (by simp)).drew;refine Ar (rs:=[8]) (by kernel_rfl) (by simp) ?_;refine Rc (fun K hK=>?_) ?_
   ·refine wp_store_row 236 _ _ rfl ((w.heap.size+2)) (fvC L nf ff vf) rfl rfl 236 #[.int .u8 0,.nilFunc,.nilFunc,.nilFunc] HBG.out (by kernel_rfl) rfl (G9 _ _ _ _) ?_
    refine hK.out _ _ ⟨Hh.1.row HT.out (by omega) _,(setRow_other _ _ _ _ (by omega)).trans Hh.2⟩ (fun Hh=>?_);clear hK K;try simp only [Act.put]
    refine tk 9 (.bool true) Hh ?_;refine Ad (by kernel_rfl) ?_ _;have HXf:Hid (EB e a w ((((w.alloc (.cells (enC e a).toArray 159)).alloc (.map fm5 5)).alloc (.cells #[.int .u8 0,.nilFunc,.nilFunc,.nilFunc] 236)).drew.setRow ((w.heap.size+2)) (fvC L nf ff vf))):=Hd Hh.1;have HGf:Hid (Blk ((((w.alloc (.cells (enC e a).toArray 159)).alloc (.map fm5 5)).alloc (.cells #[.int .u8 0,.nilFunc,.nilFunc,.nilFunc] 236)).drew.setRow ((w.heap.size+2)) (fvC L nf ff vf)) ((w.heap.size+2)) 236 (fvC L nf ff vf)):=Hd (setRow_heap _ _ _ (fvC L nf ff vf) _ _ HBG.out);have f1:=(HGf.out.cell 1).trans (show _=some (Value.func (.func nf) #[] #[]) from rfl);have c1:=HXf.out.cell 1 (.string e.name) rfl;have hcn:=HC.out.n;have hcv:=HC.out.v;clear Hh HBG;go_wp2_with ((with_reducible show Calls _ _ _ _ _);refine Stop.go ?_);refine Stop.in' ?_;rename_i K hK X hX
    refine (HF.out.nm e.name _ HS.out.nm HXf.out.st).mono ?_;rintro x w4 ⟨⟨nb,hn,rfl⟩,hb⟩;have HX4:=Hd (HXf.out.next hb);have HG4:=Hd (HGf.out.below hb HGf.out.lt);clear hb f1 c1 hcn;simp only [];refine hX _ _ ?_;clear hX;try simp only [Act.put,Sv,Sz,Sw]
    cases nb with
    |false=>
     refine Wv (.bool true) ?_;refine Wv (.bool true) ?_;refine Wv (.bool true) ?_;refine Wk ?_;refine Wk ?_;refine Wk ?_;refine Wk ?_;refine Wk ?_;refine Wv (.bool true) ?_;refine wpList_nil ?_;simp only [Exit.then];refine hK _ _ ?_;clear hK;go_wp2;go_ret;exact ⟨⟨false,valP_n hn,rfl⟩,HX4.out.be⟩
    |true=>
     refine Wv (.bool false) ?_;refine Wv (.bool false) ?_;refine Wv (.bool false) ?_;refine Wv (.pointer (some ⟨(w.heap.size+2),3,none⟩)) ?_;have f3:=(HG4.out.cell 3).trans (show _=some (Value.func (.func vf) #[] #[]) from rfl);refine Wv (.func (.func vf) #[] #[]) ?_ (r:=by go_simp);clear f3;refine U7 (by kernel_rfl) 159 _ rfl w.heap.size rfl 159 (enC e a).toArray (0,0) _ HX4.out.e1 Tryz.underlying159 rfl (by kernel_rfl) ?_;simp only [Act.put,Sv,Sz,Sw];refine V0 (by kernel_rfl) vf #[.agg (enC e a).toArray] (by go_simp) ?_;clear hcv;refine (HF.out.va e a _ (HW.out.below HX4.out.be) HS.out HX4.out.st).mono ?_;rintro x w5 ⟨⟨vb,hv,rfl⟩,hb⟩;have HX5:=Hd (HX4.out.next hb);have HG5:=Hd (HG4.out.below hb HG4.out.lt);clear hb;simp only [];try simp only [Act.put,Sv,Sz,Sw]
     cases vb with
     |false=>
      refine Wv (.bool true) ?_;refine Wv (.bool true) ?_;refine wpList_nil ?_;simp only [Exit.then];refine hK _ _ ?_;clear hK;go_wp2;go_ret;exact ⟨⟨false,valP_v hv,rfl⟩,HX5.out.be⟩
     |true=>
      refine Wv (.bool false) ?_;refine Wv (.bool false) ?_;refine wpList_nil ?_;simp only [Exit.then];refine hK _ _ ?_;clear hK
      go_wp2_with (first|((with_reducible refine Gl 236 3 ?_);refine Lr rfl 236 _ rfl ((w.heap.size+2)) rfl 236 (fvC L nf ff vf) (0,0) _ HG5.out Tryz.underlying236 rfl (by kernel_rfl) ?_)|((with_reducible refine Gl 159 1 ?_);refine Lr rfl 159 _ rfl (w.heap.size) rfl 159 ((enC e a).toArray) (0,0) _ HX5.out.e1 Tryz.underlying159 rfl (by kernel_rfl) ?_)|(go_at_call 268;refine (bare_g HF.out HC.out e a _ (HW.out.below HX5.out.be) HS.out rfl).mono ?_;rintro x w6 ⟨⟨s,R,a',h1,h2,h3,h4,h5,rfl,hew⟩,hb⟩;obtain ⟨q,hq⟩:∃ q,decide (Zw R.2.1 R.2.2=0)=q:=⟨_,rfl⟩;rw [hq];have HQ:=Hd hq;have HR:=Hd (And.intro h1 (And.intro h2 h3));have HX6:=Hd (HX5.out.next hb);have HE6:=Hd hew;have HB6:=Hd fun old=>Blk.new w6 159 old;have HS6:=Hd fun old=>U1 w6 old (enC R.1 a').toArray 159;have HO6:=Hd (V4 R.1 a');clear h1 h2 h3 h4 h5 hew hb hq)|((with_reducible refine Gt 159 5 ?_);refine Lt rfl 159 _ _ rfl w6.heap.size (enC R.1 a').toArray rfl rfl 159 _ (HB6.out _) (by kernel_rfl) rfl HO6.out ?_;rw [HS6.out];refine Stop.go ?_))
      refine Stop.in' ?_;rename_i K2 hK2;have HX7:=Hd (HX6.out.alloc (.cells (enC R.1 a').toArray 159));refine Wv (.bool q) ?_;refine wpList_nil ?_;simp only [Exit.then];refine hK2 _ _ ?_;clear hK2;refine wp_seq_k fun K3 hK3=>?_
      refine wp_region_lit ?_;refine Wv (.bool q) ?_;refine Wv (.bool q) ?_;have hvp:=valP_of hn hv HR.out.1 HR.out.2.1;rw [HQ.out] at hvp;cases q with
      |false=>
       refine Wk ?_;refine Wk ?_;refine Wk ?_;refine Wv (.bool false) ?_;refine Wv (.bool false) ?_;refine wpList_nil ?_;simp only [Exit.then];refine hK3 _ _ ?_;clear hK3;go_wp2;go_ret;exact ⟨⟨false,by simpa using hvp,rfl⟩,HX7.out.be⟩
      |true=>
       refine U7 (by kernel_rfl) 159 _ rfl w6.heap.size rfl 159 (enC R.1 a').toArray (0,0) _ (Blk.new w6 _ _) Tryz.underlying159 rfl (by kernel_rfl) ?_;simp only [Act.put,Sv,Sz,Sw];refine U7 (by kernel_rfl) 159 _ rfl w.heap.size rfl 159 (enC e a).toArray (0,0) _ HX7.out.e1 Tryz.underlying159 rfl (by kernel_rfl) ?_;simp only [Act.put,Sv,Sz,Sw];refine V0 (by kernel_rfl) 154 #[.agg (enC R.1 a').toArray,.agg (enC e a).toArray] (by kernel_rfl) ?_;refine (same_any R.1 e a' a _ (HE6.out.below ((Bf _ _).alloc (Le _) _)) (HW.out.below HX7.out.be) (by have:=HR.out.2.2.la;omega) (by have:=HS.out.la;omega) (by have:=HR.out.2.2.lg;omega) (by have:=HS.out.lg;omega)).mono ?_;rintro x w7 ⟨⟨z,rfl,hz⟩,hb⟩;have HX8:=Hd (HX7.out.next hb);clear hb;simp only [];try simp only [Act.put,Sv,Sz,Sw]
       have hvz:valP e z:=by
        have e1:z=decide (R.1=e):=by
         cases z
         ·exact (decide_eq_false (fun h=>by cases hz.2 h)).symm
         ·exact (decide_eq_true (hz.1 rfl)).symm
        rw [e1];simpa using hvp
       refine Wv (.bool z) ?_;refine Wv (.bool z) ?_;refine wpList_nil ?_;simp only [Exit.then];refine hK3 _ _ ?_;clear hK3;go_wp2;go_ret;exact ⟨⟨z,hvz,rfl⟩,HX8.out.be⟩
   exact An
  exact An
 refine Rc (fun K hK=>?_) ?_
 ·go_simp
  refine hK.out _ _ (Hh.alloc _) (fun Hh=>?_);clear hK K;try simp only [Act.put,Sv,Sz,Sw]
  refine Ar (rs:=[0]) (by kernel_rfl) (by simp) ?_;refine Rc (fun K hK=>?_) ?_
  ·go_simp
   refine (Yd _).mono ?_;rintro x w3 ⟨rfl,rfl⟩;simp only [];refine hK.out _ _ (Hh.alloc _) (fun Hh=>?_);clear hK K;try simp only [Act.put,Sv,Sz,Sw]
   refine Xr (S':=fun w'=>EB e a w w'∧w'.heap[(w.heap.size+2)]? =some (.map fm5 5)) (fun _ h=>h.1) _ _ _ _ ?_
   replace Hh:EB e a w (((w.alloc (.cells (enC e a).toArray 159)).drew.alloc (.cells #[.int .u8 0,.nilFunc,.nilFunc,.nilFunc] 236)).alloc (.map fm5 5))∧(((w.alloc (.cells (enC e a).toArray 159)).drew.alloc (.cells #[.int .u8 0,.nilFunc,.nilFunc,.nilFunc] 236)).alloc (.map fm5 5)).heap[(w.heap.size+2)]? =some (.map fm5 5):=⟨Hh,Uo _ _ _ (by simp [World.drew])⟩
   refine tk 3 (.tuple #[.agg (fvC L nf ff vf),.bool true]) Hh ?_ (y:=by exact Or.inl ⟨by rfl,by intro w' hSw;have h1:=HLK.out w' ((w.heap.size+2)) hSw.2;go_simp⟩);refine tk 4 (.tuple #[.agg (fvC L nf ff vf),.bool true]) Hh ?_;refine tk 5 (.agg (fvC L nf ff vf)) Hh ?_;refine tk 6 (.bool true) Hh ?_;have HBG:Hid (Blk (((w.alloc (.cells (enC e a).toArray 159)).alloc (.cells #[.int .u8 0,.nilFunc,.nilFunc,.nilFunc] 236)).alloc (.map fm5 5)).drew (w.heap.size+1) 236 #[.int .u8 0,.nilFunc,.nilFunc,.nilFunc]):=Hd ((U3 (w.alloc (.cells (enC e a).toArray 159)) _ _ _ (by simp)).alloc _).drew;refine Ar (rs:=[8]) (by kernel_rfl) (by simp) ?_;refine Rc (fun K hK=>?_) ?_
   ·refine wp_store_row 236 _ _ rfl ((w.heap.size+1)) (fvC L nf ff vf) rfl rfl 236 #[.int .u8 0,.nilFunc,.nilFunc,.nilFunc] HBG.out (by kernel_rfl) rfl (G9 _ _ _ _) ?_
    refine hK.out _ _ ⟨Hh.1.row HT.out (by omega) _,(setRow_other _ _ _ _ (by omega)).trans Hh.2⟩ (fun Hh=>?_);clear hK K;try simp only [Act.put]
    refine tk 9 (.bool true) Hh ?_;refine Ad (by kernel_rfl) ?_ _;have HXf:Hid (EB e a w ((((w.alloc (.cells (enC e a).toArray 159)).alloc (.cells #[.int .u8 0,.nilFunc,.nilFunc,.nilFunc] 236)).alloc (.map fm5 5)).drew.setRow ((w.heap.size+1)) (fvC L nf ff vf))):=Hd Hh.1;have HGf:Hid (Blk ((((w.alloc (.cells (enC e a).toArray 159)).alloc (.cells #[.int .u8 0,.nilFunc,.nilFunc,.nilFunc] 236)).alloc (.map fm5 5)).drew.setRow ((w.heap.size+1)) (fvC L nf ff vf)) ((w.heap.size+1)) 236 (fvC L nf ff vf)):=Hd (setRow_heap _ _ _ (fvC L nf ff vf) _ _ HBG.out);have f1:=(HGf.out.cell 1).trans (show _=some (Value.func (.func nf) #[] #[]) from rfl);have c1:=HXf.out.cell 1 (.string e.name) rfl;have hcn:=HC.out.n;have hcv:=HC.out.v;clear Hh HBG;go_wp2_with ((with_reducible show Calls _ _ _ _ _);refine Stop.go ?_);refine Stop.in' ?_;rename_i K hK X hX
    refine (HF.out.nm e.name _ HS.out.nm HXf.out.st).mono ?_;rintro x w4 ⟨⟨nb,hn,rfl⟩,hb⟩;have HX4:=Hd (HXf.out.next hb);have HG4:=Hd (HGf.out.below hb HGf.out.lt);clear hb f1 c1 hcn;simp only [];refine hX _ _ ?_;clear hX;try simp only [Act.put,Sv,Sz,Sw]
    cases nb with
    |false=>
     refine Wv (.bool true) ?_;refine Wv (.bool true) ?_;refine Wv (.bool true) ?_;refine Wk ?_;refine Wk ?_;refine Wk ?_;refine Wk ?_;refine Wk ?_;refine Wv (.bool true) ?_;refine wpList_nil ?_;simp only [Exit.then];refine hK _ _ ?_;clear hK;go_wp2;go_ret;exact ⟨⟨false,valP_n hn,rfl⟩,HX4.out.be⟩
    |true=>
     refine Wv (.bool false) ?_;refine Wv (.bool false) ?_;refine Wv (.bool false) ?_;refine Wv (.pointer (some ⟨(w.heap.size+1),3,none⟩)) ?_;have f3:=(HG4.out.cell 3).trans (show _=some (Value.func (.func vf) #[] #[]) from rfl);refine Wv (.func (.func vf) #[] #[]) ?_ (r:=by go_simp);clear f3;refine U7 (by kernel_rfl) 159 _ rfl w.heap.size rfl 159 (enC e a).toArray (0,0) _ HX4.out.e1 Tryz.underlying159 rfl (by kernel_rfl) ?_;simp only [Act.put,Sv,Sz,Sw];refine V0 (by kernel_rfl) vf #[.agg (enC e a).toArray] (by go_simp) ?_;clear hcv;refine (HF.out.va e a _ (HW.out.below HX4.out.be) HS.out HX4.out.st).mono ?_;rintro x w5 ⟨⟨vb,hv,rfl⟩,hb⟩;have HX5:=Hd (HX4.out.next hb);have HG5:=Hd (HG4.out.below hb HG4.out.lt);clear hb;simp only [];try simp only [Act.put,Sv,Sz,Sw]
     cases vb with
     |false=>
      refine Wv (.bool true) ?_;refine Wv (.bool true) ?_;refine wpList_nil ?_;simp only [Exit.then];refine hK _ _ ?_;clear hK;go_wp2;go_ret;exact ⟨⟨false,valP_v hv,rfl⟩,HX5.out.be⟩
     |true=>
      refine Wv (.bool false) ?_;refine Wv (.bool false) ?_;refine wpList_nil ?_;simp only [Exit.then];refine hK _ _ ?_;clear hK
      go_wp2_with (first|((with_reducible refine Gl 236 3 ?_);refine Lr rfl 236 _ rfl ((w.heap.size+1)) rfl 236 (fvC L nf ff vf) (0,0) _ HG5.out Tryz.underlying236 rfl (by kernel_rfl) ?_)|((with_reducible refine Gl 159 1 ?_);refine Lr rfl 159 _ rfl (w.heap.size) rfl 159 ((enC e a).toArray) (0,0) _ HX5.out.e1 Tryz.underlying159 rfl (by kernel_rfl) ?_)|(go_at_call 268;refine (bare_g HF.out HC.out e a _ (HW.out.below HX5.out.be) HS.out rfl).mono ?_;rintro x w6 ⟨⟨s,R,a',h1,h2,h3,h4,h5,rfl,hew⟩,hb⟩;obtain ⟨q,hq⟩:∃ q,decide (Zw R.2.1 R.2.2=0)=q:=⟨_,rfl⟩;rw [hq];have HQ:=Hd hq;have HR:=Hd (And.intro h1 (And.intro h2 h3));have HX6:=Hd (HX5.out.next hb);have HE6:=Hd hew;have HB6:=Hd fun old=>Blk.new w6 159 old;have HS6:=Hd fun old=>U1 w6 old (enC R.1 a').toArray 159;have HO6:=Hd (V4 R.1 a');clear h1 h2 h3 h4 h5 hew hb hq)|((with_reducible refine Gt 159 5 ?_);refine Lt rfl 159 _ _ rfl w6.heap.size (enC R.1 a').toArray rfl rfl 159 _ (HB6.out _) (by kernel_rfl) rfl HO6.out ?_;rw [HS6.out];refine Stop.go ?_))
      refine Stop.in' ?_;rename_i K2 hK2;have HX7:=Hd (HX6.out.alloc (.cells (enC R.1 a').toArray 159));refine Wv (.bool q) ?_;refine wpList_nil ?_;simp only [Exit.then];refine hK2 _ _ ?_;clear hK2;refine wp_seq_k fun K3 hK3=>?_
      refine wp_region_lit ?_;refine Wv (.bool q) ?_;refine Wv (.bool q) ?_;have hvp:=valP_of hn hv HR.out.1 HR.out.2.1;rw [HQ.out] at hvp;cases q with
      |false=>
       refine Wk ?_;refine Wk ?_;refine Wk ?_;refine Wv (.bool false) ?_;refine Wv (.bool false) ?_;refine wpList_nil ?_;simp only [Exit.then];refine hK3 _ _ ?_;clear hK3;go_wp2;go_ret;exact ⟨⟨false,by simpa using hvp,rfl⟩,HX7.out.be⟩
      |true=>
       refine U7 (by kernel_rfl) 159 _ rfl w6.heap.size rfl 159 (enC R.1 a').toArray (0,0) _ (Blk.new w6 _ _) Tryz.underlying159 rfl (by kernel_rfl) ?_;simp only [Act.put,Sv,Sz,Sw];refine U7 (by kernel_rfl) 159 _ rfl w.heap.size rfl 159 (enC e a).toArray (0,0) _ HX7.out.e1 Tryz.underlying159 rfl (by kernel_rfl) ?_;simp only [Act.put,Sv,Sz,Sw];refine V0 (by kernel_rfl) 154 #[.agg (enC R.1 a').toArray,.agg (enC e a).toArray] (by kernel_rfl) ?_;refine (same_any R.1 e a' a _ (HE6.out.below ((Bf _ _).alloc (Le _) _)) (HW.out.below HX7.out.be) (by have:=HR.out.2.2.la;omega) (by have:=HS.out.la;omega) (by have:=HR.out.2.2.lg;omega) (by have:=HS.out.lg;omega)).mono ?_;rintro x w7 ⟨⟨z,rfl,hz⟩,hb⟩;have HX8:=Hd (HX7.out.next hb);clear hb;simp only [];try simp only [Act.put,Sv,Sz,Sw]
       have hvz:valP e z:=by
        have e1:z=decide (R.1=e):=by
         cases z
         ·exact (decide_eq_false (fun h=>by cases hz.2 h)).symm
         ·exact (decide_eq_true (hz.1 rfl)).symm
        rw [e1];simpa using hvp
       refine Wv (.bool z) ?_;refine Wv (.bool z) ?_;refine wpList_nil ?_;simp only [Exit.then];refine hK3 _ _ ?_;clear hK3;go_wp2;go_ret;exact ⟨⟨z,hvz,rfl⟩,HX8.out.be⟩
   exact An
  exact An
 exact An
end
section
set_option maxRecDepth 100000
set_option maxHeartbeats 4000000
open Go.RowKit
def keyF (L:Int) (nm:ByteArray):ByteArray:=if 31<nm.size then ⟨#[]⟩ else strOfNums [L]++nm ++ ⟨(Lib.repeatL [32] (31-nm.size)).toArray⟩
theorem byte1 (W:World) (g:Nat) (a:Int) (h:Blk W g 5 #[.int .u8 a]):(convert 175 9 (.slice (some ⟨g,0,none⟩) 1 1)).run prog W = .ok (.string (strOfNums [a])) W:=
 Eg _ g 1 1 5 [a] h rfl
theorem Ej (a:Int):(strOfNums [a]).size=1:=rfl
theorem key_any (k L:Int) (nf ff vf:Nat) (nm:ByteArray) (w:World) (h0:0≤k) (h4:k≤4) (hfm:fmV k=EFV L nf ff vf) (hs:nm.size≤1000):
  Calls prog 215 #[.int .i64 k,.string nm] w fun x w'=>x = .returned (.string (keyF L nm))∧Below w.heap.size w w':=by
 have hlk:(Instr.lookup 231 (.map (some w.heap.size)) (.int .i64 k) true).run prog (w.alloc (.map fm5 5)) = .ok (.tuple #[.agg (fvC L nf ff vf),.bool true]) (w.alloc (.map fm5 5)):=by
  have h:=fLook (w.alloc (.map fm5 5)) w.heap.size k (heap_alloc_new w _) h0 h4 true;rw [hfm] at h;exact h
 have hbz:(w.alloc (.map fm5 5)).heap.size=w.heap.size+1:=by simp
 have HB1:Hid (∀ old,Blk ((w.alloc (.map fm5 5)).alloc (.cells old 236)) (w.heap.size+1) 236 old):=Hd fun old=>U3 (w.alloc (.map fm5 5)) _ _ (w.heap.size+1) (by simp)
 have HS1:Hid (∀ old,((w.alloc (.map fm5 5)).alloc (.cells old 236)).setRow (w.heap.size+1) (fvC L nf ff vf)=(w.alloc (.map fm5 5)).alloc (.cells (fvC L nf ff vf) 236)):=Hd fun old=>by have h:=U1 (w.alloc (.map fm5 5)) old (fvC L nf ff vf) 236;rwa [hbz] at h
 have HO1:=Hd (G9 L nf ff vf);have HB:Hid (Below w.heap.size w ((w.alloc (.map fm5 5)).alloc (.cells (fvC L nf ff vf) 236))):=Hd (((Bf _ _).alloc (Le _) _).alloc (by simp) _);clear hbz h0 h4 hfm;unfold keyF;by_cases hz:31<nm.size
 ·rw [if_pos hz]
  have hd:decide ((31:Int)<(nm.size:Int))=true:=decide_eq_true (by omega);clear hz hs;go_enter Tryz.func215,Tryz.ntmps215;go_wp2_with (first|(go_at_call 150;refine (Yd _).mono ?_;rintro x w3 ⟨rfl,rfl⟩)|((with_reducible refine Gt 236 5 ?_);refine Lt rfl 236 _ _ rfl (w.heap.size+1) (fvC L nf ff vf) rfl rfl 236 _ (HB1.out _) (by kernel_rfl) rfl HO1.out ?_;rw [HS1.out]));go_ret;exact ⟨rfl,HB.out⟩
 ·rw [if_neg hz]
  have hd:decide ((31:Int)<(nm.size:Int))=false:=decide_eq_false (by omega);obtain ⟨c,hc⟩:∃ c:Nat,31-nm.size=c:=⟨_,rfl⟩
  have hcw:IntKind.i64.wrap (31-(nm.size:Int))=(c:Int):=by
   rw [show (31:Int)-(nm.size:Int)=(c:Int) by omega];rw [IntKind.wrap_i64];omega
  rw [hc];have HRP:=Hd fun W=>Tryz.strings_Repeat ⟨#[32]⟩ c W (by omega) (by rw [show (⟨#[32]⟩:ByteArray).size=1 from rfl];omega)
  have hsp:(⟨(Lib.repeatL [32] c).toArray⟩:ByteArray).size≤31:=by
   have h:=Lib.repeatL_length [32] c;show (Lib.repeatL [32] c).toArray.size≤31;rw [List.size_toArray,h];simp only [List.length_cons,List.length_nil];omega
  have h1z:=Ej L;have HCV:=Hd fun W g=>byte1 W g L
  obtain ⟨sp,hsp2⟩:∃ sp,(⟨(Lib.repeatL [32] c).toArray⟩:ByteArray)=sp:=⟨_,rfl⟩
  obtain ⟨s1,hs1⟩:∃ s1,strOfNums [L]=s1:=⟨_,rfl⟩
  rw [hsp2] at HRP hsp ⊢;rw [hs1] at HCV h1z ⊢;have hsz1:s1.size+nm.size≤9223372036854775807:=by omega
  have hsz2:s1.size+nm.size+sp.size≤9223372036854775807:=by omega
  have HCW:=Hd hcw;have HZ:=Hd (And.intro hsz1 hsz2);clear hz hs hc hcw hsp h1z hsp2 hs1 hsz1 hsz2;go_enter Tryz.func215,Tryz.ntmps215;go_wp2_with (first|(go_at_call 150;refine (Yd _).mono ?_;rintro x w3 ⟨rfl,rfl⟩)|((with_reducible refine Gt 236 5 ?_);refine Lt rfl 236 _ _ rfl (w.heap.size+1) (fvC L nf ff vf) rfl rfl 236 _ (HB1.out _) (by kernel_rfl) rfl HO1.out ?_;rw [HS1.out]));clear hlk hd HB1 HS1 HO1;have HBF:Hid (Blk ((w.alloc (.map fm5 5)).alloc (.cells (fvC L nf ff vf) 236)).drew (w.heap.size+1) 236 (fvC L nf ff vf)):=Hd (U3 (w.alloc (.map fm5 5)) _ _ (w.heap.size+1) (by simp)).drew;obtain ⟨V,hV⟩:∃ V,((w.alloc (.map fm5 5)).alloc (.cells (fvC L nf ff vf) 236))=V:=⟨_,rfl⟩
  simp only [hV] at HB HBF ⊢;clear hV;refine Rw (S:=fun w'=>Blk w' (w.heap.size+1) 236 (fvC L nf ff vf)) (by kernel_rfl) HBF.out (fun Hh=>?_);refine tk 0 (.pointer (some ⟨w.heap.size+1,0,none⟩)) Hh ?_;refine tk 1 (.int .u8 L) Hh ?_ (y:=by exact Or.inl ⟨by rfl,by intro w' hSw;have h1:=(hSw.cell 0).trans (show _=some (Value.int .u8 L) from rfl);go_simp⟩);refine tk 4 (.string nm) Hh ?_;refine tk 6 (.string nm) Hh ?_;refine tk 7 (.int .i64 (nm.size:Int)) Hh ?_;refine tk 8 (.int .i64 (c:Int)) Hh ?_ (y:=by exact Or.inl ⟨by rfl,by intro w' hSw;have h1:=HCW.out;go_simp⟩);refine Ar (rs:=[2,9]) (by kernel_rfl) (by simp) ?_;refine Rc (fun K hK=>?_) ?_
  ·go_simp
   have hg:Blk (V.drew.alloc (.cells #[.int .u8 L] 5)) V.drew.heap.size 5 #[.int .u8 L]:=Blk.new _ _ _;refine hK.out _ _ (Hh.alloc _) (fun Hh=>?_);refine Xr (S':=fun w'=>Blk w' (w.heap.size+1) 236 (fvC L nf ff vf)∧Blk w' V.heap.size 5 #[.int .u8 L]) (fun _ h=>h.1) _ _ _ _ ?_
   replace Hh:Blk (V.drew.alloc (.cells #[.int .u8 L] 5)) (w.heap.size+1) 236 (fvC L nf ff vf)∧Blk (V.drew.alloc (.cells #[.int .u8 L] 5)) V.heap.size 5 #[.int .u8 L]:=⟨Hh,hg⟩
   clear hK K hg;try simp only [Act.put,Sv,Sz,Sw]
   refine tk 3 (.string s1) Hh ?_ (y:=by exact Or.inl ⟨by rfl,by intro w' hSw;have h1:=HCV.out w' _ hSw.2;go_simp⟩);refine tk 5 (.string (s1++nm)) Hh ?_ (y:=by exact Or.inl ⟨by rfl,by intro w' hSw;have h1:=HZ.out.1;go_simp⟩);refine Ar (rs:=[9]) (by kernel_rfl) (by simp) ?_;refine Rc (fun K hK=>?_) ?_
   ·go_simp
    refine (HRP.out _).mono ?_;rintro x w9 ⟨rfl,hb⟩;simp only [];refine hK.out _ _ ⟨Hh.1.below hb Hh.1.lt,Hh.2.below hb Hh.2.lt⟩ (fun Hh=>?_);clear hK K;try simp only [Act.put,Sv,Sz,Sw]
    have HBW:=Hd hb;refine tk 10 (.string (s1++nm++sp)) Hh ?_ (y:=by exact Or.inl ⟨by rfl,by intro w' hSw;have h1:=HZ.out.2;go_simp⟩);refine tk 11 (.string (s1++nm++sp)) Hh ?_;refine Ad (by kernel_rfl) ?_ _;clear Hh;go_wp2;go_ret;exact ⟨rfl,(U0 (HB.out.alloc HB.out.size _).drew HBW.out (by have:=HB.out.size;simp;omega))⟩
   exact An
  refine Rc (fun K hK=>?_) ?_
  ·go_simp
   refine (HRP.out _).mono ?_;rintro x w9 ⟨rfl,hb⟩;simp only [];refine hK.out _ _ (Hh.below hb Hh.lt) (fun Hh=>?_);clear hK K;try simp only [Act.put,Sv,Sz,Sw]
   have HBW:Hid (Below w.heap.size w w9):=Hd (U0 HB.out.drew hb HB.out.size);clear hb;refine Ar (rs:=[2]) (by kernel_rfl) (by simp) ?_;refine Rc (fun K hK=>?_) ?_
   ·go_simp
    have hg:Blk (w9.alloc (.cells #[.int .u8 L] 5)) w9.heap.size 5 #[.int .u8 L]:=Blk.new _ _ _;refine hK.out _ _ (Hh.alloc _) (fun Hh=>?_);refine Xr (S':=fun w'=>Blk w' (w.heap.size+1) 236 (fvC L nf ff vf)∧Blk w' w9.heap.size 5 #[.int .u8 L]) (fun _ h=>h.1) _ _ _ _ ?_
    replace Hh:Blk (w9.alloc (.cells #[.int .u8 L] 5)) (w.heap.size+1) 236 (fvC L nf ff vf)∧Blk (w9.alloc (.cells #[.int .u8 L] 5)) w9.heap.size 5 #[.int .u8 L]:=⟨Hh,hg⟩
    clear hK K hg;try simp only [Act.put,Sv,Sz,Sw]
    refine tk 3 (.string s1) Hh ?_ (y:=by exact Or.inl ⟨by rfl,by intro w' hSw;have h1:=HCV.out w' _ hSw.2;go_simp⟩);refine tk 5 (.string (s1++nm)) Hh ?_ (y:=by exact Or.inl ⟨by rfl,by intro w' hSw;have h1:=HZ.out.1;go_simp⟩);refine tk 10 (.string (s1++nm++sp)) Hh ?_ (y:=by exact Or.inl ⟨by rfl,by intro w' hSw;have h1:=HZ.out.2;go_simp⟩);refine tk 11 (.string (s1++nm++sp)) Hh ?_;refine Ad (by kernel_rfl) ?_ _;clear Hh;go_wp2;go_ret;exact ⟨rfl,(HBW.out.alloc HBW.out.size _)⟩
   exact An
  exact An
end
end Go.Proofs.YtapanepkfbamhaaGreatDoor
