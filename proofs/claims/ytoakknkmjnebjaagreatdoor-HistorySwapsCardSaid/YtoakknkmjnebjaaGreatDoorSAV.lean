/- Of HistorySwaps. -/
import Derived.Test.YtoakknkmjnebjaaGreatDoorSAU
import Derived.Maps.RangeWalk
namespace Go.Proofs.YtoakknkmjnebjaaGreatDoor
open Tryz (prog)
set_option maxRecDepth 100000
set_option maxHeartbeats 4000000
open Go.RowKit
theorem body_g {k L:Int} {nf ff vf:Nat} (hF:FormOk k nf vf ff) (hC:FormC nf ff vf) (e:En) (a:EnA) (w:Wd) (hw:EW [] w e a) (hs:Sm e):
  Calls prog 216 #[EFV L nf ff vf,.agg (enC e a).toArray] w fun x w'=>(∃ s:Bz,wrP k e s∧s.size≤100000∧x = .returned (.string s))∧Below w.heap.size w w':=by
 have hb:Below w.heap.size w (((w.alloc (.cells (fvC L nf ff vf) 236)).alloc (.cells (enC e a).toArray 159)).alloc (.cells #[.string ⟨#[]⟩,.pointer none] 240)):=(((Bf _ _).alloc (Le _) _).alloc (by simp) _).alloc (by simp;omega) _;have k1:Blk (((w.alloc (.cells (fvC L nf ff vf) 236)).alloc (.cells (enC e a).toArray 159)).alloc (.cells #[.string ⟨#[]⟩,.pointer none] 240)) w.heap.size 236 (fvC L nf ff vf):=((Blk.new w _ _).alloc _).alloc _;have k2:Blk (((w.alloc (.cells (fvC L nf ff vf) 236)).alloc (.cells (enC e a).toArray 159)).alloc (.cells #[.string ⟨#[]⟩,.pointer none] 240)) (w.heap.size+1) 159 (enC e a).toArray:=(U3 (w.alloc (.cells (fvC L nf ff vf) 236)) _ _ (w.heap.size+1) (by simp)).alloc _
 have k3:Cw (((w.alloc (.cells (fvC L nf ff vf) 236)).alloc (.cells (enC e a).toArray 159)).alloc (.cells #[.string ⟨#[]⟩,.pointer none] 240)) (w.heap.size+2) ⟨#[]⟩:=U3 ((w.alloc (.cells (fvC L nf ff vf) 236)).alloc (.cells (enC e a).toArray 159)) _ _ (w.heap.size+2) (by simp);have f2:(((w.alloc (.cells (fvC L nf ff vf) 236)).alloc (.cells (enC e a).toArray 159)).alloc (.cells #[.string ⟨#[]⟩,.pointer none] 240)).cell? ⟨w.heap.size,2,none⟩=some (.func (.func ff) #[] #[]):=(k1.cell 2).trans rfl;have eU:EW [w.heap.size+2] (((w.alloc (.cells (fvC L nf ff vf) 236)).alloc (.cells (enC e a).toArray 159)).alloc (.cells #[.string ⟨#[]⟩,.pointer none] 240)) e a:=hw.fresh hb (by intro k hk;simp at hk;omega)
 have HF:=Hd (hF.fw (w.heap.size+2) (w.heap.size+1) e a (((w.alloc (.cells (fvC L nf ff vf) 236)).alloc (.cells (enC e a).toArray 159)).alloc (.cells #[.string ⟨#[]⟩,.pointer none] 240)) k3 k2 eU hs (by omega));have kT:=hC.f;have HB:=Hd hb;clear hF hC hw hs hb k1 k2 k3 eU;unfold EFV;go_enter Tryz.func216,Tryz.ntmps216;go_wp2_with ((with_reducible show Calls _ _ _ _ _);refine HF.out.mono ?_;rintro x w2 ⟨rfl,s,h1,h2,h3,h4⟩;have H1:=Hd (And.intro h1 h2);have H4:=Hd h4;have c0:=h3.c0;clear h1 h2 h3 h4 f2 kT);go_ret;exact ⟨⟨s,H1.out.1,H1.out.2,rfl⟩,HB.out.trans (H4.out.below (by simp) (HB.out.size))⟩
theorem Um {W:Wd} {g b:Nat} {t:TypeId} {cs c2:Array Value} (h:Blk W b t cs) (hn:b≠g):Blk (W.setRow g c2) b t cs:=(setRow_other W g b c2 hn).trans h
theorem EWn.ew0 {n:Nat} {w:Wd} {e:En} {a:EnA} (h:EWn n w e a):EW [] w e a:=h.ew (by simp)
theorem far_row (W:Wd) (g:Nat) (cs:Array Value):Far [g] W (W.setRow g cs):=⟨rfl,rfl,rfl,by simp,fun i _ hi=>setRow_other W g i cs (by simpa using hi)⟩
theorem EWn.row {n g:Nat} {w:Wd} {e:En} {a:EnA} (h:EWn n w e a) (hg:g<n) (cs:Array Value):EW [] (w.setRow g cs) e a:=
 ((h.ew (S:=[g]) (by simpa using hg)).far (far_row w g cs) (fun _ h=>h)).less (by simp)
theorem Yb (W:Wd) (b:Nat) (cs:Array Value) (h:Blk W b 159 cs) (hs:cs.size=33):(loadVar 159 ⟨b,0,none⟩).run prog W = .ok (.agg cs) W:=
 run_loadVar_row W b 159 159 cs (0,0) _ h Tryz.underlying159 rfl (by rw [hs];kernel_rfl)
theorem rdN (w2:Wd) (s:Bz):Rdr ((w2.alloc (.cells #[.string s,.int .i64 0] 228)).alloc (.cells #[.string ⟨#[]⟩,.pointer (some ⟨w2.heap.size,0,none⟩)] 240)) w2.heap.size s 0:=(Blk.new w2 _ _).alloc _
theorem crN (w2:Wd) (s:Bz):Cr ((w2.alloc (.cells #[.string s,.int .i64 0] 228)).alloc (.cells #[.string ⟨#[]⟩,.pointer (some ⟨w2.heap.size,0,none⟩)] 240)) (w2.heap.size+1) w2.heap.size:=U3 (w2.alloc _) _ _ (w2.heap.size+1) (by simp)
structure BA (w w2 W:Wd) (R:En×Bz×Int) (a':EnA):Prop where
 rd:Rdr W w2.heap.size R.2.1 R.2.2
 cr:Cr W (w2.heap.size+1) w2.heap.size
 bg:Blk W (w.heap.size+3) 159 (enC R.1 a').toArray
 ew:EWn w2.heap.size W R.1 a'
 ol:∃ old:Array Value,old.size=33∧Blk W (w.heap.size+2) 159 old
 be:Below w.heap.size w W
 sz:w.heap.size+4≤w2.heap.size
def BareP (k:Int) (e:En) (w:Wd) (x:Ending) (w':Wd):Prop:=
 (∃ (s:Bz) (R:En×Bz×Int) (a':EnA),wrP k e s∧rdP k e.name s R∧Sm R.1∧R.1.kind=k∧R.1.name=e.name∧x = .returned (.tuple #[.agg (enC R.1 a').toArray,.bool (decide (Ed R.2.1 R.2.2=0))])∧EW [] w' R.1 a')∧Below w.heap.size w w'
theorem bare_g {k L:Int} {nf ff vf:Nat} (hF:FormOk k nf vf ff) (hC:FormC nf ff vf) (e:En) (a:EnA) (w:Wd) (hw:EW [] w e a) (hs:Sm e) (hk:e.kind=k):
  Calls prog 268 #[EFV L nf ff vf,.agg (enC e a).toArray] w (BareP k e w):=by
 subst hk;have c0:((w.alloc (.cells (fvC L nf ff vf) 236)).alloc (.cells (enC e a).toArray 159)).cell? ⟨w.heap.size+1,0,none⟩=some (.int .i64 e.kind):=((U3 (w.alloc (.cells (fvC L nf ff vf) 236)) 159 (enC e a).toArray (w.heap.size+1) (by simp)).cell 0).trans rfl;have c1:((w.alloc (.cells (fvC L nf ff vf) 236)).alloc (.cells (enC e a).toArray 159)).cell? ⟨w.heap.size+1,1,none⟩=some (.string e.name):=((U3 (w.alloc (.cells (fvC L nf ff vf) 236)) 159 (enC e a).toArray (w.heap.size+1) (by simp)).cell 1).trans rfl;have cD:Hid (∀ old,Below w.heap.size w ((((w.alloc (.cells (fvC L nf ff vf) 236)).alloc (.cells (enC e a).toArray 159)).alloc (.cells old 159)).alloc (.cells (enC (enK e.kind e.name) enN).toArray 159))):=Hd fun old=>((((Bf _ _).alloc (Le _) _).alloc (by simp) _).alloc (by simp;omega) _).alloc (by simp;omega) _
 have K1:Hid (∀ old,Blk ((((w.alloc (.cells (fvC L nf ff vf) 236)).alloc (.cells (enC e a).toArray 159)).alloc (.cells old 159)).alloc (.cells (enC (enK e.kind e.name) enN).toArray 159)) w.heap.size 236 (fvC L nf ff vf)):=Hd fun old=>(((Blk.new w _ _).alloc _).alloc _).alloc _
 have K2:Hid (∀ old,Blk ((((w.alloc (.cells (fvC L nf ff vf) 236)).alloc (.cells (enC e a).toArray 159)).alloc (.cells old 159)).alloc (.cells (enC (enK e.kind e.name) enN).toArray 159)) (w.heap.size+1) 159 (enC e a).toArray):=Hd fun old=>((U3 (w.alloc (.cells (fvC L nf ff vf) 236)) _ _ (w.heap.size+1) (by simp)).alloc _).alloc _
 have K3:Hid (∀ old,Blk ((((w.alloc (.cells (fvC L nf ff vf) 236)).alloc (.cells (enC e a).toArray 159)).alloc (.cells old 159)).alloc (.cells (enC (enK e.kind e.name) enN).toArray 159)) (w.heap.size+2) 159 old):=Hd fun old=>(U3 ((w.alloc (.cells (fvC L nf ff vf) 236)).alloc (.cells (enC e a).toArray 159)) _ _ (w.heap.size+2) (by simp)).alloc _
 have K4:Hid (∀ old,Blk ((((w.alloc (.cells (fvC L nf ff vf) 236)).alloc (.cells (enC e a).toArray 159)).alloc (.cells old 159)).alloc (.cells (enC (enK e.kind e.name) enN).toArray 159)) (w.heap.size+3) 159 (enC (enK e.kind e.name) enN).toArray):=Hd fun old=>U3 (((w.alloc (.cells (fvC L nf ff vf) 236)).alloc (.cells (enC e a).toArray 159)).alloc (.cells old 159)) _ _ (w.heap.size+3) (by simp)
 have KX:Hid (∀ old o2,Blk ((((w.alloc (.cells (fvC L nf ff vf) 236)).alloc (.cells (enC e a).toArray 159)).alloc (.cells old 159)).alloc (.cells o2 159)) (w.heap.size+3) 159 o2):=Hd fun old o2=>U3 (((w.alloc (.cells (fvC L nf ff vf) 236)).alloc (.cells (enC e a).toArray 159)).alloc (.cells old 159)) _ _ (w.heap.size+3) (by simp)
 have KS:Hid (∀ old o2,((((w.alloc (.cells (fvC L nf ff vf) 236)).alloc (.cells (enC e a).toArray 159)).alloc (.cells old 159)).alloc (.cells o2 159)).setRow (w.heap.size+3) (enC (enK e.kind e.name) enN).toArray=((((w.alloc (.cells (fvC L nf ff vf) 236)).alloc (.cells (enC e a).toArray 159)).alloc (.cells old 159)).alloc (.cells (enC (enK e.kind e.name) enN).toArray 159))):=Hd fun old o2=>by
  have h:=U1 (((w.alloc (.cells (fvC L nf ff vf) 236)).alloc (.cells (enC e a).toArray 159)).alloc (.cells old 159)) o2 (enC (enK e.kind e.name) enN).toArray 159
  rwa [show (((w.alloc (.cells (fvC L nf ff vf) 236)).alloc (.cells (enC e a).toArray 159)).alloc (.cells old 159)).heap.size=w.heap.size+3 from by simp] at h
 have HO1:=Hd (Vd (enK e.kind e.name) enN);have HBD:Hid (∀ old,Calls prog 216 #[EFV L nf ff vf,.agg (enC e a).toArray] ((((w.alloc (.cells (fvC L nf ff vf) 236)).alloc (.cells (enC e a).toArray 159)).alloc (.cells old 159)).alloc (.cells (enC (enK e.kind e.name) enN).toArray 159)) fun x w'=>(∃ s:Bz,wrP e.kind e s∧s.size≤100000∧x = .returned (.string s))∧Below (((((w.alloc (.cells (fvC L nf ff vf) 236)).alloc (.cells (enC e a).toArray 159)).alloc (.cells old 159)).alloc (.cells (enC (enK e.kind e.name) enN).toArray 159))).heap.size ((((w.alloc (.cells (fvC L nf ff vf) 236)).alloc (.cells (enC e a).toArray 159)).alloc (.cells old 159)).alloc (.cells (enC (enK e.kind e.name) enN).toArray 159)) w'):=Hd fun old=>body_g hF hC e a _ (hw.fresh (cD.out old) (by simp)) hs
 have j4:=Hd hF.fr;have HNM:=Hd hs.nm;have kT:=hC.f;unfold EFV at HBD ⊢;clear hF hC hw hs;go_enter Tryz.func268,Tryz.ntmps268
 go_wp2_with (first|((with_reducible refine Gb 159 ?_);refine U2 (by kernel_rfl) 159 _ rfl (enC (enK e.kind e.name) enN).toArray (by kernel_rfl) ?_)|((with_reducible refine Gt 159 6 ?_);refine Lv 159 (w.heap.size+3) (enC (enK e.kind e.name) enN).toArray (KX.out _ _) HO1.out ?_;rw [KS.out])|((with_reducible refine Gl 236 2 ?_);refine Lq 236 w.heap.size (fvC L nf ff vf) (K1.out _) Tryz.underlying236 ?_)|((with_reducible refine Gl 159 3 ?_);refine Lq 159 (w.heap.size+1) (enC e a).toArray (K2.out _) Tryz.underlying159 ?_)|(go_at_call 216;refine (HBD.out _).mono ?_;rintro x w2 ⟨⟨s,hp,hz,rfl⟩,hb⟩;have HP:=Hd (And.intro hp hz);have HN1:=Hd ((K1.out _).below hb (K1.out _).lt);have iW:=Hd ((K4.out _).below hb (K4.out _).lt);have HN3:=Hd ((K3.out _).below hb (K3.out _).lt);have bC:=Hd (U0 (cD.out _) hb (cD.out _).size);have eF:Hid (w.heap.size+4≤w2.heap.size):=Hd (by have:=hb.size;simpa using this);clear hp hz hb c0 c1 K1 K2 K3 K4 KX KS cD HBD)|(go_at_call 122;refine (Zu s _).mono ?_;rintro x w3 ⟨rfl,rfl⟩;have f2:=(((HN1.out.alloc (.cells #[.string s,.int .i64 0] 228)).alloc (.cells #[.string ⟨#[]⟩,.pointer (some ⟨w2.heap.size,0,none⟩)] 240)).cell 2).trans (show _=some (Value.func (.func ff) #[] #[]) from rfl);have cM:=Hd (j4.out (w2.heap.size+1) w2.heap.size (w.heap.size+3) e.name s _ (crN w2 s) (rdN w2 s) ((iW.out.alloc (.cells #[.string s,.int .i64 0] 228)).alloc (.cells #[.string ⟨#[]⟩,.pointer (some ⟨w2.heap.size,0,none⟩)] 240)) (by have:=HP.out.2;omega) HNM.out (by have:=eF.out;omega) (by omega) (by have:=eF.out;omega)))|((with_reducible show Calls _ _ #[.pointer (some ⟨w2.heap.size+1,0,none⟩),_] _ _);refine cM.out.mono ?_;rintro x w7 ⟨rfl,R,a',hR,eA,hk,cC,iX,iS,eU,fS⟩;have HR:=Hd (And.intro hR (And.intro eA (And.intro hk cC)));have jD:Hid (BA w w2 w7 R a'):=Hd ⟨iX,Blk.far' (crN w2 s) fS (by have:=eF.out;simp;omega),iS,⟨eU.sa,eU.sg,fun p hp h0=>by have:=eU.na p hp h0;simp at this;omega,fun p hp h0=>by have:=eU.ng p hp h0;simp at this;omega⟩,⟨_,by rfl,((HN3.out.alloc (.cells #[.string s,.int .i64 0] 228)).alloc (.cells #[.string ⟨#[]⟩,.pointer (some ⟨w2.heap.size,0,none⟩)] 240)).far' fS (by have:=eF.out;simp;omega)⟩,((bC.out.alloc bC.out.size _).alloc (by have:=bC.out.size;simp;omega) _).trans (fS.below (by have:=eF.out;simp;omega) (by have:=bC.out.size;simp;omega)),eF.out⟩;clear hR eA hk cC iX iS eU fS f2 kT cM))
 have HBd:Hid (BA w w2 w7.drew R a'):=Hd ⟨jD.out.rd,jD.out.cr,jD.out.bg,⟨jD.out.ew.sa,jD.out.ew.sg,jD.out.ew.na,jD.out.ew.ng⟩,jD.out.ol,jD.out.be.drew,jD.out.sz⟩;refine Rw (S:=fun w'=>Cr w' (w2.heap.size+1) w2.heap.size∧Blk w' (w.heap.size+3) 159 (enC R.1 a').toArray) (by kernel_rfl) ⟨HBd.out.cr,HBd.out.bg⟩ (fun Hh=>?_);refine tk 0 (.agg (enC R.1 a').toArray) Hh ?_ (y:=by exact yieldsIf_load_mid (by rfl) 159 _ rfl (w.heap.size+3) 0 rfl (enC R.1 a') _ (fun w' aH j v hv=>by rw [aH.2.cell,Nat.zero_add,Ga];exact hv) Tryz.underlying159 rfl (by kernel_rfl));refine tk 1 (.pointer (some ⟨w2.heap.size+1,0,none⟩)) Hh ?_;refine tk 2 (.pointer (some ⟨w2.heap.size+1,0,none⟩)) Hh ?_;refine tk 3 (.pointer (some ⟨w2.heap.size+1,1,none⟩)) Hh ?_;refine tj 4 (.pointer (some ⟨w2.heap.size,0,none⟩)) Hh ?_ (y:=by intro w' aH;have h1:=aH.1.c1;go_simp)
 refine Aq [5] ?_;refine Rc (fun K hK=>?_) ?_
 ·go_simp;refine (Fm _ _ _ _ HBd.out.rd).mono ?_;rintro e w8 ⟨rfl,rfl⟩;simp only [];refine hK.out _ _ Hh (fun Hh=>?_);clear hK K;try simp only [Act.put,Sv,Sz,Sw]
  refine tk 6 (.bool (Ed R.2.1 R.2.2 == 0)) Hh ?_;obtain ⟨old,dQ,dK⟩:=HBd.out.ol;refine Aq [7] ?_;refine Rc (fun K hK=>?_) ?_
  ·refine wp_store_row 159 _ _ rfl (w.heap.size+2) (enC R.1 a').toArray rfl rfl 159 old dK (by kernel_rfl) dQ (Vd _ _) ?_;refine hK.out _ _ ⟨Um Hh.1 (by have:=HBd.out.sz;omega),Um Hh.2 (by omega)⟩ (fun Hh=>?_);clear hK K;try simp only [Act.put]
   refine tk 8 (.bool (Ed R.2.1 R.2.2 == 0)) Hh ?_;clear Hh;refine Ad (by kernel_rfl) ?_ _;go_wp2;have cB:=Yb (w7.drew.setRow (w.heap.size+2) (enC R.1 a').toArray) (w.heap.size+2) (enC R.1 a').toArray (setRow_heap _ _ _ _ _ _ dK) (by simp [enC]);exact Br (v:=.tuple #[.agg (enC R.1 a').toArray,.bool (Ed R.2.1 R.2.2 == 0)]) (U4 Tryz.results268 rfl rfl cB) rfl ⟨⟨s,R,a',HP.out.1,HR.out.1,HR.out.2.1,HR.out.2.2.1,HR.out.2.2.2,rfl,HBd.out.ew.row (by have:=HBd.out.sz;omega) _⟩,U6 HBd.out.be (by omega) _⟩
  exact An
 exact An
theorem alias_w (c g:Nat) (e:En) (a:EnA) (w:Wd) (hc:Cw w c ⟨#[]⟩) (hg:Blk w g 159 (enC e a).toArray) (hs:Sm e):
  Calls prog 200 #[.pointer (some ⟨c,0,none⟩),.pointer (some ⟨g,0,none⟩)] w (FwP (fun _=>True) c w):=by
 have HC:=Hd (Jf c g 29 ⟨#[]⟩ e.target w hc ((hg.cell 29).trans rfl) (by decide) (by have:=hs.ta;omega));have HZ:Hid (((⟨#[]⟩:Bz)++Z2 e.target).size≤100000):=Hd (by have h0:(⟨#[]⟩:Bz).size=0:=rfl;have:=hs.ta;have:=Xj e.target;rw [ByteArray.size_append];omega);clear hc hg hs;go_enter Tryz.func200,Tryz.ntmps200;go_wp2_with (go_at_call 194;refine HC.out.mono ?_;rintro x w2 ⟨rfl,h1,h2⟩;have H1:=Hd h1;have H2:=Hd h2;clear h1 h2)
 go_end0
 exact ⟨rfl,_,trivial,HZ.out,H1.out,H2.out⟩
theorem alias_r (c r g:Nat) (k:Int) (nm left:Bz) (w:Wd) (hc:Cr w c r) (hr:Rdr w r left 0) (hg:Blk w g 159 (enC (enK k nm) enN).toArray) (hs:left.size≤1000000) (cC:nm.size≤1000) (n1:r≠g):
  Calls prog 200 #[.pointer (some ⟨c,0,none⟩),.pointer (some ⟨g,0,none⟩)] w (FrP (fun _=>True) c r g k nm w):=by
 have hC:=Ex c r g 29 159 _ ⟨#[]⟩ left 0 w (by unfold maxLen;omega) hc hr hg rfl n1;have bO:=Zk left 0;obtain ⟨p,hp⟩:∃ p,Uj left 0 200=p:=⟨_,rfl⟩
 rw [hp] at hC bO;rw [st_29] at hC;have HC:=Hd hC;have HNM:=Hd cC;have dM:=Hd bO;clear hC hc hr hg hs cC bO hp;go_enter Tryz.func200,Tryz.ntmps200;go_wp2_with (go_at_call 194;refine HC.out.mono ?_;rintro x w2 ⟨rfl,h1,h2,h3⟩;have H1:=Hd (And.intro h1 (And.intro h2 h3));clear h1 h2 h3)
 go_end0
 exact ⟨rfl,({ enK k nm with target:=p.1 },p.2.1,p.2.2),enN,trivial,⟨HNM.out,by show (0:Nat)≤1000;omega,by show (0:Nat)≤1000;omega,by show (0:Nat)≤1000;omega,by show p.1.size≤1000;have:=dM.out;omega,by show (0:Nat)≤5;omega,by show (0:Nat)≤9;omega,fun x hx=>(by cases hx),fun x hx=>(by cases hx),by
  simp only [enK,dZ,List.mem_cons,List.not_mem_nil,or_false,forall_eq_or_imp,forall_eq];refine ⟨?_,?_,?_,?_,?_,?_,?_,?_,?_,?_,?_,?_,?_,?_,?_,?_,?_,?_,?_,?_,?_,?_⟩<;>omega⟩,rfl,rfl,H1.out.1,H1.out.2.1,⟨Sl.nil,Sl.nil,fun p hp _=>(by cases hp),fun p hp _=>(by cases hp)⟩,H1.out.2.2⟩
theorem cat_w (c g:Nat) (e:En) (a:EnA) (w:Wd) (hc:Cw w c ⟨#[]⟩) (hg:Blk w g 159 (enC e a).toArray) (hs:Sm e):
  Calls prog 204 #[.pointer (some ⟨c,0,none⟩),.pointer (some ⟨g,0,none⟩)] w (FwP (fun _=>True) c w):=by
 have hn:0≤e.catalog∧e.catalog≤9223372036854775807:=hs.nu _ (by simp);have HC:=Hd (Ix c g 30 ⟨#[]⟩ e.catalog w hc ((hg.cell 30).trans rfl) (by decide) hn.1 hn.2);have HZ:Hid (((⟨#[]⟩:Bz)++Yo e.catalog).size≤100000):=Hd (by have h0:(⟨#[]⟩:Bz).size=0:=rfl;have:=V9 e.catalog;rw [ByteArray.size_append];omega);clear hn;clear hc hg hs;go_enter Tryz.func204,Tryz.ntmps204;go_wp2_with (go_at_call 205;refine HC.out.mono ?_;rintro x w2 ⟨rfl,h1,h2⟩;have H1:=Hd h1;have H2:=Hd h2;clear h1 h2)
 go_end0
 exact ⟨rfl,_,trivial,HZ.out,H1.out,H2.out⟩
theorem cat_r (c r g:Nat) (k:Int) (nm left:Bz) (w:Wd) (hc:Cr w c r) (hr:Rdr w r left 0) (hg:Blk w g 159 (enC (enK k nm) enN).toArray) (hs:left.size≤1000000) (cC:nm.size≤1000) (n1:r≠g):
  Calls prog 204 #[.pointer (some ⟨c,0,none⟩),.pointer (some ⟨g,0,none⟩)] w (FrP (fun _=>True) c r g k nm w):=by
 have hC:=Zw c r g 30 159 _ 0 left 0 w (by unfold maxLen;omega) hc hr hg rfl n1;have bO:=Vf left 0;obtain ⟨p,hp⟩:∃ p,Uz left 0=p:=⟨_,rfl⟩
 rw [hp] at hC bO;rw [st_30] at hC;have HC:=Hd hC;have HNM:=Hd cC;have dM:=Hd bO;clear hC hc hr hg hs cC bO hp;go_enter Tryz.func204,Tryz.ntmps204;go_wp2_with (go_at_call 205;refine HC.out.mono ?_;rintro x w2 ⟨rfl,h1,h2,h3⟩;have H1:=Hd (And.intro h1 (And.intro h2 h3));clear h1 h2 h3)
 go_end0
 exact ⟨rfl,({ enK k nm with catalog:=p.1 },p.2.1,p.2.2),enN,trivial,⟨HNM.out,by show (0:Nat)≤1000;omega,by show (0:Nat)≤1000;omega,by show (0:Nat)≤1000;omega,by show (0:Nat)≤1000;omega,by show (0:Nat)≤5;omega,by show (0:Nat)≤9;omega,fun x hx=>(by cases hx),fun x hx=>(by cases hx),by
  have bO:=dM.out;simp only [enK,dZ,List.mem_cons,List.not_mem_nil,or_false,forall_eq_or_imp,forall_eq];refine ⟨?_,?_,?_,?_,?_,?_,?_,?_,?_,?_,?_,?_,?_,?_,?_,?_,?_,?_,?_,?_,?_,?_⟩<;>omega⟩,rfl,rfl,H1.out.1,H1.out.2.1,⟨Sl.nil,Sl.nil,fun p hp _=>(by cases hp),fun p hp _=>(by cases hp)⟩,H1.out.2.2⟩
theorem FwP.loose {k:Int} (h0:k≠0) (h1:k≠1) {e:En} {c:Nat} {w w':Wd} {x:Ending} (h:FwP (fun _=>True) c w x w'):FwP (wrP k e) c w x w':=by
 obtain ⟨rfl,s,_,h2,h3,h4⟩:=h;exact ⟨rfl,s,wr_loose h0 h1 e s,h2,h3,h4⟩
theorem FrP.loose {kk:Int} (h0:kk≠0) (h1:kk≠1) {c r g:Nat} {k:Int} {nm nm2 left:Bz} {w w':Wd} {x:Ending} (h:FrP (fun _=>True) c r g k nm w x w'):FrP (rdP kk nm2 left) c r g k nm w x w':=by
 obtain ⟨rfl,R,a,_,h2,h3,h4,h5⟩:=h;exact ⟨rfl,R,a,rd_loose h0 h1 nm2 left R,h2,h3,h4,h5⟩
theorem BoP.exact {P:Bool→Prop} {b:Bool} {w w':Wd} {x:Ending} (hP:P b) (h:x = .returned (.bool b)∧Below w.heap.size w w'):BoP P w x w':=⟨⟨b,hP,h.1⟩,h.2⟩
theorem dataR_kn (k:Int) (nm left:Bz):(F7 k nm left).1.kind=k∧(F7 k nm left).1.name=nm:=⟨rfl,rfl⟩
theorem grpR_kn (k:Int) (nm left:Bz):(grpR k nm left).1.kind=k∧(grpR k nm left).1.name=nm:=⟨rfl,rfl⟩
theorem formOk0:FormOk 0 187 189 188 where
 nm s W hs ht:=(Xv s W (by unfold maxLen;omega) ht.mx).mono fun _ _ h=>BoP.exact ⟨fun _=>rfl,fun h=>absurd h (by decide)⟩ h
 va e a W hw hs ht:=(validData_any e a W hw hs ht).mono fun _ _ h=>BoP.exact ⟨fun _=>rfl,fun h=>absurd h (by decide)⟩ h
 fw c g e a W hc hg hw hs eQ:=(data_w c g e a ⟨#[]⟩ W hc hg hw hs (by decide) eQ).mono fun _ _ ⟨h1,h2,h3⟩=>⟨h1,_,⟨fun _=>rfl,fun h=>absurd h (by decide)⟩,dataW_size e hs,h2,h3⟩
 fr c r g nm left W hc hr hg hs cC n1 n2 n3:=(data_r c r g 0 nm left W hc hr hg hs n1 n2 n3).mono fun _ _ ⟨h1,a,h2,h3,h4,h5⟩=>⟨h1,_,a,⟨fun _=>rfl,fun h=>absurd h (by decide)⟩,dataR_sm 0 nm left cC,(dataR_kn 0 nm left).1,(dataR_kn 0 nm left).2,h2,h3,h4,h5⟩
theorem formOk1:FormOk 1 190 195 191 where
 nm s W hs ht:=(Gi s W (by unfold maxLen;omega) ht.mx).mono fun _ _ h=>BoP.exact ⟨fun h=>absurd h (by decide),fun _=>rfl⟩ h
 va e a W _ hs ht:=(groupV_any e a W hs ht).mono fun _ _ h=>BoP.exact ⟨fun h=>absurd h (by decide),fun _=>rfl⟩ h
 fw c g e a W hc hg hw hs eQ:=(group_w c g e a ⟨#[]⟩ W hc hg hw hs (by decide) eQ).mono fun _ _ ⟨h1,h2,h3⟩=>⟨h1,_,⟨fun h=>absurd h (by decide),fun _=>rfl⟩,grpW_size e hs,h2,h3⟩
 fr c r g nm left W hc hr hg hs cC n1 n2 n3:=(group_r c r g 1 nm left W hc hr hg hs n1 n2 n3).mono fun _ _ ⟨h1,a,h2,h3,h4,h5⟩=>⟨h1,_,a,⟨fun h=>absurd h (by decide),fun _=>rfl⟩,grpR_sm 1 nm left cC,(grpR_kn 1 nm left).1,(grpR_kn 1 nm left).2,h2,h3,h4,h5⟩
theorem formOk2:FormOk 2 198 201 200 where
 nm s W hs ht:=(aliasN_any s W hs ht).mono fun _ _ h=>h.bo (nm_loose (by decide) (by decide) s)
 va e a W _ hs ht:=(aliasV_any e a W hs ht).mono fun _ _ h=>h.bo (va_loose (by decide) (by decide) e)
 fw c g e a W hc hg _ hs _:=(alias_w c g e a W hc hg hs).mono fun _ _ h=>h.loose (by decide) (by decide)
 fr c r g nm left W hc hr hg hs cC n1 _ _:=(alias_r c r g 2 nm left W hc hr hg hs cC n1).mono fun _ _ h=>h.loose (by decide) (by decide)
theorem formOk3:FormOk 3 202 206 204 where
 nm s W hs ht:=(catN_any s W hs ht).mono fun _ _ h=>h.bo (nm_loose (by decide) (by decide) s)
 va e a W _ _ ht:=(catV_any e a W ht).mono fun _ _ h=>h.bo (va_loose (by decide) (by decide) e)
 fw c g e a W hc hg _ hs _:=(cat_w c g e a W hc hg hs).mono fun _ _ h=>h.loose (by decide) (by decide)
 fr c r g nm left W hc hr hg hs cC n1 _ _:=(cat_r c r g 3 nm left W hc hr hg hs cC n1).mono fun _ _ h=>h.loose (by decide) (by decide)
theorem formOk4:FormOk 4 207 209 208 where
 nm s W hs ht:=(pattern_any s W (by unfold maxLen;omega) ht.mx).mono fun _ _ h=>h.bo (nm_loose (by decide) (by decide) s)
 va e a W hw hs ht:=(Fe e a W hw hs ht).mono fun _ _ h=>h.bo (va_loose (by decide) (by decide) e)
 fw c g e a W hc hg hw hs eQ:=(profile_w c g e a W hc hg hw hs eQ).mono fun _ _ h=>h.loose (by decide) (by decide)
 fr c r g nm left W hc hr hg hs cC n1 n2 n3:=(profile_r c r g 4 nm left W hc hr hg hs cC n1 n2 n3).mono fun _ _ h=>h.loose (by decide) (by decide)
theorem fm_form (k:Int) (h0:0≤k) (h4:k≤4):∃ (L:Int) (nf ff vf:Nat),fmV k=EFV L nf ff vf∧FormOk k nf vf ff∧FormC nf ff vf∧65≤L∧L≤80∧(L=68↔k=0)∧(L=71↔k=1):=by
 have:k=0∨k=1∨k=2∨k=3∨k=4:=by omega
 rcases this with rfl|rfl|rfl|rfl|rfl
 ·exact ⟨68,_,_,_,rfl,formOk0,formC0,by decide,by decide,by decide,by decide⟩
 ·exact ⟨71,_,_,_,rfl,formOk1,formC1,by decide,by decide,by decide,by decide⟩
 ·exact ⟨65,_,_,_,rfl,formOk2,formC2,by decide,by decide,by decide,by decide⟩
 ·exact ⟨67,_,_,_,rfl,formOk3,formC3,by decide,by decide,by decide,by decide⟩
 ·exact ⟨80,_,_,_,rfl,formOk4,formC4,by decide,by decide,by decide,by decide⟩
noncomputable instance:DecidableEq En:=fun a b=>Classical.propDecidable (a=b)
theorem heap_at2 {w:Wd} {b:Nat} {o:Obj} (h:w.heap[b]? =some o) (o2:Obj):(w.alloc o2).heap[b]? =some o:=by
 rcases Nat.lt_or_ge b w.heap.size with hb|hb
 ·simp only [World.alloc];rw [Array.getElem?_push_lt hb,←Array.getElem?_eq_getElem hb];exact h
 ·rw [Array.getElem?_eq_none hb] at h;cases h
theorem EB.row {e:En} {a:EnA} {w W:Wd} (h:EB e a w W) (ht:Sta w) {g:Nat} (hg:w.heap.size+1≤g) (cs:Array Value):EB e a w (W.setRow g cs):=
 ⟨Um h.e1 (by omega),U6 h.be (by omega) _,by simpa using h.sz,ht.after (U6 h.be (by omega) _)⟩
theorem Xt {P:Program} {md:Region.Mode} {ops:Array Oper} {Q:Exit→Act→Wd→Prop} {S S':Wd→Prop} (hS:∀ w,S' w→S w):
  ∀ (fuel:Nat) (listed:Array Bool) (a:Act) (w:Wd),wpAnyH P md ops Q S' fuel listed a w→wpAnyH P md ops Q S fuel listed a w
 |0,_,_,_,h=>h
 |fuel+1,_,_,_,h=>⟨h.1,fun i hi=>wpOp_mono (fun a' w' h'=>⟨hS _ h'.1,Xt hS fuel _ a' w' h'.2⟩) (h.2 i hi)⟩
def bodyF (k:Int) (e:En):Bz:=if k=0 then dataW ⟨#[]⟩ e else grpW ⟨#[]⟩ e
def readF (k:Int) (nm left:Bz):En×Bz×Int:=if k=0 then F7 0 nm left else grpR 1 nm left
def nameF (k:Int) (s:Bz):Bool:=if k=0 then Xo s else Il s
def fldF (k:Int) (e:En):Bool:=if k=0 then dataB e else grpB e
noncomputable def validE (e:En):Bool:=nameF e.kind e.name&&(fldF e.kind e&&(decide (Ed (readF e.kind e.name (bodyF e.kind e)).2.1 (readF e.kind e.name (bodyF e.kind e)).2.2=0)&&decide ((readF e.kind e.name (bodyF e.kind e)).1=e)))
def valP (e:En) (b:Bool):Prop:=e.kind=0∨e.kind=1→b=validE e
theorem nmP_eq {k:Int} {s:Bz} {b:Bool} (h:nmP k s b) (hk:k=0∨k=1):b=nameF k s:=by
 rcases hk with rfl|rfl
 ·exact h.1 rfl
 ·exact h.2 rfl
theorem vaP_eq {k:Int} {e:En} {b:Bool} (h:vaP k e b) (hk:k=0∨k=1):b=fldF k e:=by
 rcases hk with rfl|rfl
 ·exact h.1 rfl
 ·exact h.2 rfl
theorem wrP_eq {k:Int} {e:En} {s:Bz} (h:wrP k e s) (hk:k=0∨k=1):s=bodyF k e:=by
 rcases hk with rfl|rfl
 ·exact h.1 rfl
 ·exact h.2 rfl
theorem rdP_eq {k:Int} {nm left:Bz} {R:En×Bz×Int} (h:rdP k nm left R) (hk:k=0∨k=1):R=readF k nm left:=by
 rcases hk with rfl|rfl
 ·exact h.1 rfl
 ·exact h.2 rfl
theorem valP_of {e:En} {n v:Bool} {s:Bz} {R:En×Bz×Int} (h1:nmP e.kind e.name n) (h2:vaP e.kind e v) (h3:wrP e.kind e s) (h4:rdP e.kind e.name s R):valP e (n&&(v&&(decide (Ed R.2.1 R.2.2=0)&&decide (R.1=e)))):=by
 intro hk;have e4:=rdP_eq h4 hk;have e3:=wrP_eq h3 hk;subst e4;subst e3;rw [nmP_eq h1 hk,vaP_eq h2 hk];rfl
theorem valP_n {e:En} (h1:nmP e.kind e.name false):valP e false:=by
 intro hk;unfold validE;rw [←nmP_eq h1 hk];rfl
theorem valP_v {e:En} (h2:vaP e.kind e false):valP e false:=by
 intro hk;unfold validE;rw [←vaP_eq h2 hk];simp
theorem evalid_any (e:En) (a:EnA) (w:Wd) (hw:EW [] w e a) (hs:Sm e) (h0:0≤e.kind) (h4:e.kind≤4) (ht:Sta w):
  Calls prog 214 #[.agg (enC e a).toArray] w (BoP (valP e) w):=by
 obtain ⟨L,nf,ff,vf,hfm,hF,hC,hL0,hL1,_⟩:=fm_form e.kind h0 h4;have HX:=Hd (EB.new e a w ht);have HLK:Hid (∀ W b,W.heap[b]? =some (.map fm5 5)→(Instr.lookup 231 (.map (some b)) (.int .i64 e.kind) true).run prog W = .ok (.tuple #[.agg (fvC L nf ff vf),.bool true]) W):=Hd fun W b hb=>by have h:=fLook W b e.kind hb h0 h4 true;rw [hfm] at h;exact h
 have HF:=Hd hF;have HC:=Hd hC;have HS:=Hd hs;have HT:=Hd ht;have HW:=Hd hw;clear hw hs h0 h4 ht hfm hF hC hL0 hL1;go_enter Tryz.func214,Tryz.ntmps214;go_wp2_with fail;have HXd:Hid (EB e a w (w.alloc (.cells (enC e a).toArray 159)).drew):=Hd (HX.out.next (Bf _ _).drew);refine Rw (S:=fun w'=>EB e a w w') (by kernel_rfl) HXd.out (fun Hh=>?_);refine tk 1 (.pointer (some ⟨w.heap.size,0,none⟩)) Hh ?_;refine tj 2 (.int .i64 e.kind) Hh ?_ (y:=by intro w' aH;have h1:=aH.cell 0 (.int .i64 e.kind) rfl;go_simp);refine Aq [0,7] ?_;refine Rc (fun K hK=>?_) ?_
 ·go_simp;refine (Yf _).mono ?_;rintro x w3 ⟨rfl,rfl⟩;simp only [];refine hK.out _ _ (Hh.alloc _) (fun Hh=>?_);clear hK K;try simp only [Act.put,Sv,Sz,Sw]
  refine Xt (S':=fun w'=>EB e a w w'∧w'.heap[(w.heap.size+1)]? =some (.map fm5 5)) (fun _ h=>h.1) _ _ _ _ ?_
  replace Hh:EB e a w ((w.alloc (.cells (enC e a).toArray 159)).drew.alloc (.map fm5 5))∧((w.alloc (.cells (enC e a).toArray 159)).drew.alloc (.map fm5 5)).heap[(w.heap.size+1)]? =some (.map fm5 5):=⟨Hh,Ur _ _ _ (by simp [World.drew])⟩
  refine tj 3 (.tuple #[.agg (fvC L nf ff vf),.bool true]) Hh ?_ (y:=by intro w' aH;have h1:=HLK.out w' ((w.heap.size+1)) aH.2;go_simp);refine tk 4 (.tuple #[.agg (fvC L nf ff vf),.bool true]) Hh ?_;refine tk 5 (.agg (fvC L nf ff vf)) Hh ?_;refine tk 6 (.bool true) Hh ?_;refine Aq [7] ?_;refine Rc (fun K hK=>?_) ?_
  ·go_simp;refine hK.out _ _ ⟨Hh.1.alloc _,heap_at2 Hh.2 _⟩ (fun Hh=>?_);clear hK K;try simp only [Act.put,Sv,Sz,Sw]
   have eV:Hid (Blk (((w.alloc (.cells (enC e a).toArray 159)).alloc (.map fm5 5)).alloc (.cells #[.int .u8 0,.nilFunc,.nilFunc,.nilFunc] 236)).drew (w.heap.size+2) 236 #[.int .u8 0,.nilFunc,.nilFunc,.nilFunc]):=Hd (U3 ((w.alloc (.cells (enC e a).toArray 159)).alloc (.map fm5 5)) _ _ _ (by simp)).drew;refine Aq [8] ?_;refine Rc (fun K hK=>?_) ?_
   ·refine wp_store_row 236 _ _ rfl ((w.heap.size+2)) (fvC L nf ff vf) rfl rfl 236 #[.int .u8 0,.nilFunc,.nilFunc,.nilFunc] eV.out (by kernel_rfl) rfl (Hl _ _ _ _) ?_;refine hK.out _ _ ⟨Hh.1.row HT.out (by omega) _,(setRow_other _ _ _ _ (by omega)).trans Hh.2⟩ (fun Hh=>?_);clear hK K;try simp only [Act.put]
    refine tk 9 (.bool true) Hh ?_;refine Ad (by kernel_rfl) ?_ _;have HXf:Hid (EB e a w ((((w.alloc (.cells (enC e a).toArray 159)).alloc (.map fm5 5)).alloc (.cells #[.int .u8 0,.nilFunc,.nilFunc,.nilFunc] 236)).drew.setRow ((w.heap.size+2)) (fvC L nf ff vf))):=Hd Hh.1;have HGf:Hid (Blk ((((w.alloc (.cells (enC e a).toArray 159)).alloc (.map fm5 5)).alloc (.cells #[.int .u8 0,.nilFunc,.nilFunc,.nilFunc] 236)).drew.setRow ((w.heap.size+2)) (fvC L nf ff vf)) ((w.heap.size+2)) 236 (fvC L nf ff vf)):=Hd (setRow_heap _ _ _ (fvC L nf ff vf) _ _ eV.out);have f1:=(HGf.out.cell 1).trans (show _=some (Value.func (.func nf) #[] #[]) from rfl);have c1:=HXf.out.cell 1 (.string e.name) rfl;have hcn:=HC.out.n;have dU:=HC.out.v;clear Hh eV;go_wp2_with ((with_reducible show Calls _ _ _ _ _);refine Stop.go ?_);refine Stop.in' ?_;rename_i K hK X hX
    refine (HF.out.nm e.name _ HS.out.nm HXf.out.st).mono ?_;rintro x w4 ⟨⟨nb,hn,rfl⟩,hb⟩;have aX:=Hd (HXf.out.next hb);have HG4:=Hd (HGf.out.below hb HGf.out.lt);clear hb f1 c1 hcn;simp only [];refine hX _ _ ?_;clear hX;try simp only [Act.put,Sv,Sz,Sw]
    cases nb with
    |false=>
     refine Wv (.bool true) ?_;refine Wv (.bool true) ?_;refine Wv (.bool true) ?_;refine Wk ?_;refine Wk ?_;refine Wk ?_;refine Wk ?_;refine Wk ?_;refine Wv (.bool true) ?_;refine wpList_nil ?_;simp only [Exit.then];refine hK _ _ ?_;clear hK;go_wp2;go_ret;exact ⟨⟨false,valP_n hn,rfl⟩,aX.out.be⟩
    |true=>
     refine Wv (.bool false) ?_;refine Wv (.bool false) ?_;refine Wv (.bool false) ?_;refine Wv (.pointer (some ⟨(w.heap.size+2),3,none⟩)) ?_;have f3:=(HG4.out.cell 3).trans (show _=some (Value.func (.func vf) #[] #[]) from rfl);refine Wv (.func (.func vf) #[] #[]) ?_ (r:=by go_simp);clear f3;refine U9 (by kernel_rfl) 159 _ rfl w.heap.size rfl 159 (enC e a).toArray (0,0) _ aX.out.e1 Tryz.underlying159 rfl (by kernel_rfl) ?_;simp only [Act.put,Sv,Sz,Sw];refine V7 (by kernel_rfl) vf #[.agg (enC e a).toArray] (by go_simp) ?_;clear dU;refine (HF.out.va e a _ (HW.out.below aX.out.be) HS.out aX.out.st).mono ?_;rintro x w5 ⟨⟨vb,hv,rfl⟩,hb⟩;have bA:=Hd (aX.out.next hb);have HG5:=Hd (HG4.out.below hb HG4.out.lt);clear hb;simp only [];try simp only [Act.put,Sv,Sz,Sw]
     cases vb with
     |false=>
      refine Wv (.bool true) ?_;refine Wv (.bool true) ?_;refine wpList_nil ?_;simp only [Exit.then];refine hK _ _ ?_;clear hK;go_wp2;go_ret;exact ⟨⟨false,valP_v hv,rfl⟩,bA.out.be⟩
     |true=>
      refine Wv (.bool false) ?_;refine Wv (.bool false) ?_;refine wpList_nil ?_;simp only [Exit.then];refine hK _ _ ?_;clear hK
      go_wp2_with (first|((with_reducible refine Gl 236 3 ?_);refine Lq 236 ((w.heap.size+2)) (fvC L nf ff vf) HG5.out Tryz.underlying236 ?_)|((with_reducible refine Gl 159 1 ?_);refine Lq 159 w.heap.size ((enC e a).toArray) bA.out.e1 Tryz.underlying159 ?_)|(go_at_call 268;refine (bare_g HF.out HC.out e a _ (HW.out.below bA.out.be) HS.out rfl).mono ?_;rintro x w6 ⟨⟨s,R,a',h1,h2,h3,h4,h5,rfl,eU⟩,hb⟩;obtain ⟨q,hq⟩:∃ q,decide (Ed R.2.1 R.2.2=0)=q:=⟨_,rfl⟩;rw [hq];have HQ:=Hd hq;have HR:=Hd (And.intro h1 (And.intro h2 h3));have bB:=Hd (bA.out.next hb);have fK:=Hd eU;have kG:=Hd fun old=>Blk.new w6 159 old;have jX:=Hd fun old=>U1 w6 old (enC R.1 a').toArray 159;have HO6:=Hd (Vd R.1 a');clear h1 h2 h3 h4 h5 eU hb hq)|((with_reducible refine Gt 159 5 ?_);refine Lv 159 w6.heap.size (enC R.1 a').toArray (kG.out _) HO6.out ?_;rw [jX.out];refine Stop.go ?_))
      refine Stop.in' ?_;rename_i K2 hK2;have fN:=Hd (bB.out.alloc (.cells (enC R.1 a').toArray 159));refine Wv (.bool q) ?_;refine wpList_nil ?_;simp only [Exit.then];refine hK2 _ _ ?_;clear hK2;refine wp_seq_k fun K3 hK3=>?_
      refine wp_region_lit ?_;refine Wv (.bool q) ?_;refine Wv (.bool q) ?_;have hvp:=valP_of hn hv HR.out.1 HR.out.2.1;rw [HQ.out] at hvp;cases q with
      |false=>
       refine Wk ?_;refine Wk ?_;refine Wk ?_;refine Wv (.bool false) ?_;refine Wv (.bool false) ?_;refine wpList_nil ?_;simp only [Exit.then];refine hK3 _ _ ?_;clear hK3;go_wp2;go_ret;exact ⟨⟨false,by simpa using hvp,rfl⟩,fN.out.be⟩
      |true=>
       refine U9 (by kernel_rfl) 159 _ rfl w6.heap.size rfl 159 (enC R.1 a').toArray (0,0) _ (Blk.new w6 _ _) Tryz.underlying159 rfl (by kernel_rfl) ?_;simp only [Act.put,Sv,Sz,Sw];refine U9 (by kernel_rfl) 159 _ rfl w.heap.size rfl 159 (enC e a).toArray (0,0) _ fN.out.e1 Tryz.underlying159 rfl (by kernel_rfl) ?_;simp only [Act.put,Sv,Sz,Sw];refine V7 (by kernel_rfl) 154 #[.agg (enC R.1 a').toArray,.agg (enC e a).toArray] (by kernel_rfl) ?_;refine (same_any R.1 e a' a _ (fK.out.below ((Bf _ _).alloc (Le _) _)) (HW.out.below fN.out.be) (by have:=HR.out.2.2.la;omega) (by have:=HS.out.la;omega) (by have:=HR.out.2.2.lg;omega) (by have:=HS.out.lg;omega)).mono ?_;rintro x w7 ⟨⟨z,rfl,hz⟩,hb⟩;have iV:=Hd (fN.out.next hb);clear hb;simp only [];try simp only [Act.put,Sv,Sz,Sw]
       have hvz:valP e z:=by
        have e1:z=decide (R.1=e):=by
         cases z
         ·exact (decide_eq_false (fun h=>by cases hz.2 h)).symm
         ·exact (decide_eq_true (hz.1 rfl)).symm
        rw [e1];simpa using hvp
       refine Wv (.bool z) ?_;refine Wv (.bool z) ?_;refine wpList_nil ?_;simp only [Exit.then];refine hK3 _ _ ?_;clear hK3;go_wp2;go_ret;exact ⟨⟨z,hvz,rfl⟩,iV.out.be⟩
   exact An
  exact An
 refine Rc (fun K hK=>?_) ?_
 ·go_simp;refine hK.out _ _ (Hh.alloc _) (fun Hh=>?_);clear hK K;try simp only [Act.put,Sv,Sz,Sw]
  refine Aq [0] ?_;refine Rc (fun K hK=>?_) ?_
  ·go_simp;refine (Yf _).mono ?_;rintro x w3 ⟨rfl,rfl⟩;simp only [];refine hK.out _ _ (Hh.alloc _) (fun Hh=>?_);clear hK K;try simp only [Act.put,Sv,Sz,Sw]
   refine Xt (S':=fun w'=>EB e a w w'∧w'.heap[(w.heap.size+2)]? =some (.map fm5 5)) (fun _ h=>h.1) _ _ _ _ ?_
   replace Hh:EB e a w (((w.alloc (.cells (enC e a).toArray 159)).drew.alloc (.cells #[.int .u8 0,.nilFunc,.nilFunc,.nilFunc] 236)).alloc (.map fm5 5))∧(((w.alloc (.cells (enC e a).toArray 159)).drew.alloc (.cells #[.int .u8 0,.nilFunc,.nilFunc,.nilFunc] 236)).alloc (.map fm5 5)).heap[(w.heap.size+2)]? =some (.map fm5 5):=⟨Hh,Ur _ _ _ (by simp [World.drew])⟩
   refine tj 3 (.tuple #[.agg (fvC L nf ff vf),.bool true]) Hh ?_ (y:=by intro w' aH;have h1:=HLK.out w' ((w.heap.size+2)) aH.2;go_simp);refine tk 4 (.tuple #[.agg (fvC L nf ff vf),.bool true]) Hh ?_;refine tk 5 (.agg (fvC L nf ff vf)) Hh ?_;refine tk 6 (.bool true) Hh ?_;have eV:Hid (Blk (((w.alloc (.cells (enC e a).toArray 159)).alloc (.cells #[.int .u8 0,.nilFunc,.nilFunc,.nilFunc] 236)).alloc (.map fm5 5)).drew (w.heap.size+1) 236 #[.int .u8 0,.nilFunc,.nilFunc,.nilFunc]):=Hd ((U3 (w.alloc (.cells (enC e a).toArray 159)) _ _ _ (by simp)).alloc _).drew;refine Aq [8] ?_;refine Rc (fun K hK=>?_) ?_
   ·refine wp_store_row 236 _ _ rfl ((w.heap.size+1)) (fvC L nf ff vf) rfl rfl 236 #[.int .u8 0,.nilFunc,.nilFunc,.nilFunc] eV.out (by kernel_rfl) rfl (Hl _ _ _ _) ?_;refine hK.out _ _ ⟨Hh.1.row HT.out (by omega) _,(setRow_other _ _ _ _ (by omega)).trans Hh.2⟩ (fun Hh=>?_);clear hK K;try simp only [Act.put]
    refine tk 9 (.bool true) Hh ?_;refine Ad (by kernel_rfl) ?_ _;have HXf:Hid (EB e a w ((((w.alloc (.cells (enC e a).toArray 159)).alloc (.cells #[.int .u8 0,.nilFunc,.nilFunc,.nilFunc] 236)).alloc (.map fm5 5)).drew.setRow ((w.heap.size+1)) (fvC L nf ff vf))):=Hd Hh.1;have HGf:Hid (Blk ((((w.alloc (.cells (enC e a).toArray 159)).alloc (.cells #[.int .u8 0,.nilFunc,.nilFunc,.nilFunc] 236)).alloc (.map fm5 5)).drew.setRow ((w.heap.size+1)) (fvC L nf ff vf)) ((w.heap.size+1)) 236 (fvC L nf ff vf)):=Hd (setRow_heap _ _ _ (fvC L nf ff vf) _ _ eV.out);have f1:=(HGf.out.cell 1).trans (show _=some (Value.func (.func nf) #[] #[]) from rfl);have c1:=HXf.out.cell 1 (.string e.name) rfl;have hcn:=HC.out.n;have dU:=HC.out.v;clear Hh eV;go_wp2_with ((with_reducible show Calls _ _ _ _ _);refine Stop.go ?_);refine Stop.in' ?_;rename_i K hK X hX
    refine (HF.out.nm e.name _ HS.out.nm HXf.out.st).mono ?_;rintro x w4 ⟨⟨nb,hn,rfl⟩,hb⟩;have aX:=Hd (HXf.out.next hb);have HG4:=Hd (HGf.out.below hb HGf.out.lt);clear hb f1 c1 hcn;simp only [];refine hX _ _ ?_;clear hX;try simp only [Act.put,Sv,Sz,Sw]
    cases nb with
    |false=>
     refine Wv (.bool true) ?_;refine Wv (.bool true) ?_;refine Wv (.bool true) ?_;refine Wk ?_;refine Wk ?_;refine Wk ?_;refine Wk ?_;refine Wk ?_;refine Wv (.bool true) ?_;refine wpList_nil ?_;simp only [Exit.then];refine hK _ _ ?_;clear hK;go_wp2;go_ret;exact ⟨⟨false,valP_n hn,rfl⟩,aX.out.be⟩
    |true=>
     refine Wv (.bool false) ?_;refine Wv (.bool false) ?_;refine Wv (.bool false) ?_;refine Wv (.pointer (some ⟨(w.heap.size+1),3,none⟩)) ?_;have f3:=(HG4.out.cell 3).trans (show _=some (Value.func (.func vf) #[] #[]) from rfl);refine Wv (.func (.func vf) #[] #[]) ?_ (r:=by go_simp);clear f3;refine U9 (by kernel_rfl) 159 _ rfl w.heap.size rfl 159 (enC e a).toArray (0,0) _ aX.out.e1 Tryz.underlying159 rfl (by kernel_rfl) ?_;simp only [Act.put,Sv,Sz,Sw];refine V7 (by kernel_rfl) vf #[.agg (enC e a).toArray] (by go_simp) ?_;clear dU;refine (HF.out.va e a _ (HW.out.below aX.out.be) HS.out aX.out.st).mono ?_;rintro x w5 ⟨⟨vb,hv,rfl⟩,hb⟩;have bA:=Hd (aX.out.next hb);have HG5:=Hd (HG4.out.below hb HG4.out.lt);clear hb;simp only [];try simp only [Act.put,Sv,Sz,Sw]
     cases vb with
     |false=>
      refine Wv (.bool true) ?_;refine Wv (.bool true) ?_;refine wpList_nil ?_;simp only [Exit.then];refine hK _ _ ?_;clear hK;go_wp2;go_ret;exact ⟨⟨false,valP_v hv,rfl⟩,bA.out.be⟩
     |true=>
      refine Wv (.bool false) ?_;refine Wv (.bool false) ?_;refine wpList_nil ?_;simp only [Exit.then];refine hK _ _ ?_;clear hK
      go_wp2_with (first|((with_reducible refine Gl 236 3 ?_);refine Lq 236 ((w.heap.size+1)) (fvC L nf ff vf) HG5.out Tryz.underlying236 ?_)|((with_reducible refine Gl 159 1 ?_);refine Lq 159 w.heap.size ((enC e a).toArray) bA.out.e1 Tryz.underlying159 ?_)|(go_at_call 268;refine (bare_g HF.out HC.out e a _ (HW.out.below bA.out.be) HS.out rfl).mono ?_;rintro x w6 ⟨⟨s,R,a',h1,h2,h3,h4,h5,rfl,eU⟩,hb⟩;obtain ⟨q,hq⟩:∃ q,decide (Ed R.2.1 R.2.2=0)=q:=⟨_,rfl⟩;rw [hq];have HQ:=Hd hq;have HR:=Hd (And.intro h1 (And.intro h2 h3));have bB:=Hd (bA.out.next hb);have fK:=Hd eU;have kG:=Hd fun old=>Blk.new w6 159 old;have jX:=Hd fun old=>U1 w6 old (enC R.1 a').toArray 159;have HO6:=Hd (Vd R.1 a');clear h1 h2 h3 h4 h5 eU hb hq)|((with_reducible refine Gt 159 5 ?_);refine Lv 159 w6.heap.size (enC R.1 a').toArray (kG.out _) HO6.out ?_;rw [jX.out];refine Stop.go ?_))
      refine Stop.in' ?_;rename_i K2 hK2;have fN:=Hd (bB.out.alloc (.cells (enC R.1 a').toArray 159));refine Wv (.bool q) ?_;refine wpList_nil ?_;simp only [Exit.then];refine hK2 _ _ ?_;clear hK2;refine wp_seq_k fun K3 hK3=>?_
      refine wp_region_lit ?_;refine Wv (.bool q) ?_;refine Wv (.bool q) ?_;have hvp:=valP_of hn hv HR.out.1 HR.out.2.1;rw [HQ.out] at hvp;cases q with
      |false=>
       refine Wk ?_;refine Wk ?_;refine Wk ?_;refine Wv (.bool false) ?_;refine Wv (.bool false) ?_;refine wpList_nil ?_;simp only [Exit.then];refine hK3 _ _ ?_;clear hK3;go_wp2;go_ret;exact ⟨⟨false,by simpa using hvp,rfl⟩,fN.out.be⟩
      |true=>
       refine U9 (by kernel_rfl) 159 _ rfl w6.heap.size rfl 159 (enC R.1 a').toArray (0,0) _ (Blk.new w6 _ _) Tryz.underlying159 rfl (by kernel_rfl) ?_;simp only [Act.put,Sv,Sz,Sw];refine U9 (by kernel_rfl) 159 _ rfl w.heap.size rfl 159 (enC e a).toArray (0,0) _ fN.out.e1 Tryz.underlying159 rfl (by kernel_rfl) ?_;simp only [Act.put,Sv,Sz,Sw];refine V7 (by kernel_rfl) 154 #[.agg (enC R.1 a').toArray,.agg (enC e a).toArray] (by kernel_rfl) ?_;refine (same_any R.1 e a' a _ (fK.out.below ((Bf _ _).alloc (Le _) _)) (HW.out.below fN.out.be) (by have:=HR.out.2.2.la;omega) (by have:=HS.out.la;omega) (by have:=HR.out.2.2.lg;omega) (by have:=HS.out.lg;omega)).mono ?_;rintro x w7 ⟨⟨z,rfl,hz⟩,hb⟩;have iV:=Hd (fN.out.next hb);clear hb;simp only [];try simp only [Act.put,Sv,Sz,Sw]
       have hvz:valP e z:=by
        have e1:z=decide (R.1=e):=by
         cases z
         ·exact (decide_eq_false (fun h=>by cases hz.2 h)).symm
         ·exact (decide_eq_true (hz.1 rfl)).symm
        rw [e1];simpa using hvp
       refine Wv (.bool z) ?_;refine Wv (.bool z) ?_;refine wpList_nil ?_;simp only [Exit.then];refine hK3 _ _ ?_;clear hK3;go_wp2;go_ret;exact ⟨⟨z,hvz,rfl⟩,iV.out.be⟩
   exact An
  exact An
 exact An
def keyF (L:Int) (nm:Bz):Bz:=if 31<nm.size then ⟨#[]⟩ else strOfNums [L]++nm ++ ⟨(Lib.repeatL [32] (31-nm.size)).toArray⟩
theorem byte1 (W:Wd) (g:Nat) (a:Int) (h:Blk W g 5 #[.int .u8 a]):(convert 175 9 (.slice (some ⟨g,0,none⟩) 1 1)).run prog W = .ok (.string (strOfNums [a])) W:=
 I1 _ g 1 1 5 [a] h rfl
theorem I4 (a:Int):(strOfNums [a]).size=1:=rfl
theorem key_any (k L:Int) (nf ff vf:Nat) (nm:Bz) (w:Wd) (h0:0≤k) (h4:k≤4) (hfm:fmV k=EFV L nf ff vf) (hs:nm.size≤1000):
  Calls prog 215 #[.int .i64 k,.string nm] w fun x w'=>x = .returned (.string (keyF L nm))∧Below w.heap.size w w':=by
 have hlk:(Instr.lookup 231 (.map (some w.heap.size)) (.int .i64 k) true).run prog (w.alloc (.map fm5 5)) = .ok (.tuple #[.agg (fvC L nf ff vf),.bool true]) (w.alloc (.map fm5 5)):=by
  have h:=fLook (w.alloc (.map fm5 5)) w.heap.size k (heap_alloc_new w _) h0 h4 true;rw [hfm] at h;exact h
 have hbz:(w.alloc (.map fm5 5)).heap.size=w.heap.size+1:=by simp
 have aQ:Hid (∀ old,Blk ((w.alloc (.map fm5 5)).alloc (.cells old 236)) (w.heap.size+1) 236 old):=Hd fun old=>U3 (w.alloc (.map fm5 5)) _ _ (w.heap.size+1) (by simp)
 have bK:Hid (∀ old,((w.alloc (.map fm5 5)).alloc (.cells old 236)).setRow (w.heap.size+1) (fvC L nf ff vf)=(w.alloc (.map fm5 5)).alloc (.cells (fvC L nf ff vf) 236)):=Hd fun old=>by have h:=U1 (w.alloc (.map fm5 5)) old (fvC L nf ff vf) 236;rwa [hbz] at h
 have HO1:=Hd (Hl L nf ff vf);have HB:Hid (Below w.heap.size w ((w.alloc (.map fm5 5)).alloc (.cells (fvC L nf ff vf) 236))):=Hd (((Bf _ _).alloc (Le _) _).alloc (by simp) _);clear hbz h0 h4 hfm;unfold keyF;by_cases hz:31<nm.size
 ·rw [if_pos hz];have hd:decide ((31:Int)<(nm.size:Int))=true:=decide_eq_true (by omega);clear hz hs;go_enter Tryz.func215,Tryz.ntmps215;go_wp2_with (first|(go_at_call 150;refine (Yf _).mono ?_;rintro x w3 ⟨rfl,rfl⟩)|((with_reducible refine Gt 236 5 ?_);refine Lv 236 (w.heap.size+1) (fvC L nf ff vf) (aQ.out _) HO1.out ?_;rw [bK.out]));go_ret;exact ⟨rfl,HB.out⟩
 ·rw [if_neg hz];have hd:decide ((31:Int)<(nm.size:Int))=false:=decide_eq_false (by omega);obtain ⟨c,hc⟩:∃ c:Nat,31-nm.size=c:=⟨_,rfl⟩
  have dO:IntKind.i64.wrap (31-(nm.size:Int))=(c:Int):=by
   rw [show (31:Int)-(nm.size:Int)=(c:Int) by omega];rw [IntKind.wrap_i64];omega
  rw [hc];have HRP:=Hd fun W=>Tryz.strings_Repeat ⟨#[32]⟩ c W (by omega) (by rw [show (⟨#[32]⟩:Bz).size=1 from rfl];omega)
  have hsp:(⟨(Lib.repeatL [32] c).toArray⟩:Bz).size≤31:=by
   have h:=Lib.repeatL_length [32] c;show (Lib.repeatL [32] c).toArray.size≤31;rw [List.size_toArray,h];simp only [List.length_cons,List.length_nil];omega
  have h1z:=I4 L;have kU:=Hd fun W g=>byte1 W g L
  obtain ⟨sp,hsp2⟩:∃ sp,(⟨(Lib.repeatL [32] c).toArray⟩:Bz)=sp:=⟨_,rfl⟩
  obtain ⟨s1,hs1⟩:∃ s1,strOfNums [L]=s1:=⟨_,rfl⟩
  rw [hsp2] at HRP hsp ⊢;rw [hs1] at kU h1z ⊢;have hsz1:s1.size+nm.size≤9223372036854775807:=by omega
  have hsz2:s1.size+nm.size+sp.size≤9223372036854775807:=by omega
  have HCW:=Hd dO;have HZ:=Hd (And.intro hsz1 hsz2);clear hz hs hc dO hsp h1z hsp2 hs1 hsz1 hsz2;go_enter Tryz.func215,Tryz.ntmps215;go_wp2_with (first|(go_at_call 150;refine (Yf _).mono ?_;rintro x w3 ⟨rfl,rfl⟩)|((with_reducible refine Gt 236 5 ?_);refine Lv 236 (w.heap.size+1) (fvC L nf ff vf) (aQ.out _) HO1.out ?_;rw [bK.out]));clear hlk hd aQ bK HO1;have HBF:Hid (Blk ((w.alloc (.map fm5 5)).alloc (.cells (fvC L nf ff vf) 236)).drew (w.heap.size+1) 236 (fvC L nf ff vf)):=Hd (U3 (w.alloc (.map fm5 5)) _ _ (w.heap.size+1) (by simp)).drew;obtain ⟨V,hV⟩:∃ V,((w.alloc (.map fm5 5)).alloc (.cells (fvC L nf ff vf) 236))=V:=⟨_,rfl⟩
  simp only [hV] at HB HBF ⊢;clear hV;refine Rw (S:=fun w'=>Blk w' (w.heap.size+1) 236 (fvC L nf ff vf)) (by kernel_rfl) HBF.out (fun Hh=>?_);refine tk 0 (.pointer (some ⟨w.heap.size+1,0,none⟩)) Hh ?_;refine tj 1 (.int .u8 L) Hh ?_ (y:=by intro w' aH;have h1:=(aH.cell 0).trans (show _=some (Value.int .u8 L) from rfl);go_simp);refine tk 4 (.string nm) Hh ?_;refine tk 6 (.string nm) Hh ?_;refine tk 7 (.int .i64 (nm.size:Int)) Hh ?_;refine tj 8 (.int .i64 (c:Int)) Hh ?_ (y:=by intro w' aH;have h1:=HCW.out;go_simp);refine Aq [2,9] ?_;refine Rc (fun K hK=>?_) ?_
  ·go_simp;have hg:Blk (V.drew.alloc (.cells #[.int .u8 L] 5)) V.drew.heap.size 5 #[.int .u8 L]:=Blk.new _ _ _;refine hK.out _ _ (Hh.alloc _) (fun Hh=>?_);refine Xt (S':=fun w'=>Blk w' (w.heap.size+1) 236 (fvC L nf ff vf)∧Blk w' V.heap.size 5 #[.int .u8 L]) (fun _ h=>h.1) _ _ _ _ ?_
   replace Hh:Blk (V.drew.alloc (.cells #[.int .u8 L] 5)) (w.heap.size+1) 236 (fvC L nf ff vf)∧Blk (V.drew.alloc (.cells #[.int .u8 L] 5)) V.heap.size 5 #[.int .u8 L]:=⟨Hh,hg⟩
   clear hK K hg;try simp only [Act.put,Sv,Sz,Sw]
   refine tj 3 (.string s1) Hh ?_ (y:=by intro w' aH;have h1:=kU.out w' _ aH.2;go_simp);refine tj 5 (.string (s1++nm)) Hh ?_ (y:=by intro w' aH;have h1:=HZ.out.1;go_simp);refine Aq [9] ?_;refine Rc (fun K hK=>?_) ?_
   ·go_simp;refine (HRP.out _).mono ?_;rintro x w9 ⟨rfl,hb⟩;simp only [];refine hK.out _ _ ⟨Hh.1.below hb Hh.1.lt,Hh.2.below hb Hh.2.lt⟩ (fun Hh=>?_);clear hK K;try simp only [Act.put,Sv,Sz,Sw]
    have bC:=Hd hb;refine tj 10 (.string (s1++nm++sp)) Hh ?_ (y:=by intro w' aH;have h1:=HZ.out.2;go_simp);refine tk 11 (.string (s1++nm++sp)) Hh ?_;refine Ad (by kernel_rfl) ?_ _;clear Hh;go_wp2;go_ret;exact ⟨rfl,(U0 (HB.out.alloc HB.out.size _).drew bC.out (by have:=HB.out.size;simp;omega))⟩
   exact An
  refine Rc (fun K hK=>?_) ?_
  ·go_simp;refine (HRP.out _).mono ?_;rintro x w9 ⟨rfl,hb⟩;simp only [];refine hK.out _ _ (Hh.below hb Hh.lt) (fun Hh=>?_);clear hK K;try simp only [Act.put,Sv,Sz,Sw]
   have bC:Hid (Below w.heap.size w w9):=Hd (U0 HB.out.drew hb HB.out.size);clear hb;refine Aq [2] ?_;refine Rc (fun K hK=>?_) ?_
   ·go_simp;have hg:Blk (w9.alloc (.cells #[.int .u8 L] 5)) w9.heap.size 5 #[.int .u8 L]:=Blk.new _ _ _;refine hK.out _ _ (Hh.alloc _) (fun Hh=>?_);refine Xt (S':=fun w'=>Blk w' (w.heap.size+1) 236 (fvC L nf ff vf)∧Blk w' w9.heap.size 5 #[.int .u8 L]) (fun _ h=>h.1) _ _ _ _ ?_
    replace Hh:Blk (w9.alloc (.cells #[.int .u8 L] 5)) (w.heap.size+1) 236 (fvC L nf ff vf)∧Blk (w9.alloc (.cells #[.int .u8 L] 5)) w9.heap.size 5 #[.int .u8 L]:=⟨Hh,hg⟩
    clear hK K hg;try simp only [Act.put,Sv,Sz,Sw]
    refine tj 3 (.string s1) Hh ?_ (y:=by intro w' aH;have h1:=kU.out w' _ aH.2;go_simp);refine tj 5 (.string (s1++nm)) Hh ?_ (y:=by intro w' aH;have h1:=HZ.out.1;go_simp);refine tj 10 (.string (s1++nm++sp)) Hh ?_ (y:=by intro w' aH;have h1:=HZ.out.2;go_simp);refine tk 11 (.string (s1++nm++sp)) Hh ?_;refine Ad (by kernel_rfl) ?_ _;clear Hh;go_wp2;go_ret;exact ⟨rfl,(bC.out.alloc bC.out.size _)⟩
   exact An
  exact An
noncomputable def Kb (e:En):Option Bz:=if validE e then some (keyF (if e.kind=0 then 68 else 71) e.name++bodyF e.kind e) else none
def encP (e:En) (o:Option Bz):Prop:=e.kind=0∨e.kind=1→o=Kb e
def encV:Option Bz→Value
 |none=>.tuple #[.string ⟨#[]⟩,.int .i64 1]
 |some s=>.tuple #[.string s,.int .i64 0]
def EncG (e:En) (w:Wd) (x:Ending) (w':Wd):Prop:=(∃ o:Option Bz,encP e o∧(∀ s,o=some s→s.size≤200000)∧x = .returned (encV o))∧Below w.heap.size w w'
theorem keyF_size (L:Int) (nm:Bz):(keyF L nm).size≤100:=by
 unfold keyF;split
 ·exact Z0 _
 ·rename_i h;have h2:=Lib.repeatL_length [32] (31-nm.size);rw [ByteArray.size_append,ByteArray.size_append,I4];show 1+nm.size+(Lib.repeatL [32] (31-nm.size)).toArray.size≤100;rw [List.size_toArray,h2];simp only [List.length_cons,List.length_nil];omega
theorem Kc (e:En) (a:EnA) (w:Wd) (hw:EW [] w e a) (hs:Sm e) (h0:0≤e.kind) (h4:e.kind≤4) (ht:Sta w):
  Calls prog 152 #[.agg (enC e a).toArray] w (EncG e w):=by
 obtain ⟨L,nf,ff,vf,hfm,hF,hC,hL0,hL1,hLD,hLG⟩:=fm_form e.kind h0 h4;have HX:=Hd (EB.new e a w ht);have HLK:Hid (∀ W b,W.heap[b]? =some (.map fm5 5)→(Instr.lookup 231 (.map (some b)) (.int .i64 e.kind) false).run prog W = .ok (.agg (fvC L nf ff vf)) W):=Hd fun W b hb=>by have h:=fLook W b e.kind hb h0 h4 false;rw [hfm] at h;exact h
 have HV:=Hd (evalid_any e a _ (hw.below HX.out.be) hs h0 h4 HX.out.st);have HKY:=Hd fun W=>key_any e.kind L nf ff vf e.name W h0 h4 hfm hs.nm
 have HBD:=Hd fun W (h:EB e a w W)=>body_g (L:=L) hF hC e a W (hw.below h.be) hs
 have HEN:Hid (∀ b s,valP e b→wrP e.kind e s→encP e (if b then some (keyF L e.name++s) else none)):=Hd fun b s h1 h2 hk=>by
  rw [h1 hk,wrP_eq h2 hk];unfold Kb;rcases hk with hk|hk
  ·rw [hLD.2 hk,if_pos hk]
  ·rw [hLG.2 hk,if_neg (show ¬ e.kind=0 by omega)]
 have HKZ:=Hd (keyF_size L e.name)
 have HVN:Hid (valP e false→encP e none):=Hd fun h1 hk=>by
  unfold Kb;rw [←h1 hk];rfl
 generalize keyF L e.name=ky at HKY HEN HKZ;clear hw hs h0 h4 ht hfm hF hC hL0 hL1 hLD hLG;go_enter Tryz.func152,Tryz.ntmps152;go_wp2_with (first|((with_reducible refine Gl 159 1 ?_);refine Lq 159 w.heap.size (enC e a).toArray HX.out.e1 Tryz.underlying159 ?_)|(go_at_call 214;refine HV.out.mono ?_;rintro x w2 ⟨⟨b,bT,rfl⟩,hb⟩;have HP:=Hd bT;have aM:=Hd (HX.out.next hb);clear hb bT;cases b))
 ·refine Br (results_tmp2 Tryz.results152 _ _ _) rfl ?_;exact ⟨⟨none,HVN.out HP.out,(fun s h=>by cases h),rfl⟩,aM.out.be⟩
 ·have HXd:Hid (EB e a w w2.drew):=Hd (aM.out.next (Bf _ _).drew);clear HX;refine Rw (S:=fun w'=>EB e a w w') (by kernel_rfl) HXd.out (fun Hh=>?_);refine tk 0 (.pointer (some ⟨w.heap.size,0,none⟩)) Hh ?_;refine tj 1 (.int .i64 e.kind) Hh ?_ (y:=by intro w' aH;have h1:=aH.cell 0 (.int .i64 e.kind) rfl;go_simp);refine tk 2 (.pointer (some ⟨w.heap.size,1,none⟩)) Hh ?_;refine tj 3 (.string e.name) Hh ?_ (y:=by intro w' aH;have h1:=aH.cell 1 (.string e.name) rfl;go_simp);refine tk 6 (.pointer (some ⟨w.heap.size,0,none⟩)) Hh ?_;refine tj 7 (.int .i64 e.kind) Hh ?_ (y:=by intro w' aH;have h1:=aH.cell 0 (.int .i64 e.kind) rfl;go_simp)
  refine tk 9 (.agg (enC e a).toArray) Hh ?_ (y:=by exact yieldsIf_load_mid (by rfl) 159 _ rfl w.heap.size 0 rfl (enC e a) _ (fun w' aH j v hv=>by rw [aH.e1.cell,Nat.zero_add,Ga];exact hv) Tryz.underlying159 rfl (by kernel_rfl));refine Aq [4] ?_;refine Rc (fun K hK=>?_) ?_
  ·go_simp;refine (HKY.out _).mono ?_;rintro x w3 ⟨rfl,hb⟩;simp only [];have aP:=Hd (HXd.out.next hb);refine hK.out _ _ aP.out (fun Hh=>?_);clear hK K hb;try simp only [Act.put,Sv,Sz,Sw]
   refine Aq [5] ?_;refine Rc (fun K hK=>?_) ?_
   ·go_simp;refine (Yf _).mono ?_;rintro x w4 ⟨rfl,rfl⟩;simp only [];refine hK.out _ _ (Hh.alloc _) (fun Hh=>?_);clear hK K;try simp only [Act.put,Sv,Sz,Sw]
    refine Xt (S':=fun w'=>EB e a w w'∧w'.heap[w3.heap.size]? =some (.map fm5 5)) (fun _ h=>h.1) _ _ _ _ ?_
    replace Hh:EB e a w (w3.alloc (.map fm5 5))∧(w3.alloc (.map fm5 5)).heap[w3.heap.size]? =some (.map fm5 5):=⟨Hh,heap_alloc_new w3 _⟩
    refine tj 8 (.agg (fvC L nf ff vf)) Hh ?_ (y:=by intro w' aH;have h1:=HLK.out w' w3.heap.size aH.2;go_simp);refine Aq [10] ?_;refine Rc (fun K hK=>?_) ?_
    ·go_simp;refine (HBD.out _ Hh.1).mono ?_;rintro x w5 ⟨⟨s,hs1,hs2,rfl⟩,hb⟩;simp only [];have bA:=Hd (Hh.1.next hb);have aN:ky.size+s.size≤9223372036854775807:=by have:=HKZ.out;omega
     have HS:=Hd (And.intro hs1 hs2);refine hK.out _ _ ⟨bA.out,(hb.block _ (by simp)).trans Hh.2⟩ (fun Hh=>?_);clear hK K hb hs1 hs2;try simp only [Act.put,Sv,Sz,Sw]
     refine tj 11 (.string (ky++s)) Hh ?_ (y:=by intro w' aH;have h1:=aN;go_simp);refine tk 12 (.string (ky++s)) Hh ?_;refine tk 13 (.int .i64 0) Hh ?_;refine Ad (by kernel_rfl) ?_ _;clear Hh aN;go_wp2;refine Br (results_tmp2 Tryz.results152 _ _ _) rfl ?_;exact ⟨⟨some (ky++s),HEN.out true s HP.out HS.out.1,(fun t h=>by injection h with h;subst h;rw [ByteArray.size_append];have:=HS.out.2;have:=HKZ.out;omega),rfl⟩,bA.out.be⟩
    exact An
   exact An
  exact An
section
open Go.ChangeMaps
def trimF (s:Bz):Bz:=⟨(Lib.trimRightB s.data.toList 32).toArray⟩
def Er (s:Bz):Int:=((s.data.toList.getD 0 0).toNat:Int)
noncomputable def deF (k:Int) (rec:Bz):Option En:=
 let R:=readF k (trimF (rec.extract 1 32)) (rec.extract 32 rec.size)
 if Ed R.2.1 R.2.2=0∧Kb R.1=some rec then some R.1 else none
def decP (rec:Bz) (o:Option En):Prop:=
 if rec.size<32∨200<rec.size then o=none
 else (Er rec=68→o=deF 0 rec)∧(Er rec=71→o=deF 1 rec)∧(Er rec≠68→Er rec≠71→∀ e,o=some e→2≤e.kind)
def decV (o:Option En) (a:EnA):Value:=match o with
 |none=>.tuple #[.agg (enC enZ enN).toArray,.int .i64 11]
 |some e=>.tuple #[.agg (enC e a).toArray,.int .i64 0]
def DecG (rec:Bz) (w:Wd) (x:Ending) (w':Wd):Prop:=(∃ (o:Option En) (a:EnA),decP rec o∧(∀ e,o=some e→Sm e∧0≤e.kind∧e.kind≤4∧EWn w.heap.size w' e a)∧x = .returned (decV o a))∧Below w.heap.size w w'
theorem fm5_mem {e:MapEntry} (h:e∈fm5.toList):∃ k:Nat,k≤4∧e.key = .int .i64 k∧e.val=fmV k∧e.born=k:=by
 have h2:fm5.toList = [⟨.int .i64 0,fmV 0,0⟩,⟨.int .i64 1,fmV 1,1⟩,⟨.int .i64 2,fmV 2,2⟩,⟨.int .i64 3,fmV 3,3⟩,⟨.int .i64 4,fmV 4,4⟩]:=rfl;rw [h2] at h;simp only [List.mem_cons,List.not_mem_nil,or_false] at h;rcases h with rfl|rfl|rfl|rfl|rfl
 ·exact ⟨0,by decide,rfl,rfl,rfl⟩
 ·exact ⟨1,by decide,rfl,rfl,rfl⟩
 ·exact ⟨2,by decide,rfl,rfl,rfl⟩
 ·exact ⟨3,by decide,rfl,rfl,rfl⟩
 ·exact ⟨4,by decide,rfl,rfl,rfl⟩
theorem fm5_born:∀ x∈fm5.toList,x.born<5:=fun x hx=>by obtain ⟨k,h1,_,_,h2⟩:=fm5_mem hx;omega
theorem fm5_nodup:(fm5.toList.map (·.born)).Nodup:=by decide
theorem fm5_all {seen:Array Nat} (h:(leftOf fm5 seen).size=0) {k:Nat} (hk:k≤4):seen.contains k=true:=by
 cases hc:seen.contains k with
 |true=>rfl
 |false=>
  have h1:(⟨.int .i64 k,fmV k,k⟩:MapEntry)∈fm5:=by
   have h2:fm5=#[⟨.int .i64 0,fmV 0,0⟩,⟨.int .i64 1,fmV 1,1⟩,⟨.int .i64 2,fmV 2,2⟩,⟨.int .i64 3,fmV 3,3⟩,⟨.int .i64 4,fmV 4,4⟩]:=rfl;rw [h2];have:k=0∨k=1∨k=2∨k=3∨k=4:=by omega
   rcases this with rfl|rfl|rfl|rfl|rfl<;>simp
  have h3:(⟨.int .i64 k,fmV k,k⟩:MapEntry)∈leftOf fm5 seen:=Array.mem_filter.2 ⟨h1,by simp only [hc];rfl⟩;have h4:leftOf fm5 seen=#[]:=Array.eq_empty_of_size_eq_zero h;rw [h4] at h3;simp at h3
section
variable {P:Program} {ops:Array Oper} {rest:List Oper} {o:Oper} {a:Act} {w:Wd} {Q:Exit→Act→Wd→Prop}
def NxW (w w1:Wd):Prop:=w1=w∨w1=w.drew
theorem wl_next (hg:o.guard=none) (it:Operand) (hop:o.op=Op.next it false) (r bm since c0:Nat) (seen:Array Nat) (es:Array MapEntry) (clock:Nat) (hit:a.eval it = .pointer (some ⟨r,0,none⟩))
  (hr:w.heap[r]? =some (.mapIter (some bm) since seen c0)) (hb:w.heap[bm]? =some (.map es clock)) (mB:∀ x∈es.toList,x.born<since) (hsc:since≤c0)
  (hDone:(leftOf es seen).size=0→wpList P ops Q rest (a.put o.dst (.tuple #[.bool false])) w)
  (hMore:∀ e∈(leftOf es seen).toList,∀ w1:Wd,NxW w w1→wpList P ops Q rest (a.put o.dst (.tuple #[.bool true,e.key,e.val])) (setBlock w1 r (.mapIter (some bm) since (seen.push e.born) clock))):
  wpList P ops Q (o::rest) a w:=by
 refine wpList_plain hg fun K' hK'=>?_
 unfold Oper.wp;rcases run_next_at (P:=P) w o.type r bm since c0 seen es clock hr hb mB hsc with ⟨h0,bM⟩|⟨e,he,w1,dN,bM⟩
 ·simp [execOp,hop,hit,bM,Result.andThen];exact hK' _ _ (hDone h0)
 ·simp [execOp,hop,hit,bM,Result.andThen];exact hK' _ _ (hMore e he w1 dN)
end
theorem far_block0 (W:Wd) (r:Nat) (ob:Obj):Far [r] W (setBlock W r ob):=
 ⟨rfl,rfl,rfl,by simp [setBlock],fun i _ hi=>by simp only [setBlock];rw [Array.getElem?_setIfInBounds_ne (fun e=>hi (by simp [e]))]⟩
theorem far_block {W w1:Wd} {r:Nat} {ob:Obj} (h:w1=W∨w1=W.drew):Far [r] W (setBlock w1 r ob):=by
 rcases h with rfl|rfl
 ·exact far_block0 _ r ob
 ·have h:=far_block0 W r ob;exact ⟨h.os,h.tape,h.output,h.size,h.block⟩
theorem block_at {W w1:Wd} {r:Nat} {ob:Obj} (h:w1=W∨w1=W.drew) (hr:r<W.heap.size):(setBlock w1 r ob).heap[r]? =some ob:=by
 have h0:(setBlock W r ob).heap[r]? =some ob:=by simp [setBlock,hr]
 rcases h with rfl|rfl
 ·exact h0
 ·exact h0
structure DL (seen:Array Nat) (w W:Wd):Prop where
 mb:W.heap[w.heap.size+1]? =some (.map fm5 5)
 it:∃ c,5≤c∧W.heap[w.heap.size+2]? =some (.mapIter (some (w.heap.size+1)) 5 seen c)
 rc:Blk W w.heap.size 159 (enC enZ enN).toArray
 be:Below w.heap.size w W
 sz:w.heap.size+3≤W.heap.size
def SeenOk (rec:Bz) (seen:Array Nat):Prop:=(seen.contains 0=true→Er rec=68→deF 0 rec=none)∧(seen.contains 1=true→Er rec=71→deF 1 rec=none)
theorem DL.far {seen:Array Nat} {w W W':Wd} {S:List Nat} (h:DL seen w W) (hf:Far S W W') (hS:∀ k∈S,w.heap.size+3≤k):DL seen w W':=by
 have hz:=h.sz;have ne:∀ k,k<w.heap.size+3→k ∉ S:=fun k hk hm=>by have:=hS k hm;omega
 obtain ⟨c,hc,hi⟩:=h.it;exact ⟨(hf.block _ (by omega) (ne _ (by omega))).trans h.mb,⟨c,hc,(hf.block _ (by omega) (ne _ (by omega))).trans hi⟩,h.rc.far' hf (ne _ (by omega)),h.be.trans (hf.below (fun k hk=>by have:=hS k hk;omega) h.be.size),Lx h.sz hf.size⟩
theorem DL.next {seen:Array Nat} {w W W':Wd} (h:DL seen w W) (hb:Below W.heap.size W W'):DL seen w W':=h.far (S:=[]) (Far.of_below hb) (by simp)
theorem DL.step {seen:Array Nat} {w W w1:Wd} (h:DL seen w W) {k:Nat} (hw:NxW W w1):
  DL (seen.push k) w (setBlock w1 (w.heap.size+2) (.mapIter (some (w.heap.size+1)) 5 (seen.push k) 5)):=by
 have hz:=h.sz;have hf:Far [w.heap.size+2] W (setBlock w1 (w.heap.size+2) (.mapIter (some (w.heap.size+1)) 5 (seen.push k) 5)):=far_block hw;exact ⟨(hf.block _ (by omega) (by simp)).trans h.mb,⟨5,Le _,block_at hw (by omega)⟩,h.rc.far' hf (by simp),h.be.trans (hf.below (by simp) h.be.size),Lx h.sz hf.size⟩
theorem DL.entry {seen:Array Nat} {w W:Wd} {k:Nat} (h:DL (seen.push k) w W) (hk:k≤4) (hit:W.heap[w.heap.size+2]? =some (.mapIter (some (w.heap.size+1)) 5 (seen.push k) 5)):
  (Instr.entry (.pointer (some ⟨w.heap.size+2,0,none⟩))).run prog W = .ok (.tuple #[.int .i64 k,fmV k]) W:=
 run_entry_at W _ _ 5 seen fm5 5 ⟨.int .i64 k,fmV k,k⟩ hit h.mb (by
  have h2:fm5.toList = [⟨.int .i64 0,fmV 0,0⟩,⟨.int .i64 1,fmV 1,1⟩,⟨.int .i64 2,fmV 2,2⟩,⟨.int .i64 3,fmV 3,3⟩,⟨.int .i64 4,fmV 4,4⟩]:=rfl;rw [h2];have:k=0∨k=1∨k=2∨k=3∨k=4:=by omega
  rcases this with rfl|rfl|rfl|rfl|rfl<;>simp) fm5_nodup
theorem DL.seenOf {seen:Array Nat} {w W:Wd} (h:DL seen w W):W.iterSeen (w.heap.size+2)=seen:=by
 obtain ⟨c,_,hi⟩:=h.it;unfold World.iterSeen;rw [hi]
theorem SeenOk.push {rec:Bz} {seen:Array Nat} (h:SeenOk rec seen) {k:Nat} (h0:k=0→Er rec=68→deF 0 rec=none) (h1:k=1→Er rec=71→deF 1 rec=none):SeenOk rec (seen.push k):=by
 refine ⟨fun hc=>?_,fun hc=>?_⟩
 ·rw [contains_push] at hc;rcases Bool.or_eq_true .. ▸ hc with hc|hc
  ·exact h.1 hc
  ·exact h0 (by have:=beq_iff_eq.1 hc;omega)
 ·rw [contains_push] at hc;rcases Bool.or_eq_true .. ▸ hc with hc|hc
  ·exact h.2 hc
  ·exact h1 (by have:=beq_iff_eq.1 hc;omega)
end
end Go.Proofs.YtoakknkmjnebjaaGreatDoor
