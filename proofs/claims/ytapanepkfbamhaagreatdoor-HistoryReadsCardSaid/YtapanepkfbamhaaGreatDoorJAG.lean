/- Part of the proof of HistoryReads. -/
import Derived.Test.YtapanepkfbamhaaGreatDoorJAF
import Derived.Laws.EntriesVeiled
namespace Go.Proofs.YtapanepkfbamhaaGreatDoor
open Tryz (prog)
section
set_option maxRecDepth 100000
open Go.RowKit
theorem Zz {S:List Nat} {w w':World} {p:Addr} {v:Value} (h:w.cell? p=some v) (hf:Far S w w') (hp:p.block ∉ S):w'.cell? p=some v:=by
 have hb:p.block<w.heap.size:=by
  rcases Nat.lt_or_ge p.block w.heap.size with h'|h'
  ·exact h'
  ·simp [World.cell?,Array.getElem?_eq_none h'] at h
 rw [World.cell?_of_block (hf.block p.block hb hp)];exact h
theorem cnums_w (c g h cc:Nat) (os:List Nat) (l:List Int) (out:ByteArray) (w:World) (hc:Cw w c out) (ho:out.size+10*l.length≤1000000000) (hl:l.length≤1000) (hlen:os.length=l.length)
  (hp:∀ (j o:Nat),os[j]? =some o→w.cell? ⟨h,j,none⟩=some (.pointer (some ⟨g,o,none⟩)))
  (hv:∀ (j o:Nat) (n:Int),os[j]? =some o→l[j]? =some n→w.cell? ⟨g,o,none⟩=some (.int .i64 n)) (hr:∀ n∈l,0≤n∧n≤9223372036854775807) (hgc:g≠c) (hhc:h≠c):
  Calls prog 192 #[.pointer (some ⟨c,0,none⟩),.slice (some ⟨h,0,none⟩) l.length cc] w fun x w'=>x = .returned (.tuple #[])∧Cw w' c (wrN out l)∧Far [c] w w':=by
 have HC:=Hd hc;have HP:=Hd hp;have HV:=Hd hv;have HR:=Hd hr;have HG:=Hd hgc;have HH:=Hd hhc;have HN:=Hd hlen;have HO:=Hd ho;obtain ⟨n,hn⟩:∃ n,l.length=n:=⟨_,rfl⟩
 rw [hn] at hl ⊢;have HL:=Hd hn;clear hc hp hv hr hgc hhc hlen hn ho;go_enter Tryz.func192,Tryz.ntmps192;go_wp2;go_loopw [8] (fun i wr => ∃ j:Nat,j≤n∧i = .int .i64 j∧Cw wr c (wrN out (l.take j))∧Far [c] w wr) (fun i _=>n-(intOf i).toNat)
 case atStart=>exact ⟨0,Z0 _,rfl,HC.out,Far.refl _ _⟩
 case round=>
  obtain ⟨j,hj,rfl,hcw,hfa⟩:=hrel;have HCW:=Hd hcw;have HFA:=Hd hfa;clear hcw hfa;by_cases hlt:j<n
  ·have hjl:j<l.length:=by rw [HL.out];exact hlt
   obtain ⟨o,ho⟩:∃ o,os[j]? =some o:=⟨_,List.getElem?_eq_getElem (by rw [HN.out];exact hjl)⟩
   obtain ⟨m,hm⟩:∃ m,l[j]? =some m:=⟨_,List.getElem?_eq_getElem hjl⟩
   have c0:=Zz (HP.out j o ho) HFA.out (by simpa using HH.out);have c1:=Zz (HV.out j o m ho hm) HFA.out (by simpa using HG.out);have hmr:=HR.out m (List.mem_of_getElem? hm)
   have hz:(wrN out (l.take j)).size≤1000000000:=by
    have h1:=Vz (l.take j) out;have h2:=HO.out;rw [List.length_take] at h1;omega
   have HCC:=Hd (Id c g o (wrN out (l.take j)) m wr HCW.out c1 hz hmr.1 hmr.2);have HT:=Hd (wrN_take out hm);clear c1 hmr hz ho hm hjl;go_wp2_with (go_at_call 205;refine HCC.out.mono ?_;rintro x w2 ⟨rfl,h1,h2⟩;have H1:=Hd h1;have H2:=Hd h2;clear h1 h2);go_roundw
   case rel=>exact ⟨j+1,by omega,by go_num,by rw [HT.out];exact H1.out,HFA.out.trans H2.out⟩
   case measure=>simp [intOf];omega
  ·have hjn:j=n:=by omega
   subst hjn;go_wp2
   go_end0
   exact ⟨rfl,by have h:=HCW.out;rwa [List.take_of_length_le (by rw [HL.out];exact Le _)] at h,HFA.out⟩
theorem cnums_r (c r g h cc n:Nat) (t:TypeId) (os:List Nat) (cs:Array Value) (left:ByteArray) (err:Int) (w:World) (hs:left.size≤maxLen) (hc:Cr w c r) (hr:Rdr w r left err) (hg:Blk w g t cs) (hn:n≤1000) (hlen:os.length=n)
  (hp:∀ (j o:Nat),os[j]? =some o→w.cell? ⟨h,j,none⟩=some (.pointer (some ⟨g,o,none⟩)))
  (hv:∀ (j o:Nat),os[j]? =some o→∃ m:Int,cs[o]? =some (.int .i64 m)) (hrg:r≠g) (hhr:h≠r) (hhg:h≠g) (hcr:c≠r) (hcg:c≠g):
  Calls prog 192 #[.pointer (some ⟨c,0,none⟩),.slice (some ⟨h,0,none⟩) n cc] w fun x w'=>x = .returned (.tuple #[])∧Rdr w' r (Uj n left err).2.1 (Uj n left err).2.2∧Blk w' g t (Y7 cs os (Uj n left err).1)∧Far [r,g] w w':=by
 have HC:=Hd hc;have HRD:=Hd hr;have HGB:=Hd hg;have HP:=Hd hp;have HV:=Hd hv;have HG:=Hd (And.intro hrg (And.intro hhr (And.intro hhg (And.intro hcr hcg))));have HN:=Hd hlen;have HS:=Hd hs;clear hc hr hg hp hv hrg hhr hhg hcr hcg hlen hs;go_enter Tryz.func192,Tryz.ntmps192;go_wp2;go_loopw [8] (fun i wr => ∃ j:Nat,j≤n∧i = .int .i64 j∧Rdr wr r (Uj j left err).2.1 (Uj j left err).2.2∧Blk wr g t (Y7 cs (os.take j) (Uj j left err).1)∧Far [r,g] w wr) (fun i _=>n-(intOf i).toNat)
 case atStart=>exact ⟨0,Z0 _,rfl,HRD.out,HGB.out,Far.refl _ _⟩
 case round=>
  obtain ⟨j,hj,rfl,hrd,hgb,hfa⟩:=hrel;have HR2:=Hd hrd;have HG2:=Hd hgb;have HFA:=Hd hfa;clear hrd hgb hfa;by_cases hlt:j<n
  ·obtain ⟨o,ho⟩:∃ o,os[j]? =some o:=⟨_,List.getElem?_eq_getElem (by rw [HN.out];exact hlt)⟩
   have c0:=Zz (HP.out j o ho) HFA.out (by simp only [List.mem_cons,List.not_mem_nil,or_false,not_or];exact ⟨HG.out.2.1,HG.out.2.2.1⟩);obtain ⟨m,hm⟩:=setCs_num (os.take j) (Uj j left err).1 cs o (HV.out j o ho);have hcr2:Cr wr c r:=Blk.far' HC.out HFA.out (by simp only [List.mem_cons,List.not_mem_nil,or_false,not_or];exact ⟨HG.out.2.2.2.1,HG.out.2.2.2.2⟩);have HCC:=Hd (Zk c r g o t (Y7 cs (os.take j) (Uj j left err).1) m (Uj j left err).2.1 (Uj j left err).2.2 wr (Lx (Yb j left err) HS.out) hcr2 HR2.out HG2.out hm HG.out.1);have ht:os.take (j+1)=os.take j++[o]:=by rw [List.take_add_one,ho];rfl
   have hl2:(os.take j).length=(Uj j left err).1.length:=by rw [Xh,List.length_take,HN.out];omega
   have HT:Hid (Y7 cs (os.take (j+1)) (Uj (j+1) left err).1=(Y7 cs (os.take j) (Uj j left err).1).setIfInBounds o (.int .i64 (Uu (Uj j left err).2.1 (Uj j left err).2.2).1)):=Hd (by rw [ht,E7];exact setCs_snoc _ _ _ _ _ hl2);have HT2:Hid ((Uj (j+1) left err).2=(Uu (Uj j left err).2.1 (Uj j left err).2.2).2):=Hd (by rw [E7]);clear hm hcr2 ht hl2 ho;go_wp2_with (go_at_call 205;refine HCC.out.mono ?_;rintro x w2 ⟨rfl,h1,h2,h3⟩;have H1:=Hd h1;have H2:=Hd h2;have H3:=Hd h3;clear h1 h2 h3);go_roundw
   case rel=>exact ⟨j+1,by omega,by go_num,by rw [HT2.out];exact H1.out,by rw [HT.out];exact H2.out,HFA.out.trans H3.out⟩
   case measure=>simp [intOf];omega
  ·have hjn:j=n:=by omega
   subst hjn;go_wp2
   go_end0
   exact ⟨rfl,HR2.out,by have h:=HG2.out;rwa [List.take_of_length_le (by rw [HN.out];exact Le _)] at h,HFA.out⟩
end
section
set_option maxRecDepth 100000
set_option maxHeartbeats 4000000
open Go.RowKit
def dataW (out:ByteArray) (e:En):ByteArray:=
 wrN (wrN (wrN (wrN out [e.d.id,e.d.org,e.d.fmt,e.d.len,e.d.blk,e.d.kat,e.d.kln,e.d.itv,e.d.area,e.d.fi,e.d.fa,e.d.base,e.d.aat,e.d.aln]++encB e.d.uniq++Yk e.d.cls++Yv e.d.vol++Yv e.d.own) [e.d.cre,e.d.exp]++encB e.d.arch++Yk e.alts.length) e.alts) [e.used]
structure DwI (c g:Nat) (e:En) (a:EnA) (w W:World) (out:ByteArray):Prop where
 cw:Cw W c out
 bg:Blk W g 159 (enC e a).toArray
 ew:EW [c] W e a
 fa:Far [c] w W
 ne:g≠c
section
variable {c g:Nat} {e:En} {a:EnA} {w W:World} {out:ByteArray}
theorem DwI.step (h:DwI c g e a w W out) {W2:World} {o2:ByteArray} (h1:Cw W2 c o2) (h2:Far [c] W W2):DwI c g e a w W2 o2:=
 ⟨h1,h.bg.far' h2 (by simpa using h.ne),h.ew.far h2 (fun k hk=>hk),h.fa.trans h2,h.ne⟩
theorem DwI.cell (h:DwI c g e a w W out) (i:Nat) (v:Value) (hv:(enC e a)[i]? =some v):W.cell? ⟨g,i,none⟩=some v:=by
 rw [h.bg.cell];simpa using hv
theorem DwI.alloc (h:DwI c g e a w W out) (o:Obj):DwI c g e a w (W.alloc o) out:=h.step (Blk.alloc h.cw o) ((Far.refl _ _).alloc o)
theorem DwI.drew (h:DwI c g e a w W out):DwI c g e a w W.drew out:=h.step (Blk.drew h.cw) ((Far.refl _ _).drewN 1)
theorem DwI.lt (h:DwI c g e a w W out):c<W.heap.size∧g<W.heap.size:=⟨Blk.lt h.cw,h.bg.lt⟩
end
def ptrs (g:Nat) (os:List Nat):Array Value:=(os.map fun o=>Value.pointer (some ⟨g,o,none⟩)).toArray
theorem Yx {W:World} {h g:Nat} {t:TypeId} {os:List Nat} (hb:Blk W h t (ptrs g os)):∀ (j o:Nat),os[j]? =some o→W.cell? ⟨h,j,none⟩=some (.pointer (some ⟨g,o,none⟩)):=by
 intro j o ho;rw [hb.cell];simp [ptrs,ho]
theorem Ki {W:World} {g:Nat} {os:List Nat} {l:List Int} (h:∀ p∈os.zip l,W.cell? ⟨g,p.1,none⟩=some (.int .i64 p.2)):∀ (j o:Nat) (n:Int),os[j]? =some o→l[j]? =some n→W.cell? ⟨g,o,none⟩=some (.int .i64 n):=by
 intro j o n ho hn;refine h (o,n) (List.mem_of_getElem? (i:=j) ?_);rw [List.getElem?_zip_eq_some];exact ⟨ho,hn⟩
theorem Xt (b:Bool):(encB b).size=1:=by cases b<;>rfl
theorem data_w (c g:Nat) (e:En) (a:EnA) (out:ByteArray) (w:World) (hc:Cw w c out) (hg:Blk w g 159 (enC e a).toArray) (hw:EW [c] w e a) (hs:Sm e) (ho:out.size≤100000) (hgc:g≠c):
  Calls prog 188 #[.pointer (some ⟨c,0,none⟩),.pointer (some ⟨g,0,none⟩)] w fun x w'=>x = .returned (.tuple #[])∧Cw w' c (dataW out e)∧Far [c] w w':=by
 obtain ⟨A,C,gA,gC⟩:=a;have HX:Hid (DwI c g e ⟨A,C,gA,gC⟩ w w out):=Hd ⟨hc,hg,hw,Far.refl _ _,hgc⟩;have HX0L:=Hd HX.out.lt;have HS:=Hd hs;have hla:=hs.la;clear hc hg hw hs;unfold dataW;have q1:=Vz [e.d.id,e.d.org,e.d.fmt,e.d.len,e.d.blk,e.d.kat,e.d.kln,e.d.itv,e.d.area,e.d.fi,e.d.fa,e.d.base,e.d.aat,e.d.aln] out;simp only [List.length_cons,List.length_nil] at q1;obtain ⟨o1,ho1⟩:∃ o1,wrN out [e.d.id,e.d.org,e.d.fmt,e.d.len,e.d.blk,e.d.kat,e.d.kln,e.d.itv,e.d.area,e.d.fi,e.d.fa,e.d.base,e.d.aat,e.d.aln]=o1:=⟨_,rfl⟩
 rw [ho1];obtain ⟨o2,ho2⟩:∃ o2,o1++encB e.d.uniq=o2:=⟨_,rfl⟩
 rw [ho2];obtain ⟨o3,ho3⟩:∃ o3,o2++Yk e.d.cls=o3:=⟨_,rfl⟩
 rw [ho3];obtain ⟨o4,ho4⟩:∃ o4,o3++Yv e.d.vol=o4:=⟨_,rfl⟩
 rw [ho4];obtain ⟨o5,ho5⟩:∃ o5,o4++Yv e.d.own=o5:=⟨_,rfl⟩
 rw [ho5];obtain ⟨o6,ho6⟩:∃ o6,wrN o5 [e.d.cre,e.d.exp]=o6:=⟨_,rfl⟩
 rw [ho6];obtain ⟨o7,ho7⟩:∃ o7,o6++encB e.d.arch=o7:=⟨_,rfl⟩
 rw [ho7];obtain ⟨o8,ho8⟩:∃ o8,o7++Yk e.alts.length=o8:=⟨_,rfl⟩
 rw [ho8];rw [ho1] at q1;have q2:o2.size=o1.size+1:=by rw [←ho2,ByteArray.size_append,Xt]
 have q3:o3.size≤o2.size+10:=by have:=V1 e.d.cls;rw [←ho3,ByteArray.size_append];omega
 have q4:o4.size≤o3.size+1010:=by have:=Xi e.d.vol;have:=HS.out.vo;rw [←ho4,ByteArray.size_append];omega
 have q5:o5.size≤o4.size+1010:=by have:=Xi e.d.own;have:=HS.out.ow;rw [←ho5,ByteArray.size_append];omega
 have q6:o6.size≤o5.size+20:=by have:=Vz [e.d.cre,e.d.exp] o5;rw [←ho6];simp only [List.length_cons,List.length_nil] at this;omega
 have q7:o7.size=o6.size+1:=by rw [←ho7,ByteArray.size_append,Xt]
 have q8:o8.size≤o7.size+10:=by have:=V1 e.alts.length;rw [←ho8,ByteArray.size_append];omega
 have z1:o1.size≤1000000000:=by omega
 have z2:o2.size≤1000000000:=by omega
 have z3:o3.size≤1000000000:=by omega
 have z4:o4.size≤1000000000:=by omega
 have z5:o5.size≤1000000000:=by omega
 have z6:o6.size≤1000000000:=by omega
 have z7:o7.size≤1000000000:=by omega
 have z0:out.size+10*14≤1000000000:=by omega
 have z5':o5.size+10*2≤1000000000:=by omega
 have z8:o8.size+100≤1000000000:=by omega
 have HZ:=Hd (And.intro z0 (And.intro z1 (And.intro z2 (And.intro z3 (And.intro z4 (And.intro z5' (And.intro z6 (And.intro z7 z8))))))));have HO:=Hd (And.intro ho1 (And.intro ho2 (And.intro ho3 (And.intro ho4 (And.intro ho5 (And.intro ho6 (And.intro ho7 ho8)))))));clear q1 q2 q3 q4 q5 q6 q7 q8 z0 z1 z2 z3 z4 z5 z5' z6 z7 z8 ho1 ho2 ho3 ho4 ho5 ho6 ho7 ho8 ho;have HVO:Hid (e.d.vol.size≤1000000000∧e.d.own.size≤1000000000):=Hd ⟨by have:=HS.out.vo;omega,by have:=HS.out.ow;omega⟩;have hnu:=HS.out.nu;simp only [List.mem_cons,List.not_mem_nil,or_false,forall_eq_or_imp,forall_eq] at hnu;obtain ⟨nu0,nu1,nu2,nu3,nu4,nu5,nu6,nu7,nu8,nu9,nu10,nu11,nu12,nu13,nu14,nu15,nu16,nu17,nu18,nu19,nu20,nu21⟩:=hnu;have HNU:=Hd (And.intro nu14 (And.intro nu15 (And.intro nu16 nu17)))
 have HNL:Hid (∀ n∈[e.d.id,e.d.org,e.d.fmt,e.d.len,e.d.blk,e.d.kat,e.d.kln,e.d.itv,e.d.area,e.d.fi,e.d.fa,e.d.base,e.d.aat,e.d.aln],0≤n∧n≤9223372036854775807):=Hd (by simp only [List.mem_cons,List.not_mem_nil,or_false,forall_eq_or_imp,forall_eq];exact ⟨nu0,nu1,nu2,nu3,nu4,nu5,nu6,nu7,nu8,nu9,nu10,nu11,nu12,nu13⟩);have HNC:Hid (∀ n∈[e.d.cre,e.d.exp],0≤n∧n≤9223372036854775807):=Hd (by simp only [List.mem_cons,List.not_mem_nil,or_false,forall_eq_or_imp,forall_eq];exact ⟨nu15,nu16⟩);clear nu0 nu1 nu2 nu3 nu4 nu5 nu6 nu7 nu8 nu9 nu10 nu11 nu12 nu13 nu14 nu15 nu16 nu17 nu18 nu19 nu20 nu21
 have HX1:Hid (DwI c g e ⟨A,C,gA,gC⟩ w (w.alloc (.cells #[.pointer (some ⟨g,2,none⟩),.pointer (some ⟨g,3,none⟩),.pointer (some ⟨g,4,none⟩),.pointer (some ⟨g,5,none⟩),.pointer (some ⟨g,6,none⟩),.pointer (some ⟨g,7,none⟩),.pointer (some ⟨g,8,none⟩),.pointer (some ⟨g,9,none⟩),.pointer (some ⟨g,10,none⟩),.pointer (some ⟨g,11,none⟩),.pointer (some ⟨g,12,none⟩),.pointer (some ⟨g,13,none⟩),.pointer (some ⟨g,14,none⟩),.pointer (some ⟨g,15,none⟩)] 179)).drew out):=Hd (HX.out.alloc _).drew;have hne1:w.heap.size≠c:=by have:=HX0L.out.1;omega
 have HPT:Hid (Blk (w.alloc (.cells #[.pointer (some ⟨g,2,none⟩),.pointer (some ⟨g,3,none⟩),.pointer (some ⟨g,4,none⟩),.pointer (some ⟨g,5,none⟩),.pointer (some ⟨g,6,none⟩),.pointer (some ⟨g,7,none⟩),.pointer (some ⟨g,8,none⟩),.pointer (some ⟨g,9,none⟩),.pointer (some ⟨g,10,none⟩),.pointer (some ⟨g,11,none⟩),.pointer (some ⟨g,12,none⟩),.pointer (some ⟨g,13,none⟩),.pointer (some ⟨g,14,none⟩),.pointer (some ⟨g,15,none⟩)] 179)).drew w.heap.size 179 (ptrs g [2,3,4,5,6,7,8,9,10,11,12,13,14,15])):=Hd (Blk.new w _ _).drew
 have HCN:Hid (Calls prog 192 #[.pointer (some ⟨c,0,none⟩),.slice (some ⟨w.heap.size,0,none⟩) 14 14] (w.alloc (.cells #[.pointer (some ⟨g,2,none⟩),.pointer (some ⟨g,3,none⟩),.pointer (some ⟨g,4,none⟩),.pointer (some ⟨g,5,none⟩),.pointer (some ⟨g,6,none⟩),.pointer (some ⟨g,7,none⟩),.pointer (some ⟨g,8,none⟩),.pointer (some ⟨g,9,none⟩),.pointer (some ⟨g,10,none⟩),.pointer (some ⟨g,11,none⟩),.pointer (some ⟨g,12,none⟩),.pointer (some ⟨g,13,none⟩),.pointer (some ⟨g,14,none⟩),.pointer (some ⟨g,15,none⟩)] 179)).drew fun x w'=>x = .returned (.tuple #[])∧Cw w' c o1∧Far [c] (w.alloc (.cells #[.pointer (some ⟨g,2,none⟩),.pointer (some ⟨g,3,none⟩),.pointer (some ⟨g,4,none⟩),.pointer (some ⟨g,5,none⟩),.pointer (some ⟨g,6,none⟩),.pointer (some ⟨g,7,none⟩),.pointer (some ⟨g,8,none⟩),.pointer (some ⟨g,9,none⟩),.pointer (some ⟨g,10,none⟩),.pointer (some ⟨g,11,none⟩),.pointer (some ⟨g,12,none⟩),.pointer (some ⟨g,13,none⟩),.pointer (some ⟨g,14,none⟩),.pointer (some ⟨g,15,none⟩)] 179)).drew w'):=Hd (by rw [←HO.out.1];exact cnums_w c g w.heap.size 14 [2,3,4,5,6,7,8,9,10,11,12,13,14,15] [e.d.id,e.d.org,e.d.fmt,e.d.len,e.d.blk,e.d.kat,e.d.kln,e.d.itv,e.d.area,e.d.fi,e.d.fa,e.d.base,e.d.aat,e.d.aln] out _ HX1.out.cw HZ.out.1 (by simp) rfl (Yx HPT.out) (Ki (by simp only [List.zip_cons_cons,List.zip_nil_right,List.mem_cons,List.not_mem_nil,or_false,forall_eq_or_imp,forall_eq];exact ⟨HX1.out.cell 2 _ rfl,HX1.out.cell 3 _ rfl,HX1.out.cell 4 _ rfl,HX1.out.cell 5 _ rfl,HX1.out.cell 6 _ rfl,HX1.out.cell 7 _ rfl,HX1.out.cell 8 _ rfl,HX1.out.cell 9 _ rfl,HX1.out.cell 10 _ rfl,HX1.out.cell 11 _ rfl,HX1.out.cell 12 _ rfl,HX1.out.cell 13 _ rfl,HX1.out.cell 14 _ rfl,HX1.out.cell 15 _ rfl⟩)) HNL.out hgc hne1)
 clear hne1;go_enter Tryz.func188,Tryz.ntmps188;go_wp2_with fail;refine Rw (S:=fun _=>True) (by kernel_rfl) trivial (fun Hh=>?_);refine tk 0 (.pointer (some ⟨c,0,none⟩)) Hh ?_;refine tk 1 (.pointer (some ⟨g,2,none⟩)) Hh ?_;refine tk 2 (.pointer (some ⟨g,2,none⟩)) Hh ?_;refine tk 3 (.pointer (some ⟨g,2,none⟩)) Hh ?_;refine tk 4 (.pointer (some ⟨g,2,none⟩)) Hh ?_;refine tk 5 (.pointer (some ⟨g,2,none⟩)) Hh ?_;refine tk 6 (.pointer (some ⟨g,3,none⟩)) Hh ?_;refine tk 7 (.pointer (some ⟨g,2,none⟩)) Hh ?_;refine tk 8 (.pointer (some ⟨g,2,none⟩)) Hh ?_;refine tk 9 (.pointer (some ⟨g,4,none⟩)) Hh ?_;refine tk 10 (.pointer (some ⟨g,2,none⟩)) Hh ?_;refine tk 11 (.pointer (some ⟨g,2,none⟩)) Hh ?_;refine tk 12 (.pointer (some ⟨g,5,none⟩)) Hh ?_;refine tk 13 (.pointer (some ⟨g,2,none⟩)) Hh ?_
 refine tk 14 (.pointer (some ⟨g,2,none⟩)) Hh ?_;refine tk 15 (.pointer (some ⟨g,6,none⟩)) Hh ?_;refine tk 16 (.pointer (some ⟨g,2,none⟩)) Hh ?_;refine tk 17 (.pointer (some ⟨g,2,none⟩)) Hh ?_;refine tk 18 (.pointer (some ⟨g,7,none⟩)) Hh ?_;refine tk 19 (.pointer (some ⟨g,2,none⟩)) Hh ?_;refine tk 20 (.pointer (some ⟨g,2,none⟩)) Hh ?_;refine tk 21 (.pointer (some ⟨g,8,none⟩)) Hh ?_;refine tk 22 (.pointer (some ⟨g,2,none⟩)) Hh ?_;refine tk 23 (.pointer (some ⟨g,2,none⟩)) Hh ?_;refine tk 24 (.pointer (some ⟨g,9,none⟩)) Hh ?_;refine tk 25 (.pointer (some ⟨g,2,none⟩)) Hh ?_;refine tk 26 (.pointer (some ⟨g,2,none⟩)) Hh ?_;refine tk 27 (.pointer (some ⟨g,10,none⟩)) Hh ?_;refine tk 28 (.pointer (some ⟨g,2,none⟩)) Hh ?_;refine tk 29 (.pointer (some ⟨g,2,none⟩)) Hh ?_;refine tk 30 (.pointer (some ⟨g,11,none⟩)) Hh ?_
 refine tk 31 (.pointer (some ⟨g,2,none⟩)) Hh ?_;refine tk 32 (.pointer (some ⟨g,2,none⟩)) Hh ?_;refine tk 33 (.pointer (some ⟨g,12,none⟩)) Hh ?_;refine tk 34 (.pointer (some ⟨g,2,none⟩)) Hh ?_;refine tk 35 (.pointer (some ⟨g,2,none⟩)) Hh ?_;refine tk 36 (.pointer (some ⟨g,13,none⟩)) Hh ?_;refine tk 37 (.pointer (some ⟨g,2,none⟩)) Hh ?_;refine tk 38 (.pointer (some ⟨g,2,none⟩)) Hh ?_;refine tk 39 (.pointer (some ⟨g,14,none⟩)) Hh ?_;refine tk 40 (.pointer (some ⟨g,2,none⟩)) Hh ?_;refine tk 41 (.pointer (some ⟨g,2,none⟩)) Hh ?_;refine tk 42 (.pointer (some ⟨g,15,none⟩)) Hh ?_;refine Ar (rs:=[43]) (by kernel_rfl) (by simp) ?_;refine Rc (fun K hK=>?_) ?_
 ·go_simp
  refine hK.out _ _ trivial (fun Hh=>?_);clear hK K;try simp only [Act.put,Sv,Sz,Sw]
  refine Ar (rs:=[44]) (by kernel_rfl) (by simp) ?_;refine Rc (fun K hK=>?_) ?_
  ·go_simp
   refine HCN.out.mono ?_;rintro x w1 ⟨rfl,h1,h2⟩;simp only [];have HX:=Hd (HX1.out.step h1 h2);clear h1 h2;refine hK.out _ _ trivial (fun Hh=>?_);clear hK K;try simp only [Act.put,Sv,Sz,Sw]
   refine Ad (by kernel_rfl) ?_ _;clear Hh HX1 HPT HCN
   go_wp2_with (first|(go_at_call 193;(with_reducible show Calls _ _ #[_,.pointer (some ⟨_,16,none⟩)] _ _);refine (Kc c g 16 o1 e.d.uniq _ HX.out.cw HZ.out.2.1 (HX.out.cell 16 _ rfl)).mono ?_;rintro x w2 ⟨rfl,h1,h2⟩;rw [HO.out.2.1] at h1;have HX:=Hd (HX.out.step h1 h2);clear h1 h2)|(go_at_call 205;(with_reducible show Calls _ _ #[_,.pointer (some ⟨_,17,none⟩)] _ _);refine (Id c g 17 o2 e.d.cls _ HX.out.cw (HX.out.cell 17 _ rfl) HZ.out.2.2.1 HNU.out.1.1 HNU.out.1.2).mono ?_;rintro x w2 ⟨rfl,h1,h2⟩;rw [HO.out.2.2.1] at h1;have HX:=Hd (HX.out.step h1 h2);clear h1 h2)|(go_at_call 194;(with_reducible show Calls _ _ #[_,.pointer (some ⟨_,18,none⟩)] _ _);refine (Iq c g 18 o3 e.d.vol _ HX.out.cw (HX.out.cell 18 _ rfl) HZ.out.2.2.2.1 HVO.out.1).mono ?_;rintro x w2 ⟨rfl,h1,h2⟩;rw [HO.out.2.2.2.1] at h1;have HX:=Hd (HX.out.step h1 h2);clear h1 h2)|(go_at_call 194;(with_reducible show Calls _ _ #[_,.pointer (some ⟨_,19,none⟩)] _ _);refine (Iq c g 19 o4 e.d.own _ HX.out.cw (HX.out.cell 19 _ rfl) HZ.out.2.2.2.2.1 HVO.out.2).mono ?_;rintro x w2 ⟨rfl,h1,h2⟩;rw [HO.out.2.2.2.2.1] at h1;have HX:=Hd (HX.out.step h1 h2);clear h1 h2))
   have HX6:Hid (DwI c g e ⟨A,C,gA,gC⟩ w (w2.drew.alloc (.cells #[.pointer (some ⟨g,20,none⟩),.pointer (some ⟨g,21,none⟩)] 179)) o5):=Hd (HX.out.drew.alloc _);have HLT5:=Hd HX.out.lt;have hne2:w2.heap.size≠c:=by have:=HLT5.out.1;omega
   have HPT6:Hid (Blk (w2.drew.alloc (.cells #[.pointer (some ⟨g,20,none⟩),.pointer (some ⟨g,21,none⟩)] 179)) w2.heap.size 179 (ptrs g [20,21])):=Hd (Blk.new w2.drew _ _);have HCN6:Hid (Calls prog 192 #[.pointer (some ⟨c,0,none⟩),.slice (some ⟨w2.heap.size,0,none⟩) 2 2] (w2.drew.alloc (.cells #[.pointer (some ⟨g,20,none⟩),.pointer (some ⟨g,21,none⟩)] 179)) fun x w'=>x = .returned (.tuple #[])∧Cw w' c o6∧Far [c] (w2.drew.alloc (.cells #[.pointer (some ⟨g,20,none⟩),.pointer (some ⟨g,21,none⟩)] 179)) w'):=Hd (by rw [←HO.out.2.2.2.2.2.1];exact cnums_w c g w2.heap.size 2 [20,21] [e.d.cre,e.d.exp] o5 _ HX6.out.cw HZ.out.2.2.2.2.2.1 (by simp) rfl (Yx HPT6.out) (Ki (by simp only [List.zip_cons_cons,List.zip_nil_right,List.mem_cons,List.not_mem_nil,or_false,forall_eq_or_imp,forall_eq];exact ⟨HX6.out.cell 20 _ rfl,HX6.out.cell 21 _ rfl⟩)) HNC.out hgc hne2);clear hne2
   refine Rw (S:=fun _=>True) (by kernel_rfl) trivial (fun Hh=>?_);refine tk 0 (.pointer (some ⟨c,0,none⟩)) Hh ?_;refine tk 1 (.pointer (some ⟨g,2,none⟩)) Hh ?_;refine tk 2 (.pointer (some ⟨g,2,none⟩)) Hh ?_;refine tk 3 (.pointer (some ⟨g,20,none⟩)) Hh ?_;refine tk 4 (.pointer (some ⟨g,2,none⟩)) Hh ?_;refine tk 5 (.pointer (some ⟨g,2,none⟩)) Hh ?_;refine tk 6 (.pointer (some ⟨g,21,none⟩)) Hh ?_;refine Ar (rs:=[7]) (by kernel_rfl) (by simp) ?_;refine Rc (fun K hK=>?_) ?_
   ·go_simp
    refine hK.out _ _ trivial (fun Hh=>?_);clear hK K;try simp only [Act.put,Sv,Sz,Sw]
    refine Ar (rs:=[8]) (by kernel_rfl) (by simp) ?_;refine Rc (fun K hK=>?_) ?_
    ·go_simp
     refine HCN6.out.mono ?_;rintro x w1 ⟨rfl,h1,h2⟩;simp only [];have HX:=Hd (HX6.out.step h1 h2);clear h1 h2;refine hK.out _ _ trivial (fun Hh=>?_);clear hK K;try simp only [Act.put,Sv,Sz,Sw]
     refine Ad (by kernel_rfl) ?_ _;clear Hh HX6 HPT6 HCN6;go_wp2_with (first|(go_at_call 193;(with_reducible show Calls _ _ #[_,.pointer (some ⟨_,22,none⟩)] _ _);refine (Kc c g 22 o6 e.d.arch _ HX.out.cw HZ.out.2.2.2.2.2.2.1 (HX.out.cell 22 _ rfl)).mono ?_;rintro x w2 ⟨rfl,h1,h2⟩;rw [HO.out.2.2.2.2.2.2.1] at h1;have HX:=Hd (HX.out.step h1 h2);clear h1 h2;have c23:=HX.out.cell 23 (.slice A e.alts.length C) rfl)|(go_at_call 248;refine (ccount_w c o7 e.alts.length 4 _ HX.out.cw HZ.out.2.2.2.2.2.2.2.1 (by omega) (by omega) (by decide) (by decide)).mono ?_;rintro x w2 ⟨rfl,h1,h2⟩;rw [HO.out.2.2.2.2.2.2.2] at h1;have HX:=Hd (HX.out.step h1 h2);have c1:=HX.out.cw.c1;clear c23;have c23:=HX.out.cell 23 (.slice A e.alts.length C) rfl;clear h1 h2));clear c1 c23
     go_loopw [115] (fun i wr => ∃ j:Nat,j≤e.alts.length∧i = .int .i64 j∧DwI c g e ⟨A,C,gA,gC⟩ w wr (wrN o8 (e.alts.take j))) (fun i _=>e.alts.length-(intOf i).toNat)
     case atStart=>exact ⟨0,Z0 _,rfl,HX.out⟩
     case round=>
      obtain ⟨j,hj,rfl,hx⟩:=hrel;have HX:=Hd hx;clear hx;have hz8:(wrN o8 (e.alts.take j)).size≤1000000000:=by have h1:=Vz (e.alts.take j) o8;have h2:=HZ.out.2.2.2.2.2.2.2.2;rw [List.length_take] at h1;omega
      by_cases hlt:j<e.alts.length
      ·obtain ⟨b,o,x,hA,hb,hg,hcell⟩:=Sl.cell (f:=V3) (k:=1) (fun _=>rfl) HX.out.ew.sa hlt
       have hA':A=some ⟨b,o,none⟩:=hA;subst hA';have hne:=HX.out.ew.na _ rfl (by omega);have cx:=hcell 0 _ rfl;simp only [Nat.add_zero,Nat.mul_one] at cx;have hr:=HS.out.al x (List.mem_of_getElem? hg);have HCX:=Hd (Id c b (o+j) (wrN o8 (e.alts.take j)) x wr HX.out.cw cx hz8 hr.1 hr.2);have HT:=Hd (wrN_take o8 hg);have c23:=HX.out.cell 23 (.slice (some ⟨b,o,none⟩) e.alts.length C) rfl;clear hA hb hg hcell hne cx hr hz8;go_wp2_with (go_at_call 205;refine HCX.out.mono ?_;rintro x w2 ⟨rfl,h1,h2⟩;rw [←HT.out] at h1;have HX:=Hd (HX.out.step h1 h2);clear h1 h2);go_roundw
       case rel=>exact ⟨j+1,by omega,by go_num,HX.out⟩
       case measure=>simp [intOf];omega
      ·obtain rfl:j=e.alts.length:=by omega
       have HTK:Hid (e.alts.take e.alts.length=e.alts):=Hd (List.take_length);have HX9:Hid (DwI c g e ⟨A,C,gA,gC⟩ w wr (wrN o8 e.alts)):=Hd (by have h:=HX.out;rwa [HTK.out] at h);have hz9:(wrN o8 e.alts).size≤1000000000:=by rw [HTK.out] at hz8;exact hz8
       have HC9:=Hd (Id c g 24 (wrN o8 e.alts) e.used wr HX9.out.cw (HX9.out.cell 24 _ rfl) hz9 HNU.out.2.2.2.1 HNU.out.2.2.2.2);clear hz8 hz9;go_wp2_with (go_at_call 205;refine HC9.out.mono ?_;rintro x w2 ⟨rfl,h1,h2⟩;have HX:=Hd (HX9.out.step h1 h2);clear h1 h2)
       go_end0
       exact ⟨rfl,HX.out.cw,HX.out.fa⟩
    exact An
   exact An
  exact An
 exact An
end
section
set_option maxRecDepth 100000
set_option maxHeartbeats 1000000
open Go.RowKit
def rdB (x:Rdd):Bool:=(decide (x.kind=0) || decide (x.kind=1))&&Xc x.id&&decide (x.key.size≤32)&&(decide (x.code=0) || (decide (x.ak.size=0)&&decide (x.ar.size=0)&&decide (x.code=6)))
theorem ba_nil {t:ByteArray} (h:t.size=0):t=⟨#[]⟩:=by
 obtain ⟨a⟩:=t;simp [ByteArray.size] at h;simp [h]
theorem nil_iff (t:ByteArray):t.size=0↔t.toList = []:=by
 constructor
 ·intro h;rw [ba_nil h,V2]
 ·intro h
  rw [V2] at h;simpa using congrArg List.length h
theorem Ik (t:ByteArray):decide (t.size=0)=decide (t.toList = []):=decide_eq_decide.2 (nil_iff t)
theorem validRead_any (x:Rdd) (w:World):Calls prog 62 #[.agg #[.int .i64 x.kind,.int .i64 x.id,.string x.key,.string x.ak,.string x.ar,.int .i64 x.code]] w fun e w'=>e = .returned (.bool (rdB x))∧Below w.heap.size w w':=by
 obtain ⟨k,id,key,ak,ar,code⟩:=x;simp only;have HN:Hid (∀ W:World,Calls prog 56 #[.int .i64 id] W fun e w'=>e = .returned (.bool (Xc id))∧W=w'):=Hd fun W=>Jb id W
 by_cases hk:k=0∨k=1
 ·have hkd:(decide (k=0) || decide (k=1))=true:=by simpa using hk
  have e0:rdB ⟨k,id,key,ak,ar,code⟩=(Xc id&&decide (key.size≤32)&&(decide (code=0) || (decide (ak.size=0)&&decide (ar.size=0)&&decide (code=6)))):=by
   simp only [rdB,hkd,Bool.true_and]
  rw [e0];have T:∀ W:World,True:=fun _=>trivial
  cases hn:Xc id with
  |false=>
   rw [hn] at HN;simp only [Bool.false_and];clear hn e0 hkd T;rcases hk with rfl|rfl
   all_goals
    go_enter Tryz.func62,Tryz.ntmps62;go_wp2_with (go_at_call 56;refine (HN.out _).mono ?_;rintro e w' ⟨rfl,rfl⟩);go_ret;exact ⟨rfl,(Bf _ _).alloc (Le _) _⟩
  |true=>
   rw [hn] at HN;simp only [Bool.true_and];clear hn e0 hkd T;by_cases h32:key.size≤32
   ·simp only [h32,decide_true,Bool.true_and]
    by_cases hc:code=0
    ·subst hc
     simp only [decide_true,Bool.true_or];rcases hk with rfl|rfl
     all_goals
      go_enter Tryz.func62,Tryz.ntmps62;go_wp2_with (go_at_call 56;refine (HN.out _).mono ?_;rintro e w' ⟨rfl,rfl⟩);go_ret;exact ⟨rfl,(Bf _ _).alloc (Le _) _⟩
    ·have hc0:(code == 0)=false:=by simpa using hc
     obtain ⟨R,hR⟩:∃ R:Bool,(decide (code=0) || (decide (ak.size=0)&&decide (ar.size=0)&&decide (code=6)))=R:=⟨_,rfl⟩
     rw [hR]
     have hR:(decide (ak.toList = [])&&decide (ar.toList = [])&&decide (code=6))=R:=by
      rw [←hR,Ik ak,Ik ar];simp [hc]
     have HR:=Hd hR;clear hR hc;rcases hk with rfl|rfl
     all_goals
      go_enter Tryz.func62,Tryz.ntmps62;go_wp2_with (go_at_call 56;refine (HN.out _).mono ?_;rintro e w' ⟨rfl,rfl⟩)
      all_goals
       go_ret;refine ⟨?_,(Bf _ _).alloc (Le _) _⟩;rw [←HR.out]
       first
        |(show Ending.returned (.bool true)=_;congr 2;simp_all;done)
        |(show Ending.returned (.bool false)=_;congr 2;simp_all;done)
   ·simp only [h32,decide_false,Bool.false_and]
    have h33:32<key.size:=by omega
    rcases hk with rfl|rfl
    all_goals
     go_enter Tryz.func62,Tryz.ntmps62;go_wp2_with (go_at_call 56;refine (HN.out _).mono ?_;rintro e w' ⟨rfl,rfl⟩);go_ret;exact ⟨rfl,(Bf _ _).alloc (Le _) _⟩
 ·have k0:(k == 0)=false:=by simp;omega
  have k1:(k == 1)=false:=by simp;omega
  have k2:(k != 0)=true:=by simp;omega
  have k3:(k != 1)=true:=by simp;omega
  have hkd:(decide (k=0) || decide (k=1))=false:=by simp;omega
  simp only [rdB,hkd,Bool.false_and];clear hkd hk;go_enter Tryz.func62,Tryz.ntmps62;go_wp2;go_ret;exact ⟨rfl,(Bf _ _).alloc (Le _) _⟩
end
section
set_option maxRecDepth 100000
set_option maxHeartbeats 2000000
open Go.RowKit
theorem push_set {α:Type} (a:Array α) (x y:α):(a.push x).setIfInBounds a.size y=a.push y:=by
 apply Array.ext';simp
theorem Yl (w:World) (es:Array MapEntry) (c:Nat) (key:Int) (val:Value) (hf:Instr.findNow (.int .i64) (.int .i64 key) es.toList 0=some none):
  (Instr.mapUpdate 140 (.map (some w.heap.size)) (.int .i64 key) val).run prog (w.alloc (.map es c)) = .ok () (w.alloc (.map (es.push ⟨.int .i64 key,val,c⟩) (c+1))):=by
 have hb:(w.alloc (.map es c)).heap[w.heap.size]? =some (.map es c):=heap_alloc_new w _;have hc:(Instr.checkKey false 10000 3 (.int .i64 key)).run prog (w.alloc (.map es c)) = .ok () (w.alloc (.map es c)):=MapKept.run_checkKey (k:=.int .i64 key) Tryz.underlying3 (by simp [MapKept.IsKey]) false 9999
 have hs:({ w.alloc (.map es c) with heap:=(w.alloc (.map es c)).heap.setIfInBounds w.heap.size (.map (es.push ⟨.int .i64 key,val,c⟩) (c+1)) }:World)=w.alloc (.map (es.push ⟨.int .i64 key,val,c⟩) (c+1)):=by
  unfold World.alloc;simp only [push_set]
 simp [Instr.mapUpdate,run_underlying Tryz.underlying140,MapKept.run_getObj_map hb,hc,MapKept.run_findKey Tryz.underlying3 hf,MapKept.run_setObj_map _ hb,Result.andThen];exact hs
theorem Vb (w:World) (b:Nat) (es:Array MapEntry) (c:Nat) (key:Int) (v:Value) (i:Nat) (hb:w.heap[b]? =some (.map es c)) (hf:Instr.findNow (.int .i64) (.int .i64 key) es.toList 0=some (some (i,v))):
  (Instr.lookup 140 (.map (some b)) (.int .i64 key) true).run prog w = .ok (.tuple #[v,.bool true]) w:=by
 have hc:(Instr.checkKey es.isEmpty 10000 3 (.int .i64 key)).run prog w = .ok () w:=MapKept.run_checkKey (k:=.int .i64 key) Tryz.underlying3 (by simp [MapKept.IsKey]) _ 9999;simp [Instr.lookup,run_underlying Tryz.underlying140,MapKept.run_getObj_map hb,hc,MapKept.run_findKey Tryz.underlying3 hf]
theorem E1 (w:World) (b:Nat) (es:Array MapEntry) (c:Nat) (key:Int) (hb:w.heap[b]? =some (.map es c)) (hf:Instr.findNow (.int .i64) (.int .i64 key) es.toList 0=some none):
  (Instr.lookup 140 (.map (some b)) (.int .i64 key) true).run prog w = .ok (.tuple #[.agg #[.string ⟨#[]⟩,.int .i64 0,.int .i64 0,.int .i64 0,.int .i64 0,.bool false,.nilFunc],.bool false]) w:=by
 have hc:(Instr.checkKey es.isEmpty 10000 3 (.int .i64 key)).run prog w = .ok () w:=MapKept.run_checkKey (k:=.int .i64 key) Tryz.underlying3 (by simp [MapKept.IsKey]) _ 9999;simp [Instr.lookup,run_underlying Tryz.underlying140,MapKept.run_getObj_map hb,hc,MapKept.run_findKey Tryz.underlying3 hf]
def fE1 (b:Nat):Array MapEntry:=#[⟨.int .i64 0,.agg #[.string ⟨#[112,117,116]⟩,.int .i64 1,.int .i64 32,.int .i64 1,.int .i64 200,.bool false,.func (.func 103) #[] #[.pointer (some ⟨b,0,none⟩)]],0⟩]
def fE2 (b:Nat):Array MapEntry:=(fE1 b).push ⟨.int .i64 1,.agg #[.string ⟨#[101,114,97,115,101]⟩,.int .i64 1,.int .i64 32,.int .i64 0,.int .i64 0,.bool false,.func (.func 105) #[] #[]],1⟩
def fE3 (b:Nat):Array MapEntry:=(fE2 b).push ⟨.int .i64 2,.agg #[.string ⟨#[97,112,112,101,110,100]⟩,.int .i64 0,.int .i64 0,.int .i64 0,.int .i64 1000,.bool false,.func (.func 100) #[] #[]],2⟩
def fE4 (b:Nat):Array MapEntry:=(fE3 b).push ⟨.int .i64 3,.agg #[.string ⟨#[101,109,112,116,121]⟩,.int .i64 0,.int .i64 0,.int .i64 0,.int .i64 0,.bool false,.nilFunc],3⟩
def fE5 (b:Nat):Array MapEntry:=(fE4 b).push ⟨.int .i64 4,.agg #[.string ⟨#[99,114,101,97,116,101]⟩,.int .i64 0,.int .i64 0,.int .i64 0,.int .i64 400,.bool true,.func (.func 102) #[] #[]],4⟩
def fE6 (b:Nat):Array MapEntry:=(fE5 b).push ⟨.int .i64 5,.agg #[.string ⟨#[114,101,109,111,118,101]⟩,.int .i64 0,.int .i64 0,.int .i64 0,.int .i64 0,.bool true,.func (.func 102) #[] #[]],5⟩
def fE7 (b:Nat):Array MapEntry:=(fE6 b).push ⟨.int .i64 6,.agg #[.string ⟨#[109,111,118,101]⟩,.int .i64 0,.int .i64 0,.int .i64 0,.int .i64 400,.bool true,.func (.func 102) #[] #[]],6⟩
def fE8 (b:Nat):Array MapEntry:=(fE7 b).push ⟨.int .i64 7,.agg #[.string ⟨#[110,111,116,101]⟩,.int .i64 0,.int .i64 0,.int .i64 0,.int .i64 400,.bool true,.func (.func 102) #[] #[]],7⟩
theorem F0 (w:World):Calls prog 76 #[] w fun e w'=>e = .returned (.map (some (w.heap.size+3)))∧w'=(((w.alloc (.cells #[.int .i64 1,.int .i64 32] 135)).alloc (.cells #[.int .i64 0,.int .i64 400] 135)).alloc (.cells #[.func (.func 100) #[] #[]] 136)).alloc (.map (fE8 (w.heap.size+2)) 8):=by
 have hmm:=@run_makeMap prog;have hsz:(((w.alloc (.cells #[.int .i64 1,.int .i64 32] 135)).alloc (.cells #[.int .i64 0,.int .i64 400] 135)).alloc (.cells #[.func (.func 100) #[] #[]] 136)).heap.size=w.heap.size+3:=by simp
 have e0:(Instr.mapUpdate 140 (.map (some (w.heap.size+3))) (.int .i64 0) (.agg #[.string ⟨#[112,117,116]⟩,.int .i64 1,.int .i64 32,.int .i64 1,.int .i64 200,.bool false,.func (.func 103) #[] #[.pointer (some ⟨w.heap.size+2,0,none⟩)]])).run prog ((((w.alloc (.cells #[.int .i64 1,.int .i64 32] 135)).alloc (.cells #[.int .i64 0,.int .i64 400] 135)).alloc (.cells #[.func (.func 100) #[] #[]] 136)).alloc (.map #[] 0)) = .ok () ((((w.alloc (.cells #[.int .i64 1,.int .i64 32] 135)).alloc (.cells #[.int .i64 0,.int .i64 400] 135)).alloc (.cells #[.func (.func 100) #[] #[]] 136)).alloc (.map (fE1 (w.heap.size+2)) 1)):=by
  have:=Yl (((w.alloc (.cells #[.int .i64 1,.int .i64 32] 135)).alloc (.cells #[.int .i64 0,.int .i64 400] 135)).alloc (.cells #[.func (.func 100) #[] #[]] 136)) #[] 0 0 (.agg #[.string ⟨#[112,117,116]⟩,.int .i64 1,.int .i64 32,.int .i64 1,.int .i64 200,.bool false,.func (.func 103) #[] #[.pointer (some ⟨w.heap.size+2,0,none⟩)]]) (by rfl);rw [hsz] at this;exact this
 have e1:(Instr.mapUpdate 140 (.map (some (w.heap.size+3))) (.int .i64 1) (.agg #[.string ⟨#[101,114,97,115,101]⟩,.int .i64 1,.int .i64 32,.int .i64 0,.int .i64 0,.bool false,.func (.func 105) #[] #[]])).run prog ((((w.alloc (.cells #[.int .i64 1,.int .i64 32] 135)).alloc (.cells #[.int .i64 0,.int .i64 400] 135)).alloc (.cells #[.func (.func 100) #[] #[]] 136)).alloc (.map (fE1 (w.heap.size+2)) 1)) = .ok () ((((w.alloc (.cells #[.int .i64 1,.int .i64 32] 135)).alloc (.cells #[.int .i64 0,.int .i64 400] 135)).alloc (.cells #[.func (.func 100) #[] #[]] 136)).alloc (.map (fE2 (w.heap.size+2)) 2)):=by
  have:=Yl (((w.alloc (.cells #[.int .i64 1,.int .i64 32] 135)).alloc (.cells #[.int .i64 0,.int .i64 400] 135)).alloc (.cells #[.func (.func 100) #[] #[]] 136)) (fE1 (w.heap.size+2)) 1 1 (.agg #[.string ⟨#[101,114,97,115,101]⟩,.int .i64 1,.int .i64 32,.int .i64 0,.int .i64 0,.bool false,.func (.func 105) #[] #[]]) (by rfl);rw [hsz] at this;exact this
 have e2:(Instr.mapUpdate 140 (.map (some (w.heap.size+3))) (.int .i64 2) (.agg #[.string ⟨#[97,112,112,101,110,100]⟩,.int .i64 0,.int .i64 0,.int .i64 0,.int .i64 1000,.bool false,.func (.func 100) #[] #[]])).run prog ((((w.alloc (.cells #[.int .i64 1,.int .i64 32] 135)).alloc (.cells #[.int .i64 0,.int .i64 400] 135)).alloc (.cells #[.func (.func 100) #[] #[]] 136)).alloc (.map (fE2 (w.heap.size+2)) 2)) = .ok () ((((w.alloc (.cells #[.int .i64 1,.int .i64 32] 135)).alloc (.cells #[.int .i64 0,.int .i64 400] 135)).alloc (.cells #[.func (.func 100) #[] #[]] 136)).alloc (.map (fE3 (w.heap.size+2)) 3)):=by
  have:=Yl (((w.alloc (.cells #[.int .i64 1,.int .i64 32] 135)).alloc (.cells #[.int .i64 0,.int .i64 400] 135)).alloc (.cells #[.func (.func 100) #[] #[]] 136)) (fE2 (w.heap.size+2)) 2 2 (.agg #[.string ⟨#[97,112,112,101,110,100]⟩,.int .i64 0,.int .i64 0,.int .i64 0,.int .i64 1000,.bool false,.func (.func 100) #[] #[]]) (by rfl);rw [hsz] at this;exact this
 have e3:(Instr.mapUpdate 140 (.map (some (w.heap.size+3))) (.int .i64 3) (.agg #[.string ⟨#[101,109,112,116,121]⟩,.int .i64 0,.int .i64 0,.int .i64 0,.int .i64 0,.bool false,.nilFunc])).run prog ((((w.alloc (.cells #[.int .i64 1,.int .i64 32] 135)).alloc (.cells #[.int .i64 0,.int .i64 400] 135)).alloc (.cells #[.func (.func 100) #[] #[]] 136)).alloc (.map (fE3 (w.heap.size+2)) 3)) = .ok () ((((w.alloc (.cells #[.int .i64 1,.int .i64 32] 135)).alloc (.cells #[.int .i64 0,.int .i64 400] 135)).alloc (.cells #[.func (.func 100) #[] #[]] 136)).alloc (.map (fE4 (w.heap.size+2)) 4)):=by
  have:=Yl (((w.alloc (.cells #[.int .i64 1,.int .i64 32] 135)).alloc (.cells #[.int .i64 0,.int .i64 400] 135)).alloc (.cells #[.func (.func 100) #[] #[]] 136)) (fE3 (w.heap.size+2)) 3 3 (.agg #[.string ⟨#[101,109,112,116,121]⟩,.int .i64 0,.int .i64 0,.int .i64 0,.int .i64 0,.bool false,.nilFunc]) (by rfl);rw [hsz] at this;exact this
 have e4:(Instr.mapUpdate 140 (.map (some (w.heap.size+3))) (.int .i64 4) (.agg #[.string ⟨#[99,114,101,97,116,101]⟩,.int .i64 0,.int .i64 0,.int .i64 0,.int .i64 400,.bool true,.func (.func 102) #[] #[]])).run prog ((((w.alloc (.cells #[.int .i64 1,.int .i64 32] 135)).alloc (.cells #[.int .i64 0,.int .i64 400] 135)).alloc (.cells #[.func (.func 100) #[] #[]] 136)).alloc (.map (fE4 (w.heap.size+2)) 4)) = .ok () ((((w.alloc (.cells #[.int .i64 1,.int .i64 32] 135)).alloc (.cells #[.int .i64 0,.int .i64 400] 135)).alloc (.cells #[.func (.func 100) #[] #[]] 136)).alloc (.map (fE5 (w.heap.size+2)) 5)):=by
  have:=Yl (((w.alloc (.cells #[.int .i64 1,.int .i64 32] 135)).alloc (.cells #[.int .i64 0,.int .i64 400] 135)).alloc (.cells #[.func (.func 100) #[] #[]] 136)) (fE4 (w.heap.size+2)) 4 4 (.agg #[.string ⟨#[99,114,101,97,116,101]⟩,.int .i64 0,.int .i64 0,.int .i64 0,.int .i64 400,.bool true,.func (.func 102) #[] #[]]) (by rfl);rw [hsz] at this;exact this
 have e5:(Instr.mapUpdate 140 (.map (some (w.heap.size+3))) (.int .i64 5) (.agg #[.string ⟨#[114,101,109,111,118,101]⟩,.int .i64 0,.int .i64 0,.int .i64 0,.int .i64 0,.bool true,.func (.func 102) #[] #[]])).run prog ((((w.alloc (.cells #[.int .i64 1,.int .i64 32] 135)).alloc (.cells #[.int .i64 0,.int .i64 400] 135)).alloc (.cells #[.func (.func 100) #[] #[]] 136)).alloc (.map (fE5 (w.heap.size+2)) 5)) = .ok () ((((w.alloc (.cells #[.int .i64 1,.int .i64 32] 135)).alloc (.cells #[.int .i64 0,.int .i64 400] 135)).alloc (.cells #[.func (.func 100) #[] #[]] 136)).alloc (.map (fE6 (w.heap.size+2)) 6)):=by
  have:=Yl (((w.alloc (.cells #[.int .i64 1,.int .i64 32] 135)).alloc (.cells #[.int .i64 0,.int .i64 400] 135)).alloc (.cells #[.func (.func 100) #[] #[]] 136)) (fE5 (w.heap.size+2)) 5 5 (.agg #[.string ⟨#[114,101,109,111,118,101]⟩,.int .i64 0,.int .i64 0,.int .i64 0,.int .i64 0,.bool true,.func (.func 102) #[] #[]]) (by rfl);rw [hsz] at this;exact this
 have e6:(Instr.mapUpdate 140 (.map (some (w.heap.size+3))) (.int .i64 6) (.agg #[.string ⟨#[109,111,118,101]⟩,.int .i64 0,.int .i64 0,.int .i64 0,.int .i64 400,.bool true,.func (.func 102) #[] #[]])).run prog ((((w.alloc (.cells #[.int .i64 1,.int .i64 32] 135)).alloc (.cells #[.int .i64 0,.int .i64 400] 135)).alloc (.cells #[.func (.func 100) #[] #[]] 136)).alloc (.map (fE6 (w.heap.size+2)) 6)) = .ok () ((((w.alloc (.cells #[.int .i64 1,.int .i64 32] 135)).alloc (.cells #[.int .i64 0,.int .i64 400] 135)).alloc (.cells #[.func (.func 100) #[] #[]] 136)).alloc (.map (fE7 (w.heap.size+2)) 7)):=by
  have:=Yl (((w.alloc (.cells #[.int .i64 1,.int .i64 32] 135)).alloc (.cells #[.int .i64 0,.int .i64 400] 135)).alloc (.cells #[.func (.func 100) #[] #[]] 136)) (fE6 (w.heap.size+2)) 6 6 (.agg #[.string ⟨#[109,111,118,101]⟩,.int .i64 0,.int .i64 0,.int .i64 0,.int .i64 400,.bool true,.func (.func 102) #[] #[]]) (by rfl);rw [hsz] at this;exact this
 have e7:(Instr.mapUpdate 140 (.map (some (w.heap.size+3))) (.int .i64 7) (.agg #[.string ⟨#[110,111,116,101]⟩,.int .i64 0,.int .i64 0,.int .i64 0,.int .i64 400,.bool true,.func (.func 102) #[] #[]])).run prog ((((w.alloc (.cells #[.int .i64 1,.int .i64 32] 135)).alloc (.cells #[.int .i64 0,.int .i64 400] 135)).alloc (.cells #[.func (.func 100) #[] #[]] 136)).alloc (.map (fE7 (w.heap.size+2)) 7)) = .ok () ((((w.alloc (.cells #[.int .i64 1,.int .i64 32] 135)).alloc (.cells #[.int .i64 0,.int .i64 400] 135)).alloc (.cells #[.func (.func 100) #[] #[]] 136)).alloc (.map (fE8 (w.heap.size+2)) 8)):=by
  have:=Yl (((w.alloc (.cells #[.int .i64 1,.int .i64 32] 135)).alloc (.cells #[.int .i64 0,.int .i64 400] 135)).alloc (.cells #[.func (.func 100) #[] #[]] 136)) (fE7 (w.heap.size+2)) 7 7 (.agg #[.string ⟨#[110,111,116,101]⟩,.int .i64 0,.int .i64 0,.int .i64 0,.int .i64 400,.bool true,.func (.func 102) #[] #[]]) (by rfl);rw [hsz] at this;exact this
 clear hsz;go_enter Tryz.func76,Tryz.ntmps76;go_wp2;go_ret;exact ⟨rfl,rfl⟩
end
end Go.Proofs.YtapanepkfbamhaaGreatDoor
