/- Of HistorySwaps. -/
import Derived.Test.YtoakknkmjnebjaaGreatDoorSAP
namespace Go.Proofs.YtoakknkmjnebjaaGreatDoor
open Tryz (prog)
set_option maxRecDepth 100000
set_option maxHeartbeats 4000000
open Go.RowKit
def Cw (w:Wd) (c:Nat) (out:Bz):Prop:=Blk w c 240 #[.string out,.pointer none]
def Cr (w:Wd) (c r:Nat):Prop:=Blk w c 240 #[.string ⟨#[]⟩,.pointer (some ⟨r,0,none⟩)]
theorem Cw.c0 {w:Wd} {c:Nat} {out:Bz} (h:Cw w c out):w.cell? ⟨c,0,none⟩=some (.string out):=(Blk.cell h 0).trans rfl
theorem Cw.c1 {w:Wd} {c:Nat} {out:Bz} (h:Cw w c out):w.cell? ⟨c,1,none⟩=some (.pointer none):=(Blk.cell h 1).trans rfl
theorem Cr.c1 {w:Wd} {c r:Nat} (h:Cr w c r):w.cell? ⟨c,1,none⟩=some (.pointer (some ⟨r,0,none⟩)):=(Blk.cell h 1).trans rfl
theorem Cw.set {w:Wd} {c:Nat} {out o2:Bz} (h:Cw w c out):Cw (w.setCell ⟨c,0,none⟩ (.string o2)) c o2:=Blk.set h 0 _
def capN (n:Int):Int:=if 1099511627776<n then 1099511627777 else n
def Uz (left:Bz) (err:Int):Int×Bz×Int:=(capN (Ye left err).1,(Ye left err).2)
theorem Ih (left:Bz) (err:Int):0≤(Ye left err).1:=by
 by_cases he:err=0
 ·subst he;exact numF_pos
 ·simp [Ye,he]
theorem capN_range {n:Int} (h:0≤n):0≤capN n∧capN n≤1099511627777:=by
 unfold capN;split<;>omega
theorem Ix (c g o:Nat) (out:Bz) (n:Int) (w:Wd) (hc:Cw w c out) (hg:w.cell? ⟨g,o,none⟩=some (.int .i64 n)) (ho:out.size≤1000000000) (hn:0≤n) (eN:n≤9223372036854775807):
  Calls prog 205 #[.pointer (some ⟨c,0,none⟩),.pointer (some ⟨g,o,none⟩)] w fun x w'=>x = .returned (.tuple #[])∧Cw w' c (out++Yo n)∧Far [c] w w':=by
 have HC:=Hd hc;have c0:=hc.c0;have c1:=hc.c1;have HN:=Hd fun W=>Zh out n W ho hn (by omega)
 have HL:=Hd hc.lt;clear hc;go_enter Tryz.func205,Tryz.ntmps205;have hw:IntKind.u64.wrap n=n:=by rw [IntKind.wrap_u64];omega
 go_wp2
 go_region_law (first|(go_simp;go_at_call 182;refine (HN.out _).mono ?_;rintro x w1 ⟨rfl,h1⟩;have h2:Cw w1 c out:=Blk.below (w:=w.drew) HC.out h1 HL.out;have H1:=Hd h1;have H2:=Hd h2;have f0:=Blk.free h2 0;have q0:=h2.c0;clear h1 h2))
 all_goals
  go_wp2
  (try simp only [Exit.inBlock,Exit.then])
  refine Br (results_none rfl _ _ _) rfl ?_;exact ⟨rfl,H2.out.set,(Far.of_below (S:=[c]) (U0 (Bf _ _).drew H1.out (Le _))).set _ _ _ (.inl (by simp))⟩
theorem Zw (c r g o:Nat) (t:TypeId) (cs:Array Value) (m:Int) (left:Bz) (err:Int) (w:Wd) (hs:left.size≤maxLen) (hc:Cr w c r) (hr:Rdr w r left err) (hg:Blk w g t cs) (ho:cs[o]? =some (.int .i64 m)) (h2:r≠g):
  Calls prog 205 #[.pointer (some ⟨c,0,none⟩),.pointer (some ⟨g,o,none⟩)] w fun x w'=>x = .returned (.tuple #[])∧Rdr w' r (Uz left err).2.1 (Uz left err).2.2∧Blk w' g t (cs.setIfInBounds o (.int .i64 (Uz left err).1))∧Far [r,g] w w':=by
 have HN:=Hd (Kq r left err w hs hr);have HG:=Hd hg;have c1:=hc.c1;have n0:=Ih left err;have H2:=Hd h2;have ho':=(hg.cell o).trans ho;have HO:=Hd ho;clear hc hr hg h2 ho;unfold Uz;obtain ⟨R,hR⟩:∃ R,Ye left err=R:=⟨_,rfl⟩
 rw [hR] at HN n0 ⊢;clear hR;obtain ⟨n,l,e⟩:=R;simp only at n0 HN ⊢;by_cases hm:1099511627776<n
 ·have jJ:capN n=1099511627777:=by unfold capN;rw [if_pos hm]
  rw [jJ];clear jJ;go_enter Tryz.func205,Tryz.ntmps205;go_wp2_with (go_at_call 186;refine HN.out.mono ?_;rintro x w1 ⟨rfl,k1,k2⟩;have K1:=Hd k1;have K2:=Hd k2;have b1:Blk w1 g t cs:=HG.out.far' k2 (by simpa using H2.out.symm);have B1:=Hd b1;have f0:=b1.free o;have q0:=(b1.cell o).trans HO.out;clear k1 k2 b1)
  go_end0
  exact ⟨rfl,Blk.far K1.out H2.out _,B1.out.set _ _,(K2.out.mono (by simp)).set _ _ _ (.inl (by simp))⟩
 ·have jJ:capN n=n:=by unfold capN;rw [if_neg hm]
  rw [jJ];clear jJ;go_enter Tryz.func205,Tryz.ntmps205;go_wp2_with (go_at_call 186;refine HN.out.mono ?_;rintro x w1 ⟨rfl,k1,k2⟩;have K1:=Hd k1;have K2:=Hd k2;have b1:Blk w1 g t cs:=HG.out.far' k2 (by simpa using H2.out.symm);have B1:=Hd b1;have f0:=b1.free o;have q0:=(b1.cell o).trans HO.out;clear k1 k2 b1)
  go_end0
  exact ⟨rfl,Blk.far K1.out H2.out _,B1.out.set _ _,(K2.out.mono (by simp)).set _ _ _ (.inl (by simp))⟩
theorem Jf (c g o:Nat) (out s:Bz) (w:Wd) (hc:Cw w c out) (hg:w.cell? ⟨g,o,none⟩=some (.string s)) (ho:out.size≤1000000000) (hn:s.size≤1000000000):
  Calls prog 194 #[.pointer (some ⟨c,0,none⟩),.pointer (some ⟨g,o,none⟩)] w fun x w'=>x = .returned (.tuple #[])∧Cw w' c (out++Z2 s)∧Far [c] w w':=by
 have HC:=Hd hc;have c0:=hc.c0;have c1:=hc.c1;have HN:=Hd fun W=>J0 out s W ho hn
 have HL:=Hd hc.lt;clear hc hn;go_enter Tryz.func194,Tryz.ntmps194;go_wp2
 go_region_law (first|(go_simp;go_at_call 155;refine (HN.out _).mono ?_;rintro x w1 ⟨rfl,h1⟩;have h2:Cw w1 c out:=Blk.below (w:=w.drew) HC.out h1 HL.out;have H1:=Hd h1;have H2:=Hd h2;have f0:=Blk.free h2 0;have q0:=h2.c0;clear h1 h2))
 all_goals
  go_wp2
  (try simp only [Exit.inBlock,Exit.then])
  refine Br (results_none rfl _ _ _) rfl ?_;exact ⟨rfl,H2.out.set,(Far.of_below (S:=[c]) (U0 (Bf _ _).drew H1.out (Le _))).set _ _ _ (.inl (by simp))⟩
theorem Ex (c r g o:Nat) (t:TypeId) (cs:Array Value) (m:Bz) (left:Bz) (err:Int) (w:Wd) (hs:left.size≤maxLen) (hc:Cr w c r) (hr:Rdr w r left err) (hg:Blk w g t cs) (ho:cs[o]? =some (.string m)) (h2:r≠g):
  Calls prog 194 #[.pointer (some ⟨c,0,none⟩),.pointer (some ⟨g,o,none⟩)] w fun x w'=>x = .returned (.tuple #[])∧Rdr w' r (Uj left err 200).2.1 (Uj left err 200).2.2∧Blk w' g t (cs.setIfInBounds o (.string (Uj left err 200).1))∧Far [r,g] w w':=by
 have HN:=Hd (Jz r left err 200 w hs hr (by decide) (by decide));have HG:=Hd hg;have c1:=hc.c1;have H2:=Hd h2;have HO:=Hd ho;clear hc hr hg h2 ho;obtain ⟨R,hR⟩:∃ R,Uj left err 200=R:=⟨_,rfl⟩
 rw [hR] at HN ⊢;clear hR;obtain ⟨n,l,e⟩:=R;go_enter Tryz.func194,Tryz.ntmps194;go_wp2_with (go_at_call 123;refine HN.out.mono ?_;rintro x w1 ⟨rfl,k1,k2⟩;have K1:=Hd k1;have K2:=Hd k2;have b1:Blk w1 g t cs:=HG.out.far' k2 (by simpa using H2.out.symm);have B1:=Hd b1;have f0:=b1.free o;have q0:=(b1.cell o).trans HO.out;clear k1 k2 b1)
 go_end0
 exact ⟨rfl,Blk.far K1.out H2.out _,B1.out.set _ _,(K2.out.mono (by simp)).set _ _ _ (.inl (by simp))⟩
theorem F8 (c g o:Nat) (out:Bz) (b:Bool) (w:Wd) (hc:Cw w c out) (ho:out.size≤1000000000) (hg:w.cell? ⟨g,o,none⟩=some (.bool b)):
  Calls prog 193 #[.pointer (some ⟨c,0,none⟩),.pointer (some ⟨g,o,none⟩)] w fun x w'=>x = .returned (.tuple #[])∧Cw w' c (out++encB b)∧Far [c] w w':=by
 have HC:=Hd hc;have c0:=hc.c0;have c1:=hc.c1;have f0:=Blk.free hc 0;have HN:=Hd fun W=>appBool_any out b W ho
 clear hc;go_enter Tryz.func193,Tryz.ntmps193;go_wp2
 go_region_law (first|(go_simp;go_at_call 253;refine (HN.out _).mono ?_;rintro x w1 ⟨rfl,rfl⟩))
 all_goals
  go_wp2
  (try simp only [Exit.inBlock,Exit.then])
  refine Br (results_none rfl _ _ _) rfl ?_;exact ⟨rfl,(show Cw _ c out from HC.out).set,((Far.refl _ _).drewN 1).set _ _ _ (.inl (by simp))⟩
theorem Iw (c r g o:Nat) (t:TypeId) (cs:Array Value) (m:Bool) (left:Bz) (err:Int) (w:Wd) (hs:left.size≤maxLen) (hc:Cr w c r) (hr:Rdr w r left err) (hg:Blk w g t cs) (ho:cs[o]? =some (.bool m)) (h2:r≠g):
  Calls prog 193 #[.pointer (some ⟨c,0,none⟩),.pointer (some ⟨g,o,none⟩)] w fun x w'=>x = .returned (.tuple #[])∧Rdr w' r (X5 left err).2.1 (X5 left err).2.2∧Blk w' g t (cs.setIfInBounds o (.bool (X5 left err).1))∧Far [r,g] w w':=by
 have HN:=Hd (rdBool_any r left err w hs hr);have HG:=Hd hg;have c1:=hc.c1;have H2:=Hd h2;have HO:=Hd ho;clear hc hr hg h2 ho;obtain ⟨R,hR⟩:∃ R,X5 left err=R:=⟨_,rfl⟩
 rw [hR] at HN ⊢;clear hR;obtain ⟨n,l,e⟩:=R;go_enter Tryz.func193,Tryz.ntmps193;go_wp2_with (go_at_call 254;refine HN.out.mono ?_;rintro x w1 ⟨rfl,k1,k2⟩;have K1:=Hd k1;have K2:=Hd k2;have b1:Blk w1 g t cs:=HG.out.far' k2 (by simpa using H2.out.symm);have B1:=Hd b1;have f0:=b1.free o;have q0:=(b1.cell o).trans HO.out;clear k1 k2 b1)
 go_end0
 exact ⟨rfl,Blk.far K1.out H2.out _,B1.out.set _ _,(K2.out.mono (by simp)).set _ _ _ (.inl (by simp))⟩
def Zx (n most:Int):Int:=if n<0∨most<n then most+1 else n
theorem ccount_w (c:Nat) (out:Bz) (n most:Int) (w:Wd) (hc:Cw w c out) (ho:out.size≤1000000000) (hn:0≤n) (eN:n≤9223372036854775807) (hm0:0≤most) (hm:most≤1000):
  Calls prog 248 #[.pointer (some ⟨c,0,none⟩),.int .i64 n,.int .i64 most] w fun x w'=>x = .returned (.int .i64 (Zx n most))∧Cw w' c (out++Yo n)∧Far [c] w w':=by
 have aG:=Blk.lt hc;have HN:=Hd (Ix c w.heap.size 0 out n (w.alloc (.cells #[.int .i64 n] 3)) (Blk.alloc hc _) ((Blk.cell (Blk.new w _ _) 0).trans rfl) ho hn eN);have HG:=Hd (Blk.new w 3 #[.int .i64 n]);have HL:=Hd aG;clear hc aG;unfold Zx;by_cases hk:most<n
 ·rw [if_pos (.inr hk)];go_enter Tryz.func248,Tryz.ntmps248;go_wp2_with (go_at_call 205;refine HN.out.mono ?_;rintro x w1 ⟨rfl,h1,h2⟩;have c0:=(Blk.cell (HG.out.far' h2 (by simp;have:=HL.out;omega)) 0).trans (show _=some (Value.int .i64 n) from rfl);have H1:=Hd h1;have H2:=Hd h2;clear h1 h2);go_ret;exact ⟨rfl,H1.out,((Far.refl _ _).alloc _).trans H2.out⟩
 ·rw [if_neg (by omega)];go_enter Tryz.func248,Tryz.ntmps248;go_wp2_with (go_at_call 205;refine HN.out.mono ?_;rintro x w1 ⟨rfl,h1,h2⟩;have c0:=(Blk.cell (HG.out.far' h2 (by simp;have:=HL.out;omega)) 0).trans (show _=some (Value.int .i64 n) from rfl);have H1:=Hd h1;have H2:=Hd h2;clear h1 h2);go_ret;exact ⟨rfl,H1.out,((Far.refl _ _).alloc _).trans H2.out⟩
theorem Fc (c r:Nat) (n most:Int) (left:Bz) (err:Int) (w:Wd) (hs:left.size≤maxLen) (hc:Cr w c r) (hr:Rdr w r left err) (hm0:0≤most) (hm:most≤1000):
  Calls prog 248 #[.pointer (some ⟨c,0,none⟩),.int .i64 n,.int .i64 most] w fun x w'=>x = .returned (.int .i64 (Zx (Uz left err).1 most))∧RrP w r (Uz left err).2.1 (Uz left err).2.2 w':=by
 have l2:=Blk.lt hr;have HN:=Hd (Zw c r w.heap.size 0 3 #[.int .i64 n] n left err (w.alloc (.cells #[.int .i64 n] 3)) hs (Blk.alloc hc _) (Blk.alloc hr _) (Blk.new w _ _) rfl (by omega));have HL:=Hd l2;clear hc hr l2 hs;have n0:0≤(Uz left err).1∧(Uz left err).1≤1099511627777:=capN_range (Ih left err);obtain ⟨R,hR⟩:∃ R,Uz left err=R:=⟨_,rfl⟩
 rw [hR] at HN n0 ⊢;clear hR;obtain ⟨x,l,e⟩:=R;simp only at n0 HN ⊢;obtain ⟨n1,n2⟩:=n0;unfold Zx;by_cases hk:most<x
 ·rw [if_pos (.inr hk)];go_enter Tryz.func248,Tryz.ntmps248;go_wp2_with (go_at_call 205;refine HN.out.mono ?_;rintro y w1 ⟨rfl,k1,k2,k3⟩;have c0:=(Blk.cell k2 0).trans (show _=some (Value.int .i64 x) from rfl);have K1:=Hd k1;have K3:=Hd k3;clear k1 k2 k3);go_ret;exact ⟨rfl,K1.out,((Far.refl _ _).alloc _).next K3.out (by intro i hi;simp at hi;rcases hi with rfl|rfl;exact .inl (by simp);exact .inr (Le _))⟩
 ·rw [if_neg (by omega)];go_enter Tryz.func248,Tryz.ntmps248;go_wp2_with (go_at_call 205;refine HN.out.mono ?_;rintro y w1 ⟨rfl,k1,k2,k3⟩;have c0:=(Blk.cell k2 0).trans (show _=some (Value.int .i64 x) from rfl);have K1:=Hd k1;have K3:=Hd k3;clear k1 k2 k3);go_ret;exact ⟨rfl,K1.out,((Far.refl _ _).alloc _).next K3.out (by intro i hi;simp at hi;rcases hi with rfl|rfl;exact .inl (by simp);exact .inr (Le _))⟩
structure Gra where
 who:Bz
 group:Bool
 level:Int
def grC (g:Gra):List Value:=[.string g.who,.bool g.group,.int .i64 g.level]
structure En where
 kind:Int
 name:Bz
 d:DSet
 alts:List Int
 used:Int
 limit:Int
 last:Int
 empty:Bool
 owner:Bz
 target:Bz
 catalog:Int
 level:Int
 grants:List Gra
structure EnA where
 aA:Option Addr
 aC:Nat
 gA:Option Addr
 gC:Nat
def enC (e:En) (a:EnA):List Value:=[.int .i64 e.kind,.string e.name,.int .i64 e.d.id,.int .i64 e.d.org,.int .i64 e.d.fmt,.int .i64 e.d.len,.int .i64 e.d.blk,.int .i64 e.d.kat,.int .i64 e.d.kln,.int .i64 e.d.itv,.int .i64 e.d.area,.int .i64 e.d.fi,.int .i64 e.d.fa,.int .i64 e.d.base,.int .i64 e.d.aat,.int .i64 e.d.aln,.bool e.d.uniq,.int .i64 e.d.cls,.string e.d.vol,.string e.d.own,.int .i64 e.d.cre,.int .i64 e.d.exp,.bool e.d.arch,
 .slice a.aA e.alts.length a.aC,.int .i64 e.used,.int .i64 e.limit,.int .i64 e.last,.bool e.empty,.string e.owner,.string e.target,.int .i64 e.catalog,.int .i64 e.level,.slice a.gA e.grants.length a.gC]
theorem Vd (e:En) (a:EnA):(enC e a).toArray.all (·.oneCell')=true:=by simp [enC,Value.oneCell']
def dZ:DSet:=⟨0,0,0,0,0,0,0,0,0,0,0,0,0,0,false,0,⟨#[]⟩,⟨#[]⟩,0,0,false⟩
def enZ:En:=⟨0,⟨#[]⟩,dZ,[],0,0,0,false,⟨#[]⟩,⟨#[]⟩,0,0,[]⟩
def enN:EnA:=⟨none,0,none,0⟩
structure EW (S:List Nat) (w:Wd) (e:En) (a:EnA):Prop where
 sa:Sl Vc 1 w w.heap.size a.aA e.alts.length a.aC e.alts
 sg:Sl grC 3 w w.heap.size a.gA e.grants.length a.gC e.grants
 na:∀ p,a.aA=some p→0<e.alts.length→p.block ∉ S
 ng:∀ p,a.gA=some p→0<e.grants.length→p.block ∉ S
structure Sm (e:En):Prop where
 nm:e.name.size≤1000
 vo:e.d.vol.size≤1000
 ow:e.d.own.size≤1000
 eo:e.owner.size≤1000
 ta:e.target.size≤1000
 la:e.alts.length≤5
 lg:e.grants.length≤9
 al:∀ n∈e.alts,0≤n∧n≤9223372036854775807
 gr:∀ g∈e.grants,g.who.size≤1000∧0≤g.level∧g.level≤9223372036854775807
 nu:∀ n∈[e.d.id,e.d.org,e.d.fmt,e.d.len,e.d.blk,e.d.kat,e.d.kln,e.d.itv,e.d.area,e.d.fi,e.d.fa,e.d.base,e.d.aat,e.d.aln,e.d.cls,e.d.cre,e.d.exp,e.used,e.limit,e.last,e.catalog,e.level],0≤n∧n≤9223372036854775807
theorem Sl.off {α:Type} {f:α→List Value} {k:Nat} {w w':Wd} {A:Option Addr} {n c:Nat} {l:List α} {S:List Nat} (h:Sl f k w w.heap.size A n c l) (hf:Far S w w') (hn:∀ p,A=some p→0<n→p.block ∉ S):Sl f k w' w'.heap.size A n c l:=by
 refine ⟨h.cap,h.len,?_⟩;have hr:=h.rd;refine ⟨hr.1,fun h0=>?_⟩;obtain ⟨b,o,e,hb,hc⟩:=hr.2 h0;refine ⟨b,o,e,Nat.lt_of_lt_of_le hb hf.size,fun j u hu=>?_⟩;rw [←hc j u hu];exact World.cell?_of_block (hf.block b hb (hn _ e h0))
theorem EW.far {S T:List Nat} {w w':Wd} {e:En} {a:EnA} (h:EW S w e a) (hf:Far T w w') (hT:∀ k∈T,k∈S):EW S w' e a:=
 ⟨h.sa.off hf fun p hp h0 hk=>h.na p hp h0 (hT _ hk),h.sg.off hf fun p hp h0 hk=>h.ng p hp h0 (hT _ hk),h.na,h.ng⟩
theorem EW.below {S:List Nat} {w w':Wd} {e:En} {a:EnA} (h:EW S w e a) (hb:Below w.heap.size w w'):EW S w' e a:=
 h.far (T:=[]) (Far.of_below hb) (by simp)
theorem EW.less {S T:List Nat} {w:Wd} {e:En} {a:EnA} (h:EW S w e a) (hT:∀ k∈T,k∈S):EW T w e a:=
 ⟨h.sa,h.sg,fun p hp h0 hk=>h.na p hp h0 (hT _ hk),fun p hp h0 hk=>h.ng p hp h0 (hT _ hk)⟩
theorem Sl.blk {α:Type} {f:α→List Value} {k:Nat} {w:Wd} {B n c:Nat} {l:List α} {p:Addr} (h:Sl f k w B (some p) n c l) (h0:0<n):p.block<B:=by
 obtain ⟨b,o,e,hb,_⟩:=h.rd.2 h0;injection e with e
 rw [e];exact hb
theorem EW.fresh {S T:List Nat} {w W:Wd} {e:En} {a:EnA} (h:EW T w e a) (hb:Below w.heap.size w W) (hS:∀ k∈S,w.heap.size≤k):EW S W e a:=
 have h2:=h.below hb
 ⟨h2.sa,h2.sg,fun p hp h0 hk=>by
  have h3:=h.sa;rw [hp] at h3;have h4:=h3.blk h0;have h5:=hS _ hk;omega,fun p hp h0 hk=>by
  have h3:=h.sg;rw [hp] at h3;have h4:=h3.blk h0;have h5:=hS _ hk;omega⟩
def wrN:Bz→List Int→Bz
 |out,[]=>out
 |out,n::l=>wrN (out++Yo n) l
theorem X8:∀ (l:List Int) (out:Bz),(wrN out l).size≤out.size+10*l.length
 | [],out=>by simp [wrN]
 |n::l,out=>by
  have h1:=X8 l (out++Yo n);have h2:=V9 n;unfold wrN;simp only [ByteArray.size_append,List.length_cons] at h1 ⊢;omega
theorem wrN_snoc:∀ (l:List Int) (n:Int) (out:Bz),wrN out (l++[n])=wrN out l++Yo n
 | [],n,out=>rfl
 |m::l,n,out=>by
  show wrN (out++Yo m) (l++[n])=wrN (out++Yo m) l++Yo n;exact wrN_snoc l n _
theorem wrN_take {l:List Int} {j:Nat} {n:Int} (out:Bz) (h:l[j]? =some n):wrN out (l.take (j+1))=wrN out (l.take j)++Yo n:=by
 rw [List.take_add_one,h];exact wrN_snoc _ _ _
def Uk:Nat→Bz→Int→List Int×Bz×Int
 |0,l,e=>([],l,e)
 |k+1,l,e=>((Uz l e).1::(Uk k (Uz l e).2.1 (Uz l e).2.2).1,(Uk k (Uz l e).2.1 (Uz l e).2.2).2)
theorem Xi:∀ (k:Nat) (l:Bz) (e:Int),(Uk k l e).1.length=k
 |0,_,_=>rfl
 |k+1,l,e=>by
  show (_::(Uk k _ _).1).length=k+1;rw [List.length_cons,Xi k]
theorem Xf (l:Bz) (e:Int):(Uz l e).2.1.size≤l.size:=Fr l e
theorem Vf (l:Bz) (e:Int):0≤(Uz l e).1∧(Uz l e).1≤1099511627777:=capN_range (Ih l e)
theorem Yd:∀ (k:Nat) (l:Bz) (e:Int),(Uk k l e).2.1.size≤l.size
 |0,_,_=>Le _
 |k+1,l,e=>Lx (Yd k _ _) (Xf l e)
theorem Ym:∀ (k:Nat) (l:Bz) (e:Int),∀ n∈(Uk k l e).1,0≤n∧n≤1099511627777
 |0,_,_,n,h=>by cases h
 |k+1,l,e,n,h=>by
  rcases List.mem_cons.1 h with rfl|h
  ·exact Vf l e
  ·exact Ym k _ _ n h
theorem Ep:∀ (k:Nat) (l:Bz) (e:Int),Uk (k+1) l e=((Uk k l e).1++[(Uz (Uk k l e).2.1 (Uk k l e).2.2).1],(Uz (Uk k l e).2.1 (Uk k l e).2.2).2)
 |0,l,e=>rfl
 |k+1,l,e=>by
  have h:=Ep k (Uz l e).2.1 (Uz l e).2.2;show ((Uz l e).1::(Uk (k+1) (Uz l e).2.1 (Uz l e).2.2).1,(Uk (k+1) (Uz l e).2.1 (Uz l e).2.2).2)=_;rw [h];rfl
def Y8:Array Value→List Nat→List Int→Array Value
 |cs,o::os,n::l=>Y8 (cs.setIfInBounds o (.int .i64 n)) os l
 |cs,_,_=>cs
theorem setCs_snoc:∀ (os:List Nat) (l:List Int) (cs:Array Value) (o:Nat) (n:Int),os.length=l.length→Y8 cs (os++[o]) (l++[n])=(Y8 cs os l).setIfInBounds o (.int .i64 n)
 | [],[],cs,o,n,_=>rfl
 |p::os,m::l,cs,o,n,h=>setCs_snoc os l _ o n (by simpa using h)
 | [],_::_,_,_,_,h=>by simp at h
 |_::_,[],_,_,_,h=>by simp at h
theorem setCs_num:∀ (os:List Nat) (l:List Int) (cs:Array Value) (i:Nat),(∃ m,cs[i]? =some (.int .i64 m))→∃ m,(Y8 cs os l)[i]? =some (.int .i64 m)
 | [],_,cs,i,h=>by unfold Y8;exact h
 |o::os,[],cs,i,h=>by unfold Y8;exact h
 |o::os,n::l,cs,i,h=>by
  unfold Y8;refine setCs_num os l _ i ?_;obtain ⟨m,hm⟩:=h;by_cases ho:o=i
  ·subst ho;refine ⟨n,?_⟩;rw [Array.getElem?_setIfInBounds_self_of_lt];exact (Array.getElem?_eq_some_iff.1 hm).1
  ·exact ⟨m,by rw [Array.getElem?_setIfInBounds_ne ho];exact hm⟩
theorem Ef {S:List Nat} {w w':Wd} {p:Addr} {v:Value} (h:w.cell? p=some v) (hf:Far S w w') (hp:p.block ∉ S):w'.cell? p=some v:=by
 have hb:p.block<w.heap.size:=by
  rcases Nat.lt_or_ge p.block w.heap.size with h'|h'
  ·exact h'
  ·simp [World.cell?,Array.getElem?_eq_none h'] at h
 rw [World.cell?_of_block (hf.block p.block hb hp)];exact h
theorem cnums_w (c g h cc:Nat) (os:List Nat) (l:List Int) (out:Bz) (w:Wd) (hc:Cw w c out) (ho:out.size+10*l.length≤1000000000) (hl:l.length≤1000) (hlen:os.length=l.length)
  (hp:∀ (j o:Nat),os[j]? =some o→w.cell? ⟨h,j,none⟩=some (.pointer (some ⟨g,o,none⟩)))
  (hv:∀ (j o:Nat) (n:Int),os[j]? =some o→l[j]? =some n→w.cell? ⟨g,o,none⟩=some (.int .i64 n)) (hr:∀ n∈l,0≤n∧n≤9223372036854775807) (eQ:g≠c) (hhc:h≠c):
  Calls prog 192 #[.pointer (some ⟨c,0,none⟩),.slice (some ⟨h,0,none⟩) l.length cc] w fun x w'=>x = .returned (.tuple #[])∧Cw w' c (wrN out l)∧Far [c] w w':=by
 have HC:=Hd hc;have HP:=Hd hp;have HV:=Hd hv;have HR:=Hd hr;have HG:=Hd eQ;have HH:=Hd hhc;have HN:=Hd hlen;have HO:=Hd ho;obtain ⟨n,hn⟩:∃ n,l.length=n:=⟨_,rfl⟩
 rw [hn] at hl ⊢;have HL:=Hd hn;clear hc hp hv hr eQ hhc hlen hn ho;go_enter Tryz.func192,Tryz.ntmps192;go_wp2;go_loopw [8] (fun i wr => ∃ j:Nat,j≤n∧i = .int .i64 j∧Cw wr c (wrN out (l.take j))∧Far [c] w wr) (fun i _=>n-(intOf i).toNat)
 case atStart=>exact ⟨0,Z0 _,rfl,HC.out,Far.refl _ _⟩
 case round=>
  obtain ⟨j,hj,rfl,dO,fS⟩:=hrel;have HCW:=Hd dO;have HFA:=Hd fS;clear dO fS;by_cases aG:j<n
  ·have hjl:j<l.length:=by rw [HL.out];exact aG
   obtain ⟨o,ho⟩:∃ o,os[j]? =some o:=⟨_,List.getElem?_eq_getElem (by rw [HN.out];exact hjl)⟩
   obtain ⟨m,hm⟩:∃ m,l[j]? =some m:=⟨_,List.getElem?_eq_getElem hjl⟩
   have c0:=Ef (HP.out j o ho) HFA.out (by simpa using HH.out);have c1:=Ef (HV.out j o m ho hm) HFA.out (by simpa using HG.out);have hmr:=HR.out m (List.mem_of_getElem? hm)
   have hz:(wrN out (l.take j)).size≤1000000000:=by
    have h1:=X8 (l.take j) out;have h2:=HO.out;rw [List.length_take] at h1;omega
   have HCC:=Hd (Ix c g o (wrN out (l.take j)) m wr HCW.out c1 hz hmr.1 hmr.2);have HT:=Hd (wrN_take out hm);clear c1 hmr hz ho hm hjl;go_wp2_with (go_at_call 205;refine HCC.out.mono ?_;rintro x w2 ⟨rfl,h1,h2⟩;have H1:=Hd h1;have H2:=Hd h2;clear h1 h2);go_roundw
   case rel=>exact ⟨j+1,by omega,by go_num,by rw [HT.out];exact H1.out,HFA.out.trans H2.out⟩
   case measure=>simp [intOf];omega
  ·have iN:j=n:=by omega
   subst iN;go_wp2
   go_end0
   exact ⟨rfl,by have h:=HCW.out;rwa [List.take_of_length_le (by rw [HL.out];exact Le _)] at h,HFA.out⟩
theorem cnums_r (c r g h cc n:Nat) (t:TypeId) (os:List Nat) (cs:Array Value) (left:Bz) (err:Int) (w:Wd) (hs:left.size≤maxLen) (hc:Cr w c r) (hr:Rdr w r left err) (hg:Blk w g t cs) (hn:n≤1000) (hlen:os.length=n)
  (hp:∀ (j o:Nat),os[j]? =some o→w.cell? ⟨h,j,none⟩=some (.pointer (some ⟨g,o,none⟩)))
  (hv:∀ (j o:Nat),os[j]? =some o→∃ m:Int,cs[o]? =some (.int .i64 m)) (hrg:r≠g) (hhr:h≠r) (hhg:h≠g) (hcr:c≠r) (hcg:c≠g):
  Calls prog 192 #[.pointer (some ⟨c,0,none⟩),.slice (some ⟨h,0,none⟩) n cc] w fun x w'=>x = .returned (.tuple #[])∧Rdr w' r (Uk n left err).2.1 (Uk n left err).2.2∧Blk w' g t (Y8 cs os (Uk n left err).1)∧Far [r,g] w w':=by
 have HC:=Hd hc;have cF:=Hd hr;have HGB:=Hd hg;have HP:=Hd hp;have HV:=Hd hv;have HG:=Hd (And.intro hrg (And.intro hhr (And.intro hhg (And.intro hcr hcg))));have HN:=Hd hlen;have HS:=Hd hs;clear hc hr hg hp hv hrg hhr hhg hcr hcg hlen hs;go_enter Tryz.func192,Tryz.ntmps192;go_wp2;go_loopw [8] (fun i wr => ∃ j:Nat,j≤n∧i = .int .i64 j∧Rdr wr r (Uk j left err).2.1 (Uk j left err).2.2∧Blk wr g t (Y8 cs (os.take j) (Uk j left err).1)∧Far [r,g] w wr) (fun i _=>n-(intOf i).toNat)
 case atStart=>exact ⟨0,Z0 _,rfl,cF.out,HGB.out,Far.refl _ _⟩
 case round=>
  obtain ⟨j,hj,rfl,iX,hgb,fS⟩:=hrel;have jK:=Hd iX;have fP:=Hd hgb;have HFA:=Hd fS;clear iX hgb fS;by_cases aG:j<n
  ·obtain ⟨o,ho⟩:∃ o,os[j]? =some o:=⟨_,List.getElem?_eq_getElem (by rw [HN.out];exact aG)⟩
   have c0:=Ef (HP.out j o ho) HFA.out (by simp only [List.mem_cons,List.not_mem_nil,or_false,not_or];exact ⟨HG.out.2.1,HG.out.2.2.1⟩);obtain ⟨m,hm⟩:=setCs_num (os.take j) (Uk j left err).1 cs o (HV.out j o ho);have hcr2:Cr wr c r:=Blk.far' HC.out HFA.out (by simp only [List.mem_cons,List.not_mem_nil,or_false,not_or];exact ⟨HG.out.2.2.2.1,HG.out.2.2.2.2⟩);have HCC:=Hd (Zw c r g o t (Y8 cs (os.take j) (Uk j left err).1) m (Uk j left err).2.1 (Uk j left err).2.2 wr (Lx (Yd j left err) HS.out) hcr2 jK.out fP.out hm HG.out.1);have ht:os.take (j+1)=os.take j++[o]:=by rw [List.take_add_one,ho];rfl
   have gT:(os.take j).length=(Uk j left err).1.length:=by rw [Xi,List.length_take,HN.out];omega
   have HT:Hid (Y8 cs (os.take (j+1)) (Uk (j+1) left err).1=(Y8 cs (os.take j) (Uk j left err).1).setIfInBounds o (.int .i64 (Uz (Uk j left err).2.1 (Uk j left err).2.2).1)):=Hd (by rw [ht,Ep];exact setCs_snoc _ _ _ _ _ gT);have HT2:Hid ((Uk (j+1) left err).2=(Uz (Uk j left err).2.1 (Uk j left err).2.2).2):=Hd (by rw [Ep]);clear hm hcr2 ht gT ho;go_wp2_with (go_at_call 205;refine HCC.out.mono ?_;rintro x w2 ⟨rfl,h1,h2,h3⟩;have H1:=Hd h1;have H2:=Hd h2;have H3:=Hd h3;clear h1 h2 h3);go_roundw
   case rel=>exact ⟨j+1,by omega,by go_num,by rw [HT2.out];exact H1.out,by rw [HT.out];exact H2.out,HFA.out.trans H3.out⟩
   case measure=>simp [intOf];omega
  ·have iN:j=n:=by omega
   subst iN;go_wp2
   go_end0
   exact ⟨rfl,jK.out,by have h:=fP.out;rwa [List.take_of_length_le (by rw [HN.out];exact Le _)] at h,HFA.out⟩
section
def dataW (out:Bz) (e:En):Bz:=
 wrN (wrN (wrN (wrN out [e.d.id,e.d.org,e.d.fmt,e.d.len,e.d.blk,e.d.kat,e.d.kln,e.d.itv,e.d.area,e.d.fi,e.d.fa,e.d.base,e.d.aat,e.d.aln]++encB e.d.uniq++Yo e.d.cls++Z2 e.d.vol++Z2 e.d.own) [e.d.cre,e.d.exp]++encB e.d.arch++Yo e.alts.length) e.alts) [e.used]
structure DwI (c g:Nat) (e:En) (a:EnA) (w W:Wd) (out:Bz):Prop where
 cw:Cw W c out
 bg:Blk W g 159 (enC e a).toArray
 ew:EW [c] W e a
 fa:Far [c] w W
 ne:g≠c
section
variable {c g:Nat} {e:En} {a:EnA} {w W:Wd} {out:Bz}
theorem DwI.step (h:DwI c g e a w W out) {W2:Wd} {o2:Bz} (h1:Cw W2 c o2) (h2:Far [c] W W2):DwI c g e a w W2 o2:=
 ⟨h1,h.bg.far' h2 (by simpa using h.ne),h.ew.far h2 (fun k hk=>hk),h.fa.trans h2,h.ne⟩
theorem DwI.cell (h:DwI c g e a w W out) (i:Nat) (v:Value) (hv:(enC e a)[i]? =some v):W.cell? ⟨g,i,none⟩=some v:=by
 rw [h.bg.cell];simpa using hv
theorem DwI.alloc (h:DwI c g e a w W out) (o:Obj):DwI c g e a w (W.alloc o) out:=h.step (Blk.alloc h.cw o) ((Far.refl _ _).alloc o)
theorem DwI.drew (h:DwI c g e a w W out):DwI c g e a w W.drew out:=h.step (Blk.drew h.cw) ((Far.refl _ _).drewN 1)
theorem DwI.lt (h:DwI c g e a w W out):c<W.heap.size∧g<W.heap.size:=⟨Blk.lt h.cw,h.bg.lt⟩
end
def ptrs (g:Nat) (os:List Nat):Array Value:=(os.map fun o=>Value.pointer (some ⟨g,o,none⟩)).toArray
theorem Z5 {W:Wd} {h g:Nat} {t:TypeId} {os:List Nat} (hb:Blk W h t (ptrs g os)):∀ (j o:Nat),os[j]? =some o→W.cell? ⟨h,j,none⟩=some (.pointer (some ⟨g,o,none⟩)):=by
 intro j o ho;rw [hb.cell];simp [ptrs,ho]
theorem Fd {W:Wd} {g:Nat} {os:List Nat} {l:List Int} (h:∀ p∈os.zip l,W.cell? ⟨g,p.1,none⟩=some (.int .i64 p.2)):∀ (j o:Nat) (n:Int),os[j]? =some o→l[j]? =some n→W.cell? ⟨g,o,none⟩=some (.int .i64 n):=by
 intro j o n ho hn;refine h (o,n) (List.mem_of_getElem? (i:=j) ?_);rw [List.getElem?_zip_eq_some];exact ⟨ho,hn⟩
theorem Xw (b:Bool):(encB b).size=1:=by cases b<;>rfl
theorem data_w (c g:Nat) (e:En) (a:EnA) (out:Bz) (w:Wd) (hc:Cw w c out) (hg:Blk w g 159 (enC e a).toArray) (hw:EW [c] w e a) (hs:Sm e) (ho:out.size≤100000) (eQ:g≠c):
  Calls prog 188 #[.pointer (some ⟨c,0,none⟩),.pointer (some ⟨g,0,none⟩)] w fun x w'=>x = .returned (.tuple #[])∧Cw w' c (dataW out e)∧Far [c] w w':=by
 obtain ⟨A,C,gA,gC⟩:=a;have HX:Hid (DwI c g e ⟨A,C,gA,gC⟩ w w out):=Hd ⟨hc,hg,hw,Far.refl _ _,eQ⟩;have gE:=Hd HX.out.lt;have HS:=Hd hs;have hla:=hs.la;clear hc hg hw hs;unfold dataW;have q1:=X8 [e.d.id,e.d.org,e.d.fmt,e.d.len,e.d.blk,e.d.kat,e.d.kln,e.d.itv,e.d.area,e.d.fi,e.d.fa,e.d.base,e.d.aat,e.d.aln] out;simp only [List.length_cons,List.length_nil] at q1;obtain ⟨o1,dQ⟩:∃ o1,wrN out [e.d.id,e.d.org,e.d.fmt,e.d.len,e.d.blk,e.d.kat,e.d.kln,e.d.itv,e.d.area,e.d.fi,e.d.fa,e.d.base,e.d.aat,e.d.aln]=o1:=⟨_,rfl⟩
 rw [dQ];obtain ⟨o2,dK⟩:∃ o2,o1++encB e.d.uniq=o2:=⟨_,rfl⟩
 rw [dK];obtain ⟨o3,ho3⟩:∃ o3,o2++Yo e.d.cls=o3:=⟨_,rfl⟩
 rw [ho3];obtain ⟨o4,cO⟩:∃ o4,o3++Z2 e.d.vol=o4:=⟨_,rfl⟩
 rw [cO];obtain ⟨o5,ho5⟩:∃ o5,o4++Z2 e.d.own=o5:=⟨_,rfl⟩
 rw [ho5];obtain ⟨o6,ho6⟩:∃ o6,wrN o5 [e.d.cre,e.d.exp]=o6:=⟨_,rfl⟩
 rw [ho6];obtain ⟨o7,ho7⟩:∃ o7,o6++encB e.d.arch=o7:=⟨_,rfl⟩
 rw [ho7];obtain ⟨o8,ho8⟩:∃ o8,o7++Yo e.alts.length=o8:=⟨_,rfl⟩
 rw [ho8];rw [dQ] at q1;have q2:o2.size=o1.size+1:=by rw [←dK,ByteArray.size_append,Xw]
 have q3:o3.size≤o2.size+10:=by have:=V9 e.d.cls;rw [←ho3,ByteArray.size_append];omega
 have q4:o4.size≤o3.size+1010:=by have:=Xj e.d.vol;have:=HS.out.vo;rw [←cO,ByteArray.size_append];omega
 have q5:o5.size≤o4.size+1010:=by have:=Xj e.d.own;have:=HS.out.ow;rw [←ho5,ByteArray.size_append];omega
 have q6:o6.size≤o5.size+20:=by have:=X8 [e.d.cre,e.d.exp] o5;rw [←ho6];simp only [List.length_cons,List.length_nil] at this;omega
 have q7:o7.size=o6.size+1:=by rw [←ho7,ByteArray.size_append,Xw]
 have q8:o8.size≤o7.size+10:=by have:=V9 e.alts.length;rw [←ho8,ByteArray.size_append];omega
 have z1:o1.size≤1000000000:=by omega
 have z2:o2.size≤1000000000:=by omega
 have z3:o3.size≤1000000000:=by omega
 have z4:o4.size≤1000000000:=by omega
 have z5:o5.size≤1000000000:=by omega
 have z6:o6.size≤1000000000:=by omega
 have z7:o7.size≤1000000000:=by omega
 have z0:out.size+10*14≤1000000000:=by omega
 have z5':o5.size+10*2≤1000000000:=by omega
 have z8:o8.size+100≤1000000000:=by omega
 have HZ:=Hd (And.intro z0 (And.intro z1 (And.intro z2 (And.intro z3 (And.intro z4 (And.intro z5' (And.intro z6 (And.intro z7 z8))))))));have HO:=Hd (And.intro dQ (And.intro dK (And.intro ho3 (And.intro cO (And.intro ho5 (And.intro ho6 (And.intro ho7 ho8)))))));clear q1 q2 q3 q4 q5 q6 q7 q8 z0 z1 z2 z3 z4 z5 z5' z6 z7 z8 dQ dK ho3 cO ho5 ho6 ho7 ho8 ho;have HVO:Hid (e.d.vol.size≤1000000000∧e.d.own.size≤1000000000):=Hd ⟨by have:=HS.out.vo;omega,by have:=HS.out.ow;omega⟩;have hnu:=HS.out.nu;simp only [List.mem_cons,List.not_mem_nil,or_false,forall_eq_or_imp,forall_eq] at hnu;obtain ⟨nu0,nu1,nu2,nu3,nu4,nu5,nu6,nu7,nu8,nu9,nu10,nu11,nu12,nu13,nu14,nu15,nu16,nu17,nu18,nu19,nu20,nu21⟩:=hnu;have HNU:=Hd (And.intro nu14 (And.intro nu15 (And.intro nu16 nu17)))
 have HNL:Hid (∀ n∈[e.d.id,e.d.org,e.d.fmt,e.d.len,e.d.blk,e.d.kat,e.d.kln,e.d.itv,e.d.area,e.d.fi,e.d.fa,e.d.base,e.d.aat,e.d.aln],0≤n∧n≤9223372036854775807):=Hd (by simp only [List.mem_cons,List.not_mem_nil,or_false,forall_eq_or_imp,forall_eq];exact ⟨nu0,nu1,nu2,nu3,nu4,nu5,nu6,nu7,nu8,nu9,nu10,nu11,nu12,nu13⟩);have HNC:Hid (∀ n∈[e.d.cre,e.d.exp],0≤n∧n≤9223372036854775807):=Hd (by simp only [List.mem_cons,List.not_mem_nil,or_false,forall_eq_or_imp,forall_eq];exact ⟨nu15,nu16⟩);clear nu0 nu1 nu2 nu3 nu4 nu5 nu6 nu7 nu8 nu9 nu10 nu11 nu12 nu13 nu14 nu15 nu16 nu17 nu18 nu19 nu20 nu21
 have bI:Hid (DwI c g e ⟨A,C,gA,gC⟩ w (w.alloc (.cells #[.pointer (some ⟨g,2,none⟩),.pointer (some ⟨g,3,none⟩),.pointer (some ⟨g,4,none⟩),.pointer (some ⟨g,5,none⟩),.pointer (some ⟨g,6,none⟩),.pointer (some ⟨g,7,none⟩),.pointer (some ⟨g,8,none⟩),.pointer (some ⟨g,9,none⟩),.pointer (some ⟨g,10,none⟩),.pointer (some ⟨g,11,none⟩),.pointer (some ⟨g,12,none⟩),.pointer (some ⟨g,13,none⟩),.pointer (some ⟨g,14,none⟩),.pointer (some ⟨g,15,none⟩)] 179)).drew out):=Hd (HX.out.alloc _).drew;have cP:w.heap.size≠c:=by have:=gE.out.1;omega
 have iM:Hid (Blk (w.alloc (.cells #[.pointer (some ⟨g,2,none⟩),.pointer (some ⟨g,3,none⟩),.pointer (some ⟨g,4,none⟩),.pointer (some ⟨g,5,none⟩),.pointer (some ⟨g,6,none⟩),.pointer (some ⟨g,7,none⟩),.pointer (some ⟨g,8,none⟩),.pointer (some ⟨g,9,none⟩),.pointer (some ⟨g,10,none⟩),.pointer (some ⟨g,11,none⟩),.pointer (some ⟨g,12,none⟩),.pointer (some ⟨g,13,none⟩),.pointer (some ⟨g,14,none⟩),.pointer (some ⟨g,15,none⟩)] 179)).drew w.heap.size 179 (ptrs g [2,3,4,5,6,7,8,9,10,11,12,13,14,15])):=Hd (Blk.new w _ _).drew
 have gK:Hid (Calls prog 192 #[.pointer (some ⟨c,0,none⟩),.slice (some ⟨w.heap.size,0,none⟩) 14 14] (w.alloc (.cells #[.pointer (some ⟨g,2,none⟩),.pointer (some ⟨g,3,none⟩),.pointer (some ⟨g,4,none⟩),.pointer (some ⟨g,5,none⟩),.pointer (some ⟨g,6,none⟩),.pointer (some ⟨g,7,none⟩),.pointer (some ⟨g,8,none⟩),.pointer (some ⟨g,9,none⟩),.pointer (some ⟨g,10,none⟩),.pointer (some ⟨g,11,none⟩),.pointer (some ⟨g,12,none⟩),.pointer (some ⟨g,13,none⟩),.pointer (some ⟨g,14,none⟩),.pointer (some ⟨g,15,none⟩)] 179)).drew fun x w'=>x = .returned (.tuple #[])∧Cw w' c o1∧Far [c] (w.alloc (.cells #[.pointer (some ⟨g,2,none⟩),.pointer (some ⟨g,3,none⟩),.pointer (some ⟨g,4,none⟩),.pointer (some ⟨g,5,none⟩),.pointer (some ⟨g,6,none⟩),.pointer (some ⟨g,7,none⟩),.pointer (some ⟨g,8,none⟩),.pointer (some ⟨g,9,none⟩),.pointer (some ⟨g,10,none⟩),.pointer (some ⟨g,11,none⟩),.pointer (some ⟨g,12,none⟩),.pointer (some ⟨g,13,none⟩),.pointer (some ⟨g,14,none⟩),.pointer (some ⟨g,15,none⟩)] 179)).drew w'):=Hd (by rw [←HO.out.1];exact cnums_w c g w.heap.size 14 [2,3,4,5,6,7,8,9,10,11,12,13,14,15] [e.d.id,e.d.org,e.d.fmt,e.d.len,e.d.blk,e.d.kat,e.d.kln,e.d.itv,e.d.area,e.d.fi,e.d.fa,e.d.base,e.d.aat,e.d.aln] out _ bI.out.cw HZ.out.1 (by simp) rfl (Z5 iM.out) (Fd (by simp only [List.zip_cons_cons,List.zip_nil_right,List.mem_cons,List.not_mem_nil,or_false,forall_eq_or_imp,forall_eq];exact ⟨bI.out.cell 2 _ rfl,bI.out.cell 3 _ rfl,bI.out.cell 4 _ rfl,bI.out.cell 5 _ rfl,bI.out.cell 6 _ rfl,bI.out.cell 7 _ rfl,bI.out.cell 8 _ rfl,bI.out.cell 9 _ rfl,bI.out.cell 10 _ rfl,bI.out.cell 11 _ rfl,bI.out.cell 12 _ rfl,bI.out.cell 13 _ rfl,bI.out.cell 14 _ rfl,bI.out.cell 15 _ rfl⟩)) HNL.out eQ cP)
 clear cP;go_enter Tryz.func188,Tryz.ntmps188;go_wp2_with fail;refine Rw (S:=fun _=>True) (by kernel_rfl) trivial (fun Hh=>?_);refine tk 0 (.pointer (some ⟨c,0,none⟩)) Hh ?_;refine tk 1 (.pointer (some ⟨g,2,none⟩)) Hh ?_;refine tk 2 (.pointer (some ⟨g,2,none⟩)) Hh ?_;refine tk 3 (.pointer (some ⟨g,2,none⟩)) Hh ?_;refine tk 4 (.pointer (some ⟨g,2,none⟩)) Hh ?_;refine tk 5 (.pointer (some ⟨g,2,none⟩)) Hh ?_;refine tk 6 (.pointer (some ⟨g,3,none⟩)) Hh ?_;refine tk 7 (.pointer (some ⟨g,2,none⟩)) Hh ?_;refine tk 8 (.pointer (some ⟨g,2,none⟩)) Hh ?_;refine tk 9 (.pointer (some ⟨g,4,none⟩)) Hh ?_;refine tk 10 (.pointer (some ⟨g,2,none⟩)) Hh ?_;refine tk 11 (.pointer (some ⟨g,2,none⟩)) Hh ?_;refine tk 12 (.pointer (some ⟨g,5,none⟩)) Hh ?_;refine tk 13 (.pointer (some ⟨g,2,none⟩)) Hh ?_
 refine tk 14 (.pointer (some ⟨g,2,none⟩)) Hh ?_;refine tk 15 (.pointer (some ⟨g,6,none⟩)) Hh ?_;refine tk 16 (.pointer (some ⟨g,2,none⟩)) Hh ?_;refine tk 17 (.pointer (some ⟨g,2,none⟩)) Hh ?_;refine tk 18 (.pointer (some ⟨g,7,none⟩)) Hh ?_;refine tk 19 (.pointer (some ⟨g,2,none⟩)) Hh ?_;refine tk 20 (.pointer (some ⟨g,2,none⟩)) Hh ?_;refine tk 21 (.pointer (some ⟨g,8,none⟩)) Hh ?_;refine tk 22 (.pointer (some ⟨g,2,none⟩)) Hh ?_;refine tk 23 (.pointer (some ⟨g,2,none⟩)) Hh ?_;refine tk 24 (.pointer (some ⟨g,9,none⟩)) Hh ?_;refine tk 25 (.pointer (some ⟨g,2,none⟩)) Hh ?_;refine tk 26 (.pointer (some ⟨g,2,none⟩)) Hh ?_;refine tk 27 (.pointer (some ⟨g,10,none⟩)) Hh ?_;refine tk 28 (.pointer (some ⟨g,2,none⟩)) Hh ?_;refine tk 29 (.pointer (some ⟨g,2,none⟩)) Hh ?_;refine tk 30 (.pointer (some ⟨g,11,none⟩)) Hh ?_
 refine tk 31 (.pointer (some ⟨g,2,none⟩)) Hh ?_;refine tk 32 (.pointer (some ⟨g,2,none⟩)) Hh ?_;refine tk 33 (.pointer (some ⟨g,12,none⟩)) Hh ?_;refine tk 34 (.pointer (some ⟨g,2,none⟩)) Hh ?_;refine tk 35 (.pointer (some ⟨g,2,none⟩)) Hh ?_;refine tk 36 (.pointer (some ⟨g,13,none⟩)) Hh ?_;refine tk 37 (.pointer (some ⟨g,2,none⟩)) Hh ?_;refine tk 38 (.pointer (some ⟨g,2,none⟩)) Hh ?_;refine tk 39 (.pointer (some ⟨g,14,none⟩)) Hh ?_;refine tk 40 (.pointer (some ⟨g,2,none⟩)) Hh ?_;refine tk 41 (.pointer (some ⟨g,2,none⟩)) Hh ?_;refine tk 42 (.pointer (some ⟨g,15,none⟩)) Hh ?_;refine Aq [43] ?_;refine Rc (fun K hK=>?_) ?_
 ·go_simp;refine hK.out _ _ trivial (fun Hh=>?_);clear hK K;try simp only [Act.put,Sv,Sz,Sw]
  refine Aq [44] ?_;refine Rc (fun K hK=>?_) ?_
  ·go_simp;refine gK.out.mono ?_;rintro x w1 ⟨rfl,h1,h2⟩;simp only [];have HX:=Hd (bI.out.step h1 h2);clear h1 h2;refine hK.out _ _ trivial (fun Hh=>?_);clear hK K;try simp only [Act.put,Sv,Sz,Sw]
   refine Ad (by kernel_rfl) ?_ _;clear Hh bI iM gK
   go_wp2_with (first|(go_at_call 193;(with_reducible show Calls _ _ #[_,.pointer (some ⟨_,16,none⟩)] _ _);refine (F8 c g 16 o1 e.d.uniq _ HX.out.cw HZ.out.2.1 (HX.out.cell 16 _ rfl)).mono ?_;rintro x w2 ⟨rfl,h1,h2⟩;rw [HO.out.2.1] at h1;have HX:=Hd (HX.out.step h1 h2);clear h1 h2)|(go_at_call 205;(with_reducible show Calls _ _ #[_,.pointer (some ⟨_,17,none⟩)] _ _);refine (Ix c g 17 o2 e.d.cls _ HX.out.cw (HX.out.cell 17 _ rfl) HZ.out.2.2.1 HNU.out.1.1 HNU.out.1.2).mono ?_;rintro x w2 ⟨rfl,h1,h2⟩;rw [HO.out.2.2.1] at h1;have HX:=Hd (HX.out.step h1 h2);clear h1 h2)|(go_at_call 194;(with_reducible show Calls _ _ #[_,.pointer (some ⟨_,18,none⟩)] _ _);refine (Jf c g 18 o3 e.d.vol _ HX.out.cw (HX.out.cell 18 _ rfl) HZ.out.2.2.2.1 HVO.out.1).mono ?_;rintro x w2 ⟨rfl,h1,h2⟩;rw [HO.out.2.2.2.1] at h1;have HX:=Hd (HX.out.step h1 h2);clear h1 h2)|(go_at_call 194;(with_reducible show Calls _ _ #[_,.pointer (some ⟨_,19,none⟩)] _ _);refine (Jf c g 19 o4 e.d.own _ HX.out.cw (HX.out.cell 19 _ rfl) HZ.out.2.2.2.2.1 HVO.out.2).mono ?_;rintro x w2 ⟨rfl,h1,h2⟩;rw [HO.out.2.2.2.2.1] at h1;have HX:=Hd (HX.out.step h1 h2);clear h1 h2))
   have bB:Hid (DwI c g e ⟨A,C,gA,gC⟩ w (w2.drew.alloc (.cells #[.pointer (some ⟨g,20,none⟩),.pointer (some ⟨g,21,none⟩)] 179)) o5):=Hd (HX.out.drew.alloc _);have HLT5:=Hd HX.out.lt;have dD:w2.heap.size≠c:=by have:=HLT5.out.1;omega
   have HPT6:Hid (Blk (w2.drew.alloc (.cells #[.pointer (some ⟨g,20,none⟩),.pointer (some ⟨g,21,none⟩)] 179)) w2.heap.size 179 (ptrs g [20,21])):=Hd (Blk.new w2.drew _ _);have HCN6:Hid (Calls prog 192 #[.pointer (some ⟨c,0,none⟩),.slice (some ⟨w2.heap.size,0,none⟩) 2 2] (w2.drew.alloc (.cells #[.pointer (some ⟨g,20,none⟩),.pointer (some ⟨g,21,none⟩)] 179)) fun x w'=>x = .returned (.tuple #[])∧Cw w' c o6∧Far [c] (w2.drew.alloc (.cells #[.pointer (some ⟨g,20,none⟩),.pointer (some ⟨g,21,none⟩)] 179)) w'):=Hd (by rw [←HO.out.2.2.2.2.2.1];exact cnums_w c g w2.heap.size 2 [20,21] [e.d.cre,e.d.exp] o5 _ bB.out.cw HZ.out.2.2.2.2.2.1 (by simp) rfl (Z5 HPT6.out) (Fd (by simp only [List.zip_cons_cons,List.zip_nil_right,List.mem_cons,List.not_mem_nil,or_false,forall_eq_or_imp,forall_eq];exact ⟨bB.out.cell 20 _ rfl,bB.out.cell 21 _ rfl⟩)) HNC.out eQ dD);clear dD
   refine Rw (S:=fun _=>True) (by kernel_rfl) trivial (fun Hh=>?_);refine tk 0 (.pointer (some ⟨c,0,none⟩)) Hh ?_;refine tk 1 (.pointer (some ⟨g,2,none⟩)) Hh ?_;refine tk 2 (.pointer (some ⟨g,2,none⟩)) Hh ?_;refine tk 3 (.pointer (some ⟨g,20,none⟩)) Hh ?_;refine tk 4 (.pointer (some ⟨g,2,none⟩)) Hh ?_;refine tk 5 (.pointer (some ⟨g,2,none⟩)) Hh ?_;refine tk 6 (.pointer (some ⟨g,21,none⟩)) Hh ?_;refine Aq [7] ?_;refine Rc (fun K hK=>?_) ?_
   ·go_simp;refine hK.out _ _ trivial (fun Hh=>?_);clear hK K;try simp only [Act.put,Sv,Sz,Sw]
    refine Aq [8] ?_;refine Rc (fun K hK=>?_) ?_
    ·go_simp;refine HCN6.out.mono ?_;rintro x w1 ⟨rfl,h1,h2⟩;simp only [];have HX:=Hd (bB.out.step h1 h2);clear h1 h2;refine hK.out _ _ trivial (fun Hh=>?_);clear hK K;try simp only [Act.put,Sv,Sz,Sw]
     refine Ad (by kernel_rfl) ?_ _;clear Hh bB HPT6 HCN6;go_wp2_with (first|(go_at_call 193;(with_reducible show Calls _ _ #[_,.pointer (some ⟨_,22,none⟩)] _ _);refine (F8 c g 22 o6 e.d.arch _ HX.out.cw HZ.out.2.2.2.2.2.2.1 (HX.out.cell 22 _ rfl)).mono ?_;rintro x w2 ⟨rfl,h1,h2⟩;rw [HO.out.2.2.2.2.2.2.1] at h1;have HX:=Hd (HX.out.step h1 h2);clear h1 h2;have c23:=HX.out.cell 23 (.slice A e.alts.length C) rfl)|(go_at_call 248;refine (ccount_w c o7 e.alts.length 4 _ HX.out.cw HZ.out.2.2.2.2.2.2.2.1 (by omega) (by omega) (by decide) (by decide)).mono ?_;rintro x w2 ⟨rfl,h1,h2⟩;rw [HO.out.2.2.2.2.2.2.2] at h1;have HX:=Hd (HX.out.step h1 h2);have c1:=HX.out.cw.c1;clear c23;have c23:=HX.out.cell 23 (.slice A e.alts.length C) rfl;clear h1 h2));clear c1 c23
     go_loopw [115] (fun i wr => ∃ j:Nat,j≤e.alts.length∧i = .int .i64 j∧DwI c g e ⟨A,C,gA,gC⟩ w wr (wrN o8 (e.alts.take j))) (fun i _=>e.alts.length-(intOf i).toNat)
     case atStart=>exact ⟨0,Z0 _,rfl,HX.out⟩
     case round=>
      obtain ⟨j,hj,rfl,hx⟩:=hrel;have HX:=Hd hx;clear hx;have hz8:(wrN o8 (e.alts.take j)).size≤1000000000:=by have h1:=X8 (e.alts.take j) o8;have h2:=HZ.out.2.2.2.2.2.2.2.2;rw [List.length_take] at h1;omega
      by_cases aG:j<e.alts.length
      ·obtain ⟨b,o,x,hA,hb,hg,aB⟩:=Sl.cell (f:=Vc) (k:=1) (fun _=>rfl) HX.out.ew.sa aG;have hA':A=some ⟨b,o,none⟩:=hA;subst hA';have aZ:=HX.out.ew.na _ rfl (by omega);have cx:=aB 0 _ rfl;simp only [Nat.add_zero,Nat.mul_one] at cx;have hr:=HS.out.al x (List.mem_of_getElem? hg);have bN:=Hd (Ix c b (o+j) (wrN o8 (e.alts.take j)) x wr HX.out.cw cx hz8 hr.1 hr.2);have HT:=Hd (wrN_take o8 hg);have c23:=HX.out.cell 23 (.slice (some ⟨b,o,none⟩) e.alts.length C) rfl;clear hA hb hg aB aZ cx hr hz8;go_wp2_with (go_at_call 205;refine bN.out.mono ?_;rintro x w2 ⟨rfl,h1,h2⟩;rw [←HT.out] at h1;have HX:=Hd (HX.out.step h1 h2);clear h1 h2);go_roundw
       case rel=>exact ⟨j+1,by omega,by go_num,HX.out⟩
       case measure=>simp [intOf];omega
      ·obtain rfl:j=e.alts.length:=by omega
       have HTK:Hid (e.alts.take e.alts.length=e.alts):=Hd (List.take_length);have iG:Hid (DwI c g e ⟨A,C,gA,gC⟩ w wr (wrN o8 e.alts)):=Hd (by have h:=HX.out;rwa [HTK.out] at h);have hz9:(wrN o8 e.alts).size≤1000000000:=by rw [HTK.out] at hz8;exact hz8
       have HC9:=Hd (Ix c g 24 (wrN o8 e.alts) e.used wr iG.out.cw (iG.out.cell 24 _ rfl) hz9 HNU.out.2.2.2.1 HNU.out.2.2.2.2);clear hz8 hz9;go_wp2_with (go_at_call 205;refine HC9.out.mono ?_;rintro x w2 ⟨rfl,h1,h2⟩;have HX:=Hd (iG.out.step h1 h2);clear h1 h2)
       go_end0
       exact ⟨rfl,HX.out.cw,HX.out.fa⟩
    exact An
   exact An
  exact An
 exact An
end
end Go.Proofs.YtoakknkmjnebjaaGreatDoor
