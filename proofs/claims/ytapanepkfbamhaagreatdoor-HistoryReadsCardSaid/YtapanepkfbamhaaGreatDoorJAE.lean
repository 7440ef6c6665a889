/- Part of the proof of HistoryReads. -/
import Derived.Test.YtapanepkfbamhaaGreatDoorJAD
namespace Go.Proofs.YtapanepkfbamhaaGreatDoor
open Tryz (prog)
section
set_option maxRecDepth 100000
open Go.RowKit
structure Far (S:List Nat) (w w':World):Prop where
 os:w'.os=w.os
 tape:w'.tape=w.tape
 output:w'.output=w.output
 size:w.heap.size≤w'.heap.size
 block:∀ k,k<w.heap.size→k ∉ S→w'.heap[k]? =w.heap[k]?
section
variable {w w' w'':World} {S T:List Nat}
theorem Far.refl (S:List Nat) (w:World):Far S w w:=⟨rfl,rfl,rfl,Le _,fun _ _ _=>rfl⟩
theorem Far.trans (h:Far S w w') (k:Far S w' w''):Far S w w'':=
 ⟨k.os.trans h.os,k.tape.trans h.tape,k.output.trans h.output,Lx h.size k.size,fun i hi hn=>(k.block i (Nat.lt_of_lt_of_le hi h.size) hn).trans (h.block i hi hn)⟩
theorem Far.next (h:Far S w w') (k:Far T w' w'') (hT:∀ i∈T,i∈S∨w.heap.size≤i):Far S w w'':=
 ⟨k.os.trans h.os,k.tape.trans h.tape,k.output.trans h.output,Lx h.size k.size,fun i hi hn=>(k.block i (Nat.lt_of_lt_of_le hi h.size) (fun ht=>(hT i ht).elim hn (by omega))).trans (h.block i hi hn)⟩
theorem Far.of_below (h:Below w.heap.size w w'):Far S w w':=⟨h.os,h.tape,h.output,h.size,fun i hi _=>h.block i hi⟩
theorem Far.below {B:Nat} (h:Far S w w') (hS:∀ k∈S,B≤k) (hB:B≤w.heap.size):Below B w w':=
 ⟨h.os,h.tape,h.output,h.size,fun i hi=>h.block i (Nat.lt_of_lt_of_le hi hB) (fun hs=>by have:=hS i hs;omega)⟩
theorem Far.alloc (h:Far S w w') (o:Obj):Far S w (w'.alloc o):=
 ⟨h.os,h.tape,h.output,by simp;have:=h.size;omega,fun i hi hn=>(Below.heap_alloc w' o i (Nat.lt_of_lt_of_le hi h.size)).trans (h.block i hi hn)⟩
theorem Far.set (h:Far S w w') (g o:Nat) (v:Value) (hg:g∈S∨w.heap.size≤g):Far S w (w'.setCell ⟨g,o,none⟩ v):=
 ⟨h.os,h.tape,h.output,by simpa [World.setCell] using h.size,fun i hi hn=>(Below.heap_setCell w' ⟨g,o,none⟩ v i (by intro e;have e':i=g:=e;subst e';rcases hg with hg|hg;exact hn hg;omega)).trans (h.block i hi hn)⟩
theorem Far.drewN (h:Far S w w') (n:Nat):Far S w (w'.drewN n):=⟨h.os,h.tape,h.output,h.size,h.block⟩
theorem Far.mono (h:Far S w w') (hs:∀ k∈S,k∈T):Far T w w':=⟨h.os,h.tape,h.output,h.size,fun i hi hn=>h.block i hi fun k=>hn (hs i k)⟩
theorem Blk.far' {g:Nat} {t:TypeId} {cs:Array Value} (h:Blk w g t cs) (hb:Far S w w') (hg:g ∉ S):Blk w' g t cs:=(hb.block g h.lt hg).trans h
end
def Rdr (w:World) (r:Nat) (left:ByteArray) (err:Int):Prop:=Blk w r 228 #[.string left,.int .i64 err]
theorem Rdr.c0 {w:World} {r:Nat} {left:ByteArray} {err:Int} (h:Rdr w r left err):w.cell? ⟨r,0,none⟩=some (.string left):=(Blk.cell h 0).trans rfl
theorem Rdr.c1 {w:World} {r:Nat} {left:ByteArray} {err:Int} (h:Rdr w r left err):w.cell? ⟨r,1,none⟩=some (.int .i64 err):=(Blk.cell h 1).trans rfl
theorem Rdr.set {w:World} {r:Nat} {left l2:ByteArray} {err e2:Int} (h:Rdr w r left err):Rdr ((w.setCell ⟨r,1,none⟩ (.int .i64 e2)).setCell ⟨r,0,none⟩ (.string l2)) r l2 e2:=((Blk.set h 1 _).set 0 _)
theorem Rdr.setL {w:World} {r:Nat} {left l2:ByteArray} {err:Int} (h:Rdr w r left err):Rdr (w.setCell ⟨r,0,none⟩ (.string l2)) r l2 err:=(Blk.set h 0 _)
def RrP (w:World) (r:Nat) (l:ByteArray) (e:Int) (w':World):Prop:=Rdr w' r l e∧Far [r] w w'
theorem Gd (r:Nat) (left:ByteArray) (e:Int) (w:World) (hr:Rdr w r left 0):Calls prog 148 #[.pointer (some ⟨r,0,none⟩),.int .i64 e] w fun x w'=>x = .returned (.tuple #[])∧RrP w r ⟨#[]⟩ e w':=by
 have HR:=Hd hr;have c1:=hr.c1;have f0:=Blk.free hr 0;have f1:=Blk.free hr 1;have c0:(w.setCell ⟨r,1,none⟩ (.int .i64 e)).cell? ⟨r,0,none⟩=some (.string left):=((Blk.set hr 1 _).cell 0).trans rfl;have g0:=Blk.free (Blk.set hr 1 (.int .i64 e)) 0;clear hr;go_enter Tryz.func148,Tryz.ntmps148;go_wp2
 go_end0
 exact ⟨rfl,HR.out.set,((Far.refl _ _).set _ _ _ (.inl (by simp))).set _ _ _ (.inl (by simp))⟩
theorem Zi (s:ByteArray) (w:World):Calls prog 122 #[.string s] w fun x w'=>x = .returned (.pointer (some ⟨w.heap.size,0,none⟩))∧w'=w.alloc (.cells #[.string s,.int .i64 0] 228):=by
 go_enter Tryz.func122,Tryz.ntmps122;go_wp2;go_ret;exact ⟨rfl,rfl⟩
theorem num1_any (s:ByteArray) (g:Nat) (n:Int) (w:World) (hs:s.size≤maxLen) (hg:Blk w g 173 #[.int .u64 n]):
  Calls prog 241 #[.string s,.pointer (some ⟨g,0,none⟩)] w fun x w'=>x = .returned (.int .i64 (F5 s).2)∧w'=w.setCell ⟨g,0,none⟩ (.int .u64 (F5 s).1):=by
 have HD:=Hd (decode_any s w hs);have c0:=(hg.cell 0).trans (show _=some (Value.int .u64 n) from rfl);have f0:=hg.free 0;clear hg hs;go_enter Tryz.func241,Tryz.ntmps241;go_wp2_with (go_at_call 242;refine HD.out.mono ?_;rintro e w' ⟨rfl,rfl⟩);go_ret;exact ⟨rfl,rfl⟩
def Yc (left:ByteArray) (err:Int):Int×ByteArray×Int:=
 if err=0 then (if (F5 left).2=0 then ((F5 left).1,⟨#[]⟩,11) else ((F5 left).1,left.extract (F5 left).2.toNat left.size,0)) else (0,left,err)
def TkP (w:World) (r g:Nat) (R:Int×ByteArray×Int) (x:Ending) (w':World):Prop:=x = .returned (.tuple #[])∧Rdr w' r R.2.1 R.2.2∧Blk w' g 173 #[.int .u64 R.1]∧Far [r,g] w w'
theorem take_num (r g:Nat) (left:ByteArray) (err:Int) (w:World) (hs:left.size≤maxLen) (hr:Rdr w r left err) (hg:Blk w g 173 #[.int .u64 0]) (hne:r≠g):
  Calls prog 240 #[.pointer (some ⟨r,0,none⟩),.func (.func 241) #[] #[.pointer (some ⟨g,0,none⟩)]] w (TkP w r g (Yc left err)):=by
 have HR:=Hd hr;have HG:=Hd hg;have c1:=hr.c1;have c0:=hr.c0;by_cases he:err=0
 ·subst he
  obtain ⟨k0,k1,k2⟩:=decF_range left;have HC:=Hd (num1_any left g 0 w hs hg);obtain ⟨n,k,hd⟩:∃ n k,F5 left=(n,k):=⟨_,_,rfl⟩
  have hn:Yc left 0=if k=0 then (n,⟨#[]⟩,11) else (n,left.extract k.toNat left.size,0):=by simp [Yc,hd]
  rw [hn];simp only [hd] at HC k0 k1 k2;obtain ⟨w1,hw1⟩:∃ w1,w.setCell ⟨g,0,none⟩ (.int .u64 n)=w1:=⟨_,rfl⟩
  have r1:Rdr w1 r left 0:=by rw [←hw1];exact Blk.far hr hne _
  have g1:Blk w1 g 173 #[.int .u64 n]:=by rw [←hw1];exact hg.set 0 _
  have b1:Far [r,g] w w1:=by rw [←hw1];exact (Far.refl _ _).set _ _ _ (.inl (by simp))
  have R1:=Hd r1;have G1:=Hd g1;have HN:=Hd hne;clear hne;have B1:=Hd b1;simp only [hw1] at HC;unfold maxLen at hs;clear hr hg hd hn hw1 r1 g1 b1;by_cases hk:k=0
  ·subst hk
   rw [if_pos rfl];have HF:=Hd (Gd r left 11 w1 R1.out);go_enter Tryz.func240,Tryz.ntmps240;go_wp2_with (first|(go_at_call 241;refine HC.out.mono ?_;rintro e w' ⟨rfl,rfl⟩)|(go_at_call 148;refine HF.out.mono ?_;rintro e w' ⟨rfl,h1,h2⟩;have H1:=Hd h1;have H2:=Hd h2;clear h1 h2))
   go_end0
   exact ⟨rfl,H1.out,G1.out.far' H2.out (by simp;exact HN.out.symm),B1.out.trans (H2.out.mono (by simp))⟩
  ·rw [if_neg hk]
   have hk0:(k == 0)=false:=by simpa using hk
   have q0:=R1.out.c0;have z0:=Blk.free R1.out 0;obtain ⟨m,rfl⟩:∃ m:Nat,k=m:=⟨k.toNat,by omega⟩
   have k3:m≤left.size:=by omega
   have HK:=Hd hk;clear hk;go_enter Tryz.func240,Tryz.ntmps240;go_wp2_with (go_at_call 241;refine HC.out.mono ?_;rintro e w' ⟨rfl,rfl⟩)
   go_end0
   exact ⟨rfl,R1.out.setL,G1.out.far HN.out.symm _,B1.out.set _ _ _ (.inl (by simp))⟩
 ·have hn:Yc left err=(0,left,err):=by simp [Yc,he]
  rw [hn];have he':(err == 0)=false:=by simpa using he
  have he2:(err != 0)=true:=by simpa using he
  clear hr hg hn he;go_enter Tryz.func240,Tryz.ntmps240;go_wp2
  go_end0
  exact ⟨rfl,HR.out,HG.out,Far.refl _ _⟩
theorem numF_pos {left:ByteArray}:0≤(Yc left 0).1:=by
 unfold Yc;rw [if_pos rfl];split<;>exact (decF_range left).1
theorem Jr (r:Nat) (left:ByteArray) (err:Int) (w:World) (hs:left.size≤maxLen) (hr:Rdr w r left err):
  Calls prog 186 #[.pointer (some ⟨r,0,none⟩)] w fun x w'=>x = .returned (.int .u64 (Yc left err).1)∧RrP w r (Yc left err).2.1 (Yc left err).2.2 w':=by
 have HT:=Hd (take_num r w.heap.size left err (w.alloc (.cells #[.int .u64 0] 173)) hs (Blk.alloc hr _) (Blk.new w _ _) (by have:=Blk.lt hr;omega));have HR:=Hd (Blk.lt hr);clear hr hs;obtain ⟨R,hR⟩:∃ R,Yc left err=R:=⟨_,rfl⟩
 rw [hR];rw [hR] at HT;clear hR;obtain ⟨n,l,e⟩:=R;go_enter Tryz.func186,Tryz.ntmps186;go_wp2_with (go_at_call 240;refine HT.out.mono ?_;rintro x w' ⟨rfl,h1,h2,h3⟩;have H1:=Hd h1;have H3:=Hd h3;have c0:=(h2.cell 0).trans (show _=some (Value.int .u64 n) from rfl);clear h1 h2 h3);go_ret;exact ⟨rfl,H1.out,((Far.refl _ _).alloc _).next H3.out (by intro i hi;simp at hi;rcases hi with rfl|rfl;exact .inl (by simp);exact .inr (Le _))⟩
def Zy (left:ByteArray) (err:Int) (most:Int):Int×ByteArray×Int:=
 if (Yc left err).2.2=0 then (if most<(Yc left err).1 then (0,⟨#[]⟩,8) else Yc left err) else (0,(Yc left err).2)
theorem rdCount_any (r:Nat) (left:ByteArray) (err most:Int) (w:World) (hs:left.size≤maxLen) (hr:Rdr w r left err) (hm0:0≤most) (hm1:most≤4611686018427387904):
  Calls prog 147 #[.pointer (some ⟨r,0,none⟩),.int .i64 most] w fun x w'=>x = .returned (.int .i64 (Zy left err most).1)∧RrP w r (Zy left err most).2.1 (Zy left err most).2.2 w':=by
 have HN:=Hd (Jr r left err w hs hr);clear hr;obtain ⟨R,hR⟩:∃ R,Yc left err=R:=⟨_,rfl⟩
 have hz:R.2.2=0→0≤R.1:=fun h=>by
  rw [←hR] at h ⊢;by_cases he:err=0
  ·subst he;exact numF_pos
  ·simp [Yc,he] at h
 unfold Zy;rw [hR];rw [hR] at HN;clear hR;obtain ⟨n,l,e⟩:=R;simp only at hz HN ⊢;by_cases he:e=0
 ·subst he
  have h0:=hz rfl;rw [if_pos rfl];clear hz;by_cases hm:most<n
  ·rw [if_pos hm]
   go_enter Tryz.func147,Tryz.ntmps147;go_wp2_with (first|(go_at_call 186;refine HN.out.mono ?_;rintro x w1 ⟨rfl,h1,h2⟩;have H1:=Hd h1;have H2:=Hd h2;have c1:=h1.c1;clear h1 h2)|(go_at_call 148;refine (Gd r l 8 _ H1.out).mono ?_;rintro x w2 ⟨rfl,h3,h4⟩;have H3:=Hd h3;have H4:=Hd h4;clear h3 h4));go_ret;exact ⟨rfl,H3.out,H2.out.trans H4.out⟩
  ·rw [if_neg hm]
   go_enter Tryz.func147,Tryz.ntmps147;go_wp2_with (go_at_call 186;refine HN.out.mono ?_;rintro x w1 ⟨rfl,h1,h2⟩;have H1:=Hd h1;have H2:=Hd h2;have c1:=h1.c1;clear h1 h2);go_ret;exact ⟨rfl,H1.out,H2.out⟩
 ·rw [if_neg he]
  have he2:(e != 0)=true:=by simpa using he
  have he3:(e == 0)=false:=by simpa using he
  clear he hz;go_enter Tryz.func147,Tryz.ntmps147;go_wp2_with (go_at_call 186;refine HN.out.mono ?_;rintro x w1 ⟨rfl,h1,h2⟩;have H1:=Hd h1;have H2:=Hd h2;have c1:=h1.c1;clear h1 h2);go_ret;exact ⟨rfl,H1.out,H2.out⟩
end
section
set_option maxRecDepth 100000
open Go.RowKit
theorem cntF_range (left:ByteArray) (err most:Int) (hm:0≤most) (h:(Zy left err most).2.2=0):0≤(Zy left err most).1∧(Zy left err most).1≤most:=by
 unfold Zy at h ⊢;by_cases he:(Yc left err).2.2=0
 ·rw [if_pos he] at h ⊢
  by_cases hn:most<(Yc left err).1
  ·rw [if_pos hn];simp;exact hm
  ·rw [if_neg hn]
   refine ⟨?_,by omega⟩;by_cases e0:err=0
   ·subst e0;exact numF_pos
   ·simp [Yc,e0] at he
 ·rw [if_neg he] at h
  exact absurd h he
def Uh (left:ByteArray) (err most:Int):ByteArray×ByteArray×Int:=
 if (Zy left err most).2.2=0 then
  (if ((Zy left err most).2.1.size:Int)<(Zy left err most).1 then (⟨#[]⟩,⟨#[]⟩,11)
   else ((Zy left err most).2.1.extract 0 (Zy left err most).1.toNat,(Zy left err most).2.1.extract (Zy left err most).1.toNat (Zy left err most).2.1.size,0))
 else (⟨#[]⟩,(Zy left err most).2)
theorem Ku (left:ByteArray) (err:Int):(Yc left err).2.1.size≤left.size:=by
 unfold Yc;split
 ·split
  ·exact Z0 _
  ·simp
 ·simp
theorem cntF_size (left:ByteArray) (err most:Int):(Zy left err most).2.1.size≤left.size:=by
 unfold Zy;split
 ·split
  ·exact Z0 _
  ·exact Ku _ _
 ·exact Ku _ _
theorem Yw (left:ByteArray) (err most:Int):(Uh left err most).1.size≤left.size∧(Uh left err most).2.1.size≤left.size:=by
 have h:=cntF_size left err most;unfold Uh;split
 ·split
  ·exact ⟨Z0 _,Z0 _⟩
  ·simp;omega
 ·exact ⟨Z0 _,h⟩
theorem J9 (r:Nat) (left:ByteArray) (err most:Int) (w:World) (hs:left.size≤maxLen) (hr:Rdr w r left err) (hm0:0≤most) (hm1:most≤4611686018427387904):
  Calls prog 123 #[.pointer (some ⟨r,0,none⟩),.int .i64 most] w fun x w'=>x = .returned (.string (Uh left err most).1)∧RrP w r (Uh left err most).2.1 (Uh left err most).2.2 w':=by
 have HN:=Hd (rdCount_any r left err most w hs hr hm0 hm1);have hz:=cntF_range left err most hm0;have hsz:=cntF_size left err most;unfold maxLen at hs;clear hr;obtain ⟨R,hR⟩:∃ R,Zy left err most=R:=⟨_,rfl⟩
 unfold Uh;rw [hR];rw [hR] at HN hz hsz;clear hR;obtain ⟨n,l,e⟩:=R;simp only at hz hsz HN ⊢;have hl:l.size≤2 ^ 63-1:=by omega
 by_cases he:e=0
 ·subst he
  obtain ⟨h0,h1⟩:=hz rfl;obtain ⟨m,rfl⟩:∃ m:Nat,n=m:=⟨n.toNat,by omega⟩
  rw [if_pos rfl];clear hz hs hsz;by_cases hm:l.size<m
  ·rw [if_pos (by omega)]
   go_enter Tryz.func123,Tryz.ntmps123;go_wp2_with (first|(go_at_call 147;refine HN.out.mono ?_;rintro x w1 ⟨rfl,h1,h2⟩;have H1:=Hd h1;have H2:=Hd h2;have c1:=h1.c1;have c0:=h1.c0;clear h1 h2)|(go_at_call 148;refine (Gd r l 11 _ H1.out).mono ?_;rintro x w2 ⟨rfl,h3,h4⟩;have H3:=Hd h3;have H4:=Hd h4;clear h3 h4));go_ret;exact ⟨rfl,H3.out,H2.out.trans H4.out⟩
  ·rw [if_neg (by omega)]
   have hm':m≤l.size:=by omega
   go_enter Tryz.func123,Tryz.ntmps123;go_wp2_with (go_at_call 147;refine HN.out.mono ?_;rintro x w1 ⟨rfl,h1,h2⟩;have H1:=Hd h1;have H2:=Hd h2;have c1:=h1.c1;have c0:=h1.c0;have f0:=Blk.free h1 0;clear h1 h2);go_ret;exact ⟨rfl,H1.out.setL,H2.out.set _ _ _ (.inl (by simp))⟩
 ·rw [if_neg he]
  have he2:(e != 0)=true:=by simpa using he
  have he3:(e == 0)=false:=by simpa using he
  clear he hz hs hsz;go_enter Tryz.func123,Tryz.ntmps123;go_wp2_with (go_at_call 147;refine HN.out.mono ?_;rintro x w1 ⟨rfl,h1,h2⟩;have H1:=Hd h1;have H2:=Hd h2;have c1:=h1.c1;clear h1 h2);go_ret;exact ⟨rfl,H1.out,H2.out⟩
def Zw (left:ByteArray) (err:Int):Int:=if err=0 then (if left.size=0 then 0 else 11) else err
theorem rdOpen_any (r:Nat) (left:ByteArray) (err:Int) (w:World) (hr:Rdr w r left err):
  Calls prog 149 #[.pointer (some ⟨r,0,none⟩)] w fun x w'=>x = .returned (.bool (decide (err=0)&&decide (left.size≠0)))∧w=w':=by
 have c0:=hr.c0;have c1:=hr.c1;clear hr;by_cases he:err=0
 ·subst he
  by_cases hl:left.size=0
  ·obtain rfl:=ba_empty hl
   go_enter Tryz.func149,Tryz.ntmps149;go_wp2;go_ret;exact ⟨rfl,rfl⟩
  ·obtain ⟨q1,q2⟩:=Im hl
   have q3:left.toList.isEmpty=false:=q1;have hd:decide (left.size≠0)=true:=by simpa using hl
   rw [hd];have HL:=Hd hl;clear hl hd;go_enter Tryz.func149,Tryz.ntmps149;go_wp2;go_ret;exact ⟨rfl,rfl⟩
 ·have hd:decide (err=0)=false:=by simpa using he
  have he3:(err == 0)=false:=by simpa using he
  rw [hd];clear he hd;go_enter Tryz.func149,Tryz.ntmps149;go_wp2;go_ret;exact ⟨rfl,rfl⟩
theorem Kr (r:Nat) (left:ByteArray) (err:Int) (w:World) (hr:Rdr w r left err):
  Calls prog 124 #[.pointer (some ⟨r,0,none⟩)] w fun x w'=>x = .returned (.int .i64 (Zw left err))∧w=w':=by
 have HO:=Hd (rdOpen_any r left err w hr);have c1:=hr.c1;unfold Zw;clear hr;by_cases he:err=0
 ·subst he
  rw [if_pos rfl];by_cases hl:left.size=0
  ·rw [if_pos hl]
   have e:(decide ((0:Int)=0)&&decide (left.size≠0))=false:=by simp [hl]
   rw [e] at HO;clear e hl;go_enter Tryz.func124,Tryz.ntmps124;go_wp2_with (go_at_call 149;refine HO.out.mono ?_;rintro x w1 ⟨rfl,rfl⟩);go_ret;exact ⟨rfl,rfl⟩
  ·rw [if_neg hl]
   have e:(decide ((0:Int)=0)&&decide (left.size≠0))=true:=by simp [hl]
   rw [e] at HO;clear e hl;go_enter Tryz.func124,Tryz.ntmps124;go_wp2_with (go_at_call 149;refine HO.out.mono ?_;rintro x w1 ⟨rfl,rfl⟩);go_ret;exact ⟨rfl,rfl⟩
 ·rw [if_neg he]
  have e:(decide (err=0)&&decide (left.size≠0))=false:=by simp [he]
  rw [e] at HO;clear e he;go_enter Tryz.func124,Tryz.ntmps124;go_wp2_with (go_at_call 149;refine HO.out.mono ?_;rintro x w1 ⟨rfl,rfl⟩);go_ret;exact ⟨rfl,rfl⟩
end
section
set_option maxRecDepth 100000
set_option maxHeartbeats 1000000
open Go.RowKit
def encL:Nat→Int→List Int
 |0,n=>[n]
 |f+1,n=>if 128≤n then bits BinOp.or IntKind.u8 (n % 256) 128::encL f (n / 128) else [n]
def Yk (n:Int):ByteArray:=strOfNums (encL 9 n)
theorem encL_len:∀ (f:Nat) (n:Int),(encL f n).length≤f+1
 |0,_=>by simp [encL]
 |f+1,n=>by
  unfold encL;split
  ·have:=encL_len f (n / 128)
   rw [List.length_cons];omega
  ·simp
theorem V1 (n:Int):(Yk n).size≤10:=by
 unfold Yk;rw [strOfNums_size];exact encL_len 9 n
def Fr (acc:List Int):Array Value:=((acc++List.replicate (10-acc.length) 0).map (Value.int .u8)).toArray
theorem tenC_set (acc:List Int) (v:Int) (h:acc.length<10):(Fr acc).setIfInBounds acc.length (.int .u8 v)=Fr (acc++[v]):=by
 unfold Fr;obtain ⟨m,hm⟩:∃ m,10-acc.length=m+1:=⟨10-acc.length-1,by omega⟩
 have hm2:10-(acc++[v]).length=m:=by simp;omega
 rw [hm,hm2,List.replicate_succ];simp
theorem tenC_get (acc:List Int) (i:Nat) (v:Int) (h:acc[i]? =some v):(Fr acc)[i]? =some (.int .u8 v):=by
 have hl:i<acc.length:=(List.getElem?_eq_some_iff.1 h).1;unfold Fr;rw [Ga,List.getElem?_map,List.getElem?_append_left hl,h];rfl
theorem encL_small (f:Nat) (m:Int) (h:¬ 128≤m):encL f m = [m]:=by
 cases f with
 |zero=>rfl
 |succ f=>unfold encL;rw [if_neg h]
theorem ten_slice (W:World) (g k:Nat) (h:k≤9):(Instr.sliceAt 300 (.pointer (some ⟨g,0,none⟩)) none (some (.int .i64 ((k:Int)+1))) none).run prog W = .ok (.slice (some ⟨g,0,none⟩) (k+1) 10) W:=by
 have hu:prog.underlying 300=some (.array 10 5):=by kernel_rfl
 have hal:prog.arrayLen 300=10:=by unfold Program.arrayLen;rw [hu]
 have hel:prog.elem 300=5:=by unfold Program.elem;rw [hu]
 have hsz:(sizeOf (prog.elem 300)).run prog W = .ok 1 W:=by rw [hel];exact Tryz.sizeOf5 W
 rw [run_sliceAt_array_h W 300 ⟨g,0,none⟩ (by rw [hal,hel];exact hu) .i64 _ (by omega) (by rw [hal];omega),hsz,hal];have e:((k:Int)+1).toNat=k+1:=by omega
 simp [Result.andThen_ok,slicedAt,e];rfl
theorem ten_text (W:World) (g k:Nat) (xs:List Int) (hb:Blk W g 300 (Fr xs)) (hx:xs.length=k+1):(convert 175 9 (.slice (some ⟨g,0,none⟩) (k+1) 10)).run prog W = .ok (.string (strOfNums xs)) W:=
 run_convert_bytes_arg W 175 5 (by kernel_rfl) (by kernel_rfl) g 0 (k+1) 10 xs hx (fun i hi=>by
  obtain ⟨v,hv⟩:∃ v,xs[i]? =some v:=⟨_,List.getElem?_eq_getElem (by omega)⟩
  rw [Nat.zero_add,hb.cell i,tenC_get xs i v hv,List.getD_eq_getElem?_getD,hv];rfl) 9 (by kernel_rfl)
theorem Z7 (s:ByteArray) (n:Int) (w:World) (hs:s.size≤1000000000) (h0:0≤n) (h1:n<18446744073709551616):
  Calls prog 182 #[.string s,.int .u64 n] w fun x w'=>x = .returned (.string (s++Yk n))∧Below w.heap.size w w':=by
 obtain ⟨R,hR⟩:∃ R,encL 9 n=R:=⟨_,rfl⟩
 unfold Yk;rw [hR];have HR:=Hd hR;have HZ:=Hd (Blk.new w 300 (Fr []));clear hR;have hb:=(Bf w.heap.size w).alloc (Le _) (.cells (Fr []) 300);have HB:=Hd hb;clear hb;go_enter Tryz.func182,Tryz.ntmps182;go_wp2;go_loopw [1,6] (fun v i wr => ∃ (acc:List Int) (f:Nat) (m:Int),acc.length+f=9∧v = .int .u64 m∧i = .int .i64 acc.length∧0≤m∧m<2 ^ (7*f+1)∧acc++encL f m=R∧Blk wr w.heap.size 300 (Fr acc)∧Below w.heap.size w wr) (fun _ i _=>10-(intOf i).toNat)
 case atStart=>exact ⟨[],9,n,rfl,rfl,rfl,h0,by omega,HR.out,HZ.out,HB.out⟩
 case round=>
  obtain ⟨acc,f,m,hl,rfl,rfl,m0,m1,hr,hb,hbe⟩:=hrel;obtain ⟨wx,rfl⟩:∃ x:World,x=wr:=⟨_,rfl⟩
  have HBE:=Hd hbe;have HBL:=Hd hb;obtain ⟨k,hk⟩:∃ k,acc.length=k:=⟨_,rfl⟩
  have HK:=Hd hk;have HRE:=Hd hr;have hk9:k≤9:=by omega
  have f0:=hb.free k
  obtain ⟨c0,hc0⟩:∃ c0,wx.cell? ⟨w.heap.size,k,none⟩=some c0:=by
   rw [hb.cell k];exact ⟨_,Array.getElem?_eq_getElem (by unfold Fr;simp;omega)⟩
  rw [hk] at hl ⊢;clear hk hb hbe hr;by_cases h128:128≤m
  ·match f,hl,m1,HRE with
   |0,hl,m1,HRE=>exfalso;simp at m1;omega
   |f+1,hl,m1,HRE=>
    obtain ⟨v,hv⟩:∃ v,bits BinOp.or IntKind.u8 (m % 256) 128=v:=⟨_,rfl⟩
    have hV:=Hd hv
    have hrec:(acc++[v])++encL f (m / 128)=R:=by
     have h:=HRE.out;unfold encL at h;rw [if_pos h128,hv] at h;simpa using h
    have HREC:=Hd hrec
    have hb2:Blk (wx.setCell ⟨w.heap.size,k,none⟩ (.int .u8 v)) w.heap.size 300 (Fr (acc++[v])):=by
     have h:=HBL.out.set k (.int .u8 v);have e:=tenC_set acc v (by rw [HK.out];omega);rw [HK.out] at e
     rwa [e] at h
    have HB2:=Hd hb2;have HBE2:=Hd (HBE.out.setCell (p:=⟨w.heap.size,k,none⟩) (Le _) (.int .u8 v))
    have hm2:m / 128<2 ^ (7*f+1):=by
     have e:(2:Int) ^ (7*(f+1)+1)=128*2 ^ (7*f+1):=by
      rw [show 7*(f+1)+1=7+(7*f+1) from by omega,Int.pow_add];rfl
     rw [e] at m1;omega
    have HM2:=Hd hm2;clear hrec hb2 hm2 m1;go_wp2;go_roundw
    case rel=>exact ⟨acc++[v],f,m / 128,by simp [HK.out];omega,rfl,by simp [HK.out],by omega,HM2.out,HREC.out,HB2.out,HBE2.out⟩
    case measure=>simp [intOf];omega
  ·have hrec:acc++[m]=R:=by rw [←HRE.out,encL_small f m h128]
   have HREC:=Hd hrec
   have hb2:Blk (wx.setCell ⟨w.heap.size,k,none⟩ (.int .u8 m)) w.heap.size 300 (Fr (acc++[m])):=by
    have h:=HBL.out.set k (.int .u8 m);have e:=tenC_set acc m (by rw [HK.out];omega);rw [HK.out] at e
    rwa [e] at h
   have hsz:¬ 9223372036854775807<s.size+(strOfNums (acc++[m])).size:=by rw [strOfNums_size,List.length_append,HK.out,List.length_singleton];omega
   have hsl:=ten_slice (wx.setCell ⟨w.heap.size,k,none⟩ (.int .u8 m)) w.heap.size k hk9;have hcv:=ten_text _ w.heap.size k (acc++[m]) hb2 (by simp [HK.out]);have HBE2:=Hd (HBE.out.setCell (p:=⟨w.heap.size,k,none⟩) (Le _) (.int .u8 m));clear hrec hb2;go_wp2;go_ret;exact ⟨by rw [←HREC.out];rfl,HBE2.out⟩
end
section
set_option maxRecDepth 100000
open Go.RowKit
def Em (s:ByteArray):Bool×Int:=if s.size=0 then (false,0) else if 1<bAt s 0 then (false,0) else (decide (bAt s 0=1),1)
theorem boolF_range (s:ByteArray):0≤(Em s).2∧(Em s).2≤s.size:=by
 unfold Em;split
 ·simp
 ·split
  ·simp
  ·simp;omega
theorem bool1_any (s:ByteArray) (g:Nat) (w:World) (hs:s.size≤maxLen) (hg:Blk w g 4 #[.bool false]):
  Calls prog 287 #[.string s,.pointer (some ⟨g,0,none⟩)] w fun x w'=>x = .returned (.int .i64 (Em s).2)∧Blk w' g 4 #[.bool (Em s).1]∧Far [g] w w':=by
 unfold maxLen at hs;have HG:=Hd hg;have c0:=(hg.cell 0).trans (show _=some (Value.bool false) from rfl);have f0:=hg.free 0;clear hg;by_cases hz:s.size=0
 ·obtain rfl:=ba_empty hz
  go_enter Tryz.func287,Tryz.ntmps287;go_wp2;go_ret;exact ⟨rfl,HG.out,Far.refl _ _⟩
 ·have h0:0<s.size:=by omega
  obtain ⟨q1,q2⟩:=Im hz;have q3:s.toList.isEmpty=false:=q1;obtain ⟨b,hb⟩:∃ b,(s[0]).toNat=b:=⟨_,rfl⟩
  have hbb:bAt s 0=b:=by rw [Zd s 0 h0,hb]
  have hb3:=(s[0]).toNat_lt;rw [hb] at hb3;have hB:Em s=if 1<b then (false,0) else (decide (b=1),1):=by unfold Em;rw [if_neg hz,hbb]
  rw [hB];clear hB hbb;by_cases h1:1<b
  ·rw [if_pos h1]
   go_enter Tryz.func287,Tryz.ntmps287;go_wp2;go_ret;exact ⟨rfl,HG.out,Far.refl _ _⟩
  ·rw [if_neg h1]
   by_cases h2:b=1
   ·subst h2
    go_enter Tryz.func287,Tryz.ntmps287;go_wp2;go_ret;exact ⟨rfl,HG.out.set 0 _,(Far.refl _ _).set _ _ _ (.inl (by simp))⟩
   ·obtain rfl:b=0:=by omega
    go_enter Tryz.func287,Tryz.ntmps287;go_wp2;go_ret;exact ⟨rfl,HG.out.set 0 _,(Far.refl _ _).set _ _ _ (.inl (by simp))⟩
def Vu (left:ByteArray) (err:Int):Bool×ByteArray×Int:=
 if err=0 then (if (Em left).2=0 then ((Em left).1,⟨#[]⟩,11) else ((Em left).1,left.extract (Em left).2.toNat left.size,0)) else (false,left,err)
def TbP (w:World) (r g:Nat) (R:Bool×ByteArray×Int) (x:Ending) (w':World):Prop:=x = .returned (.tuple #[])∧Rdr w' r R.2.1 R.2.2∧Blk w' g 4 #[.bool R.1]∧Far [r,g] w w'
theorem take_bool (r g:Nat) (left:ByteArray) (err:Int) (w:World) (hs:left.size≤maxLen) (hr:Rdr w r left err) (hg:Blk w g 4 #[.bool false]) (hne:r≠g):
  Calls prog 240 #[.pointer (some ⟨r,0,none⟩),.func (.func 287) #[] #[.pointer (some ⟨g,0,none⟩)]] w (TbP w r g (Vu left err)):=by
 have HR:=Hd hr;have HG:=Hd hg;have c1:=hr.c1;have c0:=hr.c0;by_cases he:err=0
 ·subst he
  obtain ⟨k1,k2⟩:=boolF_range left;have HC:=Hd (bool1_any left g w hs hg);obtain ⟨n,k,hd⟩:∃ n k,Em left=(n,k):=⟨_,_,rfl⟩
  have hn:Vu left 0=if k=0 then (n,⟨#[]⟩,11) else (n,left.extract k.toNat left.size,0):=by simp [Vu,hd]
  rw [hn];simp only [hd] at HC k1 k2;have HN:=Hd hne;clear hne;unfold maxLen at hs;clear hr hg hd hn;by_cases hk:k=0
  ·subst hk
   rw [if_pos rfl];go_enter Tryz.func240,Tryz.ntmps240;go_wp2_with (first|(go_at_call 287;refine HC.out.mono ?_;rintro e w1 ⟨rfl,h1,h2⟩;have G1:=Hd h1;have B1:=Hd h2;have R1:=Hd (Blk.far' HR.out h2 (by simpa using HN.out));clear h1 h2)|(go_at_call 148;refine (Gd r left 11 _ R1.out).mono ?_;rintro e w' ⟨rfl,h1,h2⟩;have H1:=Hd h1;have H2:=Hd h2;clear h1 h2))
   go_end0
   exact ⟨rfl,H1.out,G1.out.far' H2.out (by simp;exact HN.out.symm),(B1.out.mono (by simp)).trans (H2.out.mono (by simp))⟩
  ·rw [if_neg hk]
   have hk0:(k == 0)=false:=by simpa using hk
   obtain ⟨m,rfl⟩:∃ m:Nat,k=m:=⟨k.toNat,by omega⟩
   have k3:m≤left.size:=by omega
   have HK:=Hd hk;clear hk;go_enter Tryz.func240,Tryz.ntmps240;go_wp2_with (go_at_call 287;refine HC.out.mono ?_;rintro e w1 ⟨rfl,h1,h2⟩;have G1:=Hd h1;have B1:=Hd h2;have r1:Rdr w1 r left 0:=Blk.far' HR.out h2 (by simpa using HN.out);have R1:=Hd r1;have q0:=r1.c0;have z0:=Blk.free r1 0;clear h1 h2 r1)
   go_end0
   exact ⟨rfl,R1.out.setL,G1.out.far HN.out.symm _,(B1.out.mono (by simp)).set _ _ _ (.inl (by simp))⟩
 ·have hn:Vu left err=(false,left,err):=by simp [Vu,he]
  rw [hn];have he':(err == 0)=false:=by simpa using he
  have he2:(err != 0)=true:=by simpa using he
  clear hr hg hn he;go_enter Tryz.func240,Tryz.ntmps240;go_wp2
  go_end0
  exact ⟨rfl,HR.out,HG.out,Far.refl _ _⟩
theorem rdBool_any (r:Nat) (left:ByteArray) (err:Int) (w:World) (hs:left.size≤maxLen) (hr:Rdr w r left err):
  Calls prog 254 #[.pointer (some ⟨r,0,none⟩)] w fun x w'=>x = .returned (.bool (Vu left err).1)∧RrP w r (Vu left err).2.1 (Vu left err).2.2 w':=by
 have HT:=Hd (take_bool r w.heap.size left err (w.alloc (.cells #[.bool false] 4)) hs (Blk.alloc hr _) (Blk.new w _ _) (by have:=Blk.lt hr;omega));have HR:=Hd (Blk.lt hr);clear hr hs;obtain ⟨R,hR⟩:∃ R,Vu left err=R:=⟨_,rfl⟩
 rw [hR];rw [hR] at HT;clear hR;obtain ⟨n,l,e⟩:=R;go_enter Tryz.func254,Tryz.ntmps254;go_wp2_with (go_at_call 240;refine HT.out.mono ?_;rintro x w' ⟨rfl,h1,h2,h3⟩;have H1:=Hd h1;have H3:=Hd h3;have c0:=(h2.cell 0).trans (show _=some (Value.bool n) from rfl);clear h1 h2 h3);go_ret;exact ⟨rfl,H1.out,((Far.refl _ _).alloc _).next H3.out (by intro i hi;simp at hi;rcases hi with rfl|rfl;exact .inl (by simp);exact .inr (Le _))⟩
def encB (b:Bool):ByteArray:=if b then ⟨#[1]⟩ else ⟨#[0]⟩
theorem appBool_any (s:ByteArray) (b:Bool) (w:World) (hs:s.size≤1000000000):Calls prog 253 #[.string s,.bool b] w fun x w'=>x = .returned (.string (s++encB b))∧w=w':=by
 cases b with
 |true=>
  go_enter Tryz.func253,Tryz.ntmps253;go_wp2;go_ret;exact ⟨rfl,rfl⟩
 |false=>
  go_enter Tryz.func253,Tryz.ntmps253;go_wp2;go_ret;exact ⟨rfl,rfl⟩
def Yv (t:ByteArray):ByteArray:=Yk t.size++t
theorem Xi (t:ByteArray):(Yv t).size≤10+t.size:=by
 have:=V1 t.size;unfold Yv;rw [ByteArray.size_append];omega
theorem If (s t:ByteArray) (w:World) (hs:s.size≤1000000000) (ht:t.size≤1000000000):
  Calls prog 155 #[.string s,.string t] w fun x w'=>x = .returned (.string (s++Yv t))∧Below w.heap.size w w':=by
 have HN:=Hd (Z7 s t.size w hs (by omega) (by omega))
 have hz1:¬ 9223372036854775807<(s++Yk t.size).size+t.size:=by
  have:=V1 t.size;rw [ByteArray.size_append];omega
 go_enter Tryz.func155,Tryz.ntmps155;go_wp2_with (go_at_call 182;refine HN.out.mono ?_;rintro x w1 ⟨rfl,h1⟩;have H1:=Hd h1;clear h1);go_ret;exact ⟨by rw [Yv,ByteArray.append_assoc];rfl,H1.out⟩
end
section
set_option maxRecDepth 100000
set_option maxHeartbeats 1000000
open Go.RowKit
theorem Un {α:Type} {p:α→Bool} {l:List α} {x:α} {j:Nat} (hall:∀ t,t<j→∀ e,l[t]? =some e→p e=false) (hg:l[j]? =some x) (h:p x=true):l.findIdx p=j:=by
 have hj:j<l.length:=(List.getElem?_eq_some_iff.1 hg).1;rw [List.findIdx_eq hj];have hg':l[j]=x:=(List.getElem?_eq_some_iff.1 hg).2;refine ⟨by rw [hg'];exact h,fun t ht=>?_⟩;exact hall t ht _ (List.getElem?_eq_getElem (by omega))
theorem Up {α:Type} {p:α→Bool} {l:List α} {n:Nat} (hl:l.length=n) (hall:∀ t,t<n→∀ e,l[t]? =some e→p e=false):l.findIdx p=n:=by
 rw [←hl,List.findIdx_eq_length];intro e he;obtain ⟨t,ht,rfl⟩:=List.getElem_of_mem he;exact hall t (by omega) _ (List.getElem?_eq_getElem ht)
theorem V7 {α:Type} (p:α→Bool) (l:List α):l.any p=decide (l.findIdx p<l.length):=by
 rw [Bool.eq_iff_iff];simp [List.findIdx_lt_length]
theorem units_index  (p:Com→Bool) (A:Option Addr) (n c:Nat) (l:List Com) (w:World) (hs:Sl U8 4 w w.heap.size A n c l) (hn:n≤9223372036854775807)
  (hC:∀ x∈l,∀ W:World,Below w.heap.size w W→Calls prog 33 #[.agg #[.int .i64 x.unit,.int .i64 x.num,.slice x.rA x.rn x.rc,.slice x.cA x.cn x.cc]] W fun e w'=>e = .returned (.bool (p x))∧Below W.heap.size W w'):
  Calls prog 55 #[.slice A n c,.func (.func 33) #[] #[]] w fun e w'=>e = .returned (.int .i64 (if l.findIdx p<n then (l.findIdx p:Int) else -1))∧Below w.heap.size w w':=by
 have HS:=Hd hs;have HL:=Hd hs.len;have HC:=Hd hC;clear hs hC;obtain ⟨R,hR⟩:∃ R:Int,(if l.findIdx p<n then (l.findIdx p:Int) else -1)=R:=⟨_,rfl⟩
 rw [hR];have HR:=Hd hR;clear hR;go_enter Tryz.func55,Tryz.ntmps55;go_wp2;go_loopw [8] (fun i wr => ∃ j:Nat,j≤n∧i = .int .i64 j∧(∀ t,t<j→∀ e,l[t]? =some e→p e=false)∧Below w.heap.size w wr) (fun i _=>n-(intOf i).toNat)
 case atStart=>exact ⟨0,Z0 _,rfl,fun t h=>absurd h (by omega),Bf _ _⟩
 case round=>
  obtain ⟨j,hj,rfl,hall,hbel⟩:=hrel;have HA:=Hd hall;have hsz:=hbel.size;clear hall;by_cases hlt:j<n
  ·obtain ⟨b,o,x,rfl,hb,hg,hcell⟩:=Sl.cell (f:=U8) (k:=4) (fun _=>rfl) (HS.out.below hbel) hlt
   have c0:=hcell 0 _ rfl;have c1:=hcell 1 _ rfl;have c2:=hcell 2 _ rfl;have c3:=hcell 3 _ rfl;simp only [Nat.add_zero] at c0;have HCX:=Hd (HC.out x (List.mem_of_getElem? hg) wr hbel);have HG:=Hd hg;clear hg hcell;cases hl:p x with
   |true=>
    have hr:R=(j:Int):=by rw [←HR.out,Un HA.out HG.out hl,if_pos hlt]
    have HRR:=Hd hr;have HLB:=Hd hl;clear hr hl;go_wp2_with fail;refine HCX.out.mono ?_;rintro e w1 ⟨rfl,hb1⟩;rw [HLB.out];have hb2:=U0 hbel hb1 hsz;clear hb1;go_wp2;go_ret;exact ⟨by rw [HRR.out];rfl,hb2⟩
   |false=>
    have HLB:=Hd hl;clear hl;go_wp2_with fail;refine HCX.out.mono ?_;rintro e w1 ⟨rfl,hb1⟩;rw [HLB.out];have hb2:=U0 hbel hb1 hsz;clear hb1;go_wp2;go_roundw
    case rel=>
     refine ⟨j+1,by omega,by go_num,fun t ht e he=>?_,hb2⟩;by_cases h:t=j
     ·subst h;rw [HG.out] at he;injection he with he;subst he;exact HLB.out
     ·exact HA.out t (by omega) e he
    case measure=>simp [intOf];omega
  ·have hr:R = -1:=by rw [←HR.out,Up HL.out (fun t ht=>HA.out t (by omega)),if_neg (by omega)]
   have HRR:=Hd hr;clear hr;go_wp2;go_ret;exact ⟨by rw [HRR.out];rfl,hbel⟩
theorem units_any  (p:Com→Bool) (A:Option Addr) (n c:Nat) (l:List Com) (w:World) (hs:Sl U8 4 w w.heap.size A n c l) (hn:n≤9223372036854775807)
  (hC:∀ x∈l,∀ W:World,Below w.heap.size w W→Calls prog 33 #[.agg #[.int .i64 x.unit,.int .i64 x.num,.slice x.rA x.rn x.rc,.slice x.cA x.cn x.cc]] W fun e w'=>e = .returned (.bool (p x))∧Below W.heap.size W w'):
  Calls prog 32 #[.slice A n c,.func (.func 33) #[] #[]] w fun e w'=>e = .returned (.bool (l.any p))∧Below w.heap.size w w':=by
 have H:=Hd (units_index p A n c l w hs hn hC);have ha:=V7 p l;rw [hs.len] at ha;have HA:=Hd ha;clear hs hC ha;generalize l.findIdx p=q at H HA;go_enter Tryz.func32,Tryz.ntmps32;by_cases hq:q<n
 ·rw [if_pos hq] at H
  go_wp2_with (go_at_call 55;refine H.out.mono ?_;rintro e w1 ⟨rfl,hb⟩);go_ret;exact ⟨by rw [HA.out];simp [hq],hb⟩
 ·rw [if_neg hq] at H
  go_wp2_with (go_at_call 55;refine H.out.mono ?_;rintro e w1 ⟨rfl,hb⟩);go_ret;exact ⟨by rw [HA.out];simp [hq],hb⟩
theorem chgs_index  (p:Chg→Bool) (A:Option Addr) (n c:Nat) (l:List Chg) (w:World) (hs:Sl chC 5 w w.heap.size A n c l) (hn:n≤9223372036854775807)
  (hC:∀ x∈l,∀ W:World,Below w.heap.size w W→Calls prog 58 #[.agg #[.int .i64 x.kind,.int .i64 x.id,.string x.key,.string x.rcd,.string x.vol]] W fun e w'=>e = .returned (.bool (p x))∧Below W.heap.size W w'):
  Calls prog 75 #[.slice A n c,.func (.func 58) #[] #[]] w fun e w'=>e = .returned (.int .i64 (if l.findIdx p<n then (l.findIdx p:Int) else -1))∧Below w.heap.size w w':=by
 have HS:=Hd hs;have HL:=Hd hs.len;have HC:=Hd hC;clear hs hC;obtain ⟨R,hR⟩:∃ R:Int,(if l.findIdx p<n then (l.findIdx p:Int) else -1)=R:=⟨_,rfl⟩
 rw [hR];have HR:=Hd hR;clear hR;go_enter Tryz.func75,Tryz.ntmps75;go_wp2;go_loopw [8] (fun i wr => ∃ j:Nat,j≤n∧i = .int .i64 j∧(∀ t,t<j→∀ e,l[t]? =some e→p e=false)∧Below w.heap.size w wr) (fun i _=>n-(intOf i).toNat)
 case atStart=>exact ⟨0,Z0 _,rfl,fun t h=>absurd h (by omega),Bf _ _⟩
 case round=>
  obtain ⟨j,hj,rfl,hall,hbel⟩:=hrel;have HA:=Hd hall;have hsz:=hbel.size;clear hall;by_cases hlt:j<n
  ·obtain ⟨b,o,x,rfl,hb,hg,hcell⟩:=Sl.cell (f:=chC) (k:=5) (fun _=>rfl) (HS.out.below hbel) hlt
   have c0:=hcell 0 _ rfl;have c1:=hcell 1 _ rfl;have c2:=hcell 2 _ rfl;have c3:=hcell 3 _ rfl;have c4:=hcell 4 _ rfl;simp only [Nat.add_zero] at c0;have HCX:=Hd (HC.out x (List.mem_of_getElem? hg) wr hbel);have HG:=Hd hg;clear hg hcell;cases hl:p x with
   |true=>
    have hr:R=(j:Int):=by rw [←HR.out,Un HA.out HG.out hl,if_pos hlt]
    have HRR:=Hd hr;have HLB:=Hd hl;clear hr hl;go_wp2_with fail;refine HCX.out.mono ?_;rintro e w1 ⟨rfl,hb1⟩;rw [HLB.out];have hb2:=U0 hbel hb1 hsz;clear hb1;go_wp2;go_ret;exact ⟨by rw [HRR.out];rfl,hb2⟩
   |false=>
    have HLB:=Hd hl;clear hl;go_wp2_with fail;refine HCX.out.mono ?_;rintro e w1 ⟨rfl,hb1⟩;rw [HLB.out];have hb2:=U0 hbel hb1 hsz;clear hb1;go_wp2;go_roundw
    case rel=>
     refine ⟨j+1,by omega,by go_num,fun t ht e he=>?_,hb2⟩;by_cases h:t=j
     ·subst h;rw [HG.out] at he;injection he with he;subst he;exact HLB.out
     ·exact HA.out t (by omega) e he
    case measure=>simp [intOf];omega
  ·have hr:R = -1:=by rw [←HR.out,Up HL.out (fun t ht=>HA.out t (by omega)),if_neg (by omega)]
   have HRR:=Hd hr;clear hr;go_wp2;go_ret;exact ⟨by rw [HRR.out];rfl,hbel⟩
theorem chgs_any  (p:Chg→Bool) (A:Option Addr) (n c:Nat) (l:List Chg) (w:World) (hs:Sl chC 5 w w.heap.size A n c l) (hn:n≤9223372036854775807)
  (hC:∀ x∈l,∀ W:World,Below w.heap.size w W→Calls prog 58 #[.agg #[.int .i64 x.kind,.int .i64 x.id,.string x.key,.string x.rcd,.string x.vol]] W fun e w'=>e = .returned (.bool (p x))∧Below W.heap.size W w'):
  Calls prog 57 #[.slice A n c,.func (.func 58) #[] #[]] w fun e w'=>e = .returned (.bool (l.any p))∧Below w.heap.size w w':=by
 have H:=Hd (chgs_index p A n c l w hs hn hC);have ha:=V7 p l;rw [hs.len] at ha;have HA:=Hd ha;clear hs hC ha;generalize l.findIdx p=q at H HA;go_enter Tryz.func57,Tryz.ntmps57;by_cases hq:q<n
 ·rw [if_pos hq] at H
  go_wp2_with (go_at_call 75;refine H.out.mono ?_;rintro e w1 ⟨rfl,hb⟩);go_ret;exact ⟨by rw [HA.out];simp [hq],hb⟩
 ·rw [if_neg hq] at H
  go_wp2_with (go_at_call 75;refine H.out.mono ?_;rintro e w1 ⟨rfl,hb⟩);go_ret;exact ⟨by rw [HA.out];simp [hq],hb⟩
theorem rdds_index  (p:Rdd→Bool) (A:Option Addr) (n c:Nat) (l:List Rdd) (w:World) (hs:Sl rdC 6 w w.heap.size A n c l) (hn:n≤9223372036854775807)
  (hC:∀ x∈l,∀ W:World,Below w.heap.size w W→Calls prog 61 #[.agg #[.int .i64 x.kind,.int .i64 x.id,.string x.key,.string x.ak,.string x.ar,.int .i64 x.code]] W fun e w'=>e = .returned (.bool (p x))∧Below W.heap.size W w'):
  Calls prog 26 #[.slice A n c,.func (.func 61) #[] #[]] w fun e w'=>e = .returned (.int .i64 (if l.findIdx p<n then (l.findIdx p:Int) else -1))∧Below w.heap.size w w':=by
 have HS:=Hd hs;have HL:=Hd hs.len;have HC:=Hd hC;clear hs hC;obtain ⟨R,hR⟩:∃ R:Int,(if l.findIdx p<n then (l.findIdx p:Int) else -1)=R:=⟨_,rfl⟩
 rw [hR];have HR:=Hd hR;clear hR;go_enter Tryz.func26,Tryz.ntmps26;go_wp2;go_loopw [8] (fun i wr => ∃ j:Nat,j≤n∧i = .int .i64 j∧(∀ t,t<j→∀ e,l[t]? =some e→p e=false)∧Below w.heap.size w wr) (fun i _=>n-(intOf i).toNat)
 case atStart=>exact ⟨0,Z0 _,rfl,fun t h=>absurd h (by omega),Bf _ _⟩
 case round=>
  obtain ⟨j,hj,rfl,hall,hbel⟩:=hrel;have HA:=Hd hall;have hsz:=hbel.size;clear hall;by_cases hlt:j<n
  ·obtain ⟨b,o,x,rfl,hb,hg,hcell⟩:=Sl.cell (f:=rdC) (k:=6) (fun _=>rfl) (HS.out.below hbel) hlt
   have c0:=hcell 0 _ rfl;have c1:=hcell 1 _ rfl;have c2:=hcell 2 _ rfl;have c3:=hcell 3 _ rfl;have c4:=hcell 4 _ rfl;have c5:=hcell 5 _ rfl;simp only [Nat.add_zero] at c0;have HCX:=Hd (HC.out x (List.mem_of_getElem? hg) wr hbel);have HG:=Hd hg;clear hg hcell;cases hl:p x with
   |true=>
    have hr:R=(j:Int):=by rw [←HR.out,Un HA.out HG.out hl,if_pos hlt]
    have HRR:=Hd hr;have HLB:=Hd hl;clear hr hl;go_wp2_with fail;refine HCX.out.mono ?_;rintro e w1 ⟨rfl,hb1⟩;rw [HLB.out];have hb2:=U0 hbel hb1 hsz;clear hb1;go_wp2;go_ret;exact ⟨by rw [HRR.out];rfl,hb2⟩
   |false=>
    have HLB:=Hd hl;clear hl;go_wp2_with fail;refine HCX.out.mono ?_;rintro e w1 ⟨rfl,hb1⟩;rw [HLB.out];have hb2:=U0 hbel hb1 hsz;clear hb1;go_wp2;go_roundw
    case rel=>
     refine ⟨j+1,by omega,by go_num,fun t ht e he=>?_,hb2⟩;by_cases h:t=j
     ·subst h;rw [HG.out] at he;injection he with he;subst he;exact HLB.out
     ·exact HA.out t (by omega) e he
    case measure=>simp [intOf];omega
  ·have hr:R = -1:=by rw [←HR.out,Up HL.out (fun t ht=>HA.out t (by omega)),if_neg (by omega)]
   have HRR:=Hd hr;clear hr;go_wp2;go_ret;exact ⟨by rw [HRR.out];rfl,hbel⟩
theorem rdds_any  (p:Rdd→Bool) (A:Option Addr) (n c:Nat) (l:List Rdd) (w:World) (hs:Sl rdC 6 w w.heap.size A n c l) (hn:n≤9223372036854775807)
  (hC:∀ x∈l,∀ W:World,Below w.heap.size w W→Calls prog 61 #[.agg #[.int .i64 x.kind,.int .i64 x.id,.string x.key,.string x.ak,.string x.ar,.int .i64 x.code]] W fun e w'=>e = .returned (.bool (p x))∧Below W.heap.size W w'):
  Calls prog 60 #[.slice A n c,.func (.func 61) #[] #[]] w fun e w'=>e = .returned (.bool (l.any p))∧Below w.heap.size w w':=by
 have H:=Hd (rdds_index p A n c l w hs hn hC);have ha:=V7 p l;rw [hs.len] at ha;have HA:=Hd ha;clear hs hC ha;generalize l.findIdx p=q at H HA;go_enter Tryz.func60,Tryz.ntmps60;by_cases hq:q<n
 ·rw [if_pos hq] at H
  go_wp2_with (go_at_call 26;refine H.out.mono ?_;rintro e w1 ⟨rfl,hb⟩);go_ret;exact ⟨by rw [HA.out];simp [hq],hb⟩
 ·rw [if_neg hq] at H
  go_wp2_with (go_at_call 26;refine H.out.mono ?_;rintro e w1 ⟨rfl,hb⟩);go_ret;exact ⟨by rw [HA.out];simp [hq],hb⟩
end
end Go.Proofs.YtapanepkfbamhaaGreatDoor
