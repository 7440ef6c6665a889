/- Of HistorySwaps. -/
import Derived.Test.YtoakknkmjnebjaaGreatDoorSAX
import Derived.Shelf.SlSortCmp.NoneTotal
namespace Go.Proofs.YtoakknkmjnebjaaGreatDoor
open Tryz (prog)
set_option maxRecDepth 100000
set_option maxHeartbeats 2000000
open Go.RowKit
structure Rg where
 lo:Bz
 hi:Bz
 en:Bool
def rgV (r:Rg):Value:=.agg #[.string r.lo,.string r.hi,.bool r.en]
def I7 (k:Bz):Rg:=⟨k,⟨#[]⟩,true⟩
def Yc (k:Bz):Rg:=⟨k,k,false⟩
theorem from_any (k:Bz) (w:Wd):Calls prog 45 #[.string k] w fun e w'=>e = .returned (rgV (I7 k))∧Below w.heap.size w w':=by
 unfold rgV I7;go_enter Tryz.func45,Tryz.ntmps45;go_wp2;exact Br (v:=.agg #[.string k,.string ⟨#[]⟩,.bool true]) (by simp [results,Tryz.results45,go_sem]) rfl ⟨rfl,(Bf _ _).alloc (Le _) _⟩
theorem point_any (k:Bz) (w:Wd):Calls prog 46 #[.string k] w fun e w'=>e = .returned (rgV (Yc k))∧Below w.heap.size w w':=by
 unfold rgV Yc;go_enter Tryz.func46,Tryz.ntmps46;go_wp2;exact Br (v:=.agg #[.string k,.string k,.bool false]) (by simp [results,Tryz.results46,go_sem]) rfl ⟨rfl,(Bf _ _).alloc (Le _) _⟩
def inB (r:Rg) (k:Bz):Bool := !U8 k r.lo&&!(!r.en&&U8 r.hi k)
theorem gt_is (a b:Bz):(!Op.bytesLess a.toList b.toList&&!(a.toList == b.toList))=U8 b a:=by
 rw [Zd];unfold U8;rw [beq_ba,Bool.not_or]
theorem in1_any (lo hi k:Bz) (en:Bool) (b1 b2:Nat) (w:Wd) (h0:w.cell? ⟨b1,0,none⟩=some (.string lo)) (h1:w.cell? ⟨b1,1,none⟩=some (.string hi)) (h2:w.cell? ⟨b1,2,none⟩=some (.bool en)) (h3:w.cell? ⟨b2,0,none⟩=some (.string k)):
  Calls prog 107 #[.pointer (some ⟨b1,0,none⟩),.pointer (some ⟨b2,0,none⟩)] w fun e w'=>e = .returned (.bool (!en&&U8 hi k))∧Below w.heap.size w w':=by
 have _h:=h0;clear h0 _h;obtain ⟨R,hR⟩:∃ R,U8 hi k=R:=⟨_,rfl⟩
 have HR:Hid ((!Op.bytesLess k.toList hi.toList&&!(k.toList == hi.toList))=R):=Hd (by rw [gt_is,hR]);rw [hR];clear hR;cases en with
 |true=>
  go_enter Tryz.func107,Tryz.ntmps107;go_wp2;go_ret;exact ⟨rfl,Bf _ _⟩
 |false=>
  go_enter Tryz.func107,Tryz.ntmps107;go_wp2;go_ret;refine ⟨?_,Bf _ _⟩;rw [←HR.out];rfl
theorem in_any (r:Rg) (k:Bz) (w:Wd):Calls prog 81 #[rgV r,.string k] w fun e w'=>e = .returned (.bool (inB r k))∧Below w.heap.size w w':=by
 obtain ⟨lo,hi,en⟩:=r;unfold rgV inB;simp only;have B0:=Hd (Xg w #[.string lo,.string hi,.bool en] 92);have B1:=Hd ((Uc B0.out).alloc (Nat.le_of_succ_le (Vn B0.out)) (.cells #[.string k] 9));have K0:=(Blk.new w 92 #[.string lo,.string hi,.bool en]).alloc (.cells #[.string k] 9);have K1:=U3 (w.alloc (.cells #[.string lo,.string hi,.bool en] 92)) 9 #[.string k] (w.heap.size+1) (by simp);have HI:=Hd (in1_any lo hi k en w.heap.size (w.heap.size+1) _ (K0.cell 0) (K0.cell 1) (K0.cell 2) (K1.cell 0));clear K0 K1;obtain ⟨R,hR⟩:∃ R,(!en&&U8 hi k)=R:=⟨_,rfl⟩
 rw [hR] at HI ⊢;clear hR;cases hl:U8 k lo with
 |true=>
  have d1:Op.bytesLess k.toList lo.toList=true:=hl;clear hl;go_enter Tryz.func81,Tryz.ntmps81;go_wp2;go_ret;exact ⟨rfl,B1.out⟩
 |false=>
  have d1:Op.bytesLess k.toList lo.toList=false:=hl;clear hl;go_enter Tryz.func81,Tryz.ntmps81;go_wp2_with (go_at_call 107;refine HI.out.mono ?_;rintro e w2 ⟨rfl,aF⟩;have X2:=Hd (U0 B1.out aF B1.out.size);clear aF);go_ret;exact ⟨rfl,X2.out⟩
def Kd (r:Rg):Bool := !inB r r.lo
theorem isEmpty_any (r:Rg) (w:Wd):Calls prog 66 #[rgV r] w fun e w'=>e = .returned (.bool (Kd r))∧Below w.heap.size w w':=by
 have HI:=fun W=>Hd (in_any r r.lo W)
 unfold Kd;generalize inB r r.lo=R at HI ⊢;obtain ⟨lo,hi,en⟩:=r;unfold rgV at HI ⊢;simp only at HI ⊢;have HI:=HI (w.alloc (.cells #[.string lo,.string hi,.bool en] 92));have B0:=Hd (Xg w #[.string lo,.string hi,.bool en] 92);go_enter Tryz.func66,Tryz.ntmps66;go_wp2_with (go_at_call 81;refine HI.out.mono ?_;rintro e w2 ⟨rfl,aF⟩;have X2:=Hd (U0 (Uc B0.out) aF (Nat.le_of_succ_le (Vn B0.out)));clear aF);go_ret;exact ⟨rfl,X2.out⟩
def mxS (a b:Bz):Bz:=if U8 a b then b else a
def mnS (a b:Bz):Bz:=if U8 b a then b else a
def Jp (a b:Rg):Rg:=⟨mxS a.lo b.lo,if a.en&&b.en then ⟨#[]⟩ else if a.en then b.hi else if b.en then a.hi else mnS a.hi b.hi,a.en&&b.en⟩
theorem run_maxS (W:Wd) (a b:Bz):(Builtin.max_ #[9,9] 9 #[.string a,.string b]).run prog W = .ok (.string (mxS a b)) W:=by
 cases h:Op.bytesLess a.toList b.toList<;>simp [Builtin.max_,Builtin.max2,Op.stringOp,mxS,U8,asBool,h]
theorem run_minS (W:Wd) (a b:Bz):(Builtin.min_ #[9,9] 9 #[.string a,.string b]).run prog W = .ok (.string (mnS a b)) W:=by
 have hq:=leq_is a b;cases h:U8 b a<;>rw [h] at hq<;>simp [Builtin.min_,Builtin.min2,Op.stringOp,mnS,asBool,h]
 ·simp at hq;intro h1 h2;rcases hq with h3|h3
  ·rw [h1] at h3;cases h3
  ·exact absurd h3 h2
 ·simp_all
theorem meet_any (a b:Rg) (w:Wd):Calls prog 67 #[rgV a,rgV b] w fun e w'=>e = .returned (rgV (Jp a b))∧Below w.heap.size w w':=by
 obtain ⟨lo,hi,en⟩:=a;obtain ⟨lo',hi',en'⟩:=b;unfold rgV Jp;simp only;obtain ⟨M,hM⟩:∃ M,mxS lo lo'=M:=⟨_,rfl⟩
 obtain ⟨N,hN⟩:∃ N,mnS hi hi'=N:=⟨_,rfl⟩
 have m1:=fun W=>run_maxS W lo lo'
 have m2:=fun W=>run_minS W hi hi'
 rw [hM] at m1 ⊢;rw [hN] at m2 ⊢;clear hM hN;have BB:Hid (∀ o1 o2 o3 o4,Below w.heap.size w ((((w.alloc o1).alloc o2).alloc o3).alloc o4)):=Hd fun o1 o2 o3 o4=>((((Bf w.heap.size w).alloc (Le _) _).alloc (by simp) _).alloc (by simp;omega) _).alloc (by simp;omega) _
 cases en<;>cases en'
 ·go_enter Tryz.func67,Tryz.ntmps67;go_wp2;exact Br (v:=.agg #[.string M,.string N,.bool false]) (by simp [results,Tryz.results67,go_sem]) rfl ⟨rfl,BB.out _ _ _ _⟩
 ·go_enter Tryz.func67,Tryz.ntmps67;go_wp2;exact Br (v:=.agg #[.string M,.string hi,.bool false]) (by simp [results,Tryz.results67,go_sem]) rfl ⟨rfl,BB.out _ _ _ _⟩
 ·go_enter Tryz.func67,Tryz.ntmps67;go_wp2;exact Br (v:=.agg #[.string M,.string hi',.bool false]) (by simp [results,Tryz.results67,go_sem]) rfl ⟨rfl,BB.out _ _ _ _⟩
 ·go_enter Tryz.func67,Tryz.ntmps67;go_wp2;exact Br (v:=.agg #[.string M,.string ⟨#[]⟩,.bool true]) (by simp [results,Tryz.results67,go_sem]) rfl ⟨rfl,BB.out _ _ _ _⟩
def V0 (a b:Rg):Bool := !Kd (Jp a b)
theorem overlap_any (a b:Rg) (w:Wd):Calls prog 44 #[rgV a,rgV b] w fun e w'=>e = .returned (.bool (V0 a b))∧Below w.heap.size w w':=by
 have HM:=Hd fun W=>meet_any a b W
 have HE:=Hd fun W=>isEmpty_any (Jp a b) W
 unfold V0;generalize Kd (Jp a b)=R at HE ⊢;generalize Jp a b=m at HM HE;obtain ⟨lo,hi,en⟩:=a;obtain ⟨lo',hi',en'⟩:=b;obtain ⟨lo2,hi2,en2⟩:=m;unfold rgV at HM HE ⊢;simp only at HM HE ⊢;have B0:Hid (Below w.heap.size w ((w.alloc (.cells #[.string lo,.string hi,.bool en] 92)).alloc (.cells #[.string lo',.string hi',.bool en'] 92))):=Hd (((Bf w.heap.size w).alloc (Le _) _).alloc (by simp) _);go_enter Tryz.func44,Tryz.ntmps44;go_wp2_with (first|(go_at_call 67;refine (HM.out _).mono ?_;rintro e w2 ⟨rfl,aF⟩;have X2:=Hd (U0 B0.out aF B0.out.size);clear aF)|(go_at_call 66;refine (HE.out _).mono ?_;rintro e w3 ⟨rfl,b7⟩;have X3:=Hd (U0 X2.out b7 X2.out.size);clear b7));go_ret;exact ⟨rfl,X3.out⟩
structure Tch where
 id:Int
 r:Rg
def Xm (t:Tch):List Value:=[.int .i64 t.id,.string t.r.lo,.string t.r.hi,.bool t.r.en]
theorem tchC_len (t:Tch):(Xm t).length=4:=rfl
theorem Zm (W:Wd) (k:Nat) (cs:List Value) (t:TypeId) (n size:Nat) (h:cs.length=n*size) (hz:W.heap.size=k):Rd (W.alloc (.cells cs.toArray t)) (k+1) size (some ⟨k,0,none⟩) n cs:=by
 subst hz;exact Vw W cs t n size h
def chT (c:Chg):Tch:=⟨c.id,if c.kind=0∨c.kind=1 then Yc c.key else I7 ⟨#[]⟩⟩
theorem infoTch:(prog.info? 94).map (fun i=>(i.zero,i.size,i.bytes))=some (some (.agg #[.int .i64 0,.string ⟨#[]⟩,.string ⟨#[]⟩,.bool false]),4,48):=by kernel_rfl
theorem Jr {α β:Type} (f:α→β) {l:List α} {j:Nat} {x:α} (h:l[j]? =some x):(l.map f).take (j+1)=(l.map f).take j++[f x]:=by
 rw [List.take_add_one,List.getElem?_map,h];rfl
def G7 (w:Wd) (n:Nat) (l:List Tch) (e:Ending) (w':Wd):Prop:=∃ A c,e = .returned (.slice A n c)∧Sl Xm 4 w' w'.heap.size A n c l∧Below w.heap.size w w'
theorem Gr (x:Com) (w:Wd) (fI:ComOk w w.heap.size x) (hn:x.cn≤1000):
  Calls prog 18 #[.agg #[.int .i64 x.unit,.int .i64 x.num,.slice x.rA x.rn x.rc,.slice x.cA x.cn x.cc]] w (G7 w x.cn (x.cs.map chT)):=by
 have HS:=Hd fI.2.1;have HL:=Hd fI.2.1.len;obtain ⟨i0,aU,aW,aK,aR⟩:=info_parts infoTch;have j4:Hid (∀ W:Wd,Calls prog 45 #[.string ⟨#[]⟩] W fun e w'=>e = .returned (.agg #[.string ⟨#[]⟩,.string ⟨#[]⟩,.bool true])∧Below W.heap.size W w'):=Hd fun W=>from_any ⟨#[]⟩ W
 clear fI;go_enter Tryz.func18,Tryz.ntmps18;have hfX:=Zo (Xg w #[.int .i64 x.unit,.int .i64 x.num,.slice x.rA x.rn x.rc,.slice x.cA x.cn x.cc] 34) 3;clear hfX;go_wp2;go_loopw [3,10] (fun v3 i wr => ∃ j:Nat,j≤x.cn∧i = .int .i64 j∧wr.ownsRow (w.heap.size+1) 94 4 v3 j (Ub Xm ((x.cs.map chT).take j))∧Below (w.heap.size+1) (w.alloc (.cells #[.int .i64 x.unit,.int .i64 x.num,.slice x.rA x.rn x.rc,.slice x.cA x.cn x.cc] 34)) wr) (fun _ i _=>x.cn-(intOf i).toNat)
 case atStart=>exact ⟨0,Z0 _,rfl,⟨rfl,.inl ⟨rfl,rfl⟩⟩,Bf _ _⟩
 case round=>
  obtain ⟨j,hj,rfl,aD,aE⟩:=hrel;have eW:=Hd aD;have HB:=Hd aE;have aN:=Vn aE;clear aD aE;by_cases aG:j<x.cn
  ·obtain ⟨b,o,y,hA,hb,hg,aB⟩:=Sl.cell (f:=chC) (k:=5) chC_len (HS.out.after (Uc HB.out) (Nat.le_of_succ_le aN)) aG;have HG:=Hd hg;have mC:=Hd aB;have fD:=Hd hb;have HMT:Hid (Ub Xm ((x.cs.map chT).take (j+1))=Ub Xm ((x.cs.map chT).take j)++Xm (chT y)):=Hd (by rw [Jr chT HG.out,Vb,Va]);have iQ:=Hd hA;rw [hA];have c0:=aB 0 _ rfl;have c1:=aB 1 _ rfl;have c2:=aB 2 _ rfl;have c3:=aB 3 _ rfl;have c4:=aB 4 _ rfl;simp only [Nat.add_zero] at c0;clear hg aB hb hA;by_cases hk:y.kind=0∨y.kind=1
   ·have gM:Hid (chT y=⟨y.id,⟨y.key,y.key,false⟩⟩):=Hd (by unfold chT;rw [if_pos hk];rfl);have iM:Hid (∀ W:Wd,Calls prog 46 #[.string y.key] W fun e w'=>e = .returned (.agg #[.string y.key,.string y.key,.bool false])∧Below W.heap.size W w'):=Hd fun W=>point_any y.key W
    obtain ⟨K1,hK⟩:∃ K1:Int,y.kind=K1:=⟨_,rfl⟩
    rw [hK] at hk c0;have HK:=Hd hK;clear hK;rcases hk with rfl|rfl
    all_goals
     go_wp2_with fail;refine (j4.out _).mono ?_;rintro e w2 ⟨rfl,aF⟩;have kA:=(Blk.new wr 58 #[.int .i64 _,.int .i64 y.id,.string y.key,.string y.rcd,.string y.vol]).below aF (by simp);have a0:=kA.cell 0;have a1:=kA.cell 1;have a2:=kA.cell 2;simp at a0 a1 a2;have l1:=kA.lt;have B2:=Hd (U0 ((Bf wr.heap.size wr).alloc (Le _) _) aF (by simp));clear aF;go_wp2_with fail;refine (iM.out _).mono ?_;rintro e w3 ⟨rfl,b7⟩;have kA3:=(kA.alloc (.cells #[.string ⟨#[]⟩,.string ⟨#[]⟩,.bool true] 92)).below b7 (by simp;omega);have kR:=(Blk.new w2 92 #[.string ⟨#[]⟩,.string ⟨#[]⟩,.bool true]).below b7 (by simp);have a3:=kA3.cell 1;have r0:=kR.cell 0;have r1:=kR.cell 1;have r2:=kR.cell 2;have f0:=kR.free 0;have f1:=kR.free 1;have f2:=kR.free 2;simp at a3 r0 r1 r2;have l2:=kR.lt;have l3:wr.heap.size≠w2.heap.size:=by omega
     have l4:¬ wr.heap.size=w2.heap.size:=l3;have B3:=Hd (U0 (B2.out.alloc B2.out.size _) b7 (Lx B2.out.size (Vq _ _)));have B9:=Hd (((B3.out.setCell (p:=⟨w2.heap.size,0,none⟩) B2.out.size (.string y.key)).setCell (p:=⟨w2.heap.size,1,none⟩) B2.out.size (.string y.key)).setCell (p:=⟨w2.heap.size,2,none⟩) B2.out.size (.bool false));clear kA kA3 kR b7;go_wp2_with (at_builtin;go_must (refine U5 _ rfl _ _ 62 rfl (w.heap.size+1) 94 i0 _ 4 48 Tryz.underlying62 aU aW aK aR rfl (by decide) _ j _ rfl ((Up eW.out B9.out).alloc _) _ _ 1 1 [.int .i64 y.id,.string y.key,.string y.key,.bool false] rfl (Zm _ _ [.int .i64 y.id,.string y.key,.string y.key,.bool false] 94 1 4 rfl ?c5) ?c1 ?c2 ?c3 ?c4 ?_))
     case c5=>simp
     case c1=>intro u hu;simp at hu;rcases hu with rfl|rfl|rfl|rfl<;>rfl
     case c2=>simp only [maxLen];omega
     case c3=>omega
     case c4=>simp;omega
     intro v4 w4 cO dS _;have B4:=Hd (((HB.out.trans (B9.out.mono aN)).alloc (Lx aN B9.out.size) _).grown dS (Lx (Lx aN B9.out.size) (Vq _ _)) (X6 eW.out (Le _)));have cN:Hid (w4.ownsRow (w.heap.size+1) 94 4 v4 (j+1) (Ub Xm ((x.cs.map chT).take (j+1)))):=Hd (by rw [HMT.out,gM.out];exact cO);clear cO dS;go_wp2;go_roundw
     case rel=>exact ⟨j+1,by omega,by go_num,cN.out,by have h:=B4.out;rw [iQ.out] at h;exact h⟩
     case measure=>simp [intOf];omega
   ·have d0:(y.kind == 0)=false:=by simp;omega
    have d1:(y.kind == 1)=false:=by simp;omega
    have gM:Hid (chT y=⟨y.id,⟨⟨#[]⟩,⟨#[]⟩,true⟩⟩):=Hd (by unfold chT;rw [if_neg hk];rfl);clear hk;go_wp2_with fail;refine (j4.out _).mono ?_;rintro e w2 ⟨rfl,aF⟩;have kA:=(Blk.new wr 58 #[.int .i64 y.kind,.int .i64 y.id,.string y.key,.string y.rcd,.string y.vol]).below aF (by simp);have a0:=kA.cell 0;have a1:=kA.cell 1;have a2:=kA.cell 2;simp at a0 a1 a2;have l1:=kA.lt;have B2:=Hd (U0 ((Bf wr.heap.size wr).alloc (Le _) _) aF (by simp));clear kA aF;go_wp2_with (at_builtin;go_must (refine U5 _ rfl _ _ 62 rfl (w.heap.size+1) 94 i0 _ 4 48 Tryz.underlying62 aU aW aK aR rfl (by decide) _ j _ rfl (((Up eW.out B2.out).alloc _).alloc _) _ _ 1 1 [.int .i64 y.id,.string ⟨#[]⟩,.string ⟨#[]⟩,.bool true] rfl (Zm _ _ [.int .i64 y.id,.string ⟨#[]⟩,.string ⟨#[]⟩,.bool true] 94 1 4 rfl ?c5) ?c1 ?c2 ?c3 ?c4 ?_))
    case c5=>simp
    case c1=>intro u hu;simp at hu;rcases hu with rfl|rfl|rfl|rfl<;>rfl
    case c2=>simp only [maxLen];omega
    case c3=>omega
    case c4=>simp;omega
    intro v4 w4 cO dS _;have B4:=Hd ((((HB.out.trans (B2.out.mono aN)).alloc (Lx aN B2.out.size) _).alloc (Lx (Lx aN B2.out.size) (Vq _ _)) _).grown dS (Lx (Lx (Lx aN B2.out.size) (Vq _ _)) (Vq _ _)) (X6 eW.out (Le _)));have cN:Hid (w4.ownsRow (w.heap.size+1) 94 4 v4 (j+1) (Ub Xm ((x.cs.map chT).take (j+1)))):=Hd (by rw [HMT.out,gM.out];exact cO);clear cO dS;go_wp2;go_roundw
    case rel=>exact ⟨j+1,by omega,by go_num,cN.out,by have h:=B4.out;rw [iQ.out] at h;exact h⟩
    case measure=>simp [intOf];omega
  ·have iN:x.cn=j:=by omega
   have kS:(x.cs.map chT).take j=x.cs.map chT:=List.take_of_length_le (by rw [List.length_map,HL.out];omega);rw [kS] at eW;obtain ⟨A5,c5,hv5,_,_⟩:=Ue eW.out;subst hv5;have cG:=Hd (Sl.of_own (f:=Xm) (k:=4) tchC_len (by decide) eW.out);have HJN:=Hd iN;clear kS iN;go_wp2;go_ret;exact ⟨A5,c5,by rw [HJN.out];rfl,by rw [HJN.out];exact cG.out,Uc HB.out⟩
def rdT (r:Rdd):Tch:=⟨r.id,if r.kind=0 then Yc r.key else if r.code≠0 then I7 r.key else ⟨r.key,r.ak,false⟩⟩
theorem read_any (x:Com) (w:Wd) (fI:ComOk w w.heap.size x) (hn:x.rn≤1000):
  Calls prog 19 #[.agg #[.int .i64 x.unit,.int .i64 x.num,.slice x.rA x.rn x.rc,.slice x.cA x.cn x.cc]] w (G7 w x.rn (x.rs.map rdT)):=by
 have HS:=Hd fI.1;have HL:=Hd fI.1.len;obtain ⟨i0,aU,aW,aK,aR⟩:=info_parts infoTch;clear fI;go_enter Tryz.func19,Tryz.ntmps19;go_wp2;go_loopw [3,10] (fun v3 i wr => ∃ j:Nat,j≤x.rn∧i = .int .i64 j∧wr.ownsRow (w.heap.size+1) 94 4 v3 j (Ub Xm ((x.rs.map rdT).take j))∧Below (w.heap.size+1) (w.alloc (.cells #[.int .i64 x.unit,.int .i64 x.num,.slice x.rA x.rn x.rc,.slice x.cA x.cn x.cc] 34)) wr) (fun _ i _=>x.rn-(intOf i).toNat)
 case atStart=>exact ⟨0,Z0 _,rfl,⟨rfl,.inl ⟨rfl,rfl⟩⟩,Bf _ _⟩
 case round=>
  obtain ⟨j,hj,rfl,aD,aE⟩:=hrel;have eW:=Hd aD;have HB:=Hd aE;have aN:=Vn aE;clear aD aE;by_cases aG:j<x.rn
  ·obtain ⟨b,o,y,hA,hb,hg,aB⟩:=Sl.cell (f:=rdC) (k:=6) rdC_len (HS.out.after (Uc HB.out) (Nat.le_of_succ_le aN)) aG;have HG:=Hd hg;have HMT:Hid (Ub Xm ((x.rs.map rdT).take (j+1))=Ub Xm ((x.rs.map rdT).take j)++Xm (rdT y)):=Hd (by rw [Jr rdT HG.out,Vb,Va]);have iQ:=Hd hA;rw [hA];have c0:=aB 0 _ rfl;have c1:=aB 1 _ rfl;have c2:=aB 2 _ rfl;have c3:=aB 3 _ rfl;have c4:=aB 4 _ rfl;have c5:=aB 5 _ rfl;simp only [Nat.add_zero] at c0;clear hg aB hb hA;have iM:Hid (∀ W:Wd,Calls prog 46 #[.string y.key] W fun e w'=>e = .returned (.agg #[.string y.key,.string y.key,.bool false])∧Below W.heap.size W w'):=Hd fun W=>point_any y.key W
   have j4:Hid (∀ W:Wd,Calls prog 45 #[.string y.key] W fun e w'=>e = .returned (.agg #[.string y.key,.string ⟨#[]⟩,.bool true])∧Below W.heap.size W w'):=Hd fun W=>from_any y.key W
   obtain ⟨K1,hK⟩:∃ K1:Int,y.kind=K1:=⟨_,rfl⟩
   rw [hK] at c0;by_cases hk:K1=0
   ·have gM:Hid (rdT y=⟨y.id,⟨y.key,y.key,false⟩⟩):=Hd (by unfold rdT;rw [hK,if_pos hk];rfl);have d0:(K1 == 0)=true:=by simpa using hk
    clear hk hK;go_wp2_with fail;refine (iM.out _).mono ?_;rintro e w3 ⟨rfl,b7⟩;have kA3:=((Blk.new wr 49 #[.int .i64 K1,.int .i64 y.id,.string y.key,.string y.ak,.string y.ar,.int .i64 y.code]).alloc (.cells #[.string y.key,.string y.ak,.bool false] 92)).below b7 (by simp;omega);have kR:=(U3 (wr.alloc (.cells #[.int .i64 K1,.int .i64 y.id,.string y.key,.string y.ak,.string y.ar,.int .i64 y.code] 49)) 92 #[.string y.key,.string y.ak,.bool false] (wr.heap.size+1) (by simp)).below b7 (by simp);have a3:=kA3.cell 1;have a5:=kA3.cell 5;have r0:=kR.cell 0;have r1:=kR.cell 1;have r2:=kR.cell 2;have f0:=kR.free 0;have f1:=kR.free 1;have f2:=kR.free 2;simp at a3 a5 r0 r1 r2;have l2:=kR.lt
    have B3:=Hd (U0 (((Bf wr.heap.size wr).alloc (Le _) (.cells #[.int .i64 K1,.int .i64 y.id,.string y.key,.string y.ak,.string y.ar,.int .i64 y.code] 49)).alloc (Vq _ _) (.cells #[.string y.key,.string y.ak,.bool false] 92)) b7 (by simp;omega));have B9:=Hd (((B3.out.setCell (p:=⟨wr.heap.size+1,0,none⟩) (Nat.le_succ _) (.string y.key)).setCell (p:=⟨wr.heap.size+1,1,none⟩) (Nat.le_succ _) (.string y.key)).setCell (p:=⟨wr.heap.size+1,2,none⟩) (Nat.le_succ _) (.bool false));clear kA3 kR b7;go_wp2_with (at_builtin;go_must (refine U5 _ rfl _ _ 62 rfl (w.heap.size+1) 94 i0 _ 4 48 Tryz.underlying62 aU aW aK aR rfl (by decide) _ j _ rfl ((Up eW.out B9.out).alloc _) _ _ 1 1 [.int .i64 y.id,.string y.key,.string y.key,.bool false] rfl (Zm _ _ [.int .i64 y.id,.string y.key,.string y.key,.bool false] 94 1 4 rfl ?c5) ?c1 ?c2 ?c3 ?c4 ?_))
    case c5=>simp
    case c1=>intro u hu;simp at hu;rcases hu with rfl|rfl|rfl|rfl<;>rfl
    case c2=>simp only [maxLen];omega
    case c3=>omega
    case c4=>simp;omega
    intro v4 w4 cO dS _;have B4:=Hd (((HB.out.trans (B9.out.mono aN)).alloc (Lx aN B9.out.size) _).grown dS (Lx (Lx aN B9.out.size) (Vq _ _)) (X6 eW.out (Le _)));have cN:Hid (w4.ownsRow (w.heap.size+1) 94 4 v4 (j+1) (Ub Xm ((x.rs.map rdT).take (j+1)))):=Hd (by rw [HMT.out,gM.out];exact cO);clear cO dS;go_wp2;go_roundw
    case rel=>exact ⟨j+1,by omega,by go_num,cN.out,by have h:=B4.out;rw [iQ.out] at h;exact h⟩
    case measure=>simp [intOf];omega
   ·have d0:(K1 == 0)=false:=by simpa using hk
    by_cases hc:y.code=0
    ·have gM:Hid (rdT y=⟨y.id,⟨y.key,y.ak,false⟩⟩):=Hd (by unfold rdT;rw [hK,if_neg hk,if_neg (by simpa using hc)]);have d1:(y.code == 0)=true:=by simpa using hc
     have d2:(y.code != 0)=false:=by simpa using hc
     have B9:=Hd (((Bf wr.heap.size wr).alloc (Le _) (.cells #[.int .i64 K1,.int .i64 y.id,.string y.key,.string y.ak,.string y.ar,.int .i64 y.code] 49)).alloc (Vq _ _) (.cells #[.string y.key,.string y.ak,.bool false] 92));clear hk hK hc;go_wp2_with (at_builtin;go_must (refine U5 _ rfl _ _ 62 rfl (w.heap.size+1) 94 i0 _ 4 48 Tryz.underlying62 aU aW aK aR rfl (by decide) _ j _ rfl ((Up eW.out B9.out).alloc _) _ _ 1 1 [.int .i64 y.id,.string y.key,.string y.ak,.bool false] rfl (Zm _ _ [.int .i64 y.id,.string y.key,.string y.ak,.bool false] 94 1 4 rfl ?c5) ?c1 ?c2 ?c3 ?c4 ?_))
     case c5=>simp
     case c1=>intro u hu;simp at hu;rcases hu with rfl|rfl|rfl|rfl<;>rfl
     case c2=>simp only [maxLen];omega
     case c3=>omega
     case c4=>simp;omega
     intro v4 w4 cO dS _;have B4:=Hd (((HB.out.trans (B9.out.mono aN)).alloc (Lx aN B9.out.size) _).grown dS (Lx (Lx aN B9.out.size) (Vq _ _)) (X6 eW.out (Le _)));have cN:Hid (w4.ownsRow (w.heap.size+1) 94 4 v4 (j+1) (Ub Xm ((x.rs.map rdT).take (j+1)))):=Hd (by rw [HMT.out,gM.out];exact cO);clear cO dS;go_wp2;go_roundw
     case rel=>exact ⟨j+1,by omega,by go_num,cN.out,by have h:=B4.out;rw [iQ.out] at h;exact h⟩
     case measure=>simp [intOf];omega
    ·have gM:Hid (rdT y=⟨y.id,⟨y.key,⟨#[]⟩,true⟩⟩):=Hd (by unfold rdT;rw [hK,if_neg hk,if_pos (by simpa using hc)];rfl);have d1:(y.code == 0)=false:=by simpa using hc
     have d2:(y.code != 0)=true:=by simpa using hc
     clear hk hK hc;go_wp2_with fail;refine (j4.out _).mono ?_;rintro e w3 ⟨rfl,b7⟩;have kA3:=((Blk.new wr 49 #[.int .i64 K1,.int .i64 y.id,.string y.key,.string y.ak,.string y.ar,.int .i64 y.code]).alloc (.cells #[.string y.key,.string y.ak,.bool false] 92)).below b7 (by simp;omega);have kR:=(U3 (wr.alloc (.cells #[.int .i64 K1,.int .i64 y.id,.string y.key,.string y.ak,.string y.ar,.int .i64 y.code] 49)) 92 #[.string y.key,.string y.ak,.bool false] (wr.heap.size+1) (by simp)).below b7 (by simp);have a3:=kA3.cell 1;have a5:=kA3.cell 5;have r0:=kR.cell 0;have r1:=kR.cell 1;have r2:=kR.cell 2;have f0:=kR.free 0;have f1:=kR.free 1;have f2:=kR.free 2;simp at a3 a5 r0 r1 r2;have l2:=kR.lt
     have B3:=Hd (U0 (((Bf wr.heap.size wr).alloc (Le _) (.cells #[.int .i64 K1,.int .i64 y.id,.string y.key,.string y.ak,.string y.ar,.int .i64 y.code] 49)).alloc (Vq _ _) (.cells #[.string y.key,.string y.ak,.bool false] 92)) b7 (by simp;omega));have B9:=Hd (((B3.out.setCell (p:=⟨wr.heap.size+1,0,none⟩) (Nat.le_succ _) (.string y.key)).setCell (p:=⟨wr.heap.size+1,1,none⟩) (Nat.le_succ _) (.string ⟨#[]⟩)).setCell (p:=⟨wr.heap.size+1,2,none⟩) (Nat.le_succ _) (.bool true));clear kA3 kR b7;go_wp2_with (at_builtin;go_must (refine U5 _ rfl _ _ 62 rfl (w.heap.size+1) 94 i0 _ 4 48 Tryz.underlying62 aU aW aK aR rfl (by decide) _ j _ rfl ((Up eW.out B9.out).alloc _) _ _ 1 1 [.int .i64 y.id,.string y.key,.string ⟨#[]⟩,.bool true] rfl (Zm _ _ [.int .i64 y.id,.string y.key,.string ⟨#[]⟩,.bool true] 94 1 4 rfl ?c5) ?c1 ?c2 ?c3 ?c4 ?_))
     case c5=>simp
     case c1=>intro u hu;simp at hu;rcases hu with rfl|rfl|rfl|rfl<;>rfl
     case c2=>simp only [maxLen];omega
     case c3=>omega
     case c4=>simp;omega
     intro v4 w4 cO dS _;have B4:=Hd (((HB.out.trans (B9.out.mono aN)).alloc (Lx aN B9.out.size) _).grown dS (Lx (Lx aN B9.out.size) (Vq _ _)) (X6 eW.out (Le _)));have cN:Hid (w4.ownsRow (w.heap.size+1) 94 4 v4 (j+1) (Ub Xm ((x.rs.map rdT).take (j+1)))):=Hd (by rw [HMT.out,gM.out];exact cO);clear cO dS;go_wp2;go_roundw
     case rel=>exact ⟨j+1,by omega,by go_num,cN.out,by have h:=B4.out;rw [iQ.out] at h;exact h⟩
     case measure=>simp [intOf];omega
  ·have iN:x.rn=j:=by omega
   have kS:(x.rs.map rdT).take j=x.rs.map rdT:=List.take_of_length_le (by rw [List.length_map,HL.out];omega);rw [kS] at eW;obtain ⟨A5,c5,hv5,_,_⟩:=Ue eW.out;subst hv5;have cG:=Hd (Sl.of_own (f:=Xm) (k:=4) tchC_len (by decide) eW.out);have HJN:=Hd iN;clear kS iN;go_wp2;go_ret;exact ⟨A5,c5,by rw [HJN.out];rfl,by rw [HJN.out];exact cG.out,Uc HB.out⟩
theorem tin_index (cg:Nat) (p:Tch→Bool) (A:Option Addr) (n c:Nat) (l:List Tch) (w:Wd) (hs:Sl Xm 4 w w.heap.size A n c l) (hn:n≤9223372036854775807)
  (hC:∀ x∈l,∀ W:Wd,Below w.heap.size w W→Calls prog 43 #[.agg #[.int .i64 x.id,.string x.r.lo,.string x.r.hi,.bool x.r.en],.pointer (some ⟨cg,0,none⟩)] W fun e w'=>e = .returned (.bool (p x))∧Below W.heap.size W w'):
  Calls prog 65 #[.slice A n c,.func (.func 43) #[] #[.pointer (some ⟨cg,0,none⟩)]] w fun e w'=>e = .returned (.int .i64 (if l.findIdx p<n then (l.findIdx p:Int) else -1))∧Below w.heap.size w w':=by
 have HS:=Hd hs;have HL:=Hd hs.len;have HC:=Hd hC;clear hs hC;obtain ⟨R,hR⟩:∃ R:Int,(if l.findIdx p<n then (l.findIdx p:Int) else -1)=R:=⟨_,rfl⟩
 rw [hR];have HR:=Hd hR;clear hR;go_enter Tryz.func65,Tryz.ntmps65;go_wp2;go_loopw [8] (fun i wr => ∃ j:Nat,j≤n∧i = .int .i64 j∧(∀ t,t<j→∀ e,l[t]? =some e→p e=false)∧Below w.heap.size w wr) (fun i _=>n-(intOf i).toNat)
 case atStart=>exact ⟨0,Z0 _,rfl,fun t h=>absurd h (by omega),Bf _ _⟩
 case round=>
  obtain ⟨j,hj,rfl,hall,aE⟩:=hrel;have HA:=Hd hall;have aN:=aE.size;clear hall;by_cases aG:j<n
  ·obtain ⟨b,o,x,rfl,hb,hg,aB⟩:=Sl.cell (f:=Xm) (k:=4) (fun _=>rfl) (HS.out.below aE) aG;have c0:=aB 0 _ rfl;have c1:=aB 1 _ rfl;have c2:=aB 2 _ rfl;have c3:=aB 3 _ rfl;simp only [Nat.add_zero] at c0;have bN:=Hd (HC.out x (List.mem_of_getElem? hg) wr aE);have HG:=Hd hg;clear hg aB;cases hl:p x with
   |true=>
    have hr:R=(j:Int):=by rw [←HR.out,Uy HA.out HG.out hl,if_pos aG]
    have aT:=Hd hr;have bD:=Hd hl;clear hr hl;go_wp2_with fail;refine bN.out.mono ?_;rintro e w1 ⟨rfl,aJ⟩;rw [bD.out];have aF:=U0 aE aJ aN;clear aJ;go_wp2;go_ret;exact ⟨by rw [aT.out];rfl,aF⟩
   |false=>
    have bD:=Hd hl;clear hl;go_wp2_with fail;refine bN.out.mono ?_;rintro e w1 ⟨rfl,aJ⟩;rw [bD.out];have aF:=U0 aE aJ aN;clear aJ;go_wp2;go_roundw
    case rel=>
     refine ⟨j+1,by omega,by go_num,fun t ht e he=>?_,aF⟩;by_cases h:t=j
     ·subst h;rw [HG.out] at he;injection he with he;subst he;exact bD.out
     ·exact HA.out t (by omega) e he
    case measure=>simp [intOf];omega
  ·have hr:R = -1:=by rw [←HR.out,Uu HL.out (fun t ht=>HA.out t (by omega)),if_neg (by omega)]
   have aT:=Hd hr;clear hr;go_wp2;go_ret;exact ⟨by rw [aT.out];rfl,aE⟩
theorem tin_any (cg:Nat) (p:Tch→Bool) (A:Option Addr) (n c:Nat) (l:List Tch) (w:Wd) (hs:Sl Xm 4 w w.heap.size A n c l) (hn:n≤9223372036854775807)
  (hC:∀ x∈l,∀ W:Wd,Below w.heap.size w W→Calls prog 43 #[.agg #[.int .i64 x.id,.string x.r.lo,.string x.r.hi,.bool x.r.en],.pointer (some ⟨cg,0,none⟩)] W fun e w'=>e = .returned (.bool (p x))∧Below W.heap.size W w'):
  Calls prog 41 #[.slice A n c,.func (.func 43) #[] #[.pointer (some ⟨cg,0,none⟩)]] w fun e w'=>e = .returned (.bool (l.any p))∧Below w.heap.size w w':=by
 have H:=Hd (tin_index cg p A n c l w hs hn hC);have ha:=Vg p l;rw [hs.len] at ha;have HA:=Hd ha;clear hs hC ha;generalize l.findIdx p=q at H HA;go_enter Tryz.func41,Tryz.ntmps41;by_cases hq:q<n
 ·rw [if_pos hq] at H;go_wp2_with (go_at_call 65;refine H.out.mono ?_;rintro e w1 ⟨rfl,hb⟩);go_ret;exact ⟨by rw [HA.out];simp [hq],hb⟩
 ·rw [if_neg hq] at H;go_wp2_with (go_at_call 65;refine H.out.mono ?_;rintro e w1 ⟨rfl,hb⟩);go_ret;exact ⟨by rw [HA.out];simp [hq],hb⟩
theorem tout_index (cg:Nat) (p:Tch→Bool) (A:Option Addr) (n c:Nat) (l:List Tch) (w:Wd) (hs:Sl Xm 4 w w.heap.size A n c l) (hn:n≤9223372036854775807)
  (hC:∀ x∈l,∀ W:Wd,Below w.heap.size w W→Calls prog 42 #[.agg #[.int .i64 x.id,.string x.r.lo,.string x.r.hi,.bool x.r.en],.pointer (some ⟨cg,0,none⟩)] W fun e w'=>e = .returned (.bool (p x))∧Below W.heap.size W w'):
  Calls prog 65 #[.slice A n c,.func (.func 42) #[] #[.pointer (some ⟨cg,0,none⟩)]] w fun e w'=>e = .returned (.int .i64 (if l.findIdx p<n then (l.findIdx p:Int) else -1))∧Below w.heap.size w w':=by
 have HS:=Hd hs;have HL:=Hd hs.len;have HC:=Hd hC;clear hs hC;obtain ⟨R,hR⟩:∃ R:Int,(if l.findIdx p<n then (l.findIdx p:Int) else -1)=R:=⟨_,rfl⟩
 rw [hR];have HR:=Hd hR;clear hR;go_enter Tryz.func65,Tryz.ntmps65;go_wp2;go_loopw [8] (fun i wr => ∃ j:Nat,j≤n∧i = .int .i64 j∧(∀ t,t<j→∀ e,l[t]? =some e→p e=false)∧Below w.heap.size w wr) (fun i _=>n-(intOf i).toNat)
 case atStart=>exact ⟨0,Z0 _,rfl,fun t h=>absurd h (by omega),Bf _ _⟩
 case round=>
  obtain ⟨j,hj,rfl,hall,aE⟩:=hrel;have HA:=Hd hall;have aN:=aE.size;clear hall;by_cases aG:j<n
  ·obtain ⟨b,o,x,rfl,hb,hg,aB⟩:=Sl.cell (f:=Xm) (k:=4) (fun _=>rfl) (HS.out.below aE) aG;have c0:=aB 0 _ rfl;have c1:=aB 1 _ rfl;have c2:=aB 2 _ rfl;have c3:=aB 3 _ rfl;simp only [Nat.add_zero] at c0;have bN:=Hd (HC.out x (List.mem_of_getElem? hg) wr aE);have HG:=Hd hg;clear hg aB;cases hl:p x with
   |true=>
    have hr:R=(j:Int):=by rw [←HR.out,Uy HA.out HG.out hl,if_pos aG]
    have aT:=Hd hr;have bD:=Hd hl;clear hr hl;go_wp2_with fail;refine bN.out.mono ?_;rintro e w1 ⟨rfl,aJ⟩;rw [bD.out];have aF:=U0 aE aJ aN;clear aJ;go_wp2;go_ret;exact ⟨by rw [aT.out];rfl,aF⟩
   |false=>
    have bD:=Hd hl;clear hl;go_wp2_with fail;refine bN.out.mono ?_;rintro e w1 ⟨rfl,aJ⟩;rw [bD.out];have aF:=U0 aE aJ aN;clear aJ;go_wp2;go_roundw
    case rel=>
     refine ⟨j+1,by omega,by go_num,fun t ht e he=>?_,aF⟩;by_cases h:t=j
     ·subst h;rw [HG.out] at he;injection he with he;subst he;exact bD.out
     ·exact HA.out t (by omega) e he
    case measure=>simp [intOf];omega
  ·have hr:R = -1:=by rw [←HR.out,Uu HL.out (fun t ht=>HA.out t (by omega)),if_neg (by omega)]
   have aT:=Hd hr;clear hr;go_wp2;go_ret;exact ⟨by rw [aT.out];rfl,aE⟩
theorem tout_any (cg:Nat) (p:Tch→Bool) (A:Option Addr) (n c:Nat) (l:List Tch) (w:Wd) (hs:Sl Xm 4 w w.heap.size A n c l) (hn:n≤9223372036854775807)
  (hC:∀ x∈l,∀ W:Wd,Below w.heap.size w W→Calls prog 42 #[.agg #[.int .i64 x.id,.string x.r.lo,.string x.r.hi,.bool x.r.en],.pointer (some ⟨cg,0,none⟩)] W fun e w'=>e = .returned (.bool (p x))∧Below W.heap.size W w'):
  Calls prog 41 #[.slice A n c,.func (.func 42) #[] #[.pointer (some ⟨cg,0,none⟩)]] w fun e w'=>e = .returned (.bool (l.any p))∧Below w.heap.size w w':=by
 have H:=Hd (tout_index cg p A n c l w hs hn hC);have ha:=Vg p l;rw [hs.len] at ha;have HA:=Hd ha;clear hs hC ha;generalize l.findIdx p=q at H HA;go_enter Tryz.func41,Tryz.ntmps41;by_cases hq:q<n
 ·rw [if_pos hq] at H;go_wp2_with (go_at_call 65;refine H.out.mono ?_;rintro e w1 ⟨rfl,hb⟩);go_ret;exact ⟨by rw [HA.out];simp [hq],hb⟩
 ·rw [if_neg hq] at H;go_wp2_with (go_at_call 65;refine H.out.mono ?_;rintro e w1 ⟨rfl,hb⟩);go_ret;exact ⟨by rw [HA.out];simp [hq],hb⟩
def tmB (x y:Tch):Bool:=decide (x.id=y.id)&&V0 x.r y.r
def XF (x:Tch) (g:Nat) (w:Wd):Prop:=w.cell? ⟨g,0,none⟩=some (.int .i64 x.id)∧w.cell? ⟨g,1,none⟩=some (.string x.r.lo)∧w.cell? ⟨g,2,none⟩=some (.string x.r.hi)∧w.cell? ⟨g,3,none⟩=some (.bool x.r.en)
theorem m11_any (x y:Tch) (g:Nat) (w:Wd) (hx:XF x g w):
  Calls prog 43 #[.agg #[.int .i64 y.id,.string y.r.lo,.string y.r.hi,.bool y.r.en],.pointer (some ⟨g,0,none⟩)] w fun e w'=>e = .returned (.bool (tmB x y))∧Below w.heap.size w w':=by
 obtain ⟨x0,x1,x2,x3⟩:=hx;have lt:=block_lt_of_cell x0;simp only at lt;obtain ⟨xi,xl,xh,xe⟩:=x;obtain ⟨yi,yl,yh,ye⟩:=y;unfold tmB;simp only at x0 x1 x2 x3 ⊢;have B0:=Hd (Xg w #[.int .i64 yi,.string yl,.string yh,.bool ye] 94);by_cases hi:xi=yi
 ·rw [decide_eq_true hi,Bool.true_and];have d0:(xi == yi)=true:=by simpa using hi
  have HO:Hid (∀ W:Wd,Calls prog 44 #[.agg #[.string xl,.string xh,.bool xe],.agg #[.string yl,.string yh,.bool ye]] W fun e w'=>e = .returned (.bool (V0 ⟨xl,xh,xe⟩ ⟨yl,yh,ye⟩))∧Below W.heap.size W w'):=Hd fun W=>overlap_any ⟨xl,xh,xe⟩ ⟨yl,yh,ye⟩ W
  generalize V0 ⟨xl,xh,xe⟩ ⟨yl,yh,ye⟩=R at HO ⊢;subst hi;clear d0;go_enter Tryz.func43,Tryz.ntmps43;go_wp2_with (go_at_call 44;refine (HO.out _).mono ?_;rintro e w2 ⟨rfl,aF⟩;have X2:=Hd (U0 (Uc B0.out) aF (Nat.le_of_succ_le (Vn B0.out)));clear aF);go_ret;exact ⟨rfl,X2.out⟩
 ·rw [decide_eq_false hi,Bool.false_and];have d0:(xi == yi)=false:=by simpa using hi
  clear hi;go_enter Tryz.func43,Tryz.ntmps43;go_wp2;go_ret;exact ⟨rfl,Uc B0.out⟩
theorem m1_any (x:Tch) (A:Option Addr) (n c:Nat) (l:List Tch) (g:Nat) (w:Wd) (hg:w.cell? ⟨g,0,none⟩=some (.slice A n c)) (hs:Sl Xm 4 w w.heap.size A n c l) (hn:n≤1000):
  Calls prog 42 #[.agg #[.int .i64 x.id,.string x.r.lo,.string x.r.hi,.bool x.r.en],.pointer (some ⟨g,0,none⟩)] w fun e w'=>e = .returned (.bool (l.any fun y=>tmB x y))∧Below w.heap.size w w':=by
 have lt:=block_lt_of_cell hg;simp only at lt;have B0:=Hd (Xg w #[.int .i64 x.id,.string x.r.lo,.string x.r.hi,.bool x.r.en] 94);have kX:=Blk.new w 94 #[.int .i64 x.id,.string x.r.lo,.string x.r.hi,.bool x.r.en];have HA:=Hd (tin_any w.heap.size (fun y=>tmB x y) A n c l (w.alloc (.cells #[.int .i64 x.id,.string x.r.lo,.string x.r.hi,.bool x.r.en] 94)) (hs.after (Uc B0.out) (Nat.le_of_succ_le (Vn B0.out))) (by omega) (fun y _ W hb=>m11_any x y w.heap.size W ⟨(kX.below hb kX.lt).cell 0,(kX.below hb kX.lt).cell 1,(kX.below hb kX.lt).cell 2,(kX.below hb kX.lt).cell 3⟩));generalize (l.any fun y=>tmB x y)=R at HA ⊢;clear kX hs;go_enter Tryz.func42,Tryz.ntmps42;go_wp2_with (go_at_call 41;refine HA.out.mono ?_;rintro e w2 ⟨rfl,aF⟩;have X2:=Hd (U0 (Uc B0.out) aF (Nat.le_of_succ_le (Vn B0.out)));clear aF);go_ret;exact ⟨rfl,X2.out⟩
def Jq (a b:List Tch):Bool:=a.any fun x=>b.any fun y=>tmB x y
theorem Fv (A A':Option Addr) (n c n' c':Nat) (a b:List Tch) (w:Wd) (ha:Sl Xm 4 w w.heap.size A n c a) (hb:Sl Xm 4 w w.heap.size A' n' c' b) (hn:n≤1000) (hn':n'≤1000):
  Calls prog 17 #[.slice A n c,.slice A' n' c'] w fun e w'=>e = .returned (.bool (Jq a b))∧Below w.heap.size w w':=by
 have B0:=Hd (Xg w #[.slice A' n' c'] 62);have kB:=Blk.new w 62 #[.slice A' n' c'];have HA:=Hd (tout_any w.heap.size (fun x=>b.any fun y=>tmB x y) A n c a (w.alloc (.cells #[.slice A' n' c'] 62)) (ha.after (Uc B0.out) (Nat.le_of_succ_le (Vn B0.out))) (by omega) (fun x _ W hbw=>m1_any x A' n' c' b w.heap.size W ((kB.below hbw kB.lt).cell 0) (hb.after ((Uc B0.out).trans (hbw.mono (Nat.le_of_succ_le (Vn B0.out)))) (Lx (Nat.le_of_succ_le (Vn B0.out)) hbw.size)) hn'));unfold Jq;generalize (a.any fun x=>b.any fun y=>tmB x y)=R at HA ⊢;clear kB ha hb;go_enter Tryz.func17,Tryz.ntmps17;go_wp2_with (go_at_call 41;refine HA.out.mono ?_;rintro e w2 ⟨rfl,aF⟩;have X2:=Hd (U0 (Uc B0.out) aF (Nat.le_of_succ_le (Vn B0.out)));clear aF);go_ret;exact ⟨rfl,X2.out⟩
section
open Go.Sort Go.Proofs
instance:Inhabited Com:=⟨⟨0,0,none,0,0,none,0,0,[],[]⟩⟩
section
variable {α:Type} [Inhabited α] {enc:α→List Value} {k:Nat}
theorem flatK_list (hk:∀ x,(enc x).length=k) (l:List α):(flatK enc k l.toArray).toList=Ub enc l:=by
 apply List.ext_getElem?;intro t;by_cases ht:t<l.length*k
 ·have k0:0<k:=by
   rcases Nat.eq_zero_or_pos k with h|h;· subst h;simp at ht
   ·exact h
  have hq:t / k<l.length:=(Nat.div_lt_iff_lt_mul k0).2 ht;have hr:t % k<k:=Nat.mod_lt _ k0;have h1:=Xn hk l (t / k) _ (List.getElem?_eq_getElem hq) (t % k) hr;rw [show t / k*k+t % k=t from by rw [Nat.mul_comm];exact Nat.div_add_mod t k] at h1;rw [h1,Array.getElem?_toList];have hs:(flatK enc k l.toArray).size=l.length*k:=by simp
  have hg:=get_flatK enc k l.toArray t (by simpa using ht);rw [getElem!_pos _ t (by rw [hs];exact ht)] at hg;rw [Array.getElem?_eq_getElem (by rw [hs];exact ht),hg];have e1:l.toArray[t / k]! =l[t / k]:=by rw [getElem!_pos l.toArray (t / k) (by simpa using hq)];simp
  rw [e1,getElem!_pos (enc l[t / k]) (t % k) (by rw [hk];exact hr),List.getElem?_eq_getElem (by rw [hk];exact hr)]
 ·rw [List.getElem?_eq_none (by rw [Array.length_toList];simp;omega),List.getElem?_eq_none (by rw [Vi hk];omega)]
theorem holdsK_of_own (hk:∀ x,(enc x).length=k) {w:Wd} {base g n cap:Nat} {e:TypeId} {l:List α} (h:w.ownsRow base e k (.slice (some ⟨g,0,none⟩) n cap) n (Ub enc l)):HoldsK enc k w g 0 l.toArray:=by
 have aB:=h.cells (g:=g) rfl
 have hz:∃ cur,w.heap[g]? =some (.cells cur e (0,0)):=by
  rcases h.2 with ⟨h0,_⟩|⟨g',cap',cur,e0,_,hg,_⟩
  ·cases h0
  ·injection e0 with e1 _ _
   injection e1 with e1
   injection e1 with e1
   subst e1;exact ⟨cur,hg⟩
 obtain ⟨cur,hg⟩:=hz;intro j hj;have hj':j<(Ub enc l).length:=by rw [Vi hk];simpa using hj
 refine ⟨?_,by simp [World.frozen?,hg]⟩;have:=aB j _ (List.getElem?_eq_getElem hj');rw [show ((⟨g,0,none⟩:Addr).add j)=⟨g,0+j,none⟩ from by unfold Addr.add;split<;>simp_all] at this;rw [this];congr 1;rw [getElem!_pos _ j hj];have e2:=congrArg (·[j]?) (flatK_list hk l);simp only [Array.getElem?_toList] at e2;rw [Array.getElem?_eq_getElem hj,List.getElem?_eq_getElem hj'] at e2;exact (Option.some.inj e2).symm
theorem own_sortK (hk:∀ x,(enc x).length=k) {w:Wd} {base g n cap m:Nat} {e:TypeId} {l s:List α} {os:Array Obj} (h:w.ownsRow base e k (.slice (some ⟨g,0,none⟩) n cap) n (Ub enc l)) (hs:s.length=n):
  (sortWorldK enc k w g 0 m s.toArray os).ownsRow base e k (.slice (some ⟨g,0,none⟩) n cap) n (Ub enc s):=by
 rcases h.2 with ⟨e0,_⟩|⟨g',cap',cur,e0,hb,hg,hn,hm,aN,ht⟩
 ·cases e0
 ·injection e0 with e1 _ e3
  injection e1 with e1
  injection e1 with e1
  subst e1;subst e3
  have aG:g<w.heap.size:=by
   rcases Nat.lt_or_ge g w.heap.size with h'|h'
   ·exact h'
   ·rw [Array.getElem?_eq_none h'] at hg;cases hg
  have cL:n*k≤cur.size:=by rw [aN];exact Nat.mul_le_mul_right _ hn
  refine ⟨by rw [Vi hk,hs],.inr ⟨g,cap,putCells id 0 (flatK enc k s.toArray) cur,rfl,hb,?_,hn,hm,by simpa [putCells] using aN,?_⟩⟩
  ·simp only [sortWorldK,grow,putRowK,putRow,mapBlock,Sort.ahead];rw [Array.getElem?_append_left (by simpa using aG)];simp [Array.getElem?_modify,hg,onCells]
  ·apply List.ext_getElem?;intro j;rw [List.getElem?_take,←flatK_list hk s,Array.getElem?_toList,Array.getElem?_toList];by_cases hj:j<n*k
   ·have hjc:j<cur.size:=by omega
    have hjf:j<(flatK enc k s.toArray).size:=by simp [hs];exact hj
    simp only [if_pos hj,putCells,Array.getElem?_mapIdx,Array.getElem?_eq_getElem hjc,Option.map_some];rw [if_pos ⟨Z0 _,by rw [Nat.zero_add];exact hjf⟩,Array.getElem?_eq_getElem hjf];simp only [Nat.sub_zero,id];rw [getElem!_pos _ j hjf]
   ·rw [if_neg hj,Array.getElem?_eq_none (by simp [hs];omega)]
theorem below_sortK {w:Wd} {B g m:Nat} {d:Array α} {os:Array Obj} (hB:B≤w.heap.size) (hg:B≤g):Below B w (sortWorldK enc k w g 0 m d os):=by
 refine ⟨rfl,rfl,rfl,?_,fun i hi=>?_⟩
 ·simp [sortWorldK,grow,putRowK,putRow,mapBlock,Sort.ahead]
 ·simp only [sortWorldK,grow,putRowK,putRow,mapBlock,Sort.ahead];rw [Array.getElem?_append_left (by simp;omega),Array.getElem?_modify,if_neg (by omega)]
end
theorem infoCom:(prog.info? 34).map (fun i=>(i.zero,i.size,i.bytes))=some (some (.agg #[.int .i64 0,.int .i64 0,.slice none 0 0,.slice none 0 0]),4,64):=by kernel_rfl
theorem clone_any (A:Option Addr) (n c:Nat) (l:List Com) (w:Wd) (hs:Sl U7 4 w w.heap.size A n c l) (hn:n≤1000):
  Calls prog 35 #[.slice A n c] w fun e w' => ∃ v,e = .returned v∧w'.ownsRow w.heap.size 34 4 v n (Ub U7 l)∧Below w.heap.size w w':=by
 have hl:=hs.len;have qq:∀ (w:Wd) (a:Option Addr) (n c n' c':Nat),(binOp .eql 23 (.slice a n c) (.slice none n' c')).run prog w = .ok (.bool a.isNone) w:=fun w a n c n' c'=>Lib.run_eql_slice_nil w _ _ a n c n' c' Tryz.underlying23
 cases A with
 |none=>
  have hz:n=0:=by
   rcases Nat.eq_zero_or_pos n with h|h
   ·exact h
   ·obtain ⟨b,o,e,_⟩:=hs.rd.2 h;cases e
  subst hz;have:l = []:=List.eq_nil_of_length_eq_zero hl;subst this;clear hs hl hn;go_enter Tryz.func35,Tryz.ntmps35;go_wp2;go_ret;exact ⟨_,rfl,⟨rfl,.inl ⟨rfl,rfl⟩⟩,Bf _ _⟩
 |some ad=>
  obtain ⟨i0,aU,aW,aK,aR⟩:=info_parts infoCom;have HR:=Hd (hs.rd.alloc (Le _) (.cells #[] 34));have H1:=Hd (comC_one l);have HO:=Hd (World.ownsRow_lit (e:=34) (base:=w.heap.size) (size:=4) w #[] 0 (Le _) (by decide) rfl);clear hs hl;go_enter Tryz.func35,Tryz.ntmps35;go_wp2_with (at_builtin;go_must (refine U5 _ rfl _ _ 23 rfl w.heap.size 34 i0 _ 4 64 Tryz.underlying23 aU aW aK aR rfl (by decide) _ _ _ rfl HO.out w.heap.size (some ad) n c (Ub U7 l) rfl HR.out H1.out ?c2 ?c3 ?c4 ?_))
  case c2=>simp [maxLen];omega
  case c3=>omega
  intro v' w' aD aO _;have aS:=Hd aD;have bQ:=Hd aO;clear aD aO;go_wp2;go_ret;exact ⟨v',rfl,by simpa using aS.out,((Bf _ _).alloc (Le _) _).grown bQ.out (by simp) (by intro k hk;simp [Value.ownBlock] at hk;omega)⟩
end
section
open Go.Sort Go.Proofs
theorem comC_one':∀ (x:Com),∀ v∈U7 x,v.oneCell'=true:=by
 intro x v hv;simp [U7] at hv;rcases hv with rfl|rfl|rfl|rfl<;>rfl
theorem cmp_lays (blk off size:Nat) (w:Wd):CmpLays prog 37 #[] U7 4 cfC blk off size w:=fun _ _ _ _ x y=>ord2_any x y _
theorem ins_any (g n cap:Nat) (l:List Com) (w:Wd) (base:Nat) (h:w.ownsRow base 34 4 (.slice (some ⟨g,0,none⟩) n cap) n (Ub U7 l)) (hl:l.length=n) (hn:n≤1000):
  Calls prog 79 #[.slice (some ⟨g,0,none⟩) n cap,.int .i64 0,.int .i64 n,.func (.func 37) #[] #[]] w fun e w'=>e = .returned (.tuple #[])∧w'.ownsRow base 34 4 (.slice (some ⟨g,0,none⟩) n cap) n (Ub U7 (Xu I2 [] l))∧(base≤w.heap.size→Below base w w'):=by
 subst hl;have eg:∀ args w,(callFunc 37 args).run prog w = .ok (.enter 37 args) w:=enters_of Tryz.func37 (by kernel_rfl) rfl
 have hb:base≤g∧g<w.heap.size:=h.lt g rfl;have hH:=holdsK_of_own (enc:=U7) (k:=4) V2 h;have hc:=AnyQ.insertionSortCmpFunc (P:=prog) Tryz.insort 4 Tryz.isAgg34 Tryz.sizeOf34 U7 V2 comC_one' cfC 37 #[] g 0 cap 0 l.length l.toArray w eg (cmp_lays _ _ _ _) hH hb.2 (Z0 _) (by simp) (by simp;omega);change Calls prog 79 _ _ _ at hc;simp only [List.size_toArray] at hc;refine hc.mono ?_;rintro e w' ⟨rfl,m,os,rfl⟩;rw [ltOf_cfC];have hs:=K8 (lt:=I2) l;have e1:Go.Sort.insertionSort I2 l.toArray 0 l.length=(Xu I2 [] l).toArray:=by rw [←hs]
 rw [e1];exact ⟨rfl,own_sortK (enc:=U7) (k:=4) V2 h (by rw [Zz];simp),fun hB=>below_sortK hB hb.1⟩
theorem ins_none (p:Option Addr) (cap:Nat) (w:Wd):
  Calls prog 79 #[.slice p 0 cap,.int .i64 0,.int .i64 0,.func (.func 37) #[] #[]] w fun e w'=>e = .returned (.tuple #[])∧w=w':=
 (AnyF.insertionSortCmpFunc_none (P:=prog) Tryz.insort p cap _ w).mono fun _ _ ⟨he,hw⟩=>⟨he,hw.symm⟩
theorem stable_any (v:Value) (n:Nat) (l:List Com) (w:Wd) (base:Nat) (h:w.ownsRow base 34 4 v n (Ub U7 l)) (hl:l.length=n) (hn:n≤12) (hB:base≤w.heap.size):
  Calls prog 63 #[v,.int .i64 n,.func (.func 37) #[] #[]] w fun e w'=>e = .returned (.tuple #[])∧w'.ownsRow base 34 4 v n (Ub U7 (Xu I2 [] l))∧Below base w w':=by
 have d1:decide ((20:Int)≤(n:Int))=false:=by simp;omega
 have d2:decide ((20:Int)<(n:Int))=false:=by simp;omega
 have d3:decide (20≤n)=false:=by simp;omega
 have d4:decide (20<n)=false:=by simp;omega
 rcases h.2 with ⟨rfl,hz⟩|⟨g,cap,cur,rfl,hg⟩
 ·subst hz;have:l = []:=List.eq_nil_of_length_eq_zero hl;subst this;have HH:=Hd h;have bZ:=Hd hB;clear hl h hn hB;go_enter Tryz.func63,Tryz.ntmps63;go_wp2;refine Lu 1 ?_;rw [Rs];go_wp2_with (go_at_call 79;refine (ins_none _ _ _).mono ?_;rintro e w' ⟨rfl,rfl⟩);refine Lu 1 ?_;rw [Rs];go_wp2
  go_end0
  exact ⟨rfl,HH.out,Bf _ _⟩
 ·have HI:=Hd (ins_any g n cap l w base h hl (by omega));have bZ:=Hd hB;clear hg h hl hn hB;go_enter Tryz.func63,Tryz.ntmps63;go_wp2;refine Lu 1 ?_;rw [Rs];go_wp2_with (go_at_call 79;refine HI.out.mono ?_;rintro e w' ⟨rfl,ho,hb⟩;have HO:=Hd ho;have HB:=Hd (hb bZ.out);clear ho hb);refine Lu 1 ?_;rw [Rs];go_wp2
  go_end0
  exact ⟨rfl,HO.out,HB.out⟩
theorem sort_any (v:Value) (n:Nat) (l:List Com) (w:Wd) (base:Nat) (h:w.ownsRow base 34 4 v n (Ub U7 l)) (hl:l.length=n) (hn:n≤12) (hB:base≤w.heap.size):
  Calls prog 36 #[v,.func (.func 37) #[] #[]] w fun e w'=>e = .returned (.tuple #[])∧w'.ownsRow base 34 4 v n (Ub U7 (Xu I2 [] l))∧Below base w w':=by
 have HS:=Hd (stable_any v n l w base h hl hn hB);obtain ⟨A,c,rfl,h1,h2⟩:=Ue h;clear h hl hn hB h1 h2;go_enter Tryz.func36,Tryz.ntmps36;go_wp2_with (go_at_call 63;refine HS.out.mono ?_;rintro e w' ⟨rfl,ho,hb⟩;have HO:=Hd ho;have HB:=Hd hb;clear ho hb)
 go_end0
 exact ⟨rfl,HO.out,HB.out⟩
end
theorem o1_any (x:Com) (w:Wd) (fI:ComOk w w.heap.size x) (hv:VolsOk x):
  Calls prog 33 #[.agg #[.int .i64 x.unit,.int .i64 x.num,.slice x.rA x.rn x.rc,.slice x.cA x.cn x.cc]] w fun e w'=>e = .returned (.bool (!Jl x))∧Below w.heap.size w w':=by
 have h:=valid_any x (w.alloc (.cells #[.int .i64 x.unit,.int .i64 x.num,.slice x.rA x.rn x.rc,.slice x.cA x.cn x.cc] 34)) (fI.after ((Bf _ _).alloc (Le _) _) (by simp)) hv;unfold comV at h;generalize Jl x=R at h ⊢;have H:=Hd h;clear h fI hv;generalize x.unit=a1 at H ⊢;generalize x.num=a2 at H ⊢;generalize x.rA=a3 at H ⊢;generalize x.rn=a4 at H ⊢;generalize x.rc=a5 at H ⊢;generalize x.cA=a6 at H ⊢;generalize x.cn=a7 at H ⊢;generalize x.cc=a8 at H ⊢;go_enter Tryz.func33,Tryz.ntmps33;go_wp2_with fail;refine H.out.mono ?_;rintro e w1 ⟨rfl,aJ⟩;have X1:=Hd (Uc (show Below (w.heap.size+1) (w.alloc (.cells #[.int .i64 a1,.int .i64 a2,.slice a3 a4 a5,.slice a6 a7 a8] 34)) w1 by simpa using aJ));clear aJ;go_wp2;go_ret;exact ⟨rfl,X1.out⟩
def chkL (n:Int):List Com→Bool
 | []=>true
 |c::r=>if c.num≤n then false else chkL (if 0<c.cn then c.num+c.cn-1 else n) r
def Yq (l:List Com):Option (List Com):=if (l.any fun x => !Jl x)=true then none else if chkL 0 (Xu I2 [] l)=true then some (Xu I2 [] l) else none
def OrdNo (w:Wd) (e:Ending) (w':Wd):Prop:=e = .returned (.tuple #[.slice none 0 0,.bool false])∧Below w.heap.size w w'
def OrdYes (w:Wd) (s:List Com) (e:Ending) (w':Wd):Prop:=∃ A c,e = .returned (.tuple #[.slice A s.length c,.bool true])∧Cs w' w'.heap.size A s.length c s∧Below w.heap.size w w'
def OrdP (r:Option (List Com)) (w:Wd) (e:Ending) (w':Wd):Prop:=(r=none∧OrdNo w e w')∨(∃ s,r=some s∧OrdYes w s e w')
theorem comB_num {x:Com} (h:Jl x=true):1≤x.num∧x.num≤1099511627776∧x.cn≤300:=by
 unfold Jl at h;simp only [Bool.and_eq_true,decide_eq_true_eq] at h;have:=Fs h.1.1.1.2;exact ⟨this.1,this.2,h.1.1.1.1.2⟩
theorem Z6 (A:Option Addr) (n c:Nat) (l:List Com) (w:Wd) (hs:Cs w w.heap.size A n c l) (hv:∀ x∈l,VolsOk x) (hn:n≤12):
  Calls prog 16 #[.slice A n c] w (OrdP (Yq l) w):=by
 have hl:=hs.1.len;have HC:=Hd (units_any (fun x => !Jl x) A n c l w hs.1 (by omega) fun x hx W hb=>o1_any x W ((hs.2 x hx).after hb hb.size) (hv x hx));cases ha:(l.any fun x => !Jl x) with
 |true=>
  rw [ha] at HC;have HO:Hid (Yq l=none):=Hd (by unfold Yq;rw [if_pos ha]);clear hs hv hn hl ha;go_enter Tryz.func16,Tryz.ntmps16;go_wp2_with (go_at_call 32;refine HC.out.mono ?_;rintro e w1 ⟨rfl,aJ⟩)
  go_ret2
  exact .inl ⟨HO.out,rfl,aJ⟩
 |false=>
  rw [ha] at HC
  have hall:∀ x∈l,Jl x=true:=fun x hx=>by
   have:=List.any_eq_false.1 ha x hx;simpa using this
  obtain ⟨s,iH⟩:∃ s,Xu I2 [] l=s:=⟨_,rfl⟩
  have fO:∀ x∈s,x∈l:=fun x hx=>by
   rw [←iH,J8] at hx;rcases hx with hx|hx
   ·cases hx
   ·exact hx
  have bP:s.length=n:=by rw [←iH,Zz];simpa using hl
  obtain ⟨r,hr⟩:∃ r,Yq l=r:=⟨_,rfl⟩
  have bS:r=if chkL 0 s=true then some s else none:=by rw [←hr,←iH];unfold Yq;rw [ha];simp
  rw [hr];have HALL:=Hd hall;have iB:=Hd fO;have cG:=Hd bP;have aT:=Hd bS;have HL:=Hd hl;have HSORT:=Hd iH;have HS:=Hd hs;have hn':n≤1000:=by omega
  have HN:=Hd hn;clear hall fO bP hr bS hl iH ha hs hv hn;go_enter Tryz.func16,Tryz.ntmps16;go_wp2_with fail;refine HC.out.mono ?_;rintro e w1 ⟨rfl,aJ⟩;have fG:=Hd (clone_any A n c l w1 (HS.out.1.after aJ aJ.size) hn');have B1:=Hd aJ;clear aJ;go_wp2_with fail;refine fG.out.mono ?_;rintro e w2 ⟨v,rfl,ho,aF⟩;have HSO:=Hd (sort_any v n l w2 w1.heap.size ho HL.out HN.out aF.size);obtain ⟨A2,c2,rfl,hc1,iD⟩:=Ue ho;have B2:=Hd aF;clear ho aF hc1 iD;go_wp2_with fail;refine HSO.out.mono ?_;rintro e w3 ⟨rfl,ho,b7⟩;rw [HSORT.out] at ho;have HSL3:=Hd (Sl.of_own (f:=U7) (k:=4) V2 (by decide) ho);have B3:=Hd (U0 B1.out (B2.out.trans b7) (B1.out.size));have fY:=Hd (show Cs w3 w3.heap.size A2 n c2 s from ⟨HSL3.out,fun x hx=>(HS.out.2 x (iB.out x hx)).after B3.out B3.out.size⟩);clear ho b7;go_wp2
  go_loopw [5,16] (fun v5 i wr => ∃ (j:Nat) (nv:Int),j≤n∧i = .int .i64 j∧v5 = .int .i64 nv∧chkL 0 s=chkL nv (s.drop j)∧Below w3.heap.size w3 wr) (fun _ i _=>n-(intOf i).toNat)
  case atStart=>exact ⟨0,0,Z0 _,rfl,rfl,rfl,Bf _ _⟩
  case round=>
   obtain ⟨j,nv,hj,rfl,rfl,hchk,aE⟩:=hrel;have HCHK:=Hd hchk;have HB:=Hd aE;clear hchk aE;by_cases aG:j<n
   ·obtain ⟨b,o,x,rfl,hb,hg,aB⟩:=Sl.cell (f:=U7) (k:=4) V2 (HSL3.out.below HB.out) aG;have c0:=aB 0 _ rfl;have c1:=aB 1 _ rfl;have c2:=aB 2 _ rfl;have c3:=aB 3 _ rfl;simp only [Nat.add_zero] at c0;have hx:=HALL.out x (iB.out x (List.mem_of_getElem? hg));obtain ⟨n1,n2,n3⟩:=comB_num hx
    have hd:s.drop j=x::s.drop (j+1):=by
     have hjs:j<s.length:=by rw [cG.out];exact aG
     rw [List.drop_eq_getElem_cons hjs];congr 1;exact (List.getElem?_eq_some_iff.1 hg).2
    have cZ:chkL 0 s=if x.num≤nv then false else chkL (if 0<x.cn then x.num+x.cn-1 else nv) (s.drop (j+1)):=by rw [HCHK.out,hd];rfl
    have HLA:=Hd fun W=>last_any x W n1 n2 n3
    have bsz:=HB.out.size;unfold comV at HLA;clear hb hg aB hx n2 hd;by_cases bO:x.num≤nv
    ·rw [if_pos bO] at cZ;have cH:Hid (r=none):=Hd (by rw [aT.out,cZ];rfl);have d1:decide (x.num≤nv)=true:=by simpa using bO
     clear cZ bO n1 n3;go_wp2
     go_ret2
     exact .inl ⟨cH.out,rfl,(B3.out.trans (HB.out.mono B3.out.size)).alloc (Lx B3.out.size bsz) _⟩
    ·rw [if_neg bO] at cZ;have d1:decide (x.num≤nv)=false:=by simpa using bO
     by_cases hc:0<x.cn
     ·rw [if_pos hc] at cZ;have cH:=Hd cZ;have d2:decide (0<x.cn)=true:=by simpa using hc
      have d3:decide ((0:Int)<(x.cn:Int))=true:=by simpa using hc
      have bD:=Hd (HLA.out (wr.alloc (.cells #[.int .i64 x.num,.int .i64 x.num] 34)));clear bD;clear cZ bO hc n1 n3;go_wp2_with (go_at_call 40;refine (HLA.out _).mono ?_;rintro e w4 ⟨rfl,hb4⟩;have cD:=Hd (show Below w3.heap.size w3 w4 from U0 (HB.out.alloc bsz _) hb4 (Lx bsz (by simp)));clear hb4);go_roundw
      case rel=>exact ⟨j+1,_,by omega,by go_num,rfl,cH.out,cD.out⟩
      case measure=>simp [intOf];omega
     ·rw [if_neg hc] at cZ;have cH:=Hd cZ;have d2:decide (0<x.cn)=false:=by simpa using hc
      have d3:decide ((0:Int)<(x.cn:Int))=false:=by simp;omega
      clear cZ bO hc n1 n3;go_wp2;go_roundw
      case rel=>exact ⟨j+1,_,by omega,by go_num,rfl,cH.out,HB.out.alloc bsz _⟩
      case measure=>simp [intOf];omega
   ·have hst:chkL 0 s=true:=by rw [HCHK.out,List.drop_of_length_le (by rw [cG.out];omega)];rfl
    have cH:Hid (r=some s):=Hd (by rw [aT.out,hst];rfl);have BW:=Hd (B3.out.trans (HB.out.mono B3.out.size));clear hst;go_wp2
    go_ret2
    exact .inr ⟨s,cH.out,A2,c2,by rw [cG.out];rfl,by rw [cG.out];exact fY.out.after HB.out HB.out.size,BW.out⟩
end Go.Proofs.YtoakknkmjnebjaaGreatDoor
