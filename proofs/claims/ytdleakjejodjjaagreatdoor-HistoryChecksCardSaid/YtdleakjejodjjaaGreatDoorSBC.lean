/- Of the history laws. -/
import Derived.Test.YtdleakjejodjjaaGreatDoorSBB
import Derived.Maps.RangeWalk
import Derived.Test.YtdleakjejodjjaaGreatDoorSBA
namespace Go.Proofs.YtdleakjejodjjaaGreatDoor
open Tryz
set_option linter.defProp false
set_option linter.unusedVariables false
set_option linter.unusedSimpArgs false
set_option maxRecDepth 100000
set_option maxHeartbeats 20000000
open Go.RowKit
section
open Go.ChangeMaps
variable {seen:Array Nat} {k:Nat} {W w1:Wd} {r:Nat} {ob:Obj} {w W':Wd}
def Ei (s:Bz):Bz:=⟨(Lib.trimRightB s.data.toList 32).toArray⟩
def Yr (s:Bz):Int:=((s.data.toList.getD 0 0).toNat:Int)
noncomputable def deF (k:Int) (rec:Bz):Option En:=
 let R:=Yu k (Ei (rec.extract 1 32)) (rec.extract 32 rec.size)
 if Yj R.2.1 R.2.2=0/\I7 R.1=some rec then some R.1 else none
def PO (b:Bz) (o:Option En):Prop:=
 if b.size<32\/200<b.size then o=none
 else (Yr b=68->o=deF 0 b)/\(Yr b=71->o=deF 1 b)/\(Yr b≠68->Yr b≠71->∀ e,o=some e->2<=e.kind)
def me (o:Option En) (a:EnA):Value:=match o with
 |none=>.tuple #[.agg (enC enZ enN).toArray,.int .i64 11]
 |some e=>.tuple #[.agg (enC e a).toArray,.int .i64 0]
def mH (b:Bz) (w:Wd) (x:Ending) (w':Wd):Prop:=(∃ (o:Option En) (a:EnA),PO b o/\(∀ e,o=some e->Sm e/\0<=e.kind/\e.kind<=4/\EWn w.1.size w' e a)/\x=.returned (me o a))/\Below w.1.size w w'
def Ck {e:MapEntry} (h:e∈fm5.toList):∃ k:Nat,k<=4/\e.key=.int .i64 k/\e.val=fmV k/\e.born=k:=by
 have b:fm5.toList=[⟨.int .i64 0,fmV 0,0⟩,⟨.int .i64 1,fmV 1,1⟩,⟨.int .i64 2,fmV 2,2⟩,⟨.int .i64 3,fmV 3,3⟩,⟨.int .i64 4,fmV 4,4⟩]:=rfl;rw [b] at h;simp only [QH,QM,XP] at h;rcases h with rfl|rfl|rfl|rfl|rfl
 .exact ⟨0,Ac,rfl,rfl,rfl⟩
 .exact ⟨1,Ac,rfl,rfl,rfl⟩
 .exact ⟨2,Ac,rfl,rfl,rfl⟩
 .exact ⟨3,Ac,rfl,rfl,rfl⟩
 .exact ⟨4,Ac,rfl,rfl,rfl⟩
def vM:∀ x∈fm5.toList,x.born<5:=fun x b=>by obtain ⟨k,d,_,_,c⟩:=Ck b;omega
def Ov:(fm5.toList.map (·.born)).Nodup:=Ac
def Cl (h:(leftOf fm5 seen).size=0) (g:k<=4):seen.contains k=true:=by
 cases f:seen.contains k with
 |true=>rfl
 |false=>
  have e:(⟨.int .i64 k,fmV k,k⟩:MapEntry)∈fm5:=by
   have c:fm5=#[⟨.int .i64 0,fmV 0,0⟩,⟨.int .i64 1,fmV 1,1⟩,⟨.int .i64 2,fmV 2,2⟩,⟨.int .i64 3,fmV 3,3⟩,⟨.int .i64 4,fmV 4,4⟩]:=rfl;rw [c];have:k=0\/k=1\/k=2\/k=3\/k=4:=Oo
   rcases this with rfl|rfl|rfl|rfl|rfl<;>simp
  have b:(⟨.int .i64 k,fmV k,k⟩:MapEntry)∈leftOf fm5 seen:=Array.mem_filter.2 ⟨e,by simp only [f];rfl⟩;have d:leftOf fm5 seen=#[]:=Array.eq_empty_of_size_eq_zero h;rw [d] at b;simp at b
section
variable {P:Program} {ops:Array Oper} {rest:List Oper} {o:Oper} {a:Act} {w:Wd} {Q:Exit->Act->Wd->Prop}
def NxW (w w1:Wd):Prop:=w1=w\/w1=w.drew
def tv (u:o.guard=none) (q:Operand) (g:o.op=Op.next q false) (r l b m:Nat) (seen:Array Nat) (j:Array MapEntry) (c:Nat) (i:a.eval q=(Ag r 0))
  (y:w.1[r]? =some (.mapIter (some l) b seen m)) (t:w.1[l]? =some (.map j c)) (hold:∀ x∈j.toList,x.born<b) (p:b<=m)
  (d:(leftOf j seen).size=0->wpList P ops Q rest (a.put o.dst (.tuple #[.bool false])) w)
  (f:∀ e∈(leftOf j seen).toList,∀ w1:Wd,NxW w w1->wpList P ops Q rest (a.put o.dst (.tuple #[.bool true,e.key,e.val])) (setBlock w1 r (.mapIter (some l) b (seen.push e.born) c))):
  wpList P ops Q (o::rest) a w:=by
 refine wpList_plain u fun z h=>?_
 unfold Oper.wp;rcases run_next_at (P:=P) w o.type r l b m seen j c y t hold p with ⟨s,n⟩|⟨e,he,w1,v,n⟩
 .simp [execOp,g,i,n,Result.andThen];exact h _ _ (d s)
 .simp [execOp,g,i,n,Result.andThen];exact h _ _ (f e he w1 v)
end
def Mp (W:Wd) (r:Nat) (ob:Obj):Far [r] W (setBlock W r ob):=
 ⟨rfl,rfl,rfl,by simp [setBlock],fun i _ b=>by simp only [setBlock];rw [QD (fun e=>b (by simp [e]))]⟩
def OE (h:w1=W\/w1=W.drew):Far [r] W (setBlock w1 r ob):=by
 rcases h with rfl|rfl
 .exact Mp _ r ob
 .have h:=Mp W r ob;exact ⟨h.os,h.tape,h.output,h.size,h.block⟩
def SP (h:w1=W\/w1=W.drew) (c:r<W.1.size):(setBlock w1 r ob).1[r]? =some ob:=by
 have b:(setBlock W r ob).1[r]? =some ob:=by simp [setBlock,c]
 rcases h with rfl|rfl
 .exact b
 .exact b
structure DL (seen:Array Nat) (w W:Wd):Prop where
 mb:W.1[w.1.size+1]? =some (.map fm5 5)
 it:∃ c,5<=c/\W.1[w.1.size+2]? =some (.mapIter (some (w.1.size+1)) 5 seen c)
 rc:Blk W w.1.size 144 (enC enZ enN).toArray
 be:Below w.1.size w W
 sz:w.1.size+3<=W.1.size
def SeenOk (b:Bz) (seen:Array Nat):Prop:=(seen.contains 0=true->Yr b=68->deF 0 b=none)/\(seen.contains 1=true->Yr b=71->deF 1 b=none)
def DL.far {S:List Nat} (h:DL seen w W) (b:Far S W W') (f:∀ k∈S,w.1.size+3<=k):DL seen w W':=by
 have hz:=h.sz;have d:∀ k,k<w.1.size+3->k ∉ S:=fun k e g=>by have:=f k g;omega
 obtain ⟨c,i,j⟩:=h.it;exact ⟨(b.block _ Oo (d _ Oo)).trans h.mb,⟨c,i,(b.block _ Oo (d _ Oo)).trans j⟩,h.rc.far' b (d _ Oo),h.be.trans (b.below (fun k e=>by have:=f k e;omega) h.be.size),Lx h.sz b.size⟩
def DL.next (h:DL seen w W) (b:Below W.1.size W W'):DL seen w W':=h.far (S:=[]) (Far.of_below b) Am
def DL.step (h:DL seen w W) (hw:NxW W w1):
  DL (seen.push k) w (setBlock w1 (w.1.size+2) (.mapIter (some (w.1.size+1)) 5 (seen.push k) 5)):=by
 have hz:=h.sz;have b:Far [w.1.size+2] W (setBlock w1 (w.1.size+2) (.mapIter (some (w.1.size+1)) 5 (seen.push k) 5)):=OE hw;exact ⟨(b.block _ Oo Am).trans h.mb,⟨5,Le _,SP hw Oo⟩,h.rc.far' b Am,h.be.trans (b.below Am h.be.size),Lx h.sz b.size⟩
def DL.entry (h:DL (seen.push k) w W) (d:k<=4) (b:W.1[w.1.size+2]? =some (.mapIter (some (w.1.size+1)) 5 (seen.push k) 5)):
  (Instr.entry (Ag (w.1.size+2) 0)).run prog W=.ok (.tuple #[.int .i64 k,fmV k]) W:=
 run_entry_at W _ _ 5 seen fm5 5 ⟨.int .i64 k,fmV k,k⟩ b h.mb (by
  have c:fm5.toList=[⟨.int .i64 0,fmV 0,0⟩,⟨.int .i64 1,fmV 1,1⟩,⟨.int .i64 2,fmV 2,2⟩,⟨.int .i64 3,fmV 3,3⟩,⟨.int .i64 4,fmV 4,4⟩]:=rfl;rw [c];have:k=0\/k=1\/k=2\/k=3\/k=4:=Oo
  rcases this with rfl|rfl|rfl|rfl|rfl<;>simp) Ov
def DL.seenOf (h:DL seen w W):W.iterSeen (w.1.size+2)=seen:=by
 obtain ⟨c,_,b⟩:=h.it;unfold World.iterSeen;rw [b]
def SeenOk.push {b:Bz} (h:SeenOk b seen) (e:k=0->Yr b=68->deF 0 b=none) (d:k=1->Yr b=71->deF 1 b=none):SeenOk b (seen.push k):=by
 refine ⟨fun c=>?_,fun c=>?_⟩
 .rw [contains_push] at c;rcases XU .. ▸ c with c|c
  .exact h.1 c
  .exact e (by have:=YT.1 c;omega)
 .rw [contains_push] at c;rcases XU .. ▸ c with c|c
  .exact h.2 c
  .exact d (by have:=YT.1 c;omega)
end
section
open Go.ChangeMaps
variable {w:Wd} {rec:Bz} {n m:Nat} {e:En} {a:EnA}
def rB (s:Bz) (h:0<s.size):(Result.ok (Value.int .u8 (s[0].toNat:Int)) w:Result Value)=.ok (.int .u8 (Yr s)) w:=by
 have:(s[0].toNat:Int)=Yr s:=by
  unfold Yr
  have e:s.data.toList.getD 0 0=s[0]:=by
   rw [WJ,YI,WI (h)];rfl
  rw [e]
 rw [this]
def Tj (s:Bz):(Ei s).size<=s.size:=by
 show ((Lib.trimRightB s.data.toList 32).toArray).size<=s.data.size;rw [YZ];unfold Lib.trimRightB;rw [List.length_reverse];apply Lx (List.Sublist.length_le (List.dropWhile_sublist _));rw [List.length_reverse,XY];exact Le _
def OJ (rec:Bz) (o:Option Bz):∃ (s:Bz) (c:Int),vV o=.tuple #[.string s,.int .i64 c]/\((c=0/\s=rec)<->o=some rec):=by
 cases o with
 |none=>exact ⟨⟨#[]⟩,1,rfl,Am⟩
 |some t=>exact ⟨t,0,rfl,Am⟩
def mf {k:Int} (b:k=0\/k=1) {R:En×Bz×Int} {o:Option Bz} (d:rdP k (Ei (rec.extract 1 32)) (rec.extract 32 rec.size) R) (c:vW R.1 o) (f:R.1.kind=k):
  deF k rec=if Yj R.2.1 R.2.2=0/\o=some rec then some R.1 else none:=by
 rw [c (by rw [f];exact b),yr d b];rfl
def Jw (a b:Bz):(a.toList == b.toList)=decide (a=b):=by
 by_cases h:a=b
 .subst h;simp
 .rw [QW h];cases d:a.toList == b.toList with
  |false=>rfl
  |true=>exact absurd (by have c:=YT.1 d;rw [Vb,Vb] at c;exact Ev c) h
def OG {W W':Wd} (h:EWn n W e a) (g:Below W.1.size W W') (d:m<=n):EWn m W' e a:=
 have f:=h.ew0.below g
 ⟨f.sa,f.sg,fun p b c=>Lx d (h.na p b c),fun p b c=>Lx d (h.ng p b c)⟩
def qh {g:Nat} (h:EWn n w e a) (i:g<n) (d:m<=n) (cs:Array Value):EWn m (w.setRow g cs) e a:=
 have f:=h.row i cs
 ⟨f.sa,f.sg,fun p b c=>Lx d (h.na p b c),fun p b c=>Lx d (h.ng p b c)⟩
def nX (w:Wd):DL #[] w (((Aa w (enC enZ enN).toArray 144).alloc (.map fm5 5)).alloc (.mapIter (some (w.1.size+1)) 5 #[] 5)):=
 ⟨S5 (Vw _ _ _ Am) _,⟨5,Le _,Vw _ _ _ Am⟩,((Blk.new w _ _).alloc _).alloc _,(Aj.alloc Am _).alloc As _,Am⟩
def uf {w':Wd} (h:rec.size<32\/200<rec.size) (b:Below w.1.size w w'):mH rec w (.returned (me none enN)) w':=⟨⟨none,enN,by unfold PO;rw [QK h],(fun e h=>by cases h),rfl⟩,b⟩
theorem lG {G:Prop} (h:G:=by
  go_in;go_wp2_with (first|((with_reducible apply Gb 144);apply U1 Ak 144 _ rfl ((enC enZ enN).toArray) Ak)|(with_reducible apply yS 144 2 (HN.o _) HO.o;rw [HS.o]));exact Br (v:=.tuple #[.agg (enC enZ enN).toArray,.int .i64 11]) (U2 results163 rfl rfl fD) rfl (uf HZ.o (HB.o _))):G:=h
def MX (rec:Bz) (w:Wd) (hz:rec.size<32\/200<rec.size) (c:rec.size<=9223372036854775807):Calls prog 163 #[.string rec] w (mH rec w):=by
 have HZ:=Hd hz;have HB:Aw (∀ cs,Below w.1.size w (Aa w cs 144)):=Hd fun cs=>Aj
 have HN:Aw (∀ b,Blk (Aa w b 144) w.1.size 144 b):=Hd fun b=>Blk.new w _ b
 have HS:Aw (∀ b,(Aa w b 144).setRow w.1.size (enC enZ enN).toArray=(Aa w (enC enZ enN).toArray 144)):=Hd fun b=>U5 w b _ _
 have HO:=Hd (Um enZ enN);have fD:=Ux (Aa w (enC enZ enN).toArray 144) w.1.size _ (Blk.new w _ _) (by simp [enC]);by_cases f:rec.size<32
 .have d1:decide ((rec.size:Int)<32)=true:=QQ Oo;exact lG
 .have d1:decide ((rec.size:Int)<32)=false:=QW Oo;have d:decide ((200:Int)<(rec.size:Int))=true:=QQ Oo;exact lG
theorem pX {G:Prop} (h:G:=by
  have eI:¬ (ne=0/\o=some rec):=fun ⟨h1,h2⟩=>by have h3:=HP.2.2 h2;simp_all
  exact ⟨⟨_,HD8,HSO.push (fun bJ _=>by have h:=HDE (.inl Oo);rw [show ((born:Nat):Int)=0 from Oo,QX eI] at h;exact h) (fun bJ _=>by have h:=HDE (.inr Oo);rw [show ((born:Nat):Int)=1 from Oo,QX eI] at h;exact h)⟩,by rw [HD8.seenOf,HMS];exact HSH⟩):G:=h
def GS (rec:Bz) (w:Wd) (hm:rec.size<=9223372036854775807) (ht:Sta w):Calls prog 163 #[.string rec] w (mH rec w):=by
 by_cases hz:rec.size<32\/200<rec.size
 .exact MX rec w hz hm
 have aP:32<=rec.size:=Oo
 have aT:rec.size<=200:=Oo
 have B:=And.intro aP aT;have d1:decide ((rec.size:Int)<32)=false:=QW Oo;have d2:decide ((200:Int)<(rec.size:Int))=false:=QW Oo
 have hrg:∀ d,(Instr.range 261 (.map (some (w.1.size+1)))).run prog ((Aa w d 144).alloc (.map fm5 5))=.ok (Ag (w.1.size+2) 0) (((Aa w d 144).alloc (.map fm5 5)).alloc (.mapIter (some (w.1.size+1)) 5 #[] 5)):=fun d=>by
  have h:=run_range_map (P:=prog) ((Aa w d 144).alloc (.map fm5 5)) 261 _ _ (w.1.size+1) fm5 5 underlying261 (Vw _ _ _ Am);simpa using h
 clear hz aP aT hm;go_in;go_wp2_with (go_at_call 203;refine (Zg _).mono ?_;rintro x w3 ⟨rfl,rfl⟩);clear hrg d1 d2;go_loopw [5] (fun _ wr=>∃ b,DL b w wr/\SeenOk rec b) (fun _ wr=>(leftOf fm5 (wr.iterSeen (w.1.size+2))).size)
 .exact ⟨_,(nX w),fun h=>by simp at h,fun h=>by simp at h⟩
 .obtain ⟨b,hdl,hso⟩:=hrel;obtain ⟨c,K,H⟩:=hdl.it;go_wp2_with (at_next;refine tv rfl _ rfl (w.1.size+2) (w.1.size+1) 5 c b fm5 5 rfl H hdl.mb vM K ?_ ?_)
  .intro h0
   have r:PO rec none:=by
    unfold PO;rw [QX (by have:=B;omega)];have h0':(leftOf fm5 b).size=0:=by rw [h0];rfl
    exact ⟨fun h=>(hso.1 (Cl h0' (k:=0) Oo) h).symm,fun h=>(hso.2 (Cl h0' (k:=1) Oo) h).symm,fun _ _ e h=>by cases h⟩
   have HN:=Hd r;have HD:=Hd hdl;clear hdl hso H K h0 r;have fD:=Ux (wr.setRow w.1.size (enC enZ enN).toArray) w.1.size _ (QR _ _ _ _ _ _ HD.o.rc) (by simp [enC]);go_wp2_with (first|((with_reducible refine Gb 144 ?_);refine U1 Ak 144 _ rfl ((enC enZ enN).toArray) Ak ?_)|(with_reducible refine yS 144 2 HD.o.rc (Um enZ enN) ?_));exact Br (v:=.tuple #[.agg (enC enZ enN).toArray,.int .i64 11]) (U2 results163 rfl rfl fD) rfl ⟨⟨none,enN,HN.o,(fun e h=>by cases h),rfl⟩,Uf HD.o.be (Le _) _⟩
  .intro e he w1 cX;obtain ⟨k,wT,ek,ev,eb⟩:=Ck (mem_left (Array.mem_toList_iff.2 he)).1;have HSH:=left_shrinks fm5 b e (Array.mem_toList_iff.2 he);clear he;obtain ⟨key,val,born⟩:=e;simp only at ek ev eb HSH ⊢;subst ek ev eb;obtain ⟨L,i,g,j,hfm,hF,hC,hL0,hL1,hLD,hLG⟩:=Pz born Oo Oo;have q:=hdl.step (k:=born) cX;have s:=SP (ob:=.mapIter (some (w.1.size+1)) 5 (b.push born) 5) cX (show w.1.size+2<wr.1.size by have:=hdl.sz;omega);have HMS:(leftOf fm5 (wr.iterSeen (w.1.size+2))).size=(leftOf fm5 b).size:=by rw [hdl.seenOf]
   obtain ⟨f,jV⟩:∃ W,setBlock w1 (w.1.size+2) (.mapIter (some (w.1.size+1)) 5 (b.push born) 5)=W:=⟨_,rfl⟩
   rw [jV] at q s ⊢;have M:=q.entry Oo s;rw [hfm] at M ⊢;unfold EFV at M ⊢;have HSO:=Hd hso;have U:=And.intro hLD hLG;have Z:0<=(born:Int)/\(born:Int)<=4:=⟨Oo,Oo⟩
   have dE:=Hd fun d=>U5 f d (fvC L i g j) 266
   clear s H K hdl hso cX jV hfm hLD hLG hL0 hL1 wT;go_wp2_with (with_reducible refine yS 266 6 ((fun d=>Blk.new f 266 d) _) (Hu L i g j) ?_;rw [dE.o]);clear M dE;have t:Aw (Blk (Aa f (fvC L i g j) 266).drew f.1.size 266 (fvC L i g j)):=Hd (Blk.new f _ _).drew;have bH:Aw (DL (b.push born) w (Aa f (fvC L i g j) 266).drew):=Hd (q.next Aj.drew);have wV:Aw (f.1.size<(Aa f (fvC L i g j) 266).drew.1.size):=Hd t.o.lt;refine Rw (S:=fun w'=>Blk w' f.1.size 266 (fvC L i g j)) Ak t.o (fun Q=>?_);refine tA 0 Q ?_;refine tj 1 (.int .u8 L) Q ?_ (y:=by intro w' aO;have h1:=aO.ce 0 (.int .u8 L);go_simp);refine tA 2 Q ?_
   refine tj 3 (.int .u8 (Yr rec)) Q ?_ (y:=by intro w' aO;go_simp;rw [dif_pos (by have:=B.1;omega),rB rec (by have:=B.1;omega)];rfl);refine tA 4 Q ?_;refine Ad Ak ?_ _;clear Q;by_cases D:¬ L=Yr rec
   .have hd:(L != Yr rec)=true:=by simpa using D
    rw [hd];go_wp2;go_roundw
    .exact ⟨_,bH.o,HSO.o.push (fun h h2=>absurd ((U.1.2 Oo).trans h2.symm) D) (fun h h2=>absurd ((U.2.2 Oo).trans h2.symm) D)⟩
    .rw [bH.o.seenOf,HMS];exact HSH
   .replace D:L=Yr rec:=Decidable.not_not.1 D
    have hd:(L != Yr rec)=false:=by simpa using D
    rw [hd];clear hd;obtain ⟨l,O⟩:=yG (Ei (rec.extract 1 32));obtain ⟨u,F⟩:=yG (rec.extract 32 rec.size);have HTR:Aw (∀ W,Calls prog 204 #[.string (rec.extract 1 32),.string ⟨#[32]⟩] W fun e w'=>e=.returned (.string l)/\w'=W):=Hd fun W=>by rw [<-O];exact strings_TrimRight_one (rec.extract 1 32) 32 Ac W (by rw [XZ];have:=B;omega)
    have HNZ:Aw (l.size<=1000/\u.size<=1000000):=Hd ⟨by rw [<-O];exact Lx (Tj _) (by rw [XZ];have:=B;omega),by rw [<-F,XZ];have:=B;omega⟩;have J:=Hd (And.intro O F);have z:=Hd D;clear O D F;have q1:32<=rec.size:=B.1;have X:Aw (DL (b.push born) w (((Aa f (fvC L i g j) 266).alloc (.cells (enC (enK born l) enN).toArray 144)).drew)):=Hd (bH.o.next Aj);have aJ:Aw (Blk (((Aa f (fvC L i g j) 266).alloc (.cells (enC (enK born l) enN).toArray 144)).drew) (f.1.size+1) 144 (enC (enK born l) enN).toArray):=Hd (U3 (Aa f (fvC L i g j) 266) _ _ _ Am).drew
    have HF2:Aw (Blk (((Aa f (fvC L i g j) 266).alloc (.cells (enC (enK born l) enN).toArray 144)).drew) f.1.size 266 (fvC L i g j)):=Hd (t.o.alloc _);have E:Aw ((((Aa f (fvC L i g j) 266).alloc (.cells (enC (enK born l) enN).toArray 144)).drew).1.size=f.1.size+2):=Hd (by show ((Aa f (fvC L i g j) 266).alloc (.cells (enC (enK born l) enN).toArray 144)).1.size=_;simp);have HB7:Aw (∀ d,Blk (((Aa f (fvC L i g j) 266).alloc (.cells d 144)).drew) (f.1.size+1) 144 d):=Hd fun d=>(U3 (Aa f (fvC L i g j) 266) _ _ _ Am).drew
    have HS7:Aw (∀ d,(((Aa f (fvC L i g j) 266).alloc (.cells d 144)).drew).setRow (f.1.size+1) (enC (enK born l) enN).toArray=(((Aa f (fvC L i g j) 266).alloc (.cells (enC (enK born l) enN).toArray 144)).drew)):=Hd fun d=>by have h:=X6 (Aa f (fvC L i g j) 266) (f.1.size+1) Am d (enC (enK born l) enN).toArray 144;exact XK World.drew h
    have gM:=Hd (Um (enK born l) enN);have hcf:=hC.f;clear bH t wV
    go_wp2_with (first|((with_reducible refine Gb 144 ?_);refine U1 Ak 144 _ rfl ((enC (enK born l) enN).toArray) Ak ?_)|(with_reducible refine yS 144 7 (HB7.o _) gM.o ?_;rw [HS7.o])|(with_reducible refine yS 144 2 HD8.o.rc (Um _ _) ?_)|(go_at_call 204;apply (HTR.o _).mono;rintro x w4 ⟨rfl,rfl⟩)|(go_at_call 160;rw [J.o.2];apply (EP u (((Aa f (fvC L i g j) 266).alloc (.cells (enC (enK born l) enN).toArray 144)).drew)).mono;rintro x w5 ⟨rfl,rfl⟩;obtain ⟨p,hW2⟩:∃ W,(((Aa f (fvC L i g j) 266).alloc (.cells (enC (enK born l) enN).toArray 144)).drew)=W:=⟨_,rfl⟩;simp only [hW2] at X aJ HF2 E ⊢;clear hW2;have f2:=(((HF2.o.alloc (.cells #[.string u,.int .i64 0] 258)).alloc (.cells #[.string ⟨#[]⟩,Ag p.1.size 0] 270)).ce 2 (.func (.func g) #[] #[])))|((with_reducible show Calls _ _ #[.pointer (some ⟨_,0,none⟩),.pointer (some ⟨_,0,none⟩)] _ _);apply (hF.fr (p.1.size+1) p.1.size (f.1.size+1) l u ((Aa p #[.string u,.int .i64 0] 258).alloc (.cells #[.string ⟨#[]⟩,Ag p.1.size 0] 270)) (crN p u) (rdN p u) ((aJ.o.alloc _).alloc _) HNZ.o.2 HNZ.o.1 (by have:=E.o;omega) Oo (by have:=E.o;omega)).mono;rintro x w7 ⟨rfl,R,T,hR,iO,hkd,O,fO,hbg,cQ,gW⟩;have A:=Hd (And.intro hR (And.intro iO hkd));have dM:=Hd fO;have dS:=Hd hbg;have HEW:=Hd cQ;have V:Aw (Cr w7 (p.1.size+1) p.1.size):=Hd (Blk.far' (crN p u) gW (by have:=E.o;simp;omega));have HD7:Aw (DL (b.push born) w w7):=Hd ((X.o.next (((Bf _ _).alloc (Le _) (.cells #[.string u,.int .i64 0] 258)).alloc Am (.cells #[.string ⟨#[]⟩,Ag p.1.size 0] 270))).far gW (by have:=E.o;have:=q.sz;simp;omega));clear hR iO hkd O fO hbg cQ gW f2 hcf)|(with_reducible refine yL 144 7 (by first|exact HBG8.o|exact dS.o) ?_)|(go_at_call 205;refine (F6 R.1 T w7 HEW.o.ew0 A.o.2.1 (by rw [A.o.2.2];exact Z.1) (by rw [A.o.2.2];exact Z.2) (ht.after HD7.o.be)).mono ?_;rintro x w8 ⟨⟨o,hp,_,rfl⟩,N⟩;obtain ⟨es,ec,hev,C⟩:=OJ rec o;rw [hev];have HP:=Hd (And.intro hp C);have HD8:=Hd (HD7.o.next N);have HRD8:Aw (Rdr w8 p.1.size R.2.1 R.2.2):=Hd (Blk.below dM.o N (Blk.lt dM.o));have HBG8:=Hd (dS.o.below N dS.o.lt);have HC8:Aw (Cr w8 (p.1.size+1) p.1.size):=Hd (Blk.below V.o N (Blk.lt V.o));have HEW8:Aw (EWn p.1.size w8 R.1 T):=Hd (OG HEW.o N (by simp;try omega));have c1:=HC8.o.c1;have HDE:Aw (((born:Int)=0\/(born:Int)=1)->deF born rec=if Yj R.2.1 R.2.2=0/\o=some rec then some R.1 else none):=Hd (fun Y=>mf Y (by rw [J.o.1,J.o.2];exact A.o.1) hp A.o.2.2);clear hp C hev N)|(go_at_call 162;apply (Gs _ _ _ _ HRD8.o).mono;rintro x w9 ⟨rfl,rfl⟩;obtain ⟨ne,aS⟩:=yG (Yj R.2.1 R.2.2);simp only [aS] at HDE ⊢;clear aS;have iH:=Jw es rec;rcases (show ((ne == 0)=false)\/((ne == 0)=true/\(ec == 0)=false)\/((ne == 0)=true/\(ec == 0)=true/\¬ es=rec)\/((ne == 0)=true/\(ec == 0)=true/\es=rec) by cases (ne == 0)<;>cases (ec == 0)<;>by_cases es=rec<;>simp_all) with b1|⟨b1,b2⟩|⟨b1,b2,b3⟩|⟨b1,b2,b3⟩))
    .exact pX
    .exact pX
    .exact pX
    .have fD:=Ux (w8.setRow w.1.size (enC R.1 T).toArray) w.1.size _ (QR _ _ _ (enC R.1 T).toArray _ _ HD8.o.rc) (by simp [enC]);have hos:ne=0/\o=some rec:=⟨by simpa using b1,HP.o.2.1 ⟨by simpa using b2,b3⟩⟩
     have I:=HDE.o;rw [QK hos] at I
     have hdp:PO rec (some R.1):=by
      unfold PO;rw [QX (by have:=B;omega)];refine ⟨fun h=>?_,fun h=>?_,fun h h2 e he=>?_⟩
      .have bJ:=U.1.1 (z.o.trans h);have h:=I (.inl bJ);rw [bJ] at h;exact h.symm
      .have bJ:=U.2.1 (z.o.trans h);have h:=I (.inr bJ);rw [bJ] at h;exact h.symm
      .injection he with he
       subst he;rw [A.o.2.2];have k0:¬ (born:Int)=0:=fun Y=>h (z.o.symm.trans (U.1.2 Y))
       have k1:¬ (born:Int)=1:=fun Y=>h2 (z.o.symm.trans (U.2.2 Y))
       have:=Z;omega
     exact Br (v:=.tuple #[.agg (enC R.1 T).toArray,.int .i64 0]) (U2 results163 rfl rfl fD) rfl ⟨⟨some R.1,T,hdp,(fun e he=>by injection he with he;subst he;exact ⟨A.o.2.1,by rw [A.o.2.2];exact Z.1,by rw [A.o.2.2];exact Z.2,qh HEW8.o (by have:=E.o;have:=q.sz;omega) (by have:=E.o;have:=q.sz;omega) _⟩),rfl⟩,Uf HD8.o.be (Le _) _⟩
end
section
variable {e g:En} {w:Wd} {a:Bz} {w':Wd}
def S6 (s:Bz) (w:Wd) (f:s.size<=1000) (b:Mx w):Calls prog 206 #[.string s] w (Ab w (.tuple #[.string (Xy s).1,.bool (Xy s).2.2])):=by
 have d:=Hd (Na s w Oo b);clear f b;go_in;go_wp2_with (go_at_call 265;refine yN d fun h c=>?_);refine Br (YP results206 _ _ _) rfl ?_;exact ⟨rfl,c⟩
noncomputable def Xm (e g:En):Option Bz:=
 if e.kind=0 then (match I7 e with
  |none=>none
  |some a=>if (Xy e.name).2.2=true then (if g.kind=1/\g.name=(Xy e.name).1 then (match I7 g with|none=>none|some b=>some (⟨#[]⟩++Vh a++Vh b)) else none)
   else if g=enZ then some (⟨#[]⟩++Vh a++Vh ⟨#[]⟩) else none)
 else none
def Co (S:List Nat) (W:Wd):EW S W enZ enN:=⟨Sl.nil,Sl.nil,fun p b _=>(by cases b),fun p b _=>(by cases b)⟩
structure NB (e g:En) (a b:EnA) (w W:Wd):Prop where
 b1:Blk W w.1.size 144 (enC e a).toArray
 b2:Blk W (w.1.size+1) 144 (enC g b).toArray
 be:Below w.1.size w W
 sz:w.1.size+2<=W.1.size
def NB.next {a b:EnA} {W W':Wd} (h:NB e g a b w W) (c:Below W.1.size W W'):NB e g a b w W':=
 have hz:=h.sz
 ⟨h.b1.below c h.b1.lt,h.b2.below c h.b2.lt,U0 h.be c Oo,Lx h.sz c.size⟩
def NB.new (e g:En) (a b:EnA) (w:Wd):NB e g a b w ((Aa w (enC e a).toArray 144).alloc (.cells (enC g b).toArray 144)):=
 ⟨(Blk.new w _ _).alloc _,U3 (w.alloc _) _ _ _ Am,Aj.alloc Am _,Am⟩
def ND {o:Option Bz} (d:vW e o) (hz:∀ s,o=some s->s.size<=200000):∃ (s:Bz) (c:Int),vV o=.tuple #[.string s,.int .i64 c]/\s.size<=200000/\(e.kind=0\/e.kind=1->((c != 0)=true->I7 e=none)/\((c != 0)=false->I7 e=some s)):=by
 cases o with
 |none=>exact ⟨⟨#[]⟩,1,rfl,Z0 _,fun b=>⟨fun _=>(d b).symm,fun h=>by simp at h⟩⟩
 |some s=>exact ⟨s,0,rfl,hz s rfl,fun b=>⟨fun h=>by simp at h,fun _=>(d b).symm⟩⟩
def BR (h:e.kind=0->I7 e=none):Xm e g=none:=by
 unfold Xm;split
 .rename_i hk;rw [h hk]
 .rfl
def Pp (d:e.kind=0) (c:I7 e=some a) (b:(Xy e.name).2.2=true) (h:g.kind=1->g.name=(Xy e.name).1->I7 g=none):Xm e g=none:=by
 unfold Xm;rw [QK d,c];simp only [b,VY];split
 .rename_i h2;rw [h h2.1 h2.2]
 .rfl
def ro {b:Bz} (c:e.kind=0) (d:I7 e=some a) (j:(Xy e.name).2.2=true) (h:g.kind=1) (f:g.name=(Xy e.name).1) (i:I7 g=some b):Xm e g=some (⟨#[]⟩++Vh a++Vh b):=by
 unfold Xm;rw [QK c,d];simp only [j,VY];rw [QK ⟨h,f⟩,i]
def rm (d:e.kind=0) (c:I7 e=some a) (b:(Xy e.name).2.2=false) (h:¬ g=enZ):Xm e g=none:=by
 unfold Xm;rw [QK d,c];simp only [b,VM,if_false];rw [QX h]
def rl (d:e.kind=0) (c:I7 e=some a) (b:(Xy e.name).2.2=false) (h:g=enZ):Xm e g=some (⟨#[]⟩++Vh a++Vh ⟨#[]⟩):=by
 unfold Xm;rw [QK d,c];simp only [b,VM,if_false];rw [QK h]
def NoteG (e g:En) (w:Wd) (x:Ending) (w':Wd):Prop:=x=.returned (vV (Xm e g))/\Below w.1.size w w'
def NoteG.none (h:Xm e g=none) (b:Below w.1.size w w'):NoteG e g w (.returned (.tuple #[.string ⟨#[]⟩,.int .i64 1])) w':=⟨by rw [h];rfl,b⟩
def NoteG.some {s:Bz} (h:Xm e g=some s) (b:Below w.1.size w w'):NoteG e g w (.returned (.tuple #[.string s,.int .i64 0])) w':=⟨by rw [h];rfl,b⟩
def qi (s:Bz) (h:s.size<=200000):(⟨#[]⟩++Vh s).size<=1000000000:=by
 have b:(⟨#[]⟩:Bz).size=0:=rfl;have:=Ut s;rw [QY];omega
def RN (e g:En) (a b:EnA) (w:Wd) (he:EW [] w e a) (p:EW [] w g b) (G:Sm e) (F:Sm g) (J:0<=e.kind) (P:e.kind<=4) (K:0<=g.kind) (M:g.kind<=4) (s:Sta w):
  Calls prog 164 #[.agg (enC e a).toArray,.agg (enC g b).toArray] w (NoteG e g w):=by
 have l:=Hd (NB.new e g a b w);have HT:=Hd s;have U:=Hd fun W (h:NB e g a b w W)=>F6 e a W (he.below h.be) G J P (s.after h.be)
 have S:=Hd fun W (h:NB e g a b w W)=>F6 g b W (p.below h.be) F K M (s.after h.be)
 have T:=Hd fun W (h:NB e g a b w W)=>S6 e.name W G.nm (s.after h.be).mx
 have H:=Hd fun W (h:NB e g a b w W)=>Qw g enZ b enN W (p.below h.be) (Co _ _) (by have:=F.la;omega) Ac (by have:=F.lg;omega) Ac
 clear he p G F J P K M s;go_in
 go_wp2_with (first|(with_reducible refine yL 144 2 (by first|exact q.o.b1|exact k.o.b1|exact f.o.b1|exact n.o.b1|exact l.o.b1) ?_)|(with_reducible refine yL 144 3 (by first|exact q.o.b2|exact k.o.b2|exact f.o.b2|exact n.o.b2|exact l.o.b2) ?_)|((with_reducible refine Gb 144 ?_);refine U1 Ak 144 _ rfl ((enC enZ enN).toArray) Ak ?_)|((with_reducible show Calls _ _ #[.agg (enC e a).toArray] _ _);refine (U _ l).mono ?_;rintro x w2 ⟨⟨o,A,hz,rfl⟩,m⟩;obtain ⟨N,E,i,y,t⟩:=ND A hz;rw [i];have n:=Hd (l.o.next m);have r:=Hd y;have d:=Hd t;have V:=n.o.b1.ce 0 (.int .i64 e.kind);have c1:=n.o.b1.ce 1 (.string e.name);clear A hz i y t m;rcases (show (E != 0)=true\/((E != 0)=false/\(e.kind != 0)=true)\/((E != 0)=false/\(e.kind != 0)=false) by cases (E != 0)<;>cases (e.kind != 0)<;>simp) with b1|⟨b1,b2⟩|⟨b1,b2⟩)|(go_at_call 206;refine yT (T _ n) n.o.next fun X f=>?_;clear V c1;rcases (show (Xy e.name).2.2=true\/(Xy e.name).2.2=false by cases (Xy e.name).2.2<;>simp) with s1|s1)|((with_reducible show Calls _ _ #[.agg (enC g b).toArray] _ _);refine (S _ f).mono ?_;rintro x Q ⟨⟨o,A,hz,rfl⟩,m⟩;obtain ⟨gs,D,i,C,v⟩:=ND A hz;rw [i];have k:=Hd (f.o.next m);have I:=Hd C;have u:=Hd v;have d0:=k.o.b2.ce 0 (.int .i64 g.kind);have Z:=k.o.b2.ce 1 (.string g.name);clear A hz i C v m;rcases (show (D != 0)=true\/((D != 0)=false/\(g.kind != 1)=true)\/((D != 0)=false/\(g.kind != 1)=false/\(g.name.toList == (Xy e.name).1.toList)=false)\/((D != 0)=false/\(g.kind != 1)=false/\(g.name.toList == (Xy e.name).1.toList)=true) by cases (D != 0)<;>cases (g.kind != 1)<;>cases (g.name.toList == (Xy e.name).1.toList)<;>simp) with r1|⟨r1,r2⟩|⟨r1,r2,r3⟩|⟨r1,r2,r3⟩)|(go_at_call 207;refine (H _ f).mono ?_;rintro x Q ⟨⟨z,rfl,hz⟩,m⟩;have k:=Hd (f.o.next m);have O:=Hd hz;clear m hz;cases z)|((with_reducible show Calls _ _ #[.string ⟨#[]⟩,.string _] _ _);refine yT (Jq ⟨#[]⟩ N _ Ac (by have:=r.o;omega)) k.o.next fun w5 q=>?_)|(go_at_call 208;refine yT (Jq _ _ _ (qi N r) (by first|decide|(have:=I.o;omega))) q.o.next fun Y B=>?_))
 .refine Br (YP results164 _ _ _) rfl (NoteG.none (BR fun c=>(d (.inl c)).1 b1) n.o.be)
 .refine Br (YP results164 _ _ _) rfl (NoteG.none (BR fun c=>by rw [c] at b2;cases b2) n.o.be)
 .have c:e.kind=0:=by simpa using b2
  have j:=(d (.inl c)).2 b1;refine Br (YP results164 _ _ _) rfl (NoteG.none (Pp c j s1 fun p _=>(u (.inr p)).1 r1) k.o.be)
 .have c:e.kind=0:=by simpa using b2
  have j:=(d (.inl c)).2 b1;refine Br (YP results164 _ _ _) rfl (NoteG.none (Pp c j s1 fun p _=>absurd p (by simpa using r2)) k.o.be)
 .have c:e.kind=0:=by simpa using b2
  have j:=(d (.inl c)).2 b1;refine Br (YP results164 _ _ _) rfl (NoteG.none (Pp c j s1 fun _ hn=>by rw [hn] at r3;simp at r3) k.o.be)
 .have c:e.kind=0:=by simpa using b2
  have j:=(d (.inl c)).2 b1;have L:g.kind=1:=by simpa using r2
  have R:g.name=(Xy e.name).1:=by rw [Jw] at r3;simpa using r3
  refine Br (YP results164 _ _ _) rfl (NoteG.some (ro c j s1 L R ((u (.inr L)).2 r1)) B.o.be)
 .have c:e.kind=0:=by simpa using b2
  have j:=(d (.inl c)).2 b1;refine Br (YP results164 _ _ _) rfl (NoteG.none (rm c j s1 fun h=>by have:=O.o.2 h;cases this) k.o.be)
 .have c:e.kind=0:=by simpa using b2
  have j:=(d (.inl c)).2 b1;refine Br (YP results164 _ _ _) rfl (NoteG.some (rl c j s1 (O.o.1 (by trivial))) B.o.be)
end
section
variable {a:EnA} {W:Wd} {o:Option Bz} {ec:Int} {es note:Bz} {w w' W':Wd}
noncomputable def I9 (s:Bz):Option En:=if s.size<32\/200<s.size then none else if Yr s=68 then deF 0 s else if Yr s=71 then deF 1 s else none
noncomputable def Xb (note:Bz):Option En:=
 let t1:=U8 note 0 200;let t2:=U8 t1.2.1 t1.2.2 200
 if Yj t2.2.1 t2.2.2=0 then (match I9 t1.1 with
  |none=>none
  |some e=>match (if t2.1.toList=[] then some enZ else I9 t2.1) with
   |none=>none
   |some g=>if Xm e g=some note then some e else none)
 else none
def Dq (s:Bz) (e:En) (c:Int):Prop:=((c == 0)=false/\I9 s=none)\/((c == 0)=true/\(I9 s=some e\/(I9 s=none/\2<=e.kind)))
def Hf:Sm enZ:=⟨Ac,Ac,Ac,Ac,Ac,Ac,Ac,fun n h=>(by cases h),fun n h=>(by cases h),Ac⟩
def SC {n:Nat} {s:Bz} {o:Option En} (d:PO s o) (h:∀ e,o=some e->Sm e/\0<=e.kind/\e.kind<=4/\EWn n W e a):∃ (e:En) (b:EnA) (c:Int),me o a=.tuple #[.agg (enC e b).toArray,.int .i64 c]/\Dq s e c/\Sm e/\0<=e.kind/\e.kind<=4/\EWn n W e b:=by
 cases o with
 |none=>
  refine ⟨enZ,enN,11,rfl,.inl ⟨rfl,?_⟩,Hf,Ac,Ac,⟨Sl.nil,Sl.nil,fun p d _=>(by cases d),fun p d _=>(by cases d)⟩⟩;unfold PO at d;unfold I9;split
  .rfl
  .rename_i hz;rw [QX hz] at d;split
   .rename_i f;exact (d.1 f).symm
   .split
    .rename_i f;exact (d.2.1 f).symm
    .rfl
 |some e=>
  obtain ⟨f,g,j,i⟩:=h e rfl;refine ⟨e,a,0,rfl,.inr ⟨rfl,?_⟩,f,g,j,i⟩;unfold PO at d;unfold I9;split
  .rename_i hz;rw [QK hz] at d;cases d
  .rename_i hz;rw [QX hz] at d;split
   .rename_i f;exact .inl (d.1 f).symm
   .split
    .rename_i f;exact .inl (d.2.1 f).symm
    .rename_i k1 k2;exact .inr ⟨rfl,d.2.2 k1 k2 e rfl⟩
def So (o:Option Bz):∃ (s:Bz) (c:Int),vV o=.tuple #[.string s,.int .i64 c]/\(((c == 0)=false/\o=none)\/((c == 0)=true/\o=some s)):=by
 cases o with
 |none=>exact ⟨⟨#[]⟩,1,rfl,.inl ⟨rfl,rfl⟩⟩
 |some t=>exact ⟨t,0,rfl,.inr ⟨rfl,rfl⟩⟩
section
variable {note:Bz}
def Np (h:(Yj (U8 (U8 note 0 200).2.1 (U8 note 0 200).2.2 200).2.1 (U8 (U8 note 0 200).2.1 (U8 note 0 200).2.2 200).2.2 == 0)=false):Xb note=none:=by
 unfold Xb;dsimp only;rw [QX (by simpa using h)]
def Kz (h:I9 (U8 note 0 200).1=none):Xb note=none:=by
 unfold Xb;dsimp only;rw [h];split<;>rfl
def Wb {e g:En} (h:2<=e.kind):Xm e g=none:=by
 unfold Xm;rw [QX Oo]
def RO {e g:En} (h:2<=g.kind):Xm e g=none:=by
 have b:¬ g.kind=1:=Oo
 have d:¬ g=enZ:=fun c=>by rw [c] at h;exact absurd h Ac
 unfold Xm;split
 .split
  .rfl
  .split
   .rw [QX (fun h=>b h.1)]
   .rfl
 .rfl
def xg {e:En} {c:Int} (d:Dq (U8 note 0 200).1 e c) (g:(c == 0)=false):Xb note=none:=by
 rcases d with ⟨_,f⟩|⟨b,_⟩
 .exact Kz f
 .rw [g] at b;cases b
def Gq (s:Bz) (g:En):Prop:=((s.toList == [])=true/\g=enZ)\/((s.toList == [])=false/\(I9 s=some g\/(I9 s=none/\2<=g.kind)))
def GM (c:¬ (U8 (U8 note 0 200).2.1 (U8 note 0 200).2.2 200).1.toList=[]) (b:I9 (U8 (U8 note 0 200).2.1 (U8 note 0 200).2.2 200).1=none):Xb note=none:=by
 unfold Xb;dsimp only;split
 .split
  .rfl
  .rw [b]
 .rfl
def xj {g:En} {c:Int} (b:((U8 (U8 note 0 200).2.1 (U8 note 0 200).2.2 200).1.toList == [])=false) (e:Dq (U8 (U8 note 0 200).2.1 (U8 note 0 200).2.2 200).1 g c) (i:(c == 0)=false):Xb note=none:=by
 rcases e with ⟨_,f⟩|⟨d,_⟩
 .exact GM (fun h=>by rw [h] at b;cases b) f
 .rw [i] at d;cases d
def Gq.of {s:Bz} {g:En} {c:Int} (e:(s.toList == [])=false) (d:Dq s g c) (h:(c == 0)=true):Gq s g:=by
 rcases d with ⟨b,_⟩|⟨_,f⟩
 .rw [h] at b;cases b
 .exact .inr ⟨e,f⟩
def LU {e g:En} (he:I9 (U8 note 0 200).1=some e) (b:(Yj (U8 (U8 note 0 200).2.1 (U8 note 0 200).2.2 200).2.1 (U8 (U8 note 0 200).2.1 (U8 note 0 200).2.2 200).2.2 == 0)=true) (c:(if (U8 (U8 note 0 200).2.1 (U8 note 0 200).2.2 200).1.toList=[] then some enZ else I9 (U8 (U8 note 0 200).2.1 (U8 note 0 200).2.2 200).1)=some g):Xb note=if Xm e g=some note then some e else none:=by
 unfold Xb;dsimp only;rw [QK (by simpa using b),he];simp only [c]
def Cd {s:Bz} {g:En} (h:Gq s g):(if s.toList=[] then some enZ else I9 s)=some g\/(¬ s.toList=[]/\I9 s=none/\2<=g.kind):=by
 rcases h with ⟨b,rfl⟩|⟨b,c|c⟩
 .exact .inl (QK (by simpa using b))
 .exact .inl ((QX (fun h=>by rw [h] at b;cases b)).trans c)
 .exact .inr ⟨(fun h=>by rw [h] at b;cases b),c⟩
def DS {e g:En} {c:Int} (d:Dq (U8 note 0 200).1 e c) (h:Gq (U8 (U8 note 0 200).2.1 (U8 note 0 200).2.2 200).1 g) (hn:¬ Xm e g=some note):Xb note=none:=by
 rcases d with ⟨f,b⟩|⟨f,b|⟨b,i⟩⟩
 .exact Kz b
 .rcases Cd h with h4|⟨h4,h5,_⟩
  .cases h0:(Yj (U8 (U8 note 0 200).2.1 (U8 note 0 200).2.2 200).2.1 (U8 (U8 note 0 200).2.1 (U8 note 0 200).2.2 200).2.2 == 0) with
   |false=>exact Np h0
   |true=>rw [LU b h0 h4,QX hn]
  .exact GM h4 h5
 .exact Kz b
def TU {e g:En} {c:Int} (f:Dq (U8 note 0 200).1 e c) (k:(c == 0)=true) (h:(Yj (U8 (U8 note 0 200).2.1 (U8 note 0 200).2.2 200).2.1 (U8 (U8 note 0 200).2.1 (U8 note 0 200).2.2 200).2.2 == 0)=true) (j:Gq (U8 (U8 note 0 200).2.1 (U8 note 0 200).2.2 200).1 g) (hn:Xm e g=some note):Xb note=some e:=by
 rcases f with ⟨b,_⟩|⟨b,d|⟨d,i⟩⟩
 .rw [k] at b;cases b
 .rcases Cd j with h4|⟨_,_,h5⟩
  .rw [LU d h h4,QK hn]
  .rw [RO h5] at hn;cases hn
 .rw [Wb i] at hn;cases hn
end
def BS (h:((ec == 0)=false/\o=none)\/((ec == 0)=true/\o=some es)) (b:(ec == 0)=false\/(es.toList == note.toList)=false):¬ o=some note:=by
 rcases h with ⟨_,h⟩|⟨d,h⟩
 .rw [h];simp
 .rw [h];intro c;injection c with c
  rcases b with b|b
  .rw [d] at b;cases b
  .rw [c] at b;simp at b
def pm (h:((ec == 0)=false/\o=none)\/((ec == 0)=true/\o=some es)) (d:(ec == 0)=true) (b:(es.toList == note.toList)=true):o=some note:=by
 rcases h with ⟨c,_⟩|⟨_,h⟩
 .rw [d] at c;cases c
 .rw [h];rw [Jw] at b;simpa using b
def ParG (note:Bz) (w:Wd) (x:Ending) (w':Wd):Prop:=(match Xb note with
 |none=>x=.returned (.tuple #[.agg (enC enZ enN).toArray,.agg (enC enZ enN).toArray,.int .i64 11])
 |some e=>∃ (a:EnA) (g:En) (b:EnA),x=.returned (.tuple #[.agg (enC e a).toArray,.agg (enC g b).toArray,.int .i64 0]))/\Below w.1.size w w'
def ParG.none (h:Xb note=none) (b:Below w.1.size w w'):ParG note w (.returned (.tuple #[.agg (enC enZ enN).toArray,.agg (enC enZ enN).toArray,.int .i64 11])) w':=⟨by rw [h],b⟩
def ParG.some {e g:En} {b:EnA} (h:Xb note=some e) (c:Below w.1.size w w'):ParG note w (.returned (.tuple #[.agg (enC e a).toArray,.agg (enC g b).toArray,.int .i64 0])) w':=⟨by rw [h];exact ⟨a,g,b,rfl⟩,c⟩
structure PB (w W:Wd):Prop where
 b1:Blk W w.1.size 144 (enC enZ enN).toArray
 b2:Blk W (w.1.size+1) 144 (enC enZ enN).toArray
 be:Below w.1.size w W
 sz:w.1.size+3<=W.1.size
def PB.far {S:List Nat} (h:PB w W) (b:Far S W W') (d:∀ k∈S,w.1.size+2<=k):PB w W':=
 have hz:=h.sz;have e:∀ k,k<w.1.size+2->k ∉ S:=fun k c f=>by have:=d k f;omega
 ⟨h.b1.far' b (e _ Oo),h.b2.far' b (e _ Oo),h.be.trans (b.below (fun k c=>by have:=d k c;omega) h.be.size),Lx h.sz b.size⟩
def PB.next (h:PB w W) (b:Below W.1.size W W'):PB w W':=h.far (S:=[]) (Far.of_below b) Am
def V4 {P:Program} {j:Func} {d:Array Value} {p f q:Nat} {t i:TypeId} {b g:Nat} {c c2 v:Value} (h:j.results=#[.cell p t,.cell f i,.tmp q]) (r:d.getD p undef=(Ag b 0)) (m:d.getD f undef=(Ag g 0)) (l:d.getD q undef=v)
  (s:(loadVar t ⟨b,0,none⟩).run P W=.ok c W) (n:(loadVar i ⟨g,0,none⟩).run P W=.ok c2 W):(results j d).run P W=.ok (.tuple #[c,c2,v]) W:=by
 have u:d[p]?.getD undef=Ag b 0:=by simpa using r
 have e:d[f]?.getD undef=Ag g 0:=by simpa using m
 have k:d[q]?.getD undef=v:=by simpa using l
 simp [results,h,u,e,k,asAddr,s,n]
def V1 {c b:Nat} {c1 c2 h d:Array Value} (i:Blk W c 144 h) (f:Blk W b 144 d) (hn:c≠b) (g:c1.size=33) (e:c2.size=33):
  (loadVar 144 ⟨c,0,none⟩).run prog ((W.setRow c c1).setRow b c2)=.ok (.agg c1) ((W.setRow c c1).setRow b c2)/\(loadVar 144 ⟨b,0,none⟩).run prog ((W.setRow c c1).setRow b c2)=.ok (.agg c2) ((W.setRow c c1).setRow b c2):=
 ⟨Ux _ c c1 (Uh (QR _ _ _ _ _ _ i) hn) g,Ux _ b c2 (QR _ _ _ _ _ _ (Uh f (Ne.symm hn))) e⟩
def PB.end' (h:PB w W) (c1 c2:Array Value):Below w.1.size w ((W.setRow w.1.size c1).setRow (w.1.size+1) c2):=Uf (Uf h.be (Le _) _) Oo _
def DU (note:Bz) (w:Wd) (hs:note.size<=9223372036854775807) (L:note.size<=maxLen) (ht:Sta w):Calls prog 109 #[.string note] w (ParG note w):=by
 have aP:=(Vf note 0 200).2;have O:=EA note 0;have eN:=EA (U8 note 0 200).2.1 (U8 note 0 200).2.2;have J:=Hd (Np (note:=note));have u:=fun e c=>xg (note:=note) (e:=e) (c:=c)
 have z:=Hd fun g c=>xj (note:=note) (g:=g) (c:=c)
 have q:=Hd fun e g c=>DS (note:=note) (e:=e) (g:=g) (c:=c)
 have dX:=Hd fun e g c=>TU (note:=note) (e:=e) (g:=g) (c:=c)
 obtain ⟨t1,h1⟩:∃ t,U8 note 0 200=t:=⟨_,rfl⟩
 obtain ⟨a1,l1,r1⟩:=t1;simp only [h1] at aP O eN J u z q dX;obtain ⟨t2,h2⟩:∃ t,U8 l1 r1 200=t:=⟨_,rfl⟩
 obtain ⟨a2,l2,r2⟩:=t2;simp only [h2] at eN J u z q dX;have HS:=Hd (And.intro L (show l1.size<=maxLen by unfold maxLen at L ⊢;omega));have HAZ:=Hd (And.intro O eN);have HH:=Hd (And.intro h1 h2);have HO:=Hd (Um enZ enN)
 have HP0:Aw (PB w (((Aa w (enC enZ enN).toArray 144).alloc (.cells (enC enZ enN).toArray 144)).alloc (.cells #[.string note,.int .i64 0] 258))):=
  Hd ⟨((Blk.new w _ _).alloc _).alloc _,(U3 (w.alloc _) _ _ _ Am).alloc _,(Aj.alloc Am _).alloc As _,Am⟩
 clear h1 h2 aP O eN hs L;go_in
 go_wp2_with (first|((with_reducible refine Gb 144 ?_);refine U1 Ak 144 _ rfl ((enC enZ enN).toArray) Ak ?_)|(go_at_call 160;refine (EP note ((Aa w (enC enZ enN).toArray 144).alloc (.cells (enC enZ enN).toArray 144))).mono ?_;rintro x w1 ⟨rfl,rfl⟩;have Y:Aw (Rdr (((Aa w (enC enZ enN).toArray 144).alloc (.cells (enC enZ enN).toArray 144)).alloc (.cells #[.string note,.int .i64 0] 258)) (w.1.size+2) note 0):=Hd (U3 ((Aa w (enC enZ enN).toArray 144).alloc (.cells (enC enZ enN).toArray 144)) _ _ _ Am);rw [show ((Aa w (enC enZ enN).toArray 144).alloc (.cells (enC enZ enN).toArray 144)).1.size=w.1.size+2 from Am])|(go_at_call 161;refine (Kw (w.1.size+2) note 0 200 _ HS.o.1 Y.o Ac Ac).mono ?_;rintro x w2 ⟨rfl,Q,Z⟩;have bZ:Aw (Rdr w2 (w.1.size+2) l1 r1):=Hd (by rw [HH.o.1] at Q;exact Q);have HP2:Aw (PB w w2):=Hd (HP0.o.far Z Am);rw [HH.o.1];clear Q Z Y)|(go_at_call 161;refine (Kw (w.1.size+2) l1 r1 200 _ HS.o.2 bZ.o Ac Ac).mono ?_;rintro x w3 ⟨rfl,Q,Z⟩;have HR3:Aw (Rdr w3 (w.1.size+2) l2 r2):=Hd (by rw [HH.o.2] at Q;exact Q);have l:Aw (PB w w3):=Hd (HP2.o.far Z Am);rw [HH.o.2];clear Q Z bZ)|(go_at_call 162;refine (Gs _ _ _ _ HR3.o).mono ?_;rintro x w4 ⟨rfl,rfl⟩;obtain ⟨ne,aS⟩:=yG (Yj l2 r2);simp only [aS] at J u z q dX ⊢;clear aS;rcases (show ((ne == 0)=false/\(ne != 0)=true)\/((ne == 0)=true/\(ne != 0)=false) by unfold bne;cases (ne == 0)<;>simp) with ⟨b1,b2⟩|⟨b1,b2⟩)|((with_reducible refine Gt 144 2 ?_);refine Lv 144 w.1.size ((enC enZ enN).toArray) (by first|exact b.o.b1|exact l.o.b1) HO.o ?_)|((with_reducible refine Gt 144 3 ?_);refine Lv 144 (w.1.size+1) ((enC enZ enN).toArray) (by first|exact Uh b.o.b2 Oo|exact Uh l.o.b2 Oo) HO.o ?_)|(go_at_call 163;(with_reducible show Calls _ _ #[.string a1] _ _);refine (GS a1 _ (by have:=HAZ.o.1;omega) (ht.after l.o.be)).mono ?_;rintro x d ⟨⟨o,a,hp,hq,rfl⟩,m⟩;obtain ⟨e,i,c,A,F,L,V,U,cQ⟩:=SC hp hq;rw [A];have I:=Hd (l.o.next m);have jY:=Hd F;have y:=Hd (And.intro L (And.intro V U));have N:=Hd cQ;have cP:=Hd fun j=>Blk.new d 144 j;have HS5:=Hd fun j=>U5 d j (enC e i).toArray 144;have HO5:=Hd (Um e i);have cY:Aw (∀ j,Blk ((Aa d (enC e i).toArray 144).alloc (.cells j 144)) (d.1.size+1) 144 j):=Hd fun j=>U3 (Aa d (enC e i).toArray 144) _ _ _ Am;have HS6:Aw (∀ j,((Aa d (enC e i).toArray 144).alloc (.cells j 144)).setRow (d.1.size+1) (enC enZ enN).toArray=((Aa d (enC e i).toArray 144).alloc (.cells (enC enZ enN).toArray 144))):=Hd fun j=>X6 (Aa d (enC e i).toArray 144) (d.1.size+1) Am j (enC enZ enN).toArray 144;have G:Aw (Blk ((Aa d (enC e i).toArray 144).alloc (.cells (enC enZ enN).toArray 144)) d.1.size 144 (enC e i).toArray/\Blk ((Aa d (enC e i).toArray 144).alloc (.cells (enC enZ enN).toArray 144)) (d.1.size+1) 144 (enC enZ enN).toArray):=Hd ⟨(Blk.new d _ _).alloc _,U3 (Aa d (enC e i).toArray 144) _ _ _ Am⟩;have bM:Aw (Below d.1.size d ((Aa d (enC e i).toArray 144).alloc (.cells (enC enZ enN).toArray 144))):=Hd (Aj.alloc Am _);have H:Aw (PB w ((Aa d (enC e i).toArray 144).alloc (.cells (enC enZ enN).toArray 144))):=Hd (I.o.next bM.o);clear A F L V U cQ hp hq m;rcases (show ((c == 0)=false/\(c != 0)=true)\/((c == 0)=true/\(c != 0)=false/\(a2.toList == [])=true)\/((c == 0)=true/\(c != 0)=false/\(a2.toList == [])=false) by unfold bne;cases (c == 0)<;>cases (a2.toList == [])<;>simp) with ⟨c1,c2⟩|⟨c1,c2,q2⟩|⟨c1,c2,q2⟩)|(go_at_call 163;(with_reducible show Calls _ _ #[.string a2] _ _);refine (GS a2 _ (by have:=HAZ.o.2;omega) (ht.after H.o.be)).mono ?_;rintro x M ⟨⟨o,a,hp,hq,rfl⟩,m⟩;obtain ⟨g,n,c3,A,F,L,V,U,cQ⟩:=SC hp hq;rw [A];have HP8:=Hd (H.o.next m);have s:=Hd F;have wU:=Hd (And.intro L (And.intro V U));have wK:=Hd (Um g n);have P:=Hd (And.intro (G.o.1.below m G.o.1.lt) (G.o.2.below m G.o.2.lt));have r:Aw (Blk (M.setRow (d.1.size+1) (enC g n).toArray) d.1.size 144 (enC e i).toArray/\Blk (M.setRow (d.1.size+1) (enC g n).toArray) (d.1.size+1) 144 (enC g n).toArray):=Hd ⟨Uh P.o.1 Oo,QR _ _ _ _ _ _ P.o.2⟩;have X:Aw (Far [d.1.size+1] M (M.setRow (d.1.size+1) (enC g n).toArray)):=Hd (Cn _ _ _);have iZ:Aw (PB w (M.setRow (d.1.size+1) (enC g n).toArray)):=Hd (HP8.o.far X.o (by have:=I.o.sz;simp;omega));have T:Aw (EW [] (M.setRow (d.1.size+1) (enC g n).toArray) e i):=Hd ((((N.o.ew0.fresh (S:=[d.1.size+1]) bM.o Am).below m).far X.o (fun _ h=>h)).less Am);have HGWR:Aw (EW [] (M.setRow (d.1.size+1) (enC g n).toArray) g n):=Hd (cQ.row Am _);clear A F L V U cQ hp hq m;have gV:=Hd c1;clear c1 c2;rcases (show ((c3 == 0)=false/\(c3 != 0)=true)\/((c3 == 0)=true/\(c3 != 0)=false) by unfold bne;cases (c3 == 0)<;>simp) with ⟨c1,c2⟩|⟨c1,c2⟩)|((with_reducible refine Gt 144 8 ?_);refine Lv 144 d.1.size ((enC e i).toArray) (cP.o _) HO5.o ?_;rw [HS5.o])|((with_reducible refine Gt 144 10 ?_);refine Lv 144 (d.1.size+1) ((enC g n).toArray) P.o.2 wK.o ?_)|((with_reducible refine Gt 144 10 ?_);refine Lv 144 (d.1.size+1) ((enC enZ enN).toArray) (cY.o _) HO.o ?_;rw [HS6.o])|((with_reducible refine Gl 144 8 ?_);refine Lq 144 d.1.size ((enC e i).toArray) (by first|exact r.o.1|exact G.o.1) underlying144 ?_)|((with_reducible refine Gl 144 10 ?_);refine Lq 144 (d.1.size+1) ((enC g n).toArray) r.o.2 underlying144 ?_)|((with_reducible refine Gl 144 10 ?_);refine Lq 144 (d.1.size+1) ((enC enZ enN).toArray) G.o.2 underlying144 ?_)|(go_at_call 164;refine (RN e g i n (M.setRow (d.1.size+1) (enC g n).toArray) T.o HGWR.o y.o.1 wU.o.1 y.o.2.1 y.o.2.2 wU.o.2.1 wU.o.2.2 (ht.after iZ.o.be)).mono ?_;rintro x R ⟨rfl,m⟩;obtain ⟨es,ec,C,E⟩:=So (Xm e g);rw [C];have b:=Hd (iZ.o.next m);have p:=Hd E;have B:=Hd (And.intro (r.o.1.below m r.o.1.lt) (r.o.2.below m r.o.2.lt));clear C E m;rcases (show ((ec == 0)=false/\(ec != 0)=true)\/((ec == 0)=true/\(ec != 0)=false/\(es.toList == note.toList)=false)\/((ec == 0)=true/\(ec != 0)=false/\(es.toList == note.toList)=true) by unfold bne;cases (ec == 0)<;>cases (es.toList == note.toList)<;>simp) with ⟨n1,n2⟩|⟨n1,n2,n3⟩|⟨n1,n2,n3⟩)|(go_at_call 164;refine (RN e enZ i enN ((Aa d (enC e i).toArray 144).alloc (.cells (enC enZ enN).toArray 144)) (N.o.ew0.below bM.o) (Co _ _) y.o.1 (And.intro Hf (And.intro (show (0:Int)<=enZ.kind from Ac) (show enZ.kind<=4 from Ac))).1 y.o.2.1 y.o.2.2 (And.intro Hf (And.intro (show (0:Int)<=enZ.kind from Ac) (show enZ.kind<=4 from Ac))).2.1 (And.intro Hf (And.intro (show (0:Int)<=enZ.kind from Ac) (show enZ.kind<=4 from Ac))).2.2 (ht.after H.o.be)).mono ?_;rintro x R ⟨rfl,m⟩;obtain ⟨es,ec,C,E⟩:=So (Xm e enZ);rw [C];have b:=Hd (H.o.next m);have p:=Hd E;have B:=Hd (And.intro (G.o.1.below m G.o.1.lt) (G.o.2.below m G.o.2.lt));clear C E m;rcases (show ((ec == 0)=false/\(ec != 0)=true)\/((ec == 0)=true/\(ec != 0)=false/\(es.toList == note.toList)=false)\/((ec == 0)=true/\(ec != 0)=false/\(es.toList == note.toList)=true) by unfold bne;cases (ec == 0)<;>cases (es.toList == note.toList)<;>simp) with ⟨n1,n2⟩|⟨n1,n2,n3⟩|⟨n1,n2,n3⟩))
 .exact Br (v:=.tuple #[.agg (enC enZ enN).toArray,.agg (enC enZ enN).toArray,.int .i64 11]) (V4 results109 rfl rfl rfl (V1 l.o.b1 l.o.b2 Oo (by simp [enC]) (by simp [enC])).1 (V1 l.o.b1 l.o.b2 Oo (by simp [enC]) (by simp [enC])).2) rfl (ParG.none (J.o b1) (l.o.end' _ _))
 .exact Br (v:=.tuple #[.agg (enC enZ enN).toArray,.agg (enC enZ enN).toArray,.int .i64 11]) (V4 results109 rfl rfl rfl (V1 b.o.b1 b.o.b2 Oo (by simp [enC]) (by simp [enC])).1 (V1 b.o.b1 b.o.b2 Oo (by simp [enC]) (by simp [enC])).2) rfl (ParG.none (u e c jY.o c1) (b.o.end' _ _))
 .exact Br (v:=.tuple #[.agg (enC enZ enN).toArray,.agg (enC enZ enN).toArray,.int .i64 11]) (V4 results109 rfl rfl rfl (V1 b.o.b1 b.o.b2 Oo (by simp [enC]) (by simp [enC])).1 (V1 b.o.b1 b.o.b2 Oo (by simp [enC]) (by simp [enC])).2) rfl (ParG.none (u e c jY.o c1) (b.o.end' _ _))
 .exact Br (v:=.tuple #[.agg (enC enZ enN).toArray,.agg (enC enZ enN).toArray,.int .i64 11]) (V4 results109 rfl rfl rfl (V1 b.o.b1 b.o.b2 Oo (by simp [enC]) (by simp [enC])).1 (V1 b.o.b1 b.o.b2 Oo (by simp [enC]) (by simp [enC])).2) rfl (ParG.none (u e c jY.o c1) (b.o.end' _ _))
 .exact Br (v:=.tuple #[.agg (enC enZ enN).toArray,.agg (enC enZ enN).toArray,.int .i64 11]) (V4 results109 rfl rfl rfl (V1 b.o.b1 b.o.b2 Oo (by simp [enC]) (by simp [enC])).1 (V1 b.o.b1 b.o.b2 Oo (by simp [enC]) (by simp [enC])).2) rfl (ParG.none (q.o e enZ c jY.o (.inl ⟨q2,rfl⟩) (BS p.o (.inl n1))) (b.o.end' _ _))
 .exact Br (v:=.tuple #[.agg (enC enZ enN).toArray,.agg (enC enZ enN).toArray,.int .i64 11]) (V4 results109 rfl rfl rfl (V1 b.o.b1 b.o.b2 Oo (by simp [enC]) (by simp [enC])).1 (V1 b.o.b1 b.o.b2 Oo (by simp [enC]) (by simp [enC])).2) rfl (ParG.none (q.o e enZ c jY.o (.inl ⟨q2,rfl⟩) (BS p.o (.inr n3))) (b.o.end' _ _))
 .have HXd:Blk R.drew d.1.size 144 (enC e i).toArray/\Blk R.drew (d.1.size+1) 144 (enC enZ enN).toArray:=⟨B.o.1,B.o.2⟩
  have f:PB w R.drew:=b.o.next (Bf _ _).drew;have aM:w.1.size+3<=d.1.size:=I.o.sz;refine Rw (S:=fun w'=>Blk w' d.1.size 144 (enC e i).toArray/\Blk w' (d.1.size+1) 144 (enC enZ enN).toArray) Ak HXd (fun k=>?_);apply tR 0 (fun _ h=>h.1) k;apply tR 1 (fun _ h=>h.2) k;apply Aq [2];refine Rc (fun K D=>?_) ?_
  .apply KH 144 _ _ rfl w.1.size ((enC e i).toArray) rfl rfl 144 _ f.b1 Ak rfl (Um _ _);refine D.out _ _ ⟨Uh k.1 Oo,Uh k.2 Oo⟩ (fun k=>?_);clear D K;try simp only [Act.put]
   apply Aq [3];refine Rc (fun K D=>?_) ?_
   .apply KH 144 _ _ rfl (w.1.size+1) ((enC enZ enN).toArray) rfl rfl 144 _ (Uh f.b2 Oo) Ak rfl (Um _ _);refine D.out _ _ ⟨Uh k.1 Oo,Uh k.2 Oo⟩ (fun k=>?_);clear D K;try simp only [Act.put]
    apply tA 4 k;refine Ad Ak ?_ _;clear k;go_wp2;exact Br (v:=.tuple #[.agg (enC e i).toArray,.agg (enC enZ enN).toArray,.int .i64 0]) (V4 results109 rfl rfl rfl (V1 f.b1 f.b2 Oo (by simp [enC]) (by simp [enC])).1 (V1 f.b1 f.b2 Oo (by simp [enC]) (by simp [enC])).2) rfl (ParG.some (dX.o e enZ c jY.o c1 b1 (.inl ⟨q2,rfl⟩) (pm p.o n1 n3)) (f.end' _ _))
   exact An
  exact An
 .exact Br (v:=.tuple #[.agg (enC enZ enN).toArray,.agg (enC enZ enN).toArray,.int .i64 11]) (V4 results109 rfl rfl rfl (V1 b.o.b1 b.o.b2 Oo (by simp [enC]) (by simp [enC])).1 (V1 b.o.b1 b.o.b2 Oo (by simp [enC]) (by simp [enC])).2) rfl (ParG.none (z.o g c3 q2 s.o c1) (b.o.end' _ _))
 .exact Br (v:=.tuple #[.agg (enC enZ enN).toArray,.agg (enC enZ enN).toArray,.int .i64 11]) (V4 results109 rfl rfl rfl (V1 b.o.b1 b.o.b2 Oo (by simp [enC]) (by simp [enC])).1 (V1 b.o.b1 b.o.b2 Oo (by simp [enC]) (by simp [enC])).2) rfl (ParG.none (z.o g c3 q2 s.o c1) (b.o.end' _ _))
 .exact Br (v:=.tuple #[.agg (enC enZ enN).toArray,.agg (enC enZ enN).toArray,.int .i64 11]) (V4 results109 rfl rfl rfl (V1 b.o.b1 b.o.b2 Oo (by simp [enC]) (by simp [enC])).1 (V1 b.o.b1 b.o.b2 Oo (by simp [enC]) (by simp [enC])).2) rfl (ParG.none (z.o g c3 q2 s.o c1) (b.o.end' _ _))
 .exact Br (v:=.tuple #[.agg (enC enZ enN).toArray,.agg (enC enZ enN).toArray,.int .i64 11]) (V4 results109 rfl rfl rfl (V1 b.o.b1 b.o.b2 Oo (by simp [enC]) (by simp [enC])).1 (V1 b.o.b1 b.o.b2 Oo (by simp [enC]) (by simp [enC])).2) rfl (ParG.none (q.o e g c jY.o (Gq.of q2 s.o c1) (BS p.o (.inl n1))) (b.o.end' _ _))
 .exact Br (v:=.tuple #[.agg (enC enZ enN).toArray,.agg (enC enZ enN).toArray,.int .i64 11]) (V4 results109 rfl rfl rfl (V1 b.o.b1 b.o.b2 Oo (by simp [enC]) (by simp [enC])).1 (V1 b.o.b1 b.o.b2 Oo (by simp [enC]) (by simp [enC])).2) rfl (ParG.none (q.o e g c jY.o (Gq.of q2 s.o c1) (BS p.o (.inr n3))) (b.o.end' _ _))
 .have HXd:Blk R.drew d.1.size 144 (enC e i).toArray/\Blk R.drew (d.1.size+1) 144 (enC g n).toArray:=⟨B.o.1,B.o.2⟩
  have f:PB w R.drew:=b.o.next (Bf _ _).drew;have aM:w.1.size+3<=d.1.size:=I.o.sz;refine Rw (S:=fun w'=>Blk w' d.1.size 144 (enC e i).toArray/\Blk w' (d.1.size+1) 144 (enC g n).toArray) Ak HXd (fun k=>?_);apply tR 0 (fun _ h=>h.1) k;apply tR 1 (fun _ h=>h.2) k;apply Aq [2];refine Rc (fun K D=>?_) ?_
  .apply KH 144 _ _ rfl w.1.size ((enC e i).toArray) rfl rfl 144 _ f.b1 Ak rfl (Um _ _);refine D.out _ _ ⟨Uh k.1 Oo,Uh k.2 Oo⟩ (fun k=>?_);clear D K;try simp only [Act.put]
   apply Aq [3];refine Rc (fun K D=>?_) ?_
   .apply KH 144 _ _ rfl (w.1.size+1) ((enC g n).toArray) rfl rfl 144 _ (Uh f.b2 Oo) Ak rfl (Um _ _);refine D.out _ _ ⟨Uh k.1 Oo,Uh k.2 Oo⟩ (fun k=>?_);clear D K;try simp only [Act.put]
    apply tA 4 k;refine Ad Ak ?_ _;clear k;go_wp2;exact Br (v:=.tuple #[.agg (enC e i).toArray,.agg (enC g n).toArray,.int .i64 0]) (V4 results109 rfl rfl rfl (V1 f.b1 f.b2 Oo (by simp [enC]) (by simp [enC])).1 (V1 f.b1 f.b2 Oo (by simp [enC]) (by simp [enC])).2) rfl (ParG.some (dX.o e g c jY.o gV.o b1 (Gq.of q2 s.o c1) (pm p.o n1 n3)) (f.end' _ _))
   exact An
  exact An
end
noncomputable def Uq (rcd:Bz) (id:Int):Option DSet:=match Xb rcd with
 |none=>none
 |some e=>if e.d.id=id then some e.d else none
def PD {W:Wd} {g:Nat} {e:En} {a:EnA} (h:Blk W g 144 (enC e a).toArray):W.rangeAt g 2 (dC e.d):=fun j v b=>by
 have c:j<21:=(QZ.1 b).1;have d:=Jj e a j c;rw [h.cell,<-b,<-d];simp
def TH (W:Wd) (b:Nat) (cs:Array Value) (h:Blk W b 34 cs) (a:cs.size=21):(loadVar 34 ⟨b,0,none⟩).run prog W=.ok (.agg cs) W:=
 ZQ W b 34 34 cs (0,0) _ h underlying34 rfl (by rw [a];kernel_rfl)
structure TB (c:Chg) (e:En) (a:EnA) (p:Nat) (w W:Wd):Prop where
 b0:Blk W w.1.size 50 (chC c).toArray
 b1:Blk W (w.1.size+1) 34 (dC dZ).toArray
 b2:Blk W p 144 (enC e a).toArray
 be:Below w.1.size w W
 lt:w.1.size+2<=p
def pf {c:Chg} {e g:En} {a b:EnA} {w W:Wd} (i:Blk W w.1.size 50 (chC c).toArray) (f:Blk W (w.1.size+1) 34 (dC dZ).toArray) (d:Below w.1.size w W) (h j:Array Value):
  TB c e a W.1.size w ((((W.alloc (.cells h 144)).alloc (.cells j 144)).setRow W.1.size (enC e a).toArray).setRow (W.1.size+1) (enC g b).toArray):=
 have k:=f.lt
 ⟨Uh (Uh ((i.alloc _).alloc _) Oo) Oo,Uh (Uh ((f.alloc _).alloc _) Oo) Oo,Uh (QR _ _ h _ _ _ ((Blk.new W _ _).alloc _)) Oo,
  Uf (Uf ((d.alloc d.size _).alloc (by have:=d.size;simp;omega) _) (by have:=d.size;omega) _) (by have:=d.size;omega) _,Oo⟩
def js (e:En) (q:Bool) (w:Wd) (x:Ending) (w':Wd):Prop:=x=.returned (.tuple #[.agg (dC e.d).toArray,.bool q])/\Below w.1.size w w'
def jQ (e:En) (k:Int) (w:Wd) (x:Ending) (w':Wd):Prop:=(∃ (a:EnA) (g:En) (b:EnA),x=.returned (.tuple #[.agg (enC e a).toArray,.agg (enC g b).toArray,.int .i64 k]))/\Below w.1.size w w'
abbrev yx (c:Wd) (e) (a) (g) (b):=(((c.alloc (.cells (enC enZ enN).toArray 144)).alloc (.cells (enC enZ enN).toArray 144)).setRow c.1.size (enC e a).toArray).setRow (c.1.size+1) (enC g b).toArray
def lF {G:Prop} (h:G:=by
  refine KH 34 _ _ rfl (w.1.size+1) (dC e.d).toArray rfl rfl 34 _ HTd.o.b1 Ak rfl (Xc _) ?_;refine hK.out _ _ ⟨Uh Hh.1 Oo,Uh Hh.2 (by have:=HTd.o.lt;omega)⟩ (fun Hh=>?_);clear hK K;try simp only [Act.put]
  refine tA 13 Hh ?_;refine Ad Ak ?_ _;clear Hh;go_wp2;have fD:=TH ((yx w5 e a g b).drew.setRow (w.1.size+1) (dC e.d).toArray) (w.1.size+1) _ (QR _ _ _ _ _ _ HTd.o.b1) rfl
  first
   |exact Br (v:=.tuple #[.agg (dC e.d).toArray,.bool (e.d.id == c.id)]) (U2 results75 rfl rfl fD) rfl ⟨Am,Uf HTd.o.be Oo _⟩
   |exact Br (v:=.tuple #[.agg (dC e.d).toArray,.bool false]) (U2 results75 rfl rfl fD) rfl ⟨Am,Uf HTd.o.be Oo _⟩):G:=h
abbrev TR (w:Wd) (c):=(w.alloc (.cells (chC c).toArray 50)).alloc (.cells (dC dZ).toArray 34)
abbrev sF (a:Wd) (o1) (o2):=(a.alloc (.cells o1 144)).alloc (.cells o2 144)
def Bt (c:Chg) (e:En) (k:Int) (w:Wd) (s:k=0\/k=11)
  (p:Calls prog 109 #[.string c.rcd] (TR w c) (jQ e k (TR w c))):
  Calls prog 75 #[.agg (chC c).toArray] w (js e ((k == 0)&&(e.d.id == c.id)) w):=by
 have r:=Hd p;have c3:∀ o,((w.alloc (.cells (chC c).toArray 50)).alloc (.cells o 34)).cell? ⟨w.1.size,3,none⟩=some (.string c.rcd):=fun o=>(((Blk.new w 50 (chC c).toArray).alloc _).cell 3).trans rfl
 have j:Aw (Blk (TR w c) w.1.size 50 (chC c).toArray/\Blk (TR w c) (w.1.size+1) 34 (dC dZ).toArray/\Below w.1.size w (TR w c)):=Hd ⟨(Blk.new w _ _).alloc _,U3 (w.alloc _) _ _ _ Am,Aj.alloc Am _⟩;clear p;rcases s with rfl|rfl
 .go_in;go_wp2_with (first|(go_at_call 109;refine r.o.mono ?_;rintro x w5 ⟨⟨a,g,b,rfl⟩,l⟩;have q:Aw (∀ i f,Blk (sF w5 i f) w5.1.size 144 i):=Hd fun i f=>(Blk.new w5 _ _).alloc _;have n:Aw (∀ i f,Blk (sF w5 i f) (w5.1.size+1) 144 f):=Hd fun i f=>U3 (w5.alloc _) _ _ _ Am;have d:Aw (TB c e a w5.1.size w (yx w5 e a g b)):=Hd (pf (g:=g) (b:=b) (j.o.1.below l j.o.1.lt) (j.o.2.1.below l j.o.2.1.lt) (U0 j.o.2.2 l j.o.2.2.size) _ _);clear l c3)|(with_reducible refine yS 144 4 (q.o _ _) (Um _ _) ?_)|(with_reducible refine yS 144 5 (Uh (n.o _ _) Oo) (Um _ _) ?_));have HTd:Aw (TB c e a w5.1.size w (yx w5 e a g b).drew):=Hd ⟨d.o.b0,d.o.b1,d.o.b2,d.o.be.drew,d.o.lt⟩
  refine Rw (S:=fun w'=>Blk w' w.1.size 50 (chC c).toArray/\Blk w' w5.1.size 144 (enC e a).toArray) Ak ⟨HTd.o.b0,HTd.o.b2⟩ (fun Hh=>?_);refine tA 0 Hh ?_;refine tk 1 (.agg (dC e.d).toArray) Hh ?_ (y:=by exact WT Af 34 _ rfl w5.1.size 2 rfl (dC e.d) _ (fun w' m=>PD m.2) underlying34 rfl Ak)
  iterate 5 refine tB Hh ?_
  refine tj 7 (.int .i64 e.d.id) Hh ?_ (y:=by intro w' m;have t:=m.2.ce 2 (.int .i64 e.d.id);go_simp);refine tA 8 Hh ?_;refine tj 9 (.int .i64 c.id) Hh ?_ (y:=by intro w' m;have t:=m.1.ce 1 (.int .i64 c.id);go_simp)
  iterate 2 refine tB Hh ?_
  refine Aq [12] ?_;refine Rc (fun K hK=>?_) ?_
  .exact lF
  exact An
 .go_in;go_wp2_with (first|(go_at_call 109;refine r.o.mono ?_;rintro x w5 ⟨⟨a,g,b,rfl⟩,l⟩;have q:Aw (∀ i f,Blk (sF w5 i f) w5.1.size 144 i):=Hd fun i f=>(Blk.new w5 _ _).alloc _;have n:Aw (∀ i f,Blk (sF w5 i f) (w5.1.size+1) 144 f):=Hd fun i f=>U3 (w5.alloc _) _ _ _ Am;have d:Aw (TB c e a w5.1.size w (yx w5 e a g b)):=Hd (pf (g:=g) (b:=b) (j.o.1.below l j.o.1.lt) (j.o.2.1.below l j.o.2.1.lt) (U0 j.o.2.2 l j.o.2.2.size) _ _);clear l c3)|(with_reducible refine yS 144 4 (q.o _ _) (Um _ _) ?_)|(with_reducible refine yS 144 5 (Uh (n.o _ _) Oo) (Um _ _) ?_));have HTd:Aw (TB c e a w5.1.size w (yx w5 e a g b).drew):=Hd ⟨d.o.b0,d.o.b1,d.o.b2,d.o.be.drew,d.o.lt⟩
  refine Rw (S:=fun w'=>Blk w' w.1.size 50 (chC c).toArray/\Blk w' w5.1.size 144 (enC e a).toArray) Ak ⟨HTd.o.b0,HTd.o.b2⟩ (fun Hh=>?_);refine tA 0 Hh ?_;refine tk 1 (.agg (dC e.d).toArray) Hh ?_ (y:=by exact WT Af 34 _ rfl w5.1.size 2 rfl (dC e.d) _ (fun w' m=>PD m.2) underlying34 rfl Ak)
  iterate 3 refine tB Hh ?_
  refine tku 5 Hh ?_;refine tku 6 Hh ?_;refine tku 7 Hh ?_;refine tku 8 Hh ?_;refine tku 9 Hh ?_;refine tku 10 Hh ?_;refine tA 11 Hh ?_;refine Aq [12] ?_;refine Rc (fun K hK=>?_) ?_
  .exact lF
  exact An
def zw (c:Chg) (w:Wd) (i:c.rcd.size<=maxLen) (j:Sta w):Calls prog 75 #[.agg (chC c).toArray] w (pE (Uq c.rcd c.id) c.id w):=by
 have k:Below w.1.size w (TR w c):=Aj.alloc Am _;have h:=DU c.rcd (TR w c) (by unfold maxLen at i;omega) i (j.after k);unfold Uq;unfold ParG at h;cases f:Xb c.rcd with
 |none=>
  rw [f] at h;exact (Bt c enZ 11 w (.inr rfl) (h.mono fun _ _ d=>⟨⟨enN,enZ,enN,d.1⟩,d.2⟩)).mono fun _ _ a=>⟨⟨_,a.1⟩,a.2⟩
 |some e=>
  rw [f] at h;have g:=Bt c e 0 w (.inl rfl) (h.mono fun _ _ d=>d);by_cases b:e.d.id=c.id
  .simp only [QK b];exact g.mono fun _ _ a=>⟨⟨b,by rw [a.1,b];simp⟩,a.2⟩
  .simp only [QX b];exact g.mono fun _ _ a=>⟨⟨e.d,by rw [a.1];simp [b]⟩,a.2⟩
section
variable {s:List PC} {id:Int}
def NdP (s:List PC):Prop:=(s.map (·.d.id)).Nodup
def putR:List PC->PC->List PC
 | [],x=>[x]
 |y::r,x=>if y.d.id=x.d.id then x::r else y::putR r x
def AM:List PC->Int->List PC
 | [],_=>[]
 |y::r,i=>if y.d.id=i then r else y::AM r i
def Hk:∀ (s:List PC) (x:PC),Eo s x=putR s x
 | [],x=>rfl
 |y::r,x=>by
  have b:=Hk r x;unfold Eo at b ⊢;rw [ZF];unfold putR;by_cases h:y.d.id=x.d.id
  .have hi:isP x.d.id y=true:=by simp [isP,h]
   rw [hi,QK h];simp
  .have hi:isP x.d.id y=false:=by simp [isP,h]
   rw [hi,QX h,<-b];simp only [QS,Nat.add_lt_add_iff_right,cond_false];by_cases a:r.findIdx (isP x.d.id)<r.length
   .rw [QK a,QK a];rfl
   .rw [QX a,QX a];rfl
def Hx:∀ (s:List PC) (i:Int),Ji s i=AM s i
 | [],i=>rfl
 |y::r,i=>by
  have a:=Hx r i;unfold Ji at a ⊢;rw [ZF];unfold AM;by_cases h:y.d.id=i
  .have hi:isP i y=true:=by simp [isP,h]
   rw [hi,QK h];rfl
  .have hi:isP i y=false:=by simp [isP,h]
   rw [hi,QX h,<-a];rfl
def vG (id:Int):Vc [] id=none:=rfl
def Vq (y:PC) (r:List PC) (id:Int):Vc (y::r) id=if y.d.id=id then some y else Vc r id:=by
 unfold Vc;rw [List.find?_cons];by_cases h:y.d.id=id
 .have hi:isP id y=true:=by simp [isP,h]
  rw [hi,QK h]
 .have hi:isP id y=false:=by simp [isP,h]
  rw [hi,QX h]
def vH {x:PC} (h:Vc s id=some x):x∈s:=ZC h
def Mg (s:List PC) (x:PC) (id:Int):Vc (Eo s x) id=if x.d.id=id then some x else Vc s id:=by
 rw [Hk];induction s with
 |nil=>rw [putR,Vq]
 |cons y r b=>
  rw [putR,Vq];by_cases h:y.d.id=x.d.id
  .rw [QK h,Vq];by_cases a:x.d.id=id
   .rw [QK a,QK a]
   .rw [QX a,QX a,QX (by rw [h];exact a)]
  .rw [QX h,Vq,b];by_cases a:y.d.id=id
   .rw [QK a,QK a,QX (by rw [<-a];exact fun e=>h e.symm)]
   .rw [QX a,QX a]
def Ot (h:id ∉ s.map (·.d.id)):Vc s id=none:=by
 unfold Vc;rw [JH];intro x a;simp only [isP,QG];exact fun e=>h (YY.2 ⟨x,a,e⟩)
def Sa (hn:NdP s) (i id:Int):Vc (Ji s i) id=if i=id then none else Vc s id:=by
 rw [Hx];induction s with
 |nil=>rw [AM,vG];simp
 |cons y r b=>
  have hy:y.d.id ∉ r.map (·.d.id):=(List.nodup_cons.1 hn).1;have c:NdP r:=(List.nodup_cons.1 hn).2;rw [AM,Vq];by_cases h:y.d.id=i
  .rw [QK h];by_cases a:i=id
   .rw [QK a];exact Ot (by rw [<-a,<-h];exact hy)
   .rw [QX a,QX (by rw [h];exact a)]
  .rw [QX h,Vq,b c];by_cases a:y.d.id=id
   .rw [QK a,QK a,QX (by rw [<-a];exact fun e=>h e.symm)]
   .rw [QX a,QX a]
def LO:∀ (s:List PC) (x:PC),(putR s x).map (·.d.id)=if x.d.id∈s.map (·.d.id) then s.map (·.d.id) else s.map (·.d.id)++[x.d.id]
 | [],x=>by simp [putR]
 |y::r,x=>by
  rw [putR];by_cases h:y.d.id=x.d.id
  .rw [QK h,WS,WS,h,QK QP]
  .rw [QX h,WS,LO r x,WS];by_cases a:x.d.id∈r.map (·.d.id)
   .rw [QK a,QK (QN _ a)]
   .rw [QX a,QX (by simp only [QH,not_or];exact ⟨fun e=>h e.symm,a⟩)];rfl
def yO (h:NdP s) (x:PC):NdP (Eo s x):=by
 unfold NdP at h ⊢;rw [Hk,LO];split
 .exact h
 .rename_i hx;refine List.nodup_append.2 ⟨h,Am,fun a d b c=>?_⟩;rw [QT] at c;subst c;exact fun e=>hx (e▸d)
def My:∀ (s:List PC) (i:Int),(AM s i).Sublist s
 | [],i=>IJ _
 |y::r,i=>by
  rw [AM];split
  .exact UK _ _
  .exact (My r i).cons_cons y
def nZ (h:NdP s) (i:Int):NdP (Ji s i):=by
 unfold NdP at h ⊢;rw [Hx];exact h.sublist ((My s i).map _)
def ids_get {i:Int}:i∈s.map (·.d.id)<->(Vc s i).isSome=true:=by
 constructor
 .intro h;cases a:Vc s i with
  |some x=>rfl
  |none=>
   obtain ⟨x,b,he⟩:=YY.1 h;have:=JH.1 a x b;simp [isP,he] at this
 .intro h;cases a:Vc s i with
  |none=>rw [a] at h;cases h
  |some x=>exact YY.2 ⟨x,vH a,rU a⟩
def NT {a:Bz} {d:DSet} (h:Uq a id=some d):d.id=id:=by
 unfold Uq at h;split at h
 .cases h
 .split at h
  .rename_i e _ he;injection h with h
   subst h;exact he
  .cases h
end
section
def N3 (s:List PC):Prop:=(s.map (·.d.id)).Pairwise (· < ·)
def Od (id:Int) (s:List PC):Nat:=s.findIdx fun y => !decide (y.d.id<id)
def insP (x:PC) (s:List PC):List PC:=s.take (Od x.d.id s)++x::s.drop (Od x.d.id s)
section
variable (told:Bz->Int->Option DSet) (doF:PC->Int->Chg->Int ⊕ PC)
def IN (a:Int):List Chg->List PC->Option (List PC)
 | [],s=>some s
 |c::r,s=>if (Vc s c.id).isSome=true\/c.kind≠4 then IN a r s else match told c.rcd c.id with
  |none=>none
  |some d=>IN a r (insP ⟨d,a-1,[]⟩ s)
def Fe (a:Int) (cs:List Chg) (s:List PC):Int ⊕ List PC:=match IN told a cs s with
 |none=>.inl 11
 |some b=>Yc told doF a 0 cs b
end
def Jo:List PC->List PC->Option (List PC)
 |s,[]=>some s
 |s,x::r=>if Vi x.d x.ap x.ps=false\/(Vc s x.d.id).isSome=true then none else Jo (insP x s) r
end
end Go.Proofs.YtdleakjejodjjaaGreatDoor
