/- Of the history laws. -/
import Derived.Test.YtdleakjejodjjaaGreatDoorSAH
import Derived.Test.YtdleakjejodjjaaGreatDoorSAF
import Derived.Lib.ConvBytes
namespace Go.Proofs.YtdleakjejodjjaaGreatDoor
open Tryz
set_option linter.defProp false
set_option linter.unusedVariables false
set_option linter.unusedSimpArgs false
set_option maxRecDepth 100000
set_option maxHeartbeats 20000000
open Go.RowKit
section
structure PC where
 d:DSet
 ap:Int
 ps:List Pr
def plC (x:Cnt):PC:=⟨x.d,x.ap,x.ps⟩
def isP (id:Int) (x:PC):Bool:=decide (x.d.id=id)
def Vc (a:List PC) (id:Int):Option PC:=a.find? (isP id)
def Eo (a:List PC) (x:PC):List PC:=if a.findIdx (isP x.d.id)<a.length then a.set (a.findIdx (isP x.d.id)) x else a++[x]
def Ji (a:List PC) (id:Int):List PC:=a.eraseIdx (a.findIdx (isP id))
def vd (id:Int):isP id∘plC=Y5 id:=rfl
def Iy (a:List Cnt) (id:Int):Vc (a.map plC) id=(Yi a id).map plC:=by
 unfold Vc Yi;rw [List.find?_map,vd]
def Pu (a:List Cnt) (id:Int):(a.map plC).findIdx (isP id)=a.findIdx (Y5 id):=by
 rw [List.findIdx_map,vd]
def FC (a:List Cnt) (x:Cnt):Eo (a.map plC) (plC x)=(IR a x).map plC:=by
 unfold Eo IR;rw [show (plC x).d.id=x.d.id from rfl,Pu,XT];split
 .rw [List.map_set]
 .simp
def qx (a:List Cnt) (id:Int):Ji (a.map plC) id=(Mw a id).map plC:=by
 unfold Ji Mw;rw [Pu,YW,YW,XM,UR,US]
def MR (a:List PC) (id:Int):List Pr:=match Vc a id with|some x=>x.ps|none=>[]
def uC (a:List Pr) (r:Rdd):Bz×Bz×Int:=
 if r.kind=0 then (if (Px a r.key).2=0 then (r.key,(Px a r.key).1,0) else (⟨#[]⟩,⟨#[]⟩,6))
 else (if (Ns a r.key).2.2=0 then Ns a r.key else (⟨#[]⟩,⟨#[]⟩,6))
def MW (a:List Pr) (r:Rdd):Bool:=decide ((r.ak,r.ar,r.code)=uC a r)
section
variable (told:Bz->Int->Option DSet) (doF:PC->Int->Chg->Int ⊕ PC)
def Ju (a:Int):List Chg->List PC->Option (List PC)
 | [],s=>some s
 |c::r,s=>if (Vc s c.id).isSome=true\/c.kind≠4 then Ju a r s else match told c.rcd c.id with
  |none=>none
  |some d=>Ju a r (Eo s ⟨d,a-1,[]⟩)
def Yc (a:Int):Nat->List Chg->List PC->Int ⊕ List PC
 |_,[],s=>.inr s
 |i,c::r,s=>match Vc s c.id with
  |none=>Yc a (i+1) r s
  |some x=>
   if c.kind=5 then Yc a (i+1) r (Ji s c.id)
   else if c.kind=6\/c.kind=7 then (match told c.rcd c.id with
    |none=>Yc a (i+1) r s
    |some d=>Yc a (i+1) r (Eo s ⟨d,x.ap,x.ps⟩))
   else if c.kind=4 then Yc a (i+1) r s
   else match doF x (a+i) c with
    |.inl e=>.inl e
    |.inr y=>Yc a (i+1) r (Eo s y)
def aft (a:Int) (cs:List Chg) (s:List PC):Int ⊕ List PC:=match Ju told a cs s with
 |none=>.inl 11
 |some b=>Yc told doF a 0 cs b
def uq:Nat->List Com->List PC->Int ⊕ Option (Nat×Nat)
 |_,[],_=>.inr none
 |i,u::r,s=>
  if u.rs.findIdx (fun x => !MW (MR s x.id) x)<u.rs.length then .inr (some (i,u.rs.findIdx (fun x => !MW (MR s x.id) x)))
  else match aft told doF u.num u.cs s with
   |.inl e=>.inl e
   |.inr s1=>uq (i+1) r s1
variable {told doF}
end
def rU {a:List PC} {id:Int} {x:PC} (h:Vc a id=some x):x.d.id=id:=by
 have:=List.find?_some h;simpa [isP] using this
end
section
variable {y:Cnt} {x:Com} {bs:Nat} {w W W':Wd} {st:List Cnt} {id:Int} {B:Nat} {t:TypeId} {b a:Nat} {wx Y w2:Wd} {c:Chg}
def pE (R:Option DSet) (id:Int) (w:Wd) (e:Ending) (w':Wd):Prop:=(match R with
 |none=>∃ d,e=.returned (.tuple #[.agg (dC d).toArray,.bool false])
 |some d=>d.id=id/\e=.returned (.tuple #[.agg (dC d).toArray,.bool true]))/\Below w.1.size w w'
def DoG (R:Int ⊕ PC) (id:Int) (w:Wd) (e:Ending) (w':Wd):Prop:=match R with
 |.inl er=>er≠0/\e=.returned (.tuple #[.agg zV.toArray,.int .i64 er])/\Below w.1.size w w'
 |.inr y=>∃ z:Cnt,plC z=y/\z.d.id=id/\e=.returned (.tuple #[.agg (cnC z).toArray,.int .i64 0])/\CW w' z/\Below w.1.size w w'
def nbC (n:Int) (c:Chg):List Value:=.int .i64 n::chC c
def SM (c:Chg):(chC c).toArray.all (·.oneCell')=true:=by simp [chC,Value.oneCell']
def jz (R:Int ⊕ List PC) (bs:Nat) (w:Wd) (e:Ending) (w':Wd):Prop:=match R with
 |.inl er=>er≠0/\e=.returned (.int .i64 er)/\Far [bs] w w'
 |.inr s=>∃ st:List Cnt,st.map plC=s/\e=.returned (.int .i64 0)/\SW w' bs st/\Far [bs] w w'
structure AL (x:Com) (bs:Nat) (w W:Wd) (st:List Cnt):Prop where
 sw:SW W bs st
 ub:Blk W w.1.size 42 (Ud x).toArray
 far:Far [bs] w W
 lt:bs<w.1.size
 sz:w.1.size+1<=W.1.size
def Z5 (h:AL x bs w W st) (d:Below W.1.size W W'):AL x bs w W' st:=
 have hz:=h.sz
 ⟨h.sw.below d,h.ub.below d Oo,h.far.trans (Far.of_below d),h.lt,Lx hz d.size⟩
def Bh (h:AL x bs w W st) (hy:CW W y) (e:SB W' bs (IR st y)) (d:Far [bs] W W'):AL x bs w W' (IR st y):=
 have f:=h.lt
 ⟨h.sw.put hy e d,h.ub.far' d As,h.far.trans d,h.lt,Lx h.sz d.size⟩
def mC (h:AL x bs w W st) (e:SB W' bs (Mw st id)) (d:Far [bs] W W'):AL x bs w W' (Mw st id):=
 have f:=h.lt
 ⟨h.sw.del e d,h.ub.far' d As,h.far.trans d,h.lt,Lx h.sz d.size⟩
def uG (h:SW w bs st):AL x bs w (Aa w (Ud x).toArray 42) st:=
 ⟨h.below Aj,Blk.new w _ _,(Far.refl _ _).alloc _,h.sb.lt,Am⟩
def tM {α:Type} {f:α->List Value} {k n c:Nat} {A:Option Addr} {l:List α} {w':Wd} {d:List Cnt} (h:Sl f k w B A n c l) (r:B<=w.1.size) (j:SB w bs st) (i:SB w' bs d) (q:Far [bs] w w'):Sl f k w' B A n c l:=
 h.keep fun p o=>by
  by_cases e:p.block=bs
  .obtain ⟨es,c,hb,_⟩:=j;obtain ⟨m,c',g,_⟩:=i;rw [G0 hb p e,G0 g p e]
  .exact WO (q.block p.block (WK o r) (by simpa using e))
def MB (w:Wd) (d:DSet) (n:Int):CW w ⟨d,n,none,0,0,[]⟩:=⟨Sl.nil,Am,fun _=>rfl,fun q e=>by cases e⟩
def ji (h:CW w y) (d:DSet):CW w ⟨d,y.ap,y.pA,y.pn,y.pc,y.ps⟩:=⟨h.sl,h.le,h.nil,h.rz⟩
def Vx {P:Program} {e:Func} {d:Array Value} {p:Nat} {c:Value} (h:e.results=#[.cell p t]) (f:d.getD p undef=(Ag b 0))
  (g:(loadVar t ⟨b,0,none⟩).run P W=.ok c W):(results e d).run P W=.ok c W:=by
 have i:d[p]?.getD undef=Ag b 0:=by simpa using f
 simp [results,h,i,asAddr,g]
def setL (cs:Array Value):Nat->List Value->Array Value
 |_,[]=>cs
 |o,v::l=>setL (cs.setIfInBounds o v) (o+1) l
def Ke:∀ (l:List Value) (o:Nat) (w:Wd) (cs:Array Value),Blk w b t cs->Blk (w.setCells b o l) b t (setL cs o l)
 | [],_,_,_,h=>h
 |v::l,o,w,cs,h=>Ke l (o+1) (w.setCell ⟨b,o,none⟩ v) (cs.setIfInBounds o v) (h.set o v)
def Zh (d:B<=b):∀ (l:List Value) (o:Nat) (w':Wd),Below B w w'->Below B w (w'.setCells b o l)
 | [],_,_,h=>h
 |v::l,o,w',h=>Zh d l (o+1) (w'.setCell ⟨b,o,none⟩ v) (h.setCell d v)
def tT (y:Cnt) (d:DSet):setL (cnC y).toArray 0 (dC d)=(cnC ⟨d,y.ap,y.pA,y.pn,y.pc,y.ps⟩).toArray:=Ak
def CR {cs:Array Value} (h:Blk w b t cs) (n:Nat) (hn:n<=cs.size):w.there b 0 n:=fun j d=>by
 rw [QB];exact ⟨by rw [h.cell,WI Oo];rfl,h.free _⟩
abbrev MQ (w2:Wd) (d):=w2.alloc (.cells (dC d).toArray 34)
structure AE (x:Com) (bs:Nat) (w:Wd) (st:List Cnt) (y:Cnt) (c:Chg) (d:DSet) (a:Nat) (w2:Wd):Prop where
 th:(MQ w2 d).there (a+1) 0 (dC d).length
 cb:Blk ((MQ w2 d).setCells (a+1) 0 (dC d)) (a+1) 37 (cnC ⟨d,y.ap,y.pA,y.pn,y.pc,y.ps⟩).toArray
 c1:((MQ w2 d).setCells (a+1) 0 (dC d)).cell? ⟨a,1,none⟩=some (.int .i64 c.id)
 put:∃ w4,(Instr.mapUpdate 57 (.map (some bs)) (.int .i64 c.id) (.agg (cnC ⟨d,y.ap,y.pA,y.pn,y.pc,y.ps⟩).toArray)).run prog ((MQ w2 d).setCells (a+1) 0 (dC d))=.ok () w4/\AL x bs w w4 (IR st ⟨d,y.ap,y.pA,y.pn,y.pc,y.ps⟩)
def uH {d:DSet} (o:AL x bs w Y st) (m:Blk Y (a+1) 37 (cnC y).toArray) (n:Blk Y a 50 (chC c).toArray) (hz:Y.1.size=a+2)
  (i:Below Y.1.size Y w2) (e:d.id=c.id) (q:Below wx.1.size wx Y) (r:a=wx.1.size) (l:AL x bs w wx st) (f:CW wx y):AE x bs w st y c d a w2:=by
 have u:=i.size;have j:Blk (MQ w2 d) (a+1) 37 (cnC y).toArray:=(m.below i Oo).alloc _;have g:Below (a+1) Y ((MQ w2 d).setCells (a+1) 0 (dC d)):=Zh (Le _) _ _ _ ((i.mono Oo).alloc Oo _);have s:=l.sw.sb.lt;have k:Below wx.1.size wx ((MQ w2 d).setCells (a+1) 0 (dC d)):=q.trans (g.mono Oo);refine ⟨CR j _ (by simp [cnC,dC]),?_,(g.cell (p:=⟨a,1,none⟩) (JJ _)).trans ((n.cell 1).trans rfl),?_⟩
 .have h:=Ke (dC d) 0 _ _ j
  rwa [tT] at h
 .obtain ⟨w4,jX,eE,cJ⟩:=Hi _ bs st ⟨d,y.ap,y.pA,y.pn,y.pc,y.ps⟩ (o.sw.sb.below g Oo);refine ⟨w4,by rw [<-e];exact jX,Bh (Z5 l k) ?_ eE cJ⟩;exact ji (f.below k) d
def mD (d:Blk Y a 50 (chC c).toArray) (hz:Y.1.size=a+2) (e:Below Y.1.size Y w2) (o:Obj):(w2.alloc o).cell? ⟨a,1,none⟩=some (.int .i64 c.id):=
 (((d.below e Oo).alloc o).cell 1).trans rfl
def qW {z:Cnt} (k:AL x bs w Y st) (i:Below Y.1.size Y w2) (j:CW w2 z) (e:z.d.id=id):
  ∃ d,(Instr.mapUpdate 57 (.map (some bs)) (.int .i64 id) (.agg (cnC z).toArray)).run prog (Aa w2 (cnC z).toArray 37)=.ok () d/\AL x bs w d (IR st z):=by
 subst e;have f:=Z5 (Z5 k i) ((Bf _ _).alloc (Le _) (.cells (cnC z).toArray 37));obtain ⟨d,jX,h,g⟩:=Hi _ bs st z f.sw.sb;exact ⟨d,jX,Bh f (j.below Aj) h g⟩
def Ht:Vc (st.map plC) id=(Yi st id).map plC:=Iy st id
def ON (d:DSet) (n:Int) (w:Wd):Calls prog 76 #[.agg (dC d).toArray,.int .i64 n] w (Ab w (.agg (cnC ⟨d,n,none,0,0,[]⟩).toArray)):=by
 have g:=fun e=>X6 (Aa w (dC d).toArray 34) (w.1.size+1) Am e (cnC ⟨d,n,none,0,0,[]⟩).toArray 37
 go_in;go_wp2_with (first|(with_reducible apply yL 34 2 ((fun o=>(Blk.new w 34 (dC d).toArray).alloc o) _))|((with_reducible apply Gb 37);apply U1 Ak 37 _ rfl (cnC ⟨d,n,none,0,0,[]⟩).toArray Ak)|(with_reducible apply yS 37 4 ((fun e=>U3 (Aa w (dC d).toArray 34) 37 e (w.1.size+1) Am) _) (Va ⟨d,n,none,0,0,[]⟩);rw [g]));have f:=Us _ (w.1.size+1) (cnC ⟨d,n,none,0,0,[]⟩).toArray (U3 (Aa w (dC d).toArray 34) 37 (cnC ⟨d,n,none,0,0,[]⟩).toArray (w.1.size+1) Am) rfl;exact Br (v:=.agg (cnC ⟨d,n,none,0,0,[]⟩).toArray) (Vx results76 rfl f) rfl ⟨rfl,Aj.alloc Am _⟩
def jr (h:AL x bs w wx st) (c:Chg):∃ X:Wd,(∀ d,(Aa wx d 50).setRow wx.1.size (chC c).toArray=X)/\Aw (Below wx.1.size wx X)/\Aw (Blk X wx.1.size 50 (chC c).toArray)/\Aw (X.1.size=wx.1.size+1)/\X.cell? ⟨wx.1.size,1,none⟩=some (.int .i64 c.id)/\SB X bs st/\Aw (∀ d,Blk (Aa X d 37) (wx.1.size+1) 37 d):=
 have e:=Aj
 ⟨_,fun d=>U5 wx d (chC c).toArray 50,e,Blk.new wx _ _,by simp [Aw],((Blk.new wx _ _).cell 1).trans rfl,(h.sw.below e).sb,fun d=>U3 _ 37 d (wx.1.size+1) Am⟩
def qX {X:Wd} (h:AL x bs w wx st) (f:Below wx.1.size wx X) (e:Blk X wx.1.size 50 (chC c).toArray) (hz:X.1.size=wx.1.size+1) (cs:Array Value):∃ Y:Wd,(∀ d,(Aa X d 37).setRow (wx.1.size+1) cs=Y)/\Aw (AL x bs w Y st)/\Aw (Below wx.1.size wx Y)/\Aw (Blk Y wx.1.size 50 (chC c).toArray)/\Aw (Blk Y (wx.1.size+1) 37 cs)/\Aw (Y.1.size=wx.1.size+2)/\Y.cell? ⟨wx.1.size,0,none⟩=some (.int .i64 c.kind):=
 have hy:=f.alloc Oo _
 ⟨_,fun d=>X6 X (wx.1.size+1) hz.symm d cs 37,Z5 h hy,hy,e.alloc _,U3 X 37 cs _ hz.symm,(by simp;omega:(Aa X cs 37).1.size=_),((e.alloc _).cell 0).trans rfl⟩
theorem kG {G:Prop} (h:G:=by
  go_wp2_with (first|(with_reducible refine yM 50 24 HM.o ?_)|(with_reducible refine yS 50 6 (bI.o _) HONE.o ?_;rw [dE.o])|(with_reducible refine yS 37 7 (aK.o _) HY1.o ?_;rw [dL.o]));go_roundw
  .exact ⟨j+1,st,by have:=bA.o;omega,Au,HR.o,iX.o⟩
  .simp [intOf];have:=bA.o;omega):G:=h
theorem NQ {G:Prop} (h:G:=by
  go_wp2_with (first|(with_reducible refine yM 50 61 HM.o ?_)|(with_reducible refine yS 50 12 (bI.o _) HONE.o ?_;rw [dE.o])|(with_reducible refine yS 37 13 (aK.o _) HY1.o ?_;rw [dL.o])|(with_reducible refine yL 50 12 wW.o ?_)|(with_reducible refine yL 37 13 HAE.o.cb ?_)|(with_reducible refine yL 37 13 HYC.o ?_)|(go_at_call 75;refine HCT.o.mono ?_;rintro e w2 ⟨⟨hid,rfl⟩,aH⟩;first|(have HAE:=Hd (uH iX.o HYC.o wW.o HYZ.o aH hid HYB.o rfl cG.o HYW.o);have HDO:=Hd (Xc d);have bD:=Hd fun old=>Blk.new w2 34 old;have iH:=Hd fun old=>U5 w2 old (dC d).toArray 34;clear aH hid c0 c1y hl;obtain ⟨w4,jX,hal4⟩:=HAE.o.put;have HA4:=Hd hal4;have c1z:=HAE.o.c1;clear hal4)|(have gJ:=Hd (Z5 iX.o aH);have HDO:=Hd (Xc hid);have bD:=Hd fun old=>Blk.new w2 34 old;have iH:=Hd fun old=>U5 w2 old (dC hid).toArray 34;clear aH c0 c1y hl))|(with_reducible refine yS 34 15 (bD.o _) HDO.o ?_;rw [iH.o])|(with_reducible refine yL 34 15 (bD.o _) ?_)|((with_reducible refine Gt 34 107 ?_);refine JO rfl 34 _ _ rfl (wx.1.size+1) 0 (dC d).toArray rfl rfl HAE.o.th Ak HDO.o ?_)|((with_reducible refine Gb 108 ?_);refine U1 Ak 108 _ rfl (nbC (num+j2) c).toArray Ak ?_)|(go_at_call 77;refine HCD.o.mono ?_;first|(rintro e w2 ⟨aS,rfl,aH⟩;have wV:=Hd aS;have iF:(er != 0)=true:=(by simpa using aS);have gJ:=Hd (Z5 iX.o aH);have bD:=Hd fun old=>Blk.new w2 37 old;have iH:=Hd fun old=>U5 w2 old zV.toArray 37;clear aH aS c0 c1y hl c1u)|(rintro e w2 ⟨z,hz,hzid,rfl,eW,aH⟩;have HZE:=Hd hz;have fM:=Hd (Va z);have bD:=Hd fun old=>Blk.new w2 37 old;have iH:=Hd fun old=>U5 w2 old (cnC z).toArray 37;have HBZ:=Hd (Blk.new w2 37 (cnC z).toArray);have c1z:=mD wW.o HYZ.o aH (.cells (cnC z).toArray 37);obtain ⟨w4,jX,hal4⟩:=qW iX.o aH eW hzid;have HA4:=Hd hal4;clear aH hal4 hz hzid eW c0 c1y hl c1u))|(with_reducible refine yS 37 17 (bD.o _) fM.o ?_;rw [iH.o])|(with_reducible refine yS 37 17 (bD.o _) HZ.o ?_;rw [iH.o])|(with_reducible refine yL 37 17 HBZ.o ?_))
  first
   |go_ret
    rw [show RR=.inl er from HR.o.symm];exact ⟨wV.o,rfl,gJ.o.far.alloc _⟩
   |go_roundw
    .first|exact ⟨j2+1,_,by have:=bA.o;omega,Au,(by rw [<-FC,HZE.o];exact HR.o),HA4.o⟩|exact ⟨j2+1,_,by have:=bA.o;omega,Au,(by rw [<-FC];exact HR.o),HA4.o⟩|exact ⟨j2+1,_,by have:=bA.o;omega,Au,HR.o,HA3.o⟩|exact ⟨j2+1,_,by have:=bA.o;omega,Au,HR.o,Z5 gJ.o Aj⟩|exact ⟨j2+1,_,by have:=bA.o;omega,Au,HR.o,iX.o⟩
    .simp [intOf];have:=bA.o;omega):G:=h
def qU (g:Bz->Int->Option DSet) (doF:PC->Int->Chg->Int ⊕ PC) (x:Com) (bs:Nat) (F:List Cnt) (w:Wd) (hs:SW w bs F) (hx:ComOk w w.1.size x) (fB:x.cn<=1000) (hn0:1<=x.num) (gR:x.num<=1099511627776)
  (HT0:∀ c∈x.cs,∀ W,Far [bs] w W->Calls prog 75 #[.agg (chC c).toArray] W (pE (g c.rcd c.id) c.id W))
  (HD0:∀ c∈x.cs,∀ (y:Cnt) (n:Int),y.d.id=c.id->1<=n->n<=1099511628776->∀ W,Far [bs] w W->CW W y->Calls prog 77 #[.agg (cnC y).toArray,.agg (nbC n c).toArray] W (DoG (doF (plC y) n c) c.id W)):
  Calls prog 43 #[.map (some bs),.agg (Ud x).toArray] w (jz (aft g doF x.num x.cs (F.map plC)) bs w):=by
 have HT:=Hd HT0;have HD:=Hd HD0;have bW:Aw (∀ W st,AL x bs w W st->Sl chC 5 W w.1.size x.cA x.cn x.cc x.cs):=Hd fun W st h=>tM hx.2.1 (Le _) hs.sb h.sw.sb h.far
 have HL:=Hd hx.2.1.len;have HA0:=Hd (uG (x:=x) hs);have HZ:=Hd Ik;have c3:=(Blk.new w 42 (Ud x).toArray).ce 3 (.slice x.cA x.cn x.cc);obtain ⟨RR,cZ⟩:=yG (aft g doF x.num x.cs (F.map plC));rw [cZ];unfold aft at cZ;obtain ⟨R1,hR1⟩:=yG (Ju g x.num x.cs (F.map plC));rw [hR1] at cZ;have U:=Hd hR1;have hwr:IntKind.i64.wrap (x.num-1)=x.num-1:=QL _ Oo;have T:=Hd hwr;clear hs hx HT0 HD0 hR1 hwr;obtain ⟨cn,v⟩:=yG x.cn;rw [v] at fB HL c3;simp only [v] at bW;have wJ:=Hd v;obtain ⟨cA,N⟩:=yG x.cA;rw [N] at c3;simp only [N] at bW;have HCA:=Hd N;obtain ⟨num,L⟩:=yG x.num;rw [L] at hn0 gR U T cZ;have aU:=Hd cZ;have R:=Hd L;clear v L N cZ;go_wp2
 go_loopw [22] (fun i wr=>∃ (j:Nat) (st:List Cnt),j<=cn/\i=.int .i64 j/\Ju g num (x.cs.drop j) (st.map plC)=R1/\AL x bs w wr st) (fun i _=>cn-(intOf i).toNat)
 .exact ⟨0,F,Z0 _,rfl,U.o,HA0.o⟩
 .obtain ⟨j,st,hj,rfl,aG,bP⟩:=hrel;obtain ⟨wx,rfl⟩:∃ z:Wd,z=wr:=⟨_,rfl⟩
  have cG:=Hd bP;clear bP c3;by_cases P:j<cn
  .obtain ⟨b,o,c,rfl,hb,hg,aB⟩:=Sl.cell (f:=chC) (k:=5) (fun _=>rfl) (bW.o _ _ cG.o) P;have hc:=QJ hg;have HC:=Hd hc
   have dQ:x.cs.drop j=c::x.cs.drop (j+1):=by
    rw [QO (by rw [HL.o];exact P)];congr 1;exact (QZ.1 hg).2
   have A:=Hd dQ;have HM:Aw (wx.rangeAt b (o+j*5) (chC c)):=Hd fun t u hu=>aB t u hu
   have HONE:=Hd (SM c);have bI:=Hd fun old=>Blk.new wx 50 old
   obtain ⟨X,I,J,H,Z,c1,M,aK⟩:=jr cG.o c;have dE:=Hd I;have hl:=Ja X bs st c.id M;have hXz:=Z.o;have bA:=Hd P;clear hb hg aB hc dQ I M;cases s:Yi st c.id with
   |some y=>
    rw [s] at hl;simp only at hl
    have l:Ju g num (x.cs.drop (j+1)) (st.map plC)=R1:=by
     rw [A.o] at aG;unfold Ju at aG
     rwa [Ht,s,QK (.inl rfl)] at aG
    have HR:=Hd l;have HY1:=Hd (Va y);obtain ⟨Y,D,iX,HYB,wW,HYC,HYZ,c0⟩:=qX cG.o J.o H.o Z.o (cnC y).toArray;have dL:=Hd D;clear D;clear l aG s;exact kG
   |none=>
    rw [s] at hl;simp only at hl;obtain ⟨Y,D,iX,HYB,wW,HYC,HYZ,c0⟩:=qX cG.o J.o H.o Z.o zV.toArray;have dL:=Hd D;clear D;have HY1:=HZ;by_cases q:c.kind=4
    .have O:(c.kind != 4)=false:=by simpa using q
     have l:(match g c.rcd c.id with|none=>none|some d=>Ju g num (x.cs.drop (j+1)) (Eo (st.map plC) ⟨d,num-1,[]⟩))=R1:=by
      rw [A.o] at aG;unfold Ju at aG
      rwa [Ht,s,QX (by simp [q])] at aG
     have HCT:=Hd (HT.o c HC.o Y iX.o.far);have HK4:=Hd q;clear aG s q;generalize g c.rcd c.id=td at HCT l;cases td with
     |none=>
      have HR:=Hd l;clear l;go_wp2_with (first|(with_reducible refine yM 50 24 HM.o ?_)|(with_reducible refine yS 50 6 (bI.o _) HONE.o ?_;rw [dE.o])|(with_reducible refine yS 37 7 (aK.o _) HY1.o ?_;rw [dL.o])|(with_reducible refine yL 50 6 wW.o ?_)|(go_at_call 75;refine HCT.o.mono ?_;rintro e w2 ⟨⟨d,rfl⟩,aH⟩;have gJ:=Hd (Z5 iX.o aH);have HDO:=Hd (Xc d);have bD:=Hd fun old=>Blk.new w2 34 old;have iH:=Hd fun old=>U5 w2 old (dC d).toArray 34;clear aH)|(with_reducible refine yS 34 9 (bD.o _) HDO.o ?_;rw [iH.o]));go_ret;have hq:RR=.inl 11:=by rw [<-aU.o,<-HR.o]
      rw [hq];exact ⟨Ac,rfl,gJ.o.far.alloc _⟩
     |some d=>
      have HR:=Hd l;clear l;go_wp2_with (first|(with_reducible refine yM 50 24 HM.o ?_)|(with_reducible refine yS 50 6 (bI.o _) HONE.o ?_;rw [dE.o])|(with_reducible refine yS 37 7 (aK.o _) HY1.o ?_;rw [dL.o])|(with_reducible refine yL 50 6 wW.o ?_)|(go_at_call 75;refine HCT.o.mono ?_;rintro e w2 ⟨⟨hid,rfl⟩,aH⟩;have HID:=Hd hid;have gJ:=Hd (Z5 iX.o aH);have HKW:=Hd (wW.o.below aH (by have:=HYZ.o;omega));have cN:=Hd aH.size;have HDO:=Hd (Xc d);have bD:=Hd fun old=>Blk.new w2 34 old;have iH:=Hd fun old=>U5 w2 old (dC d).toArray 34;clear aH hid c0 hl)|(with_reducible refine yS 34 9 (bD.o _) HDO.o ?_;rw [iH.o]));have HZA:=Hd (Z5 gJ.o ((Bf _ _).alloc (Le _) (.cells (dC d).toArray 34)).drew)
      have HBK:Aw (Blk (MQ w2 d).drew wx.1.size 50 (chC c).toArray/\Blk (MQ w2 d).drew w2.1.size 34 (dC d).toArray/\Blk (MQ w2 d).drew w.1.size 42 (Ud x).toArray):=Hd ⟨(HKW.o.alloc _).drew,(bD.o _).drew,HZA.o.ub⟩;refine Rw (S:=fun w'=>Blk w' wx.1.size 50 (chC c).toArray/\Blk w' w2.1.size 34 (dC d).toArray/\Blk w' w.1.size 42 (Ud x).toArray) Ak HBK.o (fun E=>?_)
      iterate 2 refine tB E ?_
      refine tj 2 (.int .i64 c.id) E ?_ (y:=by intro w' aO;have h1:=aO.1.ce 1 (.int .i64 c.id);go_simp);refine tR 3 (fun _ h=>h.2.1) E ?_;refine tA 4 E ?_;refine tj 5 (.int .i64 num) E ?_ (y:=by intro w' aO;have h1:=aO.2.2.ce 1 (.int .i64 x.num);rw [R.o] at h1;go_simp);refine tj 6 (.int .i64 (num-1)) E ?_ (y:=by intro w' aO;have h1:=T.o;go_simp);refine Aq [7] ?_;refine Rc (fun K hK=>?_) ?_
      .go_simp;refine yP (ON d (num-1) _) fun w3 aW=>?_
       simp only [];have HA3:=Hd (Z5 HZA.o aW);obtain ⟨q0,q1,q2⟩:=E;refine hK.out _ _ ⟨q0.below aW q0.lt,q1.below aW q1.lt,q2.below aW q2.lt⟩ (fun E=>?_);clear hK K aW q0 q1 q2;try simp only [Act.put,Sv,Sz,Sw]
       refine Aq [8] ?_;refine Rc (fun K hK=>?_) ?_
       .go_simp;obtain ⟨w4,jX,M,V⟩:=Hi w3 bs st ⟨d,num-1,none,0,0,[]⟩ HA3.o.sw.sb;have hput':(Instr.mapUpdate 57 (.map (some bs)) (.int .i64 c.id) (.agg (cnC ⟨d,num-1,none,0,0,[]⟩).toArray)).run prog w3=.ok () w4:=by rw [<-HID.o];exact jX
        have HA4:=Hd (Bh HA3.o (MB w3 d (num-1)) M V);obtain ⟨q0,q1,q2⟩:=E;have dJ:wx.1.size≠bs:=by have:=cG.o.sw.sb.lt;omega
        have cR:w2.1.size≠bs:=by have:=gJ.o.sw.sb.lt;omega
        have hne3:w.1.size≠bs:=by have:=cG.o.lt;omega
        have HQ:=Hd (And.intro (q0.far' V (by simpa using dJ)) (And.intro (q1.far' V (by simpa using cR)) (q2.far' V (by simpa using hne3))));go_simp;refine hK.out _ _ HQ.o (fun E=>?_);try simp only [Act.put,Sv,Sz,Sw]
        refine Ad Ak ?_ _;clear E;have bZ:Aw (Ju g num (x.cs.drop (j+1)) ((IR st ⟨d,num-1,none,0,0,[]⟩).map plC)=R1):=Hd (by rw [<-FC];exact HR.o);go_wp2;go_roundw
        .exact ⟨j+1,_,by have:=bA.o;omega,Au,bZ.o,HA4.o⟩
        .simp [intOf];have:=bA.o;omega
       exact An
      exact An
    .have O:(c.kind != 4)=true:=by simpa using q
     have l:Ju g num (x.cs.drop (j+1)) (st.map plC)=R1:=by
      rw [A.o] at aG;unfold Ju at aG
      rwa [QK (.inr q)] at aG
     have HR:=Hd l;clear l aG s q;exact kG
  .obtain rfl:j=cn:=Oo
   have hR:R1=some (st.map plC):=by rw [<-aG,WP (by rw [HL.o];exact Le _)];rfl
   have c3:wx.cell? ⟨w.1.size,3,none⟩=some (.slice cA j x.cc):=(cG.o.ub.cell 3).trans (by rw [<-wJ.o,<-HCA.o];rfl);have eK:Yc g doF num 0 x.cs (st.map plC)=RR:=by have h:=aU.o;rw [hR] at h;exact h
   have bZ:=Hd eK;clear aG hR eK P hj U aU T;have hj1:j<=1000:=fB;go_wp2;go_loopw [58] (fun i wr=>∃ (j2:Nat) (m:List Cnt),j2<=j/\i=.int .i64 j2/\Yc g doF num j2 (x.cs.drop j2) (m.map plC)=RR/\AL x bs w wr m) (fun i _=>j-(intOf i).toNat)
   .exact ⟨0,st,Z0 _,rfl,bZ.o,cG.o⟩
   .obtain ⟨j2,m,hj2,rfl,aG,bP⟩:=hrel;obtain ⟨wx,rfl⟩:∃ z:Wd,z=wr:=⟨_,rfl⟩
    have cG:=Hd bP;clear bP c3;by_cases P:j2<j
    .obtain ⟨b,o,c,rfl,hb,hg,aB⟩:=Sl.cell (f:=chC) (k:=5) (fun _=>rfl) (bW.o _ _ cG.o) P;have hc:=QJ hg;have HC:=Hd hc
     have dQ:x.cs.drop j2=c::x.cs.drop (j2+1):=by
      rw [QO (by rw [HL.o];exact P)];congr 1;exact (QZ.1 hg).2
     have A:=Hd dQ;have HM:Aw (wx.rangeAt b (o+j2*5) (chC c)):=Hd fun t u hu=>aB t u hu
     have HONE:=Hd (SM c);have bI:=Hd fun old=>Blk.new wx 50 old
     obtain ⟨X,I,J,H,Z,c1,M,aK⟩:=jr cG.o c;have dE:=Hd I;have hl:=Ja X bs m c.id M;have hXz:=Z.o;have bA:=Hd P;clear hb hg aB hc dQ I M;cases s:Yi m c.id with
     |none=>
      rw [s] at hl;simp only at hl
      have l:Yc g doF num (j2+1) (x.cs.drop (j2+1)) (m.map plC)=RR:=by
       rw [A.o] at aG;unfold Yc at aG;rw [Ht,s] at aG;exact aG
      have HR:=Hd l;obtain ⟨Y,D,iX,HYB,wW,HYC,HYZ,c0⟩:=qX cG.o J.o H.o Z.o zV.toArray;have dL:=Hd D;clear D;have HY1:=HZ;clear l aG s c0;exact NQ
     |some y=>
      rw [s] at hl;simp only at hl;have Q:=(Jc s).2.2;have C:=(cG.o.sw.get s)
      have HY1:=Hd (Va y);obtain ⟨Y,D,iX,HYB,wW,HYC,HYZ,c0⟩:=qX cG.o J.o H.o Z.o (cnC y).toArray;have dL:=Hd D;clear D;have HYCW:=Hd (C.below HYB.o);have HYW:=Hd C;have c1y:=wW.o.ce 1 (.int .i64 c.id)
      have l:(if c.kind=5 then Yc g doF num (j2+1) (x.cs.drop (j2+1)) (Ji (m.map plC) c.id) else if c.kind=6\/c.kind=7 then (match g c.rcd c.id with|none=>Yc g doF num (j2+1) (x.cs.drop (j2+1)) (m.map plC)|some d=>Yc g doF num (j2+1) (x.cs.drop (j2+1)) (Eo (m.map plC) ⟨d,y.ap,y.ps⟩)) else if c.kind=4 then Yc g doF num (j2+1) (x.cs.drop (j2+1)) (m.map plC) else match doF (plC y) (num+j2) c with | .inl e=>.inl e | .inr z=>Yc g doF num (j2+1) (x.cs.drop (j2+1)) (Eo (m.map plC) z))=RR:=by
       rw [A.o] at aG;unfold Yc at aG;rw [Ht,s] at aG;exact aG
      have HYID:=Hd Q;clear aG s C Q;by_cases r:c.kind=5
      .rw [QK r] at l;obtain ⟨w3,hdel,M,V⟩:=qw 0 Y bs m c.id iX.o.sw.sb;have HA3:=Hd (mC iX.o M V);have HR:Aw (Yc g doF num (j2+1) (x.cs.drop (j2+1)) ((Mw m c.id).map plC)=RR):=Hd (by rw [<-qx];exact l);rw [r] at c0;clear l r M V;exact NQ
      rw [QX r] at l;have bG:(c.kind == 5)=false:=by simpa using r
      by_cases p:c.kind=6\/c.kind=7
      .rw [QK p] at l;have HCT:=Hd (HT.o c HC.o Y iX.o.far);generalize g c.rcd c.id=td at HCT l;cases td with
       |none=>
        have HR:=Hd l;clear l r;rcases p with q|q
        .rw [q] at c0;clear bG q;exact NQ
        .rw [q] at c0;clear bG q;exact NQ
       |some d=>
        have HR:=Hd l;clear l r;rcases p with q|q
        .rw [q] at c0;clear bG q;exact NQ
        .rw [q] at c0;clear bG q;exact NQ
      rw [QX p] at l;have eG:(c.kind == 6)=false:=As
      have hb7:(c.kind == 7)=false:=As
      by_cases O:c.kind=4
      .rw [QK O] at l;have HR:=Hd l;rw [O] at c0;clear l O r p bG eG hb7;exact NQ
      .rw [QX O] at l;have gS:(c.kind == 4)=false:=by simpa using O
       have hnn:1<=num+(j2:Int)/\num+(j2:Int)<=1099511628776:=Oo
       have HCD:=Hd (HD.o c HC.o y (num+j2) HYID.o hnn.1 hnn.2 Y iX.o.far HYCW.o);have c1u:Y.cell? ⟨w.1.size,1,none⟩=some (.int .i64 num):=(iX.o.ub.cell 1).trans (by rw [<-R.o];rfl);clear O r p hnn;generalize doF (plC y) (num+j2) c=dr at HCD l;cases dr with
       |inl er=>
        have HR:=Hd l;clear l;exact NQ
       |inr z2=>
        have HR:=Hd l;clear l;exact NQ
    .obtain rfl:j2=j:=Oo
     have hq:RR=.inr (m.map plC):=by rw [<-aG,WP (by rw [HL.o];exact Le _)];rfl
     go_wp2;go_ret;rw [hq];exact ⟨m,rfl,rfl,cG.o.sw,cG.o.far⟩
end
def ofF (d:DSet) (r:Bz):Bz×Int:=
 if Yd d=false then (⟨#[]⟩,1) else if d.org≠3 then (⟨#[]⟩,7) else if Uo r.size (d.kat+d.kln) d.len=false then (⟨#[]⟩,2)
 else ((r.extract d.kat.toNat r.size).extract 0 d.kln.toNat,0)
def Mb {d:DSet} (h:Yd d=true) (a:d.org=3):0<=d.kat/\1<=d.kln/\d.kat+d.kln<=d.len/\d.len<=200:=by
 unfold Yd at h;rw [QK a] at h;simp only [EF,QU,QG] at h;obtain ⟨⟨⟨⟨_,_⟩,hl⟩,_⟩,⟨⟨⟨⟨⟨⟨_,hk⟩,hn⟩,hs⟩,_⟩,_⟩,_⟩⟩:=h;have c:=winB_true.1 hl;have b:=winB_true.1 hk;have a:=winB_true.1 hn;omega
def Og (d:DSet) (r:Bz) (w:Wd) (i:r.size<=maxLen):
  Calls prog 154 #[.agg (dC d).toArray,.string r] w (Ab w (.tuple #[.string (ofF d r).1,.int .i64 (ofF d r).2])):=by
 have l:=Blk.new w 34 (dC d).toArray;have p:=FI d (Aa w (dC d).toArray 34);have s:=(Bf w.1.size w).alloc (Le _) (.cells (dC d).toArray 34);have n:=@Mb d;have B:r.size<=2 ^ 63-1:=by unfold maxLen at i;exact i
 clear i;obtain ⟨R,f⟩:=yG (ofF d r);rw [f];unfold ofF at f;obtain ⟨z,hz⟩:=yG (Yd d);rw [hz] at p f n;clear hz;cases z with
 |false=>
  rw [QK rfl] at f;subst f;clear n;go_in;go_wp2_with (first|(apply yK l)|(go_at_call 147;refine yP p fun e c=>?_;have k:=s.trans (c.mono Am);clear c))
  go_ret2
  exact ⟨rfl,k⟩
 |true=>
  rw [QX Ac] at f;by_cases j:d.org=3
  .obtain ⟨q1,q2,q3,q4⟩:=n rfl j;rw [QX (by simpa using j)] at f;obtain ⟨y,hy⟩:=yG (Uo r.size (d.kat+d.kln) d.len);rw [hy] at f;have v:(d.org != 3)=false:=by simpa using j
   have q:∀ e,Below (w.1.size+1) (Aa w (dC d).toArray 34) e->Blk e w.1.size 34 (dC d).toArray:=fun e c=>l.below c Oo
   obtain ⟨a,o⟩:∃ a:Nat,d.kat=a:=⟨d.kat.toNat,Oo⟩
   obtain ⟨b,m⟩:∃ b:Nat,d.kln=b:=⟨d.kln.toNat,Oo⟩
   have t:y=true->a+b<=r.size:=fun h=>by
    rw [h] at hy;have:=(winB_true.1 hy).1;omega
   rw [o,m] at q3;rw [o,m] at hy;have x:=Hd hy;obtain ⟨L,u⟩:=yG d.len;rw [u] at q3 q4 hy x;clear q1 q2 j n;cases y with
   |false=>
    go_in;go_wp2_with (first|(apply yK l)|(go_at_call 147;refine yP p fun e c=>?_;have k:=s.trans (c.mono Am);have g:=q e (by simpa using c);have c1:=g.ce 1 (.int .i64 d.org);have c3:=g.ce 3 (.int .i64 d.len);have c5:=g.ce 5 (.int .i64 d.kat);have A:=g.ce 6 (.int .i64 d.kln);rw [u] at c3;rw [o] at c5;rw [m] at A;clear c g)|(go_at_call 157;apply yE (V7 _ _ _ _);rw [x.o]))
    go_ret2
    exact ⟨by rw [<-f];rfl,k⟩
   |true=>
    have C:=t rfl;go_in;go_wp2_with (first|(apply yK l)|(go_at_call 147;refine yP p fun e c=>?_;have k:=s.trans (c.mono Am);have g:=q e (by simpa using c);have c1:=g.ce 1 (.int .i64 d.org);have c3:=g.ce 3 (.int .i64 d.len);have c5:=g.ce 5 (.int .i64 d.kat);have A:=g.ce 6 (.int .i64 d.kln);rw [u] at c3;rw [o] at c5;rw [m] at A;clear c g)|(go_at_call 157;apply yE (V7 _ _ _ _);rw [x.o]))
    go_quiet (fail)
    go_wp2
    go_ret2
    refine ⟨?_,Uk k _⟩;rw [<-f,o,m];rfl
  .have v:(d.org != 3)=true:=by simpa using j
   rw [QK j] at f;subst f;have q:∀ e,Below (w.1.size+1) (Aa w (dC d).toArray 34) e->Blk e w.1.size 34 (dC d).toArray:=fun e c=>l.below c Oo
   clear n j;go_in;go_wp2_with (first|(apply yK l)|(go_at_call 147;refine yP p fun e c=>?_;have k:=s.trans (c.mono Am);have c1:=(q e (by simpa using c)).ce 1 (.int .i64 d.org);clear c))
   go_ret2
   exact ⟨rfl,k⟩
def nb8 (n:Int) (i:Nat):Int:=n / 2 ^ (8*i) % 256
def slC (n:Int) (k:Nat):Array Value:=((List.range 8).map fun j=>if 8-k<=j then Value.int .u8 (nb8 n (7-j)) else .int .u8 0).toArray
def Qu (n:Int):slC n 0=#[.int .u8 0,.int .u8 0,.int .u8 0,.int .u8 0,.int .u8 0,.int .u8 0,.int .u8 0,.int .u8 0]:=by
 simp [slC,VU]
def tP (n:Int) (k:Nat) (h:k<8):(slC n k).setIfInBounds (7-k) (.int .u8 (nb8 n k))=slC n (k+1):=by
 have:k=0\/k=1\/k=2\/k=3\/k=4\/k=5\/k=6\/k=7:=Oo
 rcases this with rfl|rfl|rfl|rfl|rfl|rfl|rfl|rfl<;>simp [slC,VU]
def Zk (n:Int):List Int:=(List.range 8).map fun j=>nb8 n (7-j)
def zN (n:Int) (i:Nat) (h:i<8):(slC n 8)[i]? =some (.int .u8 ((Zk n).getD i 0)):=by
 have:i=0\/i=1\/i=2\/i=3\/i=4\/i=5\/i=6\/i=7:=Oo
 rcases this with rfl|rfl|rfl|rfl|rfl|rfl|rfl|rfl<;>simp [slC,Zk,VU]
def V8 (n:Int):Bz:=if Uo n 0 1099511627776=true then strOfNums (Zk n) else ⟨#[]⟩
def Lg (n:Int):(V8 n).size<=8:=by
 unfold V8;split
 .rw [WD];simp [Zk]
 .exact Z0 _
def Po (s:Bz):Nat->Int->Int
 |0,n=>n
 |f+1,n=>Po s f (bits BinOp.or IntKind.u64 (IntKind.u64.wrap (n*256)) (IntKind.u64.wrap (bAt s (7-f))))
def Uc (s:Bz):Int×Bool:=if s.size≠8 then (0,false) else if 1099511627776<Po s 8 0 then (0,false) else (Po s 8 0,true)
def Ts (W:Wd) (g:Nat):(Instr.sliceAt 214 (Ag g 0) none none none).run prog W=.ok (.slice (Ah g 0) 8 8) W:=by
 simp [Instr.sliceAt,Instr.sureAddr,Instr.sliceBounds,Addr.add]
def CZ (W:Wd) (g:Nat) (n:Int) (a:Blk W g 214 (slC n 8)):(convert 183 9 (.slice (Ah g 0) 8 8)).run prog W=.ok (.string (strOfNums (Zk n))) W:=
 ZR W 183 5 Ak Ak g 0 8 8 (Zk n) (by simp [Zk]) (fun i b=>by
  rw [QB,a.cell i,zN n i b]) 9 Ak
def Fn (n:Int) (w:Wd):Calls prog 107 #[.int .i64 n] w (Ab w (.string (V8 n))):=by
 obtain ⟨z,hz⟩:=yG (Uo n 0 1099511627776);unfold V8;have d:=V7 n 0 1099511627776 w;rw [hz] at d;rw [hz];have a:=hz;cases z with
 |false=>
  rw [QX Ac];clear a;go_in;go_wp2_with (go_at_call 157;apply yE d);go_ret;exact ⟨rfl,Bf _ _⟩
 |true=>
  rw [QK rfl];obtain ⟨r,u⟩:=winB_true.1 a;clear a;have e:=Blk.new w 214 (slC n 0);have f:=(Bf w.1.size w).alloc (Le _) (.cells (slC n 0) 214);rw [Qu] at e f;go_in;go_wp2_with (go_at_call 157;apply yE d);go_loopw [8] (fun i wr=>∃ k:Nat,k<=8/\i=.int .i64 k/\Blk wr w.1.size 214 (slC n k)/\Below w.1.size w wr) (fun i _=>8-(intOf i).toNat)
  .exact ⟨0,Ac,rfl,by rw [Qu];exact e,f⟩
  .obtain ⟨k,hk,rfl,hb,iF⟩:=hrel;obtain ⟨c,rfl⟩:∃ z:Wd,z=wr:=⟨_,rfl⟩
   by_cases l:k<8
   .have f0:=hb.free (7-k)
    obtain ⟨g,j⟩:∃ g,c.cell? ⟨w.1.size,7-k,none⟩=some g:=by
     rw [hb.cell];exact ⟨_,WI (by unfold slC;simp;omega)⟩
    have m:Blk (c.setCell ⟨w.1.size,7-k,none⟩ (.int .u8 (nb8 n k))) w.1.size 214 (slC n (k+1)):=by
     have h:=hb.set (7-k) (.int .u8 (nb8 n k))
     rwa [tP n k l] at h
    have b:=iF.setCell (p:=⟨w.1.size,7-k,none⟩) (Le _) (.int .u8 (nb8 n k));have o:((7:Int)-(k:Int)).toNat=7-k:=Oo
    have t:(7:Int)-(k:Int)=((7-k:Nat):Int):=Oo
    go_wp2;go_roundw
    .exact ⟨k+1,Oo,Au,m,b⟩
    .exact At
   .obtain rfl:k=8:=Oo
    have s:=Ts c w.1.size;have q:=CZ c w.1.size n hb;go_wp2;go_ret;exact ⟨rfl,iF⟩
def ux (w:Wd) (e:TypeId) (s:Bz):Below w.1.size w (Lib.bytesWorld w e s):=
 ⟨rfl,rfl,rfl,by rw [Lib.bytesWorld_size];omega,fun k a=>Lib.bytesWorld_at_old w e s k a⟩
def GN (s:Bz) (w:Wd):Calls prog 155 #[.string s] w (Ab w (.tuple #[.int .i64 (Uc s).1,.bool (Uc s).2])):=by
 by_cases e:s.size=8
 .have eP:=Lib.run_convert_string_bytes w 9 183 5 s (P:=prog) (u:=.string) Ak Ak Ak
  have c:∀ j,j<8->(Lib.bytesWorld w 5 s).cell? ⟨w.1.size,j,none⟩=some (.int .u8 (bAt s j)):=fun j t=>by
   rw [Lib.bytesWorld_cell w _ s j Oo];have a:j<s.size:=Oo
   rw [Vs s j a,WJ,mw s j a];rfl
  have g:=ux w 5 s;obtain ⟨R,n⟩:=yG (Po s 8 0);obtain ⟨q,k⟩:=yG (Uc s);rw [k];have b:q=if 1099511627776<R then (0,false) else (R,true):=by rw [<-k];unfold Uc;rw [QX (by simp [e]),n]
  have d:=Hd b;rw [e] at eP;generalize Lib.bytesWorld w 5 s=W at eP c g;generalize grownCap w 8 0 5=r at eP;clear b k;go_wp2;go_loop [4,13] (fun v i=>∃ (j:Nat) (m:Int),j<=8/\v=.int .u64 m/\i=.int .i64 j/\0<=m/\Po s (8-j) m=R) (fun _ i=>8-(intOf i).toNat)
  .exact ⟨0,0,Ac,rfl,rfl,Ac,n⟩
  .obtain ⟨j,m,t,rfl,rfl,hm,aG⟩:=hrel;by_cases o:j<8
   .have c0:=c j o;obtain ⟨f,l⟩:∃ f,8-j=f+1:=⟨7-j,Oo⟩
    rw [l] at aG;unfold Po at aG;rw [show 7-f=j from Oo] at aG;have p:Aw (8-(j+1)=f):=Hd Oo;clear l;go_wp2
    go_round
    .exact ⟨j+1,_,Oo,rfl,Au,by exact wrap_u64_nonneg _,by rw [p.o];exact aG⟩
    .exact At
   .obtain rfl:j=8:=Oo
    simp only [VG] at aG;unfold Po at aG;subst aG;by_cases h:1099511627776<m
    .go_wp2
     go_ret2
     exact ⟨by rw [d.o,QK h];rfl,g⟩
    .go_wp2
     go_ret2
     exact ⟨by rw [d.o,QX Oo];rfl,g⟩
 .have hv:Uc s=(0,false):=by unfold Uc;rw [QK e]
  rw [hv];have x:((s.size:Int) != 8)=true:=As
  clear e hv;go_wp2
  go_ret2
  exact ⟨rfl,Bf _ _⟩
def Ug (s:Bz):List Value:=[.string s]
def Xg (n:Int):List Value:=[.int .i64 n]
def tf {G:Prop} (h:G:=by
  have HS:=Hd hs;have HL:=Hd hs.len;have HC:=Hd hC;clear hs hC;obtain ⟨R,HR⟩:=yH ((if l.findIdx p<n then (l.findIdx p:Int) else -1):Int);rw [HR.o]
  first
   |go_in
    go_wp2;go_loopw [8] (fun i wr=>∃ j:Nat,j<=n/\i=.int .i64 j/\(∀ t,t<j->∀ e,l[t]? =some e->p e=false)/\Below w.1.size w wr) (fun i _=>n-(intOf i).toNat)
    .exact ⟨0,Z0 _,rfl,fun t h=>absurd h Oo,Bf _ _⟩
    .obtain ⟨j,hj,rfl,hall,aF⟩:=hrel;have HA:=Hd hall;have aM:=aF.size;clear hall;by_cases aE:j<n
     .obtain ⟨b,o,x,rfl,hb,hg,aB⟩:=Sl.cell (f:=Ug) (k:=1) (fun _=>rfl) (HS.o.below aF) aE;have c0:=aB 0 _ rfl;simp only [QF,WY] at c0;have dI:=Hd (HC.o x (QJ hg) wr aF);have HG:=Hd hg;clear hg aB;cases hl:p x with
      |true=>
       have hr:R=(j:Int):=by rw [<-HR.o,Vn HA.o HG.o hl,QK aE]
       have aU:=Hd hr;have bQ:=Hd hl;clear hr hl;go_wp2_with fail;refine yP dI.o fun w1 aL=>?_
       rw [bQ.o];have aH:=U0 aF aL aM;clear aL;go_wp2;go_ret;exact ⟨by rw [aU.o];rfl,aH⟩
      |false=>
       have bQ:=Hd hl;clear hl;go_wp2_with fail;refine yP dI.o fun w1 aL=>?_
       rw [bQ.o];have aH:=U0 aF aL aM;clear aL;go_wp2;go_roundw
       .refine ⟨j+1,Oo,Au,fun t ht e he=>?_,aH⟩;by_cases h:t=j
        .subst h;rw [HG.o] at he;injection he with he;subst he;exact bQ.o
        .exact HA.o t Oo e he
       .exact At
     .have hr:R = -1:=by rw [<-HR.o,Vj HL.o (fun t ht=>HA.o t Oo),QX Oo]
      have aU:=Hd hr;clear hr;go_wp2;go_ret;exact ⟨by rw [aU.o];rfl,aF⟩
   |go_in
    go_wp2;go_loopw [8] (fun i wr=>∃ j:Nat,j<=n/\i=.int .i64 j/\(∀ t,t<j->∀ e,l[t]? =some e->p e=false)/\Below w.1.size w wr) (fun i _=>n-(intOf i).toNat)
    .exact ⟨0,Z0 _,rfl,fun t h=>absurd h Oo,Bf _ _⟩
    .obtain ⟨j,hj,rfl,hall,aF⟩:=hrel;have HA:=Hd hall;have aM:=aF.size;clear hall;by_cases aE:j<n
     .obtain ⟨b,o,x,rfl,hb,hg,aB⟩:=Sl.cell (f:=Xg) (k:=1) (fun _=>rfl) (HS.o.below aF) aE;have c0:=aB 0 _ rfl;simp only [QF,WY] at c0;have dI:=Hd (HC.o x (QJ hg) wr aF);have HG:=Hd hg;clear hg aB;cases hl:p x with
      |true=>
       have hr:R=(j:Int):=by rw [<-HR.o,Vn HA.o HG.o hl,QK aE]
       have aU:=Hd hr;have bQ:=Hd hl;clear hr hl;go_wp2_with fail;refine yP dI.o fun w1 aL=>?_
       rw [bQ.o];have aH:=U0 aF aL aM;clear aL;go_wp2;go_ret;exact ⟨by rw [aU.o];rfl,aH⟩
      |false=>
       have bQ:=Hd hl;clear hl;go_wp2_with fail;refine yP dI.o fun w1 aL=>?_
       rw [bQ.o];have aH:=U0 aF aL aM;clear aL;go_wp2;go_roundw
       .refine ⟨j+1,Oo,Au,fun t ht e he=>?_,aH⟩;by_cases h:t=j
        .subst h;rw [HG.o] at he;injection he with he;subst he;exact bQ.o
        .exact HA.o t Oo e he
       .exact At
     .have hr:R = -1:=by rw [<-HR.o,Vj HL.o (fun t ht=>HA.o t Oo),QX Oo]
      have aU:=Hd hr;clear hr;go_wp2;go_ret;exact ⟨by rw [aU.o];rfl,aF⟩):G:=h
def RZ  (p:Bz->Bool) (A:Option Addr) (n c:Nat) (l:List Bz) (w:Wd) (hs:Sl Ug 1 w w.1.size A n c l) (hn:n<=9223372036854775807)
  (hC:∀ x∈l,∀ W:Wd,Below w.1.size w W->Calls prog 338 #[.string x] W (Ab W (.bool (p x)))):
  Calls prog 326 #[.slice A n c,Ai 338] w (Ab w (.int .i64 (if l.findIdx p<n then (l.findIdx p:Int) else -1))):=by
 exact tf
def uZ {G:Prop} (h:G:=by
  have ha:=EJ p l;rw [hs.len] at ha;have HA:=Hd ha;clear hs hC ha;generalize l.findIdx p=q at H HA
  first
   |go_in
    by_cases hq:q<n
    .rw [QK hq] at H;go_wp2_with (go_at_call 326;refine yP H.o fun w1 hb=>?_);go_ret;exact ⟨by rw [HA.o];simp [hq],hb⟩
    .rw [QX hq] at H;go_wp2_with (go_at_call 326;refine yP H.o fun w1 hb=>?_);go_ret;exact ⟨by rw [HA.o];simp [hq],hb⟩
   |go_in
    by_cases hq:q<n
    .rw [QK hq] at H;go_wp2_with (go_at_call 396;refine yP H.o fun w1 hb=>?_);go_ret;exact ⟨by rw [HA.o];simp [hq],hb⟩
    .rw [QX hq] at H;go_wp2_with (go_at_call 396;refine yP H.o fun w1 hb=>?_);go_ret;exact ⟨by rw [HA.o];simp [hq],hb⟩):G:=h
def Oj  (p:Bz->Bool) (A:Option Addr) (n c:Nat) (l:List Bz) (w:Wd) (hs:Sl Ug 1 w w.1.size A n c l) (hn:n<=9223372036854775807)
  (hC:∀ x∈l,∀ W:Wd,Below w.1.size w W->Calls prog 338 #[.string x] W (Ab W (.bool (p x)))):
  Calls prog 246 #[.slice A n c,Ai 338] w (Ab w (.bool (l.any p))):=by
 have H:=Hd (RZ p A n c l w hs hn hC);exact uZ
def Qm (g a:Nat) (p:Bz->Bool) (A:Option Addr) (n c:Nat) (l:List Bz) (w:Wd) (hs:Sl Ug 1 w w.1.size A n c l) (hn:n<=9223372036854775807)
  (hC:∀ x∈l,∀ W:Wd,Below w.1.size w W->Calls prog 247 #[.string x,Ag g 0,Ag a 0] W (Ab W (.bool (p x)))):
  Calls prog 326 #[.slice A n c,.func (.func 247) #[] #[Ag g 0,Ag a 0]] w (Ab w (.int .i64 (if l.findIdx p<n then (l.findIdx p:Int) else -1))):=by
 exact tf
def N9 (g a:Nat) (p:Bz->Bool) (A:Option Addr) (n c:Nat) (l:List Bz) (w:Wd) (hs:Sl Ug 1 w w.1.size A n c l) (hn:n<=9223372036854775807)
  (hC:∀ x∈l,∀ W:Wd,Below w.1.size w W->Calls prog 247 #[.string x,Ag g 0,Ag a 0] W (Ab W (.bool (p x)))):
  Calls prog 246 #[.slice A n c,.func (.func 247) #[] #[Ag g 0,Ag a 0]] w (Ab w (.bool (l.any p))):=by
 have H:=Hd (Qm g a p A n c l w hs hn hC);exact uZ
def To (g:Nat) (p:Bz->Bool) (A:Option Addr) (n c:Nat) (l:List Bz) (w:Wd) (hs:Sl Ug 1 w w.1.size A n c l) (hn:n<=9223372036854775807)
  (hC:∀ x∈l,∀ W:Wd,Below w.1.size w W->Calls prog 321 #[.string x,Ag g 0] W (Ab W (.bool (p x)))):
  Calls prog 326 #[.slice A n c,.func (.func 321) #[] #[Ag g 0]] w (Ab w (.int .i64 (if l.findIdx p<n then (l.findIdx p:Int) else -1))):=by
 exact tf
def zH (g:Nat) (p:Bz->Bool) (A:Option Addr) (n c:Nat) (l:List Bz) (w:Wd) (hs:Sl Ug 1 w w.1.size A n c l) (hn:n<=9223372036854775807)
  (hC:∀ x∈l,∀ W:Wd,Below w.1.size w W->Calls prog 321 #[.string x,Ag g 0] W (Ab W (.bool (p x)))):
  Calls prog 246 #[.slice A n c,.func (.func 321) #[] #[Ag g 0]] w (Ab w (.bool (l.any p))):=by
 have H:=Hd (To g p A n c l w hs hn hC);exact uZ
def AI  (p:Int->Bool) (A:Option Addr) (n c:Nat) (l:List Int) (w:Wd) (hs:Sl Xg 1 w w.1.size A n c l) (hn:n<=9223372036854775807)
  (hC:∀ x∈l,∀ W:Wd,Below w.1.size w W->Calls prog 376 #[.int .i64 x] W (Ab W (.bool (p x)))):
  Calls prog 396 #[.slice A n c,Ai 376] w (Ab w (.int .i64 (if l.findIdx p<n then (l.findIdx p:Int) else -1))):=by
 exact tf
def u6  (p:Int->Bool) (A:Option Addr) (n c:Nat) (l:List Int) (w:Wd) (hs:Sl Xg 1 w w.1.size A n c l) (hn:n<=9223372036854775807)
  (hC:∀ x∈l,∀ W:Wd,Below w.1.size w W->Calls prog 376 #[.int .i64 x] W (Ab W (.bool (p x)))):
  Calls prog 375 #[.slice A n c,Ai 376] w (Ab w (.bool (l.any p))):=by
 have H:=Hd (AI p A n c l w hs hn hC);exact uZ
def fvB (l b:Int):Bool:=decide (1<=l)&&decide (l<=1000)&&decide (l<=b)&&decide (b<=1024)
def Ko {G:Prop} (h:G:=by
  go_wp2;go_ret;exact ⟨by rw [HQ.o];first|rfl|(simp;omega),rfl⟩):G:=h
def Iz (l b:Int) (w:Wd):Calls prog 234 #[.int .i64 l,.int .i64 b] w (Ae w (.bool (fvB l b))):=by
 obtain ⟨R,c⟩:=yG (fvB l b);rw [c];unfold fvB at c;rcases (by omega:l<1\/1<=l) with f|f
 .skip
  have a:R=false:=by rw [<-c];simp;omega
  have HQ:=Hd a;clear a c;go_in;exact Ko
 rcases (by omega:1000<l\/l<=1000) with e|e
 .skip
  have a:R=false:=by rw [<-c];simp;omega
  have HQ:=Hd a;clear a c;go_in;exact Ko
 rcases (by omega:b<l\/l<=b) with d|d
 .skip
  have a:R=false:=by rw [<-c];simp;omega
  have HQ:=Hd a;clear a c;go_in;exact Ko
 rcases (by omega:1024<b\/b<=1024) with g|g
 .skip
  have a:R=false:=by rw [<-c];simp;omega
  have HQ:=Hd a;clear a c;go_in;exact Ko
 have a:R=true:=by rw [<-c];simp;omega
 have HQ:=Hd a;clear a c;go_in;exact Ko
def vvB (l b:Int):Bool:=decide (1<=l)&&decide (l<=1000)&&decide (l+8<=b)&&decide (b<=1024)
def Fi (l b:Int) (w:Wd):Calls prog 239 #[.int .i64 l,.int .i64 b] w (Ae w (.bool (vvB l b))):=by
 obtain ⟨R,c⟩:=yG (vvB l b);rw [c];unfold vvB at c;rcases (by omega:l<1\/1<=l) with f|f
 .skip
  have a:R=false:=by rw [<-c];simp;omega
  have HQ:=Hd a;clear a c;go_in;exact Ko
 rcases (by omega:1000<l\/l<=1000) with e|e
 .skip
  have a:R=false:=by rw [<-c];simp;omega
  have HQ:=Hd a;clear a c;go_in;exact Ko
 rcases (by omega:b<(l+8)\/(l+8)<=b) with d|d
 .skip
  have a:R=false:=by rw [<-c];simp;omega
  have HQ:=Hd a;clear a c;go_in;exact Ko
 rcases (by omega:1024<b\/b<=1024) with g|g
 .skip
  have a:R=false:=by rw [<-c];simp;omega
  have HQ:=Hd a;clear a c;go_in;exact Ko
 have a:R=true:=by rw [<-c];simp;omega
 have HQ:=Hd a;clear a c;go_in;exact Ko
def svB (l b:Int):Bool:=decide (1<=l)&&decide (l<=1000)&&decide (9<=b)&&decide (b<=1024)
def Fk (l b:Int) (w:Wd):Calls prog 243 #[.int .i64 l,.int .i64 b] w (Ae w (.bool (svB l b))):=by
 obtain ⟨R,c⟩:=yG (svB l b);rw [c];unfold svB at c;rcases (by omega:l<1\/1<=l) with f|f
 .skip
  have a:R=false:=by rw [<-c];simp;omega
  have HQ:=Hd a;clear a c;go_in;exact Ko
 rcases (by omega:1000<l\/l<=1000) with e|e
 .skip
  have a:R=false:=by rw [<-c];simp;omega
  have HQ:=Hd a;clear a c;go_in;exact Ko
 rcases (by omega:b<9\/9<=b) with d|d
 .skip
  have a:R=false:=by rw [<-c];simp;omega
  have HQ:=Hd a;clear a c;go_in;exact Ko
 rcases (by omega:1024<b\/b<=1024) with g|g
 .skip
  have a:R=false:=by rw [<-c];simp;omega
  have HQ:=Hd a;clear a c;go_in;exact Ko
 have a:R=true:=by rw [<-c];simp;omega
 have HQ:=Hd a;clear a c;go_in;exact Ko
def B8 (l b:Int) (w:Wd):Calls prog 242 #[.int .i64 l,.int .i64 b] w (Ae w (.bool (decide (l<=b)))):=by
 go_wp2;go_ret;exact ⟨rfl,rfl⟩
def OF (l b:Int) (w:Wd):Calls prog 238 #[.int .i64 l,.int .i64 b] w (Ae w (.bool (l == b))):=by
 go_wp2;go_ret;exact ⟨rfl,rfl⟩
def Tw (n:Int) (w:Wd):Calls prog 192 #[.int .i64 n] w (Ae w (.bool (decide (0<=n)&&decide (n<=1099511627776)))):=by
 by_cases h:0<=n
 .go_wp2;go_ret;exact ⟨by simp [h],rfl⟩
 .go_wp2;go_ret;exact ⟨As,rfl⟩
def Ss (f:Value) (d:∃ a b c,f=.func a b c) (w:Wd):Calls prog 236 #[f] w (Ab w (.func (.func 315) #[] #[Ag w.1.size 0])):=by
 obtain ⟨a,b,c,rfl⟩:=d;go_wp2;go_ret;exact ⟨rfl,Aj⟩
def fmC (f:Int) (u:Value):List Value:=
 if f=0 then [Ai 234,Ai 235,u,.int .i64 0,Ai 238]
 else if f=1 then [Ai 239,Ai 240,u,.int .i64 0,Ai 242]
 else [Ai 243,Ai 244,u,.int .i64 32,Ai 242]
def FmG (f:Int) (w:Wd) (e:Ending) (w':Wd):Prop:=∃ a b c,e=.returned (.agg (fmC f (.func a b c)).toArray)/\Below w.1.size w w'
def Kv (W:Wd) (b:Nat) (cs:Array Value) (h:Blk W b 244 cs) (a:cs.size=5):(loadVar 244 ⟨b,0,none⟩).run prog W=.ok (.agg cs) W:=
 ZQ W b 244 244 cs (0,0) _ h underlying244 rfl (by rw [a];kernel_rfl)
abbrev DG (w:Wd) (d):=w.alloc (.cells (dC d).toArray 34)
def Z1 (d:DSet) (w:Wd):Calls prog 188 #[.agg (dC d).toArray] w (FmG d.fmt w):=by
 have m:∀ o,Blk ((DG w d).alloc o) w.1.size 34 (dC d).toArray:=fun o=>(Blk.new w 34 (dC d).toArray).alloc o
 have c2:∀ o,((DG w d).alloc o).cell? ⟨w.1.size,2,none⟩=some (.int .i64 d.fmt):=fun o=>((m o).cell 2).trans rfl
 have n:∀ o,Below w.1.size w ((DG w d).alloc o):=fun o=>Aj.alloc Am _
 have b:∀ a,Below (w.1.size+2) (Aa (DG w d) #[.nilFunc,.nilFunc,.nilFunc,.int .i64 0,.nilFunc] 244) a->Blk a (w.1.size+1) 244 #[.nilFunc,.nilFunc,.nilFunc,.int .i64 0,.nilFunc]/\Below w.1.size w a:=fun a c=>⟨(U3 (DG w d) 244 _ (w.1.size+1) Am).below c Oo,(n _).trans (c.mono Oo)⟩
 have e:∀ (a:Wd) (cs:Array Value),Blk a (w.1.size+1) 244 #[.nilFunc,.nilFunc,.nilFunc,.int .i64 0,.nilFunc]->Blk (a.setRow (w.1.size+1) cs) (w.1.size+1) 244 cs:=fun a cs h=>QR _ _ _ _ _ _ h
 have f:∀ (a:Wd) (cs:Array Value),Below w.1.size w a->Below w.1.size w (a.setRow (w.1.size+1) cs):=fun a cs h=>Uf h Oo cs
 have l:(Aa (DG w d) #[.nilFunc,.nilFunc,.nilFunc,.int .i64 0,.nilFunc] 244).1.size=w.1.size+2:=Am
 by_cases i:d.fmt=0
 .rw [i] at c2 ⊢;clear i;go_in;go_wp2_with (first|(go_at_call 236;refine yP (Ss _ ⟨_,_,_,rfl⟩ _) fun a c=>?_;rw [l] at c ⊢;have g:=b _ c;clear c)|((with_reducible apply Gt 244 2);apply Lt rfl 244 _ _ rfl (w.1.size+1) #[Ai 234,Ai 235,.func (.func 315) #[] #[Ag (w.1.size+2) 0],.int .i64 0,Ai 238] rfl rfl 244 #[.nilFunc,.nilFunc,.nilFunc,.int .i64 0,.nilFunc] g.1 Ak rfl (by simp [Value.oneCell'])));have j:=Kv _ (w.1.size+1) #[Ai 234,Ai 235,.func (.func 315) #[] #[Ag (w.1.size+2) 0],.int .i64 0,Ai 238] (e _ _ g.1) rfl
  exact Br (v:=.agg #[Ai 234,Ai 235,.func (.func 315) #[] #[Ag (w.1.size+2) 0],.int .i64 0,Ai 238]) (Vx results188 rfl j) rfl ⟨_,_,_,Af,f _ _ g.2⟩
 by_cases k:d.fmt=1
 .rw [k] at c2 ⊢;clear i k;go_in;go_wp2_with (first|(go_at_call 236;refine yP (Ss _ ⟨_,_,_,rfl⟩ _) fun a c=>?_;rw [l] at c ⊢;have g:=b _ c;clear c)|((with_reducible apply Gt 244 2);apply Lt rfl 244 _ _ rfl (w.1.size+1) #[Ai 239,Ai 240,.func (.func 315) #[] #[Ag (w.1.size+2) 0],.int .i64 0,Ai 242] rfl rfl 244 #[.nilFunc,.nilFunc,.nilFunc,.int .i64 0,.nilFunc] g.1 Ak rfl (by simp [Value.oneCell'])));have j:=Kv _ (w.1.size+1) #[Ai 239,Ai 240,.func (.func 315) #[] #[Ag (w.1.size+2) 0],.int .i64 0,Ai 242] (e _ _ g.1) rfl
  exact Br (v:=.agg #[Ai 239,Ai 240,.func (.func 315) #[] #[Ag (w.1.size+2) 0],.int .i64 0,Ai 242]) (Vx results188 rfl j) rfl ⟨_,_,_,Af,f _ _ g.2⟩
 have p:(d.fmt == 0)=false:=by simpa using i
 have q:(d.fmt == 1)=false:=by simpa using k
 go_in;go_wp2_with (first|((with_reducible apply Gt 244 2);apply Lt rfl 244 _ _ rfl (w.1.size+1) #[Ai 243,Ai 244,Ai 245,.int .i64 32,Ai 242] rfl rfl 244 #[.nilFunc,.nilFunc,.nilFunc,.int .i64 0,.nilFunc] (b _ (Bf _ _)).1 Ak rfl (by simp [Value.oneCell'])));have j:=Kv _ (w.1.size+1) #[Ai 243,Ai 244,Ai 245,.int .i64 32,Ai 242] (e _ _ (b _ (Bf _ _)).1) rfl;exact Br (v:=.agg #[Ai 243,Ai 244,Ai 245,.int .i64 32,Ai 242]) (Vx results188 rfl j) rfl ⟨_,_,_,by unfold fmC;rw [QX i,QX k],f _ _ (b _ (Bf _ _)).2⟩
def Fp (f l b:Int):Bool:=if f=0 then fvB l b else if f=1 then vvB l b else svB l b
def zP (f:Int):Int:=if f=0 then 0 else if f=1 then 0 else 32
def EO (d:DSet):Bool:=decide (d.org=0)&&decide (0<=d.fmt)&&decide (d.fmt<=2)&&Fp d.fmt d.len d.blk&&decide (zP d.fmt<=d.blk)
structure SV (d:DSet) (fm:Array Value) (g:Nat) (w W:Wd):Prop where
 b1:Blk W w.1.size 34 (dC d).toArray
 b2:Blk W g 244 fm
 be:Below w.1.size w W
abbrev MO (w:Wd) (d):=w.alloc (.cells (dC d).toArray 34)
def kI {d:DSet} {w a:Wd} (c:Array Value) (b:Below (MO w d).1.size (MO w d) a):SV d c a.1.size w (Aa a c 244):=
 ⟨((Blk.new w _ _).below b Am).alloc _,Blk.new _ _ _,(Aj.trans (b.mono Am)).alloc (by have:=b.size;simp at this;omega) _⟩
def zSV {G:Prop} (h:G:=by
  have f0:(d.org == 0)=decide (d.org=0):=rfl;simp only [ho,VS,UY] at f0;try first|have f1:=QQ g1|have f1:=QW g1
  try first|have f2:=QQ g2|have f2:=QW g2
  try first|have f3:=QQ g3|have f3:=QW g3
  go_in
  go_wp2_with (first|(with_reducible refine yL 34 1 HB.o ?_)|(go_at_call 188;refine HF.o.mono ?_;rintro e w2 ⟨v2,rfl,h2,hb⟩;have H2:=Hd h2;have HS:=Hd (kI (d:=d) #[.func (.func pk) #[] #[],v1,v2,.int .i64 z,v4] hb);have c1:=HS.o.b1.ce 1 (.int .i64 d.org);have c2:=HS.o.b1.ce 2 (.int .i64 d.fmt);have c3:=HS.o.b1.ce 3 (.int .i64 d.len);have c4:=HS.o.b1.ce 4 (.int .i64 d.blk);have e0:=(HS.o.b2.cell 0).trans (show _=some (.func (.func pk) #[] #[]:Value) from rfl);have e3:=HS.o.b2.ce 3 (.int .i64 z);clear hb h2)|(with_reducible refine yS 244 3 (Blk.new _ _ _) (cs:=#[.func (.func pk) #[] #[],v1,v2,.int .i64 z,v4]) (iE.o v2 H2.o) ?_;rw [U5])|(with_reducible refine yE (HV.o _) ?_))
  go_ret;exact ⟨by rw [<-HR.o];simp [*]<;>(intros;omega),HS.o.be⟩):G:=h
def tF (d:DSet) (w:Wd) (pk:Nat) (v1 v4:Value) (z:Int) (v:Bool) (g:∀ args W,(callFunc pk args).run prog W=.ok (.enter pk args) W)
  (c:∀ W,Calls prog 188 #[.agg (dC d).toArray] W fun e w'=>∃ v2,e=.returned (.agg #[.func (.func pk) #[] #[],v1,v2,.int .i64 z,v4])/\v2.oneCell'=true/\Below W.1.size W w') (b:v1.oneCell'=true) (a:v4.oneCell'=true)
  (f:∀ W,Calls prog pk #[.int .i64 d.len,.int .i64 d.blk] W (Ae W (.bool v))):
  Calls prog 146 #[.agg (dC d).toArray] w (Ab w (.bool (decide (d.org=0)&&(decide (0<=d.fmt)&&(decide (d.fmt<=2)&&(v&&decide (z<=d.blk))))))):=by
 have HB:=Hd (Blk.new w 34 (dC d).toArray);have HF:=Hd (c (MO w d));have HV:=Hd f;have iE:Aw (∀ v2:Value,v2.oneCell'=true->(#[.func (.func pk) #[] #[],v1,v2,.int .i64 z,v4]:Array Value).all (·.oneCell')=true):=Hd fun v2 h2=>by simp only [List.all_toArray,UT,IK,b,h2,a,VZ,XL];rfl
 obtain ⟨R,HR⟩:=yH (decide (d.org=0)&&(decide (0<=d.fmt)&&(decide (d.fmt<=2)&&(v&&decide (z<=d.blk)))));rw [HR.o];clear c f b a;by_cases ho:d.org=0;rotate_left
 .exact zSV
 by_cases g1:0<=d.fmt;rotate_left
 .exact zSV
 by_cases g2:d.fmt<=2;rotate_left
 .exact zSV
 cases v
 .exact zSV
 by_cases g3:z<=d.blk;all_goals exact zSV
def Fq (d:DSet) (w:Wd):Calls prog 146 #[.agg (dC d).toArray] w (Ab w (.bool (EO d))):=by
 have f:=fun W=>Z1 d W
 unfold FmG fmC at f;unfold EO Fp zP;by_cases g:d.fmt=0
 case' pos=>
  simp only [QK g] at f ⊢;have H:=Iz d.len d.blk
 case' neg=>
  by_cases j:d.fmt=1
  case' pos=>
   simp only [QX g,QK j] at f ⊢;have H:=Fi d.len d.blk
  case' neg=>
   simp only [QX g,QX j] at f ⊢;have H:=Fk d.len d.blk
 all_goals exact (tF d w _ _ _ _ _ (fun _ _=>Ak) (fun W=>(f W).mono fun e w' ⟨a,b,c,h,i⟩=>⟨_,h,rfl,i⟩) rfl rfl H).mono fun e w' ⟨h,i⟩=>⟨by rw [h];simp only [ZL],i⟩
def Zq (d:DSet):Bool:=decide (1<=d.id)&&decide (d.id<=1099511627776)&&(if d.org=0 then EO d else Yd d)
def lk {G:Prop} (h:G:=by
  have HQ:=Hd (show R=false by rw [<-HR.o];simp [Zq];omega);go_wp2;go_ret;exact ⟨by rw [HQ.o];rfl,HX.o⟩):G:=h
def MY (d:DSet) (w:Wd):Calls prog 104 #[.agg (dC d).toArray] w (Ab w (.bool (Zq d))):=by
 have c:=Hd (Blk.new w 34 (dC d).toArray);have HX:=Hd ((Bf w.1.size w).alloc (Le _) (.cells (dC d).toArray 34));have l:=c.o.ce 0 (.int .i64 d.id);have c1:=c.o.ce 1 (.int .i64 d.org);obtain ⟨R,HR⟩:=yH (Zq d);rw [HR.o];rcases (by omega:d.id<1\/1<=d.id) with g|g
 .exact lk
 rcases (by omega:1099511627776<d.id\/d.id<=1099511627776) with e|e
 .exact lk
 by_cases a:d.org=0
 .have HQ:=Hd (show R=EO d by rw [<-HR.o];simp [Zq,a,g,e]);have f:=Hd (Fq d (MO w d));have i:(d.org == 0)=true:=by simpa using a
  clear a;go_in;go_wp2_with (first|(with_reducible refine yL 34 1 c.o ?_)|(go_at_call 146;refine yP f.o fun k b=>?_;have j:=Hd (HX.o.trans (b.mono Am));clear b));go_ret;exact ⟨by rw [HQ.o];rfl,j.o⟩
 .have HQ:=Hd (show R=Yd d by rw [<-HR.o];simp [Zq,a,g,e]);have f:=Hd (FI d (MO w d));have i:(d.org == 0)=false:=by simpa using a
  clear a;go_in;go_wp2_with (first|(with_reducible refine yL 34 1 c.o ?_)|(go_at_call 147;refine yP f.o fun k b=>?_;have j:=Hd (HX.o.trans (b.mono Am));clear b));go_ret;exact ⟨by rw [HQ.o];rfl,j.o⟩
def IT (k:Bz):Bool:=(Uc k).2&&decide (1<=(Uc k).1)&&decide ((Uc k).1<=65536)
def Y0 (d:DSet) (k:Bz):Bool:=if d.org=3 then ((k.size:Int) == d.kln) else IT k
def pO {G:Prop} (h:G:=by
  go_in;go_wp2_with (go_at_call 155;refine yP HC.o fun w2 hb=>?_;have aK:=Hd (HX.o.trans (hb.mono Am));clear hb);go_ret
  first
   |exact ⟨rfl,aK.o⟩
   |exact ⟨As,aK.o⟩):G:=h
def Pf (d:DSet) (k:Bz) (w:Wd):Calls prog 214 #[.agg (dC d).toArray,.string k] w (Ab w (.bool (Y0 d k))):=by
 have c:=Hd (Blk.new w 34 (dC d).toArray);have HX:=Hd ((Bf w.1.size w).alloc (Le _) (.cells (dC d).toArray 34));have c1:=c.ce 1 (.int .i64 d.org);have g:=c.ce 6 (.int .i64 d.kln);unfold Y0;by_cases a:d.org=3
 .rw [QK a];have b:(d.org == 3)=true:=by simpa using a
  clear a;go_wp2;go_ret;exact ⟨rfl,HX⟩
 .rw [QX a];have b:(d.org == 3)=false:=by simpa using a
  have HC:=Hd (GN k (MO w d));unfold IT;generalize Uc k=f at HC ⊢;obtain ⟨n,z⟩:=f;clear a;simp only at HC ⊢;cases z with
  |false=>
   exact pO
  |true=>
   rcases (by omega:n<1\/1<=n) with e|e
   .exact pO
   .exact pO
def Y8 (W:Wd) (g n c:Nat) (t:TypeId) (xs:List Int) (b:Blk W g t (xs.map (Value.int .u8)).toArray) (d:xs.length=n):(convert 183 9 (.slice (Ah g 0) n c)).run prog W=.ok (.string (strOfNums xs)) W:=
 ZR W 183 5 Ak Ak g 0 n c xs d (fun i e=>by
  obtain ⟨v,a⟩:∃ v,xs[i]? =some v:=⟨_,QV Oo⟩
  rw [QB,b.cell i,Ga,YK,a,WJ,a];rfl) 9 Ak
def L6 (n:Int) (w:Wd) (d:0<=n) (c:n<=65535):Calls prog 370 #[.int .i64 n] w fun e w'=>∃ s:Bz,e=.returned (.string s)/\s.size=4/\Below w.1.size w w':=by
 have b:=Y8 (Aa w #[.int .u8 (n / 256),.int .u8 (n % 256),.int .u8 0,.int .u8 0] 5) w.1.size 4 4 5 [n / 256,n % 256,0,0] (Blk.new w _ _) rfl;have hz:(strOfNums [n / 256,n % 256,0,0]).size=4:=by rw [WD];rfl
 have a:=Hd hz;generalize strOfNums [n / 256,n % 256,0,0]=s at b a;clear hz;go_wp2;go_ret;exact ⟨s,rfl,a.o,Aj⟩
def pP {G:Prop} (h:G:=by
  go_wp2_with (go_at_call 370;refine HC.o.mono ?_;rintro e w2 ⟨s,rfl,hs,hb⟩;have HS:=Hd hs;have HB:=Hd hb;have aM:¬ (9223372036854775807<s.size+r.size):=Oo;clear hs hb);go_ret;exact ⟨_,rfl,by have:=HS.o;rw [QY];omega,HB.o⟩):G:=h
def CN (r:Bz) (w:Wd) (a:r.size<=2000):Calls prog 316 #[.string r] w fun e w'=>∃ s:Bz,e=.returned (.string s)/\s.size=4+r.size/\Below w.1.size w w':=by
 have HC:=Hd (L6 (4+(r.size:Int)) w Oo Oo);go_in;exact pP
def Td (r:Bz) (w:Wd) (a:r.size<=2000):Calls prog 317 #[.string r] w fun e w'=>∃ s:Bz,e=.returned (.string s)/\s.size=4+r.size/\Below w.1.size w w':=by
 have HC:=Hd (L6 (4+(r.size:Int)) w Oo Oo);go_in;exact pP
def Tl (r:Bz) (w:Wd) (a:r.size<=2000):Calls prog 372 #[.string r] w fun e w'=>∃ s:Bz,e=.returned (.string s)/\s.size=4+r.size/\Below w.1.size w w':=by
 have HC:=Hd (L6 (4+(r.size:Int)) w Oo Oo);go_in;exact pP
def xM (l b:Int) (w:Wd) (a:fvB l b=true):Calls prog 313 #[.int .i64 l,.int .i64 b] w fun e w'=>∃ q:Int,e=.returned (.int .i64 q)/\1<=q/\w=w':=by
 have c:=Hd (Iz l b w);rw [a] at c;have h:1<=l/\l<=1000/\l<=b/\b<=1024:=by unfold fvB at a;simp at a;omega
 obtain ⟨g,d,i,f⟩:=h;clear a;go_in;go_wp2_with (go_at_call 234;refine yE c.o ?_);go_ret;exact ⟨b / l,rfl,(Int.le_ediv_iff_mul_le Oo).2 Oo,rfl⟩
def Oi (g:Nat) (s:Bz) (w:Wd) (a:w.cell? ⟨g,0,none⟩=some (.string s)):Calls prog 314 #[.slice (Ah g 0) 1 1,.string ⟨#[]⟩] w (Ae w (.string s)):=by
 go_wp2;go_ret;exact ⟨rfl,rfl⟩
def V5:(prog.info? 9).map (fun i=>(i.zero,i.size,i.bytes))=some (some (.string ⟨#[]⟩),1,16):=Ak
def PkG (w:Wd) (e:Ending) (w':Wd):Prop:=∃ A n c L,e=.returned (.tuple #[.slice A n c,.int .i64 0])/\Sl Ug 1 w' w'.1.size A n c L/\n<=100/\(∀ s∈L,s.size<=2000)/\Below w.1.size w w'
def ll {G:Prop} (h:G:=by
  refine Lu 2 ?_;rw [Rs];go_wp2_with (first|(go_at_call 314;refine yE HJ.o ?_)|(at_builtin;go_must (refine Ui _ rfl _ _ 133 rfl w.1.size 9 i0 _ 1 16 underlying133 bC bB aP aT rfl Ac (.slice none 0 0) 0 [] rfl ⟨rfl,.inl ⟨rfl,rfl⟩⟩ (w.1.size+1) (Ah w.1.size 0) 1 1 [.string r] rfl dM.o (Yn r) Ac Ac Am ?_;intro v' w3 aD aI _;have bX:=Hd aD;have eH:Aw (World.grownBy _ w3 (Value.slice none 0 0).ownBlock):=Hd aI;clear aD aI)));rw [Rs];go_wp2
  go_ret2
  obtain ⟨A',c',rfl,_⟩:=U4 bX.o;exact ⟨A',1,c',[r],rfl,Sl.of_own (f:=Ug) (fun _=>rfl) Ac bX.o,Ac,fun s hs=>by simp at hs;subst hs;exact HRS.o,((Bf w.1.size w).alloc (Le _) _).grown eH.o Am (by intro k hk;simp [Value.ownBlock] at hk)⟩):G:=h
def Sc (l b:Int) (g:Nat) (r:Bz) (w:Wd) (c:fvB l b=true) (d:Blk w g 9 #[.string r]) (n:(r.size:Int)=l):
  Calls prog 235 #[.int .i64 l,.int .i64 b,.slice (Ah g 0) 1 1] w (PkG w):=by
 obtain ⟨i0,bC,bB,aP,aT⟩:=WG V5;have j:=Hd (Iz l b w);rw [c] at j;have m:=Hd (xM l b w c);have o:=d.ce 0 (.string r);have HJ:=Hd (Oi g r w o);have i:r.size<=2000:=by unfold fvB at c;simp at c;omega
 have HRS:=Hd i;have dM:=Hd (Yv w [.string r] 9 1 1 rfl);clear c d i;subst n;go_in;go_wp2_with (go_at_call 234;refine yE j.o ?_);refine Lu 2 ?_;rw [Rs];go_wp2;rw [Rs];go_wp2_with (go_at_call 313;refine m.o.mono ?_;rintro e u ⟨q,rfl,p,rfl⟩);rcases (by omega:q=1\/1<q) with a|a
 .subst a;exact ll
 .have h2:¬ (q<=1):=Oo
  have t:¬ (q<1):=Oo
  exact ll
def Qa (l b:Int) (g:Nat) (r:Bz) (w:Wd) (h:vvB l b=true) (u:Blk w g 9 #[.string r]) (N:(r.size:Int)<=l):
  Calls prog 240 #[.int .i64 l,.int .i64 b,.slice (Ah g 0) 1 1] w (PkG w):=by
 obtain ⟨M,G,L,F,E⟩:=WG V5;have C:=Hd (Fi l b w);rw [h] at C;have W:=u.ce 0 (.string r);have P:r.size<=1000:=by unfold vvB at h;simp at h;omega
 have I:=Hd (CN r w Oo);have o:=Hd P;have T:¬ (l<(r.size:Int)):=Oo
 clear h u N;go_in;go_wp2_with (go_at_call 239;refine yE C.o ?_);refine Lu 2 ?_;rw [Rs];go_wp2;rw [Rs];go_wp2;refine Lu 2 ?_;rw [Rs];go_wp2_with (go_at_call 316;refine I.o.mono ?_;rintro e R ⟨f,rfl,y,t⟩;have m:=Hd y;have v:=Hd t;have p:=(I4 (d:=f) Oo);obtain ⟨V,X⟩:=p;have U:¬ (9223372036854775807<f.size):=Oo;have Q:=BT f;have O:=Hd (Td f R Oo);clear t y);rw [Rs]
 go_wp2_with (first|(go_at_call 317;refine O.o.mono ?_;rintro e j ⟨c,rfl,a,B⟩;have n:=Hd a;have i:=Hd (U0 v.o B v.o.size);have K:=Hd (Yv j [.string c] 9 1 1 rfl);clear B a)|(at_builtin;go_must (refine Ui _ rfl _ _ 133 rfl w.1.size 9 M _ 1 16 underlying133 G L F E rfl Ac (.slice none 0 0) 0 [] rfl ⟨rfl,.inl ⟨rfl,rfl⟩⟩ (j.1.size+1) (Ah j.1.size 0) 1 1 [.string c] rfl K.o (Yn c) Ac Ac (by have:=i.o.size;simp;omega) ?_;intro S D q x _;have A:=Hd q;have H:Aw (World.grownBy _ D (Value.slice none 0 0).ownBlock):=Hd x;clear q x)))
 go_ret2
 obtain ⟨A',c',rfl,_⟩:=U4 A.o;exact ⟨A',1,c',[c],rfl,Sl.of_own (f:=Ug) (fun _=>rfl) Ac A.o,Ac,fun s z=>by simp at z;subst z;have:=n.o;have:=m.o;have:=o.o;omega,(i.o.alloc i.o.size _).grown H.o (by have:=i.o.size;simp;omega) (by intro k J;simp [Value.ownBlock] at J)⟩
def Cod (w:Wd):Prop:=∀ (i:Nat) (z:Bool),[false,false,false,true,true,false,true,true][i]? =some z->w.cell? ⟨1,i,none⟩=some (.bool z)
def Cod.next {w w':Wd} {B:Nat} (h:Cod w) (b:Below B w w') (a:1<B):Cod w':=fun i z hz=>(b.cell (p:=⟨_,i,none⟩) a).trans (h i z hz)
def Cod.lt {w:Wd} (h:Cod w):1<w.1.size:=Kd (h 0 false rfl)
def Cod.after {w w':Wd} (h:Cod w) (a:Below w.1.size w w'):Cod w':=h.next a h.lt
def DQ (r:Bz) (w:Wd):Calls prog 371 #[.string r] w fun e w'=>e=.returned (.func (.func 394) #[] #[Ag (w.1.size+2) 0,Ag w.1.size 0,Ag (w.1.size+1) 0]) /\
  w'=((Aa w #[.string r] 9).alloc (.cells #[.bool false] 4)).alloc (.cells #[.bool false] 4):=by
 go_wp2;go_ret;exact ⟨rfl,rfl⟩
end Go.Proofs.YtdleakjejodjjaaGreatDoor
