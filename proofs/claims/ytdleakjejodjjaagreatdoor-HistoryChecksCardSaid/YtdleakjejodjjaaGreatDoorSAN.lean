/- Of the history laws. -/
import Derived.Test.YtdleakjejodjjaaGreatDoorSAI
import Derived.StillTailTactics
import Derived.Test.YtdleakjejodjjaaGreatDoorSAJ
namespace Go.Proofs.YtdleakjejodjjaaGreatDoor
open Tryz
set_option linter.defProp false
set_option linter.unusedVariables false
set_option linter.unusedSimpArgs false
set_option maxRecDepth 100000
set_option maxHeartbeats 20000000
open Go.RowKit
section
variable {w W:Wd} {p:Nat} {r:Bz} {bg:Bool} {x:Bz} {af:Bool}
structure Pt (W:Wd) (p:Nat) (r:Bz) (bg dn:Bool):Prop where
 r0:Blk W p 9 #[.string r]
 r1:Blk W (p+1) 4 #[.bool bg]
 r2:Blk W (p+2) 4 #[.bool dn]
def sgC (a b:Bool) (s:Bz):List Value:=[.bool a,.bool b,.string s]
def Tv {S:List Nat} {g:Nat} (h:Far S w W) (b:w.1.size<=g) (cs:Array Value):Far S w (W.setRow g cs):=
 ⟨h.os,h.tape,h.output,by simpa using h.size,fun k a hn=>(QE W g k cs Oo).trans (h.block k a hn)⟩
def Iq (W:Wd) (b:Nat) (cs:Array Value) (h:Blk W b 385 cs) (a:cs.size=3):(loadVar 385 ⟨b,0,none⟩).run prog W=.ok (.agg cs) W:=
 ZQ W b 385 385 cs (0,0) _ h underlying385 rfl (by rw [a];kernel_rfl)
def O8 (p:Nat) (r:Bz) (bg:Bool) (b:Int) (w:Wd) (c:Pt w p r bg true):
  Calls prog 394 #[.int .i64 b,Ag (p+2) 0,Ag p 0,Ag (p+1) 0] w (Ab w (.tuple #[.agg (sgC false false ⟨#[]⟩).toArray,.bool false])):=by
 have c2:∀ o,(w.alloc o).cell? ⟨p+2,0,none⟩=some (.bool true):=fun o=>((c.r2.alloc o).cell 0).trans rfl
 have g:=fun a=>Blk.new w 385 a
 have h:=fun a=>U5 w a #[.bool false,.bool false,.string ⟨#[]⟩] 385
 have f:∀ o,Below w.1.size w (w.alloc o):=fun o=>Aj
 have e:=Blk.new w 385 #[.bool false,.bool false,.string ⟨#[]⟩];clear c;go_wp2;have d:=Iq _ w.1.size #[.bool false,.bool false,.string ⟨#[]⟩] e rfl;exact Br (v:=.tuple #[.agg #[.bool false,.bool false,.string ⟨#[]⟩],.bool false]) (U2 results394 rfl rfl d) rfl ⟨rfl,f _⟩
structure NX (p:Nat) (r:Bz) (bg:Bool) (x:Bz) (af:Bool) (w W:Wd):Prop where
 pt:Pt W p r bg false
 bz:Blk W w.1.size 385 #[.bool false,.bool false,.string ⟨#[]⟩]
 bs:Blk W (w.1.size+1) 385 #[.bool bg,.bool af,.string x]
 be:Below w.1.size w W
 lt:p+2<w.1.size
abbrev yw (w:Wd) (f_):=w.alloc (.cells #[.bool f_,.bool f_,.string ⟨#[]⟩] 385)
def pp (a:Pt w p r bg false):NX p r bg x af w (Aa (yw w false) #[.bool bg,.bool af,.string x] 385).drew:=
 ⟨⟨(a.r0.alloc _).alloc _,(a.r1.alloc _).alloc _,(a.r2.alloc _).alloc _⟩,(Blk.new w _ _).alloc _,U3 (w.alloc _) _ _ _ Am,(Aj.alloc Am _).drew,a.r2.lt⟩
structure NY (p:Nat) (bg:Bool) (x:Bz) (af:Bool) (r2:Bz) (dn:Bool) (w W:Wd):Prop where
 pt:Pt W p r2 true dn
 bz:Blk W w.1.size 385 #[.bool false,.bool false,.string ⟨#[]⟩]
 bs:Blk W (w.1.size+1) 385 #[.bool bg,.bool af,.string x]
 fa:Far [p,p+1,p+2] w W
 lt:p+2<w.1.size
def xF (h:NX p r bg x af w W) (r2:Bz) (a:Bool):
  NY p bg x af r2 a w (((W.setCell ⟨p,0,none⟩ (.string r2)).setCell ⟨p+1,0,none⟩ (.bool true)).setCell ⟨p+2,0,none⟩ (.bool a)).drew:=by
 have b:=h.lt
 refine ⟨⟨(((h.pt.r0.set 0 _).far Am _).far Am _).drew,(((h.pt.r1.far Am _).set 0 _).far Am _).drew,(((h.pt.r2.far Am _).far Am _).set 0 _).drew⟩,
  ((((h.bz.far As _).far As _).far As _)).drew,((((h.bs.far As _).far As _).far As _)).drew,?_,b⟩
 exact (((((Far.of_below h.be).set _ _ _ (.inl Am)).set _ _ _ (.inl Am)).set _ _ _ (.inl Am)).drewN 1)
def T5 (p:Nat) (r:Bz) (c:Int) (w:Wd) (e:Ending) (w':Wd):Prop:=∃ a b x r2 d,e=.returned (.tuple #[.agg (sgC a b x).toArray,.bool true])/\(x.size:Int)<=c/\x.size<=r.size/\r2.size<=r.size/\(d=false->r2.size<r.size)/\Pt w' p r2 true d/\Far [p,p+1,p+2] w w'
def TY {r2:Bz} {b:Bool} {a:Int} (h:NY p bg x af r2 b w W) (e:(x.size:Int)<=a) (c:x.size<=r.size) (f:r2.size<=r.size) (d:b=false->r2.size<r.size):
  T5 p r a w (.returned (.tuple #[.agg #[.bool bg,.bool af,.string x],.bool true])) (W.setRow w.1.size #[.bool bg,.bool af,.string x]):=by
 have g:=h.lt;refine ⟨bg,af,x,r2,b,rfl,e,c,f,d,⟨?_,?_,?_⟩,Tv h.fa (Le _) _⟩
 .exact (QE W _ _ _ Oo).trans h.pt.r0
 .exact (QE W _ _ _ Oo).trans h.pt.r1
 .exact (QE W _ _ _ Oo).trans h.pt.r2
def oZ (p:Nat) (n:Nat) (r:Bz) (bg:Bool) (w:Wd) (a:Pt w p r bg false) (s:1<=n) (hn:n<r.size) (_:r.size<=2000):
  Calls prog 394 #[.int .i64 n,Ag (p+2) 0,Ag p 0,Ag (p+1) 0] w (T5 p r n w):=by
 have h:∀ o,(w.alloc o).cell? ⟨p,0,none⟩=some (.string r):=fun o=>((a.r0.alloc o).cell 0).trans rfl
 have c1:∀ o,(w.alloc o).cell? ⟨p+1,0,none⟩=some (.bool bg):=fun o=>((a.r1.alloc o).cell 0).trans rfl
 have c2:∀ o,(w.alloc o).cell? ⟨p+2,0,none⟩=some (.bool false):=fun o=>((a.r2.alloc o).cell 0).trans rfl
 have u:(n:Int)<=(r.size:Int):=Oo
 have i:(n:Int)<(r.size:Int):=Oo
 have m:n<=r.size:=Oo
 have A:decide ((n:Int)<(r.size:Int))=true:=by simpa using i
 have t:((n:Int) == (r.size:Int))=false:=As
 go_wp2
 go_region_held3 (fun w'=>w'.cell? ⟨p,0,none⟩=some (.string r)/\w'.cell? ⟨p+1,0,none⟩=some (.bool bg)) (first|go_keep|exact ⟨h _,c1 _⟩) (fail)
 have f:NX p r bg (r.extract 0 n) true w (Aa (yw w false) #[.bool bg,.bool true,.string (r.extract 0 n)] 385).drew:=pp a;generalize (Aa (yw w false) #[.bool bg,.bool true,.string (r.extract 0 n)] 385).drew=c at f ⊢;clear h c1 c2 a;obtain ⟨e,d,g⟩:=f.pt;have l:=e.ce 0 (.string r);have z:c.frozen? ⟨p,0,none⟩=false:=e.free 0;have B:=d.ce 0 (.bool bg);have q:c.frozen? ⟨p+1,0,none⟩=false:=d.free 0;have y:=g.ce 0 (.bool false);have C:c.frozen? ⟨p+2,0,none⟩=false:=g.free 0;clear e d g;go_wp2_with fail
 go_region_law (fail)
 all_goals
  have b:NY p bg (r.extract 0 n) true (r.extract n r.size) false w (((c.setCell ⟨p,0,none⟩ (.string (r.extract n r.size))).setCell ⟨p+1,0,none⟩ (.bool true)).setCell ⟨p+2,0,none⟩ (.bool false)).drew:=xF f _ _;generalize (((c.setCell ⟨p,0,none⟩ (.string (r.extract n r.size))).setCell ⟨p+1,0,none⟩ (.bool true)).setCell ⟨p+2,0,none⟩ (.bool false)).drew=k at b ⊢;go_wp2_with (first|(with_reducible refine yL 385 8 b.bs ?_)|((with_reducible refine Gt 385 5 ?_);apply Lt rfl 385 _ _ rfl w.1.size #[.bool bg,.bool true,.string (r.extract 0 n)] rfl rfl 385 #[.bool false,.bool false,.string ⟨#[]⟩] b.bz Ak rfl (by simp [Value.oneCell'])));have j:=Iq (k.setRow w.1.size #[.bool bg,.bool true,.string (r.extract 0 n)]) w.1.size #[.bool bg,.bool true,.string (r.extract 0 n)] (QR _ _ _ _ _ _ b.bz) rfl
  exact Br (v:=.tuple #[.agg #[.bool bg,.bool true,.string (r.extract 0 n)],.bool true]) (U2 results394 rfl rfl j) rfl (TY b As As Am (fun _=>As))
abbrev sE (a:Wd) (p) (n_) (t_):=((a.setCell ⟨p,0,n_⟩ (.string ByteArray.empty)).setCell ⟨p+1,0,n_⟩ (.bool t_)).setCell ⟨p+2,0,n_⟩ (.bool t_)
theorem lm {G:Prop} (h:G:=by
  have e1:r.extract 0 r.size=r:=GP r;go_wp2
  go_region_held3 (fun w'=>w'.cell? ⟨p,0,none⟩=some (.string r)/\w'.cell? ⟨p+1,0,none⟩=some (.bool bg)) (first|go_keep|exact ⟨c0 _,c1 _⟩) (fail)
  have HW:Aw (NX p r bg (r) false w (Aa (yw w false) #[.bool bg,.bool false,.string (r)] 385).drew):=Hd (pp hp);generalize (Aa (yw w false) #[.bool bg,.bool false,.string (r)] 385).drew=W5 at HW ⊢;clear c0 c1 c2 hp;obtain ⟨k0,k1,k2⟩:=HW.o.pt;have x0:=k0.ce 0 (.string r);have y0:W5.frozen? ⟨p,0,none⟩=false:=k0.free 0;have x1:=k1.ce 0 (.bool bg);have y1:W5.frozen? ⟨p+1,0,none⟩=false:=k1.free 0;have x2:=k2.ce 0 (.bool false);have y2:W5.frozen? ⟨p+2,0,none⟩=false:=k2.free 0;clear k0 k1 k2;go_wp2_with fail
  go_region_law (fail)
  first
   |all_goals
     have HY:Aw (NY p bg (r) false ByteArray.empty true w (sE W5 p none true).drew):=Hd (xF HW.o _ _);generalize (sE W5 p none true).drew=W6 at HY ⊢;go_wp2_with (first|(with_reducible refine yL 385 8 HY.o.bs ?_)|((with_reducible refine Gt 385 5 ?_);refine Lt rfl 385 _ _ rfl w.1.size #[.bool bg,.bool false,.string (r)] rfl rfl 385 #[.bool false,.bool false,.string ⟨#[]⟩] HY.o.bz Ak rfl (by simp [Value.oneCell']) ?_));have fD:=Iq (W6.setRow w.1.size #[.bool bg,.bool false,.string (r)]) w.1.size #[.bool bg,.bool false,.string (r)] (QR _ _ _ _ _ _ HY.o.bz) rfl;exact Br (v:=.tuple #[.agg #[.bool bg,.bool false,.string (r)],.bool true]) (U2 results394 rfl rfl fD) rfl (TY HY.o (XI _) (Le _) (Z0 _) (fun h=>by cases h))
   |all_goals
     have HY:Aw (NY p bg (r) false ByteArray.empty true w (sE W5 p none true).drew):=Hd (xF HW.o _ _);generalize (sE W5 p none true).drew=W6 at HY ⊢;go_wp2_with (first|(with_reducible refine yL 385 8 HY.o.bs ?_)|((with_reducible refine Gt 385 5 ?_);refine Lt rfl 385 _ _ rfl w.1.size #[.bool bg,.bool false,.string (r)] rfl rfl 385 #[.bool false,.bool false,.string ⟨#[]⟩] HY.o.bz Ak rfl (by simp [Value.oneCell']) ?_));have fD:=Iq (W6.setRow w.1.size #[.bool bg,.bool false,.string (r)]) w.1.size #[.bool bg,.bool false,.string (r)] (QR _ _ _ _ _ _ HY.o.bz) rfl;exact Br (v:=.tuple #[.agg #[.bool bg,.bool false,.string (r)],.bool true]) (U2 results394 rfl rfl fD) rfl (TY HY.o Oo (Le _) (Z0 _) (fun h=>by cases h))):G:=h
def oY (p:Nat) (r:Bz) (bg:Bool) (w:Wd) (hp:Pt w p r bg false)  (_:r.size<=2000):
  Calls prog 394 #[.int .i64 r.size,Ag (p+2) 0,Ag p 0,Ag (p+1) 0] w (T5 p r r.size w):=by
 have c0:∀ o,(w.alloc o).cell? ⟨p,0,none⟩=some (.string r):=fun o=>((hp.r0.alloc o).cell 0).trans rfl
 have c1:∀ o,(w.alloc o).cell? ⟨p+1,0,none⟩=some (.bool bg):=fun o=>((hp.r1.alloc o).cell 0).trans rfl
 have c2:∀ o,(w.alloc o).cell? ⟨p+2,0,none⟩=some (.bool false):=fun o=>((hp.r2.alloc o).cell 0).trans rfl
 exact lm
def oX (p:Nat) (a:Int) (r:Bz) (bg:Bool) (w:Wd) (hp:Pt w p r bg false) (hn:(r.size:Int)<a) (_:r.size<=2000):
  Calls prog 394 #[.int .i64 a,Ag (p+2) 0,Ag p 0,Ag (p+1) 0] w (T5 p r a w):=by
 have c0:∀ o,(w.alloc o).cell? ⟨p,0,none⟩=some (.string r):=fun o=>((hp.r0.alloc o).cell 0).trans rfl
 have c1:∀ o,(w.alloc o).cell? ⟨p+1,0,none⟩=some (.bool bg):=fun o=>((hp.r1.alloc o).cell 0).trans rfl
 have c2:∀ o,(w.alloc o).cell? ⟨p+2,0,none⟩=some (.bool false):=fun o=>((hp.r2.alloc o).cell 0).trans rfl
 have c:¬ (a<=(r.size:Int)):=Oo
 have b:¬ (a<(r.size:Int)):=Oo
 exact lm
end
section
variable {p:Nat} {w:Wd} {r:Bz} {bg:Bool} {w':Wd} {dn:Bool} {L:List Bz} {A:Option Addr} {c:Nat} {x1 r1 r2:Bz} {dn2:Bool} {wx:Wd}
theorem pN {G:Prop} (h:G:=by
  rw [Rs];go_wp2_with fail
  go_quiet (fail)
  go_wp2;rw [Rs];go_wp2_with fail
  go_quiet (fail)
  go_wp2;go_ret
  first
   |exact ⟨⟨1,rfl,Ac⟩,by first|exact Uk (HX.o _) _|exact Uk (Uk (HX.o _) _) _⟩
   |exact ⟨⟨2,rfl,Ac⟩,by first|exact Uk (HX.o _) _|exact Uk (Uk (HX.o _) _) _⟩
   |exact ⟨⟨3,rfl,Ac⟩,by first|exact Uk (HX.o _) _|exact Uk (Uk (HX.o _) _) _⟩):G:=h
def Ok (a b:Bool) (w:Wd) (f:Cod w):Calls prog 395 #[.slice (Ah 1 0) 4 4,.agg #[.bool a,.bool b]] w fun e w'=>(∃ n:Nat,e=.returned (.int .i64 n)/\n<4)/\Below w.1.size w w':=by
 have g:=f.lt;have m:∀ o,(w.alloc o).cell? ⟨1,0,none⟩=some (.bool false):=fun o=>(XC w o _ g).trans (f 0 _ rfl)
 have t:∀ o,(w.alloc o).cell? ⟨1,1,none⟩=some (.bool false):=fun o=>(XC w o _ g).trans (f 1 _ rfl)
 have l:∀ o,(w.alloc o).cell? ⟨1,2,none⟩=some (.bool false):=fun o=>(XC w o _ g).trans (f 2 _ rfl)
 have k:∀ o,(w.alloc o).cell? ⟨1,3,none⟩=some (.bool true):=fun o=>(XC w o _ g).trans (f 3 _ rfl)
 have s:∀ o,(w.alloc o).cell? ⟨1,4,none⟩=some (.bool true):=fun o=>(XC w o _ g).trans (f 4 _ rfl)
 have v:∀ o,(w.alloc o).cell? ⟨1,5,none⟩=some (.bool false):=fun o=>(XC w o _ g).trans (f 5 _ rfl)
 have i:∀ o,(w.alloc o).cell? ⟨1,6,none⟩=some (.bool true):=fun o=>(XC w o _ g).trans (f 6 _ rfl)
 have q:∀ o,(w.alloc o).cell? ⟨1,7,none⟩=some (.bool true):=fun o=>(XC w o _ g).trans (f 7 _ rfl)
 have HX:=Hd fun o=>(Bf w.1.size w).alloc (Le _) o
 have j:(Aa w #[.bool a,.bool b] 388).cell? ⟨w.1.size,0,none⟩=some (.bool a):=((Blk.new w _ _).cell 0).trans rfl;have x:(Aa w #[.bool a,.bool b] 388).cell? ⟨w.1.size,1,none⟩=some (.bool b):=((Blk.new w _ _).cell 1).trans rfl;have u:∀ (a b c d:Bool) (W:Wd),(binOp .eql 388 (.agg #[.bool a,.bool b]) (.agg #[.bool c,.bool d])).run prog W=.ok (.bool (a == c&&b == d)) W:=fun a b c d W=>by cases a<;>cases b<;>cases c<;>cases d<;>kernel_rfl
 clear f g;cases a<;>cases b
 .go_wp2;refine Lu 5 ?_;rw [Rs];go_wp2_with fail
  go_quiet (fail)
  go_wp2;go_ret;exact ⟨⟨0,rfl,Ac⟩,by first|exact Uk (HX _) _|exact Uk (Uk (HX _) _) _⟩
 .go_wp2;refine Lu 5 ?_;exact pN
 .go_wp2;refine Lu 5 ?_;rw [Rs];go_wp2_with fail
  go_quiet (fail)
  go_wp2;exact pN
 .go_wp2;refine Lu 5 ?_;rw [Rs];go_wp2_with fail
  go_quiet (fail)
  go_wp2;rw [Rs];go_wp2_with fail
  go_quiet (fail)
  go_wp2;exact pN
def mp (W:Wd) (a b c:Int):(convert 183 9 (.slice (Ah W.1.size 0) 4 4)).run prog (Aa W #[.int .u8 a,.int .u8 b,.int .u8 c,.int .u8 0] 5)=.ok (.string (strOfNums [a,b,c,0])) (Aa W #[.int .u8 a,.int .u8 b,.int .u8 c,.int .u8 0] 5):=
 Y8 _ W.1.size 4 4 5 [a,b,c,0] (Blk.new W _ _) rfl
def Db (a b:Bool) (x:Bz) (w:Wd) (l:Cod w) (C:x.size<=2000):Calls prog 373 #[.agg (sgC a b x).toArray] w fun e w'=>∃ s:Bz,e=.returned (.string s)/\s.size=4+x.size/\Below w.1.size w w':=by
 have v:(Aa w (sgC a b x).toArray 385).cell? ⟨w.1.size,0,none⟩=some (.bool a):=((Blk.new w _ _).cell 0).trans rfl;have c1:(Aa w (sgC a b x).toArray 385).cell? ⟨w.1.size,1,none⟩=some (.bool b):=((Blk.new w _ _).cell 1).trans rfl;have m:=((Bf w.1.size w).alloc (Le _) (.cells (sgC a b x).toArray 385))
 have i:=Blk.new w 385 (sgC a b x).toArray;have u:∀ W,Below w.1.size w W->Calls prog 395 #[.slice (Ah 1 0) 4 4,.agg #[.bool a,.bool b]] W fun e w'=>(∃ n:Nat,e=.returned (.int .i64 n)/\n<4)/\Below W.1.size W w':=fun W q=>Ok a b W (l.after q)
 have B:=fun W a b c=>mp W a b c
 have y:∀ a b c:Int,¬ (9223372036854775807<(strOfNums [a,b,c,0]).size+x.size):=fun a b c=>by rw [WD];simp;omega
 have t:∀ a b c:Int,(strOfNums [a,b,c,0]).size=4:=fun a b c=>by rw [WD];rfl
 clear l;go_wp2
 go_region_held3 (fun w'=>w'.cell? ⟨w.1.size,0,none⟩=some (.bool a)/\w'.cell? ⟨w.1.size,1,none⟩=some (.bool b)) (first|go_keep|exact ⟨j,g⟩) ((go_at_call 395;refine (u _ m.drew).mono ?_;rintro e h ⟨⟨n,rfl,hn⟩,f⟩;have k:=U0 m.drew f (by simp [World.drew]);have d:=i.drew.below f i.lt;have j:=(d.cell 0).trans (show _=some (Value.bool a) from rfl);have g:=(d.cell 1).trans (show _=some (Value.bool b) from rfl);clear f))
 have D:h.cell? ⟨w.1.size,2,none⟩=some (.string x):=(d.cell 2).trans rfl;have z:∀ o,(h.alloc o).cell? ⟨w.1.size,2,none⟩=some (.string x):=fun o=>((d.alloc o).cell 2).trans rfl
 have hw:IntKind.u8.wrap (n:Int)=n:=by
  have:n=0\/n=1\/n=2\/n=3:=Oo
  rcases this with rfl|rfl|rfl|rfl<;>rfl
 rw [hw];clear hw v c1 j g;go_wp2;go_ret;exact ⟨_,rfl,by rw [QY,t],k.alloc k.size _⟩
def jA (w:Wd) (e:Ending) (w':Wd):Prop:=∃ A n c L,e=.returned (.tuple #[.string ⟨#[]⟩,.slice A n c])/\Sl Ug 1 w' w'.1.size A n c L/\n<=1100/\(∀ s∈L,s.size<=2000)/\Below w.1.size w w'
def mPt (p:Nat) (w:Wd):Nat:=match w.cell? ⟨p+2,0,none⟩ with
 |some (.bool true)=>0
 |_=>match w.cell? ⟨p,0,none⟩ with
  |some (.string s)=>s.size+1
  |_=>0
def xU (h:Pt w p r bg true):mPt p w=0:=by
 unfold mPt;rw [h.r2.ce 0 (.bool true)]
def xT (h:Pt w p r bg false):mPt p w=r.size+1:=by
 unfold mPt;rw [h.r2.ce 0 (.bool false),h.r0.ce 0 (.string r)]
def Pt.below {B:Nat} (h:Pt w p r bg dn) (a:Below B w w') (b:p+2<B):Pt w' p r bg dn:=⟨h.r0.below a Oo,h.r1.below a Oo,h.r2.below a b⟩
def Pt.grown {row:Option Nat} (h:Pt w p r bg dn) (a:w.grownBy w' row) (b:∀ g,row=some g->p+2<g):Pt w' p r bg dn:=
 have k:∀ q,q<=p+2->some q≠row:=fun q d e=>by have:=b q e.symm;omega
 ⟨h.r0.grown a (k _ Oo),h.r1.grown a (k _ Oo),h.r2.grown a (k _ Oo)⟩
def xB {S:List Nat} {base size n:Nat} {e:TypeId} {v:Value} {xs:List Value} (h:w.ownsRow base e size v n xs) (j:Far S w w') (o:∀ k∈S,k<base):w'.ownsRow base e size v n xs:=by
 refine ⟨h.1,h.2.imp id ?_⟩;rintro ⟨g,a,b,d,f,l,i⟩;exact ⟨g,a,b,d,f,(j.block g (h.lt g (by rw [d];rfl)).2 (fun m=>by have:=o g m;omega)).trans l,i⟩
def xL (p:Nat) (r:Bz) (bg:Bool) (a:Int) (w:Wd) (b:Pt w p r bg false) (e:1<=a) (d:r.size<=2000):
  Calls prog 394 #[.int .i64 a,Ag (p+2) 0,Ag p 0,Ag (p+1) 0] w (T5 p r a w):=by
 rcases (by omega:(r.size:Int)<a\/a=r.size\/a<(r.size:Int)) with h|h|h
 .exact oX p a r bg w b h d
 .subst h;exact oY p r bg w b d
 .obtain ⟨n,rfl⟩:∃ n:Nat,a=n:=⟨a.toNat,Oo⟩
  exact oZ p n r bg w b Oo Oo d
structure AP (L:List Bz) (A:Option Addr) (c:Nat) (x1 r1 r2 r:Bz) (dn2:Bool) (w W:Wd):Prop where
 pt:Pt W w.1.size r2 true dn2
 ow:W.ownsRow (w.1.size+3) 9 1 (.slice A L.length c) L.length (U7 Ug L)
 be:Below w.1.size w W
 zz:w.1.size+3<=W.1.size
 xs:x1.size<=2000
 xb:x1.size<=1016
 rs:r2.size<=r1.size
 dn:dn2=false->r2.size<r1.size
 ln:L.length<=1000
 rr:r1.size<=r.size
 r8:r.size<=1000
def jq {a:Wd} {b:Int} (f:Below w.1.size w wx) (hz:w.1.size+3<=wx.1.size) (g:wx.ownsRow (w.1.size+3) 9 1 (.slice A L.length c) L.length (U7 Ug L)) (_:Pt wx w.1.size r1 bg false) (e:Pt a w.1.size r2 true dn2) (d:Far [w.1.size,w.1.size+1,w.1.size+2] wx a)
  (l:(x1.size:Int)<=b-8) (_:x1.size<=r1.size) (j:r2.size<=r1.size) (h:dn2=false->r2.size<r1.size) (m:b<=1024) (k:L.length+r1.size<=r.size) (i:r.size<=1000):AP L A c x1 r1 r2 r dn2 w a:=
 ⟨e,xB g d Am,f.trans (d.below Am f.size),Lx hz d.size,Oo,Oo,j,h,Oo,Oo,i⟩
def CE {W W':Wd} (h:AP L A c x1 r1 r2 r dn2 w W) (a:Below W.1.size W W'):AP L A c x1 r1 r2 r dn2 w W':=
 have hz:=h.zz
 ⟨h.pt.below a Oo,Ub h.ow a,U0 h.be a h.be.size,Lx hz a.size,h.xs,h.xb,h.rs,h.dn,h.ln,h.rr,h.r8⟩
def mA {l i:Bz} {f b:Wd} {n:Value} {o:Obj} (h:AP L A c x1 r1 r2 r dn2 w f) (m:false=false->L.length+r1.size<=r.size) (u:∀ s∈L,s.size<=2000) (B:l.size=4+x1.size) (z:i.size=4+l.size) (x:mPt w.1.size wx=r1.size+1)
  (q:b.ownsRow (w.1.size+3) 9 1 n (L.length+1) (U7 Ug L++[.string i])) (j:(f.alloc o).grownBy b (Value.slice A L.length c).ownBlock):
  (∃ (r1:Bz) (bg dn:Bool) (L:List Bz),Pt b w.1.size r1 bg dn/\b.ownsRow (w.1.size+3) 9 1 n L.length (U7 Ug L)/\(dn=false->L.length+r1.size<=r.size)/\L.length+r1.size<=r.size+1/\(∀ s∈L,s.size<=2000)/\r1.size<=r.size/\Below w.1.size w b/\w.1.size+3<=b.1.size)/\mPt w.1.size b<mPt w.1.size wx:=by
 have hz:=h.zz;have m:=m rfl;have a:∀ g,(Value.slice A L.length c).ownBlock=some g->w.1.size+3<=g:=fun g e=>(h.ow.lt g e).1
 have k:=((h.pt.below ((Bf f.1.size f).alloc (Le _) o) Oo).grown j (fun g e=>by have:=a g e;omega))
 have t:=(h.be.alloc h.be.size o).grown j As (fun g e=>by have:=a g e;omega);have C:=h.rs;have y:=h.rr;have v:=h.xb;refine ⟨⟨r2,true,dn2,L++[i],k,?_,?_,?_,?_,Oo,t,?_⟩,?_⟩
 .rw [WW,V9,Xr];exact q
 .intro hd;have:=h.dn hd;simp;omega
 .simp;omega
 .intro s d;rcases QC.1 d with d|d
  .exact u s d
  .simp at d;subst d;omega
 .have:=j.size;simp at this;omega
 .rw [x];cases dn2 with
  |true=>rw [xU k];omega
  |false=>
   rw [xT k];have:=h.dn rfl;omega
def qY (b:Int) (r:Bz) (w:Wd) (hc:Cod w) (bJ:9<=b) (X:b<=1024) (N:r.size<=1000):Calls prog 322 #[.int .i64 b,.string ⟨#[]⟩,.string r] w (jA w):=by
 obtain ⟨i0,W,bB,V,T⟩:=WG V5;have Y:=DQ r w;have t:Pt (((Aa w #[.string r] 9).alloc (.cells #[.bool false] 4)).alloc (.cells #[.bool false] 4)) w.1.size r false false:=⟨((Blk.new w _ _).alloc _).alloc _,(U3 (w.alloc _) _ _ _ Am).alloc _,U3 ((w.alloc _).alloc _) _ _ _ Am⟩
 have M:Below w.1.size w (((Aa w #[.string r] 9).alloc (.cells #[.bool false] 4)).alloc (.cells #[.bool false] 4))/\w.1.size+3<=(((Aa w #[.string r] 9).alloc (.cells #[.bool false] 4)).alloc (.cells #[.bool false] 4)).1.size:=⟨(Aj.alloc Am _).alloc As _,Am⟩
 go_in;go_wp2_with (go_at_call 371;apply Y.mono;rintro e w3 ⟨rfl,rfl⟩);generalize ((Aa w #[.string r] 9).alloc (.cells #[.bool false] 4)).alloc (.cells #[.bool false] 4)=W0 at t M ⊢;go_loopw [13] (fun v wr=>∃ (r1:Bz) (bg dn:Bool) (L:List Bz),Pt wr w.1.size r1 bg dn/\wr.ownsRow (w.1.size+3) 9 1 v L.length (U7 Ug L)/\(dn=false->L.length+r1.size<=r.size)/\L.length+r1.size<=r.size+1/\(∀ s∈L,s.size<=2000)/\r1.size<=r.size/\Below w.1.size w wr/\w.1.size+3<=wr.1.size) (fun _ wr=>mPt w.1.size wr)
 .exact ⟨r,false,false,[],t,⟨rfl,.inl ⟨rfl,rfl⟩⟩,fun _=>Am,Am,fun s hs=>by simp at hs,Le _,M.1,M.2⟩
 .obtain ⟨r1,bg,dn,L,hpt,aD,bF,hle2,aM,gH,aF,hz⟩:=hrel;obtain ⟨wx,rfl⟩:∃ z:Wd,z=wr:=⟨_,rfl⟩
  have HX:∀ o,Below wx.1.size wx (wx.alloc o):=fun o=>Aj
  obtain ⟨A,c,rfl,fI,U⟩:=U4 aD;cases dn with
  |true=>
   have O:=O8 w.1.size r1 bg (b-8) wx hpt;go_wp2_with (first|(go_at_call 394;apply O.mono;rintro e d ⟨rfl,G⟩;have F:=fun a=>Blk.new d 385 a;have l:=fun a=>U5 d a (sgC false false ⟨#[]⟩).toArray 385)|((with_reducible apply Gt 385 14);apply Lv 385 d.1.size (sgC false false ⟨#[]⟩).toArray (F _) (by simp [sgC,Value.oneCell']);rw [l]))
   go_ret2
   have ho:=Ub (Ub aD G) ((Bf d.1.size d).alloc (Le _) (.cells (sgC false false ⟨#[]⟩).toArray 385));exact ⟨A,L.length,c,L,rfl,Sl.of_own (f:=Ug) (fun _=>rfl) Ac ho,by have:=hle2;have:=N;omega,aM,(U0 aF G aF.size).alloc (Lx aF.size G.size) _⟩
  |false=>
   have O:=xL w.1.size r1 bg (b-8) wx hpt Oo (by have:=N;omega);have H:=xT hpt
   go_wp2_with (first|(go_at_call 394;apply O.mono;rintro e d ⟨E,n,x1,r2,dn2,rfl,u,m,R,B,j,x⟩;have i:=jq aF hz aD hpt j x u m R B X (bF rfl) N;have F:=fun a=>Blk.new d 385 a;have l:=fun a=>U5 d a (sgC E n x1).toArray 385;have K:=Blk.new d 385 (sgC E n x1).toArray;clear u m R B j x)|((with_reducible apply Gt 385 14);apply Lv 385 d.1.size (sgC E n x1).toArray (F _) (by simp [sgC,Value.oneCell']);rw [l])|((with_reducible apply Gl 385 14);apply Lq 385 d.1.size (sgC E n x1).toArray K underlying385)|(go_at_call 373;apply (Db E n x1 _ (hc.after (i.be.alloc i.be.size _)) i.xs).mono;rintro e w6 ⟨S,rfl,y,Q⟩;have D:=CE i (Aj.trans (Q.mono Am));clear Q)|(go_at_call 372;refine (Tl S _ (by have:=y;have:=D.xb;omega)).mono ?_;rintro e I ⟨J,rfl,P,C⟩;have g:=CE D C;have Z:=Yv I [.string J] 9 1 1 rfl;clear C)|(at_builtin;go_must (refine Ui _ rfl _ _ 133 rfl (w.1.size+3) 9 i0 _ 1 16 underlying133 W bB V T rfl Ac (.slice A L.length c) L.length (U7 Ug L) rfl (g.ow.alloc _) (I.1.size+1) (Ah I.1.size 0) 1 1 [.string J] rfl Z (Yn J) (by have:=g.ln;unfold maxLen;omega) (by have:=g.ln;omega) (by have:=g.zz;simp;omega) ?_;intro v' w8 h k _;have q:=mA g (fun _=>bF trivial) aM y P H h k;clear h k)))
   go_roundw
   .exact q.1
   .exact q.2
end
def zJ (g:Nat) (l:Int) (s:Bz) (w:Wd) (a:w.cell? ⟨g,0,none⟩=some (.int .i64 l)):Calls prog 321 #[.string s,Ag g 0] w (Ab w (.bool (decide (l<s.size)))):=by
 go_wp2;go_ret;exact ⟨rfl,Bf _ _⟩
def Sb (L:List Bz):∀ u∈U7 Ug L,u.oneCell'=true:=by
 intro u a;obtain ⟨s,_,h⟩:=VA.1 a;simp [Ug] at h;subst h;rfl
def Qn (l b:Int) (g:Nat) (r:Bz) (w:Wd) (N:Cod w) (q:svB l b=true) (i:Blk w g 9 #[.string r]) (hr:(r.size:Int)<=l):
  Calls prog 244 #[.int .i64 l,.int .i64 b,.slice (Ah g 0) 1 1] w fun e w'=>∃ A n c L,e=.returned (.tuple #[.slice A n c,.int .i64 0])/\Sl Ug 1 w' w'.1.size A n c L/\n<=1100/\(∀ s∈L,s.size<=2000)/\Below w.1.size w w':=by
 obtain ⟨i0,S,bB,R,P⟩:=WG V5;have K:=Hd (Fk l b (Aa w #[.int .i64 l] 3));rw [q] at K;have M:(Aa w #[.int .i64 l] 3).cell? ⟨w.1.size,0,none⟩=some (.int .i64 l):=((Blk.new w _ _).cell 0).trans rfl;have B:=i.lt
 have U:Aw (Sl Ug 1 (Aa w #[.int .i64 l] 3) (Aa w #[.int .i64 l] 3).1.size (Ah g 0) 1 1 [r]):=Hd ⟨Le _,rfl,rfl,fun _=>⟨g,0,rfl,As,fun j u I=>by
  rw [(i.alloc _).cell,QB];have:U7 Ug [r]=[.string r]:=rfl;rw [this] at I;simpa using I⟩⟩
 have h:Aw (Calls prog 246 #[.slice (Ah g 0) 1 1,.func (.func 321) #[] #[Ag w.1.size 0]] (Aa w #[.int .i64 l] 3) fun e w'=>e=.returned (.bool ([r].any fun s=>decide (l<s.size)))/\Below (Aa w #[.int .i64 l] 3).1.size (Aa w #[.int .i64 l] 3) w'):=
  Hd (zH w.1.size (fun s=>decide (l<s.size)) _ 1 1 [r] _ U.o Ac (fun x _ W a=>zJ w.1.size l x W ((a.cell (p:=⟨w.1.size,0,none⟩) Am).trans M)))
 have d:([r].any fun s=>decide (l<s.size))=false:=As
 rw [d] at h;have o:r.size<=1000/\9<=b/\b<=1024:=by unfold svB at q;simp at q;omega
 obtain ⟨o,J,D⟩:=o;have HX:=Hd ((Bf w.1.size w).alloc (Le _) (.cells #[.int .i64 l] 3));have Z:Aw (∀ W,Below w.1.size w W->Calls prog 322 #[.int .i64 b,.string ⟨#[]⟩,.string r] W (jA W)):=Hd fun W a=>qY b r W (N.after a) J D o
 have F:=Hd i;clear N q hr d o J D i B;go_in;go_wp2_with (first|(go_at_call 243;refine yE K.o ?_)|(go_at_call 246;refine yP h.o fun Q a=>?_;have m:=Hd (HX.o.trans (a.mono Am));have d0:Q.cell? ⟨g,0,none⟩=some (.string r):=((F.o.below m.o F.o.lt).cell 0).trans rfl;clear a M));refine Lu 2 ?_;rw [Rs]
 go_wp2_with (first|(go_at_call 322;refine (Z.o _ m.o).mono ?_;rintro e O ⟨A,n,c,L,rfl,H,hn,E,a⟩;have t:=Hd H;have z:=Hd hn;have X:=Hd E;have v:=Hd (U0 m.o a m.o.size);clear H hn E a d0)|(at_builtin;go_must (refine Ui _ rfl _ _ 133 rfl w.1.size 9 i0 _ 1 16 underlying133 S bB R P rfl Ac (.slice none 0 0) 0 [] rfl ⟨rfl,.inl ⟨rfl,rfl⟩⟩ O.1.size A n c (U7 Ug L) rfl t.o.rd (Sb L) (by have:=z.o;unfold maxLen;omega) (by have:=z.o;omega) v.o.size ?_;intro v' Y C G _;have bX:=Hd C;have T:Aw (World.grownBy _ Y (Value.slice none 0 0).ownBlock):=Hd G;clear C G)));rw [Rs];go_wp2
 go_ret2
 have y:=bX.o;rw [QB] at y;obtain ⟨A',c',rfl,_⟩:=U4 y;exact ⟨A',n,c',L,rfl,Sl.of_own (f:=Ug) (fun _=>rfl) Ac y,z.o,X.o,v.o.grown T.o v.o.size (by intro k V;simp [Value.ownBlock] at V)⟩
def nl:(prog.info? 5).map (fun i=>(i.zero,i.size,i.bytes))=some (some (.int .u8 0),1,1):=Ak
def rx (n i:Nat) (h:i<n):(madeCells #[.int .u8 0] n)[i]? =some (.int .u8 0):=by
 unfold madeCells;rw [UA,UG];simp [h];rw [Nat.mod_one];rfl
abbrev sN (w:Wd) (n):=w.alloc (.cells (madeCells #[.int .u8 0] n) 5)
def Mm (s:Bz) (w:Wd) (q:s.size<=128):Calls prog 249 #[.string s] w fun e w'=>∃ t:Bz,e=.returned (.string t)/\t.size=128/\Below w.1.size w w':=by
 obtain ⟨m,j,p,h,g⟩:=WG nl;obtain ⟨n,hn⟩:∃ n:Nat,(128:Int)-(s.size:Int)=n:=⟨128-s.size,Oo⟩
 have a:=run_make (P:=prog) (w:=w) 183 5 m _ underlying183 j p .i64 .i64 (n:Int) (n:Int) Oo (XI _) (by rw [g];omega) Oo;rw [h] at a;simp only [XO,WY] at a;have b:Blk (sN w n) w.1.size 5 (madeCells #[.int .u8 0] n):=Blk.new w _ _
 have l:(convert 183 9 (.slice (Ah w.1.size 0) n n)).run prog (sN w n)=.ok (.string (strOfNums (List.replicate n 0))) (sN w n):=
  ZR _ 183 5 Ak Ak w.1.size 0 n n (List.replicate n 0) Am (fun i d=>by
   rw [QB,b.cell i,rx n i d,WJ,VO];simp [d]) 9 Ak
 have hz:(strOfNums (List.replicate n 0)).size=n:=by rw [WD];simp
 have f:=Hd hz;have o:=Hd hn;have k:¬ (9223372036854775807<s.size+(strOfNums (List.replicate n 0)).size):=by rw [hz];omega
 have c:(Instr.makeSlice 183 (.int .i64 (128-(s.size:Int))) (.int .i64 (128-(s.size:Int)))).run prog w=.ok (.slice (Ah w.1.size 0) n n) (sN w n):=by rw [hn];exact a
 generalize strOfNums (List.replicate n 0)=z at l f k;clear hz hn b a;go_wp2;go_ret;exact ⟨_,rfl,by rw [QY,f.o];have:=o.o;omega,Aj⟩
def ctC (b:Int) (e:Option Addr) (a d:Nat) (A:Option Addr) (n c:Nat) (f:Bz):List Value:=[.int .i64 b,.slice e a d,.slice A n c,.string f]
def swC (n:Int) (s:Bz):List Value:=[.int .i64 n,.string s]
def LF (W:Wd) (b:Nat) (cs:Array Value) (h:Blk W b 177 cs) (a:cs.size=2):(loadVar 177 ⟨b,0,none⟩).run prog W=.ok (.agg cs) W:=
 ZQ W b 177 177 cs (0,0) _ h underlying177 rfl (by rw [a];kernel_rfl)
def TI (W:Wd) (b:Nat) (cs:Array Value) (h:Blk W b 252 cs) (a:cs.size=4):(loadVar 252 ⟨b,0,none⟩).run prog W=.ok (.agg cs) W:=
 ZQ W b 252 252 cs (0,0) _ h underlying252 rfl (by rw [a];kernel_rfl)
def HdG (w:Wd) (e:Ending) (w':Wd):Prop:=∃ n t,e=.returned (.agg (swC n t).toArray)/\Below w.1.size w w'
structure HdK (w:Wd) (ap:Int) (rn:Nat) (st:Bz) (X:Wd):Prop where
 be:Below w.1.size w X
 k:Blk X (w.1.size+2) 3 #[.int .i64 ap,.int .i64 rn,.int .i64 st.size]
 z:Blk X (w.1.size+1) 177 #[.int .i64 0,.string ⟨#[]⟩]
 zz:w.1.size+3<=X.1.size
def Hq {w X b:Wd} {d:Int} {c:Nat} {e:Bz} (h:HdK w d c e X) (a:Below X.1.size X b):HdK w d c e b:=
 have hz:=h.zz
 ⟨U0 h.be a h.be.size,h.k.below a Oo,h.z.below a Oo,Lx hz a.size⟩
def vv (a:Int) (f:Option Addr) (b g:Nat) (A:Option Addr) (n c:Nat) (d:Bz) (w:Wd) (E:0<=a) (N:a<=1099511627776) (O:b<=1000) (I:d.size<=3000000):
  Calls prog 195 #[.agg (ctC a f b g A n c d).toArray] w (HdG w):=by
 have J:∀ o,((Aa w (ctC a f b g A n c d).toArray 252).alloc o).cell? ⟨w.1.size,0,none⟩=some (.int .i64 a):=fun o=>(((Blk.new w _ _).alloc o).cell 0).trans rfl
 have c1:∀ o,((Aa w (ctC a f b g A n c d).toArray 252).alloc o).cell? ⟨w.1.size,1,none⟩=some (.slice f b g):=fun o=>(((Blk.new w _ _).alloc o).cell 1).trans rfl
 have c3:∀ o,((Aa w (ctC a f b g A n c d).toArray 252).alloc o).cell? ⟨w.1.size,3,none⟩=some (.string d):=fun o=>(((Blk.new w _ _).alloc o).cell 3).trans rfl
 have B:Aw (∀ o,Below w.1.size w ((Aa w (ctC a f b g A n c d).toArray 252).alloc o)):=Hd fun o=>Aj.alloc Am _
 have z:Aw (Blk ((Aa w (ctC a f b g A n c d).toArray 252).alloc (.cells #[.int .i64 0,.string ⟨#[]⟩] 177)) (w.1.size+1) 177 #[.int .i64 0,.string ⟨#[]⟩]):=Hd (U3 (w.alloc _) _ _ _ Am);go_wp2;have r:Aw (Blk (((Aa w (ctC a f b g A n c d).toArray 252).alloc (.cells #[.int .i64 0,.string ⟨#[]⟩] 177)).alloc (.cells #[.int .i64 a,.int .i64 b,.int .i64 d.size] 3)) (w.1.size+2) 3 #[.int .i64 a,.int .i64 b,.int .i64 d.size]):=Hd (U3 ((w.alloc _).alloc _) _ _ _ Am);have p:=Hd (z.alloc (.cells #[.int .i64 a,.int .i64 b,.int .i64 d.size] 3));have u:Aw (Below w.1.size w (((Aa w (ctC a f b g A n c d).toArray 252).alloc (.cells #[.int .i64 0,.string ⟨#[]⟩] 177)).alloc (.cells #[.int .i64 a,.int .i64 b,.int .i64 d.size] 3))):=Hd ((B _).alloc As _)
 have h:Aw (w.1.size+3<=(((Aa w (ctC a f b g A n c d).toArray 252).alloc (.cells #[.int .i64 0,.string ⟨#[]⟩] 177)).alloc (.cells #[.int .i64 a,.int .i64 b,.int .i64 d.size] 3)).1.size):=Hd Am;generalize ((Aa w (ctC a f b g A n c d).toArray 252).alloc (.cells #[.int .i64 0,.string ⟨#[]⟩] 177)).alloc (.cells #[.int .i64 a,.int .i64 b,.int .i64 d.size] 3)=X at r p u h ⊢;clear J c1 c3 z B;have j:=Hd (V6 a);have l:=Hd (V6 (b:Int));have q:=Hd (V6 (d.size:Int));have y:Aw (HdK w a b d X):=Hd ⟨u,r,p,h⟩;clear r p u h;have D:=y.k.ce 0 (.int .i64 a);refine Lu 4 ?_;rw [Rs];go_wp2_with (go_at_call 248;refine yT (Ew ⟨#[]⟩ a X Ac E Oo) (Hq y) fun C m=>?_;clear D)
 have L:=m.k.ce 1 (.int .i64 b);rw [BT];rw [Rs];go_wp2_with (go_at_call 248;refine yT (Ew (Vu a) b C (by have:=j.o;omega) Oo Oo) (Hq m) fun M k=>?_;clear L);have K:=k.k.ce 2 (.int .i64 d.size);rw [Rs];go_wp2_with (go_at_call 248;refine yT (Ew (Vu a++Vu (b:Int)) d.size M (by have:=j.o;have:=l.o;rw [QY];omega) Oo Oo) (Hq k) fun G s=>?_;clear K);rw [Rs]
 go_wp2_with (first|(go_at_call 249;refine (Mm _ G (by have:=j.o;have:=l.o;have:=q.o;rw [QY,QY];omega)).mono ?_;rintro e H ⟨t,rfl,_,x⟩;have i:=Hd (Hq s x);clear x)|((with_reducible refine Gt 177 2 ?_);refine Lt rfl 177 _ _ rfl (w.1.size+1) #[.int .i64 0,.string t] rfl rfl 177 #[.int .i64 0,.string ⟨#[]⟩] i.z Ak rfl (by simp [Value.oneCell']) ?_));have F:=LF (H.setRow (w.1.size+1) #[.int .i64 0,.string t]) (w.1.size+1) #[.int .i64 0,.string t] (QR _ _ _ _ _ _ i.z) rfl;exact Br (v:=.agg #[.int .i64 0,.string t]) (Vx results195 rfl F) rfl ⟨0,t,rfl,Uf i.be Oo _⟩
def NU:Value->Nat
 |.string s=>s.size
 |_=>0
def ScG (w:Wd) (e:Ending) (w':Wd):Prop:=∃ A n c L,e=.returned (.slice A n c)/\Sl Ug 1 w' w'.1.size A n c L/\n<=3000000/\(∀ b,A=some b->w.1.size<=b.block)/\Below w.1.size w w'
def kx {G:Prop} (h:G:=by
  go_roundw
  .exact ⟨_,L++[t],rfl,by rw [WW,V9,Xr];exact bX.o,by have:=dP.o;have:=HP.o;simp;try omega,eH.o⟩
  .simp [NU];have:=HP.o;try omega):G:=h
def Qv (B:Int) (x:Option Addr) (s C:Nat) (A:Option Addr) (n c:Nat) (l:Bz) (w:Wd) (p:l.size<=3000000):
  Calls prog 196 #[.agg (ctC B x s C A n c l).toArray] w (ScG w):=by
 obtain ⟨J,F,K,E,D⟩:=WG V5;have c3:(Aa w (ctC B x s C A n c l).toArray 252).cell? ⟨w.1.size,3,none⟩=some (.string l):=((Blk.new w _ _).cell 3).trans rfl;have R:=Hd ((Bf w.1.size w).alloc (Le _) (.cells (ctC B x s C A n c l).toArray 252));have m:=Hd p;clear p;go_wp2;go_loopw [3,4] (fun O y wr=>∃ (a:Bz) (L:List Bz),y=.string a/\wr.ownsRow w.1.size 9 1 O L.length (U7 Ug L)/\L.length+a.size<=l.size/\Below w.1.size w wr) (fun _ y _=>NU y)
 .exact ⟨l,[],rfl,⟨rfl,.inl ⟨rfl,rfl⟩⟩,Am,R⟩
 .obtain ⟨a,L,rfl,i,bF,iF⟩:=hrel;obtain ⟨I,rfl⟩:∃ z:Wd,z=wr:=⟨_,rfl⟩
  obtain ⟨u,c1,rfl,V,N⟩:=U4 i;have o:=Hd i;have g:=Hd iF;have dP:=Hd bF;clear i iF bF c3;by_cases r:a.size=0
  .obtain rfl:=Jp r;go_wp2;go_ret;exact ⟨u,L.length,c1,L,rfl,Sl.of_own (f:=Ug) (fun _=>rfl) Ac o,by have:=dP.o;have:=m.o;omega,fun b k=>by subst k;exact (o.lt _ rfl).1,g⟩
  .obtain ⟨q1,q2⟩:=I4 r;have HP:=Hd (Nat.pos_of_ne_zero r);have H:a.size<=3000000:=by have:=dP.o;have:=m.o;omega
   clear r;rcases (by omega:a.size<=128\/128<a.size) with P|P
   .have m1:(a.size:Int)<=128:=Oo
    have U:a.extract 0 a.size=a:=GP a
    go_wp2_with (first|(go_at_call 249;refine (Mm (a) I Oo).mono ?_;rintro e j ⟨t,rfl,_,k⟩;have d:=Hd k;have v:=Hd (Yv j [.string t] 9 1 1 rfl);clear k)|(at_builtin;go_must (refine Ui _ rfl _ _ 133 rfl w.1.size 9 J _ 1 16 underlying133 F K E D rfl Ac (.slice u L.length c1) L.length (U7 Ug L) rfl ((Ub o d).alloc _) (j.1.size+1) (Ah j.1.size 0) 1 1 [.string t] rfl v (Yn t) (by have:=dP.o;have:=m.o;unfold maxLen;omega) (by have:=dP.o;have:=m.o;omega) (by have:=d.size;have:=g.size;simp;omega) ?_;intro M Q i q _;have bX:=Hd i;have eH:=Hd (((U0 g d g.size).alloc (Lx g.size d.size) _).grown q (by have:=d.size;have:=g.size;simp;omega) (U9 o (Le _)));clear i q)));exact kx
   .have m1:¬ ((a.size:Int)<=128):=Oo
    have S:¬ ((a.size:Int)<128):=Oo
    have T:(128:Int)<(a.size:Int):=Oo
    go_wp2_with (first|(go_at_call 249;refine (Mm (a.extract 0 128) I As).mono ?_;rintro e j ⟨t,rfl,_,k⟩;have d:=Hd k;have v:=Hd (Yv j [.string t] 9 1 1 rfl);clear k)|(at_builtin;go_must (refine Ui _ rfl _ _ 133 rfl w.1.size 9 J _ 1 16 underlying133 F K E D rfl Ac (.slice u L.length c1) L.length (U7 Ug L) rfl ((Ub o d).alloc _) (j.1.size+1) (Ah j.1.size 0) 1 1 [.string t] rfl v (Yn t) (by have:=dP.o;have:=m.o;unfold maxLen;omega) (by have:=dP.o;have:=m.o;omega) (by have:=d.size;have:=g.size;simp;omega) ?_;intro M Q i q _;have bX:=Hd i;have eH:=Hd (((U0 g d g.size).alloc (Lx g.size d.size) _).grown q (by have:=d.size;have:=g.size;simp;omega) (U9 o (Le _)));clear i q)));exact kx
def Z8 (d:DSet) (z:Int):Bool:=if d.fmt=0 then (z == d.len) else decide (z<=d.len)
def zg (g a:Nat) (l:Int) (s:Bz) (w:Wd) (d:w.cell? ⟨g,0,none⟩=some (Ai 238)) (c:w.cell? ⟨a,3,none⟩=some (.int .i64 l)):
  Calls prog 247 #[.string s,Ag g 0,Ag a 0] w (Ab w (.bool (!((s.size:Int) == l)))):=by
 have b:=Hd (OF (s.size:Int) l w);generalize ((s.size:Int) == l)=z at b;go_in;go_wp2_with (go_at_call 238;refine yE b ?_);go_ret;exact ⟨rfl,Bf _ _⟩
def uD (g a:Nat) (l:Int) (s:Bz) (w:Wd) (d:w.cell? ⟨g,0,none⟩=some (Ai 242)) (c:w.cell? ⟨a,3,none⟩=some (.int .i64 l)):
  Calls prog 247 #[.string s,Ag g 0,Ag a 0] w (Ab w (.bool (!(decide ((s.size:Int)<=l))))):=by
 have b:=Hd (B8 (s.size:Int) l w);generalize decide ((s.size:Int)<=l)=z at b;go_in;go_wp2_with (go_at_call 242;refine yE b ?_);go_ret;exact ⟨rfl,Bf _ _⟩
def Kq {w:Wd} {g:Nat} {r:Bz} (a:Blk w g 9 #[.string r]):Sl Ug 1 w w.1.size (Ah g 0) 1 1 [r]:=
 ⟨Le _,rfl,rfl,fun _=>⟨g,0,rfl,a.lt,fun j u b=>by
  rw [a.cell,QB];have:U7 Ug [r]=[.string r]:=rfl;rw [this] at b;simpa using b⟩⟩
abbrev oR (a:Wd):=a.alloc (.cells #[.func (.func 238) #[] #[]] 180)
abbrev oQ (a:Wd):=a.alloc (.cells #[.func (.func 242) #[] #[]] 180)
def om {G:Prop} (h:G:=by
  rw [HZ.o];go_in
  first
   |go_wp2_with (first|(with_reducible refine yL 34 2 HB.o ?_)|(go_at_call 188;go_loud (refine HF.o.mono ?_;rintro e w2 ⟨a,b,c,rfl,hb⟩;have aK:=Hd (HX.o.trans (hb.mono Am));have HCF:=Hd (show Calls prog 246 #[.slice (Ah g 0) 1 1,.func (.func 247) #[] #[Ag w2.1.size 0,Ag w.1.size 0]] (oR w2) fun e w'=>e=.returned (.bool (!z))/\Below (oR w2).1.size (oR w2) w' from by have h:=N9 w2.1.size w.1.size (fun s => !((s.size:Int) == d.len)) _ 1 1 [r] _ (Kq ((HG.o.below aK.o HG.o.lt).alloc (.cells #[Ai 238] 180))) Ac (fun x _ W hW=>zg w2.1.size w.1.size d.len x W ((((Blk.new w2 _ _).below hW Am).cell 0).trans rfl) ((((HB.o.below hb Am).alloc _).below hW (by have:=hb.size;simp at this;simp;omega)).cell 3 |>.trans rfl));simp only [List.any_cons,List.any_nil,Bool.or_false,HZ.o] at h;exact h);clear hb))|(go_at_call 246;refine yP HCF.o fun w3 hb=>?_;have bD:=Hd ((aK.o.alloc aK.o.size _).trans (hb.mono (by have:=aK.o.size;simp;omega)));clear hb))
    go_ret;exact ⟨by cases z<;>rfl,bD.o⟩
   |go_wp2_with (first|(with_reducible refine yL 34 2 HB.o ?_)|(go_at_call 188;go_loud (refine HF.o.mono ?_;rintro e w2 ⟨a,b,c,rfl,hb⟩;have aK:=Hd (HX.o.trans (hb.mono Am));have HCF:=Hd (show Calls prog 246 #[.slice (Ah g 0) 1 1,.func (.func 247) #[] #[Ag w2.1.size 0,Ag w.1.size 0]] (oQ w2) fun e w'=>e=.returned (.bool (!z))/\Below (oQ w2).1.size (oQ w2) w' from by have h:=N9 w2.1.size w.1.size (fun s => !(decide ((s.size:Int)<=d.len))) _ 1 1 [r] _ (Kq ((HG.o.below aK.o HG.o.lt).alloc (.cells #[Ai 242] 180))) Ac (fun x _ W hW=>uD w2.1.size w.1.size d.len x W ((((Blk.new w2 _ _).below hW Am).cell 0).trans rfl) ((((HB.o.below hb Am).alloc _).below hW (by have:=hb.size;simp at this;simp;omega)).cell 3 |>.trans rfl));simp only [List.any_cons,List.any_nil,Bool.or_false,HZ.o] at h;exact h);clear hb))|(go_at_call 246;refine yP HCF.o fun w3 hb=>?_;have bD:=Hd ((aK.o.alloc aK.o.size _).trans (hb.mono (by have:=aK.o.size;simp;omega)));clear hb))
    go_ret;exact ⟨by cases z<;>rfl,bD.o⟩):G:=h
abbrev MP (w:Wd) (d):=w.alloc (.cells (dC d).toArray 34)
def MM (d:DSet) (g:Nat) (r:Bz) (w:Wd) (m:Blk w g 9 #[.string r]):Calls prog 193 #[.agg (dC d).toArray,.slice (Ah g 0) 1 1] w (Ab w (.bool (Z8 d r.size))):=by
 have HB:=Hd (Blk.new w 34 (dC d).toArray);have f:=Hd (Z1 d (MP w d));have HX:=Hd ((Bf w.1.size w).alloc (Le _) (.cells (dC d).toArray 34));have HG:=Hd m;clear m;unfold Z8;by_cases j:d.fmt=0
 .rw [QK j]
  have HF:Aw (Calls prog 188 #[.agg (dC d).toArray] (MP w d) fun e w'=>∃ a b c,e=.returned (.agg #[Ai 234,Ai 235,.func a b c,.int .i64 0,Ai 238])/\Below (MP w d).1.size (MP w d) w'):=Hd (f.mono fun e w' h=>by
   obtain ⟨a,b,c,i,k⟩:=h;refine ⟨a,b,c,?_,k⟩;rw [i];unfold fmC;rw [QK j];try rfl)
  clear f;have l:∀ a b c (W:Wd),(Instr.field 244 (.agg #[Ai 234,Ai 235,.func a b c,.int .i64 0,Ai 238]) 4).run prog W=.ok (Ai 238) W:=fun _ _ _ _=>Ak
  obtain ⟨z,HZ⟩:=yH ((r.size:Int) == d.len);exact om
 rw [QX j];by_cases n:d.fmt=1
 .skip
  have HF:Aw (Calls prog 188 #[.agg (dC d).toArray] (MP w d) fun e w'=>∃ a b c,e=.returned (.agg #[Ai 239,Ai 240,.func a b c,.int .i64 0,Ai 242])/\Below (MP w d).1.size (MP w d) w'):=Hd (f.mono fun e w' h=>by
   obtain ⟨a,b,c,i,k⟩:=h;refine ⟨a,b,c,?_,k⟩;rw [i];unfold fmC;rw [QX j,QK n];try rfl)
  clear f;have l:∀ a b c (W:Wd),(Instr.field 244 (.agg #[Ai 239,Ai 240,.func a b c,.int .i64 0,Ai 242]) 4).run prog W=.ok (Ai 242) W:=fun _ _ _ _=>Ak
  obtain ⟨z,HZ⟩:=yH (decide ((r.size:Int)<=d.len));exact om
 have HF:Aw (Calls prog 188 #[.agg (dC d).toArray] (MP w d) fun e w'=>∃ a b c,e=.returned (.agg #[Ai 243,Ai 244,.func a b c,.int .i64 32,Ai 242])/\Below (MP w d).1.size (MP w d) w'):=Hd (f.mono fun e w' h=>by
  obtain ⟨a,b,c,i,k⟩:=h;refine ⟨a,b,c,?_,k⟩;rw [i];unfold fmC;rw [QX j,QX n];try rfl)
 clear f;have l:∀ a b c (W:Wd),(Instr.field 244 (.agg #[Ai 243,Ai 244,.func a b c,.int .i64 32,Ai 242]) 4).run prog W=.ok (Ai 242) W:=fun _ _ _ _=>Ak
 obtain ⟨z,HZ⟩:=yH (decide ((r.size:Int)<=d.len));exact om
section
variable {d:DSet} {ap:Int} {g:Nat} {A:Option Addr} {n c:Nat} {L:List Bz} {w w5:Wd} {st:Bz} {W:Wd}
def PkU (w:Wd) (e:Ending) (w':Wd):Prop:=∃ A n c L,e=.returned (.tuple #[.slice A n c,.int .i64 0])/\Sl Ug 1 w' w'.1.size A n c L/\n<=1100/\(∀ s∈L,s.size<=2000)/\Below w.1.size w w'
def PaG (ap:Int) (g:Nat) (w:Wd) (e:Ending) (w':Wd):Prop:=∃ A n c st,e=.returned (.agg (ctC ap (Ah g 0) 1 1 A n c st).toArray)/\st.size<=3000000/\Below w.1.size w w'
def mq (W:Wd) (a b:Int):(convert 183 9 (.slice (Ah W.1.size 0) 2 2)).run prog (Aa W #[.int .u8 a,.int .u8 b] 5)=.ok (.string (strOfNums [a,b])) (Aa W #[.int .u8 a,.int .u8 b] 5):=
 Y8 _ W.1.size 2 2 5 [a,b] (Blk.new W _ _) rfl
structure PL1 (d:DSet) (ap:Int) (g:Nat) (A:Option Addr) (n c:Nat) (L:List Bz) (w w5:Wd) (st:Bz) (W:Wd):Prop where
 be:Below w.1.size w W
 be5:Below w5.1.size w5 W
 lt:w5.1.size+1<=W.1.size
 z5:w.1.size+2<=w5.1.size
 cb:Blk W w5.1.size 252 (ctC ap (Ah g 0) 1 1 A n c st).toArray
 zb:Blk W (w.1.size+1) 252 #[.int .i64 0,.slice none 0 0,.slice none 0 0,.string ⟨#[]⟩]
 sl:Sl Ug 1 W w5.1.size A n c L
def yX {W':Wd} (h:PL1 d ap g A n c L w w5 st W) (a:Below W.1.size W W'):PL1 d ap g A n c L w w5 st W':=
 have hz:=h.lt;have b:=h.z5
 ⟨U0 h.be a h.be.size,U0 h.be5 a h.be5.size,Lx hz a.size,h.z5,h.cb.below a Oo,h.zb.below a Oo,h.sl.below (a.mono Oo)⟩
def sV (a:Bz) (h:PL1 d ap g A n c L w w5 st W):PL1 d ap g A n c L w w5 a (W.setCell ⟨w5.1.size,3,none⟩ (.string a)):=
 have f:=h.z5;have b:Below w5.1.size W (W.setCell ⟨w5.1.size,3,none⟩ (.string a)):=Zh (Le _) [.string a] 3 W (Bf _ _);have e:Below w.1.size w (W.setCell ⟨w5.1.size,3,none⟩ (.string a)):=Zh Oo [.string a] 3 W h.be
 ⟨e,h.be5.trans b,Lx h.lt b.size,h.z5,h.cb.set 3 _,h.zb.below b Oo,h.sl.below b⟩
def Ph (d:DSet) (ap:Int) (g:Nat) (r:Bz) (w:Wd) (u:Nat) (v0 v3 v4:Value) (E:Blk w g 9 #[.string r])
  (Z:∀ args W,(callFunc u args).run prog W=.ok (.enter u args) W)
  (hf:∀ W,Calls prog 188 #[.agg (dC d).toArray] W fun e w'=>∃ J,e=.returned (.agg #[v0,.func (.func u) #[] #[],J,v3,v4])/\Below W.1.size W w')
  (R:∀ W,Below w.1.size w W->Calls prog u #[.int .i64 d.len,.int .i64 d.blk,.slice (Ah g 0) 1 1] W (PkU W)):
  Calls prog 194 #[.agg (dC d).toArray,.int .i64 ap,.slice (Ah g 0) 1 1] w (PaG ap g w):=by
 have HF:=Hd hf;have H:=Hd R;have eL:=Hd (Blk.new w 34 (dC d).toArray);have HZ:=Hd (U3 (Aa w (dC d).toArray 34) 252 #[.int .i64 0,.slice none 0 0,.slice none 0 0,.string ⟨#[]⟩] (w.1.size+1) Am);have HX:=Hd (((Bf w.1.size w).alloc (Le _) (.cells (dC d).toArray 34)).alloc Am (.cells #[.int .i64 0,.slice none 0 0,.slice none 0 0,.string ⟨#[]⟩] 252));have iV:Aw (w.1.size+2<=((Aa w (dC d).toArray 34).alloc (.cells #[.int .i64 0,.slice none 0 0,.slice none 0 0,.string ⟨#[]⟩] 252)).1.size):=Hd Am;have I:Aw (∀ J (W:Wd),(Instr.field 244 (.agg #[v0,.func (.func u) #[] #[],J,v3,v4]) 1).run prog W=.ok (.func (.func u) #[] #[]) W):=Hd fun _ _=>Ak
 have HG:=Hd E;have F:=Hd (eL.o.alloc (.cells #[.int .i64 0,.slice none 0 0,.slice none 0 0,.string ⟨#[]⟩] 252));clear E hf R;go_wp2;generalize ((Aa w (dC d).toArray 34).alloc (.cells #[.int .i64 0,.slice none 0 0,.slice none 0 0,.string ⟨#[]⟩] 252))=X at HZ HX iV F ⊢;clear eL;have t:=Hd HX.o.drew;have G:=Hd HZ.o.drew;have l:Aw (w.1.size+2<=X.drew.1.size):=Hd iV.o;refine Rw (S:=fun w'=>Blk w' w.1.size 34 (dC d).toArray) Ak F.o.drew (fun a=>?_);refine tR 0 (fun _ h=>h) a ?_;refine tA 3 a ?_;refine tj 4 (.int .i64 d.len) a ?_ (y:=by intro w' U;have h1:=(U.cell 3).trans (show _=some (Value.int .i64 d.len) from rfl);go_simp);refine tA 5 a ?_
 refine tj 6 (.int .i64 d.blk) a ?_ (y:=by intro w' U;have h1:=(U.cell 4).trans (show _=some (Value.int .i64 d.blk) from rfl);go_simp);refine tA 7 a ?_;refine Aq [1] ?_;refine Rc (fun K P=>?_) ?_
 .go_simp;refine (HF.o _).mono ?_;rintro e w3 ⟨J,rfl,C⟩;simp only [];have V:=Hd (U0 t.o C t.o.size);have N:=Hd (G.o.below C (by have:=l.o;omega));have m:=Hd (Lx l.o C.size);refine P.out _ _ (a.below C a.lt) (fun a=>?_);clear P K C HF;try simp only [Act.put,Sv,Sz,Sw]
  refine tj 2 (.func (.func u) #[] #[]) a ?_ (y:=by intro w' U;have h1:=I.o J w';go_simp);refine Aq [8] ?_;refine Rc (fun K P=>?_) ?_
  .go_simp;refine (H.o _ V.o).mono ?_;rintro e w5 ⟨A,n,c,L,rfl,bN,hn,aM,M⟩;simp only [];have aR:=Hd (U0 V.o M V.o.size);have Q:=Hd (N.o.below M (by have:=m.o;omega));have p:=Hd (Lx m.o M.size);have bW:=Hd bN;have HN:=Hd hn;have eJ:=Hd aM;refine P.out _ _ (a.below M a.lt) (fun a=>?_);clear P K M H bN hn aM;try simp only [Act.put,Sv,Sz,Sw]
   iterate 5 refine tB a ?_
   refine Ad Ak ?_ _;clear a;have cY:=Hd fun q=>Blk.new w5 252 q
   have HS6:=Hd fun q=>U5 w5 q (ctC ap (Ah g 0) 1 1 A n c ⟨#[]⟩).toArray 252
   have iE:Aw ((ctC ap (Ah g 0) 1 1 A n c ⟨#[]⟩).toArray.all (·.oneCell')=true):=Hd (by simp [ctC,Value.oneCell']);have HPL:Aw (PL1 d ap g A n c L w w5 ⟨#[]⟩ (Aa w5 (ctC ap (Ah g 0) 1 1 A n c ⟨#[]⟩).toArray 252)):=Hd ⟨aR.o.alloc aR.o.size _,Aj,Am,p.o,Blk.new _ _ _,Q.o.alloc _,bW.o.below Aj⟩;clear bW aR Q p V N m t G l I;go_wp2_with (first|(with_reducible refine yS 252 9 (cY.o _) iE.o ?_;rw [HS6.o]));clear Z;have gR:=HN.o;go_loopw [30] (fun s wr=>∃ (j:Nat) (st:Bz),j<=n/\s=.int .i64 j/\st.size<=2002*j/\PL1 d ap g A n c L w w5 st wr) (fun s _=>n-(intOf s).toNat)
   .exact ⟨0,⟨#[]⟩,Z0 _,rfl,Ac,HPL.o⟩
   .obtain ⟨j,st,hj,rfl,hst,hpl⟩:=hrel;obtain ⟨B,rfl⟩:∃ z:Wd,z=wr:=⟨_,rfl⟩
    have i:=Hd hpl;have bV:=Hd hst;clear hpl hst;by_cases aE:j<n
    .obtain ⟨b,o,x,rfl,hb,E,aB⟩:=Sl.cell (f:=Ug) (k:=1) (fun _=>rfl) i.o.sl aE;have c0:=aB 0 _ rfl;simp only [QF,WY] at c0;have hxs:x.size<=2000:=eJ.o x (QJ E);have hss:st.size<=2002*j:=bV.o;have c3:=(i.o.cb.cell 3).trans (show _=some (Value.string st) from rfl);have c3a:(Aa B #[.int .u8 ((x.size:Int) % 256),.int .u8 ((x.size:Int) / 256)] 5).cell? ⟨w5.1.size,3,none⟩=some (.string st):=((i.o.cb.alloc _).cell 3).trans rfl;have c3f:(Aa B #[.int .u8 ((x.size:Int) % 256),.int .u8 ((x.size:Int) / 256)] 5).frozen? ⟨w5.1.size,3,none⟩=false:=(i.o.cb.alloc _).free 3;have eP:=mq B ((x.size:Int) % 256) ((x.size:Int) / 256);have hz:(strOfNums [(x.size:Int) % 256,(x.size:Int) / 256]).size=2:=by rw [WD];rfl
     obtain ⟨O,dD⟩:=yG (strOfNums [(x.size:Int) % 256,(x.size:Int) / 256]);rw [dD] at eP hz;have cN:=Hd hz;have k1:¬ (9223372036854775807<O.size+x.size):=Oo
     have k2:¬ (9223372036854775807<st.size+(O.size+x.size)):=Oo
     have k3:¬ (9223372036854775807<st.size+(O++x).size):=by rw [QY];omega
     have Y:=Hd (sV (st++(O++x)) (yX i.o ((Bf _ _).alloc (Le _) (.cells #[.int .u8 ((x.size:Int) % 256),.int .u8 ((x.size:Int) / 256)] 5))));have HT2:Aw ((st++(O++x)).size<=2002*(j+1)):=Hd (by rw [QY,QY];omega);clear hb E aB hz dD;go_wp2;go_roundw
     .exact ⟨j+1,_,Oo,Au,HT2.o,Y.o⟩
     .exact At
    .obtain rfl:j=n:=Oo
     have HR9:=Hd i.o.cb;have T:Aw ((ctC ap (Ah g 0) 1 1 A j c st).toArray.all (·.oneCell')=true):=Hd (by simp [ctC,Value.oneCell']);have D:Aw (st.size<=3000000):=Hd (by have:=bV.o;omega);go_wp2_with (first|(with_reducible refine yL 252 9 HR9.o ?_)|(with_reducible refine yS 252 6 i.o.zb T.o ?_));have hlz:w.1.size+1<B.1.size:=by have:=i.o.lt;have:=i.o.z5;omega
     have fD:=TI (B.setRow (w.1.size+1) (ctC ap (Ah g 0) 1 1 A j c st).toArray) (w.1.size+1) (ctC ap (Ah g 0) 1 1 A j c st).toArray (QR _ _ _ _ _ _ i.o.zb) rfl;exact Br (v:=.agg (ctC ap (Ah g 0) 1 1 A j c st).toArray) (Vx results194 rfl fD) rfl ⟨A,j,c,st,rfl,D.o,Uf i.o.be Oo _⟩
  exact An
 exact An
end
def xo (d:DSet) (p:Int) (g:Nat) (r:Bz) (w:Wd) (y:Cod w) (u:EO d=true) (o:Z8 d r.size=true) (i:Blk w g 9 #[.string r]):
  Calls prog 194 #[.agg (dC d).toArray,.int .i64 p,.slice (Ah g 0) 1 1] w (PaG p g w):=by
 have k:Fp d.fmt d.len d.blk=true:=by
  unfold EO at u;simp only [QU] at u;exact u.1.2
 unfold Z8 at o;unfold Fp at k;by_cases m:d.fmt=0
 .rw [QK m] at o k;have s:(r.size:Int)=d.len:=by simpa using o
  refine Ph d p g r w 235 (Ai 234) (.int .i64 0) (Ai 238) i (fun args W=>Ak) (fun W=>(Z1 d W).mono fun e w' h=>?_) (fun W l=>?_)
  .obtain ⟨a,b,c,f,j⟩:=h;exact ⟨.func a b c,by rw [f];unfold fmC;rw [QK m],j⟩
  .refine (Sc d.len d.blk g r W k (i.below l i.lt) s).mono fun e w' h=>?_
   obtain ⟨A,n,c,L,f,j,x,v,t⟩:=h;exact ⟨A,n,c,L,f,j,Oo,v,t⟩
 rw [QX m] at o k;have s:(r.size:Int)<=d.len:=by simpa using o
 by_cases q:d.fmt=1
 .rw [QK q] at k;refine Ph d p g r w 240 (Ai 239) (.int .i64 0) (Ai 242) i (fun args W=>Ak) (fun W=>(Z1 d W).mono fun e w' h=>?_) (fun W l=>?_)
  .obtain ⟨a,b,c,f,j⟩:=h;exact ⟨.func a b c,by rw [f];unfold fmC;rw [QX m,QK q],j⟩
  .refine (Qa d.len d.blk g r W k (i.below l i.lt) s).mono fun e w' h=>?_
   obtain ⟨A,n,c,L,f,j,x,v,t⟩:=h;exact ⟨A,n,c,L,f,j,Oo,v,t⟩
 .rw [QX q] at k;refine Ph d p g r w 244 (Ai 243) (.int .i64 32) (Ai 242) i (fun args W=>Ak) (fun W=>(Z1 d W).mono fun e w' h=>?_) (fun W l=>?_)
  .obtain ⟨a,b,c,f,j⟩:=h;exact ⟨.func a b c,by rw [f];unfold fmC;rw [QX m,QX q],j⟩
  .exact Qn d.len d.blk g r W (y.after l) k (i.below l i.lt) s
def vp:(prog.info? 177).map (fun i=>(i.zero,i.size,i.bytes))=some (some (.agg #[.int .i64 0,.string ⟨#[]⟩]),2,24):=Ak
def FrB (a b:Nat) (w w':Wd):Prop:=∀ p:Addr,a<p.block->p.block<b->w'.cell? p=w.cell? p
def rX {a b:Nat} {d c w':Wd} {o:Obj} {row:Option Nat} (h:FrB a b d c) (hz:b<=c.1.size) (j:(c.alloc o).grownBy w' row) (g:∀ k,row=some k->k<=a\/b<=k):FrB a b d w':=fun p i f=>
 (WO (j.block p.block As (fun e=>by rcases g _ e.symm with q|q<;>omega))).trans ((WO (YQ c o p.block Oo)).trans (h p i f))
def Dd (d:DSet) (z:Int):Int:=if EO d then (if Z8 d z then 0 else 2) else 1
def BuG (R:Int) (w:Wd) (e:Ending) (w':Wd):Prop:=∃ v,e=.returned (.tuple #[v,.int .i64 R])/\Below w.1.size w w'
def OZ (d:DSet) (g:Nat) (r:Bz) (w:Wd) (hc:Cod w) (Z:Blk w g 9 #[.string r]):
  Calls prog 156 #[.agg (dC d).toArray,.int .i64 0,.slice (Ah g 0) 1 1] w (BuG (Dd d r.size) w):=by
 obtain ⟨i0,bC,bB,aP,aT⟩:=WG vp;have p:=Hd (Blk.new w 34 (dC d).toArray);have G:=Hd ((Bf w.1.size w).alloc (Le _) (.cells (dC d).toArray 34));have U:=Hd (Fq d (Aa w (dC d).toArray 34));have HG:=Hd Z;have HC:=Hd hc;unfold Dd;clear hc Z;cases O:EO d with
 |false=>
  rw [O] at U;clear O;go_in;go_wp2_with (first|(with_reducible refine yL 34 3 p.o ?_)|(go_at_call 146;refine yP U.o fun w2 a=>?_;have i:=Hd (U0 G.o a G.o.size);have s:=Hd (p.o.below a p.o.lt);clear a))
  go_ret2
  exact ⟨_,rfl,i.o⟩
 |true=>
  rw [O] at U;have HVB:=Hd O;clear O;have HN:Aw (∀ W,Calls prog 192 #[.int .i64 0] W (Ae W (.bool true))):=Hd fun W=>Tw 0 W
  have X:Aw (∀ W,Below w.1.size w W->Calls prog 193 #[.agg (dC d).toArray,.slice (Ah g 0) 1 1] W (Ab W (.bool (Z8 d r.size)))):=Hd fun W a=>MM d g r W (HG.o.below a HG.o.lt)
  cases R:Z8 d r.size with
  |false=>
   rw [R] at X;clear R;go_in;go_wp2_with (first|(with_reducible refine yL 34 3 (by first|exact s.o|exact p.o) ?_)|(go_at_call 146;refine yP U.o fun w2 a=>?_;have i:=Hd (U0 G.o a G.o.size);have s:=Hd (p.o.below a p.o.lt);clear a)|(go_at_call 192;refine yE (HN.o _) ?_)|(go_at_call 193;refine yP (X.o _ i.o) fun w4 a=>?_;have T:=Hd (U0 i.o a i.o.size);have cO:=Hd (s.o.below a s.o.lt);clear a))
   go_ret2
   exact ⟨_,rfl,T.o⟩
  |true=>
   rw [R] at X;have HRO:=Hd R;clear R;have HPK:Aw (∀ W,Below w.1.size w W->Calls prog 194 #[.agg (dC d).toArray,.int .i64 0,.slice (Ah g 0) 1 1] W (PaG 0 g W)):=Hd fun W a=>xo d 0 g r W (HC.o.after a) HVB.o HRO.o (HG.o.below a HG.o.lt)
   go_in
   go_wp2_with (first|(with_reducible refine yL 34 3 (by first|exact cO.o|exact s.o|exact p.o) ?_)|(go_at_call 146;refine yP U.o fun w2 a=>?_;have i:=Hd (U0 G.o a G.o.size);have s:=Hd (p.o.below a p.o.lt);clear a)|(go_at_call 192;refine yE (HN.o _) ?_)|(go_at_call 193;refine yP (X.o _ i.o) fun w4 a=>?_;have T:=Hd (U0 i.o a i.o.size);have cO:=Hd (s.o.below a s.o.lt);clear a)|(go_at_call 194;refine (HPK.o _ T.o).mono ?_;rintro e w5 ⟨A,n,c,E,rfl,B,a⟩;have aR:=Hd (U0 T.o a T.o.size);have bV:=Hd B;have cY:=Hd fun t=>Blk.new w5 252 t;have HS6:=Hd fun t=>U5 w5 t (ctC 0 (Ah g 0) 1 1 A n c E).toArray 252;have iE:Aw ((ctC 0 (Ah g 0) 1 1 A n c E).toArray.all (·.oneCell')=true):=Hd (by simp [ctC,Value.oneCell']);have bE:=Hd (aR.o.alloc aR.o.size (.cells (ctC 0 (Ah g 0) 1 1 A n c E).toArray 252));have D:=Hd (Blk.new w5 252 (ctC 0 (Ah g 0) 1 1 A n c E).toArray);have HH:=Hd (vv 0 (Ah g 0) 1 1 A n c E (Aa w5 (ctC 0 (Ah g 0) 1 1 A n c E).toArray 252) Ac Ac Ac B);clear a B)|(with_reducible refine yS 252 8 (cY.o _) iE.o ?_;rw [HS6.o])|(with_reducible refine yL 252 8 (by first|exact wS.o|exact D.o) ?_)|(go_at_call 195;refine HH.o.mono ?_;rintro e q ⟨y,v,he,a⟩;have he2:e=.returned (.agg #[.int .i64 y,.string v]):=he;clear he;subst he2;have fE:=Hd (U0 bE.o a bE.o.size);have HB8:=Hd (D.o.below a D.o.lt);have J:=Hd (fE.o.alloc fE.o.size (.cells #[.int .i64 y,.string v] 177));have wS:=Hd (HB8.o.alloc (.cells #[.int .i64 y,.string v] 177));have wK:Aw ((Aa q #[.int .i64 y,.string v] 177).ownsRow w.1.size 177 2 (.slice (Ah q.1.size 0) 1 1) 1 [.int .i64 y,.string v]):=Hd (WC q #[.int .i64 y,.string v] 1 fE.o.size Ac rfl);have HSC:=Hd (Qv 0 (Ah g 0) 1 1 A n c E (Aa q #[.int .i64 y,.string v] 177) bV.o);clear a)|(go_at_call 196;refine HSC.o.mono ?_;rintro e K ⟨A9,m,c9,L,rfl,bN,hm,Q,a⟩;have HX9:=Hd (U0 J.o a J.o.size);have bW:=Hd bN;have HM:=Hd hm;have wO:Aw (∀ b,A9=some b->q.1.size<b.block):=Hd (fun b h=>by have:=Q b h;simp at this;omega);have HO9:=Hd (Ub wK.o a);have HZ9:Aw (q.1.size<K.1.size):=Hd (by have:=a.size;simp at this;omega);clear bN hm Q a))
   clear h;have hm:=HM.o;go_loopw [9,34] (fun v9 C wr=>∃ (j:Nat) (xs:List Value),j<=m/\C=.int .i64 j/\wr.ownsRow w.1.size 177 2 v9 (j+1) xs/\(∀ k,v9.ownBlock=some k->k<=q.1.size\/K.1.size<=k)/\Below w.1.size w wr/\K.1.size<=wr.1.size/\FrB q.1.size K.1.size K wr) (fun _ C _=>m-(intOf C).toNat)
   .exact ⟨0,_,Z0 _,rfl,HO9.o,fun k l=>.inl (by injection l with l;subst l;exact Le _),HX9.o,Le _,fun _ _ _=>rfl⟩
   .obtain ⟨j,xs,hj,rfl,F,hob,iF,gT,hfr⟩:=hrel;obtain ⟨Y,rfl⟩:∃ z:Wd,z=wr:=⟨_,rfl⟩
    obtain ⟨A1,c1,rfl,fI,hcm⟩:=U4 F;have HO:=Hd F;have I:=Hd hob;have S:=Hd iF;have N:=Hd gT;have H:=Hd hfr;clear F hob iF gT hfr fI hcm;by_cases aE:j<m
    .obtain ⟨b,o,x,rfl,a,Z,aB⟩:=Sl.cell (f:=Ug) (k:=1) (fun _=>rfl) bW.o aE;have c0:Y.cell? ⟨b,o+j,none⟩=some (.string x):=(H.o ⟨b,o+j,none⟩ (wO.o ⟨b,o,none⟩ rfl) a).trans (by have h:=aB 0 _ rfl;simpa using h);have dM:=Hd (Yv Y [.int .i64 (1+(j:Int)),.string x] 177 1 2 rfl);have V:Aw (∀ u∈[Value.int .i64 (1+(j:Int)),.string x],u.oneCell'=true):=Hd (by simp [Value.oneCell']);clear a Z aB
     go_wp2_with (at_builtin;go_must (refine Ui _ rfl _ _ 130 rfl w.1.size 177 i0 _ 2 24 underlying130 bC bB aP aT rfl Ac (.slice A1 (j+1) c1) (j+1) xs rfl (HO.o.alloc _) (Y.1.size+1) (Ah Y.1.size 0) 1 1 [.int .i64 (1+(j:Int)),.string x] rfl dM.o V.o (by unfold maxLen;omega) Oo (by have:=S.o.size;simp;omega) ?_;intro v' w5' F aI M;have bX:=Hd F;have eH:=Hd aI;have fX:=Hd M;clear F aI M));go_roundw
     .have hz9:=N.o;have P:=(HO.o.alloc (.cells #[.int .i64 (1+(j:Int)),.string x] 177))
      refine ⟨j+1,_,Oo,Au,bX.o,fun k l=>?_,(S.o.alloc S.o.size _).grown eH.o (by have:=S.o.size;simp;omega) (U9 P (Le _)),Lx As eH.o.size,rX H.o N.o eH.o I.o⟩;rcases fX.o with e|e
      .exact I.o k (e▸l)
      .rw [e] at l;injection l with l
       subst l;exact .inr As
     .exact At
    .obtain rfl:j=m:=Oo
     go_wp2
     go_ret2
     exact ⟨_,rfl,S.o⟩
def Ue (d:DSet) (p:Pr):Bool:=if d.org=3 then ((ofF d p.rcd).2 == 0)&&((ofF d p.rcd).1.toList == p.key.toList)
 else if d.org=2 then IT p.key&&((p.rcd.size:Int) == d.len)
 else if d.org=1 then decide (1<=(p.rcd.size:Int))&&decide ((p.rcd.size:Int)<=d.len)
 else Dd d p.rcd.size == 0
structure DP (d:DSet) (p:Pr) (w W:Wd):Prop where
 b1:Blk W w.1.size 34 (dC d).toArray
 b2:Blk W (w.1.size+1) 74 (prC p).toArray
 be:Below w.1.size w W
def nU (d:DSet) (p:Pr) (w:Wd):DP d p w ((Aa w (dC d).toArray 34).alloc (.cells #[.string p.key,.string p.rcd] 74)):=
 ⟨(Blk.new w _ _).alloc _,U3 (w.alloc _) _ _ _ Am,Aj.alloc Am _⟩
def FW {d:DSet} {p:Pr} {w W W':Wd} (h:DP d p w W) (a:Below W.1.size W W'):DP d p w W':=
 ⟨h.b1.below a h.b1.lt,h.b2.below a h.b2.lt,U0 h.be a h.be.size⟩
def kw {G:Prop} (h:G:=by
  go_in;go_wp2_with (first|(with_reducible refine yL 34 2 HD.o.b1 ?_)|(go_at_call 154;refine yP HK.o fun w2 hb=>?_;have bH:=Hd (FW HD.o hb);have e0:=bH.o.b2.ce 0 (.string p.key);clear hb c1 c3 d0 d1));go_ret;exact ⟨by rw [kz];simp,bH.o.be⟩):G:=h
def Js (d:DSet) (p:Pr) (w:Wd) (u:Cod w) (t:p.rcd.size<=maxLen):
  Calls prog 106 #[.agg (dC d).toArray,.agg #[.string p.key,.string p.rcd]] w (Ab w (.bool (Ue d p))):=by
 have HD:=Hd (nU d p w);have B:=Hd u;have j:=Hd t;clear u t;have c1:=HD.o.b1.ce 1 (.int .i64 d.org);have c3:=HD.o.b1.ce 3 (.int .i64 d.len);have d0:=HD.o.b2.ce 0 (.string p.key);have d1:=HD.o.b2.ce 1 (.string p.rcd);unfold Ue;by_cases a:d.org=3
 .rw [QK a];have A:(d.org == 3)=true:=by simpa using a
  have HK:=Hd (Og d p.rcd ((Aa w (dC d).toArray 34).alloc (.cells #[.string p.key,.string p.rcd] 74)) j);generalize ofF d p.rcd=o at HK ⊢;obtain ⟨E,k⟩:=o;simp only at HK ⊢;clear a;by_cases hz:k=0
  .have kz:(k == 0)=true:=by simpa using hz
   clear hz;exact kw
  .have kz:(k == 0)=false:=by simpa using hz
   clear hz;exact kw
 rw [QX a];have A:(d.org == 3)=false:=by simpa using a
 by_cases b:d.org=2
 .rw [QK b];have C:(d.org == 2)=true:=by simpa using b
  have f:=Hd (GN p.key ((Aa w (dC d).toArray 34).alloc (.cells #[.string p.key,.string p.rcd] 74)));unfold IT;generalize Uc p.key=o at f ⊢;obtain ⟨n,z⟩:=o;simp only at f ⊢;clear a b;cases z with
  |false=>
   go_in;go_wp2_with (first|(with_reducible refine yL 34 2 HD.o.b1 ?_)|(go_at_call 155;refine yP f fun w2 hb=>?_;have bH:=Hd (FW HD hb);have l:=bH.o.b2.ce 1 (.string p.rcd);have m:=bH.o.b1.ce 3 (.int .i64 d.len);clear hb c1 c3 d0 d1));go_ret;exact ⟨Am,bH.o.be⟩
  |true=>
   rcases (by omega:n<1\/1<=n) with i|i
   .go_in;go_wp2_with (first|(with_reducible refine yL 34 2 HD.o.b1 ?_)|(go_at_call 155;refine yP f fun w2 hb=>?_;have bH:=Hd (FW HD hb);have l:=bH.o.b2.ce 1 (.string p.rcd);have m:=bH.o.b1.ce 3 (.int .i64 d.len);clear hb c1 c3 d0 d1));go_ret
    exact ⟨by
     have q:decide (1<=n)=false:=QW Oo;rw [q];simp,bH.o.be⟩
   rcases (by omega:65536<n\/n<=65536) with r|r
   .go_in;go_wp2_with (first|(with_reducible refine yL 34 2 HD.o.b1 ?_)|(go_at_call 155;refine yP f fun w2 hb=>?_;have bH:=Hd (FW HD hb);have l:=bH.o.b2.ce 1 (.string p.rcd);have m:=bH.o.b1.ce 3 (.int .i64 d.len);clear hb c1 c3 d0 d1));go_ret
    exact ⟨by
     have q:decide (n<=65536)=false:=QW Oo;rw [q];simp,bH.o.be⟩
   .go_in;go_wp2_with (first|(with_reducible refine yL 34 2 HD.o.b1 ?_)|(go_at_call 155;refine yP f fun w2 hb=>?_;have bH:=Hd (FW HD hb);have l:=bH.o.b2.ce 1 (.string p.rcd);have m:=bH.o.b1.ce 3 (.int .i64 d.len);clear hb c1 c3 d0 d1));go_ret;exact ⟨by simp [i,r],bH.o.be⟩
 rw [QX b];have C:(d.org == 2)=false:=by simpa using b
 by_cases c:d.org=1
 .rw [QK c];have x:(d.org == 1)=true:=by simpa using c
  clear a b c;by_cases i:p.rcd.size=0
  .have q1:¬ ((1:Int)<=(p.rcd.size:Int)):=Oo
   have y:¬ (1<=p.rcd.size):=Oo
   go_in;go_wp2_with (first|(with_reducible refine yL 34 2 HD.o.b1 ?_));go_ret;exact ⟨Am,HD.o.be⟩
  .have q1:(1:Int)<=(p.rcd.size:Int):=Oo
   have y:1<=p.rcd.size:=Oo
   clear i;go_in;go_wp2_with (first|(with_reducible refine yL 34 2 HD.o.b1 ?_));go_ret;exact ⟨by simp [q1],HD.o.be⟩
 rw [QX c];have x:(d.org == 1)=false:=by simpa using c
 have g:=Hd (OZ d (w.1.size+2) p.rcd (((Aa w (dC d).toArray 34).alloc (.cells #[.string p.key,.string p.rcd] 74)).alloc (.cells #[.string p.rcd] 9)) ((B.o.after HD.o.be).after Aj) (U3 ((w.alloc _).alloc _) _ _ _ Am));have s:=Hd (HD.o.be.alloc HD.o.be.size (.cells #[.string p.rcd] 9));generalize Dd d p.rcd.size=R at g ⊢;clear a b c;go_in;go_wp2_with (first|(with_reducible refine yL 34 2 HD.o.b1 ?_)|(go_at_call 156;refine g.o.mono ?_;rintro e w2 ⟨v,rfl,hb⟩;have D:=Hd (U0 s hb s.o.size);clear hb));go_ret;exact ⟨rfl,D⟩
end Go.Proofs.YtdleakjejodjjaaGreatDoor
